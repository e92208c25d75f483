/- No condition. -/
import Derived.Test.YtkgpjibbdpikcaaGreatDoorK3
import Derived.Test.YtkgpjibbdpikcaaGreatDoorProg
set_option linter.unusedVariables false
set_option linter.unusedSimpArgs false
set_option maxRecDepth 100000
namespace Go.Proofs.YtkgpjibbdpikcaaGreatDoor
noncomputable section
open Go Go.Ref bu
abbrev y0:Go.Ref.Ty:=(.pair (.sl 116 (.pair .str (.pair .str .unit))) .unit)
abbrev y1:Go.Ref.Ty:=(.pair (.sl 96 (.pair (.int .i64) (.pair .str .unit))) .unit)
abbrev y2:Go.Ref.Ty:=(.pair (.sl 90 (.pair (.int .i64) (.pair .str .unit))) .unit)
abbrev y3:Go.Ref.Ty:=(.pair (.int .i64) (.pair (.int .i64) (.pair (.int .i64) .unit)))
abbrev y4:Go.Ref.Ty:=(.pair .str y0)
abbrev y5:Go.Ref.Ty:=(.pair .str y2)
abbrev y6:Go.Ref.Ty:=(.pair (.int .i64) y3)
abbrev y7:Go.Ref.Ty:=(.pair (.int .i64) y4)
abbrev y8:Go.Ref.Ty:=(.pair (.sl 3 (.int .i64)) y1)
abbrev y9:Go.Ref.Ty:=(.pair (.int .i64) y6)
abbrev y10:Go.Ref.Ty:=(.pair (.int .i64) y7)
abbrev y11:Go.Ref.Ty:=(.pair (.sl 87 y9) .unit)
abbrev fC:Go.Ref.Ty:=(.pair (.int .i64) y10)
abbrev y13:Go.Ref.Ty:=(.pair (.int .i64) y11)
abbrev y14:Go.Ref.Ty:=(.pair (.sl 59 fC) .unit)
abbrev aT:Go.Ref.Ty:=(.pair (.int .i64) y13)
abbrev dK:Go.Ref.Ty:=(.pair (.sl 116 (.pair .str (.pair .str .unit))) y14)
abbrev y17:Go.Ref.Ty:=(.pair dK y8)
abbrev df:Go.Ref.Ty:=(.pair aT y17)
abbrev kX:Go.Ref.Ty:=(.pair (.arr 2 df) (.pair (.int .i64) .unit))
def CV:List (Option Ty):=[none,none,some (.int .i64),some (.int .i64),some .bool,some (.int .u8),some (.int .u8),some (.pair (.int .i64) (.pair (.int .i64) (.pair .bool (.pair (.int .u8) .unit)))),some (.pair (.int .i64) (.pair (.int .i64) (.pair .bool (.pair (.int .u8) .unit)))),some .str,some .str,some .str,some (.int .u64),none,none,none,none,none,none,none,none,some (.int .i32),some (.sl 87 y9),some aT,some aT,some (.sl 116 (.pair .str (.pair .str .unit))),some (.sl 59 fC),some dK,some dK,some (.sl 3 (.int .i64)),some (.sl 96 (.pair (.int .i64) (.pair .str .unit))),some df,some df,some (.arr 2 df),some kX,some kX,none,none,some (.int .i64),none,none,none,none,none,none,none,none,some (.sl 90 (.pair (.int .i64) (.pair .str .unit))),some y5,some y5,none,none,none,none,none,none,none,none,some fC,some fC,none,none,none,none,none,none,none,none,none,some (.pair (.int .i64) (.pair (.int .i64) .unit)),some (.pair (.int .i64) (.pair (.int .i64) .unit)),none,none,none,none,none,none,none,none,none,none,none,none,none,none,none,some y9,some y9,none,some (.pair (.int .i64) (.pair .str .unit)),some (.pair (.int .i64) (.pair .str .unit)),none,none,none,none,some (.pair (.int .i64) (.pair .str .unit)),some (.pair (.int .i64) (.pair .str .unit)),none,none,none,none,some (.int .u64),some (.pair (.int .u64) (.pair (.int .u64) .unit)),some (.pair (.int .u64) (.pair (.int .u64) .unit)),none,none,none,none,none,none,none,some (.sl 9 .str),none,none,none,some (.pair .str (.pair .str .unit)),some (.pair .str (.pair .str .unit)),none,none,none,none,none,none,none,some (.sl 24 aT),none,none,none,none,none,none,none,none,none,none,none,none,none,none,none,none,none,none,none,none,some (.sl 5 (.int .u8)),none,none,none,none,none,none,none,none,none,none,none,none,none,none,none,none,none,none,none,none,none,none,none,none,none,none,none,none,none,none,none,none,none,none,none,none,none,none,none,none,some (.sl 38 (.int .i64)),some (.sl 29 (.sl 3 (.int .i64))),none,none,none,none,none,none,none,none,none,none,none,none,none,none,some (.sl 245 (.pair (.int .i64) (.pair .str .unit))),none,none,none,none,none,none,none,none,none,none,some (.arr 8 (.int .u8)),none,none,none,none,none,none,none,none,none,none,none,none,none,none,none,none,none,none,none,none,none,none,none,none,none,none,none,none,none,none,some (.pair (.int .i64) (.pair .str .unit)),some (.pair (.int .i64) (.pair .str .unit)),none,none,some (.int .u64),none,none,none,none,none,none,none,none,none,none,none,none,some (.arr 256 .bool),some (.arr 256 .bool),none,none,none,none,some (.int .u32),none,none,none,none,none,none,none,none,some (.arr 256 (.int .u8)),some (.pair (.int .u8) (.pair (.int .u8) .unit)),some (.pair (.int .u8) (.pair (.int .u8) .unit)),some (.arr 16 (.pair (.int .u8) (.pair (.int .u8) .unit))),none,none,none,none,none,none,none,none,some (.int .u8),some (.int .u8),none,some (.int .i32),some (.int .i32),none,none]
def SE:List Nat:=[0,8,8,8,1,1,1,24,24,16,16,16,8,24,24,8,8,8,8,8,16,4,24,40,40,24,24,48,48,24,24,136,136,272,280,280,8,8,8,0,8,8,0,8,0,8,8,24,40,40,0,8,8,8,8,8,8,8,64,64,8,8,8,8,8,8,8,8,8,16,16,8,0,8,8,0,8,8,8,8,0,8,8,8,0,8,40,40,8,24,24,0,8,8,8,24,24,8,8,8,8,8,16,16,8,8,8,8,8,8,8,24,8,8,8,32,32,8,0,8,0,8,8,8,24,8,8,8,8,8,8,8,8,8,8,8,8,8,8,8,8,8,8,8,8,24,32,32,16,16,0,8,8,8,0,8,8,8,8,0,8,0,8,8,8,8,0,8,0,8,0,8,0,8,8,8,0,8,8,8,8,8,8,8,8,8,24,24,8,8,8,8,8,0,8,8,8,8,0,8,8,8,24,0,8,8,8,8,8,8,8,0,8,8,8,8,8,8,0,8,0,8,8,8,8,0,8,0,8,8,0,8,8,8,8,8,8,8,8,0,8,8,8,8,24,24,8,8,8,8,8,8,8,8,8,0,8,8,8,8,8,256,256,0,8,8,8,4,0,8,8,0,8,8,8,8,256,2,2,32,8,8,8,40,40,0,0,0,1,1,8,4,4,48,48]
def xZ:List Bool:=[false,false,false,false,false,false,false,false,false,false,false,false,false,false,false,true,true,true,false,false,false,false,false,false,false,false,false,false,false,false,false,false,false,false,false,false,false,false,false,false,false,false,false,false,false,false,false,false,false,false,false,false,false,false,false,false,false,false,false,false,false,false,false,false,false,false,false,false,false,false,false,false,false,false,false,false,false,false,false,false,false,false,false,false,false,false,false,false,false,false,false,false,false,false,false,false,false,false,false,false,false,false,false,false,false,false,false,false,false,false,false,false,false,false,false,false,false,false,false,false,false,false,false,false,false,false,false,false,false,false,false,false,false,false,false,false,false,false,false,false,false,false,false,false,true,false,false,false,false,false,false,false,false,false,false,false,false,false,false,false,false,false,false,false,false,false,false,false,false,false,false,false,false,false,false,false,false,false,false,false,false,false,false,false,false,false,false,false,false,false,false,false,false,false,false,false,false,false,false,false,false,false,false,false,false,false,false,false,false,false,false,false,false,false,false,false,false,true,false,false,false,false,false,false,false,false,false,false,false,false,false,false,false,false,false,false,false,false,false,false,false,false,false,false,false,false,false,false,false,false,false,false,false,false,false,false,false,false,false,false,false,false,false,false,false,false,true,false,false,false,false,false,false,false,false,false,false,false,false,false,false,false,false,false,false,false,false,false,false,false,false,false,false,false,false]
def MF:List (TypeId×TypeId×TypeId):=[(125,9,4),(253,3,4)]
def bX:n5:=⟨CV,SE,xZ,MF⟩
theorem So:bX.ok Tryz.prog=true:=by kernel_rfl
theorem ek:∀a b c d,ak Tryz.prog (bX.env a b c d):=n5.kI So
abbrev e0(ps:List Ty):Env:=bX.env (fun _=>[]) (fun _=>[]) [] ps
abbrev uS(n:Nat)(l:List (List SV)):List (List SV):=Nat.rec (motive:=fun _=>List (List SV)) l (fun _ r=>[.undef]::r) n
abbrev nS(n:Nat)(l:List (Option bm)):List (Option bm):=Nat.rec (motive:=fun _=>List (Option bm)) l (fun _ r=>none::r) n
def Me:ag:=ag.none
theorem o0:aI Tryz.prog Me:= .none (by kernel_rfl)
variable (R:Type) (kk k:Nat) (K:KF R) (J:KX R)
def Qs:Env:=bX.env (fun i=>bif Nat.beq i 3 then [0,3,4] else []) (fun i=>bif Nat.beq i 3 then [3] else []) [] [(.sl 9 .str)]
def N4(a:(List ByteArray))(b:aP)(c:Int):Option R:=av (ev Qs (Me R) kk (sub [1,1,0,1,0,0] (cd Tryz.f65))) [0,3,4] [3] k ⟨[.ah (.sl 9 .str) a []]::uS 2 ([.ah (.sl 116 (.pair .str (.pair .str .unit))) b [[]]]::[tI c]::uS 21 []),nS 27 []⟩ J
def zdr(a:aP):State:=⟨uS 3 ([.ah (.sl 116 (.pair .str (.pair .str .unit))) a [[]]]::uS 22 []),nS 27 []⟩
def ID:KX R:=(zk 0 (aH Qs (Me R) kk (sub [1,1,1] (cd Tryz.f65)) (aF Qs Tryz.f65.results.toList none K)))
theorem adC(a:(List ByteArray))(b:aP)(c:Int):N4 R kk (k+1) J a b c=
 zuy a b c (N4 R kk k J) (fun a0=>J (.exit 0) (zdr a0)):=by kernel_rfl
theorem Xt(a:aP):ID R kk K (.exit 0) (zdr a)=
 zuz a (fun a0=>K [.ah (.sl 116 (.pair .str (.pair .str .unit))) a0 []] none):=by kernel_rfl
theorem aau{kk:Nat}(hF:kk=ae)(jo:(List ByteArray))(t3:aP)(t4:Int):N4 R kk k J jo t3 t4=(N5 k jo t3 t4).bind fun e=>J (.exit 0) (zdr e):=by
 induction k generalizing jo t3 t4 with
 |zero=>rfl
 |succ k ih=>
  rw[adC]
  simp only[N5,zuy,ih,ax]
def Tb1:ag:=Me.add 65 [(.sl 9 .str)] (cG (.sl 9 .str) qD (fun _ r K=>K [.ah (.sl 116 (.pair .str (.pair .str .unit))) r []] none))
theorem o1:aI Tryz.prog Tb1:=cH Qs Tryz.f65 (fun R kk x0 K=>zux x0 (N4 R kk kk (ID R kk K))) o0 (ek _ _ _ _) Tryz.func65 (by kernel_rfl) rfl (fun _ _ _ _ _ _ h=>h _ _) (fun _ _ _ _=>by kernel_rfl) fun R kk e x0 K=>by
 simp only[qD,zux,zuz,aau (hF:=e),Xt,ax,<-e]
def afx:Env:=e0 []
def Mf:ag:=Tb1.add 129 [] (Aw yG (fun _ r K=>K [.ah (.sl 3 (.int .i64)) r [[]]] none))
theorem o2:aI Tryz.prog Mf:=CT afx Tryz.f129 (fun R kk K=>zty (fun a0=>K [.ah (.sl 3 (.int .i64)) a0 [[]]] none)) o1 (ek _ _ _ _) Tryz.func129 (by kernel_rfl) rfl (fun _ _ _ _ _ _ h=>h _ _) (fun _ _ _=>by kernel_rfl) fun R kk e K=>by
 simp only[yG,zty,ax]
def Qr:Env:={bX.env (fun i=>bif Nat.beq i 4 then [1,2,3] else []) (fun i=>bif Nat.beq i 4 then [1] else []) [] [] with mv:=[31]}
def N2(a:cn)(b:(List Int))(c:Int):Option R:=av (ev Qr (Mf R) kk (sub [1,1,1,0,1,0,0] (cd Tryz.f66))) [1,2,3] [1] k ⟨uS 1 ([.ah (.sl 59 fC) a [[]]]::[.ah (.sl 3 (.int .i64)) b [[]]]::[tI c]::uS 28 []),nS 33 []⟩ J
def zdq(a:cn):State:=⟨uS 1 ([.ah (.sl 59 fC) a [[]]]::uS 30 []),nS 33 []⟩
def IC:KX R:=(zk 0 (aH Qr (Mf R) kk (sub [1,1,1,1] (cd Tryz.f66)) (aF Qr Tryz.f66.results.toList none K)))
theorem adB(a:cn)(b:(List Int))(c:Int):N2 R kk (k+1) J a b c=
 zuv a b c (N2 R kk k J) (fun a0=>J (.exit 0) (zdq a0)):=by kernel_rfl
theorem Xs(a:cn):IC R kk K (.exit 0) (zdq a)=
 zuw a (fun a0=>K [.ah (.sl 59 fC) a0 [[]]] none):=by kernel_rfl
theorem aat{kk:Nat}(hF:kk=ae)(t1:cn)(t2:(List Int))(t3:Int):N2 R kk k J t1 t2 t3=(N3 k t1 t2 t3).bind fun e=>J (.exit 0) (zdq e):=by
 induction k generalizing t1 t2 t3 with
 |zero=>rfl
 |succ k ih=>
  rw[adB]
  simp only[N3,zuv,ih,ax]
def Mg:ag:=Mf.add 66 [] (Aw tJ (fun _ r K=>K [.ah (.sl 59 fC) r [[]]] none))
theorem o3:aI Tryz.prog Mg:=CT Qr Tryz.f66 (fun R kk K=>zuu (N2 R kk kk (IC R kk K))) o2 ((ek _ _ _ _).mv _) Tryz.func66 (by kernel_rfl) rfl (fun _ _ _ _ _ _ h=>h _ _) (fun _ _ _=>by kernel_rfl) fun R kk e K=>by
 simp only[tJ,zuu,zuw,aat (hF:=e),Xs,ax,<-e]
def Qm:Env:=bX.env (fun i=>bif Nat.beq i 3 then [0,3,4] else []) (fun i=>bif Nat.beq i 3 then [3] else []) [] [(.sl 116 (.pair .str (.pair .str .unit)))]
def NP(a b:aP)(c:Int):Option R:=av (ev Qm (Mg R) kk (sub [1,1,0,1,0,0] (cd Tryz.f67))) [0,3,4] [3] k ⟨[.ah (.sl 116 (.pair .str (.pair .str .unit))) a []]::uS 2 ([.ah (.sl 116 (.pair .str (.pair .str .unit))) b [[]]]::[tI c]::uS 22 []),nS 28 []⟩ J
def zdg(a:aP):State:=⟨uS 3 ([.ah (.sl 116 (.pair .str (.pair .str .unit))) a [[]]]::uS 23 []),nS 28 []⟩
def IB:KX R:=(zk 0 (aH Qm (Mg R) kk (sub [1,1,1] (cd Tryz.f67)) (aF Qm Tryz.f67.results.toList none K)))
theorem adw(a b:aP)(c:Int):NP R kk (k+1) J a b c=
 zud a b c (NP R kk k J) (fun a0=>J (.exit 0) (zdg a0)):=by kernel_rfl
theorem Xi(a:aP):IB R kk K (.exit 0) (zdg a)=
 zue a (fun a0=>K [.ah (.sl 116 (.pair .str (.pair .str .unit))) a0 []] none):=by kernel_rfl
theorem aao{kk:Nat}(hF:kk=ae)(jo t3:aP)(t4:Int):NP R kk k J jo t3 t4=(NQ k jo t3 t4).bind fun e=>J (.exit 0) (zdg e):=by
 induction k generalizing jo t3 t4 with
 |zero=>rfl
 |succ k ih=>
  rw[adw]
  simp only[NQ,zud,ih,ax]
def Tb4:ag:=Mg.add 67 [(.sl 116 (.pair .str (.pair .str .unit)))] (cG (.sl 116 (.pair .str (.pair .str .unit))) qC (fun _ r K=>K [.ah (.sl 116 (.pair .str (.pair .str .unit))) r []] none))
theorem o4:aI Tryz.prog Tb4:=cH Qm Tryz.f67 (fun R kk x0 K=>zuc x0 (NP R kk kk (IB R kk K))) o3 (ek _ _ _ _) Tryz.func67 (by kernel_rfl) rfl (fun _ _ _ _ _ _ h=>h _ _) (fun _ _ _ _=>by kernel_rfl) fun R kk e x0 K=>by
 simp only[qC,zuc,zue,aao (hF:=e),Xi,ax,<-e]
def afy:Env:=e0 []
def Mh:ag:=Tb4.add 130 [] (Aw yH (fun _ r K=>K [.ah (.sl 29 (.sl 3 (.int .i64))) r [[]]] none))
theorem o5:aI Tryz.prog Mh:=CT afy Tryz.f130 (fun R kk K=>zu2 (fun a0=>K [.ah (.sl 29 (.sl 3 (.int .i64))) a0 [[]]] none)) o4 (ek _ _ _ _) Tryz.func130 (by kernel_rfl) rfl (fun _ _ _ _ _ _ h=>h _ _) (fun _ _ _=>by kernel_rfl) fun R kk e K=>by
 simp only[yH,zu2,ax]
def Qf:Env:=bX.env (fun i=>bif Nat.beq i 4 then [0,2,3,4,5] else []) (fun i=>bif Nat.beq i 4 then [2,3] else []) [2] [(.int .i64)]
def NE(a:Int)(b:uK)(c:Int)(d e:ai):Option R:=av (ev Qf (Mh R) kk (sub [1,1,1,0,1,0,0] (cd Tryz.f68))) [0,2,3,4,5] [2,3] k ⟨[tI a]::uS 1 ([.ptr 3 aT []]::[.ptr 4 aT []]::[.ah (.sl 29 (.sl 3 (.int .i64))) b [[]]]::[tI c]::uS 52 []),nS 3 ((some ⟨aT,d,[[2]]⟩)::(some ⟨aT,e,[[2]]⟩)::nS 54 [])⟩ J
def zd9(a b:ai):State:=⟨uS 2 ([.ptr 3 aT []]::[.ptr 4 aT []]::uS 54 []),nS 3 ((some ⟨aT,a,[[2]]⟩)::(some ⟨aT,b,[[2]]⟩)::nS 54 [])⟩
def Iy:KX R:=(zk 0 (aH Qf (Mh R) kk (sub [1,1,1,1] (cd Tryz.f68)) (aF Qf Tryz.f68.results.toList none K)))
theorem adr(a:Int)(b:uK)(c:Int)(d e:ai):NE R kk (k+1) J a b c d e=
 zu0 a b c d e (NE R kk k J) (fun a0 a1=>J (.exit 0) (zd9 a0 a1)):=by kernel_rfl
theorem Xb(a b:ai):Iy R kk K (.exit 0) (zd9 a b)=
 zu1 a b (fun a0=>K [.ah aT a0 [[2]]] none):=by kernel_rfl
theorem aaj{kk:Nat}(hF:kk=ae)(kV:Int)(t4:uK)(t5:Int)(cX eZ:ai):NE R kk k J kV t4 t5 cX eZ=(NF k kV t4 t5 cX eZ).bind fun e=>J (.exit 0) (zd9 e.1 e.2):=by
 induction k generalizing kV t4 t5 cX eZ with
 |zero=>rfl
 |succ k ih=>
  rw[adr]
  simp only[NF,zu0,ih,ax]
def Tb6:ag:=Mh.add 68 [(.int .i64)] (cG (.int .i64) tG (fun _ r K=>K [.ah aT r [[2]]] none))
theorem o6:aI Tryz.prog Tb6:=cH Qf Tryz.f68 (fun R kk x0 K=>ztz x0 (NE R kk kk (Iy R kk K))) o5 (ek _ _ _ _) Tryz.func68 (by kernel_rfl) rfl (fun _ _ _ _ _ _ h=>h _ _) (fun _ _ _ _=>by kernel_rfl) fun R kk e x0 K=>by
 simp only[tG,ztz,zu1,aaj (hF:=e),Xb,ax,<-e]
def afE:Env:=e0 [.str,.str,.str]
def Tb7:ag:=Tb6.add 69 [.str,.str,.str] (jE .str .str .str tH (fun _ r K=>K [.ah (.sl 96 (.pair (.int .i64) (.pair .str .unit))) r [[]]] none))
theorem o7:aI Tryz.prog Tb7:=jV afE Tryz.f69 (fun R kk x0 x1 x2 K=>zut x0 x1 x2 (fun a0=>K [.ah (.sl 96 (.pair (.int .i64) (.pair .str .unit))) a0 [[]]] none)) o6 (ek _ _ _ _) Tryz.func69 (by kernel_rfl) rfl (fun _ _ _ _ _ _ h=>h _ _) (fun _ _ _ _ _ _=>by kernel_rfl) fun R kk e x0 x1 x2 K=>by
 simp only[tH,zut,ax]
def afB:Env:={bX.env (fun _=>[]) (fun _=>[]) [0] [] with sh:=[47,59]}
def Tb8:ag:=Tb7.add 26 [] (Aw yK (fun _ r K=>K [.ah kX r [[0,((1:Int)).toNat,3],[0,((1:Int)).toNat,2],[0,((1:Int)).toNat,0,2],[0,((0:Int)).toNat,3],[0,((0:Int)).toNat,0,2]]] none))
theorem o8:aI Tryz.prog Tb8:=CT afB Tryz.f26 (fun R kk K=>zus (fun a0=>K [.ah kX a0 [[0,((1:Int)).toNat,3],[0,((1:Int)).toNat,2],[0,((1:Int)).toNat,0,2],[0,((0:Int)).toNat,3],[0,((0:Int)).toNat,0,2]]] none)) o7 ((ek _ _ _ _).sh _) Tryz.func26 (by kernel_rfl) rfl (fun _ _ _ _ _ _ h=>h _ _) (fun _ _ _=>by kernel_rfl) fun R kk e K=>by
 simp only[yK,zus,ax]
def Eb:Env:=e0 [(.int .i64)]
def Tb9:ag:=Tb8.add 211 [(.int .i64)] (cG (.int .i64) wo (fun _ r K=>K [tI r] none))
theorem o9:aI Tryz.prog Tb9:=cH Eb Tryz.f211 (fun R kk x0 K=>QG x0 (fun a0=>K [tI a0] none)) o8 (ek _ _ _ _) Tryz.func211 (by kernel_rfl) rfl (fun _ _ _ _ _ _ h=>h _ _) (fun _ _ _ _=>by kernel_rfl) fun R kk e x0 K=>by
 simp only[wo,QG,ax]
def D7:Env:=e0 [(.int .i64)]
def ES:ag:=Tb9.add 186 [(.int .i64)] (cG (.int .i64) yL (fun _ r K=>K [tB r] none))
theorem TO:aI Tryz.prog ES:=cH D7 Tryz.f186 (fun R kk x0 K=>Qx x0 (fun a0=>K [tB a0] none)) o9 (ek _ _ _ _) Tryz.func186 (by kernel_rfl) rfl (fun _ _ _ _ _ _ h=>h _ _) (fun _ _ _ _=>by kernel_rfl) fun R kk e x0 K=>by
 simp only[yL,Qx,ax]
def afS:Env:=e0 [(.int .i64)]
def tZ:ag:=ES.add 202 [(.int .i64)] (cG (.int .i64) iP (fun _ r K=>K [tI r] none))
theorem TZ:aI Tryz.prog tZ:=cH afS Tryz.f202 (fun R kk x0 K=>K1 x0 (fun a0=>K [tI a0] none)) TO (ek _ _ _ _) Tryz.func202 (by kernel_rfl) rfl (fun _ _ _ _ _ _ h=>h _ _) (fun _ _ _ _=>by kernel_rfl) fun R kk e x0 K=>by
 simp only[iP,K1,ax]
def QD:Env:=bX.env (fun i=>bif Nat.beq i 3 then [3,5,6] else []) (fun i=>bif Nat.beq i 3 then [3] else []) [] [(.int .i64)]
def Ot(a b c:Int):Option R:=av (ev QD (tZ R) kk (sub [1,1,0,1,0,0] (cd Tryz.f187))) [3,5,6] [3] k ⟨uS 3 ([tI a]::uS 1 ([tI b]::[tI c]::uS 6 [])),nS 14 []⟩ J
def ze2(a:Int):State:=⟨uS 3 ([tI a]::uS 9 []),nS 14 []⟩
def II:KX R:=(zk 0 (aH QD (tZ R) kk (sub [1,1,1] (cd Tryz.f187)) (aF QD Tryz.f187.results.toList none K)))
theorem adK(a b c:Int):Ot R kk (k+1) J a b c=
 zvj a b c (Ot R kk k J) (fun a0=>J (.exit 0) (ze2 a0)):=by kernel_rfl
theorem XD(a:Int):II R kk K (.exit 0) (ze2 a)=
 zvk a (fun a0=>K [tI a0] none):=by kernel_rfl
theorem aaD{kk:Nat}(hF:kk=ae)(t3 t5 t6:Int):Ot R kk k J t3 t5 t6=(Ou k t3 t5 t6).bind fun e=>J (.exit 0) (ze2 e):=by
 induction k generalizing t3 t5 t6 with
 |zero=>rfl
 |succ k ih=>
  rw[adK]
  simp only[Ou,zvj,ih,ax]
def ET:ag:=tZ.add 187 [(.int .i64)] (cG (.int .i64) pj (fun _ r K=>K [tI r] none))
theorem Ub:aI Tryz.prog ET:=cH QD Tryz.f187 (fun R kk x0 K=>zvi x0 (Ot R kk kk (II R kk K))) TZ (ek _ _ _ _) Tryz.func187 (by kernel_rfl) rfl (fun _ _ _ _ _ _ h=>h _ _) (fun _ _ _ _=>by kernel_rfl) fun R kk e x0 K=>by
 simp only[pj,zvi,zvk,aaD (hF:=e),XD,ax,<-e]
def af6:Env:=e0 [y9]
def ua:ag:=ET.add 131 [y9] (cG y9 kB (fun _ r K=>K [tI r] none))
theorem Um:aI Tryz.prog ua:=cH af6 Tryz.f131 (fun R kk x0 K=>Pa x0 (fun a0=>K [tI a0] none)) Ub (ek _ _ _ _) Tryz.func131 (by kernel_rfl) rfl (fun _ _ _ _ _ _ h=>h _ _) (fun _ _ _ _=>by kernel_rfl) fun R kk e x0 K=>by
 simp only[kB,Pa,ax]
def QK:Env:=bX.env (fun i=>bif Nat.beq i 6 then [1,26,27,28] else []) (fun i=>bif Nat.beq i 6 then [2,3] else []) [] [aT]
def OX(a:fQ)(b c:Int)(d:ai):Option R:=av (ev QK (ua R) kk (sub [1,1,0,1,0,0] (cd Tryz.f72))) [1,26,27,28] [2,3] k ⟨uS 1 ([.ptr 2 aT []]::uS 24 ([.ah (.sl 87 y9) a []]::[tI b]::[tI c]::uS 26 [])),nS 2 ((some ⟨aT,d,[]⟩)::nS 53 [])⟩ J
def zeh(a b:Int):State:=⟨uS 2 ([tI a]::[tI b]::uS 51 []),nS 56 []⟩
def zei:State:=⟨uS 55 [],nS 56 []⟩
def zw4:KX R:=(zk 1 (aH QK (ua R) kk (sub [1,1,1] (cd Tryz.f72)) (aF QK Tryz.f72.results.toList none K)))
theorem adU(a:fQ)(b c:Int)(d:ai):OX R kk (k+1) J a b c d=
 K7 a b c d (fun a0 a1=>J .ret (zeh a0 a1)) (OX R kk k J) (J (.exit 1) (zei)):=by kernel_rfl
theorem XS(a b:Int):zw4 R kk K .ret (zeh a b)=
 OY a b (fun a0 a1=>K [tI a0,tI a1] none):=by kernel_rfl
theorem XT:zw4 R kk K (.exit 1) (zei)=
 OZ (fun a0 a1=>K [tI a0,tI a1] none):=by kernel_rfl
theorem aaN{kk:Nat}(hF:kk=ae)(t26:fQ)(t27 t28:Int)(ey:ai):OX R kk k J t26 t27 t28 ey=(yn k t26 t27 t28 ey).bind fun e=>(Sum.elim (fun(we:(Int×Int))=>J .ret (zeh we.1 we.2)) (fun(we:Unit)=>J (.exit 1) (zei)) e):=by
 induction k generalizing t26 t27 t28 ey with
 |zero=>rfl
 |succ k ih=>
  rw[adU]
  simp only[yn,K7,ih,ax]
def ub:ag:=ua.add 72 [aT] (cG aT lC (fun _ r K=>K [tI r.1,tI r.2] none))
theorem o14:aI Tryz.prog ub:=cH QK Tryz.f72 (fun R kk x0 K=>Di x0 (fun a0 a1=>K [tI a0,tI a1] none) (fun a0 a1 a2 a3=>OX R kk kk (zw4 R kk K) a0 a1 a2 a3)) Um (ek _ _ _ _) Tryz.func72 (by kernel_rfl) rfl (fun _ _ _ _ _ _ h=>h _ _) (fun _ _ _ _=>by kernel_rfl) fun R kk e x0 K=>by
 simp only[lC,Vs,OY,OZ,aaN (hF:=e),XS,XT,ax,<-e]
def QL:Env:=bX.env (fun i=>bif Nat.beq i 2 then [1,4,9,10,11] else []) (fun i=>bif Nat.beq i 2 then [4,5] else []) [4] [aT,(.int .i64)]
def O0(a:Int)(b:fQ)(c d:Int)(e:aj):Option R:=av (ev QL (ub R) kk (sub [1,0,1,0,0] (cd Tryz.f73))) [1,4,9,10,11] [4,5] k ⟨uS 1 ([tI a]::uS 2 ([.ptr 5 y9 []]::uS 4 ([.ah (.sl 87 y9) b []]::[tI c]::[tI d]::uS 10 []))),nS 5 ((some ⟨y9,e,[]⟩)::nS 17 [])⟩ J
def zej(a:Bool)(b:aj):State:=⟨uS 4 ([.ptr 5 y9 []]::[tB a]::uS 16 []),nS 5 ((some ⟨y9,b,[]⟩)::nS 17 [])⟩
def zek(a:aj):State:=⟨uS 4 ([.ptr 5 y9 []]::uS 17 []),nS 5 ((some ⟨y9,a,[]⟩)::nS 17 [])⟩
def zw5:KX R:=(zk 0 (aH QL (ub R) kk (sub [1,1] (cd Tryz.f73)) (aF QL Tryz.f73.results.toList none K)))
theorem adV(a:Int)(b:fQ)(c d:Int)(e:aj):O0 R kk (k+1) J a b c d e=
 zw6 a b c d e (fun a0 a1=>J .ret (zej a0 a1)) (O0 R kk k J) (fun a0=>J (.exit 0) (zek a0)):=by kernel_rfl
theorem XU(a:Bool)(b:aj):zw5 R kk K .ret (zej a b)=
 zw7 a b (fun a0 a1=>K [.ah y9 a0 [],tB a1] none):=by kernel_rfl
theorem XV(a:aj):zw5 R kk K (.exit 0) (zek a)=
 zw8 a (fun a0 a1=>K [.ah y9 a0 [],tB a1] none):=by kernel_rfl
theorem aaO{kk:Nat}(hF:kk=ae)(eB:Int)(t9:fQ)(t10 t11:Int)(cF:aj):O0 R kk k J eB t9 t10 t11 cF=(K8 k eB t9 t10 t11 cF).bind fun e=>(Sum.elim (fun(we:(Bool×aj))=>J .ret (zej we.1 we.2)) (fun(we:aj)=>J (.exit 0) (zek we)) e):=by
 induction k generalizing eB t9 t10 t11 cF with
 |zero=>rfl
 |succ k ih=>
  rw[adV]
  simp only[K8,zw6,ih,ax]
def uc:ag:=ub.add 73 [aT,(.int .i64)] (cU aT (.int .i64) eP (fun _ r K=>K [.ah y9 r.1 [],tB r.2] none))
theorem o15:aI Tryz.prog uc:=cW QL Tryz.f73 (fun R kk x0 x1 K=>O1 x0 x1 (O0 R kk kk (zw5 R kk K))) o14 (ek _ _ _ _) Tryz.func73 (by kernel_rfl) rfl (fun _ _ _ _ _ _ h=>h _ _) (fun _ _ _ _ _=>by kernel_rfl) fun R kk e x0 x1 K=>by
 simp only[eP,O1,zw7,zw8,aaO (hF:=e),XU,XV,ax,<-e]
def QO:Env:=bX.env (fun i=>bif Nat.beq i 2 then [0,1,7,8] else []) (fun i=>bif Nat.beq i 2 then [4] else []) [] [(.sl 3 (.int .i64)),(.int .i64)]
def O8(a:(List Int))(b c d:Int):Option R:=av (ev QO (uc R) kk (sub [1,0,1,0,0] (cd Tryz.f188))) [0,1,7,8] [4] k ⟨[.ah (.sl 3 (.int .i64)) a []]::[tI b]::uS 5 ([tI c]::[tI d]::uS 10 []),nS 20 []⟩ J
def zep(a:Int):State:=⟨uS 4 ([tI a]::uS 14 []),nS 20 []⟩
def zeq:State:=⟨uS 19 [],nS 20 []⟩
def zwh:KX R:=(zk 0 (aH QO (uc R) kk (sub [1,1] (cd Tryz.f188)) (aF QO Tryz.f188.results.toList none K)))
theorem adY(a:(List Int))(b c d:Int):O8 R kk (k+1) J a b c d=
 zwi a b c d (fun a0=>J .ret (zep a0)) (O8 R kk k J) (J (.exit 0) (zeq)):=by kernel_rfl
theorem X2(a:Int):zwh R kk K .ret (zep a)=
 zwj a (fun a0=>K [tI a0] none):=by kernel_rfl
theorem X3:zwh R kk K (.exit 0) (zeq)=
 zwk (fun a0=>K [tI a0] none):=by kernel_rfl
theorem aaR{kk:Nat}(hF:kk=ae)(ri:(List Int))(Sz t7 t8:Int):O8 R kk k J ri Sz t7 t8=(Lb k ri Sz t7 t8).bind fun e=>(Sum.elim (fun(we:Int)=>J .ret (zep we)) (fun(we:Unit)=>J (.exit 0) (zeq)) e):=by
 induction k generalizing ri Sz t7 t8 with
 |zero=>rfl
 |succ k ih=>
  rw[adY]
  simp only[Lb,zwi,ih,ax]
def EU:ag:=uc.add 188 [(.sl 3 (.int .i64)),(.int .i64)] (cU (.sl 3 (.int .i64)) (.int .i64) tM (fun _ r K=>K [tI r] none))
theorem o16:aI Tryz.prog EU:=cW QO Tryz.f188 (fun R kk x0 x1 K=>O9 x0 x1 (O8 R kk kk (zwh R kk K))) o15 (ek _ _ _ _) Tryz.func188 (by kernel_rfl) rfl (fun _ _ _ _ _ _ h=>h _ _) (fun _ _ _ _ _=>by kernel_rfl) fun R kk e x0 x1 K=>by
 simp only[tM,O9,zwj,zwk,aaR (hF:=e),X2,X3,ax,<-e]
def af5:Env:=e0 [(.sl 3 (.int .i64)),(.int .i64)]
def EV:ag:=EU.add 132 [(.sl 3 (.int .i64)),(.int .i64)] (cU (.sl 3 (.int .i64)) (.int .i64) qT (fun _ r K=>K [tB r] none))
theorem o17:aI Tryz.prog EV:=cW af5 Tryz.f132 (fun R kk x0 x1 K=>O3 x0 x1 (fun a0=>K [tB a0] none)) o16 (ek _ _ _ _) Tryz.func132 (by kernel_rfl) rfl (fun _ _ _ _ _ _ h=>h _ _) (fun _ _ _ _ _=>by kernel_rfl) fun R kk e x0 x1 K=>by
 simp only[qT,O3,ax]
def afV:Env:=e0 [df,(.int .i64)]
def EW:ag:=EV.add 74 [df,(.int .i64)] (cU df (.int .i64) qP (fun _ r K=>K [tI r] none))
theorem o18:aI Tryz.prog EW:=cW afV Tryz.f74 (fun R kk x0 x1 K=>OM x0 x1 (fun a0=>K [tI a0] none)) o17 (ek _ _ _ _) Tryz.func74 (by kernel_rfl) rfl (fun _ _ _ _ _ _ h=>h _ _) (fun _ _ _ _ _=>by kernel_rfl) fun R kk e x0 x1 K=>by
 simp only[qP,OM,ax]
def afU:Env:=e0 [(.pair (.int .i64) (.pair .str .unit)),.unit]
def ud:ag:=EW.add 134 [(.pair (.int .i64) (.pair .str .unit)),.unit] (pz (.pair (.int .i64) (.pair .str .unit)) (.pair (.int .i64) (.pair .str .unit)) (.pair (.int .i64) (.pair .str .unit)) [] po (fun _ r K=>K [tB r.1] (some ⟨(.pair (.int .i64) (.pair .str .unit)),r.2,[]⟩)))
theorem o19:aI Tryz.prog ud:=sz afU Tryz.f134 (fun R kk x0 x1 K=>OL x0 x1 (fun a0 a1=>K [tB a0] (some ⟨(.pair (.int .i64) (.pair .str .unit)),a1,[]⟩))) o18 (ek _ _ _ _) Tryz.func134 (by kernel_rfl) rfl (fun _ _ _ _ _ _ h=>h _ _) (fun _ _ _ _ _=>by kernel_rfl) fun R kk e x0 x1 K=>by
 simp only[po,OL,ax]
def QM:Env:=bX.env (fun i=>bif Nat.beq i 2 then [0,1,7,8] else []) (fun i=>bif Nat.beq i 2 then [4] else []) [] [(.sl 96 (.pair (.int .i64) (.pair .str .unit))),.unit]
def O4(a:ar)(b c:Int)(d:cK):Option R:=av (ev QM (ud R) kk (sub [1,0,1,0,0] (cd Tryz.f189))) [0,1,7,8] [4] k ⟨[.ah (.sl 96 (.pair (.int .i64) (.pair .str .unit))) a []]::[.ptr 0 (.aV (.qc 134) (.pair (.int .i64) (.pair .str .unit)) .unit) []]::uS 5 ([tI b]::[tI c]::uS 10 []),(some ⟨(.pair (.int .i64) (.pair .str .unit)),d,[]⟩)::nS 19 []⟩ J
def zel(a:Int)(b:cK):State:=⟨uS 4 ([tI a]::uS 14 []),(some ⟨(.pair (.int .i64) (.pair .str .unit)),b,[]⟩)::nS 19 []⟩
def zem(a:cK):State:=⟨uS 19 [],(some ⟨(.pair (.int .i64) (.pair .str .unit)),a,[]⟩)::nS 19 []⟩
def zw9(a:cK):KX R:=(zk 0 (aH QM (ud R) kk (sub [1,1] (cd Tryz.f189)) (aF QM Tryz.f189.results.toList (some ⟨(.pair (.int .i64) (.pair .str .unit)),a,[]⟩) K)))
theorem adW(a:ar)(b c:Int)(d:cK):O4 R kk (k+1) J a b c d=
 zwa a b c d (fun a0 a1=>J .ret (zel a0 a1)) (O4 R kk k J) (fun a0=>J (.exit 0) (zem a0)):=by kernel_rfl
theorem XW(a:cK)(b:Int)(c:cK):zw9 R kk K a .ret (zel b c)=
 zwb b c (fun a0 a1=>K [tI a0] (some ⟨(.pair (.int .i64) (.pair .str .unit)),a1,[]⟩)):=by kernel_rfl
theorem XX(a b:cK):zw9 R kk K a (.exit 0) (zem b)=
 zwc b (fun a0 a1=>K [tI a0] (some ⟨(.pair (.int .i64) (.pair .str .unit)),a1,[]⟩)):=by kernel_rfl
theorem aaP{kk:Nat}(hF:kk=ae)(ri:ar)(t7 t8:Int)(recv:cK):O4 R kk k J ri t7 t8 recv=(K9 k ri t7 t8 recv).bind fun e=>(Sum.elim (fun(we:(Int×cK))=>J .ret (zel we.1 we.2)) (fun(we:cK)=>J (.exit 0) (zem we)) e):=by
 induction k generalizing ri t7 t8 recv with
 |zero=>rfl
 |succ k ih=>
  rw[adW]
  simp only[K9,zwa,ih,ax]
def EX:ag:=ud.add 189 [(.sl 96 (.pair (.int .i64) (.pair .str .unit))),.unit] (pz (.sl 96 (.pair (.int .i64) (.pair .str .unit))) (.aV (.qc 134) (.pair (.int .i64) (.pair .str .unit)) .unit) (.pair (.int .i64) (.pair .str .unit)) [] tL (fun _ r K=>K [tI r.1] (some ⟨(.pair (.int .i64) (.pair .str .unit)),r.2,[]⟩)))
theorem o20:aI Tryz.prog EX:=sz QM Tryz.f189 (fun R kk x0 x1 K=>O5 x0 x1 (O4 R kk kk (zw9 R kk K x1))) o19 (ek _ _ _ _) Tryz.func189 (by kernel_rfl) rfl (fun _ _ _ _ _ _ h=>h _ _) (fun _ _ _ _ _=>by kernel_rfl) fun R kk e x0 x1 K=>by
 simp only[tL,O5,zwb,zwc,aaP (hF:=e),XW,XX,ax,<-e]
def af4:Env:=e0 [(.sl 96 (.pair (.int .i64) (.pair .str .unit))),.unit]
def EY:ag:=EX.add 133 [(.sl 96 (.pair (.int .i64) (.pair .str .unit))),.unit] (pz (.sl 96 (.pair (.int .i64) (.pair .str .unit))) (.aV (.qc 134) (.pair (.int .i64) (.pair .str .unit)) .unit) (.pair (.int .i64) (.pair .str .unit)) [] qS (fun _ r K=>K [tB r.1] (some ⟨(.pair (.int .i64) (.pair .str .unit)),r.2,[]⟩)))
theorem o21:aI Tryz.prog EY:=sz af4 Tryz.f133 (fun R kk x0 x1 K=>O2 x0 x1 (fun a0 a1=>K [tB a0] (some ⟨(.pair (.int .i64) (.pair .str .unit)),a1,[]⟩))) o20 (ek _ _ _ _) Tryz.func133 (by kernel_rfl) rfl (fun _ _ _ _ _ _ h=>h _ _) (fun _ _ _ _ _=>by kernel_rfl) fun R kk e x0 x1 K=>by
 simp only[qS,O2,ax]
def Ea:Env:=e0 [(.int .u8)]
def ue:ag:=EY.add 212 [(.int .u8)] (cG (.int .u8) yM (fun _ r K=>K [tI r] none))
theorem o22:aI Tryz.prog ue:=cH Ea Tryz.f212 (fun R kk x0 K=>AN x0 (fun a0=>K [tI a0] none)) o21 (ek _ _ _ _) Tryz.func212 (by kernel_rfl) rfl (fun _ _ _ _ _ _ h=>h _ _) (fun _ _ _ _=>by kernel_rfl) fun R kk e x0 K=>by
 simp only[yM,AN,ax]
def nv:Env:=bX.env (fun i=>bif Nat.beq i 3 then [1,5,6] else []) (fun i=>bif Nat.beq i 3 then [4] else []) [] [(.int .i64),.str]
def Qt(a:ByteArray)(b c:Int):Option R:=av (ev nv (ue R) kk (sub [1,1,0,1,0,0] (cd Tryz.f190))) [1,5,6] [4] k ⟨uS 1 ([tS a]::uS 3 ([tI b]::[tI c]::uS 16 [])),nS 24 []⟩ J
def zmw(a:Int):State:=⟨uS 4 ([tI a]::uS 18 []),nS 24 []⟩
def zmx:State:=⟨uS 23 [],nS 24 []⟩
def AK:KX R:=(zk 0 (aH nv (ue R) kk (sub [1,1,1] (cd Tryz.f190)) (aF nv Tryz.f190.results.toList none K)))
theorem afG(a:ByteArray)(b c:Int):Qt R kk (k+1) J a b c=
 Lv a b c (fun a0=>J .ret (zmw a0)) (Qt R kk k J) (J (.exit 0) (zmx)):=by kernel_rfl
theorem aav(a:Int):AK R kk K .ret (zmw a)=
 AL a (fun a0=>K [tI a0] none):=by kernel_rfl
theorem aaw:AK R kk K (.exit 0) (zmx)=
 AM (fun a0=>K [tI a0] none):=by kernel_rfl
theorem adD{kk:Nat}(hF:kk=ae)(jU:ByteArray)(t5 t6:Int):Qt R kk k J jU t5 t6=(Cl k jU t5 t6).bind fun e=>(Sum.elim (fun(we:Int)=>J .ret (zmw we)) (fun(we:Unit)=>J (.exit 0) (zmx)) e):=by
 induction k generalizing jU t5 t6 with
 |zero=>rfl
 |succ k ih=>
  rw[afG]
  simp only[Cl,Lv,ih,ax]
def EZ:ag:=ue.add 190 [(.int .i64),.str] (cU (.int .i64) .str D6 (fun _ r K=>K [tI r] none))
theorem o23:aI Tryz.prog EZ:=cW nv Tryz.f190 (fun R kk x0 x1 K=>Qu x0 x1 (Qt R kk kk (AK R kk K))) o22 (ek _ _ _ _) Tryz.func190 (by kernel_rfl) rfl (fun _ _ _ _ _ _ h=>h _ _) (fun _ _ _ _ _=>by kernel_rfl) fun R kk e x0 x1 K=>by
 simp only[D6,Qu,AL,AM,adD (hF:=e),aav,aaw,ax,<-e]
def agf:Env:=e0 [(.int .i64)]
def E0:ag:=EZ.add 227 [(.int .i64)] (cG (.int .i64) mR (fun _ r K=>K [tB r] none))
theorem o24:aI Tryz.prog E0:=cH agf Tryz.f227 (fun R kk x0 K=>zwo x0 (fun a0=>K [tB a0] none)) o23 (ek _ _ _ _) Tryz.func227 (by kernel_rfl) rfl (fun _ _ _ _ _ _ h=>h _ _) (fun _ _ _ _=>by kernel_rfl) fun R kk e x0 K=>by
 simp only[mR,zwo,ax]
def age:Env:=e0 [(.int .i64)]
def E1:ag:=E0.add 228 [(.int .i64)] (cG (.int .i64) qY (fun _ r K=>K [tB r] none))
theorem o25:aI Tryz.prog E1:=cH age Tryz.f228 (fun R kk x0 K=>Pt x0 (fun a0=>K [tB a0] none)) o24 (ek _ _ _ _) Tryz.func228 (by kernel_rfl) rfl (fun _ _ _ _ _ _ h=>h _ _) (fun _ _ _ _=>by kernel_rfl) fun R kk e x0 K=>by
 simp only[qY,Pt,ax]
def agd:Env:=e0 [.str,(.int .i64)]
def E2:ag:=E1.add 213 [.str,(.int .i64)] (cU .str (.int .i64) qX (fun _ r K=>K [tI r.1,tI r.2.1,tI r.2.2] none))
theorem o26:aI Tryz.prog E2:=cW agd Tryz.f213 (fun R kk x0 x1 K=>Ps x0 x1 (fun a0 a1 a2=>K [tI a0,tI a1,tI a2] none)) o25 (ek _ _ _ _) Tryz.func213 (by kernel_rfl) rfl (fun _ _ _ _ _ _ h=>h _ _) (fun _ _ _ _ _=>by kernel_rfl) fun R kk e x0 x1 K=>by
 simp only[qX,Ps,ax]
def St:Env:=e0 [(.int .i64)]
def uf:ag:=E2.add 229 [(.int .i64)] (cG (.int .i64) Q4 (fun _ r K=>K [tI r] none))
theorem o27:aI Tryz.prog uf:=cH St Tryz.f229 (fun R kk x0 K=>nG x0 (fun a0=>K [tI a0] none)) o26 (ek _ _ _ _) Tryz.func229 (by kernel_rfl) rfl (fun _ _ _ _ _ _ h=>h _ _) (fun _ _ _ _=>by kernel_rfl) fun R kk e x0 K=>by
 simp only[Q4,nG,ax]
def tQ:Env:=bX.env (fun i=>bif Nat.beq i 14 then [0,1,7,8,44,45] else []) (fun i=>bif Nat.beq i 14 then [1,7,8] else []) [] [.str,(.int .i64)]
def nF(a:ByteArray)(b c d e f:Int):Option R:=av (ev tQ (uf R) kk (sub [1,1,1,1,1,1,1,0,1,0,0] (cd Tryz.f214))) [0,1,7,8,44,45] [1,7,8] k ⟨[tS a]::[tI b]::uS 5 ([tI c]::[tI d]::uS 35 ([tI e]::[tI f]::uS 21 [])),nS 68 []⟩ J
def zxg(a b c:Int):State:=⟨uS 1 ([tI a]::uS 5 ([tI b]::[tI c]::uS 58 [])),nS 68 []⟩
def ww:KX R:=(zk 0 (aH tQ (uf R) kk (sub [1,1,1,1,1,1,1,1] (cd Tryz.f214)) (aF tQ Tryz.f214.results.toList none K)))
theorem Er(a:ByteArray)(b c d e f:Int):nF R kk (k+1) J a b c d e f=
 j4 a b c d e f (nF R kk k J) (fun a0 a1 a2=>J (.exit 0) (zxg a0 a1 a2)):=by kernel_rfl
theorem aeg(a b c:Int):ww R kk K (.exit 0) (zxg a b c)=
 j5 a b c (fun a0 a1 a2=>K [tI a0,tI a1,tI a2] none):=by kernel_rfl
theorem ago{kk:Nat}(hF:kk=ae)(iW:ByteArray)(yW t7 t8 t44 t45:Int):nF R kk k J iW yW t7 t8 t44 t45=(dQ k iW yW t7 t8 t44 t45).bind fun e=>J (.exit 0) (zxg e.1 e.2.1 e.2.2):=by
 induction k generalizing iW yW t7 t8 t44 t45 with
 |zero=>rfl
 |succ k ih=>
  rw[Er]
  simp only[dQ,j4,ih,ax]
def ug:ag:=uf.add 214 [.str,(.int .i64)] (cU .str (.int .i64) Q3 (fun _ r K=>K [tI r.1,tI r.2.1,tI r.2.2] none))
theorem o28:aI Tryz.prog ug:=cW tQ Tryz.f214 (fun R kk x0 x1 K=>jZ x0 x1 (fun a0 a1 a2=>K [tI a0,tI a1,tI a2] none) (fun a0 a1 a2 a3 a4 a5=>nF R kk kk (ww R kk K) a0 a1 a2 a3 a4 a5)) o27 (ek _ _ _ _) Tryz.func214 (by kernel_rfl) rfl (fun _ _ _ _ _ _ h=>h _ _) (fun _ _ _ _ _=>by kernel_rfl) fun R kk e x0 x1 K=>by
 simp only[Q3,Wm,j5,ago (hF:=e),aeg,ax,<-e]
def QU:Env:=bX.env (fun i=>bif Nat.beq i 4 then [0,5,6,7,13] else []) (fun i=>bif Nat.beq i 4 then [2,3,4,5] else []) [] [.str]
def Pu(a:ByteArray)(b:ar)(c:Int)(d:yT):Option R:=av (ev QU (ug R) kk (sub [1,1,1,0,1,0,0] (cd Tryz.f191))) [0,5,6,7,13] [2,3,4,5] k ⟨[tS a]::uS 4 ([.ah (.sl 245 (.pair (.int .i64) (.pair .str .unit))) b [[]]]::[.ptr 14 (.aV .mp (.int .i64) .bool) []]::[tI c]::uS 5 ([.ptr 14 (.aV .mp (.int .i64) .bool) []]::uS 58 [])),nS 14 ((some ⟨(.aV .mp (.int .i64) .bool),d,[]⟩)::nS 58 [])⟩ J
def zew(a:ar)(b c:Int)(d:ar):State:=⟨uS 2 ([.ah (.sl 245 (.pair (.int .i64) (.pair .str .unit))) a [[]]]::[tI b]::[tI c]::[.ah (.sl 245 (.pair (.int .i64) (.pair .str .unit))) d [[]]]::uS 66 []),nS 73 []⟩
def zex(a:ar):State:=⟨uS 5 ([.ah (.sl 245 (.pair (.int .i64) (.pair .str .unit))) a [[]]]::uS 66 []),nS 73 []⟩
def zwp:KX R:=(zk 0 (aH QU (ug R) kk (sub [1,1,1,1] (cd Tryz.f191)) (aF QU Tryz.f191.results.toList none K)))
theorem ad3(a:ByteArray)(b:ar)(c:Int)(d:yT):Pu R kk (k+1) J a b c d=
 Pw a b c d (fun a0 a1 a2 a3=>J .ret (zew a0 a1 a2 a3)) (Pu R kk k J) (fun a0=>J (.exit 0) (zex a0)):=by kernel_rfl
theorem X8(a:ar)(b c:Int)(d:ar):zwp R kk K .ret (zew a b c d)=
 zwq a b c d (fun a0 a1 a2=>K [.ah (.sl 245 (.pair (.int .i64) (.pair .str .unit))) a0 [[]],tI a1,tI a2] none):=by kernel_rfl
theorem X9(a:ar):zwp R kk K (.exit 0) (zex a)=
 zwr a (fun a0 a1 a2=>K [.ah (.sl 245 (.pair (.int .i64) (.pair .str .unit))) a0 [],tI a1,tI a2] none):=by kernel_rfl
theorem aaX{kk:Nat}(hF:kk=ae)(iW:ByteArray)(t5:ar)(t7:Int)(gQ:yT):Pu R kk k J iW t5 t7 gQ=(Dl k iW t5 t7 gQ).bind fun e=>(Sum.elim (fun(we:pC)=>J .ret (zew we.1 we.2.1 we.2.2.1 we.2.2.2)) (fun(we:ar)=>J (.exit 0) (zex we)) e):=by
 induction k generalizing iW t5 t7 gQ with
 |zero=>rfl
 |succ k ih=>
  rw[ad3]
  simp only[Dl,Pw,ih,ax]
def E3:ag:=ug.add 191 [.str] (cG .str qZ (fun _ r K=>(Sum.elim (fun(wr:iy)=>K [.ah (.sl 245 (.pair (.int .i64) (.pair .str .unit))) wr.1 [[]],tI wr.2.1,tI wr.2.2] none) (fun(wr:iy)=>K [.ah (.sl 245 (.pair (.int .i64) (.pair .str .unit))) wr.1 [],tI wr.2.1,tI wr.2.2] none) r)))
theorem o29:aI Tryz.prog E3:=cH QU Tryz.f191 (fun R kk x0 K=>Pv x0 (Pu R kk kk (zwp R kk K))) o28 (ek _ _ _ _) Tryz.func191 (by kernel_rfl) rfl (fun _ _ _ _ _ _ h=>Jp (fun _=>h _ _) (fun _=>h _ _)) (fun _ _ _ _=>by kernel_rfl) fun R kk e x0 K=>by
 simp only[qZ,Pv,zwq,zwr,aaX (hF:=e),X8,X9,ax,<-e]
def af7:Env:=e0 [y9,.str]
def E4:ag:=E3.add 135 [y9,.str] (cU y9 .str bB (fun _ r K=>K [tI r] none))
theorem o30:aI Tryz.prog E4:=cW af7 Tryz.f135 (fun R kk x0 x1 K=>Pb x0 x1 (fun a0=>K [tI a0] none)) o29 (ek _ _ _ _) Tryz.func135 (by kernel_rfl) rfl (fun _ _ _ _ _ _ h=>h _ _) (fun _ _ _ _ _=>by kernel_rfl) fun R kk e x0 x1 K=>by
 simp only[bB,Pb,ax]
def afT:Env:=e0 [df,(.int .i64),y9]
def pB:ag:=E4.add 75 [df,(.int .i64),y9] (jE df (.int .i64) y9 qO (fun _ r K=>K [tI r] none))
theorem o31:aI Tryz.prog pB:=jV afT Tryz.f75 (fun R kk x0 x1 x2 K=>OK x0 x1 x2 (fun a0=>K [tI a0] none)) o30 (ek _ _ _ _) Tryz.func75 (by kernel_rfl) rfl (fun _ _ _ _ _ _ h=>h _ _) (fun _ _ _ _ _ _=>by kernel_rfl) fun R kk e x0 x1 x2 K=>by
 simp only[qO,OK,ax]
def Cm:Env:=bX.env (fun i=>bif Nat.beq i 8 then [1,7,33,34] else bif Nat.beq i 16 then [1,7,11,46,47,48] else []) (fun i=>bif Nat.beq i 8 then [1,2,3,4,7] else bif Nat.beq i 16 then [1,2,3,4,11] else []) [] [df]
def OA(a b:Int)(c:aB)(d:aj):Option R:=av (ev Cm (pB R) kk (sub [1,1,1,1,0,1,0,0] (cd Tryz.f30))) [1,7,33,34] [1,2,3,4,7] k ⟨uS 1 ([.ptr 2 df []]::uS 5 ([.ptr 8 y9 []]::uS 25 ([tI a]::[tI b]::uS 38 []))),nS 2 ((some ⟨df,c,[]⟩)::nS 5 ((some ⟨y9,d,[]⟩)::nS 65 []))⟩ J
def ze4(a b c:Int)(d:aB)(e:aj):State:=⟨uS 1 ([.ptr 2 df []]::[tI a]::[tI b]::[tI c]::uS 2 ([.ptr 8 y9 []]::uS 65 [])),nS 2 ((some ⟨df,d,[]⟩)::nS 5 ((some ⟨y9,e,[]⟩)::nS 65 []))⟩
def ze5(a:aB)(b:aj):State:=⟨uS 1 ([.ptr 2 df []]::uS 5 ([.ptr 8 y9 []]::uS 65 [])),nS 2 ((some ⟨df,a,[]⟩)::nS 5 ((some ⟨y9,b,[]⟩)::nS 65 []))⟩
def zvm:KX R:=(zk 0 (aH Cm (pB R) kk (sub [1,1,1,1,1] (cd Tryz.f30)) (aF Cm Tryz.f30.results.toList none K)))
def OB(a:Bool)(b:ar)(c d:Int)(e:aB)(f:aj):Option R:=av (ev Cm (pB R) kk (sub [1,1,1,1,1,1,0,1,0,0] (cd Tryz.f30))) [1,7,11,46,47,48] [1,2,3,4,11] k ⟨uS 1 ([.ptr 2 df []]::uS 5 ([.ptr 8 y9 []]::uS 3 ([tB a]::uS 34 ([.ah (.sl 96 (.pair (.int .i64) (.pair .str .unit))) b []]::[tI c]::[tI d]::uS 24 [])))),nS 2 ((some ⟨df,e,[]⟩)::nS 5 ((some ⟨y9,f,[]⟩)::nS 65 []))⟩ J
def ze6(a b c:Int)(d:Bool)(e:aB):State:=⟨uS 1 ([.ptr 2 df []]::[tI a]::[tI b]::[tI c]::uS 6 ([tB d]::uS 61 [])),nS 2 ((some ⟨df,e,[]⟩)::nS 71 [])⟩
def ze7(a:Bool)(b:aB):State:=⟨uS 1 ([.ptr 2 df []]::uS 9 ([tB a]::uS 61 [])),nS 2 ((some ⟨df,b,[]⟩)::nS 71 [])⟩
def zvn:KX R:=(zk 2 (aH Cm (pB R) kk (sub [1,1,1,1,1,1,1] (cd Tryz.f30)) (aF Cm Tryz.f30.results.toList none K)))
theorem adM(a b:Int)(c:aB)(d:aj):OA R kk (k+1) J a b c d=
 K3 a b c d (fun a0 a1 a2 a3 a4=>J .ret (ze4 a0 a1 a2 a3 a4)) (OA R kk k J) (fun a0 a1=>J (.exit 0) (ze5 a0 a1)):=by kernel_rfl
theorem XF(a b c:Int)(d:aB)(e:aj):zvm R kk K .ret (ze4 a b c d e)=
 zvo a b c d e (fun a0 a1 a2=>K [tI a0,tI a1,tI a2] none):=by kernel_rfl
theorem XG(a:aB)(b:aj):zvm R kk K (.exit 0) (ze5 a b)=
 OD a b (OB R kk kk (zvn R kk K)):=by kernel_rfl
theorem adN(a:Bool)(b:ar)(c d:Int)(e:aB)(f:aj):OB R kk (k+1) J a b c d e f=
 K4 a b c d e f (fun a0 a1 a2 a3 a4=>J .ret (ze6 a0 a1 a2 a3 a4)) (OB R kk k J) (fun a0 a1=>J (.exit 2) (ze7 a0 a1)):=by kernel_rfl
theorem XH(a b c:Int)(d:Bool)(e:aB):zvn R kk K .ret (ze6 a b c d e)=
 zvp a b c d e (fun a0 a1 a2=>K [tI a0,tI a1,tI a2] none):=by kernel_rfl
theorem XI(a:Bool)(b:aB):zvn R kk K (.exit 2) (ze7 a b)=
 OE a b (fun a0 a1 a2=>K [tI a0,tI a1,tI a2] none):=by kernel_rfl
theorem aaF{kk:Nat}(hF:kk=ae)(t33 t34:Int)(ey:aB)(mZ:aj):OA R kk k J t33 t34 ey mZ=(B3 k t33 t34 ey mZ).bind fun e=>(Sum.elim (fun(we:(Int×Int×Int×aB×aj))=>J .ret (ze4 we.1 we.2.1 we.2.2.1 we.2.2.2.1 we.2.2.2.2)) (fun(we:(aB×aj))=>J (.exit 0) (ze5 we.1 we.2)) e):=by
 induction k generalizing t33 t34 ey mZ with
 |zero=>rfl
 |succ k ih=>
  rw[adM]
  simp only[B3,K3,ih,ax]
theorem aaG{kk:Nat}(hF:kk=ae)(t11:Bool)(t46:ar)(t47 t48:Int)(ey:aB)(mZ:aj):OB R kk k J t11 t46 t47 t48 ey mZ=(B4 k t11 t46 t47 t48 ey mZ).bind fun e=>(Sum.elim (fun(we:(Int×Int×Int×Bool×aB))=>J .ret (ze6 we.1 we.2.1 we.2.2.1 we.2.2.2.1 we.2.2.2.2)) (fun(we:(Bool×aB))=>J (.exit 2) (ze7 we.1 we.2)) e):=by
 induction k generalizing t11 t46 t47 t48 ey mZ with
 |zero=>rfl
 |succ k ih=>
  rw[adN]
  simp only[B4,K4,ih,ax]
def uh:ag:=pB.add 30 [df] (cG df qM (fun _ r K=>K [tI r.1,tI r.2.1,tI r.2.2] none))
theorem o32:aI Tryz.prog uh:=cH Cm Tryz.f30 (fun R kk x0 K=>OC x0 (fun a0 a1 a2=>K [tI a0,tI a1,tI a2] none) (OA R kk kk (zvm R kk K))) o31 (ek _ _ _ _) Tryz.func30 (by kernel_rfl) rfl (fun _ _ _ _ _ _ h=>h _ _) (fun _ _ _ _=>by kernel_rfl) fun R kk e x0 K=>by
 simp only[qM,OC,zvo,OD,zvp,OE,aaF (hF:=e),aaG (hF:=e),XF,XG,XH,XI,ax,<-e]
def nA:Env:=bX.env (fun i=>bif Nat.beq i 2 then [6] else []) (fun i=>bif Nat.beq i 2 then [2] else []) [] [.str]
def QY(a:lI):Option R:=av (ev nA (uh R) kk (sub [1,0,1,0,0] (cd Tryz.f199))) [6] [2] k ⟨uS 6 ([.ptr 7 (.aV .iter .unit .unit) []]::uS 9 []),nS 7 ((some ⟨(.aV .iter .unit .unit),a,[]⟩)::nS 9 [])⟩ J
def zn2(a:Bool):State:=⟨uS 2 ([tB a]::uS 13 []),nS 17 []⟩
def zn3:State:=⟨uS 16 [],nS 17 []⟩
def AV:KX R:=(zk 0 (aH nA (uh R) kk (sub [1,1] (cd Tryz.f199)) (aF nA Tryz.f199.results.toList none K)))
theorem agk(a:lI):QY R kk (k+1) J a=
 Ra a (fun a0=>J .ret (zn2 a0)) (QY R kk k J) (J (.exit 0) (zn3)):=by kernel_rfl
theorem aa6(a:Bool):AV R kk K .ret (zn2 a)=
 AW a (fun a0=>K [tB a0] none):=by kernel_rfl
theorem aa7:AV R kk K (.exit 0) (zn3)=
 AX (fun a0=>K [tB a0] none):=by kernel_rfl
theorem aec{kk:Nat}(hF:kk=ae)(gQ:lI):QY R kk k J gQ=(Dz k gQ).bind fun e=>(Sum.elim (fun(we:Bool)=>J .ret (zn2 we)) (fun(we:Unit)=>J (.exit 0) (zn3)) e):=by
 induction k generalizing gQ with
 |zero=>rfl
 |succ k ih=>
  rw[agk]
  simp only[Dz,Ra,ih,ax]
def E5:ag:=uh.add 199 [.str] (cG .str wu (fun _ r K=>K [tB r] none))
theorem o33:aI Tryz.prog E5:=cH nA Tryz.f199 (fun R kk x0 K=>QZ x0 (QY R kk kk (AV R kk K))) o32 (ek _ _ _ _) Tryz.func199 (by kernel_rfl) rfl (fun _ _ _ _ _ _ h=>h _ _) (fun _ _ _ _=>by kernel_rfl) fun R kk e x0 K=>by
 simp only[wu,QZ,AW,AX,aec (hF:=e),aa6,aa7,ax,<-e]
def afN:Env:=e0 [.str]
def E6:ag:=E5.add 153 [.str] (cG .str mO (fun _ r K=>K [tB r] none))
theorem o34:aI Tryz.prog E6:=cH afN Tryz.f153 (fun R kk x0 K=>On x0 (fun a0=>K [tB a0] none)) o33 (ek _ _ _ _) Tryz.func153 (by kernel_rfl) rfl (fun _ _ _ _ _ _ h=>h _ _) (fun _ _ _ _=>by kernel_rfl) fun R kk e x0 K=>by
 simp only[mO,On,ax]
def afO:Env:=e0 [.str]
def E7:ag:=E6.add 136 [.str] (cG .str iw (fun _ r K=>K [tI r.1,tB r.2] none))
theorem o35:aI Tryz.prog E7:=cH afO Tryz.f136 (fun R kk x0 K=>Oo x0 (fun a0 a1=>K [tI a0,tB a1] none)) o34 (ek _ _ _ _) Tryz.func136 (by kernel_rfl) rfl (fun _ _ _ _ _ _ h=>h _ _) (fun _ _ _ _=>by kernel_rfl) fun R kk e x0 K=>by
 simp only[iw,Oo,ax]
def afL:Env:=e0 [.str]
def E8:ag:=E7.add 137 [.str] (cG .str mN (fun _ r K=>K [tB r] none))
theorem o36:aI Tryz.prog E8:=cH afL Tryz.f137 (fun R kk x0 K=>Ol x0 (fun a0=>K [tB a0] none)) o35 (ek _ _ _ _) Tryz.func137 (by kernel_rfl) rfl (fun _ _ _ _ _ _ h=>h _ _) (fun _ _ _ _=>by kernel_rfl) fun R kk e x0 K=>by
 simp only[mN,Ol,ax]
def agj:Env:=e0 [(.pair .str (.pair .str .unit)),aT,aT]
def E9:ag:=E8.add 76 [(.pair .str (.pair .str .unit)),aT,aT] (jE (.pair .str (.pair .str .unit)) aT aT mU (fun _ r K=>K [tB r] none))
theorem o37:aI Tryz.prog E9:=jV agj Tryz.f76 (fun R kk x0 x1 x2 K=>PR x0 x1 x2 (fun a0=>K [tB a0] none)) o36 (ek _ _ _ _) Tryz.func76 (by kernel_rfl) rfl (fun _ _ _ _ _ _ h=>h _ _) (fun _ _ _ _ _ _=>by kernel_rfl) fun R kk e x0 x1 x2 K=>by
 simp only[mU,PR,ax]
def af1:Env:=bX.env (fun _=>[]) (fun _=>[]) [6,7] [fC,aT,aT]
def Fa:ag:=E9.add 138 [fC,aT,aT] (jE fC aT aT qR (fun _ r K=>K [.ah y9 r.1 [],.ah y9 r.2.1 [],tI r.2.2] none))
theorem o38:aI Tryz.prog Fa:=jV af1 Tryz.f138 (fun R kk x0 x1 x2 K=>OT x0 x1 x2 (fun a0 a1 a2=>K [.ah y9 a0 [],.ah y9 a1 [],tI a2] none)) o37 (ek _ _ _ _) Tryz.func138 (by kernel_rfl) rfl (fun _ _ _ _ _ _ h=>h _ _) (fun _ _ _ _ _ _=>by kernel_rfl) fun R kk e x0 x1 x2 K=>by
 simp only[qR,OT,ax]
def D9:Env:=e0 [(.int .i64),(.int .i64)]
def Fb:ag:=Fa.add 210 [(.int .i64),(.int .i64)] (cU (.int .i64) (.int .i64) D8 (fun _ r K=>K [tB r] none))
theorem o39:aI Tryz.prog Fb:=cW D9 Tryz.f210 (fun R kk x0 x1 K=>QC x0 x1 (fun a0=>K [tB a0] none)) o38 (ek _ _ _ _) Tryz.func210 (by kernel_rfl) rfl (fun _ _ _ _ _ _ h=>h _ _) (fun _ _ _ _ _=>by kernel_rfl) fun R kk e x0 x1 K=>by
 simp only[D8,QC,ax]
def af9:Env:=e0 [(.int .i64),(.int .i64)]
def Fc:ag:=Fb.add 185 [(.int .i64),(.int .i64)] (cU (.int .i64) (.int .i64) tN (fun _ r K=>K [tB r] none))
theorem o40:aI Tryz.prog Fc:=cW af9 Tryz.f185 (fun R kk x0 x1 K=>Pd x0 x1 (fun a0=>K [tB a0] none)) o39 (ek _ _ _ _) Tryz.func185 (by kernel_rfl) rfl (fun _ _ _ _ _ _ h=>h _ _) (fun _ _ _ _ _=>by kernel_rfl) fun R kk e x0 x1 K=>by
 simp only[tN,Pd,ax]
def af8:Env:=e0 [y9,y9]
def Fe:ag:=Fc.add 127 [y9,y9] (cU y9 y9 kC (fun _ r K=>K [tB r] none))
theorem o41:aI Tryz.prog Fe:=cW af8 Tryz.f127 (fun R kk x0 x1 K=>Pc x0 x1 (fun a0=>K [tB a0] none)) o40 (ek _ _ _ _) Tryz.func127 (by kernel_rfl) rfl (fun _ _ _ _ _ _ h=>h _ _) (fun _ _ _ _ _=>by kernel_rfl) fun R kk e x0 x1 K=>by
 simp only[kC,Pc,ax]
def af2:Env:=e0 [y9]
def ui:ag:=Fe.add 139 [y9] (cG y9 ix (fun _ r K=>K [tB r] none))
theorem o42:aI Tryz.prog ui:=cH af2 Tryz.f139 (fun R kk x0 K=>OU x0 (fun a0=>K [tB a0] none)) o41 (ek _ _ _ _) Tryz.func139 (by kernel_rfl) rfl (fun _ _ _ _ _ _ h=>h _ _) (fun _ _ _ _=>by kernel_rfl) fun R kk e x0 K=>by
 simp only[ix,OU,ax]
def nz:Env:=bX.env (fun i=>bif Nat.beq i 5 then [4,10,11,12,13] else []) (fun i=>bif Nat.beq i 5 then [2,3] else []) [] [(.sl 116 (.pair .str (.pair .str .unit)))]
def QS(a:aP)(b c:Int)(d:gk):Option R:=av (ev nz (ui R) kk (sub [1,1,1,0,1,0,0] (cd Tryz.f126))) [4,10,11,12,13] [2,3] k ⟨uS 4 ([.ptr 11 (.aV .mp .str .bool) []]::uS 5 ([.ptr 11 (.aV .mp .str .bool) []]::[.ah (.sl 116 (.pair .str (.pair .str .unit))) a []]::[tI b]::[tI c]::uS 13 [])),nS 11 ((some ⟨(.aV .mp .str .bool),d,[]⟩)::nS 16 [])⟩ J
def zn0(a b:Int):State:=⟨uS 2 ([tI a]::[tI b]::uS 23 []),nS 28 []⟩
def zn1:State:=⟨uS 27 [],nS 28 []⟩
def z119:KX R:=(zk 0 (aH nz (ui R) kk (sub [1,1,1,1] (cd Tryz.f126)) (aF nz Tryz.f126.results.toList none K)))
theorem agc(a:aP)(b c:Int)(d:gk):QS R kk (k+1) J a b c d=
 AQ a b c d (fun a0 a1=>J .ret (zn0 a0 a1)) (QS R kk k J) (J (.exit 0) (zn1)):=by kernel_rfl
theorem aaV(a b:Int):z119 R kk K .ret (zn0 a b)=
 AR a b (fun a0 a1=>K [tI a0,tI a1] none):=by kernel_rfl
theorem aaW:z119 R kk K (.exit 0) (zn1)=
 AU (fun a0 a1=>K [tI a0,tI a1] none):=by kernel_rfl
theorem ad2{kk:Nat}(hF:kk=ae)(t11:aP)(t12 t13:Int)(cF:gk):QS R kk k J t11 t12 t13 cF=(Lx k t11 t12 t13 cF).bind fun e=>(Sum.elim (fun(we:(Int×Int))=>J .ret (zn0 we.1 we.2)) (fun(we:Unit)=>J (.exit 0) (zn1)) e):=by
 induction k generalizing t11 t12 t13 cF with
 |zero=>rfl
 |succ k ih=>
  rw[agc]
  simp only[Lx,AQ,ih,ax]
def uk:ag:=ui.add 126 [(.sl 116 (.pair .str (.pair .str .unit)))] (cG (.sl 116 (.pair .str (.pair .str .unit))) Ee (fun _ r K=>K [tI r.1,tI r.2] none))
theorem o43:aI Tryz.prog uk:=cH nz Tryz.f126 (fun R kk x0 K=>QT x0 (fun a0 a1=>K [tI a0,tI a1] none) (QS R kk kk (z119 R kk K))) o42 (ek _ _ _ _) Tryz.func126 (by kernel_rfl) rfl (fun _ _ _ _ _ _ h=>h _ _) (fun _ _ _ _=>by kernel_rfl) fun R kk e x0 K=>by
 simp only[Ee,QT,AR,AU,ad2 (hF:=e),aaV,aaW,ax,<-e]
def QJ:Env:=bX.env (fun i=>bif Nat.beq i 5 then [4,5,25,26,27] else []) (fun i=>bif Nat.beq i 5 then [6] else []) [] [(.sl 116 (.pair .str (.pair .str .unit))),y9,y9]
def OV(a:aP)(b c:Int)(d e:aj):Option R:=av (ev QJ (uk R) kk (sub [1,1,0,1,0,0] (cd Tryz.f140))) [4,5,25,26,27] [6] k ⟨uS 4 ([.ptr 5 y9 []]::[.ptr 6 y9 []]::uS 19 ([.ah (.sl 116 (.pair .str (.pair .str .unit))) a []]::[tI b]::[tI c]::uS 18 [])),nS 5 ((some ⟨y9,d,[]⟩)::(some ⟨y9,e,[]⟩)::nS 40 [])⟩ J
def zef(a:Int):State:=⟨uS 6 ([tI a]::uS 39 []),nS 47 []⟩
def zeg:State:=⟨uS 46 [],nS 47 []⟩
def zw0:KX R:=(zk 0 (aH QJ (uk R) kk (sub [1,1,1] (cd Tryz.f140)) (aF QJ Tryz.f140.results.toList none K)))
theorem adT(a:aP)(b c:Int)(d e:aj):OV R kk (k+1) J a b c d e=
 zw1 a b c d e (fun a0=>J .ret (zef a0)) (OV R kk k J) (J (.exit 0) (zeg)):=by kernel_rfl
theorem XQ(a:Int):zw0 R kk K .ret (zef a)=
 zw2 a (fun a0=>K [tI a0] none):=by kernel_rfl
theorem XR:zw0 R kk K (.exit 0) (zeg)=
 zw3 (fun a0=>K [tI a0] none):=by kernel_rfl
theorem aaM{kk:Nat}(hF:kk=ae)(t25:aP)(t26 t27:Int)(cF fa:aj):OV R kk k J t25 t26 t27 cF fa=(K6 k t25 t26 t27 cF fa).bind fun e=>(Sum.elim (fun(we:Int)=>J .ret (zef we)) (fun(we:Unit)=>J (.exit 0) (zeg)) e):=by
 induction k generalizing t25 t26 t27 cF fa with
 |zero=>rfl
 |succ k ih=>
  rw[adT]
  simp only[K6,zw1,ih,ax]
def Ff:ag:=uk.add 140 [(.sl 116 (.pair .str (.pair .str .unit))),y9,y9] (jE (.sl 116 (.pair .str (.pair .str .unit))) y9 y9 lB (fun _ r K=>K [tI r] none))
theorem o44:aI Tryz.prog Ff:=jV QJ Tryz.f140 (fun R kk x0 x1 x2 K=>OW x0 x1 x2 (fun a0=>K [tI a0] none) (OV R kk kk (zw0 R kk K))) o43 (ek _ _ _ _) Tryz.func140 (by kernel_rfl) rfl (fun _ _ _ _ _ _ h=>h _ _) (fun _ _ _ _ _ _=>by kernel_rfl) fun R kk e x0 x1 x2 K=>by
 simp only[lB,OW,zw2,zw3,aaM (hF:=e),XQ,XR,ax,<-e]
def af0:Env:=e0 [fC,aT,aT]
def Fg:ag:=Ff.add 77 [fC,aT,aT] (jE fC aT aT mQ (fun _ r K=>K [tI r] none))
theorem o45:aI Tryz.prog Fg:=jV af0 Tryz.f77 (fun R kk x0 x1 x2 K=>OS x0 x1 x2 (fun a0=>K [tI a0] none)) o44 (ek _ _ _ _) Tryz.func77 (by kernel_rfl) rfl (fun _ _ _ _ _ _ h=>h _ _) (fun _ _ _ _ _ _=>by kernel_rfl) fun R kk e x0 x1 x2 K=>by
 simp only[mQ,OS,ax]
def Et:Env:=bX.env (fun _=>[]) (fun _=>[]) [2] [(.int .i64)]
def Fh:ag:=Fg.add 192 [(.int .i64)] (cG (.int .i64) CH (fun _ r K=>K [.ah (.pair (.int .u64) (.pair (.int .u64) .unit)) r []] none))
theorem o46:aI Tryz.prog Fh:=cH Et Tryz.f192 (fun R kk x0 K=>Rp x0 (fun a0=>K [.ah (.pair (.int .u64) (.pair (.int .u64) .unit)) a0 []] none)) o45 (ek _ _ _ _) Tryz.func192 (by kernel_rfl) rfl (fun _ _ _ _ _ _ h=>h _ _) (fun _ _ _ _=>by kernel_rfl) fun R kk e x0 K=>by
 simp only[CH,Rp,ax]
def Ek:Env:=bX.env (fun _=>[]) (fun _=>[]) [4] [(.pair (.int .u64) (.pair (.int .u64) .unit)),(.pair (.int .u64) (.pair (.int .u64) .unit))]
def Fi:ag:=Fh.add 80 [(.pair (.int .u64) (.pair (.int .u64) .unit)),(.pair (.int .u64) (.pair (.int .u64) .unit))] (cU (.pair (.int .u64) (.pair (.int .u64) .unit)) (.pair (.int .u64) (.pair (.int .u64) .unit)) re (fun _ r K=>K [.ah (.pair (.int .u64) (.pair (.int .u64) .unit)) r []] none))
theorem o47:aI Tryz.prog Fi:=cW Ek Tryz.f80 (fun R kk x0 x1 K=>Rl x0 x1 (fun a0=>K [.ah (.pair (.int .u64) (.pair (.int .u64) .unit)) a0 []] none)) o46 (ek _ _ _ _) Tryz.func80 (by kernel_rfl) rfl (fun _ _ _ _ _ _ h=>h _ _) (fun _ _ _ _ _=>by kernel_rfl) fun R kk e x0 x1 K=>by
 simp only[re,Rl,ax]
def Es:Env:=bX.env (fun _=>[]) (fun _=>[]) [4] [(.pair (.int .u64) (.pair (.int .u64) .unit)),(.int .i64)]
def um:ag:=Fi.add 141 [(.pair (.int .u64) (.pair (.int .u64) .unit)),(.int .i64)] (cU (.pair (.int .u64) (.pair (.int .u64) .unit)) (.int .i64) wy (fun _ r K=>K [.ah (.pair (.int .u64) (.pair (.int .u64) .unit)) r []] none))
theorem o48:aI Tryz.prog um:=cW Es Tryz.f141 (fun R kk x0 x1 K=>Ro x0 x1 (fun a0=>K [.ah (.pair (.int .u64) (.pair (.int .u64) .unit)) a0 []] none)) o47 (ek _ _ _ _) Tryz.func141 (by kernel_rfl) rfl (fun _ _ _ _ _ _ h=>h _ _) (fun _ _ _ _ _=>by kernel_rfl) fun R kk e x0 x1 K=>by
 simp only[wy,Ro,ax]
def nE:Env:=bX.env (fun i=>bif Nat.beq i 3 then [2,3,6,7,8] else []) (fun i=>bif Nat.beq i 3 then [2,3] else []) [2] [(.sl 3 (.int .i64))]
def Ri(a:(List Int))(b c:Int)(d e:ay):Option R:=av (ev nE (um R) kk (sub [1,1,0,1,0,0] (cd Tryz.f78))) [2,3,6,7,8] [2,3] k ⟨uS 2 ([.ptr 3 (.pair (.int .u64) (.pair (.int .u64) .unit)) []]::[.ptr 4 (.pair (.int .u64) (.pair (.int .u64) .unit)) []]::uS 2 ([.ah (.sl 3 (.int .i64)) a []]::[tI b]::[tI c]::uS 8 [])),nS 3 ((some ⟨(.pair (.int .u64) (.pair (.int .u64) .unit)),d,[]⟩)::(some ⟨(.pair (.int .u64) (.pair (.int .u64) .unit)),e,[]⟩)::nS 13 [])⟩ J
def zn6(a b:ay):State:=⟨uS 2 ([.ptr 3 (.pair (.int .u64) (.pair (.int .u64) .unit)) []]::[.ptr 4 (.pair (.int .u64) (.pair (.int .u64) .unit)) []]::uS 13 []),nS 3 ((some ⟨(.pair (.int .u64) (.pair (.int .u64) .unit)),a,[]⟩)::(some ⟨(.pair (.int .u64) (.pair (.int .u64) .unit)),b,[]⟩)::nS 13 [])⟩
def Jz:KX R:=(zk 0 (aH nE (um R) kk (sub [1,1,1] (cd Tryz.f78)) (aF nE Tryz.f78.results.toList none K)))
theorem agn(a:(List Int))(b c:Int)(d e:ay):Ri R kk (k+1) J a b c d e=
 Lz a b c d e (Ri R kk k J) (fun a0 a1=>J (.exit 0) (zn6 a0 a1)):=by kernel_rfl
theorem abb(a b:ay):Jz R kk K (.exit 0) (zn6 a b)=
 Rk a b (fun a0=>K [.ah (.pair (.int .u64) (.pair (.int .u64) .unit)) a0 []] none):=by kernel_rfl
theorem aef{kk:Nat}(hF:kk=ae)(t6:(List Int))(t7 t8:Int)(cX eZ:ay):Ri R kk k J t6 t7 t8 cX eZ=(yu k t6 t7 t8 cX eZ).bind fun e=>J (.exit 0) (zn6 e.1 e.2):=by
 induction k generalizing t6 t7 t8 cX eZ with
 |zero=>rfl
 |succ k ih=>
  rw[agn]
  simp only[yu,Lz,ih,ax]
def Fj:ag:=um.add 78 [(.sl 3 (.int .i64))] (cG (.sl 3 (.int .i64)) sW (fun _ r K=>K [.ah (.pair (.int .u64) (.pair (.int .u64) .unit)) r []] none))
theorem o49:aI Tryz.prog Fj:=cH nE Tryz.f78 (fun R kk x0 K=>Rj x0 (Ri R kk kk (Jz R kk K))) o48 (ek _ _ _ _) Tryz.func78 (by kernel_rfl) rfl (fun _ _ _ _ _ _ h=>h _ _) (fun _ _ _ _=>by kernel_rfl) fun R kk e x0 K=>by
 simp only[sW,Rj,Rk,aef (hF:=e),abb,ax,<-e]
def Ej:Env:=bX.env (fun _=>[]) (fun _=>[]) [4] [(.pair (.int .u64) (.pair (.int .u64) .unit)),(.pair (.int .u64) (.pair (.int .u64) .unit))]
def lH:ag:=Fj.add 79 [(.pair (.int .u64) (.pair (.int .u64) .unit)),(.pair (.int .u64) (.pair (.int .u64) .unit))] (cU (.pair (.int .u64) (.pair (.int .u64) .unit)) (.pair (.int .u64) (.pair (.int .u64) .unit)) p9 (fun _ r K=>K [.ah (.pair (.int .u64) (.pair (.int .u64) .unit)) r []] none))
theorem o50:aI Tryz.prog lH:=cW Ej Tryz.f79 (fun R kk x0 x1 K=>LA x0 x1 (fun a0=>K [.ah (.pair (.int .u64) (.pair (.int .u64) .unit)) a0 []] none)) o49 (ek _ _ _ _) Tryz.func79 (by kernel_rfl) rfl (fun _ _ _ _ _ _ h=>h _ _) (fun _ _ _ _ _=>by kernel_rfl) fun R kk e x0 x1 K=>by
 simp only[p9,LA,ax]
def tA:Env:=bX.env (fun i=>bif Nat.beq i 2 then [3,4,5,26,27,28] else bif Nat.beq i 12 then [3,4,5,13,46,48,49,50] else bif Nat.beq i 24 then [4,5,16,17,77,78,79] else []) (fun i=>bif Nat.beq i 2 then [3,4,5,6,7,8] else bif Nat.beq i 12 then [3,4,5,6,7,8] else bif Nat.beq i 24 then [6,7,8] else []) [] [dK,aT,aT]
def PB(a:mX)(b c:Int)(d:aE)(e f:ai):Option R:=av (ev tA (lH R) kk (sub [1,0,1,0,0] (cd Tryz.f31))) [3,4,5,26,27,28] [3,4,5,6,7,8] k ⟨uS 3 ([.ptr 4 dK []]::[.ptr 5 aT []]::[.ptr 6 aT []]::uS 20 ([.ah (.sl 24 aT) a [[]]]::[tI b]::[tI c]::uS 92 [])),nS 4 ((some ⟨dK,d,[]⟩)::(some ⟨aT,e,[]⟩)::(some ⟨aT,f,[]⟩)::nS 115 [])⟩ J
def zez(a b c:Int)(d:aE)(e f:ai):State:=⟨uS 3 ([.ptr 4 dK []]::[.ptr 5 aT []]::[.ptr 6 aT []]::[tI a]::[tI b]::[tI c]::uS 112 []),nS 4 ((some ⟨dK,d,[]⟩)::(some ⟨aT,e,[]⟩)::(some ⟨aT,f,[]⟩)::nS 115 [])⟩
def zf0(a:aE)(b c:ai):State:=⟨uS 3 ([.ptr 4 dK []]::[.ptr 5 aT []]::[.ptr 6 aT []]::uS 115 []),nS 4 ((some ⟨dK,a,[]⟩)::(some ⟨aT,b,[]⟩)::(some ⟨aT,c,[]⟩)::nS 115 [])⟩
def zwu:KX R:=(zk 0 (aH tA (lH R) kk (sub [1,1] (cd Tryz.f31)) (aF tA Tryz.f31.results.toList none K)))
def PC(a:aP)(b c:Int)(d:aE)(e f:ai)(g:gk):Option R:=av (ev tA (lH R) kk (sub [1,1,1,1,0,1,0,0] (cd Tryz.f31))) [3,4,5,13,46,48,49,50] [3,4,5,6,7,8] k ⟨uS 3 ([.ptr 4 dK []]::[.ptr 5 aT []]::[.ptr 6 aT []]::uS 7 ([.ptr 47 (.aV .mp .str .bool) []]::uS 32 ([.ptr 47 (.aV .mp .str .bool) []]::uS 1 ([.ah (.sl 116 (.pair .str (.pair .str .unit))) a []]::[tI b]::[tI c]::uS 70 [])))),nS 4 ((some ⟨dK,d,[]⟩)::(some ⟨aT,e,[]⟩)::(some ⟨aT,f,[]⟩)::nS 40 ((some ⟨(.aV .mp .str .bool),g,[]⟩)::nS 74 []))⟩ J
def zf1(a b c:Int)(d:aE)(e f:ai):State:=⟨uS 3 ([.ptr 4 dK []]::[.ptr 5 aT []]::[.ptr 6 aT []]::[tI a]::[tI b]::[tI c]::uS 112 []),nS 4 ((some ⟨dK,d,[]⟩)::(some ⟨aT,e,[]⟩)::(some ⟨aT,f,[]⟩)::nS 115 [])⟩
def zf2(a:aE)(b c:ai):State:=⟨uS 3 ([.ptr 4 dK []]::[.ptr 5 aT []]::[.ptr 6 aT []]::uS 115 []),nS 4 ((some ⟨dK,a,[]⟩)::(some ⟨aT,b,[]⟩)::(some ⟨aT,c,[]⟩)::nS 115 [])⟩
def zwv:KX R:=(zk 2 (aH tA (lH R) kk (sub [1,1,1,1,1] (cd Tryz.f31)) (aF tA Tryz.f31.results.toList none K)))
def PD(a:cn)(b c:Int)(d e:ai)(f g:ay):Option R:=av (ev tA (lH R) kk (sub [1,1,1,1,1,1,1,0,1,0,0] (cd Tryz.f31))) [4,5,16,17,77,78,79] [6,7,8] k ⟨uS 4 ([.ptr 5 aT []]::[.ptr 6 aT []]::uS 10 ([.ptr 17 (.pair (.int .u64) (.pair (.int .u64) .unit)) []]::[.ptr 18 (.pair (.int .u64) (.pair (.int .u64) .unit)) []]::uS 59 ([.ah (.sl 59 fC) a []]::[tI b]::[tI c]::uS 41 []))),nS 5 ((some ⟨aT,d,[]⟩)::(some ⟨aT,e,[]⟩)::nS 10 ((some ⟨(.pair (.int .u64) (.pair (.int .u64) .unit)),f,[]⟩)::(some ⟨(.pair (.int .u64) (.pair (.int .u64) .unit)),g,[]⟩)::nS 103 []))⟩ J
def zf3(a b c:Int):State:=⟨uS 6 ([tI a]::[tI b]::[tI c]::uS 112 []),nS 122 []⟩
def zf4:State:=⟨uS 121 [],nS 122 []⟩
def zww:KX R:=(zk 5 (aH tA (lH R) kk (sub [1,1,1,1,1,1,1,1] (cd Tryz.f31)) (aF tA Tryz.f31.results.toList none K)))
theorem ad5(a:mX)(b c:Int)(d:aE)(e f:ai):PB R kk (k+1) J a b c d e f=
 PF a b c d e f (fun a0 a1 a2 a3 a4 a5=>J .ret (zez a0 a1 a2 a3 a4 a5)) (PB R kk k J) (fun a0 a1 a2=>J (.exit 0) (zf0 a0 a1 a2)):=by kernel_rfl
theorem Yb(a b c:Int)(d:aE)(e f:ai):zwu R kk K .ret (zez a b c d e f)=
 zwx a b c d e f (fun a0 a1 a2=>K [tI a0,tI a1,tI a2] none):=by kernel_rfl
theorem Yc(a:aE)(b c:ai):zwu R kk K (.exit 0) (zf0 a b c)=
 PG a b c (fun a0 a1 a2=>K [tI a0,tI a1,tI a2] none) (PC R kk kk (zwv R kk K)):=by kernel_rfl
theorem ad6(a:aP)(b c:Int)(d:aE)(e f:ai)(g:gk):PC R kk (k+1) J a b c d e f g=
 zwy a b c d e f g (fun a0 a1 a2 a3 a4 a5=>J .ret (zf1 a0 a1 a2 a3 a4 a5)) (PC R kk k J) (fun a0 a1 a2=>J (.exit 2) (zf2 a0 a1 a2)):=by kernel_rfl
theorem Yd(a b c:Int)(d:aE)(e f:ai):zwv R kk K .ret (zf1 a b c d e f)=
 zwz a b c d e f (fun a0 a1 a2=>K [tI a0,tI a1,tI a2] none):=by kernel_rfl
theorem Ye(a:aE)(b c:ai):zwv R kk K (.exit 2) (zf2 a b c)=
 PH a b c (fun a0 a1 a2=>K [tI a0,tI a1,tI a2] none) (PD R kk kk (zww R kk K)):=by kernel_rfl
theorem ad7(a:cn)(b c:Int)(d e:ai)(f g:ay):PD R kk (k+1) J a b c d e f g=
 zx0 a b c d e f g (fun a0 a1 a2=>J .ret (zf3 a0 a1 a2)) (PD R kk k J) (J (.exit 5) (zf4)):=by kernel_rfl
theorem Yf(a b c:Int):zww R kk K .ret (zf3 a b c)=
 zx1 a b c (fun a0 a1 a2=>K [tI a0,tI a1,tI a2] none):=by kernel_rfl
theorem Yg:zww R kk K (.exit 5) (zf4)=
 zx2 (fun a0 a1 a2=>K [tI a0,tI a1,tI a2] none):=by kernel_rfl
theorem aaZ{kk:Nat}(hF:kk=ae)(t26:mX)(t27 t28:Int)(eZ:aE)(cF fa:ai):PB R kk k J t26 t27 t28 eZ cF fa=(Dm k t26 t27 t28 eZ cF fa).bind fun e=>(Sum.elim (fun(we:pF)=>J .ret (zez we.1 we.2.1 we.2.2.1 we.2.2.2.1 we.2.2.2.2.1 we.2.2.2.2.2)) (fun(we:pE)=>J (.exit 0) (zf0 we.1 we.2.1 we.2.2)) e):=by
 induction k generalizing t26 t27 t28 eZ cF fa with
 |zero=>rfl
 |succ k ih=>
  rw[ad5]
  simp only[Dm,PF,ih,ax]
theorem aa0{kk:Nat}(hF:kk=ae)(t48:aP)(t49 t50:Int)(eZ:aE)(cF fa:ai)(zA:gk):PC R kk k J t48 t49 t50 eZ cF fa zA=(Dn k t48 t49 t50 eZ cF fa zA).bind fun e=>(Sum.elim (fun(we:pF)=>J .ret (zf1 we.1 we.2.1 we.2.2.1 we.2.2.2.1 we.2.2.2.2.1 we.2.2.2.2.2)) (fun(we:pE)=>J (.exit 2) (zf2 we.1 we.2.1 we.2.2)) e):=by
 induction k generalizing t48 t49 t50 eZ cF fa zA with
 |zero=>rfl
 |succ k ih=>
  rw[ad6]
  simp only[Dn,zwy,ih,ax]
theorem aa1{kk:Nat}(hF:kk=ae)(t77:cn)(t78 t79:Int)(cF fa:ai)(iX zB:ay):PD R kk k J t77 t78 t79 cF fa iX zB=(Le k t77 t78 t79 cF fa iX zB).bind fun e=>(Sum.elim (fun(we:lJ)=>J .ret (zf3 we.1 we.2.1 we.2.2)) (fun(we:Unit)=>J (.exit 5) (zf4)) e):=by
 induction k generalizing t77 t78 t79 cF fa iX zB with
 |zero=>rfl
 |succ k ih=>
  rw[ad7]
  simp only[Le,zx0,ih,ax]
def uo:ag:=lH.add 31 [dK,aT,aT] (jE dK aT aT pu (fun _ r K=>K [tI r.1,tI r.2.1,tI r.2.2] none))
theorem o51:aI Tryz.prog uo:=jV tA Tryz.f31 (fun R kk x0 x1 x2 K=>PE x0 x1 x2 (PB R kk kk (zwu R kk K))) o50 (ek _ _ _ _) Tryz.func31 (by kernel_rfl) rfl (fun _ _ _ _ _ _ h=>h _ _) (fun _ _ _ _ _ _=>by kernel_rfl) fun R kk e x0 x1 x2 K=>by
 simp only[pu,PE,zwx,PG,zwz,PH,zx1,zx2,aaZ (hF:=e),aa0 (hF:=e),aa1 (hF:=e),Yb,Yc,Yd,Ye,Yf,Yg,ax,<-e]
def QF:Env:=bX.env (fun i=>bif Nat.beq i 4 then [1,22,23] else []) (fun i=>bif Nat.beq i 4 then [2,3,4] else []) [] [kX]
def ON(a:lK)(b:Int)(c:er):Option R:=av (ev QF (uo R) kk (sub [1,1,0,1,0,0] (cd Tryz.f11))) [1,22,23] [2,3,4] k ⟨uS 1 ([.ptr 2 kX []]::uS 20 ([.ah (.arr 2 df) a []]::[tI b]::uS 33 [])),nS 2 ((some ⟨kX,c,[]⟩)::nS 55 [])⟩ J
def zec(a b c:Int):State:=⟨uS 2 ([tI a]::[tI b]::[tI c]::uS 52 []),nS 58 []⟩
def zed:State:=⟨uS 57 [],nS 58 []⟩
def zvw:KX R:=(zk 0 (aH QF (uo R) kk (sub [1,1,1] (cd Tryz.f11)) (aF QF Tryz.f11.results.toList none K)))
theorem adQ(a:lK)(b:Int)(c:er):ON R kk (k+1) J a b c=
 Dh a b c (fun a0 a1 a2=>J .ret (zec a0 a1 a2)) (ON R kk k J) (J (.exit 0) (zed)):=by kernel_rfl
theorem XO(a b c:Int):zvw R kk K .ret (zec a b c)=
 zvx a b c (fun a0 a1 a2=>K [tI a0,tI a1,tI a2] none):=by kernel_rfl
theorem XP:zvw R kk K (.exit 0) (zed)=
 zvy (fun a0 a1 a2=>K [tI a0,tI a1,tI a2] none):=by kernel_rfl
theorem aaJ{kk:Nat}(hF:kk=ae)(t22:lK)(t23:Int)(ey:er):ON R kk k J t22 t23 ey=(B5 k t22 t23 ey).bind fun e=>(Sum.elim (fun(we:lJ)=>J .ret (zec we.1 we.2.1 we.2.2)) (fun(we:Unit)=>J (.exit 0) (zed)) e):=by
 induction k generalizing t22 t23 ey with
 |zero=>rfl
 |succ k ih=>
  rw[adQ]
  simp only[B5,Dh,ih,ax]
def Fk:ag:=uo.add 11 [kX] (cG kX pq (fun _ r K=>K [tI r.1,tI r.2.1,tI r.2.2] none))
theorem o52:aI Tryz.prog Fk:=cH QF Tryz.f11 (fun R kk x0 K=>OO x0 (fun a0 a1 a2=>K [tI a0,tI a1,tI a2] none) (ON R kk kk (zvw R kk K))) o51 (ek _ _ _ _) Tryz.func11 (by kernel_rfl) rfl (fun _ _ _ _ _ _ h=>h _ _) (fun _ _ _ _=>by kernel_rfl) fun R kk e x0 K=>by
 simp only[pq,OO,zvx,zvy,aaJ (hF:=e),XO,XP,ax,<-e]
def Ss:Env:=e0 [(.int .i64)]
def uq:ag:=Fk.add 163 [(.int .i64)] (cG (.int .i64) Q2 (fun _ r K=>K [tI r] none))
theorem o53:aI Tryz.prog uq:=cH Ss Tryz.f163 (fun R kk x0 K=>nC x0 (fun a0=>K [tI a0] none)) o52 (ek _ _ _ _) Tryz.func163 (by kernel_rfl) rfl (fun _ _ _ _ _ _ h=>h _ _) (fun _ _ _ _=>by kernel_rfl) fun R kk e x0 K=>by
 simp only[Q2,nC,ax]
def tF:Env:=bX.env (fun i=>bif Nat.beq i 7 then [0,1,7,30,31] else []) (fun i=>bif Nat.beq i 7 then [1,4,5,6,7] else []) [] [.str,(.int .i64)]
def nr(a:ByteArray)(b:Int)(c:(List Int))(d e:Int):Option R:=av (ev tF (uq R) kk (sub [1,1,1,0,1,0,0] (cd Tryz.f164))) [0,1,7,30,31] [1,4,5,6,7] k ⟨[tS a]::[tI b]::uS 5 ([.ah (.sl 5 (.int .u8)) c [[]]]::uS 22 ([tI d]::[tI e]::uS 43 [])),nS 76 []⟩ J
def ztr(a:Int)(b:ByteArray)(c d:Int)(e:(List Int)):State:=⟨uS 1 ([tI a]::uS 2 ([tS b]::[tI c]::[tI d]::[.ah (.sl 5 (.int .u8)) e [[]]]::uS 67 [])),nS 76 []⟩
def zts(a:Int)(b:(List Int)):State:=⟨uS 1 ([tI a]::uS 5 ([.ah (.sl 5 (.int .u8)) b [[]]]::uS 67 [])),nS 76 []⟩
def qv:KX R:=(zk 1 (aH tF (uq R) kk (sub [1,1,1,1] (cd Tryz.f164)) (aF tF Tryz.f164.results.toList none K)))
theorem DZ(a:ByteArray)(b:Int)(c:(List Int))(d e:Int):nr R kk (k+1) J a b c d e=
 lu a b c d e (fun a0 a1 a2 a3 a4=>J .ret (ztr a0 a1 a2 a3 a4)) (nr R kk k J) (fun a0 a1=>J (.exit 1) (zts a0 a1)):=by kernel_rfl
theorem adn(a:Int)(b:ByteArray)(c d:Int)(e:(List Int)):qv R kk K .ret (ztr a b c d e)=
 qw a b c d e (fun a0 a1 a2=>K [tS a0,tI a1,tI a2] none):=by kernel_rfl
theorem ado(a:Int)(b:(List Int)):qv R kk K (.exit 1) (zts a b)=
 nu a b (fun a0 a1 a2=>K [tS a0,tI a1,tI a2] none):=by kernel_rfl
theorem afu{kk:Nat}(hF:kk=ae)(iW:ByteArray)(sr:Int)(t7:(List Int))(t30 t31:Int):nr R kk k J iW sr t7 t30 t31=(gZ k iW sr t7 t30 t31).bind fun e=>(Sum.elim (fun(we:(Int×ByteArray×Int×Int×(List Int)))=>J .ret (ztr we.1 we.2.1 we.2.2.1 we.2.2.2.1 we.2.2.2.2)) (fun(we:(Int×(List Int)))=>J (.exit 1) (zts we.1 we.2)) e):=by
 induction k generalizing iW sr t7 t30 t31 with
 |zero=>rfl
 |succ k ih=>
  rw[DZ]
  simp only[gZ,lu,ih,ax]
def Fl:ag:=uq.add 164 [.str,(.int .i64)] (cU .str (.int .i64) Q0 (fun _ r K=>K [tS r.1,tI r.2.1,tI r.2.2] none))
theorem o54:aI Tryz.prog Fl:=cW tF Tryz.f164 (fun R kk x0 x1 K=>ns x0 x1 (fun a0 a1 a2=>K [tS a0,tI a1,tI a2] none) (nr R kk kk (qv R kk K))) o53 (ek _ _ _ _) Tryz.func164 (by kernel_rfl) rfl (fun _ _ _ _ _ _ h=>h _ _) (fun _ _ _ _ _=>by kernel_rfl) fun R kk e x0 x1 K=>by
 simp only[Q0,ns,qw,nu,afu (hF:=e),adn,ado,ax,<-e]
def aga:Env:=e0 [aT,.str]
def Fm:ag:=Fl.add 104 [aT,.str] (cU aT .str qV (fun _ r K=>K [tS r.1,tI r.2.1,tI r.2.2] none))
theorem o55:aI Tryz.prog Fm:=cW aga Tryz.f104 (fun R kk x0 x1 K=>Pg x0 x1 (fun a0 a1 a2=>K [tS a0,tI a1,tI a2] none)) o54 (ek _ _ _ _) Tryz.func104 (by kernel_rfl) rfl (fun _ _ _ _ _ _ h=>h _ _) (fun _ _ _ _ _=>by kernel_rfl) fun R kk e x0 x1 K=>by
 simp only[qV,Pg,ax]
def Sw:Env:=e0 [(.int .i64)]
def Fo:ag:=Fm.add 155 [(.int .i64)] (cG (.int .i64) Q9 (fun _ r K=>K [tB r] none))
theorem o56:aI Tryz.prog Fo:=cH Sw Tryz.f155 (fun R kk x0 K=>lG x0 (fun a0=>K [tB a0] none)) o55 (ek _ _ _ _) Tryz.func155 (by kernel_rfl) rfl (fun _ _ _ _ _ _ h=>h _ _) (fun _ _ _ _=>by kernel_rfl) fun R kk e x0 K=>by
 simp only[Q9,lG,ax]
def afF:Env:=e0 [(.int .u8)]
def ur:ag:=Fo.add 205 [(.int .u8)] (cG (.int .u8) qE (fun _ r K=>K [tI r.1,tB r.2] none))
theorem o57:aI Tryz.prog ur:=cH afF Tryz.f205 (fun R kk x0 K=>zv0 x0 (fun a0 a1=>K [tI a0,tB a1] none)) o56 (ek _ _ _ _) Tryz.func205 (by kernel_rfl) rfl (fun _ _ _ _ _ _ h=>h _ _) (fun _ _ _ _=>by kernel_rfl) fun R kk e x0 K=>by
 simp only[qE,zv0,ax]
def Qv:Env:=bX.env (fun i=>bif Nat.beq i 4 then [0,5,6,7] else []) (fun i=>bif Nat.beq i 4 then [0,2,3,4,5] else []) [] [.str]
def N6(a:ByteArray)(b:(List Int))(c d:Int):Option R:=av (ev Qv (ur R) kk (sub [1,1,1,0,1,0,0] (cd Tryz.f170))) [0,5,6,7] [0,2,3,4,5] k ⟨[tS a]::uS 4 ([.ah (.sl 5 (.int .u8)) b [[]]]::[tI c]::[tI d]::uS 44 []),nS 53 []⟩ J
def zdt(a b:ByteArray)(c:Int)(d:Bool)(e:(List Int)):State:=⟨[tS a]::uS 1 ([tS b]::[tI c]::[tB d]::[.ah (.sl 5 (.int .u8)) e [[]]]::uS 46 []),nS 53 []⟩
def zdu(a:ByteArray)(b:(List Int)):State:=⟨[tS a]::uS 4 ([.ah (.sl 5 (.int .u8)) b [[]]]::uS 46 []),nS 53 []⟩
def zv1:KX R:=(zk 0 (aH Qv (ur R) kk (sub [1,1,1,1] (cd Tryz.f170)) (aF Qv Tryz.f170.results.toList none K)))
theorem adE(a:ByteArray)(b:(List Int))(c d:Int):N6 R kk (k+1) J a b c d=
 KT a b c d (fun a0 a1 a2 a3 a4=>J .ret (zdt a0 a1 a2 a3 a4)) (N6 R kk k J) (fun a0 a1=>J (.exit 0) (zdu a0 a1)):=by kernel_rfl
theorem Xu(a b:ByteArray)(c:Int)(d:Bool)(e:(List Int)):zv1 R kk K .ret (zdt a b c d e)=
 zv2 a b c d e (fun a0 a1 a2=>K [tS a0,tI a1,tB a2] none):=by kernel_rfl
theorem Xv(a:ByteArray)(b:(List Int)):zv1 R kk K (.exit 0) (zdu a b)=
 N8 a b (fun a0 a1 a2=>K [tS a0,tI a1,tB a2] none):=by kernel_rfl
theorem aax{kk:Nat}(hF:kk=ae)(dO:ByteArray)(t5:(List Int))(t6 t7:Int):N6 R kk k J dO t5 t6 t7=(BX k dO t5 t6 t7).bind fun e=>(Sum.elim (fun(we:(ByteArray×ByteArray×Int×Bool×(List Int)))=>J .ret (zdt we.1 we.2.1 we.2.2.1 we.2.2.2.1 we.2.2.2.2)) (fun(we:(ByteArray×(List Int)))=>J (.exit 0) (zdu we.1 we.2)) e):=by
 induction k generalizing dO t5 t6 t7 with
 |zero=>rfl
 |succ k ih=>
  rw[adE]
  simp only[BX,KT,ih,ax]
def Fp:ag:=ur.add 170 [.str] (cG .str fP (fun _ r K=>K [tS r.1,tI r.2.1,tB r.2.2] none))
theorem o58:aI Tryz.prog Fp:=cH Qv Tryz.f170 (fun R kk x0 K=>N7 x0 (N6 R kk kk (zv1 R kk K))) o57 (ek _ _ _ _) Tryz.func170 (by kernel_rfl) rfl (fun _ _ _ _ _ _ h=>h _ _) (fun _ _ _ _=>by kernel_rfl) fun R kk e x0 K=>by
 simp only[fP,N7,zv2,N8,aax (hF:=e),Xu,Xv,ax,<-e]
def D0:Env:=bX.env (fun _=>[]) (fun _=>[]) [6] [(.int .i64),.str,(.int .i64)]
def uu:ag:=Fp.add 165 [(.int .i64),.str,(.int .i64)] (jE (.int .i64) .str (.int .i64) CF (fun _ r K=>K [.ah (.arr 8 (.int .u8)) r.1 [],tI r.2.1,tI r.2.2] none))
theorem o59:aI Tryz.prog uu:=jV D0 Tryz.f165 (fun R kk x0 x1 x2 K=>Qg x0 x1 x2 (fun a0 a1 a2=>K [.ah (.arr 8 (.int .u8)) a0 [],tI a1,tI a2] none)) o58 (ek _ _ _ _) Tryz.func165 (by kernel_rfl) rfl (fun _ _ _ _ _ _ h=>h _ _) (fun _ _ _ _ _ _=>by kernel_rfl) fun R kk e x0 x1 x2 K=>by
 simp only[CF,Qg,ax]
def tV:Env:=bX.env (fun i=>bif Nat.beq i 3 then [3,6,7] else []) (fun i=>bif Nat.beq i 3 then [3] else []) [] [(.arr 8 (.int .u8))]
def nT(a:Int)(b:(List Int))(c:Int):Option R:=av (ev tV (uu R) kk (sub [1,1,0,1,0,0] (cd Tryz.f166))) [3,6,7] [3] k ⟨uS 3 ([.ah (.int .u64) a []]::uS 2 ([.ah (.arr 8 (.int .u8)) b []]::[tI c]::uS 9 [])),nS 18 []⟩ J
def zxh(a:Int):State:=⟨uS 3 ([.ah (.int .u64) a []]::uS 13 []),nS 18 []⟩
def wE:KX R:=(zk 0 (aH tV (uu R) kk (sub [1,1,1] (cd Tryz.f166)) (aF tV Tryz.f166.results.toList none K)))
theorem ED(a:Int)(b:(List Int))(c:Int):nT R kk (k+1) J a b c=
 lD a b c (nT R kk k J) (fun a0=>J (.exit 0) (zxh a0)):=by kernel_rfl
theorem aes(a:Int):wE R kk K (.exit 0) (zxh a)=
 rf a (fun a0=>K [.ah (.int .u64) a0 []] none):=by kernel_rfl
theorem agD{kk:Nat}(hF:kk=ae)(t3:Int)(t6:(List Int))(t7:Int):nT R kk k J t3 t6 t7=(iT k t3 t6 t7).bind fun e=>J (.exit 0) (zxh e):=by
 induction k generalizing t3 t6 t7 with
 |zero=>rfl
 |succ k ih=>
  rw[ED]
  simp only[iT,lD,ih,ax]
def Fq:ag:=uu.add 166 [(.arr 8 (.int .u8))] (cG (.arr 8 (.int .u8)) Q7 (fun _ r K=>K [.ah (.int .u64) r []] none))
theorem o60:aI Tryz.prog Fq:=cH tV Tryz.f166 (fun R kk x0 K=>nU x0 (nT R kk kk (wE R kk K))) o59 (ek _ _ _ _) Tryz.func166 (by kernel_rfl) rfl (fun _ _ _ _ _ _ h=>h _ _) (fun _ _ _ _=>by kernel_rfl) fun R kk e x0 K=>by
 simp only[Q7,nU,rf,agD (hF:=e),aes,ax,<-e]
def Ei:Env:=bX.env (fun _=>[]) (fun _=>[]) [4] [(.int .u64),(.int .u64)]
def Fs:ag:=Fq.add 167 [(.int .u64),(.int .u64)] (cU (.int .u64) (.int .u64) Mb (fun _ r K=>K [.ah (.pair (.int .u64) (.pair (.int .u64) .unit)) r []] none))
theorem o61:aI Tryz.prog Fs:=cW Ei Tryz.f167 (fun R kk x0 x1 K=>AZ x0 x1 (fun a0=>K [.ah (.pair (.int .u64) (.pair (.int .u64) .unit)) a0 []] none)) o60 (ek _ _ _ _) Tryz.func167 (by kernel_rfl) rfl (fun _ _ _ _ _ _ h=>h _ _) (fun _ _ _ _ _=>by kernel_rfl) fun R kk e x0 x1 K=>by
 simp only[Mb,AZ,ax]
def Su:Env:=bX.env (fun _=>[]) (fun _=>[]) [6] [(.int .i64),.str,(.int .i64)]
def Ft:ag:=Fs.add 105 [(.int .i64),.str,(.int .i64)] (jE (.int .i64) .str (.int .i64) Q5 (fun _ r K=>K [.ah (.pair (.int .u64) (.pair (.int .u64) .unit)) r.1 [],tI r.2.1,tI r.2.2] none))
theorem o62:aI Tryz.prog Ft:=jV Su Tryz.f105 (fun R kk x0 x1 x2 K=>nH x0 x1 x2 (fun a0 a1 a2=>K [.ah (.pair (.int .u64) (.pair (.int .u64) .unit)) a0 [],tI a1,tI a2] none)) o61 (ek _ _ _ _) Tryz.func105 (by kernel_rfl) rfl (fun _ _ _ _ _ _ h=>h _ _) (fun _ _ _ _ _ _=>by kernel_rfl) fun R kk e x0 x1 x2 K=>by
 simp only[Q5,nH,ax]
def afI:Env:=e0 [(.int .u64)]
def Fu:ag:=Ft.add 203 [(.int .u64)] (cG (.int .u64) qF (fun _ r K=>K [tI r] none))
theorem o63:aI Tryz.prog Fu:=cH afI Tryz.f203 (fun R kk x0 K=>zv4 x0 (fun a0=>K [tI a0] none)) o62 (ek _ _ _ _) Tryz.func203 (by kernel_rfl) rfl (fun _ _ _ _ _ _ h=>h _ _) (fun _ _ _ _=>by kernel_rfl) fun R kk e x0 K=>by
 simp only[qF,zv4,ax]
def afH:Env:=e0 [(.int .u64)]
def Fv:ag:=Fu.add 168 [(.int .u64)] (cG (.int .u64) ly (fun _ r K=>K [tI r] none))
theorem o64:aI Tryz.prog Fv:=cH afH Tryz.f168 (fun R kk x0 K=>Oa x0 (fun a0=>K [tI a0] none)) o63 (ek _ _ _ _) Tryz.func168 (by kernel_rfl) rfl (fun _ _ _ _ _ _ h=>h _ _) (fun _ _ _ _=>by kernel_rfl) fun R kk e x0 K=>by
 simp only[ly,Oa,ax]
def Ep:Env:=e0 [(.pair (.int .u64) (.pair (.int .u64) .unit)),(.int .i64)]
def Fw:ag:=Fv.add 106 [(.pair (.int .u64) (.pair (.int .u64) .unit)),(.int .i64)] (cU (.pair (.int .u64) (.pair (.int .u64) .unit)) (.int .i64) CG (fun _ r K=>K [tI r] none))
theorem o65:aI Tryz.prog Fw:=cW Ep Tryz.f106 (fun R kk x0 x1 K=>Rn x0 x1 (fun a0=>K [tI a0] none)) o64 (ek _ _ _ _) Tryz.func106 (by kernel_rfl) rfl (fun _ _ _ _ _ _ h=>h _ _) (fun _ _ _ _ _=>by kernel_rfl) fun R kk e x0 x1 K=>by
 simp only[CG,Rn,ax]
def D5:Env:=e0 [(.int .i64)]
def Fx:ag:=Fw.add 160 [(.int .i64)] (cG (.int .i64) yJ (fun _ r K=>K [tB r] none))
theorem o66:aI Tryz.prog Fx:=cH D5 Tryz.f160 (fun R kk x0 K=>Lu x0 (fun a0=>K [tB a0] none)) o65 (ek _ _ _ _) Tryz.func160 (by kernel_rfl) rfl (fun _ _ _ _ _ _ h=>h _ _) (fun _ _ _ _=>by kernel_rfl) fun R kk e x0 K=>by
 simp only[yJ,Lu,ax]
def afR:Env:=e0 [(.int .i64),(.int .i64)]
def uv:ag:=Fx.add 200 [(.int .i64),(.int .i64)] (cU (.int .i64) (.int .i64) pn (fun _ r K=>K [tB r] none))
theorem o67:aI Tryz.prog uv:=cW afR Tryz.f200 (fun R kk x0 x1 K=>K0 x0 x1 (fun a0=>K [tB a0] none)) o66 (ek _ _ _ _) Tryz.func200 (by kernel_rfl) rfl (fun _ _ _ _ _ _ h=>h _ _) (fun _ _ _ _ _=>by kernel_rfl) fun R kk e x0 x1 K=>by
 simp only[pn,K0,ax]
def nB:Env:=bX.env (fun i=>bif Nat.beq i 5 then [4,20] else []) (fun i=>bif Nat.beq i 5 then [4] else []) [] [.str]
def Rb(a:Int)(b:lI):Option R:=av (ev nB (uv R) kk (sub [1,1,1,0,1,0,0] (cd Tryz.f204))) [4,20] [4] k ⟨uS 4 ([tI a]::uS 15 ([.ptr 21 (.aV .iter .unit .unit) []]::uS 10 [])),nS 21 ((some ⟨(.aV .iter .unit .unit),b,[]⟩)::nS 10 [])⟩ J
def zn4(a:Int):State:=⟨uS 4 ([tI a]::uS 26 []),nS 32 []⟩
def Jx:KX R:=(zk 0 (aH nB (uv R) kk (sub [1,1,1,1] (cd Tryz.f204)) (aF nB Tryz.f204.results.toList none K)))
theorem agl(a:Int)(b:lI):Rb R kk (k+1) J a b=
 Rd a b (Rb R kk k J) (fun a0=>J (.exit 0) (zn4 a0)):=by kernel_rfl
theorem aa8(a:Int):Jx R kk K (.exit 0) (zn4 a)=
 AY a (fun a0 a1=>K [tI a0,tB a1] none):=by kernel_rfl
theorem aed{kk:Nat}(hF:kk=ae)(t4:Int)(zG:lI):Rb R kk k J t4 zG=(DA k t4 zG).bind fun e=>J (.exit 0) (zn4 e):=by
 induction k generalizing t4 zG with
 |zero=>rfl
 |succ k ih=>
  rw[agl]
  simp only[DA,Rd,ih,ax]
def Fy:ag:=uv.add 204 [.str] (cG .str wv (fun _ r K=>K [tI r.1,tB r.2] none))
theorem o68:aI Tryz.prog Fy:=cH nB Tryz.f204 (fun R kk x0 K=>Rc x0 (fun a0 a1=>K [tI a0,tB a1] none) (Rb R kk kk (Jx R kk K))) o67 (ek _ _ _ _) Tryz.func204 (by kernel_rfl) rfl (fun _ _ _ _ _ _ h=>h _ _) (fun _ _ _ _=>by kernel_rfl) fun R kk e x0 K=>by
 simp only[wv,Rc,AY,aed (hF:=e),aa8,ax,<-e]
def afP:Env:=e0 [(.int .i64),(.int .i64),.str,(.int .i64)]
def Fz:ag:=Fy.add 169 [(.int .i64),(.int .i64),.str,(.int .i64)] (Ax (.int .i64) (.int .i64) .str (.int .i64) qK (fun _ r K=>K [tI r.1,tI r.2.1,tI r.2.2] none))
theorem o69:aI Tryz.prog Fz:=CU afP Tryz.f169 (fun R kk x0 x1 x2 x3 K=>Oq x0 x1 x2 x3 (fun a0 a1 a2=>K [tI a0,tI a1,tI a2] none)) o68 (ek _ _ _ _) Tryz.func169 (by kernel_rfl) rfl (fun _ _ _ _ _ _ h=>h _ _) (fun _ _ _ _ _ _ _=>by kernel_rfl) fun R kk e x0 x1 x2 x3 K=>by
 simp only[qK,Oq,ax]
def D4:Env:=e0 [(.int .i64),(.int .i64)]
def FA:ag:=Fz.add 162 [(.int .i64),(.int .i64)] (cU (.int .i64) (.int .i64) jX (fun _ r K=>K [tI r] none))
theorem o70:aI Tryz.prog FA:=cW D4 Tryz.f162 (fun R kk x0 x1 K=>Qp x0 x1 (fun a0=>K [tI a0] none)) o69 (ek _ _ _ _) Tryz.func162 (by kernel_rfl) rfl (fun _ _ _ _ _ _ h=>h _ _) (fun _ _ _ _ _=>by kernel_rfl) fun R kk e x0 x1 K=>by
 simp only[jX,Qp,ax]
def D2:Env:=e0 [(.int .i64),y9,.str,(.int .i64)]
def uw:ag:=FA.add 107 [(.int .i64),y9,.str,(.int .i64)] (Ax (.int .i64) y9 .str (.int .i64) D1 (fun _ r K=>K [tS r.1,tI r.2.1,tI r.2.2] none))
theorem o71:aI Tryz.prog uw:=CU D2 Tryz.f107 (fun R kk x0 x1 x2 x3 K=>Ql x0 x1 x2 x3 (fun a0 a1 a2=>K [tS a0,tI a1,tI a2] none)) o70 (ek _ _ _ _) Tryz.func107 (by kernel_rfl) rfl (fun _ _ _ _ _ _ h=>h _ _) (fun _ _ _ _ _ _ _=>by kernel_rfl) fun R kk e x0 x1 x2 x3 K=>by
 simp only[D1,Ql,ax]
def QP:Env:=bX.env (fun i=>bif Nat.beq i 13 then [1,2,4,5,6,10,12,13] else []) (fun i=>bif Nat.beq i 13 then [1,4,5,6,10] else []) [4,5] [aT,.str]
def Pe(a:ByteArray)(b c:Int)(d:ai)(e:af)(f:ay)(g:af)(h:ay):Option R:=av (ev QP (uw R) kk (sub [1,1,1,1,1,1,1,1,0,1,0,0] (cd Tryz.f39))) [1,2,4,5,6,10,12,13] [1,4,5,6,10] k ⟨uS 1 ([tS a]::[.ptr 3 aT []]::uS 1 ([.ptr 5 y5 []]::[.ptr 6 (.pair (.int .i64) (.pair (.int .i64) .unit)) []]::[.ptr 7 y5 []]::uS 3 ([tI b]::uS 1 ([.ptr 13 (.pair (.int .u64) (.pair (.int .u64) .unit)) []]::[tI c]::uS 93 [])))),nS 3 ((some ⟨aT,d,[]⟩)::nS 1 ((some ⟨y5,e,[[1]]⟩)::(some ⟨(.pair (.int .i64) (.pair (.int .i64) .unit)),f,[]⟩)::(some ⟨y5,g,[[1]]⟩)::nS 5 ((some ⟨(.pair (.int .u64) (.pair (.int .u64) .unit)),h,[]⟩)::nS 94 [])))⟩ J
def zer(a:ByteArray)(b:Int)(c:af)(d:ay)(e:af):State:=⟨uS 1 ([tS a]::uS 2 ([.ptr 5 y5 []]::[.ptr 6 (.pair (.int .i64) (.pair (.int .i64) .unit)) []]::[.ptr 7 y5 []]::uS 3 ([tI b]::uS 96 []))),nS 5 ((some ⟨y5,c,[[1]]⟩)::(some ⟨(.pair (.int .i64) (.pair (.int .i64) .unit)),d,[]⟩)::(some ⟨y5,e,[]⟩)::nS 100 [])⟩
def zes(a:ByteArray)(b:Int)(c:af)(d:ay)(e:af):State:=⟨uS 1 ([tS a]::uS 2 ([.ptr 5 y5 []]::[.ptr 6 (.pair (.int .i64) (.pair (.int .i64) .unit)) []]::[.ptr 7 y5 []]::uS 3 ([tI b]::uS 96 []))),nS 5 ((some ⟨y5,c,[[1]]⟩)::(some ⟨(.pair (.int .i64) (.pair (.int .i64) .unit)),d,[]⟩)::(some ⟨y5,e,[[1]]⟩)::nS 100 [])⟩
def zwl:KX R:=(zk 0 (aH QP (uw R) kk (sub [1,1,1,1,1,1,1,1,1] (cd Tryz.f39)) (aF QP Tryz.f39.results.toList none K)))
theorem adZ(a:ByteArray)(b c:Int)(d:ai)(e:af)(f:ay)(g:af)(h:ay):Pe R kk (k+1) J a b c d e f g h=
 Lc a b c d e f g h (fun a0 a1 a2 a3 a4=>J .ret (zer a0 a1 a2 a3 a4)) (Pe R kk k J) (fun a0 a1 a2 a3 a4=>J (.exit 0) (zes a0 a1 a2 a3 a4)):=by kernel_rfl
theorem X4(a:ByteArray)(b:Int)(c:af)(d:ay)(e:af):zwl R kk K .ret (zer a b c d e)=
 zwm a b c d e (fun a0 a1=>K [.ah y5 a0 [[1]],.ah (.pair (.int .i64) (.pair (.int .i64) .unit)) a1 []] none):=by kernel_rfl
theorem X5(a:ByteArray)(b:Int)(c:af)(d:ay)(e:af):zwl R kk K (.exit 0) (zes a b c d e)=
 zwn a b c d e (fun a0 a1=>K [.ah y5 a0 [[1]],.ah (.pair (.int .i64) (.pair (.int .i64) .unit)) a1 []] none):=by kernel_rfl
theorem aaS{kk:Nat}(hF:kk=ae)(yX:ByteArray)(t10 t13:Int)(cX:ai)(cF:af)(fa:ay)(gQ:af)(yZ:ay):Pe R kk k J yX t10 t13 cX cF fa gQ yZ=(B6 k yX t10 t13 cX cF fa gQ yZ).bind fun e=>(Sum.elim (fun(we:iz)=>J .ret (zer we.1 we.2.1 we.2.2.1 we.2.2.2.1 we.2.2.2.2)) (fun(we:iz)=>J (.exit 0) (zes we.1 we.2.1 we.2.2.1 we.2.2.2.1 we.2.2.2.2)) e):=by
 induction k generalizing yX t10 t13 cX cF fa gQ yZ with
 |zero=>rfl
 |succ k ih=>
  rw[adZ]
  simp only[B6,Lc,ih,ax]
def FB:ag:=uw.add 39 [aT,.str] (cU aT .str pr (fun _ r K=>K [.ah y5 r.1 [[1]],.ah (.pair (.int .i64) (.pair (.int .i64) .unit)) r.2 []] none))
theorem o72:aI Tryz.prog FB:=cW QP Tryz.f39 (fun R kk x0 x1 K=>Pf x0 x1 (fun a0 a1=>K [.ah y5 a0 [[1]],.ah (.pair (.int .i64) (.pair (.int .i64) .unit)) a1 []] none) (Pe R kk kk (zwl R kk K))) o71 (ek _ _ _ _) Tryz.func39 (by kernel_rfl) rfl (fun _ _ _ _ _ _ h=>h _ _) (fun _ _ _ _ _=>by kernel_rfl) fun R kk e x0 x1 K=>by
 simp only[pr,Pf,zwm,zwn,aaS (hF:=e),X4,X5,ax,<-e]
def afM:Env:=e0 [.str]
def ux:ag:=FB.add 92 [.str] (cG .str qJ (fun _ r K=>K [tS r.1,tB r.2] none))
theorem o73:aI Tryz.prog ux:=cH afM Tryz.f92 (fun R kk x0 K=>Om x0 (fun a0 a1=>K [tS a0,tB a1] none)) o72 (ek _ _ _ _) Tryz.func92 (by kernel_rfl) rfl (fun _ _ _ _ _ _ h=>h _ _) (fun _ _ _ _=>by kernel_rfl) fun R kk e x0 K=>by
 simp only[qJ,Om,ax]
def Qz:Env:=bX.env (fun i=>bif Nat.beq i 2 then [1,9,10,11] else []) (fun i=>bif Nat.beq i 2 then [4,5] else []) [] [y5,(.int .i64)]
def Od(a:Int)(b:ar)(c d:Int):Option R:=av (ev Qz (ux R) kk (sub [1,0,1,0,0] (cd Tryz.f93))) [1,9,10,11] [4,5] k ⟨uS 1 ([tI a]::uS 7 ([.ah (.sl 90 (.pair (.int .i64) (.pair .str .unit))) b []]::[tI c]::[tI d]::uS 10 [])),nS 23 []⟩ J
def zdy(a:ByteArray)(b:Bool):State:=⟨uS 4 ([tS a]::[tB b]::uS 16 []),nS 23 []⟩
def zdz:State:=⟨uS 22 [],nS 23 []⟩
def zv9:KX R:=(zk 0 (aH Qz (ux R) kk (sub [1,1] (cd Tryz.f93)) (aF Qz Tryz.f93.results.toList none K)))
theorem adH(a:Int)(b:ar)(c d:Int):Od R kk (k+1) J a b c d=
 zva a b c d (fun a0 a1=>J .ret (zdy a0 a1)) (Od R kk k J) (J (.exit 0) (zdz)):=by kernel_rfl
theorem Xz(a:ByteArray)(b:Bool):zv9 R kk K .ret (zdy a b)=
 zvb a b (fun a0 a1=>K [tS a0,tB a1] none):=by kernel_rfl
theorem XA:zv9 R kk K (.exit 0) (zdz)=
 zvc (fun a0 a1=>K [tS a0,tB a1] none):=by kernel_rfl
theorem aaA{kk:Nat}(hF:kk=ae)(eB:Int)(t9:ar)(t10 t11:Int):Od R kk k J eB t9 t10 t11=(KW k eB t9 t10 t11).bind fun e=>(Sum.elim (fun(we:hJ)=>J .ret (zdy we.1 we.2)) (fun(we:Unit)=>J (.exit 0) (zdz)) e):=by
 induction k generalizing eB t9 t10 t11 with
 |zero=>rfl
 |succ k ih=>
  rw[adH]
  simp only[KW,zva,ih,ax]
def uy:ag:=ux.add 93 [y5,(.int .i64)] (cU y5 (.int .i64) mM (fun _ r K=>K [tS r.1,tB r.2] none))
theorem o74:aI Tryz.prog uy:=cW Qz Tryz.f93 (fun R kk x0 x1 K=>Oe x0 x1 (Od R kk kk (zv9 R kk K))) o73 (ek _ _ _ _) Tryz.func93 (by kernel_rfl) rfl (fun _ _ _ _ _ _ h=>h _ _) (fun _ _ _ _ _=>by kernel_rfl) fun R kk e x0 x1 K=>by
 simp only[mM,Oe,zvb,zvc,aaA (hF:=e),Xz,XA,ax,<-e]
def QB:Env:=bX.env (fun i=>bif Nat.beq i 3 then [1,4,5,12,13,14] else []) (fun i=>bif Nat.beq i 3 then [4,5] else []) [4] [y5,(.int .i64)]
def Oj(a:Int)(b:ar)(c d:Int)(e f:af):Option R:=av (ev QB (uy R) kk (sub [1,1,0,1,0,0] (cd Tryz.f149))) [1,4,5,12,13,14] [4,5] k ⟨uS 1 ([tI a]::uS 2 ([.ptr 5 y5 []]::[.ptr 6 y5 []]::uS 6 ([.ah (.sl 90 (.pair (.int .i64) (.pair .str .unit))) b []]::[tI c]::[tI d]::uS 15 []))),nS 5 ((some ⟨y5,e,[[1]]⟩)::(some ⟨y5,f,[[1]]⟩)::nS 24 [])⟩ J
def ze1(a b:af):State:=⟨uS 4 ([.ptr 5 y5 []]::[.ptr 6 y5 []]::uS 24 []),nS 5 ((some ⟨y5,a,[[1]]⟩)::(some ⟨y5,b,[[1]]⟩)::nS 24 [])⟩
def IG:KX R:=(zk 0 (aH QB (uy R) kk (sub [1,1,1] (cd Tryz.f149)) (aF QB Tryz.f149.results.toList none K)))
theorem adJ(a:Int)(b:ar)(c d:Int)(e f:af):Oj R kk (k+1) J a b c d e f=
 zvg a b c d e f (Oj R kk k J) (fun a0 a1=>J (.exit 0) (ze1 a0 a1)):=by kernel_rfl
theorem XC(a b:af):IG R kk K (.exit 0) (ze1 a b)=
 zvh a b (fun a0=>K [.ah y5 a0 [[1]]] none):=by kernel_rfl
theorem aaC{kk:Nat}(hF:kk=ae)(eB:Int)(t12:ar)(t13 t14:Int)(cF fa:af):Oj R kk k J eB t12 t13 t14 cF fa=(KZ k eB t12 t13 t14 cF fa).bind fun e=>J (.exit 0) (ze1 e.1 e.2):=by
 induction k generalizing eB t12 t13 t14 cF fa with
 |zero=>rfl
 |succ k ih=>
  rw[adJ]
  simp only[KZ,zvg,ih,ax]
def FC:ag:=uy.add 149 [y5,(.int .i64)] (cU y5 (.int .i64) qI (fun _ r K=>K [.ah y5 r [[1]]] none))
theorem o75:aI Tryz.prog FC:=cW QB Tryz.f149 (fun R kk x0 x1 K=>Ok x0 x1 (Oj R kk kk (IG R kk K))) o74 (ek _ _ _ _) Tryz.func149 (by kernel_rfl) rfl (fun _ _ _ _ _ _ h=>h _ _) (fun _ _ _ _ _=>by kernel_rfl) fun R kk e x0 x1 K=>by
 simp only[qI,Ok,zvh,aaC (hF:=e),XC,ax,<-e]
def afK:Env:=e0 [(.pair (.int .i64) (.pair .str .unit)),.unit]
def uz:ag:=FC.add 151 [(.pair (.int .i64) (.pair .str .unit)),.unit] (pz (.pair (.int .i64) (.pair .str .unit)) (.int .i64) (.int .i64) [] qH (fun _ r K=>K [tB r.1] (some ⟨(.int .i64),r.2,[]⟩)))
theorem o76:aI Tryz.prog uz:=sz afK Tryz.f151 (fun R kk x0 x1 K=>zvf x0 x1 (fun a0 a1=>K [tB a0] (some ⟨(.int .i64),a1,[]⟩))) o75 (ek _ _ _ _) Tryz.func151 (by kernel_rfl) rfl (fun _ _ _ _ _ _ h=>h _ _) (fun _ _ _ _ _=>by kernel_rfl) fun R kk e x0 x1 K=>by
 simp only[qH,zvf,ax]
def QN:Env:=bX.env (fun i=>bif Nat.beq i 2 then [0,1,7,8] else []) (fun i=>bif Nat.beq i 2 then [4] else []) [] [(.sl 90 (.pair (.int .i64) (.pair .str .unit))),.unit]
def O6(a:ar)(b c d:Int):Option R:=av (ev QN (uz R) kk (sub [1,0,1,0,0] (cd Tryz.f150))) [0,1,7,8] [4] k ⟨[.ah (.sl 90 (.pair (.int .i64) (.pair .str .unit))) a []]::[.ptr 0 (.aV (.qc 151) (.int .i64) .unit) []]::uS 5 ([tI b]::[tI c]::uS 10 []),(some ⟨(.int .i64),d,[]⟩)::nS 19 []⟩ J
def zen(a b:Int):State:=⟨uS 4 ([tI a]::uS 14 []),(some ⟨(.int .i64),b,[]⟩)::nS 19 []⟩
def zeo(a:Int):State:=⟨uS 19 [],(some ⟨(.int .i64),a,[]⟩)::nS 19 []⟩
def zwd(a:Int):KX R:=(zk 0 (aH QN (uz R) kk (sub [1,1] (cd Tryz.f150)) (aF QN Tryz.f150.results.toList (some ⟨(.int .i64),a,[]⟩) K)))
theorem adX(a:ar)(b c d:Int):O6 R kk (k+1) J a b c d=
 zwe a b c d (fun a0 a1=>J .ret (zen a0 a1)) (O6 R kk k J) (fun a0=>J (.exit 0) (zeo a0)):=by kernel_rfl
theorem XY(a b c:Int):zwd R kk K a .ret (zen b c)=
 zwf b c (fun a0 a1=>K [tI a0] (some ⟨(.int .i64),a1,[]⟩)):=by kernel_rfl
theorem XZ(a b:Int):zwd R kk K a (.exit 0) (zeo b)=
 zwg b (fun a0 a1=>K [tI a0] (some ⟨(.int .i64),a1,[]⟩)):=by kernel_rfl
theorem aaQ{kk:Nat}(hF:kk=ae)(ri:ar)(t7 t8 recv:Int):O6 R kk k J ri t7 t8 recv=(La k ri t7 t8 recv).bind fun e=>(Sum.elim (fun(we:(Int×Int))=>J .ret (zen we.1 we.2)) (fun(we:Int)=>J (.exit 0) (zeo we)) e):=by
 induction k generalizing ri t7 t8 recv with
 |zero=>rfl
 |succ k ih=>
  rw[adX]
  simp only[La,zwe,ih,ax]
def FD:ag:=uz.add 150 [(.sl 90 (.pair (.int .i64) (.pair .str .unit))),.unit] (pz (.sl 90 (.pair (.int .i64) (.pair .str .unit))) (.aV (.qc 151) (.int .i64) .unit) (.int .i64) [] qU (fun _ r K=>K [tI r.1] (some ⟨(.int .i64),r.2,[]⟩)))
theorem o77:aI Tryz.prog FD:=sz QN Tryz.f150 (fun R kk x0 x1 K=>O7 x0 x1 (O6 R kk kk (zwd R kk K x1))) o76 (ek _ _ _ _) Tryz.func150 (by kernel_rfl) rfl (fun _ _ _ _ _ _ h=>h _ _) (fun _ _ _ _ _=>by kernel_rfl) fun R kk e x0 x1 K=>by
 simp only[qU,O7,zwf,zwg,aaQ (hF:=e),XY,XZ,ax,<-e]
def afJ:Env:={bX.env (fun _=>[]) (fun _=>[]) [6] [y5,(.int .i64),.str] with fz:=fun i=>bif Nat.beq i 9 then some (9,47) else none}
def mW:ag:=FD.add 94 [y5,(.int .i64),.str] (jE y5 (.int .i64) .str gi (fun _ r K=>K [.ah y5 r []] none))
theorem o78:aI Tryz.prog mW:=jV afJ Tryz.f94 (fun R kk x0 x1 x2 K=>Oi x0 x1 x2 (fun a0=>K [.ah y5 a0 []] none)) o77 ((ek _ _ _ _).fz _) Tryz.func94 (by kernel_rfl) rfl (fun _ _ _ _ _ _ h=>h _ _) (fun _ _ _ _ _ _=>by kernel_rfl) fun R kk e x0 x1 x2 K=>by
 simp only[gi,Oi,ax]
def Cn:Env:=bX.env (fun i=>bif Nat.beq i 2 then [2,10,11,12] else bif Nat.beq i 5 then [2,6,10,11,12,17,18,19] else []) (fun i=>bif Nat.beq i 2 then [4] else bif Nat.beq i 5 then [2,4,10,11,12] else []) [] [df,(.int .i64)]
def OG(a:(List Int))(b c:Int)(d:aB):Option R:=av (ev Cn (mW R) kk (sub [1,0,1,0,0] (cd Tryz.f95))) [2,10,11,12] [4] k ⟨uS 2 ([.ptr 3 df []]::uS 7 ([.ah (.sl 38 (.int .i64)) a [[]]]::[tI b]::[tI c]::uS 18 [])),nS 3 ((some ⟨df,d,[]⟩)::nS 28 [])⟩ J
def ze8:State:=⟨uS 31 [],nS 32 []⟩
def ze9(a:ByteArray):State:=⟨uS 4 ([tS a]::uS 26 []),nS 32 []⟩
def zvq:KX R:=(zk 0 (aH Cn (mW R) kk (sub [1,1] (cd Tryz.f95)) (aF Cn Tryz.f95.results.toList none K)))
def OH(a:Int)(b:(List Int))(c d:Int)(e:ar)(f g:Int)(h:aB):Option R:=av (ev Cn (mW R) kk (sub [1,0,1,0,0,1,1,0,0,1,1,0,0] (cd Tryz.f95))) [2,6,10,11,12,17,18,19] [2,4,10,11,12] k ⟨uS 2 ([.ptr 3 df []]::uS 3 ([tI a]::uS 3 ([.ah (.sl 38 (.int .i64)) b [[]]]::[tI c]::[tI d]::uS 4 ([.ah (.sl 96 (.pair (.int .i64) (.pair .str .unit))) e []]::[tI f]::[tI g]::uS 11 [])))),nS 3 ((some ⟨df,h,[]⟩)::nS 28 [])⟩ J
def zea(a:ByteArray)(b:(List Int))(c d:Int)(e:aB):State:=⟨uS 2 ([.ptr 3 df []]::uS 1 ([tS a]::uS 5 ([.ah (.sl 38 (.int .i64)) b [[]]]::[tI c]::[tI d]::uS 18 []))),nS 3 ((some ⟨df,e,[]⟩)::nS 28 [])⟩
def zeb(a:(List Int))(b c:Int)(d:aB):State:=⟨uS 2 ([.ptr 3 df []]::uS 7 ([.ah (.sl 38 (.int .i64)) a [[]]]::[tI b]::[tI c]::uS 18 [])),nS 3 ((some ⟨df,d,[]⟩)::nS 28 [])⟩
def zvr:KX R:=(zk 2 (zk 1 (aH Cn (mW R) kk (sub [1,0,1,0,0,1,1,1] (cd Tryz.f95)) (sk (ev Cn (mW R) kk (sub [1,0,1,0,0] (cd Tryz.f95))) [2,10,11,12] [4] k J))))
theorem adO(a:(List Int))(b c:Int)(d:aB):OG R kk (k+1) J a b c d=
 K5 a b c d (OH R kk kk (zvr R kk k J)) (J (.exit 0) (ze8)):=by kernel_rfl
theorem XJ:zvq R kk K (.exit 0) (ze8)=
 zvs (fun a0=>K [tS a0] none):=by kernel_rfl
theorem adP(a:Int)(b:(List Int))(c d:Int)(e:ar)(f g:Int)(h:aB):OH R kk (k+1) J a b c d e f g h=
 zvt a b c d e f g h (fun a0 a1 a2 a3 a4=>J .ret (zea a0 a1 a2 a3 a4)) (OH R kk k J) (fun a0 a1 a2 a3=>J (.exit 2) (zeb a0 a1 a2 a3)):=by kernel_rfl
theorem XL(a:ByteArray)(b:(List Int))(c d:Int)(e:aB):zvr R kk k J .ret (zea a b c d e)=
 zvu a b c d e (fun a0=>J .ret (ze9 a0)):=by kernel_rfl
theorem XM(a:(List Int))(b c:Int)(d:aB):zvr R kk k J (.exit 2) (zeb a b c d)=
 OJ a b c d (OG R kk k J):=by kernel_rfl
theorem XK(a:ByteArray):zvq R kk K .ret (ze9 a)=
 zvv a (fun a0=>K [tS a0] none):=by kernel_rfl
theorem aaI{kk:Nat}(hF:kk=ae)(t6:Int)(t10:(List Int))(t11 t12:Int)(t17:ar)(t18 t19:Int)(cX:aB):OH R kk k J t6 t10 t11 t12 t17 t18 t19 cX=(Dg k t6 t10 t11 t12 t17 t18 t19 cX).bind fun e=>(Sum.elim (fun(we:(ByteArray×(List Int)×Int×Int×aB))=>J .ret (zea we.1 we.2.1 we.2.2.1 we.2.2.2.1 we.2.2.2.2)) (fun(we:((List Int)×Int×Int×aB))=>J (.exit 2) (zeb we.1 we.2.1 we.2.2.1 we.2.2.2)) e):=by
 induction k generalizing t6 t10 t11 t12 t17 t18 t19 cX with
 |zero=>rfl
 |succ k ih=>
  rw[adP]
  simp only[Dg,zvt,ih,ax]
theorem aaH{kk:Nat}(hF:kk=ae)(t10:(List Int))(t11 t12:Int)(cX:aB):OG R kk k J t10 t11 t12 cX=(ym k t10 t11 t12 cX).bind fun e=>(Sum.elim (fun(we:Unit)=>J (.exit 0) (ze8)) (fun(we:ByteArray)=>J .ret (ze9 we)) e):=by
 induction k generalizing t10 t11 t12 cX with
 |zero=>rfl
 |succ k ih=>
  rw[adO]
  simp only[ym,K5,zvu,OJ,ih,aaI (hF:=hF),XL,XM,ax,<-hF]
def uA:ag:=mW.add 95 [df,(.int .i64)] (cU df (.int .i64) qN (fun _ r K=>K [tS r] none))
theorem o79:aI Tryz.prog uA:=cW Cn Tryz.f95 (fun R kk x0 x1 K=>OI x0 x1 (OG R kk kk (zvq R kk K))) o78 (ek _ _ _ _) Tryz.func95 (by kernel_rfl) rfl (fun _ _ _ _ _ _ h=>h _ _) (fun _ _ _ _ _=>by kernel_rfl) fun R kk e x0 x1 K=>by
 simp only[qN,OI,zvs,zvv,aaH (hF:=e),XJ,XK,ax,<-e]
def QE:Env:={{bX.env (fun i=>bif Nat.beq i 6 then [3,4,5,6,10,27,28,29] else []) (fun i=>bif Nat.beq i 6 then [3,5,6,10] else []) [6] [df,y5,(.pair (.int .i64) (.pair (.int .i64) .unit))] with dr:=fun i=>bif Nat.beq i 6 then [11] else []} with ro:=true}
def Ox(a:(List Int))(b c:Int)(d:aB)(e:af)(f:ay)(g h:af):Option R:=av (ev QE (uA R) kk (sub [1,1,1,1,0,1,0,0] (cd Tryz.f37))) [3,4,5,6,10,27,28,29] [3,5,6,10] k ⟨uS 3 ([.ptr 4 df []]::[.ptr 5 y5 []]::[.ptr 6 (.pair (.int .i64) (.pair (.int .i64) .unit)) []]::[.ptr 7 y5 []]::uS 3 ([.ptr 11 y5 []]::uS 16 ([.ah (.sl 3 (.int .i64)) a []]::[tI b]::[tI c]::uS 21 []))),nS 4 ((some ⟨df,d,[]⟩)::(some ⟨y5,e,[]⟩)::(some ⟨(.pair (.int .i64) (.pair (.int .i64) .unit)),f,[]⟩)::(some ⟨y5,g,[[1]]⟩)::nS 3 ((some ⟨y5,h,[]⟩)::nS 40 []))⟩ J
def ze3(a:aB)(b:ay)(c d:af):State:=⟨uS 3 ([.ptr 4 df []]::uS 1 ([.ptr 6 (.pair (.int .i64) (.pair (.int .i64) .unit)) []]::[.ptr 7 y5 []]::uS 3 ([.ptr 11 y5 []]::uS 40 []))),nS 4 ((some ⟨df,a,[]⟩)::nS 1 ((some ⟨(.pair (.int .i64) (.pair (.int .i64) .unit)),b,[]⟩)::(some ⟨y5,c,[[1]]⟩)::nS 3 ((some ⟨y5,d,[]⟩)::nS 40 [])))⟩
def IJ:KX R:=(zk 0 (aH QE (uA R) kk (sub [1,1,1,1,1] (cd Tryz.f37)) (aF QE Tryz.f37.results.toList none K)))
theorem adL(a:(List Int))(b c:Int)(d:aB)(e:af)(f:ay)(g h:af):Ox R kk (k+1) J a b c d e f g h=
 zvl a b c d e f g h (Ox R kk k J) (fun a0 a1 a2 a3=>J (.exit 0) (ze3 a0 a1 a2 a3)):=by kernel_rfl
theorem XE(a:aB)(b:ay)(c d:af):IJ R kk K (.exit 0) (ze3 a b c d)=
 Oz a b c d (fun a0 a1=>K [.ah y5 a0 [],tB a1] none):=by kernel_rfl
theorem aaE{kk:Nat}(hF:kk=ae)(t27:(List Int))(t28 t29:Int)(eZ:aB)(cF:af)(fa:ay)(gQ yY:af):Ox R kk k J t27 t28 t29 eZ cF fa gQ yY=(K2 k t27 t28 t29 eZ cF fa gQ yY).bind fun e=>J (.exit 0) (ze3 e.1 e.2.1 e.2.2.1 e.2.2.2):=by
 induction k generalizing t27 t28 t29 eZ cF fa gQ yY with
 |zero=>rfl
 |succ k ih=>
  rw[adL]
  simp only[K2,zvl,ih,ax]
def uB:ag:=uA.add 37 [df,y5,(.pair (.int .i64) (.pair (.int .i64) .unit))] (jE df y5 (.pair (.int .i64) (.pair (.int .i64) .unit)) qL (fun _ r K=>K [.ah y5 r.1 [],tB r.2] none))
theorem o80:aI Tryz.prog uB:=jV QE Tryz.f37 (fun R kk x0 x1 x2 K=>Oy x0 x1 x2 (fun a0 a1=>K [.ah y5 a0 [],tB a1] none) (Ox R kk kk (IJ R kk K))) o79 (((ek _ _ _ _).dr _).ro _) Tryz.func37 (by kernel_rfl) rfl (fun _ _ _ _ _ _ h=>h _ _) (fun _ _ _ _ _ _=>by kernel_rfl) fun R kk e x0 x1 x2 K=>by
 simp only[qL,Oy,Oz,aaE (hF:=e),XE,ax,<-e]
def Qy:Env:=bX.env (fun i=>bif Nat.beq i 9 then [2,4,9,39,40,41] else []) (fun i=>bif Nat.beq i 9 then [4] else []) [4] [aT,y5]
def Ob(a:Int)(b:ar)(c d:Int)(e:ai)(f:ay):Option R:=av (ev Qy (uB R) kk (sub [1,1,1,1,0,1,0,0] (cd Tryz.f96))) [2,4,9,39,40,41] [4] k ⟨uS 2 ([.ptr 3 aT []]::uS 1 ([.ptr 5 (.pair (.int .i64) (.pair (.int .i64) .unit)) []]::uS 4 ([tI a]::uS 29 ([.ah (.sl 90 (.pair (.int .i64) (.pair .str .unit))) b []]::[tI c]::[tI d]::uS 36 [])))),nS 3 ((some ⟨aT,e,[]⟩)::nS 1 ((some ⟨(.pair (.int .i64) (.pair (.int .i64) .unit)),f,[]⟩)::nS 73 []))⟩ J
def zdw(a:ay):State:=⟨uS 4 ([.ptr 5 (.pair (.int .i64) (.pair (.int .i64) .unit)) []]::uS 73 []),nS 5 ((some ⟨(.pair (.int .i64) (.pair (.int .i64) .unit)),a,[]⟩)::nS 73 [])⟩
def zdx(a:ay):State:=⟨uS 4 ([.ptr 5 (.pair (.int .i64) (.pair (.int .i64) .unit)) []]::uS 73 []),nS 5 ((some ⟨(.pair (.int .i64) (.pair (.int .i64) .unit)),a,[]⟩)::nS 73 [])⟩
def zv5:KX R:=(zk 0 (aH Qy (uB R) kk (sub [1,1,1,1,1] (cd Tryz.f96)) (aF Qy Tryz.f96.results.toList none K)))
theorem adG(a:Int)(b:ar)(c d:Int)(e:ai)(f:ay):Ob R kk (k+1) J a b c d e f=
 zv6 a b c d e f (fun a0=>J .ret (zdw a0)) (Ob R kk k J) (fun a0=>J (.exit 0) (zdx a0)):=by kernel_rfl
theorem Xx(a:ay):zv5 R kk K .ret (zdw a)=
 zv7 a (fun a0=>K [.ah (.pair (.int .i64) (.pair (.int .i64) .unit)) a0 []] none):=by kernel_rfl
theorem Xy(a:ay):zv5 R kk K (.exit 0) (zdx a)=
 zv8 a (fun a0=>K [.ah (.pair (.int .i64) (.pair (.int .i64) .unit)) a0 []] none):=by kernel_rfl
theorem aaz{kk:Nat}(hF:kk=ae)(t9:Int)(t39:ar)(t40 t41:Int)(cX:ai)(cF:ay):Ob R kk k J t9 t39 t40 t41 cX cF=(KV k t9 t39 t40 t41 cX cF).bind fun e=>(Sum.elim (fun(we:ay)=>J .ret (zdw we)) (fun(we:ay)=>J (.exit 0) (zdx we)) e):=by
 induction k generalizing t9 t39 t40 t41 cX cF with
 |zero=>rfl
 |succ k ih=>
  rw[adG]
  simp only[KV,zv6,ih,ax]
def uC:ag:=uB.add 96 [aT,y5] (cU aT y5 pg (fun _ r K=>K [.ah (.pair (.int .i64) (.pair (.int .i64) .unit)) r []] none))
theorem o81:aI Tryz.prog uC:=cW Qy Tryz.f96 (fun R kk x0 x1 K=>Oc x0 x1 (fun a0=>K [.ah (.pair (.int .i64) (.pair (.int .i64) .unit)) a0 []] none) (Ob R kk kk (zv5 R kk K))) o80 (ek _ _ _ _) Tryz.func96 (by kernel_rfl) rfl (fun _ _ _ _ _ _ h=>h _ _) (fun _ _ _ _ _=>by kernel_rfl) fun R kk e x0 x1 K=>by
 simp only[pg,Oc,zv7,zv8,aaz (hF:=e),Xx,Xy,ax,<-e]
def tK:Env:=bX.env (fun i=>bif Nat.beq i 7 then [0,4,5] else []) (fun i=>bif Nat.beq i 7 then [4] else []) [] [.str]
def nw(a:ByteArray)(b:(List Int))(c:Int):Option R:=av (ev tK (uC R) kk (sub [1,1,1,1,0,1,0,0] (cd Tryz.f154))) [0,4,5] [4] k ⟨[tS a]::uS 3 ([.ah (.sl 5 (.int .u8)) b [[]]]::[tI c]::uS 40 []),nS 47 []⟩ J
def zvz(a:(List Int)):State:=⟨uS 4 ([.ah (.sl 5 (.int .u8)) a [[]]]::uS 41 []),nS 47 []⟩
def wq:KX R:=(zk 0 (aH tK (uC R) kk (sub [1,1,1,1,1] (cd Tryz.f154)) (aF tK Tryz.f154.results.toList none K)))
theorem Ec(a:ByteArray)(b:(List Int))(c:Int):nw R kk (k+1) J a b c=
 lA a b c (nw R kk k J) (fun a0=>J (.exit 0) (zvz a0)):=by kernel_rfl
theorem adR(a:(List Int)):wq R kk K (.exit 0) (zvz a)=
 qQ a (fun a0 a1=>K [tS a0,tB a1] none):=by kernel_rfl
theorem afY{kk:Nat}(hF:kk=ae)(dO:ByteArray)(t4:(List Int))(t5:Int):nw R kk k J dO t4 t5=(iQ k dO t4 t5).bind fun e=>J (.exit 0) (zvz e):=by
 induction k generalizing dO t4 t5 with
 |zero=>rfl
 |succ k ih=>
  rw[Ec]
  simp only[iQ,lA,ih,ax]
def FE:ag:=uC.add 154 [.str] (cG .str Q1 (fun _ r K=>K [tS r.1,tB r.2] none))
theorem o82:aI Tryz.prog FE:=cH tK Tryz.f154 (fun R kk x0 K=>jY x0 (fun a0 a1=>K [tS a0,tB a1] none) (fun a0 a1 a2=>nw R kk kk (wq R kk K) a0 a1 a2)) o81 (ek _ _ _ _) Tryz.func154 (by kernel_rfl) rfl (fun _ _ _ _ _ _ h=>h _ _) (fun _ _ _ _=>by kernel_rfl) fun R kk e x0 K=>by
 simp only[Q1,z183,qQ,afY (hF:=e),adR,ax,<-e]
def agi:Env:=e0 [(.int .i64),.str]
def FF:ag:=FE.add 99 [(.int .i64),.str] (cU (.int .i64) .str q7 (fun _ r K=>K [tS r.1,tB r.2] none))
theorem UM:aI Tryz.prog FF:=cW agi Tryz.f99 (fun R kk x0 x1 K=>PA x0 x1 (fun a0 a1=>K [tS a0,tB a1] none)) o82 (ek _ _ _ _) Tryz.func99 (by kernel_rfl) rfl (fun _ _ _ _ _ _ h=>h _ _) (fun _ _ _ _ _=>by kernel_rfl) fun R kk e x0 x1 K=>by
 simp only[q7,PA,ax]
def Tryz.ii:Go.Shelf.Ren:=⟨fun|166=>98|240=>152|276=>198|n=>n,fun|70=>144|9=>9|3=>3|75=>149|0=>0|72=>147|37=>145|4=>4|164=>246|80=>158|5=>5|20=>20|n=>n,fun n=>n⟩
theorem Tryz.vi:Go.Proofs.Lays.n166 Go.Proofs.Tryz.prog Tryz.ii:={
 mixed:=by kernel_rfl,
 f166:=Go.Proofs.Tryz.func98.trans (congrArg some (by kernel_rfl)),
 f240:=Go.Proofs.Tryz.func152.trans (congrArg some (by kernel_rfl)),
 f276:=Go.Proofs.Tryz.func198.trans (congrArg some (by kernel_rfl)),
 t0:=Go.Proofs.Tryz.underlying0,
 a0:=Go.Proofs.Tryz.isAgg0,
 z0:=Go.Proofs.Tryz.sizeOf0,
 v0:=Go.Proofs.Tryz.zeroValue0,
 t3:=Go.Proofs.Tryz.underlying3,
 a3:=Go.Proofs.Tryz.isAgg3,
 z3:=Go.Proofs.Tryz.sizeOf3,
 v3:=Go.Proofs.Tryz.zeroValue3,
 t4:=Go.Proofs.Tryz.underlying4,
 a4:=Go.Proofs.Tryz.isAgg4,
 z4:=Go.Proofs.Tryz.sizeOf4,
 v4:=Go.Proofs.Tryz.zeroValue4,
 t9:=Go.Proofs.Tryz.underlying9,
 a9:=Go.Proofs.Tryz.isAgg9,
 z9:=Go.Proofs.Tryz.sizeOf9,
 v9:=Go.Proofs.Tryz.zeroValue9,
 t20:=Go.Proofs.Tryz.underlying20,
 a20:=Go.Proofs.Tryz.isAgg20,
 z20:=Go.Proofs.Tryz.sizeOf20,
 v20:=Go.Proofs.Tryz.zeroValue20,
 t37:=Go.Proofs.Tryz.underlying145,
 a37:=Go.Proofs.Tryz.isAgg145,
 z37:=Go.Proofs.Tryz.sizeOf145,
 v37:=Go.Proofs.Tryz.zeroValue145,
 t70:=Go.Proofs.Tryz.underlying144,
 a70:=Go.Proofs.Tryz.isAgg144,
 z70:=Go.Proofs.Tryz.sizeOf144,
 v70:=Go.Proofs.Tryz.zeroValue144,
 t72:=Go.Proofs.Tryz.underlying147,
 a72:=Go.Proofs.Tryz.isAgg147,
 z72:=Go.Proofs.Tryz.sizeOf147,
 v72:=Go.Proofs.Tryz.zeroValue147,
 t75:=Go.Proofs.Tryz.underlying149,
 a75:=Go.Proofs.Tryz.isAgg149,
 z75:=Go.Proofs.Tryz.sizeOf149,
 v75:=Go.Proofs.Tryz.zeroValue149,
 t164:=Go.Proofs.Tryz.underlying246,
 a164:=Go.Proofs.Tryz.isAgg246,
 z164:=Go.Proofs.Tryz.sizeOf246,
 v164:=Go.Proofs.Tryz.zeroValue246}
theorem Tryz.rE:Go.Proofs.Builder.Extra Go.Proofs.Tryz.prog Tryz.ii:={
 sizeBuilder:=by kernel_rfl,
 liesBuilder:=by kernel_rfl,
 t5:=Go.Proofs.Tryz.underlying5,
 a5:=Go.Proofs.Tryz.isAgg5,
 z5:=Go.Proofs.Tryz.sizeOf5,
 v5:=Go.Proofs.Tryz.zeroValue5,
 infoByte:=by kernel_rfl,
 cellsByte:=by kernel_rfl,
 sizeByte:=by kernel_rfl,
 neB5:=by decide}
noncomputable abbrev z64:Code:=Tryz.f98.body.getD .skip
theorem z5l:p8 Tryz.prog 98:=⟨Tryz.f98,z64,Tryz.func98,by kernel_rfl,by kernel_rfl⟩
def FG:ag:=FF.add 98 [] (LY 147 5)
theorem o84:aI Tryz.prog FG:=⟨UM.mix,PS UM.nat (agP _ _),YA UM.su z5l Tryz.vi Tryz.rE rfl rfl rfl⟩
def agh:Env:=e0 [.str,.unit]
def uD:ag:=FG.add 97 [.str,.unit] (pz .str (.aV (.fF 147 5) .unit .unit) (.aV (.fF 147 5) .unit .unit) [[]] iR (fun _ r K=>K [] (some ⟨(.aV (.fF 147 5) .unit .unit),r,[[]]⟩)))
theorem o85:aI Tryz.prog uD:=sz agh Tryz.f97 (fun R kk x0 x1 K=>Pz x0 x1 (fun a0=>K [] (some ⟨(.aV (.fF 147 5) .unit .unit),a0,[[]]⟩))) o84 (ek _ _ _ _) Tryz.func97 (by kernel_rfl) rfl (fun _ _ _ _ _ _ h=>h _ _) (fun _ _ _ _ _=>by kernel_rfl) fun R kk e x0 x1 K=>by
 simp only[iR,Pz,ax]
def QA:Env:=bX.env (fun i=>bif Nat.beq i 3 then [2,3,7,8,9] else []) (fun i=>bif Nat.beq i 3 then [2,3] else []) [2] [y5]
def Og(a:ar)(b c:Int)(d e:ay):Option R:=av (ev QA (uD R) kk (sub [1,1,0,1,0,0] (cd Tryz.f101))) [2,3,7,8,9] [2,3] k ⟨uS 2 ([.ptr 3 (.pair (.int .u64) (.pair (.int .u64) .unit)) []]::[.ptr 4 (.pair (.int .u64) (.pair (.int .u64) .unit)) []]::uS 3 ([.ah (.sl 90 (.pair (.int .i64) (.pair .str .unit))) a []]::[tI b]::[tI c]::uS 9 [])),nS 3 ((some ⟨(.pair (.int .u64) (.pair (.int .u64) .unit)),d,[]⟩)::(some ⟨(.pair (.int .u64) (.pair (.int .u64) .unit)),e,[]⟩)::nS 15 [])⟩ J
def ze0(a b:ay):State:=⟨uS 2 ([.ptr 3 (.pair (.int .u64) (.pair (.int .u64) .unit)) []]::[.ptr 4 (.pair (.int .u64) (.pair (.int .u64) .unit)) []]::uS 15 []),nS 3 ((some ⟨(.pair (.int .u64) (.pair (.int .u64) .unit)),a,[]⟩)::(some ⟨(.pair (.int .u64) (.pair (.int .u64) .unit)),b,[]⟩)::nS 15 [])⟩
def IF:KX R:=(zk 0 (aH QA (uD R) kk (sub [1,1,1] (cd Tryz.f101)) (aF QA Tryz.f101.results.toList none K)))
theorem adI(a:ar)(b c:Int)(d e:ay):Og R kk (k+1) J a b c d e=
 zvd a b c d e (Og R kk k J) (fun a0 a1=>J (.exit 0) (ze0 a0 a1)):=by kernel_rfl
theorem XB(a b:ay):IF R kk K (.exit 0) (ze0 a b)=
 zve a b (fun a0=>K [.ah (.pair (.int .u64) (.pair (.int .u64) .unit)) a0 []] none):=by kernel_rfl
theorem aaB{kk:Nat}(hF:kk=ae)(t7:ar)(t8 t9:Int)(cX eZ:ay):Og R kk k J t7 t8 t9 cX eZ=(KY k t7 t8 t9 cX eZ).bind fun e=>J (.exit 0) (ze0 e.1 e.2):=by
 induction k generalizing t7 t8 t9 cX eZ with
 |zero=>rfl
 |succ k ih=>
  rw[adI]
  simp only[KY,zvd,ih,ax]
def FH:ag:=uD.add 101 [y5] (cG y5 qG (fun _ r K=>K [.ah (.pair (.int .u64) (.pair (.int .u64) .unit)) r []] none))
theorem o86:aI Tryz.prog FH:=cH QA Tryz.f101 (fun R kk x0 K=>Oh x0 (Og R kk kk (IF R kk K))) o85 (ek _ _ _ _) Tryz.func101 (by kernel_rfl) rfl (fun _ _ _ _ _ _ h=>h _ _) (fun _ _ _ _=>by kernel_rfl) fun R kk e x0 K=>by
 simp only[qG,Oh,zve,aaB (hF:=e),XB,ax,<-e]
def Eo:Env:=e0 [(.pair (.int .u64) (.pair (.int .u64) .unit)),(.int .i64)]
def FI:ag:=FH.add 156 [(.pair (.int .u64) (.pair (.int .u64) .unit)),(.int .i64)] (cU (.pair (.int .u64) (.pair (.int .u64) .unit)) (.int .i64) En (fun _ r K=>K [tB r] none))
theorem o87:aI Tryz.prog FI:=cW Eo Tryz.f156 (fun R kk x0 x1 K=>Rm x0 x1 (fun a0=>K [tB a0] none)) o86 (ek _ _ _ _) Tryz.func156 (by kernel_rfl) rfl (fun _ _ _ _ _ _ h=>h _ _) (fun _ _ _ _ _=>by kernel_rfl) fun R kk e x0 x1 K=>by
 simp only[En,Rm,ax]
def Em:Env:=e0 [(.pair (.int .u64) (.pair (.int .u64) .unit))]
def uE:ag:=FI.add 157 [(.pair (.int .u64) (.pair (.int .u64) .unit))] (cG (.pair (.int .u64) (.pair (.int .u64) .unit)) Mc (fun _ r K=>K [.ah (.int .u64) r.1 [],.ah (.int .u64) r.2 []] none))
theorem o88:aI Tryz.prog uE:=cH Em Tryz.f157 (fun R kk x0 K=>A0 x0 (fun a0 a1=>K [.ah (.int .u64) a0 [],.ah (.int .u64) a1 []] none)) o87 (ek _ _ _ _) Tryz.func157 (by kernel_rfl) rfl (fun _ _ _ _ _ _ h=>h _ _) (fun _ _ _ _=>by kernel_rfl) fun R kk e x0 K=>by
 simp only[Mc,A0,ax]
def tX:Env:=bX.env (fun i=>bif Nat.beq i 3 then [0,2,3,5] else []) (fun i=>bif Nat.beq i 3 then [2,3] else []) [2] [(.int .u64)]
def nX(a b:Int)(c d:(List Int)):Option R:=av (ev tX (uE R) kk (sub [1,1,0,1,0,0] (cd Tryz.f158))) [0,2,3,5] [2,3] k ⟨[.ah (.int .u64) a []]::uS 1 ([.ptr 3 (.arr 8 (.int .u8)) []]::[.ptr 4 (.arr 8 (.int .u8)) []]::uS 1 ([tI b]::uS 12 [])),nS 3 ((some ⟨(.arr 8 (.int .u8)),c,[]⟩)::(some ⟨(.arr 8 (.int .u8)),d,[]⟩)::nS 14 [])⟩ J
def zxi(a b:(List Int)):State:=⟨uS 2 ([.ptr 3 (.arr 8 (.int .u8)) []]::[.ptr 4 (.arr 8 (.int .u8)) []]::uS 14 []),nS 3 ((some ⟨(.arr 8 (.int .u8)),a,[]⟩)::(some ⟨(.arr 8 (.int .u8)),b,[]⟩)::nS 14 [])⟩
def wG:KX R:=(zk 0 (aH tX (uE R) kk (sub [1,1,1] (cd Tryz.f158)) (aF tX Tryz.f158.results.toList none K)))
theorem EK(a b:Int)(c d:(List Int)):nX R kk (k+1) J a b c d=
 lE a b c d (nX R kk k J) (fun a0 a1=>J (.exit 0) (zxi a0 a1)):=by kernel_rfl
theorem aey(a b:(List Int)):wG R kk K (.exit 0) (zxi a b)=
 nZ a b (fun a0=>K [.ah (.arr 8 (.int .u8)) a0 []] none):=by kernel_rfl
theorem agJ{kk:Nat}(hF:kk=ae)(Vb t5:Int)(cX eZ:(List Int)):nX R kk k J Vb t5 cX eZ=(gj k Vb t5 cX eZ).bind fun e=>J (.exit 0) (zxi e.1 e.2):=by
 induction k generalizing Vb t5 cX eZ with
 |zero=>rfl
 |succ k ih=>
  rw[EK]
  simp only[gj,lE,ih,ax]
def uF:ag:=uE.add 158 [(.int .u64)] (cG (.int .u64) Q8 (fun _ r K=>K [.ah (.arr 8 (.int .u8)) r []] none))
theorem o89:aI Tryz.prog uF:=cH tX Tryz.f158 (fun R kk x0 K=>nY x0 (nX R kk kk (wG R kk K))) o88 (ek _ _ _ _) Tryz.func158 (by kernel_rfl) rfl (fun _ _ _ _ _ _ h=>h _ _) (fun _ _ _ _=>by kernel_rfl) fun R kk e x0 K=>by
 simp only[Q8,nY,nZ,agJ (hF:=e),aey,ax,<-e]
def Qw:Env:=bX.env (fun i=>bif Nat.beq i 3 then [0,3,4] else []) (fun i=>bif Nat.beq i 3 then [3] else []) [] [.str]
def N9(a:ByteArray)(b:(List Int))(c:Int):Option R:=av (ev Qw (uF R) kk (sub [1,1,0,1,0,0] (cd Tryz.f159))) [0,3,4] [3] k ⟨[tS a]::uS 2 ([.ah (.sl 5 (.int .u8)) b [[]]]::[tI c]::uS 25 []),nS 31 []⟩ J
def zdv(a:(List Int)):State:=⟨uS 3 ([.ah (.sl 5 (.int .u8)) a [[]]]::uS 26 []),nS 31 []⟩
def IE:KX R:=(zk 0 (aH Qw (uF R) kk (sub [1,1,1] (cd Tryz.f159)) (aF Qw Tryz.f159.results.toList none K)))
theorem adF(a:ByteArray)(b:(List Int))(c:Int):N9 R kk (k+1) J a b c=
 KU a b c (N9 R kk k J) (fun a0=>J (.exit 0) (zdv a0)):=by kernel_rfl
theorem Xw(a:(List Int)):IE R kk K (.exit 0) (zdv a)=
 zv3 a (fun a0=>K [tS a0] none):=by kernel_rfl
theorem aay{kk:Nat}(hF:kk=ae)(dO:ByteArray)(t3:(List Int))(t4:Int):N9 R kk k J dO t3 t4=(BZ k dO t3 t4).bind fun e=>J (.exit 0) (zdv e):=by
 induction k generalizing dO t3 t4 with
 |zero=>rfl
 |succ k ih=>
  rw[adF]
  simp only[BZ,KU,ih,ax]
def FJ:ag:=uF.add 159 [.str] (cG .str iO (fun _ r K=>K [tS r] none))
theorem o90:aI Tryz.prog FJ:=cH Qw Tryz.f159 (fun R kk x0 K=>zip x0 (N9 R kk kk (IE R kk K))) o89 (ek _ _ _ _) Tryz.func159 (by kernel_rfl) rfl (fun _ _ _ _ _ _ h=>h _ _) (fun _ _ _ _=>by kernel_rfl) fun R kk e x0 K=>by
 simp only[iO,zip,zv3,aay (hF:=e),Xw,ax,<-e]
def Sv:Env:=e0 [(.int .i64),(.pair (.int .u64) (.pair (.int .u64) .unit))]
def uG:ag:=FJ.add 100 [(.int .i64),(.pair (.int .u64) (.pair (.int .u64) .unit))] (cU (.int .i64) (.pair (.int .u64) (.pair (.int .u64) .unit)) Q6 (fun _ r K=>K [tS r.1,tI r.2] none))
theorem o91:aI Tryz.prog uG:=cW Sv Tryz.f100 (fun R kk x0 x1 K=>nL x0 x1 (fun a0 a1=>K [tS a0,tI a1] none)) o90 (ek _ _ _ _) Tryz.func100 (by kernel_rfl) rfl (fun _ _ _ _ _ _ h=>h _ _) (fun _ _ _ _ _=>by kernel_rfl) fun R kk e x0 x1 K=>by
 simp only[Q6,nL,ax]
def nD:Env:=bX.env (fun i=>bif Nat.beq i 5 then [0,6,7,19] else []) (fun i=>bif Nat.beq i 5 then [0,6,19] else []) [] [(.int .i64),(.int .i64)]
def Rf(a:Int)(b:Nat)(c:Int)(d:Nat)(e:(List Int)):Option R:=av (ev nD (uG R) kk (sub [1,1,1,0,1,0,0] (cd Tryz.f201))) [0,6,7,19] [0,6,19] k ⟨[tI a]::uS 5 ([.ptr 20 (.aV (.fU b) (.int .u8) .unit) []]::[tI c]::uS 11 ([.ptr 20 (.aV (.fU d) (.int .u8) .unit) []]::uS 19 [])),nS 20 ((some ⟨(.aV .row (.int .u8) .unit),e,[]⟩)::nS 19 [])⟩ J
def zn5(a:Int)(b c:Nat)(d:(List Int)):State:=⟨[tI a]::uS 5 ([.ptr 20 (.aV (.fU b) (.int .u8) .unit) []]::uS 12 ([.ptr 20 (.aV (.fU c) (.int .u8) .unit) []]::uS 19 [])),nS 20 ((some ⟨(.aV .row (.int .u8) .unit),d,[]⟩)::nS 19 [])⟩
def Jy:KX R:=(zk 0 (aH nD (uG R) kk (sub [1,1,1,1] (cd Tryz.f201)) (aF nD Tryz.f201.results.toList none K)))
theorem agm(a:Int)(b:Nat)(c:Int)(d:Nat)(e:(List Int)):Rf R kk (k+1) J a b c d e=
 Ly a b c d e (Rf R kk k J) (fun a0 a1 a2 a3=>J (.exit 0) (zn5 a0 a1 a2 a3)):=by kernel_rfl
theorem aa9(a:Int)(b c:Nat)(d:(List Int)):Jy R kk K (.exit 0) (zn5 a b c d)=
 Rh a b c d (fun a0 a1=>K [tS a0,tB a1] none):=by kernel_rfl
theorem aee{kk:Nat}(hF:kk=ae)(Ap:Int)(TN:Nat)(t7:Int)(Ar:Nat)(zE:(List Int)):Rf R kk k J Ap TN t7 Ar zE=(Cp k Ap TN t7 Ar zE).bind fun e=>J (.exit 0) (zn5 e.1 e.2.1 e.2.2.1 e.2.2.2):=by
 induction k generalizing Ap TN t7 Ar zE with
 |zero=>rfl
 |succ k ih=>
  rw[agm]
  simp only[Cp,Ly,ih,ax]
def FK:ag:=uG.add 201 [(.int .i64),(.int .i64)] (cU (.int .i64) (.int .i64) Eh (fun _ r K=>K [tS r.1,tB r.2] none))
theorem o92:aI Tryz.prog FK:=cW nD Tryz.f201 (fun R kk x0 x1 K=>Rg x0 x1 (fun a0 a1=>K [tS a0,tB a1] none) (Rf R kk kk (Jy R kk K))) o91 (ek _ _ _ _) Tryz.func201 (by kernel_rfl) rfl (fun _ _ _ _ _ _ h=>h _ _) (fun _ _ _ _ _=>by kernel_rfl) fun R kk e x0 x1 K=>by
 simp only[Eh,Rg,Rh,aee (hF:=e),aa9,ax,<-e]
def afQ:Env:=e0 [(.int .i64),(.int .i64),(.int .i64)]
def FL:ag:=FK.add 161 [(.int .i64),(.int .i64),(.int .i64)] (jE (.int .i64) (.int .i64) (.int .i64) pk (fun _ r K=>K [tS r.1,tI r.2] none))
theorem o93:aI Tryz.prog FL:=jV afQ Tryz.f161 (fun R kk x0 x1 x2 K=>Ov x0 x1 x2 (fun a0 a1=>K [tS a0,tI a1] none)) o92 (ek _ _ _ _) Tryz.func161 (by kernel_rfl) rfl (fun _ _ _ _ _ _ h=>h _ _) (fun _ _ _ _ _ _=>by kernel_rfl) fun R kk e x0 x1 x2 K=>by
 simp only[pk,Ov,ax]
def D3:Env:=e0 [(.int .i64),y9,.str]
def FM:ag:=FL.add 102 [(.int .i64),y9,.str] (jE (.int .i64) y9 .str yI (fun _ r K=>K [tS r.1,tI r.2] none))
theorem UN:aI Tryz.prog FM:=jV D3 Tryz.f102 (fun R kk x0 x1 x2 K=>Qo x0 x1 x2 (fun a0 a1=>K [tS a0,tI a1] none)) o93 (ek _ _ _ _) Tryz.func102 (by kernel_rfl) rfl (fun _ _ _ _ _ _ h=>h _ _) (fun _ _ _ _ _ _=>by kernel_rfl) fun R kk e x0 x1 x2 K=>by
 simp only[yI,Qo,ax]
def Tryz.ij:Go.Shelf.Ren:=⟨fun|169=>103|n=>n,fun|70=>144|9=>9|0=>0|72=>147|37=>145|127=>217|3=>3|5=>5|n=>n,fun n=>n⟩
theorem Tryz.vj:Go.Proofs.Lays.n169 Go.Proofs.Tryz.prog Tryz.ij:={
 mixed:=by kernel_rfl,
 f169:=Go.Proofs.Tryz.func103.trans (congrArg some (by kernel_rfl)),
 t0:=Go.Proofs.Tryz.underlying0,
 a0:=Go.Proofs.Tryz.isAgg0,
 z0:=Go.Proofs.Tryz.sizeOf0,
 v0:=Go.Proofs.Tryz.zeroValue0,
 t3:=Go.Proofs.Tryz.underlying3,
 a3:=Go.Proofs.Tryz.isAgg3,
 z3:=Go.Proofs.Tryz.sizeOf3,
 v3:=Go.Proofs.Tryz.zeroValue3,
 t9:=Go.Proofs.Tryz.underlying9,
 a9:=Go.Proofs.Tryz.isAgg9,
 z9:=Go.Proofs.Tryz.sizeOf9,
 v9:=Go.Proofs.Tryz.zeroValue9,
 t37:=Go.Proofs.Tryz.underlying145,
 a37:=Go.Proofs.Tryz.isAgg145,
 z37:=Go.Proofs.Tryz.sizeOf145,
 v37:=Go.Proofs.Tryz.zeroValue145,
 t70:=Go.Proofs.Tryz.underlying144,
 a70:=Go.Proofs.Tryz.isAgg144,
 z70:=Go.Proofs.Tryz.sizeOf144,
 v70:=Go.Proofs.Tryz.zeroValue144,
 t72:=Go.Proofs.Tryz.underlying147,
 a72:=Go.Proofs.Tryz.isAgg147,
 z72:=Go.Proofs.Tryz.sizeOf147,
 v72:=Go.Proofs.Tryz.zeroValue147,
 t127:=Go.Proofs.Tryz.underlying217,
 a127:=Go.Proofs.Tryz.isAgg217,
 z127:=Go.Proofs.Tryz.sizeOf217,
 v127:=Go.Proofs.Tryz.zeroValue217}
theorem Tryz.rF:Go.Proofs.Builder.Extra Go.Proofs.Tryz.prog Tryz.ij:={
 sizeBuilder:=by kernel_rfl,
 liesBuilder:=by kernel_rfl,
 t5:=Go.Proofs.Tryz.underlying5,
 a5:=Go.Proofs.Tryz.isAgg5,
 z5:=Go.Proofs.Tryz.sizeOf5,
 v5:=Go.Proofs.Tryz.zeroValue5,
 infoByte:=by kernel_rfl,
 cellsByte:=by kernel_rfl,
 sizeByte:=by kernel_rfl,
 neB5:=by decide}
noncomputable abbrev z96:Code:=Tryz.f103.body.getD .skip
theorem z7b:p8 Tryz.prog 103:=⟨Tryz.f103,z96,Tryz.func103,by kernel_rfl,by kernel_rfl⟩
def uH:ag:=FM.add 103 [] (LX 147 5)
theorem o95:aI Tryz.prog uH:=⟨UN.mix,PS UN.nat (agO _ _),Yz UN.su z7b Tryz.vj Tryz.rF rfl rfl rfl⟩
def QV:Env:={bX.env (fun i=>bif Nat.beq i 11 then [2,5,7,8,50,51,52] else []) (fun i=>bif Nat.beq i 11 then [5,7] else []) [5] [aT,y5] with bl:=fun t=>bif Nat.beq t 147 then some 5 else none}
def Px(a:ar)(b c:Int)(d:ai)(e:ay)(f:ByteArray):Option R:=av (ev QV (uH R) kk (sub [1,1,1,1,1,1,1,1,0,1,0,0] (cd Tryz.f38))) [2,5,7,8,50,51,52] [5,7] k ⟨uS 2 ([.ptr 3 aT []]::uS 2 ([.ptr 6 (.pair (.int .i64) (.pair (.int .i64) .unit)) []]::uS 1 ([.ptr 8 (.aV (.fF 147 5) .unit .unit) []]::[.ptr 8 (.aV (.qc 97) (.aV (.fF 147 5) .unit .unit) .unit) []]::uS 41 ([.ah (.sl 90 (.pair (.int .i64) (.pair .str .unit))) a []]::[tI b]::[tI c]::uS 25 [])))),nS 3 ((some ⟨aT,d,[]⟩)::nS 2 ((some ⟨(.pair (.int .i64) (.pair (.int .i64) .unit)),e,[]⟩)::nS 1 ((some ⟨(.aV (.fF 147 5) .unit .unit),f,[[]]⟩)::nS 70 [])))⟩ J
def zey(a:ay)(b:ByteArray):State:=⟨uS 5 ([.ptr 6 (.pair (.int .i64) (.pair (.int .i64) .unit)) []]::uS 1 ([.ptr 8 (.aV (.fF 147 5) .unit .unit) []]::uS 70 [])),nS 6 ((some ⟨(.pair (.int .i64) (.pair (.int .i64) .unit)),a,[]⟩)::nS 1 ((some ⟨(.aV (.fF 147 5) .unit .unit),b,[[]]⟩)::nS 70 []))⟩
def IM:KX R:=(zk 0 (aH QV (uH R) kk (sub [1,1,1,1,1,1,1,1,1] (cd Tryz.f38)) (aF QV Tryz.f38.results.toList none K)))
theorem ad4(a:ar)(b c:Int)(d:ai)(e:ay)(f:ByteArray):Px R kk (k+1) J a b c d e f=
 zws a b c d e f (Px R kk k J) (fun a0 a1=>J (.exit 0) (zey a0 a1)):=by kernel_rfl
theorem Ya(a:ay)(b:ByteArray):IM R kk K (.exit 0) (zey a b)=
 zwt a b (fun a0 a1=>K [tS a0,.ah (.pair (.int .i64) (.pair (.int .i64) .unit)) a1 []] none):=by kernel_rfl
theorem aaY{kk:Nat}(hF:kk=ae)(t50:ar)(t51 t52:Int)(cX:ai)(fa:ay)(mZ:ByteArray):Px R kk k J t50 t51 t52 cX fa mZ=(Ld k t50 t51 t52 cX fa mZ).bind fun e=>J (.exit 0) (zey e.1 e.2):=by
 induction k generalizing t50 t51 t52 cX fa mZ with
 |zero=>rfl
 |succ k ih=>
  rw[ad4]
  simp only[Ld,zws,ih,ax]
def FN:ag:=uH.add 38 [aT,y5] (cU aT y5 mS (fun _ r K=>K [tS r.1,.ah (.pair (.int .i64) (.pair (.int .i64) .unit)) r.2 []] none))
theorem o96:aI Tryz.prog FN:=cW QV Tryz.f38 (fun R kk x0 x1 K=>Py x0 x1 (fun a0 a1=>K [tS a0,.ah (.pair (.int .i64) (.pair (.int .i64) .unit)) a1 []] none) (Px R kk kk (IM R kk K))) o95 ((ek _ _ _ _).fF 147 5 (by kernel_rfl)) Tryz.func38 (by kernel_rfl) rfl (fun _ _ _ _ _ _ h=>h _ _) (fun _ _ _ _ _=>by kernel_rfl) fun R kk e x0 x1 K=>by
 simp only[mS,Py,zwt,aaY (hF:=e),Ya,ax,<-e]
def afX:Env:=e0 [y5,(.pair (.int .i64) (.pair (.int .i64) .unit)),.unit,.unit]
def uI:ag:=FN.add 36 [y5,(.pair (.int .i64) (.pair (.int .i64) .unit)),.unit,.unit] (pv y5 (.pair (.int .i64) (.pair (.int .i64) .unit)) df kX jL (fun _ r K=>K [tI r.1,tS r.2] none))
theorem o97:aI Tryz.prog uI:=sv afX Tryz.f36 (fun R kk x0 x1 x2 x3 K=>OQ x0 x1 x2 x3 (fun a0 a1=>K [tI a0,tS a1] none)) o96 (ek _ _ _ _) Tryz.func36 (by kernel_rfl) rfl (fun _ _ _ _ _ _ h=>h _ _) (fun _ _ _ _ _ _ _=>by kernel_rfl) fun R kk e x0 x1 x2 x3 K=>by
 simp only[jL,OQ,ax]
def QX:Env:=bX.env (fun i=>bif Nat.beq i 2 then [1,9,10,11] else []) (fun i=>bif Nat.beq i 2 then [4,5] else []) [] [dK,.str]
def PO(a:ByteArray)(b:aP)(c d:Int):Option R:=av (ev QX (uI R) kk (sub [1,0,1,0,0] (cd Tryz.f108))) [1,9,10,11] [4,5] k ⟨uS 1 ([tS a]::uS 7 ([.ah (.sl 116 (.pair .str (.pair .str .unit))) b []]::[tI c]::[tI d]::uS 10 [])),nS 23 []⟩ J
def zfa(a:ByteArray)(b:Bool):State:=⟨uS 4 ([tS a]::[tB b]::uS 16 []),nS 23 []⟩
def zfb:State:=⟨uS 22 [],nS 23 []⟩
def zxc:KX R:=(zk 0 (aH QX (uI R) kk (sub [1,1] (cd Tryz.f108)) (aF QX Tryz.f108.results.toList none K)))
theorem aeb(a:ByteArray)(b:aP)(c d:Int):PO R kk (k+1) J a b c d=
 zxd a b c d (fun a0 a1=>J .ret (zfa a0 a1)) (PO R kk k J) (J (.exit 0) (zfb)):=by kernel_rfl
theorem Ym(a:ByteArray)(b:Bool):zxc R kk K .ret (zfa a b)=
 zxe a b (fun a0 a1=>K [tS a0,tB a1] none):=by kernel_rfl
theorem Yn:zxc R kk K (.exit 0) (zfb)=
 zxf (fun a0 a1=>K [tS a0,tB a1] none):=by kernel_rfl
theorem aa5{kk:Nat}(hF:kk=ae)(U6:ByteArray)(t9:aP)(t10 t11:Int):PO R kk k J U6 t9 t10 t11=(Li k U6 t9 t10 t11).bind fun e=>(Sum.elim (fun(we:hJ)=>J .ret (zfa we.1 we.2)) (fun(we:Unit)=>J (.exit 0) (zfb)) e):=by
 induction k generalizing U6 t9 t10 t11 with
 |zero=>rfl
 |succ k ih=>
  rw[aeb]
  simp only[Li,zxd,ih,ax]
def uJ:ag:=uI.add 108 [dK,.str] (cU dK .str q9 (fun _ r K=>K [tS r.1,tB r.2] none))
theorem o98:aI Tryz.prog uJ:=cW QX Tryz.f108 (fun R kk x0 x1 K=>PQ x0 x1 (PO R kk kk (zxc R kk K))) o97 (ek _ _ _ _) Tryz.func108 (by kernel_rfl) rfl (fun _ _ _ _ _ _ h=>h _ _) (fun _ _ _ _ _=>by kernel_rfl) fun R kk e x0 x1 K=>by
 simp only[q9,PQ,zxe,zxf,aa5 (hF:=e),Ym,Yn,ax,<-e]
def QW:Env:={bX.env (fun i=>bif Nat.beq i 2 then [1,4,9,10,11] else []) (fun i=>bif Nat.beq i 2 then [4,5] else []) [4] [dK,(.int .i64)] with ro:=true}
def PM(a:Int)(b:cn)(c d:Int)(e:bD):Option R:=av (ev QW (uJ R) kk (sub [1,0,1,0,0] (cd Tryz.f109))) [1,4,9,10,11] [4,5] k ⟨uS 1 ([tI a]::uS 2 ([.ptr 5 fC []]::uS 4 ([.ah (.sl 59 fC) b []]::[tI c]::[tI d]::uS 10 []))),nS 5 ((some ⟨fC,e,[[4]]⟩)::nS 17 [])⟩ J
def zf8(a:Bool)(b:bD):State:=⟨uS 4 ([.ptr 5 fC []]::[tB a]::uS 16 []),nS 5 ((some ⟨fC,b,[]⟩)::nS 17 [])⟩
def zf9(a:bD):State:=⟨uS 4 ([.ptr 5 fC []]::uS 17 []),nS 5 ((some ⟨fC,a,[[4]]⟩)::nS 17 [])⟩
def zx8:KX R:=(zk 0 (aH QW (uJ R) kk (sub [1,1] (cd Tryz.f109)) (aF QW Tryz.f109.results.toList none K)))
theorem aea(a:Int)(b:cn)(c d:Int)(e:bD):PM R kk (k+1) J a b c d e=
 zx9 a b c d e (fun a0 a1=>J .ret (zf8 a0 a1)) (PM R kk k J) (fun a0=>J (.exit 0) (zf9 a0)):=by kernel_rfl
theorem Yk(a:Bool)(b:bD):zx8 R kk K .ret (zf8 a b)=
 zxa a b (fun a0 a1=>K [.ah fC a0 [],tB a1] none):=by kernel_rfl
theorem Yl(a:bD):zx8 R kk K (.exit 0) (zf9 a)=
 zxb a (fun a0 a1=>K [.ah fC a0 [],tB a1] none):=by kernel_rfl
theorem aa4{kk:Nat}(hF:kk=ae)(eB:Int)(t9:cn)(t10 t11:Int)(cF:bD):PM R kk k J eB t9 t10 t11 cF=(Lh k eB t9 t10 t11 cF).bind fun e=>(Sum.elim (fun(we:(Bool×bD))=>J .ret (zf8 we.1 we.2)) (fun(we:bD)=>J (.exit 0) (zf9 we)) e):=by
 induction k generalizing eB t9 t10 t11 cF with
 |zero=>rfl
 |succ k ih=>
  rw[aea]
  simp only[Lh,zx9,ih,ax]
def FO:ag:=uJ.add 109 [dK,(.int .i64)] (cU dK (.int .i64) mT (fun _ r K=>K [.ah fC r.1 [],tB r.2] none))
theorem UO:aI Tryz.prog FO:=cW QW Tryz.f109 (fun R kk x0 x1 K=>PN x0 x1 (PM R kk kk (zx8 R kk K))) o98 ((ek _ _ _ _).ro _) Tryz.func109 (by kernel_rfl) rfl (fun _ _ _ _ _ _ h=>h _ _) (fun _ _ _ _ _=>by kernel_rfl) fun R kk e x0 x1 K=>by
 simp only[mT,PN,zxa,zxb,aa4 (hF:=e),Yk,Yl,ax,<-e]
def Tryz.fo:Go.Shelf.Ren:=⟨fun|105=>206|212=>216|99=>217|165=>218|166=>98|170=>219|169=>103|263=>230|264=>231|206=>232|240=>152|241=>233|276=>198|277=>238|n=>n,fun|9=>9|3=>3|4=>4|20=>20|0=>0|46=>248|109=>255|5=>5|72=>147|76=>150|51=>267|146=>268|53=>101|148=>211|70=>144|37=>145|75=>149|127=>217|164=>246|80=>158|n=>n,fun n=>n⟩
theorem Tryz.dt:Go.Proofs.Lays.n105 Go.Proofs.Tryz.prog Tryz.fo:={
 mixed:=by kernel_rfl,
 f99:=Go.Proofs.Tryz.func217.trans (congrArg some (by kernel_rfl)),
 f105:=Go.Proofs.Tryz.func206.trans (congrArg some (by kernel_rfl)),
 f165:=Go.Proofs.Tryz.func218.trans (congrArg some (by kernel_rfl)),
 f166:=Go.Proofs.Tryz.func98.trans (congrArg some (by kernel_rfl)),
 f169:=Go.Proofs.Tryz.func103.trans (congrArg some (by kernel_rfl)),
 f170:=Go.Proofs.Tryz.func219.trans (congrArg some (by kernel_rfl)),
 f206:=Go.Proofs.Tryz.func232.trans (congrArg some (by kernel_rfl)),
 f212:=Go.Proofs.Tryz.func216.trans (congrArg some (by kernel_rfl)),
 f240:=Go.Proofs.Tryz.func152.trans (congrArg some (by kernel_rfl)),
 f241:=Go.Proofs.Tryz.func233.trans (congrArg some (by kernel_rfl)),
 f263:=Go.Proofs.Tryz.func230.trans (congrArg some (by kernel_rfl)),
 f264:=Go.Proofs.Tryz.func231.trans (congrArg some (by kernel_rfl)),
 f276:=Go.Proofs.Tryz.func198.trans (congrArg some (by kernel_rfl)),
 f277:=Go.Proofs.Tryz.func238.trans (congrArg some (by kernel_rfl)),
 t0:=Go.Proofs.Tryz.underlying0,
 a0:=Go.Proofs.Tryz.isAgg0,
 z0:=Go.Proofs.Tryz.sizeOf0,
 v0:=Go.Proofs.Tryz.zeroValue0,
 t3:=Go.Proofs.Tryz.underlying3,
 a3:=Go.Proofs.Tryz.isAgg3,
 z3:=Go.Proofs.Tryz.sizeOf3,
 v3:=Go.Proofs.Tryz.zeroValue3,
 t4:=Go.Proofs.Tryz.underlying4,
 a4:=Go.Proofs.Tryz.isAgg4,
 z4:=Go.Proofs.Tryz.sizeOf4,
 v4:=Go.Proofs.Tryz.zeroValue4,
 t5:=Go.Proofs.Tryz.underlying5,
 a5:=Go.Proofs.Tryz.isAgg5,
 z5:=Go.Proofs.Tryz.sizeOf5,
 v5:=Go.Proofs.Tryz.zeroValue5,
 t9:=Go.Proofs.Tryz.underlying9,
 a9:=Go.Proofs.Tryz.isAgg9,
 z9:=Go.Proofs.Tryz.sizeOf9,
 v9:=Go.Proofs.Tryz.zeroValue9,
 t20:=Go.Proofs.Tryz.underlying20,
 a20:=Go.Proofs.Tryz.isAgg20,
 z20:=Go.Proofs.Tryz.sizeOf20,
 v20:=Go.Proofs.Tryz.zeroValue20,
 t37:=Go.Proofs.Tryz.underlying145,
 a37:=Go.Proofs.Tryz.isAgg145,
 z37:=Go.Proofs.Tryz.sizeOf145,
 v37:=Go.Proofs.Tryz.zeroValue145,
 t46:=Go.Proofs.Tryz.underlying248,
 a46:=Go.Proofs.Tryz.isAgg248,
 z46:=Go.Proofs.Tryz.sizeOf248,
 v46:=Go.Proofs.Tryz.zeroValue248,
 t51:=Go.Proofs.Tryz.underlying267,
 a51:=Go.Proofs.Tryz.isAgg267,
 z51:=Go.Proofs.Tryz.sizeOf267,
 v51:=Go.Proofs.Tryz.zeroValue267,
 t53:=Go.Proofs.Tryz.underlying101,
 a53:=Go.Proofs.Tryz.isAgg101,
 z53:=Go.Proofs.Tryz.sizeOf101,
 v53:=Go.Proofs.Tryz.zeroValue101,
 t70:=Go.Proofs.Tryz.underlying144,
 a70:=Go.Proofs.Tryz.isAgg144,
 z70:=Go.Proofs.Tryz.sizeOf144,
 v70:=Go.Proofs.Tryz.zeroValue144,
 t72:=Go.Proofs.Tryz.underlying147,
 a72:=Go.Proofs.Tryz.isAgg147,
 z72:=Go.Proofs.Tryz.sizeOf147,
 v72:=Go.Proofs.Tryz.zeroValue147,
 t75:=Go.Proofs.Tryz.underlying149,
 a75:=Go.Proofs.Tryz.isAgg149,
 z75:=Go.Proofs.Tryz.sizeOf149,
 v75:=Go.Proofs.Tryz.zeroValue149,
 t76:=Go.Proofs.Tryz.underlying150,
 a76:=Go.Proofs.Tryz.isAgg150,
 z76:=Go.Proofs.Tryz.sizeOf150,
 v76:=Go.Proofs.Tryz.zeroValue150,
 t109:=Go.Proofs.Tryz.underlying255,
 a109:=Go.Proofs.Tryz.isAgg255,
 z109:=Go.Proofs.Tryz.sizeOf255,
 v109:=Go.Proofs.Tryz.zeroValue255,
 t127:=Go.Proofs.Tryz.underlying217,
 a127:=Go.Proofs.Tryz.isAgg217,
 z127:=Go.Proofs.Tryz.sizeOf217,
 v127:=Go.Proofs.Tryz.zeroValue217,
 t146:=Go.Proofs.Tryz.underlying268,
 a146:=Go.Proofs.Tryz.isAgg268,
 z146:=Go.Proofs.Tryz.sizeOf268,
 v146:=Go.Proofs.Tryz.zeroValue268,
 t148:=Go.Proofs.Tryz.underlying211,
 a148:=Go.Proofs.Tryz.isAgg211,
 z148:=Go.Proofs.Tryz.sizeOf211,
 v148:=Go.Proofs.Tryz.zeroValue211,
 t164:=Go.Proofs.Tryz.underlying246,
 a164:=Go.Proofs.Tryz.isAgg246,
 z164:=Go.Proofs.Tryz.sizeOf246,
 v164:=Go.Proofs.Tryz.zeroValue246}
theorem Tryz.lO:Go.Proofs.Builder.Extra Go.Proofs.Tryz.prog Tryz.fo:={
 sizeBuilder:=by kernel_rfl,
 liesBuilder:=by kernel_rfl,
 t5:=Tryz.dt.t5,
 a5:=Tryz.dt.a5,
 z5:=Tryz.dt.z5,
 v5:=Tryz.dt.v5,
 infoByte:=by kernel_rfl,
 cellsByte:=by kernel_rfl,
 sizeByte:=by kernel_rfl,
 neB5:=by decide}
noncomputable abbrev zop:Code:=Tryz.f206.body.getD .skip
theorem zhg:p8 Tryz.prog 206:=⟨Tryz.f206,zop,Tryz.func206,by kernel_rfl,by kernel_rfl⟩
def z97:Pure:=fun R l b K=>fq b (gl .str (.int .i64) l fun x0 x1=>(strings_Repeat x0 x1).bind fun r=>K [.ah .str r []] none)
theorem zoq:z97.Nat:=fun R S l b F G K h=>BS (zyb fun _ _=>tf fun _=>h _ _)
def n6:ag:=FO.add 206 [] z97
theorem TP:aI Tryz.prog n6:=⟨UO.mix,PS UO.nat zoq,acz UO.su zhg strings_Repeat (zcw Tryz.dt Tryz.lO (by kernel_rfl))⟩
def QR:Env:=bX.env (fun i=>bif Nat.beq i 1 then [0,1] else []) (fun i=>bif Nat.beq i 1 then [0] else []) [] [.str,(.int .u8)]
def Po(a:ByteArray)(b:Int):Option R:=av (ev QR (n6 R) kk (sub [1,0,0,0] (cd Tryz.f221))) [0,1] [0] k ⟨[tS a]::[tU b]::uS 21 [],nS 24 []⟩ J
def zeu(a:ByteArray):State:=⟨[tS a]::uS 22 [],nS 24 []⟩
def IL:KX R:=(zk 0 (aH QR (n6 R) kk (sub [1,1] (cd Tryz.f221)) (aF QR Tryz.f221.results.toList none K)))
theorem ad1(a:ByteArray)(b:Int):Po R kk (k+1) J a b=
 Pq a b (Po R kk k J) (fun a0=>J (.exit 0) (zeu a0)):=by kernel_rfl
theorem X7(a:ByteArray):IL R kk K (.exit 0) (zeu a)=
 Pr a (fun a0=>K [tS a0] none):=by kernel_rfl
theorem aaU{kk:Nat}(hF:kk=ae)(dO:ByteArray)(zK:Int):Po R kk k J dO zK=(Dk k dO zK).bind fun e=>J (.exit 0) (zeu e):=by
 induction k generalizing dO zK with
 |zero=>rfl
 |succ k ih=>
  rw[ad1]
  simp only[Dk,Pq,ih,ax]
def n7:ag:=n6.add 221 [.str,(.int .u8)] (cU .str (.int .u8) tP (fun _ r K=>K [tS r] none))
theorem TQ:aI Tryz.prog n7:=cW QR Tryz.f221 (fun R kk x0 x1 K=>Pp x0 x1 (Po R kk kk (IL R kk K))) TP (ek _ _ _ _) Tryz.func221 (by kernel_rfl) rfl (fun _ _ _ _ _ _ h=>h _ _) (fun _ _ _ _ _=>by kernel_rfl) fun R kk e x0 x1 K=>by
 simp only[tP,Pp,Pr,aaU (hF:=e),X7,ax,<-e]
def QQ:Env:=bX.env (fun i=>bif Nat.beq i 1 then [0,1] else []) (fun i=>bif Nat.beq i 1 then [0] else []) [] [.str,(.int .u8)]
def Pj(a:ByteArray)(b:Int):Option R:=av (ev QQ (n7 R) kk (sub [1,0,0,0] (cd Tryz.f220))) [0,1] [0] k ⟨[tS a]::[tU b]::uS 15 [],nS 18 []⟩ J
def zet(a:ByteArray):State:=⟨[tS a]::uS 16 [],nS 18 []⟩
def IK:KX R:=(zk 0 (aH QQ (n7 R) kk (sub [1,1] (cd Tryz.f220)) (aF QQ Tryz.f220.results.toList none K)))
theorem ad0(a:ByteArray)(b:Int):Pj R kk (k+1) J a b=
 Pm a b (Pj R kk k J) (fun a0=>J (.exit 0) (zet a0)):=by kernel_rfl
theorem X6(a:ByteArray):IK R kk K (.exit 0) (zet a)=
 Pn a (fun a0=>K [tS a0] none):=by kernel_rfl
theorem aaT{kk:Nat}(hF:kk=ae)(dO:ByteArray)(zK:Int):Pj R kk k J dO zK=(Dj k dO zK).bind fun e=>J (.exit 0) (zet e):=by
 induction k generalizing dO zK with
 |zero=>rfl
 |succ k ih=>
  rw[ad0]
  simp only[Dj,Pm,ih,ax]
def wL:ag:=n7.add 220 [.str,(.int .u8)] (cU .str (.int .u8) tO (fun _ r K=>K [tS r] none))
theorem TR:aI Tryz.prog wL:=cW QQ Tryz.f220 (fun R kk x0 x1 K=>Pk x0 x1 (Pj R kk kk (IK R kk K))) TQ (ek _ _ _ _) Tryz.func220 (by kernel_rfl) rfl (fun _ _ _ _ _ _ h=>h _ _) (fun _ _ _ _ _=>by kernel_rfl) fun R kk e x0 x1 K=>by
 simp only[tO,Pk,Pn,aaT (hF:=e),X6,ax,<-e]
def agb:Env:=e0 [.str,.str]
def wM:ag:=wL.add 207 [.str,.str] (cU .str .str qW (fun _ r K=>K [tS r] none))
theorem TS:aI Tryz.prog wM:=cW agb Tryz.f207 (fun R kk x0 x1 K=>Ph x0 x1 (fun a0=>K [tS a0] none)) TR (ek _ _ _ _) Tryz.func207 (by kernel_rfl) rfl (fun _ _ _ _ _ _ h=>h _ _) (fun _ _ _ _ _=>by kernel_rfl) fun R kk e x0 x1 K=>by
 simp only[qW,Ph,ax]
def Eg:Env:=e0 [.str,(.int .i64)]
def n8:ag:=wM.add 171 [.str,(.int .i64)] (cU .str (.int .i64) Ef (fun _ r K=>K [tS r.1,tB r.2] none))
theorem TT:aI Tryz.prog n8:=cW Eg Tryz.f171 (fun R kk x0 x1 K=>Re x0 x1 (fun a0 a1=>K [tS a0,tB a1] none)) TS (ek _ _ _ _) Tryz.func171 (by kernel_rfl) rfl (fun _ _ _ _ _ _ h=>h _ _) (fun _ _ _ _ _=>by kernel_rfl) fun R kk e x0 x1 K=>by
 simp only[Ef,Re,ax]
def nx:Env:=bX.env (fun i=>bif Nat.beq i 2 then [1,8,9,10] else []) (fun i=>bif Nat.beq i 2 then [4,5] else []) [] [(.sl 116 (.pair .str (.pair .str .unit))),.str]
def QH(a:ByteArray)(b:aP)(c d:Int):Option R:=av (ev nx (n8 R) kk (sub [1,0,1,0,0] (cd Tryz.f172))) [1,8,9,10] [4,5] k ⟨uS 1 ([tS a]::uS 6 ([.ah (.sl 116 (.pair .str (.pair .str .unit))) b []]::[tI c]::[tI d]::uS 10 [])),nS 22 []⟩ J
def zmy(a:ByteArray)(b:Bool):State:=⟨uS 4 ([tS a]::[tB b]::uS 15 []),nS 22 []⟩
def zmz:State:=⟨uS 21 [],nS 22 []⟩
def AO:KX R:=(zk 0 (aH nx (n8 R) kk (sub [1,1] (cd Tryz.f172)) (aF nx Tryz.f172.results.toList none K)))
theorem af3(a:ByteArray)(b:aP)(c d:Int):QH R kk (k+1) J a b c d=
 AP a b c d (fun a0 a1=>J .ret (zmy a0 a1)) (QH R kk k J) (J (.exit 0) (zmz)):=by kernel_rfl
theorem aaK(a:ByteArray)(b:Bool):AO R kk K .ret (zmy a b)=
 z116 a b (fun a0 a1=>K [tS a0,tB a1] none):=by kernel_rfl
theorem aaL:AO R kk K (.exit 0) (zmz)=
 z117 (fun a0 a1=>K [tS a0,tB a1] none):=by kernel_rfl
theorem adS{kk:Nat}(hF:kk=ae)(nm:ByteArray)(t8:aP)(t9 t10:Int):QH R kk k J nm t8 t9 t10=(Lw k nm t8 t9 t10).bind fun e=>(Sum.elim (fun(we:hJ)=>J .ret (zmy we.1 we.2)) (fun(we:Unit)=>J (.exit 0) (zmz)) e):=by
 induction k generalizing nm t8 t9 t10 with
 |zero=>rfl
 |succ k ih=>
  rw[af3]
  simp only[Lw,AP,ih,ax]
def wN:ag:=n8.add 172 [(.sl 116 (.pair .str (.pair .str .unit))),.str] (cU (.sl 116 (.pair .str (.pair .str .unit))) .str Ed (fun _ r K=>K [tS r.1,tB r.2] none))
theorem TU:aI Tryz.prog wN:=cW nx Tryz.f172 (fun R kk x0 x1 K=>QI x0 x1 (QH R kk kk (AO R kk K))) TT (ek _ _ _ _) Tryz.func172 (by kernel_rfl) rfl (fun _ _ _ _ _ _ h=>h _ _) (fun _ _ _ _ _=>by kernel_rfl) fun R kk e x0 x1 K=>by
 simp only[Ed,QI,z116,z117,adS (hF:=e),aaK,aaL,ax,<-e]
def afZ:Env:=bX.env (fun _=>[]) (fun _=>[]) [6] [fC,aT,.str]
def j6:ag:=wN.add 110 [fC,aT,.str] (jE fC aT .str mP (fun _ r K=>K [.ah (.pair (.int .i64) (.pair .str .unit)) r.1 [],tI r.2] none))
theorem TV:aI Tryz.prog j6:=jV afZ Tryz.f110 (fun R kk x0 x1 x2 K=>OR x0 x1 x2 (fun a0 a1=>K [.ah (.pair (.int .i64) (.pair .str .unit)) a0 [],tI a1] none)) TU (ek _ _ _ _) Tryz.func110 (by kernel_rfl) rfl (fun _ _ _ _ _ _ h=>h _ _) (fun _ _ _ _ _ _=>by kernel_rfl) fun R kk e x0 x1 x2 K=>by
 simp only[mP,OR,ax]
def Co:Env:={{bX.env (fun i=>bif Nat.beq i 12 then [4,6,7,8,9,16,59,60,61] else bif Nat.beq i 18 then [4,6,8,9,16,76,77,78] else []) (fun i=>bif Nat.beq i 12 then [4,6,7,8,9,16] else bif Nat.beq i 18 then [8,9,16] else []) [8,9] [dK,aT,aT,y5] with dr:=fun i=>bif Nat.beq i 12 then [17] else []} with ro:=true}
def PI(a:cn)(b c:Int)(d:aE)(e:ai)(f g:af)(h:ay)(i:af):Option R:=av (ev Co (j6 R) kk (sub [1,1,1,1,1,1,0,1,0,0] (cd Tryz.f40))) [4,6,7,8,9,16,59,60,61] [4,6,7,8,9,16] k ⟨uS 4 ([.ptr 5 dK []]::uS 1 ([.ptr 7 aT []]::[.ptr 8 y5 []]::[.ptr 9 y5 []]::[.ptr 10 (.pair (.int .i64) (.pair (.int .i64) .unit)) []]::uS 6 ([.ptr 17 y5 []]::uS 42 ([.ah (.sl 59 fC) a []]::[tI b]::[tI c]::uS 60 [])))),nS 5 ((some ⟨dK,d,[]⟩)::nS 1 ((some ⟨aT,e,[]⟩)::(some ⟨y5,f,[]⟩)::(some ⟨y5,g,[[1]]⟩)::(some ⟨(.pair (.int .i64) (.pair (.int .i64) .unit)),h,[]⟩)::nS 6 ((some ⟨y5,i,[]⟩)::nS 105 [])))⟩ J
def zf5(a:aE)(b:ai)(c d:af)(e:ay)(f:af):State:=⟨uS 4 ([.ptr 5 dK []]::uS 1 ([.ptr 7 aT []]::[.ptr 8 y5 []]::[.ptr 9 y5 []]::[.ptr 10 (.pair (.int .i64) (.pair (.int .i64) .unit)) []]::uS 6 ([.ptr 17 y5 []]::uS 105 []))),nS 5 ((some ⟨dK,a,[]⟩)::nS 1 ((some ⟨aT,b,[]⟩)::(some ⟨y5,c,[]⟩)::(some ⟨y5,d,[[1]]⟩)::(some ⟨(.pair (.int .i64) (.pair (.int .i64) .unit)),e,[]⟩)::nS 6 ((some ⟨y5,f,[]⟩)::nS 105 [])))⟩
def IP:KX R:=(zk 0 (aH Co (j6 R) kk (sub [1,1,1,1,1,1,1] (cd Tryz.f40)) (aF Co Tryz.f40.results.toList none K)))
def PJ(a:ar)(b c:Int)(d:aE)(e:ai)(f:af)(g:ay)(h:af):Option R:=av (ev Co (j6 R) kk (sub [1,1,1,1,1,1,1,0,1,0,0] (cd Tryz.f40))) [4,6,8,9,16,76,77,78] [8,9,16] k ⟨uS 4 ([.ptr 5 dK []]::uS 1 ([.ptr 7 aT []]::uS 1 ([.ptr 9 y5 []]::[.ptr 10 (.pair (.int .i64) (.pair (.int .i64) .unit)) []]::uS 6 ([.ptr 17 y5 []]::uS 59 ([.ah (.sl 90 (.pair (.int .i64) (.pair .str .unit))) a []]::[tI b]::[tI c]::uS 43 []))))),nS 5 ((some ⟨dK,d,[]⟩)::nS 1 ((some ⟨aT,e,[]⟩)::nS 1 ((some ⟨y5,f,[[1]]⟩)::(some ⟨(.pair (.int .i64) (.pair (.int .i64) .unit)),g,[]⟩)::nS 6 ((some ⟨y5,h,[]⟩)::nS 105 []))))⟩ J
def zf6(a:af)(b:ay)(c:af):State:=⟨uS 8 ([.ptr 9 y5 []]::[.ptr 10 (.pair (.int .i64) (.pair (.int .i64) .unit)) []]::uS 6 ([.ptr 17 y5 []]::uS 105 [])),nS 9 ((some ⟨y5,a,[[1]]⟩)::(some ⟨(.pair (.int .i64) (.pair (.int .i64) .unit)),b,[]⟩)::nS 6 ((some ⟨y5,c,[]⟩)::nS 105 []))⟩
def zf7(a:af)(b:ay)(c:af):State:=⟨uS 8 ([.ptr 9 y5 []]::[.ptr 10 (.pair (.int .i64) (.pair (.int .i64) .unit)) []]::uS 6 ([.ptr 17 y5 []]::uS 105 [])),nS 9 ((some ⟨y5,a,[[1]]⟩)::(some ⟨(.pair (.int .i64) (.pair (.int .i64) .unit)),b,[]⟩)::nS 6 ((some ⟨y5,c,[]⟩)::nS 105 []))⟩
def zx3:KX R:=(zk 2 (aH Co (j6 R) kk (sub [1,1,1,1,1,1,1,1] (cd Tryz.f40)) (aF Co Tryz.f40.results.toList none K)))
theorem ad8(a:cn)(b c:Int)(d:aE)(e:ai)(f g:af)(h:ay)(i:af):PI R kk (k+1) J a b c d e f g h i=
 zx4 a b c d e f g h i (PI R kk k J) (fun a0 a1 a2 a3 a4 a5=>J (.exit 0) (zf5 a0 a1 a2 a3 a4 a5)):=by kernel_rfl
theorem Yh(a:aE)(b:ai)(c d:af)(e:ay)(f:af):IP R kk K (.exit 0) (zf5 a b c d e f)=
 PL a b c d e f (PJ R kk kk (zx3 R kk K)):=by kernel_rfl
theorem ad9(a:ar)(b c:Int)(d:aE)(e:ai)(f:af)(g:ay)(h:af):PJ R kk (k+1) J a b c d e f g h=
 zx5 a b c d e f g h (fun a0 a1 a2=>J .ret (zf6 a0 a1 a2)) (PJ R kk k J) (fun a0 a1 a2=>J (.exit 2) (zf7 a0 a1 a2)):=by kernel_rfl
theorem Yi(a:af)(b:ay)(c:af):zx3 R kk K .ret (zf6 a b c)=
 zx6 a b c (fun a0 a1=>K [.ah y5 a0 [],.ah (.pair (.int .i64) (.pair (.int .i64) .unit)) a1 []] none):=by kernel_rfl
theorem Yj(a:af)(b:ay)(c:af):zx3 R kk K (.exit 2) (zf7 a b c)=
 zx7 a b c (fun a0 a1=>K [.ah y5 a0 [],.ah (.pair (.int .i64) (.pair (.int .i64) .unit)) a1 []] none):=by kernel_rfl
theorem aa2{kk:Nat}(hF:kk=ae)(t59:cn)(t60 t61:Int)(cF:aE)(gQ:ai)(mZ zH:af)(zJ:ay)(iX:af):PI R kk k J t59 t60 t61 cF gQ mZ zH zJ iX=(Lf k t59 t60 t61 cF gQ mZ zH zJ iX).bind fun e=>J (.exit 0) (zf5 e.1 e.2.1 e.2.2.1 e.2.2.2.1 e.2.2.2.2.1 e.2.2.2.2.2):=by
 induction k generalizing t59 t60 t61 cF gQ mZ zH zJ iX with
 |zero=>rfl
 |succ k ih=>
  rw[ad8]
  simp only[Lf,zx4,ih,ax]
theorem aa3{kk:Nat}(hF:kk=ae)(t76:ar)(t77 t78:Int)(cF:aE)(gQ:ai)(zH:af)(zJ:ay)(iX:af):PJ R kk k J t76 t77 t78 cF gQ zH zJ iX=(Lg k t76 t77 t78 cF gQ zH zJ iX).bind fun e=>(Sum.elim (fun(we:pD)=>J .ret (zf6 we.1 we.2.1 we.2.2)) (fun(we:pD)=>J (.exit 2) (zf7 we.1 we.2.1 we.2.2)) e):=by
 induction k generalizing t76 t77 t78 cF gQ zH zJ iX with
 |zero=>rfl
 |succ k ih=>
  rw[ad9]
  simp only[Lg,zx5,ih,ax]
def wO:ag:=j6.add 40 [dK,aT,aT,y5] (Ax dK aT aT y5 pw (fun _ r K=>K [.ah y5 r.1 [],.ah (.pair (.int .i64) (.pair (.int .i64) .unit)) r.2 []] none))
theorem TW:aI Tryz.prog wO:=CU Co Tryz.f40 (fun R kk x0 x1 x2 x3 K=>PK x0 x1 x2 x3 (fun a0 a1=>K [.ah y5 a0 [],.ah (.pair (.int .i64) (.pair (.int .i64) .unit)) a1 []] none) (PI R kk kk (IP R kk K))) TV (((ek _ _ _ _).dr _).ro _) Tryz.func40 (by kernel_rfl) rfl (fun _ _ _ _ _ _ h=>h _ _) (fun _ _ _ _ _ _ _=>by kernel_rfl) fun R kk e x0 x1 x2 x3 K=>by
 simp only[pw,PK,PL,zx6,zx7,aa2 (hF:=e),aa3 (hF:=e),Yh,Yi,Yj,ax,<-e]
def afW:Env:={e0 [kX,(.int .i64),.str] with fr:=fun i=>bif Nat.beq i 5 then [12,4] else []}
def wP:ag:=wO.add 14 [kX,(.int .i64),.str] (jE kX (.int .i64) .str lz (fun _ r K=>K [tI r.1,tS r.2] none))
theorem TX:aI Tryz.prog wP:=jV afW Tryz.f14 (fun R kk x0 x1 x2 K=>OP x0 x1 x2 (fun a0 a1=>K [tI a0,tS a1] none)) TW ((ek _ _ _ _).fr _) Tryz.func14 (by kernel_rfl) rfl (fun _ _ _ _ _ _ h=>h _ _) (fun _ _ _ _ _ _=>by kernel_rfl) fun R kk e x0 x1 x2 K=>by
 simp only[lz,OP,ax]
def Ew:Env:=e0 []
def n9:ag:=wP.add 9 [] (Aw yN (fun _ r K=>K [tB r] none))
theorem TY:aI Tryz.prog n9:=CT Ew Tryz.f9 (fun R kk K=>A3 (fun a0=>K [tB a0] none)) TX (ek _ _ _ _) Tryz.func9 (by kernel_rfl) rfl (fun _ _ _ _ _ _ h=>h _ _) (fun _ _ _=>by kernel_rfl) fun R kk e K=>by
 simp only[yN,A3,ax]
def Qq:Env:=bX.env (fun i=>bif Nat.beq i 4 then [1,3] else []) (fun i=>bif Nat.beq i 4 then [2] else []) [] [df]
def NY(a:Int)(b:aB):Option R:=av (ev Qq (n9 R) kk (sub [1,1,0,1,0,0] (cd Tryz.f28))) [1,3] [2] k ⟨uS 1 ([.ptr 2 df []]::uS 1 ([tI a]::uS 32 [])),nS 2 ((some ⟨df,b,[]⟩)::nS 34 [])⟩ J
def zdn(a:Bool):State:=⟨uS 2 ([tB a]::uS 33 []),nS 37 []⟩
def zdo:State:=⟨uS 36 [],nS 37 []⟩
def zuo:KX R:=(zk 0 (aH Qq (n9 R) kk (sub [1,1,1] (cd Tryz.f28)) (aF Qq Tryz.f28.results.toList none K)))
theorem adA(a:Int)(b:aB):NY R kk (k+1) J a b=
 zup a b (fun a0=>J .ret (zdn a0)) (NY R kk k J) (J (.exit 0) (zdo)):=by kernel_rfl
theorem Xp(a:Bool):zuo R kk K .ret (zdn a)=
 zuq a (fun a0=>K [tB a0] none):=by kernel_rfl
theorem Xq:zuo R kk K (.exit 0) (zdo)=
 zur (fun a0=>K [tB a0] none):=by kernel_rfl
end
end Go.Proofs.YtkgpjibbdpikcaaGreatDoor

namespace Go.Proofs.YtkgpjibbdpikcaaGreatDoor
noncomputable section
open Go Go.Ref bu
variable (R:Type) (kk k:Nat) (K:KF R) (J:KX R)
theorem aas{kk:Nat}(hF:kk=ae)(t3:Int)(ey:aB):NY R kk k J t3 ey=(KS k t3 ey).bind fun e=>(Sum.elim (fun(we:Bool)=>J .ret (zdn we)) (fun(we:Unit)=>J (.exit 0) (zdo)) e):=by
 induction k generalizing t3 ey with
 |zero=>rfl
 |succ k ih=>
  rw[adA]
  simp only[KS,zup,ih,ax]
def oc:ag:=n9.add 28 [df] (cG df lv (fun _ r K=>K [tB r] none))
theorem T0:aI Tryz.prog oc:=cH Qq Tryz.f28 (fun R kk x0 K=>NZ x0 (fun a0=>K [tB a0] none) (NY R kk kk (zuo R kk K))) TY (ek _ _ _ _) Tryz.func28 (by kernel_rfl) rfl (fun _ _ _ _ _ _ h=>h _ _) (fun _ _ _ _=>by kernel_rfl) fun R kk e x0 K=>by
 simp only[lv,NZ,zuq,zur,aas (hF:=e),Xp,Xq,ax,<-e]
def Qn:Env:=bX.env (fun i=>bif Nat.beq i 4 then [1,3] else []) (fun i=>bif Nat.beq i 4 then [2] else []) [] [fC]
def NR(a:Int)(b:bD):Option R:=av (ev Qn (oc R) kk (sub [1,1,0,1,0,0] (cd Tryz.f71))) [1,3] [2] k ⟨uS 1 ([.ptr 2 fC []]::uS 1 ([tI a]::uS 35 [])),nS 2 ((some ⟨fC,b,[]⟩)::nS 37 [])⟩ J
def zdh(a:Bool):State:=⟨uS 2 ([tB a]::uS 36 []),nS 40 []⟩
def zdi:State:=⟨uS 39 [],nS 40 []⟩
def zuf:KX R:=(zk 0 (aH Qn (oc R) kk (sub [1,1,1] (cd Tryz.f71)) (aF Qn Tryz.f71.results.toList none K)))
theorem adx(a:Int)(b:bD):NR R kk (k+1) J a b=
 KP a b (fun a0=>J .ret (zdh a0)) (NR R kk k J) (J (.exit 0) (zdi)):=by kernel_rfl
theorem Xj(a:Bool):zuf R kk K .ret (zdh a)=
 zug a (fun a0=>K [tB a0] none):=by kernel_rfl
theorem Xk:zuf R kk K (.exit 0) (zdi)=
 zuh (fun a0=>K [tB a0] none):=by kernel_rfl
theorem aap{kk:Nat}(hF:kk=ae)(t3:Int)(ey:bD):NR R kk k J t3 ey=(vM k t3 ey).bind fun e=>(Sum.elim (fun(we:Bool)=>J .ret (zdh we)) (fun(we:Unit)=>J (.exit 0) (zdi)) e):=by
 induction k generalizing t3 ey with
 |zero=>rfl
 |succ k ih=>
  rw[adx]
  simp only[vM,KP,ih,ax]
def j7:ag:=oc.add 71 [fC] (cG fC mL (fun _ r K=>K [tB r] none))
theorem T1:aI Tryz.prog j7:=cH Qn Tryz.f71 (fun R kk x0 K=>NS x0 (fun a0=>K [tB a0] none) (NR R kk kk (zuf R kk K))) T0 (ek _ _ _ _) Tryz.func71 (by kernel_rfl) rfl (fun _ _ _ _ _ _ h=>h _ _) (fun _ _ _ _=>by kernel_rfl) fun R kk e x0 K=>by
 simp only[mL,NS,zug,zuh,aap (hF:=e),Xj,Xk,ax,<-e]
def Ck:Env:=bX.env (fun i=>bif Nat.beq i 4 then [1,3] else bif Nat.beq i 9 then [1,4] else []) (fun i=>bif Nat.beq i 4 then [1,2] else bif Nat.beq i 9 then [2] else []) [] [dK]
def NT(a:Int)(b:aE):Option R:=av (ev Ck (j7 R) kk (sub [1,1,0,1,0,0] (cd Tryz.f29))) [1,3] [1,2] k ⟨uS 1 ([.ptr 2 dK []]::uS 1 ([tI a]::uS 49 [])),nS 2 ((some ⟨dK,b,[]⟩)::nS 51 [])⟩ J
def zdj(a:Bool)(b:aE):State:=⟨uS 1 ([.ptr 2 dK []]::[tB a]::uS 50 []),nS 2 ((some ⟨dK,b,[]⟩)::nS 51 [])⟩
def zdk(a:aE):State:=⟨uS 1 ([.ptr 2 dK []]::uS 51 []),nS 2 ((some ⟨dK,a,[]⟩)::nS 51 [])⟩
def zui:KX R:=(zk 0 (aH Ck (j7 R) kk (sub [1,1,1] (cd Tryz.f29)) (aF Ck Tryz.f29.results.toList none K)))
def NU(a:Int)(b:aE):Option R:=av (ev Ck (j7 R) kk (sub [1,1,1,0,1,0,0] (cd Tryz.f29))) [1,4] [2] k ⟨uS 1 ([.ptr 2 dK []]::uS 2 ([tI a]::uS 48 [])),nS 2 ((some ⟨dK,b,[]⟩)::nS 51 [])⟩ J
def zdl(a:Bool):State:=⟨uS 2 ([tB a]::uS 50 []),nS 54 []⟩
def zdm:State:=⟨uS 53 [],nS 54 []⟩
def zuj:KX R:=(zk 2 (aH Ck (j7 R) kk (sub [1,1,1,1] (cd Tryz.f29)) (aF Ck Tryz.f29.results.toList none K)))
theorem ady(a:Int)(b:aE):NT R kk (k+1) J a b=
 KR a b (fun a0 a1=>J .ret (zdj a0 a1)) (NT R kk k J) (fun a0=>J (.exit 0) (zdk a0)):=by kernel_rfl
theorem Xl(a:Bool)(b:aE):zui R kk K .ret (zdj a b)=
 zuk a b (fun a0=>K [tB a0] none):=by kernel_rfl
theorem Xm(a:aE):zui R kk K (.exit 0) (zdk a)=
 NW a (NU R kk kk (zuj R kk K)):=by kernel_rfl
theorem adz(a:Int)(b:aE):NU R kk (k+1) J a b=
 zul a b (fun a0=>J .ret (zdl a0)) (NU R kk k J) (J (.exit 2) (zdm)):=by kernel_rfl
theorem Xn(a:Bool):zuj R kk K .ret (zdl a)=
 zum a (fun a0=>K [tB a0] none):=by kernel_rfl
theorem Xo:zuj R kk K (.exit 2) (zdm)=
 zun (fun a0=>K [tB a0] none):=by kernel_rfl
theorem aaq{kk:Nat}(hF:kk=ae)(t3:Int)(ey:aE):NT R kk k J t3 ey=(vN k t3 ey).bind fun e=>(Sum.elim (fun(we:(Bool×aE))=>J .ret (zdj we.1 we.2)) (fun(we:aE)=>J (.exit 0) (zdk we)) e):=by
 induction k generalizing t3 ey with
 |zero=>rfl
 |succ k ih=>
  rw[ady]
  simp only[vN,KR,ih,ax]
theorem aar{kk:Nat}(hF:kk=ae)(t4:Int)(ey:aE):NU R kk k J t4 ey=(KQ k t4 ey).bind fun e=>(Sum.elim (fun(we:Bool)=>J .ret (zdl we)) (fun(we:Unit)=>J (.exit 2) (zdm)) e):=by
 induction k generalizing t4 ey with
 |zero=>rfl
 |succ k ih=>
  rw[adz]
  simp only[KQ,zul,ih,ax]
def wQ:ag:=j7.add 29 [dK] (cG dK kA (fun _ r K=>K [tB r] none))
theorem T3:aI Tryz.prog wQ:=cH Ck Tryz.f29 (fun R kk x0 K=>NV x0 (fun a0=>K [tB a0] none) (NT R kk kk (zui R kk K))) T1 (ek _ _ _ _) Tryz.func29 (by kernel_rfl) rfl (fun _ _ _ _ _ _ h=>h _ _) (fun _ _ _ _=>by kernel_rfl) fun R kk e x0 K=>by
 simp only[kA,NV,zuk,NW,zum,zun,aaq (hF:=e),aar (hF:=e),Xl,Xm,Xn,Xo,ax,<-e]
def afC:Env:=e0 [kX]
def wR:ag:=wQ.add 10 [kX] (cG kX pd (fun _ r K=>K [tB r] none))
theorem T4:aI Tryz.prog wR:=cH afC Tryz.f10 (fun R kk x0 K=>N0 x0 (fun a0=>K [tB a0] none)) T3 (ek _ _ _ _) Tryz.func10 (by kernel_rfl) rfl (fun _ _ _ _ _ _ h=>h _ _) (fun _ _ _ _=>by kernel_rfl) fun R kk e x0 K=>by
 simp only[pd,N0,ax]
def EP:Env:=e0 [y9]
def od:ag:=wR.add 143 [y9] (cG y9 sY (fun _ r K=>K [tI r] none))
theorem T5:aI Tryz.prog od:=cH EP Tryz.f143 (fun R kk x0 K=>R8 x0 (fun a0=>K [tI a0] none)) T4 (ek _ _ _ _) Tryz.func143 (by kernel_rfl) rfl (fun _ _ _ _ _ _ h=>h _ _) (fun _ _ _ _=>by kernel_rfl) fun R kk e x0 K=>by
 simp only[sY,R8,ax]
def Qd:Env:=bX.env (fun i=>bif Nat.beq i 7 then [1,4,5] else []) (fun i=>bif Nat.beq i 7 then [2,3] else []) [] [aT]
def Ny(a b:Int)(c:ai):Option R:=av (ev Qd (od R) kk (sub [1,1,1,1,0,1,0,0] (cd Tryz.f142))) [1,4,5] [2,3] k ⟨uS 1 ([.ptr 2 aT []]::uS 2 ([tI a]::[tI b]::uS 49 [])),nS 2 ((some ⟨aT,c,[]⟩)::nS 53 [])⟩ J
def zd5(a b:Int):State:=⟨uS 2 ([tI a]::[tI b]::uS 51 []),nS 56 []⟩
def zd6:State:=⟨uS 55 [],nS 56 []⟩
def ztt:KX R:=(zk 0 (aH Qd (od R) kk (sub [1,1,1,1,1] (cd Tryz.f142)) (aF Qd Tryz.f142.results.toList none K)))
theorem adp(a b:Int)(c:ai):Ny R kk (k+1) J a b c=
 KJ a b c (fun a0 a1=>J .ret (zd5 a0 a1)) (Ny R kk k J) (J (.exit 0) (zd6)):=by kernel_rfl
theorem W7(a b:Int):ztt R kk K .ret (zd5 a b)=
 Nz a b (fun a0 a1=>K [tI a0,tI a1] none):=by kernel_rfl
theorem W8:ztt R kk K (.exit 0) (zd6)=
 NA (fun a0 a1=>K [tI a0,tI a1] none):=by kernel_rfl
theorem aah{kk:Nat}(hF:kk=ae)(t4 t5:Int)(ey:ai):Ny R kk k J t4 t5 ey=(vK k t4 t5 ey).bind fun e=>(Sum.elim (fun(we:(Int×Int))=>J .ret (zd5 we.1 we.2)) (fun(we:Unit)=>J (.exit 0) (zd6)) e):=by
 induction k generalizing t4 t5 ey with
 |zero=>rfl
 |succ k ih=>
  rw[adp]
  simp only[vK,KJ,ih,ax]
def wS:ag:=od.add 142 [aT] (cG aT qx (fun _ r K=>K [tI r.1,tI r.2] none))
theorem T6:aI Tryz.prog wS:=cH Qd Tryz.f142 (fun R kk x0 K=>De x0 (fun a0 a1=>K [tI a0,tI a1] none) (fun a0 a1 a2=>Ny R kk kk (ztt R kk K) a0 a1 a2)) T5 (ek _ _ _ _) Tryz.func142 (by kernel_rfl) rfl (fun _ _ _ _ _ _ h=>h _ _) (fun _ _ _ _=>by kernel_rfl) fun R kk e x0 K=>by
 simp only[qx,Vq,Nz,NA,aah (hF:=e),W7,W8,ax,<-e]
def afw:Env:=e0 [aT]
def oe:ag:=wS.add 84 [aT] (cG aT pa (fun _ r K=>K [tB r] none))
theorem T7:aI Tryz.prog oe:=cH afw Tryz.f84 (fun R kk x0 K=>ND x0 (fun a0=>K [tB a0] none)) T6 (ek _ _ _ _) Tryz.func84 (by kernel_rfl) rfl (fun _ _ _ _ _ _ h=>h _ _) (fun _ _ _ _=>by kernel_rfl) fun R kk e x0 K=>by
 simp only[pa,ND,ax]
def nO:Env:=bX.env (fun i=>bif Nat.beq i 8 then [0,7,8,9] else []) (fun i=>bif Nat.beq i 8 then [4,5,6,8] else []) [] [.str,(.int .i64)]
def RJ(a:ByteArray)(b:Int)(c:ByteArray)(d:Int):Option R:=av (ev nO (oe R) kk (sub [1,1,1,1,1,0,1,0,0] (cd Tryz.f111))) [0,7,8,9] [4,5,6,8] k ⟨[tS a]::uS 6 ([tI b]::[tS c]::[tI d]::uS 62 []),nS 73 []⟩ J
def znh(a:ByteArray)(b c:Int)(d:ByteArray):State:=⟨uS 4 ([tS a]::[tI b]::[tI c]::uS 1 ([tS d]::uS 63 [])),nS 73 []⟩
def zni(a:ByteArray):State:=⟨uS 8 ([tS a]::uS 63 []),nS 73 []⟩
def Bi:KX R:=(zk 0 (aH nO (oe R) kk (sub [1,1,1,1,1,1] (cd Tryz.f111)) (aF nO Tryz.f111.results.toList none K)))
theorem agw(a:ByteArray)(b:Int)(c:ByteArray)(d:Int):RJ R kk (k+1) J a b c d=
 Cv a b c d (fun a0 a1 a2 a3=>J .ret (znh a0 a1 a2 a3)) (RJ R kk k J) (fun a0=>J (.exit 0) (zni a0)):=by kernel_rfl
theorem abo(a:ByteArray)(b c:Int)(d:ByteArray):Bi R kk K .ret (znh a b c d)=
 Bj a b c d (fun a0 a1 a2=>K [tS a0,tI a1,tI a2] none):=by kernel_rfl
theorem abp(a:ByteArray):Bi R kk K (.exit 0) (zni a)=
 LG a (fun a0 a1 a2=>K [tS a0,tI a1,tI a2] none):=by kernel_rfl
theorem aeo{kk:Nat}(hF:kk=ae)(iW:ByteArray)(t7:Int)(t8:ByteArray)(t9:Int):RJ R kk k J iW t7 t8 t9=(z31 k iW t7 t8 t9).bind fun e=>(Sum.elim (fun(we:(ByteArray×Int×Int×ByteArray))=>J .ret (znh we.1 we.2.1 we.2.2.1 we.2.2.2)) (fun(we:ByteArray)=>J (.exit 0) (zni we)) e):=by
 induction k generalizing iW t7 t8 t9 with
 |zero=>rfl
 |succ k ih=>
  rw[agw]
  simp only[z31,Cv,ih,ax]
def wT:ag:=oe.add 111 [.str,(.int .i64)] (cU .str (.int .i64) qb (fun _ r K=>K [tS r.1,tI r.2.1,tI r.2.2] none))
theorem T8:aI Tryz.prog wT:=cW nO Tryz.f111 (fun R kk x0 x1 K=>RK x0 x1 (fun a0 a1 a2=>K [tS a0,tI a1,tI a2] none) (RJ R kk kk (Bi R kk K))) T7 (ek _ _ _ _) Tryz.func111 (by kernel_rfl) rfl (fun _ _ _ _ _ _ h=>h _ _) (fun _ _ _ _ _=>by kernel_rfl) fun R kk e x0 x1 K=>by
 simp only[qb,RK,Bj,LG,aeo (hF:=e),abo,abp,ax,<-e]
def Ez:Env:=e0 [(.int .u8)]
def og:ag:=wT.add 184 [(.int .u8)] (cG (.int .u8) Ey (fun _ r K=>K [tB r] none))
theorem T9:aI Tryz.prog og:=cH Ez Tryz.f184 (fun R kk x0 K=>Ru x0 (fun a0=>K [tB a0] none)) T8 (ek _ _ _ _) Tryz.func184 (by kernel_rfl) rfl (fun _ _ _ _ _ _ h=>h _ _) (fun _ _ _ _=>by kernel_rfl) fun R kk e x0 K=>by
 simp only[Ey,Ru,ax]
def nI:Env:=bX.env (fun i=>bif Nat.beq i 2 then [0,3] else []) (fun i=>bif Nat.beq i 2 then [2] else []) [] [.str]
def Rr(a:ByteArray)(b:Int):Option R:=av (ev nI (og R) kk (sub [1,0,1,0,0] (cd Tryz.f124))) [0,3] [2] k ⟨[tS a]::uS 2 ([tI b]::uS 11 []),nS 16 []⟩ J
def zn7(a:Bool):State:=⟨uS 2 ([tB a]::uS 12 []),nS 16 []⟩
def zn8:State:=⟨uS 15 [],nS 16 []⟩
def A4:KX R:=(zk 0 (aH nI (og R) kk (sub [1,1] (cd Tryz.f124)) (aF nI Tryz.f124.results.toList none K)))
theorem agp(a:ByteArray)(b:Int):Rr R kk (k+1) J a b=
 Rt a b (fun a0=>J .ret (zn7 a0)) (Rr R kk k J) (J (.exit 0) (zn8)):=by kernel_rfl
theorem abd(a:Bool):A4 R kk K .ret (zn7 a)=
 A5 a (fun a0=>K [tB a0] none):=by kernel_rfl
theorem abe:A4 R kk K (.exit 0) (zn8)=
 A6 (fun a0=>K [tB a0] none):=by kernel_rfl
theorem aeh{kk:Nat}(hF:kk=ae)(dO:ByteArray)(t3:Int):Rr R kk k J dO t3=(DB k dO t3).bind fun e=>(Sum.elim (fun(we:Bool)=>J .ret (zn7 we)) (fun(we:Unit)=>J (.exit 0) (zn8)) e):=by
 induction k generalizing dO t3 with
 |zero=>rfl
 |succ k ih=>
  rw[agp]
  simp only[DB,Rt,ih,ax]
def wU:ag:=og.add 124 [.str] (cG .str yO (fun _ r K=>K [tB r] none))
theorem Ua:aI Tryz.prog wU:=cH nI Tryz.f124 (fun R kk x0 K=>Rs x0 (Rr R kk kk (A4 R kk K))) T9 (ek _ _ _ _) Tryz.func124 (by kernel_rfl) rfl (fun _ _ _ _ _ _ h=>h _ _) (fun _ _ _ _=>by kernel_rfl) fun R kk e x0 K=>by
 simp only[yO,Rs,A5,A6,aeh (hF:=e),abd,abe,ax,<-e]
def afz:Env:=e0 [.str]
def wV:ag:=wU.add 112 [.str] (cG .str jK (fun _ r K=>K [tB r] none))
theorem Uc:aI Tryz.prog wV:=cH afz Tryz.f112 (fun R kk x0 K=>NG x0 (fun a0=>K [tB a0] none)) Ua (ek _ _ _ _) Tryz.func112 (by kernel_rfl) rfl (fun _ _ _ _ _ _ h=>h _ _) (fun _ _ _ _=>by kernel_rfl) fun R kk e x0 K=>by
 simp only[jK,NG,ax]
def EA:Env:=e0 []
def oh:ag:=wV.add 181 [] (Aw CJ (fun _ r K=>K [tS r] none))
theorem Ud:aI Tryz.prog oh:=CT EA Tryz.f181 (fun R kk K=>A8 (fun a0=>K [tS a0] none)) Uc (ek _ _ _ _) Tryz.func181 (by kernel_rfl) rfl (fun _ _ _ _ _ _ h=>h _ _) (fun _ _ _=>by kernel_rfl) fun R kk e K=>by
 simp only[CJ,A8,ax]
def nN:Env:=bX.env (fun i=>bif Nat.beq i 2 then [0,3] else []) (fun i=>bif Nat.beq i 2 then [2] else []) [] [(.int .u8)]
def RH(a b:Int):Option R:=av (ev nN (oh R) kk (sub [1,0,1,0,0] (cd Tryz.f208))) [0,3] [2] k ⟨[tU a]::uS 2 ([tI b]::uS 10 []),nS 15 []⟩ J
def znf(a:Int):State:=⟨uS 2 ([tI a]::uS 11 []),nS 15 []⟩
def zng:State:=⟨uS 14 [],nS 15 []⟩
def Bd:KX R:=(zk 0 (aH nN (oh R) kk (sub [1,1] (cd Tryz.f208)) (aF nN Tryz.f208.results.toList none K)))
theorem agv(a b:Int):RH R kk (k+1) J a b=
 Bf a b (fun a0=>J .ret (znf a0)) (RH R kk k J) (J (.exit 0) (zng)):=by kernel_rfl
theorem abm(a:Int):Bd R kk K .ret (znf a)=
 Bg a (fun a0=>K [tI a0] none):=by kernel_rfl
theorem abn:Bd R kk K (.exit 0) (zng)=
 Bh (fun a0=>K [tI a0] none):=by kernel_rfl
theorem aen{kk:Nat}(hF:kk=ae)(iW t3:Int):RH R kk k J iW t3=(RI k iW t3).bind fun e=>(Sum.elim (fun(we:Int)=>J .ret (znf we)) (fun(we:Unit)=>J (.exit 0) (zng)) e):=by
 induction k generalizing iW t3 with
 |zero=>rfl
 |succ k ih=>
  rw[agv]
  simp only[RI,Bf,ih,ax]
def j8:ag:=oh.add 208 [(.int .u8)] (cG (.int .u8) yP (fun _ r K=>K [tI r] none))
theorem Ue:aI Tryz.prog j8:=cH nN Tryz.f208 (fun R kk x0 K=>Be x0 (RH R kk kk (Bd R kk K))) Ud (ek _ _ _ _) Tryz.func208 (by kernel_rfl) rfl (fun _ _ _ _ _ _ h=>h _ _) (fun _ _ _ _=>by kernel_rfl) fun R kk e x0 K=>by
 simp only[yP,Be,Bg,Bh,aen (hF:=e),abm,abn,ax,<-e]
def iS:Env:=bX.env (fun i=>bif Nat.beq i 2 then [0,5] else bif Nat.beq i 10 then [0,6,7] else []) (fun i=>bif Nat.beq i 2 then [0,2,3,4] else bif Nat.beq i 10 then [6] else []) [] [.str]
def RB(a:ByteArray)(b:Int):Option R:=av (ev iS (j8 R) kk (sub [1,0,1,0,0] (cd Tryz.f175))) [0,5] [0,2,3,4] k ⟨[tS a]::uS 4 ([tI b]::uS 44 []),nS 51 []⟩ J
def znb(a b:ByteArray)(c:Int)(d:Bool):State:=⟨[tS a]::uS 1 ([tS b]::[tI c]::[tB d]::uS 45 []),nS 51 []⟩
def znc(a:ByteArray):State:=⟨[tS a]::uS 49 [],nS 51 []⟩
def A9:KX R:=(zk 0 (aH iS (j8 R) kk (sub [1,1] (cd Tryz.f175)) (aF iS Tryz.f175.results.toList none K)))
def RC(a:ByteArray)(b:(List Int))(c:Int):Option R:=av (ev iS (j8 R) kk (sub [1,1,1,1,0,1,0,0] (cd Tryz.f175))) [0,6,7] [6] k ⟨[tS a]::uS 5 ([.ah (.sl 5 (.int .u8)) b [[]]]::[tI c]::uS 42 []),nS 51 []⟩ J
def znd(a:(List Int)):State:=⟨uS 6 ([.ah (.sl 5 (.int .u8)) a [[]]]::uS 43 []),nS 51 []⟩
def JC:KX R:=(zk 2 (aH iS (j8 R) kk (sub [1,1,1,1,1] (cd Tryz.f175)) (aF iS Tryz.f175.results.toList none K)))
theorem ags(a:ByteArray)(b:Int):RB R kk (k+1) J a b=
 LC a b (fun a0 a1 a2 a3=>J .ret (znb a0 a1 a2 a3)) (RB R kk k J) (fun a0=>J (.exit 0) (znc a0)):=by kernel_rfl
theorem abh(a b:ByteArray)(c:Int)(d:Bool):A9 R kk K .ret (znb a b c d)=
 Ba a b c d (fun a0 a1 a2=>K [tS a0,tI a1,tB a2] none):=by kernel_rfl
theorem abj(a:ByteArray):A9 R kk K (.exit 0) (znc a)=
 RE a (fun a0 a1 a2=>K [tS a0,tI a1,tB a2] none) (RC R kk kk (JC R kk K)):=by kernel_rfl
theorem agt(a:ByteArray)(b:(List Int))(c:Int):RC R kk (k+1) J a b c=
 LD a b c (RC R kk k J) (fun a0=>J (.exit 2) (znd a0)):=by kernel_rfl
theorem abk(a:(List Int)):JC R kk K (.exit 2) (znd a)=
 Bb a (fun a0 a1 a2=>K [tS a0,tI a1,tB a2] none):=by kernel_rfl
theorem aek{kk:Nat}(hF:kk=ae)(dO:ByteArray)(t5:Int):RB R kk k J dO t5=(Cr k dO t5).bind fun e=>(Sum.elim (fun(we:(ByteArray×ByteArray×Int×Bool))=>J .ret (znb we.1 we.2.1 we.2.2.1 we.2.2.2)) (fun(we:ByteArray)=>J (.exit 0) (znc we)) e):=by
 induction k generalizing dO t5 with
 |zero=>rfl
 |succ k ih=>
  rw[ags]
  simp only[Cr,LC,ih,ax]
theorem ael{kk:Nat}(hF:kk=ae)(dO:ByteArray)(t6:(List Int))(t7:Int):RC R kk k J dO t6 t7=(Ct k dO t6 t7).bind fun e=>J (.exit 2) (znd e):=by
 induction k generalizing dO t6 t7 with
 |zero=>rfl
 |succ k ih=>
  rw[agt]
  simp only[Ct,LD,ih,ax]
def iV:ag:=j8.add 175 [.str] (cG .str wA (fun _ r K=>K [tS r.1,tI r.2.1,tB r.2.2] none))
theorem Uf:aI Tryz.prog iV:=cH iS Tryz.f175 (fun R kk x0 K=>RD x0 (RB R kk kk (A9 R kk K))) Ue (ek _ _ _ _) Tryz.func175 (by kernel_rfl) rfl (fun _ _ _ _ _ _ h=>h _ _) (fun _ _ _ _=>by kernel_rfl) fun R kk e x0 K=>by
 simp only[wA,RD,Ba,RE,Bb,aek (hF:=e),ael (hF:=e),abh,abj,abk,ax,<-e]
def iU:Env:={bX.env (fun i=>bif Nat.beq i 14 then [3,11,15,16] else bif Nat.beq i 19 then [3,11,15,16,17,18,19] else []) (fun i=>bif Nat.beq i 14 then [15] else bif Nat.beq i 19 then [3,11,15,16] else []) [] [(.int .i64),.str,(.int .i64),(.int .i64)] with ro:=true}
def RX(a:Int)(b:ByteArray)(c:(List Int))(d:Int):Option R:=av (ev iU (iV R) kk (sub [1,1,1,1,1,1,1,0,1,0,0] (cd Tryz.f173))) [3,11,15,16] [15] k ⟨uS 3 ([tI a]::uS 7 ([tS b]::uS 3 ([.ah (.sl 3 (.int .i64)) c [[]]]::[tI d]::uS 58 []))),nS 76 []⟩ J
def znr(a:(List Int)):State:=⟨uS 15 ([.ah (.sl 3 (.int .i64)) a [[]]]::uS 59 []),nS 76 []⟩
def JK:KX R:=(zk 0 (aH iU (iV R) kk (sub [1,1,1,1,1,1,1,1] (cd Tryz.f173)) (aF iU Tryz.f173.results.toList none K)))
def RY(a:Int)(b:ByteArray)(c:(List Int))(d e f g:Int):Option R:=av (ev iU (iV R) kk (sub [1,1,1,1,1,1,1,0,1,0,0,1,0,0,1,1,1,0,0] (cd Tryz.f173))) [3,11,15,16,17,18,19] [3,11,15,16] k ⟨uS 3 ([tI a]::uS 7 ([tS b]::uS 3 ([.ah (.sl 3 (.int .i64)) c [[]]]::[tI d]::[tU e]::[tU f]::[tI g]::uS 55 []))),nS 76 []⟩ J
def zns(a:Int)(b:ByteArray)(c:(List Int))(d:Int):State:=⟨uS 3 ([tI a]::uS 7 ([tS b]::uS 3 ([.ah (.sl 3 (.int .i64)) c [[]]]::[tI d]::uS 58 []))),nS 76 []⟩
def JL:KX R:=(zk 2 (zk 1 (aH iU (iV R) kk (sub [1,1,1,1,1,1,1,0,1,0,0,1,1] (cd Tryz.f173)) (sk (ev iU (iV R) kk (sub [1,1,1,1,1,1,1,0,1,0,0] (cd Tryz.f173))) [3,11,15,16] [15] k J))))
theorem agH(a:Int)(b:ByteArray)(c:(List Int))(d:Int):RX R kk (k+1) J a b c d=
 LN a b c d (RY R kk kk (JL R kk k J)) (fun a0=>J (.exit 0) (znr a0)):=by kernel_rfl
theorem abz(a:(List Int)):JK R kk K (.exit 0) (znr a)=
 RZ a (fun a0 a1=>K [.ah (.sl 3 (.int .i64)) a0 [],tI a1] none):=by kernel_rfl
theorem agI(a:Int)(b:ByteArray)(c:(List Int))(d e f g:Int):RY R kk (k+1) J a b c d e f g=
 LO a b c d e f g (RY R kk k J) (fun a0 a1 a2 a3=>J (.exit 2) (zns a0 a1 a2 a3)):=by kernel_rfl
theorem abA(a:Int)(b:ByteArray)(c:(List Int))(d:Int):JL R kk k J (.exit 2) (zns a b c d)=
 R0 a b c d (RX R kk k J):=by kernel_rfl
theorem aex{kk:Nat}(hF:kk=ae)(fT:Int)(t11:ByteArray)(t15:(List Int))(t16 t17 t18 t19:Int):RY R kk k J fT t11 t15 t16 t17 t18 t19=(CA k fT t11 t15 t16 t17 t18 t19).bind fun e=>J (.exit 2) (zns e.1 e.2.1 e.2.2.1 e.2.2.2):=by
 induction k generalizing fT t11 t15 t16 t17 t18 t19 with
 |zero=>rfl
 |succ k ih=>
  rw[agI]
  simp only[CA,LO,ih,ax]
theorem aew{kk:Nat}(hF:kk=ae)(fT:Int)(t11:ByteArray)(t15:(List Int))(t16:Int):RX R kk k J fT t11 t15 t16=(yx k fT t11 t15 t16).bind fun e=>J (.exit 0) (znr e):=by
 induction k generalizing fT t11 t15 t16 with
 |zero=>rfl
 |succ k ih=>
  rw[agH]
  simp only[yx,LN,R0,ih,aex (hF:=hF),abA,ax,<-hF]
def wW:ag:=iV.add 173 [(.int .i64),.str,(.int .i64),(.int .i64)] (Ax (.int .i64) .str (.int .i64) (.int .i64) nW (fun _ r K=>K [.ah (.sl 3 (.int .i64)) r.1 [],tI r.2] none))
theorem Ug:aI Tryz.prog wW:=CU iU Tryz.f173 (fun R kk x0 x1 x2 x3 K=>DH x0 x1 x2 x3 (fun a0 a1=>K [.ah (.sl 3 (.int .i64)) a0 [],tI a1] none) (fun a0 a1 a2 a3=>RX R kk kk (JK R kk K) a0 a1 a2 a3)) Uf ((ek _ _ _ _).ro _) Tryz.func173 (by kernel_rfl) rfl (fun _ _ _ _ _ _ h=>h _ _) (fun _ _ _ _ _ _ _=>by kernel_rfl) fun R kk e x0 x1 x2 x3 K=>by
 simp only[nW,VS,RZ,aew (hF:=e),abz,ax,<-e]
def EE:Env:={e0 [(.int .i64),.str,(.int .i64)] with ro:=true}
def oi:ag:=wW.add 113 [(.int .i64),.str,(.int .i64)] (jE (.int .i64) .str (.int .i64) tW (fun _ r K=>K [.ah (.sl 3 (.int .i64)) r.1 [],tI r.2.1,tI r.2.2] none))
theorem Uh:aI Tryz.prog oi:=jV EE Tryz.f113 (fun R kk x0 x1 x2 K=>RR x0 x1 x2 (fun a0 a1 a2=>K [.ah (.sl 3 (.int .i64)) a0 [],tI a1,tI a2] none)) Ug ((ek _ _ _ _).ro _) Tryz.func113 (by kernel_rfl) rfl (fun _ _ _ _ _ _ h=>h _ _) (fun _ _ _ _ _ _=>by kernel_rfl) fun R kk e x0 x1 x2 K=>by
 simp only[tW,RR,ax]
def Qe:Env:=bX.env (fun i=>bif Nat.beq i 2 then [1,2,5] else []) (fun i=>bif Nat.beq i 2 then [4] else []) [] [aT,(.int .i64)]
def NB(a b:Int)(c:ai):Option R:=av (ev Qe (oi R) kk (sub [1,0,1,0,0] (cd Tryz.f49))) [1,2,5] [4] k ⟨uS 1 ([tI a]::[.ptr 3 aT []]::uS 2 ([tI b]::uS 16 [])),nS 3 ((some ⟨aT,c,[]⟩)::nS 19 [])⟩ J
def zd7(a:Int):State:=⟨uS 4 ([tI a]::uS 17 []),nS 23 []⟩
def zd8:State:=⟨uS 22 [],nS 23 []⟩
def ztu:KX R:=(zk 0 (aH Qe (oi R) kk (sub [1,1] (cd Tryz.f49)) (aF Qe Tryz.f49.results.toList none K)))
theorem adq(a b:Int)(c:ai):NB R kk (k+1) J a b c=
 ztv a b c (fun a0=>J .ret (zd7 a0)) (NB R kk k J) (J (.exit 0) (zd8)):=by kernel_rfl
theorem W9(a:Int):ztu R kk K .ret (zd7 a)=
 ztw a (fun a0=>K [tI a0] none):=by kernel_rfl
theorem Xa:ztu R kk K (.exit 0) (zd8)=
 ztx (fun a0=>K [tI a0] none):=by kernel_rfl
theorem aai{kk:Nat}(hF:kk=ae)(eB t5:Int)(cX:ai):NB R kk k J eB t5 cX=(KK k eB t5 cX).bind fun e=>(Sum.elim (fun(we:Int)=>J .ret (zd7 we)) (fun(we:Unit)=>J (.exit 0) (zd8)) e):=by
 induction k generalizing eB t5 cX with
 |zero=>rfl
 |succ k ih=>
  rw[adq]
  simp only[KK,ztv,ih,ax]
def wX:ag:=oi.add 49 [aT,(.int .i64)] (cU aT (.int .i64) mK (fun _ r K=>K [tI r] none))
theorem Ui:aI Tryz.prog wX:=cW Qe Tryz.f49 (fun R kk x0 x1 K=>NC x0 x1 (NB R kk kk (ztu R kk K))) Uh (ek _ _ _ _) Tryz.func49 (by kernel_rfl) rfl (fun _ _ _ _ _ _ h=>h _ _) (fun _ _ _ _ _=>by kernel_rfl) fun R kk e x0 x1 K=>by
 simp only[mK,NC,ztw,ztx,aai (hF:=e),W9,Xa,ax,<-e]
def EJ:Env:=e0 [(.int .i64)]
def oj:ag:=wX.add 182 [(.int .i64)] (cG (.int .i64) wF (fun _ r K=>K [tI r] none))
theorem Uj:aI Tryz.prog oj:=cH EJ Tryz.f182 (fun R kk x0 K=>LP x0 (fun a0=>K [tI a0] none)) Ui (ek _ _ _ _) Tryz.func182 (by kernel_rfl) rfl (fun _ _ _ _ _ _ h=>h _ _) (fun _ _ _ _=>by kernel_rfl) fun R kk e x0 K=>by
 simp only[wF,LP,ax]
def nJ:Env:=bX.env (fun i=>bif Nat.beq i 5 then [0,4,5] else []) (fun i=>bif Nat.beq i 5 then [4] else []) [] [.str]
def Rv(a:ByteArray)(b c:Int):Option R:=av (ev nJ (oj R) kk (sub [1,1,1,0,1,0,0] (cd Tryz.f50))) [0,4,5] [4] k ⟨[tS a]::uS 3 ([tI b]::[tI c]::uS 28 []),nS 35 []⟩ J
def zn9(a:Int):State:=⟨uS 4 ([tI a]::uS 29 []),nS 35 []⟩
def JA:KX R:=(zk 0 (aH nJ (oj R) kk (sub [1,1,1,1] (cd Tryz.f50)) (aF nJ Tryz.f50.results.toList none K)))
theorem agq(a:ByteArray)(b c:Int):Rv R kk (k+1) J a b c=
 Rx a b c (Rv R kk k J) (fun a0=>J (.exit 0) (zn9 a0)):=by kernel_rfl
theorem abf(a:Int):JA R kk K (.exit 0) (zn9 a)=
 A7 a (fun a0 a1=>K [tI a0,tB a1] none):=by kernel_rfl
theorem aei{kk:Nat}(hF:kk=ae)(dO:ByteArray)(t4 t5:Int):Rv R kk k J dO t4 t5=(DC k dO t4 t5).bind fun e=>J (.exit 0) (zn9 e):=by
 induction k generalizing dO t4 t5 with
 |zero=>rfl
 |succ k ih=>
  rw[agq]
  simp only[DC,Rx,ih,ax]
def wY:ag:=oj.add 50 [.str] (cG .str qa (fun _ r K=>K [tI r.1,tB r.2] none))
theorem Uk:aI Tryz.prog wY:=cH nJ Tryz.f50 (fun R kk x0 K=>Rw x0 (fun a0 a1=>K [tI a0,tB a1] none) (Rv R kk kk (JA R kk K))) Uj (ek _ _ _ _) Tryz.func50 (by kernel_rfl) rfl (fun _ _ _ _ _ _ h=>h _ _) (fun _ _ _ _=>by kernel_rfl) fun R kk e x0 K=>by
 simp only[qa,Rw,A7,aei (hF:=e),abf,ax,<-e]
def EH:Env:=e0 [(.int .i64),(.int .i64),.str,(.int .i64)]
def wZ:ag:=wY.add 174 [(.int .i64),(.int .i64),.str,(.int .i64)] (Ax (.int .i64) (.int .i64) .str (.int .i64) EG (fun _ r K=>K [tI r.1,tI r.2.1,tI r.2.2] none))
theorem Ul:aI Tryz.prog wZ:=CU EH Tryz.f174 (fun R kk x0 x1 x2 x3 K=>R3 x0 x1 x2 x3 (fun a0 a1 a2=>K [tI a0,tI a1,tI a2] none)) Uk (ek _ _ _ _) Tryz.func174 (by kernel_rfl) rfl (fun _ _ _ _ _ _ h=>h _ _) (fun _ _ _ _ _ _ _=>by kernel_rfl) fun R kk e x0 x1 x2 x3 K=>by
 simp only[EG,R3,ax]
def EC:Env:=e0 [(.int .i64),(.int .u8)]
def om:ag:=wZ.add 193 [(.int .i64),(.int .u8)] (cU (.int .i64) (.int .u8) wD (fun _ r K=>K [tB r] none))
theorem Un:aI Tryz.prog om:=cW EC Tryz.f193 (fun R kk x0 x1 K=>RO x0 x1 (fun a0=>K [tB a0] none)) Ul (ek _ _ _ _) Tryz.func193 (by kernel_rfl) rfl (fun _ _ _ _ _ _ h=>h _ _) (fun _ _ _ _ _=>by kernel_rfl) fun R kk e x0 x1 K=>by
 simp only[wD,RO,ax]
def nQ:Env:=bX.env (fun i=>bif Nat.beq i 2 then [0,1,5] else []) (fun i=>bif Nat.beq i 2 then [4] else []) [] [(.int .i64),.str]
def RM(a:Int)(b:ByteArray)(c:Int):Option R:=av (ev nQ (om R) kk (sub [1,0,1,0,0] (cd Tryz.f144))) [0,1,5] [4] k ⟨[tI a]::[tS b]::uS 3 ([tI c]::uS 13 []),nS 20 []⟩ J
def znk(a:Int):State:=⟨uS 4 ([tI a]::uS 14 []),nS 20 []⟩
def znl:State:=⟨uS 19 [],nS 20 []⟩
def Bl:KX R:=(zk 0 (aH nQ (om R) kk (sub [1,1] (cd Tryz.f144)) (aF nQ Tryz.f144.results.toList none K)))
theorem agy(a:Int)(b:ByteArray)(c:Int):RM R kk (k+1) J a b c=
 LH a b c (fun a0=>J .ret (znk a0)) (RM R kk k J) (J (.exit 0) (znl)):=by kernel_rfl
theorem abr(a:Int):Bl R kk K .ret (znk a)=
 Bm a (fun a0=>K [tI a0] none):=by kernel_rfl
theorem abt:Bl R kk K (.exit 0) (znl)=
 Bn (fun a0=>K [tI a0] none):=by kernel_rfl
theorem aeq{kk:Nat}(hF:kk=ae)(kG:Int)(jU:ByteArray)(t5:Int):RM R kk k J kG jU t5=(Cw k kG jU t5).bind fun e=>(Sum.elim (fun(we:Int)=>J .ret (znk we)) (fun(we:Unit)=>J (.exit 0) (znl)) e):=by
 induction k generalizing kG jU t5 with
 |zero=>rfl
 |succ k ih=>
  rw[agy]
  simp only[Cw,LH,ih,ax]
def xa:ag:=om.add 144 [(.int .i64),.str] (cU (.int .i64) .str EB (fun _ r K=>K [tI r] none))
theorem Uo:aI Tryz.prog xa:=cW nQ Tryz.f144 (fun R kk x0 x1 K=>RN x0 x1 (RM R kk kk (Bl R kk K))) Un (ek _ _ _ _) Tryz.func144 (by kernel_rfl) rfl (fun _ _ _ _ _ _ h=>h _ _) (fun _ _ _ _ _=>by kernel_rfl) fun R kk e x0 x1 K=>by
 simp only[EB,RN,Bm,Bn,aeq (hF:=e),abr,abt,ax,<-e]
def EL:Env:=e0 [(.int .u8)]
def xb:ag:=xa.add 215 [(.int .u8)] (cG (.int .u8) wH (fun _ r K=>K [tI r] none))
theorem Up:aI Tryz.prog xb:=cH EL Tryz.f215 (fun R kk x0 K=>Bs x0 (fun a0=>K [tI a0] none)) Uo (ek _ _ _ _) Tryz.func215 (by kernel_rfl) rfl (fun _ _ _ _ _ _ h=>h _ _) (fun _ _ _ _=>by kernel_rfl) fun R kk e x0 K=>by
 simp only[wH,Bs,ax]
def EM:Env:=e0 [.str,(.int .i64)]
def xc:ag:=xb.add 194 [.str,(.int .i64)] (cU .str (.int .i64) wI (fun _ r K=>K [tI r.1,tI r.2.1,tI r.2.2] none))
theorem Uq:aI Tryz.prog xc:=cW EM Tryz.f194 (fun R kk x0 x1 K=>LQ x0 x1 (fun a0 a1 a2=>K [tI a0,tI a1,tI a2] none)) Up (ek _ _ _ _) Tryz.func194 (by kernel_rfl) rfl (fun _ _ _ _ _ _ h=>h _ _) (fun _ _ _ _ _=>by kernel_rfl) fun R kk e x0 x1 K=>by
 simp only[wI,LQ,ax]
def EN:Env:=e0 [.str,(.int .i64)]
def oo:ag:=xc.add 195 [.str,(.int .i64)] (cU .str (.int .i64) wJ (fun _ r K=>K [tI r.1,tI r.2.1,tI r.2.2] none))
theorem Ur:aI Tryz.prog oo:=cW EN Tryz.f195 (fun R kk x0 x1 K=>LR x0 x1 (fun a0 a1 a2=>K [tI a0,tI a1,tI a2] none)) Uq (ek _ _ _ _) Tryz.func195 (by kernel_rfl) rfl (fun _ _ _ _ _ _ h=>h _ _) (fun _ _ _ _ _=>by kernel_rfl) fun R kk e x0 x1 K=>by
 simp only[wJ,LR,ax]
def n4:Env:=bX.env (fun i=>bif Nat.beq i 2 then [0,1,2,7] else []) (fun i=>bif Nat.beq i 2 then [6] else []) [] [(.sl 245 (.pair (.int .i64) (.pair .str .unit))),(.int .i64),(.int .i64)]
def R6(a:ar)(b c d:Int):Option R:=av (ev n4 (oo R) kk (sub [1,0,1,0,0] (cd Tryz.f196))) [0,1,2,7] [6] k ⟨[.ah (.sl 245 (.pair (.int .i64) (.pair .str .unit))) a []]::[tI b]::[tI c]::uS 4 ([tI d]::uS 12 []),nS 21 []⟩ J
def znv(a:Bool):State:=⟨uS 6 ([tB a]::uS 13 []),nS 21 []⟩
def znw:State:=⟨uS 20 [],nS 21 []⟩
def Bz:KX R:=(zk 0 (aH n4 (oo R) kk (sub [1,1] (cd Tryz.f196)) (aF n4 Tryz.f196.results.toList none K)))
theorem agL(a:ar)(b c d:Int):R6 R kk (k+1) J a b c d=
 LV a b c d (fun a0=>J .ret (znv a0)) (R6 R kk k J) (J (.exit 0) (znw)):=by kernel_rfl
theorem abD(a:Bool):Bz R kk K .ret (znv a)=
 BA a (fun a0=>K [tB a0] none):=by kernel_rfl
theorem abE:Bz R kk K (.exit 0) (znw)=
 BB (fun a0=>K [tB a0] none):=by kernel_rfl
theorem aeA{kk:Nat}(hF:kk=ae)(jo:ar)(sr sE t7:Int):R6 R kk k J jo sr sE t7=(CB k jo sr sE t7).bind fun e=>(Sum.elim (fun(we:Bool)=>J .ret (znv we)) (fun(we:Unit)=>J (.exit 0) (znw)) e):=by
 induction k generalizing jo sr sE t7 with
 |zero=>rfl
 |succ k ih=>
  rw[agL]
  simp only[CB,LV,ih,ax]
def oq:ag:=oo.add 196 [(.sl 245 (.pair (.int .i64) (.pair .str .unit))),(.int .i64),(.int .i64)] (jE (.sl 245 (.pair (.int .i64) (.pair .str .unit))) (.int .i64) (.int .i64) EO (fun _ r K=>K [tB r] none))
theorem Us:aI Tryz.prog oq:=jV n4 Tryz.f196 (fun R kk x0 x1 x2 K=>R7 x0 x1 x2 (R6 R kk kk (Bz R kk K))) Ur (ek _ _ _ _) Tryz.func196 (by kernel_rfl) rfl (fun _ _ _ _ _ _ h=>h _ _) (fun _ _ _ _ _ _=>by kernel_rfl) fun R kk e x0 x1 x2 K=>by
 simp only[EO,R7,BA,BB,aeA (hF:=e),abD,abE,ax,<-e]
def n0:Env:=bX.env (fun i=>bif Nat.beq i 3 then [0,5,6] else []) (fun i=>bif Nat.beq i 3 then [2,3,4,5] else []) [] [.str]
def R5(a:ByteArray)(b:ar)(c:Int):Option R:=av (ev n0 (oq R) kk (sub [1,1,1,0,0,0] (cd Tryz.f145))) [0,5,6] [2,3,4,5] k ⟨[tS a]::uS 4 ([.ah (.sl 245 (.pair (.int .i64) (.pair .str .unit))) b [[]]]::[tI c]::uS 61 []),nS 69 []⟩ J
def znt(a:ar)(b c:Int)(d:ar):State:=⟨uS 2 ([.ah (.sl 245 (.pair (.int .i64) (.pair .str .unit))) a [[]]]::[tI b]::[tI c]::[.ah (.sl 245 (.pair (.int .i64) (.pair .str .unit))) d [[]]]::uS 62 []),nS 69 []⟩
def znu(a:ar):State:=⟨uS 5 ([.ah (.sl 245 (.pair (.int .i64) (.pair .str .unit))) a [[]]]::uS 62 []),nS 69 []⟩
def Bu:KX R:=(zk 0 (aH n0 (oq R) kk (sub [1,1,1,1] (cd Tryz.f145)) (aF n0 Tryz.f145.results.toList none K)))
theorem agK(a:ByteArray)(b:ar)(c:Int):R5 R kk (k+1) J a b c=
 LU a b c (fun a0 a1 a2 a3=>J .ret (znt a0 a1 a2 a3)) (R5 R kk k J) (fun a0=>J (.exit 0) (znu a0)):=by kernel_rfl
theorem abB(a:ar)(b c:Int)(d:ar):Bu R kk K .ret (znt a b c d)=
 Bv a b c d (fun a0 a1 a2=>K [.ah (.sl 245 (.pair (.int .i64) (.pair .str .unit))) a0 [[]],tI a1,tI a2] none):=by kernel_rfl
theorem abC(a:ar):Bu R kk K (.exit 0) (znu a)=
 Bw a (fun a0 a1 a2=>K [.ah (.sl 245 (.pair (.int .i64) (.pair .str .unit))) a0 [],tI a1,tI a2] none):=by kernel_rfl
theorem aez{kk:Nat}(hF:kk=ae)(iW:ByteArray)(t5:ar)(t6:Int):R5 R kk k J iW t5 t6=(yy k iW t5 t6).bind fun e=>(Sum.elim (fun(we:pC)=>J .ret (znt we.1 we.2.1 we.2.2.1 we.2.2.2)) (fun(we:ar)=>J (.exit 0) (znu we)) e):=by
 induction k generalizing iW t5 t6 with
 |zero=>rfl
 |succ k ih=>
  rw[agK]
  simp only[yy,LU,ih,ax]
def xd:ag:=oq.add 145 [.str] (cG .str wK (fun _ r K=>(Sum.elim (fun(wr:iy)=>K [.ah (.sl 245 (.pair (.int .i64) (.pair .str .unit))) wr.1 [[]],tI wr.2.1,tI wr.2.2] none) (fun(wr:iy)=>K [.ah (.sl 245 (.pair (.int .i64) (.pair .str .unit))) wr.1 [],tI wr.2.1,tI wr.2.2] none) r)))
theorem Ut:aI Tryz.prog xd:=cH n0 Tryz.f145 (fun R kk x0 K=>LS x0 (R5 R kk kk (Bu R kk K))) Us (ek _ _ _ _) Tryz.func145 (by kernel_rfl) rfl (fun _ _ _ _ _ _ h=>Jp (fun _=>h _ _) (fun _=>h _ _)) (fun _ _ _ _=>by kernel_rfl) fun R kk e x0 K=>by
 simp only[wK,LS,Bv,Bw,aez (hF:=e),abB,abC,ax,<-e]
def EQ:Env:=e0 [y9,.str]
def bF:ag:=xd.add 87 [y9,.str] (cU y9 .str lF (fun _ r K=>K [tI r] none))
theorem Uu:aI Tryz.prog bF:=cW EQ Tryz.f87 (fun R kk x0 x1 K=>DI x0 x1 (fun a0=>K [tI a0] none)) Ut (ek _ _ _ _) Tryz.func87 (by kernel_rfl) rfl (fun _ _ _ _ _ _ h=>h _ _) (fun _ _ _ _ _=>by kernel_rfl) fun R kk e x0 x1 K=>by
 simp only[lF,DI,ax]
def aQ:Env:={e0 [(.int .i64),y9,.str,(.int .i64)] with join:=fun i=>bif Nat.beq i 2 then some [0,2,3,5,44] else bif Nat.beq i 3 then some [0,2,3,5] else bif Nat.beq i 8 then some [0,2,5,12,13] else bif Nat.beq i 12 then some [0,2,3,5,11] else bif Nat.beq i 9 then some [0,2,5,12,13,72] else bif Nat.beq i 14 then some [0,2,3,5,11,15,82] else bif Nat.beq i 10 then some [0,2,5,12,13] else bif Nat.beq i 15 then some [0,2,3,5,11,15] else bif Nat.beq i 16 then some [0,2,3,5,11,15,92] else bif Nat.beq i 17 then some [0,2,3,5,11,15] else bif Nat.beq i 19 then some [0,2,3,5,11,15] else bif Nat.beq i 21 then some [0,3,5,11,15,16,114] else bif Nat.beq i 24 then some [0,3,5,15,17] else bif Nat.beq i 25 then some [0,3,5,15,16] else bif Nat.beq i 26 then some [3,5,15,16,132] else bif Nat.beq i 29 then some [3,5,15,20] else bif Nat.beq i 30 then some [3,5,15,16] else bif Nat.beq i 33 then some [3,15,16] else none}
def JM(a:Int)(b:ByteArray)(c:Int)(d:Bool)(e:aj):Option R:=ev aQ (bF R) kk (sub [1,0,1] (cd Tryz.f114)) ⟨[tI a]::uS 1 ([tS b]::[tI c]::uS 1 ([.ptr 6 y9 []]::uS 38 ([tB d]::uS 107 []))),nS 6 ((some ⟨y9,e,[]⟩)::nS 146 [])⟩ (aH aQ (bF R) kk (sub [1,1] (cd Tryz.f114)) (aF aQ Tryz.f114.results.toList none K))
def JN(a:Int)(b:ByteArray)(c:Int)(d:aj):Option R:=ev aQ (bF R) kk (sub [1,1] (cd Tryz.f114)) ⟨[tI a]::uS 1 ([tS b]::[tI c]::uS 1 ([.ptr 6 y9 []]::uS 146 [])),nS 6 ((some ⟨y9,d,[]⟩)::nS 146 [])⟩ (aF aQ Tryz.f114.results.toList none K)
def JO(a:Int)(b:ByteArray)(c d:Int)(e:aj):Option R:=ev aQ (bF R) kk (sub [1,1,1,0,1,0,1,1] (cd Tryz.f114)) ⟨[tI a]::uS 1 ([tS b]::uS 2 ([.ptr 6 y9 []]::uS 6 ([tI c]::[tI d]::uS 138 []))),nS 6 ((some ⟨y9,e,[]⟩)::nS 146 [])⟩ (aH aQ (bF R) kk (sub [1,1,1,1] (cd Tryz.f114)) (aF aQ Tryz.f114.results.toList none K))
def BC(a:Int)(b:ByteArray)(c d:Int)(e:aj):Option R:=ev aQ (bF R) kk (sub [1,1,1,1] (cd Tryz.f114)) ⟨[tI a]::uS 1 ([tS b]::[tI c]::uS 1 ([.ptr 6 y9 []]::uS 5 ([tI d]::uS 140 []))),nS 6 ((some ⟨y9,e,[]⟩)::nS 146 [])⟩ (aF aQ Tryz.f114.results.toList none K)
def JP(a:Int)(b:ByteArray)(c d:Int)(e:Bool)(f:aj):Option R:=ev aQ (bF R) kk (sub [1,1,1,0,1,0,1,1,0,1] (cd Tryz.f114)) ⟨[tI a]::uS 1 ([tS b]::uS 2 ([.ptr 6 y9 []]::uS 6 ([tI c]::[tI d]::uS 58 ([tB e]::uS 79 [])))),nS 6 ((some ⟨y9,f,[]⟩)::nS 146 [])⟩ (aH aQ (bF R) kk (sub [1,1,1,0,1,0,1,1,1] (cd Tryz.f114)) (aH aQ (bF R) kk (sub [1,1,1,1] (cd Tryz.f114)) (aF aQ Tryz.f114.results.toList none K)))
def JQ(a:Int)(b:ByteArray)(c d e:Int)(f:Bool)(g:aj):Option R:=ev aQ (bF R) kk (sub [1,1,1,1,1,0,1] (cd Tryz.f114)) ⟨[tI a]::uS 1 ([tS b]::[tI c]::uS 1 ([.ptr 6 y9 []]::uS 5 ([tI d]::uS 3 ([tI e]::uS 66 ([tB f]::uS 69 []))))),nS 6 ((some ⟨y9,g,[]⟩)::nS 146 [])⟩ (aH aQ (bF R) kk (sub [1,1,1,1,1,1] (cd Tryz.f114)) (aF aQ Tryz.f114.results.toList none K))
def JR(a:Int)(b:ByteArray)(c d:Int)(e:aj):Option R:=ev aQ (bF R) kk (sub [1,1,1,0,1,0,1,1,1] (cd Tryz.f114)) ⟨[tI a]::uS 1 ([tS b]::uS 2 ([.ptr 6 y9 []]::uS 6 ([tI c]::[tI d]::uS 138 []))),nS 6 ((some ⟨y9,e,[]⟩)::nS 146 [])⟩ (aH aQ (bF R) kk (sub [1,1,1,1] (cd Tryz.f114)) (aF aQ Tryz.f114.results.toList none K))
def JS(a:Int)(b:ByteArray)(c d e:Int)(f:aj):Option R:=ev aQ (bF R) kk (sub [1,1,1,1,1,1] (cd Tryz.f114)) ⟨[tI a]::uS 1 ([tS b]::[tI c]::uS 1 ([.ptr 6 y9 []]::uS 5 ([tI d]::uS 3 ([tI e]::uS 136 [])))),nS 6 ((some ⟨y9,f,[]⟩)::nS 146 [])⟩ (aF aQ Tryz.f114.results.toList none K)
def JT(a:Int)(b:ByteArray)(c d e:Int)(f:Bool)(g:aj):Option R:=ev aQ (bF R) kk (sub [1,1,1,1,1,1,0,1] (cd Tryz.f114)) ⟨[tI a]::uS 1 ([tS b]::[tI c]::uS 1 ([.ptr 6 y9 []]::uS 5 ([tI d]::uS 3 ([tI e]::uS 76 ([tB f]::uS 59 []))))),nS 6 ((some ⟨y9,g,[]⟩)::nS 146 [])⟩ (aH aQ (bF R) kk (sub [1,1,1,1,1,1,1] (cd Tryz.f114)) (aF aQ Tryz.f114.results.toList none K))
def JU(a:Int)(b:ByteArray)(c d e:Int)(f:aj):Option R:=ev aQ (bF R) kk (sub [1,1,1,1,1,1,1] (cd Tryz.f114)) ⟨[tI a]::uS 1 ([tS b]::[tI c]::uS 1 ([.ptr 6 y9 []]::uS 5 ([tI d]::uS 3 ([tI e]::uS 136 [])))),nS 6 ((some ⟨y9,f,[]⟩)::nS 146 [])⟩ (aF aQ Tryz.f114.results.toList none K)
def IQ(a:Int)(b:ByteArray)(c d e:Int)(f:aj):Option R:=ev aQ (bF R) kk (sub [1,1,1,1,1,1,1,1] (cd Tryz.f114)) ⟨[tI a]::uS 1 ([tS b]::[tI c]::uS 1 ([.ptr 6 y9 []]::uS 5 ([tI d]::uS 3 ([tI e]::uS 136 [])))),nS 6 ((some ⟨y9,f,[]⟩)::nS 146 [])⟩ (aF aQ Tryz.f114.results.toList none K)
def IU(a b c d:Int)(e:ByteArray)(f:Bool)(g:aj):Option R:=ev aQ (bF R) kk (sub [1,1,1,1,1,1,1,1,1,0,1] (cd Tryz.f114)) ⟨[tI a]::uS 2 ([tI b]::uS 1 ([.ptr 6 y9 []]::uS 5 ([tI c]::uS 3 ([tI d]::[tS e]::uS 97 ([tB f]::uS 37 []))))),nS 6 ((some ⟨y9,g,[]⟩)::nS 146 [])⟩ (aH aQ (bF R) kk (sub [1,1,1,1,1,1,1,1,1,1] (cd Tryz.f114)) (aF aQ Tryz.f114.results.toList none K))
def IV(a b c:Int)(d:ByteArray)(e:aj):Option R:=ev aQ (bF R) kk (sub [1,1,1,1,1,1,1,1,1,0,1,0,1,1] (cd Tryz.f114)) ⟨[tI a]::uS 2 ([tI b]::uS 1 ([.ptr 6 y9 []]::uS 9 ([tI c]::uS 1 ([tS d]::uS 134 [])))),nS 6 ((some ⟨y9,e,[]⟩)::nS 146 [])⟩ (aH aQ (bF R) kk (sub [1,1,1,1,1,1,1,1,1,1] (cd Tryz.f114)) (aF aQ Tryz.f114.results.toList none K))
def zxj(a b c:Int)(d:ByteArray)(e:aj):Option R:=ev aQ (bF R) kk (sub [1,1,1,1,1,1,1,1,1,1] (cd Tryz.f114)) ⟨[tI a]::uS 2 ([tI b]::uS 1 ([.ptr 6 y9 []]::uS 9 ([tI c]::[tS d]::uS 135 []))),nS 6 ((some ⟨y9,e,[]⟩)::nS 146 [])⟩ (aF aQ Tryz.f114.results.toList none K)
def IW(a b:Int)(c:ByteArray)(d:Bool)(e:aj):Option R:=ev aQ (bF R) kk (sub [1,1,1,1,1,1,1,1,1,1,0,1] (cd Tryz.f114)) ⟨uS 3 ([tI a]::uS 1 ([.ptr 6 y9 []]::uS 9 ([tI b]::[tS c]::uS 115 ([tB d]::uS 19 [])))),nS 6 ((some ⟨y9,e,[]⟩)::nS 146 [])⟩ (aH aQ (bF R) kk (sub [1,1,1,1,1,1,1,1,1,1,1] (cd Tryz.f114)) (aF aQ Tryz.f114.results.toList none K))
def IX(a b:Int)(c:ByteArray)(d:aj):Option R:=ev aQ (bF R) kk (sub [1,1,1,1,1,1,1,1,1,1,0,1,0,1,1] (cd Tryz.f114)) ⟨uS 3 ([tI a]::uS 1 ([.ptr 6 y9 []]::uS 9 ([tI b]::uS 4 ([tS c]::uS 131 [])))),nS 6 ((some ⟨y9,d,[]⟩)::nS 146 [])⟩ (aH aQ (bF R) kk (sub [1,1,1,1,1,1,1,1,1,1,1] (cd Tryz.f114)) (aF aQ Tryz.f114.results.toList none K))
def zxk(a b:Int)(c:ByteArray)(d:aj):Option R:=ev aQ (bF R) kk (sub [1,1,1,1,1,1,1,1,1,1,1] (cd Tryz.f114)) ⟨uS 3 ([tI a]::uS 1 ([.ptr 6 y9 []]::uS 9 ([tI b]::[tS c]::uS 135 []))),nS 6 ((some ⟨y9,d,[]⟩)::nS 146 [])⟩ (aF aQ Tryz.f114.results.toList none K)
def IY(a b:Int)(c:ByteArray):Option R:=ev aQ (bF R) kk (sub [1,1,1,1,1,1,1,1,1,1,1,1] (cd Tryz.f114)) ⟨uS 3 ([tI a]::uS 11 ([tI b]::[tS c]::uS 135 [])),nS 153 []⟩ (aF aQ Tryz.f114.results.toList none K)
theorem aeB(a:Int)(b:ByteArray)(c:Int)(d:Bool)(e:aj):JM R kk K a b c d e=
 Sb a b c d e (fun a0 a1 a2=>K [tS a0,tI a1,tI a2] none) (fun a0 a1 a2 a3=>bT kk fun _=>JN R kk K a0 a1 a2 a3):=by kernel_rfl
theorem aeC(a:Int)(b:ByteArray)(c:Int)(d:aj):JN R kk K a b c d=
 Sc a b c d (fun a0 a1 a2=>K [tS a0,tI a1,tI a2] none) (fun a0 a1 a2 a3 a4=>bT kk fun _=>JO R kk K a0 a1 a2 a3 a4) (fun a0 a1 a2 a3 a4=>bT kk fun _=>BC R kk K a0 a1 a2 a3 a4):=by kernel_rfl
theorem aeD(a:Int)(b:ByteArray)(c d:Int)(e:aj):JO R kk K a b c d e=
 DO a b c d e (fun a0 a1 a2 a3 a4 a5=>bT kk fun _=>JP R kk K a0 a1 a2 a3 a4 a5):=by kernel_rfl
theorem aeE(a:Int)(b:ByteArray)(c d:Int)(e:aj):BC R kk K a b c d e=
 vV a b c d e (fun a0 a1 a2 a3 a4 a5 a6=>bT kk fun _=>JQ R kk K a0 a1 a2 a3 a4 a5 a6):=by kernel_rfl
theorem aeF(a:Int)(b:ByteArray)(c d:Int)(e:Bool)(f:aj):JP R kk K a b c d e f=
 Sd a b c d e f (fun a0 a1 a2=>K [tS a0,tI a1,tI a2] none) (fun a0 a1 a2 a3 a4=>bT kk fun _=>JR R kk K a0 a1 a2 a3 a4):=by kernel_rfl
theorem aeG(a:Int)(b:ByteArray)(c d e:Int)(f:Bool)(g:aj):JQ R kk K a b c d e f g=
 vW a b c d e f g (fun a0 a1 a2 a3 a4 a5=>bT kk fun _=>JS R kk K a0 a1 a2 a3 a4 a5):=by kernel_rfl
theorem aeH(a:Int)(b:ByteArray)(c d:Int)(e:aj):JR R kk K a b c d e=
 Se a b c d e (fun a0 a1 a2 a3 a4=>bT kk fun _=>BC R kk K a0 a1 a2 a3 a4):=by kernel_rfl
theorem aeI(a:Int)(b:ByteArray)(c d e:Int)(f:aj):JS R kk K a b c d e f=
 vX a b c d e f (fun a0 a1 a2 a3 a4 a5 a6=>bT kk fun _=>JT R kk K a0 a1 a2 a3 a4 a5 a6):=by kernel_rfl
theorem aeJ(a:Int)(b:ByteArray)(c d e:Int)(f:Bool)(g:aj):JT R kk K a b c d e f g=
 vY a b c d e f g (fun a0 a1 a2 a3 a4 a5=>bT kk fun _=>JU R kk K a0 a1 a2 a3 a4 a5):=by kernel_rfl
theorem aeK(a:Int)(b:ByteArray)(c d e:Int)(f:aj):JU R kk K a b c d e f=
 B9 a b c d e f (fun a0 a1 a2=>K [tS a0,tI a1,tI a2] none) (fun a0 a1 a2 a3 a4 a5=>bT kk fun _=>IQ R kk K a0 a1 a2 a3 a4 a5):=by kernel_rfl
theorem abF(a:Int)(b:ByteArray)(c d e:Int)(f:aj):IQ R kk K a b c d e f=
 vO a b c d e f (fun a0 a1 a2 a3 a4 a5 a6=>bT kk fun _=>IU R kk K a0 a1 a2 a3 a4 a5 a6):=by kernel_rfl
theorem abG(a b c d:Int)(e:ByteArray)(f:Bool)(g:aj):IU R kk K a b c d e f g=
 Ca a b c d e f g (fun a0 a1 a2=>K [tS a0,tI a1,tI a2] none) (fun a0 a1 a2 a3 a4=>bT kk fun _=>IV R kk K a0 a1 a2 a3 a4) (fun a0 a1 a2 a3 a4=>bT kk fun _=>zxj R kk K a0 a1 a2 a3 a4):=by kernel_rfl
theorem abH(a b c:Int)(d:ByteArray)(e:aj):IV R kk K a b c d e=
 Cb a b c d e (fun a0 a1 a2 a3 a4=>bT kk fun _=>zxj R kk K a0 a1 a2 a3 a4):=by kernel_rfl
theorem abI(a b c:Int)(d:ByteArray)(e:aj):zxj R kk K a b c d e=
 vP a b c d e (fun a0 a1 a2 a3 a4=>bT kk fun _=>IW R kk K a0 a1 a2 a3 a4):=by kernel_rfl
theorem abJ(a b:Int)(c:ByteArray)(d:Bool)(e:aj):IW R kk K a b c d e=
 Cc a b c d e (fun a0 a1 a2=>K [tS a0,tI a1,tI a2] none) (fun a0 a1 a2 a3=>bT kk fun _=>IX R kk K a0 a1 a2 a3) (fun a0 a1 a2 a3=>bT kk fun _=>zxk R kk K a0 a1 a2 a3):=by kernel_rfl
theorem abK(a b:Int)(c:ByteArray)(d:aj):IX R kk K a b c d=
 Cd a b c d (fun a0 a1 a2 a3=>bT kk fun _=>zxk R kk K a0 a1 a2 a3):=by kernel_rfl
theorem abL(a b:Int)(c:ByteArray)(d:aj):zxk R kk K a b c d=
 Ce a b c d (fun a0 a1 a2=>K [tS a0,tI a1,tI a2] none) (fun a0 a1 a2=>bT kk fun _=>IY R kk K a0 a1 a2):=by kernel_rfl
theorem abM(a b:Int)(c:ByteArray):IY R kk K a b c=
 Cf a b c (fun a0 a1 a2=>K [tS a0,tI a1,tI a2] none):=by kernel_rfl
def ot:ag:=bF.add 114 [(.int .i64),y9,.str,(.int .i64)] (Ax (.int .i64) y9 .str (.int .i64) CK (fun _ r K=>K [tS r.1,tI r.2.1,tI r.2.2] none))
theorem Uv:aI Tryz.prog ot:=CU aQ Tryz.f114 (fun R kk x0 x1 x2 x3 K=>DN x0 x1 x2 x3 (fun a0 a1 a2 a3 a4=>bT kk fun _=>JM R kk K a0 a1 a2 a3 a4)) Uu ((ek _ _ _ _).join _) Tryz.func114 (by kernel_rfl) rfl (fun _ _ _ _ _ _ h=>h _ _) (fun _ _ _ _ _ _ _=>by kernel_rfl) fun R kk e x0 x1 x2 x3 K=>by
 simp only[CK,VT,Sb,Sc,VU,VV,Sd,VW,Se,VX,VY,B9,Vt,Ca,Cb,Vu,Cc,Cd,Ce,Cf,BD,Sa,BE,sT,BF,DJ,BG,DK,DL,DM,Dp,Dq,Dr,B7,Ds,Dt,B8,Du,aeB,aeC,abF,abG,abH,abI,abJ,abK,abL,abM,aeD,aeE,aeF,aeG,aeH,aeI,aeJ,aeK,agU (hF:=e),ax]
def Qk:Env:=bX.env (fun i=>bif Nat.beq i 19 then [1,2,4,5,6,9,10,12] else []) (fun i=>bif Nat.beq i 19 then [1,4,5,6,10] else []) [4,5] [aT,.str]
def NO(a:ByteArray)(b:(List Int))(c d:Int)(e:ai)(f:af)(g:ay)(h:af):Option R:=av (ev Qk (ot R) kk (sub [1,1,1,1,1,1,1,1,1,1,1,1,0,1,0,0] (cd Tryz.f41))) [1,2,4,5,6,9,10,12] [1,4,5,6,10] k ⟨uS 1 ([tS a]::[.ptr 3 aT []]::uS 1 ([.ptr 5 y5 []]::[.ptr 6 (.pair (.int .i64) (.pair (.int .i64) .unit)) []]::[.ptr 7 y5 []]::uS 2 ([.ah (.sl 3 (.int .i64)) b []]::[tI c]::uS 1 ([tI d]::uS 124 [])))),nS 3 ((some ⟨aT,e,[]⟩)::nS 1 ((some ⟨y5,f,[[1]]⟩)::(some ⟨(.pair (.int .i64) (.pair (.int .i64) .unit)),g,[]⟩)::(some ⟨y5,h,[[1]]⟩)::nS 130 []))⟩ J
def zde(a:ByteArray)(b:Int)(c:af)(d:ay)(e:af):State:=⟨uS 1 ([tS a]::uS 2 ([.ptr 5 y5 []]::[.ptr 6 (.pair (.int .i64) (.pair (.int .i64) .unit)) []]::[.ptr 7 y5 []]::uS 3 ([tI b]::uS 126 []))),nS 5 ((some ⟨y5,c,[[1]]⟩)::(some ⟨(.pair (.int .i64) (.pair (.int .i64) .unit)),d,[]⟩)::(some ⟨y5,e,[]⟩)::nS 130 [])⟩
def zdf(a:ByteArray)(b:Int)(c:af)(d:ay)(e:af):State:=⟨uS 1 ([tS a]::uS 2 ([.ptr 5 y5 []]::[.ptr 6 (.pair (.int .i64) (.pair (.int .i64) .unit)) []]::[.ptr 7 y5 []]::uS 3 ([tI b]::uS 126 []))),nS 5 ((some ⟨y5,c,[[1]]⟩)::(some ⟨(.pair (.int .i64) (.pair (.int .i64) .unit)),d,[]⟩)::(some ⟨y5,e,[[1]]⟩)::nS 130 [])⟩
def zu9:KX R:=(zk 0 (aH Qk (ot R) kk (sub [1,1,1,1,1,1,1,1,1,1,1,1,1] (cd Tryz.f41)) (aF Qk Tryz.f41.results.toList none K)))
theorem adv(a:ByteArray)(b:(List Int))(c d:Int)(e:ai)(f:af)(g:ay)(h:af):NO R kk (k+1) J a b c d e f g h=
 KO a b c d e f g h (fun a0 a1 a2 a3 a4=>J .ret (zde a0 a1 a2 a3 a4)) (NO R kk k J) (fun a0 a1 a2 a3 a4=>J (.exit 0) (zdf a0 a1 a2 a3 a4)):=by kernel_rfl
theorem Xg(a:ByteArray)(b:Int)(c:af)(d:ay)(e:af):zu9 R kk K .ret (zde a b c d e)=
 zua a b c d e (fun a0 a1=>K [.ah y5 a0 [[1]],.ah (.pair (.int .i64) (.pair (.int .i64) .unit)) a1 []] none):=by kernel_rfl
theorem Xh(a:ByteArray)(b:Int)(c:af)(d:ay)(e:af):zu9 R kk K (.exit 0) (zdf a b c d e)=
 zub a b c d e (fun a0 a1=>K [.ah y5 a0 [[1]],.ah (.pair (.int .i64) (.pair (.int .i64) .unit)) a1 []] none):=by kernel_rfl
theorem aan{kk:Nat}(hF:kk=ae)(yX:ByteArray)(t9:(List Int))(t10 t12:Int)(cX:ai)(cF:af)(fa:ay)(gQ:af):NO R kk k J yX t9 t10 t12 cX cF fa gQ=(z59 k yX t9 t10 t12 cX cF fa gQ).bind fun e=>(Sum.elim (fun(we:iz)=>J .ret (zde we.1 we.2.1 we.2.2.1 we.2.2.2.1 we.2.2.2.2)) (fun(we:iz)=>J (.exit 0) (zdf we.1 we.2.1 we.2.2.1 we.2.2.2.1 we.2.2.2.2)) e):=by
 induction k generalizing yX t9 t10 t12 cX cF fa gQ with
 |zero=>rfl
 |succ k ih=>
  rw[adv]
  simp only[z59,KO,ih,ax]
def ou:ag:=ot.add 41 [aT,.str] (cU aT .str qB (fun _ r K=>K [.ah y5 r.1 [[1]],.ah (.pair (.int .i64) (.pair (.int .i64) .unit)) r.2 []] none))
theorem Uw:aI Tryz.prog ou:=cW Qk Tryz.f41 (fun R kk x0 x1 K=>Df x0 x1 (fun a0 a1=>K [.ah y5 a0 [[1]],.ah (.pair (.int .i64) (.pair (.int .i64) .unit)) a1 []] none) (fun a0 a1 a2 a3 a4 a5 a6 a7=>NO R kk kk (zu9 R kk K) a0 a1 a2 a3 a4 a5 a6 a7)) Uv (ek _ _ _ _) Tryz.func41 (by kernel_rfl) rfl (fun _ _ _ _ _ _ h=>h _ _) (fun _ _ _ _ _=>by kernel_rfl) fun R kk e x0 x1 K=>by
 simp only[qB,Vr,zua,zub,aan (hF:=e),Xg,Xh,ax,<-e]
def Qh:Env:=bX.env (fun i=>bif Nat.beq i 7 then [2,3,4,5,6] else []) (fun i=>bif Nat.beq i 7 then [4] else []) [4] [aT,y5]
def NH(a b:Int)(c:ai)(d:af)(e:ay):Option R:=av (ev Qh (ou R) kk (sub [1,1,1,1,0,1,0,0] (cd Tryz.f44))) [2,3,4,5,6] [4] k ⟨uS 2 ([.ptr 3 aT []]::[.ptr 4 y5 []]::[.ptr 5 (.pair (.int .i64) (.pair (.int .i64) .unit)) []]::[tI a]::[tI b]::uS 66 []),nS 3 ((some ⟨aT,c,[]⟩)::(some ⟨y5,d,[]⟩)::(some ⟨(.pair (.int .i64) (.pair (.int .i64) .unit)),e,[]⟩)::nS 68 [])⟩ J
def zda(a:ay):State:=⟨uS 4 ([.ptr 5 (.pair (.int .i64) (.pair (.int .i64) .unit)) []]::uS 68 []),nS 5 ((some ⟨(.pair (.int .i64) (.pair (.int .i64) .unit)),a,[]⟩)::nS 68 [])⟩
def zdb(a:ay):State:=⟨uS 4 ([.ptr 5 (.pair (.int .i64) (.pair (.int .i64) .unit)) []]::uS 68 []),nS 5 ((some ⟨(.pair (.int .i64) (.pair (.int .i64) .unit)),a,[]⟩)::nS 68 [])⟩
def zu3:KX R:=(zk 0 (aH Qh (ou R) kk (sub [1,1,1,1,1] (cd Tryz.f44)) (aF Qh Tryz.f44.results.toList none K)))
theorem ads(a b:Int)(c:ai)(d:af)(e:ay):NH R kk (k+1) J a b c d e=
 KL a b c d e (fun a0=>J .ret (zda a0)) (NH R kk k J) (fun a0=>J (.exit 0) (zdb a0)):=by kernel_rfl
theorem Xc(a:ay):zu3 R kk K .ret (zda a)=
 zu4 a (fun a0=>K [.ah (.pair (.int .i64) (.pair (.int .i64) .unit)) a0 []] none):=by kernel_rfl
theorem Xd(a:ay):zu3 R kk K (.exit 0) (zdb a)=
 zu5 a (fun a0=>K [.ah (.pair (.int .i64) (.pair (.int .i64) .unit)) a0 []] none):=by kernel_rfl
theorem aak{kk:Nat}(hF:kk=ae)(t5 t6:Int)(cX:ai)(eZ:af)(cF:ay):NH R kk k J t5 t6 cX eZ cF=(tw k t5 t6 cX eZ cF).bind fun e=>(Sum.elim (fun(we:ay)=>J .ret (zda we)) (fun(we:ay)=>J (.exit 0) (zdb we)) e):=by
 induction k generalizing t5 t6 cX eZ cF with
 |zero=>rfl
 |succ k ih=>
  rw[ads]
  simp only[tw,KL,ih,ax]
def xe:ag:=ou.add 44 [aT,y5] (cU aT y5 qy (fun _ r K=>K [.ah (.pair (.int .i64) (.pair (.int .i64) .unit)) r []] none))
theorem Ux:aI Tryz.prog xe:=cW Qh Tryz.f44 (fun R kk x0 x1 K=>NI x0 x1 (fun a0=>K [.ah (.pair (.int .i64) (.pair (.int .i64) .unit)) a0 []] none) (NH R kk kk (zu3 R kk K))) Uw (ek _ _ _ _) Tryz.func44 (by kernel_rfl) rfl (fun _ _ _ _ _ _ h=>h _ _) (fun _ _ _ _ _=>by kernel_rfl) fun R kk e x0 x1 K=>by
 simp only[qy,NI,zu4,zu5,aak (hF:=e),Xc,Xd,ax,<-e]
def afD:Env:={e0 [aT,.str] with ro:=true}
def ox:ag:=xe.add 17 [aT,.str] (cU aT .str pf (fun _ r K=>K [.ah y5 r.1 [],tB r.2] none))
theorem Uy:aI Tryz.prog ox:=cW afD Tryz.f17 (fun R kk x0 x1 K=>N1 x0 x1 (fun a0 a1=>K [.ah y5 a0 [],tB a1] none)) Ux ((ek _ _ _ _).ro _) Tryz.func17 (by kernel_rfl) rfl (fun _ _ _ _ _ _ h=>h _ _) (fun _ _ _ _ _=>by kernel_rfl) fun R kk e x0 x1 K=>by
 simp only[pf,N1,ax]
def Qi:Env:=bX.env (fun i=>bif Nat.beq i 3 then [1,3,4] else []) (fun i=>bif Nat.beq i 3 then [3] else []) [] [y5]
def NJ(a:(List Int))(b:Int)(c:af):Option R:=av (ev Qi (ox R) kk (sub [1,1,0,1,0,0] (cd Tryz.f46))) [1,3,4] [3] k ⟨uS 1 ([.ptr 2 y5 []]::uS 1 ([.ah (.sl 3 (.int .i64)) a [[]]]::[tI b]::uS 18 [])),nS 2 ((some ⟨y5,c,[]⟩)::nS 21 [])⟩ J
def zdc(a:(List Int)):State:=⟨uS 3 ([.ah (.sl 3 (.int .i64)) a [[]]]::uS 19 []),nS 24 []⟩
def Iz:KX R:=(zk 0 (aH Qi (ox R) kk (sub [1,1,1] (cd Tryz.f46)) (aF Qi Tryz.f46.results.toList none K)))
theorem adt(a:(List Int))(b:Int)(c:af):NJ R kk (k+1) J a b c=
 zu6 a b c (NJ R kk k J) (fun a0=>J (.exit 0) (zdc a0)):=by kernel_rfl
theorem Xe(a:(List Int)):Iz R kk K (.exit 0) (zdc a)=
 zu7 a (fun a0=>K [.ah (.sl 3 (.int .i64)) a0 []] none):=by kernel_rfl
theorem aal{kk:Nat}(hF:kk=ae)(t3:(List Int))(t4:Int)(ey:af):NJ R kk k J t3 t4 ey=(KM k t3 t4 ey).bind fun e=>J (.exit 0) (zdc e):=by
 induction k generalizing t3 t4 ey with
 |zero=>rfl
 |succ k ih=>
  rw[adt]
  simp only[KM,zu6,ih,ax]
def oB:ag:=ox.add 46 [y5] (cG y5 qz (fun _ r K=>K [.ah (.sl 3 (.int .i64)) r []] none))
theorem Uz:aI Tryz.prog oB:=cH Qi Tryz.f46 (fun R kk x0 K=>NK x0 (NJ R kk kk (Iz R kk K))) Uy (ek _ _ _ _) Tryz.func46 (by kernel_rfl) rfl (fun _ _ _ _ _ _ h=>h _ _) (fun _ _ _ _=>by kernel_rfl) fun R kk e x0 K=>by
 simp only[qz,NK,zu7,aal (hF:=e),Xe,ax,<-e]
def nR:Env:=bX.env (fun i=>bif Nat.beq i 2 then [0,1,5] else []) (fun i=>bif Nat.beq i 2 then [4] else []) [] [(.sl 3 (.int .i64)),(.int .i64)]
def RP(a:(List Int))(b c:Int):Option R:=av (ev nR (oB R) kk (sub [1,0,1,0,0] (cd Tryz.f85))) [0,1,5] [4] k ⟨[.ah (.sl 3 (.int .i64)) a []]::[tI b]::uS 3 ([tI c]::uS 12 []),nS 19 []⟩ J
def znm(a:Bool):State:=⟨uS 4 ([tB a]::uS 13 []),nS 19 []⟩
def znn:State:=⟨uS 18 [],nS 19 []⟩
def z124:KX R:=(zk 0 (aH nR (oB R) kk (sub [1,1] (cd Tryz.f85)) (aF nR Tryz.f85.results.toList none K)))
theorem agC(a:(List Int))(b c:Int):RP R kk (k+1) J a b c=
 LI a b c (fun a0=>J .ret (znm a0)) (RP R kk k J) (J (.exit 0) (znn)):=by kernel_rfl
theorem abu(a:Bool):z124 R kk K .ret (znm a)=
 Bp a (fun a0=>K [tB a0] none):=by kernel_rfl
theorem abv:z124 R kk K (.exit 0) (znn)=
 Bq (fun a0=>K [tB a0] none):=by kernel_rfl
theorem aer{kk:Nat}(hF:kk=ae)(jo:(List Int))(sr t5:Int):RP R kk k J jo sr t5=(Cx k jo sr t5).bind fun e=>(Sum.elim (fun(we:Bool)=>J .ret (znm we)) (fun(we:Unit)=>J (.exit 0) (znn)) e):=by
 induction k generalizing jo sr t5 with
 |zero=>rfl
 |succ k ih=>
  rw[agC]
  simp only[Cx,LI,ih,ax]
def hI:ag:=oB.add 85 [(.sl 3 (.int .i64)),(.int .i64)] (cU (.sl 3 (.int .i64)) (.int .i64) tT (fun _ r K=>K [tB r] none))
theorem UA:aI Tryz.prog hI:=cW nR Tryz.f85 (fun R kk x0 x1 K=>RQ x0 x1 (RP R kk kk (z124 R kk K))) Uz (ek _ _ _ _) Tryz.func85 (by kernel_rfl) rfl (fun _ _ _ _ _ _ h=>h _ _) (fun _ _ _ _ _=>by kernel_rfl) fun R kk e x0 x1 K=>by
 simp only[tT,RQ,Bp,Bq,aer (hF:=e),abu,abv,ax,<-e]
def hG:Env:=bX.env (fun i=>bif Nat.beq i 3 then [0,1,5,6] else bif Nat.beq i 7 then [0,1,5,6,7,8] else []) (fun i=>bif Nat.beq i 3 then [5] else bif Nat.beq i 7 then [0,1,5,6,7] else []) [] [(.sl 3 (.int .i64)),(.int .i64)]
def RT(a:(List Int))(b:Int)(c:(List Int))(d:Int):Option R:=av (ev hG (hI R) kk (sub [1,1,0,1,0,0] (cd Tryz.f119))) [0,1,5,6] [5] k ⟨[.ah (.sl 3 (.int .i64)) a []]::[tI b]::uS 3 ([.ah (.sl 5 (.int .u8)) c [[]]]::[tI d]::uS 29 []),nS 37 []⟩ J
def znp(a:(List Int)):State:=⟨uS 5 ([.ah (.sl 5 (.int .u8)) a [[]]]::uS 30 []),nS 37 []⟩
def JI:KX R:=(zk 0 (aH hG (hI R) kk (sub [1,1,1] (cd Tryz.f119)) (aF hG Tryz.f119.results.toList none K)))
def RU(a:(List Int))(b:Int)(c:(List Int))(d e f:Int):Option R:=av (ev hG (hI R) kk (sub [1,1,0,1,0,0,1,0,0,1,0,1,0,0] (cd Tryz.f119))) [0,1,5,6,7,8] [0,1,5,6,7] k ⟨[.ah (.sl 3 (.int .i64)) a []]::[tI b]::uS 3 ([.ah (.sl 5 (.int .u8)) c [[]]]::[tI d]::[tU e]::[tI f]::uS 27 []),nS 37 []⟩ J
def znq(a:(List Int))(b:Int)(c:(List Int))(d e:Int):State:=⟨[.ah (.sl 3 (.int .i64)) a []]::[tI b]::uS 3 ([.ah (.sl 5 (.int .u8)) c [[]]]::[tI d]::[tU e]::uS 28 []),nS 37 []⟩
def JJ:KX R:=(zk 2 (aH hG (hI R) kk (sub [1,1,0,1,0,0,1,0,0,1,1] (cd Tryz.f119)) (zk 1 (aH hG (hI R) kk (sub [1,1,0,1,0,0,1,1] (cd Tryz.f119)) (sk (ev hG (hI R) kk (sub [1,1,0,1,0,0] (cd Tryz.f119))) [0,1,5,6] [5] k J)))))
theorem agF(a:(List Int))(b:Int)(c:(List Int))(d:Int):RT R kk (k+1) J a b c d=
 LL a b c d (RU R kk kk (JJ R kk k J)) (fun a0=>J (.exit 0) (znp a0)):=by kernel_rfl
theorem abx(a:(List Int)):JI R kk K (.exit 0) (znp a)=
 Br a (fun a0=>K [tS a0] none):=by kernel_rfl
theorem agG(a:(List Int))(b:Int)(c:(List Int))(d e f:Int):RU R kk (k+1) J a b c d e f=
 LM a b c d e f (RU R kk k J) (fun a0 a1 a2 a3 a4=>J (.exit 2) (znq a0 a1 a2 a3 a4)):=by kernel_rfl
theorem aby(a:(List Int))(b:Int)(c:(List Int))(d e:Int):JJ R kk k J (.exit 2) (znq a b c d e)=
 RW a b c d e (RT R kk k J):=by kernel_rfl
theorem aev{kk:Nat}(hF:kk=ae)(jo:(List Int))(fS:Int)(t5:(List Int))(t6 t7 t8:Int):RU R kk k J jo fS t5 t6 t7 t8=(Cz k jo fS t5 t6 t7 t8).bind fun e=>J (.exit 2) (znq e.1 e.2.1 e.2.2.1 e.2.2.2.1 e.2.2.2.2):=by
 induction k generalizing jo fS t5 t6 t7 t8 with
 |zero=>rfl
 |succ k ih=>
  rw[agG]
  simp only[Cz,LM,ih,ax]
theorem aeu{kk:Nat}(hF:kk=ae)(jo:(List Int))(fS:Int)(t5:(List Int))(t6:Int):RT R kk k J jo fS t5 t6=(Cy k jo fS t5 t6).bind fun e=>J (.exit 0) (znp e):=by
 induction k generalizing jo fS t5 t6 with
 |zero=>rfl
 |succ k ih=>
  rw[agF]
  simp only[Cy,LL,RW,ih,aev (hF:=hF),aby,ax,<-hF]
def oC:ag:=hI.add 119 [(.sl 3 (.int .i64)),(.int .i64)] (cU (.sl 3 (.int .i64)) (.int .i64) sX (fun _ r K=>K [tS r] none))
theorem UB:aI Tryz.prog oC:=cW hG Tryz.f119 (fun R kk x0 x1 K=>RV x0 x1 (RT R kk kk (JI R kk K))) UA (ek _ _ _ _) Tryz.func119 (by kernel_rfl) rfl (fun _ _ _ _ _ _ h=>h _ _) (fun _ _ _ _ _=>by kernel_rfl) fun R kk e x0 x1 K=>by
 simp only[sX,RV,Br,aeu (hF:=e),abx,ax,<-e]
def nM:Env:=bX.env (fun i=>bif Nat.beq i 3 then [0,3,4] else []) (fun i=>bif Nat.beq i 3 then [3] else []) [] [.str]
def RF(a:ByteArray)(b:(List Int))(c:Int):Option R:=av (ev nM (oC R) kk (sub [1,1,0,1,0,0] (cd Tryz.f120))) [0,3,4] [3] k ⟨[tS a]::uS 2 ([.ah (.sl 5 (.int .u8)) b [[]]]::[tI c]::uS 24 []),nS 30 []⟩ J
def zne(a:(List Int)):State:=⟨uS 3 ([.ah (.sl 5 (.int .u8)) a [[]]]::uS 25 []),nS 30 []⟩
def JD:KX R:=(zk 0 (aH nM (oC R) kk (sub [1,1,1] (cd Tryz.f120)) (aF nM Tryz.f120.results.toList none K)))
theorem agu(a:ByteArray)(b:(List Int))(c:Int):RF R kk (k+1) J a b c=
 LF a b c (RF R kk k J) (fun a0=>J (.exit 0) (zne a0)):=by kernel_rfl
theorem abl(a:(List Int)):JD R kk K (.exit 0) (zne a)=
 Bc a (fun a0=>K [tS a0] none):=by kernel_rfl
theorem aem{kk:Nat}(hF:kk=ae)(dO:ByteArray)(t3:(List Int))(t4:Int):RF R kk k J dO t3 t4=(Cu k dO t3 t4).bind fun e=>J (.exit 0) (zne e):=by
 induction k generalizing dO t3 t4 with
 |zero=>rfl
 |succ k ih=>
  rw[agu]
  simp only[Cu,LF,ih,ax]
def oD:ag:=oC.add 120 [.str] (cG .str tR (fun _ r K=>K [tS r] none))
theorem UC:aI Tryz.prog oD:=cH nM Tryz.f120 (fun R kk x0 K=>RG x0 (RF R kk kk (JD R kk K))) UB (ek _ _ _ _) Tryz.func120 (by kernel_rfl) rfl (fun _ _ _ _ _ _ h=>h _ _) (fun _ _ _ _=>by kernel_rfl) fun R kk e x0 K=>by
 simp only[tR,RG,Bc,aem (hF:=e),abl,ax,<-e]
def nV:Env:=bX.env (fun i=>bif Nat.beq i 5 then [0,1,6,7] else []) (fun i=>bif Nat.beq i 5 then [0,1,6] else []) [] [(.int .i64),(.sl 3 (.int .i64))]
def RS(a:Int)(b:(List Int))(c:Bool)(d:Int):Option R:=av (ev nV (oD R) kk (sub [1,1,1,0,1,0,0] (cd Tryz.f45))) [0,1,6,7] [0,1,6] k ⟨[tI a]::[.ah (.sl 3 (.int .i64)) b []]::uS 4 ([tB c]::[tI d]::uS 36 []),nS 45 []⟩ J
def zno(a:Int)(b:(List Int))(c:Bool):State:=⟨[tI a]::[.ah (.sl 3 (.int .i64)) b []]::uS 4 ([tB c]::uS 37 []),nS 45 []⟩
def JH:KX R:=(zk 0 (aH nV (oD R) kk (sub [1,1,1,1] (cd Tryz.f45)) (aF nV Tryz.f45.results.toList none K)))
theorem agE(a:Int)(b:(List Int))(c:Bool)(d:Int):RS R kk (k+1) J a b c d=
 LJ a b c d (RS R kk k J) (fun a0 a1 a2=>J (.exit 0) (zno a0 a1 a2)):=by kernel_rfl
theorem abw(a:Int)(b:(List Int))(c:Bool):JH R kk K (.exit 0) (zno a b c)=
 LK a b c (fun a0 a1=>K [tS a0,tB a1] none):=by kernel_rfl
theorem aet{kk:Nat}(hF:kk=ae)(dH:Int)(TG:(List Int))(t6:Bool)(t7:Int):RS R kk k J dH TG t6 t7=(yw k dH TG t6 t7).bind fun e=>J (.exit 0) (zno e.1 e.2.1 e.2.2):=by
 induction k generalizing dH TG t6 t7 with
 |zero=>rfl
 |succ k ih=>
  rw[agE]
  simp only[yw,LJ,ih,ax]
def oE:ag:=oD.add 45 [(.int .i64),(.sl 3 (.int .i64))] (cU (.int .i64) (.sl 3 (.int .i64)) EF (fun _ r K=>K [tS r.1,tB r.2] none))
theorem UD:aI Tryz.prog oE:=cW nV Tryz.f45 (fun R kk x0 x1 K=>DG x0 x1 (fun a0 a1=>K [tS a0,tB a1] none) (fun a0 a1 a2 a3=>RS R kk kk (JH R kk K) a0 a1 a2 a3)) UC (ek _ _ _ _) Tryz.func45 (by kernel_rfl) rfl (fun _ _ _ _ _ _ h=>h _ _) (fun _ _ _ _ _=>by kernel_rfl) fun R kk e x0 x1 K=>by
 simp only[EF,VR,LK,aet (hF:=e),abw,ax,<-e]
def nP:Env:={bX.env (fun i=>bif Nat.beq i 8 then [0,4,5,6] else []) (fun i=>bif Nat.beq i 8 then [4] else []) [] [.str] with sp:=some (13,4,7,42)}
def RL(a:ByteArray)(b:(List Int))(c d:Int):Option R:=av (ev nP (oE R) kk (sub [1,1,1,1,1,0,1,0,0] (cd Tryz.f121))) [0,4,5,6] [4] k ⟨[tS a]::uS 3 ([.ah (.sl 5 (.int .u8)) b [[]]]::[tI c]::[tI d]::uS 52 []),nS 60 []⟩ J
def znj(a:(List Int)):State:=⟨uS 4 ([.ah (.sl 5 (.int .u8)) a [[]]]::uS 54 []),nS 60 []⟩
def JE:KX R:=(zk 0 (aH nP (oE R) kk (sub [1,1,1,1,1,1] (cd Tryz.f121)) (aF nP Tryz.f121.results.toList none K)))
theorem agx(a:ByteArray)(b:(List Int))(c d:Int):RL R kk (k+1) J a b c d=
 DF a b c d (RL R kk k J) (fun a0=>J (.exit 0) (znj a0)):=by kernel_rfl
theorem abq(a:(List Int)):JE R kk K (.exit 0) (znj a)=
 Bk a (fun a0 a1=>K [tS a0,tB a1] none):=by kernel_rfl
theorem aep{kk:Nat}(hF:kk=ae)(dO:ByteArray)(t4:(List Int))(t5 t6:Int):RL R kk k J dO t4 t5 t6=(vU k dO t4 t5 t6).bind fun e=>J (.exit 0) (znj e):=by
 induction k generalizing dO t4 t5 t6 with
 |zero=>rfl
 |succ k ih=>
  rw[agx]
  simp only[vU,DF,ih,ax]
def xf:ag:=oE.add 121 [.str] (cG .str wC (fun _ r K=>K [tS r.1,tB r.2] none))
theorem UE:aI Tryz.prog xf:=cH nP Tryz.f121 (fun R kk x0 K=>DE x0 (fun a0 a1=>K [tS a0,tB a1] none) (fun a0 a1 a2 a3=>RL R kk kk (JE R kk K) a0 a1 a2 a3)) UD ((ek _ _ _ _).sp _) Tryz.func121 (by kernel_rfl) rfl (fun _ _ _ _ _ _ h=>h _ _) (fun _ _ _ _=>by kernel_rfl) fun R kk e x0 K=>by
 simp only[wC,VQ,Bk,aep (hF:=e),abq,ax,<-e]
def afA:Env:=e0 [(.int .i64),.str]
def oF:ag:=xf.add 47 [(.int .i64),.str] (cU (.int .i64) .str qA (fun _ r K=>K [tS r] none))
theorem UF:aI Tryz.prog oF:=cW afA Tryz.f47 (fun R kk x0 x1 K=>NN x0 x1 (fun a0=>K [tS a0] none)) UE (ek _ _ _ _) Tryz.func47 (by kernel_rfl) rfl (fun _ _ _ _ _ _ h=>h _ _) (fun _ _ _ _ _=>by kernel_rfl) fun R kk e x0 x1 K=>by
 simp only[qA,NN,ax]
def nK:Env:=bX.env (fun i=>bif Nat.beq i 5 then [0,1,6,7] else []) (fun i=>bif Nat.beq i 5 then [0,6] else []) [] [(.int .i64),(.int .i64)]
def Ry(a b:Int)(c:ByteArray)(d:Int):Option R:=av (ev nK (oF R) kk (sub [1,1,1,0,1,0,0] (cd Tryz.f183))) [0,1,6,7] [0,6] k ⟨[tI a]::[tI b]::uS 4 ([tS c]::[tI d]::uS 28 []),nS 37 []⟩ J
def zna(a:Int)(b:ByteArray):State:=⟨[tI a]::uS 5 ([tS b]::uS 29 []),nS 37 []⟩
def JB:KX R:=(zk 0 (aH nK (oF R) kk (sub [1,1,1,1] (cd Tryz.f183)) (aF nK Tryz.f183.results.toList none K)))
theorem agr(a b:Int)(c:ByteArray)(d:Int):Ry R kk (k+1) J a b c d=
 LB a b c d (Ry R kk k J) (fun a0 a1=>J (.exit 0) (zna a0 a1)):=by kernel_rfl
theorem abg(a:Int)(b:ByteArray):JB R kk K (.exit 0) (zna a b)=
 RA a b (fun a0 a1=>K [tS a0,tB a1] none):=by kernel_rfl
theorem aej{kk:Nat}(hF:kk=ae)(Ap kW:Int)(t6:ByteArray)(t7:Int):Ry R kk k J Ap kW t6 t7=(Cq k Ap kW t6 t7).bind fun e=>J (.exit 0) (zna e.1 e.2):=by
 induction k generalizing Ap kW t6 t7 with
 |zero=>rfl
 |succ k ih=>
  rw[agr]
  simp only[Cq,LB,ih,ax]
def xg:ag:=oF.add 183 [(.int .i64),(.int .i64)] (cU (.int .i64) (.int .i64) CI (fun _ r K=>K [tS r.1,tB r.2] none))
theorem UG:aI Tryz.prog xg:=cW nK Tryz.f183 (fun R kk x0 x1 K=>Rz x0 x1 (fun a0 a1=>K [tS a0,tB a1] none) (Ry R kk kk (JB R kk K))) UF (ek _ _ _ _) Tryz.func183 (by kernel_rfl) rfl (fun _ _ _ _ _ _ h=>h _ _) (fun _ _ _ _ _=>by kernel_rfl) fun R kk e x0 x1 K=>by
 simp only[CI,Rz,RA,aej (hF:=e),abg,ax,<-e]
def EI:Env:=e0 [(.int .i64),(.int .i64),(.int .i64)]
def xh:ag:=xg.add 122 [(.int .i64),(.int .i64),(.int .i64)] (jE (.int .i64) (.int .i64) (.int .i64) yQ (fun _ r K=>K [tS r.1,tI r.2] none))
theorem UH:aI Tryz.prog xh:=jV EI Tryz.f122 (fun R kk x0 x1 x2 K=>R4 x0 x1 x2 (fun a0 a1=>K [tS a0,tI a1] none)) UG (ek _ _ _ _) Tryz.func122 (by kernel_rfl) rfl (fun _ _ _ _ _ _ h=>h _ _) (fun _ _ _ _ _ _=>by kernel_rfl) fun R kk e x0 x1 x2 K=>by
 simp only[yQ,R4,ax]
def afv:Env:=e0 [(.int .i64),(.int .i64),.str]
def xi:ag:=xh.add 123 [(.int .i64),(.int .i64),.str] (jE (.int .i64) (.int .i64) .str jJ (fun _ r K=>K [tS r] none))
theorem UI:aI Tryz.prog xi:=jV afv Tryz.f123 (fun R kk x0 x1 x2 K=>Nx x0 x1 x2 (fun a0=>K [tS a0] none)) UH (ek _ _ _ _) Tryz.func123 (by kernel_rfl) rfl (fun _ _ _ _ _ _ h=>h _ _) (fun _ _ _ _ _ _=>by kernel_rfl) fun R kk e x0 x1 x2 K=>by
 simp only[jJ,Nx,ax]
def ER:Env:=e0 [(.int .i64),y9,.str]
def oG:ag:=xi.add 48 [(.int .i64),y9,.str] (jE (.int .i64) y9 .str yS (fun _ r K=>K [tS r.1,tI r.2] none))
theorem UJ:aI Tryz.prog oG:=jV ER Tryz.f48 (fun R kk x0 x1 x2 K=>Sf x0 x1 x2 (fun a0 a1=>K [tS a0,tI a1] none)) UI (ek _ _ _ _) Tryz.func48 (by kernel_rfl) rfl (fun _ _ _ _ _ _ h=>h _ _) (fun _ _ _ _ _ _=>by kernel_rfl) fun R kk e x0 x1 x2 K=>by
 simp only[yS,Sf,ax]
def Qj:Env:=bX.env (fun i=>bif Nat.beq i 4 then [2,3,7,8] else []) (fun i=>bif Nat.beq i 4 then [7] else []) [] [aT,y5]
def NL(a:ByteArray)(b:Int)(c:ai)(d:af):Option R:=av (ev Qj (oG R) kk (sub [1,1,1,0,1,0,0] (cd Tryz.f18))) [2,3,7,8] [7] k ⟨uS 2 ([.ptr 3 aT []]::[.ptr 4 y5 []]::uS 3 ([tS a]::[tI b]::uS 52 [])),nS 3 ((some ⟨aT,c,[]⟩)::(some ⟨y5,d,[]⟩)::nS 57 [])⟩ J
def zdd(a:ByteArray):State:=⟨uS 7 ([tS a]::uS 53 []),nS 62 []⟩
def IA:KX R:=(zk 0 (aH Qj (oG R) kk (sub [1,1,1,1] (cd Tryz.f18)) (aF Qj Tryz.f18.results.toList none K)))
theorem adu(a:ByteArray)(b:Int)(c:ai)(d:af):NL R kk (k+1) J a b c d=
 KN a b c d (NL R kk k J) (fun a0=>J (.exit 0) (zdd a0)):=by kernel_rfl
theorem Xf(a:ByteArray):IA R kk K (.exit 0) (zdd a)=
 zu8 a (fun a0=>K [tS a0] none):=by kernel_rfl
theorem aam{kk:Nat}(hF:kk=ae)(t7:ByteArray)(t8:Int)(cX:ai)(eZ:af):NL R kk k J t7 t8 cX eZ=(vL k t7 t8 cX eZ).bind fun e=>J (.exit 0) (zdd e):=by
 induction k generalizing t7 t8 cX eZ with
 |zero=>rfl
 |succ k ih=>
  rw[adu]
  simp only[vL,KN,ih,ax]
def xj:ag:=oG.add 18 [aT,y5] (cU aT y5 pc (fun _ r K=>K [tS r] none))
theorem UK:aI Tryz.prog xj:=cW Qj Tryz.f18 (fun R kk x0 x1 K=>NM x0 x1 (NL R kk kk (IA R kk K))) UJ (ek _ _ _ _) Tryz.func18 (by kernel_rfl) rfl (fun _ _ _ _ _ _ h=>h _ _) (fun _ _ _ _ _=>by kernel_rfl) fun R kk e x0 x1 K=>by
 simp only[pc,NM,zu8,aam (hF:=e),Xf,ax,<-e]
def Ev:Env:=e0 [kX,(.int .i64),.str]
def xk:ag:=xj.add 5 [kX,(.int .i64),.str] (jE kX (.int .i64) .str Eu (fun _ r K=>K [tB r] none))
theorem UL:aI Tryz.prog xk:=jV Ev Tryz.f5 (fun R kk x0 x1 x2 K=>Rq x0 x1 x2 (fun a0=>K [tB a0] none)) UK (ek _ _ _ _) Tryz.func5 (by kernel_rfl) rfl (fun _ _ _ _ _ _ h=>h _ _) (fun _ _ _ _ _ _=>by kernel_rfl) fun R kk e x0 x1 x2 K=>by
 simp only[Eu,Rq,ax]
end
end Go.Proofs.YtkgpjibbdpikcaaGreatDoor

