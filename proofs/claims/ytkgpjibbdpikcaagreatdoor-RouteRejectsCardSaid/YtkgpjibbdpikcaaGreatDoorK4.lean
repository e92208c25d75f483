/- No condition. -/
import Derived.Test.YtkgpjibbdpikcaaGreatDoorK3
import Derived.Test.YtkgpjibbdpikcaaGreatDoorProg
set_option linter.unusedVariables false
set_option linter.unusedSimpArgs false
set_option maxRecDepth 100000
namespace Go.Proofs.YtkgpjibbdpikcaaGreatDoor
noncomputable section
open Go Go.Ref bn
abbrev y0:Go.Ref.Ty:=(.pair (.sl 116 (.pair .str (.pair .str .unit))) .unit)
abbrev y1:Go.Ref.Ty:=(.pair (.sl 96 (.pair (.int .i64) (.pair .str .unit))) .unit)
abbrev y2:Go.Ref.Ty:=(.pair (.sl 90 (.pair (.int .i64) (.pair .str .unit))) .unit)
abbrev y3:Go.Ref.Ty:=(.pair (.int .i64) (.pair (.int .i64) (.pair (.int .i64) .unit)))
abbrev y4:Go.Ref.Ty:=(.pair .str y0)
abbrev y5:Go.Ref.Ty:=(.pair .str y2)
abbrev y6:Go.Ref.Ty:=(.pair (.int .i64) y3)
abbrev y7:Go.Ref.Ty:=(.pair (.int .i64) y4)
abbrev y8:Go.Ref.Ty:=(.pair (.sl 3 (.int .i64)) y1)
abbrev y9:Go.Ref.Ty:=(.pair (.int .i64) y6)
abbrev y10:Go.Ref.Ty:=(.pair (.int .i64) y7)
abbrev y11:Go.Ref.Ty:=(.pair (.sl 87 y9) .unit)
abbrev fo:Go.Ref.Ty:=(.pair (.int .i64) y10)
abbrev y13:Go.Ref.Ty:=(.pair (.int .i64) y11)
abbrev y14:Go.Ref.Ty:=(.pair (.sl 59 fo) .unit)
abbrev aU:Go.Ref.Ty:=(.pair (.int .i64) y13)
abbrev dC:Go.Ref.Ty:=(.pair (.sl 116 (.pair .str (.pair .str .unit))) y14)
abbrev y17:Go.Ref.Ty:=(.pair dC y8)
abbrev cX:Go.Ref.Ty:=(.pair aU y17)
abbrev kK:Go.Ref.Ty:=(.pair (.arr 2 cX) (.pair (.int .i64) .unit))
def Be:List (Option Ty):=[none,none,some (.int .i64),some (.int .i64),some .bool,some (.int .u8),some (.int .u8),some (.pair (.int .i64) (.pair (.int .i64) (.pair .bool (.pair (.int .u8) .unit)))),some (.pair (.int .i64) (.pair (.int .i64) (.pair .bool (.pair (.int .u8) .unit)))),some .str,some .str,some .str,some (.int .u64),none,none,none,none,none,none,none,none,some (.int .i32),some (.sl 87 y9),some aU,some aU,some (.sl 116 (.pair .str (.pair .str .unit))),some (.sl 59 fo),some dC,some dC,some (.sl 3 (.int .i64)),some (.sl 96 (.pair (.int .i64) (.pair .str .unit))),some cX,some cX,some (.arr 2 cX),some kK,some kK,none,none,some (.int .i64),none,none,none,none,none,none,none,none,some (.sl 90 (.pair (.int .i64) (.pair .str .unit))),some y5,some y5,none,none,none,none,none,none,none,none,some fo,some fo,none,none,none,none,none,none,none,none,none,some (.pair (.int .i64) (.pair (.int .i64) .unit)),some (.pair (.int .i64) (.pair (.int .i64) .unit)),none,none,none,none,none,none,none,none,none,none,none,none,none,none,none,some y9,some y9,none,some (.pair (.int .i64) (.pair .str .unit)),some (.pair (.int .i64) (.pair .str .unit)),none,none,none,none,some (.pair (.int .i64) (.pair .str .unit)),some (.pair (.int .i64) (.pair .str .unit)),none,none,none,none,some (.int .u64),some (.pair (.int .u64) (.pair (.int .u64) .unit)),some (.pair (.int .u64) (.pair (.int .u64) .unit)),none,none,none,none,none,none,none,some (.sl 9 .str),none,none,none,some (.pair .str (.pair .str .unit)),some (.pair .str (.pair .str .unit)),none,none,none,none,none,none,none,some (.sl 24 aU),none,none,none,none,none,none,none,none,none,none,none,none,none,none,none,none,none,none,none,none,some (.sl 5 (.int .u8)),none,none,none,none,none,none,none,none,none,none,none,none,none,none,none,none,none,none,none,none,none,none,none,none,none,none,none,none,none,none,none,none,none,none,none,none,none,none,none,none,some (.sl 38 (.int .i64)),some (.sl 29 (.sl 3 (.int .i64))),none,none,none,none,none,none,none,none,none,none,none,none,none,none,some (.sl 245 (.pair (.int .i64) (.pair .str .unit))),none,none,none,none,none,none,none,none,none,none,some (.arr 8 (.int .u8)),none,none,none,none,none,none,none,none,none,none,none,none,none,none,none,none,none,none,none,none,none,none,none,none,none,none,none,none,none,none,some (.pair (.int .i64) (.pair .str .unit)),some (.pair (.int .i64) (.pair .str .unit)),none,none,some (.int .u64),none,none,none,none,none,none,none,none,none,none,none,none,some (.arr 256 .bool),some (.arr 256 .bool),none,none,none,none,some (.int .u32),none,none,none,none,none,none,none,none,some (.arr 256 (.int .u8)),some (.pair (.int .u8) (.pair (.int .u8) .unit)),some (.pair (.int .u8) (.pair (.int .u8) .unit)),some (.arr 16 (.pair (.int .u8) (.pair (.int .u8) .unit))),none,none,none,none,none,none,none,none,some (.int .u8),some (.int .u8),none,some (.int .i32),some (.int .i32),none,none]
def PK:List Nat:=[0,8,8,8,1,1,1,24,24,16,16,16,8,24,24,8,8,8,8,8,16,4,24,40,40,24,24,48,48,24,24,136,136,272,280,280,8,8,8,0,8,8,0,8,0,8,8,24,40,40,0,8,8,8,8,8,8,8,64,64,8,8,8,8,8,8,8,8,8,16,16,8,0,8,8,0,8,8,8,8,0,8,8,8,0,8,40,40,8,24,24,0,8,8,8,24,24,8,8,8,8,8,16,16,8,8,8,8,8,8,8,24,8,8,8,32,32,8,0,8,0,8,8,8,24,8,8,8,8,8,8,8,8,8,8,8,8,8,8,8,8,8,8,8,8,24,32,32,16,16,0,8,8,8,0,8,8,8,8,0,8,0,8,8,8,8,0,8,0,8,0,8,0,8,8,8,0,8,8,8,8,8,8,8,8,8,24,24,8,8,8,8,8,0,8,8,8,8,0,8,8,8,24,0,8,8,8,8,8,8,8,0,8,8,8,8,8,8,0,8,0,8,8,8,8,0,8,0,8,8,0,8,8,8,8,8,8,8,8,0,8,8,8,8,24,24,8,8,8,8,8,8,8,8,8,0,8,8,8,8,8,256,256,0,8,8,8,4,0,8,8,0,8,8,8,8,256,2,2,32,8,8,8,40,40,0,0,0,1,1,8,4,4,48,48]
def xj:List Bool:=[false,false,false,false,false,false,false,false,false,false,false,false,false,false,false,true,true,true,false,false,false,false,false,false,false,false,false,false,false,false,false,false,false,false,false,false,false,false,false,false,false,false,false,false,false,false,false,false,false,false,false,false,false,false,false,false,false,false,false,false,false,false,false,false,false,false,false,false,false,false,false,false,false,false,false,false,false,false,false,false,false,false,false,false,false,false,false,false,false,false,false,false,false,false,false,false,false,false,false,false,false,false,false,false,false,false,false,false,false,false,false,false,false,false,false,false,false,false,false,false,false,false,false,false,false,false,false,false,false,false,false,false,false,false,false,false,false,false,false,false,false,false,false,false,true,false,false,false,false,false,false,false,false,false,false,false,false,false,false,false,false,false,false,false,false,false,false,false,false,false,false,false,false,false,false,false,false,false,false,false,false,false,false,false,false,false,false,false,false,false,false,false,false,false,false,false,false,false,false,false,false,false,false,false,false,false,false,false,false,false,false,false,false,false,false,false,false,true,false,false,false,false,false,false,false,false,false,false,false,false,false,false,false,false,false,false,false,false,false,false,false,false,false,false,false,false,false,false,false,false,false,false,false,false,false,false,false,false,false,false,false,false,false,false,false,false,true,false,false,false,false,false,false,false,false,false,false,false,false,false,false,false,false,false,false,false,false,false,false,false,false,false,false,false,false]
def Kk:List (TypeId×TypeId×TypeId):=[(125,9,4),(253,3,4)]
def b6:nD:=⟨Be,PK,xj,Kk⟩
theorem Ps:b6.ok Tryz.prog=true:=by kernel_rfl
theorem ek:∀a b c d,ak Tryz.prog (b6.env a b c d):=nD.ku Ps
abbrev e0(ps:List Ty):Env:=b6.env (fun _=>[]) (fun _=>[]) [] ps
abbrev uS(n:Nat)(l:List (List SV)):List (List SV):=Nat.rec (motive:=fun _=>List (List SV)) l (fun _ r=>[.undef]::r) n
abbrev nS(n:Nat)(l:List (Option bk)):List (Option bk):=Nat.rec (motive:=fun _=>List (Option bk)) l (fun _ r=>none::r) n
def JT:af:=af.none
theorem o0:aL Tryz.prog JT:= .none (by kernel_rfl)
variable (R:Type) (kk k:Nat) (K:KF R) (J:KX R)
def NM:Env:=b6.env (fun i=>bif Nat.beq i 3 then [0,3,4] else []) (fun i=>bif Nat.beq i 3 then [3] else []) [] [(.sl 9 .str)]
def Lv(a:(List ByteArray))(b:aN)(c:Int):Option R:=ax (ev NM (JT R) kk (sub [1,1,0,1,0,0] (cd Tryz.f65))) [0,3,4] [3] k ⟨[.ah (.sl 9 .str) a []]::uS 2 ([.ah (.sl 116 (.pair .str (.pair .str .unit))) b [[]]]::[tI c]::uS 21 []),nS 27 []⟩ J
def zd0(a:aN):State:=⟨uS 3 ([.ah (.sl 116 (.pair .str (.pair .str .unit))) a [[]]]::uS 22 []),nS 27 []⟩
def GC:KX R:=(zl 0 (aM NM (JT R) kk (sub [1,1,1] (cd Tryz.f65)) (aK NM Tryz.f65.results.toList none K)))
theorem ZN(a:(List ByteArray))(b:aN)(c:Int):Lv R kk (k+1) J a b c=
 zsm a b c (Lv R kk k J) (fun a0=>J (.exit 0) (zd0 a0)):=by kernel_rfl
theorem T8(a:aN):GC R kk K (.exit 0) (zd0 a)=
 zsn a (fun a0=>K [.ah (.sl 116 (.pair .str (.pair .str .unit))) a0 []] none):=by kernel_rfl
theorem WV{kk:Nat}(hF:kk=ag)(rl:(List ByteArray))(t3:aN)(t4:Int):Lv R kk k J rl t3 t4=(Lw k rl t3 t4).bind fun e=>J (.exit 0) (zd0 e):=by
 induction k generalizing rl t3 t4 with
 |zero=>rfl
 |succ k ih=>
  rw[ZN]
  simp only[Lw,zsm,ih,az]
def Tb1:af:=JT.add 65 [(.sl 9 .str)] (cG (.sl 9 .str) pV (fun _ r K=>K [.ah (.sl 116 (.pair .str (.pair .str .unit))) r []] none))
theorem o1:aL Tryz.prog Tb1:=cJ NM Tryz.f65 (fun R kk x0 K=>zsl x0 (Lv R kk kk (GC R kk K))) o0 (ek _ _ _ _) Tryz.func65 (by kernel_rfl) rfl (fun _ _ _ _ _ _ h=>h _ _) (fun _ _ _ _=>by kernel_rfl) fun R kk e x0 K=>by
 simp only[pV,zsl,zsn,WV (hF:=e),T8,az,<-e]
def abF:Env:=e0 []
def JU:af:=Tb1.add 129 [] (yX xS (fun _ r K=>K [.ah (.sl 3 (.int .i64)) r [[]]] none))
theorem o2:aL Tryz.prog JU:=Bc abF Tryz.f129 (fun R kk K=>zrp (fun a0=>K [.ah (.sl 3 (.int .i64)) a0 [[]]] none)) o1 (ek _ _ _ _) Tryz.func129 (by kernel_rfl) rfl (fun _ _ _ _ _ _ h=>h _ _) (fun _ _ _=>by kernel_rfl) fun R kk e K=>by
 simp only[xS,zrp,az]
def NL:Env:={b6.env (fun i=>bif Nat.beq i 4 then [1,2,3] else []) (fun i=>bif Nat.beq i 4 then [1] else []) [] [] with mv:=[31]}
def Lt(a:cc)(b:(List Int))(c:Int):Option R:=ax (ev NL (JU R) kk (sub [1,1,1,0,1,0,0] (cd Tryz.f66))) [1,2,3] [1] k ⟨uS 1 ([.ah (.sl 59 fo) a [[]]]::[.ah (.sl 3 (.int .i64)) b [[]]]::[tI c]::uS 28 []),nS 33 []⟩ J
def zcz(a:cc):State:=⟨uS 1 ([.ah (.sl 59 fo) a [[]]]::uS 30 []),nS 33 []⟩
def Gz:KX R:=(zl 0 (aM NL (JU R) kk (sub [1,1,1,1] (cd Tryz.f66)) (aK NL Tryz.f66.results.toList none K)))
theorem ZM(a:cc)(b:(List Int))(c:Int):Lt R kk (k+1) J a b c=
 zsj a b c (Lt R kk k J) (fun a0=>J (.exit 0) (zcz a0)):=by kernel_rfl
theorem T7(a:cc):Gz R kk K (.exit 0) (zcz a)=
 zsk a (fun a0=>K [.ah (.sl 59 fo) a0 [[]]] none):=by kernel_rfl
theorem WU{kk:Nat}(hF:kk=ag)(t1:cc)(t2:(List Int))(t3:Int):Lt R kk k J t1 t2 t3=(Lu k t1 t2 t3).bind fun e=>J (.exit 0) (zcz e):=by
 induction k generalizing t1 t2 t3 with
 |zero=>rfl
 |succ k ih=>
  rw[ZM]
  simp only[Lu,zsj,ih,az]
def JV:af:=JU.add 66 [] (yX sR (fun _ r K=>K [.ah (.sl 59 fo) r [[]]] none))
theorem o3:aL Tryz.prog JV:=Bc NL Tryz.f66 (fun R kk K=>zsi (Lt R kk kk (Gz R kk K))) o2 ((ek _ _ _ _).mv _) Tryz.func66 (by kernel_rfl) rfl (fun _ _ _ _ _ _ h=>h _ _) (fun _ _ _=>by kernel_rfl) fun R kk e K=>by
 simp only[sR,zsi,zsk,WU (hF:=e),T7,az,<-e]
def NG:Env:=b6.env (fun i=>bif Nat.beq i 3 then [0,3,4] else []) (fun i=>bif Nat.beq i 3 then [3] else []) [] [(.sl 116 (.pair .str (.pair .str .unit)))]
def Lh(a b:aN)(c:Int):Option R:=ax (ev NG (JV R) kk (sub [1,1,0,1,0,0] (cd Tryz.f67))) [0,3,4] [3] k ⟨[.ah (.sl 116 (.pair .str (.pair .str .unit))) a []]::uS 2 ([.ah (.sl 116 (.pair .str (.pair .str .unit))) b [[]]]::[tI c]::uS 22 []),nS 28 []⟩ J
def zcp(a:aN):State:=⟨uS 3 ([.ah (.sl 116 (.pair .str (.pair .str .unit))) a [[]]]::uS 23 []),nS 28 []⟩
def Gy:KX R:=(zl 0 (aM NG (JV R) kk (sub [1,1,1] (cd Tryz.f67)) (aK NG Tryz.f67.results.toList none K)))
theorem ZH(a b:aN)(c:Int):Lh R kk (k+1) J a b c=
 zs1 a b c (Lh R kk k J) (fun a0=>J (.exit 0) (zcp a0)):=by kernel_rfl
theorem TX(a:aN):Gy R kk K (.exit 0) (zcp a)=
 zs2 a (fun a0=>K [.ah (.sl 116 (.pair .str (.pair .str .unit))) a0 []] none):=by kernel_rfl
theorem WO{kk:Nat}(hF:kk=ag)(rl t3:aN)(t4:Int):Lh R kk k J rl t3 t4=(Li k rl t3 t4).bind fun e=>J (.exit 0) (zcp e):=by
 induction k generalizing rl t3 t4 with
 |zero=>rfl
 |succ k ih=>
  rw[ZH]
  simp only[Li,zs1,ih,az]
def Tb4:af:=JV.add 67 [(.sl 116 (.pair .str (.pair .str .unit)))] (cG (.sl 116 (.pair .str (.pair .str .unit))) pU (fun _ r K=>K [.ah (.sl 116 (.pair .str (.pair .str .unit))) r []] none))
theorem o4:aL Tryz.prog Tb4:=cJ NG Tryz.f67 (fun R kk x0 K=>zs0 x0 (Lh R kk kk (Gy R kk K))) o3 (ek _ _ _ _) Tryz.func67 (by kernel_rfl) rfl (fun _ _ _ _ _ _ h=>h _ _) (fun _ _ _ _=>by kernel_rfl) fun R kk e x0 K=>by
 simp only[pU,zs0,zs2,WO (hF:=e),TX,az,<-e]
def abG:Env:=e0 []
def JW:af:=Tb4.add 130 [] (yX xT (fun _ r K=>K [.ah (.sl 29 (.sl 3 (.int .i64))) r [[]]] none))
theorem o5:aL Tryz.prog JW:=Bc abG Tryz.f130 (fun R kk K=>zrt (fun a0=>K [.ah (.sl 29 (.sl 3 (.int .i64))) a0 [[]]] none)) o4 (ek _ _ _ _) Tryz.func130 (by kernel_rfl) rfl (fun _ _ _ _ _ _ h=>h _ _) (fun _ _ _=>by kernel_rfl) fun R kk e K=>by
 simp only[xT,zrt,az]
def NB:Env:=b6.env (fun i=>bif Nat.beq i 4 then [0,2,3,4,5] else []) (fun i=>bif Nat.beq i 4 then [2,3] else []) [2] [(.int .i64)]
def La(a:Int)(b:tQ)(c:Int)(d e:ai):Option R:=ax (ev NB (JW R) kk (sub [1,1,1,0,1,0,0] (cd Tryz.f68))) [0,2,3,4,5] [2,3] k ⟨[tI a]::uS 1 ([.ptr 3 aU []]::[.ptr 4 aU []]::[.ah (.sl 29 (.sl 3 (.int .i64))) b [[]]]::[tI c]::uS 52 []),nS 3 ((some ⟨aU,d,[[2]]⟩)::(some ⟨aU,e,[[2]]⟩)::nS 54 [])⟩ J
def zck(a b:ai):State:=⟨uS 2 ([.ptr 3 aU []]::[.ptr 4 aU []]::uS 54 []),nS 3 ((some ⟨aU,a,[[2]]⟩)::(some ⟨aU,b,[[2]]⟩)::nS 54 [])⟩
def Gx:KX R:=(zl 0 (aM NB (JW R) kk (sub [1,1,1,1] (cd Tryz.f68)) (aK NB Tryz.f68.results.toList none K)))
theorem ZE(a:Int)(b:tQ)(c:Int)(d e:ai):La R kk (k+1) J a b c d e=
 zrr a b c d e (La R kk k J) (fun a0 a1=>J (.exit 0) (zck a0 a1)):=by kernel_rfl
theorem z175(a b:ai):Gx R kk K (.exit 0) (zck a b)=
 zrs a b (fun a0=>K [.ah aU a0 [[2]]] none):=by kernel_rfl
theorem WL{kk:Nat}(hF:kk=ag)(kJ:Int)(t4:tQ)(t5:Int)(df fK:ai):La R kk k J kJ t4 t5 df fK=(Lb k kJ t4 t5 df fK).bind fun e=>J (.exit 0) (zck e.1 e.2):=by
 induction k generalizing kJ t4 t5 df fK with
 |zero=>rfl
 |succ k ih=>
  rw[ZE]
  simp only[Lb,zrr,ih,az]
def Tb6:af:=JW.add 68 [(.int .i64)] (cG (.int .i64) sP (fun _ r K=>K [.ah aU r [[2]]] none))
theorem o6:aL Tryz.prog Tb6:=cJ NB Tryz.f68 (fun R kk x0 K=>zrq x0 (La R kk kk (Gx R kk K))) o5 (ek _ _ _ _) Tryz.func68 (by kernel_rfl) rfl (fun _ _ _ _ _ _ h=>h _ _) (fun _ _ _ _=>by kernel_rfl) fun R kk e x0 K=>by
 simp only[sP,zrq,zrs,WL (hF:=e),z175,az,<-e]
def abM:Env:=e0 [.str,.str,.str]
def Tb7:af:=Tb6.add 69 [.str,.str,.str] (kE .str .str .str sQ (fun _ r K=>K [.ah (.sl 96 (.pair (.int .i64) (.pair .str .unit))) r [[]]] none))
theorem o7:aL Tryz.prog Tb7:=kV abM Tryz.f69 (fun R kk x0 x1 x2 K=>zsh x0 x1 x2 (fun a0=>K [.ah (.sl 96 (.pair (.int .i64) (.pair .str .unit))) a0 [[]]] none)) o6 (ek _ _ _ _) Tryz.func69 (by kernel_rfl) rfl (fun _ _ _ _ _ _ h=>h _ _) (fun _ _ _ _ _ _=>by kernel_rfl) fun R kk e x0 x1 x2 K=>by
 simp only[sQ,zsh,az]
def abJ:Env:={b6.env (fun _=>[]) (fun _=>[]) [0] [] with sh:=[47,59]}
def Tb8:af:=Tb7.add 26 [] (yX xW (fun _ r K=>K [.ah kK r [[0,((1:Int)).toNat,3],[0,((1:Int)).toNat,2],[0,((1:Int)).toNat,0,2],[0,((0:Int)).toNat,3],[0,((0:Int)).toNat,0,2]]] none))
theorem o8:aL Tryz.prog Tb8:=Bc abJ Tryz.f26 (fun R kk K=>zsg (fun a0=>K [.ah kK a0 [[0,((1:Int)).toNat,3],[0,((1:Int)).toNat,2],[0,((1:Int)).toNat,0,2],[0,((0:Int)).toNat,3],[0,((0:Int)).toNat,0,2]]] none)) o7 ((ek _ _ _ _).sh _) Tryz.func26 (by kernel_rfl) rfl (fun _ _ _ _ _ _ h=>h _ _) (fun _ _ _=>by kernel_rfl) fun R kk e K=>by
 simp only[xW,zsg,az]
def CA:Env:=e0 [(.int .i64)]
def Tb9:af:=Tb8.add 211 [(.int .i64)] (cG (.int .i64) vu (fun _ r K=>K [tI r] none))
theorem o9:aL Tryz.prog Tb9:=cJ CA Tryz.f211 (fun R kk x0 K=>N1 x0 (fun a0=>K [tI a0] none)) o8 (ek _ _ _ _) Tryz.func211 (by kernel_rfl) rfl (fun _ _ _ _ _ _ h=>h _ _) (fun _ _ _ _=>by kernel_rfl) fun R kk e x0 K=>by
 simp only[vu,N1,az]
def Cw:Env:=e0 [(.int .i64)]
def Dd:af:=Tb9.add 186 [(.int .i64)] (cG (.int .i64) xX (fun _ r K=>K [tB r] none))
theorem QP:aL Tryz.prog Dd:=cJ Cw Tryz.f186 (fun R kk x0 K=>NR x0 (fun a0=>K [tB a0] none)) o9 (ek _ _ _ _) Tryz.func186 (by kernel_rfl) rfl (fun _ _ _ _ _ _ h=>h _ _) (fun _ _ _ _=>by kernel_rfl) fun R kk e x0 K=>by
 simp only[xX,NR,az]
def ab0:Env:=e0 [(.int .i64)]
def s7:af:=Dd.add 202 [(.int .i64)] (cG (.int .i64) iG (fun _ r K=>K [tI r] none))
theorem Ra:aL Tryz.prog s7:=cJ ab0 Tryz.f202 (fun R kk x0 K=>IM x0 (fun a0=>K [tI a0] none)) QP (ek _ _ _ _) Tryz.func202 (by kernel_rfl) rfl (fun _ _ _ _ _ _ h=>h _ _) (fun _ _ _ _=>by kernel_rfl) fun R kk e x0 K=>by
 simp only[iG,IM,az]
def NY:Env:=b6.env (fun i=>bif Nat.beq i 3 then [3,5,6] else []) (fun i=>bif Nat.beq i 3 then [3] else []) [] [(.int .i64)]
def LS(a b c:Int):Option R:=ax (ev NY (s7 R) kk (sub [1,1,0,1,0,0] (cd Tryz.f187))) [3,5,6] [3] k ⟨uS 3 ([tI a]::uS 1 ([tI b]::[tI c]::uS 6 [])),nS 14 []⟩ J
def zdb(a:Int):State:=⟨uS 3 ([tI a]::uS 9 []),nS 14 []⟩
def GH:KX R:=(zl 0 (aM NY (s7 R) kk (sub [1,1,1] (cd Tryz.f187)) (aK NY Tryz.f187.results.toList none K)))
theorem ZV(a b c:Int):LS R kk (k+1) J a b c=
 zt7 a b c (LS R kk k J) (fun a0=>J (.exit 0) (zdb a0)):=by kernel_rfl
theorem Ui(a:Int):GH R kk K (.exit 0) (zdb a)=
 zt8 a (fun a0=>K [tI a0] none):=by kernel_rfl
theorem W6{kk:Nat}(hF:kk=ag)(t3 t5 t6:Int):LS R kk k J t3 t5 t6=(LU k t3 t5 t6).bind fun e=>J (.exit 0) (zdb e):=by
 induction k generalizing t3 t5 t6 with
 |zero=>rfl
 |succ k ih=>
  rw[ZV]
  simp only[LU,zt7,ih,az]
def De:af:=s7.add 187 [(.int .i64)] (cG (.int .i64) ox (fun _ r K=>K [tI r] none))
theorem Rl:aL Tryz.prog De:=cJ NY Tryz.f187 (fun R kk x0 K=>zt6 x0 (LS R kk kk (GH R kk K))) Ra (ek _ _ _ _) Tryz.func187 (by kernel_rfl) rfl (fun _ _ _ _ _ _ h=>h _ _) (fun _ _ _ _=>by kernel_rfl) fun R kk e x0 K=>by
 simp only[ox,zt6,zt8,W6 (hF:=e),Ui,az,<-e]
def acf:Env:=e0 [y9]
def s8:af:=De.add 131 [y9] (cG y9 kl (fun _ r K=>K [tI r] none))
theorem Rw:aL Tryz.prog s8:=cJ acf Tryz.f131 (fun R kk x0 K=>Mx x0 (fun a0=>K [tI a0] none)) Rl (ek _ _ _ _) Tryz.func131 (by kernel_rfl) rfl (fun _ _ _ _ _ _ h=>h _ _) (fun _ _ _ _=>by kernel_rfl) fun R kk e x0 K=>by
 simp only[kl,Mx,az]
def N5:Env:=b6.env (fun i=>bif Nat.beq i 6 then [1,26,27,28] else []) (fun i=>bif Nat.beq i 6 then [2,3] else []) [] [aU]
def Ml(a:fJ)(b c:Int)(d:ai):Option R:=ax (ev N5 (s8 R) kk (sub [1,1,0,1,0,0] (cd Tryz.f72))) [1,26,27,28] [2,3] k ⟨uS 1 ([.ptr 2 aU []]::uS 24 ([.ah (.sl 87 y9) a []]::[tI b]::[tI c]::uS 26 [])),nS 2 ((some ⟨aU,d,[]⟩)::nS 53 [])⟩ J
def zdq(a b:Int):State:=⟨uS 2 ([tI a]::[tI b]::uS 51 []),nS 56 []⟩
def zdr:State:=⟨uS 55 [],nS 56 []⟩
def zts:KX R:=(zl 1 (aM N5 (s8 R) kk (sub [1,1,1] (cd Tryz.f72)) (aK N5 Tryz.f72.results.toList none K)))
theorem Z5(a:fJ)(b c:Int)(d:ai):Ml R kk (k+1) J a b c d=
 IX a b c d (fun a0 a1=>J .ret (zdq a0 a1)) (Ml R kk k J) (J (.exit 1) (zdr)):=by kernel_rfl
theorem Uu(a b:Int):zts R kk K .ret (zdq a b)=
 Mm a b (fun a0 a1=>K [tI a0,tI a1] none):=by kernel_rfl
theorem Uv:zts R kk K (.exit 1) (zdr)=
 Mn (fun a0 a1=>K [tI a0,tI a1] none):=by kernel_rfl
theorem Xg{kk:Nat}(hF:kk=ag)(t26:fJ)(t27 t28:Int)(eO:ai):Ml R kk k J t26 t27 t28 eO=(xE k t26 t27 t28 eO).bind fun e=>(Sum.elim (fun(we:(Int×Int))=>J .ret (zdq we.1 we.2)) (fun(we:Unit)=>J (.exit 1) (zdr)) e):=by
 induction k generalizing t26 t27 t28 eO with
 |zero=>rfl
 |succ k ih=>
  rw[Z5]
  simp only[xE,IX,ih,az]
def s9:af:=s8.add 72 [aU] (cG aU lk (fun _ r K=>K [tI r.1,tI r.2] none))
theorem o14:aL Tryz.prog s9:=cJ N5 Tryz.f72 (fun R kk x0 K=>BF x0 (fun a0 a1=>K [tI a0,tI a1] none) (fun a0 a1 a2 a3=>Ml R kk kk (zts R kk K) a0 a1 a2 a3)) Rw (ek _ _ _ _) Tryz.func72 (by kernel_rfl) rfl (fun _ _ _ _ _ _ h=>h _ _) (fun _ _ _ _=>by kernel_rfl) fun R kk e x0 K=>by
 simp only[lk,zz0,Mm,Mn,Xg (hF:=e),Uu,Uv,az,<-e]
def N6:Env:=b6.env (fun i=>bif Nat.beq i 2 then [1,4,9,10,11] else []) (fun i=>bif Nat.beq i 2 then [4,5] else []) [4] [aU,(.int .i64)]
def zip(a:Int)(b:fJ)(c d:Int)(e:aj):Option R:=ax (ev N6 (s9 R) kk (sub [1,0,1,0,0] (cd Tryz.f73))) [1,4,9,10,11] [4,5] k ⟨uS 1 ([tI a]::uS 2 ([.ptr 5 y9 []]::uS 4 ([.ah (.sl 87 y9) b []]::[tI c]::[tI d]::uS 10 []))),nS 5 ((some ⟨y9,e,[]⟩)::nS 17 [])⟩ J
def zds(a:Bool)(b:aj):State:=⟨uS 4 ([.ptr 5 y9 []]::[tB a]::uS 16 []),nS 5 ((some ⟨y9,b,[]⟩)::nS 17 [])⟩
def zdt(a:aj):State:=⟨uS 4 ([.ptr 5 y9 []]::uS 17 []),nS 5 ((some ⟨y9,a,[]⟩)::nS 17 [])⟩
def ztt:KX R:=(zl 0 (aM N6 (s9 R) kk (sub [1,1] (cd Tryz.f73)) (aK N6 Tryz.f73.results.toList none K)))
theorem Z6(a:Int)(b:fJ)(c d:Int)(e:aj):zip R kk (k+1) J a b c d e=
 ztu a b c d e (fun a0 a1=>J .ret (zds a0 a1)) (zip R kk k J) (fun a0=>J (.exit 0) (zdt a0)):=by kernel_rfl
theorem Uw(a:Bool)(b:aj):ztt R kk K .ret (zds a b)=
 ztv a b (fun a0 a1=>K [.ah y9 a0 [],tB a1] none):=by kernel_rfl
theorem Ux(a:aj):ztt R kk K (.exit 0) (zdt a)=
 ztw a (fun a0 a1=>K [.ah y9 a0 [],tB a1] none):=by kernel_rfl
theorem Xh{kk:Nat}(hF:kk=ag)(dX:Int)(t9:fJ)(t10 t11:Int)(cC:aj):zip R kk k J dX t9 t10 t11 cC=(IY k dX t9 t10 t11 cC).bind fun e=>(Sum.elim (fun(we:(Bool×aj))=>J .ret (zds we.1 we.2)) (fun(we:aj)=>J (.exit 0) (zdt we)) e):=by
 induction k generalizing dX t9 t10 t11 cC with
 |zero=>rfl
 |succ k ih=>
  rw[Z6]
  simp only[IY,ztu,ih,az]
def tc:af:=s9.add 73 [aU,(.int .i64)] (c9 aU (.int .i64) eD (fun _ r K=>K [.ah y9 r.1 [],tB r.2] none))
theorem o15:aL Tryz.prog tc:=dm N6 Tryz.f73 (fun R kk x0 x1 K=>Mo x0 x1 (zip R kk kk (ztt R kk K))) o14 (ek _ _ _ _) Tryz.func73 (by kernel_rfl) rfl (fun _ _ _ _ _ _ h=>h _ _) (fun _ _ _ _ _=>by kernel_rfl) fun R kk e x0 x1 K=>by
 simp only[eD,Mo,ztv,ztw,Xh (hF:=e),Uw,Ux,az,<-e]
def N9:Env:=b6.env (fun i=>bif Nat.beq i 2 then [0,1,7,8] else []) (fun i=>bif Nat.beq i 2 then [4] else []) [] [(.sl 3 (.int .i64)),(.int .i64)]
def Mv(a:(List Int))(b c d:Int):Option R:=ax (ev N9 (tc R) kk (sub [1,0,1,0,0] (cd Tryz.f188))) [0,1,7,8] [4] k ⟨[.ah (.sl 3 (.int .i64)) a []]::[tI b]::uS 5 ([tI c]::[tI d]::uS 10 []),nS 20 []⟩ J
def zdy(a:Int):State:=⟨uS 4 ([tI a]::uS 14 []),nS 20 []⟩
def zdz:State:=⟨uS 19 [],nS 20 []⟩
def zu5:KX R:=(zl 0 (aM N9 (tc R) kk (sub [1,1] (cd Tryz.f188)) (aK N9 Tryz.f188.results.toList none K)))
theorem Z9(a:(List Int))(b c d:Int):Mv R kk (k+1) J a b c d=
 zu6 a b c d (fun a0=>J .ret (zdy a0)) (Mv R kk k J) (J (.exit 0) (zdz)):=by kernel_rfl
theorem UC(a:Int):zu5 R kk K .ret (zdy a)=
 zu7 a (fun a0=>K [tI a0] none):=by kernel_rfl
theorem UD:zu5 R kk K (.exit 0) (zdz)=
 zu8 (fun a0=>K [tI a0] none):=by kernel_rfl
theorem Xk{kk:Nat}(hF:kk=ag)(qx:(List Int))(PE t7 t8:Int):Mv R kk k J qx PE t7 t8=(I1 k qx PE t7 t8).bind fun e=>(Sum.elim (fun(we:Int)=>J .ret (zdy we)) (fun(we:Unit)=>J (.exit 0) (zdz)) e):=by
 induction k generalizing qx PE t7 t8 with
 |zero=>rfl
 |succ k ih=>
  rw[Z9]
  simp only[I1,zu6,ih,az]
def Df:af:=tc.add 188 [(.sl 3 (.int .i64)),(.int .i64)] (c9 (.sl 3 (.int .i64)) (.int .i64) sU (fun _ r K=>K [tI r] none))
theorem o16:aL Tryz.prog Df:=dm N9 Tryz.f188 (fun R kk x0 x1 K=>Mw x0 x1 (Mv R kk kk (zu5 R kk K))) o15 (ek _ _ _ _) Tryz.func188 (by kernel_rfl) rfl (fun _ _ _ _ _ _ h=>h _ _) (fun _ _ _ _ _=>by kernel_rfl) fun R kk e x0 x1 K=>by
 simp only[sU,Mw,zu7,zu8,Xk (hF:=e),UC,UD,az,<-e]
def ace:Env:=e0 [(.sl 3 (.int .i64)),(.int .i64)]
def Dg:af:=Df.add 132 [(.sl 3 (.int .i64)),(.int .i64)] (c9 (.sl 3 (.int .i64)) (.int .i64) qi (fun _ r K=>K [tB r] none))
theorem o17:aL Tryz.prog Dg:=dm ace Tryz.f132 (fun R kk x0 x1 K=>Mq x0 x1 (fun a0=>K [tB a0] none)) o16 (ek _ _ _ _) Tryz.func132 (by kernel_rfl) rfl (fun _ _ _ _ _ _ h=>h _ _) (fun _ _ _ _ _=>by kernel_rfl) fun R kk e x0 x1 K=>by
 simp only[qi,Mq,az]
def ab3:Env:=e0 [cX,(.int .i64)]
def Dh:af:=Dg.add 74 [cX,(.int .i64)] (c9 cX (.int .i64) qc (fun _ r K=>K [tI r] none))
theorem o18:aL Tryz.prog Dh:=dm ab3 Tryz.f74 (fun R kk x0 x1 K=>Ma x0 x1 (fun a0=>K [tI a0] none)) o17 (ek _ _ _ _) Tryz.func74 (by kernel_rfl) rfl (fun _ _ _ _ _ _ h=>h _ _) (fun _ _ _ _ _=>by kernel_rfl) fun R kk e x0 x1 K=>by
 simp only[qc,Ma,az]
def ab2:Env:=e0 [(.pair (.int .i64) (.pair .str .unit)),.unit]
def td:af:=Dh.add 134 [(.pair (.int .i64) (.pair .str .unit)),.unit] (pz (.pair (.int .i64) (.pair .str .unit)) (.pair (.int .i64) (.pair .str .unit)) (.pair (.int .i64) (.pair .str .unit)) [] oD (fun _ r K=>K [tB r.1] (some ⟨(.pair (.int .i64) (.pair .str .unit)),r.2,[]⟩)))
theorem o19:aL Tryz.prog td:=sz ab2 Tryz.f134 (fun R kk x0 x1 K=>L9 x0 x1 (fun a0 a1=>K [tB a0] (some ⟨(.pair (.int .i64) (.pair .str .unit)),a1,[]⟩))) o18 (ek _ _ _ _) Tryz.func134 (by kernel_rfl) rfl (fun _ _ _ _ _ _ h=>h _ _) (fun _ _ _ _ _=>by kernel_rfl) fun R kk e x0 x1 K=>by
 simp only[oD,L9,az]
def N7:Env:=b6.env (fun i=>bif Nat.beq i 2 then [0,1,7,8] else []) (fun i=>bif Nat.beq i 2 then [4] else []) [] [(.sl 96 (.pair (.int .i64) (.pair .str .unit))),.unit]
def Mr(a:aq)(b c:Int)(d:cR):Option R:=ax (ev N7 (td R) kk (sub [1,0,1,0,0] (cd Tryz.f189))) [0,1,7,8] [4] k ⟨[.ah (.sl 96 (.pair (.int .i64) (.pair .str .unit))) a []]::[.ptr 0 (.aT (.pD 134) (.pair (.int .i64) (.pair .str .unit)) .unit) []]::uS 5 ([tI b]::[tI c]::uS 10 []),(some ⟨(.pair (.int .i64) (.pair .str .unit)),d,[]⟩)::nS 19 []⟩ J
def zdu(a:Int)(b:cR):State:=⟨uS 4 ([tI a]::uS 14 []),(some ⟨(.pair (.int .i64) (.pair .str .unit)),b,[]⟩)::nS 19 []⟩
def zdv(a:cR):State:=⟨uS 19 [],(some ⟨(.pair (.int .i64) (.pair .str .unit)),a,[]⟩)::nS 19 []⟩
def ztx(a:cR):KX R:=(zl 0 (aM N7 (td R) kk (sub [1,1] (cd Tryz.f189)) (aK N7 Tryz.f189.results.toList (some ⟨(.pair (.int .i64) (.pair .str .unit)),a,[]⟩) K)))
theorem Z7(a:aq)(b c:Int)(d:cR):Mr R kk (k+1) J a b c d=
 zty a b c d (fun a0 a1=>J .ret (zdu a0 a1)) (Mr R kk k J) (fun a0=>J (.exit 0) (zdv a0)):=by kernel_rfl
theorem Uy(a:cR)(b:Int)(c:cR):ztx R kk K a .ret (zdu b c)=
 ztz b c (fun a0 a1=>K [tI a0] (some ⟨(.pair (.int .i64) (.pair .str .unit)),a1,[]⟩)):=by kernel_rfl
theorem Uz(a b:cR):ztx R kk K a (.exit 0) (zdv b)=
 zu0 b (fun a0 a1=>K [tI a0] (some ⟨(.pair (.int .i64) (.pair .str .unit)),a1,[]⟩)):=by kernel_rfl
theorem Xi{kk:Nat}(hF:kk=ag)(qx:aq)(t7 t8:Int)(recv:cR):Mr R kk k J qx t7 t8 recv=(IZ k qx t7 t8 recv).bind fun e=>(Sum.elim (fun(we:(Int×cR))=>J .ret (zdu we.1 we.2)) (fun(we:cR)=>J (.exit 0) (zdv we)) e):=by
 induction k generalizing qx t7 t8 recv with
 |zero=>rfl
 |succ k ih=>
  rw[Z7]
  simp only[IZ,zty,ih,az]
def Di:af:=td.add 189 [(.sl 96 (.pair (.int .i64) (.pair .str .unit))),.unit] (pz (.sl 96 (.pair (.int .i64) (.pair .str .unit))) (.aT (.pD 134) (.pair (.int .i64) (.pair .str .unit)) .unit) (.pair (.int .i64) (.pair .str .unit)) [] sT (fun _ r K=>K [tI r.1] (some ⟨(.pair (.int .i64) (.pair .str .unit)),r.2,[]⟩)))
theorem o20:aL Tryz.prog Di:=sz N7 Tryz.f189 (fun R kk x0 x1 K=>Ms x0 x1 (Mr R kk kk (ztx R kk K x1))) o19 (ek _ _ _ _) Tryz.func189 (by kernel_rfl) rfl (fun _ _ _ _ _ _ h=>h _ _) (fun _ _ _ _ _=>by kernel_rfl) fun R kk e x0 x1 K=>by
 simp only[sT,Ms,ztz,zu0,Xi (hF:=e),Uy,Uz,az,<-e]
def acd:Env:=e0 [(.sl 96 (.pair (.int .i64) (.pair .str .unit))),.unit]
def Dj:af:=Di.add 133 [(.sl 96 (.pair (.int .i64) (.pair .str .unit))),.unit] (pz (.sl 96 (.pair (.int .i64) (.pair .str .unit))) (.aT (.pD 134) (.pair (.int .i64) (.pair .str .unit)) .unit) (.pair (.int .i64) (.pair .str .unit)) [] qh (fun _ r K=>K [tB r.1] (some ⟨(.pair (.int .i64) (.pair .str .unit)),r.2,[]⟩)))
theorem o21:aL Tryz.prog Dj:=sz acd Tryz.f133 (fun R kk x0 x1 K=>Mp x0 x1 (fun a0 a1=>K [tB a0] (some ⟨(.pair (.int .i64) (.pair .str .unit)),a1,[]⟩))) o20 (ek _ _ _ _) Tryz.func133 (by kernel_rfl) rfl (fun _ _ _ _ _ _ h=>h _ _) (fun _ _ _ _ _=>by kernel_rfl) fun R kk e x0 x1 K=>by
 simp only[qh,Mp,az]
def Cz:Env:=e0 [(.int .u8)]
def te:af:=Dj.add 212 [(.int .u8)] (cG (.int .u8) xY (fun _ r K=>K [tI r] none))
theorem o22:aL Tryz.prog te:=cJ Cz Tryz.f212 (fun R kk x0 K=>zyv x0 (fun a0=>K [tI a0] none)) o21 (ek _ _ _ _) Tryz.func212 (by kernel_rfl) rfl (fun _ _ _ _ _ _ h=>h _ _) (fun _ _ _ _=>by kernel_rfl) fun R kk e x0 K=>by
 simp only[xY,zyv,az]
def m4:Env:=b6.env (fun i=>bif Nat.beq i 3 then [1,5,6] else []) (fun i=>bif Nat.beq i 3 then [4] else []) [] [(.int .i64),.str]
def NN(a:ByteArray)(b c:Int):Option R:=ax (ev m4 (te R) kk (sub [1,1,0,1,0,0] (cd Tryz.f190))) [1,5,6] [4] k ⟨uS 1 ([tS a]::uS 3 ([tI b]::[tI c]::uS 16 [])),nS 24 []⟩ J
def zlf(a:Int):State:=⟨uS 4 ([tI a]::uS 18 []),nS 24 []⟩
def zlg:State:=⟨uS 23 [],nS 24 []⟩
def zys:KX R:=(zl 0 (aM m4 (te R) kk (sub [1,1,1] (cd Tryz.f190)) (aK m4 Tryz.f190.results.toList none K)))
theorem abO(a:ByteArray)(b c:Int):NN R kk (k+1) J a b c=
 Jj a b c (fun a0=>J .ret (zlf a0)) (NN R kk k J) (J (.exit 0) (zlg)):=by kernel_rfl
theorem WW(a:Int):zys R kk K .ret (zlf a)=
 zyt a (fun a0=>K [tI a0] none):=by kernel_rfl
theorem WX:zys R kk K (.exit 0) (zlg)=
 zyu (fun a0=>K [tI a0] none):=by kernel_rfl
theorem ZO{kk:Nat}(hF:kk=ag)(jJ:ByteArray)(t5 t6:Int):NN R kk k J jJ t5 t6=(z87 k jJ t5 t6).bind fun e=>(Sum.elim (fun(we:Int)=>J .ret (zlf we)) (fun(we:Unit)=>J (.exit 0) (zlg)) e):=by
 induction k generalizing jJ t5 t6 with
 |zero=>rfl
 |succ k ih=>
  rw[abO]
  simp only[z87,Jj,ih,az]
def Dk:af:=te.add 190 [(.int .i64),.str] (c9 (.int .i64) .str Cv (fun _ r K=>K [tI r] none))
theorem o23:aL Tryz.prog Dk:=dm m4 Tryz.f190 (fun R kk x0 x1 K=>NO x0 x1 (NN R kk kk (zys R kk K))) o22 (ek _ _ _ _) Tryz.func190 (by kernel_rfl) rfl (fun _ _ _ _ _ _ h=>h _ _) (fun _ _ _ _ _=>by kernel_rfl) fun R kk e x0 x1 K=>by
 simp only[Cv,NO,zyt,zyu,ZO (hF:=e),WW,WX,az,<-e]
def acp:Env:=e0 [(.int .i64)]
def Dl:af:=Dk.add 227 [(.int .i64)] (cG (.int .i64) mz (fun _ r K=>K [tB r] none))
theorem o24:aL Tryz.prog Dl:=cJ acp Tryz.f227 (fun R kk x0 K=>zuc x0 (fun a0=>K [tB a0] none)) o23 (ek _ _ _ _) Tryz.func227 (by kernel_rfl) rfl (fun _ _ _ _ _ _ h=>h _ _) (fun _ _ _ _=>by kernel_rfl) fun R kk e x0 K=>by
 simp only[mz,zuc,az]
def aco:Env:=e0 [(.int .i64)]
def Dm:af:=Dl.add 228 [(.int .i64)] (cG (.int .i64) qo (fun _ r K=>K [tB r] none))
theorem o25:aL Tryz.prog Dm:=cJ aco Tryz.f228 (fun R kk x0 K=>MP x0 (fun a0=>K [tB a0] none)) o24 (ek _ _ _ _) Tryz.func228 (by kernel_rfl) rfl (fun _ _ _ _ _ _ h=>h _ _) (fun _ _ _ _=>by kernel_rfl) fun R kk e x0 K=>by
 simp only[qo,MP,az]
def acn:Env:=e0 [.str,(.int .i64)]
def Dn:af:=Dm.add 213 [.str,(.int .i64)] (c9 .str (.int .i64) qn (fun _ r K=>K [tI r.1,tI r.2.1,tI r.2.2] none))
theorem o26:aL Tryz.prog Dn:=dm acn Tryz.f213 (fun R kk x0 x1 K=>MO x0 x1 (fun a0 a1 a2=>K [tI a0,tI a1,tI a2] none)) o25 (ek _ _ _ _) Tryz.func213 (by kernel_rfl) rfl (fun _ _ _ _ _ _ h=>h _ _) (fun _ _ _ _ _=>by kernel_rfl) fun R kk e x0 x1 K=>by
 simp only[qn,MO,az]
def Px:Env:=e0 [(.int .i64)]
def tf:af:=Dn.add 229 [(.int .i64)] (cG (.int .i64) Q4 (fun _ r K=>K [tI r] none))
theorem o27:aL Tryz.prog tf:=cJ Px Tryz.f229 (fun R kk x0 K=>nh x0 (fun a0=>K [tI a0] none)) o26 (ek _ _ _ _) Tryz.func229 (by kernel_rfl) rfl (fun _ _ _ _ _ _ h=>h _ _) (fun _ _ _ _=>by kernel_rfl) fun R kk e x0 K=>by
 simp only[Q4,nh,az]
def sY:Env:=b6.env (fun i=>bif Nat.beq i 14 then [0,1,7,8,44,45] else []) (fun i=>bif Nat.beq i 14 then [1,7,8] else []) [] [.str,(.int .i64)]
def ng(a:ByteArray)(b c d e f:Int):Option R:=ax (ev sY (tf R) kk (sub [1,1,1,1,1,1,1,0,1,0,0] (cd Tryz.f214))) [0,1,7,8,44,45] [1,7,8] k ⟨[tS a]::[tI b]::uS 5 ([tI c]::[tI d]::uS 35 ([tI e]::[tI f]::uS 21 [])),nS 68 []⟩ J
def zv4(a b c:Int):State:=⟨uS 1 ([tI a]::uS 5 ([tI b]::[tI c]::uS 58 [])),nS 68 []⟩
def vA:KX R:=(zl 0 (aM sY (tf R) kk (sub [1,1,1,1,1,1,1,1] (cd Tryz.f214)) (aK sY Tryz.f214.results.toList none K)))
theorem CO(a:ByteArray)(b c d e f:Int):ng R kk (k+1) J a b c d e f=
 jP a b c d e f (ng R kk k J) (fun a0 a1 a2=>J (.exit 0) (zv4 a0 a1 a2)):=by kernel_rfl
theorem aat(a b c:Int):vA R kk K (.exit 0) (zv4 a b c)=
 jQ a b c (fun a0 a1 a2=>K [tI a0,tI a1,tI a2] none):=by kernel_rfl
theorem acy{kk:Nat}(hF:kk=ag)(iP:ByteArray)(yb t7 t8 t44 t45:Int):ng R kk k J iP yb t7 t8 t44 t45=(dJ k iP yb t7 t8 t44 t45).bind fun e=>J (.exit 0) (zv4 e.1 e.2.1 e.2.2):=by
 induction k generalizing iP yb t7 t8 t44 t45 with
 |zero=>rfl
 |succ k ih=>
  rw[CO]
  simp only[dJ,jP,ih,az]
def tg:af:=tf.add 214 [.str,(.int .i64)] (c9 .str (.int .i64) Q3 (fun _ r K=>K [tI r.1,tI r.2.1,tI r.2.2] none))
theorem o28:aL Tryz.prog tg:=dm sY Tryz.f214 (fun R kk x0 x1 K=>jO x0 x1 (fun a0 a1 a2=>K [tI a0,tI a1,tI a2] none) (fun a0 a1 a2 a3 a4 a5=>ng R kk kk (vA R kk K) a0 a1 a2 a3 a4 a5)) o27 (ek _ _ _ _) Tryz.func214 (by kernel_rfl) rfl (fun _ _ _ _ _ _ h=>h _ _) (fun _ _ _ _ _=>by kernel_rfl) fun R kk e x0 x1 K=>by
 simp only[Q3,S8,jQ,acy (hF:=e),aat,az,<-e]
def Og:Env:=b6.env (fun i=>bif Nat.beq i 4 then [0,5,6,7,13] else []) (fun i=>bif Nat.beq i 4 then [2,3,4,5] else []) [] [.str]
def MQ(a:ByteArray)(b:aq)(c:Int)(d:x8):Option R:=ax (ev Og (tg R) kk (sub [1,1,1,0,1,0,0] (cd Tryz.f191))) [0,5,6,7,13] [2,3,4,5] k ⟨[tS a]::uS 4 ([.ah (.sl 245 (.pair (.int .i64) (.pair .str .unit))) b [[]]]::[.ptr 14 (.aT .mp (.int .i64) .bool) []]::[tI c]::uS 5 ([.ptr 14 (.aT .mp (.int .i64) .bool) []]::uS 58 [])),nS 14 ((some ⟨(.aT .mp (.int .i64) .bool),d,[]⟩)::nS 58 [])⟩ J
def ze5(a:aq)(b c:Int)(d:aq):State:=⟨uS 2 ([.ah (.sl 245 (.pair (.int .i64) (.pair .str .unit))) a [[]]]::[tI b]::[tI c]::[.ah (.sl 245 (.pair (.int .i64) (.pair .str .unit))) d [[]]]::uS 66 []),nS 73 []⟩
def ze6(a:aq):State:=⟨uS 5 ([.ah (.sl 245 (.pair (.int .i64) (.pair .str .unit))) a [[]]]::uS 66 []),nS 73 []⟩
def zud:KX R:=(zl 0 (aM Og (tg R) kk (sub [1,1,1,1] (cd Tryz.f191)) (aK Og Tryz.f191.results.toList none K)))
theorem aag(a:ByteArray)(b:aq)(c:Int)(d:x8):MQ R kk (k+1) J a b c d=
 MS a b c d (fun a0 a1 a2 a3=>J .ret (ze5 a0 a1 a2 a3)) (MQ R kk k J) (fun a0=>J (.exit 0) (ze6 a0)):=by kernel_rfl
theorem UI(a:aq)(b c:Int)(d:aq):zud R kk K .ret (ze5 a b c d)=
 zue a b c d (fun a0 a1 a2=>K [.ah (.sl 245 (.pair (.int .i64) (.pair .str .unit))) a0 [[]],tI a1,tI a2] none):=by kernel_rfl
theorem UJ(a:aq):zud R kk K (.exit 0) (ze6 a)=
 zuf a (fun a0 a1 a2=>K [.ah (.sl 245 (.pair (.int .i64) (.pair .str .unit))) a0 [],tI a1,tI a2] none):=by kernel_rfl
theorem Xq{kk:Nat}(hF:kk=ag)(iP:ByteArray)(t5:aq)(t7:Int)(gH:x8):MQ R kk k J iP t5 t7 gH=(BI k iP t5 t7 gH).bind fun e=>(Sum.elim (fun(we:oL)=>J .ret (ze5 we.1 we.2.1 we.2.2.1 we.2.2.2)) (fun(we:aq)=>J (.exit 0) (ze6 we)) e):=by
 induction k generalizing iP t5 t7 gH with
 |zero=>rfl
 |succ k ih=>
  rw[aag]
  simp only[BI,MS,ih,az]
def Dp:af:=tg.add 191 [.str] (cG .str qq (fun _ r K=>(Sum.elim (fun(wr:ii)=>K [.ah (.sl 245 (.pair (.int .i64) (.pair .str .unit))) wr.1 [[]],tI wr.2.1,tI wr.2.2] none) (fun(wr:ii)=>K [.ah (.sl 245 (.pair (.int .i64) (.pair .str .unit))) wr.1 [],tI wr.2.1,tI wr.2.2] none) r)))
theorem o29:aL Tryz.prog Dp:=cJ Og Tryz.f191 (fun R kk x0 K=>MR x0 (MQ R kk kk (zud R kk K))) o28 (ek _ _ _ _) Tryz.func191 (by kernel_rfl) rfl (fun _ _ _ _ _ _ h=>Hl (fun _=>h _ _) (fun _=>h _ _)) (fun _ _ _ _=>by kernel_rfl) fun R kk e x0 K=>by
 simp only[qq,MR,zue,zuf,Xq (hF:=e),UI,UJ,az,<-e]
def acg:Env:=e0 [y9,.str]
def Dq:af:=Dp.add 135 [y9,.str] (c9 y9 .str bz (fun _ r K=>K [tI r] none))
theorem o30:aL Tryz.prog Dq:=dm acg Tryz.f135 (fun R kk x0 x1 K=>My x0 x1 (fun a0=>K [tI a0] none)) o29 (ek _ _ _ _) Tryz.func135 (by kernel_rfl) rfl (fun _ _ _ _ _ _ h=>h _ _) (fun _ _ _ _ _=>by kernel_rfl) fun R kk e x0 x1 K=>by
 simp only[bz,My,az]
def ab1:Env:=e0 [cX,(.int .i64),y9]
def oK:af:=Dq.add 75 [cX,(.int .i64),y9] (kE cX (.int .i64) y9 qb (fun _ r K=>K [tI r] none))
theorem o31:aL Tryz.prog oK:=kV ab1 Tryz.f75 (fun R kk x0 x1 x2 K=>L8 x0 x1 x2 (fun a0=>K [tI a0] none)) o30 (ek _ _ _ _) Tryz.func75 (by kernel_rfl) rfl (fun _ _ _ _ _ _ h=>h _ _) (fun _ _ _ _ _ _=>by kernel_rfl) fun R kk e x0 x1 x2 K=>by
 simp only[qb,L8,az]
def AG:Env:=b6.env (fun i=>bif Nat.beq i 8 then [1,7,33,34] else bif Nat.beq i 16 then [1,7,11,46,47,48] else []) (fun i=>bif Nat.beq i 8 then [1,2,3,4,7] else bif Nat.beq i 16 then [1,2,3,4,11] else []) [] [cX]
def LZ(a b:Int)(c:aB)(d:aj):Option R:=ax (ev AG (oK R) kk (sub [1,1,1,1,0,1,0,0] (cd Tryz.f30))) [1,7,33,34] [1,2,3,4,7] k ⟨uS 1 ([.ptr 2 cX []]::uS 5 ([.ptr 8 y9 []]::uS 25 ([tI a]::[tI b]::uS 38 []))),nS 2 ((some ⟨cX,c,[]⟩)::nS 5 ((some ⟨y9,d,[]⟩)::nS 65 []))⟩ J
def zdd(a b c:Int)(d:aB)(e:aj):State:=⟨uS 1 ([.ptr 2 cX []]::[tI a]::[tI b]::[tI c]::uS 2 ([.ptr 8 y9 []]::uS 65 [])),nS 2 ((some ⟨cX,d,[]⟩)::nS 5 ((some ⟨y9,e,[]⟩)::nS 65 []))⟩
def zde(a:aB)(b:aj):State:=⟨uS 1 ([.ptr 2 cX []]::uS 5 ([.ptr 8 y9 []]::uS 65 [])),nS 2 ((some ⟨cX,a,[]⟩)::nS 5 ((some ⟨y9,b,[]⟩)::nS 65 []))⟩
def zta:KX R:=(zl 0 (aM AG (oK R) kk (sub [1,1,1,1,1] (cd Tryz.f30)) (aK AG Tryz.f30.results.toList none K)))
def L0(a:Bool)(b:aq)(c d:Int)(e:aB)(f:aj):Option R:=ax (ev AG (oK R) kk (sub [1,1,1,1,1,1,0,1,0,0] (cd Tryz.f30))) [1,7,11,46,47,48] [1,2,3,4,11] k ⟨uS 1 ([.ptr 2 cX []]::uS 5 ([.ptr 8 y9 []]::uS 3 ([tB a]::uS 34 ([.ah (.sl 96 (.pair (.int .i64) (.pair .str .unit))) b []]::[tI c]::[tI d]::uS 24 [])))),nS 2 ((some ⟨cX,e,[]⟩)::nS 5 ((some ⟨y9,f,[]⟩)::nS 65 []))⟩ J
def zdf(a b c:Int)(d:Bool)(e:aB):State:=⟨uS 1 ([.ptr 2 cX []]::[tI a]::[tI b]::[tI c]::uS 6 ([tB d]::uS 61 [])),nS 2 ((some ⟨cX,e,[]⟩)::nS 71 [])⟩
def zdg(a:Bool)(b:aB):State:=⟨uS 1 ([.ptr 2 cX []]::uS 9 ([tB a]::uS 61 [])),nS 2 ((some ⟨cX,b,[]⟩)::nS 71 [])⟩
def ztb:KX R:=(zl 2 (aM AG (oK R) kk (sub [1,1,1,1,1,1,1] (cd Tryz.f30)) (aK AG Tryz.f30.results.toList none K)))
theorem ZX(a b:Int)(c:aB)(d:aj):LZ R kk (k+1) J a b c d=
 IQ a b c d (fun a0 a1 a2 a3 a4=>J .ret (zdd a0 a1 a2 a3 a4)) (LZ R kk k J) (fun a0 a1=>J (.exit 0) (zde a0 a1)):=by kernel_rfl
theorem Uk(a b c:Int)(d:aB)(e:aj):zta R kk K .ret (zdd a b c d e)=
 ztc a b c d e (fun a0 a1 a2=>K [tI a0,tI a1,tI a2] none):=by kernel_rfl
theorem Ul(a:aB)(b:aj):zta R kk K (.exit 0) (zde a b)=
 L2 a b (L0 R kk kk (ztb R kk K)):=by kernel_rfl
theorem ZY(a:Bool)(b:aq)(c d:Int)(e:aB)(f:aj):L0 R kk (k+1) J a b c d e f=
 IU a b c d e f (fun a0 a1 a2 a3 a4=>J .ret (zdf a0 a1 a2 a3 a4)) (L0 R kk k J) (fun a0 a1=>J (.exit 2) (zdg a0 a1)):=by kernel_rfl
theorem Um(a b c:Int)(d:Bool)(e:aB):ztb R kk K .ret (zdf a b c d e)=
 ztd a b c d e (fun a0 a1 a2=>K [tI a0,tI a1,tI a2] none):=by kernel_rfl
theorem Un(a:Bool)(b:aB):ztb R kk K (.exit 2) (zdg a b)=
 L3 a b (fun a0 a1 a2=>K [tI a0,tI a1,tI a2] none):=by kernel_rfl
theorem W8{kk:Nat}(hF:kk=ag)(t33 t34:Int)(eO:aB)(mH:aj):LZ R kk k J t33 t34 eO mH=(Am k t33 t34 eO mH).bind fun e=>(Sum.elim (fun(we:(Int×Int×Int×aB×aj))=>J .ret (zdd we.1 we.2.1 we.2.2.1 we.2.2.2.1 we.2.2.2.2)) (fun(we:(aB×aj))=>J (.exit 0) (zde we.1 we.2)) e):=by
 induction k generalizing t33 t34 eO mH with
 |zero=>rfl
 |succ k ih=>
  rw[ZX]
  simp only[Am,IQ,ih,az]
theorem W9{kk:Nat}(hF:kk=ag)(t11:Bool)(t46:aq)(t47 t48:Int)(eO:aB)(mH:aj):L0 R kk k J t11 t46 t47 t48 eO mH=(An k t11 t46 t47 t48 eO mH).bind fun e=>(Sum.elim (fun(we:(Int×Int×Int×Bool×aB))=>J .ret (zdf we.1 we.2.1 we.2.2.1 we.2.2.2.1 we.2.2.2.2)) (fun(we:(Bool×aB))=>J (.exit 2) (zdg we.1 we.2)) e):=by
 induction k generalizing t11 t46 t47 t48 eO mH with
 |zero=>rfl
 |succ k ih=>
  rw[ZY]
  simp only[An,IU,ih,az]
def ti:af:=oK.add 30 [cX] (cG cX p9 (fun _ r K=>K [tI r.1,tI r.2.1,tI r.2.2] none))
theorem o32:aL Tryz.prog ti:=cJ AG Tryz.f30 (fun R kk x0 K=>L1 x0 (fun a0 a1 a2=>K [tI a0,tI a1,tI a2] none) (LZ R kk kk (zta R kk K))) o31 (ek _ _ _ _) Tryz.func30 (by kernel_rfl) rfl (fun _ _ _ _ _ _ h=>h _ _) (fun _ _ _ _=>by kernel_rfl) fun R kk e x0 K=>by
 simp only[p9,L1,ztc,L2,ztd,L3,W8 (hF:=e),W9 (hF:=e),Uk,Ul,Um,Un,az,<-e]
def m8:Env:=b6.env (fun i=>bif Nat.beq i 2 then [6] else []) (fun i=>bif Nat.beq i 2 then [2] else []) [] [.str]
def Ok(a:lq):Option R:=ax (ev m8 (ti R) kk (sub [1,0,1,0,0] (cd Tryz.f199))) [6] [2] k ⟨uS 6 ([.ptr 7 (.aT .iter .unit .unit) []]::uS 9 []),nS 7 ((some ⟨(.aT .iter .unit .unit),a,[]⟩)::nS 9 [])⟩ J
def zll(a:Bool):State:=⟨uS 2 ([tB a]::uS 13 []),nS 17 []⟩
def zlm:State:=⟨uS 16 [],nS 17 []⟩
def zz5:KX R:=(zl 0 (aM m8 (ti R) kk (sub [1,1] (cd Tryz.f199)) (aK m8 Tryz.f199.results.toList none K)))
theorem acu(a:lq):Ok R kk (k+1) J a=
 Om a (fun a0=>J .ret (zll a0)) (Ok R kk k J) (J (.exit 0) (zlm)):=by kernel_rfl
theorem XA(a:Bool):zz5 R kk K .ret (zll a)=
 zz6 a (fun a0=>K [tB a0] none):=by kernel_rfl
theorem XB:zz5 R kk K (.exit 0) (zlm)=
 zz7 (fun a0=>K [tB a0] none):=by kernel_rfl
theorem aap{kk:Nat}(hF:kk=ag)(gH:lq):Ok R kk k J gH=(B3 k gH).bind fun e=>(Sum.elim (fun(we:Bool)=>J .ret (zll we)) (fun(we:Unit)=>J (.exit 0) (zlm)) e):=by
 induction k generalizing gH with
 |zero=>rfl
 |succ k ih=>
  rw[acu]
  simp only[B3,Om,ih,az]
def Dr:af:=ti.add 199 [.str] (cG .str vw (fun _ r K=>K [tB r] none))
theorem o33:aL Tryz.prog Dr:=cJ m8 Tryz.f199 (fun R kk x0 K=>Ol x0 (Ok R kk kk (zz5 R kk K))) o32 (ek _ _ _ _) Tryz.func199 (by kernel_rfl) rfl (fun _ _ _ _ _ _ h=>h _ _) (fun _ _ _ _=>by kernel_rfl) fun R kk e x0 K=>by
 simp only[vw,Ol,zz6,zz7,aap (hF:=e),XA,XB,az,<-e]
def abV:Env:=e0 [.str]
def Ds:af:=Dr.add 153 [.str] (cG .str mu (fun _ r K=>K [tB r] none))
theorem o34:aL Tryz.prog Ds:=cJ abV Tryz.f153 (fun R kk x0 K=>LP x0 (fun a0=>K [tB a0] none)) o33 (ek _ _ _ _) Tryz.func153 (by kernel_rfl) rfl (fun _ _ _ _ _ _ h=>h _ _) (fun _ _ _ _=>by kernel_rfl) fun R kk e x0 K=>by
 simp only[mu,LP,az]
def abW:Env:=e0 [.str]
def Dt:af:=Ds.add 136 [.str] (cG .str ic (fun _ r K=>K [tI r.1,tB r.2] none))
theorem o35:aL Tryz.prog Dt:=cJ abW Tryz.f136 (fun R kk x0 K=>LQ x0 (fun a0 a1=>K [tI a0,tB a1] none)) o34 (ek _ _ _ _) Tryz.func136 (by kernel_rfl) rfl (fun _ _ _ _ _ _ h=>h _ _) (fun _ _ _ _=>by kernel_rfl) fun R kk e x0 K=>by
 simp only[ic,LQ,az]
def abT:Env:=e0 [.str]
def Du:af:=Dt.add 137 [.str] (cG .str mr (fun _ r K=>K [tB r] none))
theorem o36:aL Tryz.prog Du:=cJ abT Tryz.f137 (fun R kk x0 K=>LN x0 (fun a0=>K [tB a0] none)) o35 (ek _ _ _ _) Tryz.func137 (by kernel_rfl) rfl (fun _ _ _ _ _ _ h=>h _ _) (fun _ _ _ _=>by kernel_rfl) fun R kk e x0 K=>by
 simp only[mr,LN,az]
def acs:Env:=e0 [(.pair .str (.pair .str .unit)),aU,aU]
def Dv:af:=Du.add 76 [(.pair .str (.pair .str .unit)),aU,aU] (kE (.pair .str (.pair .str .unit)) aU aU mC (fun _ r K=>K [tB r] none))
theorem o37:aL Tryz.prog Dv:=kV acs Tryz.f76 (fun R kk x0 x1 x2 K=>Nd x0 x1 x2 (fun a0=>K [tB a0] none)) o36 (ek _ _ _ _) Tryz.func76 (by kernel_rfl) rfl (fun _ _ _ _ _ _ h=>h _ _) (fun _ _ _ _ _ _=>by kernel_rfl) fun R kk e x0 x1 x2 K=>by
 simp only[mC,Nd,az]
def ab9:Env:=b6.env (fun _=>[]) (fun _=>[]) [6,7] [fo,aU,aU]
def Dw:af:=Dv.add 138 [fo,aU,aU] (kE fo aU aU qg (fun _ r K=>K [.ah y9 r.1 [],.ah y9 r.2.1 [],tI r.2.2] none))
theorem o38:aL Tryz.prog Dw:=kV ab9 Tryz.f138 (fun R kk x0 x1 x2 K=>Mh x0 x1 x2 (fun a0 a1 a2=>K [.ah y9 a0 [],.ah y9 a1 [],tI a2] none)) o37 (ek _ _ _ _) Tryz.func138 (by kernel_rfl) rfl (fun _ _ _ _ _ _ h=>h _ _) (fun _ _ _ _ _ _=>by kernel_rfl) fun R kk e x0 x1 x2 K=>by
 simp only[qg,Mh,az]
def Cy:Env:=e0 [(.int .i64),(.int .i64)]
def Dx:af:=Dw.add 210 [(.int .i64),(.int .i64)] (c9 (.int .i64) (.int .i64) Cx (fun _ r K=>K [tB r] none))
theorem o39:aL Tryz.prog Dx:=dm Cy Tryz.f210 (fun R kk x0 x1 K=>NW x0 x1 (fun a0=>K [tB a0] none)) o38 (ek _ _ _ _) Tryz.func210 (by kernel_rfl) rfl (fun _ _ _ _ _ _ h=>h _ _) (fun _ _ _ _ _=>by kernel_rfl) fun R kk e x0 x1 K=>by
 simp only[Cx,NW,az]
def aci:Env:=e0 [(.int .i64),(.int .i64)]
def Dy:af:=Dx.add 185 [(.int .i64),(.int .i64)] (c9 (.int .i64) (.int .i64) sV (fun _ r K=>K [tB r] none))
theorem o40:aL Tryz.prog Dy:=dm aci Tryz.f185 (fun R kk x0 x1 K=>MA x0 x1 (fun a0=>K [tB a0] none)) o39 (ek _ _ _ _) Tryz.func185 (by kernel_rfl) rfl (fun _ _ _ _ _ _ h=>h _ _) (fun _ _ _ _ _=>by kernel_rfl) fun R kk e x0 x1 K=>by
 simp only[sV,MA,az]
def ach:Env:=e0 [y9,y9]
def Dz:af:=Dy.add 127 [y9,y9] (c9 y9 y9 km (fun _ r K=>K [tB r] none))
theorem o41:aL Tryz.prog Dz:=dm ach Tryz.f127 (fun R kk x0 x1 K=>Mz x0 x1 (fun a0=>K [tB a0] none)) o40 (ek _ _ _ _) Tryz.func127 (by kernel_rfl) rfl (fun _ _ _ _ _ _ h=>h _ _) (fun _ _ _ _ _=>by kernel_rfl) fun R kk e x0 x1 K=>by
 simp only[km,Mz,az]
def aca:Env:=e0 [y9]
def tj:af:=Dz.add 139 [y9] (cG y9 ig (fun _ r K=>K [tB r] none))
theorem o42:aL Tryz.prog tj:=cJ aca Tryz.f139 (fun R kk x0 K=>Mi x0 (fun a0=>K [tB a0] none)) o41 (ek _ _ _ _) Tryz.func139 (by kernel_rfl) rfl (fun _ _ _ _ _ _ h=>h _ _) (fun _ _ _ _=>by kernel_rfl) fun R kk e x0 K=>by
 simp only[ig,Mi,az]
def m7:Env:=b6.env (fun i=>bif Nat.beq i 5 then [4,10,11,12,13] else []) (fun i=>bif Nat.beq i 5 then [2,3] else []) [] [(.sl 116 (.pair .str (.pair .str .unit)))]
def Od(a:aN)(b c:Int)(d:fZ):Option R:=ax (ev m7 (tj R) kk (sub [1,1,1,0,1,0,0] (cd Tryz.f126))) [4,10,11,12,13] [2,3] k ⟨uS 4 ([.ptr 11 (.aT .mp .str .bool) []]::uS 5 ([.ptr 11 (.aT .mp .str .bool) []]::[.ah (.sl 116 (.pair .str (.pair .str .unit))) a []]::[tI b]::[tI c]::uS 13 [])),nS 11 ((some ⟨(.aT .mp .str .bool),d,[]⟩)::nS 16 [])⟩ J
def zlj(a b:Int):State:=⟨uS 2 ([tI a]::[tI b]::uS 23 []),nS 28 []⟩
def zlk:State:=⟨uS 27 [],nS 28 []⟩
def zz1:KX R:=(zl 0 (aM m7 (tj R) kk (sub [1,1,1,1] (cd Tryz.f126)) (aK m7 Tryz.f126.results.toList none K)))
theorem acm(a:aN)(b c:Int)(d:fZ):Od R kk (k+1) J a b c d=
 zz2 a b c d (fun a0 a1=>J .ret (zlj a0 a1)) (Od R kk k J) (J (.exit 0) (zlk)):=by kernel_rfl
theorem Xo(a b:Int):zz1 R kk K .ret (zlj a b)=
 zz3 a b (fun a0 a1=>K [tI a0,tI a1] none):=by kernel_rfl
theorem Xp:zz1 R kk K (.exit 0) (zlk)=
 zz4 (fun a0 a1=>K [tI a0,tI a1] none):=by kernel_rfl
theorem aaf{kk:Nat}(hF:kk=ag)(t11:aN)(t12 t13:Int)(cC:fZ):Od R kk k J t11 t12 t13 cC=(Jl k t11 t12 t13 cC).bind fun e=>(Sum.elim (fun(we:(Int×Int))=>J .ret (zlj we.1 we.2)) (fun(we:Unit)=>J (.exit 0) (zlk)) e):=by
 induction k generalizing t11 t12 t13 cC with
 |zero=>rfl
 |succ k ih=>
  rw[acm]
  simp only[Jl,zz2,ih,az]
def tk:af:=tj.add 126 [(.sl 116 (.pair .str (.pair .str .unit)))] (cG (.sl 116 (.pair .str (.pair .str .unit))) CD (fun _ r K=>K [tI r.1,tI r.2] none))
theorem o43:aL Tryz.prog tk:=cJ m7 Tryz.f126 (fun R kk x0 K=>Oe x0 (fun a0 a1=>K [tI a0,tI a1] none) (Od R kk kk (zz1 R kk K))) o42 (ek _ _ _ _) Tryz.func126 (by kernel_rfl) rfl (fun _ _ _ _ _ _ h=>h _ _) (fun _ _ _ _=>by kernel_rfl) fun R kk e x0 K=>by
 simp only[CD,Oe,zz3,zz4,aaf (hF:=e),Xo,Xp,az,<-e]
def N4:Env:=b6.env (fun i=>bif Nat.beq i 5 then [4,5,25,26,27] else []) (fun i=>bif Nat.beq i 5 then [6] else []) [] [(.sl 116 (.pair .str (.pair .str .unit))),y9,y9]
def Mj(a:aN)(b c:Int)(d e:aj):Option R:=ax (ev N4 (tk R) kk (sub [1,1,0,1,0,0] (cd Tryz.f140))) [4,5,25,26,27] [6] k ⟨uS 4 ([.ptr 5 y9 []]::[.ptr 6 y9 []]::uS 19 ([.ah (.sl 116 (.pair .str (.pair .str .unit))) a []]::[tI b]::[tI c]::uS 18 [])),nS 5 ((some ⟨y9,d,[]⟩)::(some ⟨y9,e,[]⟩)::nS 40 [])⟩ J
def zdo(a:Int):State:=⟨uS 6 ([tI a]::uS 39 []),nS 47 []⟩
def zdp:State:=⟨uS 46 [],nS 47 []⟩
def zto:KX R:=(zl 0 (aM N4 (tk R) kk (sub [1,1,1] (cd Tryz.f140)) (aK N4 Tryz.f140.results.toList none K)))
theorem Z4(a:aN)(b c:Int)(d e:aj):Mj R kk (k+1) J a b c d e=
 ztp a b c d e (fun a0=>J .ret (zdo a0)) (Mj R kk k J) (J (.exit 0) (zdp)):=by kernel_rfl
theorem Us(a:Int):zto R kk K .ret (zdo a)=
 ztq a (fun a0=>K [tI a0] none):=by kernel_rfl
theorem Ut:zto R kk K (.exit 0) (zdp)=
 ztr (fun a0=>K [tI a0] none):=by kernel_rfl
theorem Xf{kk:Nat}(hF:kk=ag)(t25:aN)(t26 t27:Int)(cC eP:aj):Mj R kk k J t25 t26 t27 cC eP=(IW k t25 t26 t27 cC eP).bind fun e=>(Sum.elim (fun(we:Int)=>J .ret (zdo we)) (fun(we:Unit)=>J (.exit 0) (zdp)) e):=by
 induction k generalizing t25 t26 t27 cC eP with
 |zero=>rfl
 |succ k ih=>
  rw[Z4]
  simp only[IW,ztp,ih,az]
def DA:af:=tk.add 140 [(.sl 116 (.pair .str (.pair .str .unit))),y9,y9] (kE (.sl 116 (.pair .str (.pair .str .unit))) y9 y9 lj (fun _ r K=>K [tI r] none))
theorem o44:aL Tryz.prog DA:=kV N4 Tryz.f140 (fun R kk x0 x1 x2 K=>Mk x0 x1 x2 (fun a0=>K [tI a0] none) (Mj R kk kk (zto R kk K))) o43 (ek _ _ _ _) Tryz.func140 (by kernel_rfl) rfl (fun _ _ _ _ _ _ h=>h _ _) (fun _ _ _ _ _ _=>by kernel_rfl) fun R kk e x0 x1 x2 K=>by
 simp only[lj,Mk,ztq,ztr,Xf (hF:=e),Us,Ut,az,<-e]
def ab8:Env:=e0 [fo,aU,aU]
def DB:af:=DA.add 77 [fo,aU,aU] (kE fo aU aU my (fun _ r K=>K [tI r] none))
theorem o45:aL Tryz.prog DB:=kV ab8 Tryz.f77 (fun R kk x0 x1 x2 K=>Mg x0 x1 x2 (fun a0=>K [tI a0] none)) o44 (ek _ _ _ _) Tryz.func77 (by kernel_rfl) rfl (fun _ _ _ _ _ _ h=>h _ _) (fun _ _ _ _ _ _=>by kernel_rfl) fun R kk e x0 x1 x2 K=>by
 simp only[my,Mg,az]
def CQ:Env:=b6.env (fun _=>[]) (fun _=>[]) [2] [(.int .i64)]
def DC:af:=DB.add 192 [(.int .i64)] (cG (.int .i64) AY (fun _ r K=>K [.ah (.pair (.int .u64) (.pair (.int .u64) .unit)) r []] none))
theorem o46:aL Tryz.prog DC:=cJ CQ Tryz.f192 (fun R kk x0 K=>OG x0 (fun a0=>K [.ah (.pair (.int .u64) (.pair (.int .u64) .unit)) a0 []] none)) o45 (ek _ _ _ _) Tryz.func192 (by kernel_rfl) rfl (fun _ _ _ _ _ _ h=>h _ _) (fun _ _ _ _=>by kernel_rfl) fun R kk e x0 K=>by
 simp only[AY,OG,az]
def CJ:Env:=b6.env (fun _=>[]) (fun _=>[]) [4] [(.pair (.int .u64) (.pair (.int .u64) .unit)),(.pair (.int .u64) (.pair (.int .u64) .unit))]
def DE:af:=DC.add 80 [(.pair (.int .u64) (.pair (.int .u64) .unit)),(.pair (.int .u64) (.pair (.int .u64) .unit))] (c9 (.pair (.int .u64) (.pair (.int .u64) .unit)) (.pair (.int .u64) (.pair (.int .u64) .unit)) qu (fun _ r K=>K [.ah (.pair (.int .u64) (.pair (.int .u64) .unit)) r []] none))
theorem o47:aL Tryz.prog DE:=dm CJ Tryz.f80 (fun R kk x0 x1 K=>OB x0 x1 (fun a0=>K [.ah (.pair (.int .u64) (.pair (.int .u64) .unit)) a0 []] none)) o46 (ek _ _ _ _) Tryz.func80 (by kernel_rfl) rfl (fun _ _ _ _ _ _ h=>h _ _) (fun _ _ _ _ _=>by kernel_rfl) fun R kk e x0 x1 K=>by
 simp only[qu,OB,az]
def CP:Env:=b6.env (fun _=>[]) (fun _=>[]) [4] [(.pair (.int .u64) (.pair (.int .u64) .unit)),(.int .i64)]
def tm:af:=DE.add 141 [(.pair (.int .u64) (.pair (.int .u64) .unit)),(.int .i64)] (c9 (.pair (.int .u64) (.pair (.int .u64) .unit)) (.int .i64) vB (fun _ r K=>K [.ah (.pair (.int .u64) (.pair (.int .u64) .unit)) r []] none))
theorem o48:aL Tryz.prog tm:=dm CP Tryz.f141 (fun R kk x0 x1 K=>OE x0 x1 (fun a0=>K [.ah (.pair (.int .u64) (.pair (.int .u64) .unit)) a0 []] none)) o47 (ek _ _ _ _) Tryz.func141 (by kernel_rfl) rfl (fun _ _ _ _ _ _ h=>h _ _) (fun _ _ _ _ _=>by kernel_rfl) fun R kk e x0 x1 K=>by
 simp only[vB,OE,az]
def nf:Env:=b6.env (fun i=>bif Nat.beq i 3 then [2,3,6,7,8] else []) (fun i=>bif Nat.beq i 3 then [2,3] else []) [2] [(.sl 3 (.int .i64))]
def Oy(a:(List Int))(b c:Int)(d e:aw):Option R:=ax (ev nf (tm R) kk (sub [1,1,0,1,0,0] (cd Tryz.f78))) [2,3,6,7,8] [2,3] k ⟨uS 2 ([.ptr 3 (.pair (.int .u64) (.pair (.int .u64) .unit)) []]::[.ptr 4 (.pair (.int .u64) (.pair (.int .u64) .unit)) []]::uS 2 ([.ah (.sl 3 (.int .i64)) a []]::[tI b]::[tI c]::uS 8 [])),nS 3 ((some ⟨(.pair (.int .u64) (.pair (.int .u64) .unit)),d,[]⟩)::(some ⟨(.pair (.int .u64) (.pair (.int .u64) .unit)),e,[]⟩)::nS 13 [])⟩ J
def zlp(a b:aw):State:=⟨uS 2 ([.ptr 3 (.pair (.int .u64) (.pair (.int .u64) .unit)) []]::[.ptr 4 (.pair (.int .u64) (.pair (.int .u64) .unit)) []]::uS 13 []),nS 3 ((some ⟨(.pair (.int .u64) (.pair (.int .u64) .unit)),a,[]⟩)::(some ⟨(.pair (.int .u64) (.pair (.int .u64) .unit)),b,[]⟩)::nS 13 [])⟩
def z194:KX R:=(zl 0 (aM nf (tm R) kk (sub [1,1,1] (cd Tryz.f78)) (aK nf Tryz.f78.results.toList none K)))
theorem acx(a:(List Int))(b c:Int)(d e:aw):Oy R kk (k+1) J a b c d e=
 Jn a b c d e (Oy R kk k J) (fun a0 a1=>J (.exit 0) (zlp a0 a1)):=by kernel_rfl
theorem XE(a b:aw):z194 R kk K (.exit 0) (zlp a b)=
 OA a b (fun a0=>K [.ah (.pair (.int .u64) (.pair (.int .u64) .unit)) a0 []] none):=by kernel_rfl
theorem aas{kk:Nat}(hF:kk=ag)(t6:(List Int))(t7 t8:Int)(df fK:aw):Oy R kk k J t6 t7 t8 df fK=(xH k t6 t7 t8 df fK).bind fun e=>J (.exit 0) (zlp e.1 e.2):=by
 induction k generalizing t6 t7 t8 df fK with
 |zero=>rfl
 |succ k ih=>
  rw[acx]
  simp only[xH,Jn,ih,az]
def DF:af:=tm.add 78 [(.sl 3 (.int .i64))] (cG (.sl 3 (.int .i64)) sc (fun _ r K=>K [.ah (.pair (.int .u64) (.pair (.int .u64) .unit)) r []] none))
theorem o49:aL Tryz.prog DF:=cJ nf Tryz.f78 (fun R kk x0 K=>Oz x0 (Oy R kk kk (z194 R kk K))) o48 (ek _ _ _ _) Tryz.func78 (by kernel_rfl) rfl (fun _ _ _ _ _ _ h=>h _ _) (fun _ _ _ _=>by kernel_rfl) fun R kk e x0 K=>by
 simp only[sc,Oz,OA,aas (hF:=e),XE,az,<-e]
def CI:Env:=b6.env (fun _=>[]) (fun _=>[]) [4] [(.pair (.int .u64) (.pair (.int .u64) .unit)),(.pair (.int .u64) (.pair (.int .u64) .unit))]
def lp:af:=DF.add 79 [(.pair (.int .u64) (.pair (.int .u64) .unit)),(.pair (.int .u64) (.pair (.int .u64) .unit))] (c9 (.pair (.int .u64) (.pair (.int .u64) .unit)) (.pair (.int .u64) (.pair (.int .u64) .unit)) pB (fun _ r K=>K [.ah (.pair (.int .u64) (.pair (.int .u64) .unit)) r []] none))
theorem o50:aL Tryz.prog lp:=dm CI Tryz.f79 (fun R kk x0 x1 K=>Jo x0 x1 (fun a0=>K [.ah (.pair (.int .u64) (.pair (.int .u64) .unit)) a0 []] none)) o49 (ek _ _ _ _) Tryz.func79 (by kernel_rfl) rfl (fun _ _ _ _ _ _ h=>h _ _) (fun _ _ _ _ _=>by kernel_rfl) fun R kk e x0 x1 K=>by
 simp only[pB,Jo,az]
def sJ:Env:=b6.env (fun i=>bif Nat.beq i 2 then [3,4,5,26,27,28] else bif Nat.beq i 12 then [3,4,5,13,46,48,49,50] else bif Nat.beq i 24 then [4,5,16,17,77,78,79] else []) (fun i=>bif Nat.beq i 2 then [3,4,5,6,7,8] else bif Nat.beq i 12 then [3,4,5,6,7,8] else bif Nat.beq i 24 then [6,7,8] else []) [] [dC,aU,aU]
def MX(a:mF)(b c:Int)(d:aE)(e f:ai):Option R:=ax (ev sJ (lp R) kk (sub [1,0,1,0,0] (cd Tryz.f31))) [3,4,5,26,27,28] [3,4,5,6,7,8] k ⟨uS 3 ([.ptr 4 dC []]::[.ptr 5 aU []]::[.ptr 6 aU []]::uS 20 ([.ah (.sl 24 aU) a [[]]]::[tI b]::[tI c]::uS 92 [])),nS 4 ((some ⟨dC,d,[]⟩)::(some ⟨aU,e,[]⟩)::(some ⟨aU,f,[]⟩)::nS 115 [])⟩ J
def ze8(a b c:Int)(d:aE)(e f:ai):State:=⟨uS 3 ([.ptr 4 dC []]::[.ptr 5 aU []]::[.ptr 6 aU []]::[tI a]::[tI b]::[tI c]::uS 112 []),nS 4 ((some ⟨dC,d,[]⟩)::(some ⟨aU,e,[]⟩)::(some ⟨aU,f,[]⟩)::nS 115 [])⟩
def ze9(a:aE)(b c:ai):State:=⟨uS 3 ([.ptr 4 dC []]::[.ptr 5 aU []]::[.ptr 6 aU []]::uS 115 []),nS 4 ((some ⟨dC,a,[]⟩)::(some ⟨aU,b,[]⟩)::(some ⟨aU,c,[]⟩)::nS 115 [])⟩
def zui:KX R:=(zl 0 (aM sJ (lp R) kk (sub [1,1] (cd Tryz.f31)) (aK sJ Tryz.f31.results.toList none K)))
def MY(a:aN)(b c:Int)(d:aE)(e f:ai)(g:fZ):Option R:=ax (ev sJ (lp R) kk (sub [1,1,1,1,0,1,0,0] (cd Tryz.f31))) [3,4,5,13,46,48,49,50] [3,4,5,6,7,8] k ⟨uS 3 ([.ptr 4 dC []]::[.ptr 5 aU []]::[.ptr 6 aU []]::uS 7 ([.ptr 47 (.aT .mp .str .bool) []]::uS 32 ([.ptr 47 (.aT .mp .str .bool) []]::uS 1 ([.ah (.sl 116 (.pair .str (.pair .str .unit))) a []]::[tI b]::[tI c]::uS 70 [])))),nS 4 ((some ⟨dC,d,[]⟩)::(some ⟨aU,e,[]⟩)::(some ⟨aU,f,[]⟩)::nS 40 ((some ⟨(.aT .mp .str .bool),g,[]⟩)::nS 74 []))⟩ J
def zea(a b c:Int)(d:aE)(e f:ai):State:=⟨uS 3 ([.ptr 4 dC []]::[.ptr 5 aU []]::[.ptr 6 aU []]::[tI a]::[tI b]::[tI c]::uS 112 []),nS 4 ((some ⟨dC,d,[]⟩)::(some ⟨aU,e,[]⟩)::(some ⟨aU,f,[]⟩)::nS 115 [])⟩
def zeb(a:aE)(b c:ai):State:=⟨uS 3 ([.ptr 4 dC []]::[.ptr 5 aU []]::[.ptr 6 aU []]::uS 115 []),nS 4 ((some ⟨dC,a,[]⟩)::(some ⟨aU,b,[]⟩)::(some ⟨aU,c,[]⟩)::nS 115 [])⟩
def zuj:KX R:=(zl 2 (aM sJ (lp R) kk (sub [1,1,1,1,1] (cd Tryz.f31)) (aK sJ Tryz.f31.results.toList none K)))
def MZ(a:cc)(b c:Int)(d e:ai)(f g:aw):Option R:=ax (ev sJ (lp R) kk (sub [1,1,1,1,1,1,1,0,1,0,0] (cd Tryz.f31))) [4,5,16,17,77,78,79] [6,7,8] k ⟨uS 4 ([.ptr 5 aU []]::[.ptr 6 aU []]::uS 10 ([.ptr 17 (.pair (.int .u64) (.pair (.int .u64) .unit)) []]::[.ptr 18 (.pair (.int .u64) (.pair (.int .u64) .unit)) []]::uS 59 ([.ah (.sl 59 fo) a []]::[tI b]::[tI c]::uS 41 []))),nS 5 ((some ⟨aU,d,[]⟩)::(some ⟨aU,e,[]⟩)::nS 10 ((some ⟨(.pair (.int .u64) (.pair (.int .u64) .unit)),f,[]⟩)::(some ⟨(.pair (.int .u64) (.pair (.int .u64) .unit)),g,[]⟩)::nS 103 []))⟩ J
def zec(a b c:Int):State:=⟨uS 6 ([tI a]::[tI b]::[tI c]::uS 112 []),nS 122 []⟩
def zed:State:=⟨uS 121 [],nS 122 []⟩
def zuk:KX R:=(zl 5 (aM sJ (lp R) kk (sub [1,1,1,1,1,1,1,1] (cd Tryz.f31)) (aK sJ Tryz.f31.results.toList none K)))
theorem aai(a:mF)(b c:Int)(d:aE)(e f:ai):MX R kk (k+1) J a b c d e f=
 M1 a b c d e f (fun a0 a1 a2 a3 a4 a5=>J .ret (ze8 a0 a1 a2 a3 a4 a5)) (MX R kk k J) (fun a0 a1 a2=>J (.exit 0) (ze9 a0 a1 a2)):=by kernel_rfl
theorem UL(a b c:Int)(d:aE)(e f:ai):zui R kk K .ret (ze8 a b c d e f)=
 zul a b c d e f (fun a0 a1 a2=>K [tI a0,tI a1,tI a2] none):=by kernel_rfl
theorem UM(a:aE)(b c:ai):zui R kk K (.exit 0) (ze9 a b c)=
 M3 a b c (fun a0 a1 a2=>K [tI a0,tI a1,tI a2] none) (MY R kk kk (zuj R kk K)):=by kernel_rfl
theorem aaj(a:aN)(b c:Int)(d:aE)(e f:ai)(g:fZ):MY R kk (k+1) J a b c d e f g=
 zum a b c d e f g (fun a0 a1 a2 a3 a4 a5=>J .ret (zea a0 a1 a2 a3 a4 a5)) (MY R kk k J) (fun a0 a1 a2=>J (.exit 2) (zeb a0 a1 a2)):=by kernel_rfl
theorem UN(a b c:Int)(d:aE)(e f:ai):zuj R kk K .ret (zea a b c d e f)=
 zun a b c d e f (fun a0 a1 a2=>K [tI a0,tI a1,tI a2] none):=by kernel_rfl
theorem UO(a:aE)(b c:ai):zuj R kk K (.exit 2) (zeb a b c)=
 M4 a b c (fun a0 a1 a2=>K [tI a0,tI a1,tI a2] none) (MZ R kk kk (zuk R kk K)):=by kernel_rfl
theorem aak(a:cc)(b c:Int)(d e:ai)(f g:aw):MZ R kk (k+1) J a b c d e f g=
 zuo a b c d e f g (fun a0 a1 a2=>J .ret (zec a0 a1 a2)) (MZ R kk k J) (J (.exit 5) (zed)):=by kernel_rfl
theorem UP(a b c:Int):zuk R kk K .ret (zec a b c)=
 zup a b c (fun a0 a1 a2=>K [tI a0,tI a1,tI a2] none):=by kernel_rfl
theorem UQ:zuk R kk K (.exit 5) (zed)=
 zuq (fun a0 a1 a2=>K [tI a0,tI a1,tI a2] none):=by kernel_rfl
theorem Xt{kk:Nat}(hF:kk=ag)(t26:mF)(t27 t28:Int)(fK:aE)(cC eP:ai):MX R kk k J t26 t27 t28 fK cC eP=(BJ k t26 t27 t28 fK cC eP).bind fun e=>(Sum.elim (fun(we:oO)=>J .ret (ze8 we.1 we.2.1 we.2.2.1 we.2.2.2.1 we.2.2.2.2.1 we.2.2.2.2.2)) (fun(we:oN)=>J (.exit 0) (ze9 we.1 we.2.1 we.2.2)) e):=by
 induction k generalizing t26 t27 t28 fK cC eP with
 |zero=>rfl
 |succ k ih=>
  rw[aai]
  simp only[BJ,M1,ih,az]
theorem Xu{kk:Nat}(hF:kk=ag)(t48:aN)(t49 t50:Int)(fK:aE)(cC eP:ai)(yf:fZ):MY R kk k J t48 t49 t50 fK cC eP yf=(BK k t48 t49 t50 fK cC eP yf).bind fun e=>(Sum.elim (fun(we:oO)=>J .ret (zea we.1 we.2.1 we.2.2.1 we.2.2.2.1 we.2.2.2.2.1 we.2.2.2.2.2)) (fun(we:oN)=>J (.exit 2) (zeb we.1 we.2.1 we.2.2)) e):=by
 induction k generalizing t48 t49 t50 fK cC eP yf with
 |zero=>rfl
 |succ k ih=>
  rw[aaj]
  simp only[BK,zum,ih,az]
theorem Xv{kk:Nat}(hF:kk=ag)(t77:cc)(t78 t79:Int)(cC eP:ai)(iQ yg:aw):MZ R kk k J t77 t78 t79 cC eP iQ yg=(I4 k t77 t78 t79 cC eP iQ yg).bind fun e=>(Sum.elim (fun(we:lr)=>J .ret (zec we.1 we.2.1 we.2.2)) (fun(we:Unit)=>J (.exit 5) (zed)) e):=by
 induction k generalizing t77 t78 t79 cC eP iQ yg with
 |zero=>rfl
 |succ k ih=>
  rw[aak]
  simp only[I4,zuo,ih,az]
def tn:af:=lp.add 31 [dC,aU,aU] (kE dC aU aU oG (fun _ r K=>K [tI r.1,tI r.2.1,tI r.2.2] none))
theorem o51:aL Tryz.prog tn:=kV sJ Tryz.f31 (fun R kk x0 x1 x2 K=>M0 x0 x1 x2 (MX R kk kk (zui R kk K))) o50 (ek _ _ _ _) Tryz.func31 (by kernel_rfl) rfl (fun _ _ _ _ _ _ h=>h _ _) (fun _ _ _ _ _ _=>by kernel_rfl) fun R kk e x0 x1 x2 K=>by
 simp only[oG,M0,zul,M3,zun,M4,zup,zuq,Xt (hF:=e),Xu (hF:=e),Xv (hF:=e),UL,UM,UN,UO,UP,UQ,az,<-e]
def N0:Env:=b6.env (fun i=>bif Nat.beq i 4 then [1,22,23] else []) (fun i=>bif Nat.beq i 4 then [2,3,4] else []) [] [kK]
def Mb(a:lu)(b:Int)(c:dW):Option R:=ax (ev N0 (tn R) kk (sub [1,1,0,1,0,0] (cd Tryz.f11))) [1,22,23] [2,3,4] k ⟨uS 1 ([.ptr 2 kK []]::uS 20 ([.ah (.arr 2 cX) a []]::[tI b]::uS 33 [])),nS 2 ((some ⟨kK,c,[]⟩)::nS 55 [])⟩ J
def zdl(a b c:Int):State:=⟨uS 2 ([tI a]::[tI b]::[tI c]::uS 52 []),nS 58 []⟩
def zdm:State:=⟨uS 57 [],nS 58 []⟩
def ztk:KX R:=(zl 0 (aM N0 (tn R) kk (sub [1,1,1] (cd Tryz.f11)) (aK N0 Tryz.f11.results.toList none K)))
theorem Z1(a:lu)(b:Int)(c:dW):Mb R kk (k+1) J a b c=
 BE a b c (fun a0 a1 a2=>J .ret (zdl a0 a1 a2)) (Mb R kk k J) (J (.exit 0) (zdm)):=by kernel_rfl
theorem Uq(a b c:Int):ztk R kk K .ret (zdl a b c)=
 ztl a b c (fun a0 a1 a2=>K [tI a0,tI a1,tI a2] none):=by kernel_rfl
theorem Ur:ztk R kk K (.exit 0) (zdm)=
 ztm (fun a0 a1 a2=>K [tI a0,tI a1,tI a2] none):=by kernel_rfl
theorem Xc{kk:Nat}(hF:kk=ag)(t22:lu)(t23:Int)(eO:dW):Mb R kk k J t22 t23 eO=(Ao k t22 t23 eO).bind fun e=>(Sum.elim (fun(we:lr)=>J .ret (zdl we.1 we.2.1 we.2.2)) (fun(we:Unit)=>J (.exit 0) (zdm)) e):=by
 induction k generalizing t22 t23 eO with
 |zero=>rfl
 |succ k ih=>
  rw[Z1]
  simp only[Ao,BE,ih,az]
def DG:af:=tn.add 11 [kK] (cG kK oE (fun _ r K=>K [tI r.1,tI r.2.1,tI r.2.2] none))
theorem o52:aL Tryz.prog DG:=cJ N0 Tryz.f11 (fun R kk x0 K=>Mc x0 (fun a0 a1 a2=>K [tI a0,tI a1,tI a2] none) (Mb R kk kk (ztk R kk K))) o51 (ek _ _ _ _) Tryz.func11 (by kernel_rfl) rfl (fun _ _ _ _ _ _ h=>h _ _) (fun _ _ _ _=>by kernel_rfl) fun R kk e x0 K=>by
 simp only[oE,Mc,ztl,ztm,Xc (hF:=e),Uq,Ur,az,<-e]
def Pw:Env:=e0 [(.int .i64)]
def tu:af:=DG.add 163 [(.int .i64)] (cG (.int .i64) Q2 (fun _ r K=>K [tI r] none))
theorem o53:aL Tryz.prog tu:=cJ Pw Tryz.f163 (fun R kk x0 K=>na x0 (fun a0=>K [tI a0] none)) o52 (ek _ _ _ _) Tryz.func163 (by kernel_rfl) rfl (fun _ _ _ _ _ _ h=>h _ _) (fun _ _ _ _=>by kernel_rfl) fun R kk e x0 K=>by
 simp only[Q2,na,az]
def sO:Env:=b6.env (fun i=>bif Nat.beq i 7 then [0,1,7,30,31] else []) (fun i=>bif Nat.beq i 7 then [1,4,5,6,7] else []) [] [.str,(.int .i64)]
def mY(a:ByteArray)(b:Int)(c:(List Int))(d e:Int):Option R:=ax (ev sO (tu R) kk (sub [1,1,1,0,1,0,0] (cd Tryz.f164))) [0,1,7,30,31] [1,4,5,6,7] k ⟨[tS a]::[tI b]::uS 5 ([.ah (.sl 5 (.int .u8)) c [[]]]::uS 22 ([tI d]::[tI e]::uS 43 [])),nS 76 []⟩ J
def zri(a:Int)(b:ByteArray)(c d:Int)(e:(List Int)):State:=⟨uS 1 ([tI a]::uS 2 ([tS b]::[tI c]::[tI d]::[.ah (.sl 5 (.int .u8)) e [[]]]::uS 67 [])),nS 76 []⟩
def zrj(a:Int)(b:(List Int)):State:=⟨uS 1 ([tI a]::uS 5 ([.ah (.sl 5 (.int .u8)) b [[]]]::uS 67 [])),nS 76 []⟩
def pP:KX R:=(zl 1 (aM sO (tu R) kk (sub [1,1,1,1] (cd Tryz.f164)) (aK sO Tryz.f164.results.toList none K)))
theorem Cn(a:ByteArray)(b:Int)(c:(List Int))(d e:Int):mY R kk (k+1) J a b c d e=
 ld a b c d e (fun a0 a1 a2 a3 a4=>J .ret (zri a0 a1 a2 a3 a4)) (mY R kk k J) (fun a0 a1=>J (.exit 1) (zrj a0 a1)):=by kernel_rfl
theorem ZA(a:Int)(b:ByteArray)(c d:Int)(e:(List Int)):pP R kk K .ret (zri a b c d e)=
 pQ a b c d e (fun a0 a1 a2=>K [tS a0,tI a1,tI a2] none):=by kernel_rfl
theorem ZB(a:Int)(b:(List Int)):pP R kk K (.exit 1) (zrj a b)=
 m3 a b (fun a0 a1 a2=>K [tS a0,tI a1,tI a2] none):=by kernel_rfl
theorem abD{kk:Nat}(hF:kk=ag)(iP:ByteArray)(yS:Int)(t7:(List Int))(t30 t31:Int):mY R kk k J iP yS t7 t30 t31=(gQ k iP yS t7 t30 t31).bind fun e=>(Sum.elim (fun(we:(Int×ByteArray×Int×Int×(List Int)))=>J .ret (zri we.1 we.2.1 we.2.2.1 we.2.2.2.1 we.2.2.2.2)) (fun(we:(Int×(List Int)))=>J (.exit 1) (zrj we.1 we.2)) e):=by
 induction k generalizing iP yS t7 t30 t31 with
 |zero=>rfl
 |succ k ih=>
  rw[Cn]
  simp only[gQ,ld,ih,az]
def DH:af:=tu.add 164 [.str,(.int .i64)] (c9 .str (.int .i64) Q0 (fun _ r K=>K [tS r.1,tI r.2.1,tI r.2.2] none))
theorem o54:aL Tryz.prog DH:=dm sO Tryz.f164 (fun R kk x0 x1 K=>mZ x0 x1 (fun a0 a1 a2=>K [tS a0,tI a1,tI a2] none) (mY R kk kk (pP R kk K))) o53 (ek _ _ _ _) Tryz.func164 (by kernel_rfl) rfl (fun _ _ _ _ _ _ h=>h _ _) (fun _ _ _ _ _=>by kernel_rfl) fun R kk e x0 x1 K=>by
 simp only[Q0,mZ,pQ,m3,abD (hF:=e),ZA,ZB,az,<-e]
def acj:Env:=e0 [aU,.str]
def DI:af:=DH.add 104 [aU,.str] (c9 aU .str qk (fun _ r K=>K [tS r.1,tI r.2.1,tI r.2.2] none))
theorem o55:aL Tryz.prog DI:=dm acj Tryz.f104 (fun R kk x0 x1 K=>MD x0 x1 (fun a0 a1 a2=>K [tS a0,tI a1,tI a2] none)) o54 (ek _ _ _ _) Tryz.func104 (by kernel_rfl) rfl (fun _ _ _ _ _ _ h=>h _ _) (fun _ _ _ _ _=>by kernel_rfl) fun R kk e x0 x1 K=>by
 simp only[qk,MD,az]
def PB:Env:=e0 [(.int .i64)]
def DJ:af:=DI.add 155 [(.int .i64)] (cG (.int .i64) Q9 (fun _ r K=>K [tB r] none))
theorem o56:aL Tryz.prog DJ:=cJ PB Tryz.f155 (fun R kk x0 K=>ln x0 (fun a0=>K [tB a0] none)) o55 (ek _ _ _ _) Tryz.func155 (by kernel_rfl) rfl (fun _ _ _ _ _ _ h=>h _ _) (fun _ _ _ _=>by kernel_rfl) fun R kk e x0 K=>by
 simp only[Q9,ln,az]
def abN:Env:=e0 [(.int .u8)]
def tv:af:=DJ.add 205 [(.int .u8)] (cG (.int .u8) pW (fun _ r K=>K [tI r.1,tB r.2] none))
theorem o57:aL Tryz.prog tv:=cJ abN Tryz.f205 (fun R kk x0 K=>zso x0 (fun a0 a1=>K [tI a0,tB a1] none)) o56 (ek _ _ _ _) Tryz.func205 (by kernel_rfl) rfl (fun _ _ _ _ _ _ h=>h _ _) (fun _ _ _ _=>by kernel_rfl) fun R kk e x0 K=>by
 simp only[pW,zso,az]
def NP:Env:=b6.env (fun i=>bif Nat.beq i 4 then [0,5,6,7] else []) (fun i=>bif Nat.beq i 4 then [0,2,3,4,5] else []) [] [.str]
def Lx(a:ByteArray)(b:(List Int))(c d:Int):Option R:=ax (ev NP (tv R) kk (sub [1,1,1,0,1,0,0] (cd Tryz.f170))) [0,5,6,7] [0,2,3,4,5] k ⟨[tS a]::uS 4 ([.ah (.sl 5 (.int .u8)) b [[]]]::[tI c]::[tI d]::uS 44 []),nS 53 []⟩ J
def zd2(a b:ByteArray)(c:Int)(d:Bool)(e:(List Int)):State:=⟨[tS a]::uS 1 ([tS b]::[tI c]::[tB d]::[.ah (.sl 5 (.int .u8)) e [[]]]::uS 46 []),nS 53 []⟩
def zd3(a:ByteArray)(b:(List Int)):State:=⟨[tS a]::uS 4 ([.ah (.sl 5 (.int .u8)) b [[]]]::uS 46 []),nS 53 []⟩
def zsp:KX R:=(zl 0 (aM NP (tv R) kk (sub [1,1,1,1] (cd Tryz.f170)) (aK NP Tryz.f170.results.toList none K)))
theorem ZP(a:ByteArray)(b:(List Int))(c d:Int):Lx R kk (k+1) J a b c d=
 IE a b c d (fun a0 a1 a2 a3 a4=>J .ret (zd2 a0 a1 a2 a3 a4)) (Lx R kk k J) (fun a0 a1=>J (.exit 0) (zd3 a0 a1)):=by kernel_rfl
theorem T9(a b:ByteArray)(c:Int)(d:Bool)(e:(List Int)):zsp R kk K .ret (zd2 a b c d e)=
 zsq a b c d e (fun a0 a1 a2=>K [tS a0,tI a1,tB a2] none):=by kernel_rfl
theorem Ua(a:ByteArray)(b:(List Int)):zsp R kk K (.exit 0) (zd3 a b)=
 Lz a b (fun a0 a1 a2=>K [tS a0,tI a1,tB a2] none):=by kernel_rfl
theorem WY{kk:Nat}(hF:kk=ag)(ff:ByteArray)(t5:(List Int))(t6 t7:Int):Lx R kk k J ff t5 t6 t7=(Ak k ff t5 t6 t7).bind fun e=>(Sum.elim (fun(we:(ByteArray×ByteArray×Int×Bool×(List Int)))=>J .ret (zd2 we.1 we.2.1 we.2.2.1 we.2.2.2.1 we.2.2.2.2)) (fun(we:(ByteArray×(List Int)))=>J (.exit 0) (zd3 we.1 we.2)) e):=by
 induction k generalizing ff t5 t6 t7 with
 |zero=>rfl
 |succ k ih=>
  rw[ZP]
  simp only[Ak,IE,ih,az]
def DK:af:=tv.add 170 [.str] (cG .str fI (fun _ r K=>K [tS r.1,tI r.2.1,tB r.2.2] none))
theorem o58:aL Tryz.prog DK:=cJ NP Tryz.f170 (fun R kk x0 K=>Ly x0 (Lx R kk kk (zsp R kk K))) o57 (ek _ _ _ _) Tryz.func170 (by kernel_rfl) rfl (fun _ _ _ _ _ _ h=>h _ _) (fun _ _ _ _=>by kernel_rfl) fun R kk e x0 K=>by
 simp only[fI,Ly,zsq,Lz,WY (hF:=e),T9,Ua,az,<-e]
def Co:Env:=b6.env (fun _=>[]) (fun _=>[]) [6] [(.int .i64),.str,(.int .i64)]
def tw:af:=DK.add 165 [(.int .i64),.str,(.int .i64)] (kE (.int .i64) .str (.int .i64) AW (fun _ r K=>K [.ah (.arr 8 (.int .u8)) r.1 [],tI r.2.1,tI r.2.2] none))
theorem o59:aL Tryz.prog tw:=kV Co Tryz.f165 (fun R kk x0 x1 x2 K=>NC x0 x1 x2 (fun a0 a1 a2=>K [.ah (.arr 8 (.int .u8)) a0 [],tI a1,tI a2] none)) o58 (ek _ _ _ _) Tryz.func165 (by kernel_rfl) rfl (fun _ _ _ _ _ _ h=>h _ _) (fun _ _ _ _ _ _=>by kernel_rfl) fun R kk e x0 x1 x2 K=>by
 simp only[AW,NC,az]
def sZ:Env:=b6.env (fun i=>bif Nat.beq i 3 then [3,6,7] else []) (fun i=>bif Nat.beq i 3 then [3] else []) [] [(.arr 8 (.int .u8))]
def ns(a:Int)(b:(List Int))(c:Int):Option R:=ax (ev sZ (tw R) kk (sub [1,1,0,1,0,0] (cd Tryz.f166))) [3,6,7] [3] k ⟨uS 3 ([.ah (.int .u64) a []]::uS 2 ([.ah (.arr 8 (.int .u8)) b []]::[tI c]::uS 9 [])),nS 18 []⟩ J
def zv5(a:Int):State:=⟨uS 3 ([.ah (.int .u64) a []]::uS 13 []),nS 18 []⟩
def vE:KX R:=(zl 0 (aM sZ (tw R) kk (sub [1,1,1] (cd Tryz.f166)) (aK sZ Tryz.f166.results.toList none K)))
theorem CZ(a:Int)(b:(List Int))(c:Int):ns R kk (k+1) J a b c=
 ll a b c (ns R kk k J) (fun a0=>J (.exit 0) (zv5 a0)):=by kernel_rfl
theorem aaB(a:Int):vE R kk K (.exit 0) (zv5 a)=
 qv a (fun a0=>K [.ah (.int .u64) a0 []] none):=by kernel_rfl
theorem acJ{kk:Nat}(hF:kk=ag)(t3:Int)(t6:(List Int))(t7:Int):ns R kk k J t3 t6 t7=(iK k t3 t6 t7).bind fun e=>J (.exit 0) (zv5 e):=by
 induction k generalizing t3 t6 t7 with
 |zero=>rfl
 |succ k ih=>
  rw[CZ]
  simp only[iK,ll,ih,az]
def DL:af:=tw.add 166 [(.arr 8 (.int .u8))] (cG (.arr 8 (.int .u8)) Q7 (fun _ r K=>K [.ah (.int .u64) r []] none))
theorem o60:aL Tryz.prog DL:=cJ sZ Tryz.f166 (fun R kk x0 K=>nu x0 (ns R kk kk (vE R kk K))) o59 (ek _ _ _ _) Tryz.func166 (by kernel_rfl) rfl (fun _ _ _ _ _ _ h=>h _ _) (fun _ _ _ _=>by kernel_rfl) fun R kk e x0 K=>by
 simp only[Q7,nu,qv,acJ (hF:=e),aaB,az,<-e]
def CH:Env:=b6.env (fun _=>[]) (fun _=>[]) [4] [(.int .u64),(.int .u64)]
def DM:af:=DL.add 167 [(.int .u64),(.int .u64)] (c9 (.int .u64) (.int .u64) JQ (fun _ r K=>K [.ah (.pair (.int .u64) (.pair (.int .u64) .unit)) r []] none))
theorem o61:aL Tryz.prog DM:=dm CH Tryz.f167 (fun R kk x0 x1 K=>zz9 x0 x1 (fun a0=>K [.ah (.pair (.int .u64) (.pair (.int .u64) .unit)) a0 []] none)) o60 (ek _ _ _ _) Tryz.func167 (by kernel_rfl) rfl (fun _ _ _ _ _ _ h=>h _ _) (fun _ _ _ _ _=>by kernel_rfl) fun R kk e x0 x1 K=>by
 simp only[JQ,zz9,az]
def Py:Env:=b6.env (fun _=>[]) (fun _=>[]) [6] [(.int .i64),.str,(.int .i64)]
def DN:af:=DM.add 105 [(.int .i64),.str,(.int .i64)] (kE (.int .i64) .str (.int .i64) Q5 (fun _ r K=>K [.ah (.pair (.int .u64) (.pair (.int .u64) .unit)) r.1 [],tI r.2.1,tI r.2.2] none))
theorem o62:aL Tryz.prog DN:=kV Py Tryz.f105 (fun R kk x0 x1 x2 K=>ni x0 x1 x2 (fun a0 a1 a2=>K [.ah (.pair (.int .u64) (.pair (.int .u64) .unit)) a0 [],tI a1,tI a2] none)) o61 (ek _ _ _ _) Tryz.func105 (by kernel_rfl) rfl (fun _ _ _ _ _ _ h=>h _ _) (fun _ _ _ _ _ _=>by kernel_rfl) fun R kk e x0 x1 x2 K=>by
 simp only[Q5,ni,az]
def abQ:Env:=e0 [(.int .u64)]
def DO:af:=DN.add 203 [(.int .u64)] (cG (.int .u64) pX (fun _ r K=>K [tI r] none))
theorem o63:aL Tryz.prog DO:=cJ abQ Tryz.f203 (fun R kk x0 K=>zss x0 (fun a0=>K [tI a0] none)) o62 (ek _ _ _ _) Tryz.func203 (by kernel_rfl) rfl (fun _ _ _ _ _ _ h=>h _ _) (fun _ _ _ _=>by kernel_rfl) fun R kk e x0 K=>by
 simp only[pX,zss,az]
def abP:Env:=e0 [(.int .u64)]
def DP:af:=DO.add 168 [(.int .u64)] (cG (.int .u64) lg (fun _ r K=>K [tI r] none))
theorem o64:aL Tryz.prog DP:=cJ abP Tryz.f168 (fun R kk x0 K=>LC x0 (fun a0=>K [tI a0] none)) o63 (ek _ _ _ _) Tryz.func168 (by kernel_rfl) rfl (fun _ _ _ _ _ _ h=>h _ _) (fun _ _ _ _=>by kernel_rfl) fun R kk e x0 K=>by
 simp only[lg,LC,az]
def CN:Env:=e0 [(.pair (.int .u64) (.pair (.int .u64) .unit)),(.int .i64)]
def DQ:af:=DP.add 106 [(.pair (.int .u64) (.pair (.int .u64) .unit)),(.int .i64)] (c9 (.pair (.int .u64) (.pair (.int .u64) .unit)) (.int .i64) AX (fun _ r K=>K [tI r] none))
theorem o65:aL Tryz.prog DQ:=dm CN Tryz.f106 (fun R kk x0 x1 K=>OD x0 x1 (fun a0=>K [tI a0] none)) o64 (ek _ _ _ _) Tryz.func106 (by kernel_rfl) rfl (fun _ _ _ _ _ _ h=>h _ _) (fun _ _ _ _ _=>by kernel_rfl) fun R kk e x0 x1 K=>by
 simp only[AX,OD,az]
def Cu:Env:=e0 [(.int .i64)]
def DR:af:=DQ.add 160 [(.int .i64)] (cG (.int .i64) xV (fun _ r K=>K [tB r] none))
theorem o66:aL Tryz.prog DR:=cJ Cu Tryz.f160 (fun R kk x0 K=>Ji x0 (fun a0=>K [tB a0] none)) o65 (ek _ _ _ _) Tryz.func160 (by kernel_rfl) rfl (fun _ _ _ _ _ _ h=>h _ _) (fun _ _ _ _=>by kernel_rfl) fun R kk e x0 K=>by
 simp only[xV,Ji,az]
def abZ:Env:=e0 [(.int .i64),(.int .i64)]
def tz:af:=DR.add 200 [(.int .i64),(.int .i64)] (c9 (.int .i64) (.int .i64) oC (fun _ r K=>K [tB r] none))
theorem o67:aL Tryz.prog tz:=dm abZ Tryz.f200 (fun R kk x0 x1 K=>IL x0 x1 (fun a0=>K [tB a0] none)) o66 (ek _ _ _ _) Tryz.func200 (by kernel_rfl) rfl (fun _ _ _ _ _ _ h=>h _ _) (fun _ _ _ _ _=>by kernel_rfl) fun R kk e x0 x1 K=>by
 simp only[oC,IL,az]
def m9:Env:=b6.env (fun i=>bif Nat.beq i 5 then [4,20] else []) (fun i=>bif Nat.beq i 5 then [4] else []) [] [.str]
def On(a:Int)(b:lq):Option R:=ax (ev m9 (tz R) kk (sub [1,1,1,0,1,0,0] (cd Tryz.f204))) [4,20] [4] k ⟨uS 4 ([tI a]::uS 15 ([.ptr 21 (.aT .iter .unit .unit) []]::uS 10 [])),nS 21 ((some ⟨(.aT .iter .unit .unit),b,[]⟩)::nS 10 [])⟩ J
def zln(a:Int):State:=⟨uS 4 ([tI a]::uS 26 []),nS 32 []⟩
def Ht:KX R:=(zl 0 (aM m9 (tz R) kk (sub [1,1,1,1] (cd Tryz.f204)) (aK m9 Tryz.f204.results.toList none K)))
theorem acv(a:Int)(b:lq):On R kk (k+1) J a b=
 Oq a b (On R kk k J) (fun a0=>J (.exit 0) (zln a0)):=by kernel_rfl
theorem XC(a:Int):Ht R kk K (.exit 0) (zln a)=
 zz8 a (fun a0 a1=>K [tI a0,tB a1] none):=by kernel_rfl
theorem aaq{kk:Nat}(hF:kk=ag)(t4:Int)(yi:lq):On R kk k J t4 yi=(B4 k t4 yi).bind fun e=>J (.exit 0) (zln e):=by
 induction k generalizing t4 yi with
 |zero=>rfl
 |succ k ih=>
  rw[acv]
  simp only[B4,Oq,ih,az]
def DS:af:=tz.add 204 [.str] (cG .str vz (fun _ r K=>K [tI r.1,tB r.2] none))
theorem o68:aL Tryz.prog DS:=cJ m9 Tryz.f204 (fun R kk x0 K=>Oo x0 (fun a0 a1=>K [tI a0,tB a1] none) (On R kk kk (Ht R kk K))) o67 (ek _ _ _ _) Tryz.func204 (by kernel_rfl) rfl (fun _ _ _ _ _ _ h=>h _ _) (fun _ _ _ _=>by kernel_rfl) fun R kk e x0 K=>by
 simp only[vz,Oo,zz8,aaq (hF:=e),XC,az,<-e]
def abX:Env:=e0 [(.int .i64),(.int .i64),.str,(.int .i64)]
def DT:af:=DS.add 169 [(.int .i64),(.int .i64),.str,(.int .i64)] (yY (.int .i64) (.int .i64) .str (.int .i64) p7 (fun _ r K=>K [tI r.1,tI r.2.1,tI r.2.2] none))
theorem o69:aL Tryz.prog DT:=Bd abX Tryz.f169 (fun R kk x0 x1 x2 x3 K=>LR x0 x1 x2 x3 (fun a0 a1 a2=>K [tI a0,tI a1,tI a2] none)) o68 (ek _ _ _ _) Tryz.func169 (by kernel_rfl) rfl (fun _ _ _ _ _ _ h=>h _ _) (fun _ _ _ _ _ _ _=>by kernel_rfl) fun R kk e x0 x1 x2 x3 K=>by
 simp only[p7,LR,az]
def Ct:Env:=e0 [(.int .i64),(.int .i64)]
def DU:af:=DT.add 162 [(.int .i64),(.int .i64)] (c9 (.int .i64) (.int .i64) jM (fun _ r K=>K [tI r] none))
theorem o70:aL Tryz.prog DU:=dm Ct Tryz.f162 (fun R kk x0 x1 K=>NJ x0 x1 (fun a0=>K [tI a0] none)) o69 (ek _ _ _ _) Tryz.func162 (by kernel_rfl) rfl (fun _ _ _ _ _ _ h=>h _ _) (fun _ _ _ _ _=>by kernel_rfl) fun R kk e x0 x1 K=>by
 simp only[jM,NJ,az]
def Cq:Env:=e0 [(.int .i64),y9,.str,(.int .i64)]
def tA:af:=DU.add 107 [(.int .i64),y9,.str,(.int .i64)] (yY (.int .i64) y9 .str (.int .i64) Cp (fun _ r K=>K [tS r.1,tI r.2.1,tI r.2.2] none))
theorem o71:aL Tryz.prog tA:=Bd Cq Tryz.f107 (fun R kk x0 x1 x2 x3 K=>NF x0 x1 x2 x3 (fun a0 a1 a2=>K [tS a0,tI a1,tI a2] none)) o70 (ek _ _ _ _) Tryz.func107 (by kernel_rfl) rfl (fun _ _ _ _ _ _ h=>h _ _) (fun _ _ _ _ _ _ _=>by kernel_rfl) fun R kk e x0 x1 x2 x3 K=>by
 simp only[Cp,NF,az]
def Oa:Env:=b6.env (fun i=>bif Nat.beq i 13 then [1,2,4,5,6,10,12,13] else []) (fun i=>bif Nat.beq i 13 then [1,4,5,6,10] else []) [4,5] [aU,.str]
def MB(a:ByteArray)(b c:Int)(d:ai)(e:ae)(f:aw)(g:ae)(h:aw):Option R:=ax (ev Oa (tA R) kk (sub [1,1,1,1,1,1,1,1,0,1,0,0] (cd Tryz.f39))) [1,2,4,5,6,10,12,13] [1,4,5,6,10] k ⟨uS 1 ([tS a]::[.ptr 3 aU []]::uS 1 ([.ptr 5 y5 []]::[.ptr 6 (.pair (.int .i64) (.pair (.int .i64) .unit)) []]::[.ptr 7 y5 []]::uS 3 ([tI b]::uS 1 ([.ptr 13 (.pair (.int .u64) (.pair (.int .u64) .unit)) []]::[tI c]::uS 93 [])))),nS 3 ((some ⟨aU,d,[]⟩)::nS 1 ((some ⟨y5,e,[[1]]⟩)::(some ⟨(.pair (.int .i64) (.pair (.int .i64) .unit)),f,[]⟩)::(some ⟨y5,g,[[1]]⟩)::nS 5 ((some ⟨(.pair (.int .u64) (.pair (.int .u64) .unit)),h,[]⟩)::nS 94 [])))⟩ J
def ze0(a:ByteArray)(b:Int)(c:ae)(d:aw)(e:ae):State:=⟨uS 1 ([tS a]::uS 2 ([.ptr 5 y5 []]::[.ptr 6 (.pair (.int .i64) (.pair (.int .i64) .unit)) []]::[.ptr 7 y5 []]::uS 3 ([tI b]::uS 96 []))),nS 5 ((some ⟨y5,c,[[1]]⟩)::(some ⟨(.pair (.int .i64) (.pair (.int .i64) .unit)),d,[]⟩)::(some ⟨y5,e,[]⟩)::nS 100 [])⟩
def ze1(a:ByteArray)(b:Int)(c:ae)(d:aw)(e:ae):State:=⟨uS 1 ([tS a]::uS 2 ([.ptr 5 y5 []]::[.ptr 6 (.pair (.int .i64) (.pair (.int .i64) .unit)) []]::[.ptr 7 y5 []]::uS 3 ([tI b]::uS 96 []))),nS 5 ((some ⟨y5,c,[[1]]⟩)::(some ⟨(.pair (.int .i64) (.pair (.int .i64) .unit)),d,[]⟩)::(some ⟨y5,e,[[1]]⟩)::nS 100 [])⟩
def zu9:KX R:=(zl 0 (aM Oa (tA R) kk (sub [1,1,1,1,1,1,1,1,1] (cd Tryz.f39)) (aK Oa Tryz.f39.results.toList none K)))
theorem aac(a:ByteArray)(b c:Int)(d:ai)(e:ae)(f:aw)(g:ae)(h:aw):MB R kk (k+1) J a b c d e f g h=
 I2 a b c d e f g h (fun a0 a1 a2 a3 a4=>J .ret (ze0 a0 a1 a2 a3 a4)) (MB R kk k J) (fun a0 a1 a2 a3 a4=>J (.exit 0) (ze1 a0 a1 a2 a3 a4)):=by kernel_rfl
theorem UE(a:ByteArray)(b:Int)(c:ae)(d:aw)(e:ae):zu9 R kk K .ret (ze0 a b c d e)=
 zua a b c d e (fun a0 a1=>K [.ah y5 a0 [[1]],.ah (.pair (.int .i64) (.pair (.int .i64) .unit)) a1 []] none):=by kernel_rfl
theorem UF(a:ByteArray)(b:Int)(c:ae)(d:aw)(e:ae):zu9 R kk K (.exit 0) (ze1 a b c d e)=
 zub a b c d e (fun a0 a1=>K [.ah y5 a0 [[1]],.ah (.pair (.int .i64) (.pair (.int .i64) .unit)) a1 []] none):=by kernel_rfl
theorem Xl{kk:Nat}(hF:kk=ag)(yc:ByteArray)(t10 t13:Int)(df:ai)(cC:ae)(eP:aw)(gH:ae)(ye:aw):MB R kk k J yc t10 t13 df cC eP gH ye=(Ap k yc t10 t13 df cC eP gH ye).bind fun e=>(Sum.elim (fun(we:ij)=>J .ret (ze0 we.1 we.2.1 we.2.2.1 we.2.2.2.1 we.2.2.2.2)) (fun(we:ij)=>J (.exit 0) (ze1 we.1 we.2.1 we.2.2.1 we.2.2.2.1 we.2.2.2.2)) e):=by
 induction k generalizing yc t10 t13 df cC eP gH ye with
 |zero=>rfl
 |succ k ih=>
  rw[aac]
  simp only[Ap,I2,ih,az]
def DV:af:=tA.add 39 [aU,.str] (c9 aU .str oF (fun _ r K=>K [.ah y5 r.1 [[1]],.ah (.pair (.int .i64) (.pair (.int .i64) .unit)) r.2 []] none))
theorem o72:aL Tryz.prog DV:=dm Oa Tryz.f39 (fun R kk x0 x1 K=>MC x0 x1 (fun a0 a1=>K [.ah y5 a0 [[1]],.ah (.pair (.int .i64) (.pair (.int .i64) .unit)) a1 []] none) (MB R kk kk (zu9 R kk K))) o71 (ek _ _ _ _) Tryz.func39 (by kernel_rfl) rfl (fun _ _ _ _ _ _ h=>h _ _) (fun _ _ _ _ _=>by kernel_rfl) fun R kk e x0 x1 K=>by
 simp only[oF,MC,zua,zub,Xl (hF:=e),UE,UF,az,<-e]
def abU:Env:=e0 [.str]
def tC:af:=DV.add 92 [.str] (cG .str p6 (fun _ r K=>K [tS r.1,tB r.2] none))
theorem o73:aL Tryz.prog tC:=cJ abU Tryz.f92 (fun R kk x0 K=>LO x0 (fun a0 a1=>K [tS a0,tB a1] none)) o72 (ek _ _ _ _) Tryz.func92 (by kernel_rfl) rfl (fun _ _ _ _ _ _ h=>h _ _) (fun _ _ _ _=>by kernel_rfl) fun R kk e x0 K=>by
 simp only[p6,LO,az]
def NT:Env:=b6.env (fun i=>bif Nat.beq i 2 then [1,9,10,11] else []) (fun i=>bif Nat.beq i 2 then [4,5] else []) [] [y5,(.int .i64)]
def LG(a:Int)(b:aq)(c d:Int):Option R:=ax (ev NT (tC R) kk (sub [1,0,1,0,0] (cd Tryz.f93))) [1,9,10,11] [4,5] k ⟨uS 1 ([tI a]::uS 7 ([.ah (.sl 90 (.pair (.int .i64) (.pair .str .unit))) b []]::[tI c]::[tI d]::uS 10 [])),nS 23 []⟩ J
def zd7(a:ByteArray)(b:Bool):State:=⟨uS 4 ([tS a]::[tB b]::uS 16 []),nS 23 []⟩
def zd8:State:=⟨uS 22 [],nS 23 []⟩
def zsx:KX R:=(zl 0 (aM NT (tC R) kk (sub [1,1] (cd Tryz.f93)) (aK NT Tryz.f93.results.toList none K)))
theorem ZS(a:Int)(b:aq)(c d:Int):LG R kk (k+1) J a b c d=
 zsy a b c d (fun a0 a1=>J .ret (zd7 a0 a1)) (LG R kk k J) (J (.exit 0) (zd8)):=by kernel_rfl
theorem Ue(a:ByteArray)(b:Bool):zsx R kk K .ret (zd7 a b)=
 zsz a b (fun a0 a1=>K [tS a0,tB a1] none):=by kernel_rfl
theorem Uf:zsx R kk K (.exit 0) (zd8)=
 zt0 (fun a0 a1=>K [tS a0,tB a1] none):=by kernel_rfl
theorem W3{kk:Nat}(hF:kk=ag)(dX:Int)(t9:aq)(t10 t11:Int):LG R kk k J dX t9 t10 t11=(II k dX t9 t10 t11).bind fun e=>(Sum.elim (fun(we:iO)=>J .ret (zd7 we.1 we.2)) (fun(we:Unit)=>J (.exit 0) (zd8)) e):=by
 induction k generalizing dX t9 t10 t11 with
 |zero=>rfl
 |succ k ih=>
  rw[ZS]
  simp only[II,zsy,ih,az]
def tD:af:=tC.add 93 [y5,(.int .i64)] (c9 y5 (.int .i64) mo (fun _ r K=>K [tS r.1,tB r.2] none))
theorem o74:aL Tryz.prog tD:=dm NT Tryz.f93 (fun R kk x0 x1 K=>LH x0 x1 (LG R kk kk (zsx R kk K))) o73 (ek _ _ _ _) Tryz.func93 (by kernel_rfl) rfl (fun _ _ _ _ _ _ h=>h _ _) (fun _ _ _ _ _=>by kernel_rfl) fun R kk e x0 x1 K=>by
 simp only[mo,LH,zsz,zt0,W3 (hF:=e),Ue,Uf,az,<-e]
def NV:Env:=b6.env (fun i=>bif Nat.beq i 3 then [1,4,5,12,13,14] else []) (fun i=>bif Nat.beq i 3 then [4,5] else []) [4] [y5,(.int .i64)]
def LL(a:Int)(b:aq)(c d:Int)(e f:ae):Option R:=ax (ev NV (tD R) kk (sub [1,1,0,1,0,0] (cd Tryz.f149))) [1,4,5,12,13,14] [4,5] k ⟨uS 1 ([tI a]::uS 2 ([.ptr 5 y5 []]::[.ptr 6 y5 []]::uS 6 ([.ah (.sl 90 (.pair (.int .i64) (.pair .str .unit))) b []]::[tI c]::[tI d]::uS 15 []))),nS 5 ((some ⟨y5,e,[[1]]⟩)::(some ⟨y5,f,[[1]]⟩)::nS 24 [])⟩ J
def zda(a b:ae):State:=⟨uS 4 ([.ptr 5 y5 []]::[.ptr 6 y5 []]::uS 24 []),nS 5 ((some ⟨y5,a,[[1]]⟩)::(some ⟨y5,b,[[1]]⟩)::nS 24 [])⟩
def GG:KX R:=(zl 0 (aM NV (tD R) kk (sub [1,1,1] (cd Tryz.f149)) (aK NV Tryz.f149.results.toList none K)))
theorem ZU(a:Int)(b:aq)(c d:Int)(e f:ae):LL R kk (k+1) J a b c d e f=
 zt4 a b c d e f (LL R kk k J) (fun a0 a1=>J (.exit 0) (zda a0 a1)):=by kernel_rfl
theorem Uh(a b:ae):GG R kk K (.exit 0) (zda a b)=
 zt5 a b (fun a0=>K [.ah y5 a0 [[1]]] none):=by kernel_rfl
theorem W5{kk:Nat}(hF:kk=ag)(dX:Int)(t12:aq)(t13 t14:Int)(cC eP:ae):LL R kk k J dX t12 t13 t14 cC eP=(IK k dX t12 t13 t14 cC eP).bind fun e=>J (.exit 0) (zda e.1 e.2):=by
 induction k generalizing dX t12 t13 t14 cC eP with
 |zero=>rfl
 |succ k ih=>
  rw[ZU]
  simp only[IK,zt4,ih,az]
def DW:af:=tD.add 149 [y5,(.int .i64)] (c9 y5 (.int .i64) p5 (fun _ r K=>K [.ah y5 r [[1]]] none))
theorem o75:aL Tryz.prog DW:=dm NV Tryz.f149 (fun R kk x0 x1 K=>LM x0 x1 (LL R kk kk (GG R kk K))) o74 (ek _ _ _ _) Tryz.func149 (by kernel_rfl) rfl (fun _ _ _ _ _ _ h=>h _ _) (fun _ _ _ _ _=>by kernel_rfl) fun R kk e x0 x1 K=>by
 simp only[p5,LM,zt5,W5 (hF:=e),Uh,az,<-e]
def abS:Env:=e0 [(.pair (.int .i64) (.pair .str .unit)),.unit]
def tE:af:=DW.add 151 [(.pair (.int .i64) (.pair .str .unit)),.unit] (pz (.pair (.int .i64) (.pair .str .unit)) (.int .i64) (.int .i64) [] pZ (fun _ r K=>K [tB r.1] (some ⟨(.int .i64),r.2,[]⟩)))
theorem o76:aL Tryz.prog tE:=sz abS Tryz.f151 (fun R kk x0 x1 K=>zt3 x0 x1 (fun a0 a1=>K [tB a0] (some ⟨(.int .i64),a1,[]⟩))) o75 (ek _ _ _ _) Tryz.func151 (by kernel_rfl) rfl (fun _ _ _ _ _ _ h=>h _ _) (fun _ _ _ _ _=>by kernel_rfl) fun R kk e x0 x1 K=>by
 simp only[pZ,zt3,az]
def N8:Env:=b6.env (fun i=>bif Nat.beq i 2 then [0,1,7,8] else []) (fun i=>bif Nat.beq i 2 then [4] else []) [] [(.sl 90 (.pair (.int .i64) (.pair .str .unit))),.unit]
def Mt(a:aq)(b c d:Int):Option R:=ax (ev N8 (tE R) kk (sub [1,0,1,0,0] (cd Tryz.f150))) [0,1,7,8] [4] k ⟨[.ah (.sl 90 (.pair (.int .i64) (.pair .str .unit))) a []]::[.ptr 0 (.aT (.pD 151) (.int .i64) .unit) []]::uS 5 ([tI b]::[tI c]::uS 10 []),(some ⟨(.int .i64),d,[]⟩)::nS 19 []⟩ J
def zdw(a b:Int):State:=⟨uS 4 ([tI a]::uS 14 []),(some ⟨(.int .i64),b,[]⟩)::nS 19 []⟩
def zdx(a:Int):State:=⟨uS 19 [],(some ⟨(.int .i64),a,[]⟩)::nS 19 []⟩
def zu1(a:Int):KX R:=(zl 0 (aM N8 (tE R) kk (sub [1,1] (cd Tryz.f150)) (aK N8 Tryz.f150.results.toList (some ⟨(.int .i64),a,[]⟩) K)))
theorem Z8(a:aq)(b c d:Int):Mt R kk (k+1) J a b c d=
 zu2 a b c d (fun a0 a1=>J .ret (zdw a0 a1)) (Mt R kk k J) (fun a0=>J (.exit 0) (zdx a0)):=by kernel_rfl
theorem UA(a b c:Int):zu1 R kk K a .ret (zdw b c)=
 zu3 b c (fun a0 a1=>K [tI a0] (some ⟨(.int .i64),a1,[]⟩)):=by kernel_rfl
theorem UB(a b:Int):zu1 R kk K a (.exit 0) (zdx b)=
 zu4 b (fun a0 a1=>K [tI a0] (some ⟨(.int .i64),a1,[]⟩)):=by kernel_rfl
theorem Xj{kk:Nat}(hF:kk=ag)(qx:aq)(t7 t8 recv:Int):Mt R kk k J qx t7 t8 recv=(I0 k qx t7 t8 recv).bind fun e=>(Sum.elim (fun(we:(Int×Int))=>J .ret (zdw we.1 we.2)) (fun(we:Int)=>J (.exit 0) (zdx we)) e):=by
 induction k generalizing qx t7 t8 recv with
 |zero=>rfl
 |succ k ih=>
  rw[Z8]
  simp only[I0,zu2,ih,az]
def DX:af:=tE.add 150 [(.sl 90 (.pair (.int .i64) (.pair .str .unit))),.unit] (pz (.sl 90 (.pair (.int .i64) (.pair .str .unit))) (.aT (.pD 151) (.int .i64) .unit) (.int .i64) [] qj (fun _ r K=>K [tI r.1] (some ⟨(.int .i64),r.2,[]⟩)))
theorem o77:aL Tryz.prog DX:=sz N8 Tryz.f150 (fun R kk x0 x1 K=>Mu x0 x1 (Mt R kk kk (zu1 R kk K x1))) o76 (ek _ _ _ _) Tryz.func150 (by kernel_rfl) rfl (fun _ _ _ _ _ _ h=>h _ _) (fun _ _ _ _ _=>by kernel_rfl) fun R kk e x0 x1 K=>by
 simp only[qj,Mu,zu3,zu4,Xj (hF:=e),UA,UB,az,<-e]
def abR:Env:={b6.env (fun _=>[]) (fun _=>[]) [6] [y5,(.int .i64),.str] with fz:=fun i=>bif Nat.beq i 9 then some (9,47) else none}
def mE:af:=DX.add 94 [y5,(.int .i64),.str] (kE y5 (.int .i64) .str fX (fun _ r K=>K [.ah y5 r []] none))
theorem o78:aL Tryz.prog mE:=kV abR Tryz.f94 (fun R kk x0 x1 x2 K=>LK x0 x1 x2 (fun a0=>K [.ah y5 a0 []] none)) o77 ((ek _ _ _ _).fz _) Tryz.func94 (by kernel_rfl) rfl (fun _ _ _ _ _ _ h=>h _ _) (fun _ _ _ _ _ _=>by kernel_rfl) fun R kk e x0 x1 x2 K=>by
 simp only[fX,LK,az]
def AH:Env:=b6.env (fun i=>bif Nat.beq i 2 then [2,10,11,12] else bif Nat.beq i 5 then [2,6,10,11,12,17,18,19] else []) (fun i=>bif Nat.beq i 2 then [4] else bif Nat.beq i 5 then [2,4,10,11,12] else []) [] [cX,(.int .i64)]
def L4(a:(List Int))(b c:Int)(d:aB):Option R:=ax (ev AH (mE R) kk (sub [1,0,1,0,0] (cd Tryz.f95))) [2,10,11,12] [4] k ⟨uS 2 ([.ptr 3 cX []]::uS 7 ([.ah (.sl 38 (.int .i64)) a [[]]]::[tI b]::[tI c]::uS 18 [])),nS 3 ((some ⟨cX,d,[]⟩)::nS 28 [])⟩ J
def zdh:State:=⟨uS 31 [],nS 32 []⟩
def zdi(a:ByteArray):State:=⟨uS 4 ([tS a]::uS 26 []),nS 32 []⟩
def zte:KX R:=(zl 0 (aM AH (mE R) kk (sub [1,1] (cd Tryz.f95)) (aK AH Tryz.f95.results.toList none K)))
def L5(a:Int)(b:(List Int))(c d:Int)(e:aq)(f g:Int)(h:aB):Option R:=ax (ev AH (mE R) kk (sub [1,0,1,0,0,1,1,0,0,1,1,0,0] (cd Tryz.f95))) [2,6,10,11,12,17,18,19] [2,4,10,11,12] k ⟨uS 2 ([.ptr 3 cX []]::uS 3 ([tI a]::uS 3 ([.ah (.sl 38 (.int .i64)) b [[]]]::[tI c]::[tI d]::uS 4 ([.ah (.sl 96 (.pair (.int .i64) (.pair .str .unit))) e []]::[tI f]::[tI g]::uS 11 [])))),nS 3 ((some ⟨cX,h,[]⟩)::nS 28 [])⟩ J
def zdj(a:ByteArray)(b:(List Int))(c d:Int)(e:aB):State:=⟨uS 2 ([.ptr 3 cX []]::uS 1 ([tS a]::uS 5 ([.ah (.sl 38 (.int .i64)) b [[]]]::[tI c]::[tI d]::uS 18 []))),nS 3 ((some ⟨cX,e,[]⟩)::nS 28 [])⟩
def zdk(a:(List Int))(b c:Int)(d:aB):State:=⟨uS 2 ([.ptr 3 cX []]::uS 7 ([.ah (.sl 38 (.int .i64)) a [[]]]::[tI b]::[tI c]::uS 18 [])),nS 3 ((some ⟨cX,d,[]⟩)::nS 28 [])⟩
def ztf:KX R:=(zl 2 (zl 1 (aM AH (mE R) kk (sub [1,0,1,0,0,1,1,1] (cd Tryz.f95)) (xc (ev AH (mE R) kk (sub [1,0,1,0,0] (cd Tryz.f95))) [2,10,11,12] [4] k J))))
theorem ZZ(a:(List Int))(b c:Int)(d:aB):L4 R kk (k+1) J a b c d=
 IV a b c d (L5 R kk kk (ztf R kk k J)) (J (.exit 0) (zdh)):=by kernel_rfl
theorem Uo:zte R kk K (.exit 0) (zdh)=
 ztg (fun a0=>K [tS a0] none):=by kernel_rfl
theorem Z0(a:Int)(b:(List Int))(c d:Int)(e:aq)(f g:Int)(h:aB):L5 R kk (k+1) J a b c d e f g h=
 zth a b c d e f g h (fun a0 a1 a2 a3 a4=>J .ret (zdj a0 a1 a2 a3 a4)) (L5 R kk k J) (fun a0 a1 a2 a3=>J (.exit 2) (zdk a0 a1 a2 a3)):=by kernel_rfl
theorem z182(a:ByteArray)(b:(List Int))(c d:Int)(e:aB):ztf R kk k J .ret (zdj a b c d e)=
 zti a b c d e (fun a0=>J .ret (zdi a0)):=by kernel_rfl
theorem z183(a:(List Int))(b c:Int)(d:aB):ztf R kk k J (.exit 2) (zdk a b c d)=
 L7 a b c d (L4 R kk k J):=by kernel_rfl
theorem Up(a:ByteArray):zte R kk K .ret (zdi a)=
 ztj a (fun a0=>K [tS a0] none):=by kernel_rfl
theorem Xb{kk:Nat}(hF:kk=ag)(t6:Int)(t10:(List Int))(t11 t12:Int)(t17:aq)(t18 t19:Int)(df:aB):L5 R kk k J t6 t10 t11 t12 t17 t18 t19 df=(BD k t6 t10 t11 t12 t17 t18 t19 df).bind fun e=>(Sum.elim (fun(we:(ByteArray×(List Int)×Int×Int×aB))=>J .ret (zdj we.1 we.2.1 we.2.2.1 we.2.2.2.1 we.2.2.2.2)) (fun(we:((List Int)×Int×Int×aB))=>J (.exit 2) (zdk we.1 we.2.1 we.2.2.1 we.2.2.2)) e):=by
 induction k generalizing t6 t10 t11 t12 t17 t18 t19 df with
 |zero=>rfl
 |succ k ih=>
  rw[Z0]
  simp only[BD,zth,ih,az]
theorem Xa{kk:Nat}(hF:kk=ag)(t10:(List Int))(t11 t12:Int)(df:aB):L4 R kk k J t10 t11 t12 df=(xD k t10 t11 t12 df).bind fun e=>(Sum.elim (fun(we:Unit)=>J (.exit 0) (zdh)) (fun(we:ByteArray)=>J .ret (zdi we)) e):=by
 induction k generalizing t10 t11 t12 df with
 |zero=>rfl
 |succ k ih=>
  rw[ZZ]
  simp only[xD,IV,zti,L7,ih,Xb (hF:=hF),z182,z183,az,<-hF]
def tF:af:=mE.add 95 [cX,(.int .i64)] (c9 cX (.int .i64) qa (fun _ r K=>K [tS r] none))
theorem o79:aL Tryz.prog tF:=dm AH Tryz.f95 (fun R kk x0 x1 K=>L6 x0 x1 (L4 R kk kk (zte R kk K))) o78 (ek _ _ _ _) Tryz.func95 (by kernel_rfl) rfl (fun _ _ _ _ _ _ h=>h _ _) (fun _ _ _ _ _=>by kernel_rfl) fun R kk e x0 x1 K=>by
 simp only[qa,L6,ztg,ztj,Xa (hF:=e),Uo,Up,az,<-e]
def NZ:Env:={{b6.env (fun i=>bif Nat.beq i 6 then [3,4,5,6,10,27,28,29] else []) (fun i=>bif Nat.beq i 6 then [3,5,6,10] else []) [6] [cX,y5,(.pair (.int .i64) (.pair (.int .i64) .unit))] with dr:=fun i=>bif Nat.beq i 6 then [11] else []} with ro:=true}
def LW(a:(List Int))(b c:Int)(d:aB)(e:ae)(f:aw)(g h:ae):Option R:=ax (ev NZ (tF R) kk (sub [1,1,1,1,0,1,0,0] (cd Tryz.f37))) [3,4,5,6,10,27,28,29] [3,5,6,10] k ⟨uS 3 ([.ptr 4 cX []]::[.ptr 5 y5 []]::[.ptr 6 (.pair (.int .i64) (.pair (.int .i64) .unit)) []]::[.ptr 7 y5 []]::uS 3 ([.ptr 11 y5 []]::uS 16 ([.ah (.sl 3 (.int .i64)) a []]::[tI b]::[tI c]::uS 21 []))),nS 4 ((some ⟨cX,d,[]⟩)::(some ⟨y5,e,[]⟩)::(some ⟨(.pair (.int .i64) (.pair (.int .i64) .unit)),f,[]⟩)::(some ⟨y5,g,[[1]]⟩)::nS 3 ((some ⟨y5,h,[]⟩)::nS 40 []))⟩ J
def zdc(a:aB)(b:aw)(c d:ae):State:=⟨uS 3 ([.ptr 4 cX []]::uS 1 ([.ptr 6 (.pair (.int .i64) (.pair (.int .i64) .unit)) []]::[.ptr 7 y5 []]::uS 3 ([.ptr 11 y5 []]::uS 40 []))),nS 4 ((some ⟨cX,a,[]⟩)::nS 1 ((some ⟨(.pair (.int .i64) (.pair (.int .i64) .unit)),b,[]⟩)::(some ⟨y5,c,[[1]]⟩)::nS 3 ((some ⟨y5,d,[]⟩)::nS 40 [])))⟩
def z141:KX R:=(zl 0 (aM NZ (tF R) kk (sub [1,1,1,1,1] (cd Tryz.f37)) (aK NZ Tryz.f37.results.toList none K)))
theorem ZW(a:(List Int))(b c:Int)(d:aB)(e:ae)(f:aw)(g h:ae):LW R kk (k+1) J a b c d e f g h=
 zt9 a b c d e f g h (LW R kk k J) (fun a0 a1 a2 a3=>J (.exit 0) (zdc a0 a1 a2 a3)):=by kernel_rfl
theorem Uj(a:aB)(b:aw)(c d:ae):z141 R kk K (.exit 0) (zdc a b c d)=
 LY a b c d (fun a0 a1=>K [.ah y5 a0 [],tB a1] none):=by kernel_rfl
theorem W7{kk:Nat}(hF:kk=ag)(t27:(List Int))(t28 t29:Int)(fK:aB)(cC:ae)(eP:aw)(gH yd:ae):LW R kk k J t27 t28 t29 fK cC eP gH yd=(IP k t27 t28 t29 fK cC eP gH yd).bind fun e=>J (.exit 0) (zdc e.1 e.2.1 e.2.2.1 e.2.2.2):=by
 induction k generalizing t27 t28 t29 fK cC eP gH yd with
 |zero=>rfl
 |succ k ih=>
  rw[ZW]
  simp only[IP,zt9,ih,az]
def tG:af:=tF.add 37 [cX,y5,(.pair (.int .i64) (.pair (.int .i64) .unit))] (kE cX y5 (.pair (.int .i64) (.pair (.int .i64) .unit)) p8 (fun _ r K=>K [.ah y5 r.1 [],tB r.2] none))
theorem o80:aL Tryz.prog tG:=kV NZ Tryz.f37 (fun R kk x0 x1 x2 K=>LX x0 x1 x2 (fun a0 a1=>K [.ah y5 a0 [],tB a1] none) (LW R kk kk (z141 R kk K))) o79 (((ek _ _ _ _).dr _).ro _) Tryz.func37 (by kernel_rfl) rfl (fun _ _ _ _ _ _ h=>h _ _) (fun _ _ _ _ _ _=>by kernel_rfl) fun R kk e x0 x1 x2 K=>by
 simp only[p8,LX,LY,W7 (hF:=e),Uj,az,<-e]
def NS:Env:=b6.env (fun i=>bif Nat.beq i 9 then [2,4,9,39,40,41] else []) (fun i=>bif Nat.beq i 9 then [4] else []) [4] [aU,y5]
def LD(a:Int)(b:aq)(c d:Int)(e:ai)(f:aw):Option R:=ax (ev NS (tG R) kk (sub [1,1,1,1,0,1,0,0] (cd Tryz.f96))) [2,4,9,39,40,41] [4] k ⟨uS 2 ([.ptr 3 aU []]::uS 1 ([.ptr 5 (.pair (.int .i64) (.pair (.int .i64) .unit)) []]::uS 4 ([tI a]::uS 29 ([.ah (.sl 90 (.pair (.int .i64) (.pair .str .unit))) b []]::[tI c]::[tI d]::uS 36 [])))),nS 3 ((some ⟨aU,e,[]⟩)::nS 1 ((some ⟨(.pair (.int .i64) (.pair (.int .i64) .unit)),f,[]⟩)::nS 73 []))⟩ J
def zd5(a:aw):State:=⟨uS 4 ([.ptr 5 (.pair (.int .i64) (.pair (.int .i64) .unit)) []]::uS 73 []),nS 5 ((some ⟨(.pair (.int .i64) (.pair (.int .i64) .unit)),a,[]⟩)::nS 73 [])⟩
def zd6(a:aw):State:=⟨uS 4 ([.ptr 5 (.pair (.int .i64) (.pair (.int .i64) .unit)) []]::uS 73 []),nS 5 ((some ⟨(.pair (.int .i64) (.pair (.int .i64) .unit)),a,[]⟩)::nS 73 [])⟩
def zst:KX R:=(zl 0 (aM NS (tG R) kk (sub [1,1,1,1,1] (cd Tryz.f96)) (aK NS Tryz.f96.results.toList none K)))
theorem ZR(a:Int)(b:aq)(c d:Int)(e:ai)(f:aw):LD R kk (k+1) J a b c d e f=
 zsu a b c d e f (fun a0=>J .ret (zd5 a0)) (LD R kk k J) (fun a0=>J (.exit 0) (zd6 a0)):=by kernel_rfl
theorem Uc(a:aw):zst R kk K .ret (zd5 a)=
 zsv a (fun a0=>K [.ah (.pair (.int .i64) (.pair (.int .i64) .unit)) a0 []] none):=by kernel_rfl
theorem Ud(a:aw):zst R kk K (.exit 0) (zd6 a)=
 zsw a (fun a0=>K [.ah (.pair (.int .i64) (.pair (.int .i64) .unit)) a0 []] none):=by kernel_rfl
theorem W0{kk:Nat}(hF:kk=ag)(t9:Int)(t39:aq)(t40 t41:Int)(df:ai)(cC:aw):LD R kk k J t9 t39 t40 t41 df cC=(IG k t9 t39 t40 t41 df cC).bind fun e=>(Sum.elim (fun(we:aw)=>J .ret (zd5 we)) (fun(we:aw)=>J (.exit 0) (zd6 we)) e):=by
 induction k generalizing t9 t39 t40 t41 df cC with
 |zero=>rfl
 |succ k ih=>
  rw[ZR]
  simp only[IG,zsu,ih,az]
def tH:af:=tG.add 96 [aU,y5] (c9 aU y5 ou (fun _ r K=>K [.ah (.pair (.int .i64) (.pair (.int .i64) .unit)) r []] none))
theorem o81:aL Tryz.prog tH:=dm NS Tryz.f96 (fun R kk x0 x1 K=>LF x0 x1 (fun a0=>K [.ah (.pair (.int .i64) (.pair (.int .i64) .unit)) a0 []] none) (LD R kk kk (zst R kk K))) o80 (ek _ _ _ _) Tryz.func96 (by kernel_rfl) rfl (fun _ _ _ _ _ _ h=>h _ _) (fun _ _ _ _ _=>by kernel_rfl) fun R kk e x0 x1 K=>by
 simp only[ou,LF,zsv,zsw,W0 (hF:=e),Uc,Ud,az,<-e]
def sS:Env:=b6.env (fun i=>bif Nat.beq i 7 then [0,4,5] else []) (fun i=>bif Nat.beq i 7 then [4] else []) [] [.str]
def m5(a:ByteArray)(b:(List Int))(c:Int):Option R:=ax (ev sS (tH R) kk (sub [1,1,1,1,0,1,0,0] (cd Tryz.f154))) [0,4,5] [4] k ⟨[tS a]::uS 3 ([.ah (.sl 5 (.int .u8)) b [[]]]::[tI c]::uS 40 []),nS 47 []⟩ J
def ztn(a:(List Int)):State:=⟨uS 4 ([.ah (.sl 5 (.int .u8)) a [[]]]::uS 41 []),nS 47 []⟩
def vv:KX R:=(zl 0 (aM sS (tH R) kk (sub [1,1,1,1,1] (cd Tryz.f154)) (aK sS Tryz.f154.results.toList none K)))
theorem CB(a:ByteArray)(b:(List Int))(c:Int):m5 R kk (k+1) J a b c=
 lh a b c (m5 R kk k J) (fun a0=>J (.exit 0) (ztn a0)):=by kernel_rfl
theorem Z2(a:(List Int)):vv R kk K (.exit 0) (ztn a)=
 qd a (fun a0 a1=>K [tS a0,tB a1] none):=by kernel_rfl
theorem ab6{kk:Nat}(hF:kk=ag)(ff:ByteArray)(t4:(List Int))(t5:Int):m5 R kk k J ff t4 t5=(iH k ff t4 t5).bind fun e=>J (.exit 0) (ztn e):=by
 induction k generalizing ff t4 t5 with
 |zero=>rfl
 |succ k ih=>
  rw[CB]
  simp only[iH,lh,ih,az]
def DY:af:=tH.add 154 [.str] (cG .str Q1 (fun _ r K=>K [tS r.1,tB r.2] none))
theorem o82:aL Tryz.prog DY:=cJ sS Tryz.f154 (fun R kk x0 K=>jN x0 (fun a0 a1=>K [tS a0,tB a1] none) (fun a0 a1 a2=>m5 R kk kk (vv R kk K) a0 a1 a2)) o81 (ek _ _ _ _) Tryz.func154 (by kernel_rfl) rfl (fun _ _ _ _ _ _ h=>h _ _) (fun _ _ _ _=>by kernel_rfl) fun R kk e x0 K=>by
 simp only[Q1,S7,qd,ab6 (hF:=e),Z2,az,<-e]
def acr:Env:=e0 [(.int .i64),.str]
def DZ:af:=DY.add 99 [(.int .i64),.str] (c9 (.int .i64) .str qs (fun _ r K=>K [tS r.1,tB r.2] none))
theorem RL:aL Tryz.prog DZ:=dm acr Tryz.f99 (fun R kk x0 x1 K=>MW x0 x1 (fun a0 a1=>K [tS a0,tB a1] none)) o82 (ek _ _ _ _) Tryz.func99 (by kernel_rfl) rfl (fun _ _ _ _ _ _ h=>h _ _) (fun _ _ _ _ _=>by kernel_rfl) fun R kk e x0 x1 K=>by
 simp only[qs,MW,az]
def Tryz.gY:Go.Shelf.Ren:=⟨fun|166=>98|240=>152|276=>198|n=>n,fun|70=>144|9=>9|3=>3|75=>149|0=>0|72=>147|37=>145|4=>4|164=>246|80=>158|5=>5|20=>20|n=>n,fun n=>n⟩
theorem Tryz.uu:Go.Proofs.Lays.n166 Go.Proofs.Tryz.prog Tryz.gY:={
 mixed:=by kernel_rfl,
 f166:=Go.Proofs.Tryz.func98.trans (congrArg some (by kernel_rfl)),
 f240:=Go.Proofs.Tryz.func152.trans (congrArg some (by kernel_rfl)),
 f276:=Go.Proofs.Tryz.func198.trans (congrArg some (by kernel_rfl)),
 t0:=Go.Proofs.Tryz.underlying0,
 a0:=Go.Proofs.Tryz.isAgg0,
 z0:=Go.Proofs.Tryz.sizeOf0,
 v0:=Go.Proofs.Tryz.zeroValue0,
 t3:=Go.Proofs.Tryz.underlying3,
 a3:=Go.Proofs.Tryz.isAgg3,
 z3:=Go.Proofs.Tryz.sizeOf3,
 v3:=Go.Proofs.Tryz.zeroValue3,
 t4:=Go.Proofs.Tryz.underlying4,
 a4:=Go.Proofs.Tryz.isAgg4,
 z4:=Go.Proofs.Tryz.sizeOf4,
 v4:=Go.Proofs.Tryz.zeroValue4,
 t9:=Go.Proofs.Tryz.underlying9,
 a9:=Go.Proofs.Tryz.isAgg9,
 z9:=Go.Proofs.Tryz.sizeOf9,
 v9:=Go.Proofs.Tryz.zeroValue9,
 t20:=Go.Proofs.Tryz.underlying20,
 a20:=Go.Proofs.Tryz.isAgg20,
 z20:=Go.Proofs.Tryz.sizeOf20,
 v20:=Go.Proofs.Tryz.zeroValue20,
 t37:=Go.Proofs.Tryz.underlying145,
 a37:=Go.Proofs.Tryz.isAgg145,
 z37:=Go.Proofs.Tryz.sizeOf145,
 v37:=Go.Proofs.Tryz.zeroValue145,
 t70:=Go.Proofs.Tryz.underlying144,
 a70:=Go.Proofs.Tryz.isAgg144,
 z70:=Go.Proofs.Tryz.sizeOf144,
 v70:=Go.Proofs.Tryz.zeroValue144,
 t72:=Go.Proofs.Tryz.underlying147,
 a72:=Go.Proofs.Tryz.isAgg147,
 z72:=Go.Proofs.Tryz.sizeOf147,
 v72:=Go.Proofs.Tryz.zeroValue147,
 t75:=Go.Proofs.Tryz.underlying149,
 a75:=Go.Proofs.Tryz.isAgg149,
 z75:=Go.Proofs.Tryz.sizeOf149,
 v75:=Go.Proofs.Tryz.zeroValue149,
 t164:=Go.Proofs.Tryz.underlying246,
 a164:=Go.Proofs.Tryz.isAgg246,
 z164:=Go.Proofs.Tryz.sizeOf246,
 v164:=Go.Proofs.Tryz.zeroValue246}
theorem Tryz.qF:Go.Proofs.Builder.Extra Go.Proofs.Tryz.prog Tryz.gY:={
 sizeBuilder:=by kernel_rfl,
 liesBuilder:=by kernel_rfl,
 t5:=Go.Proofs.Tryz.underlying5,
 a5:=Go.Proofs.Tryz.isAgg5,
 z5:=Go.Proofs.Tryz.sizeOf5,
 v5:=Go.Proofs.Tryz.zeroValue5,
 infoByte:=by kernel_rfl,
 cellsByte:=by kernel_rfl,
 sizeByte:=by kernel_rfl,
 neB5:=by decide}
noncomputable abbrev z5w:Code:=Tryz.f98.body.getD .skip
theorem z5h:pA Tryz.prog 98:=⟨Tryz.f98,z5w,Tryz.func98,by kernel_rfl,by kernel_rfl⟩
def D0:af:=DZ.add 98 [] (JC 147 5)
theorem o84:aL Tryz.prog D0:=⟨RL.mix,Nf RL.nat (acS _ _),Vb RL.rD z5h Tryz.uu Tryz.qF rfl rfl rfl⟩
def acq:Env:=e0 [.str,.unit]
def tJ:af:=D0.add 97 [.str,.unit] (pz .str (.aT (.fw 147 5) .unit .unit) (.aT (.fw 147 5) .unit .unit) [[]] iI (fun _ r K=>K [] (some ⟨(.aT (.fw 147 5) .unit .unit),r,[[]]⟩)))
theorem o85:aL Tryz.prog tJ:=sz acq Tryz.f97 (fun R kk x0 x1 K=>MV x0 x1 (fun a0=>K [] (some ⟨(.aT (.fw 147 5) .unit .unit),a0,[[]]⟩))) o84 (ek _ _ _ _) Tryz.func97 (by kernel_rfl) rfl (fun _ _ _ _ _ _ h=>h _ _) (fun _ _ _ _ _=>by kernel_rfl) fun R kk e x0 x1 K=>by
 simp only[iI,MV,az]
def NU:Env:=b6.env (fun i=>bif Nat.beq i 3 then [2,3,7,8,9] else []) (fun i=>bif Nat.beq i 3 then [2,3] else []) [2] [y5]
def LI(a:aq)(b c:Int)(d e:aw):Option R:=ax (ev NU (tJ R) kk (sub [1,1,0,1,0,0] (cd Tryz.f101))) [2,3,7,8,9] [2,3] k ⟨uS 2 ([.ptr 3 (.pair (.int .u64) (.pair (.int .u64) .unit)) []]::[.ptr 4 (.pair (.int .u64) (.pair (.int .u64) .unit)) []]::uS 3 ([.ah (.sl 90 (.pair (.int .i64) (.pair .str .unit))) a []]::[tI b]::[tI c]::uS 9 [])),nS 3 ((some ⟨(.pair (.int .u64) (.pair (.int .u64) .unit)),d,[]⟩)::(some ⟨(.pair (.int .u64) (.pair (.int .u64) .unit)),e,[]⟩)::nS 15 [])⟩ J
def zd9(a b:aw):State:=⟨uS 2 ([.ptr 3 (.pair (.int .u64) (.pair (.int .u64) .unit)) []]::[.ptr 4 (.pair (.int .u64) (.pair (.int .u64) .unit)) []]::uS 15 []),nS 3 ((some ⟨(.pair (.int .u64) (.pair (.int .u64) .unit)),a,[]⟩)::(some ⟨(.pair (.int .u64) (.pair (.int .u64) .unit)),b,[]⟩)::nS 15 [])⟩
def GF:KX R:=(zl 0 (aM NU (tJ R) kk (sub [1,1,1] (cd Tryz.f101)) (aK NU Tryz.f101.results.toList none K)))
theorem ZT(a:aq)(b c:Int)(d e:aw):LI R kk (k+1) J a b c d e=
 zt1 a b c d e (LI R kk k J) (fun a0 a1=>J (.exit 0) (zd9 a0 a1)):=by kernel_rfl
theorem Ug(a b:aw):GF R kk K (.exit 0) (zd9 a b)=
 zt2 a b (fun a0=>K [.ah (.pair (.int .u64) (.pair (.int .u64) .unit)) a0 []] none):=by kernel_rfl
theorem W4{kk:Nat}(hF:kk=ag)(t7:aq)(t8 t9:Int)(df fK:aw):LI R kk k J t7 t8 t9 df fK=(IJ k t7 t8 t9 df fK).bind fun e=>J (.exit 0) (zd9 e.1 e.2):=by
 induction k generalizing t7 t8 t9 df fK with
 |zero=>rfl
 |succ k ih=>
  rw[ZT]
  simp only[IJ,zt1,ih,az]
def D1:af:=tJ.add 101 [y5] (cG y5 pY (fun _ r K=>K [.ah (.pair (.int .u64) (.pair (.int .u64) .unit)) r []] none))
theorem o86:aL Tryz.prog D1:=cJ NU Tryz.f101 (fun R kk x0 K=>LJ x0 (LI R kk kk (GF R kk K))) o85 (ek _ _ _ _) Tryz.func101 (by kernel_rfl) rfl (fun _ _ _ _ _ _ h=>h _ _) (fun _ _ _ _=>by kernel_rfl) fun R kk e x0 K=>by
 simp only[pY,LJ,zt2,W4 (hF:=e),Ug,az,<-e]
def CM:Env:=e0 [(.pair (.int .u64) (.pair (.int .u64) .unit)),(.int .i64)]
def D2:af:=D1.add 156 [(.pair (.int .u64) (.pair (.int .u64) .unit)),(.int .i64)] (c9 (.pair (.int .u64) (.pair (.int .u64) .unit)) (.int .i64) CL (fun _ r K=>K [tB r] none))
theorem o87:aL Tryz.prog D2:=dm CM Tryz.f156 (fun R kk x0 x1 K=>OC x0 x1 (fun a0=>K [tB a0] none)) o86 (ek _ _ _ _) Tryz.func156 (by kernel_rfl) rfl (fun _ _ _ _ _ _ h=>h _ _) (fun _ _ _ _ _=>by kernel_rfl) fun R kk e x0 x1 K=>by
 simp only[CL,OC,az]
def CK:Env:=e0 [(.pair (.int .u64) (.pair (.int .u64) .unit))]
def tK:af:=D2.add 157 [(.pair (.int .u64) (.pair (.int .u64) .unit))] (cG (.pair (.int .u64) (.pair (.int .u64) .unit)) JR (fun _ r K=>K [.ah (.int .u64) r.1 [],.ah (.int .u64) r.2 []] none))
theorem o88:aL Tryz.prog tK:=cJ CK Tryz.f157 (fun R kk x0 K=>zza x0 (fun a0 a1=>K [.ah (.int .u64) a0 [],.ah (.int .u64) a1 []] none)) o87 (ek _ _ _ _) Tryz.func157 (by kernel_rfl) rfl (fun _ _ _ _ _ _ h=>h _ _) (fun _ _ _ _=>by kernel_rfl) fun R kk e x0 K=>by
 simp only[JR,zza,az]
def s5:Env:=b6.env (fun i=>bif Nat.beq i 3 then [0,2,3,5] else []) (fun i=>bif Nat.beq i 3 then [2,3] else []) [2] [(.int .u64)]
def nw(a b:Int)(c d:(List Int)):Option R:=ax (ev s5 (tK R) kk (sub [1,1,0,1,0,0] (cd Tryz.f158))) [0,2,3,5] [2,3] k ⟨[.ah (.int .u64) a []]::uS 1 ([.ptr 3 (.arr 8 (.int .u8)) []]::[.ptr 4 (.arr 8 (.int .u8)) []]::uS 1 ([tI b]::uS 12 [])),nS 3 ((some ⟨(.arr 8 (.int .u8)),c,[]⟩)::(some ⟨(.arr 8 (.int .u8)),d,[]⟩)::nS 14 [])⟩ J
def zv6(a b:(List Int)):State:=⟨uS 2 ([.ptr 3 (.arr 8 (.int .u8)) []]::[.ptr 4 (.arr 8 (.int .u8)) []]::uS 14 []),nS 3 ((some ⟨(.arr 8 (.int .u8)),a,[]⟩)::(some ⟨(.arr 8 (.int .u8)),b,[]⟩)::nS 14 [])⟩
def vF:KX R:=(zl 0 (aM s5 (tK R) kk (sub [1,1,1] (cd Tryz.f158)) (aK s5 Tryz.f158.results.toList none K)))
theorem C6(a b:Int)(c d:(List Int)):nw R kk (k+1) J a b c d=
 lm a b c d (nw R kk k J) (fun a0 a1=>J (.exit 0) (zv6 a0 a1)):=by kernel_rfl
theorem aaE(a b:(List Int)):vF R kk K (.exit 0) (zv6 a b)=
 nz a b (fun a0=>K [.ah (.arr 8 (.int .u8)) a0 []] none):=by kernel_rfl
theorem acM{kk:Nat}(hF:kk=ag)(Sb t5:Int)(df fK:(List Int)):nw R kk k J Sb t5 df fK=(fY k Sb t5 df fK).bind fun e=>J (.exit 0) (zv6 e.1 e.2):=by
 induction k generalizing Sb t5 df fK with
 |zero=>rfl
 |succ k ih=>
  rw[C6]
  simp only[fY,lm,ih,az]
def tL:af:=tK.add 158 [(.int .u64)] (cG (.int .u64) Q8 (fun _ r K=>K [.ah (.arr 8 (.int .u8)) r []] none))
theorem o89:aL Tryz.prog tL:=cJ s5 Tryz.f158 (fun R kk x0 K=>nx x0 (nw R kk kk (vF R kk K))) o88 (ek _ _ _ _) Tryz.func158 (by kernel_rfl) rfl (fun _ _ _ _ _ _ h=>h _ _) (fun _ _ _ _=>by kernel_rfl) fun R kk e x0 K=>by
 simp only[Q8,nx,nz,acM (hF:=e),aaE,az,<-e]
def NQ:Env:=b6.env (fun i=>bif Nat.beq i 3 then [0,3,4] else []) (fun i=>bif Nat.beq i 3 then [3] else []) [] [.str]
def LA(a:ByteArray)(b:(List Int))(c:Int):Option R:=ax (ev NQ (tL R) kk (sub [1,1,0,1,0,0] (cd Tryz.f159))) [0,3,4] [3] k ⟨[tS a]::uS 2 ([.ah (.sl 5 (.int .u8)) b [[]]]::[tI c]::uS 25 []),nS 31 []⟩ J
def zd4(a:(List Int)):State:=⟨uS 3 ([.ah (.sl 5 (.int .u8)) a [[]]]::uS 26 []),nS 31 []⟩
def GD:KX R:=(zl 0 (aM NQ (tL R) kk (sub [1,1,1] (cd Tryz.f159)) (aK NQ Tryz.f159.results.toList none K)))
theorem ZQ(a:ByteArray)(b:(List Int))(c:Int):LA R kk (k+1) J a b c=
 IF a b c (LA R kk k J) (fun a0=>J (.exit 0) (zd4 a0)):=by kernel_rfl
theorem Ub(a:(List Int)):GD R kk K (.exit 0) (zd4 a)=
 zsr a (fun a0=>K [tS a0] none):=by kernel_rfl
theorem WZ{kk:Nat}(hF:kk=ag)(ff:ByteArray)(t3:(List Int))(t4:Int):LA R kk k J ff t3 t4=(Al k ff t3 t4).bind fun e=>J (.exit 0) (zd4 e):=by
 induction k generalizing ff t3 t4 with
 |zero=>rfl
 |succ k ih=>
  rw[ZQ]
  simp only[Al,IF,ih,az]
def D3:af:=tL.add 159 [.str] (cG .str iF (fun _ r K=>K [tS r] none))
theorem o90:aL Tryz.prog D3:=cJ NQ Tryz.f159 (fun R kk x0 K=>LB x0 (LA R kk kk (GD R kk K))) o89 (ek _ _ _ _) Tryz.func159 (by kernel_rfl) rfl (fun _ _ _ _ _ _ h=>h _ _) (fun _ _ _ _=>by kernel_rfl) fun R kk e x0 K=>by
 simp only[iF,LB,zsr,WZ (hF:=e),Ub,az,<-e]
def PA:Env:=e0 [(.int .i64),(.pair (.int .u64) (.pair (.int .u64) .unit))]
def tM:af:=D3.add 100 [(.int .i64),(.pair (.int .u64) (.pair (.int .u64) .unit))] (c9 (.int .i64) (.pair (.int .u64) (.pair (.int .u64) .unit)) Q6 (fun _ r K=>K [tS r.1,tI r.2] none))
theorem o91:aL Tryz.prog tM:=dm PA Tryz.f100 (fun R kk x0 x1 K=>nm x0 x1 (fun a0 a1=>K [tS a0,tI a1] none)) o90 (ek _ _ _ _) Tryz.func100 (by kernel_rfl) rfl (fun _ _ _ _ _ _ h=>h _ _) (fun _ _ _ _ _=>by kernel_rfl) fun R kk e x0 x1 K=>by
 simp only[Q6,nm,az]
def nb:Env:=b6.env (fun i=>bif Nat.beq i 5 then [0,6,7,19] else []) (fun i=>bif Nat.beq i 5 then [0,6,19] else []) [] [(.int .i64),(.int .i64)]
def Ou(a:Int)(b:Nat)(c:Int)(d:Nat)(e:(List Int)):Option R:=ax (ev nb (tM R) kk (sub [1,1,1,0,1,0,0] (cd Tryz.f201))) [0,6,7,19] [0,6,19] k ⟨[tI a]::uS 5 ([.ptr 20 (.aT (.fO b) (.int .u8) .unit) []]::[tI c]::uS 11 ([.ptr 20 (.aT (.fO d) (.int .u8) .unit) []]::uS 19 [])),nS 20 ((some ⟨(.aT .row (.int .u8) .unit),e,[]⟩)::nS 19 [])⟩ J
def zlo(a:Int)(b c:Nat)(d:(List Int)):State:=⟨[tI a]::uS 5 ([.ptr 20 (.aT (.fO b) (.int .u8) .unit) []]::uS 12 ([.ptr 20 (.aT (.fO c) (.int .u8) .unit) []]::uS 19 [])),nS 20 ((some ⟨(.aT .row (.int .u8) .unit),d,[]⟩)::nS 19 [])⟩
def z193:KX R:=(zl 0 (aM nb (tM R) kk (sub [1,1,1,1] (cd Tryz.f201)) (aK nb Tryz.f201.results.toList none K)))
theorem acw(a:Int)(b:Nat)(c:Int)(d:Nat)(e:(List Int)):Ou R kk (k+1) J a b c d e=
 Jm a b c d e (Ou R kk k J) (fun a0 a1 a2 a3=>J (.exit 0) (zlo a0 a1 a2 a3)):=by kernel_rfl
theorem XD(a:Int)(b c:Nat)(d:(List Int)):z193 R kk K (.exit 0) (zlo a b c d)=
 Ox a b c d (fun a0 a1=>K [tS a0,tB a1] none):=by kernel_rfl
theorem aar{kk:Nat}(hF:kk=ag)(QM:Int)(QO:Nat)(t7:Int)(yU:Nat)(yh:(List Int)):Ou R kk k J QM QO t7 yU yh=(AK k QM QO t7 yU yh).bind fun e=>J (.exit 0) (zlo e.1 e.2.1 e.2.2.1 e.2.2.2):=by
 induction k generalizing QM QO t7 yU yh with
 |zero=>rfl
 |succ k ih=>
  rw[acw]
  simp only[AK,Jm,ih,az]
def D4:af:=tM.add 201 [(.int .i64),(.int .i64)] (c9 (.int .i64) (.int .i64) CG (fun _ r K=>K [tS r.1,tB r.2] none))
theorem o92:aL Tryz.prog D4:=dm nb Tryz.f201 (fun R kk x0 x1 K=>Ov x0 x1 (fun a0 a1=>K [tS a0,tB a1] none) (Ou R kk kk (z193 R kk K))) o91 (ek _ _ _ _) Tryz.func201 (by kernel_rfl) rfl (fun _ _ _ _ _ _ h=>h _ _) (fun _ _ _ _ _=>by kernel_rfl) fun R kk e x0 x1 K=>by
 simp only[CG,Ov,Ox,aar (hF:=e),XD,az,<-e]
def abY:Env:=e0 [(.int .i64),(.int .i64),(.int .i64)]
def D5:af:=D4.add 161 [(.int .i64),(.int .i64),(.int .i64)] (kE (.int .i64) (.int .i64) (.int .i64) oB (fun _ r K=>K [tS r.1,tI r.2] none))
theorem o93:aL Tryz.prog D5:=kV abY Tryz.f161 (fun R kk x0 x1 x2 K=>LV x0 x1 x2 (fun a0 a1=>K [tS a0,tI a1] none)) o92 (ek _ _ _ _) Tryz.func161 (by kernel_rfl) rfl (fun _ _ _ _ _ _ h=>h _ _) (fun _ _ _ _ _ _=>by kernel_rfl) fun R kk e x0 x1 x2 K=>by
 simp only[oB,LV,az]
def Cr:Env:=e0 [(.int .i64),y9,.str]
def D6:af:=D5.add 102 [(.int .i64),y9,.str] (kE (.int .i64) y9 .str xU (fun _ r K=>K [tS r.1,tI r.2] none))
theorem RM:aL Tryz.prog D6:=kV Cr Tryz.f102 (fun R kk x0 x1 x2 K=>NI x0 x1 x2 (fun a0 a1=>K [tS a0,tI a1] none)) o93 (ek _ _ _ _) Tryz.func102 (by kernel_rfl) rfl (fun _ _ _ _ _ _ h=>h _ _) (fun _ _ _ _ _ _=>by kernel_rfl) fun R kk e x0 x1 x2 K=>by
 simp only[xU,NI,az]
def Tryz.gZ:Go.Shelf.Ren:=⟨fun|169=>103|n=>n,fun|70=>144|9=>9|0=>0|72=>147|37=>145|127=>217|3=>3|5=>5|n=>n,fun n=>n⟩
theorem Tryz.uv:Go.Proofs.Lays.n169 Go.Proofs.Tryz.prog Tryz.gZ:={
 mixed:=by kernel_rfl,
 f169:=Go.Proofs.Tryz.func103.trans (congrArg some (by kernel_rfl)),
 t0:=Go.Proofs.Tryz.underlying0,
 a0:=Go.Proofs.Tryz.isAgg0,
 z0:=Go.Proofs.Tryz.sizeOf0,
 v0:=Go.Proofs.Tryz.zeroValue0,
 t3:=Go.Proofs.Tryz.underlying3,
 a3:=Go.Proofs.Tryz.isAgg3,
 z3:=Go.Proofs.Tryz.sizeOf3,
 v3:=Go.Proofs.Tryz.zeroValue3,
 t9:=Go.Proofs.Tryz.underlying9,
 a9:=Go.Proofs.Tryz.isAgg9,
 z9:=Go.Proofs.Tryz.sizeOf9,
 v9:=Go.Proofs.Tryz.zeroValue9,
 t37:=Go.Proofs.Tryz.underlying145,
 a37:=Go.Proofs.Tryz.isAgg145,
 z37:=Go.Proofs.Tryz.sizeOf145,
 v37:=Go.Proofs.Tryz.zeroValue145,
 t70:=Go.Proofs.Tryz.underlying144,
 a70:=Go.Proofs.Tryz.isAgg144,
 z70:=Go.Proofs.Tryz.sizeOf144,
 v70:=Go.Proofs.Tryz.zeroValue144,
 t72:=Go.Proofs.Tryz.underlying147,
 a72:=Go.Proofs.Tryz.isAgg147,
 z72:=Go.Proofs.Tryz.sizeOf147,
 v72:=Go.Proofs.Tryz.zeroValue147,
 t127:=Go.Proofs.Tryz.underlying217,
 a127:=Go.Proofs.Tryz.isAgg217,
 z127:=Go.Proofs.Tryz.sizeOf217,
 v127:=Go.Proofs.Tryz.zeroValue217}
theorem Tryz.qG:Go.Proofs.Builder.Extra Go.Proofs.Tryz.prog Tryz.gZ:={
 sizeBuilder:=by kernel_rfl,
 liesBuilder:=by kernel_rfl,
 t5:=Go.Proofs.Tryz.underlying5,
 a5:=Go.Proofs.Tryz.isAgg5,
 z5:=Go.Proofs.Tryz.sizeOf5,
 v5:=Go.Proofs.Tryz.zeroValue5,
 infoByte:=by kernel_rfl,
 cellsByte:=by kernel_rfl,
 sizeByte:=by kernel_rfl,
 neB5:=by decide}
noncomputable abbrev z8x:Code:=Tryz.f103.body.getD .skip
theorem z6z:pA Tryz.prog 103:=⟨Tryz.f103,z8x,Tryz.func103,by kernel_rfl,by kernel_rfl⟩
def tN:af:=D6.add 103 [] (JB 147 5)
theorem o95:aL Tryz.prog tN:=⟨RM.mix,Nf RM.nat (acR _ _),Va RM.rD z6z Tryz.uv Tryz.qG rfl rfl rfl⟩
def Oh:Env:={b6.env (fun i=>bif Nat.beq i 11 then [2,5,7,8,50,51,52] else []) (fun i=>bif Nat.beq i 11 then [5,7] else []) [5] [aU,y5] with bl:=fun t=>bif Nat.beq t 147 then some 5 else none}
def MT(a:aq)(b c:Int)(d:ai)(e:aw)(f:ByteArray):Option R:=ax (ev Oh (tN R) kk (sub [1,1,1,1,1,1,1,1,0,1,0,0] (cd Tryz.f38))) [2,5,7,8,50,51,52] [5,7] k ⟨uS 2 ([.ptr 3 aU []]::uS 2 ([.ptr 6 (.pair (.int .i64) (.pair (.int .i64) .unit)) []]::uS 1 ([.ptr 8 (.aT (.fw 147 5) .unit .unit) []]::[.ptr 8 (.aT (.pD 97) (.aT (.fw 147 5) .unit .unit) .unit) []]::uS 41 ([.ah (.sl 90 (.pair (.int .i64) (.pair .str .unit))) a []]::[tI b]::[tI c]::uS 25 [])))),nS 3 ((some ⟨aU,d,[]⟩)::nS 2 ((some ⟨(.pair (.int .i64) (.pair (.int .i64) .unit)),e,[]⟩)::nS 1 ((some ⟨(.aT (.fw 147 5) .unit .unit),f,[[]]⟩)::nS 70 [])))⟩ J
def ze7(a:aw)(b:ByteArray):State:=⟨uS 5 ([.ptr 6 (.pair (.int .i64) (.pair (.int .i64) .unit)) []]::uS 1 ([.ptr 8 (.aT (.fw 147 5) .unit .unit) []]::uS 70 [])),nS 6 ((some ⟨(.pair (.int .i64) (.pair (.int .i64) .unit)),a,[]⟩)::nS 1 ((some ⟨(.aT (.fw 147 5) .unit .unit),b,[[]]⟩)::nS 70 []))⟩
def GJ:KX R:=(zl 0 (aM Oh (tN R) kk (sub [1,1,1,1,1,1,1,1,1] (cd Tryz.f38)) (aK Oh Tryz.f38.results.toList none K)))
theorem aah(a:aq)(b c:Int)(d:ai)(e:aw)(f:ByteArray):MT R kk (k+1) J a b c d e f=
 zug a b c d e f (MT R kk k J) (fun a0 a1=>J (.exit 0) (ze7 a0 a1)):=by kernel_rfl
theorem UK(a:aw)(b:ByteArray):GJ R kk K (.exit 0) (ze7 a b)=
 zuh a b (fun a0 a1=>K [tS a0,.ah (.pair (.int .i64) (.pair (.int .i64) .unit)) a1 []] none):=by kernel_rfl
theorem Xs{kk:Nat}(hF:kk=ag)(t50:aq)(t51 t52:Int)(df:ai)(eP:aw)(mH:ByteArray):MT R kk k J t50 t51 t52 df eP mH=(I3 k t50 t51 t52 df eP mH).bind fun e=>J (.exit 0) (ze7 e.1 e.2):=by
 induction k generalizing t50 t51 t52 df eP mH with
 |zero=>rfl
 |succ k ih=>
  rw[aah]
  simp only[I3,zug,ih,az]
def D7:af:=tN.add 38 [aU,y5] (c9 aU y5 mA (fun _ r K=>K [tS r.1,.ah (.pair (.int .i64) (.pair (.int .i64) .unit)) r.2 []] none))
theorem o96:aL Tryz.prog D7:=dm Oh Tryz.f38 (fun R kk x0 x1 K=>MU x0 x1 (fun a0 a1=>K [tS a0,.ah (.pair (.int .i64) (.pair (.int .i64) .unit)) a1 []] none) (MT R kk kk (GJ R kk K))) o95 ((ek _ _ _ _).fw 147 5 (by kernel_rfl)) Tryz.func38 (by kernel_rfl) rfl (fun _ _ _ _ _ _ h=>h _ _) (fun _ _ _ _ _=>by kernel_rfl) fun R kk e x0 x1 K=>by
 simp only[mA,MU,zuh,Xs (hF:=e),UK,az,<-e]
def ab5:Env:=e0 [y5,(.pair (.int .i64) (.pair (.int .i64) .unit)),.unit,.unit]
def tO:af:=D7.add 36 [y5,(.pair (.int .i64) (.pair (.int .i64) .unit)),.unit,.unit] (pv y5 (.pair (.int .i64) (.pair (.int .i64) .unit)) cX kK jA (fun _ r K=>K [tI r.1,tS r.2] none))
theorem o97:aL Tryz.prog tO:=sv ab5 Tryz.f36 (fun R kk x0 x1 x2 x3 K=>Me x0 x1 x2 x3 (fun a0 a1=>K [tI a0,tS a1] none)) o96 (ek _ _ _ _) Tryz.func36 (by kernel_rfl) rfl (fun _ _ _ _ _ _ h=>h _ _) (fun _ _ _ _ _ _ _=>by kernel_rfl) fun R kk e x0 x1 x2 x3 K=>by
 simp only[jA,Me,az]
def Oj:Env:=b6.env (fun i=>bif Nat.beq i 2 then [1,9,10,11] else []) (fun i=>bif Nat.beq i 2 then [4,5] else []) [] [dC,.str]
def Nb(a:ByteArray)(b:aN)(c d:Int):Option R:=ax (ev Oj (tO R) kk (sub [1,0,1,0,0] (cd Tryz.f108))) [1,9,10,11] [4,5] k ⟨uS 1 ([tS a]::uS 7 ([.ah (.sl 116 (.pair .str (.pair .str .unit))) b []]::[tI c]::[tI d]::uS 10 [])),nS 23 []⟩ J
def zej(a:ByteArray)(b:Bool):State:=⟨uS 4 ([tS a]::[tB b]::uS 16 []),nS 23 []⟩
def zek:State:=⟨uS 22 [],nS 23 []⟩
def zv0:KX R:=(zl 0 (aM Oj (tO R) kk (sub [1,1] (cd Tryz.f108)) (aK Oj Tryz.f108.results.toList none K)))
theorem aao(a:ByteArray)(b:aN)(c d:Int):Nb R kk (k+1) J a b c d=
 zv1 a b c d (fun a0 a1=>J .ret (zej a0 a1)) (Nb R kk k J) (J (.exit 0) (zek)):=by kernel_rfl
theorem UX(a:ByteArray)(b:Bool):zv0 R kk K .ret (zej a b)=
 zv2 a b (fun a0 a1=>K [tS a0,tB a1] none):=by kernel_rfl
theorem UY:zv0 R kk K (.exit 0) (zek)=
 zv3 (fun a0 a1=>K [tS a0,tB a1] none):=by kernel_rfl
theorem Xz{kk:Nat}(hF:kk=ag)(R6:ByteArray)(t9:aN)(t10 t11:Int):Nb R kk k J R6 t9 t10 t11=(I8 k R6 t9 t10 t11).bind fun e=>(Sum.elim (fun(we:iO)=>J .ret (zej we.1 we.2)) (fun(we:Unit)=>J (.exit 0) (zek)) e):=by
 induction k generalizing R6 t9 t10 t11 with
 |zero=>rfl
 |succ k ih=>
  rw[aao]
  simp only[I8,zv1,ih,az]
def tP:af:=tO.add 108 [dC,.str] (c9 dC .str qt (fun _ r K=>K [tS r.1,tB r.2] none))
theorem o98:aL Tryz.prog tP:=dm Oj Tryz.f108 (fun R kk x0 x1 K=>Nc x0 x1 (Nb R kk kk (zv0 R kk K))) o97 (ek _ _ _ _) Tryz.func108 (by kernel_rfl) rfl (fun _ _ _ _ _ _ h=>h _ _) (fun _ _ _ _ _=>by kernel_rfl) fun R kk e x0 x1 K=>by
 simp only[qt,Nc,zv2,zv3,Xz (hF:=e),UX,UY,az,<-e]
def Oi:Env:={b6.env (fun i=>bif Nat.beq i 2 then [1,4,9,10,11] else []) (fun i=>bif Nat.beq i 2 then [4,5] else []) [4] [dC,(.int .i64)] with ro:=true}
def M9(a:Int)(b:cc)(c d:Int)(e:bB):Option R:=ax (ev Oi (tP R) kk (sub [1,0,1,0,0] (cd Tryz.f109))) [1,4,9,10,11] [4,5] k ⟨uS 1 ([tI a]::uS 2 ([.ptr 5 fo []]::uS 4 ([.ah (.sl 59 fo) b []]::[tI c]::[tI d]::uS 10 []))),nS 5 ((some ⟨fo,e,[[4]]⟩)::nS 17 [])⟩ J
def zeh(a:Bool)(b:bB):State:=⟨uS 4 ([.ptr 5 fo []]::[tB a]::uS 16 []),nS 5 ((some ⟨fo,b,[]⟩)::nS 17 [])⟩
def zei(a:bB):State:=⟨uS 4 ([.ptr 5 fo []]::uS 17 []),nS 5 ((some ⟨fo,a,[[4]]⟩)::nS 17 [])⟩
def zuw:KX R:=(zl 0 (aM Oi (tP R) kk (sub [1,1] (cd Tryz.f109)) (aK Oi Tryz.f109.results.toList none K)))
theorem aan(a:Int)(b:cc)(c d:Int)(e:bB):M9 R kk (k+1) J a b c d e=
 zux a b c d e (fun a0 a1=>J .ret (zeh a0 a1)) (M9 R kk k J) (fun a0=>J (.exit 0) (zei a0)):=by kernel_rfl
theorem UU(a:Bool)(b:bB):zuw R kk K .ret (zeh a b)=
 zuy a b (fun a0 a1=>K [.ah fo a0 [],tB a1] none):=by kernel_rfl
theorem UW(a:bB):zuw R kk K (.exit 0) (zei a)=
 zuz a (fun a0 a1=>K [.ah fo a0 [],tB a1] none):=by kernel_rfl
theorem Xy{kk:Nat}(hF:kk=ag)(dX:Int)(t9:cc)(t10 t11:Int)(cC:bB):M9 R kk k J dX t9 t10 t11 cC=(I7 k dX t9 t10 t11 cC).bind fun e=>(Sum.elim (fun(we:(Bool×bB))=>J .ret (zeh we.1 we.2)) (fun(we:bB)=>J (.exit 0) (zei we)) e):=by
 induction k generalizing dX t9 t10 t11 cC with
 |zero=>rfl
 |succ k ih=>
  rw[aan]
  simp only[I7,zux,ih,az]
def D8:af:=tP.add 109 [dC,(.int .i64)] (c9 dC (.int .i64) mB (fun _ r K=>K [.ah fo r.1 [],tB r.2] none))
theorem RN:aL Tryz.prog D8:=dm Oi Tryz.f109 (fun R kk x0 x1 K=>Na x0 x1 (M9 R kk kk (zuw R kk K))) o98 ((ek _ _ _ _).ro _) Tryz.func109 (by kernel_rfl) rfl (fun _ _ _ _ _ _ h=>h _ _) (fun _ _ _ _ _=>by kernel_rfl) fun R kk e x0 x1 K=>by
 simp only[mB,Na,zuy,zuz,Xy (hF:=e),UU,UW,az,<-e]
def Tryz.fa:Go.Shelf.Ren:=⟨fun|105=>206|212=>216|99=>217|165=>218|166=>98|170=>219|169=>103|263=>230|264=>231|206=>232|240=>152|241=>233|276=>198|277=>238|n=>n,fun|9=>9|3=>3|4=>4|20=>20|0=>0|46=>248|109=>255|5=>5|72=>147|76=>150|51=>267|146=>268|53=>101|148=>211|70=>144|37=>145|75=>149|127=>217|164=>246|80=>158|n=>n,fun n=>n⟩
theorem Tryz.dj:Go.Proofs.Lays.n105 Go.Proofs.Tryz.prog Tryz.fa:={
 mixed:=by kernel_rfl,
 f99:=Go.Proofs.Tryz.func217.trans (congrArg some (by kernel_rfl)),
 f105:=Go.Proofs.Tryz.func206.trans (congrArg some (by kernel_rfl)),
 f165:=Go.Proofs.Tryz.func218.trans (congrArg some (by kernel_rfl)),
 f166:=Go.Proofs.Tryz.func98.trans (congrArg some (by kernel_rfl)),
 f169:=Go.Proofs.Tryz.func103.trans (congrArg some (by kernel_rfl)),
 f170:=Go.Proofs.Tryz.func219.trans (congrArg some (by kernel_rfl)),
 f206:=Go.Proofs.Tryz.func232.trans (congrArg some (by kernel_rfl)),
 f212:=Go.Proofs.Tryz.func216.trans (congrArg some (by kernel_rfl)),
 f240:=Go.Proofs.Tryz.func152.trans (congrArg some (by kernel_rfl)),
 f241:=Go.Proofs.Tryz.func233.trans (congrArg some (by kernel_rfl)),
 f263:=Go.Proofs.Tryz.func230.trans (congrArg some (by kernel_rfl)),
 f264:=Go.Proofs.Tryz.func231.trans (congrArg some (by kernel_rfl)),
 f276:=Go.Proofs.Tryz.func198.trans (congrArg some (by kernel_rfl)),
 f277:=Go.Proofs.Tryz.func238.trans (congrArg some (by kernel_rfl)),
 t0:=Go.Proofs.Tryz.underlying0,
 a0:=Go.Proofs.Tryz.isAgg0,
 z0:=Go.Proofs.Tryz.sizeOf0,
 v0:=Go.Proofs.Tryz.zeroValue0,
 t3:=Go.Proofs.Tryz.underlying3,
 a3:=Go.Proofs.Tryz.isAgg3,
 z3:=Go.Proofs.Tryz.sizeOf3,
 v3:=Go.Proofs.Tryz.zeroValue3,
 t4:=Go.Proofs.Tryz.underlying4,
 a4:=Go.Proofs.Tryz.isAgg4,
 z4:=Go.Proofs.Tryz.sizeOf4,
 v4:=Go.Proofs.Tryz.zeroValue4,
 t5:=Go.Proofs.Tryz.underlying5,
 a5:=Go.Proofs.Tryz.isAgg5,
 z5:=Go.Proofs.Tryz.sizeOf5,
 v5:=Go.Proofs.Tryz.zeroValue5,
 t9:=Go.Proofs.Tryz.underlying9,
 a9:=Go.Proofs.Tryz.isAgg9,
 z9:=Go.Proofs.Tryz.sizeOf9,
 v9:=Go.Proofs.Tryz.zeroValue9,
 t20:=Go.Proofs.Tryz.underlying20,
 a20:=Go.Proofs.Tryz.isAgg20,
 z20:=Go.Proofs.Tryz.sizeOf20,
 v20:=Go.Proofs.Tryz.zeroValue20,
 t37:=Go.Proofs.Tryz.underlying145,
 a37:=Go.Proofs.Tryz.isAgg145,
 z37:=Go.Proofs.Tryz.sizeOf145,
 v37:=Go.Proofs.Tryz.zeroValue145,
 t46:=Go.Proofs.Tryz.underlying248,
 a46:=Go.Proofs.Tryz.isAgg248,
 z46:=Go.Proofs.Tryz.sizeOf248,
 v46:=Go.Proofs.Tryz.zeroValue248,
 t51:=Go.Proofs.Tryz.underlying267,
 a51:=Go.Proofs.Tryz.isAgg267,
 z51:=Go.Proofs.Tryz.sizeOf267,
 v51:=Go.Proofs.Tryz.zeroValue267,
 t53:=Go.Proofs.Tryz.underlying101,
 a53:=Go.Proofs.Tryz.isAgg101,
 z53:=Go.Proofs.Tryz.sizeOf101,
 v53:=Go.Proofs.Tryz.zeroValue101,
 t70:=Go.Proofs.Tryz.underlying144,
 a70:=Go.Proofs.Tryz.isAgg144,
 z70:=Go.Proofs.Tryz.sizeOf144,
 v70:=Go.Proofs.Tryz.zeroValue144,
 t72:=Go.Proofs.Tryz.underlying147,
 a72:=Go.Proofs.Tryz.isAgg147,
 z72:=Go.Proofs.Tryz.sizeOf147,
 v72:=Go.Proofs.Tryz.zeroValue147,
 t75:=Go.Proofs.Tryz.underlying149,
 a75:=Go.Proofs.Tryz.isAgg149,
 z75:=Go.Proofs.Tryz.sizeOf149,
 v75:=Go.Proofs.Tryz.zeroValue149,
 t76:=Go.Proofs.Tryz.underlying150,
 a76:=Go.Proofs.Tryz.isAgg150,
 z76:=Go.Proofs.Tryz.sizeOf150,
 v76:=Go.Proofs.Tryz.zeroValue150,
 t109:=Go.Proofs.Tryz.underlying255,
 a109:=Go.Proofs.Tryz.isAgg255,
 z109:=Go.Proofs.Tryz.sizeOf255,
 v109:=Go.Proofs.Tryz.zeroValue255,
 t127:=Go.Proofs.Tryz.underlying217,
 a127:=Go.Proofs.Tryz.isAgg217,
 z127:=Go.Proofs.Tryz.sizeOf217,
 v127:=Go.Proofs.Tryz.zeroValue217,
 t146:=Go.Proofs.Tryz.underlying268,
 a146:=Go.Proofs.Tryz.isAgg268,
 z146:=Go.Proofs.Tryz.sizeOf268,
 v146:=Go.Proofs.Tryz.zeroValue268,
 t148:=Go.Proofs.Tryz.underlying211,
 a148:=Go.Proofs.Tryz.isAgg211,
 z148:=Go.Proofs.Tryz.sizeOf211,
 v148:=Go.Proofs.Tryz.zeroValue211,
 t164:=Go.Proofs.Tryz.underlying246,
 a164:=Go.Proofs.Tryz.isAgg246,
 z164:=Go.Proofs.Tryz.sizeOf246,
 v164:=Go.Proofs.Tryz.zeroValue246}
theorem Tryz.lA:Go.Proofs.Builder.Extra Go.Proofs.Tryz.prog Tryz.fa:={
 sizeBuilder:=by kernel_rfl,
 liesBuilder:=by kernel_rfl,
 t5:=Tryz.dj.t5,
 a5:=Tryz.dj.a5,
 z5:=Tryz.dj.z5,
 v5:=Tryz.dj.v5,
 infoByte:=by kernel_rfl,
 cellsByte:=by kernel_rfl,
 sizeByte:=by kernel_rfl,
 neB5:=by decide}
noncomputable abbrev zn1:Code:=Tryz.f206.body.getD .skip
theorem zgc:pA Tryz.prog 206:=⟨Tryz.f206,zn1,Tryz.func206,by kernel_rfl,by kernel_rfl⟩
def z8y:Pure:=fun R l b K=>fc b (ga .str (.int .i64) l fun x0 x1=>(strings_Repeat x0 x1).bind fun r=>K [.ah .str r []] none)
theorem zn2:z8y.Nat:=fun R S l b F G K h=>Ae (zw2 fun _ _=>ss fun _=>h _ _)
def nE:af:=D8.add 206 [] z8y
theorem QQ:aL Tryz.prog nE:=⟨RN.mix,Nf RN.nat zn2,YT RN.rD zgc strings_Repeat (zc9 Tryz.dj Tryz.lA (by kernel_rfl))⟩
def Oc:Env:=b6.env (fun i=>bif Nat.beq i 1 then [0,1] else []) (fun i=>bif Nat.beq i 1 then [0] else []) [] [.str,(.int .u8)]
def MJ(a:ByteArray)(b:Int):Option R:=ax (ev Oc (nE R) kk (sub [1,0,0,0] (cd Tryz.f221))) [0,1] [0] k ⟨[tS a]::[tU b]::uS 21 [],nS 24 []⟩ J
def ze3(a:ByteArray):State:=⟨[tS a]::uS 22 [],nS 24 []⟩
def z143:KX R:=(zl 0 (aM Oc (nE R) kk (sub [1,1] (cd Tryz.f221)) (aK Oc Tryz.f221.results.toList none K)))
theorem aae(a:ByteArray)(b:Int):MJ R kk (k+1) J a b=
 ML a b (MJ R kk k J) (fun a0=>J (.exit 0) (ze3 a0)):=by kernel_rfl
theorem UH(a:ByteArray):z143 R kk K (.exit 0) (ze3 a)=
 MN a (fun a0=>K [tS a0] none):=by kernel_rfl
theorem Xn{kk:Nat}(hF:kk=ag)(ff:ByteArray)(yl:Int):MJ R kk k J ff yl=(BH k ff yl).bind fun e=>J (.exit 0) (ze3 e):=by
 induction k generalizing ff yl with
 |zero=>rfl
 |succ k ih=>
  rw[aae]
  simp only[BH,ML,ih,az]
def nF:af:=nE.add 221 [.str,(.int .u8)] (c9 .str (.int .u8) sX (fun _ r K=>K [tS r] none))
theorem QR:aL Tryz.prog nF:=dm Oc Tryz.f221 (fun R kk x0 x1 K=>MK x0 x1 (MJ R kk kk (z143 R kk K))) QQ (ek _ _ _ _) Tryz.func221 (by kernel_rfl) rfl (fun _ _ _ _ _ _ h=>h _ _) (fun _ _ _ _ _=>by kernel_rfl) fun R kk e x0 x1 K=>by
 simp only[sX,MK,MN,Xn (hF:=e),UH,az,<-e]
def Ob:Env:=b6.env (fun i=>bif Nat.beq i 1 then [0,1] else []) (fun i=>bif Nat.beq i 1 then [0] else []) [] [.str,(.int .u8)]
def MF(a:ByteArray)(b:Int):Option R:=ax (ev Ob (nF R) kk (sub [1,0,0,0] (cd Tryz.f220))) [0,1] [0] k ⟨[tS a]::[tU b]::uS 15 [],nS 18 []⟩ J
def ze2(a:ByteArray):State:=⟨[tS a]::uS 16 [],nS 18 []⟩
def GI:KX R:=(zl 0 (aM Ob (nF R) kk (sub [1,1] (cd Tryz.f220)) (aK Ob Tryz.f220.results.toList none K)))
theorem aad(a:ByteArray)(b:Int):MF R kk (k+1) J a b=
 MH a b (MF R kk k J) (fun a0=>J (.exit 0) (ze2 a0)):=by kernel_rfl
theorem UG(a:ByteArray):GI R kk K (.exit 0) (ze2 a)=
 MI a (fun a0=>K [tS a0] none):=by kernel_rfl
theorem Xm{kk:Nat}(hF:kk=ag)(ff:ByteArray)(yl:Int):MF R kk k J ff yl=(BG k ff yl).bind fun e=>J (.exit 0) (ze2 e):=by
 induction k generalizing ff yl with
 |zero=>rfl
 |succ k ih=>
  rw[aad]
  simp only[BG,MH,ih,az]
def vK:af:=nF.add 220 [.str,(.int .u8)] (c9 .str (.int .u8) sW (fun _ r K=>K [tS r] none))
theorem QS:aL Tryz.prog vK:=dm Ob Tryz.f220 (fun R kk x0 x1 K=>MG x0 x1 (MF R kk kk (GI R kk K))) QR (ek _ _ _ _) Tryz.func220 (by kernel_rfl) rfl (fun _ _ _ _ _ _ h=>h _ _) (fun _ _ _ _ _=>by kernel_rfl) fun R kk e x0 x1 K=>by
 simp only[sW,MG,MI,Xm (hF:=e),UG,az,<-e]
def ack:Env:=e0 [.str,.str]
def vL:af:=vK.add 207 [.str,.str] (c9 .str .str ql (fun _ r K=>K [tS r] none))
theorem QT:aL Tryz.prog vL:=dm ack Tryz.f207 (fun R kk x0 x1 K=>ME x0 x1 (fun a0=>K [tS a0] none)) QS (ek _ _ _ _) Tryz.func207 (by kernel_rfl) rfl (fun _ _ _ _ _ _ h=>h _ _) (fun _ _ _ _ _=>by kernel_rfl) fun R kk e x0 x1 K=>by
 simp only[ql,ME,az]
def CF:Env:=e0 [.str,(.int .i64)]
def nG:af:=vL.add 171 [.str,(.int .i64)] (c9 .str (.int .i64) CE (fun _ r K=>K [tS r.1,tB r.2] none))
theorem QU:aL Tryz.prog nG:=dm CF Tryz.f171 (fun R kk x0 x1 K=>Ot x0 x1 (fun a0 a1=>K [tS a0,tB a1] none)) QT (ek _ _ _ _) Tryz.func171 (by kernel_rfl) rfl (fun _ _ _ _ _ _ h=>h _ _) (fun _ _ _ _ _=>by kernel_rfl) fun R kk e x0 x1 K=>by
 simp only[CE,Ot,az]
def m6:Env:=b6.env (fun i=>bif Nat.beq i 2 then [1,8,9,10] else []) (fun i=>bif Nat.beq i 2 then [4,5] else []) [] [(.sl 116 (.pair .str (.pair .str .unit))),.str]
def N2(a:ByteArray)(b:aN)(c d:Int):Option R:=ax (ev m6 (nG R) kk (sub [1,0,1,0,0] (cd Tryz.f172))) [1,8,9,10] [4,5] k ⟨uS 1 ([tS a]::uS 6 ([.ah (.sl 116 (.pair .str (.pair .str .unit))) b []]::[tI c]::[tI d]::uS 10 [])),nS 22 []⟩ J
def zlh(a:ByteArray)(b:Bool):State:=⟨uS 4 ([tS a]::[tB b]::uS 15 []),nS 22 []⟩
def zli:State:=⟨uS 21 [],nS 22 []⟩
def zyw:KX R:=(zl 0 (aM m6 (nG R) kk (sub [1,1] (cd Tryz.f172)) (aK m6 Tryz.f172.results.toList none K)))
theorem acb(a:ByteArray)(b:aN)(c d:Int):N2 R kk (k+1) J a b c d=
 zyx a b c d (fun a0 a1=>J .ret (zlh a0 a1)) (N2 R kk k J) (J (.exit 0) (zli)):=by kernel_rfl
theorem Xd(a:ByteArray)(b:Bool):zyw R kk K .ret (zlh a b)=
 zyy a b (fun a0 a1=>K [tS a0,tB a1] none):=by kernel_rfl
theorem Xe:zyw R kk K (.exit 0) (zli)=
 zyz (fun a0 a1=>K [tS a0,tB a1] none):=by kernel_rfl
theorem Z3{kk:Nat}(hF:kk=ag)(mU:ByteArray)(t8:aN)(t9 t10:Int):N2 R kk k J mU t8 t9 t10=(Jk k mU t8 t9 t10).bind fun e=>(Sum.elim (fun(we:iO)=>J .ret (zlh we.1 we.2)) (fun(we:Unit)=>J (.exit 0) (zli)) e):=by
 induction k generalizing mU t8 t9 t10 with
 |zero=>rfl
 |succ k ih=>
  rw[acb]
  simp only[Jk,zyx,ih,az]
def vM:af:=nG.add 172 [(.sl 116 (.pair .str (.pair .str .unit))),.str] (c9 (.sl 116 (.pair .str (.pair .str .unit))) .str CC (fun _ r K=>K [tS r.1,tB r.2] none))
theorem QV:aL Tryz.prog vM:=dm m6 Tryz.f172 (fun R kk x0 x1 K=>N3 x0 x1 (N2 R kk kk (zyw R kk K))) QU (ek _ _ _ _) Tryz.func172 (by kernel_rfl) rfl (fun _ _ _ _ _ _ h=>h _ _) (fun _ _ _ _ _=>by kernel_rfl) fun R kk e x0 x1 K=>by
 simp only[CC,N3,zyy,zyz,Z3 (hF:=e),Xd,Xe,az,<-e]
def ab7:Env:=b6.env (fun _=>[]) (fun _=>[]) [6] [fo,aU,.str]
def jR:af:=vM.add 110 [fo,aU,.str] (kE fo aU .str mw (fun _ r K=>K [.ah (.pair (.int .i64) (.pair .str .unit)) r.1 [],tI r.2] none))
theorem QW:aL Tryz.prog jR:=kV ab7 Tryz.f110 (fun R kk x0 x1 x2 K=>Mf x0 x1 x2 (fun a0 a1=>K [.ah (.pair (.int .i64) (.pair .str .unit)) a0 [],tI a1] none)) QV (ek _ _ _ _) Tryz.func110 (by kernel_rfl) rfl (fun _ _ _ _ _ _ h=>h _ _) (fun _ _ _ _ _ _=>by kernel_rfl) fun R kk e x0 x1 x2 K=>by
 simp only[mw,Mf,az]
def AJ:Env:={{b6.env (fun i=>bif Nat.beq i 12 then [4,6,7,8,9,16,59,60,61] else bif Nat.beq i 18 then [4,6,8,9,16,76,77,78] else []) (fun i=>bif Nat.beq i 12 then [4,6,7,8,9,16] else bif Nat.beq i 18 then [8,9,16] else []) [8,9] [dC,aU,aU,y5] with dr:=fun i=>bif Nat.beq i 12 then [17] else []} with ro:=true}
def M5(a:cc)(b c:Int)(d:aE)(e:ai)(f g:ae)(h:aw)(i:ae):Option R:=ax (ev AJ (jR R) kk (sub [1,1,1,1,1,1,0,1,0,0] (cd Tryz.f40))) [4,6,7,8,9,16,59,60,61] [4,6,7,8,9,16] k ⟨uS 4 ([.ptr 5 dC []]::uS 1 ([.ptr 7 aU []]::[.ptr 8 y5 []]::[.ptr 9 y5 []]::[.ptr 10 (.pair (.int .i64) (.pair (.int .i64) .unit)) []]::uS 6 ([.ptr 17 y5 []]::uS 42 ([.ah (.sl 59 fo) a []]::[tI b]::[tI c]::uS 60 [])))),nS 5 ((some ⟨dC,d,[]⟩)::nS 1 ((some ⟨aU,e,[]⟩)::(some ⟨y5,f,[]⟩)::(some ⟨y5,g,[[1]]⟩)::(some ⟨(.pair (.int .i64) (.pair (.int .i64) .unit)),h,[]⟩)::nS 6 ((some ⟨y5,i,[]⟩)::nS 105 [])))⟩ J
def zee(a:aE)(b:ai)(c d:ae)(e:aw)(f:ae):State:=⟨uS 4 ([.ptr 5 dC []]::uS 1 ([.ptr 7 aU []]::[.ptr 8 y5 []]::[.ptr 9 y5 []]::[.ptr 10 (.pair (.int .i64) (.pair (.int .i64) .unit)) []]::uS 6 ([.ptr 17 y5 []]::uS 105 []))),nS 5 ((some ⟨dC,a,[]⟩)::nS 1 ((some ⟨aU,b,[]⟩)::(some ⟨y5,c,[]⟩)::(some ⟨y5,d,[[1]]⟩)::(some ⟨(.pair (.int .i64) (.pair (.int .i64) .unit)),e,[]⟩)::nS 6 ((some ⟨y5,f,[]⟩)::nS 105 [])))⟩
def z145:KX R:=(zl 0 (aM AJ (jR R) kk (sub [1,1,1,1,1,1,1] (cd Tryz.f40)) (aK AJ Tryz.f40.results.toList none K)))
def M6(a:aq)(b c:Int)(d:aE)(e:ai)(f:ae)(g:aw)(h:ae):Option R:=ax (ev AJ (jR R) kk (sub [1,1,1,1,1,1,1,0,1,0,0] (cd Tryz.f40))) [4,6,8,9,16,76,77,78] [8,9,16] k ⟨uS 4 ([.ptr 5 dC []]::uS 1 ([.ptr 7 aU []]::uS 1 ([.ptr 9 y5 []]::[.ptr 10 (.pair (.int .i64) (.pair (.int .i64) .unit)) []]::uS 6 ([.ptr 17 y5 []]::uS 59 ([.ah (.sl 90 (.pair (.int .i64) (.pair .str .unit))) a []]::[tI b]::[tI c]::uS 43 []))))),nS 5 ((some ⟨dC,d,[]⟩)::nS 1 ((some ⟨aU,e,[]⟩)::nS 1 ((some ⟨y5,f,[[1]]⟩)::(some ⟨(.pair (.int .i64) (.pair (.int .i64) .unit)),g,[]⟩)::nS 6 ((some ⟨y5,h,[]⟩)::nS 105 []))))⟩ J
def zef(a:ae)(b:aw)(c:ae):State:=⟨uS 8 ([.ptr 9 y5 []]::[.ptr 10 (.pair (.int .i64) (.pair (.int .i64) .unit)) []]::uS 6 ([.ptr 17 y5 []]::uS 105 [])),nS 9 ((some ⟨y5,a,[[1]]⟩)::(some ⟨(.pair (.int .i64) (.pair (.int .i64) .unit)),b,[]⟩)::nS 6 ((some ⟨y5,c,[]⟩)::nS 105 []))⟩
def zeg(a:ae)(b:aw)(c:ae):State:=⟨uS 8 ([.ptr 9 y5 []]::[.ptr 10 (.pair (.int .i64) (.pair (.int .i64) .unit)) []]::uS 6 ([.ptr 17 y5 []]::uS 105 [])),nS 9 ((some ⟨y5,a,[[1]]⟩)::(some ⟨(.pair (.int .i64) (.pair (.int .i64) .unit)),b,[]⟩)::nS 6 ((some ⟨y5,c,[]⟩)::nS 105 []))⟩
def zur:KX R:=(zl 2 (aM AJ (jR R) kk (sub [1,1,1,1,1,1,1,1] (cd Tryz.f40)) (aK AJ Tryz.f40.results.toList none K)))
theorem aal(a:cc)(b c:Int)(d:aE)(e:ai)(f g:ae)(h:aw)(i:ae):M5 R kk (k+1) J a b c d e f g h i=
 zus a b c d e f g h i (M5 R kk k J) (fun a0 a1 a2 a3 a4 a5=>J (.exit 0) (zee a0 a1 a2 a3 a4 a5)):=by kernel_rfl
theorem UR(a:aE)(b:ai)(c d:ae)(e:aw)(f:ae):z145 R kk K (.exit 0) (zee a b c d e f)=
 M8 a b c d e f (M6 R kk kk (zur R kk K)):=by kernel_rfl
theorem aam(a:aq)(b c:Int)(d:aE)(e:ai)(f:ae)(g:aw)(h:ae):M6 R kk (k+1) J a b c d e f g h=
 zut a b c d e f g h (fun a0 a1 a2=>J .ret (zef a0 a1 a2)) (M6 R kk k J) (fun a0 a1 a2=>J (.exit 2) (zeg a0 a1 a2)):=by kernel_rfl
theorem US(a:ae)(b:aw)(c:ae):zur R kk K .ret (zef a b c)=
 zuu a b c (fun a0 a1=>K [.ah y5 a0 [],.ah (.pair (.int .i64) (.pair (.int .i64) .unit)) a1 []] none):=by kernel_rfl
theorem UT(a:ae)(b:aw)(c:ae):zur R kk K (.exit 2) (zeg a b c)=
 zuv a b c (fun a0 a1=>K [.ah y5 a0 [],.ah (.pair (.int .i64) (.pair (.int .i64) .unit)) a1 []] none):=by kernel_rfl
theorem Xw{kk:Nat}(hF:kk=ag)(t59:cc)(t60 t61:Int)(cC:aE)(gH:ai)(mH yj:ae)(yk:aw)(iQ:ae):M5 R kk k J t59 t60 t61 cC gH mH yj yk iQ=(I5 k t59 t60 t61 cC gH mH yj yk iQ).bind fun e=>J (.exit 0) (zee e.1 e.2.1 e.2.2.1 e.2.2.2.1 e.2.2.2.2.1 e.2.2.2.2.2):=by
 induction k generalizing t59 t60 t61 cC gH mH yj yk iQ with
 |zero=>rfl
 |succ k ih=>
  rw[aal]
  simp only[I5,zus,ih,az]
theorem Xx{kk:Nat}(hF:kk=ag)(t76:aq)(t77 t78:Int)(cC:aE)(gH:ai)(yj:ae)(yk:aw)(iQ:ae):M6 R kk k J t76 t77 t78 cC gH yj yk iQ=(I6 k t76 t77 t78 cC gH yj yk iQ).bind fun e=>(Sum.elim (fun(we:oM)=>J .ret (zef we.1 we.2.1 we.2.2)) (fun(we:oM)=>J (.exit 2) (zeg we.1 we.2.1 we.2.2)) e):=by
 induction k generalizing t76 t77 t78 cC gH yj yk iQ with
 |zero=>rfl
 |succ k ih=>
  rw[aam]
  simp only[I6,zut,ih,az]
def vN:af:=jR.add 40 [dC,aU,aU,y5] (yY dC aU aU y5 oH (fun _ r K=>K [.ah y5 r.1 [],.ah (.pair (.int .i64) (.pair (.int .i64) .unit)) r.2 []] none))
theorem QX:aL Tryz.prog vN:=Bd AJ Tryz.f40 (fun R kk x0 x1 x2 x3 K=>M7 x0 x1 x2 x3 (fun a0 a1=>K [.ah y5 a0 [],.ah (.pair (.int .i64) (.pair (.int .i64) .unit)) a1 []] none) (M5 R kk kk (z145 R kk K))) QW (((ek _ _ _ _).dr _).ro _) Tryz.func40 (by kernel_rfl) rfl (fun _ _ _ _ _ _ h=>h _ _) (fun _ _ _ _ _ _ _=>by kernel_rfl) fun R kk e x0 x1 x2 x3 K=>by
 simp only[oH,M7,M8,zuu,zuv,Xw (hF:=e),Xx (hF:=e),UR,US,UT,az,<-e]
def ab4:Env:={e0 [kK,(.int .i64),.str] with fr:=fun i=>bif Nat.beq i 5 then [12,4] else []}
def vO:af:=vN.add 14 [kK,(.int .i64),.str] (kE kK (.int .i64) .str jz (fun _ r K=>K [tI r.1,tS r.2] none))
theorem QY:aL Tryz.prog vO:=kV ab4 Tryz.f14 (fun R kk x0 x1 x2 K=>Md x0 x1 x2 (fun a0 a1=>K [tI a0,tS a1] none)) QX ((ek _ _ _ _).fr _) Tryz.func14 (by kernel_rfl) rfl (fun _ _ _ _ _ _ h=>h _ _) (fun _ _ _ _ _ _=>by kernel_rfl) fun R kk e x0 x1 x2 K=>by
 simp only[jz,Md,az]
def CT:Env:=e0 []
def nH:af:=vO.add 9 [] (yX xZ (fun _ r K=>K [tB r] none))
theorem QZ:aL Tryz.prog nH:=Bc CT Tryz.f9 (fun R kk K=>zzb (fun a0=>K [tB a0] none)) QY (ek _ _ _ _) Tryz.func9 (by kernel_rfl) rfl (fun _ _ _ _ _ _ h=>h _ _) (fun _ _ _=>by kernel_rfl) fun R kk e K=>by
 simp only[xZ,zzb,az]
def NK:Env:=b6.env (fun i=>bif Nat.beq i 4 then [1,3] else []) (fun i=>bif Nat.beq i 4 then [2] else []) [] [cX]
def Lp(a:Int)(b:aB):Option R:=ax (ev NK (nH R) kk (sub [1,1,0,1,0,0] (cd Tryz.f28))) [1,3] [2] k ⟨uS 1 ([.ptr 2 cX []]::uS 1 ([tI a]::uS 32 [])),nS 2 ((some ⟨cX,b,[]⟩)::nS 34 [])⟩ J
def zcw(a:Bool):State:=⟨uS 2 ([tB a]::uS 33 []),nS 37 []⟩
def zcx:State:=⟨uS 36 [],nS 37 []⟩
def zsc:KX R:=(zl 0 (aM NK (nH R) kk (sub [1,1,1] (cd Tryz.f28)) (aK NK Tryz.f28.results.toList none K)))
theorem ZL(a:Int)(b:aB):Lp R kk (k+1) J a b=
 zsd a b (fun a0=>J .ret (zcw a0)) (Lp R kk k J) (J (.exit 0) (zcx)):=by kernel_rfl
theorem T5(a:Bool):zsc R kk K .ret (zcw a)=
 zse a (fun a0=>K [tB a0] none):=by kernel_rfl
theorem T6:zsc R kk K (.exit 0) (zcx)=
 zsf (fun a0=>K [tB a0] none):=by kernel_rfl
end
end Go.Proofs.YtkgpjibbdpikcaaGreatDoor

namespace Go.Proofs.YtkgpjibbdpikcaaGreatDoor
noncomputable section
open Go Go.Ref bn
variable (R:Type) (kk k:Nat) (K:KF R) (J:KX R)
theorem WT{kk:Nat}(hF:kk=ag)(t3:Int)(eO:aB):Lp R kk k J t3 eO=(ID k t3 eO).bind fun e=>(Sum.elim (fun(we:Bool)=>J .ret (zcw we)) (fun(we:Unit)=>J (.exit 0) (zcx)) e):=by
 induction k generalizing t3 eO with
 |zero=>rfl
 |succ k ih=>
  rw[ZL]
  simp only[ID,zsd,ih,az]
def nI:af:=nH.add 28 [cX] (cG cX lf (fun _ r K=>K [tB r] none))
theorem Rb:aL Tryz.prog nI:=cJ NK Tryz.f28 (fun R kk x0 K=>Lq x0 (fun a0=>K [tB a0] none) (Lp R kk kk (zsc R kk K))) QZ (ek _ _ _ _) Tryz.func28 (by kernel_rfl) rfl (fun _ _ _ _ _ _ h=>h _ _) (fun _ _ _ _=>by kernel_rfl) fun R kk e x0 K=>by
 simp only[lf,Lq,zse,zsf,WT (hF:=e),T5,T6,az,<-e]
def NH:Env:=b6.env (fun i=>bif Nat.beq i 4 then [1,3] else []) (fun i=>bif Nat.beq i 4 then [2] else []) [] [fo]
def Lj(a:Int)(b:bB):Option R:=ax (ev NH (nI R) kk (sub [1,1,0,1,0,0] (cd Tryz.f71))) [1,3] [2] k ⟨uS 1 ([.ptr 2 fo []]::uS 1 ([tI a]::uS 35 [])),nS 2 ((some ⟨fo,b,[]⟩)::nS 37 [])⟩ J
def zcq(a:Bool):State:=⟨uS 2 ([tB a]::uS 36 []),nS 40 []⟩
def zcr:State:=⟨uS 39 [],nS 40 []⟩
def zs3:KX R:=(zl 0 (aM NH (nI R) kk (sub [1,1,1] (cd Tryz.f71)) (aK NH Tryz.f71.results.toList none K)))
theorem ZI(a:Int)(b:bB):Lj R kk (k+1) J a b=
 IA a b (fun a0=>J .ret (zcq a0)) (Lj R kk k J) (J (.exit 0) (zcr)):=by kernel_rfl
theorem TY(a:Bool):zs3 R kk K .ret (zcq a)=
 zs4 a (fun a0=>K [tB a0] none):=by kernel_rfl
theorem TZ:zs3 R kk K (.exit 0) (zcr)=
 zs5 (fun a0=>K [tB a0] none):=by kernel_rfl
theorem WQ{kk:Nat}(hF:kk=ag)(t3:Int)(eO:bB):Lj R kk k J t3 eO=(uY k t3 eO).bind fun e=>(Sum.elim (fun(we:Bool)=>J .ret (zcq we)) (fun(we:Unit)=>J (.exit 0) (zcr)) e):=by
 induction k generalizing t3 eO with
 |zero=>rfl
 |succ k ih=>
  rw[ZI]
  simp only[uY,IA,ih,az]
def jS:af:=nI.add 71 [fo] (cG fo mm (fun _ r K=>K [tB r] none))
theorem Rc:aL Tryz.prog jS:=cJ NH Tryz.f71 (fun R kk x0 K=>Lk x0 (fun a0=>K [tB a0] none) (Lj R kk kk (zs3 R kk K))) Rb (ek _ _ _ _) Tryz.func71 (by kernel_rfl) rfl (fun _ _ _ _ _ _ h=>h _ _) (fun _ _ _ _=>by kernel_rfl) fun R kk e x0 K=>by
 simp only[mm,Lk,zs4,zs5,WQ (hF:=e),TY,TZ,az,<-e]
def AF:Env:=b6.env (fun i=>bif Nat.beq i 4 then [1,3] else bif Nat.beq i 9 then [1,4] else []) (fun i=>bif Nat.beq i 4 then [1,2] else bif Nat.beq i 9 then [2] else []) [] [dC]
def Ll(a:Int)(b:aE):Option R:=ax (ev AF (jS R) kk (sub [1,1,0,1,0,0] (cd Tryz.f29))) [1,3] [1,2] k ⟨uS 1 ([.ptr 2 dC []]::uS 1 ([tI a]::uS 49 [])),nS 2 ((some ⟨dC,b,[]⟩)::nS 51 [])⟩ J
def zcs(a:Bool)(b:aE):State:=⟨uS 1 ([.ptr 2 dC []]::[tB a]::uS 50 []),nS 2 ((some ⟨dC,b,[]⟩)::nS 51 [])⟩
def zct(a:aE):State:=⟨uS 1 ([.ptr 2 dC []]::uS 51 []),nS 2 ((some ⟨dC,a,[]⟩)::nS 51 [])⟩
def zs6:KX R:=(zl 0 (aM AF (jS R) kk (sub [1,1,1] (cd Tryz.f29)) (aK AF Tryz.f29.results.toList none K)))
def Lm(a:Int)(b:aE):Option R:=ax (ev AF (jS R) kk (sub [1,1,1,0,1,0,0] (cd Tryz.f29))) [1,4] [2] k ⟨uS 1 ([.ptr 2 dC []]::uS 2 ([tI a]::uS 48 [])),nS 2 ((some ⟨dC,b,[]⟩)::nS 51 [])⟩ J
def zcu(a:Bool):State:=⟨uS 2 ([tB a]::uS 50 []),nS 54 []⟩
def zcv:State:=⟨uS 53 [],nS 54 []⟩
def zs7:KX R:=(zl 2 (aM AF (jS R) kk (sub [1,1,1,1] (cd Tryz.f29)) (aK AF Tryz.f29.results.toList none K)))
theorem ZJ(a:Int)(b:aE):Ll R kk (k+1) J a b=
 IC a b (fun a0 a1=>J .ret (zcs a0 a1)) (Ll R kk k J) (fun a0=>J (.exit 0) (zct a0)):=by kernel_rfl
theorem T0(a:Bool)(b:aE):zs6 R kk K .ret (zcs a b)=
 zs8 a b (fun a0=>K [tB a0] none):=by kernel_rfl
theorem T1(a:aE):zs6 R kk K (.exit 0) (zct a)=
 Lo a (Lm R kk kk (zs7 R kk K)):=by kernel_rfl
theorem ZK(a:Int)(b:aE):Lm R kk (k+1) J a b=
 zs9 a b (fun a0=>J .ret (zcu a0)) (Lm R kk k J) (J (.exit 2) (zcv)):=by kernel_rfl
theorem T3(a:Bool):zs7 R kk K .ret (zcu a)=
 zsa a (fun a0=>K [tB a0] none):=by kernel_rfl
theorem T4:zs7 R kk K (.exit 2) (zcv)=
 zsb (fun a0=>K [tB a0] none):=by kernel_rfl
theorem WR{kk:Nat}(hF:kk=ag)(t3:Int)(eO:aE):Ll R kk k J t3 eO=(uZ k t3 eO).bind fun e=>(Sum.elim (fun(we:(Bool×aE))=>J .ret (zcs we.1 we.2)) (fun(we:aE)=>J (.exit 0) (zct we)) e):=by
 induction k generalizing t3 eO with
 |zero=>rfl
 |succ k ih=>
  rw[ZJ]
  simp only[uZ,IC,ih,az]
theorem WS{kk:Nat}(hF:kk=ag)(t4:Int)(eO:aE):Lm R kk k J t4 eO=(IB k t4 eO).bind fun e=>(Sum.elim (fun(we:Bool)=>J .ret (zcu we)) (fun(we:Unit)=>J (.exit 2) (zcv)) e):=by
 induction k generalizing t4 eO with
 |zero=>rfl
 |succ k ih=>
  rw[ZK]
  simp only[IB,zs9,ih,az]
def vP:af:=jS.add 29 [dC] (cG dC kj (fun _ r K=>K [tB r] none))
theorem Rd:aL Tryz.prog vP:=cJ AF Tryz.f29 (fun R kk x0 K=>Ln x0 (fun a0=>K [tB a0] none) (Ll R kk kk (zs6 R kk K))) Rc (ek _ _ _ _) Tryz.func29 (by kernel_rfl) rfl (fun _ _ _ _ _ _ h=>h _ _) (fun _ _ _ _=>by kernel_rfl) fun R kk e x0 K=>by
 simp only[kj,Ln,zs8,Lo,zsa,zsb,WR (hF:=e),WS (hF:=e),T0,T1,T3,T4,az,<-e]
def abK:Env:=e0 [kK]
def vQ:af:=vP.add 10 [kK] (cG kK oq (fun _ r K=>K [tB r] none))
theorem Re:aL Tryz.prog vQ:=cJ abK Tryz.f10 (fun R kk x0 K=>Lr x0 (fun a0=>K [tB a0] none)) Rd (ek _ _ _ _) Tryz.func10 (by kernel_rfl) rfl (fun _ _ _ _ _ _ h=>h _ _) (fun _ _ _ _=>by kernel_rfl) fun R kk e x0 K=>by
 simp only[oq,Lr,az]
def Db:Env:=e0 [y9]
def nJ:af:=vQ.add 143 [y9] (cG y9 sd (fun _ r K=>K [tI r] none))
theorem Rf:aL Tryz.prog nJ:=cJ Db Tryz.f143 (fun R kk x0 K=>Pa x0 (fun a0=>K [tI a0] none)) Re (ek _ _ _ _) Tryz.func143 (by kernel_rfl) rfl (fun _ _ _ _ _ _ h=>h _ _) (fun _ _ _ _=>by kernel_rfl) fun R kk e x0 K=>by
 simp only[sd,Pa,az]
def Nz:Env:=b6.env (fun i=>bif Nat.beq i 7 then [1,4,5] else []) (fun i=>bif Nat.beq i 7 then [2,3] else []) [] [aU]
def K4(a b:Int)(c:ai):Option R:=ax (ev Nz (nJ R) kk (sub [1,1,1,1,0,1,0,0] (cd Tryz.f142))) [1,4,5] [2,3] k ⟨uS 1 ([.ptr 2 aU []]::uS 2 ([tI a]::[tI b]::uS 49 [])),nS 2 ((some ⟨aU,c,[]⟩)::nS 53 [])⟩ J
def zcg(a b:Int):State:=⟨uS 2 ([tI a]::[tI b]::uS 51 []),nS 56 []⟩
def zch:State:=⟨uS 55 [],nS 56 []⟩
def zrk:KX R:=(zl 0 (aM Nz (nJ R) kk (sub [1,1,1,1,1] (cd Tryz.f142)) (aK Nz Tryz.f142.results.toList none K)))
theorem ZC(a b:Int)(c:ai):K4 R kk (k+1) J a b c=
 Iw a b c (fun a0 a1=>J .ret (zcg a0 a1)) (K4 R kk k J) (J (.exit 0) (zch)):=by kernel_rfl
theorem z171(a b:Int):zrk R kk K .ret (zcg a b)=
 K5 a b (fun a0 a1=>K [tI a0,tI a1] none):=by kernel_rfl
theorem TR:zrk R kk K (.exit 0) (zch)=
 K6 (fun a0 a1=>K [tI a0,tI a1] none):=by kernel_rfl
theorem WJ{kk:Nat}(hF:kk=ag)(t4 t5:Int)(eO:ai):K4 R kk k J t4 t5 eO=(uX k t4 t5 eO).bind fun e=>(Sum.elim (fun(we:(Int×Int))=>J .ret (zcg we.1 we.2)) (fun(we:Unit)=>J (.exit 0) (zch)) e):=by
 induction k generalizing t4 t5 eO with
 |zero=>rfl
 |succ k ih=>
  rw[ZC]
  simp only[uX,Iw,ih,az]
def vR:af:=nJ.add 142 [aU] (cG aU pR (fun _ r K=>K [tI r.1,tI r.2] none))
theorem Rg:aL Tryz.prog vR:=cJ Nz Tryz.f142 (fun R kk x0 K=>BB x0 (fun a0 a1=>K [tI a0,tI a1] none) (fun a0 a1 a2=>K4 R kk kk (zrk R kk K) a0 a1 a2)) Rf (ek _ _ _ _) Tryz.func142 (by kernel_rfl) rfl (fun _ _ _ _ _ _ h=>h _ _) (fun _ _ _ _=>by kernel_rfl) fun R kk e x0 K=>by
 simp only[pR,zyq,K5,K6,WJ (hF:=e),z171,TR,az,<-e]
def abE:Env:=e0 [aU]
def nK:af:=vR.add 84 [aU] (cG aU om (fun _ r K=>K [tB r] none))
theorem Rh:aL Tryz.prog nK:=cJ abE Tryz.f84 (fun R kk x0 K=>K9 x0 (fun a0=>K [tB a0] none)) Rg (ek _ _ _ _) Tryz.func84 (by kernel_rfl) rfl (fun _ _ _ _ _ _ h=>h _ _) (fun _ _ _ _=>by kernel_rfl) fun R kk e x0 K=>by
 simp only[om,K9,az]
def nq:Env:=b6.env (fun i=>bif Nat.beq i 8 then [0,7,8,9] else []) (fun i=>bif Nat.beq i 8 then [4,5,6,8] else []) [] [.str,(.int .i64)]
def OV(a:ByteArray)(b:Int)(c:ByteArray)(d:Int):Option R:=ax (ev nq (nK R) kk (sub [1,1,1,1,1,0,1,0,0] (cd Tryz.f111))) [0,7,8,9] [4,5,6,8] k ⟨[tS a]::uS 6 ([tI b]::[tS c]::[tI d]::uS 62 []),nS 73 []⟩ J
def zly(a:ByteArray)(b c:Int)(d:ByteArray):State:=⟨uS 4 ([tS a]::[tI b]::[tI c]::uS 1 ([tS d]::uS 63 [])),nS 73 []⟩
def zlz(a:ByteArray):State:=⟨uS 8 ([tS a]::uS 63 []),nS 73 []⟩
def zzp:KX R:=(zl 0 (aM nq (nK R) kk (sub [1,1,1,1,1,1] (cd Tryz.f111)) (aK nq Tryz.f111.results.toList none K)))
theorem acE(a:ByteArray)(b:Int)(c:ByteArray)(d:Int):OV R kk (k+1) J a b c d=
 AN a b c d (fun a0 a1 a2 a3=>J .ret (zly a0 a1 a2 a3)) (OV R kk k J) (fun a0=>J (.exit 0) (zlz a0)):=by kernel_rfl
theorem XO(a:ByteArray)(b c:Int)(d:ByteArray):zzp R kk K .ret (zly a b c d)=
 zzq a b c d (fun a0 a1 a2=>K [tS a0,tI a1,tI a2] none):=by kernel_rfl
theorem XP(a:ByteArray):zzp R kk K (.exit 0) (zlz a)=
 Jr a (fun a0 a1 a2=>K [tS a0,tI a1,tI a2] none):=by kernel_rfl
theorem aaz{kk:Nat}(hF:kk=ag)(iP:ByteArray)(t7:Int)(t8:ByteArray)(t9:Int):OV R kk k J iP t7 t8 t9=(mX k iP t7 t8 t9).bind fun e=>(Sum.elim (fun(we:(ByteArray×Int×Int×ByteArray))=>J .ret (zly we.1 we.2.1 we.2.2.1 we.2.2.2)) (fun(we:ByteArray)=>J (.exit 0) (zlz we)) e):=by
 induction k generalizing iP t7 t8 t9 with
 |zero=>rfl
 |succ k ih=>
  rw[acE]
  simp only[mX,AN,ih,az]
def vS:af:=nK.add 111 [.str,(.int .i64)] (c9 .str (.int .i64) pC (fun _ r K=>K [tS r.1,tI r.2.1,tI r.2.2] none))
theorem Ri:aL Tryz.prog vS:=dm nq Tryz.f111 (fun R kk x0 x1 K=>OW x0 x1 (fun a0 a1 a2=>K [tS a0,tI a1,tI a2] none) (OV R kk kk (zzp R kk K))) Rh (ek _ _ _ _) Tryz.func111 (by kernel_rfl) rfl (fun _ _ _ _ _ _ h=>h _ _) (fun _ _ _ _ _=>by kernel_rfl) fun R kk e x0 x1 K=>by
 simp only[pC,OW,zzq,Jr,aaz (hF:=e),XO,XP,az,<-e]
def CV:Env:=e0 [(.int .u8)]
def nL:af:=vS.add 184 [(.int .u8)] (cG (.int .u8) CU (fun _ r K=>K [tB r] none))
theorem Rj:aL Tryz.prog nL:=cJ CV Tryz.f184 (fun R kk x0 K=>OL x0 (fun a0=>K [tB a0] none)) Ri (ek _ _ _ _) Tryz.func184 (by kernel_rfl) rfl (fun _ _ _ _ _ _ h=>h _ _) (fun _ _ _ _=>by kernel_rfl) fun R kk e x0 K=>by
 simp only[CU,OL,az]
def nj:Env:=b6.env (fun i=>bif Nat.beq i 2 then [0,3] else []) (fun i=>bif Nat.beq i 2 then [2] else []) [] [.str]
def OI(a:ByteArray)(b:Int):Option R:=ax (ev nj (nL R) kk (sub [1,0,1,0,0] (cd Tryz.f124))) [0,3] [2] k ⟨[tS a]::uS 2 ([tI b]::uS 11 []),nS 16 []⟩ J
def zlq(a:Bool):State:=⟨uS 2 ([tB a]::uS 12 []),nS 16 []⟩
def zlr:State:=⟨uS 15 [],nS 16 []⟩
def zzc:KX R:=(zl 0 (aM nj (nL R) kk (sub [1,1] (cd Tryz.f124)) (aK nj Tryz.f124.results.toList none K)))
theorem acz(a:ByteArray)(b:Int):OI R kk (k+1) J a b=
 OK a b (fun a0=>J .ret (zlq a0)) (OI R kk k J) (J (.exit 0) (zlr)):=by kernel_rfl
theorem XF(a:Bool):zzc R kk K .ret (zlq a)=
 zzd a (fun a0=>K [tB a0] none):=by kernel_rfl
theorem XG:zzc R kk K (.exit 0) (zlr)=
 zze (fun a0=>K [tB a0] none):=by kernel_rfl
theorem aau{kk:Nat}(hF:kk=ag)(ff:ByteArray)(t3:Int):OI R kk k J ff t3=(B5 k ff t3).bind fun e=>(Sum.elim (fun(we:Bool)=>J .ret (zlq we)) (fun(we:Unit)=>J (.exit 0) (zlr)) e):=by
 induction k generalizing ff t3 with
 |zero=>rfl
 |succ k ih=>
  rw[acz]
  simp only[B5,OK,ih,az]
def vT:af:=nL.add 124 [.str] (cG .str AZ (fun _ r K=>K [tB r] none))
theorem Rk:aL Tryz.prog vT:=cJ nj Tryz.f124 (fun R kk x0 K=>OJ x0 (OI R kk kk (zzc R kk K))) Rj (ek _ _ _ _) Tryz.func124 (by kernel_rfl) rfl (fun _ _ _ _ _ _ h=>h _ _) (fun _ _ _ _=>by kernel_rfl) fun R kk e x0 K=>by
 simp only[AZ,OJ,zzd,zze,aau (hF:=e),XF,XG,az,<-e]
def abI:Env:=e0 [.str]
def vU:af:=vT.add 112 [.str] (cG .str jy (fun _ r K=>K [tB r] none))
theorem Rm:aL Tryz.prog vU:=cJ abI Tryz.f112 (fun R kk x0 K=>Ld x0 (fun a0=>K [tB a0] none)) Rk (ek _ _ _ _) Tryz.func112 (by kernel_rfl) rfl (fun _ _ _ _ _ _ h=>h _ _) (fun _ _ _ _=>by kernel_rfl) fun R kk e x0 K=>by
 simp only[jy,Ld,az]
def CW:Env:=e0 []
def nM:af:=vU.add 181 [] (yX Pz (fun _ r K=>K [tS r] none))
theorem Rn:aL Tryz.prog nM:=Bc CW Tryz.f181 (fun R kk K=>zzg (fun a0=>K [tS a0] none)) Rm (ek _ _ _ _) Tryz.func181 (by kernel_rfl) rfl (fun _ _ _ _ _ _ h=>h _ _) (fun _ _ _=>by kernel_rfl) fun R kk e K=>by
 simp only[Pz,zzg,az]
def np:Env:=b6.env (fun i=>bif Nat.beq i 2 then [0,3] else []) (fun i=>bif Nat.beq i 2 then [2] else []) [] [(.int .u8)]
def OT(a b:Int):Option R:=ax (ev np (nM R) kk (sub [1,0,1,0,0] (cd Tryz.f208))) [0,3] [2] k ⟨[tU a]::uS 2 ([tI b]::uS 10 []),nS 15 []⟩ J
def zlw(a:Int):State:=⟨uS 2 ([tI a]::uS 11 []),nS 15 []⟩
def zlx:State:=⟨uS 14 [],nS 15 []⟩
def zzk:KX R:=(zl 0 (aM np (nM R) kk (sub [1,1] (cd Tryz.f208)) (aK np Tryz.f208.results.toList none K)))
theorem acD(a b:Int):OT R kk (k+1) J a b=
 zzm a b (fun a0=>J .ret (zlw a0)) (OT R kk k J) (J (.exit 0) (zlx)):=by kernel_rfl
theorem XL(a:Int):zzk R kk K .ret (zlw a)=
 zzn a (fun a0=>K [tI a0] none):=by kernel_rfl
theorem XM:zzk R kk K (.exit 0) (zlx)=
 zzo (fun a0=>K [tI a0] none):=by kernel_rfl
theorem aay{kk:Nat}(hF:kk=ag)(iP t3:Int):OT R kk k J iP t3=(OU k iP t3).bind fun e=>(Sum.elim (fun(we:Int)=>J .ret (zlw we)) (fun(we:Unit)=>J (.exit 0) (zlx)) e):=by
 induction k generalizing iP t3 with
 |zero=>rfl
 |succ k ih=>
  rw[acD]
  simp only[OU,zzm,ih,az]
def jT:af:=nM.add 208 [(.int .u8)] (cG (.int .u8) x6 (fun _ r K=>K [tI r] none))
theorem Ro:aL Tryz.prog jT:=cJ np Tryz.f208 (fun R kk x0 K=>zzl x0 (OT R kk kk (zzk R kk K))) Rn (ek _ _ _ _) Tryz.func208 (by kernel_rfl) rfl (fun _ _ _ _ _ _ h=>h _ _) (fun _ _ _ _=>by kernel_rfl) fun R kk e x0 K=>by
 simp only[x6,zzl,zzn,zzo,aay (hF:=e),XL,XM,az,<-e]
def iJ:Env:=b6.env (fun i=>bif Nat.beq i 2 then [0,5] else bif Nat.beq i 10 then [0,6,7] else []) (fun i=>bif Nat.beq i 2 then [0,2,3,4] else bif Nat.beq i 10 then [6] else []) [] [.str]
def OP(a:ByteArray)(b:Int):Option R:=ax (ev iJ (jT R) kk (sub [1,0,1,0,0] (cd Tryz.f175))) [0,5] [0,2,3,4] k ⟨[tS a]::uS 4 ([tI b]::uS 44 []),nS 51 []⟩ J
def zlt(a b:ByteArray)(c:Int)(d:Bool):State:=⟨[tS a]::uS 1 ([tS b]::[tI c]::[tB d]::uS 45 []),nS 51 []⟩
def zlu(a:ByteArray):State:=⟨[tS a]::uS 49 [],nS 51 []⟩
def zzh:KX R:=(zl 0 (aM iJ (jT R) kk (sub [1,1] (cd Tryz.f175)) (aK iJ Tryz.f175.results.toList none K)))
def OQ(a:ByteArray)(b:(List Int))(c:Int):Option R:=ax (ev iJ (jT R) kk (sub [1,1,1,1,0,1,0,0] (cd Tryz.f175))) [0,6,7] [6] k ⟨[tS a]::uS 5 ([.ah (.sl 5 (.int .u8)) b [[]]]::[tI c]::uS 42 []),nS 51 []⟩ J
def zlv(a:(List Int)):State:=⟨uS 6 ([.ah (.sl 5 (.int .u8)) a [[]]]::uS 43 []),nS 51 []⟩
def z196:KX R:=(zl 2 (aM iJ (jT R) kk (sub [1,1,1,1,1] (cd Tryz.f175)) (aK iJ Tryz.f175.results.toList none K)))
theorem acB(a:ByteArray)(b:Int):OP R kk (k+1) J a b=
 Jp a b (fun a0 a1 a2 a3=>J .ret (zlt a0 a1 a2 a3)) (OP R kk k J) (fun a0=>J (.exit 0) (zlu a0)):=by kernel_rfl
theorem XI(a b:ByteArray)(c:Int)(d:Bool):zzh R kk K .ret (zlt a b c d)=
 zzi a b c d (fun a0 a1 a2=>K [tS a0,tI a1,tB a2] none):=by kernel_rfl
theorem XJ(a:ByteArray):zzh R kk K (.exit 0) (zlu a)=
 OS a (fun a0 a1 a2=>K [tS a0,tI a1,tB a2] none) (OQ R kk kk (z196 R kk K)):=by kernel_rfl
theorem acC(a:ByteArray)(b:(List Int))(c:Int):OQ R kk (k+1) J a b c=
 Jq a b c (OQ R kk k J) (fun a0=>J (.exit 2) (zlv a0)):=by kernel_rfl
theorem XK(a:(List Int)):z196 R kk K (.exit 2) (zlv a)=
 zzj a (fun a0 a1 a2=>K [tS a0,tI a1,tB a2] none):=by kernel_rfl
theorem aaw{kk:Nat}(hF:kk=ag)(ff:ByteArray)(t5:Int):OP R kk k J ff t5=(AL k ff t5).bind fun e=>(Sum.elim (fun(we:(ByteArray×ByteArray×Int×Bool))=>J .ret (zlt we.1 we.2.1 we.2.2.1 we.2.2.2)) (fun(we:ByteArray)=>J (.exit 0) (zlu we)) e):=by
 induction k generalizing ff t5 with
 |zero=>rfl
 |succ k ih=>
  rw[acB]
  simp only[AL,Jp,ih,az]
theorem aax{kk:Nat}(hF:kk=ag)(ff:ByteArray)(t6:(List Int))(t7:Int):OQ R kk k J ff t6 t7=(AM k ff t6 t7).bind fun e=>J (.exit 2) (zlv e):=by
 induction k generalizing ff t6 t7 with
 |zero=>rfl
 |succ k ih=>
  rw[acC]
  simp only[AM,Jq,ih,az]
def iN:af:=jT.add 175 [.str] (cG .str vC (fun _ r K=>K [tS r.1,tI r.2.1,tB r.2.2] none))
theorem Rp:aL Tryz.prog iN:=cJ iJ Tryz.f175 (fun R kk x0 K=>OR x0 (OP R kk kk (zzh R kk K))) Ro (ek _ _ _ _) Tryz.func175 (by kernel_rfl) rfl (fun _ _ _ _ _ _ h=>h _ _) (fun _ _ _ _=>by kernel_rfl) fun R kk e x0 K=>by
 simp only[vC,OR,zzi,OS,zzj,aaw (hF:=e),aax (hF:=e),XI,XJ,XK,az,<-e]
def iL:Env:={b6.env (fun i=>bif Nat.beq i 14 then [3,11,15,16] else bif Nat.beq i 19 then [3,11,15,16,17,18,19] else []) (fun i=>bif Nat.beq i 14 then [15] else bif Nat.beq i 19 then [3,11,15,16] else []) [] [(.int .i64),.str,(.int .i64),(.int .i64)] with ro:=true}
def O1(a:Int)(b:ByteArray)(c:(List Int))(d:Int):Option R:=ax (ev iL (iN R) kk (sub [1,1,1,1,1,1,1,0,1,0,0] (cd Tryz.f173))) [3,11,15,16] [15] k ⟨uS 3 ([tI a]::uS 7 ([tS b]::uS 3 ([.ah (.sl 3 (.int .i64)) c [[]]]::[tI d]::uS 58 []))),nS 76 []⟩ J
def zm2(a:(List Int)):State:=⟨uS 15 ([.ah (.sl 3 (.int .i64)) a [[]]]::uS 59 []),nS 76 []⟩
def Hw:KX R:=(zl 0 (aM iL (iN R) kk (sub [1,1,1,1,1,1,1,1] (cd Tryz.f173)) (aK iL Tryz.f173.results.toList none K)))
def O2(a:Int)(b:ByteArray)(c:(List Int))(d e f g:Int):Option R:=ax (ev iL (iN R) kk (sub [1,1,1,1,1,1,1,0,1,0,0,1,0,0,1,1,1,0,0] (cd Tryz.f173))) [3,11,15,16,17,18,19] [3,11,15,16] k ⟨uS 3 ([tI a]::uS 7 ([tS b]::uS 3 ([.ah (.sl 3 (.int .i64)) c [[]]]::[tI d]::[tU e]::[tU f]::[tI g]::uS 55 []))),nS 76 []⟩ J
def zm3(a:Int)(b:ByteArray)(c:(List Int))(d:Int):State:=⟨uS 3 ([tI a]::uS 7 ([tS b]::uS 3 ([.ah (.sl 3 (.int .i64)) c [[]]]::[tI d]::uS 58 []))),nS 76 []⟩
def Hx:KX R:=(zl 2 (zl 1 (aM iL (iN R) kk (sub [1,1,1,1,1,1,1,0,1,0,0,1,1] (cd Tryz.f173)) (xc (ev iL (iN R) kk (sub [1,1,1,1,1,1,1,0,1,0,0] (cd Tryz.f173))) [3,11,15,16] [15] k J))))
theorem acK(a:Int)(b:ByteArray)(c:(List Int))(d:Int):O1 R kk (k+1) J a b c d=
 Jt a b c d (O2 R kk kk (Hx R kk k J)) (fun a0=>J (.exit 0) (zm2 a0)):=by kernel_rfl
theorem XS(a:(List Int)):Hw R kk K (.exit 0) (zm2 a)=
 O3 a (fun a0 a1=>K [.ah (.sl 3 (.int .i64)) a0 [],tI a1] none):=by kernel_rfl
theorem acL(a:Int)(b:ByteArray)(c:(List Int))(d e f g:Int):O2 R kk (k+1) J a b c d e f g=
 Ju a b c d e f g (O2 R kk k J) (fun a0 a1 a2 a3=>J (.exit 2) (zm3 a0 a1 a2 a3)):=by kernel_rfl
theorem XT(a:Int)(b:ByteArray)(c:(List Int))(d:Int):Hx R kk k J (.exit 2) (zm3 a b c d)=
 O4 a b c d (O1 R kk k J):=by kernel_rfl
theorem aaD{kk:Nat}(hF:kk=ag)(fN:Int)(t11:ByteArray)(t15:(List Int))(t16 t17 t18 t19:Int):O2 R kk k J fN t11 t15 t16 t17 t18 t19=(AP k fN t11 t15 t16 t17 t18 t19).bind fun e=>J (.exit 2) (zm3 e.1 e.2.1 e.2.2.1 e.2.2.2):=by
 induction k generalizing fN t11 t15 t16 t17 t18 t19 with
 |zero=>rfl
 |succ k ih=>
  rw[acL]
  simp only[AP,Ju,ih,az]
theorem aaC{kk:Nat}(hF:kk=ag)(fN:Int)(t11:ByteArray)(t15:(List Int))(t16:Int):O1 R kk k J fN t11 t15 t16=(xI k fN t11 t15 t16).bind fun e=>J (.exit 0) (zm2 e):=by
 induction k generalizing fN t11 t15 t16 with
 |zero=>rfl
 |succ k ih=>
  rw[acK]
  simp only[xI,Jt,O4,ih,aaD (hF:=hF),XT,az,<-hF]
def vV:af:=iN.add 173 [(.int .i64),.str,(.int .i64),(.int .i64)] (yY (.int .i64) .str (.int .i64) (.int .i64) nv (fun _ r K=>K [.ah (.sl 3 (.int .i64)) r.1 [],tI r.2] none))
theorem Rq:aL Tryz.prog vV:=Bd iL Tryz.f173 (fun R kk x0 x1 x2 x3 K=>B7 x0 x1 x2 x3 (fun a0 a1=>K [.ah (.sl 3 (.int .i64)) a0 [],tI a1] none) (fun a0 a1 a2 a3=>O1 R kk kk (Hw R kk K) a0 a1 a2 a3)) Rp ((ek _ _ _ _).ro _) Tryz.func173 (by kernel_rfl) rfl (fun _ _ _ _ _ _ h=>h _ _) (fun _ _ _ _ _ _ _=>by kernel_rfl) fun R kk e x0 x1 x2 x3 K=>by
 simp only[nv,Sz,O3,aaC (hF:=e),XS,az,<-e]
def C1:Env:={e0 [(.int .i64),.str,(.int .i64)] with ro:=true}
def nN:af:=vV.add 113 [(.int .i64),.str,(.int .i64)] (kE (.int .i64) .str (.int .i64) s4 (fun _ r K=>K [.ah (.sl 3 (.int .i64)) r.1 [],tI r.2.1,tI r.2.2] none))
theorem Rr:aL Tryz.prog nN:=kV C1 Tryz.f113 (fun R kk x0 x1 x2 K=>O0 x0 x1 x2 (fun a0 a1 a2=>K [.ah (.sl 3 (.int .i64)) a0 [],tI a1,tI a2] none)) Rq ((ek _ _ _ _).ro _) Tryz.func113 (by kernel_rfl) rfl (fun _ _ _ _ _ _ h=>h _ _) (fun _ _ _ _ _ _=>by kernel_rfl) fun R kk e x0 x1 x2 K=>by
 simp only[s4,O0,az]
def NA:Env:=b6.env (fun i=>bif Nat.beq i 2 then [1,2,5] else []) (fun i=>bif Nat.beq i 2 then [4] else []) [] [aU,(.int .i64)]
def K7(a b:Int)(c:ai):Option R:=ax (ev NA (nN R) kk (sub [1,0,1,0,0] (cd Tryz.f49))) [1,2,5] [4] k ⟨uS 1 ([tI a]::[.ptr 3 aU []]::uS 2 ([tI b]::uS 16 [])),nS 3 ((some ⟨aU,c,[]⟩)::nS 19 [])⟩ J
def zci(a:Int):State:=⟨uS 4 ([tI a]::uS 17 []),nS 23 []⟩
def zcj:State:=⟨uS 22 [],nS 23 []⟩
def zrl:KX R:=(zl 0 (aM NA (nN R) kk (sub [1,1] (cd Tryz.f49)) (aK NA Tryz.f49.results.toList none K)))
theorem ZD(a b:Int)(c:ai):K7 R kk (k+1) J a b c=
 zrm a b c (fun a0=>J .ret (zci a0)) (K7 R kk k J) (J (.exit 0) (zcj)):=by kernel_rfl
theorem z173(a:Int):zrl R kk K .ret (zci a)=
 zrn a (fun a0=>K [tI a0] none):=by kernel_rfl
theorem TS:zrl R kk K (.exit 0) (zcj)=
 zro (fun a0=>K [tI a0] none):=by kernel_rfl
theorem WK{kk:Nat}(hF:kk=ag)(dX t5:Int)(df:ai):K7 R kk k J dX t5 df=(Ix k dX t5 df).bind fun e=>(Sum.elim (fun(we:Int)=>J .ret (zci we)) (fun(we:Unit)=>J (.exit 0) (zcj)) e):=by
 induction k generalizing dX t5 df with
 |zero=>rfl
 |succ k ih=>
  rw[ZD]
  simp only[Ix,zrm,ih,az]
def vW:af:=nN.add 49 [aU,(.int .i64)] (c9 aU (.int .i64) oj (fun _ r K=>K [tI r] none))
theorem Rs:aL Tryz.prog vW:=dm NA Tryz.f49 (fun R kk x0 x1 K=>K8 x0 x1 (K7 R kk kk (zrl R kk K))) Rr (ek _ _ _ _) Tryz.func49 (by kernel_rfl) rfl (fun _ _ _ _ _ _ h=>h _ _) (fun _ _ _ _ _=>by kernel_rfl) fun R kk e x0 x1 K=>by
 simp only[oj,K8,zrn,zro,WK (hF:=e),z173,TS,az,<-e]
def C5:Env:=e0 [(.int .i64)]
def nO:af:=vW.add 182 [(.int .i64)] (cG (.int .i64) C4 (fun _ r K=>K [tI r] none))
theorem Rt:aL Tryz.prog nO:=cJ C5 Tryz.f182 (fun R kk x0 K=>O6 x0 (fun a0=>K [tI a0] none)) Rs (ek _ _ _ _) Tryz.func182 (by kernel_rfl) rfl (fun _ _ _ _ _ _ h=>h _ _) (fun _ _ _ _=>by kernel_rfl) fun R kk e x0 K=>by
 simp only[C4,O6,az]
def nk:Env:=b6.env (fun i=>bif Nat.beq i 5 then [0,4,5] else []) (fun i=>bif Nat.beq i 5 then [4] else []) [] [.str]
def OM(a:ByteArray)(b c:Int):Option R:=ax (ev nk (nO R) kk (sub [1,1,1,0,1,0,0] (cd Tryz.f50))) [0,4,5] [4] k ⟨[tS a]::uS 3 ([tI b]::[tI c]::uS 28 []),nS 35 []⟩ J
def zls(a:Int):State:=⟨uS 4 ([tI a]::uS 29 []),nS 35 []⟩
def Hu:KX R:=(zl 0 (aM nk (nO R) kk (sub [1,1,1,1] (cd Tryz.f50)) (aK nk Tryz.f50.results.toList none K)))
theorem acA(a:ByteArray)(b c:Int):OM R kk (k+1) J a b c=
 OO a b c (OM R kk k J) (fun a0=>J (.exit 0) (zls a0)):=by kernel_rfl
theorem XH(a:Int):Hu R kk K (.exit 0) (zls a)=
 zzf a (fun a0 a1=>K [tI a0,tB a1] none):=by kernel_rfl
theorem aav{kk:Nat}(hF:kk=ag)(ff:ByteArray)(t4 t5:Int):OM R kk k J ff t4 t5=(B6 k ff t4 t5).bind fun e=>J (.exit 0) (zls e):=by
 induction k generalizing ff t4 t5 with
 |zero=>rfl
 |succ k ih=>
  rw[acA]
  simp only[B6,OO,ih,az]
def vX:af:=nO.add 50 [.str] (cG .str oI (fun _ r K=>K [tI r.1,tB r.2] none))
theorem Ru:aL Tryz.prog vX:=cJ nk Tryz.f50 (fun R kk x0 K=>ON x0 (fun a0 a1=>K [tI a0,tB a1] none) (OM R kk kk (Hu R kk K))) Rt (ek _ _ _ _) Tryz.func50 (by kernel_rfl) rfl (fun _ _ _ _ _ _ h=>h _ _) (fun _ _ _ _=>by kernel_rfl) fun R kk e x0 K=>by
 simp only[oI,ON,zzf,aav (hF:=e),XH,az,<-e]
def C3:Env:=e0 [(.int .i64),(.int .i64),.str,(.int .i64)]
def vY:af:=vX.add 174 [(.int .i64),(.int .i64),.str,(.int .i64)] (yY (.int .i64) (.int .i64) .str (.int .i64) C2 (fun _ r K=>K [tI r.1,tI r.2.1,tI r.2.2] none))
theorem Rv:aL Tryz.prog vY:=Bd C3 Tryz.f174 (fun R kk x0 x1 x2 x3 K=>O5 x0 x1 x2 x3 (fun a0 a1 a2=>K [tI a0,tI a1,tI a2] none)) Ru (ek _ _ _ _) Tryz.func174 (by kernel_rfl) rfl (fun _ _ _ _ _ _ h=>h _ _) (fun _ _ _ _ _ _ _=>by kernel_rfl) fun R kk e x0 x1 x2 x3 K=>by
 simp only[C2,O5,az]
def CY:Env:=e0 [(.int .i64),(.int .u8)]
def nP:af:=vY.add 193 [(.int .i64),(.int .u8)] (c9 (.int .i64) (.int .u8) vD (fun _ r K=>K [tB r] none))
theorem Rx:aL Tryz.prog nP:=dm CY Tryz.f193 (fun R kk x0 x1 K=>OZ x0 x1 (fun a0=>K [tB a0] none)) Rv (ek _ _ _ _) Tryz.func193 (by kernel_rfl) rfl (fun _ _ _ _ _ _ h=>h _ _) (fun _ _ _ _ _=>by kernel_rfl) fun R kk e x0 x1 K=>by
 simp only[vD,OZ,az]
def nr:Env:=b6.env (fun i=>bif Nat.beq i 2 then [0,1,5] else []) (fun i=>bif Nat.beq i 2 then [4] else []) [] [(.int .i64),.str]
def OX(a:Int)(b:ByteArray)(c:Int):Option R:=ax (ev nr (nP R) kk (sub [1,0,1,0,0] (cd Tryz.f144))) [0,1,5] [4] k ⟨[tI a]::[tS b]::uS 3 ([tI c]::uS 13 []),nS 20 []⟩ J
def zm0(a:Int):State:=⟨uS 4 ([tI a]::uS 14 []),nS 20 []⟩
def zm1:State:=⟨uS 19 [],nS 20 []⟩
def zzr:KX R:=(zl 0 (aM nr (nP R) kk (sub [1,1] (cd Tryz.f144)) (aK nr Tryz.f144.results.toList none K)))
theorem acF(a:Int)(b:ByteArray)(c:Int):OX R kk (k+1) J a b c=
 Js a b c (fun a0=>J .ret (zm0 a0)) (OX R kk k J) (J (.exit 0) (zm1)):=by kernel_rfl
theorem XQ(a:Int):zzr R kk K .ret (zm0 a)=
 zzs a (fun a0=>K [tI a0] none):=by kernel_rfl
theorem XR:zzr R kk K (.exit 0) (zm1)=
 zzt (fun a0=>K [tI a0] none):=by kernel_rfl
theorem aaA{kk:Nat}(hF:kk=ag)(kq:Int)(jJ:ByteArray)(t5:Int):OX R kk k J kq jJ t5=(AO k kq jJ t5).bind fun e=>(Sum.elim (fun(we:Int)=>J .ret (zm0 we)) (fun(we:Unit)=>J (.exit 0) (zm1)) e):=by
 induction k generalizing kq jJ t5 with
 |zero=>rfl
 |succ k ih=>
  rw[acF]
  simp only[AO,Js,ih,az]
def vZ:af:=nP.add 144 [(.int .i64),.str] (c9 (.int .i64) .str CX (fun _ r K=>K [tI r] none))
theorem Ry:aL Tryz.prog vZ:=dm nr Tryz.f144 (fun R kk x0 x1 K=>OY x0 x1 (OX R kk kk (zzr R kk K))) Rx (ek _ _ _ _) Tryz.func144 (by kernel_rfl) rfl (fun _ _ _ _ _ _ h=>h _ _) (fun _ _ _ _ _=>by kernel_rfl) fun R kk e x0 x1 K=>by
 simp only[CX,OY,zzs,zzt,aaA (hF:=e),XQ,XR,az,<-e]
def C7:Env:=e0 [(.int .u8)]
def wg:af:=vZ.add 215 [(.int .u8)] (cG (.int .u8) vG (fun _ r K=>K [tI r] none))
theorem Rz:aL Tryz.prog wg:=cJ C7 Tryz.f215 (fun R kk x0 K=>zzu x0 (fun a0=>K [tI a0] none)) Ry (ek _ _ _ _) Tryz.func215 (by kernel_rfl) rfl (fun _ _ _ _ _ _ h=>h _ _) (fun _ _ _ _=>by kernel_rfl) fun R kk e x0 K=>by
 simp only[vG,zzu,az]
def C8:Env:=e0 [.str,(.int .i64)]
def wh:af:=wg.add 194 [.str,(.int .i64)] (c9 .str (.int .i64) vH (fun _ r K=>K [tI r.1,tI r.2.1,tI r.2.2] none))
theorem RA:aL Tryz.prog wh:=dm C8 Tryz.f194 (fun R kk x0 x1 K=>Jv x0 x1 (fun a0 a1 a2=>K [tI a0,tI a1,tI a2] none)) Rz (ek _ _ _ _) Tryz.func194 (by kernel_rfl) rfl (fun _ _ _ _ _ _ h=>h _ _) (fun _ _ _ _ _=>by kernel_rfl) fun R kk e x0 x1 K=>by
 simp only[vH,Jv,az]
def C9:Env:=e0 [.str,(.int .i64)]
def nQ:af:=wh.add 195 [.str,(.int .i64)] (c9 .str (.int .i64) vI (fun _ r K=>K [tI r.1,tI r.2.1,tI r.2.2] none))
theorem RB:aL Tryz.prog nQ:=dm C9 Tryz.f195 (fun R kk x0 x1 K=>Jw x0 x1 (fun a0 a1 a2=>K [tI a0,tI a1,tI a2] none)) RA (ek _ _ _ _) Tryz.func195 (by kernel_rfl) rfl (fun _ _ _ _ _ _ h=>h _ _) (fun _ _ _ _ _=>by kernel_rfl) fun R kk e x0 x1 K=>by
 simp only[vI,Jw,az]
def nB:Env:=b6.env (fun i=>bif Nat.beq i 2 then [0,1,2,7] else []) (fun i=>bif Nat.beq i 2 then [6] else []) [] [(.sl 245 (.pair (.int .i64) (.pair .str .unit))),(.int .i64),(.int .i64)]
def O8(a:aq)(b c d:Int):Option R:=ax (ev nB (nQ R) kk (sub [1,0,1,0,0] (cd Tryz.f196))) [0,1,2,7] [6] k ⟨[.ah (.sl 245 (.pair (.int .i64) (.pair .str .unit))) a []]::[tI b]::[tI c]::uS 4 ([tI d]::uS 12 []),nS 21 []⟩ J
def zm6(a:Bool):State:=⟨uS 6 ([tB a]::uS 13 []),nS 21 []⟩
def zm7:State:=⟨uS 20 [],nS 21 []⟩
def zzy:KX R:=(zl 0 (aM nB (nQ R) kk (sub [1,1] (cd Tryz.f196)) (aK nB Tryz.f196.results.toList none K)))
theorem acO(a:aq)(b c d:Int):O8 R kk (k+1) J a b c d=
 Jz a b c d (fun a0=>J .ret (zm6 a0)) (O8 R kk k J) (J (.exit 0) (zm7)):=by kernel_rfl
theorem XW(a:Bool):zzy R kk K .ret (zm6 a)=
 zzz a (fun a0=>K [tB a0] none):=by kernel_rfl
theorem XX:zzy R kk K (.exit 0) (zm7)=
 zM (fun a0=>K [tB a0] none):=by kernel_rfl
theorem aaG{kk:Nat}(hF:kk=ag)(rl:aq)(yS rJ t7:Int):O8 R kk k J rl yS rJ t7=(AQ k rl yS rJ t7).bind fun e=>(Sum.elim (fun(we:Bool)=>J .ret (zm6 we)) (fun(we:Unit)=>J (.exit 0) (zm7)) e):=by
 induction k generalizing rl yS rJ t7 with
 |zero=>rfl
 |succ k ih=>
  rw[acO]
  simp only[AQ,Jz,ih,az]
def nR:af:=nQ.add 196 [(.sl 245 (.pair (.int .i64) (.pair .str .unit))),(.int .i64),(.int .i64)] (kE (.sl 245 (.pair (.int .i64) (.pair .str .unit))) (.int .i64) (.int .i64) Da (fun _ r K=>K [tB r] none))
theorem RC:aL Tryz.prog nR:=kV nB Tryz.f196 (fun R kk x0 x1 x2 K=>O9 x0 x1 x2 (O8 R kk kk (zzy R kk K))) RB (ek _ _ _ _) Tryz.func196 (by kernel_rfl) rfl (fun _ _ _ _ _ _ h=>h _ _) (fun _ _ _ _ _ _=>by kernel_rfl) fun R kk e x0 x1 x2 K=>by
 simp only[Da,O9,zzz,zM,aaG (hF:=e),XW,XX,az,<-e]
def nA:Env:=b6.env (fun i=>bif Nat.beq i 3 then [0,5,6] else []) (fun i=>bif Nat.beq i 3 then [2,3,4,5] else []) [] [.str]
def O7(a:ByteArray)(b:aq)(c:Int):Option R:=ax (ev nA (nR R) kk (sub [1,1,1,0,0,0] (cd Tryz.f145))) [0,5,6] [2,3,4,5] k ⟨[tS a]::uS 4 ([.ah (.sl 245 (.pair (.int .i64) (.pair .str .unit))) b [[]]]::[tI c]::uS 61 []),nS 69 []⟩ J
def zm4(a:aq)(b c:Int)(d:aq):State:=⟨uS 2 ([.ah (.sl 245 (.pair (.int .i64) (.pair .str .unit))) a [[]]]::[tI b]::[tI c]::[.ah (.sl 245 (.pair (.int .i64) (.pair .str .unit))) d [[]]]::uS 62 []),nS 69 []⟩
def zm5(a:aq):State:=⟨uS 5 ([.ah (.sl 245 (.pair (.int .i64) (.pair .str .unit))) a [[]]]::uS 62 []),nS 69 []⟩
def zzv:KX R:=(zl 0 (aM nA (nR R) kk (sub [1,1,1,1] (cd Tryz.f145)) (aK nA Tryz.f145.results.toList none K)))
theorem acN(a:ByteArray)(b:aq)(c:Int):O7 R kk (k+1) J a b c=
 Jy a b c (fun a0 a1 a2 a3=>J .ret (zm4 a0 a1 a2 a3)) (O7 R kk k J) (fun a0=>J (.exit 0) (zm5 a0)):=by kernel_rfl
theorem XU(a:aq)(b c:Int)(d:aq):zzv R kk K .ret (zm4 a b c d)=
 zzw a b c d (fun a0 a1 a2=>K [.ah (.sl 245 (.pair (.int .i64) (.pair .str .unit))) a0 [[]],tI a1,tI a2] none):=by kernel_rfl
theorem XV(a:aq):zzv R kk K (.exit 0) (zm5 a)=
 zzx a (fun a0 a1 a2=>K [.ah (.sl 245 (.pair (.int .i64) (.pair .str .unit))) a0 [],tI a1,tI a2] none):=by kernel_rfl
theorem aaF{kk:Nat}(hF:kk=ag)(iP:ByteArray)(t5:aq)(t6:Int):O7 R kk k J iP t5 t6=(xJ k iP t5 t6).bind fun e=>(Sum.elim (fun(we:oL)=>J .ret (zm4 we.1 we.2.1 we.2.2.1 we.2.2.2)) (fun(we:aq)=>J (.exit 0) (zm5 we)) e):=by
 induction k generalizing iP t5 t6 with
 |zero=>rfl
 |succ k ih=>
  rw[acN]
  simp only[xJ,Jy,ih,az]
def wi:af:=nR.add 145 [.str] (cG .str vJ (fun _ r K=>(Sum.elim (fun(wr:ii)=>K [.ah (.sl 245 (.pair (.int .i64) (.pair .str .unit))) wr.1 [[]],tI wr.2.1,tI wr.2.2] none) (fun(wr:ii)=>K [.ah (.sl 245 (.pair (.int .i64) (.pair .str .unit))) wr.1 [],tI wr.2.1,tI wr.2.2] none) r)))
theorem RD:aL Tryz.prog wi:=cJ nA Tryz.f145 (fun R kk x0 K=>Jx x0 (O7 R kk kk (zzv R kk K))) RC (ek _ _ _ _) Tryz.func145 (by kernel_rfl) rfl (fun _ _ _ _ _ _ h=>Hl (fun _=>h _ _) (fun _=>h _ _)) (fun _ _ _ _=>by kernel_rfl) fun R kk e x0 K=>by
 simp only[vJ,Jx,zzw,zzx,aaF (hF:=e),XU,XV,az,<-e]
def Dc:Env:=e0 [y9,.str]
def bD:af:=wi.add 87 [y9,.str] (c9 y9 .str nC (fun _ r K=>K [tI r] none))
theorem RE:aL Tryz.prog bD:=dm Dc Tryz.f87 (fun R kk x0 x1 K=>B8 x0 x1 (fun a0=>K [tI a0] none)) RD (ek _ _ _ _) Tryz.func87 (by kernel_rfl) rfl (fun _ _ _ _ _ _ h=>h _ _) (fun _ _ _ _ _=>by kernel_rfl) fun R kk e x0 x1 K=>by
 simp only[nC,B8,az]
def aP:Env:={e0 [(.int .i64),y9,.str,(.int .i64)] with join:=fun i=>bif Nat.beq i 2 then some [0,2,3,5,44] else bif Nat.beq i 3 then some [0,2,3,5] else bif Nat.beq i 8 then some [0,2,5,12,13] else bif Nat.beq i 12 then some [0,2,3,5,11] else bif Nat.beq i 9 then some [0,2,5,12,13,72] else bif Nat.beq i 14 then some [0,2,3,5,11,15,82] else bif Nat.beq i 10 then some [0,2,5,12,13] else bif Nat.beq i 15 then some [0,2,3,5,11,15] else bif Nat.beq i 16 then some [0,2,3,5,11,15,92] else bif Nat.beq i 17 then some [0,2,3,5,11,15] else bif Nat.beq i 19 then some [0,2,3,5,11,15] else bif Nat.beq i 21 then some [0,3,5,11,15,16,114] else bif Nat.beq i 24 then some [0,3,5,15,17] else bif Nat.beq i 25 then some [0,3,5,15,16] else bif Nat.beq i 26 then some [3,5,15,16,132] else bif Nat.beq i 29 then some [3,5,15,20] else bif Nat.beq i 30 then some [3,5,15,16] else bif Nat.beq i 33 then some [3,15,16] else none}
def Hy(a:Int)(b:ByteArray)(c:Int)(d:Bool)(e:aj):Option R:=ev aP (bD R) kk (sub [1,0,1] (cd Tryz.f114)) ⟨[tI a]::uS 1 ([tS b]::[tI c]::uS 1 ([.ptr 6 y9 []]::uS 38 ([tB d]::uS 107 []))),nS 6 ((some ⟨y9,e,[]⟩)::nS 146 [])⟩ (aM aP (bD R) kk (sub [1,1] (cd Tryz.f114)) (aK aP Tryz.f114.results.toList none K))
def Hz(a:Int)(b:ByteArray)(c:Int)(d:aj):Option R:=ev aP (bD R) kk (sub [1,1] (cd Tryz.f114)) ⟨[tI a]::uS 1 ([tS b]::[tI c]::uS 1 ([.ptr 6 y9 []]::uS 146 [])),nS 6 ((some ⟨y9,d,[]⟩)::nS 146 [])⟩ (aK aP Tryz.f114.results.toList none K)
def HA(a:Int)(b:ByteArray)(c d:Int)(e:aj):Option R:=ev aP (bD R) kk (sub [1,1,1,0,1,0,1,1] (cd Tryz.f114)) ⟨[tI a]::uS 1 ([tS b]::uS 2 ([.ptr 6 y9 []]::uS 6 ([tI c]::[tI d]::uS 138 []))),nS 6 ((some ⟨y9,e,[]⟩)::nS 146 [])⟩ (aM aP (bD R) kk (sub [1,1,1,1] (cd Tryz.f114)) (aK aP Tryz.f114.results.toList none K))
def zN(a:Int)(b:ByteArray)(c d:Int)(e:aj):Option R:=ev aP (bD R) kk (sub [1,1,1,1] (cd Tryz.f114)) ⟨[tI a]::uS 1 ([tS b]::[tI c]::uS 1 ([.ptr 6 y9 []]::uS 5 ([tI d]::uS 140 []))),nS 6 ((some ⟨y9,e,[]⟩)::nS 146 [])⟩ (aK aP Tryz.f114.results.toList none K)
def HB(a:Int)(b:ByteArray)(c d:Int)(e:Bool)(f:aj):Option R:=ev aP (bD R) kk (sub [1,1,1,0,1,0,1,1,0,1] (cd Tryz.f114)) ⟨[tI a]::uS 1 ([tS b]::uS 2 ([.ptr 6 y9 []]::uS 6 ([tI c]::[tI d]::uS 58 ([tB e]::uS 79 [])))),nS 6 ((some ⟨y9,f,[]⟩)::nS 146 [])⟩ (aM aP (bD R) kk (sub [1,1,1,0,1,0,1,1,1] (cd Tryz.f114)) (aM aP (bD R) kk (sub [1,1,1,1] (cd Tryz.f114)) (aK aP Tryz.f114.results.toList none K)))
def HC(a:Int)(b:ByteArray)(c d e:Int)(f:Bool)(g:aj):Option R:=ev aP (bD R) kk (sub [1,1,1,1,1,0,1] (cd Tryz.f114)) ⟨[tI a]::uS 1 ([tS b]::[tI c]::uS 1 ([.ptr 6 y9 []]::uS 5 ([tI d]::uS 3 ([tI e]::uS 66 ([tB f]::uS 69 []))))),nS 6 ((some ⟨y9,g,[]⟩)::nS 146 [])⟩ (aM aP (bD R) kk (sub [1,1,1,1,1,1] (cd Tryz.f114)) (aK aP Tryz.f114.results.toList none K))
def HD(a:Int)(b:ByteArray)(c d:Int)(e:aj):Option R:=ev aP (bD R) kk (sub [1,1,1,0,1,0,1,1,1] (cd Tryz.f114)) ⟨[tI a]::uS 1 ([tS b]::uS 2 ([.ptr 6 y9 []]::uS 6 ([tI c]::[tI d]::uS 138 []))),nS 6 ((some ⟨y9,e,[]⟩)::nS 146 [])⟩ (aM aP (bD R) kk (sub [1,1,1,1] (cd Tryz.f114)) (aK aP Tryz.f114.results.toList none K))
def HE(a:Int)(b:ByteArray)(c d e:Int)(f:aj):Option R:=ev aP (bD R) kk (sub [1,1,1,1,1,1] (cd Tryz.f114)) ⟨[tI a]::uS 1 ([tS b]::[tI c]::uS 1 ([.ptr 6 y9 []]::uS 5 ([tI d]::uS 3 ([tI e]::uS 136 [])))),nS 6 ((some ⟨y9,f,[]⟩)::nS 146 [])⟩ (aK aP Tryz.f114.results.toList none K)
def HF(a:Int)(b:ByteArray)(c d e:Int)(f:Bool)(g:aj):Option R:=ev aP (bD R) kk (sub [1,1,1,1,1,1,0,1] (cd Tryz.f114)) ⟨[tI a]::uS 1 ([tS b]::[tI c]::uS 1 ([.ptr 6 y9 []]::uS 5 ([tI d]::uS 3 ([tI e]::uS 76 ([tB f]::uS 59 []))))),nS 6 ((some ⟨y9,g,[]⟩)::nS 146 [])⟩ (aM aP (bD R) kk (sub [1,1,1,1,1,1,1] (cd Tryz.f114)) (aK aP Tryz.f114.results.toList none K))
def HG(a:Int)(b:ByteArray)(c d e:Int)(f:aj):Option R:=ev aP (bD R) kk (sub [1,1,1,1,1,1,1] (cd Tryz.f114)) ⟨[tI a]::uS 1 ([tS b]::[tI c]::uS 1 ([.ptr 6 y9 []]::uS 5 ([tI d]::uS 3 ([tI e]::uS 136 [])))),nS 6 ((some ⟨y9,f,[]⟩)::nS 146 [])⟩ (aK aP Tryz.f114.results.toList none K)
def GK(a:Int)(b:ByteArray)(c d e:Int)(f:aj):Option R:=ev aP (bD R) kk (sub [1,1,1,1,1,1,1,1] (cd Tryz.f114)) ⟨[tI a]::uS 1 ([tS b]::[tI c]::uS 1 ([.ptr 6 y9 []]::uS 5 ([tI d]::uS 3 ([tI e]::uS 136 [])))),nS 6 ((some ⟨y9,f,[]⟩)::nS 146 [])⟩ (aK aP Tryz.f114.results.toList none K)
def GL(a b c d:Int)(e:ByteArray)(f:Bool)(g:aj):Option R:=ev aP (bD R) kk (sub [1,1,1,1,1,1,1,1,1,0,1] (cd Tryz.f114)) ⟨[tI a]::uS 2 ([tI b]::uS 1 ([.ptr 6 y9 []]::uS 5 ([tI c]::uS 3 ([tI d]::[tS e]::uS 97 ([tB f]::uS 37 []))))),nS 6 ((some ⟨y9,g,[]⟩)::nS 146 [])⟩ (aM aP (bD R) kk (sub [1,1,1,1,1,1,1,1,1,1] (cd Tryz.f114)) (aK aP Tryz.f114.results.toList none K))
def GM(a b c:Int)(d:ByteArray)(e:aj):Option R:=ev aP (bD R) kk (sub [1,1,1,1,1,1,1,1,1,0,1,0,1,1] (cd Tryz.f114)) ⟨[tI a]::uS 2 ([tI b]::uS 1 ([.ptr 6 y9 []]::uS 9 ([tI c]::uS 1 ([tS d]::uS 134 [])))),nS 6 ((some ⟨y9,e,[]⟩)::nS 146 [])⟩ (aM aP (bD R) kk (sub [1,1,1,1,1,1,1,1,1,1] (cd Tryz.f114)) (aK aP Tryz.f114.results.toList none K))
def zv7(a b c:Int)(d:ByteArray)(e:aj):Option R:=ev aP (bD R) kk (sub [1,1,1,1,1,1,1,1,1,1] (cd Tryz.f114)) ⟨[tI a]::uS 2 ([tI b]::uS 1 ([.ptr 6 y9 []]::uS 9 ([tI c]::[tS d]::uS 135 []))),nS 6 ((some ⟨y9,e,[]⟩)::nS 146 [])⟩ (aK aP Tryz.f114.results.toList none K)
def GN(a b:Int)(c:ByteArray)(d:Bool)(e:aj):Option R:=ev aP (bD R) kk (sub [1,1,1,1,1,1,1,1,1,1,0,1] (cd Tryz.f114)) ⟨uS 3 ([tI a]::uS 1 ([.ptr 6 y9 []]::uS 9 ([tI b]::[tS c]::uS 115 ([tB d]::uS 19 [])))),nS 6 ((some ⟨y9,e,[]⟩)::nS 146 [])⟩ (aM aP (bD R) kk (sub [1,1,1,1,1,1,1,1,1,1,1] (cd Tryz.f114)) (aK aP Tryz.f114.results.toList none K))
def GO(a b:Int)(c:ByteArray)(d:aj):Option R:=ev aP (bD R) kk (sub [1,1,1,1,1,1,1,1,1,1,0,1,0,1,1] (cd Tryz.f114)) ⟨uS 3 ([tI a]::uS 1 ([.ptr 6 y9 []]::uS 9 ([tI b]::uS 4 ([tS c]::uS 131 [])))),nS 6 ((some ⟨y9,d,[]⟩)::nS 146 [])⟩ (aM aP (bD R) kk (sub [1,1,1,1,1,1,1,1,1,1,1] (cd Tryz.f114)) (aK aP Tryz.f114.results.toList none K))
def zv8(a b:Int)(c:ByteArray)(d:aj):Option R:=ev aP (bD R) kk (sub [1,1,1,1,1,1,1,1,1,1,1] (cd Tryz.f114)) ⟨uS 3 ([tI a]::uS 1 ([.ptr 6 y9 []]::uS 9 ([tI b]::[tS c]::uS 135 []))),nS 6 ((some ⟨y9,d,[]⟩)::nS 146 [])⟩ (aK aP Tryz.f114.results.toList none K)
def GQ(a b:Int)(c:ByteArray):Option R:=ev aP (bD R) kk (sub [1,1,1,1,1,1,1,1,1,1,1,1] (cd Tryz.f114)) ⟨uS 3 ([tI a]::uS 11 ([tI b]::[tS c]::uS 135 [])),nS 153 []⟩ (aK aP Tryz.f114.results.toList none K)
theorem aaH(a:Int)(b:ByteArray)(c:Int)(d:Bool)(e:aj):Hy R kk K a b c d e=
 Pd a b c d e (fun a0 a1 a2=>K [tS a0,tI a1,tI a2] none) (fun a0 a1 a2 a3=>bP kk fun _=>Hz R kk K a0 a1 a2 a3):=by kernel_rfl
theorem aaI(a:Int)(b:ByteArray)(c:Int)(d:aj):Hz R kk K a b c d=
 Pe a b c d (fun a0 a1 a2=>K [tS a0,tI a1,tI a2] none) (fun a0 a1 a2 a3 a4=>bP kk fun _=>HA R kk K a0 a1 a2 a3 a4) (fun a0 a1 a2 a3 a4=>bP kk fun _=>zN R kk K a0 a1 a2 a3 a4):=by kernel_rfl
theorem aaJ(a:Int)(b:ByteArray)(c d:Int)(e:aj):HA R kk K a b c d e=
 Ce a b c d e (fun a0 a1 a2 a3 a4 a5=>bP kk fun _=>HB R kk K a0 a1 a2 a3 a4 a5):=by kernel_rfl
theorem aaK(a:Int)(b:ByteArray)(c d:Int)(e:aj):zN R kk K a b c d e=
 vh a b c d e (fun a0 a1 a2 a3 a4 a5 a6=>bP kk fun _=>HC R kk K a0 a1 a2 a3 a4 a5 a6):=by kernel_rfl
theorem aaL(a:Int)(b:ByteArray)(c d:Int)(e:Bool)(f:aj):HB R kk K a b c d e f=
 Pf a b c d e f (fun a0 a1 a2=>K [tS a0,tI a1,tI a2] none) (fun a0 a1 a2 a3 a4=>bP kk fun _=>HD R kk K a0 a1 a2 a3 a4):=by kernel_rfl
theorem aaM(a:Int)(b:ByteArray)(c d e:Int)(f:Bool)(g:aj):HC R kk K a b c d e f g=
 vi a b c d e f g (fun a0 a1 a2 a3 a4 a5=>bP kk fun _=>HE R kk K a0 a1 a2 a3 a4 a5):=by kernel_rfl
theorem aaN(a:Int)(b:ByteArray)(c d:Int)(e:aj):HD R kk K a b c d e=
 Pg a b c d e (fun a0 a1 a2 a3 a4=>bP kk fun _=>zN R kk K a0 a1 a2 a3 a4):=by kernel_rfl
theorem aaO(a:Int)(b:ByteArray)(c d e:Int)(f:aj):HE R kk K a b c d e f=
 vj a b c d e f (fun a0 a1 a2 a3 a4 a5 a6=>bP kk fun _=>HF R kk K a0 a1 a2 a3 a4 a5 a6):=by kernel_rfl
theorem aaP(a:Int)(b:ByteArray)(c d e:Int)(f:Bool)(g:aj):HF R kk K a b c d e f g=
 vk a b c d e f g (fun a0 a1 a2 a3 a4 a5=>bP kk fun _=>HG R kk K a0 a1 a2 a3 a4 a5):=by kernel_rfl
theorem aaQ(a:Int)(b:ByteArray)(c d e:Int)(f:aj):HG R kk K a b c d e f=
 As a b c d e f (fun a0 a1 a2=>K [tS a0,tI a1,tI a2] none) (fun a0 a1 a2 a3 a4 a5=>bP kk fun _=>GK R kk K a0 a1 a2 a3 a4 a5):=by kernel_rfl
theorem XY(a:Int)(b:ByteArray)(c d e:Int)(f:aj):GK R kk K a b c d e f=
 u6 a b c d e f (fun a0 a1 a2 a3 a4 a5 a6=>bP kk fun _=>GL R kk K a0 a1 a2 a3 a4 a5 a6):=by kernel_rfl
theorem XZ(a b c d:Int)(e:ByteArray)(f:Bool)(g:aj):GL R kk K a b c d e f g=
 At a b c d e f g (fun a0 a1 a2=>K [tS a0,tI a1,tI a2] none) (fun a0 a1 a2 a3 a4=>bP kk fun _=>GM R kk K a0 a1 a2 a3 a4) (fun a0 a1 a2 a3 a4=>bP kk fun _=>zv7 R kk K a0 a1 a2 a3 a4):=by kernel_rfl
theorem X2(a b c:Int)(d:ByteArray)(e:aj):GM R kk K a b c d e=
 Au a b c d e (fun a0 a1 a2 a3 a4=>bP kk fun _=>zv7 R kk K a0 a1 a2 a3 a4):=by kernel_rfl
theorem X3(a b c:Int)(d:ByteArray)(e:aj):zv7 R kk K a b c d e=
 u7 a b c d e (fun a0 a1 a2 a3 a4=>bP kk fun _=>GN R kk K a0 a1 a2 a3 a4):=by kernel_rfl
theorem X4(a b:Int)(c:ByteArray)(d:Bool)(e:aj):GN R kk K a b c d e=
 Av a b c d e (fun a0 a1 a2=>K [tS a0,tI a1,tI a2] none) (fun a0 a1 a2 a3=>bP kk fun _=>GO R kk K a0 a1 a2 a3) (fun a0 a1 a2 a3=>bP kk fun _=>zv8 R kk K a0 a1 a2 a3):=by kernel_rfl
theorem X5(a b:Int)(c:ByteArray)(d:aj):GO R kk K a b c d=
 Aw a b c d (fun a0 a1 a2 a3=>bP kk fun _=>zv8 R kk K a0 a1 a2 a3):=by kernel_rfl
theorem X6(a b:Int)(c:ByteArray)(d:aj):zv8 R kk K a b c d=
 Ax a b c d (fun a0 a1 a2=>K [tS a0,tI a1,tI a2] none) (fun a0 a1 a2=>bP kk fun _=>GQ R kk K a0 a1 a2):=by kernel_rfl
theorem X7(a b:Int)(c:ByteArray):GQ R kk K a b c=
 Ay a b c (fun a0 a1 a2=>K [tS a0,tI a1,tI a2] none):=by kernel_rfl
def nT:af:=bD.add 114 [(.int .i64),y9,.str,(.int .i64)] (yY (.int .i64) y9 .str (.int .i64) A0 (fun _ r K=>K [tS r.1,tI r.2.1,tI r.2.2] none))
theorem RF:aL Tryz.prog nT:=Bd aP Tryz.f114 (fun R kk x0 x1 x2 x3 K=>Cd x0 x1 x2 x3 (fun a0 a1 a2 a3 a4=>bP kk fun _=>Hy R kk K a0 a1 a2 a3 a4)) RE ((ek _ _ _ _).join _) Tryz.func114 (by kernel_rfl) rfl (fun _ _ _ _ _ _ h=>h _ _) (fun _ _ _ _ _ _ _=>by kernel_rfl) fun R kk e x0 x1 x2 x3 K=>by
 simp only[A0,SA,Pd,Pe,z130,z131,Pf,SB,Pg,SC,SD,As,Sc,At,Au,z107,Av,Aw,Ax,Ay,zO,Pc,zP,z40,zQ,B9,z105,Ca,Cb,Cc,BL,BM,BN,Aq,BO,BP,Ar,BQ,aaH,aaI,XY,XZ,X2,X3,X4,X5,X6,X7,aaJ,aaK,aaL,aaM,aaN,aaO,aaP,aaQ,acX (hF:=e),az]
def NE:Env:=b6.env (fun i=>bif Nat.beq i 19 then [1,2,4,5,6,9,10,12] else []) (fun i=>bif Nat.beq i 19 then [1,4,5,6,10] else []) [4,5] [aU,.str]
def Lg(a:ByteArray)(b:(List Int))(c d:Int)(e:ai)(f:ae)(g:aw)(h:ae):Option R:=ax (ev NE (nT R) kk (sub [1,1,1,1,1,1,1,1,1,1,1,1,0,1,0,0] (cd Tryz.f41))) [1,2,4,5,6,9,10,12] [1,4,5,6,10] k ⟨uS 1 ([tS a]::[.ptr 3 aU []]::uS 1 ([.ptr 5 y5 []]::[.ptr 6 (.pair (.int .i64) (.pair (.int .i64) .unit)) []]::[.ptr 7 y5 []]::uS 2 ([.ah (.sl 3 (.int .i64)) b []]::[tI c]::uS 1 ([tI d]::uS 124 [])))),nS 3 ((some ⟨aU,e,[]⟩)::nS 1 ((some ⟨y5,f,[[1]]⟩)::(some ⟨(.pair (.int .i64) (.pair (.int .i64) .unit)),g,[]⟩)::(some ⟨y5,h,[[1]]⟩)::nS 130 []))⟩ J
def zcn(a:ByteArray)(b:Int)(c:ae)(d:aw)(e:ae):State:=⟨uS 1 ([tS a]::uS 2 ([.ptr 5 y5 []]::[.ptr 6 (.pair (.int .i64) (.pair (.int .i64) .unit)) []]::[.ptr 7 y5 []]::uS 3 ([tI b]::uS 126 []))),nS 5 ((some ⟨y5,c,[[1]]⟩)::(some ⟨(.pair (.int .i64) (.pair (.int .i64) .unit)),d,[]⟩)::(some ⟨y5,e,[]⟩)::nS 130 [])⟩
def zco(a:ByteArray)(b:Int)(c:ae)(d:aw)(e:ae):State:=⟨uS 1 ([tS a]::uS 2 ([.ptr 5 y5 []]::[.ptr 6 (.pair (.int .i64) (.pair (.int .i64) .unit)) []]::[.ptr 7 y5 []]::uS 3 ([tI b]::uS 126 []))),nS 5 ((some ⟨y5,c,[[1]]⟩)::(some ⟨(.pair (.int .i64) (.pair (.int .i64) .unit)),d,[]⟩)::(some ⟨y5,e,[[1]]⟩)::nS 130 [])⟩
def zrx:KX R:=(zl 0 (aM NE (nT R) kk (sub [1,1,1,1,1,1,1,1,1,1,1,1,1] (cd Tryz.f41)) (aK NE Tryz.f41.results.toList none K)))
theorem ZG(a:ByteArray)(b:(List Int))(c d:Int)(e:ai)(f:ae)(g:aw)(h:ae):Lg R kk (k+1) J a b c d e f g h=
 Iz a b c d e f g h (fun a0 a1 a2 a3 a4=>J .ret (zcn a0 a1 a2 a3 a4)) (Lg R kk k J) (fun a0 a1 a2 a3 a4=>J (.exit 0) (zco a0 a1 a2 a3 a4)):=by kernel_rfl
theorem TV(a:ByteArray)(b:Int)(c:ae)(d:aw)(e:ae):zrx R kk K .ret (zcn a b c d e)=
 zry a b c d e (fun a0 a1=>K [.ah y5 a0 [[1]],.ah (.pair (.int .i64) (.pair (.int .i64) .unit)) a1 []] none):=by kernel_rfl
theorem TW(a:ByteArray)(b:Int)(c:ae)(d:aw)(e:ae):zrx R kk K (.exit 0) (zco a b c d e)=
 zrz a b c d e (fun a0 a1=>K [.ah y5 a0 [[1]],.ah (.pair (.int .i64) (.pair (.int .i64) .unit)) a1 []] none):=by kernel_rfl
theorem WN{kk:Nat}(hF:kk=ag)(yc:ByteArray)(t9:(List Int))(t10 t12:Int)(df:ai)(cC:ae)(eP:aw)(gH:ae):Lg R kk k J yc t9 t10 t12 df cC eP gH=(xC k yc t9 t10 t12 df cC eP gH).bind fun e=>(Sum.elim (fun(we:ij)=>J .ret (zcn we.1 we.2.1 we.2.2.1 we.2.2.2.1 we.2.2.2.2)) (fun(we:ij)=>J (.exit 0) (zco we.1 we.2.1 we.2.2.1 we.2.2.2.1 we.2.2.2.2)) e):=by
 induction k generalizing yc t9 t10 t12 df cC eP gH with
 |zero=>rfl
 |succ k ih=>
  rw[ZG]
  simp only[xC,Iz,ih,az]
def nU:af:=nT.add 41 [aU,.str] (c9 aU .str pT (fun _ r K=>K [.ah y5 r.1 [[1]],.ah (.pair (.int .i64) (.pair (.int .i64) .unit)) r.2 []] none))
theorem RG:aL Tryz.prog nU:=dm NE Tryz.f41 (fun R kk x0 x1 K=>BC x0 x1 (fun a0 a1=>K [.ah y5 a0 [[1]],.ah (.pair (.int .i64) (.pair (.int .i64) .unit)) a1 []] none) (fun a0 a1 a2 a3 a4 a5 a6 a7=>Lg R kk kk (zrx R kk K) a0 a1 a2 a3 a4 a5 a6 a7)) RF (ek _ _ _ _) Tryz.func41 (by kernel_rfl) rfl (fun _ _ _ _ _ _ h=>h _ _) (fun _ _ _ _ _=>by kernel_rfl) fun R kk e x0 x1 K=>by
 simp only[pT,zyr,zry,zrz,WN (hF:=e),TV,TW,az,<-e]
def ND:Env:=b6.env (fun i=>bif Nat.beq i 7 then [2,3,4,5,6] else []) (fun i=>bif Nat.beq i 7 then [4] else []) [4] [aU,y5]
def Le(a b:Int)(c:ai)(d:ae)(e:aw):Option R:=ax (ev ND (nU R) kk (sub [1,1,1,1,0,1,0,0] (cd Tryz.f44))) [2,3,4,5,6] [4] k ⟨uS 2 ([.ptr 3 aU []]::[.ptr 4 y5 []]::[.ptr 5 (.pair (.int .i64) (.pair (.int .i64) .unit)) []]::[tI a]::[tI b]::uS 66 []),nS 3 ((some ⟨aU,c,[]⟩)::(some ⟨y5,d,[]⟩)::(some ⟨(.pair (.int .i64) (.pair (.int .i64) .unit)),e,[]⟩)::nS 68 [])⟩ J
def zcl(a:aw):State:=⟨uS 4 ([.ptr 5 (.pair (.int .i64) (.pair (.int .i64) .unit)) []]::uS 68 []),nS 5 ((some ⟨(.pair (.int .i64) (.pair (.int .i64) .unit)),a,[]⟩)::nS 68 [])⟩
def zcm(a:aw):State:=⟨uS 4 ([.ptr 5 (.pair (.int .i64) (.pair (.int .i64) .unit)) []]::uS 68 []),nS 5 ((some ⟨(.pair (.int .i64) (.pair (.int .i64) .unit)),a,[]⟩)::nS 68 [])⟩
def zru:KX R:=(zl 0 (aM ND (nU R) kk (sub [1,1,1,1,1] (cd Tryz.f44)) (aK ND Tryz.f44.results.toList none K)))
theorem ZF(a b:Int)(c:ai)(d:ae)(e:aw):Le R kk (k+1) J a b c d e=
 Iy a b c d e (fun a0=>J .ret (zcl a0)) (Le R kk k J) (fun a0=>J (.exit 0) (zcm a0)):=by kernel_rfl
theorem TT(a:aw):zru R kk K .ret (zcl a)=
 zrv a (fun a0=>K [.ah (.pair (.int .i64) (.pair (.int .i64) .unit)) a0 []] none):=by kernel_rfl
theorem TU(a:aw):zru R kk K (.exit 0) (zcm a)=
 zrw a (fun a0=>K [.ah (.pair (.int .i64) (.pair (.int .i64) .unit)) a0 []] none):=by kernel_rfl
theorem WM{kk:Nat}(hF:kk=ag)(t5 t6:Int)(df:ai)(fK:ae)(cC:aw):Le R kk k J t5 t6 df fK cC=(sG k t5 t6 df fK cC).bind fun e=>(Sum.elim (fun(we:aw)=>J .ret (zcl we)) (fun(we:aw)=>J (.exit 0) (zcm we)) e):=by
 induction k generalizing t5 t6 df fK cC with
 |zero=>rfl
 |succ k ih=>
  rw[ZF]
  simp only[sG,Iy,ih,az]
def wj:af:=nU.add 44 [aU,y5] (c9 aU y5 pS (fun _ r K=>K [.ah (.pair (.int .i64) (.pair (.int .i64) .unit)) r []] none))
theorem RH:aL Tryz.prog wj:=dm ND Tryz.f44 (fun R kk x0 x1 K=>Lf x0 x1 (fun a0=>K [.ah (.pair (.int .i64) (.pair (.int .i64) .unit)) a0 []] none) (Le R kk kk (zru R kk K))) RG (ek _ _ _ _) Tryz.func44 (by kernel_rfl) rfl (fun _ _ _ _ _ _ h=>h _ _) (fun _ _ _ _ _=>by kernel_rfl) fun R kk e x0 x1 K=>by
 simp only[pS,Lf,zrv,zrw,WM (hF:=e),TT,TU,az,<-e]
def abL:Env:={e0 [aU,.str] with ro:=true}
def wk:af:=wj.add 17 [aU,.str] (c9 aU .str ot (fun _ r K=>K [.ah y5 r.1 [],tB r.2] none))
theorem RI:aL Tryz.prog wk:=dm abL Tryz.f17 (fun R kk x0 x1 K=>Ls x0 x1 (fun a0 a1=>K [.ah y5 a0 [],tB a1] none)) RH ((ek _ _ _ _).ro _) Tryz.func17 (by kernel_rfl) rfl (fun _ _ _ _ _ _ h=>h _ _) (fun _ _ _ _ _=>by kernel_rfl) fun R kk e x0 x1 K=>by
 simp only[ot,Ls,az]
def abH:Env:=e0 [.str]
def wl:af:=wk.add 19 [.str] (cG .str oo (fun _ r K=>K [tB r] none))
theorem RJ:aL Tryz.prog wl:=cJ abH Tryz.f19 (fun R kk x0 K=>Lc x0 (fun a0=>K [tB a0] none)) RI (ek _ _ _ _) Tryz.func19 (by kernel_rfl) rfl (fun _ _ _ _ _ _ h=>h _ _) (fun _ _ _ _=>by kernel_rfl) fun R kk e x0 K=>by
 simp only[oo,Lc,az]
def CS:Env:=e0 [kK,(.int .i64),.str]
def wo:af:=wl.add 6 [kK,(.int .i64),.str] (kE kK (.int .i64) .str CR (fun _ r K=>K [tB r] none))
theorem RK:aL Tryz.prog wo:=kV CS Tryz.f6 (fun R kk x0 x1 x2 K=>OH x0 x1 x2 (fun a0=>K [tB a0] none)) RJ (ek _ _ _ _) Tryz.func6 (by kernel_rfl) rfl (fun _ _ _ _ _ _ h=>h _ _) (fun _ _ _ _ _ _=>by kernel_rfl) fun R kk e x0 x1 x2 K=>by
 simp only[CR,OH,az]
end
end Go.Proofs.YtkgpjibbdpikcaaGreatDoor

