/- No condition. -/
import Derived.Test.YtpjkbbihjoflnaaGreatDoorK4
set_option linter.unusedVariables false
set_option linter.unusedSimpArgs false
set_option maxRecDepth 100000
namespace Go.Proofs.YtpjkbbihjoflnaaGreatDoor
noncomputable section
open Go Go.Ref bp
variable (R:Type) (kk k:Nat) (K:KF R) (J:KX R)
theorem alM(a:bT)(b c:Int)(d e:af)(f g:aR):VH R kk (k+1) J a b c d e f g=
 C5 a b c d e f g (fun a0 a1 a2=>J .ret (zgm a0 a1 a2)) (VH R kk k J) (J (.exit 5) (zgn)):=by kernel_rfl
theorem afw(a b c:Int):C1 R kk K .ret (zgm a b c)=
 C6 a b c (fun a0 a1 a2=>K [tI a0,tI a1,tI a2] none):=by kernel_rfl
theorem afx:C1 R kk K (.exit 5) (zgn)=
 C7 (fun a0 a1 a2=>K [tI a0,tI a1,tI a2] none):=by kernel_rfl
theorem aiH{kk:Nat}(hF:kk=ai)(t26:oe)(t27 t28:Int)(dH:ay)(cQ du:af):VF R kk k J t26 t27 t28 dH cQ du=(G1 k t26 t27 t28 dH cQ du).bind fun e=>(Sum.elim (fun(we:lY)=>J .ret (zgi we.1 we.2.1 we.2.2.1 we.2.2.2.1 we.2.2.2.2.1 we.2.2.2.2.2)) (fun(we:lX)=>J (.exit 0) (zgj we.1 we.2.1 we.2.2)) e):=by
 induction k generalizing t26 t27 t28 dH cQ du with
 |zero=>rfl
 |succ k ih=>
  rw[alK]
  simp only[G1,VJ,ih,aD]
theorem aiI{kk:Nat}(hF:kk=ai)(t48:aO)(t49 t50:Int)(dH:ay)(cQ du:af)(BO:io):VG R kk k J t48 t49 t50 dH cQ du BO=(G2 k t48 t49 t50 dH cQ du BO).bind fun e=>(Sum.elim (fun(we:lY)=>J .ret (zgk we.1 we.2.1 we.2.2.1 we.2.2.2.1 we.2.2.2.2.1 we.2.2.2.2.2)) (fun(we:lX)=>J (.exit 2) (zgl we.1 we.2.1 we.2.2)) e):=by
 induction k generalizing t48 t49 t50 dH cQ du BO with
 |zero=>rfl
 |succ k ih=>
  rw[alL]
  simp only[G2,C3,ih,aD]
theorem aiJ{kk:Nat}(hF:kk=ai)(t77:bT)(t78 t79:Int)(cQ du:af)(j5 BP:aR):VH R kk k J t77 t78 t79 cQ du j5 BP=(QD k t77 t78 t79 cQ du j5 BP).bind fun e=>(Sum.elim (fun(we:jy)=>J .ret (zgm we.1 we.2.1 we.2.2)) (fun(we:Unit)=>J (.exit 5) (zgn)) e):=by
 induction k generalizing t77 t78 t79 cQ du j5 BP with
 |zero=>rfl
 |succ k ih=>
  rw[alM]
  simp only[QD,C5,ih,aD]
def wS:ah:=mS.add 56 [cD,aK,aK] (kH cD aK aK qR (fun _ r K=>K [tI r.1,tI r.2.1,tI r.2.2] none))
theorem o85:aP Tryz.prog wS:=kW vG Tryz.f56 (fun R kk x0 x1 x2 K=>VI x0 x1 x2 (VF R kk kk (CY R kk K))) o84 (ek _ _ _ _) Tryz.func56 (by kernel_rfl) rfl (fun _ _ _ _ _ _ h=>h _ _) (fun _ _ _ _ _ _=>by kernel_rfl) fun R kk e x0 x1 x2 K=>by
 simp only[qR,VI,C2,VK,C4,VL,C6,C7,aiH (hF:=e),aiI (hF:=e),aiJ (hF:=e),afr,afs,afu,afv,afw,afx,aD,<-e]
def WN:Env:=b9.env (fun i=>bif Nat.beq i 4 then [1,22,23] else []) (fun i=>bif Nat.beq i 4 then [2,3,4] else []) [] [bA]
def US(a:mU)(b:Int)(c:aq):Option R:=aB (ev WN (wS R) kk (sub [1,1,0,1,0,0] (cd Tryz.f36))) [1,22,23] [2,3,4] k ⟨uS 1 ([.ptr 2 bA []]::uS 20 ([.ak (.arr 2 cw) a []]::[tI b]::uS 33 [])),nS 2 ((some ⟨bA,c,[]⟩)::nS 55 [])⟩ J
def zfv(a b c:Int):State:=⟨uS 2 ([tI a]::[tI b]::[tI c]::uS 52 []),nS 58 []⟩
def zfw:State:=⟨uS 57 [],nS 58 []⟩
def zzc:KX R:=(zj 0 (aU WN (wS R) kk (sub [1,1,1] (cd Tryz.f36)) (aS WN Tryz.f36.results.toList none K)))
theorem alv(a:mU)(b:Int)(c:aq):US R kk (k+1) J a b c=
 GV a b c (fun a0 a1 a2=>J .ret (zfv a0 a1 a2)) (US R kk k J) (J (.exit 0) (zfw)):=by kernel_rfl
theorem ae6(a b c:Int):zzc R kk K .ret (zfv a b c)=
 zzd a b c (fun a0 a1 a2=>K [tI a0,tI a1,tI a2] none):=by kernel_rfl
theorem ae7:zzc R kk K (.exit 0) (zfw)=
 zze (fun a0 a1 a2=>K [tI a0,tI a1,tI a2] none):=by kernel_rfl
theorem air{kk:Nat}(hF:kk=ai)(t22:mU)(t23:Int)(cZ:aq):US R kk k J t22 t23 cZ=(Ft k t22 t23 cZ).bind fun e=>(Sum.elim (fun(we:jy)=>J .ret (zfv we.1 we.2.1 we.2.2)) (fun(we:Unit)=>J (.exit 0) (zfw)) e):=by
 induction k generalizing t22 t23 cZ with
 |zero=>rfl
 |succ k ih=>
  rw[alv]
  simp only[Ft,GV,ih,aD]
def wT:ah:=wS.add 36 [bA] (cO bA qP (fun _ r K=>K [tI r.1,tI r.2.1,tI r.2.2] none))
theorem o86:aP Tryz.prog wT:=cP WN Tryz.f36 (fun R kk x0 K=>UT x0 (fun a0 a1 a2=>K [tI a0,tI a1,tI a2] none) (US R kk kk (zzc R kk K))) o85 (ek _ _ _ _) Tryz.func36 (by kernel_rfl) rfl (fun _ _ _ _ _ _ h=>h _ _) (fun _ _ _ _=>by kernel_rfl) fun R kk e x0 K=>by
 simp only[qP,UT,zzd,zze,air (hF:=e),ae6,ae7,aD,<-e]
def pq:Env:=b9.env (fun i=>bif Nat.beq i 5 then [1,2,3,25,26,27] else []) (fun i=>bif Nat.beq i 5 then [1,2,3] else []) [2] [cw]
def XH(a b:bT)(c d:Int)(e f:au):Option R:=aB (ev pq (wT R) kk (sub [1,1,1,1,0,1,0,0] (cd Tryz.f37))) [1,2,3,25,26,27] [1,2,3] k ⟨uS 1 ([.ptr 2 cw []]::[.ptr 3 cw []]::[.ak (.sl 102 cA) a [[]]]::uS 21 ([.ak (.sl 102 cA) b []]::[tI c]::[tI d]::uS 24 [])),nS 2 ((some ⟨cw,e,[[0,2],[1,0]]⟩)::(some ⟨cw,f,[[0,2],[1,0],[1,1],[2],[3]]⟩)::nS 49 [])⟩ J
def zpp(a:bT)(b c:au):State:=⟨uS 1 ([.ptr 2 cw []]::[.ptr 3 cw []]::[.ak (.sl 102 cA) a [[]]]::uS 48 []),nS 2 ((some ⟨cw,b,[[0,2],[1,0]]⟩)::(some ⟨cw,c,[[0,2],[1,0],[1,1],[2],[3]]⟩)::nS 49 [])⟩
def O3:KX R:=(zj 0 (aU pq (wT R) kk (sub [1,1,1,1,1] (cd Tryz.f37)) (aS pq Tryz.f37.results.toList none K)))
theorem an7(a b:bT)(c d:Int)(e f:au):XH R kk (k+1) J a b c d e f=
 D4 a b c d e f (XH R kk k J) (fun a0 a1 a2=>J (.exit 0) (zpp a0 a1 a2)):=by kernel_rfl
theorem aiY(a:bT)(b c:au):O3 R kk K (.exit 0) (zpp a b c)=
 XJ a b c (fun a0=>K [.ak cw a0 [[3],[2],[0,2],[1,0]]] none):=by kernel_rfl
theorem al0{kk:Nat}(hF:kk=ai)(t3 t25:bT)(t26 t27:Int)(cZ df:au):XH R kk k J t3 t25 t26 t27 cZ df=(Rg k t3 t25 t26 t27 cZ df).bind fun e=>J (.exit 0) (zpp e.1 e.2.1 e.2.2):=by
 induction k generalizing t3 t25 t26 t27 cZ df with
 |zero=>rfl
 |succ k ih=>
  rw[an7]
  simp only[Rg,D4,ih,aD]
def Jt:ah:=wT.add 37 [cw] (cO cw H9 (fun _ r K=>K [.ak cw r [[3],[2],[0,2],[1,0]]] none))
theorem o87:aP Tryz.prog Jt:=cP pq Tryz.f37 (fun R kk x0 K=>XI x0 (XH R kk kk (O3 R kk K))) o86 (ek _ _ _ _) Tryz.func37 (by kernel_rfl) rfl (fun _ _ _ _ _ _ h=>h _ _) (fun _ _ _ _=>by kernel_rfl) fun R kk e x0 K=>by
 simp only[H9,XI,XJ,al0 (hF:=e),aiY,aD,<-e]
def H0:Env:=e0 [(.int .i64)]
def wU:ah:=Jt.add 38 [(.int .i64)] (cO (.int .i64) HZ (fun _ r K=>(Sum.elim (fun(wr:Int)=>K [.dS,tI wr] none) (fun(wr:tK)=>K [.ptr 0 y6 [],tI wr.1] (some ⟨y6,wr.2,[[2]]⟩)) r)))
theorem o88:aP Tryz.prog wU:=cP H0 Tryz.f38 (fun R kk x0 K=>Xx x0 (fun a0=>K [.dS,tI a0] none) (fun a0 a1=>K [.ptr 0 y6 [],tI a0] (some ⟨y6,a1,[[2]]⟩))) o87 (ek _ _ _ _) Tryz.func38 (by kernel_rfl) rfl (fun _ _ _ _ _ _ h=>QT (fun _=>h _ _) (fun _=>h _ _)) (fun _ _ _ _=>by kernel_rfl) fun R kk e x0 K=>by
 simp only[HZ,Xx,aD]
def po:Env:={{b9.env (fun i=>bif Nat.beq i 6 then [1,7,19,20] else []) (fun i=>bif Nat.beq i 6 then [7,19] else []) [] [bA] with sg:=some (4,9,7)} with gr:=fun t=>bif Nat.beq t 87 then some (bA,y6) else none,ga:=fun t=>Nat.beq t 85}
def XE(a:Int)(b:aq)(c:(aq×(Option ag×Option ag)×Int)):Option R:=aB (ev po (wU R) kk (sub [1,1,1,0,1,0,0] (cd Tryz.f12))) [1,7,19,20] [7,19] k ⟨uS 1 ([.ptr 2 bA []]::uS 5 ([.ptr 20 (.aG .bB bA y6) []]::uS 12 ([tI a]::uS 26 []))),nS 2 ((some ⟨bA,b,[]⟩)::nS 17 ((some ⟨(.aG .bB bA y6),c,[[],[0],[0,2],[1],[1,2]]⟩)::nS 27 []))⟩ J
def zpo(a:(aq×(Option ag×Option ag)×Int)):State:=⟨uS 7 ([.ptr 20 (.aG .bB bA y6) []]::uS 39 []),nS 20 ((some ⟨(.aG .bB bA y6),a,[[],[0],[0,2],[1],[1,2]]⟩)::nS 27 [])⟩
def O2:KX R:=(zj 0 (aU po (wU R) kk (sub [1,1,1,1] (cd Tryz.f12)) (aS po Tryz.f12.results.toList none K)))
theorem an6(a:Int)(b:aq)(c:(aq×(Option ag×Option ag)×Int)):XE R kk (k+1) J a b c=
 Hd a b c (XE R kk k J) (fun a0=>J (.exit 0) (zpo a0)):=by kernel_rfl
theorem aiX(a:(aq×(Option ag×Option ag)×Int)):O2 R kk K (.exit 0) (zpo a)=
 D3 a (fun a0 a1=>K [.ptr 0 (.aG .bB bA y6) [],tI a0] (some ⟨(.aG .bB bA y6),a1,[[],[0],[0,2],[1],[1,2]]⟩)):=by kernel_rfl
theorem alZ{kk:Nat}(hF:kk=ai)(t20:Int)(cZ:aq)(l4:(aq×(Option ag×Option ag)×Int)):XE R kk k J t20 cZ l4=(FH k t20 cZ l4).bind fun e=>J (.exit 0) (zpo e):=by
 induction k generalizing t20 cZ l4 with
 |zero=>rfl
 |succ k ih=>
  rw[an6]
  simp only[FH,Hd,ih,aD]
def Ju:ah:=wU.add 12 [bA] (cO bA yw (fun _ r K=>(Sum.elim (fun(wr:Int)=>K [.dS,tI wr] none) (fun(wr:(Int×(aq×(Option ag×Option ag)×Int)))=>K [.ptr 0 (.aG .bB bA y6) [],tI wr.1] (some ⟨(.aG .bB bA y6),wr.2,[[],[0],[0,2],[1],[1,2]]⟩)) r)))
theorem o89:aP Tryz.prog Ju:=cP po Tryz.f12 (fun R kk x0 K=>XF x0 (fun a0=>K [.dS,tI a0] none) (XE R kk kk (O2 R kk K))) o88 (((ek _ _ _ _).sg _).bB 87 85 bA y6 (by kernel_rfl) (by kernel_rfl) (by kernel_rfl) (by kernel_rfl)) Tryz.func12 (by kernel_rfl) rfl (fun _ _ _ _ _ _ h=>QT (fun _=>h _ _) (fun _=>h _ _)) (fun _ _ _ _=>by kernel_rfl) fun R kk e x0 K=>by
 simp only[yw,XF,D3,alZ (hF:=e),aiX,aD,<-e]
def Ic:Env:=e0 [bA,(.sl 57 (.pair (.int .i64) (.pair .str .unit))),(.int .i64)]
def wV:ah:=Ju.add 18 [bA,(.sl 57 (.pair (.int .i64) (.pair .str .unit))),(.int .i64)] (kH bA (.sl 57 (.pair (.int .i64) (.pair .str .unit))) (.int .i64) FW (fun _ r K=>(Sum.elim (fun(wr:Unit)=>K [.dS,tB false] none) (fun(wr:(Bool×(aq×(Option ag×Option ag)×Int)))=>K [.ptr 0 (.aG .bB bA y6) [],tB wr.1] (some ⟨(.aG .bB bA y6),wr.2,[[],[0],[0,2],[1],[1,2]]⟩)) r)))
theorem o90:aP Tryz.prog wV:=kW Ic Tryz.f18 (fun R kk x0 x1 x2 K=>XQ x0 x1 x2 (K [.dS,tB false] none) (fun a0 a1=>K [.ptr 0 (.aG .bB bA y6) [],tB a0] (some ⟨(.aG .bB bA y6),a1,[[],[0],[0,2],[1],[1,2]]⟩))) o89 (ek _ _ _ _) Tryz.func18 (by kernel_rfl) rfl (fun _ _ _ _ _ _ h=>QT (fun _=>h _ _) (fun _=>h _ _)) (fun _ _ _ _ _ _=>by kernel_rfl) fun R kk e x0 x1 x2 K=>by
 simp only[FW,XQ,aD]
def Wv:Env:=b9.env (fun i=>bif Nat.beq i 3 then [0,3,4] else []) (fun i=>bif Nat.beq i 3 then [3] else []) [] [(.sl 9 .str)]
def T4(a:(List ByteArray))(b:aO)(c:Int):Option R:=aB (ev Wv (wV R) kk (sub [1,1,0,1,0,0] (cd Tryz.f50))) [0,3,4] [3] k ⟨[.ak (.sl 9 .str) a []]::uS 2 ([.ak (.sl 109 (.pair .str (.pair .str .unit))) b [[]]]::[tI c]::uS 21 []),nS 27 []⟩ J
def zf2(a:aO):State:=⟨uS 3 ([.ak (.sl 109 (.pair .str (.pair .str .unit))) a [[]]]::uS 22 []),nS 27 []⟩
def N2:KX R:=(zj 0 (aU Wv (wV R) kk (sub [1,1,1] (cd Tryz.f50)) (aS Wv Tryz.f50.results.toList none K)))
theorem alb(a:(List ByteArray))(b:aO)(c:Int):T4 R kk (k+1) J a b c=
 zy2 a b c (T4 R kk k J) (fun a0=>J (.exit 0) (zf2 a0)):=by kernel_rfl
theorem aeF(a:aO):N2 R kk K (.exit 0) (zf2 a)=
 zy3 a (fun a0=>K [.ak (.sl 109 (.pair .str (.pair .str .unit))) a0 []] none):=by kernel_rfl
theorem ah7{kk:Nat}(hF:kk=ai)(gl:(List ByteArray))(t3:aO)(t4:Int):T4 R kk k J gl t3 t4=(T5 k gl t3 t4).bind fun e=>J (.exit 0) (zf2 e):=by
 induction k generalizing gl t3 t4 with
 |zero=>rfl
 |succ k ih=>
  rw[alb]
  simp only[T5,zy2,ih,aD]
def Jv:ah:=wV.add 50 [(.sl 9 .str)] (cO (.sl 9 .str) sU (fun _ r K=>K [.ak (.sl 109 (.pair .str (.pair .str .unit))) r []] none))
theorem o91:aP Tryz.prog Jv:=cP Wv Tryz.f50 (fun R kk x0 K=>zy1 x0 (T4 R kk kk (N2 R kk K))) o90 (ek _ _ _ _) Tryz.func50 (by kernel_rfl) rfl (fun _ _ _ _ _ _ h=>h _ _) (fun _ _ _ _=>by kernel_rfl) fun R kk e x0 K=>by
 simp only[sU,zy1,zy3,ah7 (hF:=e),aeF,aD,<-e]
def IA:Env:=e0 []
def wW:ah:=Jv.add 66 [] (Gk YG (fun _ r K=>K [.ak (.sl 3 (.int .i64)) r [[]]] none))
theorem o92:aP Tryz.prog wW:=KZ IA Tryz.f66 (fun R kk K=>Ez (fun a0=>K [.ak (.sl 3 (.int .i64)) a0 [[]]] none)) o91 (ek _ _ _ _) Tryz.func66 (by kernel_rfl) rfl (fun _ _ _ _ _ _ h=>h _ _) (fun _ _ _=>by kernel_rfl) fun R kk e K=>by
 simp only[YG,Ez,aD]
def Wu:Env:={b9.env (fun i=>bif Nat.beq i 4 then [1,2,3] else []) (fun i=>bif Nat.beq i 4 then [1] else []) [] [] with mv:=[31]}
def T1(a:bT)(b:(List Int))(c:Int):Option R:=aB (ev Wu (wW R) kk (sub [1,1,1,0,1,0,0] (cd Tryz.f48))) [1,2,3] [1] k ⟨uS 1 ([.ak (.sl 102 cA) a [[]]]::[.ak (.sl 3 (.int .i64)) b [[]]]::[tI c]::uS 28 []),nS 33 []⟩ J
def zf1(a:bT):State:=⟨uS 1 ([.ak (.sl 102 cA) a [[]]]::uS 30 []),nS 33 []⟩
def N1:KX R:=(zj 0 (aU Wu (wW R) kk (sub [1,1,1,1] (cd Tryz.f48)) (aS Wu Tryz.f48.results.toList none K)))
theorem ala(a:bT)(b:(List Int))(c:Int):T1 R kk (k+1) J a b c=
 zxz a b c (T1 R kk k J) (fun a0=>J (.exit 0) (zf1 a0)):=by kernel_rfl
theorem aeE(a:bT):N1 R kk K (.exit 0) (zf1 a)=
 zy0 a (fun a0=>K [.ak (.sl 102 cA) a0 [[]]] none):=by kernel_rfl
theorem ah6{kk:Nat}(hF:kk=ai)(t1:bT)(t2:(List Int))(t3:Int):T1 R kk k J t1 t2 t3=(T3 k t1 t2 t3).bind fun e=>J (.exit 0) (zf1 e):=by
 induction k generalizing t1 t2 t3 with
 |zero=>rfl
 |succ k ih=>
  rw[ala]
  simp only[T3,zxz,ih,aD]
def wX:ah:=wW.add 48 [] (Gk vP (fun _ r K=>K [.ak (.sl 102 cA) r [[]]] none))
theorem o93:aP Tryz.prog wX:=KZ Wu Tryz.f48 (fun R kk K=>zxy (T1 R kk kk (N1 R kk K))) o92 ((ek _ _ _ _).mv _) Tryz.func48 (by kernel_rfl) rfl (fun _ _ _ _ _ _ h=>h _ _) (fun _ _ _=>by kernel_rfl) fun R kk e K=>by
 simp only[vP,zxy,zy0,ah6 (hF:=e),aeE,aD,<-e]
def Wj:Env:=b9.env (fun i=>bif Nat.beq i 3 then [0,3,4] else []) (fun i=>bif Nat.beq i 3 then [3] else []) [] [(.sl 109 (.pair .str (.pair .str .unit)))]
def Tj(a b:aO)(c:Int):Option R:=aB (ev Wj (wX R) kk (sub [1,1,0,1,0,0] (cd Tryz.f51))) [0,3,4] [3] k ⟨[.ak (.sl 109 (.pair .str (.pair .str .unit))) a []]::uS 2 ([.ak (.sl 109 (.pair .str (.pair .str .unit))) b [[]]]::[tI c]::uS 22 []),nS 28 []⟩ J
def zea(a:aO):State:=⟨uS 3 ([.ak (.sl 109 (.pair .str (.pair .str .unit))) a [[]]]::uS 23 []),nS 28 []⟩
def NO:KX R:=(zj 0 (aU Wj (wX R) kk (sub [1,1,1] (cd Tryz.f51)) (aS Wj Tryz.f51.results.toList none K)))
theorem akU(a b:aO)(c:Int):Tj R kk (k+1) J a b c=
 zwk a b c (Tj R kk k J) (fun a0=>J (.exit 0) (zea a0)):=by kernel_rfl
theorem ad6(a:aO):NO R kk K (.exit 0) (zea a)=
 zwl a (fun a0=>K [.ak (.sl 109 (.pair .str (.pair .str .unit))) a0 []] none):=by kernel_rfl
theorem ahG{kk:Nat}(hF:kk=ai)(gl t3:aO)(t4:Int):Tj R kk k J gl t3 t4=(Tk k gl t3 t4).bind fun e=>J (.exit 0) (zea e):=by
 induction k generalizing gl t3 t4 with
 |zero=>rfl
 |succ k ih=>
  rw[akU]
  simp only[Tk,zwk,ih,aD]
def Jw:ah:=wX.add 51 [(.sl 109 (.pair .str (.pair .str .unit)))] (cO (.sl 109 (.pair .str (.pair .str .unit))) sK (fun _ r K=>K [.ak (.sl 109 (.pair .str (.pair .str .unit))) r []] none))
theorem o94:aP Tryz.prog Jw:=cP Wj Tryz.f51 (fun R kk x0 K=>zwj x0 (Tj R kk kk (NO R kk K))) o93 (ek _ _ _ _) Tryz.func51 (by kernel_rfl) rfl (fun _ _ _ _ _ _ h=>h _ _) (fun _ _ _ _=>by kernel_rfl) fun R kk e x0 K=>by
 simp only[sK,zwj,zwl,ahG (hF:=e),ad6,aD,<-e]
def IB:Env:=e0 []
def wY:ah:=Jw.add 67 [] (Gk YH (fun _ r K=>K [.ak (.sl 29 (.sl 3 (.int .i64))) r [[]]] none))
theorem o95:aP Tryz.prog wY:=KZ IB Tryz.f67 (fun R kk K=>ED (fun a0=>K [.ak (.sl 29 (.sl 3 (.int .i64))) a0 [[]]] none)) o94 (ek _ _ _ _) Tryz.func67 (by kernel_rfl) rfl (fun _ _ _ _ _ _ h=>h _ _) (fun _ _ _=>by kernel_rfl) fun R kk e K=>by
 simp only[YH,ED,aD]
def pO:Env:=b9.env (fun i=>bif Nat.beq i 4 then [0,2,3,4,5] else []) (fun i=>bif Nat.beq i 4 then [2,3] else []) [2] [(.int .i64)]
def Yj(a:Int)(b:wZ)(c:Int)(d e:af):Option R:=aB (ev pO (wY R) kk (sub [1,1,1,0,1,0,0] (cd Tryz.f52))) [0,2,3,4,5] [2,3] k ⟨[tI a]::uS 1 ([.ptr 3 aK []]::[.ptr 4 aK []]::[.ak (.sl 29 (.sl 3 (.int .i64))) b [[]]]::[tI c]::uS 52 []),nS 3 ((some ⟨aK,d,[[2]]⟩)::(some ⟨aK,e,[[2]]⟩)::nS 54 [])⟩ J
def zqa(a b:af):State:=⟨uS 2 ([.ptr 3 aK []]::[.ptr 4 aK []]::uS 54 []),nS 3 ((some ⟨aK,a,[[2]]⟩)::(some ⟨aK,b,[[2]]⟩)::nS 54 [])⟩
def O6:KX R:=(zj 0 (aU pO (wY R) kk (sub [1,1,1,1] (cd Tryz.f52)) (aS pO Tryz.f52.results.toList none K)))
theorem aol(a:Int)(b:wZ)(c:Int)(d e:af):Yj R kk (k+1) J a b c d e=
 EB a b c d e (Yj R kk k J) (fun a0 a1=>J (.exit 0) (zqa a0 a1)):=by kernel_rfl
theorem ajj(a b:af):O6 R kk K (.exit 0) (zqa a b)=
 EC a b (fun a0=>K [.ak aK a0 [[2]]] none):=by kernel_rfl
theorem ame{kk:Nat}(hF:kk=ai)(mu:Int)(t4:wZ)(t5:Int)(df dH:af):Yj R kk k J mu t4 t5 df dH=(Yk k mu t4 t5 df dH).bind fun e=>J (.exit 0) (zqa e.1 e.2):=by
 induction k generalizing mu t4 t5 df dH with
 |zero=>rfl
 |succ k ih=>
  rw[aol]
  simp only[Yk,EB,ih,aD]
def Jx:ah:=wY.add 52 [(.int .i64)] (cO (.int .i64) RI (fun _ r K=>K [.ak aK r [[2]]] none))
theorem o96:aP Tryz.prog Jx:=cP pO Tryz.f52 (fun R kk x0 K=>EA x0 (Yj R kk kk (O6 R kk K))) o95 (ek _ _ _ _) Tryz.func52 (by kernel_rfl) rfl (fun _ _ _ _ _ _ h=>h _ _) (fun _ _ _ _=>by kernel_rfl) fun R kk e x0 K=>by
 simp only[RI,EA,EC,ame (hF:=e),ajj,aD,<-e]
def ang:Env:=e0 [.str,.str,.str]
def Jy:ah:=Jx.add 53 [.str,.str,.str] (kH .str .str .str vO (fun _ r K=>K [.ak (.sl 107 (.pair (.int .i64) (.pair .str .unit))) r [[]]] none))
theorem o97:aP Tryz.prog Jy:=kW ang Tryz.f53 (fun R kk x0 x1 x2 K=>zxx x0 x1 x2 (fun a0=>K [.ak (.sl 107 (.pair (.int .i64) (.pair .str .unit))) a0 [[]]] none)) o96 (ek _ _ _ _) Tryz.func53 (by kernel_rfl) rfl (fun _ _ _ _ _ _ h=>h _ _) (fun _ _ _ _ _ _=>by kernel_rfl) fun R kk e x0 x1 x2 K=>by
 simp only[vO,zxx,aD]
def anc:Env:={b9.env (fun _=>[]) (fun _=>[]) [0] [] with sh:=[47,59]}
def Jz:ah:=Jy.add 33 [] (Gk Bz (fun _ r K=>K [.ak bA r [[0,1,3],[0,1,2],[0,1,0,2],[0,0,3],[0,0,0,2]]] none))
theorem o98:aP Tryz.prog Jz:=KZ anc Tryz.f33 (fun R kk K=>zxs (fun a0=>K [.ak bA a0 [[0,1,3],[0,1,2],[0,1,0,2],[0,0,3],[0,0,0,2]]] none)) o97 ((ek _ _ _ _).sh _) Tryz.func33 (by kernel_rfl) rfl (fun _ _ _ _ _ _ h=>h _ _) (fun _ _ _=>by kernel_rfl) fun R kk e K=>by
 simp only[Bz,zxs,aD]
def H8:Env:=e0 [(.int .i64)]
def JA:ah:=Jz.add 42 [(.int .i64)] (cO (.int .i64) BG (fun _ r K=>K [tB r] none))
theorem o99:aP Tryz.prog JA:=cP H8 Tryz.f42 (fun R kk x0 K=>XG x0 (fun a0=>K [tB a0] none)) o98 (ek _ _ _ _) Tryz.func42 (by kernel_rfl) rfl (fun _ _ _ _ _ _ h=>h _ _) (fun _ _ _ _=>by kernel_rfl) fun R kk e x0 K=>by
 simp only[BG,XG,aD]
def HY:Env:=e0 [.unit]
def pP:ah:=JA.add 62 [.unit] (Gj y6 [[2]] HX (fun _ r K=>K [tI r.1] (some ⟨y6,r.2,[[2]]⟩)))
theorem aaf:aP Tryz.prog pP:=Si HY Tryz.f62 (fun R kk x0 K=>Xw x0 (fun a0 a1=>K [tI a0] (some ⟨y6,a1,[[2]]⟩))) o99 (ek _ _ _ _) Tryz.func62 (by kernel_rfl) rfl (fun _ _ _ _ _ _ h=>h _ _) (fun _ _ _ _=>by kernel_rfl) fun R kk e x0 K=>by
 simp only[HX,Xw,aD]
def ph:Env:=b9.env (fun i=>bif Nat.beq i 3 then [0,1,6,7] else []) (fun i=>bif Nat.beq i 3 then [4,5,6] else []) [] [.unit,.str]
def Xs(a:ByteArray)(b:(List ByteArray))(c:Int)(d:ag):Option R:=aB (ev ph (pP R) kk (sub [1,1,0,1,0,0] (cd Tryz.f45))) [0,1,6,7] [4,5,6] k ⟨[.ptr 0 y6 []]::[tS a]::uS 4 ([.ak (.sl 9 .str) b [[]]]::[tI c]::uS 80 []),(some ⟨y6,d,[[2]]⟩)::nS 88 []⟩ J
def zpk(a:(List ByteArray))(b:Bool)(c:(List ByteArray))(d:ag):State:=⟨uS 4 ([.ak (.sl 9 .str) a []]::[tB b]::[.ak (.sl 9 .str) c [[]]]::uS 81 []),(some ⟨y6,d,[[2]]⟩)::nS 88 []⟩
def zpl(a:(List ByteArray))(b:ag):State:=⟨uS 6 ([.ak (.sl 9 .str) a [[]]]::uS 81 []),(some ⟨y6,b,[[2]]⟩)::nS 88 []⟩
def DV(a:ag):KX R:=(zj 0 (aU ph (pP R) kk (sub [1,1,1] (cd Tryz.f45)) (aS ph Tryz.f45.results.toList (some ⟨y6,a,[[2]]⟩) K)))
theorem an2(a:ByteArray)(b:(List ByteArray))(c:Int)(d:ag):Xs R kk (k+1) J a b c d=
 Rd a b c d (fun a0 a1 a2 a3=>J .ret (zpk a0 a1 a2 a3)) (Xs R kk k J) (fun a0 a1=>J (.exit 0) (zpl a0 a1)):=by kernel_rfl
theorem aiT(a:ag)(b:(List ByteArray))(c:Bool)(d:(List ByteArray))(e:ag):DV R kk K a .ret (zpk b c d e)=
 Xu b c d e (fun a0 a1 a2=>K [.ak (.sl 9 .str) a0 [],tB a1] (some ⟨y6,a2,[[2]]⟩)):=by kernel_rfl
theorem aiU(a:ag)(b:(List ByteArray))(c:ag):DV R kk K a (.exit 0) (zpl b c)=
 Xv b c (fun a0 a1 a2=>K [.ak (.sl 9 .str) a0 [],tB a1] (some ⟨y6,a2,[[2]]⟩)):=by kernel_rfl
theorem alV{kk:Nat}(hF:kk=ai)(l6:ByteArray)(t6:(List ByteArray))(t7:Int)(recv:ag):Xs R kk k J l6 t6 t7 recv=(FG k l6 t6 t7 recv).bind fun e=>(Sum.elim (fun(we:((List ByteArray)×Bool×(List ByteArray)×ag))=>J .ret (zpk we.1 we.2.1 we.2.2.1 we.2.2.2)) (fun(we:((List ByteArray)×ag))=>J (.exit 0) (zpl we.1 we.2)) e):=by
 induction k generalizing l6 t6 t7 recv with
 |zero=>rfl
 |succ k ih=>
  rw[an2]
  simp only[FG,Rd,ih,aD]
def yG:ah:=pP.add 45 [.unit,.str] (CF y6 [[2]] .str BD (fun _ r K=>K [.ak (.sl 9 .str) r.1 [],tB r.2.1] (some ⟨y6,r.2.2,[[2]]⟩)))
theorem aag:aP Tryz.prog yG:=KW ph Tryz.f45 (fun R kk x0 x1 K=>Xt x0 x1 (Xs R kk kk (DV R kk K x0))) aaf (ek _ _ _ _) Tryz.func45 (by kernel_rfl) rfl (fun _ _ _ _ _ _ h=>h _ _) (fun _ _ _ _ _=>by kernel_rfl) fun R kk e x0 x1 K=>by
 simp only[BD,Xt,Xu,Xv,alV (hF:=e),aiT,aiU,aD,<-e]
def YA:Env:=e0 [(.int .i64)]
def pQ:ah:=yG.add 177 [(.int .i64)] (cO (.int .i64) Q2 (fun _ r K=>K [tI r] none))
theorem aah:aP Tryz.prog pQ:=cP YA Tryz.f177 (fun R kk x0 K=>pg x0 (fun a0=>K [tI a0] none)) aag (ek _ _ _ _) Tryz.func177 (by kernel_rfl) rfl (fun _ _ _ _ _ _ h=>h _ _) (fun _ _ _ _=>by kernel_rfl) fun R kk e x0 K=>by
 simp only[Q2,pg,aD]
def vN:Env:=b9.env (fun i=>bif Nat.beq i 7 then [0,1,7,30,31] else []) (fun i=>bif Nat.beq i 7 then [1,4,5,6,7] else []) [] [.str,(.int .i64)]
def oR(a:ByteArray)(b:Int)(c:(List Int))(d e:Int):Option R:=aB (ev vN (pQ R) kk (sub [1,1,1,0,1,0,0] (cd Tryz.f178))) [0,1,7,30,31] [1,4,5,6,7] k ⟨[tS a]::[tI b]::uS 5 ([.ak (.sl 5 (.int .u8)) c [[]]]::uS 22 ([tI d]::[tI e]::uS 43 [])),nS 76 []⟩ J
def zwe(a:Int)(b:ByteArray)(c d:Int)(e:(List Int)):State:=⟨uS 1 ([tI a]::uS 2 ([tS b]::[tI c]::[tI d]::[.ak (.sl 5 (.int .u8)) e [[]]]::uS 67 [])),nS 76 []⟩
def zwf(a:Int)(b:(List Int)):State:=⟨uS 1 ([tI a]::uS 5 ([.ak (.sl 5 (.int .u8)) b [[]]]::uS 67 [])),nS 76 []⟩
def sF:KX R:=(zj 1 (aU vN (pQ R) kk (sub [1,1,1,1] (cd Tryz.f178)) (aS vN Tryz.f178.results.toList none K)))
theorem Ht(a:ByteArray)(b:Int)(c:(List Int))(d e:Int):oR R kk (k+1) J a b c d e=
 mH a b c d e (fun a0 a1 a2 a3 a4=>J .ret (zwe a0 a1 a2 a3 a4)) (oR R kk k J) (fun a0 a1=>J (.exit 1) (zwf a0 a1)):=by kernel_rfl
theorem akR(a:Int)(b:ByteArray)(c d:Int)(e:(List Int)):sF R kk K .ret (zwe a b c d e)=
 sG a b c d e (fun a0 a1 a2=>K [tS a0,tI a1,tI a2] none):=by kernel_rfl
theorem akS(a:Int)(b:(List Int)):sF R kk K (.exit 1) (zwf a b)=
 oU a b (fun a0 a1 a2=>K [tS a0,tI a1,tI a2] none):=by kernel_rfl
theorem am4{kk:Nat}(hF:kk=ai)(og:ByteArray)(ml:Int)(t7:(List Int))(t30 t31:Int):oR R kk k J og ml t7 t30 t31=(jc k og ml t7 t30 t31).bind fun e=>(Sum.elim (fun(we:(Int×ByteArray×Int×Int×(List Int)))=>J .ret (zwe we.1 we.2.1 we.2.2.1 we.2.2.2.1 we.2.2.2.2)) (fun(we:(Int×(List Int)))=>J (.exit 1) (zwf we.1 we.2)) e):=by
 induction k generalizing og ml t7 t30 t31 with
 |zero=>rfl
 |succ k ih=>
  rw[Ht]
  simp only[jc,mH,ih,aD]
def yH:ah:=pQ.add 178 [.str,(.int .i64)] (dp .str (.int .i64) Q0 (fun _ r K=>K [tS r.1,tI r.2.1,tI r.2.2] none))
theorem aai:aP Tryz.prog yH:=dx vN Tryz.f178 (fun R kk x0 x1 K=>oT x0 x1 (fun a0 a1 a2=>K [tS a0,tI a1,tI a2] none) (oR R kk kk (sF R kk K))) aah (ek _ _ _ _) Tryz.func178 (by kernel_rfl) rfl (fun _ _ _ _ _ _ h=>h _ _) (fun _ _ _ _ _=>by kernel_rfl) fun R kk e x0 x1 K=>by
 simp only[Q0,oT,sG,oU,am4 (hF:=e),akR,akS,aD,<-e]
def anO:Env:=e0 [aK,.str]
def yI:ah:=yH.add 129 [aK,.str] (dp aK .str tv (fun _ r K=>K [tS r.1,tI r.2.1,tI r.2.2] none))
theorem aaj:aP Tryz.prog yI:=dx anO Tryz.f129 (fun R kk x0 x1 K=>Vm x0 x1 (fun a0 a1 a2=>K [tS a0,tI a1,tI a2] none)) aai (ek _ _ _ _) Tryz.func129 (by kernel_rfl) rfl (fun _ _ _ _ _ _ h=>h _ _) (fun _ _ _ _ _=>by kernel_rfl) fun R kk e x0 x1 K=>by
 simp only[tv,Vm,aD]
def YI:Env:=e0 [(.int .i64)]
def yJ:ah:=yI.add 169 [(.int .i64)] (cO (.int .i64) Q9 (fun _ r K=>K [tB r] none))
theorem aak:aP Tryz.prog yJ:=cP YI Tryz.f169 (fun R kk x0 K=>mR x0 (fun a0=>K [tB a0] none)) aaj (ek _ _ _ _) Tryz.func169 (by kernel_rfl) rfl (fun _ _ _ _ _ _ h=>h _ _) (fun _ _ _ _=>by kernel_rfl) fun R kk e x0 K=>by
 simp only[Q9,mR,aD]
def ani:Env:=e0 [(.int .u8)]
def pR:ah:=yJ.add 214 [(.int .u8)] (cO (.int .u8) sY (fun _ r K=>K [tI r.1,tB r.2] none))
theorem aal:aP Tryz.prog pR:=cP ani Tryz.f214 (fun R kk x0 K=>zyg x0 (fun a0 a1=>K [tI a0,tB a1] none)) aak (ek _ _ _ _) Tryz.func214 (by kernel_rfl) rfl (fun _ _ _ _ _ _ h=>h _ _) (fun _ _ _ _=>by kernel_rfl) fun R kk e x0 K=>by
 simp only[sY,zyg,aD]
def WA:Env:=b9.env (fun i=>bif Nat.beq i 4 then [0,5,6,7] else []) (fun i=>bif Nat.beq i 4 then [0,2,3,4,5] else []) [] [.str]
def Ug(a:ByteArray)(b:(List Int))(c d:Int):Option R:=aB (ev WA (pR R) kk (sub [1,1,1,0,1,0,0] (cd Tryz.f184))) [0,5,6,7] [0,2,3,4,5] k ⟨[tS a]::uS 4 ([.ak (.sl 5 (.int .u8)) b [[]]]::[tI c]::[tI d]::uS 44 []),nS 53 []⟩ J
def zfb(a b:ByteArray)(c:Int)(d:Bool)(e:(List Int)):State:=⟨[tS a]::uS 1 ([tS b]::[tI c]::[tB d]::[.ak (.sl 5 (.int .u8)) e [[]]]::uS 46 []),nS 53 []⟩
def zfc(a:ByteArray)(b:(List Int)):State:=⟨[tS a]::uS 4 ([.ak (.sl 5 (.int .u8)) b [[]]]::uS 46 []),nS 53 []⟩
def zyh:KX R:=(zj 0 (aU WA (pR R) kk (sub [1,1,1,1] (cd Tryz.f184)) (aS WA Tryz.f184.results.toList none K)))
theorem alg(a:ByteArray)(b:(List Int))(c d:Int):Ug R kk (k+1) J a b c d=
 Qj a b c d (fun a0 a1 a2 a3 a4=>J .ret (zfb a0 a1 a2 a3 a4)) (Ug R kk k J) (fun a0 a1=>J (.exit 0) (zfc a0 a1)):=by kernel_rfl
theorem aeN(a b:ByteArray)(c:Int)(d:Bool)(e:(List Int)):zyh R kk K .ret (zfb a b c d e)=
 zyi a b c d e (fun a0 a1 a2=>K [tS a0,tI a1,tB a2] none):=by kernel_rfl
theorem aeO(a:ByteArray)(b:(List Int)):zyh R kk K (.exit 0) (zfc a b)=
 Ui a b (fun a0 a1 a2=>K [tS a0,tI a1,tB a2] none):=by kernel_rfl
theorem aic{kk:Nat}(hF:kk=ai)(iY:ByteArray)(t5:(List Int))(t6 t7:Int):Ug R kk k J iY t5 t6 t7=(Fo k iY t5 t6 t7).bind fun e=>(Sum.elim (fun(we:(ByteArray×ByteArray×Int×Bool×(List Int)))=>J .ret (zfb we.1 we.2.1 we.2.2.1 we.2.2.2.1 we.2.2.2.2)) (fun(we:(ByteArray×(List Int)))=>J (.exit 0) (zfc we.1 we.2)) e):=by
 induction k generalizing iY t5 t6 t7 with
 |zero=>rfl
 |succ k ih=>
  rw[alg]
  simp only[Fo,Qj,ih,aD]
def yK:ah:=pR.add 184 [.str] (cO .str gS (fun _ r K=>K [tS r.1,tI r.2.1,tB r.2.2] none))
theorem aam:aP Tryz.prog yK:=cP WA Tryz.f184 (fun R kk x0 K=>Uh x0 (Ug R kk kk (zyh R kk K))) aal (ek _ _ _ _) Tryz.func184 (by kernel_rfl) rfl (fun _ _ _ _ _ _ h=>h _ _) (fun _ _ _ _=>by kernel_rfl) fun R kk e x0 K=>by
 simp only[gS,Uh,zyi,Ui,aic (hF:=e),aeN,aeO,aD,<-e]
def Hu:Env:=b9.env (fun _=>[]) (fun _=>[]) [6] [(.int .i64),.str,(.int .i64)]
def pS:ah:=yK.add 179 [(.int .i64),.str,(.int .i64)] (kH (.int .i64) .str (.int .i64) FO (fun _ r K=>K [.ak (.arr 8 (.int .u8)) r.1 [],tI r.2.1,tI r.2.2] none))
theorem aan:aP Tryz.prog pS:=kW Hu Tryz.f179 (fun R kk x0 x1 x2 K=>Wh x0 x1 x2 (fun a0 a1 a2=>K [.ak (.arr 8 (.int .u8)) a0 [],tI a1,tI a2] none)) aam (ek _ _ _ _) Tryz.func179 (by kernel_rfl) rfl (fun _ _ _ _ _ _ h=>h _ _) (fun _ _ _ _ _ _=>by kernel_rfl) fun R kk e x0 x1 x2 K=>by
 simp only[FO,Wh,aD]
def vZ:Env:=b9.env (fun i=>bif Nat.beq i 3 then [3,6,7] else []) (fun i=>bif Nat.beq i 3 then [3] else []) [] [(.arr 8 (.int .u8))]
def pF(a:Int)(b:(List Int))(c:Int):Option R:=aB (ev vZ (pS R) kk (sub [1,1,0,1,0,0] (cd Tryz.f180))) [3,6,7] [3] k ⟨uS 3 ([.ak (.int .u64) a []]::uS 2 ([.ak (.arr 8 (.int .u8)) b []]::[tI c]::uS 9 [])),nS 18 []⟩ J
def Dm(a:Int):State:=⟨uS 3 ([.ak (.int .u64) a []]::uS 13 []),nS 18 []⟩
def yy:KX R:=(zj 0 (aU vZ (pS R) kk (sub [1,1,1] (cd Tryz.f180)) (aS vZ Tryz.f180.results.toList none K)))
theorem Il(a:Int)(b:(List Int))(c:Int):pF R kk (k+1) J a b c=
 mO a b c (pF R kk k J) (fun a0=>J (.exit 0) (Dm a0)):=by kernel_rfl
theorem al8(a:Int):yy R kk K (.exit 0) (Dm a)=
 tG a (fun a0=>K [.ak (.int .u64) a0 []] none):=by kernel_rfl
theorem aof{kk:Nat}(hF:kk=ai)(t3:Int)(t6:(List Int))(t7:Int):pF R kk k J t3 t6 t7=(jY k t3 t6 t7).bind fun e=>J (.exit 0) (Dm e):=by
 induction k generalizing t3 t6 t7 with
 |zero=>rfl
 |succ k ih=>
  rw[Il]
  simp only[jY,mO,ih,aD]
def yL:ah:=pS.add 180 [(.arr 8 (.int .u8))] (cO (.arr 8 (.int .u8)) Q7 (fun _ r K=>K [.ak (.int .u64) r []] none))
theorem aao:aP Tryz.prog yL:=cP vZ Tryz.f180 (fun R kk x0 K=>pG x0 (pF R kk kk (yy R kk K))) aan (ek _ _ _ _) Tryz.func180 (by kernel_rfl) rfl (fun _ _ _ _ _ _ h=>h _ _) (fun _ _ _ _=>by kernel_rfl) fun R kk e x0 K=>by
 simp only[Q7,pG,tG,aof (hF:=e),al8,aD,<-e]
def HM:Env:=b9.env (fun _=>[]) (fun _=>[]) [4] [(.int .u64),(.int .u64)]
def yM:ah:=yL.add 181 [(.int .u64),(.int .u64)] (dp (.int .u64) (.int .u64) RF (fun _ r K=>K [.ak (.pair (.int .u64) (.pair (.int .u64) .unit)) r []] none))
theorem aap:aP Tryz.prog yM:=dx HM Tryz.f181 (fun R kk x0 x1 K=>DS x0 x1 (fun a0=>K [.ak (.pair (.int .u64) (.pair (.int .u64) .unit)) a0 []] none)) aao (ek _ _ _ _) Tryz.func181 (by kernel_rfl) rfl (fun _ _ _ _ _ _ h=>h _ _) (fun _ _ _ _ _=>by kernel_rfl) fun R kk e x0 x1 K=>by
 simp only[RF,DS,aD]
def YE:Env:=b9.env (fun _=>[]) (fun _=>[]) [6] [(.int .i64),.str,(.int .i64)]
def yN:ah:=yM.add 130 [(.int .i64),.str,(.int .i64)] (kH (.int .i64) .str (.int .i64) Q5 (fun _ r K=>K [.ak (.pair (.int .u64) (.pair (.int .u64) .unit)) r.1 [],tI r.2.1,tI r.2.2] none))
theorem aaq:aP Tryz.prog yN:=kW YE Tryz.f130 (fun R kk x0 x1 x2 K=>pw x0 x1 x2 (fun a0 a1 a2=>K [.ak (.pair (.int .u64) (.pair (.int .u64) .unit)) a0 [],tI a1,tI a2] none)) aap (ek _ _ _ _) Tryz.func130 (by kernel_rfl) rfl (fun _ _ _ _ _ _ h=>h _ _) (fun _ _ _ _ _ _=>by kernel_rfl) fun R kk e x0 x1 x2 K=>by
 simp only[Q5,pw,aD]
def anl:Env:=e0 [(.int .u64)]
def yO:ah:=yN.add 212 [(.int .u64)] (cO (.int .u64) sZ (fun _ r K=>K [tI r] none))
theorem aar:aP Tryz.prog yO:=cP anl Tryz.f212 (fun R kk x0 K=>zyk x0 (fun a0=>K [tI a0] none)) aaq (ek _ _ _ _) Tryz.func212 (by kernel_rfl) rfl (fun _ _ _ _ _ _ h=>h _ _) (fun _ _ _ _=>by kernel_rfl) fun R kk e x0 K=>by
 simp only[sZ,zyk,aD]
def ank:Env:=e0 [(.int .u64)]
def yP:ah:=yO.add 182 [(.int .u64)] (cO (.int .u64) mK (fun _ r K=>K [tI r] none))
theorem aas:aP Tryz.prog yP:=cP ank Tryz.f182 (fun R kk x0 K=>Ul x0 (fun a0=>K [tI a0] none)) aar (ek _ _ _ _) Tryz.func182 (by kernel_rfl) rfl (fun _ _ _ _ _ _ h=>h _ _) (fun _ _ _ _=>by kernel_rfl) fun R kk e x0 K=>by
 simp only[mK,Ul,aD]
def HS:Env:=e0 [(.pair (.int .u64) (.pair (.int .u64) .unit)),(.int .i64)]
def yQ:ah:=yP.add 131 [(.pair (.int .u64) (.pair (.int .u64) .unit)),(.int .i64)] (dp (.pair (.int .u64) (.pair (.int .u64) .unit)) (.int .i64) FP (fun _ r K=>K [tI r] none))
theorem aat:aP Tryz.prog yQ:=dx HS Tryz.f131 (fun R kk x0 x1 K=>Xo x0 x1 (fun a0=>K [tI a0] none)) aas (ek _ _ _ _) Tryz.func131 (by kernel_rfl) rfl (fun _ _ _ _ _ _ h=>h _ _) (fun _ _ _ _ _=>by kernel_rfl) fun R kk e x0 x1 K=>by
 simp only[FP,Xo,aD]
def Hz:Env:=e0 [(.int .i64)]
def yR:ah:=yQ.add 174 [(.int .i64)] (cO (.int .i64) BA (fun _ r K=>K [tB r] none))
theorem aau:aP Tryz.prog yR:=cP Hz Tryz.f174 (fun R kk x0 K=>QW x0 (fun a0=>K [tB a0] none)) aat (ek _ _ _ _) Tryz.func174 (by kernel_rfl) rfl (fun _ _ _ _ _ _ h=>h _ _) (fun _ _ _ _=>by kernel_rfl) fun R kk e x0 K=>by
 simp only[BA,QW,aD]
def anv:Env:=e0 [(.int .i64),(.int .i64)]
def pT:ah:=yR.add 210 [(.int .i64),(.int .i64)] (dp (.int .i64) (.int .i64) qN (fun _ r K=>K [tB r] none))
theorem aav:aP Tryz.prog pT:=dx anv Tryz.f210 (fun R kk x0 x1 K=>Qp x0 x1 (fun a0=>K [tB a0] none)) aau (ek _ _ _ _) Tryz.func210 (by kernel_rfl) rfl (fun _ _ _ _ _ _ h=>h _ _) (fun _ _ _ _ _=>by kernel_rfl) fun R kk e x0 x1 K=>by
 simp only[qN,Qp,aD]
def pc:Env:=b9.env (fun i=>bif Nat.beq i 5 then [4,20] else []) (fun i=>bif Nat.beq i 5 then [4] else []) [] [.str]
def Xc(a:Int)(b:mT):Option R:=aB (ev pc (pT R) kk (sub [1,1,1,0,1,0,0] (cd Tryz.f213))) [4,20] [4] k ⟨uS 4 ([tI a]::uS 15 ([.ptr 21 (.aG .iter .unit .unit) []]::uS 10 [])),nS 21 ((some ⟨(.aG .iter .unit .unit),b,[]⟩)::nS 10 [])⟩ J
def zph(a:Int):State:=⟨uS 4 ([tI a]::uS 26 []),nS 32 []⟩
def OX:KX R:=(zj 0 (aU pc (pT R) kk (sub [1,1,1,1] (cd Tryz.f213)) (aS pc Tryz.f213.results.toList none K)))
theorem anZ(a:Int)(b:mT):Xc R kk (k+1) J a b=
 Xe a b (Xc R kk k J) (fun a0=>J (.exit 0) (zph a0)):=by kernel_rfl
theorem aiQ(a:Int):OX R kk K (.exit 0) (zph a)=
 DR a (fun a0 a1=>K [tI a0,tB a1] none):=by kernel_rfl
theorem alS{kk:Nat}(hF:kk=ai)(t4:Int)(BR:mT):Xc R kk k J t4 BR=(Hb k t4 BR).bind fun e=>J (.exit 0) (zph e):=by
 induction k generalizing t4 BR with
 |zero=>rfl
 |succ k ih=>
  rw[anZ]
  simp only[Hb,Xe,ih,aD]
def yS:ah:=pT.add 213 [.str] (cO .str yr (fun _ r K=>K [tI r.1,tB r.2] none))
theorem aaw:aP Tryz.prog yS:=cP pc Tryz.f213 (fun R kk x0 K=>Xd x0 (fun a0 a1=>K [tI a0,tB a1] none) (Xc R kk kk (OX R kk K))) aav (ek _ _ _ _) Tryz.func213 (by kernel_rfl) rfl (fun _ _ _ _ _ _ h=>h _ _) (fun _ _ _ _=>by kernel_rfl) fun R kk e x0 K=>by
 simp only[yr,Xd,DR,alS (hF:=e),aiQ,aD,<-e]
def ant:Env:=e0 [(.int .i64),(.int .i64),.str,(.int .i64)]
def yT:ah:=yS.add 183 [(.int .i64),(.int .i64),.str,(.int .i64)] (Sd (.int .i64) (.int .i64) .str (.int .i64) s9 (fun _ r K=>K [tI r.1,tI r.2.1,tI r.2.2] none))
theorem aax:aP Tryz.prog yT:=st4 ant Tryz.f183 (fun R kk x0 x1 x2 x3 K=>Uz x0 x1 x2 x3 (fun a0 a1 a2=>K [tI a0,tI a1,tI a2] none)) aaw (ek _ _ _ _) Tryz.func183 (by kernel_rfl) rfl (fun _ _ _ _ _ _ h=>h _ _) (fun _ _ _ _ _ _ _=>by kernel_rfl) fun R kk e x0 x1 x2 x3 K=>by
 simp only[s9,Uz,aD]
def Hy:Env:=e0 [(.int .i64),(.int .i64)]
def yU:ah:=yT.add 176 [(.int .i64),(.int .i64)] (dp (.int .i64) (.int .i64) kY (fun _ r K=>K [tI r] none))
theorem aay:aP Tryz.prog yU:=dx Hy Tryz.f176 (fun R kk x0 x1 K=>Wt x0 x1 (fun a0=>K [tI a0] none)) aax (ek _ _ _ _) Tryz.func176 (by kernel_rfl) rfl (fun _ _ _ _ _ _ h=>h _ _) (fun _ _ _ _ _=>by kernel_rfl) fun R kk e x0 x1 K=>by
 simp only[kY,Wt,aD]
def Hw:Env:=e0 [(.int .i64),cK,.str,(.int .i64)]
def pU:ah:=yU.add 132 [(.int .i64),cK,.str,(.int .i64)] (Sd (.int .i64) cK .str (.int .i64) Hv (fun _ r K=>K [tS r.1,tI r.2.1,tI r.2.2] none))
theorem aaz:aP Tryz.prog pU:=st4 Hw Tryz.f132 (fun R kk x0 x1 x2 x3 K=>Wm x0 x1 x2 x3 (fun a0 a1 a2=>K [tS a0,tI a1,tI a2] none)) aay (ek _ _ _ _) Tryz.func132 (by kernel_rfl) rfl (fun _ _ _ _ _ _ h=>h _ _) (fun _ _ _ _ _ _ _=>by kernel_rfl) fun R kk e x0 x1 x2 x3 K=>by
 simp only[Hv,Wm,aD]
def WW:Env:=b9.env (fun i=>bif Nat.beq i 13 then [1,2,4,5,6,10,12,13] else []) (fun i=>bif Nat.beq i 13 then [1,4,5,6,10] else []) [4,5] [aK,.str]
def Vk(a:ByteArray)(b c:Int)(d:af)(e:aw)(f:aR)(g:aw)(h:aR):Option R:=aB (ev WW (pU R) kk (sub [1,1,1,1,1,1,1,1,0,1,0,0] (cd Tryz.f90))) [1,2,4,5,6,10,12,13] [1,4,5,6,10] k ⟨uS 1 ([tS a]::[.ptr 3 aK []]::uS 1 ([.ptr 5 y8 []]::[.ptr 6 (.pair (.int .i64) (.pair (.int .i64) .unit)) []]::[.ptr 7 y8 []]::uS 3 ([tI b]::uS 1 ([.ptr 13 (.pair (.int .u64) (.pair (.int .u64) .unit)) []]::[tI c]::uS 93 [])))),nS 3 ((some ⟨aK,d,[]⟩)::nS 1 ((some ⟨y8,e,[[1]]⟩)::(some ⟨(.pair (.int .i64) (.pair (.int .i64) .unit)),f,[]⟩)::(some ⟨y8,g,[[1]]⟩)::nS 5 ((some ⟨(.pair (.int .u64) (.pair (.int .u64) .unit)),h,[]⟩)::nS 94 [])))⟩ J
def zg9(a:ByteArray)(b:Int)(c:aw)(d:aR)(e:aw):State:=⟨uS 1 ([tS a]::uS 2 ([.ptr 5 y8 []]::[.ptr 6 (.pair (.int .i64) (.pair (.int .i64) .unit)) []]::[.ptr 7 y8 []]::uS 3 ([tI b]::uS 96 []))),nS 5 ((some ⟨y8,c,[[1]]⟩)::(some ⟨(.pair (.int .i64) (.pair (.int .i64) .unit)),d,[]⟩)::(some ⟨y8,e,[]⟩)::nS 100 [])⟩
def zga(a:ByteArray)(b:Int)(c:aw)(d:aR)(e:aw):State:=⟨uS 1 ([tS a]::uS 2 ([.ptr 5 y8 []]::[.ptr 6 (.pair (.int .i64) (.pair (.int .i64) .unit)) []]::[.ptr 7 y8 []]::uS 3 ([tI b]::uS 96 []))),nS 5 ((some ⟨y8,c,[[1]]⟩)::(some ⟨(.pair (.int .i64) (.pair (.int .i64) .unit)),d,[]⟩)::(some ⟨y8,e,[[1]]⟩)::nS 100 [])⟩
def CR:KX R:=(zj 0 (aU WW (pU R) kk (sub [1,1,1,1,1,1,1,1,1] (cd Tryz.f90)) (aS WW Tryz.f90.results.toList none K)))
theorem alD(a:ByteArray)(b c:Int)(d:af)(e:aw)(f:aR)(g:aw)(h:aR):Vk R kk (k+1) J a b c d e f g h=
 QB a b c d e f g h (fun a0 a1 a2 a3 a4=>J .ret (zg9 a0 a1 a2 a3 a4)) (Vk R kk k J) (fun a0 a1 a2 a3 a4=>J (.exit 0) (zga a0 a1 a2 a3 a4)):=by kernel_rfl
theorem afk(a:ByteArray)(b:Int)(c:aw)(d:aR)(e:aw):CR R kk K .ret (zg9 a b c d e)=
 CS a b c d e (fun a0 a1=>K [.ak y8 a0 [[1]],.ak (.pair (.int .i64) (.pair (.int .i64) .unit)) a1 []] none):=by kernel_rfl
theorem afl(a:ByteArray)(b:Int)(c:aw)(d:aR)(e:aw):CR R kk K (.exit 0) (zga a b c d e)=
 CT a b c d e (fun a0 a1=>K [.ak y8 a0 [[1]],.ak (.pair (.int .i64) (.pair (.int .i64) .unit)) a1 []] none):=by kernel_rfl
theorem aiy{kk:Nat}(hF:kk=ai)(tL:ByteArray)(t10 t13:Int)(df:af)(cQ:aw)(du:aR)(j6:aw)(BN:aR):Vk R kk k J tL t10 t13 df cQ du j6 BN=(Fu k tL t10 t13 df cQ du j6 BN).bind fun e=>(Sum.elim (fun(we:qY)=>J .ret (zg9 we.1 we.2.1 we.2.2.1 we.2.2.2.1 we.2.2.2.2)) (fun(we:qY)=>J (.exit 0) (zga we.1 we.2.1 we.2.2.1 we.2.2.2.1 we.2.2.2.2)) e):=by
 induction k generalizing tL t10 t13 df cQ du j6 BN with
 |zero=>rfl
 |succ k ih=>
  rw[alD]
  simp only[Fu,QB,ih,aD]
def yV:ah:=pU.add 90 [aK,.str] (dp aK .str qQ (fun _ r K=>K [.ak y8 r.1 [[1]],.ak (.pair (.int .i64) (.pair (.int .i64) .unit)) r.2 []] none))
theorem aaA:aP Tryz.prog yV:=dx WW Tryz.f90 (fun R kk x0 x1 K=>Vl x0 x1 (fun a0 a1=>K [.ak y8 a0 [[1]],.ak (.pair (.int .i64) (.pair (.int .i64) .unit)) a1 []] none) (Vk R kk kk (CR R kk K))) aaz (ek _ _ _ _) Tryz.func90 (by kernel_rfl) rfl (fun _ _ _ _ _ _ h=>h _ _) (fun _ _ _ _ _=>by kernel_rfl) fun R kk e x0 x1 K=>by
 simp only[qQ,Vl,CS,CT,aiy (hF:=e),afk,afl,aD,<-e]
def anp:Env:=e0 [.str]
def pV:ah:=yV.add 117 [.str] (cO .str s8 (fun _ r K=>K [tS r.1,tB r.2] none))
theorem aaB:aP Tryz.prog pV:=cP anp Tryz.f117 (fun R kk x0 K=>Uw x0 (fun a0 a1=>K [tS a0,tB a1] none)) aaA (ek _ _ _ _) Tryz.func117 (by kernel_rfl) rfl (fun _ _ _ _ _ _ h=>h _ _) (fun _ _ _ _=>by kernel_rfl) fun R kk e x0 K=>by
 simp only[s8,Uw,aD]
def WG:Env:=b9.env (fun i=>bif Nat.beq i 2 then [1,9,10,11] else []) (fun i=>bif Nat.beq i 2 then [4,5] else []) [] [y8,(.int .i64)]
def Uo(a:Int)(b:al)(c d:Int):Option R:=aB (ev WG (pV R) kk (sub [1,0,1,0,0] (cd Tryz.f118))) [1,9,10,11] [4,5] k ⟨uS 1 ([tI a]::uS 7 ([.ak (.sl 208 (.pair (.int .i64) (.pair .str .unit))) b []]::[tI c]::[tI d]::uS 10 [])),nS 23 []⟩ J
def zfh(a:ByteArray)(b:Bool):State:=⟨uS 4 ([tS a]::[tB b]::uS 16 []),nS 23 []⟩
def zfi:State:=⟨uS 22 [],nS 23 []⟩
def zyp:KX R:=(zj 0 (aU WG (pV R) kk (sub [1,1] (cd Tryz.f118)) (aS WG Tryz.f118.results.toList none K)))
theorem alk(a:Int)(b:al)(c d:Int):Uo R kk (k+1) J a b c d=
 zyq a b c d (fun a0 a1=>J .ret (zfh a0 a1)) (Uo R kk k J) (J (.exit 0) (zfi)):=by kernel_rfl
theorem aeS(a:ByteArray)(b:Bool):zyp R kk K .ret (zfh a b)=
 zyr a b (fun a0 a1=>K [tS a0,tB a1] none):=by kernel_rfl
theorem aeT:zyp R kk K (.exit 0) (zfi)=
 zys (fun a0 a1=>K [tS a0,tB a1] none):=by kernel_rfl
theorem aii{kk:Nat}(hF:kk=ai)(fq:Int)(t9:al)(t10 t11:Int):Uo R kk k J fq t9 t10 t11=(Qm k fq t9 t10 t11).bind fun e=>(Sum.elim (fun(we:jL)=>J .ret (zfh we.1 we.2)) (fun(we:Unit)=>J (.exit 0) (zfi)) e):=by
 induction k generalizing fq t9 t10 t11 with
 |zero=>rfl
 |succ k ih=>
  rw[alk]
  simp only[Qm,zyq,ih,aD]
def pW:ah:=pV.add 118 [y8,(.int .i64)] (dp y8 (.int .i64) nZ (fun _ r K=>K [tS r.1,tB r.2] none))
theorem aaC:aP Tryz.prog pW:=dx WG Tryz.f118 (fun R kk x0 x1 K=>Up x0 x1 (Uo R kk kk (zyp R kk K))) aaB (ek _ _ _ _) Tryz.func118 (by kernel_rfl) rfl (fun _ _ _ _ _ _ h=>h _ _) (fun _ _ _ _ _=>by kernel_rfl) fun R kk e x0 x1 K=>by
 simp only[nZ,Up,zyr,zys,aii (hF:=e),aeS,aeT,aD,<-e]
def WJ:Env:=b9.env (fun i=>bif Nat.beq i 3 then [1,4,5,12,13,14] else []) (fun i=>bif Nat.beq i 3 then [4,5] else []) [4] [y8,(.int .i64)]
def Ut(a:Int)(b:al)(c d:Int)(e f:aw):Option R:=aB (ev WJ (pW R) kk (sub [1,1,0,1,0,0] (cd Tryz.f164))) [1,4,5,12,13,14] [4,5] k ⟨uS 1 ([tI a]::uS 2 ([.ptr 5 y8 []]::[.ptr 6 y8 []]::uS 6 ([.ak (.sl 208 (.pair (.int .i64) (.pair .str .unit))) b []]::[tI c]::[tI d]::uS 15 []))),nS 5 ((some ⟨y8,e,[[1]]⟩)::(some ⟨y8,f,[[1]]⟩)::nS 24 [])⟩ J
def zfk(a b:aw):State:=⟨uS 4 ([.ptr 5 y8 []]::[.ptr 6 y8 []]::uS 24 []),nS 5 ((some ⟨y8,a,[[1]]⟩)::(some ⟨y8,b,[[1]]⟩)::nS 24 [])⟩
def N6:KX R:=(zj 0 (aU WJ (pW R) kk (sub [1,1,1] (cd Tryz.f164)) (aS WJ Tryz.f164.results.toList none K)))
theorem aln(a:Int)(b:al)(c d:Int)(e f:aw):Ut R kk (k+1) J a b c d e f=
 zyw a b c d e f (Ut R kk k J) (fun a0 a1=>J (.exit 0) (zfk a0 a1)):=by kernel_rfl
theorem aeV(a b:aw):N6 R kk K (.exit 0) (zfk a b)=
 zyx a b (fun a0=>K [.ak y8 a0 [[1]]] none):=by kernel_rfl
theorem aik{kk:Nat}(hF:kk=ai)(fq:Int)(t12:al)(t13 t14:Int)(cQ du:aw):Ut R kk k J fq t12 t13 t14 cQ du=(Qo k fq t12 t13 t14 cQ du).bind fun e=>J (.exit 0) (zfk e.1 e.2):=by
 induction k generalizing fq t12 t13 t14 cQ du with
 |zero=>rfl
 |succ k ih=>
  rw[aln]
  simp only[Qo,zyw,ih,aD]
def yW:ah:=pW.add 164 [y8,(.int .i64)] (dp y8 (.int .i64) s7 (fun _ r K=>K [.ak y8 r [[1]]] none))
theorem aaD:aP Tryz.prog yW:=dx WJ Tryz.f164 (fun R kk x0 x1 K=>Uu x0 x1 (Ut R kk kk (N6 R kk K))) aaC (ek _ _ _ _) Tryz.func164 (by kernel_rfl) rfl (fun _ _ _ _ _ _ h=>h _ _) (fun _ _ _ _ _=>by kernel_rfl) fun R kk e x0 x1 K=>by
 simp only[s7,Uu,zyx,aik (hF:=e),aeV,aD,<-e]
def ann:Env:=e0 [(.pair (.int .i64) (.pair .str .unit)),.unit]
def pX:ah:=yW.add 166 [(.pair (.int .i64) (.pair .str .unit)),.unit] (pz (.pair (.int .i64) (.pair .str .unit)) (.int .i64) (.int .i64) [] s6 (fun _ r K=>K [tB r.1] (some ⟨(.int .i64),r.2,[]⟩)))
theorem aaE:aP Tryz.prog pX:=sz ann Tryz.f166 (fun R kk x0 x1 K=>zyv x0 x1 (fun a0 a1=>K [tB a0] (some ⟨(.int .i64),a1,[]⟩))) aaD (ek _ _ _ _) Tryz.func166 (by kernel_rfl) rfl (fun _ _ _ _ _ _ h=>h _ _) (fun _ _ _ _ _=>by kernel_rfl) fun R kk e x0 x1 K=>by
 simp only[s6,zyv,aD]
def WU:Env:=b9.env (fun i=>bif Nat.beq i 2 then [0,1,7,8] else []) (fun i=>bif Nat.beq i 2 then [4] else []) [] [(.sl 208 (.pair (.int .i64) (.pair .str .unit))),.unit]
def Vc(a:al)(b c d:Int):Option R:=aB (ev WU (pX R) kk (sub [1,0,1,0,0] (cd Tryz.f165))) [0,1,7,8] [4] k ⟨[.ak (.sl 208 (.pair (.int .i64) (.pair .str .unit))) a []]::[.ptr 0 (.aG (.rW 166) (.int .i64) .unit) []]::uS 5 ([tI b]::[tI c]::uS 10 []),(some ⟨(.int .i64),d,[]⟩)::nS 19 []⟩ J
def zg5(a b:Int):State:=⟨uS 4 ([tI a]::uS 14 []),(some ⟨(.int .i64),b,[]⟩)::nS 19 []⟩
def zg6(a:Int):State:=⟨uS 19 [],(some ⟨(.int .i64),a,[]⟩)::nS 19 []⟩
def zzt(a:Int):KX R:=(zj 0 (aU WU (pX R) kk (sub [1,1] (cd Tryz.f165)) (aS WU Tryz.f165.results.toList (some ⟨(.int .i64),a,[]⟩) K)))
theorem alB(a:al)(b c d:Int):Vc R kk (k+1) J a b c d=
 zzu a b c d (fun a0 a1=>J .ret (zg5 a0 a1)) (Vc R kk k J) (fun a0=>J (.exit 0) (zg6 a0)):=by kernel_rfl
theorem afg(a b c:Int):zzt R kk K a .ret (zg5 b c)=
 zzv b c (fun a0 a1=>K [tI a0] (some ⟨(.int .i64),a1,[]⟩)):=by kernel_rfl
theorem afh(a b:Int):zzt R kk K a (.exit 0) (zg6 b)=
 zzw b (fun a0 a1=>K [tI a0] (some ⟨(.int .i64),a1,[]⟩)):=by kernel_rfl
theorem aiw{kk:Nat}(hF:kk=ai)(lZ:al)(t7 t8 recv:Int):Vc R kk k J lZ t7 t8 recv=(Qz k lZ t7 t8 recv).bind fun e=>(Sum.elim (fun(we:(Int×Int))=>J .ret (zg5 we.1 we.2)) (fun(we:Int)=>J (.exit 0) (zg6 we)) e):=by
 induction k generalizing lZ t7 t8 recv with
 |zero=>rfl
 |succ k ih=>
  rw[alB]
  simp only[Qz,zzu,ih,aD]
def yX:ah:=pX.add 165 [(.sl 208 (.pair (.int .i64) (.pair .str .unit))),.unit] (pz (.sl 208 (.pair (.int .i64) (.pair .str .unit))) (.aG (.rW 166) (.int .i64) .unit) (.int .i64) [] tu (fun _ r K=>K [tI r.1] (some ⟨(.int .i64),r.2,[]⟩)))
theorem aaF:aP Tryz.prog yX:=sz WU Tryz.f165 (fun R kk x0 x1 K=>Vd x0 x1 (Vc R kk kk (zzt R kk K x1))) aaE (ek _ _ _ _) Tryz.func165 (by kernel_rfl) rfl (fun _ _ _ _ _ _ h=>h _ _) (fun _ _ _ _ _=>by kernel_rfl) fun R kk e x0 x1 K=>by
 simp only[tu,Vd,zzv,zzw,aiw (hF:=e),afg,afh,aD,<-e]
def anm:Env:={b9.env (fun _=>[]) (fun _=>[]) [6] [y8,(.int .i64),.str] with fz:=fun i=>bif Nat.beq i 9 then some (9,155) else none}
def jZ:ah:=yX.add 119 [y8,(.int .i64),.str] (kH y8 (.int .i64) .str ij (fun _ r K=>K [.ak y8 r []] none))
theorem aaG:aP Tryz.prog jZ:=kW anm Tryz.f119 (fun R kk x0 x1 x2 K=>Us x0 x1 x2 (fun a0=>K [.ak y8 a0 []] none)) aaF ((ek _ _ _ _).fz _) Tryz.func119 (by kernel_rfl) rfl (fun _ _ _ _ _ _ h=>h _ _) (fun _ _ _ _ _ _=>by kernel_rfl) fun R kk e x0 x1 x2 K=>by
 simp only[ij,Us,aD]
def FD:Env:=b9.env (fun i=>bif Nat.beq i 2 then [2,10,11,12] else bif Nat.beq i 5 then [2,6,10,11,12,17,18,19] else []) (fun i=>bif Nat.beq i 2 then [4] else bif Nat.beq i 5 then [2,4,10,11,12] else []) [] [cw,(.int .i64)]
def UL(a:(List Int))(b c:Int)(d:au):Option R:=aB (ev FD (jZ R) kk (sub [1,0,1,0,0] (cd Tryz.f120))) [2,10,11,12] [4] k ⟨uS 2 ([.ptr 3 cw []]::uS 7 ([.ak (.sl 39 (.int .i64)) a [[]]]::[tI b]::[tI c]::uS 18 [])),nS 3 ((some ⟨cw,d,[]⟩)::nS 28 [])⟩ J
def zfr:State:=⟨uS 31 [],nS 32 []⟩
def zfs(a:ByteArray):State:=⟨uS 4 ([tS a]::uS 26 []),nS 32 []⟩
def zz6:KX R:=(zj 0 (aU FD (jZ R) kk (sub [1,1] (cd Tryz.f120)) (aS FD Tryz.f120.results.toList none K)))
def UM(a:Int)(b:(List Int))(c d:Int)(e:al)(f g:Int)(h:au):Option R:=aB (ev FD (jZ R) kk (sub [1,0,1,0,0,1,1,0,0,1,1,0,0] (cd Tryz.f120))) [2,6,10,11,12,17,18,19] [2,4,10,11,12] k ⟨uS 2 ([.ptr 3 cw []]::uS 3 ([tI a]::uS 3 ([.ak (.sl 39 (.int .i64)) b [[]]]::[tI c]::[tI d]::uS 4 ([.ak (.sl 107 (.pair (.int .i64) (.pair .str .unit))) e []]::[tI f]::[tI g]::uS 11 [])))),nS 3 ((some ⟨cw,h,[]⟩)::nS 28 [])⟩ J
def zft(a:ByteArray)(b:(List Int))(c d:Int)(e:au):State:=⟨uS 2 ([.ptr 3 cw []]::uS 1 ([tS a]::uS 5 ([.ak (.sl 39 (.int .i64)) b [[]]]::[tI c]::[tI d]::uS 18 []))),nS 3 ((some ⟨cw,e,[]⟩)::nS 28 [])⟩
def zfu(a:(List Int))(b c:Int)(d:au):State:=⟨uS 2 ([.ptr 3 cw []]::uS 7 ([.ak (.sl 39 (.int .i64)) a [[]]]::[tI b]::[tI c]::uS 18 [])),nS 3 ((some ⟨cw,d,[]⟩)::nS 28 [])⟩
def zz7:KX R:=(zj 2 (zj 1 (aU FD (jZ R) kk (sub [1,0,1,0,0,1,1,1] (cd Tryz.f120)) (nk (ev FD (jZ R) kk (sub [1,0,1,0,0] (cd Tryz.f120))) [2,10,11,12] [4] k J))))
theorem als(a:(List Int))(b c:Int)(d:au):UL R kk (k+1) J a b c d=
 Qu a b c d (UM R kk kk (zz7 R kk k J)) (J (.exit 0) (zfr)):=by kernel_rfl
theorem ae2:zz6 R kk K (.exit 0) (zfr)=
 zz8 (fun a0=>K [tS a0] none):=by kernel_rfl
theorem alu(a:Int)(b:(List Int))(c d:Int)(e:al)(f g:Int)(h:au):UM R kk (k+1) J a b c d e f g h=
 zz9 a b c d e f g h (fun a0 a1 a2 a3 a4=>J .ret (zft a0 a1 a2 a3 a4)) (UM R kk k J) (fun a0 a1 a2 a3=>J (.exit 2) (zfu a0 a1 a2 a3)):=by kernel_rfl
theorem ae4(a:ByteArray)(b:(List Int))(c d:Int)(e:au):zz7 R kk k J .ret (zft a b c d e)=
 zza a b c d e (fun a0=>J .ret (zfs a0)):=by kernel_rfl
theorem ae5(a:(List Int))(b c:Int)(d:au):zz7 R kk k J (.exit 2) (zfu a b c d)=
 UO a b c d (UL R kk k J):=by kernel_rfl
theorem ae3(a:ByteArray):zz6 R kk K .ret (zfs a)=
 zzb a (fun a0=>K [tS a0] none):=by kernel_rfl
theorem aiq{kk:Nat}(hF:kk=ai)(t6:Int)(t10:(List Int))(t11 t12:Int)(t17:al)(t18 t19:Int)(df:au):UM R kk k J t6 t10 t11 t12 t17 t18 t19 df=(GU k t6 t10 t11 t12 t17 t18 t19 df).bind fun e=>(Sum.elim (fun(we:(ByteArray×(List Int)×Int×Int×au))=>J .ret (zft we.1 we.2.1 we.2.2.1 we.2.2.2.1 we.2.2.2.2)) (fun(we:((List Int)×Int×Int×au))=>J (.exit 2) (zfu we.1 we.2.1 we.2.2.1 we.2.2.2)) e):=by
 induction k generalizing t6 t10 t11 t12 t17 t18 t19 df with
 |zero=>rfl
 |succ k ih=>
  rw[alu]
  simp only[GU,zz9,ih,aD]
theorem aip{kk:Nat}(hF:kk=ai)(t10:(List Int))(t11 t12:Int)(df:au):UL R kk k J t10 t11 t12 df=(Bf k t10 t11 t12 df).bind fun e=>(Sum.elim (fun(we:Unit)=>J (.exit 0) (zfr)) (fun(we:ByteArray)=>J .ret (zfs we)) e):=by
 induction k generalizing t10 t11 t12 df with
 |zero=>rfl
 |succ k ih=>
  rw[als]
  simp only[Bf,Qu,zza,UO,ih,aiq (hF:=hF),ae4,ae5,aD,<-hF]
def pY:ah:=jZ.add 120 [cw,(.int .i64)] (dp cw (.int .i64) te (fun _ r K=>K [tS r] none))
theorem aaH:aP Tryz.prog pY:=dx FD Tryz.f120 (fun R kk x0 x1 K=>UN x0 x1 (UL R kk kk (zz6 R kk K))) aaG (ek _ _ _ _) Tryz.func120 (by kernel_rfl) rfl (fun _ _ _ _ _ _ h=>h _ _) (fun _ _ _ _ _=>by kernel_rfl) fun R kk e x0 x1 K=>by
 simp only[te,UN,zz8,zzb,aip (hF:=e),ae2,ae3,aD,<-e]
def WM:Env:={{b9.env (fun i=>bif Nat.beq i 6 then [3,4,5,6,10,27,28,29] else []) (fun i=>bif Nat.beq i 6 then [3,5,6,10] else []) [6] [cw,y8,(.pair (.int .i64) (.pair (.int .i64) .unit))] with dr:=fun i=>bif Nat.beq i 6 then [11] else []} with ro:=true}
def UD(a:(List Int))(b c:Int)(d:au)(e:aw)(f:aR)(g h:aw):Option R:=aB (ev WM (pY R) kk (sub [1,1,1,1,0,1,0,0] (cd Tryz.f88))) [3,4,5,6,10,27,28,29] [3,5,6,10] k ⟨uS 3 ([.ptr 4 cw []]::[.ptr 5 y8 []]::[.ptr 6 (.pair (.int .i64) (.pair (.int .i64) .unit)) []]::[.ptr 7 y8 []]::uS 3 ([.ptr 11 y8 []]::uS 16 ([.ak (.sl 3 (.int .i64)) a []]::[tI b]::[tI c]::uS 21 []))),nS 4 ((some ⟨cw,d,[]⟩)::(some ⟨y8,e,[]⟩)::(some ⟨(.pair (.int .i64) (.pair (.int .i64) .unit)),f,[]⟩)::(some ⟨y8,g,[[1]]⟩)::nS 3 ((some ⟨y8,h,[]⟩)::nS 40 []))⟩ J
def zfm(a:au)(b:aR)(c d:aw):State:=⟨uS 3 ([.ptr 4 cw []]::uS 1 ([.ptr 6 (.pair (.int .i64) (.pair (.int .i64) .unit)) []]::[.ptr 7 y8 []]::uS 3 ([.ptr 11 y8 []]::uS 40 []))),nS 4 ((some ⟨cw,a,[]⟩)::nS 1 ((some ⟨(.pair (.int .i64) (.pair (.int .i64) .unit)),b,[]⟩)::(some ⟨y8,c,[[1]]⟩)::nS 3 ((some ⟨y8,d,[]⟩)::nS 40 [])))⟩
def N8:KX R:=(zj 0 (aU WM (pY R) kk (sub [1,1,1,1,1] (cd Tryz.f88)) (aS WM Tryz.f88.results.toList none K)))
theorem alp(a:(List Int))(b c:Int)(d:au)(e:aw)(f:aR)(g h:aw):UD R kk (k+1) J a b c d e f g h=
 zz1 a b c d e f g h (UD R kk k J) (fun a0 a1 a2 a3=>J (.exit 0) (zfm a0 a1 a2 a3)):=by kernel_rfl
theorem aeX(a:au)(b:aR)(c d:aw):N8 R kk K (.exit 0) (zfm a b c d)=
 UF a b c d (fun a0 a1=>K [.ak y8 a0 [],tB a1] none):=by kernel_rfl
theorem aim{kk:Nat}(hF:kk=ai)(t27:(List Int))(t28 t29:Int)(dH:au)(cQ:aw)(du:aR)(j6 BM:aw):UD R kk k J t27 t28 t29 dH cQ du j6 BM=(Qr k t27 t28 t29 dH cQ du j6 BM).bind fun e=>J (.exit 0) (zfm e.1 e.2.1 e.2.2.1 e.2.2.2):=by
 induction k generalizing t27 t28 t29 dH cQ du j6 BM with
 |zero=>rfl
 |succ k ih=>
  rw[alp]
  simp only[Qr,zz1,ih,aD]
def pZ:ah:=pY.add 88 [cw,y8,(.pair (.int .i64) (.pair (.int .i64) .unit))] (kH cw y8 (.pair (.int .i64) (.pair (.int .i64) .unit)) tc (fun _ r K=>K [.ak y8 r.1 [],tB r.2] none))
theorem aaI:aP Tryz.prog pZ:=kW WM Tryz.f88 (fun R kk x0 x1 x2 K=>UE x0 x1 x2 (fun a0 a1=>K [.ak y8 a0 [],tB a1] none) (UD R kk kk (N8 R kk K))) aaH (((ek _ _ _ _).dr _).ro _) Tryz.func88 (by kernel_rfl) rfl (fun _ _ _ _ _ _ h=>h _ _) (fun _ _ _ _ _ _=>by kernel_rfl) fun R kk e x0 x1 x2 K=>by
 simp only[tc,UE,UF,aim (hF:=e),aeX,aD,<-e]
def WE:Env:=b9.env (fun i=>bif Nat.beq i 9 then [2,4,9,39,40,41] else []) (fun i=>bif Nat.beq i 9 then [4] else []) [4] [aK,y8]
def Um(a:Int)(b:al)(c d:Int)(e:af)(f:aR):Option R:=aB (ev WE (pZ R) kk (sub [1,1,1,1,0,1,0,0] (cd Tryz.f121))) [2,4,9,39,40,41] [4] k ⟨uS 2 ([.ptr 3 aK []]::uS 1 ([.ptr 5 (.pair (.int .i64) (.pair (.int .i64) .unit)) []]::uS 4 ([tI a]::uS 29 ([.ak (.sl 208 (.pair (.int .i64) (.pair .str .unit))) b []]::[tI c]::[tI d]::uS 36 [])))),nS 3 ((some ⟨aK,e,[]⟩)::nS 1 ((some ⟨(.pair (.int .i64) (.pair (.int .i64) .unit)),f,[]⟩)::nS 73 []))⟩ J
def zff(a:aR):State:=⟨uS 4 ([.ptr 5 (.pair (.int .i64) (.pair (.int .i64) .unit)) []]::uS 73 []),nS 5 ((some ⟨(.pair (.int .i64) (.pair (.int .i64) .unit)),a,[]⟩)::nS 73 [])⟩
def zfg(a:aR):State:=⟨uS 4 ([.ptr 5 (.pair (.int .i64) (.pair (.int .i64) .unit)) []]::uS 73 []),nS 5 ((some ⟨(.pair (.int .i64) (.pair (.int .i64) .unit)),a,[]⟩)::nS 73 [])⟩
def zyl:KX R:=(zj 0 (aU WE (pZ R) kk (sub [1,1,1,1,1] (cd Tryz.f121)) (aS WE Tryz.f121.results.toList none K)))
theorem alj(a:Int)(b:al)(c d:Int)(e:af)(f:aR):Um R kk (k+1) J a b c d e f=
 zym a b c d e f (fun a0=>J .ret (zff a0)) (Um R kk k J) (fun a0=>J (.exit 0) (zfg a0)):=by kernel_rfl
theorem aeQ(a:aR):zyl R kk K .ret (zff a)=
 zyn a (fun a0=>K [.ak (.pair (.int .i64) (.pair (.int .i64) .unit)) a0 []] none):=by kernel_rfl
theorem aeR(a:aR):zyl R kk K (.exit 0) (zfg a)=
 zyo a (fun a0=>K [.ak (.pair (.int .i64) (.pair (.int .i64) .unit)) a0 []] none):=by kernel_rfl
theorem aih{kk:Nat}(hF:kk=ai)(t9:Int)(t39:al)(t40 t41:Int)(df:af)(cQ:aR):Um R kk k J t9 t39 t40 t41 df cQ=(Ql k t9 t39 t40 t41 df cQ).bind fun e=>(Sum.elim (fun(we:aR)=>J .ret (zff we)) (fun(we:aR)=>J (.exit 0) (zfg we)) e):=by
 induction k generalizing t9 t39 t40 t41 df cQ with
 |zero=>rfl
 |succ k ih=>
  rw[alj]
  simp only[Ql,zym,ih,aD]
def p5:ah:=pZ.add 121 [aK,y8] (dp aK y8 qK (fun _ r K=>K [.ak (.pair (.int .i64) (.pair (.int .i64) .unit)) r []] none))
theorem aaJ:aP Tryz.prog p5:=dx WE Tryz.f121 (fun R kk x0 x1 K=>Un x0 x1 (fun a0=>K [.ak (.pair (.int .i64) (.pair (.int .i64) .unit)) a0 []] none) (Um R kk kk (zyl R kk K))) aaI (ek _ _ _ _) Tryz.func121 (by kernel_rfl) rfl (fun _ _ _ _ _ _ h=>h _ _) (fun _ _ _ _ _=>by kernel_rfl) fun R kk e x0 x1 K=>by
 simp only[qK,Un,zyn,zyo,aih (hF:=e),aeQ,aeR,aD,<-e]
def vR:Env:=b9.env (fun i=>bif Nat.beq i 7 then [0,4,5] else []) (fun i=>bif Nat.beq i 7 then [4] else []) [] [.str]
def oW(a:ByteArray)(b:(List Int))(c:Int):Option R:=aB (ev vR (p5 R) kk (sub [1,1,1,1,0,1,0,0] (cd Tryz.f168))) [0,4,5] [4] k ⟨[tS a]::uS 3 ([.ak (.sl 5 (.int .u8)) b [[]]]::[tI c]::uS 40 []),nS 47 []⟩ J
def zzo(a:(List Int)):State:=⟨uS 4 ([.ak (.sl 5 (.int .u8)) a [[]]]::uS 41 []),nS 47 []⟩
def yp:KX R:=(zj 0 (aU vR (p5 R) kk (sub [1,1,1,1,1] (cd Tryz.f168)) (aS vR Tryz.f168.results.toList none K)))
theorem HG(a:ByteArray)(b:(List Int))(c:Int):oW R kk (k+1) J a b c=
 mN a b c (oW R kk k J) (fun a0=>J (.exit 0) (zzo a0)):=by kernel_rfl
theorem alz(a:(List Int)):yp R kk K (.exit 0) (zzo a)=
 tn a (fun a0 a1=>K [tS a0,tB a1] none):=by kernel_rfl
theorem anJ{kk:Nat}(hF:kk=ai)(iY:ByteArray)(t4:(List Int))(t5:Int):oW R kk k J iY t4 t5=(jV k iY t4 t5).bind fun e=>J (.exit 0) (zzo e):=by
 induction k generalizing iY t4 t5 with
 |zero=>rfl
 |succ k ih=>
  rw[HG]
  simp only[jV,mN,ih,aD]
def yY:ah:=p5.add 168 [.str] (cO .str Q1 (fun _ r K=>K [tS r.1,tB r.2] none))
theorem aaK:aP Tryz.prog yY:=cP vR Tryz.f168 (fun R kk x0 K=>kZ x0 (fun a0 a1=>K [tS a0,tB a1] none) (fun a0 a1 a2=>oW R kk kk (yp R kk K) a0 a1 a2)) aaJ (ek _ _ _ _) Tryz.func168 (by kernel_rfl) rfl (fun _ _ _ _ _ _ h=>h _ _) (fun _ _ _ _=>by kernel_rfl) fun R kk e x0 K=>by
 simp only[Q1,ac1,tn,anJ (hF:=e),alz,aD,<-e]
def anW:Env:=e0 [(.int .i64),.str]
def yZ:ah:=yY.add 124 [(.int .i64),.str] (dp (.int .i64) .str tD (fun _ r K=>K [tS r.1,tB r.2] none))
theorem Cz:aP Tryz.prog yZ:=dx anW Tryz.f124 (fun R kk x0 x1 K=>VE x0 x1 (fun a0 a1=>K [tS a0,tB a1] none)) aaK (ek _ _ _ _) Tryz.func124 (by kernel_rfl) rfl (fun _ _ _ _ _ _ h=>h _ _) (fun _ _ _ _ _=>by kernel_rfl) fun R kk e x0 x1 K=>by
 simp only[tD,VE,aD]
def Tryz.jj:Go.Shelf.Ren:=⟨fun|166=>123|240=>167|276=>209|n=>n,fun|70=>196|9=>9|3=>3|75=>200|0=>0|72=>198|37=>99|4=>4|164=>280|80=>210|5=>5|20=>20|n=>n,fun n=>n⟩
theorem Tryz.xD:Go.Proofs.Lays.n166 Go.Proofs.Tryz.prog Tryz.jj:={
 mixed:=by kernel_rfl,
 f166:=Go.Proofs.Tryz.func123.trans (congrArg some (by kernel_rfl)),
 f240:=Go.Proofs.Tryz.func167.trans (congrArg some (by kernel_rfl)),
 f276:=Go.Proofs.Tryz.func209.trans (congrArg some (by kernel_rfl)),
 t0:=Go.Proofs.Tryz.underlying0,
 a0:=Go.Proofs.Tryz.isAgg0,
 z0:=Go.Proofs.Tryz.sizeOf0,
 v0:=Go.Proofs.Tryz.zeroValue0,
 t3:=Go.Proofs.Tryz.underlying3,
 a3:=Go.Proofs.Tryz.isAgg3,
 z3:=Go.Proofs.Tryz.sizeOf3,
 v3:=Go.Proofs.Tryz.zeroValue3,
 t4:=Go.Proofs.Tryz.underlying4,
 a4:=Go.Proofs.Tryz.isAgg4,
 z4:=Go.Proofs.Tryz.sizeOf4,
 v4:=Go.Proofs.Tryz.zeroValue4,
 t9:=Go.Proofs.Tryz.underlying9,
 a9:=Go.Proofs.Tryz.isAgg9,
 z9:=Go.Proofs.Tryz.sizeOf9,
 v9:=Go.Proofs.Tryz.zeroValue9,
 t20:=Go.Proofs.Tryz.underlying20,
 a20:=Go.Proofs.Tryz.isAgg20,
 z20:=Go.Proofs.Tryz.sizeOf20,
 v20:=Go.Proofs.Tryz.zeroValue20,
 t37:=Go.Proofs.Tryz.underlying99,
 a37:=Go.Proofs.Tryz.isAgg99,
 z37:=Go.Proofs.Tryz.sizeOf99,
 v37:=Go.Proofs.Tryz.zeroValue99,
 t70:=Go.Proofs.Tryz.underlying196,
 a70:=Go.Proofs.Tryz.isAgg196,
 z70:=Go.Proofs.Tryz.sizeOf196,
 v70:=Go.Proofs.Tryz.zeroValue196,
 t72:=Go.Proofs.Tryz.underlying198,
 a72:=Go.Proofs.Tryz.isAgg198,
 z72:=Go.Proofs.Tryz.sizeOf198,
 v72:=Go.Proofs.Tryz.zeroValue198,
 t75:=Go.Proofs.Tryz.underlying200,
 a75:=Go.Proofs.Tryz.isAgg200,
 z75:=Go.Proofs.Tryz.sizeOf200,
 v75:=Go.Proofs.Tryz.zeroValue200,
 t164:=Go.Proofs.Tryz.underlying280,
 a164:=Go.Proofs.Tryz.isAgg280,
 z164:=Go.Proofs.Tryz.sizeOf280,
 v164:=Go.Proofs.Tryz.zeroValue280}
theorem Tryz.tP:Go.Proofs.Builder.Extra Go.Proofs.Tryz.prog Tryz.jj:={
 sizeBuilder:=by kernel_rfl,
 liesBuilder:=by kernel_rfl,
 t5:=Go.Proofs.Tryz.underlying5,
 a5:=Go.Proofs.Tryz.isAgg5,
 z5:=Go.Proofs.Tryz.sizeOf5,
 v5:=Go.Proofs.Tryz.zeroValue5,
 infoByte:=by kernel_rfl,
 cellsByte:=by kernel_rfl,
 sizeByte:=by kernel_rfl,
 neB5:=by decide}
noncomputable abbrev z6g:Code:=Tryz.f123.body.getD .skip
theorem z5w:rU Tryz.prog 123:=⟨Tryz.f123,z6g,Tryz.func123,by kernel_rfl,by kernel_rfl⟩
def zA:ah:=yZ.add 123 [] (Rt 198 5)
theorem aaL:aP Tryz.prog zA:=⟨Cz.mix,VV Cz.nat (aop _ _),afS Cz.uE z5w Tryz.xD Tryz.tP rfl rfl rfl⟩
def anV:Env:=e0 [.str,.unit]
def p6:ah:=zA.add 122 [.str,.unit] (pz .str (.aG (.gH 198 5) .unit .unit) (.aG (.gH 198 5) .unit .unit) [[]] jW (fun _ r K=>K [] (some ⟨(.aG (.gH 198 5) .unit .unit),r,[[]]⟩)))
theorem aaM:aP Tryz.prog p6:=sz anV Tryz.f122 (fun R kk x0 x1 K=>VD x0 x1 (fun a0=>K [] (some ⟨(.aG (.gH 198 5) .unit .unit),a0,[[]]⟩))) aaL (ek _ _ _ _) Tryz.func122 (by kernel_rfl) rfl (fun _ _ _ _ _ _ h=>h _ _) (fun _ _ _ _ _=>by kernel_rfl) fun R kk e x0 x1 K=>by
 simp only[jW,VD,aD]
def WH:Env:=b9.env (fun i=>bif Nat.beq i 3 then [2,3,7,8,9] else []) (fun i=>bif Nat.beq i 3 then [2,3] else []) [2] [y8]
def Uq(a:al)(b c:Int)(d e:aR):Option R:=aB (ev WH (p6 R) kk (sub [1,1,0,1,0,0] (cd Tryz.f126))) [2,3,7,8,9] [2,3] k ⟨uS 2 ([.ptr 3 (.pair (.int .u64) (.pair (.int .u64) .unit)) []]::[.ptr 4 (.pair (.int .u64) (.pair (.int .u64) .unit)) []]::uS 3 ([.ak (.sl 208 (.pair (.int .i64) (.pair .str .unit))) a []]::[tI b]::[tI c]::uS 9 [])),nS 3 ((some ⟨(.pair (.int .u64) (.pair (.int .u64) .unit)),d,[]⟩)::(some ⟨(.pair (.int .u64) (.pair (.int .u64) .unit)),e,[]⟩)::nS 15 [])⟩ J
def zfj(a b:aR):State:=⟨uS 2 ([.ptr 3 (.pair (.int .u64) (.pair (.int .u64) .unit)) []]::[.ptr 4 (.pair (.int .u64) (.pair (.int .u64) .unit)) []]::uS 15 []),nS 3 ((some ⟨(.pair (.int .u64) (.pair (.int .u64) .unit)),a,[]⟩)::(some ⟨(.pair (.int .u64) (.pair (.int .u64) .unit)),b,[]⟩)::nS 15 [])⟩
def N5:KX R:=(zj 0 (aU WH (p6 R) kk (sub [1,1,1] (cd Tryz.f126)) (aS WH Tryz.f126.results.toList none K)))
theorem alm(a:al)(b c:Int)(d e:aR):Uq R kk (k+1) J a b c d e=
 zyt a b c d e (Uq R kk k J) (fun a0 a1=>J (.exit 0) (zfj a0 a1)):=by kernel_rfl
theorem aeU(a b:aR):N5 R kk K (.exit 0) (zfj a b)=
 zyu a b (fun a0=>K [.ak (.pair (.int .u64) (.pair (.int .u64) .unit)) a0 []] none):=by kernel_rfl
theorem aij{kk:Nat}(hF:kk=ai)(t7:al)(t8 t9:Int)(df dH:aR):Uq R kk k J t7 t8 t9 df dH=(Qn k t7 t8 t9 df dH).bind fun e=>J (.exit 0) (zfj e.1 e.2):=by
 induction k generalizing t7 t8 t9 df dH with
 |zero=>rfl
 |succ k ih=>
  rw[alm]
  simp only[Qn,zyt,ih,aD]
def zB:ah:=p6.add 126 [y8] (cO y8 s4 (fun _ r K=>K [.ak (.pair (.int .u64) (.pair (.int .u64) .unit)) r []] none))
theorem aaN:aP Tryz.prog zB:=cP WH Tryz.f126 (fun R kk x0 K=>Ur x0 (Uq R kk kk (N5 R kk K))) aaM (ek _ _ _ _) Tryz.func126 (by kernel_rfl) rfl (fun _ _ _ _ _ _ h=>h _ _) (fun _ _ _ _=>by kernel_rfl) fun R kk e x0 K=>by
 simp only[s4,Ur,zyu,aij (hF:=e),aeU,aD,<-e]
def HR:Env:=e0 [(.pair (.int .u64) (.pair (.int .u64) .unit)),(.int .i64)]
def zE:ah:=zB.add 170 [(.pair (.int .u64) (.pair (.int .u64) .unit)),(.int .i64)] (dp (.pair (.int .u64) (.pair (.int .u64) .unit)) (.int .i64) HQ (fun _ r K=>K [tB r] none))
theorem aaO:aP Tryz.prog zE:=dx HR Tryz.f170 (fun R kk x0 x1 K=>Xn x0 x1 (fun a0=>K [tB a0] none)) aaN (ek _ _ _ _) Tryz.func170 (by kernel_rfl) rfl (fun _ _ _ _ _ _ h=>h _ _) (fun _ _ _ _ _=>by kernel_rfl) fun R kk e x0 x1 K=>by
 simp only[HQ,Xn,aD]
def HP:Env:=e0 [(.pair (.int .u64) (.pair (.int .u64) .unit))]
def p7:ah:=zE.add 171 [(.pair (.int .u64) (.pair (.int .u64) .unit))] (cO (.pair (.int .u64) (.pair (.int .u64) .unit)) RG (fun _ r K=>K [.ak (.int .u64) r.1 [],.ak (.int .u64) r.2 []] none))
theorem aaP:aP Tryz.prog p7:=cP HP Tryz.f171 (fun R kk x0 K=>DT x0 (fun a0 a1=>K [.ak (.int .u64) a0 [],.ak (.int .u64) a1 []] none)) aaO (ek _ _ _ _) Tryz.func171 (by kernel_rfl) rfl (fun _ _ _ _ _ _ h=>h _ _) (fun _ _ _ _=>by kernel_rfl) fun R kk e x0 K=>by
 simp only[RG,DT,aD]
def wg:Env:=b9.env (fun i=>bif Nat.beq i 3 then [0,2,3,5] else []) (fun i=>bif Nat.beq i 3 then [2,3] else []) [2] [(.int .u64)]
def pJ(a b:Int)(c d:(List Int)):Option R:=aB (ev wg (p7 R) kk (sub [1,1,0,1,0,0] (cd Tryz.f172))) [0,2,3,5] [2,3] k ⟨[.ak (.int .u64) a []]::uS 1 ([.ptr 3 (.arr 8 (.int .u8)) []]::[.ptr 4 (.arr 8 (.int .u8)) []]::uS 1 ([tI b]::uS 12 [])),nS 3 ((some ⟨(.arr 8 (.int .u8)),c,[]⟩)::(some ⟨(.arr 8 (.int .u8)),d,[]⟩)::nS 14 [])⟩ J
def Dn(a b:(List Int)):State:=⟨uS 2 ([.ptr 3 (.arr 8 (.int .u8)) []]::[.ptr 4 (.arr 8 (.int .u8)) []]::uS 14 []),nS 3 ((some ⟨(.arr 8 (.int .u8)),a,[]⟩)::(some ⟨(.arr 8 (.int .u8)),b,[]⟩)::nS 14 [])⟩
def yE:KX R:=(zj 0 (aU wg (p7 R) kk (sub [1,1,1] (cd Tryz.f172)) (aS wg Tryz.f172.results.toList none K)))
theorem Iv(a b:Int)(c d:(List Int)):pJ R kk (k+1) J a b c d=
 mQ a b c d (pJ R kk k J) (fun a0 a1=>J (.exit 0) (Dn a0 a1)):=by kernel_rfl
theorem amb(a b:(List Int)):yE R kk K (.exit 0) (Dn a b)=
 pL a b (fun a0=>K [.ak (.arr 8 (.int .u8)) a0 []] none):=by kernel_rfl
theorem aoi{kk:Nat}(hF:kk=ai)(x_0 t5:Int)(df dH:(List Int)):pJ R kk k J x_0 t5 df dH=(il k x_0 t5 df dH).bind fun e=>J (.exit 0) (Dn e.1 e.2):=by
 induction k generalizing x_0 t5 df dH with
 |zero=>rfl
 |succ k ih=>
  rw[Iv]
  simp only[il,mQ,ih,aD]
def p8:ah:=p7.add 172 [(.int .u64)] (cO (.int .u64) Q8 (fun _ r K=>K [.ak (.arr 8 (.int .u8)) r []] none))
theorem aaQ:aP Tryz.prog p8:=cP wg Tryz.f172 (fun R kk x0 K=>pK x0 (pJ R kk kk (yE R kk K))) aaP (ek _ _ _ _) Tryz.func172 (by kernel_rfl) rfl (fun _ _ _ _ _ _ h=>h _ _) (fun _ _ _ _=>by kernel_rfl) fun R kk e x0 K=>by
 simp only[Q8,pK,pL,aoi (hF:=e),amb,aD,<-e]
def WB:Env:=b9.env (fun i=>bif Nat.beq i 3 then [0,3,4] else []) (fun i=>bif Nat.beq i 3 then [3] else []) [] [.str]
def Uj(a:ByteArray)(b:(List Int))(c:Int):Option R:=aB (ev WB (p8 R) kk (sub [1,1,0,1,0,0] (cd Tryz.f173))) [0,3,4] [3] k ⟨[tS a]::uS 2 ([.ak (.sl 5 (.int .u8)) b [[]]]::[tI c]::uS 25 []),nS 31 []⟩ J
def zfd(a:(List Int)):State:=⟨uS 3 ([.ak (.sl 5 (.int .u8)) a [[]]]::uS 26 []),nS 31 []⟩
def N4:KX R:=(zj 0 (aU WB (p8 R) kk (sub [1,1,1] (cd Tryz.f173)) (aS WB Tryz.f173.results.toList none K)))
theorem alh(a:ByteArray)(b:(List Int))(c:Int):Uj R kk (k+1) J a b c=
 Qk a b c (Uj R kk k J) (fun a0=>J (.exit 0) (zfd a0)):=by kernel_rfl
theorem aeP(a:(List Int)):N4 R kk K (.exit 0) (zfd a)=
 zyj a (fun a0=>K [tS a0] none):=by kernel_rfl
theorem aid{kk:Nat}(hF:kk=ai)(iY:ByteArray)(t3:(List Int))(t4:Int):Uj R kk k J iY t3 t4=(Fp k iY t3 t4).bind fun e=>J (.exit 0) (zfd e):=by
 induction k generalizing iY t3 t4 with
 |zero=>rfl
 |succ k ih=>
  rw[alh]
  simp only[Fp,Qk,ih,aD]
def zG:ah:=p8.add 173 [.str] (cO .str jT (fun _ r K=>K [tS r] none))
theorem aaR:aP Tryz.prog zG:=cP WB Tryz.f173 (fun R kk x0 K=>Uk x0 (Uj R kk kk (N4 R kk K))) aaQ (ek _ _ _ _) Tryz.func173 (by kernel_rfl) rfl (fun _ _ _ _ _ _ h=>h _ _) (fun _ _ _ _=>by kernel_rfl) fun R kk e x0 K=>by
 simp only[jT,Uk,zyj,aid (hF:=e),aeP,aD,<-e]
def YF:Env:=e0 [(.int .i64),(.pair (.int .u64) (.pair (.int .u64) .unit))]
def p9:ah:=zG.add 125 [(.int .i64),(.pair (.int .u64) (.pair (.int .u64) .unit))] (dp (.int .i64) (.pair (.int .u64) (.pair (.int .u64) .unit)) Q6 (fun _ r K=>K [tS r.1,tI r.2] none))
theorem aaS:aP Tryz.prog p9:=dx YF Tryz.f125 (fun R kk x0 x1 K=>pB x0 x1 (fun a0 a1=>K [tS a0,tI a1] none)) aaR (ek _ _ _ _) Tryz.func125 (by kernel_rfl) rfl (fun _ _ _ _ _ _ h=>h _ _) (fun _ _ _ _ _=>by kernel_rfl) fun R kk e x0 x1 K=>by
 simp only[Q6,pB,aD]
def pd:Env:=b9.env (fun i=>bif Nat.beq i 5 then [0,6,7,19] else []) (fun i=>bif Nat.beq i 5 then [0,6,19] else []) [] [(.int .i64),(.int .i64)]
def Xg(a:Int)(b:Nat)(c:Int)(d:Nat)(e:(List Int)):Option R:=aB (ev pd (p9 R) kk (sub [1,1,1,0,1,0,0] (cd Tryz.f211))) [0,6,7,19] [0,6,19] k ⟨[tI a]::uS 5 ([.ptr 20 (.aG (.iQ b) (.int .u8) .unit) []]::[tI c]::uS 11 ([.ptr 20 (.aG (.iQ d) (.int .u8) .unit) []]::uS 19 [])),nS 20 ((some ⟨(.aG .row (.int .u8) .unit),e,[]⟩)::nS 19 [])⟩ J
def zpi(a:Int)(b c:Nat)(d:(List Int)):State:=⟨[tI a]::uS 5 ([.ptr 20 (.aG (.iQ b) (.int .u8) .unit) []]::uS 12 ([.ptr 20 (.aG (.iQ c) (.int .u8) .unit) []]::uS 19 [])),nS 20 ((some ⟨(.aG .row (.int .u8) .unit),d,[]⟩)::nS 19 [])⟩
def OY:KX R:=(zj 0 (aU pd (p9 R) kk (sub [1,1,1,1] (cd Tryz.f211)) (aS pd Tryz.f211.results.toList none K)))
theorem an0(a:Int)(b:Nat)(c:Int)(d:Nat)(e:(List Int)):Xg R kk (k+1) J a b c d e=
 Ra a b c d e (Xg R kk k J) (fun a0 a1 a2 a3=>J (.exit 0) (zpi a0 a1 a2 a3)):=by kernel_rfl
theorem aiR(a:Int)(b c:Nat)(d:(List Int)):OY R kk K (.exit 0) (zpi a b c d)=
 Xi a b c d (fun a0 a1=>K [tS a0,tB a1] none):=by kernel_rfl
theorem alT{kk:Nat}(hF:kk=ai)(n_0:Int)(nt6:Nat)(t7:Int)(Cy:Nat)(BQ:(List Int)):Xg R kk k J n_0 nt6 t7 Cy BQ=(FF k n_0 nt6 t7 Cy BQ).bind fun e=>J (.exit 0) (zpi e.1 e.2.1 e.2.2.1 e.2.2.2):=by
 induction k generalizing n_0 nt6 t7 Cy BQ with
 |zero=>rfl
 |succ k ih=>
  rw[an0]
  simp only[FF,Ra,ih,aD]
def zH:ah:=p9.add 211 [(.int .i64),(.int .i64)] (dp (.int .i64) (.int .i64) HL (fun _ r K=>K [tS r.1,tB r.2] none))
theorem aaT:aP Tryz.prog zH:=dx pd Tryz.f211 (fun R kk x0 x1 K=>Xh x0 x1 (fun a0 a1=>K [tS a0,tB a1] none) (Xg R kk kk (OY R kk K))) aaS (ek _ _ _ _) Tryz.func211 (by kernel_rfl) rfl (fun _ _ _ _ _ _ h=>h _ _) (fun _ _ _ _ _=>by kernel_rfl) fun R kk e x0 x1 K=>by
 simp only[HL,Xh,Xi,alT (hF:=e),aiR,aD,<-e]
def anu:Env:=e0 [(.int .i64),(.int .i64),(.int .i64)]
def zJ:ah:=zH.add 175 [(.int .i64),(.int .i64),(.int .i64)] (kH (.int .i64) (.int .i64) (.int .i64) qM (fun _ r K=>K [tS r.1,tI r.2] none))
theorem aaU:aP Tryz.prog zJ:=kW anu Tryz.f175 (fun R kk x0 x1 x2 K=>UC x0 x1 x2 (fun a0 a1=>K [tS a0,tI a1] none)) aaT (ek _ _ _ _) Tryz.func175 (by kernel_rfl) rfl (fun _ _ _ _ _ _ h=>h _ _) (fun _ _ _ _ _ _=>by kernel_rfl) fun R kk e x0 x1 x2 K=>by
 simp only[qM,UC,aD]
def Hx:Env:=e0 [(.int .i64),cK,.str]
def zK:ah:=zJ.add 127 [(.int .i64),cK,.str] (kH (.int .i64) cK .str Bw (fun _ r K=>K [tS r.1,tI r.2] none))
theorem CA:aP Tryz.prog zK:=kW Hx Tryz.f127 (fun R kk x0 x1 x2 K=>Wo x0 x1 x2 (fun a0 a1=>K [tS a0,tI a1] none)) aaU (ek _ _ _ _) Tryz.func127 (by kernel_rfl) rfl (fun _ _ _ _ _ _ h=>h _ _) (fun _ _ _ _ _ _=>by kernel_rfl) fun R kk e x0 x1 x2 K=>by
 simp only[Bw,Wo,aD]
def Tryz.jk:Go.Shelf.Ren:=⟨fun|169=>128|n=>n,fun|70=>196|9=>9|0=>0|72=>198|37=>99|127=>256|3=>3|5=>5|n=>n,fun n=>n⟩
theorem Tryz.xE:Go.Proofs.Lays.n169 Go.Proofs.Tryz.prog Tryz.jk:={
 mixed:=by kernel_rfl,
 f169:=Go.Proofs.Tryz.func128.trans (congrArg some (by kernel_rfl)),
 t0:=Go.Proofs.Tryz.underlying0,
 a0:=Go.Proofs.Tryz.isAgg0,
 z0:=Go.Proofs.Tryz.sizeOf0,
 v0:=Go.Proofs.Tryz.zeroValue0,
 t3:=Go.Proofs.Tryz.underlying3,
 a3:=Go.Proofs.Tryz.isAgg3,
 z3:=Go.Proofs.Tryz.sizeOf3,
 v3:=Go.Proofs.Tryz.zeroValue3,
 t9:=Go.Proofs.Tryz.underlying9,
 a9:=Go.Proofs.Tryz.isAgg9,
 z9:=Go.Proofs.Tryz.sizeOf9,
 v9:=Go.Proofs.Tryz.zeroValue9,
 t37:=Go.Proofs.Tryz.underlying99,
 a37:=Go.Proofs.Tryz.isAgg99,
 z37:=Go.Proofs.Tryz.sizeOf99,
 v37:=Go.Proofs.Tryz.zeroValue99,
 t70:=Go.Proofs.Tryz.underlying196,
 a70:=Go.Proofs.Tryz.isAgg196,
 z70:=Go.Proofs.Tryz.sizeOf196,
 v70:=Go.Proofs.Tryz.zeroValue196,
 t72:=Go.Proofs.Tryz.underlying198,
 a72:=Go.Proofs.Tryz.isAgg198,
 z72:=Go.Proofs.Tryz.sizeOf198,
 v72:=Go.Proofs.Tryz.zeroValue198,
 t127:=Go.Proofs.Tryz.underlying256,
 a127:=Go.Proofs.Tryz.isAgg256,
 z127:=Go.Proofs.Tryz.sizeOf256,
 v127:=Go.Proofs.Tryz.zeroValue256}
theorem Tryz.tQ:Go.Proofs.Builder.Extra Go.Proofs.Tryz.prog Tryz.jk:={
 sizeBuilder:=by kernel_rfl,
 liesBuilder:=by kernel_rfl,
 t5:=Go.Proofs.Tryz.underlying5,
 a5:=Go.Proofs.Tryz.isAgg5,
 z5:=Go.Proofs.Tryz.sizeOf5,
 v5:=Go.Proofs.Tryz.zeroValue5,
 infoByte:=by kernel_rfl,
 cellsByte:=by kernel_rfl,
 sizeByte:=by kernel_rfl,
 neB5:=by decide}
noncomputable abbrev z9v:Code:=Tryz.f128.body.getD .skip
theorem z7t:rU Tryz.prog 128:=⟨Tryz.f128,z9v,Tryz.func128,by kernel_rfl,by kernel_rfl⟩
def qa:ah:=zK.add 128 [] (Rs 198 5)
theorem aaV:aP Tryz.prog qa:=⟨CA.mix,VV CA.nat (aoo _ _),afR CA.uE z7t Tryz.xE Tryz.tQ rfl rfl rfl⟩
def W6:Env:={b9.env (fun i=>bif Nat.beq i 11 then [2,5,7,8,50,51,52] else []) (fun i=>bif Nat.beq i 11 then [5,7] else []) [5] [aK,y8] with bl:=fun t=>bif Nat.beq t 198 then some 5 else none}
def VB(a:al)(b c:Int)(d:af)(e:aR)(f:ByteArray):Option R:=aB (ev W6 (qa R) kk (sub [1,1,1,1,1,1,1,1,0,1,0,0] (cd Tryz.f89))) [2,5,7,8,50,51,52] [5,7] k ⟨uS 2 ([.ptr 3 aK []]::uS 2 ([.ptr 6 (.pair (.int .i64) (.pair (.int .i64) .unit)) []]::uS 1 ([.ptr 8 (.aG (.gH 198 5) .unit .unit) []]::[.ptr 8 (.aG (.rW 122) (.aG (.gH 198 5) .unit .unit) .unit) []]::uS 41 ([.ak (.sl 208 (.pair (.int .i64) (.pair .str .unit))) a []]::[tI b]::[tI c]::uS 25 [])))),nS 3 ((some ⟨aK,d,[]⟩)::nS 2 ((some ⟨(.pair (.int .i64) (.pair (.int .i64) .unit)),e,[]⟩)::nS 1 ((some ⟨(.aG (.gH 198 5) .unit .unit),f,[[]]⟩)::nS 70 [])))⟩ J
def zgh(a:aR)(b:ByteArray):State:=⟨uS 5 ([.ptr 6 (.pair (.int .i64) (.pair (.int .i64) .unit)) []]::uS 1 ([.ptr 8 (.aG (.gH 198 5) .unit .unit) []]::uS 70 [])),nS 6 ((some ⟨(.pair (.int .i64) (.pair (.int .i64) .unit)),a,[]⟩)::nS 1 ((some ⟨(.aG (.gH 198 5) .unit .unit),b,[[]]⟩)::nS 70 []))⟩
def Ob:KX R:=(zj 0 (aU W6 (qa R) kk (sub [1,1,1,1,1,1,1,1,1] (cd Tryz.f89)) (aS W6 Tryz.f89.results.toList none K)))
theorem alJ(a:al)(b c:Int)(d:af)(e:aR)(f:ByteArray):VB R kk (k+1) J a b c d e f=
 CW a b c d e f (VB R kk k J) (fun a0 a1=>J (.exit 0) (zgh a0 a1)):=by kernel_rfl
theorem afq(a:aR)(b:ByteArray):Ob R kk K (.exit 0) (zgh a b)=
 CX a b (fun a0 a1=>K [tS a0,.ak (.pair (.int .i64) (.pair (.int .i64) .unit)) a1 []] none):=by kernel_rfl
theorem aiG{kk:Nat}(hF:kk=ai)(t50:al)(t51 t52:Int)(df:af)(du:aR)(l4:ByteArray):VB R kk k J t50 t51 t52 df du l4=(QC k t50 t51 t52 df du l4).bind fun e=>J (.exit 0) (zgh e.1 e.2):=by
 induction k generalizing t50 t51 t52 df du l4 with
 |zero=>rfl
 |succ k ih=>
  rw[alJ]
  simp only[QC,CW,ih,aD]
def zL:ah:=qa.add 89 [aK,y8] (dp aK y8 n7 (fun _ r K=>K [tS r.1,.ak (.pair (.int .i64) (.pair (.int .i64) .unit)) r.2 []] none))
theorem aaW:aP Tryz.prog zL:=dx W6 Tryz.f89 (fun R kk x0 x1 K=>VC x0 x1 (fun a0 a1=>K [tS a0,.ak (.pair (.int .i64) (.pair (.int .i64) .unit)) a1 []] none) (VB R kk kk (Ob R kk K))) aaV ((ek _ _ _ _).gH 198 5 (by kernel_rfl)) Tryz.func89 (by kernel_rfl) rfl (fun _ _ _ _ _ _ h=>h _ _) (fun _ _ _ _ _=>by kernel_rfl) fun R kk e x0 x1 K=>by
 simp only[n7,VC,CX,aiG (hF:=e),afq,aD,<-e]
def anC:Env:=e0 [y8,(.pair (.int .i64) (.pair (.int .i64) .unit)),.unit,.unit]
def qb:ah:=zL.add 87 [y8,(.pair (.int .i64) (.pair (.int .i64) .unit)),.unit,.unit] (pv y8 (.pair (.int .i64) (.pair (.int .i64) .unit)) cw bA kK (fun _ r K=>K [tI r.1,tS r.2] none))
theorem aaX:aP Tryz.prog qb:=sv anC Tryz.f87 (fun R kk x0 x1 x2 x3 K=>UW x0 x1 x2 x3 (fun a0 a1=>K [tI a0,tS a1] none)) aaW (ek _ _ _ _) Tryz.func87 (by kernel_rfl) rfl (fun _ _ _ _ _ _ h=>h _ _) (fun _ _ _ _ _ _ _=>by kernel_rfl) fun R kk e x0 x1 x2 x3 K=>by
 simp only[kK,UW,aD]
def W8:Env:=b9.env (fun i=>bif Nat.beq i 2 then [1,9,10,11] else []) (fun i=>bif Nat.beq i 2 then [4,5] else []) [] [cD,.str]
def VS(a:ByteArray)(b:aO)(c d:Int):Option R:=aB (ev W8 (qb R) kk (sub [1,0,1,0,0] (cd Tryz.f133))) [1,9,10,11] [4,5] k ⟨uS 1 ([tS a]::uS 7 ([.ak (.sl 109 (.pair .str (.pair .str .unit))) b []]::[tI c]::[tI d]::uS 10 [])),nS 23 []⟩ J
def zgt(a:ByteArray)(b:Bool):State:=⟨uS 4 ([tS a]::[tB b]::uS 16 []),nS 23 []⟩
def zgu:State:=⟨uS 22 [],nS 23 []⟩
def Dh:KX R:=(zj 0 (aU W8 (qb R) kk (sub [1,1] (cd Tryz.f133)) (aS W8 Tryz.f133.results.toList none K)))
theorem alQ(a:ByteArray)(b:aO)(c d:Int):VS R kk (k+1) J a b c d=
 Di a b c d (fun a0 a1=>J .ret (zgt a0 a1)) (VS R kk k J) (J (.exit 0) (zgu)):=by kernel_rfl
theorem afD(a:ByteArray)(b:Bool):Dh R kk K .ret (zgt a b)=
 Dj a b (fun a0 a1=>K [tS a0,tB a1] none):=by kernel_rfl
theorem afE:Dh R kk K (.exit 0) (zgu)=
 Dk (fun a0 a1=>K [tS a0,tB a1] none):=by kernel_rfl
theorem aiN{kk:Nat}(hF:kk=ai)(t_1:ByteArray)(t9:aO)(t10 t11:Int):VS R kk k J t_1 t9 t10 t11=(QH k t_1 t9 t10 t11).bind fun e=>(Sum.elim (fun(we:jL)=>J .ret (zgt we.1 we.2)) (fun(we:Unit)=>J (.exit 0) (zgu)) e):=by
 induction k generalizing t_1 t9 t10 t11 with
 |zero=>rfl
 |succ k ih=>
  rw[alQ]
  simp only[QH,Di,ih,aD]
def qc:ah:=qb.add 133 [cD,.str] (dp cD .str tE (fun _ r K=>K [tS r.1,tB r.2] none))
theorem aaY:aP Tryz.prog qc:=dx W8 Tryz.f133 (fun R kk x0 x1 K=>VT x0 x1 (VS R kk kk (Dh R kk K))) aaX (ek _ _ _ _) Tryz.func133 (by kernel_rfl) rfl (fun _ _ _ _ _ _ h=>h _ _) (fun _ _ _ _ _=>by kernel_rfl) fun R kk e x0 x1 K=>by
 simp only[tE,VT,Dj,Dk,aiN (hF:=e),afD,afE,aD,<-e]
def W7:Env:={b9.env (fun i=>bif Nat.beq i 2 then [1,4,9,10,11] else []) (fun i=>bif Nat.beq i 2 then [4,5] else []) [4] [cD,(.int .i64)] with ro:=true}
def VQ(a:Int)(b:bT)(c d:Int)(e:aF):Option R:=aB (ev W7 (qc R) kk (sub [1,0,1,0,0] (cd Tryz.f134))) [1,4,9,10,11] [4,5] k ⟨uS 1 ([tI a]::uS 2 ([.ptr 5 cA []]::uS 4 ([.ak (.sl 102 cA) b []]::[tI c]::[tI d]::uS 10 []))),nS 5 ((some ⟨cA,e,[[4]]⟩)::nS 17 [])⟩ J
def zgr(a:Bool)(b:aF):State:=⟨uS 4 ([.ptr 5 cA []]::[tB a]::uS 16 []),nS 5 ((some ⟨cA,b,[]⟩)::nS 17 [])⟩
def zgs(a:aF):State:=⟨uS 4 ([.ptr 5 cA []]::uS 17 []),nS 5 ((some ⟨cA,a,[[4]]⟩)::nS 17 [])⟩
def Dd:KX R:=(zj 0 (aU W7 (qc R) kk (sub [1,1] (cd Tryz.f134)) (aS W7 Tryz.f134.results.toList none K)))
theorem alP(a:Int)(b:bT)(c d:Int)(e:aF):VQ R kk (k+1) J a b c d e=
 De a b c d e (fun a0 a1=>J .ret (zgr a0 a1)) (VQ R kk k J) (fun a0=>J (.exit 0) (zgs a0)):=by kernel_rfl
theorem afB(a:Bool)(b:aF):Dd R kk K .ret (zgr a b)=
 Df a b (fun a0 a1=>K [.ak cA a0 [],tB a1] none):=by kernel_rfl
theorem afC(a:aF):Dd R kk K (.exit 0) (zgs a)=
 Dg a (fun a0 a1=>K [.ak cA a0 [],tB a1] none):=by kernel_rfl
theorem aiM{kk:Nat}(hF:kk=ai)(fq:Int)(t9:bT)(t10 t11:Int)(cQ:aF):VQ R kk k J fq t9 t10 t11 cQ=(QG k fq t9 t10 t11 cQ).bind fun e=>(Sum.elim (fun(we:(Bool×aF))=>J .ret (zgr we.1 we.2)) (fun(we:aF)=>J (.exit 0) (zgs we)) e):=by
 induction k generalizing fq t9 t10 t11 cQ with
 |zero=>rfl
 |succ k ih=>
  rw[alP]
  simp only[QG,De,ih,aD]
def zM:ah:=qc.add 134 [cD,(.int .i64)] (dp cD (.int .i64) n8 (fun _ r K=>K [.ak cA r.1 [],tB r.2] none))
theorem CB:aP Tryz.prog zM:=dx W7 Tryz.f134 (fun R kk x0 x1 K=>VR x0 x1 (VQ R kk kk (Dd R kk K))) aaY ((ek _ _ _ _).ro _) Tryz.func134 (by kernel_rfl) rfl (fun _ _ _ _ _ _ h=>h _ _) (fun _ _ _ _ _=>by kernel_rfl) fun R kk e x0 x1 K=>by
 simp only[n8,VR,Df,Dg,aiM (hF:=e),afB,afC,aD,<-e]
def Tryz.gm:Go.Shelf.Ren:=⟨fun|105=>215|212=>225|99=>226|165=>227|166=>123|170=>228|169=>128|263=>236|264=>237|206=>238|240=>167|241=>239|276=>209|277=>244|n=>n,fun|9=>9|3=>3|4=>4|20=>20|0=>0|46=>154|109=>286|5=>5|72=>198|76=>201|51=>297|146=>298|53=>137|148=>250|70=>196|37=>99|75=>200|127=>256|164=>280|80=>210|n=>n,fun n=>n⟩
theorem Tryz.er:Go.Proofs.Lays.n105 Go.Proofs.Tryz.prog Tryz.gm:={
 mixed:=by kernel_rfl,
 f99:=Go.Proofs.Tryz.func226.trans (congrArg some (by kernel_rfl)),
 f105:=Go.Proofs.Tryz.func215.trans (congrArg some (by kernel_rfl)),
 f165:=Go.Proofs.Tryz.func227.trans (congrArg some (by kernel_rfl)),
 f166:=Go.Proofs.Tryz.func123.trans (congrArg some (by kernel_rfl)),
 f169:=Go.Proofs.Tryz.func128.trans (congrArg some (by kernel_rfl)),
 f170:=Go.Proofs.Tryz.func228.trans (congrArg some (by kernel_rfl)),
 f206:=Go.Proofs.Tryz.func238.trans (congrArg some (by kernel_rfl)),
 f212:=Go.Proofs.Tryz.func225.trans (congrArg some (by kernel_rfl)),
 f240:=Go.Proofs.Tryz.func167.trans (congrArg some (by kernel_rfl)),
 f241:=Go.Proofs.Tryz.func239.trans (congrArg some (by kernel_rfl)),
 f263:=Go.Proofs.Tryz.func236.trans (congrArg some (by kernel_rfl)),
 f264:=Go.Proofs.Tryz.func237.trans (congrArg some (by kernel_rfl)),
 f276:=Go.Proofs.Tryz.func209.trans (congrArg some (by kernel_rfl)),
 f277:=Go.Proofs.Tryz.func244.trans (congrArg some (by kernel_rfl)),
 t0:=Go.Proofs.Tryz.underlying0,
 a0:=Go.Proofs.Tryz.isAgg0,
 z0:=Go.Proofs.Tryz.sizeOf0,
 v0:=Go.Proofs.Tryz.zeroValue0,
 t3:=Go.Proofs.Tryz.underlying3,
 a3:=Go.Proofs.Tryz.isAgg3,
 z3:=Go.Proofs.Tryz.sizeOf3,
 v3:=Go.Proofs.Tryz.zeroValue3,
 t4:=Go.Proofs.Tryz.underlying4,
 a4:=Go.Proofs.Tryz.isAgg4,
 z4:=Go.Proofs.Tryz.sizeOf4,
 v4:=Go.Proofs.Tryz.zeroValue4,
 t5:=Go.Proofs.Tryz.underlying5,
 a5:=Go.Proofs.Tryz.isAgg5,
 z5:=Go.Proofs.Tryz.sizeOf5,
 v5:=Go.Proofs.Tryz.zeroValue5,
 t9:=Go.Proofs.Tryz.underlying9,
 a9:=Go.Proofs.Tryz.isAgg9,
 z9:=Go.Proofs.Tryz.sizeOf9,
 v9:=Go.Proofs.Tryz.zeroValue9,
 t20:=Go.Proofs.Tryz.underlying20,
 a20:=Go.Proofs.Tryz.isAgg20,
 z20:=Go.Proofs.Tryz.sizeOf20,
 v20:=Go.Proofs.Tryz.zeroValue20,
 t37:=Go.Proofs.Tryz.underlying99,
 a37:=Go.Proofs.Tryz.isAgg99,
 z37:=Go.Proofs.Tryz.sizeOf99,
 v37:=Go.Proofs.Tryz.zeroValue99,
 t46:=Go.Proofs.Tryz.underlying154,
 a46:=Go.Proofs.Tryz.isAgg154,
 z46:=Go.Proofs.Tryz.sizeOf154,
 v46:=Go.Proofs.Tryz.zeroValue154,
 t51:=Go.Proofs.Tryz.underlying297,
 a51:=Go.Proofs.Tryz.isAgg297,
 z51:=Go.Proofs.Tryz.sizeOf297,
 v51:=Go.Proofs.Tryz.zeroValue297,
 t53:=Go.Proofs.Tryz.underlying137,
 a53:=Go.Proofs.Tryz.isAgg137,
 z53:=Go.Proofs.Tryz.sizeOf137,
 v53:=Go.Proofs.Tryz.zeroValue137,
 t70:=Go.Proofs.Tryz.underlying196,
 a70:=Go.Proofs.Tryz.isAgg196,
 z70:=Go.Proofs.Tryz.sizeOf196,
 v70:=Go.Proofs.Tryz.zeroValue196,
 t72:=Go.Proofs.Tryz.underlying198,
 a72:=Go.Proofs.Tryz.isAgg198,
 z72:=Go.Proofs.Tryz.sizeOf198,
 v72:=Go.Proofs.Tryz.zeroValue198,
 t75:=Go.Proofs.Tryz.underlying200,
 a75:=Go.Proofs.Tryz.isAgg200,
 z75:=Go.Proofs.Tryz.sizeOf200,
 v75:=Go.Proofs.Tryz.zeroValue200,
 t76:=Go.Proofs.Tryz.underlying201,
 a76:=Go.Proofs.Tryz.isAgg201,
 z76:=Go.Proofs.Tryz.sizeOf201,
 v76:=Go.Proofs.Tryz.zeroValue201,
 t109:=Go.Proofs.Tryz.underlying286,
 a109:=Go.Proofs.Tryz.isAgg286,
 z109:=Go.Proofs.Tryz.sizeOf286,
 v109:=Go.Proofs.Tryz.zeroValue286,
 t127:=Go.Proofs.Tryz.underlying256,
 a127:=Go.Proofs.Tryz.isAgg256,
 z127:=Go.Proofs.Tryz.sizeOf256,
 v127:=Go.Proofs.Tryz.zeroValue256,
 t146:=Go.Proofs.Tryz.underlying298,
 a146:=Go.Proofs.Tryz.isAgg298,
 z146:=Go.Proofs.Tryz.sizeOf298,
 v146:=Go.Proofs.Tryz.zeroValue298,
 t148:=Go.Proofs.Tryz.underlying250,
 a148:=Go.Proofs.Tryz.isAgg250,
 z148:=Go.Proofs.Tryz.sizeOf250,
 v148:=Go.Proofs.Tryz.zeroValue250,
 t164:=Go.Proofs.Tryz.underlying280,
 a164:=Go.Proofs.Tryz.isAgg280,
 z164:=Go.Proofs.Tryz.sizeOf280,
 v164:=Go.Proofs.Tryz.zeroValue280}
theorem Tryz.m3:Go.Proofs.Builder.Extra Go.Proofs.Tryz.prog Tryz.gm:={
 sizeBuilder:=by kernel_rfl,
 liesBuilder:=by kernel_rfl,
 t5:=Tryz.er.t5,
 a5:=Tryz.er.a5,
 z5:=Tryz.er.z5,
 v5:=Tryz.er.v5,
 infoByte:=by kernel_rfl,
 cellsByte:=by kernel_rfl,
 sizeByte:=by kernel_rfl,
 neB5:=by decide}
noncomputable abbrev zr6:Code:=Tryz.f215.body.getD .skip
theorem ziw:rU Tryz.prog 215:=⟨Tryz.f215,zr6,Tryz.func215,by kernel_rfl,by kernel_rfl⟩
def z9w:Pure:=fun R l b K=>gn b (fy .str (.int .i64) l fun x0 x1=>(strings_Repeat x0 x1).bind fun r=>K [.ak .str r []] none)
theorem zr7:z9w.Nat:=fun R S l b F G K h=>EZ (zhk fun _ _=>rL fun _=>h _ _)
def qd:ah:=zM.add 215 [] z9w
theorem aaZ:aP Tryz.prog qd:=⟨CB.mix,VV CB.nat zr7,aj6 CB.uE ziw strings_Repeat (ze1 Tryz.er Tryz.m3 (by kernel_rfl))⟩
def W0:Env:=b9.env (fun i=>bif Nat.beq i 1 then [0,1] else []) (fun i=>bif Nat.beq i 1 then [0] else []) [] [.str,(.int .u8)]
def Vs(a:ByteArray)(b:Int):Option R:=aB (ev W0 (qd R) kk (sub [1,0,0,0] (cd Tryz.f230))) [0,1] [0] k ⟨[tS a]::[tU b]::uS 21 [],nS 24 []⟩ J
def zgd(a:ByteArray):State:=⟨[tS a]::uS 22 [],nS 24 []⟩
def Oa:KX R:=(zj 0 (aU W0 (qd R) kk (sub [1,1] (cd Tryz.f230)) (aS W0 Tryz.f230.results.toList none K)))
theorem alG(a:ByteArray)(b:Int):Vs R kk (k+1) J a b=
 Vu a b (Vs R kk k J) (fun a0=>J (.exit 0) (zgd a0)):=by kernel_rfl
theorem afn(a:ByteArray):Oa R kk K (.exit 0) (zgd a)=
 Vv a (fun a0=>K [tS a0] none):=by kernel_rfl
theorem aiC{kk:Nat}(hF:kk=ai)(iY:ByteArray)(BU:Int):Vs R kk k J iY BU=(GZ k iY BU).bind fun e=>J (.exit 0) (zgd e):=by
 induction k generalizing iY BU with
 |zero=>rfl
 |succ k ih=>
  rw[alG]
  simp only[GZ,Vu,ih,aD]
def qg:ah:=qd.add 230 [.str,(.int .u8)] (dp .str (.int .u8) vW (fun _ r K=>K [tS r] none))
theorem aa0:aP Tryz.prog qg:=dx W0 Tryz.f230 (fun R kk x0 x1 K=>Vt x0 x1 (Vs R kk kk (Oa R kk K))) aaZ (ek _ _ _ _) Tryz.func230 (by kernel_rfl) rfl (fun _ _ _ _ _ _ h=>h _ _) (fun _ _ _ _ _=>by kernel_rfl) fun R kk e x0 x1 K=>by
 simp only[vW,Vt,Vv,aiC (hF:=e),afn,aD,<-e]
def WZ:Env:=b9.env (fun i=>bif Nat.beq i 1 then [0,1] else []) (fun i=>bif Nat.beq i 1 then [0] else []) [] [.str,(.int .u8)]
def Vo(a:ByteArray)(b:Int):Option R:=aB (ev WZ (qg R) kk (sub [1,0,0,0] (cd Tryz.f229))) [0,1] [0] k ⟨[tS a]::[tU b]::uS 15 [],nS 18 []⟩ J
def zgc(a:ByteArray):State:=⟨[tS a]::uS 16 [],nS 18 []⟩
def N9:KX R:=(zj 0 (aU WZ (qg R) kk (sub [1,1] (cd Tryz.f229)) (aS WZ Tryz.f229.results.toList none K)))
theorem alF(a:ByteArray)(b:Int):Vo R kk (k+1) J a b=
 Vq a b (Vo R kk k J) (fun a0=>J (.exit 0) (zgc a0)):=by kernel_rfl
theorem afm(a:ByteArray):N9 R kk K (.exit 0) (zgc a)=
 Vr a (fun a0=>K [tS a0] none):=by kernel_rfl
theorem aiB{kk:Nat}(hF:kk=ai)(iY:ByteArray)(BU:Int):Vo R kk k J iY BU=(GY k iY BU).bind fun e=>J (.exit 0) (zgc e):=by
 induction k generalizing iY BU with
 |zero=>rfl
 |succ k ih=>
  rw[alF]
  simp only[GY,Vq,ih,aD]
def zN:ah:=qg.add 229 [.str,(.int .u8)] (dp .str (.int .u8) vV (fun _ r K=>K [tS r] none))
theorem aa1:aP Tryz.prog zN:=dx WZ Tryz.f229 (fun R kk x0 x1 K=>Vp x0 x1 (Vo R kk kk (N9 R kk K))) aa0 (ek _ _ _ _) Tryz.func229 (by kernel_rfl) rfl (fun _ _ _ _ _ _ h=>h _ _) (fun _ _ _ _ _=>by kernel_rfl) fun R kk e x0 x1 K=>by
 simp only[vV,Vp,Vr,aiB (hF:=e),afm,aD,<-e]
def anQ:Env:=e0 [.str,.str]
def zO:ah:=zN.add 216 [.str,.str] (dp .str .str tw (fun _ r K=>K [tS r] none))
theorem aa2:aP Tryz.prog zO:=dx anQ Tryz.f216 (fun R kk x0 x1 K=>Vn x0 x1 (fun a0=>K [tS a0] none)) aa1 (ek _ _ _ _) Tryz.func216 (by kernel_rfl) rfl (fun _ _ _ _ _ _ h=>h _ _) (fun _ _ _ _ _=>by kernel_rfl) fun R kk e x0 x1 K=>by
 simp only[tw,Vn,aD]
def HK:Env:=e0 [.str,(.int .i64)]
def qh:ah:=zO.add 185 [.str,(.int .i64)] (dp .str (.int .i64) HJ (fun _ r K=>K [tS r.1,tB r.2] none))
theorem aa3:aP Tryz.prog qh:=dx HK Tryz.f185 (fun R kk x0 x1 K=>Xf x0 x1 (fun a0 a1=>K [tS a0,tB a1] none)) aa2 (ek _ _ _ _) Tryz.func185 (by kernel_rfl) rfl (fun _ _ _ _ _ _ h=>h _ _) (fun _ _ _ _ _=>by kernel_rfl) fun R kk e x0 x1 K=>by
 simp only[HJ,Xf,aD]
def oY:Env:=b9.env (fun i=>bif Nat.beq i 2 then [1,8,9,10] else []) (fun i=>bif Nat.beq i 2 then [4,5] else []) [] [(.sl 109 (.pair .str (.pair .str .unit))),.str]
def WX(a:ByteArray)(b:aO)(c d:Int):Option R:=aB (ev oY (qh R) kk (sub [1,0,1,0,0] (cd Tryz.f186))) [1,8,9,10] [4,5] k ⟨uS 1 ([tS a]::uS 6 ([.ak (.sl 109 (.pair .str (.pair .str .unit))) b []]::[tI c]::[tI d]::uS 10 [])),nS 22 []⟩ J
def zpb(a:ByteArray)(b:Bool):State:=⟨uS 4 ([tS a]::[tB b]::uS 15 []),nS 22 []⟩
def zpc:State:=⟨uS 21 [],nS 22 []⟩
def DJ:KX R:=(zj 0 (aU oY (qh R) kk (sub [1,1] (cd Tryz.f186)) (aS oY Tryz.f186.results.toList none K)))
theorem anP(a:ByteArray)(b:aO)(c d:Int):WX R kk (k+1) J a b c d=
 z156 a b c d (fun a0 a1=>J .ret (zpb a0 a1)) (WX R kk k J) (J (.exit 0) (zpc)):=by kernel_rfl
theorem aiz(a:ByteArray)(b:Bool):DJ R kk K .ret (zpb a b)=
 z157 a b (fun a0 a1=>K [tS a0,tB a1] none):=by kernel_rfl
theorem aiA:DJ R kk K (.exit 0) (zpc)=
 DK (fun a0 a1=>K [tS a0,tB a1] none):=by kernel_rfl
theorem alE{kk:Nat}(hF:kk=ai)(oL:ByteArray)(t8:aO)(t9 t10:Int):WX R kk k J oL t8 t9 t10=(QY k oL t8 t9 t10).bind fun e=>(Sum.elim (fun(we:jL)=>J .ret (zpb we.1 we.2)) (fun(we:Unit)=>J (.exit 0) (zpc)) e):=by
 induction k generalizing oL t8 t9 t10 with
 |zero=>rfl
 |succ k ih=>
  rw[anP]
  simp only[QY,z156,ih,aD]
def zP:ah:=qh.add 186 [(.sl 109 (.pair .str (.pair .str .unit))),.str] (dp (.sl 109 (.pair .str (.pair .str .unit))) .str HH (fun _ r K=>K [tS r.1,tB r.2] none))
theorem aa4:aP Tryz.prog zP:=dx oY Tryz.f186 (fun R kk x0 x1 K=>WY x0 x1 (WX R kk kk (DJ R kk K))) aa3 (ek _ _ _ _) Tryz.func186 (by kernel_rfl) rfl (fun _ _ _ _ _ _ h=>h _ _) (fun _ _ _ _ _=>by kernel_rfl) fun R kk e x0 x1 K=>by
 simp only[HH,WY,z157,DK,alE (hF:=e),aiz,aiA,aD,<-e]
def anD:Env:=b9.env (fun _=>[]) (fun _=>[]) [6] [cA,aK,.str]
def lh:ah:=zP.add 135 [cA,aK,.str] (kH cA aK .str n4 (fun _ r K=>K [.ak (.pair (.int .i64) (.pair .str .unit)) r.1 [],tI r.2] none))
theorem aa5:aP Tryz.prog lh:=kW anD Tryz.f135 (fun R kk x0 x1 x2 K=>UX x0 x1 x2 (fun a0 a1=>K [.ak (.pair (.int .i64) (.pair .str .unit)) a0 [],tI a1] none)) aa4 (ek _ _ _ _) Tryz.func135 (by kernel_rfl) rfl (fun _ _ _ _ _ _ h=>h _ _) (fun _ _ _ _ _ _=>by kernel_rfl) fun R kk e x0 x1 x2 K=>by
 simp only[n4,UX,aD]
def FE:Env:={{b9.env (fun i=>bif Nat.beq i 12 then [4,6,7,8,9,16,59,60,61] else bif Nat.beq i 18 then [4,6,8,9,16,76,77,78] else []) (fun i=>bif Nat.beq i 12 then [4,6,7,8,9,16] else bif Nat.beq i 18 then [8,9,16] else []) [8,9] [cD,aK,aK,y8] with dr:=fun i=>bif Nat.beq i 12 then [17] else []} with ro:=true}
def VM(a:bT)(b c:Int)(d:ay)(e:af)(f g:aw)(h:aR)(i:aw):Option R:=aB (ev FE (lh R) kk (sub [1,1,1,1,1,1,0,1,0,0] (cd Tryz.f91))) [4,6,7,8,9,16,59,60,61] [4,6,7,8,9,16] k ⟨uS 4 ([.ptr 5 cD []]::uS 1 ([.ptr 7 aK []]::[.ptr 8 y8 []]::[.ptr 9 y8 []]::[.ptr 10 (.pair (.int .i64) (.pair (.int .i64) .unit)) []]::uS 6 ([.ptr 17 y8 []]::uS 42 ([.ak (.sl 102 cA) a []]::[tI b]::[tI c]::uS 60 [])))),nS 5 ((some ⟨cD,d,[]⟩)::nS 1 ((some ⟨aK,e,[]⟩)::(some ⟨y8,f,[]⟩)::(some ⟨y8,g,[[1]]⟩)::(some ⟨(.pair (.int .i64) (.pair (.int .i64) .unit)),h,[]⟩)::nS 6 ((some ⟨y8,i,[]⟩)::nS 105 [])))⟩ J
def zgo(a:ay)(b:af)(c d:aw)(e:aR)(f:aw):State:=⟨uS 4 ([.ptr 5 cD []]::uS 1 ([.ptr 7 aK []]::[.ptr 8 y8 []]::[.ptr 9 y8 []]::[.ptr 10 (.pair (.int .i64) (.pair (.int .i64) .unit)) []]::uS 6 ([.ptr 17 y8 []]::uS 105 []))),nS 5 ((some ⟨cD,a,[]⟩)::nS 1 ((some ⟨aK,b,[]⟩)::(some ⟨y8,c,[]⟩)::(some ⟨y8,d,[[1]]⟩)::(some ⟨(.pair (.int .i64) (.pair (.int .i64) .unit)),e,[]⟩)::nS 6 ((some ⟨y8,f,[]⟩)::nS 105 [])))⟩
def Oc:KX R:=(zj 0 (aU FE (lh R) kk (sub [1,1,1,1,1,1,1] (cd Tryz.f91)) (aS FE Tryz.f91.results.toList none K)))
def VN(a:al)(b c:Int)(d:ay)(e:af)(f:aw)(g:aR)(h:aw):Option R:=aB (ev FE (lh R) kk (sub [1,1,1,1,1,1,1,0,1,0,0] (cd Tryz.f91))) [4,6,8,9,16,76,77,78] [8,9,16] k ⟨uS 4 ([.ptr 5 cD []]::uS 1 ([.ptr 7 aK []]::uS 1 ([.ptr 9 y8 []]::[.ptr 10 (.pair (.int .i64) (.pair (.int .i64) .unit)) []]::uS 6 ([.ptr 17 y8 []]::uS 59 ([.ak (.sl 208 (.pair (.int .i64) (.pair .str .unit))) a []]::[tI b]::[tI c]::uS 43 []))))),nS 5 ((some ⟨cD,d,[]⟩)::nS 1 ((some ⟨aK,e,[]⟩)::nS 1 ((some ⟨y8,f,[[1]]⟩)::(some ⟨(.pair (.int .i64) (.pair (.int .i64) .unit)),g,[]⟩)::nS 6 ((some ⟨y8,h,[]⟩)::nS 105 []))))⟩ J
def zgp(a:aw)(b:aR)(c:aw):State:=⟨uS 8 ([.ptr 9 y8 []]::[.ptr 10 (.pair (.int .i64) (.pair (.int .i64) .unit)) []]::uS 6 ([.ptr 17 y8 []]::uS 105 [])),nS 9 ((some ⟨y8,a,[[1]]⟩)::(some ⟨(.pair (.int .i64) (.pair (.int .i64) .unit)),b,[]⟩)::nS 6 ((some ⟨y8,c,[]⟩)::nS 105 []))⟩
def zgq(a:aw)(b:aR)(c:aw):State:=⟨uS 8 ([.ptr 9 y8 []]::[.ptr 10 (.pair (.int .i64) (.pair (.int .i64) .unit)) []]::uS 6 ([.ptr 17 y8 []]::uS 105 [])),nS 9 ((some ⟨y8,a,[[1]]⟩)::(some ⟨(.pair (.int .i64) (.pair (.int .i64) .unit)),b,[]⟩)::nS 6 ((some ⟨y8,c,[]⟩)::nS 105 []))⟩
def C8:KX R:=(zj 2 (aU FE (lh R) kk (sub [1,1,1,1,1,1,1,1] (cd Tryz.f91)) (aS FE Tryz.f91.results.toList none K)))
theorem alN(a:bT)(b c:Int)(d:ay)(e:af)(f g:aw)(h:aR)(i:aw):VM R kk (k+1) J a b c d e f g h i=
 C9 a b c d e f g h i (VM R kk k J) (fun a0 a1 a2 a3 a4 a5=>J (.exit 0) (zgo a0 a1 a2 a3 a4 a5)):=by kernel_rfl
theorem afy(a:ay)(b:af)(c d:aw)(e:aR)(f:aw):Oc R kk K (.exit 0) (zgo a b c d e f)=
 VP a b c d e f (VN R kk kk (C8 R kk K)):=by kernel_rfl
theorem alO(a:al)(b c:Int)(d:ay)(e:af)(f:aw)(g:aR)(h:aw):VN R kk (k+1) J a b c d e f g h=
 Da a b c d e f g h (fun a0 a1 a2=>J .ret (zgp a0 a1 a2)) (VN R kk k J) (fun a0 a1 a2=>J (.exit 2) (zgq a0 a1 a2)):=by kernel_rfl
theorem afz(a:aw)(b:aR)(c:aw):C8 R kk K .ret (zgp a b c)=
 Db a b c (fun a0 a1=>K [.ak y8 a0 [],.ak (.pair (.int .i64) (.pair (.int .i64) .unit)) a1 []] none):=by kernel_rfl
theorem afA(a:aw)(b:aR)(c:aw):C8 R kk K (.exit 2) (zgq a b c)=
 Dc a b c (fun a0 a1=>K [.ak y8 a0 [],.ak (.pair (.int .i64) (.pair (.int .i64) .unit)) a1 []] none):=by kernel_rfl
theorem aiK{kk:Nat}(hF:kk=ai)(t59:bT)(t60 t61:Int)(cQ:ay)(j6:af)(l4 BS:aw)(BT:aR)(j5:aw):VM R kk k J t59 t60 t61 cQ j6 l4 BS BT j5=(QE k t59 t60 t61 cQ j6 l4 BS BT j5).bind fun e=>J (.exit 0) (zgo e.1 e.2.1 e.2.2.1 e.2.2.2.1 e.2.2.2.2.1 e.2.2.2.2.2):=by
 induction k generalizing t59 t60 t61 cQ j6 l4 BS BT j5 with
 |zero=>rfl
 |succ k ih=>
  rw[alN]
  simp only[QE,C9,ih,aD]
theorem aiL{kk:Nat}(hF:kk=ai)(t76:al)(t77 t78:Int)(cQ:ay)(j6:af)(BS:aw)(BT:aR)(j5:aw):VN R kk k J t76 t77 t78 cQ j6 BS BT j5=(QF k t76 t77 t78 cQ j6 BS BT j5).bind fun e=>(Sum.elim (fun(we:qX)=>J .ret (zgp we.1 we.2.1 we.2.2)) (fun(we:qX)=>J (.exit 2) (zgq we.1 we.2.1 we.2.2)) e):=by
 induction k generalizing t76 t77 t78 cQ j6 BS BT j5 with
 |zero=>rfl
 |succ k ih=>
  rw[alO]
  simp only[QF,Da,ih,aD]
def zQ:ah:=lh.add 91 [cD,aK,aK,y8] (Sd cD aK aK y8 qS (fun _ r K=>K [.ak y8 r.1 [],.ak (.pair (.int .i64) (.pair (.int .i64) .unit)) r.2 []] none))
theorem aa6:aP Tryz.prog zQ:=st4 FE Tryz.f91 (fun R kk x0 x1 x2 x3 K=>VO x0 x1 x2 x3 (fun a0 a1=>K [.ak y8 a0 [],.ak (.pair (.int .i64) (.pair (.int .i64) .unit)) a1 []] none) (VM R kk kk (Oc R kk K))) aa5 (((ek _ _ _ _).dr _).ro _) Tryz.func91 (by kernel_rfl) rfl (fun _ _ _ _ _ _ h=>h _ _) (fun _ _ _ _ _ _ _=>by kernel_rfl) fun R kk e x0 x1 x2 x3 K=>by
 simp only[qS,VO,VP,Db,Dc,aiK (hF:=e),aiL (hF:=e),afy,afz,afA,aD,<-e]
def anB:Env:={e0 [bA,(.int .i64),.str] with fr:=fun i=>bif Nat.beq i 5 then [12,4] else []}
def zR:ah:=zQ.add 63 [bA,(.int .i64),.str] (kH bA (.int .i64) .str ti (fun _ r K=>K [tI r.1,tS r.2] none))
theorem aa7:aP Tryz.prog zR:=kW anB Tryz.f63 (fun R kk x0 x1 x2 K=>UU x0 x1 x2 (fun a0 a1=>K [tI a0,tS a1] none)) aa6 ((ek _ _ _ _).fr _) Tryz.func63 (by kernel_rfl) rfl (fun _ _ _ _ _ _ h=>h _ _) (fun _ _ _ _ _ _=>by kernel_rfl) fun R kk e x0 x1 x2 K=>by
 simp only[ti,UU,aD]
def H3:Env:=e0 [.str]
def zS:ah:=zR.add 64 [.str] (cO .str BE (fun _ r K=>K [tS r.1,tI r.2] none))
theorem aa8:aP Tryz.prog zS:=cP H3 Tryz.f64 (fun R kk x0 K=>Xy x0 (fun a0 a1=>K [tS a0,tI a1] none)) aa7 (ek _ _ _ _) Tryz.func64 (by kernel_rfl) rfl (fun _ _ _ _ _ _ h=>h _ _) (fun _ _ _ _=>by kernel_rfl) fun R kk e x0 K=>by
 simp only[BE,Xy,aD]
def H7:Env:={b9.env (fun _=>[]) (fun _=>[]) [6] [.unit,(.int .i64),.str] with gr:=fun t=>bif Nat.beq t 87 then some (bA,y6) else none,ga:=fun t=>Nat.beq t 85}
def qi:ah:=zS.add 46 [.unit,(.int .i64),.str] (pb2 (.aG .bB bA y6) [[],[0],[0,2],[1],[1,2]] (.int .i64) .str FV (fun _ r K=>K [.ak y9 r.1 []] (some ⟨(.aG .bB bA y6),r.2,[[],[0],[0,2],[1],[1,2]]⟩)))
theorem aa9:aP Tryz.prog qi:=sb2 H7 Tryz.f46 (fun R kk x0 x1 x2 K=>XD x0 x1 x2 (fun a0 a1=>K [.ak y9 a0 []] (some ⟨(.aG .bB bA y6),a1,[[],[0],[0,2],[1],[1,2]]⟩))) aa8 ((ek _ _ _ _).bB 87 85 bA y6 (by kernel_rfl) (by kernel_rfl) (by kernel_rfl) (by kernel_rfl)) Tryz.func46 (by kernel_rfl) rfl (fun _ _ _ _ _ _ h=>h _ _) (fun _ _ _ _ _ _=>by kernel_rfl) fun R kk e x0 x1 x2 K=>by
 simp only[FV,XD,aD]
def pk:Env:={{b9.env (fun i=>bif Nat.beq i 6 then [0,3,5,7,27,28,29] else []) (fun i=>bif Nat.beq i 6 then [0,3,5,7] else []) [] [.unit,(.pair (.int .i64) (.pair .str .unit))] with ro:=true} with gr:=fun t=>bif Nat.beq t 87 then some (bA,y6) else none,ga:=fun t=>Nat.beq t 85}
def Xz(a:bZ)(b:Bool)(c:(List ByteArray))(d e:Int)(f:(aq×(Option ag×Option ag)×Int))(g:bj):Option R:=aB (ev pk (qi R) kk (sub [1,1,1,1,0,1,0,0] (cd Tryz.f21))) [0,3,5,7,27,28,29] [0,3,5,7] k ⟨[.ptr 0 (.aG .bB bA y6) []]::uS 2 ([.ptr 4 (.pair (.int .i64) (.pair .str .unit)) []]::uS 1 ([.ak (.sl 71 y9) a [[]]]::uS 1 ([tB b]::uS 19 ([.ak (.sl 9 .str) c []]::[tI d]::[tI e]::uS 24 [])))),(some ⟨(.aG .bB bA y6),f,[[],[0],[0,2],[1],[1,2]]⟩)::nS 3 ((some ⟨(.pair (.int .i64) (.pair .str .unit)),g,[]⟩)::nS 50 [])⟩ J
def zpm(a:bZ)(b:Bool)(c:(aq×(Option ag×Option ag)×Int))(d:bj):State:=⟨[.ptr 0 (.aG .bB bA y6) []]::uS 2 ([.ptr 4 (.pair (.int .i64) (.pair .str .unit)) []]::uS 1 ([.ak (.sl 71 y9) a [[]]]::uS 1 ([tB b]::uS 46 []))),(some ⟨(.aG .bB bA y6),c,[[],[0],[0,2],[1],[1,2]]⟩)::nS 3 ((some ⟨(.pair (.int .i64) (.pair .str .unit)),d,[]⟩)::nS 50 [])⟩
def O0(a:(aq×(Option ag×Option ag)×Int)):KX R:=(zj 0 (aU pk (qi R) kk (sub [1,1,1,1,1] (cd Tryz.f21)) (aS pk Tryz.f21.results.toList (some ⟨(.aG .bB bA y6),a,[[],[0],[0,2],[1],[1,2]]⟩) K)))
theorem an4(a:bZ)(b:Bool)(c:(List ByteArray))(d e:Int)(f:(aq×(Option ag×Option ag)×Int))(g:bj):Xz R kk (k+1) J a b c d e f g=
 DZ a b c d e f g (Xz R kk k J) (fun a0 a1 a2 a3=>J (.exit 0) (zpm a0 a1 a2 a3)):=by kernel_rfl
theorem aiV(a:(aq×(Option ag×Option ag)×Int))(b:bZ)(c:Bool)(d:(aq×(Option ag×Option ag)×Int))(e:bj):O0 R kk K a (.exit 0) (zpm b c d e)=
 Re b c d e (fun a0 a1=>K [.ak (.sl 71 y9) a0 []] (some ⟨(.aG .bB bA y6),a1,[[],[0],[0,2],[1],[1,2]]⟩)):=by kernel_rfl
theorem alX{kk:Nat}(hF:kk=ai)(t5:bZ)(t7:Bool)(t27:(List ByteArray))(t28 t29:Int)(recv:(aq×(Option ag×Option ag)×Int))(dH:bj):Xz R kk k J t5 t7 t27 t28 t29 recv dH=(Hc k t5 t7 t27 t28 t29 recv dH).bind fun e=>J (.exit 0) (zpm e.1 e.2.1 e.2.2.1 e.2.2.2):=by
 induction k generalizing t5 t7 t27 t28 t29 recv dH with
 |zero=>rfl
 |succ k ih=>
  rw[an4]
  simp only[Hc,DZ,ih,aD]
def qj:ah:=qi.add 21 [.unit,(.pair (.int .i64) (.pair .str .unit))] (CF (.aG .bB bA y6) [[],[0],[0,2],[1],[1,2]] (.pair (.int .i64) (.pair .str .unit)) FU (fun _ r K=>K [.ak (.sl 71 y9) r.1 []] (some ⟨(.aG .bB bA y6),r.2,[[],[0],[0,2],[1],[1,2]]⟩)))
theorem abb:aP Tryz.prog qj:=KW pk Tryz.f21 (fun R kk x0 x1 K=>XA x0 x1 (fun a0 a1=>K [.ak (.sl 71 y9) a0 []] (some ⟨(.aG .bB bA y6),a1,[[],[0],[0,2],[1],[1,2]]⟩)) (Xz R kk kk (O0 R kk K x0))) aa9 (((ek _ _ _ _).ro _).bB 87 85 bA y6 (by kernel_rfl) (by kernel_rfl) (by kernel_rfl) (by kernel_rfl)) Tryz.func21 (by kernel_rfl) rfl (fun _ _ _ _ _ _ h=>h _ _) (fun _ _ _ _ _=>by kernel_rfl) fun R kk e x0 x1 K=>by
 simp only[FU,XA,Re,alX (hF:=e),aiV,aD,<-e]
def pn:Env:=b9.env (fun i=>bif Nat.beq i 3 then [0,5,8,9,10] else []) (fun i=>bif Nat.beq i 3 then [5] else []) [] [.unit,(.sl 57 (.pair (.int .i64) (.pair .str .unit)))]
def XB(a:bZ)(b:al)(c d:Int)(e:(aq×(Option ag×Option ag)×Int)):Option R:=aB (ev pn (qj R) kk (sub [1,1,0,1,0,0] (cd Tryz.f23))) [0,5,8,9,10] [5] k ⟨[.ptr 0 (.aG .bB bA y6) []]::uS 4 ([.ak (.sl 71 y9) a [[]]]::uS 2 ([.ak (.sl 57 (.pair (.int .i64) (.pair .str .unit))) b []]::[tI c]::[tI d]::uS 10 [])),(some ⟨(.aG .bB bA y6),e,[[],[0],[0,2],[1],[1,2]]⟩)::nS 21 []⟩ J
def zpn(a:bZ)(b:(aq×(Option ag×Option ag)×Int)):State:=⟨uS 5 ([.ak (.sl 71 y9) a [[]]]::uS 15 []),(some ⟨(.aG .bB bA y6),b,[[],[0],[0,2],[1],[1,2]]⟩)::nS 21 []⟩
def O1(a:(aq×(Option ag×Option ag)×Int)):KX R:=(zj 0 (aU pn (qj R) kk (sub [1,1,1] (cd Tryz.f23)) (aS pn Tryz.f23.results.toList (some ⟨(.aG .bB bA y6),a,[[],[0],[0,2],[1],[1,2]]⟩) K)))
theorem an5(a:bZ)(b:al)(c d:Int)(e:(aq×(Option ag×Option ag)×Int)):XB R kk (k+1) J a b c d e=
 D1 a b c d e (XB R kk k J) (fun a0 a1=>J (.exit 0) (zpn a0 a1)):=by kernel_rfl
theorem aiW(a:(aq×(Option ag×Option ag)×Int))(b:bZ)(c:(aq×(Option ag×Option ag)×Int)):O1 R kk K a (.exit 0) (zpn b c)=
 D2 b c (fun a0 a1=>K [.ak (.sl 71 y9) a0 []] (some ⟨(.aG .bB bA y6),a1,[[],[0],[0,2],[1],[1,2]]⟩)):=by kernel_rfl
theorem alY{kk:Nat}(hF:kk=ai)(t5:bZ)(t8:al)(t9 t10:Int)(recv:(aq×(Option ag×Option ag)×Int)):XB R kk k J t5 t8 t9 t10 recv=(Rf k t5 t8 t9 t10 recv).bind fun e=>J (.exit 0) (zpn e.1 e.2):=by
 induction k generalizing t5 t8 t9 t10 recv with
 |zero=>rfl
 |succ k ih=>
  rw[an5]
  simp only[Rf,D1,ih,aD]
def qk:ah:=qj.add 23 [.unit,(.sl 57 (.pair (.int .i64) (.pair .str .unit)))] (CF (.aG .bB bA y6) [[],[0],[0,2],[1],[1,2]] (.sl 57 (.pair (.int .i64) (.pair .str .unit))) BF (fun _ r K=>K [.ak (.sl 71 y9) r.1 []] (some ⟨(.aG .bB bA y6),r.2,[[],[0],[0,2],[1],[1,2]]⟩)))
theorem abd:aP Tryz.prog qk:=KW pn Tryz.f23 (fun R kk x0 x1 K=>XC x0 x1 (XB R kk kk (O1 R kk K x0))) abb (ek _ _ _ _) Tryz.func23 (by kernel_rfl) rfl (fun _ _ _ _ _ _ h=>h _ _) (fun _ _ _ _ _=>by kernel_rfl) fun R kk e x0 x1 K=>by
 simp only[BF,XC,D2,alY (hF:=e),aiW,aD,<-e]
def Wy:Env:=b9.env (fun i=>bif Nat.beq i 4 then [0,1,5] else []) (fun i=>bif Nat.beq i 4 then [4] else []) [] [(.sl 71 y9),(.sl 71 y9)]
def Uc(a b:bZ)(c:Int):Option R:=aB (ev Wy (qk R) kk (sub [1,1,0,1,0,0] (cd Tryz.f20))) [0,1,5] [4] k ⟨[.ak (.sl 71 y9) a []]::[.ak (.sl 71 y9) b []]::uS 3 ([tI c]::uS 20 []),nS 27 []⟩ J
def zf8(a:Bool):State:=⟨uS 4 ([tB a]::uS 21 []),nS 27 []⟩
def zf9:State:=⟨uS 26 [],nS 27 []⟩
def zya:KX R:=(zj 0 (aU Wy (qk R) kk (sub [1,1,1] (cd Tryz.f20)) (aS Wy Tryz.f20.results.toList none K)))
theorem ale(a b:bZ)(c:Int):Uc R kk (k+1) J a b c=
 zyc a b c (fun a0=>J .ret (zf8 a0)) (Uc R kk k J) (J (.exit 0) (zf9)):=by kernel_rfl
theorem aeK(a:Bool):zya R kk K .ret (zf8 a)=
 zyd a (fun a0=>K [tB a0] none):=by kernel_rfl
theorem aeL:zya R kk K (.exit 0) (zf9)=
 zye (fun a0=>K [tB a0] none):=by kernel_rfl
theorem aia{kk:Nat}(hF:kk=ai)(lZ tL:bZ)(t5:Int):Uc R kk k J lZ tL t5=(Ud k lZ tL t5).bind fun e=>(Sum.elim (fun(we:Bool)=>J .ret (zf8 we)) (fun(we:Unit)=>J (.exit 0) (zf9)) e):=by
 induction k generalizing lZ tL t5 with
 |zero=>rfl
 |succ k ih=>
  rw[ale]
  simp only[Ud,zyc,ih,aD]
def zV:ah:=qk.add 20 [(.sl 71 y9),(.sl 71 y9)] (dp (.sl 71 y9) (.sl 71 y9) vQ (fun _ r K=>K [tB r] none))
theorem abe:aP Tryz.prog zV:=dx Wy Tryz.f20 (fun R kk x0 x1 K=>zyb x0 x1 (fun a0=>K [tB a0] none) (Uc R kk kk (zya R kk K))) abd (ek _ _ _ _) Tryz.func20 (by kernel_rfl) rfl (fun _ _ _ _ _ _ h=>h _ _) (fun _ _ _ _ _=>by kernel_rfl) fun R kk e x0 x1 K=>by
 simp only[vQ,zyb,zyd,zye,aia (hF:=e),aeK,aeL,aD,<-e]
def H5:Env:={e0 [.unit] with gr:=fun t=>bif Nat.beq t 87 then some (bA,y6) else none,ga:=fun t=>Nat.beq t 85}
def zX:ah:=zV.add 15 [.unit] (Gj (.aG .bB bA y6) [[],[0],[0,2],[1],[1,2]] FT (fun _ r K=>K [tI r.1] (some ⟨(.aG .bB bA y6),r.2,[[],[0],[0,2],[1],[1,2]]⟩)))
theorem abf:aP Tryz.prog zX:=Si H5 Tryz.f15 (fun R kk x0 K=>DY x0 (fun a0 a1=>K [tI a0] (some ⟨(.aG .bB bA y6),a1,[[],[0],[0,2],[1],[1,2]]⟩))) abe ((ek _ _ _ _).bB 87 85 bA y6 (by kernel_rfl) (by kernel_rfl) (by kernel_rfl) (by kernel_rfl)) Tryz.func15 (by kernel_rfl) rfl (fun _ _ _ _ _ _ h=>h _ _) (fun _ _ _ _=>by kernel_rfl) fun R kk e x0 K=>by
 simp only[FT,DY,aD]
def HV:Env:=e0 [.unit]
def zY:ah:=zX.add 44 [.unit] (Gj y6 [[2]] YB (fun _ r K=>K [tB r.1] (some ⟨y6,r.2,[[2]]⟩)))
theorem abg:aP Tryz.prog zY:=Si HV Tryz.f44 (fun R kk x0 K=>DU x0 (fun a0 a1=>K [tB a0] (some ⟨y6,a1,[[2]]⟩))) abf (ek _ _ _ _) Tryz.func44 (by kernel_rfl) rfl (fun _ _ _ _ _ _ h=>h _ _) (fun _ _ _ _=>by kernel_rfl) fun R kk e x0 K=>by
 simp only[YB,DU,aD]
def H4:Env:={e0 [.unit,(.int .i64)] with gr:=fun t=>bif Nat.beq t 87 then some (bA,y6) else none,ga:=fun t=>Nat.beq t 85}
def zZ:ah:=zY.add 17 [.unit,(.int .i64)] (CF (.aG .bB bA y6) [[],[0],[0,2],[1],[1,2]] (.int .i64) FR (fun _ r K=>K [tB r.1] (some ⟨(.aG .bB bA y6),r.2,[[],[0],[0,2],[1],[1,2]]⟩)))
theorem abh:aP Tryz.prog zZ:=KW H4 Tryz.f17 (fun R kk x0 x1 K=>DX x0 x1 (fun a0 a1=>K [tB a0] (some ⟨(.aG .bB bA y6),a1,[[],[0],[0,2],[1],[1,2]]⟩))) abg ((ek _ _ _ _).bB 87 85 bA y6 (by kernel_rfl) (by kernel_rfl) (by kernel_rfl) (by kernel_rfl)) Tryz.func17 (by kernel_rfl) rfl (fun _ _ _ _ _ _ h=>h _ _) (fun _ _ _ _ _=>by kernel_rfl) fun R kk e x0 x1 K=>by
 simp only[FR,DX,aD]
def HW:Env:=e0 [.unit]
def Aa:ah:=zZ.add 43 [.unit] (Gj y6 [[2]] YC (fun _ r K=>K [tI r.1] (some ⟨y6,r.2,[[2]]⟩)))
theorem abj:aP Tryz.prog Aa:=Si HW Tryz.f43 (fun R kk x0 K=>DW x0 (fun a0 a1=>K [tI a0] (some ⟨y6,a1,[[2]]⟩))) abh (ek _ _ _ _) Tryz.func43 (by kernel_rfl) rfl (fun _ _ _ _ _ _ h=>h _ _) (fun _ _ _ _=>by kernel_rfl) fun R kk e x0 K=>by
 simp only[YC,DW,aD]
def H6:Env:={e0 [.unit,(.int .i64)] with gr:=fun t=>bif Nat.beq t 87 then some (bA,y6) else none,ga:=fun t=>Nat.beq t 85}
def Ab:ah:=Aa.add 16 [.unit,(.int .i64)] (CF (.aG .bB bA y6) [[],[0],[0,2],[1],[1,2]] (.int .i64) RH (fun _ r K=>K [tI r.1] (some ⟨(.aG .bB bA y6),r.2,[[],[0],[0,2],[1],[1,2]]⟩)))
theorem abk:aP Tryz.prog Ab:=KW H6 Tryz.f16 (fun R kk x0 x1 K=>D0 x0 x1 (fun a0 a1=>K [tI a0] (some ⟨(.aG .bB bA y6),a1,[[],[0],[0,2],[1],[1,2]]⟩))) abj ((ek _ _ _ _).bB 87 85 bA y6 (by kernel_rfl) (by kernel_rfl) (by kernel_rfl) (by kernel_rfl)) Tryz.func16 (by kernel_rfl) rfl (fun _ _ _ _ _ _ h=>h _ _) (fun _ _ _ _ _=>by kernel_rfl) fun R kk e x0 x1 K=>by
 simp only[RH,D0,aD]
def Ib:Env:=e0 []
def ql:ah:=Ab.add 10 [] (Gk vY (fun _ r K=>K [tB r] none))
theorem abl:aP Tryz.prog ql:=KZ Ib Tryz.f10 (fun R kk K=>D8 (fun a0=>K [tB a0] none)) abk (ek _ _ _ _) Tryz.func10 (by kernel_rfl) rfl (fun _ _ _ _ _ _ h=>h _ _) (fun _ _ _=>by kernel_rfl) fun R kk e K=>by
 simp only[vY,D8,aD]
def Wz:Env:=b9.env (fun i=>bif Nat.beq i 3 then [0,1,5,6] else []) (fun i=>bif Nat.beq i 3 then [5] else []) [] [(.sl 57 (.pair (.int .i64) (.pair .str .unit))),(.int .i64)]
def Ue(a:al)(b:Int)(c:ByteArray)(d:Int):Option R:=aB (ev Wz (ql R) kk (sub [1,1,0,1,0,0] (cd Tryz.f29))) [0,1,5,6] [5] k ⟨[.ak (.sl 57 (.pair (.int .i64) (.pair .str .unit))) a []]::[tI b]::uS 3 ([tS c]::[tI d]::uS 21 []),nS 29 []⟩ J
def zfa(a:ByteArray):State:=⟨uS 5 ([tS a]::uS 22 []),nS 29 []⟩
def N3:KX R:=(zj 0 (aU Wz (ql R) kk (sub [1,1,1] (cd Tryz.f29)) (aS Wz Tryz.f29.results.toList none K)))
theorem alf(a:al)(b:Int)(c:ByteArray)(d:Int):Ue R kk (k+1) J a b c d=
 Fm a b c d (Ue R kk k J) (fun a0=>J (.exit 0) (zfa a0)):=by kernel_rfl
theorem aeM(a:ByteArray):N3 R kk K (.exit 0) (zfa a)=
 zyf a (fun a0=>K [tS a0] none):=by kernel_rfl
theorem aib{kk:Nat}(hF:kk=ai)(gl:al)(oE:Int)(t5:ByteArray)(t6:Int):Ue R kk k J gl oE t5 t6=(Qi k gl oE t5 t6).bind fun e=>J (.exit 0) (zfa e):=by
 induction k generalizing gl oE t5 t6 with
 |zero=>rfl
 |succ k ih=>
  rw[alf]
  simp only[Qi,Fm,ih,aD]
def qn:ah:=ql.add 29 [(.sl 57 (.pair (.int .i64) (.pair .str .unit))),(.int .i64)] (dp (.sl 57 (.pair (.int .i64) (.pair .str .unit))) (.int .i64) sX (fun _ r K=>K [tS r] none))
theorem abm:aP Tryz.prog qn:=dx Wz Tryz.f29 (fun R kk x0 x1 K=>Uf x0 x1 (Ue R kk kk (N3 R kk K))) abl (ek _ _ _ _) Tryz.func29 (by kernel_rfl) rfl (fun _ _ _ _ _ _ h=>h _ _) (fun _ _ _ _ _=>by kernel_rfl) fun R kk e x0 x1 K=>by
 simp only[sX,Uf,zyf,aib (hF:=e),aeM,aD,<-e]
def Ww:Env:={b9.env (fun i=>bif Nat.beq i 4 then [0,1,8,9,10] else []) (fun i=>bif Nat.beq i 4 then [1,4,5,6,7,8,9,10] else []) [] [(.int .i64),.str] with mv:=[37,38,48,53,73,78]}
def T6(a:Int)(b:ByteArray)(c:(List ByteArray))(d:(List Int))(e:Int):Option R:=aB (ev Ww (qn R) kk (sub [1,1,1,1,0,0,0] (cd Tryz.f31))) [0,1,8,9,10] [1,4,5,6,7,8,9,10] k ⟨[tI a]::[tS b]::uS 6 ([.ak (.sl 9 .str) c [[]]]::[.ak (.sl 3 (.int .i64)) d [[]]]::[tI e]::uS 68 []),nS 80 []⟩ J
def zf3(a:ByteArray)(b:(List ByteArray))(c:Int)(d:(List Int))(e:Int)(f:(List ByteArray))(g:(List Int))(h:Int):State:=⟨uS 1 ([tS a]::uS 2 ([.ak (.sl 9 .str) b [[]]]::[tI c]::[.ak (.sl 3 (.int .i64)) d [[]]]::[tI e]::[.ak (.sl 9 .str) f []]::[.ak (.sl 3 (.int .i64)) g []]::[tI h]::uS 68 [])),nS 80 []⟩
def zf4(a:ByteArray)(b:(List ByteArray))(c:(List Int))(d:Int):State:=⟨uS 1 ([tS a]::uS 6 ([.ak (.sl 9 .str) b [[]]]::[.ak (.sl 3 (.int .i64)) c [[]]]::[tI d]::uS 68 [])),nS 80 []⟩
def zy4:KX R:=(zj 0 (aU Ww (qn R) kk (sub [1,1,1,1,1] (cd Tryz.f31)) (aS Ww Tryz.f31.results.toList none K)))
theorem alc(a:Int)(b:ByteArray)(c:(List ByteArray))(d:(List Int))(e:Int):T6 R kk (k+1) J a b c d e=
 T8 a b c d e (fun a0 a1 a2 a3 a4 a5 a6 a7=>J .ret (zf3 a0 a1 a2 a3 a4 a5 a6 a7)) (T6 R kk k J) (fun a0 a1 a2 a3=>J (.exit 0) (zf4 a0 a1 a2 a3)):=by kernel_rfl
theorem aeG(a:ByteArray)(b:(List ByteArray))(c:Int)(d:(List Int))(e:Int)(f:(List ByteArray))(g:(List Int))(h:Int):zy4 R kk K .ret (zf3 a b c d e f g h)=
 zy5 a b c d e f g h (fun a0 a1 a2 a3=>K [.ak (.sl 9 .str) a0 [[]],tI a1,.ak (.sl 3 (.int .i64)) a2 [[]],tI a3] none):=by kernel_rfl
theorem aeH(a:ByteArray)(b:(List ByteArray))(c:(List Int))(d:Int):zy4 R kk K (.exit 0) (zf4 a b c d)=
 zy6 a b c d (fun a0 a1 a2 a3=>K [.ak (.sl 9 .str) a0 [[]],tI a1,.ak (.sl 3 (.int .i64)) a2 [[]],tI a3] none):=by kernel_rfl
theorem ah8{kk:Nat}(hF:kk=ai)(oF:Int)(jI:ByteArray)(t8:(List ByteArray))(t9:(List Int))(t10:Int):T6 R kk k J oF jI t8 t9 t10=(GR k oF jI t8 t9 t10).bind fun e=>(Sum.elim (fun(we:(ByteArray×(List ByteArray)×Int×(List Int)×Int×(List ByteArray)×(List Int)×Int))=>J .ret (zf3 we.1 we.2.1 we.2.2.1 we.2.2.2.1 we.2.2.2.2.1 we.2.2.2.2.2.1 we.2.2.2.2.2.2.1 we.2.2.2.2.2.2.2)) (fun(we:(ByteArray×(List ByteArray)×(List Int)×Int))=>J (.exit 0) (zf4 we.1 we.2.1 we.2.2.1 we.2.2.2)) e):=by
 induction k generalizing oF jI t8 t9 t10 with
 |zero=>rfl
 |succ k ih=>
  rw[alc]
  simp only[GR,T8,ih,aD]
def Ac:ah:=qn.add 31 [(.int .i64),.str] (dp (.int .i64) .str sV (fun _ r K=>K [.ak (.sl 9 .str) r.1 [[]],tI r.2.1,.ak (.sl 3 (.int .i64)) r.2.2.1 [[]],tI r.2.2.2] none))
theorem abn:aP Tryz.prog Ac:=dx Ww Tryz.f31 (fun R kk x0 x1 K=>T7 x0 x1 (T6 R kk kk (zy4 R kk K))) abm ((ek _ _ _ _).mv _) Tryz.func31 (by kernel_rfl) rfl (fun _ _ _ _ _ _ h=>h _ _) (fun _ _ _ _ _=>by kernel_rfl) fun R kk e x0 x1 K=>by
 simp only[sV,T7,zy5,zy6,ah8 (hF:=e),aeG,aeH,aD,<-e]
def anh:Env:=e0 [(.int .i64),.str]
def lj:ah:=Ac.add 28 [(.int .i64),.str] (dp (.int .i64) .str sW (fun _ r K=>K [.ak (.sl 3 (.int .i64)) r []] none))
theorem abo:aP Tryz.prog lj:=dx anh Tryz.f28 (fun R kk x0 x1 K=>T9 x0 x1 (fun a0=>K [.ak (.sl 3 (.int .i64)) a0 []] none)) abn (ek _ _ _ _) Tryz.func28 (by kernel_rfl) rfl (fun _ _ _ _ _ _ h=>h _ _) (fun _ _ _ _ _=>by kernel_rfl) fun R kk e x0 x1 K=>by
 simp only[sW,T9,aD]
def jX:Env:=b9.env (fun i=>bif Nat.beq i 6 then [1,2,5,7,8,9,17,29,30,31] else bif Nat.beq i 24 then [1,2,5,7,8,9,12,17,64] else []) (fun i=>bif Nat.beq i 6 then [1,2,4,5,7,8,9,17] else bif Nat.beq i 24 then [5,7,8,9,12,17] else []) [] [bA,(.sl 57 (.pair (.int .i64) (.pair .str .unit)))]
def XK(a:al)(b c d:Int)(e:Bool)(f:bZ)(g h:Int)(i:aq)(j:(aq×(Option ag×Option ag)×Int)):Option R:=aB (ev jX (lj R) kk (sub [1,1,1,1,0,1,0,0] (cd Tryz.f7))) [1,2,5,7,8,9,17,29,30,31] [1,2,4,5,7,8,9,17] k ⟨uS 1 ([.ak (.sl 57 (.pair (.int .i64) (.pair .str .unit))) a []]::[.ptr 3 bA []]::uS 2 ([.ptr 18 (.aG .bB bA y6) []]::uS 1 ([tI b]::[tI c]::[tI d]::uS 7 ([.ptr 18 (.aG .bB bA y6) [],tB e]::uS 11 ([.ak (.sl 71 y9) f []]::[tI g]::[tI h]::uS 58 []))))),nS 3 ((some ⟨bA,i,[]⟩)::nS 14 ((some ⟨(.aG .bB bA y6),j,[[],[0],[0,2],[1],[1,2]]⟩)::nS 72 []))⟩ J
def zpq(a:al)(b:Bool)(c d e:Int)(f:Bool)(g:aq)(h:(aq×(Option ag×Option ag)×Int)):State:=⟨uS 1 ([.ak (.sl 57 (.pair (.int .i64) (.pair .str .unit))) a []]::[.ptr 3 bA []]::uS 1 ([tB b]::[.ptr 18 (.aG .bB bA y6) []]::uS 1 ([tI c]::[tI d]::[tI e]::uS 7 ([.ptr 18 (.aG .bB bA y6) [],tB f]::uS 72 [])))),nS 3 ((some ⟨bA,g,[]⟩)::nS 14 ((some ⟨(.aG .bB bA y6),h,[[],[0],[0,2],[1],[1,2]]⟩)::nS 72 []))⟩
def zpr(a:al)(b c d:Int)(e:Bool)(f:aq)(g:(aq×(Option ag×Option ag)×Int)):State:=⟨uS 1 ([.ak (.sl 57 (.pair (.int .i64) (.pair .str .unit))) a []]::[.ptr 3 bA []]::uS 2 ([.ptr 18 (.aG .bB bA y6) []]::uS 1 ([tI b]::[tI c]::[tI d]::uS 7 ([.ptr 18 (.aG .bB bA y6) [],tB e]::uS 72 [])))),nS 3 ((some ⟨bA,f,[]⟩)::nS 14 ((some ⟨(.aG .bB bA y6),g,[[],[0],[0,2],[1],[1,2]]⟩)::nS 72 []))⟩
def D5:KX R:=(zj 0 (aU jX (lj R) kk (sub [1,1,1,1,1] (cd Tryz.f7)) (aS jX Tryz.f7.results.toList none K)))
def XL(a:al)(b c d e:Int)(f:Bool)(g:Int)(h:aq)(i:(aq×(Option ag×Option ag)×Int)):Option R:=aB (ev jX (lj R) kk (sub [1,1,1,1,1,1,0,1,0,0] (cd Tryz.f7))) [1,2,5,7,8,9,12,17,64] [5,7,8,9,12,17] k ⟨uS 1 ([.ak (.sl 57 (.pair (.int .i64) (.pair .str .unit))) a []]::[.ptr 3 bA []]::uS 2 ([.ptr 18 (.aG .bB bA y6) []]::uS 1 ([tI b]::[tI c]::[tI d]::uS 2 ([tI e]::uS 4 ([.ptr 18 (.aG .bB bA y6) [],tB f]::uS 46 ([tI g]::uS 25 [])))))),nS 3 ((some ⟨bA,h,[]⟩)::nS 14 ((some ⟨(.aG .bB bA y6),i,[[],[0],[0,2],[1],[1,2]]⟩)::nS 72 []))⟩ J
def zps(a b c d:Int)(e:Bool)(f:(aq×(Option ag×Option ag)×Int)):State:=⟨uS 5 ([.ptr 18 (.aG .bB bA y6) []]::uS 1 ([tI a]::[tI b]::[tI c]::uS 2 ([tI d]::uS 4 ([.ptr 18 (.aG .bB bA y6) [],tB e]::uS 72 [])))),nS 18 ((some ⟨(.aG .bB bA y6),f,[[],[0],[0,2],[1],[1,2]]⟩)::nS 72 [])⟩
def O4:KX R:=(zj 3 (aU jX (lj R) kk (sub [1,1,1,1,1,1,1] (cd Tryz.f7)) (aS jX Tryz.f7.results.toList none K)))
theorem an8(a:al)(b c d:Int)(e:Bool)(f:bZ)(g h:Int)(i:aq)(j:(aq×(Option ag×Option ag)×Int)):XK R kk (k+1) J a b c d e f g h i j=
 D6 a b c d e f g h i j (XK R kk k J) (fun a0 a1 a2 a3 a4 a5 a6 a7=>J .ret (zpq a0 a1 a2 a3 a4 a5 a6 a7)) (fun a0 a1 a2 a3 a4 a5 a6=>J (.exit 0) (zpr a0 a1 a2 a3 a4 a5 a6)):=by kernel_rfl
end
end Go.Proofs.YtpjkbbihjoflnaaGreatDoor

namespace Go.Proofs.YtpjkbbihjoflnaaGreatDoor
noncomputable section
open Go Go.Ref bp
variable (R:Type) (kk k:Nat) (K:KF R) (J:KX R)
theorem aiZ(a:al)(b:Bool)(c d e:Int)(f:Bool)(g:aq)(h:(aq×(Option ag×Option ag)×Int)):D5 R kk K .ret (zpq a b c d e f g h)=
 D7 a b c d e f g h (fun a0=>K [tB a0] none):=by kernel_rfl
theorem ai0(a:al)(b c d:Int)(e:Bool)(f:aq)(g:(aq×(Option ag×Option ag)×Int)):D5 R kk K (.exit 0) (zpr a b c d e f g)=
 XO a b c d e f g (XL R kk kk (O4 R kk K)):=by kernel_rfl
theorem an9(a:al)(b c d e:Int)(f:Bool)(g:Int)(h:aq)(i:(aq×(Option ag×Option ag)×Int)):XL R kk (k+1) J a b c d e f g h i=
 He a b c d e f g h i (XL R kk k J) (fun a0 a1 a2 a3 a4 a5=>J (.exit 3) (zps a0 a1 a2 a3 a4 a5)):=by kernel_rfl
theorem ai1(a b c d:Int)(e:Bool)(f:(aq×(Option ag×Option ag)×Int)):O4 R kk K (.exit 3) (zps a b c d e f)=
 XP a b c d e f (fun a0=>K [tB a0] none):=by kernel_rfl
theorem al1{kk:Nat}(hF:kk=ai)(Cv:al)(t7 t8 t9:Int)(ky:Bool)(t29:bZ)(t30 t31:Int)(df:aq)(du:(aq×(Option ag×Option ag)×Int)):XK R kk k J Cv t7 t8 t9 ky t29 t30 t31 df du=(Rh k Cv t7 t8 t9 ky t29 t30 t31 df du).bind fun e=>(Sum.elim (fun(we:(al×Bool×Int×Int×Int×Bool×aq×(aq×(Option ag×Option ag)×Int)))=>J .ret (zpq we.1 we.2.1 we.2.2.1 we.2.2.2.1 we.2.2.2.2.1 we.2.2.2.2.2.1 we.2.2.2.2.2.2.1 we.2.2.2.2.2.2.2)) (fun(we:(al×Int×Int×Int×Bool×aq×(aq×(Option ag×Option ag)×Int)))=>J (.exit 0) (zpr we.1 we.2.1 we.2.2.1 we.2.2.2.1 we.2.2.2.2.1 we.2.2.2.2.2.1 we.2.2.2.2.2.2)) e):=by
 induction k generalizing Cv t7 t8 t9 ky t29 t30 t31 df du with
 |zero=>rfl
 |succ k ih=>
  rw[an8]
  simp only[Rh,D6,ih,aD]
theorem al2{kk:Nat}(hF:kk=ai)(Cv:al)(t7 t8 t9 t12:Int)(ky:Bool)(t64:Int)(df:aq)(du:(aq×(Option ag×Option ag)×Int)):XL R kk k J Cv t7 t8 t9 t12 ky t64 df du=(Bm k Cv t7 t8 t9 t12 ky t64 df du).bind fun e=>J (.exit 3) (zps e.1 e.2.1 e.2.2.1 e.2.2.2.1 e.2.2.2.2.1 e.2.2.2.2.2):=by
 induction k generalizing Cv t7 t8 t9 t12 ky t64 df du with
 |zero=>rfl
 |succ k ih=>
  rw[an9]
  simp only[Bm,He,ih,aD]
def Ad:ah:=lj.add 7 [bA,(.sl 57 (.pair (.int .i64) (.pair .str .unit)))] (dp bA (.sl 57 (.pair (.int .i64) (.pair .str .unit))) Ia (fun _ r K=>K [tB r] none))
theorem abp:aP Tryz.prog Ad:=dx jX Tryz.f7 (fun R kk x0 x1 K=>XM x0 x1 (fun a0=>K [tB a0] none) (XK R kk kk (D5 R kk K))) abo (ek _ _ _ _) Tryz.func7 (by kernel_rfl) rfl (fun _ _ _ _ _ _ h=>h _ _) (fun _ _ _ _ _=>by kernel_rfl) fun R kk e x0 x1 K=>by
 simp only[Ia,XM,D7,XO,XP,al1 (hF:=e),al2 (hF:=e),aiZ,ai0,ai1,aD,<-e]
end
end Go.Proofs.YtpjkbbihjoflnaaGreatDoor

