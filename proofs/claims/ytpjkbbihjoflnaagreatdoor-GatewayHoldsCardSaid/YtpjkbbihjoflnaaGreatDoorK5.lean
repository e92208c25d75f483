/- No condition. -/
import Derived.Test.YtpjkbbihjoflnaaGreatDoorK4
set_option linter.unusedVariables false
set_option linter.unusedSimpArgs false
set_option maxRecDepth 100000
namespace Go.Proofs.YtpjkbbihjoflnaaGreatDoor
noncomputable section
open Go Go.Ref bE
variable (R:Type) (kk k:Nat) (K:KF R) (J:KX R)
theorem akg(a:bQ)(b c:Int)(d e:af)(f g:aQ):T8 R kk (k+1) J a b c d e f g=
 zzc a b c d e f g (fun a0 a1 a2=>J .ret (zfz a0 a1 a2)) (T8 R kk k J) (J (.exit 5) (zg0)):=by kernel_rfl
theorem ad4(a b c:Int):zz8 R kk K .ret (zfz a b c)=
 zzd a b c (fun a0 a1 a2=>K [tI a0,tI a1,tI a2] none):=by kernel_rfl
theorem ad5:zz8 R kk K (.exit 5) (zg0)=
 zze (fun a0 a1 a2=>K [tI a0,tI a1,tI a2] none):=by kernel_rfl
theorem ahb{kk:Nat}(hF:kk=ai)(t26:nW)(t27 t28:Int)(c9:ay)(cN dS:af):T6 R kk k J t26 t27 t28 c9 cN dS=(FI k t26 t27 t28 c9 cN dS).bind fun e=>(Sum.elim (fun(we:lG)=>J .ret (zfv we.1 we.2.1 we.2.2.1 we.2.2.2.1 we.2.2.2.2.1 we.2.2.2.2.2)) (fun(we:lF)=>J (.exit 0) (zfw we.1 we.2.1 we.2.2)) e):=by
 induction k generalizing t26 t27 t28 c9 cN dS with
 |zero=>rfl
 |succ k ih=>
  rw[ake]
  simp only[FI,Ua,ih,aF]
theorem ahc{kk:Nat}(hF:kk=ai)(t48:aN)(t49 t50:Int)(c9:ay)(cN dS:af)(Bl:gV):T7 R kk k J t48 t49 t50 c9 cN dS Bl=(FJ k t48 t49 t50 c9 cN dS Bl).bind fun e=>(Sum.elim (fun(we:lG)=>J .ret (zfx we.1 we.2.1 we.2.2.1 we.2.2.2.1 we.2.2.2.2.1 we.2.2.2.2.2)) (fun(we:lF)=>J (.exit 2) (zfy we.1 we.2.1 we.2.2)) e):=by
 induction k generalizing t48 t49 t50 c9 cN dS Bl with
 |zero=>rfl
 |succ k ih=>
  rw[akf]
  simp only[FJ,zza,ih,aF]
theorem ahd{kk:Nat}(hF:kk=ai)(t77:bQ)(t78 t79:Int)(cN dS:af)(jL Bm:aQ):T8 R kk k J t77 t78 t79 cN dS jL Bm=(O9 k t77 t78 t79 cN dS jL Bm).bind fun e=>(Sum.elim (fun(we:je)=>J .ret (zfz we.1 we.2.1 we.2.2)) (fun(we:Unit)=>J (.exit 5) (zg0)) e):=by
 induction k generalizing t77 t78 t79 cN dS jL Bm with
 |zero=>rfl
 |succ k ih=>
  rw[akg]
  simp only[O9,zzc,ih,aF]
def wl:ah:=mE.add 56 [cB,aK,aK] (kb cB aK aK qA (fun _ r K=>K [tI r.1,tI r.2.1,tI r.2.2] none))
theorem o85:aO Tryz.prog wl:=ko vd Tryz.f56 (fun R kk x0 x1 x2 K=>T9 x0 x1 x2 (T6 R kk kk (zz6 R kk K))) o84 (ek _ _ _ _) Tryz.func56 (by kernel_rfl) rfl (fun _ _ _ _ _ _ h=>h _ _) (fun _ _ _ _ _ _=>by kernel_rfl) fun R kk e x0 x1 x2 K=>by
 simp only[qA,T9,zz9,Ub,zzb,Uc,zzd,zze,ahb (hF:=e),ahc (hF:=e),ahd (hF:=e),ad0,ad1,ad2,ad3,ad4,ad5,aF,<-e]
def U9:Env:=b8.env (fun i=>bif Nat.beq i 4 then [1,22,23] else []) (fun i=>bif Nat.beq i 4 then [2,3,4] else []) [] [bu]
def Tf(a:mG)(b:Int)(c:al):Option R:=aB (ev U9 (wl R) kk (sub [1,1,0,1,0,0] (cd Tryz.f36))) [1,22,23] [2,3,4] k ⟨uS 1 ([.ptr 2 bu []]::uS 20 ([.ak (.arr 2 cr) a []]::[tI b]::uS 33 [])),nS 2 ((some ⟨bu,c,[]⟩)::nS 55 [])⟩ J
def zf8(a b c:Int):State:=⟨uS 2 ([tI a]::[tI b]::[tI c]::uS 52 []),nS 58 []⟩
def zf9:State:=⟨uS 57 [],nS 58 []⟩
def zy8:KX R:=(zi 0 (aU U9 (wl R) kk (sub [1,1,1] (cd Tryz.f36)) (aT U9 Tryz.f36.results.toList none K)))
theorem ajZ(a:mG)(b:Int)(c:al):Tf R kk (k+1) J a b c=
 FE a b c (fun a0 a1 a2=>J .ret (zf8 a0 a1 a2)) (Tf R kk k J) (J (.exit 0) (zf9)):=by kernel_rfl
theorem adF(a b c:Int):zy8 R kk K .ret (zf8 a b c)=
 zy9 a b c (fun a0 a1 a2=>K [tI a0,tI a1,tI a2] none):=by kernel_rfl
theorem adG:zy8 R kk K (.exit 0) (zf9)=
 zya (fun a0 a1 a2=>K [tI a0,tI a1,tI a2] none):=by kernel_rfl
theorem agT{kk:Nat}(hF:kk=ai)(t22:mG)(t23:Int)(cW:al):Tf R kk k J t22 t23 cW=(Ei k t22 t23 cW).bind fun e=>(Sum.elim (fun(we:je)=>J .ret (zf8 we.1 we.2.1 we.2.2)) (fun(we:Unit)=>J (.exit 0) (zf9)) e):=by
 induction k generalizing t22 t23 cW with
 |zero=>rfl
 |succ k ih=>
  rw[ajZ]
  simp only[Ei,FE,ih,aF]
def wo:ah:=wl.add 36 [bu] (cK bu qy (fun _ r K=>K [tI r.1,tI r.2.1,tI r.2.2] none))
theorem o86:aO Tryz.prog wo:=cM U9 Tryz.f36 (fun R kk x0 K=>Th x0 (fun a0 a1 a2=>K [tI a0,tI a1,tI a2] none) (Tf R kk kk (zy8 R kk K))) o85 (ek _ _ _ _) Tryz.func36 (by kernel_rfl) rfl (fun _ _ _ _ _ _ h=>h _ _) (fun _ _ _ _=>by kernel_rfl) fun R kk e x0 K=>by
 simp only[qy,Th,zy9,zya,agT (hF:=e),adF,adG,aF,<-e]
def oO:Env:=b8.env (fun i=>bif Nat.beq i 5 then [1,2,3,25,26,27] else []) (fun i=>bif Nat.beq i 5 then [1,2,3] else []) [2] [cr]
def V0(a b:bQ)(c d:Int)(e f:au):Option R:=aB (ev oO (wo R) kk (sub [1,1,1,1,0,1,0,0] (cd Tryz.f37))) [1,2,3,25,26,27] [1,2,3] k ⟨uS 1 ([.ptr 2 cr []]::[.ptr 3 cr []]::[.ak (.sl 102 cw) a [[]]]::uS 21 ([.ak (.sl 102 cw) b []]::[tI c]::[tI d]::uS 24 [])),nS 2 ((some ⟨cr,e,[[0,2],[1,0]]⟩)::(some ⟨cr,f,[[0,2],[1,0],[1,1],[2],[3]]⟩)::nS 49 [])⟩ J
def zot(a:bQ)(b c:au):State:=⟨uS 1 ([.ptr 2 cr []]::[.ptr 3 cr []]::[.ak (.sl 102 cw) a [[]]]::uS 48 []),nS 2 ((some ⟨cr,b,[[0,2],[1,0]]⟩)::(some ⟨cr,c,[[0,2],[1,0],[1,1],[2],[3]]⟩)::nS 49 [])⟩
def Nz:KX R:=(zi 0 (aU oO (wo R) kk (sub [1,1,1,1,1] (cd Tryz.f37)) (aT oO Tryz.f37.results.toList none K)))
theorem amA(a b:bQ)(c d:Int)(e f:au):V0 R kk (k+1) J a b c d e f=
 C1 a b c d e f (V0 R kk k J) (fun a0 a1 a2=>J (.exit 0) (zot a0 a1 a2)):=by kernel_rfl
theorem ahs(a:bQ)(b c:au):Nz R kk K (.exit 0) (zot a b c)=
 V2 a b c (fun a0=>K [.ak cr a0 [[3],[2],[0,2],[1,0]]] none):=by kernel_rfl
theorem aku{kk:Nat}(hF:kk=ai)(t3 t25:bQ)(t26 t27:Int)(cW dy:au):V0 R kk k J t3 t25 t26 t27 cW dy=(PC k t3 t25 t26 t27 cW dy).bind fun e=>J (.exit 0) (zot e.1 e.2.1 e.2.2):=by
 induction k generalizing t3 t25 t26 t27 cW dy with
 |zero=>rfl
 |succ k ih=>
  rw[amA]
  simp only[PC,C1,ih,aF]
def Ia:ah:=wo.add 37 [cr] (cK cr GZ (fun _ r K=>K [.ak cr r [[3],[2],[0,2],[1,0]]] none))
theorem o87:aO Tryz.prog Ia:=cM oO Tryz.f37 (fun R kk x0 K=>V1 x0 (V0 R kk kk (Nz R kk K))) o86 (ek _ _ _ _) Tryz.func37 (by kernel_rfl) rfl (fun _ _ _ _ _ _ h=>h _ _) (fun _ _ _ _=>by kernel_rfl) fun R kk e x0 K=>by
 simp only[GZ,V1,V2,aku (hF:=e),ahs,aF,<-e]
def GN:Env:=e0 [(.int .i64)]
def wq:ah:=Ia.add 38 [(.int .i64)] (cK (.int .i64) GM (fun _ r K=>(Sum.elim (fun(wr:Int)=>K [.dK,tI wr] none) (fun(wr:s7)=>K [.ptr 0 y6 [],tI wr.1] (some ⟨y6,wr.2,[[2]]⟩)) r)))
theorem o88:aO Tryz.prog wq:=cM GN Tryz.f38 (fun R kk x0 K=>VP x0 (fun a0=>K [.dK,tI a0] none) (fun a0 a1=>K [.ptr 0 y6 [],tI a0] (some ⟨y6,a1,[[2]]⟩))) o87 (ek _ _ _ _) Tryz.func38 (by kernel_rfl) rfl (fun _ _ _ _ _ _ h=>Pp (fun _=>h _ _) (fun _=>h _ _)) (fun _ _ _ _=>by kernel_rfl) fun R kk e x0 K=>by
 simp only[GM,VP,aF]
def oN:Env:={{b8.env (fun i=>bif Nat.beq i 6 then [1,7,19,20] else []) (fun i=>bif Nat.beq i 6 then [7,19] else []) [] [bu] with sg:=some (4,9,7)} with gr:=fun t=>bif Nat.beq t 87 then some (bu,y6) else none,ga:=fun t=>Nat.beq t 85}
def VX(a:Int)(b:al)(c:(al×(Option ag×Option ag)×Int)):Option R:=aB (ev oN (wq R) kk (sub [1,1,1,0,1,0,0] (cd Tryz.f12))) [1,7,19,20] [7,19] k ⟨uS 1 ([.ptr 2 bu []]::uS 5 ([.ptr 20 (.aG .bz bu y6) []]::uS 12 ([tI a]::uS 26 []))),nS 2 ((some ⟨bu,b,[]⟩)::nS 17 ((some ⟨(.aG .bz bu y6),c,[[],[0],[0,2],[1],[1,2]]⟩)::nS 27 []))⟩ J
def zos(a:(al×(Option ag×Option ag)×Int)):State:=⟨uS 7 ([.ptr 20 (.aG .bz bu y6) []]::uS 39 []),nS 20 ((some ⟨(.aG .bz bu y6),a,[[],[0],[0,2],[1],[1,2]]⟩)::nS 27 [])⟩
def Ny:KX R:=(zi 0 (aU oN (wq R) kk (sub [1,1,1,1] (cd Tryz.f12)) (aT oN Tryz.f12.results.toList none K)))
theorem amz(a:Int)(b:al)(c:(al×(Option ag×Option ag)×Int)):VX R kk (k+1) J a b c=
 FV a b c (VX R kk k J) (fun a0=>J (.exit 0) (zos a0)):=by kernel_rfl
theorem ahr(a:(al×(Option ag×Option ag)×Int)):Ny R kk K (.exit 0) (zos a)=
 CZ a (fun a0 a1=>K [.ptr 0 (.aG .bz bu y6) [],tI a0] (some ⟨(.aG .bz bu y6),a1,[[],[0],[0,2],[1],[1,2]]⟩)):=by kernel_rfl
theorem akt{kk:Nat}(hF:kk=ai)(t20:Int)(cW:al)(iy:(al×(Option ag×Option ag)×Int)):VX R kk k J t20 cW iy=(EC k t20 cW iy).bind fun e=>J (.exit 0) (zos e):=by
 induction k generalizing t20 cW iy with
 |zero=>rfl
 |succ k ih=>
  rw[amz]
  simp only[EC,FV,ih,aF]
def Ib:ah:=wq.add 12 [bu] (cK bu x8 (fun _ r K=>(Sum.elim (fun(wr:Int)=>K [.dK,tI wr] none) (fun(wr:(Int×(al×(Option ag×Option ag)×Int)))=>K [.ptr 0 (.aG .bz bu y6) [],tI wr.1] (some ⟨(.aG .bz bu y6),wr.2,[[],[0],[0,2],[1],[1,2]]⟩)) r)))
theorem o89:aO Tryz.prog Ib:=cM oN Tryz.f12 (fun R kk x0 K=>VY x0 (fun a0=>K [.dK,tI a0] none) (VX R kk kk (Ny R kk K))) o88 (((ek _ _ _ _).sg _).bz 87 85 bu y6 (by kernel_rfl) (by kernel_rfl) (by kernel_rfl) (by kernel_rfl)) Tryz.func12 (by kernel_rfl) rfl (fun _ _ _ _ _ _ h=>Pp (fun _=>h _ _) (fun _=>h _ _)) (fun _ _ _ _=>by kernel_rfl) fun R kk e x0 K=>by
 simp only[x8,VY,CZ,akt (hF:=e),ahr,aF,<-e]
def G2:Env:=e0 [bu,(.sl 57 (.pair (.int .i64) (.pair .str .unit))),(.int .i64)]
def wu:ah:=Ib.add 18 [bu,(.sl 57 (.pair (.int .i64) (.pair .str .unit))),(.int .i64)] (kb bu (.sl 57 (.pair (.int .i64) (.pair .str .unit))) (.int .i64) EQ (fun _ r K=>(Sum.elim (fun(wr:Unit)=>K [.dK,tB false] none) (fun(wr:(Bool×(al×(Option ag×Option ag)×Int)))=>K [.ptr 0 (.aG .bz bu y6) [],tB wr.1] (some ⟨(.aG .bz bu y6),wr.2,[[],[0],[0,2],[1],[1,2]]⟩)) r)))
theorem o90:aO Tryz.prog wu:=ko G2 Tryz.f18 (fun R kk x0 x1 x2 K=>V8 x0 x1 x2 (K [.dK,tB false] none) (fun a0 a1=>K [.ptr 0 (.aG .bz bu y6) [],tB a0] (some ⟨(.aG .bz bu y6),a1,[[],[0],[0,2],[1],[1,2]]⟩))) o89 (ek _ _ _ _) Tryz.func18 (by kernel_rfl) rfl (fun _ _ _ _ _ _ h=>Pp (fun _=>h _ _) (fun _=>h _ _)) (fun _ _ _ _ _ _=>by kernel_rfl) fun R kk e x0 x1 x2 K=>by
 simp only[EQ,V8,aF]
def UT:Env:=b8.env (fun i=>bif Nat.beq i 3 then [0,3,4] else []) (fun i=>bif Nat.beq i 3 then [3] else []) [] [(.sl 9 .str)]
def Su(a:(List ByteArray))(b:aN)(c:Int):Option R:=aB (ev UT (wu R) kk (sub [1,1,0,1,0,0] (cd Tryz.f50))) [0,3,4] [3] k ⟨[.ak (.sl 9 .str) a []]::uS 2 ([.ak (.sl 109 (.pair .str (.pair .str .unit))) b [[]]]::[tI c]::uS 21 []),nS 27 []⟩ J
def zei(a:aN):State:=⟨uS 3 ([.ak (.sl 109 (.pair .str (.pair .str .unit))) a [[]]]::uS 22 []),nS 27 []⟩
def MB:KX R:=(zi 0 (aU UT (wu R) kk (sub [1,1,1] (cd Tryz.f50)) (aT UT Tryz.f50.results.toList none K)))
theorem ajJ(a:(List ByteArray))(b:aN)(c:Int):Su R kk (k+1) J a b c=
 zx2 a b c (Su R kk k J) (fun a0=>J (.exit 0) (zei a0)):=by kernel_rfl
theorem adg(a:aN):MB R kk K (.exit 0) (zei a)=
 zx3 a (fun a0=>K [.ak (.sl 109 (.pair .str (.pair .str .unit))) a0 []] none):=by kernel_rfl
theorem agC{kk:Nat}(hF:kk=ai)(gM:(List ByteArray))(t3:aN)(t4:Int):Su R kk k J gM t3 t4=(Sv k gM t3 t4).bind fun e=>J (.exit 0) (zei e):=by
 induction k generalizing gM t3 t4 with
 |zero=>rfl
 |succ k ih=>
  rw[ajJ]
  simp only[Sv,zx2,ih,aF]
def Ic:ah:=wu.add 50 [(.sl 9 .str)] (cK (.sl 9 .str) su (fun _ r K=>K [.ak (.sl 109 (.pair .str (.pair .str .unit))) r []] none))
theorem o91:aO Tryz.prog Ic:=cM UT Tryz.f50 (fun R kk x0 K=>zx1 x0 (Su R kk kk (MB R kk K))) o90 (ek _ _ _ _) Tryz.func50 (by kernel_rfl) rfl (fun _ _ _ _ _ _ h=>h _ _) (fun _ _ _ _=>by kernel_rfl) fun R kk e x0 K=>by
 simp only[su,zx1,zx3,agC (hF:=e),adg,aF,<-e]
def Hm:Env:=e0 []
def wv:ah:=Ic.add 66 [] (Fe W0 (fun _ r K=>K [.ak (.sl 3 (.int .i64)) r [[]]] none))
theorem o92:aO Tryz.prog wv:=JL Hm Tryz.f66 (fun R kk K=>Dt (fun a0=>K [.ak (.sl 3 (.int .i64)) a0 [[]]] none)) o91 (ek _ _ _ _) Tryz.func66 (by kernel_rfl) rfl (fun _ _ _ _ _ _ h=>h _ _) (fun _ _ _=>by kernel_rfl) fun R kk e K=>by
 simp only[W0,Dt,aF]
def US:Env:={b8.env (fun i=>bif Nat.beq i 4 then [1,2,3] else []) (fun i=>bif Nat.beq i 4 then [1] else []) [] [] with mv:=[31]}
def Ss(a:bQ)(b:(List Int))(c:Int):Option R:=aB (ev US (wv R) kk (sub [1,1,1,0,1,0,0] (cd Tryz.f48))) [1,2,3] [1] k ⟨uS 1 ([.ak (.sl 102 cw) a [[]]]::[.ak (.sl 3 (.int .i64)) b [[]]]::[tI c]::uS 28 []),nS 33 []⟩ J
def zeh(a:bQ):State:=⟨uS 1 ([.ak (.sl 102 cw) a [[]]]::uS 30 []),nS 33 []⟩
def MA:KX R:=(zi 0 (aU US (wv R) kk (sub [1,1,1,1] (cd Tryz.f48)) (aT US Tryz.f48.results.toList none K)))
theorem ajI(a:bQ)(b:(List Int))(c:Int):Ss R kk (k+1) J a b c=
 zwz a b c (Ss R kk k J) (fun a0=>J (.exit 0) (zeh a0)):=by kernel_rfl
theorem adf(a:bQ):MA R kk K (.exit 0) (zeh a)=
 zx0 a (fun a0=>K [.ak (.sl 102 cw) a0 [[]]] none):=by kernel_rfl
theorem agB{kk:Nat}(hF:kk=ai)(t1:bQ)(t2:(List Int))(t3:Int):Ss R kk k J t1 t2 t3=(St k t1 t2 t3).bind fun e=>J (.exit 0) (zeh e):=by
 induction k generalizing t1 t2 t3 with
 |zero=>rfl
 |succ k ih=>
  rw[ajI]
  simp only[St,zwz,ih,aF]
def ww:ah:=wv.add 48 [] (Fe vk (fun _ r K=>K [.ak (.sl 102 cw) r [[]]] none))
theorem o93:aO Tryz.prog ww:=JL US Tryz.f48 (fun R kk K=>zwy (Ss R kk kk (MA R kk K))) o92 ((ek _ _ _ _).mv _) Tryz.func48 (by kernel_rfl) rfl (fun _ _ _ _ _ _ h=>h _ _) (fun _ _ _=>by kernel_rfl) fun R kk e K=>by
 simp only[vk,zwy,zx0,agB (hF:=e),adf,aF,<-e]
def UH:Env:=b8.env (fun i=>bif Nat.beq i 3 then [0,3,4] else []) (fun i=>bif Nat.beq i 3 then [3] else []) [] [(.sl 109 (.pair .str (.pair .str .unit)))]
def RM(a b:aN)(c:Int):Option R:=aB (ev UH (ww R) kk (sub [1,1,0,1,0,0] (cd Tryz.f51))) [0,3,4] [3] k ⟨[.ak (.sl 109 (.pair .str (.pair .str .unit))) a []]::uS 2 ([.ak (.sl 109 (.pair .str (.pair .str .unit))) b [[]]]::[tI c]::uS 22 []),nS 28 []⟩ J
def zdq(a:aN):State:=⟨uS 3 ([.ak (.sl 109 (.pair .str (.pair .str .unit))) a [[]]]::uS 23 []),nS 28 []⟩
def Mo:KX R:=(zi 0 (aU UH (ww R) kk (sub [1,1,1] (cd Tryz.f51)) (aT UH Tryz.f51.results.toList none K)))
theorem ajs(a b:aN)(c:Int):RM R kk (k+1) J a b c=
 zvk a b c (RM R kk k J) (fun a0=>J (.exit 0) (zdq a0)):=by kernel_rfl
theorem acF(a:aN):Mo R kk K (.exit 0) (zdq a)=
 zvl a (fun a0=>K [.ak (.sl 109 (.pair .str (.pair .str .unit))) a0 []] none):=by kernel_rfl
theorem aga{kk:Nat}(hF:kk=ai)(gM t3:aN)(t4:Int):RM R kk k J gM t3 t4=(RN k gM t3 t4).bind fun e=>J (.exit 0) (zdq e):=by
 induction k generalizing gM t3 t4 with
 |zero=>rfl
 |succ k ih=>
  rw[ajs]
  simp only[RN,zvk,ih,aF]
def Ie:ah:=ww.add 51 [(.sl 109 (.pair .str (.pair .str .unit)))] (cK (.sl 109 (.pair .str (.pair .str .unit))) sd (fun _ r K=>K [.ak (.sl 109 (.pair .str (.pair .str .unit))) r []] none))
theorem o94:aO Tryz.prog Ie:=cM UH Tryz.f51 (fun R kk x0 K=>zvj x0 (RM R kk kk (Mo R kk K))) o93 (ek _ _ _ _) Tryz.func51 (by kernel_rfl) rfl (fun _ _ _ _ _ _ h=>h _ _) (fun _ _ _ _=>by kernel_rfl) fun R kk e x0 K=>by
 simp only[sd,zvj,zvl,aga (hF:=e),acF,aF,<-e]
def Hn:Env:=e0 []
def wy:ah:=Ie.add 67 [] (Fe W3 (fun _ r K=>K [.ak (.sl 29 (.sl 3 (.int .i64))) r [[]]] none))
theorem o95:aO Tryz.prog wy:=JL Hn Tryz.f67 (fun R kk K=>Dx (fun a0=>K [.ak (.sl 29 (.sl 3 (.int .i64))) a0 [[]]] none)) o94 (ek _ _ _ _) Tryz.func67 (by kernel_rfl) rfl (fun _ _ _ _ _ _ h=>h _ _) (fun _ _ _=>by kernel_rfl) fun R kk e K=>by
 simp only[W3,Dx,aF]
def pn:Env:=b8.env (fun i=>bif Nat.beq i 4 then [0,2,3,4,5] else []) (fun i=>bif Nat.beq i 4 then [2,3] else []) [2] [(.int .i64)]
def WA(a:Int)(b:wA)(c:Int)(d e:af):Option R:=aB (ev pn (wy R) kk (sub [1,1,1,0,1,0,0] (cd Tryz.f52))) [0,2,3,4,5] [2,3] k ⟨[tI a]::uS 1 ([.ptr 3 aK []]::[.ptr 4 aK []]::[.ak (.sl 29 (.sl 3 (.int .i64))) b [[]]]::[tI c]::uS 52 []),nS 3 ((some ⟨aK,d,[[2]]⟩)::(some ⟨aK,e,[[2]]⟩)::nS 54 [])⟩ J
def zpf(a b:af):State:=⟨uS 2 ([.ptr 3 aK []]::[.ptr 4 aK []]::uS 54 []),nS 3 ((some ⟨aK,a,[[2]]⟩)::(some ⟨aK,b,[[2]]⟩)::nS 54 [])⟩
def NB:KX R:=(zi 0 (aU pn (wy R) kk (sub [1,1,1,1] (cd Tryz.f52)) (aT pn Tryz.f52.results.toList none K)))
theorem amO(a:Int)(b:wA)(c:Int)(d e:af):WA R kk (k+1) J a b c d e=
 Dv a b c d e (WA R kk k J) (fun a0 a1=>J (.exit 0) (zpf a0 a1)):=by kernel_rfl
theorem ahO(a b:af):NB R kk K (.exit 0) (zpf a b)=
 Dw a b (fun a0=>K [.ak aK a0 [[2]]] none):=by kernel_rfl
theorem akI{kk:Nat}(hF:kk=ai)(l5:Int)(t4:wA)(t5:Int)(dy c9:af):WA R kk k J l5 t4 t5 dy c9=(WB k l5 t4 t5 dy c9).bind fun e=>J (.exit 0) (zpf e.1 e.2):=by
 induction k generalizing l5 t4 t5 dy c9 with
 |zero=>rfl
 |succ k ih=>
  rw[amO]
  simp only[WB,Dv,ih,aF]
def Ig:ah:=wy.add 52 [(.int .i64)] (cK (.int .i64) P6 (fun _ r K=>K [.ak aK r [[2]]] none))
theorem o96:aO Tryz.prog Ig:=cM pn Tryz.f52 (fun R kk x0 K=>Du x0 (WA R kk kk (NB R kk K))) o95 (ek _ _ _ _) Tryz.func52 (by kernel_rfl) rfl (fun _ _ _ _ _ _ h=>h _ _) (fun _ _ _ _=>by kernel_rfl) fun R kk e x0 K=>by
 simp only[P6,Du,Dw,akI (hF:=e),ahO,aF,<-e]
def alM:Env:=e0 [.str,.str,.str]
def Ih:ah:=Ig.add 53 [.str,.str,.str] (kb .str .str .str vj (fun _ r K=>K [.ak (.sl 107 (.pair (.int .i64) (.pair .str .unit))) r [[]]] none))
theorem o97:aO Tryz.prog Ih:=ko alM Tryz.f53 (fun R kk x0 x1 x2 K=>zwx x0 x1 x2 (fun a0=>K [.ak (.sl 107 (.pair (.int .i64) (.pair .str .unit))) a0 [[]]] none)) o96 (ek _ _ _ _) Tryz.func53 (by kernel_rfl) rfl (fun _ _ _ _ _ _ h=>h _ _) (fun _ _ _ _ _ _=>by kernel_rfl) fun R kk e x0 x1 x2 K=>by
 simp only[vj,zwx,aF]
def alJ:Env:={b8.env (fun _=>[]) (fun _=>[]) [0] [] with sh:=[47,59]}
def Ii:ah:=Ih.add 33 [] (Fe A6 (fun _ r K=>K [.ak bu r [[0,1,3],[0,1,2],[0,1,0,2],[0,0,3],[0,0,0,2]]] none))
theorem o98:aO Tryz.prog Ii:=JL alJ Tryz.f33 (fun R kk K=>zws (fun a0=>K [.ak bu a0 [[0,1,3],[0,1,2],[0,1,0,2],[0,0,3],[0,0,0,2]]] none)) o97 ((ek _ _ _ _).sh _) Tryz.func33 (by kernel_rfl) rfl (fun _ _ _ _ _ _ h=>h _ _) (fun _ _ _=>by kernel_rfl) fun R kk e K=>by
 simp only[A6,zws,aF]
def GY:Env:=e0 [(.int .i64)]
def Ij:ah:=Ii.add 42 [(.int .i64)] (cK (.int .i64) Bd (fun _ r K=>K [tB r] none))
theorem o99:aO Tryz.prog Ij:=cM GY Tryz.f42 (fun R kk x0 K=>VZ x0 (fun a0=>K [tB a0] none)) o98 (ek _ _ _ _) Tryz.func42 (by kernel_rfl) rfl (fun _ _ _ _ _ _ h=>h _ _) (fun _ _ _ _=>by kernel_rfl) fun R kk e x0 K=>by
 simp only[Bd,VZ,aF]
def GL:Env:=e0 [.unit]
def pr:ah:=Ij.add 62 [.unit] (Fc y6 [[2]] GK (fun _ r K=>K [tI r.1] (some ⟨y6,r.2,[[2]]⟩)))
theorem YF:aO Tryz.prog pr:=QF GL Tryz.f62 (fun R kk x0 K=>VO x0 (fun a0 a1=>K [tI a0] (some ⟨y6,a1,[[2]]⟩))) o99 (ek _ _ _ _) Tryz.func62 (by kernel_rfl) rfl (fun _ _ _ _ _ _ h=>h _ _) (fun _ _ _ _=>by kernel_rfl) fun R kk e x0 K=>by
 simp only[GK,VO,aF]
def oJ:Env:=b8.env (fun i=>bif Nat.beq i 3 then [0,1,6,7] else []) (fun i=>bif Nat.beq i 3 then [4,5,6] else []) [] [.unit,.str]
def VK(a:ByteArray)(b:(List ByteArray))(c:Int)(d:ag):Option R:=aB (ev oJ (pr R) kk (sub [1,1,0,1,0,0] (cd Tryz.f45))) [0,1,6,7] [4,5,6] k ⟨[.ptr 0 y6 []]::[tS a]::uS 4 ([.ak (.sl 9 .str) b [[]]]::[tI c]::uS 80 []),(some ⟨y6,d,[[2]]⟩)::nS 88 []⟩ J
def zoo(a:(List ByteArray))(b:Bool)(c:(List ByteArray))(d:ag):State:=⟨uS 4 ([.ak (.sl 9 .str) a []]::[tB b]::[.ak (.sl 9 .str) c [[]]]::uS 81 []),(some ⟨y6,d,[[2]]⟩)::nS 88 []⟩
def zop(a:(List ByteArray))(b:ag):State:=⟨uS 6 ([.ak (.sl 9 .str) a [[]]]::uS 81 []),(some ⟨y6,b,[[2]]⟩)::nS 88 []⟩
def CS(a:ag):KX R:=(zi 0 (aU oJ (pr R) kk (sub [1,1,1] (cd Tryz.f45)) (aT oJ Tryz.f45.results.toList (some ⟨y6,a,[[2]]⟩) K)))
theorem amv(a:ByteArray)(b:(List ByteArray))(c:Int)(d:ag):VK R kk (k+1) J a b c d=
 Pz a b c d (fun a0 a1 a2 a3=>J .ret (zoo a0 a1 a2 a3)) (VK R kk k J) (fun a0 a1=>J (.exit 0) (zop a0 a1)):=by kernel_rfl
theorem ahn(a:ag)(b:(List ByteArray))(c:Bool)(d:(List ByteArray))(e:ag):CS R kk K a .ret (zoo b c d e)=
 VM b c d e (fun a0 a1 a2=>K [.ak (.sl 9 .str) a0 [],tB a1] (some ⟨y6,a2,[[2]]⟩)):=by kernel_rfl
theorem aho(a:ag)(b:(List ByteArray))(c:ag):CS R kk K a (.exit 0) (zop b c)=
 VN b c (fun a0 a1 a2=>K [.ak (.sl 9 .str) a0 [],tB a1] (some ⟨y6,a2,[[2]]⟩)):=by kernel_rfl
theorem akp{kk:Nat}(hF:kk=ai)(lJ:ByteArray)(t6:(List ByteArray))(t7:Int)(recv:ag):VK R kk k J lJ t6 t7 recv=(EB k lJ t6 t7 recv).bind fun e=>(Sum.elim (fun(we:((List ByteArray)×Bool×(List ByteArray)×ag))=>J .ret (zoo we.1 we.2.1 we.2.2.1 we.2.2.2)) (fun(we:((List ByteArray)×ag))=>J (.exit 0) (zop we.1 we.2)) e):=by
 induction k generalizing lJ t6 t7 recv with
 |zero=>rfl
 |succ k ih=>
  rw[amv]
  simp only[EB,Pz,ih,aF]
def yi:ah:=pr.add 45 [.unit,.str] (Cf y6 [[2]] .str Ba (fun _ r K=>K [.ak (.sl 9 .str) r.1 [],tB r.2.1] (some ⟨y6,r.2.2,[[2]]⟩)))
theorem YG:aO Tryz.prog yi:=JJ oJ Tryz.f45 (fun R kk x0 x1 K=>VL x0 x1 (VK R kk kk (CS R kk K x0))) YF (ek _ _ _ _) Tryz.func45 (by kernel_rfl) rfl (fun _ _ _ _ _ _ h=>h _ _) (fun _ _ _ _ _=>by kernel_rfl) fun R kk e x0 x1 K=>by
 simp only[Ba,VL,VM,VN,akp (hF:=e),ahn,aho,aF,<-e]
def WU:Env:=e0 [(.int .i64)]
def pu:ah:=yi.add 177 [(.int .i64)] (cK (.int .i64) Q2 (fun _ r K=>K [tI r] none))
theorem YH:aO Tryz.prog pu:=cM WU Tryz.f177 (fun R kk x0 K=>oI x0 (fun a0=>K [tI a0] none)) YG (ek _ _ _ _) Tryz.func177 (by kernel_rfl) rfl (fun _ _ _ _ _ _ h=>h _ _) (fun _ _ _ _=>by kernel_rfl) fun R kk e x0 K=>by
 simp only[Q2,oI,aF]
def vi:Env:=b8.env (fun i=>bif Nat.beq i 7 then [0,1,7,30,31] else []) (fun i=>bif Nat.beq i 7 then [1,4,5,6,7] else []) [] [.str,(.int .i64)]
def om(a:ByteArray)(b:Int)(c:(List Int))(d e:Int):Option R:=aB (ev vi (pu R) kk (sub [1,1,1,0,1,0,0] (cd Tryz.f178))) [0,1,7,30,31] [1,4,5,6,7] k ⟨[tS a]::[tI b]::uS 5 ([.ak (.sl 5 (.int .u8)) c [[]]]::uS 22 ([tI d]::[tI e]::uS 43 [])),nS 76 []⟩ J
def zve(a:Int)(b:ByteArray)(c d:Int)(e:(List Int)):State:=⟨uS 1 ([tI a]::uS 2 ([tS b]::[tI c]::[tI d]::[.ak (.sl 5 (.int .u8)) e [[]]]::uS 67 [])),nS 76 []⟩
def zvf(a:Int)(b:(List Int)):State:=⟨uS 1 ([tI a]::uS 5 ([.ak (.sl 5 (.int .u8)) b [[]]]::uS 67 [])),nS 76 []⟩
def rW:KX R:=(zi 1 (aU vi (pu R) kk (sub [1,1,1,1] (cd Tryz.f178)) (aT vi Tryz.f178.results.toList none K)))
theorem Gb(a:ByteArray)(b:Int)(c:(List Int))(d e:Int):om R kk (k+1) J a b c d e=
 mm a b c d e (fun a0 a1 a2 a3 a4=>J .ret (zve a0 a1 a2 a3 a4)) (om R kk k J) (fun a0 a1=>J (.exit 1) (zvf a0 a1)):=by kernel_rfl
theorem ajp(a:Int)(b:ByteArray)(c d:Int)(e:(List Int)):rW R kk K .ret (zve a b c d e)=
 rX a b c d e (fun a0 a1 a2=>K [tS a0,tI a1,tI a2] none):=by kernel_rfl
theorem ajq(a:Int)(b:(List Int)):rW R kk K (.exit 1) (zvf a b)=
 oq a b (fun a0 a1 a2=>K [tS a0,tI a1,tI a2] none):=by kernel_rfl
theorem alB{kk:Nat}(hF:kk=ai)(nY:ByteArray)(lW:Int)(t7:(List Int))(t30 t31:Int):om R kk k J nY lW t7 t30 t31=(iK k nY lW t7 t30 t31).bind fun e=>(Sum.elim (fun(we:(Int×ByteArray×Int×Int×(List Int)))=>J .ret (zve we.1 we.2.1 we.2.2.1 we.2.2.2.1 we.2.2.2.2)) (fun(we:(Int×(List Int)))=>J (.exit 1) (zvf we.1 we.2)) e):=by
 induction k generalizing nY lW t7 t30 t31 with
 |zero=>rfl
 |succ k ih=>
  rw[Gb]
  simp only[iK,mm,ih,aF]
def yj:ah:=pu.add 178 [.str,(.int .i64)] (dw .str (.int .i64) Q0 (fun _ r K=>K [tS r.1,tI r.2.1,tI r.2.2] none))
theorem YI:aO Tryz.prog yj:=dD vi Tryz.f178 (fun R kk x0 x1 K=>oo x0 x1 (fun a0 a1 a2=>K [tS a0,tI a1,tI a2] none) (om R kk kk (rW R kk K))) YH (ek _ _ _ _) Tryz.func178 (by kernel_rfl) rfl (fun _ _ _ _ _ _ h=>h _ _) (fun _ _ _ _ _=>by kernel_rfl) fun R kk e x0 x1 K=>by
 simp only[Q0,oo,rX,oq,alB (hF:=e),ajp,ajq,aF,<-e]
def amh:Env:=e0 [aK,.str]
def yk:ah:=yj.add 129 [aK,.str] (dw aK .str sR (fun _ r K=>K [tS r.1,tI r.2.1,tI r.2.2] none))
theorem YJ:aO Tryz.prog yk:=dD amh Tryz.f129 (fun R kk x0 x1 K=>TL x0 x1 (fun a0 a1 a2=>K [tS a0,tI a1,tI a2] none)) YI (ek _ _ _ _) Tryz.func129 (by kernel_rfl) rfl (fun _ _ _ _ _ _ h=>h _ _) (fun _ _ _ _ _=>by kernel_rfl) fun R kk e x0 x1 K=>by
 simp only[sR,TL,aF]
def W4:Env:=e0 [(.int .i64)]
def yl:ah:=yk.add 169 [(.int .i64)] (cK (.int .i64) Q9 (fun _ r K=>K [tB r] none))
theorem YK:aO Tryz.prog yl:=cM W4 Tryz.f169 (fun R kk x0 K=>mD x0 (fun a0=>K [tB a0] none)) YJ (ek _ _ _ _) Tryz.func169 (by kernel_rfl) rfl (fun _ _ _ _ _ _ h=>h _ _) (fun _ _ _ _=>by kernel_rfl) fun R kk e x0 K=>by
 simp only[Q9,mD,aF]
def alN:Env:=e0 [(.int .u8)]
def pw:ah:=yl.add 214 [(.int .u8)] (cK (.int .u8) sw (fun _ r K=>K [tI r.1,tB r.2] none))
theorem YL:aO Tryz.prog pw:=cM alN Tryz.f214 (fun R kk x0 K=>zxc x0 (fun a0 a1=>K [tI a0,tB a1] none)) YK (ek _ _ _ _) Tryz.func214 (by kernel_rfl) rfl (fun _ _ _ _ _ _ h=>h _ _) (fun _ _ _ _=>by kernel_rfl) fun R kk e x0 K=>by
 simp only[sw,zxc,aF]
def UX:Env:=b8.env (fun i=>bif Nat.beq i 4 then [0,5,6,7] else []) (fun i=>bif Nat.beq i 4 then [0,2,3,4,5] else []) [] [.str]
def SA(a:ByteArray)(b:(List Int))(c d:Int):Option R:=aB (ev UX (pw R) kk (sub [1,1,1,0,1,0,0] (cd Tryz.f184))) [0,5,6,7] [0,2,3,4,5] k ⟨[tS a]::uS 4 ([.ak (.sl 5 (.int .u8)) b [[]]]::[tI c]::[tI d]::uS 44 []),nS 53 []⟩ J
def zeo(a b:ByteArray)(c:Int)(d:Bool)(e:(List Int)):State:=⟨[tS a]::uS 1 ([tS b]::[tI c]::[tB d]::[.ak (.sl 5 (.int .u8)) e [[]]]::uS 46 []),nS 53 []⟩
def zep(a:ByteArray)(b:(List Int)):State:=⟨[tS a]::uS 4 ([.ak (.sl 5 (.int .u8)) b [[]]]::uS 46 []),nS 53 []⟩
def zxd:KX R:=(zi 0 (aU UX (pw R) kk (sub [1,1,1,1] (cd Tryz.f184)) (aT UX Tryz.f184.results.toList none K)))
theorem ajM(a:ByteArray)(b:(List Int))(c d:Int):SA R kk (k+1) J a b c d=
 OP a b c d (fun a0 a1 a2 a3 a4=>J .ret (zeo a0 a1 a2 a3 a4)) (SA R kk k J) (fun a0 a1=>J (.exit 0) (zep a0 a1)):=by kernel_rfl
theorem adl(a b:ByteArray)(c:Int)(d:Bool)(e:(List Int)):zxd R kk K .ret (zeo a b c d e)=
 zxe a b c d e (fun a0 a1 a2=>K [tS a0,tI a1,tB a2] none):=by kernel_rfl
theorem adn(a:ByteArray)(b:(List Int)):zxd R kk K (.exit 0) (zep a b)=
 SC a b (fun a0 a1 a2=>K [tS a0,tI a1,tB a2] none):=by kernel_rfl
theorem agF{kk:Nat}(hF:kk=ai)(iF:ByteArray)(t5:(List Int))(t6 t7:Int):SA R kk k J iF t5 t6 t7=(Ee k iF t5 t6 t7).bind fun e=>(Sum.elim (fun(we:(ByteArray×ByteArray×Int×Bool×(List Int)))=>J .ret (zeo we.1 we.2.1 we.2.2.1 we.2.2.2.1 we.2.2.2.2)) (fun(we:(ByteArray×(List Int)))=>J (.exit 0) (zep we.1 we.2)) e):=by
 induction k generalizing iF t5 t6 t7 with
 |zero=>rfl
 |succ k ih=>
  rw[ajM]
  simp only[Ee,OP,ih,aF]
def ym:ah:=pw.add 184 [.str] (cK .str gA (fun _ r K=>K [tS r.1,tI r.2.1,tB r.2.2] none))
theorem YM:aO Tryz.prog ym:=cM UX Tryz.f184 (fun R kk x0 K=>SB x0 (SA R kk kk (zxd R kk K))) YL (ek _ _ _ _) Tryz.func184 (by kernel_rfl) rfl (fun _ _ _ _ _ _ h=>h _ _) (fun _ _ _ _=>by kernel_rfl) fun R kk e x0 K=>by
 simp only[gA,SB,zxe,SC,agF (hF:=e),adl,adn,aF,<-e]
def Gc:Env:=b8.env (fun _=>[]) (fun _=>[]) [6] [(.int .i64),.str,(.int .i64)]
def pA:ah:=ym.add 179 [(.int .i64),.str,(.int .i64)] (kb (.int .i64) .str (.int .i64) EM (fun _ r K=>K [.ak (.arr 8 (.int .u8)) r.1 [],tI r.2.1,tI r.2.2] none))
theorem YN:aO Tryz.prog pA:=ko Gc Tryz.f179 (fun R kk x0 x1 x2 K=>UF x0 x1 x2 (fun a0 a1 a2=>K [.ak (.arr 8 (.int .u8)) a0 [],tI a1,tI a2] none)) YM (ek _ _ _ _) Tryz.func179 (by kernel_rfl) rfl (fun _ _ _ _ _ _ h=>h _ _) (fun _ _ _ _ _ _=>by kernel_rfl) fun R kk e x0 x1 x2 K=>by
 simp only[EM,UF,aF]
def vB:Env:=b8.env (fun i=>bif Nat.beq i 3 then [3,6,7] else []) (fun i=>bif Nat.beq i 3 then [3] else []) [] [(.arr 8 (.int .u8))]
def oZ(a:Int)(b:(List Int))(c:Int):Option R:=aB (ev vB (pA R) kk (sub [1,1,0,1,0,0] (cd Tryz.f180))) [3,6,7] [3] k ⟨uS 3 ([.ak (.int .u64) a []]::uS 2 ([.ak (.arr 8 (.int .u8)) b []]::[tI c]::uS 9 [])),nS 18 []⟩ J
def zzt(a:Int):State:=⟨uS 3 ([.ak (.int .u64) a []]::uS 13 []),nS 18 []⟩
def ya:KX R:=(zi 0 (aU vB (pA R) kk (sub [1,1,1] (cd Tryz.f180)) (aT vB Tryz.f180.results.toList none K)))
theorem G9(a:Int)(b:(List Int))(c:Int):oZ R kk (k+1) J a b c=
 mA a b c (oZ R kk k J) (fun a0=>J (.exit 0) (zzt a0)):=by kernel_rfl
theorem akC(a:Int):ya R kk K (.exit 0) (zzt a)=
 sZ a (fun a0=>K [.ak (.int .u64) a0 []] none):=by kernel_rfl
theorem amI{kk:Nat}(hF:kk=ai)(t3:Int)(t6:(List Int))(t7:Int):oZ R kk k J t3 t6 t7=(jG k t3 t6 t7).bind fun e=>J (.exit 0) (zzt e):=by
 induction k generalizing t3 t6 t7 with
 |zero=>rfl
 |succ k ih=>
  rw[G9]
  simp only[jG,mA,ih,aF]
def yn:ah:=pA.add 180 [(.arr 8 (.int .u8))] (cK (.arr 8 (.int .u8)) Q7 (fun _ r K=>K [.ak (.int .u64) r []] none))
theorem YO:aO Tryz.prog yn:=cM vB Tryz.f180 (fun R kk x0 K=>pa x0 (oZ R kk kk (ya R kk K))) YN (ek _ _ _ _) Tryz.func180 (by kernel_rfl) rfl (fun _ _ _ _ _ _ h=>h _ _) (fun _ _ _ _=>by kernel_rfl) fun R kk e x0 K=>by
 simp only[Q7,pa,sZ,amI (hF:=e),akC,aF,<-e]
def Gv:Env:=b8.env (fun _=>[]) (fun _=>[]) [4] [(.int .u64),(.int .u64)]
def yp:ah:=yn.add 181 [(.int .u64),(.int .u64)] (dw (.int .u64) (.int .u64) P3 (fun _ r K=>K [.ak (.pair (.int .u64) (.pair (.int .u64) .unit)) r []] none))
theorem YQ:aO Tryz.prog yp:=dD Gv Tryz.f181 (fun R kk x0 x1 K=>CQ x0 x1 (fun a0=>K [.ak (.pair (.int .u64) (.pair (.int .u64) .unit)) a0 []] none)) YO (ek _ _ _ _) Tryz.func181 (by kernel_rfl) rfl (fun _ _ _ _ _ _ h=>h _ _) (fun _ _ _ _ _=>by kernel_rfl) fun R kk e x0 x1 K=>by
 simp only[P3,CQ,aF]
def WY:Env:=b8.env (fun _=>[]) (fun _=>[]) [6] [(.int .i64),.str,(.int .i64)]
def yq:ah:=yp.add 130 [(.int .i64),.str,(.int .i64)] (kb (.int .i64) .str (.int .i64) Q5 (fun _ r K=>K [.ak (.pair (.int .u64) (.pair (.int .u64) .unit)) r.1 [],tI r.2.1,tI r.2.2] none))
theorem YR:aO Tryz.prog yq:=ko WY Tryz.f130 (fun R kk x0 x1 x2 K=>oR x0 x1 x2 (fun a0 a1 a2=>K [.ak (.pair (.int .u64) (.pair (.int .u64) .unit)) a0 [],tI a1,tI a2] none)) YQ (ek _ _ _ _) Tryz.func130 (by kernel_rfl) rfl (fun _ _ _ _ _ _ h=>h _ _) (fun _ _ _ _ _ _=>by kernel_rfl) fun R kk e x0 x1 x2 K=>by
 simp only[Q5,oR,aF]
def alQ:Env:=e0 [(.int .u64)]
def yr:ah:=yq.add 212 [(.int .u64)] (cK (.int .u64) sA (fun _ r K=>K [tI r] none))
theorem YS:aO Tryz.prog yr:=cM alQ Tryz.f212 (fun R kk x0 K=>zxg x0 (fun a0=>K [tI a0] none)) YR (ek _ _ _ _) Tryz.func212 (by kernel_rfl) rfl (fun _ _ _ _ _ _ h=>h _ _) (fun _ _ _ _=>by kernel_rfl) fun R kk e x0 K=>by
 simp only[sA,zxg,aF]
def alP:Env:=e0 [(.int .u64)]
def yt:ah:=yr.add 182 [(.int .u64)] (cK (.int .u64) mu (fun _ r K=>K [tI r] none))
theorem YT:aO Tryz.prog yt:=cM alP Tryz.f182 (fun R kk x0 K=>SF x0 (fun a0=>K [tI a0] none)) YS (ek _ _ _ _) Tryz.func182 (by kernel_rfl) rfl (fun _ _ _ _ _ _ h=>h _ _) (fun _ _ _ _=>by kernel_rfl) fun R kk e x0 K=>by
 simp only[mu,SF,aF]
def GF:Env:=e0 [(.pair (.int .u64) (.pair (.int .u64) .unit)),(.int .i64)]
def yu:ah:=yt.add 131 [(.pair (.int .u64) (.pair (.int .u64) .unit)),(.int .i64)] (dw (.pair (.int .u64) (.pair (.int .u64) .unit)) (.int .i64) EN (fun _ r K=>K [tI r] none))
theorem YU:aO Tryz.prog yu:=dD GF Tryz.f131 (fun R kk x0 x1 K=>VH x0 x1 (fun a0=>K [tI a0] none)) YT (ek _ _ _ _) Tryz.func131 (by kernel_rfl) rfl (fun _ _ _ _ _ _ h=>h _ _) (fun _ _ _ _ _=>by kernel_rfl) fun R kk e x0 x1 K=>by
 simp only[EN,VH,aF]
def Gh:Env:=e0 [(.int .i64)]
def yw:ah:=yu.add 174 [(.int .i64)] (cK (.int .i64) A7 (fun _ r K=>K [tB r] none))
theorem YV:aO Tryz.prog yw:=cM Gh Tryz.f174 (fun R kk x0 K=>Ps x0 (fun a0=>K [tB a0] none)) YU (ek _ _ _ _) Tryz.func174 (by kernel_rfl) rfl (fun _ _ _ _ _ _ h=>h _ _) (fun _ _ _ _=>by kernel_rfl) fun R kk e x0 K=>by
 simp only[A7,Ps,aF]
def alZ:Env:=e0 [(.int .i64),(.int .i64)]
def pB:ah:=yw.add 210 [(.int .i64),(.int .i64)] (dw (.int .i64) (.int .i64) qw (fun _ r K=>K [tB r] none))
theorem YW:aO Tryz.prog pB:=dD alZ Tryz.f210 (fun R kk x0 x1 K=>OV x0 x1 (fun a0=>K [tB a0] none)) YV (ek _ _ _ _) Tryz.func210 (by kernel_rfl) rfl (fun _ _ _ _ _ _ h=>h _ _) (fun _ _ _ _ _=>by kernel_rfl) fun R kk e x0 x1 K=>by
 simp only[qw,OV,aF]
def oF:Env:=b8.env (fun i=>bif Nat.beq i 5 then [4,20] else []) (fun i=>bif Nat.beq i 5 then [4] else []) [] [.str]
def Vv(a:Int)(b:mF):Option R:=aB (ev oF (pB R) kk (sub [1,1,1,0,1,0,0] (cd Tryz.f213))) [4,20] [4] k ⟨uS 4 ([tI a]::uS 15 ([.ptr 21 (.aG .iter .unit .unit) []]::uS 10 [])),nS 21 ((some ⟨(.aG .iter .unit .unit),b,[]⟩)::nS 10 [])⟩ J
def zol(a:Int):State:=⟨uS 4 ([tI a]::uS 26 []),nS 32 []⟩
def Nt:KX R:=(zi 0 (aU oF (pB R) kk (sub [1,1,1,1] (cd Tryz.f213)) (aT oF Tryz.f213.results.toList none K)))
theorem ams(a:Int)(b:mF):Vv R kk (k+1) J a b=
 Vx a b (Vv R kk k J) (fun a0=>J (.exit 0) (zol a0)):=by kernel_rfl
theorem ahk(a:Int):Nt R kk K (.exit 0) (zol a)=
 z143 a (fun a0 a1=>K [tI a0,tB a1] none):=by kernel_rfl
theorem akm{kk:Nat}(hF:kk=ai)(t4:Int)(Bp:mF):Vv R kk k J t4 Bp=(FT k t4 Bp).bind fun e=>J (.exit 0) (zol e):=by
 induction k generalizing t4 Bp with
 |zero=>rfl
 |succ k ih=>
  rw[ams]
  simp only[FT,Vx,ih,aF]
def yx:ah:=pB.add 213 [.str] (cK .str x4 (fun _ r K=>K [tI r.1,tB r.2] none))
theorem YX:aO Tryz.prog yx:=cM oF Tryz.f213 (fun R kk x0 K=>Vw x0 (fun a0 a1=>K [tI a0,tB a1] none) (Vv R kk kk (Nt R kk K))) YW (ek _ _ _ _) Tryz.func213 (by kernel_rfl) rfl (fun _ _ _ _ _ _ h=>h _ _) (fun _ _ _ _=>by kernel_rfl) fun R kk e x0 K=>by
 simp only[x4,Vw,z143,akm (hF:=e),ahk,aF,<-e]
def alX:Env:=e0 [(.int .i64),(.int .i64),.str,(.int .i64)]
def yy:ah:=yx.add 183 [(.int .i64),(.int .i64),.str,(.int .i64)] (QA (.int .i64) (.int .i64) .str (.int .i64) sF (fun _ r K=>K [tI r.1,tI r.2.1,tI r.2.2] none))
theorem YY:aO Tryz.prog yy:=Z2 alX Tryz.f183 (fun R kk x0 x1 x2 x3 K=>SU x0 x1 x2 x3 (fun a0 a1 a2=>K [tI a0,tI a1,tI a2] none)) YX (ek _ _ _ _) Tryz.func183 (by kernel_rfl) rfl (fun _ _ _ _ _ _ h=>h _ _) (fun _ _ _ _ _ _ _=>by kernel_rfl) fun R kk e x0 x1 x2 x3 K=>by
 simp only[sF,SU,aF]
def Gg:Env:=e0 [(.int .i64),(.int .i64)]
def yz:ah:=yy.add 176 [(.int .i64),(.int .i64)] (dw (.int .i64) (.int .i64) kI (fun _ r K=>K [tI r] none))
theorem YZ:aO Tryz.prog yz:=dD Gg Tryz.f176 (fun R kk x0 x1 K=>UR x0 x1 (fun a0=>K [tI a0] none)) YY (ek _ _ _ _) Tryz.func176 (by kernel_rfl) rfl (fun _ _ _ _ _ _ h=>h _ _) (fun _ _ _ _ _=>by kernel_rfl) fun R kk e x0 x1 K=>by
 simp only[kI,UR,aF]
def Ge:Env:=e0 [(.int .i64),cH,.str,(.int .i64)]
def pC:ah:=yz.add 132 [(.int .i64),cH,.str,(.int .i64)] (QA (.int .i64) cH .str (.int .i64) Gd (fun _ r K=>K [tS r.1,tI r.2.1,tI r.2.2] none))
theorem Y1:aO Tryz.prog pC:=Z2 Ge Tryz.f132 (fun R kk x0 x1 x2 x3 K=>UK x0 x1 x2 x3 (fun a0 a1 a2=>K [tS a0,tI a1,tI a2] none)) YZ (ek _ _ _ _) Tryz.func132 (by kernel_rfl) rfl (fun _ _ _ _ _ _ h=>h _ _) (fun _ _ _ _ _ _ _=>by kernel_rfl) fun R kk e x0 x1 x2 x3 K=>by
 simp only[Gd,UK,aF]
def Vh:Env:=b8.env (fun i=>bif Nat.beq i 13 then [1,2,4,5,6,10,12,13] else []) (fun i=>bif Nat.beq i 13 then [1,4,5,6,10] else []) [4,5] [aK,.str]
def TJ(a:ByteArray)(b c:Int)(d:af)(e:aw)(f:aQ)(g:aw)(h:aQ):Option R:=aB (ev Vh (pC R) kk (sub [1,1,1,1,1,1,1,1,0,1,0,0] (cd Tryz.f90))) [1,2,4,5,6,10,12,13] [1,4,5,6,10] k ⟨uS 1 ([tS a]::[.ptr 3 aK []]::uS 1 ([.ptr 5 y8 []]::[.ptr 6 (.pair (.int .i64) (.pair (.int .i64) .unit)) []]::[.ptr 7 y8 []]::uS 3 ([tI b]::uS 1 ([.ptr 13 (.pair (.int .u64) (.pair (.int .u64) .unit)) []]::[tI c]::uS 93 [])))),nS 3 ((some ⟨aK,d,[]⟩)::nS 1 ((some ⟨y8,e,[[1]]⟩)::(some ⟨(.pair (.int .i64) (.pair (.int .i64) .unit)),f,[]⟩)::(some ⟨y8,g,[[1]]⟩)::nS 5 ((some ⟨(.pair (.int .u64) (.pair (.int .u64) .unit)),h,[]⟩)::nS 94 [])))⟩ J
def zfm(a:ByteArray)(b:Int)(c:aw)(d:aQ)(e:aw):State:=⟨uS 1 ([tS a]::uS 2 ([.ptr 5 y8 []]::[.ptr 6 (.pair (.int .i64) (.pair (.int .i64) .unit)) []]::[.ptr 7 y8 []]::uS 3 ([tI b]::uS 96 []))),nS 5 ((some ⟨y8,c,[[1]]⟩)::(some ⟨(.pair (.int .i64) (.pair (.int .i64) .unit)),d,[]⟩)::(some ⟨y8,e,[]⟩)::nS 100 [])⟩
def zfn(a:ByteArray)(b:Int)(c:aw)(d:aQ)(e:aw):State:=⟨uS 1 ([tS a]::uS 2 ([.ptr 5 y8 []]::[.ptr 6 (.pair (.int .i64) (.pair (.int .i64) .unit)) []]::[.ptr 7 y8 []]::uS 3 ([tI b]::uS 96 []))),nS 5 ((some ⟨y8,c,[[1]]⟩)::(some ⟨(.pair (.int .i64) (.pair (.int .i64) .unit)),d,[]⟩)::(some ⟨y8,e,[[1]]⟩)::nS 100 [])⟩
def zyx:KX R:=(zi 0 (aU Vh (pC R) kk (sub [1,1,1,1,1,1,1,1,1] (cd Tryz.f90)) (aT Vh Tryz.f90.results.toList none K)))
theorem aj7(a:ByteArray)(b c:Int)(d:af)(e:aw)(f:aQ)(g:aw)(h:aQ):TJ R kk (k+1) J a b c d e f g h=
 O7 a b c d e f g h (fun a0 a1 a2 a3 a4=>J .ret (zfm a0 a1 a2 a3 a4)) (TJ R kk k J) (fun a0 a1 a2 a3 a4=>J (.exit 0) (zfn a0 a1 a2 a3 a4)):=by kernel_rfl
theorem adT(a:ByteArray)(b:Int)(c:aw)(d:aQ)(e:aw):zyx R kk K .ret (zfm a b c d e)=
 zyy a b c d e (fun a0 a1=>K [.ak y8 a0 [[1]],.ak (.pair (.int .i64) (.pair (.int .i64) .unit)) a1 []] none):=by kernel_rfl
theorem adU(a:ByteArray)(b:Int)(c:aw)(d:aQ)(e:aw):zyx R kk K (.exit 0) (zfn a b c d e)=
 zyz a b c d e (fun a0 a1=>K [.ak y8 a0 [[1]],.ak (.pair (.int .i64) (.pair (.int .i64) .unit)) a1 []] none):=by kernel_rfl
theorem ag0{kk:Nat}(hF:kk=ai)(s8:ByteArray)(t10 t13:Int)(dy:af)(cN:aw)(dS:aQ)(jM:aw)(Bk:aQ):TJ R kk k J s8 t10 t13 dy cN dS jM Bk=(Ej k s8 t10 t13 dy cN dS jM Bk).bind fun e=>(Sum.elim (fun(we:qG)=>J .ret (zfm we.1 we.2.1 we.2.2.1 we.2.2.2.1 we.2.2.2.2)) (fun(we:qG)=>J (.exit 0) (zfn we.1 we.2.1 we.2.2.1 we.2.2.2.1 we.2.2.2.2)) e):=by
 induction k generalizing s8 t10 t13 dy cN dS jM Bk with
 |zero=>rfl
 |succ k ih=>
  rw[aj7]
  simp only[Ej,O7,ih,aF]
def yA:ah:=pC.add 90 [aK,.str] (dw aK .str qz (fun _ r K=>K [.ak y8 r.1 [[1]],.ak (.pair (.int .i64) (.pair (.int .i64) .unit)) r.2 []] none))
theorem Y2:aO Tryz.prog yA:=dD Vh Tryz.f90 (fun R kk x0 x1 K=>TK x0 x1 (fun a0 a1=>K [.ak y8 a0 [[1]],.ak (.pair (.int .i64) (.pair (.int .i64) .unit)) a1 []] none) (TJ R kk kk (zyx R kk K))) Y1 (ek _ _ _ _) Tryz.func90 (by kernel_rfl) rfl (fun _ _ _ _ _ _ h=>h _ _) (fun _ _ _ _ _=>by kernel_rfl) fun R kk e x0 x1 K=>by
 simp only[qz,TK,zyy,zyz,ag0 (hF:=e),adT,adU,aF,<-e]
def alU:Env:=e0 [.str]
def pD:ah:=yA.add 117 [.str] (cK .str sE (fun _ r K=>K [tS r.1,tB r.2] none))
theorem Y3:aO Tryz.prog pD:=cM alU Tryz.f117 (fun R kk x0 K=>SQ x0 (fun a0 a1=>K [tS a0,tB a1] none)) Y2 (ek _ _ _ _) Tryz.func117 (by kernel_rfl) rfl (fun _ _ _ _ _ _ h=>h _ _) (fun _ _ _ _=>by kernel_rfl) fun R kk e x0 K=>by
 simp only[sE,SQ,aF]
def U2:Env:=b8.env (fun i=>bif Nat.beq i 2 then [1,9,10,11] else []) (fun i=>bif Nat.beq i 2 then [4,5] else []) [] [y8,(.int .i64)]
def SI(a:Int)(b:ap)(c d:Int):Option R:=aB (ev U2 (pD R) kk (sub [1,0,1,0,0] (cd Tryz.f118))) [1,9,10,11] [4,5] k ⟨uS 1 ([tI a]::uS 7 ([.ak (.sl 208 (.pair (.int .i64) (.pair .str .unit))) b []]::[tI c]::[tI d]::uS 10 [])),nS 23 []⟩ J
def zeu(a:ByteArray)(b:Bool):State:=⟨uS 4 ([tS a]::[tB b]::uS 16 []),nS 23 []⟩
def zev:State:=⟨uS 22 [],nS 23 []⟩
def zxl:KX R:=(zi 0 (aU U2 (pD R) kk (sub [1,1] (cd Tryz.f118)) (aT U2 Tryz.f118.results.toList none K)))
theorem ajQ(a:Int)(b:ap)(c d:Int):SI R kk (k+1) J a b c d=
 zxm a b c d (fun a0 a1=>J .ret (zeu a0 a1)) (SI R kk k J) (J (.exit 0) (zev)):=by kernel_rfl
theorem adr(a:ByteArray)(b:Bool):zxl R kk K .ret (zeu a b)=
 zxn a b (fun a0 a1=>K [tS a0,tB a1] none):=by kernel_rfl
theorem ads:zxl R kk K (.exit 0) (zev)=
 zxo (fun a0 a1=>K [tS a0,tB a1] none):=by kernel_rfl
theorem agK{kk:Nat}(hF:kk=ai)(fe:Int)(t9:ap)(t10 t11:Int):SI R kk k J fe t9 t10 t11=(OS k fe t9 t10 t11).bind fun e=>(Sum.elim (fun(we:js)=>J .ret (zeu we.1 we.2)) (fun(we:Unit)=>J (.exit 0) (zev)) e):=by
 induction k generalizing fe t9 t10 t11 with
 |zero=>rfl
 |succ k ih=>
  rw[ajQ]
  simp only[OS,zxm,ih,aF]
def pE:ah:=pD.add 118 [y8,(.int .i64)] (dw y8 (.int .i64) nK (fun _ r K=>K [tS r.1,tB r.2] none))
theorem Y4:aO Tryz.prog pE:=dD U2 Tryz.f118 (fun R kk x0 x1 K=>SJ x0 x1 (SI R kk kk (zxl R kk K))) Y3 (ek _ _ _ _) Tryz.func118 (by kernel_rfl) rfl (fun _ _ _ _ _ _ h=>h _ _) (fun _ _ _ _ _=>by kernel_rfl) fun R kk e x0 x1 K=>by
 simp only[nK,SJ,zxn,zxo,agK (hF:=e),adr,ads,aF,<-e]
def U5:Env:=b8.env (fun i=>bif Nat.beq i 3 then [1,4,5,12,13,14] else []) (fun i=>bif Nat.beq i 3 then [4,5] else []) [4] [y8,(.int .i64)]
def SN(a:Int)(b:ap)(c d:Int)(e f:aw):Option R:=aB (ev U5 (pE R) kk (sub [1,1,0,1,0,0] (cd Tryz.f164))) [1,4,5,12,13,14] [4,5] k ⟨uS 1 ([tI a]::uS 2 ([.ptr 5 y8 []]::[.ptr 6 y8 []]::uS 6 ([.ak (.sl 208 (.pair (.int .i64) (.pair .str .unit))) b []]::[tI c]::[tI d]::uS 15 []))),nS 5 ((some ⟨y8,e,[[1]]⟩)::(some ⟨y8,f,[[1]]⟩)::nS 24 [])⟩ J
def zex(a b:aw):State:=⟨uS 4 ([.ptr 5 y8 []]::[.ptr 6 y8 []]::uS 24 []),nS 5 ((some ⟨y8,a,[[1]]⟩)::(some ⟨y8,b,[[1]]⟩)::nS 24 [])⟩
def ME:KX R:=(zi 0 (aU U5 (pE R) kk (sub [1,1,1] (cd Tryz.f164)) (aT U5 Tryz.f164.results.toList none K)))
theorem ajS(a:Int)(b:ap)(c d:Int)(e f:aw):SN R kk (k+1) J a b c d e f=
 zxs a b c d e f (SN R kk k J) (fun a0 a1=>J (.exit 0) (zex a0 a1)):=by kernel_rfl
theorem adu(a b:aw):ME R kk K (.exit 0) (zex a b)=
 zxt a b (fun a0=>K [.ak y8 a0 [[1]]] none):=by kernel_rfl
theorem agM{kk:Nat}(hF:kk=ai)(fe:Int)(t12:ap)(t13 t14:Int)(cN dS:aw):SN R kk k J fe t12 t13 t14 cN dS=(OU k fe t12 t13 t14 cN dS).bind fun e=>J (.exit 0) (zex e.1 e.2):=by
 induction k generalizing fe t12 t13 t14 cN dS with
 |zero=>rfl
 |succ k ih=>
  rw[ajS]
  simp only[OU,zxs,ih,aF]
def yB:ah:=pE.add 164 [y8,(.int .i64)] (dw y8 (.int .i64) sD (fun _ r K=>K [.ak y8 r [[1]]] none))
theorem Y5:aO Tryz.prog yB:=dD U5 Tryz.f164 (fun R kk x0 x1 K=>SO x0 x1 (SN R kk kk (ME R kk K))) Y4 (ek _ _ _ _) Tryz.func164 (by kernel_rfl) rfl (fun _ _ _ _ _ _ h=>h _ _) (fun _ _ _ _ _=>by kernel_rfl) fun R kk e x0 x1 K=>by
 simp only[sD,SO,zxt,agM (hF:=e),adu,aF,<-e]
def alS:Env:=e0 [(.pair (.int .i64) (.pair .str .unit)),.unit]
def pF:ah:=yB.add 166 [(.pair (.int .i64) (.pair .str .unit)),.unit] (pz (.pair (.int .i64) (.pair .str .unit)) (.int .i64) (.int .i64) [] sC (fun _ r K=>K [tB r.1] (some ⟨(.int .i64),r.2,[]⟩)))
theorem Y6:aO Tryz.prog pF:=sz alS Tryz.f166 (fun R kk x0 x1 K=>zxr x0 x1 (fun a0 a1=>K [tB a0] (some ⟨(.int .i64),a1,[]⟩))) Y5 (ek _ _ _ _) Tryz.func166 (by kernel_rfl) rfl (fun _ _ _ _ _ _ h=>h _ _) (fun _ _ _ _ _=>by kernel_rfl) fun R kk e x0 x1 K=>by
 simp only[sC,zxr,aF]
def Vf:Env:=b8.env (fun i=>bif Nat.beq i 2 then [0,1,7,8] else []) (fun i=>bif Nat.beq i 2 then [4] else []) [] [(.sl 208 (.pair (.int .i64) (.pair .str .unit))),.unit]
def TB(a:ap)(b c d:Int):Option R:=aB (ev Vf (pF R) kk (sub [1,0,1,0,0] (cd Tryz.f165))) [0,1,7,8] [4] k ⟨[.ak (.sl 208 (.pair (.int .i64) (.pair .str .unit))) a []]::[.ptr 0 (.aG (.rF 166) (.int .i64) .unit) []]::uS 5 ([tI b]::[tI c]::uS 10 []),(some ⟨(.int .i64),d,[]⟩)::nS 19 []⟩ J
def zfi(a b:Int):State:=⟨uS 4 ([tI a]::uS 14 []),(some ⟨(.int .i64),b,[]⟩)::nS 19 []⟩
def zfj(a:Int):State:=⟨uS 19 [],(some ⟨(.int .i64),a,[]⟩)::nS 19 []⟩
def zyp(a:Int):KX R:=(zi 0 (aU Vf (pF R) kk (sub [1,1] (cd Tryz.f165)) (aT Vf Tryz.f165.results.toList (some ⟨(.int .i64),a,[]⟩) K)))
theorem aj5(a:ap)(b c d:Int):TB R kk (k+1) J a b c d=
 zyq a b c d (fun a0 a1=>J .ret (zfi a0 a1)) (TB R kk k J) (fun a0=>J (.exit 0) (zfj a0)):=by kernel_rfl
theorem adP(a b c:Int):zyp R kk K a .ret (zfi b c)=
 zyr b c (fun a0 a1=>K [tI a0] (some ⟨(.int .i64),a1,[]⟩)):=by kernel_rfl
theorem adQ(a b:Int):zyp R kk K a (.exit 0) (zfj b)=
 zys b (fun a0 a1=>K [tI a0] (some ⟨(.int .i64),a1,[]⟩)):=by kernel_rfl
theorem agY{kk:Nat}(hF:kk=ai)(lH:ap)(t7 t8 recv:Int):TB R kk k J lH t7 t8 recv=(O5 k lH t7 t8 recv).bind fun e=>(Sum.elim (fun(we:(Int×Int))=>J .ret (zfi we.1 we.2)) (fun(we:Int)=>J (.exit 0) (zfj we)) e):=by
 induction k generalizing lH t7 t8 recv with
 |zero=>rfl
 |succ k ih=>
  rw[aj5]
  simp only[O5,zyq,ih,aF]
def yC:ah:=pF.add 165 [(.sl 208 (.pair (.int .i64) (.pair .str .unit))),.unit] (pz (.sl 208 (.pair (.int .i64) (.pair .str .unit))) (.aG (.rF 166) (.int .i64) .unit) (.int .i64) [] sQ (fun _ r K=>K [tI r.1] (some ⟨(.int .i64),r.2,[]⟩)))
theorem Y7:aO Tryz.prog yC:=sz Vf Tryz.f165 (fun R kk x0 x1 K=>TC x0 x1 (TB R kk kk (zyp R kk K x1))) Y6 (ek _ _ _ _) Tryz.func165 (by kernel_rfl) rfl (fun _ _ _ _ _ _ h=>h _ _) (fun _ _ _ _ _=>by kernel_rfl) fun R kk e x0 x1 K=>by
 simp only[sQ,TC,zyr,zys,agY (hF:=e),adP,adQ,aF,<-e]
def alR:Env:={b8.env (fun _=>[]) (fun _=>[]) [6] [y8,(.int .i64),.str] with fz:=fun i=>bif Nat.beq i 9 then some (9,155) else none}
def jI:ah:=yC.add 119 [y8,(.int .i64),.str] (kb y8 (.int .i64) .str gT (fun _ r K=>K [.ak y8 r []] none))
theorem Y8:aO Tryz.prog jI:=ko alR Tryz.f119 (fun R kk x0 x1 x2 K=>SM x0 x1 x2 (fun a0=>K [.ak y8 a0 []] none)) Y7 ((ek _ _ _ _).fz _) Tryz.func119 (by kernel_rfl) rfl (fun _ _ _ _ _ _ h=>h _ _) (fun _ _ _ _ _ _=>by kernel_rfl) fun R kk e x0 x1 x2 K=>by
 simp only[gT,SM,aF]
def Ey:Env:=b8.env (fun i=>bif Nat.beq i 2 then [2,10,11,12] else bif Nat.beq i 5 then [2,6,10,11,12,17,18,19] else []) (fun i=>bif Nat.beq i 2 then [4] else bif Nat.beq i 5 then [2,4,10,11,12] else []) [] [cr,(.int .i64)]
def S8(a:(List Int))(b c:Int)(d:au):Option R:=aB (ev Ey (jI R) kk (sub [1,0,1,0,0] (cd Tryz.f120))) [2,10,11,12] [4] k ⟨uS 2 ([.ptr 3 cr []]::uS 7 ([.ak (.sl 39 (.int .i64)) a [[]]]::[tI b]::[tI c]::uS 18 [])),nS 3 ((some ⟨cr,d,[]⟩)::nS 28 [])⟩ J
def zf4:State:=⟨uS 31 [],nS 32 []⟩
def zf5(a:ByteArray):State:=⟨uS 4 ([tS a]::uS 26 []),nS 32 []⟩
def zy2:KX R:=(zi 0 (aU Ey (jI R) kk (sub [1,1] (cd Tryz.f120)) (aT Ey Tryz.f120.results.toList none K)))
def S9(a:Int)(b:(List Int))(c d:Int)(e:ap)(f g:Int)(h:au):Option R:=aB (ev Ey (jI R) kk (sub [1,0,1,0,0,1,1,0,0,1,1,0,0] (cd Tryz.f120))) [2,6,10,11,12,17,18,19] [2,4,10,11,12] k ⟨uS 2 ([.ptr 3 cr []]::uS 3 ([tI a]::uS 3 ([.ak (.sl 39 (.int .i64)) b [[]]]::[tI c]::[tI d]::uS 4 ([.ak (.sl 107 (.pair (.int .i64) (.pair .str .unit))) e []]::[tI f]::[tI g]::uS 11 [])))),nS 3 ((some ⟨cr,h,[]⟩)::nS 28 [])⟩ J
def zf6(a:ByteArray)(b:(List Int))(c d:Int)(e:au):State:=⟨uS 2 ([.ptr 3 cr []]::uS 1 ([tS a]::uS 5 ([.ak (.sl 39 (.int .i64)) b [[]]]::[tI c]::[tI d]::uS 18 []))),nS 3 ((some ⟨cr,e,[]⟩)::nS 28 [])⟩
def zf7(a:(List Int))(b c:Int)(d:au):State:=⟨uS 2 ([.ptr 3 cr []]::uS 7 ([.ak (.sl 39 (.int .i64)) a [[]]]::[tI b]::[tI c]::uS 18 [])),nS 3 ((some ⟨cr,d,[]⟩)::nS 28 [])⟩
def zy3:KX R:=(zi 2 (zi 1 (aU Ey (jI R) kk (sub [1,0,1,0,0,1,1,1] (cd Tryz.f120)) (kX (ev Ey (jI R) kk (sub [1,0,1,0,0] (cd Tryz.f120))) [2,10,11,12] [4] k J))))
theorem ajX(a:(List Int))(b c:Int)(d:au):S8 R kk (k+1) J a b c d=
 O0 a b c d (S9 R kk kk (zy3 R kk k J)) (J (.exit 0) (zf4)):=by kernel_rfl
theorem adB:zy2 R kk K (.exit 0) (zf4)=
 zy4 (fun a0=>K [tS a0] none):=by kernel_rfl
theorem ajY(a:Int)(b:(List Int))(c d:Int)(e:ap)(f g:Int)(h:au):S9 R kk (k+1) J a b c d e f g h=
 zy5 a b c d e f g h (fun a0 a1 a2 a3 a4=>J .ret (zf6 a0 a1 a2 a3 a4)) (S9 R kk k J) (fun a0 a1 a2 a3=>J (.exit 2) (zf7 a0 a1 a2 a3)):=by kernel_rfl
theorem adD(a:ByteArray)(b:(List Int))(c d:Int)(e:au):zy3 R kk k J .ret (zf6 a b c d e)=
 zy6 a b c d e (fun a0=>J .ret (zf5 a0)):=by kernel_rfl
theorem adE(a:(List Int))(b c:Int)(d:au):zy3 R kk k J (.exit 2) (zf7 a b c d)=
 Tb a b c d (S8 R kk k J):=by kernel_rfl
theorem adC(a:ByteArray):zy2 R kk K .ret (zf5 a)=
 zy7 a (fun a0=>K [tS a0] none):=by kernel_rfl
theorem agS{kk:Nat}(hF:kk=ai)(t6:Int)(t10:(List Int))(t11 t12:Int)(t17:ap)(t18 t19:Int)(dy:au):S9 R kk k J t6 t10 t11 t12 t17 t18 t19 dy=(z85 k t6 t10 t11 t12 t17 t18 t19 dy).bind fun e=>(Sum.elim (fun(we:(ByteArray×(List Int)×Int×Int×au))=>J .ret (zf6 we.1 we.2.1 we.2.2.1 we.2.2.2.1 we.2.2.2.2)) (fun(we:((List Int)×Int×Int×au))=>J (.exit 2) (zf7 we.1 we.2.1 we.2.2.1 we.2.2.2)) e):=by
 induction k generalizing t6 t10 t11 t12 t17 t18 t19 dy with
 |zero=>rfl
 |succ k ih=>
  rw[ajY]
  simp only[z85,zy5,ih,aF]
theorem agR{kk:Nat}(hF:kk=ai)(t10:(List Int))(t11 t12:Int)(dy:au):S8 R kk k J t10 t11 t12 dy=(AN k t10 t11 t12 dy).bind fun e=>(Sum.elim (fun(we:Unit)=>J (.exit 0) (zf4)) (fun(we:ByteArray)=>J .ret (zf5 we)) e):=by
 induction k generalizing t10 t11 t12 dy with
 |zero=>rfl
 |succ k ih=>
  rw[ajX]
  simp only[AN,O0,zy6,Tb,ih,agS (hF:=hF),adD,adE,aF,<-hF]
def pG:ah:=jI.add 120 [cr,(.int .i64)] (dw cr (.int .i64) sI (fun _ r K=>K [tS r] none))
theorem Y9:aO Tryz.prog pG:=dD Ey Tryz.f120 (fun R kk x0 x1 K=>Ta x0 x1 (S8 R kk kk (zy2 R kk K))) Y8 (ek _ _ _ _) Tryz.func120 (by kernel_rfl) rfl (fun _ _ _ _ _ _ h=>h _ _) (fun _ _ _ _ _=>by kernel_rfl) fun R kk e x0 x1 K=>by
 simp only[sI,Ta,zy4,zy7,agR (hF:=e),adB,adC,aF,<-e]
def U8:Env:={{b8.env (fun i=>bif Nat.beq i 6 then [3,4,5,6,10,27,28,29] else []) (fun i=>bif Nat.beq i 6 then [3,5,6,10] else []) [6] [cr,y8,(.pair (.int .i64) (.pair (.int .i64) .unit))] with dr:=fun i=>bif Nat.beq i 6 then [11] else []} with ro:=true}
def SZ(a:(List Int))(b c:Int)(d:au)(e:aw)(f:aQ)(g h:aw):Option R:=aB (ev U8 (pG R) kk (sub [1,1,1,1,0,1,0,0] (cd Tryz.f88))) [3,4,5,6,10,27,28,29] [3,5,6,10] k ⟨uS 3 ([.ptr 4 cr []]::[.ptr 5 y8 []]::[.ptr 6 (.pair (.int .i64) (.pair (.int .i64) .unit)) []]::[.ptr 7 y8 []]::uS 3 ([.ptr 11 y8 []]::uS 16 ([.ak (.sl 3 (.int .i64)) a []]::[tI b]::[tI c]::uS 21 []))),nS 4 ((some ⟨cr,d,[]⟩)::(some ⟨y8,e,[]⟩)::(some ⟨(.pair (.int .i64) (.pair (.int .i64) .unit)),f,[]⟩)::(some ⟨y8,g,[[1]]⟩)::nS 3 ((some ⟨y8,h,[]⟩)::nS 40 []))⟩ J
def zez(a:au)(b:aQ)(c d:aw):State:=⟨uS 3 ([.ptr 4 cr []]::uS 1 ([.ptr 6 (.pair (.int .i64) (.pair (.int .i64) .unit)) []]::[.ptr 7 y8 []]::uS 3 ([.ptr 11 y8 []]::uS 40 []))),nS 4 ((some ⟨cr,a,[]⟩)::nS 1 ((some ⟨(.pair (.int .i64) (.pair (.int .i64) .unit)),b,[]⟩)::(some ⟨y8,c,[[1]]⟩)::nS 3 ((some ⟨y8,d,[]⟩)::nS 40 [])))⟩
def MG:KX R:=(zi 0 (aU U8 (pG R) kk (sub [1,1,1,1,1] (cd Tryz.f88)) (aT U8 Tryz.f88.results.toList none K)))
theorem ajU(a:(List Int))(b c:Int)(d:au)(e:aw)(f:aQ)(g h:aw):SZ R kk (k+1) J a b c d e f g h=
 zxx a b c d e f g h (SZ R kk k J) (fun a0 a1 a2 a3=>J (.exit 0) (zez a0 a1 a2 a3)):=by kernel_rfl
theorem adw(a:au)(b:aQ)(c d:aw):MG R kk K (.exit 0) (zez a b c d)=
 S1 a b c d (fun a0 a1=>K [.ak y8 a0 [],tB a1] none):=by kernel_rfl
theorem agO{kk:Nat}(hF:kk=ai)(t27:(List Int))(t28 t29:Int)(c9:au)(cN:aw)(dS:aQ)(jM Bj:aw):SZ R kk k J t27 t28 t29 c9 cN dS jM Bj=(OX k t27 t28 t29 c9 cN dS jM Bj).bind fun e=>J (.exit 0) (zez e.1 e.2.1 e.2.2.1 e.2.2.2):=by
 induction k generalizing t27 t28 t29 c9 cN dS jM Bj with
 |zero=>rfl
 |succ k ih=>
  rw[ajU]
  simp only[OX,zxx,ih,aF]
def pH:ah:=pG.add 88 [cr,y8,(.pair (.int .i64) (.pair (.int .i64) .unit))] (kb cr y8 (.pair (.int .i64) (.pair (.int .i64) .unit)) sG (fun _ r K=>K [.ak y8 r.1 [],tB r.2] none))
theorem Za:aO Tryz.prog pH:=ko U8 Tryz.f88 (fun R kk x0 x1 x2 K=>S0 x0 x1 x2 (fun a0 a1=>K [.ak y8 a0 [],tB a1] none) (SZ R kk kk (MG R kk K))) Y9 (((ek _ _ _ _).dr _).ro _) Tryz.func88 (by kernel_rfl) rfl (fun _ _ _ _ _ _ h=>h _ _) (fun _ _ _ _ _ _=>by kernel_rfl) fun R kk e x0 x1 x2 K=>by
 simp only[sG,S0,S1,agO (hF:=e),adw,aF,<-e]
def U1:Env:=b8.env (fun i=>bif Nat.beq i 9 then [2,4,9,39,40,41] else []) (fun i=>bif Nat.beq i 9 then [4] else []) [4] [aK,y8]
def SG(a:Int)(b:ap)(c d:Int)(e:af)(f:aQ):Option R:=aB (ev U1 (pH R) kk (sub [1,1,1,1,0,1,0,0] (cd Tryz.f121))) [2,4,9,39,40,41] [4] k ⟨uS 2 ([.ptr 3 aK []]::uS 1 ([.ptr 5 (.pair (.int .i64) (.pair (.int .i64) .unit)) []]::uS 4 ([tI a]::uS 29 ([.ak (.sl 208 (.pair (.int .i64) (.pair .str .unit))) b []]::[tI c]::[tI d]::uS 36 [])))),nS 3 ((some ⟨aK,e,[]⟩)::nS 1 ((some ⟨(.pair (.int .i64) (.pair (.int .i64) .unit)),f,[]⟩)::nS 73 []))⟩ J
def zes(a:aQ):State:=⟨uS 4 ([.ptr 5 (.pair (.int .i64) (.pair (.int .i64) .unit)) []]::uS 73 []),nS 5 ((some ⟨(.pair (.int .i64) (.pair (.int .i64) .unit)),a,[]⟩)::nS 73 [])⟩
def zet(a:aQ):State:=⟨uS 4 ([.ptr 5 (.pair (.int .i64) (.pair (.int .i64) .unit)) []]::uS 73 []),nS 5 ((some ⟨(.pair (.int .i64) (.pair (.int .i64) .unit)),a,[]⟩)::nS 73 [])⟩
def zxh:KX R:=(zi 0 (aU U1 (pH R) kk (sub [1,1,1,1,1] (cd Tryz.f121)) (aT U1 Tryz.f121.results.toList none K)))
theorem ajP(a:Int)(b:ap)(c d:Int)(e:af)(f:aQ):SG R kk (k+1) J a b c d e f=
 zxi a b c d e f (fun a0=>J .ret (zes a0)) (SG R kk k J) (fun a0=>J (.exit 0) (zet a0)):=by kernel_rfl
theorem adp(a:aQ):zxh R kk K .ret (zes a)=
 zxj a (fun a0=>K [.ak (.pair (.int .i64) (.pair (.int .i64) .unit)) a0 []] none):=by kernel_rfl
theorem adq(a:aQ):zxh R kk K (.exit 0) (zet a)=
 zxk a (fun a0=>K [.ak (.pair (.int .i64) (.pair (.int .i64) .unit)) a0 []] none):=by kernel_rfl
theorem agJ{kk:Nat}(hF:kk=ai)(t9:Int)(t39:ap)(t40 t41:Int)(dy:af)(cN:aQ):SG R kk k J t9 t39 t40 t41 dy cN=(OR k t9 t39 t40 t41 dy cN).bind fun e=>(Sum.elim (fun(we:aQ)=>J .ret (zes we)) (fun(we:aQ)=>J (.exit 0) (zet we)) e):=by
 induction k generalizing t9 t39 t40 t41 dy cN with
 |zero=>rfl
 |succ k ih=>
  rw[ajP]
  simp only[OR,zxi,ih,aF]
def pI:ah:=pH.add 121 [aK,y8] (dw aK y8 qt (fun _ r K=>K [.ak (.pair (.int .i64) (.pair (.int .i64) .unit)) r []] none))
theorem Zc:aO Tryz.prog pI:=dD U1 Tryz.f121 (fun R kk x0 x1 K=>SH x0 x1 (fun a0=>K [.ak (.pair (.int .i64) (.pair (.int .i64) .unit)) a0 []] none) (SG R kk kk (zxh R kk K))) Za (ek _ _ _ _) Tryz.func121 (by kernel_rfl) rfl (fun _ _ _ _ _ _ h=>h _ _) (fun _ _ _ _ _=>by kernel_rfl) fun R kk e x0 x1 K=>by
 simp only[qt,SH,zxj,zxk,agJ (hF:=e),adp,adq,aF,<-e]
def vm:Env:=b8.env (fun i=>bif Nat.beq i 7 then [0,4,5] else []) (fun i=>bif Nat.beq i 7 then [4] else []) [] [.str]
def ou(a:ByteArray)(b:(List Int))(c:Int):Option R:=aB (ev vm (pI R) kk (sub [1,1,1,1,0,1,0,0] (cd Tryz.f168))) [0,4,5] [4] k ⟨[tS a]::uS 3 ([.ak (.sl 5 (.int .u8)) b [[]]]::[tI c]::uS 40 []),nS 47 []⟩ J
def zyk(a:(List Int)):State:=⟨uS 4 ([.ak (.sl 5 (.int .u8)) a [[]]]::uS 41 []),nS 47 []⟩
def xY:KX R:=(zi 0 (aU vm (pI R) kk (sub [1,1,1,1,1] (cd Tryz.f168)) (aT vm Tryz.f168.results.toList none K)))
theorem Gp(a:ByteArray)(b:(List Int))(c:Int):ou R kk (k+1) J a b c=
 mz a b c (ou R kk k J) (fun a0=>J (.exit 0) (zyk a0)):=by kernel_rfl
theorem aj3(a:(List Int)):xY R kk K (.exit 0) (zyk a)=
 sP a (fun a0 a1=>K [tS a0,tB a1] none):=by kernel_rfl
theorem amc{kk:Nat}(hF:kk=ai)(iF:ByteArray)(t4:(List Int))(t5:Int):ou R kk k J iF t4 t5=(jD k iF t4 t5).bind fun e=>J (.exit 0) (zyk e):=by
 induction k generalizing iF t4 t5 with
 |zero=>rfl
 |succ k ih=>
  rw[Gp]
  simp only[jD,mz,ih,aF]
def yD:ah:=pI.add 168 [.str] (cK .str Q1 (fun _ r K=>K [tS r.1,tB r.2] none))
theorem Zd:aO Tryz.prog yD:=cM vm Tryz.f168 (fun R kk x0 K=>kJ x0 (fun a0 a1=>K [tS a0,tB a1] none) (fun a0 a1 a2=>ou R kk kk (xY R kk K) a0 a1 a2)) Zc (ek _ _ _ _) Tryz.func168 (by kernel_rfl) rfl (fun _ _ _ _ _ _ h=>h _ _) (fun _ _ _ _=>by kernel_rfl) fun R kk e x0 K=>by
 simp only[Q1,abz,sP,amc (hF:=e),aj3,aF,<-e]
def amp:Env:=e0 [(.int .i64),.str]
def yE:ah:=yD.add 124 [(.int .i64),.str] (dw (.int .i64) .str sW (fun _ r K=>K [tS r.1,tB r.2] none))
theorem B7:aO Tryz.prog yE:=dD amp Tryz.f124 (fun R kk x0 x1 K=>T5 x0 x1 (fun a0 a1=>K [tS a0,tB a1] none)) Zd (ek _ _ _ _) Tryz.func124 (by kernel_rfl) rfl (fun _ _ _ _ _ _ h=>h _ _) (fun _ _ _ _ _=>by kernel_rfl) fun R kk e x0 x1 K=>by
 simp only[sW,T5,aF]
def Tryz.iR:Go.Shelf.Ren:=⟨fun|166=>123|240=>167|276=>209|n=>n,fun|70=>196|9=>9|3=>3|75=>200|0=>0|72=>198|37=>99|4=>4|164=>280|80=>210|5=>5|20=>20|n=>n,fun n=>n⟩
theorem Tryz.wY:Go.Proofs.Lays.n166 Go.Proofs.Tryz.prog Tryz.iR:={
 mixed:=by kernel_rfl,
 f166:=Go.Proofs.Tryz.func123.trans (congrArg some (by kernel_rfl)),
 f240:=Go.Proofs.Tryz.func167.trans (congrArg some (by kernel_rfl)),
 f276:=Go.Proofs.Tryz.func209.trans (congrArg some (by kernel_rfl)),
 t0:=Go.Proofs.Tryz.underlying0,
 a0:=Go.Proofs.Tryz.isAgg0,
 z0:=Go.Proofs.Tryz.sizeOf0,
 v0:=Go.Proofs.Tryz.zeroValue0,
 t3:=Go.Proofs.Tryz.underlying3,
 a3:=Go.Proofs.Tryz.isAgg3,
 z3:=Go.Proofs.Tryz.sizeOf3,
 v3:=Go.Proofs.Tryz.zeroValue3,
 t4:=Go.Proofs.Tryz.underlying4,
 a4:=Go.Proofs.Tryz.isAgg4,
 z4:=Go.Proofs.Tryz.sizeOf4,
 v4:=Go.Proofs.Tryz.zeroValue4,
 t9:=Go.Proofs.Tryz.underlying9,
 a9:=Go.Proofs.Tryz.isAgg9,
 z9:=Go.Proofs.Tryz.sizeOf9,
 v9:=Go.Proofs.Tryz.zeroValue9,
 t20:=Go.Proofs.Tryz.underlying20,
 a20:=Go.Proofs.Tryz.isAgg20,
 z20:=Go.Proofs.Tryz.sizeOf20,
 v20:=Go.Proofs.Tryz.zeroValue20,
 t37:=Go.Proofs.Tryz.underlying99,
 a37:=Go.Proofs.Tryz.isAgg99,
 z37:=Go.Proofs.Tryz.sizeOf99,
 v37:=Go.Proofs.Tryz.zeroValue99,
 t70:=Go.Proofs.Tryz.underlying196,
 a70:=Go.Proofs.Tryz.isAgg196,
 z70:=Go.Proofs.Tryz.sizeOf196,
 v70:=Go.Proofs.Tryz.zeroValue196,
 t72:=Go.Proofs.Tryz.underlying198,
 a72:=Go.Proofs.Tryz.isAgg198,
 z72:=Go.Proofs.Tryz.sizeOf198,
 v72:=Go.Proofs.Tryz.zeroValue198,
 t75:=Go.Proofs.Tryz.underlying200,
 a75:=Go.Proofs.Tryz.isAgg200,
 z75:=Go.Proofs.Tryz.sizeOf200,
 v75:=Go.Proofs.Tryz.zeroValue200,
 t164:=Go.Proofs.Tryz.underlying280,
 a164:=Go.Proofs.Tryz.isAgg280,
 z164:=Go.Proofs.Tryz.sizeOf280,
 v164:=Go.Proofs.Tryz.zeroValue280}
theorem Tryz.tg:Go.Proofs.Builder.Extra Go.Proofs.Tryz.prog Tryz.iR:={
 sizeBuilder:=by kernel_rfl,
 liesBuilder:=by kernel_rfl,
 t5:=Go.Proofs.Tryz.underlying5,
 a5:=Go.Proofs.Tryz.isAgg5,
 z5:=Go.Proofs.Tryz.sizeOf5,
 v5:=Go.Proofs.Tryz.zeroValue5,
 infoByte:=by kernel_rfl,
 cellsByte:=by kernel_rfl,
 sizeByte:=by kernel_rfl,
 neB5:=by decide}
noncomputable abbrev z64:Code:=Tryz.f123.body.getD .skip
theorem z5k:rD Tryz.prog 123:=⟨Tryz.f123,z64,Tryz.func123,by kernel_rfl,by kernel_rfl⟩
def yF:ah:=yE.add 123 [] (PQ 198 5)
theorem Ze:aO Tryz.prog yF:=⟨B7.mix,Um B7.nat (amS _ _),aeq B7.ub z5k Tryz.wY Tryz.tg rfl rfl rfl⟩
def amo:Env:=e0 [.str,.unit]
def pJ:ah:=yF.add 122 [.str,.unit] (pz .str (.aG (.gi 198 5) .unit .unit) (.aG (.gi 198 5) .unit .unit) [[]] jE (fun _ r K=>K [] (some ⟨(.aG (.gi 198 5) .unit .unit),r,[[]]⟩)))
theorem Zf:aO Tryz.prog pJ:=sz amo Tryz.f122 (fun R kk x0 x1 K=>T4 x0 x1 (fun a0=>K [] (some ⟨(.aG (.gi 198 5) .unit .unit),a0,[[]]⟩))) Ze (ek _ _ _ _) Tryz.func122 (by kernel_rfl) rfl (fun _ _ _ _ _ _ h=>h _ _) (fun _ _ _ _ _=>by kernel_rfl) fun R kk e x0 x1 K=>by
 simp only[jE,T4,aF]
def U3:Env:=b8.env (fun i=>bif Nat.beq i 3 then [2,3,7,8,9] else []) (fun i=>bif Nat.beq i 3 then [2,3] else []) [2] [y8]
def SK(a:ap)(b c:Int)(d e:aQ):Option R:=aB (ev U3 (pJ R) kk (sub [1,1,0,1,0,0] (cd Tryz.f126))) [2,3,7,8,9] [2,3] k ⟨uS 2 ([.ptr 3 (.pair (.int .u64) (.pair (.int .u64) .unit)) []]::[.ptr 4 (.pair (.int .u64) (.pair (.int .u64) .unit)) []]::uS 3 ([.ak (.sl 208 (.pair (.int .i64) (.pair .str .unit))) a []]::[tI b]::[tI c]::uS 9 [])),nS 3 ((some ⟨(.pair (.int .u64) (.pair (.int .u64) .unit)),d,[]⟩)::(some ⟨(.pair (.int .u64) (.pair (.int .u64) .unit)),e,[]⟩)::nS 15 [])⟩ J
def zew(a b:aQ):State:=⟨uS 2 ([.ptr 3 (.pair (.int .u64) (.pair (.int .u64) .unit)) []]::[.ptr 4 (.pair (.int .u64) (.pair (.int .u64) .unit)) []]::uS 15 []),nS 3 ((some ⟨(.pair (.int .u64) (.pair (.int .u64) .unit)),a,[]⟩)::(some ⟨(.pair (.int .u64) (.pair (.int .u64) .unit)),b,[]⟩)::nS 15 [])⟩
def MD:KX R:=(zi 0 (aU U3 (pJ R) kk (sub [1,1,1] (cd Tryz.f126)) (aT U3 Tryz.f126.results.toList none K)))
theorem ajR(a:ap)(b c:Int)(d e:aQ):SK R kk (k+1) J a b c d e=
 zxp a b c d e (SK R kk k J) (fun a0 a1=>J (.exit 0) (zew a0 a1)):=by kernel_rfl
theorem adt(a b:aQ):MD R kk K (.exit 0) (zew a b)=
 zxq a b (fun a0=>K [.ak (.pair (.int .u64) (.pair (.int .u64) .unit)) a0 []] none):=by kernel_rfl
theorem agL{kk:Nat}(hF:kk=ai)(t7:ap)(t8 t9:Int)(dy c9:aQ):SK R kk k J t7 t8 t9 dy c9=(OT k t7 t8 t9 dy c9).bind fun e=>J (.exit 0) (zew e.1 e.2):=by
 induction k generalizing t7 t8 t9 dy c9 with
 |zero=>rfl
 |succ k ih=>
  rw[ajR]
  simp only[OT,zxp,ih,aF]
def yG:ah:=pJ.add 126 [y8] (cK y8 sB (fun _ r K=>K [.ak (.pair (.int .u64) (.pair (.int .u64) .unit)) r []] none))
theorem Zg:aO Tryz.prog yG:=cM U3 Tryz.f126 (fun R kk x0 K=>SL x0 (SK R kk kk (MD R kk K))) Zf (ek _ _ _ _) Tryz.func126 (by kernel_rfl) rfl (fun _ _ _ _ _ _ h=>h _ _) (fun _ _ _ _=>by kernel_rfl) fun R kk e x0 K=>by
 simp only[sB,SL,zxq,agL (hF:=e),adt,aF,<-e]
def GD:Env:=e0 [(.pair (.int .u64) (.pair (.int .u64) .unit)),(.int .i64)]
def yH:ah:=yG.add 170 [(.pair (.int .u64) (.pair (.int .u64) .unit)),(.int .i64)] (dw (.pair (.int .u64) (.pair (.int .u64) .unit)) (.int .i64) GC (fun _ r K=>K [tB r] none))
theorem Zh:aO Tryz.prog yH:=dD GD Tryz.f170 (fun R kk x0 x1 K=>VG x0 x1 (fun a0=>K [tB a0] none)) Zg (ek _ _ _ _) Tryz.func170 (by kernel_rfl) rfl (fun _ _ _ _ _ _ h=>h _ _) (fun _ _ _ _ _=>by kernel_rfl) fun R kk e x0 x1 K=>by
 simp only[GC,VG,aF]
def Gz:Env:=e0 [(.pair (.int .u64) (.pair (.int .u64) .unit))]
def pK:ah:=yH.add 171 [(.pair (.int .u64) (.pair (.int .u64) .unit))] (cK (.pair (.int .u64) (.pair (.int .u64) .unit)) P4 (fun _ r K=>K [.ak (.int .u64) r.1 [],.ak (.int .u64) r.2 []] none))
theorem Zi:aO Tryz.prog pK:=cM Gz Tryz.f171 (fun R kk x0 K=>z145 x0 (fun a0 a1=>K [.ak (.int .u64) a0 [],.ak (.int .u64) a1 []] none)) Zh (ek _ _ _ _) Tryz.func171 (by kernel_rfl) rfl (fun _ _ _ _ _ _ h=>h _ _) (fun _ _ _ _=>by kernel_rfl) fun R kk e x0 K=>by
 simp only[P4,z145,aF]
def vC:Env:=b8.env (fun i=>bif Nat.beq i 3 then [0,2,3,5] else []) (fun i=>bif Nat.beq i 3 then [2,3] else []) [2] [(.int .u64)]
def pf(a b:Int)(c d:(List Int)):Option R:=aB (ev vC (pK R) kk (sub [1,1,0,1,0,0] (cd Tryz.f172))) [0,2,3,5] [2,3] k ⟨[.ak (.int .u64) a []]::uS 1 ([.ptr 3 (.arr 8 (.int .u8)) []]::[.ptr 4 (.arr 8 (.int .u8)) []]::uS 1 ([tI b]::uS 12 [])),nS 3 ((some ⟨(.arr 8 (.int .u8)),c,[]⟩)::(some ⟨(.arr 8 (.int .u8)),d,[]⟩)::nS 14 [])⟩ J
def zzu(a b:(List Int)):State:=⟨uS 2 ([.ptr 3 (.arr 8 (.int .u8)) []]::[.ptr 4 (.arr 8 (.int .u8)) []]::uS 14 []),nS 3 ((some ⟨(.arr 8 (.int .u8)),a,[]⟩)::(some ⟨(.arr 8 (.int .u8)),b,[]⟩)::nS 14 [])⟩
def yg:KX R:=(zi 0 (aU vC (pK R) kk (sub [1,1,1] (cd Tryz.f172)) (aT vC Tryz.f172.results.toList none K)))
theorem Hh(a b:Int)(c d:(List Int)):pf R kk (k+1) J a b c d=
 mC a b c d (pf R kk k J) (fun a0 a1=>J (.exit 0) (zzu a0 a1)):=by kernel_rfl
theorem akF(a b:(List Int)):yg R kk K (.exit 0) (zzu a b)=
 ph a b (fun a0=>K [.ak (.arr 8 (.int .u8)) a0 []] none):=by kernel_rfl
theorem amL{kk:Nat}(hF:kk=ai)(x_0 t5:Int)(dy c9:(List Int)):pf R kk k J x_0 t5 dy c9=(gU k x_0 t5 dy c9).bind fun e=>J (.exit 0) (zzu e.1 e.2):=by
 induction k generalizing x_0 t5 dy c9 with
 |zero=>rfl
 |succ k ih=>
  rw[Hh]
  simp only[gU,mC,ih,aF]
def pL:ah:=pK.add 172 [(.int .u64)] (cK (.int .u64) Q8 (fun _ r K=>K [.ak (.arr 8 (.int .u8)) r []] none))
theorem Zj:aO Tryz.prog pL:=cM vC Tryz.f172 (fun R kk x0 K=>pg x0 (pf R kk kk (yg R kk K))) Zi (ek _ _ _ _) Tryz.func172 (by kernel_rfl) rfl (fun _ _ _ _ _ _ h=>h _ _) (fun _ _ _ _=>by kernel_rfl) fun R kk e x0 K=>by
 simp only[Q8,pg,ph,amL (hF:=e),akF,aF,<-e]
def UY:Env:=b8.env (fun i=>bif Nat.beq i 3 then [0,3,4] else []) (fun i=>bif Nat.beq i 3 then [3] else []) [] [.str]
def SD(a:ByteArray)(b:(List Int))(c:Int):Option R:=aB (ev UY (pL R) kk (sub [1,1,0,1,0,0] (cd Tryz.f173))) [0,3,4] [3] k ⟨[tS a]::uS 2 ([.ak (.sl 5 (.int .u8)) b [[]]]::[tI c]::uS 25 []),nS 31 []⟩ J
def zeq(a:(List Int)):State:=⟨uS 3 ([.ak (.sl 5 (.int .u8)) a [[]]]::uS 26 []),nS 31 []⟩
def MC:KX R:=(zi 0 (aU UY (pL R) kk (sub [1,1,1] (cd Tryz.f173)) (aT UY Tryz.f173.results.toList none K)))
theorem ajN(a:ByteArray)(b:(List Int))(c:Int):SD R kk (k+1) J a b c=
 OQ a b c (SD R kk k J) (fun a0=>J (.exit 0) (zeq a0)):=by kernel_rfl
theorem ado(a:(List Int)):MC R kk K (.exit 0) (zeq a)=
 zxf a (fun a0=>K [tS a0] none):=by kernel_rfl
theorem agG{kk:Nat}(hF:kk=ai)(iF:ByteArray)(t3:(List Int))(t4:Int):SD R kk k J iF t3 t4=(Ef k iF t3 t4).bind fun e=>J (.exit 0) (zeq e):=by
 induction k generalizing iF t3 t4 with
 |zero=>rfl
 |succ k ih=>
  rw[ajN]
  simp only[Ef,OQ,ih,aF]
def yI:ah:=pL.add 173 [.str] (cK .str jB (fun _ r K=>K [tS r] none))
theorem Zk:aO Tryz.prog yI:=cM UY Tryz.f173 (fun R kk x0 K=>SE x0 (SD R kk kk (MC R kk K))) Zj (ek _ _ _ _) Tryz.func173 (by kernel_rfl) rfl (fun _ _ _ _ _ _ h=>h _ _) (fun _ _ _ _=>by kernel_rfl) fun R kk e x0 K=>by
 simp only[jB,SE,zxf,agG (hF:=e),ado,aF,<-e]
def WZ:Env:=e0 [(.int .i64),(.pair (.int .u64) (.pair (.int .u64) .unit))]
def pM:ah:=yI.add 125 [(.int .i64),(.pair (.int .u64) (.pair (.int .u64) .unit))] (dw (.int .i64) (.pair (.int .u64) (.pair (.int .u64) .unit)) Q6 (fun _ r K=>K [tS r.1,tI r.2] none))
theorem Zl:aO Tryz.prog pM:=dD WZ Tryz.f125 (fun R kk x0 x1 K=>oU x0 x1 (fun a0 a1=>K [tS a0,tI a1] none)) Zk (ek _ _ _ _) Tryz.func125 (by kernel_rfl) rfl (fun _ _ _ _ _ _ h=>h _ _) (fun _ _ _ _ _=>by kernel_rfl) fun R kk e x0 x1 K=>by
 simp only[Q6,oU,aF]
def oG:Env:=b8.env (fun i=>bif Nat.beq i 5 then [0,6,7,19] else []) (fun i=>bif Nat.beq i 5 then [0,6,19] else []) [] [(.int .i64),(.int .i64)]
def Vz(a:Int)(b:Nat)(c:Int)(d:Nat)(e:(List Int)):Option R:=aB (ev oG (pM R) kk (sub [1,1,1,0,1,0,0] (cd Tryz.f211))) [0,6,7,19] [0,6,19] k ⟨[tI a]::uS 5 ([.ptr 20 (.aG (.iz b) (.int .u8) .unit) []]::[tI c]::uS 11 ([.ptr 20 (.aG (.iz d) (.int .u8) .unit) []]::uS 19 [])),nS 20 ((some ⟨(.aG .row (.int .u8) .unit),e,[]⟩)::nS 19 [])⟩ J
def zom(a:Int)(b c:Nat)(d:(List Int)):State:=⟨[tI a]::uS 5 ([.ptr 20 (.aG (.iz b) (.int .u8) .unit) []]::uS 12 ([.ptr 20 (.aG (.iz c) (.int .u8) .unit) []]::uS 19 [])),nS 20 ((some ⟨(.aG .row (.int .u8) .unit),d,[]⟩)::nS 19 [])⟩
def Nu:KX R:=(zi 0 (aU oG (pM R) kk (sub [1,1,1,1] (cd Tryz.f211)) (aT oG Tryz.f211.results.toList none K)))
theorem amt(a:Int)(b:Nat)(c:Int)(d:Nat)(e:(List Int)):Vz R kk (k+1) J a b c d e=
 Pw a b c d e (Vz R kk k J) (fun a0 a1 a2 a3=>J (.exit 0) (zom a0 a1 a2 a3)):=by kernel_rfl
theorem ahl(a:Int)(b c:Nat)(d:(List Int)):Nu R kk K (.exit 0) (zom a b c d)=
 VB a b c d (fun a0 a1=>K [tS a0,tB a1] none):=by kernel_rfl
theorem akn{kk:Nat}(hF:kk=ai)(YB:Int)(YD:Nat)(t7:Int)(B6:Nat)(Bn:(List Int)):Vz R kk k J YB YD t7 B6 Bn=(EA k YB YD t7 B6 Bn).bind fun e=>J (.exit 0) (zom e.1 e.2.1 e.2.2.1 e.2.2.2):=by
 induction k generalizing YB YD t7 B6 Bn with
 |zero=>rfl
 |succ k ih=>
  rw[amt]
  simp only[EA,Pw,ih,aF]
def yJ:ah:=pM.add 211 [(.int .i64),(.int .i64)] (dw (.int .i64) (.int .i64) Gu (fun _ r K=>K [tS r.1,tB r.2] none))
theorem Zm:aO Tryz.prog yJ:=dD oG Tryz.f211 (fun R kk x0 x1 K=>VA x0 x1 (fun a0 a1=>K [tS a0,tB a1] none) (Vz R kk kk (Nu R kk K))) Zl (ek _ _ _ _) Tryz.func211 (by kernel_rfl) rfl (fun _ _ _ _ _ _ h=>h _ _) (fun _ _ _ _ _=>by kernel_rfl) fun R kk e x0 x1 K=>by
 simp only[Gu,VA,VB,akn (hF:=e),ahl,aF,<-e]
def alY:Env:=e0 [(.int .i64),(.int .i64),(.int .i64)]
def yK:ah:=yJ.add 175 [(.int .i64),(.int .i64),(.int .i64)] (kb (.int .i64) (.int .i64) (.int .i64) qv (fun _ r K=>K [tS r.1,tI r.2] none))
theorem Zn:aO Tryz.prog yK:=ko alY Tryz.f175 (fun R kk x0 x1 x2 K=>SY x0 x1 x2 (fun a0 a1=>K [tS a0,tI a1] none)) Zm (ek _ _ _ _) Tryz.func175 (by kernel_rfl) rfl (fun _ _ _ _ _ _ h=>h _ _) (fun _ _ _ _ _ _=>by kernel_rfl) fun R kk e x0 x1 x2 K=>by
 simp only[qv,SY,aF]
def Gf:Env:=e0 [(.int .i64),cH,.str]
def yL:ah:=yK.add 127 [(.int .i64),cH,.str] (kb (.int .i64) cH .str A5 (fun _ r K=>K [tS r.1,tI r.2] none))
theorem B8:aO Tryz.prog yL:=ko Gf Tryz.f127 (fun R kk x0 x1 x2 K=>UM x0 x1 x2 (fun a0 a1=>K [tS a0,tI a1] none)) Zn (ek _ _ _ _) Tryz.func127 (by kernel_rfl) rfl (fun _ _ _ _ _ _ h=>h _ _) (fun _ _ _ _ _ _=>by kernel_rfl) fun R kk e x0 x1 x2 K=>by
 simp only[A5,UM,aF]
def Tryz.iS:Go.Shelf.Ren:=⟨fun|169=>128|n=>n,fun|70=>196|9=>9|0=>0|72=>198|37=>99|127=>256|3=>3|5=>5|n=>n,fun n=>n⟩
theorem Tryz.wZ:Go.Proofs.Lays.n169 Go.Proofs.Tryz.prog Tryz.iS:={
 mixed:=by kernel_rfl,
 f169:=Go.Proofs.Tryz.func128.trans (congrArg some (by kernel_rfl)),
 t0:=Go.Proofs.Tryz.underlying0,
 a0:=Go.Proofs.Tryz.isAgg0,
 z0:=Go.Proofs.Tryz.sizeOf0,
 v0:=Go.Proofs.Tryz.zeroValue0,
 t3:=Go.Proofs.Tryz.underlying3,
 a3:=Go.Proofs.Tryz.isAgg3,
 z3:=Go.Proofs.Tryz.sizeOf3,
 v3:=Go.Proofs.Tryz.zeroValue3,
 t9:=Go.Proofs.Tryz.underlying9,
 a9:=Go.Proofs.Tryz.isAgg9,
 z9:=Go.Proofs.Tryz.sizeOf9,
 v9:=Go.Proofs.Tryz.zeroValue9,
 t37:=Go.Proofs.Tryz.underlying99,
 a37:=Go.Proofs.Tryz.isAgg99,
 z37:=Go.Proofs.Tryz.sizeOf99,
 v37:=Go.Proofs.Tryz.zeroValue99,
 t70:=Go.Proofs.Tryz.underlying196,
 a70:=Go.Proofs.Tryz.isAgg196,
 z70:=Go.Proofs.Tryz.sizeOf196,
 v70:=Go.Proofs.Tryz.zeroValue196,
 t72:=Go.Proofs.Tryz.underlying198,
 a72:=Go.Proofs.Tryz.isAgg198,
 z72:=Go.Proofs.Tryz.sizeOf198,
 v72:=Go.Proofs.Tryz.zeroValue198,
 t127:=Go.Proofs.Tryz.underlying256,
 a127:=Go.Proofs.Tryz.isAgg256,
 z127:=Go.Proofs.Tryz.sizeOf256,
 v127:=Go.Proofs.Tryz.zeroValue256}
theorem Tryz.ti:Go.Proofs.Builder.Extra Go.Proofs.Tryz.prog Tryz.iS:={
 sizeBuilder:=by kernel_rfl,
 liesBuilder:=by kernel_rfl,
 t5:=Go.Proofs.Tryz.underlying5,
 a5:=Go.Proofs.Tryz.isAgg5,
 z5:=Go.Proofs.Tryz.sizeOf5,
 v5:=Go.Proofs.Tryz.zeroValue5,
 infoByte:=by kernel_rfl,
 cellsByte:=by kernel_rfl,
 sizeByte:=by kernel_rfl,
 neB5:=by decide}
noncomputable abbrev z9h:Code:=Tryz.f128.body.getD .skip
theorem z7j:rD Tryz.prog 128:=⟨Tryz.f128,z9h,Tryz.func128,by kernel_rfl,by kernel_rfl⟩
def pN:ah:=yL.add 128 [] (PO 198 5)
theorem Zo:aO Tryz.prog pN:=⟨B8.mix,Um B8.nat (amR _ _),aep B8.ub z7j Tryz.wZ Tryz.ti rfl rfl rfl⟩
def Vp:Env:={b8.env (fun i=>bif Nat.beq i 11 then [2,5,7,8,50,51,52] else []) (fun i=>bif Nat.beq i 11 then [5,7] else []) [5] [aK,y8] with bl:=fun t=>bif Nat.beq t 198 then some 5 else none}
def T1(a:ap)(b c:Int)(d:af)(e:aQ)(f:ByteArray):Option R:=aB (ev Vp (pN R) kk (sub [1,1,1,1,1,1,1,1,0,1,0,0] (cd Tryz.f89))) [2,5,7,8,50,51,52] [5,7] k ⟨uS 2 ([.ptr 3 aK []]::uS 2 ([.ptr 6 (.pair (.int .i64) (.pair (.int .i64) .unit)) []]::uS 1 ([.ptr 8 (.aG (.gi 198 5) .unit .unit) []]::[.ptr 8 (.aG (.rF 122) (.aG (.gi 198 5) .unit .unit) .unit) []]::uS 41 ([.ak (.sl 208 (.pair (.int .i64) (.pair .str .unit))) a []]::[tI b]::[tI c]::uS 25 [])))),nS 3 ((some ⟨aK,d,[]⟩)::nS 2 ((some ⟨(.pair (.int .i64) (.pair (.int .i64) .unit)),e,[]⟩)::nS 1 ((some ⟨(.aG (.gi 198 5) .unit .unit),f,[[]]⟩)::nS 70 [])))⟩ J
def zfu(a:aQ)(b:ByteArray):State:=⟨uS 5 ([.ptr 6 (.pair (.int .i64) (.pair (.int .i64) .unit)) []]::uS 1 ([.ptr 8 (.aG (.gi 198 5) .unit .unit) []]::uS 70 [])),nS 6 ((some ⟨(.pair (.int .i64) (.pair (.int .i64) .unit)),a,[]⟩)::nS 1 ((some ⟨(.aG (.gi 198 5) .unit .unit),b,[[]]⟩)::nS 70 []))⟩
def MJ:KX R:=(zi 0 (aU Vp (pN R) kk (sub [1,1,1,1,1,1,1,1,1] (cd Tryz.f89)) (aT Vp Tryz.f89.results.toList none K)))
theorem akd(a:ap)(b c:Int)(d:af)(e:aQ)(f:ByteArray):T1 R kk (k+1) J a b c d e f=
 zz4 a b c d e f (T1 R kk k J) (fun a0 a1=>J (.exit 0) (zfu a0 a1)):=by kernel_rfl
theorem adZ(a:aQ)(b:ByteArray):MJ R kk K (.exit 0) (zfu a b)=
 zz5 a b (fun a0 a1=>K [tS a0,.ak (.pair (.int .i64) (.pair (.int .i64) .unit)) a1 []] none):=by kernel_rfl
theorem aha{kk:Nat}(hF:kk=ai)(t50:ap)(t51 t52:Int)(dy:af)(dS:aQ)(iy:ByteArray):T1 R kk k J t50 t51 t52 dy dS iy=(O8 k t50 t51 t52 dy dS iy).bind fun e=>J (.exit 0) (zfu e.1 e.2):=by
 induction k generalizing t50 t51 t52 dy dS iy with
 |zero=>rfl
 |succ k ih=>
  rw[akd]
  simp only[O8,zz4,ih,aF]
def yM:ah:=pN.add 89 [aK,y8] (dw aK y8 nQ (fun _ r K=>K [tS r.1,.ak (.pair (.int .i64) (.pair (.int .i64) .unit)) r.2 []] none))
theorem Zp:aO Tryz.prog yM:=dD Vp Tryz.f89 (fun R kk x0 x1 K=>T3 x0 x1 (fun a0 a1=>K [tS a0,.ak (.pair (.int .i64) (.pair (.int .i64) .unit)) a1 []] none) (T1 R kk kk (MJ R kk K))) Zo ((ek _ _ _ _).gi 198 5 (by kernel_rfl)) Tryz.func89 (by kernel_rfl) rfl (fun _ _ _ _ _ _ h=>h _ _) (fun _ _ _ _ _=>by kernel_rfl) fun R kk e x0 x1 K=>by
 simp only[nQ,T3,zz5,aha (hF:=e),adZ,aF,<-e]
def al5:Env:=e0 [y8,(.pair (.int .i64) (.pair (.int .i64) .unit)),.unit,.unit]
def pO:ah:=yM.add 87 [y8,(.pair (.int .i64) (.pair (.int .i64) .unit)),.unit,.unit] (pv y8 (.pair (.int .i64) (.pair (.int .i64) .unit)) cr bu kr (fun _ r K=>K [tI r.1,tS r.2] none))
theorem Zq:aO Tryz.prog pO:=sv al5 Tryz.f87 (fun R kk x0 x1 x2 x3 K=>Tj x0 x1 x2 x3 (fun a0 a1=>K [tI a0,tS a1] none)) Zp (ek _ _ _ _) Tryz.func87 (by kernel_rfl) rfl (fun _ _ _ _ _ _ h=>h _ _) (fun _ _ _ _ _ _ _=>by kernel_rfl) fun R kk e x0 x1 x2 x3 K=>by
 simp only[kr,Tj,aF]
def Vr:Env:=b8.env (fun i=>bif Nat.beq i 2 then [1,9,10,11] else []) (fun i=>bif Nat.beq i 2 then [4,5] else []) [] [cB,.str]
def Uj(a:ByteArray)(b:aN)(c d:Int):Option R:=aB (ev Vr (pO R) kk (sub [1,0,1,0,0] (cd Tryz.f133))) [1,9,10,11] [4,5] k ⟨uS 1 ([tS a]::uS 7 ([.ak (.sl 109 (.pair .str (.pair .str .unit))) b []]::[tI c]::[tI d]::uS 10 [])),nS 23 []⟩ J
def zg6(a:ByteArray)(b:Bool):State:=⟨uS 4 ([tS a]::[tB b]::uS 16 []),nS 23 []⟩
def zg7:State:=⟨uS 22 [],nS 23 []⟩
def zzo:KX R:=(zi 0 (aU Vr (pO R) kk (sub [1,1] (cd Tryz.f133)) (aT Vr Tryz.f133.results.toList none K)))
theorem akk(a:ByteArray)(b:aN)(c d:Int):Uj R kk (k+1) J a b c d=
 zzp a b c d (fun a0 a1=>J .ret (zg6 a0 a1)) (Uj R kk k J) (J (.exit 0) (zg7)):=by kernel_rfl
theorem aeb(a:ByteArray)(b:Bool):zzo R kk K .ret (zg6 a b)=
 zzq a b (fun a0 a1=>K [tS a0,tB a1] none):=by kernel_rfl
theorem aec:zzo R kk K (.exit 0) (zg7)=
 zzr (fun a0 a1=>K [tS a0,tB a1] none):=by kernel_rfl
theorem ahh{kk:Nat}(hF:kk=ai)(Z3:ByteArray)(t9:aN)(t10 t11:Int):Uj R kk k J Z3 t9 t10 t11=(Pd k Z3 t9 t10 t11).bind fun e=>(Sum.elim (fun(we:js)=>J .ret (zg6 we.1 we.2)) (fun(we:Unit)=>J (.exit 0) (zg7)) e):=by
 induction k generalizing Z3 t9 t10 t11 with
 |zero=>rfl
 |succ k ih=>
  rw[akk]
  simp only[Pd,zzp,ih,aF]
def pP:ah:=pO.add 133 [cB,.str] (dw cB .str sX (fun _ r K=>K [tS r.1,tB r.2] none))
theorem Zr:aO Tryz.prog pP:=dD Vr Tryz.f133 (fun R kk x0 x1 K=>Uk x0 x1 (Uj R kk kk (zzo R kk K))) Zq (ek _ _ _ _) Tryz.func133 (by kernel_rfl) rfl (fun _ _ _ _ _ _ h=>h _ _) (fun _ _ _ _ _=>by kernel_rfl) fun R kk e x0 x1 K=>by
 simp only[sX,Uk,zzq,zzr,ahh (hF:=e),aeb,aec,aF,<-e]
def Vq:Env:={b8.env (fun i=>bif Nat.beq i 2 then [1,4,9,10,11] else []) (fun i=>bif Nat.beq i 2 then [4,5] else []) [4] [cB,(.int .i64)] with ro:=true}
def Uh(a:Int)(b:bQ)(c d:Int)(e:aE):Option R:=aB (ev Vq (pP R) kk (sub [1,0,1,0,0] (cd Tryz.f134))) [1,4,9,10,11] [4,5] k ⟨uS 1 ([tI a]::uS 2 ([.ptr 5 cw []]::uS 4 ([.ak (.sl 102 cw) b []]::[tI c]::[tI d]::uS 10 []))),nS 5 ((some ⟨cw,e,[[4]]⟩)::nS 17 [])⟩ J
def zg4(a:Bool)(b:aE):State:=⟨uS 4 ([.ptr 5 cw []]::[tB a]::uS 16 []),nS 5 ((some ⟨cw,b,[]⟩)::nS 17 [])⟩
def zg5(a:aE):State:=⟨uS 4 ([.ptr 5 cw []]::uS 17 []),nS 5 ((some ⟨cw,a,[[4]]⟩)::nS 17 [])⟩
def zzk:KX R:=(zi 0 (aU Vq (pP R) kk (sub [1,1] (cd Tryz.f134)) (aT Vq Tryz.f134.results.toList none K)))
theorem akj(a:Int)(b:bQ)(c d:Int)(e:aE):Uh R kk (k+1) J a b c d e=
 zzl a b c d e (fun a0 a1=>J .ret (zg4 a0 a1)) (Uh R kk k J) (fun a0=>J (.exit 0) (zg5 a0)):=by kernel_rfl
theorem ad9(a:Bool)(b:aE):zzk R kk K .ret (zg4 a b)=
 zzm a b (fun a0 a1=>K [.ak cw a0 [],tB a1] none):=by kernel_rfl
theorem aea(a:aE):zzk R kk K (.exit 0) (zg5 a)=
 zzn a (fun a0 a1=>K [.ak cw a0 [],tB a1] none):=by kernel_rfl
theorem ahg{kk:Nat}(hF:kk=ai)(fe:Int)(t9:bQ)(t10 t11:Int)(cN:aE):Uh R kk k J fe t9 t10 t11 cN=(Pc k fe t9 t10 t11 cN).bind fun e=>(Sum.elim (fun(we:(Bool×aE))=>J .ret (zg4 we.1 we.2)) (fun(we:aE)=>J (.exit 0) (zg5 we)) e):=by
 induction k generalizing fe t9 t10 t11 cN with
 |zero=>rfl
 |succ k ih=>
  rw[akj]
  simp only[Pc,zzl,ih,aF]
def yN:ah:=pP.add 134 [cB,(.int .i64)] (dw cB (.int .i64) nR (fun _ r K=>K [.ak cw r.1 [],tB r.2] none))
theorem B9:aO Tryz.prog yN:=dD Vq Tryz.f134 (fun R kk x0 x1 K=>Ui x0 x1 (Uh R kk kk (zzk R kk K))) Zr ((ek _ _ _ _).ro _) Tryz.func134 (by kernel_rfl) rfl (fun _ _ _ _ _ _ h=>h _ _) (fun _ _ _ _ _=>by kernel_rfl) fun R kk e x0 x1 K=>by
 simp only[nR,Ui,zzm,zzn,ahg (hF:=e),ad9,aea,aF,<-e]
def Tryz.fU:Go.Shelf.Ren:=⟨fun|105=>215|212=>225|99=>226|165=>227|166=>123|170=>228|169=>128|263=>236|264=>237|206=>238|240=>167|241=>239|276=>209|277=>244|n=>n,fun|9=>9|3=>3|4=>4|20=>20|0=>0|46=>154|109=>286|5=>5|72=>198|76=>201|51=>297|146=>298|53=>137|148=>250|70=>196|37=>99|75=>200|127=>256|164=>280|80=>210|n=>n,fun n=>n⟩
theorem Tryz.dY:Go.Proofs.Lays.n105 Go.Proofs.Tryz.prog Tryz.fU:={
 mixed:=by kernel_rfl,
 f99:=Go.Proofs.Tryz.func226.trans (congrArg some (by kernel_rfl)),
 f105:=Go.Proofs.Tryz.func215.trans (congrArg some (by kernel_rfl)),
 f165:=Go.Proofs.Tryz.func227.trans (congrArg some (by kernel_rfl)),
 f166:=Go.Proofs.Tryz.func123.trans (congrArg some (by kernel_rfl)),
 f169:=Go.Proofs.Tryz.func128.trans (congrArg some (by kernel_rfl)),
 f170:=Go.Proofs.Tryz.func228.trans (congrArg some (by kernel_rfl)),
 f206:=Go.Proofs.Tryz.func238.trans (congrArg some (by kernel_rfl)),
 f212:=Go.Proofs.Tryz.func225.trans (congrArg some (by kernel_rfl)),
 f240:=Go.Proofs.Tryz.func167.trans (congrArg some (by kernel_rfl)),
 f241:=Go.Proofs.Tryz.func239.trans (congrArg some (by kernel_rfl)),
 f263:=Go.Proofs.Tryz.func236.trans (congrArg some (by kernel_rfl)),
 f264:=Go.Proofs.Tryz.func237.trans (congrArg some (by kernel_rfl)),
 f276:=Go.Proofs.Tryz.func209.trans (congrArg some (by kernel_rfl)),
 f277:=Go.Proofs.Tryz.func244.trans (congrArg some (by kernel_rfl)),
 t0:=Go.Proofs.Tryz.underlying0,
 a0:=Go.Proofs.Tryz.isAgg0,
 z0:=Go.Proofs.Tryz.sizeOf0,
 v0:=Go.Proofs.Tryz.zeroValue0,
 t3:=Go.Proofs.Tryz.underlying3,
 a3:=Go.Proofs.Tryz.isAgg3,
 z3:=Go.Proofs.Tryz.sizeOf3,
 v3:=Go.Proofs.Tryz.zeroValue3,
 t4:=Go.Proofs.Tryz.underlying4,
 a4:=Go.Proofs.Tryz.isAgg4,
 z4:=Go.Proofs.Tryz.sizeOf4,
 v4:=Go.Proofs.Tryz.zeroValue4,
 t5:=Go.Proofs.Tryz.underlying5,
 a5:=Go.Proofs.Tryz.isAgg5,
 z5:=Go.Proofs.Tryz.sizeOf5,
 v5:=Go.Proofs.Tryz.zeroValue5,
 t9:=Go.Proofs.Tryz.underlying9,
 a9:=Go.Proofs.Tryz.isAgg9,
 z9:=Go.Proofs.Tryz.sizeOf9,
 v9:=Go.Proofs.Tryz.zeroValue9,
 t20:=Go.Proofs.Tryz.underlying20,
 a20:=Go.Proofs.Tryz.isAgg20,
 z20:=Go.Proofs.Tryz.sizeOf20,
 v20:=Go.Proofs.Tryz.zeroValue20,
 t37:=Go.Proofs.Tryz.underlying99,
 a37:=Go.Proofs.Tryz.isAgg99,
 z37:=Go.Proofs.Tryz.sizeOf99,
 v37:=Go.Proofs.Tryz.zeroValue99,
 t46:=Go.Proofs.Tryz.underlying154,
 a46:=Go.Proofs.Tryz.isAgg154,
 z46:=Go.Proofs.Tryz.sizeOf154,
 v46:=Go.Proofs.Tryz.zeroValue154,
 t51:=Go.Proofs.Tryz.underlying297,
 a51:=Go.Proofs.Tryz.isAgg297,
 z51:=Go.Proofs.Tryz.sizeOf297,
 v51:=Go.Proofs.Tryz.zeroValue297,
 t53:=Go.Proofs.Tryz.underlying137,
 a53:=Go.Proofs.Tryz.isAgg137,
 z53:=Go.Proofs.Tryz.sizeOf137,
 v53:=Go.Proofs.Tryz.zeroValue137,
 t70:=Go.Proofs.Tryz.underlying196,
 a70:=Go.Proofs.Tryz.isAgg196,
 z70:=Go.Proofs.Tryz.sizeOf196,
 v70:=Go.Proofs.Tryz.zeroValue196,
 t72:=Go.Proofs.Tryz.underlying198,
 a72:=Go.Proofs.Tryz.isAgg198,
 z72:=Go.Proofs.Tryz.sizeOf198,
 v72:=Go.Proofs.Tryz.zeroValue198,
 t75:=Go.Proofs.Tryz.underlying200,
 a75:=Go.Proofs.Tryz.isAgg200,
 z75:=Go.Proofs.Tryz.sizeOf200,
 v75:=Go.Proofs.Tryz.zeroValue200,
 t76:=Go.Proofs.Tryz.underlying201,
 a76:=Go.Proofs.Tryz.isAgg201,
 z76:=Go.Proofs.Tryz.sizeOf201,
 v76:=Go.Proofs.Tryz.zeroValue201,
 t109:=Go.Proofs.Tryz.underlying286,
 a109:=Go.Proofs.Tryz.isAgg286,
 z109:=Go.Proofs.Tryz.sizeOf286,
 v109:=Go.Proofs.Tryz.zeroValue286,
 t127:=Go.Proofs.Tryz.underlying256,
 a127:=Go.Proofs.Tryz.isAgg256,
 z127:=Go.Proofs.Tryz.sizeOf256,
 v127:=Go.Proofs.Tryz.zeroValue256,
 t146:=Go.Proofs.Tryz.underlying298,
 a146:=Go.Proofs.Tryz.isAgg298,
 z146:=Go.Proofs.Tryz.sizeOf298,
 v146:=Go.Proofs.Tryz.zeroValue298,
 t148:=Go.Proofs.Tryz.underlying250,
 a148:=Go.Proofs.Tryz.isAgg250,
 z148:=Go.Proofs.Tryz.sizeOf250,
 v148:=Go.Proofs.Tryz.zeroValue250,
 t164:=Go.Proofs.Tryz.underlying280,
 a164:=Go.Proofs.Tryz.isAgg280,
 z164:=Go.Proofs.Tryz.sizeOf280,
 v164:=Go.Proofs.Tryz.zeroValue280}
theorem Tryz.mM:Go.Proofs.Builder.Extra Go.Proofs.Tryz.prog Tryz.fU:={
 sizeBuilder:=by kernel_rfl,
 liesBuilder:=by kernel_rfl,
 t5:=Tryz.dY.t5,
 a5:=Tryz.dY.a5,
 z5:=Tryz.dY.z5,
 v5:=Tryz.dY.v5,
 infoByte:=by kernel_rfl,
 cellsByte:=by kernel_rfl,
 sizeByte:=by kernel_rfl,
 neB5:=by decide}
noncomputable abbrev zq9:Code:=Tryz.f215.body.getD .skip
theorem zi9:rD Tryz.prog 215:=⟨Tryz.f215,zq9,Tryz.func215,by kernel_rfl,by kernel_rfl⟩
def z9i:Pure:=fun R l b K=>fV b (fj .str (.int .i64) l fun x0 x1=>(strings_Repeat x0 x1).bind fun r=>K [.ak .str r []] none)
theorem zqa:z9i.Nat:=fun R S l b F G K h=>DS (zgw fun _ _=>re fun _=>h _ _)
def pQ:ah:=yN.add 215 [] z9i
theorem Zs:aO Tryz.prog pQ:=⟨B9.mix,Um B9.nat zqa,aiH B9.ub zi9 strings_Repeat (zdg Tryz.dY Tryz.mM (by kernel_rfl))⟩
def Vl:Env:=b8.env (fun i=>bif Nat.beq i 1 then [0,1] else []) (fun i=>bif Nat.beq i 1 then [0] else []) [] [.str,(.int .u8)]
def TR(a:ByteArray)(b:Int):Option R:=aB (ev Vl (pQ R) kk (sub [1,0,0,0] (cd Tryz.f230))) [0,1] [0] k ⟨[tS a]::[tU b]::uS 21 [],nS 24 []⟩ J
def zfq(a:ByteArray):State:=⟨[tS a]::uS 22 [],nS 24 []⟩
def MI:KX R:=(zi 0 (aU Vl (pQ R) kk (sub [1,1] (cd Tryz.f230)) (aT Vl Tryz.f230.results.toList none K)))
theorem aka(a:ByteArray)(b:Int):TR R kk (k+1) J a b=
 TT a b (TR R kk k J) (fun a0=>J (.exit 0) (zfq a0)):=by kernel_rfl
theorem adW(a:ByteArray):MI R kk K (.exit 0) (zfq a)=
 TU a (fun a0=>K [tS a0] none):=by kernel_rfl
theorem ag6{kk:Nat}(hF:kk=ai)(iF:ByteArray)(Bs:Int):TR R kk k J iF Bs=(FG k iF Bs).bind fun e=>J (.exit 0) (zfq e):=by
 induction k generalizing iF Bs with
 |zero=>rfl
 |succ k ih=>
  rw[aka]
  simp only[FG,TT,ih,aF]
def pR:ah:=pQ.add 230 [.str,(.int .u8)] (dw .str (.int .u8) vu (fun _ r K=>K [tS r] none))
theorem Zt:aO Tryz.prog pR:=dD Vl Tryz.f230 (fun R kk x0 x1 K=>TS x0 x1 (TR R kk kk (MI R kk K))) Zs (ek _ _ _ _) Tryz.func230 (by kernel_rfl) rfl (fun _ _ _ _ _ _ h=>h _ _) (fun _ _ _ _ _=>by kernel_rfl) fun R kk e x0 x1 K=>by
 simp only[vu,TS,TU,ag6 (hF:=e),adW,aF,<-e]
def Vk:Env:=b8.env (fun i=>bif Nat.beq i 1 then [0,1] else []) (fun i=>bif Nat.beq i 1 then [0] else []) [] [.str,(.int .u8)]
def TN(a:ByteArray)(b:Int):Option R:=aB (ev Vk (pR R) kk (sub [1,0,0,0] (cd Tryz.f229))) [0,1] [0] k ⟨[tS a]::[tU b]::uS 15 [],nS 18 []⟩ J
def zfp(a:ByteArray):State:=⟨[tS a]::uS 16 [],nS 18 []⟩
def MH:KX R:=(zi 0 (aU Vk (pR R) kk (sub [1,1] (cd Tryz.f229)) (aT Vk Tryz.f229.results.toList none K)))
theorem aj9(a:ByteArray)(b:Int):TN R kk (k+1) J a b=
 TP a b (TN R kk k J) (fun a0=>J (.exit 0) (zfp a0)):=by kernel_rfl
theorem adV(a:ByteArray):MH R kk K (.exit 0) (zfp a)=
 TQ a (fun a0=>K [tS a0] none):=by kernel_rfl
theorem ag5{kk:Nat}(hF:kk=ai)(iF:ByteArray)(Bs:Int):TN R kk k J iF Bs=(FF k iF Bs).bind fun e=>J (.exit 0) (zfp e):=by
 induction k generalizing iF Bs with
 |zero=>rfl
 |succ k ih=>
  rw[aj9]
  simp only[FF,TP,ih,aF]
def yO:ah:=pR.add 229 [.str,(.int .u8)] (dw .str (.int .u8) vr (fun _ r K=>K [tS r] none))
theorem Zu:aO Tryz.prog yO:=dD Vk Tryz.f229 (fun R kk x0 x1 K=>TO x0 x1 (TN R kk kk (MH R kk K))) Zt (ek _ _ _ _) Tryz.func229 (by kernel_rfl) rfl (fun _ _ _ _ _ _ h=>h _ _) (fun _ _ _ _ _=>by kernel_rfl) fun R kk e x0 x1 K=>by
 simp only[vr,TO,TQ,ag5 (hF:=e),adV,aF,<-e]
def amj:Env:=e0 [.str,.str]
def yP:ah:=yO.add 216 [.str,.str] (dw .str .str sS (fun _ r K=>K [tS r] none))
theorem Zv:aO Tryz.prog yP:=dD amj Tryz.f216 (fun R kk x0 x1 K=>TM x0 x1 (fun a0=>K [tS a0] none)) Zu (ek _ _ _ _) Tryz.func216 (by kernel_rfl) rfl (fun _ _ _ _ _ _ h=>h _ _) (fun _ _ _ _ _=>by kernel_rfl) fun R kk e x0 x1 K=>by
 simp only[sS,TM,aF]
def Gt:Env:=e0 [.str,(.int .i64)]
def pS:ah:=yP.add 185 [.str,(.int .i64)] (dw .str (.int .i64) Gs (fun _ r K=>K [tS r.1,tB r.2] none))
theorem Zw:aO Tryz.prog pS:=dD Gt Tryz.f185 (fun R kk x0 x1 K=>Vy x0 x1 (fun a0 a1=>K [tS a0,tB a1] none)) Zv (ek _ _ _ _) Tryz.func185 (by kernel_rfl) rfl (fun _ _ _ _ _ _ h=>h _ _) (fun _ _ _ _ _=>by kernel_rfl) fun R kk e x0 x1 K=>by
 simp only[Gs,Vy,aF]
def ox:Env:=b8.env (fun i=>bif Nat.beq i 2 then [1,8,9,10] else []) (fun i=>bif Nat.beq i 2 then [4,5] else []) [] [(.sl 109 (.pair .str (.pair .str .unit))),.str]
def Vi(a:ByteArray)(b:aN)(c d:Int):Option R:=aB (ev ox (pS R) kk (sub [1,0,1,0,0] (cd Tryz.f186))) [1,8,9,10] [4,5] k ⟨uS 1 ([tS a]::uS 6 ([.ak (.sl 109 (.pair .str (.pair .str .unit))) b []]::[tI c]::[tI d]::uS 10 [])),nS 22 []⟩ J
def zof(a:ByteArray)(b:Bool):State:=⟨uS 4 ([tS a]::[tB b]::uS 15 []),nS 22 []⟩
def zog:State:=⟨uS 21 [],nS 22 []⟩
def CG:KX R:=(zi 0 (aU ox (pS R) kk (sub [1,1] (cd Tryz.f186)) (aT ox Tryz.f186.results.toList none K)))
theorem ami(a:ByteArray)(b:aN)(c d:Int):Vi R kk (k+1) J a b c d=
 CH a b c d (fun a0 a1=>J .ret (zof a0 a1)) (Vi R kk k J) (J (.exit 0) (zog)):=by kernel_rfl
theorem ag3(a:ByteArray)(b:Bool):CG R kk K .ret (zof a b)=
 CI a b (fun a0 a1=>K [tS a0,tB a1] none):=by kernel_rfl
theorem ag4:CG R kk K (.exit 0) (zog)=
 CJ (fun a0 a1=>K [tS a0,tB a1] none):=by kernel_rfl
theorem aj8{kk:Nat}(hF:kk=ai)(og:ByteArray)(t8:aN)(t9 t10:Int):Vi R kk k J og t8 t9 t10=(Pu k og t8 t9 t10).bind fun e=>(Sum.elim (fun(we:js)=>J .ret (zof we.1 we.2)) (fun(we:Unit)=>J (.exit 0) (zog)) e):=by
 induction k generalizing og t8 t9 t10 with
 |zero=>rfl
 |succ k ih=>
  rw[ami]
  simp only[Pu,CH,ih,aF]
def yQ:ah:=pS.add 186 [(.sl 109 (.pair .str (.pair .str .unit))),.str] (dw (.sl 109 (.pair .str (.pair .str .unit))) .str Gq (fun _ r K=>K [tS r.1,tB r.2] none))
theorem Zx:aO Tryz.prog yQ:=dD ox Tryz.f186 (fun R kk x0 x1 K=>Vj x0 x1 (Vi R kk kk (CG R kk K))) Zw (ek _ _ _ _) Tryz.func186 (by kernel_rfl) rfl (fun _ _ _ _ _ _ h=>h _ _) (fun _ _ _ _ _=>by kernel_rfl) fun R kk e x0 x1 K=>by
 simp only[Gq,Vj,CI,CJ,aj8 (hF:=e),ag3,ag4,aF,<-e]
def al6:Env:=b8.env (fun _=>[]) (fun _=>[]) [6] [cw,aK,.str]
def kN:ah:=yQ.add 135 [cw,aK,.str] (kb cw aK .str nN (fun _ r K=>K [.ak (.pair (.int .i64) (.pair .str .unit)) r.1 [],tI r.2] none))
theorem Zy:aO Tryz.prog kN:=ko al6 Tryz.f135 (fun R kk x0 x1 x2 K=>Tk x0 x1 x2 (fun a0 a1=>K [.ak (.pair (.int .i64) (.pair .str .unit)) a0 [],tI a1] none)) Zx (ek _ _ _ _) Tryz.func135 (by kernel_rfl) rfl (fun _ _ _ _ _ _ h=>h _ _) (fun _ _ _ _ _ _=>by kernel_rfl) fun R kk e x0 x1 x2 K=>by
 simp only[nN,Tk,aF]
def Ez:Env:={{b8.env (fun i=>bif Nat.beq i 12 then [4,6,7,8,9,16,59,60,61] else bif Nat.beq i 18 then [4,6,8,9,16,76,77,78] else []) (fun i=>bif Nat.beq i 12 then [4,6,7,8,9,16] else bif Nat.beq i 18 then [8,9,16] else []) [8,9] [cB,aK,aK,y8] with dr:=fun i=>bif Nat.beq i 12 then [17] else []} with ro:=true}
def Ud(a:bQ)(b c:Int)(d:ay)(e:af)(f g:aw)(h:aQ)(i:aw):Option R:=aB (ev Ez (kN R) kk (sub [1,1,1,1,1,1,0,1,0,0] (cd Tryz.f91))) [4,6,7,8,9,16,59,60,61] [4,6,7,8,9,16] k ⟨uS 4 ([.ptr 5 cB []]::uS 1 ([.ptr 7 aK []]::[.ptr 8 y8 []]::[.ptr 9 y8 []]::[.ptr 10 (.pair (.int .i64) (.pair (.int .i64) .unit)) []]::uS 6 ([.ptr 17 y8 []]::uS 42 ([.ak (.sl 102 cw) a []]::[tI b]::[tI c]::uS 60 [])))),nS 5 ((some ⟨cB,d,[]⟩)::nS 1 ((some ⟨aK,e,[]⟩)::(some ⟨y8,f,[]⟩)::(some ⟨y8,g,[[1]]⟩)::(some ⟨(.pair (.int .i64) (.pair (.int .i64) .unit)),h,[]⟩)::nS 6 ((some ⟨y8,i,[]⟩)::nS 105 [])))⟩ J
def zg1(a:ay)(b:af)(c d:aw)(e:aQ)(f:aw):State:=⟨uS 4 ([.ptr 5 cB []]::uS 1 ([.ptr 7 aK []]::[.ptr 8 y8 []]::[.ptr 9 y8 []]::[.ptr 10 (.pair (.int .i64) (.pair (.int .i64) .unit)) []]::uS 6 ([.ptr 17 y8 []]::uS 105 []))),nS 5 ((some ⟨cB,a,[]⟩)::nS 1 ((some ⟨aK,b,[]⟩)::(some ⟨y8,c,[]⟩)::(some ⟨y8,d,[[1]]⟩)::(some ⟨(.pair (.int .i64) (.pair (.int .i64) .unit)),e,[]⟩)::nS 6 ((some ⟨y8,f,[]⟩)::nS 105 [])))⟩
def MK:KX R:=(zi 0 (aU Ez (kN R) kk (sub [1,1,1,1,1,1,1] (cd Tryz.f91)) (aT Ez Tryz.f91.results.toList none K)))
def Ue(a:ap)(b c:Int)(d:ay)(e:af)(f:aw)(g:aQ)(h:aw):Option R:=aB (ev Ez (kN R) kk (sub [1,1,1,1,1,1,1,0,1,0,0] (cd Tryz.f91))) [4,6,8,9,16,76,77,78] [8,9,16] k ⟨uS 4 ([.ptr 5 cB []]::uS 1 ([.ptr 7 aK []]::uS 1 ([.ptr 9 y8 []]::[.ptr 10 (.pair (.int .i64) (.pair (.int .i64) .unit)) []]::uS 6 ([.ptr 17 y8 []]::uS 59 ([.ak (.sl 208 (.pair (.int .i64) (.pair .str .unit))) a []]::[tI b]::[tI c]::uS 43 []))))),nS 5 ((some ⟨cB,d,[]⟩)::nS 1 ((some ⟨aK,e,[]⟩)::nS 1 ((some ⟨y8,f,[[1]]⟩)::(some ⟨(.pair (.int .i64) (.pair (.int .i64) .unit)),g,[]⟩)::nS 6 ((some ⟨y8,h,[]⟩)::nS 105 []))))⟩ J
def zg2(a:aw)(b:aQ)(c:aw):State:=⟨uS 8 ([.ptr 9 y8 []]::[.ptr 10 (.pair (.int .i64) (.pair (.int .i64) .unit)) []]::uS 6 ([.ptr 17 y8 []]::uS 105 [])),nS 9 ((some ⟨y8,a,[[1]]⟩)::(some ⟨(.pair (.int .i64) (.pair (.int .i64) .unit)),b,[]⟩)::nS 6 ((some ⟨y8,c,[]⟩)::nS 105 []))⟩
def zg3(a:aw)(b:aQ)(c:aw):State:=⟨uS 8 ([.ptr 9 y8 []]::[.ptr 10 (.pair (.int .i64) (.pair (.int .i64) .unit)) []]::uS 6 ([.ptr 17 y8 []]::uS 105 [])),nS 9 ((some ⟨y8,a,[[1]]⟩)::(some ⟨(.pair (.int .i64) (.pair (.int .i64) .unit)),b,[]⟩)::nS 6 ((some ⟨y8,c,[]⟩)::nS 105 []))⟩
def zzf:KX R:=(zi 2 (aU Ez (kN R) kk (sub [1,1,1,1,1,1,1,1] (cd Tryz.f91)) (aT Ez Tryz.f91.results.toList none K)))
theorem akh(a:bQ)(b c:Int)(d:ay)(e:af)(f g:aw)(h:aQ)(i:aw):Ud R kk (k+1) J a b c d e f g h i=
 zzg a b c d e f g h i (Ud R kk k J) (fun a0 a1 a2 a3 a4 a5=>J (.exit 0) (zg1 a0 a1 a2 a3 a4 a5)):=by kernel_rfl
theorem ad6(a:ay)(b:af)(c d:aw)(e:aQ)(f:aw):MK R kk K (.exit 0) (zg1 a b c d e f)=
 Ug a b c d e f (Ue R kk kk (zzf R kk K)):=by kernel_rfl
theorem aki(a:ap)(b c:Int)(d:ay)(e:af)(f:aw)(g:aQ)(h:aw):Ue R kk (k+1) J a b c d e f g h=
 zzh a b c d e f g h (fun a0 a1 a2=>J .ret (zg2 a0 a1 a2)) (Ue R kk k J) (fun a0 a1 a2=>J (.exit 2) (zg3 a0 a1 a2)):=by kernel_rfl
theorem ad7(a:aw)(b:aQ)(c:aw):zzf R kk K .ret (zg2 a b c)=
 zzi a b c (fun a0 a1=>K [.ak y8 a0 [],.ak (.pair (.int .i64) (.pair (.int .i64) .unit)) a1 []] none):=by kernel_rfl
theorem ad8(a:aw)(b:aQ)(c:aw):zzf R kk K (.exit 2) (zg3 a b c)=
 zzj a b c (fun a0 a1=>K [.ak y8 a0 [],.ak (.pair (.int .i64) (.pair (.int .i64) .unit)) a1 []] none):=by kernel_rfl
theorem ahe{kk:Nat}(hF:kk=ai)(t59:bQ)(t60 t61:Int)(cN:ay)(jM:af)(iy Bq:aw)(Br:aQ)(jL:aw):Ud R kk k J t59 t60 t61 cN jM iy Bq Br jL=(Pa k t59 t60 t61 cN jM iy Bq Br jL).bind fun e=>J (.exit 0) (zg1 e.1 e.2.1 e.2.2.1 e.2.2.2.1 e.2.2.2.2.1 e.2.2.2.2.2):=by
 induction k generalizing t59 t60 t61 cN jM iy Bq Br jL with
 |zero=>rfl
 |succ k ih=>
  rw[akh]
  simp only[Pa,zzg,ih,aF]
theorem ahf{kk:Nat}(hF:kk=ai)(t76:ap)(t77 t78:Int)(cN:ay)(jM:af)(Bq:aw)(Br:aQ)(jL:aw):Ue R kk k J t76 t77 t78 cN jM Bq Br jL=(Pb k t76 t77 t78 cN jM Bq Br jL).bind fun e=>(Sum.elim (fun(we:qF)=>J .ret (zg2 we.1 we.2.1 we.2.2)) (fun(we:qF)=>J (.exit 2) (zg3 we.1 we.2.1 we.2.2)) e):=by
 induction k generalizing t76 t77 t78 cN jM Bq Br jL with
 |zero=>rfl
 |succ k ih=>
  rw[aki]
  simp only[Pb,zzh,ih,aF]
def yR:ah:=kN.add 91 [cB,aK,aK,y8] (QA cB aK aK y8 qB (fun _ r K=>K [.ak y8 r.1 [],.ak (.pair (.int .i64) (.pair (.int .i64) .unit)) r.2 []] none))
theorem Zz:aO Tryz.prog yR:=Z2 Ez Tryz.f91 (fun R kk x0 x1 x2 x3 K=>Uf x0 x1 x2 x3 (fun a0 a1=>K [.ak y8 a0 [],.ak (.pair (.int .i64) (.pair (.int .i64) .unit)) a1 []] none) (Ud R kk kk (MK R kk K))) Zy (((ek _ _ _ _).dr _).ro _) Tryz.func91 (by kernel_rfl) rfl (fun _ _ _ _ _ _ h=>h _ _) (fun _ _ _ _ _ _ _=>by kernel_rfl) fun R kk e x0 x1 x2 x3 K=>by
 simp only[qB,Uf,Ug,zzi,zzj,ahe (hF:=e),ahf (hF:=e),ad6,ad7,ad8,aF,<-e]
def al4:Env:={e0 [bu,(.int .i64),.str] with fr:=fun i=>bif Nat.beq i 5 then [12,4] else []}
def yS:ah:=yR.add 63 [bu,(.int .i64),.str] (kb bu (.int .i64) .str sL (fun _ r K=>K [tI r.1,tS r.2] none))
theorem ZA:aO Tryz.prog yS:=ko al4 Tryz.f63 (fun R kk x0 x1 x2 K=>Ti x0 x1 x2 (fun a0 a1=>K [tI a0,tS a1] none)) Zz ((ek _ _ _ _).fr _) Tryz.func63 (by kernel_rfl) rfl (fun _ _ _ _ _ _ h=>h _ _) (fun _ _ _ _ _ _=>by kernel_rfl) fun R kk e x0 x1 x2 K=>by
 simp only[sL,Ti,aF]
def GQ:Env:=e0 [.str]
def yT:ah:=yS.add 64 [.str] (cK .str Bb (fun _ r K=>K [tS r.1,tI r.2] none))
theorem ZB:aO Tryz.prog yT:=cM GQ Tryz.f64 (fun R kk x0 K=>VQ x0 (fun a0 a1=>K [tS a0,tI a1] none)) ZA (ek _ _ _ _) Tryz.func64 (by kernel_rfl) rfl (fun _ _ _ _ _ _ h=>h _ _) (fun _ _ _ _=>by kernel_rfl) fun R kk e x0 K=>by
 simp only[Bb,VQ,aF]
def GX:Env:={b8.env (fun _=>[]) (fun _=>[]) [6] [.unit,(.int .i64),.str] with gr:=fun t=>bif Nat.beq t 87 then some (bu,y6) else none,ga:=fun t=>Nat.beq t 85}
def pT:ah:=yT.add 46 [.unit,(.int .i64),.str] (ZP (.aG .bz bu y6) [[],[0],[0,2],[1],[1,2]] (.int .i64) .str EP (fun _ r K=>K [.ak y9 r.1 []] (some ⟨(.aG .bz bu y6),r.2,[[],[0],[0,2],[1],[1,2]]⟩)))
theorem ZC:aO Tryz.prog pT:=sb2 GX Tryz.f46 (fun R kk x0 x1 x2 K=>VW x0 x1 x2 (fun a0 a1=>K [.ak y9 a0 []] (some ⟨(.aG .bz bu y6),a1,[[],[0],[0,2],[1],[1,2]]⟩))) ZB ((ek _ _ _ _).bz 87 85 bu y6 (by kernel_rfl) (by kernel_rfl) (by kernel_rfl) (by kernel_rfl)) Tryz.func46 (by kernel_rfl) rfl (fun _ _ _ _ _ _ h=>h _ _) (fun _ _ _ _ _ _=>by kernel_rfl) fun R kk e x0 x1 x2 K=>by
 simp only[EP,VW,aF]
def oL:Env:={{b8.env (fun i=>bif Nat.beq i 6 then [0,3,5,7,27,28,29] else []) (fun i=>bif Nat.beq i 6 then [0,3,5,7] else []) [] [.unit,(.pair (.int .i64) (.pair .str .unit))] with ro:=true} with gr:=fun t=>bif Nat.beq t 87 then some (bu,y6) else none,ga:=fun t=>Nat.beq t 85}
def VS(a:cp)(b:Bool)(c:(List ByteArray))(d e:Int)(f:(al×(Option ag×Option ag)×Int))(g:bh):Option R:=aB (ev oL (pT R) kk (sub [1,1,1,1,0,1,0,0] (cd Tryz.f21))) [0,3,5,7,27,28,29] [0,3,5,7] k ⟨[.ptr 0 (.aG .bz bu y6) []]::uS 2 ([.ptr 4 (.pair (.int .i64) (.pair .str .unit)) []]::uS 1 ([.ak (.sl 71 y9) a [[]]]::uS 1 ([tB b]::uS 19 ([.ak (.sl 9 .str) c []]::[tI d]::[tI e]::uS 24 [])))),(some ⟨(.aG .bz bu y6),f,[[],[0],[0,2],[1],[1,2]]⟩)::nS 3 ((some ⟨(.pair (.int .i64) (.pair .str .unit)),g,[]⟩)::nS 50 [])⟩ J
def zoq(a:cp)(b:Bool)(c:(al×(Option ag×Option ag)×Int))(d:bh):State:=⟨[.ptr 0 (.aG .bz bu y6) []]::uS 2 ([.ptr 4 (.pair (.int .i64) (.pair .str .unit)) []]::uS 1 ([.ak (.sl 71 y9) a [[]]]::uS 1 ([tB b]::uS 46 []))),(some ⟨(.aG .bz bu y6),c,[[],[0],[0,2],[1],[1,2]]⟩)::nS 3 ((some ⟨(.pair (.int .i64) (.pair .str .unit)),d,[]⟩)::nS 50 [])⟩
def Nw(a:(al×(Option ag×Option ag)×Int)):KX R:=(zi 0 (aU oL (pT R) kk (sub [1,1,1,1,1] (cd Tryz.f21)) (aT oL Tryz.f21.results.toList (some ⟨(.aG .bz bu y6),a,[[],[0],[0,2],[1],[1,2]]⟩) K)))
theorem amx(a:cp)(b:Bool)(c:(List ByteArray))(d e:Int)(f:(al×(Option ag×Option ag)×Int))(g:bh):VS R kk (k+1) J a b c d e f g=
 CV a b c d e f g (VS R kk k J) (fun a0 a1 a2 a3=>J (.exit 0) (zoq a0 a1 a2 a3)):=by kernel_rfl
theorem ahp(a:(al×(Option ag×Option ag)×Int))(b:cp)(c:Bool)(d:(al×(Option ag×Option ag)×Int))(e:bh):Nw R kk K a (.exit 0) (zoq b c d e)=
 PB b c d e (fun a0 a1=>K [.ak (.sl 71 y9) a0 []] (some ⟨(.aG .bz bu y6),a1,[[],[0],[0,2],[1],[1,2]]⟩)):=by kernel_rfl
theorem akr{kk:Nat}(hF:kk=ai)(t5:cp)(t7:Bool)(t27:(List ByteArray))(t28 t29:Int)(recv:(al×(Option ag×Option ag)×Int))(c9:bh):VS R kk k J t5 t7 t27 t28 t29 recv c9=(FU k t5 t7 t27 t28 t29 recv c9).bind fun e=>J (.exit 0) (zoq e.1 e.2.1 e.2.2.1 e.2.2.2):=by
 induction k generalizing t5 t7 t27 t28 t29 recv c9 with
 |zero=>rfl
 |succ k ih=>
  rw[amx]
  simp only[FU,CV,ih,aF]
def pU:ah:=pT.add 21 [.unit,(.pair (.int .i64) (.pair .str .unit))] (Cf (.aG .bz bu y6) [[],[0],[0,2],[1],[1,2]] (.pair (.int .i64) (.pair .str .unit)) vz (fun _ r K=>K [.ak (.sl 71 y9) r.1 []] (some ⟨(.aG .bz bu y6),r.2,[[],[0],[0,2],[1],[1,2]]⟩)))
theorem ZD:aO Tryz.prog pU:=JJ oL Tryz.f21 (fun R kk x0 x1 K=>PA x0 x1 (fun a0 a1=>K [.ak (.sl 71 y9) a0 []] (some ⟨(.aG .bz bu y6),a1,[[],[0],[0,2],[1],[1,2]]⟩)) (VS R kk kk (Nw R kk K x0))) ZC (((ek _ _ _ _).ro _).bz 87 85 bu y6 (by kernel_rfl) (by kernel_rfl) (by kernel_rfl) (by kernel_rfl)) Tryz.func21 (by kernel_rfl) rfl (fun _ _ _ _ _ _ h=>h _ _) (fun _ _ _ _ _=>by kernel_rfl) fun R kk e x0 x1 K=>by
 simp only[vz,PA,PB,akr (hF:=e),ahp,aF,<-e]
def oM:Env:=b8.env (fun i=>bif Nat.beq i 3 then [0,5,8,9,10] else []) (fun i=>bif Nat.beq i 3 then [5] else []) [] [.unit,(.sl 57 (.pair (.int .i64) (.pair .str .unit)))]
def VU(a:cp)(b:ap)(c d:Int)(e:(al×(Option ag×Option ag)×Int)):Option R:=aB (ev oM (pU R) kk (sub [1,1,0,1,0,0] (cd Tryz.f23))) [0,5,8,9,10] [5] k ⟨[.ptr 0 (.aG .bz bu y6) []]::uS 4 ([.ak (.sl 71 y9) a [[]]]::uS 2 ([.ak (.sl 57 (.pair (.int .i64) (.pair .str .unit))) b []]::[tI c]::[tI d]::uS 10 [])),(some ⟨(.aG .bz bu y6),e,[[],[0],[0,2],[1],[1,2]]⟩)::nS 21 []⟩ J
def zor(a:cp)(b:(al×(Option ag×Option ag)×Int)):State:=⟨uS 5 ([.ak (.sl 71 y9) a [[]]]::uS 15 []),(some ⟨(.aG .bz bu y6),b,[[],[0],[0,2],[1],[1,2]]⟩)::nS 21 []⟩
def Nx(a:(al×(Option ag×Option ag)×Int)):KX R:=(zi 0 (aU oM (pU R) kk (sub [1,1,1] (cd Tryz.f23)) (aT oM Tryz.f23.results.toList (some ⟨(.aG .bz bu y6),a,[[],[0],[0,2],[1],[1,2]]⟩) K)))
theorem amy(a:cp)(b:ap)(c d:Int)(e:(al×(Option ag×Option ag)×Int)):VU R kk (k+1) J a b c d e=
 CX a b c d e (VU R kk k J) (fun a0 a1=>J (.exit 0) (zor a0 a1)):=by kernel_rfl
theorem ahq(a:(al×(Option ag×Option ag)×Int))(b:cp)(c:(al×(Option ag×Option ag)×Int)):Nx R kk K a (.exit 0) (zor b c)=
 CY b c (fun a0 a1=>K [.ak (.sl 71 y9) a0 []] (some ⟨(.aG .bz bu y6),a1,[[],[0],[0,2],[1],[1,2]]⟩)):=by kernel_rfl
theorem aks{kk:Nat}(hF:kk=ai)(t5:cp)(t8:ap)(t9 t10:Int)(recv:(al×(Option ag×Option ag)×Int)):VU R kk k J t5 t8 t9 t10 recv=(VV k t5 t8 t9 t10 recv).bind fun e=>J (.exit 0) (zor e.1 e.2):=by
 induction k generalizing t5 t8 t9 t10 recv with
 |zero=>rfl
 |succ k ih=>
  rw[amy]
  simp only[VV,CX,ih,aF]
def pV:ah:=pU.add 23 [.unit,(.sl 57 (.pair (.int .i64) (.pair .str .unit)))] (Cf (.aG .bz bu y6) [[],[0],[0,2],[1],[1,2]] (.sl 57 (.pair (.int .i64) (.pair .str .unit))) P5 (fun _ r K=>K [.ak (.sl 71 y9) r.1 []] (some ⟨(.aG .bz bu y6),r.2,[[],[0],[0,2],[1],[1,2]]⟩)))
theorem ZE:aO Tryz.prog pV:=JJ oM Tryz.f23 (fun R kk x0 x1 K=>CW x0 x1 (VU R kk kk (Nx R kk K x0))) ZD (ek _ _ _ _) Tryz.func23 (by kernel_rfl) rfl (fun _ _ _ _ _ _ h=>h _ _) (fun _ _ _ _ _=>by kernel_rfl) fun R kk e x0 x1 K=>by
 simp only[P5,CW,CY,aks (hF:=e),ahq,aF,<-e]
def UW:Env:=b8.env (fun i=>bif Nat.beq i 4 then [0,1,5] else []) (fun i=>bif Nat.beq i 4 then [4] else []) [] [(.sl 71 y9),(.sl 71 y9)]
def Sy(a b:cp)(c:Int):Option R:=aB (ev UW (pV R) kk (sub [1,1,0,1,0,0] (cd Tryz.f20))) [0,1,5] [4] k ⟨[.ak (.sl 71 y9) a []]::[.ak (.sl 71 y9) b []]::uS 3 ([tI c]::uS 20 []),nS 27 []⟩ J
def zem(a:Bool):State:=⟨uS 4 ([tB a]::uS 21 []),nS 27 []⟩
def zen:State:=⟨uS 26 [],nS 27 []⟩
def zx7:KX R:=(zi 0 (aU UW (pV R) kk (sub [1,1,1] (cd Tryz.f20)) (aT UW Tryz.f20.results.toList none K)))
theorem ajL(a b:cp)(c:Int):Sy R kk (k+1) J a b c=
 zx9 a b c (fun a0=>J .ret (zem a0)) (Sy R kk k J) (J (.exit 0) (zen)):=by kernel_rfl
theorem adj(a:Bool):zx7 R kk K .ret (zem a)=
 zxa a (fun a0=>K [tB a0] none):=by kernel_rfl
theorem adk:zx7 R kk K (.exit 0) (zen)=
 zxb (fun a0=>K [tB a0] none):=by kernel_rfl
theorem agE{kk:Nat}(hF:kk=ai)(lH s8:cp)(t5:Int):Sy R kk k J lH s8 t5=(Sz k lH s8 t5).bind fun e=>(Sum.elim (fun(we:Bool)=>J .ret (zem we)) (fun(we:Unit)=>J (.exit 0) (zen)) e):=by
 induction k generalizing lH s8 t5 with
 |zero=>rfl
 |succ k ih=>
  rw[ajL]
  simp only[Sz,zx9,ih,aF]
def yU:ah:=pV.add 20 [(.sl 71 y9),(.sl 71 y9)] (dw (.sl 71 y9) (.sl 71 y9) vl (fun _ r K=>K [tB r] none))
theorem ZF:aO Tryz.prog yU:=dD UW Tryz.f20 (fun R kk x0 x1 K=>zx8 x0 x1 (fun a0=>K [tB a0] none) (Sy R kk kk (zx7 R kk K))) ZE (ek _ _ _ _) Tryz.func20 (by kernel_rfl) rfl (fun _ _ _ _ _ _ h=>h _ _) (fun _ _ _ _ _=>by kernel_rfl) fun R kk e x0 x1 K=>by
 simp only[vl,zx8,zxa,zxb,agE (hF:=e),adj,adk,aF,<-e]
def GU:Env:={e0 [.unit] with gr:=fun t=>bif Nat.beq t 87 then some (bu,y6) else none,ga:=fun t=>Nat.beq t 85}
def yV:ah:=yU.add 15 [.unit] (Fc (.aG .bz bu y6) [[],[0],[0,2],[1],[1,2]] Bc (fun _ r K=>K [tI r.1] (some ⟨(.aG .bz bu y6),r.2,[[],[0],[0,2],[1],[1,2]]⟩)))
theorem ZG:aO Tryz.prog yV:=QF GU Tryz.f15 (fun R kk x0 K=>CU x0 (fun a0 a1=>K [tI a0] (some ⟨(.aG .bz bu y6),a1,[[],[0],[0,2],[1],[1,2]]⟩))) ZF ((ek _ _ _ _).bz 87 85 bu y6 (by kernel_rfl) (by kernel_rfl) (by kernel_rfl) (by kernel_rfl)) Tryz.func15 (by kernel_rfl) rfl (fun _ _ _ _ _ _ h=>h _ _) (fun _ _ _ _=>by kernel_rfl) fun R kk e x0 K=>by
 simp only[Bc,CU,aF]
def GI:Env:=e0 [.unit]
def yW:ah:=yV.add 44 [.unit] (Fc y6 [[2]] WV (fun _ r K=>K [tB r.1] (some ⟨y6,r.2,[[2]]⟩)))
theorem ZH:aO Tryz.prog yW:=QF GI Tryz.f44 (fun R kk x0 K=>CR x0 (fun a0 a1=>K [tB a0] (some ⟨y6,a1,[[2]]⟩))) ZG (ek _ _ _ _) Tryz.func44 (by kernel_rfl) rfl (fun _ _ _ _ _ _ h=>h _ _) (fun _ _ _ _=>by kernel_rfl) fun R kk e x0 K=>by
 simp only[WV,CR,aF]
def GR:Env:={e0 [.unit,(.int .i64)] with gr:=fun t=>bif Nat.beq t 87 then some (bu,y6) else none,ga:=fun t=>Nat.beq t 85}
def yX:ah:=yW.add 17 [.unit,(.int .i64)] (Cf (.aG .bz bu y6) [[],[0],[0,2],[1],[1,2]] (.int .i64) vw (fun _ r K=>K [tB r.1] (some ⟨(.aG .bz bu y6),r.2,[[],[0],[0,2],[1],[1,2]]⟩)))
theorem ZI:aO Tryz.prog yX:=JJ GR Tryz.f17 (fun R kk x0 x1 K=>VR x0 x1 (fun a0 a1=>K [tB a0] (some ⟨(.aG .bz bu y6),a1,[[],[0],[0,2],[1],[1,2]]⟩))) ZH ((ek _ _ _ _).bz 87 85 bu y6 (by kernel_rfl) (by kernel_rfl) (by kernel_rfl) (by kernel_rfl)) Tryz.func17 (by kernel_rfl) rfl (fun _ _ _ _ _ _ h=>h _ _) (fun _ _ _ _ _=>by kernel_rfl) fun R kk e x0 x1 K=>by
 simp only[vw,VR,aF]
def GJ:Env:=e0 [.unit]
def yY:ah:=yX.add 43 [.unit] (Fc y6 [[2]] WW (fun _ r K=>K [tI r.1] (some ⟨y6,r.2,[[2]]⟩)))
theorem ZJ:aO Tryz.prog yY:=QF GJ Tryz.f43 (fun R kk x0 K=>CT x0 (fun a0 a1=>K [tI a0] (some ⟨y6,a1,[[2]]⟩))) ZI (ek _ _ _ _) Tryz.func43 (by kernel_rfl) rfl (fun _ _ _ _ _ _ h=>h _ _) (fun _ _ _ _=>by kernel_rfl) fun R kk e x0 K=>by
 simp only[WW,CT,aF]
def GV:Env:={e0 [.unit,(.int .i64)] with gr:=fun t=>bif Nat.beq t 87 then some (bu,y6) else none,ga:=fun t=>Nat.beq t 85}
def yZ:ah:=yY.add 16 [.unit,(.int .i64)] (Cf (.aG .bz bu y6) [[],[0],[0,2],[1],[1,2]] (.int .i64) x7 (fun _ r K=>K [tI r.1] (some ⟨(.aG .bz bu y6),r.2,[[],[0],[0,2],[1],[1,2]]⟩)))
theorem ZK:aO Tryz.prog yZ:=JJ GV Tryz.f16 (fun R kk x0 x1 K=>VT x0 x1 (fun a0 a1=>K [tI a0] (some ⟨(.aG .bz bu y6),a1,[[],[0],[0,2],[1],[1,2]]⟩))) ZJ ((ek _ _ _ _).bz 87 85 bu y6 (by kernel_rfl) (by kernel_rfl) (by kernel_rfl) (by kernel_rfl)) Tryz.func16 (by kernel_rfl) rfl (fun _ _ _ _ _ _ h=>h _ _) (fun _ _ _ _ _=>by kernel_rfl) fun R kk e x0 x1 K=>by
 simp only[x7,VT,aF]
def G1:Env:=e0 []
def jJ:ah:=yZ.add 10 [] (Fe vA (fun _ r K=>K [tB r] none))
theorem ZL:aO Tryz.prog jJ:=JL G1 Tryz.f10 (fun R kk K=>C6 (fun a0=>K [tB a0] none)) ZK (ek _ _ _ _) Tryz.func10 (by kernel_rfl) rfl (fun _ _ _ _ _ _ h=>h _ _) (fun _ _ _=>by kernel_rfl) fun R kk e K=>by
 simp only[vA,C6,aF]
def jF:Env:=b8.env (fun i=>bif Nat.beq i 5 then [2,3,7,17,27,28,29] else bif Nat.beq i 9 then [2,3,7,17,27,28,29,36] else []) (fun i=>bif Nat.beq i 5 then [2,6,7,17] else bif Nat.beq i 9 then [2,3,6,7,17,27,28,29] else []) [] [bu,(.sl 57 (.pair (.int .i64) (.pair .str .unit))),(.int .i64)]
def V3(a:Int)(b:Bool)(c:ap)(d e:Int)(f:al)(g:(al×(Option ag×Option ag)×Int)):Option R:=aB (ev jF (jJ R) kk (sub [1,1,1,0,1,0,0] (cd Tryz.f8))) [2,3,7,17,27,28,29] [2,6,7,17] k ⟨uS 2 ([tI a]::[.ptr 4 bu []]::uS 3 ([.ptr 18 (.aG .bz bu y6) []]::uS 9 ([.ptr 18 (.aG .bz bu y6) [],tB b]::uS 9 ([.ak (.sl 57 (.pair (.int .i64) (.pair .str .unit))) c []]::[tI d]::[tI e]::uS 55 [])))),nS 4 ((some ⟨bu,f,[]⟩)::nS 13 ((some ⟨(.aG .bz bu y6),g,[[],[0],[0,2],[1],[1,2]]⟩)::nS 67 []))⟩ J
def zou(a:Int)(b:Bool)(c:(al×(Option ag×Option ag)×Int)):State:=⟨uS 2 ([tI a]::uS 4 ([.ptr 18 (.aG .bz bu y6) []]::uS 9 ([.ptr 18 (.aG .bz bu y6) [],tB b]::uS 67 []))),nS 18 ((some ⟨(.aG .bz bu y6),c,[[],[0],[0,2],[1],[1,2]]⟩)::nS 67 [])⟩
def zov(a:Int)(b c:Bool)(d:(al×(Option ag×Option ag)×Int)):State:=⟨uS 2 ([tI a]::uS 3 ([tB b]::[.ptr 18 (.aG .bz bu y6) []]::uS 9 ([.ptr 18 (.aG .bz bu y6) [],tB c]::uS 67 []))),nS 18 ((some ⟨(.aG .bz bu y6),d,[[],[0],[0,2],[1],[1,2]]⟩)::nS 67 [])⟩
def C2:KX R:=(zi 0 (aU jF (jJ R) kk (sub [1,1,1,1] (cd Tryz.f8)) (aT jF Tryz.f8.results.toList none K)))
def V4(a:Int)(b:Bool)(c:ap)(d e f:Int)(g:al)(h:(al×(Option ag×Option ag)×Int)):Option R:=aB (ev jF (jJ R) kk (sub [1,1,1,0,1,0,0,1,1,0,0,1,1,1,0,0] (cd Tryz.f8))) [2,3,7,17,27,28,29,36] [2,3,6,7,17,27,28,29] k ⟨uS 2 ([tI a]::[.ptr 4 bu []]::uS 3 ([.ptr 18 (.aG .bz bu y6) []]::uS 9 ([.ptr 18 (.aG .bz bu y6) [],tB b]::uS 9 ([.ak (.sl 57 (.pair (.int .i64) (.pair .str .unit))) c []]::[tI d]::[tI e]::uS 6 ([tI f]::uS 48 []))))),nS 4 ((some ⟨bu,g,[]⟩)::nS 13 ((some ⟨(.aG .bz bu y6),h,[[],[0],[0,2],[1],[1,2]]⟩)::nS 67 []))⟩ J
def zow(a:Int)(b c:Bool)(d:ap)(e f:Int)(g:al)(h:(al×(Option ag×Option ag)×Int)):State:=⟨uS 2 ([tI a]::[.ptr 4 bu []]::uS 2 ([tB b]::[.ptr 18 (.aG .bz bu y6) []]::uS 9 ([.ptr 18 (.aG .bz bu y6) [],tB c]::uS 9 ([.ak (.sl 57 (.pair (.int .i64) (.pair .str .unit))) d []]::[tI e]::[tI f]::uS 55 [])))),nS 4 ((some ⟨bu,g,[]⟩)::nS 13 ((some ⟨(.aG .bz bu y6),h,[[],[0],[0,2],[1],[1,2]]⟩)::nS 67 []))⟩
def zox(a:Int)(b:Bool)(c:ap)(d e:Int)(f:al)(g:(al×(Option ag×Option ag)×Int)):State:=⟨uS 2 ([tI a]::[.ptr 4 bu []]::uS 3 ([.ptr 18 (.aG .bz bu y6) []]::uS 9 ([.ptr 18 (.aG .bz bu y6) [],tB b]::uS 9 ([.ak (.sl 57 (.pair (.int .i64) (.pair .str .unit))) c []]::[tI d]::[tI e]::uS 55 [])))),nS 4 ((some ⟨bu,f,[]⟩)::nS 13 ((some ⟨(.aG .bz bu y6),g,[[],[0],[0,2],[1],[1,2]]⟩)::nS 67 []))⟩
def C3:KX R:=(zi 2 (zi 1 (aU jF (jJ R) kk (sub [1,1,1,0,1,0,0,1,1,1] (cd Tryz.f8)) (kX (ev jF (jJ R) kk (sub [1,1,1,0,1,0,0] (cd Tryz.f8))) [2,3,7,17,27,28,29] [2,6,7,17] k J))))
theorem amB(a:Int)(b:Bool)(c:ap)(d e:Int)(f:al)(g:(al×(Option ag×Option ag)×Int)):V3 R kk (k+1) J a b c d e f g=
 PD a b c d e f g (V4 R kk kk (C3 R kk k J)) (fun a0 a1 a2=>J (.exit 0) (zou a0 a1 a2)):=by kernel_rfl
theorem aht(a:Int)(b:Bool)(c:(al×(Option ag×Option ag)×Int)):C2 R kk K (.exit 0) (zou a b c)=
 V6 a b c (fun a0=>K [tB a0] none):=by kernel_rfl
theorem amC(a:Int)(b:Bool)(c:ap)(d e f:Int)(g:al)(h:(al×(Option ag×Option ag)×Int)):V4 R kk (k+1) J a b c d e f g h=
 FW a b c d e f g h (fun a0 a1 a2 a3 a4 a5 a6 a7=>J .ret (zow a0 a1 a2 a3 a4 a5 a6 a7)) (V4 R kk k J) (fun a0 a1 a2 a3 a4 a5 a6=>J (.exit 2) (zox a0 a1 a2 a3 a4 a5 a6)):=by kernel_rfl
theorem ahv(a:Int)(b c:Bool)(d:ap)(e f:Int)(g:al)(h:(al×(Option ag×Option ag)×Int)):C3 R kk k J .ret (zow a b c d e f g h)=
 C4 a b c d e f g h (fun a0 a1 a2 a3=>J .ret (zov a0 a1 a2 a3)):=by kernel_rfl
theorem ahw(a:Int)(b:Bool)(c:ap)(d e:Int)(f:al)(g:(al×(Option ag×Option ag)×Int)):C3 R kk k J (.exit 2) (zox a b c d e f g)=
 V7 a b c d e f g (V3 R kk k J):=by kernel_rfl
theorem ahu(a:Int)(b c:Bool)(d:(al×(Option ag×Option ag)×Int)):C2 R kk K .ret (zov a b c d)=
 C5 a b c d (fun a0=>K [tB a0] none):=by kernel_rfl
end
end Go.Proofs.YtpjkbbihjoflnaaGreatDoor

namespace Go.Proofs.YtpjkbbihjoflnaaGreatDoor
noncomputable section
open Go Go.Ref bE
variable (R:Type) (kk k:Nat) (K:KF R) (J:KX R)
theorem akw{kk:Nat}(hF:kk=ai)(ff:Int)(kc:Bool)(t27:ap)(t28 t29 t36:Int)(c9:al)(iy:(al×(Option ag×Option ag)×Int)):V4 R kk k J ff kc t27 t28 t29 t36 c9 iy=(AV k ff kc t27 t28 t29 t36 c9 iy).bind fun e=>(Sum.elim (fun(we:(Int×Bool×Bool×ap×Int×Int×al×(al×(Option ag×Option ag)×Int)))=>J .ret (zow we.1 we.2.1 we.2.2.1 we.2.2.2.1 we.2.2.2.2.1 we.2.2.2.2.2.1 we.2.2.2.2.2.2.1 we.2.2.2.2.2.2.2)) (fun(we:(Int×Bool×ap×Int×Int×al×(al×(Option ag×Option ag)×Int)))=>J (.exit 2) (zox we.1 we.2.1 we.2.2.1 we.2.2.2.1 we.2.2.2.2.1 we.2.2.2.2.2.1 we.2.2.2.2.2.2)) e):=by
 induction k generalizing ff kc t27 t28 t29 t36 c9 iy with
 |zero=>rfl
 |succ k ih=>
  rw[amC]
  simp only[AV,FW,ih,aF]
theorem akv{kk:Nat}(hF:kk=ai)(ff:Int)(kc:Bool)(t27:ap)(t28 t29:Int)(c9:al)(iy:(al×(Option ag×Option ag)×Int)):V3 R kk k J ff kc t27 t28 t29 c9 iy=(ED k ff kc t27 t28 t29 c9 iy).bind fun e=>(Sum.elim (fun(we:(Int×Bool×(al×(Option ag×Option ag)×Int)))=>J (.exit 0) (zou we.1 we.2.1 we.2.2)) (fun(we:(Int×Bool×Bool×(al×(Option ag×Option ag)×Int)))=>J .ret (zov we.1 we.2.1 we.2.2.1 we.2.2.2)) e):=by
 induction k generalizing ff kc t27 t28 t29 c9 iy with
 |zero=>rfl
 |succ k ih=>
  rw[amB]
  simp only[ED,PD,C4,V7,ih,akw (hF:=hF),ahv,ahw,aF,<-hF]
def zA:ah:=jJ.add 8 [bu,(.sl 57 (.pair (.int .i64) (.pair .str .unit))),(.int .i64)] (kb bu (.sl 57 (.pair (.int .i64) (.pair .str .unit))) (.int .i64) G0 (fun _ r K=>K [tB r] none))
theorem ZM:aO Tryz.prog zA:=ko jF Tryz.f8 (fun R kk x0 x1 x2 K=>V5 x0 x1 x2 (fun a0=>K [tB a0] none) (V3 R kk kk (C2 R kk K))) ZL (ek _ _ _ _) Tryz.func8 (by kernel_rfl) rfl (fun _ _ _ _ _ _ h=>h _ _) (fun _ _ _ _ _ _=>by kernel_rfl) fun R kk e x0 x1 x2 K=>by
 simp only[G0,V5,V6,C5,akv (hF:=e),aht,ahu,aF,<-e]
end
end Go.Proofs.YtpjkbbihjoflnaaGreatDoor

