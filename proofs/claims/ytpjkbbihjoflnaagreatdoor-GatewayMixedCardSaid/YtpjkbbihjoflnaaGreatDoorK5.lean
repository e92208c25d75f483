/- No condition. -/
import Derived.Test.YtpjkbbihjoflnaaGreatDoorK4
set_option linter.unusedVariables false
set_option linter.unusedSimpArgs false
set_option maxRecDepth 100000
namespace Go.Proofs.YtpjkbbihjoflnaaGreatDoor
noncomputable section
open Go Go.Ref bm
variable (R:Type) (kk k:Nat) (K:KF R) (J:KX R)
theorem ame(a:bR)(b c:Int)(d e:af)(f g:aR):We R kk (k+1) J a b c d e f g=
 Dn a b c d e f g (fun a0 a1 a2=>J .ret (zgy a0 a1 a2)) (We R kk k J) (J (.exit 5) (zgz)):=by kernel_rfl
theorem afP(a b c:Int):Dj R kk K .ret (zgy a b c)=
 Dp a b c (fun a0 a1 a2=>K [tI a0,tI a1,tI a2] none):=by kernel_rfl
theorem afQ:Dj R kk K (.exit 5) (zgz)=
 Dq (fun a0 a1 a2=>K [tI a0,tI a1,tI a2] none):=by kernel_rfl
theorem ai4{kk:Nat}(hF:kk=ag)(t26:og)(t27 t28:Int)(dH:ax)(cQ eb:af):Wc R kk k J t26 t27 t28 dH cQ eb=(Hs k t26 t27 t28 dH cQ eb).bind fun e=>(Sum.elim (fun(we:lX)=>J .ret (zgu we.1 we.2.1 we.2.2.1 we.2.2.2.1 we.2.2.2.2.1 we.2.2.2.2.2)) (fun(we:lW)=>J (.exit 0) (zgv we.1 we.2.1 we.2.2)) e):=by
 induction k generalizing t26 t27 t28 dH cQ eb with
 |zero=>rfl
 |succ k ih=>
  rw[amc]
  simp only[Hs,Wh,ih,aD]
theorem ai5{kk:Nat}(hF:kk=ag)(t48:aO)(t49 t50:Int)(dH:ax)(cQ eb:af)(B8:ij):Wd R kk k J t48 t49 t50 dH cQ eb B8=(Ht k t48 t49 t50 dH cQ eb B8).bind fun e=>(Sum.elim (fun(we:lX)=>J .ret (zgw we.1 we.2.1 we.2.2.1 we.2.2.2.1 we.2.2.2.2.1 we.2.2.2.2.2)) (fun(we:lW)=>J (.exit 2) (zgx we.1 we.2.1 we.2.2)) e):=by
 induction k generalizing t48 t49 t50 dH cQ eb B8 with
 |zero=>rfl
 |succ k ih=>
  rw[amd]
  simp only[Ht,Dl,ih,aD]
theorem ai6{kk:Nat}(hF:kk=ag)(t77:bR)(t78 t79:Int)(cQ eb:af)(j6 B9:aR):We R kk k J t77 t78 t79 cQ eb j6 B9=(Rc k t77 t78 t79 cQ eb j6 B9).bind fun e=>(Sum.elim (fun(we:jw)=>J .ret (zgy we.1 we.2.1 we.2.2)) (fun(we:Unit)=>J (.exit 5) (zgz)) e):=by
 induction k generalizing t77 t78 t79 cQ eb j6 B9 with
 |zero=>rfl
 |succ k ih=>
  rw[ame]
  simp only[Rc,Dn,ih,aD]
def wX:ah:=mR.add 56 [cD,aK,aK] (kE cD aK aK q9 (fun _ r K=>K [tI r.1,tI r.2.1,tI r.2.2] none))
theorem o85:aP Tryz.prog wX:=kU vP Tryz.f56 (fun R kk x0 x1 x2 K=>Wg x0 x1 x2 (Wc R kk kk (Dh R kk K))) o84 (ek _ _ _ _) Tryz.func56 (by kernel_rfl) rfl (fun _ _ _ _ _ _ h=>h _ _) (fun _ _ _ _ _ _=>by kernel_rfl) fun R kk e x0 x1 x2 K=>by
 simp only[q9,Wg,Dk,Wi,Dm,Wj,Dp,Dq,ai4 (hF:=e),ai5 (hF:=e),ai6 (hF:=e),afL,afM,afN,afO,afP,afQ,aD,<-e]
def Xl:Env:=b9.env (fun i=>bif Nat.beq i 4 then [1,22,23] else []) (fun i=>bif Nat.beq i 4 then [2,3,4] else []) [] [bU]
def Vq(a:mT)(b:Int)(c:aA):Option R:=aB (ev Xl (wX R) kk (sub [1,1,0,1,0,0] (cd Tryz.f36))) [1,22,23] [2,3,4] k ⟨uS 1 ([.ptr 2 bU []]::uS 20 ([.aj (.arr 2 cz) a []]::[tI b]::uS 33 [])),nS 2 ((some ⟨bU,c,[]⟩)::nS 55 [])⟩ J
def zg7(a b c:Int):State:=⟨uS 2 ([tI a]::[tI b]::[tI c]::uS 52 []),nS 58 []⟩
def zg8:State:=⟨uS 57 [],nS 58 []⟩
def zzg:KX R:=(zk 0 (aU Xl (wX R) kk (sub [1,1,1] (cd Tryz.f36)) (aT Xl Tryz.f36.results.toList none K)))
theorem alX(a:mT)(b:Int)(c:aA):Vq R kk (k+1) J a b c=
 Hn a b c (fun a0 a1 a2=>J .ret (zg7 a0 a1 a2)) (Vq R kk k J) (J (.exit 0) (zg8)):=by kernel_rfl
theorem afp(a b c:Int):zzg R kk K .ret (zg7 a b c)=
 zzh a b c (fun a0 a1 a2=>K [tI a0,tI a1,tI a2] none):=by kernel_rfl
theorem afq:zzg R kk K (.exit 0) (zg8)=
 zzi (fun a0 a1 a2=>K [tI a0,tI a1,tI a2] none):=by kernel_rfl
theorem aiO{kk:Nat}(hF:kk=ag)(t22:mT)(t23:Int)(c9:aA):Vq R kk k J t22 t23 c9=(FP k t22 t23 c9).bind fun e=>(Sum.elim (fun(we:jw)=>J .ret (zg7 we.1 we.2.1 we.2.2)) (fun(we:Unit)=>J (.exit 0) (zg8)) e):=by
 induction k generalizing t22 t23 c9 with
 |zero=>rfl
 |succ k ih=>
  rw[alX]
  simp only[FP,Hn,ih,aD]
def wY:ah:=wX.add 36 [bU] (cO bU qZ (fun _ r K=>K [tI r.1,tI r.2.1,tI r.2.2] none))
theorem o86:aP Tryz.prog wY:=cP Xl Tryz.f36 (fun R kk x0 K=>Vr x0 (fun a0 a1 a2=>K [tI a0,tI a1,tI a2] none) (Vq R kk kk (zzg R kk K))) o85 (ek _ _ _ _) Tryz.func36 (by kernel_rfl) rfl (fun _ _ _ _ _ _ h=>h _ _) (fun _ _ _ _=>by kernel_rfl) fun R kk e x0 K=>by
 simp only[qZ,Vr,zzh,zzi,aiO (hF:=e),afp,afq,aD,<-e]
def pu:Env:=b9.env (fun i=>bif Nat.beq i 5 then [1,2,3,25,26,27] else []) (fun i=>bif Nat.beq i 5 then [1,2,3] else []) [2] [cz]
def Yg(a b:bR)(c d:Int)(e f:ar):Option R:=aB (ev pu (wY R) kk (sub [1,1,1,1,0,1,0,0] (cd Tryz.f37))) [1,2,3,25,26,27] [1,2,3] k ⟨uS 1 ([.ptr 2 cz []]::[.ptr 3 cz []]::[.aj (.sl 102 cB) a [[]]]::uS 21 ([.aj (.sl 102 cB) b []]::[tI c]::[tI d]::uS 24 [])),nS 2 ((some ⟨cz,e,[[0,2],[1,0]]⟩)::(some ⟨cz,f,[[0,2],[1,0],[1,1],[2],[3]]⟩)::nS 49 [])⟩ J
def zq0(a:bR)(b c:ar):State:=⟨uS 1 ([.ptr 2 cz []]::[.ptr 3 cz []]::[.aj (.sl 102 cB) a [[]]]::uS 48 []),nS 2 ((some ⟨cz,b,[[0,2],[1,0]]⟩)::(some ⟨cz,c,[[0,2],[1,0],[1,1],[2],[3]]⟩)::nS 49 [])⟩
def Pp:KX R:=(zk 0 (aU pu (wY R) kk (sub [1,1,1,1,1] (cd Tryz.f37)) (aT pu Tryz.f37.results.toList none K)))
theorem aov(a b:bR)(c d:Int)(e f:ar):Yg R kk (k+1) J a b c d e f=
 Es a b c d e f (Yg R kk k J) (fun a0 a1 a2=>J (.exit 0) (zq0 a0 a1 a2)):=by kernel_rfl
theorem ajl(a:bR)(b c:ar):Pp R kk K (.exit 0) (zq0 a b c)=
 Yi a b c (fun a0=>K [.aj cz a0 [[3],[2],[0,2],[1,0]]] none):=by kernel_rfl
theorem ams{kk:Nat}(hF:kk=ag)(t3 t25:bR)(t26 t27:Int)(c9 dG:ar):Yg R kk k J t3 t25 t26 t27 c9 dG=(RE k t3 t25 t26 t27 c9 dG).bind fun e=>J (.exit 0) (zq0 e.1 e.2.1 e.2.2):=by
 induction k generalizing t3 t25 t26 t27 c9 dG with
 |zero=>rfl
 |succ k ih=>
  rw[aov]
  simp only[RE,Es,ih,aD]
def JT:ah:=wY.add 37 [cz] (cO cz IC (fun _ r K=>K [.aj cz r [[3],[2],[0,2],[1,0]]] none))
theorem o87:aP Tryz.prog JT:=cP pu Tryz.f37 (fun R kk x0 K=>Yh x0 (Yg R kk kk (Pp R kk K))) o86 (ek _ _ _ _) Tryz.func37 (by kernel_rfl) rfl (fun _ _ _ _ _ _ h=>h _ _) (fun _ _ _ _=>by kernel_rfl) fun R kk e x0 K=>by
 simp only[IC,Yh,Yi,ams (hF:=e),ajl,aD,<-e]
def Iu:Env:=e0 [(.int .i64)]
def wZ:ah:=JT.add 38 [(.int .i64)] (cO (.int .i64) Is (fun _ r K=>(Sum.elim (fun(wr:Int)=>K [.dT,tI wr] none) (fun(wr:tP)=>K [.ptr 0 y6 [],tI wr.1] (some ⟨y6,wr.2,[[2]]⟩)) r)))
theorem o88:aP Tryz.prog wZ:=cP Iu Tryz.f38 (fun R kk x0 K=>X5 x0 (fun a0=>K [.dT,tI a0] none) (fun a0 a1=>K [.ptr 0 y6 [],tI a0] (some ⟨y6,a1,[[2]]⟩))) o87 (ek _ _ _ _) Tryz.func38 (by kernel_rfl) rfl (fun _ _ _ _ _ _ h=>Rq (fun _=>h _ _) (fun _=>h _ _)) (fun _ _ _ _=>by kernel_rfl) fun R kk e x0 K=>by
 simp only[Is,X5,aD]
def pr:Env:={{b9.env (fun i=>bif Nat.beq i 6 then [1,7,19,20] else []) (fun i=>bif Nat.beq i 6 then [7,19] else []) [] [bU] with sg:=some (4,9,7)} with gr:=fun t=>bif Nat.beq t 87 then some (bU,y6) else none,ga:=fun t=>Nat.beq t 85}
def Yd(a:Int)(b:aA)(c:(aA×(Option ap×Option ap)×Int)):Option R:=aB (ev pr (wZ R) kk (sub [1,1,1,0,1,0,0] (cd Tryz.f12))) [1,7,19,20] [7,19] k ⟨uS 1 ([.ptr 2 bU []]::uS 5 ([.ptr 20 (.aJ .bN bU y6) []]::uS 12 ([tI a]::uS 26 []))),nS 2 ((some ⟨bU,b,[]⟩)::nS 17 ((some ⟨(.aJ .bN bU y6),c,[[],[0],[0,2],[1],[1,2]]⟩)::nS 27 []))⟩ J
def zpz(a:(aA×(Option ap×Option ap)×Int)):State:=⟨uS 7 ([.ptr 20 (.aJ .bN bU y6) []]::uS 39 []),nS 20 ((some ⟨(.aJ .bN bU y6),a,[[],[0],[0,2],[1],[1,2]]⟩)::nS 27 [])⟩
def Po:KX R:=(zk 0 (aU pr (wZ R) kk (sub [1,1,1,1] (cd Tryz.f12)) (aT pr Tryz.f12.results.toList none K)))
theorem aou(a:Int)(b:aA)(c:(aA×(Option ap×Option ap)×Int)):Yd R kk (k+1) J a b c=
 HC a b c (Yd R kk k J) (fun a0=>J (.exit 0) (zpz a0)):=by kernel_rfl
theorem ajk(a:(aA×(Option ap×Option ap)×Int)):Po R kk K (.exit 0) (zpz a)=
 Er a (fun a0 a1=>K [.ptr 0 (.aJ .bN bU y6) [],tI a0] (some ⟨(.aJ .bN bU y6),a1,[[],[0],[0,2],[1],[1,2]]⟩)):=by kernel_rfl
theorem amr{kk:Nat}(hF:kk=ag)(t20:Int)(c9:aA)(iO:(aA×(Option ap×Option ap)×Int)):Yd R kk k J t20 c9 iO=(F8 k t20 c9 iO).bind fun e=>J (.exit 0) (zpz e):=by
 induction k generalizing t20 c9 iO with
 |zero=>rfl
 |succ k ih=>
  rw[aou]
  simp only[F8,HC,ih,aD]
def JU:ah:=wZ.add 12 [bU] (cO bU yD (fun _ r K=>(Sum.elim (fun(wr:Int)=>K [.dT,tI wr] none) (fun(wr:(Int×(aA×(Option ap×Option ap)×Int)))=>K [.ptr 0 (.aJ .bN bU y6) [],tI wr.1] (some ⟨(.aJ .bN bU y6),wr.2,[[],[0],[0,2],[1],[1,2]]⟩)) r)))
theorem o89:aP Tryz.prog JU:=cP pr Tryz.f12 (fun R kk x0 K=>Ye x0 (fun a0=>K [.dT,tI a0] none) (Yd R kk kk (Po R kk K))) o88 (((ek _ _ _ _).sg _).bN 87 85 bU y6 (by kernel_rfl) (by kernel_rfl) (by kernel_rfl) (by kernel_rfl)) Tryz.func12 (by kernel_rfl) rfl (fun _ _ _ _ _ _ h=>Rq (fun _=>h _ _) (fun _=>h _ _)) (fun _ _ _ _=>by kernel_rfl) fun R kk e x0 K=>by
 simp only[yD,Ye,Er,amr (hF:=e),ajk,aD,<-e]
def IG:Env:=e0 [bU,(.sl 57 (.pair (.int .i64) (.pair .str .unit))),(.int .i64)]
def xa:ah:=JU.add 18 [bU,(.sl 57 (.pair (.int .i64) (.pair .str .unit))),(.int .i64)] (kE bU (.sl 57 (.pair (.int .i64) (.pair .str .unit))) (.int .i64) yE (fun _ r K=>(Sum.elim (fun(wr:Unit)=>K [.dT,tB false] none) (fun(wr:(Bool×(aA×(Option ap×Option ap)×Int)))=>K [.ptr 0 (.aJ .bN bU y6) [],tB wr.1] (some ⟨(.aJ .bN bU y6),wr.2,[[],[0],[0,2],[1],[1,2]]⟩)) r)))
theorem o90:aP Tryz.prog xa:=kU IG Tryz.f18 (fun R kk x0 x1 x2 K=>Yk x0 x1 x2 (K [.dT,tB false] none) (fun a0 a1=>K [.ptr 0 (.aJ .bN bU y6) [],tB a0] (some ⟨(.aJ .bN bU y6),a1,[[],[0],[0,2],[1],[1,2]]⟩))) o89 (ek _ _ _ _) Tryz.func18 (by kernel_rfl) rfl (fun _ _ _ _ _ _ h=>Rq (fun _=>h _ _) (fun _=>h _ _)) (fun _ _ _ _ _ _=>by kernel_rfl) fun R kk e x0 x1 x2 K=>by
 simp only[yE,Yk,aD]
def W4:Env:=b9.env (fun i=>bif Nat.beq i 3 then [0,3,4] else []) (fun i=>bif Nat.beq i 3 then [3] else []) [] [(.sl 9 .str)]
def Uw(a:(List ByteArray))(b:aO)(c:Int):Option R:=aB (ev W4 (xa R) kk (sub [1,1,0,1,0,0] (cd Tryz.f50))) [0,3,4] [3] k ⟨[.aj (.sl 9 .str) a []]::uS 2 ([.aj (.sl 109 (.pair .str (.pair .str .unit))) b [[]]]::[tI c]::uS 21 []),nS 27 []⟩ J
def zfc(a:aO):State:=⟨uS 3 ([.aj (.sl 109 (.pair .str (.pair .str .unit))) a [[]]]::uS 22 []),nS 27 []⟩
def Oj:KX R:=(zk 0 (aU W4 (xa R) kk (sub [1,1,1] (cd Tryz.f50)) (aT W4 Tryz.f50.results.toList none K)))
theorem alD(a:(List ByteArray))(b:aO)(c:Int):Uw R kk (k+1) J a b c=
 zy9 a b c (Uw R kk k J) (fun a0=>J (.exit 0) (zfc a0)):=by kernel_rfl
theorem aeW(a:aO):Oj R kk K (.exit 0) (zfc a)=
 zya a (fun a0=>K [.aj (.sl 109 (.pair .str (.pair .str .unit))) a0 []] none):=by kernel_rfl
theorem ait{kk:Nat}(hF:kk=ag)(gm:(List ByteArray))(t3:aO)(t4:Int):Uw R kk k J gm t3 t4=(Ux k gm t3 t4).bind fun e=>J (.exit 0) (zfc e):=by
 induction k generalizing gm t3 t4 with
 |zero=>rfl
 |succ k ih=>
  rw[alD]
  simp only[Ux,zy9,ih,aD]
def JV:ah:=xa.add 50 [(.sl 9 .str)] (cO (.sl 9 .str) sZ (fun _ r K=>K [.aj (.sl 109 (.pair .str (.pair .str .unit))) r []] none))
theorem o91:aP Tryz.prog JV:=cP W4 Tryz.f50 (fun R kk x0 K=>zy8 x0 (Uw R kk kk (Oj R kk K))) o90 (ek _ _ _ _) Tryz.func50 (by kernel_rfl) rfl (fun _ _ _ _ _ _ h=>h _ _) (fun _ _ _ _=>by kernel_rfl) fun R kk e x0 K=>by
 simp only[sZ,zy8,zya,ait (hF:=e),aeW,aD,<-e]
def I6:Env:=e0 []
def xb:ah:=JV.add 66 [] (GO Y8 (fun _ r K=>K [.aj (.sl 3 (.int .i64)) r [[]]] none))
theorem o92:aP Tryz.prog xb:=Ll I6 Tryz.f66 (fun R kk K=>ES (fun a0=>K [.aj (.sl 3 (.int .i64)) a0 [[]]] none)) o91 (ek _ _ _ _) Tryz.func66 (by kernel_rfl) rfl (fun _ _ _ _ _ _ h=>h _ _) (fun _ _ _=>by kernel_rfl) fun R kk e K=>by
 simp only[Y8,ES,aD]
def W3:Env:={b9.env (fun i=>bif Nat.beq i 4 then [1,2,3] else []) (fun i=>bif Nat.beq i 4 then [1] else []) [] [] with mv:=[31]}
def Uu(a:bR)(b:(List Int))(c:Int):Option R:=aB (ev W3 (xb R) kk (sub [1,1,1,0,1,0,0] (cd Tryz.f48))) [1,2,3] [1] k ⟨uS 1 ([.aj (.sl 102 cB) a [[]]]::[.aj (.sl 3 (.int .i64)) b [[]]]::[tI c]::uS 28 []),nS 33 []⟩ J
def zfb(a:bR):State:=⟨uS 1 ([.aj (.sl 102 cB) a [[]]]::uS 30 []),nS 33 []⟩
def Oi:KX R:=(zk 0 (aU W3 (xb R) kk (sub [1,1,1,1] (cd Tryz.f48)) (aT W3 Tryz.f48.results.toList none K)))
theorem alC(a:bR)(b:(List Int))(c:Int):Uu R kk (k+1) J a b c=
 zy6 a b c (Uu R kk k J) (fun a0=>J (.exit 0) (zfb a0)):=by kernel_rfl
theorem aeV(a:bR):Oi R kk K (.exit 0) (zfb a)=
 zy7 a (fun a0=>K [.aj (.sl 102 cB) a0 [[]]] none):=by kernel_rfl
theorem ais{kk:Nat}(hF:kk=ag)(t1:bR)(t2:(List Int))(t3:Int):Uu R kk k J t1 t2 t3=(Uv k t1 t2 t3).bind fun e=>J (.exit 0) (zfb e):=by
 induction k generalizing t1 t2 t3 with
 |zero=>rfl
 |succ k ih=>
  rw[alC]
  simp only[Uv,zy6,ih,aD]
def xc:ah:=xb.add 48 [] (GO vW (fun _ r K=>K [.aj (.sl 102 cB) r [[]]] none))
theorem o93:aP Tryz.prog xc:=Ll W3 Tryz.f48 (fun R kk K=>zy5 (Uu R kk kk (Oi R kk K))) o92 ((ek _ _ _ _).mv _) Tryz.func48 (by kernel_rfl) rfl (fun _ _ _ _ _ _ h=>h _ _) (fun _ _ _=>by kernel_rfl) fun R kk e K=>by
 simp only[vW,zy5,zy7,ais (hF:=e),aeV,aD,<-e]
def WQ:Env:=b9.env (fun i=>bif Nat.beq i 3 then [0,3,4] else []) (fun i=>bif Nat.beq i 3 then [3] else []) [] [(.sl 109 (.pair .str (.pair .str .unit)))]
def TN(a b:aO)(c:Int):Option R:=aB (ev WQ (xc R) kk (sub [1,1,0,1,0,0] (cd Tryz.f51))) [0,3,4] [3] k ⟨[.aj (.sl 109 (.pair .str (.pair .str .unit))) a []]::uS 2 ([.aj (.sl 109 (.pair .str (.pair .str .unit))) b [[]]]::[tI c]::uS 22 []),nS 28 []⟩ J
def zek(a:aO):State:=⟨uS 3 ([.aj (.sl 109 (.pair .str (.pair .str .unit))) a [[]]]::uS 23 []),nS 28 []⟩
def N5:KX R:=(zk 0 (aU WQ (xc R) kk (sub [1,1,1] (cd Tryz.f51)) (aT WQ Tryz.f51.results.toList none K)))
theorem alk(a b:aO)(c:Int):TN R kk (k+1) J a b c=
 zwr a b c (TN R kk k J) (fun a0=>J (.exit 0) (zek a0)):=by kernel_rfl
theorem aen(a:aO):N5 R kk K (.exit 0) (zek a)=
 zws a (fun a0=>K [.aj (.sl 109 (.pair .str (.pair .str .unit))) a0 []] none):=by kernel_rfl
theorem ah1{kk:Nat}(hF:kk=ag)(gm t3:aO)(t4:Int):TN R kk k J gm t3 t4=(TO k gm t3 t4).bind fun e=>J (.exit 0) (zek e):=by
 induction k generalizing gm t3 t4 with
 |zero=>rfl
 |succ k ih=>
  rw[alk]
  simp only[TO,zwr,ih,aD]
def JW:ah:=xc.add 51 [(.sl 109 (.pair .str (.pair .str .unit)))] (cO (.sl 109 (.pair .str (.pair .str .unit))) sP (fun _ r K=>K [.aj (.sl 109 (.pair .str (.pair .str .unit))) r []] none))
theorem o94:aP Tryz.prog JW:=cP WQ Tryz.f51 (fun R kk x0 K=>zwq x0 (TN R kk kk (N5 R kk K))) o93 (ek _ _ _ _) Tryz.func51 (by kernel_rfl) rfl (fun _ _ _ _ _ _ h=>h _ _) (fun _ _ _ _=>by kernel_rfl) fun R kk e x0 K=>by
 simp only[sP,zwq,zws,ah1 (hF:=e),aen,aD,<-e]
def I7:Env:=e0 []
def xd:ah:=JW.add 67 [] (GO Y9 (fun _ r K=>K [.aj (.sl 29 (.sl 3 (.int .i64))) r [[]]] none))
theorem o95:aP Tryz.prog xd:=Ll I7 Tryz.f67 (fun R kk K=>EW (fun a0=>K [.aj (.sl 29 (.sl 3 (.int .i64))) a0 [[]]] none)) o94 (ek _ _ _ _) Tryz.func67 (by kernel_rfl) rfl (fun _ _ _ _ _ _ h=>h _ _) (fun _ _ _=>by kernel_rfl) fun R kk e K=>by
 simp only[Y9,EW,aD]
def pQ:Env:=b9.env (fun i=>bif Nat.beq i 4 then [0,2,3,4,5] else []) (fun i=>bif Nat.beq i 4 then [2,3] else []) [2] [(.int .i64)]
def YL(a:Int)(b:xe)(c:Int)(d e:af):Option R:=aB (ev pQ (xd R) kk (sub [1,1,1,0,1,0,0] (cd Tryz.f52))) [0,2,3,4,5] [2,3] k ⟨[tI a]::uS 1 ([.ptr 3 aK []]::[.ptr 4 aK []]::[.aj (.sl 29 (.sl 3 (.int .i64))) b [[]]]::[tI c]::uS 52 []),nS 3 ((some ⟨aK,d,[[2]]⟩)::(some ⟨aK,e,[[2]]⟩)::nS 54 [])⟩ J
def zqi(a b:af):State:=⟨uS 2 ([.ptr 3 aK []]::[.ptr 4 aK []]::uS 54 []),nS 3 ((some ⟨aK,a,[[2]]⟩)::(some ⟨aK,b,[[2]]⟩)::nS 54 [])⟩
def Pr:KX R:=(zk 0 (aU pQ (xd R) kk (sub [1,1,1,1] (cd Tryz.f52)) (aT pQ Tryz.f52.results.toList none K)))
theorem aoH(a:Int)(b:xe)(c:Int)(d e:af):YL R kk (k+1) J a b c d e=
 EU a b c d e (YL R kk k J) (fun a0 a1=>J (.exit 0) (zqi a0 a1)):=by kernel_rfl
theorem ajD(a b:af):Pr R kk K (.exit 0) (zqi a b)=
 EV a b (fun a0=>K [.aj aK a0 [[2]]] none):=by kernel_rfl
theorem amE{kk:Nat}(hF:kk=ag)(mr:Int)(t4:xe)(t5:Int)(dG dH:af):YL R kk k J mr t4 t5 dG dH=(YM k mr t4 t5 dG dH).bind fun e=>J (.exit 0) (zqi e.1 e.2):=by
 induction k generalizing mr t4 t5 dG dH with
 |zero=>rfl
 |succ k ih=>
  rw[aoH]
  simp only[YM,EU,ih,aD]
def JX:ah:=xd.add 52 [(.int .i64)] (cO (.int .i64) R8 (fun _ r K=>K [.aj aK r [[2]]] none))
theorem o96:aP Tryz.prog JX:=cP pQ Tryz.f52 (fun R kk x0 K=>ET x0 (YL R kk kk (Pr R kk K))) o95 (ek _ _ _ _) Tryz.func52 (by kernel_rfl) rfl (fun _ _ _ _ _ _ h=>h _ _) (fun _ _ _ _=>by kernel_rfl) fun R kk e x0 K=>by
 simp only[R8,ET,EV,amE (hF:=e),ajD,aD,<-e]
def anG:Env:=e0 [.str,.str,.str]
def JY:ah:=JX.add 53 [.str,.str,.str] (kE .str .str .str vV (fun _ r K=>K [.aj (.sl 107 (.pair (.int .i64) (.pair .str .unit))) r [[]]] none))
theorem o97:aP Tryz.prog JY:=kU anG Tryz.f53 (fun R kk x0 x1 x2 K=>zy4 x0 x1 x2 (fun a0=>K [.aj (.sl 107 (.pair (.int .i64) (.pair .str .unit))) a0 [[]]] none)) o96 (ek _ _ _ _) Tryz.func53 (by kernel_rfl) rfl (fun _ _ _ _ _ _ h=>h _ _) (fun _ _ _ _ _ _=>by kernel_rfl) fun R kk e x0 x1 x2 K=>by
 simp only[vV,zy4,aD]
def anD:Env:={b9.env (fun _=>[]) (fun _=>[]) [0] [] with sh:=[47,59]}
def JZ:ah:=JY.add 33 [] (GO BQ (fun _ r K=>K [.aj bU r [[0,1,3],[0,1,2],[0,1,0,2],[0,0,3],[0,0,0,2]]] none))
theorem o98:aP Tryz.prog JZ:=Ll anD Tryz.f33 (fun R kk K=>zxz (fun a0=>K [.aj bU a0 [[0,1,3],[0,1,2],[0,1,0,2],[0,0,3],[0,0,0,2]]] none)) o97 ((ek _ _ _ _).sh _) Tryz.func33 (by kernel_rfl) rfl (fun _ _ _ _ _ _ h=>h _ _) (fun _ _ _=>by kernel_rfl) fun R kk e K=>by
 simp only[BQ,zxz,aD]
def IB:Env:=e0 [(.int .i64)]
def J0:ah:=JZ.add 42 [(.int .i64)] (cO (.int .i64) BW (fun _ r K=>K [tB r] none))
theorem o99:aP Tryz.prog J0:=cP IB Tryz.f42 (fun R kk x0 K=>Yf x0 (fun a0=>K [tB a0] none)) o98 (ek _ _ _ _) Tryz.func42 (by kernel_rfl) rfl (fun _ _ _ _ _ _ h=>h _ _) (fun _ _ _ _=>by kernel_rfl) fun R kk e x0 K=>by
 simp only[BW,Yf,aD]
def Ir:Env:=e0 [.unit]
def pS:ah:=J0.add 62 [.unit] (GN y6 [[2]] Iq (fun _ r K=>K [tI r.1] (some ⟨y6,r.2,[[2]]⟩)))
theorem aar:aP Tryz.prog pS:=SI Ir Tryz.f62 (fun R kk x0 K=>X4 x0 (fun a0 a1=>K [tI a0] (some ⟨y6,a1,[[2]]⟩))) o99 (ek _ _ _ _) Tryz.func62 (by kernel_rfl) rfl (fun _ _ _ _ _ _ h=>h _ _) (fun _ _ _ _=>by kernel_rfl) fun R kk e x0 K=>by
 simp only[Iq,X4,aD]
def pk:Env:=b9.env (fun i=>bif Nat.beq i 3 then [0,1,6,7] else []) (fun i=>bif Nat.beq i 3 then [4,5,6] else []) [] [.unit,.str]
def XY(a:ByteArray)(b:(List ByteArray))(c:Int)(d:ap):Option R:=aB (ev pk (pS R) kk (sub [1,1,0,1,0,0] (cd Tryz.f45))) [0,1,6,7] [4,5,6] k ⟨[.ptr 0 y6 []]::[tS a]::uS 4 ([.aj (.sl 9 .str) b [[]]]::[tI c]::uS 80 []),(some ⟨y6,d,[[2]]⟩)::nS 88 []⟩ J
def zpv(a:(List ByteArray))(b:Bool)(c:(List ByteArray))(d:ap):State:=⟨uS 4 ([.aj (.sl 9 .str) a []]::[tB b]::[.aj (.sl 9 .str) c [[]]]::uS 81 []),(some ⟨y6,d,[[2]]⟩)::nS 88 []⟩
def zpw(a:(List ByteArray))(b:ap):State:=⟨uS 6 ([.aj (.sl 9 .str) a [[]]]::uS 81 []),(some ⟨y6,b,[[2]]⟩)::nS 88 []⟩
def Ei(a:ap):KX R:=(zk 0 (aU pk (pS R) kk (sub [1,1,1] (cd Tryz.f45)) (aT pk Tryz.f45.results.toList (some ⟨y6,a,[[2]]⟩) K)))
theorem aoq(a:ByteArray)(b:(List ByteArray))(c:Int)(d:ap):XY R kk (k+1) J a b c d=
 RB a b c d (fun a0 a1 a2 a3=>J .ret (zpv a0 a1 a2 a3)) (XY R kk k J) (fun a0 a1=>J (.exit 0) (zpw a0 a1)):=by kernel_rfl
theorem ajg(a:ap)(b:(List ByteArray))(c:Bool)(d:(List ByteArray))(e:ap):Ei R kk K a .ret (zpv b c d e)=
 X2 b c d e (fun a0 a1 a2=>K [.aj (.sl 9 .str) a0 [],tB a1] (some ⟨y6,a2,[[2]]⟩)):=by kernel_rfl
theorem ajh(a:ap)(b:(List ByteArray))(c:ap):Ei R kk K a (.exit 0) (zpw b c)=
 X3 b c (fun a0 a1 a2=>K [.aj (.sl 9 .str) a0 [],tB a1] (some ⟨y6,a2,[[2]]⟩)):=by kernel_rfl
theorem amn{kk:Nat}(hF:kk=ag)(l4:ByteArray)(t6:(List ByteArray))(t7:Int)(recv:ap):XY R kk k J l4 t6 t7 recv=(F7 k l4 t6 t7 recv).bind fun e=>(Sum.elim (fun(we:((List ByteArray)×Bool×(List ByteArray)×ap))=>J .ret (zpv we.1 we.2.1 we.2.2.1 we.2.2.2)) (fun(we:((List ByteArray)×ap))=>J (.exit 0) (zpw we.1 we.2)) e):=by
 induction k generalizing l4 t6 t7 recv with
 |zero=>rfl
 |succ k ih=>
  rw[aoq]
  simp only[F7,RB,ih,aD]
def yO:ah:=pS.add 45 [.unit,.str] (CW y6 [[2]] .str BU (fun _ r K=>K [.aj (.sl 9 .str) r.1 [],tB r.2.1] (some ⟨y6,r.2.2,[[2]]⟩)))
theorem aas:aP Tryz.prog yO:=Lj pk Tryz.f45 (fun R kk x0 x1 K=>XZ x0 x1 (XY R kk kk (Ei R kk K x0))) aar (ek _ _ _ _) Tryz.func45 (by kernel_rfl) rfl (fun _ _ _ _ _ _ h=>h _ _) (fun _ _ _ _ _=>by kernel_rfl) fun R kk e x0 x1 K=>by
 simp only[BU,XZ,X2,X3,amn (hF:=e),ajg,ajh,aD,<-e]
def Y2:Env:=e0 [(.int .i64)]
def pT:ah:=yO.add 177 [(.int .i64)] (cO (.int .i64) Q2 (fun _ r K=>K [tI r] none))
theorem aat:aP Tryz.prog pT:=cP Y2 Tryz.f177 (fun R kk x0 K=>pj x0 (fun a0=>K [tI a0] none)) aas (ek _ _ _ _) Tryz.func177 (by kernel_rfl) rfl (fun _ _ _ _ _ _ h=>h _ _) (fun _ _ _ _=>by kernel_rfl) fun R kk e x0 K=>by
 simp only[Q2,pj,aD]
def vU:Env:=b9.env (fun i=>bif Nat.beq i 7 then [0,1,7,30,31] else []) (fun i=>bif Nat.beq i 7 then [1,4,5,6,7] else []) [] [.str,(.int .i64)]
def oU(a:ByteArray)(b:Int)(c:(List Int))(d e:Int):Option R:=aB (ev vU (pT R) kk (sub [1,1,1,0,1,0,0] (cd Tryz.f178))) [0,1,7,30,31] [1,4,5,6,7] k ⟨[tS a]::[tI b]::uS 5 ([.aj (.sl 5 (.int .u8)) c [[]]]::uS 22 ([tI d]::[tI e]::uS 43 [])),nS 76 []⟩ J
def zwl(a:Int)(b:ByteArray)(c d:Int)(e:(List Int)):State:=⟨uS 1 ([tI a]::uS 2 ([tS b]::[tI c]::[tI d]::[.aj (.sl 5 (.int .u8)) e [[]]]::uS 67 [])),nS 76 []⟩
def zwm(a:Int)(b:(List Int)):State:=⟨uS 1 ([tI a]::uS 5 ([.aj (.sl 5 (.int .u8)) b [[]]]::uS 67 [])),nS 76 []⟩
def sK:KX R:=(zk 1 (aU vU (pT R) kk (sub [1,1,1,1] (cd Tryz.f178)) (aT vU Tryz.f178.results.toList none K)))
theorem HS(a:ByteArray)(b:Int)(c:(List Int))(d e:Int):oU R kk (k+1) J a b c d e=
 mG a b c d e (fun a0 a1 a2 a3 a4=>J .ret (zwl a0 a1 a2 a3 a4)) (oU R kk k J) (fun a0 a1=>J (.exit 1) (zwm a0 a1)):=by kernel_rfl
theorem alh(a:Int)(b:ByteArray)(c d:Int)(e:(List Int)):sK R kk K .ret (zwl a b c d e)=
 sL a b c d e (fun a0 a1 a2=>K [tS a0,tI a1,tI a2] none):=by kernel_rfl
theorem ali(a:Int)(b:(List Int)):sK R kk K (.exit 1) (zwm a b)=
 oW a b (fun a0 a1 a2=>K [tS a0,tI a1,tI a2] none):=by kernel_rfl
theorem anu{kk:Nat}(hF:kk=ag)(oi:ByteArray)(mi:Int)(t7:(List Int))(t30 t31:Int):oU R kk k J oi mi t7 t30 t31=(jb k oi mi t7 t30 t31).bind fun e=>(Sum.elim (fun(we:(Int×ByteArray×Int×Int×(List Int)))=>J .ret (zwl we.1 we.2.1 we.2.2.1 we.2.2.2.1 we.2.2.2.2)) (fun(we:(Int×(List Int)))=>J (.exit 1) (zwm we.1 we.2)) e):=by
 induction k generalizing oi mi t7 t30 t31 with
 |zero=>rfl
 |succ k ih=>
  rw[HS]
  simp only[jb,mG,ih,aD]
def yP:ah:=pT.add 178 [.str,(.int .i64)] (dt .str (.int .i64) Q0 (fun _ r K=>K [tS r.1,tI r.2.1,tI r.2.2] none))
theorem aau:aP Tryz.prog yP:=dv vU Tryz.f178 (fun R kk x0 x1 K=>oV x0 x1 (fun a0 a1 a2=>K [tS a0,tI a1,tI a2] none) (oU R kk kk (sK R kk K))) aat (ek _ _ _ _) Tryz.func178 (by kernel_rfl) rfl (fun _ _ _ _ _ _ h=>h _ _) (fun _ _ _ _ _=>by kernel_rfl) fun R kk e x0 x1 K=>by
 simp only[Q0,oV,sL,oW,anu (hF:=e),alh,ali,aD,<-e]
def aoc:Env:=e0 [aK,.str]
def yQ:ah:=yP.add 129 [aK,.str] (dt aK .str tD (fun _ r K=>K [tS r.1,tI r.2.1,tI r.2.2] none))
theorem aav:aP Tryz.prog yQ:=dv aoc Tryz.f129 (fun R kk x0 x1 K=>VT x0 x1 (fun a0 a1 a2=>K [tS a0,tI a1,tI a2] none)) aau (ek _ _ _ _) Tryz.func129 (by kernel_rfl) rfl (fun _ _ _ _ _ _ h=>h _ _) (fun _ _ _ _ _=>by kernel_rfl) fun R kk e x0 x1 K=>by
 simp only[tD,VT,aD]
def Za:Env:=e0 [(.int .i64)]
def yR:ah:=yQ.add 169 [(.int .i64)] (cO (.int .i64) Q9 (fun _ r K=>K [tB r] none))
theorem aaw:aP Tryz.prog yR:=cP Za Tryz.f169 (fun R kk x0 K=>mQ x0 (fun a0=>K [tB a0] none)) aav (ek _ _ _ _) Tryz.func169 (by kernel_rfl) rfl (fun _ _ _ _ _ _ h=>h _ _) (fun _ _ _ _=>by kernel_rfl) fun R kk e x0 K=>by
 simp only[Q9,mQ,aD]
def anI:Env:=e0 [(.int .u8)]
def pU:ah:=yR.add 214 [(.int .u8)] (cO (.int .u8) s8 (fun _ r K=>K [tI r.1,tB r.2] none))
theorem aax:aP Tryz.prog pU:=cP anI Tryz.f214 (fun R kk x0 K=>zyk x0 (fun a0 a1=>K [tI a0,tB a1] none)) aaw (ek _ _ _ _) Tryz.func214 (by kernel_rfl) rfl (fun _ _ _ _ _ _ h=>h _ _) (fun _ _ _ _=>by kernel_rfl) fun R kk e x0 K=>by
 simp only[s8,zyk,aD]
def W9:Env:=b9.env (fun i=>bif Nat.beq i 4 then [0,5,6,7] else []) (fun i=>bif Nat.beq i 4 then [0,2,3,4,5] else []) [] [.str]
def UN(a:ByteArray)(b:(List Int))(c d:Int):Option R:=aB (ev W9 (pU R) kk (sub [1,1,1,0,1,0,0] (cd Tryz.f184))) [0,5,6,7] [0,2,3,4,5] k ⟨[tS a]::uS 4 ([.aj (.sl 5 (.int .u8)) b [[]]]::[tI c]::[tI d]::uS 44 []),nS 53 []⟩ J
def zfn(a b:ByteArray)(c:Int)(d:Bool)(e:(List Int)):State:=⟨[tS a]::uS 1 ([tS b]::[tI c]::[tB d]::[.aj (.sl 5 (.int .u8)) e [[]]]::uS 46 []),nS 53 []⟩
def zfo(a:ByteArray)(b:(List Int)):State:=⟨[tS a]::uS 4 ([.aj (.sl 5 (.int .u8)) b [[]]]::uS 46 []),nS 53 []⟩
def zyl:KX R:=(zk 0 (aU W9 (pU R) kk (sub [1,1,1,1] (cd Tryz.f184)) (aT W9 Tryz.f184.results.toList none K)))
theorem alK(a:ByteArray)(b:(List Int))(c d:Int):UN R kk (k+1) J a b c d=
 QI a b c d (fun a0 a1 a2 a3 a4=>J .ret (zfn a0 a1 a2 a3 a4)) (UN R kk k J) (fun a0 a1=>J (.exit 0) (zfo a0 a1)):=by kernel_rfl
theorem ae6(a b:ByteArray)(c:Int)(d:Bool)(e:(List Int)):zyl R kk K .ret (zfn a b c d e)=
 zym a b c d e (fun a0 a1 a2=>K [tS a0,tI a1,tB a2] none):=by kernel_rfl
theorem ae7(a:ByteArray)(b:(List Int)):zyl R kk K (.exit 0) (zfo a b)=
 UP a b (fun a0 a1 a2=>K [tS a0,tI a1,tB a2] none):=by kernel_rfl
theorem aiA{kk:Nat}(hF:kk=ag)(iV:ByteArray)(t5:(List Int))(t6 t7:Int):UN R kk k J iV t5 t6 t7=(FL k iV t5 t6 t7).bind fun e=>(Sum.elim (fun(we:(ByteArray×ByteArray×Int×Bool×(List Int)))=>J .ret (zfn we.1 we.2.1 we.2.2.1 we.2.2.2.1 we.2.2.2.2)) (fun(we:(ByteArray×(List Int)))=>J (.exit 0) (zfo we.1 we.2)) e):=by
 induction k generalizing iV t5 t6 t7 with
 |zero=>rfl
 |succ k ih=>
  rw[alK]
  simp only[FL,QI,ih,aD]
def yS:ah:=pU.add 184 [.str] (cO .str gQ (fun _ r K=>K [tS r.1,tI r.2.1,tB r.2.2] none))
theorem aay:aP Tryz.prog yS:=cP W9 Tryz.f184 (fun R kk x0 K=>UO x0 (UN R kk kk (zyl R kk K))) aax (ek _ _ _ _) Tryz.func184 (by kernel_rfl) rfl (fun _ _ _ _ _ _ h=>h _ _) (fun _ _ _ _=>by kernel_rfl) fun R kk e x0 K=>by
 simp only[gQ,UO,zym,UP,aiA (hF:=e),ae6,ae7,aD,<-e]
def HT:Env:=b9.env (fun _=>[]) (fun _=>[]) [6] [(.int .i64),.str,(.int .i64)]
def pV:ah:=yS.add 179 [(.int .i64),.str,(.int .i64)] (kE (.int .i64) .str (.int .i64) Gg (fun _ r K=>K [.aj (.arr 8 (.int .u8)) r.1 [],tI r.2.1,tI r.2.2] none))
theorem aaz:aP Tryz.prog pV:=kU HT Tryz.f179 (fun R kk x0 x1 x2 K=>WN x0 x1 x2 (fun a0 a1 a2=>K [.aj (.arr 8 (.int .u8)) a0 [],tI a1,tI a2] none)) aay (ek _ _ _ _) Tryz.func179 (by kernel_rfl) rfl (fun _ _ _ _ _ _ h=>h _ _) (fun _ _ _ _ _ _=>by kernel_rfl) fun R kk e x0 x1 x2 K=>by
 simp only[Gg,WN,aD]
def wq:Env:=b9.env (fun i=>bif Nat.beq i 3 then [3,6,7] else []) (fun i=>bif Nat.beq i 3 then [3] else []) [] [(.arr 8 (.int .u8))]
def pH(a:Int)(b:(List Int))(c:Int):Option R:=aB (ev wq (pV R) kk (sub [1,1,0,1,0,0] (cd Tryz.f180))) [3,6,7] [3] k ⟨uS 3 ([.aj (.int .u64) a []]::uS 2 ([.aj (.arr 8 (.int .u8)) b []]::[tI c]::uS 9 [])),nS 18 []⟩ J
def DG(a:Int):State:=⟨uS 3 ([.aj (.int .u64) a []]::uS 13 []),nS 18 []⟩
def yG:KX R:=(zk 0 (aU wq (pV R) kk (sub [1,1,1] (cd Tryz.f180)) (aT wq Tryz.f180.results.toList none K)))
theorem IQ(a:Int)(b:(List Int))(c:Int):pH R kk (k+1) J a b c=
 mN a b c (pH R kk k J) (fun a0=>J (.exit 0) (DG a0)):=by kernel_rfl
theorem amy(a:Int):yG R kk K (.exit 0) (DG a)=
 tM a (fun a0=>K [.aj (.int .u64) a0 []] none):=by kernel_rfl
theorem aoB{kk:Nat}(hF:kk=ag)(t3:Int)(t6:(List Int))(t7:Int):pH R kk k J t3 t6 t7=(jX k t3 t6 t7).bind fun e=>J (.exit 0) (DG e):=by
 induction k generalizing t3 t6 t7 with
 |zero=>rfl
 |succ k ih=>
  rw[IQ]
  simp only[jX,mN,ih,aD]
def yT:ah:=pV.add 180 [(.arr 8 (.int .u8))] (cO (.arr 8 (.int .u8)) Q7 (fun _ r K=>K [.aj (.int .u64) r []] none))
theorem aaA:aP Tryz.prog yT:=cP wq Tryz.f180 (fun R kk x0 K=>pI x0 (pH R kk kk (yG R kk K))) aaz (ek _ _ _ _) Tryz.func180 (by kernel_rfl) rfl (fun _ _ _ _ _ _ h=>h _ _) (fun _ _ _ _=>by kernel_rfl) fun R kk e x0 K=>by
 simp only[Q7,pI,tM,aoB (hF:=e),amy,aD,<-e]
def Ic:Env:=b9.env (fun _=>[]) (fun _=>[]) [4] [(.int .u64),(.int .u64)]
def yU:ah:=yT.add 181 [(.int .u64),(.int .u64)] (dt (.int .u64) (.int .u64) R5 (fun _ r K=>K [.aj (.pair (.int .u64) (.pair (.int .u64) .unit)) r []] none))
theorem aaB:aP Tryz.prog yU:=dv Ic Tryz.f181 (fun R kk x0 x1 K=>Ef x0 x1 (fun a0=>K [.aj (.pair (.int .u64) (.pair (.int .u64) .unit)) a0 []] none)) aaA (ek _ _ _ _) Tryz.func181 (by kernel_rfl) rfl (fun _ _ _ _ _ _ h=>h _ _) (fun _ _ _ _ _=>by kernel_rfl) fun R kk e x0 x1 K=>by
 simp only[R5,Ef,aD]
def Y6:Env:=b9.env (fun _=>[]) (fun _=>[]) [6] [(.int .i64),.str,(.int .i64)]
def yV:ah:=yU.add 130 [(.int .i64),.str,(.int .i64)] (kE (.int .i64) .str (.int .i64) Q5 (fun _ r K=>K [.aj (.pair (.int .u64) (.pair (.int .u64) .unit)) r.1 [],tI r.2.1,tI r.2.2] none))
theorem aaC:aP Tryz.prog yV:=kU Y6 Tryz.f130 (fun R kk x0 x1 x2 K=>pB x0 x1 x2 (fun a0 a1 a2=>K [.aj (.pair (.int .u64) (.pair (.int .u64) .unit)) a0 [],tI a1,tI a2] none)) aaB (ek _ _ _ _) Tryz.func130 (by kernel_rfl) rfl (fun _ _ _ _ _ _ h=>h _ _) (fun _ _ _ _ _ _=>by kernel_rfl) fun R kk e x0 x1 x2 K=>by
 simp only[Q5,pB,aD]
def anL:Env:=e0 [(.int .u64)]
def yW:ah:=yV.add 212 [(.int .u64)] (cO (.int .u64) s9 (fun _ r K=>K [tI r] none))
theorem aaD:aP Tryz.prog yW:=cP anL Tryz.f212 (fun R kk x0 K=>zyo x0 (fun a0=>K [tI a0] none)) aaC (ek _ _ _ _) Tryz.func212 (by kernel_rfl) rfl (fun _ _ _ _ _ _ h=>h _ _) (fun _ _ _ _=>by kernel_rfl) fun R kk e x0 K=>by
 simp only[s9,zyo,aD]
def anK:Env:=e0 [(.int .u64)]
def yX:ah:=yW.add 182 [(.int .u64)] (cO (.int .u64) mJ (fun _ r K=>K [tI r] none))
theorem aaE:aP Tryz.prog yX:=cP anK Tryz.f182 (fun R kk x0 K=>US x0 (fun a0=>K [tI a0] none)) aaD (ek _ _ _ _) Tryz.func182 (by kernel_rfl) rfl (fun _ _ _ _ _ _ h=>h _ _) (fun _ _ _ _=>by kernel_rfl) fun R kk e x0 K=>by
 simp only[mJ,US,aD]
def Ik:Env:=e0 [(.pair (.int .u64) (.pair (.int .u64) .unit)),(.int .i64)]
def yY:ah:=yX.add 131 [(.pair (.int .u64) (.pair (.int .u64) .unit)),(.int .i64)] (dt (.pair (.int .u64) (.pair (.int .u64) .unit)) (.int .i64) Gh (fun _ r K=>K [tI r] none))
theorem aaF:aP Tryz.prog yY:=dv Ik Tryz.f131 (fun R kk x0 x1 K=>XV x0 x1 (fun a0=>K [tI a0] none)) aaE (ek _ _ _ _) Tryz.func131 (by kernel_rfl) rfl (fun _ _ _ _ _ _ h=>h _ _) (fun _ _ _ _ _=>by kernel_rfl) fun R kk e x0 x1 K=>by
 simp only[Gh,XV,aD]
def HY:Env:=e0 [(.int .i64)]
def yZ:ah:=yY.add 174 [(.int .i64)] (cO (.int .i64) BR (fun _ r K=>K [tB r] none))
theorem aaG:aP Tryz.prog yZ:=cP HY Tryz.f174 (fun R kk x0 K=>Ru x0 (fun a0=>K [tB a0] none)) aaF (ek _ _ _ _) Tryz.func174 (by kernel_rfl) rfl (fun _ _ _ _ _ _ h=>h _ _) (fun _ _ _ _=>by kernel_rfl) fun R kk e x0 K=>by
 simp only[BR,Ru,aD]
def anU:Env:=e0 [(.int .i64),(.int .i64)]
def pW:ah:=yZ.add 210 [(.int .i64),(.int .i64)] (dt (.int .i64) (.int .i64) qX (fun _ r K=>K [tB r] none))
theorem aaH:aP Tryz.prog pW:=dv anU Tryz.f210 (fun R kk x0 x1 K=>QO x0 x1 (fun a0=>K [tB a0] none)) aaG (ek _ _ _ _) Tryz.func210 (by kernel_rfl) rfl (fun _ _ _ _ _ _ h=>h _ _) (fun _ _ _ _ _=>by kernel_rfl) fun R kk e x0 x1 K=>by
 simp only[qX,QO,aD]
def pf:Env:=b9.env (fun i=>bif Nat.beq i 5 then [4,20] else []) (fun i=>bif Nat.beq i 5 then [4] else []) [] [.str]
def XI(a:Int)(b:mS):Option R:=aB (ev pf (pW R) kk (sub [1,1,1,0,1,0,0] (cd Tryz.f213))) [4,20] [4] k ⟨uS 4 ([tI a]::uS 15 ([.ptr 21 (.aJ .iter .unit .unit) []]::uS 10 [])),nS 21 ((some ⟨(.aJ .iter .unit .unit),b,[]⟩)::nS 10 [])⟩ J
def zps(a:Int):State:=⟨uS 4 ([tI a]::uS 26 []),nS 32 []⟩
def Ph:KX R:=(zk 0 (aU pf (pW R) kk (sub [1,1,1,1] (cd Tryz.f213)) (aT pf Tryz.f213.results.toList none K)))
theorem aon(a:Int)(b:mS):XI R kk (k+1) J a b=
 XK a b (XI R kk k J) (fun a0=>J (.exit 0) (zps a0)):=by kernel_rfl
theorem ajd(a:Int):Ph R kk K (.exit 0) (zps a)=
 Ee a (fun a0 a1=>K [tI a0,tB a1] none):=by kernel_rfl
theorem amk{kk:Nat}(hF:kk=ag)(t4:Int)(Cb:mS):XI R kk k J t4 Cb=(HA k t4 Cb).bind fun e=>J (.exit 0) (zps e):=by
 induction k generalizing t4 Cb with
 |zero=>rfl
 |succ k ih=>
  rw[aon]
  simp only[HA,XK,ih,aD]
def zA:ah:=pW.add 213 [.str] (cO .str yz (fun _ r K=>K [tI r.1,tB r.2] none))
theorem aaI:aP Tryz.prog zA:=cP pf Tryz.f213 (fun R kk x0 K=>XJ x0 (fun a0 a1=>K [tI a0,tB a1] none) (XI R kk kk (Ph R kk K))) aaH (ek _ _ _ _) Tryz.func213 (by kernel_rfl) rfl (fun _ _ _ _ _ _ h=>h _ _) (fun _ _ _ _=>by kernel_rfl) fun R kk e x0 K=>by
 simp only[yz,XJ,Ee,amk (hF:=e),ajd,aD,<-e]
def anS:Env:=e0 [(.int .i64),(.int .i64),.str,(.int .i64)]
def zB:ah:=zA.add 183 [(.int .i64),(.int .i64),.str,(.int .i64)] (SC (.int .i64) (.int .i64) .str (.int .i64) tg (fun _ r K=>K [tI r.1,tI r.2.1,tI r.2.2] none))
theorem aaJ:aP Tryz.prog zB:=st4 anS Tryz.f183 (fun R kk x0 x1 x2 x3 K=>U7 x0 x1 x2 x3 (fun a0 a1 a2=>K [tI a0,tI a1,tI a2] none)) aaI (ek _ _ _ _) Tryz.func183 (by kernel_rfl) rfl (fun _ _ _ _ _ _ h=>h _ _) (fun _ _ _ _ _ _ _=>by kernel_rfl) fun R kk e x0 x1 x2 x3 K=>by
 simp only[tg,U7,aD]
def HX:Env:=e0 [(.int .i64),(.int .i64)]
def zE:ah:=zB.add 176 [(.int .i64),(.int .i64)] (dt (.int .i64) (.int .i64) kX (fun _ r K=>K [tI r] none))
theorem aaK:aP Tryz.prog zE:=dv HX Tryz.f176 (fun R kk x0 x1 K=>W0 x0 x1 (fun a0=>K [tI a0] none)) aaJ (ek _ _ _ _) Tryz.func176 (by kernel_rfl) rfl (fun _ _ _ _ _ _ h=>h _ _) (fun _ _ _ _ _=>by kernel_rfl) fun R kk e x0 x1 K=>by
 simp only[kX,W0,aD]
def HV:Env:=e0 [(.int .i64),cL,.str,(.int .i64)]
def pX:ah:=zE.add 132 [(.int .i64),cL,.str,(.int .i64)] (SC (.int .i64) cL .str (.int .i64) HU (fun _ r K=>K [tS r.1,tI r.2.1,tI r.2.2] none))
theorem aaL:aP Tryz.prog pX:=st4 HV Tryz.f132 (fun R kk x0 x1 x2 x3 K=>WT x0 x1 x2 x3 (fun a0 a1 a2=>K [tS a0,tI a1,tI a2] none)) aaK (ek _ _ _ _) Tryz.func132 (by kernel_rfl) rfl (fun _ _ _ _ _ _ h=>h _ _) (fun _ _ _ _ _ _ _=>by kernel_rfl) fun R kk e x0 x1 x2 x3 K=>by
 simp only[HU,WT,aD]
def Xu:Env:=b9.env (fun i=>bif Nat.beq i 13 then [1,2,4,5,6,10,12,13] else []) (fun i=>bif Nat.beq i 13 then [1,4,5,6,10] else []) [4,5] [aK,.str]
def VR(a:ByteArray)(b c:Int)(d:af)(e:av)(f:aR)(g:av)(h:aR):Option R:=aB (ev Xu (pX R) kk (sub [1,1,1,1,1,1,1,1,0,1,0,0] (cd Tryz.f90))) [1,2,4,5,6,10,12,13] [1,4,5,6,10] k ⟨uS 1 ([tS a]::[.ptr 3 aK []]::uS 1 ([.ptr 5 y8 []]::[.ptr 6 (.pair (.int .i64) (.pair (.int .i64) .unit)) []]::[.ptr 7 y8 []]::uS 3 ([tI b]::uS 1 ([.ptr 13 (.pair (.int .u64) (.pair (.int .u64) .unit)) []]::[tI c]::uS 93 [])))),nS 3 ((some ⟨aK,d,[]⟩)::nS 1 ((some ⟨y8,e,[[1]]⟩)::(some ⟨(.pair (.int .i64) (.pair (.int .i64) .unit)),f,[]⟩)::(some ⟨y8,g,[[1]]⟩)::nS 5 ((some ⟨(.pair (.int .u64) (.pair (.int .u64) .unit)),h,[]⟩)::nS 94 [])))⟩ J
def zgl(a:ByteArray)(b:Int)(c:av)(d:aR)(e:av):State:=⟨uS 1 ([tS a]::uS 2 ([.ptr 5 y8 []]::[.ptr 6 (.pair (.int .i64) (.pair (.int .i64) .unit)) []]::[.ptr 7 y8 []]::uS 3 ([tI b]::uS 96 []))),nS 5 ((some ⟨y8,c,[[1]]⟩)::(some ⟨(.pair (.int .i64) (.pair (.int .i64) .unit)),d,[]⟩)::(some ⟨y8,e,[]⟩)::nS 100 [])⟩
def zgm(a:ByteArray)(b:Int)(c:av)(d:aR)(e:av):State:=⟨uS 1 ([tS a]::uS 2 ([.ptr 5 y8 []]::[.ptr 6 (.pair (.int .i64) (.pair (.int .i64) .unit)) []]::[.ptr 7 y8 []]::uS 3 ([tI b]::uS 96 []))),nS 5 ((some ⟨y8,c,[[1]]⟩)::(some ⟨(.pair (.int .i64) (.pair (.int .i64) .unit)),d,[]⟩)::(some ⟨y8,e,[[1]]⟩)::nS 100 [])⟩
def z105:KX R:=(zk 0 (aU Xu (pX R) kk (sub [1,1,1,1,1,1,1,1,1] (cd Tryz.f90)) (aT Xu Tryz.f90.results.toList none K)))
theorem al5(a:ByteArray)(b c:Int)(d:af)(e:av)(f:aR)(g:av)(h:aR):VR R kk (k+1) J a b c d e f g h=
 Ra a b c d e f g h (fun a0 a1 a2 a3 a4=>J .ret (zgl a0 a1 a2 a3 a4)) (VR R kk k J) (fun a0 a1 a2 a3 a4=>J (.exit 0) (zgm a0 a1 a2 a3 a4)):=by kernel_rfl
theorem afE(a:ByteArray)(b:Int)(c:av)(d:aR)(e:av):z105 R kk K .ret (zgl a b c d e)=
 Da a b c d e (fun a0 a1=>K [.aj y8 a0 [[1]],.aj (.pair (.int .i64) (.pair (.int .i64) .unit)) a1 []] none):=by kernel_rfl
theorem afF(a:ByteArray)(b:Int)(c:av)(d:aR)(e:av):z105 R kk K (.exit 0) (zgm a b c d e)=
 z107 a b c d e (fun a0 a1=>K [.aj y8 a0 [[1]],.aj (.pair (.int .i64) (.pair (.int .i64) .unit)) a1 []] none):=by kernel_rfl
theorem aiV{kk:Nat}(hF:kk=ag)(tQ:ByteArray)(t10 t13:Int)(dG:af)(cQ:av)(eb:aR)(gU:av)(B7:aR):VR R kk k J tQ t10 t13 dG cQ eb gU B7=(FQ k tQ t10 t13 dG cQ eb gU B7).bind fun e=>(Sum.elim (fun(we:ru)=>J .ret (zgl we.1 we.2.1 we.2.2.1 we.2.2.2.1 we.2.2.2.2)) (fun(we:ru)=>J (.exit 0) (zgm we.1 we.2.1 we.2.2.1 we.2.2.2.1 we.2.2.2.2)) e):=by
 induction k generalizing tQ t10 t13 dG cQ eb gU B7 with
 |zero=>rfl
 |succ k ih=>
  rw[al5]
  simp only[FQ,Ra,ih,aD]
def zG:ah:=pX.add 90 [aK,.str] (dt aK .str q7 (fun _ r K=>K [.aj y8 r.1 [[1]],.aj (.pair (.int .i64) (.pair (.int .i64) .unit)) r.2 []] none))
theorem aaM:aP Tryz.prog zG:=dv Xu Tryz.f90 (fun R kk x0 x1 K=>VS x0 x1 (fun a0 a1=>K [.aj y8 a0 [[1]],.aj (.pair (.int .i64) (.pair (.int .i64) .unit)) a1 []] none) (VR R kk kk (z105 R kk K))) aaL (ek _ _ _ _) Tryz.func90 (by kernel_rfl) rfl (fun _ _ _ _ _ _ h=>h _ _) (fun _ _ _ _ _=>by kernel_rfl) fun R kk e x0 x1 K=>by
 simp only[q7,VS,Da,z107,aiV (hF:=e),afE,afF,aD,<-e]
def anP:Env:=e0 [.str]
def pY:ah:=zG.add 117 [.str] (cO .str tf (fun _ r K=>K [tS r.1,tB r.2] none))
theorem aaN:aP Tryz.prog pY:=cP anP Tryz.f117 (fun R kk x0 K=>U4 x0 (fun a0 a1=>K [tS a0,tB a1] none)) aaM (ek _ _ _ _) Tryz.func117 (by kernel_rfl) rfl (fun _ _ _ _ _ _ h=>h _ _) (fun _ _ _ _=>by kernel_rfl) fun R kk e x0 K=>by
 simp only[tf,U4,aD]
def Xe:Env:=b9.env (fun i=>bif Nat.beq i 2 then [1,9,10,11] else []) (fun i=>bif Nat.beq i 2 then [4,5] else []) [] [y8,(.int .i64)]
def UW(a:Int)(b:ak)(c d:Int):Option R:=aB (ev Xe (pY R) kk (sub [1,0,1,0,0] (cd Tryz.f118))) [1,9,10,11] [4,5] k ⟨uS 1 ([tI a]::uS 7 ([.aj (.sl 208 (.pair (.int .i64) (.pair .str .unit))) b []]::[tI c]::[tI d]::uS 10 [])),nS 23 []⟩ J
def zft(a:ByteArray)(b:Bool):State:=⟨uS 4 ([tS a]::[tB b]::uS 16 []),nS 23 []⟩
def zfu:State:=⟨uS 22 [],nS 23 []⟩
def zyt:KX R:=(zk 0 (aU Xe (pY R) kk (sub [1,1] (cd Tryz.f118)) (aT Xe Tryz.f118.results.toList none K)))
theorem alO(a:Int)(b:ak)(c d:Int):UW R kk (k+1) J a b c d=
 zyu a b c d (fun a0 a1=>J .ret (zft a0 a1)) (UW R kk k J) (J (.exit 0) (zfu)):=by kernel_rfl
theorem afb(a:ByteArray)(b:Bool):zyt R kk K .ret (zft a b)=
 zyv a b (fun a0 a1=>K [tS a0,tB a1] none):=by kernel_rfl
theorem afc:zyt R kk K (.exit 0) (zfu)=
 zyw (fun a0 a1=>K [tS a0,tB a1] none):=by kernel_rfl
theorem aiF{kk:Nat}(hF:kk=ag)(fx:Int)(t9:ak)(t10 t11:Int):UW R kk k J fx t9 t10 t11=(QL k fx t9 t10 t11).bind fun e=>(Sum.elim (fun(we:jK)=>J .ret (zft we.1 we.2)) (fun(we:Unit)=>J (.exit 0) (zfu)) e):=by
 induction k generalizing fx t9 t10 t11 with
 |zero=>rfl
 |succ k ih=>
  rw[alO]
  simp only[QL,zyu,ih,aD]
def pZ:ah:=pY.add 118 [y8,(.int .i64)] (dt y8 (.int .i64) nZ (fun _ r K=>K [tS r.1,tB r.2] none))
theorem aaO:aP Tryz.prog pZ:=dv Xe Tryz.f118 (fun R kk x0 x1 K=>UX x0 x1 (UW R kk kk (zyt R kk K))) aaN (ek _ _ _ _) Tryz.func118 (by kernel_rfl) rfl (fun _ _ _ _ _ _ h=>h _ _) (fun _ _ _ _ _=>by kernel_rfl) fun R kk e x0 x1 K=>by
 simp only[nZ,UX,zyv,zyw,aiF (hF:=e),afb,afc,aD,<-e]
def Xh:Env:=b9.env (fun i=>bif Nat.beq i 3 then [1,4,5,12,13,14] else []) (fun i=>bif Nat.beq i 3 then [4,5] else []) [4] [y8,(.int .i64)]
def U1(a:Int)(b:ak)(c d:Int)(e f:av):Option R:=aB (ev Xh (pZ R) kk (sub [1,1,0,1,0,0] (cd Tryz.f164))) [1,4,5,12,13,14] [4,5] k ⟨uS 1 ([tI a]::uS 2 ([.ptr 5 y8 []]::[.ptr 6 y8 []]::uS 6 ([.aj (.sl 208 (.pair (.int .i64) (.pair .str .unit))) b []]::[tI c]::[tI d]::uS 15 []))),nS 5 ((some ⟨y8,e,[[1]]⟩)::(some ⟨y8,f,[[1]]⟩)::nS 24 [])⟩ J
def zfw(a b:av):State:=⟨uS 4 ([.ptr 5 y8 []]::[.ptr 6 y8 []]::uS 24 []),nS 5 ((some ⟨y8,a,[[1]]⟩)::(some ⟨y8,b,[[1]]⟩)::nS 24 [])⟩
def Oq:KX R:=(zk 0 (aU Xh (pZ R) kk (sub [1,1,1] (cd Tryz.f164)) (aT Xh Tryz.f164.results.toList none K)))
theorem alQ(a:Int)(b:ak)(c d:Int)(e f:av):U1 R kk (k+1) J a b c d e f=
 zz0 a b c d e f (U1 R kk k J) (fun a0 a1=>J (.exit 0) (zfw a0 a1)):=by kernel_rfl
theorem afe(a b:av):Oq R kk K (.exit 0) (zfw a b)=
 zz1 a b (fun a0=>K [.aj y8 a0 [[1]]] none):=by kernel_rfl
theorem aiH{kk:Nat}(hF:kk=ag)(fx:Int)(t12:ak)(t13 t14:Int)(cQ eb:av):U1 R kk k J fx t12 t13 t14 cQ eb=(QN k fx t12 t13 t14 cQ eb).bind fun e=>J (.exit 0) (zfw e.1 e.2):=by
 induction k generalizing fx t12 t13 t14 cQ eb with
 |zero=>rfl
 |succ k ih=>
  rw[alQ]
  simp only[QN,zz0,ih,aD]
def zH:ah:=pZ.add 164 [y8,(.int .i64)] (dt y8 (.int .i64) te (fun _ r K=>K [.aj y8 r [[1]]] none))
theorem aaP:aP Tryz.prog zH:=dv Xh Tryz.f164 (fun R kk x0 x1 K=>U2 x0 x1 (U1 R kk kk (Oq R kk K))) aaO (ek _ _ _ _) Tryz.func164 (by kernel_rfl) rfl (fun _ _ _ _ _ _ h=>h _ _) (fun _ _ _ _ _=>by kernel_rfl) fun R kk e x0 x1 K=>by
 simp only[te,U2,zz1,aiH (hF:=e),afe,aD,<-e]
def anN:Env:=e0 [(.pair (.int .i64) (.pair .str .unit)),.unit]
def p5:ah:=zH.add 166 [(.pair (.int .i64) (.pair .str .unit)),.unit] (pz (.pair (.int .i64) (.pair .str .unit)) (.int .i64) (.int .i64) [] td (fun _ r K=>K [tB r.1] (some ⟨(.int .i64),r.2,[]⟩)))
theorem aaQ:aP Tryz.prog p5:=sz anN Tryz.f166 (fun R kk x0 x1 K=>zyz x0 x1 (fun a0 a1=>K [tB a0] (some ⟨(.int .i64),a1,[]⟩))) aaP (ek _ _ _ _) Tryz.func166 (by kernel_rfl) rfl (fun _ _ _ _ _ _ h=>h _ _) (fun _ _ _ _ _=>by kernel_rfl) fun R kk e x0 x1 K=>by
 simp only[td,zyz,aD]
def Xs:Env:=b9.env (fun i=>bif Nat.beq i 2 then [0,1,7,8] else []) (fun i=>bif Nat.beq i 2 then [4] else []) [] [(.sl 208 (.pair (.int .i64) (.pair .str .unit))),.unit]
def VJ(a:ak)(b c d:Int):Option R:=aB (ev Xs (p5 R) kk (sub [1,0,1,0,0] (cd Tryz.f165))) [0,1,7,8] [4] k ⟨[.aj (.sl 208 (.pair (.int .i64) (.pair .str .unit))) a []]::[.ptr 0 (.aJ (.sj 166) (.int .i64) .unit) []]::uS 5 ([tI b]::[tI c]::uS 10 []),(some ⟨(.int .i64),d,[]⟩)::nS 19 []⟩ J
def zgh(a b:Int):State:=⟨uS 4 ([tI a]::uS 14 []),(some ⟨(.int .i64),b,[]⟩)::nS 19 []⟩
def zgi(a:Int):State:=⟨uS 19 [],(some ⟨(.int .i64),a,[]⟩)::nS 19 []⟩
def zzx(a:Int):KX R:=(zk 0 (aU Xs (p5 R) kk (sub [1,1] (cd Tryz.f165)) (aT Xs Tryz.f165.results.toList (some ⟨(.int .i64),a,[]⟩) K)))
theorem al3(a:ak)(b c d:Int):VJ R kk (k+1) J a b c d=
 zzy a b c d (fun a0 a1=>J .ret (zgh a0 a1)) (VJ R kk k J) (fun a0=>J (.exit 0) (zgi a0)):=by kernel_rfl
theorem afA(a b c:Int):zzx R kk K a .ret (zgh b c)=
 zzz b c (fun a0 a1=>K [tI a0] (some ⟨(.int .i64),a1,[]⟩)):=by kernel_rfl
theorem afB(a b:Int):zzx R kk K a (.exit 0) (zgi b)=
 C5 b (fun a0 a1=>K [tI a0] (some ⟨(.int .i64),a1,[]⟩)):=by kernel_rfl
theorem aiT{kk:Nat}(hF:kk=ag)(lY:ak)(t7 t8 recv:Int):VJ R kk k J lY t7 t8 recv=(QY k lY t7 t8 recv).bind fun e=>(Sum.elim (fun(we:(Int×Int))=>J .ret (zgh we.1 we.2)) (fun(we:Int)=>J (.exit 0) (zgi we)) e):=by
 induction k generalizing lY t7 t8 recv with
 |zero=>rfl
 |succ k ih=>
  rw[al3]
  simp only[QY,zzy,ih,aD]
def zJ:ah:=p5.add 165 [(.sl 208 (.pair (.int .i64) (.pair .str .unit))),.unit] (pz (.sl 208 (.pair (.int .i64) (.pair .str .unit))) (.aJ (.sj 166) (.int .i64) .unit) (.int .i64) [] tC (fun _ r K=>K [tI r.1] (some ⟨(.int .i64),r.2,[]⟩)))
theorem aaR:aP Tryz.prog zJ:=sz Xs Tryz.f165 (fun R kk x0 x1 K=>VK x0 x1 (VJ R kk kk (zzx R kk K x1))) aaQ (ek _ _ _ _) Tryz.func165 (by kernel_rfl) rfl (fun _ _ _ _ _ _ h=>h _ _) (fun _ _ _ _ _=>by kernel_rfl) fun R kk e x0 x1 K=>by
 simp only[tC,VK,zzz,C5,aiT (hF:=e),afA,afB,aD,<-e]
def anM:Env:={b9.env (fun _=>[]) (fun _=>[]) [6] [y8,(.int .i64),.str] with fz:=fun i=>bif Nat.beq i 9 then some (9,155) else none}
def jZ:ah:=zJ.add 119 [y8,(.int .i64),.str] (kE y8 (.int .i64) .str ig (fun _ r K=>K [.aj y8 r []] none))
theorem aaS:aP Tryz.prog jZ:=kU anM Tryz.f119 (fun R kk x0 x1 x2 K=>U0 x0 x1 x2 (fun a0=>K [.aj y8 a0 []] none)) aaR ((ek _ _ _ _).fz _) Tryz.func119 (by kernel_rfl) rfl (fun _ _ _ _ _ _ h=>h _ _) (fun _ _ _ _ _ _=>by kernel_rfl) fun R kk e x0 x1 x2 K=>by
 simp only[ig,U0,aD]
def F4:Env:=b9.env (fun i=>bif Nat.beq i 2 then [2,10,11,12] else bif Nat.beq i 5 then [2,6,10,11,12,17,18,19] else []) (fun i=>bif Nat.beq i 2 then [4] else bif Nat.beq i 5 then [2,4,10,11,12] else []) [] [cz,(.int .i64)]
def Vj(a:(List Int))(b c:Int)(d:ar):Option R:=aB (ev F4 (jZ R) kk (sub [1,0,1,0,0] (cd Tryz.f120))) [2,10,11,12] [4] k ⟨uS 2 ([.ptr 3 cz []]::uS 7 ([.aj (.sl 39 (.int .i64)) a [[]]]::[tI b]::[tI c]::uS 18 [])),nS 3 ((some ⟨cz,d,[]⟩)::nS 28 [])⟩ J
def zg3:State:=⟨uS 31 [],nS 32 []⟩
def zg4(a:ByteArray):State:=⟨uS 4 ([tS a]::uS 26 []),nS 32 []⟩
def zza:KX R:=(zk 0 (aU F4 (jZ R) kk (sub [1,1] (cd Tryz.f120)) (aT F4 Tryz.f120.results.toList none K)))
def Vk(a:Int)(b:(List Int))(c d:Int)(e:ak)(f g:Int)(h:ar):Option R:=aB (ev F4 (jZ R) kk (sub [1,0,1,0,0,1,1,0,0,1,1,0,0] (cd Tryz.f120))) [2,6,10,11,12,17,18,19] [2,4,10,11,12] k ⟨uS 2 ([.ptr 3 cz []]::uS 3 ([tI a]::uS 3 ([.aj (.sl 39 (.int .i64)) b [[]]]::[tI c]::[tI d]::uS 4 ([.aj (.sl 107 (.pair (.int .i64) (.pair .str .unit))) e []]::[tI f]::[tI g]::uS 11 [])))),nS 3 ((some ⟨cz,h,[]⟩)::nS 28 [])⟩ J
def zg5(a:ByteArray)(b:(List Int))(c d:Int)(e:ar):State:=⟨uS 2 ([.ptr 3 cz []]::uS 1 ([tS a]::uS 5 ([.aj (.sl 39 (.int .i64)) b [[]]]::[tI c]::[tI d]::uS 18 []))),nS 3 ((some ⟨cz,e,[]⟩)::nS 28 [])⟩
def zg6(a:(List Int))(b c:Int)(d:ar):State:=⟨uS 2 ([.ptr 3 cz []]::uS 7 ([.aj (.sl 39 (.int .i64)) a [[]]]::[tI b]::[tI c]::uS 18 [])),nS 3 ((some ⟨cz,d,[]⟩)::nS 28 [])⟩
def zzb:KX R:=(zk 2 (zk 1 (aU F4 (jZ R) kk (sub [1,0,1,0,0,1,1,1] (cd Tryz.f120)) (lr (ev F4 (jZ R) kk (sub [1,0,1,0,0] (cd Tryz.f120))) [2,10,11,12] [4] k J))))
theorem alV(a:(List Int))(b c:Int)(d:ar):Vj R kk (k+1) J a b c d=
 QT a b c d (Vk R kk kk (zzb R kk k J)) (J (.exit 0) (zg3)):=by kernel_rfl
theorem afl:zza R kk K (.exit 0) (zg3)=
 zzc (fun a0=>K [tS a0] none):=by kernel_rfl
theorem alW(a:Int)(b:(List Int))(c d:Int)(e:ak)(f g:Int)(h:ar):Vk R kk (k+1) J a b c d e f g h=
 zzd a b c d e f g h (fun a0 a1 a2 a3 a4=>J .ret (zg5 a0 a1 a2 a3 a4)) (Vk R kk k J) (fun a0 a1 a2 a3=>J (.exit 2) (zg6 a0 a1 a2 a3)):=by kernel_rfl
theorem afn(a:ByteArray)(b:(List Int))(c d:Int)(e:ar):zzb R kk k J .ret (zg5 a b c d e)=
 zze a b c d e (fun a0=>J .ret (zg4 a0)):=by kernel_rfl
theorem afo(a:(List Int))(b c:Int)(d:ar):zzb R kk k J (.exit 2) (zg6 a b c d)=
 Vm a b c d (Vj R kk k J):=by kernel_rfl
theorem afm(a:ByteArray):zza R kk K .ret (zg4 a)=
 zzf a (fun a0=>K [tS a0] none):=by kernel_rfl
theorem aiN{kk:Nat}(hF:kk=ag)(t6:Int)(t10:(List Int))(t11 t12:Int)(t17:ak)(t18 t19:Int)(dG:ar):Vk R kk k J t6 t10 t11 t12 t17 t18 t19 dG=(Hm k t6 t10 t11 t12 t17 t18 t19 dG).bind fun e=>(Sum.elim (fun(we:(ByteArray×(List Int)×Int×Int×ar))=>J .ret (zg5 we.1 we.2.1 we.2.2.1 we.2.2.2.1 we.2.2.2.2)) (fun(we:((List Int)×Int×Int×ar))=>J (.exit 2) (zg6 we.1 we.2.1 we.2.2.1 we.2.2.2)) e):=by
 induction k generalizing t6 t10 t11 t12 t17 t18 t19 dG with
 |zero=>rfl
 |succ k ih=>
  rw[alW]
  simp only[Hm,zzd,ih,aD]
theorem aiM{kk:Nat}(hF:kk=ag)(t10:(List Int))(t11 t12:Int)(dG:ar):Vj R kk k J t10 t11 t12 dG=(BA k t10 t11 t12 dG).bind fun e=>(Sum.elim (fun(we:Unit)=>J (.exit 0) (zg3)) (fun(we:ByteArray)=>J .ret (zg4 we)) e):=by
 induction k generalizing t10 t11 t12 dG with
 |zero=>rfl
 |succ k ih=>
  rw[alV]
  simp only[BA,QT,zze,Vm,ih,aiN (hF:=hF),afn,afo,aD,<-hF]
def p6:ah:=jZ.add 120 [cz,(.int .i64)] (dt cz (.int .i64) tk (fun _ r K=>K [tS r] none))
theorem aaT:aP Tryz.prog p6:=dv F4 Tryz.f120 (fun R kk x0 x1 K=>Vl x0 x1 (Vj R kk kk (zza R kk K))) aaS (ek _ _ _ _) Tryz.func120 (by kernel_rfl) rfl (fun _ _ _ _ _ _ h=>h _ _) (fun _ _ _ _ _=>by kernel_rfl) fun R kk e x0 x1 K=>by
 simp only[tk,Vl,zzc,zzf,aiM (hF:=e),afl,afm,aD,<-e]
def Xk:Env:={{b9.env (fun i=>bif Nat.beq i 6 then [3,4,5,6,10,27,28,29] else []) (fun i=>bif Nat.beq i 6 then [3,5,6,10] else []) [6] [cz,y8,(.pair (.int .i64) (.pair (.int .i64) .unit))] with dr:=fun i=>bif Nat.beq i 6 then [11] else []} with ro:=true}
def Vb(a:(List Int))(b c:Int)(d:ar)(e:av)(f:aR)(g h:av):Option R:=aB (ev Xk (p6 R) kk (sub [1,1,1,1,0,1,0,0] (cd Tryz.f88))) [3,4,5,6,10,27,28,29] [3,5,6,10] k ⟨uS 3 ([.ptr 4 cz []]::[.ptr 5 y8 []]::[.ptr 6 (.pair (.int .i64) (.pair (.int .i64) .unit)) []]::[.ptr 7 y8 []]::uS 3 ([.ptr 11 y8 []]::uS 16 ([.aj (.sl 3 (.int .i64)) a []]::[tI b]::[tI c]::uS 21 []))),nS 4 ((some ⟨cz,d,[]⟩)::(some ⟨y8,e,[]⟩)::(some ⟨(.pair (.int .i64) (.pair (.int .i64) .unit)),f,[]⟩)::(some ⟨y8,g,[[1]]⟩)::nS 3 ((some ⟨y8,h,[]⟩)::nS 40 []))⟩ J
def zfy(a:ar)(b:aR)(c d:av):State:=⟨uS 3 ([.ptr 4 cz []]::uS 1 ([.ptr 6 (.pair (.int .i64) (.pair (.int .i64) .unit)) []]::[.ptr 7 y8 []]::uS 3 ([.ptr 11 y8 []]::uS 40 []))),nS 4 ((some ⟨cz,a,[]⟩)::nS 1 ((some ⟨(.pair (.int .i64) (.pair (.int .i64) .unit)),b,[]⟩)::(some ⟨y8,c,[[1]]⟩)::nS 3 ((some ⟨y8,d,[]⟩)::nS 40 [])))⟩
def Ou:KX R:=(zk 0 (aU Xk (p6 R) kk (sub [1,1,1,1,1] (cd Tryz.f88)) (aT Xk Tryz.f88.results.toList none K)))
theorem alS(a:(List Int))(b c:Int)(d:ar)(e:av)(f:aR)(g h:av):Vb R kk (k+1) J a b c d e f g h=
 zz5 a b c d e f g h (Vb R kk k J) (fun a0 a1 a2 a3=>J (.exit 0) (zfy a0 a1 a2 a3)):=by kernel_rfl
theorem afg(a:ar)(b:aR)(c d:av):Ou R kk K (.exit 0) (zfy a b c d)=
 Vd a b c d (fun a0 a1=>K [.aj y8 a0 [],tB a1] none):=by kernel_rfl
theorem aiJ{kk:Nat}(hF:kk=ag)(t27:(List Int))(t28 t29:Int)(dH:ar)(cQ:av)(eb:aR)(gU B6:av):Vb R kk k J t27 t28 t29 dH cQ eb gU B6=(QQ k t27 t28 t29 dH cQ eb gU B6).bind fun e=>J (.exit 0) (zfy e.1 e.2.1 e.2.2.1 e.2.2.2):=by
 induction k generalizing t27 t28 t29 dH cQ eb gU B6 with
 |zero=>rfl
 |succ k ih=>
  rw[alS]
  simp only[QQ,zz5,ih,aD]
def p7:ah:=p6.add 88 [cz,y8,(.pair (.int .i64) (.pair (.int .i64) .unit))] (kE cz y8 (.pair (.int .i64) (.pair (.int .i64) .unit)) ti (fun _ r K=>K [.aj y8 r.1 [],tB r.2] none))
theorem aaU:aP Tryz.prog p7:=kU Xk Tryz.f88 (fun R kk x0 x1 x2 K=>Vc x0 x1 x2 (fun a0 a1=>K [.aj y8 a0 [],tB a1] none) (Vb R kk kk (Ou R kk K))) aaT (((ek _ _ _ _).dr _).ro _) Tryz.func88 (by kernel_rfl) rfl (fun _ _ _ _ _ _ h=>h _ _) (fun _ _ _ _ _ _=>by kernel_rfl) fun R kk e x0 x1 x2 K=>by
 simp only[ti,Vc,Vd,aiJ (hF:=e),afg,aD,<-e]
def Xd:Env:=b9.env (fun i=>bif Nat.beq i 9 then [2,4,9,39,40,41] else []) (fun i=>bif Nat.beq i 9 then [4] else []) [4] [aK,y8]
def UT(a:Int)(b:ak)(c d:Int)(e:af)(f:aR):Option R:=aB (ev Xd (p7 R) kk (sub [1,1,1,1,0,1,0,0] (cd Tryz.f121))) [2,4,9,39,40,41] [4] k ⟨uS 2 ([.ptr 3 aK []]::uS 1 ([.ptr 5 (.pair (.int .i64) (.pair (.int .i64) .unit)) []]::uS 4 ([tI a]::uS 29 ([.aj (.sl 208 (.pair (.int .i64) (.pair .str .unit))) b []]::[tI c]::[tI d]::uS 36 [])))),nS 3 ((some ⟨aK,e,[]⟩)::nS 1 ((some ⟨(.pair (.int .i64) (.pair (.int .i64) .unit)),f,[]⟩)::nS 73 []))⟩ J
def zfr(a:aR):State:=⟨uS 4 ([.ptr 5 (.pair (.int .i64) (.pair (.int .i64) .unit)) []]::uS 73 []),nS 5 ((some ⟨(.pair (.int .i64) (.pair (.int .i64) .unit)),a,[]⟩)::nS 73 [])⟩
def zfs(a:aR):State:=⟨uS 4 ([.ptr 5 (.pair (.int .i64) (.pair (.int .i64) .unit)) []]::uS 73 []),nS 5 ((some ⟨(.pair (.int .i64) (.pair (.int .i64) .unit)),a,[]⟩)::nS 73 [])⟩
def zyp:KX R:=(zk 0 (aU Xd (p7 R) kk (sub [1,1,1,1,1] (cd Tryz.f121)) (aT Xd Tryz.f121.results.toList none K)))
theorem alN(a:Int)(b:ak)(c d:Int)(e:af)(f:aR):UT R kk (k+1) J a b c d e f=
 zyq a b c d e f (fun a0=>J .ret (zfr a0)) (UT R kk k J) (fun a0=>J (.exit 0) (zfs a0)):=by kernel_rfl
theorem ae9(a:aR):zyp R kk K .ret (zfr a)=
 zyr a (fun a0=>K [.aj (.pair (.int .i64) (.pair (.int .i64) .unit)) a0 []] none):=by kernel_rfl
theorem afa(a:aR):zyp R kk K (.exit 0) (zfs a)=
 zys a (fun a0=>K [.aj (.pair (.int .i64) (.pair (.int .i64) .unit)) a0 []] none):=by kernel_rfl
theorem aiE{kk:Nat}(hF:kk=ag)(t9:Int)(t39:ak)(t40 t41:Int)(dG:af)(cQ:aR):UT R kk k J t9 t39 t40 t41 dG cQ=(QK k t9 t39 t40 t41 dG cQ).bind fun e=>(Sum.elim (fun(we:aR)=>J .ret (zfr we)) (fun(we:aR)=>J (.exit 0) (zfs we)) e):=by
 induction k generalizing t9 t39 t40 t41 dG cQ with
 |zero=>rfl
 |succ k ih=>
  rw[alN]
  simp only[QK,zyq,ih,aD]
def p8:ah:=p7.add 121 [aK,y8] (dt aK y8 qU (fun _ r K=>K [.aj (.pair (.int .i64) (.pair (.int .i64) .unit)) r []] none))
theorem aaV:aP Tryz.prog p8:=dv Xd Tryz.f121 (fun R kk x0 x1 K=>UU x0 x1 (fun a0=>K [.aj (.pair (.int .i64) (.pair (.int .i64) .unit)) a0 []] none) (UT R kk kk (zyp R kk K))) aaU (ek _ _ _ _) Tryz.func121 (by kernel_rfl) rfl (fun _ _ _ _ _ _ h=>h _ _) (fun _ _ _ _ _=>by kernel_rfl) fun R kk e x0 x1 K=>by
 simp only[qU,UU,zyr,zys,aiE (hF:=e),ae9,afa,aD,<-e]
def vX:Env:=b9.env (fun i=>bif Nat.beq i 7 then [0,4,5] else []) (fun i=>bif Nat.beq i 7 then [4] else []) [] [.str]
def oZ(a:ByteArray)(b:(List Int))(c:Int):Option R:=aB (ev vX (p8 R) kk (sub [1,1,1,1,0,1,0,0] (cd Tryz.f168))) [0,4,5] [4] k ⟨[tS a]::uS 3 ([.aj (.sl 5 (.int .u8)) b [[]]]::[tI c]::uS 40 []),nS 47 []⟩ J
def zzs(a:(List Int)):State:=⟨uS 4 ([.aj (.sl 5 (.int .u8)) a [[]]]::uS 41 []),nS 47 []⟩
def yx:KX R:=(zk 0 (aU vX (p8 R) kk (sub [1,1,1,1,1] (cd Tryz.f168)) (aT vX Tryz.f168.results.toList none K)))
theorem H6(a:ByteArray)(b:(List Int))(c:Int):oZ R kk (k+1) J a b c=
 mM a b c (oZ R kk k J) (fun a0=>J (.exit 0) (zzs a0)):=by kernel_rfl
theorem al1(a:(List Int)):yx R kk K (.exit 0) (zzs a)=
 tA a (fun a0 a1=>K [tS a0,tB a1] none):=by kernel_rfl
theorem an7{kk:Nat}(hF:kk=ag)(iV:ByteArray)(t4:(List Int))(t5:Int):oZ R kk k J iV t4 t5=(jV k iV t4 t5).bind fun e=>J (.exit 0) (zzs e):=by
 induction k generalizing iV t4 t5 with
 |zero=>rfl
 |succ k ih=>
  rw[H6]
  simp only[jV,mM,ih,aD]
def zK:ah:=p8.add 168 [.str] (cO .str Q1 (fun _ r K=>K [tS r.1,tB r.2] none))
theorem aaW:aP Tryz.prog zK:=cP vX Tryz.f168 (fun R kk x0 K=>kY x0 (fun a0 a1=>K [tS a0,tB a1] none) (fun a0 a1 a2=>oZ R kk kk (yx R kk K) a0 a1 a2)) aaV (ek _ _ _ _) Tryz.func168 (by kernel_rfl) rfl (fun _ _ _ _ _ _ h=>h _ _) (fun _ _ _ _=>by kernel_rfl) fun R kk e x0 K=>by
 simp only[Q1,adg,tA,an7 (hF:=e),al1,aD,<-e]
def aok:Env:=e0 [(.int .i64),.str]
def zL:ah:=zK.add 124 [(.int .i64),.str] (dt (.int .i64) .str tJ (fun _ r K=>K [tS r.1,tB r.2] none))
theorem CO:aP Tryz.prog zL:=dv aok Tryz.f124 (fun R kk x0 x1 K=>Wb x0 x1 (fun a0 a1=>K [tS a0,tB a1] none)) aaW (ek _ _ _ _) Tryz.func124 (by kernel_rfl) rfl (fun _ _ _ _ _ _ h=>h _ _) (fun _ _ _ _ _=>by kernel_rfl) fun R kk e x0 x1 K=>by
 simp only[tJ,Wb,aD]
def Tryz.ji:Go.Shelf.Ren:=⟨fun|166=>123|240=>167|276=>209|n=>n,fun|70=>196|9=>9|3=>3|75=>200|0=>0|72=>198|37=>99|4=>4|164=>280|80=>210|5=>5|20=>20|n=>n,fun n=>n⟩
theorem Tryz.xH:Go.Proofs.Lays.n166 Go.Proofs.Tryz.prog Tryz.ji:={
 mixed:=by kernel_rfl,
 f166:=Go.Proofs.Tryz.func123.trans (congrArg some (by kernel_rfl)),
 f240:=Go.Proofs.Tryz.func167.trans (congrArg some (by kernel_rfl)),
 f276:=Go.Proofs.Tryz.func209.trans (congrArg some (by kernel_rfl)),
 t0:=Go.Proofs.Tryz.underlying0,
 a0:=Go.Proofs.Tryz.isAgg0,
 z0:=Go.Proofs.Tryz.sizeOf0,
 v0:=Go.Proofs.Tryz.zeroValue0,
 t3:=Go.Proofs.Tryz.underlying3,
 a3:=Go.Proofs.Tryz.isAgg3,
 z3:=Go.Proofs.Tryz.sizeOf3,
 v3:=Go.Proofs.Tryz.zeroValue3,
 t4:=Go.Proofs.Tryz.underlying4,
 a4:=Go.Proofs.Tryz.isAgg4,
 z4:=Go.Proofs.Tryz.sizeOf4,
 v4:=Go.Proofs.Tryz.zeroValue4,
 t9:=Go.Proofs.Tryz.underlying9,
 a9:=Go.Proofs.Tryz.isAgg9,
 z9:=Go.Proofs.Tryz.sizeOf9,
 v9:=Go.Proofs.Tryz.zeroValue9,
 t20:=Go.Proofs.Tryz.underlying20,
 a20:=Go.Proofs.Tryz.isAgg20,
 z20:=Go.Proofs.Tryz.sizeOf20,
 v20:=Go.Proofs.Tryz.zeroValue20,
 t37:=Go.Proofs.Tryz.underlying99,
 a37:=Go.Proofs.Tryz.isAgg99,
 z37:=Go.Proofs.Tryz.sizeOf99,
 v37:=Go.Proofs.Tryz.zeroValue99,
 t70:=Go.Proofs.Tryz.underlying196,
 a70:=Go.Proofs.Tryz.isAgg196,
 z70:=Go.Proofs.Tryz.sizeOf196,
 v70:=Go.Proofs.Tryz.zeroValue196,
 t72:=Go.Proofs.Tryz.underlying198,
 a72:=Go.Proofs.Tryz.isAgg198,
 z72:=Go.Proofs.Tryz.sizeOf198,
 v72:=Go.Proofs.Tryz.zeroValue198,
 t75:=Go.Proofs.Tryz.underlying200,
 a75:=Go.Proofs.Tryz.isAgg200,
 z75:=Go.Proofs.Tryz.sizeOf200,
 v75:=Go.Proofs.Tryz.zeroValue200,
 t164:=Go.Proofs.Tryz.underlying280,
 a164:=Go.Proofs.Tryz.isAgg280,
 z164:=Go.Proofs.Tryz.sizeOf280,
 v164:=Go.Proofs.Tryz.zeroValue280}
theorem Tryz.tX:Go.Proofs.Builder.Extra Go.Proofs.Tryz.prog Tryz.ji:={
 sizeBuilder:=by kernel_rfl,
 liesBuilder:=by kernel_rfl,
 t5:=Go.Proofs.Tryz.underlying5,
 a5:=Go.Proofs.Tryz.isAgg5,
 z5:=Go.Proofs.Tryz.sizeOf5,
 v5:=Go.Proofs.Tryz.zeroValue5,
 infoByte:=by kernel_rfl,
 cellsByte:=by kernel_rfl,
 sizeByte:=by kernel_rfl,
 neB5:=by decide}
noncomputable abbrev z6k:Code:=Tryz.f123.body.getD .skip
theorem z5z:sf Tryz.prog 123:=⟨Tryz.f123,z6k,Tryz.func123,by kernel_rfl,by kernel_rfl⟩
def zM:ah:=zL.add 123 [] (RQ 198 5)
theorem aaX:aP Tryz.prog zM:=⟨CO.mix,Wt CO.nat (aoL _ _),agc CO.uL z5z Tryz.xH Tryz.tX rfl rfl rfl⟩
def aoj:Env:=e0 [.str,.unit]
def p9:ah:=zM.add 122 [.str,.unit] (pz .str (.aJ (.gF 198 5) .unit .unit) (.aJ (.gF 198 5) .unit .unit) [[]] jW (fun _ r K=>K [] (some ⟨(.aJ (.gF 198 5) .unit .unit),r,[[]]⟩)))
theorem aaY:aP Tryz.prog p9:=sz aoj Tryz.f122 (fun R kk x0 x1 K=>Wa x0 x1 (fun a0=>K [] (some ⟨(.aJ (.gF 198 5) .unit .unit),a0,[[]]⟩))) aaX (ek _ _ _ _) Tryz.func122 (by kernel_rfl) rfl (fun _ _ _ _ _ _ h=>h _ _) (fun _ _ _ _ _=>by kernel_rfl) fun R kk e x0 x1 K=>by
 simp only[jW,Wa,aD]
def Xf:Env:=b9.env (fun i=>bif Nat.beq i 3 then [2,3,7,8,9] else []) (fun i=>bif Nat.beq i 3 then [2,3] else []) [2] [y8]
def UY(a:ak)(b c:Int)(d e:aR):Option R:=aB (ev Xf (p9 R) kk (sub [1,1,0,1,0,0] (cd Tryz.f126))) [2,3,7,8,9] [2,3] k ⟨uS 2 ([.ptr 3 (.pair (.int .u64) (.pair (.int .u64) .unit)) []]::[.ptr 4 (.pair (.int .u64) (.pair (.int .u64) .unit)) []]::uS 3 ([.aj (.sl 208 (.pair (.int .i64) (.pair .str .unit))) a []]::[tI b]::[tI c]::uS 9 [])),nS 3 ((some ⟨(.pair (.int .u64) (.pair (.int .u64) .unit)),d,[]⟩)::(some ⟨(.pair (.int .u64) (.pair (.int .u64) .unit)),e,[]⟩)::nS 15 [])⟩ J
def zfv(a b:aR):State:=⟨uS 2 ([.ptr 3 (.pair (.int .u64) (.pair (.int .u64) .unit)) []]::[.ptr 4 (.pair (.int .u64) (.pair (.int .u64) .unit)) []]::uS 15 []),nS 3 ((some ⟨(.pair (.int .u64) (.pair (.int .u64) .unit)),a,[]⟩)::(some ⟨(.pair (.int .u64) (.pair (.int .u64) .unit)),b,[]⟩)::nS 15 [])⟩
def Oo:KX R:=(zk 0 (aU Xf (p9 R) kk (sub [1,1,1] (cd Tryz.f126)) (aT Xf Tryz.f126.results.toList none K)))
theorem alP(a:ak)(b c:Int)(d e:aR):UY R kk (k+1) J a b c d e=
 zyx a b c d e (UY R kk k J) (fun a0 a1=>J (.exit 0) (zfv a0 a1)):=by kernel_rfl
theorem afd(a b:aR):Oo R kk K (.exit 0) (zfv a b)=
 zyy a b (fun a0=>K [.aj (.pair (.int .u64) (.pair (.int .u64) .unit)) a0 []] none):=by kernel_rfl
theorem aiG{kk:Nat}(hF:kk=ag)(t7:ak)(t8 t9:Int)(dG dH:aR):UY R kk k J t7 t8 t9 dG dH=(QM k t7 t8 t9 dG dH).bind fun e=>J (.exit 0) (zfv e.1 e.2):=by
 induction k generalizing t7 t8 t9 dG dH with
 |zero=>rfl
 |succ k ih=>
  rw[alP]
  simp only[QM,zyx,ih,aD]
def zN:ah:=p9.add 126 [y8] (cO y8 tc (fun _ r K=>K [.aj (.pair (.int .u64) (.pair (.int .u64) .unit)) r []] none))
theorem aaZ:aP Tryz.prog zN:=cP Xf Tryz.f126 (fun R kk x0 K=>UZ x0 (UY R kk kk (Oo R kk K))) aaY (ek _ _ _ _) Tryz.func126 (by kernel_rfl) rfl (fun _ _ _ _ _ _ h=>h _ _) (fun _ _ _ _=>by kernel_rfl) fun R kk e x0 K=>by
 simp only[tc,UZ,zyy,aiG (hF:=e),afd,aD,<-e]
def Ij:Env:=e0 [(.pair (.int .u64) (.pair (.int .u64) .unit)),(.int .i64)]
def zO:ah:=zN.add 170 [(.pair (.int .u64) (.pair (.int .u64) .unit)),(.int .i64)] (dt (.pair (.int .u64) (.pair (.int .u64) .unit)) (.int .i64) Ii (fun _ r K=>K [tB r] none))
theorem aa0:aP Tryz.prog zO:=dv Ij Tryz.f170 (fun R kk x0 x1 K=>XU x0 x1 (fun a0=>K [tB a0] none)) aaZ (ek _ _ _ _) Tryz.func170 (by kernel_rfl) rfl (fun _ _ _ _ _ _ h=>h _ _) (fun _ _ _ _ _=>by kernel_rfl) fun R kk e x0 x1 K=>by
 simp only[Ii,XU,aD]
def Ih:Env:=e0 [(.pair (.int .u64) (.pair (.int .u64) .unit))]
def qa:ah:=zO.add 171 [(.pair (.int .u64) (.pair (.int .u64) .unit))] (cO (.pair (.int .u64) (.pair (.int .u64) .unit)) R6 (fun _ r K=>K [.aj (.int .u64) r.1 [],.aj (.int .u64) r.2 []] none))
theorem aa1:aP Tryz.prog qa:=cP Ih Tryz.f171 (fun R kk x0 K=>Eg x0 (fun a0 a1=>K [.aj (.int .u64) a0 [],.aj (.int .u64) a1 []] none)) aa0 (ek _ _ _ _) Tryz.func171 (by kernel_rfl) rfl (fun _ _ _ _ _ _ h=>h _ _) (fun _ _ _ _=>by kernel_rfl) fun R kk e x0 K=>by
 simp only[R6,Eg,aD]
def wu:Env:=b9.env (fun i=>bif Nat.beq i 3 then [0,2,3,5] else []) (fun i=>bif Nat.beq i 3 then [2,3] else []) [2] [(.int .u64)]
def pL(a b:Int)(c d:(List Int)):Option R:=aB (ev wu (qa R) kk (sub [1,1,0,1,0,0] (cd Tryz.f172))) [0,2,3,5] [2,3] k ⟨[.aj (.int .u64) a []]::uS 1 ([.ptr 3 (.arr 8 (.int .u8)) []]::[.ptr 4 (.arr 8 (.int .u8)) []]::uS 1 ([tI b]::uS 12 [])),nS 3 ((some ⟨(.arr 8 (.int .u8)),c,[]⟩)::(some ⟨(.arr 8 (.int .u8)),d,[]⟩)::nS 14 [])⟩ J
def DH(a b:(List Int)):State:=⟨uS 2 ([.ptr 3 (.arr 8 (.int .u8)) []]::[.ptr 4 (.arr 8 (.int .u8)) []]::uS 14 []),nS 3 ((some ⟨(.arr 8 (.int .u8)),a,[]⟩)::(some ⟨(.arr 8 (.int .u8)),b,[]⟩)::nS 14 [])⟩
def yM:KX R:=(zk 0 (aU wu (qa R) kk (sub [1,1,1] (cd Tryz.f172)) (aT wu Tryz.f172.results.toList none K)))
theorem I1(a b:Int)(c d:(List Int)):pL R kk (k+1) J a b c d=
 mP a b c d (pL R kk k J) (fun a0 a1=>J (.exit 0) (DH a0 a1)):=by kernel_rfl
theorem amB(a b:(List Int)):yM R kk K (.exit 0) (DH a b)=
 pN a b (fun a0=>K [.aj (.arr 8 (.int .u8)) a0 []] none):=by kernel_rfl
theorem aoE{kk:Nat}(hF:kk=ag)(x_0 t5:Int)(dG dH:(List Int)):pL R kk k J x_0 t5 dG dH=(ii k x_0 t5 dG dH).bind fun e=>J (.exit 0) (DH e.1 e.2):=by
 induction k generalizing x_0 t5 dG dH with
 |zero=>rfl
 |succ k ih=>
  rw[I1]
  simp only[ii,mP,ih,aD]
def qb:ah:=qa.add 172 [(.int .u64)] (cO (.int .u64) Q8 (fun _ r K=>K [.aj (.arr 8 (.int .u8)) r []] none))
theorem aa2:aP Tryz.prog qb:=cP wu Tryz.f172 (fun R kk x0 K=>pM x0 (pL R kk kk (yM R kk K))) aa1 (ek _ _ _ _) Tryz.func172 (by kernel_rfl) rfl (fun _ _ _ _ _ _ h=>h _ _) (fun _ _ _ _=>by kernel_rfl) fun R kk e x0 K=>by
 simp only[Q8,pM,pN,aoE (hF:=e),amB,aD,<-e]
def Xa:Env:=b9.env (fun i=>bif Nat.beq i 3 then [0,3,4] else []) (fun i=>bif Nat.beq i 3 then [3] else []) [] [.str]
def UQ(a:ByteArray)(b:(List Int))(c:Int):Option R:=aB (ev Xa (qb R) kk (sub [1,1,0,1,0,0] (cd Tryz.f173))) [0,3,4] [3] k ⟨[tS a]::uS 2 ([.aj (.sl 5 (.int .u8)) b [[]]]::[tI c]::uS 25 []),nS 31 []⟩ J
def zfp(a:(List Int)):State:=⟨uS 3 ([.aj (.sl 5 (.int .u8)) a [[]]]::uS 26 []),nS 31 []⟩
def On:KX R:=(zk 0 (aU Xa (qb R) kk (sub [1,1,1] (cd Tryz.f173)) (aT Xa Tryz.f173.results.toList none K)))
theorem alL(a:ByteArray)(b:(List Int))(c:Int):UQ R kk (k+1) J a b c=
 QJ a b c (UQ R kk k J) (fun a0=>J (.exit 0) (zfp a0)):=by kernel_rfl
theorem ae8(a:(List Int)):On R kk K (.exit 0) (zfp a)=
 zyn a (fun a0=>K [tS a0] none):=by kernel_rfl
theorem aiB{kk:Nat}(hF:kk=ag)(iV:ByteArray)(t3:(List Int))(t4:Int):UQ R kk k J iV t3 t4=(FM k iV t3 t4).bind fun e=>J (.exit 0) (zfp e):=by
 induction k generalizing iV t3 t4 with
 |zero=>rfl
 |succ k ih=>
  rw[alL]
  simp only[FM,QJ,ih,aD]
def zP:ah:=qb.add 173 [.str] (cO .str jT (fun _ r K=>K [tS r] none))
theorem aa3:aP Tryz.prog zP:=cP Xa Tryz.f173 (fun R kk x0 K=>UR x0 (UQ R kk kk (On R kk K))) aa2 (ek _ _ _ _) Tryz.func173 (by kernel_rfl) rfl (fun _ _ _ _ _ _ h=>h _ _) (fun _ _ _ _=>by kernel_rfl) fun R kk e x0 K=>by
 simp only[jT,UR,zyn,aiB (hF:=e),ae8,aD,<-e]
def Y7:Env:=e0 [(.int .i64),(.pair (.int .u64) (.pair (.int .u64) .unit))]
def qc:ah:=zP.add 125 [(.int .i64),(.pair (.int .u64) (.pair (.int .u64) .unit))] (dt (.int .i64) (.pair (.int .u64) (.pair (.int .u64) .unit)) Q6 (fun _ r K=>K [tS r.1,tI r.2] none))
theorem aa4:aP Tryz.prog qc:=dv Y7 Tryz.f125 (fun R kk x0 x1 K=>pD x0 x1 (fun a0 a1=>K [tS a0,tI a1] none)) aa3 (ek _ _ _ _) Tryz.func125 (by kernel_rfl) rfl (fun _ _ _ _ _ _ h=>h _ _) (fun _ _ _ _ _=>by kernel_rfl) fun R kk e x0 x1 K=>by
 simp only[Q6,pD,aD]
def pg:Env:=b9.env (fun i=>bif Nat.beq i 5 then [0,6,7,19] else []) (fun i=>bif Nat.beq i 5 then [0,6,19] else []) [] [(.int .i64),(.int .i64)]
def XM(a:Int)(b:Nat)(c:Int)(d:Nat)(e:(List Int)):Option R:=aB (ev pg (qc R) kk (sub [1,1,1,0,1,0,0] (cd Tryz.f211))) [0,6,7,19] [0,6,19] k ⟨[tI a]::uS 5 ([.ptr 20 (.aJ (.iP b) (.int .u8) .unit) []]::[tI c]::uS 11 ([.ptr 20 (.aJ (.iP d) (.int .u8) .unit) []]::uS 19 [])),nS 20 ((some ⟨(.aJ .row (.int .u8) .unit),e,[]⟩)::nS 19 [])⟩ J
def zpt(a:Int)(b c:Nat)(d:(List Int)):State:=⟨[tI a]::uS 5 ([.ptr 20 (.aJ (.iP b) (.int .u8) .unit) []]::uS 12 ([.ptr 20 (.aJ (.iP c) (.int .u8) .unit) []]::uS 19 [])),nS 20 ((some ⟨(.aJ .row (.int .u8) .unit),d,[]⟩)::nS 19 [])⟩
def Pj:KX R:=(zk 0 (aU pg (qc R) kk (sub [1,1,1,1] (cd Tryz.f211)) (aT pg Tryz.f211.results.toList none K)))
theorem aoo(a:Int)(b:Nat)(c:Int)(d:Nat)(e:(List Int)):XM R kk (k+1) J a b c d e=
 Ry a b c d e (XM R kk k J) (fun a0 a1 a2 a3=>J (.exit 0) (zpt a0 a1 a2 a3)):=by kernel_rfl
theorem aje(a:Int)(b c:Nat)(d:(List Int)):Pj R kk K (.exit 0) (zpt a b c d)=
 XP a b c d (fun a0 a1=>K [tS a0,tB a1] none):=by kernel_rfl
theorem aml{kk:Nat}(hF:kk=ag)(n_0:Int)(nt6:Nat)(t7:Int)(CN:Nat)(Ca:(List Int)):XM R kk k J n_0 nt6 t7 CN Ca=(F6 k n_0 nt6 t7 CN Ca).bind fun e=>J (.exit 0) (zpt e.1 e.2.1 e.2.2.1 e.2.2.2):=by
 induction k generalizing n_0 nt6 t7 CN Ca with
 |zero=>rfl
 |succ k ih=>
  rw[aoo]
  simp only[F6,Ry,ih,aD]
def zQ:ah:=qc.add 211 [(.int .i64),(.int .i64)] (dt (.int .i64) (.int .i64) Ib (fun _ r K=>K [tS r.1,tB r.2] none))
theorem aa5:aP Tryz.prog zQ:=dv pg Tryz.f211 (fun R kk x0 x1 K=>XO x0 x1 (fun a0 a1=>K [tS a0,tB a1] none) (XM R kk kk (Pj R kk K))) aa4 (ek _ _ _ _) Tryz.func211 (by kernel_rfl) rfl (fun _ _ _ _ _ _ h=>h _ _) (fun _ _ _ _ _=>by kernel_rfl) fun R kk e x0 x1 K=>by
 simp only[Ib,XO,XP,aml (hF:=e),aje,aD,<-e]
def anT:Env:=e0 [(.int .i64),(.int .i64),(.int .i64)]
def zR:ah:=zQ.add 175 [(.int .i64),(.int .i64),(.int .i64)] (kE (.int .i64) (.int .i64) (.int .i64) qW (fun _ r K=>K [tS r.1,tI r.2] none))
theorem aa6:aP Tryz.prog zR:=kU anT Tryz.f175 (fun R kk x0 x1 x2 K=>Va x0 x1 x2 (fun a0 a1=>K [tS a0,tI a1] none)) aa5 (ek _ _ _ _) Tryz.func175 (by kernel_rfl) rfl (fun _ _ _ _ _ _ h=>h _ _) (fun _ _ _ _ _ _=>by kernel_rfl) fun R kk e x0 x1 x2 K=>by
 simp only[qW,Va,aD]
def HW:Env:=e0 [(.int .i64),cL,.str]
def zS:ah:=zR.add 127 [(.int .i64),cL,.str] (kE (.int .i64) cL .str BP (fun _ r K=>K [tS r.1,tI r.2] none))
theorem CP:aP Tryz.prog zS:=kU HW Tryz.f127 (fun R kk x0 x1 x2 K=>WV x0 x1 x2 (fun a0 a1=>K [tS a0,tI a1] none)) aa6 (ek _ _ _ _) Tryz.func127 (by kernel_rfl) rfl (fun _ _ _ _ _ _ h=>h _ _) (fun _ _ _ _ _ _=>by kernel_rfl) fun R kk e x0 x1 x2 K=>by
 simp only[BP,WV,aD]
def Tryz.jj:Go.Shelf.Ren:=⟨fun|169=>128|n=>n,fun|70=>196|9=>9|0=>0|72=>198|37=>99|127=>256|3=>3|5=>5|n=>n,fun n=>n⟩
theorem Tryz.xI:Go.Proofs.Lays.n169 Go.Proofs.Tryz.prog Tryz.jj:={
 mixed:=by kernel_rfl,
 f169:=Go.Proofs.Tryz.func128.trans (congrArg some (by kernel_rfl)),
 t0:=Go.Proofs.Tryz.underlying0,
 a0:=Go.Proofs.Tryz.isAgg0,
 z0:=Go.Proofs.Tryz.sizeOf0,
 v0:=Go.Proofs.Tryz.zeroValue0,
 t3:=Go.Proofs.Tryz.underlying3,
 a3:=Go.Proofs.Tryz.isAgg3,
 z3:=Go.Proofs.Tryz.sizeOf3,
 v3:=Go.Proofs.Tryz.zeroValue3,
 t9:=Go.Proofs.Tryz.underlying9,
 a9:=Go.Proofs.Tryz.isAgg9,
 z9:=Go.Proofs.Tryz.sizeOf9,
 v9:=Go.Proofs.Tryz.zeroValue9,
 t37:=Go.Proofs.Tryz.underlying99,
 a37:=Go.Proofs.Tryz.isAgg99,
 z37:=Go.Proofs.Tryz.sizeOf99,
 v37:=Go.Proofs.Tryz.zeroValue99,
 t70:=Go.Proofs.Tryz.underlying196,
 a70:=Go.Proofs.Tryz.isAgg196,
 z70:=Go.Proofs.Tryz.sizeOf196,
 v70:=Go.Proofs.Tryz.zeroValue196,
 t72:=Go.Proofs.Tryz.underlying198,
 a72:=Go.Proofs.Tryz.isAgg198,
 z72:=Go.Proofs.Tryz.sizeOf198,
 v72:=Go.Proofs.Tryz.zeroValue198,
 t127:=Go.Proofs.Tryz.underlying256,
 a127:=Go.Proofs.Tryz.isAgg256,
 z127:=Go.Proofs.Tryz.sizeOf256,
 v127:=Go.Proofs.Tryz.zeroValue256}
theorem Tryz.tY:Go.Proofs.Builder.Extra Go.Proofs.Tryz.prog Tryz.jj:={
 sizeBuilder:=by kernel_rfl,
 liesBuilder:=by kernel_rfl,
 t5:=Go.Proofs.Tryz.underlying5,
 a5:=Go.Proofs.Tryz.isAgg5,
 z5:=Go.Proofs.Tryz.sizeOf5,
 v5:=Go.Proofs.Tryz.zeroValue5,
 infoByte:=by kernel_rfl,
 cellsByte:=by kernel_rfl,
 sizeByte:=by kernel_rfl,
 neB5:=by decide}
noncomputable abbrev za4:Code:=Tryz.f128.body.getD .skip
theorem z7z:sf Tryz.prog 128:=⟨Tryz.f128,za4,Tryz.func128,by kernel_rfl,by kernel_rfl⟩
def qd:ah:=zS.add 128 [] (RP 198 5)
theorem aa7:aP Tryz.prog qd:=⟨CP.mix,Wt CP.nat (aoK _ _),agb CP.uL z7z Tryz.xI Tryz.tY rfl rfl rfl⟩
def XC:Env:={b9.env (fun i=>bif Nat.beq i 11 then [2,5,7,8,50,51,52] else []) (fun i=>bif Nat.beq i 11 then [5,7] else []) [5] [aK,y8] with bl:=fun t=>bif Nat.beq t 198 then some 5 else none}
def V8(a:ak)(b c:Int)(d:af)(e:aR)(f:ByteArray):Option R:=aB (ev XC (qd R) kk (sub [1,1,1,1,1,1,1,1,0,1,0,0] (cd Tryz.f89))) [2,5,7,8,50,51,52] [5,7] k ⟨uS 2 ([.ptr 3 aK []]::uS 2 ([.ptr 6 (.pair (.int .i64) (.pair (.int .i64) .unit)) []]::uS 1 ([.ptr 8 (.aJ (.gF 198 5) .unit .unit) []]::[.ptr 8 (.aJ (.sj 122) (.aJ (.gF 198 5) .unit .unit) .unit) []]::uS 41 ([.aj (.sl 208 (.pair (.int .i64) (.pair .str .unit))) a []]::[tI b]::[tI c]::uS 25 [])))),nS 3 ((some ⟨aK,d,[]⟩)::nS 2 ((some ⟨(.pair (.int .i64) (.pair (.int .i64) .unit)),e,[]⟩)::nS 1 ((some ⟨(.aJ (.gF 198 5) .unit .unit),f,[[]]⟩)::nS 70 [])))⟩ J
def zgt(a:aR)(b:ByteArray):State:=⟨uS 5 ([.ptr 6 (.pair (.int .i64) (.pair (.int .i64) .unit)) []]::uS 1 ([.ptr 8 (.aJ (.gF 198 5) .unit .unit) []]::uS 70 [])),nS 6 ((some ⟨(.pair (.int .i64) (.pair (.int .i64) .unit)),a,[]⟩)::nS 1 ((some ⟨(.aJ (.gF 198 5) .unit .unit),b,[[]]⟩)::nS 70 []))⟩
def Oy:KX R:=(zk 0 (aU XC (qd R) kk (sub [1,1,1,1,1,1,1,1,1] (cd Tryz.f89)) (aT XC Tryz.f89.results.toList none K)))
theorem amb(a:ak)(b c:Int)(d:af)(e:aR)(f:ByteArray):V8 R kk (k+1) J a b c d e f=
 Df a b c d e f (V8 R kk k J) (fun a0 a1=>J (.exit 0) (zgt a0 a1)):=by kernel_rfl
theorem afK(a:aR)(b:ByteArray):Oy R kk K (.exit 0) (zgt a b)=
 Dg a b (fun a0 a1=>K [tS a0,.aj (.pair (.int .i64) (.pair (.int .i64) .unit)) a1 []] none):=by kernel_rfl
theorem ai3{kk:Nat}(hF:kk=ag)(t50:ak)(t51 t52:Int)(dG:af)(eb:aR)(iO:ByteArray):V8 R kk k J t50 t51 t52 dG eb iO=(Rb k t50 t51 t52 dG eb iO).bind fun e=>J (.exit 0) (zgt e.1 e.2):=by
 induction k generalizing t50 t51 t52 dG eb iO with
 |zero=>rfl
 |succ k ih=>
  rw[amb]
  simp only[Rb,Df,ih,aD]
def zV:ah:=qd.add 89 [aK,y8] (dt aK y8 n8 (fun _ r K=>K [tS r.1,.aj (.pair (.int .i64) (.pair (.int .i64) .unit)) r.2 []] none))
theorem aa8:aP Tryz.prog zV:=dv XC Tryz.f89 (fun R kk x0 x1 K=>V9 x0 x1 (fun a0 a1=>K [tS a0,.aj (.pair (.int .i64) (.pair (.int .i64) .unit)) a1 []] none) (V8 R kk kk (Oy R kk K))) aa7 ((ek _ _ _ _).gF 198 5 (by kernel_rfl)) Tryz.func89 (by kernel_rfl) rfl (fun _ _ _ _ _ _ h=>h _ _) (fun _ _ _ _ _=>by kernel_rfl) fun R kk e x0 x1 K=>by
 simp only[n8,V9,Dg,ai3 (hF:=e),afK,aD,<-e]
def an0:Env:=e0 [y8,(.pair (.int .i64) (.pair (.int .i64) .unit)),.unit,.unit]
def qg:ah:=zV.add 87 [y8,(.pair (.int .i64) (.pair (.int .i64) .unit)),.unit,.unit] (pv y8 (.pair (.int .i64) (.pair (.int .i64) .unit)) cz bU kI (fun _ r K=>K [tI r.1,tS r.2] none))
theorem aa9:aP Tryz.prog qg:=sv an0 Tryz.f87 (fun R kk x0 x1 x2 x3 K=>Vt x0 x1 x2 x3 (fun a0 a1=>K [tI a0,tS a1] none)) aa8 (ek _ _ _ _) Tryz.func87 (by kernel_rfl) rfl (fun _ _ _ _ _ _ h=>h _ _) (fun _ _ _ _ _ _ _=>by kernel_rfl) fun R kk e x0 x1 x2 x3 K=>by
 simp only[kI,Vt,aD]
def XE:Env:=b9.env (fun i=>bif Nat.beq i 2 then [1,9,10,11] else []) (fun i=>bif Nat.beq i 2 then [4,5] else []) [] [cD,.str]
def Wq(a:ByteArray)(b:aO)(c d:Int):Option R:=aB (ev XE (qg R) kk (sub [1,0,1,0,0] (cd Tryz.f133))) [1,9,10,11] [4,5] k ⟨uS 1 ([tS a]::uS 7 ([.aj (.sl 109 (.pair .str (.pair .str .unit))) b []]::[tI c]::[tI d]::uS 10 [])),nS 23 []⟩ J
def zh5(a:ByteArray)(b:Bool):State:=⟨uS 4 ([tS a]::[tB b]::uS 16 []),nS 23 []⟩
def zh6:State:=⟨uS 22 [],nS 23 []⟩
def DA:KX R:=(zk 0 (aU XE (qg R) kk (sub [1,1] (cd Tryz.f133)) (aT XE Tryz.f133.results.toList none K)))
theorem ami(a:ByteArray)(b:aO)(c d:Int):Wq R kk (k+1) J a b c d=
 DB a b c d (fun a0 a1=>J .ret (zh5 a0 a1)) (Wq R kk k J) (J (.exit 0) (zh6)):=by kernel_rfl
theorem afW(a:ByteArray)(b:Bool):DA R kk K .ret (zh5 a b)=
 DC a b (fun a0 a1=>K [tS a0,tB a1] none):=by kernel_rfl
theorem afX:DA R kk K (.exit 0) (zh6)=
 DE (fun a0 a1=>K [tS a0,tB a1] none):=by kernel_rfl
theorem aja{kk:Nat}(hF:kk=ag)(t_1:ByteArray)(t9:aO)(t10 t11:Int):Wq R kk k J t_1 t9 t10 t11=(Rg k t_1 t9 t10 t11).bind fun e=>(Sum.elim (fun(we:jK)=>J .ret (zh5 we.1 we.2)) (fun(we:Unit)=>J (.exit 0) (zh6)) e):=by
 induction k generalizing t_1 t9 t10 t11 with
 |zero=>rfl
 |succ k ih=>
  rw[ami]
  simp only[Rg,DB,ih,aD]
def qh:ah:=qg.add 133 [cD,.str] (dt cD .str tK (fun _ r K=>K [tS r.1,tB r.2] none))
theorem abb:aP Tryz.prog qh:=dv XE Tryz.f133 (fun R kk x0 x1 K=>Wr x0 x1 (Wq R kk kk (DA R kk K))) aa9 (ek _ _ _ _) Tryz.func133 (by kernel_rfl) rfl (fun _ _ _ _ _ _ h=>h _ _) (fun _ _ _ _ _=>by kernel_rfl) fun R kk e x0 x1 K=>by
 simp only[tK,Wr,DC,DE,aja (hF:=e),afW,afX,aD,<-e]
def XD:Env:={b9.env (fun i=>bif Nat.beq i 2 then [1,4,9,10,11] else []) (fun i=>bif Nat.beq i 2 then [4,5] else []) [4] [cD,(.int .i64)] with ro:=true}
def Wo(a:Int)(b:bR)(c d:Int)(e:aF):Option R:=aB (ev XD (qh R) kk (sub [1,0,1,0,0] (cd Tryz.f134))) [1,4,9,10,11] [4,5] k ⟨uS 1 ([tI a]::uS 2 ([.ptr 5 cB []]::uS 4 ([.aj (.sl 102 cB) b []]::[tI c]::[tI d]::uS 10 []))),nS 5 ((some ⟨cB,e,[[4]]⟩)::nS 17 [])⟩ J
def zh3(a:Bool)(b:aF):State:=⟨uS 4 ([.ptr 5 cB []]::[tB a]::uS 16 []),nS 5 ((some ⟨cB,b,[]⟩)::nS 17 [])⟩
def zh4(a:aF):State:=⟨uS 4 ([.ptr 5 cB []]::uS 17 []),nS 5 ((some ⟨cB,a,[[4]]⟩)::nS 17 [])⟩
def Dw:KX R:=(zk 0 (aU XD (qh R) kk (sub [1,1] (cd Tryz.f134)) (aT XD Tryz.f134.results.toList none K)))
theorem amh(a:Int)(b:bR)(c d:Int)(e:aF):Wo R kk (k+1) J a b c d e=
 Dx a b c d e (fun a0 a1=>J .ret (zh3 a0 a1)) (Wo R kk k J) (fun a0=>J (.exit 0) (zh4 a0)):=by kernel_rfl
theorem afU(a:Bool)(b:aF):Dw R kk K .ret (zh3 a b)=
 Dy a b (fun a0 a1=>K [.aj cB a0 [],tB a1] none):=by kernel_rfl
theorem afV(a:aF):Dw R kk K (.exit 0) (zh4 a)=
 Dz a (fun a0 a1=>K [.aj cB a0 [],tB a1] none):=by kernel_rfl
theorem ai9{kk:Nat}(hF:kk=ag)(fx:Int)(t9:bR)(t10 t11:Int)(cQ:aF):Wo R kk k J fx t9 t10 t11 cQ=(Rf k fx t9 t10 t11 cQ).bind fun e=>(Sum.elim (fun(we:(Bool×aF))=>J .ret (zh3 we.1 we.2)) (fun(we:aF)=>J (.exit 0) (zh4 we)) e):=by
 induction k generalizing fx t9 t10 t11 cQ with
 |zero=>rfl
 |succ k ih=>
  rw[amh]
  simp only[Rf,Dx,ih,aD]
def zX:ah:=qh.add 134 [cD,(.int .i64)] (dt cD (.int .i64) n9 (fun _ r K=>K [.aj cB r.1 [],tB r.2] none))
theorem CQ:aP Tryz.prog zX:=dv XD Tryz.f134 (fun R kk x0 x1 K=>Wp x0 x1 (Wo R kk kk (Dw R kk K))) abb ((ek _ _ _ _).ro _) Tryz.func134 (by kernel_rfl) rfl (fun _ _ _ _ _ _ h=>h _ _) (fun _ _ _ _ _=>by kernel_rfl) fun R kk e x0 x1 K=>by
 simp only[n9,Wp,Dy,Dz,ai9 (hF:=e),afU,afV,aD,<-e]
def Tryz.gn:Go.Shelf.Ren:=⟨fun|105=>215|212=>225|99=>226|165=>227|166=>123|170=>228|169=>128|263=>236|264=>237|206=>238|240=>167|241=>239|276=>209|277=>244|n=>n,fun|9=>9|3=>3|4=>4|20=>20|0=>0|46=>154|109=>286|5=>5|72=>198|76=>201|51=>297|146=>298|53=>137|148=>250|70=>196|37=>99|75=>200|127=>256|164=>280|80=>210|n=>n,fun n=>n⟩
theorem Tryz.ey:Go.Proofs.Lays.n105 Go.Proofs.Tryz.prog Tryz.gn:={
 mixed:=by kernel_rfl,
 f99:=Go.Proofs.Tryz.func226.trans (congrArg some (by kernel_rfl)),
 f105:=Go.Proofs.Tryz.func215.trans (congrArg some (by kernel_rfl)),
 f165:=Go.Proofs.Tryz.func227.trans (congrArg some (by kernel_rfl)),
 f166:=Go.Proofs.Tryz.func123.trans (congrArg some (by kernel_rfl)),
 f169:=Go.Proofs.Tryz.func128.trans (congrArg some (by kernel_rfl)),
 f170:=Go.Proofs.Tryz.func228.trans (congrArg some (by kernel_rfl)),
 f206:=Go.Proofs.Tryz.func238.trans (congrArg some (by kernel_rfl)),
 f212:=Go.Proofs.Tryz.func225.trans (congrArg some (by kernel_rfl)),
 f240:=Go.Proofs.Tryz.func167.trans (congrArg some (by kernel_rfl)),
 f241:=Go.Proofs.Tryz.func239.trans (congrArg some (by kernel_rfl)),
 f263:=Go.Proofs.Tryz.func236.trans (congrArg some (by kernel_rfl)),
 f264:=Go.Proofs.Tryz.func237.trans (congrArg some (by kernel_rfl)),
 f276:=Go.Proofs.Tryz.func209.trans (congrArg some (by kernel_rfl)),
 f277:=Go.Proofs.Tryz.func244.trans (congrArg some (by kernel_rfl)),
 t0:=Go.Proofs.Tryz.underlying0,
 a0:=Go.Proofs.Tryz.isAgg0,
 z0:=Go.Proofs.Tryz.sizeOf0,
 v0:=Go.Proofs.Tryz.zeroValue0,
 t3:=Go.Proofs.Tryz.underlying3,
 a3:=Go.Proofs.Tryz.isAgg3,
 z3:=Go.Proofs.Tryz.sizeOf3,
 v3:=Go.Proofs.Tryz.zeroValue3,
 t4:=Go.Proofs.Tryz.underlying4,
 a4:=Go.Proofs.Tryz.isAgg4,
 z4:=Go.Proofs.Tryz.sizeOf4,
 v4:=Go.Proofs.Tryz.zeroValue4,
 t5:=Go.Proofs.Tryz.underlying5,
 a5:=Go.Proofs.Tryz.isAgg5,
 z5:=Go.Proofs.Tryz.sizeOf5,
 v5:=Go.Proofs.Tryz.zeroValue5,
 t9:=Go.Proofs.Tryz.underlying9,
 a9:=Go.Proofs.Tryz.isAgg9,
 z9:=Go.Proofs.Tryz.sizeOf9,
 v9:=Go.Proofs.Tryz.zeroValue9,
 t20:=Go.Proofs.Tryz.underlying20,
 a20:=Go.Proofs.Tryz.isAgg20,
 z20:=Go.Proofs.Tryz.sizeOf20,
 v20:=Go.Proofs.Tryz.zeroValue20,
 t37:=Go.Proofs.Tryz.underlying99,
 a37:=Go.Proofs.Tryz.isAgg99,
 z37:=Go.Proofs.Tryz.sizeOf99,
 v37:=Go.Proofs.Tryz.zeroValue99,
 t46:=Go.Proofs.Tryz.underlying154,
 a46:=Go.Proofs.Tryz.isAgg154,
 z46:=Go.Proofs.Tryz.sizeOf154,
 v46:=Go.Proofs.Tryz.zeroValue154,
 t51:=Go.Proofs.Tryz.underlying297,
 a51:=Go.Proofs.Tryz.isAgg297,
 z51:=Go.Proofs.Tryz.sizeOf297,
 v51:=Go.Proofs.Tryz.zeroValue297,
 t53:=Go.Proofs.Tryz.underlying137,
 a53:=Go.Proofs.Tryz.isAgg137,
 z53:=Go.Proofs.Tryz.sizeOf137,
 v53:=Go.Proofs.Tryz.zeroValue137,
 t70:=Go.Proofs.Tryz.underlying196,
 a70:=Go.Proofs.Tryz.isAgg196,
 z70:=Go.Proofs.Tryz.sizeOf196,
 v70:=Go.Proofs.Tryz.zeroValue196,
 t72:=Go.Proofs.Tryz.underlying198,
 a72:=Go.Proofs.Tryz.isAgg198,
 z72:=Go.Proofs.Tryz.sizeOf198,
 v72:=Go.Proofs.Tryz.zeroValue198,
 t75:=Go.Proofs.Tryz.underlying200,
 a75:=Go.Proofs.Tryz.isAgg200,
 z75:=Go.Proofs.Tryz.sizeOf200,
 v75:=Go.Proofs.Tryz.zeroValue200,
 t76:=Go.Proofs.Tryz.underlying201,
 a76:=Go.Proofs.Tryz.isAgg201,
 z76:=Go.Proofs.Tryz.sizeOf201,
 v76:=Go.Proofs.Tryz.zeroValue201,
 t109:=Go.Proofs.Tryz.underlying286,
 a109:=Go.Proofs.Tryz.isAgg286,
 z109:=Go.Proofs.Tryz.sizeOf286,
 v109:=Go.Proofs.Tryz.zeroValue286,
 t127:=Go.Proofs.Tryz.underlying256,
 a127:=Go.Proofs.Tryz.isAgg256,
 z127:=Go.Proofs.Tryz.sizeOf256,
 v127:=Go.Proofs.Tryz.zeroValue256,
 t146:=Go.Proofs.Tryz.underlying298,
 a146:=Go.Proofs.Tryz.isAgg298,
 z146:=Go.Proofs.Tryz.sizeOf298,
 v146:=Go.Proofs.Tryz.zeroValue298,
 t148:=Go.Proofs.Tryz.underlying250,
 a148:=Go.Proofs.Tryz.isAgg250,
 z148:=Go.Proofs.Tryz.sizeOf250,
 v148:=Go.Proofs.Tryz.zeroValue250,
 t164:=Go.Proofs.Tryz.underlying280,
 a164:=Go.Proofs.Tryz.isAgg280,
 z164:=Go.Proofs.Tryz.sizeOf280,
 v164:=Go.Proofs.Tryz.zeroValue280}
theorem Tryz.mZ:Go.Proofs.Builder.Extra Go.Proofs.Tryz.prog Tryz.gn:={
 sizeBuilder:=by kernel_rfl,
 liesBuilder:=by kernel_rfl,
 t5:=Tryz.ey.t5,
 a5:=Tryz.ey.a5,
 z5:=Tryz.ey.z5,
 v5:=Tryz.ey.v5,
 infoByte:=by kernel_rfl,
 cellsByte:=by kernel_rfl,
 sizeByte:=by kernel_rfl,
 neB5:=by decide}
noncomputable abbrev zrf:Code:=Tryz.f215.body.getD .skip
theorem zj6:sf Tryz.prog 215:=⟨Tryz.f215,zrf,Tryz.func215,by kernel_rfl,by kernel_rfl⟩
def za5:Pure:=fun R l b K=>gu b (fB .str (.int .i64) l fun x0 x1=>(strings_Repeat x0 x1).bind fun r=>K [.aj .str r []] none)
theorem zrg:za5.Nat:=fun R S l b F G K h=>Fl (zhu fun _ _=>rT fun _=>h _ _)
def qi:ah:=zX.add 215 [] za5
theorem abd:aP Tryz.prog qi:=⟨CQ.mix,Wt CQ.nat zrg,akt CQ.uL zj6 strings_Repeat (zea Tryz.ey Tryz.mZ (by kernel_rfl))⟩
def Xy:Env:=b9.env (fun i=>bif Nat.beq i 1 then [0,1] else []) (fun i=>bif Nat.beq i 1 then [0] else []) [] [.str,(.int .u8)]
def VZ(a:ByteArray)(b:Int):Option R:=aB (ev Xy (qi R) kk (sub [1,0,0,0] (cd Tryz.f230))) [0,1] [0] k ⟨[tS a]::[tU b]::uS 21 [],nS 24 []⟩ J
def zgp(a:ByteArray):State:=⟨[tS a]::uS 22 [],nS 24 []⟩
def Ox:KX R:=(zk 0 (aU Xy (qi R) kk (sub [1,1] (cd Tryz.f230)) (aT Xy Tryz.f230.results.toList none K)))
theorem al8(a:ByteArray)(b:Int):VZ R kk (k+1) J a b=
 V1 a b (VZ R kk k J) (fun a0=>J (.exit 0) (zgp a0)):=by kernel_rfl
theorem afH(a:ByteArray):Ox R kk K (.exit 0) (zgp a)=
 V2 a (fun a0=>K [tS a0] none):=by kernel_rfl
theorem aiZ{kk:Nat}(hF:kk=ag)(iV:ByteArray)(Cc:Int):VZ R kk k J iV Cc=(Hq k iV Cc).bind fun e=>J (.exit 0) (zgp e):=by
 induction k generalizing iV Cc with
 |zero=>rfl
 |succ k ih=>
  rw[al8]
  simp only[Hq,V1,ih,aD]
def qj:ah:=qi.add 230 [.str,(.int .u8)] (dt .str (.int .u8) wl (fun _ r K=>K [tS r] none))
theorem abe:aP Tryz.prog qj:=dv Xy Tryz.f230 (fun R kk x0 x1 K=>V0 x0 x1 (VZ R kk kk (Ox R kk K))) abd (ek _ _ _ _) Tryz.func230 (by kernel_rfl) rfl (fun _ _ _ _ _ _ h=>h _ _) (fun _ _ _ _ _=>by kernel_rfl) fun R kk e x0 x1 K=>by
 simp only[wl,V0,V2,aiZ (hF:=e),afH,aD,<-e]
def Xx:Env:=b9.env (fun i=>bif Nat.beq i 1 then [0,1] else []) (fun i=>bif Nat.beq i 1 then [0] else []) [] [.str,(.int .u8)]
def VV(a:ByteArray)(b:Int):Option R:=aB (ev Xx (qj R) kk (sub [1,0,0,0] (cd Tryz.f229))) [0,1] [0] k ⟨[tS a]::[tU b]::uS 15 [],nS 18 []⟩ J
def zgo(a:ByteArray):State:=⟨[tS a]::uS 16 [],nS 18 []⟩
def Ov:KX R:=(zk 0 (aU Xx (qj R) kk (sub [1,1] (cd Tryz.f229)) (aT Xx Tryz.f229.results.toList none K)))
theorem al7(a:ByteArray)(b:Int):VV R kk (k+1) J a b=
 VX a b (VV R kk k J) (fun a0=>J (.exit 0) (zgo a0)):=by kernel_rfl
theorem afG(a:ByteArray):Ov R kk K (.exit 0) (zgo a)=
 VY a (fun a0=>K [tS a0] none):=by kernel_rfl
theorem aiY{kk:Nat}(hF:kk=ag)(iV:ByteArray)(Cc:Int):VV R kk k J iV Cc=(Hp k iV Cc).bind fun e=>J (.exit 0) (zgo e):=by
 induction k generalizing iV Cc with
 |zero=>rfl
 |succ k ih=>
  rw[al7]
  simp only[Hp,VX,ih,aD]
def zY:ah:=qj.add 229 [.str,(.int .u8)] (dt .str (.int .u8) wh (fun _ r K=>K [tS r] none))
theorem abf:aP Tryz.prog zY:=dv Xx Tryz.f229 (fun R kk x0 x1 K=>VW x0 x1 (VV R kk kk (Ov R kk K))) abe (ek _ _ _ _) Tryz.func229 (by kernel_rfl) rfl (fun _ _ _ _ _ _ h=>h _ _) (fun _ _ _ _ _=>by kernel_rfl) fun R kk e x0 x1 K=>by
 simp only[wh,VW,VY,aiY (hF:=e),afG,aD,<-e]
def aoe:Env:=e0 [.str,.str]
def zZ:ah:=zY.add 216 [.str,.str] (dt .str .str tE (fun _ r K=>K [tS r] none))
theorem abg:aP Tryz.prog zZ:=dv aoe Tryz.f216 (fun R kk x0 x1 K=>VU x0 x1 (fun a0=>K [tS a0] none)) abf (ek _ _ _ _) Tryz.func216 (by kernel_rfl) rfl (fun _ _ _ _ _ _ h=>h _ _) (fun _ _ _ _ _=>by kernel_rfl) fun R kk e x0 x1 K=>by
 simp only[tE,VU,aD]
def Ia:Env:=e0 [.str,(.int .i64)]
def qk:ah:=zZ.add 185 [.str,(.int .i64)] (dt .str (.int .i64) H9 (fun _ r K=>K [tS r.1,tB r.2] none))
theorem abh:aP Tryz.prog qk:=dv Ia Tryz.f185 (fun R kk x0 x1 K=>XL x0 x1 (fun a0 a1=>K [tS a0,tB a1] none)) abg (ek _ _ _ _) Tryz.func185 (by kernel_rfl) rfl (fun _ _ _ _ _ _ h=>h _ _) (fun _ _ _ _ _=>by kernel_rfl) fun R kk e x0 x1 K=>by
 simp only[H9,XL,aD]
def pa:Env:=b9.env (fun i=>bif Nat.beq i 2 then [1,8,9,10] else []) (fun i=>bif Nat.beq i 2 then [4,5] else []) [] [(.sl 109 (.pair .str (.pair .str .unit))),.str]
def Xv(a:ByteArray)(b:aO)(c d:Int):Option R:=aB (ev pa (qk R) kk (sub [1,0,1,0,0] (cd Tryz.f186))) [1,8,9,10] [4,5] k ⟨uS 1 ([tS a]::uS 6 ([.aj (.sl 109 (.pair .str (.pair .str .unit))) b []]::[tI c]::[tI d]::uS 10 [])),nS 22 []⟩ J
def zpm(a:ByteArray)(b:Bool):State:=⟨uS 4 ([tS a]::[tB b]::uS 15 []),nS 22 []⟩
def zpn:State:=⟨uS 21 [],nS 22 []⟩
def D3:KX R:=(zk 0 (aU pa (qk R) kk (sub [1,1] (cd Tryz.f186)) (aT pa Tryz.f186.results.toList none K)))
theorem aod(a:ByteArray)(b:aO)(c d:Int):Xv R kk (k+1) J a b c d=
 D4 a b c d (fun a0 a1=>J .ret (zpm a0 a1)) (Xv R kk k J) (J (.exit 0) (zpn)):=by kernel_rfl
theorem aiW(a:ByteArray)(b:Bool):D3 R kk K .ret (zpm a b)=
 D5 a b (fun a0 a1=>K [tS a0,tB a1] none):=by kernel_rfl
theorem aiX:D3 R kk K (.exit 0) (zpn)=
 D6 (fun a0 a1=>K [tS a0,tB a1] none):=by kernel_rfl
theorem al6{kk:Nat}(hF:kk=ag)(oO:ByteArray)(t8:aO)(t9 t10:Int):Xv R kk k J oO t8 t9 t10=(Rw k oO t8 t9 t10).bind fun e=>(Sum.elim (fun(we:jK)=>J .ret (zpm we.1 we.2)) (fun(we:Unit)=>J (.exit 0) (zpn)) e):=by
 induction k generalizing oO t8 t9 t10 with
 |zero=>rfl
 |succ k ih=>
  rw[aod]
  simp only[Rw,D4,ih,aD]
def Aa:ah:=qk.add 186 [(.sl 109 (.pair .str (.pair .str .unit))),.str] (dt (.sl 109 (.pair .str (.pair .str .unit))) .str H7 (fun _ r K=>K [tS r.1,tB r.2] none))
theorem abj:aP Tryz.prog Aa:=dv pa Tryz.f186 (fun R kk x0 x1 K=>Xw x0 x1 (Xv R kk kk (D3 R kk K))) abh (ek _ _ _ _) Tryz.func186 (by kernel_rfl) rfl (fun _ _ _ _ _ _ h=>h _ _) (fun _ _ _ _ _=>by kernel_rfl) fun R kk e x0 x1 K=>by
 simp only[H7,Xw,D5,D6,al6 (hF:=e),aiW,aiX,aD,<-e]
def an1:Env:=b9.env (fun _=>[]) (fun _=>[]) [6] [cB,aK,.str]
def lg:ah:=Aa.add 135 [cB,aK,.str] (kE cB aK .str n5 (fun _ r K=>K [.aj (.pair (.int .i64) (.pair .str .unit)) r.1 [],tI r.2] none))
theorem abk:aP Tryz.prog lg:=kU an1 Tryz.f135 (fun R kk x0 x1 x2 K=>Vu x0 x1 x2 (fun a0 a1=>K [.aj (.pair (.int .i64) (.pair .str .unit)) a0 [],tI a1] none)) abj (ek _ _ _ _) Tryz.func135 (by kernel_rfl) rfl (fun _ _ _ _ _ _ h=>h _ _) (fun _ _ _ _ _ _=>by kernel_rfl) fun R kk e x0 x1 x2 K=>by
 simp only[n5,Vu,aD]
def F5:Env:={{b9.env (fun i=>bif Nat.beq i 12 then [4,6,7,8,9,16,59,60,61] else bif Nat.beq i 18 then [4,6,8,9,16,76,77,78] else []) (fun i=>bif Nat.beq i 12 then [4,6,7,8,9,16] else bif Nat.beq i 18 then [8,9,16] else []) [8,9] [cD,aK,aK,y8] with dr:=fun i=>bif Nat.beq i 12 then [17] else []} with ro:=true}
def Wk(a:bR)(b c:Int)(d:ax)(e:af)(f g:av)(h:aR)(i:av):Option R:=aB (ev F5 (lg R) kk (sub [1,1,1,1,1,1,0,1,0,0] (cd Tryz.f91))) [4,6,7,8,9,16,59,60,61] [4,6,7,8,9,16] k ⟨uS 4 ([.ptr 5 cD []]::uS 1 ([.ptr 7 aK []]::[.ptr 8 y8 []]::[.ptr 9 y8 []]::[.ptr 10 (.pair (.int .i64) (.pair (.int .i64) .unit)) []]::uS 6 ([.ptr 17 y8 []]::uS 42 ([.aj (.sl 102 cB) a []]::[tI b]::[tI c]::uS 60 [])))),nS 5 ((some ⟨cD,d,[]⟩)::nS 1 ((some ⟨aK,e,[]⟩)::(some ⟨y8,f,[]⟩)::(some ⟨y8,g,[[1]]⟩)::(some ⟨(.pair (.int .i64) (.pair (.int .i64) .unit)),h,[]⟩)::nS 6 ((some ⟨y8,i,[]⟩)::nS 105 [])))⟩ J
def zh0(a:ax)(b:af)(c d:av)(e:aR)(f:av):State:=⟨uS 4 ([.ptr 5 cD []]::uS 1 ([.ptr 7 aK []]::[.ptr 8 y8 []]::[.ptr 9 y8 []]::[.ptr 10 (.pair (.int .i64) (.pair (.int .i64) .unit)) []]::uS 6 ([.ptr 17 y8 []]::uS 105 []))),nS 5 ((some ⟨cD,a,[]⟩)::nS 1 ((some ⟨aK,b,[]⟩)::(some ⟨y8,c,[]⟩)::(some ⟨y8,d,[[1]]⟩)::(some ⟨(.pair (.int .i64) (.pair (.int .i64) .unit)),e,[]⟩)::nS 6 ((some ⟨y8,f,[]⟩)::nS 105 [])))⟩
def Oz:KX R:=(zk 0 (aU F5 (lg R) kk (sub [1,1,1,1,1,1,1] (cd Tryz.f91)) (aT F5 Tryz.f91.results.toList none K)))
def Wl(a:ak)(b c:Int)(d:ax)(e:af)(f:av)(g:aR)(h:av):Option R:=aB (ev F5 (lg R) kk (sub [1,1,1,1,1,1,1,0,1,0,0] (cd Tryz.f91))) [4,6,8,9,16,76,77,78] [8,9,16] k ⟨uS 4 ([.ptr 5 cD []]::uS 1 ([.ptr 7 aK []]::uS 1 ([.ptr 9 y8 []]::[.ptr 10 (.pair (.int .i64) (.pair (.int .i64) .unit)) []]::uS 6 ([.ptr 17 y8 []]::uS 59 ([.aj (.sl 208 (.pair (.int .i64) (.pair .str .unit))) a []]::[tI b]::[tI c]::uS 43 []))))),nS 5 ((some ⟨cD,d,[]⟩)::nS 1 ((some ⟨aK,e,[]⟩)::nS 1 ((some ⟨y8,f,[[1]]⟩)::(some ⟨(.pair (.int .i64) (.pair (.int .i64) .unit)),g,[]⟩)::nS 6 ((some ⟨y8,h,[]⟩)::nS 105 []))))⟩ J
def zh1(a:av)(b:aR)(c:av):State:=⟨uS 8 ([.ptr 9 y8 []]::[.ptr 10 (.pair (.int .i64) (.pair (.int .i64) .unit)) []]::uS 6 ([.ptr 17 y8 []]::uS 105 [])),nS 9 ((some ⟨y8,a,[[1]]⟩)::(some ⟨(.pair (.int .i64) (.pair (.int .i64) .unit)),b,[]⟩)::nS 6 ((some ⟨y8,c,[]⟩)::nS 105 []))⟩
def zh2(a:av)(b:aR)(c:av):State:=⟨uS 8 ([.ptr 9 y8 []]::[.ptr 10 (.pair (.int .i64) (.pair (.int .i64) .unit)) []]::uS 6 ([.ptr 17 y8 []]::uS 105 [])),nS 9 ((some ⟨y8,a,[[1]]⟩)::(some ⟨(.pair (.int .i64) (.pair (.int .i64) .unit)),b,[]⟩)::nS 6 ((some ⟨y8,c,[]⟩)::nS 105 []))⟩
def Dr:KX R:=(zk 2 (aU F5 (lg R) kk (sub [1,1,1,1,1,1,1,1] (cd Tryz.f91)) (aT F5 Tryz.f91.results.toList none K)))
theorem amf(a:bR)(b c:Int)(d:ax)(e:af)(f g:av)(h:aR)(i:av):Wk R kk (k+1) J a b c d e f g h i=
 Ds a b c d e f g h i (Wk R kk k J) (fun a0 a1 a2 a3 a4 a5=>J (.exit 0) (zh0 a0 a1 a2 a3 a4 a5)):=by kernel_rfl
theorem afR(a:ax)(b:af)(c d:av)(e:aR)(f:av):Oz R kk K (.exit 0) (zh0 a b c d e f)=
 Wn a b c d e f (Wl R kk kk (Dr R kk K)):=by kernel_rfl
theorem amg(a:ak)(b c:Int)(d:ax)(e:af)(f:av)(g:aR)(h:av):Wl R kk (k+1) J a b c d e f g h=
 Dt a b c d e f g h (fun a0 a1 a2=>J .ret (zh1 a0 a1 a2)) (Wl R kk k J) (fun a0 a1 a2=>J (.exit 2) (zh2 a0 a1 a2)):=by kernel_rfl
theorem afS(a:av)(b:aR)(c:av):Dr R kk K .ret (zh1 a b c)=
 Du a b c (fun a0 a1=>K [.aj y8 a0 [],.aj (.pair (.int .i64) (.pair (.int .i64) .unit)) a1 []] none):=by kernel_rfl
theorem afT(a:av)(b:aR)(c:av):Dr R kk K (.exit 2) (zh2 a b c)=
 Dv a b c (fun a0 a1=>K [.aj y8 a0 [],.aj (.pair (.int .i64) (.pair (.int .i64) .unit)) a1 []] none):=by kernel_rfl
theorem ai7{kk:Nat}(hF:kk=ag)(t59:bR)(t60 t61:Int)(cQ:ax)(gU:af)(iO oj:av)(om:aR)(j6:av):Wk R kk k J t59 t60 t61 cQ gU iO oj om j6=(Rd k t59 t60 t61 cQ gU iO oj om j6).bind fun e=>J (.exit 0) (zh0 e.1 e.2.1 e.2.2.1 e.2.2.2.1 e.2.2.2.2.1 e.2.2.2.2.2):=by
 induction k generalizing t59 t60 t61 cQ gU iO oj om j6 with
 |zero=>rfl
 |succ k ih=>
  rw[amf]
  simp only[Rd,Ds,ih,aD]
theorem ai8{kk:Nat}(hF:kk=ag)(t76:ak)(t77 t78:Int)(cQ:ax)(gU:af)(oj:av)(om:aR)(j6:av):Wl R kk k J t76 t77 t78 cQ gU oj om j6=(Re k t76 t77 t78 cQ gU oj om j6).bind fun e=>(Sum.elim (fun(we:rl)=>J .ret (zh1 we.1 we.2.1 we.2.2)) (fun(we:rl)=>J (.exit 2) (zh2 we.1 we.2.1 we.2.2)) e):=by
 induction k generalizing t76 t77 t78 cQ gU oj om j6 with
 |zero=>rfl
 |succ k ih=>
  rw[amg]
  simp only[Re,Dt,ih,aD]
def Ab:ah:=lg.add 91 [cD,aK,aK,y8] (SC cD aK aK y8 re (fun _ r K=>K [.aj y8 r.1 [],.aj (.pair (.int .i64) (.pair (.int .i64) .unit)) r.2 []] none))
theorem abl:aP Tryz.prog Ab:=st4 F5 Tryz.f91 (fun R kk x0 x1 x2 x3 K=>Wm x0 x1 x2 x3 (fun a0 a1=>K [.aj y8 a0 [],.aj (.pair (.int .i64) (.pair (.int .i64) .unit)) a1 []] none) (Wk R kk kk (Oz R kk K))) abk (((ek _ _ _ _).dr _).ro _) Tryz.func91 (by kernel_rfl) rfl (fun _ _ _ _ _ _ h=>h _ _) (fun _ _ _ _ _ _ _=>by kernel_rfl) fun R kk e x0 x1 x2 x3 K=>by
 simp only[re,Wm,Wn,Du,Dv,ai7 (hF:=e),ai8 (hF:=e),afR,afS,afT,aD,<-e]
def anZ:Env:={e0 [bU,(.int .i64),.str] with fr:=fun i=>bif Nat.beq i 5 then [12,4] else []}
def Ac:ah:=Ab.add 63 [bU,(.int .i64),.str] (kE bU (.int .i64) .str tu (fun _ r K=>K [tI r.1,tS r.2] none))
theorem abm:aP Tryz.prog Ac:=kU anZ Tryz.f63 (fun R kk x0 x1 x2 K=>Vs x0 x1 x2 (fun a0 a1=>K [tI a0,tS a1] none)) abl ((ek _ _ _ _).fr _) Tryz.func63 (by kernel_rfl) rfl (fun _ _ _ _ _ _ h=>h _ _) (fun _ _ _ _ _ _=>by kernel_rfl) fun R kk e x0 x1 x2 K=>by
 simp only[tu,Vs,aD]
def Iw:Env:=e0 [.str]
def Ad:ah:=Ac.add 64 [.str] (cO .str BV (fun _ r K=>K [tS r.1,tI r.2] none))
theorem abn:aP Tryz.prog Ad:=cP Iw Tryz.f64 (fun R kk x0 K=>X6 x0 (fun a0 a1=>K [tS a0,tI a1] none)) abm (ek _ _ _ _) Tryz.func64 (by kernel_rfl) rfl (fun _ _ _ _ _ _ h=>h _ _) (fun _ _ _ _=>by kernel_rfl) fun R kk e x0 K=>by
 simp only[BV,X6,aD]
def IA:Env:={b9.env (fun _=>[]) (fun _=>[]) [6] [.unit,(.int .i64),.str] with gr:=fun t=>bif Nat.beq t 87 then some (bU,y6) else none,ga:=fun t=>Nat.beq t 85}
def ql:ah:=Ad.add 46 [.unit,(.int .i64),.str] (pb2 (.aJ .bN bU y6) [[],[0],[0,2],[1],[1,2]] (.int .i64) .str Gl (fun _ r K=>K [.aj y9 r.1 []] (some ⟨(.aJ .bN bU y6),r.2,[[],[0],[0,2],[1],[1,2]]⟩)))
theorem abo:aP Tryz.prog ql:=sb2 IA Tryz.f46 (fun R kk x0 x1 x2 K=>Yc x0 x1 x2 (fun a0 a1=>K [.aj y9 a0 []] (some ⟨(.aJ .bN bU y6),a1,[[],[0],[0,2],[1],[1,2]]⟩))) abn ((ek _ _ _ _).bN 87 85 bU y6 (by kernel_rfl) (by kernel_rfl) (by kernel_rfl) (by kernel_rfl)) Tryz.func46 (by kernel_rfl) rfl (fun _ _ _ _ _ _ h=>h _ _) (fun _ _ _ _ _ _=>by kernel_rfl) fun R kk e x0 x1 x2 K=>by
 simp only[Gl,Yc,aD]
def po:Env:={{b9.env (fun i=>bif Nat.beq i 6 then [0,3,5,7,27,28,29] else []) (fun i=>bif Nat.beq i 6 then [0,3,5,7] else []) [] [.unit,(.pair (.int .i64) (.pair .str .unit))] with ro:=true} with gr:=fun t=>bif Nat.beq t 87 then some (bU,y6) else none,ga:=fun t=>Nat.beq t 85}
def X7(a:ct)(b:Bool)(c:(List ByteArray))(d e:Int)(f:(aA×(Option ap×Option ap)×Int))(g:bd):Option R:=aB (ev po (ql R) kk (sub [1,1,1,1,0,1,0,0] (cd Tryz.f21))) [0,3,5,7,27,28,29] [0,3,5,7] k ⟨[.ptr 0 (.aJ .bN bU y6) []]::uS 2 ([.ptr 4 (.pair (.int .i64) (.pair .str .unit)) []]::uS 1 ([.aj (.sl 71 y9) a [[]]]::uS 1 ([tB b]::uS 19 ([.aj (.sl 9 .str) c []]::[tI d]::[tI e]::uS 24 [])))),(some ⟨(.aJ .bN bU y6),f,[[],[0],[0,2],[1],[1,2]]⟩)::nS 3 ((some ⟨(.pair (.int .i64) (.pair .str .unit)),g,[]⟩)::nS 50 [])⟩ J
def zpx(a:ct)(b:Bool)(c:(aA×(Option ap×Option ap)×Int))(d:bd):State:=⟨[.ptr 0 (.aJ .bN bU y6) []]::uS 2 ([.ptr 4 (.pair (.int .i64) (.pair .str .unit)) []]::uS 1 ([.aj (.sl 71 y9) a [[]]]::uS 1 ([tB b]::uS 46 []))),(some ⟨(.aJ .bN bU y6),c,[[],[0],[0,2],[1],[1,2]]⟩)::nS 3 ((some ⟨(.pair (.int .i64) (.pair .str .unit)),d,[]⟩)::nS 50 [])⟩
def Pm(a:(aA×(Option ap×Option ap)×Int)):KX R:=(zk 0 (aU po (ql R) kk (sub [1,1,1,1,1] (cd Tryz.f21)) (aT po Tryz.f21.results.toList (some ⟨(.aJ .bN bU y6),a,[[],[0],[0,2],[1],[1,2]]⟩) K)))
theorem aos(a:ct)(b:Bool)(c:(List ByteArray))(d e:Int)(f:(aA×(Option ap×Option ap)×Int))(g:bd):X7 R kk (k+1) J a b c d e f g=
 En a b c d e f g (X7 R kk k J) (fun a0 a1 a2 a3=>J (.exit 0) (zpx a0 a1 a2 a3)):=by kernel_rfl
theorem aji(a:(aA×(Option ap×Option ap)×Int))(b:ct)(c:Bool)(d:(aA×(Option ap×Option ap)×Int))(e:bd):Pm R kk K a (.exit 0) (zpx b c d e)=
 RC b c d e (fun a0 a1=>K [.aj (.sl 71 y9) a0 []] (some ⟨(.aJ .bN bU y6),a1,[[],[0],[0,2],[1],[1,2]]⟩)):=by kernel_rfl
theorem amp{kk:Nat}(hF:kk=ag)(t5:ct)(t7:Bool)(t27:(List ByteArray))(t28 t29:Int)(recv:(aA×(Option ap×Option ap)×Int))(dH:bd):X7 R kk k J t5 t7 t27 t28 t29 recv dH=(HB k t5 t7 t27 t28 t29 recv dH).bind fun e=>J (.exit 0) (zpx e.1 e.2.1 e.2.2.1 e.2.2.2):=by
 induction k generalizing t5 t7 t27 t28 t29 recv dH with
 |zero=>rfl
 |succ k ih=>
  rw[aos]
  simp only[HB,En,ih,aD]
def qn:ah:=ql.add 21 [.unit,(.pair (.int .i64) (.pair .str .unit))] (CW (.aJ .bN bU y6) [[],[0],[0,2],[1],[1,2]] (.pair (.int .i64) (.pair .str .unit)) Gk (fun _ r K=>K [.aj (.sl 71 y9) r.1 []] (some ⟨(.aJ .bN bU y6),r.2,[[],[0],[0,2],[1],[1,2]]⟩)))
theorem abp:aP Tryz.prog qn:=Lj po Tryz.f21 (fun R kk x0 x1 K=>X8 x0 x1 (fun a0 a1=>K [.aj (.sl 71 y9) a0 []] (some ⟨(.aJ .bN bU y6),a1,[[],[0],[0,2],[1],[1,2]]⟩)) (X7 R kk kk (Pm R kk K x0))) abo (((ek _ _ _ _).ro _).bN 87 85 bU y6 (by kernel_rfl) (by kernel_rfl) (by kernel_rfl) (by kernel_rfl)) Tryz.func21 (by kernel_rfl) rfl (fun _ _ _ _ _ _ h=>h _ _) (fun _ _ _ _ _=>by kernel_rfl) fun R kk e x0 x1 K=>by
 simp only[Gk,X8,RC,amp (hF:=e),aji,aD,<-e]
def pq:Env:=b9.env (fun i=>bif Nat.beq i 3 then [0,5,8,9,10] else []) (fun i=>bif Nat.beq i 3 then [5] else []) [] [.unit,(.sl 57 (.pair (.int .i64) (.pair .str .unit)))]
def Ya(a:ct)(b:ak)(c d:Int)(e:(aA×(Option ap×Option ap)×Int)):Option R:=aB (ev pq (qn R) kk (sub [1,1,0,1,0,0] (cd Tryz.f23))) [0,5,8,9,10] [5] k ⟨[.ptr 0 (.aJ .bN bU y6) []]::uS 4 ([.aj (.sl 71 y9) a [[]]]::uS 2 ([.aj (.sl 57 (.pair (.int .i64) (.pair .str .unit))) b []]::[tI c]::[tI d]::uS 10 [])),(some ⟨(.aJ .bN bU y6),e,[[],[0],[0,2],[1],[1,2]]⟩)::nS 21 []⟩ J
def zpy(a:ct)(b:(aA×(Option ap×Option ap)×Int)):State:=⟨uS 5 ([.aj (.sl 71 y9) a [[]]]::uS 15 []),(some ⟨(.aJ .bN bU y6),b,[[],[0],[0,2],[1],[1,2]]⟩)::nS 21 []⟩
def Pn(a:(aA×(Option ap×Option ap)×Int)):KX R:=(zk 0 (aU pq (qn R) kk (sub [1,1,1] (cd Tryz.f23)) (aT pq Tryz.f23.results.toList (some ⟨(.aJ .bN bU y6),a,[[],[0],[0,2],[1],[1,2]]⟩) K)))
theorem aot(a:ct)(b:ak)(c d:Int)(e:(aA×(Option ap×Option ap)×Int)):Ya R kk (k+1) J a b c d e=
 Eo a b c d e (Ya R kk k J) (fun a0 a1=>J (.exit 0) (zpy a0 a1)):=by kernel_rfl
theorem ajj(a:(aA×(Option ap×Option ap)×Int))(b:ct)(c:(aA×(Option ap×Option ap)×Int)):Pn R kk K a (.exit 0) (zpy b c)=
 Ep b c (fun a0 a1=>K [.aj (.sl 71 y9) a0 []] (some ⟨(.aJ .bN bU y6),a1,[[],[0],[0,2],[1],[1,2]]⟩)):=by kernel_rfl
theorem amq{kk:Nat}(hF:kk=ag)(t5:ct)(t8:ak)(t9 t10:Int)(recv:(aA×(Option ap×Option ap)×Int)):Ya R kk k J t5 t8 t9 t10 recv=(RD k t5 t8 t9 t10 recv).bind fun e=>J (.exit 0) (zpy e.1 e.2):=by
 induction k generalizing t5 t8 t9 t10 recv with
 |zero=>rfl
 |succ k ih=>
  rw[aot]
  simp only[RD,Eo,ih,aD]
def qo:ah:=qn.add 23 [.unit,(.sl 57 (.pair (.int .i64) (.pair .str .unit)))] (CW (.aJ .bN bU y6) [[],[0],[0,2],[1],[1,2]] (.sl 57 (.pair (.int .i64) (.pair .str .unit))) yC (fun _ r K=>K [.aj (.sl 71 y9) r.1 []] (some ⟨(.aJ .bN bU y6),r.2,[[],[0],[0,2],[1],[1,2]]⟩)))
theorem abq:aP Tryz.prog qo:=Lj pq Tryz.f23 (fun R kk x0 x1 K=>Yb x0 x1 (Ya R kk kk (Pn R kk K x0))) abp (ek _ _ _ _) Tryz.func23 (by kernel_rfl) rfl (fun _ _ _ _ _ _ h=>h _ _) (fun _ _ _ _ _=>by kernel_rfl) fun R kk e x0 x1 K=>by
 simp only[yC,Yb,Ep,amq (hF:=e),ajj,aD,<-e]
def W7:Env:=b9.env (fun i=>bif Nat.beq i 4 then [0,1,5] else []) (fun i=>bif Nat.beq i 4 then [4] else []) [] [(.sl 71 y9),(.sl 71 y9)]
def UH(a b:ct)(c:Int):Option R:=aB (ev W7 (qo R) kk (sub [1,1,0,1,0,0] (cd Tryz.f20))) [0,1,5] [4] k ⟨[.aj (.sl 71 y9) a []]::[.aj (.sl 71 y9) b []]::uS 3 ([tI c]::uS 20 []),nS 27 []⟩ J
def zfk(a:Bool):State:=⟨uS 4 ([tB a]::uS 21 []),nS 27 []⟩
def zfl:State:=⟨uS 26 [],nS 27 []⟩
def zyh:KX R:=(zk 0 (aU W7 (qo R) kk (sub [1,1,1] (cd Tryz.f20)) (aT W7 Tryz.f20.results.toList none K)))
theorem alI(a b:ct)(c:Int):UH R kk (k+1) J a b c=
 zyi a b c (fun a0=>J .ret (zfk a0)) (UH R kk k J) (J (.exit 0) (zfl)):=by kernel_rfl
theorem ae3(a:Bool):zyh R kk K .ret (zfk a)=
 UJ a (fun a0=>K [tB a0] none):=by kernel_rfl
theorem ae4:zyh R kk K (.exit 0) (zfl)=
 UK (fun a0=>K [tB a0] none):=by kernel_rfl
theorem aiy{kk:Nat}(hF:kk=ag)(lY tQ:ct)(t5:Int):UH R kk k J lY tQ t5=(QG k lY tQ t5).bind fun e=>(Sum.elim (fun(we:Bool)=>J .ret (zfk we)) (fun(we:Unit)=>J (.exit 0) (zfl)) e):=by
 induction k generalizing lY tQ t5 with
 |zero=>rfl
 |succ k ih=>
  rw[alI]
  simp only[QG,zyi,ih,aD]
def Ae:ah:=qo.add 20 [(.sl 71 y9),(.sl 71 y9)] (dt (.sl 71 y9) (.sl 71 y9) nY (fun _ r K=>K [tB r] none))
theorem abr:aP Tryz.prog Ae:=dv W7 Tryz.f20 (fun R kk x0 x1 K=>UI x0 x1 (fun a0=>K [tB a0] none) (UH R kk kk (zyh R kk K))) abq (ek _ _ _ _) Tryz.func20 (by kernel_rfl) rfl (fun _ _ _ _ _ _ h=>h _ _) (fun _ _ _ _ _=>by kernel_rfl) fun R kk e x0 x1 K=>by
 simp only[nY,UI,UJ,UK,aiy (hF:=e),ae3,ae4,aD,<-e]
def Iy:Env:={e0 [.unit] with gr:=fun t=>bif Nat.beq t 87 then some (bU,y6) else none,ga:=fun t=>Nat.beq t 85}
def Af:ah:=Ae.add 15 [.unit] (GN (.aJ .bN bU y6) [[],[0],[0,2],[1],[1,2]] R7 (fun _ r K=>K [tI r.1] (some ⟨(.aJ .bN bU y6),r.2,[[],[0],[0,2],[1],[1,2]]⟩)))
theorem abt:aP Tryz.prog Af:=SI Iy Tryz.f15 (fun R kk x0 K=>Em x0 (fun a0 a1=>K [tI a0] (some ⟨(.aJ .bN bU y6),a1,[[],[0],[0,2],[1],[1,2]]⟩))) abr ((ek _ _ _ _).bN 87 85 bU y6 (by kernel_rfl) (by kernel_rfl) (by kernel_rfl) (by kernel_rfl)) Tryz.func15 (by kernel_rfl) rfl (fun _ _ _ _ _ _ h=>h _ _) (fun _ _ _ _=>by kernel_rfl) fun R kk e x0 K=>by
 simp only[R7,Em,aD]
def Io:Env:=e0 [.unit]
def Ag:ah:=Af.add 44 [.unit] (GN y6 [[2]] Y3 (fun _ r K=>K [tB r.1] (some ⟨y6,r.2,[[2]]⟩)))
theorem abu:aP Tryz.prog Ag:=SI Io Tryz.f44 (fun R kk x0 K=>Eh x0 (fun a0 a1=>K [tB a0] (some ⟨y6,a1,[[2]]⟩))) abt (ek _ _ _ _) Tryz.func44 (by kernel_rfl) rfl (fun _ _ _ _ _ _ h=>h _ _) (fun _ _ _ _=>by kernel_rfl) fun R kk e x0 K=>by
 simp only[Y3,Eh,aD]
def Ix:Env:={e0 [.unit,(.int .i64)] with gr:=fun t=>bif Nat.beq t 87 then some (bU,y6) else none,ga:=fun t=>Nat.beq t 85}
def Ah:ah:=Ag.add 17 [.unit,(.int .i64)] (CW (.aJ .bN bU y6) [[],[0],[0,2],[1],[1,2]] (.int .i64) Gj (fun _ r K=>K [tB r.1] (some ⟨(.aJ .bN bU y6),r.2,[[],[0],[0,2],[1],[1,2]]⟩)))
theorem abv:aP Tryz.prog Ah:=Lj Ix Tryz.f17 (fun R kk x0 x1 K=>Ek x0 x1 (fun a0 a1=>K [tB a0] (some ⟨(.aJ .bN bU y6),a1,[[],[0],[0,2],[1],[1,2]]⟩))) abu ((ek _ _ _ _).bN 87 85 bU y6 (by kernel_rfl) (by kernel_rfl) (by kernel_rfl) (by kernel_rfl)) Tryz.func17 (by kernel_rfl) rfl (fun _ _ _ _ _ _ h=>h _ _) (fun _ _ _ _ _=>by kernel_rfl) fun R kk e x0 x1 K=>by
 simp only[Gj,Ek,aD]
def Ip:Env:=e0 [.unit]
def Ai:ah:=Ah.add 43 [.unit] (GN y6 [[2]] Y4 (fun _ r K=>K [tI r.1] (some ⟨y6,r.2,[[2]]⟩)))
theorem abw:aP Tryz.prog Ai:=SI Ip Tryz.f43 (fun R kk x0 K=>Ej x0 (fun a0 a1=>K [tI a0] (some ⟨y6,a1,[[2]]⟩))) abv (ek _ _ _ _) Tryz.func43 (by kernel_rfl) rfl (fun _ _ _ _ _ _ h=>h _ _) (fun _ _ _ _=>by kernel_rfl) fun R kk e x0 K=>by
 simp only[Y4,Ej,aD]
def Iz:Env:={e0 [.unit,(.int .i64)] with gr:=fun t=>bif Nat.beq t 87 then some (bU,y6) else none,ga:=fun t=>Nat.beq t 85}
def Aj:ah:=Ai.add 16 [.unit,(.int .i64)] (CW (.aJ .bN bU y6) [[],[0],[0,2],[1],[1,2]] (.int .i64) vl (fun _ r K=>K [tI r.1] (some ⟨(.aJ .bN bU y6),r.2,[[],[0],[0,2],[1],[1,2]]⟩)))
theorem abx:aP Tryz.prog Aj:=Lj Iz Tryz.f16 (fun R kk x0 x1 K=>X9 x0 x1 (fun a0 a1=>K [tI a0] (some ⟨(.aJ .bN bU y6),a1,[[],[0],[0,2],[1],[1,2]]⟩))) abw ((ek _ _ _ _).bN 87 85 bU y6 (by kernel_rfl) (by kernel_rfl) (by kernel_rfl) (by kernel_rfl)) Tryz.func16 (by kernel_rfl) rfl (fun _ _ _ _ _ _ h=>h _ _) (fun _ _ _ _ _=>by kernel_rfl) fun R kk e x0 x1 K=>by
 simp only[vl,X9,aD]
def IF:Env:=e0 []
def qq:ah:=Aj.add 10 [] (GO nD (fun _ r K=>K [tB r] none))
theorem aby:aP Tryz.prog qq:=Ll IF Tryz.f10 (fun R kk K=>Et (fun a0=>K [tB a0] none)) abx (ek _ _ _ _) Tryz.func10 (by kernel_rfl) rfl (fun _ _ _ _ _ _ h=>h _ _) (fun _ _ _=>by kernel_rfl) fun R kk e K=>by
 simp only[nD,Et,aD]
def W8:Env:=b9.env (fun i=>bif Nat.beq i 3 then [0,1,5,6] else []) (fun i=>bif Nat.beq i 3 then [5] else []) [] [(.sl 57 (.pair (.int .i64) (.pair .str .unit))),(.int .i64)]
def UL(a:ak)(b:Int)(c:ByteArray)(d:Int):Option R:=aB (ev W8 (qq R) kk (sub [1,1,0,1,0,0] (cd Tryz.f29))) [0,1,5,6] [5] k ⟨[.aj (.sl 57 (.pair (.int .i64) (.pair .str .unit))) a []]::[tI b]::uS 3 ([tS c]::[tI d]::uS 21 []),nS 29 []⟩ J
def zfm(a:ByteArray):State:=⟨uS 5 ([tS a]::uS 22 []),nS 29 []⟩
def Om:KX R:=(zk 0 (aU W8 (qq R) kk (sub [1,1,1] (cd Tryz.f29)) (aT W8 Tryz.f29.results.toList none K)))
theorem alJ(a:ak)(b:Int)(c:ByteArray)(d:Int):UL R kk (k+1) J a b c d=
 FK a b c d (UL R kk k J) (fun a0=>J (.exit 0) (zfm a0)):=by kernel_rfl
theorem ae5(a:ByteArray):Om R kk K (.exit 0) (zfm a)=
 zyj a (fun a0=>K [tS a0] none):=by kernel_rfl
theorem aiz{kk:Nat}(hF:kk=ag)(gm:ak)(oJ:Int)(t5:ByteArray)(t6:Int):UL R kk k J gm oJ t5 t6=(QH k gm oJ t5 t6).bind fun e=>J (.exit 0) (zfm e):=by
 induction k generalizing gm oJ t5 t6 with
 |zero=>rfl
 |succ k ih=>
  rw[alJ]
  simp only[QH,FK,ih,aD]
def qs:ah:=qq.add 29 [(.sl 57 (.pair (.int .i64) (.pair .str .unit))),(.int .i64)] (dt (.sl 57 (.pair (.int .i64) (.pair .str .unit))) (.int .i64) qT (fun _ r K=>K [tS r] none))
theorem abz:aP Tryz.prog qs:=dv W8 Tryz.f29 (fun R kk x0 x1 K=>UM x0 x1 (UL R kk kk (Om R kk K))) aby (ek _ _ _ _) Tryz.func29 (by kernel_rfl) rfl (fun _ _ _ _ _ _ h=>h _ _) (fun _ _ _ _ _=>by kernel_rfl) fun R kk e x0 x1 K=>by
 simp only[qT,UM,zyj,aiz (hF:=e),ae5,aD,<-e]
def W5:Env:={b9.env (fun i=>bif Nat.beq i 4 then [0,1,8,9,10] else []) (fun i=>bif Nat.beq i 4 then [1,4,5,6,7,8,9,10] else []) [] [(.int .i64),.str] with mv:=[37,38,48,53,73,78]}
def Uy(a:Int)(b:ByteArray)(c:(List ByteArray))(d:(List Int))(e:Int):Option R:=aB (ev W5 (qs R) kk (sub [1,1,1,1,0,0,0] (cd Tryz.f31))) [0,1,8,9,10] [1,4,5,6,7,8,9,10] k ⟨[tI a]::[tS b]::uS 6 ([.aj (.sl 9 .str) c [[]]]::[.aj (.sl 3 (.int .i64)) d [[]]]::[tI e]::uS 68 []),nS 80 []⟩ J
def zfd(a:ByteArray)(b:(List ByteArray))(c:Int)(d:(List Int))(e:Int)(f:(List ByteArray))(g:(List Int))(h:Int):State:=⟨uS 1 ([tS a]::uS 2 ([.aj (.sl 9 .str) b [[]]]::[tI c]::[.aj (.sl 3 (.int .i64)) d [[]]]::[tI e]::[.aj (.sl 9 .str) f []]::[.aj (.sl 3 (.int .i64)) g []]::[tI h]::uS 68 [])),nS 80 []⟩
def zfe(a:ByteArray)(b:(List ByteArray))(c:(List Int))(d:Int):State:=⟨uS 1 ([tS a]::uS 6 ([.aj (.sl 9 .str) b [[]]]::[.aj (.sl 3 (.int .i64)) c [[]]]::[tI d]::uS 68 [])),nS 80 []⟩
def zyb:KX R:=(zk 0 (aU W5 (qs R) kk (sub [1,1,1,1,1] (cd Tryz.f31)) (aT W5 Tryz.f31.results.toList none K)))
theorem alE(a:Int)(b:ByteArray)(c:(List ByteArray))(d:(List Int))(e:Int):Uy R kk (k+1) J a b c d e=
 UA a b c d e (fun a0 a1 a2 a3 a4 a5 a6 a7=>J .ret (zfd a0 a1 a2 a3 a4 a5 a6 a7)) (Uy R kk k J) (fun a0 a1 a2 a3=>J (.exit 0) (zfe a0 a1 a2 a3)):=by kernel_rfl
theorem aeX(a:ByteArray)(b:(List ByteArray))(c:Int)(d:(List Int))(e:Int)(f:(List ByteArray))(g:(List Int))(h:Int):zyb R kk K .ret (zfd a b c d e f g h)=
 zyc a b c d e f g h (fun a0 a1 a2 a3=>K [.aj (.sl 9 .str) a0 [[]],tI a1,.aj (.sl 3 (.int .i64)) a2 [[]],tI a3] none):=by kernel_rfl
theorem aeY(a:ByteArray)(b:(List ByteArray))(c:(List Int))(d:Int):zyb R kk K (.exit 0) (zfe a b c d)=
 zyd a b c d (fun a0 a1 a2 a3=>K [.aj (.sl 9 .str) a0 [[]],tI a1,.aj (.sl 3 (.int .i64)) a2 [[]],tI a3] none):=by kernel_rfl
theorem aiu{kk:Nat}(hF:kk=ag)(eB:Int)(jH:ByteArray)(t8:(List ByteArray))(t9:(List Int))(t10:Int):Uy R kk k J eB jH t8 t9 t10=(Hj k eB jH t8 t9 t10).bind fun e=>(Sum.elim (fun(we:(ByteArray×(List ByteArray)×Int×(List Int)×Int×(List ByteArray)×(List Int)×Int))=>J .ret (zfd we.1 we.2.1 we.2.2.1 we.2.2.2.1 we.2.2.2.2.1 we.2.2.2.2.2.1 we.2.2.2.2.2.2.1 we.2.2.2.2.2.2.2)) (fun(we:(ByteArray×(List ByteArray)×(List Int)×Int))=>J (.exit 0) (zfe we.1 we.2.1 we.2.2.1 we.2.2.2)) e):=by
 induction k generalizing eB jH t8 t9 t10 with
 |zero=>rfl
 |succ k ih=>
  rw[alE]
  simp only[Hj,UA,ih,aD]
def Ak:ah:=qs.add 31 [(.int .i64),.str] (dt (.int .i64) .str s4 (fun _ r K=>K [.aj (.sl 9 .str) r.1 [[]],tI r.2.1,.aj (.sl 3 (.int .i64)) r.2.2.1 [[]],tI r.2.2.2] none))
theorem abA:aP Tryz.prog Ak:=dv W5 Tryz.f31 (fun R kk x0 x1 K=>Uz x0 x1 (Uy R kk kk (zyb R kk K))) abz ((ek _ _ _ _).mv _) Tryz.func31 (by kernel_rfl) rfl (fun _ _ _ _ _ _ h=>h _ _) (fun _ _ _ _ _=>by kernel_rfl) fun R kk e x0 x1 K=>by
 simp only[s4,Uz,zyc,zyd,aiu (hF:=e),aeX,aeY,aD,<-e]
def anH:Env:=e0 [(.int .i64),.str]
def j4:ah:=Ak.add 28 [(.int .i64),.str] (dt (.int .i64) .str s6 (fun _ r K=>K [.aj (.sl 3 (.int .i64)) r []] none))
theorem abB:aP Tryz.prog j4:=dv anH Tryz.f28 (fun R kk x0 x1 K=>UB x0 x1 (fun a0=>K [.aj (.sl 3 (.int .i64)) a0 []] none)) abA (ek _ _ _ _) Tryz.func28 (by kernel_rfl) rfl (fun _ _ _ _ _ _ h=>h _ _) (fun _ _ _ _ _=>by kernel_rfl) fun R kk e x0 x1 K=>by
 simp only[s6,UB,aD]
def F1:Env:=b9.env (fun i=>bif Nat.beq i 7 then [0,1,5,6,7,8,9,10] else bif Nat.beq i 13 then [0,1,5,6,7,8,9,10,11,12] else []) (fun i=>bif Nat.beq i 7 then [5,8,9] else bif Nat.beq i 13 then [0,1,5,6,7,8,9,10] else []) [] [(.int .i64),(.sl 57 (.pair (.int .i64) (.pair .str .unit)))]
def QF(a:Int)(b c:ak)(d:Int)(e f g:(List Int))(h:(List ByteArray)):Option R:=aB (ev F1 (j4 R) kk (sub [1,1,1,1,1,1,0,1,0,0] (cd Tryz.f25))) [0,1,5,6,7,8,9,10] [5,8,9] k ⟨[tI a]::[.aj (.sl 57 (.pair (.int .i64) (.pair .str .unit))) b []]::uS 3 ([.aj (.sl 57 (.pair (.int .i64) (.pair .str .unit))) c [[]]]::[.ptr 7 (.arr 2 (.int .i64)) []]::[.ptr 8 (.arr 2 (.int .i64)) []]::[.ptr 9 (.arr 2 (.int .i64)) []]::[.ptr 10 (.arr 2 .str) []]::[tI d]::uS 111 []),nS 7 ((some ⟨(.arr 2 (.int .i64)),e,[]⟩)::(some ⟨(.arr 2 (.int .i64)),f,[]⟩)::(some ⟨(.arr 2 (.int .i64)),g,[]⟩)::(some ⟨(.arr 2 .str),h,[]⟩)::nS 112 [])⟩ J
def zfi(a:ak)(b:(List Int))(c:(List ByteArray)):State:=⟨uS 5 ([.aj (.sl 57 (.pair (.int .i64) (.pair .str .unit))) a [[]]]::uS 2 ([.ptr 9 (.arr 2 (.int .i64)) []]::[.ptr 10 (.arr 2 .str) []]::uS 112 [])),nS 9 ((some ⟨(.arr 2 (.int .i64)),b,[]⟩)::(some ⟨(.arr 2 .str),c,[]⟩)::nS 112 [])⟩
def Ok:KX R:=(zk 0 (aU F1 (j4 R) kk (sub [1,1,1,1,1,1,1] (cd Tryz.f25)) (aT F1 Tryz.f25.results.toList none K)))
def UD(a:Int)(b c:ak)(d e:Int)(f g h i:(List Int))(j:(List ByteArray)):Option R:=aB (ev F1 (j4 R) kk (sub [1,1,1,1,1,1,0,1,0,0,1,0,0,1,1,1,1,0,0] (cd Tryz.f25))) [0,1,5,6,7,8,9,10,11,12] [0,1,5,6,7,8,9,10] k ⟨[tI a]::[.aj (.sl 57 (.pair (.int .i64) (.pair .str .unit))) b []]::uS 3 ([.aj (.sl 57 (.pair (.int .i64) (.pair .str .unit))) c [[]]]::[.ptr 7 (.arr 2 (.int .i64)) []]::[.ptr 8 (.arr 2 (.int .i64)) []]::[.ptr 9 (.arr 2 (.int .i64)) []]::[.ptr 10 (.arr 2 .str) []]::[tI d]::[tI e]::[.aj (.sl 3 (.int .i64)) f []]::uS 109 []),nS 7 ((some ⟨(.arr 2 (.int .i64)),g,[]⟩)::(some ⟨(.arr 2 (.int .i64)),h,[]⟩)::(some ⟨(.arr 2 (.int .i64)),i,[]⟩)::(some ⟨(.arr 2 .str),j,[]⟩)::nS 112 [])⟩ J
def zfj(a:Int)(b c:ak)(d:Int)(e f g:(List Int))(h:(List ByteArray)):State:=⟨[tI a]::[.aj (.sl 57 (.pair (.int .i64) (.pair .str .unit))) b []]::uS 3 ([.aj (.sl 57 (.pair (.int .i64) (.pair .str .unit))) c [[]]]::[.ptr 7 (.arr 2 (.int .i64)) []]::[.ptr 8 (.arr 2 (.int .i64)) []]::[.ptr 9 (.arr 2 (.int .i64)) []]::[.ptr 10 (.arr 2 .str) []]::[tI d]::uS 111 []),nS 7 ((some ⟨(.arr 2 (.int .i64)),e,[]⟩)::(some ⟨(.arr 2 (.int .i64)),f,[]⟩)::(some ⟨(.arr 2 (.int .i64)),g,[]⟩)::(some ⟨(.arr 2 .str),h,[]⟩)::nS 112 [])⟩
def Ol:KX R:=(zk 2 (zk 1 (aU F1 (j4 R) kk (sub [1,1,1,1,1,1,0,1,0,0,1,1] (cd Tryz.f25)) (lr (ev F1 (j4 R) kk (sub [1,1,1,1,1,1,0,1,0,0] (cd Tryz.f25))) [0,1,5,6,7,8,9,10] [5,8,9] k J))))
theorem alG(a:Int)(b c:ak)(d:Int)(e f g:(List Int))(h:(List ByteArray)):QF R kk (k+1) J a b c d e f g h=
 Hk a b c d e f g h (QF R kk k J) (UD R kk kk (Ol R kk k J)) (fun a0 a1 a2=>J (.exit 0) (zfi a0 a1 a2)):=by kernel_rfl
theorem ae1(a:ak)(b:(List Int))(c:(List ByteArray)):Ok R kk K (.exit 0) (zfi a b c)=
 UF a b c (fun a0=>K [.aj (.sl 57 (.pair (.int .i64) (.pair .str .unit))) a0 []] none):=by kernel_rfl
theorem alH(a:Int)(b c:ak)(d e:Int)(f g h i:(List Int))(j:(List ByteArray)):UD R kk (k+1) J a b c d e f g h i j=
 Hl a b c d e f g h i j (UD R kk k J) (fun a0 a1 a2 a3 a4 a5 a6 a7=>J (.exit 2) (zfj a0 a1 a2 a3 a4 a5 a6 a7)):=by kernel_rfl
theorem ae2(a:Int)(b c:ak)(d:Int)(e f g:(List Int))(h:(List ByteArray)):Ol R kk k J (.exit 2) (zfj a b c d e f g h)=
 UG a b c d e f g h (QF R kk k J):=by kernel_rfl
theorem aix{kk:Nat}(hF:kk=ag)(eB:Int)(CK t5:ak)(t10 t11:Int)(t12 gU iO oj:(List Int))(om:(List ByteArray)):UD R kk k J eB CK t5 t10 t11 t12 gU iO oj om=(Bz k eB CK t5 t10 t11 t12 gU iO oj om).bind fun e=>J (.exit 2) (zfj e.1 e.2.1 e.2.2.1 e.2.2.2.1 e.2.2.2.2.1 e.2.2.2.2.2.1 e.2.2.2.2.2.2.1 e.2.2.2.2.2.2.2):=by
 induction k generalizing eB CK t5 t10 t11 t12 gU iO oj om with
 |zero=>rfl
 |succ k ih=>
  rw[alH]
  simp only[Bz,Hl,ih,aD]
theorem aiw{kk:Nat}(hF:kk=ag)(eB:Int)(CK t5:ak)(t10:Int)(gU iO oj:(List Int))(om:(List ByteArray)):QF R kk k J eB CK t5 t10 gU iO oj om=(vf k eB CK t5 t10 gU iO oj om).bind fun e=>J (.exit 0) (zfi e.1 e.2.1 e.2.2):=by
 induction k generalizing eB CK t5 t10 gU iO oj om with
 |zero=>rfl
 |succ k ih=>
  rw[alG]
  simp only[vf,Hk,UG,ih,aix (hF:=hF),ae2,aD,<-hF]
def Al:ah:=j4.add 25 [(.int .i64),(.sl 57 (.pair (.int .i64) (.pair .str .unit)))] (dt (.int .i64) (.sl 57 (.pair (.int .i64) (.pair .str .unit))) s7 (fun _ r K=>K [.aj (.sl 57 (.pair (.int .i64) (.pair .str .unit))) r []] none))
theorem abC:aP Tryz.prog Al:=dv F1 Tryz.f25 (fun R kk x0 x1 K=>UE x0 x1 (QF R kk kk (Ok R kk K))) abB (ek _ _ _ _) Tryz.func25 (by kernel_rfl) rfl (fun _ _ _ _ _ _ h=>h _ _) (fun _ _ _ _ _=>by kernel_rfl) fun R kk e x0 x1 K=>by
 simp only[s7,UE,UF,aiw (hF:=e),ae1,aD,<-e]
def IE:Env:=e0 [bU,(.sl 57 (.pair (.int .i64) (.pair .str .unit)))]
def Am:ah:=Al.add 5 [bU,(.sl 57 (.pair (.int .i64) (.pair .str .unit)))] (dt bU (.sl 57 (.pair (.int .i64) (.pair .str .unit))) ID (fun _ r K=>K [tB r] none))
theorem abD:aP Tryz.prog Am:=dv IE Tryz.f5 (fun R kk x0 x1 K=>Yj x0 x1 (fun a0=>K [tB a0] none)) abC (ek _ _ _ _) Tryz.func5 (by kernel_rfl) rfl (fun _ _ _ _ _ _ h=>h _ _) (fun _ _ _ _ _=>by kernel_rfl) fun R kk e x0 x1 K=>by
 simp only[ID,Yj,aD]
end
end Go.Proofs.YtpjkbbihjoflnaaGreatDoor

