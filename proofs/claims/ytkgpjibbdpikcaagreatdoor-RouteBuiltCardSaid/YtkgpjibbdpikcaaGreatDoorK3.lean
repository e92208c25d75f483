/- No condition. -/
import Derived.Test.YtkgpjibbdpikcaaGreatDoorK2
set_option linter.unusedVariables false
set_option linter.unusedSimpArgs false
set_option maxRecDepth 100000
namespace Go.Proofs.YtkgpjibbdpikcaaGreatDoor
noncomputable section
open Go Go.Ref bW
variable (R:Type) (kk k:Nat) (K:KF R) (J:KX R)
def rO:Env:={{bD.env (fun i=>bif Nat.beq i 12 then [4,6,7,8,9,16,59,60,61] else bif Nat.beq i 18 then [4,6,8,9,16,76,77,78] else []) (fun i=>bif Nat.beq i 12 then [4,6,7,8,9,16] else bif Nat.beq i 18 then [8,9,16] else []) [8,9] [bG,aO,aO,y5] with dr:=fun i=>bif Nat.beq i 12 then [17] else []} with ro:=true}
def zE(a:aR)(b c:Int)(d:av)(e:ag)(f g:ai)(h:aB)(i:ai):Option R:=az (ev rO (fq R) kk (sub [1,1,1,1,1,1,0,1,0,0] (cd Tryz.f40))) [4,6,7,8,9,16,59,60,61] [4,6,7,8,9,16] k ⟨uS 4 ([.ptr 5 bG []]::uS 1 ([.ptr 7 aO []]::[.ptr 8 y5 []]::[.ptr 9 y5 []]::[.ptr 10 (.pair (.int .i64) (.pair (.int .i64) .unit)) []]::uS 6 ([.ptr 17 y5 []]::uS 42 ([.af (.sl 59 cw) a []]::[tI b]::[tI c]::uS 60 [])))),nS 5 ((some ⟨bG,d,[]⟩)::nS 1 ((some ⟨aO,e,[]⟩)::(some ⟨y5,f,[]⟩)::(some ⟨y5,g,[[1]]⟩)::(some ⟨(.pair (.int .i64) (.pair (.int .i64) .unit)),h,[]⟩)::nS 6 ((some ⟨y5,i,[]⟩)::nS 105 [])))⟩ J
def G2(a:av)(b:ag)(c d:ai)(e:aB)(f:ai):State:=⟨uS 4 ([.ptr 5 bG []]::uS 1 ([.ptr 7 aO []]::[.ptr 8 y5 []]::[.ptr 9 y5 []]::[.ptr 10 (.pair (.int .i64) (.pair (.int .i64) .unit)) []]::uS 6 ([.ptr 17 y5 []]::uS 105 []))),nS 5 ((some ⟨bG,a,[]⟩)::nS 1 ((some ⟨aO,b,[]⟩)::(some ⟨y5,c,[]⟩)::(some ⟨y5,d,[[1]]⟩)::(some ⟨(.pair (.int .i64) (.pair (.int .i64) .unit)),e,[]⟩)::nS 6 ((some ⟨y5,f,[]⟩)::nS 105 [])))⟩
def Qa:KX R:=(zd 0 (aS rO (fq R) kk (sub [1,1,1,1,1,1,1] (cd Tryz.f40)) (aW rO Tryz.f40.results.toList none K)))
def zG(a:al)(b c:Int)(d:av)(e:ag)(f:ai)(g:aB)(h:ai):Option R:=az (ev rO (fq R) kk (sub [1,1,1,1,1,1,1,0,1,0,0] (cd Tryz.f40))) [4,6,8,9,16,76,77,78] [8,9,16] k ⟨uS 4 ([.ptr 5 bG []]::uS 1 ([.ptr 7 aO []]::uS 1 ([.ptr 9 y5 []]::[.ptr 10 (.pair (.int .i64) (.pair (.int .i64) .unit)) []]::uS 6 ([.ptr 17 y5 []]::uS 59 ([.af (.sl 90 (.pair (.int .i64) (.pair .str .unit))) a []]::[tI b]::[tI c]::uS 43 []))))),nS 5 ((some ⟨bG,d,[]⟩)::nS 1 ((some ⟨aO,e,[]⟩)::nS 1 ((some ⟨y5,f,[[1]]⟩)::(some ⟨(.pair (.int .i64) (.pair (.int .i64) .unit)),g,[]⟩)::nS 6 ((some ⟨y5,h,[]⟩)::nS 105 []))))⟩ J
def G3(a:ai)(b:aB)(c:ai):State:=⟨uS 8 ([.ptr 9 y5 []]::[.ptr 10 (.pair (.int .i64) (.pair (.int .i64) .unit)) []]::uS 6 ([.ptr 17 y5 []]::uS 105 [])),nS 9 ((some ⟨y5,a,[[1]]⟩)::(some ⟨(.pair (.int .i64) (.pair (.int .i64) .unit)),b,[]⟩)::nS 6 ((some ⟨y5,c,[]⟩)::nS 105 []))⟩
def G4(a:ai)(b:aB)(c:ai):State:=⟨uS 8 ([.ptr 9 y5 []]::[.ptr 10 (.pair (.int .i64) (.pair (.int .i64) .unit)) []]::uS 6 ([.ptr 17 y5 []]::uS 105 [])),nS 9 ((some ⟨y5,a,[[1]]⟩)::(some ⟨(.pair (.int .i64) (.pair (.int .i64) .unit)),b,[]⟩)::nS 6 ((some ⟨y5,c,[]⟩)::nS 105 []))⟩
def Ls:KX R:=(zd 2 (aS rO (fq R) kk (sub [1,1,1,1,1,1,1,1] (cd Tryz.f40)) (aW rO Tryz.f40.results.toList none K)))
theorem Z5(a:aR)(b c:Int)(d:av)(e:ag)(f g:ai)(h:aB)(i:ai):zE R kk (k+1) J a b c d e f g h i=
 Lu a b c d e f g h i (zE R kk k J) (fun a0 a1 a2 a3 a4 a5=>J (.exit 0) (G2 a0 a1 a2 a3 a4 a5)):=by kernel_rfl
theorem Wg(a:av)(b:ag)(c d:ai)(e:aB)(f:ai):Qa R kk K (.exit 0) (G2 a b c d e f)=
 Lv a b c d e f (zG R kk kk (Ls R kk K)):=by kernel_rfl
theorem DH(a:al)(b c:Int)(d:av)(e:ag)(f:ai)(g:aB)(h:ai):zG R kk (k+1) J a b c d e f g h=
 Lw a b c d e f g h (fun a0 a1 a2=>J .ret (G3 a0 a1 a2)) (zG R kk k J) (fun a0 a1 a2=>J (.exit 2) (G4 a0 a1 a2)):=by kernel_rfl
theorem Wh(a:ai)(b:aB)(c:ai):Ls R kk K .ret (G3 a b c)=
 Lx a b c (fun a0 a1=>K [.af y5 a0 [],.af (.pair (.int .i64) (.pair (.int .i64) .unit)) a1 []] none):=by kernel_rfl
theorem Wi(a:ai)(b:aB)(c:ai):Ls R kk K (.exit 2) (G4 a b c)=
 Ly a b c (fun a0 a1=>K [.af y5 a0 [],.af (.pair (.int .i64) (.pair (.int .i64) .unit)) a1 []] none):=by kernel_rfl
theorem Yk{kk:Nat}(hF:kk=aq)(t59:aR)(t60 t61:Int)(bZ:av)(dw:ag)(eI qJ:ai)(qK:aB)(eH:ai):zE R kk k J t59 t60 t61 bZ dw eI qJ qK eH=(zH k t59 t60 t61 bZ dw eI qJ qK eH).bind fun e=>J (.exit 0) (G2 e.1 e.2.1 e.2.2.1 e.2.2.2.1 e.2.2.2.2.1 e.2.2.2.2.2):=by
 induction k generalizing t59 t60 t61 bZ dw eI qJ qK eH with
 |zero=>rfl
 |succ k ih=>
  rw[Z5]
  simp only[zH,Lu,ih,aE]
theorem Yl{kk:Nat}(hF:kk=aq)(t76:al)(t77 t78:Int)(bZ:av)(dw:ag)(qJ:ai)(qK:aB)(eH:ai):zG R kk k J t76 t77 t78 bZ dw qJ qK eH=(zJ k t76 t77 t78 bZ dw qJ qK eH).bind fun e=>(Sum.elim (fun(we:jF)=>J .ret (G3 we.1 we.2.1 we.2.2)) (fun(we:jF)=>J (.exit 2) (G4 we.1 we.2.1 we.2.2)) e):=by
 induction k generalizing t76 t77 t78 bZ dw qJ qK eH with
 |zero=>rfl
 |succ k ih=>
  rw[DH]
  simp only[zJ,Lw,ih,aE]
def oz:ae:=fq.add 40 [bG,aO,aO,y5] (xd bG aO aO y5 qs (fun _ r K=>K [.af y5 r.1 [],.af (.pair (.int .i64) (.pair (.int .i64) .unit)) r.2 []] none))
theorem Da:aL Tryz.prog oz:=DB rO Tryz.f40 (fun R kk x0 x1 x2 x3 K=>Lt x0 x1 x2 x3 (fun a0 a1=>K [.af y5 a0 [],.af (.pair (.int .i64) (.pair (.int .i64) .unit)) a1 []] none) (zE R kk kk (Qa R kk K))) C9 (((ek _ _ _ _).dr _).ro _) Tryz.func40 (by kernel_rfl) rfl (fun _ _ _ _ _ _ h=>h _ _) (fun _ _ _ _ _ _ _=>by kernel_rfl) fun R kk e x0 x1 x2 x3 K=>by
 simp only[qs,Lt,Lv,Lx,Ly,Yk (hF:=e),Yl (hF:=e),Wg,Wh,Wi,aE,<-e]
def Ew:Env:={e0 [cc,(.int .i64),.str] with fr:=fun i=>bif Nat.beq i 5 then [12,4] else []}
def oB:ae:=oz.add 14 [cc,(.int .i64),.str] (fI cc (.int .i64) .str ku (fun _ r K=>K [tI r.1,tS r.2] none))
theorem Db:aL Tryz.prog oB:=gf Ew Tryz.f14 (fun R kk x0 x1 x2 K=>J0 x0 x1 x2 (fun a0 a1=>K [tI a0,tS a1] none)) Da ((ek _ _ _ _).fr _) Tryz.func14 (by kernel_rfl) rfl (fun _ _ _ _ _ _ h=>h _ _) (fun _ _ _ _ _ _=>by kernel_rfl) fun R kk e x0 x1 x2 K=>by
 simp only[ku,J0,aE]
def tw:Env:=e0 []
def jf:ae:=oB.add 9 [] (hM wO (fun _ r K=>K [tB r] none))
theorem Dc:aL Tryz.prog jf:=iC tw Tryz.f9 (fun R kk K=>MO (fun a0=>K [tB a0] none)) Db (ek _ _ _ _) Tryz.func9 (by kernel_rfl) rfl (fun _ _ _ _ _ _ h=>h _ _) (fun _ _ _=>by kernel_rfl) fun R kk e K=>by
 simp only[wO,MO,aE]
def Aa:Env:=bD.env (fun i=>bif Nat.beq i 4 then [2,3,5] else []) (fun i=>bif Nat.beq i 4 then [4] else []) [] [aO,aO]
def xB(a:Int)(b c:ag):Option R:=az (ev Aa (jf R) kk (sub [1,1,0,1,0,0] (cd Tryz.f51))) [2,3,5] [4] k ⟨uS 2 ([.ptr 3 aO []]::[.ptr 4 aO []]::uS 1 ([tI a]::uS 39 [])),nS 3 ((some ⟨aO,b,[]⟩)::(some ⟨aO,c,[]⟩)::nS 41 [])⟩ J
def FO(a:Bool):State:=⟨uS 4 ([tB a]::uS 40 []),nS 46 []⟩
def FP:State:=⟨uS 45 [],nS 46 []⟩
def HL:KX R:=(zd 0 (aS Aa (jf R) kk (sub [1,1,1] (cd Tryz.f51)) (aW Aa Tryz.f51.results.toList none K)))
theorem Zk(a:Int)(b c:ag):xB R kk (k+1) J a b c=
 HN a b c (fun a0=>J .ret (FO a0)) (xB R kk k J) (J (.exit 0) (FP)):=by kernel_rfl
theorem U9(a:Bool):HL R kk K .ret (FO a)=
 HO a (fun a0=>K [tB a0] none):=by kernel_rfl
theorem Va:HL R kk K (.exit 0) (FP)=
 HP (fun a0=>K [tB a0] none):=by kernel_rfl
theorem Xu{kk:Nat}(hF:kk=aq)(t5:Int)(bR bY:ag):xB R kk k J t5 bR bY=(xC k t5 bR bY).bind fun e=>(Sum.elim (fun(we:Bool)=>J .ret (FO we)) (fun(we:Unit)=>J (.exit 0) (FP)) e):=by
 induction k generalizing t5 bR bY with
 |zero=>rfl
 |succ k ih=>
  rw[Zk]
  simp only[xC,HN,ih,aE]
def jg:ae:=jf.add 51 [aO,aO] (cE aO aO pI (fun _ r K=>K [tB r] none))
theorem Dd:aL Tryz.prog jg:=cF Aa Tryz.f51 (fun R kk x0 x1 K=>HM x0 x1 (fun a0=>K [tB a0] none) (xB R kk kk (HL R kk K))) Dc (ek _ _ _ _) Tryz.func51 (by kernel_rfl) rfl (fun _ _ _ _ _ _ h=>h _ _) (fun _ _ _ _ _=>by kernel_rfl) fun R kk e x0 x1 K=>by
 simp only[pI,HM,HO,HP,Xu (hF:=e),U9,Va,aE,<-e]
def Ac:Env:=bD.env (fun i=>bif Nat.beq i 4 then [0,1,5] else []) (fun i=>bif Nat.beq i 4 then [4] else []) [] [(.sl 116 (.pair .str (.pair .str .unit))),(.sl 116 (.pair .str (.pair .str .unit)))]
def xF(a b:aw)(c:Int):Option R:=az (ev Ac (jg R) kk (sub [1,1,0,1,0,0] (cd Tryz.f125))) [0,1,5] [4] k ⟨[.af (.sl 116 (.pair .str (.pair .str .unit))) a []]::[.af (.sl 116 (.pair .str (.pair .str .unit))) b []]::uS 3 ([tI c]::uS 20 []),nS 27 []⟩ J
def FR(a:Bool):State:=⟨uS 4 ([tB a]::uS 21 []),nS 27 []⟩
def FT:State:=⟨uS 26 [],nS 27 []⟩
def HV:KX R:=(zd 0 (aS Ac (jg R) kk (sub [1,1,1] (cd Tryz.f125)) (aW Ac Tryz.f125.results.toList none K)))
theorem Zm(a b:aw)(c:Int):xF R kk (k+1) J a b c=
 HX a b c (fun a0=>J .ret (FR a0)) (xF R kk k J) (J (.exit 0) (FT)):=by kernel_rfl
theorem Vc(a:Bool):HV R kk K .ret (FR a)=
 HY a (fun a0=>K [tB a0] none):=by kernel_rfl
theorem Vd:HV R kk K (.exit 0) (FT)=
 HZ (fun a0=>K [tB a0] none):=by kernel_rfl
theorem Xw{kk:Nat}(hF:kk=aq)(ij qC:aw)(t5:Int):xF R kk k J ij qC t5=(xG k ij qC t5).bind fun e=>(Sum.elim (fun(we:Bool)=>J .ret (FR we)) (fun(we:Unit)=>J (.exit 0) (FT)) e):=by
 induction k generalizing ij qC t5 with
 |zero=>rfl
 |succ k ih=>
  rw[Zm]
  simp only[xG,HX,ih,aE]
def jh:ae:=jg.add 125 [(.sl 116 (.pair .str (.pair .str .unit))),(.sl 116 (.pair .str (.pair .str .unit)))] (cE (.sl 116 (.pair .str (.pair .str .unit))) (.sl 116 (.pair .str (.pair .str .unit))) mq (fun _ r K=>K [tB r] none))
theorem De:aL Tryz.prog jh:=cF Ac Tryz.f125 (fun R kk x0 x1 K=>HW x0 x1 (fun a0=>K [tB a0] none) (xF R kk kk (HV R kk K))) Dd (ek _ _ _ _) Tryz.func125 (by kernel_rfl) rfl (fun _ _ _ _ _ _ h=>h _ _) (fun _ _ _ _ _=>by kernel_rfl) fun R kk e x0 x1 K=>by
 simp only[mq,HW,HY,HZ,Xw (hF:=e),Vc,Vd,aE,<-e]
def Ae:Env:=bD.env (fun i=>bif Nat.beq i 4 then [2,3,5] else []) (fun i=>bif Nat.beq i 4 then [4] else []) [] [bG,bG]
def xJ(a:Int)(b c:av):Option R:=az (ev Ae (jh R) kk (sub [1,1,0,1,0,0] (cd Tryz.f52))) [2,3,5] [4] k ⟨uS 2 ([.ptr 3 bG []]::[.ptr 4 bG []]::uS 1 ([tI a]::uS 68 [])),nS 3 ((some ⟨bG,b,[]⟩)::(some ⟨bG,c,[]⟩)::nS 70 [])⟩ J
def FV(a:Bool):State:=⟨uS 4 ([tB a]::uS 69 []),nS 75 []⟩
def FW:State:=⟨uS 74 [],nS 75 []⟩
def H4:KX R:=(zd 0 (aS Ae (jh R) kk (sub [1,1,1] (cd Tryz.f52)) (aW Ae Tryz.f52.results.toList none K)))
theorem Zo(a:Int)(b c:av):xJ R kk (k+1) J a b c=
 H6 a b c (fun a0=>J .ret (FV a0)) (xJ R kk k J) (J (.exit 0) (FW)):=by kernel_rfl
theorem Vf(a:Bool):H4 R kk K .ret (FV a)=
 H7 a (fun a0=>K [tB a0] none):=by kernel_rfl
theorem Vg:H4 R kk K (.exit 0) (FW)=
 H8 (fun a0=>K [tB a0] none):=by kernel_rfl
theorem Xy{kk:Nat}(hF:kk=aq)(t5:Int)(bR bY:av):xJ R kk k J t5 bR bY=(xK k t5 bR bY).bind fun e=>(Sum.elim (fun(we:Bool)=>J .ret (FV we)) (fun(we:Unit)=>J (.exit 0) (FW)) e):=by
 induction k generalizing t5 bR bY with
 |zero=>rfl
 |succ k ih=>
  rw[Zo]
  simp only[xK,H6,ih,aE]
def cV:ae:=jh.add 52 [bG,bG] (cE bG bG pL (fun _ r K=>K [tB r] none))
theorem Df:aL Tryz.prog cV:=cF Ae Tryz.f52 (fun R kk x0 x1 K=>H5 x0 x1 (fun a0=>K [tB a0] none) (xJ R kk kk (H4 R kk K))) De (ek _ _ _ _) Tryz.func52 (by kernel_rfl) rfl (fun _ _ _ _ _ _ h=>h _ _) (fun _ _ _ _ _=>by kernel_rfl) fun R kk e x0 x1 K=>by
 simp only[pL,H5,H7,H8,Xy (hF:=e),Vf,Vg,aE,<-e]
def lS:Env:=bD.env (fun i=>bif Nat.beq i 4 then [2,3,5] else bif Nat.beq i 11 then [2,3,5,6,7,8] else bif Nat.beq i 16 then [2,3,5,6,7,9] else []) (fun i=>bif Nat.beq i 4 then [4] else bif Nat.beq i 11 then [2,3,4,5,6,7] else bif Nat.beq i 16 then [2,3,4,5] else []) [] [cc,cc]
def xN(a:Int)(b c:aD):Option R:=az (ev lS (cV R) kk (sub [1,1,0,1,0,0] (cd Tryz.f20))) [2,3,5] [4] k ⟨uS 2 ([.ptr 3 cc []]::[.ptr 4 cc []]::uS 1 ([tI a]::uS 89 [])),nS 3 ((some ⟨cc,b,[]⟩)::(some ⟨cc,c,[]⟩)::nS 91 [])⟩ J
def vY(a:Bool):State:=⟨uS 4 ([tB a]::uS 90 []),nS 96 []⟩
def FY:State:=⟨uS 95 [],nS 96 []⟩
def Ig:KX R:=(zd 0 (aS lS (cV R) kk (sub [1,1,1] (cd Tryz.f20)) (aW lS Tryz.f20.results.toList none K)))
def xO(a b:Int)(c d:aD)(e f:ap):Option R:=az (ev lS (cV R) kk (sub [1,1,0,1,0,0,1,0,0,1,1,1,0,1,0,0] (cd Tryz.f20))) [2,3,5,6,7,8] [2,3,4,5,6,7] k ⟨uS 2 ([.ptr 3 cc []]::[.ptr 4 cc []]::uS 1 ([tI a]::[.ptr 7 bT []]::[.ptr 8 bT []]::[tI b]::uS 86 [])),nS 3 ((some ⟨cc,c,[]⟩)::(some ⟨cc,d,[]⟩)::nS 2 ((some ⟨bT,e,[]⟩)::(some ⟨bT,f,[]⟩)::nS 87 []))⟩ J
def FZ(a:Bool)(b:Int)(c d:aD)(e f:ap):State:=⟨uS 2 ([.ptr 3 cc []]::[.ptr 4 cc []]::[tB a]::[tI b]::[.ptr 7 bT []]::[.ptr 8 bT []]::uS 87 []),nS 3 ((some ⟨cc,c,[]⟩)::(some ⟨cc,d,[]⟩)::nS 2 ((some ⟨bT,e,[]⟩)::(some ⟨bT,f,[]⟩)::nS 87 []))⟩
def F0(a:Int)(b c:aD)(d e:ap):State:=⟨uS 2 ([.ptr 3 cc []]::[.ptr 4 cc []]::uS 1 ([tI a]::[.ptr 7 bT []]::[.ptr 8 bT []]::uS 87 [])),nS 3 ((some ⟨cc,b,[]⟩)::(some ⟨cc,c,[]⟩)::nS 2 ((some ⟨bT,d,[]⟩)::(some ⟨bT,e,[]⟩)::nS 87 []))⟩
def Ih:KX R:=(zd 2 (aS lS (cV R) kk (sub [1,1,0,1,0,0,1,0,0,1,1,1,1] (cd Tryz.f20)) (zd 1 (aS lS (cV R) kk (sub [1,1,0,1,0,0,1,1] (cd Tryz.f20)) (lF (ev lS (cV R) kk (sub [1,1,0,1,0,0] (cd Tryz.f20))) [2,3,5] [4] k J)))))
def xP(a b:Int)(c d:aD)(e f:ap):Option R:=az (ev lS (cV R) kk (sub [1,1,0,1,0,0,1,0,0,1,1,1,1,1,0,0] (cd Tryz.f20))) [2,3,5,6,7,9] [2,3,4,5] k ⟨uS 2 ([.ptr 3 cc []]::[.ptr 4 cc []]::uS 1 ([tI a]::[.ptr 7 bT []]::[.ptr 8 bT []]::uS 1 ([tI b]::uS 85 []))),nS 3 ((some ⟨cc,c,[]⟩)::(some ⟨cc,d,[]⟩)::nS 2 ((some ⟨bT,e,[]⟩)::(some ⟨bT,f,[]⟩)::nS 87 []))⟩ J
def F1(a:Bool)(b:Int)(c d:aD):State:=⟨uS 2 ([.ptr 3 cc []]::[.ptr 4 cc []]::[tB a]::[tI b]::uS 89 []),nS 3 ((some ⟨cc,c,[]⟩)::(some ⟨cc,d,[]⟩)::nS 91 [])⟩
def F2(a:Int)(b c:aD):State:=⟨uS 2 ([.ptr 3 cc []]::[.ptr 4 cc []]::uS 1 ([tI a]::uS 89 [])),nS 3 ((some ⟨cc,b,[]⟩)::(some ⟨cc,c,[]⟩)::nS 91 [])⟩
def Ii:KX R:=(zd 4 (zd 1 (aS lS (cV R) kk (sub [1,1,0,1,0,0,1,1] (cd Tryz.f20)) (lF (ev lS (cV R) kk (sub [1,1,0,1,0,0] (cd Tryz.f20))) [2,3,5] [4] k J))))
theorem Zq(a:Int)(b c:aD):xN R kk (k+1) J a b c=
 Ik a b c (fun a0=>J .ret (vY a0)) (xO R kk kk (Ih R kk k J)) (J (.exit 0) (FY)):=by kernel_rfl
theorem Vi(a:Bool):Ig R kk K .ret (vY a)=
 Il a (fun a0=>K [tB a0] none):=by kernel_rfl
theorem Vj:Ig R kk K (.exit 0) (FY)=
 Im (fun a0=>K [tB a0] none):=by kernel_rfl
theorem Zr(a b:Int)(c d:aD)(e f:ap):xO R kk (k+1) J a b c d e f=
 Io a b c d e f (fun a0 a1 a2 a3 a4 a5=>J .ret (FZ a0 a1 a2 a3 a4 a5)) (xO R kk k J) (fun a0 a1 a2 a3 a4=>J (.exit 2) (F0 a0 a1 a2 a3 a4)):=by kernel_rfl
theorem Vk(a:Bool)(b:Int)(c d:aD)(e f:ap):Ih R kk k J .ret (FZ a b c d e f)=
 Ip a b c d e f (fun a0=>J .ret (vY a0)):=by kernel_rfl
theorem Vl(a:Int)(b c:aD)(d e:ap):Ih R kk k J (.exit 2) (F0 a b c d e)=
 Iq a b c d e (xP R kk kk (Ii R kk k J)):=by kernel_rfl
theorem Zs(a b:Int)(c d:aD)(e f:ap):xP R kk (k+1) J a b c d e f=
 Ir a b c d e f (fun a0 a1 a2 a3=>J .ret (F1 a0 a1 a2 a3)) (xP R kk k J) (fun a0 a1 a2=>J (.exit 4) (F2 a0 a1 a2)):=by kernel_rfl
theorem Vm(a:Bool)(b:Int)(c d:aD):Ii R kk k J .ret (F1 a b c d)=
 Is a b c d (fun a0=>J .ret (vY a0)):=by kernel_rfl
theorem Vn(a:Int)(b c:aD):Ii R kk k J (.exit 4) (F2 a b c)=
 Iu a b c (xN R kk k J):=by kernel_rfl
theorem XB{kk:Nat}(hF:kk=aq)(t5 t8:Int)(bR bY:aD)(dw eI:ap):xO R kk k J t5 t8 bR bY dw eI=(xR k t5 t8 bR bY dw eI).bind fun e=>(Sum.elim (fun(we:(Bool×Int×aD×aD×ap×ap))=>J .ret (FZ we.1 we.2.1 we.2.2.1 we.2.2.2.1 we.2.2.2.2.1 we.2.2.2.2.2)) (fun(we:(Int×aD×aD×ap×ap))=>J (.exit 2) (F0 we.1 we.2.1 we.2.2.1 we.2.2.2.1 we.2.2.2.2)) e):=by
 induction k generalizing t5 t8 bR bY dw eI with
 |zero=>rfl
 |succ k ih=>
  rw[Zr]
  simp only[xR,Io,ih,aE]
theorem XC{kk:Nat}(hF:kk=aq)(t5 t9:Int)(bR bY:aD)(dw eI:ap):xP R kk k J t5 t9 bR bY dw eI=(xS k t5 t9 bR bY dw eI).bind fun e=>(Sum.elim (fun(we:(Bool×Int×aD×aD))=>J .ret (F1 we.1 we.2.1 we.2.2.1 we.2.2.2)) (fun(we:(Int×aD×aD))=>J (.exit 4) (F2 we.1 we.2.1 we.2.2)) e):=by
 induction k generalizing t5 t9 bR bY dw eI with
 |zero=>rfl
 |succ k ih=>
  rw[Zs]
  simp only[xS,Ir,ih,aE]
theorem XA{kk:Nat}(hF:kk=aq)(t5:Int)(bR bY:aD):xN R kk k J t5 bR bY=(xQ k t5 bR bY).bind fun e=>(Sum.elim (fun(we:Bool)=>J .ret (vY we)) (fun(we:Unit)=>J (.exit 0) (FY)) e):=by
 induction k generalizing t5 bR bY with
 |zero=>rfl
 |succ k ih=>
  rw[Zq]
  simp only[xQ,Ik,Ip,Iq,Is,Iu,ih,XB (hF:=hF),XC (hF:=hF),Vk,Vl,Vm,Vn,aE,<-hF]
def ji:ae:=cV.add 20 [cc,cc] (cE cc cc fP (fun _ r K=>K [tB r] none))
theorem Dg:aL Tryz.prog ji:=cF lS Tryz.f20 (fun R kk x0 x1 K=>Ij x0 x1 (fun a0=>K [tB a0] none) (xN R kk kk (Ig R kk K))) Df (ek _ _ _ _) Tryz.func20 (by kernel_rfl) rfl (fun _ _ _ _ _ _ h=>h _ _) (fun _ _ _ _ _=>by kernel_rfl) fun R kk e x0 x1 K=>by
 simp only[fP,Ij,Il,Im,XA (hF:=e),Vi,Vj,aE,<-e]
def Af:Env:=bD.env (fun i=>bif Nat.beq i 3 then [1,2,3,4] else []) (fun i=>bif Nat.beq i 3 then [2,3] else []) [2] [bG]
def xL(a:Int)(b c d:av):Option R:=az (ev Af (ji R) kk (sub [1,1,0,1,0,0] (cd Tryz.f70))) [1,2,3,4] [2,3] k ⟨uS 1 ([.ptr 2 bG []]::[.ptr 3 bG []]::[.ptr 4 bG []]::[tI a]::uS 35 []),nS 2 ((some ⟨bG,b,[]⟩)::(some ⟨bG,c,[[0],[1]]⟩)::(some ⟨bG,d,[[1]]⟩)::nS 36 [])⟩ J
def FX(a b:av):State:=⟨uS 2 ([.ptr 3 bG []]::[.ptr 4 bG []]::uS 36 []),nS 3 ((some ⟨bG,a,[[0],[1]]⟩)::(some ⟨bG,b,[[1]]⟩)::nS 36 [])⟩
def PW:KX R:=(zd 0 (aS Af (ji R) kk (sub [1,1,1] (cd Tryz.f70)) (aW Af Tryz.f70.results.toList none K)))
theorem Zp(a:Int)(b c d:av):xL R kk (k+1) J a b c d=
 Ia a b c d (xL R kk k J) (fun a0 a1=>J (.exit 0) (FX a0 a1)):=by kernel_rfl
theorem Vh(a b:av):PW R kk K (.exit 0) (FX a b)=
 Ib a b (fun a0=>K [.af bG a0 [[1]]] none):=by kernel_rfl
theorem Xz{kk:Nat}(hF:kk=aq)(t4:Int)(eG bR bY:av):xL R kk k J t4 eG bR bY=(xM k t4 eG bR bY).bind fun e=>J (.exit 0) (FX e.1 e.2):=by
 induction k generalizing t4 eG bR bY with
 |zero=>rfl
 |succ k ih=>
  rw[Zp]
  simp only[xM,Ia,ih,aE]
def oC:ae:=ji.add 70 [bG] (cu bG pM (fun _ r K=>K [.af bG r [[1]]] none))
theorem Dh:aL Tryz.prog oC:=cA Af Tryz.f70 (fun R kk x0 K=>H9 x0 (xL R kk kk (PW R kk K))) Dg (ek _ _ _ _) Tryz.func70 (by kernel_rfl) rfl (fun _ _ _ _ _ _ h=>h _ _) (fun _ _ _ _=>by kernel_rfl) fun R kk e x0 K=>by
 simp only[pM,H9,Ib,Xz (hF:=e),Vh,aE,<-e]
def Eb:Env:={bD.env (fun _=>[]) (fun _=>[]) [0] [] with sh:=[3,12]}
def oD:ae:=oC.add 27 [] (hM mr (fun _ r K=>K [.af cc r [[0,((1:Int)).toNat,3],[0,((1:Int)).toNat,2],[0,((1:Int)).toNat,0,2],[0,((0:Int)).toNat,3],[0,((0:Int)).toNat,0,2]]] none))
theorem Di:aL Tryz.prog oD:=iC Eb Tryz.f27 (fun R kk K=>Ie (fun a0=>K [.af cc a0 [[0,((1:Int)).toNat,3],[0,((1:Int)).toNat,2],[0,((1:Int)).toNat,0,2],[0,((0:Int)).toNat,3],[0,((0:Int)).toNat,0,2]]] none)) Dh ((ek _ _ _ _).sh _) Tryz.func27 (by kernel_rfl) rfl (fun _ _ _ _ _ _ h=>h _ _) (fun _ _ _=>by kernel_rfl) fun R kk e K=>by
 simp only[mr,Ie,aE]
def sV:Env:=e0 [(.sl 116 (.pair .str (.pair .str .unit)))]
def oE:ae:=oD.add 53 [(.sl 116 (.pair .str (.pair .str .unit)))] (cu (.sl 116 (.pair .str (.pair .str .unit))) wK (fun _ r K=>K [tB r] none))
theorem Dk:aL Tryz.prog oE:=cA sV Tryz.f53 (fun R kk x0 K=>Md x0 (fun a0=>K [tB a0] none)) Di (ek _ _ _ _) Tryz.func53 (by kernel_rfl) rfl (fun _ _ _ _ _ _ h=>h _ _) (fun _ _ _ _=>by kernel_rfl) fun R kk e x0 K=>by
 simp only[wK,Md,aE]
def Ef:Env:=e0 [cw,aO,aO]
def jj:ae:=oE.add 54 [cw,aO,aO] (fI cw aO aO pP (fun _ r K=>K [tB r] none))
theorem Dl:aL Tryz.prog jj:=gf Ef Tryz.f54 (fun R kk x0 x1 x2 K=>IZ x0 x1 x2 (fun a0=>K [tB a0] none)) Dk (ek _ _ _ _) Tryz.func54 (by kernel_rfl) rfl (fun _ _ _ _ _ _ h=>h _ _) (fun _ _ _ _ _ _=>by kernel_rfl) fun R kk e x0 x1 x2 K=>by
 simp only[pP,IZ,aE]
def Am:Env:=bD.env (fun i=>bif Nat.beq i 5 then [4,5,29,30,31] else []) (fun i=>bif Nat.beq i 5 then [6] else []) [] [bG,aO,aO]
def x5(a:aR)(b c:Int)(d e:ag):Option R:=az (ev Am (jj R) kk (sub [1,1,0,1,0,0] (cd Tryz.f22))) [4,5,29,30,31] [6] k ⟨uS 4 ([.ptr 5 aO []]::[.ptr 6 aO []]::uS 23 ([.af (.sl 59 cw) a []]::[tI b]::[tI c]::uS 9 [])),nS 5 ((some ⟨aO,d,[]⟩)::(some ⟨aO,e,[]⟩)::nS 35 [])⟩ J
def F8(a:Bool):State:=⟨uS 6 ([tB a]::uS 34 []),nS 42 []⟩
def F9:State:=⟨uS 41 [],nS 42 []⟩
def IM:KX R:=(zd 0 (aS Am (jj R) kk (sub [1,1,1] (cd Tryz.f22)) (aW Am Tryz.f22.results.toList none K)))
theorem Zy(a:aR)(b c:Int)(d e:ag):x5 R kk (k+1) J a b c d e=
 IQ a b c d e (fun a0=>J .ret (F8 a0)) (x5 R kk k J) (J (.exit 0) (F9)):=by kernel_rfl
theorem Vt(a:Bool):IM R kk K .ret (F8 a)=
 IU a (fun a0=>K [tB a0] none):=by kernel_rfl
theorem Vu:IM R kk K (.exit 0) (F9)=
 IV (fun a0=>K [tB a0] none):=by kernel_rfl
theorem XJ{kk:Nat}(hF:kk=aq)(t29:aR)(t30 t31:Int)(bZ cW:ag):x5 R kk k J t29 t30 t31 bZ cW=(x6 k t29 t30 t31 bZ cW).bind fun e=>(Sum.elim (fun(we:Bool)=>J .ret (F8 we)) (fun(we:Unit)=>J (.exit 0) (F9)) e):=by
 induction k generalizing t29 t30 t31 bZ cW with
 |zero=>rfl
 |succ k ih=>
  rw[Zy]
  simp only[x6,IQ,ih,aE]
def oF:ae:=jj.add 22 [bG,aO,aO] (fI bG aO aO mw (fun _ r K=>K [tB r] none))
theorem Dm:aL Tryz.prog oF:=gf Am Tryz.f22 (fun R kk x0 x1 x2 K=>IP x0 x1 x2 (fun a0=>K [tB a0] none) (x5 R kk kk (IM R kk K))) Dl (ek _ _ _ _) Tryz.func22 (by kernel_rfl) rfl (fun _ _ _ _ _ _ h=>h _ _) (fun _ _ _ _ _ _=>by kernel_rfl) fun R kk e x0 x1 x2 K=>by
 simp only[mw,IP,IU,IV,XJ (hF:=e),Vt,Vu,aE,<-e]
def tv:Env:={e0 [(.int .i64),cw] with sp:=some (9,71,74,0)}
def oG:ae:=oF.add 8 [(.int .i64),cw] (cE (.int .i64) cw tu (fun _ r K=>K [tB r] none))
theorem Dn:aL Tryz.prog oG:=cF tv Tryz.f8 (fun R kk x0 x1 K=>A6 x0 x1 (fun a0=>K [tB a0] none)) Dm ((ek _ _ _ _).sp _) Tryz.func8 (by kernel_rfl) rfl (fun _ _ _ _ _ _ h=>h _ _) (fun _ _ _ _ _=>by kernel_rfl) fun R kk e x0 x1 K=>by
 simp only[tu,A6,aE]
end
end Go.Proofs.YtkgpjibbdpikcaaGreatDoor

