/- No condition. -/
import Derived.Test.YtkgpjibbdpikcaaGreatDoorK4
set_option linter.unusedVariables false
set_option linter.unusedSimpArgs false
set_option maxRecDepth 100000
namespace Go.Proofs.YtkgpjibbdpikcaaGreatDoor
noncomputable section
open Go Go.Ref bF
variable (R:Type) (kk k:Nat) (K:KF R) (J:KX R)
theorem aji{kk:Nat}(hF:kk=ah)(t3:Int)(cT:au):V4 R kk k J t3 cT=(Sd k t3 cT).bind fun e=>(Sum.elim (fun(we:Bool)=>J .ret (zgh we)) (fun(we:Unit)=>J (.exit 0) (zgi)) e):=by
 induction k generalizing t3 cT with
 |zero=>rfl
 |succ k ih=>
  rw[amC]
  simp only[Sd,Df,ih,ay]
def oX:ai:=oW.add 28 [cg] (cC cg lS (fun _ r K=>K [tB r] none))
theorem aaT:aJ Tryz.prog oX:=cD YJ Tryz.f28 (fun R kk x0 K=>V5 x0 (fun a0=>K [tB a0] none) (V4 R kk kk (De R kk K))) aaS (ek _ _ _ _) Tryz.func28 (by kernel_rfl) rfl (fun _ _ _ _ _ _ h=>h _ _) (fun _ _ _ _=>by kernel_rfl) fun R kk e x0 K=>by
 simp only[lS,V5,Dg,Dh,aji (hF:=e),afK,afL,ay,<-e]
def YD:Env:=bG.env (fun i=>bif Nat.beq i 4 then [1,3] else []) (fun i=>bif Nat.beq i 4 then [2] else []) [] [cm]
def Vt(a:Int)(b:aB):Option R:=aw (ev YD (oX R) kk (sub [1,1,0,1,0,0] (cd Tryz.f71))) [1,3] [2] k ⟨uS 1 ([.ptr 2 cm []]::uS 1 ([tI a]::uS 35 [])),nS 2 ((some ⟨cm,b,[]⟩)::nS 37 [])⟩ J
def zft(a:Bool):State:=⟨uS 2 ([tB a]::uS 36 []),nS 40 []⟩
def zfu:State:=⟨uS 39 [],nS 40 []⟩
def CN:KX R:=(zk 0 (aF YD (oX R) kk (sub [1,1,1] (cd Tryz.f71)) (aD YD Tryz.f71.results.toList none K)))
theorem amn(a:Int)(b:aB):Vt R kk (k+1) J a b=
 RW a b (fun a0=>J .ret (zft a0)) (Vt R kk k J) (J (.exit 0) (zfu)):=by kernel_rfl
theorem afk(a:Bool):CN R kk K .ret (zft a)=
 CO a (fun a0=>K [tB a0] none):=by kernel_rfl
theorem afl:CN R kk K (.exit 0) (zfu)=
 CP (fun a0=>K [tB a0] none):=by kernel_rfl
theorem ai3{kk:Nat}(hF:kk=ah)(t3:Int)(cT:aB):Vt R kk k J t3 cT=(xE k t3 cT).bind fun e=>(Sum.elim (fun(we:Bool)=>J .ret (zft we)) (fun(we:Unit)=>J (.exit 0) (zfu)) e):=by
 induction k generalizing t3 cT with
 |zero=>rfl
 |succ k ih=>
  rw[amn]
  simp only[xE,RW,ih,ay]
def kv:ai:=oX.add 71 [cm] (cC cm na (fun _ r K=>K [tB r] none))
theorem aaU:aJ Tryz.prog kv:=cD YD Tryz.f71 (fun R kk x0 K=>Vu x0 (fun a0=>K [tB a0] none) (Vt R kk kk (CN R kk K))) aaT (ek _ _ _ _) Tryz.func71 (by kernel_rfl) rfl (fun _ _ _ _ _ _ h=>h _ _) (fun _ _ _ _=>by kernel_rfl) fun R kk e x0 K=>by
 simp only[na,Vu,CO,CP,ai3 (hF:=e),afk,afl,ay,<-e]
def Ha:Env:=bG.env (fun i=>bif Nat.beq i 4 then [1,3] else bif Nat.beq i 9 then [1,4] else []) (fun i=>bif Nat.beq i 4 then [1,2] else bif Nat.beq i 9 then [2] else []) [] [bN]
def VD(a:Int)(b:al):Option R:=aw (ev Ha (kv R) kk (sub [1,1,0,1,0,0] (cd Tryz.f29))) [1,3] [1,2] k ⟨uS 1 ([.ptr 2 bN []]::uS 1 ([tI a]::uS 49 [])),nS 2 ((some ⟨bN,b,[]⟩)::nS 51 [])⟩ J
def zg1(a:Bool)(b:al):State:=⟨uS 1 ([.ptr 2 bN []]::[tB a]::uS 50 []),nS 2 ((some ⟨bN,b,[]⟩)::nS 51 [])⟩
def zg2(a:al):State:=⟨uS 1 ([.ptr 2 bN []]::uS 51 []),nS 2 ((some ⟨bN,a,[]⟩)::nS 51 [])⟩
def CZ:KX R:=(zk 0 (aF Ha (kv R) kk (sub [1,1,1] (cd Tryz.f29)) (aD Ha Tryz.f29.results.toList none K)))
def VE(a:Int)(b:al):Option R:=aw (ev Ha (kv R) kk (sub [1,1,1,0,1,0,0] (cd Tryz.f29))) [1,4] [2] k ⟨uS 1 ([.ptr 2 bN []]::uS 2 ([tI a]::uS 48 [])),nS 2 ((some ⟨bN,b,[]⟩)::nS 51 [])⟩ J
def zg3(a:Bool):State:=⟨uS 2 ([tB a]::uS 50 []),nS 54 []⟩
def zg4:State:=⟨uS 53 [],nS 54 []⟩
def C1:KX R:=(zk 2 (aF Ha (kv R) kk (sub [1,1,1,1] (cd Tryz.f29)) (aD Ha Tryz.f29.results.toList none K)))
theorem ams(a:Int)(b:al):VD R kk (k+1) J a b=
 R4 a b (fun a0 a1=>J .ret (zg1 a0 a1)) (VD R kk k J) (fun a0=>J (.exit 0) (zg2 a0)):=by kernel_rfl
theorem afu(a:Bool)(b:al):CZ R kk K .ret (zg1 a b)=
 C2 a b (fun a0=>K [tB a0] none):=by kernel_rfl
theorem afv(a:al):CZ R kk K (.exit 0) (zg2 a)=
 VG a (VE R kk kk (C1 R kk K)):=by kernel_rfl
theorem amt(a:Int)(b:al):VE R kk (k+1) J a b=
 C3 a b (fun a0=>J .ret (zg3 a0)) (VE R kk k J) (J (.exit 2) (zg4)):=by kernel_rfl
theorem afw(a:Bool):C1 R kk K .ret (zg3 a)=
 C4 a (fun a0=>K [tB a0] none):=by kernel_rfl
theorem afx:C1 R kk K (.exit 2) (zg4)=
 C5 (fun a0=>K [tB a0] none):=by kernel_rfl
theorem ai8{kk:Nat}(hF:kk=ah)(t3:Int)(cT:al):VD R kk k J t3 cT=(xF k t3 cT).bind fun e=>(Sum.elim (fun(we:(Bool×al))=>J .ret (zg1 we.1 we.2)) (fun(we:al)=>J (.exit 0) (zg2 we)) e):=by
 induction k generalizing t3 cT with
 |zero=>rfl
 |succ k ih=>
  rw[ams]
  simp only[xF,R4,ih,ay]
theorem ai9{kk:Nat}(hF:kk=ah)(t4:Int)(cT:al):VE R kk k J t4 cT=(R3 k t4 cT).bind fun e=>(Sum.elim (fun(we:Bool)=>J .ret (zg3 we)) (fun(we:Unit)=>J (.exit 2) (zg4)) e):=by
 induction k generalizing t4 cT with
 |zero=>rfl
 |succ k ih=>
  rw[amt]
  simp only[R3,C3,ih,ay]
def yt:ai:=kv.add 29 [bN] (cC bN kV (fun _ r K=>K [tB r] none))
theorem aaV:aJ Tryz.prog yt:=cD Ha Tryz.f29 (fun R kk x0 K=>VF x0 (fun a0=>K [tB a0] none) (VD R kk kk (CZ R kk K))) aaU (ek _ _ _ _) Tryz.func29 (by kernel_rfl) rfl (fun _ _ _ _ _ _ h=>h _ _) (fun _ _ _ _=>by kernel_rfl) fun R kk e x0 K=>by
 simp only[kV,VF,C2,VG,C4,C5,ai8 (hF:=e),ai9 (hF:=e),afu,afv,afw,afx,ay,<-e]
def aoV:Env:=e0 [dK]
def yu:ai:=yt.add 10 [dK] (cC dK qn (fun _ r K=>K [tB r] none))
theorem aaW:aJ Tryz.prog yu:=cD aoV Tryz.f10 (fun R kk x0 K=>Wb x0 (fun a0=>K [tB a0] none)) aaV (ek _ _ _ _) Tryz.func10 (by kernel_rfl) rfl (fun _ _ _ _ _ _ h=>h _ _) (fun _ _ _ _=>by kernel_rfl) fun R kk e x0 K=>by
 simp only[qn,Wb,ay]
def aoM:Env:=e0 [(.sl 116 (.pair .str (.pair .str .unit)))]
def yw:ai:=yu.add 81 [(.sl 116 (.pair .str (.pair .str .unit)))] (cC (.sl 116 (.pair .str (.pair .str .unit))) qh (fun _ r K=>K [.aj (.sl 116 (.pair .str (.pair .str .unit))) r [[]]] none))
theorem aaX:aJ Tryz.prog yw:=cD aoM Tryz.f81 (fun R kk x0 K=>Vi x0 (fun a0=>K [.aj (.sl 116 (.pair .str (.pair .str .unit))) a0 [[]]] none)) aaW (ek _ _ _ _) Tryz.func81 (by kernel_rfl) rfl (fun _ _ _ _ _ _ h=>h _ _) (fun _ _ _ _=>by kernel_rfl) fun R kk e x0 K=>by
 simp only[qh,Vi,ay]
def aoO:Env:=bG.env (fun _=>[]) (fun _=>[]) [2] [cm]
def oY:ai:=yw.add 82 [cm] (cC cm m9 (fun _ r K=>K [.aj cm r [[4]]] none))
theorem aaY:aJ Tryz.prog oY:=cD aoO Tryz.f82 (fun R kk x0 K=>Vs x0 (fun a0=>K [.aj cm a0 [[4]]] none)) aaX (ek _ _ _ _) Tryz.func82 (by kernel_rfl) rfl (fun _ _ _ _ _ _ h=>h _ _) (fun _ _ _ _=>by kernel_rfl) fun R kk e x0 K=>by
 simp only[m9,Vs,ay]
def YF:Env:=bG.env (fun i=>bif Nat.beq i 3 then [1,2,3,4] else []) (fun i=>bif Nat.beq i 3 then [2,3] else []) [2] [bN]
def VB(a:Int)(b c d:al):Option R:=aw (ev YF (oY R) kk (sub [1,1,0,1,0,0] (cd Tryz.f32))) [1,2,3,4] [2,3] k ⟨uS 1 ([.ptr 2 bN []]::[.ptr 3 bN []]::[.ptr 4 bN []]::[tI a]::uS 23 []),nS 2 ((some ⟨bN,b,[]⟩)::(some ⟨bN,c,[[0],[1]]⟩)::(some ⟨bN,d,[[0],[1]]⟩)::nS 24 [])⟩ J
def zg0(a b:al):State:=⟨uS 2 ([.ptr 3 bN []]::[.ptr 4 bN []]::uS 24 []),nS 3 ((some ⟨bN,a,[[0],[1]]⟩)::(some ⟨bN,b,[[0],[1]]⟩)::nS 24 [])⟩
def Po:KX R:=(zk 0 (aF YF (oY R) kk (sub [1,1,1] (cd Tryz.f32)) (aD YF Tryz.f32.results.toList none K)))
theorem amr(a:Int)(b c d:al):VB R kk (k+1) J a b c d=
 CX a b c d (VB R kk k J) (fun a0 a1=>J (.exit 0) (zg0 a0 a1)):=by kernel_rfl
theorem afs(a b:al):Po R kk K (.exit 0) (zg0 a b)=
 CY a b (fun a0=>K [.aj bN a0 [[0],[1]]] none):=by kernel_rfl
theorem ai7{kk:Nat}(hF:kk=ah)(t4:Int)(cT cA cU:al):VB R kk k J t4 cT cA cU=(R0 k t4 cT cA cU).bind fun e=>J (.exit 0) (zg0 e.1 e.2):=by
 induction k generalizing t4 cT cA cU with
 |zero=>rfl
 |succ k ih=>
  rw[amr]
  simp only[R0,CX,ih,ay]
def yx:ai:=oY.add 32 [bN] (cC bN se (fun _ r K=>K [.aj bN r [[0],[1]]] none))
theorem aaZ:aJ Tryz.prog yx:=cD YF Tryz.f32 (fun R kk x0 K=>VC x0 (VB R kk kk (Po R kk K))) aaY (ek _ _ _ _) Tryz.func32 (by kernel_rfl) rfl (fun _ _ _ _ _ _ h=>h _ _) (fun _ _ _ _=>by kernel_rfl) fun R kk e x0 K=>by
 simp only[se,VC,CY,ai7 (hF:=e),afs,ay,<-e]
def aoG:Env:=bG.env (fun _=>[]) (fun _=>[]) [2] [aC]
def yy:ai:=yx.add 83 [aC] (cC aC rS (fun _ r K=>K [.aj aC r [[2]]] none))
theorem aa0:aJ Tryz.prog yy:=cD aoG Tryz.f83 (fun R kk x0 K=>UP x0 (fun a0=>K [.aj aC a0 [[2]]] none)) aaZ (ek _ _ _ _) Tryz.func83 (by kernel_rfl) rfl (fun _ _ _ _ _ _ h=>h _ _) (fun _ _ _ _=>by kernel_rfl) fun R kk e x0 K=>by
 simp only[rS,UP,ay]
def aoT:Env:=bG.env (fun _=>[]) (fun _=>[]) [2] [cg]
def oZ:ai:=yy.add 33 [cg] (cC cg sm (fun _ r K=>K [.aj cg r [[3],[2],[0,2]]] none))
theorem aa1:aJ Tryz.prog oZ:=cD aoT Tryz.f33 (fun R kk x0 K=>V3 x0 (fun a0=>K [.aj cg a0 [[3],[2],[0,2]]] none)) aa0 (ek _ _ _ _) Tryz.func33 (by kernel_rfl) rfl (fun _ _ _ _ _ _ h=>h _ _) (fun _ _ _ _=>by kernel_rfl) fun R kk e x0 K=>by
 simp only[sm,V3,ay]
def YM:Env:={bG.env (fun i=>bif Nat.beq i 2 then [1,2,3] else []) (fun i=>bif Nat.beq i 2 then [1,2] else []) [2] [dK] with sh:=[20]}
def V9(a:Int)(b c:bC):Option R:=aw (ev YM (oZ R) kk (sub [1,0,1,0,0] (cd Tryz.f12))) [1,2,3] [1,2] k ⟨uS 1 ([.ptr 2 dK []]::[.ptr 3 dK []]::[tI a]::uS 25 []),nS 2 ((some ⟨dK,b,[]⟩)::(some ⟨dK,c,[]⟩)::nS 26 [])⟩ J
def zgn(a b:bC):State:=⟨uS 1 ([.ptr 2 dK []]::[.ptr 3 dK []]::uS 26 []),nS 2 ((some ⟨dK,a,[]⟩)::(some ⟨dK,b,[]⟩)::nS 26 [])⟩
def Pt:KX R:=(zk 0 (aF YM (oZ R) kk (sub [1,1] (cd Tryz.f12)) (aD YM Tryz.f12.results.toList none K)))
theorem amF(a:Int)(b c:bC):V9 R kk (k+1) J a b c=
 Ij a b c (V9 R kk k J) (fun a0 a1=>J (.exit 0) (zgn a0 a1)):=by kernel_rfl
theorem afQ(a b:bC):Pt R kk K (.exit 0) (zgn a b)=
 Dq a b (fun a0=>K [.aj dK a0 []] none):=by kernel_rfl
theorem ajl{kk:Nat}(hF:kk=ah)(t3:Int)(cT cA:bC):V9 R kk k J t3 cT cA=(GM k t3 cT cA).bind fun e=>J (.exit 0) (zgn e.1 e.2):=by
 induction k generalizing t3 cT cA with
 |zero=>rfl
 |succ k ih=>
  rw[amF]
  simp only[GM,Ij,ih,ay]
def yz:ai:=oZ.add 12 [dK] (cC dK sr (fun _ r K=>K [.aj dK r []] none))
theorem aa2:aJ Tryz.prog yz:=cD YM Tryz.f12 (fun R kk x0 K=>Wa x0 (V9 R kk kk (Pt R kk K))) aa1 ((ek _ _ _ _).sh _) Tryz.func12 (by kernel_rfl) rfl (fun _ _ _ _ _ _ h=>h _ _) (fun _ _ _ _=>by kernel_rfl) fun R kk e x0 K=>by
 simp only[sr,Wa,Dq,ajl (hF:=e),afQ,ay,<-e]
def JZ:Env:=e0 [y9]
def pa:ai:=yz.add 143 [y9] (cC y9 uE (fun _ r K=>K [tI r] none))
theorem aa3:aJ Tryz.prog pa:=cD JZ Tryz.f143 (fun R kk x0 K=>zxj x0 (fun a0=>K [tI a0] none)) aa2 (ek _ _ _ _) Tryz.func143 (by kernel_rfl) rfl (fun _ _ _ _ _ _ h=>h _ _) (fun _ _ _ _=>by kernel_rfl) fun R kk e x0 K=>by
 simp only[uE,zxj,ay]
def Yo:Env:=bG.env (fun i=>bif Nat.beq i 7 then [1,4,5] else []) (fun i=>bif Nat.beq i 7 then [2,3] else []) [] [aC]
def UM(a b:Int)(c:ag):Option R:=aw (ev Yo (pa R) kk (sub [1,1,1,1,0,1,0,0] (cd Tryz.f142))) [1,4,5] [2,3] k ⟨uS 1 ([.ptr 2 aC []]::uS 2 ([tI a]::[tI b]::uS 49 [])),nS 2 ((some ⟨aC,c,[]⟩)::nS 53 [])⟩ J
def zf8(a b:Int):State:=⟨uS 2 ([tI a]::[tI b]::uS 51 []),nS 56 []⟩
def zf9:State:=⟨uS 55 [],nS 56 []⟩
def zzf:KX R:=(zk 0 (aF Yo (pa R) kk (sub [1,1,1,1,1] (cd Tryz.f142)) (aD Yo Tryz.f142.results.toList none K)))
theorem al9(a b:Int)(c:ag):UM R kk (k+1) J a b c=
 RK a b c (fun a0 a1=>J .ret (zf8 a0 a1)) (UM R kk k J) (J (.exit 0) (zf9)):=by kernel_rfl
theorem aeT(a b:Int):zzf R kk K .ret (zf8 a b)=
 UN a b (fun a0 a1=>K [tI a0,tI a1] none):=by kernel_rfl
theorem aeU:zzf R kk K (.exit 0) (zf9)=
 UO (fun a0 a1=>K [tI a0,tI a1] none):=by kernel_rfl
theorem aiF{kk:Nat}(hF:kk=ah)(t4 t5:Int)(cT:ag):UM R kk k J t4 t5 cT=(xA k t4 t5 cT).bind fun e=>(Sum.elim (fun(we:(Int×Int))=>J .ret (zf8 we.1 we.2)) (fun(we:Unit)=>J (.exit 0) (zf9)) e):=by
 induction k generalizing t4 t5 cT with
 |zero=>rfl
 |succ k ih=>
  rw[al9]
  simp only[xA,RK,ih,ay]
def yA:ai:=pa.add 142 [aC] (cC aC rR (fun _ r K=>K [tI r.1,tI r.2] none))
theorem aa4:aJ Tryz.prog yA:=cD Yo Tryz.f142 (fun R kk x0 K=>H9 x0 (fun a0 a1=>K [tI a0,tI a1] none) (fun a0 a1 a2=>UM R kk kk (zzf R kk K) a0 a1 a2)) aa3 (ek _ _ _ _) Tryz.func142 (by kernel_rfl) rfl (fun _ _ _ _ _ _ h=>h _ _) (fun _ _ _ _=>by kernel_rfl) fun R kk e x0 K=>by
 simp only[rR,acK,UN,UO,aiF (hF:=e),aeT,aeU,ay,<-e]
def z203:Env:=e0 [aC]
def pc:ai:=yA.add 84 [aC] (cC aC kU (fun _ r K=>K [tB r] none))
theorem aa5:aJ Tryz.prog pc:=cD z203 Tryz.f84 (fun R kk x0 K=>US x0 (fun a0=>K [tB a0] none)) aa4 (ek _ _ _ _) Tryz.func84 (by kernel_rfl) rfl (fun _ _ _ _ _ _ h=>h _ _) (fun _ _ _ _=>by kernel_rfl) fun R kk e x0 K=>by
 simp only[kU,US,ay]
def Yp:Env:=bG.env (fun i=>bif Nat.beq i 2 then [1,2,5] else []) (fun i=>bif Nat.beq i 2 then [4] else []) [] [aC,(.int .i64)]
def UQ(a b:Int)(c:ag):Option R:=aw (ev Yp (pc R) kk (sub [1,0,1,0,0] (cd Tryz.f49))) [1,2,5] [4] k ⟨uS 1 ([tI a]::[.ptr 3 aC []]::uS 2 ([tI b]::uS 16 [])),nS 3 ((some ⟨aC,c,[]⟩)::nS 19 [])⟩ J
def zfa(a:Int):State:=⟨uS 4 ([tI a]::uS 17 []),nS 23 []⟩
def zfb:State:=⟨uS 22 [],nS 23 []⟩
def zzg:KX R:=(zk 0 (aF Yp (pc R) kk (sub [1,1] (cd Tryz.f49)) (aD Yp Tryz.f49.results.toList none K)))
theorem ama(a b:Int)(c:ag):UQ R kk (k+1) J a b c=
 zzh a b c (fun a0=>J .ret (zfa a0)) (UQ R kk k J) (J (.exit 0) (zfb)):=by kernel_rfl
theorem aeV(a:Int):zzg R kk K .ret (zfa a)=
 zzi a (fun a0=>K [tI a0] none):=by kernel_rfl
theorem aeW:zzg R kk K (.exit 0) (zfb)=
 zzj (fun a0=>K [tI a0] none):=by kernel_rfl
theorem aiG{kk:Nat}(hF:kk=ah)(cB t5:Int)(cA:ag):UQ R kk k J cB t5 cA=(RL k cB t5 cA).bind fun e=>(Sum.elim (fun(we:Int)=>J .ret (zfa we)) (fun(we:Unit)=>J (.exit 0) (zfb)) e):=by
 induction k generalizing cB t5 cA with
 |zero=>rfl
 |succ k ih=>
  rw[ama]
  simp only[RL,zzh,ih,ay]
def pd:ai:=pc.add 49 [aC,(.int .i64)] (cP aC (.int .i64) iN (fun _ r K=>K [tI r] none))
theorem aa6:aJ Tryz.prog pd:=cR Yp Tryz.f49 (fun R kk x0 x1 K=>UR x0 x1 (UQ R kk kk (zzg R kk K))) aa5 (ek _ _ _ _) Tryz.func49 (by kernel_rfl) rfl (fun _ _ _ _ _ _ h=>h _ _) (fun _ _ _ _ _=>by kernel_rfl) fun R kk e x0 x1 K=>by
 simp only[iN,UR,zzi,zzj,aiG (hF:=e),aeV,aeW,ay,<-e]
def oH:Env:=bG.env (fun i=>bif Nat.beq i 2 then [0,1,5] else []) (fun i=>bif Nat.beq i 2 then [4] else []) [] [(.sl 3 (.int .i64)),(.int .i64)]
def zx2(a:(List Int))(b c:Int):Option R:=aw (ev oH (pd R) kk (sub [1,0,1,0,0] (cd Tryz.f85))) [0,1,5] [4] k ⟨[.aj (.sl 3 (.int .i64)) a []]::[tI b]::uS 3 ([tI c]::uS 12 []),nS 19 []⟩ J
def zsp(a:Bool):State:=⟨uS 4 ([tB a]::uS 13 []),nS 19 []⟩
def zsq:State:=⟨uS 18 [],nS 19 []⟩
def FV:KX R:=(zk 0 (aF oH (pd R) kk (sub [1,1] (cd Tryz.f85)) (aD oH Tryz.f85.results.toList none K)))
theorem apO(a:(List Int))(b c:Int):zx2 R kk (k+1) J a b c=
 S3 a b c (fun a0=>J .ret (zsp a0)) (zx2 R kk k J) (J (.exit 0) (zsq)):=by kernel_rfl
theorem ako(a:Bool):FV R kk K .ret (zsp a)=
 FW a (fun a0=>K [tB a0] none):=by kernel_rfl
theorem akp:FV R kk K (.exit 0) (zsq)=
 FX (fun a0=>K [tB a0] none):=by kernel_rfl
theorem anB{kk:Nat}(hF:kk=ah)(fF:(List Int))(lu t5:Int):zx2 R kk k J fF lu t5=(Hn k fF lu t5).bind fun e=>(Sum.elim (fun(we:Bool)=>J .ret (zsp we)) (fun(we:Unit)=>J (.exit 0) (zsq)) e):=by
 induction k generalizing fF lu t5 with
 |zero=>rfl
 |succ k ih=>
  rw[apO]
  simp only[Hn,S3,ih,ay]
def pf:ai:=pd.add 85 [(.sl 3 (.int .i64)),(.int .i64)] (cP (.sl 3 (.int .i64)) (.int .i64) uC (fun _ r K=>K [tB r] none))
theorem aa7:aJ Tryz.prog pf:=cR oH Tryz.f85 (fun R kk x0 x1 K=>zx3 x0 x1 (zx2 R kk kk (FV R kk K))) aa6 (ek _ _ _ _) Tryz.func85 (by kernel_rfl) rfl (fun _ _ _ _ _ _ h=>h _ _) (fun _ _ _ _ _=>by kernel_rfl) fun R kk e x0 x1 K=>by
 simp only[uC,zx3,FW,FX,anB (hF:=e),ako,akp,ay,<-e]
def YK:Env:=bG.env (fun i=>bif Nat.beq i 2 then [0,1,2,7] else []) (fun i=>bif Nat.beq i 2 then [6] else []) [] [(.sl 96 (.pair (.int .i64) (.pair .str .unit))),(.int .i64),(.int .i64)]
def V6(a:ak)(b c d:Int):Option R:=aw (ev YK (pf R) kk (sub [1,0,1,0,0] (cd Tryz.f86))) [0,1,2,7] [6] k ⟨[.aj (.sl 96 (.pair (.int .i64) (.pair .str .unit))) a []]::[tI b]::[tI c]::uS 4 ([tI d]::uS 13 []),nS 22 []⟩ J
def zgj(a:Int):State:=⟨uS 6 ([tI a]::uS 14 []),nS 22 []⟩
def zgk:State:=⟨uS 21 [],nS 22 []⟩
def Di:KX R:=(zk 0 (aF YK (pf R) kk (sub [1,1] (cd Tryz.f86)) (aD YK Tryz.f86.results.toList none K)))
theorem amD(a:ak)(b c d:Int):V6 R kk (k+1) J a b c d=
 GK a b c d (fun a0=>J .ret (zgj a0)) (V6 R kk k J) (J (.exit 0) (zgk)):=by kernel_rfl
theorem afM(a:Int):Di R kk K .ret (zgj a)=
 Dj a (fun a0=>K [tI a0] none):=by kernel_rfl
theorem afN:Di R kk K (.exit 0) (zgk)=
 Dk (fun a0=>K [tI a0] none):=by kernel_rfl
theorem ajj{kk:Nat}(hF:kk=ah)(fF:ak)(lu e_2 t7:Int):V6 R kk k J fF lu e_2 t7=(vf k fF lu e_2 t7).bind fun e=>(Sum.elim (fun(we:Int)=>J .ret (zgj we)) (fun(we:Unit)=>J (.exit 0) (zgk)) e):=by
 induction k generalizing fF lu e_2 t7 with
 |zero=>rfl
 |succ k ih=>
  rw[amD]
  simp only[vf,GK,ih,ay]
def yB:ai:=pf.add 86 [(.sl 96 (.pair (.int .i64) (.pair .str .unit))),(.int .i64),(.int .i64)] (gu (.sl 96 (.pair (.int .i64) (.pair .str .unit))) (.int .i64) (.int .i64) ka (fun _ r K=>K [tI r] none))
theorem aa8:aJ Tryz.prog yB:=gx YK Tryz.f86 (fun R kk x0 x1 x2 K=>Se x0 x1 x2 (V6 R kk kk (Di R kk K))) aa7 (ek _ _ _ _) Tryz.func86 (by kernel_rfl) rfl (fun _ _ _ _ _ _ h=>h _ _) (fun _ _ _ _ _ _=>by kernel_rfl) fun R kk e x0 x1 x2 K=>by
 simp only[ka,Se,Dj,Dk,ajj (hF:=e),afM,afN,ay,<-e]
def JM:Env:=e0 [(.int .i64),(.int .u8)]
def pg:ai:=yB.add 193 [(.int .i64),(.int .u8)] (cP (.int .i64) (.int .u8) ye (fun _ r K=>K [tB r] none))
theorem aa9:aJ Tryz.prog pg:=cR JM Tryz.f193 (fun R kk x0 x1 K=>Z8 x0 x1 (fun a0=>K [tB a0] none)) aa8 (ek _ _ _ _) Tryz.func193 (by kernel_rfl) rfl (fun _ _ _ _ _ _ h=>h _ _) (fun _ _ _ _ _=>by kernel_rfl) fun R kk e x0 x1 K=>by
 simp only[ye,Z8,ay]
def oF:Env:=bG.env (fun i=>bif Nat.beq i 2 then [0,1,5] else []) (fun i=>bif Nat.beq i 2 then [4] else []) [] [(.int .i64),.str]
def Z6(a:Int)(b:ByteArray)(c:Int):Option R:=aw (ev oF (pg R) kk (sub [1,0,1,0,0] (cd Tryz.f144))) [0,1,5] [4] k ⟨[tI a]::[tS b]::uS 3 ([tI c]::uS 13 []),nS 20 []⟩ J
def zsl(a:Int):State:=⟨uS 4 ([tI a]::uS 14 []),nS 20 []⟩
def zsm:State:=⟨uS 19 [],nS 20 []⟩
def FN:KX R:=(zk 0 (aF oF (pg R) kk (sub [1,1] (cd Tryz.f144)) (aD oF Tryz.f144.results.toList none K)))
theorem z229(a:Int)(b:ByteArray)(c:Int):Z6 R kk (k+1) J a b c=
 S1 a b c (fun a0=>J .ret (zsl a0)) (Z6 R kk k J) (J (.exit 0) (zsm)):=by kernel_rfl
theorem akk(a:Int):FN R kk K .ret (zsl a)=
 FO a (fun a0=>K [tI a0] none):=by kernel_rfl
theorem akl:FN R kk K (.exit 0) (zsm)=
 FP (fun a0=>K [tI a0] none):=by kernel_rfl
theorem anz{kk:Nat}(hF:kk=ah)(lh:Int)(kj:ByteArray)(t5:Int):Z6 R kk k J lh kj t5=(Hm k lh kj t5).bind fun e=>(Sum.elim (fun(we:Int)=>J .ret (zsl we)) (fun(we:Unit)=>J (.exit 0) (zsm)) e):=by
 induction k generalizing lh kj t5 with
 |zero=>rfl
 |succ k ih=>
  rw[z229]
  simp only[Hm,S1,ih,ay]
def yC:ai:=pg.add 144 [(.int .i64),.str] (cP (.int .i64) .str JL (fun _ r K=>K [tI r] none))
theorem abb:aJ Tryz.prog yC:=cR oF Tryz.f144 (fun R kk x0 x1 K=>Z7 x0 x1 (Z6 R kk kk (FN R kk K))) aa9 (ek _ _ _ _) Tryz.func144 (by kernel_rfl) rfl (fun _ _ _ _ _ _ h=>h _ _) (fun _ _ _ _ _=>by kernel_rfl) fun R kk e x0 x1 K=>by
 simp only[JL,Z7,FO,FP,anz (hF:=e),akk,akl,ay,<-e]
def JV:Env:=e0 [(.int .u8)]
def yD:ai:=yC.add 215 [(.int .u8)] (cC (.int .u8) yi (fun _ r K=>K [tI r] none))
theorem abd:aJ Tryz.prog yD:=cD JV Tryz.f215 (fun R kk x0 K=>FZ x0 (fun a0=>K [tI a0] none)) abb (ek _ _ _ _) Tryz.func215 (by kernel_rfl) rfl (fun _ _ _ _ _ _ h=>h _ _) (fun _ _ _ _=>by kernel_rfl) fun R kk e x0 K=>by
 simp only[yi,FZ,ay]
def JW:Env:=e0 [.str,(.int .i64)]
def yE:ai:=yD.add 194 [.str,(.int .i64)] (cP .str (.int .i64) yj (fun _ r K=>K [tI r.1,tI r.2.1,tI r.2.2] none))
theorem abe:aJ Tryz.prog yE:=cR JW Tryz.f194 (fun R kk x0 x1 K=>Ta x0 x1 (fun a0 a1 a2=>K [tI a0,tI a1,tI a2] none)) abd (ek _ _ _ _) Tryz.func194 (by kernel_rfl) rfl (fun _ _ _ _ _ _ h=>h _ _) (fun _ _ _ _ _=>by kernel_rfl) fun R kk e x0 x1 K=>by
 simp only[yj,Ta,ay]
def JX:Env:=e0 [.str,(.int .i64)]
def pj:ai:=yE.add 195 [.str,(.int .i64)] (cP .str (.int .i64) yk (fun _ r K=>K [tI r.1,tI r.2.1,tI r.2.2] none))
theorem abf:aJ Tryz.prog pj:=cR JX Tryz.f195 (fun R kk x0 x1 K=>Tb x0 x1 (fun a0 a1 a2=>K [tI a0,tI a1,tI a2] none)) abe (ek _ _ _ _) Tryz.func195 (by kernel_rfl) rfl (fun _ _ _ _ _ _ h=>h _ _) (fun _ _ _ _ _=>by kernel_rfl) fun R kk e x0 x1 K=>by
 simp only[yk,Tb,ay]
def oQ:Env:=bG.env (fun i=>bif Nat.beq i 2 then [0,1,2,7] else []) (fun i=>bif Nat.beq i 2 then [6] else []) [] [(.sl 245 (.pair (.int .i64) (.pair .str .unit))),(.int .i64),(.int .i64)]
def zxh(a:ak)(b c d:Int):Option R:=aw (ev oQ (pj R) kk (sub [1,0,1,0,0] (cd Tryz.f196))) [0,1,2,7] [6] k ⟨[.aj (.sl 245 (.pair (.int .i64) (.pair .str .unit))) a []]::[tI b]::[tI c]::uS 4 ([tI d]::uS 12 []),nS 21 []⟩ J
def zsy(a:Bool):State:=⟨uS 6 ([tB a]::uS 13 []),nS 21 []⟩
def zsz:State:=⟨uS 20 [],nS 21 []⟩
def F3:KX R:=(zk 0 (aF oQ (pj R) kk (sub [1,1] (cd Tryz.f196)) (aD oQ Tryz.f196.results.toList none K)))
theorem apX(a:ak)(b c d:Int):zxh R kk (k+1) J a b c d=
 Te a b c d (fun a0=>J .ret (zsy a0)) (zxh R kk k J) (J (.exit 0) (zsz)):=by kernel_rfl
theorem akx(a:Bool):F3 R kk K .ret (zsy a)=
 F4 a (fun a0=>K [tB a0] none):=by kernel_rfl
theorem aky:F3 R kk K (.exit 0) (zsz)=
 F5 (fun a0=>K [tB a0] none):=by kernel_rfl
theorem anK{kk:Nat}(hF:kk=ah)(fF:ak)(lu uc t7:Int):zxh R kk k J fF lu uc t7=(Hr k fF lu uc t7).bind fun e=>(Sum.elim (fun(we:Bool)=>J .ret (zsy we)) (fun(we:Unit)=>J (.exit 0) (zsz)) e):=by
 induction k generalizing fF lu uc t7 with
 |zero=>rfl
 |succ k ih=>
  rw[apX]
  simp only[Hr,Te,ih,ay]
def pk:ai:=pj.add 196 [(.sl 245 (.pair (.int .i64) (.pair .str .unit))),(.int .i64),(.int .i64)] (gu (.sl 245 (.pair (.int .i64) (.pair .str .unit))) (.int .i64) (.int .i64) JY (fun _ r K=>K [tB r] none))
theorem abg:aJ Tryz.prog pk:=gx oQ Tryz.f196 (fun R kk x0 x1 x2 K=>zxi x0 x1 x2 (zxh R kk kk (F3 R kk K))) abf (ek _ _ _ _) Tryz.func196 (by kernel_rfl) rfl (fun _ _ _ _ _ _ h=>h _ _) (fun _ _ _ _ _ _=>by kernel_rfl) fun R kk e x0 x1 x2 K=>by
 simp only[JY,zxi,F4,F5,anK (hF:=e),akx,aky,ay,<-e]
def oP:Env:=bG.env (fun i=>bif Nat.beq i 3 then [0,5,6] else []) (fun i=>bif Nat.beq i 3 then [2,3,4,5] else []) [] [.str]
def zxg(a:ByteArray)(b:ak)(c:Int):Option R:=aw (ev oP (pk R) kk (sub [1,1,1,0,0,0] (cd Tryz.f145))) [0,5,6] [2,3,4,5] k ⟨[tS a]::uS 4 ([.aj (.sl 245 (.pair (.int .i64) (.pair .str .unit))) b [[]]]::[tI c]::uS 61 []),nS 69 []⟩ J
def zsw(a:ak)(b c:Int)(d:ak):State:=⟨uS 2 ([.aj (.sl 245 (.pair (.int .i64) (.pair .str .unit))) a [[]]]::[tI b]::[tI c]::[.aj (.sl 245 (.pair (.int .i64) (.pair .str .unit))) d [[]]]::uS 62 []),nS 69 []⟩
def zsx(a:ak):State:=⟨uS 5 ([.aj (.sl 245 (.pair (.int .i64) (.pair .str .unit))) a [[]]]::uS 62 []),nS 69 []⟩
def F0:KX R:=(zk 0 (aF oP (pk R) kk (sub [1,1,1,1] (cd Tryz.f145)) (aD oP Tryz.f145.results.toList none K)))
theorem apW(a:ByteArray)(b:ak)(c:Int):zxg R kk (k+1) J a b c=
 Td a b c (fun a0 a1 a2 a3=>J .ret (zsw a0 a1 a2 a3)) (zxg R kk k J) (fun a0=>J (.exit 0) (zsx a0)):=by kernel_rfl
theorem akv(a:ak)(b c:Int)(d:ak):F0 R kk K .ret (zsw a b c d)=
 F1 a b c d (fun a0 a1 a2=>K [.aj (.sl 245 (.pair (.int .i64) (.pair .str .unit))) a0 [[]],tI a1,tI a2] none):=by kernel_rfl
theorem akw(a:ak):F0 R kk K (.exit 0) (zsx a)=
 F2 a (fun a0 a1 a2=>K [.aj (.sl 245 (.pair (.int .i64) (.pair .str .unit))) a0 [],tI a1,tI a2] none):=by kernel_rfl
theorem anJ{kk:Nat}(hF:kk=ah)(jv:ByteArray)(t5:ak)(t6:Int):zxg R kk k J jv t5 t6=(A9 k jv t5 t6).bind fun e=>(Sum.elim (fun(we:qB)=>J .ret (zsw we.1 we.2.1 we.2.2.1 we.2.2.2)) (fun(we:ak)=>J (.exit 0) (zsx we)) e):=by
 induction k generalizing jv t5 t6 with
 |zero=>rfl
 |succ k ih=>
  rw[apW]
  simp only[A9,Td,ih,ay]
def yF:ai:=pk.add 145 [.str] (cC .str yl (fun _ r K=>(Sum.elim (fun(wr:iR)=>K [.aj (.sl 245 (.pair (.int .i64) (.pair .str .unit))) wr.1 [[]],tI wr.2.1,tI wr.2.2] none) (fun(wr:iR)=>K [.aj (.sl 245 (.pair (.int .i64) (.pair .str .unit))) wr.1 [],tI wr.2.1,tI wr.2.2] none) r)))
theorem abh:aJ Tryz.prog yF:=cD oP Tryz.f145 (fun R kk x0 K=>Tc x0 (zxg R kk kk (F0 R kk K))) abg (ek _ _ _ _) Tryz.func145 (by kernel_rfl) rfl (fun _ _ _ _ _ _ h=>Qg (fun _=>h _ _) (fun _=>h _ _)) (fun _ _ _ _=>by kernel_rfl) fun R kk e x0 K=>by
 simp only[yl,Tc,F1,F2,anJ (hF:=e),akv,akw,ay,<-e]
def J0:Env:=e0 [y9,.str]
def kx:ai:=yF.add 87 [y9,.str] (cP y9 .str iQ (fun _ r K=>K [tI r] none))
theorem abj:aJ Tryz.prog kx:=cR J0 Tryz.f87 (fun R kk x0 x1 K=>IU x0 x1 (fun a0=>K [tI a0] none)) abh (ek _ _ _ _) Tryz.func87 (by kernel_rfl) rfl (fun _ _ _ _ _ _ h=>h _ _) (fun _ _ _ _ _=>by kernel_rfl) fun R kk e x0 x1 K=>by
 simp only[iQ,IU,ay]
def Hb:Env:=bG.env (fun i=>bif Nat.beq i 7 then [1,5,6] else bif Nat.beq i 16 then [1,5,7] else []) (fun i=>bif Nat.beq i 7 then [1,2,3,4,5] else bif Nat.beq i 16 then [1,2,3,4] else []) [] [cg]
def VX(a b:Int)(c:au):Option R:=aw (ev Hb (kx R) kk (sub [1,1,1,1,0,1,0,0] (cd Tryz.f34))) [1,5,6] [1,2,3,4,5] k ⟨uS 1 ([.ptr 2 cg []]::uS 3 ([tI a]::[tI b]::uS 109 [])),nS 2 ((some ⟨cg,c,[]⟩)::nS 114 [])⟩ J
def zgd(a b c d:Int)(e:au):State:=⟨uS 1 ([.ptr 2 cg []]::[tI a]::[tI b]::[tI c]::[tI d]::uS 110 []),nS 2 ((some ⟨cg,e,[]⟩)::nS 114 [])⟩
def zge(a:Int)(b:au):State:=⟨uS 1 ([.ptr 2 cg []]::uS 3 ([tI a]::uS 110 [])),nS 2 ((some ⟨cg,b,[]⟩)::nS 114 [])⟩
def Da:KX R:=(zk 0 (aF Hb (kx R) kk (sub [1,1,1,1,1] (cd Tryz.f34)) (aD Hb Tryz.f34.results.toList none K)))
def VY(a b:Int)(c:au):Option R:=aw (ev Hb (kx R) kk (sub [1,1,1,1,1,0,1,0,0] (cd Tryz.f34))) [1,5,7] [1,2,3,4] k ⟨uS 1 ([.ptr 2 cg []]::uS 3 ([tI a]::uS 1 ([tI b]::uS 108 []))),nS 2 ((some ⟨cg,c,[]⟩)::nS 114 [])⟩ J
def zgf(a b c:Int)(d:au):State:=⟨uS 1 ([.ptr 2 cg []]::[tI a]::[tI b]::[tI c]::uS 111 []),nS 2 ((some ⟨cg,d,[]⟩)::nS 114 [])⟩
def zgg(a:au):State:=⟨uS 1 ([.ptr 2 cg []]::uS 114 []),nS 2 ((some ⟨cg,a,[]⟩)::nS 114 [])⟩
def Db:KX R:=(zk 2 (aF Hb (kx R) kk (sub [1,1,1,1,1,1] (cd Tryz.f34)) (aD Hb Tryz.f34.results.toList none K)))
theorem amA(a b:Int)(c:au):VX R kk (k+1) J a b c=
 Sb a b c (fun a0 a1 a2 a3 a4=>J .ret (zgd a0 a1 a2 a3 a4)) (VX R kk k J) (fun a0 a1=>J (.exit 0) (zge a0 a1)):=by kernel_rfl
theorem afG(a b c d:Int)(e:au):Da R kk K .ret (zgd a b c d e)=
 Dc a b c d e (fun a0 a1 a2=>K [tI a0,tI a1,tI a2] none):=by kernel_rfl
theorem afH(a:Int)(b:au):Da R kk K (.exit 0) (zge a b)=
 V0 a b (VY R kk kk (Db R kk K)):=by kernel_rfl
theorem amB(a b:Int)(c:au):VY R kk (k+1) J a b c=
 Sc a b c (fun a0 a1 a2 a3=>J .ret (zgf a0 a1 a2 a3)) (VY R kk k J) (fun a0=>J (.exit 2) (zgg a0)):=by kernel_rfl
theorem afI(a b c:Int)(d:au):Db R kk K .ret (zgf a b c d)=
 Dd a b c d (fun a0 a1 a2=>K [tI a0,tI a1,tI a2] none):=by kernel_rfl
theorem afJ(a:au):Db R kk K (.exit 2) (zgg a)=
 V1 a (fun a0 a1 a2=>K [tI a0,tI a1,tI a2] none):=by kernel_rfl
theorem ajg{kk:Nat}(hF:kk=ah)(t5 t6:Int)(cT:au):VX R kk k J t5 t6 cT=(GI k t5 t6 cT).bind fun e=>(Sum.elim (fun(we:(Int×Int×Int×Int×au))=>J .ret (zgd we.1 we.2.1 we.2.2.1 we.2.2.2.1 we.2.2.2.2)) (fun(we:(Int×au))=>J (.exit 0) (zge we.1 we.2)) e):=by
 induction k generalizing t5 t6 cT with
 |zero=>rfl
 |succ k ih=>
  rw[amA]
  simp only[GI,Sb,ih,ay]
theorem ajh{kk:Nat}(hF:kk=ah)(t5 t7:Int)(cT:au):VY R kk k J t5 t7 cT=(GJ k t5 t7 cT).bind fun e=>(Sum.elim (fun(we:(Int×Int×Int×au))=>J .ret (zgf we.1 we.2.1 we.2.2.1 we.2.2.2)) (fun(we:au)=>J (.exit 2) (zgg we)) e):=by
 induction k generalizing t5 t7 cT with
 |zero=>rfl
 |succ k ih=>
  rw[amB]
  simp only[GJ,Sc,ih,ay]
def yG:ai:=kx.add 34 [cg] (cC cg sj (fun _ r K=>K [tI r.1,tI r.2.1,tI r.2.2] none))
theorem abk:aJ Tryz.prog yG:=cD Hb Tryz.f34 (fun R kk x0 K=>VZ x0 (fun a0 a1 a2=>K [tI a0,tI a1,tI a2] none) (VX R kk kk (Da R kk K))) abj (ek _ _ _ _) Tryz.func34 (by kernel_rfl) rfl (fun _ _ _ _ _ _ h=>h _ _) (fun _ _ _ _=>by kernel_rfl) fun R kk e x0 K=>by
 simp only[sj,VZ,Dc,V0,Dd,V1,ajg (hF:=e),ajh (hF:=e),afG,afH,afI,afJ,ay,<-e]
def JI:Env:=e0 [(.int .u8)]
def pn:ai:=yG.add 184 [(.int .u8)] (cC (.int .u8) JH (fun _ r K=>K [tB r] none))
theorem abl:aJ Tryz.prog pn:=cD JI Tryz.f184 (fun R kk x0 K=>ZG x0 (fun a0=>K [tB a0] none)) abk (ek _ _ _ _) Tryz.func184 (by kernel_rfl) rfl (fun _ _ _ _ _ _ h=>h _ _) (fun _ _ _ _=>by kernel_rfl) fun R kk e x0 K=>by
 simp only[JH,ZG,ay]
def oo:Env:=bG.env (fun i=>bif Nat.beq i 2 then [0,3] else []) (fun i=>bif Nat.beq i 2 then [2] else []) [] [.str]
def ZD(a:ByteArray)(b:Int):Option R:=aw (ev oo (pn R) kk (sub [1,0,1,0,0] (cd Tryz.f124))) [0,3] [2] k ⟨[tS a]::uS 2 ([tI b]::uS 11 []),nS 16 []⟩ J
def zs5(a:Bool):State:=⟨uS 2 ([tB a]::uS 12 []),nS 16 []⟩
def zs6:State:=⟨uS 15 [],nS 16 []⟩
def z196:KX R:=(zk 0 (aF oo (pn R) kk (sub [1,1] (cd Tryz.f124)) (aD oo Tryz.f124.results.toList none K)))
theorem apG(a:ByteArray)(b:Int):ZD R kk (k+1) J a b=
 ZF a b (fun a0=>J .ret (zs5 a0)) (ZD R kk k J) (J (.exit 0) (zs6)):=by kernel_rfl
theorem aj4(a:Bool):z196 R kk K .ret (zs5 a)=
 Fx a (fun a0=>K [tB a0] none):=by kernel_rfl
theorem aj5:z196 R kk K (.exit 0) (zs6)=
 z198 (fun a0=>K [tB a0] none):=by kernel_rfl
theorem ann{kk:Nat}(hF:kk=ah)(dw:ByteArray)(t3:Int):ZD R kk k J dw t3=(IG k dw t3).bind fun e=>(Sum.elim (fun(we:Bool)=>J .ret (zs5 we)) (fun(we:Unit)=>J (.exit 0) (zs6)) e):=by
 induction k generalizing dw t3 with
 |zero=>rfl
 |succ k ih=>
  rw[apG]
  simp only[IG,ZF,ih,ay]
def yH:ai:=pn.add 124 [.str] (cC .str yb (fun _ r K=>K [tB r] none))
theorem abm:aJ Tryz.prog yH:=cD oo Tryz.f124 (fun R kk x0 K=>ZE x0 (ZD R kk kk (z196 R kk K))) abl (ek _ _ _ _) Tryz.func124 (by kernel_rfl) rfl (fun _ _ _ _ _ _ h=>h _ _) (fun _ _ _ _=>by kernel_rfl) fun R kk e x0 K=>by
 simp only[yb,ZE,Fx,z198,ann (hF:=e),aj4,aj5,ay,<-e]
def z208:Env:=e0 [.str]
def yI:ai:=yH.add 112 [.str] (cC .str jj (fun _ r K=>K [tB r] none))
theorem abn:aJ Tryz.prog yI:=cD z208 Tryz.f112 (fun R kk x0 K=>UY x0 (fun a0=>K [tB a0] none)) abm (ek _ _ _ _) Tryz.func112 (by kernel_rfl) rfl (fun _ _ _ _ _ _ h=>h _ _) (fun _ _ _ _=>by kernel_rfl) fun R kk e x0 K=>by
 simp only[jj,UY,ay]
def aoR:Env:=e0 [.str,(.int .i64)]
def po:ai:=yI.add 88 [.str,(.int .i64)] (cP .str (.int .i64) ql (fun _ r K=>K [tB r] none))
theorem abo:aJ Tryz.prog po:=cR aoR Tryz.f88 (fun R kk x0 x1 K=>VT x0 x1 (fun a0=>K [tB a0] none)) abn (ek _ _ _ _) Tryz.func88 (by kernel_rfl) rfl (fun _ _ _ _ _ _ h=>h _ _) (fun _ _ _ _ _=>by kernel_rfl) fun R kk e x0 x1 K=>by
 simp only[ql,VT,ay]
def ot:Env:=bG.env (fun i=>bif Nat.beq i 5 then [0,4,5] else []) (fun i=>bif Nat.beq i 5 then [4] else []) [] [.str]
def ZH(a:ByteArray)(b c:Int):Option R:=aw (ev ot (po R) kk (sub [1,1,1,0,1,0,0] (cd Tryz.f50))) [0,4,5] [4] k ⟨[tS a]::uS 3 ([tI b]::[tI c]::uS 28 []),nS 35 []⟩ J
def zs7(a:Int):State:=⟨uS 4 ([tI a]::uS 29 []),nS 35 []⟩
def Qr:KX R:=(zk 0 (aF ot (po R) kk (sub [1,1,1,1] (cd Tryz.f50)) (aD ot Tryz.f50.results.toList none K)))
theorem apH(a:ByteArray)(b c:Int):ZH R kk (k+1) J a b c=
 ZJ a b c (ZH R kk k J) (fun a0=>J (.exit 0) (zs7 a0)):=by kernel_rfl
theorem aj6(a:Int):Qr R kk K (.exit 0) (zs7 a)=
 Fy a (fun a0 a1=>K [tI a0,tB a1] none):=by kernel_rfl
theorem ano{kk:Nat}(hF:kk=ah)(dw:ByteArray)(t4 t5:Int):ZH R kk k J dw t4 t5=(II k dw t4 t5).bind fun e=>J (.exit 0) (zs7 e):=by
 induction k generalizing dw t4 t5 with
 |zero=>rfl
 |succ k ih=>
  rw[apH]
  simp only[II,ZJ,ih,ay]
def yJ:ai:=po.add 50 [.str] (cC .str oq (fun _ r K=>K [tI r.1,tB r.2] none))
theorem abp:aJ Tryz.prog yJ:=cD ot Tryz.f50 (fun R kk x0 K=>ZI x0 (fun a0 a1=>K [tI a0,tB a1] none) (ZH R kk kk (Qr R kk K))) abo (ek _ _ _ _) Tryz.func50 (by kernel_rfl) rfl (fun _ _ _ _ _ _ h=>h _ _) (fun _ _ _ _=>by kernel_rfl) fun R kk e x0 K=>by
 simp only[oq,ZI,Fy,ano (hF:=e),aj6,ay,<-e]
def z206:Env:=e0 [.str]
def pq:ai:=yJ.add 19 [.str] (cC .str m6 (fun _ r K=>K [tB r] none))
theorem abq:aJ Tryz.prog pq:=cD z206 Tryz.f19 (fun R kk x0 K=>UW x0 (fun a0=>K [tB a0] none)) abp (ek _ _ _ _) Tryz.func19 (by kernel_rfl) rfl (fun _ _ _ _ _ _ h=>h _ _) (fun _ _ _ _=>by kernel_rfl) fun R kk e x0 K=>by
 simp only[m6,UW,ay]
def YC:Env:=bG.env (fun i=>bif Nat.beq i 2 then [0,1,2,7] else []) (fun i=>bif Nat.beq i 2 then [6] else []) [] [(.sl 116 (.pair .str (.pair .str .unit))),(.int .i64),.str]
def Vl(a:aK)(b:Int)(c:ByteArray)(d:Int):Option R:=aw (ev YC (pq R) kk (sub [1,0,1,0,0] (cd Tryz.f146))) [0,1,2,7] [6] k ⟨[.aj (.sl 116 (.pair .str (.pair .str .unit))) a []]::[tI b]::[tS c]::uS 4 ([tI d]::uS 13 []),nS 22 []⟩ J
def zfq(a:Int):State:=⟨uS 6 ([tI a]::uS 14 []),nS 22 []⟩
def zfr:State:=⟨uS 21 [],nS 22 []⟩
def CA:KX R:=(zk 0 (aF YC (pq R) kk (sub [1,1] (cd Tryz.f146)) (aD YC Tryz.f146.results.toList none K)))
theorem aml(a:aK)(b:Int)(c:ByteArray)(d:Int):Vl R kk (k+1) J a b c d=
 RT a b c d (fun a0=>J .ret (zfq a0)) (Vl R kk k J) (J (.exit 0) (zfr)):=by kernel_rfl
theorem afb(a:Int):CA R kk K .ret (zfq a)=
 CB a (fun a0=>K [tI a0] none):=by kernel_rfl
theorem afc:CA R kk K (.exit 0) (zfr)=
 CC (fun a0=>K [tI a0] none):=by kernel_rfl
theorem aiR{kk:Nat}(hF:kk=ah)(fF:aK)(lu:Int)(nB:ByteArray)(t7:Int):Vl R kk k J fF lu nB t7=(Gy k fF lu nB t7).bind fun e=>(Sum.elim (fun(we:Int)=>J .ret (zfq we)) (fun(we:Unit)=>J (.exit 0) (zfr)) e):=by
 induction k generalizing fF lu nB t7 with
 |zero=>rfl
 |succ k ih=>
  rw[aml]
  simp only[Gy,RT,ih,ay]
def yK:ai:=pq.add 146 [(.sl 116 (.pair .str (.pair .str .unit))),(.int .i64),.str] (gu (.sl 116 (.pair .str (.pair .str .unit))) (.int .i64) .str qi (fun _ r K=>K [tI r] none))
theorem abr:aJ Tryz.prog yK:=gx YC Tryz.f146 (fun R kk x0 x1 x2 K=>Vm x0 x1 x2 (Vl R kk kk (CA R kk K))) abq (ek _ _ _ _) Tryz.func146 (by kernel_rfl) rfl (fun _ _ _ _ _ _ h=>h _ _) (fun _ _ _ _ _ _=>by kernel_rfl) fun R kk e x0 x1 x2 K=>by
 simp only[qi,Vm,CB,CC,aiR (hF:=e),afb,afc,ay,<-e]
def aoL:Env:=e0 [(.sl 116 (.pair .str (.pair .str .unit))),.str]
def pr:ai:=yK.add 89 [(.sl 116 (.pair .str (.pair .str .unit))),.str] (cP (.sl 116 (.pair .str (.pair .str .unit))) .str m8 (fun _ r K=>K [tS r.1,tB r.2] none))
theorem abt:aJ Tryz.prog pr:=cR aoL Tryz.f89 (fun R kk x0 x1 K=>Vf x0 x1 (fun a0 a1=>K [tS a0,tB a1] none)) abr (ek _ _ _ _) Tryz.func89 (by kernel_rfl) rfl (fun _ _ _ _ _ _ h=>h _ _) (fun _ _ _ _ _=>by kernel_rfl) fun R kk e x0 x1 K=>by
 simp only[m8,Vf,ay]
def oG:Env:=bG.env (fun i=>bif Nat.beq i 4 then [0,1,5] else []) (fun i=>bif Nat.beq i 4 then [4] else []) [] [(.int .i64),(.int .i64)]
def Z9(a b c:Int):Option R:=aw (ev oG (pr R) kk (sub [1,1,0,1,0,0] (cd Tryz.f197))) [0,1,5] [4] k ⟨[tI a]::[tI b]::uS 3 ([tI c]::uS 29 []),nS 36 []⟩ J
def zsn(a:Bool):State:=⟨uS 4 ([tB a]::uS 30 []),nS 36 []⟩
def zso:State:=⟨uS 35 [],nS 36 []⟩
def FQ:KX R:=(zk 0 (aF oG (pr R) kk (sub [1,1,1] (cd Tryz.f197)) (aD oG Tryz.f197.results.toList none K)))
theorem apN(a b c:Int):Z9 R kk (k+1) J a b c=
 FR a b c (fun a0=>J .ret (zsn a0)) (Z9 R kk k J) (J (.exit 0) (zso)):=by kernel_rfl
theorem akm(a:Bool):FQ R kk K .ret (zsn a)=
 FT a (fun a0=>K [tB a0] none):=by kernel_rfl
theorem akn:FQ R kk K (.exit 0) (zso)=
 FU (fun a0=>K [tB a0] none):=by kernel_rfl
theorem anA{kk:Nat}(hF:kk=ah)(nv s7 t5:Int):Z9 R kk k J nv s7 t5=(zx0 k nv s7 t5).bind fun e=>(Sum.elim (fun(we:Bool)=>J .ret (zsn we)) (fun(we:Unit)=>J (.exit 0) (zso)) e):=by
 induction k generalizing nv s7 t5 with
 |zero=>rfl
 |succ k ih=>
  rw[apN]
  simp only[zx0,FR,ih,ay]
def yL:ai:=pr.add 197 [(.int .i64),(.int .i64)] (cP (.int .i64) (.int .i64) Hz (fun _ r K=>K [tB r] none))
theorem abu:aJ Tryz.prog yL:=cR oG Tryz.f197 (fun R kk x0 x1 K=>zx1 x0 x1 (fun a0=>K [tB a0] none) (Z9 R kk kk (FQ R kk K))) abt (ek _ _ _ _) Tryz.func197 (by kernel_rfl) rfl (fun _ _ _ _ _ _ h=>h _ _) (fun _ _ _ _ _=>by kernel_rfl) fun R kk e x0 x1 K=>by
 simp only[Hz,zx1,FT,FU,anA (hF:=e),akm,akn,ay,<-e]
def J1:Env:=e0 [y9,y9]
def pu:ai:=yL.add 147 [y9,y9] (cP y9 y9 uF (fun _ r K=>K [tB r] none))
theorem abv:aJ Tryz.prog pu:=cR J1 Tryz.f147 (fun R kk x0 x1 K=>IV x0 x1 (fun a0=>K [tB a0] none)) abu (ek _ _ _ _) Tryz.func147 (by kernel_rfl) rfl (fun _ _ _ _ _ _ h=>h _ _) (fun _ _ _ _ _=>by kernel_rfl) fun R kk e x0 x1 K=>by
 simp only[uF,IV,ay]
def YA:Env:=bG.env (fun i=>bif Nat.beq i 4 then [0,4] else []) (fun i=>bif Nat.beq i 4 then [2,3] else []) [] [(.sl 116 (.pair .str (.pair .str .unit)))]
def Vg(a:aK)(b:Int):Option R:=aw (ev YA (pu R) kk (sub [1,1,0,1,0,0] (cd Tryz.f148))) [0,4] [2,3] k ⟨[.aj (.sl 116 (.pair .str (.pair .str .unit))) a []]::uS 3 ([tI b]::uS 19 []),nS 25 []⟩ J
def zfn(a b:Int):State:=⟨uS 2 ([tI a]::[tI b]::uS 20 []),nS 25 []⟩
def zfo:State:=⟨uS 24 [],nS 25 []⟩
def Cw:KX R:=(zk 0 (aF YA (pu R) kk (sub [1,1,1] (cd Tryz.f148)) (aD YA Tryz.f148.results.toList none K)))
theorem amj(a:aK)(b:Int):Vg R kk (k+1) J a b=
 RS a b (fun a0 a1=>J .ret (zfn a0 a1)) (Vg R kk k J) (J (.exit 0) (zfo)):=by kernel_rfl
theorem ae8(a b:Int):Cw R kk K .ret (zfn a b)=
 Cx a b (fun a0 a1=>K [tI a0,tI a1] none):=by kernel_rfl
theorem ae9:Cw R kk K (.exit 0) (zfo)=
 Cy (fun a0 a1=>K [tI a0,tI a1] none):=by kernel_rfl
theorem aiP{kk:Nat}(hF:kk=ah)(fF:aK)(t4:Int):Vg R kk k J fF t4=(Gx k fF t4).bind fun e=>(Sum.elim (fun(we:(Int×Int))=>J .ret (zfn we.1 we.2)) (fun(we:Unit)=>J (.exit 0) (zfo)) e):=by
 induction k generalizing fF t4 with
 |zero=>rfl
 |succ k ih=>
  rw[amj]
  simp only[Gx,RS,ih,ay]
def bK:ai:=pu.add 148 [(.sl 116 (.pair .str (.pair .str .unit)))] (cC (.sl 116 (.pair .str (.pair .str .unit))) rZ (fun _ r K=>K [tI r.1,tI r.2] none))
theorem abw:aJ Tryz.prog bK:=cD YA Tryz.f148 (fun R kk x0 K=>Vh x0 (fun a0 a1=>K [tI a0,tI a1] none) (Vg R kk kk (Cw R kk K))) abv (ek _ _ _ _) Tryz.func148 (by kernel_rfl) rfl (fun _ _ _ _ _ _ h=>h _ _) (fun _ _ _ _=>by kernel_rfl) fun R kk e x0 K=>by
 simp only[rZ,Vh,Cx,Cy,aiP (hF:=e),ae8,ae9,ay,<-e]
def zw:Env:={bG.env (fun i=>bif Nat.beq i 27 then [3,4,5,7,8,13] else []) (fun i=>bif Nat.beq i 27 then [6] else []) [] [cm,aC,aC] with join:=fun i=>bif Nat.beq i 2 then some [3,4,5,23] else bif Nat.beq i 3 then some [3,4,5] else bif Nat.beq i 6 then some [3,4,5,7,8,48] else bif Nat.beq i 7 then some [3,4,5,7,8] else bif Nat.beq i 8 then some [3,4,5,7,8,65] else bif Nat.beq i 9 then some [3,4,5,7,8] else bif Nat.beq i 10 then some [3,4,5,7,8,84] else bif Nat.beq i 11 then some [3,4,5,7,8] else bif Nat.beq i 35 then some [] else bif Nat.beq i 21 then some [140] else bif Nat.beq i 25 then some [3,4,5,7,8,156] else bif Nat.beq i 26 then some [3,4,5,7,8] else bif Nat.beq i 29 then some [3,4,5,7,8,13] else bif Nat.beq i 32 then some [3,4,5,7,8,13] else bif Nat.beq i 28 then some [3,4,5,7,8,13] else none}
def Pd(a:Bool)(b:aB)(c d:ag):Option R:=ev zw (bK R) kk (sub [1,0,1] (cd Tryz.f90)) ⟨uS 3 ([.ptr 4 cm []]::[.ptr 5 aC []]::[.ptr 6 aC []]::uS 17 ([tB a]::uS 170 [])),nS 4 ((some ⟨cm,b,[]⟩)::(some ⟨aC,c,[]⟩)::(some ⟨aC,d,[]⟩)::nS 188 [])⟩ (aF zw (bK R) kk (sub [1,1] (cd Tryz.f90)) (aD zw Tryz.f90.results.toList none K))
def Pe(a:aB)(b c:ag):Option R:=ev zw (bK R) kk (sub [1,1] (cd Tryz.f90)) ⟨uS 3 ([.ptr 4 cm []]::[.ptr 5 aC []]::[.ptr 6 aC []]::uS 188 []),nS 4 ((some ⟨cm,a,[]⟩)::(some ⟨aC,b,[]⟩)::(some ⟨aC,c,[]⟩)::nS 188 [])⟩ (aD zw Tryz.f90.results.toList none K)
def Pf(a b:Int)(c:Bool)(d:aB)(e f:ag):Option R:=ev zw (bK R) kk (sub [1,1,1,1,0,1] (cd Tryz.f90)) ⟨uS 3 ([.ptr 4 cm []]::[.ptr 5 aC []]::[.ptr 6 aC []]::uS 1 ([tI a]::[tI b]::uS 39 ([tB c]::uS 145 []))),nS 4 ((some ⟨cm,d,[]⟩)::(some ⟨aC,e,[]⟩)::(some ⟨aC,f,[]⟩)::nS 188 [])⟩ (aF zw (bK R) kk (sub [1,1,1,1,1] (cd Tryz.f90)) (aD zw Tryz.f90.results.toList none K))
def Pg(a b:Int)(c:aB)(d e:ag):Option R:=ev zw (bK R) kk (sub [1,1,1,1,1] (cd Tryz.f90)) ⟨uS 3 ([.ptr 4 cm []]::[.ptr 5 aC []]::[.ptr 6 aC []]::uS 1 ([tI a]::[tI b]::uS 185 [])),nS 4 ((some ⟨cm,c,[]⟩)::(some ⟨aC,d,[]⟩)::(some ⟨aC,e,[]⟩)::nS 188 [])⟩ (aD zw Tryz.f90.results.toList none K)
def Ph(a b:Int)(c:Bool)(d:aB)(e f:ag):Option R:=ev zw (bK R) kk (sub [1,1,1,1,1,0,1] (cd Tryz.f90)) ⟨uS 3 ([.ptr 4 cm []]::[.ptr 5 aC []]::[.ptr 6 aC []]::uS 1 ([tI a]::[tI b]::uS 56 ([tB c]::uS 128 []))),nS 4 ((some ⟨cm,d,[]⟩)::(some ⟨aC,e,[]⟩)::(some ⟨aC,f,[]⟩)::nS 188 [])⟩ (aF zw (bK R) kk (sub [1,1,1,1,1,1] (cd Tryz.f90)) (aD zw Tryz.f90.results.toList none K))
def Pj(a b:Int)(c:aB)(d e:ag):Option R:=ev zw (bK R) kk (sub [1,1,1,1,1,1] (cd Tryz.f90)) ⟨uS 3 ([.ptr 4 cm []]::[.ptr 5 aC []]::[.ptr 6 aC []]::uS 1 ([tI a]::[tI b]::uS 185 [])),nS 4 ((some ⟨cm,c,[]⟩)::(some ⟨aC,d,[]⟩)::(some ⟨aC,e,[]⟩)::nS 188 [])⟩ (aD zw Tryz.f90.results.toList none K)
def Pk(a b:Int)(c:Bool)(d:aB)(e f:ag):Option R:=ev zw (bK R) kk (sub [1,1,1,1,1,1,0,1] (cd Tryz.f90)) ⟨uS 3 ([.ptr 4 cm []]::[.ptr 5 aC []]::[.ptr 6 aC []]::uS 1 ([tI a]::[tI b]::uS 75 ([tB c]::uS 109 []))),nS 4 ((some ⟨cm,d,[]⟩)::(some ⟨aC,e,[]⟩)::(some ⟨aC,f,[]⟩)::nS 188 [])⟩ (aF zw (bK R) kk (sub [1,1,1,1,1,1,1] (cd Tryz.f90)) (aD zw Tryz.f90.results.toList none K))
def Pm(a b:Int)(c:aB)(d e:ag):Option R:=ev zw (bK R) kk (sub [1,1,1,1,1,1,1] (cd Tryz.f90)) ⟨uS 3 ([.ptr 4 cm []]::[.ptr 5 aC []]::[.ptr 6 aC []]::uS 1 ([tI a]::[tI b]::uS 185 [])),nS 4 ((some ⟨cm,c,[]⟩)::(some ⟨aC,d,[]⟩)::(some ⟨aC,e,[]⟩)::nS 188 [])⟩ (aD zw Tryz.f90.results.toList none K)
def Vo:Option R:=ev zw (bK R) kk (sub [1,1,1,1,1,1,1,1] (cd Tryz.f90)) ⟨uS 194 [],nS 195 []⟩ (aD zw Tryz.f90.results.toList none K)
def Pn(a:Bool):Option R:=ev zw (bK R) kk (sub [1,1,1,1,1,1,1,0,1,0,1,1,1,1,1,0,1,1,1] (cd Tryz.f90)) ⟨uS 140 ([tB a]::uS 53 []),nS 195 []⟩ (zk 0 (aF zw (bK R) kk (sub [1,1,1,1,1,1,1,1] (cd Tryz.f90)) (aD zw Tryz.f90.results.toList none K)))
def NJ(a b:Int)(c:Bool)(d:aB)(e f:ag):Option R:=ev zw (bK R) kk (sub [1,1,1,1,1,1,1,0,1,0,1,1,1,1,1,1,1,0,0,1,1] (cd Tryz.f90)) ⟨uS 3 ([.ptr 4 cm []]::[.ptr 5 aC []]::[.ptr 6 aC []]::uS 1 ([tI a]::[tI b]::uS 147 ([tB c]::uS 37 []))),nS 4 ((some ⟨cm,d,[]⟩)::(some ⟨aC,e,[]⟩)::(some ⟨aC,f,[]⟩)::nS 188 [])⟩ (aF zw (bK R) kk (sub [1,1,1,1,1,1,1,0,1,0,1,1,1,1,1,1,1,0,1] (cd Tryz.f90)) (zk 0 (aF zw (bK R) kk (sub [1,1,1,1,1,1,1,1] (cd Tryz.f90)) (aD zw Tryz.f90.results.toList none K))))
def NK(a b:Int)(c:aB)(d e:ag):Option R:=ev zw (bK R) kk (sub [1,1,1,1,1,1,1,0,1,0,1,1,1,1,1,1,1,0,1] (cd Tryz.f90)) ⟨uS 3 ([.ptr 4 cm []]::[.ptr 5 aC []]::[.ptr 6 aC []]::uS 1 ([tI a]::[tI b]::uS 185 [])),nS 4 ((some ⟨cm,c,[]⟩)::(some ⟨aC,d,[]⟩)::(some ⟨aC,e,[]⟩)::nS 188 [])⟩ (zk 0 (aF zw (bK R) kk (sub [1,1,1,1,1,1,1,1] (cd Tryz.f90)) (aD zw Tryz.f90.results.toList none K)))
def NL(a b c:Int)(d:aB)(e f:ag):Option R:=ev zw (bK R) kk (sub [1,1,1,1,1,1,1,0,1,0,1,1,1,1,1,1,1,0,1,1,0,0,1] (cd Tryz.f90)) ⟨uS 3 ([.ptr 4 cm []]::[.ptr 5 aC []]::[.ptr 6 aC []]::uS 1 ([tI a]::[tI b]::uS 4 ([tI c]::uS 180 []))),nS 4 ((some ⟨cm,d,[]⟩)::(some ⟨aC,e,[]⟩)::(some ⟨aC,f,[]⟩)::nS 188 [])⟩ (iB (ev zw (bK R) kk (sub [1,1,1,1,1,1,1,0,1,0,1,1,1,1,1,1,1,0,1,1,0,0] (cd Tryz.f90))) [3,4,5,7,8,13] [6] k J)
def NM(a b c:Int)(d:aB)(e f:ag):Option R:=ev zw (bK R) kk (sub [1,1,1,1,1,1,1,0,1,0,1,1,1,1,1,1,1,0,1,1,0,0,1,0,0,1] (cd Tryz.f90)) ⟨uS 3 ([.ptr 4 cm []]::[.ptr 5 aC []]::[.ptr 6 aC []]::uS 1 ([tI a]::[tI b]::uS 4 ([tI c]::uS 180 []))),nS 4 ((some ⟨cm,d,[]⟩)::(some ⟨aC,e,[]⟩)::(some ⟨aC,f,[]⟩)::nS 188 [])⟩ (zk 2 (aF zw (bK R) kk (sub [1,1,1,1,1,1,1,0,1,0,1,1,1,1,1,1,1,0,1,1,0,0,1,1] (cd Tryz.f90)) (iB (ev zw (bK R) kk (sub [1,1,1,1,1,1,1,0,1,0,1,1,1,1,1,1,1,0,1,1,0,0] (cd Tryz.f90))) [3,4,5,7,8,13] [6] k J)))
def NN(a b c:Int)(d:aB)(e f:ag):Option R:=ev zw (bK R) kk (sub [1,1,1,1,1,1,1,0,1,0,1,1,1,1,1,1,1,0,1,1,0,0,1,1] (cd Tryz.f90)) ⟨uS 3 ([.ptr 4 cm []]::[.ptr 5 aC []]::[.ptr 6 aC []]::uS 1 ([tI a]::[tI b]::uS 4 ([tI c]::uS 180 []))),nS 4 ((some ⟨cm,d,[]⟩)::(some ⟨aC,e,[]⟩)::(some ⟨aC,f,[]⟩)::nS 188 [])⟩ (iB (ev zw (bK R) kk (sub [1,1,1,1,1,1,1,0,1,0,1,1,1,1,1,1,1,0,1,1,0,0] (cd Tryz.f90))) [3,4,5,7,8,13] [6] k J)
def Vp(a b c:Int)(d:aB)(e f:ag):Option R:=aw (ev zw (bK R) kk (sub [1,1,1,1,1,1,1,0,1,0,1,1,1,1,1,1,1,0,1,1,0,0] (cd Tryz.f90))) [3,4,5,7,8,13] [6] k ⟨uS 3 ([.ptr 4 cm []]::[.ptr 5 aC []]::[.ptr 6 aC []]::uS 1 ([tI a]::[tI b]::uS 4 ([tI c]::uS 180 []))),nS 4 ((some ⟨cm,d,[]⟩)::(some ⟨aC,e,[]⟩)::(some ⟨aC,f,[]⟩)::nS 188 [])⟩ J
def zfs:State:=⟨uS 194 [],nS 195 []⟩
def Uh(a:Int):State:=⟨uS 6 ([tI a]::uS 187 []),nS 195 []⟩
def CD:KX R:=(zk 1 (zk 0 (aF zw (bK R) kk (sub [1,1,1,1,1,1,1,1] (cd Tryz.f90)) (aD zw Tryz.f90.results.toList none K))))
theorem aiS(a:Bool)(b:aB)(c d:ag):Pd R kk K a b c d=
 CI a b c d (fun a0=>K [tI a0] none) (fun a0 a1 a2=>aY kk fun _=>Pe R kk K a0 a1 a2):=by kernel_rfl
theorem aiT(a:aB)(b c:ag):Pe R kk K a b c=
 Ic a b c (fun a0 a1 a2 a3 a4 a5=>aY kk fun _=>Pf R kk K a0 a1 a2 a3 a4 a5):=by kernel_rfl
theorem aiU(a b:Int)(c:Bool)(d:aB)(e f:ag):Pf R kk K a b c d e f=
 CJ a b c d e f (fun a0=>K [tI a0] none) (fun a0 a1 a2 a3 a4=>aY kk fun _=>Pg R kk K a0 a1 a2 a3 a4):=by kernel_rfl
theorem aiV(a b:Int)(c:aB)(d e:ag):Pg R kk K a b c d e=
 Ie a b c d e (fun a0 a1 a2 a3 a4 a5=>aY kk fun _=>Ph R kk K a0 a1 a2 a3 a4 a5):=by kernel_rfl
theorem aiW(a b:Int)(c:Bool)(d:aB)(e f:ag):Ph R kk K a b c d e f=
 CK a b c d e f (fun a0=>K [tI a0] none) (fun a0 a1 a2 a3 a4=>aY kk fun _=>Pj R kk K a0 a1 a2 a3 a4):=by kernel_rfl
theorem aiX(a b:Int)(c:aB)(d e:ag):Pj R kk K a b c d e=
 Ig a b c d e (fun a0 a1 a2 a3 a4 a5=>aY kk fun _=>Pk R kk K a0 a1 a2 a3 a4 a5):=by kernel_rfl
theorem aiY(a b:Int)(c:Bool)(d:aB)(e f:ag):Pk R kk K a b c d e f=
 CL a b c d e f (fun a0=>K [tI a0] none) (fun a0 a1 a2 a3 a4=>aY kk fun _=>Pm R kk K a0 a1 a2 a3 a4):=by kernel_rfl
theorem aiZ(a b:Int)(c:aB)(d e:ag):Pm R kk K a b c d e=
 Ih a b c d e (fun a0=>K [tI a0] none) (aY kk fun _=>Vo R kk K) (fun a0=>aY kk fun _=>Pn R kk K a0) (fun a0 a1 a2 a3 a4 a5=>aY kk fun _=>NJ R kk K a0 a1 a2 a3 a4 a5):=by kernel_rfl
theorem ai0:Vo R kk K=
 CM (fun a0=>K [tI a0] none):=by kernel_rfl
theorem ai1(a:Bool):Pn R kk K a=
 zrq a (fun a0=>K [tI a0] none) (aY kk fun _=>Vo R kk K):=by kernel_rfl
theorem afd(a b:Int)(c:Bool)(d:aB)(e f:ag):NJ R kk K a b c d e f=
 zrr a b c d e f (fun a0=>K [tI a0] none) (fun a0 a1 a2 a3 a4=>aY kk fun _=>NK R kk K a0 a1 a2 a3 a4):=by kernel_rfl
theorem afe(a b:Int)(c:aB)(d e:ag):NK R kk K a b c d e=
 Uw a b c d e (Vp R kk kk (CD R kk K)):=by kernel_rfl
theorem amm(a b c:Int)(d:aB)(e f:ag):Vp R kk (k+1) J a b c d e f=
 RC a b c d e f (fun a0 a1 a2 a3 a4 a5=>aY kk fun _=>NL R kk k J a0 a1 a2 a3 a4 a5) (J (.exit 1) (zfs)):=by kernel_rfl
theorem aff(a b c:Int)(d:aB)(e f:ag):NL R kk k J a b c d e f=
 Ux a b c d e f (fun a0=>J .ret (Uh a0)) (fun a0 a1 a2 a3 a4 a5=>aY kk fun _=>NM R kk k J a0 a1 a2 a3 a4 a5):=by kernel_rfl
theorem afi:CD R kk K (.exit 1) (zfs)=
 zrs (aY kk fun _=>Vo R kk K):=by kernel_rfl
theorem afj(a:Int):CD R kk K .ret (Uh a)=
 zrt a (fun a0=>K [tI a0] none):=by kernel_rfl
theorem afg(a b c:Int)(d:aB)(e f:ag):NM R kk k J a b c d e f=
 Uy a b c d e f (fun a0=>J .ret (Uh a0)) (fun a0 a1 a2 a3 a4 a5=>aY kk fun _=>NN R kk k J a0 a1 a2 a3 a4 a5):=by kernel_rfl
theorem afh(a b c:Int)(d:aB)(e f:ag):NN R kk k J a b c d e f=
 Uz a b c d e f (Vp R kk k J):=by kernel_rfl
theorem ai2{kk:Nat}(hF:kk=ah)(t7 t8 t13:Int)(cU:aB)(bQ cV:ag):Vp R kk k J t7 t8 t13 cU bQ cV=(vd k t7 t8 t13 cU bQ cV).bind fun e=>(Sum.elim (fun(we:Unit)=>J (.exit 1) (zfs)) (fun(we:Int)=>J .ret (Uh we)) e):=by
 induction k generalizing t7 t8 t13 cU bQ cV with
 |zero=>rfl
 |succ k ih=>
  rw[amm]
  simp only[vd,RC,Ux,Uy,Uz,ih,aff,afg,afh,Ge (hF:=hF),ay]
def yM:ai:=bK.add 90 [cm,aC,aC] (gu cm aC aC sd (fun _ r K=>K [tI r] none))
theorem abx:aJ Tryz.prog yM:=gx zw Tryz.f90 (fun R kk x0 x1 x2 K=>Ib x0 x1 x2 (fun a0 a1 a2 a3=>aY kk fun _=>Pd R kk K a0 a1 a2 a3)) abw ((ek _ _ _ _).join _) Tryz.func90 (by kernel_rfl) rfl (fun _ _ _ _ _ _ h=>h _ _) (fun _ _ _ _ _ _=>by kernel_rfl) fun R kk e x0 x1 x2 K=>by
 simp only[sd,acM,CI,acN,CJ,acO,CK,acP,CL,acQ,CM,zrq,zrr,Uw,zrs,zrt,ai2 (hF:=e),CE,Vq,AX,RU,CF,Gz,CG,RV,Vr,CH,zrp,RB,aiS,aiT,afd,afe,aiU,aiV,aiW,aiX,aiY,aiZ,ai0,ai1,afi,afj,Ge (hF:=e),ay,<-e]
def aoQ:Env:=e0 [cm,cm]
def gD:ai:=yM.add 91 [cm,cm] (cP cm cm sg (fun _ r K=>K [tB r] none))
theorem aby:aJ Tryz.prog gD:=cR aoQ Tryz.f91 (fun R kk x0 x1 K=>VS x0 x1 (fun a0=>K [tB a0] none)) abx (ek _ _ _ _) Tryz.func91 (by kernel_rfl) rfl (fun _ _ _ _ _ _ h=>h _ _) (fun _ _ _ _ _=>by kernel_rfl) fun R kk e x0 x1 K=>by
 simp only[sg,VS,ay]
def vh:Env:=bG.env (fun i=>bif Nat.beq i 8 then [3,4,5,9] else bif Nat.beq i 19 then [3,4,5,13] else bif Nat.beq i 25 then [3,4,5,13,15] else []) (fun i=>bif Nat.beq i 8 then [3,4,5,6,7,8] else bif Nat.beq i 19 then [6,7,8] else bif Nat.beq i 25 then [3,4,5,6,7,8,13] else []) [] [bN,aC,aC]
def Vv(a:Int)(b:al)(c d:ag):Option R:=aw (ev vh (gD R) kk (sub [1,1,1,1,0,1,0,0] (cd Tryz.f35))) [3,4,5,9] [3,4,5,6,7,8] k ⟨uS 3 ([.ptr 4 bN []]::[.ptr 5 aC []]::[.ptr 6 aC []]::uS 3 ([tI a]::uS 104 [])),nS 4 ((some ⟨bN,b,[]⟩)::(some ⟨aC,c,[]⟩)::(some ⟨aC,d,[]⟩)::nS 108 [])⟩ J
def zfv(a b c:Int)(d:al)(e f:ag):State:=⟨uS 3 ([.ptr 4 bN []]::[.ptr 5 aC []]::[.ptr 6 aC []]::[tI a]::[tI b]::[tI c]::uS 105 []),nS 4 ((some ⟨bN,d,[]⟩)::(some ⟨aC,e,[]⟩)::(some ⟨aC,f,[]⟩)::nS 108 [])⟩
def zfw(a:al)(b c:ag):State:=⟨uS 3 ([.ptr 4 bN []]::[.ptr 5 aC []]::[.ptr 6 aC []]::uS 108 []),nS 4 ((some ⟨bN,a,[]⟩)::(some ⟨aC,b,[]⟩)::(some ⟨aC,c,[]⟩)::nS 108 [])⟩
def CQ:KX R:=(zk 0 (aF vh (gD R) kk (sub [1,1,1,1,1] (cd Tryz.f35)) (aD vh Tryz.f35.results.toList none K)))
def Vw(a:Int)(b:al)(c d:ag):Option R:=aw (ev vh (gD R) kk (sub [1,1,1,1,1,1,0,1,0,0] (cd Tryz.f35))) [3,4,5,13] [6,7,8] k ⟨uS 3 ([.ptr 4 bN []]::[.ptr 5 aC []]::[.ptr 6 aC []]::uS 7 ([tI a]::uS 100 [])),nS 4 ((some ⟨bN,b,[]⟩)::(some ⟨aC,c,[]⟩)::(some ⟨aC,d,[]⟩)::nS 108 [])⟩ J
def Ui(a b c:Int):State:=⟨uS 6 ([tI a]::[tI b]::[tI c]::uS 105 []),nS 115 []⟩
def zfx:State:=⟨uS 114 [],nS 115 []⟩
def CR:KX R:=(zk 2 (aF vh (gD R) kk (sub [1,1,1,1,1,1,1] (cd Tryz.f35)) (aD vh Tryz.f35.results.toList none K)))
def Vx(a b:Int)(c:al)(d e:ag):Option R:=aw (ev vh (gD R) kk (sub [1,1,1,1,1,1,0,1,0,0,1,0,0,1,1,0,0] (cd Tryz.f35))) [3,4,5,13,15] [3,4,5,6,7,8,13] k ⟨uS 3 ([.ptr 4 bN []]::[.ptr 5 aC []]::[.ptr 6 aC []]::uS 7 ([tI a]::uS 1 ([tI b]::uS 98 []))),nS 4 ((some ⟨bN,c,[]⟩)::(some ⟨aC,d,[]⟩)::(some ⟨aC,e,[]⟩)::nS 108 [])⟩ J
def zfy(a b c d:Int)(e:al)(f g:ag):State:=⟨uS 3 ([.ptr 4 bN []]::[.ptr 5 aC []]::[.ptr 6 aC []]::[tI a]::[tI b]::[tI c]::uS 4 ([tI d]::uS 100 [])),nS 4 ((some ⟨bN,e,[]⟩)::(some ⟨aC,f,[]⟩)::(some ⟨aC,g,[]⟩)::nS 108 [])⟩
def zfz(a:Int)(b:al)(c d:ag):State:=⟨uS 3 ([.ptr 4 bN []]::[.ptr 5 aC []]::[.ptr 6 aC []]::uS 7 ([tI a]::uS 100 [])),nS 4 ((some ⟨bN,b,[]⟩)::(some ⟨aC,c,[]⟩)::(some ⟨aC,d,[]⟩)::nS 108 [])⟩
def CS:KX R:=(zk 4 (zk 3 (aF vh (gD R) kk (sub [1,1,1,1,1,1,0,1,0,0,1,1] (cd Tryz.f35)) (iB (ev vh (gD R) kk (sub [1,1,1,1,1,1,0,1,0,0] (cd Tryz.f35))) [3,4,5,13] [6,7,8] k J))))
theorem amo(a:Int)(b:al)(c d:ag):Vv R kk (k+1) J a b c d=
 RX a b c d (fun a0 a1 a2 a3 a4 a5=>J .ret (zfv a0 a1 a2 a3 a4 a5)) (Vv R kk k J) (fun a0 a1 a2=>J (.exit 0) (zfw a0 a1 a2)):=by kernel_rfl
theorem afm(a b c:Int)(d:al)(e f:ag):CQ R kk K .ret (zfv a b c d e f)=
 CT a b c d e f (fun a0 a1 a2=>K [tI a0,tI a1,tI a2] none):=by kernel_rfl
theorem afn(a:al)(b c:ag):CQ R kk K (.exit 0) (zfw a b c)=
 Vz a b c (fun a0 a1 a2=>K [tI a0,tI a1,tI a2] none) (Vw R kk kk (CR R kk K)):=by kernel_rfl
theorem amp(a:Int)(b:al)(c d:ag):Vw R kk (k+1) J a b c d=
 RY a b c d (fun a0 a1 a2=>J .ret (Ui a0 a1 a2)) (Vx R kk kk (CS R kk k J)) (J (.exit 2) (zfx)):=by kernel_rfl
theorem afo(a b c:Int):CR R kk K .ret (Ui a b c)=
 CU a b c (fun a0 a1 a2=>K [tI a0,tI a1,tI a2] none):=by kernel_rfl
theorem afp:CR R kk K (.exit 2) (zfx)=
 CV (fun a0 a1 a2=>K [tI a0,tI a1,tI a2] none):=by kernel_rfl
theorem amq(a b:Int)(c:al)(d e:ag):Vx R kk (k+1) J a b c d e=
 RZ a b c d e (fun a0 a1 a2 a3 a4 a5 a6=>J .ret (zfy a0 a1 a2 a3 a4 a5 a6)) (Vx R kk k J) (fun a0 a1 a2 a3=>J (.exit 4) (zfz a0 a1 a2 a3)):=by kernel_rfl
theorem afq(a b c d:Int)(e:al)(f g:ag):CS R kk k J .ret (zfy a b c d e f g)=
 CW a b c d e f g (fun a0 a1 a2=>J .ret (Ui a0 a1 a2)):=by kernel_rfl
theorem afr(a:Int)(b:al)(c d:ag):CS R kk k J (.exit 4) (zfz a b c d)=
 VA a b c d (Vw R kk k J):=by kernel_rfl
theorem ai4{kk:Nat}(hF:kk=ah)(t9:Int)(cU:al)(bQ cV:ag):Vv R kk k J t9 cU bQ cV=(GC k t9 cU bQ cV).bind fun e=>(Sum.elim (fun(we:lg)=>J .ret (zfv we.1 we.2.1 we.2.2.1 we.2.2.2.1 we.2.2.2.2.1 we.2.2.2.2.2)) (fun(we:lf)=>J (.exit 0) (zfw we.1 we.2.1 we.2.2)) e):=by
 induction k generalizing t9 cU bQ cV with
 |zero=>rfl
 |succ k ih=>
  rw[amo]
  simp only[GC,RX,ih,ay]
theorem ai6{kk:Nat}(hF:kk=ah)(t13 t15:Int)(cU:al)(bQ cV:ag):Vx R kk k J t13 t15 cU bQ cV=(GF k t13 t15 cU bQ cV).bind fun e=>(Sum.elim (fun(we:(Int×Int×Int×Int×al×ag×ag))=>J .ret (zfy we.1 we.2.1 we.2.2.1 we.2.2.2.1 we.2.2.2.2.1 we.2.2.2.2.2.1 we.2.2.2.2.2.2)) (fun(we:(Int×al×ag×ag))=>J (.exit 4) (zfz we.1 we.2.1 we.2.2.1 we.2.2.2)) e):=by
 induction k generalizing t13 t15 cU bQ cV with
 |zero=>rfl
 |succ k ih=>
  rw[amq]
  simp only[GF,RZ,ih,ay]
theorem ai5{kk:Nat}(hF:kk=ah)(t13:Int)(cU:al)(bQ cV:ag):Vw R kk k J t13 cU bQ cV=(GD k t13 cU bQ cV).bind fun e=>(Sum.elim (fun(we:iw)=>J .ret (Ui we.1 we.2.1 we.2.2)) (fun(we:Unit)=>J (.exit 2) (zfx)) e):=by
 induction k generalizing t13 cU bQ cV with
 |zero=>rfl
 |succ k ih=>
  rw[amp]
  simp only[GD,RY,CW,VA,ih,ai6 (hF:=hF),afq,afr,ay,<-hF]
def pw:ai:=gD.add 35 [bN,aC,aC] (gu bN aC aC qj (fun _ r K=>K [tI r.1,tI r.2.1,tI r.2.2] none))
theorem abz:aJ Tryz.prog pw:=gx vh Tryz.f35 (fun R kk x0 x1 x2 K=>Vy x0 x1 x2 (fun a0 a1 a2=>K [tI a0,tI a1,tI a2] none) (Vv R kk kk (CQ R kk K))) aby (ek _ _ _ _) Tryz.func35 (by kernel_rfl) rfl (fun _ _ _ _ _ _ h=>h _ _) (fun _ _ _ _ _ _=>by kernel_rfl) fun R kk e x0 x1 x2 K=>by
 simp only[qj,Vy,CT,Vz,CU,CV,ai4 (hF:=e),ai5 (hF:=e),afm,afn,afo,afp,ay,<-e]
def YL:Env:=bG.env (fun i=>bif Nat.beq i 4 then [1,5] else []) (fun i=>bif Nat.beq i 4 then [2,3,4] else []) [] [dK]
def V7(a:Int)(b:bC):Option R:=aw (ev YL (pw R) kk (sub [1,1,0,1,0,0] (cd Tryz.f13))) [1,5] [2,3,4] k ⟨uS 1 ([.ptr 2 dK []]::uS 3 ([tI a]::uS 56 [])),nS 2 ((some ⟨dK,b,[]⟩)::nS 60 [])⟩ J
def zgl(a b c:Int):State:=⟨uS 2 ([tI a]::[tI b]::[tI c]::uS 57 []),nS 63 []⟩
def zgm:State:=⟨uS 62 [],nS 63 []⟩
def Dm:KX R:=(zk 0 (aF YL (pw R) kk (sub [1,1,1] (cd Tryz.f13)) (aD YL Tryz.f13.results.toList none K)))
theorem amE(a:Int)(b:bC):V7 R kk (k+1) J a b=
 Ii a b (fun a0 a1 a2=>J .ret (zgl a0 a1 a2)) (V7 R kk k J) (J (.exit 0) (zgm)):=by kernel_rfl
theorem afO(a b c:Int):Dm R kk K .ret (zgl a b c)=
 Dn a b c (fun a0 a1 a2=>K [tI a0,tI a1,tI a2] none):=by kernel_rfl
theorem afP:Dm R kk K (.exit 0) (zgm)=
 Dp (fun a0 a1 a2=>K [tI a0,tI a1,tI a2] none):=by kernel_rfl
theorem ajk{kk:Nat}(hF:kk=ah)(t5:Int)(cT:bC):V7 R kk k J t5 cT=(GL k t5 cT).bind fun e=>(Sum.elim (fun(we:iw)=>J .ret (zgl we.1 we.2.1 we.2.2)) (fun(we:Unit)=>J (.exit 0) (zgm)) e):=by
 induction k generalizing t5 cT with
 |zero=>rfl
 |succ k ih=>
  rw[amE]
  simp only[GL,Ii,ih,ay]
def yN:ai:=pw.add 13 [dK] (cC dK sn (fun _ r K=>K [tI r.1,tI r.2.1,tI r.2.2] none))
theorem abA:aJ Tryz.prog yN:=cD YL Tryz.f13 (fun R kk x0 K=>V8 x0 (fun a0 a1 a2=>K [tI a0,tI a1,tI a2] none) (V7 R kk kk (Dm R kk K))) abz (ek _ _ _ _) Tryz.func13 (by kernel_rfl) rfl (fun _ _ _ _ _ _ h=>h _ _) (fun _ _ _ _=>by kernel_rfl) fun R kk e x0 K=>by
 simp only[sn,V8,Dn,Dp,ajk (hF:=e),afO,afP,ay,<-e]
def aoX:Env:=e0 [dK]
def pA:ai:=yN.add 15 [dK] (cC dK su (fun _ r K=>K [tB r] none))
theorem abB:aJ Tryz.prog pA:=cD aoX Tryz.f15 (fun R kk x0 K=>Wd x0 (fun a0=>K [tB a0] none)) abA (ek _ _ _ _) Tryz.func15 (by kernel_rfl) rfl (fun _ _ _ _ _ _ h=>h _ _) (fun _ _ _ _=>by kernel_rfl) fun R kk e x0 K=>by
 simp only[su,Wd,ay]
def oD:Env:=bG.env (fun i=>bif Nat.beq i 8 then [0,7,8,9] else []) (fun i=>bif Nat.beq i 8 then [4,5,6,8] else []) [] [.str,(.int .i64)]
def Z3(a:ByteArray)(b:Int)(c:ByteArray)(d:Int):Option R:=aw (ev oD (pA R) kk (sub [1,1,1,1,1,0,1,0,0] (cd Tryz.f111))) [0,7,8,9] [4,5,6,8] k ⟨[tS a]::uS 6 ([tI b]::[tS c]::[tI d]::uS 62 []),nS 73 []⟩ J
def zsi(a:ByteArray)(b c:Int)(d:ByteArray):State:=⟨uS 4 ([tS a]::[tI b]::[tI c]::uS 1 ([tS d]::uS 63 [])),nS 73 []⟩
def zsj(a:ByteArray):State:=⟨uS 8 ([tS a]::uS 63 []),nS 73 []⟩
def FK:KX R:=(zk 0 (aF oD (pA R) kk (sub [1,1,1,1,1,1] (cd Tryz.f111)) (aD oD Tryz.f111.results.toList none K)))
theorem z227(a:ByteArray)(b:Int)(c:ByteArray)(d:Int):Z3 R kk (k+1) J a b c d=
 Hl a b c d (fun a0 a1 a2 a3=>J .ret (zsi a0 a1 a2 a3)) (Z3 R kk k J) (fun a0=>J (.exit 0) (zsj a0)):=by kernel_rfl
theorem akh(a:ByteArray)(b c:Int)(d:ByteArray):FK R kk K .ret (zsi a b c d)=
 FL a b c d (fun a0 a1 a2=>K [tS a0,tI a1,tI a2] none):=by kernel_rfl
theorem aki(a:ByteArray):FK R kk K (.exit 0) (zsj a)=
 S0 a (fun a0 a1 a2=>K [tS a0,tI a1,tI a2] none):=by kernel_rfl
theorem anw{kk:Nat}(hF:kk=ah)(jv:ByteArray)(t7:Int)(t8:ByteArray)(t9:Int):Z3 R kk k J jv t7 t8 t9=(nW k jv t7 t8 t9).bind fun e=>(Sum.elim (fun(we:(ByteArray×Int×Int×ByteArray))=>J .ret (zsi we.1 we.2.1 we.2.2.1 we.2.2.2)) (fun(we:ByteArray)=>J (.exit 0) (zsj we)) e):=by
 induction k generalizing jv t7 t8 t9 with
 |zero=>rfl
 |succ k ih=>
  rw[z227]
  simp only[nW,Hl,ih,ay]
def yO:ai:=pA.add 111 [.str,(.int .i64)] (cP .str (.int .i64) rl (fun _ r K=>K [tS r.1,tI r.2.1,tI r.2.2] none))
theorem abC:aJ Tryz.prog yO:=cR oD Tryz.f111 (fun R kk x0 x1 K=>Z4 x0 x1 (fun a0 a1 a2=>K [tS a0,tI a1,tI a2] none) (Z3 R kk kk (FK R kk K))) abB (ek _ _ _ _) Tryz.func111 (by kernel_rfl) rfl (fun _ _ _ _ _ _ h=>h _ _) (fun _ _ _ _ _=>by kernel_rfl) fun R kk e x0 x1 K=>by
 simp only[rl,Z4,FL,S0,anw (hF:=e),akh,aki,ay,<-e]
def JK:Env:=e0 []
def pB:ai:=yO.add 181 [] (Cj Hy (fun _ r K=>K [tS r] none))
theorem abD:aJ Tryz.prog pB:=HP JK Tryz.f181 (fun R kk K=>FA (fun a0=>K [tS a0] none)) abC (ek _ _ _ _) Tryz.func181 (by kernel_rfl) rfl (fun _ _ _ _ _ _ h=>h _ _) (fun _ _ _=>by kernel_rfl) fun R kk e K=>by
 simp only[Hy,FA,ay]
def oC:Env:=bG.env (fun i=>bif Nat.beq i 2 then [0,3] else []) (fun i=>bif Nat.beq i 2 then [2] else []) [] [(.int .u8)]
def Z1(a b:Int):Option R:=aw (ev oC (pB R) kk (sub [1,0,1,0,0] (cd Tryz.f208))) [0,3] [2] k ⟨[tU a]::uS 2 ([tI b]::uS 10 []),nS 15 []⟩ J
def zsg(a:Int):State:=⟨uS 2 ([tI a]::uS 11 []),nS 15 []⟩
def zsh:State:=⟨uS 14 [],nS 15 []⟩
def FF:KX R:=(zk 0 (aF oC (pB R) kk (sub [1,1] (cd Tryz.f208)) (aD oC Tryz.f208.results.toList none K)))
theorem z226(a b:Int):Z1 R kk (k+1) J a b=
 FH a b (fun a0=>J .ret (zsg a0)) (Z1 R kk k J) (J (.exit 0) (zsh)):=by kernel_rfl
theorem akf(a:Int):FF R kk K .ret (zsg a)=
 FI a (fun a0=>K [tI a0] none):=by kernel_rfl
theorem akg:FF R kk K (.exit 0) (zsh)=
 FJ (fun a0=>K [tI a0] none):=by kernel_rfl
theorem anv{kk:Nat}(hF:kk=ah)(jv t3:Int):Z1 R kk k J jv t3=(Z2 k jv t3).bind fun e=>(Sum.elim (fun(we:Int)=>J .ret (zsg we)) (fun(we:Unit)=>J (.exit 0) (zsh)) e):=by
 induction k generalizing jv t3 with
 |zero=>rfl
 |succ k ih=>
  rw[z226]
  simp only[Z2,FH,ih,ay]
def ky:ai:=pB.add 208 [(.int .u8)] (cC (.int .u8) Br (fun _ r K=>K [tI r] none))
theorem abE:aJ Tryz.prog ky:=cD oC Tryz.f208 (fun R kk x0 K=>FG x0 (Z1 R kk kk (FF R kk K))) abD (ek _ _ _ _) Tryz.func208 (by kernel_rfl) rfl (fun _ _ _ _ _ _ h=>h _ _) (fun _ _ _ _=>by kernel_rfl) fun R kk e x0 K=>by
 simp only[Br,FG,FI,FJ,anv (hF:=e),akf,akg,ay,<-e]
def jq:Env:=bG.env (fun i=>bif Nat.beq i 2 then [0,5] else bif Nat.beq i 10 then [0,6,7] else []) (fun i=>bif Nat.beq i 2 then [0,2,3,4] else bif Nat.beq i 10 then [6] else []) [] [.str]
def ZV(a:ByteArray)(b:Int):Option R:=aw (ev jq (ky R) kk (sub [1,0,1,0,0] (cd Tryz.f175))) [0,5] [0,2,3,4] k ⟨[tS a]::uS 4 ([tI b]::uS 44 []),nS 51 []⟩ J
def zsc(a b:ByteArray)(c:Int)(d:Bool):State:=⟨[tS a]::uS 1 ([tS b]::[tI c]::[tB d]::uS 45 []),nS 51 []⟩
def zsd(a:ByteArray):State:=⟨[tS a]::uS 49 [],nS 51 []⟩
def FB:KX R:=(zk 0 (aF jq (ky R) kk (sub [1,1] (cd Tryz.f175)) (aD jq Tryz.f175.results.toList none K)))
def ZW(a:ByteArray)(b:(List Int))(c:Int):Option R:=aw (ev jq (ky R) kk (sub [1,1,1,1,0,1,0,0] (cd Tryz.f175))) [0,6,7] [6] k ⟨[tS a]::uS 5 ([.aj (.sl 5 (.int .u8)) b [[]]]::[tI c]::uS 42 []),nS 51 []⟩ J
def zse(a:(List Int)):State:=⟨uS 6 ([.aj (.sl 5 (.int .u8)) a [[]]]::uS 43 []),nS 51 []⟩
def Qu:KX R:=(zk 2 (aF jq (ky R) kk (sub [1,1,1,1,1] (cd Tryz.f175)) (aD jq Tryz.f175.results.toList none K)))
theorem apK(a:ByteArray)(b:Int):ZV R kk (k+1) J a b=
 SX a b (fun a0 a1 a2 a3=>J .ret (zsc a0 a1 a2 a3)) (ZV R kk k J) (fun a0=>J (.exit 0) (zsd a0)):=by kernel_rfl
theorem akb(a b:ByteArray)(c:Int)(d:Bool):FB R kk K .ret (zsc a b c d)=
 FC a b c d (fun a0 a1 a2=>K [tS a0,tI a1,tB a2] none):=by kernel_rfl
theorem akc(a:ByteArray):FB R kk K (.exit 0) (zsd a)=
 ZY a (fun a0 a1 a2=>K [tS a0,tI a1,tB a2] none) (ZW R kk kk (Qu R kk K)):=by kernel_rfl
theorem apL(a:ByteArray)(b:(List Int))(c:Int):ZW R kk (k+1) J a b c=
 SY a b c (ZW R kk k J) (fun a0=>J (.exit 2) (zse a0)):=by kernel_rfl
theorem akd(a:(List Int)):Qu R kk K (.exit 2) (zse a)=
 FD a (fun a0 a1 a2=>K [tS a0,tI a1,tB a2] none):=by kernel_rfl
theorem ans{kk:Nat}(hF:kk=ah)(dw:ByteArray)(t5:Int):ZV R kk k J dw t5=(Hi k dw t5).bind fun e=>(Sum.elim (fun(we:(ByteArray×ByteArray×Int×Bool))=>J .ret (zsc we.1 we.2.1 we.2.2.1 we.2.2.2)) (fun(we:ByteArray)=>J (.exit 0) (zsd we)) e):=by
 induction k generalizing dw t5 with
 |zero=>rfl
 |succ k ih=>
  rw[apK]
  simp only[Hi,SX,ih,ay]
theorem ant{kk:Nat}(hF:kk=ah)(dw:ByteArray)(t6:(List Int))(t7:Int):ZW R kk k J dw t6 t7=(Hj k dw t6 t7).bind fun e=>J (.exit 2) (zse e):=by
 induction k generalizing dw t6 t7 with
 |zero=>rfl
 |succ k ih=>
  rw[apL]
  simp only[Hj,SY,ih,ay]
def ju:ai:=ky.add 175 [.str] (cC .str yc (fun _ r K=>K [tS r.1,tI r.2.1,tB r.2.2] none))
theorem abF:aJ Tryz.prog ju:=cD jq Tryz.f175 (fun R kk x0 K=>ZX x0 (ZV R kk kk (FB R kk K))) abE (ek _ _ _ _) Tryz.func175 (by kernel_rfl) rfl (fun _ _ _ _ _ _ h=>h _ _) (fun _ _ _ _=>by kernel_rfl) fun R kk e x0 K=>by
 simp only[yc,ZX,FC,ZY,FD,ans (hF:=e),ant (hF:=e),akb,akc,akd,ay,<-e]
def js:Env:={bG.env (fun i=>bif Nat.beq i 14 then [3,11,15,16] else bif Nat.beq i 19 then [3,11,15,16,17,18,19] else []) (fun i=>bif Nat.beq i 14 then [15] else bif Nat.beq i 19 then [3,11,15,16] else []) [] [(.int .i64),.str,(.int .i64),(.int .i64)] with ro:=true}
def zxa(a:Int)(b:ByteArray)(c:(List Int))(d:Int):Option R:=aw (ev js (ju R) kk (sub [1,1,1,1,1,1,1,0,1,0,0] (cd Tryz.f173))) [3,11,15,16] [15] k ⟨uS 3 ([tI a]::uS 7 ([tS b]::uS 3 ([.aj (.sl 3 (.int .i64)) c [[]]]::[tI d]::uS 58 []))),nS 76 []⟩ J
def zsu(a:(List Int)):State:=⟨uS 15 ([.aj (.sl 3 (.int .i64)) a [[]]]::uS 59 []),nS 76 []⟩
def QA:KX R:=(zk 0 (aF js (ju R) kk (sub [1,1,1,1,1,1,1,1] (cd Tryz.f173)) (aD js Tryz.f173.results.toList none K)))
def zxb(a:Int)(b:ByteArray)(c:(List Int))(d e f g:Int):Option R:=aw (ev js (ju R) kk (sub [1,1,1,1,1,1,1,0,1,0,0,1,0,0,1,1,1,0,0] (cd Tryz.f173))) [3,11,15,16,17,18,19] [3,11,15,16] k ⟨uS 3 ([tI a]::uS 7 ([tS b]::uS 3 ([.aj (.sl 3 (.int .i64)) c [[]]]::[tI d]::[tU e]::[tU f]::[tI g]::uS 55 []))),nS 76 []⟩ J
def zsv(a:Int)(b:ByteArray)(c:(List Int))(d:Int):State:=⟨uS 3 ([tI a]::uS 7 ([tS b]::uS 3 ([.aj (.sl 3 (.int .i64)) c [[]]]::[tI d]::uS 58 []))),nS 76 []⟩
def QB:KX R:=(zk 2 (zk 1 (aF js (ju R) kk (sub [1,1,1,1,1,1,1,0,1,0,0,1,1] (cd Tryz.f173)) (iB (ev js (ju R) kk (sub [1,1,1,1,1,1,1,0,1,0,0] (cd Tryz.f173))) [3,11,15,16] [15] k J))))
theorem apT(a:Int)(b:ByteArray)(c:(List Int))(d:Int):zxa R kk (k+1) J a b c d=
 zip a b c d (zxb R kk kk (QB R kk k J)) (fun a0=>J (.exit 0) (zsu a0)):=by kernel_rfl
theorem akt(a:(List Int)):QA R kk K (.exit 0) (zsu a)=
 zxc a (fun a0 a1=>K [.aj (.sl 3 (.int .i64)) a0 [],tI a1] none):=by kernel_rfl
theorem apU(a:Int)(b:ByteArray)(c:(List Int))(d e f g:Int):zxb R kk (k+1) J a b c d e f g=
 S8 a b c d e f g (zxb R kk k J) (fun a0 a1 a2 a3=>J (.exit 2) (zsv a0 a1 a2 a3)):=by kernel_rfl
theorem aku(a:Int)(b:ByteArray)(c:(List Int))(d:Int):QB R kk k J (.exit 2) (zsv a b c d)=
 zxd a b c d (zxa R kk k J):=by kernel_rfl
theorem anH{kk:Nat}(hF:kk=ah)(gi:Int)(t11:ByteArray)(t15:(List Int))(t16 t17 t18 t19:Int):zxb R kk k J gi t11 t15 t16 t17 t18 t19=(Hq k gi t11 t15 t16 t17 t18 t19).bind fun e=>J (.exit 2) (zsv e.1 e.2.1 e.2.2.1 e.2.2.2):=by
 induction k generalizing gi t11 t15 t16 t17 t18 t19 with
 |zero=>rfl
 |succ k ih=>
  rw[apU]
  simp only[Hq,S8,ih,ay]
theorem anG{kk:Nat}(hF:kk=ah)(gi:Int)(t11:ByteArray)(t15:(List Int))(t16:Int):zxa R kk k J gi t11 t15 t16=(A8 k gi t11 t15 t16).bind fun e=>J (.exit 0) (zsu e):=by
 induction k generalizing gi t11 t15 t16 with
 |zero=>rfl
 |succ k ih=>
  rw[apT]
  simp only[A8,zip,zxd,ih,anH (hF:=hF),aku,ay,<-hF]
def yP:ai:=ju.add 173 [(.int .i64),.str,(.int .i64),(.int .i64)] (xf (.int .i64) .str (.int .i64) (.int .i64) oL (fun _ r K=>K [.aj (.sl 3 (.int .i64)) r.1 [],tI r.2] none))
theorem abG:aJ Tryz.prog yP:=AD js Tryz.f173 (fun R kk x0 x1 x2 x3 K=>IQ x0 x1 x2 x3 (fun a0 a1=>K [.aj (.sl 3 (.int .i64)) a0 [],tI a1] none) (fun a0 a1 a2 a3=>zxa R kk kk (QA R kk K) a0 a1 a2 a3)) abF ((ek _ _ _ _).ro _) Tryz.func173 (by kernel_rfl) rfl (fun _ _ _ _ _ _ h=>h _ _) (fun _ _ _ _ _ _ _=>by kernel_rfl) fun R kk e x0 x1 x2 x3 K=>by
 simp only[oL,adl,zxc,anG (hF:=e),akt,ay,<-e]
def JO:Env:={e0 [(.int .i64),.str,(.int .i64)] with ro:=true}
def yQ:ai:=yP.add 113 [(.int .i64),.str,(.int .i64)] (gu (.int .i64) .str (.int .i64) vE (fun _ r K=>K [.aj (.sl 3 (.int .i64)) r.1 [],tI r.2.1,tI r.2.2] none))
theorem abH:aJ Tryz.prog yQ:=gx JO Tryz.f113 (fun R kk x0 x1 x2 K=>zx4 x0 x1 x2 (fun a0 a1 a2=>K [.aj (.sl 3 (.int .i64)) a0 [],tI a1,tI a2] none)) abG ((ek _ _ _ _).ro _) Tryz.func113 (by kernel_rfl) rfl (fun _ _ _ _ _ _ h=>h _ _) (fun _ _ _ _ _ _=>by kernel_rfl) fun R kk e x0 x1 x2 K=>by
 simp only[vE,zx4,ay]
def JT:Env:=e0 [(.int .i64)]
def yR:ai:=yQ.add 182 [(.int .i64)] (cC (.int .i64) yg (fun _ r K=>K [tI r] none))
theorem abI:aJ Tryz.prog yR:=cD JT Tryz.f182 (fun R kk x0 K=>S9 x0 (fun a0=>K [tI a0] none)) abH (ek _ _ _ _) Tryz.func182 (by kernel_rfl) rfl (fun _ _ _ _ _ _ h=>h _ _) (fun _ _ _ _=>by kernel_rfl) fun R kk e x0 K=>by
 simp only[yg,S9,ay]
def JR:Env:=e0 [(.int .i64),(.int .i64),.str,(.int .i64)]
def bL:ai:=yR.add 174 [(.int .i64),(.int .i64),.str,(.int .i64)] (xf (.int .i64) (.int .i64) .str (.int .i64) JQ (fun _ r K=>K [tI r.1,tI r.2.1,tI r.2.2] none))
theorem abJ:aJ Tryz.prog bL:=AD JR Tryz.f174 (fun R kk x0 x1 x2 x3 K=>zxe x0 x1 x2 x3 (fun a0 a1 a2=>K [tI a0,tI a1,tI a2] none)) abI (ek _ _ _ _) Tryz.func174 (by kernel_rfl) rfl (fun _ _ _ _ _ _ h=>h _ _) (fun _ _ _ _ _ _ _=>by kernel_rfl) fun R kk e x0 x1 x2 x3 K=>by
 simp only[JQ,zxe,ay]
def aV:Env:={e0 [(.int .i64),y9,.str,(.int .i64)] with join:=fun i=>bif Nat.beq i 2 then some [0,2,3,5,44] else bif Nat.beq i 3 then some [0,2,3,5] else bif Nat.beq i 8 then some [0,2,5,12,13] else bif Nat.beq i 12 then some [0,2,3,5,11] else bif Nat.beq i 9 then some [0,2,5,12,13,72] else bif Nat.beq i 14 then some [0,2,3,5,11,15,82] else bif Nat.beq i 10 then some [0,2,5,12,13] else bif Nat.beq i 15 then some [0,2,3,5,11,15] else bif Nat.beq i 16 then some [0,2,3,5,11,15,92] else bif Nat.beq i 17 then some [0,2,3,5,11,15] else bif Nat.beq i 19 then some [0,2,3,5,11,15] else bif Nat.beq i 21 then some [0,3,5,11,15,16,114] else bif Nat.beq i 24 then some [0,3,5,15,17] else bif Nat.beq i 25 then some [0,3,5,15,16] else bif Nat.beq i 26 then some [3,5,15,16,132] else bif Nat.beq i 29 then some [3,5,15,20] else bif Nat.beq i 30 then some [3,5,15,16] else bif Nat.beq i 33 then some [3,15,16] else none}
def QC(a:Int)(b:ByteArray)(c:Int)(d:Bool)(e:ap):Option R:=ev aV (bL R) kk (sub [1,0,1] (cd Tryz.f114)) ⟨[tI a]::uS 1 ([tS b]::[tI c]::uS 1 ([.ptr 6 y9 []]::uS 38 ([tB d]::uS 107 []))),nS 6 ((some ⟨y9,e,[]⟩)::nS 146 [])⟩ (aF aV (bL R) kk (sub [1,1] (cd Tryz.f114)) (aD aV Tryz.f114.results.toList none K))
def QD(a:Int)(b:ByteArray)(c:Int)(d:ap):Option R:=ev aV (bL R) kk (sub [1,1] (cd Tryz.f114)) ⟨[tI a]::uS 1 ([tS b]::[tI c]::uS 1 ([.ptr 6 y9 []]::uS 146 [])),nS 6 ((some ⟨y9,d,[]⟩)::nS 146 [])⟩ (aD aV Tryz.f114.results.toList none K)
def QE(a:Int)(b:ByteArray)(c d:Int)(e:ap):Option R:=ev aV (bL R) kk (sub [1,1,1,0,1,0,1,1] (cd Tryz.f114)) ⟨[tI a]::uS 1 ([tS b]::uS 2 ([.ptr 6 y9 []]::uS 6 ([tI c]::[tI d]::uS 138 []))),nS 6 ((some ⟨y9,e,[]⟩)::nS 146 [])⟩ (aF aV (bL R) kk (sub [1,1,1,1] (cd Tryz.f114)) (aD aV Tryz.f114.results.toList none K))
def F6(a:Int)(b:ByteArray)(c d:Int)(e:ap):Option R:=ev aV (bL R) kk (sub [1,1,1,1] (cd Tryz.f114)) ⟨[tI a]::uS 1 ([tS b]::[tI c]::uS 1 ([.ptr 6 y9 []]::uS 5 ([tI d]::uS 140 []))),nS 6 ((some ⟨y9,e,[]⟩)::nS 146 [])⟩ (aD aV Tryz.f114.results.toList none K)
def QF(a:Int)(b:ByteArray)(c d:Int)(e:Bool)(f:ap):Option R:=ev aV (bL R) kk (sub [1,1,1,0,1,0,1,1,0,1] (cd Tryz.f114)) ⟨[tI a]::uS 1 ([tS b]::uS 2 ([.ptr 6 y9 []]::uS 6 ([tI c]::[tI d]::uS 58 ([tB e]::uS 79 [])))),nS 6 ((some ⟨y9,f,[]⟩)::nS 146 [])⟩ (aF aV (bL R) kk (sub [1,1,1,0,1,0,1,1,1] (cd Tryz.f114)) (aF aV (bL R) kk (sub [1,1,1,1] (cd Tryz.f114)) (aD aV Tryz.f114.results.toList none K)))
def QG(a:Int)(b:ByteArray)(c d e:Int)(f:Bool)(g:ap):Option R:=ev aV (bL R) kk (sub [1,1,1,1,1,0,1] (cd Tryz.f114)) ⟨[tI a]::uS 1 ([tS b]::[tI c]::uS 1 ([.ptr 6 y9 []]::uS 5 ([tI d]::uS 3 ([tI e]::uS 66 ([tB f]::uS 69 []))))),nS 6 ((some ⟨y9,g,[]⟩)::nS 146 [])⟩ (aF aV (bL R) kk (sub [1,1,1,1,1,1] (cd Tryz.f114)) (aD aV Tryz.f114.results.toList none K))
def QH(a:Int)(b:ByteArray)(c d:Int)(e:ap):Option R:=ev aV (bL R) kk (sub [1,1,1,0,1,0,1,1,1] (cd Tryz.f114)) ⟨[tI a]::uS 1 ([tS b]::uS 2 ([.ptr 6 y9 []]::uS 6 ([tI c]::[tI d]::uS 138 []))),nS 6 ((some ⟨y9,e,[]⟩)::nS 146 [])⟩ (aF aV (bL R) kk (sub [1,1,1,1] (cd Tryz.f114)) (aD aV Tryz.f114.results.toList none K))
def QI(a:Int)(b:ByteArray)(c d e:Int)(f:ap):Option R:=ev aV (bL R) kk (sub [1,1,1,1,1,1] (cd Tryz.f114)) ⟨[tI a]::uS 1 ([tS b]::[tI c]::uS 1 ([.ptr 6 y9 []]::uS 5 ([tI d]::uS 3 ([tI e]::uS 136 [])))),nS 6 ((some ⟨y9,f,[]⟩)::nS 146 [])⟩ (aD aV Tryz.f114.results.toList none K)
def QJ(a:Int)(b:ByteArray)(c d e:Int)(f:Bool)(g:ap):Option R:=ev aV (bL R) kk (sub [1,1,1,1,1,1,0,1] (cd Tryz.f114)) ⟨[tI a]::uS 1 ([tS b]::[tI c]::uS 1 ([.ptr 6 y9 []]::uS 5 ([tI d]::uS 3 ([tI e]::uS 76 ([tB f]::uS 59 []))))),nS 6 ((some ⟨y9,g,[]⟩)::nS 146 [])⟩ (aF aV (bL R) kk (sub [1,1,1,1,1,1,1] (cd Tryz.f114)) (aD aV Tryz.f114.results.toList none K))
def QK(a:Int)(b:ByteArray)(c d e:Int)(f:ap):Option R:=ev aV (bL R) kk (sub [1,1,1,1,1,1,1] (cd Tryz.f114)) ⟨[tI a]::uS 1 ([tS b]::[tI c]::uS 1 ([.ptr 6 y9 []]::uS 5 ([tI d]::uS 3 ([tI e]::uS 136 [])))),nS 6 ((some ⟨y9,f,[]⟩)::nS 146 [])⟩ (aD aV Tryz.f114.results.toList none K)
def PF(a:Int)(b:ByteArray)(c d e:Int)(f:ap):Option R:=ev aV (bL R) kk (sub [1,1,1,1,1,1,1,1] (cd Tryz.f114)) ⟨[tI a]::uS 1 ([tS b]::[tI c]::uS 1 ([.ptr 6 y9 []]::uS 5 ([tI d]::uS 3 ([tI e]::uS 136 [])))),nS 6 ((some ⟨y9,f,[]⟩)::nS 146 [])⟩ (aD aV Tryz.f114.results.toList none K)
def PG(a b c d:Int)(e:ByteArray)(f:Bool)(g:ap):Option R:=ev aV (bL R) kk (sub [1,1,1,1,1,1,1,1,1,0,1] (cd Tryz.f114)) ⟨[tI a]::uS 2 ([tI b]::uS 1 ([.ptr 6 y9 []]::uS 5 ([tI c]::uS 3 ([tI d]::[tS e]::uS 97 ([tB f]::uS 37 []))))),nS 6 ((some ⟨y9,g,[]⟩)::nS 146 [])⟩ (aF aV (bL R) kk (sub [1,1,1,1,1,1,1,1,1,1] (cd Tryz.f114)) (aD aV Tryz.f114.results.toList none K))
def PH(a b c:Int)(d:ByteArray)(e:ap):Option R:=ev aV (bL R) kk (sub [1,1,1,1,1,1,1,1,1,0,1,0,1,1] (cd Tryz.f114)) ⟨[tI a]::uS 2 ([tI b]::uS 1 ([.ptr 6 y9 []]::uS 9 ([tI c]::uS 1 ([tS d]::uS 134 [])))),nS 6 ((some ⟨y9,e,[]⟩)::nS 146 [])⟩ (aF aV (bL R) kk (sub [1,1,1,1,1,1,1,1,1,1] (cd Tryz.f114)) (aD aV Tryz.f114.results.toList none K))
def EX(a b c:Int)(d:ByteArray)(e:ap):Option R:=ev aV (bL R) kk (sub [1,1,1,1,1,1,1,1,1,1] (cd Tryz.f114)) ⟨[tI a]::uS 2 ([tI b]::uS 1 ([.ptr 6 y9 []]::uS 9 ([tI c]::[tS d]::uS 135 []))),nS 6 ((some ⟨y9,e,[]⟩)::nS 146 [])⟩ (aD aV Tryz.f114.results.toList none K)
def PI(a b:Int)(c:ByteArray)(d:Bool)(e:ap):Option R:=ev aV (bL R) kk (sub [1,1,1,1,1,1,1,1,1,1,0,1] (cd Tryz.f114)) ⟨uS 3 ([tI a]::uS 1 ([.ptr 6 y9 []]::uS 9 ([tI b]::[tS c]::uS 115 ([tB d]::uS 19 [])))),nS 6 ((some ⟨y9,e,[]⟩)::nS 146 [])⟩ (aF aV (bL R) kk (sub [1,1,1,1,1,1,1,1,1,1,1] (cd Tryz.f114)) (aD aV Tryz.f114.results.toList none K))
def PJ(a b:Int)(c:ByteArray)(d:ap):Option R:=ev aV (bL R) kk (sub [1,1,1,1,1,1,1,1,1,1,0,1,0,1,1] (cd Tryz.f114)) ⟨uS 3 ([tI a]::uS 1 ([.ptr 6 y9 []]::uS 9 ([tI b]::uS 4 ([tS c]::uS 131 [])))),nS 6 ((some ⟨y9,d,[]⟩)::nS 146 [])⟩ (aF aV (bL R) kk (sub [1,1,1,1,1,1,1,1,1,1,1] (cd Tryz.f114)) (aD aV Tryz.f114.results.toList none K))
def EY(a b:Int)(c:ByteArray)(d:ap):Option R:=ev aV (bL R) kk (sub [1,1,1,1,1,1,1,1,1,1,1] (cd Tryz.f114)) ⟨uS 3 ([tI a]::uS 1 ([.ptr 6 y9 []]::uS 9 ([tI b]::[tS c]::uS 135 []))),nS 6 ((some ⟨y9,d,[]⟩)::nS 146 [])⟩ (aD aV Tryz.f114.results.toList none K)
def PK(a b:Int)(c:ByteArray):Option R:=ev aV (bL R) kk (sub [1,1,1,1,1,1,1,1,1,1,1,1] (cd Tryz.f114)) ⟨uS 3 ([tI a]::uS 11 ([tI b]::[tS c]::uS 135 [])),nS 153 []⟩ (aD aV Tryz.f114.results.toList none K)
theorem anL(a:Int)(b:ByteArray)(c:Int)(d:Bool)(e:ap):QC R kk K a b c d e=
 zxl a b c d e (fun a0 a1 a2=>K [tS a0,tI a1,tI a2] none) (fun a0 a1 a2 a3=>aY kk fun _=>QD R kk K a0 a1 a2 a3):=by kernel_rfl
theorem anM(a:Int)(b:ByteArray)(c:Int)(d:ap):QD R kk K a b c d=
 zxm a b c d (fun a0 a1 a2=>K [tS a0,tI a1,tI a2] none) (fun a0 a1 a2 a3 a4=>aY kk fun _=>QE R kk K a0 a1 a2 a3 a4) (fun a0 a1 a2 a3 a4=>aY kk fun _=>F6 R kk K a0 a1 a2 a3 a4):=by kernel_rfl
theorem anN(a:Int)(b:ByteArray)(c d:Int)(e:ap):QE R kk K a b c d e=
 I1 a b c d e (fun a0 a1 a2 a3 a4 a5=>aY kk fun _=>QF R kk K a0 a1 a2 a3 a4 a5):=by kernel_rfl
theorem anO(a:Int)(b:ByteArray)(c d:Int)(e:ap):F6 R kk K a b c d e=
 xP a b c d e (fun a0 a1 a2 a3 a4 a5 a6=>aY kk fun _=>QG R kk K a0 a1 a2 a3 a4 a5 a6):=by kernel_rfl
theorem anP(a:Int)(b:ByteArray)(c d:Int)(e:Bool)(f:ap):QF R kk K a b c d e f=
 zxn a b c d e f (fun a0 a1 a2=>K [tS a0,tI a1,tI a2] none) (fun a0 a1 a2 a3 a4=>aY kk fun _=>QH R kk K a0 a1 a2 a3 a4):=by kernel_rfl
theorem anQ(a:Int)(b:ByteArray)(c d e:Int)(f:Bool)(g:ap):QG R kk K a b c d e f g=
 xQ a b c d e f g (fun a0 a1 a2 a3 a4 a5=>aY kk fun _=>QI R kk K a0 a1 a2 a3 a4 a5):=by kernel_rfl
theorem anR(a:Int)(b:ByteArray)(c d:Int)(e:ap):QH R kk K a b c d e=
 zxo a b c d e (fun a0 a1 a2 a3 a4=>aY kk fun _=>F6 R kk K a0 a1 a2 a3 a4):=by kernel_rfl
theorem anS(a:Int)(b:ByteArray)(c d e:Int)(f:ap):QI R kk K a b c d e f=
 xR a b c d e f (fun a0 a1 a2 a3 a4 a5 a6=>aY kk fun _=>QJ R kk K a0 a1 a2 a3 a4 a5 a6):=by kernel_rfl
theorem anT(a:Int)(b:ByteArray)(c d e:Int)(f:Bool)(g:ap):QJ R kk K a b c d e f g=
 xS a b c d e f g (fun a0 a1 a2 a3 a4 a5=>aY kk fun _=>QK R kk K a0 a1 a2 a3 a4 a5):=by kernel_rfl
theorem anU(a:Int)(b:ByteArray)(c d e:Int)(f:ap):QK R kk K a b c d e f=
 GZ a b c d e f (fun a0 a1 a2=>K [tS a0,tI a1,tI a2] none) (fun a0 a1 a2 a3 a4 a5=>aY kk fun _=>PF R kk K a0 a1 a2 a3 a4 a5):=by kernel_rfl
theorem akz(a:Int)(b:ByteArray)(c d e:Int)(f:ap):PF R kk K a b c d e f=
 xI a b c d e f (fun a0 a1 a2 a3 a4 a5 a6=>aY kk fun _=>PG R kk K a0 a1 a2 a3 a4 a5 a6):=by kernel_rfl
theorem akA(a b c d:Int)(e:ByteArray)(f:Bool)(g:ap):PG R kk K a b c d e f g=
 G0 a b c d e f g (fun a0 a1 a2=>K [tS a0,tI a1,tI a2] none) (fun a0 a1 a2 a3 a4=>aY kk fun _=>PH R kk K a0 a1 a2 a3 a4) (fun a0 a1 a2 a3 a4=>aY kk fun _=>EX R kk K a0 a1 a2 a3 a4):=by kernel_rfl
theorem akB(a b c:Int)(d:ByteArray)(e:ap):PH R kk K a b c d e=
 G1 a b c d e (fun a0 a1 a2 a3 a4=>aY kk fun _=>EX R kk K a0 a1 a2 a3 a4):=by kernel_rfl
theorem akC(a b c:Int)(d:ByteArray)(e:ap):EX R kk K a b c d e=
 xJ a b c d e (fun a0 a1 a2 a3 a4=>aY kk fun _=>PI R kk K a0 a1 a2 a3 a4):=by kernel_rfl
theorem akD(a b:Int)(c:ByteArray)(d:Bool)(e:ap):PI R kk K a b c d e=
 G2 a b c d e (fun a0 a1 a2=>K [tS a0,tI a1,tI a2] none) (fun a0 a1 a2 a3=>aY kk fun _=>PJ R kk K a0 a1 a2 a3) (fun a0 a1 a2 a3=>aY kk fun _=>EY R kk K a0 a1 a2 a3):=by kernel_rfl
theorem akE(a b:Int)(c:ByteArray)(d:ap):PJ R kk K a b c d=
 G3 a b c d (fun a0 a1 a2 a3=>aY kk fun _=>EY R kk K a0 a1 a2 a3):=by kernel_rfl
theorem akF(a b:Int)(c:ByteArray)(d:ap):EY R kk K a b c d=
 G4 a b c d (fun a0 a1 a2=>K [tS a0,tI a1,tI a2] none) (fun a0 a1 a2=>aY kk fun _=>PK R kk K a0 a1 a2):=by kernel_rfl
theorem akG(a b:Int)(c:ByteArray):PK R kk K a b c=
 G5 a b c (fun a0 a1 a2=>K [tS a0,tI a1,tI a2] none):=by kernel_rfl
def pC:ai:=bL.add 114 [(.int .i64),y9,.str,(.int .i64)] (xf (.int .i64) y9 .str (.int .i64) HA (fun _ r K=>K [tS r.1,tI r.2.1,tI r.2.2] none))
theorem abK:aJ Tryz.prog pC:=AD aV Tryz.f114 (fun R kk x0 x1 x2 x3 K=>I0 x0 x1 x2 x3 (fun a0 a1 a2 a3 a4=>aY kk fun _=>QC R kk K a0 a1 a2 a3 a4)) abJ ((ek _ _ _ _).join _) Tryz.func114 (by kernel_rfl) rfl (fun _ _ _ _ _ _ h=>h _ _) (fun _ _ _ _ _ _ _=>by kernel_rfl) fun R kk e x0 x1 x2 x3 K=>by
 simp only[HA,adn,zxl,zxm,ado,adp,zxn,adq,zxo,adr,ads,GZ,acS,G0,G1,acT,G2,G3,G4,G5,F7,zxk,F8,ux,F9,IW,Ga,IX,IY,IZ,Iu,z91,Iv,GX,z93,Iw,GY,Ix,anL,anM,akz,akA,akB,akC,akD,akE,akF,akG,anN,anO,anP,anQ,anR,anS,anT,anU,Ge (hF:=e),ay]
def Yy:Env:=bG.env (fun i=>bif Nat.beq i 19 then [1,2,4,5,6,9,10,12] else []) (fun i=>bif Nat.beq i 19 then [1,4,5,6,10] else []) [4,5] [aC,.str]
def Ve(a:ByteArray)(b:(List Int))(c d:Int)(e:ag)(f:af)(g:ax)(h:af):Option R:=aw (ev Yy (pC R) kk (sub [1,1,1,1,1,1,1,1,1,1,1,1,0,1,0,0] (cd Tryz.f41))) [1,2,4,5,6,9,10,12] [1,4,5,6,10] k ⟨uS 1 ([tS a]::[.ptr 3 aC []]::uS 1 ([.ptr 5 y5 []]::[.ptr 6 (.pair (.int .i64) (.pair (.int .i64) .unit)) []]::[.ptr 7 y5 []]::uS 2 ([.aj (.sl 3 (.int .i64)) b []]::[tI c]::uS 1 ([tI d]::uS 124 [])))),nS 3 ((some ⟨aC,e,[]⟩)::nS 1 ((some ⟨y5,f,[[1]]⟩)::(some ⟨(.pair (.int .i64) (.pair (.int .i64) .unit)),g,[]⟩)::(some ⟨y5,h,[[1]]⟩)::nS 130 []))⟩ J
def zfl(a:ByteArray)(b:Int)(c:af)(d:ax)(e:af):State:=⟨uS 1 ([tS a]::uS 2 ([.ptr 5 y5 []]::[.ptr 6 (.pair (.int .i64) (.pair (.int .i64) .unit)) []]::[.ptr 7 y5 []]::uS 3 ([tI b]::uS 126 []))),nS 5 ((some ⟨y5,c,[[1]]⟩)::(some ⟨(.pair (.int .i64) (.pair (.int .i64) .unit)),d,[]⟩)::(some ⟨y5,e,[]⟩)::nS 130 [])⟩
def zfm(a:ByteArray)(b:Int)(c:af)(d:ax)(e:af):State:=⟨uS 1 ([tS a]::uS 2 ([.ptr 5 y5 []]::[.ptr 6 (.pair (.int .i64) (.pair (.int .i64) .unit)) []]::[.ptr 7 y5 []]::uS 3 ([tI b]::uS 126 []))),nS 5 ((some ⟨y5,c,[[1]]⟩)::(some ⟨(.pair (.int .i64) (.pair (.int .i64) .unit)),d,[]⟩)::(some ⟨y5,e,[[1]]⟩)::nS 130 [])⟩
def zzz:KX R:=(zk 0 (aF Yy (pC R) kk (sub [1,1,1,1,1,1,1,1,1,1,1,1,1] (cd Tryz.f41)) (aD Yy Tryz.f41.results.toList none K)))
theorem ami(a:ByteArray)(b:(List Int))(c d:Int)(e:ag)(f:af)(g:ax)(h:af):Ve R kk (k+1) J a b c d e f g h=
 RR a b c d e f g h (fun a0 a1 a2 a3 a4=>J .ret (zfl a0 a1 a2 a3 a4)) (Ve R kk k J) (fun a0 a1 a2 a3 a4=>J (.exit 0) (zfm a0 a1 a2 a3 a4)):=by kernel_rfl
theorem ae6(a:ByteArray)(b:Int)(c:af)(d:ax)(e:af):zzz R kk K .ret (zfl a b c d e)=
 Cu a b c d e (fun a0 a1=>K [.aj y5 a0 [[1]],.aj (.pair (.int .i64) (.pair (.int .i64) .unit)) a1 []] none):=by kernel_rfl
theorem ae7(a:ByteArray)(b:Int)(c:af)(d:ax)(e:af):zzz R kk K (.exit 0) (zfm a b c d e)=
 Cv a b c d e (fun a0 a1=>K [.aj y5 a0 [[1]],.aj (.pair (.int .i64) (.pair (.int .i64) .unit)) a1 []] none):=by kernel_rfl
theorem aiO{kk:Nat}(hF:kk=ah)(s7:ByteArray)(t9:(List Int))(t10 t12:Int)(cA:ag)(bQ:af)(cV:ax)(eL:af):Ve R kk k J s7 t9 t10 t12 cA bQ cV eL=(AW k s7 t9 t10 t12 cA bQ cV eL).bind fun e=>(Sum.elim (fun(we:iS)=>J .ret (zfl we.1 we.2.1 we.2.2.1 we.2.2.2.1 we.2.2.2.2)) (fun(we:iS)=>J (.exit 0) (zfm we.1 we.2.1 we.2.2.1 we.2.2.2.1 we.2.2.2.2)) e):=by
 induction k generalizing s7 t9 t10 t12 cA bQ cV eL with
 |zero=>rfl
 |succ k ih=>
  rw[ami]
  simp only[AW,RR,ih,ay]
def pD:ai:=pC.add 41 [aC,.str] (cP aC .str qg (fun _ r K=>K [.aj y5 r.1 [[1]],.aj (.pair (.int .i64) (.pair (.int .i64) .unit)) r.2 []] none))
theorem abL:aJ Tryz.prog pD:=cR Yy Tryz.f41 (fun R kk x0 x1 K=>Ia x0 x1 (fun a0 a1=>K [.aj y5 a0 [[1]],.aj (.pair (.int .i64) (.pair (.int .i64) .unit)) a1 []] none) (fun a0 a1 a2 a3 a4 a5 a6 a7=>Ve R kk kk (zzz R kk K) a0 a1 a2 a3 a4 a5 a6 a7)) abK (ek _ _ _ _) Tryz.func41 (by kernel_rfl) rfl (fun _ _ _ _ _ _ h=>h _ _) (fun _ _ _ _ _=>by kernel_rfl) fun R kk e x0 x1 K=>by
 simp only[qg,acL,Cu,Cv,aiO (hF:=e),ae6,ae7,ay,<-e]
def ou:Env:=bG.env (fun i=>bif Nat.beq i 5 then [0,1,6,7] else []) (fun i=>bif Nat.beq i 5 then [0,6] else []) [] [(.int .i64),(.int .i64)]
def ZS(a b:Int)(c:ByteArray)(d:Int):Option R:=aw (ev ou (pD R) kk (sub [1,1,1,0,1,0,0] (cd Tryz.f183))) [0,1,6,7] [0,6] k ⟨[tI a]::[tI b]::uS 4 ([tS c]::[tI d]::uS 28 []),nS 37 []⟩ J
def zsb(a:Int)(b:ByteArray):State:=⟨[tI a]::uS 5 ([tS b]::uS 29 []),nS 37 []⟩
def Qt:KX R:=(zk 0 (aF ou (pD R) kk (sub [1,1,1,1] (cd Tryz.f183)) (aD ou Tryz.f183.results.toList none K)))
theorem z222(a b:Int)(c:ByteArray)(d:Int):ZS R kk (k+1) J a b c d=
 SW a b c d (ZS R kk k J) (fun a0 a1=>J (.exit 0) (zsb a0 a1)):=by kernel_rfl
theorem aka(a:Int)(b:ByteArray):Qt R kk K (.exit 0) (zsb a b)=
 ZU a b (fun a0 a1=>K [tS a0,tB a1] none):=by kernel_rfl
theorem anr{kk:Nat}(hF:kk=ah)(Cc cX:Int)(t6:ByteArray)(t7:Int):ZS R kk k J Cc cX t6 t7=(Hh k Cc cX t6 t7).bind fun e=>J (.exit 0) (zsb e.1 e.2):=by
 induction k generalizing Cc cX t6 t7 with
 |zero=>rfl
 |succ k ih=>
  rw[z222]
  simp only[Hh,SW,ih,ay]
def yS:ai:=pD.add 183 [(.int .i64),(.int .i64)] (cP (.int .i64) (.int .i64) Bq (fun _ r K=>K [tS r.1,tB r.2] none))
theorem abM:aJ Tryz.prog yS:=cR ou Tryz.f183 (fun R kk x0 x1 K=>ZT x0 x1 (fun a0 a1=>K [tS a0,tB a1] none) (ZS R kk kk (Qt R kk K))) abL (ek _ _ _ _) Tryz.func183 (by kernel_rfl) rfl (fun _ _ _ _ _ _ h=>h _ _) (fun _ _ _ _ _=>by kernel_rfl) fun R kk e x0 x1 K=>by
 simp only[Bq,ZT,ZU,anr (hF:=e),aka,ay,<-e]
def aoJ:Env:=e0 [.str]
def pE:ai:=yS.add 176 [.str] (cC .str rT (fun _ r K=>K [tS r] none))
theorem abN:aJ Tryz.prog pE:=cD aoJ Tryz.f176 (fun R kk x0 K=>UX x0 (fun a0=>K [tS a0] none)) abM (ek _ _ _ _) Tryz.func176 (by kernel_rfl) rfl (fun _ _ _ _ _ _ h=>h _ _) (fun _ _ _ _=>by kernel_rfl) fun R kk e x0 K=>by
 simp only[rT,UX,ay]
def Yt:Env:=bG.env (fun i=>bif Nat.beq i 2 then [1,2,5] else []) (fun i=>bif Nat.beq i 2 then [4] else []) [] [y5,(.int .i64)]
def U1(a b:Int)(c:af):Option R:=aw (ev Yt (pE R) kk (sub [1,0,1,0,0] (cd Tryz.f177))) [1,2,5] [4] k ⟨uS 1 ([tI a]::[.ptr 3 y5 []]::uS 2 ([tI b]::uS 16 [])),nS 3 ((some ⟨y5,c,[]⟩)::nS 19 [])⟩ J
def zff(a:Int):State:=⟨uS 4 ([tI a]::uS 17 []),nS 23 []⟩
def zfg:State:=⟨uS 22 [],nS 23 []⟩
def zzs:KX R:=(zk 0 (aF Yt (pE R) kk (sub [1,1] (cd Tryz.f177)) (aD Yt Tryz.f177.results.toList none K)))
theorem amd(a b:Int)(c:af):U1 R kk (k+1) J a b c=
 U3 a b c (fun a0=>J .ret (zff a0)) (U1 R kk k J) (J (.exit 0) (zfg)):=by kernel_rfl
theorem ae0(a:Int):zzs R kk K .ret (zff a)=
 zzt a (fun a0=>K [tI a0] none):=by kernel_rfl
theorem ae1:zzs R kk K (.exit 0) (zfg)=
 zzu (fun a0=>K [tI a0] none):=by kernel_rfl
theorem aiJ{kk:Nat}(hF:kk=ah)(cB t5:Int)(cA:af):U1 R kk k J cB t5 cA=(Gw k cB t5 cA).bind fun e=>(Sum.elim (fun(we:Int)=>J .ret (zff we)) (fun(we:Unit)=>J (.exit 0) (zfg)) e):=by
 induction k generalizing cB t5 cA with
 |zero=>rfl
 |succ k ih=>
  rw[amd]
  simp only[Gw,U3,ih,ay]
def pF:ai:=pE.add 177 [y5,(.int .i64)] (cP y5 (.int .i64) rV (fun _ r K=>K [tI r] none))
theorem abO:aJ Tryz.prog pF:=cR Yt Tryz.f177 (fun R kk x0 x1 K=>U2 x0 x1 (U1 R kk kk (zzs R kk K))) abN (ek _ _ _ _) Tryz.func177 (by kernel_rfl) rfl (fun _ _ _ _ _ _ h=>h _ _) (fun _ _ _ _ _=>by kernel_rfl) fun R kk e x0 x1 K=>by
 simp only[rV,U2,zzt,zzu,aiJ (hF:=e),ae0,ae1,ay,<-e]
def Yw:Env:=bG.env (fun i=>bif Nat.beq i 3 then [1,2,4,5,6] else []) (fun i=>bif Nat.beq i 3 then [4,5] else []) [4] [y5,(.int .i64)]
def U9(a b:Int)(c d e:af):Option R:=aw (ev Yw (pF R) kk (sub [1,1,0,1,0,0] (cd Tryz.f209))) [1,2,4,5,6] [4,5] k ⟨uS 1 ([tI a]::[.ptr 3 y5 []]::uS 1 ([.ptr 5 y5 []]::[.ptr 6 y5 []]::[tI b]::uS 29 [])),nS 3 ((some ⟨y5,c,[]⟩)::nS 1 ((some ⟨y5,d,[[1]]⟩)::(some ⟨y5,e,[[1]]⟩)::nS 30 []))⟩ J
def zfj(a b:af):State:=⟨uS 4 ([.ptr 5 y5 []]::[.ptr 6 y5 []]::uS 30 []),nS 5 ((some ⟨y5,a,[[1]]⟩)::(some ⟨y5,b,[[1]]⟩)::nS 30 [])⟩
def Pa:KX R:=(zk 0 (aF Yw (pF R) kk (sub [1,1,1] (cd Tryz.f209)) (aD Yw Tryz.f209.results.toList none K)))
theorem amg(a b:Int)(c d e:af):U9 R kk (k+1) J a b c d e=
 RP a b c d e (U9 R kk k J) (fun a0 a1=>J (.exit 0) (zfj a0 a1)):=by kernel_rfl
theorem ae4(a b:af):Pa R kk K (.exit 0) (zfj a b)=
 zzx a b (fun a0=>K [.aj y5 a0 [[1]]] none):=by kernel_rfl
theorem aiM{kk:Nat}(hF:kk=ah)(cB t6:Int)(cA bQ cV:af):U9 R kk k J cB t6 cA bQ cV=(xC k cB t6 cA bQ cV).bind fun e=>J (.exit 0) (zfj e.1 e.2):=by
 induction k generalizing cB t6 cA bQ cV with
 |zero=>rfl
 |succ k ih=>
  rw[amg]
  simp only[xC,RP,ih,ay]
def pG:ai:=pF.add 209 [y5,(.int .i64)] (cP y5 (.int .i64) rX (fun _ r K=>K [.aj y5 r [[1]]] none))
theorem abP:aJ Tryz.prog pG:=cR Yw Tryz.f209 (fun R kk x0 x1 K=>Va x0 x1 (U9 R kk kk (Pa R kk K))) abO (ek _ _ _ _) Tryz.func209 (by kernel_rfl) rfl (fun _ _ _ _ _ _ h=>h _ _) (fun _ _ _ _ _=>by kernel_rfl) fun R kk e x0 x1 K=>by
 simp only[rX,Va,zzx,aiM (hF:=e),ae4,ay,<-e]
def Yv:Env:=bG.env (fun i=>bif Nat.beq i 5 then [1,2,6,7,8,9,10] else []) (fun i=>bif Nat.beq i 5 then [1,2,6,7,9] else []) [6] [y5,(.int .i64),.str]
def U6(a:Int)(b:ByteArray)(c:Bool)(d:Int)(e f g:af):Option R:=aw (ev Yv (pG R) kk (sub [1,1,1,1,0,1,0,0] (cd Tryz.f178))) [1,2,6,7,8,9,10] [1,2,6,7,9] k ⟨uS 1 ([tI a]::[tS b]::uS 3 ([.ptr 7 y5 []]::[.ptr 8 y5 []]::[.ptr 9 y5 []]::[tB c]::[tI d]::uS 54 [])),nS 7 ((some ⟨y5,e,[[1]]⟩)::(some ⟨y5,f,[[1]]⟩)::(some ⟨y5,g,[[1]]⟩)::nS 56 [])⟩ J
def zfi(a:Int)(b:ByteArray)(c:Bool)(d e:af):State:=⟨uS 1 ([tI a]::[tS b]::uS 3 ([.ptr 7 y5 []]::[.ptr 8 y5 []]::uS 1 ([tB c]::uS 55 []))),nS 7 ((some ⟨y5,d,[[1]]⟩)::(some ⟨y5,e,[[1]]⟩)::nS 57 [])⟩
def O9:KX R:=(zk 0 (aF Yv (pG R) kk (sub [1,1,1,1,1] (cd Tryz.f178)) (aD Yv Tryz.f178.results.toList none K)))
theorem amf(a:Int)(b:ByteArray)(c:Bool)(d:Int)(e f g:af):U6 R kk (k+1) J a b c d e f g=
 RO a b c d e f g (U6 R kk k J) (fun a0 a1 a2 a3 a4=>J (.exit 0) (zfi a0 a1 a2 a3 a4)):=by kernel_rfl
theorem ae3(a:Int)(b:ByteArray)(c:Bool)(d e:af):O9 R kk K (.exit 0) (zfi a b c d e)=
 U8 a b c d e (fun a0=>K [.aj y5 a0 [[1]]] none):=by kernel_rfl
theorem aiL{kk:Nat}(hF:kk=ah)(cB:Int)(nT:ByteArray)(t9:Bool)(t10:Int)(eL jy gd:af):U6 R kk k J cB nT t9 t10 eL jy gd=(xB k cB nT t9 t10 eL jy gd).bind fun e=>J (.exit 0) (zfi e.1 e.2.1 e.2.2.1 e.2.2.2.1 e.2.2.2.2):=by
 induction k generalizing cB nT t9 t10 eL jy gd with
 |zero=>rfl
 |succ k ih=>
  rw[amf]
  simp only[xB,RO,ih,ay]
def yT:ai:=pG.add 178 [y5,(.int .i64),.str] (gu y5 (.int .i64) .str qd (fun _ r K=>K [.aj y5 r [[1]]] none))
theorem abQ:aJ Tryz.prog yT:=gx Yv Tryz.f178 (fun R kk x0 x1 x2 K=>U7 x0 x1 x2 (U6 R kk kk (O9 R kk K))) abP (ek _ _ _ _) Tryz.func178 (by kernel_rfl) rfl (fun _ _ _ _ _ _ h=>h _ _) (fun _ _ _ _ _ _=>by kernel_rfl) fun R kk e x0 x1 x2 K=>by
 simp only[qd,U7,U8,aiL (hF:=e),ae3,ay,<-e]
def aoS:Env:=e0 [cg,(.int .i64)]
def pH:ai:=yT.add 179 [cg,(.int .i64)] (cP cg (.int .i64) sk (fun _ r K=>K [tS r] none))
theorem abR:aJ Tryz.prog pH:=cR aoS Tryz.f179 (fun R kk x0 x1 K=>V2 x0 x1 (fun a0=>K [tS a0] none)) abQ (ek _ _ _ _) Tryz.func179 (by kernel_rfl) rfl (fun _ _ _ _ _ _ h=>h _ _) (fun _ _ _ _ _=>by kernel_rfl) fun R kk e x0 x1 K=>by
 simp only[sk,V2,ay]
def YI:Env:=bG.env (fun i=>bif Nat.beq i 5 then [3,4,5,6,8,9] else []) (fun i=>bif Nat.beq i 5 then [3,5,6,8] else []) [6] [cg,y5,(.pair (.int .i64) (.pair (.int .i64) .unit))]
def VU(a:Int)(b:au)(c:af)(d:ax)(e f:af):Option R:=aw (ev YI (pH R) kk (sub [1,1,1,0,1,0,0] (cd Tryz.f115))) [3,4,5,6,8,9] [3,5,6,8] k ⟨uS 3 ([.ptr 4 cg []]::[.ptr 5 y5 []]::[.ptr 6 (.pair (.int .i64) (.pair (.int .i64) .unit)) []]::[.ptr 7 y5 []]::uS 1 ([.ptr 9 y5 []]::[tI a]::uS 45 [])),nS 4 ((some ⟨cg,b,[]⟩)::(some ⟨y5,c,[]⟩)::(some ⟨(.pair (.int .i64) (.pair (.int .i64) .unit)),d,[]⟩)::(some ⟨y5,e,[[1]]⟩)::nS 1 ((some ⟨y5,f,[[1]]⟩)::nS 46 []))⟩ J
def zgc(a:au)(b:ax)(c d:af):State:=⟨uS 3 ([.ptr 4 cg []]::uS 1 ([.ptr 6 (.pair (.int .i64) (.pair (.int .i64) .unit)) []]::[.ptr 7 y5 []]::uS 1 ([.ptr 9 y5 []]::uS 46 []))),nS 4 ((some ⟨cg,a,[]⟩)::nS 1 ((some ⟨(.pair (.int .i64) (.pair (.int .i64) .unit)),b,[]⟩)::(some ⟨y5,c,[[1]]⟩)::nS 1 ((some ⟨y5,d,[[1]]⟩)::nS 46 [])))⟩
def Ps:KX R:=(zk 0 (aF YI (pH R) kk (sub [1,1,1,1] (cd Tryz.f115)) (aD YI Tryz.f115.results.toList none K)))
theorem amz(a:Int)(b:au)(c:af)(d:ax)(e f:af):VU R kk (k+1) J a b c d e f=
 Sa a b c d e f (VU R kk k J) (fun a0 a1 a2 a3=>J (.exit 0) (zgc a0 a1 a2 a3)):=by kernel_rfl
theorem afF(a:au)(b:ax)(c d:af):Ps R kk K (.exit 0) (zgc a b c d)=
 VW a b c d (fun a0 a1=>K [.aj y5 a0 [[1]],tB a1] none):=by kernel_rfl
theorem ajf{kk:Nat}(hF:kk=ah)(t9:Int)(cU:au)(bQ:af)(cV:ax)(eL gd:af):VU R kk k J t9 cU bQ cV eL gd=(GH k t9 cU bQ cV eL gd).bind fun e=>J (.exit 0) (zgc e.1 e.2.1 e.2.2.1 e.2.2.2):=by
 induction k generalizing t9 cU bQ cV eL gd with
 |zero=>rfl
 |succ k ih=>
  rw[amz]
  simp only[GH,Sa,ih,ay]
def pI:ai:=pH.add 115 [cg,y5,(.pair (.int .i64) (.pair (.int .i64) .unit))] (gu cg y5 (.pair (.int .i64) (.pair (.int .i64) .unit)) si (fun _ r K=>K [.aj y5 r.1 [[1]],tB r.2] none))
theorem abS:aJ Tryz.prog pI:=gx YI Tryz.f115 (fun R kk x0 x1 x2 K=>VV x0 x1 x2 (fun a0 a1=>K [.aj y5 a0 [[1]],tB a1] none) (VU R kk kk (Ps R kk K))) abR (ek _ _ _ _) Tryz.func115 (by kernel_rfl) rfl (fun _ _ _ _ _ _ h=>h _ _) (fun _ _ _ _ _ _=>by kernel_rfl) fun R kk e x0 x1 x2 K=>by
 simp only[si,VV,VW,ajf (hF:=e),afF,ay,<-e]
def Yu:Env:=bG.env (fun i=>bif Nat.beq i 3 then [1,3,4] else []) (fun i=>bif Nat.beq i 3 then [3] else []) [] [y5]
def U4(a:(List Int))(b:Int)(c:af):Option R:=aw (ev Yu (pI R) kk (sub [1,1,0,1,0,0] (cd Tryz.f46))) [1,3,4] [3] k ⟨uS 1 ([.ptr 2 y5 []]::uS 1 ([.aj (.sl 3 (.int .i64)) a [[]]]::[tI b]::uS 18 [])),nS 2 ((some ⟨y5,c,[]⟩)::nS 21 [])⟩ J
def zfh(a:(List Int)):State:=⟨uS 3 ([.aj (.sl 3 (.int .i64)) a [[]]]::uS 19 []),nS 24 []⟩
def O8:KX R:=(zk 0 (aF Yu (pI R) kk (sub [1,1,1] (cd Tryz.f46)) (aD Yu Tryz.f46.results.toList none K)))
theorem ame(a:(List Int))(b:Int)(c:af):U4 R kk (k+1) J a b c=
 zzv a b c (U4 R kk k J) (fun a0=>J (.exit 0) (zfh a0)):=by kernel_rfl
theorem ae2(a:(List Int)):O8 R kk K (.exit 0) (zfh a)=
 zzw a (fun a0=>K [.aj (.sl 3 (.int .i64)) a0 []] none):=by kernel_rfl
theorem aiK{kk:Nat}(hF:kk=ah)(t3:(List Int))(t4:Int)(cT:af):U4 R kk k J t3 t4 cT=(RN k t3 t4 cT).bind fun e=>J (.exit 0) (zfh e):=by
 induction k generalizing t3 t4 cT with
 |zero=>rfl
 |succ k ih=>
  rw[ame]
  simp only[RN,zzv,ih,ay]
def iv:ai:=pI.add 46 [y5] (cC y5 rW (fun _ r K=>K [.aj (.sl 3 (.int .i64)) r []] none))
theorem abT:aJ Tryz.prog iv:=cD Yu Tryz.f46 (fun R kk x0 K=>U5 x0 (U4 R kk kk (O8 R kk K))) abS (ek _ _ _ _) Tryz.func46 (by kernel_rfl) rfl (fun _ _ _ _ _ _ h=>h _ _) (fun _ _ _ _=>by kernel_rfl) fun R kk e x0 K=>by
 simp only[rW,U5,zzw,aiK (hF:=e),ae2,ay,<-e]
def iu:Env:=bG.env (fun i=>bif Nat.beq i 3 then [0,1,5,6] else bif Nat.beq i 7 then [0,1,5,6,7,8] else []) (fun i=>bif Nat.beq i 3 then [5] else bif Nat.beq i 7 then [0,1,5,6,7] else []) [] [(.sl 3 (.int .i64)),(.int .i64)]
def zx6(a:(List Int))(b:Int)(c:(List Int))(d:Int):Option R:=aw (ev iu (iv R) kk (sub [1,1,0,1,0,0] (cd Tryz.f119))) [0,1,5,6] [5] k ⟨[.aj (.sl 3 (.int .i64)) a []]::[tI b]::uS 3 ([.aj (.sl 5 (.int .u8)) c [[]]]::[tI d]::uS 29 []),nS 37 []⟩ J
def zss(a:(List Int)):State:=⟨uS 5 ([.aj (.sl 5 (.int .u8)) a [[]]]::uS 30 []),nS 37 []⟩
def Qy:KX R:=(zk 0 (aF iu (iv R) kk (sub [1,1,1] (cd Tryz.f119)) (aD iu Tryz.f119.results.toList none K)))
def zx7(a:(List Int))(b:Int)(c:(List Int))(d e f:Int):Option R:=aw (ev iu (iv R) kk (sub [1,1,0,1,0,0,1,0,0,1,0,1,0,0] (cd Tryz.f119))) [0,1,5,6,7,8] [0,1,5,6,7] k ⟨[.aj (.sl 3 (.int .i64)) a []]::[tI b]::uS 3 ([.aj (.sl 5 (.int .u8)) c [[]]]::[tI d]::[tU e]::[tI f]::uS 27 []),nS 37 []⟩ J
def zst(a:(List Int))(b:Int)(c:(List Int))(d e:Int):State:=⟨[.aj (.sl 3 (.int .i64)) a []]::[tI b]::uS 3 ([.aj (.sl 5 (.int .u8)) c [[]]]::[tI d]::[tU e]::uS 28 []),nS 37 []⟩
def Qz:KX R:=(zk 2 (aF iu (iv R) kk (sub [1,1,0,1,0,0,1,0,0,1,1] (cd Tryz.f119)) (zk 1 (aF iu (iv R) kk (sub [1,1,0,1,0,0,1,1] (cd Tryz.f119)) (iB (ev iu (iv R) kk (sub [1,1,0,1,0,0] (cd Tryz.f119))) [0,1,5,6] [5] k J)))))
theorem apR(a:(List Int))(b:Int)(c:(List Int))(d:Int):zx6 R kk (k+1) J a b c d=
 S6 a b c d (zx7 R kk kk (Qz R kk k J)) (fun a0=>J (.exit 0) (zss a0)):=by kernel_rfl
theorem akr(a:(List Int)):Qy R kk K (.exit 0) (zss a)=
 FY a (fun a0=>K [tS a0] none):=by kernel_rfl
theorem apS(a:(List Int))(b:Int)(c:(List Int))(d e f:Int):zx7 R kk (k+1) J a b c d e f=
 S7 a b c d e f (zx7 R kk k J) (fun a0 a1 a2 a3 a4=>J (.exit 2) (zst a0 a1 a2 a3 a4)):=by kernel_rfl
theorem aks(a:(List Int))(b:Int)(c:(List Int))(d e:Int):Qz R kk k J (.exit 2) (zst a b c d e)=
 zx9 a b c d e (zx6 R kk k J):=by kernel_rfl
theorem anF{kk:Nat}(hF:kk=ah)(fF:(List Int))(gh:Int)(t5:(List Int))(t6 t7 t8:Int):zx7 R kk k J fF gh t5 t6 t7 t8=(Hp k fF gh t5 t6 t7 t8).bind fun e=>J (.exit 2) (zst e.1 e.2.1 e.2.2.1 e.2.2.2.1 e.2.2.2.2):=by
 induction k generalizing fF gh t5 t6 t7 t8 with
 |zero=>rfl
 |succ k ih=>
  rw[apS]
  simp only[Hp,S7,ih,ay]
theorem anE{kk:Nat}(hF:kk=ah)(fF:(List Int))(gh:Int)(t5:(List Int))(t6:Int):zx6 R kk k J fF gh t5 t6=(Ho k fF gh t5 t6).bind fun e=>J (.exit 0) (zss e):=by
 induction k generalizing fF gh t5 t6 with
 |zero=>rfl
 |succ k ih=>
  rw[apR]
  simp only[Ho,S6,zx9,ih,anF (hF:=hF),aks,ay,<-hF]
def pJ:ai:=iv.add 119 [(.sl 3 (.int .i64)),(.int .i64)] (cP (.sl 3 (.int .i64)) (.int .i64) uD (fun _ r K=>K [tS r] none))
theorem abU:aJ Tryz.prog pJ:=cR iu Tryz.f119 (fun R kk x0 x1 K=>zx8 x0 x1 (zx6 R kk kk (Qy R kk K))) abT (ek _ _ _ _) Tryz.func119 (by kernel_rfl) rfl (fun _ _ _ _ _ _ h=>h _ _) (fun _ _ _ _ _=>by kernel_rfl) fun R kk e x0 x1 K=>by
 simp only[uD,zx8,FY,anE (hF:=e),akr,ay,<-e]
def oB:Env:=bG.env (fun i=>bif Nat.beq i 3 then [0,3,4] else []) (fun i=>bif Nat.beq i 3 then [3] else []) [] [.str]
def ZZ(a:ByteArray)(b:(List Int))(c:Int):Option R:=aw (ev oB (pJ R) kk (sub [1,1,0,1,0,0] (cd Tryz.f120))) [0,3,4] [3] k ⟨[tS a]::uS 2 ([.aj (.sl 5 (.int .u8)) b [[]]]::[tI c]::uS 24 []),nS 30 []⟩ J
def zsf(a:(List Int)):State:=⟨uS 3 ([.aj (.sl 5 (.int .u8)) a [[]]]::uS 25 []),nS 30 []⟩
def Qv:KX R:=(zk 0 (aF oB (pJ R) kk (sub [1,1,1] (cd Tryz.f120)) (aD oB Tryz.f120.results.toList none K)))
theorem apM(a:ByteArray)(b:(List Int))(c:Int):ZZ R kk (k+1) J a b c=
 SZ a b c (ZZ R kk k J) (fun a0=>J (.exit 0) (zsf a0)):=by kernel_rfl
theorem ake(a:(List Int)):Qv R kk K (.exit 0) (zsf a)=
 FE a (fun a0=>K [tS a0] none):=by kernel_rfl
theorem anu{kk:Nat}(hF:kk=ah)(dw:ByteArray)(t3:(List Int))(t4:Int):ZZ R kk k J dw t3 t4=(Hk k dw t3 t4).bind fun e=>J (.exit 0) (zsf e):=by
 induction k generalizing dw t3 t4 with
 |zero=>rfl
 |succ k ih=>
  rw[apM]
  simp only[Hk,SZ,ih,ay]
def pK:ai:=pJ.add 120 [.str] (cC .str vC (fun _ r K=>K [tS r] none))
theorem abV:aJ Tryz.prog pK:=cD oB Tryz.f120 (fun R kk x0 K=>Z0 x0 (ZZ R kk kk (Qv R kk K))) abU (ek _ _ _ _) Tryz.func120 (by kernel_rfl) rfl (fun _ _ _ _ _ _ h=>h _ _) (fun _ _ _ _=>by kernel_rfl) fun R kk e x0 K=>by
 simp only[vC,Z0,FE,anu (hF:=e),ake,ay,<-e]
def oK:Env:=bG.env (fun i=>bif Nat.beq i 5 then [0,1,6,7] else []) (fun i=>bif Nat.beq i 5 then [0,1,6] else []) [] [(.int .i64),(.sl 3 (.int .i64))]
def zx5(a:Int)(b:(List Int))(c:Bool)(d:Int):Option R:=aw (ev oK (pK R) kk (sub [1,1,1,0,1,0,0] (cd Tryz.f45))) [0,1,6,7] [0,1,6] k ⟨[tI a]::[.aj (.sl 3 (.int .i64)) b []]::uS 4 ([tB c]::[tI d]::uS 36 []),nS 45 []⟩ J
def zsr(a:Int)(b:(List Int))(c:Bool):State:=⟨[tI a]::[.aj (.sl 3 (.int .i64)) b []]::uS 4 ([tB c]::uS 37 []),nS 45 []⟩
def Qx:KX R:=(zk 0 (aF oK (pK R) kk (sub [1,1,1,1] (cd Tryz.f45)) (aD oK Tryz.f45.results.toList none K)))
theorem apQ(a:Int)(b:(List Int))(c:Bool)(d:Int):zx5 R kk (k+1) J a b c d=
 S4 a b c d (zx5 R kk k J) (fun a0 a1 a2=>J (.exit 0) (zsr a0 a1 a2)):=by kernel_rfl
theorem akq(a:Int)(b:(List Int))(c:Bool):Qx R kk K (.exit 0) (zsr a b c)=
 S5 a b c (fun a0 a1=>K [tS a0,tB a1] none):=by kernel_rfl
theorem anD{kk:Nat}(hF:kk=ah)(dV:Int)(l_1:(List Int))(t6:Bool)(t7:Int):zx5 R kk k J dV l_1 t6 t7=(A7 k dV l_1 t6 t7).bind fun e=>J (.exit 0) (zsr e.1 e.2.1 e.2.2):=by
 induction k generalizing dV l_1 t6 t7 with
 |zero=>rfl
 |succ k ih=>
  rw[apQ]
  simp only[A7,S4,ih,ay]
def pM:ai:=pK.add 45 [(.int .i64),(.sl 3 (.int .i64))] (cP (.int .i64) (.sl 3 (.int .i64)) JP (fun _ r K=>K [tS r.1,tB r.2] none))
theorem abW:aJ Tryz.prog pM:=cR oK Tryz.f45 (fun R kk x0 x1 K=>IP x0 x1 (fun a0 a1=>K [tS a0,tB a1] none) (fun a0 a1 a2 a3=>zx5 R kk kk (Qx R kk K) a0 a1 a2 a3)) abV (ek _ _ _ _) Tryz.func45 (by kernel_rfl) rfl (fun _ _ _ _ _ _ h=>h _ _) (fun _ _ _ _ _=>by kernel_rfl) fun R kk e x0 x1 K=>by
 simp only[JP,adk,S5,anD (hF:=e),akq,ay,<-e]
def oE:Env:={bG.env (fun i=>bif Nat.beq i 8 then [0,4,5,6] else []) (fun i=>bif Nat.beq i 8 then [4] else []) [] [.str] with sp:=some (13,4,7,42)}
def Z5(a:ByteArray)(b:(List Int))(c d:Int):Option R:=aw (ev oE (pM R) kk (sub [1,1,1,1,1,0,1,0,0] (cd Tryz.f121))) [0,4,5,6] [4] k ⟨[tS a]::uS 3 ([.aj (.sl 5 (.int .u8)) b [[]]]::[tI c]::[tI d]::uS 52 []),nS 60 []⟩ J
def zsk(a:(List Int)):State:=⟨uS 4 ([.aj (.sl 5 (.int .u8)) a [[]]]::uS 54 []),nS 60 []⟩
def Qw:KX R:=(zk 0 (aF oE (pM R) kk (sub [1,1,1,1,1,1] (cd Tryz.f121)) (aD oE Tryz.f121.results.toList none K)))
theorem z228(a:ByteArray)(b:(List Int))(c d:Int):Z5 R kk (k+1) J a b c d=
 IM a b c d (Z5 R kk k J) (fun a0=>J (.exit 0) (zsk a0)):=by kernel_rfl
theorem akj(a:(List Int)):Qw R kk K (.exit 0) (zsk a)=
 FM a (fun a0 a1=>K [tS a0,tB a1] none):=by kernel_rfl
theorem anx{kk:Nat}(hF:kk=ah)(dw:ByteArray)(t4:(List Int))(t5 t6:Int):Z5 R kk k J dw t4 t5 t6=(xO k dw t4 t5 t6).bind fun e=>J (.exit 0) (zsk e):=by
 induction k generalizing dw t4 t5 t6 with
 |zero=>rfl
 |succ k ih=>
  rw[z228]
  simp only[xO,IM,ih,ay]
def yU:ai:=pM.add 121 [.str] (cC .str yd (fun _ r K=>K [tS r.1,tB r.2] none))
theorem abX:aJ Tryz.prog yU:=cD oE Tryz.f121 (fun R kk x0 K=>IL x0 (fun a0 a1=>K [tS a0,tB a1] none) (fun a0 a1 a2 a3=>Z5 R kk kk (Qw R kk K) a0 a1 a2 a3)) abW ((ek _ _ _ _).sp _) Tryz.func121 (by kernel_rfl) rfl (fun _ _ _ _ _ _ h=>h _ _) (fun _ _ _ _=>by kernel_rfl) fun R kk e x0 K=>by
 simp only[yd,adj,FM,anx (hF:=e),akj,ay,<-e]
def aoK:Env:=e0 [(.int .i64),.str]
def yV:ai:=yU.add 47 [(.int .i64),.str] (cP (.int .i64) .str rY (fun _ r K=>K [tS r] none))
theorem abY:aJ Tryz.prog yV:=cR aoK Tryz.f47 (fun R kk x0 x1 K=>Vd x0 x1 (fun a0=>K [tS a0] none)) abX (ek _ _ _ _) Tryz.func47 (by kernel_rfl) rfl (fun _ _ _ _ _ _ h=>h _ _) (fun _ _ _ _ _=>by kernel_rfl) fun R kk e x0 x1 K=>by
 simp only[rY,Vd,ay]
def JS:Env:=e0 [(.int .i64),(.int .i64),(.int .i64)]
def yW:ai:=yV.add 122 [(.int .i64),(.int .i64),(.int .i64)] (gu (.int .i64) (.int .i64) (.int .i64) Bs (fun _ r K=>K [tS r.1,tI r.2] none))
theorem abZ:aJ Tryz.prog yW:=gx JS Tryz.f122 (fun R kk x0 x1 x2 K=>zxf x0 x1 x2 (fun a0 a1=>K [tS a0,tI a1] none)) abY (ek _ _ _ _) Tryz.func122 (by kernel_rfl) rfl (fun _ _ _ _ _ _ h=>h _ _) (fun _ _ _ _ _ _=>by kernel_rfl) fun R kk e x0 x1 x2 K=>by
 simp only[Bs,zxf,ay]
def z201:Env:=e0 [(.int .i64),(.int .i64),.str]
def yX:ai:=yW.add 123 [(.int .i64),(.int .i64),.str] (gu (.int .i64) (.int .i64) .str j9 (fun _ r K=>K [tS r] none))
theorem ab0:aJ Tryz.prog yX:=gx z201 Tryz.f123 (fun R kk x0 x1 x2 K=>UL x0 x1 x2 (fun a0=>K [tS a0] none)) abZ (ek _ _ _ _) Tryz.func123 (by kernel_rfl) rfl (fun _ _ _ _ _ _ h=>h _ _) (fun _ _ _ _ _ _=>by kernel_rfl) fun R kk e x0 x1 x2 K=>by
 simp only[j9,UL,ay]
def J2:Env:=e0 [(.int .i64),y9,.str]
def pN:ai:=yX.add 48 [(.int .i64),y9,.str] (gu (.int .i64) y9 .str Bu (fun _ r K=>K [tS r.1,tI r.2] none))
theorem ab1:aJ Tryz.prog pN:=gx J2 Tryz.f48 (fun R kk x0 x1 x2 K=>zxp x0 x1 x2 (fun a0 a1=>K [tS a0,tI a1] none)) ab0 (ek _ _ _ _) Tryz.func48 (by kernel_rfl) rfl (fun _ _ _ _ _ _ h=>h _ _) (fun _ _ _ _ _ _=>by kernel_rfl) fun R kk e x0 x1 x2 K=>by
 simp only[Bu,zxp,ay]
def Yx:Env:=bG.env (fun i=>bif Nat.beq i 4 then [2,3,7,8] else []) (fun i=>bif Nat.beq i 4 then [7] else []) [] [aC,y5]
def Vb(a:ByteArray)(b:Int)(c:ag)(d:af):Option R:=aw (ev Yx (pN R) kk (sub [1,1,1,0,1,0,0] (cd Tryz.f18))) [2,3,7,8] [7] k ⟨uS 2 ([.ptr 3 aC []]::[.ptr 4 y5 []]::uS 3 ([tS a]::[tI b]::uS 52 [])),nS 3 ((some ⟨aC,c,[]⟩)::(some ⟨y5,d,[]⟩)::nS 57 [])⟩ J
def zfk(a:ByteArray):State:=⟨uS 7 ([tS a]::uS 53 []),nS 62 []⟩
def Pb:KX R:=(zk 0 (aF Yx (pN R) kk (sub [1,1,1,1] (cd Tryz.f18)) (aD Yx Tryz.f18.results.toList none K)))
theorem amh(a:ByteArray)(b:Int)(c:ag)(d:af):Vb R kk (k+1) J a b c d=
 RQ a b c d (Vb R kk k J) (fun a0=>J (.exit 0) (zfk a0)):=by kernel_rfl
theorem ae5(a:ByteArray):Pb R kk K (.exit 0) (zfk a)=
 zzy a (fun a0=>K [tS a0] none):=by kernel_rfl
theorem aiN{kk:Nat}(hF:kk=ah)(t7:ByteArray)(t8:Int)(cA:ag)(cU:af):Vb R kk k J t7 t8 cA cU=(xD k t7 t8 cA cU).bind fun e=>J (.exit 0) (zfk e):=by
 induction k generalizing t7 t8 cA cU with
 |zero=>rfl
 |succ k ih=>
  rw[amh]
  simp only[xD,RQ,ih,ay]
def yY:ai:=pN.add 18 [aC,y5] (cP aC y5 m7 (fun _ r K=>K [tS r] none))
theorem ab2:aJ Tryz.prog yY:=cR Yx Tryz.f18 (fun R kk x0 x1 K=>Vc x0 x1 (Vb R kk kk (Pb R kk K))) ab1 (ek _ _ _ _) Tryz.func18 (by kernel_rfl) rfl (fun _ _ _ _ _ _ h=>h _ _) (fun _ _ _ _ _=>by kernel_rfl) fun R kk e x0 x1 K=>by
 simp only[m7,Vc,zzy,aiN (hF:=e),ae5,ay,<-e]
def aoY:Env:=e0 [dK,(.int .i64),y5,(.pair (.int .i64) (.pair (.int .i64) .unit))]
def yZ:ai:=yY.add 42 [dK,(.int .i64),y5,(.pair (.int .i64) (.pair (.int .i64) .unit))] (xf dK (.int .i64) y5 (.pair (.int .i64) (.pair (.int .i64) .unit)) kb (fun _ r K=>K [tI r.1,tS r.2] none))
theorem ab3:aJ Tryz.prog yZ:=AD aoY Tryz.f42 (fun R kk x0 x1 x2 x3 K=>We x0 x1 x2 x3 (fun a0 a1=>K [tI a0,tS a1] none)) ab2 (ek _ _ _ _) Tryz.func42 (by kernel_rfl) rfl (fun _ _ _ _ _ _ h=>h _ _) (fun _ _ _ _ _ _ _=>by kernel_rfl) fun R kk e x0 x1 x2 x3 K=>by
 simp only[kb,We,ay]
def aoP:Env:=e0 [bN,aC,aC]
def pO:ai:=yZ.add 116 [bN,aC,aC] (gu bN aC aC sf (fun _ r K=>K [tB r] none))
theorem ab4:aJ Tryz.prog pO:=gx aoP Tryz.f116 (fun R kk x0 x1 x2 K=>VH x0 x1 x2 (fun a0=>K [tB a0] none)) ab3 (ek _ _ _ _) Tryz.func116 (by kernel_rfl) rfl (fun _ _ _ _ _ _ h=>h _ _) (fun _ _ _ _ _ _=>by kernel_rfl) fun R kk e x0 x1 x2 K=>by
 simp only[sf,VH,ay]
def Ys:Env:=bG.env (fun i=>bif Nat.beq i 7 then [2,3,4,5,6] else []) (fun i=>bif Nat.beq i 7 then [4] else []) [4] [aC,y5]
def UZ(a b:Int)(c:ag)(d:af)(e:ax):Option R:=aw (ev Ys (pO R) kk (sub [1,1,1,1,0,1,0,0] (cd Tryz.f44))) [2,3,4,5,6] [4] k ⟨uS 2 ([.ptr 3 aC []]::[.ptr 4 y5 []]::[.ptr 5 (.pair (.int .i64) (.pair (.int .i64) .unit)) []]::[tI a]::[tI b]::uS 66 []),nS 3 ((some ⟨aC,c,[]⟩)::(some ⟨y5,d,[]⟩)::(some ⟨(.pair (.int .i64) (.pair (.int .i64) .unit)),e,[]⟩)::nS 68 [])⟩ J
def zfd(a:ax):State:=⟨uS 4 ([.ptr 5 (.pair (.int .i64) (.pair (.int .i64) .unit)) []]::uS 68 []),nS 5 ((some ⟨(.pair (.int .i64) (.pair (.int .i64) .unit)),a,[]⟩)::nS 68 [])⟩
def zfe(a:ax):State:=⟨uS 4 ([.ptr 5 (.pair (.int .i64) (.pair (.int .i64) .unit)) []]::uS 68 []),nS 5 ((some ⟨(.pair (.int .i64) (.pair (.int .i64) .unit)),a,[]⟩)::nS 68 [])⟩
def zzp:KX R:=(zk 0 (aF Ys (pO R) kk (sub [1,1,1,1,1] (cd Tryz.f44)) (aD Ys Tryz.f44.results.toList none K)))
theorem amc(a b:Int)(c:ag)(d:af)(e:ax):UZ R kk (k+1) J a b c d e=
 RM a b c d e (fun a0=>J .ret (zfd a0)) (UZ R kk k J) (fun a0=>J (.exit 0) (zfe a0)):=by kernel_rfl
theorem aeY(a:ax):zzp R kk K .ret (zfd a)=
 zzq a (fun a0=>K [.aj (.pair (.int .i64) (.pair (.int .i64) .unit)) a0 []] none):=by kernel_rfl
theorem aeZ(a:ax):zzp R kk K (.exit 0) (zfe a)=
 zzr a (fun a0=>K [.aj (.pair (.int .i64) (.pair (.int .i64) .unit)) a0 []] none):=by kernel_rfl
theorem aiI{kk:Nat}(hF:kk=ah)(t5 t6:Int)(cA:ag)(cU:af)(bQ:ax):UZ R kk k J t5 t6 cA cU bQ=(va k t5 t6 cA cU bQ).bind fun e=>(Sum.elim (fun(we:ax)=>J .ret (zfd we)) (fun(we:ax)=>J (.exit 0) (zfe we)) e):=by
 induction k generalizing t5 t6 cA cU bQ with
 |zero=>rfl
 |succ k ih=>
  rw[amc]
  simp only[va,RM,ih,ay]
def pP:ai:=pO.add 44 [aC,y5] (cP aC y5 rU (fun _ r K=>K [.aj (.pair (.int .i64) (.pair (.int .i64) .unit)) r []] none))
theorem ab5:aJ Tryz.prog pP:=cR Ys Tryz.f44 (fun R kk x0 x1 K=>U0 x0 x1 (fun a0=>K [.aj (.pair (.int .i64) (.pair (.int .i64) .unit)) a0 []] none) (UZ R kk kk (zzp R kk K))) ab4 (ek _ _ _ _) Tryz.func44 (by kernel_rfl) rfl (fun _ _ _ _ _ _ h=>h _ _) (fun _ _ _ _ _=>by kernel_rfl) fun R kk e x0 x1 K=>by
 simp only[rU,U0,zzq,zzr,aiI (hF:=e),aeY,aeZ,ay,<-e]
def YG:Env:=bG.env (fun i=>bif Nat.beq i 2 then [1,2,5] else []) (fun i=>bif Nat.beq i 2 then [4] else []) [] [bN,(.int .i64)]
def VQ(a b:Int)(c:al):Option R:=aw (ev YG (pP R) kk (sub [1,0,1,0,0] (cd Tryz.f117))) [1,2,5] [4] k ⟨uS 1 ([tI a]::[.ptr 3 bN []]::uS 2 ([tI b]::uS 16 [])),nS 3 ((some ⟨bN,c,[]⟩)::nS 19 [])⟩ J
def zga(a:Int):State:=⟨uS 4 ([tI a]::uS 17 []),nS 23 []⟩
def zgb:State:=⟨uS 22 [],nS 23 []⟩
def z117:KX R:=(zk 0 (aF YG (pP R) kk (sub [1,1] (cd Tryz.f117)) (aD YG Tryz.f117.results.toList none K)))
theorem amy(a b:Int)(c:al):VQ R kk (k+1) J a b c=
 C8 a b c (fun a0=>J .ret (zga a0)) (VQ R kk k J) (J (.exit 0) (zgb)):=by kernel_rfl
theorem afD(a:Int):z117 R kk K .ret (zga a)=
 z119 a (fun a0=>K [tI a0] none):=by kernel_rfl
theorem afE:z117 R kk K (.exit 0) (zgb)=
 C9 (fun a0=>K [tI a0] none):=by kernel_rfl
theorem aje{kk:Nat}(hF:kk=ah)(cB t5:Int)(cA:al):VQ R kk k J cB t5 cA=(R9 k cB t5 cA).bind fun e=>(Sum.elim (fun(we:Int)=>J .ret (zga we)) (fun(we:Unit)=>J (.exit 0) (zgb)) e):=by
 induction k generalizing cB t5 cA with
 |zero=>rfl
 |succ k ih=>
  rw[amy]
  simp only[R9,C8,ih,ay]
def kz:ai:=pP.add 117 [bN,(.int .i64)] (cP bN (.int .i64) lR (fun _ r K=>K [tI r] none))
theorem ab6:aJ Tryz.prog kz:=cR YG Tryz.f117 (fun R kk x0 x1 K=>VR x0 x1 (VQ R kk kk (z117 R kk K))) ab5 (ek _ _ _ _) Tryz.func117 (by kernel_rfl) rfl (fun _ _ _ _ _ _ h=>h _ _) (fun _ _ _ _ _=>by kernel_rfl) fun R kk e x0 x1 K=>by
 simp only[lR,VR,z119,C9,aje (hF:=e),afD,afE,ay,<-e]
def jo:Env:=bG.env (fun i=>bif Nat.beq i 3 then [0,1] else bif Nat.beq i 5 then [0,1] else []) (fun i=>bif Nat.beq i 3 then [0,1] else bif Nat.beq i 5 then [0,4,5] else []) [] [.str,(.int .i64)]
def ZK(a:ByteArray)(b:Int):Option R:=aw (ev jo (kz R) kk (sub [1,1,0,0,0] (cd Tryz.f180))) [0,1] [0,1] k ⟨[tS a]::[tI b]::uS 41 [],nS 44 []⟩ J
def zs8(a:ByteArray)(b:Int):State:=⟨[tS a]::[tI b]::uS 41 [],nS 44 []⟩
def Qs:KX R:=(zk 0 (aF jo (kz R) kk (sub [1,1,1] (cd Tryz.f180)) (aD jo Tryz.f180.results.toList none K)))
def ZL(a:ByteArray)(b:Int):Option R:=aw (ev jo (kz R) kk (sub [1,1,1,0,0,0] (cd Tryz.f180))) [0,1] [0,4,5] k ⟨[tS a]::[tI b]::uS 41 [],nS 44 []⟩ J
def zs9(a b:ByteArray)(c:Bool):State:=⟨[tS a]::uS 3 ([tS b]::[tB c]::uS 37 []),nS 44 []⟩
def zsa(a:ByteArray):State:=⟨[tS a]::uS 42 [],nS 44 []⟩
def Fz:KX R:=(zk 2 (aF jo (kz R) kk (sub [1,1,1,1] (cd Tryz.f180)) (aD jo Tryz.f180.results.toList none K)))
theorem apI(a:ByteArray)(b:Int):ZK R kk (k+1) J a b=
 ZN a b (ZK R kk k J) (fun a0 a1=>J (.exit 0) (zs8 a0 a1)):=by kernel_rfl
theorem aj7(a:ByteArray)(b:Int):Qs R kk K (.exit 0) (zs8 a b)=
 ZO a b (ZL R kk kk (Fz R kk K)):=by kernel_rfl
theorem apJ(a:ByteArray)(b:Int):ZL R kk (k+1) J a b=
 ZP a b (fun a0 a1 a2=>J .ret (zs9 a0 a1 a2)) (ZL R kk k J) (fun a0=>J (.exit 2) (zsa a0)):=by kernel_rfl
theorem aj8(a b:ByteArray)(c:Bool):Fz R kk K .ret (zs9 a b c)=
 ZQ a b c (fun a0 a1=>K [tS a0,tB a1] none):=by kernel_rfl
theorem aj9(a:ByteArray):Fz R kk K (.exit 2) (zsa a)=
 ZR a (fun a0 a1=>K [tS a0,tB a1] none):=by kernel_rfl
theorem anp{kk:Nat}(hF:kk=ah)(dw:ByteArray)(cX:Int):ZK R kk k J dw cX=(IJ k dw cX).bind fun e=>J (.exit 0) (zs8 e.1 e.2):=by
 induction k generalizing dw cX with
 |zero=>rfl
 |succ k ih=>
  rw[apI]
  simp only[IJ,ZN,ih,ay]
theorem anq{kk:Nat}(hF:kk=ah)(dw:ByteArray)(cX:Int):ZL R kk k J dw cX=(IK k dw cX).bind fun e=>(Sum.elim (fun(we:s6)=>J .ret (zs9 we.1 we.2.1 we.2.2)) (fun(we:ByteArray)=>J (.exit 2) (zsa we)) e):=by
 induction k generalizing dw cX with
 |zero=>rfl
 |succ k ih=>
  rw[apJ]
  simp only[IK,ZP,ih,ay]
def zA:ai:=kz.add 180 [.str,(.int .i64)] (cP .str (.int .i64) JJ (fun _ r K=>K [tS r.1,tB r.2] none))
theorem ab7:aJ Tryz.prog zA:=cR jo Tryz.f180 (fun R kk x0 x1 K=>ZM x0 x1 (fun a0 a1=>K [tS a0,tB a1] none) (ZK R kk kk (Qs R kk K))) ab6 (ek _ _ _ _) Tryz.func180 (by kernel_rfl) rfl (fun _ _ _ _ _ _ h=>h _ _) (fun _ _ _ _ _=>by kernel_rfl) fun R kk e x0 x1 K=>by
 simp only[JJ,ZM,ZO,ZQ,ZR,anp (hF:=e),anq (hF:=e),aj7,aj8,aj9,ay,<-e]
def aoN:Env:=bG.env (fun _=>[]) (fun _=>[]) [6] [cm,aC,.str]
def fo:ai:=zA.add 118 [cm,aC,.str] (gu cm aC .str lQ (fun _ r K=>K [.aj (.pair (.int .i64) (.pair .str .unit)) r.1 [],tI r.2] none))
theorem ab8:aJ Tryz.prog fo:=gx aoN Tryz.f118 (fun R kk x0 x1 x2 K=>Vn x0 x1 x2 (fun a0 a1=>K [.aj (.pair (.int .i64) (.pair .str .unit)) a0 [],tI a1] none)) ab7 (ek _ _ _ _) Tryz.func118 (by kernel_rfl) rfl (fun _ _ _ _ _ _ h=>h _ _) (fun _ _ _ _ _ _=>by kernel_rfl) fun R kk e x0 x1 x2 K=>by
 simp only[lQ,Vn,ay]
def q7:Env:=bG.env (fun i=>bif Nat.beq i 12 then [4,6,7,8,9,10,12,14,15] else bif Nat.beq i 22 then [4,8,9,12,14,19] else bif Nat.beq i 28 then [8,9,14,20,21] else bif Nat.beq i 31 then [8,9,14,20,21,22] else []) (fun i=>bif Nat.beq i 12 then [4,8,9,12,14] else bif Nat.beq i 22 then [8,9,12,14] else bif Nat.beq i 28 then [8,9,20] else bif Nat.beq i 31 then [8,9,14,20,21] else []) [8,9] [bN,aC,aC,y5]
def VI(a:ByteArray)(b:ak)(c:Int)(d:al)(e:ag)(f g:af)(h:ax)(i:af):Option R:=aw (ev q7 (fo R) kk (sub [1,1,1,1,1,1,1,0,1,0,0] (cd Tryz.f43))) [4,6,7,8,9,10,12,14,15] [4,8,9,12,14] k ⟨uS 4 ([.ptr 5 bN []]::uS 1 ([.ptr 7 aC []]::[.ptr 8 y5 []]::[.ptr 9 y5 []]::[.ptr 10 (.pair (.int .i64) (.pair (.int .i64) .unit)) []]::[.ptr 11 y5 []]::uS 1 ([tS a]::uS 1 ([.aj (.sl 90 (.pair (.int .i64) (.pair .str .unit))) b [[]]]::[tI c]::uS 152 [])))),nS 5 ((some ⟨bN,d,[]⟩)::nS 1 ((some ⟨aC,e,[]⟩)::(some ⟨y5,f,[]⟩)::(some ⟨y5,g,[[1]]⟩)::(some ⟨(.pair (.int .i64) (.pair (.int .i64) .unit)),h,[]⟩)::(some ⟨y5,i,[[1]]⟩)::nS 157 []))⟩ J
def zg5(a:ByteArray)(b:ak)(c:al)(d:af)(e:ax):State:=⟨uS 4 ([.ptr 5 bN []]::uS 3 ([.ptr 9 y5 []]::[.ptr 10 (.pair (.int .i64) (.pair (.int .i64) .unit)) []]::uS 2 ([tS a]::uS 1 ([.aj (.sl 90 (.pair (.int .i64) (.pair .str .unit))) b [[]]]::uS 153 [])))),nS 5 ((some ⟨bN,c,[]⟩)::nS 3 ((some ⟨y5,d,[[1]]⟩)::(some ⟨(.pair (.int .i64) (.pair (.int .i64) .unit)),e,[]⟩)::nS 158 []))⟩
def zg6(a:ByteArray)(b:ak)(c:al)(d:af)(e:ax):State:=⟨uS 4 ([.ptr 5 bN []]::uS 3 ([.ptr 9 y5 []]::[.ptr 10 (.pair (.int .i64) (.pair (.int .i64) .unit)) []]::uS 2 ([tS a]::uS 1 ([.aj (.sl 90 (.pair (.int .i64) (.pair .str .unit))) b [[]]]::uS 153 [])))),nS 5 ((some ⟨bN,c,[]⟩)::nS 3 ((some ⟨y5,d,[[1]]⟩)::(some ⟨(.pair (.int .i64) (.pair (.int .i64) .unit)),e,[]⟩)::nS 158 []))⟩
def C6:KX R:=(zk 0 (aF q7 (fo R) kk (sub [1,1,1,1,1,1,1,1] (cd Tryz.f43)) (aD q7 Tryz.f43.results.toList none K)))
end
end Go.Proofs.YtkgpjibbdpikcaaGreatDoor

namespace Go.Proofs.YtkgpjibbdpikcaaGreatDoor
noncomputable section
open Go Go.Ref bF
variable (R:Type) (kk k:Nat) (K:KF R) (J:KX R)
def VJ(a:ByteArray)(b:ak)(c:Int)(d:al)(e:af)(f:ax):Option R:=aw (ev q7 (fo R) kk (sub [1,1,1,1,1,1,1,1,0,1,0,0] (cd Tryz.f43))) [4,8,9,12,14,19] [8,9,12,14] k ⟨uS 4 ([.ptr 5 bN []]::uS 3 ([.ptr 9 y5 []]::[.ptr 10 (.pair (.int .i64) (.pair (.int .i64) .unit)) []]::uS 2 ([tS a]::uS 1 ([.aj (.sl 90 (.pair (.int .i64) (.pair .str .unit))) b [[]]]::uS 4 ([tI c]::uS 148 []))))),nS 5 ((some ⟨bN,d,[]⟩)::nS 3 ((some ⟨y5,e,[[1]]⟩)::(some ⟨(.pair (.int .i64) (.pair (.int .i64) .unit)),f,[]⟩)::nS 158 []))⟩ J
def zg7(a:ByteArray)(b:ak)(c:af)(d:ax):State:=⟨uS 8 ([.ptr 9 y5 []]::[.ptr 10 (.pair (.int .i64) (.pair (.int .i64) .unit)) []]::uS 2 ([tS a]::uS 1 ([.aj (.sl 90 (.pair (.int .i64) (.pair .str .unit))) b [[]]]::uS 153 []))),nS 9 ((some ⟨y5,c,[[1]]⟩)::(some ⟨(.pair (.int .i64) (.pair (.int .i64) .unit)),d,[]⟩)::nS 158 [])⟩
def Pp:KX R:=(zk 2 (aF q7 (fo R) kk (sub [1,1,1,1,1,1,1,1,1] (cd Tryz.f43)) (aD q7 Tryz.f43.results.toList none K)))
def VK(a:ak)(b:Int)(c:af)(d:ax)(e:af):Option R:=aw (ev q7 (fo R) kk (sub [1,1,1,1,1,1,1,1,1,1,0,1,0,0] (cd Tryz.f43))) [8,9,14,20,21] [8,9,20] k ⟨uS 8 ([.ptr 9 y5 []]::[.ptr 10 (.pair (.int .i64) (.pair (.int .i64) .unit)) []]::uS 4 ([.aj (.sl 90 (.pair (.int .i64) (.pair .str .unit))) a [[]]]::uS 5 ([.ptr 21 y5 []]::[tI b]::uS 146 []))),nS 9 ((some ⟨y5,c,[[1]]⟩)::(some ⟨(.pair (.int .i64) (.pair (.int .i64) .unit)),d,[]⟩)::nS 10 ((some ⟨y5,e,[[1]]⟩)::nS 147 []))⟩ J
def zg8(a:af)(b:ax)(c:af):State:=⟨uS 8 ([.ptr 9 y5 []]::[.ptr 10 (.pair (.int .i64) (.pair (.int .i64) .unit)) []]::uS 10 ([.ptr 21 y5 []]::uS 147 [])),nS 9 ((some ⟨y5,a,[[1]]⟩)::(some ⟨(.pair (.int .i64) (.pair (.int .i64) .unit)),b,[]⟩)::nS 10 ((some ⟨y5,c,[[1]]⟩)::nS 147 []))⟩
def Pq:KX R:=(zk 4 (aF q7 (fo R) kk (sub [1,1,1,1,1,1,1,1,1,1,1] (cd Tryz.f43)) (aD q7 Tryz.f43.results.toList none K)))
def VL(a:ak)(b c:Int)(d:af)(e:ax)(f:af):Option R:=aw (ev q7 (fo R) kk (sub [1,1,1,1,1,1,1,1,1,1,0,1,0,0,1,0,0,1,0,0] (cd Tryz.f43))) [8,9,14,20,21,22] [8,9,14,20,21] k ⟨uS 8 ([.ptr 9 y5 []]::[.ptr 10 (.pair (.int .i64) (.pair (.int .i64) .unit)) []]::uS 4 ([.aj (.sl 90 (.pair (.int .i64) (.pair .str .unit))) a [[]]]::uS 5 ([.ptr 21 y5 []]::[tI b]::[tI c]::uS 145 []))),nS 9 ((some ⟨y5,d,[[1]]⟩)::(some ⟨(.pair (.int .i64) (.pair (.int .i64) .unit)),e,[]⟩)::nS 10 ((some ⟨y5,f,[[1]]⟩)::nS 147 []))⟩ J
def zg9(a:ak)(b:Int)(c:af)(d:ax)(e:af):State:=⟨uS 8 ([.ptr 9 y5 []]::[.ptr 10 (.pair (.int .i64) (.pair (.int .i64) .unit)) []]::uS 4 ([.aj (.sl 90 (.pair (.int .i64) (.pair .str .unit))) a [[]]]::uS 5 ([.ptr 21 y5 []]::[tI b]::uS 146 []))),nS 9 ((some ⟨y5,c,[[1]]⟩)::(some ⟨(.pair (.int .i64) (.pair (.int .i64) .unit)),d,[]⟩)::nS 10 ((some ⟨y5,e,[[1]]⟩)::nS 147 []))⟩
def Pr:KX R:=(zk 6 (zk 5 (aF q7 (fo R) kk (sub [1,1,1,1,1,1,1,1,1,1,0,1,0,0,1,1] (cd Tryz.f43)) (iB (ev q7 (fo R) kk (sub [1,1,1,1,1,1,1,1,1,1,0,1,0,0] (cd Tryz.f43))) [8,9,14,20,21] [8,9,20] k J))))
theorem amu(a:ByteArray)(b:ak)(c:Int)(d:al)(e:ag)(f g:af)(h:ax)(i:af):VI R kk (k+1) J a b c d e f g h i=
 R5 a b c d e f g h i (fun a0 a1 a2 a3 a4=>J .ret (zg5 a0 a1 a2 a3 a4)) (VI R kk k J) (fun a0 a1 a2 a3 a4=>J (.exit 0) (zg6 a0 a1 a2 a3 a4)):=by kernel_rfl
theorem afy(a:ByteArray)(b:ak)(c:al)(d:af)(e:ax):C6 R kk K .ret (zg5 a b c d e)=
 C7 a b c d e (fun a0 a1=>K [.aj y5 a0 [[1]],.aj (.pair (.int .i64) (.pair (.int .i64) .unit)) a1 []] none):=by kernel_rfl
theorem afz(a:ByteArray)(b:ak)(c:al)(d:af)(e:ax):C6 R kk K (.exit 0) (zg6 a b c d e)=
 VN a b c d e (VJ R kk kk (Pp R kk K)):=by kernel_rfl
theorem amv(a:ByteArray)(b:ak)(c:Int)(d:al)(e:af)(f:ax):VJ R kk (k+1) J a b c d e f=
 R6 a b c d e f (VJ R kk k J) (fun a0 a1 a2 a3=>J (.exit 2) (zg7 a0 a1 a2 a3)):=by kernel_rfl
theorem afA(a:ByteArray)(b:ak)(c:af)(d:ax):Pp R kk K (.exit 2) (zg7 a b c d)=
 VO a b c d (VK R kk kk (Pq R kk K)):=by kernel_rfl
theorem amw(a:ak)(b:Int)(c:af)(d:ax)(e:af):VK R kk (k+1) J a b c d e=
 R7 a b c d e (VL R kk kk (Pr R kk k J)) (fun a0 a1 a2=>J (.exit 4) (zg8 a0 a1 a2)):=by kernel_rfl
theorem afB(a:af)(b:ax)(c:af):Pq R kk K (.exit 4) (zg8 a b c)=
 z116 a b c (fun a0 a1=>K [.aj y5 a0 [[1]],.aj (.pair (.int .i64) (.pair (.int .i64) .unit)) a1 []] none):=by kernel_rfl
theorem amx(a:ak)(b c:Int)(d:af)(e:ax)(f:af):VL R kk (k+1) J a b c d e f=
 R8 a b c d e f (VL R kk k J) (fun a0 a1 a2 a3 a4=>J (.exit 6) (zg9 a0 a1 a2 a3 a4)):=by kernel_rfl
theorem afC(a:ak)(b:Int)(c:af)(d:ax)(e:af):Pr R kk k J (.exit 6) (zg9 a b c d e)=
 VP a b c d e (VK R kk k J):=by kernel_rfl
theorem aja{kk:Nat}(hF:kk=ah)(t12:ByteArray)(t14:ak)(t15:Int)(bQ:al)(eL:ag)(jy gd:af)(jz:ax)(nz:af):VI R kk k J t12 t14 t15 bQ eL jy gd jz nz=(xG k t12 t14 t15 bQ eL jy gd jz nz).bind fun e=>(Sum.elim (fun(we:qC)=>J .ret (zg5 we.1 we.2.1 we.2.2.1 we.2.2.2.1 we.2.2.2.2)) (fun(we:qC)=>J (.exit 0) (zg6 we.1 we.2.1 we.2.2.1 we.2.2.2.1 we.2.2.2.2)) e):=by
 induction k generalizing t12 t14 t15 bQ eL jy gd jz nz with
 |zero=>rfl
 |succ k ih=>
  rw[amu]
  simp only[xG,R5,ih,ay]
theorem ajb{kk:Nat}(hF:kk=ah)(t12:ByteArray)(t14:ak)(t19:Int)(bQ:al)(gd:af)(jz:ax):VJ R kk k J t12 t14 t19 bQ gd jz=(xH k t12 t14 t19 bQ gd jz).bind fun e=>J (.exit 2) (zg7 e.1 e.2.1 e.2.2.1 e.2.2.2):=by
 induction k generalizing t12 t14 t19 bQ gd jz with
 |zero=>rfl
 |succ k ih=>
  rw[amv]
  simp only[xH,R6,ih,ay]
theorem ajd{kk:Nat}(hF:kk=ah)(t14:ak)(t21 t22:Int)(gd:af)(jz:ax)(jx:af):VL R kk k J t14 t21 t22 gd jz jx=(ve k t14 t21 t22 gd jz jx).bind fun e=>J (.exit 6) (zg9 e.1 e.2.1 e.2.2.1 e.2.2.2.1 e.2.2.2.2):=by
 induction k generalizing t14 t21 t22 gd jz jx with
 |zero=>rfl
 |succ k ih=>
  rw[amx]
  simp only[ve,R8,ih,ay]
theorem ajc{kk:Nat}(hF:kk=ah)(t14:ak)(t21:Int)(gd:af)(jz:ax)(jx:af):VK R kk k J t14 t21 gd jz jx=(GG k t14 t21 gd jz jx).bind fun e=>J (.exit 4) (zg8 e.1 e.2.1 e.2.2):=by
 induction k generalizing t14 t21 gd jz jx with
 |zero=>rfl
 |succ k ih=>
  rw[amw]
  simp only[GG,R7,VP,ih,ajd (hF:=hF),afC,ay,<-hF]
def zB:ai:=fo.add 43 [bN,aC,aC,y5] (xf bN aC aC y5 qk (fun _ r K=>K [.aj y5 r.1 [[1]],.aj (.pair (.int .i64) (.pair (.int .i64) .unit)) r.2 []] none))
theorem ab9:aJ Tryz.prog zB:=AD q7 Tryz.f43 (fun R kk x0 x1 x2 x3 K=>VM x0 x1 x2 x3 (fun a0 a1=>K [.aj y5 a0 [[1]],.aj (.pair (.int .i64) (.pair (.int .i64) .unit)) a1 []] none) (VI R kk kk (C6 R kk K))) ab8 (ek _ _ _ _) Tryz.func43 (by kernel_rfl) rfl (fun _ _ _ _ _ _ h=>h _ _) (fun _ _ _ _ _ _ _=>by kernel_rfl) fun R kk e x0 x1 x2 x3 K=>by
 simp only[qk,VM,C7,VN,VO,z116,aja (hF:=e),ajb (hF:=e),ajc (hF:=e),afy,afz,afA,afB,ay,<-e]
def aoW:Env:=e0 [dK,(.int .i64),.str]
def zE:ai:=zB.add 16 [dK,(.int .i64),.str] (gu dK (.int .i64) .str ss (fun _ r K=>K [tI r.1,tS r.2] none))
theorem aca:aJ Tryz.prog zE:=gx aoW Tryz.f16 (fun R kk x0 x1 x2 K=>Wc x0 x1 x2 (fun a0 a1=>K [tI a0,tS a1] none)) ab9 (ek _ _ _ _) Tryz.func16 (by kernel_rfl) rfl (fun _ _ _ _ _ _ h=>h _ _) (fun _ _ _ _ _ _=>by kernel_rfl) fun R kk e x0 x1 x2 K=>by
 simp only[ss,Wc,ay]
def JF:Env:=e0 [dK,(.int .i64),.str]
def zG:ai:=zE.add 4 [dK,(.int .i64),.str] (gu dK (.int .i64) .str JE (fun _ r K=>K [tB r] none))
theorem acb:aJ Tryz.prog zG:=gx JF Tryz.f4 (fun R kk x0 x1 x2 K=>ZC x0 x1 x2 (fun a0=>K [tB a0] none)) aca (ek _ _ _ _) Tryz.func4 (by kernel_rfl) rfl (fun _ _ _ _ _ _ h=>h _ _) (fun _ _ _ _ _ _=>by kernel_rfl) fun R kk e x0 x1 x2 K=>by
 simp only[JE,ZC,ay]
end
end Go.Proofs.YtkgpjibbdpikcaaGreatDoor

