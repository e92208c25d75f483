/- No condition. -/
import Derived.Test.YtkgpjibbdpikcaaGreatDoorK4
set_option linter.unusedVariables false
set_option linter.unusedSimpArgs false
set_option maxRecDepth 100000
namespace Go.Proofs.YtkgpjibbdpikcaaGreatDoor
noncomputable section
open Go Go.Ref Groat
variable (R:Type) (kk k:Nat) (K:KF R) (J:KX R)
theorem z1qx{kk:Nat}(hF:kk=FUEL)(t3:Int)(bt1:Zt28):zn4 R kk k J t3 bt1=(zc8 k t3 bt1).bind fun e=>(Sum.elim (fun(we:Bool)=>J .ret (zgg we)) (fun(we:Unit)=>J (.exit 0) (zgh)) e):=by
 induction k generalizing t3 bt1 with
 |zero=>rfl
 |succ k ih=>
  rw[z1w9]
  simp only[zc8,z11h,ih,nn_]
def Tb110:Funs:=Tb109.add 28 [y18] (pu1 y18 Q149 (fun _ r K=>K [tB r] none))
theorem o110:Okt Tryz.prog Tb110:=st1 zup Tryz.f28 (fun R kk x0 K=>zn5 x0 (fun a0=>K [tB a0] none) (zn4 R kk kk (z11g R kk K))) o109 (ek _ _ _ _) Tryz.func28 (by kernel_rfl) rfl (fun _ _ _ _ _ _ h=>h _ _) (fun _ _ _ _=>by kernel_rfl) fun R kk e x0 K=>by
 simp only[Q149,zn5,z11i,z11j,z1qx (hF:=e),z1jp,z1jq,nn_,←e]
def zuk:Env:=tab.env (fun i=>bif Nat.beq i 4 then [1,3] else []) (fun i=>bif Nat.beq i 4 then [2] else []) [] [y12]
def zm3(a:Int)(b:Zt22):Option R:=loopR (ev zuk (Tb110 R) kk (sub [1,1,0,1,0,0] (cd Tryz.f71))) [1,3] [2] k ⟨uS 1 ([.ptr 2 y12 []]::uS 1 ([tI a]::uS 35 [])),nS 2 ((some ⟨y12,b,[]⟩)::nS 37 [])⟩ J
def zfs(a:Bool):State:=⟨uS 2 ([tB a]::uS 36 []),nS 40 []⟩
def zft:State:=⟨uS 39 [],nS 40 []⟩
def z10n:KX R:=(zk 0 (kSeq zuk (Tb110 R) kk (sub [1,1,1] (cd Tryz.f71)) (kFin zuk Tryz.f71.results.toList none K)))
theorem z1vu(a:Int)(b:Zt22):zm3 R kk (k+1) J a b=
 zbt a b (fun a0=>J .ret (zfs a0)) (zm3 R kk k J) (J (.exit 0) (zft)):=by kernel_rfl
theorem z1j0(a:Bool):z10n R kk K .ret (zfs a)=
 z10o a (fun a0=>K [tB a0] none):=by kernel_rfl
theorem z1j1:z10n R kk K (.exit 0) (zft)=
 z10p (fun a0=>K [tB a0] none):=by kernel_rfl
theorem z1qi{kk:Nat}(hF:kk=FUEL)(t3:Int)(bt1:Zt22):zm3 R kk k J t3 bt1=(z4x k t3 bt1).bind fun e=>(Sum.elim (fun(we:Bool)=>J .ret (zfs we)) (fun(we:Unit)=>J (.exit 0) (zft)) e):=by
 induction k generalizing t3 bt1 with
 |zero=>rfl
 |succ k ih=>
  rw[z1vu]
  simp only[z4x,zbt,ih,nn_]
def Tb111:Funs:=Tb110.add 71 [y12] (pu1 y12 Q134 (fun _ r K=>K [tB r] none))
theorem o111:Okt Tryz.prog Tb111:=st1 zuk Tryz.f71 (fun R kk x0 K=>zm4 x0 (fun a0=>K [tB a0] none) (zm3 R kk kk (z10n R kk K))) o110 (ek _ _ _ _) Tryz.func71 (by kernel_rfl) rfl (fun _ _ _ _ _ _ h=>h _ _) (fun _ _ _ _=>by kernel_rfl) fun R kk e x0 K=>by
 simp only[Q134,zm4,z10o,z10p,z1qi (hF:=e),z1j0,z1j1,nn_,←e]
def z9m:Env:=tab.env (fun i=>bif Nat.beq i 4 then [1,3] else bif Nat.beq i 9 then [1,4] else []) (fun i=>bif Nat.beq i 4 then [1,2] else bif Nat.beq i 9 then [2] else []) [] [y16]
def zmd(a:Int)(b:Zt26):Option R:=loopR (ev z9m (Tb111 R) kk (sub [1,1,0,1,0,0] (cd Tryz.f29))) [1,3] [1,2] k ⟨uS 1 ([.ptr 2 y16 []]::uS 1 ([tI a]::uS 49 [])),nS 2 ((some ⟨y16,b,[]⟩)::nS 51 [])⟩ J
def zg0(a:Bool)(b:Zt26):State:=⟨uS 1 ([.ptr 2 y16 []]::[tB a]::uS 50 []),nS 2 ((some ⟨y16,b,[]⟩)::nS 51 [])⟩
def zg1(a:Zt26):State:=⟨uS 1 ([.ptr 2 y16 []]::uS 51 []),nS 2 ((some ⟨y16,a,[]⟩)::nS 51 [])⟩
def z10z:KX R:=(zk 0 (kSeq z9m (Tb111 R) kk (sub [1,1,1] (cd Tryz.f29)) (kFin z9m Tryz.f29.results.toList none K)))
def zme(a:Int)(b:Zt26):Option R:=loopR (ev z9m (Tb111 R) kk (sub [1,1,1,0,1,0,0] (cd Tryz.f29))) [1,4] [2] k ⟨uS 1 ([.ptr 2 y16 []]::uS 2 ([tI a]::uS 48 [])),nS 2 ((some ⟨y16,b,[]⟩)::nS 51 [])⟩ J
def zg2(a:Bool):State:=⟨uS 2 ([tB a]::uS 50 []),nS 54 []⟩
def zg3:State:=⟨uS 53 [],nS 54 []⟩
def z110:KX R:=(zk 2 (kSeq z9m (Tb111 R) kk (sub [1,1,1,1] (cd Tryz.f29)) (kFin z9m Tryz.f29.results.toList none K)))
theorem z1vz(a:Int)(b:Zt26):zmd R kk (k+1) J a b=
 zbz a b (fun a0 a1=>J .ret (zg0 a0 a1)) (zmd R kk k J) (fun a0=>J (.exit 0) (zg1 a0)):=by kernel_rfl
theorem z1j9(a:Bool)(b:Zt26):z10z R kk K .ret (zg0 a b)=
 z111 a b (fun a0=>K [tB a0] none):=by kernel_rfl
theorem z1ja(a:Zt26):z10z R kk K (.exit 0) (zg1 a)=
 zmg a (zme R kk kk (z110 R kk K)):=by kernel_rfl
theorem z1w0(a:Int)(b:Zt26):zme R kk (k+1) J a b=
 z112 a b (fun a0=>J .ret (zg2 a0)) (zme R kk k J) (J (.exit 2) (zg3)):=by kernel_rfl
theorem z1jb(a:Bool):z110 R kk K .ret (zg2 a)=
 z113 a (fun a0=>K [tB a0] none):=by kernel_rfl
theorem z1jc:z110 R kk K (.exit 2) (zg3)=
 z114 (fun a0=>K [tB a0] none):=by kernel_rfl
theorem z1qn{kk:Nat}(hF:kk=FUEL)(t3:Int)(bt1:Zt26):zmd R kk k J t3 bt1=(z4y k t3 bt1).bind fun e=>(Sum.elim (fun(we:(Bool×Zt26))=>J .ret (zg0 we.1 we.2)) (fun(we:Zt26)=>J (.exit 0) (zg1 we)) e):=by
 induction k generalizing t3 bt1 with
 |zero=>rfl
 |succ k ih=>
  rw[z1vz]
  simp only[z4y,zbz,ih,nn_]
theorem z1qo{kk:Nat}(hF:kk=FUEL)(t4:Int)(bt1:Zt26):zme R kk k J t4 bt1=(zby k t4 bt1).bind fun e=>(Sum.elim (fun(we:Bool)=>J .ret (zg2 we)) (fun(we:Unit)=>J (.exit 2) (zg3)) e):=by
 induction k generalizing t4 bt1 with
 |zero=>rfl
 |succ k ih=>
  rw[z1w0]
  simp only[zby,z112,ih,nn_]
def Tb112:Funs:=Tb111.add 29 [y16] (pu1 y16 Q137 (fun _ r K=>K [tB r] none))
theorem o112:Okt Tryz.prog Tb112:=st1 z9m Tryz.f29 (fun R kk x0 K=>zmf x0 (fun a0=>K [tB a0] none) (zmd R kk kk (z10z R kk K))) o111 (ek _ _ _ _) Tryz.func29 (by kernel_rfl) rfl (fun _ _ _ _ _ _ h=>h _ _) (fun _ _ _ _=>by kernel_rfl) fun R kk e x0 K=>by
 simp only[Q137,zmf,z111,zmg,z113,z114,z1qn (hF:=e),z1qo (hF:=e),z1j9,z1ja,z1jb,z1jc,nn_,←e]
def z204:Env:=e0 [y19]
def Tb113:Funs:=Tb112.add 10 [y19] (pu1 y19 Q154 (fun _ r K=>K [tB r] none))
theorem o113:Okt Tryz.prog Tb113:=st1 z204 Tryz.f10 (fun R kk x0 K=>znb x0 (fun a0=>K [tB a0] none)) o112 (ek _ _ _ _) Tryz.func10 (by kernel_rfl) rfl (fun _ _ _ _ _ _ h=>h _ _) (fun _ _ _ _=>by kernel_rfl) fun R kk e x0 K=>by
 simp only[Q154,znb,nn_]
def z1zv:Env:=e0 [(.sl 116 (.pair .str (.pair .str .unit)))]
def Tb114:Funs:=Tb113.add 81 [(.sl 116 (.pair .str (.pair .str .unit)))] (pu1 (.sl 116 (.pair .str (.pair .str .unit))) Q127 (fun _ r K=>K [.dat (.sl 116 (.pair .str (.pair .str .unit))) r [[]]] none))
theorem o114:Okt Tryz.prog Tb114:=st1 z1zv Tryz.f81 (fun R kk x0 K=>zls x0 (fun a0=>K [.dat (.sl 116 (.pair .str (.pair .str .unit))) a0 [[]]] none)) o113 (ek _ _ _ _) Tryz.func81 (by kernel_rfl) rfl (fun _ _ _ _ _ _ h=>h _ _) (fun _ _ _ _=>by kernel_rfl) fun R kk e x0 K=>by
 simp only[Q127,zls,nn_]
def z1zx:Env:=tab.env (fun _=>[]) (fun _=>[]) [2] [y12]
def Tb115:Funs:=Tb114.add 82 [y12] (pu1 y12 Q133 (fun _ r K=>K [.dat y12 r [[4]]] none))
theorem o115:Okt Tryz.prog Tb115:=st1 z1zx Tryz.f82 (fun R kk x0 K=>zm2 x0 (fun a0=>K [.dat y12 a0 [[4]]] none)) o114 (ek _ _ _ _) Tryz.func82 (by kernel_rfl) rfl (fun _ _ _ _ _ _ h=>h _ _) (fun _ _ _ _=>by kernel_rfl) fun R kk e x0 K=>by
 simp only[Q133,zm2,nn_]
def zul:Env:=tab.env (fun i=>bif Nat.beq i 3 then [1,2,3,4] else []) (fun i=>bif Nat.beq i 3 then [2,3] else []) [2] [y16]
def zmb(a:Int)(b c d:Zt26):Option R:=loopR (ev zul (Tb115 R) kk (sub [1,1,0,1,0,0] (cd Tryz.f32))) [1,2,3,4] [2,3] k ⟨uS 1 ([.ptr 2 y16 []]::[.ptr 3 y16 []]::[.ptr 4 y16 []]::[tI a]::uS 23 []),nS 2 ((some ⟨y16,b,[]⟩)::(some ⟨y16,c,[[0],[1]]⟩)::(some ⟨y16,d,[[0],[1]]⟩)::nS 24 [])⟩ J
def zfz(a b:Zt26):State:=⟨uS 2 ([.ptr 3 y16 []]::[.ptr 4 y16 []]::uS 24 []),nS 3 ((some ⟨y16,a,[[0],[1]]⟩)::(some ⟨y16,b,[[0],[1]]⟩)::nS 24 [])⟩
def z1ep:KX R:=(zk 0 (kSeq zul (Tb115 R) kk (sub [1,1,1] (cd Tryz.f32)) (kFin zul Tryz.f32.results.toList none K)))
theorem z1vy(a:Int)(b c d:Zt26):zmb R kk (k+1) J a b c d=
 z10x a b c d (zmb R kk k J) (fun a0 a1=>J (.exit 0) (zfz a0 a1)):=by kernel_rfl
theorem z1j8(a b:Zt26):z1ep R kk K (.exit 0) (zfz a b)=
 z10y a b (fun a0=>K [.dat y16 a0 [[0],[1]]] none):=by kernel_rfl
theorem z1qm{kk:Nat}(hF:kk=FUEL)(t4:Int)(bt1 bt2 bt3:Zt26):zmb R kk k J t4 bt1 bt2 bt3=(zbx k t4 bt1 bt2 bt3).bind fun e=>J (.exit 0) (zfz e.1 e.2):=by
 induction k generalizing t4 bt1 bt2 bt3 with
 |zero=>rfl
 |succ k ih=>
  rw[z1vy]
  simp only[zbx,z10x,ih,nn_]
def Tb116:Funs:=Tb115.add 32 [y16] (pu1 y16 Q136 (fun _ r K=>K [.dat y16 r [[0],[1]]] none))
theorem o116:Okt Tryz.prog Tb116:=st1 zul Tryz.f32 (fun R kk x0 K=>zmc x0 (zmb R kk kk (z1ep R kk K))) o115 (ek _ _ _ _) Tryz.func32 (by kernel_rfl) rfl (fun _ _ _ _ _ _ h=>h _ _) (fun _ _ _ _=>by kernel_rfl) fun R kk e x0 K=>by
 simp only[Q136,zmc,z10y,z1qm (hF:=e),z1j8,nn_,←e]
def z1zm:Env:=tab.env (fun _=>[]) (fun _=>[]) [2] [y15]
def Tb117:Funs:=Tb116.add 83 [y15] (pu1 y15 Q107 (fun _ r K=>K [.dat y15 r [[2]]] none))
theorem o117:Okt Tryz.prog Tb117:=st1 z1zm Tryz.f83 (fun R kk x0 K=>zl0 x0 (fun a0=>K [.dat y15 a0 [[2]]] none)) o116 (ek _ _ _ _) Tryz.func83 (by kernel_rfl) rfl (fun _ _ _ _ _ _ h=>h _ _) (fun _ _ _ _=>by kernel_rfl) fun R kk e x0 K=>by
 simp only[Q107,zl0,nn_]
def z202:Env:=tab.env (fun _=>[]) (fun _=>[]) [2] [y18]
def Tb118:Funs:=Tb117.add 33 [y18] (pu1 y18 Q148 (fun _ r K=>K [.dat y18 r [[3],[2],[0,2]]] none))
theorem o118:Okt Tryz.prog Tb118:=st1 z202 Tryz.f33 (fun R kk x0 K=>zn3 x0 (fun a0=>K [.dat y18 a0 [[3],[2],[0,2]]] none)) o117 (ek _ _ _ _) Tryz.func33 (by kernel_rfl) rfl (fun _ _ _ _ _ _ h=>h _ _) (fun _ _ _ _=>by kernel_rfl) fun R kk e x0 K=>by
 simp only[Q148,zn3,nn_]
def zus:Env:={tab.env (fun i=>bif Nat.beq i 2 then [1,2,3] else []) (fun i=>bif Nat.beq i 2 then [1,2] else []) [2] [y19] with sh:=[20]}
def zn9(a:Int)(b c:Zt32):Option R:=loopR (ev zus (Tb118 R) kk (sub [1,0,1,0,0] (cd Tryz.f12))) [1,2,3] [1,2] k ⟨uS 1 ([.ptr 2 y19 []]::[.ptr 3 y19 []]::[tI a]::uS 25 []),nS 2 ((some ⟨y19,b,[]⟩)::(some ⟨y19,c,[]⟩)::nS 26 [])⟩ J
def zgn(a b:Zt32):State:=⟨uS 1 ([.ptr 2 y19 []]::[.ptr 3 y19 []]::uS 26 []),nS 2 ((some ⟨y19,a,[]⟩)::(some ⟨y19,b,[]⟩)::nS 26 [])⟩
def z1eu:KX R:=(zk 0 (kSeq zus (Tb118 R) kk (sub [1,1] (cd Tryz.f12)) (kFin zus Tryz.f12.results.toList none K)))
theorem z1wc(a:Int)(b c:Zt32):zn9 R kk (k+1) J a b c=
 z94 a b c (zn9 R kk k J) (fun a0 a1=>J (.exit 0) (zgn a0 a1)):=by kernel_rfl
theorem z1jv(a b:Zt32):z1eu R kk K (.exit 0) (zgn a b)=
 z11r a b (fun a0=>K [.dat y19 a0 []] none):=by kernel_rfl
theorem z1r0{kk:Nat}(hF:kk=FUEL)(t3:Int)(bt1 bt2:Zt32):zn9 R kk k J t3 bt1 bt2=(z7b k t3 bt1 bt2).bind fun e=>J (.exit 0) (zgn e.1 e.2):=by
 induction k generalizing t3 bt1 bt2 with
 |zero=>rfl
 |succ k ih=>
  rw[z1wc]
  simp only[z7b,z94,ih,nn_]
def Tb119:Funs:=Tb118.add 12 [y19] (pu1 y19 Q153 (fun _ r K=>K [.dat y19 r []] none))
theorem o119:Okt Tryz.prog Tb119:=st1 zus Tryz.f12 (fun R kk x0 K=>zna x0 (zn9 R kk kk (z1eu R kk K))) o118 ((ek _ _ _ _).sh _) Tryz.func12 (by kernel_rfl) rfl (fun _ _ _ _ _ _ h=>h _ _) (fun _ _ _ _=>by kernel_rfl) fun R kk e x0 K=>by
 simp only[Q153,zna,z11r,z1r0 (hF:=e),z1jv,nn_,←e]
def z1zh:Env:=e0 [y9]
def Tb120:Funs:=Tb119.add 143 [y9] (pu1 y9 Q100 (fun _ r K=>K [tI r] none))
theorem o120:Okt Tryz.prog Tb120:=st1 z1zh Tryz.f143 (fun R kk x0 K=>zkp x0 (fun a0=>K [tI a0] none)) o119 (ek _ _ _ _) Tryz.func143 (by kernel_rfl) rfl (fun _ _ _ _ _ _ h=>h _ _) (fun _ _ _ _=>by kernel_rfl) fun R kk e x0 K=>by
 simp only[Q100,zkp,nn_]
def zu4:Env:=tab.env (fun i=>bif Nat.beq i 7 then [1,4,5] else []) (fun i=>bif Nat.beq i 7 then [2,3] else []) [] [y15]
def zkx(a b:Int)(c:Zt20):Option R:=loopR (ev zu4 (Tb120 R) kk (sub [1,1,1,1,0,1,0,0] (cd Tryz.f142))) [1,4,5] [2,3] k ⟨uS 1 ([.ptr 2 y15 []]::uS 2 ([tI a]::[tI b]::uS 49 [])),nS 2 ((some ⟨y15,c,[]⟩)::nS 53 [])⟩ J
def zf7(a b:Int):State:=⟨uS 2 ([tI a]::[tI b]::uS 51 []),nS 56 []⟩
def zf8:State:=⟨uS 55 [],nS 56 []⟩
def zzg:KX R:=(zk 0 (kSeq zu4 (Tb120 R) kk (sub [1,1,1,1,1] (cd Tryz.f142)) (kFin zu4 Tryz.f142.results.toList none K)))
theorem z1vg(a b:Int)(c:Zt20):zkx R kk (k+1) J a b c=
 zbh a b c (fun a0 a1=>J .ret (zf7 a0 a1)) (zkx R kk k J) (J (.exit 0) (zf8)):=by kernel_rfl
theorem z1i9(a b:Int):zzg R kk K .ret (zf7 a b)=
 zky a b (fun a0 a1=>K [tI a0,tI a1] none):=by kernel_rfl
theorem z1ia:zzg R kk K (.exit 0) (zf8)=
 zkz (fun a0 a1=>K [tI a0,tI a1] none):=by kernel_rfl
theorem z1pu{kk:Nat}(hF:kk=FUEL)(t4 t5:Int)(bt1:Zt20):zkx R kk k J t4 t5 bt1=(z4t k t4 t5 bt1).bind fun e=>(Sum.elim (fun(we:(Int×Int))=>J .ret (zf7 we.1 we.2)) (fun(we:Unit)=>J (.exit 0) (zf8)) e):=by
 induction k generalizing t4 t5 bt1 with
 |zero=>rfl
 |succ k ih=>
  rw[z1vg]
  simp only[z4t,zbh,ih,nn_]
def Tb121:Funs:=Tb120.add 142 [y15] (pu1 y15 Q106 (fun _ r K=>K [tI r.1,tI r.2] none))
theorem o121:Okt Tryz.prog Tb121:=st1 zu4 Tryz.f142 (fun R kk x0 K=>z8w x0 (fun a0 a1=>K [tI a0,tI a1] none) (fun a0 a1 a2=>zkx R kk kk (zzg R kk K) a0 a1 a2)) o120 (ek _ _ _ _) Tryz.func142 (by kernel_rfl) rfl (fun _ _ _ _ _ _ h=>h _ _) (fun _ _ _ _=>by kernel_rfl) fun R kk e x0 K=>by
 simp only[Q106,z18j,zky,zkz,z1pu (hF:=e),z1i9,z1ia,nn_,←e]
def z1zn:Env:=e0 [y15]
def Tb122:Funs:=Tb121.add 84 [y15] (pu1 y15 Q109 (fun _ r K=>K [tB r] none))
theorem o122:Okt Tryz.prog Tb122:=st1 z1zn Tryz.f84 (fun R kk x0 K=>zl3 x0 (fun a0=>K [tB a0] none)) o121 (ek _ _ _ _) Tryz.func84 (by kernel_rfl) rfl (fun _ _ _ _ _ _ h=>h _ _) (fun _ _ _ _=>by kernel_rfl) fun R kk e x0 K=>by
 simp only[Q109,zl3,nn_]
def zu5:Env:=tab.env (fun i=>bif Nat.beq i 2 then [1,2,5] else []) (fun i=>bif Nat.beq i 2 then [4] else []) [] [y15,(.int .i64)]
def zl1(a b:Int)(c:Zt20):Option R:=loopR (ev zu5 (Tb122 R) kk (sub [1,0,1,0,0] (cd Tryz.f49))) [1,2,5] [4] k ⟨uS 1 ([tI a]::[.ptr 3 y15 []]::uS 2 ([tI b]::uS 16 [])),nS 3 ((some ⟨y15,c,[]⟩)::nS 19 [])⟩ J
def zf9(a:Int):State:=⟨uS 4 ([tI a]::uS 17 []),nS 23 []⟩
def zfa:State:=⟨uS 22 [],nS 23 []⟩
def zzh:KX R:=(zk 0 (kSeq zu5 (Tb122 R) kk (sub [1,1] (cd Tryz.f49)) (kFin zu5 Tryz.f49.results.toList none K)))
theorem z1vh(a b:Int)(c:Zt20):zl1 R kk (k+1) J a b c=
 zzi a b c (fun a0=>J .ret (zf9 a0)) (zl1 R kk k J) (J (.exit 0) (zfa)):=by kernel_rfl
theorem z1ib(a:Int):zzh R kk K .ret (zf9 a)=
 zzj a (fun a0=>K [tI a0] none):=by kernel_rfl
theorem z1ic:zzh R kk K (.exit 0) (zfa)=
 zzk (fun a0=>K [tI a0] none):=by kernel_rfl
theorem z1pv{kk:Nat}(hF:kk=FUEL)(no_1 t5:Int)(bt2:Zt20):zl1 R kk k J no_1 t5 bt2=(zbi k no_1 t5 bt2).bind fun e=>(Sum.elim (fun(we:Int)=>J .ret (zf9 we)) (fun(we:Unit)=>J (.exit 0) (zfa)) e):=by
 induction k generalizing no_1 t5 bt2 with
 |zero=>rfl
 |succ k ih=>
  rw[z1vh]
  simp only[zbi,zzi,ih,nn_]
def Tb123:Funs:=Tb122.add 49 [y15,(.int .i64)] (pu2 y15 (.int .i64) Q108 (fun _ r K=>K [tI r] none))
theorem o123:Okt Tryz.prog Tb123:=st2 zu5 Tryz.f49 (fun R kk x0 x1 K=>zl2 x0 x1 (zl1 R kk kk (zzh R kk K))) o122 (ek _ _ _ _) Tryz.func49 (by kernel_rfl) rfl (fun _ _ _ _ _ _ h=>h _ _) (fun _ _ _ _ _=>by kernel_rfl) fun R kk e x0 x1 K=>by
 simp only[Q108,zl2,zzj,zzk,z1pv (hF:=e),z1ib,z1ic,nn_,←e]
def Q84_E:Env:=tab.env (fun i=>bif Nat.beq i 2 then [0,1,5] else []) (fun i=>bif Nat.beq i 2 then [4] else []) [] [(.sl 3 (.int .i64)),(.int .i64)]
def zx8(a:(List Int))(b c:Int):Option R:=loopR (ev Q84_E (Tb123 R) kk (sub [1,0,1,0,0] (cd Tryz.f85))) [0,1,5] [4] k ⟨[.dat (.sl 3 (.int .i64)) a []]::[tI b]::uS 3 ([tI c]::uS 12 []),nS 19 []⟩ J
def zsw(a:Bool):State:=⟨uS 4 ([tB a]::uS 13 []),nS 19 []⟩
def zsx:State:=⟨uS 18 [],nS 19 []⟩
def z1a4:KX R:=(zk 0 (kSeq Q84_E (Tb123 R) kk (sub [1,1] (cd Tryz.f85)) (kFin Q84_E Tryz.f85.results.toList none K)))
theorem z21w(a:(List Int))(b c:Int):zx8 R kk (k+1) J a b c=
 zij a b c (fun a0=>J .ret (zsw a0)) (zx8 R kk k J) (J (.exit 0) (zsx)):=by kernel_rfl
theorem z1st(a:Bool):z1a4 R kk K .ret (zsw a)=
 z1a5 a (fun a0=>K [tB a0] none):=by kernel_rfl
theorem z1su:z1a4 R kk K (.exit 0) (zsx)=
 z1a6 (fun a0=>K [tB a0] none):=by kernel_rfl
theorem z1xx{kk:Nat}(hF:kk=FUEL)(l_0:(List Int))(n_1 t5:Int):zx8 R kk k J l_0 n_1 t5=(z9z k l_0 n_1 t5).bind fun e=>(Sum.elim (fun(we:Bool)=>J .ret (zsw we)) (fun(we:Unit)=>J (.exit 0) (zsx)) e):=by
 induction k generalizing l_0 n_1 t5 with
 |zero=>rfl
 |succ k ih=>
  rw[z21w]
  simp only[z9z,zij,ih,nn_]
def Tb124:Funs:=Tb123.add 85 [(.sl 3 (.int .i64)),(.int .i64)] (pu2 (.sl 3 (.int .i64)) (.int .i64) Q84 (fun _ r K=>K [tB r] none))
theorem o124:Okt Tryz.prog Tb124:=st2 Q84_E Tryz.f85 (fun R kk x0 x1 K=>zx9 x0 x1 (zx8 R kk kk (z1a4 R kk K))) o123 (ek _ _ _ _) Tryz.func85 (by kernel_rfl) rfl (fun _ _ _ _ _ _ h=>h _ _) (fun _ _ _ _ _=>by kernel_rfl) fun R kk e x0 x1 K=>by
 simp only[Q84,zx9,z1a5,z1a6,z1xx (hF:=e),z1st,z1su,nn_,←e]
def zuq:Env:=tab.env (fun i=>bif Nat.beq i 2 then [0,1,2,7] else []) (fun i=>bif Nat.beq i 2 then [6] else []) [] [(.sl 96 (.pair (.int .i64) (.pair .str .unit))),(.int .i64),(.int .i64)]
def zn6(a:Zt13)(b c d:Int):Option R:=loopR (ev zuq (Tb124 R) kk (sub [1,0,1,0,0] (cd Tryz.f86))) [0,1,2,7] [6] k ⟨[.dat (.sl 96 (.pair (.int .i64) (.pair .str .unit))) a []]::[tI b]::[tI c]::uS 4 ([tI d]::uS 13 []),nS 22 []⟩ J
def zgj(a:Int):State:=⟨uS 6 ([tI a]::uS 14 []),nS 22 []⟩
def zgk:State:=⟨uS 21 [],nS 22 []⟩
def z11k:KX R:=(zk 0 (kSeq zuq (Tb124 R) kk (sub [1,1] (cd Tryz.f86)) (kFin zuq Tryz.f86.results.toList none K)))
theorem z1wa(a:Zt13)(b c d:Int):zn6 R kk (k+1) J a b c d=
 z79 a b c d (fun a0=>J .ret (zgj a0)) (zn6 R kk k J) (J (.exit 0) (zgk)):=by kernel_rfl
theorem z1jr(a:Int):z11k R kk K .ret (zgj a)=
 z11l a (fun a0=>K [tI a0] none):=by kernel_rfl
theorem z1js:z11k R kk K (.exit 0) (zgk)=
 z11m (fun a0=>K [tI a0] none):=by kernel_rfl
theorem z1qy{kk:Nat}(hF:kk=FUEL)(l_0:Zt13)(n_1 e_2 t7:Int):zn6 R kk k J l_0 n_1 e_2 t7=(z4b k l_0 n_1 e_2 t7).bind fun e=>(Sum.elim (fun(we:Int)=>J .ret (zgj we)) (fun(we:Unit)=>J (.exit 0) (zgk)) e):=by
 induction k generalizing l_0 n_1 e_2 t7 with
 |zero=>rfl
 |succ k ih=>
  rw[z1wa]
  simp only[z4b,z79,ih,nn_]
def Tb125:Funs:=Tb124.add 86 [(.sl 96 (.pair (.int .i64) (.pair .str .unit))),(.int .i64),(.int .i64)] (pu3 (.sl 96 (.pair (.int .i64) (.pair .str .unit))) (.int .i64) (.int .i64) Q150 (fun _ r K=>K [tI r] none))
theorem o125:Okt Tryz.prog Tb125:=st3 zuq Tryz.f86 (fun R kk x0 x1 x2 K=>zc9 x0 x1 x2 (zn6 R kk kk (z11k R kk K))) o124 (ek _ _ _ _) Tryz.func86 (by kernel_rfl) rfl (fun _ _ _ _ _ _ h=>h _ _) (fun _ _ _ _ _ _=>by kernel_rfl) fun R kk e x0 x1 x2 K=>by
 simp only[Q150,zc9,z11l,z11m,z1qy (hF:=e),z1jr,z1js,nn_,←e]
def Q80_E:Env:=e0 [(.int .i64),(.int .u8)]
def Tb126:Funs:=Tb125.add 193 [(.int .i64),(.int .u8)] (pu2 (.int .i64) (.int .u8) Q80 (fun _ r K=>K [tB r] none))
theorem o126:Okt Tryz.prog Tb126:=st2 Q80_E Tryz.f193 (fun R kk x0 x1 K=>zx4 x0 x1 (fun a0=>K [tB a0] none)) o125 (ek _ _ _ _) Tryz.func193 (by kernel_rfl) rfl (fun _ _ _ _ _ _ h=>h _ _) (fun _ _ _ _ _=>by kernel_rfl) fun R kk e x0 x1 K=>by
 simp only[Q80,zx4,nn_]
def Q79_E:Env:=tab.env (fun i=>bif Nat.beq i 2 then [0,1,5] else []) (fun i=>bif Nat.beq i 2 then [4] else []) [] [(.int .i64),.str]
def zx2(a:Int)(b:ByteArray)(c:Int):Option R:=loopR (ev Q79_E (Tb126 R) kk (sub [1,0,1,0,0] (cd Tryz.f144))) [0,1,5] [4] k ⟨[tI a]::[tS b]::uS 3 ([tI c]::uS 13 []),nS 20 []⟩ J
def zss(a:Int):State:=⟨uS 4 ([tI a]::uS 14 []),nS 20 []⟩
def zst:State:=⟨uS 19 [],nS 20 []⟩
def z19x:KX R:=(zk 0 (kSeq Q79_E (Tb126 R) kk (sub [1,1] (cd Tryz.f144)) (kFin Q79_E Tryz.f144.results.toList none K)))
theorem z21t(a:Int)(b:ByteArray)(c:Int):zx2 R kk (k+1) J a b c=
 zii a b c (fun a0=>J .ret (zss a0)) (zx2 R kk k J) (J (.exit 0) (zst)):=by kernel_rfl
theorem z1sp(a:Int):z19x R kk K .ret (zss a)=
 z19y a (fun a0=>K [tI a0] none):=by kernel_rfl
theorem z1sq:z19x R kk K (.exit 0) (zst)=
 z19z (fun a0=>K [tI a0] none):=by kernel_rfl
theorem z1xu{kk:Nat}(hF:kk=FUEL)(class_0:Int)(s_1:ByteArray)(t5:Int):zx2 R kk k J class_0 s_1 t5=(z9y k class_0 s_1 t5).bind fun e=>(Sum.elim (fun(we:Int)=>J .ret (zss we)) (fun(we:Unit)=>J (.exit 0) (zst)) e):=by
 induction k generalizing class_0 s_1 t5 with
 |zero=>rfl
 |succ k ih=>
  rw[z21t]
  simp only[z9y,zii,ih,nn_]
def Tb127:Funs:=Tb126.add 144 [(.int .i64),.str] (pu2 (.int .i64) .str Q79 (fun _ r K=>K [tI r] none))
theorem o127:Okt Tryz.prog Tb127:=st2 Q79_E Tryz.f144 (fun R kk x0 x1 K=>zx3 x0 x1 (zx2 R kk kk (z19x R kk K))) o126 (ek _ _ _ _) Tryz.func144 (by kernel_rfl) rfl (fun _ _ _ _ _ _ h=>h _ _) (fun _ _ _ _ _=>by kernel_rfl) fun R kk e x0 x1 K=>by
 simp only[Q79,zx3,z19y,z19z,z1xu (hF:=e),z1sp,z1sq,nn_,←e]
def Q95_E:Env:=e0 [(.int .u8)]
def Tb128:Funs:=Tb127.add 215 [(.int .u8)] (pu1 (.int .u8) Q95 (fun _ r K=>K [tI r] none))
theorem o128:Okt Tryz.prog Tb128:=st1 Q95_E Tryz.f215 (fun R kk x0 K=>z1a8 x0 (fun a0=>K [tI a0] none)) o127 (ek _ _ _ _) Tryz.func215 (by kernel_rfl) rfl (fun _ _ _ _ _ _ h=>h _ _) (fun _ _ _ _=>by kernel_rfl) fun R kk e x0 K=>by
 simp only[Q95,z1a8,nn_]
def Q96_E:Env:=e0 [.str,(.int .i64)]
def Tb129:Funs:=Tb128.add 194 [.str,(.int .i64)] (pu2 .str (.int .i64) Q96 (fun _ r K=>K [tI r.1,tI r.2.1,tI r.2.2] none))
theorem o129:Okt Tryz.prog Tb129:=st2 Q96_E Tryz.f194 (fun R kk x0 x1 K=>zir x0 x1 (fun a0 a1 a2=>K [tI a0,tI a1,tI a2] none)) o128 (ek _ _ _ _) Tryz.func194 (by kernel_rfl) rfl (fun _ _ _ _ _ _ h=>h _ _) (fun _ _ _ _ _=>by kernel_rfl) fun R kk e x0 x1 K=>by
 simp only[Q96,zir,nn_]
def Q97_E:Env:=e0 [.str,(.int .i64)]
def Tb130:Funs:=Tb129.add 195 [.str,(.int .i64)] (pu2 .str (.int .i64) Q97 (fun _ r K=>K [tI r.1,tI r.2.1,tI r.2.2] none))
theorem o130:Okt Tryz.prog Tb130:=st2 Q97_E Tryz.f195 (fun R kk x0 x1 K=>zis x0 x1 (fun a0 a1 a2=>K [tI a0,tI a1,tI a2] none)) o129 (ek _ _ _ _) Tryz.func195 (by kernel_rfl) rfl (fun _ _ _ _ _ _ h=>h _ _) (fun _ _ _ _ _=>by kernel_rfl) fun R kk e x0 x1 K=>by
 simp only[Q97,zis,nn_]
def Q99_E:Env:=tab.env (fun i=>bif Nat.beq i 2 then [0,1,2,7] else []) (fun i=>bif Nat.beq i 2 then [6] else []) [] [(.sl 245 (.pair (.int .i64) (.pair .str .unit))),(.int .i64),(.int .i64)]
def zxn(a:Zt13)(b c d:Int):Option R:=loopR (ev Q99_E (Tb130 R) kk (sub [1,0,1,0,0] (cd Tryz.f196))) [0,1,2,7] [6] k ⟨[.dat (.sl 245 (.pair (.int .i64) (.pair .str .unit))) a []]::[tI b]::[tI c]::uS 4 ([tI d]::uS 12 []),nS 21 []⟩ J
def zt5(a:Bool):State:=⟨uS 6 ([tB a]::uS 13 []),nS 21 []⟩
def zt6:State:=⟨uS 20 [],nS 21 []⟩
def z1ac:KX R:=(zk 0 (kSeq Q99_E (Tb130 R) kk (sub [1,1] (cd Tryz.f196)) (kFin Q99_E Tryz.f196.results.toList none K)))
theorem z224(a:Zt13)(b c d:Int):zxn R kk (k+1) J a b c d=
 ziv a b c d (fun a0=>J .ret (zt5 a0)) (zxn R kk k J) (J (.exit 0) (zt6)):=by kernel_rfl
theorem z1t2(a:Bool):z1ac R kk K .ret (zt5 a)=
 z1ad a (fun a0=>K [tB a0] none):=by kernel_rfl
theorem z1t3:z1ac R kk K (.exit 0) (zt6)=
 z1ae (fun a0=>K [tB a0] none):=by kernel_rfl
theorem z1y5{kk:Nat}(hF:kk=FUEL)(l_0:Zt13)(n_1 tag_2 t7:Int):zxn R kk k J l_0 n_1 tag_2 t7=(za3 k l_0 n_1 tag_2 t7).bind fun e=>(Sum.elim (fun(we:Bool)=>J .ret (zt5 we)) (fun(we:Unit)=>J (.exit 0) (zt6)) e):=by
 induction k generalizing l_0 n_1 tag_2 t7 with
 |zero=>rfl
 |succ k ih=>
  rw[z224]
  simp only[za3,ziv,ih,nn_]
def Tb131:Funs:=Tb130.add 196 [(.sl 245 (.pair (.int .i64) (.pair .str .unit))),(.int .i64),(.int .i64)] (pu3 (.sl 245 (.pair (.int .i64) (.pair .str .unit))) (.int .i64) (.int .i64) Q99 (fun _ r K=>K [tB r] none))
theorem o131:Okt Tryz.prog Tb131:=st3 Q99_E Tryz.f196 (fun R kk x0 x1 x2 K=>zxo x0 x1 x2 (zxn R kk kk (z1ac R kk K))) o130 (ek _ _ _ _) Tryz.func196 (by kernel_rfl) rfl (fun _ _ _ _ _ _ h=>h _ _) (fun _ _ _ _ _ _=>by kernel_rfl) fun R kk e x0 x1 x2 K=>by
 simp only[Q99,zxo,z1ad,z1ae,z1y5 (hF:=e),z1t2,z1t3,nn_,←e]
def Q98_E:Env:=tab.env (fun i=>bif Nat.beq i 3 then [0,5,6] else []) (fun i=>bif Nat.beq i 3 then [2,3,4,5] else []) [] [.str]
def zxm(a:ByteArray)(b:Zt13)(c:Int):Option R:=loopR (ev Q98_E (Tb131 R) kk (sub [1,1,1,0,0,0] (cd Tryz.f145))) [0,5,6] [2,3,4,5] k ⟨[tS a]::uS 4 ([.dat (.sl 245 (.pair (.int .i64) (.pair .str .unit))) b [[]]]::[tI c]::uS 61 []),nS 69 []⟩ J
def zt3(a:Zt13)(b c:Int)(d:Zt13):State:=⟨uS 2 ([.dat (.sl 245 (.pair (.int .i64) (.pair .str .unit))) a [[]]]::[tI b]::[tI c]::[.dat (.sl 245 (.pair (.int .i64) (.pair .str .unit))) d [[]]]::uS 62 []),nS 69 []⟩
def zt4(a:Zt13):State:=⟨uS 5 ([.dat (.sl 245 (.pair (.int .i64) (.pair .str .unit))) a [[]]]::uS 62 []),nS 69 []⟩
def z1a9:KX R:=(zk 0 (kSeq Q98_E (Tb131 R) kk (sub [1,1,1,1] (cd Tryz.f145)) (kFin Q98_E Tryz.f145.results.toList none K)))
theorem z223(a:ByteArray)(b:Zt13)(c:Int):zxm R kk (k+1) J a b c=
 ziu a b c (fun a0 a1 a2 a3=>J .ret (zt3 a0 a1 a2 a3)) (zxm R kk k J) (fun a0=>J (.exit 0) (zt4 a0)):=by kernel_rfl
theorem z1t0(a:Zt13)(b c:Int)(d:Zt13):z1a9 R kk K .ret (zt3 a b c d)=
 z1aa a b c d (fun a0 a1 a2=>K [.dat (.sl 245 (.pair (.int .i64) (.pair .str .unit))) a0 [[]],tI a1,tI a2] none):=by kernel_rfl
theorem z1t1(a:Zt13):z1a9 R kk K (.exit 0) (zt4 a)=
 z1ab a (fun a0 a1 a2=>K [.dat (.sl 245 (.pair (.int .i64) (.pair .str .unit))) a0 [],tI a1,tI a2] none):=by kernel_rfl
theorem z1y4{kk:Nat}(hF:kk=FUEL)(b_0:ByteArray)(t5:Zt13)(t6:Int):zxm R kk k J b_0 t5 t6=(z7w k b_0 t5 t6).bind fun e=>(Sum.elim (fun(we:Zt23)=>J .ret (zt3 we.1 we.2.1 we.2.2.1 we.2.2.2)) (fun(we:Zt13)=>J (.exit 0) (zt4 we)) e):=by
 induction k generalizing b_0 t5 t6 with
 |zero=>rfl
 |succ k ih=>
  rw[z223]
  simp only[z7w,ziu,ih,nn_]
def Tb132:Funs:=Tb131.add 145 [.str] (pu1 .str Q98 (fun _ r K=>(Sum.elim (fun(wr:Zt18)=>K [.dat (.sl 245 (.pair (.int .i64) (.pair .str .unit))) wr.1 [[]],tI wr.2.1,tI wr.2.2] none) (fun(wr:Zt18)=>K [.dat (.sl 245 (.pair (.int .i64) (.pair .str .unit))) wr.1 [],tI wr.2.1,tI wr.2.2] none) r)))
theorem o132:Okt Tryz.prog Tb132:=st1 Q98_E Tryz.f145 (fun R kk x0 K=>zit x0 (zxm R kk kk (z1a9 R kk K))) o131 (ek _ _ _ _) Tryz.func145 (by kernel_rfl) rfl (fun _ _ _ _ _ _ h=>z1fz (fun _=>h _ _) (fun _=>h _ _)) (fun _ _ _ _=>by kernel_rfl) fun R kk e x0 K=>by
 simp only[Q98,zit,z1aa,z1ab,z1y4 (hF:=e),z1t0,z1t1,nn_,←e]
def z1zi:Env:=e0 [y9,.str]
def Tb133:Funs:=Tb132.add 87 [y9,.str] (pu2 y9 .str Q101 (fun _ r K=>K [tI r] none))
theorem o133:Okt Tryz.prog Tb133:=st2 z1zi Tryz.f87 (fun R kk x0 x1 K=>z8o x0 x1 (fun a0=>K [tI a0] none)) o132 (ek _ _ _ _) Tryz.func87 (by kernel_rfl) rfl (fun _ _ _ _ _ _ h=>h _ _) (fun _ _ _ _ _=>by kernel_rfl) fun R kk e x0 x1 K=>by
 simp only[Q101,z8o,nn_]
def z9n:Env:=tab.env (fun i=>bif Nat.beq i 7 then [1,5,6] else bif Nat.beq i 16 then [1,5,7] else []) (fun i=>bif Nat.beq i 7 then [1,2,3,4,5] else bif Nat.beq i 16 then [1,2,3,4] else []) [] [y18]
def zmx(a b:Int)(c:Zt28):Option R:=loopR (ev z9n (Tb133 R) kk (sub [1,1,1,1,0,1,0,0] (cd Tryz.f34))) [1,5,6] [1,2,3,4,5] k ⟨uS 1 ([.ptr 2 y18 []]::uS 3 ([tI a]::[tI b]::uS 109 [])),nS 2 ((some ⟨y18,c,[]⟩)::nS 114 [])⟩ J
def zgc(a b c d:Int)(e:Zt28):State:=⟨uS 1 ([.ptr 2 y18 []]::[tI a]::[tI b]::[tI c]::[tI d]::uS 110 []),nS 2 ((some ⟨y18,e,[]⟩)::nS 114 [])⟩
def zgd(a:Int)(b:Zt28):State:=⟨uS 1 ([.ptr 2 y18 []]::uS 3 ([tI a]::uS 110 [])),nS 2 ((some ⟨y18,b,[]⟩)::nS 114 [])⟩
def z11c:KX R:=(zk 0 (kSeq z9n (Tb133 R) kk (sub [1,1,1,1,1] (cd Tryz.f34)) (kFin z9n Tryz.f34.results.toList none K)))
def zmy(a b:Int)(c:Zt28):Option R:=loopR (ev z9n (Tb133 R) kk (sub [1,1,1,1,1,0,1,0,0] (cd Tryz.f34))) [1,5,7] [1,2,3,4] k ⟨uS 1 ([.ptr 2 y18 []]::uS 3 ([tI a]::uS 1 ([tI b]::uS 108 []))),nS 2 ((some ⟨y18,c,[]⟩)::nS 114 [])⟩ J
def zge(a b c:Int)(d:Zt28):State:=⟨uS 1 ([.ptr 2 y18 []]::[tI a]::[tI b]::[tI c]::uS 111 []),nS 2 ((some ⟨y18,d,[]⟩)::nS 114 [])⟩
def zgf(a:Zt28):State:=⟨uS 1 ([.ptr 2 y18 []]::uS 114 []),nS 2 ((some ⟨y18,a,[]⟩)::nS 114 [])⟩
def z11d:KX R:=(zk 2 (kSeq z9n (Tb133 R) kk (sub [1,1,1,1,1,1] (cd Tryz.f34)) (kFin z9n Tryz.f34.results.toList none K)))
theorem z1w7(a b:Int)(c:Zt28):zmx R kk (k+1) J a b c=
 zc6 a b c (fun a0 a1 a2 a3 a4=>J .ret (zgc a0 a1 a2 a3 a4)) (zmx R kk k J) (fun a0 a1=>J (.exit 0) (zgd a0 a1)):=by kernel_rfl
theorem z1jl(a b c d:Int)(e:Zt28):z11c R kk K .ret (zgc a b c d e)=
 z11e a b c d e (fun a0 a1 a2=>K [tI a0,tI a1,tI a2] none):=by kernel_rfl
theorem z1jm(a:Int)(b:Zt28):z11c R kk K (.exit 0) (zgd a b)=
 zn0 a b (zmy R kk kk (z11d R kk K)):=by kernel_rfl
theorem z1w8(a b:Int)(c:Zt28):zmy R kk (k+1) J a b c=
 zc7 a b c (fun a0 a1 a2 a3=>J .ret (zge a0 a1 a2 a3)) (zmy R kk k J) (fun a0=>J (.exit 2) (zgf a0)):=by kernel_rfl
theorem z1jn(a b c:Int)(d:Zt28):z11d R kk K .ret (zge a b c d)=
 z11f a b c d (fun a0 a1 a2=>K [tI a0,tI a1,tI a2] none):=by kernel_rfl
theorem z1jo(a:Zt28):z11d R kk K (.exit 2) (zgf a)=
 zn1 a (fun a0 a1 a2=>K [tI a0,tI a1,tI a2] none):=by kernel_rfl
theorem z1qv{kk:Nat}(hF:kk=FUEL)(t5 t6:Int)(bt1:Zt28):zmx R kk k J t5 t6 bt1=(z77 k t5 t6 bt1).bind fun e=>(Sum.elim (fun(we:(Int×Int×Int×Int×Zt28))=>J .ret (zgc we.1 we.2.1 we.2.2.1 we.2.2.2.1 we.2.2.2.2)) (fun(we:(Int×Zt28))=>J (.exit 0) (zgd we.1 we.2)) e):=by
 induction k generalizing t5 t6 bt1 with
 |zero=>rfl
 |succ k ih=>
  rw[z1w7]
  simp only[z77,zc6,ih,nn_]
theorem z1qw{kk:Nat}(hF:kk=FUEL)(t5 t7:Int)(bt1:Zt28):zmy R kk k J t5 t7 bt1=(z78 k t5 t7 bt1).bind fun e=>(Sum.elim (fun(we:(Int×Int×Int×Zt28))=>J .ret (zge we.1 we.2.1 we.2.2.1 we.2.2.2)) (fun(we:Zt28)=>J (.exit 2) (zgf we)) e):=by
 induction k generalizing t5 t7 bt1 with
 |zero=>rfl
 |succ k ih=>
  rw[z1w8]
  simp only[z78,zc7,ih,nn_]
def Tb134:Funs:=Tb133.add 34 [y18] (pu1 y18 Q146 (fun _ r K=>K [tI r.1,tI r.2.1,tI r.2.2] none))
theorem o134:Okt Tryz.prog Tb134:=st1 z9n Tryz.f34 (fun R kk x0 K=>zmz x0 (fun a0 a1 a2=>K [tI a0,tI a1,tI a2] none) (zmx R kk kk (z11c R kk K))) o133 (ek _ _ _ _) Tryz.func34 (by kernel_rfl) rfl (fun _ _ _ _ _ _ h=>h _ _) (fun _ _ _ _=>by kernel_rfl) fun R kk e x0 K=>by
 simp only[Q146,zmz,z11e,zn0,z11f,zn1,z1qv (hF:=e),z1qw (hF:=e),z1jl,z1jm,z1jn,z1jo,nn_,←e]
def Q69_E:Env:=e0 [(.int .u8)]
def Tb135:Funs:=Tb134.add 184 [(.int .u8)] (pu1 (.int .u8) Q69 (fun _ r K=>K [tB r] none))
theorem o135:Okt Tryz.prog Tb135:=st1 Q69_E Tryz.f184 (fun R kk x0 K=>zwc x0 (fun a0=>K [tB a0] none)) o134 (ek _ _ _ _) Tryz.func184 (by kernel_rfl) rfl (fun _ _ _ _ _ _ h=>h _ _) (fun _ _ _ _=>by kernel_rfl) fun R kk e x0 K=>by
 simp only[Q69,zwc,nn_]
def Q68_E:Env:=tab.env (fun i=>bif Nat.beq i 2 then [0,3] else []) (fun i=>bif Nat.beq i 2 then [2] else []) [] [.str]
def zw9(a:ByteArray)(b:Int):Option R:=loopR (ev Q68_E (Tb135 R) kk (sub [1,0,1,0,0] (cd Tryz.f124))) [0,3] [2] k ⟨[tS a]::uS 2 ([tI b]::uS 11 []),nS 16 []⟩ J
def zsc(a:Bool):State:=⟨uS 2 ([tB a]::uS 12 []),nS 16 []⟩
def zsd:State:=⟨uS 15 [],nS 16 []⟩
def z19f:KX R:=(zk 0 (kSeq Q68_E (Tb135 R) kk (sub [1,1] (cd Tryz.f124)) (kFin Q68_E Tryz.f124.results.toList none K)))
theorem z21i(a:ByteArray)(b:Int):zw9 R kk (k+1) J a b=
 zwb a b (fun a0=>J .ret (zsc a0)) (zw9 R kk k J) (J (.exit 0) (zsd)):=by kernel_rfl
theorem z1s9(a:Bool):z19f R kk K .ret (zsc a)=
 z19g a (fun a0=>K [tB a0] none):=by kernel_rfl
theorem z1sa:z19f R kk K (.exit 0) (zsd)=
 z19h (fun a0=>K [tB a0] none):=by kernel_rfl
theorem z1xj{kk:Nat}(hF:kk=FUEL)(s_0:ByteArray)(t3:Int):zw9 R kk k J s_0 t3=(zd1 k s_0 t3).bind fun e=>(Sum.elim (fun(we:Bool)=>J .ret (zsc we)) (fun(we:Unit)=>J (.exit 0) (zsd)) e):=by
 induction k generalizing s_0 t3 with
 |zero=>rfl
 |succ k ih=>
  rw[z21i]
  simp only[zd1,zwb,ih,nn_]
def Tb136:Funs:=Tb135.add 124 [.str] (pu1 .str Q68 (fun _ r K=>K [tB r] none))
theorem o136:Okt Tryz.prog Tb136:=st1 Q68_E Tryz.f124 (fun R kk x0 K=>zwa x0 (zw9 R kk kk (z19f R kk K))) o135 (ek _ _ _ _) Tryz.func124 (by kernel_rfl) rfl (fun _ _ _ _ _ _ h=>h _ _) (fun _ _ _ _=>by kernel_rfl) fun R kk e x0 K=>by
 simp only[Q68,zwa,z19g,z19h,z1xj (hF:=e),z1s9,z1sa,nn_,←e]
def z1zs:Env:=e0 [.str]
def Tb137:Funs:=Tb136.add 112 [.str] (pu1 .str Q116 (fun _ r K=>K [tB r] none))
theorem o137:Okt Tryz.prog Tb137:=st1 z1zs Tryz.f112 (fun R kk x0 K=>zl8 x0 (fun a0=>K [tB a0] none)) o136 (ek _ _ _ _) Tryz.func112 (by kernel_rfl) rfl (fun _ _ _ _ _ _ h=>h _ _) (fun _ _ _ _=>by kernel_rfl) fun R kk e x0 K=>by
 simp only[Q116,zl8,nn_]
def z200:Env:=e0 [.str,(.int .i64)]
def Tb138:Funs:=Tb137.add 88 [.str,(.int .i64)] (pu2 .str (.int .i64) Q142 (fun _ r K=>K [tB r] none))
theorem o138:Okt Tryz.prog Tb138:=st2 z200 Tryz.f88 (fun R kk x0 x1 K=>zmt x0 x1 (fun a0=>K [tB a0] none)) o137 (ek _ _ _ _) Tryz.func88 (by kernel_rfl) rfl (fun _ _ _ _ _ _ h=>h _ _) (fun _ _ _ _ _=>by kernel_rfl) fun R kk e x0 x1 K=>by
 simp only[Q142,zmt,nn_]
def Q70_E:Env:=tab.env (fun i=>bif Nat.beq i 5 then [0,4,5] else []) (fun i=>bif Nat.beq i 5 then [4] else []) [] [.str]
def zwd(a:ByteArray)(b c:Int):Option R:=loopR (ev Q70_E (Tb138 R) kk (sub [1,1,1,0,1,0,0] (cd Tryz.f50))) [0,4,5] [4] k ⟨[tS a]::uS 3 ([tI b]::[tI c]::uS 28 []),nS 35 []⟩ J
def zse(a:Int):State:=⟨uS 4 ([tI a]::uS 29 []),nS 35 []⟩
def z1li:KX R:=(zk 0 (kSeq Q70_E (Tb138 R) kk (sub [1,1,1,1] (cd Tryz.f50)) (kFin Q70_E Tryz.f50.results.toList none K)))
theorem z21j(a:ByteArray)(b c:Int):zwd R kk (k+1) J a b c=
 zwf a b c (zwd R kk k J) (fun a0=>J (.exit 0) (zse a0)):=by kernel_rfl
theorem z1sb(a:Int):z1li R kk K (.exit 0) (zse a)=
 z19i a (fun a0 a1=>K [tI a0,tB a1] none):=by kernel_rfl
theorem z1xk{kk:Nat}(hF:kk=FUEL)(s_0:ByteArray)(t4 t5:Int):zwd R kk k J s_0 t4 t5=(zd2 k s_0 t4 t5).bind fun e=>J (.exit 0) (zse e):=by
 induction k generalizing s_0 t4 t5 with
 |zero=>rfl
 |succ k ih=>
  rw[z21j]
  simp only[zd2,zwf,ih,nn_]
def Tb139:Funs:=Tb138.add 50 [.str] (pu1 .str Q70 (fun _ r K=>K [tI r.1,tB r.2] none))
theorem o139:Okt Tryz.prog Tb139:=st1 Q70_E Tryz.f50 (fun R kk x0 K=>zwe x0 (fun a0 a1=>K [tI a0,tB a1] none) (zwd R kk kk (z1li R kk K))) o138 (ek _ _ _ _) Tryz.func50 (by kernel_rfl) rfl (fun _ _ _ _ _ _ h=>h _ _) (fun _ _ _ _=>by kernel_rfl) fun R kk e x0 K=>by
 simp only[Q70,zwe,z19i,z1xk (hF:=e),z1sb,nn_,←e]
def z1zq:Env:=e0 [.str]
def Tb140:Funs:=Tb139.add 19 [.str] (pu1 .str Q114 (fun _ r K=>K [tB r] none))
theorem o140:Okt Tryz.prog Tb140:=st1 z1zq Tryz.f19 (fun R kk x0 K=>zl6 x0 (fun a0=>K [tB a0] none)) o139 (ek _ _ _ _) Tryz.func19 (by kernel_rfl) rfl (fun _ _ _ _ _ _ h=>h _ _) (fun _ _ _ _=>by kernel_rfl) fun R kk e x0 K=>by
 simp only[Q114,zl6,nn_]
def zuj:Env:=tab.env (fun i=>bif Nat.beq i 2 then [0,1,2,7] else []) (fun i=>bif Nat.beq i 2 then [6] else []) [] [(.sl 116 (.pair .str (.pair .str .unit))),(.int .i64),.str]
def zlv(a:Zt16)(b:Int)(c:ByteArray)(d:Int):Option R:=loopR (ev zuj (Tb140 R) kk (sub [1,0,1,0,0] (cd Tryz.f146))) [0,1,2,7] [6] k ⟨[.dat (.sl 116 (.pair .str (.pair .str .unit))) a []]::[tI b]::[tS c]::uS 4 ([tI d]::uS 13 []),nS 22 []⟩ J
def zfp(a:Int):State:=⟨uS 6 ([tI a]::uS 14 []),nS 22 []⟩
def zfq:State:=⟨uS 21 [],nS 22 []⟩
def z10a:KX R:=(zk 0 (kSeq zuj (Tb140 R) kk (sub [1,1] (cd Tryz.f146)) (kFin zuj Tryz.f146.results.toList none K)))
theorem z1vs(a:Zt16)(b:Int)(c:ByteArray)(d:Int):zlv R kk (k+1) J a b c d=
 zbq a b c d (fun a0=>J .ret (zfp a0)) (zlv R kk k J) (J (.exit 0) (zfq)):=by kernel_rfl
theorem z1ir(a:Int):z10a R kk K .ret (zfp a)=
 z10b a (fun a0=>K [tI a0] none):=by kernel_rfl
theorem z1is:z10a R kk K (.exit 0) (zfq)=
 z10c (fun a0=>K [tI a0] none):=by kernel_rfl
theorem z1q6{kk:Nat}(hF:kk=FUEL)(l_0:Zt16)(n_1:Int)(from_2:ByteArray)(t7:Int):zlv R kk k J l_0 n_1 from_2 t7=(z6w k l_0 n_1 from_2 t7).bind fun e=>(Sum.elim (fun(we:Int)=>J .ret (zfp we)) (fun(we:Unit)=>J (.exit 0) (zfq)) e):=by
 induction k generalizing l_0 n_1 from_2 t7 with
 |zero=>rfl
 |succ k ih=>
  rw[z1vs]
  simp only[z6w,zbq,ih,nn_]
def Tb141:Funs:=Tb140.add 146 [(.sl 116 (.pair .str (.pair .str .unit))),(.int .i64),.str] (pu3 (.sl 116 (.pair .str (.pair .str .unit))) (.int .i64) .str Q130 (fun _ r K=>K [tI r] none))
theorem o141:Okt Tryz.prog Tb141:=st3 zuj Tryz.f146 (fun R kk x0 x1 x2 K=>zlw x0 x1 x2 (zlv R kk kk (z10a R kk K))) o140 (ek _ _ _ _) Tryz.func146 (by kernel_rfl) rfl (fun _ _ _ _ _ _ h=>h _ _) (fun _ _ _ _ _ _=>by kernel_rfl) fun R kk e x0 x1 x2 K=>by
 simp only[Q130,zlw,z10b,z10c,z1q6 (hF:=e),z1ir,z1is,nn_,←e]
def z1zu:Env:=e0 [(.sl 116 (.pair .str (.pair .str .unit))),.str]
def Tb142:Funs:=Tb141.add 89 [(.sl 116 (.pair .str (.pair .str .unit))),.str] (pu2 (.sl 116 (.pair .str (.pair .str .unit))) .str Q125 (fun _ r K=>K [tS r.1,tB r.2] none))
theorem o142:Okt Tryz.prog Tb142:=st2 z1zu Tryz.f89 (fun R kk x0 x1 K=>zlp x0 x1 (fun a0 a1=>K [tS a0,tB a1] none)) o141 (ek _ _ _ _) Tryz.func89 (by kernel_rfl) rfl (fun _ _ _ _ _ _ h=>h _ _) (fun _ _ _ _ _=>by kernel_rfl) fun R kk e x0 x1 K=>by
 simp only[Q125,zlp,nn_]
def Q81_E:Env:=tab.env (fun i=>bif Nat.beq i 4 then [0,1,5] else []) (fun i=>bif Nat.beq i 4 then [4] else []) [] [(.int .i64),(.int .i64)]
def zx5(a b c:Int):Option R:=loopR (ev Q81_E (Tb142 R) kk (sub [1,1,0,1,0,0] (cd Tryz.f197))) [0,1,5] [4] k ⟨[tI a]::[tI b]::uS 3 ([tI c]::uS 29 []),nS 36 []⟩ J
def zsu(a:Bool):State:=⟨uS 4 ([tB a]::uS 30 []),nS 36 []⟩
def zsv:State:=⟨uS 35 [],nS 36 []⟩
def z1a0:KX R:=(zk 0 (kSeq Q81_E (Tb142 R) kk (sub [1,1,1] (cd Tryz.f197)) (kFin Q81_E Tryz.f197.results.toList none K)))
theorem z21v(a b c:Int):zx5 R kk (k+1) J a b c=
 z1a1 a b c (fun a0=>J .ret (zsu a0)) (zx5 R kk k J) (J (.exit 0) (zsv)):=by kernel_rfl
theorem z1sr(a:Bool):z1a0 R kk K .ret (zsu a)=
 z1a2 a (fun a0=>K [tB a0] none):=by kernel_rfl
theorem z1ss:z1a0 R kk K (.exit 0) (zsv)=
 z1a3 (fun a0=>K [tB a0] none):=by kernel_rfl
theorem z1xw{kk:Nat}(hF:kk=FUEL)(a_0 b_1 t5:Int):zx5 R kk k J a_0 b_1 t5=(zx6 k a_0 b_1 t5).bind fun e=>(Sum.elim (fun(we:Bool)=>J .ret (zsu we)) (fun(we:Unit)=>J (.exit 0) (zsv)) e):=by
 induction k generalizing a_0 b_1 t5 with
 |zero=>rfl
 |succ k ih=>
  rw[z21v]
  simp only[zx6,z1a1,ih,nn_]
def Tb143:Funs:=Tb142.add 197 [(.int .i64),(.int .i64)] (pu2 (.int .i64) (.int .i64) Q81 (fun _ r K=>K [tB r] none))
theorem o143:Okt Tryz.prog Tb143:=st2 Q81_E Tryz.f197 (fun R kk x0 x1 K=>zx7 x0 x1 (fun a0=>K [tB a0] none) (zx5 R kk kk (z1a0 R kk K))) o142 (ek _ _ _ _) Tryz.func197 (by kernel_rfl) rfl (fun _ _ _ _ _ _ h=>h _ _) (fun _ _ _ _ _=>by kernel_rfl) fun R kk e x0 x1 K=>by
 simp only[Q81,zx7,z1a2,z1a3,z1xw (hF:=e),z1sr,z1ss,nn_,←e]
def z1zj:Env:=e0 [y9,y9]
def Tb144:Funs:=Tb143.add 147 [y9,y9] (pu2 y9 y9 Q102 (fun _ r K=>K [tB r] none))
theorem o144:Okt Tryz.prog Tb144:=st2 z1zj Tryz.f147 (fun R kk x0 x1 K=>z8p x0 x1 (fun a0=>K [tB a0] none)) o143 (ek _ _ _ _) Tryz.func147 (by kernel_rfl) rfl (fun _ _ _ _ _ _ h=>h _ _) (fun _ _ _ _ _=>by kernel_rfl) fun R kk e x0 x1 K=>by
 simp only[Q102,z8p,nn_]
def zug:Env:=tab.env (fun i=>bif Nat.beq i 4 then [0,4] else []) (fun i=>bif Nat.beq i 4 then [2,3] else []) [] [(.sl 116 (.pair .str (.pair .str .unit)))]
def zlq(a:Zt16)(b:Int):Option R:=loopR (ev zug (Tb144 R) kk (sub [1,1,0,1,0,0] (cd Tryz.f148))) [0,4] [2,3] k ⟨[.dat (.sl 116 (.pair .str (.pair .str .unit))) a []]::uS 3 ([tI b]::uS 19 []),nS 25 []⟩ J
def zfm(a b:Int):State:=⟨uS 2 ([tI a]::[tI b]::uS 20 []),nS 25 []⟩
def zfn:State:=⟨uS 24 [],nS 25 []⟩
def z103:KX R:=(zk 0 (kSeq zug (Tb144 R) kk (sub [1,1,1] (cd Tryz.f148)) (kFin zug Tryz.f148.results.toList none K)))
theorem z1vq(a:Zt16)(b:Int):zlq R kk (k+1) J a b=
 zbp a b (fun a0 a1=>J .ret (zfm a0 a1)) (zlq R kk k J) (J (.exit 0) (zfn)):=by kernel_rfl
theorem z1io(a b:Int):z103 R kk K .ret (zfm a b)=
 z104 a b (fun a0 a1=>K [tI a0,tI a1] none):=by kernel_rfl
theorem z1ip:z103 R kk K (.exit 0) (zfn)=
 z105 (fun a0 a1=>K [tI a0,tI a1] none):=by kernel_rfl
theorem z1q4{kk:Nat}(hF:kk=FUEL)(l_0:Zt16)(t4:Int):zlq R kk k J l_0 t4=(z6v k l_0 t4).bind fun e=>(Sum.elim (fun(we:(Int×Int))=>J .ret (zfm we.1 we.2)) (fun(we:Unit)=>J (.exit 0) (zfn)) e):=by
 induction k generalizing l_0 t4 with
 |zero=>rfl
 |succ k ih=>
  rw[z1vq]
  simp only[z6v,zbp,ih,nn_]
def Tb145:Funs:=Tb144.add 148 [(.sl 116 (.pair .str (.pair .str .unit)))] (pu1 (.sl 116 (.pair .str (.pair .str .unit))) Q126 (fun _ r K=>K [tI r.1,tI r.2] none))
theorem o145:Okt Tryz.prog Tb145:=st1 zug Tryz.f148 (fun R kk x0 K=>zlr x0 (fun a0 a1=>K [tI a0,tI a1] none) (zlq R kk kk (z103 R kk K))) o144 (ek _ _ _ _) Tryz.func148 (by kernel_rfl) rfl (fun _ _ _ _ _ _ h=>h _ _) (fun _ _ _ _=>by kernel_rfl) fun R kk e x0 K=>by
 simp only[Q126,zlr,z104,z105,z1q4 (hF:=e),z1io,z1ip,nn_,←e]
def zx:Env:={tab.env (fun i=>bif Nat.beq i 27 then [3,4,5,7,8,13] else []) (fun i=>bif Nat.beq i 27 then [6] else []) [] [y12,y15,y15] with join:=fun i=>bif Nat.beq i 2 then some [3,4,5,23] else bif Nat.beq i 3 then some [3,4,5] else bif Nat.beq i 6 then some [3,4,5,7,8,48] else bif Nat.beq i 7 then some [3,4,5,7,8] else bif Nat.beq i 8 then some [3,4,5,7,8,65] else bif Nat.beq i 9 then some [3,4,5,7,8] else bif Nat.beq i 10 then some [3,4,5,7,8,84] else bif Nat.beq i 11 then some [3,4,5,7,8] else bif Nat.beq i 35 then some [] else bif Nat.beq i 21 then some [140] else bif Nat.beq i 25 then some [3,4,5,7,8,156] else bif Nat.beq i 26 then some [3,4,5,7,8] else bif Nat.beq i 29 then some [3,4,5,7,8,13] else bif Nat.beq i 32 then some [3,4,5,7,8,13] else bif Nat.beq i 28 then some [3,4,5,7,8,13] else none}
def z1eg(a:Bool)(b:Zt22)(c d:Zt20):Option R:=ev zx (Tb145 R) kk (sub [1,0,1] (cd Tryz.f90)) ⟨uS 3 ([.ptr 4 y12 []]::[.ptr 5 y15 []]::[.ptr 6 y15 []]::uS 17 ([tB a]::uS 170 [])),nS 4 ((some ⟨y12,b,[]⟩)::(some ⟨y15,c,[]⟩)::(some ⟨y15,d,[]⟩)::nS 188 [])⟩ (kSeq zx (Tb145 R) kk (sub [1,1] (cd Tryz.f90)) (kFin zx Tryz.f90.results.toList none K))
def z1eh(a:Zt22)(b c:Zt20):Option R:=ev zx (Tb145 R) kk (sub [1,1] (cd Tryz.f90)) ⟨uS 3 ([.ptr 4 y12 []]::[.ptr 5 y15 []]::[.ptr 6 y15 []]::uS 188 []),nS 4 ((some ⟨y12,a,[]⟩)::(some ⟨y15,b,[]⟩)::(some ⟨y15,c,[]⟩)::nS 188 [])⟩ (kFin zx Tryz.f90.results.toList none K)
def z1ei(a b:Int)(c:Bool)(d:Zt22)(e f:Zt20):Option R:=ev zx (Tb145 R) kk (sub [1,1,1,1,0,1] (cd Tryz.f90)) ⟨uS 3 ([.ptr 4 y12 []]::[.ptr 5 y15 []]::[.ptr 6 y15 []]::uS 1 ([tI a]::[tI b]::uS 39 ([tB c]::uS 145 []))),nS 4 ((some ⟨y12,d,[]⟩)::(some ⟨y15,e,[]⟩)::(some ⟨y15,f,[]⟩)::nS 188 [])⟩ (kSeq zx (Tb145 R) kk (sub [1,1,1,1,1] (cd Tryz.f90)) (kFin zx Tryz.f90.results.toList none K))
def z1ej(a b:Int)(c:Zt22)(d e:Zt20):Option R:=ev zx (Tb145 R) kk (sub [1,1,1,1,1] (cd Tryz.f90)) ⟨uS 3 ([.ptr 4 y12 []]::[.ptr 5 y15 []]::[.ptr 6 y15 []]::uS 1 ([tI a]::[tI b]::uS 185 [])),nS 4 ((some ⟨y12,c,[]⟩)::(some ⟨y15,d,[]⟩)::(some ⟨y15,e,[]⟩)::nS 188 [])⟩ (kFin zx Tryz.f90.results.toList none K)
def z1ek(a b:Int)(c:Bool)(d:Zt22)(e f:Zt20):Option R:=ev zx (Tb145 R) kk (sub [1,1,1,1,1,0,1] (cd Tryz.f90)) ⟨uS 3 ([.ptr 4 y12 []]::[.ptr 5 y15 []]::[.ptr 6 y15 []]::uS 1 ([tI a]::[tI b]::uS 56 ([tB c]::uS 128 []))),nS 4 ((some ⟨y12,d,[]⟩)::(some ⟨y15,e,[]⟩)::(some ⟨y15,f,[]⟩)::nS 188 [])⟩ (kSeq zx (Tb145 R) kk (sub [1,1,1,1,1,1] (cd Tryz.f90)) (kFin zx Tryz.f90.results.toList none K))
def z1el(a b:Int)(c:Zt22)(d e:Zt20):Option R:=ev zx (Tb145 R) kk (sub [1,1,1,1,1,1] (cd Tryz.f90)) ⟨uS 3 ([.ptr 4 y12 []]::[.ptr 5 y15 []]::[.ptr 6 y15 []]::uS 1 ([tI a]::[tI b]::uS 185 [])),nS 4 ((some ⟨y12,c,[]⟩)::(some ⟨y15,d,[]⟩)::(some ⟨y15,e,[]⟩)::nS 188 [])⟩ (kFin zx Tryz.f90.results.toList none K)
def z1em(a b:Int)(c:Bool)(d:Zt22)(e f:Zt20):Option R:=ev zx (Tb145 R) kk (sub [1,1,1,1,1,1,0,1] (cd Tryz.f90)) ⟨uS 3 ([.ptr 4 y12 []]::[.ptr 5 y15 []]::[.ptr 6 y15 []]::uS 1 ([tI a]::[tI b]::uS 75 ([tB c]::uS 109 []))),nS 4 ((some ⟨y12,d,[]⟩)::(some ⟨y15,e,[]⟩)::(some ⟨y15,f,[]⟩)::nS 188 [])⟩ (kSeq zx (Tb145 R) kk (sub [1,1,1,1,1,1,1] (cd Tryz.f90)) (kFin zx Tryz.f90.results.toList none K))
def z1en(a b:Int)(c:Zt22)(d e:Zt20):Option R:=ev zx (Tb145 R) kk (sub [1,1,1,1,1,1,1] (cd Tryz.f90)) ⟨uS 3 ([.ptr 4 y12 []]::[.ptr 5 y15 []]::[.ptr 6 y15 []]::uS 1 ([tI a]::[tI b]::uS 185 [])),nS 4 ((some ⟨y12,c,[]⟩)::(some ⟨y15,d,[]⟩)::(some ⟨y15,e,[]⟩)::nS 188 [])⟩ (kFin zx Tryz.f90.results.toList none K)
def zly:Option R:=ev zx (Tb145 R) kk (sub [1,1,1,1,1,1,1,1] (cd Tryz.f90)) ⟨uS 194 [],nS 195 []⟩ (kFin zx Tryz.f90.results.toList none K)
def z1eo(a:Bool):Option R:=ev zx (Tb145 R) kk (sub [1,1,1,1,1,1,1,0,1,0,1,1,1,1,1,0,1,1,1] (cd Tryz.f90)) ⟨uS 140 ([tB a]::uS 53 []),nS 195 []⟩ (zk 0 (kSeq zx (Tb145 R) kk (sub [1,1,1,1,1,1,1,1] (cd Tryz.f90)) (kFin zx Tryz.f90.results.toList none K)))
def z18l(a b:Int)(c:Bool)(d:Zt22)(e f:Zt20):Option R:=ev zx (Tb145 R) kk (sub [1,1,1,1,1,1,1,0,1,0,1,1,1,1,1,1,1,0,0,1,1] (cd Tryz.f90)) ⟨uS 3 ([.ptr 4 y12 []]::[.ptr 5 y15 []]::[.ptr 6 y15 []]::uS 1 ([tI a]::[tI b]::uS 147 ([tB c]::uS 37 []))),nS 4 ((some ⟨y12,d,[]⟩)::(some ⟨y15,e,[]⟩)::(some ⟨y15,f,[]⟩)::nS 188 [])⟩ (kSeq zx (Tb145 R) kk (sub [1,1,1,1,1,1,1,0,1,0,1,1,1,1,1,1,1,0,1] (cd Tryz.f90)) (zk 0 (kSeq zx (Tb145 R) kk (sub [1,1,1,1,1,1,1,1] (cd Tryz.f90)) (kFin zx Tryz.f90.results.toList none K))))
def z18m(a b:Int)(c:Zt22)(d e:Zt20):Option R:=ev zx (Tb145 R) kk (sub [1,1,1,1,1,1,1,0,1,0,1,1,1,1,1,1,1,0,1] (cd Tryz.f90)) ⟨uS 3 ([.ptr 4 y12 []]::[.ptr 5 y15 []]::[.ptr 6 y15 []]::uS 1 ([tI a]::[tI b]::uS 185 [])),nS 4 ((some ⟨y12,c,[]⟩)::(some ⟨y15,d,[]⟩)::(some ⟨y15,e,[]⟩)::nS 188 [])⟩ (zk 0 (kSeq zx (Tb145 R) kk (sub [1,1,1,1,1,1,1,1] (cd Tryz.f90)) (kFin zx Tryz.f90.results.toList none K)))
def z18n(a b c:Int)(d:Zt22)(e f:Zt20):Option R:=ev zx (Tb145 R) kk (sub [1,1,1,1,1,1,1,0,1,0,1,1,1,1,1,1,1,0,1,1,0,0,1] (cd Tryz.f90)) ⟨uS 3 ([.ptr 4 y12 []]::[.ptr 5 y15 []]::[.ptr 6 y15 []]::uS 1 ([tI a]::[tI b]::uS 4 ([tI c]::uS 180 []))),nS 4 ((some ⟨y12,d,[]⟩)::(some ⟨y15,e,[]⟩)::(some ⟨y15,f,[]⟩)::nS 188 [])⟩ (kLoop (ev zx (Tb145 R) kk (sub [1,1,1,1,1,1,1,0,1,0,1,1,1,1,1,1,1,0,1,1,0,0] (cd Tryz.f90))) [3,4,5,7,8,13] [6] k J)
def z18o(a b c:Int)(d:Zt22)(e f:Zt20):Option R:=ev zx (Tb145 R) kk (sub [1,1,1,1,1,1,1,0,1,0,1,1,1,1,1,1,1,0,1,1,0,0,1,0,0,1] (cd Tryz.f90)) ⟨uS 3 ([.ptr 4 y12 []]::[.ptr 5 y15 []]::[.ptr 6 y15 []]::uS 1 ([tI a]::[tI b]::uS 4 ([tI c]::uS 180 []))),nS 4 ((some ⟨y12,d,[]⟩)::(some ⟨y15,e,[]⟩)::(some ⟨y15,f,[]⟩)::nS 188 [])⟩ (zk 2 (kSeq zx (Tb145 R) kk (sub [1,1,1,1,1,1,1,0,1,0,1,1,1,1,1,1,1,0,1,1,0,0,1,1] (cd Tryz.f90)) (kLoop (ev zx (Tb145 R) kk (sub [1,1,1,1,1,1,1,0,1,0,1,1,1,1,1,1,1,0,1,1,0,0] (cd Tryz.f90))) [3,4,5,7,8,13] [6] k J)))
def z18p(a b c:Int)(d:Zt22)(e f:Zt20):Option R:=ev zx (Tb145 R) kk (sub [1,1,1,1,1,1,1,0,1,0,1,1,1,1,1,1,1,0,1,1,0,0,1,1] (cd Tryz.f90)) ⟨uS 3 ([.ptr 4 y12 []]::[.ptr 5 y15 []]::[.ptr 6 y15 []]::uS 1 ([tI a]::[tI b]::uS 4 ([tI c]::uS 180 []))),nS 4 ((some ⟨y12,d,[]⟩)::(some ⟨y15,e,[]⟩)::(some ⟨y15,f,[]⟩)::nS 188 [])⟩ (kLoop (ev zx (Tb145 R) kk (sub [1,1,1,1,1,1,1,0,1,0,1,1,1,1,1,1,1,0,1,1,0,0] (cd Tryz.f90))) [3,4,5,7,8,13] [6] k J)
def zlz(a b c:Int)(d:Zt22)(e f:Zt20):Option R:=loopR (ev zx (Tb145 R) kk (sub [1,1,1,1,1,1,1,0,1,0,1,1,1,1,1,1,1,0,1,1,0,0] (cd Tryz.f90))) [3,4,5,7,8,13] [6] k ⟨uS 3 ([.ptr 4 y12 []]::[.ptr 5 y15 []]::[.ptr 6 y15 []]::uS 1 ([tI a]::[tI b]::uS 4 ([tI c]::uS 180 []))),nS 4 ((some ⟨y12,d,[]⟩)::(some ⟨y15,e,[]⟩)::(some ⟨y15,f,[]⟩)::nS 188 [])⟩ J
def zfr:State:=⟨uS 194 [],nS 195 []⟩
def zaq(a:Int):State:=⟨uS 6 ([tI a]::uS 187 []),nS 195 []⟩
def z10d:KX R:=(zk 1 (zk 0 (kSeq zx (Tb145 R) kk (sub [1,1,1,1,1,1,1,1] (cd Tryz.f90)) (kFin zx Tryz.f90.results.toList none K))))
theorem z1q7(a:Bool)(b:Zt22)(c d:Zt20):z1eg R kk K a b c d=
 z10i a b c d (fun a0=>K [tI a0] none) (fun a0 a1 a2=>joinK kk fun _=>z1eh R kk K a0 a1 a2):=by kernel_rfl
theorem z1q8(a:Zt22)(b c:Zt20):z1eh R kk K a b c=
 z8z a b c (fun a0 a1 a2 a3 a4 a5=>joinK kk fun _=>z1ei R kk K a0 a1 a2 a3 a4 a5):=by kernel_rfl
theorem z1q9(a b:Int)(c:Bool)(d:Zt22)(e f:Zt20):z1ei R kk K a b c d e f=
 z10j a b c d e f (fun a0=>K [tI a0] none) (fun a0 a1 a2 a3 a4=>joinK kk fun _=>z1ej R kk K a0 a1 a2 a3 a4):=by kernel_rfl
theorem z1qa(a b:Int)(c:Zt22)(d e:Zt20):z1ej R kk K a b c d e=
 z90 a b c d e (fun a0 a1 a2 a3 a4 a5=>joinK kk fun _=>z1ek R kk K a0 a1 a2 a3 a4 a5):=by kernel_rfl
theorem z1qb(a b:Int)(c:Bool)(d:Zt22)(e f:Zt20):z1ek R kk K a b c d e f=
 z10k a b c d e f (fun a0=>K [tI a0] none) (fun a0 a1 a2 a3 a4=>joinK kk fun _=>z1el R kk K a0 a1 a2 a3 a4):=by kernel_rfl
theorem z1qc(a b:Int)(c:Zt22)(d e:Zt20):z1el R kk K a b c d e=
 z91 a b c d e (fun a0 a1 a2 a3 a4 a5=>joinK kk fun _=>z1em R kk K a0 a1 a2 a3 a4 a5):=by kernel_rfl
theorem z1qd(a b:Int)(c:Bool)(d:Zt22)(e f:Zt20):z1em R kk K a b c d e f=
 z10l a b c d e f (fun a0=>K [tI a0] none) (fun a0 a1 a2 a3 a4=>joinK kk fun _=>z1en R kk K a0 a1 a2 a3 a4):=by kernel_rfl
theorem z1qe(a b:Int)(c:Zt22)(d e:Zt20):z1en R kk K a b c d e=
 z92 a b c d e (fun a0=>K [tI a0] none) (joinK kk fun _=>zly R kk K) (fun a0=>joinK kk fun _=>z1eo R kk K a0) (fun a0 a1 a2 a3 a4 a5=>joinK kk fun _=>z18l R kk K a0 a1 a2 a3 a4 a5):=by kernel_rfl
theorem z1qf:zly R kk K=
 z10m (fun a0=>K [tI a0] none):=by kernel_rfl
theorem z1qg(a:Bool):z1eo R kk K a=
 zrx a (fun a0=>K [tI a0] none) (joinK kk fun _=>zly R kk K):=by kernel_rfl
theorem z1it(a b:Int)(c:Bool)(d:Zt22)(e f:Zt20):z18l R kk K a b c d e f=
 zry a b c d e f (fun a0=>K [tI a0] none) (fun a0 a1 a2 a3 a4=>joinK kk fun _=>z18m R kk K a0 a1 a2 a3 a4):=by kernel_rfl
theorem z1iu(a b:Int)(c:Zt22)(d e:Zt20):z18m R kk K a b c d e=
 zdv a b c d e (zlz R kk kk (z10d R kk K)):=by kernel_rfl
theorem z1vt(a b c:Int)(d:Zt22)(e f:Zt20):zlz R kk (k+1) J a b c d e f=
 z9l a b c d e f (fun a0 a1 a2 a3 a4 a5=>joinK kk fun _=>z18n R kk k J a0 a1 a2 a3 a4 a5) (J (.exit 1) (zfr)):=by kernel_rfl
theorem z1iv(a b c:Int)(d:Zt22)(e f:Zt20):z18n R kk k J a b c d e f=
 zdw a b c d e f (fun a0=>J .ret (zaq a0)) (fun a0 a1 a2 a3 a4 a5=>joinK kk fun _=>z18o R kk k J a0 a1 a2 a3 a4 a5):=by kernel_rfl
theorem z1iy:z10d R kk K (.exit 1) (zfr)=
 zrz (joinK kk fun _=>zly R kk K):=by kernel_rfl
theorem z1iz(a:Int):z10d R kk K .ret (zaq a)=
 zs0 a (fun a0=>K [tI a0] none):=by kernel_rfl
theorem z1iw(a b c:Int)(d:Zt22)(e f:Zt20):z18o R kk k J a b c d e f=
 zdx a b c d e f (fun a0=>J .ret (zaq a0)) (fun a0 a1 a2 a3 a4 a5=>joinK kk fun _=>z18p R kk k J a0 a1 a2 a3 a4 a5):=by kernel_rfl
theorem z1ix(a b c:Int)(d:Zt22)(e f:Zt20):z18p R kk k J a b c d e f=
 zdy a b c d e f (zlz R kk k J):=by kernel_rfl
theorem z1qh{kk:Nat}(hF:kk=FUEL)(t7 t8 t13:Int)(bt3:Zt22)(bt4 bt5:Zt20):zlz R kk k J t7 t8 t13 bt3 bt4 bt5=(z49 k t7 t8 t13 bt3 bt4 bt5).bind fun e=>(Sum.elim (fun(we:Unit)=>J (.exit 1) (zfr)) (fun(we:Int)=>J .ret (zaq we)) e):=by
 induction k generalizing t7 t8 t13 bt3 bt4 bt5 with
 |zero=>rfl
 |succ k ih=>
  rw[z1vt]
  simp only[z49,z9l,zdw,zdx,zdy,ih,z1iv,z1iw,z1ix,z1by (hF:=hF),nn_]
def Tb146:Funs:=Tb145.add 90 [y12,y15,y15] (pu3 y12 y15 y15 Q132 (fun _ r K=>K [tI r] none))
theorem o146:Okt Tryz.prog Tb146:=st3 zx Tryz.f90 (fun R kk x0 x1 x2 K=>z8y x0 x1 x2 (fun a0 a1 a2 a3=>joinK kk fun _=>z1eg R kk K a0 a1 a2 a3)) o145 ((ek _ _ _ _).join _) Tryz.func90 (by kernel_rfl) rfl (fun _ _ _ _ _ _ h=>h _ _) (fun _ _ _ _ _ _=>by kernel_rfl) fun R kk e x0 x1 x2 K=>by
 simp only[Q132,z18q,z10i,z18r,z10j,z18s,z10k,z18t,z10l,z18u,z10m,zrx,zry,zdv,zrz,zs0,z1qh (hF:=e),z10e,zm0,z5x,zbr,z10f,z6x,z10g,zbs,zm1,z10h,zrw,z9k,z1q7,z1q8,z1it,z1iu,z1q9,z1qa,z1qb,z1qc,z1qd,z1qe,z1qf,z1qg,z1iy,z1iz,z1by (hF:=e),nn_,←e]
def z1zz:Env:=e0 [y12,y12]
def Tb147:Funs:=Tb146.add 91 [y12,y12] (pu2 y12 y12 Q141 (fun _ r K=>K [tB r] none))
theorem o147:Okt Tryz.prog Tb147:=st2 z1zz Tryz.f91 (fun R kk x0 x1 K=>zms x0 x1 (fun a0=>K [tB a0] none)) o146 (ek _ _ _ _) Tryz.func91 (by kernel_rfl) rfl (fun _ _ _ _ _ _ h=>h _ _) (fun _ _ _ _ _=>by kernel_rfl) fun R kk e x0 x1 K=>by
 simp only[Q141,zms,nn_]
def z5c:Env:=tab.env (fun i=>bif Nat.beq i 8 then [3,4,5,9] else bif Nat.beq i 19 then [3,4,5,13] else bif Nat.beq i 25 then [3,4,5,13,15] else []) (fun i=>bif Nat.beq i 8 then [3,4,5,6,7,8] else bif Nat.beq i 19 then [6,7,8] else bif Nat.beq i 25 then [3,4,5,6,7,8,13] else []) [] [y16,y15,y15]
def zm5(a:Int)(b:Zt26)(c d:Zt20):Option R:=loopR (ev z5c (Tb147 R) kk (sub [1,1,1,1,0,1,0,0] (cd Tryz.f35))) [3,4,5,9] [3,4,5,6,7,8] k ⟨uS 3 ([.ptr 4 y16 []]::[.ptr 5 y15 []]::[.ptr 6 y15 []]::uS 3 ([tI a]::uS 104 [])),nS 4 ((some ⟨y16,b,[]⟩)::(some ⟨y15,c,[]⟩)::(some ⟨y15,d,[]⟩)::nS 108 [])⟩ J
def zfu(a b c:Int)(d:Zt26)(e f:Zt20):State:=⟨uS 3 ([.ptr 4 y16 []]::[.ptr 5 y15 []]::[.ptr 6 y15 []]::[tI a]::[tI b]::[tI c]::uS 105 []),nS 4 ((some ⟨y16,d,[]⟩)::(some ⟨y15,e,[]⟩)::(some ⟨y15,f,[]⟩)::nS 108 [])⟩
def zfv(a:Zt26)(b c:Zt20):State:=⟨uS 3 ([.ptr 4 y16 []]::[.ptr 5 y15 []]::[.ptr 6 y15 []]::uS 108 []),nS 4 ((some ⟨y16,a,[]⟩)::(some ⟨y15,b,[]⟩)::(some ⟨y15,c,[]⟩)::nS 108 [])⟩
def z10q:KX R:=(zk 0 (kSeq z5c (Tb147 R) kk (sub [1,1,1,1,1] (cd Tryz.f35)) (kFin z5c Tryz.f35.results.toList none K)))
def zm6(a:Int)(b:Zt26)(c d:Zt20):Option R:=loopR (ev z5c (Tb147 R) kk (sub [1,1,1,1,1,1,0,1,0,0] (cd Tryz.f35))) [3,4,5,13] [6,7,8] k ⟨uS 3 ([.ptr 4 y16 []]::[.ptr 5 y15 []]::[.ptr 6 y15 []]::uS 7 ([tI a]::uS 100 [])),nS 4 ((some ⟨y16,b,[]⟩)::(some ⟨y15,c,[]⟩)::(some ⟨y15,d,[]⟩)::nS 108 [])⟩ J
def zar(a b c:Int):State:=⟨uS 6 ([tI a]::[tI b]::[tI c]::uS 105 []),nS 115 []⟩
def zfw:State:=⟨uS 114 [],nS 115 []⟩
def z10r:KX R:=(zk 2 (kSeq z5c (Tb147 R) kk (sub [1,1,1,1,1,1,1] (cd Tryz.f35)) (kFin z5c Tryz.f35.results.toList none K)))
def zm7(a b:Int)(c:Zt26)(d e:Zt20):Option R:=loopR (ev z5c (Tb147 R) kk (sub [1,1,1,1,1,1,0,1,0,0,1,0,0,1,1,0,0] (cd Tryz.f35))) [3,4,5,13,15] [3,4,5,6,7,8,13] k ⟨uS 3 ([.ptr 4 y16 []]::[.ptr 5 y15 []]::[.ptr 6 y15 []]::uS 7 ([tI a]::uS 1 ([tI b]::uS 98 []))),nS 4 ((some ⟨y16,c,[]⟩)::(some ⟨y15,d,[]⟩)::(some ⟨y15,e,[]⟩)::nS 108 [])⟩ J
def zfx(a b c d:Int)(e:Zt26)(f g:Zt20):State:=⟨uS 3 ([.ptr 4 y16 []]::[.ptr 5 y15 []]::[.ptr 6 y15 []]::[tI a]::[tI b]::[tI c]::uS 4 ([tI d]::uS 100 [])),nS 4 ((some ⟨y16,e,[]⟩)::(some ⟨y15,f,[]⟩)::(some ⟨y15,g,[]⟩)::nS 108 [])⟩
def zfy(a:Int)(b:Zt26)(c d:Zt20):State:=⟨uS 3 ([.ptr 4 y16 []]::[.ptr 5 y15 []]::[.ptr 6 y15 []]::uS 7 ([tI a]::uS 100 [])),nS 4 ((some ⟨y16,b,[]⟩)::(some ⟨y15,c,[]⟩)::(some ⟨y15,d,[]⟩)::nS 108 [])⟩
def z10s:KX R:=(zk 4 (zk 3 (kSeq z5c (Tb147 R) kk (sub [1,1,1,1,1,1,0,1,0,0,1,1] (cd Tryz.f35)) (kLoop (ev z5c (Tb147 R) kk (sub [1,1,1,1,1,1,0,1,0,0] (cd Tryz.f35))) [3,4,5,13] [6,7,8] k J))))
theorem z1vv(a:Int)(b:Zt26)(c d:Zt20):zm5 R kk (k+1) J a b c d=
 zbu a b c d (fun a0 a1 a2 a3 a4 a5=>J .ret (zfu a0 a1 a2 a3 a4 a5)) (zm5 R kk k J) (fun a0 a1 a2=>J (.exit 0) (zfv a0 a1 a2)):=by kernel_rfl
theorem z1j2(a b c:Int)(d:Zt26)(e f:Zt20):z10q R kk K .ret (zfu a b c d e f)=
 z10t a b c d e f (fun a0 a1 a2=>K [tI a0,tI a1,tI a2] none):=by kernel_rfl
theorem z1j3(a:Zt26)(b c:Zt20):z10q R kk K (.exit 0) (zfv a b c)=
 zm9 a b c (fun a0 a1 a2=>K [tI a0,tI a1,tI a2] none) (zm6 R kk kk (z10r R kk K)):=by kernel_rfl
theorem z1vw(a:Int)(b:Zt26)(c d:Zt20):zm6 R kk (k+1) J a b c d=
 zbv a b c d (fun a0 a1 a2=>J .ret (zar a0 a1 a2)) (zm7 R kk kk (z10s R kk k J)) (J (.exit 2) (zfw)):=by kernel_rfl
theorem z1j4(a b c:Int):z10r R kk K .ret (zar a b c)=
 z10u a b c (fun a0 a1 a2=>K [tI a0,tI a1,tI a2] none):=by kernel_rfl
theorem z1j5:z10r R kk K (.exit 2) (zfw)=
 z10v (fun a0 a1 a2=>K [tI a0,tI a1,tI a2] none):=by kernel_rfl
theorem z1vx(a b:Int)(c:Zt26)(d e:Zt20):zm7 R kk (k+1) J a b c d e=
 zbw a b c d e (fun a0 a1 a2 a3 a4 a5 a6=>J .ret (zfx a0 a1 a2 a3 a4 a5 a6)) (zm7 R kk k J) (fun a0 a1 a2 a3=>J (.exit 4) (zfy a0 a1 a2 a3)):=by kernel_rfl
theorem z1j6(a b c d:Int)(e:Zt26)(f g:Zt20):z10s R kk k J .ret (zfx a b c d e f g)=
 z10w a b c d e f g (fun a0 a1 a2=>J .ret (zar a0 a1 a2)):=by kernel_rfl
theorem z1j7(a:Int)(b:Zt26)(c d:Zt20):z10s R kk k J (.exit 4) (zfy a b c d)=
 zma a b c d (zm6 R kk k J):=by kernel_rfl
theorem z1qj{kk:Nat}(hF:kk=FUEL)(t9:Int)(bt3:Zt26)(bt4 bt5:Zt20):zm5 R kk k J t9 bt3 bt4 bt5=(z6y k t9 bt3 bt4 bt5).bind fun e=>(Sum.elim (fun(we:Zt33)=>J .ret (zfu we.1 we.2.1 we.2.2.1 we.2.2.2.1 we.2.2.2.2.1 we.2.2.2.2.2)) (fun(we:Zt31)=>J (.exit 0) (zfv we.1 we.2.1 we.2.2)) e):=by
 induction k generalizing t9 bt3 bt4 bt5 with
 |zero=>rfl
 |succ k ih=>
  rw[z1vv]
  simp only[z6y,zbu,ih,nn_]
theorem z1ql{kk:Nat}(hF:kk=FUEL)(t13 t15:Int)(bt3:Zt26)(bt4 bt5:Zt20):zm7 R kk k J t13 t15 bt3 bt4 bt5=(z71 k t13 t15 bt3 bt4 bt5).bind fun e=>(Sum.elim (fun(we:(Int×Int×Int×Int×Zt26×Zt20×Zt20))=>J .ret (zfx we.1 we.2.1 we.2.2.1 we.2.2.2.1 we.2.2.2.2.1 we.2.2.2.2.2.1 we.2.2.2.2.2.2)) (fun(we:(Int×Zt26×Zt20×Zt20))=>J (.exit 4) (zfy we.1 we.2.1 we.2.2.1 we.2.2.2)) e):=by
 induction k generalizing t13 t15 bt3 bt4 bt5 with
 |zero=>rfl
 |succ k ih=>
  rw[z1vx]
  simp only[z71,zbw,ih,nn_]
theorem z1qk{kk:Nat}(hF:kk=FUEL)(t13:Int)(bt3:Zt26)(bt4 bt5:Zt20):zm6 R kk k J t13 bt3 bt4 bt5=(z6z k t13 bt3 bt4 bt5).bind fun e=>(Sum.elim (fun(we:Zt1)=>J .ret (zar we.1 we.2.1 we.2.2)) (fun(we:Unit)=>J (.exit 2) (zfw)) e):=by
 induction k generalizing t13 bt3 bt4 bt5 with
 |zero=>rfl
 |succ k ih=>
  rw[z1vw]
  simp only[z6z,zbv,z10w,zma,ih,z1ql (hF:=hF),z1j6,z1j7,nn_,←hF]
def Tb148:Funs:=Tb147.add 35 [y16,y15,y15] (pu3 y16 y15 y15 Q135 (fun _ r K=>K [tI r.1,tI r.2.1,tI r.2.2] none))
theorem o148:Okt Tryz.prog Tb148:=st3 z5c Tryz.f35 (fun R kk x0 x1 x2 K=>zm8 x0 x1 x2 (fun a0 a1 a2=>K [tI a0,tI a1,tI a2] none) (zm5 R kk kk (z10q R kk K))) o147 (ek _ _ _ _) Tryz.func35 (by kernel_rfl) rfl (fun _ _ _ _ _ _ h=>h _ _) (fun _ _ _ _ _ _=>by kernel_rfl) fun R kk e x0 x1 x2 K=>by
 simp only[Q135,zm8,z10t,zm9,z10u,z10v,z1qj (hF:=e),z1qk (hF:=e),z1j2,z1j3,z1j4,z1j5,nn_,←e]
def zur:Env:=tab.env (fun i=>bif Nat.beq i 4 then [1,5] else []) (fun i=>bif Nat.beq i 4 then [2,3,4] else []) [] [y19]
def zn7(a:Int)(b:Zt32):Option R:=loopR (ev zur (Tb148 R) kk (sub [1,1,0,1,0,0] (cd Tryz.f13))) [1,5] [2,3,4] k ⟨uS 1 ([.ptr 2 y19 []]::uS 3 ([tI a]::uS 56 [])),nS 2 ((some ⟨y19,b,[]⟩)::nS 60 [])⟩ J
def zgl(a b c:Int):State:=⟨uS 2 ([tI a]::[tI b]::[tI c]::uS 57 []),nS 63 []⟩
def zgm:State:=⟨uS 62 [],nS 63 []⟩
def z11o:KX R:=(zk 0 (kSeq zur (Tb148 R) kk (sub [1,1,1] (cd Tryz.f13)) (kFin zur Tryz.f13.results.toList none K)))
theorem z1wb(a:Int)(b:Zt32):zn7 R kk (k+1) J a b=
 z93 a b (fun a0 a1 a2=>J .ret (zgl a0 a1 a2)) (zn7 R kk k J) (J (.exit 0) (zgm)):=by kernel_rfl
theorem z1jt(a b c:Int):z11o R kk K .ret (zgl a b c)=
 z11p a b c (fun a0 a1 a2=>K [tI a0,tI a1,tI a2] none):=by kernel_rfl
theorem z1ju:z11o R kk K (.exit 0) (zgm)=
 z11q (fun a0 a1 a2=>K [tI a0,tI a1,tI a2] none):=by kernel_rfl
theorem z1qz{kk:Nat}(hF:kk=FUEL)(t5:Int)(bt1:Zt32):zn7 R kk k J t5 bt1=(z7a k t5 bt1).bind fun e=>(Sum.elim (fun(we:Zt1)=>J .ret (zgl we.1 we.2.1 we.2.2)) (fun(we:Unit)=>J (.exit 0) (zgm)) e):=by
 induction k generalizing t5 bt1 with
 |zero=>rfl
 |succ k ih=>
  rw[z1wb]
  simp only[z7a,z93,ih,nn_]
def Tb149:Funs:=Tb148.add 13 [y19] (pu1 y19 Q152 (fun _ r K=>K [tI r.1,tI r.2.1,tI r.2.2] none))
theorem o149:Okt Tryz.prog Tb149:=st1 zur Tryz.f13 (fun R kk x0 K=>zn8 x0 (fun a0 a1 a2=>K [tI a0,tI a1,tI a2] none) (zn7 R kk kk (z11o R kk K))) o148 (ek _ _ _ _) Tryz.func13 (by kernel_rfl) rfl (fun _ _ _ _ _ _ h=>h _ _) (fun _ _ _ _=>by kernel_rfl) fun R kk e x0 K=>by
 simp only[Q152,zn8,z11p,z11q,z1qz (hF:=e),z1jt,z1ju,nn_,←e]
def z206:Env:=e0 [y19]
def Tb150:Funs:=Tb149.add 15 [y19] (pu1 y19 Q157 (fun _ r K=>K [tB r] none))
theorem o150:Okt Tryz.prog Tb150:=st1 z206 Tryz.f15 (fun R kk x0 K=>znd x0 (fun a0=>K [tB a0] none)) o149 (ek _ _ _ _) Tryz.func15 (by kernel_rfl) rfl (fun _ _ _ _ _ _ h=>h _ _) (fun _ _ _ _=>by kernel_rfl) fun R kk e x0 K=>by
 simp only[Q157,znd,nn_]
def Q77_E:Env:=tab.env (fun i=>bif Nat.beq i 8 then [0,7,8,9] else []) (fun i=>bif Nat.beq i 8 then [4,5,6,8] else []) [] [.str,(.int .i64)]
def zwz(a:ByteArray)(b:Int)(c:ByteArray)(d:Int):Option R:=loopR (ev Q77_E (Tb150 R) kk (sub [1,1,1,1,1,0,1,0,0] (cd Tryz.f111))) [0,7,8,9] [4,5,6,8] k ⟨[tS a]::uS 6 ([tI b]::[tS c]::[tI d]::uS 62 []),nS 73 []⟩ J
def zsp(a:ByteArray)(b c:Int)(d:ByteArray):State:=⟨uS 4 ([tS a]::[tI b]::[tI c]::uS 1 ([tS d]::uS 63 [])),nS 73 []⟩
def zsq(a:ByteArray):State:=⟨uS 8 ([tS a]::uS 63 []),nS 73 []⟩
def z19u:KX R:=(zk 0 (kSeq Q77_E (Tb150 R) kk (sub [1,1,1,1,1,1] (cd Tryz.f111)) (kFin Q77_E Tryz.f111.results.toList none K)))
theorem z21r(a:ByteArray)(b:Int)(c:ByteArray)(d:Int):zwz R kk (k+1) J a b c d=
 z9x a b c d (fun a0 a1 a2 a3=>J .ret (zsp a0 a1 a2 a3)) (zwz R kk k J) (fun a0=>J (.exit 0) (zsq a0)):=by kernel_rfl
theorem z1sm(a:ByteArray)(b c:Int)(d:ByteArray):z19u R kk K .ret (zsp a b c d)=
 z19v a b c d (fun a0 a1 a2=>K [tS a0,tI a1,tI a2] none):=by kernel_rfl
theorem z1sn(a:ByteArray):z19u R kk K (.exit 0) (zsq a)=
 zih a (fun a0 a1 a2=>K [tS a0,tI a1,tI a2] none):=by kernel_rfl
theorem z1xs{kk:Nat}(hF:kk=FUEL)(b_0:ByteArray)(t7:Int)(t8:ByteArray)(t9:Int):zwz R kk k J b_0 t7 t8 t9=(z2y k b_0 t7 t8 t9).bind fun e=>(Sum.elim (fun(we:(ByteArray×Int×Int×ByteArray))=>J .ret (zsp we.1 we.2.1 we.2.2.1 we.2.2.2)) (fun(we:ByteArray)=>J (.exit 0) (zsq we)) e):=by
 induction k generalizing b_0 t7 t8 t9 with
 |zero=>rfl
 |succ k ih=>
  rw[z21r]
  simp only[z2y,z9x,ih,nn_]
def Tb151:Funs:=Tb150.add 111 [.str,(.int .i64)] (pu2 .str (.int .i64) Q77 (fun _ r K=>K [tS r.1,tI r.2.1,tI r.2.2] none))
theorem o151:Okt Tryz.prog Tb151:=st2 Q77_E Tryz.f111 (fun R kk x0 x1 K=>zx0 x0 x1 (fun a0 a1 a2=>K [tS a0,tI a1,tI a2] none) (zwz R kk kk (z19u R kk K))) o150 (ek _ _ _ _) Tryz.func111 (by kernel_rfl) rfl (fun _ _ _ _ _ _ h=>h _ _) (fun _ _ _ _ _=>by kernel_rfl) fun R kk e x0 x1 K=>by
 simp only[Q77,zx0,z19v,zih,z1xs (hF:=e),z1sm,z1sn,nn_,←e]
def Q73_E:Env:=e0 []
def Tb152:Funs:=Tb151.add 181 [] (pu0 Q73 (fun _ r K=>K [tS r] none))
theorem o152:Okt Tryz.prog Tb152:=st0 Q73_E Tryz.f181 (fun R kk K=>z19k (fun a0=>K [tS a0] none)) o151 (ek _ _ _ _) Tryz.func181 (by kernel_rfl) rfl (fun _ _ _ _ _ _ h=>h _ _) (fun _ _ _=>by kernel_rfl) fun R kk e K=>by
 simp only[Q73,z19k,nn_]
def Q76_E:Env:=tab.env (fun i=>bif Nat.beq i 2 then [0,3] else []) (fun i=>bif Nat.beq i 2 then [2] else []) [] [(.int .u8)]
def zwx(a b:Int):Option R:=loopR (ev Q76_E (Tb152 R) kk (sub [1,0,1,0,0] (cd Tryz.f208))) [0,3] [2] k ⟨[tU a]::uS 2 ([tI b]::uS 10 []),nS 15 []⟩ J
def zsn(a:Int):State:=⟨uS 2 ([tI a]::uS 11 []),nS 15 []⟩
def zso:State:=⟨uS 14 [],nS 15 []⟩
def z19p:KX R:=(zk 0 (kSeq Q76_E (Tb152 R) kk (sub [1,1] (cd Tryz.f208)) (kFin Q76_E Tryz.f208.results.toList none K)))
theorem z21q(a b:Int):zwx R kk (k+1) J a b=
 z19r a b (fun a0=>J .ret (zsn a0)) (zwx R kk k J) (J (.exit 0) (zso)):=by kernel_rfl
theorem z1sk(a:Int):z19p R kk K .ret (zsn a)=
 z19s a (fun a0=>K [tI a0] none):=by kernel_rfl
theorem z1sl:z19p R kk K (.exit 0) (zso)=
 z19t (fun a0=>K [tI a0] none):=by kernel_rfl
theorem z1xr{kk:Nat}(hF:kk=FUEL)(b_0 t3:Int):zwx R kk k J b_0 t3=(zwy k b_0 t3).bind fun e=>(Sum.elim (fun(we:Int)=>J .ret (zsn we)) (fun(we:Unit)=>J (.exit 0) (zso)) e):=by
 induction k generalizing b_0 t3 with
 |zero=>rfl
 |succ k ih=>
  rw[z21q]
  simp only[zwy,z19r,ih,nn_]
def Tb153:Funs:=Tb152.add 208 [(.int .u8)] (pu1 (.int .u8) Q76 (fun _ r K=>K [tI r] none))
theorem o153:Okt Tryz.prog Tb153:=st1 Q76_E Tryz.f208 (fun R kk x0 K=>z19q x0 (zwx R kk kk (z19p R kk K))) o152 (ek _ _ _ _) Tryz.func208 (by kernel_rfl) rfl (fun _ _ _ _ _ _ h=>h _ _) (fun _ _ _ _=>by kernel_rfl) fun R kk e x0 K=>by
 simp only[Q76,z19q,z19s,z19t,z1xr (hF:=e),z1sk,z1sl,nn_,←e]
def Q74_E:Env:=tab.env (fun i=>bif Nat.beq i 2 then [0,5] else bif Nat.beq i 10 then [0,6,7] else []) (fun i=>bif Nat.beq i 2 then [0,2,3,4] else bif Nat.beq i 10 then [6] else []) [] [.str]
def zwr(a:ByteArray)(b:Int):Option R:=loopR (ev Q74_E (Tb153 R) kk (sub [1,0,1,0,0] (cd Tryz.f175))) [0,5] [0,2,3,4] k ⟨[tS a]::uS 4 ([tI b]::uS 44 []),nS 51 []⟩ J
def zsj(a b:ByteArray)(c:Int)(d:Bool):State:=⟨[tS a]::uS 1 ([tS b]::[tI c]::[tB d]::uS 45 []),nS 51 []⟩
def zsk(a:ByteArray):State:=⟨[tS a]::uS 49 [],nS 51 []⟩
def z19l:KX R:=(zk 0 (kSeq Q74_E (Tb153 R) kk (sub [1,1] (cd Tryz.f175)) (kFin Q74_E Tryz.f175.results.toList none K)))
def zws(a:ByteArray)(b:(List Int))(c:Int):Option R:=loopR (ev Q74_E (Tb153 R) kk (sub [1,1,1,1,0,1,0,0] (cd Tryz.f175))) [0,6,7] [6] k ⟨[tS a]::uS 5 ([.dat (.sl 5 (.int .u8)) b [[]]]::[tI c]::uS 42 []),nS 51 []⟩ J
def zsl(a:(List Int)):State:=⟨uS 6 ([.dat (.sl 5 (.int .u8)) a [[]]]::uS 43 []),nS 51 []⟩
def z1ll:KX R:=(zk 2 (kSeq Q74_E (Tb153 R) kk (sub [1,1,1,1,1] (cd Tryz.f175)) (kFin Q74_E Tryz.f175.results.toList none K)))
theorem z21n(a:ByteArray)(b:Int):zwr R kk (k+1) J a b=
 zie a b (fun a0 a1 a2 a3=>J .ret (zsj a0 a1 a2 a3)) (zwr R kk k J) (fun a0=>J (.exit 0) (zsk a0)):=by kernel_rfl
theorem z1sg(a b:ByteArray)(c:Int)(d:Bool):z19l R kk K .ret (zsj a b c d)=
 z19m a b c d (fun a0 a1 a2=>K [tS a0,tI a1,tB a2] none):=by kernel_rfl
theorem z1sh(a:ByteArray):z19l R kk K (.exit 0) (zsk a)=
 zwu a (fun a0 a1 a2=>K [tS a0,tI a1,tB a2] none) (zws R kk kk (z1ll R kk K)):=by kernel_rfl
theorem z21o(a:ByteArray)(b:(List Int))(c:Int):zws R kk (k+1) J a b c=
 zif a b c (zws R kk k J) (fun a0=>J (.exit 2) (zsl a0)):=by kernel_rfl
theorem z1si(a:(List Int)):z1ll R kk K (.exit 2) (zsl a)=
 z19n a (fun a0 a1 a2=>K [tS a0,tI a1,tB a2] none):=by kernel_rfl
theorem z1xo{kk:Nat}(hF:kk=FUEL)(s_0:ByteArray)(t5:Int):zwr R kk k J s_0 t5=(z9u k s_0 t5).bind fun e=>(Sum.elim (fun(we:(ByteArray×ByteArray×Int×Bool))=>J .ret (zsj we.1 we.2.1 we.2.2.1 we.2.2.2)) (fun(we:ByteArray)=>J (.exit 0) (zsk we)) e):=by
 induction k generalizing s_0 t5 with
 |zero=>rfl
 |succ k ih=>
  rw[z21n]
  simp only[z9u,zie,ih,nn_]
theorem z1xp{kk:Nat}(hF:kk=FUEL)(s_0:ByteArray)(t6:(List Int))(t7:Int):zws R kk k J s_0 t6 t7=(z9v k s_0 t6 t7).bind fun e=>J (.exit 2) (zsl e):=by
 induction k generalizing s_0 t6 t7 with
 |zero=>rfl
 |succ k ih=>
  rw[z21o]
  simp only[z9v,zif,ih,nn_]
def Tb154:Funs:=Tb153.add 175 [.str] (pu1 .str Q74 (fun _ r K=>K [tS r.1,tI r.2.1,tB r.2.2] none))
theorem o154:Okt Tryz.prog Tb154:=st1 Q74_E Tryz.f175 (fun R kk x0 K=>zwt x0 (zwr R kk kk (z19l R kk K))) o153 (ek _ _ _ _) Tryz.func175 (by kernel_rfl) rfl (fun _ _ _ _ _ _ h=>h _ _) (fun _ _ _ _=>by kernel_rfl) fun R kk e x0 K=>by
 simp only[Q74,zwt,z19m,zwu,z19n,z1xo (hF:=e),z1xp (hF:=e),z1sg,z1sh,z1si,nn_,←e]
def Q91_E:Env:={tab.env (fun i=>bif Nat.beq i 14 then [3,11,15,16] else bif Nat.beq i 19 then [3,11,15,16,17,18,19] else []) (fun i=>bif Nat.beq i 14 then [15] else bif Nat.beq i 19 then [3,11,15,16] else []) [] [(.int .i64),.str,(.int .i64),(.int .i64)] with ro:=true}
def zxg(a:Int)(b:ByteArray)(c:(List Int))(d:Int):Option R:=loopR (ev Q91_E (Tb154 R) kk (sub [1,1,1,1,1,1,1,0,1,0,0] (cd Tryz.f173))) [3,11,15,16] [15] k ⟨uS 3 ([tI a]::uS 7 ([tS b]::uS 3 ([.dat (.sl 3 (.int .i64)) c [[]]]::[tI d]::uS 58 []))),nS 76 []⟩ J
def zt1(a:(List Int)):State:=⟨uS 15 ([.dat (.sl 3 (.int .i64)) a [[]]]::uS 59 []),nS 76 []⟩
def z1lr:KX R:=(zk 0 (kSeq Q91_E (Tb154 R) kk (sub [1,1,1,1,1,1,1,1] (cd Tryz.f173)) (kFin Q91_E Tryz.f173.results.toList none K)))
def zxh(a:Int)(b:ByteArray)(c:(List Int))(d e f g:Int):Option R:=loopR (ev Q91_E (Tb154 R) kk (sub [1,1,1,1,1,1,1,0,1,0,0,1,0,0,1,1,1,0,0] (cd Tryz.f173))) [3,11,15,16,17,18,19] [3,11,15,16] k ⟨uS 3 ([tI a]::uS 7 ([tS b]::uS 3 ([.dat (.sl 3 (.int .i64)) c [[]]]::[tI d]::[tU e]::[tU f]::[tI g]::uS 55 []))),nS 76 []⟩ J
def zt2(a:Int)(b:ByteArray)(c:(List Int))(d:Int):State:=⟨uS 3 ([tI a]::uS 7 ([tS b]::uS 3 ([.dat (.sl 3 (.int .i64)) c [[]]]::[tI d]::uS 58 []))),nS 76 []⟩
def z1ls:KX R:=(zk 2 (zk 1 (kSeq Q91_E (Tb154 R) kk (sub [1,1,1,1,1,1,1,0,1,0,0,1,1] (cd Tryz.f173)) (kLoop (ev Q91_E (Tb154 R) kk (sub [1,1,1,1,1,1,1,0,1,0,0] (cd Tryz.f173))) [3,11,15,16] [15] k J))))
theorem z221(a:Int)(b:ByteArray)(c:(List Int))(d:Int):zxg R kk (k+1) J a b c d=
 zio a b c d (zxh R kk kk (z1ls R kk k J)) (fun a0=>J (.exit 0) (zt1 a0)):=by kernel_rfl
theorem z1sy(a:(List Int)):z1lr R kk K (.exit 0) (zt1 a)=
 zxi a (fun a0 a1=>K [.dat (.sl 3 (.int .i64)) a0 [],tI a1] none):=by kernel_rfl
theorem z222(a:Int)(b:ByteArray)(c:(List Int))(d e f g:Int):zxh R kk (k+1) J a b c d e f g=
 zip a b c d e f g (zxh R kk k J) (fun a0 a1 a2 a3=>J (.exit 2) (zt2 a0 a1 a2 a3)):=by kernel_rfl
theorem z1sz(a:Int)(b:ByteArray)(c:(List Int))(d:Int):z1ls R kk k J (.exit 2) (zt2 a b c d)=
 zxj a b c d (zxg R kk k J):=by kernel_rfl
theorem z1y3{kk:Nat}(hF:kk=FUEL)(from_3:Int)(t11:ByteArray)(t15:(List Int))(t16 t17 t18 t19:Int):zxh R kk k J from_3 t11 t15 t16 t17 t18 t19=(za2 k from_3 t11 t15 t16 t17 t18 t19).bind fun e=>J (.exit 2) (zt2 e.1 e.2.1 e.2.2.1 e.2.2.2):=by
 induction k generalizing from_3 t11 t15 t16 t17 t18 t19 with
 |zero=>rfl
 |succ k ih=>
  rw[z222]
  simp only[za2,zip,ih,nn_]
theorem z1y2{kk:Nat}(hF:kk=FUEL)(from_3:Int)(t11:ByteArray)(t15:(List Int))(t16:Int):zxg R kk k J from_3 t11 t15 t16=(z7v k from_3 t11 t15 t16).bind fun e=>J (.exit 0) (zt1 e):=by
 induction k generalizing from_3 t11 t15 t16 with
 |zero=>rfl
 |succ k ih=>
  rw[z221]
  simp only[z7v,zio,zxj,ih,z1y3 (hF:=hF),z1sz,nn_,←hF]
def Tb155:Funs:=Tb154.add 173 [(.int .i64),.str,(.int .i64),(.int .i64)] (pu4 (.int .i64) .str (.int .i64) (.int .i64) Q91 (fun _ r K=>K [.dat (.sl 3 (.int .i64)) r.1 [],tI r.2] none))
theorem o155:Okt Tryz.prog Tb155:=st4 Q91_E Tryz.f173 (fun R kk x0 x1 x2 x3 K=>zd8 x0 x1 x2 x3 (fun a0 a1=>K [.dat (.sl 3 (.int .i64)) a0 [],tI a1] none) (fun a0 a1 a2 a3=>zxg R kk kk (z1lr R kk K) a0 a1 a2 a3)) o154 ((ek _ _ _ _).ro _) Tryz.func173 (by kernel_rfl) rfl (fun _ _ _ _ _ _ h=>h _ _) (fun _ _ _ _ _ _ _=>by kernel_rfl) fun R kk e x0 x1 x2 x3 K=>by
 simp only[Q91,z1dc,zxi,z1y2 (hF:=e),z1sy,nn_,←e]
def Q88_E:Env:={e0 [(.int .i64),.str,(.int .i64)] with ro:=true}
def Tb156:Funs:=Tb155.add 113 [(.int .i64),.str,(.int .i64)] (pu3 (.int .i64) .str (.int .i64) Q88 (fun _ r K=>K [.dat (.sl 3 (.int .i64)) r.1 [],tI r.2.1,tI r.2.2] none))
theorem o156:Okt Tryz.prog Tb156:=st3 Q88_E Tryz.f113 (fun R kk x0 x1 x2 K=>zxa x0 x1 x2 (fun a0 a1 a2=>K [.dat (.sl 3 (.int .i64)) a0 [],tI a1,tI a2] none)) o155 ((ek _ _ _ _).ro _) Tryz.func113 (by kernel_rfl) rfl (fun _ _ _ _ _ _ h=>h _ _) (fun _ _ _ _ _ _=>by kernel_rfl) fun R kk e x0 x1 x2 K=>by
 simp only[Q88,zxa,nn_]
def Q94_E:Env:=e0 [(.int .i64)]
def Tb157:Funs:=Tb156.add 182 [(.int .i64)] (pu1 (.int .i64) Q94 (fun _ r K=>K [tI r] none))
theorem o157:Okt Tryz.prog Tb157:=st1 Q94_E Tryz.f182 (fun R kk x0 K=>ziq x0 (fun a0=>K [tI a0] none)) o156 (ek _ _ _ _) Tryz.func182 (by kernel_rfl) rfl (fun _ _ _ _ _ _ h=>h _ _) (fun _ _ _ _=>by kernel_rfl) fun R kk e x0 K=>by
 simp only[Q94,ziq,nn_]
def Q92_E:Env:=e0 [(.int .i64),(.int .i64),.str,(.int .i64)]
def Tb158:Funs:=Tb157.add 174 [(.int .i64),(.int .i64),.str,(.int .i64)] (pu4 (.int .i64) (.int .i64) .str (.int .i64) Q92 (fun _ r K=>K [tI r.1,tI r.2.1,tI r.2.2] none))
theorem o158:Okt Tryz.prog Tb158:=st4 Q92_E Tryz.f174 (fun R kk x0 x1 x2 x3 K=>zxk x0 x1 x2 x3 (fun a0 a1 a2=>K [tI a0,tI a1,tI a2] none)) o157 (ek _ _ _ _) Tryz.func174 (by kernel_rfl) rfl (fun _ _ _ _ _ _ h=>h _ _) (fun _ _ _ _ _ _ _=>by kernel_rfl) fun R kk e x0 x1 x2 x3 K=>by
 simp only[Q92,zxk,nn_]
def zv:Env:={e0 [(.int .i64),y9,.str,(.int .i64)] with join:=fun i=>bif Nat.beq i 2 then some [0,2,3,5,44] else bif Nat.beq i 3 then some [0,2,3,5] else bif Nat.beq i 8 then some [0,2,5,12,13] else bif Nat.beq i 12 then some [0,2,3,5,11] else bif Nat.beq i 9 then some [0,2,5,12,13,72] else bif Nat.beq i 14 then some [0,2,3,5,11,15,82] else bif Nat.beq i 10 then some [0,2,5,12,13] else bif Nat.beq i 15 then some [0,2,3,5,11,15] else bif Nat.beq i 16 then some [0,2,3,5,11,15,92] else bif Nat.beq i 17 then some [0,2,3,5,11,15] else bif Nat.beq i 19 then some [0,2,3,5,11,15] else bif Nat.beq i 21 then some [0,3,5,11,15,16,114] else bif Nat.beq i 24 then some [0,3,5,15,17] else bif Nat.beq i 25 then some [0,3,5,15,16] else bif Nat.beq i 26 then some [3,5,15,16,132] else bif Nat.beq i 29 then some [3,5,15,20] else bif Nat.beq i 30 then some [3,5,15,16] else bif Nat.beq i 33 then some [3,15,16] else none}
def z1e1(a:Int)(b:ByteArray)(c:Int)(d:Bool)(e:Zt15):Option R:=ev zv (Tb158 R) kk (sub [1,0,1] (cd Tryz.f114)) ⟨[tI a]::uS 1 ([tS b]::[tI c]::uS 1 ([.ptr 6 y9 []]::uS 38 ([tB d]::uS 107 []))),nS 6 ((some ⟨y9,e,[]⟩)::nS 146 [])⟩ (kSeq zv (Tb158 R) kk (sub [1,1] (cd Tryz.f114)) (kFin zv Tryz.f114.results.toList none K))
def z1e2(a:Int)(b:ByteArray)(c:Int)(d:Zt15):Option R:=ev zv (Tb158 R) kk (sub [1,1] (cd Tryz.f114)) ⟨[tI a]::uS 1 ([tS b]::[tI c]::uS 1 ([.ptr 6 y9 []]::uS 146 [])),nS 6 ((some ⟨y9,d,[]⟩)::nS 146 [])⟩ (kFin zv Tryz.f114.results.toList none K)
def z1e3(a:Int)(b:ByteArray)(c d:Int)(e:Zt15):Option R:=ev zv (Tb158 R) kk (sub [1,1,1,0,1,0,1,1] (cd Tryz.f114)) ⟨[tI a]::uS 1 ([tS b]::uS 2 ([.ptr 6 y9 []]::uS 6 ([tI c]::[tI d]::uS 138 []))),nS 6 ((some ⟨y9,e,[]⟩)::nS 146 [])⟩ (kSeq zv (Tb158 R) kk (sub [1,1,1,1] (cd Tryz.f114)) (kFin zv Tryz.f114.results.toList none K))
def zzb(a:Int)(b:ByteArray)(c d:Int)(e:Zt15):Option R:=ev zv (Tb158 R) kk (sub [1,1,1,1] (cd Tryz.f114)) ⟨[tI a]::uS 1 ([tS b]::[tI c]::uS 1 ([.ptr 6 y9 []]::uS 5 ([tI d]::uS 140 []))),nS 6 ((some ⟨y9,e,[]⟩)::nS 146 [])⟩ (kFin zv Tryz.f114.results.toList none K)
def z1e4(a:Int)(b:ByteArray)(c d:Int)(e:Bool)(f:Zt15):Option R:=ev zv (Tb158 R) kk (sub [1,1,1,0,1,0,1,1,0,1] (cd Tryz.f114)) ⟨[tI a]::uS 1 ([tS b]::uS 2 ([.ptr 6 y9 []]::uS 6 ([tI c]::[tI d]::uS 58 ([tB e]::uS 79 [])))),nS 6 ((some ⟨y9,f,[]⟩)::nS 146 [])⟩ (kSeq zv (Tb158 R) kk (sub [1,1,1,0,1,0,1,1,1] (cd Tryz.f114)) (kSeq zv (Tb158 R) kk (sub [1,1,1,1] (cd Tryz.f114)) (kFin zv Tryz.f114.results.toList none K)))
def z1e5(a:Int)(b:ByteArray)(c d e:Int)(f:Bool)(g:Zt15):Option R:=ev zv (Tb158 R) kk (sub [1,1,1,1,1,0,1] (cd Tryz.f114)) ⟨[tI a]::uS 1 ([tS b]::[tI c]::uS 1 ([.ptr 6 y9 []]::uS 5 ([tI d]::uS 3 ([tI e]::uS 66 ([tB f]::uS 69 []))))),nS 6 ((some ⟨y9,g,[]⟩)::nS 146 [])⟩ (kSeq zv (Tb158 R) kk (sub [1,1,1,1,1,1] (cd Tryz.f114)) (kFin zv Tryz.f114.results.toList none K))
def z1e6(a:Int)(b:ByteArray)(c d:Int)(e:Zt15):Option R:=ev zv (Tb158 R) kk (sub [1,1,1,0,1,0,1,1,1] (cd Tryz.f114)) ⟨[tI a]::uS 1 ([tS b]::uS 2 ([.ptr 6 y9 []]::uS 6 ([tI c]::[tI d]::uS 138 []))),nS 6 ((some ⟨y9,e,[]⟩)::nS 146 [])⟩ (kSeq zv (Tb158 R) kk (sub [1,1,1,1] (cd Tryz.f114)) (kFin zv Tryz.f114.results.toList none K))
def z1e7(a:Int)(b:ByteArray)(c d e:Int)(f:Zt15):Option R:=ev zv (Tb158 R) kk (sub [1,1,1,1,1,1] (cd Tryz.f114)) ⟨[tI a]::uS 1 ([tS b]::[tI c]::uS 1 ([.ptr 6 y9 []]::uS 5 ([tI d]::uS 3 ([tI e]::uS 136 [])))),nS 6 ((some ⟨y9,f,[]⟩)::nS 146 [])⟩ (kFin zv Tryz.f114.results.toList none K)
def z1e8(a:Int)(b:ByteArray)(c d e:Int)(f:Bool)(g:Zt15):Option R:=ev zv (Tb158 R) kk (sub [1,1,1,1,1,1,0,1] (cd Tryz.f114)) ⟨[tI a]::uS 1 ([tS b]::[tI c]::uS 1 ([.ptr 6 y9 []]::uS 5 ([tI d]::uS 3 ([tI e]::uS 76 ([tB f]::uS 59 []))))),nS 6 ((some ⟨y9,g,[]⟩)::nS 146 [])⟩ (kSeq zv (Tb158 R) kk (sub [1,1,1,1,1,1,1] (cd Tryz.f114)) (kFin zv Tryz.f114.results.toList none K))
def z1e9(a:Int)(b:ByteArray)(c d e:Int)(f:Zt15):Option R:=ev zv (Tb158 R) kk (sub [1,1,1,1,1,1,1] (cd Tryz.f114)) ⟨[tI a]::uS 1 ([tS b]::[tI c]::uS 1 ([.ptr 6 y9 []]::uS 5 ([tI d]::uS 3 ([tI e]::uS 136 [])))),nS 6 ((some ⟨y9,f,[]⟩)::nS 146 [])⟩ (kFin zv Tryz.f114.results.toList none K)
def z187(a:Int)(b:ByteArray)(c d e:Int)(f:Zt15):Option R:=ev zv (Tb158 R) kk (sub [1,1,1,1,1,1,1,1] (cd Tryz.f114)) ⟨[tI a]::uS 1 ([tS b]::[tI c]::uS 1 ([.ptr 6 y9 []]::uS 5 ([tI d]::uS 3 ([tI e]::uS 136 [])))),nS 6 ((some ⟨y9,f,[]⟩)::nS 146 [])⟩ (kFin zv Tryz.f114.results.toList none K)
def z188(a b c d:Int)(e:ByteArray)(f:Bool)(g:Zt15):Option R:=ev zv (Tb158 R) kk (sub [1,1,1,1,1,1,1,1,1,0,1] (cd Tryz.f114)) ⟨[tI a]::uS 2 ([tI b]::uS 1 ([.ptr 6 y9 []]::uS 5 ([tI c]::uS 3 ([tI d]::[tS e]::uS 97 ([tB f]::uS 37 []))))),nS 6 ((some ⟨y9,g,[]⟩)::nS 146 [])⟩ (kSeq zv (Tb158 R) kk (sub [1,1,1,1,1,1,1,1,1,1] (cd Tryz.f114)) (kFin zv Tryz.f114.results.toList none K))
def z189(a b c:Int)(d:ByteArray)(e:Zt15):Option R:=ev zv (Tb158 R) kk (sub [1,1,1,1,1,1,1,1,1,0,1,0,1,1] (cd Tryz.f114)) ⟨[tI a]::uS 2 ([tI b]::uS 1 ([.ptr 6 y9 []]::uS 9 ([tI c]::uS 1 ([tS d]::uS 134 [])))),nS 6 ((some ⟨y9,e,[]⟩)::nS 146 [])⟩ (kSeq zv (Tb158 R) kk (sub [1,1,1,1,1,1,1,1,1,1] (cd Tryz.f114)) (kFin zv Tryz.f114.results.toList none K))
def zru(a b c:Int)(d:ByteArray)(e:Zt15):Option R:=ev zv (Tb158 R) kk (sub [1,1,1,1,1,1,1,1,1,1] (cd Tryz.f114)) ⟨[tI a]::uS 2 ([tI b]::uS 1 ([.ptr 6 y9 []]::uS 9 ([tI c]::[tS d]::uS 135 []))),nS 6 ((some ⟨y9,e,[]⟩)::nS 146 [])⟩ (kFin zv Tryz.f114.results.toList none K)
def z18a(a b:Int)(c:ByteArray)(d:Bool)(e:Zt15):Option R:=ev zv (Tb158 R) kk (sub [1,1,1,1,1,1,1,1,1,1,0,1] (cd Tryz.f114)) ⟨uS 3 ([tI a]::uS 1 ([.ptr 6 y9 []]::uS 9 ([tI b]::[tS c]::uS 115 ([tB d]::uS 19 [])))),nS 6 ((some ⟨y9,e,[]⟩)::nS 146 [])⟩ (kSeq zv (Tb158 R) kk (sub [1,1,1,1,1,1,1,1,1,1,1] (cd Tryz.f114)) (kFin zv Tryz.f114.results.toList none K))
def z18b(a b:Int)(c:ByteArray)(d:Zt15):Option R:=ev zv (Tb158 R) kk (sub [1,1,1,1,1,1,1,1,1,1,0,1,0,1,1] (cd Tryz.f114)) ⟨uS 3 ([tI a]::uS 1 ([.ptr 6 y9 []]::uS 9 ([tI b]::uS 4 ([tS c]::uS 131 [])))),nS 6 ((some ⟨y9,d,[]⟩)::nS 146 [])⟩ (kSeq zv (Tb158 R) kk (sub [1,1,1,1,1,1,1,1,1,1,1] (cd Tryz.f114)) (kFin zv Tryz.f114.results.toList none K))
def zrv(a b:Int)(c:ByteArray)(d:Zt15):Option R:=ev zv (Tb158 R) kk (sub [1,1,1,1,1,1,1,1,1,1,1] (cd Tryz.f114)) ⟨uS 3 ([tI a]::uS 1 ([.ptr 6 y9 []]::uS 9 ([tI b]::[tS c]::uS 135 []))),nS 6 ((some ⟨y9,d,[]⟩)::nS 146 [])⟩ (kFin zv Tryz.f114.results.toList none K)
def z18c(a b:Int)(c:ByteArray):Option R:=ev zv (Tb158 R) kk (sub [1,1,1,1,1,1,1,1,1,1,1,1] (cd Tryz.f114)) ⟨uS 3 ([tI a]::uS 11 ([tI b]::[tS c]::uS 135 [])),nS 153 []⟩ (kFin zv Tryz.f114.results.toList none K)
theorem z1pk(a:Int)(b:ByteArray)(c:Int)(d:Bool)(e:Zt15):z1e1 R kk K a b c d e=
 zkr a b c d e (fun a0 a1 a2=>K [tS a0,tI a1,tI a2] none) (fun a0 a1 a2 a3=>joinK kk fun _=>z1e2 R kk K a0 a1 a2 a3):=by kernel_rfl
theorem z1pl(a:Int)(b:ByteArray)(c:Int)(d:Zt15):z1e2 R kk K a b c d=
 zks a b c d (fun a0 a1 a2=>K [tS a0,tI a1,tI a2] none) (fun a0 a1 a2 a3 a4=>joinK kk fun _=>z1e3 R kk K a0 a1 a2 a3 a4) (fun a0 a1 a2 a3 a4=>joinK kk fun _=>zzb R kk K a0 a1 a2 a3 a4):=by kernel_rfl
theorem z1pm(a:Int)(b:ByteArray)(c d:Int)(e:Zt15):z1e3 R kk K a b c d e=
 z8v a b c d e (fun a0 a1 a2 a3 a4 a5=>joinK kk fun _=>z1e4 R kk K a0 a1 a2 a3 a4 a5):=by kernel_rfl
theorem z1pn(a:Int)(b:ByteArray)(c d:Int)(e:Zt15):zzb R kk K a b c d e=
 z4p a b c d e (fun a0 a1 a2 a3 a4 a5 a6=>joinK kk fun _=>z1e5 R kk K a0 a1 a2 a3 a4 a5 a6):=by kernel_rfl
theorem z1po(a:Int)(b:ByteArray)(c d:Int)(e:Bool)(f:Zt15):z1e4 R kk K a b c d e f=
 zkt a b c d e f (fun a0 a1 a2=>K [tS a0,tI a1,tI a2] none) (fun a0 a1 a2 a3 a4=>joinK kk fun _=>z1e6 R kk K a0 a1 a2 a3 a4):=by kernel_rfl
theorem z1pp(a:Int)(b:ByteArray)(c d e:Int)(f:Bool)(g:Zt15):z1e5 R kk K a b c d e f g=
 z4q a b c d e f g (fun a0 a1 a2 a3 a4 a5=>joinK kk fun _=>z1e7 R kk K a0 a1 a2 a3 a4 a5):=by kernel_rfl
theorem z1pq(a:Int)(b:ByteArray)(c d:Int)(e:Zt15):z1e6 R kk K a b c d e=
 zku a b c d e (fun a0 a1 a2 a3 a4=>joinK kk fun _=>zzb R kk K a0 a1 a2 a3 a4):=by kernel_rfl
theorem z1pr(a:Int)(b:ByteArray)(c d e:Int)(f:Zt15):z1e7 R kk K a b c d e f=
 z4r a b c d e f (fun a0 a1 a2 a3 a4 a5 a6=>joinK kk fun _=>z1e8 R kk K a0 a1 a2 a3 a4 a5 a6):=by kernel_rfl
theorem z1ps(a:Int)(b:ByteArray)(c d e:Int)(f:Bool)(g:Zt15):z1e8 R kk K a b c d e f g=
 z4s a b c d e f g (fun a0 a1 a2 a3 a4 a5=>joinK kk fun _=>z1e9 R kk K a0 a1 a2 a3 a4 a5):=by kernel_rfl
theorem z1pt(a:Int)(b:ByteArray)(c d e:Int)(f:Zt15):z1e9 R kk K a b c d e f=
 z5n a b c d e f (fun a0 a1 a2=>K [tS a0,tI a1,tI a2] none) (fun a0 a1 a2 a3 a4 a5=>joinK kk fun _=>z187 R kk K a0 a1 a2 a3 a4 a5):=by kernel_rfl
theorem z1i1(a:Int)(b:ByteArray)(c d e:Int)(f:Zt15):z187 R kk K a b c d e f=
 z3w a b c d e f (fun a0 a1 a2 a3 a4 a5 a6=>joinK kk fun _=>z188 R kk K a0 a1 a2 a3 a4 a5 a6):=by kernel_rfl
theorem z1i2(a b c d:Int)(e:ByteArray)(f:Bool)(g:Zt15):z188 R kk K a b c d e f g=
 z5o a b c d e f g (fun a0 a1 a2=>K [tS a0,tI a1,tI a2] none) (fun a0 a1 a2 a3 a4=>joinK kk fun _=>z189 R kk K a0 a1 a2 a3 a4) (fun a0 a1 a2 a3 a4=>joinK kk fun _=>zru R kk K a0 a1 a2 a3 a4):=by kernel_rfl
theorem z1i3(a b c:Int)(d:ByteArray)(e:Zt15):z189 R kk K a b c d e=
 z5p a b c d e (fun a0 a1 a2 a3 a4=>joinK kk fun _=>zru R kk K a0 a1 a2 a3 a4):=by kernel_rfl
theorem z1i4(a b c:Int)(d:ByteArray)(e:Zt15):zru R kk K a b c d e=
 z3x a b c d e (fun a0 a1 a2 a3 a4=>joinK kk fun _=>z18a R kk K a0 a1 a2 a3 a4):=by kernel_rfl
theorem z1i5(a b:Int)(c:ByteArray)(d:Bool)(e:Zt15):z18a R kk K a b c d e=
 z5q a b c d e (fun a0 a1 a2=>K [tS a0,tI a1,tI a2] none) (fun a0 a1 a2 a3=>joinK kk fun _=>z18b R kk K a0 a1 a2 a3) (fun a0 a1 a2 a3=>joinK kk fun _=>zrv R kk K a0 a1 a2 a3):=by kernel_rfl
theorem z1i6(a b:Int)(c:ByteArray)(d:Zt15):z18b R kk K a b c d=
 z5r a b c d (fun a0 a1 a2 a3=>joinK kk fun _=>zrv R kk K a0 a1 a2 a3):=by kernel_rfl
theorem z1i7(a b:Int)(c:ByteArray)(d:Zt15):zrv R kk K a b c d=
 z5s a b c d (fun a0 a1 a2=>K [tS a0,tI a1,tI a2] none) (fun a0 a1 a2=>joinK kk fun _=>z18c R kk K a0 a1 a2):=by kernel_rfl
theorem z1i8(a b:Int)(c:ByteArray):z18c R kk K a b c=
 z5t a b c (fun a0 a1 a2=>K [tS a0,tI a1,tI a2] none):=by kernel_rfl
def Tb159:Funs:=Tb158.add 114 [(.int .i64),y9,.str,(.int .i64)] (pu4 (.int .i64) y9 .str (.int .i64) Q103 (fun _ r K=>K [tS r.1,tI r.2.1,tI r.2.2] none))
theorem o159:Okt Tryz.prog Tb159:=st4 zv Tryz.f114 (fun R kk x0 x1 x2 x3 K=>z8u x0 x1 x2 x3 (fun a0 a1 a2 a3 a4=>joinK kk fun _=>z1e1 R kk K a0 a1 a2 a3 a4)) o158 ((ek _ _ _ _).join _) Tryz.func114 (by kernel_rfl) rfl (fun _ _ _ _ _ _ h=>h _ _) (fun _ _ _ _ _ _ _=>by kernel_rfl) fun R kk e x0 x1 x2 x3 K=>by
 simp only[Q103,z18d,zkr,zks,z18e,z18f,zkt,z18g,zku,z18h,z18i,z5n,z17k,z5o,z5p,z17l,z5q,z5r,z5s,z5t,zzc,zkq,zzd,z3l,zze,z8q,zzf,z8r,z8s,z8t,z6o,z6p,z6q,z5l,z6r,z6s,z5m,z6t,z1pk,z1pl,z1i1,z1i2,z1i3,z1i4,z1i5,z1i6,z1i7,z1i8,z1pm,z1pn,z1po,z1pp,z1pq,z1pr,z1ps,z1pt,z1by (hF:=e),nn_]
def zuf:Env:=tab.env (fun i=>bif Nat.beq i 19 then [1,2,4,5,6,9,10,12] else []) (fun i=>bif Nat.beq i 19 then [1,4,5,6,10] else []) [4,5] [y15,.str]
def zlo(a:ByteArray)(b:(List Int))(c d:Int)(e:Zt20)(f:Zt19)(g:Zt6)(h:Zt19):Option R:=loopR (ev zuf (Tb159 R) kk (sub [1,1,1,1,1,1,1,1,1,1,1,1,0,1,0,0] (cd Tryz.f41))) [1,2,4,5,6,9,10,12] [1,4,5,6,10] k ⟨uS 1 ([tS a]::[.ptr 3 y15 []]::uS 1 ([.ptr 5 y5 []]::[.ptr 6 (.pair (.int .i64) (.pair (.int .i64) .unit)) []]::[.ptr 7 y5 []]::uS 2 ([.dat (.sl 3 (.int .i64)) b []]::[tI c]::uS 1 ([tI d]::uS 124 [])))),nS 3 ((some ⟨y15,e,[]⟩)::nS 1 ((some ⟨y5,f,[[1]]⟩)::(some ⟨(.pair (.int .i64) (.pair (.int .i64) .unit)),g,[]⟩)::(some ⟨y5,h,[[1]]⟩)::nS 130 []))⟩ J
def zfk(a:ByteArray)(b:Int)(c:Zt19)(d:Zt6)(e:Zt19):State:=⟨uS 1 ([tS a]::uS 2 ([.ptr 5 y5 []]::[.ptr 6 (.pair (.int .i64) (.pair (.int .i64) .unit)) []]::[.ptr 7 y5 []]::uS 3 ([tI b]::uS 126 []))),nS 5 ((some ⟨y5,c,[[1]]⟩)::(some ⟨(.pair (.int .i64) (.pair (.int .i64) .unit)),d,[]⟩)::(some ⟨y5,e,[]⟩)::nS 130 [])⟩
def zfl(a:ByteArray)(b:Int)(c:Zt19)(d:Zt6)(e:Zt19):State:=⟨uS 1 ([tS a]::uS 2 ([.ptr 5 y5 []]::[.ptr 6 (.pair (.int .i64) (.pair (.int .i64) .unit)) []]::[.ptr 7 y5 []]::uS 3 ([tI b]::uS 126 []))),nS 5 ((some ⟨y5,c,[[1]]⟩)::(some ⟨(.pair (.int .i64) (.pair (.int .i64) .unit)),d,[]⟩)::(some ⟨y5,e,[[1]]⟩)::nS 130 [])⟩
def z100:KX R:=(zk 0 (kSeq zuf (Tb159 R) kk (sub [1,1,1,1,1,1,1,1,1,1,1,1,1] (cd Tryz.f41)) (kFin zuf Tryz.f41.results.toList none K)))
theorem z1vp(a:ByteArray)(b:(List Int))(c d:Int)(e:Zt20)(f:Zt19)(g:Zt6)(h:Zt19):zlo R kk (k+1) J a b c d e f g h=
 zbo a b c d e f g h (fun a0 a1 a2 a3 a4=>J .ret (zfk a0 a1 a2 a3 a4)) (zlo R kk k J) (fun a0 a1 a2 a3 a4=>J (.exit 0) (zfl a0 a1 a2 a3 a4)):=by kernel_rfl
theorem z1im(a:ByteArray)(b:Int)(c:Zt19)(d:Zt6)(e:Zt19):z100 R kk K .ret (zfk a b c d e)=
 z101 a b c d e (fun a0 a1=>K [.dat y5 a0 [[1]],.dat (.pair (.int .i64) (.pair (.int .i64) .unit)) a1 []] none):=by kernel_rfl
theorem z1in(a:ByteArray)(b:Int)(c:Zt19)(d:Zt6)(e:Zt19):z100 R kk K (.exit 0) (zfl a b c d e)=
 z102 a b c d e (fun a0 a1=>K [.dat y5 a0 [[1]],.dat (.pair (.int .i64) (.pair (.int .i64) .unit)) a1 []] none):=by kernel_rfl
theorem z1q3{kk:Nat}(hF:kk=FUEL)(b_1:ByteArray)(t9:(List Int))(t10 t12:Int)(bt2:Zt20)(bt4:Zt19)(bt5:Zt6)(bt6:Zt19):zlo R kk k J b_1 t9 t10 t12 bt2 bt4 bt5 bt6=(z5w k b_1 t9 t10 t12 bt2 bt4 bt5 bt6).bind fun e=>(Sum.elim (fun(we:Zt27)=>J .ret (zfk we.1 we.2.1 we.2.2.1 we.2.2.2.1 we.2.2.2.2)) (fun(we:Zt27)=>J (.exit 0) (zfl we.1 we.2.1 we.2.2.1 we.2.2.2.1 we.2.2.2.2)) e):=by
 induction k generalizing b_1 t9 t10 t12 bt2 bt4 bt5 bt6 with
 |zero=>rfl
 |succ k ih=>
  rw[z1vp]
  simp only[z5w,zbo,ih,nn_]
def Tb160:Funs:=Tb159.add 41 [y15,.str] (pu2 y15 .str Q124 (fun _ r K=>K [.dat y5 r.1 [[1]],.dat (.pair (.int .i64) (.pair (.int .i64) .unit)) r.2 []] none))
theorem o160:Okt Tryz.prog Tb160:=st2 zuf Tryz.f41 (fun R kk x0 x1 K=>z8x x0 x1 (fun a0 a1=>K [.dat y5 a0 [[1]],.dat (.pair (.int .i64) (.pair (.int .i64) .unit)) a1 []] none) (fun a0 a1 a2 a3 a4 a5 a6 a7=>zlo R kk kk (z100 R kk K) a0 a1 a2 a3 a4 a5 a6 a7)) o159 (ek _ _ _ _) Tryz.func41 (by kernel_rfl) rfl (fun _ _ _ _ _ _ h=>h _ _) (fun _ _ _ _ _=>by kernel_rfl) fun R kk e x0 x1 K=>by
 simp only[Q124,z18k,z101,z102,z1q3 (hF:=e),z1im,z1in,nn_,←e]
def Q72_E:Env:=tab.env (fun i=>bif Nat.beq i 5 then [0,1,6,7] else []) (fun i=>bif Nat.beq i 5 then [0,6] else []) [] [(.int .i64),(.int .i64)]
def zwo(a b:Int)(c:ByteArray)(d:Int):Option R:=loopR (ev Q72_E (Tb160 R) kk (sub [1,1,1,0,1,0,0] (cd Tryz.f183))) [0,1,6,7] [0,6] k ⟨[tI a]::[tI b]::uS 4 ([tS c]::[tI d]::uS 28 []),nS 37 []⟩ J
def zsi(a:Int)(b:ByteArray):State:=⟨[tI a]::uS 5 ([tS b]::uS 29 []),nS 37 []⟩
def z1lk:KX R:=(zk 0 (kSeq Q72_E (Tb160 R) kk (sub [1,1,1,1] (cd Tryz.f183)) (kFin Q72_E Tryz.f183.results.toList none K)))
theorem z21m(a b:Int)(c:ByteArray)(d:Int):zwo R kk (k+1) J a b c d=
 zid a b c d (zwo R kk k J) (fun a0 a1=>J (.exit 0) (zsi a0 a1)):=by kernel_rfl
theorem z1sf(a:Int)(b:ByteArray):z1lk R kk K (.exit 0) (zsi a b)=
 zwq a b (fun a0 a1=>K [tS a0,tB a1] none):=by kernel_rfl
theorem z1xn{kk:Nat}(hF:kk=FUEL)(n_0 width_1:Int)(t6:ByteArray)(t7:Int):zwo R kk k J n_0 width_1 t6 t7=(z9t k n_0 width_1 t6 t7).bind fun e=>J (.exit 0) (zsi e.1 e.2):=by
 induction k generalizing n_0 width_1 t6 t7 with
 |zero=>rfl
 |succ k ih=>
  rw[z21m]
  simp only[z9t,zid,ih,nn_]
def Tb161:Funs:=Tb160.add 183 [(.int .i64),(.int .i64)] (pu2 (.int .i64) (.int .i64) Q72 (fun _ r K=>K [tS r.1,tB r.2] none))
theorem o161:Okt Tryz.prog Tb161:=st2 Q72_E Tryz.f183 (fun R kk x0 x1 K=>zwp x0 x1 (fun a0 a1=>K [tS a0,tB a1] none) (zwo R kk kk (z1lk R kk K))) o160 (ek _ _ _ _) Tryz.func183 (by kernel_rfl) rfl (fun _ _ _ _ _ _ h=>h _ _) (fun _ _ _ _ _=>by kernel_rfl) fun R kk e x0 x1 K=>by
 simp only[Q72,zwp,zwq,z1xn (hF:=e),z1sf,nn_,←e]
def z1zr:Env:=e0 [.str]
def Tb162:Funs:=Tb161.add 176 [.str] (pu1 .str Q115 (fun _ r K=>K [tS r] none))
theorem o162:Okt Tryz.prog Tb162:=st1 z1zr Tryz.f176 (fun R kk x0 K=>zl7 x0 (fun a0=>K [tS a0] none)) o161 (ek _ _ _ _) Tryz.func176 (by kernel_rfl) rfl (fun _ _ _ _ _ _ h=>h _ _) (fun _ _ _ _=>by kernel_rfl) fun R kk e x0 K=>by
 simp only[Q115,zl7,nn_]
def zu9:Env:=tab.env (fun i=>bif Nat.beq i 2 then [1,2,5] else []) (fun i=>bif Nat.beq i 2 then [4] else []) [] [y5,(.int .i64)]
def zlb(a b:Int)(c:Zt19):Option R:=loopR (ev zu9 (Tb162 R) kk (sub [1,0,1,0,0] (cd Tryz.f177))) [1,2,5] [4] k ⟨uS 1 ([tI a]::[.ptr 3 y5 []]::uS 2 ([tI b]::uS 16 [])),nS 3 ((some ⟨y5,c,[]⟩)::nS 19 [])⟩ J
def zfe(a:Int):State:=⟨uS 4 ([tI a]::uS 17 []),nS 23 []⟩
def zff:State:=⟨uS 22 [],nS 23 []⟩
def zzt:KX R:=(zk 0 (kSeq zu9 (Tb162 R) kk (sub [1,1] (cd Tryz.f177)) (kFin zu9 Tryz.f177.results.toList none K)))
theorem z1vk(a b:Int)(c:Zt19):zlb R kk (k+1) J a b c=
 zld a b c (fun a0=>J .ret (zfe a0)) (zlb R kk k J) (J (.exit 0) (zff)):=by kernel_rfl
theorem z1ig(a:Int):zzt R kk K .ret (zfe a)=
 zzu a (fun a0=>K [tI a0] none):=by kernel_rfl
theorem z1ih:zzt R kk K (.exit 0) (zff)=
 zzv (fun a0=>K [tI a0] none):=by kernel_rfl
theorem z1py{kk:Nat}(hF:kk=FUEL)(no_1 t5:Int)(bt2:Zt19):zlb R kk k J no_1 t5 bt2=(z6u k no_1 t5 bt2).bind fun e=>(Sum.elim (fun(we:Int)=>J .ret (zfe we)) (fun(we:Unit)=>J (.exit 0) (zff)) e):=by
 induction k generalizing no_1 t5 bt2 with
 |zero=>rfl
 |succ k ih=>
  rw[z1vk]
  simp only[z6u,zld,ih,nn_]
def Tb163:Funs:=Tb162.add 177 [y5,(.int .i64)] (pu2 y5 (.int .i64) Q118 (fun _ r K=>K [tI r] none))
theorem o163:Okt Tryz.prog Tb163:=st2 zu9 Tryz.f177 (fun R kk x0 x1 K=>zlc x0 x1 (zlb R kk kk (zzt R kk K))) o162 (ek _ _ _ _) Tryz.func177 (by kernel_rfl) rfl (fun _ _ _ _ _ _ h=>h _ _) (fun _ _ _ _ _=>by kernel_rfl) fun R kk e x0 x1 K=>by
 simp only[Q118,zlc,zzu,zzv,z1py (hF:=e),z1ig,z1ih,nn_,←e]
def zud:Env:=tab.env (fun i=>bif Nat.beq i 3 then [1,2,4,5,6] else []) (fun i=>bif Nat.beq i 3 then [4,5] else []) [4] [y5,(.int .i64)]
def zlj(a b:Int)(c d e:Zt19):Option R:=loopR (ev zud (Tb163 R) kk (sub [1,1,0,1,0,0] (cd Tryz.f209))) [1,2,4,5,6] [4,5] k ⟨uS 1 ([tI a]::[.ptr 3 y5 []]::uS 1 ([.ptr 5 y5 []]::[.ptr 6 y5 []]::[tI b]::uS 29 [])),nS 3 ((some ⟨y5,c,[]⟩)::nS 1 ((some ⟨y5,d,[[1]]⟩)::(some ⟨y5,e,[[1]]⟩)::nS 30 []))⟩ J
def zfi(a b:Zt19):State:=⟨uS 4 ([.ptr 5 y5 []]::[.ptr 6 y5 []]::uS 30 []),nS 5 ((some ⟨y5,a,[[1]]⟩)::(some ⟨y5,b,[[1]]⟩)::nS 30 [])⟩
def z1ed:KX R:=(zk 0 (kSeq zud (Tb163 R) kk (sub [1,1,1] (cd Tryz.f209)) (kFin zud Tryz.f209.results.toList none K)))
theorem z1vn(a b:Int)(c d e:Zt19):zlj R kk (k+1) J a b c d e=
 zbm a b c d e (zlj R kk k J) (fun a0 a1=>J (.exit 0) (zfi a0 a1)):=by kernel_rfl
theorem z1ik(a b:Zt19):z1ed R kk K (.exit 0) (zfi a b)=
 zzy a b (fun a0=>K [.dat y5 a0 [[1]]] none):=by kernel_rfl
theorem z1q1{kk:Nat}(hF:kk=FUEL)(no_1 t6:Int)(bt2 bt4 bt5:Zt19):zlj R kk k J no_1 t6 bt2 bt4 bt5=(z4v k no_1 t6 bt2 bt4 bt5).bind fun e=>J (.exit 0) (zfi e.1 e.2):=by
 induction k generalizing no_1 t6 bt2 bt4 bt5 with
 |zero=>rfl
 |succ k ih=>
  rw[z1vn]
  simp only[z4v,zbm,ih,nn_]
def Tb164:Funs:=Tb163.add 209 [y5,(.int .i64)] (pu2 y5 (.int .i64) Q121 (fun _ r K=>K [.dat y5 r [[1]]] none))
theorem o164:Okt Tryz.prog Tb164:=st2 zud Tryz.f209 (fun R kk x0 x1 K=>zlk x0 x1 (zlj R kk kk (z1ed R kk K))) o163 (ek _ _ _ _) Tryz.func209 (by kernel_rfl) rfl (fun _ _ _ _ _ _ h=>h _ _) (fun _ _ _ _ _=>by kernel_rfl) fun R kk e x0 x1 K=>by
 simp only[Q121,zlk,zzy,z1q1 (hF:=e),z1ik,nn_,←e]
def zuc:Env:=tab.env (fun i=>bif Nat.beq i 5 then [1,2,6,7,8,9,10] else []) (fun i=>bif Nat.beq i 5 then [1,2,6,7,9] else []) [6] [y5,(.int .i64),.str]
def zlg(a:Int)(b:ByteArray)(c:Bool)(d:Int)(e f g:Zt19):Option R:=loopR (ev zuc (Tb164 R) kk (sub [1,1,1,1,0,1,0,0] (cd Tryz.f178))) [1,2,6,7,8,9,10] [1,2,6,7,9] k ⟨uS 1 ([tI a]::[tS b]::uS 3 ([.ptr 7 y5 []]::[.ptr 8 y5 []]::[.ptr 9 y5 []]::[tB c]::[tI d]::uS 54 [])),nS 7 ((some ⟨y5,e,[[1]]⟩)::(some ⟨y5,f,[[1]]⟩)::(some ⟨y5,g,[[1]]⟩)::nS 56 [])⟩ J
def zfh(a:Int)(b:ByteArray)(c:Bool)(d e:Zt19):State:=⟨uS 1 ([tI a]::[tS b]::uS 3 ([.ptr 7 y5 []]::[.ptr 8 y5 []]::uS 1 ([tB c]::uS 55 []))),nS 7 ((some ⟨y5,d,[[1]]⟩)::(some ⟨y5,e,[[1]]⟩)::nS 57 [])⟩
def z1ec:KX R:=(zk 0 (kSeq zuc (Tb164 R) kk (sub [1,1,1,1,1] (cd Tryz.f178)) (kFin zuc Tryz.f178.results.toList none K)))
theorem z1vm(a:Int)(b:ByteArray)(c:Bool)(d:Int)(e f g:Zt19):zlg R kk (k+1) J a b c d e f g=
 zbl a b c d e f g (zlg R kk k J) (fun a0 a1 a2 a3 a4=>J (.exit 0) (zfh a0 a1 a2 a3 a4)):=by kernel_rfl
theorem z1ij(a:Int)(b:ByteArray)(c:Bool)(d e:Zt19):z1ec R kk K (.exit 0) (zfh a b c d e)=
 zli a b c d e (fun a0=>K [.dat y5 a0 [[1]]] none):=by kernel_rfl
theorem z1q0{kk:Nat}(hF:kk=FUEL)(no_1:Int)(text_2:ByteArray)(t9:Bool)(t10:Int)(bt6 bt7 bt8:Zt19):zlg R kk k J no_1 text_2 t9 t10 bt6 bt7 bt8=(z4u k no_1 text_2 t9 t10 bt6 bt7 bt8).bind fun e=>J (.exit 0) (zfh e.1 e.2.1 e.2.2.1 e.2.2.2.1 e.2.2.2.2):=by
 induction k generalizing no_1 text_2 t9 t10 bt6 bt7 bt8 with
 |zero=>rfl
 |succ k ih=>
  rw[z1vm]
  simp only[z4u,zbl,ih,nn_]
def Tb165:Funs:=Tb164.add 178 [y5,(.int .i64),.str] (pu3 y5 (.int .i64) .str Q120 (fun _ r K=>K [.dat y5 r [[1]]] none))
theorem o165:Okt Tryz.prog Tb165:=st3 zuc Tryz.f178 (fun R kk x0 x1 x2 K=>zlh x0 x1 x2 (zlg R kk kk (z1ec R kk K))) o164 (ek _ _ _ _) Tryz.func178 (by kernel_rfl) rfl (fun _ _ _ _ _ _ h=>h _ _) (fun _ _ _ _ _ _=>by kernel_rfl) fun R kk e x0 x1 x2 K=>by
 simp only[Q120,zlh,zli,z1q0 (hF:=e),z1ij,nn_,←e]
def z201:Env:=e0 [y18,(.int .i64)]
def Tb166:Funs:=Tb165.add 179 [y18,(.int .i64)] (pu2 y18 (.int .i64) Q147 (fun _ r K=>K [tS r] none))
theorem o166:Okt Tryz.prog Tb166:=st2 z201 Tryz.f179 (fun R kk x0 x1 K=>zn2 x0 x1 (fun a0=>K [tS a0] none)) o165 (ek _ _ _ _) Tryz.func179 (by kernel_rfl) rfl (fun _ _ _ _ _ _ h=>h _ _) (fun _ _ _ _ _=>by kernel_rfl) fun R kk e x0 x1 K=>by
 simp only[Q147,zn2,nn_]
def zuo:Env:=tab.env (fun i=>bif Nat.beq i 5 then [3,4,5,6,8,9] else []) (fun i=>bif Nat.beq i 5 then [3,5,6,8] else []) [6] [y18,y5,(.pair (.int .i64) (.pair (.int .i64) .unit))]
def zmu(a:Int)(b:Zt28)(c:Zt19)(d:Zt6)(e f:Zt19):Option R:=loopR (ev zuo (Tb166 R) kk (sub [1,1,1,0,1,0,0] (cd Tryz.f115))) [3,4,5,6,8,9] [3,5,6,8] k ⟨uS 3 ([.ptr 4 y18 []]::[.ptr 5 y5 []]::[.ptr 6 (.pair (.int .i64) (.pair (.int .i64) .unit)) []]::[.ptr 7 y5 []]::uS 1 ([.ptr 9 y5 []]::[tI a]::uS 45 [])),nS 4 ((some ⟨y18,b,[]⟩)::(some ⟨y5,c,[]⟩)::(some ⟨(.pair (.int .i64) (.pair (.int .i64) .unit)),d,[]⟩)::(some ⟨y5,e,[[1]]⟩)::nS 1 ((some ⟨y5,f,[[1]]⟩)::nS 46 []))⟩ J
def zgb(a:Zt28)(b:Zt6)(c d:Zt19):State:=⟨uS 3 ([.ptr 4 y18 []]::uS 1 ([.ptr 6 (.pair (.int .i64) (.pair (.int .i64) .unit)) []]::[.ptr 7 y5 []]::uS 1 ([.ptr 9 y5 []]::uS 46 []))),nS 4 ((some ⟨y18,a,[]⟩)::nS 1 ((some ⟨(.pair (.int .i64) (.pair (.int .i64) .unit)),b,[]⟩)::(some ⟨y5,c,[[1]]⟩)::nS 1 ((some ⟨y5,d,[[1]]⟩)::nS 46 [])))⟩
def z1et:KX R:=(zk 0 (kSeq zuo (Tb166 R) kk (sub [1,1,1,1] (cd Tryz.f115)) (kFin zuo Tryz.f115.results.toList none K)))
theorem z1w6(a:Int)(b:Zt28)(c:Zt19)(d:Zt6)(e f:Zt19):zmu R kk (k+1) J a b c d e f=
 zc5 a b c d e f (zmu R kk k J) (fun a0 a1 a2 a3=>J (.exit 0) (zgb a0 a1 a2 a3)):=by kernel_rfl
theorem z1jk(a:Zt28)(b:Zt6)(c d:Zt19):z1et R kk K (.exit 0) (zgb a b c d)=
 zmw a b c d (fun a0 a1=>K [.dat y5 a0 [[1]],tB a1] none):=by kernel_rfl
theorem z1qu{kk:Nat}(hF:kk=FUEL)(t9:Int)(bt3:Zt28)(bt4:Zt19)(bt5:Zt6)(bt6 bt8:Zt19):zmu R kk k J t9 bt3 bt4 bt5 bt6 bt8=(z74 k t9 bt3 bt4 bt5 bt6 bt8).bind fun e=>J (.exit 0) (zgb e.1 e.2.1 e.2.2.1 e.2.2.2):=by
 induction k generalizing t9 bt3 bt4 bt5 bt6 bt8 with
 |zero=>rfl
 |succ k ih=>
  rw[z1w6]
  simp only[z74,zc5,ih,nn_]
def Tb167:Funs:=Tb166.add 115 [y18,y5,(.pair (.int .i64) (.pair (.int .i64) .unit))] (pu3 y18 y5 (.pair (.int .i64) (.pair (.int .i64) .unit)) Q145 (fun _ r K=>K [.dat y5 r.1 [[1]],tB r.2] none))
theorem o167:Okt Tryz.prog Tb167:=st3 zuo Tryz.f115 (fun R kk x0 x1 x2 K=>zmv x0 x1 x2 (fun a0 a1=>K [.dat y5 a0 [[1]],tB a1] none) (zmu R kk kk (z1et R kk K))) o166 (ek _ _ _ _) Tryz.func115 (by kernel_rfl) rfl (fun _ _ _ _ _ _ h=>h _ _) (fun _ _ _ _ _ _=>by kernel_rfl) fun R kk e x0 x1 x2 K=>by
 simp only[Q145,zmv,zmw,z1qu (hF:=e),z1jk,nn_,←e]
def zua:Env:=tab.env (fun i=>bif Nat.beq i 3 then [1,3,4] else []) (fun i=>bif Nat.beq i 3 then [3] else []) [] [y5]
def zle(a:(List Int))(b:Int)(c:Zt19):Option R:=loopR (ev zua (Tb167 R) kk (sub [1,1,0,1,0,0] (cd Tryz.f46))) [1,3,4] [3] k ⟨uS 1 ([.ptr 2 y5 []]::uS 1 ([.dat (.sl 3 (.int .i64)) a [[]]]::[tI b]::uS 18 [])),nS 2 ((some ⟨y5,c,[]⟩)::nS 21 [])⟩ J
def zfg(a:(List Int)):State:=⟨uS 3 ([.dat (.sl 3 (.int .i64)) a [[]]]::uS 19 []),nS 24 []⟩
def z1eb:KX R:=(zk 0 (kSeq zua (Tb167 R) kk (sub [1,1,1] (cd Tryz.f46)) (kFin zua Tryz.f46.results.toList none K)))
theorem z1vl(a:(List Int))(b:Int)(c:Zt19):zle R kk (k+1) J a b c=
 zzw a b c (zle R kk k J) (fun a0=>J (.exit 0) (zfg a0)):=by kernel_rfl
theorem z1ii(a:(List Int)):z1eb R kk K (.exit 0) (zfg a)=
 zzx a (fun a0=>K [.dat (.sl 3 (.int .i64)) a0 []] none):=by kernel_rfl
theorem z1pz{kk:Nat}(hF:kk=FUEL)(t3:(List Int))(t4:Int)(bt1:Zt19):zle R kk k J t3 t4 bt1=(zbk k t3 t4 bt1).bind fun e=>J (.exit 0) (zfg e):=by
 induction k generalizing t3 t4 bt1 with
 |zero=>rfl
 |succ k ih=>
  rw[z1vl]
  simp only[zbk,zzw,ih,nn_]
def Tb168:Funs:=Tb167.add 46 [y5] (pu1 y5 Q119 (fun _ r K=>K [.dat (.sl 3 (.int .i64)) r []] none))
theorem o168:Okt Tryz.prog Tb168:=st1 zua Tryz.f46 (fun R kk x0 K=>zlf x0 (zle R kk kk (z1eb R kk K))) o167 (ek _ _ _ _) Tryz.func46 (by kernel_rfl) rfl (fun _ _ _ _ _ _ h=>h _ _) (fun _ _ _ _=>by kernel_rfl) fun R kk e x0 K=>by
 simp only[Q119,zlf,zzx,z1pz (hF:=e),z1ii,nn_,←e]
def Q90_E:Env:=tab.env (fun i=>bif Nat.beq i 3 then [0,1,5,6] else bif Nat.beq i 7 then [0,1,5,6,7,8] else []) (fun i=>bif Nat.beq i 3 then [5] else bif Nat.beq i 7 then [0,1,5,6,7] else []) [] [(.sl 3 (.int .i64)),(.int .i64)]
def zxc(a:(List Int))(b:Int)(c:(List Int))(d:Int):Option R:=loopR (ev Q90_E (Tb168 R) kk (sub [1,1,0,1,0,0] (cd Tryz.f119))) [0,1,5,6] [5] k ⟨[.dat (.sl 3 (.int .i64)) a []]::[tI b]::uS 3 ([.dat (.sl 5 (.int .u8)) c [[]]]::[tI d]::uS 29 []),nS 37 []⟩ J
def zsz(a:(List Int)):State:=⟨uS 5 ([.dat (.sl 5 (.int .u8)) a [[]]]::uS 30 []),nS 37 []⟩
def z1lp:KX R:=(zk 0 (kSeq Q90_E (Tb168 R) kk (sub [1,1,1] (cd Tryz.f119)) (kFin Q90_E Tryz.f119.results.toList none K)))
def zxd(a:(List Int))(b:Int)(c:(List Int))(d e f:Int):Option R:=loopR (ev Q90_E (Tb168 R) kk (sub [1,1,0,1,0,0,1,0,0,1,0,1,0,0] (cd Tryz.f119))) [0,1,5,6,7,8] [0,1,5,6,7] k ⟨[.dat (.sl 3 (.int .i64)) a []]::[tI b]::uS 3 ([.dat (.sl 5 (.int .u8)) c [[]]]::[tI d]::[tU e]::[tI f]::uS 27 []),nS 37 []⟩ J
def zt0(a:(List Int))(b:Int)(c:(List Int))(d e:Int):State:=⟨[.dat (.sl 3 (.int .i64)) a []]::[tI b]::uS 3 ([.dat (.sl 5 (.int .u8)) c [[]]]::[tI d]::[tU e]::uS 28 []),nS 37 []⟩
def z1lq:KX R:=(zk 2 (kSeq Q90_E (Tb168 R) kk (sub [1,1,0,1,0,0,1,0,0,1,1] (cd Tryz.f119)) (zk 1 (kSeq Q90_E (Tb168 R) kk (sub [1,1,0,1,0,0,1,1] (cd Tryz.f119)) (kLoop (ev Q90_E (Tb168 R) kk (sub [1,1,0,1,0,0] (cd Tryz.f119))) [0,1,5,6] [5] k J)))))
theorem z21z(a:(List Int))(b:Int)(c:(List Int))(d:Int):zxc R kk (k+1) J a b c d=
 zim a b c d (zxd R kk kk (z1lq R kk k J)) (fun a0=>J (.exit 0) (zsz a0)):=by kernel_rfl
theorem z1sw(a:(List Int)):z1lp R kk K (.exit 0) (zsz a)=
 z1a7 a (fun a0=>K [tS a0] none):=by kernel_rfl
theorem z220(a:(List Int))(b:Int)(c:(List Int))(d e f:Int):zxd R kk (k+1) J a b c d e f=
 zin a b c d e f (zxd R kk k J) (fun a0 a1 a2 a3 a4=>J (.exit 2) (zt0 a0 a1 a2 a3 a4)):=by kernel_rfl
theorem z1sx(a:(List Int))(b:Int)(c:(List Int))(d e:Int):z1lq R kk k J (.exit 2) (zt0 a b c d e)=
 zxf a b c d e (zxc R kk k J):=by kernel_rfl
theorem z1y1{kk:Nat}(hF:kk=FUEL)(l_0:(List Int))(from_1:Int)(t5:(List Int))(t6 t7 t8:Int):zxd R kk k J l_0 from_1 t5 t6 t7 t8=(za1 k l_0 from_1 t5 t6 t7 t8).bind fun e=>J (.exit 2) (zt0 e.1 e.2.1 e.2.2.1 e.2.2.2.1 e.2.2.2.2):=by
 induction k generalizing l_0 from_1 t5 t6 t7 t8 with
 |zero=>rfl
 |succ k ih=>
  rw[z220]
  simp only[za1,zin,ih,nn_]
theorem z1y0{kk:Nat}(hF:kk=FUEL)(l_0:(List Int))(from_1:Int)(t5:(List Int))(t6:Int):zxc R kk k J l_0 from_1 t5 t6=(za0 k l_0 from_1 t5 t6).bind fun e=>J (.exit 0) (zsz e):=by
 induction k generalizing l_0 from_1 t5 t6 with
 |zero=>rfl
 |succ k ih=>
  rw[z21z]
  simp only[za0,zim,zxf,ih,z1y1 (hF:=hF),z1sx,nn_,←hF]
def Tb169:Funs:=Tb168.add 119 [(.sl 3 (.int .i64)),(.int .i64)] (pu2 (.sl 3 (.int .i64)) (.int .i64) Q90 (fun _ r K=>K [tS r] none))
theorem o169:Okt Tryz.prog Tb169:=st2 Q90_E Tryz.f119 (fun R kk x0 x1 K=>zxe x0 x1 (zxc R kk kk (z1lp R kk K))) o168 (ek _ _ _ _) Tryz.func119 (by kernel_rfl) rfl (fun _ _ _ _ _ _ h=>h _ _) (fun _ _ _ _ _=>by kernel_rfl) fun R kk e x0 x1 K=>by
 simp only[Q90,zxe,z1a7,z1y0 (hF:=e),z1sw,nn_,←e]
def Q75_E:Env:=tab.env (fun i=>bif Nat.beq i 3 then [0,3,4] else []) (fun i=>bif Nat.beq i 3 then [3] else []) [] [.str]
def zwv(a:ByteArray)(b:(List Int))(c:Int):Option R:=loopR (ev Q75_E (Tb169 R) kk (sub [1,1,0,1,0,0] (cd Tryz.f120))) [0,3,4] [3] k ⟨[tS a]::uS 2 ([.dat (.sl 5 (.int .u8)) b [[]]]::[tI c]::uS 24 []),nS 30 []⟩ J
def zsm(a:(List Int)):State:=⟨uS 3 ([.dat (.sl 5 (.int .u8)) a [[]]]::uS 25 []),nS 30 []⟩
def z1lm:KX R:=(zk 0 (kSeq Q75_E (Tb169 R) kk (sub [1,1,1] (cd Tryz.f120)) (kFin Q75_E Tryz.f120.results.toList none K)))
theorem z21p(a:ByteArray)(b:(List Int))(c:Int):zwv R kk (k+1) J a b c=
 zig a b c (zwv R kk k J) (fun a0=>J (.exit 0) (zsm a0)):=by kernel_rfl
theorem z1sj(a:(List Int)):z1lm R kk K (.exit 0) (zsm a)=
 z19o a (fun a0=>K [tS a0] none):=by kernel_rfl
theorem z1xq{kk:Nat}(hF:kk=FUEL)(s_0:ByteArray)(t3:(List Int))(t4:Int):zwv R kk k J s_0 t3 t4=(z9w k s_0 t3 t4).bind fun e=>J (.exit 0) (zsm e):=by
 induction k generalizing s_0 t3 t4 with
 |zero=>rfl
 |succ k ih=>
  rw[z21p]
  simp only[z9w,zig,ih,nn_]
def Tb170:Funs:=Tb169.add 120 [.str] (pu1 .str Q75 (fun _ r K=>K [tS r] none))
theorem o170:Okt Tryz.prog Tb170:=st1 Q75_E Tryz.f120 (fun R kk x0 K=>zww x0 (zwv R kk kk (z1lm R kk K))) o169 (ek _ _ _ _) Tryz.func120 (by kernel_rfl) rfl (fun _ _ _ _ _ _ h=>h _ _) (fun _ _ _ _=>by kernel_rfl) fun R kk e x0 K=>by
 simp only[Q75,zww,z19o,z1xq (hF:=e),z1sj,nn_,←e]
def Q89_E:Env:=tab.env (fun i=>bif Nat.beq i 5 then [0,1,6,7] else []) (fun i=>bif Nat.beq i 5 then [0,1,6] else []) [] [(.int .i64),(.sl 3 (.int .i64))]
def zxb(a:Int)(b:(List Int))(c:Bool)(d:Int):Option R:=loopR (ev Q89_E (Tb170 R) kk (sub [1,1,1,0,1,0,0] (cd Tryz.f45))) [0,1,6,7] [0,1,6] k ⟨[tI a]::[.dat (.sl 3 (.int .i64)) b []]::uS 4 ([tB c]::[tI d]::uS 36 []),nS 45 []⟩ J
def zsy(a:Int)(b:(List Int))(c:Bool):State:=⟨[tI a]::[.dat (.sl 3 (.int .i64)) b []]::uS 4 ([tB c]::uS 37 []),nS 45 []⟩
def z1lo:KX R:=(zk 0 (kSeq Q89_E (Tb170 R) kk (sub [1,1,1,1] (cd Tryz.f45)) (kFin Q89_E Tryz.f45.results.toList none K)))
theorem z21x(a:Int)(b:(List Int))(c:Bool)(d:Int):zxb R kk (k+1) J a b c d=
 zik a b c d (zxb R kk k J) (fun a0 a1 a2=>J (.exit 0) (zsy a0 a1 a2)):=by kernel_rfl
theorem z1sv(a:Int)(b:(List Int))(c:Bool):z1lo R kk K (.exit 0) (zsy a b c)=
 zil a b c (fun a0 a1=>K [tS a0,tB a1] none):=by kernel_rfl
theorem z1xy{kk:Nat}(hF:kk=FUEL)(style_0:Int)(l_1:(List Int))(t6:Bool)(t7:Int):zxb R kk k J style_0 l_1 t6 t7=(z7u k style_0 l_1 t6 t7).bind fun e=>J (.exit 0) (zsy e.1 e.2.1 e.2.2):=by
 induction k generalizing style_0 l_1 t6 t7 with
 |zero=>rfl
 |succ k ih=>
  rw[z21x]
  simp only[z7u,zik,ih,nn_]
def Tb171:Funs:=Tb170.add 45 [(.int .i64),(.sl 3 (.int .i64))] (pu2 (.int .i64) (.sl 3 (.int .i64)) Q89 (fun _ r K=>K [tS r.1,tB r.2] none))
theorem o171:Okt Tryz.prog Tb171:=st2 Q89_E Tryz.f45 (fun R kk x0 x1 K=>zd7 x0 x1 (fun a0 a1=>K [tS a0,tB a1] none) (fun a0 a1 a2 a3=>zxb R kk kk (z1lo R kk K) a0 a1 a2 a3)) o170 (ek _ _ _ _) Tryz.func45 (by kernel_rfl) rfl (fun _ _ _ _ _ _ h=>h _ _) (fun _ _ _ _ _=>by kernel_rfl) fun R kk e x0 x1 K=>by
 simp only[Q89,z1db,zil,z1xy (hF:=e),z1sv,nn_,←e]
def Q78_E:Env:={tab.env (fun i=>bif Nat.beq i 8 then [0,4,5,6] else []) (fun i=>bif Nat.beq i 8 then [4] else []) [] [.str] with sp:=some (13,4,7,42)}
def zx1(a:ByteArray)(b:(List Int))(c d:Int):Option R:=loopR (ev Q78_E (Tb171 R) kk (sub [1,1,1,1,1,0,1,0,0] (cd Tryz.f121))) [0,4,5,6] [4] k ⟨[tS a]::uS 3 ([.dat (.sl 5 (.int .u8)) b [[]]]::[tI c]::[tI d]::uS 52 []),nS 60 []⟩ J
def zsr(a:(List Int)):State:=⟨uS 4 ([.dat (.sl 5 (.int .u8)) a [[]]]::uS 54 []),nS 60 []⟩
def z1ln:KX R:=(zk 0 (kSeq Q78_E (Tb171 R) kk (sub [1,1,1,1,1,1] (cd Tryz.f121)) (kFin Q78_E Tryz.f121.results.toList none K)))
theorem z21s(a:ByteArray)(b:(List Int))(c d:Int):zx1 R kk (k+1) J a b c d=
 zd6 a b c d (zx1 R kk k J) (fun a0=>J (.exit 0) (zsr a0)):=by kernel_rfl
theorem z1so(a:(List Int)):z1ln R kk K (.exit 0) (zsr a)=
 z19w a (fun a0 a1=>K [tS a0,tB a1] none):=by kernel_rfl
theorem z1xt{kk:Nat}(hF:kk=FUEL)(s_0:ByteArray)(t4:(List Int))(t5 t6:Int):zx1 R kk k J s_0 t4 t5 t6=(z69 k s_0 t4 t5 t6).bind fun e=>J (.exit 0) (zsr e):=by
 induction k generalizing s_0 t4 t5 t6 with
 |zero=>rfl
 |succ k ih=>
  rw[z21s]
  simp only[z69,zd6,ih,nn_]
def Tb172:Funs:=Tb171.add 121 [.str] (pu1 .str Q78 (fun _ r K=>K [tS r.1,tB r.2] none))
theorem o172:Okt Tryz.prog Tb172:=st1 Q78_E Tryz.f121 (fun R kk x0 K=>zd5 x0 (fun a0 a1=>K [tS a0,tB a1] none) (fun a0 a1 a2 a3=>zx1 R kk kk (z1ln R kk K) a0 a1 a2 a3)) o171 ((ek _ _ _ _).sp _) Tryz.func121 (by kernel_rfl) rfl (fun _ _ _ _ _ _ h=>h _ _) (fun _ _ _ _=>by kernel_rfl) fun R kk e x0 K=>by
 simp only[Q78,z1da,z19w,z1xt (hF:=e),z1so,nn_,←e]
def z1zt:Env:=e0 [(.int .i64),.str]
def Tb173:Funs:=Tb172.add 47 [(.int .i64),.str] (pu2 (.int .i64) .str Q123 (fun _ r K=>K [tS r] none))
theorem o173:Okt Tryz.prog Tb173:=st2 z1zt Tryz.f47 (fun R kk x0 x1 K=>zln x0 x1 (fun a0=>K [tS a0] none)) o172 (ek _ _ _ _) Tryz.func47 (by kernel_rfl) rfl (fun _ _ _ _ _ _ h=>h _ _) (fun _ _ _ _ _=>by kernel_rfl) fun R kk e x0 x1 K=>by
 simp only[Q123,zln,nn_]
def Q93_E:Env:=e0 [(.int .i64),(.int .i64),(.int .i64)]
def Tb174:Funs:=Tb173.add 122 [(.int .i64),(.int .i64),(.int .i64)] (pu3 (.int .i64) (.int .i64) (.int .i64) Q93 (fun _ r K=>K [tS r.1,tI r.2] none))
theorem o174:Okt Tryz.prog Tb174:=st3 Q93_E Tryz.f122 (fun R kk x0 x1 x2 K=>zxl x0 x1 x2 (fun a0 a1=>K [tS a0,tI a1] none)) o173 (ek _ _ _ _) Tryz.func122 (by kernel_rfl) rfl (fun _ _ _ _ _ _ h=>h _ _) (fun _ _ _ _ _ _=>by kernel_rfl) fun R kk e x0 x1 x2 K=>by
 simp only[Q93,zxl,nn_]
def z1zl:Env:=e0 [(.int .i64),(.int .i64),.str]
def Tb175:Funs:=Tb174.add 123 [(.int .i64),(.int .i64),.str] (pu3 (.int .i64) (.int .i64) .str Q105 (fun _ r K=>K [tS r] none))
theorem o175:Okt Tryz.prog Tb175:=st3 z1zl Tryz.f123 (fun R kk x0 x1 x2 K=>zkw x0 x1 x2 (fun a0=>K [tS a0] none)) o174 (ek _ _ _ _) Tryz.func123 (by kernel_rfl) rfl (fun _ _ _ _ _ _ h=>h _ _) (fun _ _ _ _ _ _=>by kernel_rfl) fun R kk e x0 x1 x2 K=>by
 simp only[Q105,zkw,nn_]
def z1zk:Env:=e0 [(.int .i64),y9,.str]
def Tb176:Funs:=Tb175.add 48 [(.int .i64),y9,.str] (pu3 (.int .i64) y9 .str Q104 (fun _ r K=>K [tS r.1,tI r.2] none))
theorem o176:Okt Tryz.prog Tb176:=st3 z1zk Tryz.f48 (fun R kk x0 x1 x2 K=>zkv x0 x1 x2 (fun a0 a1=>K [tS a0,tI a1] none)) o175 (ek _ _ _ _) Tryz.func48 (by kernel_rfl) rfl (fun _ _ _ _ _ _ h=>h _ _) (fun _ _ _ _ _ _=>by kernel_rfl) fun R kk e x0 x1 x2 K=>by
 simp only[Q104,zkv,nn_]
def zue:Env:=tab.env (fun i=>bif Nat.beq i 4 then [2,3,7,8] else []) (fun i=>bif Nat.beq i 4 then [7] else []) [] [y15,y5]
def zll(a:ByteArray)(b:Int)(c:Zt20)(d:Zt19):Option R:=loopR (ev zue (Tb176 R) kk (sub [1,1,1,0,1,0,0] (cd Tryz.f18))) [2,3,7,8] [7] k ⟨uS 2 ([.ptr 3 y15 []]::[.ptr 4 y5 []]::uS 3 ([tS a]::[tI b]::uS 52 [])),nS 3 ((some ⟨y15,c,[]⟩)::(some ⟨y5,d,[]⟩)::nS 57 [])⟩ J
def zfj(a:ByteArray):State:=⟨uS 7 ([tS a]::uS 53 []),nS 62 []⟩
def z1ee:KX R:=(zk 0 (kSeq zue (Tb176 R) kk (sub [1,1,1,1] (cd Tryz.f18)) (kFin zue Tryz.f18.results.toList none K)))
theorem z1vo(a:ByteArray)(b:Int)(c:Zt20)(d:Zt19):zll R kk (k+1) J a b c d=
 zbn a b c d (zll R kk k J) (fun a0=>J (.exit 0) (zfj a0)):=by kernel_rfl
theorem z1il(a:ByteArray):z1ee R kk K (.exit 0) (zfj a)=
 zzz a (fun a0=>K [tS a0] none):=by kernel_rfl
theorem z1q2{kk:Nat}(hF:kk=FUEL)(t7:ByteArray)(t8:Int)(bt2:Zt20)(bt3:Zt19):zll R kk k J t7 t8 bt2 bt3=(z4w k t7 t8 bt2 bt3).bind fun e=>J (.exit 0) (zfj e):=by
 induction k generalizing t7 t8 bt2 bt3 with
 |zero=>rfl
 |succ k ih=>
  rw[z1vo]
  simp only[z4w,zbn,ih,nn_]
def Tb177:Funs:=Tb176.add 18 [y15,y5] (pu2 y15 y5 Q122 (fun _ r K=>K [tS r] none))
theorem o177:Okt Tryz.prog Tb177:=st2 zue Tryz.f18 (fun R kk x0 x1 K=>zlm x0 x1 (zll R kk kk (z1ee R kk K))) o176 (ek _ _ _ _) Tryz.func18 (by kernel_rfl) rfl (fun _ _ _ _ _ _ h=>h _ _) (fun _ _ _ _ _=>by kernel_rfl) fun R kk e x0 x1 K=>by
 simp only[Q122,zlm,zzz,z1q2 (hF:=e),z1il,nn_,←e]
def z208:Env:=e0 [y19,(.int .i64),y5,(.pair (.int .i64) (.pair (.int .i64) .unit))]
def Tb178:Funs:=Tb177.add 42 [y19,(.int .i64),y5,(.pair (.int .i64) (.pair (.int .i64) .unit))] (pu4 y19 (.int .i64) y5 (.pair (.int .i64) (.pair (.int .i64) .unit)) Q160 (fun _ r K=>K [tI r.1,tS r.2] none))
theorem o178:Okt Tryz.prog Tb178:=st4 z208 Tryz.f42 (fun R kk x0 x1 x2 x3 K=>zne x0 x1 x2 x3 (fun a0 a1=>K [tI a0,tS a1] none)) o177 (ek _ _ _ _) Tryz.func42 (by kernel_rfl) rfl (fun _ _ _ _ _ _ h=>h _ _) (fun _ _ _ _ _ _ _=>by kernel_rfl) fun R kk e x0 x1 x2 x3 K=>by
 simp only[Q160,zne,nn_]
def z1zy:Env:=e0 [y16,y15,y15]
def Tb179:Funs:=Tb178.add 116 [y16,y15,y15] (pu3 y16 y15 y15 Q138 (fun _ r K=>K [tB r] none))
theorem o179:Okt Tryz.prog Tb179:=st3 z1zy Tryz.f116 (fun R kk x0 x1 x2 K=>zmh x0 x1 x2 (fun a0=>K [tB a0] none)) o178 (ek _ _ _ _) Tryz.func116 (by kernel_rfl) rfl (fun _ _ _ _ _ _ h=>h _ _) (fun _ _ _ _ _ _=>by kernel_rfl) fun R kk e x0 x1 x2 K=>by
 simp only[Q138,zmh,nn_]
def zu8:Env:=tab.env (fun i=>bif Nat.beq i 7 then [2,3,4,5,6] else []) (fun i=>bif Nat.beq i 7 then [4] else []) [4] [y15,y5]
def zl9(a b:Int)(c:Zt20)(d:Zt19)(e:Zt6):Option R:=loopR (ev zu8 (Tb179 R) kk (sub [1,1,1,1,0,1,0,0] (cd Tryz.f44))) [2,3,4,5,6] [4] k ⟨uS 2 ([.ptr 3 y15 []]::[.ptr 4 y5 []]::[.ptr 5 (.pair (.int .i64) (.pair (.int .i64) .unit)) []]::[tI a]::[tI b]::uS 66 []),nS 3 ((some ⟨y15,c,[]⟩)::(some ⟨y5,d,[]⟩)::(some ⟨(.pair (.int .i64) (.pair (.int .i64) .unit)),e,[]⟩)::nS 68 [])⟩ J
def zfc(a:Zt6):State:=⟨uS 4 ([.ptr 5 (.pair (.int .i64) (.pair (.int .i64) .unit)) []]::uS 68 []),nS 5 ((some ⟨(.pair (.int .i64) (.pair (.int .i64) .unit)),a,[]⟩)::nS 68 [])⟩
def zfd(a:Zt6):State:=⟨uS 4 ([.ptr 5 (.pair (.int .i64) (.pair (.int .i64) .unit)) []]::uS 68 []),nS 5 ((some ⟨(.pair (.int .i64) (.pair (.int .i64) .unit)),a,[]⟩)::nS 68 [])⟩
def zzq:KX R:=(zk 0 (kSeq zu8 (Tb179 R) kk (sub [1,1,1,1,1] (cd Tryz.f44)) (kFin zu8 Tryz.f44.results.toList none K)))
theorem z1vj(a b:Int)(c:Zt20)(d:Zt19)(e:Zt6):zl9 R kk (k+1) J a b c d e=
 zbj a b c d e (fun a0=>J .ret (zfc a0)) (zl9 R kk k J) (fun a0=>J (.exit 0) (zfd a0)):=by kernel_rfl
theorem z1ie(a:Zt6):zzq R kk K .ret (zfc a)=
 zzr a (fun a0=>K [.dat (.pair (.int .i64) (.pair (.int .i64) .unit)) a0 []] none):=by kernel_rfl
theorem z1if(a:Zt6):zzq R kk K (.exit 0) (zfd a)=
 zzs a (fun a0=>K [.dat (.pair (.int .i64) (.pair (.int .i64) .unit)) a0 []] none):=by kernel_rfl
theorem z1px{kk:Nat}(hF:kk=FUEL)(t5 t6:Int)(bt2:Zt20)(bt3:Zt19)(bt4:Zt6):zl9 R kk k J t5 t6 bt2 bt3 bt4=(z48 k t5 t6 bt2 bt3 bt4).bind fun e=>(Sum.elim (fun(we:Zt6)=>J .ret (zfc we)) (fun(we:Zt6)=>J (.exit 0) (zfd we)) e):=by
 induction k generalizing t5 t6 bt2 bt3 bt4 with
 |zero=>rfl
 |succ k ih=>
  rw[z1vj]
  simp only[z48,zbj,ih,nn_]
def Tb180:Funs:=Tb179.add 44 [y15,y5] (pu2 y15 y5 Q117 (fun _ r K=>K [.dat (.pair (.int .i64) (.pair (.int .i64) .unit)) r []] none))
theorem o180:Okt Tryz.prog Tb180:=st2 zu8 Tryz.f44 (fun R kk x0 x1 K=>zla x0 x1 (fun a0=>K [.dat (.pair (.int .i64) (.pair (.int .i64) .unit)) a0 []] none) (zl9 R kk kk (zzq R kk K))) o179 (ek _ _ _ _) Tryz.func44 (by kernel_rfl) rfl (fun _ _ _ _ _ _ h=>h _ _) (fun _ _ _ _ _=>by kernel_rfl) fun R kk e x0 x1 K=>by
 simp only[Q117,zla,zzr,zzs,z1px (hF:=e),z1ie,z1if,nn_,←e]
def zun:Env:=tab.env (fun i=>bif Nat.beq i 2 then [1,2,5] else []) (fun i=>bif Nat.beq i 2 then [4] else []) [] [y16,(.int .i64)]
def zmq(a b:Int)(c:Zt26):Option R:=loopR (ev zun (Tb180 R) kk (sub [1,0,1,0,0] (cd Tryz.f117))) [1,2,5] [4] k ⟨uS 1 ([tI a]::[.ptr 3 y16 []]::uS 2 ([tI b]::uS 16 [])),nS 3 ((some ⟨y16,c,[]⟩)::nS 19 [])⟩ J
def zg9(a:Int):State:=⟨uS 4 ([tI a]::uS 17 []),nS 23 []⟩
def zga:State:=⟨uS 22 [],nS 23 []⟩
def z118:KX R:=(zk 0 (kSeq zun (Tb180 R) kk (sub [1,1] (cd Tryz.f117)) (kFin zun Tryz.f117.results.toList none K)))
theorem z1w5(a b:Int)(c:Zt26):zmq R kk (k+1) J a b c=
 z119 a b c (fun a0=>J .ret (zg9 a0)) (zmq R kk k J) (J (.exit 0) (zga)):=by kernel_rfl
theorem z1ji(a:Int):z118 R kk K .ret (zg9 a)=
 z11a a (fun a0=>K [tI a0] none):=by kernel_rfl
theorem z1jj:z118 R kk K (.exit 0) (zga)=
 z11b (fun a0=>K [tI a0] none):=by kernel_rfl
theorem z1qt{kk:Nat}(hF:kk=FUEL)(no_1 t5:Int)(bt2:Zt26):zmq R kk k J no_1 t5 bt2=(zc4 k no_1 t5 bt2).bind fun e=>(Sum.elim (fun(we:Int)=>J .ret (zg9 we)) (fun(we:Unit)=>J (.exit 0) (zga)) e):=by
 induction k generalizing no_1 t5 bt2 with
 |zero=>rfl
 |succ k ih=>
  rw[z1w5]
  simp only[zc4,z119,ih,nn_]
def Tb181:Funs:=Tb180.add 117 [y16,(.int .i64)] (pu2 y16 (.int .i64) Q140 (fun _ r K=>K [tI r] none))
theorem o181:Okt Tryz.prog Tb181:=st2 zun Tryz.f117 (fun R kk x0 x1 K=>zmr x0 x1 (zmq R kk kk (z118 R kk K))) o180 (ek _ _ _ _) Tryz.func117 (by kernel_rfl) rfl (fun _ _ _ _ _ _ h=>h _ _) (fun _ _ _ _ _=>by kernel_rfl) fun R kk e x0 x1 K=>by
 simp only[Q140,zmr,z11a,z11b,z1qt (hF:=e),z1ji,z1jj,nn_,←e]
def Q71_E:Env:=tab.env (fun i=>bif Nat.beq i 3 then [0,1] else bif Nat.beq i 5 then [0,1] else []) (fun i=>bif Nat.beq i 3 then [0,1] else bif Nat.beq i 5 then [0,4,5] else []) [] [.str,(.int .i64)]
def zwg(a:ByteArray)(b:Int):Option R:=loopR (ev Q71_E (Tb181 R) kk (sub [1,1,0,0,0] (cd Tryz.f180))) [0,1] [0,1] k ⟨[tS a]::[tI b]::uS 41 [],nS 44 []⟩ J
def zsf(a:ByteArray)(b:Int):State:=⟨[tS a]::[tI b]::uS 41 [],nS 44 []⟩
def z1lj:KX R:=(zk 0 (kSeq Q71_E (Tb181 R) kk (sub [1,1,1] (cd Tryz.f180)) (kFin Q71_E Tryz.f180.results.toList none K)))
def zwh(a:ByteArray)(b:Int):Option R:=loopR (ev Q71_E (Tb181 R) kk (sub [1,1,1,0,0,0] (cd Tryz.f180))) [0,1] [0,4,5] k ⟨[tS a]::[tI b]::uS 41 [],nS 44 []⟩ J
def zsg(a b:ByteArray)(c:Bool):State:=⟨[tS a]::uS 3 ([tS b]::[tB c]::uS 37 []),nS 44 []⟩
def zsh(a:ByteArray):State:=⟨[tS a]::uS 42 [],nS 44 []⟩
def z19j:KX R:=(zk 2 (kSeq Q71_E (Tb181 R) kk (sub [1,1,1,1] (cd Tryz.f180)) (kFin Q71_E Tryz.f180.results.toList none K)))
theorem z21k(a:ByteArray)(b:Int):zwg R kk (k+1) J a b=
 zwj a b (zwg R kk k J) (fun a0 a1=>J (.exit 0) (zsf a0 a1)):=by kernel_rfl
theorem z1sc(a:ByteArray)(b:Int):z1lj R kk K (.exit 0) (zsf a b)=
 zwk a b (zwh R kk kk (z19j R kk K)):=by kernel_rfl
theorem z21l(a:ByteArray)(b:Int):zwh R kk (k+1) J a b=
 zwl a b (fun a0 a1 a2=>J .ret (zsg a0 a1 a2)) (zwh R kk k J) (fun a0=>J (.exit 2) (zsh a0)):=by kernel_rfl
theorem z1sd(a b:ByteArray)(c:Bool):z19j R kk K .ret (zsg a b c)=
 zwm a b c (fun a0 a1=>K [tS a0,tB a1] none):=by kernel_rfl
theorem z1se(a:ByteArray):z19j R kk K (.exit 2) (zsh a)=
 zwn a (fun a0 a1=>K [tS a0,tB a1] none):=by kernel_rfl
theorem z1xl{kk:Nat}(hF:kk=FUEL)(s_0:ByteArray)(width_1:Int):zwg R kk k J s_0 width_1=(zd3 k s_0 width_1).bind fun e=>J (.exit 0) (zsf e.1 e.2):=by
 induction k generalizing s_0 width_1 with
 |zero=>rfl
 |succ k ih=>
  rw[z21k]
  simp only[zd3,zwj,ih,nn_]
theorem z1xm{kk:Nat}(hF:kk=FUEL)(s_0:ByteArray)(width_1:Int):zwh R kk k J s_0 width_1=(zd4 k s_0 width_1).bind fun e=>(Sum.elim (fun(we:Zt12)=>J .ret (zsg we.1 we.2.1 we.2.2)) (fun(we:ByteArray)=>J (.exit 2) (zsh we)) e):=by
 induction k generalizing s_0 width_1 with
 |zero=>rfl
 |succ k ih=>
  rw[z21l]
  simp only[zd4,zwl,ih,nn_]
def Tb182:Funs:=Tb181.add 180 [.str,(.int .i64)] (pu2 .str (.int .i64) Q71 (fun _ r K=>K [tS r.1,tB r.2] none))
theorem o182:Okt Tryz.prog Tb182:=st2 Q71_E Tryz.f180 (fun R kk x0 x1 K=>zwi x0 x1 (fun a0 a1=>K [tS a0,tB a1] none) (zwg R kk kk (z1lj R kk K))) o181 (ek _ _ _ _) Tryz.func180 (by kernel_rfl) rfl (fun _ _ _ _ _ _ h=>h _ _) (fun _ _ _ _ _=>by kernel_rfl) fun R kk e x0 x1 K=>by
 simp only[Q71,zwi,zwk,zwm,zwn,z1xl (hF:=e),z1xm (hF:=e),z1sc,z1sd,z1se,nn_,←e]
def z1zw:Env:=tab.env (fun _=>[]) (fun _=>[]) [6] [y12,y15,.str]
def Tb183:Funs:=Tb182.add 118 [y12,y15,.str] (pu3 y12 y15 .str Q131 (fun _ r K=>K [.dat (.pair (.int .i64) (.pair .str .unit)) r.1 [],tI r.2] none))
theorem o183:Okt Tryz.prog Tb183:=st3 z1zw Tryz.f118 (fun R kk x0 x1 x2 K=>zlx x0 x1 x2 (fun a0 a1=>K [.dat (.pair (.int .i64) (.pair .str .unit)) a0 [],tI a1] none)) o182 (ek _ _ _ _) Tryz.func118 (by kernel_rfl) rfl (fun _ _ _ _ _ _ h=>h _ _) (fun _ _ _ _ _ _=>by kernel_rfl) fun R kk e x0 x1 x2 K=>by
 simp only[Q131,zlx,nn_]
def z3m:Env:=tab.env (fun i=>bif Nat.beq i 12 then [4,6,7,8,9,10,12,14,15] else bif Nat.beq i 22 then [4,8,9,12,14,19] else bif Nat.beq i 28 then [8,9,14,20,21] else bif Nat.beq i 31 then [8,9,14,20,21,22] else []) (fun i=>bif Nat.beq i 12 then [4,8,9,12,14] else bif Nat.beq i 22 then [8,9,12,14] else bif Nat.beq i 28 then [8,9,20] else bif Nat.beq i 31 then [8,9,14,20,21] else []) [8,9] [y16,y15,y15,y5]
def zmi(a:ByteArray)(b:Zt13)(c:Int)(d:Zt26)(e:Zt20)(f g:Zt19)(h:Zt6)(i:Zt19):Option R:=loopR (ev z3m (Tb183 R) kk (sub [1,1,1,1,1,1,1,0,1,0,0] (cd Tryz.f43))) [4,6,7,8,9,10,12,14,15] [4,8,9,12,14] k ⟨uS 4 ([.ptr 5 y16 []]::uS 1 ([.ptr 7 y15 []]::[.ptr 8 y5 []]::[.ptr 9 y5 []]::[.ptr 10 (.pair (.int .i64) (.pair (.int .i64) .unit)) []]::[.ptr 11 y5 []]::uS 1 ([tS a]::uS 1 ([.dat (.sl 90 (.pair (.int .i64) (.pair .str .unit))) b [[]]]::[tI c]::uS 152 [])))),nS 5 ((some ⟨y16,d,[]⟩)::nS 1 ((some ⟨y15,e,[]⟩)::(some ⟨y5,f,[]⟩)::(some ⟨y5,g,[[1]]⟩)::(some ⟨(.pair (.int .i64) (.pair (.int .i64) .unit)),h,[]⟩)::(some ⟨y5,i,[[1]]⟩)::nS 157 []))⟩ J
def zg4(a:ByteArray)(b:Zt13)(c:Zt26)(d:Zt19)(e:Zt6):State:=⟨uS 4 ([.ptr 5 y16 []]::uS 3 ([.ptr 9 y5 []]::[.ptr 10 (.pair (.int .i64) (.pair (.int .i64) .unit)) []]::uS 2 ([tS a]::uS 1 ([.dat (.sl 90 (.pair (.int .i64) (.pair .str .unit))) b [[]]]::uS 153 [])))),nS 5 ((some ⟨y16,c,[]⟩)::nS 3 ((some ⟨y5,d,[[1]]⟩)::(some ⟨(.pair (.int .i64) (.pair (.int .i64) .unit)),e,[]⟩)::nS 158 []))⟩
def zg5(a:ByteArray)(b:Zt13)(c:Zt26)(d:Zt19)(e:Zt6):State:=⟨uS 4 ([.ptr 5 y16 []]::uS 3 ([.ptr 9 y5 []]::[.ptr 10 (.pair (.int .i64) (.pair (.int .i64) .unit)) []]::uS 2 ([tS a]::uS 1 ([.dat (.sl 90 (.pair (.int .i64) (.pair .str .unit))) b [[]]]::uS 153 [])))),nS 5 ((some ⟨y16,c,[]⟩)::nS 3 ((some ⟨y5,d,[[1]]⟩)::(some ⟨(.pair (.int .i64) (.pair (.int .i64) .unit)),e,[]⟩)::nS 158 []))⟩
def z115:KX R:=(zk 0 (kSeq z3m (Tb183 R) kk (sub [1,1,1,1,1,1,1,1] (cd Tryz.f43)) (kFin z3m Tryz.f43.results.toList none K)))
end
end Go.Proofs.YtkgpjibbdpikcaaGreatDoor

namespace Go.Proofs.YtkgpjibbdpikcaaGreatDoor
noncomputable section
open Go Go.Ref Groat
variable (R:Type) (kk k:Nat) (K:KF R) (J:KX R)
def zmj(a:ByteArray)(b:Zt13)(c:Int)(d:Zt26)(e:Zt19)(f:Zt6):Option R:=loopR (ev z3m (Tb183 R) kk (sub [1,1,1,1,1,1,1,1,0,1,0,0] (cd Tryz.f43))) [4,8,9,12,14,19] [8,9,12,14] k ⟨uS 4 ([.ptr 5 y16 []]::uS 3 ([.ptr 9 y5 []]::[.ptr 10 (.pair (.int .i64) (.pair (.int .i64) .unit)) []]::uS 2 ([tS a]::uS 1 ([.dat (.sl 90 (.pair (.int .i64) (.pair .str .unit))) b [[]]]::uS 4 ([tI c]::uS 148 []))))),nS 5 ((some ⟨y16,d,[]⟩)::nS 3 ((some ⟨y5,e,[[1]]⟩)::(some ⟨(.pair (.int .i64) (.pair (.int .i64) .unit)),f,[]⟩)::nS 158 []))⟩ J
def zg6(a:ByteArray)(b:Zt13)(c:Zt19)(d:Zt6):State:=⟨uS 8 ([.ptr 9 y5 []]::[.ptr 10 (.pair (.int .i64) (.pair (.int .i64) .unit)) []]::uS 2 ([tS a]::uS 1 ([.dat (.sl 90 (.pair (.int .i64) (.pair .str .unit))) b [[]]]::uS 153 []))),nS 9 ((some ⟨y5,c,[[1]]⟩)::(some ⟨(.pair (.int .i64) (.pair (.int .i64) .unit)),d,[]⟩)::nS 158 [])⟩
def z1eq:KX R:=(zk 2 (kSeq z3m (Tb183 R) kk (sub [1,1,1,1,1,1,1,1,1] (cd Tryz.f43)) (kFin z3m Tryz.f43.results.toList none K)))
def zmk(a:Zt13)(b:Int)(c:Zt19)(d:Zt6)(e:Zt19):Option R:=loopR (ev z3m (Tb183 R) kk (sub [1,1,1,1,1,1,1,1,1,1,0,1,0,0] (cd Tryz.f43))) [8,9,14,20,21] [8,9,20] k ⟨uS 8 ([.ptr 9 y5 []]::[.ptr 10 (.pair (.int .i64) (.pair (.int .i64) .unit)) []]::uS 4 ([.dat (.sl 90 (.pair (.int .i64) (.pair .str .unit))) a [[]]]::uS 5 ([.ptr 21 y5 []]::[tI b]::uS 146 []))),nS 9 ((some ⟨y5,c,[[1]]⟩)::(some ⟨(.pair (.int .i64) (.pair (.int .i64) .unit)),d,[]⟩)::nS 10 ((some ⟨y5,e,[[1]]⟩)::nS 147 []))⟩ J
def zg7(a:Zt19)(b:Zt6)(c:Zt19):State:=⟨uS 8 ([.ptr 9 y5 []]::[.ptr 10 (.pair (.int .i64) (.pair (.int .i64) .unit)) []]::uS 10 ([.ptr 21 y5 []]::uS 147 [])),nS 9 ((some ⟨y5,a,[[1]]⟩)::(some ⟨(.pair (.int .i64) (.pair (.int .i64) .unit)),b,[]⟩)::nS 10 ((some ⟨y5,c,[[1]]⟩)::nS 147 []))⟩
def z1er:KX R:=(zk 4 (kSeq z3m (Tb183 R) kk (sub [1,1,1,1,1,1,1,1,1,1,1] (cd Tryz.f43)) (kFin z3m Tryz.f43.results.toList none K)))
def zml(a:Zt13)(b c:Int)(d:Zt19)(e:Zt6)(f:Zt19):Option R:=loopR (ev z3m (Tb183 R) kk (sub [1,1,1,1,1,1,1,1,1,1,0,1,0,0,1,0,0,1,0,0] (cd Tryz.f43))) [8,9,14,20,21,22] [8,9,14,20,21] k ⟨uS 8 ([.ptr 9 y5 []]::[.ptr 10 (.pair (.int .i64) (.pair (.int .i64) .unit)) []]::uS 4 ([.dat (.sl 90 (.pair (.int .i64) (.pair .str .unit))) a [[]]]::uS 5 ([.ptr 21 y5 []]::[tI b]::[tI c]::uS 145 []))),nS 9 ((some ⟨y5,d,[[1]]⟩)::(some ⟨(.pair (.int .i64) (.pair (.int .i64) .unit)),e,[]⟩)::nS 10 ((some ⟨y5,f,[[1]]⟩)::nS 147 []))⟩ J
def zg8(a:Zt13)(b:Int)(c:Zt19)(d:Zt6)(e:Zt19):State:=⟨uS 8 ([.ptr 9 y5 []]::[.ptr 10 (.pair (.int .i64) (.pair (.int .i64) .unit)) []]::uS 4 ([.dat (.sl 90 (.pair (.int .i64) (.pair .str .unit))) a [[]]]::uS 5 ([.ptr 21 y5 []]::[tI b]::uS 146 []))),nS 9 ((some ⟨y5,c,[[1]]⟩)::(some ⟨(.pair (.int .i64) (.pair (.int .i64) .unit)),d,[]⟩)::nS 10 ((some ⟨y5,e,[[1]]⟩)::nS 147 []))⟩
def z1es:KX R:=(zk 6 (zk 5 (kSeq z3m (Tb183 R) kk (sub [1,1,1,1,1,1,1,1,1,1,0,1,0,0,1,1] (cd Tryz.f43)) (kLoop (ev z3m (Tb183 R) kk (sub [1,1,1,1,1,1,1,1,1,1,0,1,0,0] (cd Tryz.f43))) [8,9,14,20,21] [8,9,20] k J))))
theorem z1w1(a:ByteArray)(b:Zt13)(c:Int)(d:Zt26)(e:Zt20)(f g:Zt19)(h:Zt6)(i:Zt19):zmi R kk (k+1) J a b c d e f g h i=
 zc0 a b c d e f g h i (fun a0 a1 a2 a3 a4=>J .ret (zg4 a0 a1 a2 a3 a4)) (zmi R kk k J) (fun a0 a1 a2 a3 a4=>J (.exit 0) (zg5 a0 a1 a2 a3 a4)):=by kernel_rfl
theorem z1jd(a:ByteArray)(b:Zt13)(c:Zt26)(d:Zt19)(e:Zt6):z115 R kk K .ret (zg4 a b c d e)=
 z116 a b c d e (fun a0 a1=>K [.dat y5 a0 [[1]],.dat (.pair (.int .i64) (.pair (.int .i64) .unit)) a1 []] none):=by kernel_rfl
theorem z1je(a:ByteArray)(b:Zt13)(c:Zt26)(d:Zt19)(e:Zt6):z115 R kk K (.exit 0) (zg5 a b c d e)=
 zmn a b c d e (zmj R kk kk (z1eq R kk K)):=by kernel_rfl
theorem z1w2(a:ByteArray)(b:Zt13)(c:Int)(d:Zt26)(e:Zt19)(f:Zt6):zmj R kk (k+1) J a b c d e f=
 zc1 a b c d e f (zmj R kk k J) (fun a0 a1 a2 a3=>J (.exit 2) (zg6 a0 a1 a2 a3)):=by kernel_rfl
theorem z1jf(a:ByteArray)(b:Zt13)(c:Zt19)(d:Zt6):z1eq R kk K (.exit 2) (zg6 a b c d)=
 zmo a b c d (zmk R kk kk (z1er R kk K)):=by kernel_rfl
theorem z1w3(a:Zt13)(b:Int)(c:Zt19)(d:Zt6)(e:Zt19):zmk R kk (k+1) J a b c d e=
 zc2 a b c d e (zml R kk kk (z1es R kk k J)) (fun a0 a1 a2=>J (.exit 4) (zg7 a0 a1 a2)):=by kernel_rfl
theorem z1jg(a:Zt19)(b:Zt6)(c:Zt19):z1er R kk K (.exit 4) (zg7 a b c)=
 z117 a b c (fun a0 a1=>K [.dat y5 a0 [[1]],.dat (.pair (.int .i64) (.pair (.int .i64) .unit)) a1 []] none):=by kernel_rfl
theorem z1w4(a:Zt13)(b c:Int)(d:Zt19)(e:Zt6)(f:Zt19):zml R kk (k+1) J a b c d e f=
 zc3 a b c d e f (zml R kk k J) (fun a0 a1 a2 a3 a4=>J (.exit 6) (zg8 a0 a1 a2 a3 a4)):=by kernel_rfl
theorem z1jh(a:Zt13)(b:Int)(c:Zt19)(d:Zt6)(e:Zt19):z1es R kk k J (.exit 6) (zg8 a b c d e)=
 zmp a b c d e (zmk R kk k J):=by kernel_rfl
theorem z1qp{kk:Nat}(hF:kk=FUEL)(t12:ByteArray)(t14:Zt13)(t15:Int)(bt4:Zt26)(bt6:Zt20)(bt7 bt8:Zt19)(bt9:Zt6)(bt10:Zt19):zmi R kk k J t12 t14 t15 bt4 bt6 bt7 bt8 bt9 bt10=(z4z k t12 t14 t15 bt4 bt6 bt7 bt8 bt9 bt10).bind fun e=>(Sum.elim (fun(we:Zt29)=>J .ret (zg4 we.1 we.2.1 we.2.2.1 we.2.2.2.1 we.2.2.2.2)) (fun(we:Zt29)=>J (.exit 0) (zg5 we.1 we.2.1 we.2.2.1 we.2.2.2.1 we.2.2.2.2)) e):=by
 induction k generalizing t12 t14 t15 bt4 bt6 bt7 bt8 bt9 bt10 with
 |zero=>rfl
 |succ k ih=>
  rw[z1w1]
  simp only[z4z,zc0,ih,nn_]
theorem z1qq{kk:Nat}(hF:kk=FUEL)(t12:ByteArray)(t14:Zt13)(t19:Int)(bt4:Zt26)(bt8:Zt19)(bt9:Zt6):zmj R kk k J t12 t14 t19 bt4 bt8 bt9=(z50 k t12 t14 t19 bt4 bt8 bt9).bind fun e=>J (.exit 2) (zg6 e.1 e.2.1 e.2.2.1 e.2.2.2):=by
 induction k generalizing t12 t14 t19 bt4 bt8 bt9 with
 |zero=>rfl
 |succ k ih=>
  rw[z1w2]
  simp only[z50,zc1,ih,nn_]
theorem z1qs{kk:Nat}(hF:kk=FUEL)(t14:Zt13)(t21 t22:Int)(bt8:Zt19)(bt9:Zt6)(bt20:Zt19):zml R kk k J t14 t21 t22 bt8 bt9 bt20=(z4a k t14 t21 t22 bt8 bt9 bt20).bind fun e=>J (.exit 6) (zg8 e.1 e.2.1 e.2.2.1 e.2.2.2.1 e.2.2.2.2):=by
 induction k generalizing t14 t21 t22 bt8 bt9 bt20 with
 |zero=>rfl
 |succ k ih=>
  rw[z1w4]
  simp only[z4a,zc3,ih,nn_]
theorem z1qr{kk:Nat}(hF:kk=FUEL)(t14:Zt13)(t21:Int)(bt8:Zt19)(bt9:Zt6)(bt20:Zt19):zmk R kk k J t14 t21 bt8 bt9 bt20=(z73 k t14 t21 bt8 bt9 bt20).bind fun e=>J (.exit 4) (zg7 e.1 e.2.1 e.2.2):=by
 induction k generalizing t14 t21 bt8 bt9 bt20 with
 |zero=>rfl
 |succ k ih=>
  rw[z1w3]
  simp only[z73,zc2,zmp,ih,z1qs (hF:=hF),z1jh,nn_,←hF]
def Tb184:Funs:=Tb183.add 43 [y16,y15,y15,y5] (pu4 y16 y15 y15 y5 Q139 (fun _ r K=>K [.dat y5 r.1 [[1]],.dat (.pair (.int .i64) (.pair (.int .i64) .unit)) r.2 []] none))
theorem o184:Okt Tryz.prog Tb184:=st4 z3m Tryz.f43 (fun R kk x0 x1 x2 x3 K=>zmm x0 x1 x2 x3 (fun a0 a1=>K [.dat y5 a0 [[1]],.dat (.pair (.int .i64) (.pair (.int .i64) .unit)) a1 []] none) (zmi R kk kk (z115 R kk K))) o183 (ek _ _ _ _) Tryz.func43 (by kernel_rfl) rfl (fun _ _ _ _ _ _ h=>h _ _) (fun _ _ _ _ _ _ _=>by kernel_rfl) fun R kk e x0 x1 x2 x3 K=>by
 simp only[Q139,zmm,z116,zmn,zmo,z117,z1qp (hF:=e),z1qq (hF:=e),z1qr (hF:=e),z1jd,z1je,z1jf,z1jg,nn_,←e]
def z205:Env:=e0 [y19,(.int .i64),.str]
def Tb185:Funs:=Tb184.add 16 [y19,(.int .i64),.str] (pu3 y19 (.int .i64) .str Q156 (fun _ r K=>K [tI r.1,tS r.2] none))
theorem o185:Okt Tryz.prog Tb185:=st3 z205 Tryz.f16 (fun R kk x0 x1 x2 K=>znc x0 x1 x2 (fun a0 a1=>K [tI a0,tS a1] none)) o184 (ek _ _ _ _) Tryz.func16 (by kernel_rfl) rfl (fun _ _ _ _ _ _ h=>h _ _) (fun _ _ _ _ _ _=>by kernel_rfl) fun R kk e x0 x1 x2 K=>by
 simp only[Q156,znc,nn_]
def Q58_E:Env:=e0 [y19,(.int .i64),.str]
def Tb186:Funs:=Tb185.add 4 [y19,(.int .i64),.str] (pu3 y19 (.int .i64) .str Q58 (fun _ r K=>K [tB r] none))
theorem o186:Okt Tryz.prog Tb186:=st3 Q58_E Tryz.f4 (fun R kk x0 x1 x2 K=>zw8 x0 x1 x2 (fun a0=>K [tB a0] none)) o185 (ek _ _ _ _) Tryz.func4 (by kernel_rfl) rfl (fun _ _ _ _ _ _ h=>h _ _) (fun _ _ _ _ _ _=>by kernel_rfl) fun R kk e x0 x1 x2 K=>by
 simp only[Q58,zw8,nn_]
end
end Go.Proofs.YtkgpjibbdpikcaaGreatDoor

