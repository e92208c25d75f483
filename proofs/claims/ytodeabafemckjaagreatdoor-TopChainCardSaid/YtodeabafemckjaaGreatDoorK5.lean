/- No condition. -/
import Derived.Test.YtodeabafemckjaaGreatDoorK4
import Derived.Test.YtodeabafemckjaaGreatDoorProg
set_option linter.unusedVariables false
set_option linter.unusedSimpArgs false
set_option maxRecDepth 100000
open Go.Proofs.Builder renaming Extra->gM
open Go.Proofs.Tryz renaming prog->aq,prog->eG,underlying129->fy,underlying131->fA,underlying92->fI,zeroValue129->fJ,zeroValue131->fK,underlying0->fU,underlying3->fV,underlying9->fX,zeroValue92->fY,underlying5->fW,f5->dN,zeroValue0->gl,zeroValue3->gm,zeroValue9->gu,zeroValue5->gn,sizeOf129->gE,sizeOf131->gF,sizeOf92->gP,isAgg129->gN,isAgg131->gO,sizeOf0->ia,sizeOf3->ib,sizeOf9->ig,isAgg92->hN,sizeOf5->ic,isAgg0->ix,isAgg3->iy,isAgg9->iB,isAgg5->iz,underlying133->iK,underlying240->iM,underlying194->iL,underlying20->iZ,zeroValue133->ja,zeroValue240->jc,zeroValue194->jb,underlying4->jq,zeroValue20->jr,f83->gR,zeroValue4->jx,sizeOf133->jK,sizeOf240->jM,sizeOf194->jL,sizeOf20->j9,isAgg133->j6,isAgg240->j8,isAgg194->j7,sizeOf4->ku,isAgg20->kr,isAgg4->kN,f124->jP,f82->kL,f74->kK
open Go.Shelf renaming Ren->mm
open Nat renaming beq->ak
open Sum renaming elim->aI
namespace Go.Proofs.YtodeabafemckjaaGreatDoor
noncomputable section
open Go Go.Ref eD
abbrev y0:Go.Ref.Ty:=(.int .u8)
abbrev y1:Go.Ref.Ty:=(.int .i64)
abbrev y2:Go.Ref.Ty:=(.int .u64)
abbrev y3:Go.Ref.Ty:=(.sl 9 .str)
abbrev y4:Go.Ref.Ty:=(.pair .str .unit)
abbrev y5:Go.Ref.Ty:=(.sl 5 y0)
abbrev y6:Go.Ref.Ty:=(.sl 3 y1)
abbrev y7:Go.Ref.Ty:=(.arr 8 y0)
abbrev y8:Go.Ref.Ty:=(.sl 41 y1)
abbrev y9:Go.Ref.Ty:=(.dJ .mp .str .bool)
abbrev U9:Go.Ref.Ty:=(.pair y0 .unit)
abbrev Va:Go.Ref.Ty:=(.dJ .iter .unit .unit)
abbrev Vb:Go.Ref.Ty:=(.pair y1 .unit)
abbrev y13:Go.Ref.Ty:=(.pair y2 .unit)
abbrev Vc:Go.Ref.Ty:=(.sl 29 y6)
abbrev K4:Go.Ref.Ty:=(.pair .str y4)
abbrev Fc:Go.Ref.Ty:=(.dJ (.sd 131 5) .unit .unit)
abbrev y17:Go.Ref.Ty:=(.pair y5 .unit)
abbrev oe:Go.Ref.Ty:=(.pair y1 y4)
abbrev y19:Go.Ref.Ty:=(.pair .str Vb)
abbrev oO:Go.Ref.Ty:=(.sl 164 K4)
abbrev mz:Go.Ref.Ty:=(.pair y1 Vb)
abbrev lu:Go.Ref.Ty:=(.pair y2 y13)
abbrev y23:Go.Ref.Ty:=(.pair .bool y17)
abbrev AW:Go.Ref.Ty:=(.sl 80 oe)
abbrev wX:Go.Ref.Ty:=(.sl 162 oe)
abbrev y26:Go.Ref.Ty:=(.pair (.arr 2 .bool) Vb)
abbrev Fe:Go.Ref.Ty:=(.sl 271 oe)
abbrev y28:Go.Ref.Ty:=(.pair oO .unit)
abbrev y29:Go.Ref.Ty:=(.pair y1 (.pair .bool U9))
abbrev y30:Go.Ref.Ty:=(.pair y1 y19)
abbrev y31:Go.Ref.Ty:=(.pair AW .unit)
abbrev y32:Go.Ref.Ty:=(.pair wX .unit)
abbrev y33:Go.Ref.Ty:=(.dJ (.CX 181) oe .unit)
abbrev y34:Go.Ref.Ty:=(.pair y1 mz)
abbrev sr:Go.Ref.Ty:=(.pair y1 y23)
abbrev y36:Go.Ref.Ty:=(.pair .str y28)
abbrev gU:Go.Ref.Ty:=(.pair .str y31)
abbrev y38:Go.Ref.Ty:=(.pair (.arr 2 y1) y26)
abbrev y39:Go.Ref.Ty:=(.pair y1 y29)
abbrev OU:Go.Ref.Ty:=(.pair y1 y30)
abbrev y41:Go.Ref.Ty:=(.pair y1 y34)
abbrev Hg:Go.Ref.Ty:=(.sl 51 OU)
abbrev y43:Go.Ref.Ty:=(.pair y1 y36)
abbrev y44:Go.Ref.Ty:=(.pair y6 y32)
abbrev y45:Go.Ref.Ty:=(.pair (.arr 2 .str) y38)
abbrev l6:Go.Ref.Ty:=(.pair y1 y41)
abbrev y47:Go.Ref.Ty:=(.pair y1 y43)
abbrev Vd:Go.Ref.Ty:=(.sl 127 l6)
abbrev sH:Go.Ref.Ty:=(.pair y1 y47)
abbrev y50:Go.Ref.Ty:=(.pair Vd .unit)
abbrev wY:Go.Ref.Ty:=(.sl 158 sH)
abbrev y52:Go.Ref.Ty:=(.pair y1 y50)
abbrev y53:Go.Ref.Ty:=(.pair wY .unit)
abbrev gk:Go.Ref.Ty:=(.pair y1 y52)
abbrev y55:Go.Ref.Ty:=(.sl 24 gk)
abbrev nx:Go.Ref.Ty:=(.pair oO y53)
abbrev y57:Go.Ref.Ty:=(.pair nx y44)
abbrev mf:Go.Ref.Ty:=(.pair gk y57)
abbrev y59:Go.Ref.Ty:=(.arr 2 mf)
abbrev pH:Go.Ref.Ty:=(.pair y59 Vb)
abbrev mF:Go.Ref.Ty:=(.dJ .lh pH sr)
def K1:List (ae Ty):=[none,none,some y1,some y1,some .bool,some y0,some y0,some y39,some y39,some .str,some .str,some .str,some y2,none,none,none,none,none,none,none,none,some (.int .i32),some Vd,some gk,some gk,some oO,some wY,some nx,some nx,some y6,some wX,some mf,some mf,some y59,some pH,some pH,some y3,none,none,none,some Hg,some y1,none,none,none,none,none,none,some oe,some oe,some OU,some OU,none,none,some (.arr 2 .str),none,none,none,none,none,none,none,none,none,none,some y2,some (.sl 49 oe),none,none,none,none,none,none,none,none,some mz,some mz,none,none,some oe,some oe,some AW,some gU,some gU,none,none,none,none,none,none,none,none,some y5,none,none,none,none,none,none,none,none,none,none,none,none,none,none,some y2,some lu,some lu,none,none,none,some (.arr 2 y1),some (.arr 2 .bool),some y45,some y45,none,none,none,none,none,none,none,some Vc,none,some l6,some l6,none,none,none,none,none,none,none,none,none,none,none,none,none,none,none,none,none,none,none,none,none,none,none,none,none,none,none,none,none,some sH,some sH,none,none,some oe,some oe,some K4,some K4,none,none,none,none,none,some sr,some sr,none,none,none,none,none,none,none,none,none,none,none,none,none,none,none,none,none,some y7,none,none,none,none,none,none,none,none,none,none,none,none,none,none,none,none,none,none,none,none,none,none,none,none,none,none,none,none,none,none,none,none,none,none,none,some y55,none,none,none,none,none,some y8,none,none,none,none,none,some Fe,none,none,none,none,none,none,none,none,none,none,none,none,none,none,none,none,none,none,none,none,none,none,none,none,none,none,none,none,some (.arr 5 .str),none,none,none,some oe,some oe,none,none,none,none,none,none,none,none,none,none,none,none,none,none,none,none,none,none,none,none,none,none,none,none,none,none,none,none,none,some (.arr 256 .bool),some (.arr 256 .bool),none,none,none,none,none,none,none,none,none,none,none,none,some (.arr 24 y0),none,none,none,some (.int .u32),none,none,none,none,none,none,none,none,some (.arr 20 y2),some (.arr 65 y0),none,none,none,none,some (.arr 256 y0),some (.pair y0 U9),some (.pair y0 U9),some (.arr 16 (.pair y0 U9)),none,some (.arr 32 y0),some (.arr 64 y0),none,none,none,none,none,some y0,some y0,none,some (.int .i32),some (.int .i32),none,none]
def bts:List Nat:=[0,8,8,8,1,1,1,24,24,16,16,16,8,24,24,8,8,8,8,8,16,4,24,40,40,24,24,48,48,24,24,136,136,272,280,280,24,8,8,8,24,8,0,8,8,0,8,8,24,24,40,40,8,8,32,8,8,8,8,8,8,0,8,8,8,8,24,8,8,0,8,8,8,8,8,16,16,0,8,24,24,24,40,40,0,8,0,8,8,8,0,8,24,0,8,8,16,304,304,8,0,8,0,8,8,8,8,8,16,16,8,8,8,16,2,64,64,8,8,0,8,8,8,8,24,8,40,40,8,8,32,32,16,16,0,8,8,8,8,8,0,8,8,8,0,8,0,8,0,8,8,0,8,8,8,8,8,64,64,8,8,24,24,32,32,8,8,8,8,8,40,40,8,8,8,8,8,8,8,0,8,8,0,8,8,8,8,0,8,8,8,8,8,8,8,8,0,8,0,8,8,8,8,0,8,8,8,8,8,8,0,8,0,8,8,8,8,8,8,8,8,8,8,8,8,24,8,8,8,8,8,24,0,8,0,8,8,24,0,8,8,8,8,8,8,8,8,8,8,0,8,8,0,8,8,8,8,8,8,0,8,8,8,8,8,8,80,8,8,8,24,24,8,8,8,8,8,8,8,8,0,8,0,8,8,8,8,0,8,8,8,8,0,8,8,8,0,8,8,8,8,256,256,0,8,8,8,8,0,8,8,8,8,8,8,24,8,0,8,4,0,8,8,0,8,8,8,8,160,65,8,8,8,8,256,2,2,32,8,32,64,40,40,0,0,0,1,1,8,4,4,48,48]
def G9:List Bool:=[false,false,false,false,false,false,false,false,false,false,false,false,false,false,false,true,true,true,false,false,false,false,false,false,false,false,false,false,false,false,false,false,false,false,false,false,false,false,false,false,false,false,false,false,true,false,false,false,false,false,false,false,false,false,false,false,false,false,false,false,false,false,false,false,false,false,false,false,false,false,false,false,false,false,false,false,false,false,false,false,false,false,false,false,false,false,false,false,false,false,false,false,false,false,false,true,false,false,false,false,false,false,false,false,false,false,false,false,false,false,false,false,true,false,false,false,false,false,false,false,false,false,false,false,false,false,false,false,false,true,false,false,false,false,false,false,false,false,false,false,false,false,false,false,false,false,false,false,false,false,false,false,false,false,false,false,false,false,false,false,false,false,false,false,false,false,false,false,false,false,false,false,false,false,false,false,false,false,false,false,false,false,false,false,false,false,false,false,false,false,false,false,false,false,true,false,false,false,false,false,false,false,false,false,false,false,false,false,false,false,false,false,false,false,false,false,false,false,false,false,false,false,false,false,false,false,false,false,false,false,false,false,false,false,false,false,false,false,false,false,false,false,false,false,false,false,false,false,false,false,false,false,false,false,false,false,false,false,false,false,false,false,false,false,false,false,false,false,false,false,false,false,false,false,false,false,false,false,false,false,false,false,false,false,false,false,false,false,false,false,false,false,false,false,false,false,false,false,false,false,false,false,false,false,false,false,true,false,false,false,false,false,false,false,false,false,false,false,false,false,false,false,false,false,false,false,false,false,false,false,false,false,false,false,false,false,false,false,false,false,false,false,false,false,false,false,false,false,false,false,false,false,false]
def UZ:List (TypeId×TypeId×TypeId):=[(226,9,4),(268,3,4)]
def kl:zO:=⟨K1,bts,G9,UZ⟩
theorem JI:kl.ok aq=true:=by kernel_rfl
theorem ei{a b c d}:bO aq (kl.env a b c d):=zO.xA JI a b c d
abbrev e0(ps:List Ty):Env:=kl.env (λ_=>[]) (λ_=>[]) [] ps
abbrev uS(n:Nat)(l:List (List SV)):List (List SV):=Nat.rec (motive:=λ_=>List (List SV)) l (λ_ r=>[.undef]::r) n
abbrev nS(n:Nat)(l:List (ae fp)):List (ae fp):=Nat.rec (motive:=λ_=>List (ae fp)) l (λ_ r=>none::r) n
abbrev gt:oK:=[]
def Tb0:bH:=bH.none
theorem o0:dV aq gt Tb0:= .none (by kernel_rfl)
def EQ:og (Bool×eQ):=λ_ r K=>K [tB r.1] (some ⟨oe,r.2,[]⟩)
def pN:og sc:=λ_ r K=>K [tS r.1,tB r.2] none
def Al:og KI:=λ_ r K=>K [tS r.1,tI r.2.1,tI r.2.2] none
def wy:og Ni:=λ_ r K=>K [tS r.1,tI r.2] none
def Am:og (Int×Bool):=λ_ r K=>K [tI r.1,tB r.2] none
def ER:og Zt3:=λ_ r K=>K [tI r.1,tS r.2] none
def An:og bC:=λ_ r K=>K [.bY gk r [[2]]] none
def ES:og dm:=λ_ r K=>K [.bY sH r [[4]]] none
def sf:og sC:=λ_ r K=>K [tI r.1,tI r.2.1,tI r.2.2] none
def pO:og dQ:=λ_ r K=>K [.bY lu r []] none
def ET:og (Int×Int):=λ_ r K=>K [tI r.1,tI r.2] none
def Ao:og dD:=λ_ r K=>K [.bY oO r []] none
def EU:og cN:=λ_ r K=>K [.bY wX r [[]]] none
def EV:og fO:=λ_ r K=>K [.bY wY r [[]]] none
def EW:og (List Int):=λ_ r K=>K [.bY y6 r [[]]] none
def jw:og Bool:=λ_ r K=>K [tB r] none
def qS:og af:=λ_ r K=>K [tS r] none
def ki:og Int:=λ_ r K=>K [tI r] none
variable (R:Type) (kk k:Nat) (K:KF R) (J:KX R)
def TW:Env:=e0 []
def Ux:bH:=Tb0.add 57 [] (xP HL (λ_ r K=>K [.bY Vc r [[]]] none))
theorem o1:dV aq gt Ux:=yP TW (λR kk K=>zt1 (λa0=>K [.bY Vc a0 [[]]] none)) o0 ei Tryz.func57 (λR kk e K=>by simp only[HL,zt1,dq])
def YH:Env:=kl.env (kp [(4,[0,2,3,4,5])]) (kp [(4,[2,3])]) [2] [y1]
def V3(a:Int)(b:H3)(c:Int)(d e:bC):ae R:=lq YH Ux kk Tryz.f29 244 k J ⟨iA a::uS 1 (pA 3 gk::pA 4 gk::dB Vc b::iA c::uS 52 []),nS 3 ((some ⟨gk,d,[[2]]⟩)::(some ⟨gk,e,[[2]]⟩)::nS 54 [])⟩
def zdm(a b:bC):State:=⟨uS 2 (pA 3 gk::pA 4 gk::uS 54 []),nS 3 ((some ⟨gk,a,[[2]]⟩)::(some ⟨gk,b,[[2]]⟩)::nS 54 [])⟩
def z160:KX R:=(zn 0 (sk YH Ux kk Tryz.f29 31 (fk YH Tryz.f29 none K)))
theorem aj6 a b c d e:V3 R kk (k+1) J a b c d e=
 zsz a b c d e (V3 R kk k J) (λa0 a1=>J (.exit 0) (zdm a0 a1)):=by kernel_rfl
theorem ad1 a b:z160 R kk K (.exit 0) (zdm a b)=
 zt0 a b (λa0=>K [.bY gk a0 [[2]]] none):=by kernel_rfl
theorem ahd{kk:Nat}(hF:kk=bG) a b c d f:V3 R kk k J a b c d f=(V4 k a b c d f).bind λe=>J (.exit 0) (zdm e.1 e.2):=by
 induction k generalizing a b c d f with
 |zero=>rfl
 |succ k ih=>rw[aj6];simp only[V4,zsz,ih,dq]
def Tb2:bH:=Ux.add 29 [y1] (mJ y1 Be An)
theorem o2:dV aq gt Tb2:=mS YH (λR kk x0 K=>zsy x0 (V3 R kk kk (z160 R kk K))) o1 ei Tryz.func29 (λR kk e x0 K=>by simp only[An,Be,zsy,zt0,ahd (hF:=e),ad1,dq,<-e])
def oT:Env:=e0 [y1]
def Tb3:bH:=Tb2.add 193 [y1] (mJ y1 FG ki)
theorem o3:dV aq gt Tb3:=mS oT (λR kk x0 K=>Y1 x0 (λa0=>K [tI a0] none)) o2 ei Tryz.func193 (λR kk e x0 K=>by simp only[ki,FG,Y1,dq])
def Tb4:bH:=Tb3.add 159 [y1] (mJ y1 HW jw)
theorem o4:dV aq gt Tb4:=mS oT (λR kk x0 K=>YS x0 (λa0=>K [tB a0] none)) o3 ei Tryz.func159 (λR kk e x0 K=>by simp only[jw,HW,YS,dq])
def Uy:bH:=Tb4.add 158 [y1] (mJ y1 sO ki)
theorem o5:dV aq gt Uy:=mS oT (λR kk x0 K=>Tq x0 (λa0=>K [tI a0] none)) o4 ei Tryz.func158 (λR kk e x0 K=>by simp only[ki,sO,Tq,dq])
def Y2:Env:=kl.env (kp [(3,[3,5,6])]) (kp [(3,[3])]) [] [y1]
def WV(a b c:Int):ae R:=lq Y2 Uy kk Tryz.f160 116 k J ⟨uS 3 (iA a::uS 1 (iA b::iA c::uS 6 [])),nS 14 []⟩
def zee(a:Int):State:=⟨uS 3 (iA a::uS 9 []),nS 14 []⟩
def z171:KX R:=(zn 0 (sk Y2 Uy kk Tryz.f160 15 (fk Y2 Tryz.f160 none K)))
theorem akJ a b c:WV R kk (k+1) J a b c=
 zul a b c (WV R kk k J) (λa0=>J (.exit 0) (zee a0)):=by kernel_rfl
theorem aeq a:z171 R kk K (.exit 0) (zee a)=
 zum a (λa0=>K [tI a0] none):=by kernel_rfl
theorem ahB{kk:Nat}(hF:kk=bG) a b c:WV R kk k J a b c=(WW k a b c).bind λe=>J (.exit 0) (zee e):=by
 induction k generalizing a b c with
 |zero=>rfl
 |succ k ih=>rw[akJ];simp only[WW,zul,ih,dq]
def Tb6:bH:=Uy.add 160 [y1] (mJ y1 zG ki)
theorem o6:dV aq gt Tb6:=mS Y2 (λR kk x0 K=>zuk x0 (WV R kk kk (z171 R kk K))) o5 ei Tryz.func160 (λR kk e x0 K=>by simp only[ki,zG,zuk,zum,ahB (hF:=e),aeq,dq,<-e])
def RG:Env:=e0 [l6]
def Uz:bH:=Tb6.add 112 [l6] (mJ l6 uK ki)
theorem o7:dV aq gt Uz:=mS RG (λR kk x0 K=>XH x0 (λa0=>K [tI a0] none)) o6 ei Tryz.func112 (λR kk e x0 K=>by simp only[ki,uK,XH,dq])
def Zf:Env:=kl.env (kp [(6,[1,26,27,28])]) (kp [(6,[2,3])]) [] [gk]
def Xu(a:sR)(b c:Int)(d:bC):ae R:=lq Zf Uz kk Tryz.f67 116 k J ⟨uS 1 (pA 2 gk::uS 24 (dA Vd a::iA b::iA c::uS 26 [])),nS 2 (oA gk d::nS 53 [])⟩
def zew(a b:Int):State:=⟨uS 2 (iA a::iA b::uS 51 []),nS 56 []⟩
def zex:State:=⟨uS 55 [],nS 56 []⟩
def zvi:KX R:=(zn 1 (sk Zf Uz kk Tryz.f67 15 (fk Zf Tryz.f67 none K)))
theorem akW a b c d:Xu R kk (k+1) J a b c d=
 Tw a b c d (λa0 a1=>J .ret (zew a0 a1)) (Xu R kk k J) (J (.exit 1) (zex)):=by kernel_rfl
theorem aeG a b:zvi R kk K .ret (zew a b)=
 Xv a b (λa0 a1=>K [tI a0,tI a1] none):=by kernel_rfl
theorem aeH:zvi R kk K (.exit 1) (zex)=
 Xw (λa0 a1=>K [tI a0,tI a1] none):=by kernel_rfl
theorem ahQ{kk:Nat}(hF:kk=bG) a b c d:Xu R kk k J a b c d=(Hx k a b c d).bind λe=>(aI (λ(we:(Int×Int))=>J .ret (zew we.1 we.2)) (λ(we:Unit)=>J (.exit 1) (zex)) e):=by
 induction k generalizing a b c d with
 |zero=>rfl
 |succ k ih=>rw[akW];simp only[Hx,Tw,ih,dq]
def UA:bH:=Uz.add 67 [gk] (mJ gk vG ET)
theorem o8:dV aq gt UA:=mS Zf (λR kk x0 K=>Lp x0 (λa0 a1=>K [tI a0,tI a1] none) (λa0 a1 a2 a3=>Xu R kk kk (zvi R kk K) a0 a1 a2 a3)) o7 ei Tryz.func67 (λR kk e x0 K=>by simp only[ET,vG,z117,Xv,Xw,ahQ (hF:=e),aeG,aeH,dq,<-e])
def ya:Env:=kl.env (kp [(2,[6])]) (kp [(2,[2])]) [] [.str]
def Zp(a:zQ):ae R:=lq ya UA kk Tryz.f154 52 k J ⟨uS 6 (pA 7 Va::uS 9 []),nS 7 (oA Va a::nS 9 [])⟩
def znd(a:Bool):State:=⟨uS 2 (bA a::uS 13 []),nS 17 []⟩
def zne:State:=⟨uS 16 [],nS 17 []⟩
def Jj:KX R:=(zn 0 (sk ya UA kk Tryz.f154 7 (fk ya Tryz.f154 none K)))
theorem amD a:Zp R kk (k+1) J a=
 Zr a (λa0=>J .ret (znd a0)) (Zp R kk k J) (J (.exit 0) (zne)):=by kernel_rfl
theorem ah7 a:Jj R kk K .ret (znd a)=
 Jk a (λa0=>K [tB a0] none):=by kernel_rfl
theorem ah8:Jj R kk K (.exit 0) (zne)=
 Jl (λa0=>K [tB a0] none):=by kernel_rfl
theorem ald{kk:Nat}(hF:kk=bG) a:Zp R kk k J a=(LG k a).bind λe=>(aI (λ(we:Bool)=>J .ret (znd we)) (λ(we:Unit)=>J (.exit 0) (zne)) e):=by
 induction k generalizing a with
 |zero=>rfl
 |succ k ih=>rw[amD];simp only[LG,Zr,ih,dq]
def Tb9:bH:=UA.add 154 [.str] (mJ .str FI jw)
theorem o9:dV aq gt Tb9:=mS ya (λR kk x0 K=>Zq x0 (Zp R kk kk (Jj R kk K))) o8 ei Tryz.func154 (λR kk e x0 K=>by simp only[jw,FI,Zq,Jk,Jl,ald (hF:=e),ah7,ah8,dq,<-e])
def LF:Env:=e0 [.str]
def Ml:bH:=Tb9.add 102 [.str] (mJ .str xj jw)
theorem o10:dV aq gt Ml:=mS LF (λR kk x0 K=>WS x0 (λa0=>K [tB a0] none)) o9 ei Tryz.func102 (λR kk e x0 K=>by simp only[jw,xj,WS,dq])
def DN:bH:=Ml.add 99 [.str] (mJ .str rY Am)
theorem o11:dV aq gt DN:=mS LF (λR kk x0 K=>WT x0 (λa0 a1=>K [tI a0,tB a1] none)) o10 ei Tryz.func99 (λR kk e x0 K=>by simp only[Am,rY,WT,dq])
def Zg:Env:=kl.env (kp [(2,[1,4,9,10,11])]) (kp [(2,[4,5])]) [4] [gk,y1]
def Xx(a:Int)(b:sR)(c d:Int)(e:dR):ae R:=lq Zg DN kk Tryz.f64 52 k J ⟨uS 1 (iA a::uS 2 (pA 5 l6::uS 4 (dA Vd b::iA c::iA d::uS 10 []))),nS 5 (oA l6 e::nS 17 [])⟩
def zey(a:Bool)(b:dR):State:=⟨uS 4 (pA 5 l6::bA a::uS 16 []),nS 5 (oA l6 b::nS 17 [])⟩
def zez(a:dR):State:=⟨uS 4 (pA 5 l6::uS 17 []),nS 5 (oA l6 a::nS 17 [])⟩
def zvj:KX R:=(zn 0 (sk Zg DN kk Tryz.f64 7 (fk Zg Tryz.f64 none K)))
theorem akX a b c d e:Xx R kk (k+1) J a b c d e=
 zvk a b c d e (λa0 a1=>J .ret (zey a0 a1)) (Xx R kk k J) (λa0=>J (.exit 0) (zez a0)):=by kernel_rfl
theorem aeI a b:zvj R kk K .ret (zey a b)=
 zvl a b (λa0 a1=>K [.bY l6 a0 [],tB a1] none):=by kernel_rfl
theorem aeJ a:zvj R kk K (.exit 0) (zez a)=
 zvm a (λa0 a1=>K [.bY l6 a0 [],tB a1] none):=by kernel_rfl
theorem ahR{kk:Nat}(hF:kk=bG) a b c d f:Xx R kk k J a b c d f=(Tx k a b c d f).bind λe=>(aI (λ(we:(Bool×dR))=>J .ret (zey we.1 we.2)) (λ(we:dR)=>J (.exit 0) (zez we)) e):=by
 induction k generalizing a b c d f with
 |zero=>rfl
 |succ k ih=>rw[akX];simp only[Tx,zvk,ih,dq]
def Mm:bH:=DN.add 64 [gk,y1] (oc gk y1 oU (λ_ r K=>K [.bY l6 r.1 [],tB r.2] none))
theorem o12:dV aq gt Mm:=oh Zg (λR kk x0 x1 K=>Xy x0 x1 (Xx R kk kk (zvj R kk K))) o11 ei Tryz.func64 (λR kk e x0 x1 K=>by simp only[oU,Xy,zvl,zvm,ahR (hF:=e),aeI,aeJ,dq,<-e])
def FF:Env:=e0 [y0]
def DO:bH:=Mm.add 194 [y0] (mJ y0 HX ki)
theorem o13:dV aq gt DO:=mS FF (λR kk x0 K=>I5 x0 (λa0=>K [tI a0] none)) o12 ei Tryz.func194 (λR kk e x0 K=>by simp only[ki,HX,I5,dq])
def x5:Env:=kl.env (kp [(3,[1,5,6])]) (kp [(3,[4])]) [] [y1,.str]
def YQ(a:af)(b c:Int):ae R:=lq x5 DO kk Tryz.f151 116 k J ⟨uS 1 (sA a::uS 3 (iA b::iA c::uS 16 [])),nS 24 []⟩
def zn5(a:Int):State:=⟨uS 4 (iA a::uS 18 []),nS 24 []⟩
def zn6:State:=⟨uS 23 [],nS 24 []⟩
def I2:KX R:=(zn 0 (sk x5 DO kk Tryz.f151 15 (fk x5 Tryz.f151 none K)))
theorem amc a b c:YQ R kk (k+1) J a b c=
 TY a b c (λa0=>J .ret (zn5 a0)) (YQ R kk k J) (J (.exit 0) (zn6)):=by kernel_rfl
theorem aho a:I2 R kk K .ret (zn5 a)=
 I3 a (λa0=>K [tI a0] none):=by kernel_rfl
theorem ahp:I2 R kk K (.exit 0) (zn6)=
 I4 (λa0=>K [tI a0] none):=by kernel_rfl
theorem akw{kk:Nat}(hF:kk=bG) a b c:YQ R kk k J a b c=(Km k a b c).bind λe=>(aI (λ(we:Int)=>J .ret (zn5 we)) (λ(we:Unit)=>J (.exit 0) (zn6)) e):=by
 induction k generalizing a b c with
 |zero=>rfl
 |succ k ih=>rw[amc];simp only[Km,TY,ih,dq]
def Mn:bH:=DO.add 151 [y1,.str] (oc y1 .str LY ki)
theorem o14:dV aq gt Mn:=oh x5 (λR kk x0 x1 K=>YR x0 x1 (YQ R kk kk (I2 R kk K))) o13 ei Tryz.func151 (λR kk e x0 x1 K=>by simp only[ki,LY,YR,I3,I4,akw (hF:=e),aho,ahp,dq,<-e])
def Mo:bH:=Mn.add 224 [y1] (mJ y1 xp jw)
theorem o15:dV aq gt Mo:=mS oT (λR kk x0 K=>zw2 x0 (λa0=>K [tB a0] none)) o14 ei Tryz.func224 (λR kk e x0 K=>by simp only[jw,xp,zw2,dq])
def Mp:bH:=Mo.add 225 [y1] (mJ y1 BL jw)
theorem o16:dV aq gt Mp:=mS oT (λR kk x0 K=>XZ x0 (λa0=>K [tB a0] none)) o15 ei Tryz.func225 (λR kk e x0 K=>by simp only[jw,BL,XZ,dq])
def RH:Env:=e0 [.str,y1]
def Mq:bH:=Mp.add 195 [.str,y1] (oc .str y1 BK sf)
theorem o17:dV aq gt Mq:=oh RH (λR kk x0 x1 K=>XY x0 x1 (λa0 a1 a2=>K [tI a0,tI a1,tI a2] none)) o16 ei Tryz.func195 (λR kk e x0 x1 K=>by simp only[sf,BK,XY,dq])
def DP:bH:=Mq.add 226 [y1] (mJ y1 Q4 ki)
theorem o18:dV aq gt DP:=mS oT (λR kk x0 K=>yi x0 (λa0=>K [tI a0] none)) o17 ei Tryz.func226 (λR kk e x0 K=>by simp only[ki,Q4,yi,dq])
def DJ:Env:=kl.env (kp [(14,[0,1,7,8,44,45])]) (kp [(14,[1,7,8])]) [] [.str,y1]
def yf(a:af)(b c d e f:Int):ae R:=lq DJ DP kk Tryz.f196 4084 k J ⟨sA a::iA b::uS 5 (iA c::iA d::uS 35 (iA e::iA f::uS 21 [])),nS 68 []⟩
def zwu(a b c:Int):State:=⟨uS 1 (iA a::uS 5 (iA b::iA c::uS 58 [])),nS 68 []⟩
def FN:KX R:=(zn 0 (sk DJ DP kk Tryz.f196 511 (fk DJ Tryz.f196 none K)))
theorem Mc a b c d e f:yf R kk (k+1) J a b c d e f=
 tZ a b c d e f (yf R kk k J) (λa0 a1 a2=>J (.exit 0) (zwu a0 a1 a2)):=by kernel_rfl
theorem alh a b c:FN R kk K (.exit 0) (zwu a b c)=
 ua a b c (λa0 a1 a2=>K [tI a0,tI a1,tI a2] none):=by kernel_rfl
theorem amH{kk:Nat}(hF:kk=bG) a b c d f g:yf R kk k J a b c d f g=(nW k a b c d f g).bind λe=>J (.exit 0) (zwu e.1 e.2.1 e.2.2):=by
 induction k generalizing a b c d f g with
 |zero=>rfl
 |succ k ih=>rw[Mc];simp only[nW,tZ,ih,dq]
def DQ:bH:=DP.add 196 [.str,y1] (oc .str y1 Q3 sf)
theorem o19:dV aq gt DQ:=oh DJ (λR kk x0 x1 K=>tY x0 x1 (λa0 a1 a2=>K [tI a0,tI a1,tI a2] none) (λa0 a1 a2 a3 a4 a5=>yf R kk kk (FN R kk K) a0 a1 a2 a3 a4 a5)) o18 ei Tryz.func196 (λR kk e x0 x1 K=>by simp only[sf,Q3,ac0,ua,amH (hF:=e),alh,dq,<-e])
def Zl:Env:=kl.env (kp [(4,[0,5,6,7,13])]) (kp [(4,[2,3,4,5])]) [] [.str]
def X2(a:af)(b:cN)(c:Int)(d:Nj):ae R:=lq Zl DQ kk Tryz.f152 244 k J ⟨sA a::uS 4 (dB Fe b::pA 14 (.dJ .mp y1 .bool)::iA c::uS 5 (pA 14 (.dJ .mp y1 .bool)::uS 58 [])),nS 14 (oA (.dJ .mp y1 .bool) d::nS 58 [])⟩
def zfa(a:cN)(b c:Int)(d:cN):State:=⟨uS 2 (dB Fe a::iA b::iA c::dB Fe d::uS 66 []),nS 73 []⟩
def zfb(a:cN):State:=⟨uS 5 (dB Fe a::uS 66 []),nS 73 []⟩
def zw3:KX R:=(zn 0 (sk Zl DQ kk Tryz.f152 31 (fk Zl Tryz.f152 none K)))
theorem ak4 a b c d:X2 R kk (k+1) J a b c d=
 X4 a b c d (λa0 a1 a2 a3=>J .ret (zfa a0 a1 a2 a3)) (X2 R kk k J) (λa0=>J (.exit 0) (zfb a0)):=by kernel_rfl
theorem aeU a b c d:zw3 R kk K .ret (zfa a b c d)=
 zw4 a b c d (λa0 a1 a2=>K [.bY Fe a0 [[]],tI a1,tI a2] none):=by kernel_rfl
theorem aeV a:zw3 R kk K (.exit 0) (zfb a)=
 zw5 a (λa0 a1 a2=>K [.bY Fe a0 [],tI a1,tI a2] none):=by kernel_rfl
theorem ahY{kk:Nat}(hF:kk=bG) a b c d:X2 R kk k J a b c d=(Ls k a b c d).bind λe=>(aI (λ(we:BW)=>J .ret (zfa we.1 we.2.1 we.2.2.1 we.2.2.2)) (λ(we:cN)=>J (.exit 0) (zfb we)) e):=by
 induction k generalizing a b c d with
 |zero=>rfl
 |succ k ih=>rw[ak4];simp only[Ls,X4,ih,dq]
def Mr:bH:=DQ.add 152 [.str] (mJ .str BM (λ_ r K=>(aI (λ(wr:tK)=>K [.bY Fe wr.1 [[]],tI wr.2.1,tI wr.2.2] none) (λ(wr:tK)=>K [.bY Fe wr.1 [],tI wr.2.1,tI wr.2.2] none) r)))
theorem o20:dV aq gt Mr:=mS Zl (λR kk x0 K=>X3 x0 (X2 R kk kk (zw3 R kk K))) o19 ei Tryz.func152 (λR kk e x0 K=>by simp only[BM,X3,zw4,zw5,ahY (hF:=e),aeU,aeV,dq,<-e]) (ho:=λ_ _ _ _ _ _ h=>zxl (λ_=>h _ _) (λ_=>h _ _))
def amw:Env:=e0 [l6,.str]
def DR:bH:=Mr.add 100 [l6,.str] (oc l6 .str gV ki)
theorem o21:dV aq gt DR:=oh amw (λR kk x0 x1 K=>XI x0 x1 (λa0=>K [tI a0] none)) o20 ei Tryz.func100 (λR kk e x0 x1 K=>by simp only[ki,gV,XI,dq])
def YX:Env:=kl.env (kp [(9,[2,4,9,39,40,41])]) (kp [(9,[4])]) [4] [gk,gU]
def WG(a:Int)(b:cN)(c d:Int)(e:bC)(f:dQ):ae R:=lq YX DR kk Tryz.f58 500 k J ⟨uS 2 (pA 3 gk::uS 1 (pA 5 mz::uS 4 (iA a::uS 29 (dA AW b::iA c::iA d::uS 36 [])))),nS 3 (oA gk e::nS 1 (oA mz f::nS 73 []))⟩
def ze8(a:dQ):State:=⟨uS 4 (pA 5 mz::uS 73 []),nS 5 (oA mz a::nS 73 [])⟩
def ze9(a:dQ):State:=⟨uS 4 (pA 5 mz::uS 73 []),nS 5 (oA mz a::nS 73 [])⟩
def zu6:KX R:=(zn 0 (sk YX DR kk Tryz.f58 63 (fk YX Tryz.f58 none K)))
theorem akE a b c d e f:WG R kk (k+1) J a b c d e f=
 zu7 a b c d e f (λa0=>J .ret (ze8 a0)) (WG R kk k J) (λa0=>J (.exit 0) (ze9 a0)):=by kernel_rfl
theorem aek a:zu6 R kk K .ret (ze8 a)=
 zu8 a (λa0=>K [.bY mz a0 []] none):=by kernel_rfl
theorem ael a:zu6 R kk K (.exit 0) (ze9 a)=
 zu9 a (λa0=>K [.bY mz a0 []] none):=by kernel_rfl
theorem ahx{kk:Nat}(hF:kk=bG) a b c d f g:WG R kk k J a b c d f g=(Tk k a b c d f g).bind λe=>(aI (λ(we:dQ)=>J .ret (ze8 we)) (λ(we:dQ)=>J (.exit 0) (ze9 we)) e):=by
 induction k generalizing a b c d f g with
 |zero=>rfl
 |succ k ih=>rw[akE];simp only[Tk,zu7,ih,dq]
def DS:bH:=DR.add 58 [gk,gU] (oc gk gU zE (λ_ r K=>K [.bY mz r []] none))
theorem o22:dV aq gt DS:=oh YX (λR kk x0 x1 K=>WH x0 x1 (λa0=>K [.bY mz a0 []] none) (WG R kk kk (zu6 R kk K))) o21 ei Tryz.func58 (λR kk e x0 x1 K=>by simp only[zE,WH,zu8,zu9,ahx (hF:=e),aek,ael,dq,<-e])
def Dw:Env:=kl.env (kp [(7,[0,4,5])]) (kp [(7,[4])]) [] [.str]
def x6(a:af)(b:(List Int))(c:Int):ae R:=lq Dw DS kk Tryz.f103 500 k J ⟨sA a::uS 3 (dB y5 b::iA c::uS 40 []),nS 47 []⟩
def zuj(a:(List Int)):State:=⟨uS 4 (dB y5 a::uS 41 []),nS 47 []⟩
def FH:KX R:=(zn 0 (sk Dw DS kk Tryz.f103 63 (fk Dw Tryz.f103 none K)))
theorem L0 a b c:x6 R kk (k+1) J a b c=
 vE a b c (x6 R kk k J) (λa0=>J (.exit 0) (zuj a0)):=by kernel_rfl
theorem akI a:FH R kk K (.exit 0) (zuj a)=
 Bq a (λa0 a1=>K [tS a0,tB a1] none):=by kernel_rfl
theorem ame{kk:Nat}(hF:kk=bG) a b c:x6 R kk k J a b c=(sN k a b c).bind λe=>J (.exit 0) (zuj e):=by
 induction k generalizing a b c with
 |zero=>rfl
 |succ k ih=>rw[L0];simp only[sN,vE,ih,dq]
def Ms:bH:=DS.add 103 [.str] (mJ .str Q1 pN)
theorem o23:dV aq gt Ms:=mS Dw (λR kk x0 K=>tX x0 (λa0 a1=>K [tS a0,tB a1] none) (λa0 a1 a2=>x6 R kk kk (FH R kk K) a0 a1 a2)) o22 ei Tryz.func103 (λR kk e x0 K=>by simp only[pN,Q1,acZ,Bq,ame (hF:=e),akI,dq,<-e])
def amB:Env:=e0 [y1,.str]
def Mt:bH:=Ms.add 61 [y1,.str] (oc y1 .str BN pN)
theorem o24:dV aq gt Mt:=oh amB (λR kk x0 x1 K=>X8 x0 x1 (λa0 a1=>K [tS a0,tB a1] none)) o23 ei Tryz.func61 (λR kk e x0 x1 K=>by simp only[pN,BN,X8,dq])
def Tryz.rN:mm:=⟨λ|166=>60|240=>101|276=>153|n=>n,λ|70=>129|9=>9|3=>3|75=>133|0=>0|72=>131|37=>92|4=>4|164=>240|80=>143|5=>5|20=>20|n=>n,λn=>n⟩
theorem Tryz.EO:Go.Proofs.Lays.n166 eG Tryz.rN:={
 mixed:=by kernel_rfl,
 f166:=Go.Proofs.Tryz.func60.trans (congrArg some (by kernel_rfl)),
 f240:=Go.Proofs.Tryz.func101.trans (congrArg some (by kernel_rfl)),
 f276:=Go.Proofs.Tryz.func153.trans (congrArg some (by kernel_rfl)),
 t0:=fU,
 a0:=ix,
 z0:=ia,
 v0:=gl,
 t3:=fV,
 a3:=iy,
 z3:=ib,
 v3:=gm,
 t4:=jq,
 a4:=kN,
 z4:=ku,
 v4:=jx,
 t9:=fX,
 a9:=iB,
 z9:=ig,
 v9:=gu,
 t20:=iZ,
 a20:=kr,
 z20:=j9,
 v20:=jr,
 t37:=fI,
 a37:=hN,
 z37:=gP,
 v37:=fY,
 t70:=fy,
 a70:=gN,
 z70:=gE,
 v70:=fJ,
 t72:=fA,
 a72:=gO,
 z72:=gF,
 v72:=fK,
 t75:=iK,
 a75:=j6,
 z75:=jK,
 v75:=ja,
 t164:=iM,
 a164:=j8,
 z164:=jM,
 v164:=jc}
theorem Tryz.B5:gM eG Tryz.rN:={
 sizeBuilder:=by kernel_rfl,
 liesBuilder:=by kernel_rfl,
 t5:=fW,
 a5:=iz,
 z5:=ic,
 v5:=gn,
 infoByte:=by kernel_rfl,
 cellsByte:=by kernel_rfl,
 sizeByte:=by kernel_rfl,
 neB5:=by decide}
noncomputable abbrev z6q:Code:=Tryz.f60.body.getD .skip
theorem z62:AM aq 60:=⟨Tryz.f60,z6q,Tryz.func60,by kernel_rfl,by kernel_rfl⟩
def Mu:bH:=Mt.add 60 [] (Ue 131 5)
theorem o25:dV aq gt Mu:=⟨o24.mix,Yp o24.nat (am9 _ _),afn o24.CF z62 Tryz.EO Tryz.B5 rfl rfl rfl⟩
def amA:Env:=e0 [.str,.unit]
def Mv:bH:=Mu.add 59 [.str,.unit] (pz .str Fc Fc [[]] sP (λ_ r K=>K [] (some ⟨Fc,r,[[]]⟩)))
theorem o26:dV aq gt Mv:=sz amA (λR kk x0 x1 K=>X7 x0 x1 (λa0=>K [] (some ⟨Fc,a0,[[]]⟩))) o25 ei Tryz.func59 (λR kk e x0 x1 K=>by simp only[sP,X7,dq])
def Mb:Env:=kl.env (λ_=>[]) (λ_=>[]) [2] [y1]
def Mw:bH:=Mv.add 155 [y1] (mJ y1 Kx pO)
theorem o27:dV aq gt Mw:=mS Mb (λR kk x0 K=>ZG x0 (λa0=>K [.bY lu a0 []] none)) o26 ei Tryz.func155 (λR kk e x0 K=>by simp only[pO,Kx,ZG,dq])
def FK:Env:=kl.env (λ_=>[]) (λ_=>[]) [4] [lu,lu]
def Mx:bH:=Mw.add 144 [lu,lu] (oc lu lu BQ pO)
theorem o28:dV aq gt Mx:=oh FK (λR kk x0 x1 K=>ZC x0 x1 (λa0=>K [.bY lu a0 []] none)) o27 ei Tryz.func144 (λR kk e x0 x1 K=>by simp only[pO,BQ,ZC,dq])
def Ma:Env:=kl.env (λ_=>[]) (λ_=>[]) [4] [lu,y1]
def DT:bH:=Mx.add 108 [lu,y1] (oc lu y1 FM pO)
theorem o29:dV aq gt DT:=oh Ma (λR kk x0 x1 K=>ZF x0 x1 (λa0=>K [.bY lu a0 []] none)) o28 ei Tryz.func108 (λR kk e x0 x1 K=>by simp only[pO,FM,ZF,dq])
def YZ:Env:=kl.env (kp [(3,[2,3,7,8,9])]) (kp [(3,[2,3])]) [2] [gU]
def WK(a:cN)(b c:Int)(d e:dQ):ae R:=lq YZ DT kk Tryz.f63 116 k J ⟨uS 2 (pA 3 lu::pA 4 lu::uS 3 (dA AW a::iA b::iA c::uS 9 [])),nS 3 (oA lu d::oA lu e::nS 15 [])⟩
def zec(a b:dQ):State:=⟨uS 2 (pA 3 lu::pA 4 lu::uS 15 []),nS 3 (oA lu a::oA lu b::nS 15 [])⟩
def QM:KX R:=(zn 0 (sk YZ DT kk Tryz.f63 15 (fk YZ Tryz.f63 none K)))
theorem akG a b c d e:WK R kk (k+1) J a b c d e=
 zue a b c d e (WK R kk k J) (λa0 a1=>J (.exit 0) (zec a0 a1)):=by kernel_rfl
theorem aeo a b:QM R kk K (.exit 0) (zec a b)=
 zuf a b (λa0=>K [.bY lu a0 []] none):=by kernel_rfl
theorem ahz{kk:Nat}(hF:kk=bG) a b c d f:WK R kk k J a b c d f=(Tm k a b c d f).bind λe=>J (.exit 0) (zec e.1 e.2):=by
 induction k generalizing a b c d f with
 |zero=>rfl
 |succ k ih=>rw[akG];simp only[Tm,zue,ih,dq]
def My:bH:=DT.add 63 [gU] (mJ gU Bm pO)
theorem o30:dV aq gt My:=mS YZ (λR kk x0 K=>WL x0 (WK R kk kk (QM R kk K))) o29 ei Tryz.func63 (λR kk e x0 K=>by simp only[pO,Bm,WL,zuf,ahz (hF:=e),aeo,dq,<-e])
def Mz:bH:=My.add 104 [y1] (mJ y1 Q9 jw)
theorem o31:dV aq gt Mz:=mS oT (λR kk x0 K=>vL x0 (λa0=>K [tB a0] none)) o30 ei Tryz.func104 (λR kk e x0 K=>by simp only[jw,Q9,vL,dq])
def MA:bH:=Mz.add 143 [lu,lu] (oc lu lu AN pO)
theorem o32:dV aq gt MA:=oh FK (λR kk x0 x1 K=>T5 x0 x1 (λa0=>K [.bY lu a0 []] none)) o31 ei Tryz.func143 (λR kk e x0 x1 K=>by simp only[pO,AN,T5,dq])
def FL:Env:=e0 [lu,y1]
def MB:bH:=MA.add 105 [lu,y1] (oc lu y1 L9 jw)
theorem o33:dV aq gt MB:=oh FL (λR kk x0 x1 K=>ZD x0 x1 (λa0=>K [tB a0] none)) o32 ei Tryz.func105 (λR kk e x0 x1 K=>by simp only[jw,L9,ZD,dq])
def L8:Env:=e0 [lu]
def DU:bH:=MB.add 106 [lu] (mJ lu Uu (λ_ r K=>K [.bY y2 r.1 [],.bY y2 r.2 []] none))
theorem o34:dV aq gt DU:=mS L8 (λR kk x0 K=>Jo x0 (λa0 a1=>K [.bY y2 a0 [],.bY y2 a1 []] none)) o33 ei Tryz.func106 (λR kk e x0 K=>by simp only[Uu,Jo,dq])
def DL:Env:=kl.env (kp [(3,[0,2,3,5])]) (kp [(3,[2,3])]) [2] [y2]
def yq(a b:Int)(c d:(List Int)):ae R:=lq DL DU kk Tryz.f107 116 k J ⟨dA y2 a::uS 1 (pA 3 y7::pA 4 y7::uS 1 (iA b::uS 12 [])),nS 3 (oA y7 c::oA y7 d::nS 14 [])⟩
def zww(a b:(List Int)):State:=⟨uS 2 (pA 3 y7::pA 4 y7::uS 14 []),nS 3 (oA y7 a::oA y7 b::nS 14 [])⟩
def FP:KX R:=(zn 0 (sk DL DU kk Tryz.f107 15 (fk DL Tryz.f107 none K)))
theorem Mk a b c d:yq R kk (k+1) J a b c d=
 vK a b c d (yq R kk k J) (λa0 a1=>J (.exit 0) (zww a0 a1)):=by kernel_rfl
theorem alo a b:FP R kk K (.exit 0) (zww a b)=
 yt a b (λa0=>K [.bY y7 a0 []] none):=by kernel_rfl
theorem am0{kk:Nat}(hF:kk=bG) a b c d:yq R kk k J a b c d=(qE k a b c d).bind λe=>J (.exit 0) (zww e.1 e.2):=by
 induction k generalizing a b c d with
 |zero=>rfl
 |succ k ih=>rw[Mk];simp only[qE,vK,ih,dq]
def DV:bH:=DU.add 107 [y2] (mJ y2 Q8 (λ_ r K=>K [.bY y7 r []] none))
theorem o35:dV aq gt DV:=mS DL (λR kk x0 K=>yr x0 (yq R kk kk (FP R kk K))) o34 ei Tryz.func107 (λR kk e x0 K=>by simp only[Q8,yr,yt,am0 (hF:=e),alo,dq,<-e])
def YU:Env:=kl.env (kp [(3,[0,3,4])]) (kp [(3,[3])]) [] [.str]
def WA(a:af)(b:(List Int))(c:Int):ae R:=lq YU DV kk Tryz.f95 116 k J ⟨sA a::uS 2 (dB y5 b::iA c::uS 25 []),nS 31 []⟩
def ze6(a:(List Int)):State:=⟨uS 3 (dB y5 a::uS 26 []),nS 31 []⟩
def QK:KX R:=(zn 0 (sk YU DV kk Tryz.f95 15 (fk YU Tryz.f95 none K)))
theorem akC a b c:WA R kk (k+1) J a b c=
 Tj a b c (WA R kk k J) (λa0=>J (.exit 0) (ze6 a0)):=by kernel_rfl
theorem aei a:QK R kk K (.exit 0) (ze6 a)=
 zu1 a (λa0=>K [tS a0] none):=by kernel_rfl
theorem ahv{kk:Nat}(hF:kk=bG) a b c:WA R kk k J a b c=(Ka k a b c).bind λe=>J (.exit 0) (ze6 e):=by
 induction k generalizing a b c with
 |zero=>rfl
 |succ k ih=>rw[akC];simp only[Ka,Tj,ih,dq]
def MC:bH:=DV.add 95 [.str] (mJ .str sM qS)
theorem o36:dV aq gt MC:=mS YU (λR kk x0 K=>WB x0 (WA R kk kk (QK R kk K))) o35 ei Tryz.func95 (λR kk e x0 K=>by simp only[qS,sM,WB,zu1,ahv (hF:=e),aei,dq,<-e])
def aad:Env:=e0 [y1,lu]
def MD:bH:=MC.add 62 [y1,lu] (oc y1 lu Q6 wy)
theorem o37:dV aq gt MD:=oh aad (λR kk x0 x1 K=>ym x0 x1 (λa0 a1=>K [tS a0,tI a1] none)) o36 ei Tryz.func62 (λR kk e x0 x1 K=>by simp only[wy,Q6,ym,dq])
def ME:bH:=MD.add 109 [y1] (mJ y1 HU jw)
theorem o38:dV aq gt ME:=mS oT (λR kk x0 K=>TX x0 (λa0=>K [tB a0] none)) o37 ei Tryz.func109 (λR kk e x0 K=>by simp only[jw,HU,TX,dq])
def Y3:Env:=e0 [y1,y1]
def DW:bH:=ME.add 156 [y1,y1] (oc y1 y1 zJ jw)
theorem o39:dV aq gt DW:=oh Y3 (λR kk x0 x1 K=>Tp x0 x1 (λa0=>K [tB a0] none)) o38 ei Tryz.func156 (λR kk e x0 x1 K=>by simp only[jw,zJ,Tp,dq])
def yd:Env:=kl.env (kp [(5,[0,6,7,19])]) (kp [(5,[0,6,19])]) [] [y1,y1]
def Zw(a:Int)(b:Nat)(c:Int)(d:Nat)(e:(List Int)):ae R:=lq yd DW kk Tryz.f157 244 k J ⟨iA a::uS 5 (pA 20 (.dJ (.rh b) y0 .unit)::iA c::uS 11 (pA 20 (.dJ (.rh d) y0 .unit)::uS 19 [])),nS 20 (oA (.dJ .row y0 .unit) e::nS 19 [])⟩
def zng(a:Int)(b c:Nat)(d:(List Int)):State:=⟨iA a::uS 5 (pA 20 (.dJ (.rh b) y0 .unit)::uS 12 (pA 20 (.dJ (.rh c) y0 .unit)::uS 19 [])),nS 20 (oA (.dJ .row y0 .unit) d::nS 19 [])⟩
def RJ:KX R:=(zn 0 (sk yd DW kk Tryz.f157 31 (fk yd Tryz.f157 none K)))
theorem amF a b c d e:Zw R kk (k+1) J a b c d e=
 T3 a b c d e (Zw R kk k J) (λa0 a1 a2 a3=>J (.exit 0) (zng a0 a1 a2 a3)):=by kernel_rfl
theorem aia a b c d:RJ R kk K (.exit 0) (zng a b c d)=
 Zy a b c d (λa0 a1=>K [tS a0,tB a1] none):=by kernel_rfl
theorem alf{kk:Nat}(hF:kk=bG) a b c d f:Zw R kk k J a b c d f=(Kq k a b c d f).bind λe=>J (.exit 0) (zng e.1 e.2.1 e.2.2.1 e.2.2.2):=by
 induction k generalizing a b c d f with
 |zero=>rfl
 |succ k ih=>rw[amF];simp only[Kq,T3,ih,dq]
def MF:bH:=DW.add 157 [y1,y1] (oc y1 y1 L6 pN)
theorem o40:dV aq gt MF:=oh yd (λR kk x0 x1 K=>Zx x0 x1 (λa0 a1=>K [tS a0,tB a1] none) (Zw R kk kk (RJ R kk K))) o39 ei Tryz.func157 (λR kk e x0 x1 K=>by simp only[pN,L6,Zx,Zy,alf (hF:=e),aia,dq,<-e])
def amg:Env:=e0 [y1,y1,y1]
def MG:bH:=MF.add 110 [y1,y1,y1] (vq y1 y1 y1 zH wy)
theorem o41:dV aq gt MG:=wH amg (λR kk x0 x1 x2 K=>WX x0 x1 x2 (λa0 a1=>K [tS a0,tI a1] none)) o40 ei Tryz.func110 (λR kk e x0 x1 x2 K=>by simp only[wy,zH,WX,dq])
def MH:bH:=MG.add 111 [y1,y1] (oc y1 y1 tW ki)
theorem o42:dV aq gt MH:=oh Y3 (λR kk x0 x1 K=>YM x0 x1 (λa0=>K [tI a0] none)) o41 ei Tryz.func111 (λR kk e x0 x1 K=>by simp only[ki,tW,YM,dq])
def LX:Env:=e0 [y1,l6,.str]
def MI:bH:=MH.add 65 [y1,l6,.str] (vq y1 l6 .str HP wy)
theorem o43:dV aq gt MI:=wH LX (λR kk x0 x1 x2 K=>YL x0 x1 x2 (λa0 a1=>K [tS a0,tI a1] none)) o42 ei Tryz.func65 (λR kk e x0 x1 x2 K=>by simp only[wy,HP,YL,dq])
def Tryz.rO:mm:=⟨λ|169=>66|n=>n,λ|70=>129|9=>9|0=>0|72=>131|37=>92|127=>194|3=>3|5=>5|n=>n,λn=>n⟩
theorem Tryz.EP:Go.Proofs.Lays.n169 eG Tryz.rO:={
 mixed:=by kernel_rfl,
 f169:=Go.Proofs.Tryz.func66.trans (congrArg some (by kernel_rfl)),
 t0:=fU,
 a0:=ix,
 z0:=ia,
 v0:=gl,
 t3:=fV,
 a3:=iy,
 z3:=ib,
 v3:=gm,
 t9:=fX,
 a9:=iB,
 z9:=ig,
 v9:=gu,
 t37:=fI,
 a37:=hN,
 z37:=gP,
 v37:=fY,
 t70:=fy,
 a70:=gN,
 z70:=gE,
 v70:=fJ,
 t72:=fA,
 a72:=gO,
 z72:=gF,
 v72:=fK,
 t127:=iL,
 a127:=j7,
 z127:=jL,
 v127:=jb}
theorem Tryz.B6:gM eG Tryz.rO:={
 sizeBuilder:=by kernel_rfl,
 liesBuilder:=by kernel_rfl,
 t5:=fW,
 a5:=iz,
 z5:=ic,
 v5:=gn,
 infoByte:=by kernel_rfl,
 cellsByte:=by kernel_rfl,
 sizeByte:=by kernel_rfl,
 neB5:=by decide}
noncomputable abbrev z9i:Code:=Tryz.f66.body.getD .skip
theorem z7u:AM aq 66:=⟨Tryz.f66,z9i,Tryz.func66,by kernel_rfl,by kernel_rfl⟩
def DX:bH:=MI.add 66 [] (Ud 131 5)
theorem o44:dV aq gt DX:=⟨o43.mix,Yp o43.nat (am8 _ _),afm o43.CF z7u Tryz.EP Tryz.B6 rfl rfl rfl⟩
def Zm:Env:={kl.env (kp [(11,[2,5,7,8,50,51,52])]) (kp [(11,[5,7])]) [5] [gk,gU] with bl:=λt=>bif ak t 131 then some 5 else none}
def X5(a:cN)(b c:Int)(d:bC)(e:dQ)(f:af):ae R:=lq Zm DX kk Tryz.f30 8180 k J ⟨uS 2 (pA 3 gk::uS 2 (pA 6 mz::uS 1 (pA 8 Fc::pA 8 (.dJ (.CX 59) Fc .unit)::uS 41 (dA AW a::iA b::iA c::uS 25 [])))),nS 3 (oA gk d::nS 2 (oA mz e::nS 1 (oB Fc f::nS 70 [])))⟩
def zfc(a:dQ)(b:af):State:=⟨uS 5 (pA 6 mz::uS 1 (pA 8 Fc::uS 70 [])),nS 6 (oA mz a::nS 1 (oB Fc b::nS 70 []))⟩
def QR:KX R:=(zn 0 (sk Zm DX kk Tryz.f30 1023 (fk Zm Tryz.f30 none K)))
theorem ak5 a b c d e f:X5 R kk (k+1) J a b c d e f=
 zw6 a b c d e f (X5 R kk k J) (λa0 a1=>J (.exit 0) (zfc a0 a1)):=by kernel_rfl
theorem aeW a b:QR R kk K (.exit 0) (zfc a b)=
 zw7 a b (λa0 a1=>K [tS a0,.bY mz a1 []] none):=by kernel_rfl
theorem ahZ{kk:Nat}(hF:kk=bG) a b c d f g:X5 R kk k J a b c d f g=(TD k a b c d f g).bind λe=>J (.exit 0) (zfc e.1 e.2):=by
 induction k generalizing a b c d f g with
 |zero=>rfl
 |succ k ih=>rw[ak5];simp only[TD,zw6,ih,dq]
def MJ:bH:=DX.add 30 [gk,gU] (oc gk gU vI (λ_ r K=>K [tS r.1,.bY mz r.2 []] none))
theorem o45:dV aq gt MJ:=oh Zm (λR kk x0 x1 K=>X6 x0 x1 (λa0 a1=>K [tS a0,.bY mz a1 []] none) (X5 R kk kk (QR R kk K))) o44 (ei.sd 131 5 (by kernel_rfl)) Tryz.func30 (λR kk e x0 x1 K=>by simp only[vI,X6,zw7,ahZ (hF:=e),aeW,dq,<-e])
def DY:bH:=MJ.add 113 [y1] (mJ y1 Q2 ki)
theorem o46:dV aq gt DY:=mS oT (λR kk x0 K=>yc x0 (λa0=>K [tI a0] none)) o45 ei Tryz.func113 (λR kk e x0 K=>by simp only[ki,Q2,yc,dq])
def Dk:Env:=kl.env (kp [(7,[0,1,7,30,31])]) (kp [(7,[1,4,5,6,7])]) [] [.str,y1]
def xX(a:af)(b:Int)(c:(List Int))(d e:Int):ae R:=lq Dk DY kk Tryz.f114 244 k J ⟨sA a::iA b::uS 5 (dB y5 c::uS 22 (iA d::iA e::uS 43 [])),nS 76 []⟩
def zsv(a:Int)(b:af)(c d:Int)(e:(List Int)):State:=⟨uS 1 (iA a::uS 2 (sA b::iA c::iA d::dB y5 e::uS 67 [])),nS 76 []⟩
def zsw(a:Int)(b:(List Int)):State:=⟨uS 1 (iA a::uS 5 (dB y5 b::uS 67 [])),nS 76 []⟩
def Bb:KX R:=(zn 1 (sk Dk DY kk Tryz.f114 31 (fk Dk Tryz.f114 none K)))
theorem LU a b c d e:xX R kk (k+1) J a b c d e=
 vC a b c d e (λa0 a1 a2 a3 a4=>J .ret (zsv a0 a1 a2 a3 a4)) (xX R kk k J) (λa0 a1=>J (.exit 1) (zsw a0 a1)):=by kernel_rfl
theorem aj4 a b c d e:Bb R kk K .ret (zsv a b c d e)=
 Bc a b c d e (λa0 a1 a2=>K [tS a0,tI a1,tI a2] none):=by kernel_rfl
theorem aj5 a b:Bb R kk K (.exit 1) (zsw a b)=
 xZ a b (λa0 a1 a2=>K [tS a0,tI a1,tI a2] none):=by kernel_rfl
theorem al9{kk:Nat}(hF:kk=bG) a b c d f:xX R kk k J a b c d f=(rG k a b c d f).bind λe=>(aI (λ(we:(Int×af×Int×Int×(List Int)))=>J .ret (zsv we.1 we.2.1 we.2.2.1 we.2.2.2.1 we.2.2.2.2)) (λ(we:(Int×(List Int)))=>J (.exit 1) (zsw we.1 we.2)) e):=by
 induction k generalizing a b c d f with
 |zero=>rfl
 |succ k ih=>rw[LU];simp only[rG,vC,ih,dq]
def MK:bH:=DY.add 114 [.str,y1] (oc .str y1 Q0 Al)
theorem o47:dV aq gt MK:=oh Dk (λR kk x0 x1 K=>xY x0 x1 (λa0 a1 a2=>K [tS a0,tI a1,tI a2] none) (xX R kk kk (Bb R kk K))) o46 ei Tryz.func114 (λR kk e x0 x1 K=>by simp only[Al,Q0,xY,Bc,xZ,al9 (hF:=e),aj4,aj5,dq,<-e])
def amy:Env:=e0 [gk,.str]
def ML:bH:=MK.add 68 [gk,.str] (oc gk .str BI Al)
theorem o48:dV aq gt ML:=oh amy (λR kk x0 x1 K=>XO x0 x1 (λa0 a1 a2=>K [tS a0,tI a1,tI a2] none)) o47 ei Tryz.func68 (λR kk e x0 x1 K=>by simp only[Al,BI,XO,dq])
def DZ:bH:=ML.add 163 [y0] (mJ y0 Bk Am)
theorem o49:dV aq gt DZ:=mS FF (λR kk x0 K=>zty x0 (λa0 a1=>K [tI a0,tB a1] none)) o48 ei Tryz.func163 (λR kk e x0 K=>by simp only[Am,Bk,zty,dq])
def YT:Env:=kl.env (kp [(4,[0,5,6,7])]) (kp [(4,[0,2,3,4,5])]) [] [.str]
def Wx(a:af)(b:(List Int))(c d:Int):ae R:=lq YT DZ kk Tryz.f120 244 k J ⟨sA a::uS 4 (dB y5 b::iA c::iA d::uS 44 []),nS 53 []⟩
def ze4(a b:af)(c:Int)(d:Bool)(e:(List Int)):State:=⟨sA a::uS 1 (sA b::iA c::bA d::dB y5 e::uS 46 []),nS 53 []⟩
def ze5(a:af)(b:(List Int)):State:=⟨sA a::uS 4 (dB y5 b::uS 46 []),nS 53 []⟩
def ztz:KX R:=(zn 0 (sk YT DZ kk Tryz.f120 31 (fk YT Tryz.f120 none K)))
theorem akB a b c d:Wx R kk (k+1) J a b c d=
 Ti a b c d (λa0 a1 a2 a3 a4=>J .ret (ze4 a0 a1 a2 a3 a4)) (Wx R kk k J) (λa0 a1=>J (.exit 0) (ze5 a0 a1)):=by kernel_rfl
theorem aeg a b c d e:ztz R kk K .ret (ze4 a b c d e)=
 zu0 a b c d e (λa0 a1 a2=>K [tS a0,tI a1,tB a2] none):=by kernel_rfl
theorem aeh a b:ztz R kk K (.exit 0) (ze5 a b)=
 Wz a b (λa0 a1 a2=>K [tS a0,tI a1,tB a2] none):=by kernel_rfl
theorem ahu{kk:Nat}(hF:kk=bG) a b c d:Wx R kk k J a b c d=(J9 k a b c d).bind λe=>(aI (λ(we:(af×af×Int×Bool×(List Int)))=>J .ret (ze4 we.1 we.2.1 we.2.2.1 we.2.2.2.1 we.2.2.2.2)) (λ(we:(af×(List Int)))=>J (.exit 0) (ze5 we.1 we.2)) e):=by
 induction k generalizing a b c d with
 |zero=>rfl
 |succ k ih=>rw[akB];simp only[J9,Ti,ih,dq]
def MN:bH:=DZ.add 120 [.str] (mJ .str qb (λ_ r K=>K [tS r.1,tI r.2.1,tB r.2.2] none))
theorem o50:dV aq gt MN:=mS YT (λR kk x0 K=>Wy x0 (Wx R kk kk (ztz R kk K))) o49 ei Tryz.func120 (λR kk e x0 K=>by simp only[qb,Wy,zu0,Wz,ahu (hF:=e),aeg,aeh,dq,<-e])
def FE:Env:=kl.env (λ_=>[]) (λ_=>[]) [6] [y1,.str,y1]
def D0:bH:=MN.add 115 [y1,.str,y1] (vq y1 .str y1 Kw (λ_ r K=>K [.bY y7 r.1 [],tI r.2.1,tI r.2.2] none))
theorem o51:dV aq gt D0:=wH FE (λR kk x0 x1 x2 K=>YI x0 x1 x2 (λa0 a1 a2=>K [.bY y7 a0 [],tI a1,tI a2] none)) o50 ei Tryz.func115 (λR kk e x0 x1 x2 K=>by simp only[Kw,YI,dq])
def DK:Env:=kl.env (kp [(3,[3,6,7])]) (kp [(3,[3])]) [] [y7]
def yn(a:Int)(b:(List Int))(c:Int):ae R:=lq DK D0 kk Tryz.f116 116 k J ⟨uS 3 (dA y2 a::uS 2 (dA y7 b::iA c::uS 9 [])),nS 18 []⟩
def zwv(a:Int):State:=⟨uS 3 (dA y2 a::uS 13 []),nS 18 []⟩
def FO:KX R:=(zn 0 (sk DK D0 kk Tryz.f116 15 (fk DK Tryz.f116 none K)))
theorem Mj a b c:yn R kk (k+1) J a b c=
 vJ a b c (yn R kk k J) (λa0=>J (.exit 0) (zwv a0)):=by kernel_rfl
theorem aln a:FO R kk K (.exit 0) (zwv a)=
 BR a (λa0=>K [.bY y2 a0 []] none):=by kernel_rfl
theorem amW{kk:Nat}(hF:kk=bG) a b c:yn R kk k J a b c=(sQ k a b c).bind λe=>J (.exit 0) (zwv e):=by
 induction k generalizing a b c with
 |zero=>rfl
 |succ k ih=>rw[Mj];simp only[sQ,vJ,ih,dq]
def MO:bH:=D0.add 116 [y7] (mJ y7 Q7 (λ_ r K=>K [.bY y2 r []] none))
theorem o52:dV aq gt MO:=mS DK (λR kk x0 K=>yp x0 (yn R kk kk (FO R kk K))) o51 ei Tryz.func116 (λR kk e x0 K=>by simp only[Q7,yp,BR,amW (hF:=e),aln,dq,<-e])
def L7:Env:=kl.env (λ_=>[]) (λ_=>[]) [4] [y2,y2]
def MP:bH:=MO.add 117 [y2,y2] (oc y2 y2 Ut pO)
theorem o53:dV aq gt MP:=oh L7 (λR kk x0 x1 K=>Jn x0 x1 (λa0=>K [.bY lu a0 []] none)) o52 ei Tryz.func117 (λR kk e x0 x1 K=>by simp only[pO,Ut,Jn,dq])
def MQ:bH:=MP.add 69 [y1,.str,y1] (vq y1 .str y1 Q5 (λ_ r K=>K [.bY lu r.1 [],tI r.2.1,tI r.2.2] none))
theorem o54:dV aq gt MQ:=wH FE (λR kk x0 x1 x2 K=>yl x0 x1 x2 (λa0 a1 a2=>K [.bY lu a0 [],tI a1,tI a2] none)) o53 ei Tryz.func69 (λR kk e x0 x1 x2 K=>by simp only[Q5,yl,dq])
def RD:Env:=e0 [y2]
def MR:bH:=MQ.add 161 [y2] (mJ y2 Bl ki)
theorem o55:dV aq gt MR:=mS RD (λR kk x0 K=>zu5 x0 (λa0=>K [tI a0] none)) o54 ei Tryz.func161 (λR kk e x0 K=>by simp only[ki,Bl,zu5,dq])
def MS:bH:=MR.add 118 [y2] (mJ y2 vD ki)
theorem o56:dV aq gt MS:=mS RD (λR kk x0 K=>WE x0 (λa0=>K [tI a0] none)) o55 ei Tryz.func118 (λR kk e x0 K=>by simp only[ki,vD,WE,dq])
def D1:bH:=MS.add 70 [lu,y1] (oc lu y1 DI ki)
theorem o57:dV aq gt D1:=oh FL (λR kk x0 x1 K=>ZE x0 x1 (λa0=>K [tI a0] none)) o56 ei Tryz.func70 (λR kk e x0 x1 K=>by simp only[ki,DI,ZE,dq])
def yb:Env:=kl.env (kp [(5,[4,20])]) (kp [(5,[4])]) [] [.str]
def Zs(a:Int)(b:zQ):ae R:=lq yb D1 kk Tryz.f162 244 k J ⟨uS 4 (iA a::uS 15 (pA 21 Va::uS 10 [])),nS 21 (oA Va b::nS 10 [])⟩
def znf(a:Int):State:=⟨uS 4 (iA a::uS 26 []),nS 32 []⟩
def RI:KX R:=(zn 0 (sk yb D1 kk Tryz.f162 31 (fk yb Tryz.f162 none K)))
theorem amE a b:Zs R kk (k+1) J a b=
 Zu a b (Zs R kk k J) (λa0=>J (.exit 0) (znf a0)):=by kernel_rfl
theorem ah9 a:RI R kk K (.exit 0) (znf a)=
 Jm a (λa0 a1=>K [tI a0,tB a1] none):=by kernel_rfl
theorem ale{kk:Nat}(hF:kk=bG) a b:Zs R kk k J a b=(LH k a b).bind λe=>J (.exit 0) (znf e):=by
 induction k generalizing a b with
 |zero=>rfl
 |succ k ih=>rw[amE];simp only[LH,Zu,ih,dq]
def MT:bH:=D1.add 162 [.str] (mJ .str FJ Am)
theorem o58:dV aq gt MT:=mS yb (λR kk x0 K=>Zt x0 (λa0 a1=>K [tI a0,tB a1] none) (Zs R kk kk (RI R kk K))) o57 ei Tryz.func162 (λR kk e x0 K=>by simp only[Am,FJ,Zt,Jm,ale (hF:=e),ah9,dq,<-e])
def amf:Env:=e0 [y1,y1,.str,y1]
def MU:bH:=MT.add 119 [y1,y1,.str,y1] (U3 y1 y1 .str y1 Bs sf)
theorem o59:dV aq gt MU:=st4 amf (λR kk x0 x1 x2 x3 K=>WU x0 x1 x2 x3 (λa0 a1 a2=>K [tI a0,tI a1,tI a2] none)) o58 ei Tryz.func119 (λR kk e x0 x1 x2 x3 K=>by simp only[sf,Bs,WU,dq])
def LW:Env:=e0 [y1,l6,.str,y1]
def D2:bH:=MU.add 71 [y1,l6,.str,y1] (U3 y1 l6 .str y1 LV Al)
theorem o60:dV aq gt D2:=st4 LW (λR kk x0 x1 x2 x3 K=>YK x0 x1 x2 x3 (λa0 a1 a2=>K [tS a0,tI a1,tI a2] none)) o59 ei Tryz.func71 (λR kk e x0 x1 x2 x3 K=>by simp only[Al,LV,YK,dq])
def Zk:Env:=kl.env (kp [(13,[1,2,4,5,6,10,12,13])]) (kp [(13,[1,4,5,6,10])]) [4,5] [gk,.str]
def XL(a:af)(b c:Int)(d:bC)(e:cC)(f:dQ)(g:cC)(h:dQ):ae R:=lq Zk D2 kk Tryz.f31 8180 k J ⟨uS 1 (sA a::pA 3 gk::uS 1 (pA 5 gU::pA 6 mz::pA 7 gU::uS 3 (iA b::uS 1 (pA 13 lu::iA c::uS 93 [])))),nS 3 (oA gk d::nS 1 ((some ⟨gU,e,[[1]]⟩)::oA mz f::(some ⟨gU,g,[[1]]⟩)::nS 5 (oA lu h::nS 94 [])))⟩
def zf6(a:af)(b:Int)(c:cC)(d:dQ)(e:cC):State:=⟨uS 1 (sA a::uS 2 (pA 5 gU::pA 6 mz::pA 7 gU::uS 3 (iA b::uS 96 []))),nS 5 ((some ⟨gU,c,[[1]]⟩)::oA mz d::oA gU e::nS 100 [])⟩
def zf7(a:af)(b:Int)(c:cC)(d:dQ)(e:cC):State:=⟨uS 1 (sA a::uS 2 (pA 5 gU::pA 6 mz::pA 7 gU::uS 3 (iA b::uS 96 []))),nS 5 ((some ⟨gU,c,[[1]]⟩)::oA mz d::(some ⟨gU,e,[[1]]⟩)::nS 100 [])⟩
def zvz:KX R:=(zn 0 (sk Zk D2 kk Tryz.f31 1023 (fk Zk Tryz.f31 none K)))
theorem ak1 a b c d e f g h:XL R kk (k+1) J a b c d e f g h=
 TC a b c d e f g h (λa0 a1 a2 a3 a4=>J .ret (zf6 a0 a1 a2 a3 a4)) (XL R kk k J) (λa0 a1 a2 a3 a4=>J (.exit 0) (zf7 a0 a1 a2 a3 a4)):=by kernel_rfl
theorem aeQ a b c d e:zvz R kk K .ret (zf6 a b c d e)=
 zw0 a b c d e (λa0 a1=>K [.bY gU a0 [[1]],.bY mz a1 []] none):=by kernel_rfl
theorem aeR a b c d e:zvz R kk K (.exit 0) (zf7 a b c d e)=
 zw1 a b c d e (λa0 a1=>K [.bY gU a0 [[1]],.bY mz a1 []] none):=by kernel_rfl
theorem ahV{kk:Nat}(hF:kk=bG) a b c d f g h i:XL R kk k J a b c d f g h i=(Ke k a b c d f g h i).bind λe=>(aI (λ(we:zS)=>J .ret (zf6 we.1 we.2.1 we.2.2.1 we.2.2.2.1 we.2.2.2.2)) (λ(we:zS)=>J (.exit 0) (zf7 we.1 we.2.1 we.2.2.1 we.2.2.2.1 we.2.2.2.2)) e):=by
 induction k generalizing a b c d f g h i with
 |zero=>rfl
 |succ k ih=>rw[ak1];simp only[Ke,TC,ih,dq]
def D3:bH:=D2.add 31 [gk,.str] (oc gk .str xn (λ_ r K=>K [.bY gU r.1 [[1]],.bY mz r.2 []] none))
theorem o61:dV aq gt D3:=oh Zk (λR kk x0 x1 K=>XM x0 x1 (λa0 a1=>K [.bY gU a0 [[1]],.bY mz a1 []] none) (XL R kk kk (zvz R kk K))) o60 ei Tryz.func31 (λR kk e x0 x1 K=>by simp only[xn,XM,zw0,zw1,ahV (hF:=e),aeQ,aeR,dq,<-e])
def HD:Env:=kl.env (kp [(3,[0,3,4])]) (kp [(3,[3])]) [] [y3]
def Wc(a:(List af))(b:dD)(c:Int):ae R:=lq HD D3 kk Tryz.f75 116 k J ⟨dA y3 a::uS 2 (dB oO b::iA c::uS 21 []),nS 27 []⟩
def zdq(a:dD):State:=⟨uS 3 (dB oO a::uS 22 []),nS 27 []⟩
def QG:KX R:=(zn 0 (sk HD D3 kk Tryz.f75 15 (fk HD Tryz.f75 none K)))
theorem aks a b c:Wc R kk (k+1) J a b c=
 ztl a b c (Wc R kk k J) (λa0=>J (.exit 0) (zdq a0)):=by kernel_rfl
theorem ad4 a:QG R kk K (.exit 0) (zdq a)=
 ztm a (λa0=>K [.bY oO a0 []] none):=by kernel_rfl
theorem ahk{kk:Nat}(hF:kk=bG) a b c:Wc R kk k J a b c=(Wd k a b c).bind λe=>J (.exit 0) (zdq e):=by
 induction k generalizing a b c with
 |zero=>rfl
 |succ k ih=>rw[aks];simp only[Wd,ztl,ih,dq]
def MV:bH:=D3.add 75 [y3] (mJ y3 Bg Ao)
theorem o62:dV aq gt MV:=mS HD (λR kk x0 K=>ztk x0 (Wc R kk kk (QG R kk K))) o61 ei Tryz.func75 (λR kk e x0 K=>by simp only[Ao,Bg,ztk,ztm,ahk (hF:=e),ad4,dq,<-e])
def D4:bH:=MV.add 128 [] (xP HK EW)
theorem o63:dV aq gt D4:=yP TW (λR kk K=>zsx (λa0=>K [.bY y6 a0 [[]]] none)) o62 ei Tryz.func128 (λR kk e K=>by simp only[EW,HK,zsx,dq])
def YN:Env:={kl.env (kp [(4,[1,2,3])]) (kp [(4,[1])]) [] [] with mv:=[31]}
def Wa(a:fO)(b:(List Int))(c:Int):ae R:=lq YN D4 kk Tryz.f76 244 k J ⟨uS 1 (dB wY a::dB y6 b::iA c::uS 28 []),nS 33 []⟩
def zdp(a:fO):State:=⟨uS 1 (dB wY a::uS 30 []),nS 33 []⟩
def QF:KX R:=(zn 0 (sk YN D4 kk Tryz.f76 31 (fk YN Tryz.f76 none K)))
theorem akr a b c:Wa R kk (k+1) J a b c=
 zti a b c (Wa R kk k J) (λa0=>J (.exit 0) (zdp a0)):=by kernel_rfl
theorem ad3 a:QF R kk K (.exit 0) (zdp a)=
 ztj a (λa0=>K [.bY wY a0 [[]]] none):=by kernel_rfl
theorem ahj{kk:Nat}(hF:kk=bG) a b c:Wa R kk k J a b c=(Wb k a b c).bind λe=>J (.exit 0) (zdp e):=by
 induction k generalizing a b c with
 |zero=>rfl
 |succ k ih=>rw[akr];simp only[Wb,zti,ih,dq]
def D5:bH:=D4.add 76 [] (xP Dt EV)
theorem o64:dV aq gt D5:=yP YN (λR kk K=>zth (Wa R kk kk (QF R kk K))) o63 (ei.mv _) Tryz.func76 (λR kk e K=>by simp only[EV,Dt,zth,ztj,ahj (hF:=e),ad3,dq,<-e])
def YJ:Env:=kl.env (kp [(3,[0,3,4])]) (kp [(3,[3])]) [] [oO]
def V5(a b:dD)(c:Int):ae R:=lq YJ D5 kk Tryz.f77 116 k J ⟨dA oO a::uS 2 (dB oO b::iA c::uS 22 []),nS 28 []⟩
def zdo(a:dD):State:=⟨uS 3 (dB oO a::uS 23 []),nS 28 []⟩
def Ql:KX R:=(zn 0 (sk YJ D5 kk Tryz.f77 15 (fk YJ Tryz.f77 none K)))
theorem aj9 a b c:V5 R kk (k+1) J a b c=
 zt4 a b c (V5 R kk k J) (λa0=>J (.exit 0) (zdo a0)):=by kernel_rfl
theorem ad2 a:Ql R kk K (.exit 0) (zdo a)=
 zt5 a (λa0=>K [.bY oO a0 []] none):=by kernel_rfl
theorem ahe{kk:Nat}(hF:kk=bG) a b c:V5 R kk k J a b c=(V6 k a b c).bind λe=>J (.exit 0) (zdo e):=by
 induction k generalizing a b c with
 |zero=>rfl
 |succ k ih=>rw[aj9];simp only[V6,zt4,ih,dq]
def MW:bH:=D5.add 77 [oO] (mJ oO Bf Ao)
theorem o65:dV aq gt MW:=mS YJ (λR kk x0 K=>zt3 x0 (V5 R kk kk (Ql R kk K))) o64 ei Tryz.func77 (λR kk e x0 K=>by simp only[Ao,Bf,zt3,zt5,ahe (hF:=e),ad2,dq,<-e])
def amb:Env:=e0 [.str,.str,.str]
def MX:bH:=MW.add 78 [.str,.str,.str] (vq .str .str .str Ds EU)
theorem o66:dV aq gt MX:=wH amb (λR kk x0 x1 x2 K=>ztg x0 x1 x2 (λa0=>K [.bY wX a0 [[]]] none)) o65 ei Tryz.func78 (λR kk e x0 x1 x2 K=>by simp only[EU,Ds,ztg,dq])
def ama:Env:={kl.env (λ_=>[]) (λ_=>[]) [0] [] with sh:=[47,59]}
def D6:bH:=MX.add 33 [] (xP Dq (λ_ r K=>K [.bY pH r [[0,1,3],[0,1,2],[0,1,0,2],[0,0,3],[0,0,0,2]]] none))
theorem o67:dV aq gt D6:=yP ama (λR kk K=>ztf (λa0=>K [.bY pH a0 [[0,1,3],[0,1,2],[0,1,0,2],[0,0,3],[0,0,0,2]]] none)) o66 (ei.sh _) Tryz.func33 (λR kk e K=>by simp only[Dq,ztf,dq])
def Zj:Env:=kl.env (kp [(2,[0,1,7,8])]) (kp [(2,[4])]) [] [y6,y1]
def XF(a:(List Int))(b c d:Int):ae R:=lq Zj D6 kk Tryz.f205 52 k J ⟨dA y6 a::iA b::uS 5 (iA c::iA d::uS 10 []),nS 20 []⟩
def zf4(a:Int):State:=⟨uS 4 (iA a::uS 14 []),nS 20 []⟩
def zf5:State:=⟨uS 19 [],nS 20 []⟩
def zvv:KX R:=(zn 0 (sk Zj D6 kk Tryz.f205 7 (fk Zj Tryz.f205 none K)))
theorem ak0 a b c d:XF R kk (k+1) J a b c d=
 zvw a b c d (λa0=>J .ret (zf4 a0)) (XF R kk k J) (J (.exit 0) (zf5)):=by kernel_rfl
theorem aeO a:zvv R kk K .ret (zf4 a)=
 zvx a (λa0=>K [tI a0] none):=by kernel_rfl
theorem aeP:zvv R kk K (.exit 0) (zf5)=
 zvy (λa0=>K [tI a0] none):=by kernel_rfl
theorem ahU{kk:Nat}(hF:kk=bG) a b c d:XF R kk k J a b c d=(TB k a b c d).bind λe=>(aI (λ(we:Int)=>J .ret (zf4 we)) (λ(we:Unit)=>J (.exit 0) (zf5)) e):=by
 induction k generalizing a b c d with
 |zero=>rfl
 |succ k ih=>rw[ak0];simp only[TB,zvw,ih,dq]
def MY:bH:=D6.add 205 [y6,y1] (oc y6 y1 DE ki)
theorem o68:dV aq gt MY:=oh Zj (λR kk x0 x1 K=>XG x0 x1 (XF R kk kk (zvv R kk K))) o67 ei Tryz.func205 (λR kk e x0 x1 K=>by simp only[ki,DE,XG,zvx,zvy,ahU (hF:=e),aeO,aeP,dq,<-e])
def amv:Env:=e0 [y6,y1]
def MZ:bH:=MY.add 179 [y6,y1] (oc y6 y1 BG jw)
theorem o69:dV aq gt MZ:=oh amv (λR kk x0 x1 K=>XA x0 x1 (λa0=>K [tB a0] none)) o68 ei Tryz.func179 (λR kk e x0 x1 K=>by simp only[jw,BG,XA,dq])
def amj:Env:=e0 [mf,y1]
def M0:bH:=MZ.add 139 [mf,y1] (oc mf y1 BA ki)
theorem o70:dV aq gt M0:=oh amj (λR kk x0 x1 K=>Xe x0 x1 (λa0=>K [tI a0] none)) o69 ei Tryz.func139 (λR kk e x0 x1 K=>by simp only[ki,BA,Xe,dq])
def RE:Env:=e0 [oe,.unit]
def D7:bH:=M0.add 181 [oe,.unit] (pz oe oe oe [] zK EQ)
theorem o71:dV aq gt D7:=sz RE (λR kk x0 x1 K=>Xd x0 x1 (λa0 a1=>K [tB a0] (some ⟨oe,a1,[]⟩))) o70 ei Tryz.func181 (λR kk e x0 x1 K=>by simp only[EQ,zK,Xd,dq])
def Zh:Env:=kl.env (kp [(2,[0,1,7,8])]) (kp [(2,[4])]) [] [wX,.unit]
def XB(a:cN)(b c:Int)(d:eQ):ae R:=lq Zh D7 kk Tryz.f206 52 k J ⟨dA wX a::pA 0 y33::uS 5 (iA b::iA c::uS 10 []),oA oe d::nS 19 []⟩
def zf0(a:Int)(b:eQ):State:=⟨uS 4 (iA a::uS 14 []),oA oe b::nS 19 []⟩
def zf1(a:eQ):State:=⟨uS 19 [],oA oe a::nS 19 []⟩
def zvn(a:eQ):KX R:=(zn 0 (sk Zh D7 kk Tryz.f206 7 (fk Zh Tryz.f206 (some ⟨oe,a,[]⟩) K)))
theorem akY a b c d:XB R kk (k+1) J a b c d=
 zvo a b c d (λa0 a1=>J .ret (zf0 a0 a1)) (XB R kk k J) (λa0=>J (.exit 0) (zf1 a0)):=by kernel_rfl
theorem aeK a b c:zvn R kk K a .ret (zf0 b c)=
 zvp b c (λa0 a1=>K [tI a0] (some ⟨oe,a1,[]⟩)):=by kernel_rfl
theorem aeL a b:zvn R kk K a (.exit 0) (zf1 b)=
 zvq b (λa0 a1=>K [tI a0] (some ⟨oe,a1,[]⟩)):=by kernel_rfl
theorem ahS{kk:Nat}(hF:kk=bG) a b c d:XB R kk k J a b c d=(Tz k a b c d).bind λe=>(aI (λ(we:(Int×eQ))=>J .ret (zf0 we.1 we.2)) (λ(we:eQ)=>J (.exit 0) (zf1 we)) e):=by
 induction k generalizing a b c d with
 |zero=>rfl
 |succ k ih=>rw[akY];simp only[Tz,zvo,ih,dq]
def M1:bH:=D7.add 206 [wX,.unit] (pz wX y33 oe [] DC (λ_ r K=>K [tI r.1] (some ⟨oe,r.2,[]⟩)))
theorem o72:dV aq gt M1:=sz Zh (λR kk x0 x1 K=>XC x0 x1 (XB R kk kk (zvn R kk K x1))) o71 ei Tryz.func206 (λR kk e x0 x1 K=>by simp only[DC,XC,zvp,zvq,ahS (hF:=e),aeK,aeL,dq,<-e])
def amu:Env:=e0 [wX,.unit]
def M3:bH:=M1.add 180 [wX,.unit] (pz wX y33 oe [] BF EQ)
theorem o73:dV aq gt M3:=sz amu (λR kk x0 x1 K=>Xz x0 x1 (λa0 a1=>K [tB a0] (some ⟨oe,a1,[]⟩))) o72 ei Tryz.func180 (λR kk e x0 x1 K=>by simp only[EQ,BF,Xz,dq])
def ami:Env:=e0 [mf,y1,l6]
def zP:bH:=M3.add 140 [mf,y1,l6] (vq mf y1 l6 Bz ki)
theorem o74:dV aq gt zP:=wH ami (λR kk x0 x1 x2 K=>Xc x0 x1 x2 (λa0=>K [tI a0] none)) o73 ei Tryz.func140 (λR kk e x0 x1 x2 K=>by simp only[ki,Bz,Xc,dq])
def Kn:Env:=kl.env (kp [(8,[1,7,33,34]),(16,[1,7,11,46,47,48])]) (kp [(8,[1,2,3,4,7]),(16,[1,2,3,4,11])]) [] [mf]
def W3(a b:Int)(c:cO)(d:dR):ae R:=lq Kn zP kk kL 500 k J ⟨uS 1 (pA 2 mf::uS 5 (pA 8 l6::uS 25 (iA a::iA b::uS 38 []))),nS 2 (oA mf c::nS 5 (oA l6 d::nS 65 []))⟩
def zeg(a b c:Int)(d:cO)(e:dR):State:=⟨uS 1 (pA 2 mf::iA a::iA b::iA c::uS 2 (pA 8 l6::uS 65 [])),nS 2 (oA mf d::nS 5 (oA l6 e::nS 65 []))⟩
def zeh(a:cO)(b:dR):State:=⟨uS 1 (pA 2 mf::uS 5 (pA 8 l6::uS 65 [])),nS 2 (oA mf a::nS 5 (oA l6 b::nS 65 []))⟩
def zuo:KX R:=(zn 0 (sk Kn zP kk kL 63 (fk Kn kL none K)))
def W4(a:Bool)(b:cN)(c d:Int)(e:cO)(f:dR):ae R:=lq Kn zP kk kL 2036 k J ⟨uS 1 (pA 2 mf::uS 5 (pA 8 l6::uS 3 (bA a::uS 34 (dA wX b::iA c::iA d::uS 24 [])))),nS 2 (oA mf e::nS 5 (oA l6 f::nS 65 []))⟩
def zei(a b c:Int)(d:Bool)(e:cO):State:=⟨uS 1 (pA 2 mf::iA a::iA b::iA c::uS 6 (bA d::uS 61 [])),nS 2 (oA mf e::nS 71 [])⟩
def zej(a:Bool)(b:cO):State:=⟨uS 1 (pA 2 mf::uS 9 (bA a::uS 61 [])),nS 2 (oA mf b::nS 71 [])⟩
def zup:KX R:=(zn 2 (sk Kn zP kk kL 255 (fk Kn kL none K)))
theorem akL a b c d:W3 R kk (k+1) J a b c d=
 Ts a b c d (λa0 a1 a2 a3 a4=>J .ret (zeg a0 a1 a2 a3 a4)) (W3 R kk k J) (λa0 a1=>J (.exit 0) (zeh a0 a1)):=by kernel_rfl
theorem aes a b c d e:zuo R kk K .ret (zeg a b c d e)=
 zuq a b c d e (λa0 a1 a2=>K [tI a0,tI a1,tI a2] none):=by kernel_rfl
theorem aet a b:zuo R kk K (.exit 0) (zeh a b)=
 W6 a b (W4 R kk kk (zup R kk K)):=by kernel_rfl
theorem akM a b c d e f:W4 R kk (k+1) J a b c d e f=
 Tt a b c d e f (λa0 a1 a2 a3 a4=>J .ret (zei a0 a1 a2 a3 a4)) (W4 R kk k J) (λa0 a1=>J (.exit 2) (zej a0 a1)):=by kernel_rfl
theorem aeu a b c d e:zup R kk K .ret (zei a b c d e)=
 zur a b c d e (λa0 a1 a2=>K [tI a0,tI a1,tI a2] none):=by kernel_rfl
theorem aev a b:zup R kk K (.exit 2) (zej a b)=
 W7 a b (λa0 a1 a2=>K [tI a0,tI a1,tI a2] none):=by kernel_rfl
theorem ahD{kk:Nat}(hF:kk=bG) a b c d:W3 R kk k J a b c d=(Kb k a b c d).bind λe=>(aI (λ(we:(Int×Int×Int×cO×dR))=>J .ret (zeg we.1 we.2.1 we.2.2.1 we.2.2.2.1 we.2.2.2.2)) (λ(we:(cO×dR))=>J (.exit 0) (zeh we.1 we.2)) e):=by
 induction k generalizing a b c d with
 |zero=>rfl
 |succ k ih=>rw[akL];simp only[Kb,Ts,ih,dq]
theorem ahE{kk:Nat}(hF:kk=bG) a b c d f g:W4 R kk k J a b c d f g=(Kc k a b c d f g).bind λe=>(aI (λ(we:(Int×Int×Int×Bool×cO))=>J .ret (zei we.1 we.2.1 we.2.2.1 we.2.2.2.1 we.2.2.2.2)) (λ(we:(Bool×cO))=>J (.exit 2) (zej we.1 we.2)) e):=by
 induction k generalizing a b c d f g with
 |zero=>rfl
 |succ k ih=>rw[akM];simp only[Kc,Tt,ih,dq]
def M4:bH:=zP.add 82 [mf] (mJ mf Bv sf)
theorem o75:dV aq gt M4:=mS Kn (λR kk x0 K=>W5 x0 (λa0 a1 a2=>K [tI a0,tI a1,tI a2] none) (W3 R kk kk (zuo R kk K))) o74 ei Tryz.func82 (λR kk e x0 K=>by simp only[sf,Bv,W5,zuq,W6,zur,W7,ahD (hF:=e),ahE (hF:=e),aes,aet,aeu,aev,dq,<-e])
def M5:bH:=M4.add 164 [.str] (mJ .str xi jw)
theorem o76:dV aq gt M5:=mS LF (λR kk x0 K=>WQ x0 (λa0=>K [tB a0] none)) o75 ei Tryz.func164 (λR kk e x0 K=>by simp only[jw,xi,WQ,dq])
def amC:Env:=e0 [K4,gk,gk]
def M6:bH:=M5.add 141 [K4,gk,gk] (vq K4 gk gk xr jw)
theorem o77:dV aq gt M6:=wH amC (λR kk x0 x1 x2 K=>Yo x0 x1 x2 (λa0=>K [tB a0] none)) o76 ei Tryz.func141 (λR kk e x0 x1 x2 K=>by simp only[jw,xr,Yo,dq])
def ams:Env:=kl.env (λ_=>[]) (λ_=>[]) [6,7] [sH,gk,gk]
def M7:bH:=M6.add 182 [sH,gk,gk] (vq sH gk gk BE (λ_ r K=>K [.bY l6 r.1 [],.bY l6 r.2.1 [],tI r.2.2] none))
theorem o78:dV aq gt M7:=wH ams (λR kk x0 x1 x2 K=>Xp x0 x1 x2 (λa0 a1 a2=>K [.bY l6 a0 [],.bY l6 a1 [],tI a2] none)) o77 ei Tryz.func182 (λR kk e x0 x1 x2 K=>by simp only[BE,Xp,dq])
def M8:bH:=M7.add 240 [y1,y1] (oc y1 y1 LZ jw)
theorem o79:dV aq gt M8:=oh Y3 (λR kk x0 x1 K=>YV x0 x1 (λa0=>K [tB a0] none)) o78 ei Tryz.func240 (λR kk e x0 x1 K=>by simp only[jw,LZ,YV,dq])
def M9:bH:=M8.add 207 [y1,y1] (oc y1 y1 DF jw)
theorem o80:dV aq gt M9:=oh Y3 (λR kk x0 x1 K=>XK x0 x1 (λa0=>K [tB a0] none)) o79 ei Tryz.func207 (λR kk e x0 x1 K=>by simp only[jw,DF,XK,dq])
def amx:Env:=e0 [l6,l6]
def Na:bH:=M9.add 183 [l6,l6] (oc l6 l6 uL jw)
theorem o81:dV aq gt Na:=oh amx (λR kk x0 x1 K=>XJ x0 x1 (λa0=>K [tB a0] none)) o80 ei Tryz.func183 (λR kk e x0 x1 K=>by simp only[jw,uL,XJ,dq])
def D8:bH:=Na.add 184 [l6] (mJ l6 rZ jw)
theorem o82:dV aq gt D8:=mS RG (λR kk x0 K=>Xq x0 (λa0=>K [tB a0] none)) o81 ei Tryz.func184 (λR kk e x0 K=>by simp only[jw,rZ,Xq,dq])
def x8:Env:=kl.env (kp [(5,[4,10,11,12,13])]) (kp [(5,[2,3])]) [] [oO]
def Y8(a:dD)(b c:Int)(d:tJ):ae R:=lq x8 D8 kk Tryz.f208 244 k J ⟨uS 4 (pA 11 y9::uS 5 (pA 11 y9::dA oO a::iA b::iA c::uS 13 [])),nS 11 (oA y9 d::nS 16 [])⟩
def zna(a b:Int):State:=⟨uS 2 (iA a::iA b::uS 23 []),nS 28 []⟩
def znb:State:=⟨uS 27 [],nS 28 []⟩
def Ja:KX R:=(zn 0 (sk x8 D8 kk Tryz.f208 31 (fk x8 Tryz.f208 none K)))
theorem amp a b c d:Y8 R kk (k+1) J a b c d=
 Jb a b c d (λa0 a1=>J .ret (zna a0 a1)) (Y8 R kk k J) (J (.exit 0) (znb)):=by kernel_rfl
theorem ahK a b:Ja R kk K .ret (zna a b)=
 Jc a b (λa0 a1=>K [tI a0,tI a1] none):=by kernel_rfl
theorem ahL:Ja R kk K (.exit 0) (znb)=
 Jd (λa0 a1=>K [tI a0,tI a1] none):=by kernel_rfl
theorem akR{kk:Nat}(hF:kk=bG) a b c d:Y8 R kk k J a b c d=(T1 k a b c d).bind λe=>(aI (λ(we:(Int×Int))=>J .ret (zna we.1 we.2)) (λ(we:Unit)=>J (.exit 0) (znb)) e):=by
 induction k generalizing a b c d with
 |zero=>rfl
 |succ k ih=>rw[amp];simp only[T1,Jb,ih,dq]
def D9:bH:=D8.add 208 [oO] (mJ oO L2 ET)
theorem o83:dV aq gt D9:=mS x8 (λR kk x0 K=>Y9 x0 (λa0 a1=>K [tI a0,tI a1] none) (Y8 R kk kk (Ja R kk K))) o82 ei Tryz.func208 (λR kk e x0 K=>by simp only[ET,L2,Y9,Jc,Jd,akR (hF:=e),ahK,ahL,dq,<-e])
def Ze:Env:=kl.env (kp [(5,[4,5,25,26,27])]) (kp [(5,[6])]) [] [oO,l6,l6]
def Xs(a:dD)(b c:Int)(d e:dR):ae R:=lq Ze D9 kk Tryz.f185 116 k J ⟨uS 4 (pA 5 l6::pA 6 l6::uS 19 (dA oO a::iA b::iA c::uS 18 [])),nS 5 (oA l6 d::oA l6 e::nS 40 [])⟩
def zeu(a:Int):State:=⟨uS 6 (iA a::uS 39 []),nS 47 []⟩
def zev:State:=⟨uS 46 [],nS 47 []⟩
def zve:KX R:=(zn 0 (sk Ze D9 kk Tryz.f185 15 (fk Ze Tryz.f185 none K)))
theorem akV a b c d e:Xs R kk (k+1) J a b c d e=
 zvf a b c d e (λa0=>J .ret (zeu a0)) (Xs R kk k J) (J (.exit 0) (zev)):=by kernel_rfl
theorem aeE a:zve R kk K .ret (zeu a)=
 zvg a (λa0=>K [tI a0] none):=by kernel_rfl
theorem aeF:zve R kk K (.exit 0) (zev)=
 zvh (λa0=>K [tI a0] none):=by kernel_rfl
theorem ahP{kk:Nat}(hF:kk=bG) a b c d f:Xs R kk k J a b c d f=(Tv k a b c d f).bind λe=>(aI (λ(we:Int)=>J .ret (zeu we)) (λ(we:Unit)=>J (.exit 0) (zev)) e):=by
 induction k generalizing a b c d f with
 |zero=>rfl
 |succ k ih=>rw[akV];simp only[Tv,zvf,ih,dq]
def Nb:bH:=D9.add 185 [oO,l6,l6] (vq oO l6 l6 vF ki)
theorem o84:dV aq gt Nb:=wH Ze (λR kk x0 x1 x2 K=>Xt x0 x1 x2 (λa0=>K [tI a0] none) (Xs R kk kk (zve R kk K))) o83 ei Tryz.func185 (λR kk e x0 x1 x2 K=>by simp only[ki,vF,Xt,zvg,zvh,ahP (hF:=e),aeE,aeF,dq,<-e])
def amr:Env:=e0 [sH,gk,gk]
def Ea:bH:=Nb.add 142 [sH,gk,gk] (vq sH gk gk xm ki)
theorem o85:dV aq gt Ea:=wH amr (λR kk x0 x1 x2 K=>Xo x0 x1 x2 (λa0=>K [tI a0] none)) o84 ei Tryz.func142 (λR kk e x0 x1 x2 K=>by simp only[ki,xm,Xo,dq])
def ye:Env:=kl.env (kp [(3,[2,3,6,7,8])]) (kp [(3,[2,3])]) [2] [y6]
def Zz(a:(List Int))(b c:Int)(d e:dQ):ae R:=lq ye Ea kk Tryz.f92 116 k J ⟨uS 2 (pA 3 lu::pA 4 lu::uS 2 (dA y6 a::iA b::iA c::uS 8 [])),nS 3 (oA lu d::oA lu e::nS 13 [])⟩
def znh(a b:dQ):State:=⟨uS 2 (pA 3 lu::pA 4 lu::uS 13 []),nS 3 (oA lu a::oA lu b::nS 13 [])⟩
def RL:KX R:=(zn 0 (sk ye Ea kk Tryz.f92 15 (fk ye Tryz.f92 none K)))
theorem amG a b c d e:Zz R kk (k+1) J a b c d e=
 T4 a b c d e (Zz R kk k J) (λa0 a1=>J (.exit 0) (znh a0 a1)):=by kernel_rfl
theorem aib a b:RL R kk K (.exit 0) (znh a b)=
 ZB a b (λa0=>K [.bY lu a0 []] none):=by kernel_rfl
theorem alg{kk:Nat}(hF:kk=bG) a b c d f:Zz R kk k J a b c d f=(HF k a b c d f).bind λe=>J (.exit 0) (znh e.1 e.2):=by
 induction k generalizing a b c d f with
 |zero=>rfl
 |succ k ih=>rw[amG];simp only[HF,T4,ih,dq]
def vM:bH:=Ea.add 92 [y6] (mJ y6 BP pO)
theorem o86:dV aq gt vM:=mS ye (λR kk x0 K=>ZA x0 (Zz R kk kk (RL R kk K))) o85 ei Tryz.func92 (λR kk e x0 K=>by simp only[pO,BP,ZA,ZB,alg (hF:=e),aib,dq,<-e])
def Df:Env:=kl.env (kp [(2,[3,4,5,26,27,28]),(12,[3,4,5,13,46,48,49,50]),(24,[4,5,16,17,77,78,79])]) (kp [(2,[3,4,5,6,7,8]),(12,[3,4,5,6,7,8]),(24,[6,7,8])]) [] [nx,gk,gk]
def X9(a:BV)(b c:Int)(d:dF)(e f:bC):ae R:=lq Df vM kk gR 52 k J ⟨uS 3 (pA 4 nx::pA 5 gk::pA 6 gk::uS 20 (dB y55 a::iA b::iA c::uS 92 [])),nS 4 (oA nx d::oA gk e::oA gk f::nS 115 [])⟩
def zfd(a b c:Int)(d:dF)(e f:bC):State:=⟨uS 3 (pA 4 nx::pA 5 gk::pA 6 gk::iA a::iA b::iA c::uS 112 []),nS 4 (oA nx d::oA gk e::oA gk f::nS 115 [])⟩
def zfe(a:dF)(b c:bC):State:=⟨uS 3 (pA 4 nx::pA 5 gk::pA 6 gk::uS 115 []),nS 4 (oA nx a::oA gk b::oA gk c::nS 115 [])⟩
def zw8:KX R:=(zn 0 (sk Df vM kk gR 7 (fk Df gR none K)))
def Ya(a:dD)(b c:Int)(d:dF)(e f:bC)(g:tJ):ae R:=lq Df vM kk gR 500 k J ⟨uS 3 (pA 4 nx::pA 5 gk::pA 6 gk::uS 7 (pA 47 y9::uS 32 (pA 47 y9::uS 1 (dA oO a::iA b::iA c::uS 70 [])))),nS 4 (oA nx d::oA gk e::oA gk f::nS 40 (oA y9 g::nS 74 []))⟩
def zff(a b c:Int)(d:dF)(e f:bC):State:=⟨uS 3 (pA 4 nx::pA 5 gk::pA 6 gk::iA a::iA b::iA c::uS 112 []),nS 4 (oA nx d::oA gk e::oA gk f::nS 115 [])⟩
def zfg(a:dF)(b c:bC):State:=⟨uS 3 (pA 4 nx::pA 5 gk::pA 6 gk::uS 115 []),nS 4 (oA nx a::oA gk b::oA gk c::nS 115 [])⟩
def zw9:KX R:=(zn 2 (sk Df vM kk gR 63 (fk Df gR none K)))
def Yb(a:fO)(b c:Int)(d e:bC)(f g:dQ):ae R:=lq Df vM kk gR 4084 k J ⟨uS 4 (pA 5 gk::pA 6 gk::uS 10 (pA 17 lu::pA 18 lu::uS 59 (dA wY a::iA b::iA c::uS 41 []))),nS 5 (oA gk d::oA gk e::nS 10 (oA lu f::oA lu g::nS 103 []))⟩
def zfh(a b c:Int):State:=⟨uS 6 (iA a::iA b::iA c::uS 112 []),nS 122 []⟩
def zfi:State:=⟨uS 121 [],nS 122 []⟩
def zwa:KX R:=(zn 5 (sk Df vM kk gR 511 (fk Df gR none K)))
theorem ak6 a b c d e f:X9 R kk (k+1) J a b c d e f=
 Yd a b c d e f (λa0 a1 a2 a3 a4 a5=>J .ret (zfd a0 a1 a2 a3 a4 a5)) (X9 R kk k J) (λa0 a1 a2=>J (.exit 0) (zfe a0 a1 a2)):=by kernel_rfl
theorem aeX a b c d e f:zw8 R kk K .ret (zfd a b c d e f)=
 zwb a b c d e f (λa0 a1 a2=>K [tI a0,tI a1,tI a2] none):=by kernel_rfl
theorem aeY a b c:zw8 R kk K (.exit 0) (zfe a b c)=
 Ye a b c (λa0 a1 a2=>K [tI a0,tI a1,tI a2] none) (Ya R kk kk (zw9 R kk K)):=by kernel_rfl
theorem ak7 a b c d e f g:Ya R kk (k+1) J a b c d e f g=
 zwc a b c d e f g (λa0 a1 a2 a3 a4 a5=>J .ret (zff a0 a1 a2 a3 a4 a5)) (Ya R kk k J) (λa0 a1 a2=>J (.exit 2) (zfg a0 a1 a2)):=by kernel_rfl
theorem aeZ a b c d e f:zw9 R kk K .ret (zff a b c d e f)=
 zwd a b c d e f (λa0 a1 a2=>K [tI a0,tI a1,tI a2] none):=by kernel_rfl
theorem ae0 a b c:zw9 R kk K (.exit 2) (zfg a b c)=
 Yf a b c (λa0 a1 a2=>K [tI a0,tI a1,tI a2] none) (Yb R kk kk (zwa R kk K)):=by kernel_rfl
theorem ak8 a b c d e f g:Yb R kk (k+1) J a b c d e f g=
 zwe a b c d e f g (λa0 a1 a2=>J .ret (zfh a0 a1 a2)) (Yb R kk k J) (J (.exit 5) (zfi)):=by kernel_rfl
theorem ae1 a b c:zwa R kk K .ret (zfh a b c)=
 zwf a b c (λa0 a1 a2=>K [tI a0,tI a1,tI a2] none):=by kernel_rfl
theorem ae2:zwa R kk K (.exit 5) (zfi)=
 zwg (λa0 a1 a2=>K [tI a0,tI a1,tI a2] none):=by kernel_rfl
theorem ah0{kk:Nat}(hF:kk=bG) a b c d f g:X9 R kk k J a b c d f g=(Lt k a b c d f g).bind λe=>(aI (λ(we:vO)=>J .ret (zfd we.1 we.2.1 we.2.2.1 we.2.2.2.1 we.2.2.2.2.1 we.2.2.2.2.2)) (λ(we:vN)=>J (.exit 0) (zfe we.1 we.2.1 we.2.2)) e):=by
 induction k generalizing a b c d f g with
 |zero=>rfl
 |succ k ih=>rw[ak6];simp only[Lt,Yd,ih,dq]
theorem ah1{kk:Nat}(hF:kk=bG) a b c d f g h:Ya R kk k J a b c d f g h=(Lu k a b c d f g h).bind λe=>(aI (λ(we:vO)=>J .ret (zff we.1 we.2.1 we.2.2.1 we.2.2.2.1 we.2.2.2.2.1 we.2.2.2.2.2)) (λ(we:vN)=>J (.exit 2) (zfg we.1 we.2.1 we.2.2)) e):=by
 induction k generalizing a b c d f g h with
 |zero=>rfl
 |succ k ih=>rw[ak7];simp only[Lu,zwc,ih,dq]
theorem ah2{kk:Nat}(hF:kk=bG) a b c d f g h:Yb R kk k J a b c d f g h=(TE k a b c d f g h).bind λe=>(aI (λ(we:sC)=>J .ret (zfh we.1 we.2.1 we.2.2)) (λ(we:Unit)=>J (.exit 5) (zfi)) e):=by
 induction k generalizing a b c d f g h with
 |zero=>rfl
 |succ k ih=>rw[ak8];simp only[TE,zwe,ih,dq]
def Eb:bH:=vM.add 83 [nx,gk,gk] (vq nx gk gk zM sf)
theorem o87:dV aq gt Eb:=wH Df (λR kk x0 x1 x2 K=>Yc x0 x1 x2 (X9 R kk kk (zw8 R kk K))) o86 ei Tryz.func83 (λR kk e x0 x1 x2 K=>by simp only[sf,zM,Yc,zwb,Ye,zwd,Yf,zwf,zwg,ah0 (hF:=e),ah1 (hF:=e),ah2 (hF:=e),aeX,aeY,aeZ,ae0,ae1,ae2,dq,<-e])
def Y7:Env:=kl.env (kp [(4,[1,22,23])]) (kp [(4,[2,3,4])]) [] [pH]
def Xf(a:zV)(b:Int)(c:cU):ae R:=lq Y7 Eb kk Tryz.f37 116 k J ⟨uS 1 (pA 2 pH::uS 20 (dA y59 a::iA b::uS 33 [])),nS 2 (oA pH c::nS 55 [])⟩
def zep(a b c:Int):State:=⟨uS 2 (iA a::iA b::iA c::uS 52 []),nS 58 []⟩
def zeq:State:=⟨uS 57 [],nS 58 []⟩
def zuz:KX R:=(zn 0 (sk Y7 Eb kk Tryz.f37 15 (fk Y7 Tryz.f37 none K)))
theorem akQ a b c:Xf R kk (k+1) J a b c=
 Lo a b c (λa0 a1 a2=>J .ret (zep a0 a1 a2)) (Xf R kk k J) (J (.exit 0) (zeq)):=by kernel_rfl
theorem aeA a b c:zuz R kk K .ret (zep a b c)=
 zv0 a b c (λa0 a1 a2=>K [tI a0,tI a1,tI a2] none):=by kernel_rfl
theorem aeB:zuz R kk K (.exit 0) (zeq)=
 zv1 (λa0 a1 a2=>K [tI a0,tI a1,tI a2] none):=by kernel_rfl
theorem ahJ{kk:Nat}(hF:kk=bG) a b c:Xf R kk k J a b c=(Kd k a b c).bind λe=>(aI (λ(we:sC)=>J .ret (zep we.1 we.2.1 we.2.2)) (λ(we:Unit)=>J (.exit 0) (zeq)) e):=by
 induction k generalizing a b c with
 |zero=>rfl
 |succ k ih=>rw[akQ];simp only[Kd,Lo,ih,dq]
def Nc:bH:=Eb.add 37 [pH] (mJ pH zL sf)
theorem o88:dV aq gt Nc:=mS Y7 (λR kk x0 K=>Xg x0 (λa0 a1 a2=>K [tI a0,tI a1,tI a2] none) (Xf R kk kk (zuz R kk K))) o87 ei Tryz.func37 (λR kk e x0 K=>by simp only[sf,zL,Xg,zv0,zv1,ahJ (hF:=e),aeA,aeB,dq,<-e])
def Ec:bH:=Nc.add 121 [.str] (mJ .str Br pN)
theorem o89:dV aq gt Ec:=mS LF (λR kk x0 K=>WR x0 (λa0 a1=>K [tS a0,tB a1] none)) o88 ei Tryz.func121 (λR kk e x0 K=>by simp only[pN,Br,WR,dq])
def YY:Env:=kl.env (kp [(2,[1,9,10,11])]) (kp [(2,[4,5])]) [] [gU,y1]
def WI(a:Int)(b:cN)(c d:Int):ae R:=lq YY Ec kk Tryz.f122 52 k J ⟨uS 1 (iA a::uS 7 (dA AW b::iA c::iA d::uS 10 [])),nS 23 []⟩
def zea(a:af)(b:Bool):State:=⟨uS 4 (sA a::bA b::uS 16 []),nS 23 []⟩
def zeb:State:=⟨uS 22 [],nS 23 []⟩
def zua:KX R:=(zn 0 (sk YY Ec kk Tryz.f122 7 (fk YY Tryz.f122 none K)))
theorem akF a b c d:WI R kk (k+1) J a b c d=
 zub a b c d (λa0 a1=>J .ret (zea a0 a1)) (WI R kk k J) (J (.exit 0) (zeb)):=by kernel_rfl
theorem aem a b:zua R kk K .ret (zea a b)=
 zuc a b (λa0 a1=>K [tS a0,tB a1] none):=by kernel_rfl
theorem aen:zua R kk K (.exit 0) (zeb)=
 zud (λa0 a1=>K [tS a0,tB a1] none):=by kernel_rfl
theorem ahy{kk:Nat}(hF:kk=bG) a b c d:WI R kk k J a b c d=(Tl k a b c d).bind λe=>(aI (λ(we:sc)=>J .ret (zea we.1 we.2)) (λ(we:Unit)=>J (.exit 0) (zeb)) e):=by
 induction k generalizing a b c d with
 |zero=>rfl
 |succ k ih=>rw[akF];simp only[Tl,zub,ih,dq]
def Ed:bH:=Ec.add 122 [gU,y1] (oc gU y1 xh pN)
theorem o90:dV aq gt Ed:=oh YY (λR kk x0 x1 K=>WJ x0 x1 (WI R kk kk (zua R kk K))) o89 ei Tryz.func122 (λR kk e x0 x1 K=>by simp only[pN,xh,WJ,zuc,zud,ahy (hF:=e),aem,aen,dq,<-e])
def Y0:Env:=kl.env (kp [(3,[1,4,5,12,13,14])]) (kp [(3,[4,5])]) [4] [gU,y1]
def WN(a:Int)(b:cN)(c d:Int)(e f:cC):ae R:=lq Y0 Ed kk Tryz.f165 116 k J ⟨uS 1 (iA a::uS 2 (pA 5 gU::pA 6 gU::uS 6 (dA AW b::iA c::iA d::uS 15 []))),nS 5 ((some ⟨gU,e,[[1]]⟩)::(some ⟨gU,f,[[1]]⟩)::nS 24 [])⟩
def zed(a b:cC):State:=⟨uS 4 (pA 5 gU::pA 6 gU::uS 24 []),nS 5 ((some ⟨gU,a,[[1]]⟩)::(some ⟨gU,b,[[1]]⟩)::nS 24 [])⟩
def QN:KX R:=(zn 0 (sk Y0 Ed kk Tryz.f165 15 (fk Y0 Tryz.f165 none K)))
theorem akH a b c d e f:WN R kk (k+1) J a b c d e f=
 zuh a b c d e f (WN R kk k J) (λa0 a1=>J (.exit 0) (zed a0 a1)):=by kernel_rfl
theorem aep a b:QN R kk K (.exit 0) (zed a b)=
 zui a b (λa0=>K [.bY gU a0 [[1]]] none):=by kernel_rfl
theorem ahA{kk:Nat}(hF:kk=bG) a b c d f g:WN R kk k J a b c d f g=(Tn k a b c d f g).bind λe=>J (.exit 0) (zed e.1 e.2):=by
 induction k generalizing a b c d f g with
 |zero=>rfl
 |succ k ih=>rw[akH];simp only[Tn,zuh,ih,dq]
def Nd:bH:=Ed.add 165 [gU,y1] (oc gU y1 Bp (λ_ r K=>K [.bY gU r [[1]]] none))
theorem o91:dV aq gt Nd:=oh Y0 (λR kk x0 x1 K=>WO x0 x1 (WN R kk kk (QN R kk K))) o90 ei Tryz.func165 (λR kk e x0 x1 K=>by simp only[Bp,WO,zui,ahA (hF:=e),aep,dq,<-e])
def Ee:bH:=Nd.add 167 [oe,.unit] (pz oe y1 y1 [] Bn (λ_ r K=>K [tB r.1] (some ⟨y1,r.2,[]⟩)))
theorem o92:dV aq gt Ee:=sz RE (λR kk x0 x1 K=>zug x0 x1 (λa0 a1=>K [tB a0] (some ⟨y1,a1,[]⟩))) o91 ei Tryz.func167 (λR kk e x0 x1 K=>by simp only[Bn,zug,dq])
def Zi:Env:=kl.env (kp [(2,[0,1,7,8])]) (kp [(2,[4])]) [] [AW,.unit]
def XD(a:cN)(b c d:Int):ae R:=lq Zi Ee kk Tryz.f166 52 k J ⟨dA AW a::pA 0 (.dJ (.CX 167) y1 .unit)::uS 5 (iA b::iA c::uS 10 []),oA y1 d::nS 19 []⟩
def zf2(a b:Int):State:=⟨uS 4 (iA a::uS 14 []),oA y1 b::nS 19 []⟩
def zf3(a:Int):State:=⟨uS 19 [],oA y1 a::nS 19 []⟩
def zvr(a:Int):KX R:=(zn 0 (sk Zi Ee kk Tryz.f166 7 (fk Zi Tryz.f166 (some ⟨y1,a,[]⟩) K)))
theorem akZ a b c d:XD R kk (k+1) J a b c d=
 zvs a b c d (λa0 a1=>J .ret (zf2 a0 a1)) (XD R kk k J) (λa0=>J (.exit 0) (zf3 a0)):=by kernel_rfl
theorem aeM a b c:zvr R kk K a .ret (zf2 b c)=
 zvt b c (λa0 a1=>K [tI a0] (some ⟨y1,a1,[]⟩)):=by kernel_rfl
theorem aeN a b:zvr R kk K a (.exit 0) (zf3 b)=
 zvu b (λa0 a1=>K [tI a0] (some ⟨y1,a1,[]⟩)):=by kernel_rfl
theorem ahT{kk:Nat}(hF:kk=bG) a b c d:XD R kk k J a b c d=(TA k a b c d).bind λe=>(aI (λ(we:(Int×Int))=>J .ret (zf2 we.1 we.2)) (λ(we:Int)=>J (.exit 0) (zf3 we)) e):=by
 induction k generalizing a b c d with
 |zero=>rfl
 |succ k ih=>rw[akZ];simp only[TA,zvs,ih,dq]
def Nf:bH:=Ee.add 166 [AW,.unit] (pz AW (.dJ (.CX 167) y1 .unit) y1 [] BH (λ_ r K=>K [tI r.1] (some ⟨y1,r.2,[]⟩)))
theorem o93:dV aq gt Nf:=sz Zi (λR kk x0 x1 K=>XE x0 x1 (XD R kk kk (zvr R kk K x1))) o92 ei Tryz.func166 (λR kk e x0 x1 K=>by simp only[BH,XE,zvt,zvu,ahT (hF:=e),aeM,aeN,dq,<-e])
def amd:Env:={kl.env (λ_=>[]) (λ_=>[]) [6] [gU,y1,.str] with fz:=λi=>bif ak i 9 then some (9,81) else none}
def xw:bH:=Nf.add 123 [gU,y1,.str] (vq gU y1 .str qD (λ_ r K=>K [.bY gU r []] none))
theorem o94:dV aq gt xw:=wH amd (λR kk x0 x1 x2 K=>WM x0 x1 x2 (λa0=>K [.bY gU a0 []] none)) o93 (ei.fz _) Tryz.func123 (λR kk e x0 x1 x2 K=>by simp only[qD,WM,dq])
def Ko:Env:=kl.env (kp [(2,[2,10,11,12]),(5,[2,6,10,11,12,17,18,19])]) (kp [(2,[4]),(5,[2,4,10,11,12])]) [] [mf,y1]
def W8(a:(List Int))(b c:Int)(d:cO):ae R:=lq Ko xw kk jP 52 k J ⟨uS 2 (pA 3 mf::uS 7 (dB y8 a::iA b::iA c::uS 18 [])),nS 3 (oA mf d::nS 28 [])⟩
def zel:State:=⟨uS 31 [],nS 32 []⟩
def zem(a:af):State:=⟨uS 4 (sA a::uS 26 []),nS 32 []⟩
def zus:KX R:=(zn 0 (sk Ko xw kk jP 7 (fk Ko jP none K)))
def W9(a:Int)(b:(List Int))(c d:Int)(e:cN)(f g:Int)(h:cO):ae R:=lq Ko xw kk jP 13516 k J ⟨uS 2 (pA 3 mf::uS 3 (iA a::uS 3 (dB y8 b::iA c::iA d::uS 4 (dA wX e::iA f::iA g::uS 11 [])))),nS 3 (oA mf h::nS 28 [])⟩
def zen(a:af)(b:(List Int))(c d:Int)(e:cO):State:=⟨uS 2 (pA 3 mf::uS 1 (sA a::uS 5 (dB y8 b::iA c::iA d::uS 18 []))),nS 3 (oA mf e::nS 28 [])⟩
def zeo(a:(List Int))(b c:Int)(d:cO):State:=⟨uS 2 (pA 3 mf::uS 7 (dB y8 a::iA b::iA c::uS 18 [])),nS 3 (oA mf d::nS 28 [])⟩
def zut:KX R:=(zn 2 (zn 1 (sk Ko xw kk jP 423 (lk Ko xw kk jP 52 k J))))
theorem akO a b c d:W8 R kk (k+1) J a b c d=
 Tu a b c d (W9 R kk kk (zut R kk k J)) (J (.exit 0) (zel)):=by kernel_rfl
theorem aew:zus R kk K (.exit 0) (zel)=
 zuu (λa0=>K [tS a0] none):=by kernel_rfl
theorem akP a b c d e f g h:W9 R kk (k+1) J a b c d e f g h=
 zuv a b c d e f g h (λa0 a1 a2 a3 a4=>J .ret (zen a0 a1 a2 a3 a4)) (W9 R kk k J) (λa0 a1 a2 a3=>J (.exit 2) (zeo a0 a1 a2 a3)):=by kernel_rfl
theorem aey a b c d e:zut R kk k J .ret (zen a b c d e)=
 zuw a b c d e (λa0=>J .ret (zem a0)):=by kernel_rfl
theorem aez a b c d:zut R kk k J (.exit 2) (zeo a b c d)=
 Xb a b c d (W8 R kk k J):=by kernel_rfl
theorem aex a:zus R kk K .ret (zem a)=
 zux a (λa0=>K [tS a0] none):=by kernel_rfl
theorem ahI{kk:Nat}(hF:kk=bG) a b c d f g h i:W9 R kk k J a b c d f g h i=(Ln k a b c d f g h i).bind λe=>(aI (λ(we:(af×(List Int)×Int×Int×cO))=>J .ret (zen we.1 we.2.1 we.2.2.1 we.2.2.2.1 we.2.2.2.2)) (λ(we:((List Int)×Int×Int×cO))=>J (.exit 2) (zeo we.1 we.2.1 we.2.2.1 we.2.2.2)) e):=by
 induction k generalizing a b c d f g h i with
 |zero=>rfl
 |succ k ih=>rw[akP];simp only[Ln,zuv,ih,dq]
theorem ahH{kk:Nat}(hF:kk=bG) a b c d:W8 R kk k J a b c d=(Hw k a b c d).bind λe=>(aI (λ(we:Unit)=>J (.exit 0) (zel)) (λ(we:af)=>J .ret (zem we)) e):=by
 induction k generalizing a b c d with
 |zero=>rfl
 |succ k ih=>rw[akO];simp only[Hw,Tu,zuw,Xb,ih,ahI (hF:=hF),aey,aez,dq,<-hF]
def Ef:bH:=xw.add 124 [mf,y1] (oc mf y1 Bw qS)
theorem o95:dV aq gt Ef:=oh Ko (λR kk x0 x1 K=>Xa x0 x1 (W8 R kk kk (zus R kk K))) o94 ei Tryz.func124 (λR kk e x0 x1 K=>by simp only[qS,Bw,Xa,zuu,zux,ahH (hF:=e),aew,aex,dq,<-e])
def Y4:Env:={{kl.env (kp [(6,[3,4,5,6,10,27,28,29])]) (kp [(6,[3,5,6,10])]) [6] [mf,gU,mz] with dr:=λi=>bif ak i 6 then [11] else []} with ro:=true}
def WY(a:(List Int))(b c:Int)(d:cO)(e:cC)(f:dQ)(g h:cC):ae R:=lq Y4 Ef kk Tryz.f73 500 k J ⟨uS 3 (pA 4 mf::pA 5 gU::pA 6 mz::pA 7 gU::uS 3 (pA 11 gU::uS 16 (dA y6 a::iA b::iA c::uS 21 []))),nS 4 (oA mf d::oA gU e::oA mz f::(some ⟨gU,g,[[1]]⟩)::nS 3 (oA gU h::nS 40 []))⟩
def zef(a:cO)(b:dQ)(c d:cC):State:=⟨uS 3 (pA 4 mf::uS 1 (pA 6 mz::pA 7 gU::uS 3 (pA 11 gU::uS 40 []))),nS 4 (oA mf a::nS 1 (oA mz b::(some ⟨gU,c,[[1]]⟩)::nS 3 (oA gU d::nS 40 [])))⟩
def QO:KX R:=(zn 0 (sk Y4 Ef kk Tryz.f73 63 (fk Y4 Tryz.f73 none K)))
theorem akK a b c d e f g h:WY R kk (k+1) J a b c d e f g h=
 zun a b c d e f g h (WY R kk k J) (λa0 a1 a2 a3=>J (.exit 0) (zef a0 a1 a2 a3)):=by kernel_rfl
theorem aer a b c d:QO R kk K (.exit 0) (zef a b c d)=
 W0 a b c d (λa0 a1=>K [.bY gU a0 [],tB a1] none):=by kernel_rfl
theorem ahC{kk:Nat}(hF:kk=bG) a b c d f g h i:WY R kk k J a b c d f g h i=(Tr k a b c d f g h i).bind λe=>J (.exit 0) (zef e.1 e.2.1 e.2.2.1 e.2.2.2):=by
 induction k generalizing a b c d f g h i with
 |zero=>rfl
 |succ k ih=>rw[akK];simp only[Tr,zun,ih,dq]
def Ng:bH:=Ef.add 73 [mf,gU,mz] (vq mf gU mz Bu (λ_ r K=>K [.bY gU r.1 [],tB r.2] none))
theorem o96:dV aq gt Ng:=wH Y4 (λR kk x0 x1 x2 K=>WZ x0 x1 x2 (λa0 a1=>K [.bY gU a0 [],tB a1] none) (WY R kk kk (QO R kk K))) o95 ((ei.dr _).ro _) Tryz.func73 (λR kk e x0 x1 x2 K=>by simp only[Bu,WZ,W0,ahC (hF:=e),aer,dq,<-e])
def amo:Env:=e0 [gU,mz,.unit,.unit]
def Eg:bH:=Ng.add 72 [gU,mz,.unit,.unit] (pv gU mz mf pH tH ER)
theorem o97:dV aq gt Eg:=sv amo (λR kk x0 x1 x2 x3 K=>Xi x0 x1 x2 x3 (λa0 a1=>K [tI a0,tS a1] none)) o96 ei Tryz.func72 (λR kk e x0 x1 x2 x3 K=>by simp only[ER,tH,Xi,dq])
def Zo:Env:=kl.env (kp [(2,[1,9,10,11])]) (kp [(2,[4,5])]) [] [nx,.str]
def Ym(a:af)(b:dD)(c d:Int):ae R:=lq Zo Eg kk Tryz.f125 52 k J ⟨uS 1 (sA a::uS 7 (dA oO b::iA c::iA d::uS 10 [])),nS 23 []⟩
def zfo(a:af)(b:Bool):State:=⟨uS 4 (sA a::bA b::uS 16 []),nS 23 []⟩
def zfp:State:=⟨uS 22 [],nS 23 []⟩
def zwq:KX R:=(zn 0 (sk Zo Eg kk Tryz.f125 7 (fk Zo Tryz.f125 none K)))
theorem alc a b c d:Ym R kk (k+1) J a b c d=
 zwr a b c d (λa0 a1=>J .ret (zfo a0 a1)) (Ym R kk k J) (J (.exit 0) (zfp)):=by kernel_rfl
theorem ae8 a b:zwq R kk K .ret (zfo a b)=
 zws a b (λa0 a1=>K [tS a0,tB a1] none):=by kernel_rfl
theorem ae9:zwq R kk K (.exit 0) (zfp)=
 zwt (λa0 a1=>K [tS a0,tB a1] none):=by kernel_rfl
theorem ah6{kk:Nat}(hF:kk=bG) a b c d:Ym R kk k J a b c d=(TI k a b c d).bind λe=>(aI (λ(we:sc)=>J .ret (zfo we.1 we.2)) (λ(we:Unit)=>J (.exit 0) (zfp)) e):=by
 induction k generalizing a b c d with
 |zero=>rfl
 |succ k ih=>rw[alc];simp only[TI,zwr,ih,dq]
def Eh:bH:=Eg.add 125 [nx,.str] (oc nx .str BO pN)
theorem o98:dV aq gt Eh:=oh Zo (λR kk x0 x1 K=>Yn x0 x1 (Ym R kk kk (zwq R kk K))) o97 ei Tryz.func125 (λR kk e x0 x1 K=>by simp only[pN,BO,Yn,zws,zwt,ah6 (hF:=e),ae8,ae9,dq,<-e])
def Zn:Env:={kl.env (kp [(2,[1,4,9,10,11])]) (kp [(2,[4,5])]) [4] [nx,y1] with ro:=true}
def Yk(a:Int)(b:fO)(c d:Int)(e:dm):ae R:=lq Zn Eh kk Tryz.f126 52 k J ⟨uS 1 (iA a::uS 2 (pA 5 sH::uS 4 (dA wY b::iA c::iA d::uS 10 []))),nS 5 ((some ⟨sH,e,[[4]]⟩)::nS 17 [])⟩
def zfm(a:Bool)(b:dm):State:=⟨uS 4 (pA 5 sH::bA a::uS 16 []),nS 5 (oA sH b::nS 17 [])⟩
def zfn(a:dm):State:=⟨uS 4 (pA 5 sH::uS 17 []),nS 5 ((some ⟨sH,a,[[4]]⟩)::nS 17 [])⟩
def zwm:KX R:=(zn 0 (sk Zn Eh kk Tryz.f126 7 (fk Zn Tryz.f126 none K)))
theorem alb a b c d e:Yk R kk (k+1) J a b c d e=
 zwn a b c d e (λa0 a1=>J .ret (zfm a0 a1)) (Yk R kk k J) (λa0=>J (.exit 0) (zfn a0)):=by kernel_rfl
theorem ae6 a b:zwm R kk K .ret (zfm a b)=
 zwo a b (λa0 a1=>K [.bY sH a0 [],tB a1] none):=by kernel_rfl
theorem ae7 a:zwm R kk K (.exit 0) (zfn a)=
 zwp a (λa0 a1=>K [.bY sH a0 [],tB a1] none):=by kernel_rfl
theorem ah5{kk:Nat}(hF:kk=bG) a b c d f:Yk R kk k J a b c d f=(TH k a b c d f).bind λe=>(aI (λ(we:(Bool×dm))=>J .ret (zfm we.1 we.2)) (λ(we:dm)=>J (.exit 0) (zfn we)) e):=by
 induction k generalizing a b c d f with
 |zero=>rfl
 |succ k ih=>rw[alb];simp only[TH,zwn,ih,dq]
def Nh:bH:=Eh.add 126 [nx,y1] (oc nx y1 xq (λ_ r K=>K [.bY sH r.1 [],tB r.2] none))
theorem o99:dV aq gt Nh:=oh Zn (λR kk x0 x1 K=>Yl x0 x1 (Yk R kk kk (zwm R kk K))) o98 (ei.ro _) Tryz.func126 (λR kk e x0 x1 K=>by simp only[xq,Yl,zwo,zwp,ah5 (hF:=e),ae6,ae7,dq,<-e])
def Tryz.pr:mm:=⟨λ|105=>197|212=>227|99=>228|165=>229|166=>60|170=>230|169=>66|263=>261|264=>262|206=>263|240=>101|241=>264|276=>153|277=>278|n=>n,λ|9=>9|3=>3|4=>4|20=>20|0=>0|46=>65|109=>296|5=>5|72=>131|76=>134|51=>319|146=>320|53=>107|148=>187|70=>129|37=>92|75=>133|127=>194|164=>240|80=>143|n=>n,λn=>n⟩
theorem Tryz.ns:Go.Proofs.Lays.n105 eG Tryz.pr:={
 mixed:=by kernel_rfl,
 f99:=Go.Proofs.Tryz.func228.trans (congrArg some (by kernel_rfl)),
 f105:=Go.Proofs.Tryz.func197.trans (congrArg some (by kernel_rfl)),
 f165:=Go.Proofs.Tryz.func229.trans (congrArg some (by kernel_rfl)),
 f166:=Go.Proofs.Tryz.func60.trans (congrArg some (by kernel_rfl)),
 f169:=Go.Proofs.Tryz.func66.trans (congrArg some (by kernel_rfl)),
 f170:=Go.Proofs.Tryz.func230.trans (congrArg some (by kernel_rfl)),
 f206:=Go.Proofs.Tryz.func263.trans (congrArg some (by kernel_rfl)),
 f212:=Go.Proofs.Tryz.func227.trans (congrArg some (by kernel_rfl)),
 f240:=Go.Proofs.Tryz.func101.trans (congrArg some (by kernel_rfl)),
 f241:=Go.Proofs.Tryz.func264.trans (congrArg some (by kernel_rfl)),
 f263:=Go.Proofs.Tryz.func261.trans (congrArg some (by kernel_rfl)),
 f264:=Go.Proofs.Tryz.func262.trans (congrArg some (by kernel_rfl)),
 f276:=Go.Proofs.Tryz.func153.trans (congrArg some (by kernel_rfl)),
 f277:=Go.Proofs.Tryz.func278.trans (congrArg some (by kernel_rfl)),
 t0:=fU,
 a0:=ix,
 z0:=ia,
 v0:=gl,
 t3:=fV,
 a3:=iy,
 z3:=ib,
 v3:=gm,
 t4:=jq,
 a4:=kN,
 z4:=ku,
 v4:=jx,
 t5:=fW,
 a5:=iz,
 z5:=ic,
 v5:=gn,
 t9:=fX,
 a9:=iB,
 z9:=ig,
 v9:=gu,
 t20:=iZ,
 a20:=kr,
 z20:=j9,
 v20:=jr,
 t37:=fI,
 a37:=hN,
 z37:=gP,
 v37:=fY,
 t46:=Go.Proofs.Tryz.underlying65,
 a46:=Go.Proofs.Tryz.isAgg65,
 z46:=Go.Proofs.Tryz.sizeOf65,
 v46:=Go.Proofs.Tryz.zeroValue65,
 t51:=Go.Proofs.Tryz.underlying319,
 a51:=Go.Proofs.Tryz.isAgg319,
 z51:=Go.Proofs.Tryz.sizeOf319,
 v51:=Go.Proofs.Tryz.zeroValue319,
 t53:=Go.Proofs.Tryz.underlying107,
 a53:=Go.Proofs.Tryz.isAgg107,
 z53:=Go.Proofs.Tryz.sizeOf107,
 v53:=Go.Proofs.Tryz.zeroValue107,
 t70:=fy,
 a70:=gN,
 z70:=gE,
 v70:=fJ,
 t72:=fA,
 a72:=gO,
 z72:=gF,
 v72:=fK,
 t75:=iK,
 a75:=j6,
 z75:=jK,
 v75:=ja,
 t76:=Go.Proofs.Tryz.underlying134,
 a76:=Go.Proofs.Tryz.isAgg134,
 z76:=Go.Proofs.Tryz.sizeOf134,
 v76:=Go.Proofs.Tryz.zeroValue134,
 t109:=Go.Proofs.Tryz.underlying296,
 a109:=Go.Proofs.Tryz.isAgg296,
 z109:=Go.Proofs.Tryz.sizeOf296,
 v109:=Go.Proofs.Tryz.zeroValue296,
 t127:=iL,
 a127:=j7,
 z127:=jL,
 v127:=jb,
 t146:=Go.Proofs.Tryz.underlying320,
 a146:=Go.Proofs.Tryz.isAgg320,
 z146:=Go.Proofs.Tryz.sizeOf320,
 v146:=Go.Proofs.Tryz.zeroValue320,
 t148:=Go.Proofs.Tryz.underlying187,
 a148:=Go.Proofs.Tryz.isAgg187,
 z148:=Go.Proofs.Tryz.sizeOf187,
 v148:=Go.Proofs.Tryz.zeroValue187,
 t164:=iM,
 a164:=j8,
 z164:=jM,
 v164:=jc}
theorem Tryz.vT:gM eG Tryz.pr:={
 sizeBuilder:=by kernel_rfl,
 liesBuilder:=by kernel_rfl,
 t5:=Tryz.ns.t5,
 a5:=Tryz.ns.a5,
 z5:=Tryz.ns.z5,
 v5:=Tryz.ns.v5,
 infoByte:=by kernel_rfl,
 cellsByte:=by kernel_rfl,
 sizeByte:=by kernel_rfl,
 neB5:=by decide}
noncomputable abbrev zon:Code:=Tryz.f197.body.getD .skip
theorem zho:AM aq 197:=⟨Tryz.f197,zon,Tryz.func197,by kernel_rfl,by kernel_rfl⟩
def z9j:Pure:=λR l b K=>pw b (ox .str y1 l λx0 x1=>(strings_Repeat x0 x1).bind λr=>K [.bY .str r []] none)
theorem zoo:z9j.Nat:=λR S l b F G K h=>JV (zg7 λ_ _=>Ay λ_=>h _ _)
def yu:bH:=Nh.add 197 [] z9j
theorem aaT:dV aq gt yu:=⟨o99.mix,Yp o99.nat zoo,ajb o99.CF zho strings_Repeat (zdf Tryz.ns Tryz.vT (by kernel_rfl))⟩
def HE:Env:=kl.env (kp [(1,[0,1])]) (kp [(1,[0])]) [] [.str,y0]
def XU(a:af)(b:Int):ae R:=lq HE yu kk Tryz.f232 24 k J ⟨sA a::uA b::uS 21 [],nS 24 []⟩
def zf9(a:af):State:=⟨sA a::uS 22 [],nS 24 []⟩
def QQ:KX R:=(zn 0 (sk HE yu kk Tryz.f232 7 (fk HE Tryz.f232 none K)))
theorem ak3 a b:XU R kk (k+1) J a b=
 XW a b (XU R kk k J) (λa0=>J (.exit 0) (zf9 a0)):=by kernel_rfl
theorem aeT a:QQ R kk K (.exit 0) (zf9 a)=
 XX a (λa0=>K [tS a0] none):=by kernel_rfl
theorem ahX{kk:Nat}(hF:kk=bG) a b:XU R kk k J a b=(Lr k a b).bind λe=>J (.exit 0) (zf9 e):=by
 induction k generalizing a b with
 |zero=>rfl
 |succ k ih=>rw[ak3];simp only[Lr,XW,ih,dq]
def yw:bH:=yu.add 232 [.str,y0] (oc .str y0 DH qS)
theorem aaU:dV aq gt yw:=oh HE (λR kk x0 x1 K=>XV x0 x1 (XU R kk kk (QQ R kk K))) aaT ei Tryz.func232 (λR kk e x0 x1 K=>by simp only[qS,DH,XV,XX,ahX (hF:=e),aeT,dq,<-e])
def XQ(a:af)(b:Int):ae R:=lq HE yw kk Tryz.f231 24 k J ⟨sA a::uA b::uS 15 [],nS 18 []⟩
def zf8(a:af):State:=⟨sA a::uS 16 [],nS 18 []⟩
def z175:KX R:=(zn 0 (sk HE yw kk Tryz.f231 7 (fk HE Tryz.f231 none K)))
theorem ak2 a b:XQ R kk (k+1) J a b=
 XS a b (XQ R kk k J) (λa0=>J (.exit 0) (zf8 a0)):=by kernel_rfl
theorem aeS a:z175 R kk K (.exit 0) (zf8 a)=
 XT a (λa0=>K [tS a0] none):=by kernel_rfl
theorem ahW{kk:Nat}(hF:kk=bG) a b:XQ R kk k J a b=(Lq k a b).bind λe=>J (.exit 0) (zf8 e):=by
 induction k generalizing a b with
 |zero=>rfl
 |succ k ih=>rw[ak2];simp only[Lq,XS,ih,dq]
def FR:bH:=yw.add 231 [.str,y0] (oc .str y0 DG qS)
theorem aaV:dV aq gt FR:=oh HE (λR kk x0 x1 K=>XR x0 x1 (XQ R kk kk (z175 R kk K))) aaU ei Tryz.func231 (λR kk e x0 x1 K=>by simp only[qS,DG,XR,XT,ahW (hF:=e),aeS,dq,<-e])
def amz:Env:=e0 [.str,.str]
def FT:bH:=FR.add 198 [.str,.str] (oc .str .str BJ qS)
theorem aaW:dV aq gt FT:=oh amz (λR kk x0 x1 K=>XP x0 x1 (λa0=>K [tS a0] none)) aaV ei Tryz.func198 (λR kk e x0 x1 K=>by simp only[qS,BJ,XP,dq])
def yx:bH:=FT.add 168 [.str,y1] (oc .str y1 L5 pN)
theorem aaX:dV aq gt yx:=oh RH (λR kk x0 x1 K=>Zv x0 x1 (λa0 a1=>K [tS a0,tB a1] none)) aaW ei Tryz.func168 (λR kk e x0 x1 K=>by simp only[pN,L5,Zv,dq])
def x7:Env:=kl.env (kp [(2,[1,8,9,10])]) (kp [(2,[4,5])]) [] [oO,.str]
def Y5(a:af)(b:dD)(c d:Int):ae R:=lq x7 yx kk Tryz.f169 52 k J ⟨uS 1 (sA a::uS 6 (dA oO b::iA c::iA d::uS 10 [])),nS 22 []⟩
def zn8(a:af)(b:Bool):State:=⟨uS 4 (sA a::bA b::uS 15 []),nS 22 []⟩
def zn9:State:=⟨uS 21 [],nS 22 []⟩
def I6:KX R:=(zn 0 (sk x7 yx kk Tryz.f169 7 (fk x7 Tryz.f169 none K)))
theorem amh a b c d:Y5 R kk (k+1) J a b c d=
 I7 a b c d (λa0 a1=>J .ret (zn8 a0 a1)) (Y5 R kk k J) (J (.exit 0) (zn9)):=by kernel_rfl
theorem ahF a b:I6 R kk K .ret (zn8 a b)=
 I8 a b (λa0 a1=>K [tS a0,tB a1] none):=by kernel_rfl
theorem ahG:I6 R kk K (.exit 0) (zn9)=
 I9 (λa0 a1=>K [tS a0,tB a1] none):=by kernel_rfl
theorem akN{kk:Nat}(hF:kk=bG) a b c d:Y5 R kk k J a b c d=(TZ k a b c d).bind λe=>(aI (λ(we:sc)=>J .ret (zn8 we.1 we.2)) (λ(we:Unit)=>J (.exit 0) (zn9)) e):=by
 induction k generalizing a b c d with
 |zero=>rfl
 |succ k ih=>rw[amh];simp only[TZ,I7,ih,dq]
def FU:bH:=yx.add 169 [oO,.str] (oc oO .str L1 pN)
theorem aaY:dV aq gt FU:=oh x7 (λR kk x0 x1 K=>Y6 x0 x1 (Y5 R kk kk (I6 R kk K))) aaX ei Tryz.func169 (λR kk e x0 x1 K=>by simp only[pN,L1,Y6,I8,I9,akN (hF:=e),ahF,ahG,dq,<-e])
def amq:Env:=kl.env (λ_=>[]) (λ_=>[]) [6] [sH,gk,.str]
def ub:bH:=FU.add 127 [sH,gk,.str] (vq sH gk .str xl (λ_ r K=>K [.bY oe r.1 [],tI r.2] none))
theorem aaZ:dV aq gt ub:=wH amq (λR kk x0 x1 x2 K=>Xn x0 x1 x2 (λa0 a1=>K [.bY oe a0 [],tI a1] none)) aaY ei Tryz.func127 (λR kk e x0 x1 x2 K=>by simp only[xl,Xn,dq])
def Kp:Env:={{kl.env (kp [(12,[4,6,7,8,9,16,59,60,61]),(18,[4,6,8,9,16,76,77,78])]) (kp [(12,[4,6,7,8,9,16]),(18,[8,9,16])]) [8,9] [nx,gk,gk,gU] with dr:=λi=>bif ak i 12 then [17] else []} with ro:=true}
def Yg(a:fO)(b c:Int)(d:dF)(e:bC)(f g:cC)(h:dQ)(i:cC):ae R:=lq Kp ub kk kK 2036 k J ⟨uS 4 (pA 5 nx::uS 1 (pA 7 gk::pA 8 gU::pA 9 gU::pA 10 mz::uS 6 (pA 17 gU::uS 42 (dA wY a::iA b::iA c::uS 60 [])))),nS 5 (oA nx d::nS 1 (oA gk e::oA gU f::(some ⟨gU,g,[[1]]⟩)::oA mz h::nS 6 (oA gU i::nS 105 [])))⟩
def zfj(a:dF)(b:bC)(c d:cC)(e:dQ)(f:cC):State:=⟨uS 4 (pA 5 nx::uS 1 (pA 7 gk::pA 8 gU::pA 9 gU::pA 10 mz::uS 6 (pA 17 gU::uS 105 []))),nS 5 (oA nx a::nS 1 (oA gk b::oA gU c::(some ⟨gU,d,[[1]]⟩)::oA mz e::nS 6 (oA gU f::nS 105 [])))⟩
def QS:KX R:=(zn 0 (sk Kp ub kk kK 255 (fk Kp kK none K)))
def Yh(a:cN)(b c:Int)(d:dF)(e:bC)(f:cC)(g:dQ)(h:cC):ae R:=lq Kp ub kk kK 4084 k J ⟨uS 4 (pA 5 nx::uS 1 (pA 7 gk::uS 1 (pA 9 gU::pA 10 mz::uS 6 (pA 17 gU::uS 59 (dA AW a::iA b::iA c::uS 43 []))))),nS 5 (oA nx d::nS 1 (oA gk e::nS 1 ((some ⟨gU,f,[[1]]⟩)::oA mz g::nS 6 (oA gU h::nS 105 []))))⟩
def zfk(a:cC)(b:dQ)(c:cC):State:=⟨uS 8 (pA 9 gU::pA 10 mz::uS 6 (pA 17 gU::uS 105 [])),nS 9 ((some ⟨gU,a,[[1]]⟩)::oA mz b::nS 6 (oA gU c::nS 105 []))⟩
def zfl(a:cC)(b:dQ)(c:cC):State:=⟨uS 8 (pA 9 gU::pA 10 mz::uS 6 (pA 17 gU::uS 105 [])),nS 9 ((some ⟨gU,a,[[1]]⟩)::oA mz b::nS 6 (oA gU c::nS 105 []))⟩
def zwh:KX R:=(zn 2 (sk Kp ub kk kK 511 (fk Kp kK none K)))
theorem ak9 a b c d e f g h i:Yg R kk (k+1) J a b c d e f g h i=
 zwi a b c d e f g h i (Yg R kk k J) (λa0 a1 a2 a3 a4 a5=>J (.exit 0) (zfj a0 a1 a2 a3 a4 a5)):=by kernel_rfl
theorem ae3 a b c d e f:QS R kk K (.exit 0) (zfj a b c d e f)=
 Yj a b c d e f (Yh R kk kk (zwh R kk K)):=by kernel_rfl
theorem ala a b c d e f g h:Yh R kk (k+1) J a b c d e f g h=
 zwj a b c d e f g h (λa0 a1 a2=>J .ret (zfk a0 a1 a2)) (Yh R kk k J) (λa0 a1 a2=>J (.exit 2) (zfl a0 a1 a2)):=by kernel_rfl
theorem ae4 a b c:zwh R kk K .ret (zfk a b c)=
 zwk a b c (λa0 a1=>K [.bY gU a0 [],.bY mz a1 []] none):=by kernel_rfl
theorem ae5 a b c:zwh R kk K (.exit 2) (zfl a b c)=
 zwl a b c (λa0 a1=>K [.bY gU a0 [],.bY mz a1 []] none):=by kernel_rfl
theorem ah3{kk:Nat}(hF:kk=bG) a b c d f g h i j:Yg R kk k J a b c d f g h i j=(TF k a b c d f g h i j).bind λe=>J (.exit 0) (zfj e.1 e.2.1 e.2.2.1 e.2.2.2.1 e.2.2.2.2.1 e.2.2.2.2.2):=by
 induction k generalizing a b c d f g h i j with
 |zero=>rfl
 |succ k ih=>rw[ak9];simp only[TF,zwi,ih,dq]
theorem ah4{kk:Nat}(hF:kk=bG) a b c d f g h i:Yh R kk k J a b c d f g h i=(TG k a b c d f g h i).bind λe=>(aI (λ(we:zR)=>J .ret (zfk we.1 we.2.1 we.2.2)) (λ(we:zR)=>J (.exit 2) (zfl we.1 we.2.1 we.2.2)) e):=by
 induction k generalizing a b c d f g h i with
 |zero=>rfl
 |succ k ih=>rw[ala];simp only[TG,zwj,ih,dq]
def FV:bH:=ub.add 74 [nx,gk,gk,gU] (U3 nx gk gk gU zN (λ_ r K=>K [.bY gU r.1 [],.bY mz r.2 []] none))
theorem aa0:dV aq gt FV:=st4 Kp (λR kk x0 x1 x2 x3 K=>Yi x0 x1 x2 x3 (λa0 a1=>K [.bY gU a0 [],.bY mz a1 []] none) (Yg R kk kk (QS R kk K))) aaZ ((ei.dr _).ro _) Tryz.func74 (λR kk e x0 x1 x2 x3 K=>by simp only[zN,Yi,Yj,zwk,zwl,ah3 (hF:=e),ah4 (hF:=e),ae3,ae4,ae5,dq,<-e])
def amn:Env:={e0 [pH,y1,.str] with fr:=λi=>bif ak i 5 then [12,4] else []}
def FW:bH:=FV.add 32 [pH,y1,.str] (vq pH y1 .str xk ER)
theorem aa1:dV aq gt FW:=wH amn (λR kk x0 x1 x2 K=>Xh x0 x1 x2 (λa0 a1=>K [tI a0,tS a1] none)) aa0 (ei.fr _) Tryz.func32 (λR kk e x0 x1 x2 K=>by simp only[ER,xk,Xh,dq])
def yy:bH:=FW.add 8 [] (xP zB jw)
theorem aa2:dV aq gt yy:=yP TW (λR kk K=>ztx (λa0=>K [tB a0] none)) aa1 ei Tryz.func8 (λR kk e K=>by simp only[jw,zB,ztx,dq])
def YO:Env:=kl.env (kp [(3,[0,1,5,6])]) (kp [(3,[1,4,5])]) [] [y3,y1]
def We(a:(List af))(b c d:Int):ae R:=lq YO yy kk Tryz.f11 116 k J ⟨dA y3 a::iA b::uS 3 (iA c::iA d::uS 30 []),nS 38 []⟩
def zds(a:Int)(b:Bool)(c:Int):State:=⟨uS 1 (iA a::uS 2 (bA b::iA c::uS 31 [])),nS 38 []⟩
def zdt(a b:Int):State:=⟨uS 1 (iA a::uS 3 (iA b::uS 31 [])),nS 38 []⟩
def ztn:KX R:=(zn 0 (sk YO yy kk Tryz.f11 15 (fk YO Tryz.f11 none K)))
theorem akt a b c d:We R kk (k+1) J a b c d=
 Tc a b c d (λa0 a1 a2=>J .ret (zds a0 a1 a2)) (We R kk k J) (λa0 a1=>J (.exit 0) (zdt a0 a1)):=by kernel_rfl
theorem ad5 a b c:ztn R kk K .ret (zds a b c)=
 Wg a b c (λa0=>K [tB a0] none):=by kernel_rfl
theorem ad6 a b:ztn R kk K (.exit 0) (zdt a b)=
 Wh a b (λa0=>K [tB a0] none):=by kernel_rfl
theorem ahl{kk:Nat}(hF:kk=bG) a b c d:We R kk k J a b c d=(J6 k a b c d).bind λe=>(aI (λ(we:Zt7)=>J .ret (zds we.1 we.2.1 we.2.2)) (λ(we:(Int×Int))=>J (.exit 0) (zdt we.1 we.2)) e):=by
 induction k generalizing a b c d with
 |zero=>rfl
 |succ k ih=>rw[akt];simp only[J6,Tc,ih,dq]
def FX:bH:=yy.add 11 [y3,y1] (oc y3 y1 Du jw)
theorem aa3:dV aq gt FX:=oh YO (λR kk x0 x1 K=>zto x0 x1 (We R kk kk (ztn R kk K))) aa2 ei Tryz.func11 (λR kk e x0 x1 K=>by simp only[jw,Du,zto,Wg,Wh,ahl (hF:=e),ad5,ad6,dq,<-e])
def vH:Env:=kl.env (λ_=>[]) (λ_=>[]) [0] []
def yz:bH:=FX.add 47 [] (xP L3 pO)
theorem aa4:dV aq gt yz:=yP vH (λR kk K=>Jh (λa0=>K [.bY lu a0 []] none)) aa3 ei Tryz.func47 (λR kk e K=>by simp only[pO,L3,Jh,dq])
def Zb:Env:={kl.env (kp [(3,[1,3,4])]) (kp [(3,[3])]) [] [lu] with mv:=[22]}
def Xl(a:fO)(b:Int)(c:dQ):ae R:=lq Zb yz kk Tryz.f46 116 k J ⟨uS 1 (pA 2 lu::uS 1 (dB wY a::iA b::uS 18 [])),nS 2 (oA lu c::nS 21 [])⟩
def zet(a:fO):State:=⟨uS 3 (dB wY a::uS 19 []),nS 24 []⟩
def QP:KX R:=(zn 0 (sk Zb yz kk Tryz.f46 15 (fk Zb Tryz.f46 none K)))
theorem akT a b c:Xl R kk (k+1) J a b c=
 zvb a b c (Xl R kk k J) (λa0=>J (.exit 0) (zet a0)):=by kernel_rfl
theorem aeD a:QP R kk K (.exit 0) (zet a)=
 zvc a (λa0=>K [.bY wY a0 [[]]] none):=by kernel_rfl
theorem ahN{kk:Nat}(hF:kk=bG) a b c:Xl R kk k J a b c=(Xm k a b c).bind λe=>J (.exit 0) (zet e):=by
 induction k generalizing a b c with
 |zero=>rfl
 |succ k ih=>rw[akT];simp only[Xm,zvb,ih,dq]
def FY:bH:=yz.add 46 [lu] (mJ lu BD EV)
theorem aa5:dV aq gt FY:=mS Zb (λR kk x0 K=>zva x0 (Xl R kk kk (QP R kk K))) aa4 (ei.mv _) Tryz.func46 (λR kk e x0 K=>by simp only[EV,BD,zva,zvc,ahN (hF:=e),aeD,dq,<-e])
def FZ:bH:=FY.add 85 [] (xP DA ES)
theorem aa6:dV aq gt FZ:=yP vH (λR kk K=>zv9 (λa0=>K [.bY sH a0 [[4]]] none)) aa5 ei Tryz.func85 (λR kk e K=>by simp only[ES,DA,zv9,dq])
def F0:bH:=FZ.add 86 [] (xP Dx ES)
theorem aa7:dV aq gt F0:=yP vH (λR kk K=>zv4 (λa0=>K [.bY sH a0 [[4]]] none)) aa6 ei Tryz.func86 (λR kk e K=>by simp only[ES,Dx,zv4,dq])
def yA:bH:=F0.add 87 [] (xP DB (λ_ r K=>K [.bY oO r [[]]] none))
theorem aa8:dV aq gt yA:=yP TW (λR kk K=>zvd (λa0=>K [.bY oO a0 [[]]] none)) aa7 ei Tryz.func87 (λR kk e K=>by simp only[DB,zvd,dq])
def x9:Env:=kl.env (kp [(3,[3,9,10,11])]) (kp [(3,[3])]) [] [oO]
def Zc(a b:dD)(c d:Int):ae R:=lq x9 yA kk Tryz.f93 116 k J ⟨uS 3 (dB oO a::uS 5 (dA oO b::iA c::iA d::uS 13 [])),nS 26 []⟩
def znc(a:dD):State:=⟨uS 3 (dB oO a::uS 21 []),nS 26 []⟩
def RF:KX R:=(zn 0 (sk x9 yA kk Tryz.f93 15 (fk x9 Tryz.f93 none K)))
theorem amt a b c d:Zc R kk (k+1) J a b c d=
 Jf a b c d (Zc R kk k J) (λa0=>J (.exit 0) (znc a0)):=by kernel_rfl
theorem ahO a:RF R kk K (.exit 0) (znc a)=
 z116 a (λa0=>K [.bY oO a0 []] none):=by kernel_rfl
theorem akU{kk:Nat}(hF:kk=bG) a b c d:Zc R kk k J a b c d=(Zd k a b c d).bind λe=>J (.exit 0) (znc e):=by
 induction k generalizing a b c d with
 |zero=>rfl
 |succ k ih=>rw[amt];simp only[Zd,Jf,ih,dq]
def yB:bH:=yA.add 93 [oO] (mJ oO Us Ao)
theorem aa9:dV aq gt yB:=mS x9 (λR kk x0 K=>Je x0 (Zc R kk kk (RF R kk K))) aa8 ei Tryz.func93 (λR kk e x0 K=>by simp only[Ao,Us,Je,z116,akU (hF:=e),ahO,dq,<-e])
def YW:Env:=kl.env (kp [(3,[2,3,11,12,13])]) (kp [(3,[2,3])]) [2] [nx]
def WC(a:fO)(b c:Int)(d e:dF):ae R:=lq YW yB kk Tryz.f48 116 k J ⟨uS 2 (pA 3 nx::pA 4 nx::uS 7 (dA wY a::iA b::iA c::uS 22 [])),nS 3 ((some ⟨nx,d,[[0],[1]]⟩)::(some ⟨nx,e,[[1]]⟩)::nS 32 [])⟩
def ze7(a b:dF):State:=⟨uS 2 (pA 3 nx::pA 4 nx::uS 32 []),nS 3 ((some ⟨nx,a,[[0],[1]]⟩)::(some ⟨nx,b,[[1]]⟩)::nS 32 [])⟩
def QL:KX R:=(zn 0 (sk YW yB kk Tryz.f48 15 (fk YW Tryz.f48 none K)))
theorem akD a b c d e:WC R kk (k+1) J a b c d e=
 zu3 a b c d e (WC R kk k J) (λa0 a1=>J (.exit 0) (ze7 a0 a1)):=by kernel_rfl
theorem aej a b:QL R kk K (.exit 0) (ze7 a b)=
 zu4 a b (λa0=>K [.bY nx a0 [[1]]] none):=by kernel_rfl
theorem ahw{kk:Nat}(hF:kk=bG) a b c d f:WC R kk k J a b c d f=(WD k a b c d f).bind λe=>J (.exit 0) (ze7 e.1 e.2):=by
 induction k generalizing a b c d f with
 |zero=>rfl
 |succ k ih=>rw[akD];simp only[WD,zu3,ih,dq]
def F1:bH:=yB.add 48 [nx] (mJ nx Dv (λ_ r K=>K [.bY nx r [[1]]] none))
theorem abb:dV aq gt F1:=mS YW (λR kk x0 K=>zu2 x0 (WC R kk kk (QL R kk K))) aa9 ei Tryz.func48 (λR kk e x0 K=>by simp only[Dv,zu2,zu4,ahw (hF:=e),aej,dq,<-e])
def L4:Env:=kl.env (λ_=>[]) (λ_=>[]) [6] [y1,y1,y1]
def F2:bH:=F1.add 145 [y1,y1,y1] (vq y1 y1 y1 nP (λ_ r K=>K [.bY l6 r []] none))
theorem abd:dV aq gt F2:=wH L4 (λR kk x0 x1 x2 K=>Ji x0 x1 x2 (λa0=>K [.bY l6 a0 []] none)) abb ei Tryz.func145 (λR kk e x0 x1 x2 K=>by simp only[nP,Ji,dq])
def F3:bH:=F2.add 88 [] (xP Q23 An)
theorem abe:dV aq gt F3:=yP vH (λR kk K=>Jg (λa0=>K [.bY gk a0 [[2]]] none)) abd ei Tryz.func88 (λR kk e K=>by simp only[An,Q23,Jg,dq])
def yC:bH:=F3.add 89 [] (xP Dz EW)
theorem abf:dV aq gt yC:=yP TW (λR kk K=>zv8 (λa0=>K [.bY y6 a0 [[]]] none)) abe ei Tryz.func89 (λR kk e K=>by simp only[EW,Dz,zv8,dq])
def Za:Env:=kl.env (kp [(3,[1,2,7,13,14,15])]) (kp [(3,[2,7])]) [] [.str,.str,.str]
def Xj(a b:af)(c:cN)(d:(List Int))(e f:Int):ae R:=lq Za yC kk Tryz.f90 116 k J ⟨uS 1 (sA a::sA b::uS 4 (dB wX c::uS 5 (dB y8 d::iA e::iA f::uS 15 []))),nS 32 []⟩
def zes(a:af)(b:cN):State:=⟨uS 2 (sA a::uS 4 (dB wX b::uS 23 [])),nS 32 []⟩
def z173:KX R:=(zn 0 (sk Za yC kk Tryz.f90 15 (fk Za Tryz.f90 none K)))
theorem akS a b c d e f:Xj R kk (k+1) J a b c d e f=
 zv6 a b c d e f (Xj R kk k J) (λa0 a1=>J (.exit 0) (zes a0 a1)):=by kernel_rfl
theorem aeC a b:z173 R kk K (.exit 0) (zes a b)=
 zv7 a b (λa0=>K [.bY wX a0 [[]]] none):=by kernel_rfl
theorem ahM{kk:Nat}(hF:kk=bG) a b c d f g:Xj R kk k J a b c d f g=(Xk k a b c d f g).bind λe=>J (.exit 0) (zes e.1 e.2):=by
 induction k generalizing a b c d f g with
 |zero=>rfl
 |succ k ih=>rw[akS];simp only[Xk,zv6,ih,dq]
def F4:bH:=yC.add 90 [.str,.str,.str] (vq .str .str .str Dy EU)
theorem abg:dV aq gt F4:=wH Za (λR kk x0 x1 x2 K=>zv5 x0 x1 x2 (Xj R kk kk (z173 R kk K))) abf ei Tryz.func90 (λR kk e x0 x1 x2 K=>by simp only[EU,Dy,zv5,zv7,ahM (hF:=e),aeC,dq,<-e])
def F5:bH:=F4.add 91 [] (xP Q24 An)
theorem abh:dV aq gt F5:=yP vH (λR kk K=>z119 (λa0=>K [.bY gk a0 [[2]]] none)) abg ei Tryz.func91 (λR kk e K=>by simp only[An,Q24,z119,dq])
def amk:Env:={kl.env (λ_=>[]) (λ_=>[]) [0] [] with mv:=[37]}
def F6:bH:=F5.add 45 [] (xP HY (λ_ r K=>K [.bY pH r [[0,1,3],[0,1,2],[0,1,0,2],[0,0,3],[0,0,2],[0,0,1,1],[0,0,1,0],[0,0,0,2]]] none))
theorem abj:dV aq gt F6:=yP amk (λR kk K=>zuy (λa0=>K [.bY pH a0 [[0,1,3],[0,1,2],[0,1,0,2],[0,0,3],[0,0,2],[0,0,1,1],[0,0,1,0],[0,0,0,2]]] none)) abh (ei.mv _) Tryz.func45 (λR kk e K=>by simp only[HY,zuy,dq])
def aml:Env:={kl.env (λ_=>[]) (λ_=>[]) [0] [] with sh:=[4,13]}
def yD:bH:=F6.add 19 [] (xP BB (λ_ r K=>K [.bY pH r [[0,1,3],[0,1,2],[0,1,0,2],[0,0,3],[0,0,2],[0,0,1,0],[0,0,0,2]]] none))
theorem abk:dV aq gt yD:=yP aml (λR kk K=>zv2 (λa0=>K [.bY pH a0 [[0,1,3],[0,1,2],[0,1,0,2],[0,0,3],[0,0,2],[0,0,1,0],[0,0,0,2]]] none)) abj (ei.sh _) Tryz.func19 (λR kk e K=>by simp only[BB,zv2,dq])
def yk:Env:=kl.env (kp [(5,[1,2,3,25,26,27])]) (kp [(5,[1,2,3])]) [2] [mf]
def ZU(a b:fO)(c d:Int)(e f:cO):ae R:=lq yk yD kk Tryz.f38 500 k J ⟨uS 1 (pA 2 mf::pA 3 mf::dB wY a::uS 21 (dA wY b::iA c::iA d::uS 24 [])),nS 2 ((some ⟨mf,e,[[0,2],[1,0]]⟩)::(some ⟨mf,f,[[0,2],[1,0],[1,1],[2],[3]]⟩)::nS 49 [])⟩
def znm(a:fO)(b c:cO):State:=⟨uS 1 (pA 2 mf::pA 3 mf::dB wY a::uS 48 []),nS 2 ((some ⟨mf,b,[[0,2],[1,0]]⟩)::(some ⟨mf,c,[[0,2],[1,0],[1,1],[2],[3]]⟩)::nS 49 [])⟩
def RO:KX R:=(zn 0 (sk yk yD kk Tryz.f38 63 (fk yk Tryz.f38 none K)))
theorem amL a b c d e f:ZU R kk (k+1) J a b c d e f=
 Js a b c d e f (ZU R kk k J) (λa0 a1 a2=>J (.exit 0) (znm a0 a1 a2)):=by kernel_rfl
theorem aih a b c:RO R kk K (.exit 0) (znm a b c)=
 ZW a b c (λa0=>K [.bY mf a0 [[3],[2],[0,2],[1,0]]] none):=by kernel_rfl
theorem alm{kk:Nat}(hF:kk=bG) a b c d f g:ZU R kk k J a b c d f g=(T8 k a b c d f g).bind λe=>J (.exit 0) (znm e.1 e.2.1 e.2.2):=by
 induction k generalizing a b c d f g with
 |zero=>rfl
 |succ k ih=>rw[amL];simp only[T8,Js,ih,dq]
def F7:bH:=yD.add 38 [mf] (mJ mf Mi (λ_ r K=>K [.bY mf r [[3],[2],[0,2],[1,0]]] none))
theorem abl:dV aq gt F7:=mS yk (λR kk x0 K=>ZV x0 (ZU R kk kk (RO R kk K))) abk ei Tryz.func38 (λR kk e x0 K=>by simp only[Mi,ZV,ZW,alm (hF:=e),aih,dq,<-e])
def yE:bH:=F7.add 39 [y1] (mJ y1 Mf (λ_ r K=>(aI (λ(wr:Int)=>K [.nE,tI wr] none) (λ(wr:Ei)=>K [.ptr 0 sr [],tI wr.1] (some ⟨sr,wr.2,[[2]]⟩)) r)))
theorem abm:dV aq gt yE:=mS oT (λR kk x0 K=>ZM x0 (λa0=>K [.nE,tI a0] none) (λa0 a1=>K [.ptr 0 sr [],tI a0] (some ⟨sr,a1,[[2]]⟩))) abl ei Tryz.func39 (λR kk e x0 K=>by simp only[Mf,ZM,dq]) (ho:=λ_ _ _ _ _ _ h=>zxl (λ_=>h _ _) (λ_=>h _ _))
end
end Go.Proofs.YtodeabafemckjaaGreatDoor

namespace Go.Proofs.YtodeabafemckjaaGreatDoor
noncomputable section
open Go Go.Ref eD
variable (R:Type) (kk k:Nat) (K:KF R) (J:KX R)
def yj:Env:={{kl.env (kp [(6,[1,7,19,20])]) (kp [(6,[7,19])]) [] [pH] with sg:=some (4,9,7)} with gr:=λt=>bif ak t 98 then some (pH,sr) else none,ga:=λt=>ak t 96}
def ZR(a:Int)(b:cU)(c:(cU×(ae bP×ae bP)×Int)):ae R:=lq yj yE kk Tryz.f13 244 k J ⟨uS 1 (pA 2 pH::uS 5 (pA 20 mF::uS 12 (iA a::uS 26 []))),nS 2 (oA pH b::nS 17 ((some ⟨mF,c,[[],[0],[0,2],[1],[1,2]]⟩)::nS 27 []))⟩
def znl(a:(cU×(ae bP×ae bP)×Int)):State:=⟨uS 7 (pA 20 mF::uS 39 []),nS 20 ((some ⟨mF,a,[[],[0],[0,2],[1],[1,2]]⟩)::nS 27 [])⟩
def RN:KX R:=(zn 0 (sk yj yE kk Tryz.f13 31 (fk yj Tryz.f13 none K)))
theorem amK a b c:ZR R kk (k+1) J a b c=
 LJ a b c (ZR R kk k J) (λa0=>J (.exit 0) (znl a0)):=by kernel_rfl
theorem aif a:RN R kk K (.exit 0) (znl a)=
 Jr a (λa0 a1=>K [.ptr 0 mF [],tI a0] (some ⟨mF,a1,[[],[0],[0,2],[1],[1,2]]⟩)):=by kernel_rfl
theorem alk{kk:Nat}(hF:kk=bG) a b c:ZR R kk k J a b c=(Ks k a b c).bind λe=>J (.exit 0) (znl e):=by
 induction k generalizing a b c with
 |zero=>rfl
 |succ k ih=>rw[amK];simp only[Ks,LJ,ih,dq]
def F8:bH:=yE.add 13 [pH] (mJ pH H2 (λ_ r K=>(aI (λ(wr:Int)=>K [.nE,tI wr] none) (λ(wr:(Int×(cU×(ae bP×ae bP)×Int)))=>K [.ptr 0 mF [],tI wr.1] (some ⟨mF,wr.2,[[],[0],[0,2],[1],[1,2]]⟩)) r)))
theorem abn:dV aq gt F8:=mS yj (λR kk x0 K=>ZS x0 (λa0=>K [.nE,tI a0] none) (ZR R kk kk (RN R kk K))) abm ((ei.sg _).lh 98 96 pH sr (by kernel_rfl) (by kernel_rfl) (by kernel_rfl) (by kernel_rfl)) Tryz.func13 (λR kk e x0 K=>by simp only[H2,ZS,Jr,alk (hF:=e),aif,dq,<-e]) (ho:=λ_ _ _ _ _ _ h=>zxl (λ_=>h _ _) (λ_=>h _ _))
def amm:Env:=kl.env (λ_=>[]) (λ_=>[]) [2] [pH]
def yF:bH:=F8.add 20 [pH] (mJ pH BC (λ_ r K=>K [.bY pH r []] none))
theorem abo:dV aq gt yF:=mS amm (λR kk x0 K=>zv3 x0 (λa0=>K [.bY pH a0 []] none)) abn ei Tryz.func20 (λR kk e x0 K=>by simp only[BC,zv3,dq])
def Wi(a:(List af))(b:af)(c:Int):ae R:=lq HD yF kk Tryz.f22 116 k J ⟨dA y3 a::uS 2 (sA b::iA c::uS 13 []),nS 19 []⟩
def zdu(a:af):State:=⟨uS 3 (sA a::uS 14 []),nS 19 []⟩
def QH:KX R:=(zn 0 (sk HD yF kk Tryz.f22 15 (fk HD Tryz.f22 none K)))
theorem aku a b c:Wi R kk (k+1) J a b c=
 Td a b c (Wi R kk k J) (λa0=>J (.exit 0) (zdu a0)):=by kernel_rfl
theorem ad7 a:QH R kk K (.exit 0) (zdu a)=
 Wk a (λa0=>K [tS a0] none):=by kernel_rfl
theorem ahm{kk:Nat}(hF:kk=bG) a b c:Wi R kk k J a b c=(J7 k a b c).bind λe=>J (.exit 0) (zdu e):=by
 induction k generalizing a b c with
 |zero=>rfl
 |succ k ih=>rw[aku];simp only[J7,Td,ih,dq]
def yG:bH:=yF.add 22 [y3] (mJ y3 Bh qS)
theorem abp:dV aq gt yG:=mS HD (λR kk x0 K=>Wj x0 (Wi R kk kk (QH R kk K))) abo ei Tryz.func22 (λR kk e x0 K=>by simp only[qS,Bh,Wj,Wk,ahm (hF:=e),ad7,dq,<-e])
def YP:Env:={kl.env (kp [(4,[0,1,8,9,10])]) (kp [(4,[1,4,5,6,7,8,9,10])]) [] [y1,.str] with mv:=[37,38,48,53,73,78]}
def Wm(a:Int)(b:af)(c:(List af))(d:(List Int))(e:Int):ae R:=lq YP yG kk Tryz.f21 248 k J ⟨iA a::sA b::uS 6 (dB y3 c::dB y6 d::iA e::uS 68 []),nS 80 []⟩
def zdv(a:af)(b:(List af))(c:Int)(d:(List Int))(e:Int)(f:(List af))(g:(List Int))(h:Int):State:=⟨uS 1 (sA a::uS 2 (dB y3 b::iA c::dB y6 d::iA e::dA y3 f::dA y6 g::iA h::uS 68 [])),nS 80 []⟩
def zdw(a:af)(b:(List af))(c:(List Int))(d:Int):State:=⟨uS 1 (sA a::uS 6 (dB y3 b::dB y6 c::iA d::uS 68 [])),nS 80 []⟩
def ztp:KX R:=(zn 0 (sk YP yG kk Tryz.f21 63 (fk YP Tryz.f21 none K)))
theorem akv a b c d e:Wm R kk (k+1) J a b c d e=
 Wo a b c d e (λa0 a1 a2 a3 a4 a5 a6 a7=>J .ret (zdv a0 a1 a2 a3 a4 a5 a6 a7)) (Wm R kk k J) (λa0 a1 a2 a3=>J (.exit 0) (zdw a0 a1 a2 a3)):=by kernel_rfl
theorem ad8 a b c d e f g h:ztp R kk K .ret (zdv a b c d e f g h)=
 ztq a b c d e f g h (λa0 a1 a2 a3=>K [.bY y3 a0 [[]],tI a1,.bY y6 a2 [[]],tI a3] none):=by kernel_rfl
theorem ad9 a b c d:ztp R kk K (.exit 0) (zdw a b c d)=
 ztr a b c d (λa0 a1 a2 a3=>K [.bY y3 a0 [[]],tI a1,.bY y6 a2 [[]],tI a3] none):=by kernel_rfl
theorem ahn{kk:Nat}(hF:kk=bG) a b c d f:Wm R kk k J a b c d f=(Ll k a b c d f).bind λe=>(aI (λ(we:(af×(List af)×Int×(List Int)×Int×(List af)×(List Int)×Int))=>J .ret (zdv we.1 we.2.1 we.2.2.1 we.2.2.2.1 we.2.2.2.2.1 we.2.2.2.2.2.1 we.2.2.2.2.2.2.1 we.2.2.2.2.2.2.2)) (λ(we:(af×(List af)×(List Int)×Int))=>J (.exit 0) (zdw we.1 we.2.1 we.2.2.1 we.2.2.2)) e):=by
 induction k generalizing a b c d f with
 |zero=>rfl
 |succ k ih=>rw[akv];simp only[Ll,Wo,ih,dq]
def F9:bH:=yG.add 21 [y1,.str] (oc y1 .str Bi (λ_ r K=>K [.bY y3 r.1 [[]],tI r.2.1,.bY y6 r.2.2.1 [[]],tI r.2.2.2] none))
theorem abq:dV aq gt F9:=oh YP (λR kk x0 x1 K=>Wn x0 x1 (Wm R kk kk (ztp R kk K))) abp (ei.mv _) Tryz.func21 (λR kk e x0 x1 K=>by simp only[Bi,Wn,ztq,ztr,ahn (hF:=e),ad8,ad9,dq,<-e])
def Ga:bH:=F9.add 40 [y1] (mJ y1 Mh jw)
theorem abr:dV aq gt Ga:=mS oT (λR kk x0 K=>ZT x0 (λa0=>K [tB a0] none)) abq ei Tryz.func40 (λR kk e x0 K=>by simp only[jw,Mh,ZT,dq])
def Me:Env:=e0 [.unit]
def yH:bH:=Ga.add 84 [.unit] (pb0 sr [[2]] Md (λ_ r K=>K [tI r.1] (some ⟨sr,r.2,[[2]]⟩)))
theorem abt:dV aq gt yH:=sb0 Me (λR kk x0 K=>ZL x0 (λa0 a1=>K [tI a0] (some ⟨sr,a1,[[2]]⟩))) abr ei Tryz.func84 (λR kk e x0 K=>by simp only[Md,ZL,dq])
def yg:Env:=kl.env (kp [(3,[0,1,6,7])]) (kp [(3,[4,5,6])]) [] [.unit,.str]
def ZH(a:af)(b:(List af))(c:Int)(d:bP):ae R:=lq yg yH kk Tryz.f41 116 k J ⟨pA 0 sr::sA a::uS 4 (dB y3 b::iA c::uS 80 []),(some ⟨sr,d,[[2]]⟩)::nS 88 []⟩
def zni(a:(List af))(b:Bool)(c:(List af))(d:bP):State:=⟨uS 4 (dA y3 a::bA b::dB y3 c::uS 81 []),(some ⟨sr,d,[[2]]⟩)::nS 88 []⟩
def znj(a:(List af))(b:bP):State:=⟨uS 6 (dB y3 a::uS 81 []),(some ⟨sr,b,[[2]]⟩)::nS 88 []⟩
def Jp(a:bP):KX R:=(zn 0 (sk yg yH kk Tryz.f41 15 (fk yg Tryz.f41 (some ⟨sr,a,[[2]]⟩) K)))
theorem amI a b c d:ZH R kk (k+1) J a b c d=
 T6 a b c d (λa0 a1 a2 a3=>J .ret (zni a0 a1 a2 a3)) (ZH R kk k J) (λa0 a1=>J (.exit 0) (znj a0 a1)):=by kernel_rfl
theorem aic a b c d e:Jp R kk K a .ret (zni b c d e)=
 ZJ b c d e (λa0 a1 a2=>K [.bY y3 a0 [],tB a1] (some ⟨sr,a2,[[2]]⟩)):=by kernel_rfl
theorem aid a b c:Jp R kk K a (.exit 0) (znj b c)=
 ZK b c (λa0 a1 a2=>K [.bY y3 a0 [],tB a1] (some ⟨sr,a2,[[2]]⟩)):=by kernel_rfl
theorem ali{kk:Nat}(hF:kk=bG) a b c d:ZH R kk k J a b c d=(Kr k a b c d).bind λe=>(aI (λ(we:((List af)×Bool×(List af)×bP))=>J .ret (zni we.1 we.2.1 we.2.2.1 we.2.2.2)) (λ(we:((List af)×bP))=>J (.exit 0) (znj we.1 we.2)) e):=by
 induction k generalizing a b c d with
 |zero=>rfl
 |succ k ih=>rw[amI];simp only[Kr,T6,ih,dq]
def Gb:bH:=yH.add 41 [.unit,.str] (U1 sr [[2]] .str HZ (λ_ r K=>K [.bY y3 r.1 [],tB r.2.1] (some ⟨sr,r.2.2,[[2]]⟩)))
theorem abu:dV aq gt Gb:=sb1 yg (λR kk x0 x1 K=>ZI x0 x1 (ZH R kk kk (Jp R kk K x0))) abt ei Tryz.func41 (λR kk e x0 x1 K=>by simp only[HZ,ZI,ZJ,ZK,ali (hF:=e),aic,aid,dq,<-e])
def Gc:bH:=Gb.add 12 [.str] (mJ .str H0 wy)
theorem abv:dV aq gt Gc:=mS LF (λR kk x0 K=>ZN x0 (λa0 a1=>K [tS a0,tI a1] none)) abu ei Tryz.func12 (λR kk e x0 K=>by simp only[wy,H0,ZN,dq])
def Mg:Env:={kl.env (λ_=>[]) (λ_=>[]) [6] [.unit,y1,.str] with gr:=λt=>bif ak t 98 then some (pH,sr) else none,ga:=λt=>ak t 96}
def yI:bH:=Gc.add 42 [.unit,y1,.str] (pb2 mF [[],[0],[0,2],[1],[1,2]] y1 .str Kz (λ_ r K=>K [.bY OU r.1 []] (some ⟨mF,r.2,[[],[0],[0,2],[1],[1,2]]⟩)))
theorem abw:dV aq gt yI:=sb2 Mg (λR kk x0 x1 x2 K=>ZQ x0 x1 x2 (λa0 a1=>K [.bY OU a0 []] (some ⟨mF,a1,[[],[0],[0,2],[1],[1,2]]⟩))) abv (ei.lh 98 96 pH sr (by kernel_rfl) (by kernel_rfl) (by kernel_rfl) (by kernel_rfl)) Tryz.func42 (λR kk e x0 x1 x2 K=>by simp only[Kz,ZQ,dq])
def yh:Env:={{kl.env (kp [(6,[0,3,5,7,27,28,29])]) (kp [(6,[0,3,5,7])]) [] [.unit,oe] with ro:=true} with gr:=λt=>bif ak t 98 then some (pH,sr) else none,ga:=λt=>ak t 96}
def ZO(a:nA)(b:Bool)(c:(List af))(d e:Int)(f:(cU×(ae bP×ae bP)×Int))(g:eQ):ae R:=lq yh yI kk Tryz.f16 500 k J ⟨pA 0 mF::uS 2 (pA 4 oe::uS 1 (dB Hg a::uS 1 (bA b::uS 19 (dA y3 c::iA d::iA e::uS 24 [])))),(some ⟨mF,f,[[],[0],[0,2],[1],[1,2]]⟩)::nS 3 (oA oe g::nS 50 [])⟩
def znk(a:nA)(b:Bool)(c:(cU×(ae bP×ae bP)×Int))(d:eQ):State:=⟨pA 0 mF::uS 2 (pA 4 oe::uS 1 (dB Hg a::uS 1 (bA b::uS 46 []))),(some ⟨mF,c,[[],[0],[0,2],[1],[1,2]]⟩)::nS 3 (oA oe d::nS 50 [])⟩
def RM(a:(cU×(ae bP×ae bP)×Int)):KX R:=(zn 0 (sk yh yI kk Tryz.f16 63 (fk yh Tryz.f16 (some ⟨mF,a,[[],[0],[0,2],[1],[1,2]]⟩) K)))
theorem amJ a b c d e f g:ZO R kk (k+1) J a b c d e f g=
 Jq a b c d e f g (ZO R kk k J) (λa0 a1 a2 a3=>J (.exit 0) (znk a0 a1 a2 a3)):=by kernel_rfl
theorem aie a b c d e:RM R kk K a (.exit 0) (znk b c d e)=
 T7 b c d e (λa0 a1=>K [.bY Hg a0 []] (some ⟨mF,a1,[[],[0],[0,2],[1],[1,2]]⟩)):=by kernel_rfl
theorem alj{kk:Nat}(hF:kk=bG) a b c d f g h:ZO R kk k J a b c d f g h=(LI k a b c d f g h).bind λe=>J (.exit 0) (znk e.1 e.2.1 e.2.2.1 e.2.2.2):=by
 induction k generalizing a b c d f g h with
 |zero=>rfl
 |succ k ih=>rw[amJ];simp only[LI,Jq,ih,dq]
def Gd:bH:=yI.add 16 [.unit,oe] (U1 mF [[],[0],[0,2],[1],[1,2]] oe Ky (λ_ r K=>K [.bY Hg r.1 []] (some ⟨mF,r.2,[[],[0],[0,2],[1],[1,2]]⟩)))
theorem abx:dV aq gt Gd:=sb1 yh (λR kk x0 x1 K=>ZP x0 x1 (λa0 a1=>K [.bY Hg a0 []] (some ⟨mF,a1,[[],[0],[0,2],[1],[1,2]]⟩)) (ZO R kk kk (RM R kk K x0))) abw ((ei.ro _).lh 98 96 pH sr (by kernel_rfl) (by kernel_rfl) (by kernel_rfl) (by kernel_rfl)) Tryz.func16 (λR kk e x0 x1 K=>by simp only[Ky,ZP,T7,alj (hF:=e),aie,dq,<-e])
def ou:bH:=Gd.add 23 [.str] (mJ .str xg qS)
theorem aby:dV aq gt ou:=mS LF (λR kk x0 K=>Wl x0 (λa0=>K [tS a0] none)) abx ei Tryz.func23 (λR kk e x0 K=>by simp only[qS,xg,Wl,dq])
def AG:Env:={kl.env (kp [(12,[1,6,8,10,11,12,16,36,42,61,62,63]),(15,[1,6,8,10,11,12,16,36,42,61,62,63,70,71,72]),(25,[8,10,11,21,22,42]),(28,[8,10,11,21,22,23,42,116,117,118])]) (kp [(12,[1,8,10,11,42]),(15,[1,6,8,10,11,12,16,36,42,61,62,63]),(25,[4,11,22]),(28,[4,8,10,11,21,22,23,42])]) [] [y3,y1] with sh:=[51]}
def Wp(a:Int)(b c:af)(d:(List af))(e f g:Int)(h:(List af))(i j:Int)(l m:(cU×(ae bP×ae bP)×Int)):ae R:=lq AG ou kk dN 16372 k J ⟨uS 1 (iA a::uS 4 (pA 37 mF::uS 1 (pA 43 mF::uS 1 (sA b::sA c::dA y3 d::uS 3 (iA e::uS 19 ([.ptr 37 mF [],tI f]::uS 5 ([.ptr 43 mF [],tI g]::uS 18 (dA y3 h::iA i::iA j::uS 77 [])))))))),nS 37 ((some ⟨mF,l,[[],[0],[0,2],[1],[1,2]]⟩)::nS 5 ((some ⟨mF,m,[[],[0],[0,2],[1],[1,2]]⟩)::nS 98 []))⟩
def zdy(a:Int)(b c:af)(d:Int)(e:(cU×(ae bP×ae bP)×Int)):State:=⟨uS 1 (iA a::uS 6 (pA 43 mF::uS 1 (sA b::sA c::uS 30 ([.ptr 43 mF [],tI d]::uS 98 [])))),nS 43 ((some ⟨mF,e,[[],[0],[0,2],[1],[1,2]]⟩)::nS 98 [])⟩
def QI:KX R:=(zn 0 (sk AG ou kk dN 2047 (fk AG dN none K)))
def Wq(a:Int)(b c:af)(d:(List af))(e f g:Int)(h:(List af))(i j:Int)(l:nA)(m n:Int)(o p:(cU×(ae bP×ae bP)×Int)):ae R:=lq AG ou kk dN 4191436 k J ⟨uS 1 (iA a::uS 4 (pA 37 mF::uS 1 (pA 43 mF::uS 1 (sA b::sA c::dA y3 d::uS 3 (iA e::uS 19 ([.ptr 37 mF [],tI f]::uS 5 ([.ptr 43 mF [],tI g]::uS 18 (dA y3 h::iA i::iA j::uS 6 (dA Hg l::iA m::iA n::uS 68 []))))))))),nS 37 ((some ⟨mF,o,[[],[0],[0,2],[1],[1,2]]⟩)::nS 5 ((some ⟨mF,p,[[],[0],[0,2],[1],[1,2]]⟩)::nS 98 []))⟩
def zdz(a:Int)(b c:af)(d:(List af))(e f g:Int)(h:(List af))(i j:Int)(l m:(cU×(ae bP×ae bP)×Int)):State:=⟨uS 1 (iA a::uS 4 (pA 37 mF::uS 1 (pA 43 mF::uS 1 (sA b::sA c::dA y3 d::uS 3 (iA e::uS 19 ([.ptr 37 mF [],tI f]::uS 5 ([.ptr 43 mF [],tI g]::uS 18 (dA y3 h::iA i::iA j::uS 77 [])))))))),nS 37 ((some ⟨mF,l,[[],[0],[0,2],[1],[1,2]]⟩)::nS 5 ((some ⟨mF,m,[[],[0],[0,2],[1],[1,2]]⟩)::nS 98 []))⟩
def QJ:KX R:=(zn 2 (zn 1 (sk AG ou kk dN 130983 (lk AG ou kk dN 16372 k J))))
def Wr(a b:af)(c:Int)(d:af)(e:Int)(f:(cU×(ae bP×ae bP)×Int)):ae R:=lq AG ou kk dN 65528 k J ⟨uS 8 (pA 43 mF::uS 1 (sA a::sA b::uS 9 (iA c::sA d::uS 19 ([.ptr 43 mF [],tI e]::uS 98 [])))),nS 43 ((some ⟨mF,f,[[],[0],[0,2],[1],[1,2]]⟩)::nS 98 [])⟩
def ze0(a b:af):State:=⟨uS 11 (sA a::uS 10 (sA b::uS 118 [])),nS 142 []⟩
def ze1(a:Bool)(b c:af):State:=⟨uS 4 (bA a::uS 6 (sA b::uS 10 (sA c::uS 118 []))),nS 142 []⟩
def zts:KX R:=(zn 4 (sk AG ou kk dN 16383 (fk AG dN none K)))
def Ws(a b:af)(c:Int)(d:af)(e f:Int)(g:nA)(h i:Int)(j:(cU×(ae bP×ae bP)×Int)):ae R:=lq AG ou kk dN 8387668 k J ⟨uS 8 (pA 43 mF::uS 1 (sA a::sA b::uS 9 (iA c::sA d::iA e::uS 18 ([.ptr 43 mF [],tI f]::uS 73 (dA Hg g::iA h::iA i::uS 22 []))))),nS 43 ((some ⟨mF,j,[[],[0],[0,2],[1],[1,2]]⟩)::nS 98 [])⟩
def ze2(a:Bool)(b c:af)(d:Int)(e:af)(f g:Int)(h:(cU×(ae bP×ae bP)×Int)):State:=⟨uS 4 (bA a::uS 3 (pA 43 mF::uS 1 (sA b::sA c::uS 9 (iA d::sA e::iA f::uS 18 ([.ptr 43 mF [],tI g]::uS 98 []))))),nS 43 ((some ⟨mF,h,[[],[0],[0,2],[1],[1,2]]⟩)::nS 98 [])⟩
def ze3(a b:af)(c:Int)(d:af)(e f:Int)(g:(cU×(ae bP×ae bP)×Int)):State:=⟨uS 8 (pA 43 mF::uS 1 (sA a::sA b::uS 9 (iA c::sA d::iA e::uS 18 ([.ptr 43 mF [],tI f]::uS 98 [])))),nS 43 ((some ⟨mF,g,[[],[0],[0,2],[1],[1,2]]⟩)::nS 98 [])⟩
def ztt:KX R:=(zn 6 (sk AG ou kk dN 1048459 (zn 5 (lk AG ou kk dN 65528 k J))))
theorem akx a b c d e f g h i j l m:Wp R kk (k+1) J a b c d e f g h i j l m=
 Th a b c d e f g h i j l m (Wq R kk kk (QJ R kk k J)) (λa0 a1 a2 a3 a4=>J (.exit 0) (zdy a0 a1 a2 a3 a4)):=by kernel_rfl
theorem aea a b c d e:QI R kk K (.exit 0) (zdy a b c d e)=
 Wu a b c d e (Wr R kk kk (zts R kk K)):=by kernel_rfl
theorem aky a b c d e f g h i j l m n o p:Wq R kk (k+1) J a b c d e f g h i j l m n o p=
 ztu a b c d e f g h i j l m n o p (Wq R kk k J) (λa0 a1 a2 a3 a4 a5 a6 a7 a8 a9 uO uP=>J (.exit 2) (zdz a0 a1 a2 a3 a4 a5 a6 a7 a8 a9 uO uP)):=by kernel_rfl
theorem akz a b c d e f:Wr R kk (k+1) J a b c d e f=
 Lm a b c d e f (Ws R kk kk (ztt R kk k J)) (λa0 a1=>J (.exit 4) (ze0 a0 a1)):=by kernel_rfl
theorem aeb a b c d e f g h i j l m:QJ R kk k J (.exit 2) (zdz a b c d e f g h i j l m)=
 Wv a b c d e f g h i j l m (Wp R kk k J):=by kernel_rfl
theorem aec a b:zts R kk K (.exit 4) (ze0 a b)=
 Ww a b (λa0=>K [tB a0] none):=by kernel_rfl
theorem akA a b c d e f g h i j:Ws R kk (k+1) J a b c d e f g h i j=
 ztv a b c d e f g h i j (λa0 a1 a2 a3 a4 a5 a6 a7=>J .ret (ze2 a0 a1 a2 a3 a4 a5 a6 a7)) (Ws R kk k J) (λa0 a1 a2 a3 a4 a5 a6=>J (.exit 6) (ze3 a0 a1 a2 a3 a4 a5 a6)):=by kernel_rfl
theorem aee a b c d e f g h:ztt R kk k J .ret (ze2 a b c d e f g h)=
 ztw a b c d e f g h (λa0 a1 a2=>J .ret (ze1 a0 a1 a2)):=by kernel_rfl
theorem aef a b c d e f g:ztt R kk k J (.exit 6) (ze3 a b c d e f g)=
 zip a b c d e f g (Wr R kk k J):=by kernel_rfl
theorem aed a b c:zts R kk K .ret (ze1 a b c)=
 zn7 a b c (λa0=>K [tB a0] none):=by kernel_rfl
theorem ahr{kk:Nat}(hF:kk=bG) a b c d f g h i j l m n o p q:Wq R kk k J a b c d f g h i j l m n o p q=(Te k a b c d f g h i j l m n o p q).bind λe=>J (.exit 2) (zdz e.1 e.2.1 e.2.2.1 e.2.2.2.1 e.2.2.2.2.1 e.2.2.2.2.2.1 e.2.2.2.2.2.2.1 e.2.2.2.2.2.2.2.1 e.2.2.2.2.2.2.2.2.1 e.2.2.2.2.2.2.2.2.2.1 e.2.2.2.2.2.2.2.2.2.2.1 e.2.2.2.2.2.2.2.2.2.2.2):=by
 induction k generalizing a b c d f g h i j l m n o p q with
 |zero=>rfl
 |succ k ih=>rw[aky];simp only[Te,ztu,ih,dq]
theorem ahq{kk:Nat}(hF:kk=bG) a b c d f g h i j l m n:Wp R kk k J a b c d f g h i j l m n=(J8 k a b c d f g h i j l m n).bind λe=>J (.exit 0) (zdy e.1 e.2.1 e.2.2.1 e.2.2.2.1 e.2.2.2.2):=by
 induction k generalizing a b c d f g h i j l m n with
 |zero=>rfl
 |succ k ih=>rw[akx];simp only[J8,Th,Wv,ih,ahr (hF:=hF),aeb,dq,<-hF]
theorem aht{kk:Nat}(hF:kk=bG) a b c d f g h i j l:Ws R kk k J a b c d f g h i j l=(Tf k a b c d f g h i j l).bind λe=>(aI (λ(we:(Bool×af×af×Int×af×Int×Int×(cU×(ae bP×ae bP)×Int)))=>J .ret (ze2 we.1 we.2.1 we.2.2.1 we.2.2.2.1 we.2.2.2.2.1 we.2.2.2.2.2.1 we.2.2.2.2.2.2.1 we.2.2.2.2.2.2.2)) (λ(we:(af×af×Int×af×Int×Int×(cU×(ae bP×ae bP)×Int)))=>J (.exit 6) (ze3 we.1 we.2.1 we.2.2.1 we.2.2.2.1 we.2.2.2.2.1 we.2.2.2.2.2.1 we.2.2.2.2.2.2)) e):=by
 induction k generalizing a b c d f g h i j l with
 |zero=>rfl
 |succ k ih=>rw[akA];simp only[Tf,ztv,ih,dq]
theorem ahs{kk:Nat}(hF:kk=bG) a b c d f g:Wr R kk k J a b c d f g=(Hv k a b c d f g).bind λe=>(aI (λ(we:BU)=>J (.exit 4) (ze0 we.1 we.2)) (λ(we:(Bool×af×af))=>J .ret (ze1 we.1 we.2.1 we.2.2)) e):=by
 induction k generalizing a b c d f g with
 |zero=>rfl
 |succ k ih=>rw[akz];simp only[Hv,Lm,ztw,zip,ih,aht (hF:=hF),aee,aef,dq,<-hF]
def Ge:bH:=ou.add 5 [y3,y1] (oc y3 y1 Bj jw)
theorem abz:dV aq gt Ge:=oh AG (λR kk x0 x1 K=>Wt x0 x1 (λa0=>K [tB a0] none) (Wp R kk kk (QI R kk K))) aby (ei.sh _) Tryz.func5 (λR kk e x0 x1 K=>by simp only[jw,Bj,Wt,Wu,Ww,zn7,ahq (hF:=e),ahs (hF:=e),aea,aec,aed,dq,<-e])
end
end Go.Proofs.YtodeabafemckjaaGreatDoor

