/- No condition. -/
import Derived.Test.YtpjkbbihjoflnaaGreatDoorK4
import Derived.Test.YtpjkbbihjoflnaaGreatDoorProg
set_option linter.unusedVariables false
set_option linter.unusedSimpArgs false
set_option maxRecDepth 100000
open Go.Proofs.Builder renaming Extra->zcU
open Go.Proofs.Tryz renaming prog->ee,f138->zaw,f85->zaO,prog->zcu,underlying196->zda,underlying198->zdb,underlying99->zdg,zeroValue196->zdh,zeroValue198->zdi,underlying0->zds,underlying3->zdt,underlying9->zdu,zeroValue99->zdv,underlying5->zdw,zeroValue0->zdC,zeroValue3->zdD,zeroValue9->zdE,zeroValue5->zdF,sizeOf196->zdM,sizeOf198->zdN,sizeOf99->zdY,isAgg196->zdZ,isAgg198->zd0,f94->zd1,sizeOf0->zd5,sizeOf3->zd6,sizeOf9->zd7,isAgg99->zd8,sizeOf5->zd9,isAgg0->zem,isAgg3->zen,isAgg9->zeo,isAgg5->zep,underlying200->zev,underlying280->zew,underlying256->zex,underlying20->zeM,zeroValue200->zeN,zeroValue280->zeO,zeroValue256->zeP,underlying4->zeR,zeroValue20->zeS,f61->zeX,f56->zeY,zeroValue4->zfB,sizeOf200->zfI,sizeOf280->zfJ,sizeOf256->zfK,f195->zfL,sizeOf20->zfR,isAgg200->zfS,isAgg280->zfT,isAgg256->zfU,sizeOf4->zfY,isAgg20->zfZ,f120->zgD,isAgg4->zgE,f189->zgF,f187->zgG,f194->zgH,f35->zgV,f60->zgW,f55->zgX,f91->zgY
open Go.Shelf renaming Ren->zf7
open Nat renaming beq->xz
open Sum renaming elim->GB
namespace Go.Proofs.YtpjkbbihjoflnaaGreatDoor
noncomputable section
open Go Go.Ref bz
abbrev y0:Go.Ref.Ty:=(.int .u8)
abbrev y1:Go.Ref.Ty:=(.int .i64)
abbrev y2:Go.Ref.Ty:=(.int .u64)
abbrev y3:Go.Ref.Ty:=(.sl 9 .str)
abbrev y4:Go.Ref.Ty:=(.arr 2 .str)
abbrev y5:Go.Ref.Ty:=(.arr 2 .bool)
abbrev y6:Go.Ref.Ty:=(.pair .str .unit)
abbrev y7:Go.Ref.Ty:=(.sl 5 y0)
abbrev y8:Go.Ref.Ty:=(.sl 3 y1)
abbrev y9:Go.Ref.Ty:=(.arr 8 y0)
abbrev y10:Go.Ref.Ty:=(.arr 2 y1)
abbrev Sy:Go.Ref.Ty:=(.sl 39 y1)
abbrev NJ:Go.Ref.Ty:=(.aY .mp .str .bool)
abbrev y13:Go.Ref.Ty:=(.pair y0 .unit)
abbrev y14:Go.Ref.Ty:=(.aY .iter .unit .unit)
abbrev y15:Go.Ref.Ty:=(.pair y1 .unit)
abbrev y16:Go.Ref.Ty:=(.pair y2 .unit)
abbrev y17:Go.Ref.Ty:=(.sl 29 y8)
abbrev NK:Go.Ref.Ty:=(.pair .str y6)
abbrev A8:Go.Ref.Ty:=(.aY (.kl 198 5) .unit .unit)
abbrev y20:Go.Ref.Ty:=(.pair y7 .unit)
abbrev eD:Go.Ref.Ty:=(.pair y1 y6)
abbrev y22:Go.Ref.Ty:=(.pair .str y15)
abbrev fp:Go.Ref.Ty:=(.sl 109 NK)
abbrev b8:Go.Ref.Ty:=(.pair y1 y15)
abbrev dz:Go.Ref.Ty:=(.pair y2 y16)
abbrev y26:Go.Ref.Ty:=(.pair .bool y20)
abbrev lF:Go.Ref.Ty:=(.sl 57 eD)
abbrev oG:Go.Ref.Ty:=(.sl 107 eD)
abbrev y29:Go.Ref.Ty:=(.pair y5 y15)
abbrev mD:Go.Ref.Ty:=(.sl 208 eD)
abbrev na:Go.Ref.Ty:=(.sl 245 eD)
abbrev y32:Go.Ref.Ty:=(.pair fp .unit)
abbrev y33:Go.Ref.Ty:=(.pair y1 (.pair .bool y13))
abbrev y34:Go.Ref.Ty:=(.pair y1 y22)
abbrev y35:Go.Ref.Ty:=(.aY (.xW 99) eD .unit)
abbrev y36:Go.Ref.Ty:=(.pair oG .unit)
abbrev y37:Go.Ref.Ty:=(.pair mD .unit)
abbrev y38:Go.Ref.Ty:=(.pair y1 b8)
abbrev gZ:Go.Ref.Ty:=(.pair y1 y26)
abbrev y40:Go.Ref.Ty:=(.pair .str y32)
abbrev aP:Go.Ref.Ty:=(.pair .str y37)
abbrev y42:Go.Ref.Ty:=(.pair y10 y29)
abbrev y43:Go.Ref.Ty:=(.pair y1 y33)
abbrev Hb:Go.Ref.Ty:=(.pair y1 y34)
abbrev y45:Go.Ref.Ty:=(.pair y1 y38)
abbrev j7:Go.Ref.Ty:=(.sl 71 Hb)
abbrev y47:Go.Ref.Ty:=(.pair y1 y40)
abbrev y48:Go.Ref.Ty:=(.pair y8 y36)
abbrev mE:Go.Ref.Ty:=(.pair y4 y42)
abbrev b6:Go.Ref.Ty:=(.pair y1 y45)
abbrev y51:Go.Ref.Ty:=(.pair y1 y47)
abbrev y52:Go.Ref.Ty:=(.sl 127 b6)
abbrev cV:Go.Ref.Ty:=(.pair y1 y51)
abbrev y54:Go.Ref.Ty:=(.pair y52 .unit)
abbrev uH:Go.Ref.Ty:=(.sl 102 cV)
abbrev y56:Go.Ref.Ty:=(.pair y1 y54)
abbrev y57:Go.Ref.Ty:=(.pair uH .unit)
abbrev aG:Go.Ref.Ty:=(.pair y1 y56)
abbrev y59:Go.Ref.Ty:=(.sl 24 aG)
abbrev cp:Go.Ref.Ty:=(.pair fp y57)
abbrev y61:Go.Ref.Ty:=(.pair cp y48)
abbrev cu:Go.Ref.Ty:=(.pair aG y61)
abbrev y63:Go.Ref.Ty:=(.arr 2 cu)
abbrev cF:Go.Ref.Ty:=(.pair y63 y15)
abbrev fL:Go.Ref.Ty:=(.aY .cX cF gZ)
def NI:List (Option Ty):=[none,none,some y1,some y1,some .bool,some y0,some y0,some y43,some y43,some .str,some .str,some .str,some y2,none,none,none,none,none,none,none,none,some (.int .i32),some y52,some aG,some aG,some fp,some uH,some cp,some cp,some y8,some oG,some cu,some cu,some y63,some cF,some cF,none,none,none,some y1,none,none,none,none,none,none,some lF,none,none,none,none,some y4,some y10,some y5,some mE,some mE,some eD,some eD,none,some j7,none,none,none,none,none,none,some y3,none,none,none,some Hb,some Hb,none,none,none,none,none,none,none,none,none,none,none,none,none,none,none,none,none,none,none,none,none,none,none,none,none,none,none,some y7,none,some cV,some cV,none,none,none,some eD,some eD,some NK,some NK,none,none,none,some gZ,some gZ,none,none,none,none,none,none,none,none,none,some y17,none,some b6,some b6,none,none,none,none,none,none,some y59,none,none,some y2,some dz,some dz,none,none,none,none,none,none,none,none,none,none,none,none,none,none,some y2,some mD,some aP,some aP,some b8,some b8,none,none,none,none,none,none,none,none,none,none,none,none,none,none,none,none,none,none,none,none,none,none,none,none,none,none,some na,none,none,none,none,none,none,none,none,none,none,none,none,none,none,none,none,none,none,none,none,some eD,some eD,none,none,none,none,none,none,none,none,none,none,none,none,none,none,none,none,none,none,none,none,none,none,none,none,none,none,none,none,none,none,none,none,none,none,none,some eD,some eD,none,none,none,some Sy,none,none,some y9,none,none,none,none,none,none,none,none,none,none,none,none,none,none,none,none,none,none,none,none,none,none,none,none,none,none,none,none,none,none,none,none,none,none,none,none,none,none,some (.arr 256 .bool),some (.arr 256 .bool),none,none,none,none,some (.int .u32),none,none,none,none,none,none,none,none,some (.arr 256 y0),some (.pair y0 y13),some (.pair y0 y13),some (.arr 16 (.pair y0 y13)),none,none,none,none,none,none,none,none,some y0,some y0,none,some (.int .i32),some (.int .i32),none,none]
def bts:List Nat:=[0,8,8,8,1,1,1,24,24,16,16,16,8,24,24,8,8,8,8,8,16,4,24,40,40,24,24,48,48,24,24,136,136,272,280,280,8,8,8,8,0,8,8,8,8,8,24,0,8,8,8,32,16,2,64,64,24,24,8,24,8,8,8,8,8,8,24,8,8,8,40,40,8,8,8,8,0,8,8,8,8,8,0,8,8,16,304,304,8,0,8,8,0,8,0,8,8,8,8,24,8,64,64,8,8,8,24,24,32,32,8,8,8,40,40,8,8,8,8,0,8,0,8,8,24,8,40,40,0,8,0,8,8,8,24,8,8,8,16,16,8,8,8,8,8,8,8,8,8,8,0,8,8,8,8,24,40,40,16,16,0,8,0,8,8,0,8,8,8,8,8,8,8,8,0,8,0,8,8,8,8,8,0,8,8,8,24,0,8,8,8,8,8,8,8,8,8,32,32,16,16,0,8,8,8,8,8,24,24,8,8,0,8,0,8,8,8,0,8,0,8,0,8,0,8,8,8,8,0,8,8,8,8,0,8,8,8,0,8,8,8,8,8,8,24,24,8,8,8,24,0,8,8,8,8,8,8,0,8,0,8,8,8,8,0,8,0,8,8,0,8,8,8,8,8,8,8,8,8,8,8,8,8,8,8,8,0,8,8,8,8,256,256,0,8,8,8,4,0,8,8,0,8,8,8,8,256,2,2,32,8,8,8,40,40,0,0,0,1,1,8,4,4,48,48]
def E6:List Bool:=[false,false,false,false,false,false,false,false,false,false,false,false,false,false,false,true,true,true,false,false,false,false,false,false,false,false,false,false,false,false,false,false,false,false,false,false,false,false,true,false,false,false,false,false,false,false,false,false,false,false,true,false,false,false,false,false,false,false,false,false,false,false,false,false,false,false,false,false,false,false,false,false,false,false,false,false,false,false,false,false,false,false,false,false,true,false,false,false,false,false,false,false,false,false,false,false,false,false,false,false,false,false,false,false,false,false,false,false,false,false,false,false,false,false,false,false,false,false,false,false,false,false,false,false,false,false,false,false,false,false,false,false,false,false,false,false,false,false,false,false,false,false,false,false,false,false,false,false,false,false,false,false,false,false,false,false,false,false,false,false,false,false,false,false,false,false,false,false,false,false,false,false,false,false,false,false,false,false,false,false,false,false,false,false,false,false,false,false,false,false,false,false,false,false,false,false,true,false,false,false,false,false,false,false,false,false,false,false,false,false,false,false,false,false,false,false,false,false,false,false,false,false,false,false,false,false,false,false,false,false,false,false,false,false,false,false,false,false,false,false,false,false,false,false,false,false,false,false,false,false,false,false,false,false,false,false,true,false,false,false,false,false,false,false,false,false,false,false,false,false,false,false,false,false,false,false,false,false,false,false,false,false,false,false,false,false,false,false,false,false,false,false,false,false,false,false,true,false,false,false,false,false,false,false,false,false,false,false,false,false,false,false,false,false,false,false,false,false,false,false,false,false,false,false,false]
def mps:List (TypeId×TypeId×TypeId):=[(135,9,4),(277,3,4)]
def bU:ti:=⟨NI,bts,E6,mps⟩
theorem LR:bU.ok ee=true:=by kernel_rfl
theorem ei{a b c d}:ak ee (bU.env a b c d):=ti.pH LR a b c d
abbrev e0(ps:List Ty):Env:=bU.env (λ_=>[]) (λ_=>[]) [] ps
abbrev uS(n:Nat)(l:List (List SV)):List (List SV):=Nat.rec (motive:=λ_=>List (List SV)) l (λ_ r=>[.undef]::r) n
abbrev nS(n:Nat)(l:List (Option bH)):List (Option bH):=Nat.rec (motive:=λ_=>List (Option bH)) l (λ_ r=>none::r) n
def Tb0:ai:=ai.none
theorem o0:aL ee Tb0:= .none (by kernel_rfl)
def ND:eG wh:=λ_ r K=>K [.aq aP r.1 [[1]],.aq b8 r.2 []] none
def lf4:eG (aT×Int):=λ_ r K=>K [.aq eD r.1 [],tI r.2] none
def AB:eG (bP×(ax×(Option ar×Option ar)×Int)):=λ_ r K=>K [.aq j7 r.1 []] (some ⟨fL,r.2,[[],[0],[0,2],[1],[1,2]]⟩)
def AD:eG (Bool×aT):=λ_ r K=>K [tB r.1] (some ⟨eD,r.2,[]⟩)
def tR:eG ag:=λ_ r K=>K [.aq aP r [[1]]] none
def dR:eG iH:=λ_ r K=>K [tS r.1,tB r.2] none
def AE:eG (ByteArray×Int×Bool):=λ_ r K=>K [tS r.1,tI r.2.1,tB r.2.2] none
def lT:eG jM:=λ_ r K=>K [tS r.1,tI r.2.1,tI r.2.2] none
def ku:eG Ej:=λ_ r K=>K [tS r.1,tI r.2] none
def AF:eG (Int×(ax×(Option ar×Option ar)×Int)):=λ_ r K=>K [tI r.1] (some ⟨fL,r.2,[[],[0],[0,2],[1],[1,2]]⟩)
def AG:eG tn:=λ_ r K=>K [tI r.1] (some ⟨gZ,r.2,[[2]]⟩)
def n4:eG (Int×Bool):=λ_ r K=>K [tI r.1,tB r.2] none
def n5:eG Nl:=λ_ r K=>K [tI r.1,tS r.2] none
def AH:eG ah:=λ_ r K=>K [.aq aG r [[2]]] none
def ej:eG jy:=λ_ r K=>K [tI r.1,tI r.2.1,tI r.2.2] none
def AJ:eG aH:=λ_ r K=>K [.aq b8 r []] none
def jk:eG aH:=λ_ r K=>K [.aq dz r []] none
def n6:eG (Int×Int):=λ_ r K=>K [tI r.1,tI r.2] none
def AK:eG bd:=λ_ r K=>K [.aq fp r []] none
def AL:eG (Sum kh kh):=λ_ r K=>(GB (λ(wr:kh)=>K [.aq na wr.1 [[]],tI wr.2.1,tI wr.2.2] none) (λ(wr:kh)=>K [.aq na wr.1 [],tI wr.2.1,tI wr.2.2] none) r)
def bg:eG Bool:=λ_ r K=>K [tB r] none
def dE:eG ByteArray:=λ_ r K=>K [tS r] none
def bI:eG Int:=λ_ r K=>K [tI r] none
variable (R:Type) (kk k:Nat) (K:KF R) (J:KX R)
def zxd:Env:=bU.env (kp [(4,[1,3])]) (kp [(4,[2])]) [] [cu]
def zos(a:Int)(b:ay):Option R:=lq zxd Tb0 kk Tryz.f34 116 k J ⟨uS 1 (pA 2 cu::uS 1 (iA a::uS 32 [])),nS 2 (oA cu b::nS 34 [])⟩
def zhy(a:Bool):State:=⟨uS 2 (bA a::uS 33 []),nS 37 []⟩
def zhz:State:=⟨uS 36 [],nS 37 []⟩
def H6:KX R:=(zk 0 (sk zxd Tb0 kk Tryz.f34 15 (fk zxd Tryz.f34 none K)))
theorem anK a b:zos R kk (k+1) J a b=
 H7 a b (λa0=>J .ret (zhy a0)) (zos R kk k J) (J (.exit 0) (zhz)):=by kernel_rfl
theorem agt a:H6 R kk K .ret (zhy a)=
 H8 a (λa0=>K [tB a0] none):=by kernel_rfl
theorem agu:H6 R kk K (.exit 0) (zhz)=
 H9 (λa0=>K [tB a0] none):=by kernel_rfl
theorem akj{kk:Nat}(hF:kk=af) a b:zos R kk k J a b=(ZU k a b).bind λe=>(GB (λ(we:Bool)=>J .ret (zhy we)) (λ(we:Unit)=>J (.exit 0) (zhz)) e):=by
 induction k generalizing a b with
 |zero=>rfl
 |succ k ih=>rw[anK];simp only[ZU,H7,ih,av]
def Tb1:ai:=Tb0.add 34 [cu] (cO cu nv bg)
theorem o1:aL ee Tb1:=cP zxd (λR kk x0 K=>zot x0 (λa0=>K [tB a0] none) (zos R kk kk (H6 R kk K))) o0 ei Tryz.func34 (λR kk e x0 K=>by simp only[bg,nv,zot,H8,H9,akj (hF:=e),agt,agu,av,<-e])
def zx7:Env:=bU.env (kp [(4,[1,3])]) (kp [(4,[2])]) [] [cV]
def znr(a:Int)(b:aN):Option R:=lq zx7 Tb1 kk Tryz.f54 116 k J ⟨uS 1 (pA 2 cV::uS 1 (iA a::uS 35 [])),nS 2 (oA cV b::nS 37 [])⟩
def zha(a:Bool):State:=⟨uS 2 (bA a::uS 36 []),nS 40 []⟩
def zhb:State:=⟨uS 39 [],nS 40 []⟩
def HH:KX R:=(zk 0 (sk zx7 Tb1 kk Tryz.f54 15 (fk zx7 Tryz.f54 none K)))
theorem anu a b:znr R kk (k+1) J a b=
 ZF a b (λa0=>J .ret (zha a0)) (znr R kk k J) (J (.exit 0) (zhb)):=by kernel_rfl
theorem af3 a:HH R kk K .ret (zha a)=
 HI a (λa0=>K [tB a0] none):=by kernel_rfl
theorem af4:HH R kk K (.exit 0) (zhb)=
 HJ (λa0=>K [tB a0] none):=by kernel_rfl
theorem aj4{kk:Nat}(hF:kk=af) a b:znr R kk k J a b=(Cv k a b).bind λe=>(GB (λ(we:Bool)=>J .ret (zha we)) (λ(we:Unit)=>J (.exit 0) (zhb)) e):=by
 induction k generalizing a b with
 |zero=>rfl
 |succ k ih=>rw[anu];simp only[Cv,ZF,ih,av]
def Nk:ai:=Tb1.add 54 [cV] (cO cV pd bg)
theorem o2:aL ee Nk:=cP zx7 (λR kk x0 K=>zns x0 (λa0=>K [tB a0] none) (znr R kk kk (HH R kk K))) o1 ei Tryz.func54 (λR kk e x0 K=>by simp only[bg,pd,zns,HI,HJ,aj4 (hF:=e),af3,af4,av,<-e])
def ML:Env:=bU.env (kp [(4,[1,3]),(9,[1,4])]) (kp [(4,[1,2]),(9,[2])]) [] [cp]
def zo1(a:Int)(b:az):Option R:=lq ML Nk kk zgV 116 k J ⟨uS 1 (pA 2 cp::uS 1 (iA a::uS 49 [])),nS 2 (oA cp b::nS 51 [])⟩
def zhi(a:Bool)(b:az):State:=⟨uS 1 (pA 2 cp::bA a::uS 50 []),nS 2 (oA cp b::nS 51 [])⟩
def zhj(a:az):State:=⟨uS 1 (pA 2 cp::uS 51 []),nS 2 (oA cp a::nS 51 [])⟩
def HT:KX R:=(zk 0 (sk ML Nk kk zgV 15 (fk ML zgV none K)))
def zo2(a:Int)(b:az):Option R:=lq ML Nk kk zgV 244 k J ⟨uS 1 (pA 2 cp::uS 2 (iA a::uS 48 [])),nS 2 (oA cp b::nS 51 [])⟩
def zhk(a:Bool):State:=⟨uS 2 (bA a::uS 50 []),nS 54 []⟩
def zhl:State:=⟨uS 53 [],nS 54 []⟩
def HU:KX R:=(zk 2 (sk ML Nk kk zgV 31 (fk ML zgV none K)))
theorem anA a b:zo1 R kk (k+1) J a b=
 ZL a b (λa0 a1=>J .ret (zhi a0 a1)) (zo1 R kk k J) (λa0=>J (.exit 0) (zhj a0)):=by kernel_rfl
theorem agc a b:HT R kk K .ret (zhi a b)=
 HV a b (λa0=>K [tB a0] none):=by kernel_rfl
theorem agd a:HT R kk K (.exit 0) (zhj a)=
 zo4 a (zo2 R kk kk (HU R kk K)):=by kernel_rfl
theorem anB a b:zo2 R kk (k+1) J a b=
 HW a b (λa0=>J .ret (zhk a0)) (zo2 R kk k J) (J (.exit 2) (zhl)):=by kernel_rfl
theorem age a:HU R kk K .ret (zhk a)=
 HX a (λa0=>K [tB a0] none):=by kernel_rfl
theorem agf:HU R kk K (.exit 2) (zhl)=
 HY (λa0=>K [tB a0] none):=by kernel_rfl
theorem aj9{kk:Nat}(hF:kk=af) a b:zo1 R kk k J a b=(Cw k a b).bind λe=>(GB (λ(we:(Bool×az))=>J .ret (zhi we.1 we.2)) (λ(we:az)=>J (.exit 0) (zhj we)) e):=by
 induction k generalizing a b with
 |zero=>rfl
 |succ k ih=>rw[anA];simp only[Cw,ZL,ih,av]
theorem aka{kk:Nat}(hF:kk=af) a b:zo2 R kk k J a b=(ZK k a b).bind λe=>(GB (λ(we:Bool)=>J .ret (zhk we)) (λ(we:Unit)=>J (.exit 2) (zhl)) e):=by
 induction k generalizing a b with
 |zero=>rfl
 |succ k ih=>rw[anB];simp only[ZK,HW,ih,av]
def Tb3:ai:=Nk.add 35 [cp] (cO cp mK bg)
theorem o3:aL ee Tb3:=cP ML (λR kk x0 K=>zo3 x0 (λa0=>K [tB a0] none) (zo1 R kk kk (HT R kk K))) o2 ei Tryz.func35 (λR kk e x0 K=>by simp only[bg,mK,zo3,HV,zo4,HX,HY,aj9 (hF:=e),aka (hF:=e),agc,agd,age,agf,av,<-e])
def XZ:Env:=e0 [cF]
def Tb4:ai:=Tb3.add 11 [cF] (cO cF kd bg)
theorem o4:aL ee Tb4:=cP XZ (λR kk x0 K=>zoz x0 (λa0=>K [tB a0] none)) o3 ei Tryz.func11 (λR kk e x0 K=>by simp only[bg,kd,zoz,av])
def zxl:Env:=bU.env (kp [(3,[0,1,5,6])]) (kp [(3,[1,4,5])]) [] [lF,y1]
def zpb(a:al)(b c d:Int):Option R:=lq zxl Tb4 kk Tryz.f19 116 k J ⟨dA lF a::iA b::uS 3 (iA c::iA d::uS 32 []),nS 40 []⟩
def zia(a:Int)(b:Bool)(c:Int):State:=⟨uS 1 (iA a::uS 2 (bA b::iA c::uS 33 [])),nS 40 []⟩
def zib(a b:Int):State:=⟨uS 1 (iA a::uS 3 (iA b::uS 33 [])),nS 40 []⟩
def Iw:KX R:=(zk 0 (sk zxl Tb4 kk Tryz.f19 15 (fk zxl Tryz.f19 none K)))
theorem anR a b c d:zpb R kk (k+1) J a b c d=
 Mr a b c d (λa0 a1 a2=>J .ret (zia a0 a1 a2)) (zpb R kk k J) (λa0 a1=>J (.exit 0) (zib a0 a1)):=by kernel_rfl
theorem agE a b c:Iw R kk K .ret (zia a b c)=
 Ix a b c (λa0=>K [tB a0] none):=by kernel_rfl
theorem agF a b:Iw R kk K (.exit 0) (zib a b)=
 Iy a b (λa0=>K [tB a0] none):=by kernel_rfl
theorem akq{kk:Nat}(hF:kk=af) a b c d:zpb R kk k J a b c d=(ZW k a b c d).bind λe=>(GB (λ(we:QH)=>J .ret (zia we.1 we.2.1 we.2.2)) (λ(we:(Int×Int))=>J (.exit 0) (zib we.1 we.2)) e):=by
 induction k generalizing a b c d with
 |zero=>rfl
 |succ k ih=>rw[anR];simp only[ZW,Mr,ih,av]
def Tb5:ai:=Tb4.add 19 [lF,y1] (cY lF y1 jx bg)
theorem o5:aL ee Tb5:=dc zxl (λR kk x0 x1 K=>ZX x0 x1 (zpb R kk kk (Iw R kk K))) o4 ei Tryz.func19 (λR kk e x0 x1 K=>by simp only[bg,jx,ZX,Ix,Iy,akq (hF:=e),agE,agF,av,<-e])
def vW:Env:=e0 [b6]
def Tb6:ai:=Tb5.add 109 [b6] (cO b6 xS bI)
theorem o6:aL ee Tb6:=cP vW (λR kk x0 K=>BN x0 (λa0=>K [tI a0] none)) o5 ei Tryz.func109 (λR kk e x0 K=>by simp only[bI,xS,BN,av])
def qW:Env:=bU.env (kp [(7,[1,4,5])]) (kp [(7,[2,3])]) [] [aG]
def BS(a b:Int)(c:ah):Option R:=lq qW Tb6 kk Tryz.f108 500 k J ⟨uS 1 (pA 2 aG::uS 2 (iA a::iA b::uS 49 [])),nS 2 (oA aG c::nS 53 [])⟩
def zvl(a b:Int):State:=⟨uS 2 (iA a::iA b::uS 51 []),nS 56 []⟩
def zvm:State:=⟨uS 55 [],nS 56 []⟩
def Lx:KX R:=(zk 0 (sk qW Tb6 kk Tryz.f108 63 (fk qW Tryz.f108 none K)))
theorem aq6 a b c:BS R kk (k+1) J a b c=
 zkr a b c (λa0 a1=>J .ret (zvl a0 a1)) (BS R kk k J) (J (.exit 0) (zvm)):=by kernel_rfl
theorem alT a b:Lx R kk K .ret (zvl a b)=
 BT a b (λa0 a1=>K [tI a0,tI a1] none):=by kernel_rfl
theorem alU:Lx R kk K (.exit 0) (zvm)=
 BU (λa0 a1=>K [tI a0,tI a1] none):=by kernel_rfl
theorem apc{kk:Nat}(hF:kk=af) a b c:BS R kk k J a b c=(CK k a b c).bind λe=>(GB (λ(we:(Int×Int))=>J .ret (zvl we.1 we.2)) (λ(we:Unit)=>J (.exit 0) (zvm)) e):=by
 induction k generalizing a b c with
 |zero=>rfl
 |succ k ih=>rw[aq6];simp only[CK,zkr,ih,av]
def Tb7:ai:=Tb6.add 108 [aG] (cO aG PJ n6)
theorem o7:aL ee Tb7:=cP qW (λR kk x0 K=>OW x0 (λa0 a1=>K [tI a0,tI a1] none) (λa0 a1 a2=>BS R kk kk (Lx R kk K) a0 a1 a2)) o6 ei Tryz.func108 (λR kk e x0 K=>by simp only[n6,PJ,adY,BT,BU,apc (hF:=e),alT,alU,av,<-e])
def PM:Env:=e0 [aG]
def Tb8:ai:=Tb7.add 77 [aG] (cO aG yQ bg)
theorem o8:aL ee Tb8:=cP PM (λR kk x0 K=>BZ x0 (λa0=>K [tB a0] none)) o7 ei Tryz.func77 (λR kk e x0 K=>by simp only[bg,yQ,BZ,av])
def qX:Env:=bU.env (kp [(2,[1,2,5])]) (kp [(2,[4])]) [] [aG,y1]
def BW(a b:Int)(c:ah):Option R:=lq qX Tb8 kk Tryz.f78 52 k J ⟨uS 1 (iA a::pA 3 aG::uS 2 (iA b::uS 16 [])),nS 3 (oA aG c::nS 19 [])⟩
def zvn(a:Int):State:=⟨uS 4 (iA a::uS 17 []),nS 23 []⟩
def zvo:State:=⟨uS 22 [],nS 23 []⟩
def Ly:KX R:=(zk 0 (sk qX Tb8 kk Tryz.f78 7 (fk qX Tryz.f78 none K)))
theorem aq7 a b c:BW R kk (k+1) J a b c=
 Lz a b c (λa0=>J .ret (zvn a0)) (BW R kk k J) (J (.exit 0) (zvo)):=by kernel_rfl
theorem alV a:Ly R kk K .ret (zvn a)=
 LA a (λa0=>K [tI a0] none):=by kernel_rfl
theorem alW:Ly R kk K (.exit 0) (zvo)=
 LB (λa0=>K [tI a0] none):=by kernel_rfl
theorem apd{kk:Nat}(hF:kk=af) a b c:BW R kk k J a b c=(zks k a b c).bind λe=>(GB (λ(we:Int)=>J .ret (zvn we)) (λ(we:Unit)=>J (.exit 0) (zvo)) e):=by
 induction k generalizing a b c with
 |zero=>rfl
 |succ k ih=>rw[aq7];simp only[zks,Lz,ih,av]
def Tb9:ai:=Tb8.add 78 [aG,y1] (cY aG y1 uy bI)
theorem o9:aL ee Tb9:=dc qX (λR kk x0 x1 K=>BX x0 x1 (BW R kk kk (Ly R kk K))) o8 ei Tryz.func78 (λR kk e x0 x1 K=>by simp only[bI,uy,BX,LA,LB,apd (hF:=e),alV,alW,av,<-e])
def qL:Env:=bU.env (kp [(2,[0,1,5])]) (kp [(2,[4])]) [] [y8,y1]
def Bu(a:(List Int))(b c:Int):Option R:=lq qL Tb9 kk Tryz.f79 52 k J ⟨dA y8 a::iA b::uS 3 (iA c::uS 12 []),nS 19 []⟩
def zva(a:Bool):State:=⟨uS 4 (bA a::uS 13 []),nS 19 []⟩
def zvb:State:=⟨uS 18 [],nS 19 []⟩
def Lh:KX R:=(zk 0 (sk qL Tb9 kk Tryz.f79 7 (fk qL Tryz.f79 none K)))
theorem aqW a b c:Bu R kk (k+1) J a b c=
 zke a b c (λa0=>J .ret (zva a0)) (Bu R kk k J) (J (.exit 0) (zvb)):=by kernel_rfl
theorem alE a:Lh R kk K .ret (zva a)=
 Li a (λa0=>K [tB a0] none):=by kernel_rfl
theorem alF:Lh R kk K (.exit 0) (zvb)=
 Lj (λa0=>K [tB a0] none):=by kernel_rfl
theorem aoS{kk:Nat}(hF:kk=af) a b c:Bu R kk k J a b c=(M3 k a b c).bind λe=>(GB (λ(we:Bool)=>J .ret (zva we)) (λ(we:Unit)=>J (.exit 0) (zvb)) e):=by
 induction k generalizing a b c with
 |zero=>rfl
 |succ k ih=>rw[aqW];simp only[M3,zke,ih,av]
def yS:ai:=Tb9.add 79 [y8,y1] (cY y8 y1 xQ bg)
theorem o10:aL ee yS:=dc qL (λR kk x0 x1 K=>Bv x0 x1 (Bu R kk kk (Lh R kk K))) o9 ei Tryz.func79 (λR kk e x0 x1 K=>by simp only[bg,xQ,Bv,Li,Lj,aoS (hF:=e),alE,alF,av,<-e])
def zxe:Env:=bU.env (kp [(2,[0,1,2,7])]) (kp [(2,[6])]) [] [oG,y1,y1]
def zou(a:al)(b c d:Int):Option R:=lq zxe yS kk Tryz.f80 52 k J ⟨dA oG a::iA b::iA c::uS 4 (iA d::uS 13 []),nS 22 []⟩
def zi0(a:Int):State:=⟨uS 6 (iA a::uS 14 []),nS 22 []⟩
def zi1:State:=⟨uS 21 [],nS 22 []⟩
def Ia:KX R:=(zk 0 (sk zxe yS kk Tryz.f80 7 (fk zxe Tryz.f80 none K)))
theorem anL a b c d:zou R kk (k+1) J a b c d=
 Mo a b c d (λa0=>J .ret (zi0 a0)) (zou R kk k J) (J (.exit 0) (zi1)):=by kernel_rfl
theorem agv a:Ia R kk K .ret (zi0 a)=
 Ib a (λa0=>K [tI a0] none):=by kernel_rfl
theorem agw:Ia R kk K (.exit 0) (zi1)=
 Ic (λa0=>K [tI a0] none):=by kernel_rfl
theorem akk{kk:Nat}(hF:kk=af) a b c d:zou R kk k J a b c d=(yn k a b c d).bind λe=>(GB (λ(we:Int)=>J .ret (zi0 we)) (λ(we:Unit)=>J (.exit 0) (zi1)) e):=by
 induction k generalizing a b c d with
 |zero=>rfl
 |succ k ih=>rw[anL];simp only[yn,Mo,ih,av]
def PN:ai:=yS.add 80 [oG,y1,y1] (iF oG y1 y1 lK bI)
theorem o11:aL ee PN:=iK zxe (λR kk x0 x1 x2 K=>ZV x0 x1 x2 (zou R kk kk (Ia R kk K))) o10 ei Tryz.func80 (λR kk e x0 x1 x2 K=>by simp only[bI,lK,ZV,Ib,Ic,akk (hF:=e),agv,agw,av,<-e])
def PB:Env:=e0 [y1,y0]
def yT:ai:=PN.add 158 [y1,y0] (cY y1 y0 Db bg)
theorem o12:aL ee yT:=dc PB (λR kk x0 x1 K=>Bp x0 x1 (λa0=>K [tB a0] none)) o11 ei Tryz.func158 (λR kk e x0 x1 K=>by simp only[bg,Db,Bp,av])
def qJ:Env:=bU.env (kp [(2,[0,1,5])]) (kp [(2,[4])]) [] [y1,.str]
def Bm(a:Int)(b:ByteArray)(c:Int):Option R:=lq qJ yT kk Tryz.f110 52 k J ⟨iA a::sA b::uS 3 (iA c::uS 13 []),nS 20 []⟩
def zv6(a:Int):State:=⟨uS 4 (iA a::uS 14 []),nS 20 []⟩
def zv7:State:=⟨uS 19 [],nS 20 []⟩
def La:KX R:=(zk 0 (sk qJ yT kk Tryz.f110 7 (fk qJ Tryz.f110 none K)))
theorem aqU a b c:Bm R kk (k+1) J a b c=
 zkd a b c (λa0=>J .ret (zv6 a0)) (Bm R kk k J) (J (.exit 0) (zv7)):=by kernel_rfl
theorem alA a:La R kk K .ret (zv6 a)=
 Lb a (λa0=>K [tI a0] none):=by kernel_rfl
theorem alB:La R kk K (.exit 0) (zv7)=
 Lc (λa0=>K [tI a0] none):=by kernel_rfl
theorem aoQ{kk:Nat}(hF:kk=af) a b c:Bm R kk k J a b c=(M1 k a b c).bind λe=>(GB (λ(we:Int)=>J .ret (zv6 we)) (λ(we:Unit)=>J (.exit 0) (zv7)) e):=by
 induction k generalizing a b c with
 |zero=>rfl
 |succ k ih=>rw[aqU];simp only[M1,zkd,ih,av]
def PO:ai:=yT.add 110 [y1,.str] (cY y1 .str PA bI)
theorem o13:aL ee PO:=dc qJ (λR kk x0 x1 K=>Bn x0 x1 (Bm R kk kk (La R kk K))) o12 ei Tryz.func110 (λR kk e x0 x1 K=>by simp only[bI,PA,Bn,Lb,Lc,aoQ (hF:=e),alA,alB,av,<-e])
def qQ:Env:=e0 [y0]
def PQ:ai:=PO.add 207 [y0] (cO y0 De bI)
theorem o14:aL ee PQ:=cP qQ (λR kk x0 K=>Ll x0 (λa0=>K [tI a0] none)) o13 ei Tryz.func207 (λR kk e x0 K=>by simp only[bI,De,Ll,av])
def nE:Env:=e0 [.str,y1]
def PR:ai:=PQ.add 159 [.str,y1] (cY .str y1 Df ej)
theorem o15:aL ee PR:=dc nE (λR kk x0 x1 K=>zkm x0 x1 (λa0 a1 a2=>K [tI a0,tI a1,tI a2] none)) o14 ei Tryz.func159 (λR kk e x0 x1 K=>by simp only[ej,Df,zkm,av])
def yU:ai:=PR.add 160 [.str,y1] (cY .str y1 Dg ej)
theorem o16:aL ee yU:=dc nE (λR kk x0 x1 K=>zkn x0 x1 (λa0 a1 a2=>K [tI a0,tI a1,tI a2] none)) o15 ei Tryz.func160 (λR kk e x0 x1 K=>by simp only[ej,Dg,zkn,av])
def qS:Env:=bU.env (kp [(2,[0,1,2,7])]) (kp [(2,[6])]) [] [na,y1,y1]
def BL(a:al)(b c d:Int):Option R:=lq qS yU kk Tryz.f161 52 k J ⟨dA na a::iA b::iA c::uS 4 (iA d::uS 12 []),nS 21 []⟩
def zvj(a:Bool):State:=⟨uS 6 (bA a::uS 13 []),nS 21 []⟩
def zvk:State:=⟨uS 20 [],nS 21 []⟩
def Lp:KX R:=(zk 0 (sk qS yU kk Tryz.f161 7 (fk qS Tryz.f161 none K)))
theorem aq4 a b c d:BL R kk (k+1) J a b c d=
 zkq a b c d (λa0=>J .ret (zvj a0)) (BL R kk k J) (J (.exit 0) (zvk)):=by kernel_rfl
theorem alK a:Lp R kk K .ret (zvj a)=
 Lq a (λa0=>K [tB a0] none):=by kernel_rfl
theorem z208:Lp R kk K (.exit 0) (zvk)=
 Lr (λa0=>K [tB a0] none):=by kernel_rfl
theorem ao0{kk:Nat}(hF:kk=af) a b c d:BL R kk k J a b c d=(M7 k a b c d).bind λe=>(GB (λ(we:Bool)=>J .ret (zvj we)) (λ(we:Unit)=>J (.exit 0) (zvk)) e):=by
 induction k generalizing a b c d with
 |zero=>rfl
 |succ k ih=>rw[aq4];simp only[M7,zkq,ih,av]
def yV:ai:=yU.add 161 [na,y1,y1] (iF na y1 y1 PG bg)
theorem o17:aL ee yV:=iK qS (λR kk x0 x1 x2 K=>BM x0 x1 x2 (BL R kk kk (Lp R kk K))) o16 ei Tryz.func161 (λR kk e x0 x1 x2 K=>by simp only[bg,PG,BM,Lq,Lr,ao0 (hF:=e),alK,z208,av,<-e])
def qR:Env:=bU.env (kp [(3,[0,5,6])]) (kp [(3,[2,3,4,5])]) [] [.str]
def BK(a:ByteArray)(b:al)(c:Int):Option R:=lq qR yV kk Tryz.f111 120 k J ⟨sA a::uS 4 (dB na b::iA c::uS 61 []),nS 69 []⟩
def zvh(a:al)(b c:Int)(d:al):State:=⟨uS 2 (dB na a::iA b::iA c::dB na d::uS 62 []),nS 69 []⟩
def zvi(a:al):State:=⟨uS 5 (dB na a::uS 62 []),nS 69 []⟩
def Lm:KX R:=(zk 0 (sk qR yV kk Tryz.f111 31 (fk qR Tryz.f111 none K)))
theorem aq3 a b c:BK R kk (k+1) J a b c=
 zkp a b c (λa0 a1 a2 a3=>J .ret (zvh a0 a1 a2 a3)) (BK R kk k J) (λa0=>J (.exit 0) (zvi a0)):=by kernel_rfl
theorem alJ a b c d:Lm R kk K .ret (zvh a b c d)=
 Ln a b c d (λa0 a1 a2=>K [.aq na a0 [[]],tI a1,tI a2] none):=by kernel_rfl
theorem z206 a:Lm R kk K (.exit 0) (zvi a)=
 Lo a (λa0 a1 a2=>K [.aq na a0 [],tI a1,tI a2] none):=by kernel_rfl
theorem aoZ{kk:Nat}(hF:kk=af) a b c:BK R kk k J a b c=(FJ k a b c).bind λe=>(GB (λ(we:tu)=>J .ret (zvh we.1 we.2.1 we.2.2.1 we.2.2.2)) (λ(we:al)=>J (.exit 0) (zvi we)) e):=by
 induction k generalizing a b c with
 |zero=>rfl
 |succ k ih=>rw[aq3];simp only[FJ,zkp,ih,av]
def PS:ai:=yV.add 111 [.str] (cO .str Dh AL)
theorem o18:aL ee PS:=cP qR (λR kk x0 K=>zko x0 (BK R kk kk (Lm R kk K))) o17 ei Tryz.func111 (λR kk e x0 K=>by simp only[AL,Dh,zko,Ln,Lo,aoZ (hF:=e),alJ,z206,av,<-e]) (ho:=λ_ _ _ _ _ _ h=>zfg (λ_=>h _ _) (λ_=>h _ _))
def Di:Env:=e0 [b6,.str]
def tj:ai:=PS.add 81 [b6,.str] (cY b6 .str kg bI)
theorem o19:aL ee tj:=dc Di (λR kk x0 x1 K=>OO x0 x1 (λa0=>K [tI a0] none)) o18 ei Tryz.func81 (λR kk e x0 x1 K=>by simp only[bI,kg,OO,av])
def MN:Env:=bU.env (kp [(7,[1,5,6]),(16,[1,5,7])]) (kp [(7,[1,2,3,4,5]),(16,[1,2,3,4])]) [] [cu]
def zol(a b:Int)(c:ay):Option R:=lq MN tj kk zgW 500 k J ⟨uS 1 (pA 2 cu::uS 3 (iA a::iA b::uS 109 [])),nS 2 (oA cu c::nS 114 [])⟩
def zhu(a b c d:Int)(e:ay):State:=⟨uS 1 (pA 2 cu::iA a::iA b::iA c::iA d::uS 110 []),nS 2 (oA cu e::nS 114 [])⟩
def zhv(a:Int)(b:ay):State:=⟨uS 1 (pA 2 cu::uS 3 (iA a::uS 110 [])),nS 2 (oA cu b::nS 114 [])⟩
def z156:KX R:=(zk 0 (sk MN tj kk zgW 63 (fk MN zgW none K)))
def zom(a b:Int)(c:ay):Option R:=lq MN tj kk zgW 1012 k J ⟨uS 1 (pA 2 cu::uS 3 (iA a::uS 1 (iA b::uS 108 []))),nS 2 (oA cu c::nS 114 [])⟩
def zhw(a b c:Int)(d:ay):State:=⟨uS 1 (pA 2 cu::iA a::iA b::iA c::uS 111 []),nS 2 (oA cu d::nS 114 [])⟩
def zhx(a:ay):State:=⟨uS 1 (pA 2 cu::uS 114 []),nS 2 (oA cu a::nS 114 [])⟩
def z157:KX R:=(zk 2 (sk MN tj kk zgW 127 (fk MN zgW none K)))
theorem anI a b c:zol R kk (k+1) J a b c=
 ZS a b c (λa0 a1 a2 a3 a4=>J .ret (zhu a0 a1 a2 a3 a4)) (zol R kk k J) (λa0 a1=>J (.exit 0) (zhv a0 a1)):=by kernel_rfl
theorem agp a b c d e:z156 R kk K .ret (zhu a b c d e)=
 H5 a b c d e (λa0 a1 a2=>K [tI a0,tI a1,tI a2] none):=by kernel_rfl
theorem agq a b:z156 R kk K (.exit 0) (zhv a b)=
 zoo a b (zom R kk kk (z157 R kk K)):=by kernel_rfl
theorem anJ a b c:zom R kk (k+1) J a b c=
 ZT a b c (λa0 a1 a2 a3=>J .ret (zhw a0 a1 a2 a3)) (zom R kk k J) (λa0=>J (.exit 2) (zhx a0)):=by kernel_rfl
theorem agr a b c d:z157 R kk K .ret (zhw a b c d)=
 z159 a b c d (λa0 a1 a2=>K [tI a0,tI a1,tI a2] none):=by kernel_rfl
theorem ags a:z157 R kk K (.exit 2) (zhx a)=
 zop a (λa0 a1 a2=>K [tI a0,tI a1,tI a2] none):=by kernel_rfl
theorem akh{kk:Nat}(hF:kk=af) a b c:zol R kk k J a b c=(Mm k a b c).bind λe=>(GB (λ(we:(Int×Int×Int×Int×ay))=>J .ret (zhu we.1 we.2.1 we.2.2.1 we.2.2.2.1 we.2.2.2.2)) (λ(we:(Int×ay))=>J (.exit 0) (zhv we.1 we.2)) e):=by
 induction k generalizing a b c with
 |zero=>rfl
 |succ k ih=>rw[anI];simp only[Mm,ZS,ih,av]
theorem aki{kk:Nat}(hF:kk=af) a b c:zom R kk k J a b c=(Mn k a b c).bind λe=>(GB (λ(we:(Int×Int×Int×ay))=>J .ret (zhw we.1 we.2.1 we.2.2.1 we.2.2.2)) (λ(we:ay)=>J (.exit 2) (zhx we)) e):=by
 induction k generalizing a b c with
 |zero=>rfl
 |succ k ih=>rw[anJ];simp only[Mn,ZT,ih,av]
def PT:ai:=tj.add 60 [cu] (cO cu vh ej)
theorem o20:aL ee PT:=cP MN (λR kk x0 K=>zon x0 (λa0 a1 a2=>K [tI a0,tI a1,tI a2] none) (zol R kk kk (z156 R kk K))) o19 ei Tryz.func60 (λR kk e x0 K=>by simp only[ej,vh,zon,H5,zoo,z159,zop,akh (hF:=e),aki (hF:=e),agp,agq,agr,ags,av,<-e])
def yW:ai:=PT.add 208 [y0] (cO y0 Py bg)
theorem o21:aL ee yW:=cP qQ (λR kk x0 K=>zzp x0 (λa0=>K [tB a0] none)) o20 ei Tryz.func208 (λR kk e x0 K=>by simp only[bg,Py,zzp,av])
def qA:Env:=bU.env (kp [(2,[0,3])]) (kp [(2,[2])]) [] [.str]
def zzm(a:ByteArray)(b:Int):Option R:=lq qA yW kk Tryz.f162 52 k J ⟨sA a::uS 2 (iA b::uS 11 []),nS 16 []⟩
def zuq(a:Bool):State:=⟨uS 2 (bA a::uS 12 []),nS 16 []⟩
def zur:State:=⟨uS 15 [],nS 16 []⟩
def KR:KX R:=(zk 0 (sk qA yW kk Tryz.f162 7 (fk qA Tryz.f162 none K)))
theorem aqJ a b:zzm R kk (k+1) J a b=
 zzo a b (λa0=>J .ret (zuq a0)) (zzm R kk k J) (J (.exit 0) (zur)):=by kernel_rfl
theorem ali a:KR R kk K .ret (zuq a)=
 KS a (λa0=>K [tB a0] none):=by kernel_rfl
theorem alj:KR R kk K (.exit 0) (zur)=
 KT (λa0=>K [tB a0] none):=by kernel_rfl
theorem aoF{kk:Nat}(hF:kk=af) a b:zzm R kk k J a b=(OG k a b).bind λe=>(GB (λ(we:Bool)=>J .ret (zuq we)) (λ(we:Unit)=>J (.exit 0) (zur)) e):=by
 induction k generalizing a b with
 |zero=>rfl
 |succ k ih=>rw[aqJ];simp only[OG,zzo,ih,av]
def PU:ai:=yW.add 162 [.str] (cO .str C8 bg)
theorem o22:aL ee PU:=cP qA (λR kk x0 K=>zzn x0 (zzm R kk kk (KR R kk K))) o21 ei Tryz.func162 (λR kk e x0 K=>by simp only[bg,C8,zzn,KS,KT,aoF (hF:=e),ali,alj,av,<-e])
def CE:Env:=e0 [.str]
def PV:ai:=PU.add 112 [.str] (cO .str kH bg)
theorem o23:aL ee PV:=cP CE (λR kk x0 K=>zmw x0 (λa0=>K [tB a0] none)) o22 ei Tryz.func112 (λR kk e x0 K=>by simp only[bg,kH,zmw,av])
def yX:ai:=PV.add 82 [.str,y1] (cY .str y1 sZ bg)
theorem o24:aL ee yX:=dc nE (λR kk x0 x1 K=>zoh x0 x1 (λa0=>K [tB a0] none)) o23 ei Tryz.func82 (λR kk e x0 x1 K=>by simp only[bg,sZ,zoh,av])
def qD:Env:=bU.env (kp [(5,[0,4,5])]) (kp [(5,[4])]) [] [.str]
def zzq(a:ByteArray)(b c:Int):Option R:=lq qD yX kk Tryz.f113 244 k J ⟨sA a::uS 3 (iA b::iA c::uS 28 []),nS 35 []⟩
def zus(a:Int):State:=⟨uS 4 (iA a::uS 29 []),nS 35 []⟩
def Yg:KX R:=(zk 0 (sk qD yX kk Tryz.f113 31 (fk qD Tryz.f113 none K)))
theorem aqK a b c:zzq R kk (k+1) J a b c=
 zzs a b c (zzq R kk k J) (λa0=>J (.exit 0) (zus a0)):=by kernel_rfl
theorem alk a:Yg R kk K (.exit 0) (zus a)=
 KU a (λa0 a1=>K [tI a0,tB a1] none):=by kernel_rfl
theorem aoG{kk:Nat}(hF:kk=af) a b c:zzq R kk k J a b c=(OH k a b c).bind λe=>J (.exit 0) (zus e):=by
 induction k generalizing a b c with
 |zero=>rfl
 |succ k ih=>rw[aqK];simp only[OH,zzs,ih,av]
def PW:ai:=yX.add 113 [.str] (cO .str qC n4)
theorem o25:aL ee PW:=cP qD (λR kk x0 K=>zzr x0 (λa0 a1=>K [tI a0,tB a1] none) (zzq R kk kk (Yg R kk K))) o24 ei Tryz.func113 (λR kk e x0 K=>by simp only[n4,qC,zzr,KU,aoG (hF:=e),alk,av,<-e])
def yY:ai:=PW.add 83 [.str] (cO .str F5 bg)
theorem o26:aL ee yY:=cP CE (λR kk x0 K=>B5 x0 (λa0=>K [tB a0] none)) o25 ei Tryz.func83 (λR kk e x0 K=>by simp only[bg,F5,B5,av])
def zx6:Env:=bU.env (kp [(2,[0,1,2,7])]) (kp [(2,[6])]) [] [fp,y1,.str]
def znj(a:bd)(b:Int)(c:ByteArray)(d:Int):Option R:=lq zx6 yY kk Tryz.f114 52 k J ⟨dA fp a::iA b::sA c::uS 4 (iA d::uS 13 []),nS 22 []⟩
def zh7(a:Int):State:=⟨uS 6 (iA a::uS 14 []),nS 22 []⟩
def zh8:State:=⟨uS 21 [],nS 22 []⟩
def Hw:KX R:=(zk 0 (sk zx6 yY kk Tryz.f114 7 (fk zx6 Tryz.f114 none K)))
theorem ans a b c d:znj R kk (k+1) J a b c d=
 ZC a b c d (λa0=>J .ret (zh7 a0)) (znj R kk k J) (J (.exit 0) (zh8)):=by kernel_rfl
theorem afU a:Hw R kk K .ret (zh7 a)=
 z143 a (λa0=>K [tI a0] none):=by kernel_rfl
theorem afV:Hw R kk K (.exit 0) (zh8)=
 Hx (λa0=>K [tI a0] none):=by kernel_rfl
theorem ajS{kk:Nat}(hF:kk=af) a b c d:znj R kk k J a b c d=(Mf k a b c d).bind λe=>(GB (λ(we:Int)=>J .ret (zh7 we)) (λ(we:Unit)=>J (.exit 0) (zh8)) e):=by
 induction k generalizing a b c d with
 |zero=>rfl
 |succ k ih=>rw[ans];simp only[Mf,ZC,ih,av]
def PX:ai:=yY.add 114 [fp,y1,.str] (iF fp y1 .str sW bI)
theorem o27:aL ee PX:=iK zx6 (λR kk x0 x1 x2 K=>znk x0 x1 x2 (znj R kk kk (Hw R kk K))) o26 ei Tryz.func114 (λR kk e x0 x1 x2 K=>by simp only[bI,sW,znk,z143,Hx,ajS (hF:=e),afU,afV,av,<-e])
def ap7:Env:=e0 [fp,.str]
def yZ:ai:=PX.add 84 [fp,.str] (cY fp .str pa dR)
theorem o28:aL ee yZ:=dc ap7 (λR kk x0 x1 K=>znd x0 x1 (λa0 a1=>K [tS a0,tB a1] none)) o27 ei Tryz.func84 (λR kk e x0 x1 K=>by simp only[dR,pa,znd,av])
def qK:Env:=bU.env (kp [(4,[0,1,5])]) (kp [(4,[4])]) [] [y1,y1]
def Bq(a b c:Int):Option R:=lq qK yZ kk Tryz.f163 116 k J ⟨iA a::iA b::uS 3 (iA c::uS 29 []),nS 36 []⟩
def zv8(a:Bool):State:=⟨uS 4 (bA a::uS 30 []),nS 36 []⟩
def zv9:State:=⟨uS 35 [],nS 36 []⟩
def Ld:KX R:=(zk 0 (sk qK yZ kk Tryz.f163 15 (fk qK Tryz.f163 none K)))
theorem aqV a b c:Bq R kk (k+1) J a b c=
 Le a b c (λa0=>J .ret (zv8 a0)) (Bq R kk k J) (J (.exit 0) (zv9)):=by kernel_rfl
theorem alC a:Ld R kk K .ret (zv8 a)=
 Lf a (λa0=>K [tB a0] none):=by kernel_rfl
theorem alD:Ld R kk K (.exit 0) (zv9)=
 Lg (λa0=>K [tB a0] none):=by kernel_rfl
theorem aoR{kk:Nat}(hF:kk=af) a b c:Bq R kk k J a b c=(Br k a b c).bind λe=>(GB (λ(we:Bool)=>J .ret (zv8 we)) (λ(we:Unit)=>J (.exit 0) (zv9)) e):=by
 induction k generalizing a b c with
 |zero=>rfl
 |succ k ih=>rw[aqV];simp only[Br,Le,ih,av]
def PY:ai:=yZ.add 163 [y1,y1] (cY y1 y1 Ni bg)
theorem o29:aL ee PY:=dc qK (λR kk x0 x1 K=>Bs x0 x1 (λa0=>K [tB a0] none) (Bq R kk kk (Ld R kk K))) o28 ei Tryz.func163 (λR kk e x0 x1 K=>by simp only[bg,Ni,Bs,Lf,Lg,aoR (hF:=e),alC,alD,av,<-e])
def Dj:Env:=e0 [b6,b6]
def zA:ai:=PY.add 115 [b6,b6] (cY b6 b6 xT bg)
theorem o30:aL ee zA:=dc Dj (λR kk x0 x1 K=>OP x0 x1 (λa0=>K [tB a0] none)) o29 ei Tryz.func115 (λR kk e x0 x1 K=>by simp only[bg,xT,OP,av])
def zx4:Env:=bU.env (kp [(4,[0,4])]) (kp [(4,[2,3])]) [] [fp]
def zne(a:bd)(b:Int):Option R:=lq zx4 zA kk Tryz.f116 116 k J ⟨dA fp a::uS 3 (iA b::uS 19 []),nS 25 []⟩
def zh4(a b:Int):State:=⟨uS 2 (iA a::iA b::uS 20 []),nS 25 []⟩
def zh5:State:=⟨uS 24 [],nS 25 []⟩
def Hr:KX R:=(zk 0 (sk zx4 zA kk Tryz.f116 15 (fk zx4 Tryz.f116 none K)))
theorem anq a b:zne R kk (k+1) J a b=
 ZB a b (λa0 a1=>J .ret (zh4 a0 a1)) (zne R kk k J) (J (.exit 0) (zh5)):=by kernel_rfl
theorem afR a b:Hr R kk K .ret (zh4 a b)=
 Hs a b (λa0 a1=>K [tI a0,tI a1] none):=by kernel_rfl
theorem afS:Hr R kk K (.exit 0) (zh5)=
 Ht (λa0 a1=>K [tI a0,tI a1] none):=by kernel_rfl
theorem ajQ{kk:Nat}(hF:kk=af) a b:zne R kk k J a b=(Me k a b).bind λe=>(GB (λ(we:(Int×Int))=>J .ret (zh4 we.1 we.2)) (λ(we:Unit)=>J (.exit 0) (zh5)) e):=by
 induction k generalizing a b with
 |zero=>rfl
 |succ k ih=>rw[anq];simp only[Me,ZB,ih,av]
def di:ai:=zA.add 116 [fp] (cO fp u6 n6)
theorem o31:aL ee di:=cP zx4 (λR kk x0 K=>znf x0 (λa0 a1=>K [tI a0,tI a1] none) (zne R kk kk (Hr R kk K))) o30 ei Tryz.func116 (λR kk e x0 K=>by simp only[n6,u6,znf,Hs,Ht,ajQ (hF:=e),afR,afS,av,<-e])
def zw:Env:={bU.env (kp [(27,[3,4,5,7,8,13])]) (kp [(27,[6])]) [] [cV,aG,aG] with join:=λi=>bif xz i 2 then some [3,4,5,23] else bif xz i 3 then some [3,4,5] else bif xz i 6 then some [3,4,5,7,8,48] else bif xz i 7 then some [3,4,5,7,8] else bif xz i 8 then some [3,4,5,7,8,65] else bif xz i 9 then some [3,4,5,7,8] else bif xz i 10 then some [3,4,5,7,8,84] else bif xz i 11 then some [3,4,5,7,8] else bif xz i 35 then some [] else bif xz i 21 then some [140] else bif xz i 25 then some [3,4,5,7,8,156] else bif xz i 26 then some [3,4,5,7,8] else bif xz i 29 then some [3,4,5,7,8,13] else bif xz i 32 then some [3,4,5,7,8,13] else bif xz i 28 then some [3,4,5,7,8,13] else none}
def WG(a:Bool)(b:aN)(c d:ah):Option R:=ev zw (di R) kk (sq zaO 13) ⟨uS 3 (pA 4 cV::pA 5 aG::pA 6 aG::uS 17 (bA a::uS 170 [])),nS 4 (oA cV b::oA aG c::oA aG d::nS 188 [])⟩ (sk zw di kk zaO 7 (fk zw zaO none K))
def WH(a:aN)(b c:ah):Option R:=ev zw (di R) kk (sq zaO 7) ⟨uS 3 (pA 4 cV::pA 5 aG::pA 6 aG::uS 188 []),nS 4 (oA cV a::oA aG b::oA aG c::nS 188 [])⟩ (fk zw zaO none K)
def WI(a b:Int)(c:Bool)(d:aN)(e f:ah):Option R:=ev zw (di R) kk (sq zaO 125) ⟨uS 3 (pA 4 cV::pA 5 aG::pA 6 aG::uS 1 (iA a::iA b::uS 39 (bA c::uS 145 []))),nS 4 (oA cV d::oA aG e::oA aG f::nS 188 [])⟩ (sk zw di kk zaO 63 (fk zw zaO none K))
def WJ(a b:Int)(c:aN)(d e:ah):Option R:=ev zw (di R) kk (sq zaO 63) ⟨uS 3 (pA 4 cV::pA 5 aG::pA 6 aG::uS 1 (iA a::iA b::uS 185 [])),nS 4 (oA cV c::oA aG d::oA aG e::nS 188 [])⟩ (fk zw zaO none K)
def WK(a b:Int)(c:Bool)(d:aN)(e f:ah):Option R:=ev zw (di R) kk (sq zaO 253) ⟨uS 3 (pA 4 cV::pA 5 aG::pA 6 aG::uS 1 (iA a::iA b::uS 56 (bA c::uS 128 []))),nS 4 (oA cV d::oA aG e::oA aG f::nS 188 [])⟩ (sk zw di kk zaO 127 (fk zw zaO none K))
def WL(a b:Int)(c:aN)(d e:ah):Option R:=ev zw (di R) kk (sq zaO 127) ⟨uS 3 (pA 4 cV::pA 5 aG::pA 6 aG::uS 1 (iA a::iA b::uS 185 [])),nS 4 (oA cV c::oA aG d::oA aG e::nS 188 [])⟩ (fk zw zaO none K)
def WM(a b:Int)(c:Bool)(d:aN)(e f:ah):Option R:=ev zw (di R) kk (sq zaO 509) ⟨uS 3 (pA 4 cV::pA 5 aG::pA 6 aG::uS 1 (iA a::iA b::uS 75 (bA c::uS 109 []))),nS 4 (oA cV d::oA aG e::oA aG f::nS 188 [])⟩ (sk zw di kk zaO 255 (fk zw zaO none K))
def WN(a b:Int)(c:aN)(d e:ah):Option R:=ev zw (di R) kk (sq zaO 255) ⟨uS 3 (pA 4 cV::pA 5 aG::pA 6 aG::uS 1 (iA a::iA b::uS 185 [])),nS 4 (oA cV c::oA aG d::oA aG e::nS 188 [])⟩ (fk zw zaO none K)
def znm:Option R:=ev zw (di R) kk (sq zaO 511) ⟨uS 194 [],nS 195 []⟩ (fk zw zaO none K)
def WO(a:Bool):Option R:=ev zw (di R) kk (sq zaO 1046007) ⟨uS 140 (bA a::uS 53 []),nS 195 []⟩ (zk 0 (sk zw di kk zaO 511 (fk zw zaO none K)))
def Vd(a b:Int)(c:Bool)(d:aN)(e f:ah):Option R:=ev zw (di R) kk (sq zaO 4184051) ⟨uS 3 (pA 4 cV::pA 5 aG::pA 6 aG::uS 1 (iA a::iA b::uS 147 (bA c::uS 37 []))),nS 4 (oA cV d::oA aG e::oA aG f::nS 188 [])⟩ (sk zw di kk zaO 1046013 (zk 0 (sk zw di kk zaO 511 (fk zw zaO none K))))
def Ve(a b:Int)(c:aN)(d e:ah):Option R:=ev zw (di R) kk (sq zaO 1046013) ⟨uS 3 (pA 4 cV::pA 5 aG::pA 6 aG::uS 1 (iA a::iA b::uS 185 [])),nS 4 (oA cV c::oA aG d::oA aG e::nS 188 [])⟩ (zk 0 (sk zw di kk zaO 511 (fk zw zaO none K)))
def Vf(a b c:Int)(d:aN)(e f:ah):Option R:=ev zw (di R) kk (sq zaO 16736217) ⟨uS 3 (pA 4 cV::pA 5 aG::pA 6 aG::uS 1 (iA a::iA b::uS 4 (iA c::uS 180 []))),nS 4 (oA cV d::oA aG e::oA aG f::nS 188 [])⟩ (lk zw di kk zaO 8368108 k J)
def Vg(a b c:Int)(d:aN)(e f:ah):Option R:=ev zw (di R) kk (sq zaO 133889737) ⟨uS 3 (pA 4 cV::pA 5 aG::pA 6 aG::uS 1 (iA a::iA b::uS 4 (iA c::uS 180 []))),nS 4 (oA cV d::oA aG e::oA aG f::nS 188 [])⟩ (zk 2 (sk zw di kk zaO 33472435 (lk zw di kk zaO 8368108 k J)))
def Vh(a b c:Int)(d:aN)(e f:ah):Option R:=ev zw (di R) kk (sq zaO 33472435) ⟨uS 3 (pA 4 cV::pA 5 aG::pA 6 aG::uS 1 (iA a::iA b::uS 4 (iA c::uS 180 []))),nS 4 (oA cV d::oA aG e::oA aG f::nS 188 [])⟩ (lk zw di kk zaO 8368108 k J)
def znn(a b c:Int)(d:aN)(e f:ah):Option R:=lq zw di kk zaO 8368108 k J ⟨uS 3 (pA 4 cV::pA 5 aG::pA 6 aG::uS 1 (iA a::iA b::uS 4 (iA c::uS 180 []))),nS 4 (oA cV d::oA aG e::oA aG f::nS 188 [])⟩
def zh9:State:=⟨uS 194 [],nS 195 []⟩
def zbu(a:Int):State:=⟨uS 6 (iA a::uS 187 []),nS 195 []⟩
def z145:KX R:=(zk 1 (zk 0 (sk zw di kk zaO 511 (fk zw zaO none K))))
theorem ajT a b c d:WG R kk K a b c d=
 HC a b c d (λa0=>K [tI a0] none) (λa0 a1 a2=>bq kk λ_=>WH R kk K a0 a1 a2):=by kernel_rfl
theorem ajU a b c:WH R kk K a b c=
 N4 a b c (λa0 a1 a2 a3 a4 a5=>bq kk λ_=>WI R kk K a0 a1 a2 a3 a4 a5):=by kernel_rfl
theorem ajV a b c d e f:WI R kk K a b c d e f=
 HD a b c d e f (λa0=>K [tI a0] none) (λa0 a1 a2 a3 a4=>bq kk λ_=>WJ R kk K a0 a1 a2 a3 a4):=by kernel_rfl
theorem ajW a b c d e:WJ R kk K a b c d e=
 N5 a b c d e (λa0 a1 a2 a3 a4 a5=>bq kk λ_=>WK R kk K a0 a1 a2 a3 a4 a5):=by kernel_rfl
theorem ajX a b c d e f:WK R kk K a b c d e f=
 HE a b c d e f (λa0=>K [tI a0] none) (λa0 a1 a2 a3 a4=>bq kk λ_=>WL R kk K a0 a1 a2 a3 a4):=by kernel_rfl
theorem ajY a b c d e:WL R kk K a b c d e=
 N6 a b c d e (λa0 a1 a2 a3 a4 a5=>bq kk λ_=>WM R kk K a0 a1 a2 a3 a4 a5):=by kernel_rfl
theorem ajZ a b c d e f:WM R kk K a b c d e f=
 HF a b c d e f (λa0=>K [tI a0] none) (λa0 a1 a2 a3 a4=>bq kk λ_=>WN R kk K a0 a1 a2 a3 a4):=by kernel_rfl
theorem aj0 a b c d e:WN R kk K a b c d e=
 N7 a b c d e (λa0=>K [tI a0] none) (bq kk λ_=>znm R kk K) (λa0=>bq kk λ_=>WO R kk K a0) (λa0 a1 a2 a3 a4 a5=>bq kk λ_=>Vd R kk K a0 a1 a2 a3 a4 a5):=by kernel_rfl
theorem aj1:znm R kk K=
 HG (λa0=>K [tI a0] none):=by kernel_rfl
theorem aj2 a:WO R kk K a=
 zu3 a (λa0=>K [tI a0] none) (bq kk λ_=>znm R kk K):=by kernel_rfl
theorem afW a b c d e f:Vd R kk K a b c d e f=
 zu4 a b c d e f (λa0=>K [tI a0] none) (λa0 a1 a2 a3 a4=>bq kk λ_=>Ve R kk K a0 a1 a2 a3 a4):=by kernel_rfl
theorem afX a b c d e:Ve R kk K a b c d e=
 zfp a b c d e (znn R kk kk (z145 R kk K)):=by kernel_rfl
theorem ant a b c d e f:znn R kk (k+1) J a b c d e f=
 Zl a b c d e f (λa0 a1 a2 a3 a4 a5=>bq kk λ_=>Vf R kk k J a0 a1 a2 a3 a4 a5) (J (.exit 1) (zh9)):=by kernel_rfl
theorem afY a b c d e f:Vf R kk k J a b c d e f=
 zfq a b c d e f (λa0=>J .ret (zbu a0)) (λa0 a1 a2 a3 a4 a5=>bq kk λ_=>Vg R kk k J a0 a1 a2 a3 a4 a5):=by kernel_rfl
theorem af1:z145 R kk K (.exit 1) (zh9)=
 zu5 (bq kk λ_=>znm R kk K):=by kernel_rfl
theorem af2 a:z145 R kk K .ret (zbu a)=
 zu6 a (λa0=>K [tI a0] none):=by kernel_rfl
theorem afZ a b c d e f:Vg R kk k J a b c d e f=
 zfr a b c d e f (λa0=>J .ret (zbu a0)) (λa0 a1 a2 a3 a4 a5=>bq kk λ_=>Vh R kk k J a0 a1 a2 a3 a4 a5):=by kernel_rfl
theorem af0 a b c d e f:Vh R kk k J a b c d e f=
 zfs a b c d e f (znn R kk k J):=by kernel_rfl
theorem aj3{kk:Nat}(hF:kk=af) a b c d f g:znn R kk k J a b c d f g=(yl k a b c d f g).bind λe=>(GB (λ(we:Unit)=>J (.exit 1) (zh9)) (λ(we:Int)=>J .ret (zbu we)) e):=by
 induction k generalizing a b c d f g with
 |zero=>rfl
 |succ k ih=>rw[ant];simp only[yl,Zl,zfq,zfr,zfs,ih,afY,afZ,af0,LL (hF:=hF),av]
def PZ:ai:=di.add 85 [cV,aG,aG] (iF cV aG aG va bI)
theorem o32:aL ee PZ:=iK zw (λR kk x0 x1 x2 K=>N3 x0 x1 x2 (λa0 a1 a2 a3=>bq kk λ_=>WG R kk K a0 a1 a2 a3)) o31 (ei.join _) Tryz.func85 (λR kk e x0 x1 x2 K=>by simp only[bI,va,adf,HC,adg,HD,adh,HE,adi,HF,adj,HG,zu3,zu4,zfp,zu5,zu6,aj3 (hF:=e),Hy,zno,Fw,ZD,Hz,Mg,HA,ZE,znp,HB,zu2,Zk,ajT,ajU,afW,afX,ajV,ajW,ajX,ajY,ajZ,aj0,aj1,aj2,af1,af2,LL (hF:=e),av,<-e])
def aqb:Env:=e0 [cV,cV]
def mP:ai:=PZ.add 86 [cV,cV] (cY cV cV vf bg)
theorem o33:aL ee mP:=dc aqb (λR kk x0 x1 K=>zog x0 x1 (λa0=>K [tB a0] none)) o32 ei Tryz.func86 (λR kk e x0 x1 K=>by simp only[bg,vf,zog,av])
def yt:Env:=bU.env (kp [(8,[3,4,5,9]),(19,[3,4,5,13]),(25,[3,4,5,13,15])]) (kp [(8,[3,4,5,6,7,8]),(19,[6,7,8]),(25,[3,4,5,6,7,8,13])]) [] [cp,aG,aG]
def znt(a:Int)(b:az)(c d:ah):Option R:=lq yt mP kk zeX 500 k J ⟨uS 3 (pA 4 cp::pA 5 aG::pA 6 aG::uS 3 (iA a::uS 104 [])),nS 4 (oA cp b::oA aG c::oA aG d::nS 108 [])⟩
def zhc(a b c:Int)(d:az)(e f:ah):State:=⟨uS 3 (pA 4 cp::pA 5 aG::pA 6 aG::iA a::iA b::iA c::uS 105 []),nS 4 (oA cp d::oA aG e::oA aG f::nS 108 [])⟩
def zhd(a:az)(b c:ah):State:=⟨uS 3 (pA 4 cp::pA 5 aG::pA 6 aG::uS 108 []),nS 4 (oA cp a::oA aG b::oA aG c::nS 108 [])⟩
def HK:KX R:=(zk 0 (sk yt mP kk zeX 63 (fk yt zeX none K)))
def znu(a:Int)(b:az)(c d:ah):Option R:=lq yt mP kk zeX 2036 k J ⟨uS 3 (pA 4 cp::pA 5 aG::pA 6 aG::uS 7 (iA a::uS 100 [])),nS 4 (oA cp b::oA aG c::oA aG d::nS 108 [])⟩
def zbv(a b c:Int):State:=⟨uS 6 (iA a::iA b::iA c::uS 105 []),nS 115 []⟩
def zhe:State:=⟨uS 114 [],nS 115 []⟩
def HL:KX R:=(zk 2 (sk yt mP kk zeX 255 (fk yt zeX none K)))
def znv(a b:Int)(c:az)(d e:ah):Option R:=lq yt mP kk zeX 260684 k J ⟨uS 3 (pA 4 cp::pA 5 aG::pA 6 aG::uS 7 (iA a::uS 1 (iA b::uS 98 []))),nS 4 (oA cp c::oA aG d::oA aG e::nS 108 [])⟩
def zhf(a b c d:Int)(e:az)(f g:ah):State:=⟨uS 3 (pA 4 cp::pA 5 aG::pA 6 aG::iA a::iA b::iA c::uS 4 (iA d::uS 100 [])),nS 4 (oA cp e::oA aG f::oA aG g::nS 108 [])⟩
def zhg(a:Int)(b:az)(c d:ah):State:=⟨uS 3 (pA 4 cp::pA 5 aG::pA 6 aG::uS 7 (iA a::uS 100 [])),nS 4 (oA cp b::oA aG c::oA aG d::nS 108 [])⟩
def HM:KX R:=(zk 4 (zk 3 (sk yt mP kk zeX 8147 (lk yt mP kk zeX 2036 k J))))
theorem anv a b c d:znt R kk (k+1) J a b c d=
 ZG a b c d (λa0 a1 a2 a3 a4 a5=>J .ret (zhc a0 a1 a2 a3 a4 a5)) (znt R kk k J) (λa0 a1 a2=>J (.exit 0) (zhd a0 a1 a2)):=by kernel_rfl
theorem af5 a b c d e f:HK R kk K .ret (zhc a b c d e f)=
 HN a b c d e f (λa0 a1 a2=>K [tI a0,tI a1,tI a2] none):=by kernel_rfl
theorem af6 a b c:HK R kk K (.exit 0) (zhd a b c)=
 znx a b c (λa0 a1 a2=>K [tI a0,tI a1,tI a2] none) (znu R kk kk (HL R kk K)):=by kernel_rfl
theorem anw a b c d:znu R kk (k+1) J a b c d=
 ZH a b c d (λa0 a1 a2=>J .ret (zbv a0 a1 a2)) (znv R kk kk (HM R kk k J)) (J (.exit 2) (zhe)):=by kernel_rfl
theorem af7 a b c:HL R kk K .ret (zbv a b c)=
 HO a b c (λa0 a1 a2=>K [tI a0,tI a1,tI a2] none):=by kernel_rfl
theorem af8:HL R kk K (.exit 2) (zhe)=
 HP (λa0 a1 a2=>K [tI a0,tI a1,tI a2] none):=by kernel_rfl
theorem anx a b c d e:znv R kk (k+1) J a b c d e=
 ZI a b c d e (λa0 a1 a2 a3 a4 a5 a6=>J .ret (zhf a0 a1 a2 a3 a4 a5 a6)) (znv R kk k J) (λa0 a1 a2 a3=>J (.exit 4) (zhg a0 a1 a2 a3)):=by kernel_rfl
theorem af9 a b c d e f g:HM R kk k J .ret (zhf a b c d e f g)=
 HQ a b c d e f g (λa0 a1 a2=>J .ret (zbv a0 a1 a2)):=by kernel_rfl
theorem aga a b c d:HM R kk k J (.exit 4) (zhg a b c d)=
 zny a b c d (znu R kk k J):=by kernel_rfl
theorem aj5{kk:Nat}(hF:kk=af) a b c d:znt R kk k J a b c d=(Mh k a b c d).bind λe=>(GB (λ(we:mS)=>J .ret (zhc we.1 we.2.1 we.2.2.1 we.2.2.2.1 we.2.2.2.2.1 we.2.2.2.2.2)) (λ(we:mR)=>J (.exit 0) (zhd we.1 we.2.1 we.2.2)) e):=by
 induction k generalizing a b c d with
 |zero=>rfl
 |succ k ih=>rw[anv];simp only[Mh,ZG,ih,av]
theorem aj7{kk:Nat}(hF:kk=af) a b c d f:znv R kk k J a b c d f=(Mj k a b c d f).bind λe=>(GB (λ(we:(Int×Int×Int×Int×az×ah×ah))=>J .ret (zhf we.1 we.2.1 we.2.2.1 we.2.2.2.1 we.2.2.2.2.1 we.2.2.2.2.2.1 we.2.2.2.2.2.2)) (λ(we:(Int×az×ah×ah))=>J (.exit 4) (zhg we.1 we.2.1 we.2.2.1 we.2.2.2)) e):=by
 induction k generalizing a b c d f with
 |zero=>rfl
 |succ k ih=>rw[anx];simp only[Mj,ZI,ih,av]
theorem aj6{kk:Nat}(hF:kk=af) a b c d:znu R kk k J a b c d=(Mi k a b c d).bind λe=>(GB (λ(we:jy)=>J .ret (zbv we.1 we.2.1 we.2.2)) (λ(we:Unit)=>J (.exit 2) (zhe)) e):=by
 induction k generalizing a b c d with
 |zero=>rfl
 |succ k ih=>rw[anw];simp only[Mi,ZH,HQ,zny,ih,aj7 (hF:=hF),af9,aga,av,<-hF]
def zB:ai:=mP.add 61 [cp,aG,aG] (iF cp aG aG sX ej)
theorem o34:aL ee zB:=iK yt (λR kk x0 x1 x2 K=>znw x0 x1 x2 (λa0 a1 a2=>K [tI a0,tI a1,tI a2] none) (znt R kk kk (HK R kk K))) o33 ei Tryz.func61 (λR kk e x0 x1 x2 K=>by simp only[ej,sX,znw,HN,znx,HO,HP,aj5 (hF:=e),aj6 (hF:=e),af5,af6,af7,af8,av,<-e])
def zxf:Env:=bU.env (kp [(4,[1,5])]) (kp [(4,[2,3,4])]) [] [cF]
def zov(a:Int)(b:ax):Option R:=lq zxf zB kk Tryz.f41 116 k J ⟨uS 1 (pA 2 cF::uS 3 (iA a::uS 56 [])),nS 2 (oA cF b::nS 60 [])⟩
def zi2(a b c:Int):State:=⟨uS 2 (iA a::iA b::iA c::uS 57 []),nS 63 []⟩
def zi3:State:=⟨uS 62 [],nS 63 []⟩
def Ig:KX R:=(zk 0 (sk zxf zB kk Tryz.f41 15 (fk zxf Tryz.f41 none K)))
theorem anM a b:zov R kk (k+1) J a b=
 N8 a b (λa0 a1 a2=>J .ret (zi2 a0 a1 a2)) (zov R kk k J) (J (.exit 0) (zi3)):=by kernel_rfl
theorem agx a b c:Ig R kk K .ret (zi2 a b c)=
 Ih a b c (λa0 a1 a2=>K [tI a0,tI a1,tI a2] none):=by kernel_rfl
theorem agy:Ig R kk K (.exit 0) (zi3)=
 Ii (λa0 a1 a2=>K [tI a0,tI a1,tI a2] none):=by kernel_rfl
theorem akl{kk:Nat}(hF:kk=af) a b:zov R kk k J a b=(Mp k a b).bind λe=>(GB (λ(we:jy)=>J .ret (zi2 we.1 we.2.1 we.2.2)) (λ(we:Unit)=>J (.exit 0) (zi3)) e):=by
 induction k generalizing a b with
 |zero=>rfl
 |succ k ih=>rw[anM];simp only[Mp,N8,ih,av]
def P0:ai:=zB.add 41 [cF] (cO cF vk ej)
theorem o35:aL ee P0:=cP zxf (λR kk x0 K=>zow x0 (λa0 a1 a2=>K [tI a0,tI a1,tI a2] none) (zov R kk kk (Ig R kk K))) o34 ei Tryz.func41 (λR kk e x0 K=>by simp only[ej,vk,zow,Ih,Ii,akl (hF:=e),agx,agy,av,<-e])
def P1:ai:=P0.add 14 [cF] (cO cF mL bg)
theorem o36:aL ee P1:=cP XZ (λR kk x0 K=>zp1 x0 (λa0=>K [tB a0] none)) o35 ei Tryz.func14 (λR kk e x0 K=>by simp only[bg,mL,zp1,av])
def ap8:Env:=e0 [fp]
def P3:ai:=P1.add 57 [fp] (cO fp sV (λ_ r K=>K [.aq fp r [[]]] none))
theorem o37:aL ee P3:=cP ap8 (λR kk x0 K=>zng x0 (λa0=>K [.aq fp a0 [[]]] none)) o36 ei Tryz.func57 (λR kk e x0 K=>by simp only[sV,zng,av])
def ap9:Env:=bU.env (λ_=>[]) (λ_=>[]) [2] [cV]
def zE:ai:=P3.add 58 [cV] (cO cV pc (λ_ r K=>K [.aq cV r [[4]]] none))
theorem o38:aL ee zE:=cP ap9 (λR kk x0 K=>znq x0 (λa0=>K [.aq cV a0 [[4]]] none)) o37 ei Tryz.func58 (λR kk e x0 K=>by simp only[pc,znq,av])
def zx9:Env:=bU.env (kp [(3,[1,2,3,4])]) (kp [(3,[2,3])]) [2] [cp]
def znz(a:Int)(b c d:az):Option R:=lq zx9 zE kk Tryz.f39 116 k J ⟨uS 1 (pA 2 cp::pA 3 cp::pA 4 cp::iA a::uS 23 []),nS 2 (oA cp b::(some ⟨cp,c,[[0],[1]]⟩)::(some ⟨cp,d,[[0],[1]]⟩)::nS 24 [])⟩
def zhh(a b:az):State:=⟨uS 2 (pA 3 cp::pA 4 cp::uS 24 []),nS 3 ((some ⟨cp,a,[[0],[1]]⟩)::(some ⟨cp,b,[[0],[1]]⟩)::nS 24 [])⟩
def WQ:KX R:=(zk 0 (sk zx9 zE kk Tryz.f39 15 (fk zx9 Tryz.f39 none K)))
theorem anz a b c d:znz R kk (k+1) J a b c d=
 HR a b c d (znz R kk k J) (λa0 a1=>J (.exit 0) (zhh a0 a1)):=by kernel_rfl
theorem agb a b:WQ R kk K (.exit 0) (zhh a b)=
 HS a b (λa0=>K [.aq cp a0 [[0],[1]]] none):=by kernel_rfl
theorem aj8{kk:Nat}(hF:kk=af) a b c d:znz R kk k J a b c d=(ZJ k a b c d).bind λe=>J (.exit 0) (zhh e.1 e.2):=by
 induction k generalizing a b c d with
 |zero=>rfl
 |succ k ih=>rw[anz];simp only[ZJ,HR,ih,av]
def P4:ai:=zE.add 39 [cp] (cO cp vd (λ_ r K=>K [.aq cp r [[0],[1]]] none))
theorem o39:aL ee P4:=cP zx9 (λR kk x0 K=>zo0 x0 (znz R kk kk (WQ R kk K))) o38 ei Tryz.func39 (λR kk e x0 K=>by simp only[vd,zo0,HS,aj8 (hF:=e),agb,av,<-e])
def PL:Env:=bU.env (λ_=>[]) (λ_=>[]) [2] [aG]
def P5:ai:=P4.add 59 [aG] (cO aG PK AH)
theorem o40:aL ee P5:=cP PL (λR kk x0 K=>BV x0 (λa0=>K [.aq aG a0 [[2]]] none)) o39 ei Tryz.func59 (λR kk e x0 K=>by simp only[AH,PK,BV,av])
def aqc:Env:=bU.env (λ_=>[]) (λ_=>[]) [2] [cu]
def zG:ai:=P5.add 40 [cu] (cO cu vj (λ_ r K=>K [.aq cu r [[3],[2],[0,2]]] none))
theorem o41:aL ee zG:=cP aqc (λR kk x0 K=>zor x0 (λa0=>K [.aq cu a0 [[3],[2],[0,2]]] none)) o40 ei Tryz.func40 (λR kk e x0 K=>by simp only[vj,zor,av])
def zxg:Env:={bU.env (kp [(2,[1,2,3])]) (kp [(2,[1,2])]) [2] [cF] with sh:=[20]}
def zox(a:Int)(b c:ax):Option R:=lq zxg zG kk Tryz.f13 52 k J ⟨uS 1 (pA 2 cF::pA 3 cF::iA a::uS 25 []),nS 2 (oA cF b::oA cF c::nS 26 [])⟩
def zi4(a b:ax):State:=⟨uS 1 (pA 2 cF::pA 3 cF::uS 26 []),nS 2 (oA cF a::oA cF b::nS 26 [])⟩
def WV:KX R:=(zk 0 (sk zxg zG kk Tryz.f13 7 (fk zxg Tryz.f13 none K)))
theorem anN a b c:zox R kk (k+1) J a b c=
 N9 a b c (zox R kk k J) (λa0 a1=>J (.exit 0) (zi4 a0 a1)):=by kernel_rfl
theorem agz a b:WV R kk K (.exit 0) (zi4 a b)=
 Ij a b (λa0=>K [.aq cF a0 []] none):=by kernel_rfl
theorem akm{kk:Nat}(hF:kk=af) a b c:zox R kk k J a b c=(Mq k a b c).bind λe=>J (.exit 0) (zi4 e.1 e.2):=by
 induction k generalizing a b c with
 |zero=>rfl
 |succ k ih=>rw[anN];simp only[Mq,N9,ih,av]
def P6:ai:=zG.add 13 [cF] (cO cF vl (λ_ r K=>K [.aq cF r []] none))
theorem o42:aL ee P6:=cP zxg (λR kk x0 K=>zoy x0 (zox R kk kk (WV R kk K))) o41 (ei.sh _) Tryz.func13 (λR kk e x0 K=>by simp only[vl,zoy,Ij,akm (hF:=e),agz,av,<-e])
def fV:Env:=e0 [y1]
def P7:ai:=P6.add 200 [y1] (cO y1 CX bI)
theorem o43:aL ee P7:=cP fV (λR kk x0 K=>zy4 x0 (λa0=>K [tI a0] none)) o42 ei Tryz.func200 (λR kk e x0 K=>by simp only[bI,CX,zy4,av])
def P8:ai:=P7.add 148 [y1] (cO y1 FT bg)
theorem o44:aL ee P8:=cP fV (λR kk x0 K=>zxv x0 (λa0=>K [tB a0] none)) o43 ei Tryz.func148 (λR kk e x0 K=>by simp only[bg,FT,zxv,av])
def zH:ai:=P8.add 201 [y1] (cO y1 kJ bI)
theorem o45:aL ee zH:=cP fV (λR kk x0 K=>Z8 x0 (λa0=>K [tI a0] none)) o44 ei Tryz.func201 (λR kk e x0 K=>by simp only[bI,kJ,Z8,av])
def zxx:Env:=bU.env (kp [(3,[3,5,6])]) (kp [(3,[3])]) [] [y1]
def zq5(a b c:Int):Option R:=lq zxx zH kk Tryz.f149 116 k J ⟨uS 3 (iA a::uS 1 (iA b::iA c::uS 6 [])),nS 14 []⟩
def ziq(a:Int):State:=⟨uS 3 (iA a::uS 9 []),nS 14 []⟩
def W5:KX R:=(zk 0 (sk zxx zH kk Tryz.f149 15 (fk zxx Tryz.f149 none K)))
theorem an2 a b c:zq5 R kk (k+1) J a b c=
 IZ a b c (zq5 R kk k J) (λa0=>J (.exit 0) (ziq a0)):=by kernel_rfl
theorem agT a:W5 R kk K (.exit 0) (ziq a)=
 I0 a (λa0=>K [tI a0] none):=by kernel_rfl
theorem akC{kk:Nat}(hF:kk=af) a b c:zq5 R kk k J a b c=(zq6 k a b c).bind λe=>J (.exit 0) (ziq e):=by
 induction k generalizing a b c with
 |zero=>rfl
 |succ k ih=>rw[an2];simp only[zq6,IZ,ih,av]
def P9:ai:=zH.add 149 [y1] (cO y1 s7 bI)
theorem o46:aL ee P9:=cP zxx (λR kk x0 K=>IY x0 (zq5 R kk kk (W5 R kk K))) o45 ei Tryz.func149 (λR kk e x0 K=>by simp only[bI,s7,IY,I0,akC (hF:=e),agT,av,<-e])
def zJ:ai:=P9.add 96 [b6] (cO b6 mM bI)
theorem o47:aL ee zJ:=cP vW (λR kk x0 K=>zra x0 (λa0=>K [tI a0] none)) o46 ei Tryz.func96 (λR kk e x0 K=>by simp only[bI,mM,zra,av])
def zy2:Env:=bU.env (kp [(6,[1,26,27,28])]) (kp [(6,[2,3])]) [] [aG]
def zqx(a:kU)(b c:Int)(d:ah):Option R:=lq zy2 zJ kk Tryz.f68 116 k J ⟨uS 1 (pA 2 aG::uS 24 (dA y52 a::iA b::iA c::uS 26 [])),nS 2 (oA aG d::nS 53 [])⟩
def zj4(a b:Int):State:=⟨uS 2 (iA a::iA b::uS 51 []),nS 56 []⟩
def zj5:State:=⟨uS 55 [],nS 56 []⟩
def Jg:KX R:=(zk 1 (sk zy2 zJ kk Tryz.f68 15 (fk zy2 Tryz.f68 none K)))
theorem aoa a b c d:zqx R kk (k+1) J a b c d=
 ze1 a b c d (λa0 a1=>J .ret (zj4 a0 a1)) (zqx R kk k J) (J (.exit 1) (zj5)):=by kernel_rfl
theorem ag9 a b:Jg R kk K .ret (zj4 a b)=
 zqy a b (λa0 a1=>K [tI a0,tI a1] none):=by kernel_rfl
theorem aha:Jg R kk K (.exit 1) (zj5)=
 zqz (λa0 a1=>K [tI a0,tI a1] none):=by kernel_rfl
theorem akK{kk:Nat}(hF:kk=af) a b c d:zqx R kk k J a b c d=(Fz k a b c d).bind λe=>(GB (λ(we:(Int×Int))=>J .ret (zj4 we.1 we.2)) (λ(we:Unit)=>J (.exit 1) (zj5)) e):=by
 induction k generalizing a b c d with
 |zero=>rfl
 |succ k ih=>rw[aoa];simp only[Fz,ze1,ih,av]
def zK:ai:=zJ.add 68 [aG] (cO aG nB n6)
theorem o48:aL ee zK:=cP zy2 (λR kk x0 K=>Od x0 (λa0 a1=>K [tI a0,tI a1] none) (λa0 a1 a2 a3=>zqx R kk kk (Jg R kk K) a0 a1 a2 a3)) o47 ei Tryz.func68 (λR kk e x0 K=>by simp only[n6,nB,adk,zqy,zqz,akK (hF:=e),ag9,aha,av,<-e])
def zy3:Env:=bU.env (kp [(2,[1,4,9,10,11])]) (kp [(2,[4,5])]) [4] [aG,y1]
def zr0(a:Int)(b:kU)(c d:Int)(e:aA):Option R:=lq zy3 zK kk Tryz.f69 52 k J ⟨uS 1 (iA a::uS 2 (pA 5 b6::uS 4 (dA y52 b::iA c::iA d::uS 10 []))),nS 5 (oA b6 e::nS 17 [])⟩
def zj6(a:Bool)(b:aA):State:=⟨uS 4 (pA 5 b6::bA a::uS 16 []),nS 5 (oA b6 b::nS 17 [])⟩
def zj7(a:aA):State:=⟨uS 4 (pA 5 b6::uS 17 []),nS 5 (oA b6 a::nS 17 [])⟩
def Jh:KX R:=(zk 0 (sk zy3 zK kk Tryz.f69 7 (fk zy3 Tryz.f69 none K)))
theorem aob a b c d e:zr0 R kk (k+1) J a b c d e=
 Ji a b c d e (λa0 a1=>J .ret (zj6 a0 a1)) (zr0 R kk k J) (λa0=>J (.exit 0) (zj7 a0)):=by kernel_rfl
theorem ahb a b:Jh R kk K .ret (zj6 a b)=
 Jj a b (λa0 a1=>K [.aq b6 a0 [],tB a1] none):=by kernel_rfl
theorem ahc a:Jh R kk K (.exit 0) (zj7 a)=
 Jk a (λa0 a1=>K [.aq b6 a0 [],tB a1] none):=by kernel_rfl
theorem akL{kk:Nat}(hF:kk=af) a b c d f:zr0 R kk k J a b c d f=(ze2 k a b c d f).bind λe=>(GB (λ(we:(Bool×aA))=>J .ret (zj6 we.1 we.2)) (λ(we:aA)=>J (.exit 0) (zj7 we)) e):=by
 induction k generalizing a b c d f with
 |zero=>rfl
 |succ k ih=>rw[aob];simp only[ze2,Ji,ih,av]
def zL:ai:=zK.add 69 [aG,y1] (cY aG y1 gk (λ_ r K=>K [.aq b6 r.1 [],tB r.2] none))
theorem o49:aL ee zL:=dc zy3 (λR kk x0 x1 K=>zr1 x0 x1 (zr0 R kk kk (Jh R kk K))) o48 ei Tryz.func69 (λR kk e x0 x1 K=>by simp only[gk,zr1,Jj,Jk,akL (hF:=e),ahb,ahc,av,<-e])
def zy7:Env:=bU.env (kp [(2,[0,1,7,8])]) (kp [(2,[4])]) [] [y8,y1]
def zr8(a:(List Int))(b c d:Int):Option R:=lq zy7 zL kk Tryz.f150 52 k J ⟨dA y8 a::iA b::uS 5 (iA c::iA d::uS 10 []),nS 20 []⟩
def zjc(a:Int):State:=⟨uS 4 (iA a::uS 14 []),nS 20 []⟩
def zjd:State:=⟨uS 19 [],nS 20 []⟩
def Ju:KX R:=(zk 0 (sk zy7 zL kk Tryz.f150 7 (fk zy7 Tryz.f150 none K)))
theorem aof a b c d:zr8 R kk (k+1) J a b c d=
 Jv a b c d (λa0=>J .ret (zjc a0)) (zr8 R kk k J) (J (.exit 0) (zjd)):=by kernel_rfl
theorem ahh a:Ju R kk K .ret (zjc a)=
 Jw a (λa0=>K [tI a0] none):=by kernel_rfl
theorem ahi:Ju R kk K (.exit 0) (zjd)=
 Jx (λa0=>K [tI a0] none):=by kernel_rfl
theorem akO{kk:Nat}(hF:kk=af) a b c d:zr8 R kk k J a b c d=(ze5 k a b c d).bind λe=>(GB (λ(we:Int)=>J .ret (zjc we)) (λ(we:Unit)=>J (.exit 0) (zjd)) e):=by
 induction k generalizing a b c d with
 |zero=>rfl
 |succ k ih=>rw[aof];simp only[ze5,Jv,ih,av]
def Qa:ai:=zL.add 150 [y8,y1] (cY y8 y1 yG bI)
theorem o50:aL ee Qa:=dc zy7 (λR kk x0 x1 K=>zr9 x0 x1 (zr8 R kk kk (Ju R kk K))) o49 ei Tryz.func150 (λR kk e x0 x1 K=>by simp only[bI,yG,zr9,Jw,Jx,akO (hF:=e),ahh,ahi,av,<-e])
def aqq:Env:=e0 [y8,y1]
def Qb:ai:=Qa.add 97 [y8,y1] (cY y8 y1 vJ bg)
theorem o51:aL ee Qb:=dc aqq (λR kk x0 x1 K=>zr3 x0 x1 (λa0=>K [tB a0] none)) o50 ei Tryz.func97 (λR kk e x0 x1 K=>by simp only[bg,vJ,zr3,av])
def X6:Env:=e0 [cu,y1]
def Qc:ai:=Qb.add 70 [cu,y1] (cY cu y1 vF bI)
theorem o52:aL ee Qc:=dc X6 (λR kk x0 x1 K=>zqm x0 x1 (λa0=>K [tI a0] none)) o51 ei Tryz.func70 (λR kk e x0 x1 K=>by simp only[bI,vF,zqm,av])
def X5:Env:=e0 [eD,.unit]
def zM:ai:=Qc.add 99 [eD,.unit] (pz eD eD eD [] tc AD)
theorem o53:aL ee zM:=sz X5 (λR kk x0 x1 K=>zql x0 x1 (λa0 a1=>K [tB a0] (some ⟨eD,a1,[]⟩))) o52 ei Tryz.func99 (λR kk e x0 x1 K=>by simp only[AD,tc,zql,av])
def zy5:Env:=bU.env (kp [(2,[0,1,7,8])]) (kp [(2,[4])]) [] [oG,.unit]
def zr4(a:al)(b c:Int)(d:aT):Option R:=lq zy5 zM kk Tryz.f151 52 k J ⟨dA oG a::pA 0 y35::uS 5 (iA b::iA c::uS 10 []),oA eD d::nS 19 []⟩
def zj8(a:Int)(b:aT):State:=⟨uS 4 (iA a::uS 14 []),oA eD b::nS 19 []⟩
def zj9(a:aT):State:=⟨uS 19 [],oA eD a::nS 19 []⟩
def Jm(a:aT):KX R:=(zk 0 (sk zy5 zM kk Tryz.f151 7 (fk zy5 Tryz.f151 (some ⟨eD,a,[]⟩) K)))
theorem aod a b c d:zr4 R kk (k+1) J a b c d=
 Jn a b c d (λa0 a1=>J .ret (zj8 a0 a1)) (zr4 R kk k J) (λa0=>J (.exit 0) (zj9 a0)):=by kernel_rfl
theorem ahd a b c:Jm R kk K a .ret (zj8 b c)=
 Jo b c (λa0 a1=>K [tI a0] (some ⟨eD,a1,[]⟩)):=by kernel_rfl
theorem ahe a b:Jm R kk K a (.exit 0) (zj9 b)=
 Jp b (λa0 a1=>K [tI a0] (some ⟨eD,a1,[]⟩)):=by kernel_rfl
theorem akM{kk:Nat}(hF:kk=af) a b c d:zr4 R kk k J a b c d=(ze3 k a b c d).bind λe=>(GB (λ(we:(Int×aT))=>J .ret (zj8 we.1 we.2)) (λ(we:aT)=>J (.exit 0) (zj9 we)) e):=by
 induction k generalizing a b c d with
 |zero=>rfl
 |succ k ih=>rw[aod];simp only[ze3,Jn,ih,av]
def Qd:ai:=zM.add 151 [oG,.unit] (pz oG y35 eD [] yF (λ_ r K=>K [tI r.1] (some ⟨eD,r.2,[]⟩)))
theorem o54:aL ee Qd:=sz zy5 (λR kk x0 x1 K=>zr5 x0 x1 (zr4 R kk kk (Jm R kk K x1))) o53 ei Tryz.func151 (λR kk e x0 x1 K=>by simp only[yF,zr5,Jo,Jp,akM (hF:=e),ahd,ahe,av,<-e])
def aqp:Env:=e0 [oG,.unit]
def Qe:ai:=Qd.add 98 [oG,.unit] (pz oG y35 eD [] vI AD)
theorem o55:aL ee Qe:=sz aqp (λR kk x0 x1 K=>zr2 x0 x1 (λa0 a1=>K [tB a0] (some ⟨eD,a1,[]⟩))) o54 ei Tryz.func98 (λR kk e x0 x1 K=>by simp only[AD,vI,zr2,av])
def zN:ai:=Qe.add 202 [y0] (cO y0 FU bI)
theorem o56:aL ee zN:=cP qQ (λR kk x0 K=>Ko x0 (λa0=>K [tI a0] none)) o55 ei Tryz.func202 (λR kk e x0 K=>by simp only[bI,FU,Ko,av])
def qd:Env:=bU.env (kp [(3,[1,5,6])]) (kp [(3,[4])]) [] [y1,.str]
def zxq(a:ByteArray)(b c:Int):Option R:=lq qd zN kk Tryz.f152 116 k J ⟨uS 1 (sA a::uS 3 (iA b::iA c::uS 16 [])),nS 24 []⟩
def zu7(a:Int):State:=⟨uS 4 (iA a::uS 18 []),nS 24 []⟩
def zu8:State:=⟨uS 23 [],nS 24 []⟩
def Kl:KX R:=(zk 0 (sk qd zN kk Tryz.f152 15 (fk qd Tryz.f152 none K)))
theorem aqi a b c:zxq R kk (k+1) J a b c=
 zij a b c (λa0=>J .ret (zu7 a0)) (zxq R kk k J) (J (.exit 0) (zu8)):=by kernel_rfl
theorem akw a:Kl R kk K .ret (zu7 a)=
 Km a (λa0=>K [tI a0] none):=by kernel_rfl
theorem akx:Kl R kk K (.exit 0) (zu8)=
 Kn (λa0=>K [tI a0] none):=by kernel_rfl
theorem anX{kk:Nat}(hF:kk=af) a b c:zxq R kk k J a b c=(MO k a b c).bind λe=>(GB (λ(we:Int)=>J .ret (zu7 we)) (λ(we:Unit)=>J (.exit 0) (zu8)) e):=by
 induction k generalizing a b c with
 |zero=>rfl
 |succ k ih=>rw[aqi];simp only[MO,zij,ih,av]
def Qf:ai:=zN.add 152 [y1,.str] (cY y1 .str Pc bI)
theorem o57:aL ee Qf:=dc qd (λR kk x0 x1 K=>zxr x0 x1 (zxq R kk kk (Kl R kk K))) o56 ei Tryz.func152 (λR kk e x0 x1 K=>by simp only[bI,Pc,zxr,Km,Kn,anX (hF:=e),akw,akx,av,<-e])
def Qg:ai:=Qf.add 222 [y1] (cO y1 pr bg)
theorem o58:aL ee Qg:=cP fV (λR kk x0 K=>JB x0 (λa0=>K [tB a0] none)) o57 ei Tryz.func222 (λR kk e x0 K=>by simp only[bg,pr,JB,av])
def Qh:ai:=Qg.add 223 [y1] (cO y1 vP bg)
theorem o59:aL ee Qh:=cP fV (λR kk x0 K=>zrr x0 (λa0=>K [tB a0] none)) o58 ei Tryz.func223 (λR kk e x0 K=>by simp only[bg,vP,zrr,av])
def Qi:ai:=Qh.add 203 [.str,y1] (cY .str y1 vO ej)
theorem o60:aL ee Qi:=dc nE (λR kk x0 x1 K=>zrq x0 x1 (λa0 a1 a2=>K [tI a0,tI a1,tI a2] none)) o59 ei Tryz.func203 (λR kk e x0 x1 K=>by simp only[ej,vO,zrq,av])
def zO:ai:=Qi.add 224 [y1] (cO y1 Q4 bI)
theorem o61:aL ee zO:=cP fV (λR kk x0 K=>qy x0 (λa0=>K [tI a0] none)) o60 ei Tryz.func224 (λR kk e x0 K=>by simp only[bI,Q4,qy,av])
def yK:Env:=bU.env (kp [(14,[0,1,7,8,44,45])]) (kp [(14,[1,7,8])]) [] [.str,y1]
def qt(a:ByteArray)(b c d e f:Int):Option R:=lq yK zO kk Tryz.f204 4084 k J ⟨sA a::iA b::uS 5 (iA c::iA d::uS 35 (iA e::iA f::uS 21 [])),nS 68 []⟩
def J1(a b c:Int):State:=⟨uS 1 (iA a::uS 5 (iA b::iA c::uS 58 [])),nS 68 []⟩
def C5:KX R:=(zk 0 (sk yK zO kk Tryz.f204 511 (fk yK Tryz.f204 none K)))
theorem Ps a b c d e f:qt R kk (k+1) J a b c d e f=
 l5 a b c d e f (qt R kk k J) (λa0 a1 a2=>J (.exit 0) (J1 a0 a1 a2)):=by kernel_rfl
theorem aoz a b c:C5 R kk K (.exit 0) (J1 a b c)=
 l6 a b c (λa0 a1 a2=>K [tI a0,tI a1,tI a2] none):=by kernel_rfl
theorem aqD{kk:Nat}(hF:kk=af) a b c d f g:qt R kk k J a b c d f g=(fy k a b c d f g).bind λe=>J (.exit 0) (J1 e.1 e.2.1 e.2.2):=by
 induction k generalizing a b c d f g with
 |zero=>rfl
 |succ k ih=>rw[Ps];simp only[fy,l5,ih,av]
def zP:ai:=zO.add 204 [.str,y1] (cY .str y1 Q3 ej)
theorem o62:aL ee zP:=dc yK (λR kk x0 x1 K=>l4 x0 x1 (λa0 a1 a2=>K [tI a0,tI a1,tI a2] none) (λa0 a1 a2 a3 a4 a5=>qt R kk kk (C5 R kk K) a0 a1 a2 a3 a4 a5)) o61 ei Tryz.func204 (λR kk e x0 x1 K=>by simp only[ej,Q3,aeG,l6,aqD (hF:=e),aoz,av,<-e])
def zyb:Env:=bU.env (kp [(4,[0,5,6,7,13])]) (kp [(4,[2,3,4,5])]) [] [.str]
def zrs(a:ByteArray)(b:al)(c:Int)(d:QI):Option R:=lq zyb zP kk Tryz.f153 244 k J ⟨sA a::uS 4 (dB na b::pA 14 (.aY .mp y1 .bool)::iA c::uS 5 (pA 14 (.aY .mp y1 .bool)::uS 58 [])),nS 14 (oA (.aY .mp y1 .bool) d::nS 58 [])⟩
def zjj(a:al)(b c:Int)(d:al):State:=⟨uS 2 (dB na a::iA b::iA c::dB na d::uS 66 []),nS 73 []⟩
def zjk(a:al):State:=⟨uS 5 (dB na a::uS 66 []),nS 73 []⟩
def JC:KX R:=(zk 0 (sk zyb zP kk Tryz.f153 31 (fk zyb Tryz.f153 none K)))
theorem aok a b c d:zrs R kk (k+1) J a b c d=
 zru a b c d (λa0 a1 a2 a3=>J .ret (zjj a0 a1 a2 a3)) (zrs R kk k J) (λa0=>J (.exit 0) (zjk a0)):=by kernel_rfl
theorem ahn a b c d:JC R kk K .ret (zjj a b c d)=
 JD a b c d (λa0 a1 a2=>K [.aq na a0 [[]],tI a1,tI a2] none):=by kernel_rfl
theorem aho a:JC R kk K (.exit 0) (zjk a)=
 JE a (λa0 a1 a2=>K [.aq na a0 [],tI a1,tI a2] none):=by kernel_rfl
theorem akU{kk:Nat}(hF:kk=af) a b c d:zrs R kk k J a b c d=(Oh k a b c d).bind λe=>(GB (λ(we:tu)=>J .ret (zjj we.1 we.2.1 we.2.2.1 we.2.2.2)) (λ(we:al)=>J (.exit 0) (zjk we)) e):=by
 induction k generalizing a b c d with
 |zero=>rfl
 |succ k ih=>rw[aok];simp only[Oh,zru,ih,av]
def Qj:ai:=zP.add 153 [.str] (cO .str vQ AL)
theorem o63:aL ee Qj:=cP zyb (λR kk x0 K=>zrt x0 (zrs R kk kk (JC R kk K))) o62 ei Tryz.func153 (λR kk e x0 K=>by simp only[AL,vQ,zrt,JD,JE,akU (hF:=e),ahn,aho,av,<-e]) (ho:=λ_ _ _ _ _ _ h=>zfg (λ_=>h _ _) (λ_=>h _ _))
def Qk:ai:=Qj.add 100 [b6,.str] (cY b6 .str cf bI)
theorem o64:aL ee Qk:=dc Di (λR kk x0 x1 K=>zrb x0 x1 (λa0=>K [tI a0] none)) o63 ei Tryz.func100 (λR kk e x0 x1 K=>by simp only[bI,cf,zrb,av])
def aqk:Env:=e0 [cu,y1,b6]
def tk:ai:=Qk.add 71 [cu,y1,b6] (iF cu y1 b6 vE bI)
theorem o65:aL ee tk:=iK aqk (λR kk x0 x1 x2 K=>zqk x0 x1 x2 (λa0=>K [tI a0] none)) o64 ei Tryz.func71 (λR kk e x0 x1 x2 K=>by simp only[bI,vE,zqk,av])
def MP:Env:=bU.env (kp [(8,[1,7,33,34]),(16,[1,7,11,46,47,48])]) (kp [(8,[1,2,3,4,7]),(16,[1,2,3,4,11])]) [] [cu]
def zqb(a b:Int)(c:ay)(d:aA):Option R:=lq MP tk kk zgX 500 k J ⟨uS 1 (pA 2 cu::uS 5 (pA 8 b6::uS 25 (iA a::iA b::uS 38 []))),nS 2 (oA cu c::nS 5 (oA b6 d::nS 65 []))⟩
def zis(a b c:Int)(d:ay)(e:aA):State:=⟨uS 1 (pA 2 cu::iA a::iA b::iA c::uS 2 (pA 8 b6::uS 65 [])),nS 2 (oA cu d::nS 5 (oA b6 e::nS 65 []))⟩
def zit(a:ay)(b:aA):State:=⟨uS 1 (pA 2 cu::uS 5 (pA 8 b6::uS 65 [])),nS 2 (oA cu a::nS 5 (oA b6 b::nS 65 []))⟩
def I2:KX R:=(zk 0 (sk MP tk kk zgX 63 (fk MP zgX none K)))
def zqc(a:Bool)(b:al)(c d:Int)(e:ay)(f:aA):Option R:=lq MP tk kk zgX 2036 k J ⟨uS 1 (pA 2 cu::uS 5 (pA 8 b6::uS 3 (bA a::uS 34 (dA oG b::iA c::iA d::uS 24 [])))),nS 2 (oA cu e::nS 5 (oA b6 f::nS 65 []))⟩
def ziu(a b c:Int)(d:Bool)(e:ay):State:=⟨uS 1 (pA 2 cu::iA a::iA b::iA c::uS 6 (bA d::uS 61 [])),nS 2 (oA cu e::nS 71 [])⟩
def ziv(a:Bool)(b:ay):State:=⟨uS 1 (pA 2 cu::uS 9 (bA a::uS 61 [])),nS 2 (oA cu b::nS 71 [])⟩
def I3:KX R:=(zk 2 (sk MP tk kk zgX 255 (fk MP zgX none K)))
theorem an4 a b c d:zqb R kk (k+1) J a b c d=
 zdx a b c d (λa0 a1 a2 a3 a4=>J .ret (zis a0 a1 a2 a3 a4)) (zqb R kk k J) (λa0 a1=>J (.exit 0) (zit a0 a1)):=by kernel_rfl
theorem agV a b c d e:I2 R kk K .ret (zis a b c d e)=
 I4 a b c d e (λa0 a1 a2=>K [tI a0,tI a1,tI a2] none):=by kernel_rfl
theorem agW a b:I2 R kk K (.exit 0) (zit a b)=
 zqe a b (zqc R kk kk (I3 R kk K)):=by kernel_rfl
theorem an5 a b c d e f:zqc R kk (k+1) J a b c d e f=
 zdy a b c d e f (λa0 a1 a2 a3 a4=>J .ret (ziu a0 a1 a2 a3 a4)) (zqc R kk k J) (λa0 a1=>J (.exit 2) (ziv a0 a1)):=by kernel_rfl
theorem agX a b c d e:I3 R kk K .ret (ziu a b c d e)=
 I5 a b c d e (λa0 a1 a2=>K [tI a0,tI a1,tI a2] none):=by kernel_rfl
theorem agY a b:I3 R kk K (.exit 2) (ziv a b)=
 zqf a b (λa0 a1 a2=>K [tI a0,tI a1,tI a2] none):=by kernel_rfl
theorem akE{kk:Nat}(hF:kk=af) a b c d:zqb R kk k J a b c d=(Mu k a b c d).bind λe=>(GB (λ(we:(Int×Int×Int×ay×aA))=>J .ret (zis we.1 we.2.1 we.2.2.1 we.2.2.2.1 we.2.2.2.2)) (λ(we:(ay×aA))=>J (.exit 0) (zit we.1 we.2)) e):=by
 induction k generalizing a b c d with
 |zero=>rfl
 |succ k ih=>rw[an4];simp only[Mu,zdx,ih,av]
theorem akF{kk:Nat}(hF:kk=af) a b c d f g:zqc R kk k J a b c d f g=(Mv k a b c d f g).bind λe=>(GB (λ(we:(Int×Int×Int×Bool×ay))=>J .ret (ziu we.1 we.2.1 we.2.2.1 we.2.2.2.1 we.2.2.2.2)) (λ(we:(Bool×ay))=>J (.exit 2) (ziv we.1 we.2)) e):=by
 induction k generalizing a b c d f g with
 |zero=>rfl
 |succ k ih=>rw[an5];simp only[Mv,zdy,ih,av]
def zQ:ai:=tk.add 55 [cu] (cO cu vC ej)
theorem o66:aL ee zQ:=cP MP (λR kk x0 K=>zqd x0 (λa0 a1 a2=>K [tI a0,tI a1,tI a2] none) (zqb R kk kk (I2 R kk K))) o65 ei Tryz.func55 (λR kk e x0 K=>by simp only[ej,vC,zqd,I4,zqe,I5,zqf,akE (hF:=e),akF (hF:=e),agV,agW,agX,agY,av,<-e])
def qk:Env:=bU.env (kp [(2,[6])]) (kp [(2,[2])]) [] [.str]
def zyh(a:tm):Option R:=lq qk zQ kk Tryz.f205 52 k J ⟨uS 6 (pA 7 y14::uS 9 []),nS 7 (oA y14 a::nS 9 [])⟩
def zud(a:Bool):State:=⟨uS 2 (bA a::uS 13 []),nS 17 []⟩
def zue:State:=⟨uS 16 [],nS 17 []⟩
def Kx:KX R:=(zk 0 (sk qk zQ kk Tryz.f205 7 (fk qk Tryz.f205 none K)))
theorem aqx a:zyh R kk (k+1) J a=
 zyj a (λa0=>J .ret (zud a0)) (zyh R kk k J) (J (.exit 0) (zue)):=by kernel_rfl
theorem ak5 a:Kx R kk K .ret (zud a)=
 Ky a (λa0=>K [tB a0] none):=by kernel_rfl
theorem ak6:Kx R kk K (.exit 0) (zue)=
 Kz (λa0=>K [tB a0] none):=by kernel_rfl
theorem aou{kk:Nat}(hF:kk=af) a:zyh R kk k J a=(OB k a).bind λe=>(GB (λ(we:Bool)=>J .ret (zud we)) (λ(we:Unit)=>J (.exit 0) (zue)) e):=by
 induction k generalizing a with
 |zero=>rfl
 |succ k ih=>rw[aqx];simp only[OB,zyj,ih,av]
def Ql:ai:=zQ.add 205 [.str] (cO .str CZ bg)
theorem o67:aL ee Ql:=cP qk (λR kk x0 K=>zyi x0 (zyh R kk kk (Kx R kk K))) o66 ei Tryz.func205 (λR kk e x0 K=>by simp only[bg,CZ,zyi,Ky,Kz,aou (hF:=e),ak5,ak6,av,<-e])
def Qm:ai:=Ql.add 154 [.str] (cO .str pn bg)
theorem o68:aL ee Qm:=cP CE (λR kk x0 K=>zq2 x0 (λa0=>K [tB a0] none)) o67 ei Tryz.func154 (λR kk e x0 K=>by simp only[bg,pn,zq2,av])
def Qn:ai:=Qm.add 101 [.str] (cO .str ke n4)
theorem o69:aL ee Qn:=cP CE (λR kk x0 K=>zq3 x0 (λa0 a1=>K [tI a0,tB a1] none)) o68 ei Tryz.func101 (λR kk e x0 K=>by simp only[n4,ke,zq3,av])
def Qo:ai:=Qn.add 102 [.str] (cO .str pk bg)
theorem o70:aL ee Qo:=cP CE (λR kk x0 K=>zq0 x0 (λa0=>K [tB a0] none)) o69 ei Tryz.func102 (λR kk e x0 K=>by simp only[bg,pk,zq0,av])
def aqy:Env:=e0 [NK,aG,aG]
def Qp:ai:=Qo.add 72 [NK,aG,aG] (iF NK aG aG pB bg)
theorem o71:aL ee Qp:=iK aqy (λR kk x0 x1 x2 K=>zse x0 x1 x2 (λa0=>K [tB a0] none)) o70 ei Tryz.func72 (λR kk e x0 x1 x2 K=>by simp only[bg,pB,zse,av])
def aqo:Env:=bU.env (λ_=>[]) (λ_=>[]) [6,7] [cV,aG,aG]
def Qq:ai:=Qp.add 103 [cV,aG,aG] (iF cV aG aG vH (λ_ r K=>K [.aq b6 r.1 [],.aq b6 r.2.1 [],tI r.2.2] none))
theorem o72:aL ee Qq:=iK aqo (λR kk x0 x1 x2 K=>zqt x0 x1 x2 (λa0 a1 a2=>K [.aq b6 a0 [],.aq b6 a1 [],tI a2] none)) o71 ei Tryz.func103 (λR kk e x0 x1 x2 K=>by simp only[vH,zqt,av])
def qg:Env:=e0 [y1,y1]
def Qr:ai:=Qq.add 206 [y1,y1] (cY y1 y1 Pd bg)
theorem o73:aL ee Qr:=dc qg (λR kk x0 x1 K=>zxy x0 x1 (λa0=>K [tB a0] none)) o72 ei Tryz.func206 (λR kk e x0 x1 K=>by simp only[bg,Pd,zxy,av])
def Qs:ai:=Qr.add 155 [y1,y1] (cY y1 y1 yH bg)
theorem o74:aL ee Qs:=dc qg (λR kk x0 x1 K=>zrd x0 x1 (λa0=>K [tB a0] none)) o73 ei Tryz.func155 (λR kk e x0 x1 K=>by simp only[bg,yH,zrd,av])
def Qt:ai:=Qs.add 104 [b6,b6] (cY b6 b6 mN bg)
theorem o75:aL ee Qt:=dc Dj (λR kk x0 x1 K=>zrc x0 x1 (λa0=>K [tB a0] none)) o74 ei Tryz.func104 (λR kk e x0 x1 K=>by simp only[bg,mN,zrc,av])
def zR:ai:=Qt.add 105 [b6] (cO b6 kf bg)
theorem o76:aL ee zR:=cP vW (λR kk x0 K=>zqu x0 (λa0=>K [tB a0] none)) o75 ei Tryz.func105 (λR kk e x0 K=>by simp only[bg,kf,zqu,av])
def qj:Env:=bU.env (kp [(5,[4,10,11,12,13])]) (kp [(5,[2,3])]) [] [fp]
def zyc(a:bd)(b c:Int)(d:lN):Option R:=lq qj zR kk Tryz.f156 244 k J ⟨uS 4 (pA 11 NJ::uS 5 (pA 11 NJ::dA fp a::iA b::iA c::uS 13 [])),nS 11 (oA NJ d::nS 16 [])⟩
def zub(a b:Int):State:=⟨uS 2 (iA a::iA b::uS 23 []),nS 28 []⟩
def zuc:State:=⟨uS 27 [],nS 28 []⟩
def Kt:KX R:=(zk 0 (sk qj zR kk Tryz.f156 31 (fk qj Tryz.f156 none K)))
theorem aqv a b c d:zyc R kk (k+1) J a b c d=
 Ku a b c d (λa0 a1=>J .ret (zub a0 a1)) (zyc R kk k J) (J (.exit 0) (zuc)):=by kernel_rfl
theorem akV a b:Kt R kk K .ret (zub a b)=
 Kv a b (λa0 a1=>K [tI a0,tI a1] none):=by kernel_rfl
theorem akW:Kt R kk K (.exit 0) (zuc)=
 Kw (λa0 a1=>K [tI a0,tI a1] none):=by kernel_rfl
theorem aol{kk:Nat}(hF:kk=af) a b c d:zyc R kk k J a b c d=(zjl k a b c d).bind λe=>(GB (λ(we:(Int×Int))=>J .ret (zub we.1 we.2)) (λ(we:Unit)=>J (.exit 0) (zuc)) e):=by
 induction k generalizing a b c d with
 |zero=>rfl
 |succ k ih=>rw[aqv];simp only[zjl,Ku,ih,av]
def zS:ai:=zR.add 156 [fp] (cO fp Pg n6)
theorem o77:aL ee zS:=cP qj (λR kk x0 K=>zyd x0 (λa0 a1=>K [tI a0,tI a1] none) (zyc R kk kk (Kt R kk K))) o76 ei Tryz.func156 (λR kk e x0 K=>by simp only[n6,Pg,zyd,Kv,Kw,aol (hF:=e),akV,akW,av,<-e])
def zy1:Env:=bU.env (kp [(5,[4,5,25,26,27])]) (kp [(5,[6])]) [] [fp,b6,b6]
def zqv(a:bd)(b c:Int)(d e:aA):Option R:=lq zy1 zS kk Tryz.f106 116 k J ⟨uS 4 (pA 5 b6::pA 6 b6::uS 19 (dA fp a::iA b::iA c::uS 18 [])),nS 5 (oA b6 d::oA b6 e::nS 40 [])⟩
def zj2(a:Int):State:=⟨uS 6 (iA a::uS 39 []),nS 47 []⟩
def zj3:State:=⟨uS 46 [],nS 47 []⟩
def Jd:KX R:=(zk 0 (sk zy1 zS kk Tryz.f106 15 (fk zy1 Tryz.f106 none K)))
theorem an9 a b c d e:zqv R kk (k+1) J a b c d e=
 z175 a b c d e (λa0=>J .ret (zj2 a0)) (zqv R kk k J) (J (.exit 0) (zj3)):=by kernel_rfl
theorem ag7 a:Jd R kk K .ret (zj2 a)=
 Je a (λa0=>K [tI a0] none):=by kernel_rfl
theorem ag8:Jd R kk K (.exit 0) (zj3)=
 Jf (λa0=>K [tI a0] none):=by kernel_rfl
theorem akJ{kk:Nat}(hF:kk=af) a b c d f:zqv R kk k J a b c d f=(ze0 k a b c d f).bind λe=>(GB (λ(we:Int)=>J .ret (zj2 we)) (λ(we:Unit)=>J (.exit 0) (zj3)) e):=by
 induction k generalizing a b c d f with
 |zero=>rfl
 |succ k ih=>rw[an9];simp only[ze0,z175,ih,av]
def Qu:ai:=zS.add 106 [fp,b6,b6] (iF fp b6 b6 nA bI)
theorem o78:aL ee Qu:=iK zy1 (λR kk x0 x1 x2 K=>zqw x0 x1 x2 (λa0=>K [tI a0] none) (zqv R kk kk (Jd R kk K))) o77 ei Tryz.func106 (λR kk e x0 x1 x2 K=>by simp only[bI,nA,zqw,Je,Jf,akJ (hF:=e),ag7,ag8,av,<-e])
def aqn:Env:=e0 [cV,aG,aG]
def Qv:ai:=Qu.add 73 [cV,aG,aG] (iF cV aG aG pq bI)
theorem o79:aL ee Qv:=iK aqn (λR kk x0 x1 x2 K=>zqs x0 x1 x2 (λa0=>K [tI a0] none)) o78 ei Tryz.func73 (λR kk e x0 x1 x2 K=>by simp only[bI,pq,zqs,av])
def Pp:Env:=bU.env (λ_=>[]) (λ_=>[]) [2] [y1]
def Qw:ai:=Qv.add 157 [y1] (cO y1 Nd jk)
theorem o80:aL ee Qw:=cP Pp (λR kk x0 K=>zyy x0 (λa0=>K [.aq dz a0 []] none)) o79 ei Tryz.func157 (λR kk e x0 K=>by simp only[jk,Nd,zyy,av])
def C2:Env:=bU.env (λ_=>[]) (λ_=>[]) [4] [dz,dz]
def Qx:ai:=Qw.add 76 [dz,dz] (cY dz dz vT jk)
theorem o81:aL ee Qx:=dc C2 (λR kk x0 x1 K=>zyu x0 x1 (λa0=>K [.aq dz a0 []] none)) o80 ei Tryz.func76 (λR kk e x0 x1 K=>by simp only[jk,vT,zyu,av])
def Po:Env:=bU.env (λ_=>[]) (λ_=>[]) [4] [dz,y1]
def zV:ai:=Qx.add 107 [dz,y1] (cY dz y1 C4 jk)
theorem o82:aL ee zV:=dc Po (λR kk x0 x1 K=>zyx x0 x1 (λa0=>K [.aq dz a0 []] none)) o81 ei Tryz.func107 (λR kk e x0 x1 K=>by simp only[jk,C4,zyx,av])
def qo:Env:=bU.env (kp [(3,[2,3,6,7,8])]) (kp [(3,[2,3])]) [2] [y8]
def zyr(a:(List Int))(b c:Int)(d e:aH):Option R:=lq qo zV kk Tryz.f74 116 k J ⟨uS 2 (pA 3 dz::pA 4 dz::uS 2 (dA y8 a::iA b::iA c::uS 8 [])),nS 3 (oA dz d::oA dz e::nS 13 [])⟩
def zuh(a b:aH):State:=⟨uS 2 (pA 3 dz::pA 4 dz::uS 13 []),nS 3 (oA dz a::oA dz b::nS 13 [])⟩
def Yb:KX R:=(zk 0 (sk qo zV kk Tryz.f74 15 (fk qo Tryz.f74 none K)))
theorem aqB a b c d e:zyr R kk (k+1) J a b c d e=
 zk1 a b c d e (zyr R kk k J) (λa0 a1=>J (.exit 0) (zuh a0 a1)):=by kernel_rfl
theorem ak9 a b:Yb R kk K (.exit 0) (zuh a b)=
 zyt a b (λa0=>K [.aq dz a0 []] none):=by kernel_rfl
theorem aox{kk:Nat}(hF:kk=af) a b c d f:zyr R kk k J a b c d f=(FG k a b c d f).bind λe=>J (.exit 0) (zuh e.1 e.2):=by
 induction k generalizing a b c d f with
 |zero=>rfl
 |succ k ih=>rw[aqB];simp only[FG,zk1,ih,av]
def Qy:ai:=zV.add 74 [y8] (cO y8 xO jk)
theorem o83:aL ee Qy:=cP qo (λR kk x0 K=>zys x0 (zyr R kk kk (Yb R kk K))) o82 ei Tryz.func74 (λR kk e x0 K=>by simp only[jk,xO,zys,zyt,aox (hF:=e),ak9,av,<-e])
def nH:ai:=Qy.add 75 [dz,dz] (cY dz dz uw jk)
theorem o84:aL ee nH:=dc C2 (λR kk x0 x1 K=>zk2 x0 x1 (λa0=>K [.aq dz a0 []] none)) o83 ei Tryz.func75 (λR kk e x0 x1 K=>by simp only[jk,uw,zk2,av])
def yu:Env:=bU.env (kp [(2,[3,4,5,26,27,28]),(12,[3,4,5,13,46,48,49,50]),(24,[4,5,16,17,77,78,79])]) (kp [(2,[3,4,5,6,7,8]),(12,[3,4,5,6,7,8]),(24,[6,7,8])]) [] [cp,aG,aG]
def zrz(a:wg)(b c:Int)(d:az)(e f:ah):Option R:=lq yu nH kk zeY 52 k J ⟨uS 3 (pA 4 cp::pA 5 aG::pA 6 aG::uS 20 (dB y59 a::iA b::iA c::uS 92 [])),nS 4 (oA cp d::oA aG e::oA aG f::nS 115 [])⟩
def zjn(a b c:Int)(d:az)(e f:ah):State:=⟨uS 3 (pA 4 cp::pA 5 aG::pA 6 aG::iA a::iA b::iA c::uS 112 []),nS 4 (oA cp d::oA aG e::oA aG f::nS 115 [])⟩
def zjo(a:az)(b c:ah):State:=⟨uS 3 (pA 4 cp::pA 5 aG::pA 6 aG::uS 115 []),nS 4 (oA cp a::oA aG b::oA aG c::nS 115 [])⟩
def JH:KX R:=(zk 0 (sk yu nH kk zeY 7 (fk yu zeY none K)))
def zs0(a:bd)(b c:Int)(d:az)(e f:ah)(g:lN):Option R:=lq yu nH kk zeY 500 k J ⟨uS 3 (pA 4 cp::pA 5 aG::pA 6 aG::uS 7 (pA 47 NJ::uS 32 (pA 47 NJ::uS 1 (dA fp a::iA b::iA c::uS 70 [])))),nS 4 (oA cp d::oA aG e::oA aG f::nS 40 (oA NJ g::nS 74 []))⟩
def zjp(a b c:Int)(d:az)(e f:ah):State:=⟨uS 3 (pA 4 cp::pA 5 aG::pA 6 aG::iA a::iA b::iA c::uS 112 []),nS 4 (oA cp d::oA aG e::oA aG f::nS 115 [])⟩
def zjq(a:az)(b c:ah):State:=⟨uS 3 (pA 4 cp::pA 5 aG::pA 6 aG::uS 115 []),nS 4 (oA cp a::oA aG b::oA aG c::nS 115 [])⟩
def JI:KX R:=(zk 2 (sk yu nH kk zeY 63 (fk yu zeY none K)))
def zs1(a:cJ)(b c:Int)(d e:ah)(f g:aH):Option R:=lq yu nH kk zeY 4084 k J ⟨uS 4 (pA 5 aG::pA 6 aG::uS 10 (pA 17 dz::pA 18 dz::uS 59 (dA uH a::iA b::iA c::uS 41 []))),nS 5 (oA aG d::oA aG e::nS 10 (oA dz f::oA dz g::nS 103 []))⟩
def zjr(a b c:Int):State:=⟨uS 6 (iA a::iA b::iA c::uS 112 []),nS 122 []⟩
def zjs:State:=⟨uS 121 [],nS 122 []⟩
def JJ:KX R:=(zk 5 (sk yu nH kk zeY 511 (fk yu zeY none K)))
theorem aon a b c d e f:zrz R kk (k+1) J a b c d e f=
 zs3 a b c d e f (λa0 a1 a2 a3 a4 a5=>J .ret (zjn a0 a1 a2 a3 a4 a5)) (zrz R kk k J) (λa0 a1 a2=>J (.exit 0) (zjo a0 a1 a2)):=by kernel_rfl
theorem ahq a b c d e f:JH R kk K .ret (zjn a b c d e f)=
 z182 a b c d e f (λa0 a1 a2=>K [tI a0,tI a1,tI a2] none):=by kernel_rfl
theorem ahr a b c:JH R kk K (.exit 0) (zjo a b c)=
 zs4 a b c (λa0 a1 a2=>K [tI a0,tI a1,tI a2] none) (zs0 R kk kk (JI R kk K)):=by kernel_rfl
theorem aoo a b c d e f g:zs0 R kk (k+1) J a b c d e f g=
 z183 a b c d e f g (λa0 a1 a2 a3 a4 a5=>J .ret (zjp a0 a1 a2 a3 a4 a5)) (zs0 R kk k J) (λa0 a1 a2=>J (.exit 2) (zjq a0 a1 a2)):=by kernel_rfl
theorem ahs a b c d e f:JI R kk K .ret (zjp a b c d e f)=
 JK a b c d e f (λa0 a1 a2=>K [tI a0,tI a1,tI a2] none):=by kernel_rfl
theorem aht a b c:JI R kk K (.exit 2) (zjq a b c)=
 zs5 a b c (λa0 a1 a2=>K [tI a0,tI a1,tI a2] none) (zs1 R kk kk (JJ R kk K)):=by kernel_rfl
theorem aop a b c d e f g:zs1 R kk (k+1) J a b c d e f g=
 JL a b c d e f g (λa0 a1 a2=>J .ret (zjr a0 a1 a2)) (zs1 R kk k J) (J (.exit 5) (zjs)):=by kernel_rfl
theorem ahu a b c:JJ R kk K .ret (zjr a b c)=
 JM a b c (λa0 a1 a2=>K [tI a0,tI a1,tI a2] none):=by kernel_rfl
theorem ahv:JJ R kk K (.exit 5) (zjs)=
 JN (λa0 a1 a2=>K [tI a0,tI a1,tI a2] none):=by kernel_rfl
theorem akY{kk:Nat}(hF:kk=af) a b c d f g:zrz R kk k J a b c d f g=(Oi k a b c d f g).bind λe=>(GB (λ(we:mS)=>J .ret (zjn we.1 we.2.1 we.2.2.1 we.2.2.2.1 we.2.2.2.2.1 we.2.2.2.2.2)) (λ(we:mR)=>J (.exit 0) (zjo we.1 we.2.1 we.2.2)) e):=by
 induction k generalizing a b c d f g with
 |zero=>rfl
 |succ k ih=>rw[aon];simp only[Oi,zs3,ih,av]
theorem akZ{kk:Nat}(hF:kk=af) a b c d f g h:zs0 R kk k J a b c d f g h=(Oj k a b c d f g h).bind λe=>(GB (λ(we:mS)=>J .ret (zjp we.1 we.2.1 we.2.2.1 we.2.2.2.1 we.2.2.2.2.1 we.2.2.2.2.2)) (λ(we:mR)=>J (.exit 2) (zjq we.1 we.2.1 we.2.2)) e):=by
 induction k generalizing a b c d f g h with
 |zero=>rfl
 |succ k ih=>rw[aoo];simp only[Oj,z183,ih,av]
theorem ak0{kk:Nat}(hF:kk=af) a b c d f g h:zs1 R kk k J a b c d f g h=(ze8 k a b c d f g h).bind λe=>(GB (λ(we:jy)=>J .ret (zjr we.1 we.2.1 we.2.2)) (λ(we:Unit)=>J (.exit 5) (zjs)) e):=by
 induction k generalizing a b c d f g h with
 |zero=>rfl
 |succ k ih=>rw[aop];simp only[ze8,JL,ih,av]
def zX:ai:=nH.add 56 [cp,aG,aG] (iF cp aG aG tf ej)
theorem o85:aL ee zX:=iK yu (λR kk x0 x1 x2 K=>zs2 x0 x1 x2 (zrz R kk kk (JH R kk K))) o84 ei Tryz.func56 (λR kk e x0 x1 x2 K=>by simp only[ej,tf,zs2,z182,zs4,JK,zs5,JM,JN,akY (hF:=e),akZ (hF:=e),ak0 (hF:=e),ahq,ahr,ahs,aht,ahu,ahv,av,<-e])
def zy0:Env:=bU.env (kp [(4,[1,22,23])]) (kp [(4,[2,3,4])]) [] [cF]
def zqn(a:tw)(b:Int)(c:ax):Option R:=lq zy0 zX kk Tryz.f36 116 k J ⟨uS 1 (pA 2 cF::uS 20 (dA y63 a::iA b::uS 33 [])),nS 2 (oA cF c::nS 55 [])⟩
def zj0(a b c:Int):State:=⟨uS 2 (iA a::iA b::iA c::uS 52 []),nS 58 []⟩
def zj1:State:=⟨uS 57 [],nS 58 []⟩
def z171:KX R:=(zk 0 (sk zy0 zX kk Tryz.f36 15 (fk zy0 Tryz.f36 none K)))
theorem an8 a b c:zqn R kk (k+1) J a b c=
 Oc a b c (λa0 a1 a2=>J .ret (zj0 a0 a1 a2)) (zqn R kk k J) (J (.exit 0) (zj1)):=by kernel_rfl
theorem ag5 a b c:z171 R kk K .ret (zj0 a b c)=
 Jc a b c (λa0 a1 a2=>K [tI a0,tI a1,tI a2] none):=by kernel_rfl
theorem ag6:z171 R kk K (.exit 0) (zj1)=
 z173 (λa0 a1 a2=>K [tI a0,tI a1,tI a2] none):=by kernel_rfl
theorem akI{kk:Nat}(hF:kk=af) a b c:zqn R kk k J a b c=(Mw k a b c).bind λe=>(GB (λ(we:jy)=>J .ret (zj0 we.1 we.2.1 we.2.2)) (λ(we:Unit)=>J (.exit 0) (zj1)) e):=by
 induction k generalizing a b c with
 |zero=>rfl
 |succ k ih=>rw[an8];simp only[Mw,Oc,ih,av]
def zY:ai:=zX.add 36 [cF] (cO cF td ej)
theorem o86:aL ee zY:=cP zy0 (λR kk x0 K=>zqo x0 (λa0 a1 a2=>K [tI a0,tI a1,tI a2] none) (zqn R kk kk (z171 R kk K))) o85 ei Tryz.func36 (λR kk e x0 K=>by simp only[ej,td,zqo,Jc,z173,akI (hF:=e),ag5,ag6,av,<-e])
def qx:Env:=bU.env (kp [(5,[1,2,3,25,26,27])]) (kp [(5,[1,2,3])]) [2] [cu]
def zzf(a b:cJ)(c d:Int)(e f:ay):Option R:=lq qx zY kk Tryz.f37 500 k J ⟨uS 1 (pA 2 cu::pA 3 cu::dB uH a::uS 21 (dA uH b::iA c::iA d::uS 24 [])),nS 2 ((some ⟨cu,e,[[0,2],[1,0]]⟩)::(some ⟨cu,f,[[0,2],[1,0],[1,1],[2],[3]]⟩)::nS 49 [])⟩
def zun(a:cJ)(b c:ay):State:=⟨uS 1 (pA 2 cu::pA 3 cu::dB uH a::uS 48 []),nS 2 ((some ⟨cu,b,[[0,2],[1,0]]⟩)::(some ⟨cu,c,[[0,2],[1,0],[1,1],[2],[3]]⟩)::nS 49 [])⟩
def Yf:KX R:=(zk 0 (sk qx zY kk Tryz.f37 63 (fk qx Tryz.f37 none K)))
theorem aqH a b c d e f:zzf R kk (k+1) J a b c d e f=
 KN a b c d e f (zzf R kk k J) (λa0 a1 a2=>J (.exit 0) (zun a0 a1 a2)):=by kernel_rfl
theorem alf a b c:Yf R kk K (.exit 0) (zun a b c)=
 zzh a b c (λa0=>K [.aq cu a0 [[3],[2],[0,2],[1,0]]] none):=by kernel_rfl
theorem aoD{kk:Nat}(hF:kk=af) a b c d f g:zzf R kk k J a b c d f g=(zk6 k a b c d f g).bind λe=>J (.exit 0) (zun e.1 e.2.1 e.2.2):=by
 induction k generalizing a b c d f g with
 |zero=>rfl
 |succ k ih=>rw[aqH];simp only[zk6,KN,ih,av]
def Qz:ai:=zY.add 37 [cu] (cO cu Pv (λ_ r K=>K [.aq cu r [[3],[2],[0,2],[1,0]]] none))
theorem o87:aL ee Qz:=cP qx (λR kk x0 K=>zzg x0 (zzf R kk kk (Yf R kk K))) o86 ei Tryz.func37 (λR kk e x0 K=>by simp only[Pv,zzg,zzh,aoD (hF:=e),alf,av,<-e])
def zZ:ai:=Qz.add 38 [y1] (cO y1 Pr (λ_ r K=>(GB (λ(wr:Int)=>K [.ey,tI wr] none) (λ(wr:tn)=>K [.ptr 0 gZ [],tI wr.1] (some ⟨gZ,wr.2,[[2]]⟩)) r)))
theorem o88:aL ee zZ:=cP fV (λR kk x0 K=>zz4 x0 (λa0=>K [.ey,tI a0] none) (λa0 a1=>K [.ptr 0 gZ [],tI a0] (some ⟨gZ,a1,[[2]]⟩))) o87 ei Tryz.func38 (λR kk e x0 K=>by simp only[Pr,zz4,av]) (ho:=λ_ _ _ _ _ _ h=>zfg (λ_=>h _ _) (λ_=>h _ _))
def qw:Env:={{bU.env (kp [(6,[1,7,19,20])]) (kp [(6,[7,19])]) [] [cF] with sg:=some (4,9,7)} with gr:=λt=>bif xz t 87 then some (cF,gZ) else none,ga:=λt=>xz t 85}
end
end Go.Proofs.YtpjkbbihjoflnaaGreatDoor

namespace Go.Proofs.YtpjkbbihjoflnaaGreatDoor
noncomputable section
open Go Go.Ref bz
variable (R:Type) (kk k:Nat) (K:KF R) (J:KX R)
def zzc(a:Int)(b:ax)(c:(ax×(Option ar×Option ar)×Int)):Option R:=lq qw zZ kk Tryz.f12 244 k J ⟨uS 1 (pA 2 cF::uS 5 (pA 20 fL::uS 12 (iA a::uS 26 []))),nS 2 (oA cF b::nS 17 ((some ⟨fL,c,[[],[0],[0,2],[1],[1,2]]⟩)::nS 27 []))⟩
def zum(a:(ax×(Option ar×Option ar)×Int)):State:=⟨uS 7 (pA 20 fL::uS 39 []),nS 20 ((some ⟨fL,a,[[],[0],[0,2],[1],[1,2]]⟩)::nS 27 [])⟩
def Ye:KX R:=(zk 0 (sk qw zZ kk Tryz.f12 31 (fk qw Tryz.f12 none K)))
theorem aqG a b c:zzc R kk (k+1) J a b c=
 OE a b c (zzc R kk k J) (λa0=>J (.exit 0) (zum a0)):=by kernel_rfl
theorem ale a:Ye R kk K (.exit 0) (zum a)=
 KM a (λa0 a1=>K [.ptr 0 fL [],tI a0] (some ⟨fL,a1,[[],[0],[0,2],[1],[1,2]]⟩)):=by kernel_rfl
theorem aoC{kk:Nat}(hF:kk=af) a b c:zzc R kk k J a b c=(MU k a b c).bind λe=>J (.exit 0) (zum e):=by
 induction k generalizing a b c with
 |zero=>rfl
 |succ k ih=>rw[aqG];simp only[MU,OE,ih,av]
def QA:ai:=zZ.add 12 [cF] (cO cF C7 (λ_ r K=>(GB (λ(wr:Int)=>K [.ey,tI wr] none) (λ(wr:(Int×(ax×(Option ar×Option ar)×Int)))=>K [.ptr 0 fL [],tI wr.1] (some ⟨fL,wr.2,[[],[0],[0,2],[1],[1,2]]⟩)) r)))
theorem o89:aL ee QA:=cP qw (λR kk x0 K=>zzd x0 (λa0=>K [.ey,tI a0] none) (zzc R kk kk (Ye R kk K))) o88 ((ei.sg _).cX 87 85 cF gZ (by kernel_rfl) (by kernel_rfl) (by kernel_rfl) (by kernel_rfl)) Tryz.func12 (λR kk e x0 K=>by simp only[C7,zzd,KM,aoC (hF:=e),ale,av,<-e]) (ho:=λ_ _ _ _ _ _ h=>zfg (λ_=>h _ _) (λ_=>h _ _))
def Px:Env:=e0 [cF,lF,y1]
def Aa:ai:=QA.add 18 [cF,lF,y1] (iF cF lF y1 F0 (λ_ r K=>(GB (λ(wr:Unit)=>K [.ey,tB false] none) (λ(wr:(Bool×(ax×(Option ar×Option ar)×Int)))=>K [.ptr 0 fL [],tB wr.1] (some ⟨fL,wr.2,[[],[0],[0,2],[1],[1,2]]⟩)) r)))
theorem o90:aL ee Aa:=iK Px (λR kk x0 x1 x2 K=>zzl x0 x1 x2 (K [.ey,tB false] none) (λa0 a1=>K [.ptr 0 fL [],tB a0] (some ⟨fL,a1,[[],[0],[0,2],[1],[1,2]]⟩))) o89 ei Tryz.func18 (λR kk e x0 x1 x2 K=>by simp only[F0,zzl,av]) (ho:=λ_ _ _ _ _ _ h=>zfg (λ_=>h _ _) (λ_=>h _ _))
def zxj:Env:=bU.env (kp [(3,[0,3,4])]) (kp [(3,[3])]) [] [y3]
def zp5(a:(List ByteArray))(b:bd)(c:Int):Option R:=lq zxj Aa kk Tryz.f50 116 k J ⟨dA y3 a::uS 2 (dB fp b::iA c::uS 21 []),nS 27 []⟩
def zi6(a:bd):State:=⟨uS 3 (dB fp a::uS 22 []),nS 27 []⟩
def WX:KX R:=(zk 0 (sk zxj Aa kk Tryz.f50 15 (fk zxj Tryz.f50 none K)))
theorem anP a b c:zp5 R kk (k+1) J a b c=
 Iq a b c (zp5 R kk k J) (λa0=>J (.exit 0) (zi6 a0)):=by kernel_rfl
theorem agB a:WX R kk K (.exit 0) (zi6 a)=
 Ir a (λa0=>K [.aq fp a0 []] none):=by kernel_rfl
theorem ako{kk:Nat}(hF:kk=af) a b c:zp5 R kk k J a b c=(zp6 k a b c).bind λe=>J (.exit 0) (zi6 e):=by
 induction k generalizing a b c with
 |zero=>rfl
 |succ k ih=>rw[anP];simp only[zp6,Iq,ih,av]
def QB:ai:=Aa.add 50 [y3] (cO y3 vn AK)
theorem o91:aL ee QB:=cP zxj (λR kk x0 K=>Ip x0 (zp5 R kk kk (WX R kk K))) o90 ei Tryz.func50 (λR kk e x0 K=>by simp only[AK,vn,Ip,Ir,ako (hF:=e),agB,av,<-e])
def qY:Env:=e0 []
def Ab:ai:=QB.add 66 [] (G1 Q96 (λ_ r K=>K [.aq y8 r [[]]] none))
theorem o92:aL ee Ab:=NH qY (λR kk K=>LC (λa0=>K [.aq y8 a0 [[]]] none)) o91 ei Tryz.func66 (λR kk e K=>by simp only[Q96,LC,av])
def zxi:Env:={bU.env (kp [(4,[1,2,3])]) (kp [(4,[1])]) [] [] with mv:=[31]}
def zp3(a:cJ)(b:(List Int))(c:Int):Option R:=lq zxi Ab kk Tryz.f48 244 k J ⟨uS 1 (dB uH a::dB y8 b::iA c::uS 28 []),nS 33 []⟩
def zi5(a:cJ):State:=⟨uS 1 (dB uH a::uS 30 []),nS 33 []⟩
def WW:KX R:=(zk 0 (sk zxi Ab kk Tryz.f48 31 (fk zxi Tryz.f48 none K)))
theorem anO a b c:zp3 R kk (k+1) J a b c=
 Im a b c (zp3 R kk k J) (λa0=>J (.exit 0) (zi5 a0)):=by kernel_rfl
theorem agA a:WW R kk K (.exit 0) (zi5 a)=
 Io a (λa0=>K [.aq uH a0 [[]]] none):=by kernel_rfl
theorem akn{kk:Nat}(hF:kk=af) a b c:zp3 R kk k J a b c=(zp4 k a b c).bind λe=>J (.exit 0) (zi5 e):=by
 induction k generalizing a b c with
 |zero=>rfl
 |succ k ih=>rw[anO];simp only[zp4,Im,ih,av]
def Ac:ai:=Ab.add 48 [] (G1 yD (λ_ r K=>K [.aq uH r [[]]] none))
theorem o93:aL ee Ac:=NH zxi (λR kk K=>Il (zp3 R kk kk (WW R kk K))) o92 (ei.mv _) Tryz.func48 (λR kk e K=>by simp only[yD,Il,Io,akn (hF:=e),agA,av,<-e])
def zx5:Env:=bU.env (kp [(3,[0,3,4])]) (kp [(3,[3])]) [] [fp]
def znh(a b:bd)(c:Int):Option R:=lq zx5 Ac kk Tryz.f51 116 k J ⟨dA fp a::uS 2 (dB fp b::iA c::uS 22 []),nS 28 []⟩
def zh6(a:bd):State:=⟨uS 3 (dB fp a::uS 23 []),nS 28 []⟩
def WE:KX R:=(zk 0 (sk zx5 Ac kk Tryz.f51 15 (fk zx5 Tryz.f51 none K)))
theorem anr a b c:znh R kk (k+1) J a b c=
 Hv a b c (znh R kk k J) (λa0=>J (.exit 0) (zh6 a0)):=by kernel_rfl
theorem afT a:WE R kk K (.exit 0) (zh6 a)=
 z141 a (λa0=>K [.aq fp a0 []] none):=by kernel_rfl
theorem ajR{kk:Nat}(hF:kk=af) a b c:znh R kk k J a b c=(zni k a b c).bind λe=>J (.exit 0) (zh6 e):=by
 induction k generalizing a b c with
 |zero=>rfl
 |succ k ih=>rw[anr];simp only[zni,Hv,ih,av]
def QC:ai:=Ac.add 51 [fp] (cO fp u7 AK)
theorem o94:aL ee QC:=cP zx5 (λR kk x0 K=>Hu x0 (znh R kk kk (WE R kk K))) o93 ei Tryz.func51 (λR kk e x0 K=>by simp only[AK,u7,Hu,z141,ajR (hF:=e),afT,av,<-e])
def Ad:ai:=QC.add 67 [] (G1 Q98 (λ_ r K=>K [.aq y17 r [[]]] none))
theorem o95:aL ee Ad:=NH qY (λR kk K=>LH (λa0=>K [.aq y17 a0 [[]]] none)) o94 ei Tryz.func67 (λR kk e K=>by simp only[Q98,LH,av])
def qZ:Env:=bU.env (kp [(4,[0,2,3,4,5])]) (kp [(4,[2,3])]) [2] [y1]
def B3(a:Int)(b:F6)(c:Int)(d e:ah):Option R:=lq qZ Ad kk Tryz.f52 244 k J ⟨iA a::uS 1 (pA 3 aG::pA 4 aG::dB y17 b::iA c::uS 52 []),nS 3 ((some ⟨aG,d,[[2]]⟩)::(some ⟨aG,e,[[2]]⟩)::nS 54 [])⟩
def zvp(a b:ah):State:=⟨uS 2 (pA 3 aG::pA 4 aG::uS 54 []),nS 3 ((some ⟨aG,a,[[2]]⟩)::(some ⟨aG,b,[[2]]⟩)::nS 54 [])⟩
def YA:KX R:=(zk 0 (sk qZ Ad kk Tryz.f52 31 (fk qZ Tryz.f52 none K)))
theorem aq8 a b c d e:B3 R kk (k+1) J a b c d e=
 LF a b c d e (B3 R kk k J) (λa0 a1=>J (.exit 0) (zvp a0 a1)):=by kernel_rfl
theorem alX a b:YA R kk K (.exit 0) (zvp a b)=
 LG a b (λa0=>K [.aq aG a0 [[2]]] none):=by kernel_rfl
theorem ape{kk:Nat}(hF:kk=af) a b c d f:B3 R kk k J a b c d f=(B4 k a b c d f).bind λe=>J (.exit 0) (zvp e.1 e.2):=by
 induction k generalizing a b c d f with
 |zero=>rfl
 |succ k ih=>rw[aq8];simp only[B4,LF,ih,av]
def QD:ai:=Ad.add 52 [y1] (cO y1 Q97 AH)
theorem o96:aL ee QD:=cP qZ (λR kk x0 K=>LD x0 (B3 R kk kk (YA R kk K))) o95 ei Tryz.func52 (λR kk e x0 K=>by simp only[AH,Q97,LD,LG,ape (hF:=e),alX,av,<-e])
def aqg:Env:=e0 [.str,.str,.str]
def QE:ai:=QD.add 53 [.str,.str,.str] (iF .str .str .str yC (λ_ r K=>K [.aq oG r [[]]] none))
theorem o97:aL ee QE:=iK aqg (λR kk x0 x1 x2 K=>Ik x0 x1 x2 (λa0=>K [.aq oG a0 [[]]] none)) o96 ei Tryz.func53 (λR kk e x0 x1 x2 K=>by simp only[yC,Ik,av])
def aqd:Env:={bU.env (λ_=>[]) (λ_=>[]) [0] [] with sh:=[47,59]}
def QF:ai:=QE.add 33 [] (G1 FQ (λ_ r K=>K [.aq cF r [[0,1,3],[0,1,2],[0,1,0,2],[0,0,3],[0,0,0,2]]] none))
theorem o98:aL ee QF:=NH aqd (λR kk K=>Ie (λa0=>K [.aq cF a0 [[0,1,3],[0,1,2],[0,1,0,2],[0,0,3],[0,0,0,2]]] none)) o97 (ei.sh _) Tryz.func33 (λR kk e K=>by simp only[FQ,Ie,av])
def QG:ai:=QF.add 42 [y1] (cO y1 FZ bg)
theorem o99:aL ee QG:=cP fV (λR kk x0 K=>zze x0 (λa0=>K [tB a0] none)) o98 ei Tryz.func42 (λR kk e x0 K=>by simp only[bg,FZ,zze,av])
def vU:Env:=e0 [.unit]
def q7:ai:=QG.add 62 [.unit] (NF gZ [[2]] Pq AG)
theorem aaQ:aL ee q7:=sb0 vU (λR kk x0 K=>zz3 x0 (λa0 a1=>K [tI a0] (some ⟨gZ,a1,[[2]]⟩))) o99 ei Tryz.func62 (λR kk e x0 K=>by simp only[AG,Pq,zz3,av])
def qs:Env:=bU.env (kp [(3,[0,1,6,7])]) (kp [(3,[4,5,6])]) [] [.unit,.str]
def zyz(a:ByteArray)(b:(List ByteArray))(c:Int)(d:ar):Option R:=lq qs q7 kk Tryz.f45 116 k J ⟨pA 0 gZ::sA a::uS 4 (dB y3 b::iA c::uS 80 []),(some ⟨gZ,d,[[2]]⟩)::nS 88 []⟩
def zui(a:(List ByteArray))(b:Bool)(c:(List ByteArray))(d:ar):State:=⟨uS 4 (dA y3 a::bA b::dB y3 c::uS 81 []),(some ⟨gZ,d,[[2]]⟩)::nS 88 []⟩
def zuj(a:(List ByteArray))(b:ar):State:=⟨uS 6 (dB y3 a::uS 81 []),(some ⟨gZ,b,[[2]]⟩)::nS 88 []⟩
def KE(a:ar):KX R:=(zk 0 (sk qs q7 kk Tryz.f45 15 (fk qs Tryz.f45 (some ⟨gZ,a,[[2]]⟩) K)))
theorem aqC a b c d:zyz R kk (k+1) J a b c d=
 zk3 a b c d (λa0 a1 a2 a3=>J .ret (zui a0 a1 a2 a3)) (zyz R kk k J) (λa0 a1=>J (.exit 0) (zuj a0 a1)):=by kernel_rfl
theorem ala a b c d e:KE R kk K a .ret (zui b c d e)=
 zz1 b c d e (λa0 a1 a2=>K [.aq y3 a0 [],tB a1] (some ⟨gZ,a2,[[2]]⟩)):=by kernel_rfl
theorem alb a b c:KE R kk K a (.exit 0) (zuj b c)=
 zz2 b c (λa0 a1 a2=>K [.aq y3 a0 [],tB a1] (some ⟨gZ,a2,[[2]]⟩)):=by kernel_rfl
theorem aoy{kk:Nat}(hF:kk=af) a b c d:zyz R kk k J a b c d=(MT k a b c d).bind λe=>(GB (λ(we:((List ByteArray)×Bool×(List ByteArray)×ar))=>J .ret (zui we.1 we.2.1 we.2.2.1 we.2.2.2)) (λ(we:((List ByteArray)×ar))=>J (.exit 0) (zuj we.1 we.2)) e):=by
 induction k generalizing a b c d with
 |zero=>rfl
 |succ k ih=>rw[aqC];simp only[MT,zk3,ih,av]
def Dl:ai:=q7.add 45 [.unit,.str] (G0 gZ [[2]] .str FV (λ_ r K=>K [.aq y3 r.1 [],tB r.2.1] (some ⟨gZ,r.2.2,[[2]]⟩)))
theorem aaR:aL ee Dl:=Sl qs (λR kk x0 x1 K=>zz0 x0 x1 (zyz R kk kk (KE R kk K x0))) aaQ ei Tryz.func45 (λR kk e x0 x1 K=>by simp only[FV,zz0,zz1,zz2,aoy (hF:=e),ala,alb,av,<-e])
def q9:ai:=Dl.add 177 [y1] (cO y1 Q2 bI)
theorem aaS:aL ee q9:=cP fV (λR kk x0 K=>qq x0 (λa0=>K [tI a0] none)) aaR ei Tryz.func177 (λR kk e x0 K=>by simp only[bI,Q2,qq,av])
def yB:Env:=bU.env (kp [(7,[0,1,7,30,31])]) (kp [(7,[1,4,5,6,7])]) [] [.str,y1]
def qa(a:ByteArray)(b:Int)(c:(List Int))(d e:Int):Option R:=lq yB q9 kk Tryz.f178 244 k J ⟨sA a::iA b::uS 5 (dB y7 c::uS 22 (iA d::iA e::uS 43 [])),nS 76 []⟩
def Hc(a:Int)(b:ByteArray)(c d:Int)(e:(List Int)):State:=⟨uS 1 (iA a::uS 2 (sA b::iA c::iA d::dB y7 e::uS 67 [])),nS 76 []⟩
def Hd(a:Int)(b:(List Int)):State:=⟨uS 1 (iA a::uS 5 (dB y7 b::uS 67 [])),nS 76 []⟩
def uR:KX R:=(zk 1 (sk yB q9 kk Tryz.f178 31 (fk yB Tryz.f178 none K)))
theorem O9 a b c d e:qa R kk (k+1) J a b c d e=
 nr a b c d e (λa0 a1 a2 a3 a4=>J .ret (Hc a0 a1 a2 a3 a4)) (qa R kk k J) (λa0 a1=>J (.exit 1) (Hd a0 a1)):=by kernel_rfl
theorem anh a b c d e:uR R kk K .ret (Hc a b c d e)=
 uT a b c d e (λa0 a1 a2=>K [tS a0,tI a1,tI a2] none):=by kernel_rfl
theorem ani a b:uR R kk K (.exit 1) (Hd a b)=
 qc a b (λa0 a1 a2=>K [tS a0,tI a1,tI a2] none):=by kernel_rfl
theorem ap6{kk:Nat}(hF:kk=af) a b c d f:qa R kk k J a b c d f=(jJ k a b c d f).bind λe=>(GB (λ(we:(Int×ByteArray×Int×Int×(List Int)))=>J .ret (Hc we.1 we.2.1 we.2.2.1 we.2.2.2.1 we.2.2.2.2)) (λ(we:(Int×(List Int)))=>J (.exit 1) (Hd we.1 we.2)) e):=by
 induction k generalizing a b c d f with
 |zero=>rfl
 |succ k ih=>rw[O9];simp only[jJ,nr,ih,av]
def Dm:ai:=q9.add 178 [.str,y1] (cY .str y1 Q0 lT)
theorem aaT:aL ee Dm:=dc yB (λR kk x0 x1 K=>qb x0 x1 (λa0 a1 a2=>K [tS a0,tI a1,tI a2] none) (qa R kk kk (uR R kk K))) aaS ei Tryz.func178 (λR kk e x0 x1 K=>by simp only[lT,Q0,qb,uT,qc,ap6 (hF:=e),anh,ani,av,<-e])
def aqs:Env:=e0 [aG,.str]
def Dn:ai:=Dm.add 129 [aG,.str] (cY aG .str vM lT)
theorem aaU:aL ee Dn:=dc aqs (λR kk x0 x1 K=>zrg x0 x1 (λa0 a1 a2=>K [tS a0,tI a1,tI a2] none)) aaT ei Tryz.func129 (λR kk e x0 x1 K=>by simp only[lT,vM,zrg,av])
def Dp:ai:=Dn.add 169 [y1] (cO y1 Q9 bg)
theorem aaV:aL ee Dp:=cP fV (λR kk x0 K=>nG x0 (λa0=>K [tB a0] none)) aaU ei Tryz.func169 (λR kk e x0 K=>by simp only[bg,Q9,nG,av])
def re:ai:=Dp.add 214 [y0] (cO y0 vq n4)
theorem aaW:aL ee re:=cP qQ (λR kk x0 K=>IC x0 (λa0 a1=>K [tI a0,tB a1] none)) aaV ei Tryz.func214 (λR kk e x0 K=>by simp only[n4,vq,IC,av])
def zxp:Env:=bU.env (kp [(4,[0,5,6,7])]) (kp [(4,[0,2,3,4,5])]) [] [.str]
def zpl(a:ByteArray)(b:(List Int))(c d:Int):Option R:=lq zxp re kk Tryz.f184 244 k J ⟨sA a::uS 4 (dB y7 b::iA c::iA d::uS 44 []),nS 53 []⟩
def zig(a b:ByteArray)(c:Int)(d:Bool)(e:(List Int)):State:=⟨sA a::uS 1 (sA b::iA c::bA d::dB y7 e::uS 46 []),nS 53 []⟩
def zih(a:ByteArray)(b:(List Int)):State:=⟨sA a::uS 4 (dB y7 b::uS 46 []),nS 53 []⟩
def ID:KX R:=(zk 0 (sk zxp re kk Tryz.f184 31 (fk zxp Tryz.f184 none K)))
theorem anV a b c d:zpl R kk (k+1) J a b c d=
 Z1 a b c d (λa0 a1 a2 a3 a4=>J .ret (zig a0 a1 a2 a3 a4)) (zpl R kk k J) (λa0 a1=>J (.exit 0) (zih a0 a1)):=by kernel_rfl
theorem agK a b c d e:ID R kk K .ret (zig a b c d e)=
 z167 a b c d e (λa0 a1 a2=>K [tS a0,tI a1,tB a2] none):=by kernel_rfl
theorem agL a b:ID R kk K (.exit 0) (zih a b)=
 zpn a b (λa0 a1 a2=>K [tS a0,tI a1,tB a2] none):=by kernel_rfl
theorem aku{kk:Nat}(hF:kk=af) a b c d:zpl R kk k J a b c d=(Ms k a b c d).bind λe=>(GB (λ(we:(ByteArray×ByteArray×Int×Bool×(List Int)))=>J .ret (zig we.1 we.2.1 we.2.2.1 we.2.2.2.1 we.2.2.2.2)) (λ(we:(ByteArray×(List Int)))=>J (.exit 0) (zih we.1 we.2)) e):=by
 induction k generalizing a b c d with
 |zero=>rfl
 |succ k ih=>rw[anV];simp only[Ms,Z1,ih,av]
def Dq:ai:=re.add 184 [.str] (cO .str il AE)
theorem aaX:aL ee Dq:=cP zxp (λR kk x0 K=>zpm x0 (zpl R kk kk (ID R kk K))) aaW ei Tryz.func184 (λR kk e x0 K=>by simp only[AE,il,zpm,z167,zpn,aku (hF:=e),agK,agL,av,<-e])
def CV:Env:=bU.env (λ_=>[]) (λ_=>[]) [6] [y1,.str,y1]
def rf:ai:=Dq.add 179 [y1,.str,y1] (iF y1 .str y1 Nb (λ_ r K=>K [.aq y9 r.1 [],tI r.2.1,tI r.2.2] none))
theorem aaY:aL ee rf:=iK CV (λR kk x0 x1 x2 K=>zx3 x0 x1 x2 (λa0 a1 a2=>K [.aq y9 a0 [],tI a1,tI a2] none)) aaX ei Tryz.func179 (λR kk e x0 x1 x2 K=>by simp only[Nb,zx3,av])
def yO:Env:=bU.env (kp [(3,[3,6,7])]) (kp [(3,[3])]) [] [y9]
def qO(a:Int)(b:(List Int))(c:Int):Option R:=lq yO rf kk Tryz.f180 116 k J ⟨uS 3 (dA y2 a::uS 2 (dA y9 b::iA c::uS 9 [])),nS 18 []⟩
def J2(a:Int):State:=⟨uS 3 (dA y2 a::uS 13 []),nS 18 []⟩
def Dc:KX R:=(zk 0 (sk yO rf kk Tryz.f180 15 (fk yO Tryz.f180 none K)))
theorem PF a b c:qO R kk (k+1) J a b c=
 nD a b c (qO R kk k J) (λa0=>J (.exit 0) (J2 a0)):=by kernel_rfl
theorem aoY a:Dc R kk K (.exit 0) (J2 a)=
 vV a (λa0=>K [.aq y2 a0 []] none):=by kernel_rfl
theorem aq2{kk:Nat}(hF:kk=af) a b c:qO R kk k J a b c=(kP k a b c).bind λe=>J (.exit 0) (J2 e):=by
 induction k generalizing a b c with
 |zero=>rfl
 |succ k ih=>rw[PF];simp only[kP,nD,ih,av]
def Dr:ai:=rf.add 180 [y9] (cO y9 Q7 (λ_ r K=>K [.aq y2 r []] none))
theorem aaZ:aL ee Dr:=cP yO (λR kk x0 K=>qP x0 (qO R kk kk (Dc R kk K))) aaY ei Tryz.func180 (λR kk e x0 K=>by simp only[Q7,qP,vV,aq2 (hF:=e),aoY,av,<-e])
def Pk:Env:=bU.env (λ_=>[]) (λ_=>[]) [4] [y2,y2]
def Ds:ai:=Dr.add 181 [y2,y2] (cY y2 y2 Q26 jk)
theorem aa0:aL ee Ds:=dc Pk (λR kk x0 x1 K=>KB x0 x1 (λa0=>K [.aq dz a0 []] none)) aaZ ei Tryz.func181 (λR kk e x0 x1 K=>by simp only[jk,Q26,KB,av])
def Dt:ai:=Ds.add 130 [y1,.str,y1] (iF y1 .str y1 Q5 (λ_ r K=>K [.aq dz r.1 [],tI r.2.1,tI r.2.2] none))
theorem aa1:aL ee Dt:=iK CV (λR kk x0 x1 x2 K=>qB x0 x1 x2 (λa0 a1 a2=>K [.aq dz a0 [],tI a1,tI a2] none)) aa0 ei Tryz.func130 (λR kk e x0 x1 x2 K=>by simp only[Q5,qB,av])
def X2:Env:=e0 [y2]
def Du:ai:=Dt.add 212 [y2] (cO y2 vr bI)
theorem aa2:aL ee Du:=cP X2 (λR kk x0 K=>IE x0 (λa0=>K [tI a0] none)) aa1 ei Tryz.func212 (λR kk e x0 K=>by simp only[bI,vr,IE,av])
def Dv:ai:=Du.add 182 [y2] (cO y2 nz bI)
theorem aa3:aL ee Dv:=cP X2 (λR kk x0 K=>zpq x0 (λa0=>K [tI a0] none)) aa2 ei Tryz.func182 (λR kk e x0 K=>by simp only[bI,nz,zpq,av])
def C3:Env:=e0 [dz,y1]
def Dw:ai:=Dv.add 131 [dz,y1] (cY dz y1 Nc bI)
theorem aa4:aL ee Dw:=dc C3 (λR kk x0 x1 K=>zyw x0 x1 (λa0=>K [tI a0] none)) aa3 ei Tryz.func131 (λR kk e x0 x1 K=>by simp only[bI,Nc,zyw,av])
def Dx:ai:=Dw.add 174 [y1] (cO y1 FR bg)
theorem aa5:aL ee Dx:=cP fV (λR kk x0 K=>zi9 x0 (λa0=>K [tB a0] none)) aa4 ei Tryz.func174 (λR kk e x0 K=>by simp only[bg,FR,zi9,av])
def rh:ai:=Dx.add 210 [y1,y1] (cY y1 y1 s9 bg)
theorem aa6:aL ee rh:=dc qg (λR kk x0 x1 K=>Z7 x0 x1 (λa0=>K [tB a0] none)) aa5 ei Tryz.func210 (λR kk e x0 x1 K=>by simp only[bg,s9,Z7,av])
def ql:Env:=bU.env (kp [(5,[4,20])]) (kp [(5,[4])]) [] [.str]
def zyk(a:Int)(b:tm):Option R:=lq ql rh kk Tryz.f213 244 k J ⟨uS 4 (iA a::uS 15 (pA 21 y14::uS 10 [])),nS 21 (oA y14 b::nS 10 [])⟩
def zuf(a:Int):State:=⟨uS 4 (iA a::uS 26 []),nS 32 []⟩
def X9:KX R:=(zk 0 (sk ql rh kk Tryz.f213 31 (fk ql Tryz.f213 none K)))
theorem aqz a b:zyk R kk (k+1) J a b=
 zym a b (zyk R kk k J) (λa0=>J (.exit 0) (zuf a0)):=by kernel_rfl
theorem ak7 a:X9 R kk K (.exit 0) (zuf a)=
 KA a (λa0 a1=>K [tI a0,tB a1] none):=by kernel_rfl
theorem aov{kk:Nat}(hF:kk=af) a b:zyk R kk k J a b=(OC k a b).bind λe=>J (.exit 0) (zuf e):=by
 induction k generalizing a b with
 |zero=>rfl
 |succ k ih=>rw[aqz];simp only[OC,zym,ih,av]
def Dy:ai:=rh.add 213 [.str] (cO .str C1 n4)
theorem aa7:aL ee Dy:=cP ql (λR kk x0 K=>zyl x0 (λa0 a1=>K [tI a0,tB a1] none) (zyk R kk kk (X9 R kk K))) aa6 ei Tryz.func213 (λR kk e x0 K=>by simp only[n4,C1,zyl,KA,aov (hF:=e),ak7,av,<-e])
def X3:Env:=e0 [y1,y1,.str,y1]
def Dz:ai:=Dy.add 183 [y1,y1,.str,y1] (AW y1 y1 .str y1 vA ej)
theorem aa8:aL ee Dz:=Fa X3 (λR kk x0 x1 x2 x3 K=>zq4 x0 x1 x2 x3 (λa0 a1 a2=>K [tI a0,tI a1,tI a2] none)) aa7 ei Tryz.func183 (λR kk e x0 x1 x2 x3 K=>by simp only[ej,vA,zq4,av])
def DA:ai:=Dz.add 176 [y1,y1] (cY y1 y1 lY bI)
theorem aa9:aL ee DA:=dc qg (λR kk x0 x1 K=>zxh x0 x1 (λa0=>K [tI a0] none)) aa8 ei Tryz.func176 (λR kk e x0 x1 K=>by simp only[bI,lY,zxh,av])
def Pb:Env:=e0 [y1,b6,.str,y1]
def ri:ai:=DA.add 132 [y1,b6,.str,y1] (AW y1 b6 .str y1 Pa lT)
theorem abb:aL ee ri:=Fa Pb (λR kk x0 x1 x2 x3 K=>zx8 x0 x1 x2 x3 (λa0 a1 a2=>K [tS a0,tI a1,tI a2] none)) aa9 ei Tryz.func132 (λR kk e x0 x1 x2 x3 K=>by simp only[lT,Pa,zx8,av])
def zy8:Env:=bU.env (kp [(13,[1,2,4,5,6,10,12,13])]) (kp [(13,[1,4,5,6,10])]) [4,5] [aG,.str]
def zre(a:ByteArray)(b c:Int)(d:ah)(e:ag)(f:aH)(g:ag)(h:aH):Option R:=lq zy8 ri kk Tryz.f90 8180 k J ⟨uS 1 (sA a::pA 3 aG::uS 1 (pA 5 aP::pA 6 b8::pA 7 aP::uS 3 (iA b::uS 1 (pA 13 dz::iA c::uS 93 [])))),nS 3 (oA aG d::nS 1 ((some ⟨aP,e,[[1]]⟩)::oA b8 f::(some ⟨aP,g,[[1]]⟩)::nS 5 (oA dz h::nS 94 [])))⟩
def zje(a:ByteArray)(b:Int)(c:ag)(d:aH)(e:ag):State:=⟨uS 1 (sA a::uS 2 (pA 5 aP::pA 6 b8::pA 7 aP::uS 3 (iA b::uS 96 []))),nS 5 ((some ⟨aP,c,[[1]]⟩)::oA b8 d::oA aP e::nS 100 [])⟩
def zjf(a:ByteArray)(b:Int)(c:ag)(d:aH)(e:ag):State:=⟨uS 1 (sA a::uS 2 (pA 5 aP::pA 6 b8::pA 7 aP::uS 3 (iA b::uS 96 []))),nS 5 ((some ⟨aP,c,[[1]]⟩)::oA b8 d::(some ⟨aP,e,[[1]]⟩)::nS 100 [])⟩
def Jy:KX R:=(zk 0 (sk zy8 ri kk Tryz.f90 1023 (fk zy8 Tryz.f90 none K)))
theorem aog a b c d e f g h:zre R kk (k+1) J a b c d e f g h=
 ze6 a b c d e f g h (λa0 a1 a2 a3 a4=>J .ret (zje a0 a1 a2 a3 a4)) (zre R kk k J) (λa0 a1 a2 a3 a4=>J (.exit 0) (zjf a0 a1 a2 a3 a4)):=by kernel_rfl
theorem ahj a b c d e:Jy R kk K .ret (zje a b c d e)=
 Jz a b c d e (λa0 a1=>K [.aq aP a0 [[1]],.aq b8 a1 []] none):=by kernel_rfl
theorem ahk a b c d e:Jy R kk K (.exit 0) (zjf a b c d e)=
 JA a b c d e (λa0 a1=>K [.aq aP a0 [[1]],.aq b8 a1 []] none):=by kernel_rfl
theorem akP{kk:Nat}(hF:kk=af) a b c d f g h i:zre R kk k J a b c d f g h i=(Mx k a b c d f g h i).bind λe=>(GB (λ(we:ki)=>J .ret (zje we.1 we.2.1 we.2.2.1 we.2.2.2.1 we.2.2.2.2)) (λ(we:ki)=>J (.exit 0) (zjf we.1 we.2.1 we.2.2.1 we.2.2.2.1 we.2.2.2.2)) e):=by
 induction k generalizing a b c d f g h i with
 |zero=>rfl
 |succ k ih=>rw[aog];simp only[Mx,ze6,ih,av]
def DB:ai:=ri.add 90 [aG,.str] (cY aG .str te ND)
theorem abd:aL ee DB:=dc zy8 (λR kk x0 x1 K=>zrf x0 x1 (λa0 a1=>K [.aq aP a0 [[1]],.aq b8 a1 []] none) (zre R kk kk (Jy R kk K))) abb ei Tryz.func90 (λR kk e x0 x1 K=>by simp only[ND,te,zrf,Jz,JA,akP (hF:=e),ahj,ahk,av,<-e])
def rj:ai:=DB.add 117 [.str] (cO .str vz dR)
theorem abe:aL ee rj:=cP CE (λR kk x0 K=>zq1 x0 (λa0 a1=>K [tS a0,tB a1] none)) abd ei Tryz.func117 (λR kk e x0 K=>by simp only[dR,vz,zq1,av])
def zxt:Env:=bU.env (kp [(2,[1,9,10,11])]) (kp [(2,[4,5])]) [] [aP,y1]
def zpt(a:Int)(b:al)(c d:Int):Option R:=lq zxt rj kk Tryz.f118 52 k J ⟨uS 1 (iA a::uS 7 (dA mD b::iA c::iA d::uS 10 [])),nS 23 []⟩
def zim(a:ByteArray)(b:Bool):State:=⟨uS 4 (sA a::bA b::uS 16 []),nS 23 []⟩
def zin:State:=⟨uS 22 [],nS 23 []⟩
def IK:KX R:=(zk 0 (sk zxt rj kk Tryz.f118 7 (fk zxt Tryz.f118 none K)))
theorem anZ a b c d:zpt R kk (k+1) J a b c d=
 IL a b c d (λa0 a1=>J .ret (zim a0 a1)) (zpt R kk k J) (J (.exit 0) (zin)):=by kernel_rfl
theorem agP a b:IK R kk K .ret (zim a b)=
 IM a b (λa0 a1=>K [tS a0,tB a1] none):=by kernel_rfl
theorem agQ:IK R kk K (.exit 0) (zin)=
 IP (λa0 a1=>K [tS a0,tB a1] none):=by kernel_rfl
theorem akz{kk:Nat}(hF:kk=af) a b c d:zpt R kk k J a b c d=(Z4 k a b c d).bind λe=>(GB (λ(we:iH)=>J .ret (zim we.1 we.2)) (λ(we:Unit)=>J (.exit 0) (zin)) e):=by
 induction k generalizing a b c d with
 |zero=>rfl
 |succ k ih=>rw[anZ];simp only[Z4,IL,ih,av]
def rl:ai:=rj.add 118 [aP,y1] (cY aP y1 pj dR)
theorem abf:aL ee rl:=dc zxt (λR kk x0 x1 K=>zpu x0 x1 (zpt R kk kk (IK R kk K))) abe ei Tryz.func118 (λR kk e x0 x1 K=>by simp only[dR,pj,zpu,IM,IP,akz (hF:=e),agP,agQ,av,<-e])
def zxw:Env:=bU.env (kp [(3,[1,4,5,12,13,14])]) (kp [(3,[4,5])]) [4] [aP,y1]
def zpy(a:Int)(b:al)(c d:Int)(e f:ag):Option R:=lq zxw rl kk Tryz.f164 116 k J ⟨uS 1 (iA a::uS 2 (pA 5 aP::pA 6 aP::uS 6 (dA mD b::iA c::iA d::uS 15 []))),nS 5 ((some ⟨aP,e,[[1]]⟩)::(some ⟨aP,f,[[1]]⟩)::nS 24 [])⟩
def zip(a b:ag):State:=⟨uS 4 (pA 5 aP::pA 6 aP::uS 24 []),nS 5 ((some ⟨aP,a,[[1]]⟩)::(some ⟨aP,b,[[1]]⟩)::nS 24 [])⟩
def W4:KX R:=(zk 0 (sk zxw rl kk Tryz.f164 15 (fk zxw Tryz.f164 none K)))
theorem an1 a b c d e f:zpy R kk (k+1) J a b c d e f=
 IW a b c d e f (zpy R kk k J) (λa0 a1=>J (.exit 0) (zip a0 a1)):=by kernel_rfl
theorem agS a b:W4 R kk K (.exit 0) (zip a b)=
 IX a b (λa0=>K [.aq aP a0 [[1]]] none):=by kernel_rfl
theorem akB{kk:Nat}(hF:kk=af) a b c d f g:zpy R kk k J a b c d f g=(Z6 k a b c d f g).bind λe=>J (.exit 0) (zip e.1 e.2):=by
 induction k generalizing a b c d f g with
 |zero=>rfl
 |succ k ih=>rw[an1];simp only[Z6,IW,ih,av]
def DC:ai:=rl.add 164 [aP,y1] (cY aP y1 vw tR)
theorem abg:aL ee DC:=dc zxw (λR kk x0 x1 K=>zpz x0 x1 (zpy R kk kk (W4 R kk K))) abf ei Tryz.func164 (λR kk e x0 x1 K=>by simp only[tR,vw,zpz,IX,akB (hF:=e),agS,av,<-e])
def ru:ai:=DC.add 166 [eD,.unit] (pz eD y1 y1 [] vv (λ_ r K=>K [tB r.1] (some ⟨y1,r.2,[]⟩)))
theorem abh:aL ee ru:=sz X5 (λR kk x0 x1 K=>IV x0 x1 (λa0 a1=>K [tB a0] (some ⟨y1,a1,[]⟩))) abg ei Tryz.func166 (λR kk e x0 x1 K=>by simp only[vv,IV,av])
def zy6:Env:=bU.env (kp [(2,[0,1,7,8])]) (kp [(2,[4])]) [] [mD,.unit]
def zr6(a:al)(b c d:Int):Option R:=lq zy6 ru kk Tryz.f165 52 k J ⟨dA mD a::pA 0 (.aY (.xW 166) y1 .unit)::uS 5 (iA b::iA c::uS 10 []),oA y1 d::nS 19 []⟩
def zja(a b:Int):State:=⟨uS 4 (iA a::uS 14 []),oA y1 b::nS 19 []⟩
def zjb(a:Int):State:=⟨uS 19 [],oA y1 a::nS 19 []⟩
def Jq(a:Int):KX R:=(zk 0 (sk zy6 ru kk Tryz.f165 7 (fk zy6 Tryz.f165 (some ⟨y1,a,[]⟩) K)))
theorem aoe a b c d:zr6 R kk (k+1) J a b c d=
 Jr a b c d (λa0 a1=>J .ret (zja a0 a1)) (zr6 R kk k J) (λa0=>J (.exit 0) (zjb a0)):=by kernel_rfl
theorem ahf a b c:Jq R kk K a .ret (zja b c)=
 Js b c (λa0 a1=>K [tI a0] (some ⟨y1,a1,[]⟩)):=by kernel_rfl
theorem ahg a b:Jq R kk K a (.exit 0) (zjb b)=
 Jt b (λa0 a1=>K [tI a0] (some ⟨y1,a1,[]⟩)):=by kernel_rfl
theorem akN{kk:Nat}(hF:kk=af) a b c d:zr6 R kk k J a b c d=(ze4 k a b c d).bind λe=>(GB (λ(we:(Int×Int))=>J .ret (zja we.1 we.2)) (λ(we:Int)=>J (.exit 0) (zjb we)) e):=by
 induction k generalizing a b c d with
 |zero=>rfl
 |succ k ih=>rw[aoe];simp only[ze4,Jr,ih,av]
def DE:ai:=ru.add 165 [mD,.unit] (pz mD (.aY (.xW 166) y1 .unit) y1 [] vL (λ_ r K=>K [tI r.1] (some ⟨y1,r.2,[]⟩)))
theorem abj:aL ee DE:=sz zy6 (λR kk x0 x1 K=>zr7 x0 x1 (zr6 R kk kk (Jq R kk K x1))) abh ei Tryz.func165 (λR kk e x0 x1 K=>by simp only[vL,zr7,Js,Jt,akN (hF:=e),ahf,ahg,av,<-e])
def aqj:Env:={bU.env (λ_=>[]) (λ_=>[]) [6] [aP,y1,.str] with fz:=λi=>bif xz i 9 then some (9,155) else none}
def kR:ai:=DE.add 119 [aP,y1,.str] (iF aP y1 .str iO (λ_ r K=>K [.aq aP r []] none))
theorem abk:aL ee kR:=iK aqj (λR kk x0 x1 x2 K=>zpx x0 x1 x2 (λa0=>K [.aq aP a0 []] none)) abj (ei.fz _) Tryz.func119 (λR kk e x0 x1 x2 K=>by simp only[iO,zpx,av])
def MQ:Env:=bU.env (kp [(2,[2,10,11,12]),(5,[2,6,10,11,12,17,18,19])]) (kp [(2,[4]),(5,[2,4,10,11,12])]) [] [cu,y1]
def zqg(a:(List Int))(b c:Int)(d:ay):Option R:=lq MQ kR kk zgD 52 k J ⟨uS 2 (pA 3 cu::uS 7 (dB Sy a::iA b::iA c::uS 18 [])),nS 3 (oA cu d::nS 28 [])⟩
def ziw:State:=⟨uS 31 [],nS 32 []⟩
def zix(a:ByteArray):State:=⟨uS 4 (sA a::uS 26 []),nS 32 []⟩
def I6:KX R:=(zk 0 (sk MQ kR kk zgD 7 (fk MQ zgD none K)))
def zqh(a:Int)(b:(List Int))(c d:Int)(e:al)(f g:Int)(h:ay):Option R:=lq MQ kR kk zgD 13516 k J ⟨uS 2 (pA 3 cu::uS 3 (iA a::uS 3 (dB Sy b::iA c::iA d::uS 4 (dA oG e::iA f::iA g::uS 11 [])))),nS 3 (oA cu h::nS 28 [])⟩
def ziy(a:ByteArray)(b:(List Int))(c d:Int)(e:ay):State:=⟨uS 2 (pA 3 cu::uS 1 (sA a::uS 5 (dB Sy b::iA c::iA d::uS 18 []))),nS 3 (oA cu e::nS 28 [])⟩
def ziz(a:(List Int))(b c:Int)(d:ay):State:=⟨uS 2 (pA 3 cu::uS 7 (dB Sy a::iA b::iA c::uS 18 [])),nS 3 (oA cu d::nS 28 [])⟩
def I7:KX R:=(zk 2 (zk 1 (sk MQ kR kk zgD 423 (lk MQ kR kk zgD 52 k J))))
theorem an6 a b c d:zqg R kk (k+1) J a b c d=
 zdz a b c d (zqh R kk kk (I7 R kk k J)) (J (.exit 0) (ziw)):=by kernel_rfl
theorem agZ:I6 R kk K (.exit 0) (ziw)=
 I8 (λa0=>K [tS a0] none):=by kernel_rfl
theorem an7 a b c d e f g h:zqh R kk (k+1) J a b c d e f g h=
 I9 a b c d e f g h (λa0 a1 a2 a3 a4=>J .ret (ziy a0 a1 a2 a3 a4)) (zqh R kk k J) (λa0 a1 a2 a3=>J (.exit 2) (ziz a0 a1 a2 a3)):=by kernel_rfl
theorem ag3 a b c d e:I7 R kk k J .ret (ziy a b c d e)=
 Ja a b c d e (λa0=>J .ret (zix a0)):=by kernel_rfl
theorem ag4 a b c d:I7 R kk k J (.exit 2) (ziz a b c d)=
 zqj a b c d (zqg R kk k J):=by kernel_rfl
theorem ag0 a:I6 R kk K .ret (zix a)=
 Jb a (λa0=>K [tS a0] none):=by kernel_rfl
theorem akH{kk:Nat}(hF:kk=af) a b c d f g h i:zqh R kk k J a b c d f g h i=(Ob k a b c d f g h i).bind λe=>(GB (λ(we:(ByteArray×(List Int)×Int×Int×ay))=>J .ret (ziy we.1 we.2.1 we.2.2.1 we.2.2.2.1 we.2.2.2.2)) (λ(we:((List Int)×Int×Int×ay))=>J (.exit 2) (ziz we.1 we.2.1 we.2.2.1 we.2.2.2)) e):=by
 induction k generalizing a b c d f g h i with
 |zero=>rfl
 |succ k ih=>rw[an7];simp only[Ob,I9,ih,av]
theorem akG{kk:Nat}(hF:kk=af) a b c d:zqg R kk k J a b c d=(Fy k a b c d).bind λe=>(GB (λ(we:Unit)=>J (.exit 0) (ziw)) (λ(we:ByteArray)=>J .ret (zix we)) e):=by
 induction k generalizing a b c d with
 |zero=>rfl
 |succ k ih=>rw[an6];simp only[Fy,zdz,Ja,zqj,ih,akH (hF:=hF),ag3,ag4,av,<-hF]
def rA:ai:=kR.add 120 [cu,y1] (cY cu y1 vD dE)
theorem abl:aL ee rA:=dc MQ (λR kk x0 x1 K=>zqi x0 x1 (zqg R kk kk (I6 R kk K))) abk ei Tryz.func120 (λR kk e x0 x1 K=>by simp only[dE,vD,zqi,I8,Jb,akG (hF:=e),agZ,ag0,av,<-e])
def zxz:Env:={{bU.env (kp [(6,[3,4,5,6,10,27,28,29])]) (kp [(6,[3,5,6,10])]) [6] [cu,aP,b8] with dr:=λi=>bif xz i 6 then [11] else []} with ro:=true}
def zq8(a:(List Int))(b c:Int)(d:ay)(e:ag)(f:aH)(g h:ag):Option R:=lq zxz rA kk Tryz.f88 500 k J ⟨uS 3 (pA 4 cu::pA 5 aP::pA 6 b8::pA 7 aP::uS 3 (pA 11 aP::uS 16 (dA y8 a::iA b::iA c::uS 21 []))),nS 4 (oA cu d::oA aP e::oA b8 f::(some ⟨aP,g,[[1]]⟩)::nS 3 (oA aP h::nS 40 []))⟩
def zir(a:ay)(b:aH)(c d:ag):State:=⟨uS 3 (pA 4 cu::uS 1 (pA 6 b8::pA 7 aP::uS 3 (pA 11 aP::uS 40 []))),nS 4 (oA cu a::nS 1 (oA b8 b::(some ⟨aP,c,[[1]]⟩)::nS 3 (oA aP d::nS 40 [])))⟩
def W6:KX R:=(zk 0 (sk zxz rA kk Tryz.f88 63 (fk zxz Tryz.f88 none K)))
theorem an3 a b c d e f g h:zq8 R kk (k+1) J a b c d e f g h=
 I1 a b c d e f g h (zq8 R kk k J) (λa0 a1 a2 a3=>J (.exit 0) (zir a0 a1 a2 a3)):=by kernel_rfl
theorem agU a b c d:W6 R kk K (.exit 0) (zir a b c d)=
 zqa a b c d (λa0 a1=>K [.aq aP a0 [],tB a1] none):=by kernel_rfl
theorem akD{kk:Nat}(hF:kk=af) a b c d f g h i:zq8 R kk k J a b c d f g h i=(Z9 k a b c d f g h i).bind λe=>J (.exit 0) (zir e.1 e.2.1 e.2.2.1 e.2.2.2):=by
 induction k generalizing a b c d f g h i with
 |zero=>rfl
 |succ k ih=>rw[an3];simp only[Z9,I1,ih,av]
def rB:ai:=rA.add 88 [cu,aP,b8] (iF cu aP b8 vB (λ_ r K=>K [.aq aP r.1 [],tB r.2] none))
theorem abm:aL ee rB:=iK zxz (λR kk x0 x1 x2 K=>zq9 x0 x1 x2 (λa0 a1=>K [.aq aP a0 [],tB a1] none) (zq8 R kk kk (W6 R kk K))) abl ((ei.dr _).ro _) Tryz.func88 (λR kk e x0 x1 x2 K=>by simp only[vB,zq9,zqa,akD (hF:=e),agU,av,<-e])
def zxs:Env:=bU.env (kp [(9,[2,4,9,39,40,41])]) (kp [(9,[4])]) [4] [aG,aP]
def zpr(a:Int)(b:al)(c d:Int)(e:ah)(f:aH):Option R:=lq zxs rB kk Tryz.f121 500 k J ⟨uS 2 (pA 3 aG::uS 1 (pA 5 b8::uS 4 (iA a::uS 29 (dA mD b::iA c::iA d::uS 36 [])))),nS 3 (oA aG e::nS 1 (oA b8 f::nS 73 []))⟩
def zik(a:aH):State:=⟨uS 4 (pA 5 b8::uS 73 []),nS 5 (oA b8 a::nS 73 [])⟩
def zil(a:aH):State:=⟨uS 4 (pA 5 b8::uS 73 []),nS 5 (oA b8 a::nS 73 [])⟩
def IF:KX R:=(zk 0 (sk zxs rB kk Tryz.f121 63 (fk zxs Tryz.f121 none K)))
theorem anY a b c d e f:zpr R kk (k+1) J a b c d e f=
 IG a b c d e f (λa0=>J .ret (zik a0)) (zpr R kk k J) (λa0=>J (.exit 0) (zil a0)):=by kernel_rfl
theorem agN a:IF R kk K .ret (zik a)=
 II a (λa0=>K [.aq b8 a0 []] none):=by kernel_rfl
theorem agO a:IF R kk K (.exit 0) (zil a)=
 IJ a (λa0=>K [.aq b8 a0 []] none):=by kernel_rfl
theorem aky{kk:Nat}(hF:kk=af) a b c d f g:zpr R kk k J a b c d f g=(Z3 k a b c d f g).bind λe=>(GB (λ(we:aH)=>J .ret (zik we)) (λ(we:aH)=>J (.exit 0) (zil we)) e):=by
 induction k generalizing a b c d f g with
 |zero=>rfl
 |succ k ih=>rw[anY];simp only[Z3,IG,ih,av]
def rC:ai:=rB.add 121 [aG,aP] (cY aG aP s6 AJ)
theorem abn:aL ee rC:=dc zxs (λR kk x0 x1 K=>zps x0 x1 (λa0=>K [.aq b8 a0 []] none) (zpr R kk kk (IF R kk K))) abm ei Tryz.func121 (λR kk e x0 x1 K=>by simp only[AJ,s6,zps,II,IJ,aky (hF:=e),agN,agO,av,<-e])
def yE:Env:=bU.env (kp [(7,[0,4,5])]) (kp [(7,[4])]) [] [.str]
def qh(a:ByteArray)(b:(List Int))(c:Int):Option R:=lq yE rC kk Tryz.f168 500 k J ⟨sA a::uS 3 (dB y7 b::iA c::uS 40 []),nS 47 []⟩
def Jl(a:(List Int)):State:=⟨uS 4 (dB y7 a::uS 41 []),nS 47 []⟩
def CY:KX R:=(zk 0 (sk yE rC kk Tryz.f168 63 (fk yE Tryz.f168 none K)))
theorem Pe a b c:qh R kk (k+1) J a b c=
 nC a b c (qh R kk k J) (λa0=>J (.exit 0) (Jl a0)):=by kernel_rfl
theorem aoc a:CY R kk K (.exit 0) (Jl a)=
 vK a (λa0 a1=>K [tS a0,tB a1] none):=by kernel_rfl
theorem aqr{kk:Nat}(hF:kk=af) a b c:qh R kk k J a b c=(kK k a b c).bind λe=>J (.exit 0) (Jl e):=by
 induction k generalizing a b c with
 |zero=>rfl
 |succ k ih=>rw[Pe];simp only[kK,nC,ih,av]
def DF:ai:=rC.add 168 [.str] (cO .str Q1 dR)
theorem abo:aL ee DF:=cP yE (λR kk x0 K=>lZ x0 (λa0 a1=>K [tS a0,tB a1] none) (λa0 a1 a2=>qh R kk kk (CY R kk K) a0 a1 a2)) abn ei Tryz.func168 (λR kk e x0 K=>by simp only[dR,Q1,aeF,vK,aqr (hF:=e),aoc,av,<-e])
def X8:Env:=e0 [y1,.str]
def DG:ai:=DF.add 124 [y1,.str] (cY y1 .str vR dR)
theorem GR:aL ee DG:=dc X8 (λR kk x0 x1 K=>zry x0 x1 (λa0 a1=>K [tS a0,tB a1] none)) abo ei Tryz.func124 (λR kk e x0 x1 K=>by simp only[dR,vR,zry,av])
def Tryz.jU:zf7:=⟨λ|166=>123|240=>167|276=>209|n=>n,λ|70=>196|9=>9|3=>3|75=>200|0=>0|72=>198|37=>99|4=>4|164=>280|80=>210|5=>5|20=>20|n=>n,λn=>n⟩
theorem Tryz.Az:Go.Proofs.Lays.n166 zcu Tryz.jU:={
 mixed:=by kernel_rfl,
 f166:=Go.Proofs.Tryz.func123.trans (congrArg some (by kernel_rfl)),
 f240:=Go.Proofs.Tryz.func167.trans (congrArg some (by kernel_rfl)),
 f276:=Go.Proofs.Tryz.func209.trans (congrArg some (by kernel_rfl)),
 t0:=zds,
 a0:=zem,
 z0:=zd5,
 v0:=zdC,
 t3:=zdt,
 a3:=zen,
 z3:=zd6,
 v3:=zdD,
 t4:=zeR,
 a4:=zgE,
 z4:=zfY,
 v4:=zfB,
 t9:=zdu,
 a9:=zeo,
 z9:=zd7,
 v9:=zdE,
 t20:=zeM,
 a20:=zfZ,
 z20:=zfR,
 v20:=zeS,
 t37:=zdg,
 a37:=zd8,
 z37:=zdY,
 v37:=zdv,
 t70:=zda,
 a70:=zdZ,
 z70:=zdM,
 v70:=zdh,
 t72:=zdb,
 a72:=zd0,
 z72:=zdN,
 v72:=zdi,
 t75:=zev,
 a75:=zfS,
 z75:=zfI,
 v75:=zeN,
 t164:=zew,
 a164:=zfT,
 z164:=zfJ,
 v164:=zeO}
theorem Tryz.wA:zcU zcu Tryz.jU:={
 sizeBuilder:=by kernel_rfl,
 liesBuilder:=by kernel_rfl,
 t5:=zdw,
 a5:=zep,
 z5:=zd9,
 v5:=zdF,
 infoByte:=by kernel_rfl,
 cellsByte:=by kernel_rfl,
 sizeByte:=by kernel_rfl,
 neB5:=by decide}
noncomputable abbrev z7f:Code:=Tryz.f123.body.getD .skip
theorem z6k:uv ee 123:=⟨Tryz.f123,z7f,Tryz.func123,by kernel_rfl,by kernel_rfl⟩
def DH:ai:=DG.add 123 [] (zl7 198 5)
theorem abp:aL ee DH:=⟨GR.mix,zsf GR.nat (arc _ _),ahP GR.xh z6k Tryz.Az Tryz.wA rfl rfl rfl⟩
def aqw:Env:=e0 [.str,.unit]
def rD:ai:=DH.add 122 [.str,.unit] (pz .str A8 A8 [[]] kL (λ_ r K=>K [] (some ⟨A8,r,[[]]⟩)))
theorem abq:aL ee rD:=sz aqw (λR kk x0 x1 K=>zrx x0 x1 (λa0=>K [] (some ⟨A8,a0,[[]]⟩))) abp ei Tryz.func122 (λR kk e x0 x1 K=>by simp only[kL,zrx,av])
def zxu:Env:=bU.env (kp [(3,[2,3,7,8,9])]) (kp [(3,[2,3])]) [2] [aP]
def zpv(a:al)(b c:Int)(d e:aH):Option R:=lq zxu rD kk Tryz.f126 116 k J ⟨uS 2 (pA 3 dz::pA 4 dz::uS 3 (dA mD a::iA b::iA c::uS 9 [])),nS 3 (oA dz d::oA dz e::nS 15 [])⟩
def zio(a b:aH):State:=⟨uS 2 (pA 3 dz::pA 4 dz::uS 15 []),nS 3 (oA dz a::oA dz b::nS 15 [])⟩
def W3:KX R:=(zk 0 (sk zxu rD kk Tryz.f126 15 (fk zxu Tryz.f126 none K)))
theorem an0 a b c d e:zpv R kk (k+1) J a b c d e=
 IQ a b c d e (zpv R kk k J) (λa0 a1=>J (.exit 0) (zio a0 a1)):=by kernel_rfl
theorem agR a b:W3 R kk K (.exit 0) (zio a b)=
 IU a b (λa0=>K [.aq dz a0 []] none):=by kernel_rfl
theorem akA{kk:Nat}(hF:kk=af) a b c d f:zpv R kk k J a b c d f=(Z5 k a b c d f).bind λe=>J (.exit 0) (zio e.1 e.2):=by
 induction k generalizing a b c d f with
 |zero=>rfl
 |succ k ih=>rw[an0];simp only[Z5,IQ,ih,av]
def DI:ai:=rD.add 126 [aP] (cO aP vu jk)
theorem abr:aL ee DI:=cP zxu (λR kk x0 K=>zpw x0 (zpv R kk kk (W3 R kk K))) abq ei Tryz.func126 (λR kk e x0 K=>by simp only[jk,vu,zpw,IU,akA (hF:=e),agR,av,<-e])
def DJ:ai:=DI.add 170 [dz,y1] (cY dz y1 Pn bg)
theorem abt:aL ee DJ:=dc C3 (λR kk x0 x1 K=>zyv x0 x1 (λa0=>K [tB a0] none)) abr ei Tryz.func170 (λR kk e x0 x1 K=>by simp only[bg,Pn,zyv,av])
def Pm:Env:=e0 [dz]
def rE:ai:=DJ.add 171 [dz] (cO dz Q30 (λ_ r K=>K [.aq y2 r.1 [],.aq y2 r.2 []] none))
theorem abu:aL ee rE:=cP Pm (λR kk x0 K=>KC x0 (λa0 a1=>K [.aq y2 a0 [],.aq y2 a1 []] none)) abt ei Tryz.func171 (λR kk e x0 K=>by simp only[Q30,KC,av])
def yP:Env:=bU.env (kp [(3,[0,2,3,5])]) (kp [(3,[2,3])]) [2] [y2]
def qT(a b:Int)(c d:(List Int)):Option R:=lq yP rE kk Tryz.f172 116 k J ⟨dA y2 a::uS 1 (pA 3 y9::pA 4 y9::uS 1 (iA b::uS 12 [])),nS 3 (oA y9 c::oA y9 d::nS 14 [])⟩
def J5(a b:(List Int)):State:=⟨uS 2 (pA 3 y9::pA 4 y9::uS 14 []),nS 3 (oA y9 a::oA y9 b::nS 14 [])⟩
def Dk:KX R:=(zk 0 (sk yP rE kk Tryz.f172 15 (fk yP Tryz.f172 none K)))
theorem PH a b c d:qT R kk (k+1) J a b c d=
 nF a b c d (qT R kk k J) (λa0 a1=>J (.exit 0) (J5 a0 a1)):=by kernel_rfl
theorem apb a b:Dk R kk K (.exit 0) (J5 a b)=
 qV a b (λa0=>K [.aq y9 a0 []] none):=by kernel_rfl
theorem aq5{kk:Nat}(hF:kk=af) a b c d:qT R kk k J a b c d=(iP k a b c d).bind λe=>J (.exit 0) (J5 e.1 e.2):=by
 induction k generalizing a b c d with
 |zero=>rfl
 |succ k ih=>rw[PH];simp only[iP,nF,ih,av]
def rF:ai:=rE.add 172 [y2] (cO y2 Q8 (λ_ r K=>K [.aq y9 r []] none))
theorem abv:aL ee rF:=cP yP (λR kk x0 K=>qU x0 (qT R kk kk (Dk R kk K))) abu ei Tryz.func172 (λR kk e x0 K=>by simp only[Q8,qU,qV,aq5 (hF:=e),apb,av,<-e])
def FE:Env:=bU.env (kp [(3,[0,3,4])]) (kp [(3,[3])]) [] [.str]
def zpo(a:ByteArray)(b:(List Int))(c:Int):Option R:=lq FE rF kk Tryz.f173 116 k J ⟨sA a::uS 2 (dB y7 b::iA c::uS 25 []),nS 31 []⟩
def zii(a:(List Int)):State:=⟨uS 3 (dB y7 a::uS 26 []),nS 31 []⟩
def W0:KX R:=(zk 0 (sk FE rF kk Tryz.f173 15 (fk FE Tryz.f173 none K)))
theorem anW a b c:zpo R kk (k+1) J a b c=
 Z2 a b c (zpo R kk k J) (λa0=>J (.exit 0) (zii a0)):=by kernel_rfl
theorem agM a:W0 R kk K (.exit 0) (zii a)=
 z168 a (λa0=>K [tS a0] none):=by kernel_rfl
theorem akv{kk:Nat}(hF:kk=af) a b c:zpo R kk k J a b c=(Mt k a b c).bind λe=>J (.exit 0) (zii e):=by
 induction k generalizing a b c with
 |zero=>rfl
 |succ k ih=>rw[anW];simp only[Mt,Z2,ih,av]
def DK:ai:=rF.add 173 [.str] (cO .str kI dE)
theorem abw:aL ee DK:=cP FE (λR kk x0 K=>zpp x0 (zpo R kk kk (W0 R kk K))) abv ei Tryz.func173 (λR kk e x0 K=>by simp only[dE,kI,zpp,z168,akv (hF:=e),agM,av,<-e])
def aae:Env:=e0 [y1,dz]
def rG:ai:=DK.add 125 [y1,dz] (cY y1 dz Q6 ku)
theorem abx:aL ee rG:=dc aae (λR kk x0 x1 K=>qI x0 x1 (λa0 a1=>K [tS a0,tI a1] none)) abw ei Tryz.func125 (λR kk e x0 x1 K=>by simp only[ku,Q6,qI,av])
def qn:Env:=bU.env (kp [(5,[0,6,7,19])]) (kp [(5,[0,6,19])]) [] [y1,y1]
def zyo(a:Int)(b:Nat)(c:Int)(d:Nat)(e:(List Int)):Option R:=lq qn rG kk Tryz.f211 244 k J ⟨iA a::uS 5 (pA 20 (.aY (.hJ b) y0 .unit)::iA c::uS 11 (pA 20 (.aY (.hJ d) y0 .unit)::uS 19 [])),nS 20 (oA (.aY .row y0 .unit) e::nS 19 [])⟩
def zug(a:Int)(b c:Nat)(d:(List Int)):State:=⟨iA a::uS 5 (pA 20 (.aY (.hJ b) y0 .unit)::uS 12 (pA 20 (.aY (.hJ c) y0 .unit)::uS 19 [])),nS 20 (oA (.aY .row y0 .unit) d::nS 19 [])⟩
def Ya:KX R:=(zk 0 (sk qn rG kk Tryz.f211 31 (fk qn Tryz.f211 none K)))
theorem aqA a b c d e:zyo R kk (k+1) J a b c d e=
 zk0 a b c d e (zyo R kk k J) (λa0 a1 a2 a3=>J (.exit 0) (zug a0 a1 a2 a3)):=by kernel_rfl
theorem ak8 a b c d:Ya R kk K (.exit 0) (zug a b c d)=
 zyq a b c d (λa0 a1=>K [tS a0,tB a1] none):=by kernel_rfl
theorem aow{kk:Nat}(hF:kk=af) a b c d f:zyo R kk k J a b c d f=(MS k a b c d f).bind λe=>J (.exit 0) (zug e.1 e.2.1 e.2.2.1 e.2.2.2):=by
 induction k generalizing a b c d f with
 |zero=>rfl
 |succ k ih=>rw[aqA];simp only[MS,zk0,ih,av]
def DL:ai:=rG.add 211 [y1,y1] (cY y1 y1 Pj dR)
theorem aby:aL ee DL:=dc qn (λR kk x0 x1 K=>zyp x0 x1 (λa0 a1=>K [tS a0,tB a1] none) (zyo R kk kk (Ya R kk K))) abx ei Tryz.func211 (λR kk e x0 x1 K=>by simp only[dR,Pj,zyp,zyq,aow (hF:=e),ak8,av,<-e])
def X4:Env:=e0 [y1,y1,y1]
def DM:ai:=DL.add 175 [y1,y1,y1] (iF y1 y1 y1 s8 ku)
theorem abz:aL ee DM:=iK X4 (λR kk x0 x1 x2 K=>zq7 x0 x1 x2 (λa0 a1=>K [tS a0,tI a1] none)) aby ei Tryz.func175 (λR kk e x0 x1 x2 K=>by simp only[ku,s8,zq7,av])
def CW:Env:=e0 [y1,b6,.str]
def DN:ai:=DM.add 127 [y1,b6,.str] (iF y1 b6 .str FP ku)
theorem GU:aL ee DN:=iK CW (λR kk x0 x1 x2 K=>zxc x0 x1 x2 (λa0 a1=>K [tS a0,tI a1] none)) abz ei Tryz.func127 (λR kk e x0 x1 x2 K=>by simp only[ku,FP,zxc,av])
def Tryz.jV:zf7:=⟨λ|169=>128|n=>n,λ|70=>196|9=>9|0=>0|72=>198|37=>99|127=>256|3=>3|5=>5|n=>n,λn=>n⟩
theorem Tryz.AA:Go.Proofs.Lays.n169 zcu Tryz.jV:={
 mixed:=by kernel_rfl,
 f169:=Go.Proofs.Tryz.func128.trans (congrArg some (by kernel_rfl)),
 t0:=zds,
 a0:=zem,
 z0:=zd5,
 v0:=zdC,
 t3:=zdt,
 a3:=zen,
 z3:=zd6,
 v3:=zdD,
 t9:=zdu,
 a9:=zeo,
 z9:=zd7,
 v9:=zdE,
 t37:=zdg,
 a37:=zd8,
 z37:=zdY,
 v37:=zdv,
 t70:=zda,
 a70:=zdZ,
 z70:=zdM,
 v70:=zdh,
 t72:=zdb,
 a72:=zd0,
 z72:=zdN,
 v72:=zdi,
 t127:=zex,
 a127:=zfU,
 z127:=zfK,
 v127:=zeP}
theorem Tryz.wC:zcU zcu Tryz.jV:={
 sizeBuilder:=by kernel_rfl,
 liesBuilder:=by kernel_rfl,
 t5:=zdw,
 a5:=zep,
 z5:=zd9,
 v5:=zdF,
 infoByte:=by kernel_rfl,
 cellsByte:=by kernel_rfl,
 sizeByte:=by kernel_rfl,
 neB5:=by decide}
noncomputable abbrev zbp:Code:=Tryz.f128.body.getD .skip
theorem z98:uv ee 128:=⟨Tryz.f128,zbp,Tryz.func128,by kernel_rfl,by kernel_rfl⟩
def rH:ai:=DN.add 128 [] (zl6 198 5)
theorem abA:aL ee rH:=⟨GU.mix,zsf GU.nat (arb _ _),ahO GU.xh z98 Tryz.AA Tryz.wC rfl rfl rfl⟩
def zye:Env:={bU.env (kp [(11,[2,5,7,8,50,51,52])]) (kp [(11,[5,7])]) [5] [aG,aP] with bl:=λt=>bif xz t 198 then some 5 else none}
def zrv(a:al)(b c:Int)(d:ah)(e:aH)(f:ByteArray):Option R:=lq zye rH kk Tryz.f89 8180 k J ⟨uS 2 (pA 3 aG::uS 2 (pA 6 b8::uS 1 (pA 8 A8::pA 8 (.aY (.xW 122) A8 .unit)::uS 41 (dA mD a::iA b::iA c::uS 25 [])))),nS 3 (oA aG d::nS 2 (oA b8 e::nS 1 (oB A8 f::nS 70 [])))⟩
def zjm(a:aH)(b:ByteArray):State:=⟨uS 5 (pA 6 b8::uS 1 (pA 8 A8::uS 70 [])),nS 6 (oA b8 a::nS 1 (oB A8 b::nS 70 []))⟩
def W9:KX R:=(zk 0 (sk zye rH kk Tryz.f89 1023 (fk zye Tryz.f89 none K)))
theorem aom a b c d e f:zrv R kk (k+1) J a b c d e f=
 JF a b c d e f (zrv R kk k J) (λa0 a1=>J (.exit 0) (zjm a0 a1)):=by kernel_rfl
theorem ahp a b:W9 R kk K (.exit 0) (zjm a b)=
 JG a b (λa0 a1=>K [tS a0,.aq b8 a1 []] none):=by kernel_rfl
theorem akX{kk:Nat}(hF:kk=af) a b c d f g:zrv R kk k J a b c d f g=(ze7 k a b c d f g).bind λe=>J (.exit 0) (zjm e.1 e.2):=by
 induction k generalizing a b c d f g with
 |zero=>rfl
 |succ k ih=>rw[aom];simp only[ze7,JF,ih,av]
def DO:ai:=rH.add 89 [aG,aP] (cY aG aP pu (λ_ r K=>K [tS r.1,.aq b8 r.2 []] none))
theorem abB:aL ee DO:=dc zye (λR kk x0 x1 K=>zrw x0 x1 (λa0 a1=>K [tS a0,.aq b8 a1 []] none) (zrv R kk kk (W9 R kk K))) abA (ei.kl 198 5 (by kernel_rfl)) Tryz.func89 (λR kk e x0 x1 K=>by simp only[pu,zrw,JG,akX (hF:=e),ahp,av,<-e])
def aqm:Env:=e0 [aP,b8,.unit,.unit]
def rI:ai:=DO.add 87 [aP,b8,.unit,.unit] (pv aP b8 cu cF lM n5)
theorem abC:aL ee rI:=sv aqm (λR kk x0 x1 x2 x3 K=>zqq x0 x1 x2 x3 (λa0 a1=>K [tI a0,tS a1] none)) abB ei Tryz.func87 (λR kk e x0 x1 x2 x3 K=>by simp only[n5,lM,zqq,av])
def zyg:Env:=bU.env (kp [(2,[1,9,10,11])]) (kp [(2,[4,5])]) [] [cp,.str]
def zsc(a:ByteArray)(b:bd)(c d:Int):Option R:=lq zyg rI kk Tryz.f133 52 k J ⟨uS 1 (sA a::uS 7 (dA fp b::iA c::iA d::uS 10 [])),nS 23 []⟩
def zjy(a:ByteArray)(b:Bool):State:=⟨uS 4 (sA a::bA b::uS 16 []),nS 23 []⟩
def zjz:State:=⟨uS 22 [],nS 23 []⟩
def JX:KX R:=(zk 0 (sk zyg rI kk Tryz.f133 7 (fk zyg Tryz.f133 none K)))
theorem aot a b c d:zsc R kk (k+1) J a b c d=
 JY a b c d (λa0 a1=>J .ret (zjy a0 a1)) (zsc R kk k J) (J (.exit 0) (zjz)):=by kernel_rfl
theorem ahB a b:JX R kk K .ret (zjy a b)=
 JZ a b (λa0 a1=>K [tS a0,tB a1] none):=by kernel_rfl
theorem ahC:JX R kk K (.exit 0) (zjz)=
 J0 (λa0 a1=>K [tS a0,tB a1] none):=by kernel_rfl
theorem ak4{kk:Nat}(hF:kk=af) a b c d:zsc R kk k J a b c d=(zec k a b c d).bind λe=>(GB (λ(we:iH)=>J .ret (zjy we.1 we.2)) (λ(we:Unit)=>J (.exit 0) (zjz)) e):=by
 induction k generalizing a b c d with
 |zero=>rfl
 |succ k ih=>rw[aot];simp only[zec,JY,ih,av]
def rJ:ai:=rI.add 133 [cp,.str] (cY cp .str vS dR)
theorem abD:aL ee rJ:=dc zyg (λR kk x0 x1 K=>zsd x0 x1 (zsc R kk kk (JX R kk K))) abC ei Tryz.func133 (λR kk e x0 x1 K=>by simp only[dR,vS,zsd,JZ,J0,ak4 (hF:=e),ahB,ahC,av,<-e])
def zyf:Env:={bU.env (kp [(2,[1,4,9,10,11])]) (kp [(2,[4,5])]) [4] [cp,y1] with ro:=true}
def zsa(a:Int)(b:cJ)(c d:Int)(e:aN):Option R:=lq zyf rJ kk Tryz.f134 52 k J ⟨uS 1 (iA a::uS 2 (pA 5 cV::uS 4 (dA uH b::iA c::iA d::uS 10 []))),nS 5 ((some ⟨cV,e,[[4]]⟩)::nS 17 [])⟩
def zjw(a:Bool)(b:aN):State:=⟨uS 4 (pA 5 cV::bA a::uS 16 []),nS 5 (oA cV b::nS 17 [])⟩
def zjx(a:aN):State:=⟨uS 4 (pA 5 cV::uS 17 []),nS 5 ((some ⟨cV,a,[[4]]⟩)::nS 17 [])⟩
def JT:KX R:=(zk 0 (sk zyf rJ kk Tryz.f134 7 (fk zyf Tryz.f134 none K)))
theorem aos a b c d e:zsa R kk (k+1) J a b c d e=
 JU a b c d e (λa0 a1=>J .ret (zjw a0 a1)) (zsa R kk k J) (λa0=>J (.exit 0) (zjx a0)):=by kernel_rfl
theorem ahz a b:JT R kk K .ret (zjw a b)=
 JV a b (λa0 a1=>K [.aq cV a0 [],tB a1] none):=by kernel_rfl
theorem ahA a:JT R kk K (.exit 0) (zjx a)=
 JW a (λa0 a1=>K [.aq cV a0 [],tB a1] none):=by kernel_rfl
theorem ak3{kk:Nat}(hF:kk=af) a b c d f:zsa R kk k J a b c d f=(zeb k a b c d f).bind λe=>(GB (λ(we:(Bool×aN))=>J .ret (zjw we.1 we.2)) (λ(we:aN)=>J (.exit 0) (zjx we)) e):=by
 induction k generalizing a b c d f with
 |zero=>rfl
 |succ k ih=>rw[aos];simp only[zeb,JU,ih,av]
def DP:ai:=rJ.add 134 [cp,y1] (cY cp y1 pw (λ_ r K=>K [.aq cV r.1 [],tB r.2] none))
theorem GV:aL ee DP:=dc zyf (λR kk x0 x1 K=>zsb x0 x1 (zsa R kk kk (JT R kk K))) abD (ei.ro _) Tryz.func134 (λR kk e x0 x1 K=>by simp only[pw,zsb,JV,JW,ak3 (hF:=e),ahz,ahA,av,<-e])
def Tryz.gR:zf7:=⟨λ|105=>215|212=>225|99=>226|165=>227|166=>123|170=>228|169=>128|263=>236|264=>237|206=>238|240=>167|241=>239|276=>209|277=>244|n=>n,λ|9=>9|3=>3|4=>4|20=>20|0=>0|46=>154|109=>286|5=>5|72=>198|76=>201|51=>297|146=>298|53=>137|148=>250|70=>196|37=>99|75=>200|127=>256|164=>280|80=>210|n=>n,λn=>n⟩
theorem Tryz.eQ:Go.Proofs.Lays.n105 zcu Tryz.gR:={
 mixed:=by kernel_rfl,
 f99:=Go.Proofs.Tryz.func226.trans (congrArg some (by kernel_rfl)),
 f105:=Go.Proofs.Tryz.func215.trans (congrArg some (by kernel_rfl)),
 f165:=Go.Proofs.Tryz.func227.trans (congrArg some (by kernel_rfl)),
 f166:=Go.Proofs.Tryz.func123.trans (congrArg some (by kernel_rfl)),
 f169:=Go.Proofs.Tryz.func128.trans (congrArg some (by kernel_rfl)),
 f170:=Go.Proofs.Tryz.func228.trans (congrArg some (by kernel_rfl)),
 f206:=Go.Proofs.Tryz.func238.trans (congrArg some (by kernel_rfl)),
 f212:=Go.Proofs.Tryz.func225.trans (congrArg some (by kernel_rfl)),
 f240:=Go.Proofs.Tryz.func167.trans (congrArg some (by kernel_rfl)),
 f241:=Go.Proofs.Tryz.func239.trans (congrArg some (by kernel_rfl)),
 f263:=Go.Proofs.Tryz.func236.trans (congrArg some (by kernel_rfl)),
 f264:=Go.Proofs.Tryz.func237.trans (congrArg some (by kernel_rfl)),
 f276:=Go.Proofs.Tryz.func209.trans (congrArg some (by kernel_rfl)),
 f277:=Go.Proofs.Tryz.func244.trans (congrArg some (by kernel_rfl)),
 t0:=zds,
 a0:=zem,
 z0:=zd5,
 v0:=zdC,
 t3:=zdt,
 a3:=zen,
 z3:=zd6,
 v3:=zdD,
 t4:=zeR,
 a4:=zgE,
 z4:=zfY,
 v4:=zfB,
 t5:=zdw,
 a5:=zep,
 z5:=zd9,
 v5:=zdF,
 t9:=zdu,
 a9:=zeo,
 z9:=zd7,
 v9:=zdE,
 t20:=zeM,
 a20:=zfZ,
 z20:=zfR,
 v20:=zeS,
 t37:=zdg,
 a37:=zd8,
 z37:=zdY,
 v37:=zdv,
 t46:=Go.Proofs.Tryz.underlying154,
 a46:=Go.Proofs.Tryz.isAgg154,
 z46:=Go.Proofs.Tryz.sizeOf154,
 v46:=Go.Proofs.Tryz.zeroValue154,
 t51:=Go.Proofs.Tryz.underlying297,
 a51:=Go.Proofs.Tryz.isAgg297,
 z51:=Go.Proofs.Tryz.sizeOf297,
 v51:=Go.Proofs.Tryz.zeroValue297,
 t53:=Go.Proofs.Tryz.underlying137,
 a53:=Go.Proofs.Tryz.isAgg137,
 z53:=Go.Proofs.Tryz.sizeOf137,
 v53:=Go.Proofs.Tryz.zeroValue137,
 t70:=zda,
 a70:=zdZ,
 z70:=zdM,
 v70:=zdh,
 t72:=zdb,
 a72:=zd0,
 z72:=zdN,
 v72:=zdi,
 t75:=zev,
 a75:=zfS,
 z75:=zfI,
 v75:=zeN,
 t76:=Go.Proofs.Tryz.underlying201,
 a76:=Go.Proofs.Tryz.isAgg201,
 z76:=Go.Proofs.Tryz.sizeOf201,
 v76:=Go.Proofs.Tryz.zeroValue201,
 t109:=Go.Proofs.Tryz.underlying286,
 a109:=Go.Proofs.Tryz.isAgg286,
 z109:=Go.Proofs.Tryz.sizeOf286,
 v109:=Go.Proofs.Tryz.zeroValue286,
 t127:=zex,
 a127:=zfU,
 z127:=zfK,
 v127:=zeP,
 t146:=Go.Proofs.Tryz.underlying298,
 a146:=Go.Proofs.Tryz.isAgg298,
 z146:=Go.Proofs.Tryz.sizeOf298,
 v146:=Go.Proofs.Tryz.zeroValue298,
 t148:=Go.Proofs.Tryz.underlying250,
 a148:=Go.Proofs.Tryz.isAgg250,
 z148:=Go.Proofs.Tryz.sizeOf250,
 v148:=Go.Proofs.Tryz.zeroValue250,
 t164:=zew,
 a164:=zfT,
 z164:=zfJ,
 v164:=zeO}
theorem Tryz.nM:zcU zcu Tryz.gR:={
 sizeBuilder:=by kernel_rfl,
 liesBuilder:=by kernel_rfl,
 t5:=Tryz.eQ.t5,
 a5:=Tryz.eQ.a5,
 z5:=Tryz.eQ.z5,
 v5:=Tryz.eQ.v5,
 infoByte:=by kernel_rfl,
 cellsByte:=by kernel_rfl,
 sizeByte:=by kernel_rfl,
 neB5:=by decide}
noncomputable abbrev zwn:Code:=Tryz.f215.body.getD .skip
theorem zmk:uv ee 215:=⟨Tryz.f215,zwn,Tryz.func215,by kernel_rfl,by kernel_rfl⟩
def zbq:Pure:=λR l b K=>gT b (fW .str y1 l λx0 x1=>(strings_Repeat x0 x1).bind λr=>K [.aq .str r []] none)
theorem zwo:zbq.Nat:=λR S l b F G K h=>L5 (zl0 λ_ _=>sM λ_=>h _ _)
def rK:ai:=DP.add 215 [] zbq
theorem abE:aL ee rK:=⟨GV.mix,zsf GV.nat zwo,amF GV.xh zmk strings_Repeat (zgl Tryz.eQ Tryz.nM (by kernel_rfl))⟩
def FF:Env:=bU.env (kp [(1,[0,1])]) (kp [(1,[0])]) [] [.str,y0]
def zrm(a:ByteArray)(b:Int):Option R:=lq FF rK kk Tryz.f230 24 k J ⟨sA a::uA b::uS 21 [],nS 24 []⟩
def zji(a:ByteArray):State:=⟨sA a::uS 22 [],nS 24 []⟩
def W8:KX R:=(zk 0 (sk FF rK kk Tryz.f230 7 (fk FF Tryz.f230 none K)))
theorem aoj a b:zrm R kk (k+1) J a b=
 zro a b (zrm R kk k J) (λa0=>J (.exit 0) (zji a0)):=by kernel_rfl
theorem ahm a:W8 R kk K (.exit 0) (zji a)=
 zrp a (λa0=>K [tS a0] none):=by kernel_rfl
theorem akT{kk:Nat}(hF:kk=af) a b:zrm R kk k J a b=(Og k a b).bind λe=>J (.exit 0) (zji e):=by
 induction k generalizing a b with
 |zero=>rfl
 |succ k ih=>rw[aoj];simp only[Og,zro,ih,av]
def rL:ai:=rK.add 230 [.str,y0] (cY .str y0 yJ dE)
theorem abF:aL ee rL:=dc FF (λR kk x0 x1 K=>zrn x0 x1 (zrm R kk kk (W8 R kk K))) abE ei Tryz.func230 (λR kk e x0 x1 K=>by simp only[dE,yJ,zrn,zrp,akT (hF:=e),ahm,av,<-e])
def zri(a:ByteArray)(b:Int):Option R:=lq FF rL kk Tryz.f229 24 k J ⟨sA a::uA b::uS 15 [],nS 18 []⟩
def zjh(a:ByteArray):State:=⟨sA a::uS 16 [],nS 18 []⟩
def W7:KX R:=(zk 0 (sk FF rL kk Tryz.f229 7 (fk FF Tryz.f229 none K)))
theorem aoi a b:zri R kk (k+1) J a b=
 zrk a b (zri R kk k J) (λa0=>J (.exit 0) (zjh a0)):=by kernel_rfl
theorem ahl a:W7 R kk K (.exit 0) (zjh a)=
 zrl a (λa0=>K [tS a0] none):=by kernel_rfl
theorem akS{kk:Nat}(hF:kk=af) a b:zri R kk k J a b=(Oe k a b).bind λe=>J (.exit 0) (zjh e):=by
 induction k generalizing a b with
 |zero=>rfl
 |succ k ih=>rw[aoi];simp only[Oe,zrk,ih,av]
def DQ:ai:=rL.add 229 [.str,y0] (cY .str y0 yI dE)
theorem abG:aL ee DQ:=dc FF (λR kk x0 x1 K=>zrj x0 x1 (zri R kk kk (W7 R kk K))) abF ei Tryz.func229 (λR kk e x0 x1 K=>by simp only[dE,yI,zrj,zrl,akS (hF:=e),ahl,av,<-e])
def aqu:Env:=e0 [.str,.str]
def DR:ai:=DQ.add 216 [.str,.str] (cY .str .str vN dE)
theorem abH:aL ee DR:=dc aqu (λR kk x0 x1 K=>zrh x0 x1 (λa0=>K [tS a0] none)) abG ei Tryz.func216 (λR kk e x0 x1 K=>by simp only[dE,vN,zrh,av])
def rM:ai:=DR.add 185 [.str,y1] (cY .str y1 Ph dR)
theorem abI:aL ee rM:=dc nE (λR kk x0 x1 K=>zyn x0 x1 (λa0 a1=>K [tS a0,tB a1] none)) abH ei Tryz.func185 (λR kk e x0 x1 K=>by simp only[dR,Ph,zyn,av])
def qi:Env:=bU.env (kp [(2,[1,8,9,10])]) (kp [(2,[4,5])]) [] [fp,.str]
def zy9(a:ByteArray)(b:bd)(c d:Int):Option R:=lq qi rM kk Tryz.f186 52 k J ⟨uS 1 (sA a::uS 6 (dA fp b::iA c::iA d::uS 10 [])),nS 22 []⟩
def zu9(a:ByteArray)(b:Bool):State:=⟨uS 4 (sA a::bA b::uS 15 []),nS 22 []⟩
def zua:State:=⟨uS 21 [],nS 22 []⟩
def Kp:KX R:=(zk 0 (sk qi rM kk Tryz.f186 7 (fk qi Tryz.f186 none K)))
theorem aqt a b c d:zy9 R kk (k+1) J a b c d=
 Kq a b c d (λa0 a1=>J .ret (zu9 a0 a1)) (zy9 R kk k J) (J (.exit 0) (zua)):=by kernel_rfl
theorem akQ a b:Kp R kk K .ret (zu9 a b)=
 Kr a b (λa0 a1=>K [tS a0,tB a1] none):=by kernel_rfl
theorem akR:Kp R kk K (.exit 0) (zua)=
 Ks (λa0 a1=>K [tS a0,tB a1] none):=by kernel_rfl
theorem aoh{kk:Nat}(hF:kk=af) a b c d:zy9 R kk k J a b c d=(zjg k a b c d).bind λe=>(GB (λ(we:iH)=>J .ret (zu9 we.1 we.2)) (λ(we:Unit)=>J (.exit 0) (zua)) e):=by
 induction k generalizing a b c d with
 |zero=>rfl
 |succ k ih=>rw[aqt];simp only[zjg,Kq,ih,av]
def DS:ai:=rM.add 186 [fp,.str] (cY fp .str Pf dR)
theorem abJ:aL ee DS:=dc qi (λR kk x0 x1 K=>zya x0 x1 (zy9 R kk kk (Kp R kk K))) abI ei Tryz.func186 (λR kk e x0 x1 K=>by simp only[dR,Pf,zya,Kr,Ks,aoh (hF:=e),akQ,akR,av,<-e])
def X7:Env:=bU.env (λ_=>[]) (λ_=>[]) [6] [cV,aG,.str]
def l8:ai:=DS.add 135 [cV,aG,.str] (iF cV aG .str po lf4)
theorem abK:aL ee l8:=iK X7 (λR kk x0 x1 x2 K=>zqr x0 x1 x2 (λa0 a1=>K [.aq eD a0 [],tI a1] none)) abJ ei Tryz.func135 (λR kk e x0 x1 x2 K=>by simp only[lf4,po,zqr,av])
def MR:Env:={{bU.env (kp [(12,[4,6,7,8,9,16,59,60,61]),(18,[4,6,8,9,16,76,77,78])]) (kp [(12,[4,6,7,8,9,16]),(18,[8,9,16])]) [8,9] [cp,aG,aG,aP] with dr:=λi=>bif xz i 12 then [17] else []} with ro:=true}
def zs6(a:cJ)(b c:Int)(d:az)(e:ah)(f g:ag)(h:aH)(i:ag):Option R:=lq MR l8 kk zgY 2036 k J ⟨uS 4 (pA 5 cp::uS 1 (pA 7 aG::pA 8 aP::pA 9 aP::pA 10 b8::uS 6 (pA 17 aP::uS 42 (dA uH a::iA b::iA c::uS 60 [])))),nS 5 (oA cp d::nS 1 (oA aG e::oA aP f::(some ⟨aP,g,[[1]]⟩)::oA b8 h::nS 6 (oA aP i::nS 105 [])))⟩
def zjt(a:az)(b:ah)(c d:ag)(e:aH)(f:ag):State:=⟨uS 4 (pA 5 cp::uS 1 (pA 7 aG::pA 8 aP::pA 9 aP::pA 10 b8::uS 6 (pA 17 aP::uS 105 []))),nS 5 (oA cp a::nS 1 (oA aG b::oA aP c::(some ⟨aP,d,[[1]]⟩)::oA b8 e::nS 6 (oA aP f::nS 105 [])))⟩
def Xa:KX R:=(zk 0 (sk MR l8 kk zgY 255 (fk MR zgY none K)))
def zs7(a:al)(b c:Int)(d:az)(e:ah)(f:ag)(g:aH)(h:ag):Option R:=lq MR l8 kk zgY 4084 k J ⟨uS 4 (pA 5 cp::uS 1 (pA 7 aG::uS 1 (pA 9 aP::pA 10 b8::uS 6 (pA 17 aP::uS 59 (dA mD a::iA b::iA c::uS 43 []))))),nS 5 (oA cp d::nS 1 (oA aG e::nS 1 ((some ⟨aP,f,[[1]]⟩)::oA b8 g::nS 6 (oA aP h::nS 105 []))))⟩
def zju(a:ag)(b:aH)(c:ag):State:=⟨uS 8 (pA 9 aP::pA 10 b8::uS 6 (pA 17 aP::uS 105 [])),nS 9 ((some ⟨aP,a,[[1]]⟩)::oA b8 b::nS 6 (oA aP c::nS 105 []))⟩
def zjv(a:ag)(b:aH)(c:ag):State:=⟨uS 8 (pA 9 aP::pA 10 b8::uS 6 (pA 17 aP::uS 105 [])),nS 9 ((some ⟨aP,a,[[1]]⟩)::oA b8 b::nS 6 (oA aP c::nS 105 []))⟩
def JO:KX R:=(zk 2 (sk MR l8 kk zgY 511 (fk MR zgY none K)))
theorem aoq a b c d e f g h i:zs6 R kk (k+1) J a b c d e f g h i=
 JP a b c d e f g h i (zs6 R kk k J) (λa0 a1 a2 a3 a4 a5=>J (.exit 0) (zjt a0 a1 a2 a3 a4 a5)):=by kernel_rfl
theorem ahw a b c d e f:Xa R kk K (.exit 0) (zjt a b c d e f)=
 zs9 a b c d e f (zs7 R kk kk (JO R kk K)):=by kernel_rfl
theorem aor a b c d e f g h:zs7 R kk (k+1) J a b c d e f g h=
 JQ a b c d e f g h (λa0 a1 a2=>J .ret (zju a0 a1 a2)) (zs7 R kk k J) (λa0 a1 a2=>J (.exit 2) (zjv a0 a1 a2)):=by kernel_rfl
theorem ahx a b c:JO R kk K .ret (zju a b c)=
 JR a b c (λa0 a1=>K [.aq aP a0 [],.aq b8 a1 []] none):=by kernel_rfl
theorem ahy a b c:JO R kk K (.exit 2) (zjv a b c)=
 JS a b c (λa0 a1=>K [.aq aP a0 [],.aq b8 a1 []] none):=by kernel_rfl
theorem ak1{kk:Nat}(hF:kk=af) a b c d f g h i j:zs6 R kk k J a b c d f g h i j=(ze9 k a b c d f g h i j).bind λe=>J (.exit 0) (zjt e.1 e.2.1 e.2.2.1 e.2.2.2.1 e.2.2.2.2.1 e.2.2.2.2.2):=by
 induction k generalizing a b c d f g h i j with
 |zero=>rfl
 |succ k ih=>rw[aoq];simp only[ze9,JP,ih,av]
theorem ak2{kk:Nat}(hF:kk=af) a b c d f g h i:zs7 R kk k J a b c d f g h i=(zea k a b c d f g h i).bind λe=>(GB (λ(we:pE)=>J .ret (zju we.1 we.2.1 we.2.2)) (λ(we:pE)=>J (.exit 2) (zjv we.1 we.2.1 we.2.2)) e):=by
 induction k generalizing a b c d f g h i with
 |zero=>rfl
 |succ k ih=>rw[aor];simp only[zea,JQ,ih,av]
def DT:ai:=l8.add 91 [cp,aG,aG,aP] (AW cp aG aG aP tg (λ_ r K=>K [.aq aP r.1 [],.aq b8 r.2 []] none))
theorem abL:aL ee DT:=Fa MR (λR kk x0 x1 x2 x3 K=>zs8 x0 x1 x2 x3 (λa0 a1=>K [.aq aP a0 [],.aq b8 a1 []] none) (zs6 R kk kk (Xa R kk K))) abK ((ei.dr _).ro _) Tryz.func91 (λR kk e x0 x1 x2 x3 K=>by simp only[tg,zs8,zs9,JR,JS,ak1 (hF:=e),ak2 (hF:=e),ahw,ahx,ahy,av,<-e])
def aql:Env:={e0 [cF,y1,.str] with fr:=λi=>bif xz i 5 then [12,4] else []}
def DU:ai:=DT.add 63 [cF,y1,.str] (iF cF y1 .str vG n5)
theorem abM:aL ee DU:=iK aql (λR kk x0 x1 x2 K=>zqp x0 x1 x2 (λa0 a1=>K [tI a0,tS a1] none)) abL (ei.fr _) Tryz.func63 (λR kk e x0 x1 x2 K=>by simp only[n5,vG,zqp,av])
def DV:ai:=DU.add 64 [.str] (cO .str FW ku)
theorem abN:aL ee DV:=cP CE (λR kk x0 K=>zz5 x0 (λa0 a1=>K [tS a0,tI a1] none)) abM ei Tryz.func64 (λR kk e x0 K=>by simp only[ku,FW,zz5,av])
def Pu:Env:={bU.env (λ_=>[]) (λ_=>[]) [6] [.unit,y1,.str] with gr:=λt=>bif xz t 87 then some (cF,gZ) else none,ga:=λt=>xz t 85}
def rN:ai:=DV.add 46 [.unit,y1,.str] (pb2 fL [[],[0],[0,2],[1],[1,2]] y1 .str Ng (λ_ r K=>K [.aq Hb r.1 []] (some ⟨fL,r.2,[[],[0],[0,2],[1],[1,2]]⟩)))
theorem abO:aL ee rN:=sb2 Pu (λR kk x0 x1 x2 K=>zzb x0 x1 x2 (λa0 a1=>K [.aq Hb a0 []] (some ⟨fL,a1,[[],[0],[0,2],[1],[1,2]]⟩))) abN (ei.cX 87 85 cF gZ (by kernel_rfl) (by kernel_rfl) (by kernel_rfl) (by kernel_rfl)) Tryz.func46 (λR kk e x0 x1 x2 K=>by simp only[Ng,zzb,av])
def qu:Env:={{bU.env (kp [(6,[0,3,5,7,27,28,29])]) (kp [(6,[0,3,5,7])]) [] [.unit,eD] with ro:=true} with gr:=λt=>bif xz t 87 then some (cF,gZ) else none,ga:=λt=>xz t 85}
def zz7(a:bP)(b:Bool)(c:(List ByteArray))(d e:Int)(f:(ax×(Option ar×Option ar)×Int))(g:aT):Option R:=lq qu rN kk Tryz.f21 500 k J ⟨pA 0 fL::uS 2 (pA 4 eD::uS 1 (dB j7 a::uS 1 (bA b::uS 19 (dA y3 c::iA d::iA e::uS 24 [])))),(some ⟨fL,f,[[],[0],[0,2],[1],[1,2]]⟩)::nS 3 (oA eD g::nS 50 [])⟩
def zuk(a:bP)(b:Bool)(c:(ax×(Option ar×Option ar)×Int))(d:aT):State:=⟨pA 0 fL::uS 2 (pA 4 eD::uS 1 (dB j7 a::uS 1 (bA b::uS 46 []))),(some ⟨fL,c,[[],[0],[0,2],[1],[1,2]]⟩)::nS 3 (oA eD d::nS 50 [])⟩
def Yc(a:(ax×(Option ar×Option ar)×Int)):KX R:=(zk 0 (sk qu rN kk Tryz.f21 63 (fk qu Tryz.f21 (some ⟨fL,a,[[],[0],[0,2],[1],[1,2]]⟩) K)))
theorem aqE a b c d e f g:zz7 R kk (k+1) J a b c d e f g=
 KI a b c d e f g (zz7 R kk k J) (λa0 a1 a2 a3=>J (.exit 0) (zuk a0 a1 a2 a3)):=by kernel_rfl
theorem alc a b c d e:Yc R kk K a (.exit 0) (zuk b c d e)=
 zk4 b c d e (λa0 a1=>K [.aq j7 a0 []] (some ⟨fL,a1,[[],[0],[0,2],[1],[1,2]]⟩)):=by kernel_rfl
theorem aoA{kk:Nat}(hF:kk=af) a b c d f g h:zz7 R kk k J a b c d f g h=(OD k a b c d f g h).bind λe=>J (.exit 0) (zuk e.1 e.2.1 e.2.2.1 e.2.2.2):=by
 induction k generalizing a b c d f g h with
 |zero=>rfl
 |succ k ih=>rw[aqE];simp only[OD,KI,ih,av]
def rO:ai:=rN.add 21 [.unit,eD] (G0 fL [[],[0],[0,2],[1],[1,2]] eD FX AB)
theorem abP:aL ee rO:=Sl qu (λR kk x0 x1 K=>zz8 x0 x1 (λa0 a1=>K [.aq j7 a0 []] (some ⟨fL,a1,[[],[0],[0,2],[1],[1,2]]⟩)) (zz7 R kk kk (Yc R kk K x0))) abO ((ei.ro _).cX 87 85 cF gZ (by kernel_rfl) (by kernel_rfl) (by kernel_rfl) (by kernel_rfl)) Tryz.func21 (λR kk e x0 x1 K=>by simp only[AB,FX,zz8,zk4,aoA (hF:=e),alc,av,<-e])
def qv:Env:=bU.env (kp [(3,[0,5,8,9,10])]) (kp [(3,[5])]) [] [.unit,lF]
def zz9(a:bP)(b:al)(c d:Int)(e:(ax×(Option ar×Option ar)×Int)):Option R:=lq qv rO kk Tryz.f23 116 k J ⟨pA 0 fL::uS 4 (dB j7 a::uS 2 (dA lF b::iA c::iA d::uS 10 [])),(some ⟨fL,e,[[],[0],[0,2],[1],[1,2]]⟩)::nS 21 []⟩
def zul(a:bP)(b:(ax×(Option ar×Option ar)×Int)):State:=⟨uS 5 (dB j7 a::uS 15 []),(some ⟨fL,b,[[],[0],[0,2],[1],[1,2]]⟩)::nS 21 []⟩
def Yd(a:(ax×(Option ar×Option ar)×Int)):KX R:=(zk 0 (sk qv rO kk Tryz.f23 15 (fk qv Tryz.f23 (some ⟨fL,a,[[],[0],[0,2],[1],[1,2]]⟩) K)))
theorem aqF a b c d e:zz9 R kk (k+1) J a b c d e=
 KK a b c d e (zz9 R kk k J) (λa0 a1=>J (.exit 0) (zul a0 a1)):=by kernel_rfl
theorem ald a b c:Yd R kk K a (.exit 0) (zul b c)=
 KL b c (λa0 a1=>K [.aq j7 a0 []] (some ⟨fL,a1,[[],[0],[0,2],[1],[1,2]]⟩)):=by kernel_rfl
theorem aoB{kk:Nat}(hF:kk=af) a b c d f:zz9 R kk k J a b c d f=(zk5 k a b c d f).bind λe=>J (.exit 0) (zul e.1 e.2):=by
 induction k generalizing a b c d f with
 |zero=>rfl
 |succ k ih=>rw[aqF];simp only[zk5,KK,ih,av]
def rP:ai:=rO.add 23 [.unit,lF] (G0 fL [[],[0],[0,2],[1],[1,2]] lF FY AB)
theorem abQ:aL ee rP:=Sl qv (λR kk x0 x1 K=>zza x0 x1 (zz9 R kk kk (Yd R kk K x0))) abP ei Tryz.func23 (λR kk e x0 x1 K=>by simp only[AB,FY,zza,KL,aoB (hF:=e),ald,av,<-e])
def zxn:Env:=bU.env (kp [(4,[0,1,5])]) (kp [(4,[4])]) [] [j7,j7]
def zpe(a b:bP)(c:Int):Option R:=lq zxn rP kk Tryz.f20 116 k J ⟨dA j7 a::dA j7 b::uS 3 (iA c::uS 20 []),nS 27 []⟩
def zid(a:Bool):State:=⟨uS 4 (bA a::uS 21 []),nS 27 []⟩
def zie:State:=⟨uS 26 [],nS 27 []⟩
def IA:KX R:=(zk 0 (sk zxn rP kk Tryz.f20 15 (fk zxn Tryz.f20 none K)))
theorem anT a b c:zpe R kk (k+1) J a b c=
 z162 a b c (λa0=>J .ret (zid a0)) (zpe R kk k J) (J (.exit 0) (zie)):=by kernel_rfl
theorem agH a:IA R kk K .ret (zid a)=
 zpg a (λa0=>K [tB a0] none):=by kernel_rfl
theorem agI:IA R kk K (.exit 0) (zie)=
 zph (λa0=>K [tB a0] none):=by kernel_rfl
theorem aks{kk:Nat}(hF:kk=af) a b c:zpe R kk k J a b c=(ZZ k a b c).bind λe=>(GB (λ(we:Bool)=>J .ret (zid we)) (λ(we:Unit)=>J (.exit 0) (zie)) e):=by
 induction k generalizing a b c with
 |zero=>rfl
 |succ k ih=>rw[anT];simp only[ZZ,z162,ih,av]
def DW:ai:=rP.add 20 [j7,j7] (cY j7 j7 nx bg)
theorem abR:aL ee DW:=dc zxn (λR kk x0 x1 K=>zpf x0 x1 (λa0=>K [tB a0] none) (zpe R kk kk (IA R kk K))) abQ ei Tryz.func20 (λR kk e x0 x1 K=>by simp only[bg,nx,zpf,zpg,zph,aks (hF:=e),agH,agI,av,<-e])
def Pt:Env:={e0 [.unit] with gr:=λt=>bif xz t 87 then some (cF,gZ) else none,ga:=λt=>xz t 85}
def DX:ai:=DW.add 15 [.unit] (NF fL [[],[0],[0,2],[1],[1,2]] Nf AF)
theorem abS:aL ee DX:=sb0 Pt (λR kk x0 K=>KH x0 (λa0 a1=>K [tI a0] (some ⟨fL,a1,[[],[0],[0,2],[1],[1,2]]⟩))) abR (ei.cX 87 85 cF gZ (by kernel_rfl) (by kernel_rfl) (by kernel_rfl) (by kernel_rfl)) Tryz.func15 (λR kk e x0 K=>by simp only[AF,Nf,KH,av])
def DY:ai:=DX.add 44 [.unit] (NF gZ [[2]] Q35 (λ_ r K=>K [tB r.1] (some ⟨gZ,r.2,[[2]]⟩)))
theorem abT:aL ee DY:=sb0 vU (λR kk x0 K=>KD x0 (λa0 a1=>K [tB a0] (some ⟨gZ,a1,[[2]]⟩))) abS ei Tryz.func44 (λR kk e x0 K=>by simp only[Q35,KD,av])
def C6:Env:={e0 [.unit,y1] with gr:=λt=>bif xz t 87 then some (cF,gZ) else none,ga:=λt=>xz t 85}
def DZ:ai:=DY.add 17 [.unit,y1] (G0 fL [[],[0],[0,2],[1],[1,2]] y1 xP (λ_ r K=>K [tB r.1] (some ⟨fL,r.2,[[],[0],[0,2],[1],[1,2]]⟩)))
theorem abU:aL ee DZ:=Sl C6 (λR kk x0 x1 K=>zz6 x0 x1 (λa0 a1=>K [tB a0] (some ⟨fL,a1,[[],[0],[0,2],[1],[1,2]]⟩))) abT (ei.cX 87 85 cF gZ (by kernel_rfl) (by kernel_rfl) (by kernel_rfl) (by kernel_rfl)) Tryz.func17 (λR kk e x0 x1 K=>by simp only[xP,zz6,av])
def D0:ai:=DZ.add 43 [.unit] (NF gZ [[2]] Q37 AG)
theorem abV:aL ee D0:=sb0 vU (λR kk x0 K=>KG x0 (λa0 a1=>K [tI a0] (some ⟨gZ,a1,[[2]]⟩))) abU ei Tryz.func43 (λR kk e x0 K=>by simp only[AG,Q37,KG,av])
def D1:ai:=D0.add 16 [.unit,y1] (G0 fL [[],[0],[0,2],[1],[1,2]] y1 Q44 AF)
theorem abW:aL ee D1:=Sl C6 (λR kk x0 x1 K=>KJ x0 x1 (λa0 a1=>K [tI a0] (some ⟨fL,a1,[[],[0],[0,2],[1],[1,2]]⟩))) abV (ei.cX 87 85 cF gZ (by kernel_rfl) (by kernel_rfl) (by kernel_rfl) (by kernel_rfl)) Tryz.func16 (λR kk e x0 x1 K=>by simp only[AF,Q44,KJ,av])
def rQ:ai:=D1.add 10 [] (G1 yL bg)
theorem abX:aL ee rQ:=NH qY (λR kk K=>KQ (λa0=>K [tB a0] none)) abW ei Tryz.func10 (λR kk e K=>by simp only[bg,yL,KQ,av])
def zxk:Env:={bU.env (kp [(4,[0,1,8,9,10])]) (kp [(4,[1,4,5,6,7,8,9,10])]) [] [y1,.str] with mv:=[37,38,48,53,73,78]}
def zp8(a:Int)(b:ByteArray)(c:(List ByteArray))(d:(List Int))(e:Int):Option R:=lq zxk rQ kk Tryz.f31 248 k J ⟨iA a::sA b::uS 6 (dB y3 c::dB y8 d::iA e::uS 68 []),nS 80 []⟩
def zi7(a:ByteArray)(b:(List ByteArray))(c:Int)(d:(List Int))(e:Int)(f:(List ByteArray))(g:(List Int))(h:Int):State:=⟨uS 1 (sA a::uS 2 (dB y3 b::iA c::dB y8 d::iA e::dA y3 f::dA y8 g::iA h::uS 68 [])),nS 80 []⟩
def zi8(a:ByteArray)(b:(List ByteArray))(c:(List Int))(d:Int):State:=⟨uS 1 (sA a::uS 6 (dB y3 b::dB y8 c::iA d::uS 68 [])),nS 80 []⟩
def Is:KX R:=(zk 0 (sk zxk rQ kk Tryz.f31 63 (fk zxk Tryz.f31 none K)))
theorem anQ a b c d e:zp8 R kk (k+1) J a b c d e=
 zpa a b c d e (λa0 a1 a2 a3 a4 a5 a6 a7=>J .ret (zi7 a0 a1 a2 a3 a4 a5 a6 a7)) (zp8 R kk k J) (λa0 a1 a2 a3=>J (.exit 0) (zi8 a0 a1 a2 a3)):=by kernel_rfl
theorem agC a b c d e f g h:Is R kk K .ret (zi7 a b c d e f g h)=
 Iu a b c d e f g h (λa0 a1 a2 a3=>K [.aq y3 a0 [[]],tI a1,.aq y8 a2 [[]],tI a3] none):=by kernel_rfl
theorem agD a b c d:Is R kk K (.exit 0) (zi8 a b c d)=
 Iv a b c d (λa0 a1 a2 a3=>K [.aq y3 a0 [[]],tI a1,.aq y8 a2 [[]],tI a3] none):=by kernel_rfl
theorem akp{kk:Nat}(hF:kk=af) a b c d f:zp8 R kk k J a b c d f=(Oa k a b c d f).bind λe=>(GB (λ(we:(ByteArray×(List ByteArray)×Int×(List Int)×Int×(List ByteArray)×(List Int)×Int))=>J .ret (zi7 we.1 we.2.1 we.2.2.1 we.2.2.2.1 we.2.2.2.2.1 we.2.2.2.2.2.1 we.2.2.2.2.2.2.1 we.2.2.2.2.2.2.2)) (λ(we:(ByteArray×(List ByteArray)×(List Int)×Int))=>J (.exit 0) (zi8 we.1 we.2.1 we.2.2.1 we.2.2.2)) e):=by
 induction k generalizing a b c d f with
 |zero=>rfl
 |succ k ih=>rw[anQ];simp only[Oa,zpa,ih,av]
def rR:ai:=rQ.add 31 [y1,.str] (cY y1 .str nw (λ_ r K=>K [.aq y3 r.1 [[]],tI r.2.1,.aq y8 r.2.2.1 [[]],tI r.2.2.2] none))
theorem abY:aL ee rR:=dc zxk (λR kk x0 x1 K=>zp9 x0 x1 (zp8 R kk kk (Is R kk K))) abX (ei.mv _) Tryz.func31 (λR kk e x0 x1 K=>by simp only[nw,zp9,Iu,Iv,akp (hF:=e),agC,agD,av,<-e])
def qG:Env:=bU.env (kp [(8,[0,7,8,9])]) (kp [(8,[4,5,6,8])]) [] [.str,y1]
def Bj(a:ByteArray)(b:Int)(c:ByteArray)(d:Int):Option R:=lq qG rR kk Tryz.f136 1012 k J ⟨sA a::uS 6 (iA b::sA c::iA d::uS 62 []),nS 73 []⟩
def zv3(a:ByteArray)(b c:Int)(d:ByteArray):State:=⟨uS 4 (sA a::iA b::iA c::uS 1 (sA d::uS 63 [])),nS 73 []⟩
def zv4(a:ByteArray):State:=⟨uS 8 (sA a::uS 63 []),nS 73 []⟩
def K7:KX R:=(zk 0 (sk qG rR kk Tryz.f136 127 (fk qG Tryz.f136 none K)))
theorem aqS a b c d:Bj R kk (k+1) J a b c d=
 M0 a b c d (λa0 a1 a2 a3=>J .ret (zv3 a0 a1 a2 a3)) (Bj R kk k J) (λa0=>J (.exit 0) (zv4 a0)):=by kernel_rfl
theorem alx a b c d:K7 R kk K .ret (zv3 a b c d)=
 K8 a b c d (λa0 a1 a2=>K [tS a0,tI a1,tI a2] none):=by kernel_rfl
theorem aly a:K7 R kk K (.exit 0) (zv4 a)=
 zkc a (λa0 a1 a2=>K [tS a0,tI a1,tI a2] none):=by kernel_rfl
theorem aoO{kk:Nat}(hF:kk=af) a b c d:Bj R kk k J a b c d=(p5 k a b c d).bind λe=>(GB (λ(we:(ByteArray×Int×Int×ByteArray))=>J .ret (zv3 we.1 we.2.1 we.2.2.1 we.2.2.2)) (λ(we:ByteArray)=>J (.exit 0) (zv4 we)) e):=by
 induction k generalizing a b c d with
 |zero=>rfl
 |succ k ih=>rw[aqS];simp only[p5,M0,ih,av]
def D2:ai:=rR.add 136 [.str,y1] (cY .str y1 ux lT)
theorem abZ:aL ee D2:=dc qG (λR kk x0 x1 K=>Bk x0 x1 (λa0 a1 a2=>K [tS a0,tI a1,tI a2] none) (Bj R kk kk (K7 R kk K))) abY ei Tryz.func136 (λR kk e x0 x1 K=>by simp only[lT,ux,Bk,K8,zkc,aoO (hF:=e),alx,aly,av,<-e])
def rS:ai:=D2.add 221 [] (G1 Nh dE)
theorem ab0:aL ee rS:=NH qY (λR kk K=>KW (λa0=>K [tS a0] none)) abZ ei Tryz.func221 (λR kk e K=>by simp only[dE,Nh,KW,av])
def qF:Env:=bU.env (kp [(2,[0,3])]) (kp [(2,[2])]) [] [y0]
def Bh(a b:Int):Option R:=lq qF rS kk Tryz.f218 52 k J ⟨uA a::uS 2 (iA b::uS 10 []),nS 15 []⟩
def zv1(a:Int):State:=⟨uS 2 (iA a::uS 11 []),nS 15 []⟩
def zv2:State:=⟨uS 14 [],nS 15 []⟩
def K2:KX R:=(zk 0 (sk qF rS kk Tryz.f218 7 (fk qF Tryz.f218 none K)))
theorem aqR a b:Bh R kk (k+1) J a b=
 K4 a b (λa0=>J .ret (zv1 a0)) (Bh R kk k J) (J (.exit 0) (zv2)):=by kernel_rfl
theorem alv a:K2 R kk K .ret (zv1 a)=
 K5 a (λa0=>K [tI a0] none):=by kernel_rfl
theorem alw:K2 R kk K (.exit 0) (zv2)=
 K6 (λa0=>K [tI a0] none):=by kernel_rfl
theorem aoN{kk:Nat}(hF:kk=af) a b:Bh R kk k J a b=(Bi k a b).bind λe=>(GB (λ(we:Int)=>J .ret (zv1 we)) (λ(we:Unit)=>J (.exit 0) (zv2)) e):=by
 induction k generalizing a b with
 |zero=>rfl
 |succ k ih=>rw[aqR];simp only[Bi,K4,ih,av]
def l9:ai:=rS.add 218 [y0] (cO y0 F2 bI)
theorem ab1:aL ee l9:=cP qF (λR kk x0 K=>K3 x0 (Bh R kk kk (K2 R kk K))) ab0 ei Tryz.func218 (λR kk e x0 K=>by simp only[bI,F2,K3,K5,K6,aoN (hF:=e),alv,alw,av,<-e])
def kN:Env:=bU.env (kp [(2,[0,5]),(10,[0,6,7])]) (kp [(2,[0,2,3,4]),(10,[6])]) [] [.str]
def Bd(a:ByteArray)(b:Int):Option R:=lq kN l9 kk zgF 52 k J ⟨sA a::uS 4 (iA b::uS 44 []),nS 51 []⟩
def zux(a b:ByteArray)(c:Int)(d:Bool):State:=⟨sA a::uS 1 (sA b::iA c::bA d::uS 45 []),nS 51 []⟩
def zuy(a:ByteArray):State:=⟨sA a::uS 49 [],nS 51 []⟩
def KY:KX R:=(zk 0 (sk kN l9 kk zgF 7 (fk kN zgF none K)))
def z105(a:ByteArray)(b:(List Int))(c:Int):Option R:=lq kN l9 kk zgF 500 k J ⟨sA a::uS 5 (dB y7 b::iA c::uS 42 []),nS 51 []⟩
def zuz(a:(List Int)):State:=⟨uS 6 (dB y7 a::uS 43 []),nS 51 []⟩
def Yj:KX R:=(zk 2 (sk kN l9 kk zgF 63 (fk kN zgF none K)))
theorem aqO a b:Bd R kk (k+1) J a b=
 zk9 a b (λa0 a1 a2 a3=>J .ret (zux a0 a1 a2 a3)) (Bd R kk k J) (λa0=>J (.exit 0) (zuy a0)):=by kernel_rfl
theorem alq a b c d:KY R kk K .ret (zux a b c d)=
 KZ a b c d (λa0 a1 a2=>K [tS a0,tI a1,tB a2] none):=by kernel_rfl
theorem alr a:KY R kk K (.exit 0) (zuy a)=
 z107 a (λa0 a1 a2=>K [tS a0,tI a1,tB a2] none) (z105 R kk kk (Yj R kk K)):=by kernel_rfl
theorem aqP a b c:z105 R kk (k+1) J a b c=
 zka a b c (z105 R kk k J) (λa0=>J (.exit 2) (zuz a0)):=by kernel_rfl
theorem als a:Yj R kk K (.exit 2) (zuz a)=
 K0 a (λa0 a1 a2=>K [tS a0,tI a1,tB a2] none):=by kernel_rfl
theorem aoK{kk:Nat}(hF:kk=af) a b:Bd R kk k J a b=(MX k a b).bind λe=>(GB (λ(we:(ByteArray×ByteArray×Int×Bool))=>J .ret (zux we.1 we.2.1 we.2.2.1 we.2.2.2)) (λ(we:ByteArray)=>J (.exit 0) (zuy we)) e):=by
 induction k generalizing a b with
 |zero=>rfl
 |succ k ih=>rw[aqO];simp only[MX,zk9,ih,av]
theorem aoL{kk:Nat}(hF:kk=af) a b c:z105 R kk k J a b c=(MY k a b c).bind λe=>J (.exit 2) (zuz e):=by
 induction k generalizing a b c with
 |zero=>rfl
 |succ k ih=>rw[aqP];simp only[MY,zka,ih,av]
def kS:ai:=l9.add 189 [.str] (cO .str C9 AE)
theorem ab2:aL ee kS:=cP kN (λR kk x0 K=>Be x0 (Bd R kk kk (KY R kk K))) ab1 ei Tryz.func189 (λR kk e x0 K=>by simp only[AE,C9,Be,KZ,z107,K0,aoK (hF:=e),aoL (hF:=e),alq,alr,als,av,<-e])
def kO:Env:={bU.env (kp [(14,[3,11,15,16]),(19,[3,11,15,16,17,18,19])]) (kp [(14,[15]),(19,[3,11,15,16])]) [] [y1,.str,y1,y1] with ro:=true}
def BE(a:Int)(b:ByteArray)(c:(List Int))(d:Int):Option R:=lq kO kS kk zgG 4084 k J ⟨uS 3 (iA a::uS 7 (sA b::uS 3 (dB y8 c::iA d::uS 58 []))),nS 76 []⟩
def zvf(a:(List Int)):State:=⟨uS 15 (dB y8 a::uS 59 []),nS 76 []⟩
def Yp:KX R:=(zk 0 (sk kO kS kk zgG 511 (fk kO zgG none K)))
def BF(a:Int)(b:ByteArray)(c:(List Int))(d e f g:Int):Option R:=lq kO kS kk zgG 1045660 k J ⟨uS 3 (iA a::uS 7 (sA b::uS 3 (dB y8 c::iA d::uA e::uA f::iA g::uS 55 []))),nS 76 []⟩
def zvg(a:Int)(b:ByteArray)(c:(List Int))(d:Int):State:=⟨uS 3 (iA a::uS 7 (sA b::uS 3 (dB y8 c::iA d::uS 58 []))),nS 76 []⟩
def Yq:KX R:=(zk 2 (zk 1 (sk kO kS kk zgG 16339 (lk kO kS kk zgG 4084 k J))))
theorem aq0 a b c d:BE R kk (k+1) J a b c d=
 zkj a b c d (BF R kk kk (Yq R kk k J)) (λa0=>J (.exit 0) (zvf a0)):=by kernel_rfl
theorem z203 a:Yp R kk K (.exit 0) (zvf a)=
 BG a (λa0 a1=>K [.aq y8 a0 [],tI a1] none):=by kernel_rfl
theorem aq1 a b c d e f g:BF R kk (k+1) J a b c d e f g=
 zkk a b c d e f g (BF R kk k J) (λa0 a1 a2 a3=>J (.exit 2) (zvg a0 a1 a2 a3)):=by kernel_rfl
theorem alI a b c d:Yq R kk k J (.exit 2) (zvg a b c d)=
 BH a b c d (BE R kk k J):=by kernel_rfl
theorem aoX{kk:Nat}(hF:kk=af) a b c d f g h:BF R kk k J a b c d f g h=(M6 k a b c d f g h).bind λe=>J (.exit 2) (zvg e.1 e.2.1 e.2.2.1 e.2.2.2):=by
 induction k generalizing a b c d f g h with
 |zero=>rfl
 |succ k ih=>rw[aq1];simp only[M6,zkk,ih,av]
theorem aoW{kk:Nat}(hF:kk=af) a b c d:BE R kk k J a b c d=(FI k a b c d).bind λe=>J (.exit 0) (zvf e):=by
 induction k generalizing a b c d with
 |zero=>rfl
 |succ k ih=>rw[aq0];simp only[FI,zkj,BH,ih,aoX (hF:=hF),alI,av,<-hF]
def D3:ai:=kS.add 187 [y1,.str,y1,y1] (AW y1 .str y1 y1 qN (λ_ r K=>K [.aq y8 r.1 [],tI r.2] none))
theorem ab3:aL ee D3:=Fa kO (λR kk x0 x1 x2 x3 K=>ON x0 x1 x2 x3 (λa0 a1=>K [.aq y8 a0 [],tI a1] none) (λa0 a1 a2 a3=>BE R kk kk (Yp R kk K) a0 a1 a2 a3)) ab2 (ei.ro _) Tryz.func187 (λR kk e x0 x1 x2 x3 K=>by simp only[qN,adR,BG,aoW (hF:=e),z203,av,<-e])
def PC:Env:={e0 [y1,.str,y1] with ro:=true}
def D4:ai:=D3.add 137 [y1,.str,y1] (iF y1 .str y1 yN (λ_ r K=>K [.aq y8 r.1 [],tI r.2.1,tI r.2.2] none))
theorem ab4:aL ee D4:=iK PC (λR kk x0 x1 x2 K=>Bw x0 x1 x2 (λa0 a1 a2=>K [.aq y8 a0 [],tI a1,tI a2] none)) ab3 (ei.ro _) Tryz.func137 (λR kk e x0 x1 x2 K=>by simp only[yN,Bw,av])
def D5:ai:=D4.add 217 [y1] (cO y1 Dd bI)
theorem ab5:aL ee D5:=cP fV (λR kk x0 K=>zkl x0 (λa0=>K [tI a0] none)) ab4 ei Tryz.func217 (λR kk e x0 K=>by simp only[bI,Dd,zkl,av])
def cj:ai:=D5.add 188 [y1,y1,.str,y1] (AW y1 y1 .str y1 PE ej)
theorem ab6:aL ee cj:=Fa X3 (λR kk x0 x1 x2 x3 K=>BI x0 x1 x2 x3 (λa0 a1 a2=>K [tI a0,tI a1,tI a2] none)) ab5 ei Tryz.func188 (λR kk e x0 x1 x2 x3 K=>by simp only[ej,PE,BI,av])
def bk:Env:={e0 [y1,b6,.str,y1] with join:=λi=>bif xz i 2 then some [0,2,3,5,44] else bif xz i 3 then some [0,2,3,5] else bif xz i 8 then some [0,2,5,12,13] else bif xz i 12 then some [0,2,3,5,11] else bif xz i 9 then some [0,2,5,12,13,72] else bif xz i 14 then some [0,2,3,5,11,15,82] else bif xz i 10 then some [0,2,5,12,13] else bif xz i 15 then some [0,2,3,5,11,15] else bif xz i 16 then some [0,2,3,5,11,15,92] else bif xz i 17 then some [0,2,3,5,11,15] else bif xz i 19 then some [0,2,3,5,11,15] else bif xz i 21 then some [0,3,5,11,15,16,114] else bif xz i 24 then some [0,3,5,15,17] else bif xz i 25 then some [0,3,5,15,16] else bif xz i 26 then some [3,5,15,16,132] else bif xz i 29 then some [3,5,15,20] else bif xz i 30 then some [3,5,15,16] else bif xz i 33 then some [3,15,16] else none}
def Yr(a:Int)(b:ByteArray)(c:Int)(d:Bool)(e:aA):Option R:=ev bk (cj R) kk (sq zaw 13) ⟨iA a::uS 1 (sA b::iA c::uS 1 (pA 6 b6::uS 38 (bA d::uS 107 []))),nS 6 (oA b6 e::nS 146 [])⟩ (sk bk cj kk zaw 7 (fk bk zaw none K))
def Ys(a:Int)(b:ByteArray)(c:Int)(d:aA):Option R:=ev bk (cj R) kk (sq zaw 7) ⟨iA a::uS 1 (sA b::iA c::uS 1 (pA 6 b6::uS 146 [])),nS 6 (oA b6 d::nS 146 [])⟩ (fk bk zaw none K)
def Yt(a:Int)(b:ByteArray)(c d:Int)(e:aA):Option R:=ev bk (cj R) kk (sq zaw 491) ⟨iA a::uS 1 (sA b::uS 2 (pA 6 b6::uS 6 (iA c::iA d::uS 138 []))),nS 6 (oA b6 e::nS 146 [])⟩ (sk bk cj kk zaw 31 (fk bk zaw none K))
def Ls(a:Int)(b:ByteArray)(c d:Int)(e:aA):Option R:=ev bk (cj R) kk (sq zaw 31) ⟨iA a::uS 1 (sA b::iA c::uS 1 (pA 6 b6::uS 5 (iA d::uS 140 []))),nS 6 (oA b6 e::nS 146 [])⟩ (fk bk zaw none K)
def Yu(a:Int)(b:ByteArray)(c d:Int)(e:Bool)(f:aA):Option R:=ev bk (cj R) kk (sq zaw 1965) ⟨iA a::uS 1 (sA b::uS 2 (pA 6 b6::uS 6 (iA c::iA d::uS 58 (bA e::uS 79 [])))),nS 6 (oA b6 f::nS 146 [])⟩ (sk bk cj kk zaw 983 (sk bk cj kk zaw 31 (fk bk zaw none K)))
def Yv(a:Int)(b:ByteArray)(c d e:Int)(f:Bool)(g:aA):Option R:=ev bk (cj R) kk (sq zaw 253) ⟨iA a::uS 1 (sA b::iA c::uS 1 (pA 6 b6::uS 5 (iA d::uS 3 (iA e::uS 66 (bA f::uS 69 []))))),nS 6 (oA b6 g::nS 146 [])⟩ (sk bk cj kk zaw 127 (fk bk zaw none K))
def Yw(a:Int)(b:ByteArray)(c d:Int)(e:aA):Option R:=ev bk (cj R) kk (sq zaw 983) ⟨iA a::uS 1 (sA b::uS 2 (pA 6 b6::uS 6 (iA c::iA d::uS 138 []))),nS 6 (oA b6 e::nS 146 [])⟩ (sk bk cj kk zaw 31 (fk bk zaw none K))
def Yx(a:Int)(b:ByteArray)(c d e:Int)(f:aA):Option R:=ev bk (cj R) kk (sq zaw 127) ⟨iA a::uS 1 (sA b::iA c::uS 1 (pA 6 b6::uS 5 (iA d::uS 3 (iA e::uS 136 [])))),nS 6 (oA b6 f::nS 146 [])⟩ (fk bk zaw none K)
def Yy(a:Int)(b:ByteArray)(c d e:Int)(f:Bool)(g:aA):Option R:=ev bk (cj R) kk (sq zaw 509) ⟨iA a::uS 1 (sA b::iA c::uS 1 (pA 6 b6::uS 5 (iA d::uS 3 (iA e::uS 76 (bA f::uS 59 []))))),nS 6 (oA b6 g::nS 146 [])⟩ (sk bk cj kk zaw 255 (fk bk zaw none K))
def Yz(a:Int)(b:ByteArray)(c d e:Int)(f:aA):Option R:=ev bk (cj R) kk (sq zaw 255) ⟨iA a::uS 1 (sA b::iA c::uS 1 (pA 6 b6::uS 5 (iA d::uS 3 (iA e::uS 136 [])))),nS 6 (oA b6 f::nS 146 [])⟩ (fk bk zaw none K)
def Xb(a:Int)(b:ByteArray)(c d e:Int)(f:aA):Option R:=ev bk (cj R) kk (sq zaw 511) ⟨iA a::uS 1 (sA b::iA c::uS 1 (pA 6 b6::uS 5 (iA d::uS 3 (iA e::uS 136 [])))),nS 6 (oA b6 f::nS 146 [])⟩ (fk bk zaw none K)
def Xc(a b c d:Int)(e:ByteArray)(f:Bool)(g:aA):Option R:=ev bk (cj R) kk (sq zaw 4093) ⟨iA a::uS 2 (iA b::uS 1 (pA 6 b6::uS 5 (iA c::uS 3 (iA d::sA e::uS 97 (bA f::uS 37 []))))),nS 6 (oA b6 g::nS 146 [])⟩ (sk bk cj kk zaw 2047 (fk bk zaw none K))
def Xd(a b c:Int)(d:ByteArray)(e:aA):Option R:=ev bk (cj R) kk (sq zaw 32747) ⟨iA a::uS 2 (iA b::uS 1 (pA 6 b6::uS 9 (iA c::uS 1 (sA d::uS 134 [])))),nS 6 (oA b6 e::nS 146 [])⟩ (sk bk cj kk zaw 2047 (fk bk zaw none K))
def J3(a b c:Int)(d:ByteArray)(e:aA):Option R:=ev bk (cj R) kk (sq zaw 2047) ⟨iA a::uS 2 (iA b::uS 1 (pA 6 b6::uS 9 (iA c::sA d::uS 135 []))),nS 6 (oA b6 e::nS 146 [])⟩ (fk bk zaw none K)
def Xe(a b:Int)(c:ByteArray)(d:Bool)(e:aA):Option R:=ev bk (cj R) kk (sq zaw 8189) ⟨uS 3 (iA a::uS 1 (pA 6 b6::uS 9 (iA b::sA c::uS 115 (bA d::uS 19 [])))),nS 6 (oA b6 e::nS 146 [])⟩ (sk bk cj kk zaw 4095 (fk bk zaw none K))
def Xf(a b:Int)(c:ByteArray)(d:aA):Option R:=ev bk (cj R) kk (sq zaw 65515) ⟨uS 3 (iA a::uS 1 (pA 6 b6::uS 9 (iA b::uS 4 (sA c::uS 131 [])))),nS 6 (oA b6 d::nS 146 [])⟩ (sk bk cj kk zaw 4095 (fk bk zaw none K))
def J4(a b:Int)(c:ByteArray)(d:aA):Option R:=ev bk (cj R) kk (sq zaw 4095) ⟨uS 3 (iA a::uS 1 (pA 6 b6::uS 9 (iA b::sA c::uS 135 []))),nS 6 (oA b6 d::nS 146 [])⟩ (fk bk zaw none K)
def Xg(a b:Int)(c:ByteArray):Option R:=ev bk (cj R) kk (sq zaw 8191) ⟨uS 3 (iA a::uS 11 (iA b::sA c::uS 135 [])),nS 153 []⟩ (fk bk zaw none K)
theorem ao1 a b c d e:Yr R kk K a b c d e=
 BP a b c d e (λa0 a1 a2=>K [tS a0,tI a1,tI a2] none) (λa0 a1 a2 a3=>bq kk λ_=>Ys R kk K a0 a1 a2 a3):=by kernel_rfl
theorem ao2 a b c d:Ys R kk K a b c d=
 z116 a b c d (λa0 a1 a2=>K [tS a0,tI a1,tI a2] none) (λa0 a1 a2 a3 a4=>bq kk λ_=>Yt R kk K a0 a1 a2 a3 a4) (λa0 a1 a2 a3 a4=>bq kk λ_=>Ls R kk K a0 a1 a2 a3 a4):=by kernel_rfl
theorem ao3 a b c d e:Yt R kk K a b c d e=
 OV a b c d e (λa0 a1 a2 a3 a4 a5=>bq kk λ_=>Yu R kk K a0 a1 a2 a3 a4 a5):=by kernel_rfl
theorem ao4 a b c d e:Ls R kk K a b c d e=
 CG a b c d e (λa0 a1 a2 a3 a4 a5 a6=>bq kk λ_=>Yv R kk K a0 a1 a2 a3 a4 a5 a6):=by kernel_rfl
theorem ao5 a b c d e f:Yu R kk K a b c d e f=
 z117 a b c d e f (λa0 a1 a2=>K [tS a0,tI a1,tI a2] none) (λa0 a1 a2 a3 a4=>bq kk λ_=>Yw R kk K a0 a1 a2 a3 a4):=by kernel_rfl
theorem ao6 a b c d e f g:Yv R kk K a b c d e f g=
 CH a b c d e f g (λa0 a1 a2 a3 a4 a5=>bq kk λ_=>Yx R kk K a0 a1 a2 a3 a4 a5):=by kernel_rfl
theorem ao7 a b c d e:Yw R kk K a b c d e=
 BQ a b c d e (λa0 a1 a2 a3 a4=>bq kk λ_=>Ls R kk K a0 a1 a2 a3 a4):=by kernel_rfl
theorem ao8 a b c d e f:Yx R kk K a b c d e f=
 CI a b c d e f (λa0 a1 a2 a3 a4 a5 a6=>bq kk λ_=>Yy R kk K a0 a1 a2 a3 a4 a5 a6):=by kernel_rfl
theorem ao9 a b c d e f g:Yy R kk K a b c d e f g=
 CJ a b c d e f g (λa0 a1 a2 a3 a4 a5=>bq kk λ_=>Yz R kk K a0 a1 a2 a3 a4 a5):=by kernel_rfl
theorem apa a b c d e f:Yz R kk K a b c d e f=
 MA a b c d e f (λa0 a1 a2=>K [tS a0,tI a1,tI a2] none) (λa0 a1 a2 a3 a4 a5=>bq kk λ_=>Xb R kk K a0 a1 a2 a3 a4 a5):=by kernel_rfl
theorem alL a b c d e f:Xb R kk K a b c d e f=
 Cz a b c d e f (λa0 a1 a2 a3 a4 a5 a6=>bq kk λ_=>Xc R kk K a0 a1 a2 a3 a4 a5 a6):=by kernel_rfl
theorem alM a b c d e f g:Xc R kk K a b c d e f g=
 MB a b c d e f g (λa0 a1 a2=>K [tS a0,tI a1,tI a2] none) (λa0 a1 a2 a3 a4=>bq kk λ_=>Xd R kk K a0 a1 a2 a3 a4) (λa0 a1 a2 a3 a4=>bq kk λ_=>J3 R kk K a0 a1 a2 a3 a4):=by kernel_rfl
theorem alN a b c d e:Xd R kk K a b c d e=
 z85 a b c d e (λa0 a1 a2 a3 a4=>bq kk λ_=>J3 R kk K a0 a1 a2 a3 a4):=by kernel_rfl
theorem alO a b c d e:J3 R kk K a b c d e=
 CA a b c d e (λa0 a1 a2 a3 a4=>bq kk λ_=>Xe R kk K a0 a1 a2 a3 a4):=by kernel_rfl
theorem alP a b c d e:Xe R kk K a b c d e=
 MC a b c d e (λa0 a1 a2=>K [tS a0,tI a1,tI a2] none) (λa0 a1 a2 a3=>bq kk λ_=>Xf R kk K a0 a1 a2 a3) (λa0 a1 a2 a3=>bq kk λ_=>J4 R kk K a0 a1 a2 a3):=by kernel_rfl
theorem alQ a b c d:Xf R kk K a b c d=
 z87 a b c d (λa0 a1 a2 a3=>bq kk λ_=>J4 R kk K a0 a1 a2 a3):=by kernel_rfl
theorem alR a b c d:J4 R kk K a b c d=
 MD a b c d (λa0 a1 a2=>K [tS a0,tI a1,tI a2] none) (λa0 a1 a2=>bq kk λ_=>Xg R kk K a0 a1 a2):=by kernel_rfl
theorem alS a b c:Xg R kk K a b c=
 ME a b c (λa0 a1 a2=>K [tS a0,tI a1,tI a2] none):=by kernel_rfl
def rT:ai:=cj.add 138 [y1,b6,.str,y1] (AW y1 b6 .str y1 Nj lT)
theorem ab7:aL ee rT:=Fa bk (λR kk x0 x1 x2 x3 K=>OU x0 x1 x2 x3 (λa0 a1 a2 a3 a4=>bq kk λ_=>Yr R kk K a0 a1 a2 a3 a4)) ab6 (ei.join _) Tryz.func138 (λR kk e x0 x1 x2 x3 K=>by simp only[lT,Nj,adS,BP,z116,adT,adU,z117,adV,BQ,adW,adX,MA,adl,MB,z85,adn,MC,z87,MD,ME,Lt,BO,Lu,xJ,Lv,OQ,Lw,OR,OS,OT,Ok,Ol,Om,My,On,Oo,Mz,Oq,ao1,ao2,alL,alM,alN,alO,alP,alQ,alR,alS,ao3,ao4,ao5,ao6,ao7,ao8,ao9,apa,LL (hF:=e),av])
def zx2:Env:=bU.env (kp [(19,[1,2,4,5,6,9,10,12])]) (kp [(19,[1,4,5,6,10])]) [4,5] [aG,.str]
def znc(a:ByteArray)(b:(List Int))(c d:Int)(e:ah)(f:ag)(g:aH)(h:ag):Option R:=lq zx2 rT kk Tryz.f92 131060 k J ⟨uS 1 (sA a::pA 3 aG::uS 1 (pA 5 aP::pA 6 b8::pA 7 aP::uS 2 (dA y8 b::iA c::uS 1 (iA d::uS 124 [])))),nS 3 (oA aG e::nS 1 ((some ⟨aP,f,[[1]]⟩)::oA b8 g::(some ⟨aP,h,[[1]]⟩)::nS 130 []))⟩
def zh2(a:ByteArray)(b:Int)(c:ag)(d:aH)(e:ag):State:=⟨uS 1 (sA a::uS 2 (pA 5 aP::pA 6 b8::pA 7 aP::uS 3 (iA b::uS 126 []))),nS 5 ((some ⟨aP,c,[[1]]⟩)::oA b8 d::oA aP e::nS 130 [])⟩
def zh3(a:ByteArray)(b:Int)(c:ag)(d:aH)(e:ag):State:=⟨uS 1 (sA a::uS 2 (pA 5 aP::pA 6 b8::pA 7 aP::uS 3 (iA b::uS 126 []))),nS 5 ((some ⟨aP,c,[[1]]⟩)::oA b8 d::(some ⟨aP,e,[[1]]⟩)::nS 130 [])⟩
def Ho:KX R:=(zk 0 (sk zx2 rT kk Tryz.f92 16383 (fk zx2 Tryz.f92 none K)))
theorem anp a b c d e f g h:znc R kk (k+1) J a b c d e f g h=
 ZA a b c d e f g h (λa0 a1 a2 a3 a4=>J .ret (zh2 a0 a1 a2 a3 a4)) (znc R kk k J) (λa0 a1 a2 a3 a4=>J (.exit 0) (zh3 a0 a1 a2 a3 a4)):=by kernel_rfl
theorem afP a b c d e:Ho R kk K .ret (zh2 a b c d e)=
 Hp a b c d e (λa0 a1=>K [.aq aP a0 [[1]],.aq b8 a1 []] none):=by kernel_rfl
theorem afQ a b c d e:Ho R kk K (.exit 0) (zh3 a b c d e)=
 Hq a b c d e (λa0 a1=>K [.aq aP a0 [[1]],.aq b8 a1 []] none):=by kernel_rfl
theorem ajP{kk:Nat}(hF:kk=af) a b c d f g h i:znc R kk k J a b c d f g h i=(Fv k a b c d f g h i).bind λe=>(GB (λ(we:ki)=>J .ret (zh2 we.1 we.2.1 we.2.2.1 we.2.2.2.1 we.2.2.2.2)) (λ(we:ki)=>J (.exit 0) (zh3 we.1 we.2.1 we.2.2.1 we.2.2.2.1 we.2.2.2.2)) e):=by
 induction k generalizing a b c d f g h i with
 |zero=>rfl
 |succ k ih=>rw[anp];simp only[Fv,ZA,ih,av]
def rU:ai:=rT.add 92 [aG,.str] (cY aG .str sU ND)
theorem ab8:aL ee rU:=dc zx2 (λR kk x0 x1 K=>N2 x0 x1 (λa0 a1=>K [.aq aP a0 [[1]],.aq b8 a1 []] none) (λa0 a1 a2 a3 a4 a5 a6 a7=>znc R kk kk (Ho R kk K) a0 a1 a2 a3 a4 a5 a6 a7)) ab7 ei Tryz.func92 (λR kk e x0 x1 K=>by simp only[ND,sU,ade,Hp,Hq,ajP (hF:=e),afP,afQ,av,<-e])
def qE:Env:=bU.env (kp [(5,[0,1,6,7])]) (kp [(5,[0,6])]) [] [y1,y1]
def Ba(a b:Int)(c:ByteArray)(d:Int):Option R:=lq qE rU kk Tryz.f219 244 k J ⟨iA a::iA b::uS 4 (sA c::iA d::uS 28 []),nS 37 []⟩
def zuw(a:Int)(b:ByteArray):State:=⟨iA a::uS 5 (sA b::uS 29 []),nS 37 []⟩
def Yi:KX R:=(zk 0 (sk qE rU kk Tryz.f219 31 (fk qE Tryz.f219 none K)))
theorem aqN a b c d:Ba R kk (k+1) J a b c d=
 zk8 a b c d (Ba R kk k J) (λa0 a1=>J (.exit 0) (zuw a0 a1)):=by kernel_rfl
theorem alp a b:Yi R kk K (.exit 0) (zuw a b)=
 Bc a b (λa0 a1=>K [tS a0,tB a1] none):=by kernel_rfl
theorem aoJ{kk:Nat}(hF:kk=af) a b c d:Ba R kk k J a b c d=(MW k a b c d).bind λe=>J (.exit 0) (zuw e.1 e.2):=by
 induction k generalizing a b c d with
 |zero=>rfl
 |succ k ih=>rw[aqN];simp only[MW,zk8,ih,av]
def D6:ai:=rU.add 219 [y1,y1] (cY y1 y1 F1 dR)
theorem ab9:aL ee D6:=dc qE (λR kk x0 x1 K=>Bb x0 x1 (λa0 a1=>K [tS a0,tB a1] none) (Ba R kk kk (Yi R kk K))) ab8 ei Tryz.func219 (λR kk e x0 x1 K=>by simp only[dR,F1,Bb,Bc,aoJ (hF:=e),alp,av,<-e])
def rV:ai:=D6.add 190 [.str] (cO .str uU dE)
theorem aca:aL ee rV:=cP CE (λR kk x0 K=>zmv x0 (λa0=>K [tS a0] none)) ab9 ei Tryz.func190 (λR kk e x0 K=>by simp only[dE,uU,zmv,av])
def zwx:Env:=bU.env (kp [(2,[1,2,5])]) (kp [(2,[4])]) [] [aP,y1]
def zmz(a b:Int)(c:ag):Option R:=lq zwx rV kk Tryz.f191 52 k J ⟨uS 1 (iA a::pA 3 aP::uS 2 (iA b::uS 16 [])),nS 3 (oA aP c::nS 19 [])⟩
def zgw(a:Int):State:=⟨uS 4 (iA a::uS 17 []),nS 23 []⟩
def zgx:State:=⟨uS 22 [],nS 23 []⟩
def Hh:KX R:=(zk 0 (sk zwx rV kk Tryz.f191 7 (fk zwx Tryz.f191 none K)))
theorem ank a b c:zmz R kk (k+1) J a b c=
 zn1 a b c (λa0=>J .ret (zgw a0)) (zmz R kk k J) (J (.exit 0) (zgx)):=by kernel_rfl
theorem afJ a:Hh R kk K .ret (zgw a)=
 Hi a (λa0=>K [tI a0] none):=by kernel_rfl
theorem afK:Hh R kk K (.exit 0) (zgx)=
 Hj (λa0=>K [tI a0] none):=by kernel_rfl
theorem ajK{kk:Nat}(hF:kk=af) a b c:zmz R kk k J a b c=(Md k a b c).bind λe=>(GB (λ(we:Int)=>J .ret (zgw we)) (λ(we:Unit)=>J (.exit 0) (zgx)) e):=by
 induction k generalizing a b c with
 |zero=>rfl
 |succ k ih=>rw[ank];simp only[Md,zn1,ih,av]
def rW:ai:=rV.add 191 [aP,y1] (cY aP y1 uW bI)
theorem acb:aL ee rW:=dc zwx (λR kk x0 x1 K=>zn0 x0 x1 (zmz R kk kk (Hh R kk K))) aca ei Tryz.func191 (λR kk e x0 x1 K=>by simp only[bI,uW,zn0,Hi,Hj,ajK (hF:=e),afJ,afK,av,<-e])
def zx0:Env:=bU.env (kp [(3,[1,2,4,5,6])]) (kp [(3,[4,5])]) [4] [aP,y1]
def zn7(a b:Int)(c d e:ag):Option R:=lq zx0 rW kk Tryz.f220 116 k J ⟨uS 1 (iA a::pA 3 aP::uS 1 (pA 5 aP::pA 6 aP::iA b::uS 29 [])),nS 3 (oA aP c::nS 1 ((some ⟨aP,d,[[1]]⟩)::(some ⟨aP,e,[[1]]⟩)::nS 30 []))⟩
def zh0(a b:ag):State:=⟨uS 4 (pA 5 aP::pA 6 aP::uS 30 []),nS 5 ((some ⟨aP,a,[[1]]⟩)::(some ⟨aP,b,[[1]]⟩)::nS 30 [])⟩
def WC:KX R:=(zk 0 (sk zx0 rW kk Tryz.f220 15 (fk zx0 Tryz.f220 none K)))
theorem ann a b c d e:zn7 R kk (k+1) J a b c d e=
 Zy a b c d e (zn7 R kk k J) (λa0 a1=>J (.exit 0) (zh0 a0 a1)):=by kernel_rfl
theorem afN a b:WC R kk K (.exit 0) (zh0 a b)=
 Hm a b (λa0=>K [.aq aP a0 [[1]]] none):=by kernel_rfl
theorem ajN{kk:Nat}(hF:kk=af) a b c d f:zn7 R kk k J a b c d f=(Ct k a b c d f).bind λe=>J (.exit 0) (zh0 e.1 e.2):=by
 induction k generalizing a b c d f with
 |zero=>rfl
 |succ k ih=>rw[ann];simp only[Ct,Zy,ih,av]
def rX:ai:=rW.add 220 [aP,y1] (cY aP y1 uY tR)
theorem acd:aL ee rX:=dc zx0 (λR kk x0 x1 K=>zn8 x0 x1 (zn7 R kk kk (WC R kk K))) acb ei Tryz.func220 (λR kk e x0 x1 K=>by simp only[tR,uY,zn8,Hm,ajN (hF:=e),afN,av,<-e])
def zwz:Env:=bU.env (kp [(5,[1,2,6,7,8,9,10])]) (kp [(5,[1,2,6,7,9])]) [6] [aP,y1,.str]
def zn4(a:Int)(b:ByteArray)(c:Bool)(d:Int)(e f g:ag):Option R:=lq zwz rX kk Tryz.f192 500 k J ⟨uS 1 (iA a::sA b::uS 3 (pA 7 aP::pA 8 aP::pA 9 aP::bA c::iA d::uS 54 [])),nS 7 ((some ⟨aP,e,[[1]]⟩)::(some ⟨aP,f,[[1]]⟩)::(some ⟨aP,g,[[1]]⟩)::nS 56 [])⟩
def zgz(a:Int)(b:ByteArray)(c:Bool)(d e:ag):State:=⟨uS 1 (iA a::sA b::uS 3 (pA 7 aP::pA 8 aP::uS 1 (bA c::uS 55 []))),nS 7 ((some ⟨aP,d,[[1]]⟩)::(some ⟨aP,e,[[1]]⟩)::nS 57 [])⟩
def WB:KX R:=(zk 0 (sk zwz rX kk Tryz.f192 63 (fk zwz Tryz.f192 none K)))
theorem anm a b c d e f g:zn4 R kk (k+1) J a b c d e f g=
 Zx a b c d e f g (zn4 R kk k J) (λa0 a1 a2 a3 a4=>J (.exit 0) (zgz a0 a1 a2 a3 a4)):=by kernel_rfl
theorem afM a b c d e:WB R kk K (.exit 0) (zgz a b c d e)=
 zn6 a b c d e (λa0=>K [.aq aP a0 [[1]]] none):=by kernel_rfl
theorem ajM{kk:Nat}(hF:kk=af) a b c d f g h:zn4 R kk k J a b c d f g h=(Cr k a b c d f g h).bind λe=>J (.exit 0) (zgz e.1 e.2.1 e.2.2.1 e.2.2.2.1 e.2.2.2.2):=by
 induction k generalizing a b c d f g h with
 |zero=>rfl
 |succ k ih=>rw[anm];simp only[Cr,Zx,ih,av]
def D7:ai:=rX.add 192 [aP,y1,.str] (iF aP y1 .str sT tR)
theorem ace:aL ee D7:=iK zwz (λR kk x0 x1 x2 K=>zn5 x0 x1 x2 (zn4 R kk kk (WB R kk K))) acd ei Tryz.func192 (λR kk e x0 x1 x2 K=>by simp only[tR,sT,zn5,zn6,ajM (hF:=e),afM,av,<-e])
def rY:ai:=D7.add 193 [cu,y1] (cY cu y1 vi dE)
theorem acf:aL ee rY:=dc X6 (λR kk x0 x1 K=>zoq x0 x1 (λa0=>K [tS a0] none)) ace ei Tryz.func193 (λR kk e x0 x1 K=>by simp only[dE,vi,zoq,av])
def zxb:Env:=bU.env (kp [(5,[3,4,5,6,8,9])]) (kp [(5,[3,5,6,8])]) [6] [cu,aP,b8]
def zoi(a:Int)(b:ay)(c:ag)(d:aH)(e f:ag):Option R:=lq zxb rY kk Tryz.f139 244 k J ⟨uS 3 (pA 4 cu::pA 5 aP::pA 6 b8::pA 7 aP::uS 1 (pA 9 aP::iA a::uS 45 [])),nS 4 (oA cu b::oA aP c::oA b8 d::(some ⟨aP,e,[[1]]⟩)::nS 1 ((some ⟨aP,f,[[1]]⟩)::nS 46 []))⟩
def zht(a:ay)(b:aH)(c d:ag):State:=⟨uS 3 (pA 4 cu::uS 1 (pA 6 b8::pA 7 aP::uS 1 (pA 9 aP::uS 46 []))),nS 4 (oA cu a::nS 1 (oA b8 b::(some ⟨aP,c,[[1]]⟩)::nS 1 ((some ⟨aP,d,[[1]]⟩)::nS 46 [])))⟩
def WU:KX R:=(zk 0 (sk zxb rY kk Tryz.f139 31 (fk zxb Tryz.f139 none K)))
theorem anH a b c d e f:zoi R kk (k+1) J a b c d e f=
 ZR a b c d e f (zoi R kk k J) (λa0 a1 a2 a3=>J (.exit 0) (zht a0 a1 a2 a3)):=by kernel_rfl
theorem ago a b c d:WU R kk K (.exit 0) (zht a b c d)=
 zok a b c d (λa0 a1=>K [.aq aP a0 [[1]],tB a1] none):=by kernel_rfl
theorem akg{kk:Nat}(hF:kk=af) a b c d f g:zoi R kk k J a b c d f g=(Ml k a b c d f g).bind λe=>J (.exit 0) (zht e.1 e.2.1 e.2.2.1 e.2.2.2):=by
 induction k generalizing a b c d f g with
 |zero=>rfl
 |succ k ih=>rw[anH];simp only[Ml,ZR,ih,av]
def rZ:ai:=rY.add 139 [cu,aP,b8] (iF cu aP b8 vg (λ_ r K=>K [.aq aP r.1 [[1]],tB r.2] none))
theorem acg:aL ee rZ:=iK zxb (λR kk x0 x1 x2 K=>zoj x0 x1 x2 (λa0 a1=>K [.aq aP a0 [[1]],tB a1] none) (zoi R kk kk (WU R kk K))) acf ei Tryz.func139 (λR kk e x0 x1 x2 K=>by simp only[vg,zoj,zok,akg (hF:=e),ago,av,<-e])
def zwy:Env:=bU.env (kp [(3,[1,3,4])]) (kp [(3,[3])]) [] [aP]
def zn2(a:(List Int))(b:Int)(c:ag):Option R:=lq zwy rZ kk Tryz.f145 116 k J ⟨uS 1 (pA 2 aP::uS 1 (dB y8 a::iA b::uS 18 [])),nS 2 (oA aP c::nS 21 [])⟩
def zgy(a:(List Int)):State:=⟨uS 3 (dB y8 a::uS 19 []),nS 24 []⟩
def WA:KX R:=(zk 0 (sk zwy rZ kk Tryz.f145 15 (fk zwy Tryz.f145 none K)))
theorem anl a b c:zn2 R kk (k+1) J a b c=
 Hk a b c (zn2 R kk k J) (λa0=>J (.exit 0) (zgy a0)):=by kernel_rfl
theorem afL a:WA R kk K (.exit 0) (zgy a)=
 Hl a (λa0=>K [.aq y8 a0 []] none):=by kernel_rfl
theorem ajL{kk:Nat}(hF:kk=af) a b c:zn2 R kk k J a b c=(Zw k a b c).bind λe=>J (.exit 0) (zgy e):=by
 induction k generalizing a b c with
 |zero=>rfl
 |succ k ih=>rw[anl];simp only[Zw,Hk,ih,av]
def jL:ai:=rZ.add 145 [aP] (cO aP uX (λ_ r K=>K [.aq y8 r []] none))
theorem ach:aL ee jL:=cP zwy (λR kk x0 K=>zn3 x0 (zn2 R kk kk (WA R kk K))) acg ei Tryz.func145 (λR kk e x0 K=>by simp only[uX,zn3,Hl,ajL (hF:=e),afL,av,<-e])
def jK:Env:=bU.env (kp [(3,[0,1,5,6]),(7,[0,1,5,6,7,8])]) (kp [(3,[5]),(7,[0,1,5,6,7])]) [] [y8,y1]
def BA(a:(List Int))(b:Int)(c:(List Int))(d:Int):Option R:=lq jK jL kk zfL 116 k J ⟨dA y8 a::iA b::uS 3 (dB y7 c::iA d::uS 29 []),nS 37 []⟩
def zvd(a:(List Int)):State:=⟨uS 5 (dB y7 a::uS 30 []),nS 37 []⟩
def Yn:KX R:=(zk 0 (sk jK jL kk zfL 15 (fk jK zfL none K)))
def BB(a:(List Int))(b:Int)(c:(List Int))(d e f:Int):Option R:=lq jK jL kk zfL 29844 k J ⟨dA y8 a::iA b::uS 3 (dB y7 c::iA d::uA e::iA f::uS 27 []),nS 37 []⟩
def zve(a:(List Int))(b:Int)(c:(List Int))(d e:Int):State:=⟨dA y8 a::iA b::uS 3 (dB y7 c::iA d::uA e::uS 28 []),nS 37 []⟩
def Yo:KX R:=(zk 2 (sk jK jL kk zfL 3731 (zk 1 (sk jK jL kk zfL 467 (lk jK jL kk zfL 116 k J)))))
theorem aqY a b c d:BA R kk (k+1) J a b c d=
 zkh a b c d (BB R kk kk (Yo R kk k J)) (λa0=>J (.exit 0) (zvd a0)):=by kernel_rfl
theorem z201 a:Yn R kk K (.exit 0) (zvd a)=
 Lk a (λa0=>K [tS a0] none):=by kernel_rfl
theorem aqZ a b c d e f:BB R kk (k+1) J a b c d e f=
 zki a b c d e f (BB R kk k J) (λa0 a1 a2 a3 a4=>J (.exit 2) (zve a0 a1 a2 a3 a4)):=by kernel_rfl
theorem alH a b c d e:Yo R kk k J (.exit 2) (zve a b c d e)=
 BD a b c d e (BA R kk k J):=by kernel_rfl
theorem aoV{kk:Nat}(hF:kk=af) a b c d f g:BB R kk k J a b c d f g=(M5 k a b c d f g).bind λe=>J (.exit 2) (zve e.1 e.2.1 e.2.2.1 e.2.2.2.1 e.2.2.2.2):=by
 induction k generalizing a b c d f g with
 |zero=>rfl
 |succ k ih=>rw[aqZ];simp only[M5,zki,ih,av]
theorem aoU{kk:Nat}(hF:kk=af) a b c d:BA R kk k J a b c d=(M4 k a b c d).bind λe=>J (.exit 0) (zvd e):=by
 induction k generalizing a b c d with
 |zero=>rfl
 |succ k ih=>rw[aqY];simp only[M4,zkh,BD,ih,aoV (hF:=hF),alH,av,<-hF]
def sc:ai:=jL.add 195 [y8,y1] (cY y8 y1 xR dE)
theorem aci:aL ee sc:=dc jK (λR kk x0 x1 K=>BC x0 x1 (BA R kk kk (Yn R kk K))) ach ei Tryz.func195 (λR kk e x0 x1 K=>by simp only[dE,xR,BC,Lk,aoU (hF:=e),z201,av,<-e])
def Bf(a:ByteArray)(b:(List Int))(c:Int):Option R:=lq FE sc kk Tryz.f196 116 k J ⟨sA a::uS 2 (dB y7 b::iA c::uS 24 []),nS 30 []⟩
def zv0(a:(List Int)):State:=⟨uS 3 (dB y7 a::uS 25 []),nS 30 []⟩
def Yk:KX R:=(zk 0 (sk FE sc kk Tryz.f196 15 (fk FE Tryz.f196 none K)))
theorem aqQ a b c:Bf R kk (k+1) J a b c=
 zkb a b c (Bf R kk k J) (λa0=>J (.exit 0) (zv0 a0)):=by kernel_rfl
theorem alu a:Yk R kk K (.exit 0) (zv0 a)=
 K1 a (λa0=>K [tS a0] none):=by kernel_rfl
theorem aoM{kk:Nat}(hF:kk=af) a b c:Bf R kk k J a b c=(MZ k a b c).bind λe=>J (.exit 0) (zv0 e):=by
 induction k generalizing a b c with
 |zero=>rfl
 |succ k ih=>rw[aqQ];simp only[MZ,zkb,ih,av]
def sd:ai:=sc.add 196 [.str] (cO .str yM dE)
theorem acj:aL ee sd:=cP FE (λR kk x0 K=>Bg x0 (Bf R kk kk (Yk R kk K))) aci ei Tryz.func196 (λR kk e x0 K=>by simp only[dE,yM,Bg,K1,aoM (hF:=e),alu,av,<-e])
def qM:Env:=bU.env (kp [(5,[0,1,6,7])]) (kp [(5,[0,1,6])]) [] [y1,y8]
def Bz(a:Int)(b:(List Int))(c:Bool)(d:Int):Option R:=lq qM sd kk Tryz.f144 244 k J ⟨iA a::dA y8 b::uS 4 (bA c::iA d::uS 36 []),nS 45 []⟩
def zvc(a:Int)(b:(List Int))(c:Bool):State:=⟨iA a::dA y8 b::uS 4 (bA c::uS 37 []),nS 45 []⟩
def Ym:KX R:=(zk 0 (sk qM sd kk Tryz.f144 31 (fk qM Tryz.f144 none K)))
theorem aqX a b c d:Bz R kk (k+1) J a b c d=
 zkf a b c d (Bz R kk k J) (λa0 a1 a2=>J (.exit 0) (zvc a0 a1 a2)):=by kernel_rfl
theorem alG a b c:Ym R kk K (.exit 0) (zvc a b c)=
 zkg a b c (λa0 a1=>K [tS a0,tB a1] none):=by kernel_rfl
theorem aoT{kk:Nat}(hF:kk=af) a b c d:Bz R kk k J a b c d=(FH k a b c d).bind λe=>J (.exit 0) (zvc e.1 e.2.1 e.2.2):=by
 induction k generalizing a b c d with
 |zero=>rfl
 |succ k ih=>rw[aqX];simp only[FH,zkf,ih,av]
def se:ai:=sd.add 144 [y1,y8] (cY y1 y8 PD dR)
theorem ack:aL ee se:=dc qM (λR kk x0 x1 K=>OM x0 x1 (λa0 a1=>K [tS a0,tB a1] none) (λa0 a1 a2 a3=>Bz R kk kk (Ym R kk K) a0 a1 a2 a3)) acj ei Tryz.func144 (λR kk e x0 x1 K=>by simp only[dR,PD,adQ,zkg,aoT (hF:=e),alG,av,<-e])
def qH:Env:={bU.env (kp [(8,[0,4,5,6])]) (kp [(8,[4])]) [] [.str] with sp:=some (13,4,7,42)}
def Bl(a:ByteArray)(b:(List Int))(c d:Int):Option R:=lq qH se kk Tryz.f197 1012 k J ⟨sA a::uS 3 (dB y7 b::iA c::iA d::uS 52 []),nS 60 []⟩
def zv5(a:(List Int)):State:=⟨uS 4 (dB y7 a::uS 54 []),nS 60 []⟩
def Yl:KX R:=(zk 0 (sk qH se kk Tryz.f197 127 (fk qH Tryz.f197 none K)))
theorem aqT a b c d:Bl R kk (k+1) J a b c d=
 OL a b c d (Bl R kk k J) (λa0=>J (.exit 0) (zv5 a0)):=by kernel_rfl
theorem alz a:Yl R kk K (.exit 0) (zv5 a)=
 K9 a (λa0 a1=>K [tS a0,tB a1] none):=by kernel_rfl
theorem aoP{kk:Nat}(hF:kk=af) a b c d:Bl R kk k J a b c d=(CF k a b c d).bind λe=>J (.exit 0) (zv5 e):=by
 induction k generalizing a b c d with
 |zero=>rfl
 |succ k ih=>rw[aqT];simp only[CF,OL,ih,av]
def D8:ai:=se.add 197 [.str] (cO .str Da dR)
theorem acm:aL ee D8:=cP qH (λR kk x0 K=>OK x0 (λa0 a1=>K [tS a0,tB a1] none) (λa0 a1 a2 a3=>Bl R kk kk (Yl R kk K) a0 a1 a2 a3)) ack (ei.sp _) Tryz.func197 (λR kk e x0 K=>by simp only[dR,Da,adP,K9,aoP (hF:=e),alz,av,<-e])
def D9:ai:=D8.add 146 [y1,.str] (cY y1 .str uZ dE)
theorem acn:aL ee D9:=dc X8 (λR kk x0 x1 K=>znb x0 x1 (λa0=>K [tS a0] none)) acm ei Tryz.func146 (λR kk e x0 x1 K=>by simp only[dE,uZ,znb,av])
def Ea:ai:=D9.add 198 [y1,y1,y1] (iF y1 y1 y1 F3 ku)
theorem aco:aL ee Ea:=iK X4 (λR kk x0 x1 x2 K=>BJ x0 x1 x2 (λa0 a1=>K [tS a0,tI a1] none)) acn ei Tryz.func198 (λR kk e x0 x1 x2 K=>by simp only[ku,F3,BJ,av])
def PI:Env:=e0 [y1,y1,.str]
def Eb:ai:=Ea.add 199 [y1,y1,.str] (iF y1 y1 .str xU dE)
theorem acp:aL ee Eb:=iK PI (λR kk x0 x1 x2 K=>BR x0 x1 x2 (λa0=>K [tS a0] none)) aco ei Tryz.func199 (λR kk e x0 x1 x2 K=>by simp only[dE,xU,BR,av])
def sf:ai:=Eb.add 147 [y1,b6,.str] (iF y1 b6 .str F4 ku)
theorem acq:aL ee sf:=iK CW (λR kk x0 x1 x2 K=>z119 x0 x1 x2 (λa0 a1=>K [tS a0,tI a1] none)) acp ei Tryz.func147 (λR kk e x0 x1 x2 K=>by simp only[ku,F4,z119,av])
def zx1:Env:=bU.env (kp [(4,[2,3,7,8])]) (kp [(4,[7])]) [] [aG,aP]
def zn9(a:ByteArray)(b:Int)(c:ah)(d:ag):Option R:=lq zx1 sf kk Tryz.f95 244 k J ⟨uS 2 (pA 3 aG::pA 4 aP::uS 3 (sA a::iA b::uS 52 [])),nS 3 (oA aG c::oA aP d::nS 57 [])⟩
def zh1(a:ByteArray):State:=⟨uS 7 (sA a::uS 53 []),nS 62 []⟩
def WD:KX R:=(zk 0 (sk zx1 sf kk Tryz.f95 31 (fk zx1 Tryz.f95 none K)))
theorem ano a b c d:zn9 R kk (k+1) J a b c d=
 Zz a b c d (zn9 R kk k J) (λa0=>J (.exit 0) (zh1 a0)):=by kernel_rfl
theorem afO a:WD R kk K (.exit 0) (zh1 a)=
 Hn a (λa0=>K [tS a0] none):=by kernel_rfl
theorem ajO{kk:Nat}(hF:kk=af) a b c d:zn9 R kk k J a b c d=(Cu k a b c d).bind λe=>J (.exit 0) (zh1 e):=by
 induction k generalizing a b c d with
 |zero=>rfl
 |succ k ih=>rw[ano];simp only[Cu,Zz,ih,av]
def Ec:ai:=sf.add 95 [aG,aP] (cY aG aP oZ dE)
theorem acr:aL ee Ec:=dc zx1 (λR kk x0 x1 K=>zna x0 x1 (zn9 R kk kk (WD R kk K))) acq ei Tryz.func95 (λR kk e x0 x1 K=>by simp only[dE,oZ,zna,Hn,ajO (hF:=e),afO,av,<-e])
def aqf:Env:=e0 [cF,y1,aP,b8]
def Ed:ai:=Ec.add 93 [cF,y1,aP,b8] (AW cF y1 aP b8 lL n5)
theorem acs:aL ee Ed:=Fa aqf (λR kk x0 x1 x2 x3 K=>zp2 x0 x1 x2 x3 (λa0 a1=>K [tI a0,tS a1] none)) acr ei Tryz.func93 (λR kk e x0 x1 x2 x3 K=>by simp only[n5,lL,zp2,av])
def aqa:Env:=e0 [cp,aG,aG]
end
end Go.Proofs.YtpjkbbihjoflnaaGreatDoor

namespace Go.Proofs.YtpjkbbihjoflnaaGreatDoor
noncomputable section
open Go Go.Ref bz
variable (R:Type) (kk k:Nat) (K:KF R) (J:KX R)
def si:ai:=Ed.add 140 [cp,aG,aG] (iF cp aG aG ve bg)
theorem acu:aL ee si:=iK aqa (λR kk x0 x1 x2 K=>zo5 x0 x1 x2 (λa0=>K [tB a0] none)) acs ei Tryz.func140 (λR kk e x0 x1 x2 K=>by simp only[bg,ve,zo5,av])
def zww:Env:=bU.env (kp [(7,[2,3,4,5,6])]) (kp [(7,[4])]) [4] [aG,aP]
def zmx(a b:Int)(c:ah)(d:ag)(e:aH):Option R:=lq zww si kk Tryz.f141 500 k J ⟨uS 2 (pA 3 aG::pA 4 aP::pA 5 b8::iA a::iA b::uS 66 []),nS 3 (oA aG c::oA aP d::oA b8 e::nS 68 [])⟩
def zgu(a:aH):State:=⟨uS 4 (pA 5 b8::uS 68 []),nS 5 (oA b8 a::nS 68 [])⟩
def zgv(a:aH):State:=⟨uS 4 (pA 5 b8::uS 68 []),nS 5 (oA b8 a::nS 68 [])⟩
def He:KX R:=(zk 0 (sk zww si kk Tryz.f141 63 (fk zww Tryz.f141 none K)))
theorem anj a b c d e:zmx R kk (k+1) J a b c d e=
 Zv a b c d e (λa0=>J .ret (zgu a0)) (zmx R kk k J) (λa0=>J (.exit 0) (zgv a0)):=by kernel_rfl
theorem afH a:He R kk K .ret (zgu a)=
 Hf a (λa0=>K [.aq b8 a0 []] none):=by kernel_rfl
theorem afI a:He R kk K (.exit 0) (zgv a)=
 Hg a (λa0=>K [.aq b8 a0 []] none):=by kernel_rfl
theorem ajJ{kk:Nat}(hF:kk=af) a b c d f:zmx R kk k J a b c d f=(yk k a b c d f).bind λe=>(GB (λ(we:aH)=>J .ret (zgu we)) (λ(we:aH)=>J (.exit 0) (zgv we)) e):=by
 induction k generalizing a b c d f with
 |zero=>rfl
 |succ k ih=>rw[anj];simp only[yk,Zv,ih,av]
def sj:ai:=si.add 141 [aG,aP] (cY aG aP uV AJ)
theorem acv:aL ee sj:=dc zww (λR kk x0 x1 K=>zmy x0 x1 (λa0=>K [.aq b8 a0 []] none) (zmx R kk kk (He R kk K))) acu ei Tryz.func141 (λR kk e x0 x1 K=>by simp only[AJ,uV,zmy,Hf,Hg,ajJ (hF:=e),afH,afI,av,<-e])
def zxa:Env:=bU.env (kp [(2,[1,2,5])]) (kp [(2,[4])]) [] [cp,y1]
def zoe(a b:Int)(c:az):Option R:=lq zxa sj kk Tryz.f142 52 k J ⟨uS 1 (iA a::pA 3 cp::uS 2 (iA b::uS 16 [])),nS 3 (oA cp c::nS 19 [])⟩
def zhr(a:Int):State:=⟨uS 4 (iA a::uS 17 []),nS 23 []⟩
def zhs:State:=⟨uS 22 [],nS 23 []⟩
def z152:KX R:=(zk 0 (sk zxa sj kk Tryz.f142 7 (fk zxa Tryz.f142 none K)))
theorem anG a b c:zoe R kk (k+1) J a b c=
 H3 a b c (λa0=>J .ret (zhr a0)) (zoe R kk k J) (J (.exit 0) (zhs)):=by kernel_rfl
theorem agm a:z152 R kk K .ret (zhr a)=
 z154 a (λa0=>K [tI a0] none):=by kernel_rfl
theorem agn:z152 R kk K (.exit 0) (zhs)=
 H4 (λa0=>K [tI a0] none):=by kernel_rfl
theorem akf{kk:Nat}(hF:kk=af) a b c:zoe R kk k J a b c=(ZQ k a b c).bind λe=>(GB (λ(we:Int)=>J .ret (zhr we)) (λ(we:Unit)=>J (.exit 0) (zhs)) e):=by
 induction k generalizing a b c with
 |zero=>rfl
 |succ k ih=>rw[anG];simp only[ZQ,H3,ih,av]
def mc:ai:=sj.add 142 [cp,y1] (cY cp y1 nu bI)
theorem acw:aL ee mc:=dc zxa (λR kk x0 x1 K=>zof x0 x1 (zoe R kk kk (z152 R kk K))) acv ei Tryz.func142 (λR kk e x0 x1 K=>by simp only[bI,nu,zof,z154,H4,akf (hF:=e),agm,agn,av,<-e])
def kM:Env:=bU.env (kp [(3,[0,1]),(5,[0,1])]) (kp [(3,[0,1]),(5,[0,4,5])]) [] [.str,y1]
def zzt(a:ByteArray)(b:Int):Option R:=lq kM mc kk zgH 56 k J ⟨sA a::iA b::uS 41 [],nS 44 []⟩
def zut(a:ByteArray)(b:Int):State:=⟨sA a::iA b::uS 41 [],nS 44 []⟩
def Yh:KX R:=(zk 0 (sk kM mc kk zgH 15 (fk kM zgH none K)))
def zzu(a:ByteArray)(b:Int):Option R:=lq kM mc kk zgH 120 k J ⟨sA a::iA b::uS 41 [],nS 44 []⟩
def zuu(a b:ByteArray)(c:Bool):State:=⟨sA a::uS 3 (sA b::bA c::uS 37 []),nS 44 []⟩
def zuv(a:ByteArray):State:=⟨sA a::uS 42 [],nS 44 []⟩
def KV:KX R:=(zk 2 (sk kM mc kk zgH 31 (fk kM zgH none K)))
theorem aqL a b:zzt R kk (k+1) J a b=
 zzw a b (zzt R kk k J) (λa0 a1=>J (.exit 0) (zut a0 a1)):=by kernel_rfl
theorem alm a b:Yh R kk K (.exit 0) (zut a b)=
 zzx a b (zzu R kk kk (KV R kk K)):=by kernel_rfl
theorem aqM a b:zzu R kk (k+1) J a b=
 zzy a b (λa0 a1 a2=>J .ret (zuu a0 a1 a2)) (zzu R kk k J) (λa0=>J (.exit 2) (zuv a0)):=by kernel_rfl
theorem aln a b c:KV R kk K .ret (zuu a b c)=
 zzz a b c (λa0 a1=>K [tS a0,tB a1] none):=by kernel_rfl
theorem alo a:KV R kk K (.exit 2) (zuv a)=
 A9 a (λa0 a1=>K [tS a0,tB a1] none):=by kernel_rfl
theorem aoH{kk:Nat}(hF:kk=af) a b:zzt R kk k J a b=(OI k a b).bind λe=>J (.exit 0) (zut e.1 e.2):=by
 induction k generalizing a b with
 |zero=>rfl
 |succ k ih=>rw[aqL];simp only[OI,zzw,ih,av]
theorem aoI{kk:Nat}(hF:kk=af) a b:zzu R kk k J a b=(OJ k a b).bind λe=>(GB (λ(we:vZ)=>J .ret (zuu we.1 we.2.1 we.2.2)) (λ(we:ByteArray)=>J (.exit 2) (zuv we)) e):=by
 induction k generalizing a b with
 |zero=>rfl
 |succ k ih=>rw[aqM];simp only[OJ,zzy,ih,av]
def Ee:ai:=mc.add 194 [.str,y1] (cY .str y1 Pz dR)
theorem acx:aL ee Ee:=dc kM (λR kk x0 x1 K=>zzv x0 x1 (λa0 a1=>K [tS a0,tB a1] none) (zzt R kk kk (Yh R kk K))) acw ei Tryz.func194 (λR kk e x0 x1 K=>by simp only[dR,Pz,zzv,zzx,zzz,A9,aoH (hF:=e),aoI (hF:=e),alm,aln,alo,av,<-e])
def gE:ai:=Ee.add 143 [cV,aG,.str] (iF cV aG .str ns lf4)
theorem acy:aL ee gE:=iK X7 (λR kk x0 x1 x2 K=>znl x0 x1 x2 (λa0 a1=>K [.aq eD a0 [],tI a1] none)) acx ei Tryz.func143 (λR kk e x0 x1 x2 K=>by simp only[lf4,ns,znl,av])
def uk:Env:=bU.env (kp [(12,[4,6,7,8,9,10,12,14,15]),(22,[4,8,9,12,14,19]),(28,[8,9,14,20,21]),(31,[8,9,14,20,21,22])]) (kp [(12,[4,8,9,12,14]),(22,[8,9,12,14]),(28,[8,9,20]),(31,[8,9,14,20,21])]) [8,9] [cp,aG,aG,aP]
def zo6(a:ByteArray)(b:al)(c:Int)(d:az)(e:ah)(f g:ag)(h:aH)(i:ag):Option R:=lq uk gE kk zd1 4084 k J ⟨uS 4 (pA 5 cp::uS 1 (pA 7 aG::pA 8 aP::pA 9 aP::pA 10 b8::pA 11 aP::uS 1 (sA a::uS 1 (dB mD b::iA c::uS 152 [])))),nS 5 (oA cp d::nS 1 (oA aG e::oA aP f::(some ⟨aP,g,[[1]]⟩)::oA b8 h::(some ⟨aP,i,[[1]]⟩)::nS 157 []))⟩
def zhm(a:ByteArray)(b:al)(c:az)(d:ag)(e:aH):State:=⟨uS 4 (pA 5 cp::uS 3 (pA 9 aP::pA 10 b8::uS 2 (sA a::uS 1 (dB mD b::uS 153 [])))),nS 5 (oA cp c::nS 3 ((some ⟨aP,d,[[1]]⟩)::oA b8 e::nS 158 []))⟩
def zhn(a:ByteArray)(b:al)(c:az)(d:ag)(e:aH):State:=⟨uS 4 (pA 5 cp::uS 3 (pA 9 aP::pA 10 b8::uS 2 (sA a::uS 1 (dB mD b::uS 153 [])))),nS 5 (oA cp c::nS 3 ((some ⟨aP,d,[[1]]⟩)::oA b8 e::nS 158 []))⟩
def HZ:KX R:=(zk 0 (sk uk gE kk zd1 511 (fk uk zd1 none K)))
def zo7(a:ByteArray)(b:al)(c:Int)(d:az)(e:ag)(f:aH):Option R:=lq uk gE kk zd1 8180 k J ⟨uS 4 (pA 5 cp::uS 3 (pA 9 aP::pA 10 b8::uS 2 (sA a::uS 1 (dB mD b::uS 4 (iA c::uS 148 []))))),nS 5 (oA cp d::nS 3 ((some ⟨aP,e,[[1]]⟩)::oA b8 f::nS 158 []))⟩
def zho(a:ByteArray)(b:al)(c:ag)(d:aH):State:=⟨uS 8 (pA 9 aP::pA 10 b8::uS 2 (sA a::uS 1 (dB mD b::uS 153 []))),nS 9 ((some ⟨aP,c,[[1]]⟩)::oA b8 d::nS 158 [])⟩
def WR:KX R:=(zk 2 (sk uk gE kk zd1 1023 (fk uk zd1 none K)))
def zo8(a:al)(b:Int)(c:ag)(d:aH)(e:ag):Option R:=lq uk gE kk zd1 32756 k J ⟨uS 8 (pA 9 aP::pA 10 b8::uS 4 (dB mD a::uS 5 (pA 21 aP::iA b::uS 146 []))),nS 9 ((some ⟨aP,c,[[1]]⟩)::oA b8 d::nS 10 ((some ⟨aP,e,[[1]]⟩)::nS 147 []))⟩
def zhp(a:ag)(b:aH)(c:ag):State:=⟨uS 8 (pA 9 aP::pA 10 b8::uS 10 (pA 21 aP::uS 147 [])),nS 9 ((some ⟨aP,a,[[1]]⟩)::oA b8 b::nS 10 ((some ⟨aP,c,[[1]]⟩)::nS 147 []))⟩
def WS:KX R:=(zk 4 (sk uk gE kk zd1 4095 (fk uk zd1 none K)))
def zo9(a:al)(b c:Int)(d:ag)(e:aH)(f:ag):Option R:=lq uk gE kk zd1 2096420 k J ⟨uS 8 (pA 9 aP::pA 10 b8::uS 4 (dB mD a::uS 5 (pA 21 aP::iA b::iA c::uS 145 []))),nS 9 ((some ⟨aP,d,[[1]]⟩)::oA b8 e::nS 10 ((some ⟨aP,f,[[1]]⟩)::nS 147 []))⟩
def zhq(a:al)(b:Int)(c:ag)(d:aH)(e:ag):State:=⟨uS 8 (pA 9 aP::pA 10 b8::uS 4 (dB mD a::uS 5 (pA 21 aP::iA b::uS 146 []))),nS 9 ((some ⟨aP,c,[[1]]⟩)::oA b8 d::nS 10 ((some ⟨aP,e,[[1]]⟩)::nS 147 []))⟩
def WT:KX R:=(zk 6 (zk 5 (sk uk gE kk zd1 131027 (lk uk gE kk zd1 32756 k J))))
theorem anC a b c d e f g h i:zo6 R kk (k+1) J a b c d e f g h i=
 ZM a b c d e f g h i (λa0 a1 a2 a3 a4=>J .ret (zhm a0 a1 a2 a3 a4)) (zo6 R kk k J) (λa0 a1 a2 a3 a4=>J (.exit 0) (zhn a0 a1 a2 a3 a4)):=by kernel_rfl
theorem agh a b c d e:HZ R kk K .ret (zhm a b c d e)=
 H0 a b c d e (λa0 a1=>K [.aq aP a0 [[1]],.aq b8 a1 []] none):=by kernel_rfl
theorem agi a b c d e:HZ R kk K (.exit 0) (zhn a b c d e)=
 zob a b c d e (zo7 R kk kk (WR R kk K)):=by kernel_rfl
theorem anD a b c d e f:zo7 R kk (k+1) J a b c d e f=
 ZN a b c d e f (zo7 R kk k J) (λa0 a1 a2 a3=>J (.exit 2) (zho a0 a1 a2 a3)):=by kernel_rfl
theorem agj a b c d:WR R kk K (.exit 2) (zho a b c d)=
 zoc a b c d (zo8 R kk kk (WS R kk K)):=by kernel_rfl
theorem anE a b c d e:zo8 R kk (k+1) J a b c d e=
 ZO a b c d e (zo9 R kk kk (WT R kk k J)) (λa0 a1 a2=>J (.exit 4) (zhp a0 a1 a2)):=by kernel_rfl
theorem agk a b c:WS R kk K (.exit 4) (zhp a b c)=
 H2 a b c (λa0 a1=>K [.aq aP a0 [[1]],.aq b8 a1 []] none):=by kernel_rfl
theorem anF a b c d e f:zo9 R kk (k+1) J a b c d e f=
 ZP a b c d e f (zo9 R kk k J) (λa0 a1 a2 a3 a4=>J (.exit 6) (zhq a0 a1 a2 a3 a4)):=by kernel_rfl
theorem agl a b c d e:WT R kk k J (.exit 6) (zhq a b c d e)=
 zod a b c d e (zo8 R kk k J):=by kernel_rfl
theorem akb{kk:Nat}(hF:kk=af) a b c d f g h i j:zo6 R kk k J a b c d f g h i j=(Cx k a b c d f g h i j).bind λe=>(GB (λ(we:tv)=>J .ret (zhm we.1 we.2.1 we.2.2.1 we.2.2.2.1 we.2.2.2.2)) (λ(we:tv)=>J (.exit 0) (zhn we.1 we.2.1 we.2.2.1 we.2.2.2.1 we.2.2.2.2)) e):=by
 induction k generalizing a b c d f g h i j with
 |zero=>rfl
 |succ k ih=>rw[anC];simp only[Cx,ZM,ih,av]
theorem akc{kk:Nat}(hF:kk=af) a b c d f g:zo7 R kk k J a b c d f g=(Cy k a b c d f g).bind λe=>J (.exit 2) (zho e.1 e.2.1 e.2.2.1 e.2.2.2):=by
 induction k generalizing a b c d f g with
 |zero=>rfl
 |succ k ih=>rw[anD];simp only[Cy,ZN,ih,av]
theorem ake{kk:Nat}(hF:kk=af) a b c d f g:zo9 R kk k J a b c d f g=(ym k a b c d f g).bind λe=>J (.exit 6) (zhq e.1 e.2.1 e.2.2.1 e.2.2.2.1 e.2.2.2.2):=by
 induction k generalizing a b c d f g with
 |zero=>rfl
 |succ k ih=>rw[anF];simp only[ym,ZP,ih,av]
theorem akd{kk:Nat}(hF:kk=af) a b c d f:zo8 R kk k J a b c d f=(Mk k a b c d f).bind λe=>J (.exit 4) (zhp e.1 e.2.1 e.2.2):=by
 induction k generalizing a b c d f with
 |zero=>rfl
 |succ k ih=>rw[anE];simp only[Mk,ZO,zod,ih,ake (hF:=hF),agl,av,<-hF]
def Ef:ai:=gE.add 94 [cp,aG,aG,aP] (AW cp aG aG aP sY ND)
theorem acz:aL ee Ef:=Fa uk (λR kk x0 x1 x2 x3 K=>zoa x0 x1 x2 x3 (λa0 a1=>K [.aq aP a0 [[1]],.aq b8 a1 []] none) (zo6 R kk kk (HZ R kk K))) acy ei Tryz.func94 (λR kk e x0 x1 x2 x3 K=>by simp only[ND,sY,zoa,H0,zob,zoc,H2,akb (hF:=e),akc (hF:=e),akd (hF:=e),agh,agi,agj,agk,av,<-e])
def aqe:Env:=e0 [cF,y1,.str]
def Eg:ai:=Ef.add 65 [cF,y1,.str] (iF cF y1 .str vm n5)
theorem acA:aL ee Eg:=iK aqe (λR kk x0 x1 x2 K=>zp0 x0 x1 x2 (λa0 a1=>K [tI a0,tS a1] none)) acz ei Tryz.func65 (λR kk e x0 x1 x2 K=>by simp only[n5,vm,zp0,av])
def Eh:ai:=Eg.add 32 [.str] (cO .str pf dE)
theorem acB:aL ee Eh:=cP CE (λR kk x0 K=>zp7 x0 (λa0=>K [tS a0] none)) acA ei Tryz.func32 (λR kk e x0 K=>by simp only[dE,pf,zp7,av])
def aqh:Env:=bU.env (λ_=>[]) (λ_=>[]) [8] [.unit,cF,y1,.str]
def sm:ai:=Eh.add 47 [.unit,cF,y1,.str] (pb3 mE [] cF y1 .str s4 (λ_ r K=>K [.aq Hb r.1 []] (some ⟨mE,r.2,[]⟩)))
theorem acC:aL ee sm:=sb3 aqh (λR kk x0 x1 x2 x3 K=>zpk x0 x1 x2 x3 (λa0 a1=>K [.aq Hb a0 []] (some ⟨mE,a1,[]⟩))) acB ei Tryz.func47 (λR kk e x0 x1 x2 x3 K=>by simp only[s4,zpk,av])
def zxo:Env:={bU.env (kp [(7,[0,4,5,7,8,11,12])]) (kp [(7,[0,5,7,8,11])]) [] [.unit,cF,eD] with sh:=[36]}
def zpi(a:bP)(b:(List ByteArray))(c d:Int)(e:dt)(f:ax)(g:aT):Option R:=lq zxo sm kk Tryz.f22 1012 k J ⟨pA 0 mE::uS 3 (pA 5 cF::pA 6 eD::uS 1 (dB j7 a::dA y3 b::uS 2 (iA c::iA d::uS 100 []))),oA mE e::nS 4 (oA cF f::oA eD g::nS 107 [])⟩
def zif(a:bP)(b:(List ByteArray))(c:Int)(d:dt)(e:aT):State:=⟨pA 0 mE::uS 4 (pA 6 eD::uS 1 (dB j7 a::dA y3 b::uS 2 (iA c::uS 101 []))),oA mE d::nS 5 (oA eD e::nS 107 [])⟩
def WZ(a:dt):KX R:=(zk 0 (sk zxo sm kk Tryz.f22 127 (fk zxo Tryz.f22 (some ⟨mE,a,[]⟩) K)))
theorem anU a b c d e f g:zpi R kk (k+1) J a b c d e f g=
 IB a b c d e f g (zpi R kk k J) (λa0 a1 a2 a3 a4=>J (.exit 0) (zif a0 a1 a2 a3 a4)):=by kernel_rfl
theorem agJ a b c d e f:WZ R kk K a (.exit 0) (zif b c d e f)=
 Z0 b c d e f (λa0 a1=>K [.aq j7 a0 []] (some ⟨mE,a1,[]⟩)):=by kernel_rfl
theorem akt{kk:Nat}(hF:kk=af) a b c d f g h:zpi R kk k J a b c d f g h=(Fx k a b c d f g h).bind λe=>J (.exit 0) (zif e.1 e.2.1 e.2.2.1 e.2.2.2.1 e.2.2.2.2):=by
 induction k generalizing a b c d f g h with
 |zero=>rfl
 |succ k ih=>rw[anU];simp only[Fx,IB,ih,av]
def sn:ai:=sm.add 22 [.unit,cF,eD] (pb2 mE [] cF eD pg (λ_ r K=>K [.aq j7 r.1 []] (some ⟨mE,r.2,[]⟩)))
theorem acD:aL ee sn:=sb2 zxo (λR kk x0 x1 x2 K=>zpj x0 x1 x2 (λa0 a1=>K [.aq j7 a0 []] (some ⟨mE,a1,[]⟩)) (zpi R kk kk (WZ R kk K x0))) acC (ei.sh _) Tryz.func22 (λR kk e x0 x1 x2 K=>by simp only[pg,zpj,Z0,akt (hF:=e),agJ,av,<-e])
def zxm:Env:=bU.env (kp [(4,[1,2,5,6,7,9])]) (kp [(4,[6])]) [] [cF,lF]
def zpc(a:al)(b:bP)(c:Int)(d:ax)(e:dt):Option R:=lq zxm sn kk Tryz.f24 244 k J ⟨uS 1 (dA lF a::pA 3 cF::uS 2 (pA 10 mE::dB j7 b::iA c::uS 1 (pA 10 mE::uS 17 []))),nS 3 (oA cF d::nS 6 (oA mE e::nS 17 []))⟩
def zic(a:bP):State:=⟨uS 6 (dB j7 a::uS 20 []),nS 28 []⟩
def WY:KX R:=(zk 0 (sk zxm sn kk Tryz.f24 31 (fk zxm Tryz.f24 none K)))
theorem anS a b c d e:zpc R kk (k+1) J a b c d e=
 Iz a b c d e (zpc R kk k J) (λa0=>J (.exit 0) (zic a0)):=by kernel_rfl
theorem agG a:WY R kk K (.exit 0) (zic a)=
 z160 a (λa0=>K [.aq j7 a0 []] none):=by kernel_rfl
theorem akr{kk:Nat}(hF:kk=af) a b c d f:zpc R kk k J a b c d f=(ZY k a b c d f).bind λe=>J (.exit 0) (zic e):=by
 induction k generalizing a b c d f with
 |zero=>rfl
 |succ k ih=>rw[anS];simp only[ZY,Iz,ih,av]
def sr:ai:=sn.add 24 [cF,lF] (cY cF lF vp (λ_ r K=>K [.aq j7 r []] none))
theorem acE:aL ee sr:=dc zxm (λR kk x0 x1 K=>zpd x0 x1 (zpc R kk kk (WY R kk K))) acD ei Tryz.func24 (λR kk e x0 x1 K=>by simp only[vp,zpd,z160,akr (hF:=e),agG,av,<-e])
def qz:Env:=bU.env (kp [(6,[1,2,5,7,15,39,40,41,42])]) (kp [(6,[1,2,4])]) [] [cF,lF]
def zzi(a:al)(b:Bool)(c:al)(d e:Int)(f:ax)(g:(ax×(Option ar×Option ar)×Int))(h:dt):Option R:=lq qz sr kk Tryz.f4 500 k J ⟨uS 1 (dA lF a::pA 3 cF::uS 2 (pA 16 fL::uS 1 (pA 40 mE::uS 7 ([.ptr 16 fL [],tB b]::uS 23 (pA 40 mE::dA lF c::iA d::iA e::uS 58 []))))),nS 3 (oA cF f::nS 12 ((some ⟨fL,g,[[],[0],[0,2],[1],[1,2]]⟩)::nS 23 (oA mE h::nS 61 [])))⟩
def zuo(a:al)(b:Bool)(c:ax):State:=⟨uS 1 (dA lF a::pA 3 cF::uS 1 (bA b::uS 96 [])),nS 3 (oA cF c::nS 98 [])⟩
def zup(a:al)(b:ax):State:=⟨uS 1 (dA lF a::pA 3 cF::uS 98 []),nS 3 (oA cF b::nS 98 [])⟩
def KO:KX R:=(zk 0 (sk qz sr kk Tryz.f4 63 (fk qz Tryz.f4 none K)))
theorem aqI a b c d e f g h:zzi R kk (k+1) J a b c d e f g h=
 zk7 a b c d e f g h (λa0 a1 a2=>J .ret (zuo a0 a1 a2)) (zzi R kk k J) (λa0 a1=>J (.exit 0) (zup a0 a1)):=by kernel_rfl
theorem alg a b c:KO R kk K .ret (zuo a b c)=
 KP a b c (λa0=>K [tB a0] none):=by kernel_rfl
theorem alh a b:KO R kk K (.exit 0) (zup a b)=
 zzk a b (λa0=>K [tB a0] none):=by kernel_rfl
theorem aoE{kk:Nat}(hF:kk=af) a b c d f g h i:zzi R kk k J a b c d f g h i=(MV k a b c d f g h i).bind λe=>(GB (λ(we:(al×Bool×ax))=>J .ret (zuo we.1 we.2.1 we.2.2)) (λ(we:(al×ax))=>J (.exit 0) (zup we.1 we.2)) e):=by
 induction k generalizing a b c d f g h i with
 |zero=>rfl
 |succ k ih=>rw[aqI];simp only[MV,zk7,ih,av]
def Ei:ai:=sr.add 4 [cF,lF] (cY cF lF Pw bg)
theorem acF:aL ee Ei:=dc qz (λR kk x0 x1 K=>zzj x0 x1 (λa0=>K [tB a0] none) (zzi R kk kk (KO R kk K))) acE ei Tryz.func4 (λR kk e x0 x1 K=>by simp only[bg,Pw,zzj,KP,zzk,aoE (hF:=e),alg,alh,av,<-e])
end
end Go.Proofs.YtpjkbbihjoflnaaGreatDoor

