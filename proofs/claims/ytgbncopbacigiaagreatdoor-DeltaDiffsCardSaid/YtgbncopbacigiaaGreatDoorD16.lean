/-
  Texts of one proof, packed.
-/
import Derived.Test.YtgbncopbacigiaaGreatDoorD14
import Derived.Test.YtgbncopbacigiaaGreatDoorD15
set_option linter.all false
set_option maxRecDepth 100000
set_option maxHeartbeats 4000000
open List renaming length_map→X10,length_append→X11,length_drop→X17,length_take→X18,length_replicate→X20,length_set→X21
open Option renaming getD→Xde
open Int renaming toNat→Xi,fdiv→Xcd
open List renaming take→Xaq,drop→Xat,replicate→Xb6,cons→Xbj,toArray→Xcq
open BitVec renaming ofInt→Wv
open Go renaming reachBytes→Xak,maxLen→Xbl
open ByteArray renaming empty→Xaj,mk→Xcp
section
namespace Go.AX.Q29
open Go Go.AX
def Y3:O (Int×Int):=[(1,64),(2,64),(3,64),(4,128),(5,64),(8,192),(32,192),(35,192)]
structure oX where
  L:List Int
  At:Int
def oX.cW (x:oX):D:=.agg [D.l 1 D.i x.L,D.i x.At]
def oX.av (x:oX):O AV:=[.d (D.l 1 D.i x.L),.d (D.i x.At)]
def oX.zv:O AV:=[.d (D.nil 1),.d (D.i 0)]
def oX.wf (x:oX):Prop:=(x.L.length<=Xbl/\x.L.length*8<=Xak/\∀y0∈x.L,sL y0)/\sL x.At/\True
structure Addr where
  V6:Bool
  Hi:UInt64
  Lo:UInt64
def Addr.cW (x:Addr):D:=.agg [D.b x.V6,D.u64 x.Hi,D.u64 x.Lo]
def Addr.av (x:Addr):O AV:=[.d (D.b x.V6),.d (D.u64 x.Hi),.d (D.u64 x.Lo)]
def Addr.zv:O AV:=[.d (D.b false),.d (D.u64 (0:j)),.d (D.u64 (0:j))]
def Addr.wf (x:Addr):Prop:=True/\True/\True/\True
def Addr.rO (x y:Addr):I:=((x.V6==y.V6)&&(((x.Hi.toNat:Int)==(y.Hi.toNat:Int))&&(((x.Lo.toNat:Int)==(y.Lo.toNat:Int))&&true)))
structure fv where
  Addr:Addr
  rL:Int
def fv.cW (x:fv):D:=.agg [D.b x.Addr.V6,D.u64 x.Addr.Hi,D.u64 x.Addr.Lo,D.i x.rL]
def fv.av (x:fv):O AV:=[.d (D.b x.Addr.V6),.d (D.u64 x.Addr.Hi),.d (D.u64 x.Addr.Lo),.d (D.i x.rL)]
def fv.zv:O AV:=[.d (D.b false),.d (D.u64 (0:j)),.d (D.u64 (0:j)),.d (D.i 0)]
def fv.wf (x:fv):Prop:=Addr.wf x.Addr/\sL x.rL/\True
def fv.rO (x y:fv):I:=(((x.Addr.V6==y.Addr.V6)&&(((x.Addr.Hi.toNat:Int)==(y.Addr.Hi.toNat:Int))&&(((x.Addr.Lo.toNat:Int)==(y.Addr.Lo.toNat:Int))&&true)))&&((x.rL==y.rL)&&true))
structure s8 where
  rT:Int
  To:Int
def s8.cW (x:s8):D:=.agg [D.i x.rT,D.i x.To]
def s8.av (x:s8):O AV:=[.d (D.i x.rT),.d (D.i x.To)]
def s8.zv:O AV:=[.d (D.i 0),.d (D.i 0)]
def s8.wf (x:s8):Prop:=sL x.rT/\sL x.To/\True
def s8.rO (x y:s8):I:=((x.rT==y.rT)&&((x.To==y.To)&&true))
structure Set where
  Name:ByteArray
  n7:List Int
  oT:List ByteArray
def Set.cW (x:Set):D:=.agg [D.s x.Name,D.l 1 D.i x.n7,D.l 1 D.s x.oT]
def Set.av (x:Set):O AV:=[.d (D.s x.Name),.d (D.l 1 D.i x.n7),.d (D.l 1 D.s x.oT)]
def Set.zv:O AV:=[.d (D.s Xaj),.d (D.nil 1),.d (D.nil 1)]
def Set.wf (x:Set):Prop:=(x.Name.size<=Xbl/\x.Name.size<=Xak)/\(x.n7.length<=Xbl/\x.n7.length*8<=Xak/\∀y0∈x.n7,sL y0)/\(x.oT.length<=Xbl/\x.oT.length*16<=Xak/\∀y0∈x.oT,(y0.size<=Xbl/\y0.size<=Xak))/\True
structure oB where
  fv:fv
  Max:Int
  r4:Int
def oB.cW (x:oB):D:=.agg [D.b x.fv.Addr.V6,D.u64 x.fv.Addr.Hi,D.u64 x.fv.Addr.Lo,D.i x.fv.rL,D.i x.Max,D.i x.r4]
def oB.av (x:oB):O AV:=[.d (D.b x.fv.Addr.V6),.d (D.u64 x.fv.Addr.Hi),.d (D.u64 x.fv.Addr.Lo),.d (D.i x.fv.rL),.d (D.i x.Max),.d (D.i x.r4)]
def oB.zv:O AV:=[.d (D.b false),.d (D.u64 (0:j)),.d (D.u64 (0:j)),.d (D.i 0),.d (D.i 0),.d (D.i 0)]
def oB.wf (x:oB):Prop:=fv.wf x.fv/\sL x.Max/\sL x.r4/\True
def oB.rO (x y:oB):I:=((((x.fv.Addr.V6==y.fv.Addr.V6)&&(((x.fv.Addr.Hi.toNat:Int)==(y.fv.Addr.Hi.toNat:Int))&&(((x.fv.Addr.Lo.toNat:Int)==(y.fv.Addr.Lo.toNat:Int))&&true)))&&((x.fv.rL==y.fv.rL)&&true))&&((x.Max==y.Max)&&((x.r4==y.r4)&&true)))
structure ry where
  oT:List Set
  n5:List oB
def ry.cW (x:ry):D:=.agg [D.l 3 Set.cW x.oT,D.l 6 oB.cW x.n5]
def ry.av (x:ry):O AV:=[.d (D.l 3 Set.cW x.oT),.d (D.l 6 oB.cW x.n5)]
def ry.zv:O AV:=[.d (D.nil 3),.d (D.nil 6)]
def ry.wf (x:ry):Prop:=(x.oT.length<=Xbl/\x.oT.length*64<=Xak/\∀y0∈x.oT,Set.wf y0)/\(x.n5.length<=Xbl/\x.n5.length*48<=Xak/\∀y0∈x.n5,oB.wf y0)/\True
structure mu where
  sK:Int
  rU:List fv
  sq:Int
  rj:Int
  sl:Int
  ri:Int
  rR:Int
  rS:Int
  r7:List fv
  oE:List s8
  rI:List Int
  rV:Int
  ry:ry
  n9:List oB
def mu.cW (x:mu):D:=.agg [D.i x.sK,D.l 4 fv.cW x.rU,D.i x.sq,D.i x.rj,D.i x.sl,D.i x.ri,D.i x.rR,D.i x.rS,D.l 4 fv.cW x.r7,D.l 2 s8.cW x.oE,D.l 1 D.i x.rI,D.i x.rV,D.l 3 Set.cW x.ry.oT,D.l 6 oB.cW x.ry.n5,D.l 6 oB.cW x.n9]
def mu.av (x:mu):O AV:=[.d (D.i x.sK),.d (D.l 4 fv.cW x.rU),.d (D.i x.sq),.d (D.i x.rj),.d (D.i x.sl),.d (D.i x.ri),.d (D.i x.rR),.d (D.i x.rS),.d (D.l 4 fv.cW x.r7),.d (D.l 2 s8.cW x.oE),.d (D.l 1 D.i x.rI),.d (D.i x.rV),.d (D.l 3 Set.cW x.ry.oT),.d (D.l 6 oB.cW x.ry.n5),.d (D.l 6 oB.cW x.n9)]
def mu.zv:O AV:=[.d (D.i 0),.d (D.nil 4),.d (D.i 0),.d (D.i 0),.d (D.i 0),.d (D.i 0),.d (D.i 0),.d (D.i 0),.d (D.nil 4),.d (D.nil 2),.d (D.nil 1),.d (D.i 0),.d (D.nil 3),.d (D.nil 6),.d (D.nil 6)]
def mu.wf (x:mu):Prop:=sL x.sK/\(x.rU.length<=Xbl/\x.rU.length*32<=Xak/\∀y0∈x.rU,fv.wf y0)/\sL x.sq/\sL x.rj/\sL x.sl/\sL x.ri/\sL x.rR/\sL x.rS/\(x.r7.length<=Xbl/\x.r7.length*32<=Xak/\∀y0∈x.r7,fv.wf y0)/\(x.oE.length<=Xbl/\x.oE.length*16<=Xak/\∀y0∈x.oE,s8.wf y0)/\(x.rI.length<=Xbl/\x.rI.length*8<=Xak/\∀y0∈x.rI,sL y0)/\sL x.rV/\ry.wf x.ry/\(x.n9.length<=Xbl/\x.n9.length*48<=Xak/\∀y0∈x.n9,oB.wf y0)/\True
structure sr where
  r4:Int
  Value:Int
def sr.cW (x:sr):D:=.agg [D.i x.r4,D.i x.Value]
def sr.av (x:sr):O AV:=[.d (D.i x.r4),.d (D.i x.Value)]
def sr.zv:O AV:=[.d (D.i 0),.d (D.i 0)]
def sr.wf (x:sr):Prop:=sL x.r4/\sL x.Value/\True
def sr.rO (x y:sr):I:=((x.r4==y.r4)&&((x.Value==y.Value)&&true))
structure r5 where
  r4:Int
  wI:Bool
  wW:Bool
  uk:Bool
  rV:Int
  ta:List Int
  sr:List sr
def r5.cW (x:r5):D:=.agg [D.i x.r4,D.b x.wI,D.b x.wW,D.b x.uk,D.i x.rV,D.l 1 D.i x.ta,D.l 2 sr.cW x.sr]
def r5.av (x:r5):O AV:=[.d (D.i x.r4),.d (D.b x.wI),.d (D.b x.wW),.d (D.b x.uk),.d (D.i x.rV),.d (D.l 1 D.i x.ta),.d (D.l 2 sr.cW x.sr)]
def r5.zv:O AV:=[.d (D.i 0),.d (D.b false),.d (D.b false),.d (D.b false),.d (D.i 0),.d (D.nil 1),.d (D.nil 2)]
def r5.wf (x:r5):Prop:=sL x.r4/\True/\True/\True/\sL x.rV/\(x.ta.length<=Xbl/\x.ta.length*8<=Xak/\∀y0∈x.ta,sL y0)/\(x.sr.length<=Xbl/\x.sr.length*16<=Xak/\∀y0∈x.sr,sr.wf y0)/\True
structure r6 where
  r4:Int
  Set:ByteArray
  rj:Int
  ri:Int
  rz:List Addr
def r6.cW (x:r6):D:=.agg [D.i x.r4,D.s x.Set,D.i x.rj,D.i x.ri,D.l 3 Addr.cW x.rz]
def r6.av (x:r6):O AV:=[.d (D.i x.r4),.d (D.s x.Set),.d (D.i x.rj),.d (D.i x.ri),.d (D.l 3 Addr.cW x.rz)]
def r6.zv:O AV:=[.d (D.i 0),.d (D.s Xaj),.d (D.i 0),.d (D.i 0),.d (D.nil 3)]
def r6.wf (x:r6):Prop:=sL x.r4/\(x.Set.size<=Xbl/\x.Set.size<=Xak)/\sL x.rj/\sL x.ri/\(x.rz.length<=Xbl/\x.rz.length*24<=Xak/\∀y0∈x.rz,Addr.wf y0)/\True
structure oF where
  Set:Bool
  n7:List Int
def oF.cW (x:oF):D:=.agg [D.b x.Set,D.l 1 D.i x.n7]
def oF.av (x:oF):O AV:=[.d (D.b x.Set),.d (D.l 1 D.i x.n7)]
def oF.zv:O AV:=[.d (D.b false),.d (D.nil 1)]
def oF.wf (x:oF):Prop:=True/\(x.n7.length<=Xbl/\x.n7.length*8<=Xak/\∀y0∈x.n7,sL y0)/\True
structure r8 where
  A:Int
  B:Int
def r8.cW (x:r8):D:=.agg [D.i x.A,D.i x.B]
def r8.av (x:r8):O AV:=[.d (D.i x.A),.d (D.i x.B)]
def r8.zv:O AV:=[.d (D.i 0),.d (D.i 0)]
def r8.wf (x:r8):Prop:=sL x.A/\sL x.B/\True
def r8.rO (x y:r8):I:=((x.A==y.A)&&((x.B==y.B)&&true))
structure n8 where
  A:Int
  B:Int
  C:Int
def n8.cW (x:n8):D:=.agg [D.i x.A,D.i x.B,D.i x.C]
def n8.av (x:n8):O AV:=[.d (D.i x.A),.d (D.i x.B),.d (D.i x.C)]
def n8.zv:O AV:=[.d (D.i 0),.d (D.i 0),.d (D.i 0)]
def n8.wf (x:n8):Prop:=sL x.A/\sL x.B/\sL x.C/\True
def n8.rO (x y:n8):I:=((x.A==y.A)&&((x.B==y.B)&&((x.C==y.C)&&true)))
structure kI where
  Flags:Int
  oA:Int
  Data:List UInt8
def kI.cW (x:kI):D:=.agg [D.i x.Flags,D.i x.oA,D.l 1 D.u8 x.Data]
def kI.av (x:kI):O AV:=[.d (D.i x.Flags),.d (D.i x.oA),.d (D.l 1 D.u8 x.Data)]
def kI.zv:O AV:=[.d (D.i 0),.d (D.i 0),.d (D.nil 1)]
def kI.wf (x:kI):Prop:=sL x.Flags/\sL x.oA/\(x.Data.length<=Xbl/\x.Data.length*1<=Xak/\∀y0∈x.Data,True)/\True
structure gH where
  gS:Int
  Path:List oF
  Next:Addr
  sd:Int
  rh:Int
  rX:Int
  fT:List r8
  n8:List n8
  lf:List kI
def gH.cW (x:gH):D:=.agg [D.i x.gS,D.l 2 oF.cW x.Path,D.b x.Next.V6,D.u64 x.Next.Hi,D.u64 x.Next.Lo,D.i x.sd,D.i x.rh,D.i x.rX,D.l 2 r8.cW x.fT,D.l 3 n8.cW x.n8,D.l 3 kI.cW x.lf]
def gH.av (x:gH):O AV:=[.d (D.i x.gS),.d (D.l 2 oF.cW x.Path),.d (D.b x.Next.V6),.d (D.u64 x.Next.Hi),.d (D.u64 x.Next.Lo),.d (D.i x.sd),.d (D.i x.rh),.d (D.i x.rX),.d (D.l 2 r8.cW x.fT),.d (D.l 3 n8.cW x.n8),.d (D.l 3 kI.cW x.lf)]
def gH.zv:O AV:=[.d (D.i 0),.d (D.nil 2),.d (D.b false),.d (D.u64 (0:j)),.d (D.u64 (0:j)),.d (D.i 0),.d (D.i 0),.d (D.i 0),.d (D.nil 2),.d (D.nil 3),.d (D.nil 3)]
def gH.wf (x:gH):Prop:=sL x.gS/\(x.Path.length<=Xbl/\x.Path.length*32<=Xak/\∀y0∈x.Path,oF.wf y0)/\Addr.wf x.Next/\sL x.sd/\sL x.rh/\sL x.rX/\(x.fT.length<=Xbl/\x.fT.length*16<=Xak/\∀y0∈x.fT,r8.wf y0)/\(x.n8.length<=Xbl/\x.n8.length*24<=Xak/\∀y0∈x.n8,n8.wf y0)/\(x.lf.length<=Xbl/\x.lf.length*40<=Xak/\∀y0∈x.lf,kI.wf y0)/\True
structure gD where
  fv:fv
  rT:Int
  gH:gH
def gD.cW (x:gD):D:=.agg [D.b x.fv.Addr.V6,D.u64 x.fv.Addr.Hi,D.u64 x.fv.Addr.Lo,D.i x.fv.rL,D.i x.rT,D.i x.gH.gS,D.l 2 oF.cW x.gH.Path,D.b x.gH.Next.V6,D.u64 x.gH.Next.Hi,D.u64 x.gH.Next.Lo,D.i x.gH.sd,D.i x.gH.rh,D.i x.gH.rX,D.l 2 r8.cW x.gH.fT,D.l 3 n8.cW x.gH.n8,D.l 3 kI.cW x.gH.lf]
def gD.av (x:gD):O AV:=[.d (D.b x.fv.Addr.V6),.d (D.u64 x.fv.Addr.Hi),.d (D.u64 x.fv.Addr.Lo),.d (D.i x.fv.rL),.d (D.i x.rT),.d (D.i x.gH.gS),.d (D.l 2 oF.cW x.gH.Path),.d (D.b x.gH.Next.V6),.d (D.u64 x.gH.Next.Hi),.d (D.u64 x.gH.Next.Lo),.d (D.i x.gH.sd),.d (D.i x.gH.rh),.d (D.i x.gH.rX),.d (D.l 2 r8.cW x.gH.fT),.d (D.l 3 n8.cW x.gH.n8),.d (D.l 3 kI.cW x.gH.lf)]
def gD.zv:O AV:=[.d (D.b false),.d (D.u64 (0:j)),.d (D.u64 (0:j)),.d (D.i 0),.d (D.i 0),.d (D.i 0),.d (D.nil 2),.d (D.b false),.d (D.u64 (0:j)),.d (D.u64 (0:j)),.d (D.i 0),.d (D.i 0),.d (D.i 0),.d (D.nil 2),.d (D.nil 3),.d (D.nil 3)]
def gD.wf (x:gD):Prop:=fv.wf x.fv/\sL x.rT/\gH.wf x.gH/\True
structure gN where
  gD:gD
  sc:Int
  sb:Bool
def gN.cW (x:gN):D:=.agg [D.b x.gD.fv.Addr.V6,D.u64 x.gD.fv.Addr.Hi,D.u64 x.gD.fv.Addr.Lo,D.i x.gD.fv.rL,D.i x.gD.rT,D.i x.gD.gH.gS,D.l 2 oF.cW x.gD.gH.Path,D.b x.gD.gH.Next.V6,D.u64 x.gD.gH.Next.Hi,D.u64 x.gD.gH.Next.Lo,D.i x.gD.gH.sd,D.i x.gD.gH.rh,D.i x.gD.gH.rX,D.l 2 r8.cW x.gD.gH.fT,D.l 3 n8.cW x.gD.gH.n8,D.l 3 kI.cW x.gD.gH.lf,D.i x.sc,D.b x.sb]
def gN.av (x:gN):O AV:=[.d (D.b x.gD.fv.Addr.V6),.d (D.u64 x.gD.fv.Addr.Hi),.d (D.u64 x.gD.fv.Addr.Lo),.d (D.i x.gD.fv.rL),.d (D.i x.gD.rT),.d (D.i x.gD.gH.gS),.d (D.l 2 oF.cW x.gD.gH.Path),.d (D.b x.gD.gH.Next.V6),.d (D.u64 x.gD.gH.Next.Hi),.d (D.u64 x.gD.gH.Next.Lo),.d (D.i x.gD.gH.sd),.d (D.i x.gD.gH.rh),.d (D.i x.gD.gH.rX),.d (D.l 2 r8.cW x.gD.gH.fT),.d (D.l 3 n8.cW x.gD.gH.n8),.d (D.l 3 kI.cW x.gD.gH.lf),.d (D.i x.sc),.d (D.b x.sb)]
def gN.zv:O AV:=[.d (D.b false),.d (D.u64 (0:j)),.d (D.u64 (0:j)),.d (D.i 0),.d (D.i 0),.d (D.i 0),.d (D.nil 2),.d (D.b false),.d (D.u64 (0:j)),.d (D.u64 (0:j)),.d (D.i 0),.d (D.i 0),.d (D.i 0),.d (D.nil 2),.d (D.nil 3),.d (D.nil 3),.d (D.i 0),.d (D.b false)]
def gN.wf (x:gN):Prop:=gD.wf x.gD/\sL x.sc/\True/\True
structure pk where
  r6:r6
  Up:Bool
  gN:List gN
  ru:Int
def pk.cW (x:pk):D:=.agg [D.i x.r6.r4,D.s x.r6.Set,D.i x.r6.rj,D.i x.r6.ri,D.l 3 Addr.cW x.r6.rz,D.b x.Up,D.l 18 gN.cW x.gN,D.i x.ru]
def pk.av (x:pk):O AV:=[.d (D.i x.r6.r4),.d (D.s x.r6.Set),.d (D.i x.r6.rj),.d (D.i x.r6.ri),.d (D.l 3 Addr.cW x.r6.rz),.d (D.b x.Up),.d (D.l 18 gN.cW x.gN),.d (D.i x.ru)]
def pk.zv:O AV:=[.d (D.i 0),.d (D.s Xaj),.d (D.i 0),.d (D.i 0),.d (D.nil 3),.d (D.b false),.d (D.nil 18),.d (D.i 0)]
def pk.wf (x:pk):Prop:=r6.wf x.r6/\True/\(x.gN.length<=Xbl/\x.gN.length*208<=Xak/\∀y0∈x.gN,gN.wf y0)/\sL x.ru/\True
structure re where
  mu:mu
  fI:List r5
  o3:List pk
def re.cW (x:re):D:=.agg [D.i x.mu.sK,D.l 4 fv.cW x.mu.rU,D.i x.mu.sq,D.i x.mu.rj,D.i x.mu.sl,D.i x.mu.ri,D.i x.mu.rR,D.i x.mu.rS,D.l 4 fv.cW x.mu.r7,D.l 2 s8.cW x.mu.oE,D.l 1 D.i x.mu.rI,D.i x.mu.rV,D.l 3 Set.cW x.mu.ry.oT,D.l 6 oB.cW x.mu.ry.n5,D.l 6 oB.cW x.mu.n9,D.l 7 r5.cW x.fI,D.l 8 pk.cW x.o3]
def re.av (x:re):O AV:=[.d (D.i x.mu.sK),.d (D.l 4 fv.cW x.mu.rU),.d (D.i x.mu.sq),.d (D.i x.mu.rj),.d (D.i x.mu.sl),.d (D.i x.mu.ri),.d (D.i x.mu.rR),.d (D.i x.mu.rS),.d (D.l 4 fv.cW x.mu.r7),.d (D.l 2 s8.cW x.mu.oE),.d (D.l 1 D.i x.mu.rI),.d (D.i x.mu.rV),.d (D.l 3 Set.cW x.mu.ry.oT),.d (D.l 6 oB.cW x.mu.ry.n5),.d (D.l 6 oB.cW x.mu.n9),.d (D.l 7 r5.cW x.fI),.d (D.l 8 pk.cW x.o3)]
def re.zv:O AV:=[.d (D.i 0),.d (D.nil 4),.d (D.i 0),.d (D.i 0),.d (D.i 0),.d (D.i 0),.d (D.i 0),.d (D.i 0),.d (D.nil 4),.d (D.nil 2),.d (D.nil 1),.d (D.i 0),.d (D.nil 3),.d (D.nil 6),.d (D.nil 6),.d (D.nil 7),.d (D.nil 8)]
def re.wf (x:re):Prop:=mu.wf x.mu/\(x.fI.length<=Xbl/\x.fI.length*72<=Xak/\∀y0∈x.fI,r5.wf y0)/\(x.o3.length<=Xbl/\x.o3.length*104<=Xak/\∀y0∈x.o3,pk.wf y0)/\True
structure uU where
  e0:Int
  e1:Int
  e2:Int
  e3:Int
  e4:Int
def uU.cW (x:uU):D:=.agg [D.i x.e0,D.i x.e1,D.i x.e2,D.i x.e3,D.i x.e4]
def uU.av (x:uU):O AV:=[.d (D.i x.e0),.d (D.i x.e1),.d (D.i x.e2),.d (D.i x.e3),.d (D.i x.e4)]
def uU.zv:O AV:=[.d (D.i 0),.d (D.i 0),.d (D.i 0),.d (D.i 0),.d (D.i 0)]
def uU.wf (x:uU):Prop:=sL x.e0/\sL x.e1/\sL x.e2/\sL x.e3/\sL x.e4/\True
structure sM where
  re:re
  rQ:List (List gD)
def sM.cW (x:sM):D:=.agg [D.i x.re.mu.sK,D.l 4 fv.cW x.re.mu.rU,D.i x.re.mu.sq,D.i x.re.mu.rj,D.i x.re.mu.sl,D.i x.re.mu.ri,D.i x.re.mu.rR,D.i x.re.mu.rS,D.l 4 fv.cW x.re.mu.r7,D.l 2 s8.cW x.re.mu.oE,D.l 1 D.i x.re.mu.rI,D.i x.re.mu.rV,D.l 3 Set.cW x.re.mu.ry.oT,D.l 6 oB.cW x.re.mu.ry.n5,D.l 6 oB.cW x.re.mu.n9,D.l 7 r5.cW x.re.fI,D.l 8 pk.cW x.re.o3,D.l 1 (D.l 16 gD.cW) x.rQ]
def sM.av (x:sM):O AV:=[.d (D.i x.re.mu.sK),.d (D.l 4 fv.cW x.re.mu.rU),.d (D.i x.re.mu.sq),.d (D.i x.re.mu.rj),.d (D.i x.re.mu.sl),.d (D.i x.re.mu.ri),.d (D.i x.re.mu.rR),.d (D.i x.re.mu.rS),.d (D.l 4 fv.cW x.re.mu.r7),.d (D.l 2 s8.cW x.re.mu.oE),.d (D.l 1 D.i x.re.mu.rI),.d (D.i x.re.mu.rV),.d (D.l 3 Set.cW x.re.mu.ry.oT),.d (D.l 6 oB.cW x.re.mu.ry.n5),.d (D.l 6 oB.cW x.re.mu.n9),.d (D.l 7 r5.cW x.re.fI),.d (D.l 8 pk.cW x.re.o3),.d (D.l 1 (D.l 16 gD.cW) x.rQ)]
def sM.zv:O AV:=[.d (D.i 0),.d (D.nil 4),.d (D.i 0),.d (D.i 0),.d (D.i 0),.d (D.i 0),.d (D.i 0),.d (D.i 0),.d (D.nil 4),.d (D.nil 2),.d (D.nil 1),.d (D.i 0),.d (D.nil 3),.d (D.nil 6),.d (D.nil 6),.d (D.nil 7),.d (D.nil 8),.d (D.nil 1)]
def sM.wf (x:sM):Prop:=re.wf x.re/\(x.rQ.length<=Xbl/\x.rQ.length*24<=Xak/\∀y0∈x.rQ,(y0.length<=Xbl/\y0.length*192<=Xak/\∀y1∈y0,gD.wf y1))/\True
structure rZ where
  qv:List fv
  gH:gH
  gT:List fv
def rZ.cW (x:rZ):D:=.agg [D.l 4 fv.cW x.qv,D.i x.gH.gS,D.l 2 oF.cW x.gH.Path,D.b x.gH.Next.V6,D.u64 x.gH.Next.Hi,D.u64 x.gH.Next.Lo,D.i x.gH.sd,D.i x.gH.rh,D.i x.gH.rX,D.l 2 r8.cW x.gH.fT,D.l 3 n8.cW x.gH.n8,D.l 3 kI.cW x.gH.lf,D.l 4 fv.cW x.gT]
def rZ.av (x:rZ):O AV:=[.d (D.l 4 fv.cW x.qv),.d (D.i x.gH.gS),.d (D.l 2 oF.cW x.gH.Path),.d (D.b x.gH.Next.V6),.d (D.u64 x.gH.Next.Hi),.d (D.u64 x.gH.Next.Lo),.d (D.i x.gH.sd),.d (D.i x.gH.rh),.d (D.i x.gH.rX),.d (D.l 2 r8.cW x.gH.fT),.d (D.l 3 n8.cW x.gH.n8),.d (D.l 3 kI.cW x.gH.lf),.d (D.l 4 fv.cW x.gT)]
def rZ.zv:O AV:=[.d (D.nil 4),.d (D.i 0),.d (D.nil 2),.d (D.b false),.d (D.u64 (0:j)),.d (D.u64 (0:j)),.d (D.i 0),.d (D.i 0),.d (D.i 0),.d (D.nil 2),.d (D.nil 3),.d (D.nil 3),.d (D.nil 4)]
def rZ.wf (x:rZ):Prop:=(x.qv.length<=Xbl/\x.qv.length*32<=Xak/\∀y0∈x.qv,fv.wf y0)/\gH.wf x.gH/\(x.gT.length<=Xbl/\x.gT.length*32<=Xak/\∀y0∈x.gT,fv.wf y0)/\True
structure sX where
  Kind:Int
  sE:Int
  uC:Int
  tv:Int
  rZ:rZ
  r5:r5
def sX.cW (x:sX):D:=.agg [D.i x.Kind,D.i x.sE,D.i x.uC,D.i x.tv,D.l 4 fv.cW x.rZ.qv,D.i x.rZ.gH.gS,D.l 2 oF.cW x.rZ.gH.Path,D.b x.rZ.gH.Next.V6,D.u64 x.rZ.gH.Next.Hi,D.u64 x.rZ.gH.Next.Lo,D.i x.rZ.gH.sd,D.i x.rZ.gH.rh,D.i x.rZ.gH.rX,D.l 2 r8.cW x.rZ.gH.fT,D.l 3 n8.cW x.rZ.gH.n8,D.l 3 kI.cW x.rZ.gH.lf,D.l 4 fv.cW x.rZ.gT,D.i x.r5.r4,D.b x.r5.wI,D.b x.r5.wW,D.b x.r5.uk,D.i x.r5.rV,D.l 1 D.i x.r5.ta,D.l 2 sr.cW x.r5.sr]
def sX.av (x:sX):O AV:=[.d (D.i x.Kind),.d (D.i x.sE),.d (D.i x.uC),.d (D.i x.tv),.d (D.l 4 fv.cW x.rZ.qv),.d (D.i x.rZ.gH.gS),.d (D.l 2 oF.cW x.rZ.gH.Path),.d (D.b x.rZ.gH.Next.V6),.d (D.u64 x.rZ.gH.Next.Hi),.d (D.u64 x.rZ.gH.Next.Lo),.d (D.i x.rZ.gH.sd),.d (D.i x.rZ.gH.rh),.d (D.i x.rZ.gH.rX),.d (D.l 2 r8.cW x.rZ.gH.fT),.d (D.l 3 n8.cW x.rZ.gH.n8),.d (D.l 3 kI.cW x.rZ.gH.lf),.d (D.l 4 fv.cW x.rZ.gT),.d (D.i x.r5.r4),.d (D.b x.r5.wI),.d (D.b x.r5.wW),.d (D.b x.r5.uk),.d (D.i x.r5.rV),.d (D.l 1 D.i x.r5.ta),.d (D.l 2 sr.cW x.r5.sr)]
def sX.zv:O AV:=[.d (D.i 0),.d (D.i 0),.d (D.i 0),.d (D.i 0),.d (D.nil 4),.d (D.i 0),.d (D.nil 2),.d (D.b false),.d (D.u64 (0:j)),.d (D.u64 (0:j)),.d (D.i 0),.d (D.i 0),.d (D.i 0),.d (D.nil 2),.d (D.nil 3),.d (D.nil 3),.d (D.nil 4),.d (D.i 0),.d (D.b false),.d (D.b false),.d (D.b false),.d (D.i 0),.d (D.nil 1),.d (D.nil 2)]
def sX.wf (x:sX):Prop:=sL x.Kind/\sL x.sE/\sL x.uC/\sL x.tv/\rZ.wf x.rZ/\r5.wf x.r5/\True
structure rG where
  To:Int
  fv:fv
  Has:Bool
  gD:gD
def rG.cW (x:rG):D:=.agg [D.i x.To,D.b x.fv.Addr.V6,D.u64 x.fv.Addr.Hi,D.u64 x.fv.Addr.Lo,D.i x.fv.rL,D.b x.Has,D.b x.gD.fv.Addr.V6,D.u64 x.gD.fv.Addr.Hi,D.u64 x.gD.fv.Addr.Lo,D.i x.gD.fv.rL,D.i x.gD.rT,D.i x.gD.gH.gS,D.l 2 oF.cW x.gD.gH.Path,D.b x.gD.gH.Next.V6,D.u64 x.gD.gH.Next.Hi,D.u64 x.gD.gH.Next.Lo,D.i x.gD.gH.sd,D.i x.gD.gH.rh,D.i x.gD.gH.rX,D.l 2 r8.cW x.gD.gH.fT,D.l 3 n8.cW x.gD.gH.n8,D.l 3 kI.cW x.gD.gH.lf]
def rG.av (x:rG):O AV:=[.d (D.i x.To),.d (D.b x.fv.Addr.V6),.d (D.u64 x.fv.Addr.Hi),.d (D.u64 x.fv.Addr.Lo),.d (D.i x.fv.rL),.d (D.b x.Has),.d (D.b x.gD.fv.Addr.V6),.d (D.u64 x.gD.fv.Addr.Hi),.d (D.u64 x.gD.fv.Addr.Lo),.d (D.i x.gD.fv.rL),.d (D.i x.gD.rT),.d (D.i x.gD.gH.gS),.d (D.l 2 oF.cW x.gD.gH.Path),.d (D.b x.gD.gH.Next.V6),.d (D.u64 x.gD.gH.Next.Hi),.d (D.u64 x.gD.gH.Next.Lo),.d (D.i x.gD.gH.sd),.d (D.i x.gD.gH.rh),.d (D.i x.gD.gH.rX),.d (D.l 2 r8.cW x.gD.gH.fT),.d (D.l 3 n8.cW x.gD.gH.n8),.d (D.l 3 kI.cW x.gD.gH.lf)]
def rG.zv:O AV:=[.d (D.i 0),.d (D.b false),.d (D.u64 (0:j)),.d (D.u64 (0:j)),.d (D.i 0),.d (D.b false),.d (D.b false),.d (D.u64 (0:j)),.d (D.u64 (0:j)),.d (D.i 0),.d (D.i 0),.d (D.i 0),.d (D.nil 2),.d (D.b false),.d (D.u64 (0:j)),.d (D.u64 (0:j)),.d (D.i 0),.d (D.i 0),.d (D.i 0),.d (D.nil 2),.d (D.nil 3),.d (D.nil 3)]
def rG.wf (x:rG):Prop:=sL x.To/\fv.wf x.fv/\True/\gD.wf x.gD/\True
structure w8 where
  e0:Int
  e1:Int
def w8.cW (x:w8):D:=.agg [D.i x.e0,D.i x.e1]
def w8.av (x:w8):O AV:=[.d (D.i x.e0),.d (D.i x.e1)]
def w8.zv:O AV:=[.d (D.i 0),.d (D.i 0)]
def w8.wf (x:w8):Prop:=sL x.e0/\sL x.e1/\True
structure vz where
  none:Bool
  ul:Bool
  all:Bool
  tO:Bool
  tx:Int
def vz.cW (x:vz):D:=.agg [D.b x.none,D.b x.ul,D.b x.all,D.b x.tO,D.i x.tx]
def vz.av (x:vz):O AV:=[.d (D.b x.none),.d (D.b x.ul),.d (D.b x.all),.d (D.b x.tO),.d (D.i x.tx)]
def vz.zv:O AV:=[.d (D.b false),.d (D.b false),.d (D.b false),.d (D.b false),.d (D.i 0)]
def vz.wf (x:vz):Prop:=True/\True/\True/\True/\sL x.tx/\True
def vz.rO (x y:vz):I:=((x.none==y.none)&&((x.ul==y.ul)&&((x.all==y.all)&&((x.tO==y.tO)&&((x.tx==y.tx)&&true)))))
structure vG where
  step:Int
  order:Int
def vG.cW (x:vG):D:=.agg [D.i x.step,D.i x.order]
def vG.av (x:vG):O AV:=[.d (D.i x.step),.d (D.i x.order)]
def vG.zv:O AV:=[.d (D.i 0),.d (D.i 0)]
def vG.wf (x:vG):Prop:=sL x.step/\sL x.order/\True
def vG.rO (x y:vG):I:=((x.step==y.step)&&((x.order==y.order)&&true))
def Lu (F:O Int):C oX:= some (⟨F,0⟩:oX)
def J5 (H:Int)(F:Int):C Int:=
(sR (F≠0)).bind λ_=> AC (τ:=Int) (λJ=> if (decide ((Int.tmod H F)<0)) then J (AQ ((Int.tmod H F)+F)) else J (Int.tmod H F)
) λv2=> some v2
def AG (F:oX)(H:Int):C (Int×oX):= if (decide (F.At≥(F.L.length:Int))) then some (0,F) else
(iX F.L (AQ ((AQ (F.At+1))-1))).bind λv1=>
(J5 v1 H).bind λv2=> some (v2,(⟨F.L,(AQ (F.At+1))⟩:oX))
def DD (F:Int):C fv:= if (decide (F≥6)) then some (⟨(⟨true,(AY ((Wv 64 2306139568115548160 ||| Wv 64 ((AY (((AY F).toNat:Int)*(2^(min (Xi 16) 64)))).toNat:Int)).toNat:Int)),(0:j)⟩:Addr),48⟩:fv) else some (⟨(⟨false,(0:j),(AY ((Wv 64 167772160 ||| Wv 64 ((AY (((AY F).toNat:Int)*(2^(min (Xi 16) 64)))).toNat:Int)).toNat:Int))⟩:Addr),16⟩:fv)
def DZ (a0:oX):C (mu×oX):=
(AG a0 3).bind λ(v1,v2)=>
(part ([701,202]:O Int) 0 v1).bind λv3=>
(AG v2 4).bind λ(v4,v5)=> AC (τ:=oX×(O fv)) (λk6=> if (v4==0) then
(AG v5 8).bind λ(v7,v8)=>
(DD v7).bind λv9=> k6 (v8,([v9]:O fv)) else k6 (v5,[])
) λ(v10,v11)=>
(AG v10 6).bind λ(v12,M)=> AC (τ:=oX×Int) (λP=> if (v12==0) then
(AG M 3).bind λ(a6,a7)=> P (a7,(AQ (2+a6))) else P (M,8)
) λ(v17,a8)=>
(AG v17 3).bind λ(aa,v20)=> AC (τ:=oX×(O oB)×(O oB)) (λab=> Ai (σ:=Int×oX×(O oB)×(O oB)) (λF (J,v24,v25,v26)=> if (decide (J<8)) then AC (τ:=oX×(O oB)×(O oB)) (λae=>
(DD J).bind λK=> AC (τ:=Int) (λQ=> if K.Addr.V6 then Q 64 else Q 24
) λU=> AC (τ:=oX×(O oB)) (λaf=> AI (σ:=oX×(O oB)) (λ(v32,v33)=> af (v32,v33)
) (λH (ag:Int) i36 (v32,v33)=> AC (τ:=I×oX) (λV=> if (decide (aa>0)) then V (true,v32) else
(AG v32 3).bind λ(ah,v39)=> V ((cond false true (decide (ah>0))),v39)
) λ(v40,v41)=> AC (τ:=(O oB)) (λY=> if v40 then
(gE (α:=oB) 48 v33 ([(⟨K,U,ag⟩:oB)]:O oB)).bind λai=> Y ai else Y v33
) λaj=> H (v41,aj)
) ([101,102,103,104,105,201,202,203,301]:O Int) 0 (v24,v25)
) λ(v45,v46)=>
(AG v45 5).bind λ(ak,Z)=> AC (τ:=oX×(O oB)) (λa1=> if (ak==0) then
(AG Z 5).bind λ(v50,v51)=>
(iX ([101,102,103,201,0]:O Int) v50).bind λal=>
(gE (α:=oB) 48 v26 ([(⟨K,U,al⟩:oB)]:O oB)).bind λan=> a1 (v51,an) else a1 (Z,v26)
) λ(v54,v55)=> ae (v54,v46,v55)
) λ(ao,ap,v58)=> F ((AQ (J+1)),ao,ap,v58) else ab (v24,v25,v26)
) rp (0,v20,[],[])
) λ(v59,v60,aq)=> some ((⟨99,([(⟨(⟨false,(0:j),(3221225984:j)⟩:Addr),24⟩:fv)]:O fv),8,24,19,64,25,65,v11,([(⟨64512,65534⟩:s8)]:O s8),v3,a8,(⟨([(⟨(Xcp (Xcq (Xbj 65 (Xbj 76 (Xbj 76 List.nil))))),([101,102,103,104,105,201,202,203,301]:O Int),[]⟩:Set),(⟨(Xcp (Xcq (Xbj 79 (Xbj 78 (Xbj 69 List.nil))))),([201]:O Int),[]⟩:Set)]:O Set),v60⟩:ry),aq⟩:mu),v59)
def CO (a0:oX)(a1:Int):C (r5×oX):=
(AG a0 2).bind λ(v1,v2)=>
(AG v2 8).bind λ(v3,v4)=> AC (τ:=oX×I×I×Int×(O Int)) (λk5=> if (v3==0) then k5 (v4,true,false,0,[]) else AC (τ:=oX×I×Int×(O Int)) (λk6=> if (v3==1) then k6 (v4,true,0,[]) else AC (τ:=oX×Int×(O Int)) (λk7=> if (v3==2) then
(AG v4 4).bind λ(v8,v9)=> k7 (v9,(AQ (1+v8)),[]) else AC (τ:=oX×(O Int)) (λJ=> if (v3==3) then
(AG v4 4).bind λ(v11,v12)=> J (v12,([(AQ (101+v11))]:O Int)) else J (v4,[])
) λ(M,P)=> k7 (M,0,P)
) λ(Q,U,v17)=> k6 (Q,false,U,v17)
) λ(V,Y,v20,v21)=> k5 (V,false,Y,v20,v21)
) λ(v22,Z,v24,v25,v26)=> AC (τ:=oX×(O sr)) (λa6=> Ai (σ:=Int×oX×(O sr)) (λF (H,v30,v31)=> if (decide (H<5)) then
(AG v30 4).bind λ(v32,v33)=> AC (τ:=oX×(O sr)) (λK=> if (v32==0) then
(AG v33 5).bind λ(v35,a7)=>
(gE (α:=sr) 16 v31 ([(⟨(AQ (101+H)),(AQ (v35-2))⟩:sr)]:O sr)).bind λa8=> K (a7,a8) else K (v33,v31)
) λ(aa,v39)=> F ((AQ (H+1)),aa,v39) else a6 (v30,v31)
) rp (0,v22,[])
) λ(v40,v41)=> some ((⟨a1,Z,v24,(v1==0),v25,v26,v41⟩:r5),v40)
def DO (F:Int)(H:I):C Addr:= if H then some (⟨true,(2306139568115613695:j),(AY F)⟩:Addr) else some (⟨false,(0:j),(AY ((Wv 64 3221225984 ||| Wv 64 ((AY (AQ ((Int.tmod F 250)+1))).toNat:Int)).toNat:Int))⟩:Addr)
def EL (H:oX)(F:Int):C (r6×oX):=
(AG H 6).bind λ(v1,v2)=>
(iX ([(Xcp (Xcq (Xbj 65 (Xbj 76 (Xbj 76 List.nil))))),(Xcp (Xcq (Xbj 65 (Xbj 76 (Xbj 76 List.nil))))),(Xcp (Xcq (Xbj 65 (Xbj 76 (Xbj 76 List.nil))))),(Xcp (Xcq (Xbj 79 (Xbj 78 (Xbj 69 List.nil))))),(Xcp (Xcq List.nil)),(Xcp (Xcq (Xbj 78 (Xbj 79 (Xbj 78 (Xbj 69 List.nil))))))]:O T) v1).bind λJ=>
(AG v2 20).bind λ(v4,v5)=>
(AG v5 9).bind λ(v6,K)=>
(DO F false).bind λM=>
(DO F true).bind λP=> some ((⟨F,J,(AQ (6+v4)),(AQ (3+v6)),([M,P]:O Addr)⟩:r6),K)
def D3 (Y:oX):C (re×oX):=
(DZ Y).bind λ(v1,v2)=> AC (τ:=oX×(O r5)×(O pk)) (λZ=> Ai (σ:=Int×oX×(O r5)×(O pk)) (λF (v5,v6,U,V)=>
(AG v6 4).bind λ(v9,v10)=> if (decide (v5<(AQ (2+v9)))) then
(CO v10 (AQ (101+v5))).bind λ(v11,v12)=>
(gE (α:=r5) 72 U ([v11]:O r5)).bind λH=>
(EL v12 (AQ (101+v5))).bind λ(J,K)=>
(AG K 6).bind λ(M,v17)=>
(gE (α:=pk) 104 V ([(⟨J,(decide (M>0)),[],0⟩:pk)]:O pk)).bind λP=> F ((AQ (v5+1)),v17,H,P) else Z (v10,U,V)
) rp (0,v2,[],[])
) λ(Q,v20,v21)=> some ((⟨v1,v20,v21⟩:re),Q)
def C2 (F:Int):C I:= AC (τ:=I) (λH=> if (decide (F≥1)) then H (cond true (decide (F<=4294967295)) false) else H false
) λv2=> some v2
def A5 (J:r5):C Int:= AC (τ:=I) (λQ=>
(C2 J.r4).bind λv2=> if v2 then if (cond true (decide (J.rV≥0)) false) then if (cond true (decide (J.rV<=60)) false) then if (cond true (decide ((J.ta.length:Int)<=64)) false) then Q (cond true (decide ((J.sr.length:Int)<=64)) false) else Q false else Q false else Q false else Q false
) λv3=> AC (τ:=I) (λk4=> AI (σ:=I) (λY=> k4 Y
) (λM (x7:Int) i8 Y=> AC (τ:=I) (λV=> if Y then
(C2 x7).bind λZ=> if (cond true Z false) then if ((i8:Int)==0) then V true else
(iX J.ta (AQ ((i8:Int)-1))).bind λa1=> V (cond true (cond false true (decide (a1<x7))) false) else V false else V false
) λa6=> M a6
) J.ta 0 v3
) λa7=> AC (τ:=I) (λa8=> AI (σ:=I) (λP=> a8 P
) (λK (H:sr) U P=> AC (τ:=I) (λF=> if P then
(C2 H.r4).bind λaa=> if (cond true aa false) then if ((U:Int)==0) then if (cond true (decide (H.Value≥(-1000))) false) then F (cond true (decide (H.Value<=1000)) false) else F false else
(iX J.sr (AQ ((U:Int)-1))).bind λab=> if (cond true (cond false true (decide (ab.r4<H.r4))) false) then if (cond true (decide (H.Value≥(-1000))) false) then F (cond true (decide (H.Value<=1000)) false) else F false else F false else F false else F false
) λae=> K ae
) J.sr 0 a7
) λaf=> if (!af) then some 33 else some 0
def HG (F:Int):C I:= AC (τ:=I) (λH=> if (decide (F≥1)) then H (cond true (decide (F<=4294967295)) false) else H false
) λv2=> some v2
def Bh (F:Addr):C I:= AC (τ:=I) (λH=> if F.V6 then H true else if ((F.Hi.toNat:Int)==0) then H (cond false true (cond true (decide ((F.Lo.toNat:Int)<4294967296)) false)) else H false
) λv2=> some v2
def BC (H:Addr):C (O S):=
(Bh H).bind λv1=> if (!v1) then some [] else AC (τ:=Int) (λM=> if H.V6 then M 16 else M 4
) λU=> AC (τ:=(O S)) (λV=> Ai (σ:=Int×(O S)) (λF (v6,P)=> if (decide (v6≥0)) then AC (τ:=j) (λQ=> if (decide (v6≥8)) then Q H.Hi else Q H.Lo
) λY=>
(gE (α:=S) 1 P ([(BF ((AY (Xcd (Y.toNat:Int) (2^(min (Xi ((AY (8*((AY (Int.tmod v6 8)).toNat:Int))).toNat:Int)) 64)))).toNat:Int))]:O S)).bind λJ=> F ((AQ (v6-1)),J) else V P
) rp ((AQ (U-1)),[])
) λK=> some K
def Bz (F:Addr):C Int:= if F.V6 then some 128 else some 32
def BM (J:O S):C (Addr×Int):= AC (τ:=I) (λK=> if ((J.length:Int) !=4) then K (cond true ((J.length:Int) !=16) false) else K false
) λv2=> if v2 then some ((⟨false,(0:j),(0:j)⟩:Addr),1) else AC (τ:=Addr) (λM=> AI (σ:=Addr) (λH=> M H
) (λF (P:S) i7 H=> F (⟨H.V6,(AY ((Wv 64 ((AY ((H.Hi.toNat:Int)*(2^(min (Xi 8) 64)))).toNat:Int) ||| Wv 64 ((AY (Xcd (H.Lo.toNat:Int) (2^(min (Xi 56) 64)))).toNat:Int)).toNat:Int)),(AY ((Wv 64 ((AY ((H.Lo.toNat:Int)*(2^(min (Xi 8) 64)))).toNat:Int) ||| Wv 64 ((AY (P.toNat:Int)).toNat:Int)).toNat:Int))⟩:Addr)
) J 0 (⟨((J.length:Int)==16),(0:j),(0:j)⟩:Addr)
) λQ=> some (Q,0)
def CS (K:Addr)(J:Int):C (fv×Int):=
(Bh K).bind λv1=> if (!v1) then some ((⟨(⟨false,(0:j),(0:j)⟩:Addr),0⟩:fv),1) else AC (τ:=I) (λV=> if (decide (J<0)) then V true else
(Bz K).bind λY=> V (cond false true (decide (J>Y)))
) λZ=> if Z then some ((⟨(⟨false,(0:j),(0:j)⟩:Addr),0⟩:fv),9) else
(BC K).bind λv5=> AC (τ:=(O S)) (λk6=> Ai (σ:=Int×(O S)) (λF (H,v9)=> if (decide (H<(AQ (8*(v9.length:Int))))) then
(iX v9 (AQ (Int.tdiv H 8))).bind λM=>
(iX v9 (AQ (Int.tdiv H 8))).bind λa6=>
(sx v9 (AQ (Int.tdiv H 8)) (BF ((Wv 8 (M.toNat:Int) &&& ~~~Wv 8 ((BF (Xcd 128 (2^(min (Xi ((AY (Int.tmod H 8)).toNat:Int)) 8)))).toNat:Int)).toNat:Int))).bind λP=> F ((AQ (H+1)),P) else k6 v9
) rp (J,v5)
) λQ=>
(BM Q).bind λ(U,a7)=> some ((⟨U,J⟩:fv),0)
def Ae (F:fv):C I:=
(CS F.Addr F.rL).bind λ(v1,v2)=> AC (τ:=I) (λH=> if (v2==0) then H (cond true (fv.rO F v1) false) else H false
) λJ=> some J
def HC (H:O fv)(J:Int):C I:= AC (τ:=Unit) (λK=> AI (σ:=Unit) (λ_=> K ()
) (λF (M:fv) i4 _=>
(Ae M).bind λP=> if (!P) then some false else F ()
) H 0 ()
) λ_=> some (decide ((H.length:Int)<=J))
def DC (F:I):C Int:= if F then some 128 else some 32
def E6 (K:T):C I:= AC (τ:=Unit) (λQ=> Ai (σ:=Int) (λJ M=> if (decide (M<(K.size:Int))) then
(iX K.toList M).bind λF=> AC (τ:=I) (λH=> if (decide ((F.toNat:Int)≥97)) then if (cond true (decide ((F.toNat:Int)<=122)) false) then H (!true) else if (decide ((F.toNat:Int)≥65)) then if (cond false true (cond true (decide ((F.toNat:Int)<=90)) false)) then H (!true) else if (decide ((F.toNat:Int)≥48)) then if (cond false true (cond true (decide ((F.toNat:Int)<=57)) false)) then H (!true) else if (cond false true ((F.toNat:Int)==45)) then H (!true) else H (!(cond false true ((F.toNat:Int)==58))) else if (cond false true ((F.toNat:Int)==45)) then H (!true) else H (!(cond false true ((F.toNat:Int)==58))) else if (decide ((F.toNat:Int)≥48)) then if (cond false true (cond true (decide ((F.toNat:Int)<=57)) false)) then H (!true) else if (cond false true ((F.toNat:Int)==45)) then H (!true) else H (!(cond false true ((F.toNat:Int)==58))) else if (cond false true ((F.toNat:Int)==45)) then H (!true) else H (!(cond false true ((F.toNat:Int)==58))) else if (decide ((F.toNat:Int)≥65)) then if (cond false true (cond true (decide ((F.toNat:Int)<=90)) false)) then H (!true) else if (decide ((F.toNat:Int)≥48)) then if (cond false true (cond true (decide ((F.toNat:Int)<=57)) false)) then H (!true) else if (cond false true ((F.toNat:Int)==45)) then H (!true) else H (!(cond false true ((F.toNat:Int)==58))) else if (cond false true ((F.toNat:Int)==45)) then H (!true) else H (!(cond false true ((F.toNat:Int)==58))) else if (decide ((F.toNat:Int)≥48)) then if (cond false true (cond true (decide ((F.toNat:Int)<=57)) false)) then H (!true) else if (cond false true ((F.toNat:Int)==45)) then H (!true) else H (!(cond false true ((F.toNat:Int)==58))) else if (cond false true ((F.toNat:Int)==45)) then H (!true) else H (!(cond false true ((F.toNat:Int)==58)))
) λU=> if U then some false else J (AQ (M+1)) else Q ()
) rp 0
) λ_=> AC (τ:=I) (λP=> if (decide ((K.size:Int)≥1)) then P (cond true (decide ((K.size:Int)<=32)) false) else P false
) λV=> some V
def Ba (F:oB):C I:= AC (τ:=Int) (λJ=> if F.fv.Addr.V6 then J 128 else J 32
) λv2=> AC (τ:=I) (λH=>
(Ae F.fv).bind λK=> if K then if (cond true (decide (F.Max≥F.fv.rL)) false) then if (cond true (decide (F.Max<=v2)) false) then if (cond true (decide (F.r4≥1)) false) then H (cond true (decide (F.r4<=4294967295)) false) else H false else H false else H false else H false
) λM=> some M
def EJ (V:ry):C I:= AC (τ:=Unit) (λk1=> AI (σ:=(O (T×I))) (λv2=> k1 ()
) (λK (M:Set) i5 v2=> AC (τ:=Unit) (λk6=> AC (τ:=I) (λY=>
(E6 M.Name).bind λv8=> if (!v8) then Y true else
(some (Xde (A8 v2 M.Name) false)).bind λv9=> if (cond false true v9) then Y true else if (cond false true (decide ((M.n7.length:Int)>64))) then Y true else Y (cond false true (decide ((M.oT.length:Int)>64)))
) λZ=> if Z then some false else AC (τ:=Unit) (λa1=> AI (σ:=Unit) (λ_=> a1 ()
) (λF (P:Int) i14 _=> AC (τ:=I) (λQ=> if (decide (P<1)) then Q true else Q (cond false true (decide (P>4294967295)))
) λa6=> if a6 then some false else F ()
) M.n7 0 ()
) λ_=> AC (τ:=Unit) (λa7=> AI (σ:=Unit) (λ_=> a7 ()
) (λH (a8:T) i20 _=>
(E6 a8).bind λaa=> if (!aa) then some false else H ()
) M.oT 0 ()
) λ_=> k6 ()
) λ_=> K (A3 v2 M.Name true)
) V.oT 0 []
) λ_=> AC (τ:=Unit) (λab=> AI (σ:=Unit) (λ_=> ab ()
) (λJ (ae:oB) i25 _=>
(Ba ae).bind λaf=> if (!af) then some false else J ()
) V.n5 0 ()
) λ_=> AC (τ:=I) (λU=> if (decide ((V.oT.length:Int)<=64)) then U (cond true (decide ((V.n5.length:Int)<=512)) false) else U false
) λag=> some ag
def E8 (F:mu):C I:= AC (τ:=I) (λY=>
(HG F.sK).bind λv2=> if (!v2) then Y true else
(HC F.rU 8).bind λv3=> if (cond false true (!v3)) then Y true else
(HC F.r7 64).bind λv4=> if (cond false true (!v4)) then Y true else if (cond false true (decide ((F.oE.length:Int)>64))) then Y true else if (cond false true (decide ((F.rI.length:Int)>64))) then Y true else Y (cond false true (decide ((F.n9.length:Int)>512)))
) λv5=> if v5 then some false else AC (τ:=Unit) (λk6=> AI (σ:=Unit) (λ_=> k6 ()
) (λU (Z:s8) i9 _=> AC (τ:=I) (λV=> if (decide (Z.rT<0)) then V true else if (cond false true (decide (Z.rT>Z.To))) then V true else V (cond false true (decide (Z.To>4294967295)))
) λa1=> if a1 then some false else U ()
) F.oE 0 ()
) λ_=> AC (τ:=Unit) (λa6=> AI (σ:=Unit) (λ_=> a6 ()
) (λP (wg:Int) i15 _=>
(HG wg).bind λa7=> if (!a7) then some false else P ()
) F.rI 0 ()
) λ_=> AC (τ:=Unit) (λa8=> AI (σ:=Unit) (λ_=> a8 ()
) (λQ (J:oB) i20 _=> AC (τ:=I) (λM=>
(Ae J.fv).bind λaa=> if (!aa) then M true else if (cond false true (decide (J.Max<J.fv.rL))) then M true else
(DC J.fv.Addr.V6).bind λab=> if (cond false true (decide (J.Max>ab))) then M true else if (cond false true (decide (J.r4<0))) then M true else M (cond false true (decide (J.r4>4294967295)))
) λae=> if ae then some false else Q ()
) F.n9 0 ()
) λ_=> AC (τ:=I) (λK=> if (decide (F.sq≥0)) then if (cond true (decide (F.sq<=F.rj)) false) then if (cond true (decide (F.rj<=32)) false) then if (cond true (decide (F.sl≥0)) false) then if (cond true (decide (F.sl<=F.ri)) false) then K (cond true (decide (F.ri<=128)) false) else K false else K false else K false else K false else K false
) λaf=> AC (τ:=I) (λH=> if af then if (cond true (decide (F.rR≥0)) false) then if (cond true (decide (F.rR<=32)) false) then if (cond true (decide (F.rS≥0)) false) then if (cond true (decide (F.rS<=128)) false) then if (cond true (decide (F.rV≥1)) false) then if (cond true (decide (F.rV<=60)) false) then
(EJ F.ry).bind λag=> H (cond true ag false) else H false else H false else H false else H false else H false else H false else H false
) λah=> some ah
def Ie (H:Addr)(F:Addr):C Int:= if (Addr.rO H F) then some 0 else if (!(H.V6==F.V6)) then if F.V6 then some (-1) else some 1 else AC (τ:=I) (λJ=> if (decide ((H.Hi.toNat:Int)<(F.Hi.toNat:Int))) then J true else if ((H.Hi.toNat:Int)==(F.Hi.toNat:Int)) then J (cond false true (cond true (decide ((H.Lo.toNat:Int)<(F.Lo.toNat:Int))) false)) else J false
) λv2=> if v2 then some (-1) else some 1
def BP (F:fv)(H:fv):C Int:=
(Ie F.Addr H.Addr).bind λv1=> if (v1 !=0) then some v1 else if (decide (F.rL<H.rL)) then some (-1) else if (decide (F.rL>H.rL)) then some 1 else some 0
def EN (J:pk):C (Int×Int):= AC (τ:=Int×Int) (λK=> AI (σ:=Int×Int) (λ(v2,v3)=> K (v2,v3)
) (λF (M:gN) i6 (v2,v3)=> AC (τ:=Int×Int) (λH=> if M.gD.fv.Addr.V6 then H (v2,(AQ (v3+1))) else H ((AQ (v2+1)),v3)
) λ(P,v9)=> F (P,v9)
) J.gN 0 (0,0)
) λ(v10,v11)=> some (v10,v11)
def Cj (F:r6):C I:= AC (τ:=Unit) (λK=> AI (σ:=Unit) (λ_=> K ()
) (λH (M:Addr) i4 _=>
(Bh M).bind λP=> if (!P) then some false else H ()
) F.rz 0 ()
) λ_=> AC (τ:=I) (λJ=>
(HG F.r4).bind λQ=> if Q then if (cond true (decide (F.rj≥0)) false) then if (cond true (decide (F.rj<=256)) false) then if (cond true (decide (F.ri≥0)) false) then if (cond true (decide (F.ri<=256)) false) then J (cond true (decide ((F.rz.length:Int)<=8)) false) else J false else J false else J false else J false else J false
) λU=> some U
def A9 (F:Int):C Int:= AC (τ:=I) (λJ=> if (F==1) then J (F==1) else AC (τ:=I) (λK=> if (F==2) then K (F==2) else AC (τ:=I) (λM=> if (F==3) then M (F==3) else M (F==5)
) λU=> K U
) λV=> J V
) λY=> if Y then some 64 else if (F==4) then some 128 else AC (τ:=I) (λP=> if (F==8) then P (F==8) else AC (τ:=I) (λQ=> if (F==32) then Q (F==32) else Q (F==35)
) λZ=> P Z
) λH=> if H then some 192 else some 0
def CL (F:Int):C I:= AC (τ:=I) (λH=>
(A9 F).bind λv2=> if (v2==0) then if (cond true (F !=14) false) then H (cond true (F !=15) false) else H false else H false
) λJ=> some J
def CH (a0:O oF):C I:= AC (τ:=Int) (λk1=> AI (σ:=Int) (λv2=> k1 v2
) (λJ (M:oF) i5 v2=> AC (τ:=Unit) (λk6=> AC (τ:=I) (λQ=> if ((M.n7.length:Int)==0) then Q true else if (decide ((i5:Int)>0)) then if (cond true (!M.Set) false) then
(iX a0 (AQ ((i5:Int)-1))).bind λv8=> Q (cond false true (cond true (!v8.Set) false)) else Q false else Q false
) λv9=> if v9 then some false else AC (τ:=Unit) (λU=> AI (σ:=Unit) (λ_=> U ()
) (λH (K:Int) P _=> AC (τ:=I) (λF=> if (decide (K<1)) then F true else if (cond false true (decide (K>4294967295))) then F true else if M.Set then if (cond true (decide ((P:Int)>0)) false) then
(iX M.n7 (AQ ((P:Int)-1))).bind λV=> F (cond false true (cond true (decide (V≥K)) false)) else F false else F false
) λY=> if Y then some false else H ()
) M.n7 0 ()
) λ_=> k6 ()
) λ_=> J (AQ (v2+(M.n7.length:Int)))
) a0 0 0
) λZ=> some (decide (Z<=64))
def EE (F:r8):C I:= AC (τ:=I) (λH=> if (decide (F.A≥0)) then if (cond true (decide (F.A<=65535)) false) then if (cond true (decide (F.B≥0)) false) then H (cond true (decide (F.B<=65535)) false) else H false else H false else H false
) λv2=> some v2
def E2 (F:r8)(H:r8):C I:= AC (τ:=I) (λJ=> if (decide (F.A<H.A)) then J true else if (F.A==H.A) then J (cond false true (cond true (decide (F.B<H.B)) false)) else J false
) λv2=> some v2
def Dj (H:O r8):C I:= AC (τ:=Unit) (λP=> AI (σ:=Unit) (λ_=> P ()
) (λF (K:r8) M _=> AC (τ:=I) (λJ=>
(EE K).bind λQ=> if (!Q) then J true else if (decide ((M:Int)>0)) then
(iX H (AQ ((M:Int)-1))).bind λU=>
(E2 U K).bind λV=> J (cond false true (cond true (!V) false)) else J false
) λY=> if Y then some false else F ()
) H 0 ()
) λ_=> some (decide ((H.length:Int)<=64))
def Bo (F:n8):Option I:= AC (τ:=I) (λH=> if (decide (F.A≥0)) then if (cond true (decide (F.A<=4294967295)) false) then if (cond true (decide (F.B≥0)) false) then if (cond true (decide (F.B<=4294967295)) false) then if (cond true (decide (F.C≥0)) false) then H (cond true (decide (F.C<=4294967295)) false) else H false else H false else H false else H false else H false
) λv2=> some v2
def B5 (F:n8)(H:n8):Option I:= AC (τ:=I) (λJ=> if (decide (F.A<H.A)) then J true else if (F.A==H.A) then if (decide (F.B<H.B)) then J true else if (F.B==H.B) then J (cond false true (cond true (cond false true (cond true (decide (F.C<H.C)) false)) false)) else J false else J false
) λv2=> some v2
def BQ (H:O n8):C I:= AC (τ:=Unit) (λP=> AI (σ:=Unit) (λ_=> P ()
) (λF (K:n8) M _=> AC (τ:=I) (λJ=>
(Bo K).bind λQ=> if (!Q) then J true else if (decide ((M:Int)>0)) then
(iX H (AQ ((M:Int)-1))).bind λU=>
(B5 U K).bind λV=> J (cond false true (cond true (!V) false)) else J false
) λY=> if Y then some false else F ()
) H 0 ()
) λ_=> some (decide ((H.length:Int)<=64))
def Bf (F:gH):C I:= AC (τ:=Unit) (λk1=> AI (σ:=Unit) (λ_=> k1 ()
) (λJ (M:kI) i4 _=> AC (τ:=I) (λK=> if (decide (M.oA<1)) then K true else if (cond false true (decide (M.oA>255))) then K true else
(CL M.oA).bind λv6=> if (cond false true (!v6)) then K true else if (cond false true (M.Flags !=224)) then K true else if (cond false true (decide ((M.Data.length:Int)>255))) then K true else if (decide ((i4:Int)>0)) then
(iX F.lf (AQ ((i4:Int)-1))).bind λv7=> K (cond false true (cond true (decide (v7.oA≥M.oA)) false)) else K false
) λv8=> if v8 then some false else J ()
) F.lf 0 ()
) λ_=> AC (τ:=I) (λH=> if (decide (F.gS≥(-1))) then if (cond true (decide (F.gS<=2)) false) then
(CH F.Path).bind λP=> if (cond true P false) then
(Bh F.Next).bind λQ=> if (cond true Q false) then if (cond true (decide (F.sd≥(-1))) false) then if (cond true (decide (F.sd<=4294967295)) false) then if (cond true (decide (F.rh≥(-1))) false) then if (cond true (decide (F.rh<=4294967295)) false) then if (F.rX==(-1)) then
(Dj F.fT).bind λU=> if (cond true U false) then
(BQ F.n8).bind λV=> if (cond true V false) then H (cond true (decide ((F.lf.length:Int)<=8)) false) else H false else H false else if (decide (F.rX≥1)) then if (cond true (cond false true (cond true (decide (F.rX<=4294967295)) false)) false) then
(Dj F.fT).bind λY=> if (cond true Y false) then
(BQ F.n8).bind λZ=> if (cond true Z false) then H (cond true (decide ((F.lf.length:Int)<=8)) false) else H false else H false else H false else H false else H false else H false else H false else H false else H false else H false else H false else H false
) λa1=> some a1
def CJ (F:pk):C I:= AC (τ:=I) (λQ=>
(Cj F.r6).bind λv2=> if (!v2) then Q true else if (cond false true (decide ((F.gN.length:Int)>256))) then Q true else if (cond false true (decide (F.ru<0))) then Q true else Q (cond false true (decide (F.ru>1073745919)))
) λv3=> if v3 then some false else AC (τ:=I) (λk4=> AI (σ:=I) (λU=> k4 U
) (λK (J:gN) i8 U=> AC (τ:=I) (λH=>
(Ae J.gD.fv).bind λV=> if (!V) then H true else if (decide ((i8:Int)>0)) then
(iX F.gN (AQ ((i8:Int)-1))).bind λY=>
(BP Y.gD.fv J.gD.fv).bind λZ=> if (cond false true (cond true (decide (Z≥0)) false)) then H true else
(Bf J.gD.gH).bind λa1=> if (cond false true (!a1)) then H true else if (cond false true (J.gD.rT !=F.r6.r4)) then H true else if (cond false true (decide (J.sc<0))) then H true else if (cond false true (decide (J.sc>14))) then H true else if (!F.Up) then H (cond false true (cond true (!J.sb) false)) else H false else
(Bf J.gD.gH).bind λa6=> if (cond false true (!a6)) then H true else if (cond false true (J.gD.rT !=F.r6.r4)) then H true else if (cond false true (decide (J.sc<0))) then H true else if (cond false true (decide (J.sc>14))) then H true else if (!F.Up) then H (cond false true (cond true (!J.sb) false)) else H false
) λa7=> if a7 then some false else AC (τ:=I) (λP=> if U then P true else P (cond false true J.sb)
) λa8=> K a8
) F.gN 0 false
) λaa=>
(EN F).bind λ(ab,v20)=> AC (τ:=I) (λM=> if (aa==(F.ru !=0)) then if (cond true (decide (ab<=F.r6.rj)) false) then M (cond true (decide (v20<=F.r6.ri)) false) else M false else M false
) λae=> some ae
def DG (H:O oF):C (O Int):= AC (τ:=(O Int)) (λJ=> AI (σ:=(O Int)) (λv2=> J v2
) (λF (K:oF) i5 v2=>
(gE (α:=Int) 8 v2 K.n7).bind λM=> F M
) H 0 []
) λP=> some P
def EQ (F:re):C I:= AC (τ:=I) (λV=>
(E8 F.mu).bind λv2=> if (!v2) then V true else if (cond false true (decide ((F.fI.length:Int)>32))) then V true else V (cond false true ((F.o3.length:Int) !=(F.fI.length:Int)))
) λv3=> if v3 then some false else AC (τ:=Unit) (λk4=> AI (σ:=Unit) (λ_=> k4 ()
) (λJ (P:r5) K _=> AC (τ:=Unit) (λk8=> AC (τ:=I) (λM=>
(A5 P).bind λY=> if (Y !=0) then M true else if (cond false true (P.r4==F.mu.sK)) then M true else if (decide ((K:Int)>0)) then
(iX F.fI (AQ ((K:Int)-1))).bind λZ=> if (cond false true (cond true (decide (Z.r4≥P.r4)) false)) then M true else
(iX F.o3 (K:Int)).bind λa1=>
(CJ a1).bind λa6=> if (cond false true (!a6)) then M true else
(iX F.o3 (K:Int)).bind λa7=> M (cond false true (a7.r6.r4 !=P.r4)) else
(iX F.o3 (K:Int)).bind λa8=>
(CJ a8).bind λaa=> if (cond false true (!aa)) then M true else
(iX F.o3 (K:Int)).bind λab=> M (cond false true (ab.r6.r4 !=P.r4))
) λae=> if ae then some false else
(iX F.o3 (K:Int)).bind λaf=> AC (τ:=Unit) (λag=> AI (σ:=Unit) (λ_=> ag ()
) (λH (Q:gN) i23 _=> AC (τ:=I) (λU=> if (Q.sc==0) then
(DG Q.gD.gH.Path).bind λah=> U (cond true (decide ((ah.length:Int)>60)) false) else U false
) λai=> if ai then some false else H ()
) af.gN 0 ()
) λ_=> k8 ()
) λ_=> J ()
) F.fI 0 ()
) λ_=> some true
def ES (a0:re):C (O fv):= AC (τ:=(O fv)) (λk1=> AI (σ:=(O fv)) (λv2=> k1 v2
) (λM (x4:pk) i5 v2=> AC (τ:=(O fv)) (λk6=> AC (τ:=(O fv)) (λk7=> AI (σ:=(O fv)) (λH=> k7 H
) (λP (Q:gN) i11 H=> AC (τ:=(O fv)) (λU=> AC (τ:=Int) (λZ=> Ai (σ:=Int) (λJ K=> AC (τ:=I) (λV=> if (decide (K<(H.length:Int))) then
(iX H K).bind λa1=>
(BP a1 Q.gD.fv).bind λa6=> V (cond true (decide (a6<0)) false) else V false
) λa7=> if a7 then J (AQ (K+1)) else Z K
) rp 0
) λF=> AC (τ:=I) (λY=> if (decide (F<(H.length:Int))) then
(iX H F).bind λa8=> Y (cond true (fv.rO a8 Q.gD.fv) false) else Y false
) λaa=> if aa then U H else
(sR (0<=F/\F<=(H.length:Int)/\(H.length:Int)<=(H.length:Int))).bind λ_=>
(gE (α:=fv) 32 [] (Xaq (Xi (H.length:Int)-Xi F) (Xat (Xi F) H))).bind λ_=>
(part H 0 F).bind λab=>
(gE (α:=fv) 32 ab ([Q.gD.fv]:O fv)).bind λae=>
(gE (α:=fv) 32 ae (Xaq (Xi (H.length:Int)-Xi F) (Xat (Xi F) H))).bind λaf=> U af
) λag=> P ag
) x4.gN 0 v2
) λah=> k6 ah
) λai=> M ai
) a0.o3 0 []
) λaj=> some aj
def Ht (H:re)(J:Int):C Int:= AC (τ:=Unit) (λK=> AI (σ:=Unit) (λ_=> K ()
) (λF (M:r5) P _=> if (M.r4==J) then some (P:Int) else F ()
) H.fI 0 ()
) λ_=> some (-1)
def Ia (J:pk)(K:fv):C (gN×I):= AC (τ:=Unit) (λM=> AI (σ:=Unit) (λ_=> M ()
) (λF (H:gN) i4 _=> if (fv.rO H.gD.fv K) then some (H,true) else F ()
) J.gN 0 ()
) λ_=> some ((⟨(⟨(⟨(⟨false,(0:j),(0:j)⟩:Addr),0⟩:fv),0,(⟨0,[],(⟨false,(0:j),(0:j)⟩:Addr),0,0,0,[],[],[]⟩:gH)⟩:gD),0,false⟩:gN),false)
def Db (H:pk)(J:fv):C (gD×I):=
(Ia H J).bind λ(v1,v2)=> AC (τ:=I) (λF=> if v2 then F (cond true (v1.sc==0) false) else F false
) λK=> if K then some (v1.gD,true) else some ((⟨(⟨(⟨false,(0:j),(0:j)⟩:Addr),0⟩:fv),0,(⟨0,[],(⟨false,(0:j),(0:j)⟩:Addr),0,0,0,[],[],[]⟩:gH)⟩:gD),false)
def EY (H:O r8)(J:r8):C I:= AC (τ:=Unit) (λK=> AI (σ:=Unit) (λ_=> K ()
) (λF (M:r8) i4 _=> if (r8.rO M J) then some true else F ()
) H 0 ()
) λ_=> some false
def Ds (F:gH):C I:=
(EY F.fT (⟨65535,666⟩:r8)).bind λv1=> some v1
def Du (K:O oF):C Int:= AC (τ:=Int) (λM=> AI (σ:=Int) (λv2=> M v2
) (λF (H:oF) i5 v2=> AC (τ:=Int) (λJ=> if H.Set then J (AQ (v2+1)) else J (AQ (v2+(H.n7.length:Int)))
) λP=> F P
) K 0 0
) λQ=> some Q
def FW (H:O oF)(J:Int):C I:=
(DG H).bind λv1=> AC (τ:=Unit) (λK=> AI (σ:=Unit) (λ_=> K ()
) (λF (M:Int) i5 _=> if (M==J) then some true else F ()
) v1 0 ()
) λ_=> some false
def B0 (H:O n8)(J:n8):C I:= AC (τ:=Unit) (λK=> AI (σ:=Unit) (λ_=> K ()
) (λF (M:n8) i4 _=> if (n8.rO M J) then some true else F ()
) H 0 ()
) λ_=> some false
def DN (K:Int)(M:gH)(P:Int):C Int:= AC (τ:=Unit) (λQ=> AI (σ:=Unit) (λ_=> Q ()
) (λF (U:Int) i4 _=> AC (τ:=Unit) (λV=> AC (τ:=Unit) (λY=> Ai (σ:=Int) (λH J=> if (decide (J>0)) then
(B0 M.n8 (⟨K,(AQ (100+J)),U⟩:n8)).bind λZ=> if Z then some J else H (AQ (J-1)) else Y ()
) rp 3
) λ_=> V ()
) λ_=> F ()
) ([P,0]:O Int) 0 ()
) λ_=> some 0
def E7 (J:Int)(F:gH)(P:Int)(Q:Int)(K:Int)(M:Int):C I:= AC (τ:=I) (λH=> if (decide (P<=65535)) then if (cond true (decide (Q<=65535)) false) then
(EY F.fT (⟨P,Q⟩:r8)).bind λv2=> if (cond true v2 false) then H true else
(B0 F.n8 (⟨J,K,M⟩:n8)).bind λU=> H (cond false true U) else
(B0 F.n8 (⟨J,K,M⟩:n8)).bind λV=> H (cond false true V) else
(B0 F.n8 (⟨J,K,M⟩:n8)).bind λY=> H (cond false true Y)
) λZ=> some Z
def Es (M:Int)(H:gD)(F:r5):C Int:= AC (τ:=I) (λk1=> AI (σ:=I) (λv2=> k1 v2
) (λK (x4:Int) i5 v2=> AC (τ:=I) (λk6=> if v2 then k6 true else k6 (cond false true (x4==H.rT))
) λv7=> K v7
) F.ta 0 false
) λv8=> if (H.rT==F.r4) then some 1 else
(EY H.gH.fT (⟨65535,65282⟩:r8)).bind λv9=> if v9 then some 2 else
(E7 M H.gH 0 F.r4 0 F.r4).bind λV=> if V then some 3 else AC (τ:=I) (λP=>
(E7 M H.gH 0 M 0 0).bind λY=> if Y then
(E7 M H.gH M F.r4 1 F.r4).bind λZ=> P (cond true (!Z) false) else P false
) λa6=> if a6 then some 4 else AC (τ:=I) (λJ=> if H.fv.Addr.V6 then if (cond true F.wW false) then J true else if (!H.fv.Addr.V6) then J (cond false true (cond true F.wI false)) else J false else if (!H.fv.Addr.V6) then J (cond false true (cond true F.wI false)) else J false
) λa7=> if a7 then some 5 else if v8 then some 6 else AC (τ:=I) (λQ=>
(Ds H.gH).bind λa8=> if a8 then Q (cond true (!F.uk) false) else Q false
) λaa=> if aa then some 7 else AC (τ:=I) (λU=> if (F.rV !=0) then
(Du H.gH.Path).bind λab=>
(DN M H.gH F.r4).bind λae=> U (cond true (decide ((AQ (ab+ae))>F.rV)) false) else U false
) λaf=> if af then some 8 else
(FW H.gH.Path F.r4).bind λag=> if ag then some 9 else some 0
def GK (J:O oF):C (O oF):= AC (τ:=(O oF)) (λK=> AI (σ:=(O oF)) (λv2=> K v2
) (λF (H:oF) i5 v2=>
(gE (α:=Int) 8 [] H.n7).bind λ_=>
(gE (α:=oF) 32 v2 ([H]:O oF)).bind λM=> F M
) J 0 []
) λP=> some P
def Ei (P:O oF)(V:Int)(Q:Int):C ((O oF)×Int):= AC (τ:=I) (λU=>
(CH P).bind λv2=> if (!v2) then U true else if (cond false true (decide (V<1))) then U true else if (cond false true (decide (V>4294967295))) then U true else U (cond false true (decide (Q<0)))
) λv3=> if v3 then some ([],1) else
(DG P).bind λv4=> if (decide (Q>(AQ (64-(v4.length:Int))))) then some ([],3) else if (Q==0) then
(GK P).bind λv5=> some (v5,0) else AC (τ:=(O Int)) (λk6=> Ai (σ:=Int×(O Int)) (λH (v8,v9)=> if (decide (v8<Q)) then
(gE (α:=Int) 8 v9 ([V]:O Int)).bind λY=> H ((AQ (v8+1)),Y) else k6 v9
) rp (0,[])
) λJ=>
(GK P).bind λF=> AC (τ:=I) (λK=> if (decide ((F.length:Int)>0)) then
(iX F 0).bind λZ=> K (cond true (!Z.Set) false) else K false
) λa6=> AC (τ:=(O oF)×(O Int)) (λM=> if a6 then
(iX F 0).bind λa7=>
(gE (α:=Int) 8 J a7.n7).bind λa8=>
(part F 1 (F.length:Int)).bind λaa=> M (aa,a8) else M (F,J)
) λ(v20,v21)=>
(gE (α:=oF) 32 ([(⟨false,v21⟩:oF)]:O oF) v20).bind λab=> some (ab,0)
def BI (J:gH):C gH:= AC (τ:=(O oF)) (λV=> AI (σ:=(O oF)) (λv2=> V v2
) (λH (U:oF) i5 v2=>
(gE (α:=Int) 8 [] U.n7).bind λ_=>
(gE (α:=oF) 32 v2 ([U]:O oF)).bind λY=> H Y
) J.Path 0 []
) λZ=>
(gE (α:=r8) 16 [] J.fT).bind λ_=>
(gE (α:=n8) 24 [] J.n8).bind λ_=> AC (τ:=(O kI)) (λk8=> AI (σ:=(O kI)) (λM=> k8 M
) (λF (K:kI) i12 M=>
(gE (α:=S) 1 [] K.Data).bind λ_=>
(gE (α:=kI) 40 M ([K]:O kI)).bind λP=> F P
) J.lf 0 []
) λQ=> some ({ J with Path:=Z,lf:=Q })
def Gx (a0:Int)(Q:gH):C gH:=
(BI Q).bind λv1=> AC (τ:=(O r8)) (λk2=> AI (σ:=(O r8)) (λP=> k2 P
) (λJ (U:r8) i6 P=> AC (τ:=I) (λk7=> if (U.A !=0) then k7 (cond true (U.A !=a0) false) else k7 false
) λv8=> AC (τ:=(O r8)) (λk9=> if v8 then
(gE (α:=r8) 16 P ([U]:O r8)).bind λV=> k9 V else k9 P
) λY=> J Y
) Q.fT 0 []
) λZ=> AC (τ:=(O n8)) (λa6=> AI (σ:=(O n8)) (λF=> a6 F
) (λH (K:n8) i17 F=> AC (τ:=(O n8)) (λM=> if (K.A !=a0) then
(gE (α:=n8) 24 F ([K]:O n8)).bind λa7=> M a7 else M F
) λa8=> H a8
) Q.n8 0 []
) λaa=> some ({ v1 with fT:=Z,n8:=aa })
def D9 (F:Int):C Int:= if (F==0) then some 3 else if (F==3) then some 0 else if (F==1) then some 2 else if (F==2) then some 1 else if (F==4) then some 4 else some (-1)
def Fa (J:Int)(H:Int):C I:= AC (τ:=I) (λF=>
(D9 J).bind λv2=> if (v2==(-1)) then F true else if (cond false true (decide (H<1))) then F true else F (cond false true (decide (H>4294967295)))
) λK=> some K
def Hh (F:Int)(K:Int)(H:gH):C (gH×Int):=
(Fa F K).bind λv1=> if v1 then some ((⟨0,[],(⟨false,(0:j),(0:j)⟩:Addr),0,0,0,[],[],[]⟩:gH),1) else AC (τ:=I) (λM=> if (F==0) then M true else M (cond false true (F==1))
) λP=> AC (τ:=I) (λQ=> if (H.rX !=(-1)) then Q (cond true (!P) false) else Q false
) λV=> if V then some ((⟨0,[],(⟨false,(0:j),(0:j)⟩:Addr),0,0,0,[],[],[]⟩:gH),30) else AC (τ:=I) (λJ=> if (H.rX==(-1)) then if P then J true else J (cond true (cond false true (F==4)) false) else J false
) λY=> AC (τ:=Int) (λU=> if Y then U K else U H.rX
) λZ=> some (({ H with rX:=Z }),0)
def C9 (J:Int)(F:gD)(M:r5):C (gD×Int×Int):= AC (τ:=I) (λK=>
(C2 J).bind λv2=> if (!v2) then K true else
(C2 F.rT).bind λV=> if (cond false true (!V)) then K true else
(Ae F.fv).bind λY=> if (cond false true (!Y)) then K true else
(Bf F.gH).bind λZ=> K (cond false true (!Z))
) λv6=> if v6 then some ((⟨(⟨(⟨false,(0:j),(0:j)⟩:Addr),0⟩:fv),0,(⟨0,[],(⟨false,(0:j),(0:j)⟩:Addr),0,0,0,[],[],[]⟩:gH)⟩:gD),0,1) else
(A5 M).bind λQ=> if (Q !=0) then some ((⟨(⟨(⟨false,(0:j),(0:j)⟩:Addr),0⟩:fv),0,(⟨0,[],(⟨false,(0:j),(0:j)⟩:Addr),0,0,0,[],[],[]⟩:gH)⟩:gD),0,Q) else
(Es J F M).bind λU=> if (U !=0) then some ((⟨(⟨(⟨false,(0:j),(0:j)⟩:Addr),0⟩:fv),0,(⟨0,[],(⟨false,(0:j),(0:j)⟩:Addr),0,0,0,[],[],[]⟩:gH)⟩:gD),U,0) else
(DN J F.gH M.r4).bind λv9=>
(Ei F.gH.Path F.rT v9).bind λ(v10,v11)=> if (v11 !=0) then some ((⟨(⟨(⟨false,(0:j),(0:j)⟩:Addr),0⟩:fv),0,(⟨0,[],(⟨false,(0:j),(0:j)⟩:Addr),0,0,0,[],[],[]⟩:gH)⟩:gD),0,v11) else
(Gx J F.gH).bind λP=>
(Hh 1 J ({ P with Path:=v10,rh:=(-1) })).bind λ(H,a6)=> some ((⟨(⟨((({ F with gH:=H }).fv).Addr),(({ F with gH:=H }).fv).rL⟩:fv),({ F with gH:=H }).rT,(({ F with gH:=H }).gH)⟩:gD),0,0)
def DR (H:re)(a1:Int)(a2:fv):C (O gD):=
(Ht H a1).bind λv1=> AC (τ:=I) (λk2=> if (decide (v1<0)) then k2 true else
(iX H.o3 v1).bind λv3=> k2 (cond false true (!v3.Up))
) λv4=> if v4 then some [] else AC (τ:=(O gD)) (λk5=> AI (σ:=(O gD)) (λJ=> k5 J
) (λF (x8:pk) i9 J=> AC (τ:=(O gD)) (λK=>
(Db x8 a2).bind λ(v11,v12)=> if (!v12) then K J else
(iX H.fI v1).bind λQ=>
(C9 H.mu.sK v11 Q).bind λ(U,V,Y)=> AC (τ:=I) (λM=> if (Y==0) then M (cond true (V==0) false) else M false
) λZ=> AC (τ:=(O gD)) (λP=> if Z then
(gE (α:=gD) 192 J ([U]:O gD)).bind λa6=> P a6 else P J
) λa7=> K a7
) λa8=> F a8
) H.o3 0 []
) λaa=> some aa
def Gj (J:r5)(K:Int):C Int:= AC (τ:=Unit) (λM=> AI (σ:=Unit) (λ_=> M ()
) (λF (H:sr) i4 _=> if (H.r4==K) then some H.Value else F ()
) J.sr 0 ()
) λ_=> some 0
def HE (K:r5)(F:gD):C uU:= AC (τ:=Int) (λH=> if (F.gH.gS==(-1)) then H 3 else H F.gH.gS
) λv2=> AC (τ:=Int) (λJ=> if (F.gH.sd==(-1)) then J 0 else J F.gH.sd
) λM=>
(Gj K F.rT).bind λP=>
(Du F.gH.Path).bind λQ=> some (⟨(AQ (0-P)),Q,v2,M,F.rT⟩:uU)
def Ek (J:r5)(K:gD)(M:gD):C (Int×Int):=
(HE J K).bind λv1=>
(HE J M).bind λv2=> AC (τ:=Unit) (λP=> Ai (σ:=Int) (λH F=> if (decide (F<5)) then
(iX [v1.e0,v1.e1,v1.e2,v1.e3,v1.e4] F).bind λQ=>
(iX [v2.e0,v2.e1,v2.e2,v2.e3,v2.e4] F).bind λU=> if (decide (Q<U)) then some ((-1),(AQ (F+1))) else
(iX [v1.e0,v1.e1,v1.e2,v1.e3,v1.e4] F).bind λV=>
(iX [v2.e0,v2.e1,v2.e2,v2.e3,v2.e4] F).bind λY=> if (decide (V>Y)) then some (1,(AQ (F+1))) else H (AQ (F+1)) else P ()
) rp 0
) λ_=> some (0,0)
def Hl (P:r5)(H:O gD):C (Int×I):= AC (τ:=Int) (λQ=> AI (σ:=Int) (λv2=> Q v2
) (λF (U:gD) V v2=>
(iX H v2).bind λY=>
(Ek P U Y).bind λ(Z,v8)=> AC (τ:=Int) (λM=> if (decide (Z<0)) then M (V:Int) else M v2
) λJ=> F J
) H 0 0
) λK=> some (K,(decide ((H.length:Int)>0)))
def Gp (F:re)(H:Int)(J:fv):C (gD×I):=
(DR F H J).bind λv1=> if ((v1.length:Int)==0) then some ((⟨(⟨(⟨false,(0:j),(0:j)⟩:Addr),0⟩:fv),0,(⟨0,[],(⟨false,(0:j),(0:j)⟩:Addr),0,0,0,[],[],[]⟩:gH)⟩:gD),false) else
(Ht F H).bind λv2=>
(iX F.fI v2).bind λK=>
(Hl K v1).bind λ(v4,v5)=>
(iX v1 v4).bind λM=> some (M,true)
def Il (P:re)(U:Int):C (O gD):=
(ES P).bind λv1=> AC (τ:=(O gD)) (λV=> AI (σ:=(O gD)) (λH=> V H
) (λF (Y:fv) i6 H=>
(Gp P U Y).bind λ(Z,v8)=> AC (τ:=(O gD)) (λQ=> if v8 then
(gE (α:=gD) 192 H ([Z]:O gD)).bind λJ=> Q J else Q H
) λK=> F K
) v1 0 []
) λM=> some M
def Ez (H:re):C sM:= AC (τ:=(O (O gD))) (λJ=> AI (σ:=(O (O gD))) (λv2=> J v2
) (λF (K:r5) i5 v2=>
(Il H K.r4).bind λM=>
(gE (α:=O gD) 24 v2 ([M]:O (O gD))).bind λP=> F P
) H.fI 0 []
) λQ=> some (⟨H,Q⟩:sM)
def Ey (F:r5):C r5:=
(gE (α:=Int) 8 [] F.ta).bind λ_=>
(gE (α:=sr) 16 [] F.sr).bind λ_=> some F
def DX (F:mu):C mu:=
(gE (α:=fv) 32 [] F.rU).bind λ_=>
(gE (α:=fv) 32 [] F.r7).bind λ_=>
(gE (α:=s8) 16 [] F.oE).bind λ_=>
(gE (α:=Int) 8 [] F.rI).bind λ_=>
(gE (α:=oB) 48 [] F.n9).bind λ_=>
(gE (α:=oB) 48 [] F.ry.n5).bind λ_=> AC (τ:=(O Set)) (λK=> AI (σ:=(O Set)) (λv2=> K v2
) (λH (J:Set) i5 v2=>
(gE (α:=Int) 8 [] J.n7).bind λ_=>
(gE (α:=T) 16 [] J.oT).bind λ_=>
(gE (α:=Set) 64 v2 ([J]:O Set)).bind λM=> H M
) F.ry.oT 0 []
) λP=> some ({ F with ry:=(⟨P,F.ry.n5⟩:ry) })
def DK (H:pk):C pk:=
(gE (α:=Addr) 24 [] H.r6.rz).bind λ_=> AC (τ:=(O gN)) (λK=> AI (σ:=(O gN)) (λv2=> K v2
) (λF (J:gN) i5 v2=>
(BI J.gD.gH).bind λM=>
(gE (α:=gN) 208 v2 ([{ J with gD:={ J.gD with gH:=M } }]:O gN)).bind λP=> F P
) H.gN 0 []
) λQ=> some ({ H with gN:=Q })
def E5 (K:re):C re:=
(DX K.mu).bind λv1=> AC (τ:=(O r5)) (λZ=> AI (σ:=(O r5)) (λM=> Z M
) (λH (x5:r5) i6 M=>
(Ey x5).bind λv7=>
(gE (α:=r5) 72 M ([v7]:O r5)).bind λv8=> H v8
) K.fI 0 []
) λv9=> AC (τ:=(O pk)) (λP=> AI (σ:=(O pk)) (λJ=> P J
) (λF (Q:pk) i14 J=>
(DK Q).bind λU=>
(gE (α:=pk) 104 J ([U]:O pk)).bind λV=> F V
) K.o3 0 []
) λY=> some (⟨v1,v9,Y⟩:re)
def FG (F:re):C (sM×Int):=
(EQ F).bind λv1=> if (!v1) then some ((⟨(⟨(⟨0,[],0,0,0,0,0,0,[],[],[],0,(⟨[],[]⟩:ry),[]⟩:mu),[],[]⟩:re),[]⟩:sM),1) else
(E5 F).bind λv2=>
(Ez v2).bind λH=> some (H,0)
def F8 (F:oX):C (I×oX):= some ((decide (F.At<(F.L.length:Int))),F)
def CE:C gH:= some (⟨(-1),[],(⟨false,(0:j),(0:j)⟩:Addr),(-1),(-1),(-1),[],[],[]⟩:gH)
def Bq (Z:oX):C (fv×oX):=
(AG Z 8).bind λ(v1,v2)=>
(DD v1).bind λF=>
(AG v2 8).bind λ(v4,v5)=> AC (τ:=oX×fv) (λU=> if (v4==6) then AC (τ:=Int) (λV=> if F.Addr.V6 then V 64 else V 24
) λv8=> U (v5,(⟨F.Addr,v8⟩:fv)) else AC (τ:=oX×fv) (λY=> if (v4==7) then AC (τ:=Int) (λH=> if F.Addr.V6 then H 128 else H 32
) λJ=>
(AG v5 3).bind λ(v12,K)=> Y (K,(⟨{ F.Addr with Lo:=(AY ((F.Addr.Lo.toNat:Int)+((AY v12).toNat:Int))) },J⟩:fv)) else Y (v5,F)
) λ(M,P)=> U (M,P)
) λ(Q,v17)=> some (v17,Q)
def Bm (V:oX):C ((O r8)×oX):=
(AG V 65536).bind λ(v1,v2)=> AC (τ:=oX×(O r8)) (λY=> AI (σ:=oX×(O r8)) (λ(v4,v5)=> Y (v4,v5)
) (λF (Z:r8) U (v4,v5)=> AC (τ:=I×oX) (λJ=> if ((AQ ((Wv 64 (Xcd v1 (2^(min (Xi ((AY (AQ (2*(U:Int)))).toNat:Int)) 64))) &&& Wv 64 3).toNat:Int))==3) then if (decide ((U:Int)<6)) then J (true,v4) else
(AG v4 2).bind λ(v10,v11)=> J ((cond true (cond false true (v10==0)) false),v11) else J (false,v4)
) λ(v12,K)=> AC (τ:=(O r8)) (λH=> if v12 then
(gE (α:=r8) 16 v5 ([Z]:O r8)).bind λM=> H M else H v5
) λP=> F (K,P)
) ([(⟨0,99⟩:r8),(⟨0,101⟩:r8),(⟨0,102⟩:r8),(⟨99,101⟩:r8),(⟨99,103⟩:r8),(⟨500,1⟩:r8),(⟨65535,666⟩:r8),(⟨65535,65282⟩:r8)]:O r8) 0 (v2,[])
) λ(v17,Q)=> some (Q,v17)
def D1 (P:oX):C ((O n8)×oX):=
(AG P 16384).bind λ(v1,v2)=> AC (τ:=(O n8)) (λQ=> AI (σ:=(O n8)) (λH=> Q H
) (λF (U:n8) V H=> AC (τ:=(O n8)) (λM=> if ((AQ ((Wv 64 (Xcd v1 (2^(min (Xi ((AY (AQ (2*(V:Int)))).toNat:Int)) 64))) &&& Wv 64 3).toNat:Int))==3) then
(gE (α:=n8) 24 H ([U]:O n8)).bind λY=> M Y else M H
) λJ=> F J
) ([(⟨5,5,5⟩:n8),(⟨99,0,0⟩:n8),(⟨99,0,103⟩:n8),(⟨99,1,102⟩:n8),(⟨99,101,0⟩:n8),(⟨99,102,104⟩:n8),(⟨99,103,101⟩:n8)]:O n8) 0 []
) λK=> some (K,v2)
def D6 (a0:oX)(a1:Int)(a2:I):C (gH×oX):=
(CE).bind λv1=>
(AG a0 3).bind λ(v2,v3)=>
(AG v3 4).bind λ(v4,v5)=> AC (τ:=oX×(O Int)) (λk6=> Ai (σ:=Int×oX×(O Int)) (λK (v8,v9,v10)=> if (decide (v8>0)) then
(AG v9 7).bind λ(v11,v12)=>
(iX ([a1,101,102,201,202,203,301]:O Int) v11).bind λae=>
(gE (α:=Int) 8 v10 ([ae]:O Int)).bind λaf=> K ((AQ (v8-1)),v12,af) else k6 (v9,v10)
) rp (v4,v5,([a1]:O Int))
) λ(ag,H)=>
(DO a1 a2).bind λF=>
(AG ag 3).bind λ(ah,P)=> AC (τ:=oX×Int) (λQ=> if (ah==0) then
(AG P 3).bind λ(v21,v22)=> Q (v22,v21) else Q (P,v1.sd)
) λ(ai,v24)=>
(AG ai 6).bind λ(v25,v26)=> AC (τ:=oX×Int) (λU=> if (v25==0) then
(AG v26 300).bind λ(v28,aj)=> U (aj,v28) else U (v26,v1.rh)
) λ(v30,v31)=>
(Bm v30).bind λ(v32,v33)=>
(D1 v33).bind λ(ak,v35)=>
(AG v35 24).bind λ(J,v37)=> AC (τ:=oX×(O oF)×I×j×j×Int×(O kI)) (λV=> if (J==0) then
(AG v37 300).bind λ(v39,v40)=> V (v40,[(⟨false,H⟩:oF)],F.V6,F.Hi,F.Lo,(AQ (1+v39)),v1.lf) else AC (τ:=oX×(O oF)×I×j×j×(O kI)) (λY=> if (J==1) then
(iX H 0).bind λbl=>
(sx H 0 103).bind λal=> Y (v37,[(⟨false,al⟩:oF)],F.V6,F.Hi,F.Lo,v1.lf) else AC (τ:=oX×(O oF)×I×j×j×(O kI)) (λZ=> if (J==2) then Z (v37,((⟨false,H⟩:oF)::([(⟨true,([7,9]:O Int)⟩:oF)]:O oF)),F.V6,F.Hi,F.Lo,v1.lf) else AC (τ:=oX×(O oF)×I×j×j×(O kI)) (λa6=> if (J==3) then
(gE (α:=Int) 8 H ([99]:O Int)).bind λan=> a6 (v37,[(⟨false,an⟩:oF)],F.V6,F.Hi,F.Lo,v1.lf) else AC (τ:=oX×(O oF)×I×j×j×(O kI)) (λa7=> if (J==4) then
(DO 104 a2).bind λM=> a7 (v37,[(⟨false,H⟩:oF)],M.V6,M.Hi,M.Lo,v1.lf) else AC (τ:=oX×(O oF)×(O kI)) (λa8=> if (J==5) then
(gE (α:=Int) 8 H ([64512,701]:O Int)).bind λao=> a8 (v37,[(⟨false,ao⟩:oF)],v1.lf) else AC (τ:=oX×(O oF)×(O kI)) (λaa=> if (J==6) then aa (v37,[],v1.lf) else AC (τ:=oX×(O kI)) (λab=> if (J==7) then
(AG v37 256).bind λ(v53,v54)=> ab (v54,[(⟨224,99,([(1:S),(BF v53)]:O S)⟩:kI)]) else ab (v37,v1.lf)
) λ(v55,ap)=> aa (v55,[(⟨false,H⟩:oF)],ap)
) λ(aq,v58,v59)=> a8 (aq,v58,v59)
) λ(v60,ar,au)=> a7 (v60,ar,F.V6,F.Hi,F.Lo,au)
) λ(ax,v64,ay,v66,v67,az)=> a6 (ax,v64,ay,v66,v67,az)
) λ(b0,v70,ba,v72,bb,bc)=> Z (b0,v70,ba,v72,bb,bc)
) λ(v75,v76,v77,v78,v79,v80)=> Y (v75,v76,v77,v78,v79,v80)
) λ(bd,v82,be,bf,v85,bg)=> V (bd,v82,be,bf,v85,v1.rX,bg)
) λ(v87,bh,bi,bj,v91,bk,v93)=> some ((⟨v2,bh,(⟨bi,bj,v91⟩:Addr),v24,v31,bk,v32,ak,v93⟩:gH),v87)
def D5 (H:oX)(F:Int):C (gD×oX):=
(Bq H).bind λ(v1,v2)=>
(D6 v2 F v1.Addr.V6).bind λ(v3,v4)=> some ((⟨v1,F,v3⟩:gD),v4)
def DV (a0:oX)(a1:Int):C (rZ×oX):=
(CE).bind λv1=>
(AG a0 3).bind λ(v2,v3)=> AC (τ:=oX×(O fv)) (λk4=> Ai (σ:=Int×oX×(O fv)) (λH (v6,v7,v8)=> AC (τ:=I×oX) (λk9=> if (decide (v6>0)) then
(AG v7 2).bind λ(v10,v11)=> k9 ((cond true (v10==0) false),v11) else k9 (false,v7)
) λ(v12,J)=> if v12 then
(Bq J).bind λ(Q,U)=>
(gE (α:=fv) 32 v8 ([Q]:O fv)).bind λV=> H ((AQ (v6-1)),U,V) else k4 (J,v8)
) rp (v2,v3,[])
) λ(v17,Y)=>
(AG v17 5).bind λ(Z,v20)=> AC (τ:=oX×Int×(O oF)×I×j×j×Int×Int×Int×(O r8)×(O n8)×(O kI)×(O fv)) (λK=> if (decide (Z>0)) then
(D5 v20 a1).bind λ(v22,a6)=>
(AG a6 3).bind λ(v24,v25)=> AC (τ:=oX×(O fv)) (λa7=> Ai (σ:=Int×oX×(O fv)) (λF (v28,M,v30)=> if (decide (v28>0)) then
(Bq M).bind λ(v31,v32)=> AC (τ:=(O fv)) (λP=> if (v31.Addr.V6==v22.fv.Addr.V6) then
(gE (α:=fv) 32 v30 ([v31]:O fv)).bind λa8=> P a8 else P v30
) λaa=> F ((AQ (v28-1)),v32,aa) else a7 (M,v30)
) rp (v24,v25,([v22.fv]:O fv))
) λ(ab,v37)=> K (ab,v22.gH.gS,v22.gH.Path,v22.gH.Next.V6,v22.gH.Next.Hi,v22.gH.Next.Lo,v22.gH.sd,v22.gH.rh,v22.gH.rX,v22.gH.fT,v22.gH.n8,v22.gH.lf,v37) else K (v20,v1.gS,v1.Path,v1.Next.V6,v1.Next.Hi,v1.Next.Lo,v1.sd,v1.rh,v1.rX,v1.fT,v1.n8,v1.lf,[])
) λ(ae,v39,v40,v41,af,ag,v44,v45,v46,ah,ai,v49,v50)=> some ((⟨Y,(⟨v39,v40,(⟨v41,af,ag⟩:Addr),v44,v45,v46,ah,ai,v49⟩:gH),v50⟩:rZ),ae)
def DY (a0:oX)(a1:re):C (sX×oX):=
(AG a0 (if (a1.fI.length:Int)>1 then (a1.fI.length:Int) else 1)).bind λ(v1,v2)=>
(AG v2 10).bind λ(v3,v4)=>
(iX ([1,1,1,1,1,1,2,3,4,5]:O Int) v3).bind λH=> AC (τ:=oX×sX) (λk6=> if (H==1) then
(DV v4 (AQ (101+v1))).bind λ(v7,v8)=> k6 (v8,(⟨H,(AQ (101+v1)),0,0,v7,(⟨0,false,false,false,0,[],[]⟩:r5)⟩:sX)) else AC (τ:=oX×Int×Int×Int×I×I×I×Int×(O Int)×(O sr)) (λk9=> if (H==3) then
(AG v4 50).bind λ(v10,v11)=>
(AG v11 3).bind λ(v12,M)=>
(iX ([0,5,60]:O Int) v12).bind λP=> k9 (M,v10,P,0,false,false,false,0,[],[]) else AC (τ:=oX×Int×Int×I×I×I×Int×(O Int)×(O sr)) (λJ=> if (H==4) then
(CO v4 (AQ (101+v1))).bind λ(F,v17)=> J (v17,0,F.r4,F.wI,F.wW,F.uk,F.rV,F.ta,F.sr) else AC (τ:=oX×Int) (λK=> if (H==5) then
(AG v4 3).bind λ(Q,v20)=> K (v20,Q) else K (v4,0)
) λ(v21,v22)=> J (v21,v22,0,false,false,false,0,[],[])
) λ(U,v24,v25,v26,V,v28,Y,v30,v31)=> k9 (U,0,v24,v25,v26,V,v28,Y,v30,v31)
) λ(v32,v33,Z,v35,a6,v37,a7,v39,v40,v41)=> k6 (v32,(⟨H,(AQ (101+v1)),v33,Z,(⟨[],(⟨0,[],(⟨false,(0:j),(0:j)⟩:Addr),0,0,0,[],[],[]⟩:gH),[]⟩:rZ),(⟨v35,a6,v37,a7,v39,v40,v41⟩:r5)⟩:sX))
) λ(a8,aa)=> some (aa,a8)
def Fe (a0:O gD)(a1:O gD):C (O fv):=
(gE (α:=gD) 192 [] a0).bind λ_=>
(gE (α:=gD) 192 a0 a1).bind λv1=> AC (τ:=(O fv)) (λk2=> AI (σ:=(O fv)) (λH=> k2 H
) (λK (V:gD) i6 H=> AC (τ:=(O fv)) (λk7=> AC (τ:=Int) (λk8=> Ai (σ:=Int) (λM J=> AC (τ:=I) (λP=> if (decide (J<(H.length:Int))) then
(iX H J).bind λY=>
(BP Y V.fv).bind λZ=> P (cond true (decide (Z<0)) false) else P false
) λa6=> if a6 then M (AQ (J+1)) else k8 J
) rp 0
) λF=> AC (τ:=I) (λQ=> if (F==(H.length:Int)) then Q true else
(iX H F).bind λa7=> Q (cond false true (!(fv.rO a7 V.fv)))
) λa8=> AC (τ:=(O fv)) (λU=> if a8 then
(sR (0<=F/\F<=(H.length:Int)/\(H.length:Int)<=(H.length:Int))).bind λ_=>
(gE (α:=fv) 32 [] (Xaq (Xi (H.length:Int)-Xi F) (Xat (Xi F) H))).bind λ_=>
(part H 0 F).bind λaa=>
(gE (α:=fv) 32 aa ([V.fv]:O fv)).bind λab=>
(gE (α:=fv) 32 ab (Xaq (Xi (H.length:Int)-Xi F) (Xat (Xi F) H))).bind λae=> U ae else U H
) λaf=> k7 af
) λag=> K ag
) v1 0 []
) λah=> some ah
def EK (J:O gD)(K:fv):C (gD×I):= AC (τ:=Unit) (λM=> AI (σ:=Unit) (λ_=> M ()
) (λF (H:gD) i4 _=> if (fv.rO H.fv K) then some (H,true) else F ()
) J 0 ()
) λ_=> some ((⟨(⟨(⟨false,(0:j),(0:j)⟩:Addr),0⟩:fv),0,(⟨0,[],(⟨false,(0:j),(0:j)⟩:Addr),0,0,0,[],[],[]⟩:gH)⟩:gD),false)
def EM (H:O Int)(J:O Int):C I:= if ((H.length:Int) !=(J.length:Int)) then some false else AC (τ:=Unit) (λK=> AI (σ:=Unit) (λ_=> K ()
) (λF (M:Int) P _=>
(iX J (P:Int)).bind λQ=> if (M !=Q) then some false else F ()
) H 0 ()
) λ_=> some true
def B6 (H:gH)(F:gH):C I:= AC (τ:=I) (λJ=> if (H.gS !=F.gS) then J true else if (cond false true (!(Addr.rO H.Next F.Next))) then J true else if (cond false true (H.sd !=F.sd)) then J true else if (cond false true (H.rh !=F.rh)) then J true else if (cond false true (H.rX !=F.rX)) then J true else if (cond false true ((H.Path.length:Int) !=(F.Path.length:Int))) then J true else if (cond false true ((H.fT.length:Int) !=(F.fT.length:Int))) then J true else if (cond false true ((H.n8.length:Int) !=(F.n8.length:Int))) then J true else J (cond false true ((H.lf.length:Int) !=(F.lf.length:Int)))
) λv2=> if v2 then some false else AC (τ:=Unit) (λk3=> AI (σ:=Unit) (λ_=> k3 ()
) (λQ (x5:oF) i6 _=> AC (τ:=I) (λk7=>
(iX F.Path (i6:Int)).bind λv8=> if (!(x5.Set==v8.Set)) then k7 true else
(iX F.Path (i6:Int)).bind λv9=>
(EM x5.n7 v9.n7).bind λZ=> k7 (cond false true (!Z))
) λa6=> if a6 then some false else Q ()
) H.Path 0 ()
) λ_=> AC (τ:=Unit) (λa7=> AI (σ:=Unit) (λ_=> a7 ()
) (λK (wg:r8) a8 _=>
(iX F.fT (a8:Int)).bind λaa=> if (!(r8.rO wg aa)) then some false else K ()
) H.fT 0 ()
) λ_=> AC (τ:=Unit) (λab=> AI (σ:=Unit) (λ_=> ab ()
) (λM (ae:n8) af _=>
(iX F.n8 (af:Int)).bind λag=> if (!(n8.rO ae ag)) then some false else M ()
) H.n8 0 ()
) λ_=> AC (τ:=Unit) (λah=> AI (σ:=Unit) (λ_=> ah ()
) (λP (U:kI) V _=> AC (τ:=I) (λY=>
(iX F.lf (V:Int)).bind λai=> if (U.Flags !=ai.Flags) then Y true else
(iX F.lf (V:Int)).bind λaj=> if (cond false true (U.oA !=aj.oA)) then Y true else
(iX F.lf (V:Int)).bind λak=> Y (cond false true (!((bs U.Data).toList==(bs ak.Data).toList)))
) λal=> if al then some false else P ()
) H.lf 0 ()
) λ_=> some true
def Aw (F:gD)(H:gD):C I:= AC (τ:=I) (λJ=> if (fv.rO F.fv H.fv) then if (cond true (F.rT==H.rT) false) then
(B6 F.gH H.gH).bind λv2=> J (cond true v2 false) else J false else J false
) λK=> some K
def Az (J:O gD):C (O gD):= AC (τ:=(O gD)) (λK=> AI (σ:=(O gD)) (λv2=> K v2
) (λF (H:gD) i5 v2=>
(BI H.gH).bind λM=>
(gE (α:=gD) 192 v2 ([{ H with gH:=M }]:O gD)).bind λP=> F P
) J 0 []
) λQ=> some Q
def EU (a0:Int)(a1:O gD)(a2:O gD):C (O rG):=
(Fe a1 a2).bind λv1=> AC (τ:=(O rG)) (λk2=> AI (σ:=(O rG)) (λK=> k2 K
) (λF (M:fv) i6 K=> AC (τ:=(O rG)) (λk7=>
(EK a1 M).bind λ(v8,v9)=>
(EK a2 M).bind λ(v10,v11)=> AC (τ:=I) (λH=> if (v9==v11) then
(Aw v8 v10).bind λP=> H (cond true P false) else H false
) λQ=> if Q then k7 K else AC (τ:=rG) (λJ=> if v11 then
(Az ([v10]:O gD)).bind λU=>
(iX U 0).bind λV=> J (⟨a0,M,v11,V⟩:rG) else J (⟨a0,M,v11,(⟨(⟨(⟨false,(0:j),(0:j)⟩:Addr),0⟩:fv),0,(⟨0,[],(⟨false,(0:j),(0:j)⟩:Addr),0,0,0,[],[],[]⟩:gH)⟩:gD)⟩:rG)
) λY=>
(gE (α:=rG) 240 K ([Y]:O rG)).bind λZ=> k7 Z
) λa6=> F a6
) v1 0 []
) λa7=> some a7
def Dw (Z:O oF)(J:O oF):C I:= if ((Z.length:Int) !=(J.length:Int)) then some false else AC (τ:=Unit) (λk1=> AI (σ:=Unit) (λ_=> k1 ()
) (λH (K:oF) M _=> AC (τ:=Unit) (λk5=> AC (τ:=I) (λk6=>
(iX J (M:Int)).bind λv7=> if (!(K.Set==v7.Set)) then k6 true else
(iX J (M:Int)).bind λv8=> k6 (cond false true ((K.n7.length:Int) !=(v8.n7.length:Int)))
) λv9=> if v9 then some false else AC (τ:=Unit) (λP=> AI (σ:=Unit) (λ_=> P ()
) (λF (Q:Int) U _=>
(iX J (M:Int)).bind λV=>
(iX V.n7 (U:Int)).bind λY=> if (Y !=Q) then some false else F ()
) K.n7 0 ()
) λ_=> k5 ()
) λ_=> H ()
) Z 0 ()
) λ_=> some true
def Dy (H:O r8)(J:O r8):C I:= if ((H.length:Int) !=(J.length:Int)) then some false else AC (τ:=Unit) (λK=> AI (σ:=Unit) (λ_=> K ()
) (λF (M:r8) P _=>
(iX J (P:Int)).bind λQ=> if (!(r8.rO Q M)) then some false else F ()
) H 0 ()
) λ_=> some true
def BJ (H:O n8)(J:O n8):C I:= if ((H.length:Int) !=(J.length:Int)) then some false else AC (τ:=Unit) (λK=> AI (σ:=Unit) (λ_=> K ()
) (λF (M:n8) P _=>
(iX J (P:Int)).bind λQ=> if (!(n8.rO Q M)) then some false else F ()
) H 0 ()
) λ_=> some true
def BY (P:O kI)(H:O kI):C I:= if ((P.length:Int) !=(H.length:Int)) then some false else AC (τ:=Unit) (λQ=> AI (σ:=Unit) (λ_=> Q ()
) (λF (J:kI) K _=> AC (τ:=I) (λM=>
(iX H (K:Int)).bind λU=> if (J.Flags !=U.Flags) then M true else
(iX H (K:Int)).bind λV=> if (cond false true (J.oA !=V.oA)) then M true else
(iX H (K:Int)).bind λY=> M (cond false true (!((bs J.Data).toList==(bs Y.Data).toList)))
) λZ=> if Z then some false else F ()
) P 0 ()
) λ_=> some true
def CQ (F:gH)(H:gH):C I:= AC (τ:=I) (λJ=> if (F.gS==H.gS) then
(Dw F.Path H.Path).bind λv2=> if (cond true v2 false) then if (cond true (Addr.rO F.Next H.Next) false) then if (cond true (F.sd==H.sd) false) then if (cond true (F.rh==H.rh) false) then if (cond true (F.rX==H.rX) false) then
(Dy F.fT H.fT).bind λK=> if (cond true K false) then
(BJ F.n8 H.n8).bind λM=> if (cond true M false) then
(BY F.lf H.lf).bind λP=> J (cond true P false) else J false else J false else J false else J false else J false else J false else J false else J false
) λQ=> some Q
def AP (H:Int)(J:Int):C (O S):= AC (τ:=(O S)) (λK=> Ai (σ:=Int×(O S)) (λF (v3,v4)=> if (decide (v3≥0)) then
(gE (α:=S) 1 v4 ([(BF (Xcd H (2^(min (Xi ((AY (8*((AY v3).toNat:Int))).toNat:Int)) 64))))]:O S)).bind λM=> F ((AQ (v3-1)),M) else K v4
) rp ((AQ (J-1)),[])
) λP=> some P
def FX (F:gH):Option ((O kI)×Int):=
(Bf F).bind λv1=> if (!v1) then some ([],1) else AC (τ:=(O (Int×(O S)))) (λk2=> if (decide (F.gS≥0)) then k2 (A3 [] 1 ([(BF F.gS)]:O S)) else k2 []
) λv3=> AC (τ:=I) (λk4=> if (decide (F.gS≥0)) then k4 true else k4 (cond false true (decide ((F.Path.length:Int)>0)))
) λv5=> AC (τ:=(O (Int×(O S)))) (λk6=> if v5 then AC (τ:=(O S)) (λk7=> AI (σ:=(O S)) (λv8=> k7 v8
) (λV (Y:oF) i11 v8=> AC (τ:=(O S)) (λaz=> AC (τ:=S) (λa8=> if Y.Set then a8 (1:S) else a8 (2:S)
) λb0=>
(gE (α:=S) 1 v8 ([b0,(BF (Y.n7.length:Int))]:O S)).bind λba=> AC (τ:=(O S)) (λbb=> AI (σ:=(O S)) (λZ=> bb Z
) (λJ (bc:Int) i20 Z=>
(AP bc 4).bind λbd=>
(gE (α:=S) 1 Z bd).bind λbe=> J be
) Y.n7 0 ba
) λbf=> az bf
) λbg=> V bg
) F.Path 0 ([]:O S)
) λbh=> k6 (A3 v3 2 bh) else k6 v3
) λaa=> AC (τ:=I) (λab=> if (!(Addr.rO F.Next (⟨false,(0:j),(0:j)⟩:Addr))) then ab (cond true (!F.Next.V6) false) else ab false
) λbi=> AC (τ:=(O (Int×(O S)))) (λae=> if bi then
(BC F.Next).bind λbj=> ae (A3 aa 3 bj) else ae aa
) λaf=> AC (τ:=(O (Int×(O S)))) (λag=> if (decide (F.sd≥0)) then
(AP F.sd 4).bind λbk=> ag (A3 af 4 bk) else ag af
) λah=> AC (τ:=(O (Int×(O S)))) (λai=> if (decide (F.rh≥0)) then
(AP F.rh 4).bind λbl=> ai (A3 ah 5 bl) else ai ah
) λaj=> AC (τ:=(O (Int×(O S)))×(O S)) (λbm=>
(sR ((A8 aj 8).isNone=true)).bind λ_=> AI (σ:=(O (Int×(O S)))×(O S)) (λ(v39,v40)=> bm (v39,v40)
) (λK (ak:r8) i43 (v39,v40)=>
(AP ak.A 2).bind λbn=>
(gE (α:=S) 1 v40 bn).bind λbo=>
(AP ak.B 2).bind λbp=>
(gE (α:=S) 1 bo bp).bind λal=> K ((A3 v39 8 al),al)
) F.fT 0 (aj,[])
) λ(an,v49)=> AC (τ:=(O (Int×(O S)))×(O S)) (λbq=>
(sR ((A8 an 32).isNone=true)).bind λ_=> AI (σ:=(O (Int×(O S)))×(O S)) (λ(v51,a1)=> bq (v51,a1)
) (λM (a6:n8) i55 (v51,a1)=>
(AP a6.A 4).bind λbr=>
(gE (α:=S) 1 a1 br).bind λbu=>
(AP a6.B 4).bind λbw=>
(gE (α:=S) 1 bu bw).bind λbx=>
(AP a6.C 4).bind λbz=>
(gE (α:=S) 1 bx bz).bind λao=> M ((A3 v51 32 ao),ao)
) F.n8 0 (an,[])
) λ(ap,cd)=> AC (τ:=(O (Int×(O S)))) (λaq=> if (decide (F.rX≥0)) then
(AP F.rX 4).bind λc0=> aq (A3 ap 35 c0) else aq ap
) λar=> AC (τ:=(O kI)) (λc1=> Ai (σ:=Int×(O kI)) (λP (H,v70)=> if (decide (H<256)) then AC (τ:=(O kI)) (λc2=>
(some (Xde (A8 ar H) [])).bind λau=>
(some (Option.isSome (A8 ar H))).bind λc3=> AC (τ:=(O kI)) (λax=> if c3 then
(A9 H).bind λc4=>
(gE (α:=S) 1 [] au).bind λ_=>
(gE (α:=kI) 40 v70 ([(⟨c4,H,au⟩:kI)]:O kI)).bind λc5=> ax c5 else ax v70
) λc6=> AC (τ:=(O kI)) (λc7=> AI (σ:=(O kI)) (λQ=> c7 Q
) (λU (a7:kI) i82 Q=> AC (τ:=(O kI)) (λay=> if (a7.oA==H) then
(gE (α:=S) 1 [] a7.Data).bind λ_=>
(gE (α:=kI) 40 Q ([{ a7 with oA:=H }]:O kI)).bind λc8=> ay c8 else ay Q
) λc9=> U c9
) F.lf 0 c6
) λca=> c2 ca
) λcb=> P ((AQ (H+1)),cb) else c1 v70
) rp (0,[])
) λcc=> some (cc,0)
def Dn (Q:O fv)(U:I):C (O S):= AC (τ:=(O S)) (λV=> AI (σ:=(O S)) (λv2=> V v2
) (λF (H:fv) i5 v2=> AC (τ:=(O S)) (λM=> if (H.Addr.V6==U) then
(gE (α:=S) 1 v2 ([(BF H.rL)]:O S)).bind λY=>
(BC H.Addr).bind λP=>
(sR (0<=(0:Int)/\(0:Int)<=(AQ (Int.tdiv (AQ (H.rL+7)) 8))/\(AQ (Int.tdiv (AQ (H.rL+7)) 8))<=(P.length:Int))).bind λ_=>
(gE (α:=S) 1 Y (Xaq (Xi (AQ (Int.tdiv (AQ (H.rL+7)) 8))-Xi 0) (Xat (Xi 0) P))).bind λZ=> M Z else M v2
) λJ=> F J
) Q 0 []
) λK=> some K
def FK (H:O kI)(P:kI):C (O kI):= AC (τ:=Int) (λY=> Ai (σ:=Int) (λF J=> AC (τ:=I) (λQ=> if (decide (J<(H.length:Int))) then
(iX H J).bind λZ=> Q (cond true (decide (Z.oA<P.oA)) false) else Q false
) λv6=> if v6 then F (AQ (J+1)) else Y J
) rp 0
) λU=>
(part H 0 U).bind λV=>
(gE (α:=kI) 40 [] V).bind λ_=>
(gE (α:=kI) 40 V ([P]:O kI)).bind λv9=>
(part H U (H.length:Int)).bind λK=>
(gE (α:=kI) 40 v9 K).bind λM=> some M
def Hf (a0:O kI):C ((O S)×Int):= AC (τ:=Unit) (λk1=> AI (σ:=Unit) (λ_=> k1 ()
) (λH (K:kI) i4 _=> AC (τ:=I) (λM=> if (decide (K.Flags<0)) then M true else if (cond false true (decide (K.Flags>255))) then M true else if (cond false true (decide (K.oA<0))) then M true else if (cond false true (decide (K.oA>255))) then M true else M (cond false true (decide ((K.Data.length:Int)>65535)))
) λv6=> if v6 then some ([],1) else H ()
) a0 0 ()
) λ_=> AC (τ:=(O S)) (λk7=> AI (σ:=(O S)) (λU=> k7 U
) (λJ (F:kI) i11 U=> AC (τ:=(O S)) (λP=> if (decide ((F.Data.length:Int)>255)) then
(gE (α:=S) 1 U ([(BF ((Wv 8 ((BF ((Wv 8 ((BF F.Flags).toNat:Int) &&& Wv 8 224).toNat:Int)).toNat:Int) ||| Wv 8 16).toNat:Int)),(BF F.oA),(BF (Xcd (F.Data.length:Int) (2^(min (Xi 8) 64)))),(BF (F.Data.length:Int))]:O S)).bind λV=> P V else
(gE (α:=S) 1 U ([(BF ((Wv 8 ((BF F.Flags).toNat:Int) &&& Wv 8 224).toNat:Int)),(BF F.oA),(BF (F.Data.length:Int))]:O S)).bind λY=> P Y
) λZ=>
(gE (α:=S) 1 Z F.Data).bind λa1=> J a1
) a0 0 []
) λQ=> if (decide ((Q.length:Int)>2048)) then some ([],3) else some (Q,0)
def FO (F:rZ):C ((O S)×Int):= AC (τ:=(O kI)) (λk1=> if (decide ((F.gT.length:Int)>0)) then
(FX F.gH).bind λ(v2,v3)=> if (v3 !=0) then some ([],v3) else k1 v2 else k1 []
) λv4=>
(Dn F.gT true).bind λv5=> AC (τ:=(O kI)) (λk6=> if (decide ((v5.length:Int)>0)) then
(BC F.gH.Next).bind λv7=>
(gE (α:=S) 1 ([(0:S),(2:S),(1:S),(16:S)]:O S) v7).bind λv8=>
(gE (α:=S) 1 v8 ([(0:S)]:O S)).bind λv9=>
(gE (α:=S) 1 v9 v5).bind λU=>
(FK v4 (⟨128,14,U⟩:kI)).bind λV=> k6 V else k6 v4
) λK=>
(Dn F.qv true).bind λM=> AC (τ:=(O kI)) (λP=> if (decide ((M.length:Int)>0)) then
(gE (α:=S) 1 ([(0:S),(2:S),(1:S)]:O S) M).bind λY=>
(FK K (⟨128,15,Y⟩:kI)).bind λZ=> P Z else P K
) λa1=>
(Hf a1).bind λ(H,Q)=> if (Q !=0) then some ([],Q) else
(Dn F.qv false).bind λJ=>
(gE (α:=S) 1 ([(BF (Xcd (J.length:Int) (2^(min (Xi 8) 64)))),(BF (J.length:Int))]:O S) J).bind λa6=>
(gE (α:=S) 1 a6 ([(BF (Xcd (H.length:Int) (2^(min (Xi 8) 64)))),(BF (H.length:Int))]:O S)).bind λa7=>
(gE (α:=S) 1 a7 H).bind λa8=>
(Dn F.gT false).bind λaa=>
(gE (α:=S) 1 a8 aa).bind λab=> some (ab,0)
def Gq (F:rZ):C I:= AC (τ:=I) (λk1=> if (decide ((F.qv.length:Int)>256)) then k1 true else k1 (cond false true (decide ((F.gT.length:Int)>256)))
) λv2=> if v2 then some false else
(gE (α:=fv) 32 [] F.qv).bind λ_=>
(gE (α:=fv) 32 F.qv F.gT).bind λv3=> AC (τ:=Unit) (λk4=> AI (σ:=Unit) (λ_=> k4 ()
) (λK (x6:fv) i7 _=>
(Ae x6).bind λv8=> if (!v8) then some false else K ()
) v3 0 ()
) λ_=> AC (τ:=I) (λk9=> if ((F.gT.length:Int)==0) then
(CE).bind λP=>
(CQ F.gH P).bind λQ=> k9 (cond true (!Q) false) else k9 false
) λU=> if U then some false else AC (τ:=Unit) (λV=> AI (σ:=Unit) (λ_=> V ()
) (λH (vj:fv) i16 _=> AC (τ:=I) (λJ=> if (!(vj.Addr.V6==F.gH.Next.V6)) then J true else if (cond false true (F.gH.gS==(-1))) then J true else if (cond false true (Addr.rO F.gH.Next (⟨false,(0:j),(0:j)⟩:Addr))) then J true else
(Bf F.gH).bind λY=> J (cond false true (!Y))
) λZ=> if Z then some false else H ()
) F.gT 0 ()
) λ_=>
(FO F).bind λ(v20,v21)=> AC (τ:=I) (λM=> if (v21==0) then M (cond true (decide ((v20.length:Int)<=4077)) false) else M false
) λa1=> some a1
def DJ (K:O gN)(M:fv):C (O gN):= AC (τ:=(O gN)) (λP=> AI (σ:=(O gN)) (λv2=> P v2
) (λF (H:gN) i5 v2=> AC (τ:=(O gN)) (λJ=> if (!(fv.rO H.gD.fv M)) then
(gE (α:=gN) 208 v2 ([H]:O gN)).bind λQ=> J Q else J v2
) λU=> F U
) K 0 []
) λV=> some V
def IV (F:gD):C I:= AC (τ:=I) (λH=>
(Ae F.fv).bind λv2=> if (!v2) then H true else
(Bf F.gH).bind λJ=> if (cond false true (!J)) then H true else if (cond false true (F.gH.gS==(-1))) then H true else if (cond false true ((F.gH.Path.length:Int)==0)) then H true else if (cond false true (Addr.rO F.gH.Next (⟨false,(0:j),(0:j)⟩:Addr))) then H true else H (cond false true (!(F.gH.Next.V6==F.fv.Addr.V6)))
) λK=> some K
def Gt (F:O oF):C (Int×I):= AC (τ:=I) (λH=>
(CH F).bind λv2=> if (!v2) then H true else if (cond false true ((F.length:Int)==0)) then H true else
(iX F 0).bind λJ=> H (cond false true J.Set)
) λK=> if K then some (0,false) else
(iX F 0).bind λM=>
(iX M.n7 0).bind λP=> some (P,true)
def FS (H:O Int)(J:Int):C I:= AC (τ:=Unit) (λK=> AI (σ:=Unit) (λ_=> K ()
) (λF (M:Int) i4 _=> if (M==J) then some true else F ()
) H 0 ()
) λ_=> some false
def Ep (F:Int)(K:Int)(H:gH):C (gH×Int):=
(Fa F K).bind λv1=> if v1 then some ((⟨0,[],(⟨false,(0:j),(0:j)⟩:Addr),0,0,0,[],[],[]⟩:gH),1) else AC (τ:=I) (λP=> if (F==3) then P true else P (cond false true (F==2))
) λQ=> AC (τ:=I) (λJ=> if (H.rX !=(-1)) then if (cond true (!Q) false) then if (F !=4) then J true else J (cond true (cond false true (H.rX !=K)) false) else J false else J false
) λV=> if V then some ((⟨0,[],(⟨false,(0:j),(0:j)⟩:Addr),0,0,0,[],[],[]⟩:gH),30) else AC (τ:=I) (λM=> if (H.rX==(-1)) then if Q then M true else M (cond true (cond false true (F==4)) false) else M false
) λY=> AC (τ:=Int) (λU=> if Y then U K else U H.rX
) λZ=> some (({ H with rX:=Z }),0)
def Fj (a0:mu)(a1:r6)(Q:gH):C (O Int):=
(Gt Q.Path).bind λ(v1,v2)=> AC (τ:=I) (λk3=> if (!v2) then k3 true else k3 (cond false true (v1 !=a1.r4))
) λv4=> AC (τ:=(O Int)) (λk5=> if v4 then
(gE (α:=Int) 8 [] ([2]:O Int)).bind λv6=> k5 v6 else k5 []
) λv7=> AC (τ:=I) (λk8=> AI (σ:=I) (λv9=> k8 v9
) (λF (aq:Addr) i12 v9=> AC (τ:=I) (λa6=> if v9 then a6 true else a6 (cond false true (Addr.rO aq Q.Next))
) λar=> F ar
) a1.rz 0 false
) λau=> AC (τ:=(O Int)) (λa7=> if (!au) then
(gE (α:=Int) 8 v7 ([3]:O Int)).bind λax=> a7 ax else a7 v7
) λa8=>
(Du Q.Path).bind λay=> AC (τ:=(O Int)) (λaa=> if (decide (ay>a0.rV)) then
(gE (α:=Int) 8 a8 ([4]:O Int)).bind λaz=> aa az else aa a8
) λab=>
(FW Q.Path a0.sK).bind λb0=> AC (τ:=(O Int)) (λae=> if b0 then
(gE (α:=Int) 8 ab ([5]:O Int)).bind λba=> ae ba else ae ab
) λaf=> AC (τ:=I) (λbb=> AI (σ:=I) (λU=> bb U
) (λH (bc:oF) i31 U=> AC (τ:=I) (λag=> if U then ag true else ag (cond false true bc.Set)
) λbd=> H bd
) Q.Path 0 false
) λbe=>
(DG Q.Path).bind λbf=> AC (τ:=I×I) (λbg=> AI (σ:=I×I) (λ(v37,V)=> bg (v37,V)
) (λJ (K:Int) i41 (v37,V)=> AC (τ:=I×I) (λbh=> AC (τ:=I) (λbi=> AI (σ:=I) (λY=> bi Y
) (λM (ah:s8) i47 Y=> AC (τ:=I) (λZ=> if Y then Z true else if (decide (K≥ah.rT)) then Z (cond false true (cond true (decide (K<=ah.To)) false)) else Z false
) λbj=> M bj
) a0.oE 0 v37
) λbk=> AC (τ:=I) (λP=> if V then P true else if (K !=a1.r4) then
(FS a0.rI K).bind λbl=> if (cond true bl false) then
(FS a0.rI a1.r4).bind λbm=> P (cond false true (cond true (!bm) false)) else P false else P false
) λbn=> bh (bk,bn)
) λ(v55,bo)=> J (v55,bo)
) bf 0 (false,false)
) λ(bp,v58)=> AC (τ:=(O Int)) (λai=> if be then
(gE (α:=Int) 8 af ([6]:O Int)).bind λbq=> ai bq else ai af
) λaj=> AC (τ:=(O Int)) (λak=> if bp then
(gE (α:=Int) 8 aj ([7]:O Int)).bind λbr=> ak br else ak aj
) λal=> AC (τ:=(O Int)) (λan=> if v58 then
(gE (α:=Int) 8 al ([8]:O Int)).bind λbu=> an bu else an al
) λao=>
(Ep 1 a1.r4 Q).bind λ(c0,bw)=> AC (τ:=(O Int)) (λap=> if (bw==30) then
(gE (α:=Int) 8 ao ([9]:O Int)).bind λbx=> ap bx else ap ao
) λbz=> some bz
def CU (F:fv)(J:Addr):C I:=
(CS J F.rL).bind λ(v1,v2)=> AC (τ:=I) (λH=> if (v2==0) then H (cond true (fv.rO v1 F) false) else H false
) λK=> some K
def A7 (F:fv)(H:fv):C I:= AC (τ:=I) (λJ=> if (decide (H.rL≥F.rL)) then
(CU F H.Addr).bind λv2=> J (cond true v2 false) else J false
) λK=> some K
def HT (F:mu)(H:gD):C I:= AC (τ:=Int×Int×Int) (λJ=> if H.fv.Addr.V6 then J (F.sl,F.ri,F.rS) else J (F.sq,F.rj,F.rR)
) λ(v2,v3,v4)=>
(Ds H.gH).bind λM=> if M then some (decide (H.fv.rL<v4)) else AC (τ:=I) (λK=> if (decide (H.fv.rL<v2)) then K true else K (cond false true (decide (H.fv.rL>v3)))
) λP=> some P
def Dm (J:O oB):C (O oB):= AC (τ:=(O oB)) (λK=> AI (σ:=(O oB)) (λv2=> K v2
) (λF (H:oB) i5 v2=>
(DC H.fv.Addr.V6).bind λM=>
(gE (α:=oB) 48 v2 ([{ H with Max:=M }]:O oB)).bind λP=> F P
) J 0 []
) λQ=> some Q
def F6 (F:O oF):C (Int×I):= AC (τ:=I) (λH=>
(CH F).bind λv2=> if (!v2) then H true else if (cond false true ((F.length:Int)==0)) then H true else
(iX F (AQ ((F.length:Int)-1))).bind λK=> H (cond false true K.Set)
) λM=> if M then some (0,false) else
(DG F).bind λJ=>
(iX J (AQ ((J.length:Int)-1))).bind λP=> some (P,true)
def E4 (J:ry)(K:T):C (Set×I):= AC (τ:=Unit) (λM=> AI (σ:=Unit) (λ_=> M ()
) (λF (H:Set) i4 _=> if (H.Name.toList==K.toList) then some (H,true) else F ()
) J.oT 0 ()
) λ_=> some ((⟨Xaj,[],[]⟩:Set),false)
def Br (F:O T)(P:T):C (O T):= AC (τ:=Int) (λk1=> Ai (σ:=Int) (λH K=> AC (τ:=I) (λZ=> if (decide (K<(F.length:Int))) then
(iX F K).bind λv5=> Z (cond true (Op.bytesLess v5.toList P.toList) false) else Z false
) λv6=> if v6 then H (AQ (K+1)) else k1 K
) rp 0
) λM=> AC (τ:=I) (λk8=> if (decide (M<(F.length:Int))) then
(iX F M).bind λv9=> k8 (cond true (v9.toList==P.toList) false) else k8 false
) λQ=> if Q then some F else
(part F 0 M).bind λJ=>
(gE (α:=T) 16 [] J).bind λ_=>
(gE (α:=T) 16 J ([P]:O T)).bind λU=>
(part F M (F.length:Int)).bind λV=>
(gE (α:=T) 16 U V).bind λY=> some Y
def Dx (F:O Int)(P:Int):C (O Int):= AC (τ:=Int) (λk1=> Ai (σ:=Int) (λH K=> AC (τ:=I) (λZ=> if (decide (K<(F.length:Int))) then
(iX F K).bind λv5=> Z (cond true (decide (v5<P)) false) else Z false
) λv6=> if v6 then H (AQ (K+1)) else k1 K
) rp 0
) λM=> AC (τ:=I) (λk8=> if (decide (M<(F.length:Int))) then
(iX F M).bind λv9=> k8 (cond true (v9==P) false) else k8 false
) λQ=> if Q then some F else
(part F 0 M).bind λJ=>
(gE (α:=Int) 8 [] J).bind λ_=>
(gE (α:=Int) 8 J ([P]:O Int)).bind λU=>
(part F M (F.length:Int)).bind λV=>
(gE (α:=Int) 8 U V).bind λY=> some Y
def Ft (V:ry)(Y:T):C ((O Int)×(O T)×Int):=
(EJ V).bind λv1=> if (!v1) then some ([],[],1) else
(E4 V Y).bind λ(v2,v3)=> if (!v3) then some ([],[],11) else AC (τ:=(O Int)×(O T)) (λk4=> Ai (σ:=(O Int)×(O T)×(O (T×I))×(O T)) (λK (v6,Z,v8,v9)=> if (decide ((v9.length:Int)>0)) then AC (τ:=(O Int)×(O T)×(O (T×I))×(O T)) (λa6=>
(iX v9 0).bind λa7=>
(E4 V a7).bind λ(v12,a8)=> AC (τ:=(O T)) (λQ=> if (!a8) then
(iX v9 0).bind λaa=>
(Br Z aa).bind λab=> Q ab else Q Z
) λae=>
(part v9 1 (v9.length:Int)).bind λaf=> AC (τ:=(O Int)) (λag=> AI (σ:=(O Int)) (λM=> ag M
) (λH (ah:Int) i23 M=>
(Dx M ah).bind λai=> H ai
) v12.n7 0 v6
) λaj=> AC (τ:=(O (T×I))×(O T)) (λak=> AI (σ:=(O (T×I))×(O T)) (λ(F,v28)=> ak (F,v28)
) (λJ (P:T) i31 (F,v28)=>
(some (Xde (A8 F P) false)).bind λal=> AC (τ:=(O (T×I))×(O T)) (λU=> if (!al) then
(gE (α:=T) 16 v28 ([P]:O T)).bind λan=> U ((A3 F P true),an) else U (F,v28)
) λ(v35,ao)=> J (v35,ao)
) v12.oT 0 (v8,af)
) λ(v37,ap)=> a6 (aj,ae,v37,ap)
) λ(v39,v40,v41,aq)=> K (v39,v40,v41,aq) else k4 (v6,Z)
) rp ([],[],(A3 [] Y true),([Y]:O T))
) λ(ar,v44)=> some (ar,v44,0)
def GT (H:O Int)(J:Int):C I:= AC (τ:=Unit) (λK=> AI (σ:=Unit) (λ_=> K ()
) (λF (M:Int) i4 _=> if (M==J) then some true else F ()
) H 0 ()
) λ_=> some false
def CG (a0:O oB)(K:fv)(a2:Int):C Int:=
(Ae K).bind λv1=> if (!v1) then some 1 else AC (τ:=Int) (λk2=> AI (σ:=Int) (λH=> k2 H
) (λF (M:oB) i6 H=> AC (τ:=Int) (λY=> if (M.r4 !=a2) then Y H else
(A7 M.fv K).bind λv8=> AC (τ:=Int) (λZ=> if (!v8) then AC (τ:=Int) (λJ=> if (H==11) then J 7 else J H
) λP=> Z P else if (decide (M.Max<K.rL)) then Z 9 else some 0
) λQ=> Y Q
) λU=> F U
) a0 0 11
) λV=> some V
def HL (F:oB)(H:oB):C Int:=
(BP F.fv H.fv).bind λv1=> if (v1 !=0) then some v1 else AC (τ:=I) (λJ=> if (decide (F.Max<H.Max)) then J true else if (F.Max==H.Max) then J (cond false true (cond true (decide (F.r4<H.r4)) false)) else J false
) λK=> if K then some (-1) else if (oB.rO F H) then some 0 else some 1
def Fh (a0:O oB):C (O oB):= AC (τ:=(O oB)) (λk1=> AI (σ:=(O oB)) (λv2=> k1 v2
) (λH (Q:oB) i5 v2=> AC (τ:=(O oB)) (λk6=> AC (τ:=Int) (λk7=> Ai (σ:=Int) (λJ P=> AC (τ:=I) (λK=> if (decide (P<(v2.length:Int))) then
(iX v2 P).bind λU=>
(HL U Q).bind λV=> K (cond true (decide (V<0)) false) else K false
) λY=> if Y then J (AQ (P+1)) else k7 P
) rp 0
) λF=> AC (τ:=I) (λM=> if (decide (F<(v2.length:Int))) then
(iX v2 F).bind λZ=> M (cond true (oB.rO Z Q) false) else M false
) λa1=> if a1 then k6 v2 else
(sR (0<=(0:Int)/\(0:Int)<=F/\F<=(v2.length:Int))).bind λ_=>
(gE (α:=oB) 48 [] (Xaq (Xi F-Xi 0) (Xat (Xi 0) v2))).bind λ_=>
(gE (α:=oB) 48 (Xaq (Xi F-Xi 0) (Xat (Xi 0) v2)) ([Q]:O oB)).bind λa6=>
(sR (0<=F/\F<=(v2.length:Int)/\(v2.length:Int)<=(v2.length:Int))).bind λ_=>
(gE (α:=oB) 48 a6 (Xaq (Xi (v2.length:Int)-Xi F) (Xat (Xi F) v2))).bind λa7=> k6 a7
) λa8=> H a8
) a0 0 []
) λaa=> some aa
def HJ (P:ry)(Q:O Int):C (O oB):= AC (τ:=(O oB)) (λU=> AI (σ:=(O oB)) (λv2=> U v2
) (λF (K:oB) i5 v2=>
(GT Q K.r4).bind λV=> AC (τ:=(O oB)) (λM=> if V then
(gE (α:=oB) 48 v2 ([K]:O oB)).bind λY=> M Y else M v2
) λZ=> F Z
) P.n5 0 []
) λH=>
(Fh H).bind λJ=> some J
def Bg (F:ry)(J:Int)(K:T)(U:fv)(M:Int):C Int:=
(EJ F).bind λv1=> if (!v1) then some 1 else AC (τ:=(O Int)) (λP=> if (!(K.toList==(Xcp (Xcq List.nil)).toList)) then
(Ft F K).bind λ(v3,v4,v5)=> if (v5 !=0) then some v5 else
(gE (α:=Int) 8 ([J]:O Int) v3).bind λV=> P V else P ([J]:O Int)
) λQ=>
(GT Q M).bind λY=> if (!Y) then some 17 else
(HJ F Q).bind λZ=>
(CG Z U M).bind λH=> some H
def Gk (a0:O oB)(a1:fv)(a2:Int):C (Int×(O oB)):= AC (τ:=Int×(O oB)) (λk1=> AI (σ:=Int×(O oB)) (λ(v2,v3)=> k1 (v2,v3)
) (λF (M:oB) i6 (v2,v3)=> AC (τ:=Int×(O oB)) (λk7=>
(A7 M.fv a1).bind λv8=> if (!v8) then k7 (v2,v3) else
(gE (α:=oB) 48 v3 ([M]:O oB)).bind λv9=> AC (τ:=Int) (λJ=> if (v2==0) then J 2 else J v2
) λP=> AC (τ:=I) (λH=> if (M.r4==a2) then if (cond true (a2 !=0) false) then H (cond true (decide (M.Max≥a1.rL)) false) else H false else H false
) λQ=> AC (τ:=Int) (λK=> if Q then K 1 else K P
) λU=> k7 (U,v9)
) λ(V,v17)=> F (V,v17)
) a0 0 (0,[])
) λ(Y,Z)=> some (Y,Z)
def Ib (H:mu)(a1:r6)(F:gD):C (O Int):=
(IV F).bind λv1=> if v1 then some ([1]:O Int) else
(Fj H a1 F.gH).bind λv2=> AC (τ:=I) (λk3=> AI (σ:=I) (λv4=> k3 v4
) (λK (x6:fv) i7 v4=> AC (τ:=I) (λk8=> if v4 then k8 true else
(A7 x6 F.fv).bind λv9=> if (cond false true v9) then k8 true else
(A7 F.fv x6).bind λag=> k8 (cond false true ag)
) λah=> K ah
) H.rU 0 false
) λai=> AC (τ:=I) (λaj=> AI (σ:=I) (λM=> aj M
) (λJ (ak:fv) i17 M=> AC (τ:=I) (λP=> if M then P true else
(A7 ak F.fv).bind λal=> P (cond false true al)
) λan=> J an
) H.r7 0 false
) λao=> AC (τ:=(O Int)) (λQ=> if ai then
(gE (α:=Int) 8 v2 ([10]:O Int)).bind λap=> Q ap else Q v2
) λU=> AC (τ:=(O Int)) (λV=> if ao then
(gE (α:=Int) 8 U ([11]:O Int)).bind λaq=> V aq else V U
) λY=>
(HT H F).bind λar=> AC (τ:=(O Int)) (λZ=> if ar then
(gE (α:=Int) 8 Y ([12]:O Int)).bind λau=> Z au else Z Y
) λa6=>
(Ds F.gH).bind λax=> AC (τ:=(O oB)×(O oB)) (λa7=> if ax then
(Dm H.ry.n5).bind λay=>
(Dm H.n9).bind λaz=> a7 (az,ay) else a7 (H.n9,H.ry.n5)
) λ(b0,v37)=>
(F6 F.gH.Path).bind λ(ba,v39)=> AC (τ:=Int) (λa8=> if (!v39) then a8 (-1) else a8 ba
) λaa=>
(Bg (⟨H.ry.oT,v37⟩:ry) a1.r4 a1.Set F.fv aa).bind λbb=> AC (τ:=(O Int)) (λab=> if (bb !=0) then
(gE (α:=Int) 8 a6 ([13]:O Int)).bind λbc=> ab bc else ab a6
) λae=>
(Gk b0 F.fv aa).bind λ(v46,bf)=> AC (τ:=(O Int)) (λaf=> if (v46==2) then
(gE (α:=Int) 8 ae ([14]:O Int)).bind λbd=> af bd else af ae
) λbe=> some be
def Gn (F:mu)(H:r6)(J:gD):C Int:=
(Ib F H J).bind λv1=> if (decide ((v1.length:Int)>0)) then
(iX v1 0).bind λv2=> some v2 else some 0
def BX (H:pk):C pk:= AC (τ:=Unit) (λJ=> AI (σ:=Unit) (λ_=> J ()
) (λF (K:gN) i4 _=> if K.sb then some H else F ()
) H.gN 0 ()
) λ_=> some ({ ({ H with ru:=0 }) with r6:=(({ H with ru:=0 }).r6) })
def FV (a0:mu)(Q:pk)(a2:rZ):C (pk×Int):= AC (τ:=I) (λk1=>
(E8 a0).bind λv2=> if (!v2) then k1 true else
(CJ Q).bind λv3=> if (cond false true (!v3)) then k1 true else
(Gq a2).bind λv4=> k1 (cond false true (!v4))
) λv5=> if v5 then some ((⟨(⟨0,Xaj,0,0,[]⟩:r6),false,[],0⟩:pk),1) else if (!Q.Up) then some ((⟨(⟨0,Xaj,0,0,[]⟩:r6),false,[],0⟩:pk),31) else
(DK Q).bind λv6=> AC (τ:=(O gN)) (λk7=> AI (σ:=(O gN)) (λv8=> k7 v8
) (λU (aa:fv) i11 v8=>
(DJ v8 aa).bind λab=> U ab
) a2.qv 0 v6.gN
) λae=> AC (τ:=(O gN)) (λaf=> AI (σ:=(O gN)) (λV=> af V
) (λJ (K:fv) i18 V=> AC (τ:=(O gN)) (λag=>
(BI a2.gH).bind λZ=>
(Gn a0 Q.r6 (⟨K,Q.r6.r4,Z⟩:gD)).bind λah=>
(DJ V K).bind λF=> AC (τ:=Int) (λai=> Ai (σ:=Int) (λM P=> AC (τ:=I) (λa6=> if (decide (P<(F.length:Int))) then
(iX F P).bind λaj=>
(BP aj.gD.fv K).bind λak=> a6 (cond true (decide (ak<0)) false) else a6 false
) λal=> if al then M (AQ (P+1)) else ai P
) rp 0
) λH=>
(sR (0<=H/\H<=(F.length:Int)/\(F.length:Int)<=(F.length:Int))).bind λ_=>
(gE (α:=gN) 208 [] (Xaq (Xi (F.length:Int)-Xi H) (Xat (Xi H) F))).bind λ_=>
(sR (H<=H/\H<=(F.length:Int))).bind λ_=>
(part F 0 H).bind λan=>
(gE (α:=gN) 208 an ([(⟨(⟨K,Q.r6.r4,Z⟩:gD),ah,false⟩:gN)]:O gN)).bind λao=>
(gE (α:=gN) 208 ao (Xaq (Xi (F.length:Int)-Xi H) (Xat (Xi H) F))).bind λap=> ag ap
) λaq=> J aq
) a2.gT 0 ae
) λa7=>
(EN ({ v6 with gN:=a7 })).bind λ(a8,v37)=> AC (τ:=I) (λY=> if (decide (a8>Q.r6.rj)) then Y true else if (cond false true (decide (v37>Q.r6.ri))) then Y true else Y (cond false true (decide ((AQ (a8+v37))>256)))
) λar=> if ar then some ((⟨(⟨0,Xaj,0,0,[]⟩:r6),false,[],0⟩:pk),34) else
(BX ({ v6 with gN:=a7 })).bind λau=> some (au,0)
def FA (F:pk):C (pk×Int):=
(CJ F).bind λv1=> if (!v1) then some ((⟨(⟨0,Xaj,0,0,[]⟩:r6),false,[],0⟩:pk),1) else if F.Up then some ((⟨(⟨0,Xaj,0,0,[]⟩:r6),false,[],0⟩:pk),31) else
(DK F).bind λv2=> some ({ v2 with Up:=true },0)
def GW (K:pk)(M:Int)(J:Int):C (pk×Int):= AC (τ:=I) (λH=>
(CJ K).bind λv2=> if (!v2) then H true else if (cond false true (decide (M<0))) then H true else if (cond false true (decide (M>1073741824))) then H true else if (cond false true (decide (J<0))) then H true else H (cond false true (decide (J>4095)))
) λv3=> if v3 then some ((⟨(⟨0,Xaj,0,0,[]⟩:r6),false,[],0⟩:pk),1) else if (!K.Up) then some ((⟨(⟨0,Xaj,0,0,[]⟩:r6),false,[],0⟩:pk),31) else
(DK K).bind λY=> AC (τ:=(O gN)) (λZ=> if (J==0) then Z [] else Z Y.gN
) λv6=> AC (τ:=(O gN)) (λk7=> Ai (σ:=Int×(O gN)) (λF (v9,v10)=> if (decide (v9<(v6.length:Int))) then
(iX v10 v9).bind λP=>
(sx v10 v9 ({ P with sb:=true })).bind λQ=> F ((AQ (v9+1)),Q) else k7 v10
) rp (0,v6)
) λU=>
(BX (⟨Y.r6,false,U,(AQ (M+J))⟩:pk)).bind λV=> some (V,0)
def FD (Z:pk)(P:Int):C pk:=
(DK Z).bind λv1=>
(DK Z).bind λv2=> AC (τ:=(O gN)) (λk3=> AI (σ:=(O gN)) (λM=> k3 M
) (λF (J:gN) i7 M=> AC (τ:=I) (λH=> if (!J.sb) then H true else if (P==0) then if (cond false true (cond true J.gD.fv.Addr.V6 false)) then H true else if (P==1) then H (cond false true (cond true (!J.gD.fv.Addr.V6) false)) else H false else if (P==1) then H (cond false true (cond true (!J.gD.fv.Addr.V6) false)) else H false
) λv9=> AC (τ:=(O gN)) (λK=> if v9 then
(gE (α:=gN) 208 M ([J]:O gN)).bind λQ=> K Q else K M
) λU=> F U
) v2.gN 0 []
) λV=>
(BX ({ v1 with gN:=V })).bind λY=> some Y
def FC (a0:sM)(F:sX):C (sM×(O rG)×Int):=
(E5 a0.re).bind λv1=>
(Ht v1 F.sE).bind λv2=> if (decide (v2<0)) then some ((⟨(⟨(⟨0,[],0,0,0,0,0,0,[],[],[],0,(⟨[],[]⟩:ry),[]⟩:mu),[],[]⟩:re),[]⟩:sM),[],32) else AC (τ:=Int×(O r5)×(O pk)) (λk3=> if (F.Kind==1) then
(iX v1.o3 v2).bind λv4=>
(FV v1.mu v4 F.rZ).bind λ(v5,v6)=>
(iX v1.o3 v2).bind λv7=>
(sx v1.o3 v2 v5).bind λv8=> k3 (v6,v1.fI,v8) else AC (τ:=Int×(O r5)×(O pk)) (λk9=> if (F.Kind==2) then
(iX v1.o3 v2).bind λa7=>
(FA a7).bind λ(v11,v12)=>
(iX v1.o3 v2).bind λbc=>
(sx v1.o3 v2 v11).bind λa8=> k9 (v12,v1.fI,a8) else AC (τ:=Int×(O r5)×(O pk)) (λK=> if (F.Kind==3) then
(iX v1.o3 v2).bind λaa=>
(GW aa F.uC F.tv).bind λ(v17,ab)=>
(iX v1.o3 v2).bind λbd=>
(sx v1.o3 v2 v17).bind λae=> K (ab,v1.fI,ae) else AC (τ:=Int×(O r5)×(O pk)) (λM=> if (F.Kind==4) then
(A5 F.r5).bind λP=> AC (τ:=I) (λQ=> if (P==0) then Q (cond true (F.r5.r4 !=F.sE) false) else Q false
) λaf=> AC (τ:=Int) (λU=> if af then U 33 else U P
) λag=>
(Ey F.r5).bind λah=>
(iX v1.fI v2).bind λbe=>
(sx v1.fI v2 ah).bind λai=> M (ag,ai,v1.o3) else AC (τ:=Int×(O pk)) (λV=> if (F.Kind==5) then
(iX v1.o3 v2).bind λaj=>
(FD aj F.tv).bind λak=>
(iX v1.o3 v2).bind λbf=>
(sx v1.o3 v2 ak).bind λal=> V (0,al) else V (1,v1.o3)
) λ(v35,an)=> M (v35,v1.fI,an)
) λ(v37,ao,v39)=> K (v37,ao,v39)
) λ(v40,v41,ap)=> k9 (v40,v41,ap)
) λ(aq,v44,v45)=> k3 (aq,v44,v45)
) λ(v46,Y,ar)=> if (v46 !=0) then some ((⟨(⟨(⟨0,[],0,0,0,0,0,0,[],[],[],0,(⟨[],[]⟩:ry),[]⟩:mu),[],[]⟩:re),[]⟩:sM),[],v46) else
(Ez (⟨v1.mu,Y,ar⟩:re)).bind λZ=> AC (τ:=(O rG)) (λau=> AI (σ:=(O rG)) (λJ=> au J
) (λH (ax:r5) a6 J=>
(iX a0.rQ (a6:Int)).bind λay=>
(iX Z.rQ (a6:Int)).bind λaz=>
(EU ax.r4 ay az).bind λb0=>
(gE (α:=rG) 240 J b0).bind λba=> H ba
) Y 0 []
) λbb=> some (Z,bb,0)
def C0 (a0:oX):C (sM×(O sX)×re×oX):=
(D3 a0).bind λ(v1,v2)=>
(FG v1).bind λ(v3,v4)=>
(AG v2 24).bind λ(v5,v6)=> AC (τ:=oX×sM×(O sX)) (λk7=> Ai (σ:=Int×oX×sM×(O sX)) (λF (v9,v10,v11,v12)=> AC (τ:=I×oX) (λH=> if (decide (v9>0)) then
(F8 v10).bind λ(M,P)=> H ((cond true M false),P) else H (false,v10)
) λ(Q,v17)=> if Q then
(DY v17 v11.re).bind λ(J,U)=>
(FC v11 J).bind λ(v20,v21,v22)=> AC (τ:=sM×(O sX)) (λK=> if (v22==0) then
(gE (α:=sX) 304 v12 ([J]:O sX)).bind λV=> K (v20,V) else K (v11,v12)
) λ(v25,v26)=> F ((AQ (v9-1)),U,v25,v26) else k7 (v17,v11,v12)
) rp ((AQ (4+v5)),v6,v3,[])
) λ(Y,v28,Z)=> some (v28,Z,v1,Y)
def C3 (U:O rG)(H:O rG):C I:= if ((U.length:Int) !=(H.length:Int)) then some false else AC (τ:=Unit) (λV=> AI (σ:=Unit) (λ_=> V ()
) (λF (J:rG) K _=> AC (τ:=I) (λM=>
(iX H (K:Int)).bind λY=> if (J.To !=Y.To) then M true else
(iX H (K:Int)).bind λZ=> if (cond false true (!(fv.rO J.fv Z.fv))) then M true else
(iX H (K:Int)).bind λv8=> if (cond false true (!(J.Has==v8.Has))) then M true else
(iX H (K:Int)).bind λv9=>
(Aw J.gD v9.gD).bind λP=> M (cond false true (!P))
) λQ=> if Q then some false else F ()
) U 0 ()
) λ_=> some true
def GX (J:O Int):C Int:= AC (τ:=Unit) (λK=> AI (σ:=Unit) (λ_=> K ()
) (λF (H:Int) i4 _=> if (H !=0) then some H else F ()
) J 0 ()
) λ_=> some 0
def cmp_isNaN_int (F:Int):C I:= some (F !=F)
def sg (F:Int)(H:Int):C Int:=
(cmp_isNaN_int F).bind λv1=>
(cmp_isNaN_int H).bind λv2=> if v1 then if v2 then some 0 else some (-1) else if v2 then some 1 else if (decide (F<H)) then some (-1) else if (decide (F>H)) then some 1 else some 0
def FP (F:Addr):C Int:= if F.V6 then some 1 else some 0
def Dh (F:j):C I:= some ((F.toNat:Int) !=(F.toNat:Int))
def Bn (F:j)(H:j):C Int:=
(Dh F).bind λv1=>
(Dh H).bind λv2=> if v1 then if v2 then some 0 else some (-1) else if v2 then some 1 else if (decide ((F.toNat:Int)<(H.toNat:Int))) then some (-1) else if (decide ((F.toNat:Int)>(H.toNat:Int))) then some 1 else some 0
def Lq (F:Addr)(H:Addr):C Int:=
(FP F).bind λv1=>
(FP H).bind λv2=>
(sg v1 v2).bind λJ=>
(Bn F.Hi H.Hi).bind λK=>
(Bn F.Lo H.Lo).bind λM=>
(GX ([J,K,M]:O Int)).bind λP=> some P
def E0 (F:fv)(H:fv):C Int:=
(Lq F.Addr H.Addr).bind λv1=>
(sg F.rL H.rL).bind λv2=>
(GX ([v1,v2]:O Int)).bind λJ=> some J
def Bw (H:O Int)(J:O Int):C I:= if ((H.length:Int) !=(J.length:Int)) then some false else AC (τ:=Unit) (λK=> AI (σ:=Unit) (λ_=> K ()
) (λF (M:Int) P _=>
(iX J (P:Int)).bind λQ=> if (M !=Q) then some false else F ()
) H 0 ()
) λ_=> some true
def En (F:oF)(H:oF):C I:= AC (τ:=I) (λJ=> if (F.Set==H.Set) then
(Bw F.n7 H.n7).bind λv2=> J (cond true v2 false) else J false
) λK=> some K
def BW (H:O S)(J:O S):C I:= if ((H.length:Int) !=(J.length:Int)) then some false else AC (τ:=Unit) (λK=> AI (σ:=Unit) (λ_=> K ()
) (λF (M:S) P _=>
(iX J (P:Int)).bind λQ=> if ((M.toNat:Int) !=(Q.toNat:Int)) then some false else F ()
) H 0 ()
) λ_=> some true
def Ej (F:kI)(H:kI):C I:= AC (τ:=I) (λJ=> if (F.Flags==H.Flags) then if (cond true (F.oA==H.oA) false) then
(BW F.Data H.Data).bind λv2=> J (cond true v2 false) else J false else J false
) λK=> some K
def Af (H:O r8)(J:O r8):C I:= if ((H.length:Int) !=(J.length:Int)) then some false else AC (τ:=Unit) (λK=> AI (σ:=Unit) (λ_=> K ()
) (λF (M:r8) P _=>
(iX J (P:Int)).bind λQ=> if (!(r8.rO M Q)) then some false else F ()
) H 0 ()
) λ_=> some true
def Au (H:O n8)(J:O n8):C I:= if ((H.length:Int) !=(J.length:Int)) then some false else AC (τ:=Unit) (λK=> AI (σ:=Unit) (λ_=> K ()
) (λF (M:n8) P _=>
(iX J (P:Int)).bind λQ=> if (!(n8.rO M Q)) then some false else F ()
) H 0 ()
) λ_=> some true
def AM (H:O oF)(J:O oF):C I:= if ((H.length:Int) !=(J.length:Int)) then some false else AC (τ:=Unit) (λK=> AI (σ:=Unit) (λ_=> K ()
) (λF (M:oF) P _=>
(iX J (P:Int)).bind λQ=>
(En M Q).bind λU=> if (!U) then some false else F ()
) H 0 ()
) λ_=> some true
def AL (H:O kI)(J:O kI):C I:= if ((H.length:Int) !=(J.length:Int)) then some false else AC (τ:=Unit) (λK=> AI (σ:=Unit) (λ_=> K ()
) (λF (M:kI) P _=>
(iX J (P:Int)).bind λQ=>
(Ej M Q).bind λU=> if (!U) then some false else F ()
) H 0 ()
) λ_=> some true
def Gm (F:gH)(H:gH):C I:= AC (τ:=I) (λJ=> if (F.gS==H.gS) then if (cond true (Addr.rO F.Next H.Next) false) then if (cond true (F.sd==H.sd) false) then if (cond true (F.rh==H.rh) false) then if (cond true (F.rX==H.rX) false) then
(AM F.Path H.Path).bind λv2=> if (cond true v2 false) then
(Af F.fT H.fT).bind λK=> if (cond true K false) then
(Au F.n8 H.n8).bind λM=> if (cond true M false) then
(AL F.lf H.lf).bind λP=> J (cond true P false) else J false else J false else J false else J false else J false else J false else J false else J false
) λQ=> some Q
def FU (F:gD)(H:gD):C I:= AC (τ:=I) (λJ=> if (fv.rO F.fv H.fv) then if (cond true (F.rT==H.rT) false) then
(Gm F.gH H.gH).bind λv2=> J (cond true v2 false) else J false else J false
) λK=> some K
def BZ (F:O Int):C (O Int):=
(gE (α:=Int) 8 [] F).bind λ_=> some F
def B7 (F:O S):C (O S):=
(gE (α:=S) 1 [] F).bind λ_=> some F
def Bv (F:O r8):C (O r8):=
(gE (α:=r8) 16 [] F).bind λ_=> some F
def C4 (F:O n8):C (O n8):=
(gE (α:=n8) 24 [] F).bind λ_=> some F
def Gv (K:gH):C gH:= AC (τ:=(O oF)) (λk1=> AI (σ:=(O oF)) (λv2=> k1 v2
) (λH (Z:oF) i5 v2=>
(BZ Z.n7).bind λv6=>
(gE (α:=oF) 32 v2 ([(⟨Z.Set,v6⟩:oF)]:O oF)).bind λv7=> H v7
) K.Path 0 []
) λv8=> AC (τ:=(O kI)) (λk9=> AI (σ:=(O kI)) (λJ=> k9 J
) (λF (M:kI) i13 J=>
(B7 M.Data).bind λP=>
(gE (α:=kI) 40 J ([{ M with Data:=P }]:O kI)).bind λQ=> F Q
) K.lf 0 []
) λU=>
(Bv K.fT).bind λV=>
(C4 K.n8).bind λY=> some ({ K with Path:=v8,fT:=V,n8:=Y,lf:=U })
def ET (F:gD):C gD:=
(Gv F.gH).bind λv1=> some (⟨(⟨((({ F with gH:=v1 }).fv).Addr),(({ F with gH:=v1 }).fv).rL⟩:fv),({ F with gH:=v1 }).rT,(({ F with gH:=v1 }).gH)⟩:gD)
def GV (a0:Int)(a1:O gD)(a2:O gD):C (O rG):= AC (τ:=(O rG)) (λk1=> Ai (σ:=(O gD)×(O gD)×(O rG)) (λH (v3,v4,v5)=> AC (τ:=I) (λk6=> if (decide ((v3.length:Int)>0)) then k6 true else k6 (cond false true (decide ((v4.length:Int)>0)))
) λv7=> if v7 then AC (τ:=Int) (λk8=> if ((v3.length:Int)==0) then k8 1 else AC (τ:=Int) (λk9=> if ((v4.length:Int)==0) then k9 (-1) else
(iX v3 0).bind λU=>
(iX v4 0).bind λV=>
(E0 U.fv V.fv).bind λY=> k9 Y
) λZ=> k8 Z
) λF=> AC (τ:=(O rG)) (λJ=> if (decide (F<0)) then
(iX v3 0).bind λa6=>
(gE (α:=rG) 240 v5 ([(⟨a0,a6.fv,false,(⟨(⟨(⟨false,(0:j),(0:j)⟩:Addr),0⟩:fv),0,(⟨0,[],(⟨false,(0:j),(0:j)⟩:Addr),0,0,0,[],[],[]⟩:gH)⟩:gD)⟩:rG)]:O rG)).bind λa7=> J a7 else AC (τ:=I) (λK=> if (decide (F>0)) then K true else
(iX v3 0).bind λa8=>
(iX v4 0).bind λaa=>
(FU a8 aa).bind λab=> K (cond false true (!ab))
) λae=> AC (τ:=(O rG)) (λM=> if ae then
(iX v4 0).bind λaf=>
(iX v4 0).bind λag=>
(ET ag).bind λah=>
(gE (α:=rG) 240 v5 ([(⟨a0,af.fv,true,ah⟩:rG)]:O rG)).bind λai=> M ai else M v5
) λaj=> J aj
) λak=> AC (τ:=(O gD)) (λP=> if (decide (F<=0)) then
(part v3 1 (v3.length:Int)).bind λal=> P al else P v3
) λan=> AC (τ:=(O gD)) (λQ=> if (decide (F≥0)) then
(part v4 1 (v4.length:Int)).bind λao=> Q ao else Q v4
) λap=> H (an,ap,ak) else k1 v5
) rp (a1,a2,[])
) λaq=> some aq
def CM (H:O gD)(J:O gD):C I:= if ((H.length:Int) !=(J.length:Int)) then some false else AC (τ:=Unit) (λK=> AI (σ:=Unit) (λ_=> K ()
) (λF (M:gD) P _=>
(iX J (P:Int)).bind λQ=>
(Aw M Q).bind λU=> if (!U) then some false else F ()
) H 0 ()
) λ_=> some true
def F2 (H:O gD):C (O gD):= AC (τ:=(O gD)) (λJ=> AI (σ:=(O gD)) (λv2=> J v2
) (λF (K:gD) i5 v2=>
(ET K).bind λM=>
(gE (α:=gD) 192 v2 ([M]:O gD)).bind λP=> F P
) H 0 []
) λQ=> some Q
def EV (H:gD)(F:rG):C (I×rG):= some ((fv.rO H.fv F.fv),F)
def Fv (F:gD)(H:gD):C Int:=
(E0 F.fv H.fv).bind λv1=> some v1
def Ao (K:O gD)(H:rG):C (Int×rG):= AC (τ:=rG) (λM=> AI (σ:=rG) (λv2=> M v2
) (λF (P:gD) Q v2=>
(EV P v2).bind λ(v6,J)=> if v6 then some ((Q:Int),J) else F J
) K 0 H
) λU=> some ((-1),U)
def Ac (P:O gD)(K:rG):C ((O gD)×rG):=
(Ao P K).bind λ(v1,v2)=> if (v1==(-1)) then some (P,v2) else AC (τ:=Int×(O gD)×rG) (λk3=> Ai (σ:=Int×Int×(O gD)×rG) (λH (v5,v6,J,v8)=> if (decide (v6<(J.length:Int))) then
(iX J v6).bind λv9=>
(EV v9 v8).bind λ(v10,v11)=> AC (τ:=Int×(O gD)) (λM=> if (!v10) then
(iX J v5).bind λa1=>
(sx J v5 v9).bind λQ=> M ((AQ (v5+1)),Q) else M (v5,J)
) λ(U,V)=> H (U,(AQ (v6+1)),V,v11) else k3 (v5,J,v8)
) rp (v1,(AQ (v1+1)),P,v2)
) λ(v17,F,Y)=>
(sR (0<=v17/\v17<=(F.length:Int)/\(F.length:Int)<=(F.length:Int))).bind λ_=>
(part (Xaq (Xi v17) F++Xb6 (Xi (F.length:Int)-Xi v17) (⟨(⟨(⟨false,(0:j),(0:j)⟩:Addr),0⟩:fv),0,(⟨0,[],(⟨false,(0:j),(0:j)⟩:Addr),0,0,0,[],[],[]⟩:gH)⟩:gD)++Xat ((Xi v17)+(Xi (F.length:Int)-Xi v17)) F) 0 v17).bind λZ=> some (Z,Y)
def E1 (Z:O gD)(a1:O rG):C (O gD):=
(F2 Z).bind λv1=> AC (τ:=(O gD)) (λk2=> AI (σ:=(O gD)) (λH=> k2 H
) (λF (x5:rG) i6 H=>
(Ac H x5).bind λ(U,V)=> AC (τ:=(O gD)) (λY=> if V.Has then
(ET V.gD).bind λJ=>
(gE (α:=gD) 192 U ([J]:O gD)).bind λK=> Y K else Y U
) λM=> F M
) a1 0 v1
) λP=>
(LD Fv P).bind λQ=> some Q
def GM (a0:O gD)(a1:O rG):C (O gD):=
(Az a0).bind λv1=> AC (τ:=(O gD)) (λk2=> AI (σ:=(O gD)) (λv3=> k2 v3
) (λP (Z:rG) i6 v3=> AC (τ:=(O gD)) (λk7=> AC (τ:=(O gD)) (λk8=> AI (σ:=(O gD)) (λv9=> k8 v9
) (λJ (Q:gD) i12 v9=> AC (τ:=(O gD)) (λU=> if (!(fv.rO Q.fv Z.fv)) then
(gE (α:=gD) 192 v9 ([Q]:O gD)).bind λa6=> U a6 else U v9
) λa7=> J a7
) v3 0 []
) λF=> AC (τ:=(O gD)) (λV=> if Z.Has then AC (τ:=Int) (λa8=> Ai (σ:=Int) (λK M=> AC (τ:=I) (λY=> if (decide (M<(F.length:Int))) then
(iX F M).bind λaa=>
(BP aa.fv Z.fv).bind λab=> Y (cond true (decide (ab<0)) false) else Y false
) λae=> if ae then K (AQ (M+1)) else a8 M
) rp 0
) λH=>
(sR (0<=H/\H<=(F.length:Int)/\(F.length:Int)<=(F.length:Int))).bind λ_=>
(gE (α:=gD) 192 [] (Xaq (Xi (F.length:Int)-Xi H) (Xat (Xi H) F))).bind λ_=>
(sR (H<=H/\H<=(F.length:Int))).bind λ_=>
(part F 0 H).bind λaf=>
(Az ([Z.gD]:O gD)).bind λag=>
(gE (α:=gD) 192 af ag).bind λah=>
(gE (α:=gD) 192 ah (Xaq (Xi (F.length:Int)-Xi H) (Xat (Xi H) F))).bind λai=> V ai else V F
) λaj=> k7 aj
) λak=> P ak
) a1 0 v1
) λal=> some al
def C5 (a0:oX)(a1:Int):C ((O rG)×oX):= AC (τ:=oX×(O gD)×(O gD)) (λk1=> Ai (σ:=Int×oX×(O gD)×(O gD)) (λK (v3,v4,v5,v6)=> if (decide (v3<8)) then
(DD v3).bind λP=>
(AG v4 3).bind λ(F,v9)=>
(CE).bind λH=>
(DO (AQ (101+F)) P.Addr.V6).bind λJ=>
(AG v9 2).bind λ(v12,Y)=>
(AG Y 4).bind λ(M,Z)=> AC (τ:=(O gD)×(O gD)) (λQ=> if (M==0) then
(gE (α:=gD) 192 v5 ([(⟨P,(AQ (101+F)),{ H with gS:=0,Path:=([(⟨false,([(AQ (101+F))]:O Int)⟩:oF)]:O oF),Next:=J,sd:=v12 }⟩:gD)]:O gD)).bind λa6=> Q (a6,v6) else AC (τ:=(O gD)×(O gD)) (λU=> if (M==1) then
(gE (α:=gD) 192 v6 ([(⟨P,(AQ (101+F)),{ H with gS:=0,Path:=([(⟨false,([(AQ (101+F))]:O Int)⟩:oF)]:O oF),Next:=J,sd:=v12 }⟩:gD)]:O gD)).bind λa7=> U (v5,a7) else AC (τ:=(O gD)×(O gD)) (λV=> if (M==2) then
(gE (α:=gD) 192 v5 ([(⟨P,(AQ (101+F)),{ H with gS:=0,Path:=([(⟨false,([(AQ (101+F))]:O Int)⟩:oF)]:O oF),Next:=J,sd:=v12 }⟩:gD)]:O gD)).bind λa8=>
(gE (α:=gD) 192 v6 ([(⟨P,(AQ (101+F)),{ H with gS:=0,Path:=([(⟨false,([(AQ (101+F))]:O Int)⟩:oF)]:O oF),Next:=J,sd:=5 }⟩:gD)]:O gD)).bind λaa=> V (a8,aa) else V (v5,v6)
) λ(ab,v24)=> U (ab,v24)
) λ(v25,v26)=> Q (v25,v26)
) λ(ae,v28)=> K ((AQ (v3+1)),Z,ae,v28) else k1 (v4,v5,v6)
) rp (0,a0,[],[])
) λ(af,v30,v31)=>
(EU a1 v30 v31).bind λag=> some (ag,af)
def BV (F:Int)(J:Int)(K:Int):C I:= AC (τ:=I) (λH=> if (decide (F≥J)) then H (cond true (decide (F<=K)) false) else H false
) λv2=> some v2
def GL (F:Addr):C I:= AC (τ:=I) (λH=> if F.V6 then H true else if ((F.Hi.toNat:Int)==0) then H (cond false true (cond true (decide ((F.Lo.toNat:Int)<4294967296)) false)) else H false
) λv2=> some v2
def BO (F:Addr):C Int:= if F.V6 then some 128 else some 32
def Ec (F:Int):C (j×j):= if (decide (F>64)) then some ((AY (((AY (1*(2^(min (Xi ((AY (AQ (F-64))).toNat:Int)) 64)))).toNat:Int)-1)),(18446744073709551615:j)) else some ((0:j),(AY (((AY (1*(2^(min (Xi ((AY F).toNat:Int)) 64)))).toNat:Int)-1)))
def Dv (F:Addr)(H:Int):C Addr:=
(BO F).bind λv1=>
(Ec (AQ (v1-H))).bind λ(v2,v3)=> some (⟨F.V6,(AY ((Wv 64 (F.Hi.toNat:Int) &&& ~~~Wv 64 (v2.toNat:Int)).toNat:Int)),(AY ((Wv 64 (F.Lo.toNat:Int) &&& ~~~Wv 64 (v3.toNat:Int)).toNat:Int))⟩:Addr)
def Do (F:fv):C I:= AC (τ:=I) (λH=>
(GL F.Addr).bind λv2=> if v2 then if (cond true (decide (F.rL≥0)) false) then
(BO F.Addr).bind λJ=> if (cond true (decide (F.rL<=J)) false) then
(Dv F.Addr F.rL).bind λK=> H (cond true (Addr.rO K F.Addr) false) else H false else H false else H false
) λM=> some M
def Jy (F:fv):C I:=none
def KB (F:s8):C I:=none
def J8 (F:Int):C I:=none
def J7 (F:oB):C I:=none
def Em (F:Int):C I:= AC (τ:=I) (λH=> if (decide (F≥1)) then H (cond true (decide (F<=4294967295)) false) else H false
) λv2=> some v2
def Yu (F:Set):C I:=none
def N2 (F:fv):C Int:= if F.Addr.V6 then some 128 else some 32
def NN (P:ry):C I:= AC (τ:=Unit) (λk1=> AI (σ:=(O (T×I))) (λv2=> k1 ()
) (λK (Q:Set) i5 v2=> AC (τ:=I) (λk6=>
(some (Xde (A8 v2 Q.Name) false)).bind λv7=> if v7 then k6 true else
(Yu Q).bind λv8=> k6 (cond false true (!v8))
) λv9=> if v9 then some false else K (A3 v2 Q.Name true)
) P.oT 0 []
) λ_=> AC (τ:=Unit) (λU=> AI (σ:=Unit) (λ_=> U ()
) (λH (F:oB) i13 _=> AC (τ:=I) (λJ=>
(Do F.fv).bind λV=> if (!V) then J true else if (cond false true (decide (F.Max<F.fv.rL))) then J true else
(N2 F.fv).bind λY=> if (cond false true (decide (F.Max>Y))) then J true else
(Em F.r4).bind λZ=> J (cond false true (!Z))
) λa1=> if a1 then some false else H ()
) P.n5 0 ()
) λ_=> AC (τ:=I) (λM=> if (decide ((P.oT.length:Int)<=64)) then M (cond true (decide ((P.n5.length:Int)<=512)) false) else M false
) λa6=> some a6
def Ak (H:O fv):C Int:= AC (τ:=Unit) (λJ=> AI (σ:=Unit) (λ_=> J ()
) (λF (K:fv) M _=>
(Jy K).bind λP=> if P then some (M:Int) else F ()
) H 0 ()
) λ_=> some (-1)
def AW (F:O fv):C I:=
(Ak F).bind λv1=> some (decide (v1≥0))
def Aq (H:O s8):C Int:= AC (τ:=Unit) (λJ=> AI (σ:=Unit) (λ_=> J ()
) (λF (K:s8) M _=>
(KB K).bind λP=> if P then some (M:Int) else F ()
) H 0 ()
) λ_=> some (-1)
def Am (F:O s8):C I:=
(Aq F).bind λv1=> some (decide (v1≥0))
def A6 (H:O Int):C Int:= AC (τ:=Unit) (λJ=> AI (σ:=Unit) (λ_=> J ()
) (λF (K:Int) M _=>
(J8 K).bind λP=> if P then some (M:Int) else F ()
) H 0 ()
) λ_=> some (-1)
def A0 (F:O Int):C I:=
(A6 F).bind λv1=> some (decide (v1≥0))
def Aj (H:O oB):C Int:= AC (τ:=Unit) (λJ=> AI (σ:=Unit) (λ_=> J ()
) (λF (K:oB) M _=>
(J7 K).bind λP=> if P then some (M:Int) else F ()
) H 0 ()
) λ_=> some (-1)
def Ah (F:O oB):C I:=
(Aj F).bind λv1=> some (decide (v1≥0))
def JD (F:mu):C I:= AC (τ:=I) (λJ=>
(BV F.sK 1 4294967295).bind λv2=> if (!v2) then J true else if (cond false true (decide ((F.rU.length:Int)>8))) then J true else if (cond false true (decide ((F.r7.length:Int)>64))) then J true else if (cond false true (decide ((F.oE.length:Int)>64))) then J true else if (cond false true (decide ((F.rI.length:Int)>64))) then J true else J (cond false true (decide ((F.n9.length:Int)>512)))
) λv3=> if v3 then some false else AC (τ:=I) (λH=> if (decide (F.sq<0)) then H true else if (cond false true (decide (F.sq>F.rj))) then H true else if (cond false true (decide (F.rj>32))) then H true else if (cond false true (decide (F.sl<0))) then H true else if (cond false true (decide (F.sl>F.ri))) then H true else if (cond false true (decide (F.ri>128))) then H true else
(BV F.rR 0 32).bind λv5=> if (cond false true (!v5)) then H true else
(BV F.rS 0 128).bind λv6=> if (cond false true (!v6)) then H true else
(BV F.rV 1 60).bind λv7=> H (cond false true (!v7))
) λv8=> if v8 then some false else AC (τ:=I) (λk9=>
(AW F.rU).bind λP=> if P then k9 true else
(AW F.r7).bind λQ=> k9 (cond false true Q)
) λU=> if U then some false else AC (τ:=I) (λK=>
(Am F.oE).bind λV=> if V then K true else
(A0 F.rI).bind λY=> K (cond false true Y)
) λZ=> if Z then some false else AC (τ:=I) (λM=>
(Ah F.n9).bind λa1=> if (!a1) then
(NN F.ry).bind λa6=> M (cond true a6 false) else M false
) λa7=> some a7
def Qd (F:r5):C Int:=none
def CY (F:Addr):C I:=
(GL F).bind λv1=> some (!v1)
def AZ (H:O Addr):C Int:= AC (τ:=Unit) (λJ=> AI (σ:=Unit) (λ_=> J ()
) (λF (K:Addr) M _=>
(CY K).bind λP=> if P then some (M:Int) else F ()
) H 0 ()
) λ_=> some (-1)
def AT (F:O Addr):C I:=
(AZ F).bind λv1=> some (decide (v1≥0))
def DU (F:r6):C I:= AC (τ:=I) (λH=>
(BV F.r4 1 4294967295).bind λv2=> if v2 then
(BV F.rj 0 256).bind λJ=> if (cond true J false) then
(BV F.ri 0 256).bind λK=> if (cond true K false) then if (cond true (decide ((F.rz.length:Int)<=8)) false) then
(AT F.rz).bind λM=> H (cond true (!M) false) else H false else H false else H false else H false
) λP=> some P
def Ed (F:Int)(J:Int)(K:Int):C I:= AC (τ:=I) (λH=> if (decide (F≥J)) then H (cond true (decide (F<=K)) false) else H false
) λv2=> some v2
def Jp (F:pk):C I:=none
def Gy (H:O oF):C (O Int):= AC (τ:=(O Int)) (λJ=> AI (σ:=(O Int)) (λv2=> J v2
) (λF (K:oF) i5 v2=>
(gE (α:=Int) 8 v2 K.n7).bind λM=> F M
) H 0 []
) λP=> some P
def I0 (F:re):C I:= AC (τ:=I) (λV=>
(JD F.mu).bind λv2=> if (!v2) then V true else if (cond false true (decide ((F.fI.length:Int)>32))) then V true else V (cond false true ((F.o3.length:Int) !=(F.fI.length:Int)))
) λv3=> if v3 then some false else AC (τ:=Unit) (λk4=> AI (σ:=Unit) (λ_=> k4 ()
) (λK (P:r5) M _=> AC (τ:=Unit) (λk8=> AC (τ:=I) (λJ=>
(Qd P).bind λY=> if (Y !=0) then J true else if (decide ((M:Int)>0)) then
(iX F.fI (AQ ((M:Int)-1))).bind λZ=> if (cond false true (cond true (decide (Z.r4≥P.r4)) false)) then J true else if (cond false true (P.r4==F.mu.sK)) then J true else
(iX F.o3 (M:Int)).bind λa1=> if (cond false true (a1.r6.r4 !=P.r4)) then J true else
(iX F.o3 (M:Int)).bind λa6=>
(Jp a6).bind λa7=> J (cond false true (!a7)) else if (cond false true (P.r4==F.mu.sK)) then J true else
(iX F.o3 (M:Int)).bind λa8=> if (cond false true (a8.r6.r4 !=P.r4)) then J true else
(iX F.o3 (M:Int)).bind λaa=>
(Jp aa).bind λab=> J (cond false true (!ab))
) λae=> if ae then some false else
(iX F.o3 (M:Int)).bind λaf=> AC (τ:=Unit) (λag=> AI (σ:=Unit) (λ_=> ag ()
) (λH (Q:gN) i23 _=> AC (τ:=I) (λU=> if (Q.sc==0) then
(Gy Q.gD.gH.Path).bind λah=> U (cond true (decide ((ah.length:Int)>60)) false) else U false
) λai=> if ai then some false else H ()
) af.gN 0 ()
) λ_=> k8 ()
) λ_=> K ()
) F.fI 0 ()
) λ_=> some true
def Cc (F:O fv):C (O fv):=
(gE (α:=fv) 32 [] F).bind λ_=> some F
def Eg (F:O s8):C (O s8):=
(gE (α:=s8) 16 [] F).bind λ_=> some F
def Cb (F:O oB):C (O oB):=
(gE (α:=oB) 48 [] F).bind λ_=> some F
def Fp (F:O T):C (O T):=
(gE (α:=T) 16 [] F).bind λ_=> some F
def Iz (F:mu):C mu:=
(Cc F.rU).bind λv1=>
(Cc F.r7).bind λv2=>
(Eg F.oE).bind λV=>
(BZ F.rI).bind λY=>
(Cb F.n9).bind λZ=>
(Cb F.ry.n5).bind λv6=> AC (τ:=(O Set)) (λk7=> AI (σ:=(O Set)) (λK=> k7 K
) (λH (J:Set) i11 K=>
(BZ J.n7).bind λM=>
(Fp J.oT).bind λP=>
(gE (α:=Set) 64 K ([(⟨J.Name,M,P⟩:Set)]:O Set)).bind λQ=> H Q
) F.ry.oT 0 []
) λU=> some ({ F with rU:=v1,r7:=v2,oE:=V,rI:=Y,ry:=(⟨U,v6⟩:ry),n9:=Z })
def L9 (F:r5):C r5:=none
def Rz (F:pk):C pk:=none
def I1 (K:re):C re:=
(Iz K.mu).bind λv1=> AC (τ:=(O r5)) (λZ=> AI (σ:=(O r5)) (λM=> Z M
) (λH (x5:r5) i6 M=>
(L9 x5).bind λv7=>
(gE (α:=r5) 72 M ([v7]:O r5)).bind λv8=> H v8
) K.fI 0 []
) λv9=> AC (τ:=(O pk)) (λP=> AI (σ:=(O pk)) (λJ=> P J
) (λF (Q:pk) i14 J=>
(Rz Q).bind λU=>
(gE (α:=pk) 104 J ([U]:O pk)).bind λV=> F V
) K.o3 0 []
) λY=> some (⟨v1,v9,Y⟩:re)
def DI (K:O oF):C Int:= AC (τ:=Int) (λM=> AI (σ:=Int) (λv2=> M v2
) (λF (H:oF) i5 v2=> AC (τ:=Int) (λJ=> if H.Set then J (AQ (v2+1)) else J (AQ (v2+(H.n7.length:Int)))
) λP=> F P
) K 0 0
) λQ=> some Q
def P2 (F:re)(H:Int):C (O gD):=none
def Jl (H:re):C (sM×Int):=
(I0 H).bind λv1=> if (!v1) then some ((⟨(⟨(⟨0,[],0,0,0,0,0,0,[],[],[],0,(⟨[],[]⟩:ry),[]⟩:mu),[],[]⟩:re),[]⟩:sM),1) else
(I1 H).bind λv2=> AC (τ:=(O (O gD))) (λM=> AI (σ:=(O (O gD))) (λJ=> M J
) (λF (P:r5) i7 J=>
(P2 H P.r4).bind λQ=>
(gE (α:=O gD) 24 J ([Q]:O (O gD))).bind λU=> F U
) H.fI 0 []
) λK=> some ((⟨v2,K⟩:sM),0)
def H6:C I:=
(Jl (⟨(⟨99,[],0,0,0,0,0,0,[],[],[],1,(⟨[],[]⟩:ry),[]⟩:mu),[],[]⟩:re)).bind λ(v1,v2)=>
(GV 5 [] ([(⟨(⟨(⟨false,(0:j),(167772160:j)⟩:Addr),8⟩:fv),7,(⟨0,[],(⟨false,(0:j),(0:j)⟩:Addr),0,0,0,[],[],[]⟩:gH)⟩:gD)]:O gD)).bind λH=> AC (τ:=I) (λF=> if (v2==0) then if (cond true ((v1.rQ.length:Int)==0) false) then if (cond true ((H.length:Int)==1) false) then
(iX H 0).bind λJ=> if (cond true (J.To==5) false) then
(iX H 0).bind λK=> if (cond true K.Has false) then
(E1 [] H).bind λM=> F (cond true ((M.length:Int)==1) false) else F false else F false else F false else F false else F false
) λP=> some P
def Ea (a0:O Int)(Y:Int):C I:=
(Lu a0).bind λv1=>
(C0 v1).bind λ(v2,v3,v4,v5)=>
(C0 v5).bind λ(v6,v7,v8,v9)=> AC (τ:=Unit) (λZ=> AI (σ:=oX) (λQ=> Z ()
) (λH (J:O gD) i14 Q=> AC (τ:=oX) (λa6=> AC (τ:=oX) (λa7=> AI (σ:=oX) (λP=> a7 P
) (λK (M:O gD) i20 P=>
(EU Y J M).bind λF=> AC (τ:=I) (λU=>
(GV Y J M).bind λa8=>
(C3 a8 F).bind λaa=> if (!aa) then U true else
(E1 J F).bind λab=>
(GM J F).bind λae=>
(CM ab ae).bind λaf=> U (cond false true (!af))
) λag=> if ag then some false else
(gE (α:=rG) 240 [] F).bind λ_=>
(C5 P Y).bind λ(ah,v30)=>
(gE (α:=rG) 240 F ah).bind λV=>
(E1 M V).bind λai=>
(GM M V).bind λaj=>
(CM ai aj).bind λak=> if (!ak) then some false else K v30
) v6.rQ 0 Q
) λal=> a6 al
) λan=> H an
) v2.rQ 0 v9
) λ_=>
(H6).bind λao=> some ao
end Go.AX.Q29
end
