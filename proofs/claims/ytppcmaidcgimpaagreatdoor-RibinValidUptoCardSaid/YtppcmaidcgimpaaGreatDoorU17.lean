/-
  Texts of one proof, packed.
-/
import Derived.Test.YtppcmaidcgimpaaGreatDoorU14
import Derived.Test.YtppcmaidcgimpaaGreatDoorU15
import Derived.Test.YtppcmaidcgimpaaGreatDoorU16
set_option linter.all false
set_option maxRecDepth 100000
set_option maxHeartbeats 4000000
open List renaming length_map→X10,length_append→X11,length_drop→X17,length_take→X18,length_replicate→X20,length_set→X21
open Option renaming getD→Xau,isSome→Xdy
open Int renaming toNat→Wo,fdiv→Xas,tmod→Xed
open List renaming cons→Xa8,replicate→Xav,take→Xbx,drop→Xc2,toArray→Xcc,nil→Xej
open BitVec renaming ofInt→Xa2
open Go renaming maxLen→Xb3,reachBytes→Xbw
open ByteArray renaming empty→Xac,mk→Xc5
section
namespace Go.AX.Q25
open Go Go.AX
def EB:I (Int×Int):=[(1,64),(2,64),(3,64),(4,128),(5,64),(8,192),(32,192),(35,192)]
structure oF where
  Set:Bool
  o3:List Int
def oF.fv (x:oF):D:=.agg [D.b x.Set,D.l 1 D.i x.o3]
def oF.av (x:oF):I AV:=[.d (D.b x.Set),.d (D.l 1 D.i x.o3)]
def oF.zv:I AV:=[.d (D.b false),.d (D.nil 1)]
def oF.wf (x:oF):Prop:=True/\(x.o3.length<=Xb3/\x.o3.length*8<=Xbw/\∀y0∈x.o3,wv y0)/\True
structure Addr where
  V6:Bool
  Hi:UInt64
  Lo:UInt64
def Addr.fv (x:Addr):D:=.agg [D.b x.V6,D.u64 x.Hi,D.u64 x.Lo]
def Addr.av (x:Addr):I AV:=[.d (D.b x.V6),.d (D.u64 x.Hi),.d (D.u64 x.Lo)]
def Addr.zv:I AV:=[.d (D.b false),.d (D.u64 (0:j)),.d (D.u64 (0:j))]
def Addr.wf (x:Addr):Prop:=True/\True/\True/\True
def Addr.wa (x y:Addr):C:=((x.V6==y.V6)&&(((x.Hi.toNat:Int)==(y.Hi.toNat:Int))&&(((x.Lo.toNat:Int)==(y.Lo.toNat:Int))&&true)))
structure qv where
  A:Int
  B:Int
def qv.fv (x:qv):D:=.agg [D.i x.A,D.i x.B]
def qv.av (x:qv):I AV:=[.d (D.i x.A),.d (D.i x.B)]
def qv.zv:I AV:=[.d (D.i 0),.d (D.i 0)]
def qv.wf (x:qv):Prop:=wv x.A/\wv x.B/\True
def qv.wa (x y:qv):C:=((x.A==y.A)&&((x.B==y.B)&&true))
structure oB where
  A:Int
  B:Int
  C:Int
def oB.fv (x:oB):D:=.agg [D.i x.A,D.i x.B,D.i x.C]
def oB.av (x:oB):I AV:=[.d (D.i x.A),.d (D.i x.B),.d (D.i x.C)]
def oB.zv:I AV:=[.d (D.i 0),.d (D.i 0),.d (D.i 0)]
def oB.wf (x:oB):Prop:=wv x.A/\wv x.B/\wv x.C/\True
def oB.wa (x y:oB):Bool:=((x.A==y.A)&&((x.B==y.B)&&((x.C==y.C)&&true)))
structure gH where
  Flags:Int
  iB:Int
  Data:List UInt8
def gH.fv (x:gH):D:=.agg [D.i x.Flags,D.i x.iB,D.l 1 D.u8 x.Data]
def gH.av (x:gH):I AV:=[.d (D.i x.Flags),.d (D.i x.iB),.d (D.l 1 D.u8 x.Data)]
def gH.zv:I AV:=[.d (D.i 0),.d (D.i 0),.d (D.nil 1)]
def gH.wf (x:gH):Prop:=wv x.Flags/\wv x.iB/\(x.Data.length<=Xb3/\x.Data.length*1<=Xbw/\∀y0∈x.Data,True)/\True
structure gE where
  gO:Int
  Path:List oF
  Next:Addr
  wo:Int
  th:Int
  vS:Int
  cW:List qv
  oB:List oB
  iX:List gH
def gE.fv (x:gE):D:=.agg [D.i x.gO,D.l 2 oF.fv x.Path,D.b x.Next.V6,D.u64 x.Next.Hi,D.u64 x.Next.Lo,D.i x.wo,D.i x.th,D.i x.vS,D.l 2 qv.fv x.cW,D.l 3 oB.fv x.oB,D.l 3 gH.fv x.iX]
def gE.av (x:gE):I AV:=[.d (D.i x.gO),.d (D.l 2 oF.fv x.Path),.d (D.b x.Next.V6),.d (D.u64 x.Next.Hi),.d (D.u64 x.Next.Lo),.d (D.i x.wo),.d (D.i x.th),.d (D.i x.vS),.d (D.l 2 qv.fv x.cW),.d (D.l 3 oB.fv x.oB),.d (D.l 3 gH.fv x.iX)]
def gE.zv:I AV:=[.d (D.i 0),.d (D.nil 2),.d (D.b false),.d (D.u64 (0:j)),.d (D.u64 (0:j)),.d (D.i 0),.d (D.i 0),.d (D.i 0),.d (D.nil 2),.d (D.nil 3),.d (D.nil 3)]
def gE.wf (x:gE):Prop:=wv x.gO/\(x.Path.length<=Xb3/\x.Path.length*32<=Xbw/\∀y0∈x.Path,oF.wf y0)/\Addr.wf x.Next/\wv x.wo/\wv x.th/\wv x.vS/\(x.cW.length<=Xb3/\x.cW.length*16<=Xbw/\∀y0∈x.cW,qv.wf y0)/\(x.oB.length<=Xb3/\x.oB.length*24<=Xbw/\∀y0∈x.oB,oB.wf y0)/\(x.iX.length<=Xb3/\x.iX.length*40<=Xbw/\∀y0∈x.iX,gH.wf y0)/\True
structure lf where
  tS:Int
  Set:ByteArray
  tb:Int
  tv:Int
  oT:List Addr
def lf.fv (x:lf):D:=.agg [D.i x.tS,D.s x.Set,D.i x.tb,D.i x.tv,D.l 3 Addr.fv x.oT]
def lf.av (x:lf):I AV:=[.d (D.i x.tS),.d (D.s x.Set),.d (D.i x.tb),.d (D.i x.tv),.d (D.l 3 Addr.fv x.oT)]
def lf.zv:I AV:=[.d (D.i 0),.d (D.s Xac),.d (D.i 0),.d (D.i 0),.d (D.nil 3)]
def lf.wf (x:lf):Prop:=wv x.tS/\(x.Set.size<=Xb3/\x.Set.size<=Xbw)/\wv x.tb/\wv x.tv/\(x.oT.length<=Xb3/\x.oT.length*24<=Xbw/\∀y0∈x.oT,Addr.wf y0)/\True
structure fI where
  Addr:Addr
  vg:Int
def fI.fv (x:fI):D:=.agg [D.b x.Addr.V6,D.u64 x.Addr.Hi,D.u64 x.Addr.Lo,D.i x.vg]
def fI.av (x:fI):I AV:=[.d (D.b x.Addr.V6),.d (D.u64 x.Addr.Hi),.d (D.u64 x.Addr.Lo),.d (D.i x.vg)]
def fI.zv:I AV:=[.d (D.b false),.d (D.u64 (0:j)),.d (D.u64 (0:j)),.d (D.i 0)]
def fI.wf (x:fI):Prop:=Addr.wf x.Addr/\wv x.vg/\True
def fI.wa (x y:fI):C:=(((x.Addr.V6==y.Addr.V6)&&(((x.Addr.Hi.toNat:Int)==(y.Addr.Hi.toNat:Int))&&(((x.Addr.Lo.toNat:Int)==(y.Addr.Lo.toNat:Int))&&true)))&&((x.vg==y.vg)&&true))
structure oA where
  fI:fI
  vY:Int
  gE:gE
def oA.fv (x:oA):D:=.agg [D.b x.fI.Addr.V6,D.u64 x.fI.Addr.Hi,D.u64 x.fI.Addr.Lo,D.i x.fI.vg,D.i x.vY,D.i x.gE.gO,D.l 2 oF.fv x.gE.Path,D.b x.gE.Next.V6,D.u64 x.gE.Next.Hi,D.u64 x.gE.Next.Lo,D.i x.gE.wo,D.i x.gE.th,D.i x.gE.vS,D.l 2 qv.fv x.gE.cW,D.l 3 oB.fv x.gE.oB,D.l 3 gH.fv x.gE.iX]
def oA.av (x:oA):I AV:=[.d (D.b x.fI.Addr.V6),.d (D.u64 x.fI.Addr.Hi),.d (D.u64 x.fI.Addr.Lo),.d (D.i x.fI.vg),.d (D.i x.vY),.d (D.i x.gE.gO),.d (D.l 2 oF.fv x.gE.Path),.d (D.b x.gE.Next.V6),.d (D.u64 x.gE.Next.Hi),.d (D.u64 x.gE.Next.Lo),.d (D.i x.gE.wo),.d (D.i x.gE.th),.d (D.i x.gE.vS),.d (D.l 2 qv.fv x.gE.cW),.d (D.l 3 oB.fv x.gE.oB),.d (D.l 3 gH.fv x.gE.iX)]
def oA.zv:I AV:=[.d (D.b false),.d (D.u64 (0:j)),.d (D.u64 (0:j)),.d (D.i 0),.d (D.i 0),.d (D.i 0),.d (D.nil 2),.d (D.b false),.d (D.u64 (0:j)),.d (D.u64 (0:j)),.d (D.i 0),.d (D.i 0),.d (D.i 0),.d (D.nil 2),.d (D.nil 3),.d (D.nil 3)]
def oA.wf (x:oA):Prop:=fI.wf x.fI/\wv x.vY/\gE.wf x.gE/\True
structure gD where
  oA:oA
  vj:Int
  vq:Bool
def gD.fv (x:gD):D:=.agg [D.b x.oA.fI.Addr.V6,D.u64 x.oA.fI.Addr.Hi,D.u64 x.oA.fI.Addr.Lo,D.i x.oA.fI.vg,D.i x.oA.vY,D.i x.oA.gE.gO,D.l 2 oF.fv x.oA.gE.Path,D.b x.oA.gE.Next.V6,D.u64 x.oA.gE.Next.Hi,D.u64 x.oA.gE.Next.Lo,D.i x.oA.gE.wo,D.i x.oA.gE.th,D.i x.oA.gE.vS,D.l 2 qv.fv x.oA.gE.cW,D.l 3 oB.fv x.oA.gE.oB,D.l 3 gH.fv x.oA.gE.iX,D.i x.vj,D.b x.vq]
def gD.av (x:gD):I AV:=[.d (D.b x.oA.fI.Addr.V6),.d (D.u64 x.oA.fI.Addr.Hi),.d (D.u64 x.oA.fI.Addr.Lo),.d (D.i x.oA.fI.vg),.d (D.i x.oA.vY),.d (D.i x.oA.gE.gO),.d (D.l 2 oF.fv x.oA.gE.Path),.d (D.b x.oA.gE.Next.V6),.d (D.u64 x.oA.gE.Next.Hi),.d (D.u64 x.oA.gE.Next.Lo),.d (D.i x.oA.gE.wo),.d (D.i x.oA.gE.th),.d (D.i x.oA.gE.vS),.d (D.l 2 qv.fv x.oA.gE.cW),.d (D.l 3 oB.fv x.oA.gE.oB),.d (D.l 3 gH.fv x.oA.gE.iX),.d (D.i x.vj),.d (D.b x.vq)]
def gD.zv:I AV:=[.d (D.b false),.d (D.u64 (0:j)),.d (D.u64 (0:j)),.d (D.i 0),.d (D.i 0),.d (D.i 0),.d (D.nil 2),.d (D.b false),.d (D.u64 (0:j)),.d (D.u64 (0:j)),.d (D.i 0),.d (D.i 0),.d (D.i 0),.d (D.nil 2),.d (D.nil 3),.d (D.nil 3),.d (D.i 0),.d (D.b false)]
def gD.wf (x:gD):Prop:=oA.wf x.oA/\wv x.vj/\True/\True
structure ls where
  lf:lf
  Up:Bool
  gD:List gD
  oX:Int
def ls.fv (x:ls):D:=.agg [D.i x.lf.tS,D.s x.lf.Set,D.i x.lf.tb,D.i x.lf.tv,D.l 3 Addr.fv x.lf.oT,D.b x.Up,D.l 18 gD.fv x.gD,D.i x.oX]
def ls.av (x:ls):I AV:=[.d (D.i x.lf.tS),.d (D.s x.lf.Set),.d (D.i x.lf.tb),.d (D.i x.lf.tv),.d (D.l 3 Addr.fv x.lf.oT),.d (D.b x.Up),.d (D.l 18 gD.fv x.gD),.d (D.i x.oX)]
def ls.zv:I AV:=[.d (D.i 0),.d (D.s Xac),.d (D.i 0),.d (D.i 0),.d (D.nil 3),.d (D.b false),.d (D.nil 18),.d (D.i 0)]
def ls.wf (x:ls):Prop:=lf.wf x.lf/\True/\(x.gD.length<=Xb3/\x.gD.length*208<=Xbw/\∀y0∈x.gD,gD.wf y0)/\wv x.oX/\True
structure ye where
  e0:Int
  e1:Int
def ye.fv (x:ye):D:=.agg [D.i x.e0,D.i x.e1]
def ye.av (x:ye):I AV:=[.d (D.i x.e0),.d (D.i x.e1)]
def ye.zv:I AV:=[.d (D.i 0),.d (D.i 0)]
def ye.wf (x:ye):Prop:=wv x.e0/\wv x.e1/\True
structure wz where
  vY:Int
  To:Int
def wz.fv (x:wz):D:=.agg [D.i x.vY,D.i x.To]
def wz.av (x:wz):I AV:=[.d (D.i x.vY),.d (D.i x.To)]
def wz.zv:I AV:=[.d (D.i 0),.d (D.i 0)]
def wz.wf (x:wz):Prop:=wv x.vY/\wv x.To/\True
def wz.wa (x y:wz):C:=((x.vY==y.vY)&&((x.To==y.To)&&true))
structure kI where
  fI:fI
  Max:Int
  tS:Int
def kI.fv (x:kI):D:=.agg [D.b x.fI.Addr.V6,D.u64 x.fI.Addr.Hi,D.u64 x.fI.Addr.Lo,D.i x.fI.vg,D.i x.Max,D.i x.tS]
def kI.av (x:kI):I AV:=[.d (D.b x.fI.Addr.V6),.d (D.u64 x.fI.Addr.Hi),.d (D.u64 x.fI.Addr.Lo),.d (D.i x.fI.vg),.d (D.i x.Max),.d (D.i x.tS)]
def kI.zv:I AV:=[.d (D.b false),.d (D.u64 (0:j)),.d (D.u64 (0:j)),.d (D.i 0),.d (D.i 0),.d (D.i 0)]
def kI.wf (x:kI):Prop:=fI.wf x.fI/\wv x.Max/\wv x.tS/\True
def kI.wa (x y:kI):C:=((((x.fI.Addr.V6==y.fI.Addr.V6)&&(((x.fI.Addr.Hi.toNat:Int)==(y.fI.Addr.Hi.toNat:Int))&&(((x.fI.Addr.Lo.toNat:Int)==(y.fI.Addr.Lo.toNat:Int))&&true)))&&((x.fI.vg==y.fI.vg)&&true))&&((x.Max==y.Max)&&((x.tS==y.tS)&&true)))
structure Set where
  Name:ByteArray
  o3:List Int
  ph:List ByteArray
def Set.fv (x:Set):D:=.agg [D.s x.Name,D.l 1 D.i x.o3,D.l 1 D.s x.ph]
def Set.av (x:Set):I AV:=[.d (D.s x.Name),.d (D.l 1 D.i x.o3),.d (D.l 1 D.s x.ph)]
def Set.zv:I AV:=[.d (D.s Xac),.d (D.nil 1),.d (D.nil 1)]
def Set.wf (x:Set):Prop:=(x.Name.size<=Xb3/\x.Name.size<=Xbw)/\(x.o3.length<=Xb3/\x.o3.length*8<=Xbw/\∀y0∈x.o3,wv y0)/\(x.ph.length<=Xb3/\x.ph.length*16<=Xbw/\∀y0∈x.ph,(y0.size<=Xb3/\y0.size<=Xbw))/\True
structure we where
  ph:List Set
  pk:List kI
def we.fv (x:we):D:=.agg [D.l 3 Set.fv x.ph,D.l 6 kI.fv x.pk]
def we.av (x:we):I AV:=[.d (D.l 3 Set.fv x.ph),.d (D.l 6 kI.fv x.pk)]
def we.zv:I AV:=[.d (D.nil 3),.d (D.nil 6)]
def we.wf (x:we):Prop:=(x.ph.length<=Xb3/\x.ph.length*64<=Xbw/\∀y0∈x.ph,Set.wf y0)/\(x.pk.length<=Xb3/\x.pk.length*48<=Xbw/\∀y0∈x.pk,kI.wf y0)/\True
structure vV where
  yM:Int
  wF:List fI
  xu:Int
  tb:Int
  xr:Int
  tv:Int
  wW:Int
  wY:Int
  vt:List fI
  vh:List wz
  wm:List Int
  xl:Int
  we:we
  tF:List kI
def vV.fv (x:vV):D:=.agg [D.i x.yM,D.l 4 fI.fv x.wF,D.i x.xu,D.i x.tb,D.i x.xr,D.i x.tv,D.i x.wW,D.i x.wY,D.l 4 fI.fv x.vt,D.l 2 wz.fv x.vh,D.l 1 D.i x.wm,D.i x.xl,D.l 3 Set.fv x.we.ph,D.l 6 kI.fv x.we.pk,D.l 6 kI.fv x.tF]
def vV.av (x:vV):I AV:=[.d (D.i x.yM),.d (D.l 4 fI.fv x.wF),.d (D.i x.xu),.d (D.i x.tb),.d (D.i x.xr),.d (D.i x.tv),.d (D.i x.wW),.d (D.i x.wY),.d (D.l 4 fI.fv x.vt),.d (D.l 2 wz.fv x.vh),.d (D.l 1 D.i x.wm),.d (D.i x.xl),.d (D.l 3 Set.fv x.we.ph),.d (D.l 6 kI.fv x.we.pk),.d (D.l 6 kI.fv x.tF)]
def vV.zv:I AV:=[.d (D.i 0),.d (D.nil 4),.d (D.i 0),.d (D.i 0),.d (D.i 0),.d (D.i 0),.d (D.i 0),.d (D.i 0),.d (D.nil 4),.d (D.nil 2),.d (D.nil 1),.d (D.i 0),.d (D.nil 3),.d (D.nil 6),.d (D.nil 6)]
def vV.wf (x:vV):Prop:=wv x.yM/\(x.wF.length<=Xb3/\x.wF.length*32<=Xbw/\∀y0∈x.wF,fI.wf y0)/\wv x.xu/\wv x.tb/\wv x.xr/\wv x.tv/\wv x.wW/\wv x.wY/\(x.vt.length<=Xb3/\x.vt.length*32<=Xbw/\∀y0∈x.vt,fI.wf y0)/\(x.vh.length<=Xb3/\x.vh.length*16<=Xbw/\∀y0∈x.vh,wz.wf y0)/\(x.wm.length<=Xb3/\x.wm.length*8<=Xbw/\∀y0∈x.wm,wv y0)/\wv x.xl/\we.wf x.we/\(x.tF.length<=Xb3/\x.tF.length*48<=Xbw/\∀y0∈x.tF,kI.wf y0)/\True
structure tT where
  gS:List fI
  gE:gE
  fT:List fI
def tT.fv (x:tT):D:=.agg [D.l 4 fI.fv x.gS,D.i x.gE.gO,D.l 2 oF.fv x.gE.Path,D.b x.gE.Next.V6,D.u64 x.gE.Next.Hi,D.u64 x.gE.Next.Lo,D.i x.gE.wo,D.i x.gE.th,D.i x.gE.vS,D.l 2 qv.fv x.gE.cW,D.l 3 oB.fv x.gE.oB,D.l 3 gH.fv x.gE.iX,D.l 4 fI.fv x.fT]
def tT.av (x:tT):I AV:=[.d (D.l 4 fI.fv x.gS),.d (D.i x.gE.gO),.d (D.l 2 oF.fv x.gE.Path),.d (D.b x.gE.Next.V6),.d (D.u64 x.gE.Next.Hi),.d (D.u64 x.gE.Next.Lo),.d (D.i x.gE.wo),.d (D.i x.gE.th),.d (D.i x.gE.vS),.d (D.l 2 qv.fv x.gE.cW),.d (D.l 3 oB.fv x.gE.oB),.d (D.l 3 gH.fv x.gE.iX),.d (D.l 4 fI.fv x.fT)]
def tT.zv:I AV:=[.d (D.nil 4),.d (D.i 0),.d (D.nil 2),.d (D.b false),.d (D.u64 (0:j)),.d (D.u64 (0:j)),.d (D.i 0),.d (D.i 0),.d (D.i 0),.d (D.nil 2),.d (D.nil 3),.d (D.nil 3),.d (D.nil 4)]
def tT.wf (x:tT):Prop:=(x.gS.length<=Xb3/\x.gS.length*32<=Xbw/\∀y0∈x.gS,fI.wf y0)/\gE.wf x.gE/\(x.fT.length<=Xb3/\x.fT.length*32<=Xbw/\∀y0∈x.fT,fI.wf y0)/\True
structure vZ where
  f:vV
  p:lf
  r:oA
  path:List Int
  origin:Int
  hole:Bool
def vZ.fv (x:vZ):D:=.agg [D.i x.f.yM,D.l 4 fI.fv x.f.wF,D.i x.f.xu,D.i x.f.tb,D.i x.f.xr,D.i x.f.tv,D.i x.f.wW,D.i x.f.wY,D.l 4 fI.fv x.f.vt,D.l 2 wz.fv x.f.vh,D.l 1 D.i x.f.wm,D.i x.f.xl,D.l 3 Set.fv x.f.we.ph,D.l 6 kI.fv x.f.we.pk,D.l 6 kI.fv x.f.tF,D.i x.p.tS,D.s x.p.Set,D.i x.p.tb,D.i x.p.tv,D.l 3 Addr.fv x.p.oT,D.b x.r.fI.Addr.V6,D.u64 x.r.fI.Addr.Hi,D.u64 x.r.fI.Addr.Lo,D.i x.r.fI.vg,D.i x.r.vY,D.i x.r.gE.gO,D.l 2 oF.fv x.r.gE.Path,D.b x.r.gE.Next.V6,D.u64 x.r.gE.Next.Hi,D.u64 x.r.gE.Next.Lo,D.i x.r.gE.wo,D.i x.r.gE.th,D.i x.r.gE.vS,D.l 2 qv.fv x.r.gE.cW,D.l 3 oB.fv x.r.gE.oB,D.l 3 gH.fv x.r.gE.iX,D.l 1 D.i x.path,D.i x.origin,D.b x.hole]
def vZ.av (x:vZ):I AV:=[.d (D.i x.f.yM),.d (D.l 4 fI.fv x.f.wF),.d (D.i x.f.xu),.d (D.i x.f.tb),.d (D.i x.f.xr),.d (D.i x.f.tv),.d (D.i x.f.wW),.d (D.i x.f.wY),.d (D.l 4 fI.fv x.f.vt),.d (D.l 2 wz.fv x.f.vh),.d (D.l 1 D.i x.f.wm),.d (D.i x.f.xl),.d (D.l 3 Set.fv x.f.we.ph),.d (D.l 6 kI.fv x.f.we.pk),.d (D.l 6 kI.fv x.f.tF),.d (D.i x.p.tS),.d (D.s x.p.Set),.d (D.i x.p.tb),.d (D.i x.p.tv),.d (D.l 3 Addr.fv x.p.oT),.d (D.b x.r.fI.Addr.V6),.d (D.u64 x.r.fI.Addr.Hi),.d (D.u64 x.r.fI.Addr.Lo),.d (D.i x.r.fI.vg),.d (D.i x.r.vY),.d (D.i x.r.gE.gO),.d (D.l 2 oF.fv x.r.gE.Path),.d (D.b x.r.gE.Next.V6),.d (D.u64 x.r.gE.Next.Hi),.d (D.u64 x.r.gE.Next.Lo),.d (D.i x.r.gE.wo),.d (D.i x.r.gE.th),.d (D.i x.r.gE.vS),.d (D.l 2 qv.fv x.r.gE.cW),.d (D.l 3 oB.fv x.r.gE.oB),.d (D.l 3 gH.fv x.r.gE.iX),.d (D.l 1 D.i x.path),.d (D.i x.origin),.d (D.b x.hole)]
def vZ.zv:I AV:=[.d (D.i 0),.d (D.nil 4),.d (D.i 0),.d (D.i 0),.d (D.i 0),.d (D.i 0),.d (D.i 0),.d (D.i 0),.d (D.nil 4),.d (D.nil 2),.d (D.nil 1),.d (D.i 0),.d (D.nil 3),.d (D.nil 6),.d (D.nil 6),.d (D.i 0),.d (D.s Xac),.d (D.i 0),.d (D.i 0),.d (D.nil 3),.d (D.b false),.d (D.u64 (0:j)),.d (D.u64 (0:j)),.d (D.i 0),.d (D.i 0),.d (D.i 0),.d (D.nil 2),.d (D.b false),.d (D.u64 (0:j)),.d (D.u64 (0:j)),.d (D.i 0),.d (D.i 0),.d (D.i 0),.d (D.nil 2),.d (D.nil 3),.d (D.nil 3),.d (D.nil 1),.d (D.i 0),.d (D.b false)]
def vZ.wf (x:vZ):Prop:=vV.wf x.f/\lf.wf x.p/\oA.wf x.r/\(x.path.length<=Xb3/\x.path.length*8<=Xbw/\∀y0∈x.path,wv y0)/\wv x.origin/\True/\True
structure zM where
  e0:Int
  e1:Int
  e2:Int
  e3:Int
  e4:Int
def zM.fv (x:zM):D:=.agg [D.i x.e0,D.i x.e1,D.i x.e2,D.i x.e3,D.i x.e4]
def zM.av (x:zM):I AV:=[.d (D.i x.e0),.d (D.i x.e1),.d (D.i x.e2),.d (D.i x.e3),.d (D.i x.e4)]
def zM.zv:I AV:=[.d (D.i 0),.d (D.i 0),.d (D.i 0),.d (D.i 0),.d (D.i 0)]
def zM.wf (x:zM):Prop:=wv x.e0/\wv x.e1/\wv x.e2/\wv x.e3/\wv x.e4/\True
structure xN where
  reason:Int
  vw:Nat
def xN.fv (x:xN):D:=.agg [D.i x.reason,D.fn x.vw]
def xN.av (x:xN):I AV:=[.d (D.i x.reason),.d (D.fn x.vw)]
def xN.zv:I AV:=[.d (D.i 0),.d (D.val .nilFunc)]
structure r9 where
  L:List Int
  At:Int
def r9.fv (x:r9):D:=.agg [D.l 1 D.i x.L,D.i x.At]
def r9.av (x:r9):I AV:=[.d (D.l 1 D.i x.L),.d (D.i x.At)]
def r9.zv:I AV:=[.d (D.nil 1),.d (D.i 0)]
def r9.wf (x:r9):Prop:=(x.L.length<=Xb3/\x.L.length*8<=Xbw/\∀y0∈x.L,wv y0)/\wv x.At/\True
def DD (J:gE):O C:= AB (τ:=Int) (λQ=> AI (σ:=Int) (λv2=> Q v2
) (λF (U:oF) i5 v2=> F (AO (v2+(AO (1+(U.o3.length:Int)))))
) J.Path 0 (AO ((AO ((J.cW.length:Int)+(J.oB.length:Int)))+(J.iX.length:Int)))
) λV=> AB (τ:=Int) (λY=> AI (σ:=Int) (λK=> Y K
) (λH (M:gH) i11 K=> H (AO (K+(M.Data.length:Int)))
) J.iX 0 V
) λP=> some (decide (P<=2000))
def GQ (H:ls):O C:= AB (τ:=Unit) (λK=> AI (σ:=Unit) (λ_=> K ()
) (λF (M:gD) i4 _=>
(DD M.oA.gE).bind λP=> if (!P) then some false else F ()
) H.gD 0 ()
) λ_=> AB (τ:=C) (λJ=> if (decide ((H.gD.length:Int)<=40)) then J (cond true (decide ((H.lf.oT.length:Int)<=40)) false) else J false
) λQ=> some Q
def G2 (H:ls):O C:= AB (τ:=ye) (λQ=> AI (σ:=ye) (λv2=> Q v2
) (λF (U:gD) i5 v2=> AB (τ:=ye) (λM=> if U.oA.fI.Addr.V6 then M (⟨v2.e0,(AO (v2.e1+1))⟩:ye) else M (⟨(AO (v2.e0+1)),v2.e1⟩:ye)
) λV=> F V
) H.gD 0 (⟨0,0⟩:ye)
) λP=> AB (τ:=C) (λJ=> if (decide (P.e0<=H.lf.tb)) then if (cond true (decide (P.e1<=H.lf.tv)) false) then J (cond true (decide ((H.gD.length:Int)<=256)) false) else J false else J false
) λK=> some K
def BK (F:Int)(J:Int)(K:Int):O C:= AB (τ:=C) (λH=> if (decide (F≥J)) then H (cond true (decide (F<=K)) false) else H false
) λv2=> some v2
def Ff (F:Addr):O C:= AB (τ:=C) (λH=> if F.V6 then H true else if ((F.Hi.toNat:Int)==0) then H (cond false true (cond true (decide ((F.Lo.toNat:Int)<4294967296)) false)) else H false
) λv2=> some v2
def D7 (F:Addr):O C:=
(Ff F).bind λv1=> some (!v1)
def Aq (H:I Addr):O Int:= AB (τ:=Unit) (λJ=> AI (σ:=Unit) (λ_=> J ()
) (λF (K:Addr) M _=>
(D7 K).bind λP=> if P then some (M:Int) else F ()
) H 0 ()
) λ_=> some (-1)
def Aa (F:I Addr):O C:=
(Aq F).bind λv1=> some (decide (v1≥0))
def Cd (F:lf):O C:= AB (τ:=C) (λH=>
(BK F.tS 1 4294967295).bind λv2=> if v2 then
(BK F.tb 0 256).bind λJ=> if (cond true J false) then
(BK F.tv 0 256).bind λK=> if (cond true K false) then if (cond true (decide ((F.oT.length:Int)<=8)) false) then
(Aa F.oT).bind λM=> H (cond true (!M) false) else H false else H false else H false else H false
) λP=> some P
def Gs (F:gD):O C:= some F.vq
def A2 (H:I gD):O Int:= AB (τ:=Unit) (λJ=> AI (σ:=Unit) (λ_=> J ()
) (λF (K:gD) M _=>
(Gs K).bind λP=> if P then some (M:Int) else F ()
) H 0 ()
) λ_=> some (-1)
def Ax (F:I gD):O C:=
(A2 F).bind λv1=> some (decide (v1≥0))
def HN (F:I gD):O C:=
(Ax F).bind λv1=> some v1
def BZ (F:Addr):O Int:= if F.V6 then some 128 else some 32
def Gg (F:Int):O (j×j):= if (decide (F>64)) then some ((AT (((AT (1*(2^(min (Wo ((AT (AO (F-64))).toNat:Int)) 64)))).toNat:Int)-1)),(18446744073709551615:j)) else some ((0:j),(AT (((AT (1*(2^(min (Wo ((AT F).toNat:Int)) 64)))).toNat:Int)-1)))
def EQ (F:Addr)(H:Int):O Addr:=
(BZ F).bind λv1=>
(Gg (AO (v1-H))).bind λ(v2,v3)=> some (⟨F.V6,(AT ((Xa2 64 (F.Hi.toNat:Int) &&& ~~~Xa2 64 (v2.toNat:Int)).toNat:Int)),(AT ((Xa2 64 (F.Lo.toNat:Int) &&& ~~~Xa2 64 (v3.toNat:Int)).toNat:Int))⟩:Addr)
def Bw (F:fI):O C:= AB (τ:=C) (λH=>
(Ff F.Addr).bind λv2=> if v2 then if (cond true (decide (F.vg≥0)) false) then
(BZ F.Addr).bind λJ=> if (cond true (decide (F.vg<=J)) false) then
(EQ F.Addr F.vg).bind λK=> H (cond true (Addr.wa K F.Addr) false) else H false else H false else H false
) λM=> some M
def FB (J:I Int):O Int:= AB (τ:=Unit) (λK=> AI (σ:=Unit) (λ_=> K ()
) (λF (H:Int) i4 _=> if (H !=0) then some H else F ()
) J 0 ()
) λ_=> some 0
def cmp_isNaN_int (F:Int):O C:= some (F !=F)
def rv (F:Int)(H:Int):O Int:=
(cmp_isNaN_int F).bind λv1=>
(cmp_isNaN_int H).bind λv2=> if v1 then if v2 then some 0 else some (-1) else if v2 then some 1 else if (decide (F<H)) then some (-1) else if (decide (F>H)) then some 1 else some 0
def HU (F:Addr):O Int:= if F.V6 then some 1 else some 0
def Ey (F:j):O C:= some ((F.toNat:Int) !=(F.toNat:Int))
def Cc (F:j)(H:j):O Int:=
(Ey F).bind λv1=>
(Ey H).bind λv2=> if v1 then if v2 then some 0 else some (-1) else if v2 then some 1 else if (decide ((F.toNat:Int)<(H.toNat:Int))) then some (-1) else if (decide ((F.toNat:Int)>(H.toNat:Int))) then some 1 else some 0
def NL (F:Addr)(H:Addr):O Int:=
(HU F).bind λv1=>
(HU H).bind λv2=>
(rv v1 v2).bind λJ=>
(Cc F.Hi H.Hi).bind λK=>
(Cc F.Lo H.Lo).bind λM=>
(FB ([J,K,M]:I Int)).bind λP=> some P
def Ft (F:fI)(H:fI):O Int:=
(NL F.Addr H.Addr).bind λv1=>
(rv F.vg H.vg).bind λv2=>
(FB ([v1,v2]:I Int)).bind λJ=> some J
def Bg (F:Int)(J:Int)(K:Int):O C:= AB (τ:=C) (λH=> if (decide (F≥J)) then H (cond true (decide (F<=K)) false) else H false
) λv2=> some v2
def CO (F:Int):O C:= AB (τ:=C) (λH=> if (decide (F≥1)) then H (cond true (decide (F<=4294967295)) false) else H false
) λv2=> some v2
def FG (a0:I oF):O C:= AB (τ:=Int) (λk1=> AI (σ:=Int) (λv2=> k1 v2
) (λJ (K:oF) i5 v2=> AB (τ:=Unit) (λk6=> AB (τ:=C) (λQ=> if ((K.o3.length:Int)==0) then Q true else if (decide ((i5:Int)>0)) then if (cond true (!K.Set) false) then
(mu a0 (AO ((i5:Int)-1))).bind λv8=> Q (cond false true (cond true (!v8.Set) false)) else Q false else Q false
) λv9=> if v9 then some false else AB (τ:=Unit) (λU=> AI (σ:=Unit) (λ_=> U ()
) (λF (M:Int) P _=> AB (τ:=C) (λH=>
(CO M).bind λV=> if (!V) then H true else if K.Set then if (cond true (decide ((P:Int)>0)) false) then
(mu K.o3 (AO ((P:Int)-1))).bind λY=> H (cond false true (cond true (decide (Y≥M)) false)) else H false else H false
) λZ=> if Z then some false else F ()
) K.o3 0 ()
) λ_=> k6 ()
) λ_=> J (AO (v2+(K.o3.length:Int)))
) a0 0 0
) λa1=> some (decide (a1<=64))
def Dy (H:I Int):O Int:= if (decide ((H.length:Int)<1)) then none else
(mu H 0).bind λv1=> AB (τ:=Int) (λK=> BD (σ:=Int×Int) (λF (v4,v5)=> if (decide (v5<(H.length:Int))) then
(mu H v5).bind λJ=> F ((if J<v4 then J else v4),(AO (v5+1))) else K v4
) tE (v1,1)
) λM=> some M
def D2 (H:I Int):O Int:= if (decide ((H.length:Int)<1)) then none else
(mu H 0).bind λv1=> AB (τ:=Int) (λK=> BD (σ:=Int×Int) (λF (v4,v5)=> if (decide (v5<(H.length:Int))) then
(mu H v5).bind λJ=> F ((if J>v4 then J else v4),(AO (v5+1))) else K v4
) tE (v1,1)
) λM=> some M
def Do (J:Int)(F:I Int):O C:= AB (τ:=C) (λH=>
(Dy F).bind λv2=> if (decide (v2≥0)) then
(D2 F).bind λK=> H (cond true (decide (K<=J)) false) else H false
) λM=> some M
def GB (F:qv):O C:=
(Do 65535 ([F.A,F.B]:I Int)).bind λv1=> some v1
def Hv (F:qv)(H:qv):O Int:=
(rv F.A H.A).bind λv1=>
(rv F.B H.B).bind λv2=>
(FB ([v1,v2]:I Int)).bind λJ=> some J
def Ae (H:I qv):O C:= AB (τ:=Unit) (λP=> AI (σ:=Unit) (λ_=> P ()
) (λF (K:qv) M _=> AB (τ:=C) (λJ=>
(GB K).bind λQ=> if (!Q) then J true else if (decide ((M:Int)>0)) then
(mu H (AO ((M:Int)-1))).bind λU=>
(Hv U K).bind λV=> J (cond false true (cond true (decide (V≥0)) false)) else J false
) λY=> if Y then some false else F ()
) H 0 ()
) λ_=> some (decide ((H.length:Int)<=64))
def EI (F:I qv):O C:=
(Ae F).bind λv1=> some v1
def DU (F:oB):O Bool:=
(Do 4294967295 ([F.A,F.B,F.C]:I Int)).bind λv1=> some v1
def FI (F:oB)(H:oB):O Int:=
(rv F.A H.A).bind λv1=>
(rv F.B H.B).bind λv2=>
(rv F.C H.C).bind λJ=>
(FB ([v1,v2,J]:I Int)).bind λK=> some K
def AW (H:I oB):O C:= AB (τ:=Unit) (λP=> AI (σ:=Unit) (λ_=> P ()
) (λF (K:oB) M _=> AB (τ:=C) (λJ=>
(DU K).bind λQ=> if (!Q) then J true else if (decide ((M:Int)>0)) then
(mu H (AO ((M:Int)-1))).bind λU=>
(FI U K).bind λV=> J (cond false true (cond true (decide (V≥0)) false)) else J false
) λY=> if Y then some false else F ()
) H 0 ()
) λ_=> some (decide ((H.length:Int)<=64))
def CJ (F:I oB):O C:=
(AW F).bind λv1=> some v1
def EN (F:Int):O C:= AB (τ:=C) (λH=>
(some (Xau (A7 EB F) 0)).bind λv2=> if (v2==0) then if (cond true (F !=14) false) then H (cond true (F !=15) false) else H false else H false
) λJ=> some J
def Dt (K:I gH):O C:= AB (τ:=Unit) (λP=> AI (σ:=Unit) (λ_=> P ()
) (λF (J:gH) M _=> AB (τ:=C) (λH=>
(EN J.iB).bind λQ=> if (!Q) then H true else
(Bg J.iB 1 255).bind λU=> if (cond false true (!U)) then H true else if (cond false true (J.Flags !=224)) then H true else if (cond false true (decide ((J.Data.length:Int)>255))) then H true else if (decide ((M:Int)>0)) then
(mu K (AO ((M:Int)-1))).bind λV=> H (cond false true (cond true (decide (V.iB≥J.iB)) false)) else H false
) λY=> if Y then some false else F ()
) K 0 ()
) λ_=> some (decide ((K.length:Int)<=8))
def Bt (F:gE):O C:= AB (τ:=C) (λH=>
(Bg F.gO (-1) 2).bind λv2=> if v2 then
(FG F.Path).bind λU=> if (cond true U false) then
(Ff F.Next).bind λV=> if (cond true V false) then
(Bg F.wo (-1) 4294967295).bind λY=> if (cond true Y false) then
(Bg F.th (-1) 4294967295).bind λZ=> if (cond true Z false) then if (F.vS==(-1)) then
(EI F.cW).bind λv7=> if (cond true v7 false) then
(CJ F.oB).bind λv8=> if (cond true v8 false) then
(Dt F.iX).bind λv9=> H (cond true v9 false) else H false else H false else
(CO F.vS).bind λJ=> if (cond true (cond false true J) false) then
(EI F.cW).bind λK=> if (cond true K false) then
(CJ F.oB).bind λM=> if (cond true M false) then
(Dt F.iX).bind λP=> H (cond true P false) else H false else H false else H false else H false else H false else H false else H false else H false
) λQ=> some Q
def E0 (H:ls):O C:= AB (τ:=C) (λM=>
(Cd H.lf).bind λv2=> if (!v2) then M true else if (cond false true (decide ((H.gD.length:Int)>256))) then M true else if (cond false true (decide (H.oX<0))) then M true else if (cond false true (decide (H.oX>1073745919))) then M true else
(HN H.gD).bind λv3=> M (cond false true (!((H.oX !=0)==v3)))
) λv4=> if v4 then some false else AB (τ:=Unit) (λk5=> AI (σ:=Unit) (λ_=> k5 ()
) (λK (J:gD) i8 _=> AB (τ:=C) (λF=>
(Bw J.oA.fI).bind λP=> if (!P) then F true else if (decide ((i8:Int)>0)) then
(mu H.gD (AO ((i8:Int)-1))).bind λQ=>
(Ft Q.oA.fI J.oA.fI).bind λU=> if (cond false true (cond true (decide (U≥0)) false)) then F true else
(Bt J.oA.gE).bind λV=> if (cond false true (!V)) then F true else if (cond false true (J.oA.vY !=H.lf.tS)) then F true else if (cond false true (decide (J.vj<0))) then F true else if (cond false true (decide (J.vj>14))) then F true else if (!H.Up) then F (cond false true (cond true (!J.vq) false)) else F false else
(Bt J.oA.gE).bind λY=> if (cond false true (!Y)) then F true else if (cond false true (J.oA.vY !=H.lf.tS)) then F true else if (cond false true (decide (J.vj<0))) then F true else if (cond false true (decide (J.vj>14))) then F true else if (!H.Up) then F (cond false true (cond true (!J.vq) false)) else F false
) λZ=> if Z then some false else K ()
) H.gD 0 ()
) λ_=>
(G2 H).bind λa1=> some a1
def F8 (F:fI):O C:=
(Bw F).bind λv1=> some (!v1)
def GK (F:wz):O C:= AB (τ:=C) (λH=> if (decide (F.vY<0)) then H true else if (cond false true (decide (F.vY>F.To))) then H true else H (cond false true (decide (F.To>4294967295)))
) λv2=> some v2
def GI (F:Int):O C:=
(BK F 1 4294967295).bind λv1=> some (!v1)
def GY (F:Addr):O Int:= if F.V6 then some 128 else some 32
def GF (F:kI):O C:= AB (τ:=C) (λH=>
(Bw F.fI).bind λv2=> if (!v2) then H true else
(GY F.fI.Addr).bind λJ=>
(BK F.Max F.fI.vg J).bind λK=> if (cond false true (!K)) then H true else
(BK F.tS 0 4294967295).bind λM=> H (cond false true (!M))
) λP=> some P
def OP (F:Int):O C:=
(CO F).bind λv1=> some (!v1)
def Gu (F:Int)(J:Int)(K:Int):O C:= AB (τ:=C) (λH=> if (decide (F≥J)) then H (cond true (decide (F<=K)) false) else H false
) λv2=> some v2
def GP (F:T):O C:=
(XP F (Xc5 (Xcc (Xa8 97 (Xa8 98 (Xa8 99 (Xa8 100 (Xa8 101 (Xa8 102 (Xa8 103 (Xa8 104 (Xa8 105 (Xa8 106 (Xa8 107 (Xa8 108 (Xa8 109 (Xa8 110 (Xa8 111 (Xa8 112 (Xa8 113 (Xa8 114 (Xa8 115 (Xa8 116 (Xa8 117 (Xa8 118 (Xa8 119 (Xa8 120 (Xa8 121 (Xa8 122 (Xa8 65 (Xa8 66 (Xa8 67 (Xa8 68 (Xa8 69 (Xa8 70 (Xa8 71 (Xa8 72 (Xa8 73 (Xa8 74 (Xa8 75 (Xa8 76 (Xa8 77 (Xa8 78 (Xa8 79 (Xa8 80 (Xa8 81 (Xa8 82 (Xa8 83 (Xa8 84 (Xa8 85 (Xa8 86 (Xa8 87 (Xa8 88 (Xa8 89 (Xa8 90 (Xa8 48 (Xa8 49 (Xa8 50 (Xa8 51 (Xa8 52 (Xa8 53 (Xa8 54 (Xa8 55 (Xa8 56 (Xa8 57 (Xa8 45 (Xa8 58 Xej))))))))))))))))))))))))))))))))))))))))))))))))))))))))))))))))))).bind λv1=> AB (τ:=C) (λH=>
(Gu (F.size:Int) 1 32).bind λJ=> if J then H (cond true (v1.toList==(Xc5 (Xcc Xej)).toList) false) else H false
) λK=> some K
def OU (F:T):O C:=
(GP F).bind λv1=> some (!v1)
def BX (H:I Int):O Int:= AB (τ:=Unit) (λJ=> AI (σ:=Unit) (λ_=> J ()
) (λF (K:Int) M _=>
(OP K).bind λP=> if P then some (M:Int) else F ()
) H 0 ()
) λ_=> some (-1)
def A9 (F:I Int):O C:=
(BX F).bind λv1=> some (decide (v1≥0))
def BH (H:I T):O Int:= AB (τ:=Unit) (λJ=> AI (σ:=Unit) (λ_=> J ()
) (λF (K:T) M _=>
(OU K).bind λP=> if P then some (M:Int) else F ()
) H 0 ()
) λ_=> some (-1)
def Av (F:I T):O C:=
(BH F).bind λv1=> some (decide (v1≥0))
def QO (F:Set):O C:= AB (τ:=C) (λH=>
(GP F.Name).bind λv2=> if v2 then if (cond true (decide ((F.o3.length:Int)<=64)) false) then if (cond true (decide ((F.ph.length:Int)<=64)) false) then
(A9 F.o3).bind λJ=> if (cond true (!J) false) then
(Av F.ph).bind λK=> H (cond true (!K) false) else H false else H false else H false else H false
) λM=> some M
def Lc (F:fI):O Int:= if F.Addr.V6 then some 128 else some 32
def IK (P:we):O C:= AB (τ:=Unit) (λk1=> AI (σ:=(I (T×C))) (λv2=> k1 ()
) (λK (Q:Set) i5 v2=> AB (τ:=C) (λk6=>
(some (Xau (A7 v2 Q.Name) false)).bind λv7=> if v7 then k6 true else
(QO Q).bind λv8=> k6 (cond false true (!v8))
) λv9=> if v9 then some false else K (BN v2 Q.Name true)
) P.ph 0 []
) λ_=> AB (τ:=Unit) (λU=> AI (σ:=Unit) (λ_=> U ()
) (λH (F:kI) i13 _=> AB (τ:=C) (λJ=>
(Bw F.fI).bind λV=> if (!V) then J true else if (cond false true (decide (F.Max<F.fI.vg))) then J true else
(Lc F.fI).bind λY=> if (cond false true (decide (F.Max>Y))) then J true else
(CO F.tS).bind λZ=> J (cond false true (!Z))
) λa1=> if a1 then some false else H ()
) P.pk 0 ()
) λ_=> AB (τ:=C) (λM=> if (decide ((P.ph.length:Int)<=64)) then M (cond true (decide ((P.pk.length:Int)<=512)) false) else M false
) λa6=> some a6
def As (H:I fI):O Int:= AB (τ:=Unit) (λJ=> AI (σ:=Unit) (λ_=> J ()
) (λF (K:fI) M _=>
(F8 K).bind λP=> if P then some (M:Int) else F ()
) H 0 ()
) λ_=> some (-1)
def AS (F:I fI):O C:=
(As F).bind λv1=> some (decide (v1≥0))
def A1 (H:I wz):O Int:= AB (τ:=Unit) (λJ=> AI (σ:=Unit) (λ_=> J ()
) (λF (K:wz) M _=>
(GK K).bind λP=> if P then some (M:Int) else F ()
) H 0 ()
) λ_=> some (-1)
def Af (F:I wz):O C:=
(A1 F).bind λv1=> some (decide (v1≥0))
def BI (H:I Int):O Int:= AB (τ:=Unit) (λJ=> AI (σ:=Unit) (λ_=> J ()
) (λF (K:Int) M _=>
(GI K).bind λP=> if P then some (M:Int) else F ()
) H 0 ()
) λ_=> some (-1)
def Az (F:I Int):O C:=
(BI F).bind λv1=> some (decide (v1≥0))
def Ar (H:I kI):O Int:= AB (τ:=Unit) (λJ=> AI (σ:=Unit) (λ_=> J ()
) (λF (K:kI) M _=>
(GF K).bind λP=> if P then some (M:Int) else F ()
) H 0 ()
) λ_=> some (-1)
def Ab (F:I kI):O C:=
(Ar F).bind λv1=> some (decide (v1≥0))
def H4 (F:vV):O C:= AB (τ:=C) (λJ=>
(BK F.yM 1 4294967295).bind λv2=> if (!v2) then J true else if (cond false true (decide ((F.wF.length:Int)>8))) then J true else if (cond false true (decide ((F.vt.length:Int)>64))) then J true else if (cond false true (decide ((F.vh.length:Int)>64))) then J true else if (cond false true (decide ((F.wm.length:Int)>64))) then J true else J (cond false true (decide ((F.tF.length:Int)>512)))
) λv3=> if v3 then some false else AB (τ:=C) (λH=> if (decide (F.xu<0)) then H true else if (cond false true (decide (F.xu>F.tb))) then H true else if (cond false true (decide (F.tb>32))) then H true else if (cond false true (decide (F.xr<0))) then H true else if (cond false true (decide (F.xr>F.tv))) then H true else if (cond false true (decide (F.tv>128))) then H true else
(BK F.wW 0 32).bind λv5=> if (cond false true (!v5)) then H true else
(BK F.wY 0 128).bind λv6=> if (cond false true (!v6)) then H true else
(BK F.xl 1 60).bind λv7=> H (cond false true (!v7))
) λv8=> if v8 then some false else AB (τ:=C) (λk9=>
(AS F.wF).bind λP=> if P then k9 true else
(AS F.vt).bind λQ=> k9 (cond false true Q)
) λU=> if U then some false else AB (τ:=C) (λK=>
(Af F.vh).bind λV=> if V then K true else
(Az F.wm).bind λY=> K (cond false true Y)
) λZ=> if Z then some false else AB (τ:=C) (λM=>
(Ab F.tF).bind λa1=> if (!a1) then
(IK F.we).bind λa6=> M (cond true a6 false) else M false
) λa7=> some a7
def GH (F:fI):O C:=
(Bw F).bind λv1=> some (!v1)
def Ho (F:gE):O C:= AB (τ:=Unit) (λJ=> J ()
) λ_=> AB (τ:=C) (λH=> if (F.gO==(-1)) then if (cond true (F.wo==(-1)) false) then if (cond true (F.th==(-1)) false) then if (cond true (F.vS==(-1)) false) then if (cond true (Addr.wa F.Next (⟨false,(0:j),(0:j)⟩:Addr)) false) then H (cond true ((AO ((AO ((AO ((F.Path.length:Int)+(F.cW.length:Int)))+(F.oB.length:Int)))+(F.iX.length:Int)))==0) false) else H false else H false else H false else H false else H false
) λK=> some K
def FT (H:fI)(F:tT):O (C×tT):= some ((!(H.Addr.V6==F.gE.Next.V6)),F)
def Au (K:I fI)(H:tT):O (Int×tT):= AB (τ:=tT) (λM=> AI (σ:=tT) (λv2=> M v2
) (λF (P:fI) Q v2=>
(FT P v2).bind λ(v6,J)=> if v6 then some ((Q:Int),J) else F J
) K 0 H
) λU=> some ((-1),U)
def Ad (H:I fI)(F:tT):O (C×tT):=
(Au H F).bind λ(v1,v2)=> some ((decide (v1≥0)),v2)
def Iu (F:tT):O C:= if ((F.fT.length:Int)==0) then
(Ho F.gE).bind λv1=> some v1 else AB (τ:=C) (λH=>
(Bt F.gE).bind λJ=> if J then if (cond true (F.gE.gO !=(-1)) false) then if (cond true (!(Addr.wa F.gE.Next (⟨false,(0:j),(0:j)⟩:Addr))) false) then
(Ad F.fT F).bind λ(v4,v5)=> H (cond true (!v4) false) else H false else H false else H false
) λK=> some K
def GG (a0:I gH):O ((I S)×Int):= AB (τ:=Unit) (λk1=> AI (σ:=Unit) (λ_=> k1 ()
) (λK (Q:gH) i4 _=> AB (τ:=C) (λU=>
(Bg Q.Flags 0 255).bind λv6=> if (!v6) then U true else
(Bg Q.iB 0 255).bind λv7=> if (cond false true (!v7)) then U true else U (cond false true (decide ((Q.Data.length:Int)>65535)))
) λv8=> if v8 then some ([],1) else K ()
) a0 0 ()
) λ_=> AB (τ:=(I S)) (λk9=> AI (σ:=(I S)) (λH=> k9 H
) (λJ (F:gH) i13 H=> AB (τ:=(I S)) (λM=> if (decide ((F.Data.length:Int)>255)) then
(gN (α:=S) 1 H ([(A4 ((Xa2 8 ((A4 ((Xa2 8 ((A4 F.Flags).toNat:Int) &&& Xa2 8 224).toNat:Int)).toNat:Int) ||| Xa2 8 16).toNat:Int)),(A4 F.iB),(A4 (Xas (F.Data.length:Int) (2^(min (Wo 8) 64)))),(A4 (F.Data.length:Int))]:I S)).bind λV=> M V else
(gN (α:=S) 1 H ([(A4 ((Xa2 8 ((A4 F.Flags).toNat:Int) &&& Xa2 8 224).toNat:Int)),(A4 F.iB),(A4 (F.Data.length:Int))]:I S)).bind λY=> M Y
) λZ=>
(gN (α:=S) 1 Z F.Data).bind λP=> if (decide ((P.length:Int)>2048)) then some ([],3) else J P
) a0 0 []
) λa1=> some (a1,0)
def Ba (K:Addr):O (I S):=
(Ff K).bind λv1=> if (!v1) then some [] else AB (τ:=Int) (λU=> if K.V6 then U 16 else U 4
) λH=>
(wQ (0<=H/\H<=H/\H<=1048576)).bind λ_=> AB (τ:=(I S)) (λV=> BD (σ:=Int×Addr×(I S)) (λF (v6,J,M)=> if (decide (v6≥0)) then
(mu M v6).bind λY=>
(wj M v6 (A4 (J.Lo.toNat:Int))).bind λP=> F ((AO (v6-1)),(⟨J.V6,(AT (Xas (J.Hi.toNat:Int) (2^(min (Wo 8) 64)))),(AT ((Xa2 64 ((AT (Xas (J.Lo.toNat:Int) (2^(min (Wo 8) 64)))).toNat:Int) ||| Xa2 64 ((AT ((J.Hi.toNat:Int)*(2^(min (Wo 56) 64)))).toNat:Int)).toNat:Int))⟩:Addr),P) else V M
) tE ((AO (H-1)),K,(Xav (Wo H) (0:S)))
) λQ=> some Q
def E7 (Q:I S)(U:I fI)(V:C):O (I S):= AB (τ:=(I S)) (λY=> AI (σ:=(I S)) (λv2=> Y v2
) (λF (H:fI) i5 v2=> AB (τ:=(I S)) (λP=> if (H.Addr.V6==V) then
(gN (α:=S) 1 v2 ([(A4 H.vg)]:I S)).bind λZ=>
(Ba H.Addr).bind λv8=>
(part v8 0 (AO (Int.tdiv (AO (H.vg+7)) 8))).bind λv9=>
(gN (α:=S) 1 Z v9).bind λJ=> P J else P v2
) λK=> F K
) U 0 Q
) λM=> some M
def Dh (J:I S)(K:I Int):O (I S):= AB (τ:=(I S)) (λM=> AI (σ:=(I S)) (λv2=> M v2
) (λF (H:Int) i5 v2=>
(gN (α:=S) 1 v2 ([(A4 (Xas H (2^(min (Wo 24) 64)))),(A4 (Xas H (2^(min (Wo 16) 64)))),(A4 (Xas H (2^(min (Wo 8) 64)))),(A4 H)]:I S)).bind λP=> F P
) K 0 J
) λQ=> some Q
def Bn (M:I oF):O (I S):= AB (τ:=(I S)) (λP=> AI (σ:=(I S)) (λv2=> P v2
) (λF (H:oF) i5 v2=> AB (τ:=S) (λK=> if H.Set then K (1:S) else K (2:S)
) λQ=>
(gN (α:=S) 1 v2 ([Q,(A4 (H.o3.length:Int))]:I S)).bind λU=>
(Dh U H.o3).bind λV=> F V
) M 0 []
) λJ=> some J
def B7 (J:I qv):O (I S):= AB (τ:=(I S)) (λK=> AI (σ:=(I S)) (λv2=> K v2
) (λF (H:qv) i5 v2=>
(Dh v2 ([(AO ((Xa2 64 (AO (H.A*(2^(min (Wo 16) 64)))) ||| Xa2 64 H.B).toNat:Int))]:I Int)).bind λM=> F M
) J 0 []
) λP=> some P
def EG (J:I oB):O (I S):= AB (τ:=(I S)) (λK=> AI (σ:=(I S)) (λv2=> K v2
) (λF (H:oB) i5 v2=>
(Dh v2 ([H.A,H.B,H.C]:I Int)).bind λM=> F M
) J 0 []
) λP=> some P
def B1 (F:I S):O (I S):=
(gN (α:=S) 1 ([]:I S) F).bind λv1=> some v1
def B2 (F:gH)(H:gH):O Int:=
(rv F.iB H.iB).bind λv1=> some v1
def BV (J:I Int):O (I S):= AB (τ:=(I S)) (λK=> AI (σ:=(I S)) (λv2=> K v2
) (λF (H:Int) i5 v2=>
(gN (α:=S) 1 v2 ([(A4 (Xas H (2^(min (Wo 24) 64)))),(A4 (Xas H (2^(min (Wo 16) 64)))),(A4 (Xas H (2^(min (Wo 8) 64)))),(A4 H)]:I S)).bind λM=> F M
) J 0 []
) λP=> some P
def Gw (F:gH)(H:gH):O Int:=
(rv F.iB H.iB).bind λv1=> some v1
def Es (Q:I fI)(U:C):O (I S):= AB (τ:=(I S)) (λV=> AI (σ:=(I S)) (λv2=> V v2
) (λF (H:fI) i5 v2=> AB (τ:=(I S)) (λP=> if (H.Addr.V6==U) then
(gN (α:=S) 1 v2 ([(A4 H.vg)]:I S)).bind λY=>
(Ba H.Addr).bind λZ=>
(part Z 0 (AO (Int.tdiv (AO (H.vg+7)) 8))).bind λv9=>
(gN (α:=S) 1 Y v9).bind λJ=> P J else P v2
) λK=> F K
) Q 0 []
) λM=> some M
def JG (F:tT):O (I gH):= AB (τ:=Int×(I gH)) (λk1=>
(Bt F.gE).bind λv2=> if (!v2) then k1 (1,[]) else AB (τ:=(I gH)) (λk3=> AB (τ:=(I gH)) (λk4=> if (F.gE.gO !=(-1)) then
(some (Xau (A7 EB 1) 0)).bind λv5=>
(gN (α:=gH) 40 [] ([(⟨v5,1,([(A4 F.gE.gO)]:I S)⟩:gH)]:I gH)).bind λ_=> k4 ([(⟨v5,1,([(A4 F.gE.gO)]:I S)⟩:gH)]:I gH) else k4 []
) λv6=> k3 v6
) λv7=> AB (τ:=(I gH)) (λk8=> if (F.gE.gO !=(-1)) then
(Bn F.gE.Path).bind λv9=> AB (τ:=(I gH)) (λak=>
(some (Xau (A7 EB 2) 0)).bind λal=>
(gN (α:=gH) 40 v7 ([(⟨al,2,v9⟩:gH)]:I gH)).bind λan=> ak an
) λao=> k8 ao else
(Bn F.gE.Path).bind λap=> AB (τ:=(I gH)) (λaq=> AB (τ:=(I gH)) (λM=> if (cond false true (decide ((F.gE.Path.length:Int)>0))) then
(some (Xau (A7 EB 2) 0)).bind λar=>
(gN (α:=gH) 40 v7 ([(⟨ar,2,ap⟩:gH)]:I gH)).bind λau=> M au else M v7
) λax=> aq ax
) λay=> k8 ay
) λJ=> AB (τ:=(I gH)) (λP=> if (!F.gE.Next.V6) then
(Ba F.gE.Next).bind λaz=> AB (τ:=(I gH)) (λb0=> AB (τ:=(I gH)) (λQ=> if (cond true (!(Addr.wa F.gE.Next (⟨false,(0:j),(0:j)⟩:Addr))) false) then
(some (Xau (A7 EB 3) 0)).bind λba=>
(gN (α:=gH) 40 J ([(⟨ba,3,az⟩:gH)]:I gH)).bind λbb=> Q bb else Q J
) λbc=> b0 bc
) λbd=> P bd else
(Ba F.gE.Next).bind λcv=> AB (τ:=Unit) (λbe=> be ()
) λ_=> P J
) λU=>
(BV ([F.gE.wo]:I Int)).bind λbf=> AB (τ:=(I gH)) (λbg=> AB (τ:=(I gH)) (λV=> if (F.gE.wo !=(-1)) then
(some (Xau (A7 EB 4) 0)).bind λbh=>
(gN (α:=gH) 40 U ([(⟨bh,4,bf⟩:gH)]:I gH)).bind λbi=> V bi else V U
) λbj=> bg bj
) λY=>
(BV ([F.gE.th]:I Int)).bind λbk=> AB (τ:=(I gH)) (λbl=> AB (τ:=(I gH)) (λZ=> if (F.gE.th !=(-1)) then
(some (Xau (A7 EB 5) 0)).bind λbm=>
(gN (α:=gH) 40 Y ([(⟨bm,5,bk⟩:gH)]:I gH)).bind λbn=> Z bn else Z Y
) λbo=> bl bo
) λa1=>
(B7 F.gE.cW).bind λbp=> AB (τ:=(I gH)) (λbq=> AB (τ:=(I gH)) (λa6=> if (decide ((F.gE.cW.length:Int)>0)) then
(some (Xau (A7 EB 8) 0)).bind λbr=>
(gN (α:=gH) 40 a1 ([(⟨br,8,bp⟩:gH)]:I gH)).bind λbu=> a6 bu else a6 a1
) λbw=> bq bw
) λa7=>
(EG F.gE.oB).bind λbx=> AB (τ:=(I gH)) (λbz=> AB (τ:=(I gH)) (λa8=> if (decide ((F.gE.oB.length:Int)>0)) then
(some (Xau (A7 EB 32) 0)).bind λc0=>
(gN (α:=gH) 40 a7 ([(⟨c0,32,bx⟩:gH)]:I gH)).bind λc3=> a8 c3 else a8 a7
) λc4=> bz c4
) λaa=>
(BV ([F.gE.vS]:I Int)).bind λc5=> AB (τ:=(I gH)) (λc6=> AB (τ:=(I gH)) (λab=> if (F.gE.vS !=(-1)) then
(some (Xau (A7 EB 35) 0)).bind λc7=>
(gN (α:=gH) 40 aa ([(⟨c7,35,c5⟩:gH)]:I gH)).bind λc8=> ab c8 else ab aa
) λc9=> c6 c9
) λca=> AB (τ:=(I gH)) (λcb=> AI (σ:=(I gH)) (λK=> cb K
) (λH (ae:gH) i72 K=>
(B1 ae.Data).bind λcc=>
(gN (α:=gH) 40 K ([{ ae with Data:=cc }]:I gH)).bind λcd=> H cd
) F.gE.iX 0 ca
) λcf=>
(Gv B2 cf).bind λcg=> k1 (0,cg)
) λ(v77,v78)=> AB (τ:=C) (λaf=> if (decide ((F.fT.length:Int)>0)) then af (cond true F.gE.Next.V6 false) else af false
) λch=> AB (τ:=(I gH)) (λag=> if ch then
(Ba F.gE.Next).bind λcj=>
(gN (α:=S) 1 ([(0:S),(2:S),(1:S),(16:S)]:I S) cj).bind λck=>
(gN (α:=S) 1 ck ([(0:S)]:I S)).bind λcm=>
(E7 cm F.fT true).bind λcn=>
(gN (α:=gH) 40 v78 ([(⟨128,14,cn⟩:gH)]:I gH)).bind λcp=> ag cp else ag v78
) λah=>
(Es F.gS true).bind λai=> AB (τ:=(I gH)) (λaj=> if (decide ((ai.length:Int)>0)) then
(gN (α:=S) 1 ([(0:S),(2:S),(1:S)]:I S) ai).bind λcq=>
(gN (α:=gH) 40 ah ([(⟨128,15,cq⟩:gH)]:I gH)).bind λcs=> aj cs else aj ah
) λct=>
(Gv Gw ct).bind λcu=> some cu
def J6 (H:I S)(F:Int):O (I S):=
(gN (α:=S) 1 H ([(A4 (Xas F (2^(min (Wo 8) 64)))),(A4 F)]:I S)).bind λv1=> some v1
def GO (F:Int):O (I S):=
(gN (α:=S) 1 [] ([(A4 (Xas F (2^(min (Wo 8) 64)))),(A4 F)]:I S)).bind λ_=> some ([(A4 (Xas F (2^(min (Wo 8) 64)))),(A4 F)]:I S)
def HY (H:tT):O ((I S)×C):=
(JG H).bind λv1=>
(GG v1).bind λ(v2,v3)=>
(Es H.gS false).bind λK=>
(GO (K.length:Int)).bind λP=>
(gN (α:=S) 1 P K).bind λQ=>
(J6 Q (v2.length:Int)).bind λU=>
(gN (α:=S) 1 U v2).bind λV=>
(E7 V H.fT false).bind λM=> AB (τ:=C) (λF=> if (v3==0) then F (cond true (decide ((M.length:Int)<=4077)) false) else F false
) λJ=> some (M,J)
def BA (H:I fI):O Int:= AB (τ:=Unit) (λJ=> AI (σ:=Unit) (λ_=> J ()
) (λF (K:fI) M _=>
(GH K).bind λP=> if P then some (M:Int) else F ()
) H 0 ()
) λ_=> some (-1)
def Ac (F:I fI):O C:=
(BA F).bind λv1=> some (decide (v1≥0))
def H5 (F:tT):O C:= AB (τ:=C) (λH=> if (decide ((F.gS.length:Int)>256)) then H true else if (cond false true (decide ((F.fT.length:Int)>256))) then H true else
(Ac F.gS).bind λv2=> if (cond false true v2) then H true else
(Ac F.fT).bind λJ=> if (cond false true J) then H true else
(Iu F).bind λK=> H (cond false true (!K))
) λM=> if M then some false else
(HY F).bind λ(v6,P)=> some P
def Dz (F:I Int):O (I Int):=
(gN (α:=Int) 8 [] F).bind λ_=> some F
def DR (F:I S):O (I S):=
(gN (α:=S) 1 [] F).bind λ_=> some F
def B9 (F:I qv):O (I qv):=
(gN (α:=qv) 16 [] F).bind λ_=> some F
def C2 (F:I oB):O (I oB):=
(gN (α:=oB) 24 [] F).bind λ_=> some F
def EM (K:gE):O gE:= AB (τ:=(I oF)) (λk1=> AI (σ:=(I oF)) (λv2=> k1 v2
) (λH (Z:oF) i5 v2=>
(Dz Z.o3).bind λv6=>
(gN (α:=oF) 32 v2 ([(⟨Z.Set,v6⟩:oF)]:I oF)).bind λv7=> H v7
) K.Path 0 []
) λv8=> AB (τ:=(I gH)) (λk9=> AI (σ:=(I gH)) (λJ=> k9 J
) (λF (M:gH) i13 J=>
(DR M.Data).bind λP=>
(gN (α:=gH) 40 J ([{ M with Data:=P }]:I gH)).bind λQ=> F Q
) K.iX 0 []
) λU=>
(B9 K.cW).bind λV=>
(C2 K.oB).bind λY=> some ({ K with Path:=v8,cW:=V,oB:=Y,iX:=U })
def JB (F:oA):O oA:=
(EM F.gE).bind λv1=> some (⟨(⟨((({ F with gE:=v1 }).fI).Addr),(({ F with gE:=v1 }).fI).vg⟩:fI),({ F with gE:=v1 }).vY,(({ F with gE:=v1 }).gE)⟩:oA)
def IQ (J:I gD):O (I gD):= AB (τ:=(I gD)) (λK=> AI (σ:=(I gD)) (λv2=> K v2
) (λF (H:gD) i5 v2=>
(JB H.oA).bind λM=>
(gN (α:=gD) 208 v2 ([{ H with oA:=M }]:I gD)).bind λP=> F P
) J 0 []
) λQ=> some Q
def Ec (F:I Addr):O (I Addr):=
(gN (α:=Addr) 24 [] F).bind λ_=> some F
def Ie (F:lf):O lf:=
(Ec F.oT).bind λv1=> some ({ F with oT:=v1 })
def HE (F:ls):O ls:=
(Ie F.lf).bind λv1=>
(IQ F.gD).bind λv2=> some (⟨v1,F.Up,v2,F.oX⟩:ls)
def Cm (F:gD)(H:fI):O Int:=
(Ft F.oA.fI H).bind λv1=> some v1
def AN (K:I gD)(U:fI):O (Int×C):= AB (τ:=Int) (λY=> BD (σ:=Int×Int) (λF (v3,v4)=> if (decide (v3<v4)) then
(mu K (AO ((AT (Xas ((AT (AO (v3+v4))).toNat:Int) (2^(min (Wo 1) 64)))).toNat:Int))).bind λZ=>
(Cm Z U).bind λv6=> AB (τ:=Int×Int) (λV=> if (decide (v6<0)) then V ((AO ((AO ((AT (Xas ((AT (AO (v3+v4))).toNat:Int) (2^(min (Wo 1) 64)))).toNat:Int))+1)),v4) else V (v3,(AO ((AT (Xas ((AT (AO (v3+v4))).toNat:Int) (2^(min (Wo 1) 64)))).toNat:Int)))
) λ(v8,v9)=> F (v8,v9) else Y v3
) tE (0,(K.length:Int))
) λH=> AB (τ:=C) (λJ=> if (decide (H<(K.length:Int))) then
(mu K H).bind λM=>
(Cm M U).bind λP=> J (cond true (P==0) false) else J false
) λQ=> some (H,Q)
def Ci (F:I gD)(H:fI):O (Int×C):=
(AN F H).bind λ(v1,v2)=> some (v1,v2)
def Gq (F:oA):O C:= AB (τ:=C) (λH=>
(Bw F.fI).bind λv2=> if v2 then
(Bt F.gE).bind λJ=> if (cond true J false) then if (cond true (F.gE.gO !=(-1)) false) then if (cond true (decide ((F.gE.Path.length:Int)>0)) false) then if (cond true (!(Addr.wa F.gE.Next (⟨false,(0:j),(0:j)⟩:Addr))) false) then H (cond true (F.gE.Next.V6==F.fI.Addr.V6) false) else H false else H false else H false else H false else H false
) λK=> some K
def I7 (H:I oF):O (I Int):= AB (τ:=(I Int)) (λJ=> AI (σ:=(I Int)) (λv2=> J v2
) (λF (K:oF) i5 v2=>
(gN (α:=Int) 8 v2 K.o3).bind λM=> F M
) H 0 []
) λP=> some P
def BJ (H:I qv)(J:qv):O Int:= AB (τ:=Unit) (λK=> AI (σ:=Unit) (λ_=> K ()
) (λF (M:qv) P _=> if (qv.wa J M) then some (P:Int) else F ()
) H 0 ()
) λ_=> some (-1)
def BC (F:I qv)(H:qv):O C:=
(BJ F H).bind λv1=> some (decide (v1≥0))
def Ij (F:I qv)(H:qv):O C:=
(BC F H).bind λv1=> some v1
def Iz (F:gE):O C:=
(Ij F.cW (⟨65535,666⟩:qv)).bind λv1=> some v1
def Gt (F:I oF):O (Int×C):= AB (τ:=C) (λH=> if ((F.length:Int)==0) then H true else
(FG F).bind λv2=> if (cond false true (!v2)) then H true else
(mu F (AO ((F.length:Int)-1))).bind λK=> H (cond false true K.Set)
) λM=> if M then some (0,false) else
(mu F (AO ((F.length:Int)-1))).bind λJ=>
(mu J.o3 (AO ((J.o3.length:Int)-1))).bind λP=> some (P,true)
def Hy (F:I oF):O (Int×C):= AB (τ:=C) (λH=> if ((F.length:Int)==0) then H true else
(FG F).bind λv2=> if (cond false true (!v2)) then H true else
(mu F 0).bind λJ=> H (cond false true J.Set)
) λK=> if K then some (0,false) else
(mu F 0).bind λM=>
(mu M.o3 0).bind λP=> some (P,true)
def Ek (F:vZ):O (C×vZ):=
(Hy F.r.gE.Path).bind λ(v1,v2)=> AB (τ:=C) (λH=> if (!v2) then H true else H (cond false true (v1 !=F.p.tS))
) λJ=> some (J,F)
def B0 (H:I Addr)(J:Addr):O Int:= AB (τ:=Unit) (λK=> AI (σ:=Unit) (λ_=> K ()
) (λF (M:Addr) P _=> if (Addr.wa J M) then some (P:Int) else F ()
) H 0 ()
) λ_=> some (-1)
def BL (F:I Addr)(H:Addr):O C:=
(B0 F H).bind λv1=> some (decide (v1≥0))
def Eu (F:vZ):O (C×vZ):=
(BL F.p.oT F.r.gE.Next).bind λv1=> some ((!v1),F)
def Dj (K:I oF):O Int:= AB (τ:=Int) (λM=> AI (σ:=Int) (λv2=> M v2
) (λF (H:oF) i5 v2=> AB (τ:=Int) (λJ=> if H.Set then J (AO (v2+1)) else J (AO (v2+(H.o3.length:Int)))
) λP=> F P
) K 0 0
) λQ=> some Q
def Ej (F:vZ):O (C×vZ):=
(Dj F.r.gE.Path).bind λv1=> some ((decide (v1>F.f.xl)),F)
def ES (H:I Int)(J:Int):O Int:= AB (τ:=Unit) (λK=> AI (σ:=Unit) (λ_=> K ()
) (λF (M:Int) P _=> if (J==M) then some (P:Int) else F ()
) H 0 ()
) λ_=> some (-1)
def Aw (F:I Int)(H:Int):O C:=
(ES F H).bind λv1=> some (decide (v1≥0))
def Et (F:vZ):O (C×vZ):=
(Aw F.path F.f.yM).bind λv1=> some (v1,F)
def Gf (F:oF):O C:= some F.Set
def An (H:I oF):O Int:= AB (τ:=Unit) (λJ=> AI (σ:=Unit) (λ_=> J ()
) (λF (K:oF) M _=>
(Gf K).bind λP=> if P then some (M:Int) else F ()
) H 0 ()
) λ_=> some (-1)
def AU (F:I oF):O C:=
(An F).bind λv1=> some (decide (v1≥0))
def Ee (F:vZ):O (C×vZ):=
(AU F.r.gE.Path).bind λv1=> some (v1,F)
def BO (F:wz)(H:Int):O (C×Int):=
(BK H F.vY F.To).bind λv1=> some (v1,H)
def Ai (K:I wz)(H:Int):O (Int×Int):= AB (τ:=Int) (λM=> AI (σ:=Int) (λv2=> M v2
) (λF (P:wz) Q v2=>
(BO P v2).bind λ(v6,J)=> if v6 then some ((Q:Int),J) else F J
) K 0 H
) λU=> some ((-1),U)
def AP (H:I wz)(F:Int):O (C×Int):=
(Ai H F).bind λ(v1,v2)=> some ((decide (v1≥0)),v2)
def CH (H:vZ):O (C×vZ):= AB (τ:=C) (λQ=> AB (τ:=Int) (λP=> AB (τ:=Unit) (λU=> AI (σ:=Unit) (λ_=> U ()
) (λF (V:Int) Y _=> AB (τ:=C) (λZ=>
(AP H.f.vh V).bind λ(v8,v9)=> Z v8
) λJ=> if J then P (Y:Int) else F ()
) H.path 0 ()
) λ_=> P (-1)
) λK=> Q (decide (K≥0))
) λM=> some (M,H)
def C7 (F:vZ):O (C×vZ):=
(Aw F.f.wm F.p.tS).bind λv1=> if v1 then some (false,F) else AB (τ:=C) (λZ=> AB (τ:=Int) (λU=> AB (τ:=Unit) (λk4=> AI (σ:=Unit) (λ_=> k4 ()
) (λH (V:Int) i7 _=> AB (τ:=C) (λk8=> AB (τ:=C) (λY=> if (V !=F.p.tS) then
(Aw F.f.wm V).bind λJ=> Y (cond true J false) else Y false
) λK=> k8 K
) λM=> if M then U (i7:Int) else H ()
) F.path 0 ()
) λ_=> U (-1)
) λP=> Z (decide (P≥0))
) λQ=> some (Q,F)
def MH:O zM:= some (⟨3,2,1,0,4⟩:zM)
def M4 (F:Int):O C:= AB (τ:=C) (λH=> if (decide (F≥0)) then
(MH).bind λv2=> H (cond true (decide (F<5)) false) else H false
) λJ=> some J
def KZ (F:Int):O C:= AB (τ:=C) (λH=> if (decide (F≥1)) then H (cond true (decide (F<=4294967295)) false) else H false
) λv2=> some v2
def H7 (J:Int)(P:Int)(F:gE):O (gE×Int):= AB (τ:=C) (λV=>
(M4 J).bind λv2=> if (!v2) then V true else
(KZ P).bind λv3=> V (cond false true (!v3))
) λv4=> if v4 then some ((⟨0,[],(⟨false,(0:j),(0:j)⟩:Addr),0,0,0,[],[],[]⟩:gE),1) else AB (τ:=C) (λY=> if (J==0) then Y true else Y (cond false true (J==1))
) λZ=> AB (τ:=C) (λH=> if Z then if (cond true (F.vS !=(-1)) false) then H true else if (J==4) then if (cond true (F.vS !=(-1)) false) then H (cond false true (cond true (F.vS !=P) false)) else H false else H false else if (J==4) then if (cond true (F.vS !=(-1)) false) then H (cond false true (cond true (F.vS !=P) false)) else H false else H false
) λv8=> if v8 then some ((⟨0,[],(⟨false,(0:j),(0:j)⟩:Addr),0,0,0,[],[],[]⟩:gE),30) else
(EM F).bind λv9=> AB (τ:=C) (λK=> if (!(F.vS !=(-1))) then K (cond true (!Z) false) else K false
) λQ=> AB (τ:=Int) (λM=> if Q then M P else M v9.vS
) λU=> some (({ v9 with vS:=U }),0)
def Eh (F:vZ):O (C×vZ):=
(H7 1 F.p.tS F.r.gE).bind λ(v1,v2)=> some ((v2==30),F)
def EF (F:fI)(J:Addr):O C:= AB (τ:=C) (λH=> if (F.Addr.V6==J.V6) then if (cond true (decide (F.vg≥0)) false) then
(BZ J).bind λv2=> if (cond true (decide (F.vg<=v2)) false) then
(EQ J F.vg).bind λK=> H (cond true (Addr.wa K F.Addr) false) else H false else H false else H false
) λM=> some M
def Br (F:fI)(H:fI):O C:= AB (τ:=C) (λJ=> if (decide (H.vg≥F.vg)) then
(EF F H.Addr).bind λv2=> J (cond true v2 false) else J false
) λK=> some K
def Eg (H:vZ):O (C×vZ):= AB (τ:=C) (λZ=> AB (τ:=Int) (λU=> AB (τ:=Unit) (λk3=> AI (σ:=Unit) (λ_=> k3 ()
) (λF (V:fI) i6 _=> AB (τ:=C) (λk7=> AB (τ:=C) (λY=>
(Br V H.r.fI).bind λv9=> if v9 then Y true else
(Br H.r.fI V).bind λJ=> Y (cond false true J)
) λK=> k7 K
) λM=> if M then U (i6:Int) else F ()
) H.f.wF 0 ()
) λ_=> U (-1)
) λP=> Z (decide (P≥0))
) λQ=> some (Q,H)
def En (H:vZ):O (C×vZ):= AB (τ:=C) (λP=> AB (τ:=Int) (λM=> AB (τ:=Unit) (λQ=> AI (σ:=Unit) (λ_=> Q ()
) (λF (U:fI) V _=> AB (τ:=C) (λY=>
(Br U H.r.fI).bind λZ=> Y Z
) λv9=> if v9 then M (V:Int) else F ()
) H.f.vt 0 ()
) λ_=> M (-1)
) λJ=> P (decide (J≥0))
) λK=> some (K,H)
def CW (F:vZ):O (C×vZ):= AB (τ:=Int×Int×Int) (λH=> if F.r.fI.Addr.V6 then H (F.f.xr,F.f.tv,F.f.wY) else H (F.f.xu,F.f.tb,F.f.wW)
) λ(v2,v3,v4)=> if F.hole then some ((decide (F.r.fI.vg<v4)),F) else
(BK F.r.fI.vg v2 v3).bind λJ=> some ((!J),F)
def D9 (F:I kI):O (I kI):=
(gN (α:=kI) 48 [] F).bind λ_=> some F
def FD (J:I kI):O (I kI):=
(D9 J).bind λv1=> AB (τ:=(I kI)) (λK=> BD (σ:=Int×(I kI)) (λF (v4,v5)=> if (decide (v4<(v1.length:Int))) then
(mu v5 v4).bind λM=>
(GY M.fI.Addr).bind λP=>
(mu v5 v4).bind λQ=>
(wj v5 v4 ({ Q with Max:=P })).bind λU=> F ((AO (v4+1)),U) else K v5
) tE (0,v1)
) λH=> some H
def HC (a0:we)(a1:T):O ((I Int)×(I T)×Int):=
(IK a0).bind λv1=> if (!v1) then some ([],[],1) else AB (τ:=(I (T×Set))) (λk2=> AI (σ:=(I (T×Set))) (λv3=> k2 v3
) (λP (x5:Set) i6 v3=> P (BN v3 x5.Name x5)
) a0.ph 0 []
) λv7=>
(some (Xau (A7 v7 a1) (⟨Xac,[],[]⟩:Set))).bind λv8=>
(some (Xdy (A7 v7 a1))).bind λv9=> if (!v9) then some ([],[],11) else AB (τ:=(I (Int×C))×(I (T×C))) (λa6=> BD (σ:=(I (T×C))×(I (Int×C))×(I (T×C))×(I T)) (λH (v12,J,Q,F)=> if (decide ((F.length:Int)>0)) then AB (τ:=(I (T×C))×(I (Int×C))×(I (T×C))×(I T)) (λa7=>
(mu F 0).bind λV=>
(some (Xau (A7 v7 V) (⟨Xac,[],[]⟩:Set))).bind λK=>
(some (Xdy (A7 v7 V))).bind λa8=> AB (τ:=(I (T×C))×(I (Int×C))×(I (T×C))×(I T)) (λaa=> AB (τ:=(I (T×C))×(I (Int×C))×(I (T×C))×(I T)) (λY=> if (!a8) then
(mu F 0).bind λab=> Y (v12,J,(BN Q ab true),F) else
(some (Xau (A7 v12 K.Name) false)).bind λae=> AB (τ:=(I (T×C))×(I (Int×C))×(I T)) (λZ=> if (!ae) then AB (τ:=(I (Int×C))) (λaf=> AI (σ:=(I (Int×C))) (λU=> af U
) (λM (ag:Int) i29 U=> M (BN U ag true)
) K.o3 0 J
) λah=>
(gN (α:=T) 16 F K.ph).bind λai=> Z ((BN v12 K.Name true),ah,ai) else Z (v12,J,F)
) λ(v32,v33,aj)=> Y (v32,v33,Q,aj)
) λ(v35,v36,v37,ak)=> aa (v35,v36,v37,ak)
) λ(v39,v40,v41,al)=> a7 (v39,v40,v41,al)
) λ(an,v44,v45,v46)=>
(part v46 1 (v46.length:Int)).bind λao=> H (an,v44,v45,ao) else a6 (J,Q)
) tE ([],[],[],([a1]:I T))
) λ(ap,v49)=>
(SC ap).bind λaq=>
(SK v49).bind λar=> some (aq,ar,0)
def HK (a0:I kI)(K:fI)(a2:Int):O Int:=
(Bw K).bind λv1=> if (!v1) then some 1 else AB (τ:=Int) (λk2=> AI (σ:=Int) (λH=> k2 H
) (λF (M:kI) i6 H=> AB (τ:=Int) (λY=> if (M.tS !=a2) then Y H else
(Br M.fI K).bind λv8=> AB (τ:=Int) (λZ=> if (!v8) then AB (τ:=Int) (λJ=> if (H==11) then J 7 else J H
) λP=> Z P else if (decide (K.vg>M.Max)) then Z 9 else some 0
) λQ=> Y Q
) λU=> F U
) a0 0 11
) λV=> some V
def A6 (F:I kI):O (I kI):=
(gN (α:=kI) 48 ([]:I kI) F).bind λv1=> some v1
def E1 (F:kI)(H:kI):O Int:=
(Ft F.fI H.fI).bind λv1=>
(rv F.Max H.Max).bind λv2=>
(rv F.tS H.tS).bind λJ=>
(FB ([v1,v2,J]:I Int)).bind λK=> some K
def BE (F:I kI):O (I kI):= if (decide ((F.length:Int)<2)) then some F else AB (τ:=Unit) (λk1=> BD (σ:=Int) (λJ H=> if (decide (H<(F.length:Int))) then AB (τ:=Unit) (λk4=>
(mu F H).bind λv5=>
(mu F (AO (H-1))).bind λv6=> if (kI.wa v5 v6) then
(wQ (0<=H/\H<=(F.length:Int)/\(F.length:Int)<=(F.length:Int))).bind λ_=> AB (τ:=Int×(I kI)) (λk7=> BD (σ:=Int×Int×(I kI)) (λK (v9,v10,v11)=> if (decide (v10<(((Wo (F.length:Int)-Wo H):Nat):Int))) then
(mu (Xbx (Wo (F.length:Int)-Wo H) (Xc2 (Wo H) v11)) v10).bind λP=>
(mu (Xbx (Wo (F.length:Int)-Wo H) (Xc2 (Wo H) v11)) (AO (v10-1))).bind λQ=> AB (τ:=Int×(I kI)) (λM=> if (!(kI.wa P Q)) then
(mu (Xbx (Wo (F.length:Int)-Wo H) (Xc2 (Wo H) v11)) v10).bind λU=>
(mu v11 v9).bind λa6=>
(wj v11 v9 U).bind λV=> M ((AO (v9+1)),V) else M (v9,v11)
) λ(Y,Z)=> K (Y,(AO (v10+1)),Z) else k7 (v9,v11)
) tE (H,1,F)
) λ(v20,v21)=>
(wQ (0<=v20/\v20<=(v21.length:Int)/\(v21.length:Int)<=(v21.length:Int))).bind λ_=>
(part (Xbx (Wo v20) v21++Xav (Wo (v21.length:Int)-Wo v20) (⟨(⟨(⟨false,(0:j),(0:j)⟩:Addr),0⟩:fI),0,0⟩:kI)++Xc2 ((Wo v20)+(Wo (v21.length:Int)-Wo v20)) v21) 0 v20).bind λa1=> some a1 else k4 ()
) λ_=> J (AO (H+1)) else k1 ()
) tE 1
) λ_=> some F
def I1 (F:I kI):O (I kI):=
(A6 F).bind λv1=>
(Gv E1 v1).bind λv2=>
(BE v2).bind λH=> some H
def Jh (H:kI)(F:I Int):O (C×(I Int)):=
(Aw F H.tS).bind λv1=> some ((!v1),F)
def Ag (K:I kI)(H:I Int):O (Int×(I Int)):= AB (τ:=(I Int)) (λM=> AI (σ:=(I Int)) (λv2=> M v2
) (λF (P:kI) Q v2=>
(Jh P v2).bind λ(v6,J)=> if v6 then some ((Q:Int),J) else F J
) K 0 H
) λU=> some ((-1),U)
def Ak (P:I kI)(K:I Int):O ((I kI)×(I Int)):=
(Ag P K).bind λ(v1,v2)=> if (v1==(-1)) then some (P,v2) else AB (τ:=Int×(I kI)×(I Int)) (λk3=> BD (σ:=Int×Int×(I kI)×(I Int)) (λH (v5,v6,J,v8)=> if (decide (v6<(J.length:Int))) then
(mu J v6).bind λv9=>
(Jh v9 v8).bind λ(v10,v11)=> AB (τ:=Int×(I kI)) (λM=> if (!v10) then
(mu J v5).bind λa1=>
(wj J v5 v9).bind λQ=> M ((AO (v5+1)),Q) else M (v5,J)
) λ(U,V)=> H (U,(AO (v6+1)),V,v11) else k3 (v5,J,v8)
) tE (v1,(AO (v1+1)),P,v2)
) λ(v17,F,Y)=>
(wQ (0<=v17/\v17<=(F.length:Int)/\(F.length:Int)<=(F.length:Int))).bind λ_=>
(part (Xbx (Wo v17) F++Xav (Wo (F.length:Int)-Wo v17) (⟨(⟨(⟨false,(0:j),(0:j)⟩:Addr),0⟩:fI),0,0⟩:kI)++Xc2 ((Wo v17)+(Wo (F.length:Int)-Wo v17)) F) 0 v17).bind λZ=> some (Z,Y)
def MZ (F:we)(H:I Int):O (I kI):=
(A6 F.pk).bind λv1=>
(Ak v1 H).bind λ(v2,v3)=>
(I1 v2).bind λJ=> some J
def Dl (F:we)(J:Int)(K:T)(U:fI)(M:Int):O Int:=
(IK F).bind λv1=> if (!v1) then some 1 else AB (τ:=(I Int)) (λP=> if (!(K.toList==(Xc5 (Xcc Xej)).toList)) then
(HC F K).bind λ(v3,v4,v5)=> if (v5 !=0) then some v5 else
(gN (α:=Int) 8 ([J]:I Int) v3).bind λV=> P V else P ([J]:I Int)
) λQ=>
(Aw Q M).bind λY=> if (!Y) then some 17 else
(MZ F Q).bind λZ=>
(HK Z U M).bind λH=> some H
def Ed (F:vZ):O (C×vZ):= AB (τ:=(I kI)) (λH=> if F.hole then
(FD F.f.we.pk).bind λv2=> H v2 else H F.f.we.pk
) λJ=>
(Dl (⟨F.f.we.ph,J⟩:we) F.p.tS F.p.Set F.r.fI F.origin).bind λK=> some ((K !=0),F)
def Hq (a0:I kI)(a1:fI)(a2:Int):O (Int×(I kI)):= AB (τ:=Int×(I kI)) (λk1=> AI (σ:=Int×(I kI)) (λ(v2,v3)=> k1 (v2,v3)
) (λF (M:kI) i6 (v2,v3)=> AB (τ:=Int×(I kI)) (λk7=>
(Br M.fI a1).bind λv8=> if (!v8) then k7 (v2,v3) else
(gN (α:=kI) 48 v3 ([M]:I kI)).bind λv9=> AB (τ:=C) (λH=> if (M.tS==a2) then if (cond true (a2 !=0) false) then H (cond true (decide (M.Max≥a1.vg)) false) else H false else H false
) λP=> AB (τ:=Int) (λJ=> if P then J 1 else AB (τ:=Int) (λK=> if (v2==0) then K 2 else K v2
) λQ=> J Q
) λU=> k7 (U,v9)
) λ(V,v17)=> F (V,v17)
) a0 0 (0,[])
) λ(Y,Z)=> some (Y,Z)
def ED (F:vZ):O (C×vZ):= AB (τ:=(I kI)) (λH=> if F.hole then
(FD F.f.tF).bind λv2=> H v2 else H F.f.tF
) λJ=>
(Hq J F.r.fI F.origin).bind λ(v4,v5)=> some ((v4==2),F)
def Jc:O (I xN):= some ([(⟨2,245⟩:xN),(⟨3,247⟩:xN),(⟨4,249⟩:xN),(⟨5,251⟩:xN),(⟨6,253⟩:xN),(⟨7,256⟩:xN),(⟨8,257⟩:xN),(⟨9,258⟩:xN),(⟨10,260⟩:xN),(⟨11,263⟩:xN),(⟨12,265⟩:xN),(⟨13,266⟩:xN),(⟨14,269⟩:xN)]:I xN)
def Fz (a0:vV)(a1:lf)(K:oA)(a3:Int):O (I Int):=
(Gq K).bind λv1=> if (!v1) then some ([1]:I Int) else
(I7 K.gE.Path).bind λv2=>
(Iz K.gE).bind λv3=>
(Gt K.gE.Path).bind λ(v4,v5)=> AB (τ:=Int) (λk6=> if v5 then k6 v4 else k6 (-1)
) λv7=>
(Jc).bind λv8=> AB (τ:=(I Int)) (λk9=> AI (σ:=vZ×(I Int)) (λ(v10,v11)=> k9 v11
) (λJ (F:xN) i14 (v10,v11)=> AB (τ:=C×vZ) (λH=> if (decide ((v11.length:Int)<a3)) then if (F.vw==245) then
(Ek v10).bind λ(P,v17)=> H ((cond true P false),v17) else if (F.vw==247) then
(Eu v10).bind λ(Q,U)=> H ((cond true Q false),U) else if (F.vw==249) then
(Ej v10).bind λ(v20,v21)=> H ((cond true v20 false),v21) else if (F.vw==251) then
(Et v10).bind λ(v22,v23)=> H ((cond true v22 false),v23) else if (F.vw==253) then
(Ee v10).bind λ(v24,v25)=> H ((cond true v24 false),v25) else if (F.vw==256) then
(CH v10).bind λ(v26,v27)=> H ((cond true v26 false),v27) else if (F.vw==257) then
(C7 v10).bind λ(v28,v29)=> H ((cond true v28 false),v29) else if (F.vw==258) then
(Eh v10).bind λ(v30,v31)=> H ((cond true v30 false),v31) else if (F.vw==260) then
(Eg v10).bind λ(v32,v33)=> H ((cond true v32 false),v33) else if (F.vw==263) then
(En v10).bind λ(V,v35)=> H ((cond true V false),v35) else if (F.vw==265) then
(CW v10).bind λ(v36,v37)=> H ((cond true v36 false),v37) else if (F.vw==266) then
(Ed v10).bind λ(Y,v39)=> H ((cond true Y false),v39) else if (F.vw==269) then
(ED v10).bind λ(v40,v41)=> H ((cond true v40 false),v41) else none else H (false,v10)
) λ(Z,a6)=> AB (τ:=(I Int)) (λM=> if Z then
(gN (α:=Int) 8 v11 ([F.reason]:I Int)).bind λa7=> M a7 else M v11
) λa8=> J (a6,a8)
) v8 0 ((⟨a0,a1,K,v2,v7,v3⟩:vZ),[])
) λaa=> some aa
def Hm (F:vV)(H:lf)(J:oA):O Int:=
(Fz F H J 1).bind λv1=> if (decide ((v1.length:Int)>0)) then
(mu v1 0).bind λv2=> some v2 else some 0
def CB (F:ls):O ls:=
(HN F.gD).bind λv1=> AB (τ:=Int) (λH=> if (!v1) then H 0 else H F.oX
) λJ=> some ({ ({ F with oX:=J }) with lf:=(({ F with oX:=J }).lf) })
def Dm (a0:vV)(K:ls)(a2:tT):O (ls×Int):= AB (τ:=C) (λk1=>
(H4 a0).bind λv2=> if (!v2) then k1 true else
(E0 K).bind λv3=> if (cond false true (!v3)) then k1 true else
(H5 a2).bind λv4=> k1 (cond false true (!v4))
) λv5=> if v5 then some ((⟨(⟨0,Xac,0,0,[]⟩:lf),false,[],0⟩:ls),1) else if (!K.Up) then some ((⟨(⟨0,Xac,0,0,[]⟩:lf),false,[],0⟩:ls),31) else
(HE K).bind λv6=> AB (τ:=(I gD)) (λk7=> AI (σ:=(I gD)) (λQ=> k7 Q
) (λM (a6:fI) i11 Q=>
(Ci Q a6).bind λ(v12,a7)=> AB (τ:=(I gD)) (λU=> if a7 then
(dU Q v12 (AO (v12+1))).bind λa8=> U a8 else U Q
) λaa=> M aa
) a2.gS 0 v6.gD
) λab=> AB (τ:=(I gD)) (λae=> AI (σ:=(I gD)) (λF=> ae F
) (λH (J:fI) i22 F=>
(EM a2.gE).bind λP=>
(Hm a0 K.lf (⟨J,K.lf.tS,P⟩:oA)).bind λV=>
(Ci F J).bind λ(v25,v26)=> AB (τ:=(I gD)) (λY=> if v26 then
(mu F v25).bind λak=>
(wj F v25 (⟨(⟨J,K.lf.tS,P⟩:oA),V,false⟩:gD)).bind λaf=> Y af else
(bH (α:=gD) 208 F v25 (⟨(⟨J,K.lf.tS,P⟩:oA),V,false⟩:gD)).bind λag=> Y ag
) λah=> H ah
) a2.fT 0 ab
) λZ=>
(G2 ({ v6 with gD:=Z })).bind λai=> if (!ai) then some ((⟨(⟨0,Xac,0,0,[]⟩:lf),false,[],0⟩:ls),34) else
(CB ({ v6 with gD:=Z })).bind λaj=> some (aj,0)
def Ji (F:lf):O ls:=
(Ie F).bind λv1=> some (⟨v1,false,[],0⟩:ls)
def HG (F:ls):O (ls×Int):=
(E0 F).bind λv1=> if (!v1) then some ((⟨(⟨0,Xac,0,0,[]⟩:lf),false,[],0⟩:ls),1) else if F.Up then some ((⟨(⟨0,Xac,0,0,[]⟩:lf),false,[],0⟩:ls),31) else
(HE F).bind λv2=> some ({ v2 with Up:=true },0)
def C4:O C:=
(Ji (⟨101,Xac,1,0,[]⟩:lf)).bind λv1=>
(HG v1).bind λ(v2,v3)=>
(Dm (⟨99,[],0,24,0,0,0,0,[],[],[],5,(⟨[],[]⟩:we),[]⟩:vV) v2 (⟨[],(⟨0,([(⟨false,([101]:I Int)⟩:oF)]:I oF),(⟨false,(0:j),(7:j)⟩:Addr),(-1),(-1),(-1),[],[],[]⟩:gE),([(⟨(⟨false,(0:j),(167772160:j)⟩:Addr),16⟩:fI)]:I fI)⟩:tT)).bind λ(v4,v5)=>
(gN (α:=fI) 32 ([(⟨(⟨false,(0:j),(167772160:j)⟩:Addr),16⟩:fI)]:I fI) ([(⟨(⟨false,(0:j),(184549376:j)⟩:Addr),16⟩:fI)]:I fI)).bind λK=>
(Dm (⟨99,[],0,24,0,0,0,0,[],[],[],5,(⟨[],[]⟩:we),[]⟩:vV) v4 (⟨[],(⟨0,([(⟨false,([101]:I Int)⟩:oF)]:I oF),(⟨false,(0:j),(7:j)⟩:Addr),(-1),(-1),(-1),[],[],[]⟩:gE),K⟩:tT)).bind λ(P,M)=> AB (τ:=C) (λF=> if (v3==0) then if (cond true (v5==0) false) then if (cond true (M==34) false) then if (cond true ((v4.gD.length:Int)==1) false) then
(mu v4.gD 0).bind λH=> F (cond true (H.vj==3) false) else F false else F false else F false else F false
) λJ=> some J
def Gp (F:I Int):O r9:= some (⟨F,0⟩:r9)
def FR (H:Int)(F:Int):O Int:=
(wQ (F≠0)).bind λ_=> AB (τ:=Int) (λJ=> if (decide ((Xed H F)<0)) then J (AO ((Xed H F)+F)) else J (Xed H F)
) λv2=> some v2
def AL (F:r9)(H:Int):O (Int×r9):= if (decide (F.At≥(F.L.length:Int))) then some (0,F) else
(mu F.L (AO ((AO (F.At+1))-1))).bind λv1=>
(FR v1 H).bind λv2=> some (v2,(⟨F.L,(AO (F.At+1))⟩:r9))
def G3 (F:Int):O fI:= if (decide (F≥6)) then some (⟨(⟨true,(AT ((Xa2 64 2306139568115548160 ||| Xa2 64 ((AT (((AT F).toNat:Int)*(2^(min (Wo 16) 64)))).toNat:Int)).toNat:Int)),(0:j)⟩:Addr),48⟩:fI) else some (⟨(⟨false,(0:j),(AT ((Xa2 64 167772160 ||| Xa2 64 ((AT (((AT F).toNat:Int)*(2^(min (Wo 16) 64)))).toNat:Int)).toNat:Int))⟩:Addr),16⟩:fI)
def Bz (Z:r9):O (fI×r9):=
(AL Z 8).bind λ(v1,v2)=>
(G3 v1).bind λF=>
(AL v2 8).bind λ(v4,v5)=> AB (τ:=r9×fI) (λU=> if (v4==6) then AB (τ:=Int) (λV=> if F.Addr.V6 then V 64 else V 24
) λv8=> U (v5,(⟨F.Addr,v8⟩:fI)) else AB (τ:=r9×fI) (λY=> if (v4==7) then AB (τ:=Int) (λH=> if F.Addr.V6 then H 128 else H 32
) λJ=>
(AL v5 3).bind λ(v12,K)=> Y (K,(⟨{ F.Addr with Lo:=(AT ((F.Addr.Lo.toNat:Int)+((AT v12).toNat:Int))) },J⟩:fI)) else Y (v5,F)
) λ(M,P)=> U (M,P)
) λ(Q,v17)=> some (v17,Q)
def EJ:O gE:= some (⟨(-1),[],(⟨false,(0:j),(0:j)⟩:Addr),(-1),(-1),(-1),[],[],[]⟩:gE)
def FS (F:Int)(H:C):O Addr:= if H then some (⟨true,(2306139568115613695:j),(AT F)⟩:Addr) else some (⟨false,(0:j),(AT ((Xa2 64 3221225984 ||| Xa2 64 ((AT (AO ((Xed F 250)+1))).toNat:Int)).toNat:Int))⟩:Addr)
def Bh (V:r9):O ((I qv)×r9):=
(AL V 65536).bind λ(v1,v2)=> AB (τ:=r9×(I qv)) (λY=> AI (σ:=r9×(I qv)) (λ(v4,v5)=> Y (v4,v5)
) (λF (Z:qv) U (v4,v5)=> AB (τ:=C×r9) (λJ=> if ((AO ((Xa2 64 (Xas v1 (2^(min (Wo ((AT (AO (2*(U:Int)))).toNat:Int)) 64))) &&& Xa2 64 3).toNat:Int))==3) then if (decide ((U:Int)<6)) then J (true,v4) else
(AL v4 2).bind λ(v10,v11)=> J ((cond true (cond false true (v10==0)) false),v11) else J (false,v4)
) λ(v12,K)=> AB (τ:=(I qv)) (λH=> if v12 then
(gN (α:=qv) 16 v5 ([Z]:I qv)).bind λM=> H M else H v5
) λP=> F (K,P)
) ([(⟨0,99⟩:qv),(⟨0,101⟩:qv),(⟨0,102⟩:qv),(⟨99,101⟩:qv),(⟨99,103⟩:qv),(⟨500,1⟩:qv),(⟨65535,666⟩:qv),(⟨65535,65282⟩:qv)]:I qv) 0 (v2,[])
) λ(v17,Q)=> some (Q,v17)
def DI (P:r9):O ((I oB)×r9):=
(AL P 16384).bind λ(v1,v2)=> AB (τ:=(I oB)) (λQ=> AI (σ:=(I oB)) (λH=> Q H
) (λF (U:oB) V H=> AB (τ:=(I oB)) (λM=> if ((AO ((Xa2 64 (Xas v1 (2^(min (Wo ((AT (AO (2*(V:Int)))).toNat:Int)) 64))) &&& Xa2 64 3).toNat:Int))==3) then
(gN (α:=oB) 24 H ([U]:I oB)).bind λY=> M Y else M H
) λJ=> F J
) ([(⟨5,5,5⟩:oB),(⟨99,0,0⟩:oB),(⟨99,0,103⟩:oB),(⟨99,1,102⟩:oB),(⟨99,101,0⟩:oB),(⟨99,102,104⟩:oB),(⟨99,103,101⟩:oB)]:I oB) 0 []
) λK=> some (K,v2)
def DO (a0:r9)(a1:Int)(a2:C):O (gE×r9):=
(EJ).bind λv1=>
(AL a0 3).bind λ(v2,v3)=>
(AL v3 4).bind λ(v4,v5)=> AB (τ:=r9×(I Int)) (λk6=> BD (σ:=Int×r9×(I Int)) (λJ (v8,v9,v10)=> if (decide (v8>0)) then
(AL v9 7).bind λ(v11,v12)=>
(mu ([a1,101,102,201,202,203,301]:I Int) v11).bind λab=>
(gN (α:=Int) 8 v10 ([ab]:I Int)).bind λae=> J ((AO (v8-1)),v12,ae) else k6 (v9,v10)
) tE (v4,v5,([a1]:I Int))
) λ(af,H)=>
(FS a1 a2).bind λF=>
(AL af 3).bind λ(ag,M)=> AB (τ:=r9×Int) (λP=> if (ag==0) then
(AL M 3).bind λ(v21,v22)=> P (v22,v21) else P (M,v1.wo)
) λ(v23,v24)=>
(AL v23 6).bind λ(v25,v26)=> AB (τ:=r9×Int) (λQ=> if (v25==0) then
(AL v26 300).bind λ(v28,v29)=> Q (v29,v28) else Q (v26,v1.th)
) λ(v30,v31)=>
(Bh v30).bind λ(v32,v33)=>
(DI v33).bind λ(ah,v35)=>
(AL v35 24).bind λ(v36,v37)=> AB (τ:=r9×(I oF)×C×j×j×Int×(I gH)) (λU=> if (v36==0) then
(AL v37 300).bind λ(v39,v40)=> U (v40,[(⟨false,H⟩:oF)],F.V6,F.Hi,F.Lo,(AO (1+v39)),v1.iX) else AB (τ:=r9×(I oF)×C×j×j×(I gH)) (λV=> if (v36==1) then
(mu H 0).bind λbg=>
(wj H 0 103).bind λai=> V (v37,[(⟨false,ai⟩:oF)],F.V6,F.Hi,F.Lo,v1.iX) else AB (τ:=r9×(I oF)×C×j×j×(I gH)) (λY=> if (v36==2) then Y (v37,((⟨false,H⟩:oF)::([(⟨true,([7,9]:I Int)⟩:oF)]:I oF)),F.V6,F.Hi,F.Lo,v1.iX) else AB (τ:=r9×(I oF)×C×j×j×(I gH)) (λZ=> if (v36==3) then
(gN (α:=Int) 8 H ([99]:I Int)).bind λaj=> Z (v37,[(⟨false,aj⟩:oF)],F.V6,F.Hi,F.Lo,v1.iX) else AB (τ:=r9×(I oF)×C×j×j×(I gH)) (λa6=> if (v36==4) then
(FS 104 a2).bind λK=> a6 (v37,[(⟨false,H⟩:oF)],K.V6,K.Hi,K.Lo,v1.iX) else AB (τ:=r9×(I oF)×(I gH)) (λa7=> if (v36==5) then
(gN (α:=Int) 8 H ([64512,701]:I Int)).bind λak=> a7 (v37,[(⟨false,ak⟩:oF)],v1.iX) else AB (τ:=r9×(I oF)×(I gH)) (λa8=> if (v36==6) then a8 (v37,[],v1.iX) else AB (τ:=r9×(I gH)) (λaa=> if (v36==7) then
(AL v37 256).bind λ(v53,v54)=> aa (v54,[(⟨224,99,([(1:S),(A4 v53)]:I S)⟩:gH)]) else aa (v37,v1.iX)
) λ(v55,al)=> a8 (v55,[(⟨false,H⟩:oF)],al)
) λ(v57,v58,v59)=> a7 (v57,v58,v59)
) λ(v60,an,ao)=> a6 (v60,an,F.V6,F.Hi,F.Lo,ao)
) λ(v63,v64,ap,v66,v67,aq)=> Z (v63,v64,ap,v66,v67,aq)
) λ(ar,v70,au,v72,ax,ay)=> Y (ar,v70,au,v72,ax,ay)
) λ(v75,v76,v77,v78,v79,v80)=> V (v75,v76,v77,v78,v79,v80)
) λ(az,v82,b0,ba,v85,bb)=> U (az,v82,b0,ba,v85,v1.vS,bb)
) λ(v87,bc,bd,be,v91,bf,v93)=> some ((⟨v2,bc,(⟨bd,be,v91⟩:Addr),v24,v31,bf,v32,ah,v93⟩:gE),v87)
def DL (H:r9)(F:Int):O (oA×r9):=
(Bz H).bind λ(v1,v2)=>
(DO v2 F v1.Addr.V6).bind λ(v3,v4)=> some ((⟨v1,F,v3⟩:oA),v4)
def Bf (a0:r9)(a1:Int):O (tT×r9):=
(EJ).bind λv1=>
(AL a0 3).bind λ(v2,v3)=> AB (τ:=r9×(I fI)) (λk4=> BD (σ:=Int×r9×(I fI)) (λH (v6,v7,v8)=> AB (τ:=C×r9) (λk9=> if (decide (v6>0)) then
(AL v7 2).bind λ(v10,v11)=> k9 ((cond true (v10==0) false),v11) else k9 (false,v7)
) λ(v12,J)=> if v12 then
(Bz J).bind λ(P,Q)=>
(gN (α:=fI) 32 v8 ([P]:I fI)).bind λU=> H ((AO (v6-1)),Q,U) else k4 (J,v8)
) tE (v2,v3,[])
) λ(v17,V)=>
(AL v17 5).bind λ(Y,v20)=> AB (τ:=r9×Int×(I oF)×C×j×j×Int×Int×Int×(I qv)×(I oB)×(I gH)×(I fI)) (λK=> if (decide (Y>0)) then
(DL v20 a1).bind λ(v22,v23)=>
(AL v23 3).bind λ(v24,v25)=> AB (τ:=r9×(I fI)) (λZ=> BD (σ:=Int×r9×(I fI)) (λF (v28,v29,v30)=> if (decide (v28>0)) then
(Bz v29).bind λ(v31,v32)=> AB (τ:=(I fI)) (λM=> if (v31.Addr.V6==v22.fI.Addr.V6) then
(gN (α:=fI) 32 v30 ([v31]:I fI)).bind λa6=> M a6 else M v30
) λa7=> F ((AO (v28-1)),v32,a7) else Z (v29,v30)
) tE (v24,v25,([v22.fI]:I fI))
) λ(v36,v37)=> K (v36,v22.gE.gO,v22.gE.Path,v22.gE.Next.V6,v22.gE.Next.Hi,v22.gE.Next.Lo,v22.gE.wo,v22.gE.th,v22.gE.vS,v22.gE.cW,v22.gE.oB,v22.gE.iX,v37) else K (v20,v1.gO,v1.Path,v1.Next.V6,v1.Next.Hi,v1.Next.Lo,v1.wo,v1.th,v1.vS,v1.cW,v1.oB,v1.iX,[])
) λ(a8,v39,v40,v41,aa,ab,v44,v45,v46,ae,af,v49,v50)=> some ((⟨V,(⟨v39,v40,(⟨v41,aa,ab⟩:Addr),v44,v45,v46,ae,af,v49⟩:gE),v50⟩:tT),a8)
def LZ (H:Addr)(F:Addr):O Int:= if (Addr.wa H F) then some 0 else if (!(H.V6==F.V6)) then if F.V6 then some (-1) else some 1 else AB (τ:=C) (λJ=> if (decide ((H.Hi.toNat:Int)<(F.Hi.toNat:Int))) then J true else if ((H.Hi.toNat:Int)==(F.Hi.toNat:Int)) then J (cond false true (cond true (decide ((H.Lo.toNat:Int)<(F.Lo.toNat:Int))) false)) else J false
) λv2=> if v2 then some (-1) else some 1
def EC (F:fI)(H:fI):O Int:=
(LZ F.Addr H.Addr).bind λv1=> if (v1 !=0) then some v1 else if (decide (F.vg<H.vg)) then some (-1) else if (decide (F.vg>H.vg)) then some 1 else some 0
def F7 (J:ls):O (Int×Int):= AB (τ:=Int×Int) (λK=> AI (σ:=Int×Int) (λ(v2,v3)=> K (v2,v3)
) (λF (M:gD) i6 (v2,v3)=> AB (τ:=Int×Int) (λH=> if M.oA.fI.Addr.V6 then H (v2,(AO (v3+1))) else H ((AO (v2+1)),v3)
) λ(P,v9)=> F (P,v9)
) J.gD 0 (0,0)
) λ(v10,v11)=> some (v10,v11)
def Jk (F:Int):O C:= AB (τ:=C) (λH=> if (decide (F≥1)) then H (cond true (decide (F<=4294967295)) false) else H false
) λv2=> some v2
def CX (F:Addr):O C:= AB (τ:=C) (λH=> if F.V6 then H true else if ((F.Hi.toNat:Int)==0) then H (cond false true (cond true (decide ((F.Lo.toNat:Int)<4294967296)) false)) else H false
) λv2=> some v2
def EH (F:lf):O C:= AB (τ:=Unit) (λK=> AI (σ:=Unit) (λ_=> K ()
) (λH (M:Addr) i4 _=>
(CX M).bind λP=> if (!P) then some false else H ()
) F.oT 0 ()
) λ_=> AB (τ:=C) (λJ=>
(Jk F.tS).bind λQ=> if Q then if (cond true (decide (F.tb≥0)) false) then if (cond true (decide (F.tb<=256)) false) then if (cond true (decide (F.tv≥0)) false) then if (cond true (decide (F.tv<=256)) false) then J (cond true (decide ((F.oT.length:Int)<=8)) false) else J false else J false else J false else J false else J false
) λU=> some U
def Bq (H:Addr):O (I S):=
(CX H).bind λv1=> if (!v1) then some [] else AB (τ:=Int) (λM=> if H.V6 then M 16 else M 4
) λU=> AB (τ:=(I S)) (λV=> BD (σ:=Int×(I S)) (λF (v6,P)=> if (decide (v6≥0)) then AB (τ:=j) (λQ=> if (decide (v6≥8)) then Q H.Hi else Q H.Lo
) λY=>
(gN (α:=S) 1 P ([(A4 ((AT (Xas (Y.toNat:Int) (2^(min (Wo ((AT (8*((AT (Xed v6 8)).toNat:Int))).toNat:Int)) 64)))).toNat:Int))]:I S)).bind λJ=> F ((AO (v6-1)),J) else V P
) tE ((AO (U-1)),[])
) λK=> some K
def C6 (F:Addr):O Int:= if F.V6 then some 128 else some 32
def CE (J:I S):O (Addr×Int):= AB (τ:=C) (λK=> if ((J.length:Int) !=4) then K (cond true ((J.length:Int) !=16) false) else K false
) λv2=> if v2 then some ((⟨false,(0:j),(0:j)⟩:Addr),1) else AB (τ:=Addr) (λM=> AI (σ:=Addr) (λH=> M H
) (λF (P:S) i7 H=> F (⟨H.V6,(AT ((Xa2 64 ((AT ((H.Hi.toNat:Int)*(2^(min (Wo 8) 64)))).toNat:Int) ||| Xa2 64 ((AT (Xas (H.Lo.toNat:Int) (2^(min (Wo 56) 64)))).toNat:Int)).toNat:Int)),(AT ((Xa2 64 ((AT ((H.Lo.toNat:Int)*(2^(min (Wo 8) 64)))).toNat:Int) ||| Xa2 64 ((AT (P.toNat:Int)).toNat:Int)).toNat:Int))⟩:Addr)
) J 0 (⟨((J.length:Int)==16),(0:j),(0:j)⟩:Addr)
) λQ=> some (Q,0)
def D1 (K:Addr)(J:Int):O (fI×Int):=
(CX K).bind λv1=> if (!v1) then some ((⟨(⟨false,(0:j),(0:j)⟩:Addr),0⟩:fI),1) else AB (τ:=C) (λV=> if (decide (J<0)) then V true else
(C6 K).bind λY=> V (cond false true (decide (J>Y)))
) λZ=> if Z then some ((⟨(⟨false,(0:j),(0:j)⟩:Addr),0⟩:fI),9) else
(Bq K).bind λv5=> AB (τ:=(I S)) (λk6=> BD (σ:=Int×(I S)) (λF (H,v9)=> if (decide (H<(AO (8*(v9.length:Int))))) then
(mu v9 (AO (Int.tdiv H 8))).bind λM=>
(mu v9 (AO (Int.tdiv H 8))).bind λa6=>
(wj v9 (AO (Int.tdiv H 8)) (A4 ((Xa2 8 (M.toNat:Int) &&& ~~~Xa2 8 ((A4 (Xas 128 (2^(min (Wo ((AT (Xed H 8)).toNat:Int)) 8)))).toNat:Int)).toNat:Int))).bind λP=> F ((AO (H+1)),P) else k6 v9
) tE (J,v5)
) λQ=>
(CE Q).bind λ(U,a7)=> some ((⟨U,J⟩:fI),0)
def A8 (F:fI):O C:=
(D1 F.Addr F.vg).bind λ(v1,v2)=> AB (τ:=C) (λH=> if (v2==0) then H (cond true (fI.wa F v1) false) else H false
) λJ=> some J
def Bl (F:Int):O Int:= AB (τ:=C) (λJ=> if (F==1) then J (F==1) else AB (τ:=C) (λK=> if (F==2) then K (F==2) else AB (τ:=C) (λM=> if (F==3) then M (F==3) else M (F==5)
) λU=> K U
) λV=> J V
) λY=> if Y then some 64 else if (F==4) then some 128 else AB (τ:=C) (λP=> if (F==8) then P (F==8) else AB (τ:=C) (λQ=> if (F==32) then Q (F==32) else Q (F==35)
) λZ=> P Z
) λH=> if H then some 192 else some 0
def Di (F:Int):O C:= AB (τ:=C) (λH=>
(Bl F).bind λv2=> if (v2==0) then if (cond true (F !=14) false) then H (cond true (F !=15) false) else H false else H false
) λJ=> some J
def F3 (a0:I oF):O C:= AB (τ:=Int) (λk1=> AI (σ:=Int) (λv2=> k1 v2
) (λJ (M:oF) i5 v2=> AB (τ:=Unit) (λk6=> AB (τ:=C) (λQ=> if ((M.o3.length:Int)==0) then Q true else if (decide ((i5:Int)>0)) then if (cond true (!M.Set) false) then
(mu a0 (AO ((i5:Int)-1))).bind λv8=> Q (cond false true (cond true (!v8.Set) false)) else Q false else Q false
) λv9=> if v9 then some false else AB (τ:=Unit) (λU=> AI (σ:=Unit) (λ_=> U ()
) (λH (K:Int) P _=> AB (τ:=C) (λF=> if (decide (K<1)) then F true else if (cond false true (decide (K>4294967295))) then F true else if M.Set then if (cond true (decide ((P:Int)>0)) false) then
(mu M.o3 (AO ((P:Int)-1))).bind λV=> F (cond false true (cond true (decide (V≥K)) false)) else F false else F false
) λY=> if Y then some false else H ()
) M.o3 0 ()
) λ_=> k6 ()
) λ_=> J (AO (v2+(M.o3.length:Int)))
) a0 0 0
) λZ=> some (decide (Z<=64))
def Fg (F:qv):O C:= AB (τ:=C) (λH=> if (decide (F.A≥0)) then if (cond true (decide (F.A<=65535)) false) then if (cond true (decide (F.B≥0)) false) then H (cond true (decide (F.B<=65535)) false) else H false else H false else H false
) λv2=> some v2
def G4 (F:qv)(H:qv):O C:= AB (τ:=C) (λJ=> if (decide (F.A<H.A)) then J true else if (F.A==H.A) then J (cond false true (cond true (decide (F.B<H.B)) false)) else J false
) λv2=> some v2
def HO (H:I qv):O C:= AB (τ:=Unit) (λP=> AI (σ:=Unit) (λ_=> P ()
) (λF (K:qv) M _=> AB (τ:=C) (λJ=>
(Fg K).bind λQ=> if (!Q) then J true else if (decide ((M:Int)>0)) then
(mu H (AO ((M:Int)-1))).bind λU=>
(G4 U K).bind λV=> J (cond false true (cond true (!V) false)) else J false
) λY=> if Y then some false else F ()
) H 0 ()
) λ_=> some (decide ((H.length:Int)<=64))
def Ce (F:oB):O Bool:= AB (τ:=Bool) (λH=> if (decide (F.A≥0)) then if (cond true (decide (F.A<=4294967295)) false) then if (cond true (decide (F.B≥0)) false) then if (cond true (decide (F.B<=4294967295)) false) then if (cond true (decide (F.C≥0)) false) then H (cond true (decide (F.C<=4294967295)) false) else H false else H false else H false else H false else H false
) λv2=> some v2
def DK (F:oB)(H:oB):O Bool:= AB (τ:=Bool) (λJ=> if (decide (F.A<H.A)) then J true else if (F.A==H.A) then if (decide (F.B<H.B)) then J true else if (F.B==H.B) then J (cond false true (cond true (cond false true (cond true (decide (F.C<H.C)) false)) false)) else J false else J false
) λv2=> some v2
def Ds (H:I oB):O C:= AB (τ:=Unit) (λP=> AI (σ:=Unit) (λ_=> P ()
) (λF (K:oB) M _=> AB (τ:=C) (λJ=>
(Ce K).bind λQ=> if (!Q) then J true else if (decide ((M:Int)>0)) then
(mu H (AO ((M:Int)-1))).bind λU=>
(DK U K).bind λV=> J (cond false true (cond true (!V) false)) else J false
) λY=> if Y then some false else F ()
) H 0 ()
) λ_=> some (decide ((H.length:Int)<=64))
def EK (F:gE):O C:= AB (τ:=Unit) (λk1=> AI (σ:=Unit) (λ_=> k1 ()
) (λJ (M:gH) i4 _=> AB (τ:=C) (λK=> if (decide (M.iB<1)) then K true else if (cond false true (decide (M.iB>255))) then K true else
(Di M.iB).bind λv6=> if (cond false true (!v6)) then K true else if (cond false true (M.Flags !=224)) then K true else if (cond false true (decide ((M.Data.length:Int)>255))) then K true else if (decide ((i4:Int)>0)) then
(mu F.iX (AO ((i4:Int)-1))).bind λv7=> K (cond false true (cond true (decide (v7.iB≥M.iB)) false)) else K false
) λv8=> if v8 then some false else J ()
) F.iX 0 ()
) λ_=> AB (τ:=C) (λH=> if (decide (F.gO≥(-1))) then if (cond true (decide (F.gO<=2)) false) then
(F3 F.Path).bind λP=> if (cond true P false) then
(CX F.Next).bind λQ=> if (cond true Q false) then if (cond true (decide (F.wo≥(-1))) false) then if (cond true (decide (F.wo<=4294967295)) false) then if (cond true (decide (F.th≥(-1))) false) then if (cond true (decide (F.th<=4294967295)) false) then if (F.vS==(-1)) then
(HO F.cW).bind λU=> if (cond true U false) then
(Ds F.oB).bind λV=> if (cond true V false) then H (cond true (decide ((F.iX.length:Int)<=8)) false) else H false else H false else if (decide (F.vS≥1)) then if (cond true (cond false true (cond true (decide (F.vS<=4294967295)) false)) false) then
(HO F.cW).bind λY=> if (cond true Y false) then
(Ds F.oB).bind λZ=> if (cond true Z false) then H (cond true (decide ((F.iX.length:Int)<=8)) false) else H false else H false else H false else H false else H false else H false else H false else H false else H false else H false else H false else H false
) λa1=> some a1
def Da (F:ls):O C:= AB (τ:=C) (λQ=>
(EH F.lf).bind λv2=> if (!v2) then Q true else if (cond false true (decide ((F.gD.length:Int)>256))) then Q true else if (cond false true (decide (F.oX<0))) then Q true else Q (cond false true (decide (F.oX>1073745919)))
) λv3=> if v3 then some false else AB (τ:=C) (λk4=> AI (σ:=C) (λU=> k4 U
) (λK (J:gD) i8 U=> AB (τ:=C) (λH=>
(A8 J.oA.fI).bind λV=> if (!V) then H true else if (decide ((i8:Int)>0)) then
(mu F.gD (AO ((i8:Int)-1))).bind λY=>
(EC Y.oA.fI J.oA.fI).bind λZ=> if (cond false true (cond true (decide (Z≥0)) false)) then H true else
(EK J.oA.gE).bind λa1=> if (cond false true (!a1)) then H true else if (cond false true (J.oA.vY !=F.lf.tS)) then H true else if (cond false true (decide (J.vj<0))) then H true else if (cond false true (decide (J.vj>14))) then H true else if (!F.Up) then H (cond false true (cond true (!J.vq) false)) else H false else
(EK J.oA.gE).bind λa6=> if (cond false true (!a6)) then H true else if (cond false true (J.oA.vY !=F.lf.tS)) then H true else if (cond false true (decide (J.vj<0))) then H true else if (cond false true (decide (J.vj>14))) then H true else if (!F.Up) then H (cond false true (cond true (!J.vq) false)) else H false
) λa7=> if a7 then some false else AB (τ:=C) (λP=> if U then P true else P (cond false true J.vq)
) λa8=> K a8
) F.gD 0 false
) λaa=>
(F7 F).bind λ(ab,v20)=> AB (τ:=C) (λM=> if (aa==(F.oX !=0)) then if (cond true (decide (ab<=F.lf.tb)) false) then M (cond true (decide (v20<=F.lf.tv)) false) else M false else M false
) λae=> some ae
def FH (Z:I oF)(J:I oF):O C:= if ((Z.length:Int) !=(J.length:Int)) then some false else AB (τ:=Unit) (λk1=> AI (σ:=Unit) (λ_=> k1 ()
) (λH (K:oF) M _=> AB (τ:=Unit) (λk5=> AB (τ:=C) (λk6=>
(mu J (M:Int)).bind λv7=> if (!(K.Set==v7.Set)) then k6 true else
(mu J (M:Int)).bind λv8=> k6 (cond false true ((K.o3.length:Int) !=(v8.o3.length:Int)))
) λv9=> if v9 then some false else AB (τ:=Unit) (λP=> AI (σ:=Unit) (λ_=> P ()
) (λF (Q:Int) U _=>
(mu J (M:Int)).bind λV=>
(mu V.o3 (U:Int)).bind λY=> if (Y !=Q) then some false else F ()
) K.o3 0 ()
) λ_=> k5 ()
) λ_=> H ()
) Z 0 ()
) λ_=> some true
def FM (H:I qv)(J:I qv):O C:= if ((H.length:Int) !=(J.length:Int)) then some false else AB (τ:=Unit) (λK=> AI (σ:=Unit) (λ_=> K ()
) (λF (M:qv) P _=>
(mu J (P:Int)).bind λQ=> if (!(qv.wa Q M)) then some false else F ()
) H 0 ()
) λ_=> some true
def CC (H:I oB)(J:I oB):O C:= if ((H.length:Int) !=(J.length:Int)) then some false else AB (τ:=Unit) (λK=> AI (σ:=Unit) (λ_=> K ()
) (λF (M:oB) P _=>
(mu J (P:Int)).bind λQ=> if (!(oB.wa Q M)) then some false else F ()
) H 0 ()
) λ_=> some true
def CS (P:I gH)(H:I gH):O C:= if ((P.length:Int) !=(H.length:Int)) then some false else AB (τ:=Unit) (λQ=> AI (σ:=Unit) (λ_=> Q ()
) (λF (J:gH) K _=> AB (τ:=C) (λM=>
(mu H (K:Int)).bind λU=> if (J.Flags !=U.Flags) then M true else
(mu H (K:Int)).bind λV=> if (cond false true (J.iB !=V.iB)) then M true else
(mu H (K:Int)).bind λY=> M (cond false true (!((bs J.Data).toList==(bs Y.Data).toList)))
) λZ=> if Z then some false else F ()
) P 0 ()
) λ_=> some true
def Dv (F:gE)(H:gE):O C:= AB (τ:=C) (λJ=> if (F.gO==H.gO) then
(FH F.Path H.Path).bind λv2=> if (cond true v2 false) then if (cond true (Addr.wa F.Next H.Next) false) then if (cond true (F.wo==H.wo) false) then if (cond true (F.th==H.th) false) then if (cond true (F.vS==H.vS) false) then
(FM F.cW H.cW).bind λK=> if (cond true K false) then
(CC F.oB H.oB).bind λM=> if (cond true M false) then
(CS F.iX H.iX).bind λP=> J (cond true P false) else J false else J false else J false else J false else J false else J false else J false else J false
) λQ=> some Q
def AQ (H:Int)(J:Int):O (I S):= AB (τ:=(I S)) (λK=> BD (σ:=Int×(I S)) (λF (v3,v4)=> if (decide (v3≥0)) then
(gN (α:=S) 1 v4 ([(A4 (Xas H (2^(min (Wo ((AT (8*((AT v3).toNat:Int))).toNat:Int)) 64))))]:I S)).bind λM=> F ((AO (v3-1)),M) else K v4
) tE ((AO (J-1)),[])
) λP=> some P
def Ha (F:gE):O ((I gH)×Int):=
(EK F).bind λv1=> if (!v1) then some ([],1) else AB (τ:=(I (Int×(I S)))) (λk2=> if (decide (F.gO≥0)) then k2 (BN [] 1 ([(A4 F.gO)]:I S)) else k2 []
) λv3=> AB (τ:=Bool) (λk4=> if (decide (F.gO≥0)) then k4 true else k4 (cond false true (decide ((F.Path.length:Int)>0)))
) λv5=> AB (τ:=(I (Int×(I S)))) (λk6=> if v5 then AB (τ:=(I S)) (λk7=> AI (σ:=(I S)) (λv8=> k7 v8
) (λV (Y:oF) i11 v8=> AB (τ:=(I S)) (λaz=> AB (τ:=S) (λa8=> if Y.Set then a8 (1:S) else a8 (2:S)
) λb0=>
(gN (α:=S) 1 v8 ([b0,(A4 (Y.o3.length:Int))]:I S)).bind λba=> AB (τ:=(I S)) (λbb=> AI (σ:=(I S)) (λZ=> bb Z
) (λJ (bc:Int) i20 Z=>
(AQ bc 4).bind λbd=>
(gN (α:=S) 1 Z bd).bind λbe=> J be
) Y.o3 0 ba
) λbf=> az bf
) λbg=> V bg
) F.Path 0 ([]:I S)
) λbh=> k6 (BN v3 2 bh) else k6 v3
) λaa=> AB (τ:=Bool) (λab=> if (!(Addr.wa F.Next (⟨false,(0:j),(0:j)⟩:Addr))) then ab (cond true (!F.Next.V6) false) else ab false
) λbi=> AB (τ:=(I (Int×(I S)))) (λae=> if bi then
(Bq F.Next).bind λbj=> ae (BN aa 3 bj) else ae aa
) λaf=> AB (τ:=(I (Int×(I S)))) (λag=> if (decide (F.wo≥0)) then
(AQ F.wo 4).bind λbk=> ag (BN af 4 bk) else ag af
) λah=> AB (τ:=(I (Int×(I S)))) (λai=> if (decide (F.th≥0)) then
(AQ F.th 4).bind λbl=> ai (BN ah 5 bl) else ai ah
) λaj=> AB (τ:=(I (Int×(I S)))×(I S)) (λbm=>
(wQ ((A7 aj 8).isNone=true)).bind λ_=> AI (σ:=(I (Int×(I S)))×(I S)) (λ(v39,v40)=> bm (v39,v40)
) (λK (ak:qv) i43 (v39,v40)=>
(AQ ak.A 2).bind λbn=>
(gN (α:=S) 1 v40 bn).bind λbo=>
(AQ ak.B 2).bind λbp=>
(gN (α:=S) 1 bo bp).bind λal=> K ((BN v39 8 al),al)
) F.cW 0 (aj,[])
) λ(an,v49)=> AB (τ:=(I (Int×(I S)))×(I S)) (λbq=>
(wQ ((A7 an 32).isNone=true)).bind λ_=> AI (σ:=(I (Int×(I S)))×(I S)) (λ(v51,a1)=> bq (v51,a1)
) (λM (a6:oB) i55 (v51,a1)=>
(AQ a6.A 4).bind λbr=>
(gN (α:=S) 1 a1 br).bind λbu=>
(AQ a6.B 4).bind λbw=>
(gN (α:=S) 1 bu bw).bind λbx=>
(AQ a6.C 4).bind λbz=>
(gN (α:=S) 1 bx bz).bind λao=> M ((BN v51 32 ao),ao)
) F.oB 0 (an,[])
) λ(ap,v63)=> AB (τ:=(I (Int×(I S)))) (λaq=> if (decide (F.vS≥0)) then
(AQ F.vS 4).bind λc0=> aq (BN ap 35 c0) else aq ap
) λar=> AB (τ:=(I gH)) (λc3=> BD (σ:=Int×(I gH)) (λP (H,v70)=> if (decide (H<256)) then AB (τ:=(I gH)) (λc4=>
(some (Xau (A7 ar H) [])).bind λau=>
(some (Xdy (A7 ar H))).bind λc5=> AB (τ:=(I gH)) (λax=> if c5 then
(Bl H).bind λc6=>
(gN (α:=S) 1 [] au).bind λ_=>
(gN (α:=gH) 40 v70 ([(⟨c6,H,au⟩:gH)]:I gH)).bind λc7=> ax c7 else ax v70
) λc8=> AB (τ:=(I gH)) (λc9=> AI (σ:=(I gH)) (λQ=> c9 Q
) (λU (a7:gH) i82 Q=> AB (τ:=(I gH)) (λay=> if (a7.iB==H) then
(gN (α:=S) 1 [] a7.Data).bind λ_=>
(gN (α:=gH) 40 Q ([{ a7 with iB:=H }]:I gH)).bind λca=> ay ca else ay Q
) λcb=> U cb
) F.iX 0 c8
) λcc=> c4 cc
) λcd=> P ((AO (H+1)),cd) else c3 v70
) tE (0,[])
) λcf=> some (cf,0)
def E3 (Q:I fI)(U:C):O (I S):= AB (τ:=(I S)) (λV=> AI (σ:=(I S)) (λv2=> V v2
) (λF (H:fI) i5 v2=> AB (τ:=(I S)) (λM=> if (H.Addr.V6==U) then
(gN (α:=S) 1 v2 ([(A4 H.vg)]:I S)).bind λY=>
(Bq H.Addr).bind λP=>
(wQ (0<=(0:Int)/\(0:Int)<=(AO (Int.tdiv (AO (H.vg+7)) 8))/\(AO (Int.tdiv (AO (H.vg+7)) 8))<=(P.length:Int))).bind λ_=>
(gN (α:=S) 1 Y (Xbx (Wo (AO (Int.tdiv (AO (H.vg+7)) 8))-Wo 0) (Xc2 (Wo 0) P))).bind λZ=> M Z else M v2
) λJ=> F J
) Q 0 []
) λK=> some K
def HL (H:I gH)(P:gH):O (I gH):= AB (τ:=Int) (λY=> BD (σ:=Int) (λF J=> AB (τ:=C) (λQ=> if (decide (J<(H.length:Int))) then
(mu H J).bind λZ=> Q (cond true (decide (Z.iB<P.iB)) false) else Q false
) λv6=> if v6 then F (AO (J+1)) else Y J
) tE 0
) λU=>
(part H 0 U).bind λV=>
(gN (α:=gH) 40 [] V).bind λ_=>
(gN (α:=gH) 40 V ([P]:I gH)).bind λv9=>
(part H U (H.length:Int)).bind λK=>
(gN (α:=gH) 40 v9 K).bind λM=> some M
def Jy (a0:I gH):O ((I S)×Int):= AB (τ:=Unit) (λk1=> AI (σ:=Unit) (λ_=> k1 ()
) (λH (K:gH) i4 _=> AB (τ:=C) (λM=> if (decide (K.Flags<0)) then M true else if (cond false true (decide (K.Flags>255))) then M true else if (cond false true (decide (K.iB<0))) then M true else if (cond false true (decide (K.iB>255))) then M true else M (cond false true (decide ((K.Data.length:Int)>65535)))
) λv6=> if v6 then some ([],1) else H ()
) a0 0 ()
) λ_=> AB (τ:=(I S)) (λk7=> AI (σ:=(I S)) (λU=> k7 U
) (λJ (F:gH) i11 U=> AB (τ:=(I S)) (λP=> if (decide ((F.Data.length:Int)>255)) then
(gN (α:=S) 1 U ([(A4 ((Xa2 8 ((A4 ((Xa2 8 ((A4 F.Flags).toNat:Int) &&& Xa2 8 224).toNat:Int)).toNat:Int) ||| Xa2 8 16).toNat:Int)),(A4 F.iB),(A4 (Xas (F.Data.length:Int) (2^(min (Wo 8) 64)))),(A4 (F.Data.length:Int))]:I S)).bind λV=> P V else
(gN (α:=S) 1 U ([(A4 ((Xa2 8 ((A4 F.Flags).toNat:Int) &&& Xa2 8 224).toNat:Int)),(A4 F.iB),(A4 (F.Data.length:Int))]:I S)).bind λY=> P Y
) λZ=>
(gN (α:=S) 1 Z F.Data).bind λa1=> J a1
) a0 0 []
) λQ=> if (decide ((Q.length:Int)>2048)) then some ([],3) else some (Q,0)
def HT (F:tT):O ((I S)×Int):= AB (τ:=(I gH)) (λk1=> if (decide ((F.fT.length:Int)>0)) then
(Ha F.gE).bind λ(v2,v3)=> if (v3 !=0) then some ([],v3) else k1 v2 else k1 []
) λv4=>
(E3 F.fT true).bind λv5=> AB (τ:=(I gH)) (λk6=> if (decide ((v5.length:Int)>0)) then
(Bq F.gE.Next).bind λv7=>
(gN (α:=S) 1 ([(0:S),(2:S),(1:S),(16:S)]:I S) v7).bind λv8=>
(gN (α:=S) 1 v8 ([(0:S)]:I S)).bind λv9=>
(gN (α:=S) 1 v9 v5).bind λU=>
(HL v4 (⟨128,14,U⟩:gH)).bind λV=> k6 V else k6 v4
) λK=>
(E3 F.gS true).bind λM=> AB (τ:=(I gH)) (λP=> if (decide ((M.length:Int)>0)) then
(gN (α:=S) 1 ([(0:S),(2:S),(1:S)]:I S) M).bind λY=>
(HL K (⟨128,15,Y⟩:gH)).bind λZ=> P Z else P K
) λa1=>
(Jy a1).bind λ(H,Q)=> if (Q !=0) then some ([],Q) else
(E3 F.gS false).bind λJ=>
(gN (α:=S) 1 ([(A4 (Xas (J.length:Int) (2^(min (Wo 8) 64)))),(A4 (J.length:Int))]:I S) J).bind λa6=>
(gN (α:=S) 1 a6 ([(A4 (Xas (H.length:Int) (2^(min (Wo 8) 64)))),(A4 (H.length:Int))]:I S)).bind λa7=>
(gN (α:=S) 1 a7 H).bind λa8=>
(E3 F.fT false).bind λaa=>
(gN (α:=S) 1 a8 aa).bind λab=> some (ab,0)
def HM (F:tT):O C:= AB (τ:=C) (λk1=> if (decide ((F.gS.length:Int)>256)) then k1 true else k1 (cond false true (decide ((F.fT.length:Int)>256)))
) λv2=> if v2 then some false else
(gN (α:=fI) 32 [] F.gS).bind λ_=>
(gN (α:=fI) 32 F.gS F.fT).bind λv3=> AB (τ:=Unit) (λk4=> AI (σ:=Unit) (λ_=> k4 ()
) (λK (x6:fI) i7 _=>
(A8 x6).bind λv8=> if (!v8) then some false else K ()
) v3 0 ()
) λ_=> AB (τ:=C) (λk9=> if ((F.fT.length:Int)==0) then
(EJ).bind λP=>
(Dv F.gE P).bind λQ=> k9 (cond true (!Q) false) else k9 false
) λU=> if U then some false else AB (τ:=Unit) (λV=> AI (σ:=Unit) (λ_=> V ()
) (λH (zf:fI) i16 _=> AB (τ:=C) (λJ=> if (!(zf.Addr.V6==F.gE.Next.V6)) then J true else if (cond false true (F.gE.gO==(-1))) then J true else if (cond false true (Addr.wa F.gE.Next (⟨false,(0:j),(0:j)⟩:Addr))) then J true else
(EK F.gE).bind λY=> J (cond false true (!Y))
) λZ=> if Z then some false else H ()
) F.fT 0 ()
) λ_=>
(HT F).bind λ(v20,v21)=> AB (τ:=C) (λM=> if (v21==0) then M (cond true (decide ((v20.length:Int)<=4077)) false) else M false
) λa1=> some a1
def LN (F:oA):O C:= AB (τ:=C) (λH=>
(A8 F.fI).bind λv2=> if (!v2) then H true else
(EK F.gE).bind λJ=> if (cond false true (!J)) then H true else if (cond false true (F.gE.gO==(-1))) then H true else if (cond false true ((F.gE.Path.length:Int)==0)) then H true else if (cond false true (Addr.wa F.gE.Next (⟨false,(0:j),(0:j)⟩:Addr))) then H true else H (cond false true (!(F.gE.Next.V6==F.fI.Addr.V6)))
) λK=> some K
def I4 (F:I oF):O (Int×C):= AB (τ:=C) (λH=>
(F3 F).bind λv2=> if (!v2) then H true else if (cond false true ((F.length:Int)==0)) then H true else
(mu F 0).bind λJ=> H (cond false true J.Set)
) λK=> if K then some (0,false) else
(mu F 0).bind λM=>
(mu M.o3 0).bind λP=> some (P,true)
def Jf (K:I oF):O Int:= AB (τ:=Int) (λM=> AI (σ:=Int) (λv2=> M v2
) (λF (H:oF) i5 v2=> AB (τ:=Int) (λJ=> if H.Set then J (AO (v2+1)) else J (AO (v2+(H.o3.length:Int)))
) λP=> F P
) K 0 0
) λQ=> some Q
def G6 (H:I oF):O (I Int):= AB (τ:=(I Int)) (λJ=> AI (σ:=(I Int)) (λv2=> J v2
) (λF (K:oF) i5 v2=>
(gN (α:=Int) 8 v2 K.o3).bind λM=> F M
) H 0 []
) λP=> some P
def Lp (H:I oF)(J:Int):O C:=
(G6 H).bind λv1=> AB (τ:=Unit) (λK=> AI (σ:=Unit) (λ_=> K ()
) (λF (M:Int) i5 _=> if (M==J) then some true else F ()
) v1 0 ()
) λ_=> some false
def HV (H:I Int)(J:Int):O C:= AB (τ:=Unit) (λK=> AI (σ:=Unit) (λ_=> K ()
) (λF (M:Int) i4 _=> if (M==J) then some true else F ()
) H 0 ()
) λ_=> some false
def Is (F:Int):O Int:= if (F==0) then some 3 else if (F==3) then some 0 else if (F==1) then some 2 else if (F==2) then some 1 else if (F==4) then some 4 else some (-1)
def Lt (J:Int)(H:Int):O C:= AB (τ:=C) (λF=>
(Is J).bind λv2=> if (v2==(-1)) then F true else if (cond false true (decide (H<1))) then F true else F (cond false true (decide (H>4294967295)))
) λK=> some K
def Gx (F:Int)(K:Int)(H:gE):O (gE×Int):=
(Lt F K).bind λv1=> if v1 then some ((⟨0,[],(⟨false,(0:j),(0:j)⟩:Addr),0,0,0,[],[],[]⟩:gE),1) else AB (τ:=C) (λP=> if (F==3) then P true else P (cond false true (F==2))
) λQ=> AB (τ:=C) (λJ=> if (H.vS !=(-1)) then if (cond true (!Q) false) then if (F !=4) then J true else J (cond true (cond false true (H.vS !=K)) false) else J false else J false
) λV=> if V then some ((⟨0,[],(⟨false,(0:j),(0:j)⟩:Addr),0,0,0,[],[],[]⟩:gE),30) else AB (τ:=C) (λM=> if (H.vS==(-1)) then if Q then M true else M (cond true (cond false true (F==4)) false) else M false
) λY=> AB (τ:=Int) (λU=> if Y then U K else U H.vS
) λZ=> some (({ H with vS:=Z }),0)
def Hn (a0:vV)(a1:lf)(Q:gE):O (I Int):=
(I4 Q.Path).bind λ(v1,v2)=> AB (τ:=C) (λk3=> if (!v2) then k3 true else k3 (cond false true (v1 !=a1.tS))
) λv4=> AB (τ:=(I Int)) (λk5=> if v4 then
(gN (α:=Int) 8 [] ([2]:I Int)).bind λv6=> k5 v6 else k5 []
) λv7=> AB (τ:=C) (λk8=> AI (σ:=C) (λv9=> k8 v9
) (λF (aq:Addr) i12 v9=> AB (τ:=C) (λa6=> if v9 then a6 true else a6 (cond false true (Addr.wa aq Q.Next))
) λar=> F ar
) a1.oT 0 false
) λau=> AB (τ:=(I Int)) (λa7=> if (!au) then
(gN (α:=Int) 8 v7 ([3]:I Int)).bind λax=> a7 ax else a7 v7
) λa8=>
(Jf Q.Path).bind λay=> AB (τ:=(I Int)) (λaa=> if (decide (ay>a0.xl)) then
(gN (α:=Int) 8 a8 ([4]:I Int)).bind λaz=> aa az else aa a8
) λab=>
(Lp Q.Path a0.yM).bind λb0=> AB (τ:=(I Int)) (λae=> if b0 then
(gN (α:=Int) 8 ab ([5]:I Int)).bind λba=> ae ba else ae ab
) λaf=> AB (τ:=C) (λbb=> AI (σ:=C) (λU=> bb U
) (λH (bc:oF) i31 U=> AB (τ:=C) (λag=> if U then ag true else ag (cond false true bc.Set)
) λbd=> H bd
) Q.Path 0 false
) λbe=>
(G6 Q.Path).bind λbf=> AB (τ:=C×C) (λbg=> AI (σ:=C×C) (λ(v37,V)=> bg (v37,V)
) (λJ (K:Int) i41 (v37,V)=> AB (τ:=C×C) (λbh=> AB (τ:=C) (λbi=> AI (σ:=C) (λY=> bi Y
) (λM (ah:wz) i47 Y=> AB (τ:=C) (λZ=> if Y then Z true else if (decide (K≥ah.vY)) then Z (cond false true (cond true (decide (K<=ah.To)) false)) else Z false
) λbj=> M bj
) a0.vh 0 v37
) λbk=> AB (τ:=C) (λP=> if V then P true else if (K !=a1.tS) then
(HV a0.wm K).bind λbl=> if (cond true bl false) then
(HV a0.wm a1.tS).bind λbm=> P (cond false true (cond true (!bm) false)) else P false else P false
) λbn=> bh (bk,bn)
) λ(v55,bo)=> J (v55,bo)
) bf 0 (false,false)
) λ(v57,v58)=> AB (τ:=(I Int)) (λai=> if be then
(gN (α:=Int) 8 af ([6]:I Int)).bind λbp=> ai bp else ai af
) λaj=> AB (τ:=(I Int)) (λak=> if v57 then
(gN (α:=Int) 8 aj ([7]:I Int)).bind λbq=> ak bq else ak aj
) λal=> AB (τ:=(I Int)) (λan=> if v58 then
(gN (α:=Int) 8 al ([8]:I Int)).bind λbr=> an br else an al
) λao=>
(Gx 1 a1.tS Q).bind λ(bz,bu)=> AB (τ:=(I Int)) (λap=> if (bu==30) then
(gN (α:=Int) 8 ao ([9]:I Int)).bind λbw=> ap bw else ap ao
) λbx=> some bx
def D4 (F:fI)(J:Addr):O C:=
(D1 J F.vg).bind λ(v1,v2)=> AB (τ:=C) (λH=> if (v2==0) then H (cond true (fI.wa v1 F) false) else H false
) λK=> some K
def Bj (F:fI)(H:fI):O C:= AB (τ:=C) (λJ=> if (decide (H.vg≥F.vg)) then
(D4 F H.Addr).bind λv2=> J (cond true v2 false) else J false
) λK=> some K
def IX (H:I qv)(J:qv):O C:= AB (τ:=Unit) (λK=> AI (σ:=Unit) (λ_=> K ()
) (λF (M:qv) i4 _=> if (qv.wa M J) then some true else F ()
) H 0 ()
) λ_=> some false
def Ic (F:gE):O C:=
(IX F.cW (⟨65535,666⟩:qv)).bind λv1=> some v1
def Jp (F:vV)(H:oA):O C:= AB (τ:=Int×Int×Int) (λJ=> if H.fI.Addr.V6 then J (F.xr,F.tv,F.wY) else J (F.xu,F.tb,F.wW)
) λ(v2,v3,v4)=>
(Ic H.gE).bind λM=> if M then some (decide (H.fI.vg<v4)) else AB (τ:=C) (λK=> if (decide (H.fI.vg<v2)) then K true else K (cond false true (decide (H.fI.vg>v3)))
) λP=> some P
def ER (F:C):O Int:= if F then some 128 else some 32
def E2 (J:I kI):O (I kI):= AB (τ:=(I kI)) (λK=> AI (σ:=(I kI)) (λv2=> K v2
) (λF (H:kI) i5 v2=>
(ER H.fI.Addr.V6).bind λM=>
(gN (α:=kI) 48 v2 ([{ H with Max:=M }]:I kI)).bind λP=> F P
) J 0 []
) λQ=> some Q
def Hu (F:I oF):O (Int×C):= AB (τ:=C) (λH=>
(F3 F).bind λv2=> if (!v2) then H true else if (cond false true ((F.length:Int)==0)) then H true else
(mu F (AO ((F.length:Int)-1))).bind λK=> H (cond false true K.Set)
) λM=> if M then some (0,false) else
(G6 F).bind λJ=>
(mu J (AO ((J.length:Int)-1))).bind λP=> some (P,true)
def HB (K:T):O C:= AB (τ:=Unit) (λQ=> BD (σ:=Int) (λJ M=> if (decide (M<(K.size:Int))) then
(mu K.toList M).bind λF=> AB (τ:=C) (λH=> if (decide ((F.toNat:Int)≥97)) then if (cond true (decide ((F.toNat:Int)<=122)) false) then H (!true) else if (decide ((F.toNat:Int)≥65)) then if (cond false true (cond true (decide ((F.toNat:Int)<=90)) false)) then H (!true) else if (decide ((F.toNat:Int)≥48)) then if (cond false true (cond true (decide ((F.toNat:Int)<=57)) false)) then H (!true) else if (cond false true ((F.toNat:Int)==45)) then H (!true) else H (!(cond false true ((F.toNat:Int)==58))) else if (cond false true ((F.toNat:Int)==45)) then H (!true) else H (!(cond false true ((F.toNat:Int)==58))) else if (decide ((F.toNat:Int)≥48)) then if (cond false true (cond true (decide ((F.toNat:Int)<=57)) false)) then H (!true) else if (cond false true ((F.toNat:Int)==45)) then H (!true) else H (!(cond false true ((F.toNat:Int)==58))) else if (cond false true ((F.toNat:Int)==45)) then H (!true) else H (!(cond false true ((F.toNat:Int)==58))) else if (decide ((F.toNat:Int)≥65)) then if (cond false true (cond true (decide ((F.toNat:Int)<=90)) false)) then H (!true) else if (decide ((F.toNat:Int)≥48)) then if (cond false true (cond true (decide ((F.toNat:Int)<=57)) false)) then H (!true) else if (cond false true ((F.toNat:Int)==45)) then H (!true) else H (!(cond false true ((F.toNat:Int)==58))) else if (cond false true ((F.toNat:Int)==45)) then H (!true) else H (!(cond false true ((F.toNat:Int)==58))) else if (decide ((F.toNat:Int)≥48)) then if (cond false true (cond true (decide ((F.toNat:Int)<=57)) false)) then H (!true) else if (cond false true ((F.toNat:Int)==45)) then H (!true) else H (!(cond false true ((F.toNat:Int)==58))) else if (cond false true ((F.toNat:Int)==45)) then H (!true) else H (!(cond false true ((F.toNat:Int)==58)))
) λU=> if U then some false else J (AO (M+1)) else Q ()
) tE 0
) λ_=> AB (τ:=C) (λP=> if (decide ((K.size:Int)≥1)) then P (cond true (decide ((K.size:Int)<=32)) false) else P false
) λV=> some V
def CV (F:kI):O C:= AB (τ:=Int) (λJ=> if F.fI.Addr.V6 then J 128 else J 32
) λv2=> AB (τ:=C) (λH=>
(A8 F.fI).bind λK=> if K then if (cond true (decide (F.Max≥F.fI.vg)) false) then if (cond true (decide (F.Max<=v2)) false) then if (cond true (decide (F.tS≥1)) false) then H (cond true (decide (F.tS<=4294967295)) false) else H false else H false else H false else H false
) λM=> some M
def Fv (V:we):O C:= AB (τ:=Unit) (λk1=> AI (σ:=(I (T×C))) (λv2=> k1 ()
) (λK (M:Set) i5 v2=> AB (τ:=Unit) (λk6=> AB (τ:=C) (λY=>
(HB M.Name).bind λv8=> if (!v8) then Y true else
(some (Xau (A7 v2 M.Name) false)).bind λv9=> if (cond false true v9) then Y true else if (cond false true (decide ((M.o3.length:Int)>64))) then Y true else Y (cond false true (decide ((M.ph.length:Int)>64)))
) λZ=> if Z then some false else AB (τ:=Unit) (λa1=> AI (σ:=Unit) (λ_=> a1 ()
) (λF (P:Int) i14 _=> AB (τ:=C) (λQ=> if (decide (P<1)) then Q true else Q (cond false true (decide (P>4294967295)))
) λa6=> if a6 then some false else F ()
) M.o3 0 ()
) λ_=> AB (τ:=Unit) (λa7=> AI (σ:=Unit) (λ_=> a7 ()
) (λH (a8:T) i20 _=>
(HB a8).bind λaa=> if (!aa) then some false else H ()
) M.ph 0 ()
) λ_=> k6 ()
) λ_=> K (BN v2 M.Name true)
) V.ph 0 []
) λ_=> AB (τ:=Unit) (λab=> AI (σ:=Unit) (λ_=> ab ()
) (λJ (ae:kI) i25 _=>
(CV ae).bind λaf=> if (!af) then some false else J ()
) V.pk 0 ()
) λ_=> AB (τ:=C) (λU=> if (decide ((V.ph.length:Int)<=64)) then U (cond true (decide ((V.pk.length:Int)<=512)) false) else U false
) λag=> some ag
def G5 (J:we)(K:T):O (Set×C):= AB (τ:=Unit) (λM=> AI (σ:=Unit) (λ_=> M ()
) (λF (H:Set) i4 _=> if (H.Name.toList==K.toList) then some (H,true) else F ()
) J.ph 0 ()
) λ_=> some ((⟨Xac,[],[]⟩:Set),false)
def Cf (F:I T)(P:T):O (I T):= AB (τ:=Int) (λk1=> BD (σ:=Int) (λH K=> AB (τ:=C) (λZ=> if (decide (K<(F.length:Int))) then
(mu F K).bind λv5=> Z (cond true (Op.bytesLess v5.toList P.toList) false) else Z false
) λv6=> if v6 then H (AO (K+1)) else k1 K
) tE 0
) λM=> AB (τ:=C) (λk8=> if (decide (M<(F.length:Int))) then
(mu F M).bind λv9=> k8 (cond true (v9.toList==P.toList) false) else k8 false
) λQ=> if Q then some F else
(part F 0 M).bind λJ=>
(gN (α:=T) 16 [] J).bind λ_=>
(gN (α:=T) 16 J ([P]:I T)).bind λU=>
(part F M (F.length:Int)).bind λV=>
(gN (α:=T) 16 U V).bind λY=> some Y
def FK (F:I Int)(P:Int):O (I Int):= AB (τ:=Int) (λk1=> BD (σ:=Int) (λH K=> AB (τ:=C) (λZ=> if (decide (K<(F.length:Int))) then
(mu F K).bind λv5=> Z (cond true (decide (v5<P)) false) else Z false
) λv6=> if v6 then H (AO (K+1)) else k1 K
) tE 0
) λM=> AB (τ:=C) (λk8=> if (decide (M<(F.length:Int))) then
(mu F M).bind λv9=> k8 (cond true (v9==P) false) else k8 false
) λQ=> if Q then some F else
(part F 0 M).bind λJ=>
(gN (α:=Int) 8 [] J).bind λ_=>
(gN (α:=Int) 8 J ([P]:I Int)).bind λU=>
(part F M (F.length:Int)).bind λV=>
(gN (α:=Int) 8 U V).bind λY=> some Y
def E6 (U:we)(V:T):O ((I Int)×(I T)×Int):=
(Fv U).bind λv1=> if (!v1) then some ([],[],1) else
(G5 U V).bind λ(v2,v3)=> if (!v3) then some ([],[],11) else AB (τ:=(I Int)×(I T)) (λk4=> BD (σ:=(I Int)×(I T)×(I (T×C))×(I T)) (λJ (v6,Y,v8,v9)=> if (decide ((v9.length:Int)>0)) then AB (τ:=(I Int)×(I T)×(I (T×C))×(I T)) (λZ=>
(mu v9 0).bind λa6=>
(G5 U a6).bind λ(v12,a7)=> AB (τ:=(I T)) (λP=> if (!a7) then
(mu v9 0).bind λa8=>
(Cf Y a8).bind λaa=> P aa else P Y
) λab=>
(part v9 1 (v9.length:Int)).bind λae=> AB (τ:=(I Int)) (λaf=> AI (σ:=(I Int)) (λK=> af K
) (λF (ag:Int) i23 K=>
(FK K ag).bind λah=> F ah
) v12.o3 0 v6
) λai=> AB (τ:=(I (T×C))×(I T)) (λaj=> AI (σ:=(I (T×C))×(I T)) (λ(v27,v28)=> aj (v27,v28)
) (λH (M:T) i31 (v27,v28)=>
(some (Xau (A7 v27 M) false)).bind λak=> AB (τ:=(I (T×C))×(I T)) (λQ=> if (!ak) then
(gN (α:=T) 16 v28 ([M]:I T)).bind λal=> Q ((BN v27 M true),al) else Q (v27,v28)
) λ(v35,v36)=> H (v35,v36)
) v12.ph 0 (v8,ae)
) λ(v37,an)=> Z (ai,ab,v37,an)
) λ(v39,v40,v41,ao)=> J (v39,v40,v41,ao) else k4 (v6,Y)
) tE ([],[],(BN [] V true),([V]:I T))
) λ(ap,v44)=> some (ap,v44,0)
def IT (H:I Int)(J:Int):O C:= AB (τ:=Unit) (λK=> AI (σ:=Unit) (λ_=> K ()
) (λF (M:Int) i4 _=> if (M==J) then some true else F ()
) H 0 ()
) λ_=> some false
def DZ (a0:I kI)(K:fI)(a2:Int):O Int:=
(A8 K).bind λv1=> if (!v1) then some 1 else AB (τ:=Int) (λk2=> AI (σ:=Int) (λH=> k2 H
) (λF (M:kI) i6 H=> AB (τ:=Int) (λY=> if (M.tS !=a2) then Y H else
(Bj M.fI K).bind λv8=> AB (τ:=Int) (λZ=> if (!v8) then AB (τ:=Int) (λJ=> if (H==11) then J 7 else J H
) λP=> Z P else if (decide (M.Max<K.vg)) then Z 9 else some 0
) λQ=> Y Q
) λU=> F U
) a0 0 11
) λV=> some V
def Jn (F:kI)(H:kI):O Int:=
(EC F.fI H.fI).bind λv1=> if (v1 !=0) then some v1 else AB (τ:=C) (λJ=> if (decide (F.Max<H.Max)) then J true else if (F.Max==H.Max) then J (cond false true (cond true (decide (F.tS<H.tS)) false)) else J false
) λK=> if K then some (-1) else if (kI.wa F H) then some 0 else some 1
def Hl (a0:I kI):O (I kI):= AB (τ:=(I kI)) (λk1=> AI (σ:=(I kI)) (λv2=> k1 v2
) (λH (Q:kI) i5 v2=> AB (τ:=(I kI)) (λk6=> AB (τ:=Int) (λk7=> BD (σ:=Int) (λJ P=> AB (τ:=C) (λK=> if (decide (P<(v2.length:Int))) then
(mu v2 P).bind λU=>
(Jn U Q).bind λV=> K (cond true (decide (V<0)) false) else K false
) λY=> if Y then J (AO (P+1)) else k7 P
) tE 0
) λF=> AB (τ:=C) (λM=> if (decide (F<(v2.length:Int))) then
(mu v2 F).bind λZ=> M (cond true (kI.wa Z Q) false) else M false
) λa1=> if a1 then k6 v2 else
(wQ (0<=(0:Int)/\(0:Int)<=F/\F<=(v2.length:Int))).bind λ_=>
(gN (α:=kI) 48 [] (Xbx (Wo F-Wo 0) (Xc2 (Wo 0) v2))).bind λ_=>
(gN (α:=kI) 48 (Xbx (Wo F-Wo 0) (Xc2 (Wo 0) v2)) ([Q]:I kI)).bind λa6=>
(wQ (0<=F/\F<=(v2.length:Int)/\(v2.length:Int)<=(v2.length:Int))).bind λ_=>
(gN (α:=kI) 48 a6 (Xbx (Wo (v2.length:Int)-Wo F) (Xc2 (Wo F) v2))).bind λa7=> k6 a7
) λa8=> H a8
) a0 0 []
) λaa=> some aa
def If (P:we)(Q:I Int):O (I kI):= AB (τ:=(I kI)) (λU=> AI (σ:=(I kI)) (λv2=> U v2
) (λF (K:kI) i5 v2=>
(IT Q K.tS).bind λV=> AB (τ:=(I kI)) (λM=> if V then
(gN (α:=kI) 48 v2 ([K]:I kI)).bind λY=> M Y else M v2
) λZ=> F Z
) P.pk 0 []
) λH=>
(Hl H).bind λJ=> some J
def DJ (F:we)(J:Int)(K:T)(U:fI)(M:Int):O Int:=
(Fv F).bind λv1=> if (!v1) then some 1 else AB (τ:=(I Int)) (λP=> if (!(K.toList==(Xc5 (Xcc Xej)).toList)) then
(E6 F K).bind λ(v3,v4,v5)=> if (v5 !=0) then some v5 else
(gN (α:=Int) 8 ([J]:I Int) v3).bind λV=> P V else P ([J]:I Int)
) λQ=>
(IT Q M).bind λY=> if (!Y) then some 17 else
(If F Q).bind λZ=>
(DZ Z U M).bind λH=> some H
def Iy (a0:I kI)(a1:fI)(a2:Int):O (Int×(I kI)):= AB (τ:=Int×(I kI)) (λk1=> AI (σ:=Int×(I kI)) (λ(v2,v3)=> k1 (v2,v3)
) (λF (M:kI) i6 (v2,v3)=> AB (τ:=Int×(I kI)) (λk7=>
(Bj M.fI a1).bind λv8=> if (!v8) then k7 (v2,v3) else
(gN (α:=kI) 48 v3 ([M]:I kI)).bind λv9=> AB (τ:=Int) (λJ=> if (v2==0) then J 2 else J v2
) λP=> AB (τ:=C) (λH=> if (M.tS==a2) then if (cond true (a2 !=0) false) then H (cond true (decide (M.Max≥a1.vg)) false) else H false else H false
) λQ=> AB (τ:=Int) (λK=> if Q then K 1 else K P
) λU=> k7 (U,v9)
) λ(V,v17)=> F (V,v17)
) a0 0 (0,[])
) λ(Y,Z)=> some (Y,Z)
def LU (H:vV)(a1:lf)(F:oA):O (I Int):=
(LN F).bind λv1=> if v1 then some ([1]:I Int) else
(Hn H a1 F.gE).bind λv2=> AB (τ:=C) (λk3=> AI (σ:=C) (λv4=> k3 v4
) (λK (x6:fI) i7 v4=> AB (τ:=C) (λk8=> if v4 then k8 true else
(Bj x6 F.fI).bind λv9=> if (cond false true v9) then k8 true else
(Bj F.fI x6).bind λag=> k8 (cond false true ag)
) λah=> K ah
) H.wF 0 false
) λai=> AB (τ:=C) (λaj=> AI (σ:=C) (λM=> aj M
) (λJ (ak:fI) i17 M=> AB (τ:=C) (λP=> if M then P true else
(Bj ak F.fI).bind λal=> P (cond false true al)
) λan=> J an
) H.vt 0 false
) λao=> AB (τ:=(I Int)) (λQ=> if ai then
(gN (α:=Int) 8 v2 ([10]:I Int)).bind λap=> Q ap else Q v2
) λU=> AB (τ:=(I Int)) (λV=> if ao then
(gN (α:=Int) 8 U ([11]:I Int)).bind λaq=> V aq else V U
) λY=>
(Jp H F).bind λar=> AB (τ:=(I Int)) (λZ=> if ar then
(gN (α:=Int) 8 Y ([12]:I Int)).bind λau=> Z au else Z Y
) λa6=>
(Ic F.gE).bind λax=> AB (τ:=(I kI)×(I kI)) (λa7=> if ax then
(E2 H.we.pk).bind λay=>
(E2 H.tF).bind λaz=> a7 (az,ay) else a7 (H.tF,H.we.pk)
) λ(v36,v37)=>
(Hu F.gE.Path).bind λ(b0,v39)=> AB (τ:=Int) (λa8=> if (!v39) then a8 (-1) else a8 b0
) λaa=>
(DJ (⟨H.we.ph,v37⟩:we) a1.tS a1.Set F.fI aa).bind λba=> AB (τ:=(I Int)) (λab=> if (ba !=0) then
(gN (α:=Int) 8 a6 ([13]:I Int)).bind λbb=> ab bb else ab a6
) λae=>
(Iy v36 F.fI aa).bind λ(v46,be)=> AB (τ:=(I Int)) (λaf=> if (v46==2) then
(gN (α:=Int) 8 ae ([14]:I Int)).bind λbc=> af bc else af ae
) λbd=> some bd
def HI (F:vV)(H:lf)(J:oA):O Int:=
(LU F H J).bind λv1=> if (decide ((v1.length:Int)>0)) then
(mu v1 0).bind λv2=> some v2 else some 0
def DF (J:gE):O gE:= AB (τ:=(I oF)) (λV=> AI (σ:=(I oF)) (λv2=> V v2
) (λH (U:oF) i5 v2=>
(gN (α:=Int) 8 [] U.o3).bind λ_=>
(gN (α:=oF) 32 v2 ([U]:I oF)).bind λY=> H Y
) J.Path 0 []
) λZ=>
(gN (α:=qv) 16 [] J.cW).bind λ_=>
(gN (α:=oB) 24 [] J.oB).bind λ_=> AB (τ:=(I gH)) (λk8=> AI (σ:=(I gH)) (λM=> k8 M
) (λF (K:gH) i12 M=>
(gN (α:=S) 1 [] K.Data).bind λ_=>
(gN (α:=gH) 40 M ([K]:I gH)).bind λP=> F P
) J.iX 0 []
) λQ=> some ({ J with Path:=Z,iX:=Q })
def EW (H:ls):O ls:=
(gN (α:=Addr) 24 [] H.lf.oT).bind λ_=> AB (τ:=(I gD)) (λK=> AI (σ:=(I gD)) (λv2=> K v2
) (λF (J:gD) i5 v2=>
(DF J.oA.gE).bind λM=>
(gN (α:=gD) 208 v2 ([{ J with oA:={ J.oA with gE:=M } }]:I gD)).bind λP=> F P
) H.gD 0 []
) λQ=> some ({ H with gD:=Q })
def Jg (H:I fI)(J:Int):O C:= AB (τ:=Unit) (λK=> AI (σ:=Unit) (λ_=> K ()
) (λF (M:fI) i4 _=>
(A8 M).bind λP=> if (!P) then some false else F ()
) H 0 ()
) λ_=> some (decide ((H.length:Int)<=J))
def Iw (F:vV):O C:= AB (τ:=C) (λY=>
(Jk F.yM).bind λv2=> if (!v2) then Y true else
(Jg F.wF 8).bind λv3=> if (cond false true (!v3)) then Y true else
(Jg F.vt 64).bind λv4=> if (cond false true (!v4)) then Y true else if (cond false true (decide ((F.vh.length:Int)>64))) then Y true else if (cond false true (decide ((F.wm.length:Int)>64))) then Y true else Y (cond false true (decide ((F.tF.length:Int)>512)))
) λv5=> if v5 then some false else AB (τ:=Unit) (λk6=> AI (σ:=Unit) (λ_=> k6 ()
) (λU (Z:wz) i9 _=> AB (τ:=C) (λV=> if (decide (Z.vY<0)) then V true else if (cond false true (decide (Z.vY>Z.To))) then V true else V (cond false true (decide (Z.To>4294967295)))
) λa1=> if a1 then some false else U ()
) F.vh 0 ()
) λ_=> AB (τ:=Unit) (λa6=> AI (σ:=Unit) (λ_=> a6 ()
) (λP (yL:Int) i15 _=>
(Jk yL).bind λa7=> if (!a7) then some false else P ()
) F.wm 0 ()
) λ_=> AB (τ:=Unit) (λa8=> AI (σ:=Unit) (λ_=> a8 ()
) (λQ (J:kI) i20 _=> AB (τ:=C) (λM=>
(A8 J.fI).bind λaa=> if (!aa) then M true else if (cond false true (decide (J.Max<J.fI.vg))) then M true else
(ER J.fI.Addr.V6).bind λab=> if (cond false true (decide (J.Max>ab))) then M true else if (cond false true (decide (J.tS<0))) then M true else M (cond false true (decide (J.tS>4294967295)))
) λae=> if ae then some false else Q ()
) F.tF 0 ()
) λ_=> AB (τ:=C) (λK=> if (decide (F.xu≥0)) then if (cond true (decide (F.xu<=F.tb)) false) then if (cond true (decide (F.tb<=32)) false) then if (cond true (decide (F.xr≥0)) false) then if (cond true (decide (F.xr<=F.tv)) false) then K (cond true (decide (F.tv<=128)) false) else K false else K false else K false else K false else K false
) λaf=> AB (τ:=C) (λH=> if af then if (cond true (decide (F.wW≥0)) false) then if (cond true (decide (F.wW<=32)) false) then if (cond true (decide (F.wY≥0)) false) then if (cond true (decide (F.wY<=128)) false) then if (cond true (decide (F.xl≥1)) false) then if (cond true (decide (F.xl<=60)) false) then
(Fv F.we).bind λag=> H (cond true ag false) else H false else H false else H false else H false else H false else H false else H false
) λah=> some ah
def EV (K:I gD)(M:fI):O (I gD):= AB (τ:=(I gD)) (λP=> AI (σ:=(I gD)) (λv2=> P v2
) (λF (H:gD) i5 v2=> AB (τ:=(I gD)) (λJ=> if (!(fI.wa H.oA.fI M)) then
(gN (α:=gD) 208 v2 ([H]:I gD)).bind λQ=> J Q else J v2
) λU=> F U
) K 0 []
) λV=> some V
def CQ (H:ls):O ls:= AB (τ:=Unit) (λJ=> AI (σ:=Unit) (λ_=> J ()
) (λF (K:gD) i4 _=> if K.vq then some H else F ()
) H.gD 0 ()
) λ_=> some ({ ({ H with oX:=0 }) with lf:=(({ H with oX:=0 }).lf) })
def HZ (a0:vV)(Q:ls)(a2:tT):O (ls×Int):= AB (τ:=C) (λk1=>
(Iw a0).bind λv2=> if (!v2) then k1 true else
(Da Q).bind λv3=> if (cond false true (!v3)) then k1 true else
(HM a2).bind λv4=> k1 (cond false true (!v4))
) λv5=> if v5 then some ((⟨(⟨0,Xac,0,0,[]⟩:lf),false,[],0⟩:ls),1) else if (!Q.Up) then some ((⟨(⟨0,Xac,0,0,[]⟩:lf),false,[],0⟩:ls),31) else
(EW Q).bind λv6=> AB (τ:=(I gD)) (λk7=> AI (σ:=(I gD)) (λv8=> k7 v8
) (λU (a8:fI) i11 v8=>
(EV v8 a8).bind λaa=> U aa
) a2.gS 0 v6.gD
) λab=> AB (τ:=(I gD)) (λae=> AI (σ:=(I gD)) (λV=> ae V
) (λJ (K:fI) i18 V=> AB (τ:=(I gD)) (λaf=>
(DF a2.gE).bind λZ=>
(HI a0 Q.lf (⟨K,Q.lf.tS,Z⟩:oA)).bind λag=>
(EV V K).bind λF=> AB (τ:=Int) (λah=> BD (σ:=Int) (λM P=> AB (τ:=C) (λa6=> if (decide (P<(F.length:Int))) then
(mu F P).bind λai=>
(EC ai.oA.fI K).bind λaj=> a6 (cond true (decide (aj<0)) false) else a6 false
) λak=> if ak then M (AO (P+1)) else ah P
) tE 0
) λH=>
(wQ (0<=H/\H<=(F.length:Int)/\(F.length:Int)<=(F.length:Int))).bind λ_=>
(gN (α:=gD) 208 [] (Xbx (Wo (F.length:Int)-Wo H) (Xc2 (Wo H) F))).bind λ_=>
(wQ (H<=H/\H<=(F.length:Int))).bind λ_=>
(part F 0 H).bind λal=>
(gN (α:=gD) 208 al ([(⟨(⟨K,Q.lf.tS,Z⟩:oA),ag,false⟩:gD)]:I gD)).bind λan=>
(gN (α:=gD) 208 an (Xbx (Wo (F.length:Int)-Wo H) (Xc2 (Wo H) F))).bind λao=> af ao
) λap=> J ap
) a2.fT 0 ab
) λa7=>
(F7 ({ v6 with gD:=a7 })).bind λ(v36,v37)=> AB (τ:=C) (λY=> if (decide (v36>Q.lf.tb)) then Y true else if (cond false true (decide (v37>Q.lf.tv))) then Y true else Y (cond false true (decide ((AO (v36+v37))>256)))
) λaq=> if aq then some ((⟨(⟨0,Xac,0,0,[]⟩:lf),false,[],0⟩:ls),34) else
(CQ ({ v6 with gD:=a7 })).bind λar=> some (ar,0)
def FV (F:lf):O ls:=
(gN (α:=Addr) 24 [] F.oT).bind λ_=> some (⟨F,false,[],0⟩:ls)
def HH (Z:ls)(P:Int):O ls:=
(EW Z).bind λv1=>
(EW Z).bind λv2=> AB (τ:=(I gD)) (λk3=> AI (σ:=(I gD)) (λM=> k3 M
) (λF (J:gD) i7 M=> AB (τ:=C) (λH=> if (!J.vq) then H true else if (P==0) then if (cond false true (cond true J.oA.fI.Addr.V6 false)) then H true else if (P==1) then H (cond false true (cond true (!J.oA.fI.Addr.V6) false)) else H false else if (P==1) then H (cond false true (cond true (!J.oA.fI.Addr.V6) false)) else H false
) λv9=> AB (τ:=(I gD)) (λK=> if v9 then
(gN (α:=gD) 208 M ([J]:I gD)).bind λQ=> K Q else K M
) λU=> F U
) v2.gD 0 []
) λV=>
(CQ ({ v1 with gD:=V })).bind λY=> some Y
def Ix (F:ls):O (ls×Int):=
(Da F).bind λv1=> if (!v1) then some ((⟨(⟨0,Xac,0,0,[]⟩:lf),false,[],0⟩:ls),1) else if F.Up then some ((⟨(⟨0,Xac,0,0,[]⟩:lf),false,[],0⟩:ls),31) else
(EW F).bind λv2=> some ({ v2 with Up:=true },0)
def J1 (K:ls)(M:Int)(J:Int):O (ls×Int):= AB (τ:=C) (λH=>
(Da K).bind λv2=> if (!v2) then H true else if (cond false true (decide (M<0))) then H true else if (cond false true (decide (M>1073741824))) then H true else if (cond false true (decide (J<0))) then H true else H (cond false true (decide (J>4095)))
) λv3=> if v3 then some ((⟨(⟨0,Xac,0,0,[]⟩:lf),false,[],0⟩:ls),1) else if (!K.Up) then some ((⟨(⟨0,Xac,0,0,[]⟩:lf),false,[],0⟩:ls),31) else
(EW K).bind λY=> AB (τ:=(I gD)) (λZ=> if (J==0) then Z [] else Z Y.gD
) λv6=> AB (τ:=(I gD)) (λk7=> BD (σ:=Int×(I gD)) (λF (v9,v10)=> if (decide (v9<(v6.length:Int))) then
(mu v10 v9).bind λP=>
(wj v10 v9 ({ P with vq:=true })).bind λQ=> F ((AO (v9+1)),Q) else k7 v10
) tE (0,v6)
) λU=>
(CQ (⟨Y.lf,false,U,(AO (M+J))⟩:ls)).bind λV=> some (V,0)
def Eo (a0:r9):O (vV×r9):=
(AL a0 3).bind λ(v1,v2)=>
(part ([701,202]:I Int) 0 v1).bind λv3=>
(AL v2 4).bind λ(v4,v5)=> AB (τ:=r9×(I fI)) (λk6=> if (v4==0) then
(AL v5 8).bind λ(v7,v8)=>
(G3 v7).bind λv9=> k6 (v8,([v9]:I fI)) else k6 (v5,[])
) λ(v10,v11)=>
(AL v10 6).bind λ(v12,K)=> AB (τ:=r9×Int) (λM=> if (v12==0) then
(AL K 3).bind λ(a1,a6)=> M (a6,(AO (2+a1))) else M (K,8)
) λ(v17,a7)=>
(AL v17 3).bind λ(a8,v20)=> AB (τ:=r9×(I kI)×(I kI)) (λaa=> BD (σ:=Int×r9×(I kI)×(I kI)) (λF (v23,v24,v25,v26)=> if (decide (v23<8)) then AB (τ:=r9×(I kI)×(I kI)) (λab=>
(G3 v23).bind λJ=> AB (τ:=Int) (λP=> if J.Addr.V6 then P 64 else P 24
) λQ=> AB (τ:=r9×(I kI)) (λae=> AI (σ:=r9×(I kI)) (λ(v32,v33)=> ae (v32,v33)
) (λH (af:Int) i36 (v32,v33)=> AB (τ:=C×r9) (λU=> if (decide (a8>0)) then U (true,v32) else
(AL v32 3).bind λ(ag,v39)=> U ((cond false true (decide (ag>0))),v39)
) λ(v40,v41)=> AB (τ:=(I kI)) (λV=> if v40 then
(gN (α:=kI) 48 v33 ([(⟨J,Q,af⟩:kI)]:I kI)).bind λah=> V ah else V v33
) λai=> H (v41,ai)
) ([101,102,103,104,105,201,202,203,301]:I Int) 0 (v24,v25)
) λ(v45,v46)=>
(AL v45 5).bind λ(aj,Y)=> AB (τ:=r9×(I kI)) (λZ=> if (aj==0) then
(AL Y 5).bind λ(v50,v51)=>
(mu ([101,102,103,201,0]:I Int) v50).bind λak=>
(gN (α:=kI) 48 v26 ([(⟨J,Q,ak⟩:kI)]:I kI)).bind λal=> Z (v51,al) else Z (Y,v26)
) λ(v54,v55)=> ab (v54,v46,v55)
) λ(an,v57,v58)=> F ((AO (v23+1)),an,v57,v58) else aa (v24,v25,v26)
) tE (0,v20,[],[])
) λ(v59,v60,ao)=> some ((⟨99,([(⟨(⟨false,(0:j),(3221225984:j)⟩:Addr),24⟩:fI)]:I fI),8,24,19,64,25,65,v11,([(⟨64512,65534⟩:wz)]:I wz),v3,a7,(⟨([(⟨(Xc5 (Xcc (Xa8 65 (Xa8 76 (Xa8 76 Xej))))),([101,102,103,104,105,201,202,203,301]:I Int),[]⟩:Set),(⟨(Xc5 (Xcc (Xa8 79 (Xa8 78 (Xa8 69 Xej))))),([201]:I Int),[]⟩:Set)]:I Set),v60⟩:we),ao⟩:vV),v59)
def F2 (H:r9)(F:Int):O (lf×r9):=
(AL H 6).bind λ(v1,v2)=>
(mu ([(Xc5 (Xcc (Xa8 65 (Xa8 76 (Xa8 76 Xej))))),(Xc5 (Xcc (Xa8 65 (Xa8 76 (Xa8 76 Xej))))),(Xc5 (Xcc (Xa8 65 (Xa8 76 (Xa8 76 Xej))))),(Xc5 (Xcc (Xa8 79 (Xa8 78 (Xa8 69 Xej))))),(Xc5 (Xcc Xej)),(Xc5 (Xcc (Xa8 78 (Xa8 79 (Xa8 78 (Xa8 69 Xej))))))]:I T) v1).bind λJ=>
(AL v2 20).bind λ(v4,v5)=>
(AL v5 9).bind λ(v6,K)=>
(FS F false).bind λM=>
(FS F true).bind λP=> some ((⟨F,J,(AO (6+v4)),(AO (3+v6)),([M,P]:I Addr)⟩:lf),K)
def Cj (a0:r9):O (vV×ls×r9):=
(Eo a0).bind λ(v1,v2)=>
(AL v2 4).bind λ(v3,v4)=>
(F2 v4 (AO (101+v3))).bind λ(v5,v6)=>
(FV v5).bind λv7=>
(AL v6 9).bind λ(v8,v9)=> AB (τ:=r9×ls) (λZ=> BD (σ:=Int×r9×ls) (λJ (v12,M,F)=> if (decide (v12≥0)) then
(AL M 8).bind λ(H,K)=> AB (τ:=Int×r9×ls) (λP=> if (H==0) then
(AL K 50).bind λ(a1,a6)=>
(AL a6 3).bind λ(v20,v21)=>
(mu ([0,9,60]:I Int) v20).bind λa7=>
(J1 F a1 a7).bind λ(v23,v24)=> P (v24,v21,v23) else AB (τ:=Int×r9×ls) (λQ=> if (H==1) then
(AL K 3).bind λ(v26,v27)=>
(HH F v26).bind λa8=> Q (0,v27,a8) else AB (τ:=C) (λU=> if (H==2) then U (H==2) else U (H==3)
) λaa=> AB (τ:=Int×r9×ls) (λV=> if aa then
(Ix F).bind λ(v32,v33)=> V (v33,K,v32) else
(Bf K (AO (101+v3))).bind λ(ab,v35)=>
(HZ v1 F ab).bind λ(v36,v37)=> V (v37,v35,v36)
) λ(ae,v39,v40)=> Q (ae,v39,v40)
) λ(v41,af,ag)=> P (v41,af,ag)
) λ(v44,v45,v46)=> AB (τ:=ls) (λY=> if (v44==0) then Y v46 else Y F
) λah=> J ((AO (v12-1)),v45,ah) else Z (M,F)
) tE (v8,v9,v7)
) λ(v49,v50)=> some (v1,v50,v49)
def GR (a0:ls)(a1:Int)(a2:Int)(J:Int):O ls:=
(EW a0).bind λv1=>
(FR a1 8).bind λv2=> AB (τ:=Int×Int×C×Int×(I gD)) (λk3=> if (v2==0) then
(FR J 3).bind λv4=> k3 (v1.lf.tS,v1.lf.tb,v1.Up,(AO (v4*20)),v1.gD) else AB (τ:=Int×Int×C×(I gD)) (λk5=> if (v2==1) then k5 (v1.lf.tS,v1.lf.tb,(!v1.Up),v1.gD) else AB (τ:=Int×Int×(I gD)) (λk6=> if (v2==2) then
(FR J 4).bind λv7=> k6 (v1.lf.tS,v7,v1.gD) else AB (τ:=Int×(I gD)) (λk8=> if (v2==3) then k8 (J,v1.gD) else if ((v1.gD.length:Int)==0) then some v1 else
(FR a2 (v1.gD.length:Int)).bind λK=>
(mu v1.gD K).bind λF=>
(FR a1 8).bind λH=> AB (τ:=(I gD)) (λM=> if (H==4) then
(wj v1.gD K ({ F with vq:=(!F.vq) })).bind λV=> M V else AB (τ:=(I gD)) (λP=> if (H==5) then
(FR J 17).bind λY=>
(wj v1.gD K ({ F with vj:=(AO (Y-1)) })).bind λZ=> P Z else AB (τ:=(I gD)) (λQ=> if (H==6) then
(wj v1.gD K ({ F with oA:={ F.oA with vY:=(AO (F.oA.vY+1)) } })).bind λa6=> Q a6 else AB (τ:=(I gD)) (λU=> if (H==7) then
(FR J 35).bind λa7=>
(wj v1.gD K ({ F with oA:={ F.oA with fI:=(⟨F.oA.fI.Addr,a7⟩:fI) } })).bind λa8=> U a8 else U v1.gD
) λaa=> Q aa
) λab=> P ab
) λae=> M ae
) λaf=> k8 (v1.lf.tS,af)
) λ(v26,v27)=> k6 (v26,v1.lf.tb,v27)
) λ(v28,v29,v30)=> k5 (v28,v29,v1.Up,v30)
) λ(v31,v32,v33,ag)=> k3 (v31,v32,v33,v1.oX,ag)
) λ(v35,v36,v37,ah,v39)=> some (⟨{ v1.lf with tS:=v35,tb:=v36 },v37,v39,ah⟩:ls)
def F6 (H:I Int)(J:I Int):O C:= if ((H.length:Int) !=(J.length:Int)) then some false else AB (τ:=Unit) (λK=> AI (σ:=Unit) (λ_=> K ()
) (λF (M:Int) P _=>
(mu J (P:Int)).bind λQ=> if (M !=Q) then some false else F ()
) H 0 ()
) λ_=> some true
def DN (H:gE)(F:gE):O C:= AB (τ:=C) (λJ=> if (H.gO !=F.gO) then J true else if (cond false true (!(Addr.wa H.Next F.Next))) then J true else if (cond false true (H.wo !=F.wo)) then J true else if (cond false true (H.th !=F.th)) then J true else if (cond false true (H.vS !=F.vS)) then J true else if (cond false true ((H.Path.length:Int) !=(F.Path.length:Int))) then J true else if (cond false true ((H.cW.length:Int) !=(F.cW.length:Int))) then J true else if (cond false true ((H.oB.length:Int) !=(F.oB.length:Int))) then J true else J (cond false true ((H.iX.length:Int) !=(F.iX.length:Int)))
) λv2=> if v2 then some false else AB (τ:=Unit) (λk3=> AI (σ:=Unit) (λ_=> k3 ()
) (λQ (x5:oF) i6 _=> AB (τ:=C) (λk7=>
(mu F.Path (i6:Int)).bind λv8=> if (!(x5.Set==v8.Set)) then k7 true else
(mu F.Path (i6:Int)).bind λv9=>
(F6 x5.o3 v9.o3).bind λZ=> k7 (cond false true (!Z))
) λa6=> if a6 then some false else Q ()
) H.Path 0 ()
) λ_=> AB (τ:=Unit) (λa7=> AI (σ:=Unit) (λ_=> a7 ()
) (λK (yL:qv) a8 _=>
(mu F.cW (a8:Int)).bind λaa=> if (!(qv.wa yL aa)) then some false else K ()
) H.cW 0 ()
) λ_=> AB (τ:=Unit) (λab=> AI (σ:=Unit) (λ_=> ab ()
) (λM (ae:oB) af _=>
(mu F.oB (af:Int)).bind λag=> if (!(oB.wa ae ag)) then some false else M ()
) H.oB 0 ()
) λ_=> AB (τ:=Unit) (λah=> AI (σ:=Unit) (λ_=> ah ()
) (λP (U:gH) V _=> AB (τ:=C) (λY=>
(mu F.iX (V:Int)).bind λai=> if (U.Flags !=ai.Flags) then Y true else
(mu F.iX (V:Int)).bind λaj=> if (cond false true (U.iB !=aj.iB)) then Y true else
(mu F.iX (V:Int)).bind λak=> Y (cond false true (!((bs U.Data).toList==(bs ak.Data).toList)))
) λal=> if al then some false else P ()
) H.iX 0 ()
) λ_=> some true
def Bd (F:oA)(H:oA):O C:= AB (τ:=C) (λJ=> if (fI.wa F.fI H.fI) then if (cond true (F.vY==H.vY) false) then
(DN F.gE H.gE).bind λv2=> J (cond true v2 false) else J false else J false
) λK=> some K
def GM (H:lf)(J:lf):O C:= AB (τ:=C) (λK=> if (H.tS !=J.tS) then K true else if (cond false true (!(H.Set.toList==J.Set.toList))) then K true else if (cond false true (H.tb !=J.tb)) then K true else if (cond false true (H.tv !=J.tv)) then K true else K (cond false true ((H.oT.length:Int) !=(J.oT.length:Int)))
) λv2=> if v2 then some false else AB (τ:=Unit) (λM=> AI (σ:=Unit) (λ_=> M ()
) (λF (P:Addr) Q _=>
(mu J.oT (Q:Int)).bind λU=> if (!(Addr.wa P U)) then some false else F ()
) H.oT 0 ()
) λ_=> some true
def HA (J:ls)(F:ls):O C:= AB (τ:=C) (λK=> if (!(J.Up==F.Up)) then K true else if (cond false true (J.oX !=F.oX)) then K true else if (cond false true ((J.gD.length:Int) !=(F.gD.length:Int))) then K true else
(GM J.lf F.lf).bind λv2=> K (cond false true (!v2))
) λv3=> if v3 then some false else AB (τ:=Unit) (λk4=> AI (σ:=Unit) (λ_=> k4 ()
) (λH (M:gD) P _=> AB (τ:=C) (λQ=>
(mu F.gD (P:Int)).bind λv9=> if (M.vj !=v9.vj) then Q true else
(mu F.gD (P:Int)).bind λU=> if (cond false true (!(M.vq==U.vq))) then Q true else
(mu F.gD (P:Int)).bind λV=>
(Bd M.oA V.oA).bind λY=> Q (cond false true (!Y))
) λZ=> if Z then some false else H ()
) J.gD 0 ()
) λ_=> some true
def FN (a0:ls)(P:tT)(a2:I Int)(a3:Int)(a4:Int)(a5:Int):O C:= AB (τ:=C) (λQ=>
(GQ a0).bind λv2=> if (!v2) then Q true else
(DD P.gE).bind λv3=> if (cond false true (!v3)) then Q true else if (cond false true (decide ((P.fT.length:Int)>60))) then Q true else Q (cond false true (decide ((P.gS.length:Int)>60)))
) λv4=> if v4 then
(C4).bind λv5=> some v5 else
(Gp a2).bind λv6=>
(Cj v6).bind λ(v7,U,v9)=>
(GR U a3 a4 a5).bind λV=> AB (τ:=Unit) (λY=> AI (σ:=r9) (λJ=> Y ()
) (λF (yL:ls) i15 J=> AB (τ:=r9) (λZ=>
(Bf J U.lf.tS).bind λ(v17,a6)=>
(Bf a6 U.lf.tS).bind λ(a7,v20)=> AB (τ:=Unit) (λa8=> AI (σ:=Unit) (λ_=> a8 ()
) (λH (K:tT) i24 _=>
(Dm v7 yL K).bind λ(v25,v26)=>
(HZ v7 yL K).bind λ(v27,v28)=> AB (τ:=C) (λM=> if (v26 !=v28) then M true else
(HA v25 v27).bind λaa=> M (cond false true (!aa))
) λab=> if ab then some false else H ()
) ([v17,P,a7]:I tT) 0 ()
) λ_=> Z v20
) λae=> F ae
) ([U,a0,V]:I ls) 0 v9
) λ_=>
(C4).bind λaf=> some af
def Fb (F:ls)(J:ls):O (I fI):= AB (τ:=(I fI)) (λk1=> BD (σ:=Int×Int×(I fI)) (λH (v3,v4,v5)=> AB (τ:=C) (λk6=> if (decide (v3<(F.gD.length:Int))) then k6 true else k6 (cond false true (decide (v4<(J.gD.length:Int))))
) λv7=> if v7 then AB (τ:=C) (λQ=> if (v4==(J.gD.length:Int)) then Q true else if (decide (v3<(F.gD.length:Int))) then
(mu F.gD v3).bind λv9=>
(mu J.gD v4).bind λU=>
(EC v9.oA.fI U.oA.fI).bind λV=> Q (cond false true (cond true (decide (V<0)) false)) else Q false
) λY=> AB (τ:=Int×Int×(I fI)) (λK=> if Y then
(mu F.gD v3).bind λZ=>
(gN (α:=fI) 32 v5 ([Z.oA.fI]:I fI)).bind λa6=> K ((AO (v3+1)),v4,a6) else AB (τ:=C) (λM=> if (v3==(F.gD.length:Int)) then M true else
(mu F.gD v3).bind λa7=>
(mu J.gD v4).bind λa8=>
(EC a7.oA.fI a8.oA.fI).bind λaa=> M (cond false true (decide (aa>0)))
) λab=> AB (τ:=Int×(I fI)) (λP=> if ab then
(mu J.gD v4).bind λae=>
(gN (α:=fI) 32 v5 ([ae.oA.fI]:I fI)).bind λaf=> P (v3,af) else
(mu F.gD v3).bind λag=>
(gN (α:=fI) 32 v5 ([ag.oA.fI]:I fI)).bind λah=> P ((AO (v3+1)),ah)
) λ(v26,v27)=> K (v26,(AO (v4+1)),v27)
) λ(v28,v29,v30)=> H (v28,v29,v30) else k1 v5
) tE (0,0,[])
) λai=> some ai
def EE (F:ls)(H:fI):O (gD×C):=
(Ci F.gD H).bind λ(v1,v2)=> if (!v2) then some ((⟨(⟨(⟨(⟨false,(0:j),(0:j)⟩:Addr),0⟩:fI),0,(⟨0,[],(⟨false,(0:j),(0:j)⟩:Addr),0,0,0,[],[],[]⟩:gE)⟩:oA),0,false⟩:gD),false) else
(part F.gD v1 (AO (v1+1))).bind λJ=>
(IQ J).bind λK=>
(mu K 0).bind λM=> some (M,true)
def IY (J:ls)(K:fI):O (gD×C):= AB (τ:=Unit) (λM=> AI (σ:=Unit) (λ_=> M ()
) (λF (H:gD) i4 _=> if (fI.wa H.oA.fI K) then some (H,true) else F ()
) J.gD 0 ()
) λ_=> some ((⟨(⟨(⟨(⟨false,(0:j),(0:j)⟩:Addr),0⟩:fI),0,(⟨0,[],(⟨false,(0:j),(0:j)⟩:Addr),0,0,0,[],[],[]⟩:gE)⟩:oA),0,false⟩:gD),false)
def GU (a0:I Int):O C:=
(Gp a0).bind λv1=>
(Cj v1).bind λ(v2,v3,v4)=>
(Bf v4 v3.lf.tS).bind λ(v5,v6)=>
(Dm v2 v3 v5).bind λ(v7,v8)=> if (v8 !=0) then AB (τ:=C) (λk9=> if (v8==31) then if (cond true (!v3.Up) false) then
(C4).bind λa8=> k9 (cond true a8 false) else if (cond false true (v8==34)) then
(C4).bind λaa=> k9 (cond true aa false) else k9 false else if (cond false true (v8==34)) then
(C4).bind λab=> k9 (cond true ab false) else k9 false
) λae=> some ae else
(Dm v2 v7 v5).bind λ(af,ag)=> AB (τ:=C) (λJ=> if (ag !=0) then J true else
(HA af v7).bind λah=> if (cond false true (!ah)) then J true else
(Da v7).bind λai=> if (cond false true (!ai)) then J true else
(HM v5).bind λaj=> J (cond false true (!aj))
) λak=> if ak then some false else
(Fb v3 v7).bind λal=> AB (τ:=Unit) (λan=> AI (σ:=Unit) (λ_=> an ()
) (λK (M:fI) i25 _=> AB (τ:=Unit) (λao=>
(EE v7 M).bind λ(v27,v28)=>
(IY v3 M).bind λ(v29,v30)=> AB (τ:=C) (λap=> AI (σ:=C) (λU=> ap U
) (λP (aq:fI) i35 U=> AB (τ:=C) (λa1=> if U then a1 true else a1 (cond false true (fI.wa M aq))
) λar=> P ar
) v5.fT 0 false
) λV=> AB (τ:=C) (λau=> AI (σ:=C) (λY=> au Y
) (λQ (ax:fI) i43 Y=> AB (τ:=C) (λa6=> if Y then a6 true else a6 (cond false true (fI.wa M ax))
) λay=> Q ay
) v5.gS 0 false
) λa7=> AB (τ:=C) (λF=> if V then if (!v28) then F true else if (cond false true v27.vq) then F true else
(HI v2 v3.lf v27.oA).bind λaz=> if (cond false true (v27.vj !=az)) then F true else
(DN v27.oA.gE v5.gE).bind λb0=> F (cond true (cond false true (!b0)) false) else F false
) λba=> if ba then some false else AB (τ:=C) (λZ=> if (!V) then if (cond true a7 false) then Z (cond true v28 false) else Z false else Z false
) λbb=> if bb then some false else AB (τ:=C) (λH=> if (!V) then if (cond true (!a7) false) then if (!(v28==v30)) then H true else if (cond false true (!(v27.vq==v29.vq))) then H true else
(Bd v27.oA v29.oA).bind λbc=> H (cond true (cond false true (!bc)) false) else H false else H false
) λbd=> if bd then some false else ao ()
) λ_=> K ()
) al 0 ()
) λ_=> some true
def Fa (H:ls)(J:fI):O (oA×C):=
(EE H J).bind λ(v1,v2)=> AB (τ:=C) (λF=> if (!v2) then F true else F (cond false true (v1.vj !=0))
) λK=> if K then some ((⟨(⟨(⟨false,(0:j),(0:j)⟩:Addr),0⟩:fI),0,(⟨0,[],(⟨false,(0:j),(0:j)⟩:Addr),0,0,0,[],[],[]⟩:gE)⟩:oA),false) else some (v1.oA,true)
def GL (H:ls)(J:fI):O (oA×C):=
(IY H J).bind λ(v1,v2)=> AB (τ:=C) (λF=> if v2 then F (cond true (v1.vj==0) false) else F false
) λK=> if K then some (v1.oA,true) else some ((⟨(⟨(⟨false,(0:j),(0:j)⟩:Addr),0⟩:fI),0,(⟨0,[],(⟨false,(0:j),(0:j)⟩:Addr),0,0,0,[],[],[]⟩:gE)⟩:oA),false)
def GV (a0:ls)(a1:I Int)(a2:Int)(a3:Int)(a4:Int)(a5:fI):O C:=
(GQ a0).bind λv1=> if (!v1) then
(C4).bind λv2=> some v2 else
(Gp a1).bind λv3=>
(Cj v3).bind λ(v4,v5,v6)=>
(GR v5 a2 a3 a4).bind λv7=> AB (τ:=Unit) (λk8=> AI (σ:=r9) (λv9=> k8 ()
) (λJ (F:ls) i12 v9=> AB (τ:=r9) (λQ=>
(E0 F).bind λU=>
(Da F).bind λV=> if (!(U==V)) then some false else
(Bz v9).bind λ(Y,v17)=>
(Bz v17).bind λ(Z,a6)=> AB (τ:=Unit) (λa7=> AI (σ:=Unit) (λ_=> a7 ()
) (λK (M:fI) i23 _=>
(EE F M).bind λ(v24,v25)=>
(IY F M).bind λ(v26,v27)=>
(Fa F M).bind λ(v28,v29)=>
(GL F M).bind λ(v30,v31)=> AB (τ:=C) (λH=>
(Da F).bind λa8=> if a8 then if (!(v25==v27)) then H true else if (cond false true (v24.vj !=v26.vj)) then H true else if (cond false true (!(v24.vq==v26.vq))) then H true else
(Bd v24.oA v26.oA).bind λaa=> if (cond false true (!aa)) then H true else if (cond false true (!(v29==v31))) then H true else
(Bd v28 v30).bind λab=> H (cond true (cond false true (!ab)) false) else H false
) λae=> if ae then some false else K ()
) ([a5,Y,Z]:I fI) 0 ()
) λ_=> Q a6
) λaf=> J af
) ([a0,v5,v7]:I ls) 0 v6
) λ_=> AB (τ:=C) (λP=>
(Ji v5.lf).bind λag=>
(FV v5.lf).bind λah=>
(HA ag ah).bind λai=> if ai then
(C4).bind λaj=> P (cond true aj false) else P false
) λak=> some ak
def J4 (K:ls)(M:Int)(J:Int):O (ls×Int):= AB (τ:=C) (λH=>
(E0 K).bind λv2=> if (!v2) then H true else if (cond false true (decide (M<0))) then H true else if (cond false true (decide (M>1073741824))) then H true else if (cond false true (decide (J<0))) then H true else H (cond false true (decide (J>4095)))
) λv3=> if v3 then some ((⟨(⟨0,Xac,0,0,[]⟩:lf),false,[],0⟩:ls),1) else if (!K.Up) then some ((⟨(⟨0,Xac,0,0,[]⟩:lf),false,[],0⟩:ls),31) else
(HE K).bind λY=> AB (τ:=(I gD)) (λZ=> if (J==0) then Z [] else Z Y.gD
) λv6=> AB (τ:=(I gD)) (λk7=> BD (σ:=Int×(I gD)) (λF (v9,v10)=> if (decide (v9<(v6.length:Int))) then
(mu v10 v9).bind λP=>
(wj v10 v9 ({ P with vq:=true })).bind λQ=> F ((AO (v9+1)),Q) else k7 v10
) tE (0,v6)
) λU=>
(CB (⟨Y.lf,false,U,(AO (M+J))⟩:ls)).bind λV=> some (V,0)
def EX (H:gD)(J:Int):O (C×Int):= AB (τ:=C) (λF=> if H.vq then if (J==0) then if (cond true H.oA.fI.Addr.V6 false) then F (!true) else if (J==1) then F (cond true (!(cond false true (cond true (!H.oA.fI.Addr.V6) false))) false) else F (!false) else if (J==1) then F (cond true (!(cond false true (cond true (!H.oA.fI.Addr.V6) false))) false) else F (!false) else F false
) λv2=> some (v2,J)
def BG (K:I gD)(H:Int):O (Int×Int):= AB (τ:=Int) (λM=> AI (σ:=Int) (λv2=> M v2
) (λF (P:gD) Q v2=>
(EX P v2).bind λ(v6,J)=> if v6 then some ((Q:Int),J) else F J
) K 0 H
) λU=> some ((-1),U)
def A0 (P:I gD)(K:Int):O ((I gD)×Int):=
(BG P K).bind λ(v1,v2)=> if (v1==(-1)) then some (P,v2) else AB (τ:=Int×(I gD)×Int) (λk3=> BD (σ:=Int×Int×(I gD)×Int) (λH (v5,v6,J,v8)=> if (decide (v6<(J.length:Int))) then
(mu J v6).bind λv9=>
(EX v9 v8).bind λ(v10,v11)=> AB (τ:=Int×(I gD)) (λM=> if (!v10) then
(mu J v5).bind λa1=>
(wj J v5 v9).bind λQ=> M ((AO (v5+1)),Q) else M (v5,J)
) λ(U,V)=> H (U,(AO (v6+1)),V,v11) else k3 (v5,J,v8)
) tE (v1,(AO (v1+1)),P,v2)
) λ(v17,F,Y)=>
(wQ (0<=v17/\v17<=(F.length:Int)/\(F.length:Int)<=(F.length:Int))).bind λ_=>
(part (Xbx (Wo v17) F++Xav (Wo (F.length:Int)-Wo v17) (⟨(⟨(⟨(⟨false,(0:j),(0:j)⟩:Addr),0⟩:fI),0,(⟨0,[],(⟨false,(0:j),(0:j)⟩:Addr),0,0,0,[],[],[]⟩:gE)⟩:oA),0,false⟩:gD)++Xc2 ((Wo v17)+(Wo (F.length:Int)-Wo v17)) F) 0 v17).bind λZ=> some (Z,Y)
def I6 (F:ls)(H:Int):O ls:=
(HE F).bind λv1=>
(A0 v1.gD H).bind λ(v2,v3)=>
(CB ({ v1 with gD:=v2 })).bind λJ=> some J
def FC (a0:I Int)(a1:Int):O C:=
(Gp a0).bind λv1=>
(Cj v1).bind λ(v2,v3,v4)=> if (!v3.Up) then
(C4).bind λv5=> some v5 else
(HH v3 2).bind λv6=>
(J4 v6 10 30).bind λ(v7,v8)=> if (v8 !=0) then some false else AB (τ:=Unit) (λk9=> AI (σ:=Unit) (λ_=> k9 ()
) (λH (V:gD) i12 _=>
(EE v7 V.oA.fI).bind λ(Y,aa)=> AB (τ:=C) (λP=> if (!aa) then P true else if (cond false true (!Y.vq)) then P true else
(Bd Y.oA V.oA).bind λab=> P (cond false true (!ab))
) λae=> if ae then some false else H ()
) v6.gD 0 ()
) λ_=>
(HG v7).bind λ(af,ag)=> if (ag !=0) then some false else AB (τ:=ls) (λah=> AI (σ:=ls) (λJ=> ah J
) (λK (Z:gD) ai J=> AB (τ:=ls) (λa6=> if ((AO ((Xa2 64 (Xas a1 (2^(min (Wo ((AT (Xed (ai:Int) 60)).toNat:Int)) 64))) &&& Xa2 64 1).toNat:Int))==1) then
(Dm v2 J (⟨[],Z.oA.gE,([Z.oA.fI]:I fI)⟩:tT)).bind λ(v26,v27)=> if (v27 !=0) then some false else a6 v26 else a6 J
) λaj=> K aj
) v6.gD 0 af
) λak=>
(I6 ak 2).bind λQ=> AB (τ:=C) (λa7=> if (Q.oX !=0) then a7 true else a7 (cond false true (!Q.Up))
) λal=> if al then some false else AB (τ:=Unit) (λan=> AI (σ:=Unit) (λ_=> an ()
) (λM (U:gD) ao _=>
(EE Q U.oA.fI).bind λ(v37,a8)=> AB (τ:=C) (λF=> if (!(a8==((AO ((Xa2 64 (Xas a1 (2^(min (Wo ((AT (Xed (ao:Int) 60)).toNat:Int)) 64))) &&& Xa2 64 1).toNat:Int))==1))) then F true else if a8 then if v37.vq then F true else if (cond false true (v37.vj !=U.vj)) then F true else
(Bd v37.oA U.oA).bind λap=> F (cond false true (cond true (cond false true (!ap)) false)) else F false
) λaq=> if aq then some false else M ()
) v6.gD 0 ()
) λ_=> some true
end Go.AX.Q25
end
