/-
  Texts of one proof, packed.
-/
import Derived.Test.YtppcmaidcgimpaaGreatDoorS14
import Derived.Test.YtppcmaidcgimpaaGreatDoorS15
import Derived.Test.YtppcmaidcgimpaaGreatDoorS16
set_option linter.all false
set_option maxRecDepth 100000
set_option maxHeartbeats 4000000
open List renaming length_map→X6,length_append→X10,length_drop→X16,length_take→X17,length_replicate→X19,length_set→X20
open Option renaming getD→Xbk
open Int renaming toNat→Xi,fdiv→Xay
open List renaming cons→Xt,replicate→Xal,take→Xbg,drop→Xbh,toArray→Xcf,nil→Xdr
open BitVec renaming ofInt→Xq
open Go renaming maxLen→Xb6,reachBytes→Xbc
open ByteArray renaming empty→Xa4,mk→Xce
section
namespace Go.AX.Q25
open Go Go.AX
def HS:I (Int×Int):=[(1,64),(2,64),(3,64),(4,128),(5,64),(8,192),(32,192),(35,192)]
structure oA where
  Set:Bool
  lf:List Int
def oA.fv (x:oA):D:=.agg [D.b x.Set,D.l 1 D.i x.lf]
def oA.av (x:oA):I AV:=[.d (D.b x.Set),.d (D.l 1 D.i x.lf)]
def oA.zv:I AV:=[.d (D.b false),.d (D.nil 1)]
def oA.wf (x:oA):Prop:=True/\(x.lf.length<=Xb6/\x.lf.length*8<=Xbc/\∀y0∈x.lf,r7 y0)/\True
structure Addr where
  V6:Bool
  Hi:UInt64
  Lo:UInt64
def Addr.fv (x:Addr):D:=.agg [D.b x.V6,D.u64 x.Hi,D.u64 x.Lo]
def Addr.av (x:Addr):I AV:=[.d (D.b x.V6),.d (D.u64 x.Hi),.d (D.u64 x.Lo)]
def Addr.zv:I AV:=[.d (D.b false),.d (D.u64 (0:j)),.d (D.u64 (0:j))]
def Addr.wf (x:Addr):Prop:=True/\True/\True/\True
def Addr.qK (x y:Addr):C:=((x.V6==y.V6)&&(((x.Hi.toNat:Int)==(y.Hi.toNat:Int))&&(((x.Lo.toNat:Int)==(y.Lo.toNat:Int))&&true)))
structure oF where
  A:Int
  B:Int
def oF.fv (x:oF):D:=.agg [D.i x.A,D.i x.B]
def oF.av (x:oF):I AV:=[.d (D.i x.A),.d (D.i x.B)]
def oF.zv:I AV:=[.d (D.i 0),.d (D.i 0)]
def oF.wf (x:oF):Prop:=r7 x.A/\r7 x.B/\True
def oF.qK (x y:oF):C:=((x.A==y.A)&&((x.B==y.B)&&true))
structure ls where
  A:Int
  B:Int
  C:Int
def ls.fv (x:ls):D:=.agg [D.i x.A,D.i x.B,D.i x.C]
def ls.av (x:ls):I AV:=[.d (D.i x.A),.d (D.i x.B),.d (D.i x.C)]
def ls.zv:I AV:=[.d (D.i 0),.d (D.i 0),.d (D.i 0)]
def ls.wf (x:ls):Prop:=r7 x.A/\r7 x.B/\r7 x.C/\True
def ls.qK (x y:ls):Bool:=((x.A==y.A)&&((x.B==y.B)&&((x.C==y.C)&&true)))
structure gF where
  Flags:Int
  hB:Int
  Data:List UInt8
def gF.fv (x:gF):D:=.agg [D.i x.Flags,D.i x.hB,D.l 1 D.u8 x.Data]
def gF.av (x:gF):I AV:=[.d (D.i x.Flags),.d (D.i x.hB),.d (D.l 1 D.u8 x.Data)]
def gF.zv:I AV:=[.d (D.i 0),.d (D.i 0),.d (D.nil 1)]
def gF.wf (x:gF):Prop:=r7 x.Flags/\r7 x.hB/\(x.Data.length<=Xb6/\x.Data.length*1<=Xbc/\∀y0∈x.Data,True)/\True
structure gE where
  gT:Int
  Path:List oA
  Next:Addr
  qW:Int
  qd:Int
  qz:Int
  cW:List oF
  ls:List ls
  gS:List gF
def gE.fv (x:gE):D:=.agg [D.i x.gT,D.l 2 oA.fv x.Path,D.b x.Next.V6,D.u64 x.Next.Hi,D.u64 x.Next.Lo,D.i x.qW,D.i x.qd,D.i x.qz,D.l 2 oF.fv x.cW,D.l 3 ls.fv x.ls,D.l 3 gF.fv x.gS]
def gE.av (x:gE):I AV:=[.d (D.i x.gT),.d (D.l 2 oA.fv x.Path),.d (D.b x.Next.V6),.d (D.u64 x.Next.Hi),.d (D.u64 x.Next.Lo),.d (D.i x.qW),.d (D.i x.qd),.d (D.i x.qz),.d (D.l 2 oF.fv x.cW),.d (D.l 3 ls.fv x.ls),.d (D.l 3 gF.fv x.gS)]
def gE.zv:I AV:=[.d (D.i 0),.d (D.nil 2),.d (D.b false),.d (D.u64 (0:j)),.d (D.u64 (0:j)),.d (D.i 0),.d (D.i 0),.d (D.i 0),.d (D.nil 2),.d (D.nil 3),.d (D.nil 3)]
def gE.wf (x:gE):Prop:=r7 x.gT/\(x.Path.length<=Xb6/\x.Path.length*32<=Xbc/\∀y0∈x.Path,oA.wf y0)/\Addr.wf x.Next/\r7 x.qW/\r7 x.qd/\r7 x.qz/\(x.cW.length<=Xb6/\x.cW.length*16<=Xbc/\∀y0∈x.cW,oF.wf y0)/\(x.ls.length<=Xb6/\x.ls.length*24<=Xbc/\∀y0∈x.ls,ls.wf y0)/\(x.gS.length<=Xb6/\x.gS.length*40<=Xbc/\∀y0∈x.gS,gF.wf y0)/\True
structure kI where
  ql:Int
  Set:ByteArray
  qh:Int
  qg:Int
  oE:List Addr
def kI.fv (x:kI):D:=.agg [D.i x.ql,D.s x.Set,D.i x.qh,D.i x.qg,D.l 3 Addr.fv x.oE]
def kI.av (x:kI):I AV:=[.d (D.i x.ql),.d (D.s x.Set),.d (D.i x.qh),.d (D.i x.qg),.d (D.l 3 Addr.fv x.oE)]
def kI.zv:I AV:=[.d (D.i 0),.d (D.s Xa4),.d (D.i 0),.d (D.i 0),.d (D.nil 3)]
def kI.wf (x:kI):Prop:=r7 x.ql/\(x.Set.size<=Xb6/\x.Set.size<=Xbc)/\r7 x.qh/\r7 x.qg/\(x.oE.length<=Xb6/\x.oE.length*24<=Xbc/\∀y0∈x.oE,Addr.wf y0)/\True
structure fI where
  Addr:Addr
  qo:Int
def fI.fv (x:fI):D:=.agg [D.b x.Addr.V6,D.u64 x.Addr.Hi,D.u64 x.Addr.Lo,D.i x.qo]
def fI.av (x:fI):I AV:=[.d (D.b x.Addr.V6),.d (D.u64 x.Addr.Hi),.d (D.u64 x.Addr.Lo),.d (D.i x.qo)]
def fI.zv:I AV:=[.d (D.b false),.d (D.u64 (0:j)),.d (D.u64 (0:j)),.d (D.i 0)]
def fI.wf (x:fI):Prop:=Addr.wf x.Addr/\r7 x.qo/\True
def fI.qK (x y:fI):C:=(((x.Addr.V6==y.Addr.V6)&&(((x.Addr.Hi.toNat:Int)==(y.Addr.Hi.toNat:Int))&&(((x.Addr.Lo.toNat:Int)==(y.Addr.Lo.toNat:Int))&&true)))&&((x.qo==y.qo)&&true))
structure o3 where
  fI:fI
  qM:Int
  gE:gE
def o3.fv (x:o3):D:=.agg [D.b x.fI.Addr.V6,D.u64 x.fI.Addr.Hi,D.u64 x.fI.Addr.Lo,D.i x.fI.qo,D.i x.qM,D.i x.gE.gT,D.l 2 oA.fv x.gE.Path,D.b x.gE.Next.V6,D.u64 x.gE.Next.Hi,D.u64 x.gE.Next.Lo,D.i x.gE.qW,D.i x.gE.qd,D.i x.gE.qz,D.l 2 oF.fv x.gE.cW,D.l 3 ls.fv x.gE.ls,D.l 3 gF.fv x.gE.gS]
def o3.av (x:o3):I AV:=[.d (D.b x.fI.Addr.V6),.d (D.u64 x.fI.Addr.Hi),.d (D.u64 x.fI.Addr.Lo),.d (D.i x.fI.qo),.d (D.i x.qM),.d (D.i x.gE.gT),.d (D.l 2 oA.fv x.gE.Path),.d (D.b x.gE.Next.V6),.d (D.u64 x.gE.Next.Hi),.d (D.u64 x.gE.Next.Lo),.d (D.i x.gE.qW),.d (D.i x.gE.qd),.d (D.i x.gE.qz),.d (D.l 2 oF.fv x.gE.cW),.d (D.l 3 ls.fv x.gE.ls),.d (D.l 3 gF.fv x.gE.gS)]
def o3.zv:I AV:=[.d (D.b false),.d (D.u64 (0:j)),.d (D.u64 (0:j)),.d (D.i 0),.d (D.i 0),.d (D.i 0),.d (D.nil 2),.d (D.b false),.d (D.u64 (0:j)),.d (D.u64 (0:j)),.d (D.i 0),.d (D.i 0),.d (D.i 0),.d (D.nil 2),.d (D.nil 3),.d (D.nil 3)]
def o3.wf (x:o3):Prop:=fI.wf x.fI/\r7 x.qM/\gE.wf x.gE/\True
structure fT where
  o3:o3
  qx:Int
  qA:Bool
def fT.fv (x:fT):D:=.agg [D.b x.o3.fI.Addr.V6,D.u64 x.o3.fI.Addr.Hi,D.u64 x.o3.fI.Addr.Lo,D.i x.o3.fI.qo,D.i x.o3.qM,D.i x.o3.gE.gT,D.l 2 oA.fv x.o3.gE.Path,D.b x.o3.gE.Next.V6,D.u64 x.o3.gE.Next.Hi,D.u64 x.o3.gE.Next.Lo,D.i x.o3.gE.qW,D.i x.o3.gE.qd,D.i x.o3.gE.qz,D.l 2 oF.fv x.o3.gE.cW,D.l 3 ls.fv x.o3.gE.ls,D.l 3 gF.fv x.o3.gE.gS,D.i x.qx,D.b x.qA]
def fT.av (x:fT):I AV:=[.d (D.b x.o3.fI.Addr.V6),.d (D.u64 x.o3.fI.Addr.Hi),.d (D.u64 x.o3.fI.Addr.Lo),.d (D.i x.o3.fI.qo),.d (D.i x.o3.qM),.d (D.i x.o3.gE.gT),.d (D.l 2 oA.fv x.o3.gE.Path),.d (D.b x.o3.gE.Next.V6),.d (D.u64 x.o3.gE.Next.Hi),.d (D.u64 x.o3.gE.Next.Lo),.d (D.i x.o3.gE.qW),.d (D.i x.o3.gE.qd),.d (D.i x.o3.gE.qz),.d (D.l 2 oF.fv x.o3.gE.cW),.d (D.l 3 ls.fv x.o3.gE.ls),.d (D.l 3 gF.fv x.o3.gE.gS),.d (D.i x.qx),.d (D.b x.qA)]
def fT.zv:I AV:=[.d (D.b false),.d (D.u64 (0:j)),.d (D.u64 (0:j)),.d (D.i 0),.d (D.i 0),.d (D.i 0),.d (D.nil 2),.d (D.b false),.d (D.u64 (0:j)),.d (D.u64 (0:j)),.d (D.i 0),.d (D.i 0),.d (D.i 0),.d (D.nil 2),.d (D.nil 3),.d (D.nil 3),.d (D.i 0),.d (D.b false)]
def fT.wf (x:fT):Prop:=o3.wf x.o3/\r7 x.qx/\True/\True
structure iA where
  kI:kI
  Up:Bool
  fT:List fT
  oT:Int
def iA.fv (x:iA):D:=.agg [D.i x.kI.ql,D.s x.kI.Set,D.i x.kI.qh,D.i x.kI.qg,D.l 3 Addr.fv x.kI.oE,D.b x.Up,D.l 18 fT.fv x.fT,D.i x.oT]
def iA.av (x:iA):I AV:=[.d (D.i x.kI.ql),.d (D.s x.kI.Set),.d (D.i x.kI.qh),.d (D.i x.kI.qg),.d (D.l 3 Addr.fv x.kI.oE),.d (D.b x.Up),.d (D.l 18 fT.fv x.fT),.d (D.i x.oT)]
def iA.zv:I AV:=[.d (D.i 0),.d (D.s Xa4),.d (D.i 0),.d (D.i 0),.d (D.nil 3),.d (D.b false),.d (D.nil 18),.d (D.i 0)]
def iA.wf (x:iA):Prop:=kI.wf x.kI/\True/\(x.fT.length<=Xb6/\x.fT.length*208<=Xbc/\∀y0∈x.fT,fT.wf y0)/\r7 x.oT/\True
structure sB where
  e0:Int
  e1:Int
def sB.fv (x:sB):D:=.agg [D.i x.e0,D.i x.e1]
def sB.av (x:sB):I AV:=[.d (D.i x.e0),.d (D.i x.e1)]
def sB.zv:I AV:=[.d (D.i 0),.d (D.i 0)]
def sB.wf (x:sB):Prop:=r7 x.e0/\r7 x.e1/\True
structure rc where
  qM:Int
  To:Int
def rc.fv (x:rc):D:=.agg [D.i x.qM,D.i x.To]
def rc.av (x:rc):I AV:=[.d (D.i x.qM),.d (D.i x.To)]
def rc.zv:I AV:=[.d (D.i 0),.d (D.i 0)]
def rc.wf (x:rc):Prop:=r7 x.qM/\r7 x.To/\True
def rc.qK (x y:rc):C:=((x.qM==y.qM)&&((x.To==y.To)&&true))
structure oB where
  fI:fI
  Max:Int
  ql:Int
def oB.fv (x:oB):D:=.agg [D.b x.fI.Addr.V6,D.u64 x.fI.Addr.Hi,D.u64 x.fI.Addr.Lo,D.i x.fI.qo,D.i x.Max,D.i x.ql]
def oB.av (x:oB):I AV:=[.d (D.b x.fI.Addr.V6),.d (D.u64 x.fI.Addr.Hi),.d (D.u64 x.fI.Addr.Lo),.d (D.i x.fI.qo),.d (D.i x.Max),.d (D.i x.ql)]
def oB.zv:I AV:=[.d (D.b false),.d (D.u64 (0:j)),.d (D.u64 (0:j)),.d (D.i 0),.d (D.i 0),.d (D.i 0)]
def oB.wf (x:oB):Prop:=fI.wf x.fI/\r7 x.Max/\r7 x.ql/\True
def oB.qK (x y:oB):C:=((((x.fI.Addr.V6==y.fI.Addr.V6)&&(((x.fI.Addr.Hi.toNat:Int)==(y.fI.Addr.Hi.toNat:Int))&&(((x.fI.Addr.Lo.toNat:Int)==(y.fI.Addr.Lo.toNat:Int))&&true)))&&((x.fI.qo==y.fI.qo)&&true))&&((x.Max==y.Max)&&((x.ql==y.ql)&&true)))
structure Set where
  Name:ByteArray
  lf:List Int
  pk:List ByteArray
def Set.fv (x:Set):D:=.agg [D.s x.Name,D.l 1 D.i x.lf,D.l 1 D.s x.pk]
def Set.av (x:Set):I AV:=[.d (D.s x.Name),.d (D.l 1 D.i x.lf),.d (D.l 1 D.s x.pk)]
def Set.zv:I AV:=[.d (D.s Xa4),.d (D.nil 1),.d (D.nil 1)]
def Set.wf (x:Set):Prop:=(x.Name.size<=Xb6/\x.Name.size<=Xbc)/\(x.lf.length<=Xb6/\x.lf.length*8<=Xbc/\∀y0∈x.lf,r7 y0)/\(x.pk.length<=Xb6/\x.pk.length*16<=Xbc/\∀y0∈x.pk,(y0.size<=Xb6/\y0.size<=Xbc))/\True
structure qS where
  pk:List Set
  oX:List oB
def qS.fv (x:qS):D:=.agg [D.l 3 Set.fv x.pk,D.l 6 oB.fv x.oX]
def qS.av (x:qS):I AV:=[.d (D.l 3 Set.fv x.pk),.d (D.l 6 oB.fv x.oX)]
def qS.zv:I AV:=[.d (D.nil 3),.d (D.nil 6)]
def qS.wf (x:qS):Prop:=(x.pk.length<=Xb6/\x.pk.length*64<=Xbc/\∀y0∈x.pk,Set.wf y0)/\(x.oX.length<=Xb6/\x.oX.length*48<=Xbc/\∀y0∈x.oX,oB.wf y0)/\True
structure qI where
  tg:Int
  rD:List fI
  sd:Int
  qh:Int
  s8:Int
  qg:Int
  rK:Int
  rM:Int
  qF:List fI
  qp:List rc
  qX:List Int
  sf:Int
  qS:qS
  qi:List oB
def qI.fv (x:qI):D:=.agg [D.i x.tg,D.l 4 fI.fv x.rD,D.i x.sd,D.i x.qh,D.i x.s8,D.i x.qg,D.i x.rK,D.i x.rM,D.l 4 fI.fv x.qF,D.l 2 rc.fv x.qp,D.l 1 D.i x.qX,D.i x.sf,D.l 3 Set.fv x.qS.pk,D.l 6 oB.fv x.qS.oX,D.l 6 oB.fv x.qi]
def qI.av (x:qI):I AV:=[.d (D.i x.tg),.d (D.l 4 fI.fv x.rD),.d (D.i x.sd),.d (D.i x.qh),.d (D.i x.s8),.d (D.i x.qg),.d (D.i x.rK),.d (D.i x.rM),.d (D.l 4 fI.fv x.qF),.d (D.l 2 rc.fv x.qp),.d (D.l 1 D.i x.qX),.d (D.i x.sf),.d (D.l 3 Set.fv x.qS.pk),.d (D.l 6 oB.fv x.qS.oX),.d (D.l 6 oB.fv x.qi)]
def qI.zv:I AV:=[.d (D.i 0),.d (D.nil 4),.d (D.i 0),.d (D.i 0),.d (D.i 0),.d (D.i 0),.d (D.i 0),.d (D.i 0),.d (D.nil 4),.d (D.nil 2),.d (D.nil 1),.d (D.i 0),.d (D.nil 3),.d (D.nil 6),.d (D.nil 6)]
def qI.wf (x:qI):Prop:=r7 x.tg/\(x.rD.length<=Xb6/\x.rD.length*32<=Xbc/\∀y0∈x.rD,fI.wf y0)/\r7 x.sd/\r7 x.qh/\r7 x.s8/\r7 x.qg/\r7 x.rK/\r7 x.rM/\(x.qF.length<=Xb6/\x.qF.length*32<=Xbc/\∀y0∈x.qF,fI.wf y0)/\(x.qp.length<=Xb6/\x.qp.length*16<=Xbc/\∀y0∈x.qp,rc.wf y0)/\(x.qX.length<=Xb6/\x.qX.length*8<=Xbc/\∀y0∈x.qX,r7 y0)/\r7 x.sf/\qS.wf x.qS/\(x.qi.length<=Xb6/\x.qi.length*48<=Xbc/\∀y0∈x.qi,oB.wf y0)/\True
structure qC where
  mu:List fI
  gE:gE
  gO:List fI
def qC.fv (x:qC):D:=.agg [D.l 4 fI.fv x.mu,D.i x.gE.gT,D.l 2 oA.fv x.gE.Path,D.b x.gE.Next.V6,D.u64 x.gE.Next.Hi,D.u64 x.gE.Next.Lo,D.i x.gE.qW,D.i x.gE.qd,D.i x.gE.qz,D.l 2 oF.fv x.gE.cW,D.l 3 ls.fv x.gE.ls,D.l 3 gF.fv x.gE.gS,D.l 4 fI.fv x.gO]
def qC.av (x:qC):I AV:=[.d (D.l 4 fI.fv x.mu),.d (D.i x.gE.gT),.d (D.l 2 oA.fv x.gE.Path),.d (D.b x.gE.Next.V6),.d (D.u64 x.gE.Next.Hi),.d (D.u64 x.gE.Next.Lo),.d (D.i x.gE.qW),.d (D.i x.gE.qd),.d (D.i x.gE.qz),.d (D.l 2 oF.fv x.gE.cW),.d (D.l 3 ls.fv x.gE.ls),.d (D.l 3 gF.fv x.gE.gS),.d (D.l 4 fI.fv x.gO)]
def qC.zv:I AV:=[.d (D.nil 4),.d (D.i 0),.d (D.nil 2),.d (D.b false),.d (D.u64 (0:j)),.d (D.u64 (0:j)),.d (D.i 0),.d (D.i 0),.d (D.i 0),.d (D.nil 2),.d (D.nil 3),.d (D.nil 3),.d (D.nil 4)]
def qC.wf (x:qC):Prop:=(x.mu.length<=Xb6/\x.mu.length*32<=Xbc/\∀y0∈x.mu,fI.wf y0)/\gE.wf x.gE/\(x.gO.length<=Xb6/\x.gO.length*32<=Xbc/\∀y0∈x.gO,fI.wf y0)/\True
structure qR where
  f:qI
  p:kI
  r:o3
  path:List Int
  origin:Int
  hole:Bool
def qR.fv (x:qR):D:=.agg [D.i x.f.tg,D.l 4 fI.fv x.f.rD,D.i x.f.sd,D.i x.f.qh,D.i x.f.s8,D.i x.f.qg,D.i x.f.rK,D.i x.f.rM,D.l 4 fI.fv x.f.qF,D.l 2 rc.fv x.f.qp,D.l 1 D.i x.f.qX,D.i x.f.sf,D.l 3 Set.fv x.f.qS.pk,D.l 6 oB.fv x.f.qS.oX,D.l 6 oB.fv x.f.qi,D.i x.p.ql,D.s x.p.Set,D.i x.p.qh,D.i x.p.qg,D.l 3 Addr.fv x.p.oE,D.b x.r.fI.Addr.V6,D.u64 x.r.fI.Addr.Hi,D.u64 x.r.fI.Addr.Lo,D.i x.r.fI.qo,D.i x.r.qM,D.i x.r.gE.gT,D.l 2 oA.fv x.r.gE.Path,D.b x.r.gE.Next.V6,D.u64 x.r.gE.Next.Hi,D.u64 x.r.gE.Next.Lo,D.i x.r.gE.qW,D.i x.r.gE.qd,D.i x.r.gE.qz,D.l 2 oF.fv x.r.gE.cW,D.l 3 ls.fv x.r.gE.ls,D.l 3 gF.fv x.r.gE.gS,D.l 1 D.i x.path,D.i x.origin,D.b x.hole]
def qR.av (x:qR):I AV:=[.d (D.i x.f.tg),.d (D.l 4 fI.fv x.f.rD),.d (D.i x.f.sd),.d (D.i x.f.qh),.d (D.i x.f.s8),.d (D.i x.f.qg),.d (D.i x.f.rK),.d (D.i x.f.rM),.d (D.l 4 fI.fv x.f.qF),.d (D.l 2 rc.fv x.f.qp),.d (D.l 1 D.i x.f.qX),.d (D.i x.f.sf),.d (D.l 3 Set.fv x.f.qS.pk),.d (D.l 6 oB.fv x.f.qS.oX),.d (D.l 6 oB.fv x.f.qi),.d (D.i x.p.ql),.d (D.s x.p.Set),.d (D.i x.p.qh),.d (D.i x.p.qg),.d (D.l 3 Addr.fv x.p.oE),.d (D.b x.r.fI.Addr.V6),.d (D.u64 x.r.fI.Addr.Hi),.d (D.u64 x.r.fI.Addr.Lo),.d (D.i x.r.fI.qo),.d (D.i x.r.qM),.d (D.i x.r.gE.gT),.d (D.l 2 oA.fv x.r.gE.Path),.d (D.b x.r.gE.Next.V6),.d (D.u64 x.r.gE.Next.Hi),.d (D.u64 x.r.gE.Next.Lo),.d (D.i x.r.gE.qW),.d (D.i x.r.gE.qd),.d (D.i x.r.gE.qz),.d (D.l 2 oF.fv x.r.gE.cW),.d (D.l 3 ls.fv x.r.gE.ls),.d (D.l 3 gF.fv x.r.gE.gS),.d (D.l 1 D.i x.path),.d (D.i x.origin),.d (D.b x.hole)]
def qR.zv:I AV:=[.d (D.i 0),.d (D.nil 4),.d (D.i 0),.d (D.i 0),.d (D.i 0),.d (D.i 0),.d (D.i 0),.d (D.i 0),.d (D.nil 4),.d (D.nil 2),.d (D.nil 1),.d (D.i 0),.d (D.nil 3),.d (D.nil 6),.d (D.nil 6),.d (D.i 0),.d (D.s Xa4),.d (D.i 0),.d (D.i 0),.d (D.nil 3),.d (D.b false),.d (D.u64 (0:j)),.d (D.u64 (0:j)),.d (D.i 0),.d (D.i 0),.d (D.i 0),.d (D.nil 2),.d (D.b false),.d (D.u64 (0:j)),.d (D.u64 (0:j)),.d (D.i 0),.d (D.i 0),.d (D.i 0),.d (D.nil 2),.d (D.nil 3),.d (D.nil 3),.d (D.nil 1),.d (D.i 0),.d (D.b false)]
def qR.wf (x:qR):Prop:=qI.wf x.f/\kI.wf x.p/\o3.wf x.r/\(x.path.length<=Xb6/\x.path.length*8<=Xbc/\∀y0∈x.path,r7 y0)/\r7 x.origin/\True/\True
structure uf where
  e0:Int
  e1:Int
  e2:Int
  e3:Int
  e4:Int
def uf.fv (x:uf):D:=.agg [D.i x.e0,D.i x.e1,D.i x.e2,D.i x.e3,D.i x.e4]
def uf.av (x:uf):I AV:=[.d (D.i x.e0),.d (D.i x.e1),.d (D.i x.e2),.d (D.i x.e3),.d (D.i x.e4)]
def uf.zv:I AV:=[.d (D.i 0),.d (D.i 0),.d (D.i 0),.d (D.i 0),.d (D.i 0)]
def uf.wf (x:uf):Prop:=r7 x.e0/\r7 x.e1/\r7 x.e2/\r7 x.e3/\r7 x.e4/\True
structure sj where
  reason:Int
  qq:Nat
def sj.fv (x:sj):D:=.agg [D.i x.reason,D.fn x.qq]
def sj.av (x:sj):I AV:=[.d (D.i x.reason),.d (D.fn x.qq)]
def sj.zv:I AV:=[.d (D.i 0),.d (D.val .nilFunc)]
structure px where
  L:List Int
  At:Int
def px.fv (x:px):D:=.agg [D.l 1 D.i x.L,D.i x.At]
def px.av (x:px):I AV:=[.d (D.l 1 D.i x.L),.d (D.i x.At)]
def px.zv:I AV:=[.d (D.nil 1),.d (D.i 0)]
def px.wf (x:px):Prop:=(x.L.length<=Xb6/\x.L.length*8<=Xbc/\∀y0∈x.L,r7 y0)/\r7 x.At/\True
def C3 (J:gE):O C:= AB (τ:=Int) (λU=> AH (σ:=Int) (λK=> U K
) (λF (V:oA) i5 K=> F (AQ (K+(AQ (1+(V.lf.length:Int)))))
) J.Path 0 (AQ ((AQ ((J.cW.length:Int)+(J.ls.length:Int)))+(J.gS.length:Int)))
) λY=> AB (τ:=Int) (λZ=> AH (σ:=Int) (λM=> Z M
) (λH (P:gF) i11 M=> H (AQ (M+(P.Data.length:Int)))
) J.gS 0 Y
) λQ=> some (decide (Q<=2000))
def F4 (H:iA):O C:= AB (τ:=Unit) (λK=> AH (σ:=Unit) (λ_=> K ()
) (λF (M:fT) i4 _=>
(C3 M.o3.gE).bind λP=> if (!P) then some false else F ()
) H.fT 0 ()
) λ_=> AB (τ:=C) (λJ=> if (decide ((H.fT.length:Int)<=40)) then J (cond true (decide ((H.kI.oE.length:Int)<=40)) false) else J false
) λQ=> some Q
def GX (J:iA):O C:= AB (τ:=sB) (λU=> AH (σ:=sB) (λH=> U H
) (λF (V:fT) i5 H=> AB (τ:=sB) (λP=> if V.o3.fI.Addr.V6 then P (⟨H.e0,(AQ (H.e1+1))⟩:sB) else P (⟨(AQ (H.e0+1)),H.e1⟩:sB)
) λY=> F Y
) J.fT 0 (⟨0,0⟩:sB)
) λQ=> AB (τ:=C) (λK=> if (decide (Q.e0<=J.kI.qh)) then if (cond true (decide (Q.e1<=J.kI.qg)) false) then K (cond true (decide ((J.fT.length:Int)<=256)) false) else K false else K false
) λM=> some M
def BM (F:Int)(J:Int)(K:Int):O C:= AB (τ:=C) (λH=> if (decide (F≥J)) then H (cond true (decide (F<=K)) false) else H false
) λM=> some M
def ET (F:Addr):O C:= AB (τ:=C) (λH=> if F.V6 then H true else if ((F.Hi.toNat:Int)==0) then H (cond false true (cond true (decide ((F.Lo.toNat:Int)<4294967296)) false)) else H false
) λJ=> some J
def DF (F:Addr):O C:=
(ET F).bind λH=> some (!H)
def Ae (H:I Addr):O Int:= AB (τ:=Unit) (λJ=> AH (σ:=Unit) (λ_=> J ()
) (λF (K:Addr) M _=>
(DF K).bind λP=> if P then some (M:Int) else F ()
) H 0 ()
) λ_=> some (-1)
def AW (F:I Addr):O C:=
(Ae F).bind λH=> some (decide (H≥0))
def B2 (F:kI):O C:= AB (τ:=C) (λH=>
(BM F.ql 1 4294967295).bind λJ=> if J then
(BM F.qh 0 256).bind λK=> if (cond true K false) then
(BM F.qg 0 256).bind λM=> if (cond true M false) then if (cond true (decide ((F.oE.length:Int)<=8)) false) then
(AW F.oE).bind λP=> H (cond true (!P) false) else H false else H false else H false else H false
) λQ=> some Q
def E8 (F:fT):O C:= some F.qA
def Ai (H:I fT):O Int:= AB (τ:=Unit) (λJ=> AH (σ:=Unit) (λ_=> J ()
) (λF (K:fT) M _=>
(E8 K).bind λP=> if P then some (M:Int) else F ()
) H 0 ()
) λ_=> some (-1)
def Ag (F:I fT):O C:=
(Ai F).bind λH=> some (decide (H≥0))
def FX (F:I fT):O C:=
(Ag F).bind λH=> some H
def BG (F:Addr):O Int:= if F.V6 then some 128 else some 32
def Ew (F:Int):O (j×j):= if (decide (F>64)) then some ((AY (((AY (1*(2^(min (Xi ((AY (AQ (F-64))).toNat:Int)) 64)))).toNat:Int)-1)),(18446744073709551615:j)) else some ((0:j),(AY (((AY (1*(2^(min (Xi ((AY F).toNat:Int)) 64)))).toNat:Int)-1)))
def Di (F:Addr)(H:Int):O Addr:=
(BG F).bind λJ=>
(Ew (AQ (J-H))).bind λ(v2,v3)=> some (⟨F.V6,(AY ((Xq 64 (F.Hi.toNat:Int) &&& ~~~Xq 64 (v2.toNat:Int)).toNat:Int)),(AY ((Xq 64 (F.Lo.toNat:Int) &&& ~~~Xq 64 (v3.toNat:Int)).toNat:Int))⟩:Addr)
def Bd (F:fI):O C:= AB (τ:=C) (λH=>
(ET F.Addr).bind λJ=> if J then if (cond true (decide (F.qo≥0)) false) then
(BG F.Addr).bind λK=> if (cond true (decide (F.qo<=K)) false) then
(Di F.Addr F.qo).bind λM=> H (cond true (Addr.qK M F.Addr) false) else H false else H false else H false
) λP=> some P
def Em (J:I Int):O Int:= AB (τ:=Unit) (λK=> AH (σ:=Unit) (λ_=> K ()
) (λF (H:Int) i4 _=> if (H !=0) then some H else F ()
) J 0 ()
) λ_=> some 0
def cmp_isNaN_int (F:Int):O C:= some (F !=F)
def pz (F:Int)(H:Int):O Int:=
(cmp_isNaN_int F).bind λK=>
(cmp_isNaN_int H).bind λJ=> if K then if J then some 0 else some (-1) else if J then some 1 else if (decide (F<H)) then some (-1) else if (decide (F>H)) then some 1 else some 0
def Fg (F:Addr):O Int:= if F.V6 then some 1 else some 0
def Dy (F:j):O C:= some ((F.toNat:Int) !=(F.toNat:Int))
def B1 (F:j)(H:j):O Int:=
(Dy F).bind λK=>
(Dy H).bind λJ=> if K then if J then some 0 else some (-1) else if J then some 1 else if (decide ((F.toNat:Int)<(H.toNat:Int))) then some (-1) else if (decide ((F.toNat:Int)>(H.toNat:Int))) then some 1 else some 0
def NV (F:Addr)(H:Addr):O Int:=
(Fg F).bind λJ=>
(Fg H).bind λK=>
(pz J K).bind λM=>
(B1 F.Hi H.Hi).bind λP=>
(B1 F.Lo H.Lo).bind λQ=>
(Em ([M,P,Q]:I Int)).bind λU=> some U
def Dl (F:fI)(H:fI):O Int:=
(NV F.Addr H.Addr).bind λJ=>
(pz F.qo H.qo).bind λK=>
(Em ([J,K]:I Int)).bind λM=> some M
def BL (F:Int)(J:Int)(K:Int):O C:= AB (τ:=C) (λH=> if (decide (F≥J)) then H (cond true (decide (F<=K)) false) else H false
) λM=> some M
def CZ (F:Int):O C:= AB (τ:=C) (λH=> if (decide (F≥1)) then H (cond true (decide (F<=4294967295)) false) else H false
) λJ=> some J
def D6 (a0:I oA):O C:= AB (τ:=Int) (λk1=> AH (σ:=Int) (λU=> k1 U
) (λJ (K:oA) i5 U=> AB (τ:=Unit) (λk6=> AB (τ:=C) (λQ=> if ((K.lf.length:Int)==0) then Q true else if (decide ((i5:Int)>0)) then if (cond true (!K.Set) false) then
(iB a0 (AQ ((i5:Int)-1))).bind λv8=> Q (cond false true (cond true (!v8.Set) false)) else Q false else Q false
) λv9=> if v9 then some false else AB (τ:=Unit) (λV=> AH (σ:=Unit) (λ_=> V ()
) (λF (M:Int) P _=> AB (τ:=C) (λH=>
(CZ M).bind λY=> if (!Y) then H true else if K.Set then if (cond true (decide ((P:Int)>0)) false) then
(iB K.lf (AQ ((P:Int)-1))).bind λZ=> H (cond false true (cond true (decide (Z≥M)) false)) else H false else H false
) λa1=> if a1 then some false else F ()
) K.lf 0 ()
) λ_=> k6 ()
) λ_=> J (AQ (U+(K.lf.length:Int)))
) a0 0 0
) λa6=> some (decide (a6<=64))
def C4 (H:I Int):O Int:= if (decide ((H.length:Int)<1)) then none else
(iB H 0).bind λK=> AB (τ:=Int) (λM=> A3 (σ:=Int×Int) (λF (v4,v5)=> if (decide (v5<(H.length:Int))) then
(iB H v5).bind λJ=> F ((if J<v4 then J else v4),(AQ (v5+1))) else M v4
) qb (K,1)
) λP=> some P
def C7 (H:I Int):O Int:= if (decide ((H.length:Int)<1)) then none else
(iB H 0).bind λK=> AB (τ:=Int) (λM=> A3 (σ:=Int×Int) (λF (v4,v5)=> if (decide (v5<(H.length:Int))) then
(iB H v5).bind λJ=> F ((if J>v4 then J else v4),(AQ (v5+1))) else M v4
) qb (K,1)
) λP=> some P
def Cc (J:Int)(F:I Int):O C:= AB (τ:=C) (λH=>
(C4 F).bind λK=> if (decide (K≥0)) then
(C7 F).bind λM=> H (cond true (decide (M<=J)) false) else H false
) λP=> some P
def Ei (F:oF):O C:=
(Cc 65535 ([F.A,F.B]:I Int)).bind λH=> some H
def Dc (F:oF)(H:oF):O Int:=
(pz F.A H.A).bind λJ=>
(pz F.B H.B).bind λK=>
(Em ([J,K]:I Int)).bind λM=> some M
def AZ (H:I oF):O C:= AB (τ:=Unit) (λP=> AH (σ:=Unit) (λ_=> P ()
) (λF (K:oF) M _=> AB (τ:=C) (λJ=>
(Ei K).bind λQ=> if (!Q) then J true else if (decide ((M:Int)>0)) then
(iB H (AQ ((M:Int)-1))).bind λU=>
(Dc U K).bind λV=> J (cond false true (cond true (decide (V≥0)) false)) else J false
) λY=> if Y then some false else F ()
) H 0 ()
) λ_=> some (decide ((H.length:Int)<=64))
def DR (F:I oF):O C:=
(AZ F).bind λH=> some H
def CU (F:ls):O Bool:=
(Cc 4294967295 ([F.A,F.B,F.C]:I Int)).bind λH=> some H
def Bw (F:ls)(H:ls):O Int:=
(pz F.A H.A).bind λJ=>
(pz F.B H.B).bind λK=>
(pz F.C H.C).bind λM=>
(Em ([J,K,M]:I Int)).bind λP=> some P
def AT (H:I ls):O C:= AB (τ:=Unit) (λP=> AH (σ:=Unit) (λ_=> P ()
) (λF (K:ls) M _=> AB (τ:=C) (λJ=>
(CU K).bind λQ=> if (!Q) then J true else if (decide ((M:Int)>0)) then
(iB H (AQ ((M:Int)-1))).bind λU=>
(Bw U K).bind λV=> J (cond false true (cond true (decide (V≥0)) false)) else J false
) λY=> if Y then some false else F ()
) H 0 ()
) λ_=> some (decide ((H.length:Int)<=64))
def Bi (F:I ls):O C:=
(AT F).bind λH=> some H
def Da (F:Int):O C:= AB (τ:=C) (λH=>
(some (Xbk (BA HS F) 0)).bind λJ=> if (J==0) then if (cond true (F !=14) false) then H (cond true (F !=15) false) else H false else H false
) λK=> some K
def Ci (K:I gF):O C:= AB (τ:=Unit) (λP=> AH (σ:=Unit) (λ_=> P ()
) (λF (J:gF) M _=> AB (τ:=C) (λH=>
(Da J.hB).bind λQ=> if (!Q) then H true else
(BL J.hB 1 255).bind λU=> if (cond false true (!U)) then H true else if (cond false true (J.Flags !=224)) then H true else if (cond false true (decide ((J.Data.length:Int)>255))) then H true else if (decide ((M:Int)>0)) then
(iB K (AQ ((M:Int)-1))).bind λV=> H (cond false true (cond true (decide (V.hB≥J.hB)) false)) else H false
) λY=> if Y then some false else F ()
) K 0 ()
) λ_=> some (decide ((K.length:Int)<=8))
def Be (F:gE):O C:= AB (τ:=C) (λH=>
(BL F.gT (-1) 2).bind λU=> if U then
(D6 F.Path).bind λV=> if (cond true V false) then
(ET F.Next).bind λY=> if (cond true Y false) then
(BL F.qW (-1) 4294967295).bind λZ=> if (cond true Z false) then
(BL F.qd (-1) 4294967295).bind λv6=> if (cond true v6 false) then if (F.qz==(-1)) then
(DR F.cW).bind λv7=> if (cond true v7 false) then
(Bi F.ls).bind λv8=> if (cond true v8 false) then
(Ci F.gS).bind λv9=> H (cond true v9 false) else H false else H false else
(CZ F.qz).bind λJ=> if (cond true (cond false true J) false) then
(DR F.cW).bind λK=> if (cond true K false) then
(Bi F.ls).bind λM=> if (cond true M false) then
(Ci F.gS).bind λP=> H (cond true P false) else H false else H false else H false else H false else H false else H false else H false else H false
) λQ=> some Q
def Ef (H:iA):O C:= AB (τ:=C) (λM=>
(B2 H.kI).bind λv2=> if (!v2) then M true else if (cond false true (decide ((H.fT.length:Int)>256))) then M true else if (cond false true (decide (H.oT<0))) then M true else if (cond false true (decide (H.oT>1073745919))) then M true else
(FX H.fT).bind λv3=> M (cond false true (!((H.oT !=0)==v3)))
) λv4=> if v4 then some false else AB (τ:=Unit) (λk5=> AH (σ:=Unit) (λ_=> k5 ()
) (λK (J:fT) i8 _=> AB (τ:=C) (λF=>
(Bd J.o3.fI).bind λP=> if (!P) then F true else if (decide ((i8:Int)>0)) then
(iB H.fT (AQ ((i8:Int)-1))).bind λQ=>
(Dl Q.o3.fI J.o3.fI).bind λU=> if (cond false true (cond true (decide (U≥0)) false)) then F true else
(Be J.o3.gE).bind λV=> if (cond false true (!V)) then F true else if (cond false true (J.o3.qM !=H.kI.ql)) then F true else if (cond false true (decide (J.qx<0))) then F true else if (cond false true (decide (J.qx>14))) then F true else if (!H.Up) then F (cond false true (cond true (!J.qA) false)) else F false else
(Be J.o3.gE).bind λY=> if (cond false true (!Y)) then F true else if (cond false true (J.o3.qM !=H.kI.ql)) then F true else if (cond false true (decide (J.qx<0))) then F true else if (cond false true (decide (J.qx>14))) then F true else if (!H.Up) then F (cond false true (cond true (!J.qA) false)) else F false
) λZ=> if Z then some false else K ()
) H.fT 0 ()
) λ_=>
(GX H).bind λa1=> some a1
def H8 (F:fI):O C:=
(Bd F).bind λH=> some (!H)
def II (F:rc):O C:= AB (τ:=C) (λH=> if (decide (F.qM<0)) then H true else if (cond false true (decide (F.qM>F.To))) then H true else H (cond false true (decide (F.To>4294967295)))
) λJ=> some J
def IG (F:Int):O C:=
(BM F 1 4294967295).bind λH=> some (!H)
def Jn (F:Addr):O Int:= if F.V6 then some 128 else some 32
def ID (F:oB):O C:= AB (τ:=C) (λH=>
(Bd F.fI).bind λJ=> if (!J) then H true else
(Jn F.fI.Addr).bind λK=>
(BM F.Max F.fI.qo K).bind λM=> if (cond false true (!M)) then H true else
(BM F.ql 0 4294967295).bind λP=> H (cond false true (!P))
) λQ=> some Q
def Ox (F:Int):O C:=
(CZ F).bind λH=> some (!H)
def Iw (F:Int)(J:Int)(K:Int):O C:= AB (τ:=C) (λH=> if (decide (F≥J)) then H (cond true (decide (F<=K)) false) else H false
) λM=> some M
def HW (F:T):O C:=
(Zl F (Xce (Xcf (Xt 97 (Xt 98 (Xt 99 (Xt 100 (Xt 101 (Xt 102 (Xt 103 (Xt 104 (Xt 105 (Xt 106 (Xt 107 (Xt 108 (Xt 109 (Xt 110 (Xt 111 (Xt 112 (Xt 113 (Xt 114 (Xt 115 (Xt 116 (Xt 117 (Xt 118 (Xt 119 (Xt 120 (Xt 121 (Xt 122 (Xt 65 (Xt 66 (Xt 67 (Xt 68 (Xt 69 (Xt 70 (Xt 71 (Xt 72 (Xt 73 (Xt 74 (Xt 75 (Xt 76 (Xt 77 (Xt 78 (Xt 79 (Xt 80 (Xt 81 (Xt 82 (Xt 83 (Xt 84 (Xt 85 (Xt 86 (Xt 87 (Xt 88 (Xt 89 (Xt 90 (Xt 48 (Xt 49 (Xt 50 (Xt 51 (Xt 52 (Xt 53 (Xt 54 (Xt 55 (Xt 56 (Xt 57 (Xt 45 (Xt 58 Xdr))))))))))))))))))))))))))))))))))))))))))))))))))))))))))))))))))).bind λJ=> AB (τ:=C) (λH=>
(Iw (F.size:Int) 1 32).bind λK=> if K then H (cond true (J.toList==(Xce (Xcf Xdr)).toList) false) else H false
) λM=> some M
def O0 (F:T):O C:=
(HW F).bind λH=> some (!H)
def Bc (H:I Int):O Int:= AB (τ:=Unit) (λJ=> AH (σ:=Unit) (λ_=> J ()
) (λF (K:Int) M _=>
(Ox K).bind λP=> if P then some (M:Int) else F ()
) H 0 ()
) λ_=> some (-1)
def BW (F:I Int):O C:=
(Bc F).bind λH=> some (decide (H≥0))
def BH (H:I T):O Int:= AB (τ:=Unit) (λJ=> AH (σ:=Unit) (λ_=> J ()
) (λF (K:T) M _=>
(O0 K).bind λP=> if P then some (M:Int) else F ()
) H 0 ()
) λ_=> some (-1)
def BD (F:I T):O C:=
(BH F).bind λH=> some (decide (H≥0))
def VM (F:Set):O C:= AB (τ:=C) (λH=>
(HW F.Name).bind λJ=> if J then if (cond true (decide ((F.lf.length:Int)<=64)) false) then if (cond true (decide ((F.pk.length:Int)<=64)) false) then
(BW F.lf).bind λK=> if (cond true (!K) false) then
(BD F.pk).bind λM=> H (cond true (!M) false) else H false else H false else H false else H false
) λP=> some P
def PE (F:fI):O Int:= if F.Addr.V6 then some 128 else some 32
def Og (P:qS):O C:= AB (τ:=Unit) (λk1=> AH (σ:=(I (T×C))) (λQ=> k1 ()
) (λK (U:Set) i5 Q=> AB (τ:=C) (λk6=>
(some (Xbk (BA Q U.Name) false)).bind λv7=> if v7 then k6 true else
(VM U).bind λv8=> k6 (cond false true (!v8))
) λv9=> if v9 then some false else K (BJ Q U.Name true)
) P.pk 0 []
) λ_=> AB (τ:=Unit) (λV=> AH (σ:=Unit) (λ_=> V ()
) (λH (F:oB) i13 _=> AB (τ:=C) (λJ=>
(Bd F.fI).bind λY=> if (!Y) then J true else if (cond false true (decide (F.Max<F.fI.qo))) then J true else
(PE F.fI).bind λZ=> if (cond false true (decide (F.Max>Z))) then J true else
(CZ F.ql).bind λa1=> J (cond false true (!a1))
) λa6=> if a6 then some false else H ()
) P.oX 0 ()
) λ_=> AB (τ:=C) (λM=> if (decide ((P.pk.length:Int)<=64)) then M (cond true (decide ((P.oX.length:Int)<=512)) false) else M false
) λa7=> some a7
def As (H:I fI):O Int:= AB (τ:=Unit) (λJ=> AH (σ:=Unit) (λ_=> J ()
) (λF (K:fI) M _=>
(H8 K).bind λP=> if P then some (M:Int) else F ()
) H 0 ()
) λ_=> some (-1)
def Ac (F:I fI):O C:=
(As F).bind λH=> some (decide (H≥0))
def A4 (H:I rc):O Int:= AB (τ:=Unit) (λJ=> AH (σ:=Unit) (λ_=> J ()
) (λF (K:rc) M _=>
(II K).bind λP=> if P then some (M:Int) else F ()
) H 0 ()
) λ_=> some (-1)
def Aw (F:I rc):O C:=
(A4 F).bind λH=> some (decide (H≥0))
def BN (H:I Int):O Int:= AB (τ:=Unit) (λJ=> AH (σ:=Unit) (λ_=> J ()
) (λF (K:Int) M _=>
(IG K).bind λP=> if P then some (M:Int) else F ()
) H 0 ()
) λ_=> some (-1)
def BE (F:I Int):O C:=
(BN F).bind λH=> some (decide (H≥0))
def Aq (H:I oB):O Int:= AB (τ:=Unit) (λJ=> AH (σ:=Unit) (λ_=> J ()
) (λF (K:oB) M _=>
(ID K).bind λP=> if P then some (M:Int) else F ()
) H 0 ()
) λ_=> some (-1)
def Am (F:I oB):O C:=
(Aq F).bind λH=> some (decide (H≥0))
def Jy (F:qI):O C:= AB (τ:=C) (λJ=>
(BM F.tg 1 4294967295).bind λv2=> if (!v2) then J true else if (cond false true (decide ((F.rD.length:Int)>8))) then J true else if (cond false true (decide ((F.qF.length:Int)>64))) then J true else if (cond false true (decide ((F.qp.length:Int)>64))) then J true else if (cond false true (decide ((F.qX.length:Int)>64))) then J true else J (cond false true (decide ((F.qi.length:Int)>512)))
) λv3=> if v3 then some false else AB (τ:=C) (λH=> if (decide (F.sd<0)) then H true else if (cond false true (decide (F.sd>F.qh))) then H true else if (cond false true (decide (F.qh>32))) then H true else if (cond false true (decide (F.s8<0))) then H true else if (cond false true (decide (F.s8>F.qg))) then H true else if (cond false true (decide (F.qg>128))) then H true else
(BM F.rK 0 32).bind λv5=> if (cond false true (!v5)) then H true else
(BM F.rM 0 128).bind λv6=> if (cond false true (!v6)) then H true else
(BM F.sf 1 60).bind λv7=> H (cond false true (!v7))
) λv8=> if v8 then some false else AB (τ:=C) (λk9=>
(Ac F.rD).bind λP=> if P then k9 true else
(Ac F.qF).bind λQ=> k9 (cond false true Q)
) λU=> if U then some false else AB (τ:=C) (λK=>
(Aw F.qp).bind λV=> if V then K true else
(BE F.qX).bind λY=> K (cond false true Y)
) λZ=> if Z then some false else AB (τ:=C) (λM=>
(Am F.qi).bind λa1=> if (!a1) then
(Og F.qS).bind λa6=> M (cond true a6 false) else M false
) λa7=> some a7
def IF (F:fI):O C:=
(Bd F).bind λH=> some (!H)
def Jf (F:gE):O C:= AB (τ:=Unit) (λJ=> J ()
) λ_=> AB (τ:=C) (λH=> if (F.gT==(-1)) then if (cond true (F.qW==(-1)) false) then if (cond true (F.qd==(-1)) false) then if (cond true (F.qz==(-1)) false) then if (cond true (Addr.qK F.Next (⟨false,(0:j),(0:j)⟩:Addr)) false) then H (cond true ((AQ ((AQ ((AQ ((F.Path.length:Int)+(F.cW.length:Int)))+(F.ls.length:Int)))+(F.gS.length:Int)))==0) false) else H false else H false else H false else H false else H false
) λK=> some K
def Is (H:fI)(F:qC):O (C×qC):= some ((!(H.Addr.V6==F.gE.Next.V6)),F)
def Av (M:I fI)(H:qC):O (Int×qC):= AB (τ:=qC) (λP=> AH (σ:=qC) (λJ=> P J
) (λF (Q:fI) U J=>
(Is Q J).bind λ(v6,K)=> if v6 then some ((U:Int),K) else F K
) M 0 H
) λV=> some ((-1),V)
def Ao (H:I fI)(F:qC):O (C×qC):=
(Av H F).bind λ(v1,v2)=> some ((decide (v1≥0)),v2)
def KF (F:qC):O C:= if ((F.gO.length:Int)==0) then
(Jf F.gE).bind λJ=> some J else AB (τ:=C) (λH=>
(Be F.gE).bind λK=> if K then if (cond true (F.gE.gT !=(-1)) false) then if (cond true (!(Addr.qK F.gE.Next (⟨false,(0:j),(0:j)⟩:Addr))) false) then
(Ao F.gO F).bind λ(v4,v5)=> H (cond true (!v4) false) else H false else H false else H false
) λM=> some M
def IE (a0:I gF):O ((I S)×Int):= AB (τ:=Unit) (λk1=> AH (σ:=Unit) (λ_=> k1 ()
) (λK (Q:gF) i4 _=> AB (τ:=C) (λU=>
(BL Q.Flags 0 255).bind λv6=> if (!v6) then U true else
(BL Q.hB 0 255).bind λv7=> if (cond false true (!v7)) then U true else U (cond false true (decide ((Q.Data.length:Int)>65535)))
) λv8=> if v8 then some ([],1) else K ()
) a0 0 ()
) λ_=> AB (τ:=(I S)) (λk9=> AH (σ:=(I S)) (λH=> k9 H
) (λJ (F:gF) i13 H=> AB (τ:=(I S)) (λM=> if (decide ((F.Data.length:Int)>255)) then
(gH (α:=S) 1 H ([(Az ((Xq 8 ((Az ((Xq 8 ((Az F.Flags).toNat:Int) &&& Xq 8 224).toNat:Int)).toNat:Int) ||| Xq 8 16).toNat:Int)),(Az F.hB),(Az (Xay (F.Data.length:Int) (2^(min (Xi 8) 64)))),(Az (F.Data.length:Int))]:I S)).bind λV=> M V else
(gH (α:=S) 1 H ([(Az ((Xq 8 ((Az F.Flags).toNat:Int) &&& Xq 8 224).toNat:Int)),(Az F.hB),(Az (F.Data.length:Int))]:I S)).bind λY=> M Y
) λZ=>
(gH (α:=S) 1 Z F.Data).bind λP=> if (decide ((P.length:Int)>2048)) then some ([],3) else J P
) a0 0 []
) λa1=> some (a1,0)
def FN (K:Addr):O (I S):=
(ET K).bind λV=> if (!V) then some [] else AB (τ:=Int) (λU=> if K.V6 then U 16 else U 4
) λH=>
(rv (0<=H/\H<=H/\H<=1048576)).bind λ_=> AB (τ:=(I S)) (λY=> A3 (σ:=Int×Addr×(I S)) (λF (v6,J,M)=> if (decide (v6≥0)) then
(iB M v6).bind λZ=>
(rk M v6 (Az (J.Lo.toNat:Int))).bind λP=> F ((AQ (v6-1)),(⟨J.V6,(AY (Xay (J.Hi.toNat:Int) (2^(min (Xi 8) 64)))),(AY ((Xq 64 ((AY (Xay (J.Lo.toNat:Int) (2^(min (Xi 8) 64)))).toNat:Int) ||| Xq 64 ((AY ((J.Hi.toNat:Int)*(2^(min (Xi 56) 64)))).toNat:Int)).toNat:Int))⟩:Addr),P) else Y M
) qb ((AQ (H-1)),K,(Xal (Xi H) (0:S)))
) λQ=> some Q
def HY (U:I S)(V:I fI)(Y:C):O (I S):= AB (τ:=(I S)) (λZ=> AH (σ:=(I S)) (λH=> Z H
) (λF (J:fI) i5 H=> AB (τ:=(I S)) (λQ=> if (J.Addr.V6==Y) then
(gH (α:=S) 1 H ([(Az J.qo)]:I S)).bind λv7=>
(FN J.Addr).bind λv8=>
(part v8 0 (AQ (Int.tdiv (AQ (J.qo+7)) 8))).bind λv9=>
(gH (α:=S) 1 v7 v9).bind λK=> Q K else Q H
) λM=> F M
) V 0 U
) λP=> some P
def E9 (K:I S)(M:I Int):O (I S):= AB (τ:=(I S)) (λP=> AH (σ:=(I S)) (λJ=> P J
) (λF (H:Int) i5 J=>
(gH (α:=S) 1 J ([(Az (Xay H (2^(min (Xi 24) 64)))),(Az (Xay H (2^(min (Xi 16) 64)))),(Az (Xay H (2^(min (Xi 8) 64)))),(Az H)]:I S)).bind λQ=> F Q
) M 0 K
) λU=> some U
def GA (P:I oA):O (I S):= AB (τ:=(I S)) (λQ=> AH (σ:=(I S)) (λH=> Q H
) (λF (J:oA) i5 H=> AB (τ:=S) (λM=> if J.Set then M (1:S) else M (2:S)
) λU=>
(gH (α:=S) 1 H ([U,(Az (J.lf.length:Int))]:I S)).bind λV=>
(E9 V J.lf).bind λY=> F Y
) P 0 []
) λK=> some K
def EP (K:I oF):O (I S):= AB (τ:=(I S)) (λM=> AH (σ:=(I S)) (λH=> M H
) (λF (J:oF) i5 H=>
(E9 H ([(AQ ((Xq 64 (AQ (J.A*(2^(min (Xi 16) 64)))) ||| Xq 64 J.B).toNat:Int))]:I Int)).bind λP=> F P
) K 0 []
) λQ=> some Q
def HL (K:I ls):O (I S):= AB (τ:=(I S)) (λM=> AH (σ:=(I S)) (λH=> M H
) (λF (J:ls) i5 H=>
(E9 H ([J.A,J.B,J.C]:I Int)).bind λP=> F P
) K 0 []
) λQ=> some Q
def EA (F:I S):O (I S):=
(gH (α:=S) 1 ([]:I S) F).bind λH=> some H
def Bt (F:gF)(H:gF):O Int:=
(pz F.hB H.hB).bind λJ=> some J
def DW (K:I Int):O (I S):= AB (τ:=(I S)) (λM=> AH (σ:=(I S)) (λJ=> M J
) (λF (H:Int) i5 J=>
(gH (α:=S) 1 J ([(Az (Xay H (2^(min (Xi 24) 64)))),(Az (Xay H (2^(min (Xi 16) 64)))),(Az (Xay H (2^(min (Xi 8) 64)))),(Az H)]:I S)).bind λP=> F P
) K 0 []
) λQ=> some Q
def I0 (F:gF)(H:gF):O Int:=
(pz F.hB H.hB).bind λJ=> some J
def Ey (U:I fI)(V:C):O (I S):= AB (τ:=(I S)) (λY=> AH (σ:=(I S)) (λH=> Y H
) (λF (J:fI) i5 H=> AB (τ:=(I S)) (λQ=> if (J.Addr.V6==V) then
(gH (α:=S) 1 H ([(Az J.qo)]:I S)).bind λZ=>
(FN J.Addr).bind λv8=>
(part v8 0 (AQ (Int.tdiv (AQ (J.qo+7)) 8))).bind λv9=>
(gH (α:=S) 1 Z v9).bind λK=> Q K else Q H
) λM=> F M
) U 0 []
) λP=> some P
def LZ (F:qC):O (I gF):= AB (τ:=Int×(I gF)) (λk1=>
(Be F.gE).bind λv2=> if (!v2) then k1 (1,[]) else AB (τ:=(I gF)) (λk3=> AB (τ:=(I gF)) (λk4=> if (F.gE.gT !=(-1)) then
(some (Xbk (BA HS 1) 0)).bind λv5=>
(gH (α:=gF) 40 [] ([(⟨v5,1,([(Az F.gE.gT)]:I S)⟩:gF)]:I gF)).bind λ_=> k4 ([(⟨v5,1,([(Az F.gE.gT)]:I S)⟩:gF)]:I gF) else k4 []
) λv6=> k3 v6
) λv7=> AB (τ:=(I gF)) (λk8=> if (F.gE.gT !=(-1)) then
(GA F.gE.Path).bind λv9=> AB (τ:=(I gF)) (λak=>
(some (Xbk (BA HS 2) 0)).bind λal=>
(gH (α:=gF) 40 v7 ([(⟨al,2,v9⟩:gF)]:I gF)).bind λan=> ak an
) λao=> k8 ao else
(GA F.gE.Path).bind λap=> AB (τ:=(I gF)) (λaq=> AB (τ:=(I gF)) (λM=> if (cond false true (decide ((F.gE.Path.length:Int)>0))) then
(some (Xbk (BA HS 2) 0)).bind λar=>
(gH (α:=gF) 40 v7 ([(⟨ar,2,ap⟩:gF)]:I gF)).bind λau=> M au else M v7
) λax=> aq ax
) λay=> k8 ay
) λJ=> AB (τ:=(I gF)) (λP=> if (!F.gE.Next.V6) then
(FN F.gE.Next).bind λaz=> AB (τ:=(I gF)) (λb0=> AB (τ:=(I gF)) (λQ=> if (cond true (!(Addr.qK F.gE.Next (⟨false,(0:j),(0:j)⟩:Addr))) false) then
(some (Xbk (BA HS 3) 0)).bind λba=>
(gH (α:=gF) 40 J ([(⟨ba,3,az⟩:gF)]:I gF)).bind λbb=> Q bb else Q J
) λbc=> b0 bc
) λbd=> P bd else
(FN F.gE.Next).bind λcv=> AB (τ:=Unit) (λbe=> be ()
) λ_=> P J
) λU=>
(DW ([F.gE.qW]:I Int)).bind λbf=> AB (τ:=(I gF)) (λbg=> AB (τ:=(I gF)) (λV=> if (F.gE.qW !=(-1)) then
(some (Xbk (BA HS 4) 0)).bind λbh=>
(gH (α:=gF) 40 U ([(⟨bh,4,bf⟩:gF)]:I gF)).bind λbi=> V bi else V U
) λbj=> bg bj
) λY=>
(DW ([F.gE.qd]:I Int)).bind λbk=> AB (τ:=(I gF)) (λbl=> AB (τ:=(I gF)) (λZ=> if (F.gE.qd !=(-1)) then
(some (Xbk (BA HS 5) 0)).bind λbm=>
(gH (α:=gF) 40 Y ([(⟨bm,5,bk⟩:gF)]:I gF)).bind λbn=> Z bn else Z Y
) λbo=> bl bo
) λa1=>
(EP F.gE.cW).bind λbp=> AB (τ:=(I gF)) (λbq=> AB (τ:=(I gF)) (λa6=> if (decide ((F.gE.cW.length:Int)>0)) then
(some (Xbk (BA HS 8) 0)).bind λbr=>
(gH (α:=gF) 40 a1 ([(⟨br,8,bp⟩:gF)]:I gF)).bind λbu=> a6 bu else a6 a1
) λbw=> bq bw
) λa7=>
(HL F.gE.ls).bind λbx=> AB (τ:=(I gF)) (λbz=> AB (τ:=(I gF)) (λa8=> if (decide ((F.gE.ls.length:Int)>0)) then
(some (Xbk (BA HS 32) 0)).bind λc0=>
(gH (α:=gF) 40 a7 ([(⟨c0,32,bx⟩:gF)]:I gF)).bind λc3=> a8 c3 else a8 a7
) λc4=> bz c4
) λaa=>
(DW ([F.gE.qz]:I Int)).bind λc5=> AB (τ:=(I gF)) (λc6=> AB (τ:=(I gF)) (λab=> if (F.gE.qz !=(-1)) then
(some (Xbk (BA HS 35) 0)).bind λc7=>
(gH (α:=gF) 40 aa ([(⟨c7,35,c5⟩:gF)]:I gF)).bind λc8=> ab c8 else ab aa
) λc9=> c6 c9
) λca=> AB (τ:=(I gF)) (λcb=> AH (σ:=(I gF)) (λK=> cb K
) (λH (ae:gF) i72 K=>
(EA ae.Data).bind λcc=>
(gH (α:=gF) 40 K ([{ ae with Data:=cc }]:I gF)).bind λcd=> H cd
) F.gE.gS 0 ca
) λcf=>
(GM Bt cf).bind λcg=> k1 (0,cg)
) λ(v77,v78)=> AB (τ:=C) (λaf=> if (decide ((F.gO.length:Int)>0)) then af (cond true F.gE.Next.V6 false) else af false
) λch=> AB (τ:=(I gF)) (λag=> if ch then
(FN F.gE.Next).bind λcj=>
(gH (α:=S) 1 ([(0:S),(2:S),(1:S),(16:S)]:I S) cj).bind λck=>
(gH (α:=S) 1 ck ([(0:S)]:I S)).bind λcm=>
(HY cm F.gO true).bind λcn=>
(gH (α:=gF) 40 v78 ([(⟨128,14,cn⟩:gF)]:I gF)).bind λcp=> ag cp else ag v78
) λah=>
(Ey F.mu true).bind λai=> AB (τ:=(I gF)) (λaj=> if (decide ((ai.length:Int)>0)) then
(gH (α:=S) 1 ([(0:S),(2:S),(1:S)]:I S) ai).bind λcq=>
(gH (α:=gF) 40 ah ([(⟨128,15,cq⟩:gF)]:I gF)).bind λcs=> aj cs else aj ah
) λct=>
(GM I0 ct).bind λcu=> some cu
def NG (H:I S)(F:Int):O (I S):=
(gH (α:=S) 1 H ([(Az (Xay F (2^(min (Xi 8) 64)))),(Az F)]:I S)).bind λJ=> some J
def IN (F:Int):O (I S):=
(gH (α:=S) 1 [] ([(Az (Xay F (2^(min (Xi 8) 64)))),(Az F)]:I S)).bind λ_=> some ([(Az (Xay F (2^(min (Xi 8) 64)))),(Az F)]:I S)
def LG (H:qC):O ((I S)×C):=
(LZ H).bind λP=>
(IE P).bind λ(v2,v3)=>
(Ey H.mu false).bind λK=>
(IN (K.length:Int)).bind λQ=>
(gH (α:=S) 1 Q K).bind λU=>
(NG U (v2.length:Int)).bind λV=>
(gH (α:=S) 1 V v2).bind λY=>
(HY Y H.gO false).bind λM=> AB (τ:=C) (λF=> if (v3==0) then F (cond true (decide ((M.length:Int)<=4077)) false) else F false
) λJ=> some (M,J)
def Ar (H:I fI):O Int:= AB (τ:=Unit) (λJ=> AH (σ:=Unit) (λ_=> J ()
) (λF (K:fI) M _=>
(IF K).bind λP=> if P then some (M:Int) else F ()
) H 0 ()
) λ_=> some (-1)
def Ad (F:I fI):O C:=
(Ar F).bind λH=> some (decide (H≥0))
def J1 (F:qC):O C:= AB (τ:=C) (λH=> if (decide ((F.mu.length:Int)>256)) then H true else if (cond false true (decide ((F.gO.length:Int)>256))) then H true else
(Ad F.mu).bind λJ=> if (cond false true J) then H true else
(Ad F.gO).bind λK=> if (cond false true K) then H true else
(KF F).bind λM=> H (cond false true (!M))
) λP=> if P then some false else
(LG F).bind λ(v6,Q)=> some Q
def C5 (F:I Int):O (I Int):=
(gH (α:=Int) 8 [] F).bind λ_=> some F
def CQ (F:I S):O (I S):=
(gH (α:=S) 1 [] F).bind λ_=> some F
def CC (F:I oF):O (I oF):=
(gH (α:=oF) 16 [] F).bind λ_=> some F
def DT (F:I ls):O (I ls):=
(gH (α:=ls) 24 [] F).bind λ_=> some F
def Ff (K:gE):O gE:= AB (τ:=(I oA)) (λk1=> AH (σ:=(I oA)) (λP=> k1 P
) (λH (x4:oA) i5 P=>
(C5 x4.lf).bind λv6=>
(gH (α:=oA) 32 P ([(⟨x4.Set,v6⟩:oA)]:I oA)).bind λv7=> H v7
) K.Path 0 []
) λv8=> AB (τ:=(I gF)) (λk9=> AH (σ:=(I gF)) (λJ=> k9 J
) (λF (M:gF) i13 J=>
(CQ M.Data).bind λQ=>
(gH (α:=gF) 40 J ([{ M with Data:=Q }]:I gF)).bind λU=> F U
) K.gS 0 []
) λV=>
(CC K.cW).bind λY=>
(DT K.ls).bind λZ=> some ({ K with Path:=v8,cW:=Y,ls:=Z,gS:=V })
def HD (F:o3):O o3:=
(Ff F.gE).bind λH=> some (⟨(⟨((({ F with gE:=H }).fI).Addr),(({ F with gE:=H }).fI).qo⟩:fI),({ F with gE:=H }).qM,(({ F with gE:=H }).gE)⟩:o3)
def GU (K:I fT):O (I fT):= AB (τ:=(I fT)) (λM=> AH (σ:=(I fT)) (λH=> M H
) (λF (J:fT) i5 H=>
(HD J.o3).bind λP=>
(gH (α:=fT) 208 H ([{ J with o3:=P }]:I fT)).bind λQ=> F Q
) K 0 []
) λU=> some U
def Du (F:I Addr):O (I Addr):=
(gH (α:=Addr) 24 [] F).bind λ_=> some F
def Gj (F:kI):O kI:=
(Du F.oE).bind λH=> some ({ F with oE:=H })
def FR (F:iA):O iA:=
(Gj F.kI).bind λH=>
(GU F.fT).bind λJ=> some (⟨H,F.Up,J,F.oT⟩:iA)
def DX (F:fT)(H:fI):O Int:=
(Dl F.o3.fI H).bind λJ=> some J
def AS (K:I fT)(U:fI):O (Int×C):= AB (τ:=Int) (λY=> A3 (σ:=Int×Int) (λF (v3,v4)=> if (decide (v3<v4)) then
(iB K (AQ ((AY (Xay ((AY (AQ (v3+v4))).toNat:Int) (2^(min (Xi 1) 64)))).toNat:Int))).bind λZ=>
(DX Z U).bind λv6=> AB (τ:=Int×Int) (λV=> if (decide (v6<0)) then V ((AQ ((AQ ((AY (Xay ((AY (AQ (v3+v4))).toNat:Int) (2^(min (Xi 1) 64)))).toNat:Int))+1)),v4) else V (v3,(AQ ((AY (Xay ((AY (AQ (v3+v4))).toNat:Int) (2^(min (Xi 1) 64)))).toNat:Int)))
) λ(v8,v9)=> F (v8,v9) else Y v3
) qb (0,(K.length:Int))
) λH=> AB (τ:=C) (λJ=> if (decide (H<(K.length:Int))) then
(iB K H).bind λM=>
(DX M U).bind λP=> J (cond true (P==0) false) else J false
) λQ=> some (H,Q)
def D8 (F:I fT)(H:fI):O (Int×C):=
(AS F H).bind λ(v1,v2)=> some (v1,v2)
def Iq (F:o3):O C:= AB (τ:=C) (λH=>
(Bd F.fI).bind λJ=> if J then
(Be F.gE).bind λK=> if (cond true K false) then if (cond true (F.gE.gT !=(-1)) false) then if (cond true (decide ((F.gE.Path.length:Int)>0)) false) then if (cond true (!(Addr.qK F.gE.Next (⟨false,(0:j),(0:j)⟩:Addr))) false) then H (cond true (F.gE.Next.V6==F.fI.Addr.V6) false) else H false else H false else H false else H false else H false
) λM=> some M
def G9 (J:I oA):O (I Int):= AB (τ:=(I Int)) (λK=> AH (σ:=(I Int)) (λH=> K H
) (λF (M:oA) i5 H=>
(gH (α:=Int) 8 H M.lf).bind λP=> F P
) J 0 []
) λQ=> some Q
def BO (H:I oF)(J:oF):O Int:= AB (τ:=Unit) (λK=> AH (σ:=Unit) (λ_=> K ()
) (λF (M:oF) P _=> if (oF.qK J M) then some (P:Int) else F ()
) H 0 ()
) λ_=> some (-1)
def BF (F:I oF)(H:oF):O C:=
(BO F H).bind λJ=> some (decide (J≥0))
def Io (F:I oF)(H:oF):O C:=
(BF F H).bind λJ=> some J
def KQ (F:gE):O C:=
(Io F.cW (⟨65535,666⟩:oF)).bind λH=> some H
def It (F:I oA):O (Int×C):= AB (τ:=C) (λH=> if ((F.length:Int)==0) then H true else
(D6 F).bind λK=> if (cond false true (!K)) then H true else
(iB F (AQ ((F.length:Int)-1))).bind λM=> H (cond false true M.Set)
) λP=> if P then some (0,false) else
(iB F (AQ ((F.length:Int)-1))).bind λJ=>
(iB J.lf (AQ ((J.lf.length:Int)-1))).bind λQ=> some (Q,true)
def Ju (F:I oA):O (Int×C):= AB (τ:=C) (λH=> if ((F.length:Int)==0) then H true else
(D6 F).bind λJ=> if (cond false true (!J)) then H true else
(iB F 0).bind λK=> H (cond false true K.Set)
) λM=> if M then some (0,false) else
(iB F 0).bind λP=>
(iB P.lf 0).bind λQ=> some (Q,true)
def H7 (F:qR):O (C×qR):=
(Ju F.r.gE.Path).bind λ(v1,v2)=> AB (τ:=C) (λH=> if (!v2) then H true else H (cond false true (v1 !=F.p.ql))
) λJ=> some (J,F)
def B9 (H:I Addr)(J:Addr):O Int:= AB (τ:=Unit) (λK=> AH (σ:=Unit) (λ_=> K ()
) (λF (M:Addr) P _=> if (Addr.qK J M) then some (P:Int) else F ()
) H 0 ()
) λ_=> some (-1)
def Bm (F:I Addr)(H:Addr):O C:=
(B9 F H).bind λJ=> some (decide (J≥0))
def IP (F:qR):O (C×qR):=
(Bm F.p.oE F.r.gE.Next).bind λH=> some ((!H),F)
def Dn (M:I oA):O Int:= AB (τ:=Int) (λP=> AH (σ:=Int) (λH=> P H
) (λF (J:oA) i5 H=> AB (τ:=Int) (λK=> if J.Set then K (AQ (H+1)) else K (AQ (H+(J.lf.length:Int)))
) λQ=> F Q
) M 0 0
) λU=> some U
def K0 (F:qR):O (C×qR):=none
def LP (F:qR):O (C×qR):=none
def KL (F:qR):O (C×qR):=none
def G3 (F:qR):O (C×qR):=none
def Ic (F:qR):O (C×qR):=none
def KZ (F:qR):O (C×qR):=none
def ED (F:fI)(J:Addr):O C:= AB (τ:=C) (λH=> if (F.Addr.V6==J.V6) then if (cond true (decide (F.qo≥0)) false) then
(BG J).bind λK=> if (cond true (decide (F.qo<=K)) false) then
(Di J F.qo).bind λM=> H (cond true (Addr.qK M F.Addr) false) else H false else H false else H false
) λP=> some P
def KW (F:qR):O (C×qR):=none
def LA (F:qR):O (C×qR):=none
def HT (F:qR):O (C×qR):=none
def KI (F:qR):O (C×qR):=none
def J4 (F:qR):O (C×qR):=none
def Jr:O (I sj):= some ([(⟨2,245⟩:sj),(⟨3,247⟩:sj),(⟨4,249⟩:sj),(⟨5,251⟩:sj),(⟨6,253⟩:sj),(⟨7,256⟩:sj),(⟨8,257⟩:sj),(⟨9,258⟩:sj),(⟨10,260⟩:sj),(⟨11,263⟩:sj),(⟨12,265⟩:sj),(⟨13,266⟩:sj),(⟨14,269⟩:sj)]:I sj)
def Hz (a0:qI)(a1:kI)(K:o3)(a3:Int):O (I Int):=
(Iq K).bind λv1=> if (!v1) then some ([1]:I Int) else
(G9 K.gE.Path).bind λv2=>
(KQ K.gE).bind λv3=>
(It K.gE.Path).bind λ(v4,v5)=> AB (τ:=Int) (λk6=> if v5 then k6 v4 else k6 (-1)
) λv7=>
(Jr).bind λv8=> AB (τ:=(I Int)) (λk9=> AH (σ:=qR×(I Int)) (λ(v10,v11)=> k9 v11
) (λJ (F:sj) i14 (v10,v11)=> AB (τ:=C×qR) (λH=> if (decide ((v11.length:Int)<a3)) then if (F.qq==245) then
(H7 v10).bind λ(P,v17)=> H ((cond true P false),v17) else if (F.qq==247) then
(IP v10).bind λ(Q,U)=> H ((cond true Q false),U) else if (F.qq==249) then
(K0 v10).bind λ(v20,v21)=> H ((cond true v20 false),v21) else if (F.qq==251) then
(LP v10).bind λ(v22,v23)=> H ((cond true v22 false),v23) else if (F.qq==253) then
(KL v10).bind λ(v24,v25)=> H ((cond true v24 false),v25) else if (F.qq==256) then
(G3 v10).bind λ(v26,v27)=> H ((cond true v26 false),v27) else if (F.qq==257) then
(Ic v10).bind λ(v28,v29)=> H ((cond true v28 false),v29) else if (F.qq==258) then
(KZ v10).bind λ(v30,v31)=> H ((cond true v30 false),v31) else if (F.qq==260) then
(KW v10).bind λ(v32,v33)=> H ((cond true v32 false),v33) else if (F.qq==263) then
(LA v10).bind λ(V,v35)=> H ((cond true V false),v35) else if (F.qq==265) then
(HT v10).bind λ(v36,v37)=> H ((cond true v36 false),v37) else if (F.qq==266) then
(KI v10).bind λ(Y,v39)=> H ((cond true Y false),v39) else if (F.qq==269) then
(J4 v10).bind λ(v40,v41)=> H ((cond true v40 false),v41) else none else H (false,v10)
) λ(Z,a6)=> AB (τ:=(I Int)) (λM=> if Z then
(gH (α:=Int) 8 v11 ([F.reason]:I Int)).bind λa7=> M a7 else M v11
) λa8=> J (a6,a8)
) v8 0 ((⟨a0,a1,K,v2,v7,v3⟩:qR),[])
) λaa=> some aa
def Jb (H:qI)(J:kI)(K:o3):O Int:=
(Hz H J K 1).bind λF=> if (decide ((F.length:Int)>0)) then
(iB F 0).bind λM=> some M else some 0
def Bn (F:iA):O iA:=
(FX F.fT).bind λK=> AB (τ:=Int) (λH=> if (!K) then H 0 else H F.oT
) λJ=> some ({ ({ F with oT:=J }) with kI:=(({ F with oT:=J }).kI) })
def Ij (a0:qI)(K:iA)(a2:qC):O (iA×Int):= AB (τ:=C) (λk1=>
(Jy a0).bind λv2=> if (!v2) then k1 true else
(Ef K).bind λv3=> if (cond false true (!v3)) then k1 true else
(J1 a2).bind λv4=> k1 (cond false true (!v4))
) λv5=> if v5 then some ((⟨(⟨0,Xa4,0,0,[]⟩:kI),false,[],0⟩:iA),1) else if (!K.Up) then some ((⟨(⟨0,Xa4,0,0,[]⟩:kI),false,[],0⟩:iA),31) else
(FR K).bind λv6=> AB (τ:=(I fT)) (λk7=> AH (σ:=(I fT)) (λQ=> k7 Q
) (λM (a6:fI) i11 Q=>
(D8 Q a6).bind λ(v12,a7)=> AB (τ:=(I fT)) (λU=> if a7 then
(oI Q v12 (AQ (v12+1))).bind λa8=> U a8 else U Q
) λaa=> M aa
) a2.mu 0 v6.fT
) λab=> AB (τ:=(I fT)) (λae=> AH (σ:=(I fT)) (λF=> ae F
) (λH (J:fI) i22 F=>
(Ff a2.gE).bind λP=>
(Jb a0 K.kI (⟨J,K.kI.ql,P⟩:o3)).bind λV=>
(D8 F J).bind λ(v25,v26)=> AB (τ:=(I fT)) (λY=> if v26 then
(iB F v25).bind λak=>
(rk F v25 (⟨(⟨J,K.kI.ql,P⟩:o3),V,false⟩:fT)).bind λaf=> Y af else
(jF (α:=fT) 208 F v25 (⟨(⟨J,K.kI.ql,P⟩:o3),V,false⟩:fT)).bind λag=> Y ag
) λah=> H ah
) a2.gO 0 ab
) λZ=>
(GX ({ v6 with fT:=Z })).bind λai=> if (!ai) then some ((⟨(⟨0,Xa4,0,0,[]⟩:kI),false,[],0⟩:iA),34) else
(Bn ({ v6 with fT:=Z })).bind λaj=> some (aj,0)
def O1 (F:kI):O iA:=
(Gj F).bind λH=> some (⟨H,false,[],0⟩:iA)
def FU (F:iA):O (iA×Int):=
(Ef F).bind λH=> if (!H) then some ((⟨(⟨0,Xa4,0,0,[]⟩:kI),false,[],0⟩:iA),1) else if F.Up then some ((⟨(⟨0,Xa4,0,0,[]⟩:kI),false,[],0⟩:iA),31) else
(FR F).bind λJ=> some ({ J with Up:=true },0)
def G1:O C:=
(O1 (⟨101,Xa4,1,0,[]⟩:kI)).bind λK=>
(FU K).bind λ(v2,v3)=>
(Ij (⟨99,[],0,24,0,0,0,0,[],[],[],5,(⟨[],[]⟩:qS),[]⟩:qI) v2 (⟨[],(⟨0,([(⟨false,([101]:I Int)⟩:oA)]:I oA),(⟨false,(0:j),(7:j)⟩:Addr),(-1),(-1),(-1),[],[],[]⟩:gE),([(⟨(⟨false,(0:j),(167772160:j)⟩:Addr),16⟩:fI)]:I fI)⟩:qC)).bind λ(v4,v5)=>
(gH (α:=fI) 32 ([(⟨(⟨false,(0:j),(167772160:j)⟩:Addr),16⟩:fI)]:I fI) ([(⟨(⟨false,(0:j),(184549376:j)⟩:Addr),16⟩:fI)]:I fI)).bind λM=>
(Ij (⟨99,[],0,24,0,0,0,0,[],[],[],5,(⟨[],[]⟩:qS),[]⟩:qI) v4 (⟨[],(⟨0,([(⟨false,([101]:I Int)⟩:oA)]:I oA),(⟨false,(0:j),(7:j)⟩:Addr),(-1),(-1),(-1),[],[],[]⟩:gE),M⟩:qC)).bind λ(Q,P)=> AB (τ:=C) (λF=> if (v3==0) then if (cond true (v5==0) false) then if (cond true (P==34) false) then if (cond true ((v4.fT.length:Int)==1) false) then
(iB v4.fT 0).bind λH=> F (cond true (H.qx==3) false) else F false else F false else F false else F false
) λJ=> some J
def NZ (F:I Int):O px:= some (⟨F,0⟩:px)
def Ej (H:Int)(F:Int):O Int:=
(rv (F≠0)).bind λ_=> AB (τ:=Int) (λJ=> if (decide ((Int.tmod H F)<0)) then J (AQ ((Int.tmod H F)+F)) else J (Int.tmod H F)
) λK=> some K
def AG (F:px)(H:Int):O (Int×px):= if (decide (F.At≥(F.L.length:Int))) then some (0,F) else
(iB F.L (AQ ((AQ (F.At+1))-1))).bind λJ=>
(Ej J H).bind λK=> some (K,(⟨F.L,(AQ (F.At+1))⟩:px))
def FG (F:Int):O fI:= if (decide (F≥6)) then some (⟨(⟨true,(AY ((Xq 64 2306139568115548160 ||| Xq 64 ((AY (((AY F).toNat:Int)*(2^(min (Xi 16) 64)))).toNat:Int)).toNat:Int)),(0:j)⟩:Addr),48⟩:fI) else some (⟨(⟨false,(0:j),(AY ((Xq 64 167772160 ||| Xq 64 ((AY (((AY F).toNat:Int)*(2^(min (Xi 16) 64)))).toNat:Int)).toNat:Int))⟩:Addr),16⟩:fI)
def B6 (Z:px):O (fI×px):=
(AG Z 8).bind λ(v1,v2)=>
(FG v1).bind λF=>
(AG v2 8).bind λ(v4,v5)=> AB (τ:=px×fI) (λU=> if (v4==6) then AB (τ:=Int) (λV=> if F.Addr.V6 then V 64 else V 24
) λv8=> U (v5,(⟨F.Addr,v8⟩:fI)) else AB (τ:=px×fI) (λY=> if (v4==7) then AB (τ:=Int) (λH=> if F.Addr.V6 then H 128 else H 32
) λJ=>
(AG v5 3).bind λ(v12,K)=> Y (K,(⟨{ F.Addr with Lo:=(AY ((F.Addr.Lo.toNat:Int)+((AY v12).toNat:Int))) },J⟩:fI)) else Y (v5,F)
) λ(M,P)=> U (M,P)
) λ(Q,v17)=> some (v17,Q)
def DU:O gE:= some (⟨(-1),[],(⟨false,(0:j),(0:j)⟩:Addr),(-1),(-1),(-1),[],[],[]⟩:gE)
def Eo (F:Int)(H:C):O Addr:= if H then some (⟨true,(2306139568115613695:j),(AY F)⟩:Addr) else some (⟨false,(0:j),(AY ((Xq 64 3221225984 ||| Xq 64 ((AY (AQ ((Int.tmod F 250)+1))).toNat:Int)).toNat:Int))⟩:Addr)
def B0 (V:px):O ((I oF)×px):=
(AG V 65536).bind λ(v1,v2)=> AB (τ:=px×(I oF)) (λY=> AH (σ:=px×(I oF)) (λ(v4,v5)=> Y (v4,v5)
) (λF (Z:oF) U (v4,v5)=> AB (τ:=C×px) (λJ=> if ((AQ ((Xq 64 (Xay v1 (2^(min (Xi ((AY (AQ (2*(U:Int)))).toNat:Int)) 64))) &&& Xq 64 3).toNat:Int))==3) then if (decide ((U:Int)<6)) then J (true,v4) else
(AG v4 2).bind λ(v10,v11)=> J ((cond true (cond false true (v10==0)) false),v11) else J (false,v4)
) λ(v12,K)=> AB (τ:=(I oF)) (λH=> if v12 then
(gH (α:=oF) 16 v5 ([Z]:I oF)).bind λM=> H M else H v5
) λP=> F (K,P)
) ([(⟨0,99⟩:oF),(⟨0,101⟩:oF),(⟨0,102⟩:oF),(⟨99,101⟩:oF),(⟨99,103⟩:oF),(⟨500,1⟩:oF),(⟨65535,666⟩:oF),(⟨65535,65282⟩:oF)]:I oF) 0 (v2,[])
) λ(v17,Q)=> some (Q,v17)
def EG (P:px):O ((I ls)×px):=
(AG P 16384).bind λ(v1,v2)=> AB (τ:=(I ls)) (λQ=> AH (σ:=(I ls)) (λH=> Q H
) (λF (U:ls) V H=> AB (τ:=(I ls)) (λM=> if ((AQ ((Xq 64 (Xay v1 (2^(min (Xi ((AY (AQ (2*(V:Int)))).toNat:Int)) 64))) &&& Xq 64 3).toNat:Int))==3) then
(gH (α:=ls) 24 H ([U]:I ls)).bind λY=> M Y else M H
) λJ=> F J
) ([(⟨5,5,5⟩:ls),(⟨99,0,0⟩:ls),(⟨99,0,103⟩:ls),(⟨99,1,102⟩:ls),(⟨99,101,0⟩:ls),(⟨99,102,104⟩:ls),(⟨99,103,101⟩:ls)]:I ls) 0 []
) λK=> some (K,v2)
def EJ (a0:px)(a1:Int)(a2:C):O (gE×px):=
(DU).bind λJ=>
(AG a0 3).bind λ(v2,v3)=>
(AG v3 4).bind λ(v4,v5)=> AB (τ:=px×(I Int)) (λk6=> A3 (σ:=Int×px×(I Int)) (λK (v8,v9,v10)=> if (decide (v8>0)) then
(AG v9 7).bind λ(v11,v12)=>
(iB ([a1,101,102,201,202,203,301]:I Int) v11).bind λae=>
(gH (α:=Int) 8 v10 ([ae]:I Int)).bind λaf=> K ((AQ (v8-1)),v12,af) else k6 (v9,v10)
) qb (v4,v5,([a1]:I Int))
) λ(ag,H)=>
(Eo a1 a2).bind λF=>
(AG ag 3).bind λ(ah,P)=> AB (τ:=px×Int) (λQ=> if (ah==0) then
(AG P 3).bind λ(v21,v22)=> Q (v22,v21) else Q (P,J.qW)
) λ(v23,v24)=>
(AG v23 6).bind λ(v25,v26)=> AB (τ:=px×Int) (λU=> if (v25==0) then
(AG v26 300).bind λ(v28,v29)=> U (v29,v28) else U (v26,J.qd)
) λ(v30,v31)=>
(B0 v30).bind λ(v32,v33)=>
(EG v33).bind λ(ai,v35)=>
(AG v35 24).bind λ(v36,v37)=> AB (τ:=px×(I oA)×C×j×j×Int×(I gF)) (λV=> if (v36==0) then
(AG v37 300).bind λ(v39,v40)=> V (v40,[(⟨false,H⟩:oA)],F.V6,F.Hi,F.Lo,(AQ (1+v39)),J.gS) else AB (τ:=px×(I oA)×C×j×j×(I gF)) (λY=> if (v36==1) then
(iB H 0).bind λbh=>
(rk H 0 103).bind λaj=> Y (v37,[(⟨false,aj⟩:oA)],F.V6,F.Hi,F.Lo,J.gS) else AB (τ:=px×(I oA)×C×j×j×(I gF)) (λZ=> if (v36==2) then Z (v37,((⟨false,H⟩:oA)::([(⟨true,([7,9]:I Int)⟩:oA)]:I oA)),F.V6,F.Hi,F.Lo,J.gS) else AB (τ:=px×(I oA)×C×j×j×(I gF)) (λa6=> if (v36==3) then
(gH (α:=Int) 8 H ([99]:I Int)).bind λak=> a6 (v37,[(⟨false,ak⟩:oA)],F.V6,F.Hi,F.Lo,J.gS) else AB (τ:=px×(I oA)×C×j×j×(I gF)) (λa7=> if (v36==4) then
(Eo 104 a2).bind λM=> a7 (v37,[(⟨false,H⟩:oA)],M.V6,M.Hi,M.Lo,J.gS) else AB (τ:=px×(I oA)×(I gF)) (λa8=> if (v36==5) then
(gH (α:=Int) 8 H ([64512,701]:I Int)).bind λal=> a8 (v37,[(⟨false,al⟩:oA)],J.gS) else AB (τ:=px×(I oA)×(I gF)) (λaa=> if (v36==6) then aa (v37,[],J.gS) else AB (τ:=px×(I gF)) (λab=> if (v36==7) then
(AG v37 256).bind λ(v53,v54)=> ab (v54,[(⟨224,99,([(1:S),(Az v53)]:I S)⟩:gF)]) else ab (v37,J.gS)
) λ(v55,an)=> aa (v55,[(⟨false,H⟩:oA)],an)
) λ(v57,v58,v59)=> a8 (v57,v58,v59)
) λ(v60,ao,ap)=> a7 (v60,ao,F.V6,F.Hi,F.Lo,ap)
) λ(v63,v64,aq,v66,v67,ar)=> a6 (v63,v64,aq,v66,v67,ar)
) λ(au,v70,ax,v72,ay,az)=> Z (au,v70,ax,v72,ay,az)
) λ(v75,v76,v77,v78,v79,v80)=> Y (v75,v76,v77,v78,v79,v80)
) λ(b0,v82,ba,bb,v85,bc)=> V (b0,v82,ba,bb,v85,J.qz,bc)
) λ(v87,bd,be,bf,v91,bg,v93)=> some ((⟨v2,bd,(⟨be,bf,v91⟩:Addr),v24,v31,bg,v32,ai,v93⟩:gE),v87)
def EI (H:px)(F:Int):O (o3×px):=
(B6 H).bind λ(v1,v2)=>
(EJ v2 F v1.Addr.V6).bind λ(v3,v4)=> some ((⟨v1,F,v3⟩:o3),v4)
def Cd (a0:px)(a1:Int):O (qC×px):=
(DU).bind λF=>
(AG a0 3).bind λ(v2,v3)=> AB (τ:=px×(I fI)) (λk4=> A3 (σ:=Int×px×(I fI)) (λJ (v6,v7,v8)=> AB (τ:=C×px) (λk9=> if (decide (v6>0)) then
(AG v7 2).bind λ(v10,v11)=> k9 ((cond true (v10==0) false),v11) else k9 (false,v7)
) λ(v12,K)=> if v12 then
(B6 K).bind λ(Q,U)=>
(gH (α:=fI) 32 v8 ([Q]:I fI)).bind λV=> J ((AQ (v6-1)),U,V) else k4 (K,v8)
) qb (v2,v3,[])
) λ(v17,Y)=>
(AG v17 5).bind λ(Z,v20)=> AB (τ:=px×Int×(I oA)×C×j×j×Int×Int×Int×(I oF)×(I ls)×(I gF)×(I fI)) (λM=> if (decide (Z>0)) then
(EI v20 a1).bind λ(v22,v23)=>
(AG v23 3).bind λ(v24,v25)=> AB (τ:=px×(I fI)) (λa6=> A3 (σ:=Int×px×(I fI)) (λH (v28,v29,v30)=> if (decide (v28>0)) then
(B6 v29).bind λ(v31,v32)=> AB (τ:=(I fI)) (λP=> if (v31.Addr.V6==v22.fI.Addr.V6) then
(gH (α:=fI) 32 v30 ([v31]:I fI)).bind λa7=> P a7 else P v30
) λa8=> H ((AQ (v28-1)),v32,a8) else a6 (v29,v30)
) qb (v24,v25,([v22.fI]:I fI))
) λ(v36,v37)=> M (v36,v22.gE.gT,v22.gE.Path,v22.gE.Next.V6,v22.gE.Next.Hi,v22.gE.Next.Lo,v22.gE.qW,v22.gE.qd,v22.gE.qz,v22.gE.cW,v22.gE.ls,v22.gE.gS,v37) else M (v20,F.gT,F.Path,F.Next.V6,F.Next.Hi,F.Next.Lo,F.qW,F.qd,F.qz,F.cW,F.ls,F.gS,[])
) λ(aa,v39,v40,v41,ab,ae,v44,v45,v46,af,ag,v49,v50)=> some ((⟨Y,(⟨v39,v40,(⟨v41,ab,ae⟩:Addr),v44,v45,v46,af,ag,v49⟩:gE),v50⟩:qC),aa)
def JF (H:Addr)(F:Addr):O Int:= if (Addr.qK H F) then some 0 else if (!(H.V6==F.V6)) then if F.V6 then some (-1) else some 1 else AB (τ:=C) (λJ=> if (decide ((H.Hi.toNat:Int)<(F.Hi.toNat:Int))) then J true else if ((H.Hi.toNat:Int)==(F.Hi.toNat:Int)) then J (cond false true (cond true (decide ((H.Lo.toNat:Int)<(F.Lo.toNat:Int))) false)) else J false
) λK=> if K then some (-1) else some 1
def DL (F:fI)(H:fI):O Int:=
(JF F.Addr H.Addr).bind λJ=> if (J !=0) then some J else if (decide (F.qo<H.qo)) then some (-1) else if (decide (F.qo>H.qo)) then some 1 else some 0
def Eh (J:iA):O (Int×Int):= AB (τ:=Int×Int) (λK=> AH (σ:=Int×Int) (λ(v2,v3)=> K (v2,v3)
) (λF (M:fT) i6 (v2,v3)=> AB (τ:=Int×Int) (λH=> if M.o3.fI.Addr.V6 then H (v2,(AQ (v3+1))) else H ((AQ (v2+1)),v3)
) λ(P,v9)=> F (P,v9)
) J.fT 0 (0,0)
) λ(v10,v11)=> some (v10,v11)
def Hk (F:Int):O C:= AB (τ:=C) (λH=> if (decide (F≥1)) then H (cond true (decide (F<=4294967295)) false) else H false
) λJ=> some J
def By (F:Addr):O C:= AB (τ:=C) (λH=> if F.V6 then H true else if ((F.Hi.toNat:Int)==0) then H (cond false true (cond true (decide ((F.Lo.toNat:Int)<4294967296)) false)) else H false
) λJ=> some J
def DO (F:kI):O C:= AB (τ:=Unit) (λK=> AH (σ:=Unit) (λ_=> K ()
) (λH (M:Addr) i4 _=>
(By M).bind λP=> if (!P) then some false else H ()
) F.oE 0 ()
) λ_=> AB (τ:=C) (λJ=>
(Hk F.ql).bind λQ=> if Q then if (cond true (decide (F.qh≥0)) false) then if (cond true (decide (F.qh<=256)) false) then if (cond true (decide (F.qg≥0)) false) then if (cond true (decide (F.qg<=256)) false) then J (cond true (decide ((F.oE.length:Int)<=8)) false) else J false else J false else J false else J false else J false
) λU=> some U
def BV (H:Addr):O (I S):=
(By H).bind λU=> if (!U) then some [] else AB (τ:=Int) (λM=> if H.V6 then M 16 else M 4
) λV=> AB (τ:=(I S)) (λY=> A3 (σ:=Int×(I S)) (λF (v6,P)=> if (decide (v6≥0)) then AB (τ:=j) (λQ=> if (decide (v6≥8)) then Q H.Hi else Q H.Lo
) λZ=>
(gH (α:=S) 1 P ([(Az ((AY (Xay (Z.toNat:Int) (2^(min (Xi ((AY (8*((AY (Int.tmod v6 8)).toNat:Int))).toNat:Int)) 64)))).toNat:Int))]:I S)).bind λJ=> F ((AQ (v6-1)),J) else Y P
) qb ((AQ (V-1)),[])
) λK=> some K
def CH (F:Addr):O Int:= if F.V6 then some 128 else some 32
def Bf (J:I S):O (Addr×Int):= AB (τ:=C) (λK=> if ((J.length:Int) !=4) then K (cond true ((J.length:Int) !=16) false) else K false
) λM=> if M then some ((⟨false,(0:j),(0:j)⟩:Addr),1) else AB (τ:=Addr) (λP=> AH (σ:=Addr) (λH=> P H
) (λF (Q:S) i7 H=> F (⟨H.V6,(AY ((Xq 64 ((AY ((H.Hi.toNat:Int)*(2^(min (Xi 8) 64)))).toNat:Int) ||| Xq 64 ((AY (Xay (H.Lo.toNat:Int) (2^(min (Xi 56) 64)))).toNat:Int)).toNat:Int)),(AY ((Xq 64 ((AY ((H.Lo.toNat:Int)*(2^(min (Xi 8) 64)))).toNat:Int) ||| Xq 64 ((AY (Q.toNat:Int)).toNat:Int)).toNat:Int))⟩:Addr)
) J 0 (⟨((J.length:Int)==16),(0:j),(0:j)⟩:Addr)
) λU=> some (U,0)
def C6 (K:Addr)(J:Int):O (fI×Int):=
(By K).bind λY=> if (!Y) then some ((⟨(⟨false,(0:j),(0:j)⟩:Addr),0⟩:fI),1) else AB (τ:=C) (λV=> if (decide (J<0)) then V true else
(CH K).bind λZ=> V (cond false true (decide (J>Z)))
) λv4=> if v4 then some ((⟨(⟨false,(0:j),(0:j)⟩:Addr),0⟩:fI),9) else
(BV K).bind λv5=> AB (τ:=(I S)) (λk6=> A3 (σ:=Int×(I S)) (λF (H,v9)=> if (decide (H<(AQ (8*(v9.length:Int))))) then
(iB v9 (AQ (Int.tdiv H 8))).bind λM=>
(iB v9 (AQ (Int.tdiv H 8))).bind λa6=>
(rk v9 (AQ (Int.tdiv H 8)) (Az ((Xq 8 (M.toNat:Int) &&& ~~~Xq 8 ((Az (Xay 128 (2^(min (Xi ((AY (Int.tmod H 8)).toNat:Int)) 8)))).toNat:Int)).toNat:Int))).bind λP=> F ((AQ (H+1)),P) else k6 v9
) qb (J,v5)
) λQ=>
(Bf Q).bind λ(U,a7)=> some ((⟨U,J⟩:fI),0)
def An (F:fI):O C:=
(C6 F.Addr F.qo).bind λ(v1,v2)=> AB (τ:=C) (λH=> if (v2==0) then H (cond true (fI.qK F v1) false) else H false
) λJ=> some J
def BQ (F:Int):O Int:= AB (τ:=C) (λJ=> if (F==1) then J (F==1) else AB (τ:=C) (λK=> if (F==2) then K (F==2) else AB (τ:=C) (λM=> if (F==3) then M (F==3) else M (F==5)
) λU=> K U
) λV=> J V
) λY=> if Y then some 64 else if (F==4) then some 128 else AB (τ:=C) (λP=> if (F==8) then P (F==8) else AB (τ:=C) (λQ=> if (F==32) then Q (F==32) else Q (F==35)
) λZ=> P Z
) λH=> if H then some 192 else some 0
def Cb (F:Int):O C:= AB (τ:=C) (λH=>
(BQ F).bind λJ=> if (J==0) then if (cond true (F !=14) false) then H (cond true (F !=15) false) else H false else H false
) λK=> some K
def Ed (a0:I oA):O C:= AB (τ:=Int) (λk1=> AH (σ:=Int) (λU=> k1 U
) (λJ (M:oA) i5 U=> AB (τ:=Unit) (λk6=> AB (τ:=C) (λQ=> if ((M.lf.length:Int)==0) then Q true else if (decide ((i5:Int)>0)) then if (cond true (!M.Set) false) then
(iB a0 (AQ ((i5:Int)-1))).bind λv8=> Q (cond false true (cond true (!v8.Set) false)) else Q false else Q false
) λv9=> if v9 then some false else AB (τ:=Unit) (λV=> AH (σ:=Unit) (λ_=> V ()
) (λH (K:Int) P _=> AB (τ:=C) (λF=> if (decide (K<1)) then F true else if (cond false true (decide (K>4294967295))) then F true else if M.Set then if (cond true (decide ((P:Int)>0)) false) then
(iB M.lf (AQ ((P:Int)-1))).bind λY=> F (cond false true (cond true (decide (Y≥K)) false)) else F false else F false
) λZ=> if Z then some false else H ()
) M.lf 0 ()
) λ_=> k6 ()
) λ_=> J (AQ (U+(M.lf.length:Int)))
) a0 0 0
) λa1=> some (decide (a1<=64))
def EU (F:oF):O C:= AB (τ:=C) (λH=> if (decide (F.A≥0)) then if (cond true (decide (F.A<=65535)) false) then if (cond true (decide (F.B≥0)) false) then H (cond true (decide (F.B<=65535)) false) else H false else H false else H false
) λJ=> some J
def FH (F:oF)(H:oF):O C:= AB (τ:=C) (λJ=> if (decide (F.A<H.A)) then J true else if (F.A==H.A) then J (cond false true (cond true (decide (F.B<H.B)) false)) else J false
) λK=> some K
def FY (H:I oF):O C:= AB (τ:=Unit) (λP=> AH (σ:=Unit) (λ_=> P ()
) (λF (K:oF) M _=> AB (τ:=C) (λJ=>
(EU K).bind λQ=> if (!Q) then J true else if (decide ((M:Int)>0)) then
(iB H (AQ ((M:Int)-1))).bind λU=>
(FH U K).bind λV=> J (cond false true (cond true (!V) false)) else J false
) λY=> if Y then some false else F ()
) H 0 ()
) λ_=> some (decide ((H.length:Int)<=64))
def B5 (F:ls):O Bool:= AB (τ:=Bool) (λH=> if (decide (F.A≥0)) then if (cond true (decide (F.A<=4294967295)) false) then if (cond true (decide (F.B≥0)) false) then if (cond true (decide (F.B<=4294967295)) false) then if (cond true (decide (F.C≥0)) false) then H (cond true (decide (F.C<=4294967295)) false) else H false else H false else H false else H false else H false
) λJ=> some J
def CO (F:ls)(H:ls):O Bool:= AB (τ:=Bool) (λJ=> if (decide (F.A<H.A)) then J true else if (F.A==H.A) then if (decide (F.B<H.B)) then J true else if (F.B==H.B) then J (cond false true (cond true (cond false true (cond true (decide (F.C<H.C)) false)) false)) else J false else J false
) λK=> some K
def Cf (H:I ls):O C:= AB (τ:=Unit) (λP=> AH (σ:=Unit) (λ_=> P ()
) (λF (K:ls) M _=> AB (τ:=C) (λJ=>
(B5 K).bind λQ=> if (!Q) then J true else if (decide ((M:Int)>0)) then
(iB H (AQ ((M:Int)-1))).bind λU=>
(CO U K).bind λV=> J (cond false true (cond true (!V) false)) else J false
) λY=> if Y then some false else F ()
) H 0 ()
) λ_=> some (decide ((H.length:Int)<=64))
def DV (F:gE):O C:= AB (τ:=Unit) (λk1=> AH (σ:=Unit) (λ_=> k1 ()
) (λJ (M:gF) i4 _=> AB (τ:=C) (λK=> if (decide (M.hB<1)) then K true else if (cond false true (decide (M.hB>255))) then K true else
(Cb M.hB).bind λv6=> if (cond false true (!v6)) then K true else if (cond false true (M.Flags !=224)) then K true else if (cond false true (decide ((M.Data.length:Int)>255))) then K true else if (decide ((i4:Int)>0)) then
(iB F.gS (AQ ((i4:Int)-1))).bind λv7=> K (cond false true (cond true (decide (v7.hB≥M.hB)) false)) else K false
) λv8=> if v8 then some false else J ()
) F.gS 0 ()
) λ_=> AB (τ:=C) (λH=> if (decide (F.gT≥(-1))) then if (cond true (decide (F.gT<=2)) false) then
(Ed F.Path).bind λP=> if (cond true P false) then
(By F.Next).bind λQ=> if (cond true Q false) then if (cond true (decide (F.qW≥(-1))) false) then if (cond true (decide (F.qW<=4294967295)) false) then if (cond true (decide (F.qd≥(-1))) false) then if (cond true (decide (F.qd<=4294967295)) false) then if (F.qz==(-1)) then
(FY F.cW).bind λU=> if (cond true U false) then
(Cf F.ls).bind λV=> if (cond true V false) then H (cond true (decide ((F.gS.length:Int)<=8)) false) else H false else H false else if (decide (F.qz≥1)) then if (cond true (cond false true (cond true (decide (F.qz<=4294967295)) false)) false) then
(FY F.cW).bind λY=> if (cond true Y false) then
(Cf F.ls).bind λZ=> if (cond true Z false) then H (cond true (decide ((F.gS.length:Int)<=8)) false) else H false else H false else H false else H false else H false else H false else H false else H false else H false else H false else H false else H false
) λa1=> some a1
def Ee (F:iA):O C:= AB (τ:=C) (λQ=>
(DO F.kI).bind λv2=> if (!v2) then Q true else if (cond false true (decide ((F.fT.length:Int)>256))) then Q true else if (cond false true (decide (F.oT<0))) then Q true else Q (cond false true (decide (F.oT>1073745919)))
) λv3=> if v3 then some false else AB (τ:=C) (λk4=> AH (σ:=C) (λU=> k4 U
) (λK (J:fT) i8 U=> AB (τ:=C) (λH=>
(An J.o3.fI).bind λV=> if (!V) then H true else if (decide ((i8:Int)>0)) then
(iB F.fT (AQ ((i8:Int)-1))).bind λY=>
(DL Y.o3.fI J.o3.fI).bind λZ=> if (cond false true (cond true (decide (Z≥0)) false)) then H true else
(DV J.o3.gE).bind λa1=> if (cond false true (!a1)) then H true else if (cond false true (J.o3.qM !=F.kI.ql)) then H true else if (cond false true (decide (J.qx<0))) then H true else if (cond false true (decide (J.qx>14))) then H true else if (!F.Up) then H (cond false true (cond true (!J.qA) false)) else H false else
(DV J.o3.gE).bind λa6=> if (cond false true (!a6)) then H true else if (cond false true (J.o3.qM !=F.kI.ql)) then H true else if (cond false true (decide (J.qx<0))) then H true else if (cond false true (decide (J.qx>14))) then H true else if (!F.Up) then H (cond false true (cond true (!J.qA) false)) else H false
) λa7=> if a7 then some false else AB (τ:=C) (λP=> if U then P true else P (cond false true J.qA)
) λa8=> K a8
) F.fT 0 false
) λaa=>
(Eh F).bind λ(ab,v20)=> AB (τ:=C) (λM=> if (aa==(F.oT !=0)) then if (cond true (decide (ab<=F.kI.qh)) false) then M (cond true (decide (v20<=F.kI.qg)) false) else M false else M false
) λae=> some ae
def IM (Z:I oA)(J:I oA):O C:= if ((Z.length:Int) !=(J.length:Int)) then some false else AB (τ:=Unit) (λk1=> AH (σ:=Unit) (λ_=> k1 ()
) (λH (K:oA) M _=> AB (τ:=Unit) (λk5=> AB (τ:=C) (λk6=>
(iB J (M:Int)).bind λv7=> if (!(K.Set==v7.Set)) then k6 true else
(iB J (M:Int)).bind λv8=> k6 (cond false true ((K.lf.length:Int) !=(v8.lf.length:Int)))
) λv9=> if v9 then some false else AB (τ:=Unit) (λP=> AH (σ:=Unit) (λ_=> P ()
) (λF (Q:Int) U _=>
(iB J (M:Int)).bind λV=>
(iB V.lf (U:Int)).bind λY=> if (Y !=Q) then some false else F ()
) K.lf 0 ()
) λ_=> k5 ()
) λ_=> H ()
) Z 0 ()
) λ_=> some true
def IQ (H:I oF)(J:I oF):O C:= if ((H.length:Int) !=(J.length:Int)) then some false else AB (τ:=Unit) (λK=> AH (σ:=Unit) (λ_=> K ()
) (λF (M:oF) P _=>
(iB J (P:Int)).bind λQ=> if (!(oF.qK Q M)) then some false else F ()
) H 0 ()
) λ_=> some true
def EE (H:I ls)(J:I ls):O C:= if ((H.length:Int) !=(J.length:Int)) then some false else AB (τ:=Unit) (λK=> AH (σ:=Unit) (λ_=> K ()
) (λF (M:ls) P _=>
(iB J (P:Int)).bind λQ=> if (!(ls.qK Q M)) then some false else F ()
) H 0 ()
) λ_=> some true
def Ea (P:I gF)(H:I gF):O C:= if ((P.length:Int) !=(H.length:Int)) then some false else AB (τ:=Unit) (λQ=> AH (σ:=Unit) (λ_=> Q ()
) (λF (J:gF) K _=> AB (τ:=C) (λM=>
(iB H (K:Int)).bind λU=> if (J.Flags !=U.Flags) then M true else
(iB H (K:Int)).bind λV=> if (cond false true (J.hB !=V.hB)) then M true else
(iB H (K:Int)).bind λY=> M (cond false true (!((bs J.Data).toList==(bs Y.Data).toList)))
) λZ=> if Z then some false else F ()
) P 0 ()
) λ_=> some true
def EZ (F:gE)(H:gE):O C:= AB (τ:=C) (λJ=> if (F.gT==H.gT) then
(IM F.Path H.Path).bind λK=> if (cond true K false) then if (cond true (Addr.qK F.Next H.Next) false) then if (cond true (F.qW==H.qW) false) then if (cond true (F.qd==H.qd) false) then if (cond true (F.qz==H.qz) false) then
(IQ F.cW H.cW).bind λM=> if (cond true M false) then
(EE F.ls H.ls).bind λP=> if (cond true P false) then
(Ea F.gS H.gS).bind λQ=> J (cond true Q false) else J false else J false else J false else J false else J false else J false else J false else J false
) λU=> some U
def AO (H:Int)(J:Int):O (I S):= AB (τ:=(I S)) (λK=> A3 (σ:=Int×(I S)) (λF (v3,v4)=> if (decide (v3≥0)) then
(gH (α:=S) 1 v4 ([(Az (Xay H (2^(min (Xi ((AY (8*((AY v3).toNat:Int))).toNat:Int)) 64))))]:I S)).bind λM=> F ((AQ (v3-1)),M) else K v4
) qb ((AQ (J-1)),[])
) λP=> some P
def Ft (F:gE):O ((I gF)×Int):=
(DV F).bind λv1=> if (!v1) then some ([],1) else AB (τ:=(I (Int×(I S)))) (λk2=> if (decide (F.gT≥0)) then k2 (BJ [] 1 ([(Az F.gT)]:I S)) else k2 []
) λv3=> AB (τ:=Bool) (λk4=> if (decide (F.gT≥0)) then k4 true else k4 (cond false true (decide ((F.Path.length:Int)>0)))
) λv5=> AB (τ:=(I (Int×(I S)))) (λk6=> if v5 then AB (τ:=(I S)) (λk7=> AH (σ:=(I S)) (λv8=> k7 v8
) (λV (Y:oA) i11 v8=> AB (τ:=(I S)) (λaz=> AB (τ:=S) (λa8=> if Y.Set then a8 (1:S) else a8 (2:S)
) λb0=>
(gH (α:=S) 1 v8 ([b0,(Az (Y.lf.length:Int))]:I S)).bind λba=> AB (τ:=(I S)) (λbb=> AH (σ:=(I S)) (λZ=> bb Z
) (λJ (bc:Int) i20 Z=>
(AO bc 4).bind λbd=>
(gH (α:=S) 1 Z bd).bind λbe=> J be
) Y.lf 0 ba
) λbf=> az bf
) λbg=> V bg
) F.Path 0 ([]:I S)
) λbh=> k6 (BJ v3 2 bh) else k6 v3
) λaa=> AB (τ:=Bool) (λab=> if (!(Addr.qK F.Next (⟨false,(0:j),(0:j)⟩:Addr))) then ab (cond true (!F.Next.V6) false) else ab false
) λbi=> AB (τ:=(I (Int×(I S)))) (λae=> if bi then
(BV F.Next).bind λbj=> ae (BJ aa 3 bj) else ae aa
) λaf=> AB (τ:=(I (Int×(I S)))) (λag=> if (decide (F.qW≥0)) then
(AO F.qW 4).bind λbk=> ag (BJ af 4 bk) else ag af
) λah=> AB (τ:=(I (Int×(I S)))) (λai=> if (decide (F.qd≥0)) then
(AO F.qd 4).bind λbl=> ai (BJ ah 5 bl) else ai ah
) λaj=> AB (τ:=(I (Int×(I S)))×(I S)) (λbm=>
(rv ((BA aj 8).isNone=true)).bind λ_=> AH (σ:=(I (Int×(I S)))×(I S)) (λ(v39,v40)=> bm (v39,v40)
) (λK (ak:oF) i43 (v39,v40)=>
(AO ak.A 2).bind λbn=>
(gH (α:=S) 1 v40 bn).bind λbo=>
(AO ak.B 2).bind λbp=>
(gH (α:=S) 1 bo bp).bind λal=> K ((BJ v39 8 al),al)
) F.cW 0 (aj,[])
) λ(an,v49)=> AB (τ:=(I (Int×(I S)))×(I S)) (λbq=>
(rv ((BA an 32).isNone=true)).bind λ_=> AH (σ:=(I (Int×(I S)))×(I S)) (λ(v51,a1)=> bq (v51,a1)
) (λM (a6:ls) i55 (v51,a1)=>
(AO a6.A 4).bind λbr=>
(gH (α:=S) 1 a1 br).bind λbu=>
(AO a6.B 4).bind λbw=>
(gH (α:=S) 1 bu bw).bind λbx=>
(AO a6.C 4).bind λbz=>
(gH (α:=S) 1 bx bz).bind λao=> M ((BJ v51 32 ao),ao)
) F.ls 0 (an,[])
) λ(ap,v63)=> AB (τ:=(I (Int×(I S)))) (λaq=> if (decide (F.qz≥0)) then
(AO F.qz 4).bind λc0=> aq (BJ ap 35 c0) else aq ap
) λar=> AB (τ:=(I gF)) (λc3=> A3 (σ:=Int×(I gF)) (λP (H,v70)=> if (decide (H<256)) then AB (τ:=(I gF)) (λc4=>
(some (Xbk (BA ar H) [])).bind λau=>
(some (Option.isSome (BA ar H))).bind λc5=> AB (τ:=(I gF)) (λax=> if c5 then
(BQ H).bind λc6=>
(gH (α:=S) 1 [] au).bind λ_=>
(gH (α:=gF) 40 v70 ([(⟨c6,H,au⟩:gF)]:I gF)).bind λc7=> ax c7 else ax v70
) λc8=> AB (τ:=(I gF)) (λc9=> AH (σ:=(I gF)) (λQ=> c9 Q
) (λU (a7:gF) i82 Q=> AB (τ:=(I gF)) (λay=> if (a7.hB==H) then
(gH (α:=S) 1 [] a7.Data).bind λ_=>
(gH (α:=gF) 40 Q ([{ a7 with hB:=H }]:I gF)).bind λca=> ay ca else ay Q
) λcb=> U cb
) F.gS 0 c8
) λcc=> c4 cc
) λcd=> P ((AQ (H+1)),cd) else c3 v70
) qb (0,[])
) λcf=> some (cf,0)
def D2 (U:I fI)(V:C):O (I S):= AB (τ:=(I S)) (λY=> AH (σ:=(I S)) (λJ=> Y J
) (λF (H:fI) i5 J=> AB (τ:=(I S)) (λP=> if (H.Addr.V6==V) then
(gH (α:=S) 1 J ([(Az H.qo)]:I S)).bind λZ=>
(BV H.Addr).bind λQ=>
(rv (0<=(0:Int)/\(0:Int)<=(AQ (Int.tdiv (AQ (H.qo+7)) 8))/\(AQ (Int.tdiv (AQ (H.qo+7)) 8))<=(Q.length:Int))).bind λ_=>
(gH (α:=S) 1 Z (Xbg (Xi (AQ (Int.tdiv (AQ (H.qo+7)) 8))-Xi 0) (Xbh (Xi 0) Q))).bind λv9=> P v9 else P J
) λK=> F K
) U 0 []
) λM=> some M
def FW (H:I gF)(P:gF):O (I gF):= AB (τ:=Int) (λY=> A3 (σ:=Int) (λF J=> AB (τ:=C) (λQ=> if (decide (J<(H.length:Int))) then
(iB H J).bind λZ=> Q (cond true (decide (Z.hB<P.hB)) false) else Q false
) λv6=> if v6 then F (AQ (J+1)) else Y J
) qb 0
) λU=>
(part H 0 U).bind λV=>
(gH (α:=gF) 40 [] V).bind λ_=>
(gH (α:=gF) 40 V ([P]:I gF)).bind λv9=>
(part H U (H.length:Int)).bind λK=>
(gH (α:=gF) 40 v9 K).bind λM=> some M
def H5 (a0:I gF):O ((I S)×Int):= AB (τ:=Unit) (λk1=> AH (σ:=Unit) (λ_=> k1 ()
) (λH (K:gF) i4 _=> AB (τ:=C) (λM=> if (decide (K.Flags<0)) then M true else if (cond false true (decide (K.Flags>255))) then M true else if (cond false true (decide (K.hB<0))) then M true else if (cond false true (decide (K.hB>255))) then M true else M (cond false true (decide ((K.Data.length:Int)>65535)))
) λv6=> if v6 then some ([],1) else H ()
) a0 0 ()
) λ_=> AB (τ:=(I S)) (λk7=> AH (σ:=(I S)) (λU=> k7 U
) (λJ (F:gF) i11 U=> AB (τ:=(I S)) (λP=> if (decide ((F.Data.length:Int)>255)) then
(gH (α:=S) 1 U ([(Az ((Xq 8 ((Az ((Xq 8 ((Az F.Flags).toNat:Int) &&& Xq 8 224).toNat:Int)).toNat:Int) ||| Xq 8 16).toNat:Int)),(Az F.hB),(Az (Xay (F.Data.length:Int) (2^(min (Xi 8) 64)))),(Az (F.Data.length:Int))]:I S)).bind λV=> P V else
(gH (α:=S) 1 U ([(Az ((Xq 8 ((Az F.Flags).toNat:Int) &&& Xq 8 224).toNat:Int)),(Az F.hB),(Az (F.Data.length:Int))]:I S)).bind λY=> P Y
) λZ=>
(gH (α:=S) 1 Z F.Data).bind λa1=> J a1
) a0 0 []
) λQ=> if (decide ((Q.length:Int)>2048)) then some ([],3) else some (Q,0)
def Fe (F:qC):O ((I S)×Int):= AB (τ:=(I gF)) (λk1=> if (decide ((F.gO.length:Int)>0)) then
(Ft F.gE).bind λ(v2,v3)=> if (v3 !=0) then some ([],v3) else k1 v2 else k1 []
) λv4=>
(D2 F.gO true).bind λv5=> AB (τ:=(I gF)) (λk6=> if (decide ((v5.length:Int)>0)) then
(BV F.gE.Next).bind λv7=>
(gH (α:=S) 1 ([(0:S),(2:S),(1:S),(16:S)]:I S) v7).bind λv8=>
(gH (α:=S) 1 v8 ([(0:S)]:I S)).bind λv9=>
(gH (α:=S) 1 v9 v5).bind λU=>
(FW v4 (⟨128,14,U⟩:gF)).bind λV=> k6 V else k6 v4
) λK=>
(D2 F.mu true).bind λM=> AB (τ:=(I gF)) (λP=> if (decide ((M.length:Int)>0)) then
(gH (α:=S) 1 ([(0:S),(2:S),(1:S)]:I S) M).bind λY=>
(FW K (⟨128,15,Y⟩:gF)).bind λZ=> P Z else P K
) λa1=>
(H5 a1).bind λ(H,Q)=> if (Q !=0) then some ([],Q) else
(D2 F.mu false).bind λJ=>
(gH (α:=S) 1 ([(Az (Xay (J.length:Int) (2^(min (Xi 8) 64)))),(Az (J.length:Int))]:I S) J).bind λa6=>
(gH (α:=S) 1 a6 ([(Az (Xay (H.length:Int) (2^(min (Xi 8) 64)))),(Az (H.length:Int))]:I S)).bind λa7=>
(gH (α:=S) 1 a7 H).bind λa8=>
(D2 F.gO false).bind λaa=>
(gH (α:=S) 1 a8 aa).bind λab=> some (ab,0)
def G2 (F:qC):O C:= AB (τ:=C) (λk1=> if (decide ((F.mu.length:Int)>256)) then k1 true else k1 (cond false true (decide ((F.gO.length:Int)>256)))
) λv2=> if v2 then some false else
(gH (α:=fI) 32 [] F.mu).bind λ_=>
(gH (α:=fI) 32 F.mu F.gO).bind λv3=> AB (τ:=Unit) (λk4=> AH (σ:=Unit) (λ_=> k4 ()
) (λK (x6:fI) i7 _=>
(An x6).bind λv8=> if (!v8) then some false else K ()
) v3 0 ()
) λ_=> AB (τ:=C) (λk9=> if ((F.gO.length:Int)==0) then
(DU).bind λP=>
(EZ F.gE P).bind λQ=> k9 (cond true (!Q) false) else k9 false
) λU=> if U then some false else AB (τ:=Unit) (λV=> AH (σ:=Unit) (λ_=> V ()
) (λH (Y:fI) i16 _=> AB (τ:=C) (λJ=> if (!(Y.Addr.V6==F.gE.Next.V6)) then J true else if (cond false true (F.gE.gT==(-1))) then J true else if (cond false true (Addr.qK F.gE.Next (⟨false,(0:j),(0:j)⟩:Addr))) then J true else
(DV F.gE).bind λZ=> J (cond false true (!Z))
) λa1=> if a1 then some false else H ()
) F.gO 0 ()
) λ_=>
(Fe F).bind λ(v20,v21)=> AB (τ:=C) (λM=> if (v21==0) then M (cond true (decide ((v20.length:Int)<=4077)) false) else M false
) λa6=> some a6
def JA (F:o3):O C:= AB (τ:=C) (λH=>
(An F.fI).bind λJ=> if (!J) then H true else
(DV F.gE).bind λK=> if (cond false true (!K)) then H true else if (cond false true (F.gE.gT==(-1))) then H true else if (cond false true ((F.gE.Path.length:Int)==0)) then H true else if (cond false true (Addr.qK F.gE.Next (⟨false,(0:j),(0:j)⟩:Addr))) then H true else H (cond false true (!(F.gE.Next.V6==F.fI.Addr.V6)))
) λM=> some M
def G5 (F:I oA):O (Int×C):= AB (τ:=C) (λH=>
(Ed F).bind λJ=> if (!J) then H true else if (cond false true ((F.length:Int)==0)) then H true else
(iB F 0).bind λK=> H (cond false true K.Set)
) λM=> if M then some (0,false) else
(iB F 0).bind λP=>
(iB P.lf 0).bind λQ=> some (Q,true)
def He (M:I oA):O Int:= AB (τ:=Int) (λP=> AH (σ:=Int) (λH=> P H
) (λF (J:oA) i5 H=> AB (τ:=Int) (λK=> if J.Set then K (AQ (H+1)) else K (AQ (H+(J.lf.length:Int)))
) λQ=> F Q
) M 0 0
) λU=> some U
def FM (J:I oA):O (I Int):= AB (τ:=(I Int)) (λK=> AH (σ:=(I Int)) (λH=> K H
) (λF (M:oA) i5 H=>
(gH (α:=Int) 8 H M.lf).bind λP=> F P
) J 0 []
) λQ=> some Q
def JK (H:I oA)(J:Int):O C:=
(FM H).bind λK=> AB (τ:=Unit) (λM=> AH (σ:=Unit) (λ_=> M ()
) (λF (P:Int) i5 _=> if (P==J) then some true else F ()
) K 0 ()
) λ_=> some false
def Fj (H:I Int)(J:Int):O C:= AB (τ:=Unit) (λK=> AH (σ:=Unit) (λ_=> K ()
) (λF (M:Int) i4 _=> if (M==J) then some true else F ()
) H 0 ()
) λ_=> some false
def Gs (F:Int):O Int:= if (F==0) then some 3 else if (F==3) then some 0 else if (F==1) then some 2 else if (F==2) then some 1 else if (F==4) then some 4 else some (-1)
def JO (J:Int)(H:Int):O C:= AB (τ:=C) (λF=>
(Gs J).bind λK=> if (K==(-1)) then F true else if (cond false true (decide (H<1))) then F true else F (cond false true (decide (H>4294967295)))
) λM=> some M
def FB (F:Int)(K:Int)(H:gE):O (gE×Int):=
(JO F K).bind λV=> if V then some ((⟨0,[],(⟨false,(0:j),(0:j)⟩:Addr),0,0,0,[],[],[]⟩:gE),1) else AB (τ:=C) (λP=> if (F==3) then P true else P (cond false true (F==2))
) λQ=> AB (τ:=C) (λJ=> if (H.qz !=(-1)) then if (cond true (!Q) false) then if (F !=4) then J true else J (cond true (cond false true (H.qz !=K)) false) else J false else J false
) λY=> if Y then some ((⟨0,[],(⟨false,(0:j),(0:j)⟩:Addr),0,0,0,[],[],[]⟩:gE),30) else AB (τ:=C) (λM=> if (H.qz==(-1)) then if Q then M true else M (cond true (cond false true (F==4)) false) else M false
) λZ=> AB (τ:=Int) (λU=> if Z then U K else U H.qz
) λv9=> some (({ H with qz:=v9 }),0)
def F5 (a0:qI)(a1:kI)(Q:gE):O (I Int):=
(G5 Q.Path).bind λ(v1,v2)=> AB (τ:=C) (λk3=> if (!v2) then k3 true else k3 (cond false true (v1 !=a1.ql))
) λv4=> AB (τ:=(I Int)) (λk5=> if v4 then
(gH (α:=Int) 8 [] ([2]:I Int)).bind λv6=> k5 v6 else k5 []
) λv7=> AB (τ:=C) (λk8=> AH (σ:=C) (λv9=> k8 v9
) (λF (aq:Addr) i12 v9=> AB (τ:=C) (λa6=> if v9 then a6 true else a6 (cond false true (Addr.qK aq Q.Next))
) λar=> F ar
) a1.oE 0 false
) λau=> AB (τ:=(I Int)) (λa7=> if (!au) then
(gH (α:=Int) 8 v7 ([3]:I Int)).bind λax=> a7 ax else a7 v7
) λa8=>
(He Q.Path).bind λay=> AB (τ:=(I Int)) (λaa=> if (decide (ay>a0.sf)) then
(gH (α:=Int) 8 a8 ([4]:I Int)).bind λaz=> aa az else aa a8
) λab=>
(JK Q.Path a0.tg).bind λb0=> AB (τ:=(I Int)) (λae=> if b0 then
(gH (α:=Int) 8 ab ([5]:I Int)).bind λba=> ae ba else ae ab
) λaf=> AB (τ:=C) (λbb=> AH (σ:=C) (λU=> bb U
) (λH (bc:oA) i31 U=> AB (τ:=C) (λag=> if U then ag true else ag (cond false true bc.Set)
) λbd=> H bd
) Q.Path 0 false
) λbe=>
(FM Q.Path).bind λbf=> AB (τ:=C×C) (λbg=> AH (σ:=C×C) (λ(v37,V)=> bg (v37,V)
) (λJ (K:Int) i41 (v37,V)=> AB (τ:=C×C) (λbh=> AB (τ:=C) (λbi=> AH (σ:=C) (λY=> bi Y
) (λM (ah:rc) i47 Y=> AB (τ:=C) (λZ=> if Y then Z true else if (decide (K≥ah.qM)) then Z (cond false true (cond true (decide (K<=ah.To)) false)) else Z false
) λbj=> M bj
) a0.qp 0 v37
) λbk=> AB (τ:=C) (λP=> if V then P true else if (K !=a1.ql) then
(Fj a0.qX K).bind λbl=> if (cond true bl false) then
(Fj a0.qX a1.ql).bind λbm=> P (cond false true (cond true (!bm) false)) else P false else P false
) λbn=> bh (bk,bn)
) λ(v55,bo)=> J (v55,bo)
) bf 0 (false,false)
) λ(v57,v58)=> AB (τ:=(I Int)) (λai=> if be then
(gH (α:=Int) 8 af ([6]:I Int)).bind λbp=> ai bp else ai af
) λaj=> AB (τ:=(I Int)) (λak=> if v57 then
(gH (α:=Int) 8 aj ([7]:I Int)).bind λbq=> ak bq else ak aj
) λal=> AB (τ:=(I Int)) (λan=> if v58 then
(gH (α:=Int) 8 al ([8]:I Int)).bind λbr=> an br else an al
) λao=>
(FB 1 a1.ql Q).bind λ(bz,bu)=> AB (τ:=(I Int)) (λap=> if (bu==30) then
(gH (α:=Int) 8 ao ([9]:I Int)).bind λbw=> ap bw else ap ao
) λbx=> some bx
def C9 (F:fI)(J:Addr):O C:=
(C6 J F.qo).bind λ(v1,v2)=> AB (τ:=C) (λH=> if (v2==0) then H (cond true (fI.qK v1 F) false) else H false
) λK=> some K
def BP (F:fI)(H:fI):O C:= AB (τ:=C) (λJ=> if (decide (H.qo≥F.qo)) then
(C9 F H.Addr).bind λK=> J (cond true K false) else J false
) λM=> some M
def GY (H:I oF)(J:oF):O C:= AB (τ:=Unit) (λK=> AH (σ:=Unit) (λ_=> K ()
) (λF (M:oF) i4 _=> if (oF.qK M J) then some true else F ()
) H 0 ()
) λ_=> some false
def Gh (F:gE):O C:=
(GY F.cW (⟨65535,666⟩:oF)).bind λH=> some H
def Hv (F:qI)(H:o3):O C:= AB (τ:=Int×Int×Int) (λJ=> if H.fI.Addr.V6 then J (F.s8,F.qg,F.rM) else J (F.sd,F.qh,F.rK)
) λ(v2,v3,v4)=>
(Gh H.gE).bind λM=> if M then some (decide (H.fI.qo<v4)) else AB (τ:=C) (λK=> if (decide (H.fI.qo<v2)) then K true else K (cond false true (decide (H.fI.qo>v3)))
) λP=> some P
def Dj (F:C):O Int:= if F then some 128 else some 32
def D1 (K:I oB):O (I oB):= AB (τ:=(I oB)) (λM=> AH (σ:=(I oB)) (λH=> M H
) (λF (J:oB) i5 H=>
(Dj J.fI.Addr.V6).bind λP=>
(gH (α:=oB) 48 H ([{ J with Max:=P }]:I oB)).bind λQ=> F Q
) K 0 []
) λU=> some U
def F9 (F:I oA):O (Int×C):= AB (τ:=C) (λH=>
(Ed F).bind λK=> if (!K) then H true else if (cond false true ((F.length:Int)==0)) then H true else
(iB F (AQ ((F.length:Int)-1))).bind λM=> H (cond false true M.Set)
) λP=> if P then some (0,false) else
(FM F).bind λJ=>
(iB J (AQ ((J.length:Int)-1))).bind λQ=> some (Q,true)
def FP (K:T):O C:= AB (τ:=Unit) (λQ=> A3 (σ:=Int) (λJ M=> if (decide (M<(K.size:Int))) then
(iB K.toList M).bind λF=> AB (τ:=C) (λH=> if (decide ((F.toNat:Int)≥97)) then if (cond true (decide ((F.toNat:Int)<=122)) false) then H (!true) else if (decide ((F.toNat:Int)≥65)) then if (cond false true (cond true (decide ((F.toNat:Int)<=90)) false)) then H (!true) else if (decide ((F.toNat:Int)≥48)) then if (cond false true (cond true (decide ((F.toNat:Int)<=57)) false)) then H (!true) else if (cond false true ((F.toNat:Int)==45)) then H (!true) else H (!(cond false true ((F.toNat:Int)==58))) else if (cond false true ((F.toNat:Int)==45)) then H (!true) else H (!(cond false true ((F.toNat:Int)==58))) else if (decide ((F.toNat:Int)≥48)) then if (cond false true (cond true (decide ((F.toNat:Int)<=57)) false)) then H (!true) else if (cond false true ((F.toNat:Int)==45)) then H (!true) else H (!(cond false true ((F.toNat:Int)==58))) else if (cond false true ((F.toNat:Int)==45)) then H (!true) else H (!(cond false true ((F.toNat:Int)==58))) else if (decide ((F.toNat:Int)≥65)) then if (cond false true (cond true (decide ((F.toNat:Int)<=90)) false)) then H (!true) else if (decide ((F.toNat:Int)≥48)) then if (cond false true (cond true (decide ((F.toNat:Int)<=57)) false)) then H (!true) else if (cond false true ((F.toNat:Int)==45)) then H (!true) else H (!(cond false true ((F.toNat:Int)==58))) else if (cond false true ((F.toNat:Int)==45)) then H (!true) else H (!(cond false true ((F.toNat:Int)==58))) else if (decide ((F.toNat:Int)≥48)) then if (cond false true (cond true (decide ((F.toNat:Int)<=57)) false)) then H (!true) else if (cond false true ((F.toNat:Int)==45)) then H (!true) else H (!(cond false true ((F.toNat:Int)==58))) else if (cond false true ((F.toNat:Int)==45)) then H (!true) else H (!(cond false true ((F.toNat:Int)==58)))
) λU=> if U then some false else J (AQ (M+1)) else Q ()
) qb 0
) λ_=> AB (τ:=C) (λP=> if (decide ((K.size:Int)≥1)) then P (cond true (decide ((K.size:Int)<=32)) false) else P false
) λV=> some V
def Bv (F:oB):O C:= AB (τ:=Int) (λJ=> if F.fI.Addr.V6 then J 128 else J 32
) λK=> AB (τ:=C) (λH=>
(An F.fI).bind λM=> if M then if (cond true (decide (F.Max≥F.fI.qo)) false) then if (cond true (decide (F.Max<=K)) false) then if (cond true (decide (F.ql≥1)) false) then H (cond true (decide (F.ql<=4294967295)) false) else H false else H false else H false else H false
) λP=> some P
def Eb (V:qS):O C:= AB (τ:=Unit) (λk1=> AH (σ:=(I (T×C))) (λZ=> k1 ()
) (λK (M:Set) i5 Z=> AB (τ:=Unit) (λk6=> AB (τ:=C) (λY=>
(FP M.Name).bind λv8=> if (!v8) then Y true else
(some (Xbk (BA Z M.Name) false)).bind λv9=> if (cond false true v9) then Y true else if (cond false true (decide ((M.lf.length:Int)>64))) then Y true else Y (cond false true (decide ((M.pk.length:Int)>64)))
) λa1=> if a1 then some false else AB (τ:=Unit) (λa6=> AH (σ:=Unit) (λ_=> a6 ()
) (λF (P:Int) i14 _=> AB (τ:=C) (λQ=> if (decide (P<1)) then Q true else Q (cond false true (decide (P>4294967295)))
) λa7=> if a7 then some false else F ()
) M.lf 0 ()
) λ_=> AB (τ:=Unit) (λa8=> AH (σ:=Unit) (λ_=> a8 ()
) (λH (aa:T) i20 _=>
(FP aa).bind λab=> if (!ab) then some false else H ()
) M.pk 0 ()
) λ_=> k6 ()
) λ_=> K (BJ Z M.Name true)
) V.pk 0 []
) λ_=> AB (τ:=Unit) (λae=> AH (σ:=Unit) (λ_=> ae ()
) (λJ (af:oB) i25 _=>
(Bv af).bind λag=> if (!ag) then some false else J ()
) V.oX 0 ()
) λ_=> AB (τ:=C) (λU=> if (decide ((V.pk.length:Int)<=64)) then U (cond true (decide ((V.oX.length:Int)<=512)) false) else U false
) λah=> some ah
def FK (J:qS)(K:T):O (Set×C):= AB (τ:=Unit) (λM=> AH (σ:=Unit) (λ_=> M ()
) (λF (H:Set) i4 _=> if (H.Name.toList==K.toList) then some (H,true) else F ()
) J.pk 0 ()
) λ_=> some ((⟨Xa4,[],[]⟩:Set),false)
def B7 (F:I T)(P:T):O (I T):= AB (τ:=Int) (λk1=> A3 (σ:=Int) (λH K=> AB (τ:=C) (λZ=> if (decide (K<(F.length:Int))) then
(iB F K).bind λv5=> Z (cond true (Op.bytesLess v5.toList P.toList) false) else Z false
) λv6=> if v6 then H (AQ (K+1)) else k1 K
) qb 0
) λM=> AB (τ:=C) (λk8=> if (decide (M<(F.length:Int))) then
(iB F M).bind λv9=> k8 (cond true (v9.toList==P.toList) false) else k8 false
) λQ=> if Q then some F else
(part F 0 M).bind λJ=>
(gH (α:=T) 16 [] J).bind λ_=>
(gH (α:=T) 16 J ([P]:I T)).bind λU=>
(part F M (F.length:Int)).bind λV=>
(gH (α:=T) 16 U V).bind λY=> some Y
def EB (F:I Int)(P:Int):O (I Int):= AB (τ:=Int) (λk1=> A3 (σ:=Int) (λH K=> AB (τ:=C) (λZ=> if (decide (K<(F.length:Int))) then
(iB F K).bind λv5=> Z (cond true (decide (v5<P)) false) else Z false
) λv6=> if v6 then H (AQ (K+1)) else k1 K
) qb 0
) λM=> AB (τ:=C) (λk8=> if (decide (M<(F.length:Int))) then
(iB F M).bind λv9=> k8 (cond true (v9==P) false) else k8 false
) λQ=> if Q then some F else
(part F 0 M).bind λJ=>
(gH (α:=Int) 8 [] J).bind λ_=>
(gH (α:=Int) 8 J ([P]:I Int)).bind λU=>
(part F M (F.length:Int)).bind λV=>
(gH (α:=Int) 8 U V).bind λY=> some Y
def F7 (U:qS)(V:T):O ((I Int)×(I T)×Int):=
(Eb U).bind λv1=> if (!v1) then some ([],[],1) else
(FK U V).bind λ(v2,v3)=> if (!v3) then some ([],[],11) else AB (τ:=(I Int)×(I T)) (λk4=> A3 (σ:=(I Int)×(I T)×(I (T×C))×(I T)) (λJ (v6,Y,v8,v9)=> if (decide ((v9.length:Int)>0)) then AB (τ:=(I Int)×(I T)×(I (T×C))×(I T)) (λZ=>
(iB v9 0).bind λa6=>
(FK U a6).bind λ(v12,a7)=> AB (τ:=(I T)) (λP=> if (!a7) then
(iB v9 0).bind λa8=>
(B7 Y a8).bind λaa=> P aa else P Y
) λab=>
(part v9 1 (v9.length:Int)).bind λae=> AB (τ:=(I Int)) (λaf=> AH (σ:=(I Int)) (λK=> af K
) (λF (ag:Int) i23 K=>
(EB K ag).bind λah=> F ah
) v12.lf 0 v6
) λai=> AB (τ:=(I (T×C))×(I T)) (λaj=> AH (σ:=(I (T×C))×(I T)) (λ(v27,v28)=> aj (v27,v28)
) (λH (M:T) i31 (v27,v28)=>
(some (Xbk (BA v27 M) false)).bind λak=> AB (τ:=(I (T×C))×(I T)) (λQ=> if (!ak) then
(gH (α:=T) 16 v28 ([M]:I T)).bind λal=> Q ((BJ v27 M true),al) else Q (v27,v28)
) λ(v35,v36)=> H (v35,v36)
) v12.pk 0 (v8,ae)
) λ(v37,an)=> Z (ai,ab,v37,an)
) λ(v39,v40,v41,ao)=> J (v39,v40,v41,ao) else k4 (v6,Y)
) qb ([],[],(BJ [] V true),([V]:I T))
) λ(ap,v44)=> some (ap,v44,0)
def GW (H:I Int)(J:Int):O C:= AB (τ:=Unit) (λK=> AH (σ:=Unit) (λ_=> K ()
) (λF (M:Int) i4 _=> if (M==J) then some true else F ()
) H 0 ()
) λ_=> some false
def CY (a0:I oB)(K:fI)(a2:Int):O Int:=
(An K).bind λv1=> if (!v1) then some 1 else AB (τ:=Int) (λk2=> AH (σ:=Int) (λH=> k2 H
) (λF (M:oB) i6 H=> AB (τ:=Int) (λY=> if (M.ql !=a2) then Y H else
(BP M.fI K).bind λv8=> AB (τ:=Int) (λZ=> if (!v8) then AB (τ:=Int) (λJ=> if (H==11) then J 7 else J H
) λP=> Z P else if (decide (M.Max<K.qo)) then Z 9 else some 0
) λQ=> Y Q
) λU=> F U
) a0 0 11
) λV=> some V
def Hr (F:oB)(H:oB):O Int:=
(DL F.fI H.fI).bind λK=> if (K !=0) then some K else AB (τ:=C) (λJ=> if (decide (F.Max<H.Max)) then J true else if (F.Max==H.Max) then J (cond false true (cond true (decide (F.ql<H.ql)) false)) else J false
) λM=> if M then some (-1) else if (oB.qK F H) then some 0 else some 1
def F3 (a0:I oB):O (I oB):= AB (τ:=(I oB)) (λk1=> AH (σ:=(I oB)) (λH=> k1 H
) (λJ (U:oB) i5 H=> AB (τ:=(I oB)) (λk6=> AB (τ:=Int) (λk7=> A3 (σ:=Int) (λK Q=> AB (τ:=C) (λM=> if (decide (Q<(H.length:Int))) then
(iB H Q).bind λV=>
(Hr V U).bind λY=> M (cond true (decide (Y<0)) false) else M false
) λZ=> if Z then K (AQ (Q+1)) else k7 Q
) qb 0
) λF=> AB (τ:=C) (λP=> if (decide (F<(H.length:Int))) then
(iB H F).bind λa1=> P (cond true (oB.qK a1 U) false) else P false
) λa6=> if a6 then k6 H else
(rv (0<=(0:Int)/\(0:Int)<=F/\F<=(H.length:Int))).bind λ_=>
(gH (α:=oB) 48 [] (Xbg (Xi F-Xi 0) (Xbh (Xi 0) H))).bind λ_=>
(gH (α:=oB) 48 (Xbg (Xi F-Xi 0) (Xbh (Xi 0) H)) ([U]:I oB)).bind λa7=>
(rv (0<=F/\F<=(H.length:Int)/\(H.length:Int)<=(H.length:Int))).bind λ_=>
(gH (α:=oB) 48 a7 (Xbg (Xi (H.length:Int)-Xi F) (Xbh (Xi F) H))).bind λa8=> k6 a8
) λaa=> J aa
) a0 0 []
) λab=> some ab
def Ho (Q:qS)(U:I Int):O (I oB):= AB (τ:=(I oB)) (λV=> AH (σ:=(I oB)) (λH=> V H
) (λF (M:oB) i5 H=>
(GW U M.ql).bind λY=> AB (τ:=(I oB)) (λP=> if Y then
(gH (α:=oB) 48 H ([M]:I oB)).bind λZ=> P Z else P H
) λv9=> F v9
) Q.oX 0 []
) λJ=>
(F3 J).bind λK=> some K
def CN (F:qS)(J:Int)(K:T)(U:fI)(M:Int):O Int:=
(Eb F).bind λV=> if (!V) then some 1 else AB (τ:=(I Int)) (λP=> if (!(K.toList==(Xce (Xcf Xdr)).toList)) then
(F7 F K).bind λ(v3,v4,v5)=> if (v5 !=0) then some v5 else
(gH (α:=Int) 8 ([J]:I Int) v3).bind λY=> P Y else P ([J]:I Int)
) λQ=>
(GW Q M).bind λZ=> if (!Z) then some 17 else
(Ho F Q).bind λv9=>
(CY v9 U M).bind λH=> some H
def Gv (a0:I oB)(a1:fI)(a2:Int):O (Int×(I oB)):= AB (τ:=Int×(I oB)) (λk1=> AH (σ:=Int×(I oB)) (λ(v2,v3)=> k1 (v2,v3)
) (λF (M:oB) i6 (v2,v3)=> AB (τ:=Int×(I oB)) (λk7=>
(BP M.fI a1).bind λv8=> if (!v8) then k7 (v2,v3) else
(gH (α:=oB) 48 v3 ([M]:I oB)).bind λv9=> AB (τ:=Int) (λJ=> if (v2==0) then J 2 else J v2
) λP=> AB (τ:=C) (λH=> if (M.ql==a2) then if (cond true (a2 !=0) false) then H (cond true (decide (M.Max≥a1.qo)) false) else H false else H false
) λQ=> AB (τ:=Int) (λK=> if Q then K 1 else K P
) λU=> k7 (U,v9)
) λ(V,v17)=> F (V,v17)
) a0 0 (0,[])
) λ(Y,Z)=> some (Y,Z)
def JC (H:qI)(a1:kI)(F:o3):O (I Int):=
(JA F).bind λv1=> if v1 then some ([1]:I Int) else
(F5 H a1 F.gE).bind λv2=> AB (τ:=C) (λk3=> AH (σ:=C) (λv4=> k3 v4
) (λK (x6:fI) i7 v4=> AB (τ:=C) (λk8=> if v4 then k8 true else
(BP x6 F.fI).bind λv9=> if (cond false true v9) then k8 true else
(BP F.fI x6).bind λag=> k8 (cond false true ag)
) λah=> K ah
) H.rD 0 false
) λai=> AB (τ:=C) (λaj=> AH (σ:=C) (λM=> aj M
) (λJ (ak:fI) i17 M=> AB (τ:=C) (λP=> if M then P true else
(BP ak F.fI).bind λal=> P (cond false true al)
) λan=> J an
) H.qF 0 false
) λao=> AB (τ:=(I Int)) (λQ=> if ai then
(gH (α:=Int) 8 v2 ([10]:I Int)).bind λap=> Q ap else Q v2
) λU=> AB (τ:=(I Int)) (λV=> if ao then
(gH (α:=Int) 8 U ([11]:I Int)).bind λaq=> V aq else V U
) λY=>
(Hv H F).bind λar=> AB (τ:=(I Int)) (λZ=> if ar then
(gH (α:=Int) 8 Y ([12]:I Int)).bind λau=> Z au else Z Y
) λa6=>
(Gh F.gE).bind λax=> AB (τ:=(I oB)×(I oB)) (λa7=> if ax then
(D1 H.qS.oX).bind λay=>
(D1 H.qi).bind λaz=> a7 (az,ay) else a7 (H.qi,H.qS.oX)
) λ(v36,v37)=>
(F9 F.gE.Path).bind λ(b0,v39)=> AB (τ:=Int) (λa8=> if (!v39) then a8 (-1) else a8 b0
) λaa=>
(CN (⟨H.qS.pk,v37⟩:qS) a1.ql a1.Set F.fI aa).bind λba=> AB (τ:=(I Int)) (λab=> if (ba !=0) then
(gH (α:=Int) 8 a6 ([13]:I Int)).bind λbb=> ab bb else ab a6
) λae=>
(Gv v36 F.fI aa).bind λ(v46,be)=> AB (τ:=(I Int)) (λaf=> if (v46==2) then
(gH (α:=Int) 8 ae ([14]:I Int)).bind λbc=> af bc else af ae
) λbd=> some bd
def Gz (H:qI)(J:kI)(K:o3):O Int:=
(JC H J K).bind λF=> if (decide ((F.length:Int)>0)) then
(iB F 0).bind λM=> some M else some 0
def CM (J:gE):O gE:= AB (τ:=(I oA)) (λY=> AH (σ:=(I oA)) (λM=> Y M
) (λH (V:oA) i5 M=>
(gH (α:=Int) 8 [] V.lf).bind λ_=>
(gH (α:=oA) 32 M ([V]:I oA)).bind λZ=> H Z
) J.Path 0 []
) λv7=>
(gH (α:=oF) 16 [] J.cW).bind λ_=>
(gH (α:=ls) 24 [] J.ls).bind λ_=> AB (τ:=(I gF)) (λk8=> AH (σ:=(I gF)) (λP=> k8 P
) (λF (K:gF) i12 P=>
(gH (α:=S) 1 [] K.Data).bind λ_=>
(gH (α:=gF) 40 P ([K]:I gF)).bind λQ=> F Q
) J.gS 0 []
) λU=> some ({ J with Path:=v7,gS:=U })
def D7 (H:iA):O iA:=
(gH (α:=Addr) 24 [] H.kI.oE).bind λ_=> AB (τ:=(I fT)) (λM=> AH (σ:=(I fT)) (λJ=> M J
) (λF (K:fT) i5 J=>
(CM K.o3.gE).bind λP=>
(gH (α:=fT) 208 J ([{ K with o3:={ K.o3 with gE:=P } }]:I fT)).bind λQ=> F Q
) H.fT 0 []
) λU=> some ({ H with fT:=U })
def Hf (H:I fI)(J:Int):O C:= AB (τ:=Unit) (λK=> AH (σ:=Unit) (λ_=> K ()
) (λF (M:fI) i4 _=>
(An M).bind λP=> if (!P) then some false else F ()
) H 0 ()
) λ_=> some (decide ((H.length:Int)<=J))
def Gu (F:qI):O C:= AB (τ:=C) (λY=>
(Hk F.tg).bind λv2=> if (!v2) then Y true else
(Hf F.rD 8).bind λv3=> if (cond false true (!v3)) then Y true else
(Hf F.qF 64).bind λv4=> if (cond false true (!v4)) then Y true else if (cond false true (decide ((F.qp.length:Int)>64))) then Y true else if (cond false true (decide ((F.qX.length:Int)>64))) then Y true else Y (cond false true (decide ((F.qi.length:Int)>512)))
) λv5=> if v5 then some false else AB (τ:=Unit) (λk6=> AH (σ:=Unit) (λ_=> k6 ()
) (λU (Z:rc) i9 _=> AB (τ:=C) (λV=> if (decide (Z.qM<0)) then V true else if (cond false true (decide (Z.qM>Z.To))) then V true else V (cond false true (decide (Z.To>4294967295)))
) λa1=> if a1 then some false else U ()
) F.qp 0 ()
) λ_=> AB (τ:=Unit) (λa6=> AH (σ:=Unit) (λ_=> a6 ()
) (λP (a7:Int) i15 _=>
(Hk a7).bind λa8=> if (!a8) then some false else P ()
) F.qX 0 ()
) λ_=> AB (τ:=Unit) (λaa=> AH (σ:=Unit) (λ_=> aa ()
) (λQ (J:oB) i20 _=> AB (τ:=C) (λM=>
(An J.fI).bind λab=> if (!ab) then M true else if (cond false true (decide (J.Max<J.fI.qo))) then M true else
(Dj J.fI.Addr.V6).bind λae=> if (cond false true (decide (J.Max>ae))) then M true else if (cond false true (decide (J.ql<0))) then M true else M (cond false true (decide (J.ql>4294967295)))
) λaf=> if af then some false else Q ()
) F.qi 0 ()
) λ_=> AB (τ:=C) (λK=> if (decide (F.sd≥0)) then if (cond true (decide (F.sd<=F.qh)) false) then if (cond true (decide (F.qh<=32)) false) then if (cond true (decide (F.s8≥0)) false) then if (cond true (decide (F.s8<=F.qg)) false) then K (cond true (decide (F.qg<=128)) false) else K false else K false else K false else K false else K false
) λag=> AB (τ:=C) (λH=> if ag then if (cond true (decide (F.rK≥0)) false) then if (cond true (decide (F.rK<=32)) false) then if (cond true (decide (F.rM≥0)) false) then if (cond true (decide (F.rM<=128)) false) then if (cond true (decide (F.sf≥1)) false) then if (cond true (decide (F.sf<=60)) false) then
(Eb F.qS).bind λah=> H (cond true ah false) else H false else H false else H false else H false else H false else H false else H false
) λai=> some ai
def Dp (M:I fT)(P:fI):O (I fT):= AB (τ:=(I fT)) (λQ=> AH (σ:=(I fT)) (λH=> Q H
) (λF (J:fT) i5 H=> AB (τ:=(I fT)) (λK=> if (!(fI.qK J.o3.fI P)) then
(gH (α:=fT) 208 H ([J]:I fT)).bind λU=> K U else K H
) λV=> F V
) M 0 []
) λY=> some Y
def Br (H:iA):O iA:= AB (τ:=Unit) (λJ=> AH (σ:=Unit) (λ_=> J ()
) (λF (K:fT) i4 _=> if K.qA then some H else F ()
) H.fT 0 ()
) λ_=> some ({ ({ H with oT:=0 }) with kI:=(({ H with oT:=0 }).kI) })
def Fq (a0:qI)(Q:iA)(a2:qC):O (iA×Int):= AB (τ:=C) (λk1=>
(Gu a0).bind λv2=> if (!v2) then k1 true else
(Ee Q).bind λv3=> if (cond false true (!v3)) then k1 true else
(G2 a2).bind λv4=> k1 (cond false true (!v4))
) λv5=> if v5 then some ((⟨(⟨0,Xa4,0,0,[]⟩:kI),false,[],0⟩:iA),1) else if (!Q.Up) then some ((⟨(⟨0,Xa4,0,0,[]⟩:kI),false,[],0⟩:iA),31) else
(D7 Q).bind λv6=> AB (τ:=(I fT)) (λk7=> AH (σ:=(I fT)) (λv8=> k7 v8
) (λU (a8:fI) i11 v8=>
(Dp v8 a8).bind λaa=> U aa
) a2.mu 0 v6.fT
) λab=> AB (τ:=(I fT)) (λae=> AH (σ:=(I fT)) (λV=> ae V
) (λJ (K:fI) i18 V=> AB (τ:=(I fT)) (λaf=>
(CM a2.gE).bind λZ=>
(Gz a0 Q.kI (⟨K,Q.kI.ql,Z⟩:o3)).bind λag=>
(Dp V K).bind λF=> AB (τ:=Int) (λah=> A3 (σ:=Int) (λM P=> AB (τ:=C) (λa6=> if (decide (P<(F.length:Int))) then
(iB F P).bind λai=>
(DL ai.o3.fI K).bind λaj=> a6 (cond true (decide (aj<0)) false) else a6 false
) λak=> if ak then M (AQ (P+1)) else ah P
) qb 0
) λH=>
(rv (0<=H/\H<=(F.length:Int)/\(F.length:Int)<=(F.length:Int))).bind λ_=>
(gH (α:=fT) 208 [] (Xbg (Xi (F.length:Int)-Xi H) (Xbh (Xi H) F))).bind λ_=>
(rv (H<=H/\H<=(F.length:Int))).bind λ_=>
(part F 0 H).bind λal=>
(gH (α:=fT) 208 al ([(⟨(⟨K,Q.kI.ql,Z⟩:o3),ag,false⟩:fT)]:I fT)).bind λan=>
(gH (α:=fT) 208 an (Xbg (Xi (F.length:Int)-Xi H) (Xbh (Xi H) F))).bind λao=> af ao
) λap=> J ap
) a2.gO 0 ab
) λa7=>
(Eh ({ v6 with fT:=a7 })).bind λ(v36,v37)=> AB (τ:=C) (λY=> if (decide (v36>Q.kI.qh)) then Y true else if (cond false true (decide (v37>Q.kI.qg))) then Y true else Y (cond false true (decide ((AQ (v36+v37))>256)))
) λaq=> if aq then some ((⟨(⟨0,Xa4,0,0,[]⟩:kI),false,[],0⟩:iA),34) else
(Br ({ v6 with fT:=a7 })).bind λar=> some (ar,0)
def JJ (F:kI):O iA:=
(gH (α:=Addr) 24 [] F.oE).bind λ_=> some (⟨F,false,[],0⟩:iA)
def EW (Z:iA)(P:Int):O iA:=
(D7 Z).bind λv1=>
(D7 Z).bind λv2=> AB (τ:=(I fT)) (λk3=> AH (σ:=(I fT)) (λM=> k3 M
) (λF (J:fT) i7 M=> AB (τ:=C) (λH=> if (!J.qA) then H true else if (P==0) then if (cond false true (cond true J.o3.fI.Addr.V6 false)) then H true else if (P==1) then H (cond false true (cond true (!J.o3.fI.Addr.V6) false)) else H false else if (P==1) then H (cond false true (cond true (!J.o3.fI.Addr.V6) false)) else H false
) λv9=> AB (τ:=(I fT)) (λK=> if v9 then
(gH (α:=fT) 208 M ([J]:I fT)).bind λQ=> K Q else K M
) λU=> F U
) v2.fT 0 []
) λV=>
(Br ({ v1 with fT:=V })).bind λY=> some Y
def FS (F:iA):O (iA×Int):=
(Ee F).bind λH=> if (!H) then some ((⟨(⟨0,Xa4,0,0,[]⟩:kI),false,[],0⟩:iA),1) else if F.Up then some ((⟨(⟨0,Xa4,0,0,[]⟩:kI),false,[],0⟩:iA),31) else
(D7 F).bind λJ=> some ({ J with Up:=true },0)
def Ge (K:iA)(M:Int)(J:Int):O (iA×Int):= AB (τ:=C) (λH=>
(Ee K).bind λv2=> if (!v2) then H true else if (cond false true (decide (M<0))) then H true else if (cond false true (decide (M>1073741824))) then H true else if (cond false true (decide (J<0))) then H true else H (cond false true (decide (J>4095)))
) λv3=> if v3 then some ((⟨(⟨0,Xa4,0,0,[]⟩:kI),false,[],0⟩:iA),1) else if (!K.Up) then some ((⟨(⟨0,Xa4,0,0,[]⟩:kI),false,[],0⟩:iA),31) else
(D7 K).bind λY=> AB (τ:=(I fT)) (λZ=> if (J==0) then Z [] else Z Y.fT
) λv6=> AB (τ:=(I fT)) (λk7=> A3 (σ:=Int×(I fT)) (λF (v9,v10)=> if (decide (v9<(v6.length:Int))) then
(iB v10 v9).bind λP=>
(rk v10 v9 ({ P with qA:=true })).bind λQ=> F ((AQ (v9+1)),Q) else k7 v10
) qb (0,v6)
) λU=>
(Br (⟨Y.kI,false,U,(AQ (M+J))⟩:iA)).bind λV=> some (V,0)
def Dw (a0:px):O (qI×px):=
(AG a0 3).bind λ(v1,v2)=>
(part ([701,202]:I Int) 0 v1).bind λv3=>
(AG v2 4).bind λ(v4,v5)=> AB (τ:=px×(I fI)) (λk6=> if (v4==0) then
(AG v5 8).bind λ(v7,v8)=>
(FG v7).bind λv9=> k6 (v8,([v9]:I fI)) else k6 (v5,[])
) λ(v10,v11)=>
(AG v10 6).bind λ(v12,K)=> AB (τ:=px×Int) (λM=> if (v12==0) then
(AG K 3).bind λ(a1,a6)=> M (a6,(AQ (2+a1))) else M (K,8)
) λ(v17,a7)=>
(AG v17 3).bind λ(a8,v20)=> AB (τ:=px×(I oB)×(I oB)) (λaa=> A3 (σ:=Int×px×(I oB)×(I oB)) (λF (v23,v24,v25,v26)=> if (decide (v23<8)) then AB (τ:=px×(I oB)×(I oB)) (λab=>
(FG v23).bind λJ=> AB (τ:=Int) (λP=> if J.Addr.V6 then P 64 else P 24
) λQ=> AB (τ:=px×(I oB)) (λae=> AH (σ:=px×(I oB)) (λ(v32,v33)=> ae (v32,v33)
) (λH (af:Int) i36 (v32,v33)=> AB (τ:=C×px) (λU=> if (decide (a8>0)) then U (true,v32) else
(AG v32 3).bind λ(ag,v39)=> U ((cond false true (decide (ag>0))),v39)
) λ(v40,v41)=> AB (τ:=(I oB)) (λV=> if v40 then
(gH (α:=oB) 48 v33 ([(⟨J,Q,af⟩:oB)]:I oB)).bind λah=> V ah else V v33
) λai=> H (v41,ai)
) ([101,102,103,104,105,201,202,203,301]:I Int) 0 (v24,v25)
) λ(v45,v46)=>
(AG v45 5).bind λ(aj,Y)=> AB (τ:=px×(I oB)) (λZ=> if (aj==0) then
(AG Y 5).bind λ(v50,v51)=>
(iB ([101,102,103,201,0]:I Int) v50).bind λak=>
(gH (α:=oB) 48 v26 ([(⟨J,Q,ak⟩:oB)]:I oB)).bind λal=> Z (v51,al) else Z (Y,v26)
) λ(v54,v55)=> ab (v54,v46,v55)
) λ(an,v57,v58)=> F ((AQ (v23+1)),an,v57,v58) else aa (v24,v25,v26)
) qb (0,v20,[],[])
) λ(v59,v60,ao)=> some ((⟨99,([(⟨(⟨false,(0:j),(3221225984:j)⟩:Addr),24⟩:fI)]:I fI),8,24,19,64,25,65,v11,([(⟨64512,65534⟩:rc)]:I rc),v3,a7,(⟨([(⟨(Xce (Xcf (Xt 65 (Xt 76 (Xt 76 Xdr))))),([101,102,103,104,105,201,202,203,301]:I Int),[]⟩:Set),(⟨(Xce (Xcf (Xt 79 (Xt 78 (Xt 69 Xdr))))),([201]:I Int),[]⟩:Set)]:I Set),v60⟩:qS),ao⟩:qI),v59)
def Ec (H:px)(F:Int):O (kI×px):=
(AG H 6).bind λ(v1,v2)=>
(iB ([(Xce (Xcf (Xt 65 (Xt 76 (Xt 76 Xdr))))),(Xce (Xcf (Xt 65 (Xt 76 (Xt 76 Xdr))))),(Xce (Xcf (Xt 65 (Xt 76 (Xt 76 Xdr))))),(Xce (Xcf (Xt 79 (Xt 78 (Xt 69 Xdr))))),(Xce (Xcf Xdr)),(Xce (Xcf (Xt 78 (Xt 79 (Xt 78 (Xt 69 Xdr))))))]:I T) v1).bind λJ=>
(AG v2 20).bind λ(v4,v5)=>
(AG v5 9).bind λ(v6,K)=>
(Eo F false).bind λM=>
(Eo F true).bind λP=> some ((⟨F,J,(AQ (6+v4)),(AQ (3+v6)),([M,P]:I Addr)⟩:kI),K)
def F6 (a0:px):O (qI×iA×px):=
(Dw a0).bind λ(v1,v2)=>
(AG v2 4).bind λ(v3,v4)=>
(Ec v4 (AQ (101+v3))).bind λ(v5,v6)=>
(JJ v5).bind λv7=>
(AG v6 9).bind λ(v8,v9)=> AB (τ:=px×iA) (λZ=> A3 (σ:=Int×px×iA) (λJ (v12,M,F)=> if (decide (v12≥0)) then
(AG M 8).bind λ(H,K)=> AB (τ:=Int×px×iA) (λP=> if (H==0) then
(AG K 50).bind λ(a1,a6)=>
(AG a6 3).bind λ(v20,v21)=>
(iB ([0,9,60]:I Int) v20).bind λa7=>
(Ge F a1 a7).bind λ(v23,v24)=> P (v24,v21,v23) else AB (τ:=Int×px×iA) (λQ=> if (H==1) then
(AG K 3).bind λ(v26,v27)=>
(EW F v26).bind λa8=> Q (0,v27,a8) else AB (τ:=C) (λU=> if (H==2) then U (H==2) else U (H==3)
) λaa=> AB (τ:=Int×px×iA) (λV=> if aa then
(FS F).bind λ(v32,v33)=> V (v33,K,v32) else
(Cd K (AQ (101+v3))).bind λ(ab,v35)=>
(Fq v1 F ab).bind λ(v36,v37)=> V (v37,v35,v36)
) λ(ae,v39,v40)=> Q (ae,v39,v40)
) λ(v41,af,ag)=> P (v41,af,ag)
) λ(v44,v45,v46)=> AB (τ:=iA) (λY=> if (v44==0) then Y v46 else Y F
) λah=> J ((AQ (v12-1)),v45,ah) else Z (M,F)
) qb (v8,v9,v7)
) λ(v49,v50)=> some (v1,v50,v49)
def Eg (H:I Int)(J:I Int):O C:= if ((H.length:Int) !=(J.length:Int)) then some false else AB (τ:=Unit) (λK=> AH (σ:=Unit) (λ_=> K ()
) (λF (M:Int) P _=>
(iB J (P:Int)).bind λQ=> if (M !=Q) then some false else F ()
) H 0 ()
) λ_=> some true
def CP (H:gE)(F:gE):O C:= AB (τ:=C) (λJ=> if (H.gT !=F.gT) then J true else if (cond false true (!(Addr.qK H.Next F.Next))) then J true else if (cond false true (H.qW !=F.qW)) then J true else if (cond false true (H.qd !=F.qd)) then J true else if (cond false true (H.qz !=F.qz)) then J true else if (cond false true ((H.Path.length:Int) !=(F.Path.length:Int))) then J true else if (cond false true ((H.cW.length:Int) !=(F.cW.length:Int))) then J true else if (cond false true ((H.ls.length:Int) !=(F.ls.length:Int))) then J true else J (cond false true ((H.gS.length:Int) !=(F.gS.length:Int)))
) λv2=> if v2 then some false else AB (τ:=Unit) (λk3=> AH (σ:=Unit) (λ_=> k3 ()
) (λQ (x5:oA) i6 _=> AB (τ:=C) (λk7=>
(iB F.Path (i6:Int)).bind λv8=> if (!(x5.Set==v8.Set)) then k7 true else
(iB F.Path (i6:Int)).bind λv9=>
(Eg x5.lf v9.lf).bind λZ=> k7 (cond false true (!Z))
) λa6=> if a6 then some false else Q ()
) H.Path 0 ()
) λ_=> AB (τ:=Unit) (λa7=> AH (σ:=Unit) (λ_=> a7 ()
) (λK (a8:oF) aa _=>
(iB F.cW (aa:Int)).bind λab=> if (!(oF.qK a8 ab)) then some false else K ()
) H.cW 0 ()
) λ_=> AB (τ:=Unit) (λae=> AH (σ:=Unit) (λ_=> ae ()
) (λM (af:ls) ag _=>
(iB F.ls (ag:Int)).bind λah=> if (!(ls.qK af ah)) then some false else M ()
) H.ls 0 ()
) λ_=> AB (τ:=Unit) (λai=> AH (σ:=Unit) (λ_=> ai ()
) (λP (U:gF) V _=> AB (τ:=C) (λY=>
(iB F.gS (V:Int)).bind λaj=> if (U.Flags !=aj.Flags) then Y true else
(iB F.gS (V:Int)).bind λak=> if (cond false true (U.hB !=ak.hB)) then Y true else
(iB F.gS (V:Int)).bind λal=> Y (cond false true (!((bs U.Data).toList==(bs al.Data).toList)))
) λan=> if an then some false else P ()
) H.gS 0 ()
) λ_=> some true
def BB (F:o3)(H:o3):O C:= AB (τ:=C) (λJ=> if (fI.qK F.fI H.fI) then if (cond true (F.qM==H.qM) false) then
(CP F.gE H.gE).bind λK=> J (cond true K false) else J false else J false
) λM=> some M
def En (H:kI)(J:kI):O C:= AB (τ:=C) (λK=> if (H.ql !=J.ql) then K true else if (cond false true (!(H.Set.toList==J.Set.toList))) then K true else if (cond false true (H.qh !=J.qh)) then K true else if (cond false true (H.qg !=J.qg)) then K true else K (cond false true ((H.oE.length:Int) !=(J.oE.length:Int)))
) λM=> if M then some false else AB (τ:=Unit) (λP=> AH (σ:=Unit) (λ_=> P ()
) (λF (Q:Addr) U _=>
(iB J.oE (U:Int)).bind λV=> if (!(Addr.qK Q V)) then some false else F ()
) H.oE 0 ()
) λ_=> some true
def FO (J:iA)(F:iA):O C:= AB (τ:=C) (λK=> if (!(J.Up==F.Up)) then K true else if (cond false true (J.oT !=F.oT)) then K true else if (cond false true ((J.fT.length:Int) !=(F.fT.length:Int))) then K true else
(En J.kI F.kI).bind λv2=> K (cond false true (!v2))
) λv3=> if v3 then some false else AB (τ:=Unit) (λk4=> AH (σ:=Unit) (λ_=> k4 ()
) (λH (M:fT) P _=> AB (τ:=C) (λQ=>
(iB F.fT (P:Int)).bind λv9=> if (M.qx !=v9.qx) then Q true else
(iB F.fT (P:Int)).bind λU=> if (cond false true (!(M.qA==U.qA))) then Q true else
(iB F.fT (P:Int)).bind λV=>
(BB M.o3 V.o3).bind λY=> Q (cond false true (!Y))
) λZ=> if Z then some false else H ()
) J.fT 0 ()
) λ_=> some true
def Cm (F:iA)(J:iA):O (I fI):= AB (τ:=(I fI)) (λk1=> A3 (σ:=Int×Int×(I fI)) (λH (v3,v4,v5)=> AB (τ:=C) (λk6=> if (decide (v3<(F.fT.length:Int))) then k6 true else k6 (cond false true (decide (v4<(J.fT.length:Int))))
) λv7=> if v7 then AB (τ:=C) (λQ=> if (v4==(J.fT.length:Int)) then Q true else if (decide (v3<(F.fT.length:Int))) then
(iB F.fT v3).bind λv9=>
(iB J.fT v4).bind λU=>
(DL v9.o3.fI U.o3.fI).bind λV=> Q (cond false true (cond true (decide (V<0)) false)) else Q false
) λY=> AB (τ:=Int×Int×(I fI)) (λK=> if Y then
(iB F.fT v3).bind λZ=>
(gH (α:=fI) 32 v5 ([Z.o3.fI]:I fI)).bind λa6=> K ((AQ (v3+1)),v4,a6) else AB (τ:=C) (λM=> if (v3==(F.fT.length:Int)) then M true else
(iB F.fT v3).bind λa7=>
(iB J.fT v4).bind λa8=>
(DL a7.o3.fI a8.o3.fI).bind λaa=> M (cond false true (decide (aa>0)))
) λab=> AB (τ:=Int×(I fI)) (λP=> if ab then
(iB J.fT v4).bind λae=>
(gH (α:=fI) 32 v5 ([ae.o3.fI]:I fI)).bind λaf=> P (v3,af) else
(iB F.fT v3).bind λag=>
(gH (α:=fI) 32 v5 ([ag.o3.fI]:I fI)).bind λah=> P ((AQ (v3+1)),ah)
) λ(v26,v27)=> K (v26,(AQ (v4+1)),v27)
) λ(v28,v29,v30)=> H (v28,v29,v30) else k1 v5
) qb (0,0,[])
) λai=> some ai
def Hj (F:iA)(H:fI):O (fT×C):=
(D8 F.fT H).bind λ(v1,v2)=> if (!v2) then some ((⟨(⟨(⟨(⟨false,(0:j),(0:j)⟩:Addr),0⟩:fI),0,(⟨0,[],(⟨false,(0:j),(0:j)⟩:Addr),0,0,0,[],[],[]⟩:gE)⟩:o3),0,false⟩:fT),false) else
(part F.fT v1 (AQ (v1+1))).bind λJ=>
(GU J).bind λK=>
(iB K 0).bind λM=> some (M,true)
def JB (J:iA)(K:fI):O (fT×C):= AB (τ:=Unit) (λM=> AH (σ:=Unit) (λ_=> M ()
) (λF (H:fT) i4 _=> if (fI.qK H.o3.fI K) then some (H,true) else F ()
) J.fT 0 ()
) λ_=> some ((⟨(⟨(⟨(⟨false,(0:j),(0:j)⟩:Addr),0⟩:fI),0,(⟨0,[],(⟨false,(0:j),(0:j)⟩:Addr),0,0,0,[],[],[]⟩:gE)⟩:o3),0,false⟩:fT),false)
def Cj (H:iA)(J:fI):O (o3×C):=
(Hj H J).bind λ(v1,v2)=> AB (τ:=C) (λF=> if (!v2) then F true else F (cond false true (v1.qx !=0))
) λK=> if K then some ((⟨(⟨(⟨false,(0:j),(0:j)⟩:Addr),0⟩:fI),0,(⟨0,[],(⟨false,(0:j),(0:j)⟩:Addr),0,0,0,[],[],[]⟩:gE)⟩:o3),false) else some (v1.o3,true)
def CJ (H:iA)(J:fI):O (o3×C):=
(JB H J).bind λ(v1,v2)=> AB (τ:=C) (λF=> if v2 then F (cond true (v1.qx==0) false) else F false
) λK=> if K then some (v1.o3,true) else some ((⟨(⟨(⟨false,(0:j),(0:j)⟩:Addr),0⟩:fI),0,(⟨0,[],(⟨false,(0:j),(0:j)⟩:Addr),0,0,0,[],[],[]⟩:gE)⟩:o3),false)
def IA (K:iA)(M:Int)(J:Int):O (iA×Int):= AB (τ:=C) (λH=>
(Ef K).bind λv2=> if (!v2) then H true else if (cond false true (decide (M<0))) then H true else if (cond false true (decide (M>1073741824))) then H true else if (cond false true (decide (J<0))) then H true else H (cond false true (decide (J>4095)))
) λv3=> if v3 then some ((⟨(⟨0,Xa4,0,0,[]⟩:kI),false,[],0⟩:iA),1) else if (!K.Up) then some ((⟨(⟨0,Xa4,0,0,[]⟩:kI),false,[],0⟩:iA),31) else
(FR K).bind λY=> AB (τ:=(I fT)) (λZ=> if (J==0) then Z [] else Z Y.fT
) λv6=> AB (τ:=(I fT)) (λk7=> A3 (σ:=Int×(I fT)) (λF (v9,v10)=> if (decide (v9<(v6.length:Int))) then
(iB v10 v9).bind λP=>
(rk v10 v9 ({ P with qA:=true })).bind λQ=> F ((AQ (v9+1)),Q) else k7 v10
) qb (0,v6)
) λU=>
(Bn (⟨Y.kI,false,U,(AQ (M+J))⟩:iA)).bind λV=> some (V,0)
def Dq (H:fT)(J:Int):O (C×Int):= AB (τ:=C) (λF=> if H.qA then if (J==0) then if (cond true H.o3.fI.Addr.V6 false) then F (!true) else if (J==1) then F (cond true (!(cond false true (cond true (!H.o3.fI.Addr.V6) false))) false) else F (!false) else if (J==1) then F (cond true (!(cond false true (cond true (!H.o3.fI.Addr.V6) false))) false) else F (!false) else F false
) λK=> some (K,J)
def A2 (M:I fT)(H:Int):O (Int×Int):= AB (τ:=Int) (λP=> AH (σ:=Int) (λJ=> P J
) (λF (Q:fT) U J=>
(Dq Q J).bind λ(v6,K)=> if v6 then some ((U:Int),K) else F K
) M 0 H
) λV=> some ((-1),V)
def Ah (P:I fT)(K:Int):O ((I fT)×Int):=
(A2 P K).bind λ(v1,v2)=> if (v1==(-1)) then some (P,v2) else AB (τ:=Int×(I fT)×Int) (λk3=> A3 (σ:=Int×Int×(I fT)×Int) (λH (v5,v6,J,v8)=> if (decide (v6<(J.length:Int))) then
(iB J v6).bind λv9=>
(Dq v9 v8).bind λ(v10,v11)=> AB (τ:=Int×(I fT)) (λM=> if (!v10) then
(iB J v5).bind λa1=>
(rk J v5 v9).bind λQ=> M ((AQ (v5+1)),Q) else M (v5,J)
) λ(U,V)=> H (U,(AQ (v6+1)),V,v11) else k3 (v5,J,v8)
) qb (v1,(AQ (v1+1)),P,v2)
) λ(v17,F,Y)=>
(rv (0<=v17/\v17<=(F.length:Int)/\(F.length:Int)<=(F.length:Int))).bind λ_=>
(part (Xbg (Xi v17) F++Xal (Xi (F.length:Int)-Xi v17) (⟨(⟨(⟨(⟨false,(0:j),(0:j)⟩:Addr),0⟩:fI),0,(⟨0,[],(⟨false,(0:j),(0:j)⟩:Addr),0,0,0,[],[],[]⟩:gE)⟩:o3),0,false⟩:fT)++Xbh ((Xi v17)+(Xi (F.length:Int)-Xi v17)) F) 0 v17).bind λZ=> some (Z,Y)
def G8 (H:iA)(J:Int):O iA:=
(FR H).bind λF=>
(Ah F.fT J).bind λ(v2,v3)=>
(Bn ({ F with fT:=v2 })).bind λK=> some K
def C2 (H:I fI)(J:I fI):O C:= if ((H.length:Int) !=(J.length:Int)) then some false else AB (τ:=Unit) (λK=> AH (σ:=Unit) (λ_=> K ()
) (λF (M:fI) P _=>
(iB J (P:Int)).bind λQ=> if (!(fI.qK M Q)) then some false else F ()
) H 0 ()
) λ_=> some true
def Au (F:I fI):O (I fI):= if (decide ((F.length:Int)<2)) then some F else AB (τ:=Unit) (λk1=> A3 (σ:=Int) (λJ H=> if (decide (H<(F.length:Int))) then AB (τ:=Unit) (λk4=>
(iB F H).bind λv5=>
(iB F (AQ (H-1))).bind λv6=> if (fI.qK v5 v6) then
(rv (0<=H/\H<=(F.length:Int)/\(F.length:Int)<=(F.length:Int))).bind λ_=> AB (τ:=Int×(I fI)) (λk7=> A3 (σ:=Int×Int×(I fI)) (λK (v9,v10,v11)=> if (decide (v10<(((Xi (F.length:Int)-Xi H):Nat):Int))) then
(iB (Xbg (Xi (F.length:Int)-Xi H) (Xbh (Xi H) v11)) v10).bind λP=>
(iB (Xbg (Xi (F.length:Int)-Xi H) (Xbh (Xi H) v11)) (AQ (v10-1))).bind λQ=> AB (τ:=Int×(I fI)) (λM=> if (!(fI.qK P Q)) then
(iB (Xbg (Xi (F.length:Int)-Xi H) (Xbh (Xi H) v11)) v10).bind λU=>
(iB v11 v9).bind λa6=>
(rk v11 v9 U).bind λV=> M ((AQ (v9+1)),V) else M (v9,v11)
) λ(Y,Z)=> K (Y,(AQ (v10+1)),Z) else k7 (v9,v11)
) qb (H,1,F)
) λ(v20,v21)=>
(rv (0<=v20/\v20<=(v21.length:Int)/\(v21.length:Int)<=(v21.length:Int))).bind λ_=>
(part (Xbg (Xi v20) v21++Xal (Xi (v21.length:Int)-Xi v20) (⟨(⟨false,(0:j),(0:j)⟩:Addr),0⟩:fI)++Xbh ((Xi v20)+(Xi (v21.length:Int)-Xi v20)) v21) 0 v20).bind λa1=> some a1 else k4 ()
) λ_=> J (AQ (H+1)) else k1 ()
) qb 1
) λ_=> some F
def CG (H:I Int)(J:I Int):O C:= if ((H.length:Int) !=(J.length:Int)) then some false else AB (τ:=Unit) (λK=> AH (σ:=Unit) (λ_=> K ()
) (λF (M:Int) P _=>
(iB J (P:Int)).bind λQ=> if (M !=Q) then some false else F ()
) H 0 ()
) λ_=> some true
def FA (F:oA)(H:oA):O C:= AB (τ:=C) (λJ=> if (F.Set==H.Set) then
(CG F.lf H.lf).bind λK=> J (cond true K false) else J false
) λM=> some M
def Bq (H:I S)(J:I S):O C:= if ((H.length:Int) !=(J.length:Int)) then some false else AB (τ:=Unit) (λK=> AH (σ:=Unit) (λ_=> K ()
) (λF (M:S) P _=>
(iB J (P:Int)).bind λQ=> if ((M.toNat:Int) !=(Q.toNat:Int)) then some false else F ()
) H 0 ()
) λ_=> some true
def E7 (F:gF)(H:gF):O C:= AB (τ:=C) (λJ=> if (F.Flags==H.Flags) then if (cond true (F.hB==H.hB) false) then
(Bq F.Data H.Data).bind λK=> J (cond true K false) else J false else J false
) λM=> some M
def Aj (H:I oF)(J:I oF):O C:= if ((H.length:Int) !=(J.length:Int)) then some false else AB (τ:=Unit) (λK=> AH (σ:=Unit) (λ_=> K ()
) (λF (M:oF) P _=>
(iB J (P:Int)).bind λQ=> if (!(oF.qK M Q)) then some false else F ()
) H 0 ()
) λ_=> some true
def A6 (H:I ls)(J:I ls):O C:= if ((H.length:Int) !=(J.length:Int)) then some false else AB (τ:=Unit) (λK=> AH (σ:=Unit) (λ_=> K ()
) (λF (M:ls) P _=>
(iB J (P:Int)).bind λQ=> if (!(ls.qK M Q)) then some false else F ()
) H 0 ()
) λ_=> some true
def AL (H:I oA)(J:I oA):O C:= if ((H.length:Int) !=(J.length:Int)) then some false else AB (τ:=Unit) (λK=> AH (σ:=Unit) (λ_=> K ()
) (λF (M:oA) P _=>
(iB J (P:Int)).bind λQ=>
(FA M Q).bind λU=> if (!U) then some false else F ()
) H 0 ()
) λ_=> some true
def AK (H:I gF)(J:I gF):O C:= if ((H.length:Int) !=(J.length:Int)) then some false else AB (τ:=Unit) (λK=> AH (σ:=Unit) (λ_=> K ()
) (λF (M:gF) P _=>
(iB J (P:Int)).bind λQ=>
(E7 M Q).bind λU=> if (!U) then some false else F ()
) H 0 ()
) λ_=> some true
def Gx (F:gE)(H:gE):O C:= AB (τ:=C) (λJ=> if (F.gT==H.gT) then if (cond true (Addr.qK F.Next H.Next) false) then if (cond true (F.qW==H.qW) false) then if (cond true (F.qd==H.qd) false) then if (cond true (F.qz==H.qz) false) then
(AL F.Path H.Path).bind λK=> if (cond true K false) then
(Aj F.cW H.cW).bind λM=> if (cond true M false) then
(A6 F.ls H.ls).bind λP=> if (cond true P false) then
(AK F.gS H.gS).bind λQ=> J (cond true Q false) else J false else J false else J false else J false else J false else J false else J false else J false
) λU=> some U
def Fp (F:o3)(H:o3):O C:= AB (τ:=C) (λJ=> if (fI.qK F.fI H.fI) then if (cond true (F.qM==H.qM) false) then
(Gx F.gE H.gE).bind λK=> J (cond true K false) else J false else J false
) λM=> some M
def Do (F:fI)(H:iA)(J:iA):O (C×iA×iA):=
(Cj H F).bind λ(v1,v2)=>
(Cj J F).bind λ(v3,v4)=> AB (τ:=C) (λK=> if (v2==v4) then
(Fp v1 v3).bind λM=> K (cond true M false) else K false
) λP=> some (P,H,J)
def Ap (M:I fI)(H:iA)(J:iA):O (Int×iA×iA):= AB (τ:=iA×iA) (λP=> AH (σ:=iA×iA) (λ(v2,v3)=> P (v2,v3)
) (λF (Q:fI) U (v2,v3)=>
(Do Q v2 v3).bind λ(V,K,v9)=> if V then some ((U:Int),K,v9) else F (K,v9)
) M 0 (H,J)
) λ(v10,v11)=> some ((-1),v10,v11)
def Af (Q:I fI)(J:iA)(K:iA):O ((I fI)×iA×iA):=
(Ap Q J K).bind λ(v1,v2,v3)=> if (v1==(-1)) then some (Q,v2,v3) else AB (τ:=Int×(I fI)×iA×iA) (λk4=> A3 (σ:=Int×Int×(I fI)×iA×iA) (λF (v6,U,H,v9,v10)=> if (decide (U<(H.length:Int))) then
(iB H U).bind λM=>
(Do M v9 v10).bind λ(v12,V,Y)=> AB (τ:=Int×(I fI)) (λP=> if (!v12) then
(iB H v6).bind λa8=>
(rk H v6 M).bind λZ=> P ((AQ (v6+1)),Z) else P (v6,H)
) λ(a1,a6)=> F (a1,(AQ (U+1)),a6,V,Y) else k4 (v6,H,v9,v10)
) qb (v1,(AQ (v1+1)),Q,v2,v3)
) λ(v20,v21,v22,v23)=>
(rv (0<=v20/\v20<=(v21.length:Int)/\(v21.length:Int)<=(v21.length:Int))).bind λ_=>
(part (Xbg (Xi v20) v21++Xal (Xi (v21.length:Int)-Xi v20) (⟨(⟨false,(0:j),(0:j)⟩:Addr),0⟩:fI)++Xbh ((Xi v20)+(Xi (v21.length:Int)-Xi v20)) v21) 0 v20).bind λa7=> some (a7,v22,v23)
def Gy (a0:iA)(a1:iA):O (I fI):= AB (τ:=(I fI)) (λk1=> AH (σ:=(I fI)) (λJ=> k1 J
) (λF (x4:I fT) i5 J=> AB (τ:=(I fI)) (λk6=> AB (τ:=(I fI)) (λk7=> AH (σ:=(I fI)) (λK=> k7 K
) (λH (M:fT) i11 K=>
(gH (α:=fI) 32 K ([M.o3.fI]:I fI)).bind λP=> H P
) x4 0 J
) λQ=> k6 Q
) λU=> F U
) ([a0.fT,a1.fT]:I (I fT)) 0 []
) λV=>
(GM Dl V).bind λY=>
(Au Y).bind λZ=>
(Af Z a0 a1).bind λ(a6,a7,v20)=> some a6
def Gw (Z:iA)(a1:iA):O (I fI):=
(Cm Z a1).bind λv1=> AB (τ:=(I fI)) (λk2=> AH (σ:=(I fI)) (λK=> k2 K
) (λF (M:fI) i6 K=>
(CJ Z M).bind λ(v7,v8)=>
(CJ a1 M).bind λ(v9,v10)=> AB (τ:=C) (λH=> if (!(v8==v10)) then H true else if v8 then
(BB v7 v9).bind λP=> H (cond false true (cond true (!P) false)) else H false
) λQ=> AB (τ:=(I fI)) (λJ=> if Q then
(gH (α:=fI) 32 K ([M]:I fI)).bind λU=> J U else J K
) λV=> F V
) v1 0 []
) λY=> some Y
def Dt (a0:iA)(a1:I Int)(a2:Int)(a3:Int)(a4:Int):O C:=
(F4 a0).bind λv1=> if (!v1) then
(G1).bind λv2=> some v2 else
(NZ a1).bind λv3=>
(F6 v3).bind λ(v4,v5,v6)=> AB (τ:=Unit) (λk7=> AH (σ:=Unit) (λ_=> k7 ()
) (λJ (Z:iA) i10 _=> AB (τ:=Unit) (λa6=>
(FU Z).bind λ(v12,a7)=>
(FS Z).bind λ(M,a8)=> AB (τ:=C) (λP=> if (a7 !=a8) then P true else
(FO v12 M).bind λaa=> P (cond false true (!aa))
) λab=> if ab then some false else
(Ej a2 100).bind λae=>
(Ej a3 70).bind λaf=>
(Ej a2 100).bind λag=> AB (τ:=Unit) (λah=> AH (σ:=iA×iA) (λ(v23,v24)=> ah ()
) (λF (H:I Int) i27 (v23,v24)=>
(iB H 0).bind λai=>
(iB H 1).bind λaj=>
(IA Z ai aj).bind λ(v30,v31)=>
(iB H 0).bind λak=>
(iB H 1).bind λal=>
(Ge Z ak al).bind λ(Q,v35)=> AB (τ:=C) (λU=> if (v31 !=v35) then U true else
(FO v30 Q).bind λan=> U (cond false true (!an))
) λao=> if ao then some false else F (v30,Q)
) ([([a2,a3]:I Int),([ae,af]:I Int),([ag,0]:I Int)]:I (I Int)) 0 (v12,M)
) λ_=> a6 ()
) λ_=> J ()
) ([v5,a0]:I iA) 0 ()
) λ_=>
(Ej a4 4).bind λap=>
(EW v5 ap).bind λaq=>
(Cd v6 v5.kI.ql).bind λ(v41,bf)=>
(Fq v4 v5 v41).bind λ(ar,v44)=> AB (τ:=iA) (λV=> if (v44==0) then V ar else V aq
) λY=> AB (τ:=C) (λK=>
(Ej a4 4).bind λau=>
(G8 v5 au).bind λax=>
(Ej a4 4).bind λay=>
(EW v5 ay).bind λaz=>
(FO ax az).bind λb0=> if b0 then
(Gy v5 Y).bind λba=>
(Gw v5 Y).bind λbb=>
(C2 ba bb).bind λbc=> if (cond true bc false) then
(G1).bind λbd=> K (cond true bd false) else K false else K false
) λbe=> some be
end Go.AX.Q25
end
