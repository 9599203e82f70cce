/-
  Texts of one proof, packed.
-/
import Derived.Test.YthbbpeeghmpcfaaGreatDoorR14
import Derived.Test.YthbbpeeghmpcfaaGreatDoorR16
set_option linter.all false
set_option maxRecDepth 100000
set_option maxHeartbeats 4000000
open List renaming length_map→X1,length_append→X2,length_drop→X14,length_take→X15,length_replicate→X17,length_set→X18
open Option renaming getD→Xdb
open Int renaming toNat→Xa0,fdiv→Xc4,tdiv→Xd7,tmod→Xes
open BitVec renaming ofInt→Xa3
open List renaming map→Xa5,replicate→Xaa,take→Xb7,drop→Xb8,cons→Xcj,toArray→Xe8
open ByteArray renaming empty→Xbe,mk→Xe7
section
namespace Go.AX.Q33
open Go Go.AX
def Oj:O (Int×Int):=[(1,64),(2,64),(3,64),(4,128),(5,64),(8,192),(32,192),(35,192)]
structure tx where
  L:List Int
  At:Int
def tx.cW (x:tx):D:=.agg [D.l 1 D.i x.L,D.i x.At]
def tx.av (x:tx):O AV:=[.d (D.l 1 D.i x.L),.d (D.i x.At)]
def tx.zv:O AV:=[.d (D.nil 1),.d (D.i 0)]
structure B4 where
  tb:Int
  Value:Int
def B4.cW (x:B4):D:=.agg [D.i x.tb,D.i x.Value]
def B4.av (x:B4):O AV:=[.d (D.i x.tb),.d (D.i x.Value)]
def B4.zv:O AV:=[.d (D.i 0),.d (D.i 0)]
def B4.zn (x y:B4):I:=((x.tb==y.tb)&&((x.Value==y.Value)&&true))
structure tF where
  tb:Int
  Ty:Bool
  rq:Bool
  Kl:Bool
  zX:Int
  El:List Int
  B4:List B4
def tF.cW (x:tF):D:=.agg [D.i x.tb,D.b x.Ty,D.b x.rq,D.b x.Kl,D.i x.zX,D.l 1 D.i x.El,D.l 2 B4.cW x.B4]
def tF.av (x:tF):O AV:=[.d (D.i x.tb),.d (D.b x.Ty),.d (D.b x.rq),.d (D.b x.Kl),.d (D.i x.zX),.d (D.l 1 D.i x.El),.d (D.l 2 B4.cW x.B4)]
def tF.zv:O AV:=[.d (D.i 0),.d (D.b false),.d (D.b false),.d (D.b false),.d (D.i 0),.d (D.nil 1),.d (D.nil 2)]
structure Addr where
  V6:Bool
  Hi:UInt64
  Lo:UInt64
def Addr.cW (x:Addr):D:=.agg [D.b x.V6,D.u64 x.Hi,D.u64 x.Lo]
def Addr.av (x:Addr):O AV:=[.d (D.b x.V6),.d (D.u64 x.Hi),.d (D.u64 x.Lo)]
def Addr.zv:O AV:=[.d (D.b false),.d (D.u64 (0:j)),.d (D.u64 (0:j))]
def Addr.zn (x y:Addr):I:=((x.V6==y.V6)&&(((x.Hi.toNat:Int)==(y.Hi.toNat:Int))&&(((x.Lo.toNat:Int)==(y.Lo.toNat:Int))&&true)))
structure fI where
  Addr:Addr
  zk:Int
def fI.cW (x:fI):D:=.agg [D.b x.Addr.V6,D.u64 x.Addr.Hi,D.u64 x.Addr.Lo,D.i x.zk]
def fI.av (x:fI):O AV:=[.d (D.b x.Addr.V6),.d (D.u64 x.Addr.Hi),.d (D.u64 x.Addr.Lo),.d (D.i x.zk)]
def fI.zv:O AV:=[.d (D.b false),.d (D.u64 (0:j)),.d (D.u64 (0:j)),.d (D.i 0)]
def fI.zn (x y:fI):I:=(((x.Addr.V6==y.Addr.V6)&&(((x.Addr.Hi.toNat:Int)==(y.Addr.Hi.toNat:Int))&&(((x.Addr.Lo.toNat:Int)==(y.Addr.Lo.toNat:Int))&&true)))&&((x.zk==y.zk)&&true))
structure ss where
  fI:fI
  Max:Int
  tb:Int
def ss.cW (x:ss):D:=.agg [D.b x.fI.Addr.V6,D.u64 x.fI.Addr.Hi,D.u64 x.fI.Addr.Lo,D.i x.fI.zk,D.i x.Max,D.i x.tb]
def ss.av (x:ss):O AV:=[.d (D.b x.fI.Addr.V6),.d (D.u64 x.fI.Addr.Hi),.d (D.u64 x.fI.Addr.Lo),.d (D.i x.fI.zk),.d (D.i x.Max),.d (D.i x.tb)]
def ss.zv:O AV:=[.d (D.b false),.d (D.u64 (0:j)),.d (D.u64 (0:j)),.d (D.i 0),.d (D.i 0),.d (D.i 0)]
def ss.zn (x y:ss):I:=((((x.fI.Addr.V6==y.fI.Addr.V6)&&(((x.fI.Addr.Hi.toNat:Int)==(y.fI.Addr.Hi.toNat:Int))&&(((x.fI.Addr.Lo.toNat:Int)==(y.fI.Addr.Lo.toNat:Int))&&true)))&&((x.fI.zk==y.fI.zk)&&true))&&((x.Max==y.Max)&&((x.tb==y.tb)&&true)))
structure Set where
  Name:ByteArray
  qv:List Int
  tE:List ByteArray
def Set.cW (x:Set):D:=.agg [D.s x.Name,D.l 1 D.i x.qv,D.l 1 D.s x.tE]
def Set.av (x:Set):O AV:=[.d (D.s x.Name),.d (D.l 1 D.i x.qv),.d (D.l 1 D.s x.tE)]
def Set.zv:O AV:=[.d (D.s Xbe),.d (D.nil 1),.d (D.nil 1)]
structure zu where
  tE:List Set
  r9:List ss
def zu.cW (x:zu):D:=.agg [D.l 3 Set.cW x.tE,D.l 6 ss.cW x.r9]
def zu.av (x:zu):O AV:=[.d (D.l 3 Set.cW x.tE),.d (D.l 6 ss.cW x.r9)]
def zu.zv:O AV:=[.d (D.nil 3),.d (D.nil 6)]
structure Ck where
  zQ:Int
  To:Int
def Ck.cW (x:Ck):D:=.agg [D.i x.zQ,D.i x.To]
def Ck.av (x:Ck):O AV:=[.d (D.i x.zQ),.d (D.i x.To)]
def Ck.zv:O AV:=[.d (D.i 0),.d (D.i 0)]
structure oX where
  DH:Int
  Bb:List fI
  CT:Int
  zi:Int
  CR:Int
  zh:Int
  AJ:Int
  B3:Int
  wg:List fI
  tv:List Ck
  zq:List Int
  zX:Int
  zu:zu
  sI:List ss
def oX.cW (x:oX):D:=.agg [D.i x.DH,D.l 4 fI.cW x.Bb,D.i x.CT,D.i x.zi,D.i x.CR,D.i x.zh,D.i x.AJ,D.i x.B3,D.l 4 fI.cW x.wg,D.l 2 Ck.cW x.tv,D.l 1 D.i x.zq,D.i x.zX,D.l 3 Set.cW x.zu.tE,D.l 6 ss.cW x.zu.r9,D.l 6 ss.cW x.sI]
def oX.av (x:oX):O AV:=[.d (D.i x.DH),.d (D.l 4 fI.cW x.Bb),.d (D.i x.CT),.d (D.i x.zi),.d (D.i x.CR),.d (D.i x.zh),.d (D.i x.AJ),.d (D.i x.B3),.d (D.l 4 fI.cW x.wg),.d (D.l 2 Ck.cW x.tv),.d (D.l 1 D.i x.zq),.d (D.i x.zX),.d (D.l 3 Set.cW x.zu.tE),.d (D.l 6 ss.cW x.zu.r9),.d (D.l 6 ss.cW x.sI)]
def oX.zv:O AV:=[.d (D.i 0),.d (D.nil 4),.d (D.i 0),.d (D.i 0),.d (D.i 0),.d (D.i 0),.d (D.i 0),.d (D.i 0),.d (D.nil 4),.d (D.nil 2),.d (D.nil 1),.d (D.i 0),.d (D.nil 3),.d (D.nil 6),.d (D.nil 6)]
structure r8 where
  Set:Bool
  qv:List Int
def r8.cW (x:r8):D:=.agg [D.b x.Set,D.l 1 D.i x.qv]
def r8.av (x:r8):O AV:=[.d (D.b x.Set),.d (D.l 1 D.i x.qv)]
def r8.zv:O AV:=[.d (D.b false),.d (D.nil 1)]
structure oF where
  A:Int
  B:Int
def oF.cW (x:oF):D:=.agg [D.i x.A,D.i x.B]
def oF.av (x:oF):O AV:=[.d (D.i x.A),.d (D.i x.B)]
def oF.zv:O AV:=[.d (D.i 0),.d (D.i 0)]
def oF.zn (x y:oF):I:=((x.A==y.A)&&((x.B==y.B)&&true))
structure iX where
  A:Int
  B:Int
  C:Int
def iX.cW (x:iX):D:=.agg [D.i x.A,D.i x.B,D.i x.C]
def iX.av (x:iX):O AV:=[.d (D.i x.A),.d (D.i x.B),.d (D.i x.C)]
def iX.zv:O AV:=[.d (D.i 0),.d (D.i 0),.d (D.i 0)]
def iX.zn (x y:iX):I:=((x.A==y.A)&&((x.B==y.B)&&((x.C==y.C)&&true)))
structure gL where
  Flags:Int
  gE:Int
  Data:List UInt8
def gL.cW (x:gL):D:=.agg [D.i x.Flags,D.i x.gE,D.l 1 D.u8 x.Data]
def gL.av (x:gL):O AV:=[.d (D.i x.Flags),.d (D.i x.gE),.d (D.l 1 D.u8 x.Data)]
def gL.zv:O AV:=[.d (D.i 0),.d (D.i 0),.d (D.nil 1)]
structure gH where
  o3:Int
  Path:List r8
  Next:Addr
  AF:Int
  xL:Int
  zy:Int
  fT:List oF
  iX:List iX
  oE:List gL
def gH.cW (x:gH):D:=.agg [D.i x.o3,D.l 2 r8.cW x.Path,D.b x.Next.V6,D.u64 x.Next.Hi,D.u64 x.Next.Lo,D.i x.AF,D.i x.xL,D.i x.zy,D.l 2 oF.cW x.fT,D.l 3 iX.cW x.iX,D.l 3 gL.cW x.oE]
def gH.av (x:gH):O AV:=[.d (D.i x.o3),.d (D.l 2 r8.cW x.Path),.d (D.b x.Next.V6),.d (D.u64 x.Next.Hi),.d (D.u64 x.Next.Lo),.d (D.i x.AF),.d (D.i x.xL),.d (D.i x.zy),.d (D.l 2 oF.cW x.fT),.d (D.l 3 iX.cW x.iX),.d (D.l 3 gL.cW x.oE)]
def gH.zv:O AV:=[.d (D.i 0),.d (D.nil 2),.d (D.b false),.d (D.u64 (0:j)),.d (D.u64 (0:j)),.d (D.i 0),.d (D.i 0),.d (D.i 0),.d (D.nil 2),.d (D.nil 3),.d (D.nil 3)]
structure th where
  tb:Int
  Set:ByteArray
  zi:Int
  zh:Int
  zd:List Addr
def th.cW (x:th):D:=.agg [D.i x.tb,D.s x.Set,D.i x.zi,D.i x.zh,D.l 3 Addr.cW x.zd]
def th.av (x:th):O AV:=[.d (D.i x.tb),.d (D.s x.Set),.d (D.i x.zi),.d (D.i x.zh),.d (D.l 3 Addr.cW x.zd)]
def th.zv:O AV:=[.d (D.i 0),.d (D.s Xbe),.d (D.i 0),.d (D.i 0),.d (D.nil 3)]
structure mu where
  fI:fI
  zQ:Int
  gH:gH
def mu.cW (x:mu):D:=.agg [D.b x.fI.Addr.V6,D.u64 x.fI.Addr.Hi,D.u64 x.fI.Addr.Lo,D.i x.fI.zk,D.i x.zQ,D.i x.gH.o3,D.l 2 r8.cW x.gH.Path,D.b x.gH.Next.V6,D.u64 x.gH.Next.Hi,D.u64 x.gH.Next.Lo,D.i x.gH.AF,D.i x.gH.xL,D.i x.gH.zy,D.l 2 oF.cW x.gH.fT,D.l 3 iX.cW x.gH.iX,D.l 3 gL.cW x.gH.oE]
def mu.av (x:mu):O AV:=[.d (D.b x.fI.Addr.V6),.d (D.u64 x.fI.Addr.Hi),.d (D.u64 x.fI.Addr.Lo),.d (D.i x.fI.zk),.d (D.i x.zQ),.d (D.i x.gH.o3),.d (D.l 2 r8.cW x.gH.Path),.d (D.b x.gH.Next.V6),.d (D.u64 x.gH.Next.Hi),.d (D.u64 x.gH.Next.Lo),.d (D.i x.gH.AF),.d (D.i x.gH.xL),.d (D.i x.gH.zy),.d (D.l 2 oF.cW x.gH.fT),.d (D.l 3 iX.cW x.gH.iX),.d (D.l 3 gL.cW x.gH.oE)]
def mu.zv:O AV:=[.d (D.b false),.d (D.u64 (0:j)),.d (D.u64 (0:j)),.d (D.i 0),.d (D.i 0),.d (D.i 0),.d (D.nil 2),.d (D.b false),.d (D.u64 (0:j)),.d (D.u64 (0:j)),.d (D.i 0),.d (D.i 0),.d (D.i 0),.d (D.nil 2),.d (D.nil 3),.d (D.nil 3)]
structure gT where
  mu:mu
  zW:Int
  zw:Bool
def gT.cW (x:gT):D:=.agg [D.b x.mu.fI.Addr.V6,D.u64 x.mu.fI.Addr.Hi,D.u64 x.mu.fI.Addr.Lo,D.i x.mu.fI.zk,D.i x.mu.zQ,D.i x.mu.gH.o3,D.l 2 r8.cW x.mu.gH.Path,D.b x.mu.gH.Next.V6,D.u64 x.mu.gH.Next.Hi,D.u64 x.mu.gH.Next.Lo,D.i x.mu.gH.AF,D.i x.mu.gH.xL,D.i x.mu.gH.zy,D.l 2 oF.cW x.mu.gH.fT,D.l 3 iX.cW x.mu.gH.iX,D.l 3 gL.cW x.mu.gH.oE,D.i x.zW,D.b x.zw]
def gT.av (x:gT):O AV:=[.d (D.b x.mu.fI.Addr.V6),.d (D.u64 x.mu.fI.Addr.Hi),.d (D.u64 x.mu.fI.Addr.Lo),.d (D.i x.mu.fI.zk),.d (D.i x.mu.zQ),.d (D.i x.mu.gH.o3),.d (D.l 2 r8.cW x.mu.gH.Path),.d (D.b x.mu.gH.Next.V6),.d (D.u64 x.mu.gH.Next.Hi),.d (D.u64 x.mu.gH.Next.Lo),.d (D.i x.mu.gH.AF),.d (D.i x.mu.gH.xL),.d (D.i x.mu.gH.zy),.d (D.l 2 oF.cW x.mu.gH.fT),.d (D.l 3 iX.cW x.mu.gH.iX),.d (D.l 3 gL.cW x.mu.gH.oE),.d (D.i x.zW),.d (D.b x.zw)]
def gT.zv:O AV:=[.d (D.b false),.d (D.u64 (0:j)),.d (D.u64 (0:j)),.d (D.i 0),.d (D.i 0),.d (D.i 0),.d (D.nil 2),.d (D.b false),.d (D.u64 (0:j)),.d (D.u64 (0:j)),.d (D.i 0),.d (D.i 0),.d (D.i 0),.d (D.nil 2),.d (D.nil 3),.d (D.nil 3),.d (D.i 0),.d (D.b false)]
structure rv where
  th:th
  Up:Bool
  gT:List gT
  xS:Int
def rv.cW (x:rv):D:=.agg [D.i x.th.tb,D.s x.th.Set,D.i x.th.zi,D.i x.th.zh,D.l 3 Addr.cW x.th.zd,D.b x.Up,D.l 18 gT.cW x.gT,D.i x.xS]
def rv.av (x:rv):O AV:=[.d (D.i x.th.tb),.d (D.s x.th.Set),.d (D.i x.th.zi),.d (D.i x.th.zh),.d (D.l 3 Addr.cW x.th.zd),.d (D.b x.Up),.d (D.l 18 gT.cW x.gT),.d (D.i x.xS)]
def rv.zv:O AV:=[.d (D.i 0),.d (D.s Xbe),.d (D.i 0),.d (D.i 0),.d (D.nil 3),.d (D.b false),.d (D.nil 18),.d (D.i 0)]
structure ur where
  oX:oX
  gD:List tF
  oT:List rv
def ur.cW (x:ur):D:=.agg [D.i x.oX.DH,D.l 4 fI.cW x.oX.Bb,D.i x.oX.CT,D.i x.oX.zi,D.i x.oX.CR,D.i x.oX.zh,D.i x.oX.AJ,D.i x.oX.B3,D.l 4 fI.cW x.oX.wg,D.l 2 Ck.cW x.oX.tv,D.l 1 D.i x.oX.zq,D.i x.oX.zX,D.l 3 Set.cW x.oX.zu.tE,D.l 6 ss.cW x.oX.zu.r9,D.l 6 ss.cW x.oX.sI,D.l 7 tF.cW x.gD,D.l 8 rv.cW x.oT]
def ur.av (x:ur):O AV:=[.d (D.i x.oX.DH),.d (D.l 4 fI.cW x.oX.Bb),.d (D.i x.oX.CT),.d (D.i x.oX.zi),.d (D.i x.oX.CR),.d (D.i x.oX.zh),.d (D.i x.oX.AJ),.d (D.i x.oX.B3),.d (D.l 4 fI.cW x.oX.wg),.d (D.l 2 Ck.cW x.oX.tv),.d (D.l 1 D.i x.oX.zq),.d (D.i x.oX.zX),.d (D.l 3 Set.cW x.oX.zu.tE),.d (D.l 6 ss.cW x.oX.zu.r9),.d (D.l 6 ss.cW x.oX.sI),.d (D.l 7 tF.cW x.gD),.d (D.l 8 rv.cW x.oT)]
def ur.zv:O AV:=[.d (D.i 0),.d (D.nil 4),.d (D.i 0),.d (D.i 0),.d (D.i 0),.d (D.i 0),.d (D.i 0),.d (D.i 0),.d (D.nil 4),.d (D.nil 2),.d (D.nil 1),.d (D.i 0),.d (D.nil 3),.d (D.nil 6),.d (D.nil 6),.d (D.nil 7),.d (D.nil 8)]
structure Pc where
  e0:Int
  e1:Int
  e2:Int
  e3:Int
  e4:Int
def Pc.cW (x:Pc):D:=.agg [D.i x.e0,D.i x.e1,D.i x.e2,D.i x.e3,D.i x.e4]
def Pc.av (x:Pc):O AV:=[.d (D.i x.e0),.d (D.i x.e1),.d (D.i x.e2),.d (D.i x.e3),.d (D.i x.e4)]
def Pc.zv:O AV:=[.d (D.i 0),.d (D.i 0),.d (D.i 0),.d (D.i 0),.d (D.i 0)]
structure Ct where
  ur:ur
  Cl:List (List mu)
def Ct.cW (x:Ct):D:=.agg [D.i x.ur.oX.DH,D.l 4 fI.cW x.ur.oX.Bb,D.i x.ur.oX.CT,D.i x.ur.oX.zi,D.i x.ur.oX.CR,D.i x.ur.oX.zh,D.i x.ur.oX.AJ,D.i x.ur.oX.B3,D.l 4 fI.cW x.ur.oX.wg,D.l 2 Ck.cW x.ur.oX.tv,D.l 1 D.i x.ur.oX.zq,D.i x.ur.oX.zX,D.l 3 Set.cW x.ur.oX.zu.tE,D.l 6 ss.cW x.ur.oX.zu.r9,D.l 6 ss.cW x.ur.oX.sI,D.l 7 tF.cW x.ur.gD,D.l 8 rv.cW x.ur.oT,D.l 1 (D.l 16 mu.cW) x.Cl]
def Ct.av (x:Ct):O AV:=[.d (D.i x.ur.oX.DH),.d (D.l 4 fI.cW x.ur.oX.Bb),.d (D.i x.ur.oX.CT),.d (D.i x.ur.oX.zi),.d (D.i x.ur.oX.CR),.d (D.i x.ur.oX.zh),.d (D.i x.ur.oX.AJ),.d (D.i x.ur.oX.B3),.d (D.l 4 fI.cW x.ur.oX.wg),.d (D.l 2 Ck.cW x.ur.oX.tv),.d (D.l 1 D.i x.ur.oX.zq),.d (D.i x.ur.oX.zX),.d (D.l 3 Set.cW x.ur.oX.zu.tE),.d (D.l 6 ss.cW x.ur.oX.zu.r9),.d (D.l 6 ss.cW x.ur.oX.sI),.d (D.l 7 tF.cW x.ur.gD),.d (D.l 8 rv.cW x.ur.oT),.d (D.l 1 (D.l 16 mu.cW) x.Cl)]
def Ct.zv:O AV:=[.d (D.i 0),.d (D.nil 4),.d (D.i 0),.d (D.i 0),.d (D.i 0),.d (D.i 0),.d (D.i 0),.d (D.i 0),.d (D.nil 4),.d (D.nil 2),.d (D.nil 1),.d (D.i 0),.d (D.nil 3),.d (D.nil 6),.d (D.nil 6),.d (D.nil 7),.d (D.nil 8),.d (D.nil 1)]
structure zl where
  oB:List fI
  gH:gH
  gF:List fI
def zl.cW (x:zl):D:=.agg [D.l 4 fI.cW x.oB,D.i x.gH.o3,D.l 2 r8.cW x.gH.Path,D.b x.gH.Next.V6,D.u64 x.gH.Next.Hi,D.u64 x.gH.Next.Lo,D.i x.gH.AF,D.i x.gH.xL,D.i x.gH.zy,D.l 2 oF.cW x.gH.fT,D.l 3 iX.cW x.gH.iX,D.l 3 gL.cW x.gH.oE,D.l 4 fI.cW x.gF]
def zl.av (x:zl):O AV:=[.d (D.l 4 fI.cW x.oB),.d (D.i x.gH.o3),.d (D.l 2 r8.cW x.gH.Path),.d (D.b x.gH.Next.V6),.d (D.u64 x.gH.Next.Hi),.d (D.u64 x.gH.Next.Lo),.d (D.i x.gH.AF),.d (D.i x.gH.xL),.d (D.i x.gH.zy),.d (D.l 2 oF.cW x.gH.fT),.d (D.l 3 iX.cW x.gH.iX),.d (D.l 3 gL.cW x.gH.oE),.d (D.l 4 fI.cW x.gF)]
def zl.zv:O AV:=[.d (D.nil 4),.d (D.i 0),.d (D.nil 2),.d (D.b false),.d (D.u64 (0:j)),.d (D.u64 (0:j)),.d (D.i 0),.d (D.i 0),.d (D.i 0),.d (D.nil 2),.d (D.nil 3),.d (D.nil 3),.d (D.nil 4)]
structure DA where
  To:Int
  fI:fI
  Has:Bool
  mu:mu
def DA.cW (x:DA):D:=.agg [D.i x.To,D.b x.fI.Addr.V6,D.u64 x.fI.Addr.Hi,D.u64 x.fI.Addr.Lo,D.i x.fI.zk,D.b x.Has,D.b x.mu.fI.Addr.V6,D.u64 x.mu.fI.Addr.Hi,D.u64 x.mu.fI.Addr.Lo,D.i x.mu.fI.zk,D.i x.mu.zQ,D.i x.mu.gH.o3,D.l 2 r8.cW x.mu.gH.Path,D.b x.mu.gH.Next.V6,D.u64 x.mu.gH.Next.Hi,D.u64 x.mu.gH.Next.Lo,D.i x.mu.gH.AF,D.i x.mu.gH.xL,D.i x.mu.gH.zy,D.l 2 oF.cW x.mu.gH.fT,D.l 3 iX.cW x.mu.gH.iX,D.l 3 gL.cW x.mu.gH.oE]
def DA.av (x:DA):O AV:=[.d (D.i x.To),.d (D.b x.fI.Addr.V6),.d (D.u64 x.fI.Addr.Hi),.d (D.u64 x.fI.Addr.Lo),.d (D.i x.fI.zk),.d (D.b x.Has),.d (D.b x.mu.fI.Addr.V6),.d (D.u64 x.mu.fI.Addr.Hi),.d (D.u64 x.mu.fI.Addr.Lo),.d (D.i x.mu.fI.zk),.d (D.i x.mu.zQ),.d (D.i x.mu.gH.o3),.d (D.l 2 r8.cW x.mu.gH.Path),.d (D.b x.mu.gH.Next.V6),.d (D.u64 x.mu.gH.Next.Hi),.d (D.u64 x.mu.gH.Next.Lo),.d (D.i x.mu.gH.AF),.d (D.i x.mu.gH.xL),.d (D.i x.mu.gH.zy),.d (D.l 2 oF.cW x.mu.gH.fT),.d (D.l 3 iX.cW x.mu.gH.iX),.d (D.l 3 gL.cW x.mu.gH.oE)]
def DA.zv:O AV:=[.d (D.i 0),.d (D.b false),.d (D.u64 (0:j)),.d (D.u64 (0:j)),.d (D.i 0),.d (D.b false),.d (D.b false),.d (D.u64 (0:j)),.d (D.u64 (0:j)),.d (D.i 0),.d (D.i 0),.d (D.i 0),.d (D.nil 2),.d (D.b false),.d (D.u64 (0:j)),.d (D.u64 (0:j)),.d (D.i 0),.d (D.i 0),.d (D.i 0),.d (D.nil 2),.d (D.nil 3),.d (D.nil 3)]
structure zO where
  Kind:Int
  Co:Int
  KK:Int
  zT:Int
  zl:zl
  tF:tF
def zO.cW (x:zO):D:=.agg [D.i x.Kind,D.i x.Co,D.i x.KK,D.i x.zT,D.l 4 fI.cW x.zl.oB,D.i x.zl.gH.o3,D.l 2 r8.cW x.zl.gH.Path,D.b x.zl.gH.Next.V6,D.u64 x.zl.gH.Next.Hi,D.u64 x.zl.gH.Next.Lo,D.i x.zl.gH.AF,D.i x.zl.gH.xL,D.i x.zl.gH.zy,D.l 2 oF.cW x.zl.gH.fT,D.l 3 iX.cW x.zl.gH.iX,D.l 3 gL.cW x.zl.gH.oE,D.l 4 fI.cW x.zl.gF,D.i x.tF.tb,D.b x.tF.Ty,D.b x.tF.rq,D.b x.tF.Kl,D.i x.tF.zX,D.l 1 D.i x.tF.El,D.l 2 B4.cW x.tF.B4]
def zO.av (x:zO):O AV:=[.d (D.i x.Kind),.d (D.i x.Co),.d (D.i x.KK),.d (D.i x.zT),.d (D.l 4 fI.cW x.zl.oB),.d (D.i x.zl.gH.o3),.d (D.l 2 r8.cW x.zl.gH.Path),.d (D.b x.zl.gH.Next.V6),.d (D.u64 x.zl.gH.Next.Hi),.d (D.u64 x.zl.gH.Next.Lo),.d (D.i x.zl.gH.AF),.d (D.i x.zl.gH.xL),.d (D.i x.zl.gH.zy),.d (D.l 2 oF.cW x.zl.gH.fT),.d (D.l 3 iX.cW x.zl.gH.iX),.d (D.l 3 gL.cW x.zl.gH.oE),.d (D.l 4 fI.cW x.zl.gF),.d (D.i x.tF.tb),.d (D.b x.tF.Ty),.d (D.b x.tF.rq),.d (D.b x.tF.Kl),.d (D.i x.tF.zX),.d (D.l 1 D.i x.tF.El),.d (D.l 2 B4.cW x.tF.B4)]
def zO.zv:O AV:=[.d (D.i 0),.d (D.i 0),.d (D.i 0),.d (D.i 0),.d (D.nil 4),.d (D.i 0),.d (D.nil 2),.d (D.b false),.d (D.u64 (0:j)),.d (D.u64 (0:j)),.d (D.i 0),.d (D.i 0),.d (D.i 0),.d (D.nil 2),.d (D.nil 3),.d (D.nil 3),.d (D.nil 4),.d (D.i 0),.d (D.b false),.d (D.b false),.d (D.b false),.d (D.i 0),.d (D.nil 1),.d (D.nil 2)]
structure Open where
  tb:Int
  ID:Int
  Ki:Int
  Kf:Int
  zT:Int
  FF:Bool
def Open.cW (x:Open):D:=.agg [D.i x.tb,D.i x.ID,D.i x.Ki,D.i x.Kf,D.i x.zT,D.b x.FF]
def Open.av (x:Open):O AV:=[.d (D.i x.tb),.d (D.i x.ID),.d (D.i x.Ki),.d (D.i x.Kf),.d (D.i x.zT),.d (D.b x.FF)]
def Open.zv:O AV:=[.d (D.i 0),.d (D.i 0),.d (D.i 0),.d (D.i 0),.d (D.i 0),.d (D.b false)]
structure JN where
  State:Int
  DE:Open
  tb:Int
  zN:Open
  Sf:Int
  Mw:Int
def JN.cW (x:JN):D:=.agg [D.i x.State,D.i x.DE.tb,D.i x.DE.ID,D.i x.DE.Ki,D.i x.DE.Kf,D.i x.DE.zT,D.b x.DE.FF,D.i x.tb,D.i x.zN.tb,D.i x.zN.ID,D.i x.zN.Ki,D.i x.zN.Kf,D.i x.zN.zT,D.b x.zN.FF,D.i x.Sf,D.i x.Mw]
def JN.av (x:JN):O AV:=[.d (D.i x.State),.d (D.i x.DE.tb),.d (D.i x.DE.ID),.d (D.i x.DE.Ki),.d (D.i x.DE.Kf),.d (D.i x.DE.zT),.d (D.b x.DE.FF),.d (D.i x.tb),.d (D.i x.zN.tb),.d (D.i x.zN.ID),.d (D.i x.zN.Ki),.d (D.i x.zN.Kf),.d (D.i x.zN.zT),.d (D.b x.zN.FF),.d (D.i x.Sf),.d (D.i x.Mw)]
def JN.zv:O AV:=[.d (D.i 0),.d (D.i 0),.d (D.i 0),.d (D.i 0),.d (D.i 0),.d (D.i 0),.d (D.b false),.d (D.i 0),.d (D.i 0),.d (D.i 0),.d (D.i 0),.d (D.i 0),.d (D.i 0),.d (D.b false),.d (D.i 0),.d (D.i 0)]
structure Er where
  zY:List gL
  next:Addr
  Fy:List fI
  CD:List fI
  Kj:List fI
  F0:List fI
def Er.cW (x:Er):D:=.agg [D.l 3 gL.cW x.zY,D.b x.next.V6,D.u64 x.next.Hi,D.u64 x.next.Lo,D.l 4 fI.cW x.Fy,D.l 4 fI.cW x.CD,D.l 4 fI.cW x.Kj,D.l 4 fI.cW x.F0]
def Er.av (x:Er):O AV:=[.d (D.l 3 gL.cW x.zY),.d (D.b x.next.V6),.d (D.u64 x.next.Hi),.d (D.u64 x.next.Lo),.d (D.l 4 fI.cW x.Fy),.d (D.l 4 fI.cW x.CD),.d (D.l 4 fI.cW x.Kj),.d (D.l 4 fI.cW x.F0)]
def Er.zv:O AV:=[.d (D.nil 3),.d (D.b false),.d (D.u64 (0:j)),.d (D.u64 (0:j)),.d (D.nil 4),.d (D.nil 4),.d (D.nil 4),.d (D.nil 4)]
structure N0 where
  gE:Int
  Body:List UInt8
def N0.cW (x:N0):D:=.agg [D.i x.gE,D.l 1 D.u8 x.Body]
def N0.av (x:N0):O AV:=[.d (D.i x.gE),.d (D.l 1 D.u8 x.Body)]
def N0.zv:O AV:=[.d (D.i 0),.d (D.nil 1)]
structure Mi where
  was:Bool
  is:Bool
def Mi.cW (x:Mi):D:=.agg [D.b x.was,D.b x.is]
def Mi.av (x:Mi):O AV:=[.d (D.b x.was),.d (D.b x.is)]
def Mi.zv:O AV:=[.d (D.b false),.d (D.b false)]
def Mi.zn (x y:Mi):I:=((x.was==y.was)&&((x.is==y.is)&&true))
def OK (a0:O Int):C tx:= some (⟨a0,0⟩:tx)
def Dj (a0:Int):C I:= AC (τ:=I) (λF=> if (decide (a0≥1)) then F (cond true (decide (a0<=4294967295)) false) else F false
) λv2=> some v2
def BA (a0:tF):C Int:= AC (τ:=I) (λP=>
(Dj a0.tb).bind λv2=> if v2 then if (cond true (decide (a0.zX≥0)) false) then if (cond true (decide (a0.zX<=60)) false) then if (cond true (decide ((a0.El.length:Int)<=64)) false) then P (cond true (decide ((a0.B4.length:Int)<=64)) false) else P false else P false else P false else P false
) λv3=> AC (τ:=I) (λk4=> AL (σ:=I) (λV=> k4 V
) (λK (x7:Int) i8 V=> AC (τ:=I) (λU=> if V then
(Dj x7).bind λY=> if (cond true Y false) then if ((i8:Int)==0) then U true else
(gN a0.El (AG ((i8:Int)-1))).bind λZ=> U (cond true (cond false true (decide (Z<x7))) false) else U false else U false
) λa6=> K a6
) a0.El 0 v3
) λa7=> AC (τ:=I) (λa8=> AL (σ:=I) (λM=> a8 M
) (λJ (H:B4) Q M=> AC (τ:=I) (λF=> if M then
(Dj H.tb).bind λaa=> if (cond true aa false) then if ((Q:Int)==0) then if (cond true (decide (H.Value≥(-1000))) false) then F (cond true (decide (H.Value<=1000)) false) else F false else
(gN a0.B4 (AG ((Q:Int)-1))).bind λab=> if (cond true (cond false true (decide (ab.tb<H.tb))) false) then if (cond true (decide (H.Value≥(-1000))) false) then F (cond true (decide (H.Value<=1000)) false) else F false else F false else F false else F false
) λae=> J ae
) a0.B4 0 a7
) λaf=> if (!af) then some 33 else some 0
def Bw (a0:Addr):C I:= AC (τ:=I) (λF=> if a0.V6 then F true else if ((a0.Hi.toNat:Int)==0) then F (cond false true (cond true (decide ((a0.Lo.toNat:Int)<4294967296)) false)) else F false
) λv2=> some v2
def BJ (a0:Addr):C (O S):=
(Bw a0).bind λv1=> if (!v1) then some [] else AC (τ:=Int) (λK=> if a0.V6 then K 16 else K 4
) λQ=> AC (τ:=(O S)) (λU=> Ad (σ:=Int×(O S)) (λF (v6,M)=> if (decide (v6≥0)) then AC (τ:=j) (λP=> if (decide (v6≥8)) then P a0.Hi else P a0.Lo
) λV=>
(gO (α:=S) 1 M ([(Ak ((AZ (Xc4 (V.toNat:Int) (2^(min (Xa0 ((AZ (8*((AZ (Xes v6 8)).toNat:Int))).toNat:Int)) 64)))).toNat:Int))]:O S)).bind λH=> F ((AG (v6-1)),H) else U M
) xv ((AG (Q-1)),[])
) λJ=> some J
def CP (a0:Addr):C Int:= if a0.V6 then some 128 else some 32
def BL (a0:O S):C (Addr×Int):= AC (τ:=I) (λJ=> if ((a0.length:Int) !=4) then J (cond true ((a0.length:Int) !=16) false) else J false
) λv2=> if v2 then some ((⟨false,(0:j),(0:j)⟩:Addr),1) else AC (τ:=Addr) (λK=> AL (σ:=Addr) (λH=> K H
) (λF (M:S) i7 H=> F (⟨H.V6,(AZ ((Xa3 64 ((AZ ((H.Hi.toNat:Int)*(2^(min (Xa0 8) 64)))).toNat:Int) ||| Xa3 64 ((AZ (Xc4 (H.Lo.toNat:Int) (2^(min (Xa0 56) 64)))).toNat:Int)).toNat:Int)),(AZ ((Xa3 64 ((AZ ((H.Lo.toNat:Int)*(2^(min (Xa0 8) 64)))).toNat:Int) ||| Xa3 64 ((AZ (M.toNat:Int)).toNat:Int)).toNat:Int))⟩:Addr)
) a0 0 (⟨((a0.length:Int)==16),(0:j),(0:j)⟩:Addr)
) λP=> some (P,0)
def DW (a0:Addr)(a1:Int):C (fI×Int):=
(Bw a0).bind λv1=> if (!v1) then some ((⟨(⟨false,(0:j),(0:j)⟩:Addr),0⟩:fI),1) else AC (τ:=I) (λQ=> if (decide (a1<0)) then Q true else
(CP a0).bind λU=> Q (cond false true (decide (a1>U)))
) λV=> if V then some ((⟨(⟨false,(0:j),(0:j)⟩:Addr),0⟩:fI),9) else
(BJ a0).bind λY=> AC (τ:=(O S)) (λZ=> Ad (σ:=Int×(O S)) (λF (H,v9)=> if (decide (H<(AG (8*(v9.length:Int))))) then
(gN v9 (AG (Xd7 H 8))).bind λJ=>
(gN v9 (AG (Xd7 H 8))).bind λa6=>
(Bu v9 (AG (Xd7 H 8)) (Ak ((Xa3 8 (J.toNat:Int) &&& ~~~Xa3 8 ((Ak (Xc4 128 (2^(min (Xa0 ((AZ (Xes H 8)).toNat:Int)) 8)))).toNat:Int)).toNat:Int))).bind λK=> F ((AG (H+1)),K) else Z v9
) xv (a1,Y)
) λM=>
(BL M).bind λ(P,a7)=> some ((⟨P,a1⟩:fI),0)
def Am (a0:fI):C I:=
(DW a0.Addr a0.zk).bind λ(v1,v2)=> AC (τ:=I) (λF=> if (v2==0) then F (cond true (fI.zn a0 v1) false) else F false
) λH=> some H
def Ia (a0:Int):C I:= AC (τ:=I) (λF=> if (decide (a0≥1)) then F (cond true (decide (a0<=4294967295)) false) else F false
) λv2=> some v2
def IW (a0:O fI)(a1:Int):C I:= AC (τ:=Unit) (λH=> AL (σ:=Unit) (λ_=> H ()
) (λF (J:fI) i4 _=>
(Am J).bind λK=> if (!K) then some false else F ()
) a0 0 ()
) λ_=> some (decide ((a0.length:Int)<=a1))
def Dq (a0:I):C Int:= if a0 then some 128 else some 32
def GL (a0:T):C I:= AC (τ:=Unit) (λP=> Ad (σ:=Int) (λJ K=> if (decide (K<(a0.size:Int))) then
(gN a0.toList K).bind λF=> AC (τ:=I) (λH=> if (decide ((F.toNat:Int)≥97)) then if (cond true (decide ((F.toNat:Int)<=122)) false) then H (!true) else if (decide ((F.toNat:Int)≥65)) then if (cond false true (cond true (decide ((F.toNat:Int)<=90)) false)) then H (!true) else if (decide ((F.toNat:Int)≥48)) then if (cond false true (cond true (decide ((F.toNat:Int)<=57)) false)) then H (!true) else if (cond false true ((F.toNat:Int)==45)) then H (!true) else H (!(cond false true ((F.toNat:Int)==58))) else if (cond false true ((F.toNat:Int)==45)) then H (!true) else H (!(cond false true ((F.toNat:Int)==58))) else if (decide ((F.toNat:Int)≥48)) then if (cond false true (cond true (decide ((F.toNat:Int)<=57)) false)) then H (!true) else if (cond false true ((F.toNat:Int)==45)) then H (!true) else H (!(cond false true ((F.toNat:Int)==58))) else if (cond false true ((F.toNat:Int)==45)) then H (!true) else H (!(cond false true ((F.toNat:Int)==58))) else if (decide ((F.toNat:Int)≥65)) then if (cond false true (cond true (decide ((F.toNat:Int)<=90)) false)) then H (!true) else if (decide ((F.toNat:Int)≥48)) then if (cond false true (cond true (decide ((F.toNat:Int)<=57)) false)) then H (!true) else if (cond false true ((F.toNat:Int)==45)) then H (!true) else H (!(cond false true ((F.toNat:Int)==58))) else if (cond false true ((F.toNat:Int)==45)) then H (!true) else H (!(cond false true ((F.toNat:Int)==58))) else if (decide ((F.toNat:Int)≥48)) then if (cond false true (cond true (decide ((F.toNat:Int)<=57)) false)) then H (!true) else if (cond false true ((F.toNat:Int)==45)) then H (!true) else H (!(cond false true ((F.toNat:Int)==58))) else if (cond false true ((F.toNat:Int)==45)) then H (!true) else H (!(cond false true ((F.toNat:Int)==58)))
) λQ=> if Q then some false else J (AG (K+1)) else P ()
) xv 0
) λ_=> AC (τ:=I) (λM=> if (decide ((a0.size:Int)≥1)) then M (cond true (decide ((a0.size:Int)<=32)) false) else M false
) λU=> some U
def Bi (a0:ss):C I:= AC (τ:=Int) (λH=> if a0.fI.Addr.V6 then H 128 else H 32
) λv2=> AC (τ:=I) (λF=>
(Am a0.fI).bind λJ=> if J then if (cond true (decide (a0.Max≥a0.fI.zk)) false) then if (cond true (decide (a0.Max<=v2)) false) then if (cond true (decide (a0.tb≥1)) false) then F (cond true (decide (a0.tb<=4294967295)) false) else F false else F false else F false else F false
) λK=> some K
def Ez (a0:zu):C I:= AC (τ:=Unit) (λk1=> AL (σ:=(O (T×I))) (λv2=> k1 ()
) (λK (M:Set) i5 v2=> AC (τ:=Unit) (λk6=> AC (τ:=I) (λV=>
(GL M.Name).bind λv8=> if (!v8) then V true else
(some (Xdb (A1 v2 M.Name) false)).bind λv9=> if (cond false true v9) then V true else if (cond false true (decide ((M.qv.length:Int)>64))) then V true else V (cond false true (decide ((M.tE.length:Int)>64)))
) λY=> if Y then some false else AC (τ:=Unit) (λZ=> AL (σ:=Unit) (λ_=> Z ()
) (λF (P:Int) i14 _=> AC (τ:=I) (λQ=> if (decide (P<1)) then Q true else Q (cond false true (decide (P>4294967295)))
) λa6=> if a6 then some false else F ()
) M.qv 0 ()
) λ_=> AC (τ:=Unit) (λa7=> AL (σ:=Unit) (λ_=> a7 ()
) (λH (a8:T) i20 _=>
(GL a8).bind λaa=> if (!aa) then some false else H ()
) M.tE 0 ()
) λ_=> k6 ()
) λ_=> K (A3 v2 M.Name true)
) a0.tE 0 []
) λ_=> AC (τ:=Unit) (λab=> AL (σ:=Unit) (λ_=> ab ()
) (λJ (ae:ss) i25 _=>
(Bi ae).bind λaf=> if (!af) then some false else J ()
) a0.r9 0 ()
) λ_=> AC (τ:=I) (λU=> if (decide ((a0.tE.length:Int)<=64)) then U (cond true (decide ((a0.r9.length:Int)<=512)) false) else U false
) λag=> some ag
def GO (a0:oX):C I:= AC (τ:=I) (λV=>
(Ia a0.DH).bind λv2=> if (!v2) then V true else
(IW a0.Bb 8).bind λv3=> if (cond false true (!v3)) then V true else
(IW a0.wg 64).bind λv4=> if (cond false true (!v4)) then V true else if (cond false true (decide ((a0.tv.length:Int)>64))) then V true else if (cond false true (decide ((a0.zq.length:Int)>64))) then V true else V (cond false true (decide ((a0.sI.length:Int)>512)))
) λv5=> if v5 then some false else AC (τ:=Unit) (λk6=> AL (σ:=Unit) (λ_=> k6 ()
) (λQ (Y:Ck) i9 _=> AC (τ:=I) (λU=> if (decide (Y.zQ<0)) then U true else if (cond false true (decide (Y.zQ>Y.To))) then U true else U (cond false true (decide (Y.To>4294967295)))
) λZ=> if Z then some false else Q ()
) a0.tv 0 ()
) λ_=> AC (τ:=Unit) (λa6=> AL (σ:=Unit) (λ_=> a6 ()
) (λM (Mf:Int) i15 _=>
(Ia Mf).bind λa7=> if (!a7) then some false else M ()
) a0.zq 0 ()
) λ_=> AC (τ:=Unit) (λa8=> AL (σ:=Unit) (λ_=> a8 ()
) (λP (H:ss) i20 _=> AC (τ:=I) (λK=>
(Am H.fI).bind λaa=> if (!aa) then K true else if (cond false true (decide (H.Max<H.fI.zk))) then K true else
(Dq H.fI.Addr.V6).bind λab=> if (cond false true (decide (H.Max>ab))) then K true else if (cond false true (decide (H.tb<0))) then K true else K (cond false true (decide (H.tb>4294967295)))
) λae=> if ae then some false else P ()
) a0.sI 0 ()
) λ_=> AC (τ:=I) (λJ=> if (decide (a0.CT≥0)) then if (cond true (decide (a0.CT<=a0.zi)) false) then if (cond true (decide (a0.zi<=32)) false) then if (cond true (decide (a0.CR≥0)) false) then if (cond true (decide (a0.CR<=a0.zh)) false) then J (cond true (decide (a0.zh<=128)) false) else J false else J false else J false else J false else J false
) λaf=> AC (τ:=I) (λF=> if af then if (cond true (decide (a0.AJ≥0)) false) then if (cond true (decide (a0.AJ<=32)) false) then if (cond true (decide (a0.B3≥0)) false) then if (cond true (decide (a0.B3<=128)) false) then if (cond true (decide (a0.zX≥1)) false) then if (cond true (decide (a0.zX<=60)) false) then
(Ez a0.zu).bind λag=> F (cond true ag false) else F false else F false else F false else F false else F false else F false else F false
) λah=> some ah
def BH (a0:Int):C Int:= AC (τ:=I) (λH=> if (a0==1) then H (a0==1) else AC (τ:=I) (λJ=> if (a0==2) then J (a0==2) else AC (τ:=I) (λK=> if (a0==3) then K (a0==3) else K (a0==5)
) λQ=> J Q
) λU=> H U
) λV=> if V then some 64 else if (a0==4) then some 128 else AC (τ:=I) (λM=> if (a0==8) then M (a0==8) else AC (τ:=I) (λP=> if (a0==32) then P (a0==32) else P (a0==35)
) λY=> M Y
) λF=> if F then some 192 else some 0
def C6 (a0:Int):C I:= AC (τ:=I) (λF=>
(BH a0).bind λv2=> if (v2==0) then if (cond true (a0 !=14) false) then F (cond true (a0 !=15) false) else F false else F false
) λH=> some H
def CM (a0:O r8):C I:= AC (τ:=Int) (λk1=> AL (σ:=Int) (λv2=> k1 v2
) (λJ (M:r8) i5 v2=> AC (τ:=Unit) (λk6=> AC (τ:=I) (λQ=> if ((M.qv.length:Int)==0) then Q true else if (decide ((i5:Int)>0)) then if (cond true (!M.Set) false) then
(gN a0 (AG ((i5:Int)-1))).bind λv8=> Q (cond false true (cond true (!v8.Set) false)) else Q false else Q false
) λv9=> if v9 then some false else AC (τ:=Unit) (λU=> AL (σ:=Unit) (λ_=> U ()
) (λH (K:Int) P _=> AC (τ:=I) (λF=> if (decide (K<1)) then F true else if (cond false true (decide (K>4294967295))) then F true else if M.Set then if (cond true (decide ((P:Int)>0)) false) then
(gN M.qv (AG ((P:Int)-1))).bind λV=> F (cond false true (cond true (decide (V≥K)) false)) else F false else F false
) λY=> if Y then some false else H ()
) M.qv 0 ()
) λ_=> k6 ()
) λ_=> J (AG (v2+(M.qv.length:Int)))
) a0 0 0
) λZ=> some (decide (Z<=64))
def Et (a0:oF):C I:= AC (τ:=I) (λF=> if (decide (a0.A≥0)) then if (cond true (decide (a0.A<=65535)) false) then if (cond true (decide (a0.B≥0)) false) then F (cond true (decide (a0.B<=65535)) false) else F false else F false else F false
) λv2=> some v2
def GG (a0:oF)(a1:oF):C I:= AC (τ:=I) (λF=> if (decide (a0.A<a1.A)) then F true else if (a0.A==a1.A) then F (cond false true (cond true (decide (a0.B<a1.B)) false)) else F false
) λv2=> some v2
def EI (a0:O oF):C I:= AC (τ:=Unit) (λM=> AL (σ:=Unit) (λ_=> M ()
) (λF (J:oF) K _=> AC (τ:=I) (λH=>
(Et J).bind λP=> if (!P) then H true else if (decide ((K:Int)>0)) then
(gN a0 (AG ((K:Int)-1))).bind λQ=>
(GG Q J).bind λU=> H (cond false true (cond true (!U) false)) else H false
) λV=> if V then some false else F ()
) a0 0 ()
) λ_=> some (decide ((a0.length:Int)<=64))
def B5 (a0:iX):Option I:= AC (τ:=I) (λF=> if (decide (a0.A≥0)) then if (cond true (decide (a0.A<=4294967295)) false) then if (cond true (decide (a0.B≥0)) false) then if (cond true (decide (a0.B<=4294967295)) false) then if (cond true (decide (a0.C≥0)) false) then F (cond true (decide (a0.C<=4294967295)) false) else F false else F false else F false else F false else F false
) λv2=> some v2
def CX (a0:iX)(a1:iX):Option I:= AC (τ:=I) (λF=> if (decide (a0.A<a1.A)) then F true else if (a0.A==a1.A) then if (decide (a0.B<a1.B)) then F true else if (a0.B==a1.B) then F (cond false true (cond true (cond false true (cond true (decide (a0.C<a1.C)) false)) false)) else F false else F false
) λv2=> some v2
def Be (a0:O iX):C I:= AC (τ:=Unit) (λM=> AL (σ:=Unit) (λ_=> M ()
) (λF (J:iX) K _=> AC (τ:=I) (λH=>
(B5 J).bind λP=> if (!P) then H true else if (decide ((K:Int)>0)) then
(gN a0 (AG ((K:Int)-1))).bind λQ=>
(CX Q J).bind λU=> H (cond false true (cond true (!U) false)) else H false
) λV=> if V then some false else F ()
) a0 0 ()
) λ_=> some (decide ((a0.length:Int)<=64))
def Br (a0:gH):C I:= AC (τ:=Unit) (λk1=> AL (σ:=Unit) (λ_=> k1 ()
) (λH (K:gL) i4 _=> AC (τ:=I) (λJ=> if (decide (K.gE<1)) then J true else if (cond false true (decide (K.gE>255))) then J true else
(C6 K.gE).bind λv6=> if (cond false true (!v6)) then J true else if (cond false true (K.Flags !=224)) then J true else if (cond false true (decide ((K.Data.length:Int)>255))) then J true else if (decide ((i4:Int)>0)) then
(gN a0.oE (AG ((i4:Int)-1))).bind λv7=> J (cond false true (cond true (decide (v7.gE≥K.gE)) false)) else J false
) λv8=> if v8 then some false else H ()
) a0.oE 0 ()
) λ_=> AC (τ:=I) (λF=> if (decide (a0.o3≥(-1))) then if (cond true (decide (a0.o3<=2)) false) then
(CM a0.Path).bind λM=> if (cond true M false) then
(Bw a0.Next).bind λP=> if (cond true P false) then if (cond true (decide (a0.AF≥(-1))) false) then if (cond true (decide (a0.AF<=4294967295)) false) then if (cond true (decide (a0.xL≥(-1))) false) then if (cond true (decide (a0.xL<=4294967295)) false) then if (a0.zy==(-1)) then
(EI a0.fT).bind λQ=> if (cond true Q false) then
(Be a0.iX).bind λU=> if (cond true U false) then F (cond true (decide ((a0.oE.length:Int)<=8)) false) else F false else F false else if (decide (a0.zy≥1)) then if (cond true (cond false true (cond true (decide (a0.zy<=4294967295)) false)) false) then
(EI a0.fT).bind λV=> if (cond true V false) then
(Be a0.iX).bind λY=> if (cond true Y false) then F (cond true (decide ((a0.oE.length:Int)<=8)) false) else F false else F false else F false else F false else F false else F false else F false else F false else F false else F false else F false else F false
) λZ=> some Z
def Jt (a0:Addr)(a1:Addr):C Int:= if (Addr.zn a0 a1) then some 0 else if (!(a0.V6==a1.V6)) then if a1.V6 then some (-1) else some 1 else AC (τ:=I) (λF=> if (decide ((a0.Hi.toNat:Int)<(a1.Hi.toNat:Int))) then F true else if ((a0.Hi.toNat:Int)==(a1.Hi.toNat:Int)) then F (cond false true (cond true (decide ((a0.Lo.toNat:Int)<(a1.Lo.toNat:Int))) false)) else F false
) λv2=> if v2 then some (-1) else some 1
def B2 (a0:fI)(a1:fI):C Int:=
(Jt a0.Addr a1.Addr).bind λv1=> if (v1 !=0) then some v1 else if (decide (a0.zk<a1.zk)) then some (-1) else if (decide (a0.zk>a1.zk)) then some 1 else some 0
def E6 (a0:rv):C (Int×Int):= AC (τ:=Int×Int) (λJ=> AL (σ:=Int×Int) (λ(v2,v3)=> J (v2,v3)
) (λF (K:gT) i6 (v2,v3)=> AC (τ:=Int×Int) (λH=> if K.mu.fI.Addr.V6 then H (v2,(AG (v3+1))) else H ((AG (v2+1)),v3)
) λ(M,v9)=> F (M,v9)
) a0.gT 0 (0,0)
) λ(v10,v11)=> some (v10,v11)
def CW (a0:th):C I:= AC (τ:=Unit) (λJ=> AL (σ:=Unit) (λ_=> J ()
) (λF (K:Addr) i4 _=>
(Bw K).bind λM=> if (!M) then some false else F ()
) a0.zd 0 ()
) λ_=> AC (τ:=I) (λH=>
(Ia a0.tb).bind λP=> if P then if (cond true (decide (a0.zi≥0)) false) then if (cond true (decide (a0.zi<=256)) false) then if (cond true (decide (a0.zh≥0)) false) then if (cond true (decide (a0.zh<=256)) false) then H (cond true (decide ((a0.zd.length:Int)<=8)) false) else H false else H false else H false else H false else H false
) λQ=> some Q
def C4 (a0:rv):C I:= AC (τ:=I) (λP=>
(CW a0.th).bind λv2=> if (!v2) then P true else if (cond false true (decide ((a0.gT.length:Int)>256))) then P true else if (cond false true (decide (a0.xS<0))) then P true else P (cond false true (decide (a0.xS>1073745919)))
) λv3=> if v3 then some false else AC (τ:=I) (λk4=> AL (σ:=I) (λQ=> k4 Q
) (λJ (H:gT) i8 Q=> AC (τ:=I) (λF=>
(Am H.mu.fI).bind λU=> if (!U) then F true else if (decide ((i8:Int)>0)) then
(gN a0.gT (AG ((i8:Int)-1))).bind λV=>
(B2 V.mu.fI H.mu.fI).bind λY=> if (cond false true (cond true (decide (Y≥0)) false)) then F true else
(Br H.mu.gH).bind λZ=> if (cond false true (!Z)) then F true else if (cond false true (H.mu.zQ !=a0.th.tb)) then F true else if (cond false true (decide (H.zW<0))) then F true else if (cond false true (decide (H.zW>14))) then F true else if (!a0.Up) then F (cond false true (cond true (!H.zw) false)) else F false else
(Br H.mu.gH).bind λa6=> if (cond false true (!a6)) then F true else if (cond false true (H.mu.zQ !=a0.th.tb)) then F true else if (cond false true (decide (H.zW<0))) then F true else if (cond false true (decide (H.zW>14))) then F true else if (!a0.Up) then F (cond false true (cond true (!H.zw) false)) else F false
) λa7=> if a7 then some false else AC (τ:=I) (λM=> if Q then M true else M (cond false true H.zw)
) λa8=> J a8
) a0.gT 0 false
) λaa=>
(E6 a0).bind λ(ab,v20)=> AC (τ:=I) (λK=> if (aa==(a0.xS !=0)) then if (cond true (decide (ab<=a0.th.zi)) false) then K (cond true (decide (v20<=a0.th.zh)) false) else K false else K false
) λae=> some ae
def DZ (a0:O r8):C (O Int):= AC (τ:=(O Int)) (λH=> AL (σ:=(O Int)) (λv2=> H v2
) (λF (J:r8) i5 v2=>
(gO (α:=Int) 8 v2 J.qv).bind λK=> F K
) a0 0 []
) λM=> some M
def E9 (a0:ur):C I:= AC (τ:=I) (λU=>
(GO a0.oX).bind λv2=> if (!v2) then U true else if (cond false true (decide ((a0.gD.length:Int)>32))) then U true else U (cond false true ((a0.oT.length:Int) !=(a0.gD.length:Int)))
) λv3=> if v3 then some false else AC (τ:=Unit) (λk4=> AL (σ:=Unit) (λ_=> k4 ()
) (λH (M:tF) J _=> AC (τ:=Unit) (λk8=> AC (τ:=I) (λK=>
(BA M).bind λV=> if (V !=0) then K true else if (cond false true (M.tb==a0.oX.DH)) then K true else if (decide ((J:Int)>0)) then
(gN a0.gD (AG ((J:Int)-1))).bind λY=> if (cond false true (cond true (decide (Y.tb≥M.tb)) false)) then K true else
(gN a0.oT (J:Int)).bind λZ=>
(C4 Z).bind λa6=> if (cond false true (!a6)) then K true else
(gN a0.oT (J:Int)).bind λa7=> K (cond false true (a7.th.tb !=M.tb)) else
(gN a0.oT (J:Int)).bind λa8=>
(C4 a8).bind λaa=> if (cond false true (!aa)) then K true else
(gN a0.oT (J:Int)).bind λab=> K (cond false true (ab.th.tb !=M.tb))
) λae=> if ae then some false else
(gN a0.oT (J:Int)).bind λaf=> AC (τ:=Unit) (λag=> AL (σ:=Unit) (λ_=> ag ()
) (λF (P:gT) i23 _=> AC (τ:=I) (λQ=> if (P.zW==0) then
(DZ P.mu.gH.Path).bind λah=> Q (cond true (decide ((ah.length:Int)>60)) false) else Q false
) λai=> if ai then some false else F ()
) af.gT 0 ()
) λ_=> k8 ()
) λ_=> H ()
) a0.gD 0 ()
) λ_=> some true
def FD (a0:ur):C (O fI):= AC (τ:=(O fI)) (λk1=> AL (σ:=(O fI)) (λv2=> k1 v2
) (λM (x4:rv) i5 v2=> AC (τ:=(O fI)) (λk6=> AC (τ:=(O fI)) (λk7=> AL (σ:=(O fI)) (λH=> k7 H
) (λP (Q:gT) i11 H=> AC (τ:=(O fI)) (λU=> AC (τ:=Int) (λZ=> Ad (σ:=Int) (λJ K=> AC (τ:=I) (λV=> if (decide (K<(H.length:Int))) then
(gN H K).bind λa6=>
(B2 a6 Q.mu.fI).bind λa7=> V (cond true (decide (a7<0)) false) else V false
) λa8=> if a8 then J (AG (K+1)) else Z K
) xv 0
) λF=> AC (τ:=I) (λY=> if (decide (F<(H.length:Int))) then
(gN H F).bind λaa=> Y (cond true (fI.zn aa Q.mu.fI) false) else Y false
) λab=> if ab then U H else
(Ch (0<=F/\F<=(H.length:Int)/\(H.length:Int)<=(H.length:Int))).bind λ_=>
(gO (α:=fI) 32 [] (Xb7 (Xa0 (H.length:Int)-Xa0 F) (Xb8 (Xa0 F) H))).bind λ_=>
(part H 0 F).bind λae=>
(gO (α:=fI) 32 ae ([Q.mu.fI]:O fI)).bind λaf=>
(gO (α:=fI) 32 af (Xb7 (Xa0 (H.length:Int)-Xa0 F) (Xb8 (Xa0 F) H))).bind λag=> U ag
) λah=> P ah
) x4.gT 0 v2
) λai=> k6 ai
) λaj=> M aj
) a0.oT 0 []
) λak=> some ak
def I8 (a0:ur)(a1:Int):C Int:= AC (τ:=Unit) (λH=> AL (σ:=Unit) (λ_=> H ()
) (λF (J:tF) K _=> if (J.tb==a1) then some (K:Int) else F ()
) a0.gD 0 ()
) λ_=> some (-1)
def Jp (a0:rv)(a1:fI):C (gT×I):= AC (τ:=Unit) (λJ=> AL (σ:=Unit) (λ_=> J ()
) (λF (H:gT) i4 _=> if (fI.zn H.mu.fI a1) then some (H,true) else F ()
) a0.gT 0 ()
) λ_=> some ((⟨(⟨(⟨(⟨false,(0:j),(0:j)⟩:Addr),0⟩:fI),0,(⟨0,[],(⟨false,(0:j),(0:j)⟩:Addr),0,0,0,[],[],[]⟩:gH)⟩:mu),0,false⟩:gT),false)
def EC (a0:rv)(a1:fI):C (mu×I):=
(Jp a0 a1).bind λ(v1,v2)=> AC (τ:=I) (λF=> if v2 then F (cond true (v1.zW==0) false) else F false
) λH=> if H then some (v1.mu,true) else some ((⟨(⟨(⟨false,(0:j),(0:j)⟩:Addr),0⟩:fI),0,(⟨0,[],(⟨false,(0:j),(0:j)⟩:Addr),0,0,0,[],[],[]⟩:gH)⟩:mu),false)
def FN (a0:O oF)(a1:oF):C I:= AC (τ:=Unit) (λH=> AL (σ:=Unit) (λ_=> H ()
) (λF (J:oF) i4 _=> if (oF.zn J a1) then some true else F ()
) a0 0 ()
) λ_=> some false
def EO (a0:gH):C I:=
(FN a0.fT (⟨65535,666⟩:oF)).bind λv1=> some v1
def Bm (a0:O r8):C Int:= AC (τ:=Int) (λK=> AL (σ:=Int) (λv2=> K v2
) (λF (H:r8) i5 v2=> AC (τ:=Int) (λJ=> if H.Set then J (AG (v2+1)) else J (AG (v2+(H.qv.length:Int)))
) λM=> F M
) a0 0 0
) λP=> some P
def Gh (a0:O r8)(a1:Int):C I:=
(DZ a0).bind λv1=> AC (τ:=Unit) (λH=> AL (σ:=Unit) (λ_=> H ()
) (λF (J:Int) i5 _=> if (J==a1) then some true else F ()
) v1 0 ()
) λ_=> some false
def BX (a0:O iX)(a1:iX):C I:= AC (τ:=Unit) (λH=> AL (σ:=Unit) (λ_=> H ()
) (λF (J:iX) i4 _=> if (iX.zn J a1) then some true else F ()
) a0 0 ()
) λ_=> some false
def D2 (a0:Int)(a1:gH)(K:Int):C Int:= AC (τ:=Unit) (λM=> AL (σ:=Unit) (λ_=> M ()
) (λF (P:Int) i4 _=> AC (τ:=Unit) (λQ=> AC (τ:=Unit) (λU=> Ad (σ:=Int) (λH J=> if (decide (J>0)) then
(BX a1.iX (⟨a0,(AG (100+J)),P⟩:iX)).bind λV=> if V then some J else H (AG (J-1)) else U ()
) xv 3
) λ_=> Q ()
) λ_=> F ()
) ([K,0]:O Int) 0 ()
) λ_=> some 0
def GM (a0:Int)(a1:gH)(K:Int)(M:Int)(H:Int)(J:Int):C I:= AC (τ:=I) (λF=> if (decide (K<=65535)) then if (cond true (decide (M<=65535)) false) then
(FN a1.fT (⟨K,M⟩:oF)).bind λv2=> if (cond true v2 false) then F true else
(BX a1.iX (⟨a0,H,J⟩:iX)).bind λP=> F (cond false true P) else
(BX a1.iX (⟨a0,H,J⟩:iX)).bind λQ=> F (cond false true Q) else
(BX a1.iX (⟨a0,H,J⟩:iX)).bind λU=> F (cond false true U)
) λV=> some V
def F2 (a0:Int)(a1:mu)(F:tF):C Int:= AC (τ:=I) (λk1=> AL (σ:=I) (λv2=> k1 v2
) (λJ (x4:Int) i5 v2=> AC (τ:=I) (λk6=> if v2 then k6 true else k6 (cond false true (x4==a1.zQ))
) λv7=> J v7
) F.El 0 false
) λv8=> if (a1.zQ==F.tb) then some 1 else
(FN a1.gH.fT (⟨65535,65282⟩:oF)).bind λv9=> if v9 then some 2 else
(GM a0 a1.gH 0 F.tb 0 F.tb).bind λQ=> if Q then some 3 else AC (τ:=I) (λK=>
(GM a0 a1.gH 0 a0 0 0).bind λU=> if U then
(GM a0 a1.gH a0 F.tb 1 F.tb).bind λV=> K (cond true (!V) false) else K false
) λY=> if Y then some 4 else AC (τ:=I) (λH=> if a1.fI.Addr.V6 then if (cond true F.rq false) then H true else if (!a1.fI.Addr.V6) then H (cond false true (cond true F.Ty false)) else H false else if (!a1.fI.Addr.V6) then H (cond false true (cond true F.Ty false)) else H false
) λZ=> if Z then some 5 else if v8 then some 6 else AC (τ:=I) (λM=>
(EO a1.gH).bind λa6=> if a6 then M (cond true (!F.Kl) false) else M false
) λa7=> if a7 then some 7 else AC (τ:=I) (λP=> if (F.zX !=0) then
(Bm a1.gH.Path).bind λa8=>
(D2 a0 a1.gH F.tb).bind λaa=> P (cond true (decide ((AG (a8+aa))>F.zX)) false) else P false
) λab=> if ab then some 8 else
(Gh a1.gH.Path F.tb).bind λae=> if ae then some 9 else some 0
def HC (a0:O r8):C (O r8):= AC (τ:=(O r8)) (λJ=> AL (σ:=(O r8)) (λv2=> J v2
) (λF (H:r8) i5 v2=>
(gO (α:=Int) 8 [] H.qv).bind λ_=>
(gO (α:=r8) 32 v2 ([H]:O r8)).bind λK=> F K
) a0 0 []
) λM=> some M
def Fg (a0:O r8)(a1:Int)(P:Int):C ((O r8)×Int):= AC (τ:=I) (λQ=>
(CM a0).bind λv2=> if (!v2) then Q true else if (cond false true (decide (a1<1))) then Q true else if (cond false true (decide (a1>4294967295))) then Q true else Q (cond false true (decide (P<0)))
) λv3=> if v3 then some ([],1) else
(DZ a0).bind λv4=> if (decide (P>(AG (64-(v4.length:Int))))) then some ([],3) else if (P==0) then
(HC a0).bind λv5=> some (v5,0) else AC (τ:=(O Int)) (λk6=> Ad (σ:=Int×(O Int)) (λH (v8,v9)=> if (decide (v8<P)) then
(gO (α:=Int) 8 v9 ([a1]:O Int)).bind λU=> H ((AG (v8+1)),U) else k6 v9
) xv (0,[])
) λJ=>
(HC a0).bind λF=> AC (τ:=I) (λK=> if (decide ((F.length:Int)>0)) then
(gN F 0).bind λV=> K (cond true (!V.Set) false) else K false
) λY=> AC (τ:=(O r8)×(O Int)) (λM=> if Y then
(gN F 0).bind λZ=>
(gO (α:=Int) 8 J Z.qv).bind λa6=>
(part F 1 (F.length:Int)).bind λa7=> M (a7,a6) else M (F,J)
) λ(v20,v21)=>
(gO (α:=r8) 32 ([(⟨false,v21⟩:r8)]:O r8) v20).bind λa8=> some (a8,0)
def BZ (a0:gH):C gH:= AC (τ:=(O r8)) (λU=> AL (σ:=(O r8)) (λv2=> U v2
) (λH (Q:r8) i5 v2=>
(gO (α:=Int) 8 [] Q.qv).bind λ_=>
(gO (α:=r8) 32 v2 ([Q]:O r8)).bind λV=> H V
) a0.Path 0 []
) λY=>
(gO (α:=oF) 16 [] a0.fT).bind λ_=>
(gO (α:=iX) 24 [] a0.iX).bind λ_=> AC (τ:=(O gL)) (λZ=> AL (σ:=(O gL)) (λK=> Z K
) (λF (J:gL) i12 K=>
(gO (α:=S) 1 [] J.Data).bind λ_=>
(gO (α:=gL) 40 K ([J]:O gL)).bind λM=> F M
) a0.oE 0 []
) λP=> some ({ a0 with Path:=Y,oE:=P })
def H9 (a0:Int)(a1:gH):C gH:=
(BZ a1).bind λv1=> AC (τ:=(O oF)) (λk2=> AL (σ:=(O oF)) (λP=> k2 P
) (λJ (Q:oF) i6 P=> AC (τ:=I) (λk7=> if (Q.A !=0) then k7 (cond true (Q.A !=a0) false) else k7 false
) λv8=> AC (τ:=(O oF)) (λk9=> if v8 then
(gO (α:=oF) 16 P ([Q]:O oF)).bind λU=> k9 U else k9 P
) λV=> J V
) a1.fT 0 []
) λY=> AC (τ:=(O iX)) (λZ=> AL (σ:=(O iX)) (λF=> Z F
) (λH (K:iX) i17 F=> AC (τ:=(O iX)) (λM=> if (K.A !=a0) then
(gO (α:=iX) 24 F ([K]:O iX)).bind λa6=> M a6 else M F
) λa7=> H a7
) a1.iX 0 []
) λa8=> some ({ v1 with fT:=Y,iX:=a8 })
def Ej (a0:Int):C Int:= if (a0==0) then some 3 else if (a0==3) then some 0 else if (a0==1) then some 2 else if (a0==2) then some 1 else if (a0==4) then some 4 else some (-1)
def Gk (a0:Int)(a1:Int):C I:= AC (τ:=I) (λF=>
(Ej a0).bind λv2=> if (v2==(-1)) then F true else if (cond false true (decide (a1<1))) then F true else F (cond false true (decide (a1>4294967295)))
) λH=> some H
def Ix (a0:Int)(a1:Int)(F:gH):C (gH×Int):=
(Gk a0 a1).bind λv1=> if v1 then some ((⟨0,[],(⟨false,(0:j),(0:j)⟩:Addr),0,0,0,[],[],[]⟩:gH),1) else AC (τ:=I) (λJ=> if (a0==0) then J true else J (cond false true (a0==1))
) λK=> AC (τ:=I) (λM=> if (F.zy !=(-1)) then M (cond true (!K) false) else M false
) λQ=> if Q then some ((⟨0,[],(⟨false,(0:j),(0:j)⟩:Addr),0,0,0,[],[],[]⟩:gH),30) else AC (τ:=I) (λH=> if (F.zy==(-1)) then if K then H true else H (cond true (cond false true (a0==4)) false) else H false
) λU=> AC (τ:=Int) (λP=> if U then P a1 else P F.zy
) λV=> some (({ F with zy:=V }),0)
def Dp (a0:Int)(a1:mu)(J:tF):C (mu×Int×Int):= AC (τ:=I) (λH=>
(Dj a0).bind λv2=> if (!v2) then H true else
(Dj a1.zQ).bind λQ=> if (cond false true (!Q)) then H true else
(Am a1.fI).bind λU=> if (cond false true (!U)) then H true else
(Br a1.gH).bind λV=> H (cond false true (!V))
) λY=> if Y then some ((⟨(⟨(⟨false,(0:j),(0:j)⟩:Addr),0⟩:fI),0,(⟨0,[],(⟨false,(0:j),(0:j)⟩:Addr),0,0,0,[],[],[]⟩:gH)⟩:mu),0,1) else
(BA J).bind λM=> if (M !=0) then some ((⟨(⟨(⟨false,(0:j),(0:j)⟩:Addr),0⟩:fI),0,(⟨0,[],(⟨false,(0:j),(0:j)⟩:Addr),0,0,0,[],[],[]⟩:gH)⟩:mu),0,M) else
(F2 a0 a1 J).bind λP=> if (P !=0) then some ((⟨(⟨(⟨false,(0:j),(0:j)⟩:Addr),0⟩:fI),0,(⟨0,[],(⟨false,(0:j),(0:j)⟩:Addr),0,0,0,[],[],[]⟩:gH)⟩:mu),P,0) else
(D2 a0 a1.gH J.tb).bind λZ=>
(Fg a1.gH.Path a1.zQ Z).bind λ(v10,v11)=> if (v11 !=0) then some ((⟨(⟨(⟨false,(0:j),(0:j)⟩:Addr),0⟩:fI),0,(⟨0,[],(⟨false,(0:j),(0:j)⟩:Addr),0,0,0,[],[],[]⟩:gH)⟩:mu),0,v11) else
(H9 a0 a1.gH).bind λK=>
(Ix 1 a0 ({ K with Path:=v10,xL:=(-1) })).bind λ(F,a6)=> some ((⟨(⟨((({ a1 with gH:=F }).fI).Addr),(({ a1 with gH:=F }).fI).zk⟩:fI),({ a1 with gH:=F }).zQ,(({ a1 with gH:=F }).gH)⟩:mu),0,0)
def D6 (a0:ur)(a1:Int)(a2:fI):C (O mu):=
(I8 a0 a1).bind λv1=> AC (τ:=I) (λk2=> if (decide (v1<0)) then k2 true else
(gN a0.oT v1).bind λv3=> k2 (cond false true (!v3.Up))
) λv4=> if v4 then some [] else AC (τ:=(O mu)) (λk5=> AL (σ:=(O mu)) (λH=> k5 H
) (λF (x8:rv) i9 H=> AC (τ:=(O mu)) (λJ=>
(EC x8 a2).bind λ(v11,v12)=> if (!v12) then J H else
(gN a0.gD v1).bind λP=>
(Dp a0.oX.DH v11 P).bind λ(Q,U,V)=> AC (τ:=I) (λK=> if (V==0) then K (cond true (U==0) false) else K false
) λY=> AC (τ:=(O mu)) (λM=> if Y then
(gO (α:=mu) 192 H ([Q]:O mu)).bind λZ=> M Z else M H
) λa6=> J a6
) λa7=> F a7
) a0.oT 0 []
) λa8=> some a8
def Hl (a0:tF)(a1:Int):C Int:= AC (τ:=Unit) (λJ=> AL (σ:=Unit) (λ_=> J ()
) (λF (H:B4) i4 _=> if (H.tb==a1) then some H.Value else F ()
) a0.B4 0 ()
) λ_=> some 0
def IZ (a0:tF)(a1:mu):C Pc:= AC (τ:=Int) (λF=> if (a1.gH.o3==(-1)) then F 3 else F a1.gH.o3
) λv2=> AC (τ:=Int) (λH=> if (a1.gH.AF==(-1)) then H 0 else H a1.gH.AF
) λJ=>
(Hl a0 a1.zQ).bind λK=>
(Bm a1.gH.Path).bind λM=> some (⟨(AG (0-K)),M,v2,J,a1.zQ⟩:Pc)
def Fq (a0:tF)(a1:mu)(J:mu):C (Int×Int):=
(IZ a0 a1).bind λv1=>
(IZ a0 J).bind λv2=> AC (τ:=Unit) (λK=> Ad (σ:=Int) (λH F=> if (decide (F<5)) then
(gN [v1.e0,v1.e1,v1.e2,v1.e3,v1.e4] F).bind λM=>
(gN [v2.e0,v2.e1,v2.e2,v2.e3,v2.e4] F).bind λP=> if (decide (M<P)) then some ((-1),(AG (F+1))) else
(gN [v1.e0,v1.e1,v1.e2,v1.e3,v1.e4] F).bind λQ=>
(gN [v2.e0,v2.e1,v2.e2,v2.e3,v2.e4] F).bind λU=> if (decide (Q>U)) then some (1,(AG (F+1))) else H (AG (F+1)) else K ()
) xv 0
) λ_=> some (0,0)
def Iz (a0:tF)(a1:O mu):C (Int×I):= AC (τ:=Int) (λM=> AL (σ:=Int) (λv2=> M v2
) (λF (P:mu) Q v2=>
(gN a1 v2).bind λU=>
(Fq a0 P U).bind λ(V,Y)=> AC (τ:=Int) (λK=> if (decide (V<0)) then K (Q:Int) else K v2
) λH=> F H
) a1 0 0
) λJ=> some (J,(decide ((a1.length:Int)>0)))
def Hr (a0:ur)(a1:Int)(F:fI):C (mu×I):=
(D6 a0 a1 F).bind λv1=> if ((v1.length:Int)==0) then some ((⟨(⟨(⟨false,(0:j),(0:j)⟩:Addr),0⟩:fI),0,(⟨0,[],(⟨false,(0:j),(0:j)⟩:Addr),0,0,0,[],[],[]⟩:gH)⟩:mu),false) else
(I8 a0 a1).bind λv2=>
(gN a0.gD v2).bind λH=>
(Iz H v1).bind λ(v4,v5)=>
(gN v1 v4).bind λJ=> some (J,true)
def J2 (a0:ur)(a1:Int):C (O mu):=
(FD a0).bind λv1=> AC (τ:=(O mu)) (λQ=> AL (σ:=(O mu)) (λH=> Q H
) (λF (U:fI) i6 H=>
(Hr a0 a1 U).bind λ(V,Y)=> AC (τ:=(O mu)) (λP=> if Y then
(gO (α:=mu) 192 H ([V]:O mu)).bind λJ=> P J else P H
) λK=> F K
) v1 0 []
) λM=> some M
def F9 (a0:ur):C Ct:= AC (τ:=(O (O mu))) (λH=> AL (σ:=(O (O mu))) (λv2=> H v2
) (λF (J:tF) i5 v2=>
(J2 a0 J.tb).bind λK=>
(gO (α:=O mu) 24 v2 ([K]:O (O mu))).bind λM=> F M
) a0.gD 0 []
) λP=> some (⟨a0,P⟩:Ct)
def Dy (a0:rv):C rv:=
(gO (α:=Addr) 24 [] a0.th.zd).bind λ_=> AC (τ:=(O gT)) (λJ=> AL (σ:=(O gT)) (λv2=> J v2
) (λF (H:gT) i5 v2=>
(BZ H.mu.gH).bind λK=>
(gO (α:=gT) 208 v2 ([{ H with mu:={ H.mu with gH:=K } }]:O gT)).bind λM=> F M
) a0.gT 0 []
) λP=> some ({ a0 with gT:=P })
def F8 (a0:tF):C tF:=
(gO (α:=Int) 8 [] a0.El).bind λ_=>
(gO (α:=B4) 16 [] a0.B4).bind λ_=> some a0
def D8 (a0:oX):C oX:=
(gO (α:=fI) 32 [] a0.Bb).bind λ_=>
(gO (α:=fI) 32 [] a0.wg).bind λ_=>
(gO (α:=Ck) 16 [] a0.tv).bind λ_=>
(gO (α:=Int) 8 [] a0.zq).bind λ_=>
(gO (α:=ss) 48 [] a0.sI).bind λ_=>
(gO (α:=ss) 48 [] a0.zu.r9).bind λ_=> AC (τ:=(O Set)) (λJ=> AL (σ:=(O Set)) (λv2=> J v2
) (λF (H:Set) i5 v2=>
(gO (α:=Int) 8 [] H.qv).bind λ_=>
(gO (α:=T) 16 [] H.tE).bind λ_=>
(gO (α:=Set) 64 v2 ([H]:O Set)).bind λK=> F K
) a0.zu.tE 0 []
) λM=> some ({ a0 with zu:=(⟨M,a0.zu.r9⟩:zu) })
def GI (a0:ur):C ur:=
(D8 a0.oX).bind λv1=> AC (τ:=(O tF)) (λY=> AL (σ:=(O tF)) (λK=> Y K
) (λH (Z:tF) i6 K=>
(F8 Z).bind λv7=>
(gO (α:=tF) 72 K ([v7]:O tF)).bind λv8=> H v8
) a0.gD 0 []
) λv9=> AC (τ:=(O rv)) (λM=> AL (σ:=(O rv)) (λJ=> M J
) (λF (P:rv) i14 J=>
(Dy P).bind λQ=>
(gO (α:=rv) 104 J ([Q]:O rv)).bind λU=> F U
) a0.oT 0 []
) λV=> some (⟨v1,v9,V⟩:ur)
def EH (a0:ur):C (Ct×Int):=
(E9 a0).bind λv1=> if (!v1) then some ((⟨(⟨(⟨0,[],0,0,0,0,0,0,[],[],[],0,(⟨[],[]⟩:zu),[]⟩:oX),[],[]⟩:ur),[]⟩:Ct),1) else
(GI a0).bind λv2=>
(F9 v2).bind λF=> some (F,0)
def Bg (a0:rv):C rv:= AC (τ:=Unit) (λH=> AL (σ:=Unit) (λ_=> H ()
) (λF (J:gT) i4 _=> if J.zw then some a0 else F ()
) a0.gT 0 ()
) λ_=> some ({ ({ a0 with xS:=0 }) with th:=(({ a0 with xS:=0 }).th) })
def Ew (a0:rv)(a1:Int):C rv:=
(Dy a0).bind λv1=>
(Dy a0).bind λv2=> AC (τ:=(O gT)) (λY=> AL (σ:=(O gT)) (λM=> Y M
) (λF (J:gT) i7 M=> AC (τ:=I) (λH=> if (!J.zw) then H true else if (a1==0) then if (cond false true (cond true J.mu.fI.Addr.V6 false)) then H true else if (a1==1) then H (cond false true (cond true (!J.mu.fI.Addr.V6) false)) else H false else if (a1==1) then H (cond false true (cond true (!J.mu.fI.Addr.V6) false)) else H false
) λZ=> AC (τ:=(O gT)) (λK=> if Z then
(gO (α:=gT) 208 M ([J]:O gT)).bind λP=> K P else K M
) λQ=> F Q
) v2.gT 0 []
) λU=>
(Bg ({ v1 with gT:=U })).bind λV=> some V
def AP (a0:Int)(a1:Int):C (O S):= AC (τ:=(O S)) (λH=> Ad (σ:=Int×(O S)) (λF (v3,v4)=> if (decide (v3≥0)) then
(gO (α:=S) 1 v4 ([(Ak (Xc4 a0 (2^(min (Xa0 ((AZ (8*((AZ v3).toNat:Int))).toNat:Int)) 64))))]:O S)).bind λJ=> F ((AG (v3-1)),J) else H v4
) xv ((AG (a1-1)),[])
) λK=> some K
def Gj (a0:gH):Option ((O gL)×Int):=
(Br a0).bind λv1=> if (!v1) then some ([],1) else AC (τ:=(O (Int×(O S)))) (λk2=> if (decide (a0.o3≥0)) then k2 (A3 [] 1 ([(Ak a0.o3)]:O S)) else k2 []
) λv3=> AC (τ:=I) (λk4=> if (decide (a0.o3≥0)) then k4 true else k4 (cond false true (decide ((a0.Path.length:Int)>0)))
) λv5=> AC (τ:=(O (Int×(O S)))) (λk6=> if v5 then AC (τ:=(O S)) (λk7=> AL (σ:=(O S)) (λv8=> k7 v8
) (λU (V:r8) i11 v8=> AC (τ:=(O S)) (λaz=> AC (τ:=S) (λa8=> if V.Set then a8 (1:S) else a8 (2:S)
) λba=>
(gO (α:=S) 1 v8 ([ba,(Ak (V.qv.length:Int))]:O S)).bind λbb=> AC (τ:=(O S)) (λbc=> AL (σ:=(O S)) (λY=> bc Y
) (λH (bd:Int) i20 Y=>
(AP bd 4).bind λbe=>
(gO (α:=S) 1 Y be).bind λbf=> H bf
) V.qv 0 bb
) λbg=> az bg
) λbh=> U bh
) a0.Path 0 ([]:O S)
) λbi=> k6 (A3 v3 2 bi) else k6 v3
) λaa=> AC (τ:=I) (λab=> if (!(Addr.zn a0.Next (⟨false,(0:j),(0:j)⟩:Addr))) then ab (cond true (!a0.Next.V6) false) else ab false
) λbj=> AC (τ:=(O (Int×(O S)))) (λae=> if bj then
(BJ a0.Next).bind λbk=> ae (A3 aa 3 bk) else ae aa
) λaf=> AC (τ:=(O (Int×(O S)))) (λag=> if (decide (a0.AF≥0)) then
(AP a0.AF 4).bind λbl=> ag (A3 af 4 bl) else ag af
) λah=> AC (τ:=(O (Int×(O S)))) (λai=> if (decide (a0.xL≥0)) then
(AP a0.xL 4).bind λbm=> ai (A3 ah 5 bm) else ai ah
) λaj=> AC (τ:=(O (Int×(O S)))×(O S)) (λbn=>
(Ch ((A1 aj 8).isNone=true)).bind λ_=> AL (σ:=(O (Int×(O S)))×(O S)) (λ(v39,v40)=> bn (v39,v40)
) (λJ (ak:oF) i43 (v39,v40)=>
(AP ak.A 2).bind λbo=>
(gO (α:=S) 1 v40 bo).bind λbp=>
(AP ak.B 2).bind λbq=>
(gO (α:=S) 1 bp bq).bind λal=> J ((A3 v39 8 al),al)
) a0.fT 0 (aj,[])
) λ(an,v49)=> AC (τ:=(O (Int×(O S)))×(O S)) (λbr=>
(Ch ((A1 an 32).isNone=true)).bind λ_=> AL (σ:=(O (Int×(O S)))×(O S)) (λ(v51,Z)=> br (v51,Z)
) (λK (a6:iX) i55 (v51,Z)=>
(AP a6.A 4).bind λbu=>
(gO (α:=S) 1 Z bu).bind λbw=>
(AP a6.B 4).bind λbx=>
(gO (α:=S) 1 bw bx).bind λbz=>
(AP a6.C 4).bind λc0=>
(gO (α:=S) 1 bz c0).bind λao=> K ((A3 v51 32 ao),ao)
) a0.iX 0 (an,[])
) λ(ap,v63)=> AC (τ:=(O (Int×(O S)))) (λaq=> if (decide (a0.zy≥0)) then
(AP a0.zy 4).bind λc3=> aq (A3 ap 35 c3) else aq ap
) λar=> AC (τ:=(O gL)) (λc4=> Ad (σ:=Int×(O gL)) (λM (F,v70)=> if (decide (F<256)) then AC (τ:=(O gL)) (λc5=>
(some (Xdb (A1 ar F) [])).bind λau=>
(some (Option.isSome (A1 ar F))).bind λc6=> AC (τ:=(O gL)) (λax=> if c6 then
(BH F).bind λc7=>
(gO (α:=S) 1 [] au).bind λ_=>
(gO (α:=gL) 40 v70 ([(⟨c7,F,au⟩:gL)]:O gL)).bind λc8=> ax c8 else ax v70
) λc9=> AC (τ:=(O gL)) (λca=> AL (σ:=(O gL)) (λP=> ca P
) (λQ (a7:gL) i82 P=> AC (τ:=(O gL)) (λay=> if (a7.gE==F) then
(gO (α:=S) 1 [] a7.Data).bind λ_=>
(gO (α:=gL) 40 P ([{ a7 with gE:=F }]:O gL)).bind λcb=> ay cb else ay P
) λcc=> Q cc
) a0.oE 0 c9
) λcd=> c5 cd
) λcf=> M ((AG (F+1)),cf) else c4 v70
) xv (0,[])
) λcg=> some (cg,0)
def EK (a0:O fI)(a1:I):C (O S):= AC (τ:=(O S)) (λQ=> AL (σ:=(O S)) (λv2=> Q v2
) (λF (H:fI) i5 v2=> AC (τ:=(O S)) (λM=> if (H.Addr.V6==a1) then
(gO (α:=S) 1 v2 ([(Ak H.zk)]:O S)).bind λU=>
(BJ H.Addr).bind λP=>
(Ch (0<=(0:Int)/\(0:Int)<=(AG (Xd7 (AG (H.zk+7)) 8))/\(AG (Xd7 (AG (H.zk+7)) 8))<=(P.length:Int))).bind λ_=>
(gO (α:=S) 1 U (Xb7 (Xa0 (AG (Xd7 (AG (H.zk+7)) 8))-Xa0 0) (Xb8 (Xa0 0) P))).bind λV=> M V else M v2
) λJ=> F J
) a0 0 []
) λK=> some K
def GU (a0:O gL)(a1:gL):C (O gL):= AC (τ:=Int) (λU=> Ad (σ:=Int) (λF H=> AC (τ:=I) (λM=> if (decide (H<(a0.length:Int))) then
(gN a0 H).bind λV=> M (cond true (decide (V.gE<a1.gE)) false) else M false
) λY=> if Y then F (AG (H+1)) else U H
) xv 0
) λP=>
(part a0 0 P).bind λQ=>
(gO (α:=gL) 40 [] Q).bind λ_=>
(gO (α:=gL) 40 Q ([a1]:O gL)).bind λZ=>
(part a0 P (a0.length:Int)).bind λJ=>
(gO (α:=gL) 40 Z J).bind λK=> some K
def It (a0:O gL):C ((O S)×Int):= AC (τ:=Unit) (λk1=> AL (σ:=Unit) (λ_=> k1 ()
) (λH (K:gL) i4 _=> AC (τ:=I) (λM=> if (decide (K.Flags<0)) then M true else if (cond false true (decide (K.Flags>255))) then M true else if (cond false true (decide (K.gE<0))) then M true else if (cond false true (decide (K.gE>255))) then M true else M (cond false true (decide ((K.Data.length:Int)>65535)))
) λv6=> if v6 then some ([],1) else H ()
) a0 0 ()
) λ_=> AC (τ:=(O S)) (λk7=> AL (σ:=(O S)) (λU=> k7 U
) (λJ (F:gL) i11 U=> AC (τ:=(O S)) (λP=> if (decide ((F.Data.length:Int)>255)) then
(gO (α:=S) 1 U ([(Ak ((Xa3 8 ((Ak ((Xa3 8 ((Ak F.Flags).toNat:Int) &&& Xa3 8 224).toNat:Int)).toNat:Int) ||| Xa3 8 16).toNat:Int)),(Ak F.gE),(Ak (Xc4 (F.Data.length:Int) (2^(min (Xa0 8) 64)))),(Ak (F.Data.length:Int))]:O S)).bind λV=> P V else
(gO (α:=S) 1 U ([(Ak ((Xa3 8 ((Ak F.Flags).toNat:Int) &&& Xa3 8 224).toNat:Int)),(Ak F.gE),(Ak (F.Data.length:Int))]:O S)).bind λY=> P Y
) λZ=>
(gO (α:=S) 1 Z F.Data).bind λa6=> J a6
) a0 0 []
) λQ=> if (decide ((Q.length:Int)>2048)) then some ([],3) else some (Q,0)
def E4 (a0:zl):C ((O S)×Int):= AC (τ:=(O gL)) (λk1=> if (decide ((a0.gF.length:Int)>0)) then
(Gj a0.gH).bind λ(v2,v3)=> if (v3 !=0) then some ([],v3) else k1 v2 else k1 []
) λv4=>
(EK a0.gF true).bind λv5=> AC (τ:=(O gL)) (λk6=> if (decide ((v5.length:Int)>0)) then
(BJ a0.gH.Next).bind λv7=>
(gO (α:=S) 1 ([(0:S),(2:S),(1:S),(16:S)]:O S) v7).bind λv8=>
(gO (α:=S) 1 v8 ([(0:S)]:O S)).bind λv9=>
(gO (α:=S) 1 v9 v5).bind λQ=>
(GU v4 (⟨128,14,Q⟩:gL)).bind λU=> k6 U else k6 v4
) λJ=>
(EK a0.oB true).bind λK=> AC (τ:=(O gL)) (λM=> if (decide ((K.length:Int)>0)) then
(gO (α:=S) 1 ([(0:S),(2:S),(1:S)]:O S) K).bind λV=>
(GU J (⟨128,15,V⟩:gL)).bind λY=> M Y else M J
) λZ=>
(It Z).bind λ(F,P)=> if (P !=0) then some ([],P) else
(EK a0.oB false).bind λH=>
(gO (α:=S) 1 ([(Ak (Xc4 (H.length:Int) (2^(min (Xa0 8) 64)))),(Ak (H.length:Int))]:O S) H).bind λa6=>
(gO (α:=S) 1 a6 ([(Ak (Xc4 (F.length:Int) (2^(min (Xa0 8) 64)))),(Ak (F.length:Int))]:O S)).bind λa7=>
(gO (α:=S) 1 a7 F).bind λa8=>
(EK a0.gF false).bind λaa=>
(gO (α:=S) 1 a8 aa).bind λab=> some (ab,0)
def EQ (a0:O r8)(a1:O r8):C I:= if ((a0.length:Int) !=(a1.length:Int)) then some false else AC (τ:=Unit) (λZ=> AL (σ:=Unit) (λ_=> Z ()
) (λH (J:r8) K _=> AC (τ:=Unit) (λk5=> AC (τ:=I) (λY=>
(gN a1 (K:Int)).bind λv7=> if (!(J.Set==v7.Set)) then Y true else
(gN a1 (K:Int)).bind λv8=> Y (cond false true ((J.qv.length:Int) !=(v8.qv.length:Int)))
) λv9=> if v9 then some false else AC (τ:=Unit) (λM=> AL (σ:=Unit) (λ_=> M ()
) (λF (P:Int) Q _=>
(gN a1 (K:Int)).bind λU=>
(gN U.qv (Q:Int)).bind λV=> if (V !=P) then some false else F ()
) J.qv 0 ()
) λ_=> k5 ()
) λ_=> H ()
) a0 0 ()
) λ_=> some true
def ES (a0:O oF)(a1:O oF):C I:= if ((a0.length:Int) !=(a1.length:Int)) then some false else AC (τ:=Unit) (λH=> AL (σ:=Unit) (λ_=> H ()
) (λF (J:oF) K _=>
(gN a1 (K:Int)).bind λM=> if (!(oF.zn M J)) then some false else F ()
) a0 0 ()
) λ_=> some true
def Ba (a0:O iX)(a1:O iX):C I:= if ((a0.length:Int) !=(a1.length:Int)) then some false else AC (τ:=Unit) (λH=> AL (σ:=Unit) (λ_=> H ()
) (λF (J:iX) K _=>
(gN a1 (K:Int)).bind λM=> if (!(iX.zn M J)) then some false else F ()
) a0 0 ()
) λ_=> some true
def Bh (a0:O gL)(a1:O gL):C I:= if ((a0.length:Int) !=(a1.length:Int)) then some false else AC (τ:=Unit) (λM=> AL (σ:=Unit) (λ_=> M ()
) (λF (H:gL) J _=> AC (τ:=I) (λK=>
(gN a1 (J:Int)).bind λP=> if (H.Flags !=P.Flags) then K true else
(gN a1 (J:Int)).bind λQ=> if (cond false true (H.gE !=Q.gE)) then K true else
(gN a1 (J:Int)).bind λU=> K (cond false true (!((bs H.Data).toList==(bs U.Data).toList)))
) λV=> if V then some false else F ()
) a0 0 ()
) λ_=> some true
def DT (a0:gH)(a1:gH):C I:= AC (τ:=I) (λF=> if (a0.o3==a1.o3) then
(EQ a0.Path a1.Path).bind λv2=> if (cond true v2 false) then if (cond true (Addr.zn a0.Next a1.Next) false) then if (cond true (a0.AF==a1.AF) false) then if (cond true (a0.xL==a1.xL) false) then if (cond true (a0.zy==a1.zy) false) then
(ES a0.fT a1.fT).bind λH=> if (cond true H false) then
(Ba a0.iX a1.iX).bind λJ=> if (cond true J false) then
(Bh a0.oE a1.oE).bind λK=> F (cond true K false) else F false else F false else F false else F false else F false else F false else F false else F false
) λM=> some M
def Dl:C gH:= some (⟨(-1),[],(⟨false,(0:j),(0:j)⟩:Addr),(-1),(-1),(-1),[],[],[]⟩:gH)
def GV (a0:zl):C I:= AC (τ:=I) (λk1=> if (decide ((a0.oB.length:Int)>256)) then k1 true else k1 (cond false true (decide ((a0.gF.length:Int)>256)))
) λv2=> if v2 then some false else
(gO (α:=fI) 32 [] a0.oB).bind λ_=>
(gO (α:=fI) 32 a0.oB a0.gF).bind λv3=> AC (τ:=Unit) (λk4=> AL (σ:=Unit) (λ_=> k4 ()
) (λJ (x6:fI) i7 _=>
(Am x6).bind λv8=> if (!v8) then some false else J ()
) v3 0 ()
) λ_=> AC (τ:=I) (λk9=> if ((a0.gF.length:Int)==0) then
(Dl).bind λM=>
(DT a0.gH M).bind λP=> k9 (cond true (!P) false) else k9 false
) λQ=> if Q then some false else AC (τ:=Unit) (λU=> AL (σ:=Unit) (λ_=> U ()
) (λF (LB:fI) i16 _=> AC (τ:=I) (λH=> if (!(LB.Addr.V6==a0.gH.Next.V6)) then H true else if (cond false true (a0.gH.o3==(-1))) then H true else if (cond false true (Addr.zn a0.gH.Next (⟨false,(0:j),(0:j)⟩:Addr))) then H true else
(Br a0.gH).bind λV=> H (cond false true (!V))
) λY=> if Y then some false else F ()
) a0.gF 0 ()
) λ_=>
(E4 a0).bind λ(v20,v21)=> AC (τ:=I) (λK=> if (v21==0) then K (cond true (decide ((v20.length:Int)<=4077)) false) else K false
) λZ=> some Z
def Dx (a0:O gT)(a1:fI):C (O gT):= AC (τ:=(O gT)) (λK=> AL (σ:=(O gT)) (λv2=> K v2
) (λF (H:gT) i5 v2=> AC (τ:=(O gT)) (λJ=> if (!(fI.zn H.mu.fI a1)) then
(gO (α:=gT) 208 v2 ([H]:O gT)).bind λM=> J M else J v2
) λP=> F P
) a0 0 []
) λQ=> some Q
def Jl (a0:mu):C I:= AC (τ:=I) (λF=>
(Am a0.fI).bind λv2=> if (!v2) then F true else
(Br a0.gH).bind λH=> if (cond false true (!H)) then F true else if (cond false true (a0.gH.o3==(-1))) then F true else if (cond false true ((a0.gH.Path.length:Int)==0)) then F true else if (cond false true (Addr.zn a0.gH.Next (⟨false,(0:j),(0:j)⟩:Addr))) then F true else F (cond false true (!(a0.gH.Next.V6==a0.fI.Addr.V6)))
) λJ=> some J
def Hw (a0:O r8):C (Int×I):= AC (τ:=I) (λF=>
(CM a0).bind λv2=> if (!v2) then F true else if (cond false true ((a0.length:Int)==0)) then F true else
(gN a0 0).bind λH=> F (cond false true H.Set)
) λJ=> if J then some (0,false) else
(gN a0 0).bind λK=>
(gN K.qv 0).bind λM=> some (M,true)
def GZ (a0:O Int)(a1:Int):C I:= AC (τ:=Unit) (λH=> AL (σ:=Unit) (λ_=> H ()
) (λF (J:Int) i4 _=> if (J==a1) then some true else F ()
) a0 0 ()
) λ_=> some false
def Fz (a0:Int)(a1:Int)(F:gH):C (gH×Int):=
(Gk a0 a1).bind λv1=> if v1 then some ((⟨0,[],(⟨false,(0:j),(0:j)⟩:Addr),0,0,0,[],[],[]⟩:gH),1) else AC (τ:=I) (λK=> if (a0==3) then K true else K (cond false true (a0==2))
) λM=> AC (τ:=I) (λH=> if (F.zy !=(-1)) then if (cond true (!M) false) then if (a0 !=4) then H true else H (cond true (cond false true (F.zy !=a1)) false) else H false else H false
) λQ=> if Q then some ((⟨0,[],(⟨false,(0:j),(0:j)⟩:Addr),0,0,0,[],[],[]⟩:gH),30) else AC (τ:=I) (λJ=> if (F.zy==(-1)) then if M then J true else J (cond true (cond false true (a0==4)) false) else J false
) λU=> AC (τ:=Int) (λP=> if U then P a1 else P F.zy
) λV=> some (({ F with zy:=V }),0)
def Gs (a0:oX)(a1:th)(Q:gH):C (O Int):=
(Hw Q.Path).bind λ(v1,v2)=> AC (τ:=I) (λk3=> if (!v2) then k3 true else k3 (cond false true (v1 !=a1.tb))
) λv4=> AC (τ:=(O Int)) (λk5=> if v4 then
(gO (α:=Int) 8 [] ([2]:O Int)).bind λv6=> k5 v6 else k5 []
) λv7=> AC (τ:=I) (λk8=> AL (σ:=I) (λv9=> k8 v9
) (λF (aq:Addr) i12 v9=> AC (τ:=I) (λa6=> if v9 then a6 true else a6 (cond false true (Addr.zn aq Q.Next))
) λar=> F ar
) a1.zd 0 false
) λau=> AC (τ:=(O Int)) (λa7=> if (!au) then
(gO (α:=Int) 8 v7 ([3]:O Int)).bind λax=> a7 ax else a7 v7
) λa8=>
(Bm Q.Path).bind λay=> AC (τ:=(O Int)) (λaa=> if (decide (ay>a0.zX)) then
(gO (α:=Int) 8 a8 ([4]:O Int)).bind λaz=> aa az else aa a8
) λab=>
(Gh Q.Path a0.DH).bind λba=> AC (τ:=(O Int)) (λae=> if ba then
(gO (α:=Int) 8 ab ([5]:O Int)).bind λbb=> ae bb else ae ab
) λaf=> AC (τ:=I) (λbc=> AL (σ:=I) (λU=> bc U
) (λH (bd:r8) i31 U=> AC (τ:=I) (λag=> if U then ag true else ag (cond false true bd.Set)
) λbe=> H be
) Q.Path 0 false
) λbf=>
(DZ Q.Path).bind λbg=> AC (τ:=I×I) (λbh=> AL (σ:=I×I) (λ(v37,V)=> bh (v37,V)
) (λJ (K:Int) i41 (v37,V)=> AC (τ:=I×I) (λbi=> AC (τ:=I) (λbj=> AL (σ:=I) (λY=> bj Y
) (λM (ah:Ck) i47 Y=> AC (τ:=I) (λZ=> if Y then Z true else if (decide (K≥ah.zQ)) then Z (cond false true (cond true (decide (K<=ah.To)) false)) else Z false
) λbk=> M bk
) a0.tv 0 v37
) λbl=> AC (τ:=I) (λP=> if V then P true else if (K !=a1.tb) then
(GZ a0.zq K).bind λbm=> if (cond true bm false) then
(GZ a0.zq a1.tb).bind λbn=> P (cond false true (cond true (!bn) false)) else P false else P false
) λbo=> bi (bl,bo)
) λ(v55,bp)=> J (v55,bp)
) bg 0 (false,false)
) λ(v57,v58)=> AC (τ:=(O Int)) (λai=> if bf then
(gO (α:=Int) 8 af ([6]:O Int)).bind λbq=> ai bq else ai af
) λaj=> AC (τ:=(O Int)) (λak=> if v57 then
(gO (α:=Int) 8 aj ([7]:O Int)).bind λbr=> ak br else ak aj
) λal=> AC (τ:=(O Int)) (λan=> if v58 then
(gO (α:=Int) 8 al ([8]:O Int)).bind λbu=> an bu else an al
) λao=>
(Fz 1 a1.tb Q).bind λ(c0,bw)=> AC (τ:=(O Int)) (λap=> if (bw==30) then
(gO (α:=Int) 8 ao ([9]:O Int)).bind λbx=> ap bx else ap ao
) λbz=> some bz
def DY (a0:fI)(a1:Addr):C I:=
(DW a1 a0.zk).bind λ(v1,v2)=> AC (τ:=I) (λF=> if (v2==0) then F (cond true (fI.zn v1 a0) false) else F false
) λH=> some H
def BF (a0:fI)(a1:fI):C I:= AC (τ:=I) (λF=> if (decide (a1.zk≥a0.zk)) then
(DY a0 a1.Addr).bind λv2=> F (cond true v2 false) else F false
) λH=> some H
def Ik (a0:oX)(a1:mu):C I:= AC (τ:=Int×Int×Int) (λF=> if a1.fI.Addr.V6 then F (a0.CR,a0.zh,a0.B3) else F (a0.CT,a0.zi,a0.AJ)
) λ(v2,v3,v4)=>
(EO a1.gH).bind λJ=> if J then some (decide (a1.fI.zk<v4)) else AC (τ:=I) (λH=> if (decide (a1.fI.zk<v2)) then H true else H (cond false true (decide (a1.fI.zk>v3)))
) λK=> some K
def EJ (a0:O ss):C (O ss):= AC (τ:=(O ss)) (λJ=> AL (σ:=(O ss)) (λv2=> J v2
) (λF (H:ss) i5 v2=>
(Dq H.fI.Addr.V6).bind λK=>
(gO (α:=ss) 48 v2 ([{ H with Max:=K }]:O ss)).bind λM=> F M
) a0 0 []
) λP=> some P
def Gz (a0:O r8):C (Int×I):= AC (τ:=I) (λF=>
(CM a0).bind λv2=> if (!v2) then F true else if (cond false true ((a0.length:Int)==0)) then F true else
(gN a0 (AG ((a0.length:Int)-1))).bind λJ=> F (cond false true J.Set)
) λK=> if K then some (0,false) else
(DZ a0).bind λH=>
(gN H (AG ((H.length:Int)-1))).bind λM=> some (M,true)
def GH (a0:zu)(a1:T):C (Set×I):= AC (τ:=Unit) (λJ=> AL (σ:=Unit) (λ_=> J ()
) (λF (H:Set) i4 _=> if (H.Name.toList==a1.toList) then some (H,true) else F ()
) a0.tE 0 ()
) λ_=> some ((⟨Xbe,[],[]⟩:Set),false)
def B9 (a0:O T)(a1:T):C (O T):= AC (τ:=Int) (λZ=> Ad (σ:=Int) (λF J=> AC (τ:=I) (λV=> if (decide (J<(a0.length:Int))) then
(gN a0 J).bind λv5=> V (cond true (Op.bytesLess v5.toList a1.toList) false) else V false
) λv6=> if v6 then F (AG (J+1)) else Z J
) xv 0
) λK=> AC (τ:=I) (λY=> if (decide (K<(a0.length:Int))) then
(gN a0 K).bind λv9=> Y (cond true (v9.toList==a1.toList) false) else Y false
) λM=> if M then some a0 else
(part a0 0 K).bind λH=>
(gO (α:=T) 16 [] H).bind λ_=>
(gO (α:=T) 16 H ([a1]:O T)).bind λP=>
(part a0 K (a0.length:Int)).bind λQ=>
(gO (α:=T) 16 P Q).bind λU=> some U
def ER (a0:O Int)(a1:Int):C (O Int):= AC (τ:=Int) (λZ=> Ad (σ:=Int) (λF J=> AC (τ:=I) (λV=> if (decide (J<(a0.length:Int))) then
(gN a0 J).bind λv5=> V (cond true (decide (v5<a1)) false) else V false
) λv6=> if v6 then F (AG (J+1)) else Z J
) xv 0
) λK=> AC (τ:=I) (λY=> if (decide (K<(a0.length:Int))) then
(gN a0 K).bind λv9=> Y (cond true (v9==a1) false) else Y false
) λM=> if M then some a0 else
(part a0 0 K).bind λH=>
(gO (α:=Int) 8 [] H).bind λ_=>
(gO (α:=Int) 8 H ([a1]:O Int)).bind λP=>
(part a0 K (a0.length:Int)).bind λQ=>
(gO (α:=Int) 8 P Q).bind λU=> some U
def Gt (a0:zu)(a1:T):C ((O Int)×(O T)×Int):=
(Ez a0).bind λv1=> if (!v1) then some ([],[],1) else
(GH a0 a1).bind λ(v2,v3)=> if (!v3) then some ([],[],11) else AC (τ:=(O Int)×(O T)) (λk4=> Ad (σ:=(O Int)×(O T)×(O (T×I))×(O T)) (λJ (v6,U,v8,v9)=> if (decide ((v9.length:Int)>0)) then AC (τ:=(O Int)×(O T)×(O (T×I))×(O T)) (λV=>
(gN v9 0).bind λY=>
(GH a0 Y).bind λ(v12,Z)=> AC (τ:=(O T)) (λP=> if (!Z) then
(gN v9 0).bind λa6=>
(B9 U a6).bind λa7=> P a7 else P U
) λa8=>
(part v9 1 (v9.length:Int)).bind λaa=> AC (τ:=(O Int)) (λab=> AL (σ:=(O Int)) (λK=> ab K
) (λF (ae:Int) i23 K=>
(ER K ae).bind λaf=> F af
) v12.qv 0 v6
) λag=> AC (τ:=(O (T×I))×(O T)) (λah=> AL (σ:=(O (T×I))×(O T)) (λ(v27,v28)=> ah (v27,v28)
) (λH (M:T) i31 (v27,v28)=>
(some (Xdb (A1 v27 M) false)).bind λai=> AC (τ:=(O (T×I))×(O T)) (λQ=> if (!ai) then
(gO (α:=T) 16 v28 ([M]:O T)).bind λaj=> Q ((A3 v27 M true),aj) else Q (v27,v28)
) λ(v35,v36)=> H (v35,v36)
) v12.tE 0 (v8,aa)
) λ(v37,ak)=> V (ag,a8,v37,ak)
) λ(v39,v40,v41,al)=> J (v39,v40,v41,al) else k4 (v6,U)
) xv ([],[],(A3 [] a1 true),([a1]:O T))
) λ(an,v44)=> some (an,v44,0)
def HK (a0:O Int)(a1:Int):C I:= AC (τ:=Unit) (λH=> AL (σ:=Unit) (λ_=> H ()
) (λF (J:Int) i4 _=> if (J==a1) then some true else F ()
) a0 0 ()
) λ_=> some false
def C3 (a0:O ss)(a1:fI)(Z:Int):C Int:=
(Am a1).bind λv1=> if (!v1) then some 1 else AC (τ:=Int) (λk2=> AL (σ:=Int) (λH=> k2 H
) (λF (K:ss) i6 H=> AC (τ:=Int) (λV=> if (K.tb !=Z) then V H else
(BF K.fI a1).bind λv8=> AC (τ:=Int) (λY=> if (!v8) then AC (τ:=Int) (λJ=> if (H==11) then J 7 else J H
) λM=> Y M else if (decide (K.Max<a1.zk)) then Y 9 else some 0
) λP=> V P
) λQ=> F Q
) a0 0 11
) λU=> some U
def Ie (a0:ss)(a1:ss):C Int:=
(B2 a0.fI a1.fI).bind λv1=> if (v1 !=0) then some v1 else AC (τ:=I) (λF=> if (decide (a0.Max<a1.Max)) then F true else if (a0.Max==a1.Max) then F (cond false true (cond true (decide (a0.tb<a1.tb)) false)) else F false
) λH=> if H then some (-1) else if (ss.zn a0 a1) then some 0 else some 1
def Gp (a0:O ss):C (O ss):= AC (τ:=(O ss)) (λk1=> AL (σ:=(O ss)) (λv2=> k1 v2
) (λH (Q:ss) i5 v2=> AC (τ:=(O ss)) (λk6=> AC (τ:=Int) (λk7=> Ad (σ:=Int) (λJ P=> AC (τ:=I) (λK=> if (decide (P<(v2.length:Int))) then
(gN v2 P).bind λU=>
(Ie U Q).bind λV=> K (cond true (decide (V<0)) false) else K false
) λY=> if Y then J (AG (P+1)) else k7 P
) xv 0
) λF=> AC (τ:=I) (λM=> if (decide (F<(v2.length:Int))) then
(gN v2 F).bind λZ=> M (cond true (ss.zn Z Q) false) else M false
) λa6=> if a6 then k6 v2 else
(Ch (0<=(0:Int)/\(0:Int)<=F/\F<=(v2.length:Int))).bind λ_=>
(gO (α:=ss) 48 [] (Xb7 (Xa0 F-Xa0 0) (Xb8 (Xa0 0) v2))).bind λ_=>
(gO (α:=ss) 48 (Xb7 (Xa0 F-Xa0 0) (Xb8 (Xa0 0) v2)) ([Q]:O ss)).bind λa7=>
(Ch (0<=F/\F<=(v2.length:Int)/\(v2.length:Int)<=(v2.length:Int))).bind λ_=>
(gO (α:=ss) 48 a7 (Xb7 (Xa0 (v2.length:Int)-Xa0 F) (Xb8 (Xa0 F) v2))).bind λa8=> k6 a8
) λaa=> H aa
) a0 0 []
) λab=> some ab
def Ib (a0:zu)(a1:O Int):C (O ss):= AC (τ:=(O ss)) (λP=> AL (σ:=(O ss)) (λv2=> P v2
) (λF (K:ss) i5 v2=>
(HK a1 K.tb).bind λQ=> AC (τ:=(O ss)) (λM=> if Q then
(gO (α:=ss) 48 v2 ([K]:O ss)).bind λU=> M U else M v2
) λV=> F V
) a0.r9 0 []
) λH=>
(Gp H).bind λJ=> some J
def Bt (a0:zu)(a1:Int)(H:T)(P:fI)(J:Int):C Int:=
(Ez a0).bind λv1=> if (!v1) then some 1 else AC (τ:=(O Int)) (λK=> if (!(H.toList==(Xe7 (Xe8 List.nil)).toList)) then
(Gt a0 H).bind λ(v3,v4,v5)=> if (v5 !=0) then some v5 else
(gO (α:=Int) 8 ([a1]:O Int) v3).bind λQ=> K Q else K ([a1]:O Int)
) λM=>
(HK M J).bind λU=> if (!U) then some 17 else
(Ib a0 M).bind λV=>
(C3 V P J).bind λF=> some F
def Hm (a0:O ss)(a1:fI)(a2:Int):C (Int×(O ss)):= AC (τ:=Int×(O ss)) (λk1=> AL (σ:=Int×(O ss)) (λ(v2,v3)=> k1 (v2,v3)
) (λF (M:ss) i6 (v2,v3)=> AC (τ:=Int×(O ss)) (λk7=>
(BF M.fI a1).bind λv8=> if (!v8) then k7 (v2,v3) else
(gO (α:=ss) 48 v3 ([M]:O ss)).bind λv9=> AC (τ:=Int) (λJ=> if (v2==0) then J 2 else J v2
) λP=> AC (τ:=I) (λH=> if (M.tb==a2) then if (cond true (a2 !=0) false) then H (cond true (decide (M.Max≥a1.zk)) false) else H false else H false
) λQ=> AC (τ:=Int) (λK=> if Q then K 1 else K P
) λU=> k7 (U,v9)
) λ(V,v17)=> F (V,v17)
) a0 0 (0,[])
) λ(Y,Z)=> some (Y,Z)
def Jq (a0:oX)(a1:th)(F:mu):C (O Int):=
(Jl F).bind λv1=> if v1 then some ([1]:O Int) else
(Gs a0 a1 F.gH).bind λv2=> AC (τ:=I) (λk3=> AL (σ:=I) (λv4=> k3 v4
) (λJ (x6:fI) i7 v4=> AC (τ:=I) (λk8=> if v4 then k8 true else
(BF x6 F.fI).bind λv9=> if (cond false true v9) then k8 true else
(BF F.fI x6).bind λaf=> k8 (cond false true af)
) λag=> J ag
) a0.Bb 0 false
) λah=> AC (τ:=I) (λai=> AL (σ:=I) (λK=> ai K
) (λH (aj:fI) i17 K=> AC (τ:=I) (λM=> if K then M true else
(BF aj F.fI).bind λak=> M (cond false true ak)
) λal=> H al
) a0.wg 0 false
) λan=> AC (τ:=(O Int)) (λP=> if ah then
(gO (α:=Int) 8 v2 ([10]:O Int)).bind λao=> P ao else P v2
) λQ=> AC (τ:=(O Int)) (λU=> if an then
(gO (α:=Int) 8 Q ([11]:O Int)).bind λap=> U ap else U Q
) λV=>
(Ik a0 F).bind λaq=> AC (τ:=(O Int)) (λY=> if aq then
(gO (α:=Int) 8 V ([12]:O Int)).bind λar=> Y ar else Y V
) λZ=>
(EO F.gH).bind λau=> AC (τ:=(O ss)×(O ss)) (λa6=> if au then
(EJ a0.zu.r9).bind λax=>
(EJ a0.sI).bind λay=> a6 (ay,ax) else a6 (a0.sI,a0.zu.r9)
) λ(v36,v37)=>
(Gz F.gH.Path).bind λ(az,v39)=> AC (τ:=Int) (λa7=> if (!v39) then a7 (-1) else a7 az
) λa8=>
(Bt (⟨a0.zu.tE,v37⟩:zu) a1.tb a1.Set F.fI a8).bind λba=> AC (τ:=(O Int)) (λaa=> if (ba !=0) then
(gO (α:=Int) 8 Z ([13]:O Int)).bind λbb=> aa bb else aa Z
) λab=>
(Hm v36 F.fI a8).bind λ(v46,be)=> AC (τ:=(O Int)) (λae=> if (v46==2) then
(gO (α:=Int) 8 ab ([14]:O Int)).bind λbc=> ae bc else ae ab
) λbd=> some bd
def Hn (a0:oX)(a1:th)(F:mu):C Int:=
(Jq a0 a1 F).bind λv1=> if (decide ((v1.length:Int)>0)) then
(gN v1 0).bind λv2=> some v2 else some 0
def Gg (a0:oX)(a1:rv)(a2:zl):C (rv×Int):= AC (τ:=I) (λk1=>
(GO a0).bind λv2=> if (!v2) then k1 true else
(C4 a1).bind λv3=> if (cond false true (!v3)) then k1 true else
(GV a2).bind λv4=> k1 (cond false true (!v4))
) λv5=> if v5 then some ((⟨(⟨0,Xbe,0,0,[]⟩:th),false,[],0⟩:rv),1) else if (!a1.Up) then some ((⟨(⟨0,Xbe,0,0,[]⟩:th),false,[],0⟩:rv),31) else
(Dy a1).bind λv6=> AC (τ:=(O gT)) (λk7=> AL (σ:=(O gT)) (λv8=> k7 v8
) (λQ (a7:fI) i11 v8=>
(Dx v8 a7).bind λa8=> Q a8
) a2.oB 0 v6.gT
) λaa=> AC (τ:=(O gT)) (λab=> AL (σ:=(O gT)) (λU=> ab U
) (λJ (K:fI) i18 U=> AC (τ:=(O gT)) (λae=>
(BZ a2.gH).bind λY=>
(Hn a0 a1.th (⟨K,a1.th.tb,Y⟩:mu)).bind λaf=>
(Dx U K).bind λF=> AC (τ:=Int) (λag=> Ad (σ:=Int) (λM P=> AC (τ:=I) (λZ=> if (decide (P<(F.length:Int))) then
(gN F P).bind λah=>
(B2 ah.mu.fI K).bind λai=> Z (cond true (decide (ai<0)) false) else Z false
) λaj=> if aj then M (AG (P+1)) else ag P
) xv 0
) λH=>
(Ch (0<=H/\H<=(F.length:Int)/\(F.length:Int)<=(F.length:Int))).bind λ_=>
(gO (α:=gT) 208 [] (Xb7 (Xa0 (F.length:Int)-Xa0 H) (Xb8 (Xa0 H) F))).bind λ_=>
(Ch (H<=H/\H<=(F.length:Int))).bind λ_=>
(part F 0 H).bind λak=>
(gO (α:=gT) 208 ak ([(⟨(⟨K,a1.th.tb,Y⟩:mu),af,false⟩:gT)]:O gT)).bind λal=>
(gO (α:=gT) 208 al (Xb7 (Xa0 (F.length:Int)-Xa0 H) (Xb8 (Xa0 H) F))).bind λan=> ae an
) λao=> J ao
) a2.gF 0 aa
) λa6=>
(E6 ({ v6 with gT:=a6 })).bind λ(v36,v37)=> AC (τ:=I) (λV=> if (decide (v36>a1.th.zi)) then V true else if (cond false true (decide (v37>a1.th.zh))) then V true else V (cond false true (decide ((AG (v36+v37))>256)))
) λap=> if ap then some ((⟨(⟨0,Xbe,0,0,[]⟩:th),false,[],0⟩:rv),34) else
(Bg ({ v6 with gT:=a6 })).bind λaq=> some (aq,0)
def GR (a0:rv):C (rv×Int):=
(C4 a0).bind λv1=> if (!v1) then some ((⟨(⟨0,Xbe,0,0,[]⟩:th),false,[],0⟩:rv),1) else if a0.Up then some ((⟨(⟨0,Xbe,0,0,[]⟩:th),false,[],0⟩:rv),31) else
(Dy a0).bind λv2=> some ({ v2 with Up:=true },0)
def HO (a0:rv)(a1:Int)(J:Int):C (rv×Int):= AC (τ:=I) (λH=>
(C4 a0).bind λv2=> if (!v2) then H true else if (cond false true (decide (a1<0))) then H true else if (cond false true (decide (a1>1073741824))) then H true else if (cond false true (decide (J<0))) then H true else H (cond false true (decide (J>4095)))
) λZ=> if Z then some ((⟨(⟨0,Xbe,0,0,[]⟩:th),false,[],0⟩:rv),1) else if (!a0.Up) then some ((⟨(⟨0,Xbe,0,0,[]⟩:th),false,[],0⟩:rv),31) else
(Dy a0).bind λU=> AC (τ:=(O gT)) (λV=> if (J==0) then V [] else V U.gT
) λY=> AC (τ:=(O gT)) (λk7=> Ad (σ:=Int×(O gT)) (λF (v9,v10)=> if (decide (v9<(Y.length:Int))) then
(gN v10 v9).bind λK=>
(Bu v10 v9 ({ K with zw:=true })).bind λM=> F ((AG (v9+1)),M) else k7 v10
) xv (0,Y)
) λP=>
(Bg (⟨U.th,false,P,(AG (a1+J))⟩:rv)).bind λQ=> some (Q,0)
def Gm (a0:O mu)(a1:O mu):C (O fI):=
(gO (α:=mu) 192 [] a0).bind λ_=>
(gO (α:=mu) 192 a0 a1).bind λv1=> AC (τ:=(O fI)) (λk2=> AL (σ:=(O fI)) (λH=> k2 H
) (λK (V:mu) i6 H=> AC (τ:=(O fI)) (λk7=> AC (τ:=Int) (λk8=> Ad (σ:=Int) (λM J=> AC (τ:=I) (λP=> if (decide (J<(H.length:Int))) then
(gN H J).bind λY=>
(B2 Y V.fI).bind λZ=> P (cond true (decide (Z<0)) false) else P false
) λa6=> if a6 then M (AG (J+1)) else k8 J
) xv 0
) λF=> AC (τ:=I) (λQ=> if (F==(H.length:Int)) then Q true else
(gN H F).bind λa7=> Q (cond false true (!(fI.zn a7 V.fI)))
) λa8=> AC (τ:=(O fI)) (λU=> if a8 then
(Ch (0<=F/\F<=(H.length:Int)/\(H.length:Int)<=(H.length:Int))).bind λ_=>
(gO (α:=fI) 32 [] (Xb7 (Xa0 (H.length:Int)-Xa0 F) (Xb8 (Xa0 F) H))).bind λ_=>
(part H 0 F).bind λaa=>
(gO (α:=fI) 32 aa ([V.fI]:O fI)).bind λab=>
(gO (α:=fI) 32 ab (Xb7 (Xa0 (H.length:Int)-Xa0 F) (Xb8 (Xa0 F) H))).bind λae=> U ae else U H
) λaf=> k7 af
) λag=> K ag
) v1 0 []
) λah=> some ah
def E0 (a0:O mu)(a1:fI):C (mu×I):= AC (τ:=Unit) (λJ=> AL (σ:=Unit) (λ_=> J ()
) (λF (H:mu) i4 _=> if (fI.zn H.fI a1) then some (H,true) else F ()
) a0 0 ()
) λ_=> some ((⟨(⟨(⟨false,(0:j),(0:j)⟩:Addr),0⟩:fI),0,(⟨0,[],(⟨false,(0:j),(0:j)⟩:Addr),0,0,0,[],[],[]⟩:gH)⟩:mu),false)
def DV (a0:O Int)(a1:O Int):C I:= if ((a0.length:Int) !=(a1.length:Int)) then some false else AC (τ:=Unit) (λH=> AL (σ:=Unit) (λ_=> H ()
) (λF (J:Int) K _=>
(gN a1 (K:Int)).bind λM=> if (J !=M) then some false else F ()
) a0 0 ()
) λ_=> some true
def CZ (a0:gH)(a1:gH):C I:= AC (τ:=I) (λF=> if (a0.o3 !=a1.o3) then F true else if (cond false true (!(Addr.zn a0.Next a1.Next))) then F true else if (cond false true (a0.AF !=a1.AF)) then F true else if (cond false true (a0.xL !=a1.xL)) then F true else if (cond false true (a0.zy !=a1.zy)) then F true else if (cond false true ((a0.Path.length:Int) !=(a1.Path.length:Int))) then F true else if (cond false true ((a0.fT.length:Int) !=(a1.fT.length:Int))) then F true else if (cond false true ((a0.iX.length:Int) !=(a1.iX.length:Int))) then F true else F (cond false true ((a0.oE.length:Int) !=(a1.oE.length:Int)))
) λv2=> if v2 then some false else AC (τ:=Unit) (λk3=> AL (σ:=Unit) (λ_=> k3 ()
) (λM (x5:r8) i6 _=> AC (τ:=I) (λk7=>
(gN a1.Path (i6:Int)).bind λv8=> if (!(x5.Set==v8.Set)) then k7 true else
(gN a1.Path (i6:Int)).bind λv9=>
(DV x5.qv v9.qv).bind λV=> k7 (cond false true (!V))
) λY=> if Y then some false else M ()
) a0.Path 0 ()
) λ_=> AC (τ:=Unit) (λZ=> AL (σ:=Unit) (λ_=> Z ()
) (λH (Mf:oF) a6 _=>
(gN a1.fT (a6:Int)).bind λa7=> if (!(oF.zn Mf a7)) then some false else H ()
) a0.fT 0 ()
) λ_=> AC (τ:=Unit) (λa8=> AL (σ:=Unit) (λ_=> a8 ()
) (λJ (aa:iX) ab _=>
(gN a1.iX (ab:Int)).bind λae=> if (!(iX.zn aa ae)) then some false else J ()
) a0.iX 0 ()
) λ_=> AC (τ:=Unit) (λaf=> AL (σ:=Unit) (λ_=> af ()
) (λK (P:gL) Q _=> AC (τ:=I) (λU=>
(gN a1.oE (Q:Int)).bind λag=> if (P.Flags !=ag.Flags) then U true else
(gN a1.oE (Q:Int)).bind λah=> if (cond false true (P.gE !=ah.gE)) then U true else
(gN a1.oE (Q:Int)).bind λai=> U (cond false true (!((bs P.Data).toList==(bs ai.Data).toList)))
) λaj=> if aj then some false else K ()
) a0.oE 0 ()
) λ_=> some true
def A5 (a0:mu)(a1:mu):C I:= AC (τ:=I) (λF=> if (fI.zn a0.fI a1.fI) then if (cond true (a0.zQ==a1.zQ) false) then
(CZ a0.gH a1.gH).bind λv2=> F (cond true v2 false) else F false else F false
) λH=> some H
def DG (a0:O mu):C (O mu):= AC (τ:=(O mu)) (λJ=> AL (σ:=(O mu)) (λv2=> J v2
) (λF (H:mu) i5 v2=>
(BZ H.gH).bind λK=>
(gO (α:=mu) 192 v2 ([{ H with gH:=K }]:O mu)).bind λM=> F M
) a0 0 []
) λP=> some P
def HZ (a0:Int)(a1:O mu)(a2:O mu):C (O DA):=
(Gm a1 a2).bind λv1=> AC (τ:=(O DA)) (λk2=> AL (σ:=(O DA)) (λK=> k2 K
) (λF (M:fI) i6 K=> AC (τ:=(O DA)) (λk7=>
(E0 a1 M).bind λ(v8,v9)=>
(E0 a2 M).bind λ(v10,v11)=> AC (τ:=I) (λH=> if (v9==v11) then
(A5 v8 v10).bind λP=> H (cond true P false) else H false
) λQ=> if Q then k7 K else AC (τ:=DA) (λJ=> if v11 then
(DG ([v10]:O mu)).bind λU=>
(gN U 0).bind λV=> J (⟨a0,M,v11,V⟩:DA) else J (⟨a0,M,v11,(⟨(⟨(⟨false,(0:j),(0:j)⟩:Addr),0⟩:fI),0,(⟨0,[],(⟨false,(0:j),(0:j)⟩:Addr),0,0,0,[],[],[]⟩:gH)⟩:mu)⟩:DA)
) λY=>
(gO (α:=DA) 240 K ([Y]:O DA)).bind λZ=> k7 Z
) λa6=> F a6
) v1 0 []
) λa7=> some a7
def EG (a0:Ct)(a1:zO):C (Ct×(O DA)×Int):=
(GI a0.ur).bind λv1=>
(I8 v1 a1.Co).bind λv2=> if (decide (v2<0)) then some ((⟨(⟨(⟨0,[],0,0,0,0,0,0,[],[],[],0,(⟨[],[]⟩:zu),[]⟩:oX),[],[]⟩:ur),[]⟩:Ct),[],32) else AC (τ:=Int×(O tF)×(O rv)) (λk3=> if (a1.Kind==1) then
(gN v1.oT v2).bind λv4=>
(Gg v1.oX v4 a1.zl).bind λ(v5,v6)=>
(gN v1.oT v2).bind λv7=>
(Bu v1.oT v2 v5).bind λv8=> k3 (v6,v1.gD,v8) else AC (τ:=Int×(O tF)×(O rv)) (λk9=> if (a1.Kind==2) then
(gN v1.oT v2).bind λa6=>
(GR a6).bind λ(v11,v12)=>
(gN v1.oT v2).bind λbb=>
(Bu v1.oT v2 v11).bind λa7=> k9 (v12,v1.gD,a7) else AC (τ:=Int×(O tF)×(O rv)) (λJ=> if (a1.Kind==3) then
(gN v1.oT v2).bind λa8=>
(HO a8 a1.KK a1.zT).bind λ(v17,aa)=>
(gN v1.oT v2).bind λbc=>
(Bu v1.oT v2 v17).bind λab=> J (aa,v1.gD,ab) else AC (τ:=Int×(O tF)×(O rv)) (λK=> if (a1.Kind==4) then
(BA a1.tF).bind λM=> AC (τ:=I) (λP=> if (M==0) then P (cond true (a1.tF.tb !=a1.Co) false) else P false
) λae=> AC (τ:=Int) (λQ=> if ae then Q 33 else Q M
) λaf=>
(F8 a1.tF).bind λag=>
(gN v1.gD v2).bind λbd=>
(Bu v1.gD v2 ag).bind λah=> K (af,ah,v1.oT) else AC (τ:=Int×(O rv)) (λU=> if (a1.Kind==5) then
(gN v1.oT v2).bind λai=>
(Ew ai a1.zT).bind λaj=>
(gN v1.oT v2).bind λbe=>
(Bu v1.oT v2 aj).bind λak=> U (0,ak) else U (1,v1.oT)
) λ(v35,v36)=> K (v35,v1.gD,v36)
) λ(v37,al,v39)=> J (v37,al,v39)
) λ(v40,v41,an)=> k9 (v40,v41,an)
) λ(ao,v44,v45)=> k3 (ao,v44,v45)
) λ(v46,V,ap)=> if (v46 !=0) then some ((⟨(⟨(⟨0,[],0,0,0,0,0,0,[],[],[],0,(⟨[],[]⟩:zu),[]⟩:oX),[],[]⟩:ur),[]⟩:Ct),[],v46) else
(F9 (⟨v1.oX,V,ap⟩:ur)).bind λY=> AC (τ:=(O DA)) (λaq=> AL (σ:=(O DA)) (λH=> aq H
) (λF (ar:tF) Z H=>
(gN a0.Cl (Z:Int)).bind λau=>
(gN Y.Cl (Z:Int)).bind λax=>
(HZ ar.tb au ax).bind λay=>
(gO (α:=DA) 240 H ay).bind λaz=> F az
) V 0 []
) λba=> some (Y,ba,0)
def Js (a0:Int)(a1:Int):C Int:=
(Ch (a1≠0)).bind λ_=> AC (τ:=Int) (λF=> if (decide ((Xes a0 a1)<0)) then F (AG ((Xes a0 a1)+a1)) else F (Xes a0 a1)
) λv2=> some v2
def AH (a0:tx)(a1:Int):C (Int×tx):= if (decide (a0.At≥(a0.L.length:Int))) then some (0,a0) else
(gN a0.L (AG ((AG (a0.At+1))-1))).bind λv1=>
(Js v1 a1).bind λv2=> some (v2,(⟨a0.L,(AG (a0.At+1))⟩:tx))
def GE (a0:Int):C fI:= if (decide (a0≥6)) then some (⟨(⟨true,(AZ ((Xa3 64 2306139568115548160 ||| Xa3 64 ((AZ (((AZ a0).toNat:Int)*(2^(min (Xa0 16) 64)))).toNat:Int)).toNat:Int)),(0:j)⟩:Addr),48⟩:fI) else some (⟨(⟨false,(0:j),(AZ ((Xa3 64 167772160 ||| Xa3 64 ((AZ (((AZ a0).toNat:Int)*(2^(min (Xa0 16) 64)))).toNat:Int)).toNat:Int))⟩:Addr),16⟩:fI)
def EB (a0:tx):C (oX×tx):=
(AH a0 3).bind λ(v1,v2)=>
(part ([701,202]:O Int) 0 v1).bind λv3=>
(AH v2 4).bind λ(v4,v5)=> AC (τ:=tx×(O fI)) (λk6=> if (v4==0) then
(AH v5 8).bind λ(v7,v8)=>
(GE v7).bind λv9=> k6 (v8,([v9]:O fI)) else k6 (v5,[])
) λ(v10,v11)=>
(AH v10 6).bind λ(v12,K)=> AC (τ:=tx×Int) (λM=> if (v12==0) then
(AH K 3).bind λ(a6,a7)=> M (a7,(AG (2+a6))) else M (K,8)
) λ(v17,a8)=>
(AH v17 3).bind λ(aa,v20)=> AC (τ:=tx×(O ss)×(O ss)) (λab=> Ad (σ:=Int×tx×(O ss)×(O ss)) (λF (v23,v24,v25,v26)=> if (decide (v23<8)) then AC (τ:=tx×(O ss)×(O ss)) (λae=>
(GE v23).bind λJ=> AC (τ:=Int) (λP=> if J.Addr.V6 then P 64 else P 24
) λQ=> AC (τ:=tx×(O ss)) (λaf=> AL (σ:=tx×(O ss)) (λ(v32,v33)=> af (v32,v33)
) (λH (ag:Int) i36 (v32,v33)=> AC (τ:=I×tx) (λU=> if (decide (aa>0)) then U (true,v32) else
(AH v32 3).bind λ(ah,v39)=> U ((cond false true (decide (ah>0))),v39)
) λ(v40,v41)=> AC (τ:=(O ss)) (λV=> if v40 then
(gO (α:=ss) 48 v33 ([(⟨J,Q,ag⟩:ss)]:O ss)).bind λai=> V ai else V v33
) λaj=> H (v41,aj)
) ([101,102,103,104,105,201,202,203,301]:O Int) 0 (v24,v25)
) λ(v45,v46)=>
(AH v45 5).bind λ(ak,Y)=> AC (τ:=tx×(O ss)) (λZ=> if (ak==0) then
(AH Y 5).bind λ(v50,v51)=>
(gN ([101,102,103,201,0]:O Int) v50).bind λal=>
(gO (α:=ss) 48 v26 ([(⟨J,Q,al⟩:ss)]:O ss)).bind λan=> Z (v51,an) else Z (Y,v26)
) λ(v54,v55)=> ae (v54,v46,v55)
) λ(ao,v57,v58)=> F ((AG (v23+1)),ao,v57,v58) else ab (v24,v25,v26)
) xv (0,v20,[],[])
) λ(v59,v60,ap)=> some ((⟨99,([(⟨(⟨false,(0:j),(3221225984:j)⟩:Addr),24⟩:fI)]:O fI),8,24,19,64,25,65,v11,([(⟨64512,65534⟩:Ck)]:O Ck),v3,a8,(⟨([(⟨(Xe7 (Xe8 (Xcj 65 (Xcj 76 (Xcj 76 List.nil))))),([101,102,103,104,105,201,202,203,301]:O Int),[]⟩:Set),(⟨(Xe7 (Xe8 (Xcj 79 (Xcj 78 (Xcj 69 List.nil))))),([201]:O Int),[]⟩:Set)]:O Set),v60⟩:zu),ap⟩:oX),v59)
def DF (a0:tx)(a1:Int):C (tF×tx):=
(AH a0 2).bind λ(v1,v2)=>
(AH v2 8).bind λ(v3,v4)=> AC (τ:=tx×I×I×Int×(O Int)) (λk5=> if (v3==0) then k5 (v4,true,false,0,[]) else AC (τ:=tx×I×Int×(O Int)) (λk6=> if (v3==1) then k6 (v4,true,0,[]) else AC (τ:=tx×Int×(O Int)) (λk7=> if (v3==2) then
(AH v4 4).bind λ(v8,v9)=> k7 (v9,(AG (1+v8)),[]) else AC (τ:=tx×(O Int)) (λH=> if (v3==3) then
(AH v4 4).bind λ(v11,v12)=> H (v12,([(AG (101+v11))]:O Int)) else H (v4,[])
) λ(K,M)=> k7 (K,0,M)
) λ(P,Q,v17)=> k6 (P,false,Q,v17)
) λ(U,V,v20,v21)=> k5 (U,false,V,v20,v21)
) λ(v22,v23,v24,v25,v26)=> AC (τ:=tx×(O B4)) (λY=> Ad (σ:=Int×tx×(O B4)) (λF (v29,v30,v31)=> if (decide (v29<5)) then
(AH v30 4).bind λ(v32,v33)=> AC (τ:=tx×(O B4)) (λJ=> if (v32==0) then
(AH v33 5).bind λ(v35,v36)=>
(gO (α:=B4) 16 v31 ([(⟨(AG (101+v29)),(AG (v35-2))⟩:B4)]:O B4)).bind λZ=> J (v36,Z) else J (v33,v31)
) λ(a6,v39)=> F ((AG (v29+1)),a6,v39) else Y (v30,v31)
) xv (0,v22,[])
) λ(v40,v41)=> some ((⟨a1,v23,v24,(v1==0),v25,v26,v41⟩:tF),v40)
def Eh (a0:Int)(a1:I):C Addr:= if a1 then some (⟨true,(2306139568115613695:j),(AZ a0)⟩:Addr) else some (⟨false,(0:j),(AZ ((Xa3 64 3221225984 ||| Xa3 64 ((AZ (AG ((Xes a0 250)+1))).toNat:Int)).toNat:Int))⟩:Addr)
def E1 (a0:tx)(a1:Int):C (th×tx):=
(AH a0 6).bind λ(v1,v2)=>
(gN ([(Xe7 (Xe8 (Xcj 65 (Xcj 76 (Xcj 76 List.nil))))),(Xe7 (Xe8 (Xcj 65 (Xcj 76 (Xcj 76 List.nil))))),(Xe7 (Xe8 (Xcj 65 (Xcj 76 (Xcj 76 List.nil))))),(Xe7 (Xe8 (Xcj 79 (Xcj 78 (Xcj 69 List.nil))))),(Xe7 (Xe8 List.nil)),(Xe7 (Xe8 (Xcj 78 (Xcj 79 (Xcj 78 (Xcj 69 List.nil))))))]:O T) v1).bind λF=>
(AH v2 20).bind λ(v4,v5)=>
(AH v5 9).bind λ(v6,H)=>
(Eh a1 false).bind λJ=>
(Eh a1 true).bind λK=> some ((⟨a1,F,(AG (6+v4)),(AG (3+v6)),([J,K]:O Addr)⟩:th),H)
def Ea (a0:tx):C (ur×tx):=
(EB a0).bind λ(v1,v2)=> AC (τ:=tx×(O tF)×(O rv)) (λY=> Ad (σ:=Int×tx×(O tF)×(O rv)) (λF (v5,v6,U,V)=>
(AH v6 4).bind λ(v9,v10)=> if (decide (v5<(AG (2+v9)))) then
(DF v10 (AG (101+v5))).bind λ(v11,v12)=>
(gO (α:=tF) 72 U ([v11]:O tF)).bind λH=>
(E1 v12 (AG (101+v5))).bind λ(J,K)=>
(AH K 6).bind λ(M,v17)=>
(gO (α:=rv) 104 V ([(⟨J,(decide (M>0)),[],0⟩:rv)]:O rv)).bind λP=> F ((AG (v5+1)),v17,H,P) else Y (v10,U,V)
) xv (0,v2,[],[])
) λ(Q,v20,v21)=> some ((⟨v1,v20,v21⟩:ur),Q)
def G4 (a0:tx):C (I×tx):= some ((decide (a0.At<(a0.L.length:Int))),a0)
def B6 (a0:tx):C (fI×tx):=
(AH a0 8).bind λ(v1,v2)=>
(GE v1).bind λF=>
(AH v2 8).bind λ(v4,v5)=> AC (τ:=tx×fI) (λU=> if (v4==6) then AC (τ:=Int) (λV=> if F.Addr.V6 then V 64 else V 24
) λZ=> U (v5,(⟨F.Addr,Z⟩:fI)) else AC (τ:=tx×fI) (λY=> if (v4==7) then AC (τ:=Int) (λH=> if F.Addr.V6 then H 128 else H 32
) λJ=>
(AH v5 3).bind λ(v12,K)=> Y (K,(⟨{ F.Addr with Lo:=(AZ ((F.Addr.Lo.toNat:Int)+((AZ v12).toNat:Int))) },J⟩:fI)) else Y (v5,F)
) λ(M,P)=> U (M,P)
) λ(Q,v17)=> some (v17,Q)
def B1 (a0:tx):C ((O oF)×tx):=
(AH a0 65536).bind λ(v1,v2)=> AC (τ:=tx×(O oF)) (λV=> AL (σ:=tx×(O oF)) (λ(v4,v5)=> V (v4,v5)
) (λF (Y:oF) U (v4,v5)=> AC (τ:=I×tx) (λJ=> if ((AG ((Xa3 64 (Xc4 v1 (2^(min (Xa0 ((AZ (AG (2*(U:Int)))).toNat:Int)) 64))) &&& Xa3 64 3).toNat:Int))==3) then if (decide ((U:Int)<6)) then J (true,v4) else
(AH v4 2).bind λ(v10,v11)=> J ((cond true (cond false true (v10==0)) false),v11) else J (false,v4)
) λ(v12,K)=> AC (τ:=(O oF)) (λH=> if v12 then
(gO (α:=oF) 16 v5 ([Y]:O oF)).bind λM=> H M else H v5
) λP=> F (K,P)
) ([(⟨0,99⟩:oF),(⟨0,101⟩:oF),(⟨0,102⟩:oF),(⟨99,101⟩:oF),(⟨99,103⟩:oF),(⟨500,1⟩:oF),(⟨65535,666⟩:oF),(⟨65535,65282⟩:oF)]:O oF) 0 (v2,[])
) λ(v17,Q)=> some (Q,v17)
def EY (a0:tx):C ((O iX)×tx):=
(AH a0 16384).bind λ(v1,v2)=> AC (τ:=(O iX)) (λP=> AL (σ:=(O iX)) (λH=> P H
) (λF (Q:iX) U H=> AC (τ:=(O iX)) (λM=> if ((AG ((Xa3 64 (Xc4 v1 (2^(min (Xa0 ((AZ (AG (2*(U:Int)))).toNat:Int)) 64))) &&& Xa3 64 3).toNat:Int))==3) then
(gO (α:=iX) 24 H ([Q]:O iX)).bind λV=> M V else M H
) λJ=> F J
) ([(⟨5,5,5⟩:iX),(⟨99,0,0⟩:iX),(⟨99,0,103⟩:iX),(⟨99,1,102⟩:iX),(⟨99,101,0⟩:iX),(⟨99,102,104⟩:iX),(⟨99,103,101⟩:iX)]:O iX) 0 []
) λK=> some (K,v2)
def Ee (a0:tx)(a1:Int)(a2:I):C (gH×tx):=
(Dl).bind λv1=>
(AH a0 3).bind λ(v2,v3)=>
(AH v3 4).bind λ(v4,v5)=> AC (τ:=tx×(O Int)) (λk6=> Ad (σ:=Int×tx×(O Int)) (λJ (v8,v9,v10)=> if (decide (v8>0)) then
(AH v9 7).bind λ(v11,v12)=>
(gN ([a1,101,102,201,202,203,301]:O Int) v11).bind λab=>
(gO (α:=Int) 8 v10 ([ab]:O Int)).bind λae=> J ((AG (v8-1)),v12,ae) else k6 (v9,v10)
) xv (v4,v5,([a1]:O Int))
) λ(af,H)=>
(Eh a1 a2).bind λF=>
(AH af 3).bind λ(ag,M)=> AC (τ:=tx×Int) (λP=> if (ag==0) then
(AH M 3).bind λ(v21,v22)=> P (v22,v21) else P (M,v1.AF)
) λ(v23,v24)=>
(AH v23 6).bind λ(v25,v26)=> AC (τ:=tx×Int) (λQ=> if (v25==0) then
(AH v26 300).bind λ(v28,v29)=> Q (v29,v28) else Q (v26,v1.xL)
) λ(v30,v31)=>
(B1 v30).bind λ(v32,v33)=>
(EY v33).bind λ(ah,v35)=>
(AH v35 24).bind λ(v36,v37)=> AC (τ:=tx×(O r8)×I×j×j×Int×(O gL)) (λU=> if (v36==0) then
(AH v37 300).bind λ(v39,v40)=> U (v40,[(⟨false,H⟩:r8)],F.V6,F.Hi,F.Lo,(AG (1+v39)),v1.oE) else AC (τ:=tx×(O r8)×I×j×j×(O gL)) (λV=> if (v36==1) then
(gN H 0).bind λbh=>
(Bu H 0 103).bind λai=> V (v37,[(⟨false,ai⟩:r8)],F.V6,F.Hi,F.Lo,v1.oE) else AC (τ:=tx×(O r8)×I×j×j×(O gL)) (λY=> if (v36==2) then Y (v37,((⟨false,H⟩:r8)::([(⟨true,([7,9]:O Int)⟩:r8)]:O r8)),F.V6,F.Hi,F.Lo,v1.oE) else AC (τ:=tx×(O r8)×I×j×j×(O gL)) (λZ=> if (v36==3) then
(gO (α:=Int) 8 H ([99]:O Int)).bind λaj=> Z (v37,[(⟨false,aj⟩:r8)],F.V6,F.Hi,F.Lo,v1.oE) else AC (τ:=tx×(O r8)×I×j×j×(O gL)) (λa6=> if (v36==4) then
(Eh 104 a2).bind λK=> a6 (v37,[(⟨false,H⟩:r8)],K.V6,K.Hi,K.Lo,v1.oE) else AC (τ:=tx×(O r8)×(O gL)) (λa7=> if (v36==5) then
(gO (α:=Int) 8 H ([64512,701]:O Int)).bind λak=> a7 (v37,[(⟨false,ak⟩:r8)],v1.oE) else AC (τ:=tx×(O r8)×(O gL)) (λa8=> if (v36==6) then a8 (v37,[],v1.oE) else AC (τ:=tx×(O gL)) (λaa=> if (v36==7) then
(AH v37 256).bind λ(v53,v54)=> aa (v54,[(⟨224,99,([(1:S),(Ak v53)]:O S)⟩:gL)]) else aa (v37,v1.oE)
) λ(v55,al)=> a8 (v55,[(⟨false,H⟩:r8)],al)
) λ(v57,v58,v59)=> a7 (v57,v58,v59)
) λ(v60,an,ao)=> a6 (v60,an,F.V6,F.Hi,F.Lo,ao)
) λ(v63,v64,ap,v66,v67,aq)=> Z (v63,v64,ap,v66,v67,aq)
) λ(ar,v70,au,v72,ax,ay)=> Y (ar,v70,au,v72,ax,ay)
) λ(v75,v76,v77,v78,v79,v80)=> V (v75,v76,v77,v78,v79,v80)
) λ(az,v82,ba,bb,v85,bc)=> U (az,v82,ba,bb,v85,v1.zy,bc)
) λ(v87,bd,be,bf,v91,bg,v93)=> some ((⟨v2,bd,(⟨be,bf,v91⟩:Addr),v24,v31,bg,v32,ah,v93⟩:gH),v87)
def Ec (a0:tx)(a1:Int):C (mu×tx):=
(B6 a0).bind λ(v1,v2)=>
(Ee v2 a1 v1.Addr.V6).bind λ(v3,v4)=> some ((⟨v1,a1,v3⟩:mu),v4)
def D7 (a0:tx)(a1:Int):C (zl×tx):=
(Dl).bind λv1=>
(AH a0 3).bind λ(v2,v3)=> AC (τ:=tx×(O fI)) (λk4=> Ad (σ:=Int×tx×(O fI)) (λH (v6,v7,v8)=> AC (τ:=I×tx) (λk9=> if (decide (v6>0)) then
(AH v7 2).bind λ(v10,v11)=> k9 ((cond true (v10==0) false),v11) else k9 (false,v7)
) λ(v12,J)=> if v12 then
(B6 J).bind λ(P,Q)=>
(gO (α:=fI) 32 v8 ([P]:O fI)).bind λU=> H ((AG (v6-1)),Q,U) else k4 (J,v8)
) xv (v2,v3,[])
) λ(v17,V)=>
(AH v17 5).bind λ(Y,v20)=> AC (τ:=tx×Int×(O r8)×I×j×j×Int×Int×Int×(O oF)×(O iX)×(O gL)×(O fI)) (λK=> if (decide (Y>0)) then
(Ec v20 a1).bind λ(v22,v23)=>
(AH v23 3).bind λ(v24,v25)=> AC (τ:=tx×(O fI)) (λZ=> Ad (σ:=Int×tx×(O fI)) (λF (v28,v29,v30)=> if (decide (v28>0)) then
(B6 v29).bind λ(v31,v32)=> AC (τ:=(O fI)) (λM=> if (v31.Addr.V6==v22.fI.Addr.V6) then
(gO (α:=fI) 32 v30 ([v31]:O fI)).bind λa6=> M a6 else M v30
) λa7=> F ((AG (v28-1)),v32,a7) else Z (v29,v30)
) xv (v24,v25,([v22.fI]:O fI))
) λ(v36,v37)=> K (v36,v22.gH.o3,v22.gH.Path,v22.gH.Next.V6,v22.gH.Next.Hi,v22.gH.Next.Lo,v22.gH.AF,v22.gH.xL,v22.gH.zy,v22.gH.fT,v22.gH.iX,v22.gH.oE,v37) else K (v20,v1.o3,v1.Path,v1.Next.V6,v1.Next.Hi,v1.Next.Lo,v1.AF,v1.xL,v1.zy,v1.fT,v1.iX,v1.oE,[])
) λ(a8,v39,v40,v41,aa,ab,v44,v45,v46,ae,af,v49,v50)=> some ((⟨V,(⟨v39,v40,(⟨v41,aa,ab⟩:Addr),v44,v45,v46,ae,af,v49⟩:gH),v50⟩:zl),a8)
def EA (a0:tx)(a1:ur):C (zO×tx):=
(AH a0 (if (a1.gD.length:Int)>1 then (a1.gD.length:Int) else 1)).bind λ(v1,v2)=>
(AH v2 10).bind λ(v3,v4)=>
(gN ([1,1,1,1,1,1,2,3,4,5]:O Int) v3).bind λH=> AC (τ:=tx×zO) (λk6=> if (H==1) then
(D7 v4 (AG (101+v1))).bind λ(v7,v8)=> k6 (v8,(⟨H,(AG (101+v1)),0,0,v7,(⟨0,false,false,false,0,[],[]⟩:tF)⟩:zO)) else AC (τ:=tx×Int×Int×Int×I×I×I×Int×(O Int)×(O B4)) (λk9=> if (H==3) then
(AH v4 50).bind λ(v10,v11)=>
(AH v11 3).bind λ(v12,M)=>
(gN ([0,5,60]:O Int) v12).bind λP=> k9 (M,v10,P,0,false,false,false,0,[],[]) else AC (τ:=tx×Int×Int×I×I×I×Int×(O Int)×(O B4)) (λJ=> if (H==4) then
(DF v4 (AG (101+v1))).bind λ(F,v17)=> J (v17,0,F.tb,F.Ty,F.rq,F.Kl,F.zX,F.El,F.B4) else AC (τ:=tx×Int) (λK=> if (H==5) then
(AH v4 3).bind λ(Q,v20)=> K (v20,Q) else K (v4,0)
) λ(v21,v22)=> J (v21,v22,0,false,false,false,0,[],[])
) λ(v23,v24,v25,v26,v27,v28,v29,v30,v31)=> k9 (v23,0,v24,v25,v26,v27,v28,v29,v30,v31)
) λ(v32,v33,U,v35,v36,v37,V,v39,v40,v41)=> k6 (v32,(⟨H,(AG (101+v1)),v33,U,(⟨[],(⟨0,[],(⟨false,(0:j),(0:j)⟩:Addr),0,0,0,[],[],[]⟩:gH),[]⟩:zl),(⟨v35,v36,v37,V,v39,v40,v41⟩:tF)⟩:zO))
) λ(Y,Z)=> some (Z,Y)
def Ed (a0:tx):C (Ct×(O zO)×ur×tx):=
(Ea a0).bind λ(v1,v2)=>
(EH v1).bind λ(v3,v4)=>
(AH v2 24).bind λ(v5,v6)=> AC (τ:=tx×Ct×(O zO)) (λY=> Ad (σ:=Int×tx×Ct×(O zO)) (λF (v9,v10,v11,v12)=> AC (τ:=I×tx) (λH=> if (decide (v9>0)) then
(G4 v10).bind λ(M,P)=> H ((cond true M false),P) else H (false,v10)
) λ(Q,v17)=> if Q then
(EA v17 v11.ur).bind λ(J,U)=>
(EG v11 J).bind λ(v20,v21,v22)=> AC (τ:=Ct×(O zO)) (λK=> if (v22==0) then
(gO (α:=zO) 304 v12 ([J]:O zO)).bind λV=> K (v20,V) else K (v11,v12)
) λ(v25,v26)=> F ((AG (v9-1)),U,v25,v26) else Y (v17,v11,v12)
) xv ((AG (4+v5)),v6,v3,[])
) λ(v27,v28,v29)=> some (v28,v29,v1,v27)
def Hj (a0:JN):C Int:= some (if a0.zN.zT<a0.DE.zT then a0.zN.zT else a0.DE.zT)
def De (a0:O S)(a1:O S):C I:= some ((bs a0).toList==(bs a1).toList)
def C7 (a0:O gL):C (O gL):= AC (τ:=(O gL)) (λP=> AL (σ:=(O (Int×I))×(O gL)) (λ(v2,v3)=> P v3
) (λF (H:gL) i6 (v2,v3)=>
(some (Xdb (A1 v2 H.gE) false)).bind λQ=> AC (τ:=(O gL)) (λM=> if (!Q) then
(gO (α:=gL) 40 v3 ([H]:O gL)).bind λU=> M U else M v3
) λJ=> F ((A3 v2 H.gE true),J)
) a0 0 ([],[])
) λK=> some K
def BP (a0:Int):C I:= AC (τ:=I) (λF=>
(some (Xdb (A1 Oj a0) 0)).bind λv2=> if (v2==0) then if (cond true (a0 !=14) false) then F (cond true (a0 !=15) false) else F false else F false
) λH=> some H
def DJ (a0:gL):C I:= AC (τ:=I) (λF=>
(BP a0.gE).bind λv2=> if v2 then F (cond true ((AG ((Xa3 64 a0.Flags &&& Xa3 64 128).toNat:Int))==0) false) else F false
) λH=> some H
def F4:C gH:= some (⟨(-1),[],(⟨false,(0:j),(0:j)⟩:Addr),(-1),(-1),(-1),[],[],[]⟩:gH)
def A4 (a0:gL):C I:= AC (τ:=I) (λF=>
(some (Xdb (A1 Oj a0.gE) 0)).bind λv2=> if ((AG ((Xa3 64 (AG ((Xa3 64 a0.Flags ^^^ Xa3 64 v2).toNat:Int)) &&& Xa3 64 192).toNat:Int))==0) then
(some (Xdb (A1 Oj a0.gE) 0)).bind λH=> if (H==192) then F true else F (cond true (cond false true ((AG ((Xa3 64 a0.Flags &&& Xa3 64 32).toNat:Int))==0)) false) else F false
) λJ=> some J
def BW (a0:O S):C Int:= AC (τ:=Int) (λH=> AL (σ:=Int) (λv2=> H v2
) (λF (J:S) i5 v2=> F (AG ((Xa3 64 (AG (v2*(2^(min (Xa0 8) 64)))) ||| Xa3 64 (J.toNat:Int)).toNat:Int))
) a0 0 0
) λK=> some K
def Bl (a0:O S):C (O Int):= AC (τ:=(O Int)) (λH=> Ad (σ:=(O S)×(O Int)) (λF (v3,v4)=> if (decide ((v3.length:Int)≥4)) then
(part v3 0 4).bind λJ=>
(BW J).bind λK=>
(gO (α:=Int) 8 v4 ([K]:O Int)).bind λM=>
(part v3 4 (v3.length:Int)).bind λP=> F (P,M) else H v4
) xv (a0,[])
) λQ=> some Q
def BM (a0:O Int):C (O Int):= if (decide ((a0.length:Int)<2)) then some a0 else AC (τ:=Unit) (λk1=> Ad (σ:=Int) (λH F=> if (decide (F<(a0.length:Int))) then AC (τ:=Unit) (λk4=>
(gN a0 F).bind λv5=>
(gN a0 (AG (F-1))).bind λv6=> if (v5==v6) then
(Ch (0<=F/\F<=(a0.length:Int)/\(a0.length:Int)<=(a0.length:Int))).bind λ_=> AC (τ:=Int×(O Int)) (λk7=> Ad (σ:=Int×Int×(O Int)) (λJ (v9,v10,v11)=> if (decide (v10<(((Xa0 (a0.length:Int)-Xa0 F):Nat):Int))) then
(gN (Xb7 (Xa0 (a0.length:Int)-Xa0 F) (Xb8 (Xa0 F) v11)) v10).bind λM=>
(gN (Xb7 (Xa0 (a0.length:Int)-Xa0 F) (Xb8 (Xa0 F) v11)) (AG (v10-1))).bind λP=> AC (τ:=Int×(O Int)) (λK=> if (M !=P) then
(gN (Xb7 (Xa0 (a0.length:Int)-Xa0 F) (Xb8 (Xa0 F) v11)) v10).bind λQ=>
(gN v11 v9).bind λa6=>
(Bu v11 v9 Q).bind λU=> K ((AG (v9+1)),U) else K (v9,v11)
) λ(V,Y)=> J (V,(AG (v10+1)),Y) else k7 (v9,v11)
) xv (F,1,a0)
) λ(v20,v21)=>
(Ch (0<=v20/\v20<=(v21.length:Int)/\(v21.length:Int)<=(v21.length:Int))).bind λ_=>
(part (Xb7 (Xa0 v20) v21++Xaa (Xa0 (v21.length:Int)-Xa0 v20) 0++Xb8 ((Xa0 v20)+(Xa0 (v21.length:Int)-Xa0 v20)) v21) 0 v20).bind λZ=> some Z else k4 ()
) λ_=> H (AG (F+1)) else k1 ()
) xv 1
) λ_=> some a0
def Ei (a0:Int):C I:= AC (τ:=I) (λF=> if (decide (a0≥1)) then F (cond true (decide (a0<=4294967295)) false) else F false
) λv2=> some v2
def G3 (a0:O r8):C I:= AC (τ:=Int) (λk1=> AL (σ:=Int) (λv2=> k1 v2
) (λJ (K:r8) i5 v2=> AC (τ:=Unit) (λk6=> AC (τ:=I) (λQ=> if ((K.qv.length:Int)==0) then Q true else if (decide ((i5:Int)>0)) then if (cond true (!K.Set) false) then
(gN a0 (AG ((i5:Int)-1))).bind λv8=> Q (cond false true (cond true (!v8.Set) false)) else Q false else Q false
) λv9=> if v9 then some false else AC (τ:=Unit) (λU=> AL (σ:=Unit) (λ_=> U ()
) (λF (M:Int) P _=> AC (τ:=I) (λH=>
(Ei M).bind λV=> if (!V) then H true else if K.Set then if (cond true (decide ((P:Int)>0)) false) then
(gN K.qv (AG ((P:Int)-1))).bind λY=> H (cond false true (cond true (decide (Y≥M)) false)) else H false else H false
) λZ=> if Z then some false else F ()
) K.qv 0 ()
) λ_=> k6 ()
) λ_=> J (AG (v2+(K.qv.length:Int)))
) a0 0 0
) λa6=> some (decide (a6<=64))
def Au (a0:O S):C (Addr×Int):= AC (τ:=I) (λJ=> if ((a0.length:Int) !=4) then J (cond true ((a0.length:Int) !=16) false) else J false
) λv2=> if v2 then some ((⟨false,(0:j),(0:j)⟩:Addr),1) else AC (τ:=Addr) (λK=> AL (σ:=Addr) (λH=> K H
) (λF (M:S) i7 H=> F (⟨H.V6,(AZ ((Xa3 64 ((AZ ((H.Hi.toNat:Int)*(2^(min (Xa0 8) 64)))).toNat:Int) ||| Xa3 64 ((AZ (Xc4 (H.Lo.toNat:Int) (2^(min (Xa0 56) 64)))).toNat:Int)).toNat:Int)),(AZ ((Xa3 64 ((AZ ((H.Lo.toNat:Int)*(2^(min (Xa0 8) 64)))).toNat:Int) ||| Xa3 64 ((AZ (M.toNat:Int)).toNat:Int)).toNat:Int))⟩:Addr)
) a0 0 (⟨((a0.length:Int)==16),(0:j),(0:j)⟩:Addr)
) λP=> some (P,0)
def Aj (a0:O oF):C (O oF):= if (decide ((a0.length:Int)<2)) then some a0 else AC (τ:=Unit) (λk1=> Ad (σ:=Int) (λH F=> if (decide (F<(a0.length:Int))) then AC (τ:=Unit) (λk4=>
(gN a0 F).bind λv5=>
(gN a0 (AG (F-1))).bind λv6=> if (oF.zn v5 v6) then
(Ch (0<=F/\F<=(a0.length:Int)/\(a0.length:Int)<=(a0.length:Int))).bind λ_=> AC (τ:=Int×(O oF)) (λk7=> Ad (σ:=Int×Int×(O oF)) (λJ (v9,v10,v11)=> if (decide (v10<(((Xa0 (a0.length:Int)-Xa0 F):Nat):Int))) then
(gN (Xb7 (Xa0 (a0.length:Int)-Xa0 F) (Xb8 (Xa0 F) v11)) v10).bind λM=>
(gN (Xb7 (Xa0 (a0.length:Int)-Xa0 F) (Xb8 (Xa0 F) v11)) (AG (v10-1))).bind λP=> AC (τ:=Int×(O oF)) (λK=> if (!(oF.zn M P)) then
(gN (Xb7 (Xa0 (a0.length:Int)-Xa0 F) (Xb8 (Xa0 F) v11)) v10).bind λQ=>
(gN v11 v9).bind λa6=>
(Bu v11 v9 Q).bind λU=> K ((AG (v9+1)),U) else K (v9,v11)
) λ(V,Y)=> J (V,(AG (v10+1)),Y) else k7 (v9,v11)
) xv (F,1,a0)
) λ(v20,v21)=>
(Ch (0<=v20/\v20<=(v21.length:Int)/\(v21.length:Int)<=(v21.length:Int))).bind λ_=>
(part (Xb7 (Xa0 v20) v21++Xaa (Xa0 (v21.length:Int)-Xa0 v20) (⟨0,0⟩:oF)++Xb8 ((Xa0 v20)+(Xa0 (v21.length:Int)-Xa0 v20)) v21) 0 v20).bind λZ=> some Z else k4 ()
) λ_=> H (AG (F+1)) else k1 ()
) xv 1
) λ_=> some a0
def cmp_isNaN_int (a0:Int):C I:= some (a0 !=a0)
def tS (a0:Int)(a1:Int):C Int:=
(cmp_isNaN_int a0).bind λv1=>
(cmp_isNaN_int a1).bind λv2=> if v1 then if v2 then some 0 else some (-1) else if v2 then some 1 else if (decide (a0<a1)) then some (-1) else if (decide (a0>a1)) then some 1 else some 0
def FC (a0:O Int):C Int:= AC (τ:=Unit) (λJ=> AL (σ:=Unit) (λ_=> J ()
) (λF (H:Int) i4 _=> if (H !=0) then some H else F ()
) a0 0 ()
) λ_=> some 0
def BD (a0:oF)(a1:oF):C Int:=
(tS a0.A a1.A).bind λv1=>
(tS a0.B a1.B).bind λv2=>
(FC ([v1,v2]:O Int)).bind λF=> some F
def DU (a0:O Int):C Int:= if (decide ((a0.length:Int)<1)) then none else
(gN a0 0).bind λv1=> AC (τ:=Int) (λJ=> Ad (σ:=Int×Int) (λF (v4,v5)=> if (decide (v5<(a0.length:Int))) then
(gN a0 v5).bind λH=> F ((if H<v4 then H else v4),(AG (v5+1))) else J v4
) xv (v1,1)
) λK=> some K
def DX (a0:O Int):C Int:= if (decide ((a0.length:Int)<1)) then none else
(gN a0 0).bind λv1=> AC (τ:=Int) (λJ=> Ad (σ:=Int×Int) (λF (v4,v5)=> if (decide (v5<(a0.length:Int))) then
(gN a0 v5).bind λH=> F ((if H>v4 then H else v4),(AG (v5+1))) else J v4
) xv (v1,1)
) λK=> some K
def DC (a0:Int)(a1:O Int):C I:= AC (τ:=I) (λF=>
(DU a1).bind λv2=> if (decide (v2≥0)) then
(DX a1).bind λH=> F (cond true (decide (H<=a0)) false) else F false
) λJ=> some J
def E8 (a0:oF):C I:=
(DC 65535 ([a0.A,a0.B]:O Int)).bind λv1=> some v1
def Do (a0:oF)(a1:oF):C Int:=
(tS a0.A a1.A).bind λv1=>
(tS a0.B a1.B).bind λv2=>
(FC ([v1,v2]:O Int)).bind λF=> some F
def AW (a0:O oF):C I:= AC (τ:=Unit) (λM=> AL (σ:=Unit) (λ_=> M ()
) (λF (J:oF) K _=> AC (τ:=I) (λH=>
(E8 J).bind λP=> if (!P) then H true else if (decide ((K:Int)>0)) then
(gN a0 (AG ((K:Int)-1))).bind λQ=>
(Do Q J).bind λU=> H (cond false true (cond true (decide (U≥0)) false)) else H false
) λV=> if V then some false else F ()
) a0 0 ()
) λ_=> some (decide ((a0.length:Int)<=64))
def EX (a0:O oF):C I:=
(AW a0).bind λv1=> some v1
def Aw (a0:O iX):C (O iX):= if (decide ((a0.length:Int)<2)) then some a0 else AC (τ:=Unit) (λk1=> Ad (σ:=Int) (λH F=> if (decide (F<(a0.length:Int))) then AC (τ:=Unit) (λk4=>
(gN a0 F).bind λv5=>
(gN a0 (AG (F-1))).bind λv6=> if (iX.zn v5 v6) then
(Ch (0<=F/\F<=(a0.length:Int)/\(a0.length:Int)<=(a0.length:Int))).bind λ_=> AC (τ:=Int×(O iX)) (λk7=> Ad (σ:=Int×Int×(O iX)) (λJ (v9,v10,v11)=> if (decide (v10<(((Xa0 (a0.length:Int)-Xa0 F):Nat):Int))) then
(gN (Xb7 (Xa0 (a0.length:Int)-Xa0 F) (Xb8 (Xa0 F) v11)) v10).bind λM=>
(gN (Xb7 (Xa0 (a0.length:Int)-Xa0 F) (Xb8 (Xa0 F) v11)) (AG (v10-1))).bind λP=> AC (τ:=Int×(O iX)) (λK=> if (!(iX.zn M P)) then
(gN (Xb7 (Xa0 (a0.length:Int)-Xa0 F) (Xb8 (Xa0 F) v11)) v10).bind λQ=>
(gN v11 v9).bind λa6=>
(Bu v11 v9 Q).bind λU=> K ((AG (v9+1)),U) else K (v9,v11)
) λ(V,Y)=> J (V,(AG (v10+1)),Y) else k7 (v9,v11)
) xv (F,1,a0)
) λ(v20,v21)=>
(Ch (0<=v20/\v20<=(v21.length:Int)/\(v21.length:Int)<=(v21.length:Int))).bind λ_=>
(part (Xb7 (Xa0 v20) v21++Xaa (Xa0 (v21.length:Int)-Xa0 v20) (⟨0,0,0⟩:iX)++Xb8 ((Xa0 v20)+(Xa0 (v21.length:Int)-Xa0 v20)) v21) 0 v20).bind λZ=> some Z else k4 ()
) λ_=> H (AG (F+1)) else k1 ()
) xv 1
) λ_=> some a0
def B0 (a0:iX)(a1:iX):Option Int:=
(tS a0.A a1.A).bind λv1=>
(tS a0.B a1.B).bind λv2=>
(tS a0.C a1.C).bind λF=>
(FC ([v1,v2,F]:O Int)).bind λH=> some H
def Cm (a0:iX):Option I:=
(DC 4294967295 ([a0.A,a0.B,a0.C]:O Int)).bind λv1=> some v1
def Bn (a0:iX)(a1:iX):Option Int:=
(tS a0.A a1.A).bind λv1=>
(tS a0.B a1.B).bind λv2=>
(tS a0.C a1.C).bind λF=>
(FC ([v1,v2,F]:O Int)).bind λH=> some H
def AT (a0:O iX):C I:= AC (τ:=Unit) (λM=> AL (σ:=Unit) (λ_=> M ()
) (λF (J:iX) K _=> AC (τ:=I) (λH=>
(Cm J).bind λP=> if (!P) then H true else if (decide ((K:Int)>0)) then
(gN a0 (AG ((K:Int)-1))).bind λQ=>
(Bn Q J).bind λU=> H (cond false true (cond true (decide (U≥0)) false)) else H false
) λV=> if V then some false else F ()
) a0 0 ()
) λ_=> some (decide ((a0.length:Int)<=64))
def CU (a0:O iX):C I:=
(AT a0).bind λv1=> some v1
def CE (a0:Int)(a1:Int)(H:Int):C I:= AC (τ:=I) (λF=> if (decide (a0≥a1)) then F (cond true (decide (a0<=H)) false) else F false
) λv2=> some v2
def Bo (a0:O S):C (O S):=
(gO (α:=S) 1 ([]:O S) a0).bind λv1=> some v1
def DI (a0:gL)(a1:gL):C Int:=
(tS a0.gE a1.gE).bind λv1=> some v1
def Aq (a0:O gL):C Int:= AC (τ:=Unit) (λH=> AL (σ:=Unit) (λ_=> H ()
) (λF (J:gL) K _=>
(DJ J).bind λM=> if M then some (K:Int) else F ()
) a0 0 ()
) λ_=> some (-1)
def Ab (a0:O gL):C I:=
(Aq a0).bind λv1=> some (decide (v1≥0))
def FK {ρ:Type}(F:C ρ)(ab:Int×I×j×j×Int×Int×Int×(O r8)×(O oF)×(O iX)->C ρ)(H:gL):Int×I×j×j×Int×Int×Int×(O r8)×(O oF)×(O iX)->C ρ:=λ(v6,v7,v8,v9,v10,v11,v12,J,P,K)=> AC (τ:=Int×I×j×j×Int×Int×Int×(O r8)×(O oF)×(O iX)) (λQ=> if (H.gE==1) then AC (τ:=I×Int) (λaz=>
(A4 H).bind λdt=> if (!dt) then az (true,v6) else AC (τ:=I×Int) (λdu=>
(BW H.Data).bind λba=> AC (τ:=I) (λbb=> if ((H.Data.length:Int)==1) then bb (cond true (decide (ba<=2)) false) else bb false
) λdv=> du (dv,ba)
) λ(v26,v27)=> az ((cond true (cond false true (!v26)) false),v27)
) λ(v28,v29)=> if v28 then F else Q (v29,v7,v8,v9,v10,v11,v12,J,P,K) else if (H.gE==2) then AC (τ:=I×(O r8)) (λbc=>
(A4 H).bind λdx=> if (!dx) then bc (true,J) else AC (τ:=I×(O r8)) (λbd=> AC (τ:=(O r8)) (λdy=>
(Ch (J=[])).bind λ_=> Ad (σ:=(O S)×(O r8)×Nat×(O Int)) (λae (v35,v36,v37,dz)=> if (decide ((v35.length:Int)>0)) then AC (τ:=I) (λU=> if (decide ((v35.length:Int)<2)) then U true else
(gN v35 0).bind λe5=> if ((e5.toNat:Int) !=1) then
(gN v35 0).bind λe6=> if (cond false true (cond true ((e6.toNat:Int) !=2) false)) then U true else
(gN v35 1).bind λe7=> if (cond false true (decide ((v35.length:Int)<(AG (2+(AG (4*(e7.toNat:Int)))))))) then U true else
(gN v35 1).bind λe8=> U (cond false true ((e8.toNat:Int)==0)) else
(gN v35 1).bind λe9=> if (cond false true (decide ((v35.length:Int)<(AG (2+(AG (4*(e9.toNat:Int)))))))) then U true else
(gN v35 1).bind λea=> U (cond false true ((ea.toNat:Int)==0))
) λeb=> if eb then bd (false,v36) else
(gN v35 1).bind λbe=>
(gN v35 0).bind λau=>
(part v35 2 (AG (2+(AG (4*(be.toNat:Int)))))).bind λec=>
(Bl ec).bind λbf=>
(part v35 (AG (2+(AG (4*(be.toNat:Int))))) (v35.length:Int)).bind λef=> AC (τ:=(O Int)) (λbg=> if ((au.toNat:Int)==1) then
(NQ bf).bind λeg=>
(BM eg).bind λeh=> bg eh else bg bf
) λax=> AC (τ:=I) (λay=> if (decide ((AG ((v36.length:Int)-1))≥0)) then if (cond true (!((au.toNat:Int)==1)) false) then
(gN v36 (AG ((v36.length:Int)-1))).bind λei=> ay (cond true (!ei.Set) false) else ay false else ay false
) λej=> AC (τ:=(O r8)×Nat×(O Int)) (λbh=> if ej then
(gN v36 (AG ((v36.length:Int)-1))).bind λfp=>
(Ch (Xa0 (AG ((v36.length:Int)-1))=v37)).bind λ_=>
(gO (α:=Int) 8 dz ax).bind λbi=>
(gN v36 (AG ((v36.length:Int)-1))).bind λek=>
(Bu v36 (AG ((v36.length:Int)-1)) (⟨ek.Set,bi⟩:r8)).bind λen=> bh (en,(Xa0 (AG ((v36.length:Int)-1))),bi) else
(gO (α:=r8) 32 v36 ([(⟨((au.toNat:Int)==1),ax⟩:r8)]:O r8)).bind λeo=> bh (eo,((Xa5 r8.cW v36).length+0),ax)
) λ(ep,v66,v67)=> ae (ef,ep,v66,v67) else dy v36
) xv (H.Data,J,0,[])
) λbj=>
(G3 bj).bind λer=> bd (er,bj)
) λ(v70,et)=> bc ((cond true (cond false true (!v70)) false),et)
) λ(v72,eu)=> if v72 then F else Q (v6,v7,v8,v9,v10,v11,v12,eu,P,K) else if (H.gE==3) then AC (τ:=I×I×j×j) (λbk=>
(A4 H).bind λev=> if (!ev) then bk (true,v7,v8,v9) else AC (τ:=I×j×j) (λew=>
(Au H.Data).bind λ(v77,v78)=> ew (v77.V6,v77.Hi,v77.Lo)
) λ(v79,v80,ey)=> bk ((cond true (cond false true (!((H.Data.length:Int)==4))) false),v79,v80,ey)
) λ(v82,ez,fa,v85)=> if v82 then F else Q (v6,ez,fa,v85,v10,v11,v12,J,P,K) else if (H.gE==4) then AC (τ:=I×Int) (λbl=>
(A4 H).bind λfb=> if (!fb) then bl (true,v10) else AC (τ:=Int) (λfc=> AC (τ:=Int) (λfe=>
(BW H.Data).bind λff=> fe ff
) λfg=> fc fg
) λfh=> bl ((cond true (cond false true (!((H.Data.length:Int)==4))) false),fh)
) λ(v93,fi)=> if v93 then F else Q (v6,v7,v8,v9,fi,v11,v12,J,P,K) else if (H.gE==5) then AC (τ:=I×Int) (λbm=>
(A4 H).bind λfj=> if (!fj) then bm (true,v11) else AC (τ:=Int) (λfk=> AC (τ:=Int) (λfm=>
(BW H.Data).bind λfo=> fm fo
) λbn=> fk bn
) λbo=> bm ((cond true (cond false true (!((H.Data.length:Int)==4))) false),bo)
) λ(bp,bq)=> if bp then F else Q (v6,v7,v8,v9,v10,bq,v12,J,P,K) else if (H.gE==8) then AC (τ:=I×(O oF)) (λaf=>
(A4 H).bind λbr=> if (!br) then af (true,P) else AC (τ:=I×(O oF)) (λbu=>
(Bl H.Data).bind λbw=> AC (τ:=(O oF)) (λbx=> AL (σ:=(O oF)) (λV=> bx V
) (λY (ag:Int) i112 V=>
(gO (α:=oF) 16 V ([(⟨(Xc4 ag (2^(min (Xa0 16) 64))),(AG ((Xa3 64 ag &&& Xa3 64 65535).toNat:Int))⟩:oF)]:O oF)).bind λbz=> Y bz
) bw 0 []
) λZ=> AC (τ:=I×(O oF)) (λc0=> AC (τ:=I) (λah=> if (decide ((Z.length:Int)>0)) then ah (cond true (decide ((Z.length:Int)<=64)) false) else ah false
) λc3=>
(Gf BD Z).bind λc4=>
(Aj c4).bind λc5=> c0 (c3,c5)
) λ(c6,ai)=> AC (τ:=I) (λa6=> if c6 then if (cond true ((Xes (H.Data.length:Int) 4)==0) false) then
(EX ai).bind λc7=> a6 (cond true c7 false) else a6 false else a6 false
) λc8=> bu (c8,ai)
) λ(c9,ca)=> af ((cond true (cond false true (!c9)) false),ca)
) λ(v127,cb)=> if v127 then F else Q (v6,v7,v8,v9,v10,v11,v12,J,cb,K) else if (H.gE==32) then AC (τ:=I×(O iX)) (λaj=>
(A4 H).bind λcc=> if (!cc) then aj (true,K) else AC (τ:=I×(O iX)) (λak=> if ((Xes (H.Data.length:Int) 12) !=0) then ak (false,K) else
(Bl H.Data).bind λcd=> AC (τ:=(O iX)) (λcf=> Ad (σ:=(O iX)×(O Int)) (λa7 (al,M)=> if (decide ((M.length:Int)>0)) then
(gN M 0).bind λcg=>
(gN M 1).bind λch=>
(gN M 2).bind λcj=>
(gO (α:=iX) 24 al ([(⟨cg,ch,cj⟩:iX)]:O iX)).bind λck=>
(part M 3 (M.length:Int)).bind λcm=> a7 (ck,cm) else cf al
) xv ([],cd)
) λa8=> AC (τ:=I×(O iX)) (λcn=> AC (τ:=I) (λan=> if (decide ((a8.length:Int)>0)) then an (cond true (decide ((a8.length:Int)<=64)) false) else an false
) λcp=>
(Gf B0 a8).bind λcq=>
(Aw cq).bind λcs=> cn (cp,cs)
) λ(v148,ao)=> AC (τ:=I) (λap=> if v148 then
(CU ao).bind λct=> ap (cond true ct false) else ap false
) λcu=> ak (cu,ao)
) λ(cv,v154)=> aj ((cond true (cond false true (!cv)) false),v154)
) λ(cx,cy)=> if cx then F else Q (v6,v7,v8,v9,v10,v11,v12,J,P,cy) else if (H.gE==35) then AC (τ:=I×Int) (λaq=>
(A4 H).bind λcz=> if (!cz) then aq (true,v12) else AC (τ:=I×Int) (λda=> AC (τ:=I×Int) (λar=> AC (τ:=Int) (λdb=>
(BW H.Data).bind λdc=> db dc
) λaa=> if ((H.Data.length:Int)==4) then
(Ei aa).bind λde=> ar ((cond true de false),aa) else ar (false,aa)
) λ(dg,dh)=> da (dg,dh)
) λ(v167,v168)=> aq ((cond true (cond false true (!v167)) false),v168)
) λ(di,dj)=> if di then F else Q (v6,v7,v8,v9,v10,v11,dj,J,P,K) else Q (v6,v7,v8,v9,v10,v11,v12,J,P,K)
) λ(v171,dk,v173,dl,v175,dm,dn,dp,dq,ds)=> ab (v171,dk,v173,dl,v175,dm,dn,dp,dq,ds)
def D4 (a0:O gL):C (gH×Int):=
(C7 a0).bind λv1=>
(Ab v1).bind λv2=> if v2 then some ((⟨0,[],(⟨false,(0:j),(0:j)⟩:Addr),0,0,0,[],[],[]⟩:gH),12) else AC (τ:=Int×I×j×j×Int×Int×Int×I×(O r8)×(O oF)×(O iX)) (λk3=> AC (τ:=Unit) (λk4=> k4 ()
) λ_=> AC (τ:=Int×I×j×j×Int×Int×Int×(O r8)×(O oF)×(O iX)) (λk5=> AL (σ:=Int×I×j×j×Int×Int×Int×(O r8)×(O oF)×(O iX)) (λ(v6,v7,v8,v9,v10,v11,v12,au,ax,ay)=> k5 (v6,v7,v8,v9,v10,v11,v12,au,ax,ay)
) (λM (az:gL) i18 s=>FK (k3 (0,false,(0:j),(0:j),0,0,0,false,[],[],[])) M az s
) v1 0 ((-1),false,(0:j),(0:j),(-1),(-1),(-1),[],[],[])
) λ(U,v182,v183,V,Y,Z,a6,a7,a8,aa)=> k3 (U,v182,v183,V,Y,Z,a6,true,a7,a8,aa)
) λ(ab,ae,v193,v194,af,v196,ag,v198,ah,ai,v201)=> if (!v198) then some ((⟨0,[],(⟨false,(0:j),(0:j)⟩:Addr),0,0,0,[],[],[]⟩:gH),13) else AC (τ:=(O gL)) (λaj=> AL (σ:=(O gL)) (λH=> aj H
) (λK (F:gL) i206 H=> AC (τ:=I) (λJ=>
(BP F.gE).bind λak=> if ak then
(CE F.gE 1 255).bind λal=> if (cond true al false) then if (cond true ((AG ((Xa3 64 F.Flags &&& Xa3 64 64).toNat:Int)) !=0) false) then J (cond true (decide ((F.Data.length:Int)<=255)) false) else J false else J false else J false
) λan=> AC (τ:=(O gL)) (λP=> if an then
(Bo F.Data).bind λao=>
(gO (α:=gL) 40 H ([(⟨224,F.gE,ao⟩:gL)]:O gL)).bind λap=> P ap else P H
) λaq=> K aq
) v1 0 []
) λQ=> if (decide ((Q.length:Int)>8)) then some ((⟨0,[],(⟨false,(0:j),(0:j)⟩:Addr),0,0,0,[],[],[]⟩:gH),3) else
(Gf DI Q).bind λar=> some ((⟨ab,ah,(⟨ae,v193,v194⟩:Addr),af,v196,ag,ai,v201,ar⟩:gH),0)
def E3 (a0:O S):C Int:=
(gN a0 0).bind λv1=>
(gN a0 1).bind λv2=> some (AG ((Xa3 64 (AG ((v1.toNat:Int)*(2^(min (Xa0 8) 64)))) ||| Xa3 64 (v2.toNat:Int)).toNat:Int))
def HH (a0:O S):C ((O S)×(O S)×I):= AC (τ:=I) (λF=> if (decide ((a0.length:Int)<2)) then F true else
(E3 a0).bind λv2=> F (cond false true (decide ((AG ((a0.length:Int)-2))<v2)))
) λJ=> if J then some ([],[],false) else
(E3 a0).bind λH=>
(part a0 2 (AG (2+H))).bind λK=>
(part a0 (AG (2+H)) (a0.length:Int)).bind λM=> some (K,M,true)
def Ef (a0:O S):C ((O gL)×Int):= AC (τ:=(O gL)) (λk1=> Ad (σ:=(O S)×(O gL)) (λF (v3,v4)=> if (decide ((v3.length:Int)>0)) then
(gN v3 0).bind λv5=> AC (τ:=Int) (λk6=> if (((Ak ((Xa3 8 (v5.toNat:Int) &&& Xa3 8 16).toNat:Int)).toNat:Int) !=0) then k6 4 else k6 3
) λH=> AC (τ:=I) (λk8=> if (decide ((v3.length:Int)<H)) then k8 true else
(part v3 2 H).bind λv9=>
(BW v9).bind λM=> k8 (cond false true (decide ((AG ((v3.length:Int)-H))<M)))
) λP=> if P then some ([],12) else
(part v3 2 H).bind λQ=>
(BW Q).bind λJ=>
(gN v3 0).bind λU=>
(gN v3 1).bind λV=>
(part v3 H (AG (H+J))).bind λK=>
(gO (α:=S) 1 [] K).bind λ_=>
(gO (α:=gL) 40 v4 ([(⟨((Ak ((Xa3 8 (U.toNat:Int) &&& Xa3 8 224).toNat:Int)).toNat:Int),(V.toNat:Int),K⟩:gL)]:O gL)).bind λY=>
(part v3 (AG (H+J)) (v3.length:Int)).bind λZ=> F (Z,Y) else k1 v4
) xv (a0,[])
) λa6=> some (a6,0)
def Ii (a0:Addr):C I:= AC (τ:=I) (λF=> if a0.V6 then F true else if ((a0.Hi.toNat:Int)==0) then F (cond false true (cond true (decide ((a0.Lo.toNat:Int)<4294967296)) false)) else F false
) λv2=> some v2
def CG (a0:Addr):C Int:= if a0.V6 then some 128 else some 32
def FS (a0:Int):C (j×j):= if (decide (a0>64)) then some ((AZ (((AZ (1*(2^(min (Xa0 ((AZ (AG (a0-64))).toNat:Int)) 64)))).toNat:Int)-1)),(18446744073709551615:j)) else some ((0:j),(AZ (((AZ (1*(2^(min (Xa0 ((AZ a0).toNat:Int)) 64)))).toNat:Int)-1)))
def EP (a0:Addr)(a1:Int):C Addr:=
(CG a0).bind λv1=>
(FS (AG (v1-a1))).bind λ(v2,v3)=> some (⟨a0.V6,(AZ ((Xa3 64 (a0.Hi.toNat:Int) &&& ~~~Xa3 64 (v2.toNat:Int)).toNat:Int)),(AZ ((Xa3 64 (a0.Lo.toNat:Int) &&& ~~~Xa3 64 (v3.toNat:Int)).toNat:Int))⟩:Addr)
def H4 (a0:Addr)(a1:Int):C (fI×Int):=
(Ii a0).bind λv1=> if (!v1) then some ((⟨(⟨false,(0:j),(0:j)⟩:Addr),0⟩:fI),1) else AC (τ:=I) (λF=> if (decide (a1<0)) then F true else
(CG a0).bind λH=> F (cond false true (decide (a1>H)))
) λJ=> if J then some ((⟨(⟨false,(0:j),(0:j)⟩:Addr),0⟩:fI),9) else
(EP a0 a1).bind λK=> some ((⟨K,a1⟩:fI),0)
def BY (a0:O S)(a1:I):C ((O fI)×I):= AC (τ:=Int) (λU=> if a1 then U 128 else U 32
) λv2=> AC (τ:=(O fI)) (λY=> Ad (σ:=(O S)×(O fI)) (λF (v5,v6)=> if (decide ((v5.length:Int)>0)) then
(gN v5 0).bind λH=> AC (τ:=I) (λV=> if (decide ((H.toNat:Int)>v2)) then V true else V (cond false true (decide ((v5.length:Int)<(AG (1+(AG (Xd7 (AG ((H.toNat:Int)+7)) 8)))))))
) λZ=> if Z then some ([],false) else
(Ch (0<=(AG (Xd7 v2 8))/\(AG (Xd7 v2 8))<=(AG (Xd7 v2 8))/\(AG (Xd7 v2 8))<=1048576)).bind λ_=>
(part v5 1 (AG (1+(AG (Xd7 (AG ((H.toNat:Int)+7)) 8))))).bind λJ=>
(Au (Qt (Xaa (Xa0 (AG (Xd7 v2 8))) (0:S)) 0 (Xaa (Xa0 (AG (Xd7 v2 8))) (0:S)).length J)).bind λ(v11,v12)=>
(H4 v11 (H.toNat:Int)).bind λ(K,a6)=>
(gO (α:=fI) 32 v6 ([K]:O fI)).bind λM=>
(part v5 (AG (1+(AG (Xd7 (AG ((H.toNat:Int)+7)) 8)))) (v5.length:Int)).bind λP=> F (P,M) else Y v6
) xv (a0,[])
) λQ=> some (Q,true)
def Cp (a0:O S)(a1:O S):C I:= AC (τ:=I) (λF=> if (decide ((a0.length:Int)≥(a1.length:Int))) then
(part a0 0 (a1.length:Int)).bind λv2=>
(De v2 a1).bind λH=> F (cond true H false) else F false
) λJ=> some J
def Cq (a0:O S)(a1:O S):C ((O S)×I):=
(Cp a0 a1).bind λv1=> if (!v1) then some (a0,false) else
(part a0 (a1.length:Int) (a0.length:Int)).bind λv2=> some (v2,true)
def CJ (a0:Er):C (I×Er):= AC (τ:=Er×(O (Int×Int))) (λk1=> AL (σ:=Er×(O (Int×Int))) (λ(v2,v3)=> k1 (v2,v3)
) (λH (K:gL) i6 (v2,v3)=>
(some (Xdb (A1 v3 K.gE) 0)).bind λv7=>
(Cq K.Data ([(0:S),(2:S),(1:S)]:O S)).bind λ(J,v9)=> AC (τ:=I×Er) (λM=> if (K.gE==14) then AC (τ:=I) (λF=> if (!v9) then F true else if (cond false true (decide ((J.length:Int)<18))) then F true else
(gN J 0).bind λV=> if (cond false true ((V.toNat:Int) !=16)) then F true else
(gN J 17).bind λY=> F (cond false true ((Y.toNat:Int) !=0))
) λZ=> if Z then some (false,v2) else
(part J 1 17).bind λa6=>
(Au a6).bind λ(a7,v17)=>
(part J 18 (J.length:Int)).bind λa8=>
(BY a8 true).bind λ(aa,v20)=> M (v20,{ v2 with next:=a7,F0:=aa }) else AC (τ:=I×(O fI)) (λP=> if (K.gE==15) then AC (τ:=I×(O fI)) (λQ=> if v9 then
(BY J true).bind λ(v23,v24)=> Q (v24,v23) else Q (v9,v2.CD)
) λ(v25,v26)=> P (v25,v26) else P (true,v2.CD)
) λ(v27,v28)=> M (v27,{ v2 with CD:=v28 })
) λ(v29,v30)=> if (!v29) then some (false,v30) else H (v30,(A3 v3 K.gE (AG (v7+1))))
) a0.zY 0 (a0,[])
) λ(v31,v32)=> AC (τ:=I) (λU=>
(some (Xdb (A1 v32 14) 0)).bind λab=> if (decide (ab<2)) then
(some (Xdb (A1 v32 15) 0)).bind λae=> U (cond true (decide (ae<2)) false) else U false
) λaf=> some (af,v31)
def BQ (a0:Er)(a1:O S):C (I×Er):=
(HH a1).bind λ(v1,v2,v3)=> if (!v3) then some (false,a0) else
(HH v2).bind λ(v4,v5,v6)=> if (!v6) then some (false,a0) else
(Ef v4).bind λ(Q,V)=> AC (τ:=I×Er) (λU=> if (V !=0) then U (true,{ a0 with zY:=Q }) else
(CJ ({ a0 with zY:=Q })).bind λ(v10,v11)=> U ((cond false true (!v10)),v11)
) λ(v12,F)=> if v12 then some (false,F) else
(BY v1 false).bind λ(K,M)=>
(BY v5 false).bind λ(J,v17)=> AC (τ:=I) (λH=> if (!M) then H true else if (cond false true (!v17)) then H true else if (decide ((J.length:Int)>0)) then if (cond false true (cond true (decide ((F.F0.length:Int)>0)) false)) then H true else if (cond false true (decide ((AG ((K.length:Int)+(F.CD.length:Int)))>256))) then H true else H (cond false true (decide ((AG ((J.length:Int)+(F.F0.length:Int)))>256))) else if (cond false true (decide ((AG ((K.length:Int)+(F.CD.length:Int)))>256))) then H true else H (cond false true (decide ((AG ((J.length:Int)+(F.F0.length:Int)))>256)))
) λP=> if P then some (false,{ F with Fy:=K,Kj:=J }) else
(D4 F.zY).bind λ(v20,v21)=> some ((v21 !=12),{ F with Fy:=K,Kj:=J })
def CO (a0:gL)(a1:Int):C (I×Int):= some ((a0.gE==a1),a1)
def Aa (a0:O gL)(H:Int):C (Int×Int):= AC (τ:=Int) (λK=> AL (σ:=Int) (λv2=> K v2
) (λF (M:gL) P v2=>
(CO M v2).bind λ(v6,J)=> if v6 then some ((P:Int),J) else F J
) a0 0 H
) λQ=> some ((-1),Q)
def AY (a0:O gL)(F:Int):C (I×Int):=
(Aa a0 F).bind λ(v1,v2)=> some ((decide (v1≥0)),v2)
def Bc (a0:Er)(a1:Int):C (I×Er):=
(AY a0.zY a1).bind λ(v1,v2)=> some (v1,a0)
def IG (a0:O S):C (I×I):=
(Ch (0<=(4:Int)/\(4:Int)<=4/\(4:Int)<=1048576)).bind λ_=>
(De a0 (Xaa (Xa0 4) (0:S))).bind λv1=> if v1 then some (true,false) else AC (τ:=I) (λF=>
(BQ (⟨[],(⟨false,(0:j),(0:j)⟩:Addr),[],[],[],[]⟩:Er) a0).bind λ(v3,v4)=> if (!v3) then F true else
(part a0 2 (a0.length:Int)).bind λJ=>
(E3 J).bind λK=> if (cond false true ((a0.length:Int) !=(AG (4+K)))) then F true else if (cond false true ((v4.zY.length:Int) !=1)) then F true else
(Bc v4 15).bind λ(M,P)=> if (cond false true (!M)) then F true else
(E3 a0).bind λQ=> if (cond false true (Q !=0)) then F true else F (cond false true (decide ((P.CD.length:Int)>0)))
) λH=> if H then some (false,false) else some (true,true)
def An (a0:O (O fI)):C (O fI):= AC (τ:=Int) (λk1=> AL (σ:=Int) (λv2=> k1 v2
) (λH (Y:O fI) i5 v2=> if (decide ((AG (v2+(Y.length:Int)))<0)) then none else H (AG (v2+(Y.length:Int)))
) a0 0 0
) λK=> AC (τ:=(O fI)) (λk7=> if (decide (K<0)) then none else AC (τ:=(O fI)) (λZ=> if (decide ((AG (K-(AG (0-0))))>0)) then
(Ch (0<(AG (K-(AG (0-0))))/\(AG (K-(AG (0-0))))<=1048576)).bind λ_=>
(part (Xaa (Xa0 (AG (K-(AG (0-0))))) (⟨(⟨false,(0:j),(0:j)⟩:Addr),0⟩:fI)) 0 0).bind λv9=> Z v9 else Z []
) λM=> k7 M
) λP=> AC (τ:=(O fI)) (λQ=> AL (σ:=(O fI)) (λJ=> Q J
) (λF (LB:O fI) i16 J=>
(gO (α:=fI) 32 J LB).bind λU=> F U
) a0 0 P
) λV=> some V
def BV (a0:gL):C I:= AC (τ:=I) (λF=> if (a0.gE==14) then F (cond true ((AG ((Xa3 64 a0.Flags &&& Xa3 64 192).toNat:Int)) !=128) false) else if (cond false true (a0.gE==15)) then F (cond true ((AG ((Xa3 64 a0.Flags &&& Xa3 64 192).toNat:Int)) !=128) false) else F false
) λv2=> some v2
def Ah (a0:O gL):C Int:= AC (τ:=Unit) (λH=> AL (σ:=Unit) (λ_=> H ()
) (λF (J:gL) K _=>
(BV J).bind λM=> if M then some (K:Int) else F ()
) a0 0 ()
) λ_=> some (-1)
def AU (a0:O gL):C I:=
(Ah a0).bind λv1=> some (decide (v1≥0))
def Ce (a0:Er)(a1:gH)(H:Int):C (I×Er):= AC (τ:=I×Er) (λF=> if (H !=0) then F (true,a0) else
(AU a0.zY).bind λv2=> if (cond false true v2) then F (true,a0) else
(Bc a0 1).bind λ(v3,v4)=> if (cond false true (!v3)) then F (true,v4) else
(Bc v4 2).bind λ(v5,v6)=> if (cond false true (!v5)) then F (true,v6) else if (decide ((v6.Kj.length:Int)>0)) then F ((cond false true (cond true (Addr.zn a1.Next (⟨false,(0:j),(0:j)⟩:Addr)) false)),v6) else F (false,v6)
) λ(J,K)=> some (J,K)
def Fj (a0:O S):C (zl×Int):=
(BQ (⟨[],(⟨false,(0:j),(0:j)⟩:Addr),[],[],[],[]⟩:Er) a0).bind λ(v1,v2)=> if (!v1) then some ((⟨[],(⟨0,[],(⟨false,(0:j),(0:j)⟩:Addr),0,0,0,[],[],[]⟩:gH),[]⟩:zl),12) else
(An ([v2.Fy,v2.CD]:O (O fI))).bind λH=>
(F4).bind λP=>
(An ([v2.Kj,v2.F0]:O (O fI))).bind λJ=> if ((J.length:Int)==0) then some ((⟨H,P,[]⟩:zl),0) else
(D4 v2.zY).bind λ(v6,Q)=>
(Ce v2 v6 Q).bind λ(U,v9)=> if U then
(gO (α:=fI) 32 H J).bind λK=> some ((⟨K,P,[]⟩:zl),13) else AC (τ:=gH) (λF=> if (decide ((v9.F0.length:Int)>0)) then F ({ v6 with Next:=v9.next }) else F v6
) λM=> some ((⟨H,M,J⟩:zl),0)
def EV (a0:O S)(a1:Int)(H:Int):C (O zO):=
(IG a0).bind λ(v1,v2)=> if v1 then AC (τ:=Int) (λF=> if v2 then F 1 else F 0
) λJ=> some ([(⟨5,a1,0,J,(⟨[],(⟨0,[],(⟨false,(0:j),(0:j)⟩:Addr),0,0,0,[],[],[]⟩:gH),[]⟩:zl),(⟨0,false,false,false,0,[],[]⟩:tF)⟩:zO)]:O zO) else
(Fj a0).bind λ(v5,v6)=> if (v6==12) then some ([(⟨3,a1,H,0,(⟨[],(⟨0,[],(⟨false,(0:j),(0:j)⟩:Addr),0,0,0,[],[],[]⟩:gH),[]⟩:zl),(⟨0,false,false,false,0,[],[]⟩:tF)⟩:zO)]:O zO) else some ([(⟨1,a1,0,0,v5,(⟨0,false,false,false,0,[],[]⟩:tF)⟩:zO)]:O zO)
def As (a0:JN)(a1:JN)(F:N0)(H:Int)(J:Int):C (O zO):= if (Mi.zn (⟨(a0.State==3),(a1.State==3)⟩:Mi) (⟨false,true⟩:Mi)) then some ([(⟨2,H,0,0,(⟨[],(⟨0,[],(⟨false,(0:j),(0:j)⟩:Addr),0,0,0,[],[],[]⟩:gH),[]⟩:zl),(⟨0,false,false,false,0,[],[]⟩:tF)⟩:zO)]:O zO) else if (Mi.zn (⟨(a0.State==3),(a1.State==3)⟩:Mi) (⟨true,false⟩:Mi)) then
(Hj a0).bind λv1=> AC (τ:=Int) (λK=> if (F.gE==3) then K 0 else K v1
) λP=> some ([(⟨3,H,J,P,(⟨[],(⟨0,[],(⟨false,(0:j),(0:j)⟩:Addr),0,0,0,[],[],[]⟩:gH),[]⟩:zl),(⟨0,false,false,false,0,[],[]⟩:tF)⟩:zO)]:O zO) else AC (τ:=Unit) (λM=> if (Mi.zn (⟨(a0.State==3),(a1.State==3)⟩:Mi) (⟨true,true⟩:Mi)) then if (F.gE==2) then
(EV F.Body H J).bind λQ=> some Q else M () else M ()
) λ_=> some []
def Lx (a0:rv)(a1:Int):C I:= AC (τ:=I) (λF=> if (a0.xS !=0) then F (cond true (decide (a0.xS<=a1)) false) else F false
) λv2=> some v2
def H3:C I:=
(As (⟨3,(⟨0,0,0,0,60,false⟩:Open),0,(⟨0,0,0,0,30,false⟩:Open),0,0⟩:JN) (⟨0,(⟨0,0,0,0,0,false⟩:Open),0,(⟨0,0,0,0,0,false⟩:Open),0,0⟩:JN) (⟨0,[]⟩:N0) 101 7).bind λv1=> AC (τ:=I) (λF=>
(Hj (⟨3,(⟨0,0,0,0,60,false⟩:Open),0,(⟨0,0,0,0,30,false⟩:Open),0,0⟩:JN)).bind λH=> if (H==30) then if (cond true ((v1.length:Int)==1) false) then
(gN v1 0).bind λJ=> if (cond true (J.Kind==3) false) then
(gN v1 0).bind λK=> if (cond true (K.zT==30) false) then
(gN v1 0).bind λM=> if (cond true (M.KK==7) false) then
(Lx (⟨(⟨0,Xbe,0,0,[]⟩:th),false,[],5⟩:rv) 5).bind λP=> F (cond true P false) else F false else F false else F false else F false else F false
) λQ=> some Q
def FP (a0:zl):C ((O S)×Int):=
(GV a0).bind λv1=> if (!v1) then some ([],1) else
(E4 a0).bind λ(v2,v3)=> some (v2,v3)
def I5 (a0:tF)(a1:tF):C I:= AC (τ:=I) (λF=> if (a0.tb !=a1.tb) then F true else if (cond false true (!(a0.Ty==a1.Ty))) then F true else if (cond false true (!(a0.rq==a1.rq))) then F true else if (cond false true (!(a0.Kl==a1.Kl))) then F true else if (cond false true (a0.zX !=a1.zX)) then F true else
(DV a0.El a1.El).bind λv2=> if (cond false true (!v2)) then F true else F (cond false true ((a0.B4.length:Int) !=(a1.B4.length:Int)))
) λJ=> if J then some false else AC (τ:=Unit) (λK=> AL (σ:=Unit) (λ_=> K ()
) (λH (M:B4) P _=>
(gN a1.B4 (P:Int)).bind λQ=> if (!(B4.zn M Q)) then some false else H ()
) a0.B4 0 ()
) λ_=> some true
def FH (a0:th)(a1:th):C I:= AC (τ:=I) (λH=> if (a0.tb !=a1.tb) then H true else if (cond false true (!(a0.Set.toList==a1.Set.toList))) then H true else if (cond false true (a0.zi !=a1.zi)) then H true else if (cond false true (a0.zh !=a1.zh)) then H true else H (cond false true ((a0.zd.length:Int) !=(a1.zd.length:Int)))
) λv2=> if v2 then some false else AC (τ:=Unit) (λJ=> AL (σ:=Unit) (λ_=> J ()
) (λF (K:Addr) M _=>
(gN a1.zd (M:Int)).bind λP=> if (!(Addr.zn K P)) then some false else F ()
) a0.zd 0 ()
) λ_=> some true
def I7 (a0:rv)(a1:rv):C I:= AC (τ:=I) (λH=> if (!(a0.Up==a1.Up)) then H true else if (cond false true (a0.xS !=a1.xS)) then H true else if (cond false true ((a0.gT.length:Int) !=(a1.gT.length:Int))) then H true else
(FH a0.th a1.th).bind λv2=> H (cond false true (!v2))
) λY=> if Y then some false else AC (τ:=Unit) (λZ=> AL (σ:=Unit) (λ_=> Z ()
) (λF (J:gT) K _=> AC (τ:=I) (λM=>
(gN a1.gT (K:Int)).bind λv9=> if (J.zW !=v9.zW) then M true else
(gN a1.gT (K:Int)).bind λP=> if (cond false true (!(J.zw==P.zw))) then M true else
(gN a1.gT (K:Int)).bind λQ=>
(A5 J.mu Q.mu).bind λU=> M (cond false true (!U))
) λV=> if V then some false else F ()
) a0.gT 0 ()
) λ_=> some true
def Ip (a0:ur)(a1:ur):C I:= AC (τ:=I) (λH=> if (a0.oX.DH !=a1.oX.DH) then H true else if (cond false true ((a0.gD.length:Int) !=(a1.gD.length:Int))) then H true else if (cond false true ((a0.oT.length:Int) !=(a1.oT.length:Int))) then H true else if (cond false true ((a0.oX.wg.length:Int) !=(a1.oX.wg.length:Int))) then H true else if (cond false true ((a0.oX.sI.length:Int) !=(a1.oX.sI.length:Int))) then H true else if (cond false true ((a0.oX.zu.r9.length:Int) !=(a1.oX.zu.r9.length:Int))) then H true else
(DV a0.oX.zq a1.oX.zq).bind λv2=> H (cond false true (!v2))
) λV=> if V then some false else AC (τ:=Unit) (λY=> AL (σ:=Unit) (λ_=> Y ()
) (λJ (Z:tF) i7 _=>
(gN a1.gD (i7:Int)).bind λv8=>
(I5 Z v8).bind λv9=> if (!v9) then some false else J ()
) a0.gD 0 ()
) λ_=> AC (τ:=Unit) (λK=> AL (σ:=Unit) (λ_=> K ()
) (λF (M:rv) P _=>
(gN a1.oT (P:Int)).bind λQ=>
(I7 M Q).bind λU=> if (!U) then some false else F ()
) a0.oT 0 ()
) λ_=> some true
def D3 (a0:O mu)(a1:O mu):C I:= if ((a0.length:Int) !=(a1.length:Int)) then some false else AC (τ:=Unit) (λH=> AL (σ:=Unit) (λ_=> H ()
) (λF (J:mu) K _=>
(gN a1 (K:Int)).bind λM=>
(A5 J M).bind λP=> if (!P) then some false else F ()
) a0 0 ()
) λ_=> some true
def Il (a0:Ct)(a1:Ct):C I:= AC (τ:=I) (λH=>
(Ip a0.ur a1.ur).bind λv2=> if (!v2) then H true else H (cond false true ((a0.Cl.length:Int) !=(a1.Cl.length:Int)))
) λJ=> if J then some false else AC (τ:=Unit) (λK=> AL (σ:=Unit) (λ_=> K ()
) (λF (M:O mu) P _=>
(gN a1.Cl (P:Int)).bind λQ=>
(D3 M Q).bind λU=> if (!U) then some false else F ()
) a0.Cl 0 ()
) λ_=> some true
def Dn (a0:O Int)(a1:Int):C I:=
(OK a0).bind λv1=>
(Ed v1).bind λ(v2,v3,v4,v5)=>
(Js a1 (v2.ur.oT.length:Int)).bind λZ=>
(gN v2.ur.oT Z).bind λv7=>
(Ew v7 2).bind λK=> if (!K.Up) then
(H3).bind λv9=> some v9 else
(gO (α:=rv) 104 [] v2.ur.oT).bind λ_=>
(gN v2.ur.oT Z).bind λay=>
(Bu v2.ur.oT Z K).bind λa6=>
(EH ({ v2.ur with oT:=a6 })).bind λ(v12,a7)=> if (a7 !=0) then some false else
(As (⟨3,(⟨0,0,0,0,50,false⟩:Open),0,(⟨0,0,0,0,70,false⟩:Open),0,0⟩:JN) (⟨0,(⟨0,0,0,0,0,false⟩:Open),0,(⟨0,0,0,0,0,false⟩:Open),0,0⟩:JN) (⟨0,[]⟩:N0) K.th.tb 9).bind λa8=>
(As (⟨2,(⟨0,0,0,0,0,false⟩:Open),0,(⟨0,0,0,0,0,false⟩:Open),0,0⟩:JN) (⟨3,(⟨0,0,0,0,50,false⟩:Open),0,(⟨0,0,0,0,70,false⟩:Open),0,0⟩:JN) (⟨4,[]⟩:N0) K.th.tb 12).bind λaa=>
(gO (α:=zO) 304 a8 aa).bind λab=> AC (τ:=(O zO)) (λae=> AL (σ:=(O zO)) (λM=> ae M
) (λF (V:gT) i21 M=>
(FP (⟨[],V.mu.gH,([V.mu.fI]:O fI)⟩:zl)).bind λ(v22,v23)=> if (v23 !=0) then some false else
(As (⟨3,(⟨0,0,0,0,50,false⟩:Open),0,(⟨0,0,0,0,70,false⟩:Open),0,0⟩:JN) (⟨3,(⟨0,0,0,0,50,false⟩:Open),0,(⟨0,0,0,0,70,false⟩:Open),0,0⟩:JN) (⟨2,v22⟩:N0) K.th.tb 13).bind λaf=>
(gO (α:=zO) 304 M af).bind λag=> F ag
) K.gT 0 ab
) λah=>
(Ch (0<=(4:Int)/\(4:Int)<=4/\(4:Int)<=1048576)).bind λ_=> AC (τ:=(O zO)) (λai=> AL (σ:=(O zO)) (λP=> ai P
) (λH (aj:O S) i31 P=>
(As (⟨3,(⟨0,0,0,0,50,false⟩:Open),0,(⟨0,0,0,0,70,false⟩:Open),0,0⟩:JN) (⟨3,(⟨0,0,0,0,50,false⟩:Open),0,(⟨0,0,0,0,70,false⟩:Open),0,0⟩:JN) (⟨2,aj⟩:N0) K.th.tb 14).bind λak=>
(gO (α:=zO) 304 P ak).bind λal=> H al
) ([(Xaa (Xa0 4) (0:S)),([(0:S),(0:S),(0:S),(6:S),(128:S),(15:S),(3:S),(0:S),(2:S),(1:S)]:O S)]:O (O S)) 0 ah
) λY=> AC (τ:=Ct) (λan=> AL (σ:=Ct) (λQ=> an Q
) (λJ (ao:zO) i39 Q=>
(EG Q ao).bind λ(v40,v41,ap)=> if (ap !=0) then some false else J v40
) Y 0 v12
) λaq=> AC (τ:=I) (λU=> if ((Y.length:Int)==(AG ((K.gT.length:Int)+4))) then
(Il v12 aq).bind λar=> if (cond true ar false) then
(H3).bind λau=> U (cond true au false) else U false else U false
) λax=> some ax
end Go.AX.Q33
end
