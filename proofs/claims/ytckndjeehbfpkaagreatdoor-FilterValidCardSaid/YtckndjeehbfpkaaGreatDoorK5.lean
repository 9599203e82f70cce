/-
  Texts of one proof, packed.
-/
import Derived.Test.YtckndjeehbfpkaaGreatDoorK4
import Derived.LaidSub
import Derived.MapKept
import Derived.Test.YtckndjeehbfpkaaGreatDoorRows
set_option linter.all false
set_option maxRecDepth 100000
set_option maxHeartbeats 4000000
open List renaming length_map→X10,length_append→X11,length_cons→X12,length_nil→X13,mem_singleton→X14,getElem?_eq_some_iff→X16,mem_cons_of_mem→X19,length_set→X21,mem_append→X23
open Option.some renaming injEq→X24,inj→X25
open Prod.mk renaming injEq→X26
open Bool renaming eq_iff_iff→X28
section
namespace Go.AX.Q24
open Go Go.AX
def Pn:List (Int×Int):=[(1,64),(2,64),(3,64),(4,128),(5,64),(8,192),(32,192),(35,192)]
structure JAL where
  L:List Int
  At:Int
def JAL.toD (x:JAL):D:=.agg [D.l 1 D.i x.L,D.i x.At]
def JAL.av (x:JAL):List AV:=[.d (D.l 1 D.i x.L),.d (D.i x.At)]
def JAL.zv:List AV:=[.d (D.nil 1),.d (D.i 0)]
def JAL.wf (x:JAL):Prop:=(x.L.length<=maxLen/\x.L.length*8<=reachBytes/\∀y0∈x.L,I64 y0)/\I64 x.At/\True
structure Addr where
  V6:Bool
  Hi:UInt64
  Lo:UInt64
def Addr.toD (x:Addr):D:=.agg [D.b x.V6,D.u64 x.Hi,D.u64 x.Lo]
def Addr.av (x:Addr):List AV:=[.d (D.b x.V6),.d (D.u64 x.Hi),.d (D.u64 x.Lo)]
def Addr.zv:List AV:=[.d (D.b false),.d (D.u64 (0:UInt64)),.d (D.u64 (0:UInt64))]
def Addr.wf (x:Addr):Prop:=True/\True/\True/\True
def Addr.eqd (x y:Addr):Bool:=((x.V6==y.V6)&&(((x.Hi.toNat:Int)==(y.Hi.toNat:Int))&&(((x.Lo.toNat:Int)==(y.Lo.toNat:Int))&&true)))
structure JAA where
  Addr:Addr
  Len:Int
def JAA.toD (x:JAA):D:=.agg [D.b x.Addr.V6,D.u64 x.Addr.Hi,D.u64 x.Addr.Lo,D.i x.Len]
def JAA.av (x:JAA):List AV:=[.d (D.b x.Addr.V6),.d (D.u64 x.Addr.Hi),.d (D.u64 x.Addr.Lo),.d (D.i x.Len)]
def JAA.zv:List AV:=[.d (D.b false),.d (D.u64 (0:UInt64)),.d (D.u64 (0:UInt64)),.d (D.i 0)]
def JAA.wf (x:JAA):Prop:=Addr.wf x.Addr/\I64 x.Len/\True
def JAA.eqd (x y:JAA):Bool:=(((x.Addr.V6==y.Addr.V6)&&(((x.Addr.Hi.toNat:Int)==(y.Addr.Hi.toNat:Int))&&(((x.Addr.Lo.toNat:Int)==(y.Addr.Lo.toNat:Int))&&true)))&&((x.Len==y.Len)&&true))
structure JAN where
  From:Int
  To:Int
def JAN.toD (x:JAN):D:=.agg [D.i x.From,D.i x.To]
def JAN.av (x:JAN):List AV:=[.d (D.i x.From),.d (D.i x.To)]
def JAN.zv:List AV:=[.d (D.i 0),.d (D.i 0)]
def JAN.wf (x:JAN):Prop:=I64 x.From/\I64 x.To/\True
def JAN.eqd (x y:JAN):Bool:=((x.From==y.From)&&((x.To==y.To)&&true))
structure Set where
  Name:ByteArray
  ASNs:List Int
  Sets:List ByteArray
def Set.toD (x:Set):D:=.agg [D.s x.Name,D.l 1 D.i x.ASNs,D.l 1 D.s x.Sets]
def Set.av (x:Set):List AV:=[.d (D.s x.Name),.d (D.l 1 D.i x.ASNs),.d (D.l 1 D.s x.Sets)]
def Set.zv:List AV:=[.d (D.s ByteArray.empty),.d (D.nil 1),.d (D.nil 1)]
def Set.wf (x:Set):Prop:=(x.Name.size<=maxLen/\x.Name.size<=reachBytes)/\(x.ASNs.length<=maxLen/\x.ASNs.length*8<=reachBytes/\∀y0∈x.ASNs,I64 y0)/\(x.Sets.length<=maxLen/\x.Sets.length*16<=reachBytes/\∀y0∈x.Sets,(y0.size<=maxLen/\y0.size<=reachBytes))/\True
structure JAB where
  JAA:JAA
  Max:Int
  ASN:Int
def JAB.toD (x:JAB):D:=.agg [D.b x.JAA.Addr.V6,D.u64 x.JAA.Addr.Hi,D.u64 x.JAA.Addr.Lo,D.i x.JAA.Len,D.i x.Max,D.i x.ASN]
def JAB.av (x:JAB):List AV:=[.d (D.b x.JAA.Addr.V6),.d (D.u64 x.JAA.Addr.Hi),.d (D.u64 x.JAA.Addr.Lo),.d (D.i x.JAA.Len),.d (D.i x.Max),.d (D.i x.ASN)]
def JAB.zv:List AV:=[.d (D.b false),.d (D.u64 (0:UInt64)),.d (D.u64 (0:UInt64)),.d (D.i 0),.d (D.i 0),.d (D.i 0)]
def JAB.wf (x:JAB):Prop:=JAA.wf x.JAA/\I64 x.Max/\I64 x.ASN/\True
def JAB.eqd (x y:JAB):Bool:=((((x.JAA.Addr.V6==y.JAA.Addr.V6)&&(((x.JAA.Addr.Hi.toNat:Int)==(y.JAA.Addr.Hi.toNat:Int))&&(((x.JAA.Addr.Lo.toNat:Int)==(y.JAA.Addr.Lo.toNat:Int))&&true)))&&((x.JAA.Len==y.JAA.Len)&&true))&&((x.Max==y.Max)&&((x.ASN==y.ASN)&&true)))
structure JAD where
  Sets:List Set
  Objects:List JAB
def JAD.toD (x:JAD):D:=.agg [D.l 3 Set.toD x.Sets,D.l 6 JAB.toD x.Objects]
def JAD.av (x:JAD):List AV:=[.d (D.l 3 Set.toD x.Sets),.d (D.l 6 JAB.toD x.Objects)]
def JAD.zv:List AV:=[.d (D.nil 3),.d (D.nil 6)]
def JAD.wf (x:JAD):Prop:=(x.Sets.length<=maxLen/\x.Sets.length*64<=reachBytes/\∀y0∈x.Sets,Set.wf y0)/\(x.Objects.length<=maxLen/\x.Objects.length*48<=reachBytes/\∀y0∈x.Objects,JAB.wf y0)/\True
structure JAI where
  Own:Int
  LANs:List JAA
  Min4:Int
  Max4:Int
  Min6:Int
  Max6:Int
  Hole4:Int
  Hole6:Int
  Bogons:List JAA
  Private:List JAN
  Free:List Int
  Hops:Int
  JAD:JAD
  Origins:List JAB
def JAI.toD (x:JAI):D:=.agg [D.i x.Own,D.l 4 JAA.toD x.LANs,D.i x.Min4,D.i x.Max4,D.i x.Min6,D.i x.Max6,D.i x.Hole4,D.i x.Hole6,D.l 4 JAA.toD x.Bogons,D.l 2 JAN.toD x.Private,D.l 1 D.i x.Free,D.i x.Hops,D.l 3 Set.toD x.JAD.Sets,D.l 6 JAB.toD x.JAD.Objects,D.l 6 JAB.toD x.Origins]
def JAI.av (x:JAI):List AV:=[.d (D.i x.Own),.d (D.l 4 JAA.toD x.LANs),.d (D.i x.Min4),.d (D.i x.Max4),.d (D.i x.Min6),.d (D.i x.Max6),.d (D.i x.Hole4),.d (D.i x.Hole6),.d (D.l 4 JAA.toD x.Bogons),.d (D.l 2 JAN.toD x.Private),.d (D.l 1 D.i x.Free),.d (D.i x.Hops),.d (D.l 3 Set.toD x.JAD.Sets),.d (D.l 6 JAB.toD x.JAD.Objects),.d (D.l 6 JAB.toD x.Origins)]
def JAI.zv:List AV:=[.d (D.i 0),.d (D.nil 4),.d (D.i 0),.d (D.i 0),.d (D.i 0),.d (D.i 0),.d (D.i 0),.d (D.i 0),.d (D.nil 4),.d (D.nil 2),.d (D.nil 1),.d (D.i 0),.d (D.nil 3),.d (D.nil 6),.d (D.nil 6)]
def JAI.wf (x:JAI):Prop:=I64 x.Own/\(x.LANs.length<=maxLen/\x.LANs.length*32<=reachBytes/\∀y0∈x.LANs,JAA.wf y0)/\I64 x.Min4/\I64 x.Max4/\I64 x.Min6/\I64 x.Max6/\I64 x.Hole4/\I64 x.Hole6/\(x.Bogons.length<=maxLen/\x.Bogons.length*32<=reachBytes/\∀y0∈x.Bogons,JAA.wf y0)/\(x.Private.length<=maxLen/\x.Private.length*16<=reachBytes/\∀y0∈x.Private,JAN.wf y0)/\(x.Free.length<=maxLen/\x.Free.length*8<=reachBytes/\∀y0∈x.Free,I64 y0)/\I64 x.Hops/\JAD.wf x.JAD/\(x.Origins.length<=maxLen/\x.Origins.length*48<=reachBytes/\∀y0∈x.Origins,JAB.wf y0)/\True
structure JAO where
  ASN:Int
  Set:ByteArray
  Max4:Int
  Max6:Int
  Nexts:List Addr
def JAO.toD (x:JAO):D:=.agg [D.i x.ASN,D.s x.Set,D.i x.Max4,D.i x.Max6,D.l 3 Addr.toD x.Nexts]
def JAO.av (x:JAO):List AV:=[.d (D.i x.ASN),.d (D.s x.Set),.d (D.i x.Max4),.d (D.i x.Max6),.d (D.l 3 Addr.toD x.Nexts)]
def JAO.zv:List AV:=[.d (D.i 0),.d (D.s ByteArray.empty),.d (D.i 0),.d (D.i 0),.d (D.nil 3)]
def JAO.wf (x:JAO):Prop:=I64 x.ASN/\(x.Set.size<=maxLen/\x.Set.size<=reachBytes)/\I64 x.Max4/\I64 x.Max6/\(x.Nexts.length<=maxLen/\x.Nexts.length*24<=reachBytes/\∀y0∈x.Nexts,Addr.wf y0)/\True
structure JAE where
  Set:Bool
  ASNs:List Int
def JAE.toD (x:JAE):D:=.agg [D.b x.Set,D.l 1 D.i x.ASNs]
def JAE.av (x:JAE):List AV:=[.d (D.b x.Set),.d (D.l 1 D.i x.ASNs)]
def JAE.zv:List AV:=[.d (D.b false),.d (D.nil 1)]
def JAE.wf (x:JAE):Prop:=True/\(x.ASNs.length<=maxLen/\x.ASNs.length*8<=reachBytes/\∀y0∈x.ASNs,I64 y0)/\True
structure JAC where
  A:Int
  B:Int
def JAC.toD (x:JAC):D:=.agg [D.i x.A,D.i x.B]
def JAC.av (x:JAC):List AV:=[.d (D.i x.A),.d (D.i x.B)]
def JAC.zv:List AV:=[.d (D.i 0),.d (D.i 0)]
def JAC.wf (x:JAC):Prop:=I64 x.A/\I64 x.B/\True
def JAC.eqd (x y:JAC):Bool:=((x.A==y.A)&&((x.B==y.B)&&true))
structure JAH where
  A:Int
  B:Int
  C:Int
def JAH.toD (x:JAH):D:=.agg [D.i x.A,D.i x.B,D.i x.C]
def JAH.av (x:JAH):List AV:=[.d (D.i x.A),.d (D.i x.B),.d (D.i x.C)]
def JAH.zv:List AV:=[.d (D.i 0),.d (D.i 0),.d (D.i 0)]
def JAH.wf (x:JAH):Prop:=I64 x.A/\I64 x.B/\I64 x.C/\True
def JAH.eqd (x y:JAH):Bool:=((x.A==y.A)&&((x.B==y.B)&&((x.C==y.C)&&true)))
structure JAJ where
  Flags:Int
  Type_:Int
  Data:List UInt8
def JAJ.toD (x:JAJ):D:=.agg [D.i x.Flags,D.i x.Type_,D.l 1 D.u8 x.Data]
def JAJ.av (x:JAJ):List AV:=[.d (D.i x.Flags),.d (D.i x.Type_),.d (D.l 1 D.u8 x.Data)]
def JAJ.zv:List AV:=[.d (D.i 0),.d (D.i 0),.d (D.nil 1)]
def JAJ.wf (x:JAJ):Prop:=I64 x.Flags/\I64 x.Type_/\(x.Data.length<=maxLen/\x.Data.length*1<=reachBytes/\∀y0∈x.Data,True)/\True
structure JAG where
  Origin:Int
  Path:List JAE
  Next:Addr
  MED:Int
  Pref:Int
  OTC:Int
  Communities:List JAC
  JAH:List JAH
  Other:List JAJ
def JAG.toD (x:JAG):D:=.agg [D.i x.Origin,D.l 2 JAE.toD x.Path,D.b x.Next.V6,D.u64 x.Next.Hi,D.u64 x.Next.Lo,D.i x.MED,D.i x.Pref,D.i x.OTC,D.l 2 JAC.toD x.Communities,D.l 3 JAH.toD x.JAH,D.l 3 JAJ.toD x.Other]
def JAG.av (x:JAG):List AV:=[.d (D.i x.Origin),.d (D.l 2 JAE.toD x.Path),.d (D.b x.Next.V6),.d (D.u64 x.Next.Hi),.d (D.u64 x.Next.Lo),.d (D.i x.MED),.d (D.i x.Pref),.d (D.i x.OTC),.d (D.l 2 JAC.toD x.Communities),.d (D.l 3 JAH.toD x.JAH),.d (D.l 3 JAJ.toD x.Other)]
def JAG.zv:List AV:=[.d (D.i 0),.d (D.nil 2),.d (D.b false),.d (D.u64 (0:UInt64)),.d (D.u64 (0:UInt64)),.d (D.i 0),.d (D.i 0),.d (D.i 0),.d (D.nil 2),.d (D.nil 3),.d (D.nil 3)]
def JAG.wf (x:JAG):Prop:=I64 x.Origin/\(x.Path.length<=maxLen/\x.Path.length*32<=reachBytes/\∀y0∈x.Path,JAE.wf y0)/\Addr.wf x.Next/\I64 x.MED/\I64 x.Pref/\I64 x.OTC/\(x.Communities.length<=maxLen/\x.Communities.length*16<=reachBytes/\∀y0∈x.Communities,JAC.wf y0)/\(x.JAH.length<=maxLen/\x.JAH.length*24<=reachBytes/\∀y0∈x.JAH,JAH.wf y0)/\(x.Other.length<=maxLen/\x.Other.length*40<=reachBytes/\∀y0∈x.Other,JAJ.wf y0)/\True
structure JAK where
  JAA:JAA
  From:Int
  JAG:JAG
def JAK.toD (x:JAK):D:=.agg [D.b x.JAA.Addr.V6,D.u64 x.JAA.Addr.Hi,D.u64 x.JAA.Addr.Lo,D.i x.JAA.Len,D.i x.From,D.i x.JAG.Origin,D.l 2 JAE.toD x.JAG.Path,D.b x.JAG.Next.V6,D.u64 x.JAG.Next.Hi,D.u64 x.JAG.Next.Lo,D.i x.JAG.MED,D.i x.JAG.Pref,D.i x.JAG.OTC,D.l 2 JAC.toD x.JAG.Communities,D.l 3 JAH.toD x.JAG.JAH,D.l 3 JAJ.toD x.JAG.Other]
def JAK.av (x:JAK):List AV:=[.d (D.b x.JAA.Addr.V6),.d (D.u64 x.JAA.Addr.Hi),.d (D.u64 x.JAA.Addr.Lo),.d (D.i x.JAA.Len),.d (D.i x.From),.d (D.i x.JAG.Origin),.d (D.l 2 JAE.toD x.JAG.Path),.d (D.b x.JAG.Next.V6),.d (D.u64 x.JAG.Next.Hi),.d (D.u64 x.JAG.Next.Lo),.d (D.i x.JAG.MED),.d (D.i x.JAG.Pref),.d (D.i x.JAG.OTC),.d (D.l 2 JAC.toD x.JAG.Communities),.d (D.l 3 JAH.toD x.JAG.JAH),.d (D.l 3 JAJ.toD x.JAG.Other)]
def JAK.zv:List AV:=[.d (D.b false),.d (D.u64 (0:UInt64)),.d (D.u64 (0:UInt64)),.d (D.i 0),.d (D.i 0),.d (D.i 0),.d (D.nil 2),.d (D.b false),.d (D.u64 (0:UInt64)),.d (D.u64 (0:UInt64)),.d (D.i 0),.d (D.i 0),.d (D.i 0),.d (D.nil 2),.d (D.nil 3),.d (D.nil 3)]
def JAK.wf (x:JAK):Prop:=JAA.wf x.JAA/\I64 x.From/\JAG.wf x.JAG/\True
structure JAF where
  f:JAI
  p:JAO
  r:JAK
  path:List Int
  origin:Int
  hole:Bool
def JAF.toD (x:JAF):D:=.agg [D.i x.f.Own,D.l 4 JAA.toD x.f.LANs,D.i x.f.Min4,D.i x.f.Max4,D.i x.f.Min6,D.i x.f.Max6,D.i x.f.Hole4,D.i x.f.Hole6,D.l 4 JAA.toD x.f.Bogons,D.l 2 JAN.toD x.f.Private,D.l 1 D.i x.f.Free,D.i x.f.Hops,D.l 3 Set.toD x.f.JAD.Sets,D.l 6 JAB.toD x.f.JAD.Objects,D.l 6 JAB.toD x.f.Origins,D.i x.p.ASN,D.s x.p.Set,D.i x.p.Max4,D.i x.p.Max6,D.l 3 Addr.toD x.p.Nexts,D.b x.r.JAA.Addr.V6,D.u64 x.r.JAA.Addr.Hi,D.u64 x.r.JAA.Addr.Lo,D.i x.r.JAA.Len,D.i x.r.From,D.i x.r.JAG.Origin,D.l 2 JAE.toD x.r.JAG.Path,D.b x.r.JAG.Next.V6,D.u64 x.r.JAG.Next.Hi,D.u64 x.r.JAG.Next.Lo,D.i x.r.JAG.MED,D.i x.r.JAG.Pref,D.i x.r.JAG.OTC,D.l 2 JAC.toD x.r.JAG.Communities,D.l 3 JAH.toD x.r.JAG.JAH,D.l 3 JAJ.toD x.r.JAG.Other,D.l 1 D.i x.path,D.i x.origin,D.b x.hole]
def JAF.av (x:JAF):List AV:=[.d (D.i x.f.Own),.d (D.l 4 JAA.toD x.f.LANs),.d (D.i x.f.Min4),.d (D.i x.f.Max4),.d (D.i x.f.Min6),.d (D.i x.f.Max6),.d (D.i x.f.Hole4),.d (D.i x.f.Hole6),.d (D.l 4 JAA.toD x.f.Bogons),.d (D.l 2 JAN.toD x.f.Private),.d (D.l 1 D.i x.f.Free),.d (D.i x.f.Hops),.d (D.l 3 Set.toD x.f.JAD.Sets),.d (D.l 6 JAB.toD x.f.JAD.Objects),.d (D.l 6 JAB.toD x.f.Origins),.d (D.i x.p.ASN),.d (D.s x.p.Set),.d (D.i x.p.Max4),.d (D.i x.p.Max6),.d (D.l 3 Addr.toD x.p.Nexts),.d (D.b x.r.JAA.Addr.V6),.d (D.u64 x.r.JAA.Addr.Hi),.d (D.u64 x.r.JAA.Addr.Lo),.d (D.i x.r.JAA.Len),.d (D.i x.r.From),.d (D.i x.r.JAG.Origin),.d (D.l 2 JAE.toD x.r.JAG.Path),.d (D.b x.r.JAG.Next.V6),.d (D.u64 x.r.JAG.Next.Hi),.d (D.u64 x.r.JAG.Next.Lo),.d (D.i x.r.JAG.MED),.d (D.i x.r.JAG.Pref),.d (D.i x.r.JAG.OTC),.d (D.l 2 JAC.toD x.r.JAG.Communities),.d (D.l 3 JAH.toD x.r.JAG.JAH),.d (D.l 3 JAJ.toD x.r.JAG.Other),.d (D.l 1 D.i x.path),.d (D.i x.origin),.d (D.b x.hole)]
def JAF.zv:List AV:=[.d (D.i 0),.d (D.nil 4),.d (D.i 0),.d (D.i 0),.d (D.i 0),.d (D.i 0),.d (D.i 0),.d (D.i 0),.d (D.nil 4),.d (D.nil 2),.d (D.nil 1),.d (D.i 0),.d (D.nil 3),.d (D.nil 6),.d (D.nil 6),.d (D.i 0),.d (D.s ByteArray.empty),.d (D.i 0),.d (D.i 0),.d (D.nil 3),.d (D.b false),.d (D.u64 (0:UInt64)),.d (D.u64 (0:UInt64)),.d (D.i 0),.d (D.i 0),.d (D.i 0),.d (D.nil 2),.d (D.b false),.d (D.u64 (0:UInt64)),.d (D.u64 (0:UInt64)),.d (D.i 0),.d (D.i 0),.d (D.i 0),.d (D.nil 2),.d (D.nil 3),.d (D.nil 3),.d (D.nil 1),.d (D.i 0),.d (D.b false)]
def JAF.wf (x:JAF):Prop:=JAI.wf x.f/\JAO.wf x.p/\JAK.wf x.r/\(x.path.length<=maxLen/\x.path.length*8<=reachBytes/\∀y0∈x.path,I64 y0)/\I64 x.origin/\True/\True
structure JAP where
  e0:Int
  e1:Int
  e2:Int
  e3:Int
  e4:Int
def JAP.toD (x:JAP):D:=.agg [D.i x.e0,D.i x.e1,D.i x.e2,D.i x.e3,D.i x.e4]
def JAP.av (x:JAP):List AV:=[.d (D.i x.e0),.d (D.i x.e1),.d (D.i x.e2),.d (D.i x.e3),.d (D.i x.e4)]
def JAP.zv:List AV:=[.d (D.i 0),.d (D.i 0),.d (D.i 0),.d (D.i 0),.d (D.i 0)]
def JAP.wf (x:JAP):Prop:=I64 x.e0/\I64 x.e1/\I64 x.e2/\I64 x.e3/\I64 x.e4/\True
structure JAM where
  reason:Int
  refuses:Nat
def JAM.toD (x:JAM):D:=.agg [D.i x.reason,D.fn x.refuses]
def JAM.av (x:JAM):List AV:=[.d (D.i x.reason),.d (D.fn x.refuses)]
def JAM.zv:List AV:=[.d (D.i 0),.d (D.val .nilFunc)]
def E2 (a0:List Int):Option JAL:= some (⟨a0,0⟩:JAL)
def C0 (a0:Int)(a1:Int):Option Int:=
(chk (a1≠0)).bind fun _=> AB (τ:=Int) (fun k1=> if (decide ((Int.tmod a0 a1)<0)) then k1 (A0 ((Int.tmod a0 a1)+a1)) else k1 (Int.tmod a0 a1)
) fun v2=> some v2
def AN (a0:JAL)(a1:Int):Option (Int×JAL):= if (decide (a0.At ≥ (a0.L.length:Int))) then some (0,a0) else
(geti a0.L (A0 ((A0 (a0.At+1))-1))).bind fun v1=>
(C0 v1 a1).bind fun v2=> some (v2,(⟨a0.L,(A0 (a0.At+1))⟩:JAL))
def F8 (a0:Int):Option JAA:= if (decide (a0 ≥ 6)) then some (⟨(⟨true,(BF ((BitVec.ofInt 64 2306139568115548160 ||| BitVec.ofInt 64 ((BF (((BF a0).toNat:Int)*(2^(min (Int.toNat 16) 64)))).toNat:Int)).toNat:Int)),(0:UInt64)⟩:Addr),48⟩:JAA) else some (⟨(⟨false,(0:UInt64),(BF ((BitVec.ofInt 64 167772160 ||| BitVec.ofInt 64 ((BF (((BF a0).toNat:Int)*(2^(min (Int.toNat 16) 64)))).toNat:Int)).toNat:Int))⟩:Addr),16⟩:JAA)
def Bh (a0:JAL):Option (JAI×JAL):=
(AN a0 3).bind fun (v1,v2)=>
(part ([701,202]:List Int) 0 v1).bind fun v3=>
(AN v2 4).bind fun (v4,v5)=> AB (τ:=JAL×(List JAA)) (fun k6=> if (v4==0) then
(AN v5 8).bind fun (v7,v8)=>
(F8 v7).bind fun v9=> k6 (v8,([v9]:List JAA)) else k6 (v5,[])
) fun (v10,v11)=>
(AN v10 6).bind fun (v12,v13)=> AB (τ:=JAL×Int) (fun k14=> if (v12==0) then
(AN v13 3).bind fun (v15,v16)=> k14 (v16,(A0 (2+v15))) else k14 (v13,8)
) fun (v17,v18)=>
(AN v17 3).bind fun (v19,v20)=> AB (τ:=JAL×(List JAB)×(List JAB)) (fun k21=> CY (σ:=Int×JAL×(List JAB)×(List JAB)) (fun next22 (v23,v24,v25,v26)=> if (decide (v23<8)) then AB (τ:=JAL×(List JAB)×(List JAB)) (fun k27=>
(F8 v23).bind fun v28=> AB (τ:=Int) (fun k29=> if v28.Addr.V6 then k29 64 else k29 24
) fun v30=> AB (τ:=JAL×(List JAB)) (fun k31=> Aa (σ:=JAL×(List JAB)) (fun (v32,v33)=> k31 (v32,v33)
) (fun next34 (x35:Int) i36 (v32,v33)=> AB (τ:=Bool×JAL) (fun k37=> if (decide (v19 > 0)) then k37 (true,v32) else
(AN v32 3).bind fun (v38,v39)=> k37 ((cond false true (decide (v38 > 0))),v39)
) fun (v40,v41)=> AB (τ:=(List JAB)) (fun k42=> if v40 then
(apnd (α:=JAB) 48 v33 ([(⟨v28,v30,x35⟩:JAB)]:List JAB)).bind fun v43=> k42 v43 else k42 v33
) fun v44=> next34 (v41,v44)
) ([101,102,103,104,105,201,202,203,301]:List Int) 0 (v24,v25)
) fun (v45,v46)=>
(AN v45 5).bind fun (v47,v48)=> AB (τ:=JAL×(List JAB)) (fun k49=> if (v47==0) then
(AN v48 5).bind fun (v50,v51)=>
(geti ([101,102,103,201,0]:List Int) v50).bind fun v52=>
(apnd (α:=JAB) 48 v26 ([(⟨v28,v30,v52⟩:JAB)]:List JAB)).bind fun v53=> k49 (v51,v53) else k49 (v48,v26)
) fun (v54,v55)=> k27 (v54,v46,v55)
) fun (v56,v57,v58)=> next22 ((A0 (v23+1)),v56,v57,v58) else k21 (v24,v25,v26)
) fuel (0,v20,[],[])
) fun (v59,v60,v61)=> some ((⟨99,([(⟨(⟨false,(0:UInt64),(3221225984:UInt64)⟩:Addr),24⟩:JAA)]:List JAA),8,24,19,64,25,65,v11,([(⟨64512,65534⟩:JAN)]:List JAN),v3,v18,(⟨([(⟨(ByteArray.mk (List.toArray (List.cons 65 (List.cons 76 (List.cons 76 List.nil))))),([101,102,103,104,105,201,202,203,301]:List Int),[]⟩:Set),(⟨(ByteArray.mk (List.toArray (List.cons 79 (List.cons 78 (List.cons 69 List.nil))))),([201]:List Int),[]⟩:Set)]:List Set),v60⟩:JAD),v61⟩:JAI),v59)
def Fg (a0:Int)(a1:Bool):Option Addr:= if a1 then some (⟨true,(2306139568115613695:UInt64),(BF a0)⟩:Addr) else some (⟨false,(0:UInt64),(BF ((BitVec.ofInt 64 3221225984 ||| BitVec.ofInt 64 ((BF (A0 ((Int.tmod a0 250)+1))).toNat:Int)).toNat:Int))⟩:Addr)
def B7 (a0:JAL)(a1:Int):Option (JAO×JAL):=
(AN a0 6).bind fun (v1,v2)=>
(geti ([(ByteArray.mk (List.toArray (List.cons 65 (List.cons 76 (List.cons 76 List.nil))))),(ByteArray.mk (List.toArray (List.cons 65 (List.cons 76 (List.cons 76 List.nil))))),(ByteArray.mk (List.toArray (List.cons 65 (List.cons 76 (List.cons 76 List.nil))))),(ByteArray.mk (List.toArray (List.cons 79 (List.cons 78 (List.cons 69 List.nil))))),(ByteArray.mk (List.toArray List.nil)),(ByteArray.mk (List.toArray (List.cons 78 (List.cons 79 (List.cons 78 (List.cons 69 List.nil))))))]:List ByteArray) v1).bind fun v3=>
(AN v2 20).bind fun (v4,v5)=>
(AN v5 9).bind fun (v6,v7)=>
(Fg a1 false).bind fun v8=>
(Fg a1 true).bind fun v9=> some ((⟨a1,v3,(A0 (6+v4)),(A0 (3+v6)),([v8,v9]:List Addr)⟩:JAO),v7)
def Dc (a0:JAL):Option (JAA×JAL):=
(AN a0 8).bind fun (v1,v2)=>
(F8 v1).bind fun v3=>
(AN v2 8).bind fun (v4,v5)=> AB (τ:=JAL×JAA) (fun k6=> if (v4==6) then AB (τ:=Int) (fun k7=> if v3.Addr.V6 then k7 64 else k7 24
) fun v8=> k6 (v5,(⟨v3.Addr,v8⟩:JAA)) else AB (τ:=JAL×JAA) (fun k9=> if (v4==7) then AB (τ:=Int) (fun k10=> if v3.Addr.V6 then k10 128 else k10 32
) fun v11=>
(AN v5 3).bind fun (v12,v13)=> k9 (v13,(⟨{ v3.Addr with Lo:=(BF ((v3.Addr.Lo.toNat:Int)+((BF v12).toNat:Int))) },v11⟩:JAA)) else k9 (v5,v3)
) fun (v14,v15)=> k6 (v14,v15)
) fun (v16,v17)=> some (v17,v16)
def GT:Option JAG:= some (⟨(-1),[],(⟨false,(0:UInt64),(0:UInt64)⟩:Addr),(-1),(-1),(-1),[],[],[]⟩:JAG)
def CV (a0:JAL):Option ((List JAC)×JAL):=
(AN a0 65536).bind fun (v1,v2)=> AB (τ:=JAL×(List JAC)) (fun k3=> Aa (σ:=JAL×(List JAC)) (fun (v4,v5)=> k3 (v4,v5)
) (fun next6 (x7:JAC) i8 (v4,v5)=> AB (τ:=Bool×JAL) (fun k9=> if ((A0 ((BitVec.ofInt 64 (Int.fdiv v1 (2^(min (Int.toNat ((BF (A0 (2*(i8:Int)))).toNat:Int)) 64))) &&& BitVec.ofInt 64 3).toNat:Int))==3) then if (decide ((i8:Int)<6)) then k9 (true,v4) else
(AN v4 2).bind fun (v10,v11)=> k9 ((cond true (cond false true (v10==0)) false),v11) else k9 (false,v4)
) fun (v12,v13)=> AB (τ:=(List JAC)) (fun k14=> if v12 then
(apnd (α:=JAC) 16 v5 ([x7]:List JAC)).bind fun v15=> k14 v15 else k14 v5
) fun v16=> next6 (v13,v16)
) ([(⟨0,99⟩:JAC),(⟨0,101⟩:JAC),(⟨0,102⟩:JAC),(⟨99,101⟩:JAC),(⟨99,103⟩:JAC),(⟨500,1⟩:JAC),(⟨65535,666⟩:JAC),(⟨65535,65282⟩:JAC)]:List JAC) 0 (v2,[])
) fun (v17,v18)=> some (v18,v17)
def Ez (a0:JAL):Option ((List JAH)×JAL):=
(AN a0 16384).bind fun (v1,v2)=> AB (τ:=(List JAH)) (fun k3=> Aa (σ:=(List JAH)) (fun v4=> k3 v4
) (fun next5 (x6:JAH) i7 v4=> AB (τ:=(List JAH)) (fun k8=> if ((A0 ((BitVec.ofInt 64 (Int.fdiv v1 (2^(min (Int.toNat ((BF (A0 (2*(i7:Int)))).toNat:Int)) 64))) &&& BitVec.ofInt 64 3).toNat:Int))==3) then
(apnd (α:=JAH) 24 v4 ([x6]:List JAH)).bind fun v9=> k8 v9 else k8 v4
) fun v10=> next5 v10
) ([(⟨5,5,5⟩:JAH),(⟨99,0,0⟩:JAH),(⟨99,0,103⟩:JAH),(⟨99,1,102⟩:JAH),(⟨99,101,0⟩:JAH),(⟨99,102,104⟩:JAH),(⟨99,103,101⟩:JAH)]:List JAH) 0 []
) fun v11=> some (v11,v2)
def Du (a0:JAL)(a1:Int)(a2:Bool):Option (JAG×JAL):=
(GT).bind fun v1=>
(AN a0 3).bind fun (v2,v3)=>
(AN v3 4).bind fun (v4,v5)=> AB (τ:=JAL×(List Int)) (fun k6=> CY (σ:=Int×JAL×(List Int)) (fun next7 (v8,v9,v10)=> if (decide (v8 > 0)) then
(AN v9 7).bind fun (v11,v12)=>
(geti ([a1,101,102,201,202,203,301]:List Int) v11).bind fun v13=>
(apnd (α:=Int) 8 v10 ([v13]:List Int)).bind fun v14=> next7 ((A0 (v8-1)),v12,v14) else k6 (v9,v10)
) fuel (v4,v5,([a1]:List Int))
) fun (v15,v16)=>
(Fg a1 a2).bind fun v17=>
(AN v15 3).bind fun (v18,v19)=> AB (τ:=JAL×Int) (fun k20=> if (v18==0) then
(AN v19 3).bind fun (v21,v22)=> k20 (v22,v21) else k20 (v19,v1.MED)
) fun (v23,v24)=>
(AN v23 6).bind fun (v25,v26)=> AB (τ:=JAL×Int) (fun k27=> if (v25==0) then
(AN v26 300).bind fun (v28,v29)=> k27 (v29,v28) else k27 (v26,v1.Pref)
) fun (v30,v31)=>
(CV v30).bind fun (v32,v33)=>
(Ez v33).bind fun (v34,v35)=>
(AN v35 24).bind fun (v36,v37)=> AB (τ:=JAL×(List JAE)×Bool×UInt64×UInt64×Int×(List JAJ)) (fun k38=> if (v36==0) then
(AN v37 300).bind fun (v39,v40)=> k38 (v40,[(⟨false,v16⟩:JAE)],v17.V6,v17.Hi,v17.Lo,(A0 (1+v39)),v1.Other) else AB (τ:=JAL×(List JAE)×Bool×UInt64×UInt64×(List JAJ)) (fun k41=> if (v36==1) then
(geti v16 0).bind fun v42=>
(seti v16 0 103).bind fun v43=> k41 (v37,[(⟨false,v43⟩:JAE)],v17.V6,v17.Hi,v17.Lo,v1.Other) else AB (τ:=JAL×(List JAE)×Bool×UInt64×UInt64×(List JAJ)) (fun k44=> if (v36==2) then k44 (v37,((⟨false,v16⟩:JAE)::([(⟨true,([7,9]:List Int)⟩:JAE)]:List JAE)),v17.V6,v17.Hi,v17.Lo,v1.Other) else AB (τ:=JAL×(List JAE)×Bool×UInt64×UInt64×(List JAJ)) (fun k45=> if (v36==3) then
(apnd (α:=Int) 8 v16 ([99]:List Int)).bind fun v46=> k45 (v37,[(⟨false,v46⟩:JAE)],v17.V6,v17.Hi,v17.Lo,v1.Other) else AB (τ:=JAL×(List JAE)×Bool×UInt64×UInt64×(List JAJ)) (fun k47=> if (v36==4) then
(Fg 104 a2).bind fun v48=> k47 (v37,[(⟨false,v16⟩:JAE)],v48.V6,v48.Hi,v48.Lo,v1.Other) else AB (τ:=JAL×(List JAE)×(List JAJ)) (fun k49=> if (v36==5) then
(apnd (α:=Int) 8 v16 ([64512,701]:List Int)).bind fun v50=> k49 (v37,[(⟨false,v50⟩:JAE)],v1.Other) else AB (τ:=JAL×(List JAE)×(List JAJ)) (fun k51=> if (v36==6) then k51 (v37,[],v1.Other) else AB (τ:=JAL×(List JAJ)) (fun k52=> if (v36==7) then
(AN v37 256).bind fun (v53,v54)=> k52 (v54,[(⟨224,99,([(1:UInt8),(M1 v53)]:List UInt8)⟩:JAJ)]) else k52 (v37,v1.Other)
) fun (v55,v56)=> k51 (v55,[(⟨false,v16⟩:JAE)],v56)
) fun (v57,v58,v59)=> k49 (v57,v58,v59)
) fun (v60,v61,v62)=> k47 (v60,v61,v17.V6,v17.Hi,v17.Lo,v62)
) fun (v63,v64,v65,v66,v67,v68)=> k45 (v63,v64,v65,v66,v67,v68)
) fun (v69,v70,v71,v72,v73,v74)=> k44 (v69,v70,v71,v72,v73,v74)
) fun (v75,v76,v77,v78,v79,v80)=> k41 (v75,v76,v77,v78,v79,v80)
) fun (v81,v82,v83,v84,v85,v86)=> k38 (v81,v82,v83,v84,v85,v1.OTC,v86)
) fun (v87,v88,v89,v90,v91,v92,v93)=> some ((⟨v2,v88,(⟨v89,v90,v91⟩:Addr),v24,v31,v92,v32,v34,v93⟩:JAG),v87)
def Bt (a0:JAL)(a1:Int):Option (JAK×JAL):=
(Dc a0).bind fun (v1,v2)=>
(Du v2 a1 v1.Addr.V6).bind fun (v3,v4)=> some ((⟨v1,a1,v3⟩:JAK),v4)
def BC (a0:List JAC)(a1:JAC):Option Int:= AB (τ:=Unit) (fun k1=> Aa (σ:=Unit) (fun _=> k1 ()
) (fun next2 (x3:JAC) i4 _=> if (JAC.eqd a1 x3) then some (i4:Int) else next2 ()
) a0 0 ()
) fun _=> some (-1)
def A8 (a0:List JAC)(a1:JAC):Option Bool:=
(BC a0 a1).bind fun v1=> some (decide (v1 ≥ 0))
def HF (a0:List JAC)(a1:JAC):Option Bool:=
(A8 a0 a1).bind fun v1=> some v1
def D9 (a0:JAG):Option Bool:=
(HF a0.Communities (⟨65535,666⟩:JAC)).bind fun v1=> some v1
def GA (a0:Addr):Option Bool:= AB (τ:=Bool) (fun k1=> if a0.V6 then k1 true else if ((a0.Hi.toNat:Int)==0) then k1 (cond false true (cond true (decide ((a0.Lo.toNat:Int)<4294967296)) false)) else k1 false
) fun v2=> some v2
def Bl (a0:Addr):Option Int:= if a0.V6 then some 128 else some 32
def FV (a0:Int):Option (UInt64×UInt64):= if (decide (a0 > 64)) then some ((BF (((BF (1*(2^(min (Int.toNat ((BF (A0 (a0-64))).toNat:Int)) 64)))).toNat:Int)-1)),(18446744073709551615:UInt64)) else some ((0:UInt64),(BF (((BF (1*(2^(min (Int.toNat ((BF a0).toNat:Int)) 64)))).toNat:Int)-1)))
def D4 (a0:Addr)(a1:Int):Option Addr:=
(Bl a0).bind fun v1=>
(FV (A0 (v1-a1))).bind fun (v2,v3)=> some (⟨a0.V6,(BF ((BitVec.ofInt 64 (a0.Hi.toNat:Int) &&& ~~~BitVec.ofInt 64 (v2.toNat:Int)).toNat:Int)),(BF ((BitVec.ofInt 64 (a0.Lo.toNat:Int) &&& ~~~BitVec.ofInt 64 (v3.toNat:Int)).toNat:Int))⟩:Addr)
def DX (a0:JAA):Option Bool:= AB (τ:=Bool) (fun k1=>
(GA a0.Addr).bind fun v2=> if v2 then if (cond true (decide (a0.Len ≥ 0)) false) then
(Bl a0.Addr).bind fun v3=> if (cond true (decide (a0.Len<=v3)) false) then
(D4 a0.Addr a0.Len).bind fun v4=> k1 (cond true (Addr.eqd v4 a0.Addr) false) else k1 false else k1 false else k1 false
) fun v5=> some v5
def B6 (a0:Int):Option Bool:= AB (τ:=Bool) (fun k1=> if (decide (a0 ≥ 1)) then k1 (cond true (decide (a0<=4294967295)) false) else k1 false
) fun v2=> some v2
def Em (a0:List JAE):Option Bool:= AB (τ:=Int) (fun k1=> Aa (σ:=Int) (fun v2=> k1 v2
) (fun next3 (x4:JAE) i5 v2=> AB (τ:=Unit) (fun k6=> AB (τ:=Bool) (fun k7=> if ((x4.ASNs.length:Int)==0) then k7 true else if (decide ((i5:Int) > 0)) then if (cond true (!x4.Set) false) then
(geti a0 (A0 ((i5:Int)-1))).bind fun v8=> k7 (cond false true (cond true (!v8.Set) false)) else k7 false else k7 false
) fun v9=> if v9 then some false else AB (τ:=Unit) (fun k10=> Aa (σ:=Unit) (fun _=> k10 ()
) (fun next11 (x12:Int) i13 _=> AB (τ:=Bool) (fun k14=>
(B6 x12).bind fun v15=> if (!v15) then k14 true else if x4.Set then if (cond true (decide ((i13:Int) > 0)) false) then
(geti x4.ASNs (A0 ((i13:Int)-1))).bind fun v16=> k14 (cond false true (cond true (decide (v16 ≥ x12)) false)) else k14 false else k14 false
) fun v17=> if v17 then some false else next11 ()
) x4.ASNs 0 ()
) fun _=> k6 ()
) fun _=> next3 (A0 (v2+(x4.ASNs.length:Int)))
) a0 0 0
) fun v18=> some (decide (v18<=64))
def Bw (a0:Int)(a1:Int)(a2:Int):Option Bool:= AB (τ:=Bool) (fun k1=> if (decide (a0 ≥ a1)) then k1 (cond true (decide (a0<=a2)) false) else k1 false
) fun v2=> some v2
def Dp (a0:List Int):Option Int:= if (decide ((a0.length:Int)<1)) then none else
(geti a0 0).bind fun v1=> AB (τ:=Int) (fun k2=> CY (σ:=Int×Int) (fun next3 (v4,v5)=> if (decide (v5<(a0.length:Int))) then
(geti a0 v5).bind fun v6=> next3 ((if v6<v4 then v6 else v4),(A0 (v5+1))) else k2 v4
) fuel (v1,1)
) fun v7=> some v7
def Dl (a0:List Int):Option Int:= if (decide ((a0.length:Int)<1)) then none else
(geti a0 0).bind fun v1=> AB (τ:=Int) (fun k2=> CY (σ:=Int×Int) (fun next3 (v4,v5)=> if (decide (v5<(a0.length:Int))) then
(geti a0 v5).bind fun v6=> next3 ((if v6 > v4 then v6 else v4),(A0 (v5+1))) else k2 v4
) fuel (v1,1)
) fun v7=> some v7
def Df (a0:Int)(a1:List Int):Option Bool:= AB (τ:=Bool) (fun k1=>
(Dp a1).bind fun v2=> if (decide (v2 ≥ 0)) then
(Dl a1).bind fun v3=> k1 (cond true (decide (v3<=a0)) false) else k1 false
) fun v4=> some v4
def FQ (a0:JAC):Option Bool:=
(Df 65535 ([a0.A,a0.B]:List Int)).bind fun v1=> some v1
def Ep (a0:List Int):Option Int:= AB (τ:=Unit) (fun k1=> Aa (σ:=Unit) (fun _=> k1 ()
) (fun next2 (x3:Int) i4 _=> if (x3 != 0) then some x3 else next2 ()
) a0 0 ()
) fun _=> some 0
def cmp_isNaN_int (a0:Int):Option Bool:= some (a0 != a0)
def cmp_Compare_int (a0:Int)(a1:Int):Option Int:=
(cmp_isNaN_int a0).bind fun v1=>
(cmp_isNaN_int a1).bind fun v2=> if v1 then if v2 then some 0 else some (-1) else if v2 then some 1 else if (decide (a0<a1)) then some (-1) else if (decide (a0 > a1)) then some 1 else some 0
def D5 (a0:JAC)(a1:JAC):Option Int:=
(cmp_Compare_int a0.A a1.A).bind fun v1=>
(cmp_Compare_int a0.B a1.B).bind fun v2=>
(Ep ([v1,v2]:List Int)).bind fun v3=> some v3
def Af (a0:List JAC):Option Bool:= AB (τ:=Unit) (fun k1=> Aa (σ:=Unit) (fun _=> k1 ()
) (fun next2 (x3:JAC) i4 _=> AB (τ:=Bool) (fun k5=>
(FQ x3).bind fun v6=> if (!v6) then k5 true else if (decide ((i4:Int) > 0)) then
(geti a0 (A0 ((i4:Int)-1))).bind fun v7=>
(D5 v7 x3).bind fun v8=> k5 (cond false true (cond true (decide (v8 ≥ 0)) false)) else k5 false
) fun v9=> if v9 then some false else next2 ()
) a0 0 ()
) fun _=> some (decide ((a0.length:Int)<=64))
def Dy (a0:List JAC):Option Bool:=
(Af a0).bind fun v1=> some v1
def DR (a0:JAH):Option Bool:=
(Df 4294967295 ([a0.A,a0.B,a0.C]:List Int)).bind fun v1=> some v1
def CC (a0:JAH)(a1:JAH):Option Int:=
(cmp_Compare_int a0.A a1.A).bind fun v1=>
(cmp_Compare_int a0.B a1.B).bind fun v2=>
(cmp_Compare_int a0.C a1.C).bind fun v3=>
(Ep ([v1,v2,v3]:List Int)).bind fun v4=> some v4
def AZ (a0:List JAH):Option Bool:= AB (τ:=Unit) (fun k1=> Aa (σ:=Unit) (fun _=> k1 ()
) (fun next2 (x3:JAH) i4 _=> AB (τ:=Bool) (fun k5=>
(DR x3).bind fun v6=> if (!v6) then k5 true else if (decide ((i4:Int) > 0)) then
(geti a0 (A0 ((i4:Int)-1))).bind fun v7=>
(CC v7 x3).bind fun v8=> k5 (cond false true (cond true (decide (v8 ≥ 0)) false)) else k5 false
) fun v9=> if v9 then some false else next2 ()
) a0 0 ()
) fun _=> some (decide ((a0.length:Int)<=64))
def B0 (a0:List JAH):Option Bool:=
(AZ a0).bind fun v1=> some v1
def D6 (a0:Int):Option Bool:= AB (τ:=Bool) (fun k1=>
(some (Option.getD (DI Pn a0) 0)).bind fun v2=> if (v2==0) then if (cond true (a0 != 14) false) then k1 (cond true (a0 != 15) false) else k1 false else k1 false
) fun v3=> some v3
def Dh (a0:List JAJ):Option Bool:= AB (τ:=Unit) (fun k1=> Aa (σ:=Unit) (fun _=> k1 ()
) (fun next2 (x3:JAJ) i4 _=> AB (τ:=Bool) (fun k5=>
(D6 x3.Type_).bind fun v6=> if (!v6) then k5 true else
(Bw x3.Type_ 1 255).bind fun v7=> if (cond false true (!v7)) then k5 true else if (cond false true (x3.Flags != 224)) then k5 true else if (cond false true (decide ((x3.Data.length:Int) > 255))) then k5 true else if (decide ((i4:Int) > 0)) then
(geti a0 (A0 ((i4:Int)-1))).bind fun v8=> k5 (cond false true (cond true (decide (v8.Type_ ≥ x3.Type_)) false)) else k5 false
) fun v9=> if v9 then some false else next2 ()
) a0 0 ()
) fun _=> some (decide ((a0.length:Int)<=8))
def Ey (a0:JAG):Option Bool:= AB (τ:=Bool) (fun k1=>
(Bw a0.Origin (-1) 2).bind fun v2=> if v2 then
(Em a0.Path).bind fun v3=> if (cond true v3 false) then
(GA a0.Next).bind fun v4=> if (cond true v4 false) then
(Bw a0.MED (-1) 4294967295).bind fun v5=> if (cond true v5 false) then
(Bw a0.Pref (-1) 4294967295).bind fun v6=> if (cond true v6 false) then if (a0.OTC==(-1)) then
(Dy a0.Communities).bind fun v7=> if (cond true v7 false) then
(B0 a0.JAH).bind fun v8=> if (cond true v8 false) then
(Dh a0.Other).bind fun v9=> k1 (cond true v9 false) else k1 false else k1 false else
(B6 a0.OTC).bind fun v10=> if (cond true (cond false true v10) false) then
(Dy a0.Communities).bind fun v11=> if (cond true v11 false) then
(B0 a0.JAH).bind fun v12=> if (cond true v12 false) then
(Dh a0.Other).bind fun v13=> k1 (cond true v13 false) else k1 false else k1 false else k1 false else k1 false else k1 false else k1 false else k1 false else k1 false
) fun v14=> some v14
def Ft (a0:JAK):Option Bool:= AB (τ:=Bool) (fun k1=>
(DX a0.JAA).bind fun v2=> if v2 then
(Ey a0.JAG).bind fun v3=> if (cond true v3 false) then if (cond true (a0.JAG.Origin != (-1)) false) then if (cond true (decide ((a0.JAG.Path.length:Int) > 0)) false) then if (cond true (!(Addr.eqd a0.JAG.Next (⟨false,(0:UInt64),(0:UInt64)⟩:Addr))) false) then k1 (cond true (a0.JAG.Next.V6==a0.JAA.Addr.V6) false) else k1 false else k1 false else k1 false else k1 false else k1 false
) fun v4=> some v4
def HZ (a0:List JAE):Option (List Int):= AB (τ:=(List Int)) (fun k1=> Aa (σ:=(List Int)) (fun v2=> k1 v2
) (fun next3 (x4:JAE) i5 v2=>
(apnd (α:=Int) 8 v2 x4.ASNs).bind fun v6=> next3 v6
) a0 0 []
) fun v7=> some v7
def Fv (a0:List JAE):Option (Int×Bool):= AB (τ:=Bool) (fun k1=> if ((a0.length:Int)==0) then k1 true else
(Em a0).bind fun v2=> if (cond false true (!v2)) then k1 true else
(geti a0 (A0 ((a0.length:Int)-1))).bind fun v3=> k1 (cond false true v3.Set)
) fun v4=> if v4 then some (0,false) else
(geti a0 (A0 ((a0.length:Int)-1))).bind fun v5=>
(geti v5.ASNs (A0 ((v5.ASNs.length:Int)-1))).bind fun v6=> some (v6,true)
def Gt (a0:List JAE):Option (Int×Bool):= AB (τ:=Bool) (fun k1=> if ((a0.length:Int)==0) then k1 true else
(Em a0).bind fun v2=> if (cond false true (!v2)) then k1 true else
(geti a0 0).bind fun v3=> k1 (cond false true v3.Set)
) fun v4=> if v4 then some (0,false) else
(geti a0 0).bind fun v5=>
(geti v5.ASNs 0).bind fun v6=> some (v6,true)
def EV (a0:JAF):Option (Bool×JAF):=
(Gt a0.r.JAG.Path).bind fun (v1,v2)=> AB (τ:=Bool) (fun k3=> if (!v2) then k3 true else k3 (cond false true (v1 != a0.p.ASN))
) fun v4=> some (v4,a0)
def Bi (a0:List Addr)(a1:Addr):Option Int:= AB (τ:=Unit) (fun k1=> Aa (σ:=Unit) (fun _=> k1 ()
) (fun next2 (x3:Addr) i4 _=> if (Addr.eqd a1 x3) then some (i4:Int) else next2 ()
) a0 0 ()
) fun _=> some (-1)
def BH (a0:List Addr)(a1:Addr):Option Bool:=
(Bi a0 a1).bind fun v1=> some (decide (v1 ≥ 0))
def EX (a0:JAF):Option (Bool×JAF):=
(BH a0.p.Nexts a0.r.JAG.Next).bind fun v1=> some ((!v1),a0)
def Db (a0:List JAE):Option Int:= AB (τ:=Int) (fun k1=> Aa (σ:=Int) (fun v2=> k1 v2
) (fun next3 (x4:JAE) i5 v2=> AB (τ:=Int) (fun k6=> if x4.Set then k6 (A0 (v2+1)) else k6 (A0 (v2+(x4.ASNs.length:Int)))
) fun v7=> next3 v7
) a0 0 0
) fun v8=> some v8
def Eb (a0:JAF):Option (Bool×JAF):=
(Db a0.r.JAG.Path).bind fun v1=> some ((decide (v1 > a0.f.Hops)),a0)
def EE (a0:List Int)(a1:Int):Option Int:= AB (τ:=Unit) (fun k1=> Aa (σ:=Unit) (fun _=> k1 ()
) (fun next2 (x3:Int) i4 _=> if (a1==x3) then some (i4:Int) else next2 ()
) a0 0 ()
) fun _=> some (-1)
def AS (a0:List Int)(a1:Int):Option Bool:=
(EE a0 a1).bind fun v1=> some (decide (v1 ≥ 0))
def EM (a0:JAF):Option (Bool×JAF):=
(AS a0.path a0.f.Own).bind fun v1=> some (v1,a0)
def FW (a0:JAE):Option Bool:= some a0.Set
def Am (a0:List JAE):Option Int:= AB (τ:=Unit) (fun k1=> Aa (σ:=Unit) (fun _=> k1 ()
) (fun next2 (x3:JAE) i4 _=>
(FW x3).bind fun v5=> if v5 then some (i4:Int) else next2 ()
) a0 0 ()
) fun _=> some (-1)
def AY (a0:List JAE):Option Bool:=
(Am a0).bind fun v1=> some (decide (v1 ≥ 0))
def EW (a0:JAF):Option (Bool×JAF):=
(AY a0.r.JAG.Path).bind fun v1=> some (v1,a0)
def BG (a0:Int)(a1:Int)(a2:Int):Option Bool:= AB (τ:=Bool) (fun k1=> if (decide (a0 ≥ a1)) then k1 (cond true (decide (a0<=a2)) false) else k1 false
) fun v2=> some v2
def BM (a0:JAN)(a1:Int):Option (Bool×Int):=
(BG a1 a0.From a0.To).bind fun v1=> some (v1,a1)
def Aj (a0:List JAN)(a1c0:Int):Option (Int×Int):= AB (τ:=Int) (fun k1=> Aa (σ:=Int) (fun v2=> k1 v2
) (fun next3 (x4:JAN) i5 v2=>
(BM x4 v2).bind fun (v6,v7)=> if v6 then some ((i5:Int),v7) else next3 v7
) a0 0 a1c0
) fun v8=> some ((-1),v8)
def AO (a0:List JAN)(a1c0:Int):Option (Bool×Int):=
(Aj a0 a1c0).bind fun (v1,v2)=> some ((decide (v1 ≥ 0)),v2)
def B1 (a0:JAF):Option (Bool×JAF):= AB (τ:=Bool) (fun k1=> AB (τ:=Int) (fun k2=> AB (τ:=Unit) (fun k3=> Aa (σ:=Unit) (fun _=> k3 ()
) (fun next4 (x5:Int) i6 _=> AB (τ:=Bool) (fun k7=>
(AO a0.f.Private x5).bind fun (v8,v9)=> k7 v8
) fun v10=> if v10 then k2 (i6:Int) else next4 ()
) a0.path 0 ()
) fun _=> k2 (-1)
) fun v11=> k1 (decide (v11 ≥ 0))
) fun v12=> some (v12,a0)
def DF (a0:JAF):Option (Bool×JAF):=
(AS a0.f.Free a0.p.ASN).bind fun v1=> if v1 then some (false,a0) else AB (τ:=Bool) (fun k2=> AB (τ:=Int) (fun k3=> AB (τ:=Unit) (fun k4=> Aa (σ:=Unit) (fun _=> k4 ()
) (fun next5 (x6:Int) i7 _=> AB (τ:=Bool) (fun k8=> AB (τ:=Bool) (fun k9=> if (x6 != a0.p.ASN) then
(AS a0.f.Free x6).bind fun v10=> k9 (cond true v10 false) else k9 false
) fun v11=> k8 v11
) fun v12=> if v12 then k3 (i7:Int) else next5 ()
) a0.path 0 ()
) fun _=> k3 (-1)
) fun v13=> k2 (decide (v13 ≥ 0))
) fun v14=> some (v14,a0)
def Jl:Option JAP:= some (⟨3,2,1,0,4⟩:JAP)
def Jh (a0:Int):Option Bool:= AB (τ:=Bool) (fun k1=> if (decide (a0 ≥ 0)) then
(Jl).bind fun v2=> k1 (cond true (decide (a0<5)) false) else k1 false
) fun v3=> some v3
def Im (a0:Int):Option Bool:= AB (τ:=Bool) (fun k1=> if (decide (a0 ≥ 1)) then k1 (cond true (decide (a0<=4294967295)) false) else k1 false
) fun v2=> some v2
def E9 (a0:List Int):Option (List Int):=
(apnd (α:=Int) 8 [] a0).bind fun _=> some a0
def Ew (a0:List UInt8):Option (List UInt8):=
(apnd (α:=UInt8) 1 [] a0).bind fun _=> some a0
def Cj (a0:List JAC):Option (List JAC):=
(apnd (α:=JAC) 16 [] a0).bind fun _=> some a0
def D8 (a0:List JAH):Option (List JAH):=
(apnd (α:=JAH) 24 [] a0).bind fun _=> some a0
def HU (a0:JAG):Option JAG:= AB (τ:=(List JAE)) (fun k1=> Aa (σ:=(List JAE)) (fun v2=> k1 v2
) (fun next3 (x4:JAE) i5 v2=>
(E9 x4.ASNs).bind fun v6=>
(apnd (α:=JAE) 32 v2 ([(⟨x4.Set,v6⟩:JAE)]:List JAE)).bind fun v7=> next3 v7
) a0.Path 0 []
) fun v8=> AB (τ:=(List JAJ)) (fun k9=> Aa (σ:=(List JAJ)) (fun v10=> k9 v10
) (fun next11 (x12:JAJ) i13 v10=>
(Ew x12.Data).bind fun v14=>
(apnd (α:=JAJ) 40 v10 ([{ x12 with Data:=v14 }]:List JAJ)).bind fun v15=> next11 v15
) a0.Other 0 []
) fun v16=>
(Cj a0.Communities).bind fun v17=>
(D8 a0.JAH).bind fun v18=> some ({ a0 with Path:=v8,Communities:=v17,JAH:=v18,Other:=v16 })
def Gk (a0:Int)(a1:Int)(a2:JAG):Option (JAG×Int):= AB (τ:=Bool) (fun k1=>
(Jh a0).bind fun v2=> if (!v2) then k1 true else
(Im a1).bind fun v3=> k1 (cond false true (!v3))
) fun v4=> if v4 then some ((⟨0,[],(⟨false,(0:UInt64),(0:UInt64)⟩:Addr),0,0,0,[],[],[]⟩:JAG),1) else AB (τ:=Bool) (fun k5=> if (a0==0) then k5 true else k5 (cond false true (a0==1))
) fun v6=> AB (τ:=Bool) (fun k7=> if v6 then if (cond true (a2.OTC != (-1)) false) then k7 true else if (a0==4) then if (cond true (a2.OTC != (-1)) false) then k7 (cond false true (cond true (a2.OTC != a1) false)) else k7 false else k7 false else if (a0==4) then if (cond true (a2.OTC != (-1)) false) then k7 (cond false true (cond true (a2.OTC != a1) false)) else k7 false else k7 false
) fun v8=> if v8 then some ((⟨0,[],(⟨false,(0:UInt64),(0:UInt64)⟩:Addr),0,0,0,[],[],[]⟩:JAG),30) else
(HU a2).bind fun v9=> AB (τ:=Bool) (fun k10=> if (!(a2.OTC != (-1))) then k10 (cond true (!v6) false) else k10 false
) fun v11=> AB (τ:=Int) (fun k12=> if v11 then k12 a1 else k12 v9.OTC
) fun v13=> some (({ v9 with OTC:=v13 }),0)
def EK (a0:JAF):Option (Bool×JAF):=
(Gk 1 a0.p.ASN a0.r.JAG).bind fun (v1,v2)=> some ((v2==30),a0)
def Dv (a0:JAA)(a1:Addr):Option Bool:= AB (τ:=Bool) (fun k1=> if (a0.Addr.V6==a1.V6) then if (cond true (decide (a0.Len ≥ 0)) false) then
(Bl a1).bind fun v2=> if (cond true (decide (a0.Len<=v2)) false) then
(D4 a1 a0.Len).bind fun v3=> k1 (cond true (Addr.eqd v3 a0.Addr) false) else k1 false else k1 false else k1 false
) fun v4=> some v4
def Be (a0:JAA)(a1:JAA):Option Bool:= AB (τ:=Bool) (fun k1=> if (decide (a1.Len ≥ a0.Len)) then
(Dv a0 a1.Addr).bind fun v2=> k1 (cond true v2 false) else k1 false
) fun v3=> some v3
def Ee (a0:JAF):Option (Bool×JAF):= AB (τ:=Bool) (fun k1=> AB (τ:=Int) (fun k2=> AB (τ:=Unit) (fun k3=> Aa (σ:=Unit) (fun _=> k3 ()
) (fun next4 (x5:JAA) i6 _=> AB (τ:=Bool) (fun k7=> AB (τ:=Bool) (fun k8=>
(Be x5 a0.r.JAA).bind fun v9=> if v9 then k8 true else
(Be a0.r.JAA x5).bind fun v10=> k8 (cond false true v10)
) fun v11=> k7 v11
) fun v12=> if v12 then k2 (i6:Int) else next4 ()
) a0.f.LANs 0 ()
) fun _=> k2 (-1)
) fun v13=> k1 (decide (v13 ≥ 0))
) fun v14=> some (v14,a0)
def Ef (a0:JAF):Option (Bool×JAF):= AB (τ:=Bool) (fun k1=> AB (τ:=Int) (fun k2=> AB (τ:=Unit) (fun k3=> Aa (σ:=Unit) (fun _=> k3 ()
) (fun next4 (x5:JAA) i6 _=> AB (τ:=Bool) (fun k7=>
(Be x5 a0.r.JAA).bind fun v8=> k7 v8
) fun v9=> if v9 then k2 (i6:Int) else next4 ()
) a0.f.Bogons 0 ()
) fun _=> k2 (-1)
) fun v10=> k1 (decide (v10 ≥ 0))
) fun v11=> some (v11,a0)
def CG (a0:JAF):Option (Bool×JAF):= AB (τ:=Int×Int×Int) (fun k1=> if a0.r.JAA.Addr.V6 then k1 (a0.f.Min6,a0.f.Max6,a0.f.Hole6) else k1 (a0.f.Min4,a0.f.Max4,a0.f.Hole4)
) fun (v2,v3,v4)=> if a0.hole then some ((decide (a0.r.JAA.Len<v4)),a0) else
(BG a0.r.JAA.Len v2 v3).bind fun v5=> some ((!v5),a0)
def Fh (a0:Addr):Option Int:= if a0.V6 then some 128 else some 32
def Ds (a0:List JAB):Option (List JAB):=
(apnd (α:=JAB) 48 [] a0).bind fun _=> some a0
def EC (a0:List JAB):Option (List JAB):=
(Ds a0).bind fun v1=> AB (τ:=(List JAB)) (fun k2=> CY (σ:=Int×(List JAB)) (fun next3 (v4,v5)=> if (decide (v4<(v1.length:Int))) then
(geti v5 v4).bind fun v6=>
(Fh v6.JAA.Addr).bind fun v7=>
(geti v5 v4).bind fun v8=>
(seti v5 v4 ({ v8 with Max:=v7 })).bind fun v9=> next3 ((A0 (v4+1)),v9) else k2 v5
) fuel (0,v1)
) fun v10=> some v10
def Ln (a0:Int):Option Bool:=
(B6 a0).bind fun v1=> some (!v1)
def Fz (a0:Int)(a1:Int)(a2:Int):Option Bool:= AB (τ:=Bool) (fun k1=> if (decide (a0 ≥ a1)) then k1 (cond true (decide (a0<=a2)) false) else k1 false
) fun v2=> some v2
def FY (a0:ByteArray):Option Bool:=
(Sz a0 (ByteArray.mk (List.toArray (List.cons 97 (List.cons 98 (List.cons 99 (List.cons 100 (List.cons 101 (List.cons 102 (List.cons 103 (List.cons 104 (List.cons 105 (List.cons 106 (List.cons 107 (List.cons 108 (List.cons 109 (List.cons 110 (List.cons 111 (List.cons 112 (List.cons 113 (List.cons 114 (List.cons 115 (List.cons 116 (List.cons 117 (List.cons 118 (List.cons 119 (List.cons 120 (List.cons 121 (List.cons 122 (List.cons 65 (List.cons 66 (List.cons 67 (List.cons 68 (List.cons 69 (List.cons 70 (List.cons 71 (List.cons 72 (List.cons 73 (List.cons 74 (List.cons 75 (List.cons 76 (List.cons 77 (List.cons 78 (List.cons 79 (List.cons 80 (List.cons 81 (List.cons 82 (List.cons 83 (List.cons 84 (List.cons 85 (List.cons 86 (List.cons 87 (List.cons 88 (List.cons 89 (List.cons 90 (List.cons 48 (List.cons 49 (List.cons 50 (List.cons 51 (List.cons 52 (List.cons 53 (List.cons 54 (List.cons 55 (List.cons 56 (List.cons 57 (List.cons 45 (List.cons 58 List.nil))))))))))))))))))))))))))))))))))))))))))))))))))))))))))))))))))).bind fun v1=> AB (τ:=Bool) (fun k2=>
(Fz (a0.size:Int) 1 32).bind fun v3=> if v3 then k2 (cond true (v1.toList==(ByteArray.mk (List.toArray List.nil)).toList) false) else k2 false
) fun v4=> some v4
def Lc (a0:ByteArray):Option Bool:=
(FY a0).bind fun v1=> some (!v1)
def BQ (a0:List Int):Option Int:= AB (τ:=Unit) (fun k1=> Aa (σ:=Unit) (fun _=> k1 ()
) (fun next2 (x3:Int) i4 _=>
(Ln x3).bind fun v5=> if v5 then some (i4:Int) else next2 ()
) a0 0 ()
) fun _=> some (-1)
def A5 (a0:List Int):Option Bool:=
(BQ a0).bind fun v1=> some (decide (v1 ≥ 0))
def BA (a0:List ByteArray):Option Int:= AB (τ:=Unit) (fun k1=> Aa (σ:=Unit) (fun _=> k1 ()
) (fun next2 (x3:ByteArray) i4 _=>
(Lc x3).bind fun v5=> if v5 then some (i4:Int) else next2 ()
) a0 0 ()
) fun _=> some (-1)
def As (a0:List ByteArray):Option Bool:=
(BA a0).bind fun v1=> some (decide (v1 ≥ 0))
def NL (a0:Set):Option Bool:= AB (τ:=Bool) (fun k1=>
(FY a0.Name).bind fun v2=> if v2 then if (cond true (decide ((a0.ASNs.length:Int)<=64)) false) then if (cond true (decide ((a0.Sets.length:Int)<=64)) false) then
(A5 a0.ASNs).bind fun v3=> if (cond true (!v3) false) then
(As a0.Sets).bind fun v4=> k1 (cond true (!v4) false) else k1 false else k1 false else k1 false else k1 false
) fun v5=> some v5
def JA (a0:JAA):Option Int:= if a0.Addr.V6 then some 128 else some 32
def E5 (a0:JAD):Option Bool:= AB (τ:=Unit) (fun k1=> Aa (σ:=(List (ByteArray×Bool))) (fun v2=> k1 ()
) (fun next3 (x4:Set) i5 v2=> AB (τ:=Bool) (fun k6=>
(some (Option.getD (DI v2 x4.Name) false)).bind fun v7=> if v7 then k6 true else
(NL x4).bind fun v8=> k6 (cond false true (!v8))
) fun v9=> if v9 then some false else next3 (CW v2 x4.Name true)
) a0.Sets 0 []
) fun _=> AB (τ:=Unit) (fun k10=> Aa (σ:=Unit) (fun _=> k10 ()
) (fun next11 (x12:JAB) i13 _=> AB (τ:=Bool) (fun k14=>
(DX x12.JAA).bind fun v15=> if (!v15) then k14 true else if (cond false true (decide (x12.Max<x12.JAA.Len))) then k14 true else
(JA x12.JAA).bind fun v16=> if (cond false true (decide (x12.Max > v16))) then k14 true else
(B6 x12.ASN).bind fun v17=> k14 (cond false true (!v17))
) fun v18=> if v18 then some false else next11 ()
) a0.Objects 0 ()
) fun _=> AB (τ:=Bool) (fun k19=> if (decide ((a0.Sets.length:Int)<=64)) then k19 (cond true (decide ((a0.Objects.length:Int)<=512)) false) else k19 false
) fun v20=> some v20
def DL (a0:JAD)(a1:ByteArray):Option ((List Int)×(List ByteArray)×Int):=
(E5 a0).bind fun v1=> if (!v1) then some ([],[],1) else AB (τ:=(List (ByteArray×Set))) (fun k2=> Aa (σ:=(List (ByteArray×Set))) (fun v3=> k2 v3
) (fun next4 (x5:Set) i6 v3=> next4 (CW v3 x5.Name x5)
) a0.Sets 0 []
) fun v7=>
(some (Option.getD (DI v7 a1) (⟨ByteArray.empty,[],[]⟩:Set))).bind fun v8=>
(some (Option.isSome (DI v7 a1))).bind fun v9=> if (!v9) then some ([],[],11) else AB (τ:=(List (Int×Bool))×(List (ByteArray×Bool))) (fun k10=> CY (σ:=(List (ByteArray×Bool))×(List (Int×Bool))×(List (ByteArray×Bool))×(List ByteArray)) (fun next11 (v12,v13,v14,v15)=> if (decide ((v15.length:Int) > 0)) then AB (τ:=(List (ByteArray×Bool))×(List (Int×Bool))×(List (ByteArray×Bool))×(List ByteArray)) (fun k16=>
(geti v15 0).bind fun v17=>
(some (Option.getD (DI v7 v17) (⟨ByteArray.empty,[],[]⟩:Set))).bind fun v18=>
(some (Option.isSome (DI v7 v17))).bind fun v19=> AB (τ:=(List (ByteArray×Bool))×(List (Int×Bool))×(List (ByteArray×Bool))×(List ByteArray)) (fun k20=> AB (τ:=(List (ByteArray×Bool))×(List (Int×Bool))×(List (ByteArray×Bool))×(List ByteArray)) (fun k21=> if (!v19) then
(geti v15 0).bind fun v22=> k21 (v12,v13,(CW v14 v22 true),v15) else
(some (Option.getD (DI v12 v18.Name) false)).bind fun v23=> AB (τ:=(List (ByteArray×Bool))×(List (Int×Bool))×(List ByteArray)) (fun k24=> if (!v23) then AB (τ:=(List (Int×Bool))) (fun k25=> Aa (σ:=(List (Int×Bool))) (fun v26=> k25 v26
) (fun next27 (x28:Int) i29 v26=> next27 (CW v26 x28 true)
) v18.ASNs 0 v13
) fun v30=>
(apnd (α:=ByteArray) 16 v15 v18.Sets).bind fun v31=> k24 ((CW v12 v18.Name true),v30,v31) else k24 (v12,v13,v15)
) fun (v32,v33,v34)=> k21 (v32,v33,v14,v34)
) fun (v35,v36,v37,v38)=> k20 (v35,v36,v37,v38)
) fun (v39,v40,v41,v42)=> k16 (v39,v40,v41,v42)
) fun (v43,v44,v45,v46)=>
(part v46 1 (v46.length:Int)).bind fun v47=> next11 (v43,v44,v45,v47) else k10 (v13,v14)
) fuel ([],[],[],([a1]:List ByteArray))
) fun (v48,v49)=>
(Of v48).bind fun v50=>
(O7 v49).bind fun v51=> some (v50,v51,0)
def CN (a0:List JAB)(a1:JAA)(a2:Int):Option Int:=
(DX a1).bind fun v1=> if (!v1) then some 1 else AB (τ:=Int) (fun k2=> Aa (σ:=Int) (fun v3=> k2 v3
) (fun next4 (x5:JAB) i6 v3=> AB (τ:=Int) (fun k7=> if (x5.ASN != a2) then k7 v3 else
(Be x5.JAA a1).bind fun v8=> AB (τ:=Int) (fun k9=> if (!v8) then AB (τ:=Int) (fun k10=> if (v3==11) then k10 7 else k10 v3
) fun v11=> k9 v11 else if (decide (a1.Len > x5.Max)) then k9 9 else some 0
) fun v12=> k7 v12
) fun v13=> next4 v13
) a0 0 11
) fun v14=> some v14
def A2 (a0:List JAB):Option (List JAB):=
(apnd (α:=JAB) 48 ([]:List JAB) a0).bind fun v1=> some v1
def GL (a0:Addr):Option Int:= if a0.V6 then some 1 else some 0
def EN (a0:UInt64):Option Bool:= some ((a0.toNat:Int) != (a0.toNat:Int))
def Cb (a0:UInt64)(a1:UInt64):Option Int:=
(EN a0).bind fun v1=>
(EN a1).bind fun v2=> if v1 then if v2 then some 0 else some (-1) else if v2 then some 1 else if (decide ((a0.toNat:Int)<(a1.toNat:Int))) then some (-1) else if (decide ((a0.toNat:Int) > (a1.toNat:Int))) then some 1 else some 0
def Nl (a0:Addr)(a1:Addr):Option Int:=
(GL a0).bind fun v1=>
(GL a1).bind fun v2=>
(cmp_Compare_int v1 v2).bind fun v3=>
(Cb a0.Hi a1.Hi).bind fun v4=>
(Cb a0.Lo a1.Lo).bind fun v5=>
(Ep ([v3,v4,v5]:List Int)).bind fun v6=> some v6
def Jj (a0:JAA)(a1:JAA):Option Int:=
(Nl a0.Addr a1.Addr).bind fun v1=>
(cmp_Compare_int a0.Len a1.Len).bind fun v2=>
(Ep ([v1,v2]:List Int)).bind fun v3=> some v3
def Ej (a0:JAB)(a1:JAB):Option Int:=
(Jj a0.JAA a1.JAA).bind fun v1=>
(cmp_Compare_int a0.Max a1.Max).bind fun v2=>
(cmp_Compare_int a0.ASN a1.ASN).bind fun v3=>
(Ep ([v1,v2,v3]:List Int)).bind fun v4=> some v4
def A9 (a0:List JAB):Option (List JAB):= if (decide ((a0.length:Int)<2)) then some a0 else AB (τ:=Unit) (fun k1=> CY (σ:=Int) (fun next2 v3=> if (decide (v3<(a0.length:Int))) then AB (τ:=Unit) (fun k4=>
(geti a0 v3).bind fun v5=>
(geti a0 (A0 (v3-1))).bind fun v6=> if (JAB.eqd v5 v6) then
(chk (0<=v3/\v3<=(a0.length:Int)/\(a0.length:Int)<=(a0.length:Int))).bind fun _=> AB (τ:=Int×(List JAB)) (fun k7=> CY (σ:=Int×Int×(List JAB)) (fun next8 (v9,v10,v11)=> if (decide (v10<(((Int.toNat (a0.length:Int)-Int.toNat v3):Nat):Int))) then
(geti (List.take (Int.toNat (a0.length:Int)-Int.toNat v3) (List.drop (Int.toNat v3) v11)) v10).bind fun v12=>
(geti (List.take (Int.toNat (a0.length:Int)-Int.toNat v3) (List.drop (Int.toNat v3) v11)) (A0 (v10-1))).bind fun v13=> AB (τ:=Int×(List JAB)) (fun k14=> if (!(JAB.eqd v12 v13)) then
(geti (List.take (Int.toNat (a0.length:Int)-Int.toNat v3) (List.drop (Int.toNat v3) v11)) v10).bind fun v15=>
(geti v11 v9).bind fun v16=>
(seti v11 v9 v15).bind fun v17=> k14 ((A0 (v9+1)),v17) else k14 (v9,v11)
) fun (v18,v19)=> next8 (v18,(A0 (v10+1)),v19) else k7 (v9,v11)
) fuel (v3,1,a0)
) fun (v20,v21)=>
(chk (0<=v20/\v20<=(v21.length:Int)/\(v21.length:Int)<=(v21.length:Int))).bind fun _=>
(part (List.take (Int.toNat v20) v21++List.replicate (Int.toNat (v21.length:Int)-Int.toNat v20) (⟨(⟨(⟨false,(0:UInt64),(0:UInt64)⟩:Addr),0⟩:JAA),0,0⟩:JAB)++List.drop ((Int.toNat v20)+(Int.toNat (v21.length:Int)-Int.toNat v20)) v21) 0 v20).bind fun v22=> some v22 else k4 ()
) fun _=> next2 (A0 (v3+1)) else k1 ()
) fuel 1
) fun _=> some a0
def HQ (a0:List JAB):Option (List JAB):=
(A2 a0).bind fun v1=>
(I7 Ej v1).bind fun v2=>
(A9 v2).bind fun v3=> some v3
def H8 (a0:JAB)(a1:List Int):Option (Bool×(List Int)):=
(AS a1 a0.ASN).bind fun v1=> some ((!v1),a1)
def Ai (a0:List JAB)(a1c0:List Int):Option (Int×(List Int)):= AB (τ:=(List Int)) (fun k1=> Aa (σ:=(List Int)) (fun v2=> k1 v2
) (fun next3 (x4:JAB) i5 v2=>
(H8 x4 v2).bind fun (v6,v7)=> if v6 then some ((i5:Int),v7) else next3 v7
) a0 0 a1c0
) fun v8=> some ((-1),v8)
def Ak (a0:List JAB)(a1c0:List Int):Option ((List JAB)×(List Int)):=
(Ai a0 a1c0).bind fun (v1,v2)=> if (v1==(-1)) then some (a0,v2) else AB (τ:=Int×(List JAB)×(List Int)) (fun k3=> CY (σ:=Int×Int×(List JAB)×(List Int)) (fun next4 (v5,v6,v7,v8)=> if (decide (v6<(v7.length:Int))) then
(geti v7 v6).bind fun v9=>
(H8 v9 v8).bind fun (v10,v11)=> AB (τ:=Int×(List JAB)) (fun k12=> if (!v10) then
(geti v7 v5).bind fun v13=>
(seti v7 v5 v9).bind fun v14=> k12 ((A0 (v5+1)),v14) else k12 (v5,v7)
) fun (v15,v16)=> next4 (v15,(A0 (v6+1)),v16,v11) else k3 (v5,v7,v8)
) fuel (v1,(A0 (v1+1)),a0,v2)
) fun (v17,v18,v19)=>
(chk (0<=v17/\v17<=(v18.length:Int)/\(v18.length:Int)<=(v18.length:Int))).bind fun _=>
(part (List.take (Int.toNat v17) v18++List.replicate (Int.toNat (v18.length:Int)-Int.toNat v17) (⟨(⟨(⟨false,(0:UInt64),(0:UInt64)⟩:Addr),0⟩:JAA),0,0⟩:JAB)++List.drop ((Int.toNat v17)+(Int.toNat (v18.length:Int)-Int.toNat v17)) v18) 0 v17).bind fun v20=> some (v20,v19)
def Fa (a0:JAD)(a1:List Int):Option (List JAB):=
(A2 a0.Objects).bind fun v1=>
(Ak v1 a1).bind fun (v2,v3)=>
(HQ v2).bind fun v4=> some v4
def Bq (a0:JAD)(a1:Int)(a2:ByteArray)(a3:JAA)(a4:Int):Option Int:=
(E5 a0).bind fun v1=> if (!v1) then some 1 else AB (τ:=(List Int)) (fun k2=> if (!(a2.toList==(ByteArray.mk (List.toArray List.nil)).toList)) then
(DL a0 a2).bind fun (v3,v4,v5)=> if (v5 != 0) then some v5 else
(apnd (α:=Int) 8 ([a1]:List Int) v3).bind fun v6=> k2 v6 else k2 ([a1]:List Int)
) fun v7=>
(AS v7 a4).bind fun v8=> if (!v8) then some 17 else
(Fa a0 v7).bind fun v9=>
(CN v9 a3 a4).bind fun v10=> some v10
def EP (a0:JAF):Option (Bool×JAF):= AB (τ:=(List JAB)) (fun k1=> if a0.hole then
(EC a0.f.JAD.Objects).bind fun v2=> k1 v2 else k1 a0.f.JAD.Objects
) fun v3=>
(Bq (⟨a0.f.JAD.Sets,v3⟩:JAD) a0.p.ASN a0.p.Set a0.r.JAA a0.origin).bind fun v4=> some ((v4 != 0),a0)
def Gn (a0:List JAB)(a1:JAA)(a2:Int):Option (Int×(List JAB)):= AB (τ:=Int×(List JAB)) (fun k1=> Aa (σ:=Int×(List JAB)) (fun (v2,v3)=> k1 (v2,v3)
) (fun next4 (x5:JAB) i6 (v2,v3)=> AB (τ:=Int×(List JAB)) (fun k7=>
(Be x5.JAA a1).bind fun v8=> if (!v8) then k7 (v2,v3) else
(apnd (α:=JAB) 48 v3 ([x5]:List JAB)).bind fun v9=> AB (τ:=Bool) (fun k10=> if (x5.ASN==a2) then if (cond true (a2 != 0) false) then k10 (cond true (decide (x5.Max ≥ a1.Len)) false) else k10 false else k10 false
) fun v11=> AB (τ:=Int) (fun k12=> if v11 then k12 1 else AB (τ:=Int) (fun k13=> if (v2==0) then k13 2 else k13 v2
) fun v14=> k12 v14
) fun v15=> k7 (v15,v9)
) fun (v16,v17)=> next4 (v16,v17)
) a0 0 (0,[])
) fun (v18,v19)=> some (v18,v19)
def Dx (a0:JAF):Option (Bool×JAF):= AB (τ:=(List JAB)) (fun k1=> if a0.hole then
(EC a0.f.Origins).bind fun v2=> k1 v2 else k1 a0.f.Origins
) fun v3=>
(Gn v3 a0.r.JAA a0.origin).bind fun (v4,v5)=> some ((v4==2),a0)
def H4:Option (List JAM):= some ([(⟨2,102⟩:JAM),(⟨3,104⟩:JAM),(⟨4,106⟩:JAM),(⟨5,108⟩:JAM),(⟨6,110⟩:JAM),(⟨7,113⟩:JAM),(⟨8,114⟩:JAM),(⟨9,115⟩:JAM),(⟨10,117⟩:JAM),(⟨11,120⟩:JAM),(⟨12,122⟩:JAM),(⟨13,123⟩:JAM),(⟨14,125⟩:JAM)]:List JAM)
def ES (a0:JAI)(a1:JAO)(a2:JAK)(a3:Int):Option (List Int):=
(Ft a2).bind fun v1=> if (!v1) then some ([1]:List Int) else
(HZ a2.JAG.Path).bind fun v2=>
(D9 a2.JAG).bind fun v3=>
(Fv a2.JAG.Path).bind fun (v4,v5)=> AB (τ:=Int) (fun k6=> if v5 then k6 v4 else k6 (-1)
) fun v7=>
(H4).bind fun v8=> AB (τ:=(List Int)) (fun k9=> Aa (σ:=JAF×(List Int)) (fun (v10,v11)=> k9 v11
) (fun next12 (x13:JAM) i14 (v10,v11)=> AB (τ:=Bool×JAF) (fun k15=> if (decide ((v11.length:Int)<a3)) then if (x13.refuses==102) then
(EV v10).bind fun (v16,v17)=> k15 ((cond true v16 false),v17) else if (x13.refuses==104) then
(EX v10).bind fun (v18,v19)=> k15 ((cond true v18 false),v19) else if (x13.refuses==106) then
(Eb v10).bind fun (v20,v21)=> k15 ((cond true v20 false),v21) else if (x13.refuses==108) then
(EM v10).bind fun (v22,v23)=> k15 ((cond true v22 false),v23) else if (x13.refuses==110) then
(EW v10).bind fun (v24,v25)=> k15 ((cond true v24 false),v25) else if (x13.refuses==113) then
(B1 v10).bind fun (v26,v27)=> k15 ((cond true v26 false),v27) else if (x13.refuses==114) then
(DF v10).bind fun (v28,v29)=> k15 ((cond true v28 false),v29) else if (x13.refuses==115) then
(EK v10).bind fun (v30,v31)=> k15 ((cond true v30 false),v31) else if (x13.refuses==117) then
(Ee v10).bind fun (v32,v33)=> k15 ((cond true v32 false),v33) else if (x13.refuses==120) then
(Ef v10).bind fun (v34,v35)=> k15 ((cond true v34 false),v35) else if (x13.refuses==122) then
(CG v10).bind fun (v36,v37)=> k15 ((cond true v36 false),v37) else if (x13.refuses==123) then
(EP v10).bind fun (v38,v39)=> k15 ((cond true v38 false),v39) else if (x13.refuses==125) then
(Dx v10).bind fun (v40,v41)=> k15 ((cond true v40 false),v41) else none else k15 (false,v10)
) fun (v42,v43)=> AB (τ:=(List Int)) (fun k44=> if v42 then
(apnd (α:=Int) 8 v11 ([x13.reason]:List Int)).bind fun v45=> k44 v45 else k44 v11
) fun v46=> next12 (v43,v46)
) v8 0 ((⟨a0,a1,a2,v2,v7,v3⟩:JAF),[])
) fun v47=> some v47
def Ci (a0:JAI)(a1:JAO)(a2:JAK):Option Int:=
(ES a0 a1 a2 1).bind fun v1=> if (decide ((v1.length:Int) > 0)) then
(geti v1 0).bind fun v2=> some v2 else some 0
def E8 (a0:List JAE):Option Bool:= AB (τ:=Int) (fun k1=> Aa (σ:=Int) (fun v2=> k1 v2
) (fun next3 (x4:JAE) i5 v2=> AB (τ:=Unit) (fun k6=> AB (τ:=Bool) (fun k7=> if ((x4.ASNs.length:Int)==0) then k7 true else if (decide ((i5:Int) > 0)) then if (cond true (!x4.Set) false) then
(geti a0 (A0 ((i5:Int)-1))).bind fun v8=> k7 (cond false true (cond true (!v8.Set) false)) else k7 false else k7 false
) fun v9=> if v9 then some false else AB (τ:=Unit) (fun k10=> Aa (σ:=Unit) (fun _=> k10 ()
) (fun next11 (x12:Int) i13 _=> AB (τ:=Bool) (fun k14=> if (decide (x12<1)) then k14 true else if (cond false true (decide (x12 > 4294967295))) then k14 true else if x4.Set then if (cond true (decide ((i13:Int) > 0)) false) then
(geti x4.ASNs (A0 ((i13:Int)-1))).bind fun v15=> k14 (cond false true (cond true (decide (v15 ≥ x12)) false)) else k14 false else k14 false
) fun v16=> if v16 then some false else next11 ()
) x4.ASNs 0 ()
) fun _=> k6 ()
) fun _=> next3 (A0 (v2+(x4.ASNs.length:Int)))
) a0 0 0
) fun v17=> some (decide (v17<=64))
def GR (a0:List JAE):Option (Int×Bool):= AB (τ:=Bool) (fun k1=>
(E8 a0).bind fun v2=> if (!v2) then k1 true else if (cond false true ((a0.length:Int)==0)) then k1 true else
(geti a0 0).bind fun v3=> k1 (cond false true v3.Set)
) fun v4=> if v4 then some (0,false) else
(geti a0 0).bind fun v5=>
(geti v5.ASNs 0).bind fun v6=> some (v6,true)
def GB (a0:List JAE):Option (List Int):= AB (τ:=(List Int)) (fun k1=> Aa (σ:=(List Int)) (fun v2=> k1 v2
) (fun next3 (x4:JAE) i5 v2=>
(apnd (α:=Int) 8 v2 x4.ASNs).bind fun v6=> next3 v6
) a0 0 []
) fun v7=> some v7
def Fo (a0:List JAE):Option (Int×Bool):= AB (τ:=Bool) (fun k1=>
(E8 a0).bind fun v2=> if (!v2) then k1 true else if (cond false true ((a0.length:Int)==0)) then k1 true else
(geti a0 (A0 ((a0.length:Int)-1))).bind fun v3=> k1 (cond false true v3.Set)
) fun v4=> if v4 then some (0,false) else
(GB a0).bind fun v5=>
(geti v5 (A0 ((v5.length:Int)-1))).bind fun v6=> some (v6,true)
def CJ (a0:Addr):Option Bool:= AB (τ:=Bool) (fun k1=> if a0.V6 then k1 true else if ((a0.Hi.toNat:Int)==0) then k1 (cond false true (cond true (decide ((a0.Lo.toNat:Int)<4294967296)) false)) else k1 false
) fun v2=> some v2
def C5 (a0:Addr):Option Int:= if a0.V6 then some 128 else some 32
def Ha (a0:Addr):Option (List UInt8):=
(CJ a0).bind fun v1=> if (!v1) then some [] else AB (τ:=Int) (fun k2=> if a0.V6 then k2 16 else k2 4
) fun v3=> AB (τ:=(List UInt8)) (fun k4=> CY (σ:=Int×(List UInt8)) (fun next5 (v6,v7)=> if (decide (v6 ≥ 0)) then AB (τ:=UInt64) (fun k8=> if (decide (v6 ≥ 8)) then k8 a0.Hi else k8 a0.Lo
) fun v9=>
(apnd (α:=UInt8) 1 v7 ([(M1 ((BF (Int.fdiv (v9.toNat:Int) (2^(min (Int.toNat ((BF (8*((BF (Int.tmod v6 8)).toNat:Int))).toNat:Int)) 64)))).toNat:Int))]:List UInt8)).bind fun v10=> next5 ((A0 (v6-1)),v10) else k4 v7
) fuel ((A0 (v3-1)),[])
) fun v11=> some v11
def Br (a0:List UInt8):Option (Addr×Int):= AB (τ:=Bool) (fun k1=> if ((a0.length:Int) != 4) then k1 (cond true ((a0.length:Int) != 16) false) else k1 false
) fun v2=> if v2 then some ((⟨false,(0:UInt64),(0:UInt64)⟩:Addr),1) else AB (τ:=Addr) (fun k3=> Aa (σ:=Addr) (fun v4=> k3 v4
) (fun next5 (x6:UInt8) i7 v4=> next5 (⟨v4.V6,(BF ((BitVec.ofInt 64 ((BF ((v4.Hi.toNat:Int)*(2^(min (Int.toNat 8) 64)))).toNat:Int) ||| BitVec.ofInt 64 ((BF (Int.fdiv (v4.Lo.toNat:Int) (2^(min (Int.toNat 56) 64)))).toNat:Int)).toNat:Int)),(BF ((BitVec.ofInt 64 ((BF ((v4.Lo.toNat:Int)*(2^(min (Int.toNat 8) 64)))).toNat:Int) ||| BitVec.ofInt 64 ((BF (x6.toNat:Int)).toNat:Int)).toNat:Int))⟩:Addr)
) a0 0 (⟨((a0.length:Int)==16),(0:UInt64),(0:UInt64)⟩:Addr)
) fun v8=> some (v8,0)
def Do (a0:Addr)(a1:Int):Option (JAA×Int):=
(CJ a0).bind fun v1=> if (!v1) then some ((⟨(⟨false,(0:UInt64),(0:UInt64)⟩:Addr),0⟩:JAA),1) else AB (τ:=Bool) (fun k2=> if (decide (a1<0)) then k2 true else
(C5 a0).bind fun v3=> k2 (cond false true (decide (a1 > v3)))
) fun v4=> if v4 then some ((⟨(⟨false,(0:UInt64),(0:UInt64)⟩:Addr),0⟩:JAA),9) else
(Ha a0).bind fun v5=> AB (τ:=(List UInt8)) (fun k6=> CY (σ:=Int×(List UInt8)) (fun next7 (v8,v9)=> if (decide (v8<(A0 (8*(v9.length:Int))))) then
(geti v9 (A0 (Int.tdiv v8 8))).bind fun v10=>
(geti v9 (A0 (Int.tdiv v8 8))).bind fun v11=>
(seti v9 (A0 (Int.tdiv v8 8)) (M1 ((BitVec.ofInt 8 (v10.toNat:Int) &&& ~~~BitVec.ofInt 8 ((M1 (Int.fdiv 128 (2^(min (Int.toNat ((BF (Int.tmod v8 8)).toNat:Int)) 8)))).toNat:Int)).toNat:Int))).bind fun v12=> next7 ((A0 (v8+1)),v12) else k6 v9
) fuel (a1,v5)
) fun v13=>
(Br v13).bind fun (v14,v15)=> some ((⟨v14,a1⟩:JAA),0)
def Dm (a0:JAA)(a1:Addr):Option Bool:=
(Do a1 a0.Len).bind fun (v1,v2)=> AB (τ:=Bool) (fun k3=> if (v2==0) then k3 (cond true (JAA.eqd v1 a0) false) else k3 false
) fun v4=> some v4
def BE (a0:JAA)(a1:JAA):Option Bool:= AB (τ:=Bool) (fun k1=> if (decide (a1.Len ≥ a0.Len)) then
(Dm a0 a1.Addr).bind fun v2=> k1 (cond true v2 false) else k1 false
) fun v3=> some v3
def H9 (a0:List JAE)(a1:Int):Option Bool:=
(GB a0).bind fun v1=> AB (τ:=Unit) (fun k2=> Aa (σ:=Unit) (fun _=> k2 ()
) (fun next3 (x4:Int) i5 _=> if (x4==a1) then some true else next3 ()
) v1 0 ()
) fun _=> some false
def FN (a0:JAA):Option Bool:=
(DX a0).bind fun v1=> some (!v1)
def FP (a0:JAN):Option Bool:= AB (τ:=Bool) (fun k1=> if (decide (a0.From<0)) then k1 true else if (cond false true (decide (a0.From > a0.To))) then k1 true else k1 (cond false true (decide (a0.To > 4294967295)))
) fun v2=> some v2
def FD (a0:Int):Option Bool:=
(BG a0 1 4294967295).bind fun v1=> some (!v1)
def FI (a0:JAB):Option Bool:= AB (τ:=Bool) (fun k1=>
(DX a0.JAA).bind fun v2=> if (!v2) then k1 true else
(Fh a0.JAA.Addr).bind fun v3=>
(BG a0.Max a0.JAA.Len v3).bind fun v4=> if (cond false true (!v4)) then k1 true else
(BG a0.ASN 0 4294967295).bind fun v5=> k1 (cond false true (!v5))
) fun v6=> some v6
def Ap (a0:List JAA):Option Int:= AB (τ:=Unit) (fun k1=> Aa (σ:=Unit) (fun _=> k1 ()
) (fun next2 (x3:JAA) i4 _=>
(FN x3).bind fun v5=> if v5 then some (i4:Int) else next2 ()
) a0 0 ()
) fun _=> some (-1)
def AQ (a0:List JAA):Option Bool:=
(Ap a0).bind fun v1=> some (decide (v1 ≥ 0))
def Az (a0:List JAN):Option Int:= AB (τ:=Unit) (fun k1=> Aa (σ:=Unit) (fun _=> k1 ()
) (fun next2 (x3:JAN) i4 _=>
(FP x3).bind fun v5=> if v5 then some (i4:Int) else next2 ()
) a0 0 ()
) fun _=> some (-1)
def Ag (a0:List JAN):Option Bool:=
(Az a0).bind fun v1=> some (decide (v1 ≥ 0))
def BD (a0:List Int):Option Int:= AB (τ:=Unit) (fun k1=> Aa (σ:=Unit) (fun _=> k1 ()
) (fun next2 (x3:Int) i4 _=>
(FD x3).bind fun v5=> if v5 then some (i4:Int) else next2 ()
) a0 0 ()
) fun _=> some (-1)
def Aw (a0:List Int):Option Bool:=
(BD a0).bind fun v1=> some (decide (v1 ≥ 0))
def Ao (a0:List JAB):Option Int:= AB (τ:=Unit) (fun k1=> Aa (σ:=Unit) (fun _=> k1 ()
) (fun next2 (x3:JAB) i4 _=>
(FI x3).bind fun v5=> if v5 then some (i4:Int) else next2 ()
) a0 0 ()
) fun _=> some (-1)
def Ab (a0:List JAB):Option Bool:=
(Ao a0).bind fun v1=> some (decide (v1 ≥ 0))
def Fe (a0:JAI):Option Bool:= AB (τ:=Bool) (fun k1=>
(BG a0.Own 1 4294967295).bind fun v2=> if (!v2) then k1 true else if (cond false true (decide ((a0.LANs.length:Int) > 8))) then k1 true else if (cond false true (decide ((a0.Bogons.length:Int) > 64))) then k1 true else if (cond false true (decide ((a0.Private.length:Int) > 64))) then k1 true else if (cond false true (decide ((a0.Free.length:Int) > 64))) then k1 true else k1 (cond false true (decide ((a0.Origins.length:Int) > 512)))
) fun v3=> if v3 then some false else AB (τ:=Bool) (fun k4=> if (decide (a0.Min4<0)) then k4 true else if (cond false true (decide (a0.Min4 > a0.Max4))) then k4 true else if (cond false true (decide (a0.Max4 > 32))) then k4 true else if (cond false true (decide (a0.Min6<0))) then k4 true else if (cond false true (decide (a0.Min6 > a0.Max6))) then k4 true else if (cond false true (decide (a0.Max6 > 128))) then k4 true else
(BG a0.Hole4 0 32).bind fun v5=> if (cond false true (!v5)) then k4 true else
(BG a0.Hole6 0 128).bind fun v6=> if (cond false true (!v6)) then k4 true else
(BG a0.Hops 1 60).bind fun v7=> k4 (cond false true (!v7))
) fun v8=> if v8 then some false else AB (τ:=Bool) (fun k9=>
(AQ a0.LANs).bind fun v10=> if v10 then k9 true else
(AQ a0.Bogons).bind fun v11=> k9 (cond false true v11)
) fun v12=> if v12 then some false else AB (τ:=Bool) (fun k13=>
(Ag a0.Private).bind fun v14=> if v14 then k13 true else
(Aw a0.Free).bind fun v15=> k13 (cond false true v15)
) fun v16=> if v16 then some false else AB (τ:=Bool) (fun k17=>
(Ab a0.Origins).bind fun v18=> if (!v18) then
(E5 a0.JAD).bind fun v19=> k17 (cond true v19 false) else k17 false
) fun v20=> some v20
def Ko:Option (JAI×JAO×JAK):= some ((⟨99,[],8,24,0,0,25,0,[],[],[],5,(⟨[],([(⟨(⟨((⟨(⟨false,(0:UInt64),(167772160:UInt64)⟩:Addr),16⟩:JAA).Addr),(⟨(⟨false,(0:UInt64),(167772160:UInt64)⟩:Addr),16⟩:JAA).Len⟩:JAA),24,101⟩:JAB)]:List JAB)⟩:JAD),[]⟩:JAI),(⟨101,ByteArray.empty,9,0,([(⟨false,(0:UInt64),(7:UInt64)⟩:Addr)]:List Addr)⟩:JAO),(⟨(⟨((⟨(⟨false,(0:UInt64),(167772160:UInt64)⟩:Addr),16⟩:JAA).Addr),(⟨(⟨false,(0:UInt64),(167772160:UInt64)⟩:Addr),16⟩:JAA).Len⟩:JAA),101,(⟨0,([(⟨false,([101]:List Int)⟩:JAE)]:List JAE),(⟨false,(0:UInt64),(7:UInt64)⟩:Addr),(-1),(-1),(-1),[],[],[]⟩:JAG)⟩:JAK))
def CL:Option Bool:=
(Ko).bind fun (v1,v2,v3)=> AB (τ:=Bool) (fun k4=>
(Fe v1).bind fun v5=> if v5 then
(Ci v1 v2 v3).bind fun v6=> if (cond true (v6==0) false) then
(Ci v1 v2 ({ v3 with JAA:=(⟨v3.JAA.Addr,32⟩:JAA) })).bind fun v7=> if (cond true (v7==12) false) then
(Ci v1 v2 ({ v3 with JAG:={ v3.JAG with Path:=([(⟨false,([7,101]:List Int)⟩:JAE)]:List JAE) } })).bind fun v8=> k4 (cond true (v8==2) false) else k4 false else k4 false else k4 false
) fun v9=> some v9
def CE (a0:List Int):Option Bool:=
(E2 a0).bind fun v1=>
(Bh v1).bind fun (v2,v3)=>
(AN v3 4).bind fun (v4,v5)=>
(B7 v5 (A0 (101+v4))).bind fun (v6,v7)=> AB (τ:=Unit) (fun k8=> CY (σ:=Int×JAL) (fun next9 (v10,v11)=> if (decide (v10<5)) then AB (τ:=JAL) (fun k12=>
(Bt v11 v6.ASN).bind fun (v13,v14)=>
(Ci v2 v6 v13).bind fun v15=> if (v15 != 0) then k12 v14 else
(GR v13.JAG.Path).bind fun (v16,v17)=>
(Fo v13.JAG.Path).bind fun (v18,v19)=> AB (τ:=Bool) (fun k20=> Aa (σ:=Bool) (fun v21=> k20 v21
) (fun next22 (x23:Addr) i24 v21=> AB (τ:=Bool) (fun k25=> if v21 then k25 true else k25 (cond false true (Addr.eqd x23 v13.JAG.Next))
) fun v26=> next22 v26
) v6.Nexts 0 false
) fun v27=> AB (τ:=Bool) (fun k28=> Aa (σ:=Bool) (fun v29=> k28 v29
) (fun next30 (x31:JAB) i32 v29=> AB (τ:=Bool) (fun k33=> if v29 then k33 true else if (x31.ASN==v18) then
(BE x31.JAA v13.JAA).bind fun v34=> if (cond true v34 false) then if (decide (x31.Max ≥ v13.JAA.Len)) then k33 true else
(D9 v13.JAG).bind fun v35=> k33 (cond false true (cond true (cond false true v35) false)) else k33 false else k33 false
) fun v36=> next30 v36
) v2.JAD.Objects 0 false
) fun v37=> AB (τ:=Bool) (fun k38=> if (!v17) then k38 true else if (cond false true (!v19)) then k38 true else if (cond false true (v16 != v6.ASN)) then k38 true else if (cond false true (v13.JAG.OTC != (-1))) then k38 true else if (cond false true (!v27)) then k38 true else if (cond false true (!v37)) then k38 true else
(H9 v13.JAG.Path v2.Own).bind fun v39=> k38 (cond false true v39)
) fun v40=> if v40 then some false else AB (τ:=Unit) (fun k41=> Aa (σ:=Unit) (fun _=> k41 ()
) (fun next42 (x43:JAA) i44 _=> AB (τ:=Bool) (fun k45=>
(BE x43 v13.JAA).bind fun v46=> if v46 then k45 true else
(BE v13.JAA x43).bind fun v47=> k45 (cond false true v47)
) fun v48=> if v48 then some false else next42 ()
) v2.LANs 0 ()
) fun _=> k12 v14
) fun v49=> next9 ((A0 (v10+1)),v49) else k8 ()
) fuel (0,v7)
) fun _=>
(CL).bind fun v50=> some v50
def FC (a0:JAG):Option Bool:= AB (τ:=Int) (fun k1=> Aa (σ:=Int) (fun v2=> k1 v2
) (fun next3 (x4:JAE) i5 v2=> next3 (A0 (v2+(A0 (1+(x4.ASNs.length:Int)))))
) a0.Path 0 (A0 ((A0 ((a0.Communities.length:Int)+(a0.JAH.length:Int)))+(a0.Other.length:Int)))
) fun v6=> AB (τ:=Int) (fun k7=> Aa (σ:=Int) (fun v8=> k7 v8
) (fun next9 (x10:JAJ) i11 v8=> next9 (A0 (v8+(x10.Data.length:Int)))
) a0.Other 0 v6
) fun v12=> some (decide (v12<=2000))
def EB (a0:Bool):Option Int:= if a0 then some 128 else some 32
def EA (a0:List JAB):Option (List JAB):= AB (τ:=(List JAB)) (fun k1=> Aa (σ:=(List JAB)) (fun v2=> k1 v2
) (fun next3 (x4:JAB) i5 v2=>
(EB x4.JAA.Addr.V6).bind fun v6=>
(apnd (α:=JAB) 48 v2 ([{ x4 with Max:=v6 }]:List JAB)).bind fun v7=> next3 v7
) a0 0 []
) fun v8=> some v8
def HA (a0:List JAC)(a1:JAC):Option Bool:= AB (τ:=Unit) (fun k1=> Aa (σ:=Unit) (fun _=> k1 ()
) (fun next2 (x3:JAC) i4 _=> if (JAC.eqd x3 a1) then some true else next2 ()
) a0 0 ()
) fun _=> some false
def FT (a0:JAG):Option Bool:=
(HA a0.Communities (⟨65535,666⟩:JAC)).bind fun v1=> some v1
def BL (a0:JAA):Option Bool:=
(Do a0.Addr a0.Len).bind fun (v1,v2)=> AB (τ:=Bool) (fun k3=> if (v2==0) then k3 (cond true (JAA.eqd a0 v1) false) else k3 false
) fun v4=> some v4
def FG (a0:Int):Option Int:= AB (τ:=Bool) (fun k1=> if (a0==1) then k1 (a0==1) else AB (τ:=Bool) (fun k2=> if (a0==2) then k2 (a0==2) else AB (τ:=Bool) (fun k3=> if (a0==3) then k3 (a0==3) else k3 (a0==5)
) fun v4=> k2 v4
) fun v5=> k1 v5
) fun v6=> if v6 then some 64 else if (a0==4) then some 128 else AB (τ:=Bool) (fun k7=> if (a0==8) then k7 (a0==8) else AB (τ:=Bool) (fun k8=> if (a0==32) then k8 (a0==32) else k8 (a0==35)
) fun v9=> k7 v9
) fun v10=> if v10 then some 192 else some 0
def Da (a0:Int):Option Bool:= AB (τ:=Bool) (fun k1=>
(FG a0).bind fun v2=> if (v2==0) then if (cond true (a0 != 14) false) then k1 (cond true (a0 != 15) false) else k1 false else k1 false
) fun v3=> some v3
def FA (a0:JAC):Option Bool:= AB (τ:=Bool) (fun k1=> if (decide (a0.A ≥ 0)) then if (cond true (decide (a0.A<=65535)) false) then if (cond true (decide (a0.B ≥ 0)) false) then k1 (cond true (decide (a0.B<=65535)) false) else k1 false else k1 false else k1 false
) fun v2=> some v2
def F7 (a0:JAC)(a1:JAC):Option Bool:= AB (τ:=Bool) (fun k1=> if (decide (a0.A<a1.A)) then k1 true else if (a0.A==a1.A) then k1 (cond false true (cond true (decide (a0.B<a1.B)) false)) else k1 false
) fun v2=> some v2
def GH (a0:List JAC):Option Bool:= AB (τ:=Unit) (fun k1=> Aa (σ:=Unit) (fun _=> k1 ()
) (fun next2 (x3:JAC) i4 _=> AB (τ:=Bool) (fun k5=>
(FA x3).bind fun v6=> if (!v6) then k5 true else if (decide ((i4:Int) > 0)) then
(geti a0 (A0 ((i4:Int)-1))).bind fun v7=>
(F7 v7 x3).bind fun v8=> k5 (cond false true (cond true (!v8) false)) else k5 false
) fun v9=> if v9 then some false else next2 ()
) a0 0 ()
) fun _=> some (decide ((a0.length:Int)<=64))
def CZ (a0:JAH):Option Bool:= AB (τ:=Bool) (fun k1=> if (decide (a0.A ≥ 0)) then if (cond true (decide (a0.A<=4294967295)) false) then if (cond true (decide (a0.B ≥ 0)) false) then if (cond true (decide (a0.B<=4294967295)) false) then if (cond true (decide (a0.C ≥ 0)) false) then k1 (cond true (decide (a0.C<=4294967295)) false) else k1 false else k1 false else k1 false else k1 false else k1 false
) fun v2=> some v2
def DG (a0:JAH)(a1:JAH):Option Bool:= AB (τ:=Bool) (fun k1=> if (decide (a0.A<a1.A)) then k1 true else if (a0.A==a1.A) then if (decide (a0.B<a1.B)) then k1 true else if (a0.B==a1.B) then k1 (cond false true (cond true (cond false true (cond true (decide (a0.C<a1.C)) false)) false)) else k1 false else k1 false
) fun v2=> some v2
def Dj (a0:List JAH):Option Bool:= AB (τ:=Unit) (fun k1=> Aa (σ:=Unit) (fun _=> k1 ()
) (fun next2 (x3:JAH) i4 _=> AB (τ:=Bool) (fun k5=>
(CZ x3).bind fun v6=> if (!v6) then k5 true else if (decide ((i4:Int) > 0)) then
(geti a0 (A0 ((i4:Int)-1))).bind fun v7=>
(DG v7 x3).bind fun v8=> k5 (cond false true (cond true (!v8) false)) else k5 false
) fun v9=> if v9 then some false else next2 ()
) a0 0 ()
) fun _=> some (decide ((a0.length:Int)<=64))
def HM (a0:JAG):Option Bool:= AB (τ:=Unit) (fun k1=> Aa (σ:=Unit) (fun _=> k1 ()
) (fun next2 (x3:JAJ) i4 _=> AB (τ:=Bool) (fun k5=> if (decide (x3.Type_<1)) then k5 true else if (cond false true (decide (x3.Type_ > 255))) then k5 true else
(Da x3.Type_).bind fun v6=> if (cond false true (!v6)) then k5 true else if (cond false true (x3.Flags != 224)) then k5 true else if (cond false true (decide ((x3.Data.length:Int) > 255))) then k5 true else if (decide ((i4:Int) > 0)) then
(geti a0.Other (A0 ((i4:Int)-1))).bind fun v7=> k5 (cond false true (cond true (decide (v7.Type_ ≥ x3.Type_)) false)) else k5 false
) fun v8=> if v8 then some false else next2 ()
) a0.Other 0 ()
) fun _=> AB (τ:=Bool) (fun k9=> if (decide (a0.Origin ≥ (-1))) then if (cond true (decide (a0.Origin<=2)) false) then
(E8 a0.Path).bind fun v10=> if (cond true v10 false) then
(CJ a0.Next).bind fun v11=> if (cond true v11 false) then if (cond true (decide (a0.MED ≥ (-1))) false) then if (cond true (decide (a0.MED<=4294967295)) false) then if (cond true (decide (a0.Pref ≥ (-1))) false) then if (cond true (decide (a0.Pref<=4294967295)) false) then if (a0.OTC==(-1)) then
(GH a0.Communities).bind fun v12=> if (cond true v12 false) then
(Dj a0.JAH).bind fun v13=> if (cond true v13 false) then k9 (cond true (decide ((a0.Other.length:Int)<=8)) false) else k9 false else k9 false else if (decide (a0.OTC ≥ 1)) then if (cond true (cond false true (cond true (decide (a0.OTC<=4294967295)) false)) false) then
(GH a0.Communities).bind fun v14=> if (cond true v14 false) then
(Dj a0.JAH).bind fun v15=> if (cond true v15 false) then k9 (cond true (decide ((a0.Other.length:Int)<=8)) false) else k9 false else k9 false else k9 false else k9 false else k9 false else k9 false else k9 false else k9 false else k9 false else k9 false else k9 false else k9 false
) fun v16=> some v16
def JH (a0:JAK):Option Bool:= AB (τ:=Bool) (fun k1=>
(BL a0.JAA).bind fun v2=> if (!v2) then k1 true else
(HM a0.JAG).bind fun v3=> if (cond false true (!v3)) then k1 true else if (cond false true (a0.JAG.Origin==(-1))) then k1 true else if (cond false true ((a0.JAG.Path.length:Int)==0)) then k1 true else if (cond false true (Addr.eqd a0.JAG.Next (⟨false,(0:UInt64),(0:UInt64)⟩:Addr))) then k1 true else k1 (cond false true (!(a0.JAG.Next.V6==a0.JAA.Addr.V6)))
) fun v4=> some v4
def Hz (a0:List JAE):Option Int:= AB (τ:=Int) (fun k1=> Aa (σ:=Int) (fun v2=> k1 v2
) (fun next3 (x4:JAE) i5 v2=> AB (τ:=Int) (fun k6=> if x4.Set then k6 (A0 (v2+1)) else k6 (A0 (v2+(x4.ASNs.length:Int)))
) fun v7=> next3 v7
) a0 0 0
) fun v8=> some v8
def GV (a0:List Int)(a1:Int):Option Bool:= AB (τ:=Unit) (fun k1=> Aa (σ:=Unit) (fun _=> k1 ()
) (fun next2 (x3:Int) i4 _=> if (x3==a1) then some true else next2 ()
) a0 0 ()
) fun _=> some false
def HG (a0:Int):Option Int:= if (a0==0) then some 3 else if (a0==3) then some 0 else if (a0==1) then some 2 else if (a0==2) then some 1 else if (a0==4) then some 4 else some (-1)
def JO (a0:Int)(a1:Int):Option Bool:= AB (τ:=Bool) (fun k1=>
(HG a0).bind fun v2=> if (v2==(-1)) then k1 true else if (cond false true (decide (a1<1))) then k1 true else k1 (cond false true (decide (a1 > 4294967295)))
) fun v3=> some v3
def F3 (a0:Int)(a1:Int)(a2:JAG):Option (JAG×Int):=
(JO a0 a1).bind fun v1=> if v1 then some ((⟨0,[],(⟨false,(0:UInt64),(0:UInt64)⟩:Addr),0,0,0,[],[],[]⟩:JAG),1) else AB (τ:=Bool) (fun k2=> if (a0==3) then k2 true else k2 (cond false true (a0==2))
) fun v3=> AB (τ:=Bool) (fun k4=> if (a2.OTC != (-1)) then if (cond true (!v3) false) then if (a0 != 4) then k4 true else k4 (cond true (cond false true (a2.OTC != a1)) false) else k4 false else k4 false
) fun v5=> if v5 then some ((⟨0,[],(⟨false,(0:UInt64),(0:UInt64)⟩:Addr),0,0,0,[],[],[]⟩:JAG),30) else AB (τ:=Bool) (fun k6=> if (a2.OTC==(-1)) then if v3 then k6 true else k6 (cond true (cond false true (a0==4)) false) else k6 false
) fun v7=> AB (τ:=Int) (fun k8=> if v7 then k8 a1 else k8 a2.OTC
) fun v9=> some (({ a2 with OTC:=v9 }),0)
def Gg (a0:JAI)(a1:JAO)(a2:JAG):Option (List Int):=
(GR a2.Path).bind fun (v1,v2)=> AB (τ:=Bool) (fun k3=> if (!v2) then k3 true else k3 (cond false true (v1 != a1.ASN))
) fun v4=> AB (τ:=(List Int)) (fun k5=> if v4 then
(apnd (α:=Int) 8 [] ([2]:List Int)).bind fun v6=> k5 v6 else k5 []
) fun v7=> AB (τ:=Bool) (fun k8=> Aa (σ:=Bool) (fun v9=> k8 v9
) (fun next10 (x11:Addr) i12 v9=> AB (τ:=Bool) (fun k13=> if v9 then k13 true else k13 (cond false true (Addr.eqd x11 a2.Next))
) fun v14=> next10 v14
) a1.Nexts 0 false
) fun v15=> AB (τ:=(List Int)) (fun k16=> if (!v15) then
(apnd (α:=Int) 8 v7 ([3]:List Int)).bind fun v17=> k16 v17 else k16 v7
) fun v18=>
(Hz a2.Path).bind fun v19=> AB (τ:=(List Int)) (fun k20=> if (decide (v19 > a0.Hops)) then
(apnd (α:=Int) 8 v18 ([4]:List Int)).bind fun v21=> k20 v21 else k20 v18
) fun v22=>
(H9 a2.Path a0.Own).bind fun v23=> AB (τ:=(List Int)) (fun k24=> if v23 then
(apnd (α:=Int) 8 v22 ([5]:List Int)).bind fun v25=> k24 v25 else k24 v22
) fun v26=> AB (τ:=Bool) (fun k27=> Aa (σ:=Bool) (fun v28=> k27 v28
) (fun next29 (x30:JAE) i31 v28=> AB (τ:=Bool) (fun k32=> if v28 then k32 true else k32 (cond false true x30.Set)
) fun v33=> next29 v33
) a2.Path 0 false
) fun v34=>
(GB a2.Path).bind fun v35=> AB (τ:=Bool×Bool) (fun k36=> Aa (σ:=Bool×Bool) (fun (v37,v38)=> k36 (v37,v38)
) (fun next39 (x40:Int) i41 (v37,v38)=> AB (τ:=Bool×Bool) (fun k42=> AB (τ:=Bool) (fun k43=> Aa (σ:=Bool) (fun v44=> k43 v44
) (fun next45 (x46:JAN) i47 v44=> AB (τ:=Bool) (fun k48=> if v44 then k48 true else if (decide (x40 ≥ x46.From)) then k48 (cond false true (cond true (decide (x40<=x46.To)) false)) else k48 false
) fun v49=> next45 v49
) a0.Private 0 v37
) fun v50=> AB (τ:=Bool) (fun k51=> if v38 then k51 true else if (x40 != a1.ASN) then
(GV a0.Free x40).bind fun v52=> if (cond true v52 false) then
(GV a0.Free a1.ASN).bind fun v53=> k51 (cond false true (cond true (!v53) false)) else k51 false else k51 false
) fun v54=> k42 (v50,v54)
) fun (v55,v56)=> next39 (v55,v56)
) v35 0 (false,false)
) fun (v57,v58)=> AB (τ:=(List Int)) (fun k59=> if v34 then
(apnd (α:=Int) 8 v26 ([6]:List Int)).bind fun v60=> k59 v60 else k59 v26
) fun v61=> AB (τ:=(List Int)) (fun k62=> if v57 then
(apnd (α:=Int) 8 v61 ([7]:List Int)).bind fun v63=> k62 v63 else k62 v61
) fun v64=> AB (τ:=(List Int)) (fun k65=> if v58 then
(apnd (α:=Int) 8 v64 ([8]:List Int)).bind fun v66=> k65 v66 else k65 v64
) fun v67=>
(F3 1 a1.ASN a2).bind fun (v68,v69)=> AB (τ:=(List Int)) (fun k70=> if (v69==30) then
(apnd (α:=Int) 8 v67 ([9]:List Int)).bind fun v71=> k70 v71 else k70 v67
) fun v72=> some v72
def IP (a0:JAI)(a1:JAK):Option Bool:= AB (τ:=Int×Int×Int) (fun k1=> if a1.JAA.Addr.V6 then k1 (a0.Min6,a0.Max6,a0.Hole6) else k1 (a0.Min4,a0.Max4,a0.Hole4)
) fun (v2,v3,v4)=>
(FT a1.JAG).bind fun v5=> if v5 then some (decide (a1.JAA.Len<v4)) else AB (τ:=Bool) (fun k6=> if (decide (a1.JAA.Len<v2)) then k6 true else k6 (cond false true (decide (a1.JAA.Len > v3)))
) fun v7=> some v7
def F6 (a0:ByteArray):Option Bool:= AB (τ:=Unit) (fun k1=> CY (σ:=Int) (fun next2 v3=> if (decide (v3<(a0.size:Int))) then
(geti a0.toList v3).bind fun v4=> AB (τ:=Bool) (fun k5=> if (decide ((v4.toNat:Int) ≥ 97)) then if (cond true (decide ((v4.toNat:Int)<=122)) false) then k5 (!true) else if (decide ((v4.toNat:Int) ≥ 65)) then if (cond false true (cond true (decide ((v4.toNat:Int)<=90)) false)) then k5 (!true) else if (decide ((v4.toNat:Int) ≥ 48)) then if (cond false true (cond true (decide ((v4.toNat:Int)<=57)) false)) then k5 (!true) else if (cond false true ((v4.toNat:Int)==45)) then k5 (!true) else k5 (!(cond false true ((v4.toNat:Int)==58))) else if (cond false true ((v4.toNat:Int)==45)) then k5 (!true) else k5 (!(cond false true ((v4.toNat:Int)==58))) else if (decide ((v4.toNat:Int) ≥ 48)) then if (cond false true (cond true (decide ((v4.toNat:Int)<=57)) false)) then k5 (!true) else if (cond false true ((v4.toNat:Int)==45)) then k5 (!true) else k5 (!(cond false true ((v4.toNat:Int)==58))) else if (cond false true ((v4.toNat:Int)==45)) then k5 (!true) else k5 (!(cond false true ((v4.toNat:Int)==58))) else if (decide ((v4.toNat:Int) ≥ 65)) then if (cond false true (cond true (decide ((v4.toNat:Int)<=90)) false)) then k5 (!true) else if (decide ((v4.toNat:Int) ≥ 48)) then if (cond false true (cond true (decide ((v4.toNat:Int)<=57)) false)) then k5 (!true) else if (cond false true ((v4.toNat:Int)==45)) then k5 (!true) else k5 (!(cond false true ((v4.toNat:Int)==58))) else if (cond false true ((v4.toNat:Int)==45)) then k5 (!true) else k5 (!(cond false true ((v4.toNat:Int)==58))) else if (decide ((v4.toNat:Int) ≥ 48)) then if (cond false true (cond true (decide ((v4.toNat:Int)<=57)) false)) then k5 (!true) else if (cond false true ((v4.toNat:Int)==45)) then k5 (!true) else k5 (!(cond false true ((v4.toNat:Int)==58))) else if (cond false true ((v4.toNat:Int)==45)) then k5 (!true) else k5 (!(cond false true ((v4.toNat:Int)==58)))
) fun v6=> if v6 then some false else next2 (A0 (v3+1)) else k1 ()
) fuel 0
) fun _=> AB (τ:=Bool) (fun k7=> if (decide ((a0.size:Int) ≥ 1)) then k7 (cond true (decide ((a0.size:Int)<=32)) false) else k7 false
) fun v8=> some v8
def CB (a0:JAB):Option Bool:= AB (τ:=Int) (fun k1=> if a0.JAA.Addr.V6 then k1 128 else k1 32
) fun v2=> AB (τ:=Bool) (fun k3=>
(BL a0.JAA).bind fun v4=> if v4 then if (cond true (decide (a0.Max ≥ a0.JAA.Len)) false) then if (cond true (decide (a0.Max<=v2)) false) then if (cond true (decide (a0.ASN ≥ 1)) false) then k3 (cond true (decide (a0.ASN<=4294967295)) false) else k3 false else k3 false else k3 false else k3 false
) fun v5=> some v5
def FM (a0:JAD):Option Bool:= AB (τ:=Unit) (fun k1=> Aa (σ:=(List (ByteArray×Bool))) (fun v2=> k1 ()
) (fun next3 (x4:Set) i5 v2=> AB (τ:=Unit) (fun k6=> AB (τ:=Bool) (fun k7=>
(F6 x4.Name).bind fun v8=> if (!v8) then k7 true else
(some (Option.getD (DI v2 x4.Name) false)).bind fun v9=> if (cond false true v9) then k7 true else if (cond false true (decide ((x4.ASNs.length:Int) > 64))) then k7 true else k7 (cond false true (decide ((x4.Sets.length:Int) > 64)))
) fun v10=> if v10 then some false else AB (τ:=Unit) (fun k11=> Aa (σ:=Unit) (fun _=> k11 ()
) (fun next12 (x13:Int) i14 _=> AB (τ:=Bool) (fun k15=> if (decide (x13<1)) then k15 true else k15 (cond false true (decide (x13 > 4294967295)))
) fun v16=> if v16 then some false else next12 ()
) x4.ASNs 0 ()
) fun _=> AB (τ:=Unit) (fun k17=> Aa (σ:=Unit) (fun _=> k17 ()
) (fun next18 (x19:ByteArray) i20 _=>
(F6 x19).bind fun v21=> if (!v21) then some false else next18 ()
) x4.Sets 0 ()
) fun _=> k6 ()
) fun _=> next3 (CW v2 x4.Name true)
) a0.Sets 0 []
) fun _=> AB (τ:=Unit) (fun k22=> Aa (σ:=Unit) (fun _=> k22 ()
) (fun next23 (x24:JAB) i25 _=>
(CB x24).bind fun v26=> if (!v26) then some false else next23 ()
) a0.Objects 0 ()
) fun _=> AB (τ:=Bool) (fun k27=> if (decide ((a0.Sets.length:Int)<=64)) then k27 (cond true (decide ((a0.Objects.length:Int)<=512)) false) else k27 false
) fun v28=> some v28
def GE (a0:JAD)(a1:ByteArray):Option (Set×Bool):= AB (τ:=Unit) (fun k1=> Aa (σ:=Unit) (fun _=> k1 ()
) (fun next2 (x3:Set) i4 _=> if (x3.Name.toList==a1.toList) then some (x3,true) else next2 ()
) a0.Sets 0 ()
) fun _=> some ((⟨ByteArray.empty,[],[]⟩:Set),false)
def CX (a0:List ByteArray)(a1:ByteArray):Option (List ByteArray):= AB (τ:=Int) (fun k1=> CY (σ:=Int) (fun next2 v3=> AB (τ:=Bool) (fun k4=> if (decide (v3<(a0.length:Int))) then
(geti a0 v3).bind fun v5=> k4 (cond true (Op.bytesLess v5.toList a1.toList) false) else k4 false
) fun v6=> if v6 then next2 (A0 (v3+1)) else k1 v3
) fuel 0
) fun v7=> AB (τ:=Bool) (fun k8=> if (decide (v7<(a0.length:Int))) then
(geti a0 v7).bind fun v9=> k8 (cond true (v9.toList==a1.toList) false) else k8 false
) fun v10=> if v10 then some a0 else
(part a0 0 v7).bind fun v11=>
(apnd (α:=ByteArray) 16 [] v11).bind fun _=>
(apnd (α:=ByteArray) 16 v11 ([a1]:List ByteArray)).bind fun v12=>
(part a0 v7 (a0.length:Int)).bind fun v13=>
(apnd (α:=ByteArray) 16 v12 v13).bind fun v14=> some v14
def Eo (a0:List Int)(a1:Int):Option (List Int):= AB (τ:=Int) (fun k1=> CY (σ:=Int) (fun next2 v3=> AB (τ:=Bool) (fun k4=> if (decide (v3<(a0.length:Int))) then
(geti a0 v3).bind fun v5=> k4 (cond true (decide (v5<a1)) false) else k4 false
) fun v6=> if v6 then next2 (A0 (v3+1)) else k1 v3
) fuel 0
) fun v7=> AB (τ:=Bool) (fun k8=> if (decide (v7<(a0.length:Int))) then
(geti a0 v7).bind fun v9=> k8 (cond true (v9==a1) false) else k8 false
) fun v10=> if v10 then some a0 else
(part a0 0 v7).bind fun v11=>
(apnd (α:=Int) 8 [] v11).bind fun _=>
(apnd (α:=Int) 8 v11 ([a1]:List Int)).bind fun v12=>
(part a0 v7 (a0.length:Int)).bind fun v13=>
(apnd (α:=Int) 8 v12 v13).bind fun v14=> some v14
def Ek (a0:JAD)(a1:ByteArray):Option ((List Int)×(List ByteArray)×Int):=
(FM a0).bind fun v1=> if (!v1) then some ([],[],1) else
(GE a0 a1).bind fun (v2,v3)=> if (!v3) then some ([],[],11) else AB (τ:=(List Int)×(List ByteArray)) (fun k4=> CY (σ:=(List Int)×(List ByteArray)×(List (ByteArray×Bool))×(List ByteArray)) (fun next5 (v6,v7,v8,v9)=> if (decide ((v9.length:Int) > 0)) then AB (τ:=(List Int)×(List ByteArray)×(List (ByteArray×Bool))×(List ByteArray)) (fun k10=>
(geti v9 0).bind fun v11=>
(GE a0 v11).bind fun (v12,v13)=> AB (τ:=(List ByteArray)) (fun k14=> if (!v13) then
(geti v9 0).bind fun v15=>
(CX v7 v15).bind fun v16=> k14 v16 else k14 v7
) fun v17=>
(part v9 1 (v9.length:Int)).bind fun v18=> AB (τ:=(List Int)) (fun k19=> Aa (σ:=(List Int)) (fun v20=> k19 v20
) (fun next21 (x22:Int) i23 v20=>
(Eo v20 x22).bind fun v24=> next21 v24
) v12.ASNs 0 v6
) fun v25=> AB (τ:=(List (ByteArray×Bool))×(List ByteArray)) (fun k26=> Aa (σ:=(List (ByteArray×Bool))×(List ByteArray)) (fun (v27,v28)=> k26 (v27,v28)
) (fun next29 (x30:ByteArray) i31 (v27,v28)=>
(some (Option.getD (DI v27 x30) false)).bind fun v32=> AB (τ:=(List (ByteArray×Bool))×(List ByteArray)) (fun k33=> if (!v32) then
(apnd (α:=ByteArray) 16 v28 ([x30]:List ByteArray)).bind fun v34=> k33 ((CW v27 x30 true),v34) else k33 (v27,v28)
) fun (v35,v36)=> next29 (v35,v36)
) v12.Sets 0 (v8,v18)
) fun (v37,v38)=> k10 (v25,v17,v37,v38)
) fun (v39,v40,v41,v42)=> next5 (v39,v40,v41,v42) else k4 (v6,v7)
) fuel ([],[],(CW [] a1 true),([a1]:List ByteArray))
) fun (v43,v44)=> some (v43,v44,0)
def G2 (a0:List Int)(a1:Int):Option Bool:= AB (τ:=Unit) (fun k1=> Aa (σ:=Unit) (fun _=> k1 ()
) (fun next2 (x3:Int) i4 _=> if (x3==a1) then some true else next2 ()
) a0 0 ()
) fun _=> some false
def DZ (a0:List JAB)(a1:JAA)(a2:Int):Option Int:=
(BL a1).bind fun v1=> if (!v1) then some 1 else AB (τ:=Int) (fun k2=> Aa (σ:=Int) (fun v3=> k2 v3
) (fun next4 (x5:JAB) i6 v3=> AB (τ:=Int) (fun k7=> if (x5.ASN != a2) then k7 v3 else
(BE x5.JAA a1).bind fun v8=> AB (τ:=Int) (fun k9=> if (!v8) then AB (τ:=Int) (fun k10=> if (v3==11) then k10 7 else k10 v3
) fun v11=> k9 v11 else if (decide (x5.Max<a1.Len)) then k9 9 else some 0
) fun v12=> k7 v12
) fun v13=> next4 v13
) a0 0 11
) fun v14=> some v14
def I8 (a0:Addr)(a1:Addr):Option Int:= if (Addr.eqd a0 a1) then some 0 else if (!(a0.V6==a1.V6)) then if a1.V6 then some (-1) else some 1 else AB (τ:=Bool) (fun k1=> if (decide ((a0.Hi.toNat:Int)<(a1.Hi.toNat:Int))) then k1 true else if ((a0.Hi.toNat:Int)==(a1.Hi.toNat:Int)) then k1 (cond false true (cond true (decide ((a0.Lo.toNat:Int)<(a1.Lo.toNat:Int))) false)) else k1 false
) fun v2=> if v2 then some (-1) else some 1
def I4 (a0:JAA)(a1:JAA):Option Int:=
(I8 a0.Addr a1.Addr).bind fun v1=> if (v1 != 0) then some v1 else if (decide (a0.Len<a1.Len)) then some (-1) else if (decide (a0.Len > a1.Len)) then some 1 else some 0
def IC (a0:JAB)(a1:JAB):Option Int:=
(I4 a0.JAA a1.JAA).bind fun v1=> if (v1 != 0) then some v1 else AB (τ:=Bool) (fun k2=> if (decide (a0.Max<a1.Max)) then k2 true else if (a0.Max==a1.Max) then k2 (cond false true (cond true (decide (a0.ASN<a1.ASN)) false)) else k2 false
) fun v3=> if v3 then some (-1) else if (JAB.eqd a0 a1) then some 0 else some 1
def Ge (a0:List JAB):Option (List JAB):= AB (τ:=(List JAB)) (fun k1=> Aa (σ:=(List JAB)) (fun v2=> k1 v2
) (fun next3 (x4:JAB) i5 v2=> AB (τ:=(List JAB)) (fun k6=> AB (τ:=Int) (fun k7=> CY (σ:=Int) (fun next8 v9=> AB (τ:=Bool) (fun k10=> if (decide (v9<(v2.length:Int))) then
(geti v2 v9).bind fun v11=>
(IC v11 x4).bind fun v12=> k10 (cond true (decide (v12<0)) false) else k10 false
) fun v13=> if v13 then next8 (A0 (v9+1)) else k7 v9
) fuel 0
) fun v14=> AB (τ:=Bool) (fun k15=> if (decide (v14<(v2.length:Int))) then
(geti v2 v14).bind fun v16=> k15 (cond true (JAB.eqd v16 x4) false) else k15 false
) fun v17=> if v17 then k6 v2 else
(chk (0<=(0:Int)/\(0:Int)<=v14/\v14<=(v2.length:Int))).bind fun _=>
(apnd (α:=JAB) 48 [] (List.take (Int.toNat v14-Int.toNat 0) (List.drop (Int.toNat 0) v2))).bind fun _=>
(apnd (α:=JAB) 48 (List.take (Int.toNat v14-Int.toNat 0) (List.drop (Int.toNat 0) v2)) ([x4]:List JAB)).bind fun v18=>
(chk (0<=v14/\v14<=(v2.length:Int)/\(v2.length:Int)<=(v2.length:Int))).bind fun _=>
(apnd (α:=JAB) 48 v18 (List.take (Int.toNat (v2.length:Int)-Int.toNat v14) (List.drop (Int.toNat v14) v2))).bind fun v19=> k6 v19
) fun v20=> next3 v20
) a0 0 []
) fun v21=> some v21
def G3 (a0:JAD)(a1:List Int):Option (List JAB):= AB (τ:=(List JAB)) (fun k1=> Aa (σ:=(List JAB)) (fun v2=> k1 v2
) (fun next3 (x4:JAB) i5 v2=>
(G2 a1 x4.ASN).bind fun v6=> AB (τ:=(List JAB)) (fun k7=> if v6 then
(apnd (α:=JAB) 48 v2 ([x4]:List JAB)).bind fun v8=> k7 v8 else k7 v2
) fun v9=> next3 v9
) a0.Objects 0 []
) fun v10=>
(Ge v10).bind fun v11=> some v11
def DJ (a0:JAD)(a1:Int)(a2:ByteArray)(a3:JAA)(a4:Int):Option Int:=
(FM a0).bind fun v1=> if (!v1) then some 1 else AB (τ:=(List Int)) (fun k2=> if (!(a2.toList==(ByteArray.mk (List.toArray List.nil)).toList)) then
(Ek a0 a2).bind fun (v3,v4,v5)=> if (v5 != 0) then some v5 else
(apnd (α:=Int) 8 ([a1]:List Int) v3).bind fun v6=> k2 v6 else k2 ([a1]:List Int)
) fun v7=>
(G2 v7 a4).bind fun v8=> if (!v8) then some 17 else
(G3 a0 v7).bind fun v9=>
(DZ v9 a3 a4).bind fun v10=> some v10
def HL (a0:List JAB)(a1:JAA)(a2:Int):Option (Int×(List JAB)):= AB (τ:=Int×(List JAB)) (fun k1=> Aa (σ:=Int×(List JAB)) (fun (v2,v3)=> k1 (v2,v3)
) (fun next4 (x5:JAB) i6 (v2,v3)=> AB (τ:=Int×(List JAB)) (fun k7=>
(BE x5.JAA a1).bind fun v8=> if (!v8) then k7 (v2,v3) else
(apnd (α:=JAB) 48 v3 ([x5]:List JAB)).bind fun v9=> AB (τ:=Int) (fun k10=> if (v2==0) then k10 2 else k10 v2
) fun v11=> AB (τ:=Bool) (fun k12=> if (x5.ASN==a2) then if (cond true (a2 != 0) false) then k12 (cond true (decide (x5.Max ≥ a1.Len)) false) else k12 false else k12 false
) fun v13=> AB (τ:=Int) (fun k14=> if v13 then k14 1 else k14 v11
) fun v15=> k7 (v15,v9)
) fun (v16,v17)=> next4 (v16,v17)
) a0 0 (0,[])
) fun (v18,v19)=> some (v18,v19)
def H6 (a0:JAI)(a1:JAO)(a2:JAK):Option (List Int):=
(JH a2).bind fun v1=> if v1 then some ([1]:List Int) else
(Gg a0 a1 a2.JAG).bind fun v2=> AB (τ:=Bool) (fun k3=> Aa (σ:=Bool) (fun v4=> k3 v4
) (fun next5 (x6:JAA) i7 v4=> AB (τ:=Bool) (fun k8=> if v4 then k8 true else
(BE x6 a2.JAA).bind fun v9=> if (cond false true v9) then k8 true else
(BE a2.JAA x6).bind fun v10=> k8 (cond false true v10)
) fun v11=> next5 v11
) a0.LANs 0 false
) fun v12=> AB (τ:=Bool) (fun k13=> Aa (σ:=Bool) (fun v14=> k13 v14
) (fun next15 (x16:JAA) i17 v14=> AB (τ:=Bool) (fun k18=> if v14 then k18 true else
(BE x16 a2.JAA).bind fun v19=> k18 (cond false true v19)
) fun v20=> next15 v20
) a0.Bogons 0 false
) fun v21=> AB (τ:=(List Int)) (fun k22=> if v12 then
(apnd (α:=Int) 8 v2 ([10]:List Int)).bind fun v23=> k22 v23 else k22 v2
) fun v24=> AB (τ:=(List Int)) (fun k25=> if v21 then
(apnd (α:=Int) 8 v24 ([11]:List Int)).bind fun v26=> k25 v26 else k25 v24
) fun v27=>
(IP a0 a2).bind fun v28=> AB (τ:=(List Int)) (fun k29=> if v28 then
(apnd (α:=Int) 8 v27 ([12]:List Int)).bind fun v30=> k29 v30 else k29 v27
) fun v31=>
(FT a2.JAG).bind fun v32=> AB (τ:=(List JAB)×(List JAB)) (fun k33=> if v32 then
(EA a0.JAD.Objects).bind fun v34=>
(EA a0.Origins).bind fun v35=> k33 (v35,v34) else k33 (a0.Origins,a0.JAD.Objects)
) fun (v36,v37)=>
(Fo a2.JAG.Path).bind fun (v38,v39)=> AB (τ:=Int) (fun k40=> if (!v39) then k40 (-1) else k40 v38
) fun v41=>
(DJ (⟨a0.JAD.Sets,v37⟩:JAD) a1.ASN a1.Set a2.JAA v41).bind fun v42=> AB (τ:=(List Int)) (fun k43=> if (v42 != 0) then
(apnd (α:=Int) 8 v31 ([13]:List Int)).bind fun v44=> k43 v44 else k43 v31
) fun v45=>
(HL v36 a2.JAA v41).bind fun (v46,v47)=> AB (τ:=(List Int)) (fun k48=> if (v46==2) then
(apnd (α:=Int) 8 v45 ([14]:List Int)).bind fun v49=> k48 v49 else k48 v45
) fun v50=> some v50
def HY (a0:JAI)(a1:JAO)(a2:JAK):Option Int:=
(H6 a0 a1 a2).bind fun v1=> if (decide ((v1.length:Int) > 0)) then
(geti v1 0).bind fun v2=> some v2 else some 0
def Eg (a0:List Int)(a1:List Int):Option Bool:= if ((a0.length:Int) != (a1.length:Int)) then some false else AB (τ:=Unit) (fun k1=> Aa (σ:=Unit) (fun _=> k1 ()
) (fun next2 (x3:Int) i4 _=>
(geti a1 (i4:Int)).bind fun v5=> if (x3 != v5) then some false else next2 ()
) a0 0 ()
) fun _=> some true
def FR (a0:JAI)(a1:JAO)(a2:JAK):Option (List Int):=
(ES a0 a1 a2 14).bind fun v1=> some v1
def Cc (a0:JAK)(a1:List Int):Option Bool:=
(FC a0.JAG).bind fun v1=> if (!v1) then
(CL).bind fun v2=> some v2 else
(E2 a1).bind fun v3=>
(Bh v3).bind fun (v4,v5)=>
(AN v5 4).bind fun (v6,v7)=>
(B7 v7 (A0 (101+v6))).bind fun (v8,v9)=> AB (τ:=Unit) (fun k10=> CY (σ:=Int×JAL) (fun next11 (v12,v13)=> if (decide (v12<7)) then
(Bt v13 v8.ASN).bind fun (v14,v15)=> AB (τ:=JAK) (fun k16=> if (v12==6) then k16 a0 else k16 v14
) fun v17=> AB (τ:=Bool) (fun k18=>
(Ci v4 v8 v17).bind fun v19=>
(HY v4 v8 v17).bind fun v20=> if (v19 != v20) then k18 true else
(FR v4 v8 v17).bind fun v21=>
(H6 v4 v8 v17).bind fun v22=>
(Eg v21 v22).bind fun v23=> k18 (cond false true (!v23))
) fun v24=> if v24 then some false else next11 ((A0 (v12+1)),v15) else k10 ()
) fuel (0,v9)
) fun _=>
(CL).bind fun v25=> some v25
def DC (a0:JAK)(a1:List Int):Option Bool:=
(FC a0.JAG).bind fun v1=> if (!v1) then
(CL).bind fun v2=> some v2 else
(E2 a1).bind fun v3=>
(Bh v3).bind fun (v4,v5)=>
(AN v5 4).bind fun (v6,v7)=>
(B7 v7 (A0 (101+v6))).bind fun (v8,v9)=>
(Bt v9 v8.ASN).bind fun (v10,v11)=>
(Bt v11 v8.ASN).bind fun (v12,v13)=> AB (τ:=Unit) (fun k14=> Aa (σ:=Unit) (fun _=> k14 ()
) (fun next15 (x16:JAK) i17 _=> AB (τ:=Unit) (fun k18=>
(Ci v4 v8 x16).bind fun v19=>
(FR v4 v8 x16).bind fun v20=> AB (τ:=Bool) (fun k21=> if (!((v19==0)==((v20.length:Int)==0))) then k21 true else if (decide ((v20.length:Int) > 0)) then
(geti v20 0).bind fun v22=> k21 (cond false true (cond true (v22 != v19) false)) else k21 false
) fun v23=> if v23 then some false else AB (τ:=Unit) (fun k24=> Aa (σ:=Unit) (fun _=> k24 ()
) (fun next25 (x26:Int) i27 _=> AB (τ:=Bool) (fun k28=> if (decide (x26<1)) then k28 true else if (cond false true (decide (x26 > 14))) then k28 true else if (decide ((i27:Int) > 0)) then
(geti v20 (A0 ((i27:Int)-1))).bind fun v29=> k28 (cond false true (cond true (decide (v29 ≥ x26)) false)) else k28 false
) fun v30=> if v30 then some false else next25 ()
) v20 0 ()
) fun _=> k18 ()
) fun _=> next15 ()
) ([a0,v10,v12]:List JAK) 0 ()
) fun _=>
(CL).bind fun v31=> some v31
def Di (a0:List Int)(a1:Int):Option Bool:=
(E2 a0).bind fun v1=>
(Bh v1).bind fun (v2,v3)=>
(AN v3 4).bind fun (v4,v5)=>
(B7 v5 (A0 (101+v4))).bind fun (v6,v7)=>
(Bt v7 v6.ASN).bind fun (v8,v9)=>
(Dc v9).bind fun (v10,v11)=>
(C0 a1 4).bind fun v12=>
(apnd (α:=JAB) 48 [] v2.JAD.Objects).bind fun _=>
(apnd (α:=JAB) 48 v2.JAD.Objects ([(⟨v10,v10.Len,(A0 (101+v12))⟩:JAB)]:List JAB)).bind fun v13=>
(FR v2 v6 v8).bind fun v14=>
(FR ({ v2 with JAD:=(⟨v2.JAD.Sets,v13⟩:JAD) }) v6 v8).bind fun v15=> AB (τ:=Bool×(List Int)) (fun k16=> Aa (σ:=Bool×(List Int)) (fun (v17,v18)=> k16 (v17,v18)
) (fun next19 (x20:Int) i21 (v17,v18)=> AB (τ:=Bool×(List Int)) (fun k22=> if (x20==13) then k22 (true,v18) else
(apnd (α:=Int) 8 v18 ([x20]:List Int)).bind fun v23=> k22 (v17,v23)
) fun (v24,v25)=> next19 (v24,v25)
) v14 0 (false,[])
) fun (v26,v27)=> AB (τ:=Bool×(List Int)) (fun k28=> Aa (σ:=Bool×(List Int)) (fun (v29,v30)=> k28 (v29,v30)
) (fun next31 (x32:Int) i33 (v29,v30)=> AB (τ:=Bool×(List Int)) (fun k34=> if (x32==13) then k34 (true,v30) else
(apnd (α:=Int) 8 v30 ([x32]:List Int)).bind fun v35=> k34 (v29,v35)
) fun (v36,v37)=> next31 (v36,v37)
) v15 0 (false,[])
) fun (v38,v39)=> AB (τ:=Bool) (fun k40=>
(Eg v27 v39).bind fun v41=> if v41 then if v26 then
(CL).bind fun v42=> k40 (cond true v42 false) else if (cond true (cond false true (!v38)) false) then
(CL).bind fun v43=> k40 (cond true v43 false) else k40 false else k40 false
) fun v44=> some v44
def IA (a0:Int):Option Bool:= AB (τ:=Bool) (fun k1=> if (decide (a0 ≥ 1)) then k1 (cond true (decide (a0<=4294967295)) false) else k1 false
) fun v2=> some v2
def H7 (a0:List JAA)(a1:Int):Option Bool:= AB (τ:=Unit) (fun k1=> Aa (σ:=Unit) (fun _=> k1 ()
) (fun next2 (x3:JAA) i4 _=>
(BL x3).bind fun v5=> if (!v5) then some false else next2 ()
) a0 0 ()
) fun _=> some (decide ((a0.length:Int)<=a1))
def HN (a0:JAI):Option Bool:= AB (τ:=Bool) (fun k1=>
(IA a0.Own).bind fun v2=> if (!v2) then k1 true else
(H7 a0.LANs 8).bind fun v3=> if (cond false true (!v3)) then k1 true else
(H7 a0.Bogons 64).bind fun v4=> if (cond false true (!v4)) then k1 true else if (cond false true (decide ((a0.Private.length:Int) > 64))) then k1 true else if (cond false true (decide ((a0.Free.length:Int) > 64))) then k1 true else k1 (cond false true (decide ((a0.Origins.length:Int) > 512)))
) fun v5=> if v5 then some false else AB (τ:=Unit) (fun k6=> Aa (σ:=Unit) (fun _=> k6 ()
) (fun next7 (x8:JAN) i9 _=> AB (τ:=Bool) (fun k10=> if (decide (x8.From<0)) then k10 true else if (cond false true (decide (x8.From > x8.To))) then k10 true else k10 (cond false true (decide (x8.To > 4294967295)))
) fun v11=> if v11 then some false else next7 ()
) a0.Private 0 ()
) fun _=> AB (τ:=Unit) (fun k12=> Aa (σ:=Unit) (fun _=> k12 ()
) (fun next13 (x14:Int) i15 _=>
(IA x14).bind fun v16=> if (!v16) then some false else next13 ()
) a0.Free 0 ()
) fun _=> AB (τ:=Unit) (fun k17=> Aa (σ:=Unit) (fun _=> k17 ()
) (fun next18 (x19:JAB) i20 _=> AB (τ:=Bool) (fun k21=>
(BL x19.JAA).bind fun v22=> if (!v22) then k21 true else if (cond false true (decide (x19.Max<x19.JAA.Len))) then k21 true else
(EB x19.JAA.Addr.V6).bind fun v23=> if (cond false true (decide (x19.Max > v23))) then k21 true else if (cond false true (decide (x19.ASN<0))) then k21 true else k21 (cond false true (decide (x19.ASN > 4294967295)))
) fun v24=> if v24 then some false else next18 ()
) a0.Origins 0 ()
) fun _=> AB (τ:=Bool) (fun k25=> if (decide (a0.Min4 ≥ 0)) then if (cond true (decide (a0.Min4<=a0.Max4)) false) then if (cond true (decide (a0.Max4<=32)) false) then if (cond true (decide (a0.Min6 ≥ 0)) false) then if (cond true (decide (a0.Min6<=a0.Max6)) false) then k25 (cond true (decide (a0.Max6<=128)) false) else k25 false else k25 false else k25 false else k25 false else k25 false
) fun v26=> AB (τ:=Bool) (fun k27=> if v26 then if (cond true (decide (a0.Hole4 ≥ 0)) false) then if (cond true (decide (a0.Hole4<=32)) false) then if (cond true (decide (a0.Hole6 ≥ 0)) false) then if (cond true (decide (a0.Hole6<=128)) false) then if (cond true (decide (a0.Hops ≥ 1)) false) then if (cond true (decide (a0.Hops<=60)) false) then
(FM a0.JAD).bind fun v28=> k27 (cond true v28 false) else k27 false else k27 false else k27 false else k27 false else k27 false else k27 false else k27 false
) fun v29=> some v29
def Dn (a0:Addr):Option Bool:=
(GA a0).bind fun v1=> some (!v1)
def An (a0:List Addr):Option Int:= AB (τ:=Unit) (fun k1=> Aa (σ:=Unit) (fun _=> k1 ()
) (fun next2 (x3:Addr) i4 _=>
(Dn x3).bind fun v5=> if v5 then some (i4:Int) else next2 ()
) a0 0 ()
) fun _=> some (-1)
def Ad (a0:List Addr):Option Bool:=
(An a0).bind fun v1=> some (decide (v1 ≥ 0))
def ET (a0:JAO):Option Bool:= AB (τ:=Bool) (fun k1=>
(BG a0.ASN 1 4294967295).bind fun v2=> if v2 then
(BG a0.Max4 0 256).bind fun v3=> if (cond true v3 false) then
(BG a0.Max6 0 256).bind fun v4=> if (cond true v4 false) then if (cond true (decide ((a0.Nexts.length:Int)<=8)) false) then
(Ad a0.Nexts).bind fun v5=> k1 (cond true (!v5) false) else k1 false else k1 false else k1 false else k1 false
) fun v6=> some v6
def Es (a0:JAO):Option Bool:= AB (τ:=Unit) (fun k1=> Aa (σ:=Unit) (fun _=> k1 ()
) (fun next2 (x3:Addr) i4 _=>
(CJ x3).bind fun v5=> if (!v5) then some false else next2 ()
) a0.Nexts 0 ()
) fun _=> AB (τ:=Bool) (fun k6=>
(IA a0.ASN).bind fun v7=> if v7 then if (cond true (decide (a0.Max4 ≥ 0)) false) then if (cond true (decide (a0.Max4<=256)) false) then if (cond true (decide (a0.Max6 ≥ 0)) false) then if (cond true (decide (a0.Max6<=256)) false) then k6 (cond true (decide ((a0.Nexts.length:Int)<=8)) false) else k6 false else k6 false else k6 false else k6 false else k6 false
) fun v8=> some v8
def C9 (a0:JAI)(a1:JAO)(a2:JAG)(a3:List Int)(a4:Int)(a5:Int):Option Bool:= AB (τ:=Bool) (fun k1=> if (decide ((a0.JAD.Objects.length:Int) > 60)) then k1 true else if (cond false true (decide ((a0.JAD.Sets.length:Int) > 20))) then k1 true else if (cond false true (decide ((a0.Origins.length:Int) > 60))) then k1 true else if (cond false true (decide ((a1.Nexts.length:Int) > 60))) then k1 true else
(FC a2).bind fun v2=> k1 (cond false true (!v2))
) fun v3=> if v3 then
(CL).bind fun v4=> some v4 else
(E2 a3).bind fun v5=>
(Bh v5).bind fun (v6,v7)=>
(B7 v7 101).bind fun (v8,v9)=>
(C0 a4 9).bind fun v10=> AB (τ:=JAI) (fun k11=> if (v10==0) then k11 ({ v6 with Own:=a5 }) else AB (τ:=JAI) (fun k12=> if (v10==1) then
(C0 a5 40).bind fun v13=> k12 ({ v6 with Min4:=v13 }) else AB (τ:=JAI) (fun k14=> if (v10==2) then
(C0 a5 140).bind fun v15=> k14 ({ v6 with Hole6:=(A0 (v15-2)) }) else AB (τ:=JAI) (fun k16=> if (v10==3) then
(C0 a5 64).bind fun v17=> k16 ({ v6 with Hops:=v17 }) else AB (τ:=Int×(List JAA)×Int×Int×Int×Int×Int×Int×(List JAA)×(List JAN)×(List Int)×Int×(List Set)×(List JAB)×(List JAB)) (fun k18=> if (v10==4) then
(C0 a5 5).bind fun v19=> k18 (v6.Own,v6.LANs,v6.Min4,v6.Max4,v6.Min6,v6.Max6,v6.Hole4,v6.Hole6,v6.Bogons,([(⟨v19,3⟩:JAN)]:List JAN),v6.Free,v6.Hops,v6.JAD.Sets,v6.JAD.Objects,v6.Origins) else AB (τ:=Int×(List JAA)×Int×Int×Int×Int×Int×Int×(List JAA)×(List JAN)×(List Int)×Int×(List Set)×(List JAB)×(List JAB)) (fun k20=> if (v10==5) then
(C0 a5 4).bind fun v21=> k20 (v6.Own,v6.LANs,v6.Min4,v6.Max4,v6.Min6,v6.Max6,v6.Hole4,v6.Hole6,v6.Bogons,v6.Private,([v21]:List Int),v6.Hops,v6.JAD.Sets,v6.JAD.Objects,v6.Origins) else AB (τ:=Int×(List JAA)×Int×Int×Int×Int×Int×Int×(List JAA)×(List JAN)×(List Int)×Int×(List Set)×(List JAB)×(List JAB)) (fun k22=> if (v10==6) then
(C0 a5 40).bind fun v23=>
(C0 a5 3).bind fun v24=> k22 (v6.Own,v6.LANs,v6.Min4,v6.Max4,v6.Min6,v6.Max6,v6.Hole4,v6.Hole6,v6.Bogons,v6.Private,v6.Free,v6.Hops,v6.JAD.Sets,v6.JAD.Objects,([(⟨(⟨(⟨false,(0:UInt64),(0:UInt64)⟩:Addr),8⟩:JAA),v23,(A0 (v24-1))⟩:JAB)]:List JAB)) else AB (τ:=JAI) (fun k25=> if (v10==7) then
(C0 a5 140).bind fun v26=> k25 ({ v6 with Max6:=v26 }) else AB (τ:=(List JAA)) (fun k27=> if (v10==8) then
(C0 a5 40).bind fun v28=> k27 ([(⟨(⟨false,(0:UInt64),(0:UInt64)⟩:Addr),(A0 (v28-2))⟩:JAA)]:List JAA) else k27 v6.LANs
) fun v29=> k25 ({ v6 with LANs:=v29 })
) fun v30=> k22 (v30.Own,v30.LANs,v30.Min4,v30.Max4,v30.Min6,v30.Max6,v30.Hole4,v30.Hole6,v30.Bogons,v30.Private,v30.Free,v30.Hops,v30.JAD.Sets,v30.JAD.Objects,v30.Origins)
) fun (v31,v32,v33,v34,v35,v36,v37,v38,v39,v40,v41,v42,v43,v44,v45)=> k20 (v31,v32,v33,v34,v35,v36,v37,v38,v39,v40,v41,v42,v43,v44,v45)
) fun (v46,v47,v48,v49,v50,v51,v52,v53,v54,v55,v56,v57,v58,v59,v60)=> k18 (v46,v47,v48,v49,v50,v51,v52,v53,v54,v55,v56,v57,v58,v59,v60)
) fun (v61,v62,v63,v64,v65,v66,v67,v68,v69,v70,v71,v72,v73,v74,v75)=> k16 (⟨v61,v62,v63,v64,v65,v66,v67,v68,v69,v70,v71,v72,(⟨v73,v74⟩:JAD),v75⟩:JAI)
) fun v76=> k14 v76
) fun v77=> k12 v77
) fun v78=> k11 v78
) fun v79=>
(C0 a5 300).bind fun v80=> AB (τ:=Unit) (fun k81=> Aa (σ:=Unit) (fun _=> k81 ()
) (fun next82 (x83:JAI) i84 _=>
(Fe x83).bind fun v85=>
(HN x83).bind fun v86=> if (!(v85==v86)) then some false else next82 ()
) ([a0,v6,v79]:List JAI) 0 ()
) fun _=> AB (τ:=Unit) (fun k87=> Aa (σ:=Unit) (fun _=> k87 ()
) (fun next88 (x89:JAO) i90 _=>
(ET x89).bind fun v91=>
(Es x89).bind fun v92=> if (!(v91==v92)) then some false else next88 ()
) ([a1,v8,{ v8 with Max4:=(A0 (v80-20)) }]:List JAO) 0 ()
) fun _=>
(Du v9 101 false).bind fun (v93,v94)=>
(EC v6.JAD.Objects).bind fun v95=>
(EA v6.JAD.Objects).bind fun v96=> AB (τ:=Unit) (fun k97=> Aa (σ:=Unit) (fun _=> k97 ()
) (fun next98 (x99:JAB) i100 _=> AB (τ:=Bool) (fun k101=> if (decide ((i100:Int) ≥ (v95.length:Int))) then k101 true else
(geti v95 (i100:Int)).bind fun v102=> k101 (cond false true (!(JAB.eqd v102 x99)))
) fun v103=> if v103 then some false else next98 ()
) v96 0 ()
) fun _=> AB (τ:=Bool) (fun k104=> if ((v95.length:Int)==(v96.length:Int)) then
(D9 a2).bind fun v105=>
(FT a2).bind fun v106=> if (cond true (v105==v106) false) then
(D9 v93).bind fun v107=>
(FT v93).bind fun v108=> if (cond true (v107==v108) false) then
(CL).bind fun v109=> k104 (cond true v109 false) else k104 false else k104 false else k104 false
) fun v110=> some v110
end Go.AX.Q24
end
section
namespace Go.AX.Q24
open Go Go.AX Go.Proofs
def keep:FuncId->List Bool:=fun f=>(match Nat.beq f 208 with | true=>[true]|false=>(match Nat.beq f 93 with | true=>[true]|false=>(match Nat.beq f 188 with | true=>[true]|false=>(match Nat.beq f 210 with | true=>[true]|false=>[]))))
def Ti:FuncId->Bool:=fun f=>false
def ci:Nat->Option (List (D×D)):=fun g=>(match Nat.beq g 0 with | true=>some (Av D.i D.i Pn)|false=>none)
abbrev Wl (p:Prop):WL:=⟨p,ci⟩
theorem ok {wl:Prop}{f:FuncId}(fn:Func){args:List AV}{objs:List OB}{res:AV}{objs':List OB}
    (hf : Tryz.prog.funcs[f]? = some fn) (hn : (fn.name == "runtime.NumGoroutine") = false) (h : Wz (mcx (Wl wl) Tryz.prog tt keep Ti 0 objs.length) fn args objs fun r o => r = res ∧ o = objs') : A4 (Wl wl) Tryz.prog f args objs res objs' :=
  ZO Vf (by kernel_rfl) keep Ti 0 hf hn h
theorem okx {wl:Prop}{f:FuncId}(ex:Nat)(fn:Func){args:List AV}{objs:List OB}{res:AV}{objs':List OB}
    (hf : Tryz.prog.funcs[f]? = some fn) (hn : (fn.name == "runtime.NumGoroutine") = false) (h : Wz (mcx (Wl wl) Tryz.prog tt keep Ti ex objs.length) fn args objs fun r o => r = res ∧ o = objs') : A4 (Wl wl) Tryz.prog f args objs res objs' :=
  ZO Vf (by kernel_rfl) keep Ti ex hf hn h
theorem inl {wl:Prop}{f:FuncId}(fn:Func)(np:Nat){args:List AV}{ob:List (Option OB)}{K:AV->List (Option OB)->Prop}
    (hf : Tryz.prog.funcs[f]? = some fn) (hn : (fn.name == "runtime.NumGoroutine") = false) (h : bB (mcx (Wl wl) Tryz.prog tt keep Ti 0 np) fn args ob K) : Uz (Wl wl) Tryz.prog f args ob K :=
  ZJ Vf (by kernel_rfl) keep Ti np hf hn h
abbrev X:AV:=.dead
abbrev N:Option OB:=none
def dd:Nat->List AV->List AV
  | 0,l=>l
  | n+1,l=>.dead::dd n l
def nn:Nat->List (Option OB)->List (Option OB)
  | 0,l=>l
  | n+1,l=>none::nn n l
abbrev yb (x:Bool):AV:=.d (D.b x)
abbrev yi (x:Int):AV:=.d (D.i x)
abbrev yu (x:UInt64):AV:=.d (D.u64 x)
abbrev yv (x:UInt8):AV:=.d (D.u8 x)
abbrev ys (x:ByteArray):AV:=.d (D.s x)
theorem oK {wl:Prop}{f:FuncId}(fn:Func){args:List AV}{objs:List OB}{res:AV}{objs':List OB}(h:Wz (mcx (Wl wl) Tryz.prog tt keep Ti 0 objs.length) fn args objs fun r o=>r=res∧o=objs')(hf:Tryz.prog.funcs[f]?=some fn:=by kernel_rfl)(hn:(fn.name == "runtime.NumGoroutine")=false:=by kernel_rfl):A4 (Wl wl) Tryz.prog f args objs res objs':=ok fn hf hn h
theorem oKx {wl:Prop}{f:FuncId}(ex:Nat)(fn:Func){args:List AV}{objs:List OB}{res:AV}{objs':List OB}(h:Wz (mcx (Wl wl) Tryz.prog tt keep Ti ex objs.length) fn args objs fun r o=>r=res∧o=objs')(hf:Tryz.prog.funcs[f]?=some fn:=by kernel_rfl)(hn:(fn.name == "runtime.NumGoroutine")=false:=by kernel_rfl):A4 (Wl wl) Tryz.prog f args objs res objs':=okx ex fn hf hn h
theorem cO {ops:Array Oper}{e:List (List Nat×List Nat)}{K:Prop}(k:K)(h:confB ops e=true:=by kernel_rfl):F9 ops 0 e=true/\K:=cOB h k
theorem dO {ops:Array Oper}{K:Prop}(k:K)(h:drawB ops=true:=by kernel_rfl):IG ops=true/\K:=dOB h k
abbrev yr (a b:Nat):AV:=.ref a b
abbrev yO {α:Type}(r:Nat)(f:α->D)(l:List α):AV:=.own r (List.map f l).length
abbrev yR {α:Type}(e s:Nat)(f:α->D)(l:List α):Option OB:=some (OB.row e s (List.map f l) .no)
abbrev yB (l:List AV):Option OB:=some (OB.box l)
abbrev y0 (l:List Int):AV:=.d (D.l 1 D.i l)
abbrev y1 (l:List JAE):AV:=.d (D.l 2 JAE.toD l)
abbrev y2 (l:List JAC):AV:=.d (D.l 2 JAC.toD l)
abbrev y3 (l:List JAH):AV:=.d (D.l 3 JAH.toD l)
abbrev y4 (l:List JAJ):AV:=.d (D.l 3 JAJ.toD l)
abbrev y5 (l:List Addr):AV:=.d (D.l 3 Addr.toD l)
abbrev y6 (l:List JAN):AV:=.d (D.l 2 JAN.toD l)
abbrev y7 (l:List ByteArray):AV:=.d (D.l 1 D.s l)
abbrev y8 (l:List JAB):AV:=.d (D.l 6 JAB.toD l)
abbrev y9 (l:List JAM):AV:=.d (D.l 2 JAM.toD l)
abbrev y10 (l:List UInt8):AV:=.d (D.l 1 D.u8 l)
abbrev y11 (l:List JAA):AV:=.d (D.l 4 JAA.toD l)
abbrev y12 (l:List Set):AV:=.d (D.l 3 Set.toD l)
abbrev yA0 (a0:List Int):Option OB:=yB [y0 a0]
abbrev zS0 (a0:Int)(a1:Int)(a2:Int)(a3:Int)(a4:Int)(a5:Int)(a6:Int)(a7:Int)(a8:List Int)(a9:List JAA)(a10:List JAN)(a11:List JAB)(a12:List JAB):Option OB:=yB [yi a0,AV.own 13 (List.map JAA.toD ([(⟨(⟨false,(0:UInt64),(3221225984:UInt64)⟩:Addr),24⟩:JAA)]:List JAA)).length,yi a1,yi a2,yi a3,yi a4,yi a5,yi a6,yO 29 JAA.toD a9,yO 16 JAN.toD a10,y0 a8,yi a7,AV.d (D.nil 3),yO 70 JAB.toD a11,yO 88 JAB.toD a12]
abbrev zS1 (a0:Int)(a1:Int)(a2:Bool)(a3:UInt64)(a4:UInt64)(a5:Int)(a6:Int)(a7:List JAE)(a8:List JAC)(a9:List JAH)(a10:List JAJ):Option OB:=yB [AV.d (D.i a1),AV.d (D.l 2 JAE.toD a7),AV.d (D.b a2),AV.d (D.u64 a3),AV.d (D.u64 a4),AV.d (D.i a5),AV.d (D.i a6),yi a0,AV.d (D.l 2 JAC.toD a8),AV.d (D.l 3 JAH.toD a9),AV.d (D.l 3 JAJ.toD a10)]
abbrev zS2 (a0:Int)(a1:Bool)(a2:UInt64)(a3:UInt64)(a4:Int)(a5:Int)(a6:Int)(a7:List JAE)(a8:List JAC)(a9:List JAH)(a10:List JAJ):Option OB:=yB [yi a0,AV.d (D.l 2 JAE.toD a7),AV.d (D.b a1),AV.d (D.u64 a2),AV.d (D.u64 a3),AV.d (D.i a4),AV.d (D.i a5),AV.d (D.i a6),AV.d (D.l 2 JAC.toD a8),AV.d (D.l 3 JAH.toD a9),AV.d (D.l 3 JAJ.toD a10)]
abbrev zS3 (a0:List JAE)(a1:List JAJ)(a2:Int)(a3:Bool)(a4:UInt64)(a5:UInt64)(a6:Int)(a7:Int)(a8:Int)(a9:List JAC)(a10:List JAH):Option OB:=yB [AV.d (D.i a2),yO 30 JAE.toD a0,AV.d (D.b a3),AV.d (D.u64 a4),AV.d (D.u64 a5),AV.d (D.i a6),AV.d (D.i a7),AV.d (D.i a8),AV.d (D.l 2 JAC.toD a9),AV.d (D.l 3 JAH.toD a10),yO 50 JAJ.toD a1]
abbrev zS4 (a0:List JAE)(a1:Int)(a2:Bool)(a3:UInt64)(a4:UInt64)(a5:Int)(a6:Int)(a7:Int)(a8:List JAC)(a9:List JAH):Option OB:=yB [AV.d (D.i a1),yO 30 JAE.toD a0,AV.d (D.b a2),AV.d (D.u64 a3),AV.d (D.u64 a4),AV.d (D.i a5),AV.d (D.i a6),AV.d (D.i a7),AV.d (D.l 2 JAC.toD a8),AV.d (D.l 3 JAH.toD a9),AV.d (D.nil 3)]
abbrev zS5 :Option OB:=yB [yr 0 0]
abbrev zS6 (a0:Int)(a1:Int)(a2:Int)(a3:Int)(a4:Int)(a5:Int)(a6:Int)(a7:Int)(a8:List Int)(a9:List JAA)(a10:List JAN)(a11:List JAB)(a12:List JAB)(a13:JAL):List (Option OB):=yB (JAL.av a13)::N::N::yB JAI.zv::zS0 a0 a1 a2 a3 a4 a5 a6 a7 a8 a9 a10 a11 a12::nn 8 (some (OB.row 43 4 (List.map JAA.toD ([(⟨(⟨false,(0:UInt64),(3221225984:UInt64)⟩:Addr),24⟩:JAA)]:List JAA)) .no)::N::N::yR 71 2 JAN.toD a10::nn 12 (yR 43 4 JAA.toD a9::nn 40 (yR 57 6 JAB.toD a11::nn 17 (yR 57 6 JAB.toD a12::nn 9 ([])))))
abbrev zS7 (a0:Int)(a1:Int)(a2:Int)(a3:Int)(a4:Int)(a5:Int)(a6:Int)(a7:Int)(a8:List Int)(a9:List JAA)(a10:List JAN)(a11:List JAB)(a12:List JAB)(a13:List Int)(a14:JAL)(a15:JAA):List (Option OB):=yB (JAL.av a14)::N::N::yB JAI.zv::zS0 a0 a1 a2 a3 a4 a5 a6 a7 a8 a9 a10 a11 a12::N::N::yB (JAA.av a15)::nn 5 (some (OB.row 43 4 (List.map JAA.toD ([(⟨(⟨false,(0:UInt64),(3221225984:UInt64)⟩:Addr),24⟩:JAA)]:List JAA)) .no)::N::N::yR 71 2 JAN.toD a10::nn 12 (yR 43 4 JAA.toD a9::nn 19 (yR 3 1 D.i a13::nn 20 (yR 57 6 JAB.toD a11::nn 17 (yR 57 6 JAB.toD a12::nn 9 ([]))))))
abbrev zS8 (a0:List Int)(a1:JAI)(a2:JAO)(a3:JAG):List (Option OB):=N::N::N::yB (JAI.av a1)::yB (JAO.av a2)::yB (JAG.av a3)::N::yR 3 1 D.i a0::nn 159 ([])
abbrev zS9 (a0:Int)(a1:Int)(a2:Int)(a3:List JAC)(a4:List JAC):List AV:=yr 0 0::X::X::X::yO 5 JAC.toD a3::yi a0::dd 13 (yO 17 JAC.toD a4::yi a1::yi a2::dd 26 ([]))
abbrev Ur (a0:JAI)(a1:JAO)(a2:JAK)(a3:JAL):List (Option OB):=nn 4 (yB (JAI.av a0)::yB (JAO.av a1)::N::yB (JAK.av a2)::nn 13 (yB (JAL.av a3)::nn 139 ([])))
abbrev UL (a0:List Int)(a1:JAI)(a2:JAO)(a3:JAK):List (Option OB):=N::N::N::yB (JAI.av a1)::yB (JAO.av a2)::yB (JAK.av a3)::nn 21 (yR 3 1 D.i a0::nn 99 ([]))
abbrev eD (a0:Int)(a1:Int)(a2:Int)(a3:Int)(a4:Int)(a5:Int)(a6:Int)(a7:Int)(a8:List Int)(a9:List JAA)(a10:List JAN)(a11:List JAB)(a12:List JAB)(a13:JAL)(a14:JAA):List (Option OB):=yB (JAL.av a13)::N::N::yB JAI.zv::zS0 a0 a1 a2 a3 a4 a5 a6 a7 a8 a9 a10 a11 a12::N::N::yB (JAA.av a14)::nn 5 (some (OB.row 43 4 (List.map JAA.toD ([(⟨(⟨false,(0:UInt64),(3221225984:UInt64)⟩:Addr),24⟩:JAA)]:List JAA)) .no)::N::N::yR 71 2 JAN.toD a10::nn 12 (yR 43 4 JAA.toD a9::nn 40 (yR 57 6 JAB.toD a11::nn 17 (yR 57 6 JAB.toD a12::nn 9 ([])))))
abbrev Ul (a0:Int):List AV:=dd 5 (yi a0::yr 6 0::yr 7 0::yr 8 0::dd 4 (yr 57 0::yr 14 0::yr 15 0::yr 16 0::dd 193 ([])))
abbrev Zg (a0:JAI)(a1:JAO)(a2:JAG)(a3:JAI)(a4:JAO)(a5:JAI)(a6:JAL):List (Option OB):=nn 6 (yB (JAI.av a0)::yB (JAO.av a1)::yB (JAG.av a2)::nn 5 (yB (JAI.av a3)::yB (JAO.av a4)::yB (JAI.av a5)::nn 40 (yB (JAL.av a6)::nn 152 ([]))))
abbrev dI (a0:Int)(a1:Int)(a2:Int)(a3:List JAH)(a4:List JAH):List AV:=dd 4 (yO 5 JAH.toD a3::yi a0::dd 12 (yO 16 JAH.toD a4::yi a1::yi a2::dd 17 ([])))
abbrev Vj (a0:Int)(a1:Int)(a2:Int)(a3:Int)(a4:List JAB):List AV:=X::X::yi a0::X::yr 4 0::X::X::yi a1::dd 5 (y8 a4::yi a2::yi a3::dd 24 ([]))
abbrev Yc (a0:List JAK)(a1:JAI)(a2:JAO):List (Option OB):=nn 6 (yB (JAI.av a1)::yB (JAO.av a2)::nn 29 (yR 51 16 JAK.toD a0::nn 60 ([])))
abbrev an (a0:Int)(a1:Bool)(a2:UInt64)(a3:UInt64)(a4:Int)(a5:Int)(a6:List JAE)(a7:List JAC)(a8:List JAH)(a9:List JAJ)(a10:Int)(a11:JAL):List (Option OB):=yB (JAL.av a11)::nn 6 (yB JAG.zv::yB [yi a0,y1 a6,yb a1,yu a2,yu a3,yi a4,yi a5,AV.d (D.i a10),y2 a7,y3 a8,y4 a9]::nn 118 ([]))
abbrev di (a0:List JAC)(a1:List JAC)(a2:JAL):List (Option OB):=yB (JAL.av a2)::nn 4 (yR 94 2 JAC.toD a0::nn 11 (yR 94 2 JAC.toD a1::nn 31 ([])))
abbrev fZ (a0:Int)(a1:Int)(a2:Int)(a3:Bool)(a4:List JAC)(a5:List JAC):List AV:=yr 0 0::X::X::X::yO 5 JAC.toD a4::yi a0::X::yr 8 0::dd 11 (yO 17 JAC.toD a5::yi a1::yi a2::dd 19 (yb a3::dd 6 ([])))
abbrev dl (a0:Bool)(a1:Bool)(a2:Bool)(a3:Int)(a4:Int)(a5:Int)(a6:Int)(a7:Int)(a8:List Int)(a9:List Int)(a10:List JAN):List AV:=X::X::X::yr 3 0::yr 4 0::yr 5 0::X::yO 7 D.i a9::dd 5 (yb a0::yb a1::yb a2::X::X::X::yi a3::dd 73 (y0 a8::yi a4::yi a5::dd 4 (AV.d (D.l 2 JAN.toD a10)::yi a6::yi a7::dd 64 ([]))))
abbrev aG (a0:Int)(a1:Int)(a2:Int)(a3:Int)(a4:List JAB)(a5:List JAB):List AV:=X::X::yi a0::X::yr 4 0::X::X::X::yO 8 JAB.toD a5::yi a1::X::X::y8 a4::yi a2::yi a3::dd 32 ([])
abbrev cp (a0:List JAH)(a1:List JAH)(a2:JAL):List (Option OB):=yB (JAL.av a2)::nn 4 (yR 154 3 JAH.toD a0::nn 10 (yR 154 3 JAH.toD a1::nn 22 ([])))
abbrev dM (a0:Int)(a1:Int)(a2:Int)(a3:Int)(a4:Int)(a5:List Int):List AV:=yr 0 0::X::yr 3 0::yr 4 0::yi a0::yi a1::yr 7 0::yi a2::dd 40 (yO 49 D.i a5::yi a3::yi a4::dd 46 ([]))
abbrev bw (a0:Bool)(a1:Bool)(a2:Bool)(a3:Int)(a4:Int)(a5:List Int)(a6:List Int):List AV:=X::X::X::yr 3 0::yr 4 0::yr 5 0::X::yO 7 D.i a6::dd 5 (yb a0::yb a1::yb a2::dd 77 (y0 a5::yi a3::yi a4::dd 71 ([])))
abbrev dp (a0:Int)(a1:Int)(a2:Bool)(a3:Int)(a4:Bool)(a5:Bool)(a6:Bool)(a7:Int)(a8:Int)(a9:List JAB):List AV:=X::X::X::yr 21 0::yr 4 0::yr 5 0::yi a0::yr 7 0::yi a1::yb a2::yi a3::yb a4::yb a5::yb a6::dd 60 (AV.d (D.l 6 JAB.toD a9)::yi a7::yi a8::dd 84 ([]))
abbrev bq (a0:Int)(a1:Int)(a2:List JAK):List AV:=dd 6 (yr 6 0::yr 7 0::dd 29 (yO 37 JAK.toD a2::yi a0::yi a1::dd 58 ([])))
abbrev Yx (a0:List ByteArray):List AV:=dd 7 (AV.mp 23::dd 4 (AV.mp 44::AV.mp 45::AV.mp 46::yO 48 D.s a0::dd 82 ([])))
abbrev cF (a0:Int)(a1:Int)(a2:Int)(a3:Int)(a4:List JAB)(a5:List JAB):List AV:=X::X::yi a0::X::yr 4 0::X::X::X::yi a1::yO 9 JAB.toD a5::X::X::y8 a4::yi a2::yi a3::dd 32 ([])
abbrev eJ (a0:Bool)(a1:Bool)(a2:Int)(a3:Int)(a4:List Int)(a5:List JAE):List AV:=X::X::X::yr 3 0::yr 4 0::yr 5 0::X::yO 7 D.i a4::dd 5 (yb a0::yb a1::yb a1::dd 63 (AV.d (D.l 2 JAE.toD a5)::yi a2::yi a3::dd 85 ([])))
abbrev Zc (a0:List JAB)(a1:JAA):List (Option OB):=nn 4 (yB (JAA.av a1)::N::N::N::yR 57 6 JAB.toD a0::nn 38 ([]))
abbrev bv (a0:Int)(a1:Int)(a2:List Set):List AV:=X::yr 1 0::X::AV.mp 12::dd 10 (AV.d (D.l 3 Set.toD a2)::yi a0::yi a1::dd 75 ([]))
abbrev SV (a0:JAI):List (Option OB):=N::yB (JAI.av a0)::nn 184 ([])
abbrev eS (a0:List JAC)(a1:List JAC)(a2:JAL)(a3:JAC):List (Option OB):=yB (JAL.av a2)::nn 4 (yR 94 2 JAC.toD a0::N::N::yB (JAC.av a3)::nn 8 (yR 94 2 JAC.toD a1::nn 31 ([])))
abbrev bD (a0:Int)(a1:Int)(a2:Int)(a3:List JAE):List AV:=X::X::X::yi a0::X::X::y1 a3::yi a1::yi a2::dd 14 ([])
abbrev Vi (a0:JAA):List (Option OB):=nn 4 (yB (JAA.av a0)::nn 35 ([]))
abbrev bH (a0:List Int)(a1:JAO)(a2:JAG):List (Option OB):=nn 4 (yB (JAO.av a1)::yB (JAG.av a2)::N::yR 3 1 D.i a0::nn 159 ([]))
abbrev VW :List AV:=dd 6 (yr 7 0::yr 8 0::dd 118 ([]))
abbrev aO (a0:List JAB)(a1:JAA):List (Option OB):=nn 4 (yB (JAA.av a1)::nn 4 (yR 57 6 JAB.toD a0::nn 37 ([])))
abbrev aU (a0:List JAB)(a1:JAB):List (Option OB):=N::N::N::yR 57 6 JAB.toD a0::N::yB (JAB.av a1)::nn 47 ([])
abbrev aQ (a0:List Int):List AV:=X::X::X::yr 3 0::yr 4 0::yr 5 0::X::yO 7 D.i a0::dd 159 ([])
abbrev bf (a0:List Int):List (Option OB):=nn 13 (yR 3 1 D.i a0::some (OB.row 3 1 (List.map D.i []) .no)::nn 86 ([]))
abbrev Y4 (a0:JAF):List (Option OB):=yB (JAF.av a0)::N::zS5::nn 66 ([])
abbrev ZT (a0:JAF):List (Option OB):=yB (JAF.av a0)::N::zS5::nn 56 ([])
abbrev Yj (a0:List JAB):List (Option OB):=yR 57 6 JAB.toD a0::nn 61 ([])
abbrev JK :List (Option OB):=nn 19 ([])
abbrev Kp :List AV:=dd 19 ([])
abbrev yC (wl:Prop):=A4 (Wl wl) Tryz.prog
end Go.AX.Q24
end
section
namespace Go.AX.Q24
open Go Go.AX Go.Proofs Go.Proofs.YtckndjeehbfpkaaGreatDoor
def D2f {H:Type}:Lit×DataW H->D×D
 | (.int k n,.lit (.int k' m))=>(.val (.int k n),.val (.int k' m))
 | _=>(D.i 0,D.i 0)
theorem glob_ok {W:World}{p:Prop}(h:laidMetH Tryz.prog Rows.filterCoveredRow.laid W) :∃gb:Nat->Prop,(Wl p).gf gb W/\∀b,gb b->b<W.heap.size:=by
 have h2 := laidMetH.filter (fun x => x.1 == "exchangepoint/attribute.flags") h
 have e2 : (Rows.filterCoveredRow.laid.filter fun x => x.1 == "exchangepoint/attribute.flags") = [("exchangepoint/attribute.flags", Rows.laid_exchangepoint_attribute_flags)] := by kernel_rfl
 rw[e2] at h2
 obtain⟨h1,_⟩:=laidMetH_iff.1 h2
 have e1 : (([("exchangepoint/attribute.flags", Rows.laid_exchangepoint_attribute_flags)] : List (String × DataW Unit)).filter fun x => x.2.handleName?.isNone) = [("exchangepoint/attribute.flags", Rows.laid_exchangepoint_attribute_flags)] := by kernel_rfl
 rw[e1] at h1
 obtain⟨ps,⟨g0,t0,cs0,f0,p0,q0,hg0,ht0,hv0,hd0,_⟩,_,_⟩:=h1
 obtain rfl := X25 ((show Tryz.prog.globalNamed "exchangepoint/attribute.flags" = some 0 by kernel_rfl).symm.trans hg0)
 obtain rfl:=X25 ((show (Tryz.prog.globals[0]?).map (·.type)=some 215 by kernel_rfl).symm.trans ht0)
 obtain⟨b0,a0,c0,hc0,hb0,hp0,ho0⟩:=Zz (kd:=.i64) Tryz.underlying215 Tryz.underlying3 hd0 D2f (fun n v d m q hm hv hf=>by
  obtain⟨j,h1,h2,_⟩:=DataW.trod_int Tryz.underlying3 hv
  simp only[X26] at h2
  obtain⟨rfl,_⟩:=h2
  have hv:v=.int .i64 j:=by
   unfold Value.formed at hf
   rw[Tryz.underlying3] at hf
   cases v<;>simp_all [Value.cells]
  subst hv
  exact⟨rfl,rfl⟩)
 have cell :∀{g:Nat} {n:String} {cs:Array Value} {v:Value},Tryz.prog.globalNamed n=some g->W.var? Tryz.prog n=some cs->cs.toList=[v]->cellAt W g 0=some v/\g<W.heap.size:=by
  intro g n cs v hg hv hc
  have h1:=World.var?_cell hg hv 0
  rw[Array.eq_one_of_toList hc] at h1
  have h1:W.cell? ⟨g,0,none⟩=some v:=by simpa using h1
  refine⟨h1,?_⟩
  unfold World.var? at hv
  rw[hg,Option.bind_some] at hv
  cases hh:W.heap[g]? with
  | none=>rw[hh] at hv;cases hv
  | some o=>exact (Array.getElem?_eq_some_iff.1 hh).1
 obtain⟨k0,s0⟩:=cell hg0 hv0 hc0
 refine⟨fun b=>b=0\/b=b0,fun g es hg=>?_,fun b hb=>?_⟩
 rotate_left
 ·rcases hb with rfl | rfl
  ·exact s0
  exact (Array.getElem?_eq_some_iff.1 hb0).1
 match g,hg with
 | 0,hg=>
  obtain rfl:Av D.i D.i Pn=es:=X25 hg
  refine⟨.inl rfl,b0,a0,c0,_,.inr rfl,k0,hb0,fun tk x q hq=>?_,YY ho0⟩
  refine V7 (l:=Av D.i D.i Pn) (hp0.symm) ?_ (by unfold Pn Av;simp[D.i]) hq
  intro q hq
  obtain⟨z,_,rfl⟩:=List.mem_map.1 hq
  exact⟨_,rfl⟩
 | g+1,hg=>cases hg
end Go.AX.Q24
end
section
namespace Go.AX
class Tt {ρ:Type} (m:Option ρ):Prop where
 h :∃r,m=some r
def Ok {ρ:Type}(m:Option ρ)(Q:ρ->Prop):Prop:=∃r,m=some r/\Q r
theorem Ok.ret {ρ:Type}{Q:ρ->Prop}{r:ρ}(h:Q r):Ok (some r) Q:=⟨r,rfl,h⟩
theorem Ok.of {ρ:Type}{m:Option ρ}[t:Tt m]:Ok m fun r=>m=some r:=by
 obtain⟨r,h⟩:=t.h
 exact⟨r,h,h⟩
theorem Ok.imp {ρ:Type}{m:Option ρ}{P Q:ρ->Prop}(h:Ok m P)(k :∀r,P r->Q r):Ok m Q:=by
 obtain⟨r,h1,h2⟩:=h
 exact⟨r,h1,k r h2⟩
theorem Ok.tt {ρ:Type}{m:Option ρ}{Q:ρ->Prop}(h:Ok m Q):Tt m:=by
 obtain⟨r,h1,_⟩:=h
 exact⟨r,h1⟩
theorem Ok.bind {α ρ:Type}{m:Option α}{f:α->Option ρ}{P:α->Prop}{Q:ρ->Prop}(h:Ok m P)(k :∀a,P a->Ok (f a) Q):Ok (Option.bind m f) Q:=by
 obtain⟨a,h1,h2⟩:=h
 rw[h1]
 exact k a h2
theorem Ok.join {τ ρ:Type}{m:(τ->Option ρ)->Option ρ}{k:τ->Option ρ}{Q:ρ->Prop}(J:τ->Prop)(h1 :∀k',(∀v,J v->Ok (k' v) Q)->Ok (m k') Q)(h2 :∀v,J v->Ok (k v) Q):Ok (AB m k) Q:=h1 k h2
theorem Ok.forX {α σ ρ:Type}{done:σ->Option ρ}{body:(σ->Option ρ)->α->Nat->σ->Option ρ}{Q:ρ->Prop}{l:List α}{s0:σ}(I:Nat->σ->Prop)(h0:I 0 s0)(hd :∀s,I l.length s->Ok (done s) Q)
  (hs :∀(next:σ->Option ρ) x i s,l[i]?=some x->I i s->(∀s',I (i+1) s'->Ok (next s') Q)->Ok (body next x i s) Q):Ok (Aa done body l 0 s0) Q:=by
 have key :∀(t:List α) (i:Nat) (s:σ),(∃p,l=p++t/\p.length=i)->I i s->Ok (Aa done body t i s) Q:=by
  intro t
  induction t with
  | nil=>intro i s ⟨p,hp,hl⟩ hi;exact hd s (by rw[hp];simpa[hl] using hi)
  | cons x t ih=>
   intro i s ⟨p,hp,hl⟩ hi
   exact hs _ x i s (by rw[hp,<- hl];simp) hi fun s' h'=>ih (i+1) s' ⟨p++[x],by simp[hp],by simp[hl]⟩ h'
 exact key l 0 s0 ⟨[],rfl,rfl⟩ h0
theorem Ok.forI {α σ ρ:Type}{done:σ->Option ρ}{body:(σ->Option ρ)->α->Nat->σ->Option ρ}{Q:ρ->Prop}{l:List α}{s0:σ}(I:Nat->σ->Prop)(h0:I 0 s0)(hd :∀s,I l.length s->Ok (done s) Q)
  (hs :∀(next:σ->Option ρ) x i s,i<l.length->x∈l->I i s->(∀s',I (i+1) s'->Ok (next s') Q)->Ok (body next x i s) Q):Ok (Aa done body l 0 s0) Q:=
 .forX I h0 hd fun n x i s hx=>hs n x i s (X16.1 hx).1 (List.mem_of_getElem? hx)
theorem Ok.for_ {α σ ρ:Type}{done:σ->Option ρ}{body:(σ->Option ρ)->α->Nat->σ->Option ρ}{Q:ρ->Prop}{l:List α}{s0:σ}(hd :∀s,Ok (done s) Q)
  (hs :∀(next:σ->Option ρ) x i s,i<l.length->x∈l->(∀s',Ok (next s') Q)->Ok (body next x i s) Q):Ok (Aa done body l 0 s0) Q:=
 .forI (fun _ _=>True) trivial (fun s _=>hd s) fun n x i s h1 h2 _ h3=>hs n x i s h1 h2 fun s'=>h3 s' trivial
theorem Ok.whileI {σ ρ:Type}{body:(σ->Option ρ)->σ->Option ρ}{n:Nat}{s:σ}{Q:ρ->Prop}(I:σ->Prop)(μ:σ->Nat)(h0:I s)(hm:μ s<n)
  (hs :∀(next:σ->Option ρ) s,I s->(∀s',I s'->μ s'<μ s->Ok (next s') Q)->Ok (body next s) Q):Ok (CY body n s) Q:=
 TM I μ Q (fun next s h k=>hs next s h k) n s h0 hm
theorem Ok.ite {ρ:Type}{p:Prop}[Decidable p]{x y:Option ρ}{Q:ρ->Prop}(h1:p->Ok x Q)(h2:¬ p->Ok y Q):Ok (if p then x else y) Q:=by
 split
 ·exact h1 ‹_›
 exact h2 ‹_›
theorem Ok.geti {α:Type}{l:List α}{i:Int}(h:0<=i/\i<l.length):Ok (geti l i) fun x=>x∈l/\geti l i=some x:=by
 have h2:i.toNat<l.length:=by omega
 have h3:Go.AX.geti l i=some l[i.toNat]:=by
  unfold Go.AX.geti
  rw[if_pos h]
  simp[h2]
 exact⟨_,h3,List.getElem_mem h2,h3⟩
theorem Ok.seti {α:Type}{l:List α}{i:Int}{x:α}(h:0<=i/\i<l.length):Ok (seti l i x) fun l'=>l'=l.set i.toNat x/\l'.length=l.length:=by
 refine⟨_,?_,rfl,by simp⟩
 unfold Go.AX.seti
 rw[if_pos h]
theorem Ok.apnd {α:Type}{b:Nat}{l m:List α}(hb:Nat.ble b 65536=true)(h:l.length+m.length<=1000000000):Ok (apnd b l m) fun l'=>l'=l++m:=⟨_,BX hb h,rfl⟩
theorem Ok.part {α:Type}{l:List α}{a b:Int}(h:0<=a/\a<=b/\b<=l.length):Ok (part l a b) fun l'=>l'=(l.drop a.toNat).take (b.toNat-a.toNat)/\(l'.length:Int)=b-a:=by
 refine⟨_,?_,rfl,by simp;omega⟩
 unfold Go.AX.part
 rw[if_pos h]
theorem Ok.chk {p:Prop}[Decidable p](h:p):Ok (chk p) fun _=>True:=by
 refine⟨(),?_,trivial⟩
 unfold Go.AX.chk
 rw[if_pos h]
theorem Tt.auto {ρ:Type}{m:Option ρ} (h:Ok m fun _=>True:=by
  repeat' (first
   | exact Ok.ret trivial
   | assumption
   | (refine Ok.bind Ok.of ?_;intros)
   | (refine Ok.ite ?_ ?_<;>intros)
   | (refine Ok.join (fun _=>True) ?_ ?_<;>intros)
   | (refine Ok.for_ ?_ ?_<;>intros)
   | (refine Ok.bind (Ok.geti ?_) ?_<;>intros)
   | (refine Ok.bind (Ok.chk ?_) ?_<;>intros)
   | exact ‹∀v,True->Ok _ _› _ trivial
   | exact ‹∀v,Ok _ _› _
   | solve_by_elim
   | (constructor<;>first | omega | (simp_all;done)|(simp_all;omega))
   | omega
   | decide)):Tt m:=h.tt
theorem Ok.q {ρ:Type}{m:Option ρ}{Q:ρ->Prop} (h:Ok m Q:=by
  repeat' (first
   | assumption
   | refine Ok.ret ?_
   | exact trivial
   | (refine Ok.bind Ok.of ?_;intros)
   | (refine Ok.ite ?_ ?_<;>intros)
   | (refine Ok.bind (Ok.chk ?_) ?_<;>intros)
   | (refine Ok.bind (Ok.geti ?_) ?_<;>intros)
   | (refine Ok.bind (Ok.seti ?_) ?_<;>intros)
   | (refine Ok.bind (Ok.apnd (by decide) ?_) ?_<;>intros)
   | refine ‹∀v,_->_->Ok _ _› _ ?_ ?_
   | refine ‹∀v,_->Ok _ _› _ ?_
   | exact ‹∀v,Ok _ _› _
   | (refine Ok.join (τ:=Bool) (fun _=>True) ?_ ?_<;>intros)
   | (refine Ok.join (τ:=Unit) (fun _=>True) ?_ ?_<;>intros)
   | omega
   | solve_by_elim
   | (simp_all;done)
   | (simp_all;omega)
   | (simp only[X11,X12,X13,X21,decide_eq_true_eq,beq_iff_eq,bne_iff_ne,Bool.not_eq_true'] at *;(try subst_vars);(try simp only[X11,X12,X13]);omega))):Ok m Q:=h
theorem Ok.pos {ρ:Type}{Q:ρ->Prop}{n:Nat}{g:(Bool->Option ρ)->Int->Option ρ}{k:Int->Option ρ}(hn:n<=1000000000)
  (hg :∀(k':Bool->Option ρ) (v:Int),0<=v->v<=n->(∀c,(c=true->v<n)->Ok (k' c) Q)->Ok (g k' v) Q) (hk :∀v:Int,0<=v->v<=n->Ok (k v) Q) :
  Ok (AB (fun k1=>CY (fun next v=>AB (fun k2=>g k2 v) (fun c=>if c=true then next (A0 (v+1)) else k1 v)) fuel 0) k) Q:=by
 refine .join (fun v:Int=>0<=v/\v<=n) (fun k1 hk1=>?_) fun v hv=>hk v hv.1 hv.2
 refine .whileI (fun v:Int=>0<=v/\v<=n) (fun v=>(n-v).toNat) (by omega) (EJ (by omega)) fun next v hv hnx=>?_
 refine .join (fun c=>c=true->v<n) (fun k2 hk2=>hg k2 v hv.1 hv.2 hk2) fun c hc=>.ite (fun h=>?_) fun _=>hk1 v hv
 have:=hc h
 rw[A3 (by omega)]
 exact hnx _ (by omega) (by omega)
def Po {ρ:Type}(m:Option ρ)(Q:ρ->Prop):Prop:=∀r,m=some r->Q r
theorem Po.ret {ρ:Type}{Q:ρ->Prop}{r:ρ}(h:Q r):Po (some r) Q:=fun _ e=>X25 e ▸ h
theorem Po.imp {ρ:Type}{m:Option ρ}{P Q:ρ->Prop}(h:Po m P)(k :∀r,P r->Q r):Po m Q:=fun r e=>k r (h r e)
theorem Po.bind {α ρ:Type}{m:Option α}{f:α->Option ρ}{Q:ρ->Prop}(k :∀a,m=some a->Po (f a) Q):Po (Option.bind m f) Q:=by
 intro r e
 cases hm:m with
 | none=>rw[hm] at e;cases e
 | some a=>rw[hm] at e;exact k a hm r e
theorem Po.join {τ ρ:Type}{m:(τ->Option ρ)->Option ρ}{k:τ->Option ρ}{Q:ρ->Prop}(J:τ->Prop)(h1 :∀k',(∀v,J v->Po (k' v) Q)->Po (m k') Q)(h2 :∀v,J v->Po (k v) Q):Po (AB m k) Q:=h1 k h2
theorem Po.ite {ρ:Type}{p:Prop}[Decidable p]{x y:Option ρ}{Q:ρ->Prop}(h1:p->Po x Q)(h2:¬ p->Po y Q):Po (if p then x else y) Q:=by
 split
 ·exact h1 ‹_›
 exact h2 ‹_›
theorem Po.forX {α σ ρ:Type}{done:σ->Option ρ}{body:(σ->Option ρ)->α->Nat->σ->Option ρ}{Q:ρ->Prop}{l:List α}{s0:σ}(I:Nat->σ->Prop)(h0:I 0 s0)(hd :∀s,I l.length s->Po (done s) Q)
  (hs :∀(next:σ->Option ρ) x i s,l[i]?=some x->I i s->(∀s',I (i+1) s'->Po (next s') Q)->Po (body next x i s) Q):Po (Aa done body l 0 s0) Q:=by
 have key :∀(t:List α) (i:Nat) (s:σ),(∃p,l=p++t/\p.length=i)->I i s->Po (Aa done body t i s) Q:=by
  intro t
  induction t with
  | nil=>intro i s ⟨p,hp,hl⟩ hi;exact hd s (by rw[hp];simpa[hl] using hi)
  | cons x t ih=>
   intro i s ⟨p,hp,hl⟩ hi
   exact hs _ x i s (by rw[hp,<- hl];simp) hi fun s' h'=>ih (i+1) s' ⟨p++[x],by simp[hp],by simp[hl]⟩ h'
 exact key l 0 s0 ⟨[],rfl,rfl⟩ h0
theorem Po.for_ {α σ ρ:Type}{done:σ->Option ρ}{body:(σ->Option ρ)->α->Nat->σ->Option ρ}{Q:ρ->Prop}{l:List α}{s0:σ}(I:σ->Prop)(h0:I s0)(hd :∀s,I s->Po (done s) Q)
  (hs :∀(next:σ->Option ρ) x i s,x∈l->I s->(∀s',I s'->Po (next s') Q)->Po (body next x i s) Q):Po (Aa done body l 0 s0) Q:=
 .forX (fun _=>I) h0 hd fun n x i s hx=>hs n x i s (List.mem_of_getElem? hx)
theorem Po.apnd {α:Type}{b:Nat}{l m:List α}:Po (Go.AX.apnd b l m) fun r=>r=l++m:=by
 intro r e
 unfold Go.AX.apnd at e
 split at e
 ·exact (X25 e).symm
 cases e
theorem Po.geti {α:Type}{l:List α}{i:Int}:Po (Go.AX.geti l i) fun x=>0<=i/\l[i.toNat]?=some x:=by
 intro r e
 unfold Go.AX.geti at e
 split at e
 ·rename_i h
  exact⟨h.1,e⟩
 cases e
theorem Po.seti {α:Type}{l:List α}{i:Int}{x:α}:Po (Go.AX.seti l i x) fun r=>0<=i/\i.toNat<l.length/\r=l.set i.toNat x:=by
 intro r e
 unfold Go.AX.seti at e
 split at e
 ·rename_i h
  exact⟨h.1,by omega,(X25 e).symm⟩
 cases e
theorem Po.part {α:Type}{l:List α}{a b:Int}:Po (Go.AX.part l a b) fun r=>r=(l.drop a.toNat).take (b.toNat-a.toNat):=by
 intro r e
 unfold Go.AX.part at e
 split at e
 ·exact (X25 e).symm
 cases e
theorem Ok.and {ρ:Type}{m:Option ρ}{P Q:ρ->Prop}(h:Ok m P)(k:Po m Q):Ok m fun r=>P r/\Q r:=by
 obtain⟨r,h1,h2⟩:=h
 exact⟨r,h1,h2,k r h1⟩
theorem Ok.po {ρ:Type}{m:Option ρ}{P:ρ->Prop}(h:Ok m P):Po m P:=by
 obtain⟨r,h1,h2⟩:=h
 intro q e
 rw[h1] at e
 exact X25 e ▸ h2
theorem Po.eq {ρ:Type}{m:Option ρ}{r:ρ}{Q:ρ->Prop}(h:m=some r)(k:Q r):Po m Q:=h ▸ .ret k
theorem Po.sel {τ ρ:Type}{m:(τ->Option ρ)->Option ρ}{k:τ->Option ρ}{Q:ρ->Prop}(h1 :∀k',(∀v,Po (k' v) Q)->Po (m k') Q)(h2 :∀v,Po (k v) Q):Po (AB m k) Q:=h1 k h2
end Go.AX
end
section
namespace Go.AX
theorem SY {α ρ:Type}{g:α->Bool}{body:(Unit->Option ρ)->α->Nat->Unit->Option ρ}{K:Unit->Option ρ}{r0:Option ρ} :
  ∀{l:List α} {i:Nat},(∀next x i,x∈l->body next x i ()=cond (g x) (next ()) r0)->Aa K body l i ()=cond (l.all g) (K ()) r0
 | [],_,_=>rfl
 | x::t,i,h=>by
  show body (fun s=>Aa K body t (i+1) s) x i ()=_
  rw[h _ x i (by simp),List.all_cons]
  cases g x
  ·rfl
  exact SY fun next y j hy=>h next y j (X19 _ hy)
theorem ct {α:Type}{f:α->Option Bool}{q:α->Bool} :∀{l:List α} {i:Nat},(∀x∈l,f x=some (q x))->
  Aa (fun _=>some (-1)) (fun next x i _=>Option.bind (f x) fun v=>if v then some (i:Int) else next ()) l i ()=some (match l.findIdx? q with | some j=>((i+j:Nat):Int)|none=>-1)
 | [],_,_=>rfl
 | x::t,i,h=>by
  show Option.bind (f x) (fun v=>if v then some (i:Int) else Aa (fun _=>some (-1)) _ t (i+1) ())=_
  rw[h x (by simp),AA,List.findIdx?_cons]
  by_cases hq:q x=true
  ·rw[if_pos hq,if_pos hq];simp
  rw[if_neg hq,if_neg hq,ct fun y hy=>h y (X19 _ hy)]
  cases t.findIdx? q with
  | none=>rfl
  | some j=>simp only[Option.map_some];rw[show i+1+j=i+(j+1) by omega]
theorem LW {α:Type}{f:α->Option Bool}{q:α->Bool}{l:List α}(h :∀x∈l,f x=some (q x)) :
  (Option.bind (AB (τ:=Unit) (fun k1=>Aa (fun _=>k1 ()) (fun next x i _=>Option.bind (f x) fun v=>if v then some (i:Int) else next ()) l 0 ()) fun _=>some (-1)) fun v1=>some (decide (v1 ≥ 0)))=some (l.any q):=by
 rw[AC,ct h,AA]
 congr 1
 cases hf:l.findIdx? q with
 | none=>
  have:l.any q=false:=by
   rw[List.findIdx?_eq_none_iff] at hf
   simp only[List.any_eq_false]
   intro x hx
   simp[hf x hx]
  rw[this];rfl
 | some j=>
  have h1:=List.findIdx?_eq_some_iff_getElem.1 hf
  obtain⟨hj,hq,_⟩:=h1
  have:l.any q=true:=List.any_eq_true.2 ⟨_,List.getElem_mem hj,hq⟩
  rw[this]
  simp
theorem eqR {α:Type}[DecidableEq α]{a b:List α}{e:α->α->Bool}(he :∀x y,e x y=!decide (x=y)) :
  (if ((a.length:Int) != (b.length:Int)) then some false else AB (τ:=Unit) (fun k1=>Aa (fun _=>k1 ()) (fun next x i _=>Option.bind (geti b (i:Int)) fun v=>if e v x then some false else next ()) a 0 ()) fun _=>some true)=some (decide (a=b)):=by
 by_cases hl:a.length=b.length
 ·rw[if_neg (by simp[hl]),AC]
  have key :∀(t:List α) (i:Nat),i+t.length=b.length->Aa (fun _=>some true) (fun next x i _=>Option.bind (geti b (i:Int)) fun v=>if e v x then some false else next ()) t i ()=some (decide (t=b.drop i)):=by
   intro t
   induction t with
   | nil=>intro i hi;simp only[X13,Nat.add_zero] at hi;rw[hi,List.drop_length];rfl
   | cons x t ih=>
    intro i hi
    simp only[X12] at hi
    have hlt:i<b.length:=by omega
    show Option.bind (geti b (i:Int)) (fun v=>if e v x then some false else Aa (fun _=>some true) _ t (i+1) ())=_
    have hd:b.drop i=b[i]::b.drop (i+1):=List.drop_eq_getElem_cons hlt
    rw[C7 hlt,AA,ih (i+1) (by omega),hd,he]
    generalize b[i]=y
    generalize b.drop (i+1)=u
    by_cases hx:y=x
    ·subst hx;simp
    simp[hx,Ne.symm hx]
  rw[key a 0 (by omega),List.drop_zero]
 rw[if_pos (by simp;omega)]
 have:¬ a=b:=by
  rintro rfl
  exact hl rfl
 rw[decide_eq_false this]
theorem ba (a b:ByteArray):(a.toList==b.toList)=decide (a=b):=by
 have h:a.toList=b.toList↔a=b:=by
  rw[ByteArray.toList_eq,ByteArray.toList_eq]
  constructor
  ·intro h
   have h2:a.data=b.data:=Array.toList_inj.1 h
   cases a;cases b;simp_all
  rintro rfl;rfl
 rw[X28,beq_iff_eq,decide_eq_true_eq,h]
theorem UN {a b:ByteArray}(h:(a==b)=true):a=b:=(Go.MapKept.bytes_beq a b).1 h
theorem bV {a:ByteArray}:(a==a)=true:=(Go.MapKept.bytes_beq a a).2 rfl
instance:LawfulBEq ByteArray:={ eq_of_beq:=UN,rfl:=bV }
section
variable {K V:Type} [BEq K] [LawfulBEq K]
theorem mget_mset (l:List (K×V))(k:K)(v:V)(k':K):DI (CW l k v) k'=if k'==k then some v else DI l k':=by
 induction l with
 | nil=>
  unfold CW
  simp only[DI]
 | cons p l ih=>
  unfold CW
  by_cases hp:(k==p.1)=true
  ·rw[if_pos hp]
   have:=eq_of_beq hp
   simp only[DI]
   by_cases hk:(k'==k)=true
   ·rw[if_pos hk,if_pos hk]
   rw[if_neg hk,if_neg hk,if_neg (by rw[<- this];exact hk)]
  rw[if_neg hp]
  simp only[DI,ih]
  by_cases hk:(k'==k)=true
  ·have:=eq_of_beq hk
   subst this
   rw[if_neg hp,if_pos hk,if_pos hk]
  rw[if_neg hk,if_neg hk]
theorem TF {l:List (K×V)}{k:K}{v:V}(h:DI l k=some v):(k,v)∈l:=by
 induction l with
 | nil=>simp[DI] at h
 | cons p l ih=>
  simp only[DI] at h
  split at h
  ·rename_i hp
   have:=eq_of_beq hp
   simp only[X24] at h
   subst h this
   simp
  exact X19 _ (ih h)
theorem YA {l:List (K×V)}{k:K}:DI l k=none ↔∀p∈l,p.1≠k:=by
 induction l with
 | nil=>simp[DI]
 | cons p l ih=>
  simp only[DI,List.mem_cons,forall_eq_or_imp]
  by_cases hp:(k==p.1)=true
  ·rw[if_pos hp]
   have:=eq_of_beq hp
   simp[this]
  rw[if_neg hp,ih]
  have:p.1≠k:=fun e=>hp (by rw[e];exact beq_self_eq_true k)
  simp[this]
theorem Yf {l:List (K×V)}{k:K}:(∃v,DI l k=some v)↔k∈l.map (·.1):=by
 constructor
 ·rintro⟨v,h⟩
  exact List.mem_map.2 ⟨_,TF h,rfl⟩
 intro h
 obtain⟨p,hp,rfl⟩:=List.mem_map.1 h
 cases hg:DI l p.1 with
 | none=>exact absurd rfl (YA.1 hg p hp)
 | some v=>exact⟨v,rfl⟩
theorem Ld (l:List (K×V))(k:K)(v:V):(CW l k v).map (·.1)=if k∈l.map (·.1) then l.map (·.1) else l.map (·.1)++[k]:=by
 induction l with
 | nil=>simp[CW]
 | cons p l ih=>
  unfold CW
  by_cases hp:(k==p.1)=true
  ·rw[if_pos hp]
   have:=eq_of_beq hp
   simp[this]
  rw[if_neg hp,List.map_cons,ih]
  have hne:¬ k=p.1:=fun e=>hp (by rw[e];exact beq_self_eq_true _)
  simp only[List.map_cons,List.mem_cons,hne,false_or]
  split
  ·rfl
  simp
theorem JY {l:List (K×V)}{k:K}{v:V}(h:(l.map (·.1)).Nodup):((CW l k v).map (·.1)).Nodup:=by
 rw[Ld]
 split
 ·exact h
 rename_i hk
 rw[List.nodup_append]
 exact⟨h,by simp,fun a ha b hb e=>by simp at hb;subst hb;subst e;exact hk ha⟩
theorem FK {l:List (K×V)}{k:K}{v:V}{x:K}:x∈(CW l k v).map (·.1)↔x∈l.map (·.1)\/x=k:=by
 rw[Ld]
 split
 ·rename_i hk
  constructor
  ·exact .inl
  rintro (h | rfl)
  ·exact h
  exact hk
 simp
theorem Vk (l:List (K×V))(k:K)(v:V):(CW l k v).length<=l.length+1:=by
 have:=congrArg List.length (Ld l k v)
 simp only[X10] at this
 rw[this]
 split<;>simp
end
theorem EQ {α:Type}(p:α->Bool)(l:List α):(l.takeWhile p).length<=l.length:=(List.takeWhile_prefix p).length_le
theorem OQ {α:Type}{p:α->Bool} :∀{l:List α} {k:Nat} (hk:k<l.length),k<=(l.takeWhile p).length->(k<(l.takeWhile p).length↔p l[k]=true)
 | [],_,hk,_=>by simp at hk
 | x::t,k,hk,h=>by
  rw[List.takeWhile_cons] at h ⊢
  by_cases hp:p x=true
  ·rw[if_pos hp] at h ⊢
   cases k with
   | zero=>simp[hp]
   | succ k=>simpa using OQ (p:=p) (l:=t) (k:=k) (by simpa using hk) (by simpa using h)
  rw[if_neg hp] at h ⊢
  have:k=0:=by simpa using h
  subst this
  simp[hp]
theorem cR {α ρ:Type}{l:List α}{p:α->Bool}(g:α->(Bool->Option ρ)->Option ρ){K:Int->Option ρ}(hl:l.length<=1000000000000)(hg :∀x∈l,∀k,g x k=k (p x)) :
  AB (fun k1=>CY (fun next v=>AB (fun k2=>if decide (v<(l.length:Int)) then Option.bind (geti l v) fun x=>g x k2 else k2 false) (fun c=>if c=true then next (A0 (v+1)) else k1 v)) fuel 0) K=K ((l.takeWhile p).length:Int):=by
 have ht:=EQ p l
 rw[AC,JR (fun v:Int=>0<=v/\v<=((l.takeWhile p).length:Int)) (fun v=>(l.length-v).toNat) (fun _=>K ((l.takeWhile p).length:Int)) ?_ fuel 0 (by omega) (EJ (by omega))]
 intro next v hv hn
 obtain⟨k,rfl⟩ :∃k:Nat,v=k:=⟨v.toNat,by omega⟩
 rw[AC]
 by_cases hk:k<l.length
 ·rw[if_pos (by simpa using hk),C7 hk,AA,hg _ (List.getElem_mem hk)]
  have h:=OQ (p:=p) hk (by omega)
  by_cases hp:p l[k]=true
  ·rw[if_pos hp,A3 (by omega)]
   have:=h.2 hp
   exact hn _ (by omega) (by omega)
  rw[if_neg hp]
  have:¬ k<(l.takeWhile p).length:=fun q=>hp (h.1 q)
  have:k=(l.takeWhile p).length:=by omega
  rw[this]
 rw[if_neg (by simpa using hk)]
 have:k=(l.takeWhile p).length:=by omega
 subst this
 rfl
theorem ID {α:Type}[DecidableEq α] :∀{l m:List α},l.Nodup->(∀x∈l,x∈m)->l.length<=m.length
 | [],_,_,_=>Nat.zero_le _
 | x::t,m,h,hs=>by
  obtain⟨h1,h2⟩:=List.nodup_cons.1 h
  have hx:=hs x (by simp)
  have:=ID (m:=m.erase x) h2 fun y hy=>(List.mem_erase_of_ne (fun e=>h1 (by rw[<- e];exact hy))).2 (hs y (X19 _ hy))
  rw[List.length_erase_of_mem hx] at this
  have:0<m.length:=List.length_pos_of_mem hx
  simp only[X12]
  omega
theorem Jb {α:Type}{lt:α->α->Prop}(hirr :∀a,¬ lt a a)(htr :∀a b c,lt a b->lt b c->lt a c) :∀{l m:List α},l.Pairwise lt->m.Pairwise lt->(∀x,x∈l↔x∈m)->l=m
 | [],[],_,_,_=>rfl
 | [],y::m,_,_,h=>by have:=(h y).2 (by simp);simp at this
 | x::l,[],_,_,h=>by have:=(h x).1 (by simp);simp at this
 | x::l,y::m,h1,h2,h=>by
  obtain⟨a1,a2⟩:=List.pairwise_cons.1 h1
  obtain⟨b1,b2⟩:=List.pairwise_cons.1 h2
  have hxy:x=y:=by
   rcases List.mem_cons.1 ((h x).1 (by simp)) with e | e
   ·exact e
   rcases List.mem_cons.1 ((h y).2 (by simp)) with e' | e'
   ·exact e'.symm
   exact absurd (htr _ _ _ (a1 y e') (b1 x e)) (hirr x)
  subst hxy
  congr 1
  refine Jb hirr htr a2 b2 fun z=>?_
  constructor
  ·intro hz
   rcases List.mem_cons.1 ((h z).1 (X19 _ hz)) with e | e
   ·subst e;exact absurd (a1 z hz) (hirr z)
   exact e
  intro hz
  rcases List.mem_cons.1 ((h z).2 (X19 _ hz)) with e | e
  ·subst e;exact absurd (b1 z hz) (hirr z)
  exact e
def SS {α:Type}(lt:α->α->Bool)(l:List α)(x:α):List α:=l.takeWhile (lt · x)++x::l.dropWhile (lt · x)
theorem Ri {α:Type}{lt:α->α->Bool}{l:List α}{x y:α}:y∈SS lt l x↔y∈l\/y=x:=by
 unfold SS
 have:y∈l↔y∈l.takeWhile (lt · x)\/y∈l.dropWhile (lt · x):=by
  rw[<- X23,List.takeWhile_append_dropWhile]
 rw[this,X23,List.mem_cons]
 constructor
 ·rintro (h | h | h)
  ·exact .inl (.inl h)
  ·exact .inr h
  exact .inl (.inr h)
 rintro ((h | h)|h)
 ·exact .inl h
 ·exact .inr (.inr h)
 exact .inr (.inl h)
theorem Rx {α:Type}(lt:α->α->Bool)(l:List α)(x:α):(SS lt l x).length=l.length+1:=by
 unfold SS
 have:=congrArg List.length (List.takeWhile_append_dropWhile (p:=(lt · x)) (l:=l))
 simp only[X11,X12] at this ⊢
 omega
theorem I1 {α:Type}(p:α->Bool){l:List α}{x:α}(h:x∈l.takeWhile p):p x=true:=by
 induction l with
 | nil=>simp at h
 | cons y t ih=>
  rw[List.takeWhile_cons] at h
  split at h
  ·rcases List.mem_cons.1 h with rfl | h
   ·assumption
   exact ih h
  simp at h
theorem Kx {α:Type}{lt:α->α->Bool}(htr :∀a b c,lt a b=true->lt b c=true->lt a c=true)(htot :∀a b,lt a b=false->a=b\/lt b a=true){l:List α}{x:α}(h:l.Pairwise fun a b=>lt a b=true)(hx:x∉l) :
  (SS lt l x).Pairwise fun a b=>lt a b=true:=by
 have h0:=h
 rw[<- List.takeWhile_append_dropWhile (p:=(lt · x)) (l:=l),List.pairwise_append] at h
 obtain⟨h1,h2,h3⟩:=h
 have hd :∀b∈l.dropWhile (lt · x),lt x b=true:=by
  cases hl:l.dropWhile (lt · x) with
  | nil=>intro b hb;simp at hb
  | cons y t=>
   have hy:lt y x=false:=by
    have:=List.head?_dropWhile_not (lt · x) l
    rw[hl] at this
    simpa using this
   have hyl:y∈l:=by
    have:y∈l.dropWhile (lt · x):=by rw[hl];simp
    exact List.dropWhile_subset _ this
   have hxy:lt x y=true:=by
    rcases htot _ _ hy with e | e
    ·subst e;exact absurd hyl hx
    exact e
   rw[hl] at h2
   intro b hb
   rcases List.mem_cons.1 hb with rfl | hb
   ·exact hxy
   exact htr _ _ _ hxy ((List.pairwise_cons.1 h2).1 b hb)
 unfold SS
 rw[List.pairwise_append]
 refine⟨h1,List.pairwise_cons.2 ⟨hd,h2⟩,fun a ha b hb=>?_⟩
 rcases List.mem_cons.1 hb with e | hb
 ·rw[e];exact I1 (lt · x) ha
 exact h3 a ha b hb
theorem takeWhile_take {α:Type}(p:α->Bool)(l:List α):l.take (l.takeWhile p).length=l.takeWhile p/\l.drop (l.takeWhile p).length=l.dropWhile p:=by
 have h:=List.takeWhile_append_dropWhile (p:=p) (l:=l)
 constructor
 ·conv=>lhs;arg 2;rw[<- h]
  rw[List.take_left']
  rfl
 conv=>lhs;arg 2;rw[<- h]
 rw[List.drop_left']
 rfl
end Go.AX
end
section
namespace Go.AX
def YJ (a b:Int):Int:=if a<b then -1 else if b<a then 1 else 0
def orI:List Int->Int
 | []=>0
 | x::t=>if x=0 then orI t else x
def Eu:List Int->List Int->Int
 | x::s,y::t=>if x<y then -1 else if y<x then 1 else Eu s t
 | _,_=>0
theorem Vw (x:Int)(t:List Int):orI (x::t)=if x=0 then orI t else x:=rfl
theorem Ll (x y:Int)(t:List Int):orI (YJ x y::t)=if x<y then -1 else if y<x then 1 else orI t:=by
 rw[Vw]
 unfold YJ
 split
 ·rfl
 split<;>simp
theorem O9 :∀a:List Int,Eu a a=0
 | []=>rfl
 | x::t=>by unfold Eu;simp[O9 t]
theorem PO :∀{a b:List Int},a.length=b.length->Eu a b=0->a=b
 | [],[],_,_=>rfl
 | [],_::_,h,_=>by simp at h
 | _::_,[],h,_=>by simp at h
 | x::s,y::t,h,e=>by
  unfold Eu at e
  split at e
  ·simp at e
  split at e
  ·simp at e
  rw[PO (by simpa using h) e,show x=y by omega]
theorem Vs :∀a b:List Int,Eu b a=- Eu a b
 | [],[]=>rfl
 | [],_::_=>rfl
 | _::_,[]=>rfl
 | x::s,y::t=>by
  unfold Eu
  have:=Vs s t
  split<;>split<;>first | omega | (split<;>omega)
theorem TZ :∀{a b c:List Int},a.length=b.length->b.length=c.length->Eu a b<0->Eu b c<0->Eu a c<0
 | [],_,_,_,_,h,_=>by simp[Eu] at h
 | _::_,[],_,h,_,_,_=>by simp at h
 | _::_,_::_,[],_,h,_,_=>by simp at h
 | x::s,y::t,z::u,h1,h2,h3,h4=>by
  have ih:=@TZ s t u (by simpa using h1) (by simpa using h2)
  unfold Eu at h3 h4 ⊢
  by_cases a1:x<y
  ·by_cases a2:y<z
   ·rw[if_pos (by omega)];omega
   rw[if_neg a2] at h4
   by_cases a3:z<y
   ·rw[if_pos a3] at h4;omega
   rw[if_pos (by omega)];omega
  rw[if_neg a1] at h3
  by_cases a4:y<x
  ·rw[if_pos a4] at h3;omega
  rw[if_neg a4] at h3
  have:x=y:=by omega
  subst this
  by_cases a2:x<z
  ·rw[if_pos a2];omega
  rw[if_neg a2] at h4 ⊢
  by_cases a3:z<x
  ·rw[if_pos a3] at h4;omega
  rw[if_neg a3] at h4 ⊢
  exact ih h3 h4
section
variable {X:Type} {key:X->List Int}
def ltK (key:X->List Int)(a b:X):Bool:=decide (Eu (key a) (key b)<0)
theorem ZF (hl :∀a b:X,(key a).length=(key b).length)(a b c:X)(h1:ltK key a b=true)(h2:ltK key b c=true):ltK key a c=true:=by
 unfold ltK at *
 simp only[decide_eq_true_eq] at *
 exact TZ (hl _ _) (hl _ _) h1 h2
variable {cmp:X->X->Option Int}
end
theorem NJ {α:Type}{lt:α->α->Bool}(htr :∀a b c,lt a b=true->lt b c=true->lt a c=true)(hirr :∀a,lt a a=false){l:List α}{x:α}(hs:l.Pairwise fun a b=>lt a b=true) :
  x∈l↔l[(l.takeWhile (lt · x)).length]?=some x:=by
 constructor
 ·intro hx
  rw[<- List.takeWhile_append_dropWhile (p:=(lt · x)) (l:=l),X23] at hx
  rcases hx with hx | hx
  ·have:=I1 (lt · x) hx
   rw[hirr] at this
   simp at this
  have h2:=(takeWhile_take (lt · x) l).2
  cases hd:l.dropWhile (lt · x) with
  | nil=>rw[hd] at hx;simp at hx
  | cons y t=>
   have hy:lt y x=false:=by
    have:=List.head?_dropWhile_not (lt · x) l
    rw[hd] at this
    simpa using this
   have hp:(y::t).Pairwise fun a b=>lt a b=true:=by
    rw[<- hd]
    exact hs.sublist (List.dropWhile_sublist _)
   rw[hd] at hx
   have hxy:x=y:=by
    rcases List.mem_cons.1 hx with e | e
    ·exact e
    have:=(List.pairwise_cons.1 hp).1 x e
    rw[hy] at this;simp at this
   have h3:(l.drop (l.takeWhile (lt · x)).length)[0]?=some x:=by rw[h2,hd,hxy];rfl
   rw[List.getElem?_drop] at h3
   simpa using h3
 intro h
 exact List.mem_of_getElem? h
theorem QQ {α:Type}{l:List α}{i:Int}{x:α}(h0:0<=i)(h:l[i.toNat]?=some x):geti l i=some x:=by
 have:=(X16.1 h).1
 unfold geti
 rw[if_pos (by omega),h]
theorem NM {α:Type}{l:List α}{i:Nat}{x:α}(h:i<l.length):(l.set i x).take (i+1)=l.take i++[x]:=by
 rw[List.take_add_one,List.take_set_of_le (Nat.le_refl _),List.getElem?_set_self h]
 rfl
section
variable {α:Type} {lt:α->α->Bool} (hirr :∀a,lt a a=false) (htr :∀a b c,lt a b=true->lt b c=true->lt a c=true) (htot :∀a b,lt a b=false->a=b\/lt b a=true)
include htr htot
theorem Wq {p q:List α}{y z:α}(hp:p.Pairwise fun a b=>lt a b=true)(hm :∀x,x∈p↔x∈q)(hq :∀x∈q,lt z x=false)(hyz:lt y z=false)(hne:y≠z) :
  (p++[y]).Pairwise (fun a b=>lt a b=true)/\∀x,x∈p++[y]↔x∈q++[y]:=by
 refine⟨List.pairwise_append.2 ⟨hp,by simp,fun x hx w hw=>?_⟩,fun x=>by rw[X23,X23,hm]⟩
 rw[X14] at hw
 subst hw
 have h1:=hq x ((hm x).1 hx)
 have h2:lt z w=true:=(htot _ _ hyz).resolve_left hne
 rcases htot _ _ h1 with e | e
 ·rw[<- e];exact h2
 exact htr _ _ _ e h2
include hirr
end
end Go.AX
end
section
namespace Go.AX.Q24
open Go Go.AX
def fl (t:Int):Int:=if t=1 then 64 else if t=2 then 64 else if t=3 then 64 else if t=4 then 128 else if t=5 then 64 else if t=8 then 192 else if t=32 then 192 else if t=35 then 192 else 0
def unk (t:Int):Bool:=decide (fl t=0)&&(decide (t≠14)&&decide (t≠15))
theorem bC (t:Int):(DI Pn t).getD 0=fl t:=by
 unfold Pn fl
 simp only[DI,beq_iff_eq]
 repeat' (split;· rfl)
 rfl
theorem Z0 (t:Int):(t=1/\fl t=64)\/(t=2/\fl t=64)\/(t=3/\fl t=64)\/(t=4/\fl t=128)\/(t=5/\fl t=64)\/(t=8/\fl t=192)\/(t=32/\fl t=192)\/(t=35/\fl t=192) \/
  (t≠1/\t≠2/\t≠3/\t≠4/\t≠5/\t≠8/\t≠32/\t≠35/\fl t=0):=by
 unfold fl
 by_cases h1:t=1<;>by_cases h2:t=2<;>by_cases h3:t=3<;>by_cases h4:t=4<;>by_cases h5:t=5<;>by_cases h6:t=8<;>by_cases h7:t=32<;>by_cases h8:t=35<;>first | (exfalso;omega)|simp[h1,h2,h3,h4,h5,h6,h7,h8]
theorem RH (t:Int):FG t=some (fl t):=by
 unfold FG
 simp only[AC,beq_iff_eq]
 rcases Z0 t with ⟨h,e⟩|⟨h,e⟩|⟨h,e⟩|⟨h,e⟩|⟨h,e⟩|⟨h,e⟩|⟨h,e⟩|⟨h,e⟩|⟨h1,h2,h3,h4,h5,h6,h7,h8,e⟩<;>rw[e]
 iterate 8 (subst h;rfl)
 simp[h1,h2,h3,h4,h5,h6,h7,h8]
theorem Yt (t:Int)(k:Bool->Option Bool):(if (fl t==0)=true then if (cond true (t != 14) false)=true then k (cond true (t != 15) false) else k false else k false)=k (unk t):=by
 have e1:(t != 14)=!decide (t=14):=rfl
 have e2:(t != 15)=!decide (t=15):=rfl
 unfold unk
 rw[e1,e2]
 by_cases h1:fl t=0<;>by_cases h2:t=14<;>by_cases h3:t=15<;>simp[h1,h2,h3]
theorem Hf (t:Int):D6 t=some (unk t):=by
 unfold D6
 rw[AC,bC,AA]
 exact Yt t some
theorem JL (t:Int):Da t=some (unk t):=by
 unfold Da
 rw[AC,RH,AA]
 exact Yt t some
theorem IB (a b c:Int):Bw a b c=some (decide (b<=a)&&decide (a<=c)):=by
 unfold Bw
 rw[AC]
 by_cases h:b<=a
 ·rw[if_pos (by simpa using h),decide_eq_true h];rfl
 rw[if_neg (by simpa using h),decide_eq_false h];rfl
theorem number_eq (a:Int):B6 a=some (decide (1<=a)&&decide (a<=4294967295)):=by
 unfold B6
 rw[AC]
 by_cases h:1<=a
 ·rw[if_pos (by simpa using h),decide_eq_true h];rfl
 rw[if_neg (by simpa using h),decide_eq_false h];rfl
def bt (x m:Int):Int:=A0 ((BitVec.ofInt 64 x &&& BitVec.ofInt 64 m).toNat:Int)
def val (l:List UInt8):Nat:=l.foldl (fun m x=>m*256+x.toNat) 0
theorem VC (l:List UInt8)(x:UInt8):val (l++[x])=val l*256+x.toNat:=by simp[val]
end Go.AX.Q24
end
