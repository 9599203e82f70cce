/-
  Texts of one proof, packed: Q35Sp L35A L35P L35B L35C L35D L35E L35F L35G.
-/
import Derived.Test.YtgibfgaaoopieaaGreatK2
set_option linter.all false
section
namespace Go.AX.Q35
open Go Go.AX
set_option linter.unusedVariables false
structure Deck where
  L:List Int
  At:Int
def Deck.toD (x:Deck):D:=.agg [D.l 1 D.i x.L,D.i x.At]
def Deck.av (x:Deck):List AV:=[.d (D.l 1 D.i x.L),.d (D.i x.At)]
def Deck.zv:List AV:=[.d (D.nil 1),.d (D.i 0)]
def Deck.wf (x:Deck):Prop:=(x.L.length ≤ maxLen∧x.L.length * 8 ≤ reachBytes∧∀y0 ∈ x.L,I64 y0)∧I64 x.At∧True
structure Addr where
  V6:Bool
  Hi:UInt64
  Lo:UInt64
def Addr.toD (x:Addr):D:=.agg [D.b x.V6,D.u64 x.Hi,D.u64 x.Lo]
def Addr.av (x:Addr):List AV:=[.d (D.b x.V6),.d (D.u64 x.Hi),.d (D.u64 x.Lo)]
def Addr.zv:List AV:=[.d (D.b false),.d (D.u64 (0:UInt64)),.d (D.u64 (0:UInt64))]
def Addr.wf (x:Addr):Prop:=True∧True∧True∧True
def Addr.eqd (x y:Addr):Bool:=((x.V6 == y.V6) && (((x.Hi.toNat:Int) == (y.Hi.toNat:Int)) && (((x.Lo.toNat:Int) == (y.Lo.toNat:Int)) && true)))
structure Prefix where
  Addr:Addr
  Len:Int
def Prefix.toD (x:Prefix):D:=.agg [D.b x.Addr.V6,D.u64 x.Addr.Hi,D.u64 x.Addr.Lo,D.i x.Len]
def Prefix.av (x:Prefix):List AV:=[.d (D.b x.Addr.V6),.d (D.u64 x.Addr.Hi),.d (D.u64 x.Addr.Lo),.d (D.i x.Len)]
def Prefix.zv:List AV:=[.d (D.b false),.d (D.u64 (0:UInt64)),.d (D.u64 (0:UInt64)),.d (D.i 0)]
def Prefix.wf (x:Prefix):Prop:=Addr.wf x.Addr∧I64 x.Len∧True
def Prefix.eqd (x y:Prefix):Bool:=(((x.Addr.V6 == y.Addr.V6) && (((x.Addr.Hi.toNat:Int) == (y.Addr.Hi.toNat:Int)) && (((x.Addr.Lo.toNat:Int) == (y.Addr.Lo.toNat:Int)) && true))) && ((x.Len == y.Len) && true))
structure Span where
  From:Int
  To:Int
def Span.toD (x:Span):D:=.agg [D.i x.From,D.i x.To]
def Span.av (x:Span):List AV:=[.d (D.i x.From),.d (D.i x.To)]
def Span.zv:List AV:=[.d (D.i 0),.d (D.i 0)]
def Span.wf (x:Span):Prop:=I64 x.From∧I64 x.To∧True
def Span.eqd (x y:Span):Bool:=((x.From == y.From) && ((x.To == y.To) && true))
structure Set where
  Name:ByteArray
  ASNs:List Int
  Sets:List ByteArray
def Set.toD (x:Set):D:=.agg [D.s x.Name,D.l 1 D.i x.ASNs,D.l 1 D.s x.Sets]
def Set.av (x:Set):List AV:=[.d (D.s x.Name),.d (D.l 1 D.i x.ASNs),.d (D.l 1 D.s x.Sets)]
def Set.zv:List AV:=[.d (D.s ByteArray.empty),.d (D.nil 1),.d (D.nil 1)]
def Set.wf (x:Set):Prop:=(x.Name.size ≤ maxLen∧x.Name.size ≤ reachBytes)∧(x.ASNs.length ≤ maxLen∧x.ASNs.length * 8 ≤ reachBytes∧∀y0 ∈ x.ASNs,I64 y0)∧(x.Sets.length ≤ maxLen∧x.Sets.length * 16 ≤ reachBytes∧∀y0 ∈ x.Sets,(y0.size ≤ maxLen∧y0.size ≤ reachBytes))∧True
structure Object where
  Prefix:Prefix
  Max:Int
  ASN:Int
def Object.toD (x:Object):D:=.agg [D.b x.Prefix.Addr.V6,D.u64 x.Prefix.Addr.Hi,D.u64 x.Prefix.Addr.Lo,D.i x.Prefix.Len,D.i x.Max,D.i x.ASN]
def Object.av (x:Object):List AV:=[.d (D.b x.Prefix.Addr.V6),.d (D.u64 x.Prefix.Addr.Hi),.d (D.u64 x.Prefix.Addr.Lo),.d (D.i x.Prefix.Len),.d (D.i x.Max),.d (D.i x.ASN)]
def Object.zv:List AV:=[.d (D.b false),.d (D.u64 (0:UInt64)),.d (D.u64 (0:UInt64)),.d (D.i 0),.d (D.i 0),.d (D.i 0)]
def Object.wf (x:Object):Prop:=Prefix.wf x.Prefix∧I64 x.Max∧I64 x.ASN∧True
def Object.eqd (x y:Object):Bool:=((((x.Prefix.Addr.V6 == y.Prefix.Addr.V6) && (((x.Prefix.Addr.Hi.toNat:Int) == (y.Prefix.Addr.Hi.toNat:Int)) && (((x.Prefix.Addr.Lo.toNat:Int) == (y.Prefix.Addr.Lo.toNat:Int)) && true))) && ((x.Prefix.Len == y.Prefix.Len) && true)) && ((x.Max == y.Max) && ((x.ASN == y.ASN) && true)))
structure Registry where
  Sets:List Set
  Objects:List Object
def Registry.toD (x:Registry):D:=.agg [D.l 3 Set.toD x.Sets,D.l 6 Object.toD x.Objects]
def Registry.av (x:Registry):List AV:=[.d (D.l 3 Set.toD x.Sets),.d (D.l 6 Object.toD x.Objects)]
def Registry.zv:List AV:=[.d (D.nil 3),.d (D.nil 6)]
def Registry.wf (x:Registry):Prop:=(x.Sets.length ≤ maxLen∧x.Sets.length * 64 ≤ reachBytes∧∀y0 ∈ x.Sets,Set.wf y0)∧(x.Objects.length ≤ maxLen∧x.Objects.length * 48 ≤ reachBytes∧∀y0 ∈ x.Objects,Object.wf y0)∧True
structure Filter where
  Own:Int
  LANs:List Prefix
  Min4:Int
  Max4:Int
  Min6:Int
  Max6:Int
  Hole4:Int
  Hole6:Int
  Bogons:List Prefix
  Private:List Span
  Free:List Int
  Hops:Int
  Registry:Registry
  Origins:List Object
def Filter.toD (x:Filter):D:=.agg [D.i x.Own,D.l 4 Prefix.toD x.LANs,D.i x.Min4,D.i x.Max4,D.i x.Min6,D.i x.Max6,D.i x.Hole4,D.i x.Hole6,D.l 4 Prefix.toD x.Bogons,D.l 2 Span.toD x.Private,D.l 1 D.i x.Free,D.i x.Hops,D.l 3 Set.toD x.Registry.Sets,D.l 6 Object.toD x.Registry.Objects,D.l 6 Object.toD x.Origins]
def Filter.av (x:Filter):List AV:=[.d (D.i x.Own),.d (D.l 4 Prefix.toD x.LANs),.d (D.i x.Min4),.d (D.i x.Max4),.d (D.i x.Min6),.d (D.i x.Max6),.d (D.i x.Hole4),.d (D.i x.Hole6),.d (D.l 4 Prefix.toD x.Bogons),.d (D.l 2 Span.toD x.Private),.d (D.l 1 D.i x.Free),.d (D.i x.Hops),.d (D.l 3 Set.toD x.Registry.Sets),.d (D.l 6 Object.toD x.Registry.Objects),.d (D.l 6 Object.toD x.Origins)]
def Filter.zv:List AV:=[.d (D.i 0),.d (D.nil 4),.d (D.i 0),.d (D.i 0),.d (D.i 0),.d (D.i 0),.d (D.i 0),.d (D.i 0),.d (D.nil 4),.d (D.nil 2),.d (D.nil 1),.d (D.i 0),.d (D.nil 3),.d (D.nil 6),.d (D.nil 6)]
def Filter.wf (x:Filter):Prop:=I64 x.Own∧(x.LANs.length ≤ maxLen∧x.LANs.length * 32 ≤ reachBytes∧∀y0 ∈ x.LANs,Prefix.wf y0)∧I64 x.Min4∧I64 x.Max4∧I64 x.Min6∧I64 x.Max6∧I64 x.Hole4∧I64 x.Hole6∧(x.Bogons.length ≤ maxLen∧x.Bogons.length * 32 ≤ reachBytes∧∀y0 ∈ x.Bogons,Prefix.wf y0)∧(x.Private.length ≤ maxLen∧x.Private.length * 16 ≤ reachBytes∧∀y0 ∈ x.Private,Span.wf y0)∧(x.Free.length ≤ maxLen∧x.Free.length * 8 ≤ reachBytes∧∀y0 ∈ x.Free,I64 y0)∧I64 x.Hops∧Registry.wf x.Registry∧(x.Origins.length ≤ maxLen∧x.Origins.length * 48 ≤ reachBytes∧∀y0 ∈ x.Origins,Object.wf y0)∧True
structure Prefer where
  ASN:Int
  Value:Int
def Prefer.toD (x:Prefer):D:=.agg [D.i x.ASN,D.i x.Value]
def Prefer.av (x:Prefer):List AV:=[.d (D.i x.ASN),.d (D.i x.Value)]
def Prefer.zv:List AV:=[.d (D.i 0),.d (D.i 0)]
def Prefer.wf (x:Prefer):Prop:=I64 x.ASN∧I64 x.Value∧True
def Prefer.eqd (x y:Prefer):Bool:=((x.ASN == y.ASN) && ((x.Value == y.Value) && true))
structure Policy where
  ASN:Int
  No4:Bool
  No6:Bool
  Holes:Bool
  Hops:Int
  Deny:List Int
  Prefer:List Prefer
def Policy.toD (x:Policy):D:=.agg [D.i x.ASN,D.b x.No4,D.b x.No6,D.b x.Holes,D.i x.Hops,D.l 1 D.i x.Deny,D.l 2 Prefer.toD x.Prefer]
def Policy.av (x:Policy):List AV:=[.d (D.i x.ASN),.d (D.b x.No4),.d (D.b x.No6),.d (D.b x.Holes),.d (D.i x.Hops),.d (D.l 1 D.i x.Deny),.d (D.l 2 Prefer.toD x.Prefer)]
def Policy.zv:List AV:=[.d (D.i 0),.d (D.b false),.d (D.b false),.d (D.b false),.d (D.i 0),.d (D.nil 1),.d (D.nil 2)]
def Policy.wf (x:Policy):Prop:=I64 x.ASN∧True∧True∧True∧I64 x.Hops∧(x.Deny.length ≤ maxLen∧x.Deny.length * 8 ≤ reachBytes∧∀y0 ∈ x.Deny,I64 y0)∧(x.Prefer.length ≤ maxLen∧x.Prefer.length * 16 ≤ reachBytes∧∀y0 ∈ x.Prefer,Prefer.wf y0)∧True
structure Peer where
  ASN:Int
  Set:ByteArray
  Max4:Int
  Max6:Int
  Nexts:List Addr
def Peer.toD (x:Peer):D:=.agg [D.i x.ASN,D.s x.Set,D.i x.Max4,D.i x.Max6,D.l 3 Addr.toD x.Nexts]
def Peer.av (x:Peer):List AV:=[.d (D.i x.ASN),.d (D.s x.Set),.d (D.i x.Max4),.d (D.i x.Max6),.d (D.l 3 Addr.toD x.Nexts)]
def Peer.zv:List AV:=[.d (D.i 0),.d (D.s ByteArray.empty),.d (D.i 0),.d (D.i 0),.d (D.nil 3)]
def Peer.wf (x:Peer):Prop:=I64 x.ASN∧(x.Set.size ≤ maxLen∧x.Set.size ≤ reachBytes)∧I64 x.Max4∧I64 x.Max6∧(x.Nexts.length ≤ maxLen∧x.Nexts.length * 24 ≤ reachBytes∧∀y0 ∈ x.Nexts,Addr.wf y0)∧True
structure Segment where
  Set:Bool
  ASNs:List Int
def Segment.toD (x:Segment):D:=.agg [D.b x.Set,D.l 1 D.i x.ASNs]
def Segment.av (x:Segment):List AV:=[.d (D.b x.Set),.d (D.l 1 D.i x.ASNs)]
def Segment.zv:List AV:=[.d (D.b false),.d (D.nil 1)]
def Segment.wf (x:Segment):Prop:=True∧(x.ASNs.length ≤ maxLen∧x.ASNs.length * 8 ≤ reachBytes∧∀y0 ∈ x.ASNs,I64 y0)∧True
structure Community where
  A:Int
  B:Int
def Community.toD (x:Community):D:=.agg [D.i x.A,D.i x.B]
def Community.av (x:Community):List AV:=[.d (D.i x.A),.d (D.i x.B)]
def Community.zv:List AV:=[.d (D.i 0),.d (D.i 0)]
def Community.wf (x:Community):Prop:=I64 x.A∧I64 x.B∧True
def Community.eqd (x y:Community):Bool:=((x.A == y.A) && ((x.B == y.B) && true))
structure Large where
  A:Int
  B:Int
  C:Int
def Large.toD (x:Large):D:=.agg [D.i x.A,D.i x.B,D.i x.C]
def Large.av (x:Large):List AV:=[.d (D.i x.A),.d (D.i x.B),.d (D.i x.C)]
def Large.zv:List AV:=[.d (D.i 0),.d (D.i 0),.d (D.i 0)]
def Large.wf (x:Large):Prop:=I64 x.A∧I64 x.B∧I64 x.C∧True
def Large.eqd (x y:Large):Bool:=((x.A == y.A) && ((x.B == y.B) && ((x.C == y.C) && true)))
structure Unknown where
  Flags:Int
  Type_:Int
  Data:List UInt8
def Unknown.toD (x:Unknown):D:=.agg [D.i x.Flags,D.i x.Type_,D.l 1 D.u8 x.Data]
def Unknown.av (x:Unknown):List AV:=[.d (D.i x.Flags),.d (D.i x.Type_),.d (D.l 1 D.u8 x.Data)]
def Unknown.zv:List AV:=[.d (D.i 0),.d (D.i 0),.d (D.nil 1)]
def Unknown.wf (x:Unknown):Prop:=I64 x.Flags∧I64 x.Type_∧(x.Data.length ≤ maxLen∧x.Data.length * 1 ≤ reachBytes∧∀y0 ∈ x.Data,True)∧True
structure Attrs where
  Origin:Int
  Path:List Segment
  Next:Addr
  MED:Int
  Pref:Int
  OTC:Int
  Communities:List Community
  Large:List Large
  Other:List Unknown
def Attrs.toD (x:Attrs):D:=.agg [D.i x.Origin,D.l 2 Segment.toD x.Path,D.b x.Next.V6,D.u64 x.Next.Hi,D.u64 x.Next.Lo,D.i x.MED,D.i x.Pref,D.i x.OTC,D.l 2 Community.toD x.Communities,D.l 3 Large.toD x.Large,D.l 3 Unknown.toD x.Other]
def Attrs.av (x:Attrs):List AV:=[.d (D.i x.Origin),.d (D.l 2 Segment.toD x.Path),.d (D.b x.Next.V6),.d (D.u64 x.Next.Hi),.d (D.u64 x.Next.Lo),.d (D.i x.MED),.d (D.i x.Pref),.d (D.i x.OTC),.d (D.l 2 Community.toD x.Communities),.d (D.l 3 Large.toD x.Large),.d (D.l 3 Unknown.toD x.Other)]
def Attrs.zv:List AV:=[.d (D.i 0),.d (D.nil 2),.d (D.b false),.d (D.u64 (0:UInt64)),.d (D.u64 (0:UInt64)),.d (D.i 0),.d (D.i 0),.d (D.i 0),.d (D.nil 2),.d (D.nil 3),.d (D.nil 3)]
def Attrs.wf (x:Attrs):Prop:=I64 x.Origin∧(x.Path.length ≤ maxLen∧x.Path.length * 32 ≤ reachBytes∧∀y0 ∈ x.Path,Segment.wf y0)∧Addr.wf x.Next∧I64 x.MED∧I64 x.Pref∧I64 x.OTC∧(x.Communities.length ≤ maxLen∧x.Communities.length * 16 ≤ reachBytes∧∀y0 ∈ x.Communities,Community.wf y0)∧(x.Large.length ≤ maxLen∧x.Large.length * 24 ≤ reachBytes∧∀y0 ∈ x.Large,Large.wf y0)∧(x.Other.length ≤ maxLen∧x.Other.length * 40 ≤ reachBytes∧∀y0 ∈ x.Other,Unknown.wf y0)∧True
structure Route where
  Prefix:Prefix
  From:Int
  Attrs:Attrs
def Route.toD (x:Route):D:=.agg [D.b x.Prefix.Addr.V6,D.u64 x.Prefix.Addr.Hi,D.u64 x.Prefix.Addr.Lo,D.i x.Prefix.Len,D.i x.From,D.i x.Attrs.Origin,D.l 2 Segment.toD x.Attrs.Path,D.b x.Attrs.Next.V6,D.u64 x.Attrs.Next.Hi,D.u64 x.Attrs.Next.Lo,D.i x.Attrs.MED,D.i x.Attrs.Pref,D.i x.Attrs.OTC,D.l 2 Community.toD x.Attrs.Communities,D.l 3 Large.toD x.Attrs.Large,D.l 3 Unknown.toD x.Attrs.Other]
def Route.av (x:Route):List AV:=[.d (D.b x.Prefix.Addr.V6),.d (D.u64 x.Prefix.Addr.Hi),.d (D.u64 x.Prefix.Addr.Lo),.d (D.i x.Prefix.Len),.d (D.i x.From),.d (D.i x.Attrs.Origin),.d (D.l 2 Segment.toD x.Attrs.Path),.d (D.b x.Attrs.Next.V6),.d (D.u64 x.Attrs.Next.Hi),.d (D.u64 x.Attrs.Next.Lo),.d (D.i x.Attrs.MED),.d (D.i x.Attrs.Pref),.d (D.i x.Attrs.OTC),.d (D.l 2 Community.toD x.Attrs.Communities),.d (D.l 3 Large.toD x.Attrs.Large),.d (D.l 3 Unknown.toD x.Attrs.Other)]
def Route.zv:List AV:=[.d (D.b false),.d (D.u64 (0:UInt64)),.d (D.u64 (0:UInt64)),.d (D.i 0),.d (D.i 0),.d (D.i 0),.d (D.nil 2),.d (D.b false),.d (D.u64 (0:UInt64)),.d (D.u64 (0:UInt64)),.d (D.i 0),.d (D.i 0),.d (D.i 0),.d (D.nil 2),.d (D.nil 3),.d (D.nil 3)]
def Route.wf (x:Route):Prop:=Prefix.wf x.Prefix∧I64 x.From∧Attrs.wf x.Attrs∧True
structure Held where
  Route:Route
  Reason:Int
  Stale:Bool
def Held.toD (x:Held):D:=.agg [D.b x.Route.Prefix.Addr.V6,D.u64 x.Route.Prefix.Addr.Hi,D.u64 x.Route.Prefix.Addr.Lo,D.i x.Route.Prefix.Len,D.i x.Route.From,D.i x.Route.Attrs.Origin,D.l 2 Segment.toD x.Route.Attrs.Path,D.b x.Route.Attrs.Next.V6,D.u64 x.Route.Attrs.Next.Hi,D.u64 x.Route.Attrs.Next.Lo,D.i x.Route.Attrs.MED,D.i x.Route.Attrs.Pref,D.i x.Route.Attrs.OTC,D.l 2 Community.toD x.Route.Attrs.Communities,D.l 3 Large.toD x.Route.Attrs.Large,D.l 3 Unknown.toD x.Route.Attrs.Other,D.i x.Reason,D.b x.Stale]
def Held.av (x:Held):List AV:=[.d (D.b x.Route.Prefix.Addr.V6),.d (D.u64 x.Route.Prefix.Addr.Hi),.d (D.u64 x.Route.Prefix.Addr.Lo),.d (D.i x.Route.Prefix.Len),.d (D.i x.Route.From),.d (D.i x.Route.Attrs.Origin),.d (D.l 2 Segment.toD x.Route.Attrs.Path),.d (D.b x.Route.Attrs.Next.V6),.d (D.u64 x.Route.Attrs.Next.Hi),.d (D.u64 x.Route.Attrs.Next.Lo),.d (D.i x.Route.Attrs.MED),.d (D.i x.Route.Attrs.Pref),.d (D.i x.Route.Attrs.OTC),.d (D.l 2 Community.toD x.Route.Attrs.Communities),.d (D.l 3 Large.toD x.Route.Attrs.Large),.d (D.l 3 Unknown.toD x.Route.Attrs.Other),.d (D.i x.Reason),.d (D.b x.Stale)]
def Held.zv:List AV:=[.d (D.b false),.d (D.u64 (0:UInt64)),.d (D.u64 (0:UInt64)),.d (D.i 0),.d (D.i 0),.d (D.i 0),.d (D.nil 2),.d (D.b false),.d (D.u64 (0:UInt64)),.d (D.u64 (0:UInt64)),.d (D.i 0),.d (D.i 0),.d (D.i 0),.d (D.nil 2),.d (D.nil 3),.d (D.nil 3),.d (D.i 0),.d (D.b false)]
def Held.wf (x:Held):Prop:=Route.wf x.Route∧I64 x.Reason∧True∧True
structure RIB where
  Peer:Peer
  Up:Bool
  Held:List Held
  Until:Int
def RIB.toD (x:RIB):D:=.agg [D.i x.Peer.ASN,D.s x.Peer.Set,D.i x.Peer.Max4,D.i x.Peer.Max6,D.l 3 Addr.toD x.Peer.Nexts,D.b x.Up,D.l 18 Held.toD x.Held,D.i x.Until]
def RIB.av (x:RIB):List AV:=[.d (D.i x.Peer.ASN),.d (D.s x.Peer.Set),.d (D.i x.Peer.Max4),.d (D.i x.Peer.Max6),.d (D.l 3 Addr.toD x.Peer.Nexts),.d (D.b x.Up),.d (D.l 18 Held.toD x.Held),.d (D.i x.Until)]
def RIB.zv:List AV:=[.d (D.i 0),.d (D.s ByteArray.empty),.d (D.i 0),.d (D.i 0),.d (D.nil 3),.d (D.b false),.d (D.nil 18),.d (D.i 0)]
def RIB.wf (x:RIB):Prop:=Peer.wf x.Peer∧True∧(x.Held.length ≤ maxLen∧x.Held.length * 208 ≤ reachBytes∧∀y0 ∈ x.Held,Held.wf y0)∧I64 x.Until∧True
structure Server where
  Filter:Filter
  Policies:List Policy
  RIBs:List RIB
def Server.toD (x:Server):D:=.agg [D.i x.Filter.Own,D.l 4 Prefix.toD x.Filter.LANs,D.i x.Filter.Min4,D.i x.Filter.Max4,D.i x.Filter.Min6,D.i x.Filter.Max6,D.i x.Filter.Hole4,D.i x.Filter.Hole6,D.l 4 Prefix.toD x.Filter.Bogons,D.l 2 Span.toD x.Filter.Private,D.l 1 D.i x.Filter.Free,D.i x.Filter.Hops,D.l 3 Set.toD x.Filter.Registry.Sets,D.l 6 Object.toD x.Filter.Registry.Objects,D.l 6 Object.toD x.Filter.Origins,D.l 7 Policy.toD x.Policies,D.l 8 RIB.toD x.RIBs]
def Server.av (x:Server):List AV:=[.d (D.i x.Filter.Own),.d (D.l 4 Prefix.toD x.Filter.LANs),.d (D.i x.Filter.Min4),.d (D.i x.Filter.Max4),.d (D.i x.Filter.Min6),.d (D.i x.Filter.Max6),.d (D.i x.Filter.Hole4),.d (D.i x.Filter.Hole6),.d (D.l 4 Prefix.toD x.Filter.Bogons),.d (D.l 2 Span.toD x.Filter.Private),.d (D.l 1 D.i x.Filter.Free),.d (D.i x.Filter.Hops),.d (D.l 3 Set.toD x.Filter.Registry.Sets),.d (D.l 6 Object.toD x.Filter.Registry.Objects),.d (D.l 6 Object.toD x.Filter.Origins),.d (D.l 7 Policy.toD x.Policies),.d (D.l 8 RIB.toD x.RIBs)]
def Server.zv:List AV:=[.d (D.i 0),.d (D.nil 4),.d (D.i 0),.d (D.i 0),.d (D.i 0),.d (D.i 0),.d (D.i 0),.d (D.i 0),.d (D.nil 4),.d (D.nil 2),.d (D.nil 1),.d (D.i 0),.d (D.nil 3),.d (D.nil 6),.d (D.nil 6),.d (D.nil 7),.d (D.nil 8)]
def Server.wf (x:Server):Prop:=Filter.wf x.Filter∧(x.Policies.length ≤ maxLen∧x.Policies.length * 72 ≤ reachBytes∧∀y0 ∈ x.Policies,Policy.wf y0)∧(x.RIBs.length ≤ maxLen∧x.RIBs.length * 104 ≤ reachBytes∧∀y0 ∈ x.RIBs,RIB.wf y0)∧True
structure A5_Int where
  e0:Int
  e1:Int
  e2:Int
  e3:Int
  e4:Int
def A5_Int.toD (x:A5_Int):D:=.agg [D.i x.e0,D.i x.e1,D.i x.e2,D.i x.e3,D.i x.e4]
def A5_Int.av (x:A5_Int):List AV:=[.d (D.i x.e0),.d (D.i x.e1),.d (D.i x.e2),.d (D.i x.e3),.d (D.i x.e4)]
def A5_Int.zv:List AV:=[.d (D.i 0),.d (D.i 0),.d (D.i 0),.d (D.i 0),.d (D.i 0)]
def A5_Int.wf (x:A5_Int):Prop:=I64 x.e0∧I64 x.e1∧I64 x.e2∧I64 x.e3∧I64 x.e4∧True
structure Cache where
  Server:Server
  Offers:List (List Route)
def Cache.toD (x:Cache):D:=.agg [D.i x.Server.Filter.Own,D.l 4 Prefix.toD x.Server.Filter.LANs,D.i x.Server.Filter.Min4,D.i x.Server.Filter.Max4,D.i x.Server.Filter.Min6,D.i x.Server.Filter.Max6,D.i x.Server.Filter.Hole4,D.i x.Server.Filter.Hole6,D.l 4 Prefix.toD x.Server.Filter.Bogons,D.l 2 Span.toD x.Server.Filter.Private,D.l 1 D.i x.Server.Filter.Free,D.i x.Server.Filter.Hops,D.l 3 Set.toD x.Server.Filter.Registry.Sets,D.l 6 Object.toD x.Server.Filter.Registry.Objects,D.l 6 Object.toD x.Server.Filter.Origins,D.l 7 Policy.toD x.Server.Policies,D.l 8 RIB.toD x.Server.RIBs,D.l 1 (D.l 16 Route.toD) x.Offers]
def Cache.av (x:Cache):List AV:=[.d (D.i x.Server.Filter.Own),.d (D.l 4 Prefix.toD x.Server.Filter.LANs),.d (D.i x.Server.Filter.Min4),.d (D.i x.Server.Filter.Max4),.d (D.i x.Server.Filter.Min6),.d (D.i x.Server.Filter.Max6),.d (D.i x.Server.Filter.Hole4),.d (D.i x.Server.Filter.Hole6),.d (D.l 4 Prefix.toD x.Server.Filter.Bogons),.d (D.l 2 Span.toD x.Server.Filter.Private),.d (D.l 1 D.i x.Server.Filter.Free),.d (D.i x.Server.Filter.Hops),.d (D.l 3 Set.toD x.Server.Filter.Registry.Sets),.d (D.l 6 Object.toD x.Server.Filter.Registry.Objects),.d (D.l 6 Object.toD x.Server.Filter.Origins),.d (D.l 7 Policy.toD x.Server.Policies),.d (D.l 8 RIB.toD x.Server.RIBs),.d (D.l 1 (D.l 16 Route.toD) x.Offers)]
def Cache.zv:List AV:=[.d (D.i 0),.d (D.nil 4),.d (D.i 0),.d (D.i 0),.d (D.i 0),.d (D.i 0),.d (D.i 0),.d (D.i 0),.d (D.nil 4),.d (D.nil 2),.d (D.nil 1),.d (D.i 0),.d (D.nil 3),.d (D.nil 6),.d (D.nil 6),.d (D.nil 7),.d (D.nil 8),.d (D.nil 1)]
def Cache.wf (x:Cache):Prop:=Server.wf x.Server∧(x.Offers.length ≤ maxLen∧x.Offers.length * 24 ≤ reachBytes∧∀y0 ∈ x.Offers,(y0.length ≤ maxLen∧y0.length * 192 ≤ reachBytes∧∀y1 ∈ y0,Route.wf y1))∧True
structure Update where
  Withdraw:List Prefix
  Attrs:Attrs
  Announce:List Prefix
def Update.toD (x:Update):D:=.agg [D.l 4 Prefix.toD x.Withdraw,D.i x.Attrs.Origin,D.l 2 Segment.toD x.Attrs.Path,D.b x.Attrs.Next.V6,D.u64 x.Attrs.Next.Hi,D.u64 x.Attrs.Next.Lo,D.i x.Attrs.MED,D.i x.Attrs.Pref,D.i x.Attrs.OTC,D.l 2 Community.toD x.Attrs.Communities,D.l 3 Large.toD x.Attrs.Large,D.l 3 Unknown.toD x.Attrs.Other,D.l 4 Prefix.toD x.Announce]
def Update.av (x:Update):List AV:=[.d (D.l 4 Prefix.toD x.Withdraw),.d (D.i x.Attrs.Origin),.d (D.l 2 Segment.toD x.Attrs.Path),.d (D.b x.Attrs.Next.V6),.d (D.u64 x.Attrs.Next.Hi),.d (D.u64 x.Attrs.Next.Lo),.d (D.i x.Attrs.MED),.d (D.i x.Attrs.Pref),.d (D.i x.Attrs.OTC),.d (D.l 2 Community.toD x.Attrs.Communities),.d (D.l 3 Large.toD x.Attrs.Large),.d (D.l 3 Unknown.toD x.Attrs.Other),.d (D.l 4 Prefix.toD x.Announce)]
def Update.zv:List AV:=[.d (D.nil 4),.d (D.i 0),.d (D.nil 2),.d (D.b false),.d (D.u64 (0:UInt64)),.d (D.u64 (0:UInt64)),.d (D.i 0),.d (D.i 0),.d (D.i 0),.d (D.nil 2),.d (D.nil 3),.d (D.nil 3),.d (D.nil 4)]
def Update.wf (x:Update):Prop:=(x.Withdraw.length ≤ maxLen∧x.Withdraw.length * 32 ≤ reachBytes∧∀y0 ∈ x.Withdraw,Prefix.wf y0)∧Attrs.wf x.Attrs∧(x.Announce.length ≤ maxLen∧x.Announce.length * 32 ≤ reachBytes∧∀y0 ∈ x.Announce,Prefix.wf y0)∧True
structure Record where
  Kind:Int
  Member:Int
  Tick:Int
  Grace:Int
  Update:Update
  Policy:Policy
def Record.toD (x:Record):D:=.agg [D.i x.Kind,D.i x.Member,D.i x.Tick,D.i x.Grace,D.l 4 Prefix.toD x.Update.Withdraw,D.i x.Update.Attrs.Origin,D.l 2 Segment.toD x.Update.Attrs.Path,D.b x.Update.Attrs.Next.V6,D.u64 x.Update.Attrs.Next.Hi,D.u64 x.Update.Attrs.Next.Lo,D.i x.Update.Attrs.MED,D.i x.Update.Attrs.Pref,D.i x.Update.Attrs.OTC,D.l 2 Community.toD x.Update.Attrs.Communities,D.l 3 Large.toD x.Update.Attrs.Large,D.l 3 Unknown.toD x.Update.Attrs.Other,D.l 4 Prefix.toD x.Update.Announce,D.i x.Policy.ASN,D.b x.Policy.No4,D.b x.Policy.No6,D.b x.Policy.Holes,D.i x.Policy.Hops,D.l 1 D.i x.Policy.Deny,D.l 2 Prefer.toD x.Policy.Prefer]
def Record.av (x:Record):List AV:=[.d (D.i x.Kind),.d (D.i x.Member),.d (D.i x.Tick),.d (D.i x.Grace),.d (D.l 4 Prefix.toD x.Update.Withdraw),.d (D.i x.Update.Attrs.Origin),.d (D.l 2 Segment.toD x.Update.Attrs.Path),.d (D.b x.Update.Attrs.Next.V6),.d (D.u64 x.Update.Attrs.Next.Hi),.d (D.u64 x.Update.Attrs.Next.Lo),.d (D.i x.Update.Attrs.MED),.d (D.i x.Update.Attrs.Pref),.d (D.i x.Update.Attrs.OTC),.d (D.l 2 Community.toD x.Update.Attrs.Communities),.d (D.l 3 Large.toD x.Update.Attrs.Large),.d (D.l 3 Unknown.toD x.Update.Attrs.Other),.d (D.l 4 Prefix.toD x.Update.Announce),.d (D.i x.Policy.ASN),.d (D.b x.Policy.No4),.d (D.b x.Policy.No6),.d (D.b x.Policy.Holes),.d (D.i x.Policy.Hops),.d (D.l 1 D.i x.Policy.Deny),.d (D.l 2 Prefer.toD x.Policy.Prefer)]
def Record.zv:List AV:=[.d (D.i 0),.d (D.i 0),.d (D.i 0),.d (D.i 0),.d (D.nil 4),.d (D.i 0),.d (D.nil 2),.d (D.b false),.d (D.u64 (0:UInt64)),.d (D.u64 (0:UInt64)),.d (D.i 0),.d (D.i 0),.d (D.i 0),.d (D.nil 2),.d (D.nil 3),.d (D.nil 3),.d (D.nil 4),.d (D.i 0),.d (D.b false),.d (D.b false),.d (D.b false),.d (D.i 0),.d (D.nil 1),.d (D.nil 2)]
def Record.wf (x:Record):Prop:=I64 x.Kind∧I64 x.Member∧I64 x.Tick∧I64 x.Grace∧Update.wf x.Update∧Policy.wf x.Policy∧True
structure Change where
  To:Int
  Prefix:Prefix
  Has:Bool
  Route:Route
def Change.toD (x:Change):D:=.agg [D.i x.To,D.b x.Prefix.Addr.V6,D.u64 x.Prefix.Addr.Hi,D.u64 x.Prefix.Addr.Lo,D.i x.Prefix.Len,D.b x.Has,D.b x.Route.Prefix.Addr.V6,D.u64 x.Route.Prefix.Addr.Hi,D.u64 x.Route.Prefix.Addr.Lo,D.i x.Route.Prefix.Len,D.i x.Route.From,D.i x.Route.Attrs.Origin,D.l 2 Segment.toD x.Route.Attrs.Path,D.b x.Route.Attrs.Next.V6,D.u64 x.Route.Attrs.Next.Hi,D.u64 x.Route.Attrs.Next.Lo,D.i x.Route.Attrs.MED,D.i x.Route.Attrs.Pref,D.i x.Route.Attrs.OTC,D.l 2 Community.toD x.Route.Attrs.Communities,D.l 3 Large.toD x.Route.Attrs.Large,D.l 3 Unknown.toD x.Route.Attrs.Other]
def Change.av (x:Change):List AV:=[.d (D.i x.To),.d (D.b x.Prefix.Addr.V6),.d (D.u64 x.Prefix.Addr.Hi),.d (D.u64 x.Prefix.Addr.Lo),.d (D.i x.Prefix.Len),.d (D.b x.Has),.d (D.b x.Route.Prefix.Addr.V6),.d (D.u64 x.Route.Prefix.Addr.Hi),.d (D.u64 x.Route.Prefix.Addr.Lo),.d (D.i x.Route.Prefix.Len),.d (D.i x.Route.From),.d (D.i x.Route.Attrs.Origin),.d (D.l 2 Segment.toD x.Route.Attrs.Path),.d (D.b x.Route.Attrs.Next.V6),.d (D.u64 x.Route.Attrs.Next.Hi),.d (D.u64 x.Route.Attrs.Next.Lo),.d (D.i x.Route.Attrs.MED),.d (D.i x.Route.Attrs.Pref),.d (D.i x.Route.Attrs.OTC),.d (D.l 2 Community.toD x.Route.Attrs.Communities),.d (D.l 3 Large.toD x.Route.Attrs.Large),.d (D.l 3 Unknown.toD x.Route.Attrs.Other)]
def Change.zv:List AV:=[.d (D.i 0),.d (D.b false),.d (D.u64 (0:UInt64)),.d (D.u64 (0:UInt64)),.d (D.i 0),.d (D.b false),.d (D.b false),.d (D.u64 (0:UInt64)),.d (D.u64 (0:UInt64)),.d (D.i 0),.d (D.i 0),.d (D.i 0),.d (D.nil 2),.d (D.b false),.d (D.u64 (0:UInt64)),.d (D.u64 (0:UInt64)),.d (D.i 0),.d (D.i 0),.d (D.i 0),.d (D.nil 2),.d (D.nil 3),.d (D.nil 3)]
def Change.wf (x:Change):Prop:=I64 x.To∧Prefix.wf x.Prefix∧True∧Route.wf x.Route∧True
def mill_New (a0:List Int):Option Deck:= some (⟨a0,0⟩:Deck)
def mill_Mod (a0:Int) (a1:Int):Option Int:= Option.bind (chk (a1 ≠ 0)) fun _=> joinP (τ:=Int) (fun k1=> if (decide ((Int.tmod a0 a1) < 0)) then k1 (i64w ((Int.tmod a0 a1) + a1)) else k1 (Int.tmod a0 a1)
) fun v2=> some v2
def mill_Deck_Next (a0:Deck) (a1:Int):Option (Int×Deck):= if (decide (a0.At ≥ (a0.L.length:Int))) then some (0,a0) else Option.bind (geti a0.L (i64w ((i64w (a0.At + 1)) - 1))) fun v1=> Option.bind (mill_Mod v1 a1) fun v2=> some (v2,(⟨a0.L,(i64w (a0.At + 1))⟩:Deck))
def mill_block (a0:Int):Option Prefix:= if (decide (a0 ≥ 6)) then some (⟨(⟨true,(toU64 ((BitVec.ofInt 64 2306139568115548160 ||| BitVec.ofInt 64 ((toU64 (((toU64 a0).toNat:Int) * (2 ^ (min (Int.toNat 16) 64)))).toNat:Int)).toNat:Int)),(0:UInt64)⟩:Addr),48⟩:Prefix) else some (⟨(⟨false,(0:UInt64),(toU64 ((BitVec.ofInt 64 167772160 ||| BitVec.ofInt 64 ((toU64 (((toU64 a0).toNat:Int) * (2 ^ (min (Int.toNat 16) 64)))).toNat:Int)).toNat:Int))⟩:Addr),16⟩:Prefix)
def mill_Deck_Filter (a0:Deck):Option (Filter×Deck):= Option.bind (mill_Deck_Next a0 3) fun (v1,v2)=> Option.bind (part ([701,202]:List Int) 0 v1) fun v3=> Option.bind (mill_Deck_Next v2 4) fun (v4,v5)=> joinP (τ:=Deck×(List Prefix)) (fun k6=> if (v4 == 0) then Option.bind (mill_Deck_Next v5 8) fun (v7,v8)=> Option.bind (mill_block v7) fun v9=> k6 (v8,([v9]:List Prefix)) else k6 (v5,[])
) fun (v10,v11)=> Option.bind (mill_Deck_Next v10 6) fun (v12,v13)=> joinP (τ:=Deck×Int) (fun k14=> if (v12 == 0) then Option.bind (mill_Deck_Next v13 3) fun (v15,v16)=> k14 (v16,(i64w (2 + v15))) else k14 (v13,8)
) fun (v17,v18)=> Option.bind (mill_Deck_Next v17 3) fun (v19,v20)=> joinP (τ:=Deck×(List Object)×(List Object)) (fun k21=> whileR (σ:=Int×Deck×(List Object)×(List Object)) (fun next22 (v23,v24,v25,v26)=> if (decide (v23 < 8)) then joinP (τ:=Deck×(List Object)×(List Object)) (fun k27=> Option.bind (mill_block v23) fun v28=> joinP (τ:=Int) (fun k29=> if v28.Addr.V6 then k29 64 else k29 24
) fun v30=> joinP (τ:=Deck×(List Object)) (fun k31=> forR (σ:=Deck×(List Object)) (fun (v32,v33)=> k31 (v32,v33)
) (fun next34 x35 i36 (v32,v33)=> joinP (τ:=Bool×Deck) (fun k37=> if (decide (v19 > 0)) then k37 (true,v32) else Option.bind (mill_Deck_Next v32 3) fun (v38,v39)=> k37 ((cond false true (decide (v38 > 0))),v39)
) fun (v40,v41)=> joinP (τ:=(List Object)) (fun k42=> if v40 then Option.bind (apnd (α:=Object) 48 v33 ([(⟨v28,v30,x35⟩:Object)]:List Object)) fun v43=> k42 v43 else k42 v33
) fun v44=> next34 (v41,v44)
) ([101,102,103,104,105,201,202,203,301]:List Int) 0 (v24,v25)
) fun (v45,v46)=> Option.bind (mill_Deck_Next v45 5) fun (v47,v48)=> joinP (τ:=Deck×(List Object)) (fun k49=> if (v47 == 0) then Option.bind (mill_Deck_Next v48 5) fun (v50,v51)=> Option.bind (geti ([101,102,103,201,0]:List Int) v50) fun v52=> Option.bind (apnd (α:=Object) 48 v26 ([(⟨v28,v30,v52⟩:Object)]:List Object)) fun v53=> k49 (v51,v53) else k49 (v48,v26)
) fun (v54,v55)=> k27 (v54,v46,v55)
) fun (v56,v57,v58)=> next22 ((i64w (v23 + 1)),v56,v57,v58) else k21 (v24,v25,v26)
) fuel (0,v20,[],[])
) fun (v59,v60,v61)=> some ((⟨99,([(⟨(⟨false,(0:UInt64),(3221225984:UInt64)⟩:Addr),24⟩:Prefix)]:List Prefix),8,24,19,64,25,65,v11,([(⟨64512,65534⟩:Span)]:List Span),v3,v18,(⟨([(⟨(ByteArray.mk (List.toArray (List.cons 65 (List.cons 76 (List.cons 76 List.nil))))),([101,102,103,104,105,201,202,203,301]:List Int),[]⟩:Set),(⟨(ByteArray.mk (List.toArray (List.cons 79 (List.cons 78 (List.cons 69 List.nil))))),([201]:List Int),[]⟩:Set)]:List Set),v60⟩:Registry),v61⟩:Filter),v59)
def mill_Deck_Policy (a0:Deck) (a1:Int):Option (Policy×Deck):= Option.bind (mill_Deck_Next a0 2) fun (v1,v2)=> Option.bind (mill_Deck_Next v2 8) fun (v3,v4)=> joinP (τ:=Deck×Bool×Bool×Int×(List Int)) (fun k5=> if (v3 == 0) then k5 (v4,true,false,0,[]) else joinP (τ:=Deck×Bool×Int×(List Int)) (fun k6=> if (v3 == 1) then k6 (v4,true,0,[]) else joinP (τ:=Deck×Int×(List Int)) (fun k7=> if (v3 == 2) then Option.bind (mill_Deck_Next v4 4) fun (v8,v9)=> k7 (v9,(i64w (1 + v8)),[]) else joinP (τ:=Deck×(List Int)) (fun k10=> if (v3 == 3) then Option.bind (mill_Deck_Next v4 4) fun (v11,v12)=> k10 (v12,([(i64w (101 + v11))]:List Int)) else k10 (v4,[])
) fun (v13,v14)=> k7 (v13,0,v14)
) fun (v15,v16,v17)=> k6 (v15,false,v16,v17)
) fun (v18,v19,v20,v21)=> k5 (v18,false,v19,v20,v21)
) fun (v22,v23,v24,v25,v26)=> joinP (τ:=Deck×(List Prefer)) (fun k27=> whileR (σ:=Int×Deck×(List Prefer)) (fun next28 (v29,v30,v31)=> if (decide (v29 < 5)) then Option.bind (mill_Deck_Next v30 4) fun (v32,v33)=> joinP (τ:=Deck×(List Prefer)) (fun k34=> if (v32 == 0) then Option.bind (mill_Deck_Next v33 5) fun (v35,v36)=> Option.bind (apnd (α:=Prefer) 16 v31 ([(⟨(i64w (101 + v29)),(i64w (v35 - 2))⟩:Prefer)]:List Prefer)) fun v37=> k34 (v36,v37) else k34 (v33,v31)
) fun (v38,v39)=> next28 ((i64w (v29 + 1)),v38,v39) else k27 (v30,v31)
) fuel (0,v22,[])
) fun (v40,v41)=> some ((⟨a1,v23,v24,(v1 == 0),v25,v26,v41⟩:Policy),v40)
def mill_Port (a0:Int) (a1:Bool):Option Addr:= if a1 then some (⟨true,(2306139568115613695:UInt64),(toU64 a0)⟩:Addr) else some (⟨false,(0:UInt64),(toU64 ((BitVec.ofInt 64 3221225984 ||| BitVec.ofInt 64 ((toU64 (i64w ((Int.tmod a0 250) + 1))).toNat:Int)).toNat:Int))⟩:Addr)
def mill_Deck_Peer (a0:Deck) (a1:Int):Option (Peer×Deck):= Option.bind (mill_Deck_Next a0 6) fun (v1,v2)=> Option.bind (geti ([(ByteArray.mk (List.toArray (List.cons 65 (List.cons 76 (List.cons 76 List.nil))))),(ByteArray.mk (List.toArray (List.cons 65 (List.cons 76 (List.cons 76 List.nil))))),(ByteArray.mk (List.toArray (List.cons 65 (List.cons 76 (List.cons 76 List.nil))))),(ByteArray.mk (List.toArray (List.cons 79 (List.cons 78 (List.cons 69 List.nil))))),(ByteArray.mk (List.toArray List.nil)),(ByteArray.mk (List.toArray (List.cons 78 (List.cons 79 (List.cons 78 (List.cons 69 List.nil))))))]:List ByteArray) v1) fun v3=> Option.bind (mill_Deck_Next v2 20) fun (v4,v5)=> Option.bind (mill_Deck_Next v5 9) fun (v6,v7)=> Option.bind (mill_Port a1 false) fun v8=> Option.bind (mill_Port a1 true) fun v9=> some ((⟨a1,v3,(i64w (6 + v4)),(i64w (3 + v6)),([v8,v9]:List Addr)⟩:Peer),v7)
def mill_Deck_Start (a0:Deck):Option (Server×Deck):= Option.bind (mill_Deck_Filter a0) fun (v1,v2)=> joinP (τ:=Deck×(List Policy)×(List RIB)) (fun k3=> whileR (σ:=Int×Deck×(List Policy)×(List RIB)) (fun next4 (v5,v6,v7,v8)=> Option.bind (mill_Deck_Next v6 4) fun (v9,v10)=> if (decide (v5 < (i64w (2 + v9)))) then Option.bind (mill_Deck_Policy v10 (i64w (101 + v5))) fun (v11,v12)=> Option.bind (apnd (α:=Policy) 72 v7 ([v11]:List Policy)) fun v13=> Option.bind (mill_Deck_Peer v12 (i64w (101 + v5))) fun (v14,v15)=> Option.bind (mill_Deck_Next v15 6) fun (v16,v17)=> Option.bind (apnd (α:=RIB) 104 v8 ([(⟨v14,(decide (v16 > 0)),[],0⟩:RIB)]:List RIB)) fun v18=> next4 ((i64w (v5 + 1)),v17,v13,v18) else k3 (v10,v7,v8)
) fuel (0,v2,[],[])
) fun (v19,v20,v21)=> some ((⟨v1,v20,v21⟩:Server),v19)
def ref26_asn (a0:Int):Option Bool:= joinP (τ:=Bool) (fun k1=> if (decide (a0 ≥ 1)) then k1 (cond true (decide (a0 ≤ 4294967295)) false) else k1 false
) fun v2=> some v2
def ref26_Check (a0:Policy):Option Int:= joinP (τ:=Bool) (fun k1=> Option.bind (ref26_asn a0.ASN) fun v2=> if v2 then if (cond true (decide (a0.Hops ≥ 0)) false) then if (cond true (decide (a0.Hops ≤ 60)) false) then if (cond true (decide ((a0.Deny.length:Int) ≤ 64)) false) then k1 (cond true (decide ((a0.Prefer.length:Int) ≤ 64)) false) else k1 false else k1 false else k1 false else k1 false
) fun v3=> joinP (τ:=Bool) (fun k4=> forR (σ:=Bool) (fun v5=> k4 v5
) (fun next6 x7 i8 v5=> joinP (τ:=Bool) (fun k9=> if v5 then Option.bind (ref26_asn x7) fun v10=> if (cond true v10 false) then if ((i8:Int) == 0) then k9 true else Option.bind (geti a0.Deny (i64w ((i8:Int) - 1))) fun v11=> k9 (cond true (cond false true (decide (v11 < x7))) false) else k9 false else k9 false
) fun v12=> next6 v12
) a0.Deny 0 v3
) fun v13=> joinP (τ:=Bool) (fun k14=> forR (σ:=Bool) (fun v15=> k14 v15
) (fun next16 x17 i18 v15=> joinP (τ:=Bool) (fun k19=> if v15 then Option.bind (ref26_asn x17.ASN) fun v20=> if (cond true v20 false) then if ((i18:Int) == 0) then if (cond true (decide (x17.Value ≥ (-1000))) false) then k19 (cond true (decide (x17.Value ≤ 1000)) false) else k19 false else Option.bind (geti a0.Prefer (i64w ((i18:Int) - 1))) fun v21=> if (cond true (cond false true (decide (v21.ASN < x17.ASN))) false) then if (cond true (decide (x17.Value ≥ (-1000))) false) then k19 (cond true (decide (x17.Value ≤ 1000)) false) else k19 false else k19 false else k19 false else k19 false
) fun v22=> next16 v22
) a0.Prefer 0 v13
) fun v23=> if (!v23) then some 33 else some 0
def ref08_Name (a0:ByteArray):Option Bool:= joinP (τ:=Unit) (fun k1=> whileR (σ:=Int) (fun next2 v3=> if (decide (v3 < (a0.size:Int))) then Option.bind (geti a0.toList v3) fun v4=> joinP (τ:=Bool) (fun k5=> if (decide ((v4.toNat:Int) ≥ 97)) then if (cond true (decide ((v4.toNat:Int) ≤ 122)) false) then k5 (!true) else if (decide ((v4.toNat:Int) ≥ 65)) then if (cond false true (cond true (decide ((v4.toNat:Int) ≤ 90)) false)) then k5 (!true) else if (decide ((v4.toNat:Int) ≥ 48)) then if (cond false true (cond true (decide ((v4.toNat:Int) ≤ 57)) false)) then k5 (!true) else if (cond false true ((v4.toNat:Int) == 45)) then k5 (!true) else k5 (!(cond false true ((v4.toNat:Int) == 58))) else if (cond false true ((v4.toNat:Int) == 45)) then k5 (!true) else k5 (!(cond false true ((v4.toNat:Int) == 58))) else if (decide ((v4.toNat:Int) ≥ 48)) then if (cond false true (cond true (decide ((v4.toNat:Int) ≤ 57)) false)) then k5 (!true) else if (cond false true ((v4.toNat:Int) == 45)) then k5 (!true) else k5 (!(cond false true ((v4.toNat:Int) == 58))) else if (cond false true ((v4.toNat:Int) == 45)) then k5 (!true) else k5 (!(cond false true ((v4.toNat:Int) == 58))) else if (decide ((v4.toNat:Int) ≥ 65)) then if (cond false true (cond true (decide ((v4.toNat:Int) ≤ 90)) false)) then k5 (!true) else if (decide ((v4.toNat:Int) ≥ 48)) then if (cond false true (cond true (decide ((v4.toNat:Int) ≤ 57)) false)) then k5 (!true) else if (cond false true ((v4.toNat:Int) == 45)) then k5 (!true) else k5 (!(cond false true ((v4.toNat:Int) == 58))) else if (cond false true ((v4.toNat:Int) == 45)) then k5 (!true) else k5 (!(cond false true ((v4.toNat:Int) == 58))) else if (decide ((v4.toNat:Int) ≥ 48)) then if (cond false true (cond true (decide ((v4.toNat:Int) ≤ 57)) false)) then k5 (!true) else if (cond false true ((v4.toNat:Int) == 45)) then k5 (!true) else k5 (!(cond false true ((v4.toNat:Int) == 58))) else if (cond false true ((v4.toNat:Int) == 45)) then k5 (!true) else k5 (!(cond false true ((v4.toNat:Int) == 58)))
) fun v6=> if v6 then some false else next2 (i64w (v3 + 1)) else k1 ()
) fuel 0
) fun _=> joinP (τ:=Bool) (fun k7=> if (decide ((a0.size:Int) ≥ 1)) then k7 (cond true (decide ((a0.size:Int) ≤ 32)) false) else k7 false
) fun v8=> some v8
def ref01_Valid (a0:Addr):Option Bool:= joinP (τ:=Bool) (fun k1=> if a0.V6 then k1 true else if ((a0.Hi.toNat:Int) == 0) then k1 (cond false true (cond true (decide ((a0.Lo.toNat:Int) < 4294967296)) false)) else k1 false
) fun v2=> some v2
def ref02_width (a0:Addr):Option Int:= if a0.V6 then some 128 else some 32
def ref01_Bytes (a0:Addr):Option (List UInt8):= Option.bind (ref01_Valid a0) fun v1=> if (!v1) then some [] else joinP (τ:=Int) (fun k2=> if a0.V6 then k2 16 else k2 4
) fun v3=> joinP (τ:=(List UInt8)) (fun k4=> whileR (σ:=Int×(List UInt8)) (fun next5 (v6,v7)=> if (decide (v6 ≥ 0)) then joinP (τ:=UInt64) (fun k8=> if (decide (v6 ≥ 8)) then k8 a0.Hi else k8 a0.Lo
) fun v9=> Option.bind (apnd (α:=UInt8) 1 v7 ([(toU8 ((toU64 (Int.fdiv (v9.toNat:Int) (2 ^ (min (Int.toNat ((toU64 (8 * ((toU64 (Int.tmod v6 8)).toNat:Int))).toNat:Int)) 64)))).toNat:Int))]:List UInt8)) fun v10=> next5 ((i64w (v6 - 1)),v10) else k4 v7
) fuel ((i64w (v3 - 1)),[])
) fun v11=> some v11
def ref01_FromBytes (a0:List UInt8):Option (Addr×Int):= joinP (τ:=Bool) (fun k1=> if ((a0.length:Int) != 4) then k1 (cond true ((a0.length:Int) != 16) false) else k1 false
) fun v2=> if v2 then some ((⟨false,(0:UInt64),(0:UInt64)⟩:Addr),1) else joinP (τ:=Addr) (fun k3=> forR (σ:=Addr) (fun v4=> k3 v4
) (fun next5 x6 i7 v4=> next5 (⟨v4.V6,(toU64 ((BitVec.ofInt 64 ((toU64 ((v4.Hi.toNat:Int) * (2 ^ (min (Int.toNat 8) 64)))).toNat:Int) ||| BitVec.ofInt 64 ((toU64 (Int.fdiv (v4.Lo.toNat:Int) (2 ^ (min (Int.toNat 56) 64)))).toNat:Int)).toNat:Int)),(toU64 ((BitVec.ofInt 64 ((toU64 ((v4.Lo.toNat:Int) * (2 ^ (min (Int.toNat 8) 64)))).toNat:Int) ||| BitVec.ofInt 64 ((toU64 (x6.toNat:Int)).toNat:Int)).toNat:Int))⟩:Addr)
) a0 0 (⟨((a0.length:Int) == 16),(0:UInt64),(0:UInt64)⟩:Addr)
) fun v8=> some (v8,0)
def ref02_Make (a0:Addr) (a1:Int):Option (Prefix×Int):= Option.bind (ref01_Valid a0) fun v1=> if (!v1) then some ((⟨(⟨false,(0:UInt64),(0:UInt64)⟩:Addr),0⟩:Prefix),1) else joinP (τ:=Bool) (fun k2=> if (decide (a1 < 0)) then k2 true else Option.bind (ref02_width a0) fun v3=> k2 (cond false true (decide (a1 > v3)))
) fun v4=> if v4 then some ((⟨(⟨false,(0:UInt64),(0:UInt64)⟩:Addr),0⟩:Prefix),9) else Option.bind (ref01_Bytes a0) fun v5=> joinP (τ:=(List UInt8)) (fun k6=> whileR (σ:=Int×(List UInt8)) (fun next7 (v8,v9)=> if (decide (v8 < (i64w (8 * (v9.length:Int))))) then Option.bind (geti v9 (i64w (Int.tdiv v8 8))) fun v10=> Option.bind (geti v9 (i64w (Int.tdiv v8 8))) fun v11=> Option.bind (seti v9 (i64w (Int.tdiv v8 8)) (toU8 ((BitVec.ofInt 8 (v10.toNat:Int) &&& ~~~BitVec.ofInt 8 ((toU8 (Int.fdiv 128 (2 ^ (min (Int.toNat ((toU64 (Int.tmod v8 8)).toNat:Int)) 8)))).toNat:Int)).toNat:Int))) fun v12=> next7 ((i64w (v8 + 1)),v12) else k6 v9
) fuel (a1,v5)
) fun v13=> Option.bind (ref01_FromBytes v13) fun (v14,v15)=> some ((⟨v14,a1⟩:Prefix),0)
def ref02_Valid (a0:Prefix):Option Bool:= Option.bind (ref02_Make a0.Addr a0.Len) fun (v1,v2)=> joinP (τ:=Bool) (fun k3=> if (v2 == 0) then k3 (cond true (Prefix.eqd a0 v1) false) else k3 false
) fun v4=> some v4
def ref20_ValidObject (a0:Object):Option Bool:= joinP (τ:=Int) (fun k1=> if a0.Prefix.Addr.V6 then k1 128 else k1 32
) fun v2=> joinP (τ:=Bool) (fun k3=> Option.bind (ref02_Valid a0.Prefix) fun v4=> if v4 then if (cond true (decide (a0.Max ≥ a0.Prefix.Len)) false) then if (cond true (decide (a0.Max ≤ v2)) false) then if (cond true (decide (a0.ASN ≥ 1)) false) then k3 (cond true (decide (a0.ASN ≤ 4294967295)) false) else k3 false else k3 false else k3 false else k3 false
) fun v5=> some v5
def ref20_Valid (a0:Registry):Option Bool:= joinP (τ:=Unit) (fun k1=> forR (σ:=(List (ByteArray×Bool))) (fun v2=> k1 ()
) (fun next3 x4 i5 v2=> joinP (τ:=Unit) (fun k6=> joinP (τ:=Bool) (fun k7=> Option.bind (ref08_Name x4.Name) fun v8=> if (!v8) then k7 true else Option.bind (some (Option.getD (mget v2 x4.Name) false)) fun v9=> if (cond false true v9) then k7 true else if (cond false true (decide ((x4.ASNs.length:Int) > 64))) then k7 true else k7 (cond false true (decide ((x4.Sets.length:Int) > 64)))
) fun v10=> if v10 then some false else joinP (τ:=Unit) (fun k11=> forR (σ:=Unit) (fun _=> k11 ()
) (fun next12 x13 i14 _=> joinP (τ:=Bool) (fun k15=> if (decide (x13 < 1)) then k15 true else k15 (cond false true (decide (x13 > 4294967295)))
) fun v16=> if v16 then some false else next12 ()
) x4.ASNs 0 ()
) fun _=> joinP (τ:=Unit) (fun k17=> forR (σ:=Unit) (fun _=> k17 ()
) (fun next18 x19 i20 _=> Option.bind (ref08_Name x19) fun v21=> if (!v21) then some false else next18 ()
) x4.Sets 0 ()
) fun _=> k6 ()
) fun _=> next3 (mset v2 x4.Name true)
) a0.Sets 0 []
) fun _=> joinP (τ:=Unit) (fun k22=> forR (σ:=Unit) (fun _=> k22 ()
) (fun next23 x24 i25 _=> Option.bind (ref20_ValidObject x24) fun v26=> if (!v26) then some false else next23 ()
) a0.Objects 0 ()
) fun _=> joinP (τ:=Bool) (fun k27=> if (decide ((a0.Sets.length:Int) ≤ 64)) then k27 (cond true (decide ((a0.Objects.length:Int) ≤ 512)) false) else k27 false
) fun v28=> some v28
def ref24_width (a0:Bool):Option Int:= if a0 then some 128 else some 32
def ref24_asn (a0:Int):Option Bool:= joinP (τ:=Bool) (fun k1=> if (decide (a0 ≥ 1)) then k1 (cond true (decide (a0 ≤ 4294967295)) false) else k1 false
) fun v2=> some v2
def ref24_all (a0:List Prefix) (a1:Int):Option Bool:= joinP (τ:=Unit) (fun k1=> forR (σ:=Unit) (fun _=> k1 ()
) (fun next2 x3 i4 _=> Option.bind (ref02_Valid x3) fun v5=> if (!v5) then some false else next2 ()
) a0 0 ()
) fun _=> some (decide ((a0.length:Int) ≤ a1))
def ref24_Valid (a0:Filter):Option Bool:= joinP (τ:=Bool) (fun k1=> Option.bind (ref24_asn a0.Own) fun v2=> if (!v2) then k1 true else Option.bind (ref24_all a0.LANs 8) fun v3=> if (cond false true (!v3)) then k1 true else Option.bind (ref24_all a0.Bogons 64) fun v4=> if (cond false true (!v4)) then k1 true else if (cond false true (decide ((a0.Private.length:Int) > 64))) then k1 true else if (cond false true (decide ((a0.Free.length:Int) > 64))) then k1 true else k1 (cond false true (decide ((a0.Origins.length:Int) > 512)))
) fun v5=> if v5 then some false else joinP (τ:=Unit) (fun k6=> forR (σ:=Unit) (fun _=> k6 ()
) (fun next7 x8 i9 _=> joinP (τ:=Bool) (fun k10=> if (decide (x8.From < 0)) then k10 true else if (cond false true (decide (x8.From > x8.To))) then k10 true else k10 (cond false true (decide (x8.To > 4294967295)))
) fun v11=> if v11 then some false else next7 ()
) a0.Private 0 ()
) fun _=> joinP (τ:=Unit) (fun k12=> forR (σ:=Unit) (fun _=> k12 ()
) (fun next13 x14 i15 _=> Option.bind (ref24_asn x14) fun v16=> if (!v16) then some false else next13 ()
) a0.Free 0 ()
) fun _=> joinP (τ:=Unit) (fun k17=> forR (σ:=Unit) (fun _=> k17 ()
) (fun next18 x19 i20 _=> joinP (τ:=Bool) (fun k21=> Option.bind (ref02_Valid x19.Prefix) fun v22=> if (!v22) then k21 true else if (cond false true (decide (x19.Max < x19.Prefix.Len))) then k21 true else Option.bind (ref24_width x19.Prefix.Addr.V6) fun v23=> if (cond false true (decide (x19.Max > v23))) then k21 true else if (cond false true (decide (x19.ASN < 0))) then k21 true else k21 (cond false true (decide (x19.ASN > 4294967295)))
) fun v24=> if v24 then some false else next18 ()
) a0.Origins 0 ()
) fun _=> joinP (τ:=Bool) (fun k25=> if (decide (a0.Min4 ≥ 0)) then if (cond true (decide (a0.Min4 ≤ a0.Max4)) false) then if (cond true (decide (a0.Max4 ≤ 32)) false) then if (cond true (decide (a0.Min6 ≥ 0)) false) then if (cond true (decide (a0.Min6 ≤ a0.Max6)) false) then k25 (cond true (decide (a0.Max6 ≤ 128)) false) else k25 false else k25 false else k25 false else k25 false else k25 false
) fun v26=> joinP (τ:=Bool) (fun k27=> if v26 then if (cond true (decide (a0.Hole4 ≥ 0)) false) then if (cond true (decide (a0.Hole4 ≤ 32)) false) then if (cond true (decide (a0.Hole6 ≥ 0)) false) then if (cond true (decide (a0.Hole6 ≤ 128)) false) then if (cond true (decide (a0.Hops ≥ 1)) false) then if (cond true (decide (a0.Hops ≤ 60)) false) then Option.bind (ref20_Valid a0.Registry) fun v28=> k27 (cond true v28 false) else k27 false else k27 false else k27 false else k27 false else k27 false else k27 false else k27 false
) fun v29=> some v29
def ref01_Cmp (a0:Addr) (a1:Addr):Option Int:= if (Addr.eqd a0 a1) then some 0 else if (!(a0.V6 == a1.V6)) then if a1.V6 then some (-1) else some 1 else joinP (τ:=Bool) (fun k1=> if (decide ((a0.Hi.toNat:Int) < (a1.Hi.toNat:Int))) then k1 true else if ((a0.Hi.toNat:Int) == (a1.Hi.toNat:Int)) then k1 (cond false true (cond true (decide ((a0.Lo.toNat:Int) < (a1.Lo.toNat:Int))) false)) else k1 false
) fun v2=> if v2 then some (-1) else some 1
def ref02_Cmp (a0:Prefix) (a1:Prefix):Option Int:= Option.bind (ref01_Cmp a0.Addr a1.Addr) fun v1=> if (v1 != 0) then some v1 else if (decide (a0.Len < a1.Len)) then some (-1) else if (decide (a0.Len > a1.Len)) then some 1 else some 0
def ref25_Count (a0:RIB):Option (Int×Int):= joinP (τ:=Int×Int) (fun k1=> forR (σ:=Int×Int) (fun (v2,v3)=> k1 (v2,v3)
) (fun next4 x5 i6 (v2,v3)=> joinP (τ:=Int×Int) (fun k7=> if x5.Route.Prefix.Addr.V6 then k7 (v2,(i64w (v3 + 1))) else k7 ((i64w (v2 + 1)),v3)
) fun (v8,v9)=> next4 (v8,v9)
) a0.Held 0 (0,0)
) fun (v10,v11)=> some (v10,v11)
def ref18_flags (a0:Int):Option Int:= joinP (τ:=Bool) (fun k1=> if (a0 == 1) then k1 (a0 == 1) else joinP (τ:=Bool) (fun k2=> if (a0 == 2) then k2 (a0 == 2) else joinP (τ:=Bool) (fun k3=> if (a0 == 3) then k3 (a0 == 3) else k3 (a0 == 5)
) fun v4=> k2 v4
) fun v5=> k1 v5
) fun v6=> if v6 then some 64 else if (a0 == 4) then some 128 else joinP (τ:=Bool) (fun k7=> if (a0 == 8) then k7 (a0 == 8) else joinP (τ:=Bool) (fun k8=> if (a0 == 32) then k8 (a0 == 32) else k8 (a0 == 35)
) fun v9=> k7 v9
) fun v10=> if v10 then some 192 else some 0
def ref18_unknown (a0:Int):Option Bool:= joinP (τ:=Bool) (fun k1=> Option.bind (ref18_flags a0) fun v2=> if (v2 == 0) then if (cond true (a0 != 14) false) then k1 (cond true (a0 != 15) false) else k1 false else k1 false
) fun v3=> some v3
def ref15_Valid (a0:List Segment):Option Bool:= joinP (τ:=Int) (fun k1=> forR (σ:=Int) (fun v2=> k1 v2
) (fun next3 x4 i5 v2=> joinP (τ:=Unit) (fun k6=> joinP (τ:=Bool) (fun k7=> if ((x4.ASNs.length:Int) == 0) then k7 true else if (decide ((i5:Int) > 0)) then if (cond true (!x4.Set) false) then Option.bind (geti a0 (i64w ((i5:Int) - 1))) fun v8=> k7 (cond false true (cond true (!v8.Set) false)) else k7 false else k7 false
) fun v9=> if v9 then some false else joinP (τ:=Unit) (fun k10=> forR (σ:=Unit) (fun _=> k10 ()
) (fun next11 x12 i13 _=> joinP (τ:=Bool) (fun k14=> if (decide (x12 < 1)) then k14 true else if (cond false true (decide (x12 > 4294967295))) then k14 true else if x4.Set then if (cond true (decide ((i13:Int) > 0)) false) then Option.bind (geti x4.ASNs (i64w ((i13:Int) - 1))) fun v15=> k14 (cond false true (cond true (decide (v15 ≥ x12)) false)) else k14 false else k14 false
) fun v16=> if v16 then some false else next11 ()
) x4.ASNs 0 ()
) fun _=> k6 ()
) fun _=> next3 (i64w (v2 + (x4.ASNs.length:Int)))
) a0 0 0
) fun v17=> some (decide (v17 ≤ 64))
def ref17_right (a0:Community):Option Bool:= joinP (τ:=Bool) (fun k1=> if (decide (a0.A ≥ 0)) then if (cond true (decide (a0.A ≤ 65535)) false) then if (cond true (decide (a0.B ≥ 0)) false) then k1 (cond true (decide (a0.B ≤ 65535)) false) else k1 false else k1 false else k1 false
) fun v2=> some v2
def ref17_less (a0:Community) (a1:Community):Option Bool:= joinP (τ:=Bool) (fun k1=> if (decide (a0.A < a1.A)) then k1 true else if (a0.A == a1.A) then k1 (cond false true (cond true (decide (a0.B < a1.B)) false)) else k1 false
) fun v2=> some v2
def ref17_Valid (a0:List Community):Option Bool:= joinP (τ:=Unit) (fun k1=> forR (σ:=Unit) (fun _=> k1 ()
) (fun next2 x3 i4 _=> joinP (τ:=Bool) (fun k5=> Option.bind (ref17_right x3) fun v6=> if (!v6) then k5 true else if (decide ((i4:Int) > 0)) then Option.bind (geti a0 (i64w ((i4:Int) - 1))) fun v7=> Option.bind (ref17_less v7 x3) fun v8=> k5 (cond false true (cond true (!v8) false)) else k5 false
) fun v9=> if v9 then some false else next2 ()
) a0 0 ()
) fun _=> some (decide ((a0.length:Int) ≤ 64))
def ref17_rightLarge (a0:Large):Option Bool:= joinP (τ:=Bool) (fun k1=> if (decide (a0.A ≥ 0)) then if (cond true (decide (a0.A ≤ 4294967295)) false) then if (cond true (decide (a0.B ≥ 0)) false) then if (cond true (decide (a0.B ≤ 4294967295)) false) then if (cond true (decide (a0.C ≥ 0)) false) then k1 (cond true (decide (a0.C ≤ 4294967295)) false) else k1 false else k1 false else k1 false else k1 false else k1 false
) fun v2=> some v2
def ref17_lessLarge (a0:Large) (a1:Large):Option Bool:= joinP (τ:=Bool) (fun k1=> if (decide (a0.A < a1.A)) then k1 true else if (a0.A == a1.A) then if (decide (a0.B < a1.B)) then k1 true else if (a0.B == a1.B) then k1 (cond false true (cond true (cond false true (cond true (decide (a0.C < a1.C)) false)) false)) else k1 false else k1 false
) fun v2=> some v2
def ref17_ValidLarge (a0:List Large):Option Bool:= joinP (τ:=Unit) (fun k1=> forR (σ:=Unit) (fun _=> k1 ()
) (fun next2 x3 i4 _=> joinP (τ:=Bool) (fun k5=> Option.bind (ref17_rightLarge x3) fun v6=> if (!v6) then k5 true else if (decide ((i4:Int) > 0)) then Option.bind (geti a0 (i64w ((i4:Int) - 1))) fun v7=> Option.bind (ref17_lessLarge v7 x3) fun v8=> k5 (cond false true (cond true (!v8) false)) else k5 false
) fun v9=> if v9 then some false else next2 ()
) a0 0 ()
) fun _=> some (decide ((a0.length:Int) ≤ 64))
def ref18_Valid (a0:Attrs):Option Bool:= joinP (τ:=Unit) (fun k1=> forR (σ:=Unit) (fun _=> k1 ()
) (fun next2 x3 i4 _=> joinP (τ:=Bool) (fun k5=> if (decide (x3.Type_ < 1)) then k5 true else if (cond false true (decide (x3.Type_ > 255))) then k5 true else Option.bind (ref18_unknown x3.Type_) fun v6=> if (cond false true (!v6)) then k5 true else if (cond false true (x3.Flags != 224)) then k5 true else if (cond false true (decide ((x3.Data.length:Int) > 255))) then k5 true else if (decide ((i4:Int) > 0)) then Option.bind (geti a0.Other (i64w ((i4:Int) - 1))) fun v7=> k5 (cond false true (cond true (decide (v7.Type_ ≥ x3.Type_)) false)) else k5 false
) fun v8=> if v8 then some false else next2 ()
) a0.Other 0 ()
) fun _=> joinP (τ:=Bool) (fun k9=> if (decide (a0.Origin ≥ (-1))) then if (cond true (decide (a0.Origin ≤ 2)) false) then Option.bind (ref15_Valid a0.Path) fun v10=> if (cond true v10 false) then Option.bind (ref01_Valid a0.Next) fun v11=> if (cond true v11 false) then if (cond true (decide (a0.MED ≥ (-1))) false) then if (cond true (decide (a0.MED ≤ 4294967295)) false) then if (cond true (decide (a0.Pref ≥ (-1))) false) then if (cond true (decide (a0.Pref ≤ 4294967295)) false) then if (a0.OTC == (-1)) then Option.bind (ref17_Valid a0.Communities) fun v12=> if (cond true v12 false) then Option.bind (ref17_ValidLarge a0.Large) fun v13=> if (cond true v13 false) then k9 (cond true (decide ((a0.Other.length:Int) ≤ 8)) false) else k9 false else k9 false else if (decide (a0.OTC ≥ 1)) then if (cond true (cond false true (cond true (decide (a0.OTC ≤ 4294967295)) false)) false) then Option.bind (ref17_Valid a0.Communities) fun v14=> if (cond true v14 false) then Option.bind (ref17_ValidLarge a0.Large) fun v15=> if (cond true v15 false) then k9 (cond true (decide ((a0.Other.length:Int) ≤ 8)) false) else k9 false else k9 false else k9 false else k9 false else k9 false else k9 false else k9 false else k9 false else k9 false else k9 false else k9 false else k9 false
) fun v16=> some v16
def ref24_ValidPeer (a0:Peer):Option Bool:= joinP (τ:=Unit) (fun k1=> forR (σ:=Unit) (fun _=> k1 ()
) (fun next2 x3 i4 _=> Option.bind (ref01_Valid x3) fun v5=> if (!v5) then some false else next2 ()
) a0.Nexts 0 ()
) fun _=> joinP (τ:=Bool) (fun k6=> Option.bind (ref24_asn a0.ASN) fun v7=> if v7 then if (cond true (decide (a0.Max4 ≥ 0)) false) then if (cond true (decide (a0.Max4 ≤ 256)) false) then if (cond true (decide (a0.Max6 ≥ 0)) false) then if (cond true (decide (a0.Max6 ≤ 256)) false) then k6 (cond true (decide ((a0.Nexts.length:Int) ≤ 8)) false) else k6 false else k6 false else k6 false else k6 false else k6 false
) fun v8=> some v8
def ref25_Valid (a0:RIB):Option Bool:= joinP (τ:=Bool) (fun k1=> Option.bind (ref24_ValidPeer a0.Peer) fun v2=> if (!v2) then k1 true else if (cond false true (decide ((a0.Held.length:Int) > 256))) then k1 true else if (cond false true (decide (a0.Until < 0))) then k1 true else k1 (cond false true (decide (a0.Until > 1073745919)))
) fun v3=> if v3 then some false else joinP (τ:=Bool) (fun k4=> forR (σ:=Bool) (fun v5=> k4 v5
) (fun next6 x7 i8 v5=> joinP (τ:=Bool) (fun k9=> Option.bind (ref02_Valid x7.Route.Prefix) fun v10=> if (!v10) then k9 true else if (decide ((i8:Int) > 0)) then Option.bind (geti a0.Held (i64w ((i8:Int) - 1))) fun v11=> Option.bind (ref02_Cmp v11.Route.Prefix x7.Route.Prefix) fun v12=> if (cond false true (cond true (decide (v12 ≥ 0)) false)) then k9 true else Option.bind (ref18_Valid x7.Route.Attrs) fun v13=> if (cond false true (!v13)) then k9 true else if (cond false true (x7.Route.From != a0.Peer.ASN)) then k9 true else if (cond false true (decide (x7.Reason < 0))) then k9 true else if (cond false true (decide (x7.Reason > 14))) then k9 true else if (!a0.Up) then k9 (cond false true (cond true (!x7.Stale) false)) else k9 false else Option.bind (ref18_Valid x7.Route.Attrs) fun v14=> if (cond false true (!v14)) then k9 true else if (cond false true (x7.Route.From != a0.Peer.ASN)) then k9 true else if (cond false true (decide (x7.Reason < 0))) then k9 true else if (cond false true (decide (x7.Reason > 14))) then k9 true else if (!a0.Up) then k9 (cond false true (cond true (!x7.Stale) false)) else k9 false
) fun v15=> if v15 then some false else joinP (τ:=Bool) (fun k16=> if v5 then k16 true else k16 (cond false true x7.Stale)
) fun v17=> next6 v17
) a0.Held 0 false
) fun v18=> Option.bind (ref25_Count a0) fun (v19,v20)=> joinP (τ:=Bool) (fun k21=> if (v18 == (a0.Until != 0)) then if (cond true (decide (v19 ≤ a0.Peer.Max4)) false) then k21 (cond true (decide (v20 ≤ a0.Peer.Max6)) false) else k21 false else k21 false
) fun v22=> some v22
def ref15_Flat (a0:List Segment):Option (List Int):= joinP (τ:=(List Int)) (fun k1=> forR (σ:=(List Int)) (fun v2=> k1 v2
) (fun next3 x4 i5 v2=> Option.bind (apnd (α:=Int) 8 v2 x4.ASNs) fun v6=> next3 v6
) a0 0 []
) fun v7=> some v7
def ref28_Valid (a0:Server):Option Bool:= joinP (τ:=Bool) (fun k1=> Option.bind (ref24_Valid a0.Filter) fun v2=> if (!v2) then k1 true else if (cond false true (decide ((a0.Policies.length:Int) > 32))) then k1 true else k1 (cond false true ((a0.RIBs.length:Int) != (a0.Policies.length:Int)))
) fun v3=> if v3 then some false else joinP (τ:=Unit) (fun k4=> forR (σ:=Unit) (fun _=> k4 ()
) (fun next5 x6 i7 _=> joinP (τ:=Unit) (fun k8=> joinP (τ:=Bool) (fun k9=> Option.bind (ref26_Check x6) fun v10=> if (v10 != 0) then k9 true else if (cond false true (x6.ASN == a0.Filter.Own)) then k9 true else if (decide ((i7:Int) > 0)) then Option.bind (geti a0.Policies (i64w ((i7:Int) - 1))) fun v11=> if (cond false true (cond true (decide (v11.ASN ≥ x6.ASN)) false)) then k9 true else Option.bind (geti a0.RIBs (i7:Int)) fun v12=> Option.bind (ref25_Valid v12) fun v13=> if (cond false true (!v13)) then k9 true else Option.bind (geti a0.RIBs (i7:Int)) fun v14=> k9 (cond false true (v14.Peer.ASN != x6.ASN)) else Option.bind (geti a0.RIBs (i7:Int)) fun v15=> Option.bind (ref25_Valid v15) fun v16=> if (cond false true (!v16)) then k9 true else Option.bind (geti a0.RIBs (i7:Int)) fun v17=> k9 (cond false true (v17.Peer.ASN != x6.ASN))
) fun v18=> if v18 then some false else Option.bind (geti a0.RIBs (i7:Int)) fun v19=> joinP (τ:=Unit) (fun k20=> forR (σ:=Unit) (fun _=> k20 ()
) (fun next21 x22 i23 _=> joinP (τ:=Bool) (fun k24=> if (x22.Reason == 0) then Option.bind (ref15_Flat x22.Route.Attrs.Path) fun v25=> k24 (cond true (decide ((v25.length:Int) > 60)) false) else k24 false
) fun v26=> if v26 then some false else next21 ()
) v19.Held 0 ()
) fun _=> k8 ()
) fun _=> next5 ()
) a0.Policies 0 ()
) fun _=> some true
def ref28_Prefixes (a0:Server):Option (List Prefix):= joinP (τ:=(List Prefix)) (fun k1=> forR (σ:=(List Prefix)) (fun v2=> k1 v2
) (fun next3 x4 i5 v2=> joinP (τ:=(List Prefix)) (fun k6=> joinP (τ:=(List Prefix)) (fun k7=> forR (σ:=(List Prefix)) (fun v8=> k7 v8
) (fun next9 x10 i11 v8=> joinP (τ:=(List Prefix)) (fun k12=> joinP (τ:=Int) (fun k13=> whileR (σ:=Int) (fun next14 v15=> joinP (τ:=Bool) (fun k16=> if (decide (v15 < (v8.length:Int))) then Option.bind (geti v8 v15) fun v17=> Option.bind (ref02_Cmp v17 x10.Route.Prefix) fun v18=> k16 (cond true (decide (v18 < 0)) false) else k16 false
) fun v19=> if v19 then next14 (i64w (v15 + 1)) else k13 v15
) fuel 0
) fun v20=> joinP (τ:=Bool) (fun k21=> if (decide (v20 < (v8.length:Int))) then Option.bind (geti v8 v20) fun v22=> k21 (cond true (Prefix.eqd v22 x10.Route.Prefix) false) else k21 false
) fun v23=> if v23 then k12 v8 else Option.bind (chk (0 ≤ v20∧v20 ≤ (v8.length:Int)∧(v8.length:Int) ≤ (v8.length:Int))) fun _=> Option.bind (apnd (α:=Prefix) 32 [] (List.take (Int.toNat (v8.length:Int) - Int.toNat v20) (List.drop (Int.toNat v20) v8))) fun _=> Option.bind (part v8 0 v20) fun v24=> Option.bind (apnd (α:=Prefix) 32 v24 ([x10.Route.Prefix]:List Prefix)) fun v25=> Option.bind (apnd (α:=Prefix) 32 v25 (List.take (Int.toNat (v8.length:Int) - Int.toNat v20) (List.drop (Int.toNat v20) v8))) fun v26=> k12 v26
) fun v27=> next9 v27
) x4.Held 0 v2
) fun v28=> k6 v28
) fun v29=> next3 v29
) a0.RIBs 0 []
) fun v30=> some v30
def ref28_At (a0:Server) (a1:Int):Option Int:= joinP (τ:=Unit) (fun k1=> forR (σ:=Unit) (fun _=> k1 ()
) (fun next2 x3 i4 _=> if (x3.ASN == a1) then some (i4:Int) else next2 ()
) a0.Policies 0 ()
) fun _=> some (-1)
def ref25_Get (a0:RIB) (a1:Prefix):Option (Held×Bool):= joinP (τ:=Unit) (fun k1=> forR (σ:=Unit) (fun _=> k1 ()
) (fun next2 x3 i4 _=> if (Prefix.eqd x3.Route.Prefix a1) then some (x3,true) else next2 ()
) a0.Held 0 ()
) fun _=> some ((⟨(⟨(⟨(⟨false,(0:UInt64),(0:UInt64)⟩:Addr),0⟩:Prefix),0,(⟨0,[],(⟨false,(0:UInt64),(0:UInt64)⟩:Addr),0,0,0,[],[],[]⟩:Attrs)⟩:Route),0,false⟩:Held),false)
def ref25_Accepted (a0:RIB) (a1:Prefix):Option (Route×Bool):= Option.bind (ref25_Get a0 a1) fun (v1,v2)=> joinP (τ:=Bool) (fun k3=> if v2 then k3 (cond true (v1.Reason == 0) false) else k3 false
) fun v4=> if v4 then some (v1.Route,true) else some ((⟨(⟨(⟨false,(0:UInt64),(0:UInt64)⟩:Addr),0⟩:Prefix),0,(⟨0,[],(⟨false,(0:UInt64),(0:UInt64)⟩:Addr),0,0,0,[],[],[]⟩:Attrs)⟩:Route),false)
def ref17_Has (a0:List Community) (a1:Community):Option Bool:= joinP (τ:=Unit) (fun k1=> forR (σ:=Unit) (fun _=> k1 ()
) (fun next2 x3 i4 _=> if (Community.eqd x3 a1) then some true else next2 ()
) a0 0 ()
) fun _=> some false
def ref24_Hole (a0:Attrs):Option Bool:= Option.bind (ref17_Has a0.Communities (⟨65535,666⟩:Community)) fun v1=> some v1
def ref17_HasLarge (a0:List Large) (a1:Large):Option Bool:= joinP (τ:=Unit) (fun k1=> forR (σ:=Unit) (fun _=> k1 ()
) (fun next2 x3 i4 _=> if (Large.eqd x3 a1) then some true else next2 ()
) a0 0 ()
) fun _=> some false
def ref26_Prepends (a0:Int) (a1:Attrs) (a2:Int):Option Int:= joinP (τ:=Unit) (fun k1=> forR (σ:=Unit) (fun _=> k1 ()
) (fun next2 x3 i4 _=> joinP (τ:=Unit) (fun k5=> joinP (τ:=Unit) (fun k6=> whileR (σ:=Int) (fun next7 v8=> if (decide (v8 > 0)) then Option.bind (ref17_HasLarge a1.Large (⟨a0,(i64w (100 + v8)),x3⟩:Large)) fun v9=> if v9 then some v8 else next7 (i64w (v8 - 1)) else k6 ()
) fuel 3
) fun _=> k5 ()
) fun _=> next2 ()
) ([a2,0]:List Int) 0 ()
) fun _=> some 0
def ref26_says (a0:Int) (a1:Attrs) (a2:Int) (a3:Int) (a4:Int) (a5:Int):Option Bool:= joinP (τ:=Bool) (fun k1=> if (decide (a2 ≤ 65535)) then if (cond true (decide (a3 ≤ 65535)) false) then Option.bind (ref17_Has a1.Communities (⟨a2,a3⟩:Community)) fun v2=> if (cond true v2 false) then k1 true else Option.bind (ref17_HasLarge a1.Large (⟨a0,a4,a5⟩:Large)) fun v3=> k1 (cond false true v3) else Option.bind (ref17_HasLarge a1.Large (⟨a0,a4,a5⟩:Large)) fun v4=> k1 (cond false true v4) else Option.bind (ref17_HasLarge a1.Large (⟨a0,a4,a5⟩:Large)) fun v5=> k1 (cond false true v5)
) fun v6=> some v6
def ref15_Length (a0:List Segment):Option Int:= joinP (τ:=Int) (fun k1=> forR (σ:=Int) (fun v2=> k1 v2
) (fun next3 x4 i5 v2=> joinP (τ:=Int) (fun k6=> if x4.Set then k6 (i64w (v2 + 1)) else k6 (i64w (v2 + (x4.ASNs.length:Int)))
) fun v7=> next3 v7
) a0 0 0
) fun v8=> some v8
def ref15_Has (a0:List Segment) (a1:Int):Option Bool:= Option.bind (ref15_Flat a0) fun v1=> joinP (τ:=Unit) (fun k2=> forR (σ:=Unit) (fun _=> k2 ()
) (fun next3 x4 i5 _=> if (x4 == a1) then some true else next3 ()
) v1 0 ()
) fun _=> some false
def ref26_Verdict (a0:Int) (a1:Route) (a2:Policy):Option Int:= joinP (τ:=Bool) (fun k1=> forR (σ:=Bool) (fun v2=> k1 v2
) (fun next3 x4 i5 v2=> joinP (τ:=Bool) (fun k6=> if v2 then k6 true else k6 (cond false true (x4 == a1.From))
) fun v7=> next3 v7
) a2.Deny 0 false
) fun v8=> if (a1.From == a2.ASN) then some 1 else Option.bind (ref17_Has a1.Attrs.Communities (⟨65535,65282⟩:Community)) fun v9=> if v9 then some 2 else Option.bind (ref26_says a0 a1.Attrs 0 a2.ASN 0 a2.ASN) fun v10=> if v10 then some 3 else joinP (τ:=Bool) (fun k11=> Option.bind (ref26_says a0 a1.Attrs 0 a0 0 0) fun v12=> if v12 then Option.bind (ref26_says a0 a1.Attrs a0 a2.ASN 1 a2.ASN) fun v13=> k11 (cond true (!v13) false) else k11 false
) fun v14=> if v14 then some 4 else joinP (τ:=Bool) (fun k15=> if a1.Prefix.Addr.V6 then if (cond true a2.No6 false) then k15 true else if (!a1.Prefix.Addr.V6) then k15 (cond false true (cond true a2.No4 false)) else k15 false else if (!a1.Prefix.Addr.V6) then k15 (cond false true (cond true a2.No4 false)) else k15 false
) fun v16=> if v16 then some 5 else if v8 then some 6 else joinP (τ:=Bool) (fun k17=> Option.bind (ref24_Hole a1.Attrs) fun v18=> if v18 then k17 (cond true (!a2.Holes) false) else k17 false
) fun v19=> if v19 then some 7 else joinP (τ:=Bool) (fun k20=> if (a2.Hops != 0) then Option.bind (ref15_Length a1.Attrs.Path) fun v21=> Option.bind (ref26_Prepends a0 a1.Attrs a2.ASN) fun v22=> k20 (cond true (decide ((i64w (v21 + v22)) > a2.Hops)) false) else k20 false
) fun v23=> if v23 then some 8 else Option.bind (ref15_Has a1.Attrs.Path a2.ASN) fun v24=> if v24 then some 9 else some 0
def ref15_Copy (a0:List Segment):Option (List Segment):= joinP (τ:=(List Segment)) (fun k1=> forR (σ:=(List Segment)) (fun v2=> k1 v2
) (fun next3 x4 i5 v2=> Option.bind (apnd (α:=Int) 8 [] x4.ASNs) fun _=> Option.bind (apnd (α:=Segment) 32 v2 ([x4]:List Segment)) fun v6=> next3 v6
) a0 0 []
) fun v7=> some v7
def ref15_Prepend (a0:List Segment) (a1:Int) (a2:Int):Option ((List Segment)×Int):= joinP (τ:=Bool) (fun k1=> Option.bind (ref15_Valid a0) fun v2=> if (!v2) then k1 true else if (cond false true (decide (a1 < 1))) then k1 true else if (cond false true (decide (a1 > 4294967295))) then k1 true else k1 (cond false true (decide (a2 < 0)))
) fun v3=> if v3 then some ([],1) else Option.bind (ref15_Flat a0) fun v4=> if (decide (a2 > (i64w (64 - (v4.length:Int))))) then some ([],3) else if (a2 == 0) then Option.bind (ref15_Copy a0) fun v5=> some (v5,0) else joinP (τ:=(List Int)) (fun k6=> whileR (σ:=Int×(List Int)) (fun next7 (v8,v9)=> if (decide (v8 < a2)) then Option.bind (apnd (α:=Int) 8 v9 ([a1]:List Int)) fun v10=> next7 ((i64w (v8 + 1)),v10) else k6 v9
) fuel (0,[])
) fun v11=> Option.bind (ref15_Copy a0) fun v12=> joinP (τ:=Bool) (fun k13=> if (decide ((v12.length:Int) > 0)) then Option.bind (geti v12 0) fun v14=> k13 (cond true (!v14.Set) false) else k13 false
) fun v15=> joinP (τ:=(List Segment)×(List Int)) (fun k16=> if v15 then Option.bind (geti v12 0) fun v17=> Option.bind (apnd (α:=Int) 8 v11 v17.ASNs) fun v18=> Option.bind (part v12 1 (v12.length:Int)) fun v19=> k16 (v19,v18) else k16 (v12,v11)
) fun (v20,v21)=> Option.bind (apnd (α:=Segment) 32 ([(⟨false,v21⟩:Segment)]:List Segment) v20) fun v22=> some (v22,0)
def ref23_CopyAttrs (a0:Attrs):Option Attrs:= joinP (τ:=(List Segment)) (fun k1=> forR (σ:=(List Segment)) (fun v2=> k1 v2
) (fun next3 x4 i5 v2=> Option.bind (apnd (α:=Int) 8 [] x4.ASNs) fun _=> Option.bind (apnd (α:=Segment) 32 v2 ([x4]:List Segment)) fun v6=> next3 v6
) a0.Path 0 []
) fun v7=> Option.bind (apnd (α:=Community) 16 [] a0.Communities) fun _=> Option.bind (apnd (α:=Large) 24 [] a0.Large) fun _=> joinP (τ:=(List Unknown)) (fun k8=> forR (σ:=(List Unknown)) (fun v9=> k8 v9
) (fun next10 x11 i12 v9=> Option.bind (apnd (α:=UInt8) 1 [] x11.Data) fun _=> Option.bind (apnd (α:=Unknown) 40 v9 ([x11]:List Unknown)) fun v13=> next10 v13
) a0.Other 0 []
) fun v14=> some ({ a0 with Path:=v7,Other:=v14 })
def ref26_Strip (a0:Int) (a1:Attrs):Option Attrs:= Option.bind (ref23_CopyAttrs a1) fun v1=> joinP (τ:=(List Community)) (fun k2=> forR (σ:=(List Community)) (fun v3=> k2 v3
) (fun next4 x5 i6 v3=> joinP (τ:=Bool) (fun k7=> if (x5.A != 0) then k7 (cond true (x5.A != a0) false) else k7 false
) fun v8=> joinP (τ:=(List Community)) (fun k9=> if v8 then Option.bind (apnd (α:=Community) 16 v3 ([x5]:List Community)) fun v10=> k9 v10 else k9 v3
) fun v11=> next4 v11
) a1.Communities 0 []
) fun v12=> joinP (τ:=(List Large)) (fun k13=> forR (σ:=(List Large)) (fun v14=> k13 v14
) (fun next15 x16 i17 v14=> joinP (τ:=(List Large)) (fun k18=> if (x16.A != a0) then Option.bind (apnd (α:=Large) 24 v14 ([x16]:List Large)) fun v19=> k18 v19 else k18 v14
) fun v20=> next15 v20
) a1.Large 0 []
) fun v21=> some ({ v1 with Communities:=v12,Large:=v21 })
def ref23_Inverse (a0:Int):Option Int:= if (a0 == 0) then some 3 else if (a0 == 3) then some 0 else if (a0 == 1) then some 2 else if (a0 == 2) then some 1 else if (a0 == 4) then some 4 else some (-1)
def ref23_bad (a0:Int) (a1:Int):Option Bool:= joinP (τ:=Bool) (fun k1=> Option.bind (ref23_Inverse a0) fun v2=> if (v2 == (-1)) then k1 true else if (cond false true (decide (a1 < 1))) then k1 true else k1 (cond false true (decide (a1 > 4294967295)))
) fun v3=> some v3
def ref23_Send (a0:Int) (a1:Int) (a2:Attrs):Option (Attrs×Int):= Option.bind (ref23_bad a0 a1) fun v1=> if v1 then some ((⟨0,[],(⟨false,(0:UInt64),(0:UInt64)⟩:Addr),0,0,0,[],[],[]⟩:Attrs),1) else joinP (τ:=Bool) (fun k2=> if (a0 == 0) then k2 true else k2 (cond false true (a0 == 1))
) fun v3=> joinP (τ:=Bool) (fun k4=> if (a2.OTC != (-1)) then k4 (cond true (!v3) false) else k4 false
) fun v5=> if v5 then some ((⟨0,[],(⟨false,(0:UInt64),(0:UInt64)⟩:Addr),0,0,0,[],[],[]⟩:Attrs),30) else joinP (τ:=Bool) (fun k6=> if (a2.OTC == (-1)) then if v3 then k6 true else k6 (cond true (cond false true (a0 == 4)) false) else k6 false
) fun v7=> joinP (τ:=Int) (fun k8=> if v7 then k8 a1 else k8 a2.OTC
) fun v9=> some (({ a2 with OTC:=v9 }),0)
def ref26_Export (a0:Int) (a1:Route) (a2:Policy):Option (Route×Int×Int):= joinP (τ:=Bool) (fun k1=> Option.bind (ref26_asn a0) fun v2=> if (!v2) then k1 true else Option.bind (ref26_asn a1.From) fun v3=> if (cond false true (!v3)) then k1 true else Option.bind (ref02_Valid a1.Prefix) fun v4=> if (cond false true (!v4)) then k1 true else Option.bind (ref18_Valid a1.Attrs) fun v5=> k1 (cond false true (!v5))
) fun v6=> if v6 then some ((⟨(⟨(⟨false,(0:UInt64),(0:UInt64)⟩:Addr),0⟩:Prefix),0,(⟨0,[],(⟨false,(0:UInt64),(0:UInt64)⟩:Addr),0,0,0,[],[],[]⟩:Attrs)⟩:Route),0,1) else Option.bind (ref26_Check a2) fun v7=> if (v7 != 0) then some ((⟨(⟨(⟨false,(0:UInt64),(0:UInt64)⟩:Addr),0⟩:Prefix),0,(⟨0,[],(⟨false,(0:UInt64),(0:UInt64)⟩:Addr),0,0,0,[],[],[]⟩:Attrs)⟩:Route),0,v7) else Option.bind (ref26_Verdict a0 a1 a2) fun v8=> if (v8 != 0) then some ((⟨(⟨(⟨false,(0:UInt64),(0:UInt64)⟩:Addr),0⟩:Prefix),0,(⟨0,[],(⟨false,(0:UInt64),(0:UInt64)⟩:Addr),0,0,0,[],[],[]⟩:Attrs)⟩:Route),v8,0) else Option.bind (ref26_Prepends a0 a1.Attrs a2.ASN) fun v9=> Option.bind (ref15_Prepend a1.Attrs.Path a1.From v9) fun (v10,v11)=> if (v11 != 0) then some ((⟨(⟨(⟨false,(0:UInt64),(0:UInt64)⟩:Addr),0⟩:Prefix),0,(⟨0,[],(⟨false,(0:UInt64),(0:UInt64)⟩:Addr),0,0,0,[],[],[]⟩:Attrs)⟩:Route),0,v11) else Option.bind (ref26_Strip a0 a1.Attrs) fun v12=> Option.bind (ref23_Send 1 a0 ({ v12 with Path:=v10,Pref:=(-1) })) fun (v13,v14)=> some ((⟨(⟨((({ a1 with Attrs:=v13 }).Prefix).Addr),(({ a1 with Attrs:=v13 }).Prefix).Len⟩:Prefix),({ a1 with Attrs:=v13 }).From,(({ a1 with Attrs:=v13 }).Attrs)⟩:Route),0,0)
def ref28_Candidates (a0:Server) (a1:Int) (a2:Prefix):Option (List Route):= Option.bind (ref28_At a0 a1) fun v1=> joinP (τ:=Bool) (fun k2=> if (decide (v1 < 0)) then k2 true else Option.bind (geti a0.RIBs v1) fun v3=> k2 (cond false true (!v3.Up))
) fun v4=> if v4 then some [] else joinP (τ:=(List Route)) (fun k5=> forR (σ:=(List Route)) (fun v6=> k5 v6
) (fun next7 x8 i9 v6=> joinP (τ:=(List Route)) (fun k10=> Option.bind (ref25_Accepted x8 a2) fun (v11,v12)=> if (!v12) then k10 v6 else Option.bind (geti a0.Policies v1) fun v13=> Option.bind (ref26_Export a0.Filter.Own v11 v13) fun (v14,v15,v16)=> joinP (τ:=Bool) (fun k17=> if (v16 == 0) then k17 (cond true (v15 == 0) false) else k17 false
) fun v18=> joinP (τ:=(List Route)) (fun k19=> if v18 then Option.bind (apnd (α:=Route) 192 v6 ([v14]:List Route)) fun v20=> k19 v20 else k19 v6
) fun v21=> k10 v21
) fun v22=> next7 v22
) a0.RIBs 0 []
) fun v23=> some v23
def ref27_Value (a0:Policy) (a1:Int):Option Int:= joinP (τ:=Unit) (fun k1=> forR (σ:=Unit) (fun _=> k1 ()
) (fun next2 x3 i4 _=> if (x3.ASN == a1) then some x3.Value else next2 ()
) a0.Prefer 0 ()
) fun _=> some 0
def ref27_key (a0:Policy) (a1:Route):Option A5_Int:= joinP (τ:=Int) (fun k1=> if (a1.Attrs.Origin == (-1)) then k1 3 else k1 a1.Attrs.Origin
) fun v2=> joinP (τ:=Int) (fun k3=> if (a1.Attrs.MED == (-1)) then k3 0 else k3 a1.Attrs.MED
) fun v4=> Option.bind (ref27_Value a0 a1.From) fun v5=> Option.bind (ref15_Length a1.Attrs.Path) fun v6=> some (⟨(i64w (0 - v5)),v6,v2,v4,a1.From⟩:A5_Int)
def ref27_Compare (a0:Policy) (a1:Route) (a2:Route):Option (Int×Int):= Option.bind (ref27_key a0 a1) fun v1=> Option.bind (ref27_key a0 a2) fun v2=> joinP (τ:=Unit) (fun k3=> whileR (σ:=Int) (fun next4 v5=> if (decide (v5 < 5)) then Option.bind (geti [v1.e0,v1.e1,v1.e2,v1.e3,v1.e4] v5) fun v6=> Option.bind (geti [v2.e0,v2.e1,v2.e2,v2.e3,v2.e4] v5) fun v7=> if (decide (v6 < v7)) then some ((-1),(i64w (v5 + 1))) else Option.bind (geti [v1.e0,v1.e1,v1.e2,v1.e3,v1.e4] v5) fun v8=> Option.bind (geti [v2.e0,v2.e1,v2.e2,v2.e3,v2.e4] v5) fun v9=> if (decide (v8 > v9)) then some (1,(i64w (v5 + 1))) else next4 (i64w (v5 + 1)) else k3 ()
) fuel 0
) fun _=> some (0,0)
def ref27_Best (a0:Policy) (a1:List Route):Option (Int×Bool):= joinP (τ:=Int) (fun k1=> forR (σ:=Int) (fun v2=> k1 v2
) (fun next3 x4 i5 v2=> Option.bind (geti a1 v2) fun v6=> Option.bind (ref27_Compare a0 x4 v6) fun (v7,v8)=> joinP (τ:=Int) (fun k9=> if (decide (v7 < 0)) then k9 (i5:Int) else k9 v2
) fun v10=> next3 v10
) a1 0 0
) fun v11=> some (v11,(decide ((a1.length:Int) > 0)))
def ref28_Offer (a0:Server) (a1:Int) (a2:Prefix):Option (Route×Bool):= Option.bind (ref28_Candidates a0 a1 a2) fun v1=> if ((v1.length:Int) == 0) then some ((⟨(⟨(⟨false,(0:UInt64),(0:UInt64)⟩:Addr),0⟩:Prefix),0,(⟨0,[],(⟨false,(0:UInt64),(0:UInt64)⟩:Addr),0,0,0,[],[],[]⟩:Attrs)⟩:Route),false) else Option.bind (ref28_At a0 a1) fun v2=> Option.bind (geti a0.Policies v2) fun v3=> Option.bind (ref27_Best v3 v1) fun (v4,v5)=> Option.bind (geti v1 v4) fun v6=> some (v6,true)
def ref28_All (a0:Server) (a1:Int):Option (List Route):= Option.bind (ref28_Prefixes a0) fun v1=> joinP (τ:=(List Route)) (fun k2=> forR (σ:=(List Route)) (fun v3=> k2 v3
) (fun next4 x5 i6 v3=> Option.bind (ref28_Offer a0 a1 x5) fun (v7,v8)=> joinP (τ:=(List Route)) (fun k9=> if v8 then Option.bind (apnd (α:=Route) 192 v3 ([v7]:List Route)) fun v10=> k9 v10 else k9 v3
) fun v11=> next4 v11
) v1 0 []
) fun v12=> some v12
def ref29_fill (a0:Server):Option Cache:= joinP (τ:=(List (List Route))) (fun k1=> forR (σ:=(List (List Route))) (fun v2=> k1 v2
) (fun next3 x4 i5 v2=> Option.bind (ref28_All a0 x4.ASN) fun v6=> Option.bind (apnd (α:=List Route) 24 v2 ([v6]:List (List Route))) fun v7=> next3 v7
) a0.Policies 0 []
) fun v8=> some (⟨a0,v8⟩:Cache)
def ref26_Copy (a0:Policy):Option Policy:= Option.bind (apnd (α:=Int) 8 [] a0.Deny) fun _=> Option.bind (apnd (α:=Prefer) 16 [] a0.Prefer) fun _=> some a0
def ref24_CopyFilter (a0:Filter):Option Filter:= Option.bind (apnd (α:=Prefix) 32 [] a0.LANs) fun _=> Option.bind (apnd (α:=Prefix) 32 [] a0.Bogons) fun _=> Option.bind (apnd (α:=Span) 16 [] a0.Private) fun _=> Option.bind (apnd (α:=Int) 8 [] a0.Free) fun _=> Option.bind (apnd (α:=Object) 48 [] a0.Origins) fun _=> Option.bind (apnd (α:=Object) 48 [] a0.Registry.Objects) fun _=> joinP (τ:=(List Set)) (fun k1=> forR (σ:=(List Set)) (fun v2=> k1 v2
) (fun next3 x4 i5 v2=> Option.bind (apnd (α:=Int) 8 [] x4.ASNs) fun _=> Option.bind (apnd (α:=ByteArray) 16 [] x4.Sets) fun _=> Option.bind (apnd (α:=Set) 64 v2 ([x4]:List Set)) fun v6=> next3 v6
) a0.Registry.Sets 0 []
) fun v7=> some ({ a0 with Registry:=(⟨v7,a0.Registry.Objects⟩:Registry) })
def ref25_Copy (a0:RIB):Option RIB:= Option.bind (apnd (α:=Addr) 24 [] a0.Peer.Nexts) fun _=> joinP (τ:=(List Held)) (fun k1=> forR (σ:=(List Held)) (fun v2=> k1 v2
) (fun next3 x4 i5 v2=> Option.bind (ref23_CopyAttrs x4.Route.Attrs) fun v6=> Option.bind (apnd (α:=Held) 208 v2 ([{ x4 with Route:={ x4.Route with Attrs:=v6 } }]:List Held)) fun v7=> next3 v7
) a0.Held 0 []
) fun v8=> some ({ a0 with Held:=v8 })
def ref28_Copy (a0:Server):Option Server:= Option.bind (ref24_CopyFilter a0.Filter) fun v1=> joinP (τ:=(List Policy)) (fun k2=> forR (σ:=(List Policy)) (fun v3=> k2 v3
) (fun next4 x5 i6 v3=> Option.bind (ref26_Copy x5) fun v7=> Option.bind (apnd (α:=Policy) 72 v3 ([v7]:List Policy)) fun v8=> next4 v8
) a0.Policies 0 []
) fun v9=> joinP (τ:=(List RIB)) (fun k10=> forR (σ:=(List RIB)) (fun v11=> k10 v11
) (fun next12 x13 i14 v11=> Option.bind (ref25_Copy x13) fun v15=> Option.bind (apnd (α:=RIB) 104 v11 ([v15]:List RIB)) fun v16=> next12 v16
) a0.RIBs 0 []
) fun v17=> some (⟨v1,v9,v17⟩:Server)
def ref29_Begin (a0:Server):Option (Cache×Int):= Option.bind (ref28_Valid a0) fun v1=> if (!v1) then some ((⟨(⟨(⟨0,[],0,0,0,0,0,0,[],[],[],0,(⟨[],[]⟩:Registry),[]⟩:Filter),[],[]⟩:Server),[]⟩:Cache),1) else Option.bind (ref28_Copy a0) fun v2=> Option.bind (ref29_fill v2) fun v3=> some (v3,0)
def mill_Deck_Left (a0:Deck):Option (Bool×Deck):= some ((decide (a0.At < (a0.L.length:Int))),a0)
def ref18_Empty:Option Attrs:= some (⟨(-1),[],(⟨false,(0:UInt64),(0:UInt64)⟩:Addr),(-1),(-1),(-1),[],[],[]⟩:Attrs)
def mill_Deck_Prefix (a0:Deck):Option (Prefix×Deck):= Option.bind (mill_Deck_Next a0 8) fun (v1,v2)=> Option.bind (mill_block v1) fun v3=> Option.bind (mill_Deck_Next v2 8) fun (v4,v5)=> joinP (τ:=Deck×Prefix) (fun k6=> if (v4 == 6) then joinP (τ:=Int) (fun k7=> if v3.Addr.V6 then k7 64 else k7 24
) fun v8=> k6 (v5,(⟨v3.Addr,v8⟩:Prefix)) else joinP (τ:=Deck×Prefix) (fun k9=> if (v4 == 7) then joinP (τ:=Int) (fun k10=> if v3.Addr.V6 then k10 128 else k10 32
) fun v11=> Option.bind (mill_Deck_Next v5 3) fun (v12,v13)=> k9 (v13,(⟨{ v3.Addr with Lo:=(toU64 ((v3.Addr.Lo.toNat:Int) + ((toU64 v12).toNat:Int))) },v11⟩:Prefix)) else k9 (v5,v3)
) fun (v14,v15)=> k6 (v14,v15)
) fun (v16,v17)=> some (v17,v16)
def mill_Deck_Communities (a0:Deck):Option ((List Community)×Deck):= Option.bind (mill_Deck_Next a0 65536) fun (v1,v2)=> joinP (τ:=Deck×(List Community)) (fun k3=> forR (σ:=Deck×(List Community)) (fun (v4,v5)=> k3 (v4,v5)
) (fun next6 x7 i8 (v4,v5)=> joinP (τ:=Bool×Deck) (fun k9=> if ((i64w ((BitVec.ofInt 64 (Int.fdiv v1 (2 ^ (min (Int.toNat ((toU64 (i64w (2 * (i8:Int)))).toNat:Int)) 64))) &&& BitVec.ofInt 64 3).toNat:Int)) == 3) then if (decide ((i8:Int) < 6)) then k9 (true,v4) else Option.bind (mill_Deck_Next v4 2) fun (v10,v11)=> k9 ((cond true (cond false true (v10 == 0)) false),v11) else k9 (false,v4)
) fun (v12,v13)=> joinP (τ:=(List Community)) (fun k14=> if v12 then Option.bind (apnd (α:=Community) 16 v5 ([x7]:List Community)) fun v15=> k14 v15 else k14 v5
) fun v16=> next6 (v13,v16)
) ([(⟨0,99⟩:Community),(⟨0,101⟩:Community),(⟨0,102⟩:Community),(⟨99,101⟩:Community),(⟨99,103⟩:Community),(⟨500,1⟩:Community),(⟨65535,666⟩:Community),(⟨65535,65282⟩:Community)]:List Community) 0 (v2,[])
) fun (v17,v18)=> some (v18,v17)
def mill_Deck_Large (a0:Deck):Option ((List Large)×Deck):= Option.bind (mill_Deck_Next a0 16384) fun (v1,v2)=> joinP (τ:=(List Large)) (fun k3=> forR (σ:=(List Large)) (fun v4=> k3 v4
) (fun next5 x6 i7 v4=> joinP (τ:=(List Large)) (fun k8=> if ((i64w ((BitVec.ofInt 64 (Int.fdiv v1 (2 ^ (min (Int.toNat ((toU64 (i64w (2 * (i7:Int)))).toNat:Int)) 64))) &&& BitVec.ofInt 64 3).toNat:Int)) == 3) then Option.bind (apnd (α:=Large) 24 v4 ([x6]:List Large)) fun v9=> k8 v9 else k8 v4
) fun v10=> next5 v10
) ([(⟨5,5,5⟩:Large),(⟨99,0,0⟩:Large),(⟨99,0,103⟩:Large),(⟨99,1,102⟩:Large),(⟨99,101,0⟩:Large),(⟨99,102,104⟩:Large),(⟨99,103,101⟩:Large)]:List Large) 0 []
) fun v11=> some (v11,v2)
def mill_Deck_Attrs (a0:Deck) (a1:Int) (a2:Bool):Option (Attrs×Deck):= Option.bind (ref18_Empty) fun v1=> Option.bind (mill_Deck_Next a0 3) fun (v2,v3)=> Option.bind (mill_Deck_Next v3 4) fun (v4,v5)=> joinP (τ:=Deck×(List Int)) (fun k6=> whileR (σ:=Int×Deck×(List Int)) (fun next7 (v8,v9,v10)=> if (decide (v8 > 0)) then Option.bind (mill_Deck_Next v9 7) fun (v11,v12)=> Option.bind (geti ([a1,101,102,201,202,203,301]:List Int) v11) fun v13=> Option.bind (apnd (α:=Int) 8 v10 ([v13]:List Int)) fun v14=> next7 ((i64w (v8 - 1)),v12,v14) else k6 (v9,v10)
) fuel (v4,v5,([a1]:List Int))
) fun (v15,v16)=> Option.bind (mill_Port a1 a2) fun v17=> Option.bind (mill_Deck_Next v15 3) fun (v18,v19)=> joinP (τ:=Deck×Int) (fun k20=> if (v18 == 0) then Option.bind (mill_Deck_Next v19 3) fun (v21,v22)=> k20 (v22,v21) else k20 (v19,v1.MED)
) fun (v23,v24)=> Option.bind (mill_Deck_Next v23 6) fun (v25,v26)=> joinP (τ:=Deck×Int) (fun k27=> if (v25 == 0) then Option.bind (mill_Deck_Next v26 300) fun (v28,v29)=> k27 (v29,v28) else k27 (v26,v1.Pref)
) fun (v30,v31)=> Option.bind (mill_Deck_Communities v30) fun (v32,v33)=> Option.bind (mill_Deck_Large v33) fun (v34,v35)=> Option.bind (mill_Deck_Next v35 24) fun (v36,v37)=> joinP (τ:=Deck×(List Segment)×Bool×UInt64×UInt64×Int×(List Unknown)) (fun k38=> if (v36 == 0) then Option.bind (mill_Deck_Next v37 300) fun (v39,v40)=> k38 (v40,[(⟨false,v16⟩:Segment)],v17.V6,v17.Hi,v17.Lo,(i64w (1 + v39)),v1.Other) else joinP (τ:=Deck×(List Segment)×Bool×UInt64×UInt64×(List Unknown)) (fun k41=> if (v36 == 1) then Option.bind (geti v16 0) fun v42=> Option.bind (seti v16 0 103) fun v43=> k41 (v37,[(⟨false,v43⟩:Segment)],v17.V6,v17.Hi,v17.Lo,v1.Other) else joinP (τ:=Deck×(List Segment)×Bool×UInt64×UInt64×(List Unknown)) (fun k44=> if (v36 == 2) then k44 (v37,((⟨false,v16⟩:Segment)::([(⟨true,([7,9]:List Int)⟩:Segment)]:List Segment)),v17.V6,v17.Hi,v17.Lo,v1.Other) else joinP (τ:=Deck×(List Segment)×Bool×UInt64×UInt64×(List Unknown)) (fun k45=> if (v36 == 3) then Option.bind (apnd (α:=Int) 8 v16 ([99]:List Int)) fun v46=> k45 (v37,[(⟨false,v46⟩:Segment)],v17.V6,v17.Hi,v17.Lo,v1.Other) else joinP (τ:=Deck×(List Segment)×Bool×UInt64×UInt64×(List Unknown)) (fun k47=> if (v36 == 4) then Option.bind (mill_Port 104 a2) fun v48=> k47 (v37,[(⟨false,v16⟩:Segment)],v48.V6,v48.Hi,v48.Lo,v1.Other) else joinP (τ:=Deck×(List Segment)×(List Unknown)) (fun k49=> if (v36 == 5) then Option.bind (apnd (α:=Int) 8 v16 ([64512,701]:List Int)) fun v50=> k49 (v37,[(⟨false,v50⟩:Segment)],v1.Other) else joinP (τ:=Deck×(List Segment)×(List Unknown)) (fun k51=> if (v36 == 6) then k51 (v37,[],v1.Other) else joinP (τ:=Deck×(List Unknown)) (fun k52=> if (v36 == 7) then Option.bind (mill_Deck_Next v37 256) fun (v53,v54)=> k52 (v54,[(⟨224,99,([(1:UInt8),(toU8 v53)]:List UInt8)⟩:Unknown)]) else k52 (v37,v1.Other)
) fun (v55,v56)=> k51 (v55,[(⟨false,v16⟩:Segment)],v56)
) fun (v57,v58,v59)=> k49 (v57,v58,v59)
) fun (v60,v61,v62)=> k47 (v60,v61,v17.V6,v17.Hi,v17.Lo,v62)
) fun (v63,v64,v65,v66,v67,v68)=> k45 (v63,v64,v65,v66,v67,v68)
) fun (v69,v70,v71,v72,v73,v74)=> k44 (v69,v70,v71,v72,v73,v74)
) fun (v75,v76,v77,v78,v79,v80)=> k41 (v75,v76,v77,v78,v79,v80)
) fun (v81,v82,v83,v84,v85,v86)=> k38 (v81,v82,v83,v84,v85,v1.OTC,v86)
) fun (v87,v88,v89,v90,v91,v92,v93)=> some ((⟨v2,v88,(⟨v89,v90,v91⟩:Addr),v24,v31,v92,v32,v34,v93⟩:Attrs),v87)
def mill_Deck_Route (a0:Deck) (a1:Int):Option (Route×Deck):= Option.bind (mill_Deck_Prefix a0) fun (v1,v2)=> Option.bind (mill_Deck_Attrs v2 a1 v1.Addr.V6) fun (v3,v4)=> some ((⟨v1,a1,v3⟩:Route),v4)
def mill_Deck_Update (a0:Deck) (a1:Int):Option (Update×Deck):= Option.bind (ref18_Empty) fun v1=> Option.bind (mill_Deck_Next a0 3) fun (v2,v3)=> joinP (τ:=Deck×(List Prefix)) (fun k4=> whileR (σ:=Int×Deck×(List Prefix)) (fun next5 (v6,v7,v8)=> joinP (τ:=Bool×Deck) (fun k9=> if (decide (v6 > 0)) then Option.bind (mill_Deck_Next v7 2) fun (v10,v11)=> k9 ((cond true (v10 == 0) false),v11) else k9 (false,v7)
) fun (v12,v13)=> if v12 then Option.bind (mill_Deck_Prefix v13) fun (v14,v15)=> Option.bind (apnd (α:=Prefix) 32 v8 ([v14]:List Prefix)) fun v16=> next5 ((i64w (v6 - 1)),v15,v16) else k4 (v13,v8)
) fuel (v2,v3,[])
) fun (v17,v18)=> Option.bind (mill_Deck_Next v17 5) fun (v19,v20)=> joinP (τ:=Deck×Int×(List Segment)×Bool×UInt64×UInt64×Int×Int×Int×(List Community)×(List Large)×(List Unknown)×(List Prefix)) (fun k21=> if (decide (v19 > 0)) then Option.bind (mill_Deck_Route v20 a1) fun (v22,v23)=> Option.bind (mill_Deck_Next v23 3) fun (v24,v25)=> joinP (τ:=Deck×(List Prefix)) (fun k26=> whileR (σ:=Int×Deck×(List Prefix)) (fun next27 (v28,v29,v30)=> if (decide (v28 > 0)) then Option.bind (mill_Deck_Prefix v29) fun (v31,v32)=> joinP (τ:=(List Prefix)) (fun k33=> if (v31.Addr.V6 == v22.Prefix.Addr.V6) then Option.bind (apnd (α:=Prefix) 32 v30 ([v31]:List Prefix)) fun v34=> k33 v34 else k33 v30
) fun v35=> next27 ((i64w (v28 - 1)),v32,v35) else k26 (v29,v30)
) fuel (v24,v25,([v22.Prefix]:List Prefix))
) fun (v36,v37)=> k21 (v36,v22.Attrs.Origin,v22.Attrs.Path,v22.Attrs.Next.V6,v22.Attrs.Next.Hi,v22.Attrs.Next.Lo,v22.Attrs.MED,v22.Attrs.Pref,v22.Attrs.OTC,v22.Attrs.Communities,v22.Attrs.Large,v22.Attrs.Other,v37) else k21 (v20,v1.Origin,v1.Path,v1.Next.V6,v1.Next.Hi,v1.Next.Lo,v1.MED,v1.Pref,v1.OTC,v1.Communities,v1.Large,v1.Other,[])
) fun (v38,v39,v40,v41,v42,v43,v44,v45,v46,v47,v48,v49,v50)=> some ((⟨v18,(⟨v39,v40,(⟨v41,v42,v43⟩:Addr),v44,v45,v46,v47,v48,v49⟩:Attrs),v50⟩:Update),v38)
def mill_Deck_Record (a0:Deck) (a1:Server):Option (Record×Deck):= Option.bind (mill_Deck_Next a0 (if (a1.Policies.length:Int) > 1 then (a1.Policies.length:Int) else 1)) fun (v1,v2)=> Option.bind (mill_Deck_Next v2 10) fun (v3,v4)=> Option.bind (geti ([1,1,1,1,1,1,2,3,4,5]:List Int) v3) fun v5=> joinP (τ:=Deck×Record) (fun k6=> if (v5 == 1) then Option.bind (mill_Deck_Update v4 (i64w (101 + v1))) fun (v7,v8)=> k6 (v8,(⟨v5,(i64w (101 + v1)),0,0,v7,(⟨0,false,false,false,0,[],[]⟩:Policy)⟩:Record)) else joinP (τ:=Deck×Record) (fun k9=> if (v5 == 3) then Option.bind (mill_Deck_Next v4 50) fun (v10,v11)=> Option.bind (mill_Deck_Next v11 3) fun (v12,v13)=> Option.bind (geti ([0,5,60]:List Int) v12) fun v14=> k9 (v13,(⟨v5,(i64w (101 + v1)),v10,v14,(⟨[],(⟨0,[],(⟨false,(0:UInt64),(0:UInt64)⟩:Addr),0,0,0,[],[],[]⟩:Attrs),[]⟩:Update),(⟨0,false,false,false,0,[],[]⟩:Policy)⟩:Record)) else joinP (τ:=Deck×Record) (fun k15=> if (v5 == 4) then Option.bind (mill_Deck_Policy v4 (i64w (101 + v1))) fun (v16,v17)=> k15 (v17,(⟨v5,(i64w (101 + v1)),0,0,(⟨[],(⟨0,[],(⟨false,(0:UInt64),(0:UInt64)⟩:Addr),0,0,0,[],[],[]⟩:Attrs),[]⟩:Update),v16⟩:Record)) else joinP (τ:=Deck×Int) (fun k18=> if (v5 == 5) then Option.bind (mill_Deck_Next v4 3) fun (v19,v20)=> k18 (v20,v19) else k18 (v4,0)
) fun (v21,v22)=> k15 (v21,(⟨v5,(i64w (101 + v1)),0,v22,(⟨[],(⟨0,[],(⟨false,(0:UInt64),(0:UInt64)⟩:Addr),0,0,0,[],[],[]⟩:Attrs),[]⟩:Update),(⟨0,false,false,false,0,[],[]⟩:Policy)⟩:Record))
) fun (v23,v24)=> k9 (v23,v24)
) fun (v25,v26)=> k6 (v25,v26)
) fun (v27,v28)=> some (v28,v27)
def ref15_Same (a0:List Segment) (a1:List Segment):Option Bool:= if ((a0.length:Int) != (a1.length:Int)) then some false else joinP (τ:=Unit) (fun k1=> forR (σ:=Unit) (fun _=> k1 ()
) (fun next2 x3 i4 _=> joinP (τ:=Unit) (fun k5=> joinP (τ:=Bool) (fun k6=> Option.bind (geti a1 (i4:Int)) fun v7=> if (!(x3.Set == v7.Set)) then k6 true else Option.bind (geti a1 (i4:Int)) fun v8=> k6 (cond false true ((x3.ASNs.length:Int) != (v8.ASNs.length:Int)))
) fun v9=> if v9 then some false else joinP (τ:=Unit) (fun k10=> forR (σ:=Unit) (fun _=> k10 ()
) (fun next11 x12 i13 _=> Option.bind (geti a1 (i4:Int)) fun v14=> Option.bind (geti v14.ASNs (i13:Int)) fun v15=> if (v15 != x12) then some false else next11 ()
) x3.ASNs 0 ()
) fun _=> k5 ()
) fun _=> next2 ()
) a0 0 ()
) fun _=> some true
def ref17_Same (a0:List Community) (a1:List Community):Option Bool:= if ((a0.length:Int) != (a1.length:Int)) then some false else joinP (τ:=Unit) (fun k1=> forR (σ:=Unit) (fun _=> k1 ()
) (fun next2 x3 i4 _=> Option.bind (geti a1 (i4:Int)) fun v5=> if (!(Community.eqd v5 x3)) then some false else next2 ()
) a0 0 ()
) fun _=> some true
def ref17_SameLarge (a0:List Large) (a1:List Large):Option Bool:= if ((a0.length:Int) != (a1.length:Int)) then some false else joinP (τ:=Unit) (fun k1=> forR (σ:=Unit) (fun _=> k1 ()
) (fun next2 x3 i4 _=> Option.bind (geti a1 (i4:Int)) fun v5=> if (!(Large.eqd v5 x3)) then some false else next2 ()
) a0 0 ()
) fun _=> some true
def ref18_SameList (a0:List Unknown) (a1:List Unknown):Option Bool:= if ((a0.length:Int) != (a1.length:Int)) then some false else joinP (τ:=Unit) (fun k1=> forR (σ:=Unit) (fun _=> k1 ()
) (fun next2 x3 i4 _=> joinP (τ:=Bool) (fun k5=> Option.bind (geti a1 (i4:Int)) fun v6=> if (x3.Flags != v6.Flags) then k5 true else Option.bind (geti a1 (i4:Int)) fun v7=> if (cond false true (x3.Type_ != v7.Type_)) then k5 true else Option.bind (geti a1 (i4:Int)) fun v8=> k5 (cond false true (!((bs x3.Data).toList == (bs v8.Data).toList)))
) fun v9=> if v9 then some false else next2 ()
) a0 0 ()
) fun _=> some true
def ref18_Same (a0:Attrs) (a1:Attrs):Option Bool:= joinP (τ:=Bool) (fun k1=> if (a0.Origin == a1.Origin) then Option.bind (ref15_Same a0.Path a1.Path) fun v2=> if (cond true v2 false) then if (cond true (Addr.eqd a0.Next a1.Next) false) then if (cond true (a0.MED == a1.MED) false) then if (cond true (a0.Pref == a1.Pref) false) then if (cond true (a0.OTC == a1.OTC) false) then Option.bind (ref17_Same a0.Communities a1.Communities) fun v3=> if (cond true v3 false) then Option.bind (ref17_SameLarge a0.Large a1.Large) fun v4=> if (cond true v4 false) then Option.bind (ref18_SameList a0.Other a1.Other) fun v5=> k1 (cond true v5 false) else k1 false else k1 false else k1 false else k1 false else k1 false else k1 false else k1 false else k1 false
) fun v6=> some v6
def ref18_word (a0:Int) (a1:Int):Option (List UInt8):= joinP (τ:=(List UInt8)) (fun k1=> whileR (σ:=Int×(List UInt8)) (fun next2 (v3,v4)=> if (decide (v3 ≥ 0)) then Option.bind (apnd (α:=UInt8) 1 v4 ([(toU8 (Int.fdiv a0 (2 ^ (min (Int.toNat ((toU64 (8 * ((toU64 v3).toNat:Int))).toNat:Int)) 64))))]:List UInt8)) fun v5=> next2 ((i64w (v3 - 1)),v5) else k1 v4
) fuel ((i64w (a1 - 1)),[])
) fun v6=> some v6
def ref18_Write (a0:Attrs):Option ((List Unknown)×Int):= Option.bind (ref18_Valid a0) fun v1=> if (!v1) then some ([],1) else joinP (τ:=(List (Int×(List UInt8)))) (fun k2=> if (decide (a0.Origin ≥ 0)) then k2 (mset [] 1 ([(toU8 a0.Origin)]:List UInt8)) else k2 []
) fun v3=> joinP (τ:=Bool) (fun k4=> if (decide (a0.Origin ≥ 0)) then k4 true else k4 (cond false true (decide ((a0.Path.length:Int) > 0)))
) fun v5=> joinP (τ:=(List (Int×(List UInt8)))) (fun k6=> if v5 then joinP (τ:=(List UInt8)) (fun k7=> forR (σ:=(List UInt8)) (fun v8=> k7 v8
) (fun next9 x10 i11 v8=> joinP (τ:=(List UInt8)) (fun k12=> joinP (τ:=UInt8) (fun k13=> if x10.Set then k13 (1:UInt8) else k13 (2:UInt8)
) fun v14=> Option.bind (apnd (α:=UInt8) 1 v8 ([v14,(toU8 (x10.ASNs.length:Int))]:List UInt8)) fun v15=> joinP (τ:=(List UInt8)) (fun k16=> forR (σ:=(List UInt8)) (fun v17=> k16 v17
) (fun next18 x19 i20 v17=> Option.bind (ref18_word x19 4) fun v21=> Option.bind (apnd (α:=UInt8) 1 v17 v21) fun v22=> next18 v22
) x10.ASNs 0 v15
) fun v23=> k12 v23
) fun v24=> next9 v24
) a0.Path 0 ([]:List UInt8)
) fun v25=> k6 (mset v3 2 v25) else k6 v3
) fun v26=> joinP (τ:=Bool) (fun k27=> if (!(Addr.eqd a0.Next (⟨false,(0:UInt64),(0:UInt64)⟩:Addr))) then k27 (cond true (!a0.Next.V6) false) else k27 false
) fun v28=> joinP (τ:=(List (Int×(List UInt8)))) (fun k29=> if v28 then Option.bind (ref01_Bytes a0.Next) fun v30=> k29 (mset v26 3 v30) else k29 v26
) fun v31=> joinP (τ:=(List (Int×(List UInt8)))) (fun k32=> if (decide (a0.MED ≥ 0)) then Option.bind (ref18_word a0.MED 4) fun v33=> k32 (mset v31 4 v33) else k32 v31
) fun v34=> joinP (τ:=(List (Int×(List UInt8)))) (fun k35=> if (decide (a0.Pref ≥ 0)) then Option.bind (ref18_word a0.Pref 4) fun v36=> k35 (mset v34 5 v36) else k35 v34
) fun v37=> joinP (τ:=(List (Int×(List UInt8)))×(List UInt8)) (fun k38=> Option.bind (chk ((mget v37 8).isNone=true)) fun _=> forR (σ:=(List (Int×(List UInt8)))×(List UInt8)) (fun (v39,v40)=> k38 (v39,v40)
) (fun next41 x42 i43 (v39,v40)=> Option.bind (ref18_word x42.A 2) fun v44=> Option.bind (apnd (α:=UInt8) 1 v40 v44) fun v45=> Option.bind (ref18_word x42.B 2) fun v46=> Option.bind (apnd (α:=UInt8) 1 v45 v46) fun v47=> next41 ((mset v39 8 v47),v47)
) a0.Communities 0 (v37,[])
) fun (v48,v49)=> joinP (τ:=(List (Int×(List UInt8)))×(List UInt8)) (fun k50=> Option.bind (chk ((mget v48 32).isNone=true)) fun _=> forR (σ:=(List (Int×(List UInt8)))×(List UInt8)) (fun (v51,v52)=> k50 (v51,v52)
) (fun next53 x54 i55 (v51,v52)=> Option.bind (ref18_word x54.A 4) fun v56=> Option.bind (apnd (α:=UInt8) 1 v52 v56) fun v57=> Option.bind (ref18_word x54.B 4) fun v58=> Option.bind (apnd (α:=UInt8) 1 v57 v58) fun v59=> Option.bind (ref18_word x54.C 4) fun v60=> Option.bind (apnd (α:=UInt8) 1 v59 v60) fun v61=> next53 ((mset v51 32 v61),v61)
) a0.Large 0 (v48,[])
) fun (v62,v63)=> joinP (τ:=(List (Int×(List UInt8)))) (fun k64=> if (decide (a0.OTC ≥ 0)) then Option.bind (ref18_word a0.OTC 4) fun v65=> k64 (mset v62 35 v65) else k64 v62
) fun v66=> joinP (τ:=(List Unknown)) (fun k67=> whileR (σ:=Int×(List Unknown)) (fun next68 (v69,v70)=> if (decide (v69 < 256)) then joinP (τ:=(List Unknown)) (fun k71=> Option.bind (some (Option.getD (mget v66 v69) [])) fun v72=> Option.bind (some (Option.isSome (mget v66 v69))) fun v73=> joinP (τ:=(List Unknown)) (fun k74=> if v73 then Option.bind (ref18_flags v69) fun v75=> Option.bind (apnd (α:=UInt8) 1 [] v72) fun _=> Option.bind (apnd (α:=Unknown) 40 v70 ([(⟨v75,v69,v72⟩:Unknown)]:List Unknown)) fun v76=> k74 v76 else k74 v70
) fun v77=> joinP (τ:=(List Unknown)) (fun k78=> forR (σ:=(List Unknown)) (fun v79=> k78 v79
) (fun next80 x81 i82 v79=> joinP (τ:=(List Unknown)) (fun k83=> if (x81.Type_ == v69) then Option.bind (apnd (α:=UInt8) 1 [] x81.Data) fun _=> Option.bind (apnd (α:=Unknown) 40 v79 ([{ x81 with Type_:=v69 }]:List Unknown)) fun v84=> k83 v84 else k83 v79
) fun v85=> next80 v85
) a0.Other 0 v77
) fun v86=> k71 v86
) fun v87=> next68 ((i64w (v69 + 1)),v87) else k67 v70
) fuel (0,[])
) fun v88=> some (v88,0)
def ref19_codes (a0:List Prefix) (a1:Bool):Option (List UInt8):= joinP (τ:=(List UInt8)) (fun k1=> forR (σ:=(List UInt8)) (fun v2=> k1 v2
) (fun next3 x4 i5 v2=> joinP (τ:=(List UInt8)) (fun k6=> if (x4.Addr.V6 == a1) then Option.bind (apnd (α:=UInt8) 1 v2 ([(toU8 x4.Len)]:List UInt8)) fun v7=> Option.bind (ref01_Bytes x4.Addr) fun v8=> Option.bind (chk (0 ≤ (0:Int)∧(0:Int) ≤ (i64w (Int.tdiv (i64w (x4.Len + 7)) 8))∧(i64w (Int.tdiv (i64w (x4.Len + 7)) 8)) ≤ (v8.length:Int))) fun _=> Option.bind (apnd (α:=UInt8) 1 v7 (List.take (Int.toNat (i64w (Int.tdiv (i64w (x4.Len + 7)) 8)) - Int.toNat 0) (List.drop (Int.toNat 0) v8))) fun v9=> k6 v9 else k6 v2
) fun v10=> next3 v10
) a0 0 []
) fun v11=> some v11
def ref19_put (a0:List Unknown) (a1:Unknown):Option (List Unknown):= joinP (τ:=Int) (fun k1=> whileR (σ:=Int) (fun next2 v3=> joinP (τ:=Bool) (fun k4=> if (decide (v3 < (a0.length:Int))) then Option.bind (geti a0 v3) fun v5=> k4 (cond true (decide (v5.Type_ < a1.Type_)) false) else k4 false
) fun v6=> if v6 then next2 (i64w (v3 + 1)) else k1 v3
) fuel 0
) fun v7=> Option.bind (part a0 0 v7) fun v8=> Option.bind (apnd (α:=Unknown) 40 [] v8) fun _=> Option.bind (apnd (α:=Unknown) 40 v8 ([a1]:List Unknown)) fun v9=> Option.bind (part a0 v7 (a0.length:Int)) fun v10=> Option.bind (apnd (α:=Unknown) 40 v9 v10) fun v11=> some v11
def ref18_Join (a0:List Unknown):Option ((List UInt8)×Int):= joinP (τ:=Unit) (fun k1=> forR (σ:=Unit) (fun _=> k1 ()
) (fun next2 x3 i4 _=> joinP (τ:=Bool) (fun k5=> if (decide (x3.Flags < 0)) then k5 true else if (cond false true (decide (x3.Flags > 255))) then k5 true else if (cond false true (decide (x3.Type_ < 0))) then k5 true else if (cond false true (decide (x3.Type_ > 255))) then k5 true else k5 (cond false true (decide ((x3.Data.length:Int) > 65535)))
) fun v6=> if v6 then some ([],1) else next2 ()
) a0 0 ()
) fun _=> joinP (τ:=(List UInt8)) (fun k7=> forR (σ:=(List UInt8)) (fun v8=> k7 v8
) (fun next9 x10 i11 v8=> joinP (τ:=(List UInt8)) (fun k12=> if (decide ((x10.Data.length:Int) > 255)) then Option.bind (apnd (α:=UInt8) 1 v8 ([(toU8 ((BitVec.ofInt 8 ((toU8 ((BitVec.ofInt 8 ((toU8 x10.Flags).toNat:Int) &&& BitVec.ofInt 8 224).toNat:Int)).toNat:Int) ||| BitVec.ofInt 8 16).toNat:Int)),(toU8 x10.Type_),(toU8 (Int.fdiv (x10.Data.length:Int) (2 ^ (min (Int.toNat 8) 64)))),(toU8 (x10.Data.length:Int))]:List UInt8)) fun v13=> k12 v13 else Option.bind (apnd (α:=UInt8) 1 v8 ([(toU8 ((BitVec.ofInt 8 ((toU8 x10.Flags).toNat:Int) &&& BitVec.ofInt 8 224).toNat:Int)),(toU8 x10.Type_),(toU8 (x10.Data.length:Int))]:List UInt8)) fun v14=> k12 v14
) fun v15=> Option.bind (apnd (α:=UInt8) 1 v15 x10.Data) fun v16=> next9 v16
) a0 0 []
) fun v17=> if (decide ((v17.length:Int) > 2048)) then some ([],3) else some (v17,0)
def ref19_parts (a0:Update):Option ((List UInt8)×Int):= joinP (τ:=(List Unknown)) (fun k1=> if (decide ((a0.Announce.length:Int) > 0)) then Option.bind (ref18_Write a0.Attrs) fun (v2,v3)=> if (v3 != 0) then some ([],v3) else k1 v2 else k1 []
) fun v4=> Option.bind (ref19_codes a0.Announce true) fun v5=> joinP (τ:=(List Unknown)) (fun k6=> if (decide ((v5.length:Int) > 0)) then Option.bind (ref01_Bytes a0.Attrs.Next) fun v7=> Option.bind (apnd (α:=UInt8) 1 ([(0:UInt8),(2:UInt8),(1:UInt8),(16:UInt8)]:List UInt8) v7) fun v8=> Option.bind (apnd (α:=UInt8) 1 v8 ([(0:UInt8)]:List UInt8)) fun v9=> Option.bind (apnd (α:=UInt8) 1 v9 v5) fun v10=> Option.bind (ref19_put v4 (⟨128,14,v10⟩:Unknown)) fun v11=> k6 v11 else k6 v4
) fun v12=> Option.bind (ref19_codes a0.Withdraw true) fun v13=> joinP (τ:=(List Unknown)) (fun k14=> if (decide ((v13.length:Int) > 0)) then Option.bind (apnd (α:=UInt8) 1 ([(0:UInt8),(2:UInt8),(1:UInt8)]:List UInt8) v13) fun v15=> Option.bind (ref19_put v12 (⟨128,15,v15⟩:Unknown)) fun v16=> k14 v16 else k14 v12
) fun v17=> Option.bind (ref18_Join v17) fun (v18,v19)=> if (v19 != 0) then some ([],v19) else Option.bind (ref19_codes a0.Withdraw false) fun v20=> Option.bind (apnd (α:=UInt8) 1 ([(toU8 (Int.fdiv (v20.length:Int) (2 ^ (min (Int.toNat 8) 64)))),(toU8 (v20.length:Int))]:List UInt8) v20) fun v21=> Option.bind (apnd (α:=UInt8) 1 v21 ([(toU8 (Int.fdiv (v18.length:Int) (2 ^ (min (Int.toNat 8) 64)))),(toU8 (v18.length:Int))]:List UInt8)) fun v22=> Option.bind (apnd (α:=UInt8) 1 v22 v18) fun v23=> Option.bind (ref19_codes a0.Announce false) fun v24=> Option.bind (apnd (α:=UInt8) 1 v23 v24) fun v25=> some (v25,0)
def ref19_Valid (a0:Update):Option Bool:= joinP (τ:=Bool) (fun k1=> if (decide ((a0.Withdraw.length:Int) > 256)) then k1 true else k1 (cond false true (decide ((a0.Announce.length:Int) > 256)))
) fun v2=> if v2 then some false else Option.bind (apnd (α:=Prefix) 32 [] a0.Withdraw) fun _=> Option.bind (apnd (α:=Prefix) 32 a0.Withdraw a0.Announce) fun v3=> joinP (τ:=Unit) (fun k4=> forR (σ:=Unit) (fun _=> k4 ()
) (fun next5 x6 i7 _=> Option.bind (ref02_Valid x6) fun v8=> if (!v8) then some false else next5 ()
) v3 0 ()
) fun _=> joinP (τ:=Bool) (fun k9=> if ((a0.Announce.length:Int) == 0) then Option.bind (ref18_Empty) fun v10=> Option.bind (ref18_Same a0.Attrs v10) fun v11=> k9 (cond true (!v11) false) else k9 false
) fun v12=> if v12 then some false else joinP (τ:=Unit) (fun k13=> forR (σ:=Unit) (fun _=> k13 ()
) (fun next14 x15 i16 _=> joinP (τ:=Bool) (fun k17=> if (!(x15.Addr.V6 == a0.Attrs.Next.V6)) then k17 true else if (cond false true (a0.Attrs.Origin == (-1))) then k17 true else if (cond false true (Addr.eqd a0.Attrs.Next (⟨false,(0:UInt64),(0:UInt64)⟩:Addr))) then k17 true else Option.bind (ref18_Valid a0.Attrs) fun v18=> k17 (cond false true (!v18))
) fun v19=> if v19 then some false else next14 ()
) a0.Announce 0 ()
) fun _=> Option.bind (ref19_parts a0) fun (v20,v21)=> joinP (τ:=Bool) (fun k22=> if (v21 == 0) then k22 (cond true (decide ((v20.length:Int) ≤ 4077)) false) else k22 false
) fun v23=> some v23
def ref25_without (a0:List Held) (a1:Prefix):Option (List Held):= joinP (τ:=(List Held)) (fun k1=> forR (σ:=(List Held)) (fun v2=> k1 v2
) (fun next3 x4 i5 v2=> joinP (τ:=(List Held)) (fun k6=> if (!(Prefix.eqd x4.Route.Prefix a1)) then Option.bind (apnd (α:=Held) 208 v2 ([x4]:List Held)) fun v7=> k6 v7 else k6 v2
) fun v8=> next3 v8
) a0 0 []
) fun v9=> some v9
def ref24_Widen (a0:List Object):Option (List Object):= joinP (τ:=(List Object)) (fun k1=> forR (σ:=(List Object)) (fun v2=> k1 v2
) (fun next3 x4 i5 v2=> Option.bind (ref24_width x4.Prefix.Addr.V6) fun v6=> Option.bind (apnd (α:=Object) 48 v2 ([{ x4 with Max:=v6 }]:List Object)) fun v7=> next3 v7
) a0 0 []
) fun v8=> some v8
def ref02_Contains (a0:Prefix) (a1:Addr):Option Bool:= Option.bind (ref02_Make a1 a0.Len) fun (v1,v2)=> joinP (τ:=Bool) (fun k3=> if (v2 == 0) then k3 (cond true (Prefix.eqd v1 a0) false) else k3 false
) fun v4=> some v4
def ref02_Covers (a0:Prefix) (a1:Prefix):Option Bool:= joinP (τ:=Bool) (fun k1=> if (decide (a1.Len ≥ a0.Len)) then Option.bind (ref02_Contains a0 a1.Addr) fun v2=> k1 (cond true v2 false) else k1 false
) fun v3=> some v3
def ref24_ill (a0:Route):Option Bool:= joinP (τ:=Bool) (fun k1=> Option.bind (ref02_Valid a0.Prefix) fun v2=> if (!v2) then k1 true else Option.bind (ref18_Valid a0.Attrs) fun v3=> if (cond false true (!v3)) then k1 true else if (cond false true (a0.Attrs.Origin == (-1))) then k1 true else if (cond false true ((a0.Attrs.Path.length:Int) == 0)) then k1 true else if (cond false true (Addr.eqd a0.Attrs.Next (⟨false,(0:UInt64),(0:UInt64)⟩:Addr))) then k1 true else k1 (cond false true (!(a0.Attrs.Next.V6 == a0.Prefix.Addr.V6)))
) fun v4=> some v4
def ref15_First (a0:List Segment):Option (Int×Bool):= joinP (τ:=Bool) (fun k1=> Option.bind (ref15_Valid a0) fun v2=> if (!v2) then k1 true else if (cond false true ((a0.length:Int) == 0)) then k1 true else Option.bind (geti a0 0) fun v3=> k1 (cond false true v3.Set)
) fun v4=> if v4 then some (0,false) else Option.bind (geti a0 0) fun v5=> Option.bind (geti v5.ASNs 0) fun v6=> some (v6,true)
def ref24_has (a0:List Int) (a1:Int):Option Bool:= joinP (τ:=Unit) (fun k1=> forR (σ:=Unit) (fun _=> k1 ()
) (fun next2 x3 i4 _=> if (x3 == a1) then some true else next2 ()
) a0 0 ()
) fun _=> some false
def ref23_Receive (a0:Int) (a1:Int) (a2:Attrs):Option (Attrs×Int):= Option.bind (ref23_bad a0 a1) fun v1=> if v1 then some ((⟨0,[],(⟨false,(0:UInt64),(0:UInt64)⟩:Addr),0,0,0,[],[],[]⟩:Attrs),1) else joinP (τ:=Bool) (fun k2=> if (a0 == 3) then k2 true else k2 (cond false true (a0 == 2))
) fun v3=> joinP (τ:=Bool) (fun k4=> if (a2.OTC != (-1)) then if (cond true (!v3) false) then if (a0 != 4) then k4 true else k4 (cond true (cond false true (a2.OTC != a1)) false) else k4 false else k4 false
) fun v5=> if v5 then some ((⟨0,[],(⟨false,(0:UInt64),(0:UInt64)⟩:Addr),0,0,0,[],[],[]⟩:Attrs),30) else joinP (τ:=Bool) (fun k6=> if (a2.OTC == (-1)) then if v3 then k6 true else k6 (cond true (cond false true (a0 == 4)) false) else k6 false
) fun v7=> joinP (τ:=Int) (fun k8=> if v7 then k8 a1 else k8 a2.OTC
) fun v9=> some (({ a2 with OTC:=v9 }),0)
def ref24_pathed (a0:Filter) (a1:Peer) (a2:Attrs):Option (List Int):= Option.bind (ref15_First a2.Path) fun (v1,v2)=> joinP (τ:=Bool) (fun k3=> if (!v2) then k3 true else k3 (cond false true (v1 != a1.ASN))
) fun v4=> joinP (τ:=(List Int)) (fun k5=> if v4 then Option.bind (apnd (α:=Int) 8 [] ([2]:List Int)) fun v6=> k5 v6 else k5 []
) fun v7=> joinP (τ:=Bool) (fun k8=> forR (σ:=Bool) (fun v9=> k8 v9
) (fun next10 x11 i12 v9=> joinP (τ:=Bool) (fun k13=> if v9 then k13 true else k13 (cond false true (Addr.eqd x11 a2.Next))
) fun v14=> next10 v14
) a1.Nexts 0 false
) fun v15=> joinP (τ:=(List Int)) (fun k16=> if (!v15) then Option.bind (apnd (α:=Int) 8 v7 ([3]:List Int)) fun v17=> k16 v17 else k16 v7
) fun v18=> Option.bind (ref15_Length a2.Path) fun v19=> joinP (τ:=(List Int)) (fun k20=> if (decide (v19 > a0.Hops)) then Option.bind (apnd (α:=Int) 8 v18 ([4]:List Int)) fun v21=> k20 v21 else k20 v18
) fun v22=> Option.bind (ref15_Has a2.Path a0.Own) fun v23=> joinP (τ:=(List Int)) (fun k24=> if v23 then Option.bind (apnd (α:=Int) 8 v22 ([5]:List Int)) fun v25=> k24 v25 else k24 v22
) fun v26=> joinP (τ:=Bool) (fun k27=> forR (σ:=Bool) (fun v28=> k27 v28
) (fun next29 x30 i31 v28=> joinP (τ:=Bool) (fun k32=> if v28 then k32 true else k32 (cond false true x30.Set)
) fun v33=> next29 v33
) a2.Path 0 false
) fun v34=> Option.bind (ref15_Flat a2.Path) fun v35=> joinP (τ:=Bool×Bool) (fun k36=> forR (σ:=Bool×Bool) (fun (v37,v38)=> k36 (v37,v38)
) (fun next39 x40 i41 (v37,v38)=> joinP (τ:=Bool×Bool) (fun k42=> joinP (τ:=Bool) (fun k43=> forR (σ:=Bool) (fun v44=> k43 v44
) (fun next45 x46 i47 v44=> joinP (τ:=Bool) (fun k48=> if v44 then k48 true else if (decide (x40 ≥ x46.From)) then k48 (cond false true (cond true (decide (x40 ≤ x46.To)) false)) else k48 false
) fun v49=> next45 v49
) a0.Private 0 v37
) fun v50=> joinP (τ:=Bool) (fun k51=> if v38 then k51 true else if (x40 != a1.ASN) then Option.bind (ref24_has a0.Free x40) fun v52=> if (cond true v52 false) then Option.bind (ref24_has a0.Free a1.ASN) fun v53=> k51 (cond false true (cond true (!v53) false)) else k51 false else k51 false
) fun v54=> k42 (v50,v54)
) fun (v55,v56)=> next39 (v55,v56)
) v35 0 (false,false)
) fun (v57,v58)=> joinP (τ:=(List Int)) (fun k59=> if v34 then Option.bind (apnd (α:=Int) 8 v26 ([6]:List Int)) fun v60=> k59 v60 else k59 v26
) fun v61=> joinP (τ:=(List Int)) (fun k62=> if v57 then Option.bind (apnd (α:=Int) 8 v61 ([7]:List Int)) fun v63=> k62 v63 else k62 v61
) fun v64=> joinP (τ:=(List Int)) (fun k65=> if v58 then Option.bind (apnd (α:=Int) 8 v64 ([8]:List Int)) fun v66=> k65 v66 else k65 v64
) fun v67=> Option.bind (ref23_Receive 1 a1.ASN a2) fun (v68,v69)=> joinP (τ:=(List Int)) (fun k70=> if (v69 == 30) then Option.bind (apnd (α:=Int) 8 v67 ([9]:List Int)) fun v71=> k70 v71 else k70 v67
) fun v72=> some v72
def ref24_long (a0:Filter) (a1:Route):Option Bool:= joinP (τ:=Int×Int×Int) (fun k1=> if a1.Prefix.Addr.V6 then k1 (a0.Min6,a0.Max6,a0.Hole6) else k1 (a0.Min4,a0.Max4,a0.Hole4)
) fun (v2,v3,v4)=> Option.bind (ref24_Hole a1.Attrs) fun v5=> if v5 then some (decide (a1.Prefix.Len < v4)) else joinP (τ:=Bool) (fun k6=> if (decide (a1.Prefix.Len < v2)) then k6 true else k6 (cond false true (decide (a1.Prefix.Len > v3)))
) fun v7=> some v7
def ref15_Origin (a0:List Segment):Option (Int×Bool):= joinP (τ:=Bool) (fun k1=> Option.bind (ref15_Valid a0) fun v2=> if (!v2) then k1 true else if (cond false true ((a0.length:Int) == 0)) then k1 true else Option.bind (geti a0 (i64w ((a0.length:Int) - 1))) fun v3=> k1 (cond false true v3.Set)
) fun v4=> if v4 then some (0,false) else Option.bind (ref15_Flat a0) fun v5=> Option.bind (geti v5 (i64w ((v5.length:Int) - 1))) fun v6=> some (v6,true)
def ref20_find (a0:Registry) (a1:ByteArray):Option (Set×Bool):= joinP (τ:=Unit) (fun k1=> forR (σ:=Unit) (fun _=> k1 ()
) (fun next2 x3 i4 _=> if (x3.Name.toList == a1.toList) then some (x3,true) else next2 ()
) a0.Sets 0 ()
) fun _=> some ((⟨ByteArray.empty,[],[]⟩:Set),false)
def ref20_insertName (a0:List ByteArray) (a1:ByteArray):Option (List ByteArray):= joinP (τ:=Int) (fun k1=> whileR (σ:=Int) (fun next2 v3=> joinP (τ:=Bool) (fun k4=> if (decide (v3 < (a0.length:Int))) then Option.bind (geti a0 v3) fun v5=> k4 (cond true (Op.bytesLess v5.toList a1.toList) false) else k4 false
) fun v6=> if v6 then next2 (i64w (v3 + 1)) else k1 v3
) fuel 0
) fun v7=> joinP (τ:=Bool) (fun k8=> if (decide (v7 < (a0.length:Int))) then Option.bind (geti a0 v7) fun v9=> k8 (cond true (v9.toList == a1.toList) false) else k8 false
) fun v10=> if v10 then some a0 else Option.bind (part a0 0 v7) fun v11=> Option.bind (apnd (α:=ByteArray) 16 [] v11) fun _=> Option.bind (apnd (α:=ByteArray) 16 v11 ([a1]:List ByteArray)) fun v12=> Option.bind (part a0 v7 (a0.length:Int)) fun v13=> Option.bind (apnd (α:=ByteArray) 16 v12 v13) fun v14=> some v14
def ref20_insert (a0:List Int) (a1:Int):Option (List Int):= joinP (τ:=Int) (fun k1=> whileR (σ:=Int) (fun next2 v3=> joinP (τ:=Bool) (fun k4=> if (decide (v3 < (a0.length:Int))) then Option.bind (geti a0 v3) fun v5=> k4 (cond true (decide (v5 < a1)) false) else k4 false
) fun v6=> if v6 then next2 (i64w (v3 + 1)) else k1 v3
) fuel 0
) fun v7=> joinP (τ:=Bool) (fun k8=> if (decide (v7 < (a0.length:Int))) then Option.bind (geti a0 v7) fun v9=> k8 (cond true (v9 == a1) false) else k8 false
) fun v10=> if v10 then some a0 else Option.bind (part a0 0 v7) fun v11=> Option.bind (apnd (α:=Int) 8 [] v11) fun _=> Option.bind (apnd (α:=Int) 8 v11 ([a1]:List Int)) fun v12=> Option.bind (part a0 v7 (a0.length:Int)) fun v13=> Option.bind (apnd (α:=Int) 8 v12 v13) fun v14=> some v14
def ref20_Expand (a0:Registry) (a1:ByteArray):Option ((List Int)×(List ByteArray)×Int):= Option.bind (ref20_Valid a0) fun v1=> if (!v1) then some ([],[],1) else Option.bind (ref20_find a0 a1) fun (v2,v3)=> if (!v3) then some ([],[],11) else joinP (τ:=(List Int)×(List ByteArray)) (fun k4=> whileR (σ:=(List Int)×(List ByteArray)×(List (ByteArray×Bool))×(List ByteArray)) (fun next5 (v6,v7,v8,v9)=> if (decide ((v9.length:Int) > 0)) then joinP (τ:=(List Int)×(List ByteArray)×(List (ByteArray×Bool))×(List ByteArray)) (fun k10=> Option.bind (geti v9 0) fun v11=> Option.bind (ref20_find a0 v11) fun (v12,v13)=> joinP (τ:=(List ByteArray)) (fun k14=> if (!v13) then Option.bind (geti v9 0) fun v15=> Option.bind (ref20_insertName v7 v15) fun v16=> k14 v16 else k14 v7
) fun v17=> Option.bind (part v9 1 (v9.length:Int)) fun v18=> joinP (τ:=(List Int)) (fun k19=> forR (σ:=(List Int)) (fun v20=> k19 v20
) (fun next21 x22 i23 v20=> Option.bind (ref20_insert v20 x22) fun v24=> next21 v24
) v12.ASNs 0 v6
) fun v25=> joinP (τ:=(List (ByteArray×Bool))×(List ByteArray)) (fun k26=> forR (σ:=(List (ByteArray×Bool))×(List ByteArray)) (fun (v27,v28)=> k26 (v27,v28)
) (fun next29 x30 i31 (v27,v28)=> Option.bind (some (Option.getD (mget v27 x30) false)) fun v32=> joinP (τ:=(List (ByteArray×Bool))×(List ByteArray)) (fun k33=> if (!v32) then Option.bind (apnd (α:=ByteArray) 16 v28 ([x30]:List ByteArray)) fun v34=> k33 ((mset v27 x30 true),v34) else k33 (v27,v28)
) fun (v35,v36)=> next29 (v35,v36)
) v12.Sets 0 (v8,v18)
) fun (v37,v38)=> k10 (v25,v17,v37,v38)
) fun (v39,v40,v41,v42)=> next5 (v39,v40,v41,v42) else k4 (v6,v7)
) fuel ([],[],(mset [] a1 true),([a1]:List ByteArray))
) fun (v43,v44)=> some (v43,v44,0)
def ref20_has (a0:List Int) (a1:Int):Option Bool:= joinP (τ:=Unit) (fun k1=> forR (σ:=Unit) (fun _=> k1 ()
) (fun next2 x3 i4 _=> if (x3 == a1) then some true else next2 ()
) a0 0 ()
) fun _=> some false
def ref20_Permits (a0:List Object) (a1:Prefix) (a2:Int):Option Int:= Option.bind (ref02_Valid a1) fun v1=> if (!v1) then some 1 else joinP (τ:=Int) (fun k2=> forR (σ:=Int) (fun v3=> k2 v3
) (fun next4 x5 i6 v3=> joinP (τ:=Int) (fun k7=> if (x5.ASN != a2) then k7 v3 else Option.bind (ref02_Covers x5.Prefix a1) fun v8=> joinP (τ:=Int) (fun k9=> if (!v8) then joinP (τ:=Int) (fun k10=> if (v3 == 11) then k10 7 else k10 v3
) fun v11=> k9 v11 else if (decide (x5.Max < a1.Len)) then k9 9 else some 0
) fun v12=> k7 v12
) fun v13=> next4 v13
) a0 0 11
) fun v14=> some v14
def ref20_Cmp (a0:Object) (a1:Object):Option Int:= Option.bind (ref02_Cmp a0.Prefix a1.Prefix) fun v1=> if (v1 != 0) then some v1 else joinP (τ:=Bool) (fun k2=> if (decide (a0.Max < a1.Max)) then k2 true else if (a0.Max == a1.Max) then k2 (cond false true (cond true (decide (a0.ASN < a1.ASN)) false)) else k2 false
) fun v3=> if v3 then some (-1) else if (Object.eqd a0 a1) then some 0 else some 1
def ref20_Sorted (a0:List Object):Option (List Object):= joinP (τ:=(List Object)) (fun k1=> forR (σ:=(List Object)) (fun v2=> k1 v2
) (fun next3 x4 i5 v2=> joinP (τ:=(List Object)) (fun k6=> joinP (τ:=Int) (fun k7=> whileR (σ:=Int) (fun next8 v9=> joinP (τ:=Bool) (fun k10=> if (decide (v9 < (v2.length:Int))) then Option.bind (geti v2 v9) fun v11=> Option.bind (ref20_Cmp v11 x4) fun v12=> k10 (cond true (decide (v12 < 0)) false) else k10 false
) fun v13=> if v13 then next8 (i64w (v9 + 1)) else k7 v9
) fuel 0
) fun v14=> joinP (τ:=Bool) (fun k15=> if (decide (v14 < (v2.length:Int))) then Option.bind (geti v2 v14) fun v16=> k15 (cond true (Object.eqd v16 x4) false) else k15 false
) fun v17=> if v17 then k6 v2 else Option.bind (chk (0 ≤ (0:Int)∧(0:Int) ≤ v14∧v14 ≤ (v2.length:Int))) fun _=> Option.bind (apnd (α:=Object) 48 [] (List.take (Int.toNat v14 - Int.toNat 0) (List.drop (Int.toNat 0) v2))) fun _=> Option.bind (apnd (α:=Object) 48 (List.take (Int.toNat v14 - Int.toNat 0) (List.drop (Int.toNat 0) v2)) ([x4]:List Object)) fun v18=> Option.bind (chk (0 ≤ v14∧v14 ≤ (v2.length:Int)∧(v2.length:Int) ≤ (v2.length:Int))) fun _=> Option.bind (apnd (α:=Object) 48 v18 (List.take (Int.toNat (v2.length:Int) - Int.toNat v14) (List.drop (Int.toNat v14) v2))) fun v19=> k6 v19
) fun v20=> next3 v20
) a0 0 []
) fun v21=> some v21
def ref20_Own (a0:Registry) (a1:List Int):Option (List Object):= joinP (τ:=(List Object)) (fun k1=> forR (σ:=(List Object)) (fun v2=> k1 v2
) (fun next3 x4 i5 v2=> Option.bind (ref20_has a1 x4.ASN) fun v6=> joinP (τ:=(List Object)) (fun k7=> if v6 then Option.bind (apnd (α:=Object) 48 v2 ([x4]:List Object)) fun v8=> k7 v8 else k7 v2
) fun v9=> next3 v9
) a0.Objects 0 []
) fun v10=> Option.bind (ref20_Sorted v10) fun v11=> some v11
def ref20_Permitted (a0:Registry) (a1:Int) (a2:ByteArray) (a3:Prefix) (a4:Int):Option Int:= Option.bind (ref20_Valid a0) fun v1=> if (!v1) then some 1 else joinP (τ:=(List Int)) (fun k2=> if (!(a2.toList == (ByteArray.mk (List.toArray List.nil)).toList)) then Option.bind (ref20_Expand a0 a2) fun (v3,v4,v5)=> if (v5 != 0) then some v5 else Option.bind (apnd (α:=Int) 8 ([a1]:List Int) v3) fun v6=> k2 v6 else k2 ([a1]:List Int)
) fun v7=> Option.bind (ref20_has v7 a4) fun v8=> if (!v8) then some 17 else Option.bind (ref20_Own a0 v7) fun v9=> Option.bind (ref20_Permits v9 a3 a4) fun v10=> some v10
def ref22_State (a0:List Object) (a1:Prefix) (a2:Int):Option (Int×(List Object)):= joinP (τ:=Int×(List Object)) (fun k1=> forR (σ:=Int×(List Object)) (fun (v2,v3)=> k1 (v2,v3)
) (fun next4 x5 i6 (v2,v3)=> joinP (τ:=Int×(List Object)) (fun k7=> Option.bind (ref02_Covers x5.Prefix a1) fun v8=> if (!v8) then k7 (v2,v3) else Option.bind (apnd (α:=Object) 48 v3 ([x5]:List Object)) fun v9=> joinP (τ:=Int) (fun k10=> if (v2 == 0) then k10 2 else k10 v2
) fun v11=> joinP (τ:=Bool) (fun k12=> if (x5.ASN == a2) then if (cond true (a2 != 0) false) then k12 (cond true (decide (x5.Max ≥ a1.Len)) false) else k12 false else k12 false
) fun v13=> joinP (τ:=Int) (fun k14=> if v13 then k14 1 else k14 v11
) fun v15=> k7 (v15,v9)
) fun (v16,v17)=> next4 (v16,v17)
) a0 0 (0,[])
) fun (v18,v19)=> some (v18,v19)
def ref24_All (a0:Filter) (a1:Peer) (a2:Route):Option (List Int):= Option.bind (ref24_ill a2) fun v1=> if v1 then some ([1]:List Int) else Option.bind (ref24_pathed a0 a1 a2.Attrs) fun v2=> joinP (τ:=Bool) (fun k3=> forR (σ:=Bool) (fun v4=> k3 v4
) (fun next5 x6 i7 v4=> joinP (τ:=Bool) (fun k8=> if v4 then k8 true else Option.bind (ref02_Covers x6 a2.Prefix) fun v9=> if (cond false true v9) then k8 true else Option.bind (ref02_Covers a2.Prefix x6) fun v10=> k8 (cond false true v10)
) fun v11=> next5 v11
) a0.LANs 0 false
) fun v12=> joinP (τ:=Bool) (fun k13=> forR (σ:=Bool) (fun v14=> k13 v14
) (fun next15 x16 i17 v14=> joinP (τ:=Bool) (fun k18=> if v14 then k18 true else Option.bind (ref02_Covers x16 a2.Prefix) fun v19=> k18 (cond false true v19)
) fun v20=> next15 v20
) a0.Bogons 0 false
) fun v21=> joinP (τ:=(List Int)) (fun k22=> if v12 then Option.bind (apnd (α:=Int) 8 v2 ([10]:List Int)) fun v23=> k22 v23 else k22 v2
) fun v24=> joinP (τ:=(List Int)) (fun k25=> if v21 then Option.bind (apnd (α:=Int) 8 v24 ([11]:List Int)) fun v26=> k25 v26 else k25 v24
) fun v27=> Option.bind (ref24_long a0 a2) fun v28=> joinP (τ:=(List Int)) (fun k29=> if v28 then Option.bind (apnd (α:=Int) 8 v27 ([12]:List Int)) fun v30=> k29 v30 else k29 v27
) fun v31=> Option.bind (ref24_Hole a2.Attrs) fun v32=> joinP (τ:=(List Object)×(List Object)) (fun k33=> if v32 then Option.bind (ref24_Widen a0.Registry.Objects) fun v34=> Option.bind (ref24_Widen a0.Origins) fun v35=> k33 (v35,v34) else k33 (a0.Origins,a0.Registry.Objects)
) fun (v36,v37)=> Option.bind (ref15_Origin a2.Attrs.Path) fun (v38,v39)=> joinP (τ:=Int) (fun k40=> if (!v39) then k40 (-1) else k40 v38
) fun v41=> Option.bind (ref20_Permitted (⟨a0.Registry.Sets,v37⟩:Registry) a1.ASN a1.Set a2.Prefix v41) fun v42=> joinP (τ:=(List Int)) (fun k43=> if (v42 != 0) then Option.bind (apnd (α:=Int) 8 v31 ([13]:List Int)) fun v44=> k43 v44 else k43 v31
) fun v45=> Option.bind (ref22_State v36 a2.Prefix v41) fun (v46,v47)=> joinP (τ:=(List Int)) (fun k48=> if (v46 == 2) then Option.bind (apnd (α:=Int) 8 v45 ([14]:List Int)) fun v49=> k48 v49 else k48 v45
) fun v50=> some v50
def ref24_Check (a0:Filter) (a1:Peer) (a2:Route):Option Int:= Option.bind (ref24_All a0 a1 a2) fun v1=> if (decide ((v1.length:Int) > 0)) then Option.bind (geti v1 0) fun v2=> some v2 else some 0
def ref25_settle (a0:RIB):Option RIB:= joinP (τ:=Unit) (fun k1=> forR (σ:=Unit) (fun _=> k1 ()
) (fun next2 x3 i4 _=> if x3.Stale then some a0 else next2 ()
) a0.Held 0 ()
) fun _=> some ({ ({ a0 with Until:=0 }) with Peer:=(({ a0 with Until:=0 }).Peer) })
def ref25_Apply (a0:Filter) (a1:RIB) (a2:Update):Option (RIB×Int):= joinP (τ:=Bool) (fun k1=> Option.bind (ref24_Valid a0) fun v2=> if (!v2) then k1 true else Option.bind (ref25_Valid a1) fun v3=> if (cond false true (!v3)) then k1 true else Option.bind (ref19_Valid a2) fun v4=> k1 (cond false true (!v4))
) fun v5=> if v5 then some ((⟨(⟨0,ByteArray.empty,0,0,[]⟩:Peer),false,[],0⟩:RIB),1) else if (!a1.Up) then some ((⟨(⟨0,ByteArray.empty,0,0,[]⟩:Peer),false,[],0⟩:RIB),31) else Option.bind (ref25_Copy a1) fun v6=> joinP (τ:=(List Held)) (fun k7=> forR (σ:=(List Held)) (fun v8=> k7 v8
) (fun next9 x10 i11 v8=> Option.bind (ref25_without v8 x10) fun v12=> next9 v12
) a2.Withdraw 0 v6.Held
) fun v13=> joinP (τ:=(List Held)) (fun k14=> forR (σ:=(List Held)) (fun v15=> k14 v15
) (fun next16 x17 i18 v15=> joinP (τ:=(List Held)) (fun k19=> Option.bind (ref23_CopyAttrs a2.Attrs) fun v20=> Option.bind (ref24_Check a0 a1.Peer (⟨x17,a1.Peer.ASN,v20⟩:Route)) fun v21=> Option.bind (ref25_without v15 x17) fun v22=> joinP (τ:=Int) (fun k23=> whileR (σ:=Int) (fun next24 v25=> joinP (τ:=Bool) (fun k26=> if (decide (v25 < (v22.length:Int))) then Option.bind (geti v22 v25) fun v27=> Option.bind (ref02_Cmp v27.Route.Prefix x17) fun v28=> k26 (cond true (decide (v28 < 0)) false) else k26 false
) fun v29=> if v29 then next24 (i64w (v25 + 1)) else k23 v25
) fuel 0
) fun v30=> Option.bind (chk (0 ≤ v30∧v30 ≤ (v22.length:Int)∧(v22.length:Int) ≤ (v22.length:Int))) fun _=> Option.bind (apnd (α:=Held) 208 [] (List.take (Int.toNat (v22.length:Int) - Int.toNat v30) (List.drop (Int.toNat v30) v22))) fun _=> Option.bind (chk (v30 ≤ v30∧v30 ≤ (v22.length:Int))) fun _=> Option.bind (part v22 0 v30) fun v31=> Option.bind (apnd (α:=Held) 208 v31 ([(⟨(⟨(⟨(((⟨x17,a1.Peer.ASN,v20⟩:Route).Prefix).Addr),((⟨x17,a1.Peer.ASN,v20⟩:Route).Prefix).Len⟩:Prefix),(⟨x17,a1.Peer.ASN,v20⟩:Route).From,((⟨x17,a1.Peer.ASN,v20⟩:Route).Attrs)⟩:Route),v21,false⟩:Held)]:List Held)) fun v32=> Option.bind (apnd (α:=Held) 208 v32 (List.take (Int.toNat (v22.length:Int) - Int.toNat v30) (List.drop (Int.toNat v30) v22))) fun v33=> k19 v33
) fun v34=> next16 v34
) a2.Announce 0 v13
) fun v35=> Option.bind (ref25_Count ({ v6 with Held:=v35 })) fun (v36,v37)=> joinP (τ:=Bool) (fun k38=> if (decide (v36 > a1.Peer.Max4)) then k38 true else if (cond false true (decide (v37 > a1.Peer.Max6))) then k38 true else k38 (cond false true (decide ((i64w (v36 + v37)) > 256)))
) fun v39=> if v39 then some ((⟨(⟨0,ByteArray.empty,0,0,[]⟩:Peer),false,[],0⟩:RIB),34) else Option.bind (ref25_settle ({ v6 with Held:=v35 })) fun v40=> some (v40,0)
def ref25_Raise (a0:RIB):Option (RIB×Int):= Option.bind (ref25_Valid a0) fun v1=> if (!v1) then some ((⟨(⟨0,ByteArray.empty,0,0,[]⟩:Peer),false,[],0⟩:RIB),1) else if a0.Up then some ((⟨(⟨0,ByteArray.empty,0,0,[]⟩:Peer),false,[],0⟩:RIB),31) else Option.bind (ref25_Copy a0) fun v2=> some ({ v2 with Up:=true },0)
def ref25_Down (a0:RIB) (a1:Int) (a2:Int):Option (RIB×Int):= joinP (τ:=Bool) (fun k1=> Option.bind (ref25_Valid a0) fun v2=> if (!v2) then k1 true else if (cond false true (decide (a1 < 0))) then k1 true else if (cond false true (decide (a1 > 1073741824))) then k1 true else if (cond false true (decide (a2 < 0))) then k1 true else k1 (cond false true (decide (a2 > 4095)))
) fun v3=> if v3 then some ((⟨(⟨0,ByteArray.empty,0,0,[]⟩:Peer),false,[],0⟩:RIB),1) else if (!a0.Up) then some ((⟨(⟨0,ByteArray.empty,0,0,[]⟩:Peer),false,[],0⟩:RIB),31) else Option.bind (ref25_Copy a0) fun v4=> joinP (τ:=(List Held)) (fun k5=> if (a2 == 0) then k5 [] else k5 v4.Held
) fun v6=> joinP (τ:=(List Held)) (fun k7=> whileR (σ:=Int×(List Held)) (fun next8 (v9,v10)=> if (decide (v9 < (v6.length:Int))) then Option.bind (geti v10 v9) fun v11=> Option.bind (seti v10 v9 ({ v11 with Stale:=true })) fun v12=> next8 ((i64w (v9 + 1)),v12) else k7 v10
) fuel (0,v6)
) fun v13=> Option.bind (ref25_settle (⟨v4.Peer,false,v13,(i64w (a1 + a2))⟩:RIB)) fun v14=> some (v14,0)
def ref25_Sweep (a0:RIB) (a1:Int):Option RIB:= Option.bind (ref25_Copy a0) fun v1=> Option.bind (ref25_Copy a0) fun v2=> joinP (τ:=(List Held)) (fun k3=> forR (σ:=(List Held)) (fun v4=> k3 v4
) (fun next5 x6 i7 v4=> joinP (τ:=Bool) (fun k8=> if (!x6.Stale) then k8 true else if (a1 == 0) then if (cond false true (cond true x6.Route.Prefix.Addr.V6 false)) then k8 true else if (a1 == 1) then k8 (cond false true (cond true (!x6.Route.Prefix.Addr.V6) false)) else k8 false else if (a1 == 1) then k8 (cond false true (cond true (!x6.Route.Prefix.Addr.V6) false)) else k8 false
) fun v9=> joinP (τ:=(List Held)) (fun k10=> if v9 then Option.bind (apnd (α:=Held) 208 v4 ([x6]:List Held)) fun v11=> k10 v11 else k10 v4
) fun v12=> next5 v12
) v2.Held 0 []
) fun v13=> Option.bind (ref25_settle ({ v1 with Held:=v13 })) fun v14=> some v14
def ref23_SameInts (a0:List Int) (a1:List Int):Option Bool:= if ((a0.length:Int) != (a1.length:Int)) then some false else joinP (τ:=Unit) (fun k1=> forR (σ:=Unit) (fun _=> k1 ()
) (fun next2 x3 i4 _=> Option.bind (geti a1 (i4:Int)) fun v5=> if (x3 != v5) then some false else next2 ()
) a0 0 ()
) fun _=> some true
def ref23_SameAttrs (a0:Attrs) (a1:Attrs):Option Bool:= joinP (τ:=Bool) (fun k1=> if (a0.Origin != a1.Origin) then k1 true else if (cond false true (!(Addr.eqd a0.Next a1.Next))) then k1 true else if (cond false true (a0.MED != a1.MED)) then k1 true else if (cond false true (a0.Pref != a1.Pref)) then k1 true else if (cond false true (a0.OTC != a1.OTC)) then k1 true else if (cond false true ((a0.Path.length:Int) != (a1.Path.length:Int))) then k1 true else if (cond false true ((a0.Communities.length:Int) != (a1.Communities.length:Int))) then k1 true else if (cond false true ((a0.Large.length:Int) != (a1.Large.length:Int))) then k1 true else k1 (cond false true ((a0.Other.length:Int) != (a1.Other.length:Int)))
) fun v2=> if v2 then some false else joinP (τ:=Unit) (fun k3=> forR (σ:=Unit) (fun _=> k3 ()
) (fun next4 x5 i6 _=> joinP (τ:=Bool) (fun k7=> Option.bind (geti a1.Path (i6:Int)) fun v8=> if (!(x5.Set == v8.Set)) then k7 true else Option.bind (geti a1.Path (i6:Int)) fun v9=> Option.bind (ref23_SameInts x5.ASNs v9.ASNs) fun v10=> k7 (cond false true (!v10))
) fun v11=> if v11 then some false else next4 ()
) a0.Path 0 ()
) fun _=> joinP (τ:=Unit) (fun k12=> forR (σ:=Unit) (fun _=> k12 ()
) (fun next13 x14 i15 _=> Option.bind (geti a1.Communities (i15:Int)) fun v16=> if (!(Community.eqd x14 v16)) then some false else next13 ()
) a0.Communities 0 ()
) fun _=> joinP (τ:=Unit) (fun k17=> forR (σ:=Unit) (fun _=> k17 ()
) (fun next18 x19 i20 _=> Option.bind (geti a1.Large (i20:Int)) fun v21=> if (!(Large.eqd x19 v21)) then some false else next18 ()
) a0.Large 0 ()
) fun _=> joinP (τ:=Unit) (fun k22=> forR (σ:=Unit) (fun _=> k22 ()
) (fun next23 x24 i25 _=> joinP (τ:=Bool) (fun k26=> Option.bind (geti a1.Other (i25:Int)) fun v27=> if (x24.Flags != v27.Flags) then k26 true else Option.bind (geti a1.Other (i25:Int)) fun v28=> if (cond false true (x24.Type_ != v28.Type_)) then k26 true else Option.bind (geti a1.Other (i25:Int)) fun v29=> k26 (cond false true (!((bs x24.Data).toList == (bs v29.Data).toList)))
) fun v30=> if v30 then some false else next23 ()
) a0.Other 0 ()
) fun _=> some true
def ref23_SameRoute (a0:Route) (a1:Route):Option Bool:= joinP (τ:=Bool) (fun k1=> if (Prefix.eqd a0.Prefix a1.Prefix) then if (cond true (a0.From == a1.From) false) then Option.bind (ref23_SameAttrs a0.Attrs a1.Attrs) fun v2=> k1 (cond true v2 false) else k1 false else k1 false
) fun v3=> some v3
def ref29_merged (a0:List Route) (a1:List Route):Option (List Prefix):= Option.bind (apnd (α:=Route) 192 [] a0) fun _=> Option.bind (apnd (α:=Route) 192 a0 a1) fun v1=> joinP (τ:=(List Prefix)) (fun k2=> forR (σ:=(List Prefix)) (fun v3=> k2 v3
) (fun next4 x5 i6 v3=> joinP (τ:=(List Prefix)) (fun k7=> joinP (τ:=Int) (fun k8=> whileR (σ:=Int) (fun next9 v10=> joinP (τ:=Bool) (fun k11=> if (decide (v10 < (v3.length:Int))) then Option.bind (geti v3 v10) fun v12=> Option.bind (ref02_Cmp v12 x5.Prefix) fun v13=> k11 (cond true (decide (v13 < 0)) false) else k11 false
) fun v14=> if v14 then next9 (i64w (v10 + 1)) else k8 v10
) fuel 0
) fun v15=> joinP (τ:=Bool) (fun k16=> if (v15 == (v3.length:Int)) then k16 true else Option.bind (geti v3 v15) fun v17=> k16 (cond false true (!(Prefix.eqd v17 x5.Prefix)))
) fun v18=> joinP (τ:=(List Prefix)) (fun k19=> if v18 then Option.bind (chk (0 ≤ v15∧v15 ≤ (v3.length:Int)∧(v3.length:Int) ≤ (v3.length:Int))) fun _=> Option.bind (apnd (α:=Prefix) 32 [] (List.take (Int.toNat (v3.length:Int) - Int.toNat v15) (List.drop (Int.toNat v15) v3))) fun _=> Option.bind (part v3 0 v15) fun v20=> Option.bind (apnd (α:=Prefix) 32 v20 ([x5.Prefix]:List Prefix)) fun v21=> Option.bind (apnd (α:=Prefix) 32 v21 (List.take (Int.toNat (v3.length:Int) - Int.toNat v15) (List.drop (Int.toNat v15) v3))) fun v22=> k19 v22 else k19 v3
) fun v23=> k7 v23
) fun v24=> next4 v24
) v1 0 []
) fun v25=> some v25
def ref29_find (a0:List Route) (a1:Prefix):Option (Route×Bool):= joinP (τ:=Unit) (fun k1=> forR (σ:=Unit) (fun _=> k1 ()
) (fun next2 x3 i4 _=> if (Prefix.eqd x3.Prefix a1) then some (x3,true) else next2 ()
) a0 0 ()
) fun _=> some ((⟨(⟨(⟨false,(0:UInt64),(0:UInt64)⟩:Addr),0⟩:Prefix),0,(⟨0,[],(⟨false,(0:UInt64),(0:UInt64)⟩:Addr),0,0,0,[],[],[]⟩:Attrs)⟩:Route),false)
def ref23_CopyRoutes (a0:List Route):Option (List Route):= joinP (τ:=(List Route)) (fun k1=> forR (σ:=(List Route)) (fun v2=> k1 v2
) (fun next3 x4 i5 v2=> Option.bind (ref23_CopyAttrs x4.Attrs) fun v6=> Option.bind (apnd (α:=Route) 192 v2 ([{ x4 with Attrs:=v6 }]:List Route)) fun v7=> next3 v7
) a0 0 []
) fun v8=> some v8
def ref29_Diff (a0:Int) (a1:List Route) (a2:List Route):Option (List Change):= Option.bind (ref29_merged a1 a2) fun v1=> joinP (τ:=(List Change)) (fun k2=> forR (σ:=(List Change)) (fun v3=> k2 v3
) (fun next4 x5 i6 v3=> joinP (τ:=(List Change)) (fun k7=> Option.bind (ref29_find a1 x5) fun (v8,v9)=> Option.bind (ref29_find a2 x5) fun (v10,v11)=> joinP (τ:=Bool) (fun k12=> if (v9 == v11) then Option.bind (ref23_SameRoute v8 v10) fun v13=> k12 (cond true v13 false) else k12 false
) fun v14=> if v14 then k7 v3 else joinP (τ:=Change) (fun k15=> if v11 then Option.bind (ref23_CopyRoutes ([v10]:List Route)) fun v16=> Option.bind (geti v16 0) fun v17=> k15 (⟨a0,x5,v11,v17⟩:Change) else k15 (⟨a0,x5,v11,(⟨(⟨(⟨false,(0:UInt64),(0:UInt64)⟩:Addr),0⟩:Prefix),0,(⟨0,[],(⟨false,(0:UInt64),(0:UInt64)⟩:Addr),0,0,0,[],[],[]⟩:Attrs)⟩:Route)⟩:Change)
) fun v18=> Option.bind (apnd (α:=Change) 240 v3 ([v18]:List Change)) fun v19=> k7 v19
) fun v20=> next4 v20
) v1 0 []
) fun v21=> some v21
def ref29_Apply (a0:Cache) (a1:Record):Option (Cache×(List Change)×Int):= Option.bind (ref28_Copy a0.Server) fun v1=> Option.bind (ref28_At v1 a1.Member) fun v2=> if (decide (v2 < 0)) then some ((⟨(⟨(⟨0,[],0,0,0,0,0,0,[],[],[],0,(⟨[],[]⟩:Registry),[]⟩:Filter),[],[]⟩:Server),[]⟩:Cache),[],32) else joinP (τ:=Int×(List Policy)×(List RIB)) (fun k3=> if (a1.Kind == 1) then Option.bind (geti v1.RIBs v2) fun v4=> Option.bind (ref25_Apply v1.Filter v4 a1.Update) fun (v5,v6)=> Option.bind (geti v1.RIBs v2) fun v7=> Option.bind (seti v1.RIBs v2 v5) fun v8=> k3 (v6,v1.Policies,v8) else joinP (τ:=Int×(List Policy)×(List RIB)) (fun k9=> if (a1.Kind == 2) then Option.bind (geti v1.RIBs v2) fun v10=> Option.bind (ref25_Raise v10) fun (v11,v12)=> Option.bind (geti v1.RIBs v2) fun v13=> Option.bind (seti v1.RIBs v2 v11) fun v14=> k9 (v12,v1.Policies,v14) else joinP (τ:=Int×(List Policy)×(List RIB)) (fun k15=> if (a1.Kind == 3) then Option.bind (geti v1.RIBs v2) fun v16=> Option.bind (ref25_Down v16 a1.Tick a1.Grace) fun (v17,v18)=> Option.bind (geti v1.RIBs v2) fun v19=> Option.bind (seti v1.RIBs v2 v17) fun v20=> k15 (v18,v1.Policies,v20) else joinP (τ:=Int×(List Policy)×(List RIB)) (fun k21=> if (a1.Kind == 4) then Option.bind (ref26_Check a1.Policy) fun v22=> joinP (τ:=Bool) (fun k23=> if (v22 == 0) then k23 (cond true (a1.Policy.ASN != a1.Member) false) else k23 false
) fun v24=> joinP (τ:=Int) (fun k25=> if v24 then k25 33 else k25 v22
) fun v26=> Option.bind (ref26_Copy a1.Policy) fun v27=> Option.bind (geti v1.Policies v2) fun v28=> Option.bind (seti v1.Policies v2 v27) fun v29=> k21 (v26,v29,v1.RIBs) else joinP (τ:=Int×(List RIB)) (fun k30=> if (a1.Kind == 5) then Option.bind (geti v1.RIBs v2) fun v31=> Option.bind (ref25_Sweep v31 a1.Grace) fun v32=> Option.bind (geti v1.RIBs v2) fun v33=> Option.bind (seti v1.RIBs v2 v32) fun v34=> k30 (0,v34) else k30 (1,v1.RIBs)
) fun (v35,v36)=> k21 (v35,v1.Policies,v36)
) fun (v37,v38,v39)=> k15 (v37,v38,v39)
) fun (v40,v41,v42)=> k9 (v40,v41,v42)
) fun (v43,v44,v45)=> k3 (v43,v44,v45)
) fun (v46,v47,v48)=> if (v46 != 0) then some ((⟨(⟨(⟨0,[],0,0,0,0,0,0,[],[],[],0,(⟨[],[]⟩:Registry),[]⟩:Filter),[],[]⟩:Server),[]⟩:Cache),[],v46) else Option.bind (ref29_fill (⟨v1.Filter,v47,v48⟩:Server)) fun v49=> joinP (τ:=(List Change)) (fun k50=> forR (σ:=(List Change)) (fun v51=> k50 v51
) (fun next52 x53 i54 v51=> Option.bind (geti a0.Offers (i54:Int)) fun v55=> Option.bind (geti v49.Offers (i54:Int)) fun v56=> Option.bind (ref29_Diff x53.ASN v55 v56) fun v57=> Option.bind (apnd (α:=Change) 240 v51 v57) fun v58=> next52 v58
) v47 0 []
) fun v59=> some (v49,v59,0)
def mill_Deck_Cache (a0:Deck):Option (Cache×(List Record)×Server×Deck):= Option.bind (mill_Deck_Start a0) fun (v1,v2)=> Option.bind (ref29_Begin v1) fun (v3,v4)=> Option.bind (mill_Deck_Next v2 24) fun (v5,v6)=> joinP (τ:=Deck×Cache×(List Record)) (fun k7=> whileR (σ:=Int×Deck×Cache×(List Record)) (fun next8 (v9,v10,v11,v12)=> joinP (τ:=Bool×Deck) (fun k13=> if (decide (v9 > 0)) then Option.bind (mill_Deck_Left v10) fun (v14,v15)=> k13 ((cond true v14 false),v15) else k13 (false,v10)
) fun (v16,v17)=> if v16 then Option.bind (mill_Deck_Record v17 v11.Server) fun (v18,v19)=> Option.bind (ref29_Apply v11 v18) fun (v20,v21,v22)=> joinP (τ:=Cache×(List Record)) (fun k23=> if (v22 == 0) then Option.bind (apnd (α:=Record) 304 v12 ([v18]:List Record)) fun v24=> k23 (v20,v24) else k23 (v11,v12)
) fun (v25,v26)=> next8 ((i64w (v9 - 1)),v19,v25,v26) else k7 (v17,v11,v12)
) fuel ((i64w (4 + v5)),v6,v3,[])
) fun (v27,v28,v29)=> some (v28,v29,v1,v27)
def mill_Deck_Server (a0:Deck):Option (Server×Deck):= Option.bind (mill_Deck_Cache a0) fun (v1,v2,v3,v4)=> some (v1.Server,v4)
def slices_Index_api_Community_api_Community (a0:List Community) (a1:Community):Option Int:= joinP (τ:=Unit) (fun k1=> forR (σ:=Unit) (fun _=> k1 ()
) (fun next2 x3 i4 _=> if (Community.eqd a1 x3) then some (i4:Int) else next2 ()
) a0 0 ()
) fun _=> some (-1)
def slices_Contains_api_Community_api_Community (a0:List Community) (a1:Community):Option Bool:= Option.bind (slices_Index_api_Community_api_Community a0 a1) fun v1=> some (decide (v1 ≥ 0))
def community_Has (a0:List Community) (a1:Community):Option Bool:= Option.bind (slices_Contains_api_Community_api_Community a0 a1) fun v1=> some v1
def filter_Hole (a0:Attrs):Option Bool:= Option.bind (community_Has a0.Communities (⟨65535,666⟩:Community)) fun v1=> some v1
def clone_List_int (a0:List Int):Option (List Int):= Option.bind (apnd (α:=Int) 8 [] a0) fun _=> some a0
def clone_List_byte (a0:List UInt8):Option (List UInt8):= Option.bind (apnd (α:=UInt8) 1 [] a0) fun _=> some a0
def clone_List_api_Community (a0:List Community):Option (List Community):= Option.bind (apnd (α:=Community) 16 [] a0) fun _=> some a0
def clone_List_api_Large (a0:List Large):Option (List Large):= Option.bind (apnd (α:=Large) 24 [] a0) fun _=> some a0
def clone_Attrs (a0:Attrs):Option Attrs:= joinP (τ:=(List Segment)) (fun k1=> forR (σ:=(List Segment)) (fun v2=> k1 v2
) (fun next3 x4 i5 v2=> Option.bind (clone_List_int x4.ASNs) fun v6=> Option.bind (apnd (α:=Segment) 32 v2 ([(⟨x4.Set,v6⟩:Segment)]:List Segment)) fun v7=> next3 v7
) a0.Path 0 []
) fun v8=> joinP (τ:=(List Unknown)) (fun k9=> forR (σ:=(List Unknown)) (fun v10=> k9 v10
) (fun next11 x12 i13 v10=> Option.bind (clone_List_byte x12.Data) fun v14=> Option.bind (apnd (α:=Unknown) 40 v10 ([{ x12 with Data:=v14 }]:List Unknown)) fun v15=> next11 v15
) a0.Other 0 []
) fun v16=> Option.bind (clone_List_api_Community a0.Communities) fun v17=> Option.bind (clone_List_api_Large a0.Large) fun v18=> some ({ a0 with Path:=v8,Communities:=v17,Large:=v18,Other:=v16 })
def clone_Route (a0:Route):Option Route:= Option.bind (clone_Attrs a0.Attrs) fun v1=> some (⟨(⟨((({ a0 with Attrs:=v1 }).Prefix).Addr),(({ a0 with Attrs:=v1 }).Prefix).Len⟩:Prefix),({ a0 with Attrs:=v1 }).From,(({ a0 with Attrs:=v1 }).Attrs)⟩:Route)
def blackhole_Without (a0:List Route):Option (List Route):= joinP (τ:=(List Route)) (fun k1=> forR (σ:=(List Route)) (fun v2=> k1 v2
) (fun next3 x4 i5 v2=> Option.bind (filter_Hole x4.Attrs) fun v6=> joinP (τ:=(List Route)) (fun k7=> if (!v6) then Option.bind (clone_Route x4) fun v8=> Option.bind (apnd (α:=Route) 192 v2 ([v8]:List Route)) fun v9=> k7 v9 else k7 v2
) fun v10=> next3 v10
) a0 0 []
) fun v11=> some v11
def mill_Deck_Addr (a0:Deck):Option (Addr×Deck):= Option.bind (mill_Deck_Next a0 8) fun (v1,v2)=> Option.bind (mill_block v1) fun v3=> Option.bind (mill_Deck_Next v2 4) fun (v4,v5)=> some (({ v3.Addr with Lo:=(toU64 ((v3.Addr.Lo.toNat:Int) + ((toU64 v4).toNat:Int))) }),v5)
def prefix_width (a0:Addr):Option Int:= if a0.V6 then some 128 else some 32
def prefix_masks (a0:Int):Option (UInt64×UInt64):= if (decide (a0 > 64)) then some ((toU64 (((toU64 (1 * (2 ^ (min (Int.toNat ((toU64 (i64w (a0 - 64))).toNat:Int)) 64)))).toNat:Int) - 1)),(18446744073709551615:UInt64)) else some ((0:UInt64),(toU64 (((toU64 (1 * (2 ^ (min (Int.toNat ((toU64 a0).toNat:Int)) 64)))).toNat:Int) - 1)))
def prefix_first (a0:Addr) (a1:Int):Option Addr:= Option.bind (prefix_width a0) fun v1=> Option.bind (prefix_masks (i64w (v1 - a1))) fun (v2,v3)=> some (⟨a0.V6,(toU64 ((BitVec.ofInt 64 (a0.Hi.toNat:Int) &&& ~~~BitVec.ofInt 64 (v2.toNat:Int)).toNat:Int)),(toU64 ((BitVec.ofInt 64 (a0.Lo.toNat:Int) &&& ~~~BitVec.ofInt 64 (v3.toNat:Int)).toNat:Int))⟩:Addr)
def prefix_Contains (a0:Prefix) (a1:Addr):Option Bool:= joinP (τ:=Bool) (fun k1=> if (a0.Addr.V6 == a1.V6) then if (cond true (decide (a0.Len ≥ 0)) false) then Option.bind (prefix_width a1) fun v2=> if (cond true (decide (a0.Len ≤ v2)) false) then Option.bind (prefix_first a1 a0.Len) fun v3=> k1 (cond true (Addr.eqd v3 a0.Addr) false) else k1 false else k1 false else k1 false
) fun v4=> some v4
def blackhole_Match (a0:List Route) (a1:Addr):Option (Route×Bool):= joinP (τ:=Int) (fun k1=> forR (σ:=Int) (fun v2=> k1 v2
) (fun next3 x4 i5 v2=> joinP (τ:=Bool) (fun k6=> Option.bind (prefix_Contains x4.Prefix a1) fun v7=> if v7 then if (decide (v2 < 0)) then k6 true else Option.bind (geti a0 v2) fun v8=> k6 (cond true (cond false true (decide (x4.Prefix.Len > v8.Prefix.Len))) false) else k6 false
) fun v9=> joinP (τ:=Int) (fun k10=> if v9 then k10 (i5:Int) else k10 v2
) fun v11=> next3 v11
) a0 0 (-1)
) fun v12=> if (decide (v12 < 0)) then some ((⟨(⟨(⟨false,(0:UInt64),(0:UInt64)⟩:Addr),0⟩:Prefix),0,(⟨0,[],(⟨false,(0:UInt64),(0:UInt64)⟩:Addr),0,0,0,[],[],[]⟩:Attrs)⟩:Route),false) else Option.bind (geti a0 v12) fun v13=> Option.bind (clone_Route v13) fun v14=> some (v14,true)
def blackhole_Drops (a0:List Route) (a1:Addr):Option Bool:= Option.bind (blackhole_Match a0 a1) fun (v1,v2)=> joinP (τ:=Bool) (fun k3=> if v2 then Option.bind (filter_Hole v1.Attrs) fun v4=> k3 (cond true v4 false) else k3 false
) fun v5=> some v5
def law35_awake:Option Bool:= joinP (τ:=Bool) (fun k1=> Option.bind (blackhole_Drops ([(⟨(⟨(⟨false,(0:UInt64),(167772160:UInt64)⟩:Addr),16⟩:Prefix),1,(⟨0,[],(⟨false,(0:UInt64),(0:UInt64)⟩:Addr),0,0,0,[],[],[]⟩:Attrs)⟩:Route),(⟨(⟨(⟨false,(0:UInt64),(167772161:UInt64)⟩:Addr),32⟩:Prefix),1,(⟨0,[],(⟨false,(0:UInt64),(0:UInt64)⟩:Addr),0,0,0,([(⟨65535,666⟩:Community)]:List Community),[],[]⟩:Attrs)⟩:Route)]:List Route) (⟨false,(0:UInt64),(167772161:UInt64)⟩:Addr)) fun v2=> if v2 then Option.bind (blackhole_Drops ([(⟨(⟨(⟨false,(0:UInt64),(167772160:UInt64)⟩:Addr),16⟩:Prefix),1,(⟨0,[],(⟨false,(0:UInt64),(0:UInt64)⟩:Addr),0,0,0,[],[],[]⟩:Attrs)⟩:Route),(⟨(⟨(⟨false,(0:UInt64),(167772161:UInt64)⟩:Addr),32⟩:Prefix),1,(⟨0,[],(⟨false,(0:UInt64),(0:UInt64)⟩:Addr),0,0,0,([(⟨65535,666⟩:Community)]:List Community),[],[]⟩:Attrs)⟩:Route)]:List Route) (⟨false,(0:UInt64),(167772162:UInt64)⟩:Addr)) fun v3=> if (cond true (!v3) false) then Option.bind (blackhole_Without ([(⟨(⟨(⟨false,(0:UInt64),(167772160:UInt64)⟩:Addr),16⟩:Prefix),1,(⟨0,[],(⟨false,(0:UInt64),(0:UInt64)⟩:Addr),0,0,0,[],[],[]⟩:Attrs)⟩:Route),(⟨(⟨(⟨false,(0:UInt64),(167772161:UInt64)⟩:Addr),32⟩:Prefix),1,(⟨0,[],(⟨false,(0:UInt64),(0:UInt64)⟩:Addr),0,0,0,([(⟨65535,666⟩:Community)]:List Community),[],[]⟩:Attrs)⟩:Route)]:List Route)) fun v4=> k1 (cond true ((v4.length:Int) == 1) false) else k1 false else k1 false
) fun v5=> some v5
def law35_BlackholeOthers (a0:List Int) (a1:Int):Option Bool:= Option.bind (mill_New a0) fun v1=> Option.bind (mill_Deck_Server v1) fun (v2,v3)=> Option.bind (mill_Mod a1 (v2.Policies.length:Int)) fun v4=> Option.bind (geti v2.Policies v4) fun v5=> Option.bind (ref28_All v2 v5.ASN) fun v6=> Option.bind (blackhole_Without v6) fun v7=> joinP (τ:=Unit) (fun k8=> whileR (σ:=Int×Deck) (fun next9 (v10,v11)=> if (decide (v10 < 8)) then joinP (τ:=Deck) (fun k12=> Option.bind (mill_Deck_Addr v11) fun (v13,v14)=> joinP (τ:=Bool) (fun k15=> forR (σ:=Bool) (fun v16=> k15 v16
) (fun next17 x18 i19 v16=> joinP (τ:=Bool) (fun k20=> if v16 then k20 true else Option.bind (ref24_Hole x18.Attrs) fun v21=> if v21 then Option.bind (ref02_Contains x18.Prefix v13) fun v22=> k20 (cond false true (cond true v22 false)) else k20 false
) fun v23=> next17 v23
) v6 0 false
) fun v24=> if v24 then k12 v14 else Option.bind (blackhole_Match v6 v13) fun (v25,v26)=> Option.bind (blackhole_Match v7 v13) fun (v27,v28)=> joinP (τ:=Bool) (fun k29=> if (!(v26 == v28)) then k29 true else Option.bind (ref23_SameRoute v25 v27) fun v30=> if (cond false true (!v30)) then k29 true else Option.bind (blackhole_Drops v6 v13) fun v31=> k29 (cond false true v31)
) fun v32=> if v32 then some false else k12 v14
) fun v33=> next9 ((i64w (v10 + 1)),v33) else k8 ()
) fuel (0,v3)
) fun _=> Option.bind (law35_awake) fun v34=> some v34
def blackhole_Requested (a0:Server) (a1:Addr):Option (List Int):= joinP (τ:=(List Int)) (fun k1=> forR (σ:=(List Int)) (fun v2=> k1 v2
) (fun next3 x4 i5 v2=> joinP (τ:=(List Int)) (fun k6=> joinP (τ:=(List Int)) (fun k7=> forR (σ:=Unit) (fun _=> k7 v2
) (fun next8 x9 i10 _=> joinP (τ:=Bool) (fun k11=> if (x9.Reason == 0) then Option.bind (filter_Hole x9.Route.Attrs) fun v12=> if (cond true v12 false) then Option.bind (prefix_Contains x9.Route.Prefix a1) fun v13=> k11 (cond true v13 false) else k11 false else k11 false
) fun v14=> if v14 then Option.bind (apnd (α:=Int) 8 v2 ([x4.Peer.ASN]:List Int)) fun v15=> k7 v15 else next8 ()
) x4.Held 0 ()
) fun v16=> k6 v16
) fun v17=> next3 v17
) a0.RIBs 0 []
) fun v18=> some v18
def law35_BlackholeHarmless (a0:List Int) (a1:Int):Option Bool:= Option.bind (mill_New a0) fun v1=> Option.bind (mill_Deck_Server v1) fun (v2,v3)=> Option.bind (mill_Mod a1 (v2.Policies.length:Int)) fun v4=> Option.bind (geti v2.Policies v4) fun v5=> Option.bind (ref28_All v2 v5.ASN) fun v6=> joinP (τ:=Unit) (fun k7=> whileR (σ:=Int×Deck) (fun next8 (v9,v10)=> if (decide (v9 < 8)) then joinP (τ:=Deck) (fun k11=> Option.bind (mill_Deck_Addr v10) fun (v12,v13)=> Option.bind (blackhole_Drops v6 v12) fun v14=> if (!v14) then k11 v13 else Option.bind (blackhole_Match v6 v12) fun (v15,v16)=> joinP (τ:=Bool) (fun k17=> if (!v16) then k17 true else if (cond false true (!v5.Holes)) then k17 true else if (cond false true (v15.From == v5.ASN)) then k17 true else Option.bind (ref02_Contains v15.Prefix v12) fun v18=> k17 (cond false true (!v18))
) fun v19=> if v19 then some false else Option.bind (blackhole_Requested v2 v12) fun v20=> joinP (τ:=Bool) (fun k21=> forR (σ:=Bool) (fun v22=> k21 v22
) (fun next23 x24 i25 v22=> joinP (τ:=Bool) (fun k26=> if v22 then k26 true else k26 (cond false true (x24 == v15.From))
) fun v27=> next23 v27
) v20 0 false
) fun v28=> Option.bind (ref28_At v2 v15.From) fun v29=> Option.bind (geti v2.RIBs v29) fun v30=> Option.bind (ref24_Widen v2.Filter.Registry.Objects) fun v31=> joinP (τ:=Bool) (fun k32=> forR (σ:=Bool) (fun v33=> k32 v33
) (fun next34 x35 i36 v33=> joinP (τ:=Bool) (fun k37=> if v33 then k37 true else Option.bind (ref02_Covers x35.Prefix v15.Prefix) fun v38=> k37 (cond false true v38)
) fun v39=> next34 v39
) v31 0 false
) fun v40=> joinP (τ:=Bool) (fun k41=> if (!v28) then k41 true else if (cond false true (!v40)) then k41 true else Option.bind (ref20_Valid (⟨v2.Filter.Registry.Sets,v31⟩:Registry)) fun v42=> if (cond false true (!v42)) then k41 true else k41 (cond false true (v30.Peer.ASN != v15.From))
) fun v43=> if v43 then some false else k11 v13
) fun v44=> next8 ((i64w (v9 + 1)),v44) else k7 ()
) fuel (0,v3)
) fun _=> Option.bind (law35_awake) fun v45=> some v45
end Go.AX.Q35
end
section
namespace Go.AX.Q35
open Go Go.AX
instance (a0 : List Int) : Tt (mill_New a0) := by unfold mill_New; exact Tt.auto
instance (a0 : Int) : Tt (mill_block a0) := by unfold mill_block; exact Tt.auto
instance (a0 : Int) (a1 : Bool) : Tt (mill_Port a0 a1) := by unfold mill_Port; exact Tt.auto
instance (a0 : Int) : Tt (ref26_asn a0) := by unfold ref26_asn; exact Tt.auto
instance (a0 : Addr) : Tt (ref01_Valid a0) := by unfold ref01_Valid; exact Tt.auto
instance (a0 : Addr) : Tt (ref02_width a0) := by unfold ref02_width; exact Tt.auto
instance (a0 : List UInt8) : Tt (ref01_FromBytes a0) := by unfold ref01_FromBytes; exact Tt.auto
instance (a0 : Bool) : Tt (ref24_width a0) := by unfold ref24_width; exact Tt.auto
instance (a0 : Int) : Tt (ref24_asn a0) := by unfold ref24_asn; exact Tt.auto
instance (a0 : Addr) (a1 : Addr) : Tt (ref01_Cmp a0 a1) := by unfold ref01_Cmp; exact Tt.auto
instance (a0 : Prefix) (a1 : Prefix) : Tt (ref02_Cmp a0 a1) := by unfold ref02_Cmp; exact Tt.auto
instance (a0 : Int) : Tt (ref18_flags a0) := by unfold ref18_flags; exact Tt.auto
instance (a0 : Int) : Tt (ref18_unknown a0) := by unfold ref18_unknown; exact Tt.auto
instance (a0 : Community) : Tt (ref17_right a0) := by unfold ref17_right; exact Tt.auto
instance (a0 : Community) (a1 : Community) : Tt (ref17_less a0 a1) := by unfold ref17_less; exact Tt.auto
instance (a0 : Large) : Tt (ref17_rightLarge a0) := by unfold ref17_rightLarge; exact Tt.auto
instance (a0 : Large) (a1 : Large) : Tt (ref17_lessLarge a0 a1) := by unfold ref17_lessLarge; exact Tt.auto
instance (a0 : Peer) : Tt (ref24_ValidPeer a0) := by unfold ref24_ValidPeer; exact Tt.auto
instance (a0 : Server) (a1 : Int) : Tt (ref28_At a0 a1) := by unfold ref28_At; exact Tt.auto
instance (a0 : RIB) (a1 : Prefix) : Tt (ref25_Get a0 a1) := by unfold ref25_Get; exact Tt.auto
instance (a0 : RIB) (a1 : Prefix) : Tt (ref25_Accepted a0 a1) := by unfold ref25_Accepted; exact Tt.auto
instance (a0 : List Community) (a1 : Community) : Tt (ref17_Has a0 a1) := by unfold ref17_Has; exact Tt.auto
instance (a0 : Attrs) : Tt (ref24_Hole a0) := by unfold ref24_Hole; exact Tt.auto
instance (a0 : List Large) (a1 : Large) : Tt (ref17_HasLarge a0 a1) := by unfold ref17_HasLarge; exact Tt.auto
instance (a0 : Int) (a1 : Attrs) (a2 : Int) (a3 : Int) (a4 : Int) (a5 : Int) : Tt (ref26_says a0 a1 a2 a3 a4 a5) := by unfold ref26_says; exact Tt.auto
instance (a0 : List Segment) : Tt (ref15_Length a0) := by unfold ref15_Length; exact Tt.auto
instance (a0 : Int) : Tt (ref23_Inverse a0) := by unfold ref23_Inverse; exact Tt.auto
instance (a0 : Int) (a1 : Int) : Tt (ref23_bad a0 a1) := by unfold ref23_bad; exact Tt.auto
instance (a0 : Int) (a1 : Int) (a2 : Attrs) : Tt (ref23_Send a0 a1 a2) := by unfold ref23_Send; exact Tt.auto
instance (a0 : Policy) (a1 : Int) : Tt (ref27_Value a0 a1) := by unfold ref27_Value; exact Tt.auto
instance (a0 : Policy) (a1 : Route) : Tt (ref27_key a0 a1) := by unfold ref27_key; exact Tt.auto
instance (a0 : Deck) : Tt (mill_Deck_Left a0) := by unfold mill_Deck_Left; exact Tt.auto
instance  : Tt (ref18_Empty) := by unfold ref18_Empty; exact Tt.auto
instance (a0 : List Community) (a1 : List Community) : Tt (ref17_Same a0 a1) := by unfold ref17_Same; exact Tt.auto
instance (a0 : List Large) (a1 : List Large) : Tt (ref17_SameLarge a0 a1) := by unfold ref17_SameLarge; exact Tt.auto
instance (a0 : List Unknown) (a1 : List Unknown) : Tt (ref18_SameList a0 a1) := by unfold ref18_SameList; exact Tt.auto
instance (a0 : List Int) (a1 : Int) : Tt (ref24_has a0 a1) := by unfold ref24_has; exact Tt.auto
instance (a0 : Int) (a1 : Int) (a2 : Attrs) : Tt (ref23_Receive a0 a1 a2) := by unfold ref23_Receive; exact Tt.auto
instance (a0 : Filter) (a1 : Route) : Tt (ref24_long a0 a1) := by unfold ref24_long; exact Tt.auto
instance (a0 : Registry) (a1 : ByteArray) : Tt (ref20_find a0 a1) := by unfold ref20_find; exact Tt.auto
instance (a0 : List Int) (a1 : Int) : Tt (ref20_has a0 a1) := by unfold ref20_has; exact Tt.auto
instance (a0 : Object) (a1 : Object) : Tt (ref20_Cmp a0 a1) := by unfold ref20_Cmp; exact Tt.auto
instance (a0 : RIB) : Tt (ref25_settle a0) := by unfold ref25_settle; exact Tt.auto
instance (a0 : List Int) (a1 : List Int) : Tt (ref23_SameInts a0 a1) := by unfold ref23_SameInts; exact Tt.auto
instance (a0 : Attrs) (a1 : Attrs) : Tt (ref23_SameAttrs a0 a1) := by unfold ref23_SameAttrs; exact Tt.auto
instance (a0 : Route) (a1 : Route) : Tt (ref23_SameRoute a0 a1) := by unfold ref23_SameRoute; exact Tt.auto
instance (a0 : List Route) (a1 : Prefix) : Tt (ref29_find a0 a1) := by unfold ref29_find; exact Tt.auto
instance (a0 : List Community) (a1 : Community) : Tt (slices_Index_api_Community_api_Community a0 a1) := by unfold slices_Index_api_Community_api_Community; exact Tt.auto
instance (a0 : List Community) (a1 : Community) : Tt (slices_Contains_api_Community_api_Community a0 a1) := by unfold slices_Contains_api_Community_api_Community; exact Tt.auto
instance (a0 : List Community) (a1 : Community) : Tt (community_Has a0 a1) := by unfold community_Has; exact Tt.auto
instance (a0 : Attrs) : Tt (filter_Hole a0) := by unfold filter_Hole; exact Tt.auto
instance (a0 : Addr) : Tt (prefix_width a0) := by unfold prefix_width; exact Tt.auto
instance (a0 : Int) : Tt (prefix_masks a0) := by unfold prefix_masks; exact Tt.auto
instance (a0 : Addr) (a1 : Int) : Tt (prefix_first a0 a1) := by unfold prefix_first; exact Tt.auto
instance (a0 : Prefix) (a1 : Addr) : Tt (prefix_Contains a0 a1) := by unfold prefix_Contains; exact Tt.auto
end Go.AX.Q35
end
section
namespace Go.AX.Q35
open Go Go.AX
theorem andnot_low {a k : Nat} (ha : a < 2 ^ 64) (hk : k ≤ 64) : (BitVec.ofInt 64 (a : Int) &&& ~~~BitVec.ofInt 64 ((2 ^ k - 1 : Nat) : Int)).toNat = a / 2 ^ k * 2 ^ k := by
  apply Nat.eq_of_testBit_eq
  intro i
  rw [BitVec.ofInt_natCast, BitVec.ofInt_natCast, BitVec.testBit_toNat]
  simp only [BitVec.getLsbD_and, BitVec.getLsbD_not, BitVec.getLsbD_ofNat, Nat.testBit_mul_two_pow, Nat.testBit_div_two_pow, Nat.testBit_two_pow_sub_one]
  by_cases hi : i < 64
  · by_cases hki : k ≤ i
    · simp [hi, hki, Nat.not_lt.2 hki]
    · simp [hi, hki, Nat.lt_of_not_le hki]
  · have : a.testBit i = false := Nat.testBit_lt_two_pow (Nat.lt_of_lt_of_le ha (Nat.pow_le_pow_right (by omega) (by omega)))
    by_cases hki : k ≤ i
    · simp [hi, hki, this]
    · omega
theorem toU64_nat (n : Nat) : toU64 (n : Int) = UInt64.ofNat n := by
  unfold toU64
  apply UInt64.toNat_inj.1
  simp only [UInt64.toNat_ofNat']
  omega
theorem ofNat_eq {x : UInt64} {n : Nat} (h : n = x.toNat) : UInt64.ofNat n = x := by
  subst h; exact UInt64.ofNat_toNat
def Addr.n (a : Addr) : Nat := a.Hi.toNat * 2 ^ 64 + a.Lo.toNat
def Addr.w (a : Addr) : Nat := if a.V6 then 128 else 32
def Addr.ok (a : Addr) : Bool := cond a.V6 true (cond ((a.Hi.toNat : Int) == 0) (decide ((a.Lo.toNat : Int) < 4294967296)) false)
def mkA (v6 : Bool) (n : Nat) : Addr := ⟨v6, UInt64.ofNat (n / 2 ^ 64), UInt64.ofNat n⟩
def Addr.cut (a : Addr) (n : Nat) : Addr := mkA a.V6 (a.n / 2 ^ (a.w - n) * 2 ^ (a.w - n))
theorem mkA_v6 (b : Bool) (m : Nat) : (mkA b m).V6 = b := by unfold mkA; rfl
theorem cut_v6 (a : Addr) (n : Nat) : (a.cut n).V6 = a.V6 := mkA_v6 _ _
theorem n_hi (h l k : Nat) (hl : l < 2 ^ 64) (hk : k ≤ 64) : (h * 2 ^ 64 + l) / 2 ^ k * 2 ^ k = h * 2 ^ 64 + l / 2 ^ k * 2 ^ k := by
  have : (2 : Nat) ^ 64 = 2 ^ (64 - k) * 2 ^ k := by rw [← Nat.pow_add]; congr 1; omega
  rw [this, ← Nat.mul_assoc, Nat.add_comm, Nat.add_mul_div_right _ _ (Nat.two_pow_pos k), Nat.add_mul, Nat.add_comm]
theorem mask_a : toU64 (((0 : Nat) : Int) - 1) = UInt64.ofNat 18446744073709551615 := by
      unfold toU64
      congr 1
theorem mask_b {k : Nat} (hk : k < 64) : toU64 (((UInt64.ofNat (2 ^ k)).toNat : Int) - 1) = UInt64.ofNat (2 ^ k - 1) := by
    have h3 : (2 : Nat) ^ k < 2 ^ 64 := Nat.pow_lt_pow_right (by omega) (by omega)
    have h4 : 0 < (2 : Nat) ^ k := Nat.two_pow_pos k
    have h5 : (UInt64.ofNat (2 ^ k)).toNat = 2 ^ k := by simp only [UInt64.toNat_ofNat']; omega
    rw [h5]
    have h6 : ((2 ^ k : Nat) : Int) - 1 = ((2 ^ k - 1 : Nat) : Int) := by omega
    rw [h6, toU64_nat]
theorem mask_c : toU64 (((UInt64.ofNat (2 ^ 64)).toNat : Int) - 1) = UInt64.ofNat (2 ^ 64 - 1) := by
    have h5 : (UInt64.ofNat (2 ^ 64)).toNat = 0 := by simp only [UInt64.toNat_ofNat', Nat.mod_self]
    rw [h5]
    exact mask_a
theorem mask_d {k : Nat} (hk : k ≤ 64) : toU64 (1 * (2 ^ (min (Int.toNat ((toU64 (k : Int)).toNat : Int)) 64))) = UInt64.ofNat (2 ^ k) := by
  rw [toU64_nat]
  have h1 : (UInt64.ofNat k).toNat = k := by simp; omega
  rw [h1, Int.toNat_natCast, Nat.min_eq_left hk, Int.one_mul]
  have h2 : ((2 : Int) ^ k) = ((2 ^ k : Nat) : Int) := by simp
  rw [h2, toU64_nat]
theorem mask_low {k : Nat} (hk : k ≤ 64) : toU64 (((toU64 (1 * (2 ^ (min (Int.toNat ((toU64 (k : Int)).toNat : Int)) 64)))).toNat : Int) - 1) = UInt64.ofNat (2 ^ k - 1) := by
  rw [mask_d hk]
  rcases Nat.lt_or_eq_of_le hk with h | h
  · exact mask_b h
  · rw [h]; exact mask_c
theorem andnot_u {x : UInt64} {k : Nat} (hk : k ≤ 64) : toU64 ((BitVec.ofInt 64 (x.toNat : Int) &&& ~~~BitVec.ofInt 64 ((UInt64.ofNat (2 ^ k - 1)).toNat : Int)).toNat : Int) = UInt64.ofNat (x.toNat / 2 ^ k * 2 ^ k) := by
  have h : (UInt64.ofNat (2 ^ k - 1)).toNat = 2 ^ k - 1 := by
    have : (2 : Nat) ^ k ≤ 2 ^ 64 := Nat.pow_le_pow_right (by omega) hk
    have h4 : 0 < (2 : Nat) ^ k := Nat.two_pow_pos k
    simp only [UInt64.toNat_ofNat']; omega
  rw [h, andnot_low x.toNat_lt hk, toU64_nat]
theorem prefix_first_eq (a : Addr) {n : Nat} (hn : n ≤ a.w) : prefix_first a (n : Int) = some (a.cut n) := by
  have hw : prefix_width a = some (a.w : Int) := by unfold prefix_width Addr.w; split <;> rfl
  have hwn : i64w ((a.w : Int) - (n : Int)) = ((a.w - n : Nat) : Int) := by
    have : a.w ≤ 128 := by unfold Addr.w; split <;> omega
    rw [i64w_id (by omega)]; omega
  have hlo := a.Lo.toNat_lt
  have hhi := a.Hi.toNat_lt
  unfold prefix_first
  rw [hw, some_bind', hwn]
  have hk128 : a.w - n ≤ 128 := by unfold Addr.w; split <;> omega
  generalize hk : a.w - n = k at *
  unfold prefix_masks
  by_cases h64 : k > 64
  · rw [if_pos (by simp; omega), some_bind']
    have e : i64w ((k : Int) - 64) = ((k - 64 : Nat) : Int) := by rw [i64w_id (by omega)]; omega
    rw [e, mask_low (by omega)]
    simp only [andnot_u (show k - 64 ≤ 64 by omega)]
    have h1 : (18446744073709551615 : UInt64) = UInt64.ofNat (2 ^ 64 - 1) := rfl
    rw [h1, andnot_u (Nat.le_refl 64)]
    have h0 : a.Lo.toNat / 2 ^ 64 = 0 := Nat.div_eq_of_lt hlo
    unfold Addr.cut mkA Addr.n
    rw [hk]
    have hsplit : (2 : Nat) ^ k = 2 ^ 64 * 2 ^ (k - 64) := by rw [← Nat.pow_add]; congr 1; omega
    have hd : (a.Hi.toNat * 2 ^ 64 + a.Lo.toNat) / 2 ^ k = a.Hi.toNat / 2 ^ (k - 64) := by
      rw [hsplit, ← Nat.div_div_eq_div_mul, Nat.add_comm, Nat.add_mul_div_right _ _ (Nat.two_pow_pos 64), h0, Nat.zero_add]
    rw [hd]
    have he : a.Hi.toNat / 2 ^ (k - 64) * 2 ^ k = a.Hi.toNat / 2 ^ (k - 64) * 2 ^ (k - 64) * 2 ^ 64 := by
      rw [hsplit, Nat.mul_comm (2 ^ 64), Nat.mul_assoc]
    rw [he, Nat.mul_div_cancel _ (Nat.two_pow_pos 64), h0]
    have e0 : UInt64.ofNat (a.Hi.toNat / 2 ^ (k - 64) * 2 ^ (k - 64) * 2 ^ 64) = UInt64.ofNat 0 := by
      apply UInt64.toNat_inj.1
      simp only [UInt64.toNat_ofNat', Nat.mul_mod_left, Nat.zero_mod]
    rw [e0, Nat.zero_mul]
  · rw [if_neg (by simp; omega), some_bind', mask_low (by omega)]
    simp only [andnot_u (show k ≤ 64 by omega)]
    have h1 : (0 : UInt64) = UInt64.ofNat (2 ^ 0 - 1) := rfl
    rw [h1, andnot_u (Nat.zero_le 64)]
    unfold Addr.cut mkA Addr.n
    rw [hk, n_hi _ _ _ hlo (by omega)]
    have hlt : a.Lo.toNat / 2 ^ k * 2 ^ k < 2 ^ 64 := Nat.lt_of_le_of_lt (Nat.div_mul_le_self _ _) hlo
    have e1 : UInt64.ofNat (a.Hi.toNat / 2 ^ 0 * 2 ^ 0) = UInt64.ofNat ((a.Hi.toNat * 2 ^ 64 + a.Lo.toNat / 2 ^ k * 2 ^ k) / 2 ^ 64) := by
      congr 1
      omega
    have e2 : UInt64.ofNat (a.Lo.toNat / 2 ^ k * 2 ^ k) = UInt64.ofNat (a.Hi.toNat * 2 ^ 64 + a.Lo.toNat / 2 ^ k * 2 ^ k) := by
      apply UInt64.toNat_inj.1
      simp only [UInt64.toNat_ofNat']
      omega
    rw [e1, e2]
theorem toU8_nat (n : Nat) : toU8 (n : Int) = UInt8.ofNat n := by
  unfold toU8
  apply UInt8.toNat_inj.1
  simp only [UInt8.toNat_ofNat']
  omega
def Addr.L (a : Addr) : Nat := if a.V6 then 16 else 4
def byteN (a : Addr) (k : Nat) : UInt8 := UInt8.ofNat (a.n / 2 ^ (8 * k))
theorem ref01_Valid_eq (a : Addr) : ref01_Valid a = some a.ok := by
  unfold ref01_Valid Addr.ok
  rw [joinP_def]
  generalize ((a.Hi.toNat : Int) == 0) = x
  generalize decide ((a.Lo.toNat : Int) < 4294967296) = y
  generalize a.V6 = z
  cases z <;> cases x <;> rfl
theorem shift_byte {w : UInt64} {k : Nat} (hk : k < 8) :
    toU8 ((toU64 (Int.fdiv (w.toNat : Int) (2 ^ (min (Int.toNat ((toU64 (8 * ((toU64 (k : Int)).toNat : Int))).toNat : Int)) 64)))).toNat : Int) = UInt8.ofNat (w.toNat / 2 ^ (8 * k)) := by
  have h1 : (toU64 (k : Int)).toNat = k := by rw [toU64_nat]; simp; omega
  have h2 : (toU64 (8 * ((toU64 (k : Int)).toNat : Int))).toNat = 8 * k := by
    rw [h1]
    have : (8 * (k : Int)) = ((8 * k : Nat) : Int) := by omega
    rw [this, toU64_nat]; simp; omega
  have h3 : Int.fdiv (w.toNat : Int) ((2 : Int) ^ (8 * k)) = ((w.toNat / 2 ^ (8 * k) : Nat) : Int) := by
    have : ((2 : Int) ^ (8 * k)) = ((2 ^ (8 * k) : Nat) : Int) := by simp
    rw [this, Int.fdiv_eq_ediv_of_nonneg _ (Int.natCast_nonneg _), Int.natCast_ediv]
  rw [h2, Int.toNat_natCast, Nat.min_eq_left (by omega), h3, toU64_nat, toU8_nat]
  have : (UInt64.ofNat (w.toNat / 2 ^ (8 * k))).toNat = w.toNat / 2 ^ (8 * k) := by
    have hd : w.toNat / 2 ^ (8 * k) < 2 ^ 64 := Nat.lt_of_le_of_lt (Nat.div_le_self _ _) w.toNat_lt
    rw [UInt64.toNat_ofNat', Nat.mod_eq_of_lt hd]
  rw [this]
theorem u8_ofNat_mod {a b : Nat} (h : a % 256 = b % 256) : UInt8.ofNat a = UInt8.ofNat b := by
  apply UInt8.toNat_inj.1
  simp only [UInt8.toNat_ofNat']
  exact h
theorem byte_of_word {a : Addr} {k : Nat} (hk : k < 16) (hv : a.ok = true) (h4 : a.V6 = false → k < 4) :
    UInt8.ofNat ((if k ≥ 8 then a.Hi else a.Lo).toNat / 2 ^ (8 * (k % 8))) = byteN a k := by
  unfold byteN Addr.n
  have hlo := a.Lo.toNat_lt
  by_cases h8 : k ≥ 8
  · rw [if_pos h8]
    have e : 8 * k = 64 + 8 * (k % 8) := by omega
    rw [e, Nat.pow_add, ← Nat.div_div_eq_div_mul, Nat.add_comm (a.Hi.toNat * 2 ^ 64), Nat.add_mul_div_right _ _ (Nat.two_pow_pos 64), Nat.div_eq_of_lt hlo, Nat.zero_add]
  · rw [if_neg h8]
    have e : k % 8 = k := Nat.mod_eq_of_lt (by omega)
    rw [e]
    apply u8_ofNat_mod
    have e2 : (2 : Nat) ^ 64 = 2 ^ (8 * k) * 2 ^ (64 - 8 * k) := by rw [← Nat.pow_add]; congr 1; omega
    have e3 : (2 : Nat) ^ (64 - 8 * k) = 256 * 2 ^ (56 - 8 * k) := by
      have : (256 : Nat) = 2 ^ 8 := rfl
      rw [this, ← Nat.pow_add]; congr 1; omega
    have e4 : a.Hi.toNat * 2 ^ 64 = a.Hi.toNat * 2 ^ (56 - 8 * k) * 256 * 2 ^ (8 * k) := by
      rw [e2, e3, Nat.mul_assoc, Nat.mul_assoc]
      congr 1
      rw [Nat.mul_comm (2 ^ (56 - 8 * k)), Nat.mul_comm (2 ^ (8 * k))]
      rw [Nat.mul_assoc, Nat.mul_comm (2 ^ (56 - 8 * k)), Nat.mul_assoc]
    rw [e4, Nat.add_comm, Nat.add_mul_div_right _ _ (Nat.two_pow_pos _), Nat.add_mul_mod_self_right]
theorem ref01_Bytes_tt {a : Addr} (hv : a.ok = true) : Ok (ref01_Bytes a) fun l => l.length = a.L ∧ ∀ j, j < a.L → l[j]? = some (byteN a (a.L - 1 - j)) := by
  unfold ref01_Bytes
  rw [ref01_Valid_eq, some_bind', hv]
  refine .ite (fun h => by simp at h) fun _ => ?_
  refine .join (fun n : Int => n = a.L) (fun k hk => .ite (fun h => hk _ (by unfold Addr.L; rw [if_pos h]; rfl)) fun h => hk _ (by unfold Addr.L; rw [if_neg h]; rfl)) fun n hn => ?_
  have hL : a.L = 16 ∨ a.L = 4 := by unfold Addr.L; split <;> simp
  subst hn
  refine .join (fun l : List UInt8 => l.length = a.L ∧ ∀ j, j < a.L → l[j]? = some (byteN a (a.L - 1 - j))) (fun k hk => ?_) fun l hl => .ret hl
  refine .whileI (fun s : Int × List UInt8 => -1 ≤ s.1 ∧ s.1 = a.L - 1 - s.2.length ∧ ∀ j, j < s.2.length → s.2[j]? = some (byteN a (a.L - 1 - j))) (fun s => (s.1 + 1).toNat) ?_ ?_ ?_
  · rw [i64w_id (by omega)]; simp; omega
  · rw [i64w_id (by omega)]; exact lt_fuel (by omega)
  · rintro next ⟨p, l⟩ ⟨h1, h2, h3⟩ hn
    simp only at h1 h2 h3
    refine .ite (fun h => ?_) fun h => hk _ ⟨by simp at h; omega, fun j hj => h3 j (by simp at h; omega)⟩
    simp only [decide_eq_true_eq] at h
    obtain ⟨k, rfl⟩ : ∃ k : Nat, p = k := ⟨p.toNat, by omega⟩
    refine .join (fun w : UInt64 => w = if k ≥ 8 then a.Hi else a.Lo) (fun k' hk' => .ite (fun h => hk' _ (by rw [if_pos (by simp at h; omega)]) ) fun h => hk' _ (by rw [if_neg (by simp at h; omega)])) fun w hw => ?_
    refine .bind (Ok.apnd (by decide) (by simp; omega)) fun l' hl' => ?_
    have hb : k < 16 := by omega
    have ht : Int.tmod (k : Int) 8 = ((k % 8 : Nat) : Int) := by rw [Int.tmod_eq_emod_of_nonneg (by omega)]; omega
    rw [ht, shift_byte (Nat.mod_lt _ (by omega)), hw, byte_of_word hb hv (fun h4 => by unfold Addr.L at h2; simp [h4] at h2; omega)] at hl'
    subst hl'
    rw [i64w_id (by omega)]
    refine hn _ ⟨by simp only; omega, by simp; omega, fun j hj => ?_⟩ (by simp only; omega)
    simp only [List.length_append, List.length_singleton] at hj
    by_cases hj' : j < l.length
    · simp only
      rw [List.getElem?_append_left hj']; exact h3 j hj'
    · have : j = l.length := by omega
      subst this
      simp only [List.getElem?_append_right (Nat.le_refl _), Nat.sub_self, List.getElem?_cons_zero]
      congr 2
      omega
def val (l : List UInt8) : Nat := l.foldl (fun m x => m * 256 + x.toNat) 0
theorem val_snoc (l : List UInt8) (x : UInt8) : val (l ++ [x]) = val l * 256 + x.toNat := by simp [val]
theorem or_step {u v : Nat} (hu : u < 2 ^ 64) (hv : v < 256) : toU64 ((BitVec.ofInt 64 ((toU64 ((u : Int) * (2 ^ (min (Int.toNat 8) 64)))).toNat : Int) ||| BitVec.ofInt 64 ((toU64 (v : Int)).toNat : Int)).toNat : Int) = UInt64.ofNat (u * 256 + v) := by
  have h1 : ((u : Int) * (2 ^ (min (Int.toNat 8) 64))) = ((u * 256 : Nat) : Int) := by
    have : min (Int.toNat 8) 64 = 8 := rfl
    rw [this]; omega
  rw [h1, toU64_nat, toU64_nat, toU64_nat]
  have h2 : (UInt64.ofNat v).toNat = v := by simp only [UInt64.toNat_ofNat']; omega
  have h3 : (UInt64.ofNat (u * 256)).toNat = 2 ^ 8 * (u % 2 ^ 56) := by simp only [UInt64.toNat_ofNat']; omega
  rw [h2, h3, BitVec.ofInt_natCast, BitVec.ofInt_natCast, BitVec.toNat_or, BitVec.toNat_ofNat, BitVec.toNat_ofNat, Nat.mod_eq_of_lt (show 2 ^ 8 * (u % 2 ^ 56) < 2 ^ 64 by omega), Nat.mod_eq_of_lt (show v < 2 ^ 64 by omega),
    ← Nat.two_pow_add_eq_or_of_lt (show v < 2 ^ 8 by omega)]
  apply UInt64.toNat_inj.1
  simp only [UInt64.toNat_ofNat']
  omega
theorem ref01_FromBytes_tt {l : List UInt8} (hl : l.length = 4 ∨ l.length = 16) : Ok (ref01_FromBytes l) fun r => r = (mkA (l.length == 16) (val l % 2 ^ 128), 0) := by
  unfold ref01_FromBytes
  refine .join (fun b => b = false) (fun k hk => .ite (fun h => hk _ ?_) fun _ => hk _ rfl) fun b hb => ?_
  · rcases hl with h' | h' <;> simp [h'] at h ⊢
  subst hb
  refine .ite (fun h => by simp at h) fun _ => ?_
  refine .join (fun a => a = mkA (l.length == 16) (val l % 2 ^ 128)) (fun k hk => ?_) fun a ha => .ret (by rw [ha])
  refine .forX (fun i s => s = mkA (l.length == 16) (val (l.take i) % 2 ^ 128)) ?_ (fun s hs => hk _ (by rw [hs, List.take_length])) ?_
  · have : ((l.length : Int) == 16) = (l.length == 16) := by rw [Bool.eq_iff_iff]; simp only [beq_iff_eq]; omega
    rw [this, List.take_zero]
    have e0 : val [] % 2 ^ 128 = 0 := by simp [val]
    rw [e0]
    unfold mkA
    rfl
  · rintro next x i s hx rfl hn
    refine hn _ ?_
    have hlt := (List.getElem?_eq_some_iff.1 hx).1
    have ht : l.take (i + 1) = l.take i ++ [x] := by rw [List.take_add_one, hx]; rfl
    rw [ht, val_snoc]
    generalize val (l.take i) = m
    have hx8 := x.toNat_lt
    have hlo : (mkA (l.length == 16) (m % 2 ^ 128)).Lo.toNat = m % 2 ^ 64 := by unfold mkA; simp only [UInt64.toNat_ofNat']; omega
    have hhi : (mkA (l.length == 16) (m % 2 ^ 128)).Hi.toNat = m / 2 ^ 64 % 2 ^ 64 := by unfold mkA; simp only [UInt64.toNat_ofNat']; omega
    have h1 := or_step (u := m % 2 ^ 64) (v := x.toNat) (by omega) hx8
    have h2 := or_step (u := m / 2 ^ 64 % 2 ^ 64) (v := m % 2 ^ 64 / 2 ^ 56) (by omega) (by omega)
    have h3 : Int.fdiv ((m % 2 ^ 64 : Nat) : Int) (2 ^ (min (Int.toNat 56) 64)) = ((m % 2 ^ 64 / 2 ^ 56 : Nat) : Int) := by
      have : min (Int.toNat 56) 64 = 56 := rfl
      have e5 : ((2 : Int) ^ 56) = ((2 ^ 56 : Nat) : Int) := by simp
      rw [this, e5, Int.fdiv_eq_ediv_of_nonneg _ (Int.natCast_nonneg _), Int.natCast_ediv]
    rw [hlo, hhi, h3, h1, h2, mkA_v6]
    unfold mkA
    have e1 : UInt64.ofNat (m / 2 ^ 64 % 2 ^ 64 * 256 + m % 2 ^ 64 / 2 ^ 56) = UInt64.ofNat ((m * 256 + x.toNat) % 2 ^ 128 / 2 ^ 64) := by
      apply UInt64.toNat_inj.1; simp only [UInt64.toNat_ofNat']; omega
    have e2 : UInt64.ofNat (m % 2 ^ 64 * 256 + x.toNat) = UInt64.ofNat ((m * 256 + x.toNat) % 2 ^ 128) := by
      apply UInt64.toNat_inj.1; simp only [UInt64.toNat_ofNat']; omega
    rw [e1, e2]
theorem val_testBit : ∀ (l : List UInt8) (q : Nat), (val l).testBit q = if q < 8 * l.length then (l.getD (l.length - 1 - q / 8) 0).toNat.testBit (q % 8) else false := by
  intro l
  induction h : l.length generalizing l with
  | zero => intro q; have : l = [] := List.eq_nil_of_length_eq_zero h; subst this; simp [val]
  | succ n ih =>
    intro q
    obtain ⟨l', x, rfl⟩ : ∃ l' x, l = l' ++ [x] := by
      rcases List.eq_nil_or_concat l with h' | ⟨l', x, h'⟩
      · subst h'; simp at h
      · exact ⟨l', x, by simpa using h'⟩
    have hl' : l'.length = n := by simpa using h
    rw [val_snoc, Nat.mul_comm, show (256 : Nat) = 2 ^ 8 from rfl, Nat.testBit_two_pow_mul_add _ (show x.toNat < 2 ^ 8 from x.toNat_lt)]
    by_cases hq : q < 8
    · rw [if_pos hq, if_pos (by omega)]
      have e1 : n + 1 - 1 - q / 8 = l'.length := by omega
      rw [e1, Nat.mod_eq_of_lt hq]
      simp [List.getD_eq_getElem?_getD]
    · rw [if_neg hq, ih l' hl']
      by_cases h2 : q - 8 < 8 * n
      · rw [if_pos h2, if_pos (by omega)]
        have e1 : n - 1 - (q - 8) / 8 = n + 1 - 1 - q / 8 := by omega
        have e2 : (q - 8) % 8 = q % 8 := by omega
        rw [e1, e2, List.getD_eq_getElem?_getD, List.getD_eq_getElem?_getD, List.getElem?_append_left (by omega)]
      · rw [if_neg h2, if_neg (by omega)]
theorem clear_bit {x : UInt8} {r : Nat} (hr : r < 8) {s : Nat} (hs : s < 8) :
    (toU8 ((BitVec.ofInt 8 (x.toNat : Int) &&& ~~~BitVec.ofInt 8 ((toU8 (Int.fdiv 128 (2 ^ (min (Int.toNat ((toU64 (r : Int)).toNat : Int)) 8)))).toNat : Int)).toNat : Int)).toNat.testBit s = (x.toNat.testBit s && !decide (7 - r = s)) := by
  have h1 : (toU64 (r : Int)).toNat = r := by rw [toU64_nat]; simp; omega
  have h2 : Int.fdiv 128 ((2 : Int) ^ r) = ((2 ^ (7 - r) : Nat) : Int) := by
    have e1 : ((2 : Int) ^ r) = ((2 ^ r : Nat) : Int) := by simp
    have e2 : (128 : Int) = ((128 : Nat) : Int) := rfl
    rw [e1, e2, Int.fdiv_eq_ediv_of_nonneg _ (Int.natCast_nonneg _), ← Int.natCast_ediv]
    congr 1
    have e3 : (128 : Nat) = 2 ^ (7 - r) * 2 ^ r := by rw [← Nat.pow_add, show 7 - r + r = 7 by omega]
    rw [e3, Nat.mul_div_cancel _ (Nat.two_pow_pos r)]
  rw [h1, Int.toNat_natCast, Nat.min_eq_left (by omega), h2, toU8_nat, toU8_nat, BitVec.ofInt_natCast, BitVec.ofInt_natCast]
  have hp : 2 ^ (7 - r) < 256 := Nat.lt_of_le_of_lt (Nat.pow_le_pow_right (by omega) (show 7 - r ≤ 7 by omega)) (by decide)
  have h3 : (UInt8.ofNat (2 ^ (7 - r))).toNat = 2 ^ (7 - r) := by simp only [UInt8.toNat_ofNat']; exact Nat.mod_eq_of_lt hp
  rw [h3, UInt8.toNat_ofNat', Nat.testBit_mod_two_pow, BitVec.testBit_toNat]
  simp only [BitVec.getLsbD_and, BitVec.getLsbD_not, BitVec.getLsbD_ofNat, hs, decide_true, Bool.true_and, Nat.testBit_two_pow]
theorem Addr.cut_bit (a : Addr) {n q : Nat} (hn : n ≤ a.w) : (a.n / 2 ^ (a.w - n) * 2 ^ (a.w - n)).testBit q = (a.n.testBit q && decide (a.w - n ≤ q)) := by
  rw [Nat.testBit_mul_two_pow, Nat.testBit_div_two_pow]
  by_cases h : a.w - n ≤ q
  · simp [h]
  · simp [h]
theorem cond_and {b c : Bool} (h : cond b c false = true) : b = true ∧ c = true := by cases b <;> simp at h ⊢; exact h
theorem Addr.ok4 {a : Addr} (hv : a.ok = true) (h6 : a.V6 = false) : a.Hi.toNat = 0 ∧ a.Lo.toNat < 2 ^ 32 := by
  unfold Addr.ok at hv
  rw [h6] at hv
  obtain ⟨h1, h2⟩ := cond_and hv
  have h2 := of_decide_eq_true h2
  have h1 := eq_of_beq h1
  omega
theorem Addr.n_lt {a : Addr} (hv : a.ok = true) : a.n < 2 ^ a.w := by
  have h1 := a.Lo.toNat_lt
  have h2 := a.Hi.toNat_lt
  cases hv6 : a.V6
  · obtain ⟨g1, g2⟩ := Addr.ok4 hv hv6
    have hw : a.w = 32 := by unfold Addr.w; rw [hv6]; rfl
    have hn : a.n = a.Lo.toNat := by unfold Addr.n; rw [g1, Nat.zero_mul, Nat.zero_add]
    rw [hw, hn]; exact g2
  · have hw : a.w = 128 := by unfold Addr.w; rw [hv6]; rfl
    rw [hw]
    unfold Addr.n
    omega
theorem ref02_Make_tt {a : Addr} {n : Nat} (hv : a.ok = true) (hn : n ≤ a.w) : Ok (ref02_Make a (n : Int)) fun r => r = (⟨a.cut n, n⟩, 0) := by
  have hw : a.w = 8 * a.L := by unfold Addr.w Addr.L; split <;> rfl
  have hL : a.L = 16 ∨ a.L = 4 := by unfold Addr.L; split <;> simp
  unfold ref02_Make
  rw [ref01_Valid_eq, some_bind', hv]
  refine .ite (fun h => by simp at h) fun _ => ?_
  have hwid : ref02_width a = some (a.w : Int) := by unfold ref02_width Addr.w; split <;> rfl
  refine .join (fun b => b = false) (fun k hk => .ite (fun h => by simp at h; omega) fun _ => ?_) fun b hb => ?_
  · rw [hwid, some_bind']
    refine hk _ ?_
    simp only [cond_false, decide_eq_false_iff_not]
    omega
  subst hb
  refine .ite (fun h => by simp at h) fun _ => ?_
  refine .bind (ref01_Bytes_tt hv) fun l hl => ?_
  refine .join (fun l : List UInt8 => l.length = a.L ∧ val l = a.n / 2 ^ (a.w - n) * 2 ^ (a.w - n)) (fun k hk => ?_) fun l' hl' => ?_
  · refine .whileI (fun s : Int × List UInt8 => ∃ P : Nat, s.1 = P ∧ n ≤ P ∧ P ≤ 8 * a.L ∧ s.2.length = a.L ∧ ∀ q, q < 8 * a.L → (s.2.getD (a.L - 1 - q / 8) 0).toNat.testBit (q % 8) = (a.n.testBit q && !decide (8 * a.L - P ≤ q ∧ q < 8 * a.L - n)))
      (fun s => (8 * a.L - s.1).toNat) ⟨n, rfl, Nat.le_refl _, by omega, hl.1, fun q hq => ?_⟩ (lt_fuel (by simp only; omega)) ?_
    · have h1 : a.L - 1 - q / 8 < a.L := by omega
      have h2 := hl.2 _ h1
      have h3 : a.L - 1 - (a.L - 1 - q / 8) = q / 8 := by omega
      have h4 : ¬ (8 * a.L - n ≤ q ∧ q < 8 * a.L - n) := by omega
      rw [List.getD_eq_getElem?_getD, h2, h3]
      simp only [Option.getD_some, h4, decide_false, Bool.not_false, Bool.and_true]
      unfold byteN
      rw [UInt8.toNat_ofNat', Nat.testBit_mod_two_pow, Nat.testBit_div_two_pow, Nat.mod_add_div]
      simp [Nat.mod_lt]
    · rintro next ⟨p, l⟩ ⟨P, h1, h2, h3, h4, h5⟩ hnx
      simp only at h1 h4 h5
      subst h1
      have e8 : i64w (8 * (l.length : Int)) = ((8 * a.L : Nat) : Int) := by rw [i64w_id (by omega)]; omega
      refine .ite (fun h => ?_) fun h => hk _ ?_
      · rw [e8] at h
        simp only [decide_eq_true_eq] at h
        have ed : i64w (Int.tdiv (P : Int) 8) = ((P / 8 : Nat) : Int) := by
          rw [Int.tdiv_eq_ediv_of_nonneg (by omega), i64w_id (by omega)]; omega
        have et : Int.tmod (P : Int) 8 = ((P % 8 : Nat) : Int) := by rw [Int.tmod_eq_emod_of_nonneg (by omega)]; omega
        have hlt : P / 8 < l.length := by omega
        rw [ed, geti_nat hlt, some_bind', some_bind']
        refine .bind (Ok.seti (by omega)) fun l' hl' => ?_
        rw [Int.toNat_natCast, et] at hl'
        rw [i64w_id (by omega)]
        refine hnx _ ⟨P + 1, by simp only; omega, by omega, by omega, by simp only; omega, fun q hq => ?_⟩ (by simp only; omega)
        simp only
        rw [hl'.1]
        by_cases hb : a.L - 1 - q / 8 = P / 8
        · have hx := h5 q hq
          rw [hb, List.getD_eq_getElem?_getD, List.getElem?_eq_getElem hlt, Option.getD_some] at hx
          rw [hb, List.getD_eq_getElem?_getD, List.getElem?_set_self (by omega), Option.getD_some, clear_bit (Nat.mod_lt _ (by omega)) (Nat.mod_lt _ (by omega)), hx, Bool.and_assoc]
          congr 1
          rw [Bool.eq_iff_iff]
          simp only [Bool.and_eq_true, Bool.not_eq_true', decide_eq_false_iff_not]
          omega
        · have hx := h5 q hq
          rw [List.getD_eq_getElem?_getD] at hx
          rw [List.getD_eq_getElem?_getD, List.getElem?_set_ne (by omega), hx]
          congr 2
          rw [decide_eq_decide]
          omega
      · rw [e8] at h
        simp only [decide_eq_true_eq] at h
        have hP : P = 8 * a.L := by omega
        subst hP
        refine ⟨h4, ?_⟩
        apply Nat.eq_of_testBit_eq
        intro q
        rw [val_testBit, a.cut_bit hn, h4]
        by_cases hq : q < 8 * a.L
        · rw [if_pos hq, h5 q hq]
          congr 1
          rw [Bool.eq_iff_iff]
          simp only [Bool.not_eq_true', decide_eq_false_iff_not, decide_eq_true_eq]
          omega
        · rw [if_neg hq]
          have : a.n.testBit q = false := Nat.testBit_lt_two_pow (Nat.lt_of_lt_of_le (Addr.n_lt hv) (Nat.pow_le_pow_right (by omega) (by omega)))
          rw [this, Bool.false_and]
  · refine .bind (ref01_FromBytes_tt (by omega)) fun r hr => ?_
    subst hr
    refine .ret ?_
    have e1 : (l'.length == 16) = a.V6 := by
      rw [hl'.1]
      unfold Addr.L
      cases a.V6 <;> rfl
    have e2 : val l' % 2 ^ 128 = val l' := by
      refine Nat.mod_eq_of_lt ?_
      rw [hl'.2]
      exact Nat.lt_of_le_of_lt (Nat.div_mul_le_self _ _) (Nat.lt_of_lt_of_le (Addr.n_lt hv) (Nat.pow_le_pow_right (by omega) (by rw [hw]; omega)))
    rw [e1, e2, hl'.2, Addr.cut]
theorem ref02_Make_bad {a : Addr} {n : Int} (hn : ¬ (a.ok = true ∧ 0 ≤ n ∧ n ≤ a.w)) : Ok (ref02_Make a n) fun r => r.2 ≠ 0 := by
  have hwid : ref02_width a = some (a.w : Int) := by unfold ref02_width Addr.w; split <;> rfl
  unfold ref02_Make
  rw [ref01_Valid_eq, some_bind']
  refine .ite (fun _ => .ret (by decide)) fun hv => ?_
  have hv : a.ok = true := by simpa using hv
  refine .join (fun b => b = true) (fun k hk => .ite (fun _ => hk _ rfl) fun h => ?_) fun b hb => ?_
  · rw [hwid, some_bind']
    refine hk _ ?_
    show decide (n > (a.w : Int)) = true
    simp at h ⊢
    have : ¬ (0 ≤ n ∧ n ≤ a.w) := fun q => hn ⟨hv, q⟩
    omega
  · subst hb
    exact .ite (fun _ => .ret (by decide)) fun h => absurd rfl h
theorem ref02_Make_eq (a : Addr) (n : Int) : ∃ r e, ref02_Make a n = some (r, e) ∧ ((a.ok = true ∧ 0 ≤ n ∧ n ≤ a.w) ∧ e = 0 ∧ r = ⟨a.cut n.toNat, n⟩ ∨ ¬ (a.ok = true ∧ 0 ≤ n ∧ n ≤ a.w) ∧ e ≠ 0) := by
  by_cases h : a.ok = true ∧ 0 ≤ n ∧ n ≤ a.w
  · obtain ⟨k, rfl⟩ : ∃ k : Nat, n = k := ⟨n.toNat, by omega⟩
    obtain ⟨r, h1, h2⟩ := ref02_Make_tt h.1 (n := k) (by omega)
    exact ⟨_, _, by rw [h1, h2], .inl ⟨h, rfl, by rw [Int.toNat_natCast]⟩⟩
  · obtain ⟨r, h1, h2⟩ := ref02_Make_bad h
    exact ⟨r.1, r.2, h1, .inr ⟨h, h2⟩⟩
instance (a : Addr) (n : Int) : Tt (ref02_Make a n) := by
  obtain ⟨r, e, h, _⟩ := ref02_Make_eq a n
  exact ⟨_, h⟩
def inB (p : Prefix) (x : Addr) : Bool := decide (0 ≤ p.Len ∧ p.Len ≤ x.w) && Addr.eqd (x.cut p.Len.toNat) p.Addr
theorem ref02_Contains_eq {p : Prefix} {x : Addr} (hx : x.ok = true) : ref02_Contains p x = some (inB p x) := by
  obtain ⟨r, e, h1, h2⟩ := ref02_Make_eq x p.Len
  unfold ref02_Contains
  rw [h1, some_bind']
  dsimp only
  rw [joinP_def]
  rcases h2 with ⟨⟨_, h3, h4⟩, rfl, rfl⟩ | ⟨h3, h4⟩
  · simp only [beq_self_eq_true, if_true]
    unfold inB Prefix.eqd Addr.eqd
    simp [h3, h4]
  · simp only [beq_iff_eq, h4, if_false]
    unfold inB
    have : ¬ (0 ≤ p.Len ∧ p.Len ≤ x.w) := fun h => h3 ⟨hx, h⟩
    simp only [this, decide_false, Bool.false_and]
theorem prefix_Contains_eq (p : Prefix) (x : Addr) : prefix_Contains p x = some (inB p x) := by
  have hw : prefix_width x = some (x.w : Int) := by unfold prefix_width Addr.w; split <;> rfl
  have hv : (p.Addr.V6 == x.V6) = false → Addr.eqd (x.cut p.Len.toNat) p.Addr = false := by
    intro h
    unfold Addr.eqd
    rw [cut_v6]
    have : (x.V6 == p.Addr.V6) = false := by rw [Bool.beq_comm]; exact h
    rw [this, Bool.false_and]
  unfold prefix_Contains
  rw [joinP_def]
  cases hb : (p.Addr.V6 == x.V6)
  · rw [if_neg (by decide)]
    unfold inB
    rw [hv hb, Bool.and_false]
  · rw [if_pos rfl]
    by_cases h0 : 0 ≤ p.Len
    · rw [if_pos (by simpa using h0), hw, some_bind']
      by_cases h1 : p.Len ≤ x.w
      · rw [if_pos (by simpa using h1)]
        obtain ⟨k, hk⟩ : ∃ k : Nat, p.Len = k := ⟨p.Len.toNat, by omega⟩
        unfold inB
        rw [hk, prefix_first_eq x (by omega), some_bind', Int.toNat_natCast]
        have : (0 : Int) ≤ (k : Int) ∧ (k : Int) ≤ x.w := by omega
        simp only [this, and_self, decide_true, Bool.true_and, cond_true]
      · rw [if_neg (by simpa using h1)]
        unfold inB
        simp [h1]
    · rw [if_neg (by simpa using h0)]
      unfold inB
      simp [h0]
instance (p : Prefix) (x : Addr) : Tt (ref02_Contains p x) := by unfold ref02_Contains; exact Tt.auto
instance (p q : Prefix) : Tt (ref02_Covers p q) := by unfold ref02_Covers; exact Tt.auto
instance (p : Prefix) : Tt (ref02_Valid p) := by unfold ref02_Valid; exact Tt.auto
instance (p : Prefix) (x : Addr) : Tt (prefix_Contains p x) := ⟨_, prefix_Contains_eq p x⟩
instance (o : Object) : Tt (ref20_ValidObject o) := by unfold ref20_ValidObject; exact Tt.auto
instance (l : List Prefix) (n : Int) : Tt (ref24_all l n) := by unfold ref24_all; exact Tt.auto
instance (l : List Object) (p : Prefix) (n : Int) : Tt (ref20_Permits l p n) := by unfold ref20_Permits; exact Tt.auto
end Go.AX.Q35
end
section
namespace Go.AX.Q35
open Go Go.AX
set_option maxRecDepth 8000
theorem i64w_pred {i n : Nat} (h : i < n) (hn : n ≤ 1000000000) (h0 : ¬ (((i : Int) == 0) = true)) : 0 ≤ i64w ((i : Int) - 1) ∧ i64w ((i : Int) - 1) < (n : Int) := by
  have : i ≠ 0 := by intro e; subst e; simp at h0
  rw [i64w_id (by omega)]
  omega
theorem i64w_pred' {i n : Nat} (h : i < n) (hn : n ≤ 1000000000) (h0 : (decide ((i : Int) > 0)) = true) : 0 ≤ i64w ((i : Int) - 1) ∧ i64w ((i : Int) - 1) < (n : Int) :=
  i64w_pred h hn (by simp at h0 ⊢; omega)
theorem ref26_Check_tt {a : Policy} (h1 : a.Deny.length ≤ 1000000000) (h2 : a.Prefer.length ≤ 1000000000) : Tt (ref26_Check a) := by
  unfold ref26_Check
  have g1 := fun i (h : i < a.Deny.length) => i64w_pred h h1
  have g2 := fun i (h : i < a.Prefer.length) => i64w_pred h h2
  exact Tt.auto
theorem ref15_Valid_tt {l : List Segment} (h1 : l.length ≤ 1000000000) (h2 : ∀ s ∈ l, s.ASNs.length ≤ 1000000000) : Tt (ref15_Valid l) := by
  unfold ref15_Valid
  have g1 := fun i (h : i < l.length) => i64w_pred' h h1
  have g2 := fun (s : Segment) (hs : s ∈ l) i (h : i < s.ASNs.length) (h0 : (cond true (decide ((i : Int) > 0)) false) = true) => i64w_pred' h (h2 s hs) h0
  exact Tt.auto
theorem ref17_Valid_tt {l : List Community} (h1 : l.length ≤ 1000000000) : Tt (ref17_Valid l) := by
  unfold ref17_Valid
  have g1 := fun i (h : i < l.length) => i64w_pred' h h1
  exact Tt.auto
theorem ref17_ValidLarge_tt {l : List Large} (h1 : l.length ≤ 1000000000) : Tt (ref17_ValidLarge l) := by
  unfold ref17_ValidLarge
  have g1 := fun i (h : i < l.length) => i64w_pred' h h1
  exact Tt.auto
instance (a : RIB) : Tt (ref25_Count a) := by
  unfold ref25_Count
  refine Ok.tt (Q := fun _ => True) (Ok.join (fun _ => True) (fun k hk => Ok.for_ (fun s => ?_) ?_) ?_)
  all_goals intros
  · exact Ok.q
  · exact Ok.join (fun _ => True) (fun k hk => Ok.q) fun _ _ => Ok.q
  · exact Ok.q
structure SmA (n : Nat) (a : Attrs) : Prop where
  p : a.Path.length ≤ n
  s : ∀ s ∈ a.Path, s.ASNs.length ≤ n
  c : a.Communities.length ≤ n
  l : a.Large.length ≤ n
  o : a.Other.length ≤ n
  d : ∀ u ∈ a.Other, u.Data.length ≤ n
theorem ref18_Valid_tt {n : Nat} {a : Attrs} (h : SmA n a) (hn : n ≤ 10000) : Tt (ref18_Valid a) := by
  unfold ref18_Valid
  have := ref15_Valid_tt (l := a.Path) (by have := h.p; omega) fun s hs => by have := h.s s hs; omega
  have := ref17_Valid_tt (l := a.Communities) (by have := h.c; omega)
  have := ref17_ValidLarge_tt (l := a.Large) (by have := h.l; omega)
  have g1 := fun i (hi : i < a.Other.length) => i64w_pred' hi (by have := h.o; omega)
  exact Tt.auto
theorem ref08_Name_tt {s : ByteArray} (h : s.size ≤ 1000000) : Tt (ref08_Name s) := by
  have hl : s.toList.length = s.size := by rw [ByteArray.toList_eq, Array.length_toList]; rfl
  unfold ref08_Name
  refine Ok.tt (Q := fun _ => True) (.join (fun _ => True) (fun k hk => ?_) fun _ _ => Ok.q)
  refine .whileI (fun v : Int => 0 ≤ v ∧ v ≤ s.size) (fun v => (s.size - v).toNat) (by omega) (lt_fuel (by omega)) ?_
  intro next v hv hn
  refine .ite (fun hc => ?_) fun _ => hk _ trivial
  simp only [decide_eq_true_eq] at hc
  refine .bind (.geti (by omega)) fun c _ => ?_
  refine .join (fun _ => True) (fun k2 hk2 => Ok.q) fun b _ => .ite (fun _ => .ret trivial) fun _ => ?_
  rw [i64w_id (by omega)]
  exact hn _ (by omega) (by omega)
structure SmG (g : Registry) : Prop where
  n : g.Sets.length ≤ 100
  o : g.Objects.length ≤ 10000
  s : ∀ s ∈ g.Sets, s.Name.size ≤ 1000 ∧ s.ASNs.length ≤ 100 ∧ s.Sets.length ≤ 100 ∧ ∀ x ∈ s.Sets, x.size ≤ 1000
theorem ref20_Valid_tt {g : Registry} (h : SmG g) : Tt (ref20_Valid g) := by
  unfold ref20_Valid
  have h1 : ∀ s ∈ g.Sets, Tt (ref08_Name s.Name) := fun s hs => ref08_Name_tt (by have := (h.s s hs).1; omega)
  have h2 : ∀ s ∈ g.Sets, ∀ x ∈ s.Sets, Tt (ref08_Name x) := fun s hs x hx => ref08_Name_tt (by have := (h.s s hs).2.2.2 x hx; omega)
  refine Ok.tt (Q := fun _ => True) (.join (fun _ => True) (fun k hk => ?_) fun _ _ => ?_)
  · refine .for_ (fun s => hk _ trivial) fun next x i s hi hx hn => ?_
    have := h1 x hx
    refine .join (fun _ => True) (fun k2 hk2 => ?_) fun _ _ => hn _
    refine .join (fun _ => True) (fun k3 hk3 => ?_) fun b _ => .ite (fun _ => .ret trivial) fun _ => ?_
    · refine .bind Ok.of fun _ _ => .ite (fun _ => hk3 _ trivial) fun _ => ?_
      rw [some_bind']
      exact Ok.q
    · refine .join (fun _ => True) (fun k4 hk4 => Ok.for_ (fun _ => hk4 _ trivial) fun next x i s hi hx hn => Ok.q) fun _ _ => ?_
      refine .join (fun _ => True) (fun k4 hk4 => Ok.for_ (fun _ => hk4 _ trivial) fun next y i s hi hy hn => ?_) fun _ _ => hk2 _ trivial
      have := h2 x hx y hy
      exact Ok.q
  · exact (Tt.auto).h.elim fun r hr => ⟨r, hr, trivial⟩
structure SmF (f : Filter) : Prop where
  g : SmG f.Registry
  l : f.LANs.length ≤ 1000
  b : f.Bogons.length ≤ 1000
  p : f.Private.length ≤ 1000
  e : f.Free.length ≤ 1000
  o : f.Origins.length ≤ 10000
theorem ref24_Valid_tt {f : Filter} (h : SmF f) : Tt (ref24_Valid f) := by
  unfold ref24_Valid
  have := ref20_Valid_tt h.g
  exact Tt.auto
instance (p : Peer) : Tt (ref24_ValidPeer p) := by unfold ref24_ValidPeer; exact Tt.auto
structure SmB (n : Nat) (b : RIB) : Prop where
  l : b.Held.length ≤ n
  x : b.Peer.Nexts.length ≤ 1000
  a : ∀ h ∈ b.Held, SmA 1000 h.Route.Attrs
theorem ref25_Valid_tt {n : Nat} {b : RIB} (h : SmB n b) (hn : n ≤ 100000) : Ok (ref25_Valid b) fun v => v = true → b.Held.length ≤ 256 := by
  unfold ref25_Valid
  refine .join (fun v => v = false → b.Held.length ≤ 256) (fun k hk => ?_) fun v hv => .ite (fun _ => .ret (by simp)) fun hv' => ?_
  · refine .bind Ok.of fun _ _ => .ite (fun _ => hk _ (by simp)) fun _ => .ite (fun _ => hk _ (by simp)) fun h1 => .ite (fun _ => hk _ (by simp)) fun _ => hk _ fun _ => ?_
    simp at h1
    omega
  have hb : b.Held.length ≤ 256 := hv (by simpa using hv')
  have h2 : ∀ x ∈ b.Held, Tt (ref18_Valid x.Route.Attrs) := fun x hx => ref18_Valid_tt (h.a x hx) (by omega)
  have g1 := fun i (hi : i < b.Held.length) => i64w_pred' hi (by omega)
  refine .join (fun _ => True) (fun k hk => ?_) fun v _ => ?_
  · refine .for_ (fun s => hk _ trivial) fun next x i s hi hx hn => ?_
    have := h2 x hx
    refine .join (fun _ => True) (fun k2 hk2 => Ok.q) fun b _ => .ite (fun _ => .ret (by simp)) fun _ => ?_
    exact .join (fun _ => True) (fun k3 hk3 => Ok.q) fun _ _ => hn _
  · refine .bind Ok.of fun c _ => ?_
    exact .join (fun _ => True) (fun k2 hk2 => Ok.q) fun w _ => .ret fun _ => hb
theorem ref15_Flat_tt {n : Nat} {l : List Segment} (h1 : l.length ≤ n) (h2 : ∀ s ∈ l, s.ASNs.length ≤ n) (hn : n ≤ 10000) : Ok (ref15_Flat l) fun r => r = l.flatMap (·.ASNs) := by
  unfold ref15_Flat
  refine .join (fun r => r = l.flatMap (·.ASNs)) (fun k hk => ?_) fun r hr => .ret hr
  refine .forX (fun i r => r = (l.take i).flatMap (·.ASNs) ∧ r.length ≤ i * n) (by simp) (fun s hs => hk _ (by rw [hs.1, List.take_length])) ?_
  rintro next x i s hx ⟨rfl, hl⟩ hnx
  have hi := (List.getElem?_eq_some_iff.1 hx).1
  have hxs := h2 x (List.mem_of_getElem? hx)
  have him : i * n ≤ 10000 * 10000 := Nat.mul_le_mul (by omega) hn
  refine .bind (.apnd (by decide) (by omega)) fun r hr => hnx _ ⟨?_, ?_⟩
  · rw [hr, List.take_add_one, hx]; simp
  · rw [hr, List.length_append, Nat.add_mul]; omega
structure SmP (p : Policy) : Prop where
  d : p.Deny.length ≤ 1000
  f : p.Prefer.length ≤ 1000
structure SmS (s : Server) : Prop where
  f : SmF s.Filter
  p : ∀ p ∈ s.Policies, SmP p
  n : s.Policies.length ≤ 100
  r : s.RIBs.length = s.Policies.length
  b : ∀ b ∈ s.RIBs, SmB 600 b
theorem ref28_Valid_tt {s : Server} (h : SmS s) : Tt (ref28_Valid s) := by
  unfold ref28_Valid
  have h0 := ref24_Valid_tt h.f
  have h1 : ∀ p ∈ s.Policies, Tt (ref26_Check p) := fun p hp => ref26_Check_tt (by have := (h.p p hp).d; omega) (by have := (h.p p hp).f; omega)
  have h2 : ∀ b ∈ s.RIBs, Tt (ref25_Valid b) := fun b hb => (ref25_Valid_tt (h.b b hb) (by omega)).tt
  have g1 := fun i (hi : i < s.Policies.length) => i64w_pred' hi (by have := h.n; omega)
  refine Ok.tt (Q := fun _ => True) (.join (fun _ => True) (fun k hk => Ok.q) fun v _ => .ite (fun _ => .ret trivial) fun _ => ?_)
  refine .join (fun _ => True) (fun k hk => ?_) fun v _ => .ret trivial
  refine .for_ (fun s => hk _ trivial) fun next x i s' hi hx hn => ?_
  have := h1 x hx
  have hri : 0 ≤ (i : Int) ∧ (i : Int) < (s.RIBs.length : Int) := by rw [h.r]; omega
  refine .join (fun _ => True) (fun k2 hk2 => ?_) fun _ _ => hn _
  refine .join (fun _ => True) (fun k3 hk3 => ?_) fun b _ => .ite (fun _ => .ret trivial) fun _ => ?_
  · refine .bind Ok.of fun _ _ => .ite (fun _ => hk3 _ trivial) fun _ => .ite (fun _ => hk3 _ trivial) fun _ => .ite (fun hi0 => ?_) fun _ => ?_
    · refine .bind (.geti (g1 i hi hi0)) fun p _ => .ite (fun _ => hk3 _ trivial) fun _ => .bind (.geti hri) fun b hb => ?_
      have := h2 b hb.1
      exact .bind Ok.of fun _ _ => .ite (fun _ => hk3 _ trivial) fun _ => .bind (.geti hri) fun _ _ => hk3 _ trivial
    · refine .bind (.geti hri) fun b hb => ?_
      have := h2 b hb.1
      exact .bind Ok.of fun _ _ => .ite (fun _ => hk3 _ trivial) fun _ => .bind (.geti hri) fun _ _ => hk3 _ trivial
  · refine .bind (.geti hri) fun b hb => ?_
    refine .join (fun _ => True) (fun k4 hk4 => ?_) fun _ _ => hk2 _ trivial
    refine .for_ (fun s => hk4 _ trivial) fun next y j s' hj hy hny => ?_
    have ha := (h.b b hb.1).a y hy
    have hf := (ref15_Flat_tt ha.p ha.s (by omega)).tt
    exact .join (fun _ => True) (fun k5 hk5 => Ok.q) fun c _ => Ok.q
theorem ref28_Prefixes_tt {s : Server} (h : SmS s) : Ok (ref28_Prefixes s) fun r => r.length ≤ 60000 := by
  unfold ref28_Prefixes
  refine .join (fun r => r.length ≤ 60000) (fun k hk => ?_) fun r hr => .ret hr
  have hr := h.n
  rw [← h.r] at hr
  refine .forI (fun i (r : List Prefix) => r.length ≤ i * 600) (by simp) (fun r hr' => hk _ (Nat.le_trans hr' (Nat.mul_le_mul_right 600 hr))) fun next b i r hi hb hr' hn => ?_
  have hB := h.b b hb
  have hl := hB.l
  have hi6 : i * 600 ≤ 60000 := by omega
  have hn : ∀ s' : List Prefix, s'.length ≤ i * 600 + 600 → Ok (next s') fun r => r.length ≤ 60000 := fun s' h => hn s' (by rw [Nat.add_mul]; omega)
  generalize i * 600 = m at *
  refine .join (fun r' => r'.length ≤ m + 600) (fun k2 hk2 => ?_) fun r' hr2 => hn _ hr2
  refine .join (fun r' => r'.length ≤ m + 600) (fun k3 hk3 => ?_) fun r' hr2 => hk2 _ hr2
  refine .forI (fun j (r' : List Prefix) => r'.length ≤ m + j) (by simpa using hr') (fun r' h' => hk3 _ (Nat.le_trans h' (Nat.add_le_add_left hl m))) fun next2 x j r' hj hx hr2 hn2 => ?_
  refine .join (fun r3 => r3.length ≤ m + (j + 1)) (fun k4 hk4 => ?_) fun r3 h3 => hn2 _ h3
  refine .pos (n := r'.length) (by omega) (fun k5 v h1 h2 hk5 => Ok.q) fun v h1 h2 => ?_
  refine .join (fun _ => True) (fun k5 hk5 => Ok.q) fun c _ => .ite (fun _ => hk4 _ (by omega)) fun _ => ?_
  refine .bind (.chk ⟨by omega, by omega, Int.le_refl _⟩) fun _ _ => .bind (.apnd (by decide) (by simp; omega)) fun _ _ => ?_
  refine .bind (.part ⟨by omega, by omega, by omega⟩) fun p hp => .bind (.apnd (by decide) (by simp; omega)) fun q hq => .bind (.apnd (by decide) (by rw [hq]; simp; omega)) fun w hw => hk4 _ ?_
  rw [hw, hq]
  simp
  omega
theorem ref15_Copy_tt {l : List Segment} (h1 : l.length ≤ 100000) (h2 : ∀ s ∈ l, s.ASNs.length ≤ 1000000) : ref15_Copy l = some l := by
  have : Ok (ref15_Copy l) fun r => r = l := by
    unfold ref15_Copy
    refine .join (fun r => r = l) (fun k hk => ?_) fun r hr => .ret hr
    refine .forX (fun i s => s = l.take i) rfl (fun s hs => hk _ (by rw [hs, List.take_length])) ?_
    rintro next x i s hx rfl hn
    have := (List.getElem?_eq_some_iff.1 hx).1
    have := h2 x (List.mem_of_getElem? hx)
    refine .bind (.apnd (by decide) (by simp; omega)) fun _ _ => .bind (.apnd (by decide) (by simp; omega)) fun v hv => hn _ ?_
    rw [hv, List.take_add_one, hx]
    rfl
  obtain ⟨r, h3, h4⟩ := this
  rw [h3, h4]
theorem ref23_CopyAttrs_eq {n : Nat} {a : Attrs} (h : SmA n a) (hn : n ≤ 100000) : ref23_CopyAttrs a = some a := by
  have : Ok (ref23_CopyAttrs a) fun r => r = a := by
    unfold ref23_CopyAttrs
    have h0 := h.p; have h1 := h.s; have h2 := h.c; have h3 := h.l; have h4 := h.o; have h5 := h.d
    refine .join (fun r => r = a.Path) (fun k hk => ?_) fun r hr => ?_
    · refine .forX (fun i s => s = a.Path.take i) rfl (fun s hs => hk _ (by rw [hs, List.take_length])) ?_
      rintro next x i s hx rfl hnx
      have := (List.getElem?_eq_some_iff.1 hx).1
      have := h1 x (List.mem_of_getElem? hx)
      refine .bind (.apnd (by decide) (by simp; omega)) fun _ _ => .bind (.apnd (by decide) (by simp; omega)) fun v hv => hnx _ ?_
      rw [hv, List.take_add_one, hx]
      rfl
    · refine .bind (.apnd (by decide) (by simp; omega)) fun _ _ => .bind (.apnd (by decide) (by simp; omega)) fun _ _ => ?_
      refine .join (fun r => r = a.Other) (fun k hk => ?_) fun o ho => .ret (by rw [hr, ho])
      refine .forX (fun i s => s = a.Other.take i) rfl (fun s hs => hk _ (by rw [hs, List.take_length])) ?_
      rintro next x i s hx rfl hnx
      have := (List.getElem?_eq_some_iff.1 hx).1
      have := h5 x (List.mem_of_getElem? hx)
      refine .bind (.apnd (by decide) (by simp; omega)) fun _ _ => .bind (.apnd (by decide) (by simp; omega)) fun v hv => hnx _ ?_
      rw [hv, List.take_add_one, hx]
      rfl
  obtain ⟨r, h3, h4⟩ := this
  rw [h3, h4]
theorem ref26_Copy_eq {p : Policy} (h : SmP p) : ref26_Copy p = some p := by
  have := h.d; have := h.f
  have : Ok (ref26_Copy p) fun r => r = p := by
    unfold ref26_Copy
    exact .bind (.apnd (by decide) (by simp; omega)) fun _ _ => .bind (.apnd (by decide) (by simp; omega)) fun _ _ => .ret rfl
  obtain ⟨r, h3, h4⟩ := this
  rw [h3, h4]
theorem ref25_Copy_eq {n : Nat} {b : RIB} (h : SmB n b) (hn : n ≤ 100000) : ref25_Copy b = some b := by
  have h0 := h.l; have h1 := h.x
  have : Ok (ref25_Copy b) fun r => r = b := by
    unfold ref25_Copy
    refine .bind (.apnd (by decide) (by simp; omega)) fun _ _ => ?_
    refine .join (fun r => r = b.Held) (fun k hk => ?_) fun r hr => .ret (by rw [hr])
    refine .forX (fun i s => s = b.Held.take i) rfl (fun s hs => hk _ (by rw [hs, List.take_length])) ?_
    rintro next x i s hx rfl hnx
    have := (List.getElem?_eq_some_iff.1 hx).1
    rw [ref23_CopyAttrs_eq (h.a x (List.mem_of_getElem? hx)) (by omega), some_bind']
    refine .bind (.apnd (by decide) (by simp; omega)) fun v hv => hnx _ ?_
    rw [hv, List.take_add_one, hx]
    rfl
  obtain ⟨r, h3, h4⟩ := this
  rw [h3, h4]
theorem ref24_CopyFilter_eq {f : Filter} (h : SmF f) : ref24_CopyFilter f = some f := by
  have h1 := h.l; have h2 := h.b; have h3 := h.p; have h4 := h.e; have h5 := h.o; have h6 := h.g.n; have h7 := h.g.o
  have : Ok (ref24_CopyFilter f) fun r => r = f := by
    unfold ref24_CopyFilter
    refine .bind (.apnd (by decide) (by simp; omega)) fun _ _ => .bind (.apnd (by decide) (by simp; omega)) fun _ _ => .bind (.apnd (by decide) (by simp; omega)) fun _ _ => .bind (.apnd (by decide) (by simp; omega)) fun _ _ => ?_
    refine .bind (.apnd (by decide) (by simp; omega)) fun _ _ => .bind (.apnd (by decide) (by simp; omega)) fun _ _ => ?_
    refine .join (fun r => r = f.Registry.Sets) (fun k hk => ?_) fun r hr => .ret (by rw [hr])
    refine .forX (fun i s => s = f.Registry.Sets.take i) rfl (fun s hs => hk _ (by rw [hs, List.take_length])) ?_
    rintro next x i s hx rfl hnx
    have := (List.getElem?_eq_some_iff.1 hx).1
    obtain ⟨_, g1, g2, _⟩ := h.g.s x (List.mem_of_getElem? hx)
    refine .bind (.apnd (by decide) (by simp; omega)) fun _ _ => .bind (.apnd (by decide) (by simp; omega)) fun _ _ => .bind (.apnd (by decide) (by simp; omega)) fun v hv => hnx _ ?_
    rw [hv, List.take_add_one, hx]
    rfl
  obtain ⟨r, h3, h4⟩ := this
  rw [h3, h4]
theorem ref28_Copy_eq {s : Server} (h : SmS s) : ref28_Copy s = some s := by
  have h1 := h.n
  have : Ok (ref28_Copy s) fun r => r = s := by
    unfold ref28_Copy
    rw [ref24_CopyFilter_eq h.f, some_bind']
    refine .join (fun r => r = s.Policies) (fun k hk => ?_) fun p hp => ?_
    · refine .forX (fun i r => r = s.Policies.take i) rfl (fun r hr => hk _ (by rw [hr, List.take_length])) ?_
      rintro next x i r hx rfl hnx
      have := (List.getElem?_eq_some_iff.1 hx).1
      rw [ref26_Copy_eq (h.p x (List.mem_of_getElem? hx)), some_bind']
      refine .bind (.apnd (by decide) (by simp; omega)) fun v hv => hnx _ ?_
      rw [hv, List.take_add_one, hx]
      rfl
    · refine .join (fun r => r = s.RIBs) (fun k hk => ?_) fun b hb => .ret (by rw [hp, hb])
      refine .forX (fun i r => r = s.RIBs.take i) rfl (fun r hr => hk _ (by rw [hr, List.take_length])) ?_
      rintro next x i r hx rfl hnx
      have := (List.getElem?_eq_some_iff.1 hx).1
      have := h.r
      rw [ref25_Copy_eq (h.b x (List.mem_of_getElem? hx)) (by omega), some_bind']
      refine .bind (.apnd (by decide) (by simp; omega)) fun v hv => hnx _ ?_
      rw [hv, List.take_add_one, hx]
      rfl
  obtain ⟨r, h3, h4⟩ := this
  rw [h3, h4]
end Go.AX.Q35
end
section
namespace Go.AX.Q35
open Go Go.AX
set_option maxRecDepth 8000
theorem SmA.mono {n m : Nat} {a : Attrs} (h : SmA n a) (hnm : n ≤ m) : SmA m a :=
  ⟨Nat.le_trans h.p hnm, fun s hs => Nat.le_trans (h.s s hs) hnm, Nat.le_trans h.c hnm, Nat.le_trans h.l hnm, Nat.le_trans h.o hnm, fun u hu => Nat.le_trans (h.d u hu) hnm⟩
theorem SmA.zero (n : Nat) (x : Addr) (a b c d : Int) : SmA n ⟨a, [], x, b, c, d, [], [], []⟩ := ⟨Nat.zero_le _, fun _ h => absurd h (by simp), Nat.zero_le _, Nat.zero_le _, Nat.zero_le _, fun _ h => absurd h (by simp)⟩
theorem ref15_Prepend_tt {n : Nat} {l : List Segment} {a m : Int} (h1 : l.length ≤ n) (h2 : ∀ s ∈ l, s.ASNs.length ≤ n) (hn : n ≤ 5000) :
    Ok (ref15_Prepend l a m) fun r => r.1.length ≤ n + 100 ∧ ∀ s ∈ r.1, s.ASNs.length ≤ n + 100 := by
  unfold ref15_Prepend
  have := ref15_Valid_tt (l := l) (by omega) (fun s hs => by have := h2 s hs; omega)
  refine .join (fun v => v = false → 0 ≤ m) (fun k hk => ?_) fun v hv => .ite (fun _ => .ret ⟨by simp, by simp⟩) fun hv' => ?_
  · refine .bind Ok.of fun _ _ => .ite (fun _ => hk _ (by simp)) fun _ => .ite (fun _ => hk _ (by simp)) fun _ => .ite (fun _ => hk _ (by simp)) fun _ => hk _ fun h => ?_
    simp at h
    exact h
  have hm0 : 0 ≤ m := hv (by simpa using hv')
  refine .bind (ref15_Flat_tt h1 h2 (by omega)) fun f hf => .ite (fun _ => .ret ⟨by simp, by simp⟩) fun hm => ?_
  have hfl : f.length ≤ n * n := by
    rw [hf, List.length_flatMap]
    have : ∀ (l : List Segment) (h2 : ∀ s ∈ l, s.ASNs.length ≤ n), (l.map fun s => s.ASNs.length).sum ≤ l.length * n := by
      intro l
      induction l with
      | nil => intro _; simp
      | cons s l ih => intro h2; have := ih fun s hs => h2 s (by simp [hs]); have := h2 s (by simp); simp only [List.map_cons, List.sum_cons, List.length_cons, Nat.add_mul]; omega
    exact Nat.le_trans (this l h2) (Nat.mul_le_mul_right n h1)
  have hnn : n * n ≤ 5000 * 5000 := Nat.mul_le_mul hn hn
  have hm64 : m ≤ 64 := by
    rw [i64w_id (by omega)] at hm
    simp at hm
    omega
  rw [ref15_Copy_tt (by omega) (fun s hs => by have := h2 s hs; omega), some_bind']
  refine .ite (fun _ => .ret ⟨by simp only; omega, fun s hs => by have := h2 s hs; omega⟩) fun _ => ?_
  refine .join (fun r : List Int => r.length ≤ 64) (fun k hk => ?_) fun r hr => ?_
  · refine .whileI (fun s : Int × List Int => 0 ≤ s.1 ∧ s.1 ≤ m ∧ s.2.length = s.1.toNat) (fun s => (m - s.1).toNat) ⟨by simp, by simpa using hm0, by simp⟩ (lt_fuel (by simp only; omega)) ?_
    rintro next ⟨p, r⟩ ⟨g1, g2, g3⟩ hnx
    simp only at g1 g2 g3
    refine .ite (fun hc => ?_) fun _ => hk _ (by omega)
    simp only [decide_eq_true_eq] at hc
    refine .bind (.apnd (by decide) (by simp; omega)) fun w hw => ?_
    rw [i64w_id (by omega)]
    refine hnx _ ⟨by simp only; omega, by simp only; omega, ?_⟩ (by simp only; omega)
    simp only [hw, List.length_append, List.length_singleton]
    omega
  · rw [some_bind']
    refine .join (fun v => v = true → 0 < l.length) (fun k hk => .ite (fun hc => ?_) fun _ => hk _ (by simp)) fun v hv => ?_
    · simp only [decide_eq_true_eq] at hc
      exact .bind (.geti (by omega)) fun _ _ => hk _ fun _ => by omega
    refine .join (fun p : List Segment × List Int => p.1.length ≤ n ∧ (∀ s ∈ p.1, s.ASNs.length ≤ n) ∧ p.2.length ≤ n + 64) (fun k hk => .ite (fun hc => ?_) fun _ => hk _ ⟨h1, h2, by simp only; omega⟩) ?_
    · have hl := hv hc
      refine .bind (.geti (by omega)) fun s hs => ?_
      have := h2 s hs.1
      refine .bind (.apnd (by decide) (by omega)) fun w hw => .bind (.part ⟨by omega, by omega, Int.le_refl _⟩) fun q hq => hk _ ⟨?_, ?_, ?_⟩
      · simp only [hq.1, List.length_take, List.length_drop]; omega
      · intro s hs
        simp only [hq.1] at hs
        exact h2 s (List.drop_subset _ _ (List.mem_of_mem_take hs))
      · simp only [hw, List.length_append]; omega
    · rintro ⟨p, q⟩ ⟨g1, g2, g3⟩
      simp only at g1 g2 g3
      refine .bind (.apnd (by decide) (by simp; omega)) fun w hw => .ret ⟨by simp only [hw, List.length_append, List.length_singleton]; omega, fun s hs => ?_⟩
      simp only [hw, List.mem_append, List.mem_singleton] at hs
      rcases hs with rfl | hs
      · simp only; omega
      · have := g2 s hs; omega
theorem ref26_Strip_tt {n : Nat} {o : Int} {a : Attrs} (h : SmA n a) (hn : n ≤ 100000) : Ok (ref26_Strip o a) fun r => r.Path = a.Path ∧ r.Other = a.Other ∧ r.Communities = a.Communities.filter (fun c => c.A != 0 && c.A != o) ∧ r.Large = a.Large.filter (fun c => c.A != o) ∧
    r.Origin = a.Origin ∧ r.Next = a.Next ∧ r.MED = a.MED ∧ r.Pref = a.Pref ∧ r.OTC = a.OTC := by
  have hc := h.c; have hl := h.l
  unfold ref26_Strip
  rw [ref23_CopyAttrs_eq h hn, some_bind']
  refine .join (fun r => r = a.Communities.filter (fun c => c.A != 0 && c.A != o)) (fun k hk => ?_) fun cs hcs => ?_
  · refine .forX (fun i r => r = (a.Communities.take i).filter (fun c => c.A != 0 && c.A != o)) rfl (fun r hr => hk _ (by rw [hr, List.take_length])) ?_
    rintro next x i r hx rfl hnx
    have hi := (List.getElem?_eq_some_iff.1 hx).1
    refine .join (fun b => b = (x.A != 0 && x.A != o)) (fun k2 hk2 => .ite (fun h => hk2 _ (by rw [h, Bool.true_and]; rfl)) fun h => hk2 _ (by simp at h; simp [h])) fun b hb => ?_
    refine .join (fun r => r = (a.Communities.take (i + 1)).filter (fun c => c.A != 0 && c.A != o)) (fun k2 hk2 => .ite (fun h => ?_) fun h => hk2 _ ?_) fun r hr => hnx _ hr
    · refine .bind (.apnd (by decide) ?_) fun w hw => hk2 _ ?_
      · have := List.length_filter_le (fun c : Community => c.A != 0 && c.A != o) (a.Communities.take i)
        simp at this ⊢; omega
      · rw [hw, List.take_add_one, hx, List.filter_append]
        rw [hb] at h
        simp only [Option.toList_some, List.filter_cons, h, if_true, List.filter_nil]
    · rw [hb] at h
      rw [List.take_add_one, hx, List.filter_append]
      simp only [Option.toList_some, List.filter_cons, h, if_false, List.filter_nil, List.append_nil]
      simp
  · refine .join (fun r => r = a.Large.filter (fun c => c.A != o)) (fun k hk => ?_) fun ls hls => .ret ⟨rfl, rfl, hcs, hls, rfl, rfl, rfl, rfl, rfl⟩
    refine .forX (fun i r => r = (a.Large.take i).filter (fun c => c.A != o)) rfl (fun r hr => hk _ (by rw [hr, List.take_length])) ?_
    rintro next x i r hx rfl hnx
    have hi := (List.getElem?_eq_some_iff.1 hx).1
    refine .join (fun r => r = (a.Large.take (i + 1)).filter (fun c => c.A != o)) (fun k2 hk2 => .ite (fun h => ?_) fun h => hk2 _ ?_) fun r hr => hnx _ hr
    · refine .bind (.apnd (by decide) ?_) fun w hw => hk2 _ ?_
      · have := List.length_filter_le (fun c : Large => c.A != o) (a.Large.take i)
        simp at this ⊢; omega
      · rw [hw, List.take_add_one, hx, List.filter_append]
        simp only [Option.toList_some, List.filter_cons, h, if_true, List.filter_nil]
    · rw [List.take_add_one, hx, List.filter_append]
      simp only [Option.toList_some, List.filter_cons, h, if_false, List.filter_nil, List.append_nil]
      simp
theorem ref23_Send_tt {n : Nat} {r o : Int} {a : Attrs} (h : SmA n a) : Ok (ref23_Send r o a) fun x => SmA n x.1 := by
  unfold ref23_Send
  refine .bind Ok.of fun _ _ => .ite (fun _ => .ret (.zero ..)) fun _ => .join (fun _ => True) (fun k hk => Ok.q) fun _ _ => .join (fun _ => True) (fun k hk => Ok.q) fun _ _ => ?_
  refine .ite (fun _ => .ret (.zero ..)) fun _ => .join (fun _ => True) (fun k hk => Ok.q) fun _ _ => .join (fun _ => True) (fun k hk => Ok.q) fun _ _ => .ret ?_
  exact ⟨h.p, h.s, h.c, h.l, h.o, h.d⟩
instance (o : Int) (a : Attrs) (n : Int) : Tt (ref26_Prepends o a n) := by
  unfold ref26_Prepends
  refine Ok.tt (Q := fun _ => True) (.join (fun _ => True) (fun k hk => ?_) fun _ _ => .ret trivial)
  refine .for_ (fun _ => hk _ trivial) fun next x i s hi hx hnx => .join (fun _ => True) (fun k2 hk2 => .join (fun _ => True) (fun k3 hk3 => ?_) fun _ _ => hk2 _ trivial) fun _ _ => hnx _
  refine .whileI (fun v : Int => 0 ≤ v ∧ v ≤ 3) (fun v => v.toNat) (by omega) (lt_fuel (by decide)) fun next v hv hn => .ite (fun hc => ?_) fun _ => hk3 _ trivial
  simp only [decide_eq_true_eq] at hc
  refine .bind Ok.of fun _ _ => .ite (fun _ => .ret trivial) fun _ => ?_
  rw [i64w_id (by omega)]
  exact hn _ (by omega) (by omega)
theorem ref15_Has_tt {n : Nat} {l : List Segment} {a : Int} (h1 : l.length ≤ n) (h2 : ∀ s ∈ l, s.ASNs.length ≤ n) (hn : n ≤ 10000) : Tt (ref15_Has l a) := by
  unfold ref15_Has
  have := (ref15_Flat_tt h1 h2 hn).tt
  exact Tt.auto
theorem ref26_Verdict_tt {n : Nat} {o : Int} {r : Route} {p : Policy} (hr : SmA n r.Attrs) (hn : n ≤ 10000) : Tt (ref26_Verdict o r p) := by
  unfold ref26_Verdict
  have := ref15_Has_tt (a := p.ASN) hr.p hr.s hn
  exact Tt.auto
theorem ref26_Export_tt {n : Nat} {o : Int} {r : Route} {p : Policy} (hr : SmA n r.Attrs) (hp : SmP p) (hn : n ≤ 5000) : Ok (ref26_Export o r p) fun x => SmA (n + 100) x.1.Attrs := by
  unfold ref26_Export
  have := ref18_Valid_tt hr (by omega)
  have := ref26_Verdict_tt (o := o) (p := p) hr (by omega)
  have := ref26_Check_tt (a := p) (by have := hp.d; omega) (by have := hp.f; omega)
  refine .join (fun _ => True) (fun k hk => Ok.q) fun _ _ => .ite (fun _ => .ret (.zero ..)) fun _ => ?_
  refine .bind Ok.of fun _ _ => .ite (fun _ => .ret (.zero ..)) fun _ => .bind Ok.of fun _ _ => .ite (fun _ => .ret (.zero ..)) fun _ => .bind Ok.of fun _ _ => ?_
  refine .bind (ref15_Prepend_tt hr.p hr.s hn) ?_
  rintro ⟨q, e⟩ ⟨g1, g2⟩
  simp only at g1 g2
  refine .ite (fun _ => .ret (.zero ..)) fun _ => .bind (ref26_Strip_tt hr (by omega)) fun a ha => ?_
  obtain ⟨a1, a2, a3, a4, _⟩ := ha
  have hs : SmA (n + 100) ({ a with Path := q, Pref := (-1) }) := by
    refine ⟨g1, g2, ?_, ?_, ?_, ?_⟩
    · simp only [a3]; exact Nat.le_trans (List.length_filter_le _ _) (Nat.le_trans hr.c (by omega))
    · simp only [a4]; exact Nat.le_trans (List.length_filter_le _ _) (Nat.le_trans hr.l (by omega))
    · simp only [a2]; exact Nat.le_trans hr.o (by omega)
    · simp only [a2]; exact fun u hu => Nat.le_trans (hr.d u hu) (by omega)
  refine .bind (ref23_Send_tt hs) ?_
  rintro ⟨x, e2⟩ hx
  exact .ret hx
theorem ref25_Get_tt {n : Nat} {b : RIB} {p : Prefix} (h : SmB n b) : Ok (ref25_Get b p) fun x => SmA 1000 x.1.Route.Attrs ∧ (x.2 = true → x.1 ∈ b.Held ∧ Prefix.eqd x.1.Route.Prefix p = true) := by
  unfold ref25_Get
  refine .join (fun _ => True) (fun k hk => ?_) fun _ _ => .ret ⟨.zero .., by simp⟩
  refine .for_ (fun _ => hk _ trivial) fun next x i s hi hx hnx => .ite (fun hc => .ret ⟨h.a x hx, fun _ => ⟨hx, hc⟩⟩) fun _ => hnx _
theorem ref25_Accepted_tt {n : Nat} {b : RIB} {p : Prefix} (h : SmB n b) : Ok (ref25_Accepted b p) fun x => SmA 1000 x.1.Attrs ∧ (x.2 = true → ∃ y ∈ b.Held, y.Route = x.1 ∧ y.Reason = 0 ∧ Prefix.eqd x.1.Prefix p = true) := by
  unfold ref25_Accepted
  refine .bind (ref25_Get_tt h) ?_
  rintro ⟨y, c⟩ ⟨h1, h2⟩
  simp only at h1 h2
  refine .join (fun v => v = true → y ∈ b.Held ∧ Prefix.eqd y.Route.Prefix p = true ∧ y.Reason = 0) (fun k hk => .ite (fun hc => hk _ fun hr => ⟨(h2 hc).1, (h2 hc).2, by simpa using hr⟩) fun _ => hk _ (by simp)) fun v hv => .ite (fun hc => ?_) fun _ => .ret ⟨.zero .., by simp⟩
  obtain ⟨g1, g2, g3⟩ := hv hc
  exact .ret ⟨h1, fun _ => ⟨y, g1, rfl, g3, g2⟩⟩
theorem ref28_At_tt (s : Server) (n : Int) : Ok (ref28_At s n) fun i => i = -1 ∨ ∃ p, 0 ≤ i ∧ i < s.Policies.length ∧ s.Policies[i.toNat]? = some p ∧ p.ASN = n := by
  unfold ref28_At
  refine .join (fun _ => True) (fun k hk => ?_) fun _ _ => .ret (.inl rfl)
  refine .forX (fun _ _ => True) trivial (fun _ _ => hk _ trivial) fun next x i s' hx _ hnx => .ite (fun hc => .ret (.inr ⟨x, by omega, by have := (List.getElem?_eq_some_iff.1 hx).1; omega, by simpa using hx, by simpa using hc⟩)) fun _ => hnx _ trivial
def SmR (n m : Nat) (l : List Route) : Prop := l.length ≤ n ∧ ∀ r ∈ l, SmA m r.Attrs
theorem ref28_Candidates_tt {s : Server} {n : Int} {p : Prefix} (h : SmS s) : Ok (ref28_Candidates s n p) fun l => SmR 100 1100 l ∧ (0 < l.length → ∃ i, ref28_At s n = some i ∧ 0 ≤ i) := by
  unfold ref28_Candidates
  have hr := h.r
  have hnn := h.n
  obtain ⟨i, hAt, hi⟩ := ref28_At_tt s n
  rw [hAt, some_bind']
  refine .join (fun v => v = false → 0 ≤ i) (fun k hk => .ite (fun _ => hk _ (by simp)) fun hc => ?_) fun v hv => .ite (fun _ => .ret ⟨⟨by simp, by simp⟩, by simp⟩) fun hv' => ?_
  · simp at hc
    refine .bind (.geti (by rcases hi with rfl | ⟨p, h1, h2, _⟩ <;> omega)) fun _ _ => hk _ fun _ => hc
  have hi0 := hv (by simpa using hv')
  have hil : 0 ≤ i ∧ i < s.Policies.length := by rcases hi with rfl | ⟨p, h1, h2, _⟩ <;> omega
  refine .join (fun l => SmR 100 1100 l) (fun k hk => ?_) fun l hl => .ret ⟨hl, fun _ => ⟨i, rfl, hi0⟩⟩
  refine .forI (fun j l => SmR j 1100 l) ⟨by simp, by simp⟩ (fun l hl => hk _ ⟨by have := hl.1; omega, hl.2⟩) fun next b j l hj hb hl hnx => ?_
  refine .join (fun l => SmR (j + 1) 1100 l) (fun k2 hk2 => ?_) fun l hl => hnx _ hl
  refine .bind (ref25_Accepted_tt (h.b b hb)) ?_
  rintro ⟨r, c⟩ ⟨g1, g2⟩
  simp only at g1 g2
  refine .ite (fun _ => hk2 _ ⟨by have := hl.1; omega, hl.2⟩) fun _ => .bind (.geti hil) fun q hq => ?_
  refine .bind (ref26_Export_tt g1 (h.p q hq.1) (by omega)) ?_
  rintro ⟨x, v, e⟩ hx
  simp only at hx
  refine .join (fun _ => True) (fun k3 hk3 => Ok.q) fun _ _ => ?_
  refine .join (fun l => SmR (j + 1) 1100 l) (fun k3 hk3 => .ite (fun _ => ?_) fun _ => hk3 _ ⟨by have := hl.1; omega, hl.2⟩) fun l hl => hk2 _ hl
  refine .bind (.apnd (by decide) (by have := hl.1; simp; omega)) fun w hw => hk3 _ ?_
  subst hw
  refine ⟨by have := hl.1; simp; omega, fun r hr => ?_⟩
  simp only [List.mem_append, List.mem_singleton] at hr
  rcases hr with hr | rfl
  · exact hl.2 r hr
  · exact hx
instance (p : Policy) (a b : Route) : Tt (ref27_Compare p a b) := by
  unfold ref27_Compare
  refine Ok.tt (Q := fun _ => True) (.bind Ok.of fun x _ => .bind Ok.of fun y _ => .join (fun _ => True) (fun k hk => ?_) fun _ _ => .ret trivial)
  refine .whileI (fun v : Int => 0 ≤ v ∧ v ≤ 5) (fun v => (5 - v).toNat) (by omega) (lt_fuel (by decide)) fun next v hv hn => .ite (fun hc => ?_) fun _ => hk _ trivial
  simp only [decide_eq_true_eq] at hc
  refine .bind (.geti (by simp; omega)) fun _ _ => .bind (.geti (by simp; omega)) fun _ _ => .ite (fun _ => .ret trivial) fun _ => .bind (.geti (by simp; omega)) fun _ _ => .bind (.geti (by simp; omega)) fun _ _ => .ite (fun _ => .ret trivial) fun _ => ?_
  rw [i64w_id (by omega)]
  exact hn _ (by omega) (by omega)
theorem ref27_Best_tt {p : Policy} {l : List Route} (h0 : 0 < l.length) : Ok (ref27_Best p l) fun x => 0 ≤ x.1 ∧ x.1 < l.length := by
  unfold ref27_Best
  refine .join (fun v : Int => 0 ≤ v ∧ v < l.length) (fun k hk => ?_) fun v hv => .ret hv
  refine .forI (fun _ (v : Int) => 0 ≤ v ∧ v < l.length) (by omega) (fun v hv => hk _ hv) fun next x i v hi hx hv hnx => ?_
  refine .bind (.geti hv) fun y _ => .bind Ok.of fun c _ => .join (fun v : Int => 0 ≤ v ∧ v < l.length) (fun k2 hk2 => .ite (fun _ => hk2 _ (by omega)) fun _ => hk2 _ hv) fun v hv => hnx _ hv
theorem ref28_Offer_tt {s : Server} {n : Int} {p : Prefix} (h : SmS s) : Ok (ref28_Offer s n p) fun x => SmA 1100 x.1.Attrs := by
  unfold ref28_Offer
  refine .bind (ref28_Candidates_tt h) fun l hl => .ite (fun _ => .ret (.zero ..)) fun hc => ?_
  have h0 : 0 < l.length := by simp at hc; exact List.length_pos_iff.2 hc
  obtain ⟨i, hAt, hi0⟩ := hl.2 h0
  obtain ⟨i', hAt', hi⟩ := ref28_At_tt s n
  obtain rfl : i = i' := by rw [hAt] at hAt'; exact Option.some.inj hAt'
  rw [hAt, some_bind']
  have hil : 0 ≤ i ∧ i < s.Policies.length := by rcases hi with rfl | ⟨q, h1, h2, _⟩ <;> omega
  refine .bind (.geti hil) fun q _ => .bind (ref27_Best_tt h0) ?_
  rintro ⟨v, c⟩ hv
  exact .bind (.geti hv) fun r hr => .ret (hl.1.2 r hr.1)
theorem ref28_All_tt {s : Server} {n : Int} (h : SmS s) : Ok (ref28_All s n) fun l => SmR 60000 1100 l := by
  unfold ref28_All
  refine .bind (ref28_Prefixes_tt h) fun ps hps => .join (fun l => SmR 60000 1100 l) (fun k hk => ?_) fun l hl => .ret hl
  refine .forI (fun j l => SmR j 1100 l) ⟨by simp, by simp⟩ (fun l hl => hk _ ⟨by have := hl.1; omega, hl.2⟩) fun next p j l hj hp hl hnx => ?_
  refine .bind (ref28_Offer_tt h) ?_
  rintro ⟨r, c⟩ hr
  simp only at hr
  refine .join (fun l => SmR (j + 1) 1100 l) (fun k3 hk3 => .ite (fun _ => ?_) fun _ => hk3 _ ⟨by have := hl.1; omega, hl.2⟩) fun l hl => hnx _ hl
  refine .bind (.apnd (by decide) (by have := hl.1; simp; omega)) fun w hw => hk3 _ ?_
  subst hw
  refine ⟨by have := hl.1; simp; omega, fun r' hr' => ?_⟩
  simp only [List.mem_append, List.mem_singleton] at hr'
  rcases hr' with hr' | rfl
  · exact hl.2 r' hr'
  · exact hr
theorem ref29_fill_tt {s : Server} (h : SmS s) : Ok (ref29_fill s) fun c => c.Server = s ∧ c.Offers.length = s.Policies.length ∧ ∀ l ∈ c.Offers, SmR 60000 1100 l := by
  unfold ref29_fill
  have hn := h.n
  refine .join (fun o : List (List Route) => o.length = s.Policies.length ∧ ∀ l ∈ o, SmR 60000 1100 l) (fun k hk => ?_) fun o ho => .ret ⟨rfl, ho⟩
  refine .forI (fun j o => o.length = j ∧ ∀ l ∈ o, SmR 60000 1100 l) ⟨rfl, by simp⟩ (fun o ho => hk _ ho) fun next p j o hj hp ho hnx => ?_
  refine .bind (ref28_All_tt h) fun l hl => .bind (.apnd (by decide) (by have := ho.1; simp; omega)) fun w hw => hnx _ ?_
  subst hw
  refine ⟨by simp [ho.1], fun l' hl' => ?_⟩
  simp only [List.mem_append, List.mem_singleton] at hl'
  rcases hl' with hl' | rfl
  · exact ho.2 l' hl'
  · exact hl
theorem ref29_Begin_tt {s : Server} (h : SmS s) : Ok (ref29_Begin s) fun c => (c.2 = 0 ∧ ref28_Valid s = some true ∧ c.1.Server = s ∧ c.1.Offers.length = s.Policies.length ∧ ∀ l ∈ c.1.Offers, SmR 60000 1100 l) ∨ (c.2 = 1 ∧ ref28_Valid s = some false) := by
  unfold ref29_Begin
  have := ref28_Valid_tt h
  obtain ⟨v, hv⟩ := this.h
  rw [hv, some_bind', ref28_Copy_eq h]
  refine .ite (fun hc => .ret (.inr ⟨rfl, by simp at hc; rw [hc]⟩)) fun hc => ?_
  rw [some_bind']
  refine .bind (ref29_fill_tt h) fun c hcc => .ret (.inl ⟨rfl, by simp at hc; rw [hc], hcc⟩)
end Go.AX.Q35
end
section
namespace Go.AX.Q35
open Go Go.AX
set_option maxRecDepth 8000
instance (a b : List Segment) : Tt (ref15_Same a b) := by
  unfold ref15_Same
  refine Ok.tt (Q := fun _ => True) (.ite (fun _ => .ret trivial) fun hl => .join (fun _ => True) (fun k hk => ?_) fun _ _ => .ret trivial)
  have hl : a.length = b.length := by simp at hl; omega
  refine .for_ (fun _ => hk _ trivial) fun next x i s hi hx hnx => .join (fun _ => True) (fun k2 hk2 => ?_) fun _ _ => hnx _
  have hib : i < b.length := by omega
  refine .join (fun c => c = false → x.ASNs.length = b[i].ASNs.length) (fun k3 hk3 => ?_) fun c hc => .ite (fun _ => .ret trivial) fun hc' => .join (fun _ => True) (fun k4 hk4 => ?_) fun _ _ => hk2 _ trivial
  · rw [geti_nat hib, some_bind']
    refine .ite (fun _ => hk3 _ (by simp)) fun _ => ?_
    rw [some_bind']
    exact hk3 _ fun h => by simp at h; omega
  · have := hc (by simpa using hc')
    refine .for_ (fun _ => hk4 _ trivial) fun next y j s hj hy hny => ?_
    rw [geti_nat hib, some_bind']
    refine .bind (.geti (by omega)) fun _ _ => .ite (fun _ => .ret trivial) fun _ => hny _
instance (a b : Attrs) : Tt (ref18_Same a b) := by unfold ref18_Same; exact Tt.auto
theorem ref18_word_tt {v : Int} {n : Nat} (hn : n ≤ 100) : Ok (ref18_word v n) fun l => l.length = n := by
  unfold ref18_word
  refine .join (fun l => l.length = n) (fun k hk => ?_) fun l hl => .ret hl
  refine .whileI (fun s : Int × List UInt8 => -1 ≤ s.1 ∧ s.1 + s.2.length = n - 1) (fun s => (s.1 + 1).toNat) ?_ ?_ ?_
  · rw [i64w_id (by omega)]; simp; omega
  · rw [i64w_id (by omega)]; exact lt_fuel (by simp only; omega)
  · rintro next ⟨p, l⟩ ⟨h1, h2⟩ hnx
    simp only at h1 h2
    refine .ite (fun hc => ?_) fun hc => hk _ (by simp at hc; omega)
    simp only [decide_eq_true_eq] at hc
    refine .bind (.apnd (by decide) (by simp; omega)) fun w hw => ?_
    rw [i64w_id (by omega)]
    refine hnx _ ⟨by simp only; omega, ?_⟩ (by simp only; omega)
    simp only [hw, List.length_append, List.length_singleton]
    omega
theorem mget_mset' {K V : Type} [BEq K] (hl : ∀ a b : K, (a == b) = true ↔ a = b) {l : List (K × V)} {k k' : K} {v : V} : mget (mset l k v) k' = cond (k' == k) (some v) (mget l k') := by
  induction l with
  | nil => simp only [mset, mget]; cases k' == k <;> rfl
  | cons p l ih =>
    simp only [mset]
    cases h : (k == p.1)
    · simp only [Bool.false_eq_true, if_false, mget, ih]
      cases h2 : (k' == p.1)
      · simp
      · have h3 : (k' == k) = false := by
          cases h4 : (k' == k)
          · rfl
          · have e1 := (hl _ _).1 h2; have e2 := (hl _ _).1 h4
            rw [← e2, e1, (hl _ _).2 rfl] at h
            simp at h
        rw [h3]; simp
    · simp only [if_true, mget]
      have e := (hl _ _).1 h
      rw [← e]
      cases k' == k <;> simp
theorem mget_mset {V : Type} {l : List (Int × V)} {k k' : Int} {v : V} : mget (mset l k v) k' = if k' = k then some v else mget l k' := by
  rw [mget_mset' (fun a b => beq_iff_eq)]
  by_cases h : k' = k
  · rw [if_pos h, h]; simp
  · rw [if_neg h, show (k' == k) = false by simpa using h]; rfl
theorem mget_msetB {V : Type} {l : List (ByteArray × V)} {k k' : ByteArray} {v : V} : mget (mset l k v) k' = if k' = k then some v else mget l k' := by
  rw [mget_mset' Go.MapKept.bytes_beq]
  by_cases h : k' = k
  · rw [if_pos h, h, (Go.MapKept.bytes_beq _ _).2 rfl]; rfl
  · rw [if_neg h]
    cases hb : (k' == k)
    · rfl
    · exact absurd ((Go.MapKept.bytes_beq _ _).1 hb) h
def Mb (n : Nat) (ks : List Int) (m : List (Int × List UInt8)) : Prop := (∀ k v, mget m k = some v → v.length ≤ n) ∧ ∀ k ∈ ks, mget m k = none
theorem Mb.set {n : Nat} {ks ks' : List Int} {m : List (Int × List UInt8)} {k : Int} {v : List UInt8} (h : Mb n ks m) (hv : v.length ≤ n) (hk : ∀ q ∈ ks', q ∈ ks ∧ q ≠ k) : Mb n ks' (mset m k v) := by
  refine ⟨fun q u hq => ?_, fun q hq => ?_⟩
  · rw [mget_mset] at hq
    split at hq
    · obtain rfl := Option.some.inj hq; exact hv
    · exact h.1 _ _ hq
  · rw [mget_mset, if_neg (hk q hq).2]
    exact h.2 q (hk q hq).1
theorem Mb.sub {n : Nat} {ks ks' : List Int} {m : List (Int × List UInt8)} (h : Mb n ks m) (hk : ∀ q ∈ ks', q ∈ ks) : Mb n ks' m := ⟨h.1, fun q hq => h.2 q (hk q hq)⟩
structure SmU (n m : Nat) (q : List Unknown) : Prop where
  l : q.length ≤ n
  d : ∀ u ∈ q, u.Data.length ≤ m
theorem ref18_Write_tt {a : Attrs} (h : SmA 1100 a) : Ok (ref18_Write a) fun r => SmU 290000 6000000 r.1 := by
  have hp := h.p; have hs := h.s; have hc := h.c; have hl := h.l; have ho := h.o; have hd := h.d
  unfold ref18_Write
  have := ref18_Valid_tt h (by omega)
  refine .bind Ok.of fun _ _ => .ite (fun _ => .ret ⟨by simp, by simp⟩) fun _ => ?_
  refine .join (Mb 6000000 [2, 3, 4, 5, 8, 32, 35]) (fun k hk => .ite (fun _ => hk _ ?_) fun _ => hk _ ⟨fun k v h => by simp [mget] at h, fun k h => by simp [mget]⟩) fun m0 hm0 => ?_
  · exact Mb.set (ks := [1, 2, 3, 4, 5, 8, 32, 35]) ⟨fun k v h => by simp [mget] at h, fun k h => by simp [mget]⟩ (by simp) (by decide)
  refine .join (fun _ => True) (fun k hk => Ok.q) fun _ _ => ?_
  refine .join (Mb 6000000 [3, 4, 5, 8, 32, 35]) (fun k hk => .ite (fun _ => ?_) fun _ => hk _ (hm0.sub (by decide))) fun m1 hm1 => ?_
  · have h45 : 4500 * a.Path.length ≤ 6000000 := by omega
    refine .join (fun l => l.length ≤ 6000000) (fun k2 hk2 => ?_) fun l hl' => hk _ (hm0.set hl' (by decide))
    refine .forI (fun i (l : List UInt8) => l.length ≤ 4500 * i) (by simp) (fun l hl' => hk2 _ (Nat.le_trans hl' h45)) fun next s i l hi hsm hl' hnx => ?_
    have hi' : 4500 * i ≤ 5000000 := by omega
    have hnx : ∀ w : List UInt8, w.length ≤ 4500 * i + 4500 → Ok (next w) fun r => SmU 290000 6000000 r.1 := fun w hw => hnx w (by rw [Nat.mul_add]; omega)
    generalize 4500 * i = q at *
    have hsl := hs s hsm
    refine .join (fun w => w.length ≤ q + 4500) (fun k3 hk3 => ?_) fun w hw => hnx _ hw
    refine .join (fun _ => True) (fun k4 hk4 => Ok.q) fun c _ => .bind (.apnd (by decide) (by simp; omega)) fun w hw => ?_
    refine .join (fun w => w.length ≤ q + 4500) (fun k4 hk4 => ?_) fun w hw => hk3 _ hw
    refine .forI (fun j (w : List UInt8) => w.length ≤ q + 2 + 4 * j) (by rw [hw]; simp; omega) (fun w hw => hk4 _ (by omega)) fun next n j w hj hn hw hnx2 => ?_
    refine .bind (ref18_word_tt (n := 4) (by decide)) fun b hb => .bind (.apnd (by decide) (by omega)) fun w' hw' => hnx2 _ (by rw [hw', List.length_append]; omega)
  refine .join (fun _ => True) (fun k hk => Ok.q) fun c _ => ?_
  refine .join (Mb 6000000 [4, 5, 8, 32, 35]) (fun k hk => .ite (fun _ => ?_) fun _ => hk _ (hm1.sub (by decide))) fun m2 hm2 => ?_
  · by_cases hv : a.Next.ok = true
    · have hL : a.Next.L ≤ 16 := by unfold Addr.L; split <;> omega
      exact .bind (ref01_Bytes_tt hv) fun l hl' => hk _ (hm1.set (by omega) (by decide))
    · have : ref01_Bytes a.Next = some [] := by
        unfold ref01_Bytes
        rw [ref01_Valid_eq, some_bind', if_pos (by simpa using hv)]
      rw [this, some_bind']
      exact hk _ (hm1.set (by simp) (by decide))
  refine .join (Mb 6000000 [5, 8, 32, 35]) (fun k hk => .ite (fun _ => .bind (ref18_word_tt (n := 4) (by decide)) fun b hb => hk _ (hm2.set (by omega) (by decide))) fun _ => hk _ (hm2.sub (by decide))) fun m3 hm3 => ?_
  refine .join (Mb 6000000 [8, 32, 35]) (fun k hk => .ite (fun _ => .bind (ref18_word_tt (n := 4) (by decide)) fun b hb => hk _ (hm3.set (by omega) (by decide))) fun _ => hk _ (hm3.sub (by decide))) fun m4 hm4 => ?_
  refine .join (fun p : List (Int × List UInt8) × List UInt8 => Mb 6000000 [32, 35] p.1) (fun k hk => ?_) ?_
  · refine .bind (.chk (by rw [hm4.2 8 (by simp)]; rfl)) fun _ _ => ?_
    refine .forI (fun i (p : List (Int × List UInt8) × List UInt8) => Mb 6000000 [32, 35] p.1 ∧ p.2.length ≤ 4 * i) ⟨hm4.sub (by decide), by simp⟩ (fun p hp => hk _ hp.1) ?_
    rintro next c i ⟨m, w⟩ hi hcm ⟨g1, g2⟩ hnx
    simp only at g1 g2
    refine .bind (ref18_word_tt (n := 2) (by decide)) fun b1 hb1 => .bind (.apnd (by decide) (by omega)) fun w1 hw1 => .bind (ref18_word_tt (n := 2) (by decide)) fun b2 hb2 => .bind (.apnd (by decide) (by rw [hw1, List.length_append]; omega)) fun w2 hw2 => ?_
    have : w2.length ≤ 4 * (i + 1) := by rw [hw2, hw1, List.length_append, List.length_append]; omega
    exact hnx _ ⟨g1.set (by omega) (by decide), this⟩
  rintro ⟨m5, w5⟩ hm5
  simp only at hm5
  refine .join (fun p : List (Int × List UInt8) × List UInt8 => Mb 6000000 [35] p.1) (fun k hk => ?_) ?_
  · refine .bind (.chk (by rw [hm5.2 32 (by simp)]; rfl)) fun _ _ => ?_
    refine .forI (fun i (p : List (Int × List UInt8) × List UInt8) => Mb 6000000 [35] p.1 ∧ p.2.length ≤ 12 * i) ⟨hm5.sub (by decide), by simp⟩ (fun p hp => hk _ hp.1) ?_
    rintro next c i ⟨m, w⟩ hi hcm ⟨g1, g2⟩ hnx
    simp only at g1 g2
    refine .bind (ref18_word_tt (n := 4) (by decide)) fun b1 hb1 => .bind (.apnd (by decide) (by omega)) fun w1 hw1 => .bind (ref18_word_tt (n := 4) (by decide)) fun b2 hb2 => .bind (.apnd (by decide) (by rw [hw1, List.length_append]; omega)) fun w2 hw2 => ?_
    refine .bind (ref18_word_tt (n := 4) (by decide)) fun b3 hb3 => .bind (.apnd (by decide) (by rw [hw2, hw1, List.length_append, List.length_append]; omega)) fun w3 hw3 => ?_
    have : w3.length ≤ 12 * (i + 1) := by rw [hw3, hw2, hw1, List.length_append, List.length_append, List.length_append]; omega
    exact hnx _ ⟨g1.set (by omega) (by decide), this⟩
  rintro ⟨m6, w6⟩ hm6
  simp only at hm6
  refine .join (Mb 6000000 []) (fun k hk => .ite (fun _ => .bind (ref18_word_tt (n := 4) (by decide)) fun b hb => hk _ (hm6.set (by omega) (by decide))) fun _ => hk _ (hm6.sub (by decide))) fun m7 hm7 => ?_
  refine .join (fun l => SmU 290000 6000000 l) (fun k hk => ?_) fun l hl' => .ret hl'
  refine .whileI (fun s : Int × List Unknown => 0 ≤ s.1 ∧ s.1 ≤ 256 ∧ SmU (1101 * s.1.toNat) 6000000 s.2) (fun s => (256 - s.1).toNat) ⟨by simp, by simp, ⟨by simp, by simp⟩⟩ (lt_fuel (by decide)) ?_
  rintro next ⟨p, l⟩ ⟨h1, h2, h3⟩ hnx
  simp only at h1 h2 h3
  refine .ite (fun hcc => ?_) fun _ => hk _ ⟨by have := h3.l; omega, h3.d⟩
  simp only [decide_eq_true_eq] at hcc
  refine .join (fun l => SmU (1101 * p.toNat + 1101) 6000000 l) (fun k2 hk2 => ?_) fun l hl' => ?_
  · rw [some_bind', some_bind']
    have hval : ((mget m7 p).getD []).length ≤ 6000000 := by
      cases hq : mget m7 p with
      | none => simp
      | some v => exact hm7.1 _ _ hq
    have hl1 := h3.l
    refine .join (fun l => SmU (1101 * p.toNat + 1) 6000000 l) (fun k3 hk3 => .ite (fun _ => ?_) fun _ => hk3 _ ⟨by omega, h3.d⟩) fun l2 hl2 => ?_
    · refine .bind Ok.of fun f _ => .bind (.apnd (by decide) (by simp; omega)) fun _ _ => .bind (.apnd (by decide) (by simp; omega)) fun w hw => hk3 _ ?_
      subst hw
      refine ⟨by simp; omega, fun u hu => ?_⟩
      simp only [List.mem_append, List.mem_singleton] at hu
      rcases hu with hu | rfl
      · exact h3.d u hu
      · exact hval
    · refine .join (fun l => SmU (1101 * p.toNat + 1101) 6000000 l) (fun k3 hk3 => ?_) fun l hl' => hk2 _ hl'
      refine .forI (fun j l => SmU (1101 * p.toNat + 1 + j) 6000000 l) hl2 (fun l hl' => hk3 _ ⟨by have := hl'.l; omega, hl'.d⟩) fun next2 u j l hj hu hl' hnx2 => ?_
      have hl3 := hl'.l
      refine .join (fun l => SmU (1101 * p.toNat + 1 + (j + 1)) 6000000 l) (fun k4 hk4 => .ite (fun _ => ?_) fun _ => hk4 _ ⟨by omega, hl'.d⟩) fun l hl' => hnx2 _ hl'
      have := hd u hu
      refine .bind (.apnd (by decide) (by simp; omega)) fun _ _ => .bind (.apnd (by decide) (by simp; omega)) fun w hw => hk4 _ ?_
      subst hw
      refine ⟨by simp; omega, fun u' hu' => ?_⟩
      simp only [List.mem_append, List.mem_singleton] at hu'
      rcases hu' with hu' | rfl
      · exact hl'.d u' hu'
      · simp only; omega
  · rw [i64w_id (by omega)]
    refine hnx _ ⟨by simp only; omega, by simp only; omega, ⟨?_, hl'.d⟩⟩ (by simp only; omega)
    have := hl'.l
    simp only
    omega
end Go.AX.Q35
end
section
namespace Go.AX.Q35
open Go Go.AX
set_option maxRecDepth 8000
def goodP (p : Prefix) : Prop := p.Addr.ok = true ∧ 0 ≤ p.Len ∧ p.Len ≤ p.Addr.w ∧ p.Addr.cut p.Len.toNat = p.Addr
theorem Addr.eqd_iff (a b : Addr) : Addr.eqd a b = true ↔ a = b := by
  unfold Addr.eqd
  simp only [Bool.and_eq_true, beq_iff_eq, Bool.and_true, Int.natCast_inj, UInt64.toNat_inj]
  constructor
  · rintro ⟨h1, h2, h3⟩; cases a; cases b; simp_all
  · rintro rfl; exact ⟨rfl, rfl, rfl⟩
theorem Prefix.eqd_iff (a b : Prefix) : Prefix.eqd a b = true ↔ a = b := by
  have h := Addr.eqd_iff a.Addr b.Addr
  unfold Addr.eqd at h
  unfold Prefix.eqd
  rw [Bool.and_eq_true, h]
  simp only [Bool.and_true, beq_iff_eq]
  constructor
  · rintro ⟨h1, h2⟩; cases a; cases b; simp_all
  · rintro rfl; exact ⟨rfl, rfl⟩
theorem ref02_Valid_tt (p : Prefix) : Ok (ref02_Valid p) fun b => b = true ↔ goodP p := by
  obtain ⟨r, e, h1, h2⟩ := ref02_Make_eq p.Addr p.Len
  unfold ref02_Valid
  rw [h1, some_bind']
  dsimp only
  unfold goodP
  rcases h2 with ⟨h3, rfl, rfl⟩ | ⟨h3, h4⟩
  · refine .join (fun b => b = true ↔ p.Addr.cut p.Len.toNat = p.Addr) (fun k hk => .ite (fun _ => hk _ ?_) fun h => absurd rfl h) fun b hb => .ret (by rw [hb]; exact ⟨fun h => ⟨h3.1, h3.2.1, h3.2.2, h⟩, fun h => h.2.2.2⟩)
    show Prefix.eqd p _ = true ↔ _
    rw [Prefix.eqd_iff]
    exact ⟨fun h => (congrArg Prefix.Addr h).symm, fun h => by rw [h]⟩
  · refine .join (fun b => b = false) (fun k hk => .ite (fun h => absurd (by simpa using h) h4) fun _ => hk _ rfl) fun b hb => .ret ⟨fun h => by rw [hb] at h; simp at h, fun h => absurd ⟨h.1, h.2.1, h.2.2.1⟩ h3⟩
theorem ref01_Bytes_le (a : Addr) : Ok (ref01_Bytes a) fun l => l.length ≤ 16 ∧ (a.ok = true → l.length = a.L) := by
  by_cases hv : a.ok = true
  · have hL : a.L ≤ 16 := by unfold Addr.L; split <;> omega
    exact (ref01_Bytes_tt hv).imp fun l hl => ⟨by omega, fun _ => hl.1⟩
  · unfold ref01_Bytes
    rw [ref01_Valid_eq, some_bind', if_pos (by simpa using hv)]
    exact .ret ⟨by simp, fun h => absurd h hv⟩
theorem ref18_Join_tt {l : List Unknown} (h : l.length ≤ 300000) : Ok (ref18_Join l) fun r => r.2 = 0 → r.1.length ≤ 2048 := by
  unfold ref18_Join
  refine .join (fun _ => ∀ u ∈ l, u.Data.length ≤ 65535) (fun k hk => ?_) fun _ hu => ?_
  · refine .forX (fun i _ => ∀ u ∈ l.take i, u.Data.length ≤ 65535) (by simp) (fun _ hu => hk _ (by simpa using hu)) fun next x i _ hx hu hnx => ?_
    refine .join (fun b => b = false → x.Data.length ≤ 65535) (fun k2 hk2 => .ite (fun _ => hk2 _ (by simp)) fun _ => .ite (fun _ => hk2 _ (by simp)) fun _ => .ite (fun _ => hk2 _ (by simp)) fun _ => .ite (fun _ => hk2 _ (by simp)) fun _ => hk2 _ fun h => ?_) fun b hb => .ite (fun _ => .ret (by simp)) fun hb' => hnx _ ?_
    · simp at h; omega
    · intro u hu'
      rw [List.take_add_one, hx] at hu'
      simp only [List.mem_append, Option.toList_some, List.mem_singleton] at hu'
      rcases hu' with hu' | rfl
      · exact hu u hu'
      · exact hb (by simpa using hb')
  · refine .join (fun _ => True) (fun k hk => ?_) fun w _ => .ite (fun _ => .ret (by simp)) fun hc => .ret fun _ => by simp at hc ⊢; omega
    refine .forI (fun i (w : List UInt8) => w.length ≤ 65539 * i) (by simp) (fun w hw => hk _ trivial) fun next x i w hi hx hw hnx => ?_
    have hd := hu x hx
    refine .join (fun w' => w'.length ≤ 65539 * i + 4) (fun k2 hk2 => .ite (fun _ => .bind (.apndB (by decide) (by simp; omega)) fun w' hw' => hk2 _ ?_) fun _ => .bind (.apndB (by decide) (by simp; omega)) fun w' hw' => hk2 _ ?_) fun w' hw' => ?_
    · rw [hw']; simp; omega
    · rw [hw']; simp; omega
    · refine .bind (.apndB (by decide) (by omega)) fun w2 hw2 => hnx _ (by rw [hw2, List.length_append]; omega)
theorem ref19_codes_tt {l : List Prefix} {b : Bool} (h : l.length ≤ 10000) (hg : ∀ p ∈ l, goodP p) : Ok (ref19_codes l b) fun r => r.length ≤ 17 * l.length := by
  unfold ref19_codes
  refine .join (fun r => r.length ≤ 17 * l.length) (fun k hk => ?_) fun r hr => .ret hr
  refine .forI (fun i (r : List UInt8) => r.length ≤ 17 * i) (by simp) (fun r hr => hk _ hr) fun next p i r hi hp hr hnx => ?_
  obtain ⟨g1, g2, g3, _⟩ := hg p hp
  refine .join (fun r' => r'.length ≤ 17 * i + 17) (fun k2 hk2 => .ite (fun _ => ?_) fun _ => hk2 _ (by omega)) fun r' hr' => hnx _ (by omega)
  refine .bind (.apnd (by decide) (by simp; omega)) fun w hw => .bind (ref01_Bytes_le p.Addr) fun bs hbs => ?_
  have hL := hbs.2 g1
  have hwL : p.Addr.w = 8 * p.Addr.L := by unfold Addr.w Addr.L; split <;> rfl
  have hw16 : p.Addr.w ≤ 128 := by unfold Addr.w; split <;> omega
  have e1 : i64w (p.Len + 7) = p.Len + 7 := i64w_id (by omega)
  have e2 : i64w (Int.tdiv (i64w (p.Len + 7)) 8) = (p.Len + 7) / 8 := by rw [e1, Int.tdiv_eq_ediv_of_nonneg (by omega), i64w_id (by omega)]
  rw [e2]
  refine .bind (.chk ⟨by omega, by omega, by omega⟩) fun _ _ => .bind (.apnd (by decide) ?_) fun w2 hw2 => hk2 _ ?_
  · rw [hw]; simp; omega
  · rw [hw2, hw]; simp; omega
theorem ref19_put_tt {l : List Unknown} {u : Unknown} (h : l.length ≤ 1000000) : Ok (ref19_put l u) fun r => r.length = l.length + 1 := by
  unfold ref19_put
  refine .pos (n := l.length) (by omega) (fun k v h1 h2 hk => Ok.q) fun v h1 h2 => ?_
  refine .bind (.part ⟨by omega, by omega, by omega⟩) fun p hp => .bind (.apnd (by decide) (by simp; omega)) fun _ _ => .bind (.apnd (by decide) (by simp; omega)) fun q hq => .bind (.part ⟨by omega, by omega, by omega⟩) fun p2 hp2 => .bind (.apnd (by decide) (by rw [hq]; simp; omega)) fun w hw => .ret ?_
  rw [hw, hq]
  simp
  omega
structure SmV (u : Update) : Prop where
  a : SmA 1000 u.Attrs
  w : u.Withdraw.length ≤ 1000
  n : u.Announce.length ≤ 1000
theorem ref19_parts_tt {u : Update} (h : SmV u) (g1 : ∀ p ∈ u.Withdraw, goodP p) (g2 : ∀ p ∈ u.Announce, goodP p) : Tt (ref19_parts u) := by
  have hw := h.w; have hn := h.n
  unfold ref19_parts
  refine Ok.tt (Q := fun _ => True) ?_
  refine .join (fun l : List Unknown => l.length ≤ 290000) (fun k hk => .ite (fun _ => ?_) fun _ => hk _ (by simp)) fun l hl => ?_
  · refine .bind (ref18_Write_tt (h.a.mono (by omega))) ?_
    rintro ⟨l, e⟩ hl
    exact .ite (fun _ => .ret trivial) fun _ => hk _ hl.l
  refine .bind (ref19_codes_tt (by omega) g2) fun c1 hc1 => ?_
  refine .join (fun l : List Unknown => l.length ≤ 290001) (fun k hk => .ite (fun _ => ?_) fun _ => hk _ (by omega)) fun l hl => ?_
  · refine .bind (ref01_Bytes_le _) fun b hb => .bind (.apnd (by decide) (by simp; omega)) fun x1 h1 => .bind (.apnd (by decide) (by rw [h1]; simp; omega)) fun x2 h2 => .bind (.apnd (by decide) (by rw [h2, h1]; simp; omega)) fun x3 h3 => .bind (ref19_put_tt (by omega)) fun x4 h4 => hk _ (by omega)
  refine .bind (ref19_codes_tt (by omega) g1) fun c2 hc2 => ?_
  refine .join (fun l : List Unknown => l.length ≤ 290002) (fun k hk => .ite (fun _ => ?_) fun _ => hk _ (by omega)) fun l hl => ?_
  · exact .bind (.apnd (by decide) (by simp; omega)) fun x1 h1 => .bind (ref19_put_tt (by omega)) fun x4 h4 => hk _ (by omega)
  refine .bind (ref18_Join_tt (by omega)) ?_
  rintro ⟨j, e⟩ hj
  refine .ite (fun _ => .ret trivial) fun he => ?_
  have hj := hj (by simpa using he)
  simp only at hj
  refine .bind (ref19_codes_tt (by omega) g1) fun c3 hc3 => .bind (.apnd (by decide) (by simp; omega)) fun x1 h1 => .bind (.apnd (by decide) (by rw [h1]; simp; omega)) fun x2 h2 => .bind (.apnd (by decide) (by rw [h2, h1]; simp; omega)) fun x3 h3 => ?_
  exact .bind (ref19_codes_tt (by omega) g2) fun c4 hc4 => .bind (.apnd (by decide) (by rw [h3, h2, h1]; simp; omega)) fun x4 h4 => .ret trivial
theorem ref19_Valid_tt {u : Update} (h : SmV u) : Ok (ref19_Valid u) fun b => b = true → (∀ p ∈ u.Withdraw, goodP p) ∧ (∀ p ∈ u.Announce, goodP p) ∧ u.Announce.length ≤ 256 := by
  have hw := h.w; have hn := h.n
  have := ref18_Valid_tt h.a (by omega)
  unfold ref19_Valid
  refine .join (fun b => b = false → u.Announce.length ≤ 256) (fun k hk => .ite (fun _ => hk _ (by simp)) fun _ => hk _ fun h => by simp at h; omega) fun b hb => .ite (fun _ => .ret (by simp)) fun hb' => ?_
  have h256 := hb (by simpa using hb')
  refine .bind (.apnd (by decide) (by simp; omega)) fun _ _ => .bind (.apnd (by decide) (by omega)) fun v hv => ?_
  refine .join (fun _ => ∀ p ∈ v, goodP p) (fun k hk => ?_) fun _ hg => ?_
  · refine .forX (fun i _ => ∀ p ∈ v.take i, goodP p) (by simp) (fun _ hg => hk _ (by simpa using hg)) fun next x i _ hx hg hnx => ?_
    refine .bind (ref02_Valid_tt x) fun c hc => .ite (fun _ => .ret (by simp)) fun hcc => hnx _ fun p hp => ?_
    rw [List.take_add_one, hx] at hp
    simp only [List.mem_append, Option.toList_some, List.mem_singleton] at hp
    rcases hp with hp | rfl
    · exact hg p hp
    · exact hc.1 (by simpa using hcc)
  have g1 : ∀ p ∈ u.Withdraw, goodP p := fun p hp => hg p (by rw [hv]; simp [hp])
  have g2 : ∀ p ∈ u.Announce, goodP p := fun p hp => hg p (by rw [hv]; simp [hp])
  have := ref19_parts_tt h g1 g2
  refine .join (fun _ => True) (fun k hk => Ok.q) fun _ _ => .ite (fun _ => .ret (by simp)) fun _ => ?_
  refine .join (fun _ => True) (fun k hk => ?_) fun _ _ => ?_
  · refine .for_ (fun _ => hk _ trivial) fun next x i _ hi hx hnx => .join (fun _ => True) (fun k2 hk2 => Ok.q) fun _ _ => .ite (fun _ => .ret (by simp)) fun _ => hnx _
  · refine .bind Ok.of ?_
    rintro ⟨a, b⟩ _
    exact .join (fun _ => True) (fun k hk => Ok.q) fun c _ => .ret fun _ => ⟨g1, g2, h256⟩
end Go.AX.Q35
end
section
namespace Go.AX.Q35
open Go Go.AX
set_option maxRecDepth 8000
theorem ref20_insert_tt {l : List Int} {n : Int} (h : l.length ≤ 10000000) : Ok (ref20_insert l n) fun r => r.length ≤ l.length + 1 := by
  unfold ref20_insert
  refine .pos (n := l.length) (by omega) (fun k v h1 h2 hk => Ok.q) fun v h1 h2 => .join (fun _ => True) (fun k hk => Ok.q) fun _ _ => .ite (fun _ => .ret (by omega)) fun _ => ?_
  refine .bind (.part ⟨by omega, by omega, by omega⟩) fun p hp => .bind (.apnd (by decide) (by simp; omega)) fun _ _ => .bind (.apnd (by decide) (by simp; omega)) fun q hq => .bind (.part ⟨by omega, by omega, by omega⟩) fun p2 hp2 => .bind (.apnd (by decide) (by rw [hq]; simp; omega)) fun w hw => .ret ?_
  rw [hw, hq]
  simp
  omega
theorem ref20_insertName_tt {l : List ByteArray} {n : ByteArray} (h : l.length ≤ 10000000) : Ok (ref20_insertName l n) fun r => r.length ≤ l.length + 1 := by
  unfold ref20_insertName
  refine .pos (n := l.length) (by omega) (fun k v h1 h2 hk => Ok.q) fun v h1 h2 => .join (fun _ => True) (fun k hk => Ok.q) fun _ _ => .ite (fun _ => .ret (by omega)) fun _ => ?_
  refine .bind (.part ⟨by omega, by omega, by omega⟩) fun p hp => .bind (.apnd (by decide) (by simp; omega)) fun _ _ => .bind (.apnd (by decide) (by simp; omega)) fun q hq => .bind (.part ⟨by omega, by omega, by omega⟩) fun p2 hp2 => .bind (.apnd (by decide) (by rw [hq]; simp; omega)) fun w hw => .ret ?_
  rw [hw, hq]
  simp
  omega
theorem ref20_find_tt (g : Registry) (n : ByteArray) : Ok (ref20_find g n) fun r => (r.2 = true ∧ r.1 ∈ g.Sets ∧ r.1.Name.toList = n.toList) ∨ (r.2 = false ∧ r.1 = ⟨ByteArray.empty, [], []⟩) := by
  unfold ref20_find
  refine .join (fun _ => True) (fun k hk => ?_) fun _ _ => .ret (.inr ⟨rfl, rfl⟩)
  exact .for_ (fun _ => hk _ trivial) fun next x i _ hi hx hnx => .ite (fun hc => .ret (.inl ⟨rfl, hx, by simpa using hc⟩)) fun _ => hnx _
def unseen (U : List ByteArray) (m : List (ByteArray × Bool)) : Nat := (U.filter fun x => !(mget m x).getD false).length
theorem unseen_set {U : List ByteArray} {m : List (ByteArray × Bool)} {x : ByteArray} (hx : x ∈ U) (hm : (mget m x).getD false = false) : unseen U (mset m x true) + 1 ≤ unseen U m := by
  unfold unseen
  induction U with
  | nil => simp at hx
  | cons y U ih =>
    by_cases hy : y = x
    · subst hy
      have h1 : (!(mget (mset m y true) y).getD false) = false := by rw [mget_msetB, if_pos rfl]; rfl
      have h2 : (!(mget m y).getD false) = true := by rw [hm]; rfl
      rw [List.filter_cons, List.filter_cons, h1, h2]
      simp only [Bool.false_eq_true, if_false, if_true, List.length_cons]
      refine Nat.add_le_add_right ?_ 1
      clear ih hx
      induction U with
      | nil => simp
      | cons z U ih =>
        have h3 : (!(mget (mset m y true) z).getD false) = true → (!(mget m z).getD false) = true := by
          rw [mget_msetB]
          split
          · intro h; simp at h
          · exact id
        rw [List.filter_cons, List.filter_cons]
        cases h4 : (!(mget (mset m y true) z).getD false)
        · simp only [Bool.false_eq_true, if_false]
          split
          · exact Nat.le_succ_of_le ih
          · exact ih
        · rw [h3 h4]
          simp only [if_true, List.length_cons]
          exact Nat.add_le_add_right ih 1
    · have hx' : x ∈ U := by
        rcases List.mem_cons.1 hx with h | h
        · exact absurd h.symm hy
        · exact h
      have h1 : mget (mset m x true) y = mget m y := by rw [mget_msetB, if_neg hy]
      rw [List.filter_cons, List.filter_cons, h1]
      split
      · simp only [List.length_cons]; exact Nat.add_le_add_right (ih hx') 1
      · exact ih hx'
theorem unseen_le (U : List ByteArray) (m : List (ByteArray × Bool)) : unseen U m ≤ U.length := List.length_filter_le _ _
theorem ref20_Expand_tt {g : Registry} {n : ByteArray} (h : SmG g) : Ok (ref20_Expand g n) fun r => r.1.length ≤ 1100000 := by
  have hg := h.n
  unfold ref20_Expand
  have := ref20_Valid_tt h
  refine .bind Ok.of fun _ _ => .ite (fun _ => .ret (by simp)) fun _ => .bind (ref20_find_tt g n) ?_
  rintro ⟨s0, c0⟩ _
  refine .ite (fun _ => .ret (by simp)) fun _ => ?_
  refine .join (fun p : List Int × List ByteArray => p.1.length ≤ 1100000) (fun k hk => ?_) fun p hp => .ret hp
  let U := g.Sets.flatMap (·.Sets)
  have hU : U.length ≤ 10000 := by
    have key : ∀ (l : List Set), (∀ s ∈ l, s.Sets.length ≤ 100) → (l.flatMap (·.Sets)).length ≤ 100 * l.length := by
      intro l
      induction l with
      | nil => intro _; simp
      | cons s l ih => intro hl; have h1 := ih fun s hs => hl s (by simp [hs]); have h2 := hl s (by simp); simp only [List.flatMap_cons, List.length_append, List.length_cons]; omega
    have := key g.Sets fun s hs => (h.s s hs).2.2.1
    show (g.Sets.flatMap (·.Sets)).length ≤ 10000
    omega
  have hu0 := unseen_le U (mset [] n true)
  refine .whileI (fun s : List Int × List ByteArray × List (ByteArray × Bool) × List ByteArray => s.2.2.2.length + unseen U s.2.2.1 ≤ 10001 ∧ s.1.length + 100 * (s.2.2.2.length + unseen U s.2.2.1) ≤ 1000200 ∧ s.2.1.length + (s.2.2.2.length + unseen U s.2.2.1) ≤ 10002)
    (fun s => s.2.2.2.length + unseen U s.2.2.1) ⟨by simp; omega, by simp; omega, by simp; omega⟩ (lt_fuel (by simp; omega)) ?_
  rintro next ⟨as, ms, seen, todo⟩ ⟨h1, h2, h3⟩ hnx
  simp only at h1 h2 h3 hnx
  refine .ite (fun hc => ?_) fun _ => hk _ (by simp only; omega)
  have hc : 0 < todo.length := by simp only [decide_eq_true_eq] at hc; omega
  refine .join (fun s : List Int × List ByteArray × List (ByteArray × Bool) × List ByteArray => s.2.2.2.length + unseen U s.2.2.1 + 1 ≤ todo.length + unseen U seen ∧ s.1.length ≤ as.length + 100 ∧ s.2.1.length ≤ ms.length + 1) (fun k2 hk2 => ?_) ?_
  · refine .bind (.geti (by omega)) fun x hx => .bind (ref20_find_tt g x) ?_
    rintro ⟨s, c⟩ hs
    have hsA : s.ASNs.length ≤ 100 ∧ ∀ y ∈ s.Sets, y ∈ U := by
      rcases hs with ⟨_, hs, _⟩ | ⟨_, hs⟩
      · exact ⟨(h.s s hs).2.1, fun y hy => List.mem_flatMap.2 ⟨s, hs, hy⟩⟩
      · simp only at hs; subst hs; exact ⟨by simp, by simp⟩
    refine .join (fun m : List ByteArray => m.length ≤ ms.length + 1) (fun k3 hk3 => .ite (fun _ => .bind (.geti (by omega)) fun _ _ => .bind (ref20_insertName_tt (by omega)) fun m hm => hk3 _ hm) fun _ => hk3 _ (by omega)) fun m hm => ?_
    refine .bind (.part ⟨by omega, by omega, Int.le_refl _⟩) fun td htd => ?_
    refine .join (fun a : List Int => a.length ≤ as.length + 100) (fun k3 hk3 => ?_) fun a ha => ?_
    · refine .forI (fun i (a : List Int) => a.length ≤ as.length + i) (by simp) (fun a ha => hk3 _ (by omega)) fun next2 x2 i a hi hx2 ha hnx2 => ?_
      exact .bind (ref20_insert_tt (by omega)) fun a' ha' => hnx2 _ (by omega)
    · refine .join (fun p : List (ByteArray × Bool) × List ByteArray => p.2.length + unseen U p.1 ≤ td.length + unseen U seen) (fun k3 hk3 => ?_) ?_
      · refine .forI (fun i (p : List (ByteArray × Bool) × List ByteArray) => p.2.length + unseen U p.1 ≤ td.length + unseen U seen) (Nat.le_refl _) (fun p hp => hk3 _ hp) ?_
        rintro next2 y i ⟨sn, tt⟩ hi hy hp hnx2
        simp only at hp
        dsimp only
        rw [some_bind']
        refine .join (fun p : List (ByteArray × Bool) × List ByteArray => p.2.length + unseen U p.1 ≤ td.length + unseen U seen) (fun k4 hk4 => .ite (fun hcc => ?_) fun _ => hk4 _ hp) (fun p hp => hnx2 _ hp)
        have := unseen_set (hsA.2 y hy) (by simpa using hcc)
        refine .bind (.apnd (by decide) (by simp; omega)) fun w hw => hk4 _ ?_
        simp only [hw, List.length_append, List.length_singleton]
        omega
      · rintro ⟨sn, tt⟩ hp
        simp only at hp
        exact hk2 _ ⟨by simp only; omega, ha, hm⟩
  · rintro ⟨as', ms', sn', td'⟩ ⟨g1, g2, g3⟩
    simp only at g1 g2 g3
    exact hnx _ ⟨by simp only; omega, by simp only; omega, by simp only; omega⟩ (by simp only; omega)
theorem ref20_Sorted_tt {l : List Object} (h : l.length ≤ 1000000) : Ok (ref20_Sorted l) fun r => r.length ≤ l.length := by
  unfold ref20_Sorted
  refine .join (fun r => r.length ≤ l.length) (fun k hk => ?_) fun r hr => .ret hr
  refine .forI (fun i (r : List Object) => r.length ≤ i) (by simp) (fun r hr => hk _ hr) fun next x i r hi hx hr hnx => ?_
  refine .join (fun r' => r'.length ≤ i + 1) (fun k2 hk2 => ?_) fun r' hr' => hnx _ hr'
  refine .pos (n := r.length) (by omega) (fun k v h1 h2 hk => Ok.q) fun v h1 h2 => .join (fun _ => True) (fun k3 hk3 => Ok.q) fun _ _ => .ite (fun _ => hk2 _ (by omega)) fun _ => ?_
  refine .bind (.chk ⟨by omega, by omega, by omega⟩) fun _ _ => .bind (.apnd (by decide) (by simp; omega)) fun _ _ => .bind (.apnd (by decide) (by simp; omega)) fun q hq => .bind (.chk ⟨by omega, by omega, by omega⟩) fun _ _ => .bind (.apnd (by decide) (by rw [hq]; simp; omega)) fun w hw => hk2 _ ?_
  rw [hw, hq]
  simp
  omega
theorem ref20_Own_tt {g : Registry} {l : List Int} (h : g.Objects.length ≤ 100000) : Ok (ref20_Own g l) fun r => r.length ≤ g.Objects.length := by
  unfold ref20_Own
  refine .join (fun r => r.length ≤ g.Objects.length) (fun k hk => ?_) fun r hr => .bind (ref20_Sorted_tt (by omega)) fun r' hr' => .ret (by omega)
  refine .forI (fun i (r : List Object) => r.length ≤ i) (by simp) (fun r hr => hk _ hr) fun next x i r hi hx hr hnx => ?_
  refine .bind Ok.of fun _ _ => .join (fun r' => r'.length ≤ i + 1) (fun k2 hk2 => .ite (fun _ => .bind (.apnd (by decide) (by simp; omega)) fun w hw => hk2 _ (by rw [hw]; simp; omega)) fun _ => hk2 _ (by omega)) fun r' hr' => hnx _ hr'
theorem ref20_Permitted_tt {g : Registry} {a o : Int} {s : ByteArray} {p : Prefix} (h : SmG g) : Tt (ref20_Permitted g a s p o) := by
  unfold ref20_Permitted
  have := ref20_Valid_tt h
  have hO := h.o
  refine Ok.tt (Q := fun _ => True) (.bind Ok.of fun _ _ => .ite (fun _ => .ret trivial) fun _ => .join (fun l : List Int => True) (fun k hk => .ite (fun _ => .bind (ref20_Expand_tt h) ?_) fun _ => hk _ trivial) fun l _ => ?_)
  · rintro ⟨l, m, e⟩ hl
    simp only at hl
    exact .ite (fun _ => .ret trivial) fun _ => .bind (.apnd (by decide) (by simp; omega)) fun _ _ => hk _ trivial
  · exact .bind Ok.of fun _ _ => .ite (fun _ => .ret trivial) fun _ => .bind (ref20_Own_tt (by omega)) fun _ _ => .bind Ok.of fun _ _ => .ret trivial
theorem ref22_State_tt {l : List Object} {p : Prefix} {n : Int} (h : l.length ≤ 100000) : Tt (ref22_State l p n) := by
  unfold ref22_State
  refine Ok.tt (Q := fun _ => True) (.join (fun _ => True) (fun k hk => ?_) fun _ _ => .ret trivial)
  refine .forI (fun i (s : Int × List Object) => s.2.length ≤ i) (by simp) (fun r hr => hk _ trivial) ?_
  rintro next x i ⟨st, r⟩ hi hx hr hnx
  simp only at hr
  refine .join (fun s : Int × List Object => s.2.length ≤ i + 1) (fun k2 hk2 => ?_) fun s hs => hnx _ hs
  refine .bind Ok.of fun _ _ => .ite (fun _ => hk2 _ (by simp only; omega)) fun _ => .bind (.apnd (by decide) (by simp; omega)) fun w hw => ?_
  refine .join (fun _ => True) (fun k3 hk3 => Ok.q) fun _ _ => .join (fun _ => True) (fun k3 hk3 => Ok.q) fun _ _ => .join (fun _ => True) (fun k3 hk3 => Ok.q) fun _ _ => hk2 _ (by simp only [hw, List.length_append, List.length_singleton]; omega)
theorem ref24_Widen_tt {l : List Object} (h : l.length ≤ 100000) : Ok (ref24_Widen l) fun r => r.length = l.length := by
  unfold ref24_Widen
  refine .join (fun r => r.length = l.length) (fun k hk => ?_) fun r hr => .ret hr
  refine .forI (fun i (r : List Object) => r.length = i) (by simp) (fun r hr => hk _ hr) fun next x i r hi hx hr hnx => ?_
  exact .bind Ok.of fun _ _ => .bind (.apnd (by decide) (by simp; omega)) fun w hw => hnx _ (by rw [hw]; simp; omega)
theorem ref15_Valid_ne {l : List Segment} (h1 : l.length ≤ 1000000000) (h2 : ∀ s ∈ l, s.ASNs.length ≤ 1000000000) : Ok (ref15_Valid l) fun b => b = true → ∀ s ∈ l, 0 < s.ASNs.length := by
  unfold ref15_Valid
  have g1 := fun i (h : i < l.length) => i64w_pred' h h1
  have g2 := fun (s : Segment) (hs : s ∈ l) i (h : i < s.ASNs.length) (h0 : (cond true (decide ((i : Int) > 0)) false) = true) => i64w_pred' h (h2 s hs) h0
  refine .join (fun _ => ∀ s ∈ l, 0 < s.ASNs.length) (fun k hk => ?_) fun v hv => .ret fun _ => hv
  refine .forX (fun i _ => ∀ s ∈ l.take i, 0 < s.ASNs.length) (by simp) (fun _ h => hk _ (by simpa using h)) fun next x i v hx hp hnx => ?_
  have hi := (List.getElem?_eq_some_iff.1 hx).1
  have hxm := List.mem_of_getElem? hx
  refine .join (fun _ => 0 < x.ASNs.length) (fun k2 hk2 => ?_) fun _ h0 => hnx _ fun s hs => ?_
  · refine .join (fun b => b = false → 0 < x.ASNs.length) (fun k3 hk3 => .ite (fun _ => hk3 _ (by simp)) fun h0 => ?_) fun b hb => .ite (fun _ => .ret (by simp)) fun hb' => ?_
    · have h0 : 0 < x.ASNs.length := by simp at h0; exact List.length_pos_iff.2 h0
      refine .ite (fun hi0 => .ite (fun _ => .bind (.geti (g1 i hi hi0)) fun _ _ => hk3 _ fun _ => h0) fun _ => hk3 _ fun _ => h0) fun _ => hk3 _ fun _ => h0
    · have h0 := hb (by simpa using hb')
      refine .join (fun _ => True) (fun k3 hk3 => ?_) fun _ _ => hk2 _ h0
      refine .for_ (fun _ => hk3 _ trivial) fun next2 y j _ hj hy hnx2 => .join (fun _ => True) (fun k4 hk4 => ?_) fun _ _ => .ite (fun _ => .ret (by simp)) fun _ => hnx2 _
      refine .ite (fun _ => hk4 _ trivial) fun _ => .ite (fun _ => hk4 _ trivial) fun _ => .ite (fun _ => .ite (fun hj0 => .bind (.geti (g2 x hxm j hj hj0)) fun _ _ => hk4 _ trivial) fun _ => hk4 _ trivial) fun _ => hk4 _ trivial
  · rw [List.take_add_one, hx] at hs
    simp only [List.mem_append, Option.toList_some, List.mem_singleton] at hs
    rcases hs with hs | rfl
    · exact hp s hs
    · exact h0
theorem ref15_First_tt {n : Nat} {l : List Segment} (h1 : l.length ≤ n) (h2 : ∀ s ∈ l, s.ASNs.length ≤ n) (hn : n ≤ 10000) : Tt (ref15_First l) := by
  unfold ref15_First
  refine Ok.tt (Q := fun _ => True) (.join (fun b => b = false → 0 < l.length ∧ ∀ s ∈ l, 0 < s.ASNs.length) (fun k hk => ?_) fun b hb => .ite (fun _ => .ret trivial) fun hb' => ?_)
  · refine .bind (ref15_Valid_ne (by omega) fun s hs => by have := h2 s hs; omega) fun v hv => .ite (fun _ => hk _ (by simp)) fun hv' => .ite (fun _ => hk _ (by simp)) fun h0 => ?_
    have h0 : 0 < l.length := by simp at h0; exact List.length_pos_iff.2 h0
    exact .bind (.geti (by omega)) fun _ _ => hk _ fun _ => ⟨h0, hv (by simpa using hv')⟩
  · obtain ⟨h0, hs⟩ := hb (by simpa using hb')
    exact .bind (.geti (by omega)) fun s hs' => .bind (.geti (by have := hs s hs'.1; omega)) fun _ _ => .ret trivial
theorem ref15_Origin_tt {n : Nat} {l : List Segment} (h1 : l.length ≤ n) (h2 : ∀ s ∈ l, s.ASNs.length ≤ n) (hn : n ≤ 10000) : Tt (ref15_Origin l) := by
  unfold ref15_Origin
  refine Ok.tt (Q := fun _ => True) (.join (fun b => b = false → 0 < l.length ∧ ∀ s ∈ l, 0 < s.ASNs.length) (fun k hk => ?_) fun b hb => .ite (fun _ => .ret trivial) fun hb' => ?_)
  · refine .bind (ref15_Valid_ne (by omega) fun s hs => by have := h2 s hs; omega) fun v hv => .ite (fun _ => hk _ (by simp)) fun hv' => .ite (fun _ => hk _ (by simp)) fun h0 => ?_
    have h0 : 0 < l.length := by simp at h0; exact List.length_pos_iff.2 h0
    rw [i64w_id (by omega)]
    exact .bind (.geti (by omega)) fun _ _ => hk _ fun _ => ⟨h0, hv (by simpa using hv')⟩
  · obtain ⟨h0, hs⟩ := hb (by simpa using hb')
    refine .bind (ref15_Flat_tt h1 h2 (by omega)) fun f hf => ?_
    have hf0 : 0 < f.length := by
      rw [hf]
      cases l with
      | nil => simp at h0
      | cons s l => have := hs s (by simp); simp only [List.flatMap_cons, List.length_append]; omega
    have hfl : f.length ≤ 100000000 := by
      rw [hf, List.length_flatMap]
      have : ∀ (l : List Segment) (h2 : ∀ s ∈ l, s.ASNs.length ≤ n), (l.map fun s => s.ASNs.length).sum ≤ l.length * n := by
        intro l
        induction l with
        | nil => intro _; simp
        | cons s l ih => intro h2; have := ih fun s hs => h2 s (by simp [hs]); have := h2 s (by simp); simp only [List.map_cons, List.sum_cons, List.length_cons, Nat.add_mul]; omega
      exact Nat.le_trans (this l h2) (Nat.le_trans (Nat.mul_le_mul h1 hn) (Nat.mul_le_mul_right 10000 hn))
    rw [i64w_id (by omega)]
    exact .bind (.geti (by omega)) fun _ _ => .ret trivial
end Go.AX.Q35
end
section
namespace Go.AX.Q35
open Go Go.AX
set_option maxRecDepth 8000
theorem ref24_ill_tt {n : Nat} {r : Route} (h : SmA n r.Attrs) (hn : n ≤ 10000) : Tt (ref24_ill r) := by
  unfold ref24_ill
  have := ref18_Valid_tt h hn
  exact Tt.auto
theorem cond_apnd {ρ : Type} {Q : ρ → Prop} {n : Nat} {l : List Int} {c : Bool} {x : Int} {k : List Int → Option ρ} (hl : l.length ≤ n) (hn : n ≤ 1000) (hk : ∀ l : List Int, l.length ≤ n + 1 → Ok (k l) Q) :
    Ok (joinP (fun k2 => if c = true then Option.bind (apnd 8 l [x]) fun v => k2 v else k2 l) k) Q :=
  .join (fun l : List Int => l.length ≤ n + 1) (fun k2 hk2 => .ite (fun _ => .bind (.apnd (by decide) (by simp; omega)) fun w hw => hk2 _ (by rw [hw]; simp; omega)) fun _ => hk2 _ (by omega)) hk
theorem ref24_pathed_tt {n : Nat} {f : Filter} {p : Peer} {a : Attrs} (h : SmA n a) (hn : n ≤ 10000) : Ok (ref24_pathed f p a) fun r => r.length ≤ 20 := by
  have := ref15_First_tt h.p h.s hn
  have := ref15_Has_tt (a := f.Own) h.p h.s hn
  unfold ref24_pathed
  refine .bind Ok.of ?_
  rintro ⟨v1, v2⟩ _
  refine .join (fun _ => True) (fun k hk => Ok.q) fun c1 _ => ?_
  refine .join (fun l : List Int => l.length ≤ 1) (fun k2 hk2 => .ite (fun _ => .bind (.apnd (by decide) (by simp)) fun w hw => hk2 _ (by rw [hw]; simp)) fun _ => hk2 _ (by simp)) fun l1 h1 => ?_
  refine .join (fun _ => True) (fun k hk => .for_ (fun _ => hk _ trivial) fun next x i s hi hx hnx => .join (fun _ => True) (fun k2 hk2 => Ok.q) fun _ _ => hnx _) fun c2 _ => ?_
  refine cond_apnd h1 (by omega) fun l2 h2 => .bind Ok.of fun _ _ => cond_apnd h2 (by omega) fun l3 h3 => .bind Ok.of fun _ _ => cond_apnd h3 (by omega) fun l4 h4 => ?_
  refine .join (fun _ => True) (fun k hk => .for_ (fun _ => hk _ trivial) fun next x i s hi hx hnx => .join (fun _ => True) (fun k2 hk2 => Ok.q) fun _ _ => hnx _) fun c5 _ => ?_
  refine .bind (ref15_Flat_tt h.p h.s hn) fun fl _ => ?_
  refine .join (fun _ => True) (fun k hk => ?_) ?_
  · refine .for_ (fun _ => hk _ trivial) ?_
    rintro next x i ⟨s1, s2⟩ hi hx hnx
    refine .join (fun _ => True) (fun k2 hk2 => .join (fun _ => True) (fun k3 hk3 => ?_) fun c _ => .join (fun _ => True) (fun k3 hk3 => Ok.q) fun _ _ => hk2 _ trivial) fun _ _ => hnx _
    exact .for_ (fun _ => hk3 _ trivial) fun next y j s hj hy hnx => .join (fun _ => True) (fun k2 hk2 => Ok.q) fun _ _ => hnx _
  rintro ⟨b1, b2⟩ _
  refine cond_apnd h4 (by omega) fun l5 h5 => cond_apnd h5 (by omega) fun l6 h6 => cond_apnd h6 (by omega) fun l7 h7 => .bind Ok.of ?_
  rintro ⟨r1, r2⟩ _
  exact cond_apnd h7 (by omega) fun l8 h8 => .ret (by omega)
theorem ref24_All_tt {n : Nat} {f : Filter} {p : Peer} {r : Route} (hf : SmF f) (h : SmA n r.Attrs) (hn : n ≤ 10000) : Ok (ref24_All f p r) fun l => l.length ≤ 40 := by
  have := ref24_ill_tt h hn
  have := ref15_Origin_tt h.p h.s hn
  have ho := hf.o
  have hgo := hf.g.o
  unfold ref24_All
  refine .bind Ok.of fun c0 _ => .ite (fun _ => .ret (by simp)) fun _ => .bind (ref24_pathed_tt h hn) fun l0 h0 => ?_
  refine .join (fun _ => True) (fun k hk => .for_ (fun _ => hk _ trivial) fun next x i s hi hx hnx => .join (fun _ => True) (fun k2 hk2 => Ok.q) fun _ _ => hnx _) fun c1 _ => ?_
  refine .join (fun _ => True) (fun k hk => .for_ (fun _ => hk _ trivial) fun next x i s hi hx hnx => .join (fun _ => True) (fun k2 hk2 => Ok.q) fun _ _ => hnx _) fun c2 _ => ?_
  refine cond_apnd h0 (by omega) fun l1 h1 => cond_apnd h1 (by omega) fun l2 h2 => .bind Ok.of fun c3 _ => cond_apnd h2 (by omega) fun l3 h3 => .bind Ok.of fun c4 _ => ?_
  refine .join (fun x : List Object × List Object => x.1.length ≤ 10000 ∧ x.2.length ≤ 10000) (fun k hk => .ite (fun _ => .bind (ref24_Widen_tt (by omega)) fun w1 hw1 => .bind (ref24_Widen_tt (by omega)) fun w2 hw2 => hk _ ⟨by simp only; omega, by simp only; omega⟩) fun _ => hk _ ⟨ho, hgo⟩) ?_
  rintro ⟨os, gs⟩ ⟨q1, q2⟩
  simp only at q1 q2
  refine .bind Ok.of ?_
  rintro ⟨o1, o2⟩ _
  refine .join (fun _ => True) (fun k hk => Ok.q) fun o _ => ?_
  have hg : SmG (⟨f.Registry.Sets, gs⟩ : Registry) := ⟨hf.g.n, q2, hf.g.s⟩
  have := ref20_Permitted_tt (a := p.ASN) (o := o) (s := p.Set) (p := r.Prefix) hg
  refine .bind Ok.of fun e _ => cond_apnd h3 (by omega) fun l4 h4 => ?_
  have := ref22_State_tt (p := r.Prefix) (n := o) (l := os) (by omega)
  refine .bind Ok.of ?_
  rintro ⟨st, _⟩ _
  exact cond_apnd h4 (by omega) fun l5 h5 => .ret (by omega)
theorem ref24_Check_tt {n : Nat} {f : Filter} {p : Peer} {r : Route} (hf : SmF f) (h : SmA n r.Attrs) (hn : n ≤ 10000) : Tt (ref24_Check f p r) := by
  unfold ref24_Check
  exact Ok.tt (Q := fun _ => True) (.bind (ref24_All_tt hf h hn) fun l hl => .ite (fun hc => .bind (.geti (by simp only [decide_eq_true_eq] at hc; omega)) fun _ _ => .ret trivial) fun _ => .ret trivial)
theorem ref25_without_tt {l : List Held} {p : Prefix} (h : l.length ≤ 1000000) : Ok (ref25_without l p) fun r => r = l.filter fun x => !Prefix.eqd x.Route.Prefix p := by
  unfold ref25_without
  refine .join (fun r => r = l.filter fun x => !Prefix.eqd x.Route.Prefix p) (fun k hk => ?_) fun r hr => .ret hr
  refine .forX (fun i r => r = (l.take i).filter fun x => !Prefix.eqd x.Route.Prefix p) rfl (fun r hr => hk _ (by rw [hr, List.take_length])) ?_
  rintro next x i r hx rfl hnx
  have hi := (List.getElem?_eq_some_iff.1 hx).1
  refine .join (fun r => r = (l.take (i + 1)).filter fun x => !Prefix.eqd x.Route.Prefix p) (fun k2 hk2 => .ite (fun hc => ?_) fun hc => hk2 _ ?_) fun r hr => hnx _ hr
  · refine .bind (.apnd (by decide) ?_) fun w hw => hk2 _ ?_
    · have := List.length_filter_le (fun x : Held => !Prefix.eqd x.Route.Prefix p) (l.take i)
      simp at this ⊢; omega
    · rw [hw, List.take_add_one, hx, List.filter_append]
      simp only [Option.toList_some, List.filter_cons, hc, if_true, List.filter_nil]
  · rw [List.take_add_one, hx, List.filter_append]
    simp only [Option.toList_some, List.filter_cons, hc, if_false, List.filter_nil, List.append_nil]
    simp
theorem ref25_settle_tt (b : RIB) : Ok (ref25_settle b) fun r => r.Held = b.Held ∧ r.Peer = b.Peer ∧ r.Up = b.Up := by
  unfold ref25_settle
  refine .join (fun _ => True) (fun k hk => ?_) fun _ _ => .ret ⟨rfl, rfl, rfl⟩
  exact .for_ (fun _ => hk _ trivial) fun next x i s hi hx hnx => .ite (fun _ => .ret ⟨rfl, rfl, rfl⟩) fun _ => hnx _
theorem SmB.nil (n : Nat) (a : Int) (s : ByteArray) (b c : Int) (u : Bool) (t : Int) : SmB n (⟨⟨a, s, b, c, []⟩, u, [], t⟩ : RIB) := ⟨by simp, by simp, by simp⟩
theorem ref25_Apply_tt {f : Filter} {b : RIB} {u : Update} (hf : SmF f) (hb : SmB 600 b) (hu : SmV u) : Ok (ref25_Apply f b u) fun r => SmB 600 r.1 ∧ (r.2 = 0 → r.1.Peer = b.Peer) := by
  have := ref24_Valid_tt hf
  have hua := hu.a
  unfold ref25_Apply
  refine .join (fun v => v = false → b.Held.length ≤ 256 ∧ u.Announce.length ≤ 256) (fun k hk => ?_) fun v hv => .ite (fun _ => .ret ⟨SmB.nil .., by simp⟩) fun hv' => .ite (fun _ => .ret ⟨SmB.nil .., by simp⟩) fun _ => ?_
  · refine .bind Ok.of fun _ _ => .ite (fun _ => hk _ (by simp)) fun _ => .bind (ref25_Valid_tt hb (by omega)) fun v hv => .ite (fun _ => hk _ (by simp)) fun hv1 => .bind (ref19_Valid_tt hu) fun w hw => hk _ fun h => ?_
    exact ⟨hv (by cases v <;> simp at hv1 ⊢), (hw (by cases w <;> simp at h ⊢)).2.2⟩
  obtain ⟨h256, hn256⟩ := hv (by simpa using hv')
  rw [ref25_Copy_eq hb (by omega), some_bind']
  let I : Nat → List Held → Prop := fun m l => l.length ≤ m ∧ ∀ h ∈ l, SmA 1000 h.Route.Attrs
  refine .join (I 256) (fun k hk => ?_) fun l1 h1 => ?_
  · refine .forI (fun _ l => I 256 l) ⟨h256, hb.a⟩ (fun l hl => hk _ hl) fun next p i l hi hp hl hnx => ?_
    have := hl.1
    refine .bind (ref25_without_tt (by omega)) fun r hr => hnx _ ?_
    rw [hr]
    exact ⟨Nat.le_trans (List.length_filter_le _ _) hl.1, fun h hh => hl.2 h (List.mem_filter.1 hh).1⟩
  refine .join (I 600) (fun k hk => ?_) fun l2 h2 => ?_
  · refine .forI (fun i l => I (256 + i) l) h1 (fun l hl => hk _ ⟨by have := hl.1; omega, hl.2⟩) fun next p i l hi hp hl hnx => ?_
    refine .join (I (256 + (i + 1))) (fun k2 hk2 => ?_) fun l hl => hnx _ hl
    have hl1 := hl.1
    rw [ref23_CopyAttrs_eq hua (by omega), some_bind']
    have := ref24_Check_tt (p := b.Peer) (r := (⟨p, b.Peer.ASN, u.Attrs⟩ : Route)) hf hua (by omega)
    refine .bind Ok.of fun e _ => .bind (ref25_without_tt (by omega)) fun r hr => ?_
    have hrl : r.length ≤ 256 + i := by rw [hr]; exact Nat.le_trans (List.length_filter_le _ _) hl1
    have hra : ∀ h ∈ r, SmA 1000 h.Route.Attrs := by rw [hr]; exact fun h hh => hl.2 h (List.mem_filter.1 hh).1
    refine .pos (n := r.length) (by omega) (fun k v h1 h2 hk => Ok.q) fun v g1 g2 => ?_
    refine .bind (.chk ⟨by omega, by omega, by omega⟩) fun _ _ => .bind (.apnd (by decide) (by simp; omega)) fun _ _ => .bind (.chk ⟨by omega, by omega⟩) fun _ _ => .bind (.part ⟨by omega, by omega, by omega⟩) fun q hq => ?_
    refine .bind (.apnd (by decide) (by simp; omega)) fun w hw => .bind (.apnd (by decide) (by rw [hw]; simp; omega)) fun w2 hw2 => hk2 _ ⟨?_, ?_⟩
    · rw [hw2, hw]; simp; omega
    · intro h hh
      simp only [hw2, hw, List.mem_append, List.mem_singleton] at hh
      rcases hh with (hh | rfl) | hh
      · rw [hq.1] at hh; exact hra h (List.drop_subset _ _ (List.mem_of_mem_take hh))
      · exact hua
      · exact hra h (List.drop_subset _ _ (List.mem_of_mem_take hh))
  have hB : SmB 600 ({ b with Held := l2 } : RIB) := ⟨h2.1, hb.x, h2.2⟩
  refine .bind Ok.of ?_
  rintro ⟨c4, c6⟩ _
  refine .join (fun _ => True) (fun k hk => Ok.q) fun _ _ => .ite (fun _ => .ret ⟨SmB.nil .., by simp⟩) fun _ => .bind (ref25_settle_tt _) fun r hr => .ret ⟨⟨by rw [hr.1]; exact hB.l, by rw [hr.2.1]; exact hB.x, by rw [hr.1]; exact hB.a⟩, fun _ => hr.2.1⟩
theorem ref25_Raise_tt {b : RIB} (hb : SmB 600 b) : Ok (ref25_Raise b) fun r => SmB 600 r.1 ∧ (r.2 = 0 → r.1.Peer = b.Peer) := by
  have := (ref25_Valid_tt hb (by omega)).tt
  unfold ref25_Raise
  rw [ref25_Copy_eq hb (by omega)]
  refine .bind Ok.of fun _ _ => .ite (fun _ => .ret ⟨SmB.nil .., by simp⟩) fun _ => .ite (fun _ => .ret ⟨SmB.nil .., by simp⟩) fun _ => ?_
  rw [some_bind']
  exact .ret ⟨⟨hb.l, hb.x, hb.a⟩, fun _ => rfl⟩
theorem ref25_Down_tt {b : RIB} {t g : Int} (hb : SmB 600 b) : Ok (ref25_Down b t g) fun r => SmB 600 r.1 ∧ (r.2 = 0 → r.1.Peer = b.Peer) := by
  have := (ref25_Valid_tt hb (by omega)).tt
  unfold ref25_Down
  rw [ref25_Copy_eq hb (by omega)]
  refine .join (fun _ => True) (fun k hk => Ok.q) fun _ _ => .ite (fun _ => .ret ⟨SmB.nil .., by simp⟩) fun _ => .ite (fun _ => .ret ⟨SmB.nil .., by simp⟩) fun _ => ?_
  rw [some_bind']
  let I : List Held → Prop := fun l => l.length ≤ 600 ∧ ∀ h ∈ l, SmA 1000 h.Route.Attrs
  refine .join I (fun k hk => .ite (fun _ => hk _ ⟨by simp, by simp⟩) fun _ => hk _ ⟨hb.l, hb.a⟩) fun l hl => .join I (fun k hk => ?_) fun l2 hl2 => ?_
  · have hl1 := hl.1
    refine .whileI (fun s : Int × List Held => 0 ≤ s.1 ∧ s.1 ≤ l.length ∧ s.2.length = l.length ∧ I s.2) (fun s => (l.length - s.1).toNat) ⟨by simp, by simp, rfl, hl⟩ (lt_fuel (by simp only; omega)) ?_
    rintro next ⟨i, m⟩ ⟨g1, g2, g3, g4⟩ hnx
    simp only at g1 g2 g3 g4
    refine .ite (fun hc => ?_) fun _ => hk _ g4
    simp only [decide_eq_true_eq] at hc
    refine .bind (.geti (by omega)) fun h hh => .bind (.seti (by omega)) fun m' hm' => ?_
    rw [i64w_id (by omega)]
    refine hnx _ ⟨by simp only; omega, by simp only; omega, by simp only; omega, ⟨by simp only; omega, fun x hx => ?_⟩⟩ (by simp only; omega)
    simp only [hm'.1] at hx
    rcases List.mem_or_eq_of_mem_set hx with hx | rfl
    · exact g4.2 x hx
    · exact g4.2 h hh.1
  · refine .bind (ref25_settle_tt _) fun r hr => .ret ⟨⟨by rw [hr.1]; exact hl2.1, by rw [hr.2.1]; exact hb.x, by rw [hr.1]; exact hl2.2⟩, fun _ => hr.2.1⟩
theorem ref25_Sweep_tt {b : RIB} {w : Int} (hb : SmB 600 b) : Ok (ref25_Sweep b w) fun r => SmB 600 r ∧ r.Peer = b.Peer := by
  unfold ref25_Sweep
  rw [ref25_Copy_eq hb (by omega), some_bind', some_bind']
  have hl := hb.l
  refine .join (fun l : List Held => l.length ≤ 600 ∧ ∀ h ∈ l, SmA 1000 h.Route.Attrs) (fun k hk => ?_) fun l hl => .bind (ref25_settle_tt _) fun r hr => .ret ⟨⟨by rw [hr.1]; exact hl.1, by rw [hr.2.1]; exact hb.x, by rw [hr.1]; exact hl.2⟩, hr.2.1⟩
  refine .forI (fun i (l : List Held) => l.length ≤ i ∧ ∀ h ∈ l, SmA 1000 h.Route.Attrs) ⟨by simp, by simp⟩ (fun l hl => hk _ ⟨by omega, hl.2⟩) fun next x i l hi hx hl hnx => ?_
  refine .join (fun _ => True) (fun k2 hk2 => Ok.q) fun c _ => .join (fun l : List Held => l.length ≤ i + 1 ∧ ∀ h ∈ l, SmA 1000 h.Route.Attrs) (fun k2 hk2 => .ite (fun _ => ?_) fun _ => hk2 _ ⟨by omega, hl.2⟩) fun l hl => hnx _ hl
  refine .bind (.apnd (by decide) (by simp; omega)) fun q hq => hk2 _ ⟨by rw [hq]; simp; omega, fun h hh => ?_⟩
  simp only [hq, List.mem_append, List.mem_singleton] at hh
  rcases hh with hh | rfl
  · exact hl.2 h hh
  · exact hb.a h hx
theorem ref29_merged_tt {a b : List Route} (ha : a.length ≤ 60000) (hb : b.length ≤ 60000) : Ok (ref29_merged a b) fun r => r.length ≤ 120000 := by
  unfold ref29_merged
  refine .bind (.apnd (by decide) (by simp; omega)) fun _ _ => .bind (.apnd (by decide) (by omega)) fun l hl => ?_
  have hll : l.length ≤ 120000 := by rw [hl]; simp; omega
  refine .join (fun r => r.length ≤ 120000) (fun k hk => ?_) fun r hr => .ret hr
  refine .forI (fun i (r : List Prefix) => r.length ≤ i) (by simp) (fun r hr => hk _ (by omega)) fun next x i r hi hx hr hnx => ?_
  refine .join (fun r' => r'.length ≤ i + 1) (fun k2 hk2 => ?_) fun r' hr' => hnx _ hr'
  refine .pos (n := r.length) (by omega) (fun k v h1 h2 hk => Ok.q) fun v g1 g2 => ?_
  refine .join (fun c => c = true ∨ v < r.length) (fun k3 hk3 => .ite (fun _ => hk3 _ (.inl rfl)) fun hc => ?_) fun c _ => ?_
  · have hv : v < r.length := by simp at hc; omega
    exact .bind (.geti ⟨g1, hv⟩) fun _ _ => hk3 _ (.inr hv)
  refine .join (fun r' => r'.length ≤ i + 1) (fun k3 hk3 => .ite (fun _ => ?_) fun _ => hk3 _ (by omega)) fun r' hr' => hk2 _ hr'
  refine .bind (.chk ⟨by omega, by omega, by omega⟩) fun _ _ => .bind (.apnd (by decide) (by simp; omega)) fun _ _ => .bind (.part ⟨by omega, by omega, by omega⟩) fun q hq => .bind (.apnd (by decide) (by simp; omega)) fun w hw => .bind (.apnd (by decide) (by rw [hw]; simp; omega)) fun w2 hw2 => hk3 _ ?_
  rw [hw2, hw]
  simp
  omega
theorem ref23_CopyRoutes_eq {n m : Nat} {l : List Route} (h : SmR n m l) (hn : n ≤ 100000) (hm : m ≤ 100000) : ref23_CopyRoutes l = some l := by
  have : Ok (ref23_CopyRoutes l) fun r => r = l := by
    unfold ref23_CopyRoutes
    have hl := h.1
    refine .join (fun r => r = l) (fun k hk => ?_) fun r hr => .ret hr
    refine .forX (fun i s => s = l.take i) rfl (fun s hs => hk _ (by rw [hs, List.take_length])) ?_
    rintro next x i s hx rfl hnx
    have := (List.getElem?_eq_some_iff.1 hx).1
    rw [ref23_CopyAttrs_eq (h.2 x (List.mem_of_getElem? hx)) hm, some_bind']
    refine .bind (.apnd (by decide) (by simp; omega)) fun v hv => hnx _ ?_
    rw [hv, List.take_add_one, hx]
    rfl
  obtain ⟨r, h3, h4⟩ := this
  rw [h3, h4]
theorem ref29_find_tt {l : List Route} {p : Prefix} {n m : Nat} (h : SmR n m l) : Ok (ref29_find l p) fun r => SmA m r.1.Attrs := by
  unfold ref29_find
  refine .join (fun _ => True) (fun k hk => ?_) fun _ _ => .ret (.zero ..)
  exact .for_ (fun _ => hk _ trivial) fun next x i s hi hx hnx => .ite (fun _ => .ret (h.2 x hx)) fun _ => hnx _
theorem ref29_Diff_tt {n : Int} {a b : List Route} (ha : SmR 60000 1100 a) (hb : SmR 60000 1100 b) : Ok (ref29_Diff n a b) fun r => r.length ≤ 120000 := by
  unfold ref29_Diff
  refine .bind (ref29_merged_tt ha.1 hb.1) fun ps hps => .join (fun r => r.length ≤ 120000) (fun k hk => ?_) fun r hr => .ret hr
  refine .forI (fun i (r : List Change) => r.length ≤ i) (by simp) (fun r hr => hk _ (by omega)) fun next x i r hi hx hr hnx => ?_
  refine .join (fun r' => r'.length ≤ i + 1) (fun k2 hk2 => ?_) fun r' hr' => hnx _ hr'
  refine .bind (ref29_find_tt ha) ?_
  rintro ⟨r1, c1⟩ h1
  refine .bind (ref29_find_tt hb) ?_
  rintro ⟨r2, c2⟩ h2
  simp only at h1 h2
  refine .join (fun _ => True) (fun k3 hk3 => Ok.q) fun _ _ => .ite (fun _ => hk2 _ (by omega)) fun _ => ?_
  refine .join (fun _ => True) (fun k3 hk3 => .ite (fun _ => ?_) fun _ => hk3 _ trivial) fun c _ => .bind (.apnd (by decide) (by simp; omega)) fun w hw => hk2 _ (by rw [hw]; simp; omega)
  rw [ref23_CopyRoutes_eq (n := 1) (m := 1100) ⟨by simp, fun r hr => by simp at hr; rw [hr]; exact h2⟩ (by omega) (by omega), some_bind']
  exact .bind (.geti (by simp)) fun _ _ => hk3 _ trivial
structure SmC (c : Cache) : Prop where
  s : SmS c.Server
  o : c.Offers.length = c.Server.Policies.length
  l : ∀ l ∈ c.Offers, SmR 60000 1100 l
theorem SmS.setB {s : Server} (h : SmS s) {i : Nat} {b : RIB} (hb : SmB 600 b) : SmS ⟨s.Filter, s.Policies, s.RIBs.set i b⟩ :=
  ⟨h.f, h.p, h.n, by simp [h.r], fun x hx => (List.mem_or_eq_of_mem_set hx).elim (h.b x) fun e => e ▸ hb⟩
theorem SmS.setP {s : Server} (h : SmS s) {i : Nat} {p : Policy} (hp : SmP p) : SmS ⟨s.Filter, s.Policies.set i p, s.RIBs⟩ :=
  ⟨h.f, fun x hx => (List.mem_or_eq_of_mem_set hx).elim (h.p x) fun e => e ▸ hp, by simpa using h.n, by simpa using h.r, h.b⟩
theorem ref29_Apply_tt {c : Cache} {r : Record} (hc : SmC c) (hu : SmV r.Update) (hp : SmP r.Policy) : Ok (ref29_Apply c r) fun x => x.2.2 = 0 → SmC x.1 ∧ x.1.Server.Policies.length = c.Server.Policies.length := by
  have hS := hc.s
  have hn := hS.n
  have hrl := hS.r
  unfold ref29_Apply
  rw [ref28_Copy_eq hS, some_bind']
  refine .bind (ref28_At_tt _ _) fun i hi => .ite (fun _ => .ret (by simp)) fun h0 => ?_
  have hi' : 0 ≤ i ∧ i < c.Server.Policies.length := by
    rcases hi with rfl | ⟨p, h1, h2, _⟩
    · simp at h0
    · exact ⟨h1, h2⟩
  have hiR : 0 ≤ i ∧ i < c.Server.RIBs.length := by omega
  have hA : ∀ p : List Policy, ∀ b : List RIB, p = c.Server.Policies → (∃ x, SmB 600 x ∧ b = c.Server.RIBs.set i.toNat x) ∨ b = c.Server.RIBs → SmS ⟨c.Server.Filter, p, b⟩ ∧ p.length = c.Server.Policies.length := by
    rintro p b rfl (⟨x, hx, rfl⟩ | rfl)
    · exact ⟨hS.setB hx, rfl⟩
    · exact ⟨hS, rfl⟩
  refine .join (fun x : Int × List Policy × List RIB => SmS ⟨c.Server.Filter, x.2.1, x.2.2⟩ ∧ x.2.1.length = c.Server.Policies.length) (fun k hk => .ite (fun _ => ?_) fun _ => ?_) ?_
  · refine .bind (.geti hiR) fun b hb => .bind (ref25_Apply_tt hS.f (hS.b b hb.1) hu) ?_
    rintro ⟨b', e⟩ hb'
    refine .bind (.geti hiR) fun _ _ => .bind (.seti hiR) fun w hw => hk _ (hA _ _ rfl (.inl ⟨_, hb'.1, hw.1⟩))
  · refine .join (fun x : Int × List Policy × List RIB => SmS ⟨c.Server.Filter, x.2.1, x.2.2⟩ ∧ x.2.1.length = c.Server.Policies.length) (fun k2 hk2 => .ite (fun _ => ?_) fun _ => ?_) (fun x hx => hk _ hx)
    · refine .bind (.geti hiR) fun b hb => .bind (ref25_Raise_tt (hS.b b hb.1)) ?_
      rintro ⟨b', e⟩ hb'
      refine .bind (.geti hiR) fun _ _ => .bind (.seti hiR) fun w hw => hk2 _ (hA _ _ rfl (.inl ⟨_, hb'.1, hw.1⟩))
    · refine .join (fun x : Int × List Policy × List RIB => SmS ⟨c.Server.Filter, x.2.1, x.2.2⟩ ∧ x.2.1.length = c.Server.Policies.length) (fun k3 hk3 => .ite (fun _ => ?_) fun _ => ?_) (fun x hx => hk2 _ hx)
      · refine .bind (.geti hiR) fun b hb => .bind (ref25_Down_tt (hS.b b hb.1)) ?_
        rintro ⟨b', e⟩ hb'
        refine .bind (.geti hiR) fun _ _ => .bind (.seti hiR) fun w hw => hk3 _ (hA _ _ rfl (.inl ⟨_, hb'.1, hw.1⟩))
      · refine .join (fun x : Int × List Policy × List RIB => SmS ⟨c.Server.Filter, x.2.1, x.2.2⟩ ∧ x.2.1.length = c.Server.Policies.length) (fun k4 hk4 => .ite (fun _ => ?_) fun _ => ?_) (fun x hx => hk3 _ hx)
        · have := ref26_Check_tt (a := r.Policy) (by have := hp.d; omega) (by have := hp.f; omega)
          refine .bind Ok.of fun _ _ => .join (fun _ => True) (fun k5 hk5 => Ok.q) fun _ _ => .join (fun _ => True) (fun k5 hk5 => Ok.q) fun _ _ => ?_
          rw [ref26_Copy_eq hp, some_bind']
          refine .bind (.geti hi') fun _ _ => .bind (.seti hi') fun w hw => hk4 _ ?_
          simp only [hw.1]
          exact ⟨hS.setP hp, by simp⟩
        · refine .join (fun x : Int × List RIB => (∃ y, SmB 600 y ∧ x.2 = c.Server.RIBs.set i.toNat y) ∨ x.2 = c.Server.RIBs) (fun k5 hk5 => .ite (fun _ => ?_) fun _ => hk5 _ (.inr rfl)) ?_
          · refine .bind (.geti hiR) fun b hb => .bind (ref25_Sweep_tt (hS.b b hb.1)) fun b' hb' => .bind (.geti hiR) fun _ _ => .bind (.seti hiR) fun w hw => hk5 _ (.inl ⟨_, hb'.1, hw.1⟩)
          · rintro ⟨e, w⟩ hw
            exact hk4 _ (hA _ _ rfl hw)
  · rintro ⟨e, ps, bs⟩ ⟨hs', hl'⟩
    simp only at hs' hl'
    refine .ite (fun he => .ret fun h => by simp at h he; exact absurd h he) fun _ => .bind (ref29_fill_tt hs') fun f hf => ?_
    obtain ⟨f1, f2, f3⟩ := hf
    simp only at f2
    refine .join (fun _ => True) (fun k hk => ?_) fun ch _ => .ret fun _ => ⟨⟨by rw [f1]; exact hs', by rw [f1]; exact f2, f3⟩, by rw [f1]; exact hl'⟩
    refine .forI (fun j (w : List Change) => w.length ≤ 120000 * j) (by simp) (fun w hw => hk _ trivial) fun next p j w hj hp hw hnx => ?_
    have ho := hc.o
    refine .bind (.geti (by omega)) fun o1 h1 => .bind (.geti (by omega)) fun o2 h2 => .bind (ref29_Diff_tt (hc.l o1 h1.1) (f3 o2 h2.1)) fun d hd => .bind (.apnd (by decide) (by omega)) fun w2 hw2 => hnx _ (by rw [hw2, List.length_append]; omega)
end Go.AX.Q35
end
