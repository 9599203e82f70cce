/-
  Texts of one proof, packed: Q33Sp Q33P0 L33G2 AxT AxV AxW AxU N18A N18B N18C AxX N18D N18E N18F N18G N18H N18I N18J N18K L33O N18V.
-/
import Derived.Test.YtdljbnbckcecdaaGreatDoorK2
import Derived.LaidSub
import Derived.MapKept
import Derived.Test.YtdljbnbckcecdaaGreatDoorRows
set_option linter.all false
section
namespace Go.AX.Q33
open Go Go.AX
set_option linter.unusedVariables false
def glob0:List (Int×Int):=[(1,64),(2,64),(3,64),(4,128),(5,64),(8,192),(32,192),(35,192)]
structure Open where
  ASN:Int
  ID:Int
  Hold:Int
  Role:Int
  Grace:Int
  Again:Bool
def Open.toD (x:Open):D:=.agg [D.i x.ASN,D.i x.ID,D.i x.Hold,D.i x.Role,D.i x.Grace,D.b x.Again]
def Open.av (x:Open):List AV:=[.d (D.i x.ASN),.d (D.i x.ID),.d (D.i x.Hold),.d (D.i x.Role),.d (D.i x.Grace),.d (D.b x.Again)]
def Open.zv:List AV:=[.d (D.i 0),.d (D.i 0),.d (D.i 0),.d (D.i 0),.d (D.i 0),.d (D.b false)]
def Open.wf (x:Open):Prop:=I64 x.ASN∧I64 x.ID∧I64 x.Hold∧I64 x.Role∧I64 x.Grace∧True∧True
def Open.eqd (x y:Open):Bool:=((x.ASN == y.ASN) && ((x.ID == y.ID) && ((x.Hold == y.Hold) && ((x.Role == y.Role) && ((x.Grace == y.Grace) && ((x.Again == y.Again) && true))))))
structure Session where
  State:Int
  Mine:Open
  ASN:Int
  Theirs:Open
  Sent:Int
  Heard:Int
def Session.toD (x:Session):D:=.agg [D.i x.State,D.i x.Mine.ASN,D.i x.Mine.ID,D.i x.Mine.Hold,D.i x.Mine.Role,D.i x.Mine.Grace,D.b x.Mine.Again,D.i x.ASN,D.i x.Theirs.ASN,D.i x.Theirs.ID,D.i x.Theirs.Hold,D.i x.Theirs.Role,D.i x.Theirs.Grace,D.b x.Theirs.Again,D.i x.Sent,D.i x.Heard]
def Session.av (x:Session):List AV:=[.d (D.i x.State),.d (D.i x.Mine.ASN),.d (D.i x.Mine.ID),.d (D.i x.Mine.Hold),.d (D.i x.Mine.Role),.d (D.i x.Mine.Grace),.d (D.b x.Mine.Again),.d (D.i x.ASN),.d (D.i x.Theirs.ASN),.d (D.i x.Theirs.ID),.d (D.i x.Theirs.Hold),.d (D.i x.Theirs.Role),.d (D.i x.Theirs.Grace),.d (D.b x.Theirs.Again),.d (D.i x.Sent),.d (D.i x.Heard)]
def Session.zv:List AV:=[.d (D.i 0),.d (D.i 0),.d (D.i 0),.d (D.i 0),.d (D.i 0),.d (D.i 0),.d (D.b false),.d (D.i 0),.d (D.i 0),.d (D.i 0),.d (D.i 0),.d (D.i 0),.d (D.i 0),.d (D.b false),.d (D.i 0),.d (D.i 0)]
def Session.wf (x:Session):Prop:=I64 x.State∧Open.wf x.Mine∧I64 x.ASN∧Open.wf x.Theirs∧I64 x.Sent∧I64 x.Heard∧True
def Session.eqd (x y:Session):Bool:=((x.State == y.State) && (((x.Mine.ASN == y.Mine.ASN) && ((x.Mine.ID == y.Mine.ID) && ((x.Mine.Hold == y.Mine.Hold) && ((x.Mine.Role == y.Mine.Role) && ((x.Mine.Grace == y.Mine.Grace) && ((x.Mine.Again == y.Mine.Again) && true)))))) && ((x.ASN == y.ASN) && (((x.Theirs.ASN == y.Theirs.ASN) && ((x.Theirs.ID == y.Theirs.ID) && ((x.Theirs.Hold == y.Theirs.Hold) && ((x.Theirs.Role == y.Theirs.Role) && ((x.Theirs.Grace == y.Theirs.Grace) && ((x.Theirs.Again == y.Theirs.Again) && true)))))) && ((x.Sent == y.Sent) && ((x.Heard == y.Heard) && true))))))
structure Unknown where
  Flags:Int
  Type_:Int
  Data:List UInt8
def Unknown.toD (x:Unknown):D:=.agg [D.i x.Flags,D.i x.Type_,D.l 1 D.u8 x.Data]
def Unknown.av (x:Unknown):List AV:=[.d (D.i x.Flags),.d (D.i x.Type_),.d (D.l 1 D.u8 x.Data)]
def Unknown.zv:List AV:=[.d (D.i 0),.d (D.i 0),.d (D.nil 1)]
def Unknown.wf (x:Unknown):Prop:=I64 x.Flags∧I64 x.Type_∧(x.Data.length ≤ maxLen∧x.Data.length * 1 ≤ reachBytes∧∀y0 ∈ x.Data,True)∧True
structure Segment where
  Set:Bool
  ASNs:List Int
def Segment.toD (x:Segment):D:=.agg [D.b x.Set,D.l 1 D.i x.ASNs]
def Segment.av (x:Segment):List AV:=[.d (D.b x.Set),.d (D.l 1 D.i x.ASNs)]
def Segment.zv:List AV:=[.d (D.b false),.d (D.nil 1)]
def Segment.wf (x:Segment):Prop:=True∧(x.ASNs.length ≤ maxLen∧x.ASNs.length * 8 ≤ reachBytes∧∀y0 ∈ x.ASNs,I64 y0)∧True
structure Addr where
  V6:Bool
  Hi:UInt64
  Lo:UInt64
def Addr.toD (x:Addr):D:=.agg [D.b x.V6,D.u64 x.Hi,D.u64 x.Lo]
def Addr.av (x:Addr):List AV:=[.d (D.b x.V6),.d (D.u64 x.Hi),.d (D.u64 x.Lo)]
def Addr.zv:List AV:=[.d (D.b false),.d (D.u64 (0:UInt64)),.d (D.u64 (0:UInt64))]
def Addr.wf (x:Addr):Prop:=True∧True∧True∧True
def Addr.eqd (x y:Addr):Bool:=((x.V6 == y.V6) && (((x.Hi.toNat:Int) == (y.Hi.toNat:Int)) && (((x.Lo.toNat:Int) == (y.Lo.toNat:Int)) && true)))
structure Community where
  A:Int
  B:Int
def Community.toD (x:Community):D:=.agg [D.i x.A,D.i x.B]
def Community.av (x:Community):List AV:=[.d (D.i x.A),.d (D.i x.B)]
def Community.zv:List AV:=[.d (D.i 0),.d (D.i 0)]
def Community.wf (x:Community):Prop:=I64 x.A∧I64 x.B∧True
def Community.eqd (x y:Community):Bool:=((x.A == y.A) && ((x.B == y.B) && true))
structure Large where
  A:Int
  B:Int
  C:Int
def Large.toD (x:Large):D:=.agg [D.i x.A,D.i x.B,D.i x.C]
def Large.av (x:Large):List AV:=[.d (D.i x.A),.d (D.i x.B),.d (D.i x.C)]
def Large.zv:List AV:=[.d (D.i 0),.d (D.i 0),.d (D.i 0)]
def Large.wf (x:Large):Prop:=I64 x.A∧I64 x.B∧I64 x.C∧True
def Large.eqd (x y:Large):Bool:=((x.A == y.A) && ((x.B == y.B) && ((x.C == y.C) && true)))
structure Attrs where
  Origin:Int
  Path:List Segment
  Next:Addr
  MED:Int
  Pref:Int
  OTC:Int
  Communities:List Community
  Large:List Large
  Other:List Unknown
def Attrs.toD (x:Attrs):D:=.agg [D.i x.Origin,D.l 2 Segment.toD x.Path,D.b x.Next.V6,D.u64 x.Next.Hi,D.u64 x.Next.Lo,D.i x.MED,D.i x.Pref,D.i x.OTC,D.l 2 Community.toD x.Communities,D.l 3 Large.toD x.Large,D.l 3 Unknown.toD x.Other]
def Attrs.av (x:Attrs):List AV:=[.d (D.i x.Origin),.d (D.l 2 Segment.toD x.Path),.d (D.b x.Next.V6),.d (D.u64 x.Next.Hi),.d (D.u64 x.Next.Lo),.d (D.i x.MED),.d (D.i x.Pref),.d (D.i x.OTC),.d (D.l 2 Community.toD x.Communities),.d (D.l 3 Large.toD x.Large),.d (D.l 3 Unknown.toD x.Other)]
def Attrs.zv:List AV:=[.d (D.i 0),.d (D.nil 2),.d (D.b false),.d (D.u64 (0:UInt64)),.d (D.u64 (0:UInt64)),.d (D.i 0),.d (D.i 0),.d (D.i 0),.d (D.nil 2),.d (D.nil 3),.d (D.nil 3)]
def Attrs.wf (x:Attrs):Prop:=I64 x.Origin∧(x.Path.length ≤ maxLen∧x.Path.length * 32 ≤ reachBytes∧∀y0 ∈ x.Path,Segment.wf y0)∧Addr.wf x.Next∧I64 x.MED∧I64 x.Pref∧I64 x.OTC∧(x.Communities.length ≤ maxLen∧x.Communities.length * 16 ≤ reachBytes∧∀y0 ∈ x.Communities,Community.wf y0)∧(x.Large.length ≤ maxLen∧x.Large.length * 24 ≤ reachBytes∧∀y0 ∈ x.Large,Large.wf y0)∧(x.Other.length ≤ maxLen∧x.Other.length * 40 ≤ reachBytes∧∀y0 ∈ x.Other,Unknown.wf y0)∧True
structure Prefix where
  Addr:Addr
  Len:Int
def Prefix.toD (x:Prefix):D:=.agg [D.b x.Addr.V6,D.u64 x.Addr.Hi,D.u64 x.Addr.Lo,D.i x.Len]
def Prefix.av (x:Prefix):List AV:=[.d (D.b x.Addr.V6),.d (D.u64 x.Addr.Hi),.d (D.u64 x.Addr.Lo),.d (D.i x.Len)]
def Prefix.zv:List AV:=[.d (D.b false),.d (D.u64 (0:UInt64)),.d (D.u64 (0:UInt64)),.d (D.i 0)]
def Prefix.wf (x:Prefix):Prop:=Addr.wf x.Addr∧I64 x.Len∧True
def Prefix.eqd (x y:Prefix):Bool:=(((x.Addr.V6 == y.Addr.V6) && (((x.Addr.Hi.toNat:Int) == (y.Addr.Hi.toNat:Int)) && (((x.Addr.Lo.toNat:Int) == (y.Addr.Lo.toNat:Int)) && true))) && ((x.Len == y.Len) && true))
structure update_parts where
  attrs:List Unknown
  next:Addr
  gone4:List Prefix
  gone6:List Prefix
  new4:List Prefix
  new6:List Prefix
def update_parts.toD (x:update_parts):D:=.agg [D.l 3 Unknown.toD x.attrs,D.b x.next.V6,D.u64 x.next.Hi,D.u64 x.next.Lo,D.l 4 Prefix.toD x.gone4,D.l 4 Prefix.toD x.gone6,D.l 4 Prefix.toD x.new4,D.l 4 Prefix.toD x.new6]
def update_parts.av (x:update_parts):List AV:=[.d (D.l 3 Unknown.toD x.attrs),.d (D.b x.next.V6),.d (D.u64 x.next.Hi),.d (D.u64 x.next.Lo),.d (D.l 4 Prefix.toD x.gone4),.d (D.l 4 Prefix.toD x.gone6),.d (D.l 4 Prefix.toD x.new4),.d (D.l 4 Prefix.toD x.new6)]
def update_parts.zv:List AV:=[.d (D.nil 3),.d (D.b false),.d (D.u64 (0:UInt64)),.d (D.u64 (0:UInt64)),.d (D.nil 4),.d (D.nil 4),.d (D.nil 4),.d (D.nil 4)]
def update_parts.wf (x:update_parts):Prop:=(x.attrs.length ≤ maxLen∧x.attrs.length * 40 ≤ reachBytes∧∀y0 ∈ x.attrs,Unknown.wf y0)∧Addr.wf x.next∧(x.gone4.length ≤ maxLen∧x.gone4.length * 32 ≤ reachBytes∧∀y0 ∈ x.gone4,Prefix.wf y0)∧(x.gone6.length ≤ maxLen∧x.gone6.length * 32 ≤ reachBytes∧∀y0 ∈ x.gone6,Prefix.wf y0)∧(x.new4.length ≤ maxLen∧x.new4.length * 32 ≤ reachBytes∧∀y0 ∈ x.new4,Prefix.wf y0)∧(x.new6.length ≤ maxLen∧x.new6.length * 32 ≤ reachBytes∧∀y0 ∈ x.new6,Prefix.wf y0)∧True
structure Update where
  Withdraw:List Prefix
  Attrs:Attrs
  Announce:List Prefix
def Update.toD (x:Update):D:=.agg [D.l 4 Prefix.toD x.Withdraw,D.i x.Attrs.Origin,D.l 2 Segment.toD x.Attrs.Path,D.b x.Attrs.Next.V6,D.u64 x.Attrs.Next.Hi,D.u64 x.Attrs.Next.Lo,D.i x.Attrs.MED,D.i x.Attrs.Pref,D.i x.Attrs.OTC,D.l 2 Community.toD x.Attrs.Communities,D.l 3 Large.toD x.Attrs.Large,D.l 3 Unknown.toD x.Attrs.Other,D.l 4 Prefix.toD x.Announce]
def Update.av (x:Update):List AV:=[.d (D.l 4 Prefix.toD x.Withdraw),.d (D.i x.Attrs.Origin),.d (D.l 2 Segment.toD x.Attrs.Path),.d (D.b x.Attrs.Next.V6),.d (D.u64 x.Attrs.Next.Hi),.d (D.u64 x.Attrs.Next.Lo),.d (D.i x.Attrs.MED),.d (D.i x.Attrs.Pref),.d (D.i x.Attrs.OTC),.d (D.l 2 Community.toD x.Attrs.Communities),.d (D.l 3 Large.toD x.Attrs.Large),.d (D.l 3 Unknown.toD x.Attrs.Other),.d (D.l 4 Prefix.toD x.Announce)]
def Update.zv:List AV:=[.d (D.nil 4),.d (D.i 0),.d (D.nil 2),.d (D.b false),.d (D.u64 (0:UInt64)),.d (D.u64 (0:UInt64)),.d (D.i 0),.d (D.i 0),.d (D.i 0),.d (D.nil 2),.d (D.nil 3),.d (D.nil 3),.d (D.nil 4)]
def Update.wf (x:Update):Prop:=(x.Withdraw.length ≤ maxLen∧x.Withdraw.length * 32 ≤ reachBytes∧∀y0 ∈ x.Withdraw,Prefix.wf y0)∧Attrs.wf x.Attrs∧(x.Announce.length ≤ maxLen∧x.Announce.length * 32 ≤ reachBytes∧∀y0 ∈ x.Announce,Prefix.wf y0)∧True
structure Prefer where
  ASN:Int
  Value:Int
def Prefer.toD (x:Prefer):D:=.agg [D.i x.ASN,D.i x.Value]
def Prefer.av (x:Prefer):List AV:=[.d (D.i x.ASN),.d (D.i x.Value)]
def Prefer.zv:List AV:=[.d (D.i 0),.d (D.i 0)]
def Prefer.wf (x:Prefer):Prop:=I64 x.ASN∧I64 x.Value∧True
def Prefer.eqd (x y:Prefer):Bool:=((x.ASN == y.ASN) && ((x.Value == y.Value) && true))
structure Policy where
  ASN:Int
  No4:Bool
  No6:Bool
  Holes:Bool
  Hops:Int
  Deny:List Int
  Prefer:List Prefer
def Policy.toD (x:Policy):D:=.agg [D.i x.ASN,D.b x.No4,D.b x.No6,D.b x.Holes,D.i x.Hops,D.l 1 D.i x.Deny,D.l 2 Prefer.toD x.Prefer]
def Policy.av (x:Policy):List AV:=[.d (D.i x.ASN),.d (D.b x.No4),.d (D.b x.No6),.d (D.b x.Holes),.d (D.i x.Hops),.d (D.l 1 D.i x.Deny),.d (D.l 2 Prefer.toD x.Prefer)]
def Policy.zv:List AV:=[.d (D.i 0),.d (D.b false),.d (D.b false),.d (D.b false),.d (D.i 0),.d (D.nil 1),.d (D.nil 2)]
def Policy.wf (x:Policy):Prop:=I64 x.ASN∧True∧True∧True∧I64 x.Hops∧(x.Deny.length ≤ maxLen∧x.Deny.length * 8 ≤ reachBytes∧∀y0 ∈ x.Deny,I64 y0)∧(x.Prefer.length ≤ maxLen∧x.Prefer.length * 16 ≤ reachBytes∧∀y0 ∈ x.Prefer,Prefer.wf y0)∧True
structure Record where
  Kind:Int
  Member:Int
  Tick:Int
  Grace:Int
  Update:Update
  Policy:Policy
def Record.toD (x:Record):D:=.agg [D.i x.Kind,D.i x.Member,D.i x.Tick,D.i x.Grace,D.l 4 Prefix.toD x.Update.Withdraw,D.i x.Update.Attrs.Origin,D.l 2 Segment.toD x.Update.Attrs.Path,D.b x.Update.Attrs.Next.V6,D.u64 x.Update.Attrs.Next.Hi,D.u64 x.Update.Attrs.Next.Lo,D.i x.Update.Attrs.MED,D.i x.Update.Attrs.Pref,D.i x.Update.Attrs.OTC,D.l 2 Community.toD x.Update.Attrs.Communities,D.l 3 Large.toD x.Update.Attrs.Large,D.l 3 Unknown.toD x.Update.Attrs.Other,D.l 4 Prefix.toD x.Update.Announce,D.i x.Policy.ASN,D.b x.Policy.No4,D.b x.Policy.No6,D.b x.Policy.Holes,D.i x.Policy.Hops,D.l 1 D.i x.Policy.Deny,D.l 2 Prefer.toD x.Policy.Prefer]
def Record.av (x:Record):List AV:=[.d (D.i x.Kind),.d (D.i x.Member),.d (D.i x.Tick),.d (D.i x.Grace),.d (D.l 4 Prefix.toD x.Update.Withdraw),.d (D.i x.Update.Attrs.Origin),.d (D.l 2 Segment.toD x.Update.Attrs.Path),.d (D.b x.Update.Attrs.Next.V6),.d (D.u64 x.Update.Attrs.Next.Hi),.d (D.u64 x.Update.Attrs.Next.Lo),.d (D.i x.Update.Attrs.MED),.d (D.i x.Update.Attrs.Pref),.d (D.i x.Update.Attrs.OTC),.d (D.l 2 Community.toD x.Update.Attrs.Communities),.d (D.l 3 Large.toD x.Update.Attrs.Large),.d (D.l 3 Unknown.toD x.Update.Attrs.Other),.d (D.l 4 Prefix.toD x.Update.Announce),.d (D.i x.Policy.ASN),.d (D.b x.Policy.No4),.d (D.b x.Policy.No6),.d (D.b x.Policy.Holes),.d (D.i x.Policy.Hops),.d (D.l 1 D.i x.Policy.Deny),.d (D.l 2 Prefer.toD x.Policy.Prefer)]
def Record.zv:List AV:=[.d (D.i 0),.d (D.i 0),.d (D.i 0),.d (D.i 0),.d (D.nil 4),.d (D.i 0),.d (D.nil 2),.d (D.b false),.d (D.u64 (0:UInt64)),.d (D.u64 (0:UInt64)),.d (D.i 0),.d (D.i 0),.d (D.i 0),.d (D.nil 2),.d (D.nil 3),.d (D.nil 3),.d (D.nil 4),.d (D.i 0),.d (D.b false),.d (D.b false),.d (D.b false),.d (D.i 0),.d (D.nil 1),.d (D.nil 2)]
def Record.wf (x:Record):Prop:=I64 x.Kind∧I64 x.Member∧I64 x.Tick∧I64 x.Grace∧Update.wf x.Update∧Policy.wf x.Policy∧True
structure Message where
  Type_:Int
  Body:List UInt8
def Message.toD (x:Message):D:=.agg [D.i x.Type_,D.l 1 D.u8 x.Body]
def Message.av (x:Message):List AV:=[.d (D.i x.Type_),.d (D.l 1 D.u8 x.Body)]
def Message.zv:List AV:=[.d (D.i 0),.d (D.nil 1)]
def Message.wf (x:Message):Prop:=I64 x.Type_∧(x.Body.length ≤ maxLen∧x.Body.length * 1 ≤ reachBytes∧∀y0 ∈ x.Body,True)∧True
structure restart_pair where
  was:Bool
  is:Bool
def restart_pair.toD (x:restart_pair):D:=.agg [D.b x.was,D.b x.is]
def restart_pair.av (x:restart_pair):List AV:=[.d (D.b x.was),.d (D.b x.is)]
def restart_pair.zv:List AV:=[.d (D.b false),.d (D.b false)]
def restart_pair.wf (x:restart_pair):Prop:=True∧True∧True
def restart_pair.eqd (x y:restart_pair):Bool:=((x.was == y.was) && ((x.is == y.is) && true))
structure Peer where
  ASN:Int
  Set:ByteArray
  Max4:Int
  Max6:Int
  Nexts:List Addr
def Peer.toD (x:Peer):D:=.agg [D.i x.ASN,D.s x.Set,D.i x.Max4,D.i x.Max6,D.l 3 Addr.toD x.Nexts]
def Peer.av (x:Peer):List AV:=[.d (D.i x.ASN),.d (D.s x.Set),.d (D.i x.Max4),.d (D.i x.Max6),.d (D.l 3 Addr.toD x.Nexts)]
def Peer.zv:List AV:=[.d (D.i 0),.d (D.s ByteArray.empty),.d (D.i 0),.d (D.i 0),.d (D.nil 3)]
def Peer.wf (x:Peer):Prop:=I64 x.ASN∧(x.Set.size ≤ maxLen∧x.Set.size ≤ reachBytes)∧I64 x.Max4∧I64 x.Max6∧(x.Nexts.length ≤ maxLen∧x.Nexts.length * 24 ≤ reachBytes∧∀y0 ∈ x.Nexts,Addr.wf y0)∧True
structure Route where
  Prefix:Prefix
  From:Int
  Attrs:Attrs
def Route.toD (x:Route):D:=.agg [D.b x.Prefix.Addr.V6,D.u64 x.Prefix.Addr.Hi,D.u64 x.Prefix.Addr.Lo,D.i x.Prefix.Len,D.i x.From,D.i x.Attrs.Origin,D.l 2 Segment.toD x.Attrs.Path,D.b x.Attrs.Next.V6,D.u64 x.Attrs.Next.Hi,D.u64 x.Attrs.Next.Lo,D.i x.Attrs.MED,D.i x.Attrs.Pref,D.i x.Attrs.OTC,D.l 2 Community.toD x.Attrs.Communities,D.l 3 Large.toD x.Attrs.Large,D.l 3 Unknown.toD x.Attrs.Other]
def Route.av (x:Route):List AV:=[.d (D.b x.Prefix.Addr.V6),.d (D.u64 x.Prefix.Addr.Hi),.d (D.u64 x.Prefix.Addr.Lo),.d (D.i x.Prefix.Len),.d (D.i x.From),.d (D.i x.Attrs.Origin),.d (D.l 2 Segment.toD x.Attrs.Path),.d (D.b x.Attrs.Next.V6),.d (D.u64 x.Attrs.Next.Hi),.d (D.u64 x.Attrs.Next.Lo),.d (D.i x.Attrs.MED),.d (D.i x.Attrs.Pref),.d (D.i x.Attrs.OTC),.d (D.l 2 Community.toD x.Attrs.Communities),.d (D.l 3 Large.toD x.Attrs.Large),.d (D.l 3 Unknown.toD x.Attrs.Other)]
def Route.zv:List AV:=[.d (D.b false),.d (D.u64 (0:UInt64)),.d (D.u64 (0:UInt64)),.d (D.i 0),.d (D.i 0),.d (D.i 0),.d (D.nil 2),.d (D.b false),.d (D.u64 (0:UInt64)),.d (D.u64 (0:UInt64)),.d (D.i 0),.d (D.i 0),.d (D.i 0),.d (D.nil 2),.d (D.nil 3),.d (D.nil 3)]
def Route.wf (x:Route):Prop:=Prefix.wf x.Prefix∧I64 x.From∧Attrs.wf x.Attrs∧True
structure Held where
  Route:Route
  Reason:Int
  Stale:Bool
def Held.toD (x:Held):D:=.agg [D.b x.Route.Prefix.Addr.V6,D.u64 x.Route.Prefix.Addr.Hi,D.u64 x.Route.Prefix.Addr.Lo,D.i x.Route.Prefix.Len,D.i x.Route.From,D.i x.Route.Attrs.Origin,D.l 2 Segment.toD x.Route.Attrs.Path,D.b x.Route.Attrs.Next.V6,D.u64 x.Route.Attrs.Next.Hi,D.u64 x.Route.Attrs.Next.Lo,D.i x.Route.Attrs.MED,D.i x.Route.Attrs.Pref,D.i x.Route.Attrs.OTC,D.l 2 Community.toD x.Route.Attrs.Communities,D.l 3 Large.toD x.Route.Attrs.Large,D.l 3 Unknown.toD x.Route.Attrs.Other,D.i x.Reason,D.b x.Stale]
def Held.av (x:Held):List AV:=[.d (D.b x.Route.Prefix.Addr.V6),.d (D.u64 x.Route.Prefix.Addr.Hi),.d (D.u64 x.Route.Prefix.Addr.Lo),.d (D.i x.Route.Prefix.Len),.d (D.i x.Route.From),.d (D.i x.Route.Attrs.Origin),.d (D.l 2 Segment.toD x.Route.Attrs.Path),.d (D.b x.Route.Attrs.Next.V6),.d (D.u64 x.Route.Attrs.Next.Hi),.d (D.u64 x.Route.Attrs.Next.Lo),.d (D.i x.Route.Attrs.MED),.d (D.i x.Route.Attrs.Pref),.d (D.i x.Route.Attrs.OTC),.d (D.l 2 Community.toD x.Route.Attrs.Communities),.d (D.l 3 Large.toD x.Route.Attrs.Large),.d (D.l 3 Unknown.toD x.Route.Attrs.Other),.d (D.i x.Reason),.d (D.b x.Stale)]
def Held.zv:List AV:=[.d (D.b false),.d (D.u64 (0:UInt64)),.d (D.u64 (0:UInt64)),.d (D.i 0),.d (D.i 0),.d (D.i 0),.d (D.nil 2),.d (D.b false),.d (D.u64 (0:UInt64)),.d (D.u64 (0:UInt64)),.d (D.i 0),.d (D.i 0),.d (D.i 0),.d (D.nil 2),.d (D.nil 3),.d (D.nil 3),.d (D.i 0),.d (D.b false)]
def Held.wf (x:Held):Prop:=Route.wf x.Route∧I64 x.Reason∧True∧True
structure RIB where
  Peer:Peer
  Up:Bool
  Held:List Held
  Until:Int
def RIB.toD (x:RIB):D:=.agg [D.i x.Peer.ASN,D.s x.Peer.Set,D.i x.Peer.Max4,D.i x.Peer.Max6,D.l 3 Addr.toD x.Peer.Nexts,D.b x.Up,D.l 18 Held.toD x.Held,D.i x.Until]
def RIB.av (x:RIB):List AV:=[.d (D.i x.Peer.ASN),.d (D.s x.Peer.Set),.d (D.i x.Peer.Max4),.d (D.i x.Peer.Max6),.d (D.l 3 Addr.toD x.Peer.Nexts),.d (D.b x.Up),.d (D.l 18 Held.toD x.Held),.d (D.i x.Until)]
def RIB.zv:List AV:=[.d (D.i 0),.d (D.s ByteArray.empty),.d (D.i 0),.d (D.i 0),.d (D.nil 3),.d (D.b false),.d (D.nil 18),.d (D.i 0)]
def RIB.wf (x:RIB):Prop:=Peer.wf x.Peer∧True∧(x.Held.length ≤ maxLen∧x.Held.length * 208 ≤ reachBytes∧∀y0 ∈ x.Held,Held.wf y0)∧I64 x.Until∧True
structure Deck where
  L:List Int
  At:Int
def Deck.toD (x:Deck):D:=.agg [D.l 1 D.i x.L,D.i x.At]
def Deck.av (x:Deck):List AV:=[.d (D.l 1 D.i x.L),.d (D.i x.At)]
def Deck.zv:List AV:=[.d (D.nil 1),.d (D.i 0)]
def Deck.wf (x:Deck):Prop:=(x.L.length ≤ maxLen∧x.L.length * 8 ≤ reachBytes∧∀y0 ∈ x.L,I64 y0)∧I64 x.At∧True
def restart_Keeps (a0:Session):Option Int:= some (if a0.Theirs.Grace < a0.Mine.Grace then a0.Theirs.Grace else a0.Mine.Grace)
def bytes_Equal (a0:List UInt8) (a1:List UInt8):Option Bool:= some ((bs a0).toList == (bs a1).toList)
def attribute_firsts (a0:List Unknown):Option (List Unknown):= joinP (τ:=(List Unknown)) (fun k1=> forR (σ:=(List (Int×Bool))×(List Unknown)) (fun (v2,v3)=> k1 v3
) (fun next4 (x5:Unknown) i6 (v2,v3)=> Option.bind (some (Option.getD (mget v2 x5.Type_) false)) fun v7=> joinP (τ:=(List Unknown)) (fun k8=> if (!v7) then Option.bind (apnd (α:=Unknown) 40 v3 ([x5]:List Unknown)) fun v9=> k8 v9 else k8 v3
) fun v10=> next4 ((mset v2 x5.Type_ true),v10)
) a0 0 ([],[])
) fun v11=> some v11
def attribute_unknown (a0:Int):Option Bool:= joinP (τ:=Bool) (fun k1=> Option.bind (some (Option.getD (mget glob0 a0) 0)) fun v2=> if (v2 == 0) then if (cond true (a0 != 14) false) then k1 (cond true (a0 != 15) false) else k1 false else k1 false
) fun v3=> some v3
def attribute_Read_1 (a0:Unknown):Option Bool:= joinP (τ:=Bool) (fun k1=> Option.bind (attribute_unknown a0.Type_) fun v2=> if v2 then k1 (cond true ((i64w ((BitVec.ofInt 64 a0.Flags &&& BitVec.ofInt 64 128).toNat:Int)) == 0) false) else k1 false
) fun v3=> some v3
def attribute_Empty:Option Attrs:= some (⟨(-1),[],(⟨false,(0:UInt64),(0:UInt64)⟩:Addr),(-1),(-1),(-1),[],[],[]⟩:Attrs)
def attribute_right (a0:Unknown):Option Bool:= joinP (τ:=Bool) (fun k1=> Option.bind (some (Option.getD (mget glob0 a0.Type_) 0)) fun v2=> if ((i64w ((BitVec.ofInt 64 (i64w ((BitVec.ofInt 64 a0.Flags ^^^ BitVec.ofInt 64 v2).toNat:Int)) &&& BitVec.ofInt 64 192).toNat:Int)) == 0) then Option.bind (some (Option.getD (mget glob0 a0.Type_) 0)) fun v3=> if (v3 == 192) then k1 true else k1 (cond true (cond false true ((i64w ((BitVec.ofInt 64 a0.Flags &&& BitVec.ofInt 64 32).toNat:Int)) == 0)) false) else k1 false
) fun v4=> some v4
def attribute_get (a0:List UInt8):Option Int:= joinP (τ:=Int) (fun k1=> forR (σ:=Int) (fun v2=> k1 v2
) (fun next3 (x4:UInt8) i5 v2=> next3 (i64w ((BitVec.ofInt 64 (i64w (v2 * (2 ^ (min (Int.toNat 8) 64)))) ||| BitVec.ofInt 64 (x4.toNat:Int)).toNat:Int))
) a0 0 0
) fun v6=> some v6
def attribute_numbers (a0:List UInt8):Option (List Int):= joinP (τ:=(List Int)) (fun k1=> whileR (σ:=(List UInt8)×(List Int)) (fun next2 (v3,v4)=> if (decide ((v3.length:Int) ≥ 4)) then Option.bind (part v3 0 4) fun v5=> Option.bind (attribute_get v5) fun v6=> Option.bind (apnd (α:=Int) 8 v4 ([v6]:List Int)) fun v7=> Option.bind (part v3 4 (v3.length:Int)) fun v8=> next2 (v8,v7) else k1 v4
) fuel (a0,[])
) fun v9=> some v9
def slices_Compact_int_int (a0:List Int):Option (List Int):= if (decide ((a0.length:Int) < 2)) then some a0 else joinP (τ:=Unit) (fun k1=> whileR (σ:=Int) (fun next2 v3=> if (decide (v3 < (a0.length:Int))) then joinP (τ:=Unit) (fun k4=> Option.bind (geti a0 v3) fun v5=> Option.bind (geti a0 (i64w (v3 - 1))) fun v6=> if (v5 == v6) then Option.bind (chk (0 ≤ v3∧v3 ≤ (a0.length:Int)∧(a0.length:Int) ≤ (a0.length:Int))) fun _=> joinP (τ:=Int×(List Int)) (fun k7=> whileR (σ:=Int×Int×(List Int)) (fun next8 (v9,v10,v11)=> if (decide (v10 < (((Int.toNat (a0.length:Int) - Int.toNat v3):Nat):Int))) then Option.bind (geti (List.take (Int.toNat (a0.length:Int) - Int.toNat v3) (List.drop (Int.toNat v3) v11)) v10) fun v12=> Option.bind (geti (List.take (Int.toNat (a0.length:Int) - Int.toNat v3) (List.drop (Int.toNat v3) v11)) (i64w (v10 - 1))) fun v13=> joinP (τ:=Int×(List Int)) (fun k14=> if (v12 != v13) then Option.bind (geti (List.take (Int.toNat (a0.length:Int) - Int.toNat v3) (List.drop (Int.toNat v3) v11)) v10) fun v15=> Option.bind (geti v11 v9) fun v16=> Option.bind (seti v11 v9 v15) fun v17=> k14 ((i64w (v9 + 1)),v17) else k14 (v9,v11)
) fun (v18,v19)=> next8 (v18,(i64w (v10 + 1)),v19) else k7 (v9,v11)
) fuel (v3,1,a0)
) fun (v20,v21)=> Option.bind (chk (0 ≤ v20∧v20 ≤ (v21.length:Int)∧(v21.length:Int) ≤ (v21.length:Int))) fun _=> Option.bind (part (List.take (Int.toNat v20) v21 ++ List.replicate (Int.toNat (v21.length:Int) - Int.toNat v20) 0 ++ List.drop ((Int.toNat v20) + (Int.toNat (v21.length:Int) - Int.toNat v20)) v21) 0 v20) fun v22=> some v22 else k4 ()
) fun _=> next2 (i64w (v3 + 1)) else k1 ()
) fuel 1
) fun _=> some a0
def aspath_Number (a0:Int):Option Bool:= joinP (τ:=Bool) (fun k1=> if (decide (a0 ≥ 1)) then k1 (cond true (decide (a0 ≤ 4294967295)) false) else k1 false
) fun v2=> some v2
def aspath_Valid (a0:List Segment):Option Bool:= joinP (τ:=Int) (fun k1=> forR (σ:=Int) (fun v2=> k1 v2
) (fun next3 (x4:Segment) i5 v2=> joinP (τ:=Unit) (fun k6=> joinP (τ:=Bool) (fun k7=> if ((x4.ASNs.length:Int) == 0) then k7 true else if (decide ((i5:Int) > 0)) then if (cond true (!x4.Set) false) then Option.bind (geti a0 (i64w ((i5:Int) - 1))) fun v8=> k7 (cond false true (cond true (!v8.Set) false)) else k7 false else k7 false
) fun v9=> if v9 then some false else joinP (τ:=Unit) (fun k10=> forR (σ:=Unit) (fun _=> k10 ()
) (fun next11 (x12:Int) i13 _=> joinP (τ:=Bool) (fun k14=> Option.bind (aspath_Number x12) fun v15=> if (!v15) then k14 true else if x4.Set then if (cond true (decide ((i13:Int) > 0)) false) then Option.bind (geti x4.ASNs (i64w ((i13:Int) - 1))) fun v16=> k14 (cond false true (cond true (decide (v16 ≥ x12)) false)) else k14 false else k14 false
) fun v17=> if v17 then some false else next11 ()
) x4.ASNs 0 ()
) fun _=> k6 ()
) fun _=> next3 (i64w (v2 + (x4.ASNs.length:Int)))
) a0 0 0
) fun v18=> some (decide (v18 ≤ 64))
def addr_FromBytes (a0:List UInt8):Option (Addr×Int):= joinP (τ:=Bool) (fun k1=> if ((a0.length:Int) != 4) then k1 (cond true ((a0.length:Int) != 16) false) else k1 false
) fun v2=> if v2 then some ((⟨false,(0:UInt64),(0:UInt64)⟩:Addr),1) else joinP (τ:=Addr) (fun k3=> forR (σ:=Addr) (fun v4=> k3 v4
) (fun next5 (x6:UInt8) i7 v4=> next5 (⟨v4.V6,(toU64 ((BitVec.ofInt 64 ((toU64 ((v4.Hi.toNat:Int) * (2 ^ (min (Int.toNat 8) 64)))).toNat:Int) ||| BitVec.ofInt 64 ((toU64 (Int.fdiv (v4.Lo.toNat:Int) (2 ^ (min (Int.toNat 56) 64)))).toNat:Int)).toNat:Int)),(toU64 ((BitVec.ofInt 64 ((toU64 ((v4.Lo.toNat:Int) * (2 ^ (min (Int.toNat 8) 64)))).toNat:Int) ||| BitVec.ofInt 64 ((toU64 (x6.toNat:Int)).toNat:Int)).toNat:Int))⟩:Addr)
) a0 0 (⟨((a0.length:Int) == 16),(0:UInt64),(0:UInt64)⟩:Addr)
) fun v8=> some (v8,0)
def slices_Compact_api_Community_api_Community (a0:List Community):Option (List Community):= if (decide ((a0.length:Int) < 2)) then some a0 else joinP (τ:=Unit) (fun k1=> whileR (σ:=Int) (fun next2 v3=> if (decide (v3 < (a0.length:Int))) then joinP (τ:=Unit) (fun k4=> Option.bind (geti a0 v3) fun v5=> Option.bind (geti a0 (i64w (v3 - 1))) fun v6=> if (Community.eqd v5 v6) then Option.bind (chk (0 ≤ v3∧v3 ≤ (a0.length:Int)∧(a0.length:Int) ≤ (a0.length:Int))) fun _=> joinP (τ:=Int×(List Community)) (fun k7=> whileR (σ:=Int×Int×(List Community)) (fun next8 (v9,v10,v11)=> if (decide (v10 < (((Int.toNat (a0.length:Int) - Int.toNat v3):Nat):Int))) then Option.bind (geti (List.take (Int.toNat (a0.length:Int) - Int.toNat v3) (List.drop (Int.toNat v3) v11)) v10) fun v12=> Option.bind (geti (List.take (Int.toNat (a0.length:Int) - Int.toNat v3) (List.drop (Int.toNat v3) v11)) (i64w (v10 - 1))) fun v13=> joinP (τ:=Int×(List Community)) (fun k14=> if (!(Community.eqd v12 v13)) then Option.bind (geti (List.take (Int.toNat (a0.length:Int) - Int.toNat v3) (List.drop (Int.toNat v3) v11)) v10) fun v15=> Option.bind (geti v11 v9) fun v16=> Option.bind (seti v11 v9 v15) fun v17=> k14 ((i64w (v9 + 1)),v17) else k14 (v9,v11)
) fun (v18,v19)=> next8 (v18,(i64w (v10 + 1)),v19) else k7 (v9,v11)
) fuel (v3,1,a0)
) fun (v20,v21)=> Option.bind (chk (0 ≤ v20∧v20 ≤ (v21.length:Int)∧(v21.length:Int) ≤ (v21.length:Int))) fun _=> Option.bind (part (List.take (Int.toNat v20) v21 ++ List.replicate (Int.toNat (v21.length:Int) - Int.toNat v20) (⟨0,0⟩:Community) ++ List.drop ((Int.toNat v20) + (Int.toNat (v21.length:Int) - Int.toNat v20)) v21) 0 v20) fun v22=> some v22 else k4 ()
) fun _=> next2 (i64w (v3 + 1)) else k1 ()
) fuel 1
) fun _=> some a0
def cmp_isNaN_int (a0:Int):Option Bool:= some (a0 != a0)
def cmp_Compare_int (a0:Int) (a1:Int):Option Int:= Option.bind (cmp_isNaN_int a0) fun v1=> Option.bind (cmp_isNaN_int a1) fun v2=> if v1 then if v2 then some 0 else some (-1) else if v2 then some 1 else if (decide (a0 < a1)) then some (-1) else if (decide (a0 > a1)) then some 1 else some 0
def cmp_Or_int (a0:List Int):Option Int:= joinP (τ:=Unit) (fun k1=> forR (σ:=Unit) (fun _=> k1 ()
) (fun next2 (x3:Int) i4 _=> if (x3 != 0) then some x3 else next2 ()
) a0 0 ()
) fun _=> some 0
def attribute_readCommunities_1 (a0:Community) (a1:Community):Option Int:= Option.bind (cmp_Compare_int a0.A a1.A) fun v1=> Option.bind (cmp_Compare_int a0.B a1.B) fun v2=> Option.bind (cmp_Or_int ([v1,v2]:List Int)) fun v3=> some v3
def slices_Min_int_int (a0:List Int):Option Int:= if (decide ((a0.length:Int) < 1)) then none else Option.bind (geti a0 0) fun v1=> joinP (τ:=Int) (fun k2=> whileR (σ:=Int×Int) (fun next3 (v4,v5)=> if (decide (v5 < (a0.length:Int))) then Option.bind (geti a0 v5) fun v6=> next3 ((if v6 < v4 then v6 else v4),(i64w (v5 + 1))) else k2 v4
) fuel (v1,1)
) fun v7=> some v7
def slices_Max_int_int (a0:List Int):Option Int:= if (decide ((a0.length:Int) < 1)) then none else Option.bind (geti a0 0) fun v1=> joinP (τ:=Int) (fun k2=> whileR (σ:=Int×Int) (fun next3 (v4,v5)=> if (decide (v5 < (a0.length:Int))) then Option.bind (geti a0 v5) fun v6=> next3 ((if v6 > v4 then v6 else v4),(i64w (v5 + 1))) else k2 v4
) fuel (v1,1)
) fun v7=> some v7
def community_within (a0:Int) (a1:List Int):Option Bool:= joinP (τ:=Bool) (fun k1=> Option.bind (slices_Min_int_int a1) fun v2=> if (decide (v2 ≥ 0)) then Option.bind (slices_Max_int_int a1) fun v3=> k1 (cond true (decide (v3 ≤ a0)) false) else k1 false
) fun v4=> some v4
def community_fits (a0:Community):Option Bool:= Option.bind (community_within 65535 ([a0.A,a0.B]:List Int)) fun v1=> some v1
def community_compare (a0:Community) (a1:Community):Option Int:= Option.bind (cmp_Compare_int a0.A a1.A) fun v1=> Option.bind (cmp_Compare_int a0.B a1.B) fun v2=> Option.bind (cmp_Or_int ([v1,v2]:List Int)) fun v3=> some v3
def community_ascends_api_Community__community_fits__community_compare (a0:List Community):Option Bool:= joinP (τ:=Unit) (fun k1=> forR (σ:=Unit) (fun _=> k1 ()
) (fun next2 (x3:Community) i4 _=> joinP (τ:=Bool) (fun k5=> Option.bind (community_fits x3) fun v6=> if (!v6) then k5 true else if (decide ((i4:Int) > 0)) then Option.bind (geti a0 (i64w ((i4:Int) - 1))) fun v7=> Option.bind (community_compare v7 x3) fun v8=> k5 (cond false true (cond true (decide (v8 ≥ 0)) false)) else k5 false
) fun v9=> if v9 then some false else next2 ()
) a0 0 ()
) fun _=> some (decide ((a0.length:Int) ≤ 64))
def community_Valid (a0:List Community):Option Bool:= Option.bind (community_ascends_api_Community__community_fits__community_compare a0) fun v1=> some v1
def slices_Compact_api_Large_api_Large (a0:List Large):Option (List Large):= if (decide ((a0.length:Int) < 2)) then some a0 else joinP (τ:=Unit) (fun k1=> whileR (σ:=Int) (fun next2 v3=> if (decide (v3 < (a0.length:Int))) then joinP (τ:=Unit) (fun k4=> Option.bind (geti a0 v3) fun v5=> Option.bind (geti a0 (i64w (v3 - 1))) fun v6=> if (Large.eqd v5 v6) then Option.bind (chk (0 ≤ v3∧v3 ≤ (a0.length:Int)∧(a0.length:Int) ≤ (a0.length:Int))) fun _=> joinP (τ:=Int×(List Large)) (fun k7=> whileR (σ:=Int×Int×(List Large)) (fun next8 (v9,v10,v11)=> if (decide (v10 < (((Int.toNat (a0.length:Int) - Int.toNat v3):Nat):Int))) then Option.bind (geti (List.take (Int.toNat (a0.length:Int) - Int.toNat v3) (List.drop (Int.toNat v3) v11)) v10) fun v12=> Option.bind (geti (List.take (Int.toNat (a0.length:Int) - Int.toNat v3) (List.drop (Int.toNat v3) v11)) (i64w (v10 - 1))) fun v13=> joinP (τ:=Int×(List Large)) (fun k14=> if (!(Large.eqd v12 v13)) then Option.bind (geti (List.take (Int.toNat (a0.length:Int) - Int.toNat v3) (List.drop (Int.toNat v3) v11)) v10) fun v15=> Option.bind (geti v11 v9) fun v16=> Option.bind (seti v11 v9 v15) fun v17=> k14 ((i64w (v9 + 1)),v17) else k14 (v9,v11)
) fun (v18,v19)=> next8 (v18,(i64w (v10 + 1)),v19) else k7 (v9,v11)
) fuel (v3,1,a0)
) fun (v20,v21)=> Option.bind (chk (0 ≤ v20∧v20 ≤ (v21.length:Int)∧(v21.length:Int) ≤ (v21.length:Int))) fun _=> Option.bind (part (List.take (Int.toNat v20) v21 ++ List.replicate (Int.toNat (v21.length:Int) - Int.toNat v20) (⟨0,0,0⟩:Large) ++ List.drop ((Int.toNat v20) + (Int.toNat (v21.length:Int) - Int.toNat v20)) v21) 0 v20) fun v22=> some v22 else k4 ()
) fun _=> next2 (i64w (v3 + 1)) else k1 ()
) fuel 1
) fun _=> some a0
def attribute_readLarge_1 (a0:Large) (a1:Large):Option Int:= Option.bind (cmp_Compare_int a0.A a1.A) fun v1=> Option.bind (cmp_Compare_int a0.B a1.B) fun v2=> Option.bind (cmp_Compare_int a0.C a1.C) fun v3=> Option.bind (cmp_Or_int ([v1,v2,v3]:List Int)) fun v4=> some v4
def community_fitsLarge (a0:Large):Option Bool:= Option.bind (community_within 4294967295 ([a0.A,a0.B,a0.C]:List Int)) fun v1=> some v1
def community_compareLarge (a0:Large) (a1:Large):Option Int:= Option.bind (cmp_Compare_int a0.A a1.A) fun v1=> Option.bind (cmp_Compare_int a0.B a1.B) fun v2=> Option.bind (cmp_Compare_int a0.C a1.C) fun v3=> Option.bind (cmp_Or_int ([v1,v2,v3]:List Int)) fun v4=> some v4
def community_ascends_api_Large__community_fitsLarge__community_compareLarge (a0:List Large):Option Bool:= joinP (τ:=Unit) (fun k1=> forR (σ:=Unit) (fun _=> k1 ()
) (fun next2 (x3:Large) i4 _=> joinP (τ:=Bool) (fun k5=> Option.bind (community_fitsLarge x3) fun v6=> if (!v6) then k5 true else if (decide ((i4:Int) > 0)) then Option.bind (geti a0 (i64w ((i4:Int) - 1))) fun v7=> Option.bind (community_compareLarge v7 x3) fun v8=> k5 (cond false true (cond true (decide (v8 ≥ 0)) false)) else k5 false
) fun v9=> if v9 then some false else next2 ()
) a0 0 ()
) fun _=> some (decide ((a0.length:Int) ≤ 64))
def community_ValidLarge (a0:List Large):Option Bool:= Option.bind (community_ascends_api_Large__community_fitsLarge__community_compareLarge a0) fun v1=> some v1
def attribute_within (a0:Int) (a1:Int) (a2:Int):Option Bool:= joinP (τ:=Bool) (fun k1=> if (decide (a0 ≥ a1)) then k1 (cond true (decide (a0 ≤ a2)) false) else k1 false
) fun v2=> some v2
def slices_Clone_byte_byte (a0:List UInt8):Option (List UInt8):= Option.bind (apnd (α:=UInt8) 1 ([]:List UInt8) a0) fun v1=> some v1
def attribute_Read_2 (a0:Unknown) (a1:Unknown):Option Int:= Option.bind (cmp_Compare_int a0.Type_ a1.Type_) fun v1=> some v1
def slices_IndexFunc_api_Unknown_api_Unknown__attribute_Read_1 (a0:List Unknown):Option Int:= joinP (τ:=Unit) (fun k1=> forR (σ:=Unit) (fun _=> k1 ()
) (fun next2 (x3:Unknown) i4 _=> Option.bind (attribute_Read_1 x3) fun v5=> if v5 then some (i4:Int) else next2 ()
) a0 0 ()
) fun _=> some (-1)
def slices_ContainsFunc_api_Unknown_api_Unknown__attribute_Read_1 (a0:List Unknown):Option Bool:= Option.bind (slices_IndexFunc_api_Unknown_api_Unknown__attribute_Read_1 a0) fun v1=> some (decide (v1 ≥ 0))
def attribute_Read (a0:List Unknown):Option (Attrs×Int):= Option.bind (attribute_firsts a0) fun v1=> Option.bind (slices_ContainsFunc_api_Unknown_api_Unknown__attribute_Read_1 v1) fun v2=> if v2 then some ((⟨0,[],(⟨false,(0:UInt64),(0:UInt64)⟩:Addr),0,0,0,[],[],[]⟩:Attrs),12) else joinP (τ:=Int×Bool×UInt64×UInt64×Int×Int×Int×Bool×(List Segment)×(List Community)×(List Large)) (fun k3=> joinP (τ:=Unit) (fun k4=> k4 ()
) fun _=> joinP (τ:=Int×Bool×UInt64×UInt64×Int×Int×Int×(List Segment)×(List Community)×(List Large)) (fun k5=> forR (σ:=Int×Bool×UInt64×UInt64×Int×Int×Int×(List Segment)×(List Community)×(List Large)) (fun (v6,v7,v8,v9,v10,v11,v12,v13,v14,v15)=> k5 (v6,v7,v8,v9,v10,v11,v12,v13,v14,v15)
) (fun next16 (x17:Unknown) i18 (v6,v7,v8,v9,v10,v11,v12,v13,v14,v15)=> joinP (τ:=Int×Bool×UInt64×UInt64×Int×Int×Int×(List Segment)×(List Community)×(List Large)) (fun k19=> if (x17.Type_ == 1) then joinP (τ:=Bool×Int) (fun k20=> Option.bind (attribute_right x17) fun v21=> if (!v21) then k20 (true,v6) else joinP (τ:=Bool×Int) (fun k22=> Option.bind (attribute_get x17.Data) fun v23=> joinP (τ:=Bool) (fun k24=> if ((x17.Data.length:Int) == 1) then k24 (cond true (decide (v23 ≤ 2)) false) else k24 false
) fun v25=> k22 (v25,v23)
) fun (v26,v27)=> k20 ((cond true (cond false true (!v26)) false),v27)
) fun (v28,v29)=> if v28 then k3 (0,false,(0:UInt64),(0:UInt64),0,0,0,false,[],[],[]) else k19 (v29,v7,v8,v9,v10,v11,v12,v13,v14,v15) else if (x17.Type_ == 2) then joinP (τ:=Bool×(List Segment)) (fun k30=> Option.bind (attribute_right x17) fun v31=> if (!v31) then k30 (true,v13) else joinP (τ:=Bool×(List Segment)) (fun k32=> joinP (τ:=(List Segment)) (fun k33=> Option.bind (chk (v13=[])) fun _=> whileR (σ:=(List UInt8)×(List Segment)×Nat×(List Int)) (fun next34 (v35,v36,v37,v38)=> if (decide ((v35.length:Int) > 0)) then joinP (τ:=Bool) (fun k39=> if (decide ((v35.length:Int) < 2)) then k39 true else Option.bind (geti v35 0) fun v40=> if ((v40.toNat:Int) != 1) then Option.bind (geti v35 0) fun v41=> if (cond false true (cond true ((v41.toNat:Int) != 2) false)) then k39 true else Option.bind (geti v35 1) fun v42=> if (cond false true (decide ((v35.length:Int) < (i64w (2 + (i64w (4 * (v42.toNat:Int)))))))) then k39 true else Option.bind (geti v35 1) fun v43=> k39 (cond false true ((v43.toNat:Int) == 0)) else Option.bind (geti v35 1) fun v44=> if (cond false true (decide ((v35.length:Int) < (i64w (2 + (i64w (4 * (v44.toNat:Int)))))))) then k39 true else Option.bind (geti v35 1) fun v45=> k39 (cond false true ((v45.toNat:Int) == 0))
) fun v46=> if v46 then k32 (false,v36) else Option.bind (geti v35 1) fun v47=> Option.bind (geti v35 0) fun v48=> Option.bind (part v35 2 (i64w (2 + (i64w (4 * (v47.toNat:Int)))))) fun v49=> Option.bind (attribute_numbers v49) fun v50=> Option.bind (part v35 (i64w (2 + (i64w (4 * (v47.toNat:Int))))) (v35.length:Int)) fun v51=> joinP (τ:=(List Int)) (fun k52=> if ((v48.toNat:Int) == 1) then Option.bind (sortI v50) fun v53=> Option.bind (slices_Compact_int_int v53) fun v54=> k52 v54 else k52 v50
) fun v55=> joinP (τ:=Bool) (fun k56=> if (decide ((i64w ((v36.length:Int) - 1)) ≥ 0)) then if (cond true (!((v48.toNat:Int) == 1)) false) then Option.bind (geti v36 (i64w ((v36.length:Int) - 1))) fun v57=> k56 (cond true (!v57.Set) false) else k56 false else k56 false
) fun v58=> joinP (τ:=(List Segment)×Nat×(List Int)) (fun k59=> if v58 then Option.bind (geti v36 (i64w ((v36.length:Int) - 1))) fun v60=> Option.bind (chk (Int.toNat (i64w ((v36.length:Int) - 1))=v37)) fun _=> Option.bind (apnd (α:=Int) 8 v38 v55) fun v61=> Option.bind (geti v36 (i64w ((v36.length:Int) - 1))) fun v62=> Option.bind (seti v36 (i64w ((v36.length:Int) - 1)) (⟨v62.Set,v61⟩:Segment)) fun v63=> k59 (v63,(Int.toNat (i64w ((v36.length:Int) - 1))),v61) else Option.bind (apnd (α:=Segment) 32 v36 ([(⟨((v48.toNat:Int) == 1),v55⟩:Segment)]:List Segment)) fun v64=> k59 (v64,((List.map Segment.toD v36).length + 0),v55)
) fun (v65,v66,v67)=> next34 (v51,v65,v66,v67) else k33 v36
) fuel (x17.Data,v13,0,[])
) fun v68=> Option.bind (aspath_Valid v68) fun v69=> k32 (v69,v68)
) fun (v70,v71)=> k30 ((cond true (cond false true (!v70)) false),v71)
) fun (v72,v73)=> if v72 then k3 (0,false,(0:UInt64),(0:UInt64),0,0,0,false,[],[],[]) else k19 (v6,v7,v8,v9,v10,v11,v12,v73,v14,v15) else if (x17.Type_ == 3) then joinP (τ:=Bool×Bool×UInt64×UInt64) (fun k74=> Option.bind (attribute_right x17) fun v75=> if (!v75) then k74 (true,v7,v8,v9) else joinP (τ:=Bool×UInt64×UInt64) (fun k76=> Option.bind (addr_FromBytes x17.Data) fun (v77,v78)=> k76 (v77.V6,v77.Hi,v77.Lo)
) fun (v79,v80,v81)=> k74 ((cond true (cond false true (!((x17.Data.length:Int) == 4))) false),v79,v80,v81)
) fun (v82,v83,v84,v85)=> if v82 then k3 (0,false,(0:UInt64),(0:UInt64),0,0,0,false,[],[],[]) else k19 (v6,v83,v84,v85,v10,v11,v12,v13,v14,v15) else if (x17.Type_ == 4) then joinP (τ:=Bool×Int) (fun k86=> Option.bind (attribute_right x17) fun v87=> if (!v87) then k86 (true,v10) else joinP (τ:=Int) (fun k88=> joinP (τ:=Int) (fun k89=> Option.bind (attribute_get x17.Data) fun v90=> k89 v90
) fun v91=> k88 v91
) fun v92=> k86 ((cond true (cond false true (!((x17.Data.length:Int) == 4))) false),v92)
) fun (v93,v94)=> if v93 then k3 (0,false,(0:UInt64),(0:UInt64),0,0,0,false,[],[],[]) else k19 (v6,v7,v8,v9,v94,v11,v12,v13,v14,v15) else if (x17.Type_ == 5) then joinP (τ:=Bool×Int) (fun k95=> Option.bind (attribute_right x17) fun v96=> if (!v96) then k95 (true,v11) else joinP (τ:=Int) (fun k97=> joinP (τ:=Int) (fun k98=> Option.bind (attribute_get x17.Data) fun v99=> k98 v99
) fun v100=> k97 v100
) fun v101=> k95 ((cond true (cond false true (!((x17.Data.length:Int) == 4))) false),v101)
) fun (v102,v103)=> if v102 then k3 (0,false,(0:UInt64),(0:UInt64),0,0,0,false,[],[],[]) else k19 (v6,v7,v8,v9,v10,v103,v12,v13,v14,v15) else if (x17.Type_ == 8) then joinP (τ:=Bool×(List Community)) (fun k104=> Option.bind (attribute_right x17) fun v105=> if (!v105) then k104 (true,v14) else joinP (τ:=Bool×(List Community)) (fun k106=> Option.bind (attribute_numbers x17.Data) fun v107=> joinP (τ:=(List Community)) (fun k108=> forR (σ:=(List Community)) (fun v109=> k108 v109
) (fun next110 (x111:Int) i112 v109=> Option.bind (apnd (α:=Community) 16 v109 ([(⟨(Int.fdiv x111 (2 ^ (min (Int.toNat 16) 64))),(i64w ((BitVec.ofInt 64 x111 &&& BitVec.ofInt 64 65535).toNat:Int))⟩:Community)]:List Community)) fun v113=> next110 v113
) v107 0 []
) fun v114=> joinP (τ:=Bool×(List Community)) (fun k115=> joinP (τ:=Bool) (fun k116=> if (decide ((v114.length:Int) > 0)) then k116 (cond true (decide ((v114.length:Int) ≤ 64)) false) else k116 false
) fun v117=> Option.bind (sortF attribute_readCommunities_1 v114) fun v118=> Option.bind (slices_Compact_api_Community_api_Community v118) fun v119=> k115 (v117,v119)
) fun (v120,v121)=> joinP (τ:=Bool) (fun k122=> if v120 then if (cond true ((Int.tmod (x17.Data.length:Int) 4) == 0) false) then Option.bind (community_Valid v121) fun v123=> k122 (cond true v123 false) else k122 false else k122 false
) fun v124=> k106 (v124,v121)
) fun (v125,v126)=> k104 ((cond true (cond false true (!v125)) false),v126)
) fun (v127,v128)=> if v127 then k3 (0,false,(0:UInt64),(0:UInt64),0,0,0,false,[],[],[]) else k19 (v6,v7,v8,v9,v10,v11,v12,v13,v128,v15) else if (x17.Type_ == 32) then joinP (τ:=Bool×(List Large)) (fun k129=> Option.bind (attribute_right x17) fun v130=> if (!v130) then k129 (true,v15) else joinP (τ:=Bool×(List Large)) (fun k131=> if ((Int.tmod (x17.Data.length:Int) 12) != 0) then k131 (false,v15) else Option.bind (attribute_numbers x17.Data) fun v132=> joinP (τ:=(List Large)) (fun k133=> whileR (σ:=(List Large)×(List Int)) (fun next134 (v135,v136)=> if (decide ((v136.length:Int) > 0)) then Option.bind (geti v136 0) fun v137=> Option.bind (geti v136 1) fun v138=> Option.bind (geti v136 2) fun v139=> Option.bind (apnd (α:=Large) 24 v135 ([(⟨v137,v138,v139⟩:Large)]:List Large)) fun v140=> Option.bind (part v136 3 (v136.length:Int)) fun v141=> next134 (v140,v141) else k133 v135
) fuel ([],v132)
) fun v142=> joinP (τ:=Bool×(List Large)) (fun k143=> joinP (τ:=Bool) (fun k144=> if (decide ((v142.length:Int) > 0)) then k144 (cond true (decide ((v142.length:Int) ≤ 64)) false) else k144 false
) fun v145=> Option.bind (sortF attribute_readLarge_1 v142) fun v146=> Option.bind (slices_Compact_api_Large_api_Large v146) fun v147=> k143 (v145,v147)
) fun (v148,v149)=> joinP (τ:=Bool) (fun k150=> if v148 then Option.bind (community_ValidLarge v149) fun v151=> k150 (cond true v151 false) else k150 false
) fun v152=> k131 (v152,v149)
) fun (v153,v154)=> k129 ((cond true (cond false true (!v153)) false),v154)
) fun (v155,v156)=> if v155 then k3 (0,false,(0:UInt64),(0:UInt64),0,0,0,false,[],[],[]) else k19 (v6,v7,v8,v9,v10,v11,v12,v13,v14,v156) else if (x17.Type_ == 35) then joinP (τ:=Bool×Int) (fun k157=> Option.bind (attribute_right x17) fun v158=> if (!v158) then k157 (true,v12) else joinP (τ:=Bool×Int) (fun k159=> joinP (τ:=Bool×Int) (fun k160=> joinP (τ:=Int) (fun k161=> Option.bind (attribute_get x17.Data) fun v162=> k161 v162
) fun v163=> if ((x17.Data.length:Int) == 4) then Option.bind (aspath_Number v163) fun v164=> k160 ((cond true v164 false),v163) else k160 (false,v163)
) fun (v165,v166)=> k159 (v165,v166)
) fun (v167,v168)=> k157 ((cond true (cond false true (!v167)) false),v168)
) fun (v169,v170)=> if v169 then k3 (0,false,(0:UInt64),(0:UInt64),0,0,0,false,[],[],[]) else k19 (v6,v7,v8,v9,v10,v11,v170,v13,v14,v15) else k19 (v6,v7,v8,v9,v10,v11,v12,v13,v14,v15)
) fun (v171,v172,v173,v174,v175,v176,v177,v178,v179,v180)=> next16 (v171,v172,v173,v174,v175,v176,v177,v178,v179,v180)
) v1 0 ((-1),false,(0:UInt64),(0:UInt64),(-1),(-1),(-1),[],[],[])
) fun (v181,v182,v183,v184,v185,v186,v187,v188,v189,v190)=> k3 (v181,v182,v183,v184,v185,v186,v187,true,v188,v189,v190)
) fun (v191,v192,v193,v194,v195,v196,v197,v198,v199,v200,v201)=> if (!v198) then some ((⟨0,[],(⟨false,(0:UInt64),(0:UInt64)⟩:Addr),0,0,0,[],[],[]⟩:Attrs),13) else joinP (τ:=(List Unknown)) (fun k202=> forR (σ:=(List Unknown)) (fun v203=> k202 v203
) (fun next204 (x205:Unknown) i206 v203=> joinP (τ:=Bool) (fun k207=> Option.bind (attribute_unknown x205.Type_) fun v208=> if v208 then Option.bind (attribute_within x205.Type_ 1 255) fun v209=> if (cond true v209 false) then if (cond true ((i64w ((BitVec.ofInt 64 x205.Flags &&& BitVec.ofInt 64 64).toNat:Int)) != 0) false) then k207 (cond true (decide ((x205.Data.length:Int) ≤ 255)) false) else k207 false else k207 false else k207 false
) fun v210=> joinP (τ:=(List Unknown)) (fun k211=> if v210 then Option.bind (slices_Clone_byte_byte x205.Data) fun v212=> Option.bind (apnd (α:=Unknown) 40 v203 ([(⟨224,x205.Type_,v212⟩:Unknown)]:List Unknown)) fun v213=> k211 v213 else k211 v203
) fun v214=> next204 v214
) v1 0 []
) fun v215=> if (decide ((v215.length:Int) > 8)) then some ((⟨0,[],(⟨false,(0:UInt64),(0:UInt64)⟩:Addr),0,0,0,[],[],[]⟩:Attrs),3) else Option.bind (sortF attribute_Read_2 v215) fun v216=> some ((⟨v191,v199,(⟨v192,v193,v194⟩:Addr),v195,v196,v197,v200,v201,v216⟩:Attrs),0)
def update_get (a0:List UInt8):Option Int:= Option.bind (geti a0 0) fun v1=> Option.bind (geti a0 1) fun v2=> some (i64w ((BitVec.ofInt 64 (i64w ((v1.toNat:Int) * (2 ^ (min (Int.toNat 8) 64)))) ||| BitVec.ofInt 64 (v2.toNat:Int)).toNat:Int))
def update_cut (a0:List UInt8):Option ((List UInt8)×(List UInt8)×Bool):= joinP (τ:=Bool) (fun k1=> if (decide ((a0.length:Int) < 2)) then k1 true else Option.bind (update_get a0) fun v2=> k1 (cond false true (decide ((i64w ((a0.length:Int) - 2)) < v2)))
) fun v3=> if v3 then some ([],[],false) else Option.bind (update_get a0) fun v4=> Option.bind (part a0 2 (i64w (2 + v4))) fun v5=> Option.bind (part a0 (i64w (2 + v4)) (a0.length:Int)) fun v6=> some (v5,v6,true)
def attribute_Split (a0:List UInt8):Option ((List Unknown)×Int):= joinP (τ:=(List Unknown)) (fun k1=> whileR (σ:=(List UInt8)×(List Unknown)) (fun next2 (v3,v4)=> if (decide ((v3.length:Int) > 0)) then Option.bind (geti v3 0) fun v5=> joinP (τ:=Int) (fun k6=> if (((toU8 ((BitVec.ofInt 8 (v5.toNat:Int) &&& BitVec.ofInt 8 16).toNat:Int)).toNat:Int) != 0) then k6 4 else k6 3
) fun v7=> joinP (τ:=Bool) (fun k8=> if (decide ((v3.length:Int) < v7)) then k8 true else Option.bind (part v3 2 v7) fun v9=> Option.bind (attribute_get v9) fun v10=> k8 (cond false true (decide ((i64w ((v3.length:Int) - v7)) < v10)))
) fun v11=> if v11 then some ([],12) else Option.bind (part v3 2 v7) fun v12=> Option.bind (attribute_get v12) fun v13=> Option.bind (geti v3 0) fun v14=> Option.bind (geti v3 1) fun v15=> Option.bind (part v3 v7 (i64w (v7 + v13))) fun v16=> Option.bind (apnd (α:=UInt8) 1 [] v16) fun _=> Option.bind (apnd (α:=Unknown) 40 v4 ([(⟨((toU8 ((BitVec.ofInt 8 (v14.toNat:Int) &&& BitVec.ofInt 8 224).toNat:Int)).toNat:Int),(v15.toNat:Int),v16⟩:Unknown)]:List Unknown)) fun v17=> Option.bind (part v3 (i64w (v7 + v13)) (v3.length:Int)) fun v18=> next2 (v18,v17) else k1 v4
) fuel (a0,[])
) fun v19=> some (v19,0)
def addr_Valid (a0:Addr):Option Bool:= joinP (τ:=Bool) (fun k1=> if a0.V6 then k1 true else if ((a0.Hi.toNat:Int) == 0) then k1 (cond false true (cond true (decide ((a0.Lo.toNat:Int) < 4294967296)) false)) else k1 false
) fun v2=> some v2
def prefix_width (a0:Addr):Option Int:= if a0.V6 then some 128 else some 32
def prefix_masks (a0:Int):Option (UInt64×UInt64):= if (decide (a0 > 64)) then some ((toU64 (((toU64 (1 * (2 ^ (min (Int.toNat ((toU64 (i64w (a0 - 64))).toNat:Int)) 64)))).toNat:Int) - 1)),(18446744073709551615:UInt64)) else some ((0:UInt64),(toU64 (((toU64 (1 * (2 ^ (min (Int.toNat ((toU64 a0).toNat:Int)) 64)))).toNat:Int) - 1)))
def prefix_first (a0:Addr) (a1:Int):Option Addr:= Option.bind (prefix_width a0) fun v1=> Option.bind (prefix_masks (i64w (v1 - a1))) fun (v2,v3)=> some (⟨a0.V6,(toU64 ((BitVec.ofInt 64 (a0.Hi.toNat:Int) &&& ~~~BitVec.ofInt 64 (v2.toNat:Int)).toNat:Int)),(toU64 ((BitVec.ofInt 64 (a0.Lo.toNat:Int) &&& ~~~BitVec.ofInt 64 (v3.toNat:Int)).toNat:Int))⟩:Addr)
def prefix_Make (a0:Addr) (a1:Int):Option (Prefix×Int):= Option.bind (addr_Valid a0) fun v1=> if (!v1) then some ((⟨(⟨false,(0:UInt64),(0:UInt64)⟩:Addr),0⟩:Prefix),1) else joinP (τ:=Bool) (fun k2=> if (decide (a1 < 0)) then k2 true else Option.bind (prefix_width a0) fun v3=> k2 (cond false true (decide (a1 > v3)))
) fun v4=> if v4 then some ((⟨(⟨false,(0:UInt64),(0:UInt64)⟩:Addr),0⟩:Prefix),9) else Option.bind (prefix_first a0 a1) fun v5=> some ((⟨v5,a1⟩:Prefix),0)
def update_prefixes (a0:List UInt8) (a1:Bool):Option ((List Prefix)×Bool):= joinP (τ:=Int) (fun k1=> if a1 then k1 128 else k1 32
) fun v2=> joinP (τ:=(List Prefix)) (fun k3=> whileR (σ:=(List UInt8)×(List Prefix)) (fun next4 (v5,v6)=> if (decide ((v5.length:Int) > 0)) then Option.bind (geti v5 0) fun v7=> joinP (τ:=Bool) (fun k8=> if (decide ((v7.toNat:Int) > v2)) then k8 true else k8 (cond false true (decide ((v5.length:Int) < (i64w (1 + (i64w (Int.tdiv (i64w ((v7.toNat:Int) + 7)) 8)))))))
) fun v9=> if v9 then some ([],false) else Option.bind (chk (0 ≤ (i64w (Int.tdiv v2 8))∧(i64w (Int.tdiv v2 8)) ≤ (i64w (Int.tdiv v2 8))∧(i64w (Int.tdiv v2 8)) ≤ 1048576)) fun _=> Option.bind (part v5 1 (i64w (1 + (i64w (Int.tdiv (i64w ((v7.toNat:Int) + 7)) 8))))) fun v10=> Option.bind (addr_FromBytes (cpy (List.replicate (Int.toNat (i64w (Int.tdiv v2 8))) (0:UInt8)) 0 (List.replicate (Int.toNat (i64w (Int.tdiv v2 8))) (0:UInt8)).length v10)) fun (v11,v12)=> Option.bind (prefix_Make v11 (v7.toNat:Int)) fun (v13,v14)=> Option.bind (apnd (α:=Prefix) 32 v6 ([v13]:List Prefix)) fun v15=> Option.bind (part v5 (i64w (1 + (i64w (Int.tdiv (i64w ((v7.toNat:Int) + 7)) 8)))) (v5.length:Int)) fun v16=> next4 (v16,v15) else k3 v6
) fuel (a0,[])
) fun v17=> some (v17,true)
def bytes_HasPrefix (a0:List UInt8) (a1:List UInt8):Option Bool:= joinP (τ:=Bool) (fun k1=> if (decide ((a0.length:Int) ≥ (a1.length:Int))) then Option.bind (part a0 0 (a1.length:Int)) fun v2=> Option.bind (bytes_Equal v2 a1) fun v3=> k1 (cond true v3 false) else k1 false
) fun v4=> some v4
def bytes_CutPrefix (a0:List UInt8) (a1:List UInt8):Option ((List UInt8)×Bool):= Option.bind (bytes_HasPrefix a0 a1) fun v1=> if (!v1) then some (a0,false) else Option.bind (part a0 (a1.length:Int) (a0.length:Int)) fun v2=> some (v2,true)
def update_parts_special (a0:update_parts):Option (Bool×update_parts):= joinP (τ:=update_parts×(List (Int×Int))) (fun k1=> forR (σ:=update_parts×(List (Int×Int))) (fun (v2,v3)=> k1 (v2,v3)
) (fun next4 (x5:Unknown) i6 (v2,v3)=> Option.bind (some (Option.getD (mget v3 x5.Type_) 0)) fun v7=> Option.bind (bytes_CutPrefix x5.Data ([(0:UInt8),(2:UInt8),(1:UInt8)]:List UInt8)) fun (v8,v9)=> joinP (τ:=Bool×update_parts) (fun k10=> if (x5.Type_ == 14) then joinP (τ:=Bool) (fun k11=> if (!v9) then k11 true else if (cond false true (decide ((v8.length:Int) < 18))) then k11 true else Option.bind (geti v8 0) fun v12=> if (cond false true ((v12.toNat:Int) != 16)) then k11 true else Option.bind (geti v8 17) fun v13=> k11 (cond false true ((v13.toNat:Int) != 0))
) fun v14=> if v14 then some (false,v2) else Option.bind (part v8 1 17) fun v15=> Option.bind (addr_FromBytes v15) fun (v16,v17)=> Option.bind (part v8 18 (v8.length:Int)) fun v18=> Option.bind (update_prefixes v18 true) fun (v19,v20)=> k10 (v20,{ v2 with next:=v16,new6:=v19 }) else joinP (τ:=Bool×(List Prefix)) (fun k21=> if (x5.Type_ == 15) then joinP (τ:=Bool×(List Prefix)) (fun k22=> if v9 then Option.bind (update_prefixes v8 true) fun (v23,v24)=> k22 (v24,v23) else k22 (v9,v2.gone6)
) fun (v25,v26)=> k21 (v25,v26) else k21 (true,v2.gone6)
) fun (v27,v28)=> k10 (v27,{ v2 with gone6:=v28 })
) fun (v29,v30)=> if (!v29) then some (false,v30) else next4 (v30,(mset v3 x5.Type_ (i64w (v7 + 1))))
) a0.attrs 0 (a0,[])
) fun (v31,v32)=> joinP (τ:=Bool) (fun k33=> Option.bind (some (Option.getD (mget v32 14) 0)) fun v34=> if (decide (v34 < 2)) then Option.bind (some (Option.getD (mget v32 15) 0)) fun v35=> k33 (cond true (decide (v35 < 2)) false) else k33 false
) fun v36=> some (v36,v31)
def update_parts_read (a0:update_parts) (a1:List UInt8):Option (Bool×update_parts):= Option.bind (update_cut a1) fun (v1,v2,v3)=> if (!v3) then some (false,a0) else Option.bind (update_cut v2) fun (v4,v5,v6)=> if (!v6) then some (false,a0) else Option.bind (attribute_Split v4) fun (v7,v8)=> joinP (τ:=Bool×update_parts) (fun k9=> if (v8 != 0) then k9 (true,{ a0 with attrs:=v7 }) else Option.bind (update_parts_special ({ a0 with attrs:=v7 })) fun (v10,v11)=> k9 ((cond false true (!v10)),v11)
) fun (v12,v13)=> if v12 then some (false,v13) else Option.bind (update_prefixes v1 false) fun (v14,v15)=> Option.bind (update_prefixes v5 false) fun (v16,v17)=> joinP (τ:=Bool) (fun k18=> if (!v15) then k18 true else if (cond false true (!v17)) then k18 true else if (decide ((v16.length:Int) > 0)) then if (cond false true (cond true (decide ((v13.new6.length:Int) > 0)) false)) then k18 true else if (cond false true (decide ((i64w ((v14.length:Int) + (v13.gone6.length:Int))) > 256))) then k18 true else k18 (cond false true (decide ((i64w ((v16.length:Int) + (v13.new6.length:Int))) > 256))) else if (cond false true (decide ((i64w ((v14.length:Int) + (v13.gone6.length:Int))) > 256))) then k18 true else k18 (cond false true (decide ((i64w ((v16.length:Int) + (v13.new6.length:Int))) > 256)))
) fun v19=> if v19 then some (false,{ v13 with gone4:=v14,new4:=v16 }) else Option.bind (attribute_Read v13.attrs) fun (v20,v21)=> some ((v21 != 12),{ v13 with gone4:=v14,new4:=v16 })
def update_parts_there_1 (a0:Unknown) (a1:Int):Option (Bool×Int):= some ((a0.Type_ == a1),a1)
def slices_IndexFunc_api_Unknown_api_Unknown__update_parts_there_1 (a0:List Unknown) (a1c0:Int):Option (Int×Int):= joinP (τ:=Int) (fun k1=> forR (σ:=Int) (fun v2=> k1 v2
) (fun next3 (x4:Unknown) i5 v2=> Option.bind (update_parts_there_1 x4 v2) fun (v6,v7)=> if v6 then some ((i5:Int),v7) else next3 v7
) a0 0 a1c0
) fun v8=> some ((-1),v8)
def slices_ContainsFunc_api_Unknown_api_Unknown__update_parts_there_1 (a0:List Unknown) (a1c0:Int):Option (Bool×Int):= Option.bind (slices_IndexFunc_api_Unknown_api_Unknown__update_parts_there_1 a0 a1c0) fun (v1,v2)=> some ((decide (v1 ≥ 0)),v2)
def update_parts_there (a0:update_parts) (a1:Int):Option (Bool×update_parts):= Option.bind (slices_ContainsFunc_api_Unknown_api_Unknown__update_parts_there_1 a0.attrs a1) fun (v1,v2)=> some (v1,a0)
def update_Ends (a0:List UInt8):Option (Bool×Bool):= Option.bind (chk (0 ≤ (4:Int)∧(4:Int) ≤ 4∧(4:Int) ≤ 1048576)) fun _=> Option.bind (bytes_Equal a0 (List.replicate (Int.toNat 4) (0:UInt8))) fun v1=> if v1 then some (true,false) else joinP (τ:=Bool) (fun k2=> Option.bind (update_parts_read (⟨[],(⟨false,(0:UInt64),(0:UInt64)⟩:Addr),[],[],[],[]⟩:update_parts) a0) fun (v3,v4)=> if (!v3) then k2 true else Option.bind (part a0 2 (a0.length:Int)) fun v5=> Option.bind (update_get v5) fun v6=> if (cond false true ((a0.length:Int) != (i64w (4 + v6)))) then k2 true else if (cond false true ((v4.attrs.length:Int) != 1)) then k2 true else Option.bind (update_parts_there v4 15) fun (v7,v8)=> if (cond false true (!v7)) then k2 true else Option.bind (update_get a0) fun v9=> if (cond false true (v9 != 0)) then k2 true else k2 (cond false true (decide ((v8.gone6.length:Int) > 0)))
) fun v10=> if v10 then some (false,false) else some (true,true)
def slices_Concat_api_Prefix_api_Prefix (a0:List (List Prefix)):Option (List Prefix):= joinP (τ:=Int) (fun k1=> forR (σ:=Int) (fun v2=> k1 v2
) (fun next3 (x4:List Prefix) i5 v2=> if (decide ((i64w (v2 + (x4.length:Int))) < 0)) then none else next3 (i64w (v2 + (x4.length:Int)))
) a0 0 0
) fun v6=> joinP (τ:=(List Prefix)) (fun k7=> if (decide (v6 < 0)) then none else joinP (τ:=(List Prefix)) (fun k8=> if (decide ((i64w (v6 - (i64w (0 - 0)))) > 0)) then Option.bind (chk (0 < (i64w (v6 - (i64w (0 - 0))))∧(i64w (v6 - (i64w (0 - 0)))) ≤ 1048576)) fun _=> Option.bind (part (List.replicate (Int.toNat (i64w (v6 - (i64w (0 - 0))))) (⟨(⟨false,(0:UInt64),(0:UInt64)⟩:Addr),0⟩:Prefix)) 0 0) fun v9=> k8 v9 else k8 []
) fun v10=> k7 v10
) fun v11=> joinP (τ:=(List Prefix)) (fun k12=> forR (σ:=(List Prefix)) (fun v13=> k12 v13
) (fun next14 (x15:List Prefix) i16 v13=> Option.bind (apnd (α:=Prefix) 32 v13 x15) fun v17=> next14 v17
) a0 0 v11
) fun v18=> some v18
def update_parts_faulty_1 (a0:Unknown):Option Bool:= joinP (τ:=Bool) (fun k1=> if (a0.Type_ == 14) then k1 (cond true ((i64w ((BitVec.ofInt 64 a0.Flags &&& BitVec.ofInt 64 192).toNat:Int)) != 128) false) else if (cond false true (a0.Type_ == 15)) then k1 (cond true ((i64w ((BitVec.ofInt 64 a0.Flags &&& BitVec.ofInt 64 192).toNat:Int)) != 128) false) else k1 false
) fun v2=> some v2
def slices_IndexFunc_api_Unknown_api_Unknown__update_parts_faulty_1 (a0:List Unknown):Option Int:= joinP (τ:=Unit) (fun k1=> forR (σ:=Unit) (fun _=> k1 ()
) (fun next2 (x3:Unknown) i4 _=> Option.bind (update_parts_faulty_1 x3) fun v5=> if v5 then some (i4:Int) else next2 ()
) a0 0 ()
) fun _=> some (-1)
def slices_ContainsFunc_api_Unknown_api_Unknown__update_parts_faulty_1 (a0:List Unknown):Option Bool:= Option.bind (slices_IndexFunc_api_Unknown_api_Unknown__update_parts_faulty_1 a0) fun v1=> some (decide (v1 ≥ 0))
def update_parts_faulty (a0:update_parts) (a1:Attrs) (a2:Int):Option (Bool×update_parts):= joinP (τ:=Bool×update_parts) (fun k1=> if (a2 != 0) then k1 (true,a0) else Option.bind (slices_ContainsFunc_api_Unknown_api_Unknown__update_parts_faulty_1 a0.attrs) fun v2=> if (cond false true v2) then k1 (true,a0) else Option.bind (update_parts_there a0 1) fun (v3,v4)=> if (cond false true (!v3)) then k1 (true,v4) else Option.bind (update_parts_there v4 2) fun (v5,v6)=> if (cond false true (!v5)) then k1 (true,v6) else if (decide ((v6.new4.length:Int) > 0)) then k1 ((cond false true (cond true (Addr.eqd a1.Next (⟨false,(0:UInt64),(0:UInt64)⟩:Addr)) false)),v6) else k1 (false,v6)
) fun (v7,v8)=> some (v7,v8)
def update_Decode (a0:List UInt8):Option (Update×Int):= Option.bind (update_parts_read (⟨[],(⟨false,(0:UInt64),(0:UInt64)⟩:Addr),[],[],[],[]⟩:update_parts) a0) fun (v1,v2)=> if (!v1) then some ((⟨[],(⟨0,[],(⟨false,(0:UInt64),(0:UInt64)⟩:Addr),0,0,0,[],[],[]⟩:Attrs),[]⟩:Update),12) else Option.bind (slices_Concat_api_Prefix_api_Prefix ([v2.gone4,v2.gone6]:List (List Prefix))) fun v3=> Option.bind (attribute_Empty) fun v4=> Option.bind (slices_Concat_api_Prefix_api_Prefix ([v2.new4,v2.new6]:List (List Prefix))) fun v5=> if ((v5.length:Int) == 0) then some ((⟨v3,v4,[]⟩:Update),0) else Option.bind (attribute_Read v2.attrs) fun (v6,v7)=> Option.bind (update_parts_faulty v2 v6 v7) fun (v8,v9)=> if v8 then Option.bind (apnd (α:=Prefix) 32 v3 v5) fun v10=> some ((⟨v10,v4,[]⟩:Update),13) else joinP (τ:=Attrs) (fun k11=> if (decide ((v9.new6.length:Int) > 0)) then k11 ({ v6 with Next:=v9.next }) else k11 v6
) fun v12=> some ((⟨v3,v12,v5⟩:Update),0)
def restart_updated (a0:List UInt8) (a1:Int) (a2:Int):Option (List Record):= Option.bind (update_Ends a0) fun (v1,v2)=> if v1 then joinP (τ:=Int) (fun k3=> if v2 then k3 1 else k3 0
) fun v4=> some ([(⟨5,a1,0,v4,(⟨[],(⟨0,[],(⟨false,(0:UInt64),(0:UInt64)⟩:Addr),0,0,0,[],[],[]⟩:Attrs),[]⟩:Update),(⟨0,false,false,false,0,[],[]⟩:Policy)⟩:Record)]:List Record) else Option.bind (update_Decode a0) fun (v5,v6)=> if (v6 == 12) then some ([(⟨3,a1,a2,0,(⟨[],(⟨0,[],(⟨false,(0:UInt64),(0:UInt64)⟩:Addr),0,0,0,[],[],[]⟩:Attrs),[]⟩:Update),(⟨0,false,false,false,0,[],[]⟩:Policy)⟩:Record)]:List Record) else some ([(⟨1,a1,0,0,v5,(⟨0,false,false,false,0,[],[]⟩:Policy)⟩:Record)]:List Record)
def restart_Records (a0:Session) (a1:Session) (a2:Message) (a3:Int) (a4:Int):Option (List Record):= if (restart_pair.eqd (⟨(a0.State == 3),(a1.State == 3)⟩:restart_pair) (⟨false,true⟩:restart_pair)) then some ([(⟨2,a3,0,0,(⟨[],(⟨0,[],(⟨false,(0:UInt64),(0:UInt64)⟩:Addr),0,0,0,[],[],[]⟩:Attrs),[]⟩:Update),(⟨0,false,false,false,0,[],[]⟩:Policy)⟩:Record)]:List Record) else if (restart_pair.eqd (⟨(a0.State == 3),(a1.State == 3)⟩:restart_pair) (⟨true,false⟩:restart_pair)) then Option.bind (restart_Keeps a0) fun v1=> joinP (τ:=Int) (fun k2=> if (a2.Type_ == 3) then k2 0 else k2 v1
) fun v3=> some ([(⟨3,a3,a4,v3,(⟨[],(⟨0,[],(⟨false,(0:UInt64),(0:UInt64)⟩:Addr),0,0,0,[],[],[]⟩:Attrs),[]⟩:Update),(⟨0,false,false,false,0,[],[]⟩:Policy)⟩:Record)]:List Record) else joinP (τ:=Unit) (fun k4=> if (restart_pair.eqd (⟨(a0.State == 3),(a1.State == 3)⟩:restart_pair) (⟨true,true⟩:restart_pair)) then if (a2.Type_ == 2) then Option.bind (restart_updated a2.Body a3 a4) fun v5=> some v5 else k4 () else k4 ()
) fun _=> some []
def restart_Due (a0:RIB) (a1:Int):Option Bool:= joinP (τ:=Bool) (fun k1=> if (a0.Until != 0) then k1 (cond true (decide (a0.Until ≤ a1)) false) else k1 false
) fun v2=> some v2
def law33_awake:Option Bool:= Option.bind (restart_Records (⟨3,(⟨0,0,0,0,60,false⟩:Open),0,(⟨0,0,0,0,30,false⟩:Open),0,0⟩:Session) (⟨0,(⟨0,0,0,0,0,false⟩:Open),0,(⟨0,0,0,0,0,false⟩:Open),0,0⟩:Session) (⟨0,[]⟩:Message) 101 7) fun v1=> joinP (τ:=Bool) (fun k2=> Option.bind (restart_Keeps (⟨3,(⟨0,0,0,0,60,false⟩:Open),0,(⟨0,0,0,0,30,false⟩:Open),0,0⟩:Session)) fun v3=> if (v3 == 30) then if (cond true ((v1.length:Int) == 1) false) then Option.bind (geti v1 0) fun v4=> if (cond true (v4.Kind == 3) false) then Option.bind (geti v1 0) fun v5=> if (cond true (v5.Grace == 30) false) then Option.bind (geti v1 0) fun v6=> if (cond true (v6.Tick == 7) false) then Option.bind (restart_Due (⟨(⟨0,ByteArray.empty,0,0,[]⟩:Peer),false,[],5⟩:RIB) 5) fun v7=> k2 (cond true v7 false) else k2 false else k2 false else k2 false else k2 false else k2 false
) fun v8=> some v8
def mill_New (a0:List Int):Option Deck:= some (⟨a0,0⟩:Deck)
def mill_Mod (a0:Int) (a1:Int):Option Int:= Option.bind (chk (a1 ≠ 0)) fun _=> joinP (τ:=Int) (fun k1=> if (decide ((Int.tmod a0 a1) < 0)) then k1 (i64w ((Int.tmod a0 a1) + a1)) else k1 (Int.tmod a0 a1)
) fun v2=> some v2
def mill_Deck_Next (a0:Deck) (a1:Int):Option (Int×Deck):= if (decide (a0.At ≥ (a0.L.length:Int))) then some (0,a0) else Option.bind (geti a0.L (i64w ((i64w (a0.At + 1)) - 1))) fun v1=> Option.bind (mill_Mod v1 a1) fun v2=> some (v2,(⟨a0.L,(i64w (a0.At + 1))⟩:Deck))
def mill_Deck_Open (a0:Deck) (a1:Int):Option (Open×Deck):= Option.bind (mill_Deck_Next a0 1073741824) fun (v1,v2)=> Option.bind (mill_Deck_Next v2 5) fun (v3,v4)=> Option.bind (geti ([0,3,9,90,65535]:List Int) v3) fun v5=> Option.bind (mill_Deck_Next v4 6) fun (v6,v7)=> Option.bind (mill_Deck_Next v7 5) fun (v8,v9)=> Option.bind (geti ([0,0,1,60,4095]:List Int) v8) fun v10=> Option.bind (mill_Deck_Next v9 3) fun (v11,v12)=> some ((⟨a1,(i64w (1 + v1)),v5,(i64w (v6 - 1)),v10,(v11 == 0)⟩:Open),v12)
def law33_session (a0:Deck):Option (Session×Deck):= Option.bind (mill_Deck_Next a0 5) fun (v1,v2)=> Option.bind (geti ([3,3,0,1,2]:List Int) v1) fun v3=> Option.bind (mill_Deck_Open v2 101) fun (v4,v5)=> Option.bind (mill_Deck_Open v5 102) fun (v6,v7)=> some ((⟨v3,v4,102,v6,0,0⟩:Session),v7)
def ref18_flags (a0:Int):Option Int:= joinP (τ:=Bool) (fun k1=> if (a0 == 1) then k1 (a0 == 1) else joinP (τ:=Bool) (fun k2=> if (a0 == 2) then k2 (a0 == 2) else joinP (τ:=Bool) (fun k3=> if (a0 == 3) then k3 (a0 == 3) else k3 (a0 == 5)
) fun v4=> k2 v4
) fun v5=> k1 v5
) fun v6=> if v6 then some 64 else if (a0 == 4) then some 128 else joinP (τ:=Bool) (fun k7=> if (a0 == 8) then k7 (a0 == 8) else joinP (τ:=Bool) (fun k8=> if (a0 == 32) then k8 (a0 == 32) else k8 (a0 == 35)
) fun v9=> k7 v9
) fun v10=> if v10 then some 192 else some 0
def ref18_unknown (a0:Int):Option Bool:= joinP (τ:=Bool) (fun k1=> Option.bind (ref18_flags a0) fun v2=> if (v2 == 0) then if (cond true (a0 != 14) false) then k1 (cond true (a0 != 15) false) else k1 false else k1 false
) fun v3=> some v3
def ref15_Valid (a0:List Segment):Option Bool:= joinP (τ:=Int) (fun k1=> forR (σ:=Int) (fun v2=> k1 v2
) (fun next3 (x4:Segment) i5 v2=> joinP (τ:=Unit) (fun k6=> joinP (τ:=Bool) (fun k7=> if ((x4.ASNs.length:Int) == 0) then k7 true else if (decide ((i5:Int) > 0)) then if (cond true (!x4.Set) false) then Option.bind (geti a0 (i64w ((i5:Int) - 1))) fun v8=> k7 (cond false true (cond true (!v8.Set) false)) else k7 false else k7 false
) fun v9=> if v9 then some false else joinP (τ:=Unit) (fun k10=> forR (σ:=Unit) (fun _=> k10 ()
) (fun next11 (x12:Int) i13 _=> joinP (τ:=Bool) (fun k14=> if (decide (x12 < 1)) then k14 true else if (cond false true (decide (x12 > 4294967295))) then k14 true else if x4.Set then if (cond true (decide ((i13:Int) > 0)) false) then Option.bind (geti x4.ASNs (i64w ((i13:Int) - 1))) fun v15=> k14 (cond false true (cond true (decide (v15 ≥ x12)) false)) else k14 false else k14 false
) fun v16=> if v16 then some false else next11 ()
) x4.ASNs 0 ()
) fun _=> k6 ()
) fun _=> next3 (i64w (v2 + (x4.ASNs.length:Int)))
) a0 0 0
) fun v17=> some (decide (v17 ≤ 64))
def ref01_Valid (a0:Addr):Option Bool:= joinP (τ:=Bool) (fun k1=> if a0.V6 then k1 true else if ((a0.Hi.toNat:Int) == 0) then k1 (cond false true (cond true (decide ((a0.Lo.toNat:Int) < 4294967296)) false)) else k1 false
) fun v2=> some v2
def ref17_right (a0:Community):Option Bool:= joinP (τ:=Bool) (fun k1=> if (decide (a0.A ≥ 0)) then if (cond true (decide (a0.A ≤ 65535)) false) then if (cond true (decide (a0.B ≥ 0)) false) then k1 (cond true (decide (a0.B ≤ 65535)) false) else k1 false else k1 false else k1 false
) fun v2=> some v2
def ref17_less (a0:Community) (a1:Community):Option Bool:= joinP (τ:=Bool) (fun k1=> if (decide (a0.A < a1.A)) then k1 true else if (a0.A == a1.A) then k1 (cond false true (cond true (decide (a0.B < a1.B)) false)) else k1 false
) fun v2=> some v2
def ref17_Valid (a0:List Community):Option Bool:= joinP (τ:=Unit) (fun k1=> forR (σ:=Unit) (fun _=> k1 ()
) (fun next2 (x3:Community) i4 _=> joinP (τ:=Bool) (fun k5=> Option.bind (ref17_right x3) fun v6=> if (!v6) then k5 true else if (decide ((i4:Int) > 0)) then Option.bind (geti a0 (i64w ((i4:Int) - 1))) fun v7=> Option.bind (ref17_less v7 x3) fun v8=> k5 (cond false true (cond true (!v8) false)) else k5 false
) fun v9=> if v9 then some false else next2 ()
) a0 0 ()
) fun _=> some (decide ((a0.length:Int) ≤ 64))
def ref17_rightLarge (a0:Large):Option Bool:= joinP (τ:=Bool) (fun k1=> if (decide (a0.A ≥ 0)) then if (cond true (decide (a0.A ≤ 4294967295)) false) then if (cond true (decide (a0.B ≥ 0)) false) then if (cond true (decide (a0.B ≤ 4294967295)) false) then if (cond true (decide (a0.C ≥ 0)) false) then k1 (cond true (decide (a0.C ≤ 4294967295)) false) else k1 false else k1 false else k1 false else k1 false else k1 false
) fun v2=> some v2
def ref17_lessLarge (a0:Large) (a1:Large):Option Bool:= joinP (τ:=Bool) (fun k1=> if (decide (a0.A < a1.A)) then k1 true else if (a0.A == a1.A) then if (decide (a0.B < a1.B)) then k1 true else if (a0.B == a1.B) then k1 (cond false true (cond true (cond false true (cond true (decide (a0.C < a1.C)) false)) false)) else k1 false else k1 false
) fun v2=> some v2
def ref17_ValidLarge (a0:List Large):Option Bool:= joinP (τ:=Unit) (fun k1=> forR (σ:=Unit) (fun _=> k1 ()
) (fun next2 (x3:Large) i4 _=> joinP (τ:=Bool) (fun k5=> Option.bind (ref17_rightLarge x3) fun v6=> if (!v6) then k5 true else if (decide ((i4:Int) > 0)) then Option.bind (geti a0 (i64w ((i4:Int) - 1))) fun v7=> Option.bind (ref17_lessLarge v7 x3) fun v8=> k5 (cond false true (cond true (!v8) false)) else k5 false
) fun v9=> if v9 then some false else next2 ()
) a0 0 ()
) fun _=> some (decide ((a0.length:Int) ≤ 64))
def ref18_Valid (a0:Attrs):Option Bool:= joinP (τ:=Unit) (fun k1=> forR (σ:=Unit) (fun _=> k1 ()
) (fun next2 (x3:Unknown) i4 _=> joinP (τ:=Bool) (fun k5=> if (decide (x3.Type_ < 1)) then k5 true else if (cond false true (decide (x3.Type_ > 255))) then k5 true else Option.bind (ref18_unknown x3.Type_) fun v6=> if (cond false true (!v6)) then k5 true else if (cond false true (x3.Flags != 224)) then k5 true else if (cond false true (decide ((x3.Data.length:Int) > 255))) then k5 true else if (decide ((i4:Int) > 0)) then Option.bind (geti a0.Other (i64w ((i4:Int) - 1))) fun v7=> k5 (cond false true (cond true (decide (v7.Type_ ≥ x3.Type_)) false)) else k5 false
) fun v8=> if v8 then some false else next2 ()
) a0.Other 0 ()
) fun _=> joinP (τ:=Bool) (fun k9=> if (decide (a0.Origin ≥ (-1))) then if (cond true (decide (a0.Origin ≤ 2)) false) then Option.bind (ref15_Valid a0.Path) fun v10=> if (cond true v10 false) then Option.bind (ref01_Valid a0.Next) fun v11=> if (cond true v11 false) then if (cond true (decide (a0.MED ≥ (-1))) false) then if (cond true (decide (a0.MED ≤ 4294967295)) false) then if (cond true (decide (a0.Pref ≥ (-1))) false) then if (cond true (decide (a0.Pref ≤ 4294967295)) false) then if (a0.OTC == (-1)) then Option.bind (ref17_Valid a0.Communities) fun v12=> if (cond true v12 false) then Option.bind (ref17_ValidLarge a0.Large) fun v13=> if (cond true v13 false) then k9 (cond true (decide ((a0.Other.length:Int) ≤ 8)) false) else k9 false else k9 false else if (decide (a0.OTC ≥ 1)) then if (cond true (cond false true (cond true (decide (a0.OTC ≤ 4294967295)) false)) false) then Option.bind (ref17_Valid a0.Communities) fun v14=> if (cond true v14 false) then Option.bind (ref17_ValidLarge a0.Large) fun v15=> if (cond true v15 false) then k9 (cond true (decide ((a0.Other.length:Int) ≤ 8)) false) else k9 false else k9 false else k9 false else k9 false else k9 false else k9 false else k9 false else k9 false else k9 false else k9 false else k9 false else k9 false
) fun v16=> some v16
def ref01_Bytes (a0:Addr):Option (List UInt8):= Option.bind (ref01_Valid a0) fun v1=> if (!v1) then some [] else joinP (τ:=Int) (fun k2=> if a0.V6 then k2 16 else k2 4
) fun v3=> joinP (τ:=(List UInt8)) (fun k4=> whileR (σ:=Int×(List UInt8)) (fun next5 (v6,v7)=> if (decide (v6 ≥ 0)) then joinP (τ:=UInt64) (fun k8=> if (decide (v6 ≥ 8)) then k8 a0.Hi else k8 a0.Lo
) fun v9=> Option.bind (apnd (α:=UInt8) 1 v7 ([(toU8 ((toU64 (Int.fdiv (v9.toNat:Int) (2 ^ (min (Int.toNat ((toU64 (8 * ((toU64 (Int.tmod v6 8)).toNat:Int))).toNat:Int)) 64)))).toNat:Int))]:List UInt8)) fun v10=> next5 ((i64w (v6 - 1)),v10) else k4 v7
) fuel ((i64w (v3 - 1)),[])
) fun v11=> some v11
def ref18_word (a0:Int) (a1:Int):Option (List UInt8):= joinP (τ:=(List UInt8)) (fun k1=> whileR (σ:=Int×(List UInt8)) (fun next2 (v3,v4)=> if (decide (v3 ≥ 0)) then Option.bind (apnd (α:=UInt8) 1 v4 ([(toU8 (Int.fdiv a0 (2 ^ (min (Int.toNat ((toU64 (8 * ((toU64 v3).toNat:Int))).toNat:Int)) 64))))]:List UInt8)) fun v5=> next2 ((i64w (v3 - 1)),v5) else k1 v4
) fuel ((i64w (a1 - 1)),[])
) fun v6=> some v6
def ref18_Write (a0:Attrs):Option ((List Unknown)×Int):= Option.bind (ref18_Valid a0) fun v1=> if (!v1) then some ([],1) else joinP (τ:=(List (Int×(List UInt8)))) (fun k2=> if (decide (a0.Origin ≥ 0)) then k2 (mset [] 1 ([(toU8 a0.Origin)]:List UInt8)) else k2 []
) fun v3=> joinP (τ:=Bool) (fun k4=> if (decide (a0.Origin ≥ 0)) then k4 true else k4 (cond false true (decide ((a0.Path.length:Int) > 0)))
) fun v5=> joinP (τ:=(List (Int×(List UInt8)))) (fun k6=> if v5 then joinP (τ:=(List UInt8)) (fun k7=> forR (σ:=(List UInt8)) (fun v8=> k7 v8
) (fun next9 (x10:Segment) i11 v8=> joinP (τ:=(List UInt8)) (fun k12=> joinP (τ:=UInt8) (fun k13=> if x10.Set then k13 (1:UInt8) else k13 (2:UInt8)
) fun v14=> Option.bind (apnd (α:=UInt8) 1 v8 ([v14,(toU8 (x10.ASNs.length:Int))]:List UInt8)) fun v15=> joinP (τ:=(List UInt8)) (fun k16=> forR (σ:=(List UInt8)) (fun v17=> k16 v17
) (fun next18 (x19:Int) i20 v17=> Option.bind (ref18_word x19 4) fun v21=> Option.bind (apnd (α:=UInt8) 1 v17 v21) fun v22=> next18 v22
) x10.ASNs 0 v15
) fun v23=> k12 v23
) fun v24=> next9 v24
) a0.Path 0 ([]:List UInt8)
) fun v25=> k6 (mset v3 2 v25) else k6 v3
) fun v26=> joinP (τ:=Bool) (fun k27=> if (!(Addr.eqd a0.Next (⟨false,(0:UInt64),(0:UInt64)⟩:Addr))) then k27 (cond true (!a0.Next.V6) false) else k27 false
) fun v28=> joinP (τ:=(List (Int×(List UInt8)))) (fun k29=> if v28 then Option.bind (ref01_Bytes a0.Next) fun v30=> k29 (mset v26 3 v30) else k29 v26
) fun v31=> joinP (τ:=(List (Int×(List UInt8)))) (fun k32=> if (decide (a0.MED ≥ 0)) then Option.bind (ref18_word a0.MED 4) fun v33=> k32 (mset v31 4 v33) else k32 v31
) fun v34=> joinP (τ:=(List (Int×(List UInt8)))) (fun k35=> if (decide (a0.Pref ≥ 0)) then Option.bind (ref18_word a0.Pref 4) fun v36=> k35 (mset v34 5 v36) else k35 v34
) fun v37=> joinP (τ:=(List (Int×(List UInt8)))×(List UInt8)) (fun k38=> Option.bind (chk ((mget v37 8).isNone=true)) fun _=> forR (σ:=(List (Int×(List UInt8)))×(List UInt8)) (fun (v39,v40)=> k38 (v39,v40)
) (fun next41 (x42:Community) i43 (v39,v40)=> Option.bind (ref18_word x42.A 2) fun v44=> Option.bind (apnd (α:=UInt8) 1 v40 v44) fun v45=> Option.bind (ref18_word x42.B 2) fun v46=> Option.bind (apnd (α:=UInt8) 1 v45 v46) fun v47=> next41 ((mset v39 8 v47),v47)
) a0.Communities 0 (v37,[])
) fun (v48,v49)=> joinP (τ:=(List (Int×(List UInt8)))×(List UInt8)) (fun k50=> Option.bind (chk ((mget v48 32).isNone=true)) fun _=> forR (σ:=(List (Int×(List UInt8)))×(List UInt8)) (fun (v51,v52)=> k50 (v51,v52)
) (fun next53 (x54:Large) i55 (v51,v52)=> Option.bind (ref18_word x54.A 4) fun v56=> Option.bind (apnd (α:=UInt8) 1 v52 v56) fun v57=> Option.bind (ref18_word x54.B 4) fun v58=> Option.bind (apnd (α:=UInt8) 1 v57 v58) fun v59=> Option.bind (ref18_word x54.C 4) fun v60=> Option.bind (apnd (α:=UInt8) 1 v59 v60) fun v61=> next53 ((mset v51 32 v61),v61)
) a0.Large 0 (v48,[])
) fun (v62,v63)=> joinP (τ:=(List (Int×(List UInt8)))) (fun k64=> if (decide (a0.OTC ≥ 0)) then Option.bind (ref18_word a0.OTC 4) fun v65=> k64 (mset v62 35 v65) else k64 v62
) fun v66=> joinP (τ:=(List Unknown)) (fun k67=> whileR (σ:=Int×(List Unknown)) (fun next68 (v69,v70)=> if (decide (v69 < 256)) then joinP (τ:=(List Unknown)) (fun k71=> Option.bind (some (Option.getD (mget v66 v69) [])) fun v72=> Option.bind (some (Option.isSome (mget v66 v69))) fun v73=> joinP (τ:=(List Unknown)) (fun k74=> if v73 then Option.bind (ref18_flags v69) fun v75=> Option.bind (apnd (α:=UInt8) 1 [] v72) fun _=> Option.bind (apnd (α:=Unknown) 40 v70 ([(⟨v75,v69,v72⟩:Unknown)]:List Unknown)) fun v76=> k74 v76 else k74 v70
) fun v77=> joinP (τ:=(List Unknown)) (fun k78=> forR (σ:=(List Unknown)) (fun v79=> k78 v79
) (fun next80 (x81:Unknown) i82 v79=> joinP (τ:=(List Unknown)) (fun k83=> if (x81.Type_ == v69) then Option.bind (apnd (α:=UInt8) 1 [] x81.Data) fun _=> Option.bind (apnd (α:=Unknown) 40 v79 ([{ x81 with Type_:=v69 }]:List Unknown)) fun v84=> k83 v84 else k83 v79
) fun v85=> next80 v85
) a0.Other 0 v77
) fun v86=> k71 v86
) fun v87=> next68 ((i64w (v69 + 1)),v87) else k67 v70
) fuel (0,[])
) fun v88=> some (v88,0)
def ref19_codes (a0:List Prefix) (a1:Bool):Option (List UInt8):= joinP (τ:=(List UInt8)) (fun k1=> forR (σ:=(List UInt8)) (fun v2=> k1 v2
) (fun next3 (x4:Prefix) i5 v2=> joinP (τ:=(List UInt8)) (fun k6=> if (x4.Addr.V6 == a1) then Option.bind (apnd (α:=UInt8) 1 v2 ([(toU8 x4.Len)]:List UInt8)) fun v7=> Option.bind (ref01_Bytes x4.Addr) fun v8=> Option.bind (chk (0 ≤ (0:Int)∧(0:Int) ≤ (i64w (Int.tdiv (i64w (x4.Len + 7)) 8))∧(i64w (Int.tdiv (i64w (x4.Len + 7)) 8)) ≤ (v8.length:Int))) fun _=> Option.bind (apnd (α:=UInt8) 1 v7 (List.take (Int.toNat (i64w (Int.tdiv (i64w (x4.Len + 7)) 8)) - Int.toNat 0) (List.drop (Int.toNat 0) v8))) fun v9=> k6 v9 else k6 v2
) fun v10=> next3 v10
) a0 0 []
) fun v11=> some v11
def ref19_put (a0:List Unknown) (a1:Unknown):Option (List Unknown):= joinP (τ:=Int) (fun k1=> whileR (σ:=Int) (fun next2 v3=> joinP (τ:=Bool) (fun k4=> if (decide (v3 < (a0.length:Int))) then Option.bind (geti a0 v3) fun v5=> k4 (cond true (decide (v5.Type_ < a1.Type_)) false) else k4 false
) fun v6=> if v6 then next2 (i64w (v3 + 1)) else k1 v3
) fuel 0
) fun v7=> Option.bind (part a0 0 v7) fun v8=> Option.bind (apnd (α:=Unknown) 40 [] v8) fun _=> Option.bind (apnd (α:=Unknown) 40 v8 ([a1]:List Unknown)) fun v9=> Option.bind (part a0 v7 (a0.length:Int)) fun v10=> Option.bind (apnd (α:=Unknown) 40 v9 v10) fun v11=> some v11
def ref18_Join (a0:List Unknown):Option ((List UInt8)×Int):= joinP (τ:=Unit) (fun k1=> forR (σ:=Unit) (fun _=> k1 ()
) (fun next2 (x3:Unknown) i4 _=> joinP (τ:=Bool) (fun k5=> if (decide (x3.Flags < 0)) then k5 true else if (cond false true (decide (x3.Flags > 255))) then k5 true else if (cond false true (decide (x3.Type_ < 0))) then k5 true else if (cond false true (decide (x3.Type_ > 255))) then k5 true else k5 (cond false true (decide ((x3.Data.length:Int) > 65535)))
) fun v6=> if v6 then some ([],1) else next2 ()
) a0 0 ()
) fun _=> joinP (τ:=(List UInt8)) (fun k7=> forR (σ:=(List UInt8)) (fun v8=> k7 v8
) (fun next9 (x10:Unknown) i11 v8=> joinP (τ:=(List UInt8)) (fun k12=> if (decide ((x10.Data.length:Int) > 255)) then Option.bind (apnd (α:=UInt8) 1 v8 ([(toU8 ((BitVec.ofInt 8 ((toU8 ((BitVec.ofInt 8 ((toU8 x10.Flags).toNat:Int) &&& BitVec.ofInt 8 224).toNat:Int)).toNat:Int) ||| BitVec.ofInt 8 16).toNat:Int)),(toU8 x10.Type_),(toU8 (Int.fdiv (x10.Data.length:Int) (2 ^ (min (Int.toNat 8) 64)))),(toU8 (x10.Data.length:Int))]:List UInt8)) fun v13=> k12 v13 else Option.bind (apnd (α:=UInt8) 1 v8 ([(toU8 ((BitVec.ofInt 8 ((toU8 x10.Flags).toNat:Int) &&& BitVec.ofInt 8 224).toNat:Int)),(toU8 x10.Type_),(toU8 (x10.Data.length:Int))]:List UInt8)) fun v14=> k12 v14
) fun v15=> Option.bind (apnd (α:=UInt8) 1 v15 x10.Data) fun v16=> next9 v16
) a0 0 []
) fun v17=> if (decide ((v17.length:Int) > 2048)) then some ([],3) else some (v17,0)
def ref19_parts (a0:Update):Option ((List UInt8)×Int):= joinP (τ:=(List Unknown)) (fun k1=> if (decide ((a0.Announce.length:Int) > 0)) then Option.bind (ref18_Write a0.Attrs) fun (v2,v3)=> if (v3 != 0) then some ([],v3) else k1 v2 else k1 []
) fun v4=> Option.bind (ref19_codes a0.Announce true) fun v5=> joinP (τ:=(List Unknown)) (fun k6=> if (decide ((v5.length:Int) > 0)) then Option.bind (ref01_Bytes a0.Attrs.Next) fun v7=> Option.bind (apnd (α:=UInt8) 1 ([(0:UInt8),(2:UInt8),(1:UInt8),(16:UInt8)]:List UInt8) v7) fun v8=> Option.bind (apnd (α:=UInt8) 1 v8 ([(0:UInt8)]:List UInt8)) fun v9=> Option.bind (apnd (α:=UInt8) 1 v9 v5) fun v10=> Option.bind (ref19_put v4 (⟨128,14,v10⟩:Unknown)) fun v11=> k6 v11 else k6 v4
) fun v12=> Option.bind (ref19_codes a0.Withdraw true) fun v13=> joinP (τ:=(List Unknown)) (fun k14=> if (decide ((v13.length:Int) > 0)) then Option.bind (apnd (α:=UInt8) 1 ([(0:UInt8),(2:UInt8),(1:UInt8)]:List UInt8) v13) fun v15=> Option.bind (ref19_put v12 (⟨128,15,v15⟩:Unknown)) fun v16=> k14 v16 else k14 v12
) fun v17=> Option.bind (ref18_Join v17) fun (v18,v19)=> if (v19 != 0) then some ([],v19) else Option.bind (ref19_codes a0.Withdraw false) fun v20=> Option.bind (apnd (α:=UInt8) 1 ([(toU8 (Int.fdiv (v20.length:Int) (2 ^ (min (Int.toNat 8) 64)))),(toU8 (v20.length:Int))]:List UInt8) v20) fun v21=> Option.bind (apnd (α:=UInt8) 1 v21 ([(toU8 (Int.fdiv (v18.length:Int) (2 ^ (min (Int.toNat 8) 64)))),(toU8 (v18.length:Int))]:List UInt8)) fun v22=> Option.bind (apnd (α:=UInt8) 1 v22 v18) fun v23=> Option.bind (ref19_codes a0.Announce false) fun v24=> Option.bind (apnd (α:=UInt8) 1 v23 v24) fun v25=> some (v25,0)
def ref18_Empty:Option Attrs:= some (⟨(-1),[],(⟨false,(0:UInt64),(0:UInt64)⟩:Addr),(-1),(-1),(-1),[],[],[]⟩:Attrs)
def ref01_FromBytes (a0:List UInt8):Option (Addr×Int):= joinP (τ:=Bool) (fun k1=> if ((a0.length:Int) != 4) then k1 (cond true ((a0.length:Int) != 16) false) else k1 false
) fun v2=> if v2 then some ((⟨false,(0:UInt64),(0:UInt64)⟩:Addr),1) else joinP (τ:=Addr) (fun k3=> forR (σ:=Addr) (fun v4=> k3 v4
) (fun next5 (x6:UInt8) i7 v4=> next5 (⟨v4.V6,(toU64 ((BitVec.ofInt 64 ((toU64 ((v4.Hi.toNat:Int) * (2 ^ (min (Int.toNat 8) 64)))).toNat:Int) ||| BitVec.ofInt 64 ((toU64 (Int.fdiv (v4.Lo.toNat:Int) (2 ^ (min (Int.toNat 56) 64)))).toNat:Int)).toNat:Int)),(toU64 ((BitVec.ofInt 64 ((toU64 ((v4.Lo.toNat:Int) * (2 ^ (min (Int.toNat 8) 64)))).toNat:Int) ||| BitVec.ofInt 64 ((toU64 (x6.toNat:Int)).toNat:Int)).toNat:Int))⟩:Addr)
) a0 0 (⟨((a0.length:Int) == 16),(0:UInt64),(0:UInt64)⟩:Addr)
) fun v8=> some (v8,0)
def ref02_width (a0:Addr):Option Int:= if a0.V6 then some 128 else some 32
def ref02_Make (a0:Addr) (a1:Int):Option (Prefix×Int):= Option.bind (ref01_Valid a0) fun v1=> if (!v1) then some ((⟨(⟨false,(0:UInt64),(0:UInt64)⟩:Addr),0⟩:Prefix),1) else joinP (τ:=Bool) (fun k2=> if (decide (a1 < 0)) then k2 true else Option.bind (ref02_width a0) fun v3=> k2 (cond false true (decide (a1 > v3)))
) fun v4=> if v4 then some ((⟨(⟨false,(0:UInt64),(0:UInt64)⟩:Addr),0⟩:Prefix),9) else Option.bind (ref01_Bytes a0) fun v5=> joinP (τ:=(List UInt8)) (fun k6=> whileR (σ:=Int×(List UInt8)) (fun next7 (v8,v9)=> if (decide (v8 < (i64w (8 * (v9.length:Int))))) then Option.bind (geti v9 (i64w (Int.tdiv v8 8))) fun v10=> Option.bind (geti v9 (i64w (Int.tdiv v8 8))) fun v11=> Option.bind (seti v9 (i64w (Int.tdiv v8 8)) (toU8 ((BitVec.ofInt 8 (v10.toNat:Int) &&& ~~~BitVec.ofInt 8 ((toU8 (Int.fdiv 128 (2 ^ (min (Int.toNat ((toU64 (Int.tmod v8 8)).toNat:Int)) 8)))).toNat:Int)).toNat:Int))) fun v12=> next7 ((i64w (v8 + 1)),v12) else k6 v9
) fuel (a1,v5)
) fun v13=> Option.bind (ref01_FromBytes v13) fun (v14,v15)=> some ((⟨v14,a1⟩:Prefix),0)
def ref02_Valid (a0:Prefix):Option Bool:= Option.bind (ref02_Make a0.Addr a0.Len) fun (v1,v2)=> joinP (τ:=Bool) (fun k3=> if (v2 == 0) then k3 (cond true (Prefix.eqd a0 v1) false) else k3 false
) fun v4=> some v4
def ref15_Same (a0:List Segment) (a1:List Segment):Option Bool:= if ((a0.length:Int) != (a1.length:Int)) then some false else joinP (τ:=Unit) (fun k1=> forR (σ:=Unit) (fun _=> k1 ()
) (fun next2 (x3:Segment) i4 _=> joinP (τ:=Unit) (fun k5=> joinP (τ:=Bool) (fun k6=> Option.bind (geti a1 (i4:Int)) fun v7=> if (!(x3.Set == v7.Set)) then k6 true else Option.bind (geti a1 (i4:Int)) fun v8=> k6 (cond false true ((x3.ASNs.length:Int) != (v8.ASNs.length:Int)))
) fun v9=> if v9 then some false else joinP (τ:=Unit) (fun k10=> forR (σ:=Unit) (fun _=> k10 ()
) (fun next11 (x12:Int) i13 _=> Option.bind (geti a1 (i4:Int)) fun v14=> Option.bind (geti v14.ASNs (i13:Int)) fun v15=> if (v15 != x12) then some false else next11 ()
) x3.ASNs 0 ()
) fun _=> k5 ()
) fun _=> next2 ()
) a0 0 ()
) fun _=> some true
def ref17_Same (a0:List Community) (a1:List Community):Option Bool:= if ((a0.length:Int) != (a1.length:Int)) then some false else joinP (τ:=Unit) (fun k1=> forR (σ:=Unit) (fun _=> k1 ()
) (fun next2 (x3:Community) i4 _=> Option.bind (geti a1 (i4:Int)) fun v5=> if (!(Community.eqd v5 x3)) then some false else next2 ()
) a0 0 ()
) fun _=> some true
def ref17_SameLarge (a0:List Large) (a1:List Large):Option Bool:= if ((a0.length:Int) != (a1.length:Int)) then some false else joinP (τ:=Unit) (fun k1=> forR (σ:=Unit) (fun _=> k1 ()
) (fun next2 (x3:Large) i4 _=> Option.bind (geti a1 (i4:Int)) fun v5=> if (!(Large.eqd v5 x3)) then some false else next2 ()
) a0 0 ()
) fun _=> some true
def ref18_SameList (a0:List Unknown) (a1:List Unknown):Option Bool:= if ((a0.length:Int) != (a1.length:Int)) then some false else joinP (τ:=Unit) (fun k1=> forR (σ:=Unit) (fun _=> k1 ()
) (fun next2 (x3:Unknown) i4 _=> joinP (τ:=Bool) (fun k5=> Option.bind (geti a1 (i4:Int)) fun v6=> if (x3.Flags != v6.Flags) then k5 true else Option.bind (geti a1 (i4:Int)) fun v7=> if (cond false true (x3.Type_ != v7.Type_)) then k5 true else Option.bind (geti a1 (i4:Int)) fun v8=> k5 (cond false true (!((bs x3.Data).toList == (bs v8.Data).toList)))
) fun v9=> if v9 then some false else next2 ()
) a0 0 ()
) fun _=> some true
def ref18_Same (a0:Attrs) (a1:Attrs):Option Bool:= joinP (τ:=Bool) (fun k1=> if (a0.Origin == a1.Origin) then Option.bind (ref15_Same a0.Path a1.Path) fun v2=> if (cond true v2 false) then if (cond true (Addr.eqd a0.Next a1.Next) false) then if (cond true (a0.MED == a1.MED) false) then if (cond true (a0.Pref == a1.Pref) false) then if (cond true (a0.OTC == a1.OTC) false) then Option.bind (ref17_Same a0.Communities a1.Communities) fun v3=> if (cond true v3 false) then Option.bind (ref17_SameLarge a0.Large a1.Large) fun v4=> if (cond true v4 false) then Option.bind (ref18_SameList a0.Other a1.Other) fun v5=> k1 (cond true v5 false) else k1 false else k1 false else k1 false else k1 false else k1 false else k1 false else k1 false else k1 false
) fun v6=> some v6
def ref19_Valid (a0:Update):Option Bool:= joinP (τ:=Bool) (fun k1=> if (decide ((a0.Withdraw.length:Int) > 256)) then k1 true else k1 (cond false true (decide ((a0.Announce.length:Int) > 256)))
) fun v2=> if v2 then some false else Option.bind (apnd (α:=Prefix) 32 [] a0.Withdraw) fun _=> Option.bind (apnd (α:=Prefix) 32 a0.Withdraw a0.Announce) fun v3=> joinP (τ:=Unit) (fun k4=> forR (σ:=Unit) (fun _=> k4 ()
) (fun next5 (x6:Prefix) i7 _=> Option.bind (ref02_Valid x6) fun v8=> if (!v8) then some false else next5 ()
) v3 0 ()
) fun _=> joinP (τ:=Bool) (fun k9=> if ((a0.Announce.length:Int) == 0) then Option.bind (ref18_Empty) fun v10=> Option.bind (ref18_Same a0.Attrs v10) fun v11=> k9 (cond true (!v11) false) else k9 false
) fun v12=> if v12 then some false else joinP (τ:=Unit) (fun k13=> forR (σ:=Unit) (fun _=> k13 ()
) (fun next14 (x15:Prefix) i16 _=> joinP (τ:=Bool) (fun k17=> if (!(x15.Addr.V6 == a0.Attrs.Next.V6)) then k17 true else if (cond false true (a0.Attrs.Origin == (-1))) then k17 true else if (cond false true (Addr.eqd a0.Attrs.Next (⟨false,(0:UInt64),(0:UInt64)⟩:Addr))) then k17 true else Option.bind (ref18_Valid a0.Attrs) fun v18=> k17 (cond false true (!v18))
) fun v19=> if v19 then some false else next14 ()
) a0.Announce 0 ()
) fun _=> Option.bind (ref19_parts a0) fun (v20,v21)=> joinP (τ:=Bool) (fun k22=> if (v21 == 0) then k22 (cond true (decide ((v20.length:Int) ≤ 4077)) false) else k22 false
) fun v23=> some v23
def ref19_Encode (a0:Update):Option ((List UInt8)×Int):= Option.bind (ref19_Valid a0) fun v1=> if (!v1) then some ([],1) else Option.bind (ref19_parts a0) fun (v2,v3)=> some (v2,v3)
def mill_block (a0:Int):Option Prefix:= if (decide (a0 ≥ 6)) then some (⟨(⟨true,(toU64 ((BitVec.ofInt 64 2306139568115548160 ||| BitVec.ofInt 64 ((toU64 (((toU64 a0).toNat:Int) * (2 ^ (min (Int.toNat 16) 64)))).toNat:Int)).toNat:Int)),(0:UInt64)⟩:Addr),48⟩:Prefix) else some (⟨(⟨false,(0:UInt64),(toU64 ((BitVec.ofInt 64 167772160 ||| BitVec.ofInt 64 ((toU64 (((toU64 a0).toNat:Int) * (2 ^ (min (Int.toNat 16) 64)))).toNat:Int)).toNat:Int))⟩:Addr),16⟩:Prefix)
def mill_Deck_Prefix (a0:Deck):Option (Prefix×Deck):= Option.bind (mill_Deck_Next a0 8) fun (v1,v2)=> Option.bind (mill_block v1) fun v3=> Option.bind (mill_Deck_Next v2 8) fun (v4,v5)=> joinP (τ:=Deck×Prefix) (fun k6=> if (v4 == 6) then joinP (τ:=Int) (fun k7=> if v3.Addr.V6 then k7 64 else k7 24
) fun v8=> k6 (v5,(⟨v3.Addr,v8⟩:Prefix)) else joinP (τ:=Deck×Prefix) (fun k9=> if (v4 == 7) then joinP (τ:=Int) (fun k10=> if v3.Addr.V6 then k10 128 else k10 32
) fun v11=> Option.bind (mill_Deck_Next v5 3) fun (v12,v13)=> k9 (v13,(⟨{ v3.Addr with Lo:=(toU64 ((v3.Addr.Lo.toNat:Int) + ((toU64 v12).toNat:Int))) },v11⟩:Prefix)) else k9 (v5,v3)
) fun (v14,v15)=> k6 (v14,v15)
) fun (v16,v17)=> some (v17,v16)
def mill_Port (a0:Int) (a1:Bool):Option Addr:= if a1 then some (⟨true,(2306139568115613695:UInt64),(toU64 a0)⟩:Addr) else some (⟨false,(0:UInt64),(toU64 ((BitVec.ofInt 64 3221225984 ||| BitVec.ofInt 64 ((toU64 (i64w ((Int.tmod a0 250) + 1))).toNat:Int)).toNat:Int))⟩:Addr)
def mill_Deck_Communities (a0:Deck):Option ((List Community)×Deck):= Option.bind (mill_Deck_Next a0 65536) fun (v1,v2)=> joinP (τ:=Deck×(List Community)) (fun k3=> forR (σ:=Deck×(List Community)) (fun (v4,v5)=> k3 (v4,v5)
) (fun next6 (x7:Community) i8 (v4,v5)=> joinP (τ:=Bool×Deck) (fun k9=> if ((i64w ((BitVec.ofInt 64 (Int.fdiv v1 (2 ^ (min (Int.toNat ((toU64 (i64w (2 * (i8:Int)))).toNat:Int)) 64))) &&& BitVec.ofInt 64 3).toNat:Int)) == 3) then if (decide ((i8:Int) < 6)) then k9 (true,v4) else Option.bind (mill_Deck_Next v4 2) fun (v10,v11)=> k9 ((cond true (cond false true (v10 == 0)) false),v11) else k9 (false,v4)
) fun (v12,v13)=> joinP (τ:=(List Community)) (fun k14=> if v12 then Option.bind (apnd (α:=Community) 16 v5 ([x7]:List Community)) fun v15=> k14 v15 else k14 v5
) fun v16=> next6 (v13,v16)
) ([(⟨0,99⟩:Community),(⟨0,101⟩:Community),(⟨0,102⟩:Community),(⟨99,101⟩:Community),(⟨99,103⟩:Community),(⟨500,1⟩:Community),(⟨65535,666⟩:Community),(⟨65535,65282⟩:Community)]:List Community) 0 (v2,[])
) fun (v17,v18)=> some (v18,v17)
def mill_Deck_Large (a0:Deck):Option ((List Large)×Deck):= Option.bind (mill_Deck_Next a0 16384) fun (v1,v2)=> joinP (τ:=(List Large)) (fun k3=> forR (σ:=(List Large)) (fun v4=> k3 v4
) (fun next5 (x6:Large) i7 v4=> joinP (τ:=(List Large)) (fun k8=> if ((i64w ((BitVec.ofInt 64 (Int.fdiv v1 (2 ^ (min (Int.toNat ((toU64 (i64w (2 * (i7:Int)))).toNat:Int)) 64))) &&& BitVec.ofInt 64 3).toNat:Int)) == 3) then Option.bind (apnd (α:=Large) 24 v4 ([x6]:List Large)) fun v9=> k8 v9 else k8 v4
) fun v10=> next5 v10
) ([(⟨5,5,5⟩:Large),(⟨99,0,0⟩:Large),(⟨99,0,103⟩:Large),(⟨99,1,102⟩:Large),(⟨99,101,0⟩:Large),(⟨99,102,104⟩:Large),(⟨99,103,101⟩:Large)]:List Large) 0 []
) fun v11=> some (v11,v2)
def mill_Deck_Attrs (a0:Deck) (a1:Int) (a2:Bool):Option (Attrs×Deck):= joinP (τ:=Unit) (fun k1=> k1 ()
) fun _=> Option.bind (mill_Deck_Next a0 3) fun (v2,v3)=> Option.bind (mill_Deck_Next v3 4) fun (v4,v5)=> joinP (τ:=Deck×(List Int)) (fun k6=> whileR (σ:=Int×Deck×(List Int)) (fun next7 (v8,v9,v10)=> if (decide (v8 > 0)) then Option.bind (mill_Deck_Next v9 7) fun (v11,v12)=> Option.bind (geti ([a1,101,102,201,202,203,301]:List Int) v11) fun v13=> Option.bind (apnd (α:=Int) 8 v10 ([v13]:List Int)) fun v14=> next7 ((i64w (v8 - 1)),v12,v14) else k6 (v9,v10)
) fuel (v4,v5,([a1]:List Int))
) fun (v15,v16)=> Option.bind (mill_Port a1 a2) fun v17=> Option.bind (mill_Deck_Next v15 3) fun (v18,v19)=> joinP (τ:=Deck×Int) (fun k20=> if (v18 == 0) then Option.bind (mill_Deck_Next v19 3) fun (v21,v22)=> k20 (v22,v21) else k20 (v19,(-1))
) fun (v23,v24)=> Option.bind (mill_Deck_Next v23 6) fun (v25,v26)=> joinP (τ:=Deck×Int) (fun k27=> if (v25 == 0) then Option.bind (mill_Deck_Next v26 300) fun (v28,v29)=> k27 (v29,v28) else k27 (v26,(-1))
) fun (v30,v31)=> Option.bind (mill_Deck_Communities v30) fun (v32,v33)=> Option.bind (mill_Deck_Large v33) fun (v34,v35)=> Option.bind (mill_Deck_Next v35 24) fun (v36,v37)=> joinP (τ:=Deck×(List Segment)×Bool×UInt64×UInt64×Int×(List Unknown)) (fun k38=> if (v36 == 0) then Option.bind (mill_Deck_Next v37 300) fun (v39,v40)=> k38 (v40,[(⟨false,v16⟩:Segment)],v17.V6,v17.Hi,v17.Lo,(i64w (1 + v39)),[]) else joinP (τ:=Deck×(List Segment)×Bool×UInt64×UInt64×(List Unknown)) (fun k41=> if (v36 == 1) then Option.bind (geti v16 0) fun v42=> Option.bind (seti v16 0 103) fun v43=> k41 (v37,[(⟨false,v43⟩:Segment)],v17.V6,v17.Hi,v17.Lo,[]) else joinP (τ:=Deck×(List Segment)×Bool×UInt64×UInt64×(List Unknown)) (fun k44=> if (v36 == 2) then k44 (v37,((⟨false,v16⟩:Segment)::([(⟨true,([7,9]:List Int)⟩:Segment)]:List Segment)),v17.V6,v17.Hi,v17.Lo,[]) else joinP (τ:=Deck×(List Segment)×Bool×UInt64×UInt64×(List Unknown)) (fun k45=> if (v36 == 3) then Option.bind (apnd (α:=Int) 8 v16 ([99]:List Int)) fun v46=> k45 (v37,[(⟨false,v46⟩:Segment)],v17.V6,v17.Hi,v17.Lo,[]) else joinP (τ:=Deck×(List Segment)×Bool×UInt64×UInt64×(List Unknown)) (fun k47=> if (v36 == 4) then Option.bind (mill_Port 104 a2) fun v48=> k47 (v37,[(⟨false,v16⟩:Segment)],v48.V6,v48.Hi,v48.Lo,[]) else joinP (τ:=Deck×(List Segment)×(List Unknown)) (fun k49=> if (v36 == 5) then Option.bind (apnd (α:=Int) 8 v16 ([64512,701]:List Int)) fun v50=> k49 (v37,[(⟨false,v50⟩:Segment)],[]) else joinP (τ:=Deck×(List Segment)×(List Unknown)) (fun k51=> if (v36 == 6) then k51 (v37,[],[]) else joinP (τ:=Deck×(List Unknown)) (fun k52=> if (v36 == 7) then Option.bind (mill_Deck_Next v37 256) fun (v53,v54)=> k52 (v54,[(⟨224,99,([(1:UInt8),(toU8 v53)]:List UInt8)⟩:Unknown)]) else k52 (v37,[])
) fun (v55,v56)=> k51 (v55,[(⟨false,v16⟩:Segment)],v56)
) fun (v57,v58,v59)=> k49 (v57,v58,v59)
) fun (v60,v61,v62)=> k47 (v60,v61,v17.V6,v17.Hi,v17.Lo,v62)
) fun (v63,v64,v65,v66,v67,v68)=> k45 (v63,v64,v65,v66,v67,v68)
) fun (v69,v70,v71,v72,v73,v74)=> k44 (v69,v70,v71,v72,v73,v74)
) fun (v75,v76,v77,v78,v79,v80)=> k41 (v75,v76,v77,v78,v79,v80)
) fun (v81,v82,v83,v84,v85,v86)=> k38 (v81,v82,v83,v84,v85,(-1),v86)
) fun (v87,v88,v89,v90,v91,v92,v93)=> some ((⟨v2,v88,(⟨v89,v90,v91⟩:Addr),v24,v31,v92,v32,v34,v93⟩:Attrs),v87)
def mill_Deck_Route (a0:Deck) (a1:Int):Option (Route×Deck):= Option.bind (mill_Deck_Prefix a0) fun (v1,v2)=> Option.bind (mill_Deck_Attrs v2 a1 v1.Addr.V6) fun (v3,v4)=> some ((⟨v1,a1,v3⟩:Route),v4)
def mill_Deck_Update (a0:Deck) (a1:Int):Option (Update×Deck):= joinP (τ:=Unit) (fun k1=> k1 ()
) fun _=> Option.bind (mill_Deck_Next a0 3) fun (v2,v3)=> joinP (τ:=Deck×(List Prefix)) (fun k4=> whileR (σ:=Int×Deck×(List Prefix)) (fun next5 (v6,v7,v8)=> joinP (τ:=Bool×Deck) (fun k9=> if (decide (v6 > 0)) then Option.bind (mill_Deck_Next v7 2) fun (v10,v11)=> k9 ((cond true (v10 == 0) false),v11) else k9 (false,v7)
) fun (v12,v13)=> if v12 then Option.bind (mill_Deck_Prefix v13) fun (v14,v15)=> Option.bind (apnd (α:=Prefix) 32 v8 ([v14]:List Prefix)) fun v16=> next5 ((i64w (v6 - 1)),v15,v16) else k4 (v13,v8)
) fuel (v2,v3,[])
) fun (v17,v18)=> Option.bind (mill_Deck_Next v17 5) fun (v19,v20)=> joinP (τ:=Deck×Int×(List Segment)×Bool×UInt64×UInt64×Int×Int×Int×(List Community)×(List Large)×(List Unknown)×(List Prefix)) (fun k21=> if (decide (v19 > 0)) then Option.bind (mill_Deck_Route v20 a1) fun (v22,v23)=> Option.bind (mill_Deck_Next v23 3) fun (v24,v25)=> joinP (τ:=Deck×(List Prefix)) (fun k26=> whileR (σ:=Int×Deck×(List Prefix)) (fun next27 (v28,v29,v30)=> if (decide (v28 > 0)) then Option.bind (mill_Deck_Prefix v29) fun (v31,v32)=> joinP (τ:=(List Prefix)) (fun k33=> if (v31.Addr.V6 == v22.Prefix.Addr.V6) then Option.bind (apnd (α:=Prefix) 32 v30 ([v31]:List Prefix)) fun v34=> k33 v34 else k33 v30
) fun v35=> next27 ((i64w (v28 - 1)),v32,v35) else k26 (v29,v30)
) fuel (v24,v25,([v22.Prefix]:List Prefix))
) fun (v36,v37)=> k21 (v36,v22.Attrs.Origin,v22.Attrs.Path,v22.Attrs.Next.V6,v22.Attrs.Next.Hi,v22.Attrs.Next.Lo,v22.Attrs.MED,v22.Attrs.Pref,v22.Attrs.OTC,v22.Attrs.Communities,v22.Attrs.Large,v22.Attrs.Other,v37) else k21 (v20,(-1),[],false,(0:UInt64),(0:UInt64),(-1),(-1),(-1),[],[],[],[])
) fun (v38,v39,v40,v41,v42,v43,v44,v45,v46,v47,v48,v49,v50)=> some ((⟨v18,(⟨v39,v40,(⟨v41,v42,v43⟩:Addr),v44,v45,v46,v47,v48,v49⟩:Attrs),v50⟩:Update),v38)
def law33_message (a0:Deck):Option (Message×Deck):= Option.bind (mill_Deck_Next a0 7) fun (v1,v2)=> if (v1 == 0) then some ((⟨0,[]⟩:Message),v2) else if (v1 == 1) then some ((⟨3,([(6:UInt8),(0:UInt8)]:List UInt8)⟩:Message),v2) else if (v1 == 2) then Option.bind (chk (0 ≤ (4:Int)∧(4:Int) ≤ 4∧(4:Int) ≤ 1048576)) fun _=> some ((⟨2,(List.replicate (Int.toNat 4) (0:UInt8))⟩:Message),v2) else if (v1 == 3) then some ((⟨2,([(0:UInt8),(0:UInt8),(0:UInt8),(6:UInt8),(128:UInt8),(15:UInt8),(3:UInt8),(0:UInt8),(2:UInt8),(1:UInt8)]:List UInt8)⟩:Message),v2) else Option.bind (mill_Deck_Update v2 102) fun (v3,v4)=> Option.bind (ref19_Encode v3) fun (v5,v6)=> joinP (τ:=Bool×Deck) (fun k7=> Option.bind (mill_Deck_Next v4 4) fun (v8,v9)=> if (v8 == 0) then k7 ((cond true (decide ((v5.length:Int) > 0)) false),v9) else k7 (false,v9)
) fun (v10,v11)=> joinP (τ:=(List UInt8)×Deck) (fun k12=> if v10 then Option.bind (apnd (α:=UInt8) 1 [] v5) fun _=> Option.bind (mill_Deck_Next v11 (v5.length:Int)) fun (v13,v14)=> Option.bind (mill_Deck_Next v14 256) fun (v15,v16)=> Option.bind (geti v5 v13) fun v17=> Option.bind (seti v5 v13 (toU8 v15)) fun v18=> k12 (v18,v16) else k12 (v5,v11)
) fun (v19,v20)=> some ((⟨2,v19⟩:Message),v20)
def ref23_SameInts (a0:List Int) (a1:List Int):Option Bool:= if ((a0.length:Int) != (a1.length:Int)) then some false else joinP (τ:=Unit) (fun k1=> forR (σ:=Unit) (fun _=> k1 ()
) (fun next2 (x3:Int) i4 _=> Option.bind (geti a1 (i4:Int)) fun v5=> if (x3 != v5) then some false else next2 ()
) a0 0 ()
) fun _=> some true
def ref23_SameAttrs (a0:Attrs) (a1:Attrs):Option Bool:= joinP (τ:=Bool) (fun k1=> if (a0.Origin != a1.Origin) then k1 true else if (cond false true (!(Addr.eqd a0.Next a1.Next))) then k1 true else if (cond false true (a0.MED != a1.MED)) then k1 true else if (cond false true (a0.Pref != a1.Pref)) then k1 true else if (cond false true (a0.OTC != a1.OTC)) then k1 true else if (cond false true ((a0.Path.length:Int) != (a1.Path.length:Int))) then k1 true else if (cond false true ((a0.Communities.length:Int) != (a1.Communities.length:Int))) then k1 true else if (cond false true ((a0.Large.length:Int) != (a1.Large.length:Int))) then k1 true else k1 (cond false true ((a0.Other.length:Int) != (a1.Other.length:Int)))
) fun v2=> if v2 then some false else joinP (τ:=Unit) (fun k3=> forR (σ:=Unit) (fun _=> k3 ()
) (fun next4 (x5:Segment) i6 _=> joinP (τ:=Bool) (fun k7=> Option.bind (geti a1.Path (i6:Int)) fun v8=> if (!(x5.Set == v8.Set)) then k7 true else Option.bind (geti a1.Path (i6:Int)) fun v9=> Option.bind (ref23_SameInts x5.ASNs v9.ASNs) fun v10=> k7 (cond false true (!v10))
) fun v11=> if v11 then some false else next4 ()
) a0.Path 0 ()
) fun _=> joinP (τ:=Unit) (fun k12=> forR (σ:=Unit) (fun _=> k12 ()
) (fun next13 (x14:Community) i15 _=> Option.bind (geti a1.Communities (i15:Int)) fun v16=> if (!(Community.eqd x14 v16)) then some false else next13 ()
) a0.Communities 0 ()
) fun _=> joinP (τ:=Unit) (fun k17=> forR (σ:=Unit) (fun _=> k17 ()
) (fun next18 (x19:Large) i20 _=> Option.bind (geti a1.Large (i20:Int)) fun v21=> if (!(Large.eqd x19 v21)) then some false else next18 ()
) a0.Large 0 ()
) fun _=> joinP (τ:=Unit) (fun k22=> forR (σ:=Unit) (fun _=> k22 ()
) (fun next23 (x24:Unknown) i25 _=> joinP (τ:=Bool) (fun k26=> Option.bind (geti a1.Other (i25:Int)) fun v27=> if (x24.Flags != v27.Flags) then k26 true else Option.bind (geti a1.Other (i25:Int)) fun v28=> if (cond false true (x24.Type_ != v28.Type_)) then k26 true else Option.bind (geti a1.Other (i25:Int)) fun v29=> k26 (cond false true (!((bs x24.Data).toList == (bs v29.Data).toList)))
) fun v30=> if v30 then some false else next23 ()
) a0.Other 0 ()
) fun _=> some true
def ref18_sorted (a0:List Int):Option (List Int):= joinP (τ:=(List Int)) (fun k1=> forR (σ:=(List Int)) (fun v2=> k1 v2
) (fun next3 (x4:Int) i5 v2=> joinP (τ:=(List Int)) (fun k6=> joinP (τ:=Int) (fun k7=> whileR (σ:=Int) (fun next8 v9=> joinP (τ:=Bool) (fun k10=> if (decide (v9 < (v2.length:Int))) then Option.bind (geti v2 v9) fun v11=> k10 (cond true (decide (v11 < x4)) false) else k10 false
) fun v12=> if v12 then next8 (i64w (v9 + 1)) else k7 v9
) fuel 0
) fun v13=> joinP (τ:=Bool) (fun k14=> if (decide (v13 < (v2.length:Int))) then Option.bind (geti v2 v13) fun v15=> k14 (cond true (v15 == x4) false) else k14 false
) fun v16=> if v16 then k6 v2 else Option.bind (chk (0 ≤ (0:Int)∧(0:Int) ≤ v13∧v13 ≤ (v2.length:Int))) fun _=> Option.bind (apnd (α:=Int) 8 [] (List.take (Int.toNat v13 - Int.toNat 0) (List.drop (Int.toNat 0) v2))) fun _=> Option.bind (apnd (α:=Int) 8 (List.take (Int.toNat v13 - Int.toNat 0) (List.drop (Int.toNat 0) v2)) ([x4]:List Int)) fun v17=> Option.bind (chk (0 ≤ v13∧v13 ≤ (v2.length:Int)∧(v2.length:Int) ≤ (v2.length:Int))) fun _=> Option.bind (apnd (α:=Int) 8 v17 (List.take (Int.toNat (v2.length:Int) - Int.toNat v13) (List.drop (Int.toNat v13) v2))) fun v18=> k6 v18
) fun v19=> next3 v19
) a0 0 []
) fun v20=> some v20
def ref17_Has (a0:List Community) (a1:Community):Option Bool:= joinP (τ:=Unit) (fun k1=> forR (σ:=Unit) (fun _=> k1 ()
) (fun next2 (x3:Community) i4 _=> if (Community.eqd x3 a1) then some true else next2 ()
) a0 0 ()
) fun _=> some false
def ref17_HasLarge (a0:List Large) (a1:Large):Option Bool:= joinP (τ:=Unit) (fun k1=> forR (σ:=Unit) (fun _=> k1 ()
) (fun next2 (x3:Large) i4 _=> if (Large.eqd x3 a1) then some true else next2 ()
) a0 0 ()
) fun _=> some false
def law33_RestartOnce (a0:List Int) (a1:Int) (a2:Int):Option Bool:= Option.bind (mill_New a0) fun v1=> Option.bind (law33_session v1) fun (v2,v3)=> Option.bind (law33_session v3) fun (v4,v5)=> Option.bind (law33_message v5) fun (v6,v7)=> Option.bind (restart_Records v2 v4 v6 a1 a2) fun v8=> joinP (τ:=Bool) (fun k9=> if (v2.State != 3) then k9 (cond true (v4.State != 3) false) else k9 false
) fun v10=> if v10 then joinP (τ:=Bool) (fun k11=> if ((v8.length:Int) == 0) then Option.bind (law33_awake) fun v12=> k11 (cond true v12 false) else k11 false
) fun v13=> some v13 else joinP (τ:=Bool) (fun k14=> if (decide ((v8.length:Int) > 1)) then k14 true else if ((v8.length:Int) == 1) then Option.bind (geti v8 0) fun v15=> k14 (cond false true (cond true (v15.Member != a1) false)) else k14 false
) fun v16=> if v16 then some false else joinP (τ:=Bool) (fun k17=> if (v2.State != v4.State) then if (((v8.length:Int) == 1) == true) then Option.bind (law33_awake) fun v18=> k17 (cond true v18 false) else k17 false else if (((v8.length:Int) == 1) == (cond false true (v6.Type_ == 2))) then Option.bind (law33_awake) fun v19=> k17 (cond true v19 false) else k17 false
) fun v20=> some v20
end Go.AX.Q33
end
section
namespace Go.AX.Q33
open Go Go.AX Go.Proofs
set_option maxRecDepth 100000
set_option maxHeartbeats 4000000
set_option linter.unusedVariables false
def keep:FuncId→List Bool:=fun f=>(match Nat.beq f 261 with | true=>[true] | false=>(match Nat.beq f 144 with | true=>[true] | false=>(match Nat.beq f 277 with | true=>[true] | false=>(match Nat.beq f 272 with | true=>[true] | false=>(match Nat.beq f 278 with | true=>[true] | false=>(match Nat.beq f 273 with | true=>[true] | false=>(match Nat.beq f 262 with | true=>[true] | false=>[])))))))
def inlf:FuncId→Bool:=fun f=>(match Nat.beq f 268 with | true=>true | false=>(match Nat.beq f 264 with | true=>true | false=>(match Nat.beq f 258 with | true=>true | false=>(match Nat.beq f 257 with | true=>true | false=>(match Nat.beq f 256 with | true=>true | false=>(match Nat.beq f 255 with | true=>true | false=>(match Nat.beq f 254 with | true=>true | false=>(match Nat.beq f 253 with | true=>true | false=>(match Nat.beq f 252 with | true=>true | false=>(match Nat.beq f 251 with | true=>true | false=>(match Nat.beq f 250 with | true=>true | false=>(match Nat.beq f 141 with | true=>true | false=>(match Nat.beq f 137 with | true=>true | false=>(match Nat.beq f 108 with | true=>true | false=>(match Nat.beq f 100 with | true=>true | false=>(match Nat.beq f 60 with | true=>true | false=>(match Nat.beq f 51 with | true=>true | false=>false)))))))))))))))))
def seatG:Nat→Option (List (D×D)):=fun g=>(match Nat.beq g 1 with | true=>some ([(D.i 1,D.val (.func (.func 250) #[] #[])),(D.i 2,D.val (.func (.func 251) #[] #[])),(D.i 3,D.val (.func (.func 252) #[] #[])),(D.i 4,D.val (.func (.func 253) #[] #[])),(D.i 5,D.val (.func (.func 255) #[] #[])),(D.i 8,D.val (.func (.func 256) #[] #[])),(D.i 32,D.val (.func (.func 257) #[] #[])),(D.i 35,D.val (.func (.func 258) #[] #[]))]) | false=>(match Nat.beq g 0 with | true=>some (entsD D.i D.i glob0) | false=>none))
abbrev Wl (p:Prop):WL:=⟨p,seatG⟩
theorem ok {wl:Prop} {f:FuncId} (fn:Func) {args:List AV} {objs:List OB} {res:AV} {objs':List OB}
    (hf : Tryz.prog.funcs[f]? = some fn) (hn : (fn.name == "runtime.NumGoroutine") = false) (h : funK (mcx (Wl wl) Tryz.prog tt keep inlf 0 objs.length) fn args objs fun r o => r = res ∧ o = objs') : CallsOK (Wl wl) Tryz.prog f args objs res objs' :=
  fn_ok tabOk (by kernel_rfl) keep inlf 0 hf hn h
theorem okx {wl:Prop} {f:FuncId} (ex:Nat) (fn:Func) {args:List AV} {objs:List OB} {res:AV} {objs':List OB}
    (hf : Tryz.prog.funcs[f]? = some fn) (hn : (fn.name == "runtime.NumGoroutine") = false) (h : funK (mcx (Wl wl) Tryz.prog tt keep inlf ex objs.length) fn args objs fun r o => r = res ∧ o = objs') : CallsOK (Wl wl) Tryz.prog f args objs res objs' :=
  fn_ok tabOk (by kernel_rfl) keep inlf ex hf hn h
theorem inl {wl:Prop} {f:FuncId} (fn:Func) (np:Nat) {args:List AV} {ob:List (Option OB)} {K:AV→List (Option OB)→Prop}
    (hf : Tryz.prog.funcs[f]? = some fn) (hn : (fn.name == "runtime.NumGoroutine") = false) (h : funI (mcx (Wl wl) Tryz.prog tt keep inlf 0 np) fn args ob K) : InlOK (Wl wl) Tryz.prog f args ob K :=
  inl_ok tabOk (by kernel_rfl) keep inlf np hf hn h
abbrev X:AV:=.dead
abbrev N:Option OB:=none
def dd:Nat→List AV→List AV
  | 0,l=>l
  | n + 1,l=>.dead::dd n l
def nn:Nat→List (Option OB)→List (Option OB)
  | 0,l=>l
  | n + 1,l=>none::nn n l
end Go.AX.Q33
end
section
namespace Go.AX.Q33
open Go Go.AX Go.Proofs Go.Proofs.YtdljbnbckcecdaaGreatDoor
set_option maxRecDepth 100000
def fnOf (n:Int):FuncId:=if n=1 then 250 else if n=2 then 251 else if n=3 then 252 else if n=4 then 253 else if n=5 then 255 else if n=8 then 256 else if n=32 then 257 else 258
def D2f {H:Type}:Lit×DataW H→D×D
 | (.int k n,.lit (.int k' m))=>(.val (.int k n),.val (.int k' m))
 | _=>(D.i 0,D.i 0)
def D2r {H:Type}:Lit×DataW H→D×D
 | (.int k n,_)=>(.val (.int k n),.val (.func (.func (fnOf n)) #[] #[]))
 | _=>(D.i 0,D.i 0)
theorem glob_ok {W:World} {p:Prop} (h:laidMetH Tryz.prog Rows.restartRecordsRow.laid W) :∃gb:Nat→Prop,(Wl p).gf gb W∧∀b,gb b→b < W.heap.size:=by
 obtain ⟨h1,_⟩:=laidMetH_iff.1 h
 have e1 : (Rows.restartRecordsRow.laid.filter fun x => x.2.handleName?.isNone) = [("exchangepoint/attribute.flags", Rows.laid_exchangepoint_attribute_flags)] := by kernel_rfl
 rw [e1] at h1
 obtain ⟨ps,⟨g0,t0,cs0,f0,p0,q0,hg0,ht0,hv0,hd0,_⟩,_,_⟩:=h1
 obtain rfl := Option.some.inj ((show Tryz.prog.globalNamed "exchangepoint/attribute.flags" = some 0 by kernel_rfl).symm.trans hg0)
 obtain rfl:=Option.some.inj ((show (Tryz.prog.globals[0]?).map (·.type)=some 276 by kernel_rfl).symm.trans ht0)
 obtain ⟨b0,a0,c0,hc0,hb0,hp0,ho0⟩:=map_read (kd:=.i64) Tryz.underlying276 Tryz.underlying3 hd0 D2f (fun n v d m q hm hv hf=>by
  obtain ⟨j,h1,h2,_⟩:=DataW.trod_int Tryz.underlying3 hv
  simp only [Prod.mk.injEq] at h2
  obtain ⟨rfl,_⟩:=h2
  have hv:v=.int .i64 j:=by
   unfold Value.formed at hf
   rw [Tryz.underlying3] at hf
   cases v<;>simp_all [Value.cells]
  subst hv
  exact ⟨rfl,rfl⟩)
 obtain ⟨g1, t1, cs1, f1, p1, hg1, ht1, hv1, hd1⟩ := h.funcs (n := "exchangepoint/attribute.readers") (List.mem_cons_of_mem _ (List.mem_singleton.2 rfl))
 obtain rfl := Option.some.inj ((show Tryz.prog.globalNamed "exchangepoint/attribute.readers" = some 1 by kernel_rfl).symm.trans hg1)
 obtain rfl:=Option.some.inj ((show (Tryz.prog.globals[1]?).map (·.type)=some 281 by kernel_rfl).symm.trans ht1)
 have hd1:DataW.trod (funcToken Tryz.prog) Tryz.prog W 0 (fun _=>true) true f1 281 cs1.toList=some (.map [(.int .i64 1,.held [101,120,99,104,97,110,103,101,112,111,105,110,116,47,97,116,116,114,105,98,117,116,101,46,114,101,97,100,79,114,105,103,105,110]),(.int .i64 2,.held [101,120,99,104,97,110,103,101,112,111,105,110,116,47,97,116,116,114,105,98,117,116,101,46,114,101,97,100,80,97,116,104]),(.int .i64 3,.held [101,120,99,104,97,110,103,101,112,111,105,110,116,47,97,116,116,114,105,98,117,116,101,46,114,101,97,100,78,101,120,116]),(.int .i64 4,.held [101,120,99,104,97,110,103,101,112,111,105,110,116,47,97,116,116,114,105,98,117,116,101,46,114,101,97,100,101,114,115,36,49]),(.int .i64 5,.held [101,120,99,104,97,110,103,101,112,111,105,110,116,47,97,116,116,114,105,98,117,116,101,46,114,101,97,100,101,114,115,36,50]),(.int .i64 8,.held [101,120,99,104,97,110,103,101,112,111,105,110,116,47,97,116,116,114,105,98,117,116,101,46,114,101,97,100,67,111,109,109,117,110,105,116,105,101,115]),(.int .i64 32,.held [101,120,99,104,97,110,103,101,112,111,105,110,116,47,97,116,116,114,105,98,117,116,101,46,114,101,97,100,76,97,114,103,101]),(.int .i64 35,.held [101,120,99,104,97,110,103,101,112,111,105,110,116,47,97,116,116,114,105,98,117,116,101,46,114,101,97,100,101,114,115,36,51])],p1):=hd1
 obtain ⟨b1,a1,c1,hc1,hb1,hp1,ho1⟩:=map_read (kd:=.i64) Tryz.underlying281 Tryz.underlying3 hd1 D2r (fun n v d m q hm hv hf=>by
  have hv1:v.cells.toList=[v]:=by
   unfold Value.formed at hf
   rw [Tryz.underlying279] at hf
   cases v<;>simp_all [Value.cells]
  rw [hv1] at hv
  simp only [List.mem_cons,List.not_mem_nil,or_false,Prod.mk.injEq,Lit.int.injEq,true_and] at hm
  rcases hm with ⟨rfl,rfl⟩ | ⟨rfl,rfl⟩ | ⟨rfl,rfl⟩ | ⟨rfl,rfl⟩ | ⟨rfl,rfl⟩ | ⟨rfl,rfl⟩ | ⟨rfl,rfl⟩ | ⟨rfl,rfl⟩
  ·obtain rfl:=func_of_trod (f0:=250) Tryz.underlying279 (by kernel_rfl) hv
   exact ⟨rfl,rfl⟩
  ·obtain rfl:=func_of_trod (f0:=251) Tryz.underlying279 (by kernel_rfl) hv
   exact ⟨rfl,rfl⟩
  ·obtain rfl:=func_of_trod (f0:=252) Tryz.underlying279 (by kernel_rfl) hv
   exact ⟨rfl,rfl⟩
  ·obtain rfl:=func_of_trod (f0:=253) Tryz.underlying279 (by kernel_rfl) hv
   exact ⟨rfl,rfl⟩
  ·obtain rfl:=func_of_trod (f0:=255) Tryz.underlying279 (by kernel_rfl) hv
   exact ⟨rfl,rfl⟩
  ·obtain rfl:=func_of_trod (f0:=256) Tryz.underlying279 (by kernel_rfl) hv
   exact ⟨rfl,rfl⟩
  ·obtain rfl:=func_of_trod (f0:=257) Tryz.underlying279 (by kernel_rfl) hv
   exact ⟨rfl,rfl⟩
  ·obtain rfl:=func_of_trod (f0:=258) Tryz.underlying279 (by kernel_rfl) hv
   exact ⟨rfl,rfl⟩)
 have cell :∀{g:Nat} {n:String} {cs:Array Value} {v:Value},Tryz.prog.globalNamed n=some g→W.var? Tryz.prog n=some cs→cs.toList=[v]→cellAt W g 0=some v∧g < W.heap.size:=by
  intro g n cs v hg hv hc
  have h1:=World.var?_cell hg hv 0
  rw [Array.eq_one_of_toList hc] at h1
  have h1:W.cell? ⟨g,0,none⟩=some v:=by simpa using h1
  refine ⟨h1,?_⟩
  unfold World.var? at hv
  rw [hg,Option.bind_some] at hv
  cases hh:W.heap[g]? with
  | none=>rw [hh] at hv;cases hv
  | some o=>exact (Array.getElem?_eq_some_iff.1 hh).1
 obtain ⟨k0,s0⟩:=cell hg0 hv0 hc0
 obtain ⟨k1,s1⟩:=cell hg1 hv1 hc1
 refine ⟨fun b=>b=0 ∨ b=1 ∨ b=b0 ∨ b=b1,fun g es hg=>?_,fun b hb=>?_⟩
 rotate_left
 ·rcases hb with rfl | rfl | rfl | rfl
  ·exact s0
  ·exact s1
  ·exact (Array.getElem?_eq_some_iff.1 hb0).1
  ·exact (Array.getElem?_eq_some_iff.1 hb1).1
 match g,hg with
 | 0,hg=>
  obtain rfl:entsD D.i D.i glob0=es:=Option.some.inj hg
  refine ⟨.inl rfl,b0,a0,c0,_,.inr (.inr (.inl rfl)),k0,hb0,fun tk x q hq=>?_,entsOK_of ho0⟩
  refine mapGet_perm (l:=entsD D.i D.i glob0) (hp0.symm) ?_ (by unfold glob0 entsD;simp [D.i]) hq
  intro q hq
  obtain ⟨z,_,rfl⟩:=List.mem_map.1 hq
  exact ⟨_,rfl⟩
 | 1,hg=>
  obtain rfl:=Option.some.inj hg
  refine ⟨.inr (.inl rfl),b1,a1,c1,_,.inr (.inr (.inr rfl)),k1,hb1,fun tk x q hq=>?_,entsOK_of ho1⟩
  refine mapGet_perm (hp1.symm) ?_ (by simp [D2r]) hq
  intro q hq
  obtain ⟨z,hz,rfl⟩:=List.mem_map.1 hq
  simp only [List.mem_cons,List.not_mem_nil,or_false] at hz
  rcases hz with rfl | rfl | rfl | rfl | rfl | rfl | rfl | rfl<;>exact ⟨_,rfl⟩
 | g + 2,hg=>cases hg
end Go.AX.Q33
end
section
namespace Go.AX
class Tt {ρ:Type} (m:Option ρ):Prop where
 h :∃r,m=some r
def Ok {ρ:Type} (m:Option ρ) (Q:ρ→Prop):Prop:=∃r,m=some r∧Q r
theorem Ok.ret {ρ:Type} {Q:ρ→Prop} {r:ρ} (h:Q r):Ok (some r) Q:=⟨r,rfl,h⟩
theorem Ok.of {ρ:Type} {m:Option ρ} [t:Tt m]:Ok m fun r=>m=some r:=by
 obtain ⟨r,h⟩:=t.h
 exact ⟨r,h,h⟩
theorem Ok.imp {ρ:Type} {m:Option ρ} {P Q:ρ→Prop} (h:Ok m P) (k :∀r,P r→Q r):Ok m Q:=by
 obtain ⟨r,h1,h2⟩:=h
 exact ⟨r,h1,k r h2⟩
theorem Ok.tt {ρ:Type} {m:Option ρ} {Q:ρ→Prop} (h:Ok m Q):Tt m:=by
 obtain ⟨r,h1,_⟩:=h
 exact ⟨r,h1⟩
theorem Ok.bind {α ρ:Type} {m:Option α} {f:α→Option ρ} {P:α→Prop} {Q:ρ→Prop} (h:Ok m P) (k :∀a,P a→Ok (f a) Q):Ok (Option.bind m f) Q:=by
 obtain ⟨a,h1,h2⟩:=h
 rw [h1]
 exact k a h2
theorem Ok.join {τ ρ:Type} {m:(τ→Option ρ)→Option ρ} {k:τ→Option ρ} {Q:ρ→Prop} (J:τ→Prop) (h1 :∀k',(∀v,J v→Ok (k' v) Q)→Ok (m k') Q) (h2 :∀v,J v→Ok (k v) Q):Ok (joinP m k) Q:=h1 k h2
theorem Ok.forX {α σ ρ:Type} {done:σ→Option ρ} {body:(σ→Option ρ)→α→Nat→σ→Option ρ} {Q:ρ→Prop} {l:List α} {s0:σ} (I:Nat→σ→Prop) (h0:I 0 s0) (hd :∀s,I l.length s→Ok (done s) Q)
  (hs :∀(next:σ→Option ρ) x i s,l[i]?=some x→I i s→(∀s',I (i + 1) s'→Ok (next s') Q)→Ok (body next x i s) Q):Ok (forR done body l 0 s0) Q:=by
 have key :∀(t:List α) (i:Nat) (s:σ),(∃p,l=p ++ t∧p.length=i)→I i s→Ok (forR done body t i s) Q:=by
  intro t
  induction t with
  | nil=>intro i s ⟨p,hp,hl⟩ hi;exact hd s (by rw [hp];simpa [hl] using hi)
  | cons x t ih=>
   intro i s ⟨p,hp,hl⟩ hi
   exact hs _ x i s (by rw [hp,← hl];simp) hi fun s' h'=>ih (i + 1) s' ⟨p ++ [x],by simp [hp],by simp [hl]⟩ h'
 exact key l 0 s0 ⟨[],rfl,rfl⟩ h0
theorem Ok.forI {α σ ρ:Type} {done:σ→Option ρ} {body:(σ→Option ρ)→α→Nat→σ→Option ρ} {Q:ρ→Prop} {l:List α} {s0:σ} (I:Nat→σ→Prop) (h0:I 0 s0) (hd :∀s,I l.length s→Ok (done s) Q)
  (hs :∀(next:σ→Option ρ) x i s,i < l.length→x ∈ l→I i s→(∀s',I (i + 1) s'→Ok (next s') Q)→Ok (body next x i s) Q):Ok (forR done body l 0 s0) Q:=
 .forX I h0 hd fun n x i s hx=>hs n x i s (List.getElem?_eq_some_iff.1 hx).1 (List.mem_of_getElem? hx)
theorem Ok.for_ {α σ ρ:Type} {done:σ→Option ρ} {body:(σ→Option ρ)→α→Nat→σ→Option ρ} {Q:ρ→Prop} {l:List α} {s0:σ} (hd :∀s,Ok (done s) Q)
  (hs :∀(next:σ→Option ρ) x i s,i < l.length→x ∈ l→(∀s',Ok (next s') Q)→Ok (body next x i s) Q):Ok (forR done body l 0 s0) Q:=
 .forI (fun _ _=>True) trivial (fun s _=>hd s) fun n x i s h1 h2 _ h3=>hs n x i s h1 h2 fun s'=>h3 s' trivial
theorem Ok.whileI {σ ρ:Type} {body:(σ→Option ρ)→σ→Option ρ} {n:Nat} {s:σ} {Q:ρ→Prop} (I:σ→Prop) (μ:σ→Nat) (h0:I s) (hm:μ s < n)
  (hs :∀(next:σ→Option ρ) s,I s→(∀s',I s'→μ s' < μ s→Ok (next s') Q)→Ok (body next s) Q):Ok (whileR body n s) Q:=
 whileR_ex I μ Q (fun next s h k=>hs next s h k) n s h0 hm
theorem Ok.ite {ρ:Type} {p:Prop} [Decidable p] {x y:Option ρ} {Q:ρ→Prop} (h1:p→Ok x Q) (h2:¬ p→Ok y Q):Ok (if p then x else y) Q:=by
 split
 ·exact h1 ‹_›
 ·exact h2 ‹_›
theorem Ok.geti {α:Type} {l:List α} {i:Int} (h:0 ≤ i∧i < l.length):Ok (geti l i) fun x=>x ∈ l∧geti l i=some x:=by
 have h2:i.toNat < l.length:=by omega
 have h3:Go.AX.geti l i=some l[i.toNat]:=by
  unfold Go.AX.geti
  rw [if_pos h]
  simp [h2]
 exact ⟨_,h3,List.getElem_mem h2,h3⟩
theorem Ok.seti {α:Type} {l:List α} {i:Int} {x:α} (h:0 ≤ i∧i < l.length):Ok (seti l i x) fun l'=>l'=l.set i.toNat x∧l'.length=l.length:=by
 refine ⟨_,?_,rfl,by simp⟩
 unfold Go.AX.seti
 rw [if_pos h]
theorem Ok.apnd {α:Type} {b:Nat} {l m:List α} (hb:Nat.ble b 65536=true) (h:l.length + m.length ≤ 1000000000):Ok (apnd b l m) fun l'=>l'=l ++ m:=⟨_,apnd_some hb h,rfl⟩
theorem Ok.apndB {α:Type} {b:Nat} {l m:List α} (hb:0 < b) (h:(l.length + m.length) * b ≤ 140737488355328):Ok (Go.AX.apnd b l m) fun l2=>l2=l ++ m:=⟨_,apnd_big hb h,rfl⟩
theorem Ok.part {α:Type} {l:List α} {a b:Int} (h:0 ≤ a∧a ≤ b∧b ≤ l.length):Ok (part l a b) fun l'=>l'=(l.drop a.toNat).take (b.toNat - a.toNat)∧(l'.length:Int)=b - a:=by
 refine ⟨_,?_,rfl,by simp;omega⟩
 unfold Go.AX.part
 rw [if_pos h]
theorem Ok.chk {p:Prop} [Decidable p] (h:p):Ok (chk p) fun _=>True:=by
 refine ⟨(),?_,trivial⟩
 unfold Go.AX.chk
 rw [if_pos h]
theorem Tt.auto {ρ:Type} {m:Option ρ} (h:Ok m fun _=>True:=by
  repeat' (first
   | exact Ok.ret trivial
   | assumption
   | (refine Ok.bind Ok.of ?_;intros)
   | (refine Ok.ite ?_ ?_<;>intros)
   | (refine Ok.join (fun _=>True) ?_ ?_<;>intros)
   | (refine Ok.for_ ?_ ?_<;>intros)
   | (refine Ok.bind (Ok.geti ?_) ?_<;>intros)
   | (refine Ok.bind (Ok.chk ?_) ?_<;>intros)
   | exact ‹∀v,True→Ok _ _› _ trivial
   | exact ‹∀v,Ok _ _› _
   | solve_by_elim
   | (constructor<;>first | omega | (simp_all;done) | (simp_all;omega))
   | omega
   | decide)):Tt m:=h.tt
theorem Ok.q {ρ:Type} {m:Option ρ} {Q:ρ→Prop} (h:Ok m Q:=by
  repeat' (first
   | assumption
   | refine Ok.ret ?_
   | exact trivial
   | (refine Ok.bind Ok.of ?_;intros)
   | (refine Ok.ite ?_ ?_<;>intros)
   | (refine Ok.bind (Ok.chk ?_) ?_<;>intros)
   | (refine Ok.bind (Ok.geti ?_) ?_<;>intros)
   | (refine Ok.bind (Ok.seti ?_) ?_<;>intros)
   | (refine Ok.bind (Ok.apnd (by decide) ?_) ?_<;>intros)
   | refine ‹∀v,_→_→Ok _ _› _ ?_ ?_
   | refine ‹∀v,_→Ok _ _› _ ?_
   | exact ‹∀v,Ok _ _› _
   | (refine Ok.join (τ:=Bool) (fun _=>True) ?_ ?_<;>intros)
   | (refine Ok.join (τ:=Unit) (fun _=>True) ?_ ?_<;>intros)
   | omega
   | solve_by_elim
   | (simp_all;done)
   | (simp_all;omega)
   | (simp only [List.length_append,List.length_cons,List.length_nil,List.length_set,decide_eq_true_eq,beq_iff_eq,bne_iff_ne,Bool.not_eq_true'] at *;(try subst_vars);(try simp only [List.length_append,List.length_cons,List.length_nil]);omega))):Ok m Q:=h
theorem Ok.pos {ρ:Type} {Q:ρ→Prop} {n:Nat} {g:(Bool→Option ρ)→Int→Option ρ} {k:Int→Option ρ} (hn:n ≤ 1000000000)
  (hg :∀(k':Bool→Option ρ) (v:Int),0 ≤ v→v ≤ n→(∀c,(c=true→v < n)→Ok (k' c) Q)→Ok (g k' v) Q) (hk :∀v:Int,0 ≤ v→v ≤ n→Ok (k v) Q) :
  Ok (joinP (fun k1=>whileR (fun next v=>joinP (fun k2=>g k2 v) (fun c=>if c=true then next (i64w (v + 1)) else k1 v)) fuel 0) k) Q:=by
 refine .join (fun v:Int=>0 ≤ v∧v ≤ n) (fun k1 hk1=>?_) fun v hv=>hk v hv.1 hv.2
 refine .whileI (fun v:Int=>0 ≤ v∧v ≤ n) (fun v=>(n - v).toNat) (by omega) (lt_fuel (by omega)) fun next v hv hnx=>?_
 refine .join (fun c=>c=true→v < n) (fun k2 hk2=>hg k2 v hv.1 hv.2 hk2) fun c hc=>.ite (fun h=>?_) fun _=>hk1 v hv
 have:=hc h
 rw [i64w_id (by omega)]
 exact hnx _ (by omega) (by omega)
end Go.AX
end
section
namespace Go.AX
theorem idxR {α:Type} {f:α→Option Bool} {q:α→Bool} :∀{l:List α} {i:Nat},(∀x ∈ l,f x=some (q x))→
  forR (fun _=>some (-1)) (fun next x i _=>Option.bind (f x) fun v=>if v then some (i:Int) else next ()) l i ()=some (match l.findIdx? q with | some j=>((i + j:Nat):Int) | none=>-1)
 | [],_,_=>rfl
 | x::t,i,h=>by
  show Option.bind (f x) (fun v=>if v then some (i:Int) else forR (fun _=>some (-1)) _ t (i + 1) ())=_
  rw [h x (by simp),some_bind',List.findIdx?_cons]
  by_cases hq:q x=true
  ·rw [if_pos hq,if_pos hq];simp
  ·rw [if_neg hq,if_neg hq,idxR fun y hy=>h y (List.mem_cons_of_mem _ hy)]
   cases t.findIdx? q with
   | none=>rfl
   | some j=>simp only [Option.map_some];rw [show i + 1 + j=i + (j + 1) by omega]
theorem contR {α:Type} {f:α→Option Bool} {q:α→Bool} {l:List α} (h :∀x ∈ l,f x=some (q x)) :
  (Option.bind (joinP (τ:=Unit) (fun k1=>forR (fun _=>k1 ()) (fun next x i _=>Option.bind (f x) fun v=>if v then some (i:Int) else next ()) l 0 ()) fun _=>some (-1)) fun v1=>some (decide (v1 ≥ 0)))=some (l.any q):=by
 rw [joinP_def,idxR h,some_bind']
 congr 1
 cases hf:l.findIdx? q with
 | none=>
  have:l.any q=false:=by
   rw [List.findIdx?_eq_none_iff] at hf
   simp only [List.any_eq_false]
   intro x hx
   simp [hf x hx]
  rw [this];rfl
 | some j=>
  have h1:=List.findIdx?_eq_some_iff_getElem.1 hf
  obtain ⟨hj,hq,_⟩:=h1
  have:l.any q=true:=List.any_eq_true.2 ⟨_,List.getElem_mem hj,hq⟩
  rw [this]
  simp
theorem ba_eq_of_beq {a b:ByteArray} (h:(a == b)=true):a=b:=(Go.MapKept.bytes_beq a b).1 h
theorem ba_rfl {a:ByteArray}:(a == a)=true:=(Go.MapKept.bytes_beq a a).2 rfl
instance:LawfulBEq ByteArray:={ eq_of_beq:=ba_eq_of_beq,rfl:=ba_rfl }
section
variable {K V:Type} [BEq K] [LawfulBEq K]
theorem mget_mset (l:List (K×V)) (k:K) (v:V) (k':K):mget (mset l k v) k'=if k' == k then some v else mget l k':=by
 induction l with
 | nil=>
  unfold mset
  simp only [mget]
 | cons p l ih=>
  unfold mset
  by_cases hp:(k == p.1)=true
  ·rw [if_pos hp]
   have:=eq_of_beq hp
   simp only [mget]
   by_cases hk:(k' == k)=true
   ·rw [if_pos hk,if_pos hk]
   ·rw [if_neg hk,if_neg hk,if_neg (by rw [← this];exact hk)]
  ·rw [if_neg hp]
   simp only [mget,ih]
   by_cases hk:(k' == k)=true
   ·have:=eq_of_beq hk
    subst this
    rw [if_neg hp,if_pos hk,if_pos hk]
   ·rw [if_neg hk,if_neg hk]
end
theorem takeWhile_len_le {α:Type} (p:α→Bool) (l:List α):(l.takeWhile p).length ≤ l.length:=(List.takeWhile_prefix p).length_le
theorem takeWhile_at {α:Type} {p:α→Bool} :∀{l:List α} {k:Nat} (hk:k < l.length),k ≤ (l.takeWhile p).length→(k < (l.takeWhile p).length ↔ p l[k]=true)
 | [],_,hk,_=>by simp at hk
 | x::t,k,hk,h=>by
  rw [List.takeWhile_cons] at h ⊢
  by_cases hp:p x=true
  ·rw [if_pos hp] at h ⊢
   cases k with
   | zero=>simp [hp]
   | succ k=>simpa using takeWhile_at (p:=p) (l:=t) (k:=k) (by simpa using hk) (by simpa using h)
  ·rw [if_neg hp] at h ⊢
   have:k=0:=by simpa using h
   subst this
   simp [hp]
theorem posR {α ρ:Type} {l:List α} {p:α→Bool} (g:α→(Bool→Option ρ)→Option ρ) {K:Int→Option ρ} (hl:l.length ≤ 1000000000000) (hg :∀x ∈ l,∀k,g x k=k (p x)) :
  joinP (fun k1=>whileR (fun next v=>joinP (fun k2=>if decide (v < (l.length:Int)) then Option.bind (geti l v) fun x=>g x k2 else k2 false) (fun c=>if c=true then next (i64w (v + 1)) else k1 v)) fuel 0) K=K ((l.takeWhile p).length:Int):=by
 have ht:=takeWhile_len_le p l
 rw [joinP_def,whileR_eq (fun v:Int=>0 ≤ v∧v ≤ ((l.takeWhile p).length:Int)) (fun v=>(l.length - v).toNat) (fun _=>K ((l.takeWhile p).length:Int)) ?_ fuel 0 (by omega) (lt_fuel (by omega))]
 intro next v hv hn
 obtain ⟨k,rfl⟩ :∃k:Nat,v=k:=⟨v.toNat,by omega⟩
 rw [joinP_def]
 by_cases hk:k < l.length
 ·rw [if_pos (by simpa using hk),geti_nat hk,some_bind',hg _ (List.getElem_mem hk)]
  have h:=takeWhile_at (p:=p) hk (by omega)
  by_cases hp:p l[k]=true
  ·rw [if_pos hp,i64w_id (by omega)]
   have:=h.2 hp
   exact hn _ (by omega) (by omega)
  ·rw [if_neg hp]
   have:¬ k < (l.takeWhile p).length:=fun q=>hp (h.1 q)
   have:k=(l.takeWhile p).length:=by omega
   rw [this]
 ·rw [if_neg (by simpa using hk)]
  have:k=(l.takeWhile p).length:=by omega
  subst this
  rfl
theorem nodup_len {α:Type} [DecidableEq α] :∀{l m:List α},l.Nodup→(∀x ∈ l,x ∈ m)→l.length ≤ m.length
 | [],_,_,_=>Nat.zero_le _
 | x::t,m,h,hs=>by
  obtain ⟨h1,h2⟩:=List.nodup_cons.1 h
  have hx:=hs x (by simp)
  have:=nodup_len (m:=m.erase x) h2 fun y hy=>(List.mem_erase_of_ne (fun e=>h1 (by rw [← e];exact hy))).2 (hs y (List.mem_cons_of_mem _ hy))
  rw [List.length_erase_of_mem hx] at this
  have:0 < m.length:=List.length_pos_of_mem hx
  simp only [List.length_cons]
  omega
theorem sorted_ext {α:Type} {lt:α→α→Prop} (hirr :∀a,¬ lt a a) (htr :∀a b c,lt a b→lt b c→lt a c) :∀{l m:List α},l.Pairwise lt→m.Pairwise lt→(∀x,x ∈ l ↔ x ∈ m)→l=m
 | [],[],_,_,_=>rfl
 | [],y::m,_,_,h=>by have:=(h y).2 (by simp);simp at this
 | x::l,[],_,_,h=>by have:=(h x).1 (by simp);simp at this
 | x::l,y::m,h1,h2,h=>by
  obtain ⟨a1,a2⟩:=List.pairwise_cons.1 h1
  obtain ⟨b1,b2⟩:=List.pairwise_cons.1 h2
  have hxy:x=y:=by
   rcases List.mem_cons.1 ((h x).1 (by simp)) with e | e
   ·exact e
   ·rcases List.mem_cons.1 ((h y).2 (by simp)) with e' | e'
    ·exact e'.symm
    ·exact absurd (htr _ _ _ (a1 y e') (b1 x e)) (hirr x)
  subst hxy
  congr 1
  refine sorted_ext hirr htr a2 b2 fun z=>?_
  constructor
  ·intro hz
   rcases List.mem_cons.1 ((h z).1 (List.mem_cons_of_mem _ hz)) with e | e
   ·subst e;exact absurd (a1 z hz) (hirr z)
   ·exact e
  ·intro hz
   rcases List.mem_cons.1 ((h z).2 (List.mem_cons_of_mem _ hz)) with e | e
   ·subst e;exact absurd (b1 z hz) (hirr z)
   ·exact e
def insS {α:Type} (lt:α→α→Bool) (l:List α) (x:α):List α:=l.takeWhile (lt · x) ++ x::l.dropWhile (lt · x)
theorem insS_mem {α:Type} {lt:α→α→Bool} {l:List α} {x y:α}:y ∈ insS lt l x ↔ y ∈ l ∨ y=x:=by
 unfold insS
 have:y ∈ l ↔ y ∈ l.takeWhile (lt · x) ∨ y ∈ l.dropWhile (lt · x):=by
  rw [← List.mem_append,List.takeWhile_append_dropWhile]
 rw [this,List.mem_append,List.mem_cons]
 constructor
 ·rintro (h | h | h)
  ·exact .inl (.inl h)
  ·exact .inr h
  ·exact .inl (.inr h)
 ·rintro ((h | h) | h)
  ·exact .inl h
  ·exact .inr (.inr h)
  ·exact .inr (.inl h)
theorem insS_len {α:Type} (lt:α→α→Bool) (l:List α) (x:α):(insS lt l x).length=l.length + 1:=by
 unfold insS
 have:=congrArg List.length (List.takeWhile_append_dropWhile (p:=(lt · x)) (l:=l))
 simp only [List.length_append,List.length_cons] at this ⊢
 omega
theorem takeWhile_all {α:Type} (p:α→Bool) {l:List α} {x:α} (h:x ∈ l.takeWhile p):p x=true:=by
 induction l with
 | nil=>simp at h
 | cons y t ih=>
  rw [List.takeWhile_cons] at h
  split at h
  ·rcases List.mem_cons.1 h with rfl | h
   ·assumption
   ·exact ih h
  ·simp at h
theorem insS_sorted {α:Type} {lt:α→α→Bool} (htr :∀a b c,lt a b=true→lt b c=true→lt a c=true) (htot :∀a b,lt a b=false→a=b ∨ lt b a=true) {l:List α} {x:α} (h:l.Pairwise fun a b=>lt a b=true) (hx:x ∉ l) :
  (insS lt l x).Pairwise fun a b=>lt a b=true:=by
 have h0:=h
 rw [← List.takeWhile_append_dropWhile (p:=(lt · x)) (l:=l),List.pairwise_append] at h
 obtain ⟨h1,h2,h3⟩:=h
 have hd :∀b ∈ l.dropWhile (lt · x),lt x b=true:=by
  cases hl:l.dropWhile (lt · x) with
  | nil=>intro b hb;simp at hb
  | cons y t=>
   have hy:lt y x=false:=by
    have:=List.head?_dropWhile_not (lt · x) l
    rw [hl] at this
    simpa using this
   have hyl:y ∈ l:=by
    have:y ∈ l.dropWhile (lt · x):=by rw [hl];simp
    exact List.dropWhile_subset _ this
   have hxy:lt x y=true:=by
    rcases htot _ _ hy with e | e
    ·subst e;exact absurd hyl hx
    ·exact e
   rw [hl] at h2
   intro b hb
   rcases List.mem_cons.1 hb with rfl | hb
   ·exact hxy
   ·exact htr _ _ _ hxy ((List.pairwise_cons.1 h2).1 b hb)
 unfold insS
 rw [List.pairwise_append]
 refine ⟨h1,List.pairwise_cons.2 ⟨hd,h2⟩,fun a ha b hb=>?_⟩
 rcases List.mem_cons.1 hb with e | hb
 ·rw [e];exact takeWhile_all (lt · x) ha
 ·exact h3 a ha b hb
theorem takeWhile_take {α:Type} (p:α→Bool) (l:List α):l.take (l.takeWhile p).length=l.takeWhile p∧l.drop (l.takeWhile p).length=l.dropWhile p:=by
 have h:=List.takeWhile_append_dropWhile (p:=p) (l:=l)
 constructor
 ·conv=>lhs;arg 2;rw [← h]
  rw [List.take_left']
  rfl
 ·conv=>lhs;arg 2;rw [← h]
  rw [List.drop_left']
  rfl
end Go.AX
end
section
namespace Go.AX
set_option maxRecDepth 8000
def cmpI (a b:Int):Int:=if a < b then -1 else if b < a then 1 else 0
def orI:List Int→Int
 | []=>0
 | x::t=>if x=0 then orI t else x
def lexC:List Int→List Int→Int
 | x::s,y::t=>if x < y then -1 else if y < x then 1 else lexC s t
 | _,_=>0
theorem orI_cons (x:Int) (t:List Int):orI (x::t)=if x=0 then orI t else x:=rfl
theorem orI_cmp (x y:Int) (t:List Int):orI (cmpI x y::t)=if x < y then -1 else if y < x then 1 else orI t:=by
 rw [orI_cons]
 unfold cmpI
 split
 ·rfl
 ·split<;>simp
theorem lexC_cons (x y:Int) (s t:List Int):lexC (x::s) (y::t)=if x < y then -1 else if y < x then 1 else lexC s t:=rfl
theorem lexC_self :∀a:List Int,lexC a a=0
 | []=>rfl
 | x::t=>by unfold lexC;simp [lexC_self t]
theorem lexC_zero :∀{a b:List Int},a.length=b.length→lexC a b=0→a=b
 | [],[],_,_=>rfl
 | [],_::_,h,_=>by simp at h
 | _::_,[],h,_=>by simp at h
 | x::s,y::t,h,e=>by
  unfold lexC at e
  split at e
  ·simp at e
  ·split at e
   ·simp at e
   ·rw [lexC_zero (by simpa using h) e,show x=y by omega]
theorem lexC_neg :∀a b:List Int,lexC b a=- lexC a b
 | [],[]=>rfl
 | [],_::_=>rfl
 | _::_,[]=>rfl
 | x::s,y::t=>by
  unfold lexC
  have:=lexC_neg s t
  split<;>split<;>first | omega | (split<;>omega)
theorem lexC_tr :∀{a b c:List Int},a.length=b.length→b.length=c.length→lexC a b < 0→lexC b c < 0→lexC a c < 0
 | [],_,_,_,_,h,_=>by simp [lexC] at h
 | _::_,[],_,h,_,_,_=>by simp at h
 | _::_,_::_,[],_,h,_,_=>by simp at h
 | x::s,y::t,z::u,h1,h2,h3,h4=>by
  have ih:=@lexC_tr s t u (by simpa using h1) (by simpa using h2)
  unfold lexC at h3 h4 ⊢
  by_cases a1:x < y
  ·by_cases a2:y < z
   ·rw [if_pos (by omega)];omega
   ·rw [if_neg a2] at h4
    by_cases a3:z < y
    ·rw [if_pos a3] at h4;omega
    ·rw [if_pos (by omega)];omega
  ·rw [if_neg a1] at h3
   by_cases a4:y < x
   ·rw [if_pos a4] at h3;omega
   ·rw [if_neg a4] at h3
    have:x=y:=by omega
    subst this
    by_cases a2:x < z
    ·rw [if_pos a2];omega
    ·rw [if_neg a2] at h4 ⊢
     by_cases a3:z < x
     ·rw [if_pos a3] at h4;omega
     ·rw [if_neg a3] at h4 ⊢
      exact ih h3 h4
section
variable {X:Type} {key:X→List Int}
def ltK (key:X→List Int) (a b:X):Bool:=decide (lexC (key a) (key b) < 0)
theorem ltK_irr (a:X):ltK key a a=false:=by unfold ltK;rw [lexC_self];rfl
theorem ltK_tr (hl :∀a b:X,(key a).length=(key b).length) (a b c:X) (h1:ltK key a b=true) (h2:ltK key b c=true):ltK key a c=true:=by
 unfold ltK at *
 simp only [decide_eq_true_eq] at *
 exact lexC_tr (hl _ _) (hl _ _) h1 h2
theorem ltK_tot (hl :∀a b:X,(key a).length=(key b).length) (a b:X) (h:ltK key a b=false):key a=key b ∨ ltK key b a=true:=by
 unfold ltK at *
 simp only [decide_eq_false_iff_not,decide_eq_true_eq] at *
 have:=lexC_neg (key a) (key b)
 by_cases h0:lexC (key a) (key b)=0
 ·exact .inl (lexC_zero (hl _ _) h0)
 ·exact .inr (by omega)
theorem ltK_asym (hl :∀a b:X,(key a).length=(key b).length) (a b:X) (h:ltK key a b=true):ltK key b a=false:=by
 cases h1:ltK key b a
 ·rfl
 ·have:=ltK_tr hl _ _ _ h h1
  rw [ltK_irr] at this;simp at this
theorem ltK_neg (hl :∀a b:X,(key a).length=(key b).length) (a b c:X) (h1:ltK key a b=false) (h2:ltK key b c=false):ltK key a c=false:=by
 rcases ltK_tot hl _ _ h1 with e | h1
 ·unfold ltK at *;rw [e];exact h2
 ·rcases ltK_tot hl _ _ h2 with e | h2
  ·refine ltK_asym hl _ _ ?_
   unfold ltK at *;rw [← e];exact h1
  ·exact ltK_asym hl _ _ (ltK_tr hl _ _ _ h2 h1)
variable {cmp:X→X→Option Int}
theorem ltC_K (hc :∀a b,cmp a b=some (lexC (key a) (key b))) (a b:X):ltC cmp a b=ltK key a b:=by unfold ltC;rw [hc];rfl
theorem sortF_K (hl :∀a b:X,(key a).length=(key b).length) (hc :∀a b,cmp a b=some (lexC (key a) (key b))) {l:List X} (hn:l.length ≤ 1000000000) :
  Ok (sortF cmp l) fun r=>r.Perm l∧r.Pairwise fun a b=>ltK key b a=false:=by
 obtain ⟨r,hr⟩:=sortF_some (cmp:=cmp) (l:=l) (swoB_of (fun a _ b _=>⟨_,hc a b⟩) (fun a _=>by rw [ltC_K hc,ltK_irr])
  (fun a _ b _ c _ h1 h2=>by rw [ltC_K hc] at *;exact ltK_tr hl _ _ _ h1 h2) (fun a _ b _ c _ h1 h2=>by rw [ltC_K hc] at *;exact ltK_neg hl _ _ _ h1 h2) hn)
 obtain ⟨h1,h2⟩:=sortF_spec hr
 exact ⟨r,hr,h1,h2.imp fun h=>by rw [ltC_K hc] at h;exact h⟩
theorem strict_of {l:List X} (hl :∀a b:X,(key a).length=(key b).length) (h1:l.Pairwise fun a b=>ltK key b a=false) (h2:l.Pairwise fun a b=>key a ≠ key b):l.Pairwise fun a b=>ltK key a b=true:=
 (h1.and h2).imp fun {a b} h=>(ltK_tot hl b a h.1).resolve_left fun e=>h.2 e.symm
theorem ltK_ext (hl :∀a b:X,(key a).length=(key b).length) {l m:List X} (h1:l.Pairwise fun a b=>ltK key a b=true) (h2:m.Pairwise fun a b=>ltK key a b=true) (h :∀x,x ∈ l ↔ x ∈ m):l=m:=
 sorted_ext (lt:=fun a b=>ltK key a b=true) (fun a h=>by rw [ltK_irr] at h;simp at h) (fun a b c=>ltK_tr hl a b c) h1 h2 h
end
theorem ins_here {α:Type} {lt:α→α→Bool} (htr :∀a b c,lt a b=true→lt b c=true→lt a c=true) (hirr :∀a,lt a a=false) {l:List α} {x:α} (hs:l.Pairwise fun a b=>lt a b=true) :
  x ∈ l ↔ l[(l.takeWhile (lt · x)).length]?=some x:=by
 constructor
 ·intro hx
  rw [← List.takeWhile_append_dropWhile (p:=(lt · x)) (l:=l),List.mem_append] at hx
  rcases hx with hx | hx
  ·have:=takeWhile_all (lt · x) hx
   rw [hirr] at this
   simp at this
  ·have h2:=(takeWhile_take (lt · x) l).2
   cases hd:l.dropWhile (lt · x) with
   | nil=>rw [hd] at hx;simp at hx
   | cons y t=>
    have hy:lt y x=false:=by
     have:=List.head?_dropWhile_not (lt · x) l
     rw [hd] at this
     simpa using this
    have hp:(y::t).Pairwise fun a b=>lt a b=true:=by
     rw [← hd]
     exact hs.sublist (List.dropWhile_sublist _)
    rw [hd] at hx
    have hxy:x=y:=by
     rcases List.mem_cons.1 hx with e | e
     ·exact e
     ·have:=(List.pairwise_cons.1 hp).1 x e
      rw [hy] at this;simp at this
    have h3:(l.drop (l.takeWhile (lt · x)).length)[0]?=some x:=by rw [h2,hd,hxy];rfl
    rw [List.getElem?_drop] at h3
    simpa using h3
 ·intro h
  exact List.mem_of_getElem? h
def compactP {α:Type} (e:α→α→Bool) (z:α) (a0:List α):Option (List α):=
 if (decide ((a0.length:Int) < 2)) then
  some a0
 else
  joinP (τ:=Unit) (fun k1=>
   whileR (σ:=Int) (fun next2 v3=>
    if (decide (v3 < (a0.length:Int))) then
     joinP (τ:=Unit) (fun k4=>
      Option.bind (geti a0 v3) fun v5=>
      Option.bind (geti a0 (i64w (v3 - 1))) fun v6=>
      if (e v5 v6) then
       Option.bind (chk (0 ≤ v3∧v3 ≤ (a0.length:Int)∧(a0.length:Int) ≤ (a0.length:Int))) fun _=>
       joinP (τ:=Int×(List α)) (fun k7=>
        whileR (σ:=Int×Int×(List α)) (fun next8 (v9,v10,v11)=>
         if (decide (v10 < (((Int.toNat (a0.length:Int) - Int.toNat v3):Nat):Int))) then
          Option.bind (geti (List.take (Int.toNat (a0.length:Int) - Int.toNat v3) (List.drop (Int.toNat v3) v11)) v10) fun v12=>
          Option.bind (geti (List.take (Int.toNat (a0.length:Int) - Int.toNat v3) (List.drop (Int.toNat v3) v11)) (i64w (v10 - 1))) fun v13=>
          joinP (τ:=Int×(List α)) (fun k14=>
           if (!(e v12 v13)) then
            Option.bind (geti (List.take (Int.toNat (a0.length:Int) - Int.toNat v3) (List.drop (Int.toNat v3) v11)) v10) fun v15=>
            Option.bind (geti v11 v9) fun v16=>
            Option.bind (seti v11 v9 v15) fun v17=>
            k14 ((i64w (v9 + 1)),v17)
           else
            k14 (v9,v11)
          ) fun (v18,v19)=>
          next8 (v18,(i64w (v10 + 1)),v19)
         else
          k7 (v9,v11)
        ) fuel (v3,1,a0)
       ) fun (v20,v21)=>
       Option.bind (chk (0 ≤ v20∧v20 ≤ (v21.length:Int)∧(v21.length:Int) ≤ (v21.length:Int))) fun _=>
       Option.bind (part (List.take (Int.toNat v20) v21 ++ List.replicate (Int.toNat (v21.length:Int) - Int.toNat v20) z ++ List.drop ((Int.toNat v20) + (Int.toNat (v21.length:Int) - Int.toNat v20)) v21) 0 v20) fun v22=>
       some v22
      else
       k4 ()
     ) fun _=>
     next2 (i64w (v3 + 1))
    else
     k1 ()
   ) fuel 1
  ) fun _=>
  some a0
theorem geti_of {α:Type} {l:List α} {i:Int} {x:α} (h0:0 ≤ i) (h:l[i.toNat]?=some x):geti l i=some x:=by
 have:=(List.getElem?_eq_some_iff.1 h).1
 unfold geti
 rw [if_pos (by omega),h]
theorem set_take {α:Type} {l:List α} {i:Nat} {x:α} (h:i < l.length):(l.set i x).take (i + 1)=l.take i ++ [x]:=by
 rw [List.take_add_one,List.take_set_of_le (Nat.le_refl _),List.getElem?_set_self h]
 rfl
section
variable {α:Type} {lt:α→α→Bool} (hirr :∀a,lt a a=false) (htr :∀a b c,lt a b=true→lt b c=true→lt a c=true) (htot :∀a b,lt a b=false→a=b ∨ lt b a=true)
include htr htot
theorem cp_new {p q:List α} {y z:α} (hp:p.Pairwise fun a b=>lt a b=true) (hm :∀x,x ∈ p ↔ x ∈ q) (hq :∀x ∈ q,lt z x=false) (hyz:lt y z=false) (hne:y ≠ z) :
  (p ++ [y]).Pairwise (fun a b=>lt a b=true)∧∀x,x ∈ p ++ [y] ↔ x ∈ q ++ [y]:=by
 refine ⟨List.pairwise_append.2 ⟨hp,by simp,fun x hx w hw=>?_⟩,fun x=>by rw [List.mem_append,List.mem_append,hm]⟩
 rw [List.mem_singleton] at hw
 subst hw
 have h1:=hq x ((hm x).1 hx)
 have h2:lt z w=true:=(htot _ _ hyz).resolve_left hne
 rcases htot _ _ h1 with e | e
 ·rw [← e];exact h2
 ·exact htr _ _ _ e h2
include hirr
theorem compactP_ok {e:α→α→Bool} {zz:α} (he :∀a b,e a b=true ↔ a=b) {l:List α} (hs:l.Pairwise fun a b=>lt b a=false) (hl:l.length ≤ 1000000000) :
  Ok (compactP e zz l) fun c=>c.Pairwise (fun a b=>lt a b=true)∧(∀x,x ∈ c ↔ x ∈ l):=by
 have hprev :∀(k:Nat) (z:α),l[k]?=some z→∀x ∈ l.take (k + 1),lt z x=false:=by
  intro k z hk x hx
  obtain ⟨i,hi,rfl⟩:=List.mem_iff_getElem.1 hx
  rw [List.length_take] at hi
  obtain ⟨hk1,rfl⟩:=List.getElem?_eq_some_iff.1 hk
  rw [List.getElem_take]
  by_cases e:i=k
  ·subst e;exact hirr _
  ·exact List.pairwise_iff_getElem.1 hs i k (by omega) hk1 (by omega)
 have hnext :∀(k:Nat) (z y:α),l[k]?=some z→l[k + 1]?=some y→lt y z=false:=by
  intro k z y hk hy
  obtain ⟨hk1,rfl⟩:=List.getElem?_eq_some_iff.1 hk
  obtain ⟨hk2,rfl⟩:=List.getElem?_eq_some_iff.1 hy
  exact List.pairwise_iff_getElem.1 hs k (k + 1) hk1 hk2 (by omega)
 have htk :∀(k:Nat) (y:α),l[k]?=some y→l.take (k + 1)=l.take k ++ [y]:=by
  intro k y hk
  rw [List.take_add_one,hk];rfl
 have hmem :∀(k:Nat) (z:α),l[k]?=some z→z ∈ l.take (k + 1):=by
  intro k z hk;rw [htk k z hk];simp
 unfold compactP
 refine .ite (fun h=>?_) fun h=>?_
 ·simp only [decide_eq_true_eq] at h
  refine .ret ⟨?_,fun _=>Iff.rfl⟩
  match l,h with
  | [],_=>exact .nil
  | [x],_=>simp
  | x::y::t,h=>simp at h;omega
 simp only [decide_eq_true_eq] at h
 refine .join (fun _=>l.Pairwise fun a b=>lt a b=true) (fun k1 hk1=>?_) fun _ h=>.ret ⟨h,fun _=>Iff.rfl⟩
 refine .whileI (fun v:Int=>1 ≤ v∧v ≤ l.length∧(l.take v.toNat).Pairwise fun a b=>lt a b=true) (fun v=>(l.length - v).toNat) ⟨by omega,by omega,?_⟩ (lt_fuel (by omega)) fun next v hv hnx=>?_
 ·match l,h with
  | x::t,_=>simp
  | [],h=>simp at h
 obtain ⟨v1,v2,v3⟩:=hv
 refine .ite (fun hlt=>?_) fun hge=>?_
 rotate_left
 ·simp only [decide_eq_true_eq] at hge
  refine hk1 () ?_
  have:v.toNat=l.length:=by omega
  rw [this,List.take_length] at v3
  exact v3
 simp only [decide_eq_true_eq] at hlt
 obtain ⟨n,rfl⟩ :∃n:Nat,v=((n + 1:Nat):Int):=⟨(v - 1).toNat,by omega⟩
 have hn:n + 1 < l.length:=by omega
 have gy:l[n + 1]?=some l[n + 1]:=List.getElem?_eq_getElem hn
 have gz:l[n]?=some l[n]:=List.getElem?_eq_getElem (by omega)
 have e1:geti l ((n + 1:Nat):Int)=some l[n + 1]:=geti_nat hn
 have e2:geti l (i64w (((n + 1:Nat):Int) - 1))=some l[n]:=by
  rw [i64w_id (by omega),show ((n + 1:Nat):Int) - 1=(n:Int) by omega]
  exact geti_nat (by omega)
 refine .join (fun _=>l[n + 1] ≠ l[n]) (fun k4 hk4=>?_) fun _ hne=>?_
 rotate_left
 ·rw [i64w_id (by omega)]
  refine hnx _ ⟨by omega,by omega,?_⟩ (by omega)
  have:=(cp_new htr htot (p:=l.take (n + 1)) (q:=l.take (n + 1)) v3 (fun _=>Iff.rfl) (hprev n _ gz) (hnext n _ _ gz gy) hne).1
  rw [← htk _ _ gy] at this
  have e:(((n + 1:Nat):Int) + 1).toNat=n + 1 + 1:=by omega
  rw [e];exact this
 rw [e1,some_bind',e2,some_bind']
 refine .ite (fun heq=>?_) fun hne=>hk4 _ fun e=>hne ((he _ _).2 e)
 have heq:=(he _ _).1 heq
 refine .bind (Ok.chk (by omega)) fun _ _=>?_
 refine .join (fun p:Int×List α=>0 ≤ p.1∧p.1 ≤ l.length∧p.2.length=l.length∧(p.2.take p.1.toNat).Pairwise (fun a b=>lt a b=true)∧∀x,x ∈ p.2.take p.1.toNat ↔ x ∈ l) (fun k7 hk7=>?_) ?_
 ·refine .whileI (fun p:Int×Int×List α=>0 ≤ p.1∧1 ≤ p.2.1∧p.1 ≤ (n + 1:Nat) + p.2.1 - 1∧(n + 1:Nat) + p.2.1 ≤ l.length∧p.2.2.length=l.length∧(∀j:Nat,p.1 ≤ j→p.2.2[j]?=l[j]?)∧
    (p.2.2.take p.1.toNat).Pairwise (fun a b=>lt a b=true)∧∀x,x ∈ p.2.2.take p.1.toNat ↔ x ∈ l.take ((n + 1:Nat) + p.2.1).toNat) (fun p=>(l.length - p.2.1).toNat) ⟨by dsimp only;omega,by dsimp only;omega,by dsimp only;omega,by dsimp only;omega,rfl,fun _ _=>rfl,v3,fun x=>?_⟩ (lt_fuel (by dsimp only;omega)) ?_
  ·dsimp only
   have e:(((n + 1:Nat):Int) + 1).toNat=n + 1 + 1:=by omega
   rw [e,htk _ _ gy,Int.toNat_natCast]
   constructor
   ·exact fun h=>List.mem_append_left _ h
   ·intro h
    rcases List.mem_append.1 h with h | h
    ·exact h
    ·rw [List.mem_singleton] at h
     rw [h,heq];exact hmem n _ gz
  rintro next ⟨i,k,a⟩ ⟨q1,q2,q3,q4,q5,q6,q7,q8⟩ hnx2
  dsimp only at q1 q2 q3 q4 q5 q6 q7 q8 ⊢
  refine .ite (fun hk=>?_) fun hk=>?_
  rotate_left
  ·simp only [decide_eq_true_eq] at hk
   refine hk7 (i,a) ⟨q1,by dsimp only;omega,q5,q7,fun x=>?_⟩
   dsimp only
   rw [q8 x,show ((n + 1:Nat) + k).toNat=l.length by omega,List.take_length]
  simp only [decide_eq_true_eq] at hk
  obtain ⟨m,rfl⟩ :∃m:Nat,k=((m + 1:Nat):Int):=⟨(k - 1).toNat,by omega⟩
  have hml:n + 1 + (m + 1) < l.length:=by omega
  have gy2:l[n + 1 + (m + 1)]?=some l[n + 1 + (m + 1)]:=List.getElem?_eq_getElem hml
  have gz2:l[n + 1 + m]?=some l[n + 1 + m]:=List.getElem?_eq_getElem (by omega)
  have ge :∀j:Nat,n + 1 + j < l.length→i ≤ ((n + 1 + j:Nat):Int)→∀y,l[n + 1 + j]?=some y→geti (List.take (Int.toNat (l.length:Int) - Int.toNat ((n + 1:Nat):Int)) (List.drop (Int.toNat ((n + 1:Nat):Int)) a)) (j:Int)=some y:=by
   intro j hj hij y hy
   refine geti_of (by omega) ?_
   rw [Int.toNat_natCast,Int.toNat_natCast,Int.toNat_natCast,List.getElem?_take_of_lt (by omega),List.getElem?_drop,q6 _ hij]
   exact hy
  have r1:=ge (m + 1) hml (by omega) _ gy2
  have r2:=ge m (by omega) (by omega) _ gz2
  rw [r1,some_bind',i64w_id (x:=((m + 1:Nat):Int) - 1) (by omega),show ((m + 1:Nat):Int) - 1=(m:Int) by omega,r2,some_bind']
  refine .join (fun p:Int×List α=>0 ≤ p.1∧p.1 ≤ (n + 1:Nat) + ((m + 1:Nat):Int)∧p.2.length=l.length∧(∀j:Nat,p.1 ≤ j→p.2[j]?=l[j]?)∧
    (p.2.take p.1.toNat).Pairwise (fun a b=>lt a b=true)∧∀x,x ∈ p.2.take p.1.toNat ↔ x ∈ l.take (n + 1 + (m + 1) + 1)) (fun k14 hk14=>?_) ?_
  ·have et:((n + 1:Nat) + ((m + 1:Nat):Int)).toNat=n + 1 + (m + 1):=by omega
   rw [et] at q8
   refine .ite (fun hne=>?_) fun heq2=>?_
   ·have hne:l[n + 1 + (m + 1)] ≠ l[n + 1 + m]:=fun e=>by rw [(he _ _).2 e] at hne;simp at hne
    rw [some_bind']
    have hia:i.toNat < a.length:=by omega
    refine .bind (Ok.geti (by omega)) fun _ _=>.bind (Ok.seti (by omega)) fun a' ha'=>hk14 _ ?_
    rw [i64w_id (by omega)]
    have ei:(i + 1).toNat=i.toNat + 1:=by omega
    have hc:=cp_new htr htot (y:=l[n + 1 + (m + 1)]) (z:=l[n + 1 + m]) q7 q8 (by rw [show n + 1 + (m + 1)=n + 1 + m + 1 by omega];exact hprev _ _ gz2) (hnext _ _ _ gz2 gy2) hne
    refine ⟨by dsimp only;omega,by dsimp only;omega,ha'.2.trans q5,fun j hj=>?_,?_,?_⟩
    ·dsimp only at hj ⊢
     rw [ha'.1,List.getElem?_set_ne (by omega)]
     exact q6 j (by omega)
    ·dsimp only
     rw [ei,ha'.1,set_take hia]
     exact hc.1
    ·dsimp only
     rw [ei,ha'.1,set_take hia,htk _ _ gy2]
     exact hc.2
   ·have heq2:l[n + 1 + (m + 1)]=l[n + 1 + m]:=by
     refine (he _ _).1 ?_
     cases h:e l[n + 1 + (m + 1)] l[n + 1 + m]
     ·rw [h] at heq2;simp at heq2
     ·rfl
    refine hk14 _ ⟨q1,by dsimp only;omega,q5,q6,q7,fun x=>?_⟩
    dsimp only
    rw [q8 x,htk _ _ gy2]
    constructor
    ·exact fun h=>List.mem_append_left _ h
    ·intro h
     rcases List.mem_append.1 h with h | h
     ·exact h
     ·rw [List.mem_singleton] at h
      rw [h,heq2];exact hmem _ _ gz2
  ·rintro ⟨i',a'⟩ ⟨p1,p2,p3,p4,p5,p6⟩
   dsimp only at p1 p2 p3 p4 p5 p6 ⊢
   rw [i64w_id (by omega)]
   refine hnx2 _ ⟨p1,by dsimp only;omega,by dsimp only;omega,by dsimp only;omega,p3,p4,p5,fun x=>?_⟩ (by dsimp only;omega)
   dsimp only
   rw [p6 x,show ((n + 1:Nat) + (((m + 1:Nat):Int) + 1)).toNat=n + 1 + (m + 1) + 1 by omega]
 ·rintro ⟨i,a⟩ ⟨p1,p2,p3,p4,p5⟩
  dsimp only at p1 p2 p3 p4 p5 ⊢
  refine .bind (Ok.chk (by omega)) fun _ _=>.bind (Ok.part ⟨by omega,by omega,by simp;omega⟩) fun c hc=>.ret ?_
  have:c=a.take i.toNat:=by
   rw [hc.1]
   simp only [Int.toNat_zero,List.drop_zero,Nat.sub_zero]
   rw [List.append_assoc,List.take_append_of_le_length (by simp;omega),List.take_take,Nat.min_self]
  rw [this]
  exact ⟨p4,p5⟩
end
theorem sortI_tot {l:List Int} (hl:l.length ≤ 1000000000):Ok (sortI l) fun r=>r.Perm l∧r.Pairwise fun a b=>decide (b < a)=false:=by
 unfold sortI
 rw [if_pos (by omega)]
 refine .ret ⟨List.mergeSort_perm _ _,?_⟩
 refine (List.pairwise_mergeSort (le:=fun x y:Int=>decide (x ≤ y)) (fun a b c h1 h2=>by simp only [decide_eq_true_eq] at *;omega) (fun a b=>by simp only [Bool.or_eq_true,decide_eq_true_eq];omega) l).imp fun {a b} h=>?_
 simp only [decide_eq_true_eq,decide_eq_false_iff_not] at *
 omega
end Go.AX
end
section
namespace Go.AX
def Po {ρ:Type} (m:Option ρ) (Q:ρ→Prop):Prop:=∀r,m=some r→Q r
theorem Po.ret {ρ:Type} {Q:ρ→Prop} {r:ρ} (h:Q r):Po (some r) Q:=fun _ e=>Option.some.inj e ▸ h
theorem Po.imp {ρ:Type} {m:Option ρ} {P Q:ρ→Prop} (h:Po m P) (k :∀r,P r→Q r):Po m Q:=fun r e=>k r (h r e)
theorem Po.bind {α ρ:Type} {m:Option α} {f:α→Option ρ} {Q:ρ→Prop} (k :∀a,m=some a→Po (f a) Q):Po (Option.bind m f) Q:=by
 intro r e
 cases hm:m with
 | none=>rw [hm] at e;cases e
 | some a=>rw [hm] at e;exact k a hm r e
theorem Po.join {τ ρ:Type} {m:(τ→Option ρ)→Option ρ} {k:τ→Option ρ} {Q:ρ→Prop} (J:τ→Prop) (h1 :∀k',(∀v,J v→Po (k' v) Q)→Po (m k') Q) (h2 :∀v,J v→Po (k v) Q):Po (joinP m k) Q:=h1 k h2
theorem Po.ite {ρ:Type} {p:Prop} [Decidable p] {x y:Option ρ} {Q:ρ→Prop} (h1:p→Po x Q) (h2:¬ p→Po y Q):Po (if p then x else y) Q:=by
 split
 ·exact h1 ‹_›
 ·exact h2 ‹_›
theorem Po.forX {α σ ρ:Type} {done:σ→Option ρ} {body:(σ→Option ρ)→α→Nat→σ→Option ρ} {Q:ρ→Prop} {l:List α} {s0:σ} (I:Nat→σ→Prop) (h0:I 0 s0) (hd :∀s,I l.length s→Po (done s) Q)
  (hs :∀(next:σ→Option ρ) x i s,l[i]?=some x→I i s→(∀s',I (i + 1) s'→Po (next s') Q)→Po (body next x i s) Q):Po (forR done body l 0 s0) Q:=by
 have key :∀(t:List α) (i:Nat) (s:σ),(∃p,l=p ++ t∧p.length=i)→I i s→Po (forR done body t i s) Q:=by
  intro t
  induction t with
  | nil=>intro i s ⟨p,hp,hl⟩ hi;exact hd s (by rw [hp];simpa [hl] using hi)
  | cons x t ih=>
   intro i s ⟨p,hp,hl⟩ hi
   exact hs _ x i s (by rw [hp,← hl];simp) hi fun s' h'=>ih (i + 1) s' ⟨p ++ [x],by simp [hp],by simp [hl]⟩ h'
 exact key l 0 s0 ⟨[],rfl,rfl⟩ h0
theorem Po.for_ {α σ ρ:Type} {done:σ→Option ρ} {body:(σ→Option ρ)→α→Nat→σ→Option ρ} {Q:ρ→Prop} {l:List α} {s0:σ} (I:σ→Prop) (h0:I s0) (hd :∀s,I s→Po (done s) Q)
  (hs :∀(next:σ→Option ρ) x i s,x ∈ l→I s→(∀s',I s'→Po (next s') Q)→Po (body next x i s) Q):Po (forR done body l 0 s0) Q:=
 .forX (fun _=>I) h0 hd fun n x i s hx=>hs n x i s (List.mem_of_getElem? hx)
theorem Po.apnd {α:Type} {b:Nat} {l m:List α}:Po (Go.AX.apnd b l m) fun r=>r=l ++ m:=by
 intro r e
 unfold Go.AX.apnd at e
 split at e
 ·exact (Option.some.inj e).symm
 ·cases e
theorem Po.geti {α:Type} {l:List α} {i:Int}:Po (Go.AX.geti l i) fun x=>0 ≤ i∧l[i.toNat]?=some x:=by
 intro r e
 unfold Go.AX.geti at e
 split at e
 ·rename_i h
  exact ⟨h.1,e⟩
 ·cases e
theorem Po.seti {α:Type} {l:List α} {i:Int} {x:α}:Po (Go.AX.seti l i x) fun r=>0 ≤ i∧i.toNat < l.length∧r=l.set i.toNat x:=by
 intro r e
 unfold Go.AX.seti at e
 split at e
 ·rename_i h
  exact ⟨h.1,by omega,(Option.some.inj e).symm⟩
 ·cases e
theorem Po.part {α:Type} {l:List α} {a b:Int}:Po (Go.AX.part l a b) fun r=>r=(l.drop a.toNat).take (b.toNat - a.toNat):=by
 intro r e
 unfold Go.AX.part at e
 split at e
 ·exact (Option.some.inj e).symm
 ·cases e
theorem Ok.and {ρ:Type} {m:Option ρ} {P Q:ρ→Prop} (h:Ok m P) (k:Po m Q):Ok m fun r=>P r∧Q r:=by
 obtain ⟨r,h1,h2⟩:=h
 exact ⟨r,h1,h2,k r h1⟩
theorem Ok.po {ρ:Type} {m:Option ρ} {P:ρ→Prop} (h:Ok m P):Po m P:=by
 obtain ⟨r,h1,h2⟩:=h
 intro q e
 rw [h1] at e
 exact Option.some.inj e ▸ h2
theorem Po.sel {τ ρ:Type} {m:(τ→Option ρ)→Option ρ} {k:τ→Option ρ} {Q:ρ→Prop} (h1 :∀k',(∀v,Po (k' v) Q)→Po (m k') Q) (h2 :∀v,Po (k v) Q):Po (joinP m k) Q:=h1 k h2
end Go.AX
end
section
namespace Go.AX.Q33
open Go Go.AX
set_option maxRecDepth 8000
def fl (t:Int):Int:=if t=1 then 64 else if t=2 then 64 else if t=3 then 64 else if t=4 then 128 else if t=5 then 64 else if t=8 then 192 else if t=32 then 192 else if t=35 then 192 else 0
def unk (t:Int):Bool:=decide (fl t=0) && (decide (t ≠ 14) && decide (t ≠ 15))
theorem mget_fl (t:Int):(mget glob0 t).getD 0=fl t:=by
 unfold glob0 fl
 simp only [mget,beq_iff_eq]
 repeat' (split;· rfl)
 rfl
theorem fl_cases (t:Int):(t=1∧fl t=64) ∨ (t=2∧fl t=64) ∨ (t=3∧fl t=64) ∨ (t=4∧fl t=128) ∨ (t=5∧fl t=64) ∨ (t=8∧fl t=192) ∨ (t=32∧fl t=192) ∨ (t=35∧fl t=192) ∨
  (t ≠ 1∧t ≠ 2∧t ≠ 3∧t ≠ 4∧t ≠ 5∧t ≠ 8∧t ≠ 32∧t ≠ 35∧fl t=0):=by
 unfold fl
 by_cases h1:t=1<;>by_cases h2:t=2<;>by_cases h3:t=3<;>by_cases h4:t=4<;>by_cases h5:t=5<;>by_cases h6:t=8<;>by_cases h7:t=32<;>by_cases h8:t=35<;>first | (exfalso;omega) | simp [h1,h2,h3,h4,h5,h6,h7,h8]
theorem unk_if (t:Int) (k:Bool→Option Bool):(if (fl t == 0)=true then if (cond true (t != 14) false)=true then k (cond true (t != 15) false) else k false else k false)=k (unk t):=by
 have e1:(t != 14)=!decide (t=14):=rfl
 have e2:(t != 15)=!decide (t=15):=rfl
 unfold unk
 rw [e1,e2]
 by_cases h1:fl t=0<;>by_cases h2:t=14<;>by_cases h3:t=15<;>simp [h1,h2,h3]
theorem attribute_unknown_eq (t:Int):attribute_unknown t=some (unk t):=by
 unfold attribute_unknown
 rw [joinP_def,mget_fl,some_bind']
 exact unk_if t some
theorem within_eq (a b c:Int):attribute_within a b c=some (decide (b ≤ a) && decide (a ≤ c)):=by
 unfold attribute_within
 rw [joinP_def]
 by_cases h:b ≤ a
 ·rw [if_pos (by simpa using h),decide_eq_true h];rfl
 ·rw [if_neg (by simpa using h),decide_eq_false h];rfl
theorem number_eq (a:Int):aspath_Number a=some (decide (1 ≤ a) && decide (a ≤ 4294967295)):=by
 unfold aspath_Number
 rw [joinP_def]
 by_cases h:1 ≤ a
 ·rw [if_pos (by simpa using h),decide_eq_true h];rfl
 ·rw [if_neg (by simpa using h),decide_eq_false h];rfl
def bt (x m:Int):Int:=i64w ((BitVec.ofInt 64 x &&& BitVec.ofInt 64 m).toNat:Int)
theorem i64w_congr {n m:Int} (h:n % (2 ^ 64:Int)=m % (2 ^ 64:Int)):i64w n=i64w m:=
 congrArg (fun q:Int=>if (IntKind.i64.signed && decide (q ≥ (2 ^ (IntKind.i64.bits - 1):Int)))=true then q - (2 ^ IntKind.i64.bits:Int) else q) h
theorem i64w_bv (b:BitVec 64):i64w (b.toNat:Int)=b.toInt:=by
 have h:=b.isLt
 have h1:=BitVec.toInt_eq_toNat_cond b
 have p1:(2:Int) ^ 64=18446744073709551616:=by decide
 have p2:((2 ^ 64:Nat):Int)=18446744073709551616:=by decide
 have p3:(2:Nat) ^ 64=18446744073709551616:=by decide
 rw [p2] at h1
 rw [p3] at h h1
 have h2:-9223372036854775808 ≤ b.toInt∧b.toInt ≤ 9223372036854775807:=by
  rw [h1];split<;>omega
 rw [i64w_congr (m:=b.toInt) (by rw [p1,h1];split<;>omega),i64w_id h2]
theorem ofInt_i64w_bv (b:BitVec 64):BitVec.ofInt 64 (i64w (b.toNat:Int))=b:=by
 rw [i64w_bv,BitVec.ofInt_toInt]
theorem right_bits {f m:Int} (hf:f=64 ∨ f=128 ∨ f=192):(i64w ((BitVec.ofInt 64 (i64w ((BitVec.ofInt 64 m ^^^ BitVec.ofInt 64 f).toNat:Int)) &&& BitVec.ofInt 64 192).toNat:Int) == 0)=(bt m 192 == f):=by
 unfold bt
 rw [ofInt_i64w_bv,i64w_bv,i64w_bv,Bool.eq_iff_iff,beq_iff_eq,beq_iff_eq]
 have h0:(0:Int)=(0#64).toInt:=by decide
 have h1:f=(BitVec.ofInt 64 f &&& BitVec.ofInt 64 192).toInt:=by rcases hf with rfl | rfl | rfl<;>decide
 have hx:(BitVec.ofInt 64 m ^^^ BitVec.ofInt 64 f) &&& BitVec.ofInt 64 192=(BitVec.ofInt 64 m &&& BitVec.ofInt 64 192) ^^^ (BitVec.ofInt 64 f &&& BitVec.ofInt 64 192):=by
  apply BitVec.eq_of_getLsbD_eq
  intro i _
  simp only [BitVec.getLsbD_and,BitVec.getLsbD_xor]
  generalize (BitVec.ofInt 64 m).getLsbD i=x
  generalize (BitVec.ofInt 64 f).getLsbD i=y
  generalize (BitVec.ofInt 64 192).getLsbD i=z
  cases x<;>cases y<;>cases z<;>rfl
 rw [hx]
 conv=>rhs;rhs;rw [h1]
 rw [h0,BitVec.toInt_inj,BitVec.toInt_inj,BitVec.xor_eq_zero_iff]
def rightB (x:Unknown):Bool:=bt x.Flags 192 == fl x.Type_ && (fl x.Type_ == 192 || bt x.Flags 32 == 0)
theorem attribute_right_eq (x:Unknown) (h:fl x.Type_ ≠ 0):attribute_right x=some (rightB x):=by
 have hf:fl x.Type_=64 ∨ fl x.Type_=128 ∨ fl x.Type_=192:=by
  rcases fl_cases x.Type_ with ⟨_,e⟩ | ⟨_,e⟩ | ⟨_,e⟩ | ⟨_,e⟩ | ⟨_,e⟩ | ⟨_,e⟩ | ⟨_,e⟩ | ⟨_,e⟩ | h'<;>first | (rw [e];simp;done) | exact absurd h'.2.2.2.2.2.2.2.2 h
 unfold attribute_right rightB
 rw [joinP_def,mget_fl]
 simp only [some_bind',right_bits hf]
 show (if (bt x.Flags 192 == fl x.Type_)=true then if (fl x.Type_ == 192)=true then some true else some (cond true (cond false true (bt x.Flags 32 == 0)) false) else some false)=_
 cases (bt x.Flags 192 == fl x.Type_)<;>cases (fl x.Type_ == 192)<;>rfl
def getB (b:List UInt8):Int:=b.foldl (fun n x=>i64w ((BitVec.ofInt 64 (i64w (n * (2 ^ (min (Int.toNat 8) 64)))) ||| BitVec.ofInt 64 (x.toNat:Int)).toNat:Int)) 0
theorem foldR {α σ ρ:Type} {K:σ→Option ρ} {g:σ→α→σ} :∀(l:List α) (i:Nat) (s:σ),forR K (fun next x _ s=>next (g s x)) l i s=K (l.foldl g s)
 | [],_,_=>rfl
 | x::t,i,s=>foldR t (i + 1) (g s x)
theorem attribute_get_eq (b:List UInt8):attribute_get b=some (getB b):=by
 unfold attribute_get
 rw [joinP_def]
 exact foldR (K:=some) b 0 0
def val (l:List UInt8):Nat:=l.foldl (fun m x=>m * 256 + x.toNat) 0
theorem val_snoc (l:List UInt8) (x:UInt8):val (l ++ [x])=val l * 256 + x.toNat:=by simp [val]
theorem val_lt :∀l:List UInt8,val l < 256 ^ l.length:=by
 intro l
 rw [← List.reverse_reverse l]
 generalize l.reverse=m
 induction m with
 | nil=>decide
 | cons x t ih=>
  rw [List.reverse_cons,val_snoc,List.length_append,List.length_singleton,Nat.pow_succ]
  have:=x.toNat_lt
  omega
theorem or_nat {u v:Nat} (hu:u < 36028797018963968) (hv:v < 256):i64w ((BitVec.ofInt 64 (i64w ((u:Int) * (2 ^ (min (Int.toNat 8) 64)))) ||| BitVec.ofInt 64 (v:Int)).toNat:Int)=((u * 256 + v:Nat):Int):=by
 have h1:((u:Int) * (2 ^ (min (Int.toNat 8) 64)))=((u * 256:Nat):Int):=by
  have:min (Int.toNat 8) 64=8:=rfl
  rw [this];omega
 rw [h1,i64w_id (x:=((u * 256:Nat):Int)) (by omega),BitVec.ofInt_natCast,BitVec.ofInt_natCast,BitVec.toNat_or,BitVec.toNat_ofNat,BitVec.toNat_ofNat,Nat.mod_eq_of_lt (show u * 256 < 2 ^ 64 by omega),Nat.mod_eq_of_lt (show v < 2 ^ 64 by omega),
  show u * 256=2 ^ 8 * u by omega,← Nat.two_pow_add_eq_or_of_lt (show v < 2 ^ 8 by omega)]
 rw [i64w_id (by omega)]
theorem getB_eq :∀{l:List UInt8},l.length ≤ 7→getB l=(val l:Int):=by
 intro l
 rw [← List.reverse_reverse l]
 generalize l.reverse=m
 induction m with
 | nil=>intro _;rfl
 | cons x t ih=>
  intro h
  rw [List.reverse_cons] at h ⊢
  simp only [List.length_append,List.length_reverse,List.length_singleton] at h
  unfold getB at ih ⊢
  rw [List.foldl_append,ih (by simp;omega)]
  have h1:=val_lt t.reverse
  have h2:256 ^ t.reverse.length ≤ 256 ^ 6:=Nat.pow_le_pow_right (by omega) (by simp;omega)
  show i64w _=_
  rw [or_nat (by omega) x.toNat_lt,val_snoc]
def nums:List UInt8→List Int
 | a::b::c::d::t=>getB [a,b,c,d]::nums t
 | _=>[]
theorem nums_cons (a b c d:UInt8) (t:List UInt8):nums (a::b::c::d::t)=getB [a,b,c,d]::nums t:=rfl
theorem nums_short :∀{l:List UInt8},l.length < 4→nums l=[]
 | [],_=>rfl
 | [_],_=>rfl
 | [_,_],_=>rfl
 | [_,_,_],_=>rfl
 | _::_::_::_::_,h=>by simp at h;omega
theorem four_of :∀{l:List UInt8},4 ≤ l.length→∃a b c d t,l=a::b::c::d::t
 | [],h=>by simp at h
 | [_],h=>by simp at h
 | [_,_],h=>by simp at h
 | [_,_,_],h=>by simp at h
 | a::b::c::d::t,_=>⟨a,b,c,d,t,rfl⟩
theorem nums_len :∀l:List UInt8,(nums l).length=l.length / 4
 | a::b::c::d::t=>by
  rw [nums_cons,List.length_cons,nums_len t]
  simp only [List.length_cons]
  omega
 | []=>rfl
 | [_]=>by simp [nums]
 | [_,_]=>by simp [nums]
 | [_,_,_]=>by simp [nums]
theorem nums_rng :∀(l:List UInt8),∀n ∈ nums l,0 ≤ n∧n ≤ 4294967295
 | a::b::c::d::t=>by
  rw [nums_cons]
  intro n hn
  rcases List.mem_cons.1 hn with h | h
  ·have h1:=val_lt [a,b,c,d]
   rw [h,getB_eq (by simp)]
   simp only [List.length_cons,List.length_nil] at h1
   omega
  ·exact nums_rng t n h
 | []=>by intro n h;simp [nums] at h
 | [_]=>by intro n h;simp [nums] at h
 | [_,_]=>by intro n h;simp [nums] at h
 | [_,_,_]=>by intro n h;simp [nums] at h
theorem attribute_numbers_eq {b:List UInt8} (hb:b.length ≤ 1000000000):attribute_numbers b=some (nums b):=by
 unfold attribute_numbers
 rw [joinP_def,whileR_eq (fun s:List UInt8×List Int=>s.1.length + 4 * s.2.length ≤ 1000000000) (fun s=>s.1.length) (fun s=>some (s.2 ++ nums s.1)) ?_ fuel (b,[]) (by simpa using hb) (lt_fuel (by simp only;omega))]
 ·rfl
 ·rintro next ⟨v,o⟩ h hn
  dsimp only at h ⊢
  by_cases h4:4 ≤ v.length
  ·obtain ⟨x,y,z,w,t,rfl⟩:=four_of h4
   simp only [List.length_cons] at h
   rw [if_pos (by simp only [List.length_cons,decide_eq_true_eq];omega)]
   have e1:part (x::y::z::w::t) 0 4=some [x,y,z,w]:=by
    rw [show (0:Int)=((0:Nat):Int) by rfl,show (4:Int)=((4:Nat):Int) by rfl,part_nat (by omega) (by simp)]
    rfl
   have e2:part (x::y::z::w::t) 4 ((x::y::z::w::t).length:Int)=some t:=by
    rw [show (4:Int)=((4:Nat):Int) by rfl,part_nat (by simp) (by simp)]
    simp
   rw [e1,some_bind',attribute_get_eq,some_bind',apnd_some (by decide) (by simp only [List.length_singleton];omega),some_bind',e2,some_bind',hn _ (by simp only [List.length_append,List.length_singleton];omega) (by simp only [List.length_cons];omega)]
   simp [nums_cons]
  ·rw [if_neg (by simp only [decide_eq_true_eq];omega),nums_short (by omega)]
   simp
end Go.AX.Q33
end
section
namespace Go.AX.Q33
open Go Go.AX
set_option maxRecDepth 8000
def ltI (a b:Int):Bool:=decide (a < b)
theorem ltI_irr (a:Int):ltI a a=false:=by simp [ltI]
theorem ltI_tr (a b c:Int) (h1:ltI a b=true) (h2:ltI b c=true):ltI a c=true:=by simp only [ltI,decide_eq_true_eq] at *;omega
theorem ltI_tot (a b:Int) (h:ltI a b=false):a=b ∨ ltI b a=true:=by simp only [ltI,decide_eq_true_eq,decide_eq_false_iff_not] at *;omega
def Asc (l r:List Int):Prop:=r.Pairwise (fun a b=>ltI a b=true)∧∀x,x ∈ r ↔ x ∈ l
theorem Asc.uniq {l r s:List Int} (h:Asc l r) (k:Asc l s):r=s:=
 sorted_ext (lt:=fun a b=>ltI a b=true) (fun a=>by simp [ltI_irr]) ltI_tr h.1 k.1 fun x=>(h.2 x).trans (k.2 x).symm
theorem ref18_sorted_tot {l:List Int} (hl:l.length ≤ 1000000):Ok (ref18_sorted l) (Asc l):=by
 unfold ref18_sorted
 refine .join (Asc l) (fun k hk=>?_) fun r hr=>.ret hr
 refine .forX (fun i v=>v.Pairwise (fun a b=>ltI a b=true)∧(∀x,x ∈ v ↔ x ∈ l.take i)∧v.length ≤ i) ⟨.nil,by simp,by simp⟩ (fun v hv=>hk v ⟨hv.1,by simpa using hv.2.1⟩) fun next x i v hx hI hn=>?_
 obtain ⟨i1,i2,i3⟩:=hI
 have hil:=(List.getElem?_eq_some_iff.1 hx).1
 have hmt :∀y,y ∈ l.take (i + 1) ↔ y ∈ l.take i ∨ y=x:=by
  intro y
  rw [List.take_add_one,hx]
  simp
 refine .join (fun v'=>v'.Pairwise (fun a b=>ltI a b=true)∧(∀x,x ∈ v' ↔ x ∈ l.take (i + 1))∧v'.length ≤ i + 1) (fun k6 hk6=>?_) fun v' h=>hn _ h
 have hpos:=takeWhile_len_le (ltI · x) v
 rw [posR (p:=(ltI · x)) (fun y k4=>k4 (cond true (decide (y < x)) false)) (by omega) (fun y _ k=>rfl)]
 have hh:=ins_here ltI_tr ltI_irr (x:=x) i1
 obtain ⟨t1,t2⟩:=takeWhile_take (ltI · x) v
 refine .join (fun c=>c=true ↔ x ∈ v) (fun k15 hk15=>?_) fun c hc=>.ite (fun h=>?_) fun h=>?_
 ·by_cases hk:(v.takeWhile (ltI · x)).length < v.length
  ·rw [if_pos (by simpa using hk),geti_nat hk,some_bind']
   refine hk15 _ ?_
   rw [hh,List.getElem?_eq_getElem hk]
   simp only [cond_true,beq_iff_eq,Option.some.injEq]
  ·rw [if_neg (by simpa using hk)]
   refine hk15 _ ?_
   rw [hh,List.getElem?_eq_none (by omega)]
   simp
 ·refine hk6 _ ⟨i1,fun y=>?_,by omega⟩
  rw [hmt,i2 y]
  refine ⟨.inl,fun q=>q.elim id fun e=>?_⟩
  rw [e];exact (i2 x).1 (hc.1 h)
 ·have hnx:x ∉ v:=fun q=>h (hc.2 q)
  simp only [Int.toNat_natCast,Int.toNat_zero,List.drop_zero,Nat.sub_zero]
  refine .bind (Ok.chk (by omega)) fun _ _=>.bind (Ok.apnd (by decide) (by simp;omega)) fun _ _=>.bind (Ok.apnd (by decide) (by simp;omega)) fun a ha=>.bind (Ok.chk (by omega)) fun _ _=>.bind (Ok.apnd (by decide) (by rw [ha];simp;omega)) fun b hb=>hk6 _ ?_
  have e:b=insS ltI v x:=by
   have e2:(List.drop (v.takeWhile (ltI · x)).length v).take (v.length - (v.takeWhile (ltI · x)).length)=v.dropWhile (ltI · x):=by
    rw [List.take_of_length_le (by simp),t2]
   rw [hb,ha,e2,t1]
   unfold insS
   simp
  rw [e]
  refine ⟨insS_sorted ltI_tr ltI_tot i1 hnx,fun y=>?_,by rw [insS_len];omega⟩
  rw [insS_mem,hmt,i2]
def srt (l:List Int):List Int:=(ref18_sorted l).getD []
theorem srt_asc {l:List Int} (hl:l.length ≤ 1000000):Asc l (srt l):=by
 obtain ⟨r,h,k⟩:=ref18_sorted_tot hl
 unfold srt;rw [h];exact k
theorem compact_int (l:List Int):slices_Compact_int_int l=compactP (fun a b=>a == b) 0 l:=rfl
theorem sortI_compact {l:List Int} {ρ:Type} {K:List Int→Option ρ} (hl:l.length ≤ 1000000):(Option.bind (sortI l) fun v=>Option.bind (slices_Compact_int_int v) K)=K (srt l):=by
 obtain ⟨r,h,h1,h2⟩:=sortI_tot (l:=l) (by omega)
 rw [h,some_bind',compact_int]
 obtain ⟨c,g,g1,g2⟩:=compactP_ok (lt:=ltI) (e:=fun a b:Int=>a == b) (zz:=0) ltI_irr ltI_tr ltI_tot (fun a b=>beq_iff_eq) (l:=r) h2 (by rw [h1.length_eq];omega)
 rw [g,some_bind',Asc.uniq (l:=l) ⟨g1,fun x=>(g2 x).trans h1.mem_iff⟩ (srt_asc hl)]
def addSeg (p:List Segment) (set:Bool) (l:List Int):List Segment:=
 if set then p ++ [⟨true,srt l⟩] else match p.getLast? with
  | some s=>if s.Set then p ++ [⟨false,l⟩] else p.dropLast ++ [⟨false,s.ASNs ++ l⟩]
  | none=>[⟨false,l⟩]
def rdSeg:Nat→List UInt8→List Segment→Option (List Segment)
 | _,[],p=>some p
 | n + 1,k::c::t,p=>if (k.toNat ≠ 1∧k.toNat ≠ 2) ∨ c.toNat=0 ∨ t.length < 4 * c.toNat then none else rdSeg n (t.drop (4 * c.toNat)) (addSeg p (k.toNat == 1) (nums (t.take (4 * c.toNat))))
 | _,_,_=>none
end Go.AX.Q33
end
section
namespace Go.AX.Q33
open Go Go.AX
set_option maxRecDepth 8000
theorem rdSeg_nil (n:Nat) (p:List Segment):rdSeg n [] p=some p:=by cases n<;>rfl
theorem rdSeg_fuel :∀(n m:Nat) (b:List UInt8) (p:List Segment),b.length ≤ n→b.length ≤ m→rdSeg n b p=rdSeg m b p
 | n,m,[],p,_,_=>by rw [rdSeg_nil,rdSeg_nil]
 | n + 1,m + 1,[x],p,_,_=>rfl
 | n + 1,m + 1,k::c::t,p,h1,h2=>by
  simp only [List.length_cons] at h1 h2
  simp only [rdSeg]
  split
  ·rfl
  ·exact rdSeg_fuel n m _ _ (by simp only [List.length_drop];omega) (by simp only [List.length_drop];omega)
 | 0,_,_::_,_,h,_=>by simp at h
 | _,0,_::_,_,_,h=>by simp at h
def rdL (b:List UInt8) (p:List Segment):Option (List Segment):=rdSeg b.length b p
def badSeg (k c:UInt8) (t:List UInt8):Bool:=decide ((k.toNat ≠ 1∧k.toNat ≠ 2) ∨ c.toNat=0 ∨ t.length < 4 * c.toNat)
theorem rdL_nil (p:List Segment):rdL [] p=some p:=rfl
theorem rdL_cons (k c:UInt8) (t:List UInt8) (p:List Segment):rdL (k::c::t) p=if badSeg k c t=true then none else rdL (t.drop (4 * c.toNat)) (addSeg p (k.toNat == 1) (nums (t.take (4 * c.toNat)))):=by
 unfold rdL badSeg
 simp only [List.length_cons,rdSeg,decide_eq_true_eq]
 split
 ·rfl
 ·exact rdSeg_fuel _ _ _ _ (by simp only [List.length_drop];omega) (by simp only [List.length_drop];omega)
def Lk (p:List Segment) (i:Nat) (l:List Int):Prop:=p=[] ∨∃q s,p=q ++ [⟨s,l⟩]∧i=q.length
theorem geti_0 {x:UInt8} {t:List UInt8}:geti (x::t) 0=some x:=geti_nat (l:=x::t) (i:=0) (by simp)
theorem geti_1 {x y:UInt8} {t:List UInt8}:geti (x::y::t) 1=some y:=geti_nat (l:=x::y::t) (i:=1) (by simp)
theorem u8_2 (c:UInt8):i64w (2 + i64w (4 * (c.toNat:Int)))=((2 + 4 * c.toNat:Nat):Int):=by
 have:=c.toNat_lt
 rw [i64w_id (x:=4 * (c.toNat:Int)) (by omega),i64w_id (by omega)]
 omega
theorem addSeg_set (p:List Segment) (l:List Int):addSeg p true l=p ++ [⟨true,srt l⟩]:=rfl
theorem addSeg_nil (l:List Int):addSeg [] false l=[⟨false,l⟩]:=rfl
theorem addSeg_afterSet (q:List Segment) (m l:List Int):addSeg (q ++ [⟨true,m⟩]) false l=q ++ [⟨true,m⟩] ++ [⟨false,l⟩]:=by
 unfold addSeg;simp
theorem addSeg_grow (q:List Segment) (m l:List Int):addSeg (q ++ [⟨false,m⟩]) false l=q ++ [⟨false,m ++ l⟩]:=by
 unfold addSeg;simp
theorem srt_len {l:List Int} (hl:l.length ≤ 1000000):(srt l).length ≤ l.length:=by
 obtain ⟨h1,h2⟩:=srt_asc hl
 refine nodup_len (h1.imp fun {a b} h e=>?_) fun x hx=>(h2 x).1 hx
 subst e
 rw [ltI_irr] at h;simp at h
theorem last_ix {α:Type} {q:List α} {x:α} (h:q.length ≤ 1000000000):i64w (((q ++ [x]).length:Int) - 1)=(q.length:Int):=by
 rw [i64w_id (by simp;omega)]
 simp
theorem seti_at {α:Type} (q:List α) (x y:α):seti (q ++ [x]) (q.length:Int) y=some (q ++ [y]):=by
 unfold seti
 rw [if_pos (by simp;omega)]
 simp
theorem bad_prog {k c:UInt8} {t:List UInt8} (hlen:t.length ≤ 1000000) {ρ:Type} (K:Bool→Option ρ) :
  joinP (τ:=Bool) (fun q=>if (decide (((k::c::t).length:Int) < 2))=true then q true else
   Option.bind (geti (k::c::t) 0) fun v37=>
   if ((v37.toNat:Int) != 1)=true then
    Option.bind (geti (k::c::t) 0) fun v38=>
    if (cond false true (cond true ((v38.toNat:Int) != 2) false))=true then q true else
     Option.bind (geti (k::c::t) 1) fun v39=>
     if (cond false true (decide (((k::c::t).length:Int) < (i64w (2 + (i64w (4 * (v39.toNat:Int))))))))=true then q true else
      Option.bind (geti (k::c::t) 1) fun v40=>
      q (cond false true ((v40.toNat:Int) == 0))
   else
    Option.bind (geti (k::c::t) 1) fun v41=>
    if (cond false true (decide (((k::c::t).length:Int) < (i64w (2 + (i64w (4 * (v41.toNat:Int))))))))=true then q true else
     Option.bind (geti (k::c::t) 1) fun v42=>
     q (cond false true ((v42.toNat:Int) == 0))) K=K (badSeg k c t):=by
 rw [joinP_def,if_neg (by simp;omega)]
 simp only [geti_0,geti_1,some_bind',u8_2,cond_true,cond_false]
 unfold badSeg
 have e1:((k.toNat:Int) != 1)=decide (k.toNat ≠ 1):=by rw [Bool.eq_iff_iff];simp;omega
 have e2:((k.toNat:Int) != 2)=decide (k.toNat ≠ 2):=by rw [Bool.eq_iff_iff];simp;omega
 have e3:((c.toNat:Int) == 0)=decide (c.toNat=0):=by rw [Bool.eq_iff_iff];simp
 have e4:decide (((k::c::t).length:Int) < ((2 + 4 * c.toNat:Nat):Int))=decide (t.length < 4 * c.toNat):=by rw [Bool.eq_iff_iff];simp only [List.length_cons,decide_eq_true_eq];omega
 rw [e1,e2,e3,e4]
 by_cases h1:k.toNat=1<;>by_cases h2:k.toNat=2<;>by_cases h3:c.toNat=0<;>by_cases h4:t.length < 4 * c.toNat<;>first | (exfalso;omega) | simp [h1,h2,h3,h4]
theorem last_no {p:List Segment} (hp:p.length ≤ 1000000) {ρ:Type} (K:Bool→Option ρ) :
  joinP (τ:=Bool) (fun q=>if (decide ((p.length:Int) > 0))=true then Option.bind (geti p (i64w ((p.length:Int) - 1))) fun v=>q (cond true (!v.Set) false) else q false) K=K (match p.getLast? with | some s=>!s.Set | none=>false):=by
 rcases List.eq_nil_or_concat p with rfl | ⟨q,s,rfl⟩
 ·rfl
 ·rw [List.concat_eq_append] at hp ⊢
  rw [joinP_def,if_pos (by simp),last_ix (by simp at hp;omega),geti_at,some_bind']
  simp
theorem part_rest {k c:UInt8} {t:List UInt8} (h:4 * c.toNat ≤ t.length):part (k::c::t) ((2 + 4 * c.toNat:Nat):Int) ((k::c::t).length:Int)=some (t.drop (4 * c.toNat)):=by
 rw [part_nat (by simp;omega) (Nat.le_refl _)]
 rw [show 2 + 4 * c.toNat=4 * c.toNat + 1 + 1 by omega,List.drop_succ_cons,List.drop_succ_cons,List.take_of_length_le (by simp)]
end Go.AX.Q33
end
section
namespace Go.AX
set_option maxRecDepth 8000
section
variable {α ρ:Type}
def chainB (lt:α→α→Bool):List α→Bool
 | x::y::t=>lt x y && chainB lt (y::t)
 | _=>true
theorem chainB_cons (lt:α→α→Bool) (x y:α) (t:List α):chainB lt (x::y::t)=(lt x y && chainB lt (y::t)):=rfl
theorem chainB_one (lt:α→α→Bool) (x:α):chainB lt [x]=true:=rfl
theorem chainB_pw {lt:α→α→Bool} (htr :∀a b c,lt a b=true→lt b c=true→lt a c=true) :∀{l:List α},chainB lt l=true ↔ l.Pairwise fun a b=>lt a b=true
 | []=>by simp [chainB]
 | [x]=>by simp [chainB]
 | x::y::t=>by
  rw [chainB_cons,Bool.and_eq_true,chainB_pw htr (l:=y::t),List.pairwise_cons (a:=x)]
  constructor
  ·rintro ⟨h1,h2⟩
   refine ⟨fun z hz=>?_,h2⟩
   rcases List.mem_cons.1 hz with e | hz
   ·rw [e];exact h1
   ·exact htr _ _ _ h1 ((List.pairwise_cons.1 h2).1 z hz)
  ·rintro ⟨h1,h2⟩
   exact ⟨h1 y (by simp),h2⟩
theorem adjR {ok:α→Bool} {lt:α→α→Bool} {l:List α} {K:Unit→Option ρ} {F:Option ρ} {body:(Unit→Option ρ)→α→Nat→Unit→Option ρ} (hl:l.length ≤ 1000000000000)
  (h0 :∀next x,x ∈ l→body next x 0 ()=if ok x then next () else F)
  (h1 :∀next x y i,x ∈ l→y ∈ l→geti l (i64w (((i + 1:Nat):Int) - 1))=some y→body next x (i + 1) ()=if ok x && lt y x then next () else F) :
  forR K body l 0 ()=if l.all ok && chainB lt l then K () else F:=by
 have key :∀(t p:List α) (y:α),l=p ++ y::t→forR K body t (p.length + 1) ()=if t.all ok && chainB lt (y::t) then K () else F:=by
  intro t
  induction t with
  | nil=>intro p y _;rw [chainB_one];rfl
  | cons x t ih=>
   intro p y e
   show body (fun s=>forR K body t (p.length + 1 + 1) s) x (p.length + 1) ()=_
   have hlen:p.length < l.length:=by rw [e];simp
   rw [h1 _ x y p.length (by rw [e];simp) (by rw [e];simp) (by
    rw [i64w_id (by omega),show ((p.length + 1:Nat):Int) - 1=(p.length:Int) by omega,e]
    exact geti_at p y (x::t))]
   have:=ih (p ++ [y]) x (by rw [e];simp)
   rw [List.length_append,List.length_singleton] at this
   rw [this,chainB_cons,List.all_cons]
   generalize chainB lt (x::t)=c1
   generalize t.all ok=c2
   cases ok x<;>cases lt y x<;>cases c1<;>cases c2<;>rfl
 match l,h0,h1,key with
 | [],_,_,_=>rfl
 | x::t,h0,_,key=>
  show body (fun s=>forR K body t (0 + 1) s) x 0 ()=_
  rw [h0 _ x (by simp)]
  have:=key t [] x rfl
  rw [List.length_nil] at this
  rw [this,List.all_cons]
  generalize chainB lt (x::t)=c1
  generalize t.all ok=c2
  cases ok x<;>cases c1<;>cases c2<;>rfl
theorem adjRS {σ:Type} {g:σ→α→σ} {ok:α→Bool} {lt:α→α→Bool} {l:List α} {s0:σ} {K:σ→Option ρ} {F:Option ρ} {body:(σ→Option ρ)→α→Nat→σ→Option ρ} (hl:l.length ≤ 1000000000000)
  (h0 :∀next x s,x ∈ l→body next x 0 s=if ok x then next (g s x) else F)
  (h1 :∀next x y i s,x ∈ l→y ∈ l→geti l (i64w (((i + 1:Nat):Int) - 1))=some y→body next x (i + 1) s=if ok x && lt y x then next (g s x) else F) :
  forR K body l 0 s0=if l.all ok && chainB lt l then K (l.foldl g s0) else F:=by
 have key :∀(t p:List α) (y:α) (s:σ),l=p ++ y::t→forR K body t (p.length + 1) s=if t.all ok && chainB lt (y::t) then K (t.foldl g s) else F:=by
  intro t
  induction t with
  | nil=>intro p y s _;rw [chainB_one];rfl
  | cons x t ih=>
   intro p y s e
   show body (fun s=>forR K body t (p.length + 1 + 1) s) x (p.length + 1) s=_
   have hlen:p.length < l.length:=by rw [e];simp
   rw [h1 _ x y p.length s (by rw [e];simp) (by rw [e];simp) (by
    rw [i64w_id (by omega),show ((p.length + 1:Nat):Int) - 1=(p.length:Int) by omega,e]
    exact geti_at p y (x::t))]
   have:=ih (p ++ [y]) x (g s x) (by rw [e];simp)
   rw [List.length_append,List.length_singleton] at this
   rw [this,chainB_cons,List.all_cons,List.foldl_cons]
   generalize chainB lt (x::t)=c1
   generalize t.all ok=c2
   cases ok x<;>cases lt y x<;>cases c1<;>cases c2<;>rfl
 match l,h0,h1,key with
 | [],_,_,_=>rfl
 | x::t,h0,_,key=>
  show body (fun s=>forR K body t (0 + 1) s) x 0 s0=_
  rw [h0 _ x s0 (by simp)]
  have:=key t [] x (g s0 x) rfl
  rw [List.length_nil] at this
  rw [this,List.all_cons,List.foldl_cons]
  generalize chainB lt (x::t)=c1
  generalize t.all ok=c2
  cases ok x<;>cases c1<;>cases c2<;>rfl
theorem appR {β:Type} {g:β→List α} {N:Nat} {body:(List α→Option ρ)→β→Nat→List α→Option ρ} {K:List α→Option ρ} :∀{l:List β} {i:Nat} {v:List α},v.length + (l.flatMap g).length ≤ N→
  (∀next x i v,x ∈ l→v.length + (g x).length ≤ N→body next x i v=next (v ++ g x))→forR K body l i v=K (v ++ l.flatMap g)
 | [],i,v,_,_=>by rw [List.flatMap_nil,List.append_nil];rfl
 | x::t,i,v,h,hb=>by
  rw [List.flatMap_cons,List.length_append] at h
  show body (fun s=>forR K body t (i + 1) s) x i v=_
  rw [hb _ x i v (by simp) (by omega),appR (l:=t) (by rw [List.length_append];omega) fun next y j w hy hw=>hb next y j w (List.mem_cons_of_mem _ hy) hw,List.flatMap_cons,List.append_assoc]
def canon (e lt:α→α→Bool) (l:List α):List α:=l.foldl (fun acc x=>if acc.any (fun y=>e y x) then acc else insS lt acc x) []
theorem canon_snoc (e lt:α→α→Bool) (l:List α) (x:α):canon e lt (l ++ [x])=if (canon e lt l).any (fun y=>e y x) then canon e lt l else insS lt (canon e lt l) x:=by
 unfold canon
 rw [List.foldl_append]
 rfl
theorem canon_spec {e lt:α→α→Bool} (he :∀a b,e a b=true ↔ a=b) (htr :∀a b c,lt a b=true→lt b c=true→lt a c=true) (htot :∀a b,lt a b=false→a=b ∨ lt b a=true) (l:List α) :
  (canon e lt l).Pairwise (fun a b=>lt a b=true)∧(∀x,x ∈ canon e lt l ↔ x ∈ l)∧(canon e lt l).length ≤ l.length:=by
 rw [← List.reverse_reverse l]
 generalize l.reverse=m
 induction m with
 | nil=>exact ⟨.nil,by simp [canon],by simp [canon]⟩
 | cons x t ih=>
  obtain ⟨h1,h2,h3⟩:=ih
  rw [List.reverse_cons,canon_snoc]
  by_cases hx:(canon e lt t.reverse).any (fun y=>e y x)=true
  ·rw [if_pos hx]
   obtain ⟨y,hy,hyx⟩:=List.any_eq_true.1 hx
   have:=(he _ _).1 hyx
   subst this
   refine ⟨h1,fun z=>?_,by simp only [List.length_append];omega⟩
   rw [List.mem_append,h2 z,List.mem_singleton]
   refine ⟨.inl,fun q=>q.elim id fun e=>?_⟩
   rw [e];exact (h2 _).1 hy
  ·rw [if_neg hx]
   have hx:x ∉ canon e lt t.reverse:=fun q=>hx (List.any_eq_true.2 ⟨x,q,(he _ _).2 rfl⟩)
   refine ⟨insS_sorted htr htot h1 hx,fun z=>?_,by rw [insS_len];simp only [List.length_append,List.length_singleton];omega⟩
   rw [insS_mem,List.mem_append,h2 z,List.mem_singleton]
theorem canon_uniq {e lt:α→α→Bool} (he :∀a b,e a b=true ↔ a=b) (hirr :∀a,lt a a=false) (htr :∀a b c,lt a b=true→lt b c=true→lt a c=true) (htot :∀a b,lt a b=false→a=b ∨ lt b a=true)
  {l r:List α} (h1:r.Pairwise fun a b=>lt a b=true) (h2 :∀x,x ∈ r ↔ x ∈ l):r=canon e lt l:=by
 obtain ⟨g1,g2,_⟩:=canon_spec he htr htot l
 exact sorted_ext (lt:=fun a b=>lt a b=true) (fun a h=>by rw [hirr] at h;simp at h) htr h1 g1 fun x=>(h2 x).trans (g2 x).symm
end
end Go.AX
end
section
namespace Go.AX.Q33
open Go Go.AX
set_option maxRecDepth 8000
theorem cmpI_eq (a b:Int):cmp_Compare_int a b=some (cmpI a b):=by
 unfold cmp_Compare_int cmp_isNaN_int cmpI
 simp only [some_bind',bne_self_eq_false,Bool.false_eq_true,if_false,decide_eq_true_eq,gt_iff_lt]
 split<;>(try split)<;>rfl
theorem orI_eq (l:List Int):cmp_Or_int l=some (orI l):=by
 unfold cmp_Or_int
 rw [joinP_def]
 have key :∀(l:List Int) (i:Nat),forR (σ:=Unit) (fun _=>some (0:Int)) (fun next x _ _=>if (x != 0)=true then some x else next ()) l i ()=some (orI l):=by
  intro l
  induction l with
  | nil=>intro i;rfl
  | cons x t ih=>
   intro i
   show (if (x != 0)=true then some x else forR _ _ t (i + 1) ())=_
   rw [ih]
   rw [orI_cons]
   by_cases h:x=0<;>simp [h]
 exact key l 0
def keyC (c:Community):List Int:=[c.A,c.B]
def keyL (c:Large):List Int:=[c.A,c.B,c.C]
theorem keyC_len (a b:Community):(keyC a).length=(keyC b).length:=rfl
theorem keyL_len (a b:Large):(keyL a).length=(keyL b).length:=rfl
theorem keyC_inj {a b:Community} (h:keyC a=keyC b):a=b:=by
 simp only [keyC,List.cons.injEq,and_true] at h
 cases a;cases b;simp_all
theorem keyL_inj {a b:Large} (h:keyL a=keyL b):a=b:=by
 simp only [keyL,List.cons.injEq,and_true] at h
 cases a;cases b;simp_all
def ltC2:Community→Community→Bool:=ltK keyC
def ltC3:Large→Large→Bool:=ltK keyL
theorem ltC2_irr (a:Community):ltC2 a a=false:=ltK_irr a
theorem ltC3_irr (a:Large):ltC3 a a=false:=ltK_irr a
theorem ltC2_tr (a b c:Community) (h1:ltC2 a b=true) (h2:ltC2 b c=true):ltC2 a c=true:=ltK_tr keyC_len a b c h1 h2
theorem ltC3_tr (a b c:Large) (h1:ltC3 a b=true) (h2:ltC3 b c=true):ltC3 a c=true:=ltK_tr keyL_len a b c h1 h2
theorem ltC2_tot (a b:Community) (h:ltC2 a b=false):a=b ∨ ltC2 b a=true:=(ltK_tot keyC_len a b h).imp_left keyC_inj
theorem ltC3_tot (a b:Large) (h:ltC3 a b=false):a=b ∨ ltC3 b a=true:=(ltK_tot keyL_len a b h).imp_left keyL_inj
theorem eqdC (a b:Community):Community.eqd a b=true ↔ a=b:=by
 unfold Community.eqd
 simp only [Bool.and_eq_true,Bool.and_true,beq_iff_eq]
 constructor
 ·rintro ⟨h1,h2⟩;cases a;cases b;simp_all
 ·rintro rfl;exact ⟨rfl,rfl⟩
theorem eqdL (a b:Large):Large.eqd a b=true ↔ a=b:=by
 unfold Large.eqd
 simp only [Bool.and_eq_true,Bool.and_true,beq_iff_eq]
 constructor
 ·rintro ⟨h1,h2,h3⟩;cases a;cases b;simp_all
 ·rintro rfl;exact ⟨rfl,rfl,rfl⟩
theorem compC_eq (a b:Community):community_compare a b=some (lexC (keyC a) (keyC b)):=by
 unfold community_compare
 rw [cmpI_eq,some_bind',cmpI_eq,some_bind',orI_eq,some_bind',orI_cmp,orI_cmp]
 rfl
theorem compL_eq (a b:Large):community_compareLarge a b=some (lexC (keyL a) (keyL b)):=by
 unfold community_compareLarge
 rw [cmpI_eq,some_bind',cmpI_eq,some_bind',cmpI_eq,some_bind',orI_eq,some_bind',orI_cmp,orI_cmp,orI_cmp]
 rfl
theorem compC1_eq (a b:Community):attribute_readCommunities_1 a b=some (lexC (keyC a) (keyC b)):=compC_eq a b
theorem compL1_eq (a b:Large):attribute_readLarge_1 a b=some (lexC (keyL a) (keyL b)):=compL_eq a b
def inR (m x:Int):Bool:=decide (0 ≤ x) && decide (x ≤ m)
def okC (c:Community):Bool:=inR 65535 c.A && inR 65535 c.B
def okL (c:Large):Bool:=inR 4294967295 c.A && (inR 4294967295 c.B && inR 4294967295 c.C)
theorem mmR {g:Int→Int→Int} {x:Int} {t:List Int} (hl:t.length ≤ 1000000000) :
  joinP (τ:=Int) (fun k2=>whileR (σ:=Int×Int) (fun next3 p=>match p with
   | (v4,v5)=>if (decide (v5 < ((x::t).length:Int)))=true then Option.bind (geti (x::t) v5) fun v6=>next3 (g v4 v6,(i64w (v5 + 1))) else k2 v4) fuel (x,1)) (fun v=>some v)=some (t.foldl g x):=by
 rw [joinP_def]
 refine (whileR_eq (fun s:Int×Int=>∃j:Nat,s.2=(j + 1:Nat)∧j ≤ t.length) (fun s=>((x::t).length - s.2).toNat) (fun s=>some ((t.drop (s.2.toNat - 1)).foldl g s.1)) ?_ fuel (x,1) ⟨0,rfl,Nat.zero_le _⟩ (lt_fuel (by simp;omega))).trans rfl
 rintro next ⟨m,i⟩ ⟨j,h1,h2⟩ hn
 dsimp only at h1
 subst h1
 dsimp only
 have e1:((j + 1:Nat):Int).toNat - 1=j:=by omega
 rw [e1]
 by_cases hj:j < t.length
 ·rw [if_pos (by simp only [List.length_cons,decide_eq_true_eq];omega),geti_nat (by simp;omega),some_bind',i64w_id (by omega)]
  rw [hn _ ⟨j + 1,by simp,by omega⟩ (by simp only [List.length_cons];omega)]
  have e2:(((j + 1:Nat):Int) + 1).toNat - 1=j + 1:=by omega
  simp only [e2,List.getElem_cons_succ]
  rw [List.drop_eq_getElem_cons hj,List.foldl_cons]
 ·rw [if_neg (by simp only [List.length_cons,decide_eq_true_eq];omega),List.drop_eq_nil_of_le (by omega)]
  rfl
def mn (a b:Int):Int:=if b < a then b else a
def mx (a b:Int):Int:=if b > a then b else a
theorem min_eq {x:Int} {t:List Int} (hl:t.length ≤ 1000000000):slices_Min_int_int (x::t)=some (t.foldl mn x):=by
 unfold slices_Min_int_int
 rw [if_neg (by simp;omega),show geti (x::t) 0=some x from geti_nat (l:=x::t) (i:=0) (by simp),some_bind']
 exact mmR (g:=mn) hl
theorem max_eq {x:Int} {t:List Int} (hl:t.length ≤ 1000000000):slices_Max_int_int (x::t)=some (t.foldl mx x):=by
 unfold slices_Max_int_int
 rw [if_neg (by simp;omega),show geti (x::t) 0=some x from geti_nat (l:=x::t) (i:=0) (by simp),some_bind']
 exact mmR (g:=mx) hl
theorem mn_all (n:Int) :∀(t:List Int) (x:Int),decide (n ≤ t.foldl mn x)=(x::t).all fun y=>decide (n ≤ y)
 | [],x=>by rw [List.all_cons,List.all_nil,Bool.and_true];rfl
 | y::t,x=>by
  rw [List.foldl_cons,mn_all n t (mn x y)]
  simp only [List.all_cons]
  unfold mn
  rw [Bool.eq_iff_iff]
  simp only [Bool.and_eq_true,decide_eq_true_eq]
  constructor
  ·rintro ⟨h1,h2⟩;split at h1<;>exact ⟨by omega,by omega,h2⟩
  ·rintro ⟨h1,h2,h3⟩;split<;>exact ⟨by omega,h3⟩
theorem mx_all (n:Int) :∀(t:List Int) (x:Int),decide (t.foldl mx x ≤ n)=(x::t).all fun y=>decide (y ≤ n)
 | [],x=>by rw [List.all_cons,List.all_nil,Bool.and_true];rfl
 | y::t,x=>by
  rw [List.foldl_cons,mx_all n t (mx x y)]
  simp only [List.all_cons]
  unfold mx
  rw [Bool.eq_iff_iff]
  simp only [Bool.and_eq_true,decide_eq_true_eq]
  constructor
  ·rintro ⟨h1,h2⟩;split at h1<;>exact ⟨by omega,by omega,h2⟩
  ·rintro ⟨h1,h2,h3⟩;split<;>exact ⟨by omega,h3⟩
theorem cwithin_eq {m x:Int} {t:List Int} (hl:t.length ≤ 1000000000):community_within m (x::t)=some ((x::t).all (inR m)):=by
 unfold community_within
 rw [joinP_def,min_eq hl,some_bind',max_eq hl]
 have e:(x::t).all (inR m)=(decide (0 ≤ t.foldl mn x) && decide (t.foldl mx x ≤ m)):=by
  rw [mn_all,mx_all,Bool.eq_iff_iff,Bool.and_eq_true]
  simp only [List.all_eq_true,inR,Bool.and_eq_true]
  exact ⟨fun h=>⟨fun y hy=>(h y hy).1,fun y hy=>(h y hy).2⟩,fun h y hy=>⟨h.1 y hy,h.2 y hy⟩⟩
 rw [e]
 by_cases h:0 ≤ t.foldl mn x
 ·rw [if_pos (by simpa using h),some_bind',decide_eq_true h];rfl
 ·rw [if_neg (by simpa using h),decide_eq_false h];rfl
theorem fitsC_eq (c:Community):community_fits c=some (okC c):=by
 unfold community_fits
 rw [cwithin_eq (by simp),some_bind']
 simp [okC]
theorem fitsL_eq (c:Large):community_fitsLarge c=some (okL c):=by
 unfold community_fitsLarge
 rw [cwithin_eq (by simp),some_bind']
 simp [okL]
def validC (l:List Community):Bool:=l.all okC && chainB ltC2 l && decide (l.length ≤ 64)
def validL (l:List Large):Bool:=l.all okL && chainB ltC3 l && decide (l.length ≤ 64)
theorem ge_lt {X:Type} {key:X→List Int} (a b:X):decide (lexC (key a) (key b) ≥ 0)=!ltK key a b:=by
 unfold ltK
 rw [Bool.eq_iff_iff]
 simp
theorem adjV {α:Type} {ok:α→Bool} {lt:α→α→Bool} {l:List α} (hl:l.length ≤ 1000000000) {body:(Unit→Option Bool)→α→Nat→Unit→Option Bool}
  (h :∀next x i,body next x i ()=joinP (τ:=Bool) (fun k5=>Option.bind (some (ok x)) fun v6=>if (!v6)=true then k5 true else if (decide ((i:Int) > 0))=true then Option.bind (geti l (i64w ((i:Int) - 1))) fun v7=>Option.bind (some (lt v7 x)) fun v8=>k5 (cond false true (cond true (!v8) false)) else k5 false) fun v9=>if v9=true then some false else next ()) :
  (joinP (τ:=Unit) (fun k1=>forR (σ:=Unit) (fun _=>k1 ()) body l 0 ()) fun _=>some (decide ((l.length:Int) ≤ 64)))=some (l.all ok && chainB lt l && decide (l.length ≤ 64)):=by
 rw [joinP_def,adjR (ok:=ok) (lt:=lt) (F:=some false) (by omega)]
 ·have e:decide ((l.length:Int) ≤ 64)=decide (l.length ≤ 64):=by rw [Bool.eq_iff_iff];simp;omega
  rw [e]
  generalize (l.all ok && chainB lt l)=b
  cases b<;>rfl
 ·intro next x _
  rw [h,joinP_def,some_bind']
  cases ok x<;>rfl
 ·intro next x y i _ _ hg
  rw [h,joinP_def,some_bind',hg,some_bind',some_bind',if_pos (show decide (((i + 1:Nat):Int) > 0)=true by simp)]
  cases ok x<;>cases lt y x<;>rfl
theorem community_Valid_eq {l:List Community} (hl:l.length ≤ 1000000000):community_Valid l=some (validC l):=by
 unfold community_Valid community_ascends_api_Community__community_fits__community_compare validC
 rw [adjV (ok:=okC) (lt:=ltC2) hl fun next x i=>by simp only [fitsC_eq,compC_eq,some_bind',ge_lt];rfl]
 rfl
theorem community_ValidLarge_eq {l:List Large} (hl:l.length ≤ 1000000000):community_ValidLarge l=some (validL l):=by
 unfold community_ValidLarge community_ascends_api_Large__community_fitsLarge__community_compareLarge validL
 rw [adjV (ok:=okL) (lt:=ltC3) hl fun next x i=>by simp only [fitsL_eq,compL_eq,some_bind',ge_lt];rfl]
 rfl
theorem validC_iff {l:List Community}:validC l=true ↔ (∀c ∈ l,okC c=true)∧(l.Pairwise fun a b=>ltC2 a b=true)∧l.length ≤ 64:=by
 unfold validC
 rw [Bool.and_eq_true,Bool.and_eq_true,chainB_pw ltC2_tr,List.all_eq_true,decide_eq_true_eq,and_assoc]
theorem validL_iff {l:List Large}:validL l=true ↔ (∀c ∈ l,okL c=true)∧(l.Pairwise fun a b=>ltC3 a b=true)∧l.length ≤ 64:=by
 unfold validL
 rw [Bool.and_eq_true,Bool.and_eq_true,chainB_pw ltC3_tr,List.all_eq_true,decide_eq_true_eq,and_assoc]
end Go.AX.Q33
end
section
namespace Go.AX.Q33
open Go Go.AX
set_option maxRecDepth 8000
theorem part_pre {α:Type} {l:List α} {n:Nat} (h:n ≤ l.length):part l 0 (n:Int)=some (l.take n):=by
 have:=part_nat (l:=l) (a:=0) (b:=n) (by omega) h
 simpa using this
theorem part_suf {α:Type} {l:List α} {n:Nat} (h:n ≤ l.length):part l (n:Int) (l.length:Int)=some (l.drop n):=by
 rw [part_nat h (Nat.le_refl _),List.take_of_length_le (by simp)]
def canC:List Community→List Community:=canon Community.eqd ltC2
def canL:List Large→List Large:=canon Large.eqd ltC3
theorem canC_spec (l:List Community):(canC l).Pairwise (fun a b=>ltC2 a b=true)∧(∀x,x ∈ canC l ↔ x ∈ l)∧(canC l).length ≤ l.length:=canon_spec eqdC ltC2_tr ltC2_tot l
theorem canL_spec (l:List Large):(canL l).Pairwise (fun a b=>ltC3 a b=true)∧(∀x,x ∈ canL l ↔ x ∈ l)∧(canL l).length ≤ l.length:=canon_spec eqdL ltC3_tr ltC3_tot l
theorem canC_valid {l:List Community} (h :∀c ∈ l,okC c=true) (hl:l.length ≤ 64):validC (canC l)=true:=by
 obtain ⟨h1,h2,h3⟩:=canC_spec l
 exact validC_iff.2 ⟨fun c hc=>h c ((h2 c).1 hc),h1,by omega⟩
theorem canL_valid {l:List Large} (h :∀c ∈ l,okL c=true) (hl:l.length ≤ 64):validL (canL l)=true:=by
 obtain ⟨h1,h2,h3⟩:=canL_spec l
 exact validL_iff.2 ⟨fun c hc=>h c ((h2 c).1 hc),h1,by omega⟩
theorem sortC_compact {l:List Community} (hl:l.length ≤ 1000000) {ρ:Type} {K:List Community→Option ρ}:(Option.bind (sortF attribute_readCommunities_1 l) fun v=>Option.bind (slices_Compact_api_Community_api_Community v) K)=K (canC l):=by
 obtain ⟨r,h,h1,h2⟩:=sortF_K keyC_len compC1_eq (l:=l) (by omega)
 rw [h,some_bind']
 obtain ⟨c,g,g1,g2⟩:=compactP_ok (lt:=ltC2) (e:=Community.eqd) (zz:=⟨0,0⟩) ltC2_irr ltC2_tr ltC2_tot eqdC (l:=r) h2 (by rw [h1.length_eq];omega)
 have e:slices_Compact_api_Community_api_Community r=compactP Community.eqd ⟨0,0⟩ r:=rfl
 rw [e,g,some_bind',canon_uniq (l:=l) eqdC ltC2_irr ltC2_tr ltC2_tot g1 fun x=>(g2 x).trans h1.mem_iff]
 rfl
theorem sortL_compact {l:List Large} (hl:l.length ≤ 1000000) {ρ:Type} {K:List Large→Option ρ}:(Option.bind (sortF attribute_readLarge_1 l) fun v=>Option.bind (slices_Compact_api_Large_api_Large v) K)=K (canL l):=by
 obtain ⟨r,h,h1,h2⟩:=sortF_K keyL_len compL1_eq (l:=l) (by omega)
 rw [h,some_bind']
 obtain ⟨c,g,g1,g2⟩:=compactP_ok (lt:=ltC3) (e:=Large.eqd) (zz:=⟨0,0,0⟩) ltC3_irr ltC3_tr ltC3_tot eqdL (l:=r) h2 (by rw [h1.length_eq];omega)
 have e:slices_Compact_api_Large_api_Large r=compactP Large.eqd ⟨0,0,0⟩ r:=rfl
 rw [e,g,some_bind',canon_uniq (l:=l) eqdL ltC3_irr ltC3_tr ltC3_tot g1 fun x=>(g2 x).trans h1.mem_iff]
 rfl
def comms:List UInt8→List Community
 | a::b::c::d::t=>⟨getB [a,b],getB [c,d]⟩::comms t
 | _=>[]
def larges:List Int→List Large
 | a::b::c::t=>⟨a,b,c⟩::larges t
 | _=>[]
theorem comms_cons (a b c d:UInt8) (t:List UInt8):comms (a::b::c::d::t)=⟨getB [a,b],getB [c,d]⟩::comms t:=rfl
theorem larges_cons (a b c:Int) (t:List Int):larges (a::b::c::t)=⟨a,b,c⟩::larges t:=rfl
theorem comms_len :∀l:List UInt8,(comms l).length=l.length / 4
 | a::b::c::d::t=>by
  rw [comms_cons,List.length_cons,comms_len t]
  simp only [List.length_cons]
  omega
 | []=>rfl
 | [_]=>by simp [comms]
 | [_,_]=>by simp [comms]
 | [_,_,_]=>by simp [comms]
theorem larges_len :∀l:List Int,(larges l).length=l.length / 3
 | a::b::c::t=>by
  rw [larges_cons,List.length_cons,larges_len t]
  simp only [List.length_cons]
  omega
 | []=>rfl
 | [_]=>by simp [larges]
 | [_,_]=>by simp [larges]
theorem get2_rng (a b:UInt8):0 ≤ getB [a,b]∧getB [a,b] ≤ 65535:=by
 have:=val_lt [a,b]
 rw [getB_eq (by simp)]
 simp only [List.length_cons,List.length_nil] at this
 omega
theorem comms_ok :∀(l:List UInt8),∀c ∈ comms l,okC c=true
 | a::b::c::d::t=>by
  rw [comms_cons]
  intro x hx
  rcases List.mem_cons.1 hx with rfl | hx
  ·have h1:=get2_rng a b
   have h2:=get2_rng c d
   simp [okC,inR,h1,h2]
  ·exact comms_ok t x hx
 | []=>by intro n h;simp [comms] at h
 | [_]=>by intro n h;simp [comms] at h
 | [_,_]=>by intro n h;simp [comms] at h
 | [_,_,_]=>by intro n h;simp [comms] at h
theorem larges_ok :∀(l:List Int),(∀n ∈ l,0 ≤ n∧n ≤ 4294967295)→∀c ∈ larges l,okL c=true
 | a::b::c::t,h=>by
  rw [larges_cons]
  intro x hx
  rcases List.mem_cons.1 hx with rfl | hx
  ·have h1:=h a (by simp)
   have h2:=h b (by simp)
   have h3:=h c (by simp)
   simp [okL,inR,h1,h2,h3]
  ·exact larges_ok t (fun n hn=>h n (by simp [hn])) x hx
 | [],_=>by intro n h;simp [larges] at h
 | [_],_=>by intro n h;simp [larges] at h
 | [_,_],_=>by intro n h;simp [larges] at h
theorem split4 (a b c d:UInt8):Int.fdiv (getB [a,b,c,d]) (2 ^ (min (Int.toNat 16) 64))=getB [a,b]∧i64w ((BitVec.ofInt 64 (getB [a,b,c,d]) &&& BitVec.ofInt 64 65535).toNat:Int)=getB [c,d]:=by
 have h1:=a.toNat_lt
 have h2:=b.toNat_lt
 have h3:=c.toNat_lt
 have h4:=d.toNat_lt
 rw [getB_eq (by simp),getB_eq (by simp),getB_eq (by simp)]
 have v4:val [a,b,c,d]=((a.toNat * 256 + b.toNat) * 256 + c.toNat) * 256 + d.toNat:=by simp [val]
 have v2:val [a,b]=a.toNat * 256 + b.toNat:=by simp [val]
 have v2':val [c,d]=c.toNat * 256 + d.toNat:=by simp [val]
 rw [v4,v2,v2']
 constructor
 ·have e:((2:Int) ^ (min (Int.toNat 16) 64))=65536:=rfl
  rw [e,Int.fdiv_eq_ediv_of_nonneg _ (by omega)]
  omega
 ·have e:BitVec.ofInt 64 65535=BitVec.ofNat 64 (2 ^ 16 - 1):=rfl
  rw [BitVec.ofInt_natCast,e,BitVec.toNat_and,BitVec.toNat_ofNat,BitVec.toNat_ofNat,Nat.mod_eq_of_lt (show ((a.toNat * 256 + b.toNat) * 256 + c.toNat) * 256 + d.toNat < 2 ^ 64 by omega),Nat.mod_eq_of_lt (show 2 ^ 16 - 1 < 2 ^ 64 by decide),Nat.and_two_pow_sub_one_eq_mod]
  rw [i64w_id (by omega)]
  omega
theorem comms_of_nums :∀(l:List UInt8),(nums l).map (fun n=>(⟨Int.fdiv n (2 ^ (min (Int.toNat 16) 64)),i64w ((BitVec.ofInt 64 n &&& BitVec.ofInt 64 65535).toNat:Int)⟩:Community))=comms l
 | a::b::c::d::t=>by
  rw [nums_cons,comms_cons,List.map_cons,comms_of_nums t]
  obtain ⟨h1,h2⟩:=split4 a b c d
  rw [h1,h2]
 | []=>rfl
 | [_]=>rfl
 | [_,_]=>rfl
 | [_,_,_]=>rfl
theorem largeP {n:List Int} {ρ:Type} {K:List Large→Option ρ} (h1:n.length % 3=0) (h2:n.length ≤ 1000000) :
  joinP (τ:=List Large) (fun k130=>whileR (σ:=(List Large)×(List Int)) (fun next131 p=>match p with
   | (v132,v133)=>if (decide ((v133.length:Int) > 0))=true then
     Option.bind (geti v133 0) fun v134=>
     Option.bind (geti v133 1) fun v135=>
     Option.bind (geti v133 2) fun v136=>
     Option.bind (apnd (α:=Large) 24 v132 ([(⟨v134,v135,v136⟩:Large)]:List Large)) fun v137=>
     Option.bind (part v133 3 (v133.length:Int)) fun v138=>
     next131 (v137,v138)
    else k130 v132) fuel ([],n)) K=K (larges n):=by
 rw [joinP_def]
 refine (whileR_eq (fun s:List Large×List Int=>s.2.length % 3=0∧s.1.length + s.2.length ≤ 1000000) (fun s=>s.2.length) (fun s=>K (s.1 ++ larges s.2)) ?_ fuel ([],n) ⟨h1,by simpa using h2⟩ (lt_fuel (by simp only;omega))).trans rfl
 rintro next ⟨o,v⟩ ⟨g1,g2⟩ hn
 dsimp only at g1 g2 ⊢
 match v,g1,g2,hn with
 | [],_,_,_=>simp [larges]
 | [_],g1,_,_=>simp at g1
 | [_,_],g1,_,_=>simp at g1
 | a::b::c::t,g1,g2,hn=>
  simp only [List.length_cons] at g1 g2
  have e1:geti (a::b::c::t) 0=some a:=geti_nat (l:=a::b::c::t) (i:=0) (by simp)
  have e2:geti (a::b::c::t) 1=some b:=geti_nat (l:=a::b::c::t) (i:=1) (by simp)
  have e3:geti (a::b::c::t) 2=some c:=geti_nat (l:=a::b::c::t) (i:=2) (by simp)
  have e4:part (a::b::c::t) 3 ((a::b::c::t).length:Int)=some t:=part_suf (l:=a::b::c::t) (n:=3) (by simp)
  rw [if_pos (by simp;omega),e1,some_bind',e2,some_bind',e3,some_bind',apnd_some (by decide) (by simp;omega),some_bind',e4,some_bind',hn _ ⟨by simp only;omega,by simp;omega⟩ (by simp only [List.length_cons];omega),larges_cons]
  simp
end Go.AX.Q33
end
section
namespace Go.AX.Q33
open Go Go.AX
set_option maxRecDepth 8000
set_option linter.unusedVariables false
def bodyP {ρ:Type} (F:Option ρ) (next16:Int×Bool×UInt64×UInt64×Int×Int×Int×(List Segment)×(List Community)×(List Large)→Option ρ) (x17:Unknown):Int×Bool×UInt64×UInt64×Int×Int×Int×(List Segment)×(List Community)×(List Large)→Option ρ:=fun (v6,v7,v8,v9,v10,v11,v12,v13,v14,v15)=>
 joinP (τ:=Int×Bool×UInt64×UInt64×Int×Int×Int×(List Segment)×(List Community)×(List Large)) (fun k19=>
  if (x17.Type_ == 1) then
   joinP (τ:=Bool×Int) (fun k20=>
    Option.bind (attribute_right x17) fun v21=>
    if (!v21) then
     k20 (true,v6)
    else
     joinP (τ:=Bool×Int) (fun k22=>
      Option.bind (attribute_get x17.Data) fun v23=>
      joinP (τ:=Bool) (fun k24=>
       if ((x17.Data.length:Int) == 1) then
        k24 (cond true (decide (v23 ≤ 2)) false)
       else
        k24 false
      ) fun v25=>
      k22 (v25,v23)
     ) fun (v26,v27)=>
     k20 ((cond true (cond false true (!v26)) false),v27)
   ) fun (v28,v29)=>
   if v28 then
    F
   else
    k19 (v29,v7,v8,v9,v10,v11,v12,v13,v14,v15)
  else
   if (x17.Type_ == 2) then
    joinP (τ:=Bool×(List Segment)) (fun k30=>
     Option.bind (attribute_right x17) fun v31=>
     if (!v31) then
      k30 (true,v13)
     else
      joinP (τ:=Bool×(List Segment)) (fun k32=>
       joinP (τ:=(List Segment)) (fun k33=>
        Option.bind (chk (v13=[])) fun _=>
        whileR (σ:=(List UInt8)×(List Segment)×Nat×(List Int)) (fun next34 (v35,v36,v37,v38)=>
         if (decide ((v35.length:Int) > 0)) then
          joinP (τ:=Bool) (fun k39=>
           if (decide ((v35.length:Int) < 2)) then
            k39 true
           else
            Option.bind (geti v35 0) fun v40=>
            if ((v40.toNat:Int) != 1) then
             Option.bind (geti v35 0) fun v41=>
             if (cond false true (cond true ((v41.toNat:Int) != 2) false)) then
              k39 true
             else
              Option.bind (geti v35 1) fun v42=>
              if (cond false true (decide ((v35.length:Int) < (i64w (2 + (i64w (4 * (v42.toNat:Int)))))))) then
               k39 true
              else
               Option.bind (geti v35 1) fun v43=>
               k39 (cond false true ((v43.toNat:Int) == 0))
            else
             Option.bind (geti v35 1) fun v44=>
             if (cond false true (decide ((v35.length:Int) < (i64w (2 + (i64w (4 * (v44.toNat:Int)))))))) then
              k39 true
             else
              Option.bind (geti v35 1) fun v45=>
              k39 (cond false true ((v45.toNat:Int) == 0))
          ) fun v46=>
          if v46 then
           k32 (false,v36)
          else
           Option.bind (geti v35 1) fun v47=>
           Option.bind (geti v35 0) fun v48=>
           Option.bind (part v35 2 (i64w (2 + (i64w (4 * (v47.toNat:Int)))))) fun v49=>
           Option.bind (attribute_numbers v49) fun v50=>
           Option.bind (part v35 (i64w (2 + (i64w (4 * (v47.toNat:Int))))) (v35.length:Int)) fun v51=>
           joinP (τ:=(List Int)) (fun k52=>
            if ((v48.toNat:Int) == 1) then
             Option.bind (sortI v50) fun v53=>
             Option.bind (slices_Compact_int_int v53) fun v54=>
             k52 v54
            else
             k52 v50
           ) fun v55=>
           joinP (τ:=Bool) (fun k56=>
            if (decide ((i64w ((v36.length:Int) - 1)) ≥ 0)) then
             if (cond true (!((v48.toNat:Int) == 1)) false) then
              Option.bind (geti v36 (i64w ((v36.length:Int) - 1))) fun v57=>
              k56 (cond true (!v57.Set) false)
             else
              k56 false
            else
             k56 false
           ) fun v58=>
           joinP (τ:=(List Segment)×Nat×(List Int)) (fun k59=>
            if v58 then
             Option.bind (geti v36 (i64w ((v36.length:Int) - 1))) fun v60=>
             Option.bind (chk (Int.toNat (i64w ((v36.length:Int) - 1))=v37)) fun _=>
             Option.bind (apnd (α:=Int) 8 v38 v55) fun v61=>
             Option.bind (geti v36 (i64w ((v36.length:Int) - 1))) fun v62=>
             Option.bind (seti v36 (i64w ((v36.length:Int) - 1)) (⟨v62.Set,v61⟩:Segment)) fun v63=>
             k59 (v63,(Int.toNat (i64w ((v36.length:Int) - 1))),v61)
            else
             Option.bind (apnd (α:=Segment) 32 v36 ([(⟨((v48.toNat:Int) == 1),v55⟩:Segment)]:List Segment)) fun v64=>
             k59 (v64,((List.map Segment.toD v36).length + 0),v55)
           ) fun (v65,v66,v67)=>
           next34 (v51,v65,v66,v67)
         else
          k33 v36
        ) fuel (x17.Data,v13,0,[])
       ) fun v68=>
       Option.bind (aspath_Valid v68) fun v69=>
       k32 (v69,v68)
      ) fun (v70,v71)=>
      k30 ((cond true (cond false true (!v70)) false),v71)
    ) fun (v72,v73)=>
    if v72 then
     F
    else
     k19 (v6,v7,v8,v9,v10,v11,v12,v73,v14,v15)
   else
    if (x17.Type_ == 3) then
     joinP (τ:=Bool×Bool×UInt64×UInt64) (fun k74=>
      Option.bind (attribute_right x17) fun v75=>
      if (!v75) then
       k74 (true,v7,v8,v9)
      else
       joinP (τ:=Bool×UInt64×UInt64) (fun k76=>
        Option.bind (addr_FromBytes x17.Data) fun (v77,v78)=>
        k76 (v77.V6,v77.Hi,v77.Lo)
       ) fun (v79,v80,v81)=>
       k74 ((cond true (cond false true (!((x17.Data.length:Int) == 4))) false),v79,v80,v81)
     ) fun (v82,v83,v84,v85)=>
     if v82 then
      F
     else
      k19 (v6,v83,v84,v85,v10,v11,v12,v13,v14,v15)
    else
     if (x17.Type_ == 4) then
      joinP (τ:=Bool×Int) (fun k86=>
       Option.bind (attribute_right x17) fun v87=>
       if (!v87) then
        k86 (true,v10)
       else
        joinP (τ:=Int) (fun k88=>
         joinP (τ:=Int) (fun k89=>
          Option.bind (attribute_get x17.Data) fun v90=>
          k89 v90
         ) fun v91=>
         k88 v91
        ) fun v92=>
        k86 ((cond true (cond false true (!((x17.Data.length:Int) == 4))) false),v92)
      ) fun (v93,v94)=>
      if v93 then
       F
      else
       k19 (v6,v7,v8,v9,v94,v11,v12,v13,v14,v15)
     else
      if (x17.Type_ == 5) then
       joinP (τ:=Bool×Int) (fun k95=>
        Option.bind (attribute_right x17) fun v96=>
        if (!v96) then
         k95 (true,v11)
        else
         joinP (τ:=Int) (fun k97=>
          joinP (τ:=Int) (fun k98=>
           Option.bind (attribute_get x17.Data) fun v99=>
           k98 v99
          ) fun v100=>
          k97 v100
         ) fun v101=>
         k95 ((cond true (cond false true (!((x17.Data.length:Int) == 4))) false),v101)
       ) fun (v102,v103)=>
       if v102 then
        F
       else
        k19 (v6,v7,v8,v9,v10,v103,v12,v13,v14,v15)
      else
       if (x17.Type_ == 8) then
        joinP (τ:=Bool×(List Community)) (fun k104=>
         Option.bind (attribute_right x17) fun v105=>
         if (!v105) then
          k104 (true,v14)
         else
          joinP (τ:=Bool×(List Community)) (fun k106=>
           Option.bind (attribute_numbers x17.Data) fun v107=>
           joinP (τ:=(List Community)) (fun k108=>
            forR (σ:=(List Community)) (fun v109=>
             k108 v109
            ) (fun next110 (x111:Int) i112 v109=>
             Option.bind (apnd (α:=Community) 16 v109 ([(⟨(Int.fdiv x111 (2 ^ (min (Int.toNat 16) 64))),(i64w ((BitVec.ofInt 64 x111 &&& BitVec.ofInt 64 65535).toNat:Int))⟩:Community)]:List Community)) fun v113=>
             next110 v113
            ) v107 0 []
           ) fun v114=>
           joinP (τ:=Bool×(List Community)) (fun k115=>
            joinP (τ:=Bool) (fun k116=>
             if (decide ((v114.length:Int) > 0)) then
              k116 (cond true (decide ((v114.length:Int) ≤ 64)) false)
             else
              k116 false
            ) fun v117=>
            Option.bind (sortF attribute_readCommunities_1 v114) fun v118=>
            Option.bind (slices_Compact_api_Community_api_Community v118) fun v119=>
            k115 (v117,v119)
           ) fun (v120,v121)=>
           joinP (τ:=Bool) (fun k122=>
            if v120 then
             if (cond true ((Int.tmod (x17.Data.length:Int) 4) == 0) false) then
              Option.bind (community_Valid v121) fun v123=>
              k122 (cond true v123 false)
             else
              k122 false
            else
             k122 false
           ) fun v124=>
           k106 (v124,v121)
          ) fun (v125,v126)=>
          k104 ((cond true (cond false true (!v125)) false),v126)
        ) fun (v127,v128)=>
        if v127 then
         F
        else
         k19 (v6,v7,v8,v9,v10,v11,v12,v13,v128,v15)
       else
        if (x17.Type_ == 32) then
         joinP (τ:=Bool×(List Large)) (fun k129=>
          Option.bind (attribute_right x17) fun v130=>
          if (!v130) then
           k129 (true,v15)
          else
           joinP (τ:=Bool×(List Large)) (fun k131=>
            if ((Int.tmod (x17.Data.length:Int) 12) != 0) then
             k131 (false,v15)
            else
             Option.bind (attribute_numbers x17.Data) fun v132=>
             joinP (τ:=(List Large)) (fun k133=>
              whileR (σ:=(List Large)×(List Int)) (fun next134 (v135,v136)=>
               if (decide ((v136.length:Int) > 0)) then
                Option.bind (geti v136 0) fun v137=>
                Option.bind (geti v136 1) fun v138=>
                Option.bind (geti v136 2) fun v139=>
                Option.bind (apnd (α:=Large) 24 v135 ([(⟨v137,v138,v139⟩:Large)]:List Large)) fun v140=>
                Option.bind (part v136 3 (v136.length:Int)) fun v141=>
                next134 (v140,v141)
               else
                k133 v135
              ) fuel ([],v132)
             ) fun v142=>
             joinP (τ:=Bool×(List Large)) (fun k143=>
              joinP (τ:=Bool) (fun k144=>
               if (decide ((v142.length:Int) > 0)) then
                k144 (cond true (decide ((v142.length:Int) ≤ 64)) false)
               else
                k144 false
              ) fun v145=>
              Option.bind (sortF attribute_readLarge_1 v142) fun v146=>
              Option.bind (slices_Compact_api_Large_api_Large v146) fun v147=>
              k143 (v145,v147)
             ) fun (v148,v149)=>
             joinP (τ:=Bool) (fun k150=>
              if v148 then
               Option.bind (community_ValidLarge v149) fun v151=>
               k150 (cond true v151 false)
              else
               k150 false
             ) fun v152=>
             k131 (v152,v149)
           ) fun (v153,v154)=>
           k129 ((cond true (cond false true (!v153)) false),v154)
         ) fun (v155,v156)=>
         if v155 then
          F
         else
          k19 (v6,v7,v8,v9,v10,v11,v12,v13,v14,v156)
        else
         if (x17.Type_ == 35) then
          joinP (τ:=Bool×Int) (fun k157=>
           Option.bind (attribute_right x17) fun v158=>
           if (!v158) then
            k157 (true,v12)
           else
            joinP (τ:=Bool×Int) (fun k159=>
             joinP (τ:=Bool×Int) (fun k160=>
              joinP (τ:=Int) (fun k161=>
               Option.bind (attribute_get x17.Data) fun v162=>
               k161 v162
              ) fun v163=>
              if ((x17.Data.length:Int) == 4) then
               Option.bind (aspath_Number v163) fun v164=>
               k160 ((cond true v164 false),v163)
              else
               k160 (false,v163)
             ) fun (v165,v166)=>
             k159 (v165,v166)
            ) fun (v167,v168)=>
            k157 ((cond true (cond false true (!v167)) false),v168)
          ) fun (v169,v170)=>
          if v169 then
           F
          else
           k19 (v6,v7,v8,v9,v10,v11,v170,v13,v14,v15)
         else
          k19 (v6,v7,v8,v9,v10,v11,v12,v13,v14,v15)
 ) fun (v171,v172,v173,v174,v175,v176,v177,v178,v179,v180)=>
 next16 (v171,v172,v173,v174,v175,v176,v177,v178,v179,v180)
end Go.AX.Q33
end
section
namespace Go.AX.Q33
open Go Go.AX
set_option maxRecDepth 8000
def toP (a:Attrs):Int×Bool×UInt64×UInt64×Int×Int×Int×(List Segment)×(List Community)×(List Large):=(a.Origin,a.Next.V6,a.Next.Hi,a.Next.Lo,a.MED,a.Pref,a.OTC,a.Path,a.Communities,a.Large)
def validP (p:List Segment):Bool:=(ref15_Valid p).getD false
def rdOrigin (d:List UInt8):Option Int:=if d.length=1∧getB d ≤ 2 then some (getB d) else none
def rdPath (d:List UInt8):Option (List Segment):=(rdL d []).bind fun p=>if validP p=true then some p else none
def addrOf (d:List UInt8):Addr:=((addr_FromBytes d).getD (⟨false,0,0⟩,0)).1
def rdNext (d:List UInt8):Option Addr:=if d.length=4 then some (addrOf d) else none
def rd4 (d:List UInt8):Option Int:=if d.length=4 then some (getB d) else none
def rdOTC (d:List UInt8):Option Int:=if d.length=4∧getB d ≠ 0 then some (getB d) else none
def rdComm (d:List UInt8):Option (List Community):=if d.length ≠ 0∧d.length % 4=0∧d.length / 4 ≤ 64 then some (canC (comms d)) else none
def rdLarge (d:List UInt8):Option (List Large):=if d.length ≠ 0∧d.length % 12=0∧d.length / 12 ≤ 64 then some (canL (larges (nums d))) else none
def readS (a:Attrs) (t:Int) (d:List UInt8):Option Attrs:=
 if t=1 then (rdOrigin d).map fun v=>{ a with Origin:=v } else
 if t=2 then (rdPath d).map fun v=>{ a with Path:=v } else
 if t=3 then (rdNext d).map fun v=>{ a with Next:=v } else
 if t=4 then (rd4 d).map fun v=>{ a with MED:=v } else
 if t=5 then (rd4 d).map fun v=>{ a with Pref:=v } else
 if t=8 then (rdComm d).map fun v=>{ a with Communities:=v } else
 if t=32 then (rdLarge d).map fun v=>{ a with Large:=v } else
 if t=35 then (rdOTC d).map fun v=>{ a with OTC:=v } else some a
def stepS (a:Attrs) (x:Unknown):Option Attrs:=if fl x.Type_=0 then some a else if rightB x=true then readS a x.Type_ x.Data else none
theorem FromBytes_eq (d:List UInt8):ref01_FromBytes d=addr_FromBytes d:=rfl
instance (a0:List UInt8):Tt (addr_FromBytes a0):=by unfold addr_FromBytes;exact Tt.auto
theorem addrOf_eq (d:List UInt8) :∃e,addr_FromBytes d=some (addrOf d,e):=by
 have h :∃r,addr_FromBytes d=some r:=Tt.h
 obtain ⟨⟨r,e⟩,h⟩:=h
 refine ⟨e,?_⟩
 unfold addrOf
 rw [h];rfl
theorem rdOTC_rng {d:List UInt8} (h:d.length=4):0 ≤ getB d∧getB d ≤ 4294967295:=by
 have:=val_lt d
 rw [getB_eq (by omega)]
 rw [h] at this
 omega
section
variable {ρ:Type} {F:Option ρ} {next:Int×Bool×UInt64×UInt64×Int×Int×Int×(List Segment)×(List Community)×(List Large)→Option ρ} {x:Unknown} {a:Attrs}
theorem bodyP_1 (h:x.Type_=1) (e:fl x.Type_=64):bodyP F next x (toP a)=match stepS a x with | none=>F | some a'=>next (toP a'):=by
 unfold bodyP toP stepS readS rdOrigin
 dsimp only
 rw [joinP_def,if_pos (by rw [h];rfl),joinP_def,attribute_right_eq x (by rw [e];decide),if_neg (by rw [e];decide)]
 simp only [joinP_def,some_bind',attribute_get_eq,h,if_true]
 have e1:((x.Data.length:Int) == 1)=decide (x.Data.length=1):=by rw [Bool.eq_iff_iff];simp;omega
 rw [e1]
 cases hr:rightB x<;>by_cases h1:x.Data.length=1<;>by_cases h2:getB x.Data ≤ 2<;>simp [h1,h2]
theorem bodyP_3 (h:x.Type_=3) (e:fl x.Type_=64):bodyP F next x (toP a)=match stepS a x with | none=>F | some a'=>next (toP a'):=by
 unfold bodyP toP stepS readS rdNext
 dsimp only
 obtain ⟨er,he⟩:=addrOf_eq x.Data
 rw [joinP_def,if_neg (by rw [h];decide),if_neg (by rw [h];decide),if_pos (by rw [h];rfl),joinP_def,attribute_right_eq x (by rw [e];decide),if_neg (by rw [e];decide),h]
 simp only [joinP_def,some_bind',he]
 have e1:((x.Data.length:Int) == 4)=decide (x.Data.length=4):=by rw [Bool.eq_iff_iff];simp;omega
 rw [e1]
 cases hr:rightB x<;>by_cases h1:x.Data.length=4<;>simp [h1]
theorem bodyP_4 (h:x.Type_=4) (e:fl x.Type_=128):bodyP F next x (toP a)=match stepS a x with | none=>F | some a'=>next (toP a'):=by
 unfold bodyP toP stepS readS rd4
 dsimp only
 rw [joinP_def,if_neg (by rw [h];decide),if_neg (by rw [h];decide),if_neg (by rw [h];decide),if_pos (by rw [h];rfl),joinP_def,attribute_right_eq x (by rw [e];decide),if_neg (by rw [e];decide),h]
 simp only [joinP_def,some_bind',attribute_get_eq]
 have e1:((x.Data.length:Int) == 4)=decide (x.Data.length=4):=by rw [Bool.eq_iff_iff];simp;omega
 rw [e1]
 cases hr:rightB x<;>by_cases h1:x.Data.length=4<;>simp [h1]
theorem bodyP_5 (h:x.Type_=5) (e:fl x.Type_=64):bodyP F next x (toP a)=match stepS a x with | none=>F | some a'=>next (toP a'):=by
 unfold bodyP toP stepS readS rd4
 dsimp only
 rw [joinP_def,if_neg (by rw [h];decide),if_neg (by rw [h];decide),if_neg (by rw [h];decide),if_neg (by rw [h];decide),if_pos (by rw [h];rfl),joinP_def,attribute_right_eq x (by rw [e];decide),if_neg (by rw [e];decide),h]
 simp only [joinP_def,some_bind',attribute_get_eq]
 have e1:((x.Data.length:Int) == 4)=decide (x.Data.length=4):=by rw [Bool.eq_iff_iff];simp;omega
 rw [e1]
 cases hr:rightB x<;>by_cases h1:x.Data.length=4<;>simp [h1]
theorem bodyP_35 (h:x.Type_=35) (e:fl x.Type_=192):bodyP F next x (toP a)=match stepS a x with | none=>F | some a'=>next (toP a'):=by
 unfold bodyP toP stepS readS rdOTC
 dsimp only
 rw [joinP_def,if_neg (by rw [h];decide),if_neg (by rw [h];decide),if_neg (by rw [h];decide),if_neg (by rw [h];decide),if_neg (by rw [h];decide),if_neg (by rw [h];decide),if_neg (by rw [h];decide),if_pos (by rw [h];rfl),joinP_def,attribute_right_eq x (by rw [e];decide),if_neg (by rw [e];decide),h]
 simp only [joinP_def,some_bind',attribute_get_eq,number_eq]
 have e1:((x.Data.length:Int) == 4)=decide (x.Data.length=4):=by rw [Bool.eq_iff_iff];simp;omega
 rw [e1]
 by_cases h1:x.Data.length=4
 ·have hg:=rdOTC_rng h1
  have h3:decide (1 ≤ getB x.Data)=decide (getB x.Data ≠ 0):=by rw [Bool.eq_iff_iff];simp;omega
  have h4:decide (getB x.Data ≤ 4294967295)=true:=decide_eq_true hg.2
  rw [h3,h4]
  cases hr:rightB x<;>by_cases h2:getB x.Data=0<;>simp [h1,h2]
 ·cases hr:rightB x<;>simp [h1]
theorem bodyP_0 (h:x.Type_ ≠ 1∧x.Type_ ≠ 2∧x.Type_ ≠ 3∧x.Type_ ≠ 4∧x.Type_ ≠ 5∧x.Type_ ≠ 8∧x.Type_ ≠ 32∧x.Type_ ≠ 35) (e:fl x.Type_=0):bodyP F next x (toP a)=match stepS a x with | none=>F | some a'=>next (toP a'):=by
 obtain ⟨h1,h2,h3,h4,h5,h6,h7,h8⟩:=h
 unfold bodyP toP stepS
 dsimp only
 rw [joinP_def,if_neg (by simpa using h1),if_neg (by simpa using h2),if_neg (by simpa using h3),if_neg (by simpa using h4),if_neg (by simpa using h5),if_neg (by simpa using h6),if_neg (by simpa using h7),if_neg (by simpa using h8),if_pos e]
theorem mapR {α β ρ:Type} {g:β→α} {b:Nat} {K:List α→Option ρ} (hb:Nat.ble b 65536=true) :∀(l:List β) (i:Nat) (acc:List α),acc.length + l.length ≤ 1000000000→forR K (fun next x _ v=>Option.bind (apnd (α:=α) b v ([g x]:List α)) fun v'=>next v') l i acc=K (acc ++ l.map g)
 | [],i,acc,_=>by rw [List.map_nil,List.append_nil];rfl
 | x::t,i,acc,h=>by
  simp only [List.length_cons] at h
  show (Option.bind (apnd (α:=α) b acc ([g x]:List α)) fun v'=>forR K _ t (i + 1) v')=_
  rw [apnd_some hb (by simp;omega),some_bind',mapR hb t (i + 1) _ (by simp;omega)]
  simp
theorem bodyP_8 (hd:x.Data.length ≤ 1000000) (h:x.Type_=8) (e:fl x.Type_=192):bodyP F next x (toP a)=match stepS a x with | none=>F | some a'=>next (toP a'):=by
 have er :∀d,readS a 8 d=(rdComm d).map fun v=>{ a with Communities:=v }:=fun _=>rfl
 unfold bodyP toP stepS
 dsimp only
 rw [joinP_def,if_neg (by rw [h];decide),if_neg (by rw [h];decide),if_neg (by rw [h];decide),if_neg (by rw [h];decide),if_neg (by rw [h];decide),if_pos (by rw [h];rfl),joinP_def,attribute_right_eq x (by rw [e];decide),if_neg (by rw [e];decide),h,some_bind']
 by_cases hr:rightB x=true
 rotate_left
 ·have hr:rightB x=false:=by simpa using hr
  rw [hr]
  rfl
 have hl:=comms_len x.Data
 have hc:=canC_spec (comms x.Data)
 rw [hr,if_neg (by decide),joinP_def,attribute_numbers_eq (by omega),some_bind',joinP_def,mapR (by decide) _ _ _ (by rw [nums_len];simp;omega),comms_of_nums,List.nil_append,er]
 unfold rdComm
 show joinP _ _=_
 rw [joinP_def]
 have e1:((Int.tmod (x.Data.length:Int) 4) == 0)=decide (x.Data.length % 4=0):=by
  rw [Int.tmod_eq_emod_of_nonneg (by omega),Bool.eq_iff_iff];simp;omega
 have e2 :∀K:Bool→Option ρ,(joinP (τ:=Bool) (fun k113=>if (decide (((comms x.Data).length:Int) > 0))=true then k113 (cond true (decide (((comms x.Data).length:Int) ≤ 64)) false) else k113 false) K)=K (decide (0 < (comms x.Data).length∧(comms x.Data).length ≤ 64)):=by
  intro K
  rw [joinP_def]
  by_cases g1:0 < (comms x.Data).length<;>by_cases g2:(comms x.Data).length ≤ 64<;>simp [g1,g2]<;>first | (intro;omega) | (rw [decide_eq_true (by omega)]) | (rw [decide_eq_false (by omega)]) | omega
 rw [e2,sortC_compact (by omega)]
 simp only [joinP_def,e1]
 by_cases g:x.Data.length ≠ 0∧x.Data.length % 4=0∧x.Data.length / 4 ≤ 64
 ·rw [if_pos g,decide_eq_true (show 0 < (comms x.Data).length∧(comms x.Data).length ≤ 64 by omega),if_pos rfl,if_pos (by rw [decide_eq_true g.2.1];rfl),community_Valid_eq (by omega),canC_valid (comms_ok _) (by omega)]
  rfl
 ·rw [if_neg g]
  by_cases g1:0 < (comms x.Data).length∧(comms x.Data).length ≤ 64
  ·rw [decide_eq_true g1,if_pos rfl,if_neg (by rw [decide_eq_false (by omega)];decide)]
   rfl
  ·rw [decide_eq_false g1,if_neg (by decide)]
   rfl
theorem bodyP_32 (hd:x.Data.length ≤ 1000000) (h:x.Type_=32) (e:fl x.Type_=192):bodyP F next x (toP a)=match stepS a x with | none=>F | some a'=>next (toP a'):=by
 have er :∀d,readS a 32 d=(rdLarge d).map fun v=>{ a with Large:=v }:=fun _=>rfl
 unfold bodyP toP stepS
 dsimp only
 rw [joinP_def,if_neg (by rw [h];decide),if_neg (by rw [h];decide),if_neg (by rw [h];decide),if_neg (by rw [h];decide),if_neg (by rw [h];decide),if_neg (by rw [h];decide),if_pos (by rw [h];rfl),joinP_def,attribute_right_eq x (by rw [e];decide),if_neg (by rw [e];decide),h,some_bind']
 by_cases hr:rightB x=true
 rotate_left
 ·have hr:rightB x=false:=by simpa using hr
  rw [hr]
  rfl
 have e1:((Int.tmod (x.Data.length:Int) 12) != 0)=!decide (x.Data.length % 12=0):=by
  rw [Int.tmod_eq_emod_of_nonneg (by omega),Bool.eq_iff_iff];simp;omega
 rw [hr,if_neg (by decide),joinP_def,e1]
 by_cases g1:x.Data.length % 12=0
 rotate_left
 ·rw [decide_eq_false g1,if_pos rfl,er]
  unfold rdLarge
  rw [if_neg (show ¬ (x.Data.length ≠ 0∧x.Data.length % 12=0∧x.Data.length / 12 ≤ 64) by omega)]
  rfl
 have hl:=larges_len (nums x.Data)
 rw [nums_len] at hl
 have hc:=canL_spec (larges (nums x.Data))
 rw [decide_eq_true g1,if_neg (by decide),attribute_numbers_eq (by omega),some_bind',largeP (by rw [nums_len];omega) (by rw [nums_len];omega),er]
 unfold rdLarge
 show joinP _ _=_
 rw [joinP_def]
 have e2 :∀K:Bool→Option ρ,(joinP (τ:=Bool) (fun k113=>if (decide (((larges (nums x.Data)).length:Int) > 0))=true then k113 (cond true (decide (((larges (nums x.Data)).length:Int) ≤ 64)) false) else k113 false) K)=K (decide (0 < (larges (nums x.Data)).length∧(larges (nums x.Data)).length ≤ 64)):=by
  intro K
  rw [joinP_def]
  by_cases g1:0 < (larges (nums x.Data)).length<;>by_cases g2:(larges (nums x.Data)).length ≤ 64<;>simp [g1,g2]<;>first | (intro;omega) | (rw [decide_eq_true (by omega)]) | (rw [decide_eq_false (by omega)]) | omega
 rw [e2,sortL_compact (by omega)]
 simp only [joinP_def]
 by_cases g:x.Data.length ≠ 0∧x.Data.length % 12=0∧x.Data.length / 12 ≤ 64
 ·rw [if_pos g,decide_eq_true (show 0 < (larges (nums x.Data)).length∧(larges (nums x.Data)).length ≤ 64 by omega),if_pos rfl,community_ValidLarge_eq (by omega),canL_valid (larges_ok _ (nums_rng _)) (by omega)]
  rfl
 ·rw [if_neg g,decide_eq_false (show ¬ (0 < (larges (nums x.Data)).length∧(larges (nums x.Data)).length ≤ 64) by omega),if_neg (by decide)]
  rfl
end
end Go.AX.Q33
end
section
namespace Go.AX.Q33
open Go Go.AX
set_option maxRecDepth 8000
def numB (n:Int):Bool:=decide (1 ≤ n) && decide (n ≤ 4294967295)
def okSeg (s:Segment):Bool:=decide (s.ASNs.length ≠ 0) && (s.ASNs.all numB && chainB (fun a b=>!s.Set || ltI a b) s.ASNs)
def sgl (a b:Segment):Bool:=b.Set || a.Set
def tot (p:List Segment):Nat:=p.foldl (fun n s=>n + s.ASNs.length) 0
theorem tot_from (p:List Segment) (n:Nat):p.foldl (fun n s=>n + s.ASNs.length) n=n + tot p:=by
 unfold tot
 induction p generalizing n with
 | nil=>rfl
 | cons s t ih=>rw [List.foldl_cons,List.foldl_cons,ih,ih (0 + _)];omega
theorem tot_cons (s:Segment) (p:List Segment):tot (s::p)=s.ASNs.length + tot p:=by
 conv=>lhs;unfold tot
 rw [List.foldl_cons,tot_from];omega
theorem tot_app (p q:List Segment):tot (p ++ q)=tot p + tot q:=by
 induction p with
 | nil=>rw [List.nil_append];exact (Nat.zero_add _).symm
 | cons s t ih=>rw [List.cons_append,tot_cons,tot_cons,ih];omega
theorem tot_mem {p:List Segment} {s:Segment} (h:s ∈ p):s.ASNs.length ≤ tot p:=by
 induction p with
 | nil=>simp at h
 | cons x t ih=>
  rw [tot_cons]
  rcases List.mem_cons.1 h with rfl | h
  ·omega
  ·have:=ih h;omega
def vpath (p:List Segment):Bool:=p.all okSeg && chainB sgl p && decide (tot p ≤ 64)
theorem sum_i64 :∀(p:List Segment) (n:Nat),n + tot p ≤ 1000000000→p.foldl (fun (v:Int) s=>i64w (v + (s.ASNs.length:Int))) (n:Int)=((n + tot p:Nat):Int)
 | [],n,_=>rfl
 | s::t,n,h=>by
  rw [tot_cons] at h
  rw [List.foldl_cons,tot_cons,i64w_id (by omega),show (n:Int) + (s.ASNs.length:Int)=((n + s.ASNs.length:Nat):Int) by omega,sum_i64 t _ (by omega)]
  congr 1
  omega
theorem seg_inner {s:Segment} (hl:s.ASNs.length ≤ 1000000000) {K:Unit→Option Bool} {body:(Unit→Option Bool)→Int→Nat→Unit→Option Bool}
  (hb :∀next x i,body next x i ()=joinP (τ:=Bool) (fun k14=>if (!numB x)=true then k14 true else if s.Set=true then if (cond true (decide ((i:Int) > 0)) false)=true then Option.bind (geti s.ASNs (i64w ((i:Int) - 1))) fun v15=>k14 (cond false true (cond true (decide (v15 ≥ x)) false)) else k14 false else k14 false) fun v16=>if v16=true then some false else next ()) :
  forR K body s.ASNs 0 ()=if s.ASNs.all numB && chainB (fun a b=>!s.Set || ltI a b) s.ASNs then K () else some false:=by
 refine adjR (by omega) (fun next x _=>?_) fun next x y i _ _ hg=>?_
 ·rw [hb,joinP_def]
  cases numB x<;>cases s.Set<;>rfl
 ·rw [hb,joinP_def,hg,some_bind']
  have e:decide (((i + 1:Nat):Int) > 0)=true:=by simp
  have e2:decide (y ≥ x)=!ltI y x:=by unfold ltI;rw [Bool.eq_iff_iff];simp
  rw [e,e2]
  cases numB x<;>cases s.Set<;>cases ltI y x<;>rfl
theorem seg_outer {p:List Segment} (hl:p.length ≤ 1000000000) (ht:tot p ≤ 1000000000) {body:(Int→Option Bool)→Segment→Nat→Int→Option Bool} {inner:Segment→(Unit→Option Bool)→Int→Nat→Unit→Option Bool}
  (hb :∀next x i v,body next x i v=joinP (τ:=Unit) (fun k6=>joinP (τ:=Bool) (fun k7=>if ((x.ASNs.length:Int) == 0)=true then k7 true else if (decide ((i:Int) > 0))=true then if (cond true (!x.Set) false)=true then Option.bind (geti p (i64w ((i:Int) - 1))) fun v8=>k7 (cond false true (cond true (!v8.Set) false)) else k7 false else k7 false) fun v9=>if v9=true then some false else joinP (τ:=Unit) (fun k10=>forR (σ:=Unit) (fun _=>k10 ()) (inner x) x.ASNs 0 ()) fun _=>k6 ()) fun _=>next (i64w (v + (x.ASNs.length:Int))))
  (hi :∀s next x i,inner s next x i ()=joinP (τ:=Bool) (fun k14=>if (!numB x)=true then k14 true else if s.Set=true then if (cond true (decide ((i:Int) > 0)) false)=true then Option.bind (geti s.ASNs (i64w ((i:Int) - 1))) fun v15=>k14 (cond false true (cond true (decide (v15 ≥ x)) false)) else k14 false else k14 false) fun v16=>if v16=true then some false else next ()) :
  (joinP (τ:=Int) (fun k1=>forR (σ:=Int) (fun v=>k1 v) body p 0 0) fun v=>some (decide (v ≤ 64)))=some (vpath p):=by
 rw [joinP_def]
 have hin :∀s ∈ p,∀K:Unit→Option Bool,forR K (inner s) s.ASNs 0 ()=if s.ASNs.all numB && chainB (fun a b=>!s.Set || ltI a b) s.ASNs then K () else some false:=fun s hs K=>seg_inner (by have:=tot_mem hs;omega) (hi s)
 refine (adjRS (g:=fun (v:Int) s=>i64w (v + (s.ASNs.length:Int))) (ok:=okSeg) (lt:=sgl) (F:=some false) (by omega) (fun next x v hx=>?_) fun next x y i v hx _ hg=>?_).trans ?_
 ·rw [hb,joinP_def,joinP_def]
  unfold okSeg
  by_cases h0:x.ASNs.length=0
  ·have e:((x.ASNs.length:Int) == 0)=true:=by simp [h0]
   rw [if_pos e]
   simp [h0]
  ·have e:¬ ((x.ASNs.length:Int) == 0)=true:=by simpa using h0
   rw [if_neg e,if_neg (by simp)]
   show (if false=true then _ else _)=_
   rw [if_neg (by decide),joinP_def,hin x hx]
   simp only [h0,ne_eq,not_false_eq_true,decide_true,Bool.true_and]
 ·rw [hb,joinP_def,joinP_def,hg]
  unfold okSeg sgl
  by_cases h0:x.ASNs.length=0
  ·have e:((x.ASNs.length:Int) == 0)=true:=by simp [h0]
   rw [if_pos e]
   simp [h0]
  ·have e:¬ ((x.ASNs.length:Int) == 0)=true:=by simpa using h0
   have e2:decide (((i + 1:Nat):Int) > 0)=true:=by simp
   rw [if_neg e,if_pos e2,some_bind',joinP_def,hin x hx]
   simp only [h0,ne_eq,not_false_eq_true,decide_true,Bool.true_and]
   generalize (x.ASNs.all numB && chainB (fun a b=>!x.Set || ltI a b) x.ASNs)=c
   cases x.Set<;>cases y.Set<;>cases c<;>rfl
 ·have hs:=sum_i64 p 0 (by omega)
  rw [Nat.zero_add] at hs
  have hs:p.foldl (fun (v:Int) s=>i64w (v + (s.ASNs.length:Int))) 0=(tot p:Int):=hs
  rw [hs]
  unfold vpath
  have e:decide ((tot p:Int) ≤ 64)=decide (tot p ≤ 64):=by rw [Bool.eq_iff_iff];simp;omega
  simp only [e]
  generalize (p.all okSeg && chainB sgl p)=c
  cases c<;>rfl
theorem ref15_Valid_eq {p:List Segment} (hl:p.length ≤ 1000000000) (ht:tot p ≤ 1000000000):ref15_Valid p=some (vpath p):=by
 unfold ref15_Valid
 refine seg_outer hl ht (fun next x i v=>rfl) fun s next x i=>?_
 have e:(!numB x)=(decide (x < 1) || decide (x > 4294967295)):=by unfold numB;rw [Bool.eq_iff_iff];simp<;>omega
 rw [joinP_def,joinP_def,e]
 cases decide (x < 1)<;>cases decide (x > 4294967295)<;>rfl
theorem aspath_Valid_eq {p:List Segment} (hl:p.length ≤ 1000000000) (ht:tot p ≤ 1000000000):aspath_Valid p=some (vpath p):=by
 unfold aspath_Valid
 refine seg_outer hl ht (fun next x i v=>rfl) fun s next x i=>?_
 rw [number_eq]
 rfl
theorem validP_eq {p:List Segment} (hl:p.length ≤ 1000000000) (ht:tot p ≤ 1000000000):validP p=vpath p:=by
 unfold validP
 rw [ref15_Valid_eq hl ht];rfl
theorem addSeg_size (p:List Segment) (b:Bool) {m:List Int} (hm:m.length ≤ 1000000):(addSeg p b m).length ≤ p.length + 1∧tot (addSeg p b m) ≤ tot p + m.length:=by
 unfold addSeg
 cases b
 ·simp only [Bool.false_eq_true,if_false]
  rcases List.eq_nil_or_concat p with rfl | ⟨q,s,rfl⟩
  ·exact ⟨by simp,by simp [tot]⟩
  ·rw [List.concat_eq_append]
   simp only [List.getLast?_concat,List.dropLast_concat]
   split
   ·rw [tot_app,tot_cons]
    exact ⟨by simp,by simp [tot]⟩
   ·rw [tot_app,tot_cons,tot_app,tot_cons]
    exact ⟨by simp,by simp [tot];omega⟩
 ·simp only [if_true]
  rw [tot_app,tot_cons]
  have:=srt_len hm
  exact ⟨by simp,by simp only [tot,List.foldl_nil];omega⟩
section
variable {ρ:Type} {F:Option ρ} {next:Int×Bool×UInt64×UInt64×Int×Int×Int×(List Segment)×(List Community)×(List Large)→Option ρ} {x:Unknown} {a:Attrs}
theorem bodyP_2 (hd:x.Data.length ≤ 1000000) (h:x.Type_=2) (e:fl x.Type_=64) (hp:a.Path=[]):bodyP F next x (toP a)=match stepS a x with | none=>F | some a'=>next (toP a'):=by
 have er :∀d,readS a 2 d=(rdPath d).map fun v=>{ a with Path:=v }:=fun _=>rfl
 unfold bodyP toP stepS
 dsimp only
 rw [joinP_def,if_neg (by rw [h];decide),if_pos (by rw [h];rfl),joinP_def,attribute_right_eq x (by rw [e];decide),if_neg (by rw [e];decide),h,some_bind',er]
 by_cases hr:rightB x=true
 rotate_left
 ·have hr:rightB x=false:=by simpa using hr
  rw [hr]
  rfl
 have ck:chk (([]:List Segment)=[])=some ():=by unfold chk;rw [if_pos rfl]
 rw [hr,if_neg (by decide),joinP_def,joinP_def,hp,ck,some_bind']
 refine (whileR_eq (fun s:List UInt8×List Segment×Nat×List Int=>Lk s.2.1 s.2.2.1 s.2.2.2∧(s.1.length + s.2.1.length ≤ 1000000∧s.1.length + tot s.2.1 ≤ 1000000)∧s.1.length + s.2.2.2.length ≤ 1000000) (fun s=>s.1.length)
  (fun s=>match rdL s.1 s.2.1 with | none=>F | some p=>if validP p=true then next (toP { a with Path:=p }) else F) ?_ fuel (x.Data,[],0,[]) ⟨.inl rfl,by simpa [tot] using hd,by simpa using hd⟩ (lt_fuel (by simp only;omega))).trans ?_
 rotate_left
 ·unfold rdPath
  dsimp only
  cases rdL x.Data [] with
  | none=>rfl
  | some p=>
   rw [Option.bind_some]
   show (if validP p=true then _ else _)=_
   cases validP p<;>rfl
 rintro next' ⟨b,p,i,l⟩ ⟨h1,⟨h2,h2'⟩,h3⟩ hn
 dsimp only at h1 h2 h2' h3 ⊢
 match b,h2,h2',h3,hn with
 | [],h2,h2',_,_=>
  rw [rdL_nil,if_neg (by simp),aspath_Valid_eq (by omega) (by simp only [List.length_nil] at h2';omega),some_bind']
  show _=(if validP p=true then next (toP { a with Path:=p }) else F)
  simp only [List.length_nil] at h2 h2'
  rw [validP_eq (by omega) (by omega)]
  cases vpath p<;>rfl
 | [x],_,_,_,_=>rfl
 | k::c::t,h2,h2',h3,hn=>
  simp only [List.length_cons] at h2 h2' h3
  rw [if_pos (by simp;omega),rdL_cons,bad_prog (by omega)]
  by_cases hb:badSeg k c t=true
  ·rw [if_pos hb,if_pos hb]
   rfl
  rw [if_neg hb,if_neg hb]
  have hb':(k.toNat=1 ∨ k.toNat=2)∧1 ≤ c.toNat∧4 * c.toNat ≤ t.length:=by
   simp only [badSeg,decide_eq_true_eq] at hb
   omega
  obtain ⟨b1,b2,b3⟩:=hb'
  have hc:=c.toNat_lt
  have epart:part (k::c::t) 2 ((2 + 4 * c.toNat:Nat):Int)=some (t.take (4 * c.toNat)):=by
   rw [show (2:Int)=((2:Nat):Int) by rfl,part_nat (by omega) (by simp;omega)]
   rw [List.drop_succ_cons,List.drop_succ_cons,List.drop_zero,show 2 + 4 * c.toNat - 2=4 * c.toNat by omega]
  rw [geti_1,some_bind',geti_0,some_bind',u8_2,epart,some_bind',attribute_numbers_eq (by simp;omega),some_bind',part_rest b3,some_bind']
  have hnl:(nums (t.take (4 * c.toNat))).length=c.toNat:=by rw [nums_len,List.length_take];omega
  generalize hm:nums (t.take (4 * c.toNat))=m at *
  have hdl:(t.drop (4 * c.toNat)).length=t.length - 4 * c.toNat:=List.length_drop
  have hsl:=srt_len (l:=m) (by omega)
  have hsz:=addSeg_size p (k.toNat == 1) (m:=m) (by omega)
  have hsort :∀K:List Int→Option ρ,joinP (τ:=List Int) (fun k50=>if ((k.toNat:Int) == 1)=true then Option.bind (sortI m) fun v51=>Option.bind (slices_Compact_int_int v51) fun v52=>k50 v52 else k50 m) K=K (if k.toNat=1 then srt m else m):=by
   intro K
   rw [joinP_def]
   by_cases b1:k.toNat=1
   ·rw [if_pos (by simp [b1]),if_pos b1];exact sortI_compact (by omega)
   ·rw [if_neg (by simp;omega),if_neg b1]
  rw [hsort]
  rcases b1 with b1 | b1
  ·have e:(k.toNat == 1)=true:=by rw [b1];rfl
   have e1:((k.toNat:Int) == 1)=true:=by rw [b1];rfl
   rw [e,addSeg_set] at hsz
   have ef :∀K:Bool→Option ρ,joinP (τ:=Bool) (fun k54=>if (decide ((i64w ((p.length:Int) - 1)) ≥ 0))=true then if (cond true (!true) false)=true then Option.bind (geti p (i64w ((p.length:Int) - 1))) fun v55=>k54 (cond true (!v55.Set) false) else k54 false else k54 false) K=K false:=by
    intro K
    rw [joinP_def]
    split<;>rfl
   rw [if_pos b1,e1,ef,joinP_def,if_neg (by decide),apnd_some (by decide) (by simp;omega),some_bind',e,addSeg_set]
   exact hn (t.drop (4 * c.toNat),p ++ [⟨true,srt m⟩],(List.map Segment.toD p).length + 0,srt m) ⟨.inr ⟨p,true,rfl,by simp⟩,⟨by simp only [List.length_append,List.length_singleton,hdl];omega,by simp only [hdl];omega⟩,by simp only [hdl];omega⟩ (by simp only [hdl,List.length_cons];omega)
  ·have e:(k.toNat == 1)=false:=by rw [b1];rfl
   have e1:((k.toNat:Int) == 1)=false:=by rw [b1];rfl
   rw [e] at hsz
   have ef :∀K:Bool→Option ρ,joinP (τ:=Bool) (fun k54=>if (decide ((i64w ((p.length:Int) - 1)) ≥ 0))=true then if (cond true (!false) false)=true then Option.bind (geti p (i64w ((p.length:Int) - 1))) fun v55=>k54 (cond true (!v55.Set) false) else k54 false else k54 false) K=K (match p.getLast? with | some s=>!s.Set | none=>false):=by
    intro K
    have hlast:=last_no (p:=p) (by omega) K
    refine Eq.trans ?_ hlast
    rw [joinP_def,joinP_def]
    have:decide (i64w ((p.length:Int) - 1) ≥ 0)=decide ((p.length:Int) > 0):=by rw [i64w_id (by omega),Bool.eq_iff_iff];simp;omega
    rw [this]
    split<;>rfl
   rw [if_neg (by omega),e1,ef,joinP_def,e]
   rcases h1 with rfl | ⟨q,s,rfl,rfl⟩
   ·rw [if_neg (by simp),apnd_some (by decide) (by simp),some_bind',addSeg_nil]
    rw [addSeg_nil] at hsz
    exact hn (t.drop (4 * c.toNat),[⟨false,m⟩],(List.map Segment.toD []).length + 0,m) ⟨.inr ⟨[],false,rfl,rfl⟩,⟨by simp only [List.length_singleton,hdl];simp only [List.length_nil] at h2;omega,by simp only [hdl];omega⟩,by simp only [hdl];omega⟩ (by simp only [hdl,List.length_cons];omega)
   ·simp only [List.length_append,List.length_singleton] at h2
    cases s
    ·rw [addSeg_grow] at hsz
     rw [if_pos (by simp),last_ix (by omega),geti_at,some_bind']
     rw [Int.toNat_natCast]
     have ck:chk (q.length=q.length)=some ():=by unfold chk;rw [if_pos rfl]
     rw [ck,some_bind',apnd_some (by decide) (by omega),some_bind',some_bind',seti_at,some_bind',addSeg_grow]
     exact hn (t.drop (4 * c.toNat),q ++ [⟨false,l ++ m⟩],q.length,l ++ m) ⟨.inr ⟨q,false,rfl,rfl⟩,⟨by simp only [List.length_append,List.length_singleton,hdl];omega,by simp only [hdl];omega⟩,by simp only [hdl,List.length_append];omega⟩ (by simp only [hdl,List.length_cons];omega)
    ·rw [addSeg_afterSet] at hsz
     rw [if_neg (by simp),apnd_some (by decide) (by simp;omega),some_bind',addSeg_afterSet]
     exact hn (t.drop (4 * c.toNat),q ++ [⟨true,l⟩] ++ [⟨false,m⟩],(List.map Segment.toD (q ++ [⟨true,l⟩])).length + 0,m) ⟨.inr ⟨q ++ [⟨true,l⟩],false,rfl,by simp⟩,⟨by simp only [List.length_append,List.length_singleton,hdl];omega,by simp only [hdl];omega⟩,by simp only [hdl];omega⟩ (by simp only [hdl,List.length_cons];omega)
end
end Go.AX.Q33
end
section
namespace Go.AX.Q33
open Go Go.AX
set_option maxRecDepth 8000
section
variable {ρ:Type} {F:Option ρ} {next:Int×(List Segment)×Bool×UInt64×UInt64×Int×Int×Int×(List Community)×(List Large)→Option ρ} {x:Unknown} {a:Attrs}
end
end Go.AX.Q33
end
section
namespace Go.AX.Q33
open Go Go.AX
set_option maxRecDepth 8000
def hasT (l:List Unknown) (t:Int):Bool:=l.any fun y=>t == y.Type_
def firstsS (l:List Unknown):List Unknown:=l.foldl (fun acc x=>if hasT acc x.Type_ then acc else acc ++ [x]) []
theorem firstsS_snoc (l:List Unknown) (x:Unknown):firstsS (l ++ [x])=if hasT (firstsS l) x.Type_ then firstsS l else firstsS l ++ [x]:=by
 unfold firstsS
 rw [List.foldl_append]
 rfl
theorem hasT_iff {l:List Unknown} {t:Int}:hasT l t=true ↔∃y ∈ l,y.Type_=t:=by
 unfold hasT
 rw [List.any_eq_true]
 simp only [beq_iff_eq]
 exact ⟨fun ⟨y,h1,h2⟩=>⟨y,h1,h2.symm⟩,fun ⟨y,h1,h2⟩=>⟨y,h1,h2.symm⟩⟩
theorem hasT_app (l m:List Unknown) (t:Int):hasT (l ++ m) t=(hasT l t || hasT m t):=by unfold hasT;rw [List.any_append]
def Dist (l:List Unknown):Prop:=l.Pairwise fun a b=>a.Type_ ≠ b.Type_
theorem firsts_spec (l:List Unknown):Dist (firstsS l)∧(∀x ∈ firstsS l,x ∈ l)∧(∀t,hasT (firstsS l) t=hasT l t)∧(firstsS l).length ≤ l.length:=by
 rw [← List.reverse_reverse l]
 generalize l.reverse=m
 induction m with
 | nil=>exact ⟨.nil,by simp [firstsS],fun t=>rfl,Nat.le_refl _⟩
 | cons x t ih=>
  obtain ⟨h1,h2,h3,h4⟩:=ih
  rw [List.reverse_cons,firstsS_snoc]
  by_cases hx:hasT (firstsS t.reverse) x.Type_=true
  ·rw [if_pos hx]
   refine ⟨h1,fun y hy=>List.mem_append_left _ (h2 y hy),fun u=>?_,by simp only [List.length_append];omega⟩
   rw [h3 u,hasT_app]
   by_cases hu:u=x.Type_
   ·subst hu
    rw [← h3,hx];rfl
   ·have:hasT [x] u=false:=by unfold hasT;simp [hu]
    rw [this,Bool.or_false]
  ·rw [if_neg hx]
   refine ⟨List.pairwise_append.2 ⟨h1,by simp,fun a ha b hb e=>?_⟩,fun y hy=>?_,fun u=>by rw [hasT_app,hasT_app,h3],by simp only [List.length_append,List.length_singleton];omega⟩
   ·rw [List.mem_singleton] at hb
    subst hb
    exact hx (hasT_iff.2 ⟨a,ha,e⟩)
   ·rcases List.mem_append.1 hy with hy | hy
    ·exact List.mem_append_left _ (h2 y hy)
    ·exact List.mem_append_right _ hy
theorem firstsP {l:List Unknown} (hl:l.length ≤ 1000000):attribute_firsts l=some (firstsS l):=by
 have:Ok (attribute_firsts l) fun r=>r=firstsS l:=by
  unfold attribute_firsts
  refine .join (fun r=>r=firstsS l) (fun k hk=>?_) fun r hr=>.ret hr
  refine .forX (fun i s=>s.2=firstsS (l.take i)∧∀t,(mget s.1 t).getD false=hasT s.2 t) ⟨rfl,fun t=>rfl⟩ (fun s hs=>hk _ (by rw [hs.1,List.take_length])) ?_
  rintro next x i ⟨m,o⟩ hx ⟨h1,h2⟩ hn
  dsimp only at h1 h2
  have hil:=(List.getElem?_eq_some_iff.1 hx).1
  have hlen:=(firsts_spec (l.take i)).2.2.2
  rw [← h1,List.length_take] at hlen
  have e:l.take (i + 1)=l.take i ++ [x]:=by rw [List.take_add_one,hx];rfl
  have hs:=firstsS_snoc (l.take i) x
  rw [← e,← h1] at hs
  refine .bind (P:=fun v=>v=hasT o x.Type_) ⟨_,rfl,h2 _⟩ fun v hv=>?_
  subst hv
  refine .join (fun r=>r=firstsS (l.take (i + 1))∧∀t,hasT r t=(t == x.Type_ || hasT o t)) (fun k hk=>.ite (fun hc=>.bind (Ok.apnd (by decide) (by simp;omega)) fun r hr=>hk r ?_) fun hc=>hk o ?_) fun r hr=>hn _ ⟨hr.1,fun t=>?_⟩
  ·have hc:hasT o x.Type_=false:=by simpa using hc
   rw [hc,if_neg (by decide)] at hs
   rw [hs,hr]
   refine ⟨rfl,fun t=>?_⟩
   rw [hasT_app,Bool.or_comm]
   unfold hasT;simp
  ·have hc:hasT o x.Type_=true:=by simpa using hc
   rw [hc,if_pos rfl] at hs
   rw [hs]
   refine ⟨rfl,fun t=>?_⟩
   by_cases ht:t=x.Type_
   ·subst ht;rw [hc];simp
   ·have:(t == x.Type_)=false:=by simpa using ht
    rw [this];rfl
  ·dsimp only
   rw [hr.2,mget_mset,← h2]
   cases (t == x.Type_)<;>rfl
 obtain ⟨r,h1,h2⟩:=this
 rw [h1,h2]
def foldS:Attrs→List Unknown→Option Attrs
 | a,[]=>some a
 | a,x::t=>(stepS a x).bind fun a'=>foldS a' t
structure Fit (l:List Unknown) (a:Attrs):Prop where
 d:Dist l
 z :∀x ∈ l,x.Data.length ≤ 1000000
 p :∀x ∈ l,x.Type_=2→a.Path=[]
 c :∀x ∈ l,x.Type_=8→a.Communities=[]
 l :∀x ∈ l,x.Type_=32→a.Large=[]
theorem stepS_keeps {a a':Attrs} {x:Unknown} (h:stepS a x=some a'):(x.Type_ ≠ 2→a'.Path=a.Path)∧(x.Type_ ≠ 8→a'.Communities=a.Communities)∧(x.Type_ ≠ 32→a'.Large=a.Large)∧a'.Other=a.Other:=by
 unfold stepS at h
 split at h
 ·obtain rfl:=Option.some.inj h
  exact ⟨fun _=>rfl,fun _=>rfl,fun _=>rfl,rfl⟩
 ·split at h
  ·unfold readS at h
   rcases fl_cases x.Type_ with ⟨e,_⟩ | ⟨e,_⟩ | ⟨e,_⟩ | ⟨e,_⟩ | ⟨e,_⟩ | ⟨e,_⟩ | ⟨e,_⟩ | ⟨e,_⟩ | ⟨e1,e2,e3,e4,e5,e6,e7,e8,_⟩
   iterate 8
    ·rw [e] at h ⊢
     obtain ⟨v,_,rfl⟩:=Option.map_eq_some_iff.1 h
     exact ⟨fun q=>by first | rfl | exact absurd rfl q,fun q=>by first | rfl | exact absurd rfl q,fun q=>by first | rfl | exact absurd rfl q,rfl⟩
   ·rw [if_neg e1,if_neg e2,if_neg e3,if_neg e4,if_neg e5,if_neg e6,if_neg e7,if_neg e8] at h
    obtain rfl:=Option.some.inj h
    exact ⟨fun _=>rfl,fun _=>rfl,fun _=>rfl,rfl⟩
  ·simp at h
theorem Fit.next {x:Unknown} {t:List Unknown} {a a':Attrs} (f:Fit (x::t) a) (h:stepS a x=some a'):Fit t a':=by
 obtain ⟨k1,k2,k3,_⟩:=stepS_keeps h
 obtain ⟨d1,d2⟩:=List.pairwise_cons.1 f.d
 exact ⟨d2,fun y hy=>f.z y (List.mem_cons_of_mem _ hy),fun y hy e=>(k1 (e ▸ d1 y hy)).trans (f.p y (List.mem_cons_of_mem _ hy) e),
  fun y hy e=>(k2 (e ▸ d1 y hy)).trans (f.c y (List.mem_cons_of_mem _ hy) e),fun y hy e=>(k3 (e ▸ d1 y hy)).trans (f.l y (List.mem_cons_of_mem _ hy) e)⟩
theorem bodyP_eq {ρ:Type} {F:Option ρ} {next:Int×Bool×UInt64×UInt64×Int×Int×Int×(List Segment)×(List Community)×(List Large)→Option ρ} {x:Unknown} {a:Attrs} {t:List Unknown} (f:Fit (x::t) a):bodyP F next x (toP a)=match stepS a x with | none=>F | some a'=>next (toP a'):=by
 have hd:=f.z x (by simp)
 rcases fl_cases x.Type_ with ⟨h,e⟩ | ⟨h,e⟩ | ⟨h,e⟩ | ⟨h,e⟩ | ⟨h,e⟩ | ⟨h,e⟩ | ⟨h,e⟩ | ⟨h,e⟩ | ⟨h1,h2,h3,h4,h5,h6,h7,h8,e⟩
 ·exact bodyP_1 h e
 ·exact bodyP_2 hd h e (f.p x (by simp) h)
 ·exact bodyP_3 h e
 ·exact bodyP_4 h e
 ·exact bodyP_5 h e
 ·exact bodyP_8 hd h e
 ·exact bodyP_32 hd h e
 ·exact bodyP_35 h e
 ·exact bodyP_0 ⟨h1,h2,h3,h4,h5,h6,h7,h8⟩ e
theorem loopP {ρ:Type} {F:Option ρ} {K:Int×Bool×UInt64×UInt64×Int×Int×Int×(List Segment)×(List Community)×(List Large)→Option ρ} :∀(l:List Unknown) (i:Nat) (a:Attrs),Fit l a→forR K (fun next x _ s=>bodyP F next x s) l i (toP a)=match foldS a l with | none=>F | some a'=>K (toP a')
 | [],_,_,_=>rfl
 | x::t,i,a,f=>by
  show bodyP F (fun s=>forR K (fun next x _ s=>bodyP F next x s) t (i + 1) s) x (toP a)=_
  rw [bodyP_eq f]
  unfold foldS
  cases h:stepS a x with
  | none=>rfl
  | some a'=>exact loopP t (i + 1) a' (f.next h)
def keepB (x:Unknown):Bool:=unk x.Type_ && (decide (1 ≤ x.Type_∧x.Type_ ≤ 255) && (bt x.Flags 64 != 0 && decide (x.Data.length ≤ 255)))
def conv (x:Unknown):Unknown:=⟨224,x.Type_,x.Data⟩
def kindsS (l:List Unknown):List Unknown:=(List.range' 1 255).flatMap fun (k:Nat)=>l.flatMap fun x=>if (x.Type_ == (k:Int) && keepB x)=true then [conv x] else []
def keyU (x:Unknown):List Int:=[x.Type_]
theorem keyU_len (a b:Unknown):(keyU a).length=(keyU b).length:=rfl
theorem kinds_mem {l:List Unknown} {y:Unknown}:y ∈ kindsS l ↔∃x ∈ l,keepB x=true∧y=conv x:=by
 unfold kindsS
 simp only [List.mem_flatMap,List.mem_range'_1]
 constructor
 ·rintro ⟨k,hk,x,hx,h⟩
  split at h
  ·rename_i hc
   simp only [Bool.and_eq_true] at hc
   exact ⟨x,hx,hc.2,by simpa using h⟩
  ·simp at h
 ·rintro ⟨x,hx,hk,rfl⟩
  have hk':=hk
  simp only [keepB,Bool.and_eq_true,decide_eq_true_eq] at hk'
  refine ⟨x.Type_.toNat,by omega,x,hx,?_⟩
  rw [if_pos]
  ·simp
  ·rw [hk,Bool.and_true,beq_iff_eq];omega
theorem pw_le_one {α:Type} {R:α→α→Prop} {c:Bool} {x:α}:(if c=true then [x] else []).Pairwise R:=by
 cases c
 ·exact .nil
 ·exact List.pairwise_singleton _ _
theorem kinds_strict {l:List Unknown} (h:Dist l):(kindsS l).Pairwise fun a b=>ltK keyU a b=true:=by
 unfold kindsS
 rw [List.pairwise_flatMap]
 have hm :∀(k:Nat) (x y:Unknown),y ∈ (if (x.Type_ == (k:Int) && keepB x)=true then [conv x] else [])→y.Type_=k∧x.Type_=k:=by
  intro k x y hy
  split at hy
  ·rename_i hc
   simp only [Bool.and_eq_true,beq_iff_eq] at hc
   rw [List.mem_singleton] at hy
   subst hy
   exact ⟨hc.1,hc.1⟩
  ·simp at hy
 constructor
 ·intro k _
  rw [List.pairwise_flatMap]
  refine ⟨fun x _=>pw_le_one,h.imp fun {a b} hab x hx y hy=>?_⟩
  exact absurd ((hm k a x hx).2.trans (hm k b y hy).2.symm) hab
 ·refine (List.pairwise_lt_range' (s:=1) (n:=255)).imp fun {a b} hab x hx y hy=>?_
  obtain ⟨x1,_,hx1⟩:=List.mem_flatMap.1 hx
  obtain ⟨y1,_,hy1⟩:=List.mem_flatMap.1 hy
  have e1:=(hm a x1 x hx1).1
  have e2:=(hm b y1 y hy1).1
  unfold ltK keyU
  rw [decide_eq_true_eq,lexC_cons,if_pos (by omega)]
  decide
end Go.AX.Q33
end
section
namespace Go.AX.Q33
open Go Go.AX
set_option maxRecDepth 8000
def Sm (l:List Unknown):Prop:=l.length ≤ 1000000∧∀x ∈ l,x.Data.length ≤ 1000000
def badB (x:Unknown):Bool:=unk x.Type_ && bt x.Flags 128 == 0
def zA:Attrs:=⟨0,[],(⟨false,(0:UInt64),(0:UInt64)⟩:Addr),0,0,0,[],[],[]⟩
def eA:Attrs:=⟨(-1),[],(⟨false,(0:UInt64),(0:UInt64)⟩:Addr),(-1),(-1),(-1),[],[],[]⟩
def rdS (l:List Unknown):Attrs×Int:=
 if (firstsS l).any badB=true then (zA,12) else match foldS eA (firstsS l) with
 | none=>(zA,13)
 | some a=>if (kindsS (firstsS l)).length > 8 then (zA,3) else ({ a with Other:=kindsS (firstsS l) },0)
theorem Read1_eq (x:Unknown):attribute_Read_1 x=some (badB x):=by
 unfold attribute_Read_1 badB
 rw [joinP_def,attribute_unknown_eq,some_bind']
 show (if unk x.Type_=true then some (cond true (bt x.Flags 128 == 0) false) else some false)=_
 cases unk x.Type_<;>rfl
theorem contains_eq (l:List Unknown):slices_ContainsFunc_api_Unknown_api_Unknown__attribute_Read_1 l=some (l.any badB):=
 contR (f:=attribute_Read_1) (q:=badB) fun x _=>Read1_eq x
theorem fit_first {l:List Unknown} (h:Sm l):Fit (firstsS l) eA:=
 ⟨(firsts_spec l).1,fun x hx=>h.2 x ((firsts_spec l).2.1 x hx),fun _ _ _=>rfl,fun _ _ _=>rfl,fun _ _ _=>rfl⟩
def othP (x:Unknown):List Unknown:=if keepB x=true then [conv x] else []
theorem othP_len (x:Unknown):(othP x).length ≤ 1:=by unfold othP;split<;>simp
theorem flat_len {α β:Type} {g:α→List β} (hg :∀x,(g x).length ≤ 1) :∀l:List α,(l.flatMap g).length ≤ l.length
 | []=>by simp
 | x::t=>by
  rw [List.flatMap_cons,List.length_append,List.length_cons]
  have:=flat_len hg t
  have:=hg x
  omega
theorem oth_mem {l:List Unknown} {y:Unknown}:y ∈ l.flatMap othP ↔∃x ∈ l,keepB x=true∧y=conv x:=by
 rw [List.mem_flatMap]
 constructor
 ·rintro ⟨x,hx,h⟩
  unfold othP at h
  split at h
  ·exact ⟨x,hx,‹_›,by simpa using h⟩
  ·simp at h
 ·rintro ⟨x,hx,hk,rfl⟩
  refine ⟨x,hx,?_⟩
  unfold othP
  rw [if_pos hk];simp
theorem oth_dist {l:List Unknown} (h:Dist l):(l.flatMap othP).Pairwise fun a b=>keyU a ≠ keyU b:=by
 rw [List.pairwise_flatMap]
 refine ⟨fun x _=>pw_le_one,h.imp fun {a b} hab x hx y hy e=>?_⟩
 unfold othP at hx hy
 split at hx
 ·split at hy
  ·rw [List.mem_singleton] at hx hy
   subst hx hy
   exact hab (by simpa [keyU,conv] using e)
  ·simp at hy
 ·simp at hx
theorem Read2_eq (a b:Unknown):attribute_Read_2 a b=some (lexC (keyU a) (keyU b)):=by
 unfold attribute_Read_2 keyU
 rw [cmpI_eq,some_bind']
 unfold cmpI lexC lexC
 rfl
theorem othP_sort {l:List Unknown} (h:Dist l) (hl:l.length ≤ 1000000):sortF attribute_Read_2 (l.flatMap othP)=some (kindsS l):=by
 have hlen:=flat_len othP_len l
 obtain ⟨r,h1,h2,h3⟩:=sortF_K keyU_len Read2_eq (l:=l.flatMap othP) (by omega)
 rw [h1]
 congr 1
 refine ltK_ext keyU_len (strict_of keyU_len h3 ?_) (kinds_strict h) fun x=>?_
 ·exact (h2.pairwise_iff fun h e=>h e.symm).2 (oth_dist h)
 ·rw [h2.mem_iff,oth_mem,kinds_mem]
theorem kinds_len {l:List Unknown} (h:Dist l) (hl:l.length ≤ 1000000):(kindsS l).length=(l.flatMap othP).length:=by
 exact (sortF_len (othP_sort h hl))
theorem othR {l:List Unknown} (hl:l.length ≤ 1000000) (hz :∀x ∈ l,x.Data.length ≤ 1000000) {ρ:Type} {K:List Unknown→Option ρ} :
  forR (σ:=List Unknown) K (fun next x _ v=>
   joinP (τ:=Bool) (fun k198=>
      Option.bind (attribute_unknown x.Type_) fun v199=>
      if v199=true then
       Option.bind (attribute_within x.Type_ 1 255) fun v200=>
       if (cond true v200 false)=true then
        if (cond true ((i64w ((BitVec.ofInt 64 x.Flags &&& BitVec.ofInt 64 64).toNat:Int)) != 0) false)=true then
         k198 (cond true (decide ((x.Data.length:Int) ≤ 255)) false)
        else
         k198 false
       else
        k198 false
      else
       k198 false
     ) fun v201=>
     joinP (τ:=(List Unknown)) (fun k202=>
      if v201=true then
       Option.bind (slices_Clone_byte_byte x.Data) fun v203=>
       Option.bind (apnd (α:=Unknown) 40 v ([(⟨224,x.Type_,v203⟩:Unknown)]:List Unknown)) fun v204=>
       k202 v204
      else
       k202 v
     ) fun v205=>
     next v205) l 0 []=K (l.flatMap othP):=by
 have hlen:=flat_len othP_len l
 refine (appR (g:=othP) (N:=1000000) (by simp only [List.length_nil];omega) fun next x i v hx hv=>?_).trans (by rw [List.nil_append])
 have hc :∀k:Bool→Option ρ,joinP (τ:=Bool) (fun k198=>
      Option.bind (attribute_unknown x.Type_) fun v199=>
      if v199=true then
       Option.bind (attribute_within x.Type_ 1 255) fun v200=>
       if (cond true v200 false)=true then
        if (cond true ((i64w ((BitVec.ofInt 64 x.Flags &&& BitVec.ofInt 64 64).toNat:Int)) != 0) false)=true then
         k198 (cond true (decide ((x.Data.length:Int) ≤ 255)) false)
        else
         k198 false
       else
        k198 false
      else
       k198 false
     ) k=k (keepB x):=by
  intro k
  unfold keepB
  have d1:(i64w ((BitVec.ofInt 64 x.Flags &&& BitVec.ofInt 64 64).toNat:Int))=bt x.Flags 64:=rfl
  have d2:decide ((x.Data.length:Int) ≤ 255)=decide (x.Data.length ≤ 255):=by rw [Bool.eq_iff_iff];simp;omega
  have d3:decide (1 ≤ x.Type_∧x.Type_ ≤ 255)=(decide (1 ≤ x.Type_) && decide (x.Type_ ≤ 255)):=by rw [Bool.eq_iff_iff];simp
  rw [joinP_def,attribute_unknown_eq,some_bind',within_eq,some_bind',d1,d2,d3]
  cases unk x.Type_<;>cases decide (1 ≤ x.Type_)<;>cases decide (x.Type_ ≤ 255)<;>cases (bt x.Flags 64 != 0)<;>cases decide (x.Data.length ≤ 255)<;>rfl
 rw [hc,joinP_def]
 unfold othP at hv ⊢
 by_cases hk:keepB x=true
 ·rw [if_pos hk] at hv
  have:=hz x hx
  simp only [List.length_singleton] at hv
  rw [if_pos hk,if_pos hk]
  unfold slices_Clone_byte_byte
  rw [apnd_some (by decide) (by simp;omega),some_bind',some_bind',List.nil_append,apnd_some (by decide) (by simp;omega),some_bind']
  rfl
 ·rw [if_neg hk,if_neg hk,List.append_nil]
theorem Read_gen {l:List Unknown} (h:Sm l):attribute_Read l=some (rdS l):=by
 obtain ⟨h1,h2⟩:=h
 have hlen:=(firsts_spec l).2.2.2
 have hm:=(firsts_spec l).2.1
 unfold attribute_Read rdS
 rw [firstsP h1,some_bind',contains_eq,some_bind']
 by_cases hb:(firstsS l).any badB=true
 ·rw [if_pos hb,if_pos hb];rfl
 rw [if_neg hb,if_neg hb,joinP_def,joinP_def]
 rw [joinP_def]
 refine (loopP (firstsS l) 0 eA (fit_first ⟨h1,h2⟩)).trans ?_
 cases hf:foldS eA (firstsS l) with
 | none=>rfl
 | some a=>
  show (if (!true)=true then _ else joinP _ _)=_
  rw [if_neg (by decide),joinP_def]
  refine (othR (l:=firstsS l) (by omega) fun x hx=>h2 x (hm x hx)).trans ?_
  have hk:=kinds_len (l:=firstsS l) (firsts_spec l).1 (by omega)
  show (if decide (((List.flatMap othP (firstsS l)).length:Int) > 8)=true then _ else _)=_
  by_cases h8:(kindsS (firstsS l)).length > 8
  ·rw [if_pos (by simp only [decide_eq_true_eq];omega)]
   show _=some (if (kindsS (firstsS l)).length > 8 then _ else _)
   rw [if_pos h8];rfl
  ·rw [if_neg (by simp only [decide_eq_true_eq];omega),othP_sort (firsts_spec l).1 (by omega),some_bind']
   show _=some (if (kindsS (firstsS l)).length > 8 then _ else _)
   rw [if_neg h8]
end Go.AX.Q33
end
section
namespace Go.AX.Q33
open Go Go.AX
set_option maxRecDepth 8000
end Go.AX.Q33
end
section
namespace Go.AX.Q33
open Go Go.AX
set_option maxRecDepth 8000
def hd4 (x:UInt8):Bool:=(((toU8 ((BitVec.ofInt 8 (x.toNat:Int) &&& BitVec.ofInt 8 16).toNat:Int)).toNat:Int) != 0)
def hdN (x:UInt8):Nat:=if hd4 x=true then 4 else 3
def flagsOf (x:UInt8):Int:=((toU8 ((BitVec.ofInt 8 (x.toNat:Int) &&& BitVec.ofInt 8 224).toNat:Int)).toNat:Int)
def sizeOf (b:List UInt8) (h:Nat):Nat:=val ((b.drop 2).take (h - 2))
def stp (x:UInt8) (t:List UInt8):Option (Unknown×List UInt8):=
 if (x::t).length < hdN x ∨ (x::t).length - hdN x < sizeOf (x::t) (hdN x) then none else
  some (⟨flagsOf x,((t.headD 0).toNat:Int),((x::t).drop (hdN x)).take (sizeOf (x::t) (hdN x))⟩,(x::t).drop (hdN x + sizeOf (x::t) (hdN x)))
def spl:Nat→List UInt8→List Unknown→Option (List Unknown)
 | _,[],acc=>some acc
 | n + 1,x::t,acc=>match stp x t with
  | none=>none
  | some (u,r)=>spl n r (acc ++ [u])
 | 0,_::_,_=>none
theorem hdN_or (x:UInt8):hdN x=4 ∨ hdN x=3:=by unfold hdN;split<;>simp
theorem stp_len {x:UInt8} {t:List UInt8} {u:Unknown} {r:List UInt8} (h:stp x t=some (u,r)):r.length + 3 ≤ (x::t).length∧u.Data.length + r.length ≤ (x::t).length:=by
 unfold stp at h
 split at h
 ·cases h
 ·rename_i hc
  simp only [Option.some.injEq,Prod.mk.injEq] at h
  obtain ⟨rfl,rfl⟩:=h
  have:=hdN_or x
  simp only [List.length_drop,List.length_take,List.length_cons] at hc ⊢
  omega
theorem spl_nil (n:Nat) (acc:List Unknown):spl n [] acc=some acc:=by cases n<;>rfl
theorem spl_fuel :∀(n m:Nat) (b:List UInt8) (acc:List Unknown),b.length ≤ n→b.length ≤ m→spl n b acc=spl m b acc
 | n,m,[],acc,_,_=>by rw [spl_nil,spl_nil]
 | n + 1,m + 1,x::t,acc,h1,h2=>by
  simp only [spl]
  cases h:stp x t with
  | none=>rfl
  | some p=>
   obtain ⟨u,r⟩:=p
   have:=(stp_len h).1
   exact spl_fuel n m r _ (by omega) (by omega)
 | 0,_,_::_,_,h,_=>by simp at h
 | _,0,_::_,_,_,h=>by simp at h
def splL (b:List UInt8) (acc:List Unknown):Option (List Unknown):=spl b.length b acc
theorem splL_cons (x:UInt8) (t:List UInt8) (acc:List Unknown):splL (x::t) acc=match stp x t with | none=>none | some (u,r)=>splL r (acc ++ [u]):=by
 unfold splL
 rw [List.length_cons]
 simp only [spl]
 cases h:stp x t with
 | none=>rfl
 | some p=>
  obtain ⟨u,r⟩:=p
  have:=(stp_len h).1
  simp only [List.length_cons] at this
  exact spl_fuel _ _ r _ (by omega) (by omega)
def splitR (b:List UInt8):List Unknown×Int:=match splL b [] with
 | none=>([],12)
 | some l=>(l,0)
theorem getB_mid {b:List UInt8} {h:Nat} (hh:h=4 ∨ h=3) (hb:h ≤ b.length):getB ((b.drop 2).take (h - 2))=(sizeOf b h:Int)∧sizeOf b h < 65536:=by
 unfold sizeOf
 have hl:((b.drop 2).take (h - 2)).length=h - 2:=by simp only [List.length_take,List.length_drop];omega
 refine ⟨getB_eq (by omega),?_⟩
 have:=val_lt ((b.drop 2).take (h - 2))
 rw [hl] at this
 rcases hh with rfl | rfl
 ·exact this
 ·have h2:(256:Nat) ^ (3 - 2)=256:=rfl
  omega
theorem part2h {b:List UInt8} {h:Nat} (h2:2 ≤ h) (hb:h ≤ b.length):part b 2 (h:Int)=some ((b.drop 2).take (h - 2)):=part_nat (l:=b) (a:=2) (b:=h) h2 hb
theorem Split_prog {b:List UInt8} (hb:b.length ≤ 1000000):attribute_Split b=some (splitR b):=by
 unfold attribute_Split
 rw [joinP_def]
 refine (whileR_eq (fun s:List UInt8×List Unknown=>s.1.length + s.2.length ≤ 1000000) (fun s=>s.1.length) (fun s=>some (match splL s.1 s.2 with | none=>([],12) | some l=>(l,0))) ?_ fuel (b,[]) (by simpa using hb) (lt_fuel (by simp only;omega))).trans rfl
 rintro next ⟨b,acc⟩ hl hn
 dsimp only at hl ⊢
 match b,hl,hn with
 | [],_,_=>rfl
 | x::t,hl,hn=>
  have h0:geti (x::t) 0=some x:=geti_0
  have hN:=hdN_or x
  have hjoin :∀K:Int→Option (List Unknown×Int),joinP (τ:=Int) (fun k6=>if (((toU8 ((BitVec.ofInt 8 (x.toNat:Int) &&& BitVec.ofInt 8 16).toNat:Int)).toNat:Int) != 0)=true then k6 4 else k6 3) K=K (hdN x:Int):=by
   intro K
   rw [joinP_def]
   unfold hdN
   show (if hd4 x=true then K 4 else K 3)=_
   cases hd4 x<;>rfl
  rw [if_pos (by simp),h0,some_bind',hjoin,splL_cons,joinP_def]
  simp only [List.length_cons] at hl
  by_cases c1:(x::t).length < hdN x
  ·have:stp x t=none:=by unfold stp;rw [if_pos (.inl c1)]
   rw [this,if_pos (by simp only [decide_eq_true_eq];omega)]
   rfl
  ·obtain ⟨g1,g2⟩:=getB_mid hN (by omega:hdN x ≤ (x::t).length)
   have hp:=part2h (b:=x::t) (h:=hdN x) (by omega) (by omega)
   rw [if_neg (by simp only [decide_eq_true_eq];omega),hp,some_bind',attribute_get_eq,some_bind',g1,i64w_id (x:=((x::t).length:Int) - (hdN x:Int)) (by simp only [List.length_cons];omega)]
   by_cases c2:(x::t).length - hdN x < sizeOf (x::t) (hdN x)
   ·have:stp x t=none:=by unfold stp;rw [if_pos (.inr c2)]
    have e:decide (((x::t).length:Int) - (hdN x:Int) < (sizeOf (x::t) (hdN x):Int))=true:=decide_eq_true (by omega)
    rw [this,e]
    rfl
   ·have hs:stp x t=some (⟨flagsOf x,((t.headD 0).toNat:Int),((x::t).drop (hdN x)).take (sizeOf (x::t) (hdN x))⟩,(x::t).drop (hdN x + sizeOf (x::t) (hdN x))):=by
     unfold stp
     rw [if_neg (fun q=>q.elim c1 c2)]
    have e:decide (((x::t).length:Int) - (hdN x:Int) < (sizeOf (x::t) (hdN x):Int))=false:=decide_eq_false (by omega)
    obtain ⟨y,t2,rfl⟩ :∃y t2,t=y::t2:=by
     cases t with
     | nil=>simp at c1;omega
     | cons y t2=>exact ⟨y,t2,rfl⟩
    simp only [List.length_cons] at hl
    have h1:geti (x::y::t2) 1=some y:=geti_1
    rw [hs,e]
    show (if (cond false true false)=true then _ else _)=_
    have hp3:part (x::y::t2) (hdN x:Int) ((hdN x + sizeOf (x::y::t2) (hdN x):Nat):Int)=some (((x::y::t2).drop (hdN x)).take (sizeOf (x::y::t2) (hdN x))):=by
     rw [part_nat (by omega) (by omega)]
     congr 2
     omega
    have hp4:part (x::y::t2) ((hdN x + sizeOf (x::y::t2) (hdN x):Nat):Int) ((x::y::t2).length:Int)=some ((x::y::t2).drop (hdN x + sizeOf (x::y::t2) (hdN x))):=part_suf (by omega)
    rw [if_neg (by decide),some_bind',attribute_get_eq,some_bind',g1,some_bind',h1,some_bind',i64w_id (by omega),show (hdN x:Int) + (sizeOf (x::y::t2) (hdN x):Int)=((hdN x + sizeOf (x::y::t2) (hdN x):Nat):Int) by omega,hp3,some_bind',
     apnd_some (by decide) (by simp only [List.length_nil,List.length_take,List.length_drop];omega),some_bind',apnd_some (by decide) (by simp only [List.length_singleton];omega),some_bind',hp4,some_bind']
    exact hn _ (by simp only [List.length_append,List.length_drop,List.length_cons,List.length_nil];omega) (by simp only [List.length_drop,List.length_cons];omega)
theorem spl_size :∀(n:Nat) (b:List UInt8) (acc l:List Unknown) (N:Nat),spl n b acc=some l→(∀u ∈ acc,u.Data.length ≤ N)→b.length ≤ N→(l.length ≤ acc.length + b.length∧∀u ∈ l,u.Data.length ≤ N)
 | n,[],acc,l,N,h,ha,_=>by
  rw [spl_nil] at h
  obtain rfl:=Option.some.inj h
  exact ⟨by simp,ha⟩
 | n + 1,x::t,acc,l,N,h,ha,hb=>by
  simp only [spl] at h
  cases hs:stp x t with
  | none=>rw [hs] at h;cases h
  | some p=>
   obtain ⟨u,r⟩:=p
   rw [hs] at h
   have h2:=stp_len hs
   have ih:=spl_size n r (acc ++ [u]) l N h (fun w hw=>by
    rcases List.mem_append.1 hw with hw | hw
    ·exact ha w hw
    ·rw [List.mem_singleton] at hw
     subst hw
     omega) (by omega)
   refine ⟨?_,ih.2⟩
   have:=ih.1
   simp only [List.length_append,List.length_singleton] at this
   omega
 | 0,_::_,_,_,_,h,_,_=>by cases h
theorem split_sm {b:List UInt8} (hb:b.length ≤ 400000) {l:List Unknown} (h:splL b []=some l):l.length ≤ 400000∧∀u ∈ l,u.Data.length ≤ 400000:=by
 have:=spl_size _ _ _ _ 400000 h (by simp) hb
 simp only [List.length_nil] at this
 exact ⟨by omega,this.2⟩
end Go.AX.Q33
end
