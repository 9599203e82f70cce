/-
  Texts of one proof, packed.
-/
import Derived.Test.YtckndjeehbfpkaaGreatDoorK4
import Derived.Test.YtckndjeehbfpkaaGreatDoorK5
import Derived.Test.YtckndjeehbfpkaaGreatDoorK7
import Derived.Test.YtckndjeehbfpkaaGreatDoorK9
import Derived.Below
import Derived.ChangeOld
import Derived.LaidMore
import Derived.Lay
import Derived.MakeChecks
import Derived.OpenShut
import Derived.ProofKit
import Derived.SevenTiedAt
import Derived.ShutString
import Derived.Test.YtckndjeehbfpkaaGreatDoorCards
import Derived.Test.YtckndjeehbfpkaaGreatDoorRows
import Derived.Test.YtckndjeehbfpkaaGreatDoorTie
import Derived.WalkKit
set_option linter.all false
set_option maxRecDepth 100000
set_option maxHeartbeats 4000000
open Option.some renaming inj→X25
open Bool renaming and_eq_true→X27
section
namespace Go.Proofs.YtckndjeehbfpkaaGreatDoor.filterValid
open Go.ChangeShapes Go.WideShapes Go.ChangeAt Go.RowKit Go.AX Go.AX.Q24
set_option linter.unusedVariables false
theorem own:ownKnob Tryz.prog.godebug=none:=by kernel_rfl
theorem laidOut:laidOutB Tryz.prog=true:=by kernel_rfl
theorem reads3 {H:Type} {enc:TypeId×Value->H} {w:World}:Go.AX.Reads enc Tryz.prog w 3 (fun x:Int=>[D.i x]) (fun a:Int=>I64 a):=
 Go.AX.reads_i64 Tryz.underlying3
theorem reads4 {H:Type} {enc:TypeId×Value->H} {w:World}:Go.AX.Reads enc Tryz.prog w 4 (fun x:Bool=>[D.b x]) (fun a:Bool=>True):=
 Go.AX.reads_bool Tryz.underlying4
theorem reads39 {H:Type} {enc:TypeId×Value->H} {w:World}:Go.AX.Reads enc Tryz.prog w 39 (fun x:UInt64=>[D.u64 x]) (fun a:UInt64=>True):=
 Go.AX.reads_u64 Tryz.underlying39
theorem reads41 {H:Type} {enc:TypeId×Value->H} {w:World}:Go.AX.Reads enc Tryz.prog w 41 (fun x:Go.AX.Q24.Addr=>[D.b x.V6,D.u64 x.Hi,D.u64 x.Lo]) (fun a:Go.AX.Q24.Addr=>Go.AX.Q24.Addr.wf a):=
 Go.AX.ReadsL.map' (Go.AX.reads_struct Tryz.underlying41 (by kernel_rfl) (Go.AX.readsF_cons (sz:=1) reads4 (Go.AX.readsF_cons (sz:=1) reads39 (Go.AX.readsF_cons (sz:=1) reads39 (Go.AX.readsF_nil))))) (fun x=>(⟨x.1,x.2.1,x.2.2.1⟩:Go.AX.Q24.Addr)) (fun _ _=>rfl) (fun _ h=>h)
theorem reads43 {H:Type} {enc:TypeId×Value->H} {w:World}:Go.AX.Reads enc Tryz.prog w 43 (fun x:Go.AX.Q24.JAA=>[D.b x.Addr.V6,D.u64 x.Addr.Hi,D.u64 x.Addr.Lo,D.i x.Len]) (fun a:Go.AX.Q24.JAA=>Go.AX.Q24.JAA.wf a):=
 Go.AX.ReadsL.map' (Go.AX.reads_struct Tryz.underlying43 (by kernel_rfl) (Go.AX.readsF_cons (sz:=3) reads41 (Go.AX.readsF_cons (sz:=1) reads3 (Go.AX.readsF_nil)))) (fun x=>(⟨x.1,x.2.1⟩:Go.AX.Q24.JAA)) (fun _ _=>rfl) (fun _ h=>h)
theorem reads25 {H:Type} {enc:TypeId×Value->H} {w:World}:Go.AX.Reads enc Tryz.prog w 25 (fun x:List Go.AX.Q24.JAA=>[D.l 4 Go.AX.Q24.JAA.toD x]) (fun a:List Go.AX.Q24.JAA=>(a.length<=maxLen/\a.length * 32<=reachBytes/\∀y0 ∈ a,Go.AX.Q24.JAA.wf y0)):=
 Go.AX.reads_slice (el:=Go.AX.Q24.JAA.toD) (sz:=4) (by':=32) Tryz.underlying25 (by kernel_rfl) (by decide) (by kernel_rfl) reads43
theorem reads71 {H:Type} {enc:TypeId×Value->H} {w:World}:Go.AX.Reads enc Tryz.prog w 71 (fun x:Go.AX.Q24.JAN=>[D.i x.From,D.i x.To]) (fun a:Go.AX.Q24.JAN=>Go.AX.Q24.JAN.wf a):=
 Go.AX.ReadsL.map' (Go.AX.reads_struct Tryz.underlying71 (by kernel_rfl) (Go.AX.readsF_cons (sz:=1) reads3 (Go.AX.readsF_cons (sz:=1) reads3 (Go.AX.readsF_nil)))) (fun x=>(⟨x.1,x.2.1⟩:Go.AX.Q24.JAN)) (fun _ _=>rfl) (fun _ h=>h)
theorem reads26 {H:Type} {enc:TypeId×Value->H} {w:World}:Go.AX.Reads enc Tryz.prog w 26 (fun x:List Go.AX.Q24.JAN=>[D.l 2 Go.AX.Q24.JAN.toD x]) (fun a:List Go.AX.Q24.JAN=>(a.length<=maxLen/\a.length * 16<=reachBytes/\∀y0 ∈ a,Go.AX.Q24.JAN.wf y0)):=
 Go.AX.reads_slice (el:=Go.AX.Q24.JAN.toD) (sz:=2) (by':=16) Tryz.underlying26 (by kernel_rfl) (by decide) (by kernel_rfl) reads71
theorem reads22 {H:Type} {enc:TypeId×Value->H} {w:World}:Go.AX.Reads enc Tryz.prog w 22 (fun x:List Int=>[D.l 1 D.i x]) (fun a:List Int=>(a.length<=maxLen/\a.length * 8<=reachBytes/\∀y0 ∈ a,I64 y0)):=
 Go.AX.reads_slice (el:=D.i) (sz:=1) (by':=8) Tryz.underlying22 (by kernel_rfl) (by decide) (by kernel_rfl) reads3
theorem reads9 {H:Type} {enc:TypeId×Value->H} {w:World}:Go.AX.Reads enc Tryz.prog w 9 (fun x:ByteArray=>[D.s x]) (fun a:ByteArray=>(a.size<=maxLen/\a.size<=reachBytes)):=
 Go.AX.reads_string Tryz.underlying9
theorem reads82 {H:Type} {enc:TypeId×Value->H} {w:World}:Go.AX.Reads enc Tryz.prog w 82 (fun x:List ByteArray=>[D.l 1 D.s x]) (fun a:List ByteArray=>(a.length<=maxLen/\a.length * 16<=reachBytes/\∀y0 ∈ a,(y0.size<=maxLen/\y0.size<=reachBytes))):=
 Go.AX.reads_slice (el:=D.s) (sz:=1) (by':=16) Tryz.underlying82 (by kernel_rfl) (by decide) (by kernel_rfl) reads9
theorem reads84 {H:Type} {enc:TypeId×Value->H} {w:World}:Go.AX.Reads enc Tryz.prog w 84 (fun x:Go.AX.Q24.Set=>[D.s x.Name,D.l 1 D.i x.ASNs,D.l 1 D.s x.Sets]) (fun a:Go.AX.Q24.Set=>Go.AX.Q24.Set.wf a):=
 Go.AX.ReadsL.map' (Go.AX.reads_struct Tryz.underlying84 (by kernel_rfl) (Go.AX.readsF_cons (sz:=1) reads9 (Go.AX.readsF_cons (sz:=1) reads22 (Go.AX.readsF_cons (sz:=1) reads82 (Go.AX.readsF_nil))))) (fun x=>(⟨x.1,x.2.1,x.2.2.1⟩:Go.AX.Q24.Set)) (fun _ _=>rfl) (fun _ h=>h)
theorem reads27 {H:Type} {enc:TypeId×Value->H} {w:World}:Go.AX.Reads enc Tryz.prog w 27 (fun x:List Go.AX.Q24.Set=>[D.l 3 Go.AX.Q24.Set.toD x]) (fun a:List Go.AX.Q24.Set=>(a.length<=maxLen/\a.length * 64<=reachBytes/\∀y0 ∈ a,Go.AX.Q24.Set.wf y0)):=
 Go.AX.reads_slice (el:=Go.AX.Q24.Set.toD) (sz:=3) (by':=64) Tryz.underlying27 (by kernel_rfl) (by decide) (by kernel_rfl) reads84
theorem reads57 {H:Type} {enc:TypeId×Value->H} {w:World}:Go.AX.Reads enc Tryz.prog w 57 (fun x:Go.AX.Q24.JAB=>[D.b x.JAA.Addr.V6,D.u64 x.JAA.Addr.Hi,D.u64 x.JAA.Addr.Lo,D.i x.JAA.Len,D.i x.Max,D.i x.ASN]) (fun a:Go.AX.Q24.JAB=>Go.AX.Q24.JAB.wf a):=
 Go.AX.ReadsL.map' (Go.AX.reads_struct Tryz.underlying57 (by kernel_rfl) (Go.AX.readsF_cons (sz:=4) reads43 (Go.AX.readsF_cons (sz:=1) reads3 (Go.AX.readsF_cons (sz:=1) reads3 (Go.AX.readsF_nil))))) (fun x=>(⟨x.1,x.2.1,x.2.2.1⟩:Go.AX.Q24.JAB)) (fun _ _=>rfl) (fun _ h=>h)
theorem reads28 {H:Type} {enc:TypeId×Value->H} {w:World}:Go.AX.Reads enc Tryz.prog w 28 (fun x:List Go.AX.Q24.JAB=>[D.l 6 Go.AX.Q24.JAB.toD x]) (fun a:List Go.AX.Q24.JAB=>(a.length<=maxLen/\a.length * 48<=reachBytes/\∀y0 ∈ a,Go.AX.Q24.JAB.wf y0)):=
 Go.AX.reads_slice (el:=Go.AX.Q24.JAB.toD) (sz:=6) (by':=48) Tryz.underlying28 (by kernel_rfl) (by decide) (by kernel_rfl) reads57
theorem reads30 {H:Type} {enc:TypeId×Value->H} {w:World}:Go.AX.Reads enc Tryz.prog w 30 (fun x:Go.AX.Q24.JAD=>[D.l 3 Go.AX.Q24.Set.toD x.Sets,D.l 6 Go.AX.Q24.JAB.toD x.Objects]) (fun a:Go.AX.Q24.JAD=>Go.AX.Q24.JAD.wf a):=
 Go.AX.ReadsL.map' (Go.AX.reads_struct Tryz.underlying30 (by kernel_rfl) (Go.AX.readsF_cons (sz:=1) reads27 (Go.AX.readsF_cons (sz:=1) reads28 (Go.AX.readsF_nil)))) (fun x=>(⟨x.1,x.2.1⟩:Go.AX.Q24.JAD)) (fun _ _=>rfl) (fun _ h=>h)
theorem reads32 {H:Type} {enc:TypeId×Value->H} {w:World}:Go.AX.Reads enc Tryz.prog w 32 (fun x:Go.AX.Q24.JAI=>[D.i x.Own,D.l 4 Go.AX.Q24.JAA.toD x.LANs,D.i x.Min4,D.i x.Max4,D.i x.Min6,D.i x.Max6,D.i x.Hole4,D.i x.Hole6,D.l 4 Go.AX.Q24.JAA.toD x.Bogons,D.l 2 Go.AX.Q24.JAN.toD x.Private,D.l 1 D.i x.Free,D.i x.Hops,D.l 3 Go.AX.Q24.Set.toD x.JAD.Sets,D.l 6 Go.AX.Q24.JAB.toD x.JAD.Objects,D.l 6 Go.AX.Q24.JAB.toD x.Origins]) (fun a:Go.AX.Q24.JAI=>Go.AX.Q24.JAI.wf a):=
 Go.AX.ReadsL.map' (Go.AX.reads_struct Tryz.underlying32 (by kernel_rfl) (Go.AX.readsF_cons (sz:=1) reads3 (Go.AX.readsF_cons (sz:=1) reads25 (Go.AX.readsF_cons (sz:=1) reads3 (Go.AX.readsF_cons (sz:=1) reads3 (Go.AX.readsF_cons (sz:=1) reads3 (Go.AX.readsF_cons (sz:=1) reads3 (Go.AX.readsF_cons (sz:=1) reads3 (Go.AX.readsF_cons (sz:=1) reads3 (Go.AX.readsF_cons (sz:=1) reads25 (Go.AX.readsF_cons (sz:=1) reads26 (Go.AX.readsF_cons (sz:=1) reads22 (Go.AX.readsF_cons (sz:=1) reads3 (Go.AX.readsF_cons (sz:=2) reads30 (Go.AX.readsF_cons (sz:=1) reads28 (Go.AX.readsF_nil)))))))))))))))) (fun x=>(⟨x.1,x.2.1,x.2.2.1,x.2.2.2.1,x.2.2.2.2.1,x.2.2.2.2.2.1,x.2.2.2.2.2.2.1,x.2.2.2.2.2.2.2.1,x.2.2.2.2.2.2.2.2.1,x.2.2.2.2.2.2.2.2.2.1,x.2.2.2.2.2.2.2.2.2.2.1,x.2.2.2.2.2.2.2.2.2.2.2.1,x.2.2.2.2.2.2.2.2.2.2.2.2.1,x.2.2.2.2.2.2.2.2.2.2.2.2.2.1⟩:Go.AX.Q24.JAI)) (fun _ _=>rfl) (fun _ h=>h)
theorem reads34 {H:Type} {enc:TypeId×Value->H} {w:World}:Go.AX.Reads enc Tryz.prog w 34 (fun x:List Go.AX.Q24.Addr=>[D.l 3 Go.AX.Q24.Addr.toD x]) (fun a:List Go.AX.Q24.Addr=>(a.length<=maxLen/\a.length * 24<=reachBytes/\∀y0 ∈ a,Go.AX.Q24.Addr.wf y0)):=
 Go.AX.reads_slice (el:=Go.AX.Q24.Addr.toD) (sz:=3) (by':=24) Tryz.underlying34 (by kernel_rfl) (by decide) (by kernel_rfl) reads41
theorem reads36 {H:Type} {enc:TypeId×Value->H} {w:World}:Go.AX.Reads enc Tryz.prog w 36 (fun x:Go.AX.Q24.JAO=>[D.i x.ASN,D.s x.Set,D.i x.Max4,D.i x.Max6,D.l 3 Go.AX.Q24.Addr.toD x.Nexts]) (fun a:Go.AX.Q24.JAO=>Go.AX.Q24.JAO.wf a):=
 Go.AX.ReadsL.map' (Go.AX.reads_struct Tryz.underlying36 (by kernel_rfl) (Go.AX.readsF_cons (sz:=1) reads3 (Go.AX.readsF_cons (sz:=1) reads9 (Go.AX.readsF_cons (sz:=1) reads3 (Go.AX.readsF_cons (sz:=1) reads3 (Go.AX.readsF_cons (sz:=1) reads34 (Go.AX.readsF_nil))))))) (fun x=>(⟨x.1,x.2.1,x.2.2.1,x.2.2.2.1,x.2.2.2.2.1⟩:Go.AX.Q24.JAO)) (fun _ _=>rfl) (fun _ h=>h)
theorem reads89 {H:Type} {enc:TypeId×Value->H} {w:World}:Go.AX.Reads enc Tryz.prog w 89 (fun x:Go.AX.Q24.JAE=>[D.b x.Set,D.l 1 D.i x.ASNs]) (fun a:Go.AX.Q24.JAE=>Go.AX.Q24.JAE.wf a):=
 Go.AX.ReadsL.map' (Go.AX.reads_struct Tryz.underlying89 (by kernel_rfl) (Go.AX.readsF_cons (sz:=1) reads4 (Go.AX.readsF_cons (sz:=1) reads22 (Go.AX.readsF_nil)))) (fun x=>(⟨x.1,x.2.1⟩:Go.AX.Q24.JAE)) (fun _ _=>rfl) (fun _ h=>h)
theorem reads44 {H:Type} {enc:TypeId×Value->H} {w:World}:Go.AX.Reads enc Tryz.prog w 44 (fun x:List Go.AX.Q24.JAE=>[D.l 2 Go.AX.Q24.JAE.toD x]) (fun a:List Go.AX.Q24.JAE=>(a.length<=maxLen/\a.length * 32<=reachBytes/\∀y0 ∈ a,Go.AX.Q24.JAE.wf y0)):=
 Go.AX.reads_slice (el:=Go.AX.Q24.JAE.toD) (sz:=2) (by':=32) Tryz.underlying44 (by kernel_rfl) (by decide) (by kernel_rfl) reads89
theorem reads94 {H:Type} {enc:TypeId×Value->H} {w:World}:Go.AX.Reads enc Tryz.prog w 94 (fun x:Go.AX.Q24.JAC=>[D.i x.A,D.i x.B]) (fun a:Go.AX.Q24.JAC=>Go.AX.Q24.JAC.wf a):=
 Go.AX.ReadsL.map' (Go.AX.reads_struct Tryz.underlying94 (by kernel_rfl) (Go.AX.readsF_cons (sz:=1) reads3 (Go.AX.readsF_cons (sz:=1) reads3 (Go.AX.readsF_nil)))) (fun x=>(⟨x.1,x.2.1⟩:Go.AX.Q24.JAC)) (fun _ _=>rfl) (fun _ h=>h)
theorem reads45 {H:Type} {enc:TypeId×Value->H} {w:World}:Go.AX.Reads enc Tryz.prog w 45 (fun x:List Go.AX.Q24.JAC=>[D.l 2 Go.AX.Q24.JAC.toD x]) (fun a:List Go.AX.Q24.JAC=>(a.length<=maxLen/\a.length * 16<=reachBytes/\∀y0 ∈ a,Go.AX.Q24.JAC.wf y0)):=
 Go.AX.reads_slice (el:=Go.AX.Q24.JAC.toD) (sz:=2) (by':=16) Tryz.underlying45 (by kernel_rfl) (by decide) (by kernel_rfl) reads94
theorem reads154 {H:Type} {enc:TypeId×Value->H} {w:World}:Go.AX.Reads enc Tryz.prog w 154 (fun x:Go.AX.Q24.JAH=>[D.i x.A,D.i x.B,D.i x.C]) (fun a:Go.AX.Q24.JAH=>Go.AX.Q24.JAH.wf a):=
 Go.AX.ReadsL.map' (Go.AX.reads_struct Tryz.underlying154 (by kernel_rfl) (Go.AX.readsF_cons (sz:=1) reads3 (Go.AX.readsF_cons (sz:=1) reads3 (Go.AX.readsF_cons (sz:=1) reads3 (Go.AX.readsF_nil))))) (fun x=>(⟨x.1,x.2.1,x.2.2.1⟩:Go.AX.Q24.JAH)) (fun _ _=>rfl) (fun _ h=>h)
theorem reads46 {H:Type} {enc:TypeId×Value->H} {w:World}:Go.AX.Reads enc Tryz.prog w 46 (fun x:List Go.AX.Q24.JAH=>[D.l 3 Go.AX.Q24.JAH.toD x]) (fun a:List Go.AX.Q24.JAH=>(a.length<=maxLen/\a.length * 24<=reachBytes/\∀y0 ∈ a,Go.AX.Q24.JAH.wf y0)):=
 Go.AX.reads_slice (el:=Go.AX.Q24.JAH.toD) (sz:=3) (by':=24) Tryz.underlying46 (by kernel_rfl) (by decide) (by kernel_rfl) reads154
theorem reads5 {H:Type} {enc:TypeId×Value->H} {w:World}:Go.AX.Reads enc Tryz.prog w 5 (fun x:UInt8=>[D.u8 x]) (fun a:UInt8=>True):=
 Go.AX.reads_u8 Tryz.underlying5
theorem reads97 {H:Type} {enc:TypeId×Value->H} {w:World}:Go.AX.Reads enc Tryz.prog w 97 (fun x:List UInt8=>[D.l 1 D.u8 x]) (fun a:List UInt8=>(a.length<=maxLen/\a.length * 1<=reachBytes/\∀y0 ∈ a,True)):=
 Go.AX.reads_slice (el:=D.u8) (sz:=1) (by':=1) Tryz.underlying97 (by kernel_rfl) (by decide) (by kernel_rfl) reads5
theorem reads99 {H:Type} {enc:TypeId×Value->H} {w:World}:Go.AX.Reads enc Tryz.prog w 99 (fun x:Go.AX.Q24.JAJ=>[D.i x.Flags,D.i x.Type_,D.l 1 D.u8 x.Data]) (fun a:Go.AX.Q24.JAJ=>Go.AX.Q24.JAJ.wf a):=
 Go.AX.ReadsL.map' (Go.AX.reads_struct Tryz.underlying99 (by kernel_rfl) (Go.AX.readsF_cons (sz:=1) reads3 (Go.AX.readsF_cons (sz:=1) reads3 (Go.AX.readsF_cons (sz:=1) reads97 (Go.AX.readsF_nil))))) (fun x=>(⟨x.1,x.2.1,x.2.2.1⟩:Go.AX.Q24.JAJ)) (fun _ _=>rfl) (fun _ h=>h)
theorem reads47 {H:Type} {enc:TypeId×Value->H} {w:World}:Go.AX.Reads enc Tryz.prog w 47 (fun x:List Go.AX.Q24.JAJ=>[D.l 3 Go.AX.Q24.JAJ.toD x]) (fun a:List Go.AX.Q24.JAJ=>(a.length<=maxLen/\a.length * 40<=reachBytes/\∀y0 ∈ a,Go.AX.Q24.JAJ.wf y0)):=
 Go.AX.reads_slice (el:=Go.AX.Q24.JAJ.toD) (sz:=3) (by':=40) Tryz.underlying47 (by kernel_rfl) (by decide) (by kernel_rfl) reads99
theorem reads49 {H:Type} {enc:TypeId×Value->H} {w:World}:Go.AX.Reads enc Tryz.prog w 49 (fun x:Go.AX.Q24.JAG=>[D.i x.Origin,D.l 2 Go.AX.Q24.JAE.toD x.Path,D.b x.Next.V6,D.u64 x.Next.Hi,D.u64 x.Next.Lo,D.i x.MED,D.i x.Pref,D.i x.OTC,D.l 2 Go.AX.Q24.JAC.toD x.Communities,D.l 3 Go.AX.Q24.JAH.toD x.JAH,D.l 3 Go.AX.Q24.JAJ.toD x.Other]) (fun a:Go.AX.Q24.JAG=>Go.AX.Q24.JAG.wf a):=
 Go.AX.ReadsL.map' (Go.AX.reads_struct Tryz.underlying49 (by kernel_rfl) (Go.AX.readsF_cons (sz:=1) reads3 (Go.AX.readsF_cons (sz:=1) reads44 (Go.AX.readsF_cons (sz:=3) reads41 (Go.AX.readsF_cons (sz:=1) reads3 (Go.AX.readsF_cons (sz:=1) reads3 (Go.AX.readsF_cons (sz:=1) reads3 (Go.AX.readsF_cons (sz:=1) reads45 (Go.AX.readsF_cons (sz:=1) reads46 (Go.AX.readsF_cons (sz:=1) reads47 (Go.AX.readsF_nil))))))))))) (fun x=>(⟨x.1,x.2.1,x.2.2.1,x.2.2.2.1,x.2.2.2.2.1,x.2.2.2.2.2.1,x.2.2.2.2.2.2.1,x.2.2.2.2.2.2.2.1,x.2.2.2.2.2.2.2.2.1⟩:Go.AX.Q24.JAG)) (fun _ _=>rfl) (fun _ h=>h)
noncomputable def pinW (os : Os) : World := (World.doorLaid Tryz.prog 600 os).layVars Tryz.prog [("unicode/utf8.first", Rows.laid_unicode_utf8_first)]
theorem door_met (os:Os) (args:Array Value):laidMetH Tryz.prog Rows.filterValidRow.laid ((pinW os).forCall (fun _ _=>0) ⟨#[],args,[]⟩).memory:=by
 rw[MakeChecks.laidMetH_plain _ _ _ (by kernel_rfl)]
 have h : laidMet Tryz.prog Rows.filterValidRow.laid (pinW os) := laidMet_layVars (w0 := World.doorLaid Tryz.prog 600 os) ["unicode/utf8.first"] ((List.range (World.doorLaid Tryz.prog 600 os).heap.size).filter fun x => x != 1)
  (by rw [show (Rows.filterValidRow.laid.filter fun x => (["unicode/utf8.first"] : List String).contains x.1) = [("unicode/utf8.first", Rows.laid_unicode_utf8_first)] by kernel_rfl]; rfl)
  (by kernel_rfl) (by kernel_rfl) (LaidIn.of_run _ 8 (by kernel_rfl) (by kernel_rfl) (by kernel_rfl) (by kernel_rfl))
 exact h.of_heap (by simp[World.memory,World.forCall,Input.heap])
set_option maxRecDepth 100000 in
theorem lifted (os:Os) (started:os.Started) (H:Type) (enc:TypeId×Value->H) :
  ReturnsInHanded {} Tryz.checked os 7 .any (fun w args=>(Rows.filterValidSpec.pre enc Tryz.prog Tryz.f7 Rows.filterValidRow.domain false w args/\laidMetH Tryz.prog Rows.filterValidRow.laid w)/\sizedMet enc Tryz.prog Tryz.f7 (OpenSpec.ofChange Rows.filterValidSpec) false w args) (Rows.filterValidSpec.post enc Tryz.prog Tryz.f7 false true false false):=by
 refine returnsInHanded_of_change_and (C:=Tryz.checked) (X:=fun w _=>laidMetH Tryz.prog Rows.filterValidRow.laid w) (fun _ _ _ hh h=>h.of_heap hh) own started (by kernel_rfl) Tryz.func7
  (ChangeSpec.witness_shaped (enc:=enc) (C:=Tryz.checked) (os:=os) (X:=fun w _=>laidMetH Tryz.prog Rows.filterValidRow.laid w) false (pinW os) #[.agg #[.int .i64 0,.slice none 0 0,.int .i64 0,.int .i64 0,.int .i64 0,.int .i64 0,.int .i64 0,.int .i64 0,.slice none 0 0,.slice none 0 0,.slice none 0 0,.int .i64 0,.slice none 0 0,.slice none 0 0,.slice none 0 0],.agg #[.int .i64 0,.string ByteArray.empty,.int .i64 0,.int .i64 0,.slice none 0 0],.agg #[.int .i64 0,.slice none 0 0,.bool false,.int .u64 0,.int .u64 0,.int .i64 0,.int .i64 0,.int .i64 0,.slice none 0 0,.slice none 0 0,.slice none 0 0],.slice none 0 0,.int .i64 0,.int .i64 0] 12 (World.layVars_os _ _ _) (World.shaped_of_RefB (by kernel_rfl) (by kernel_rfl)) (by kernel_rfl) (by kernel_rfl) (by kernel_rfl) (door_met os _)) ?_
 intro W base args ds gs before hval0 hW _ hwt0 hlaid _
 refine Go.AX.frame_contractX (X:=laidMetH Tryz.prog Rows.filterValidRow.laid) (wl:=Go.AX.Q24.Wl True) (C:=Tryz.checked) (b:=4) laidOut rfl ?_ rfl Tryz.underlying4 (by kernel_rfl) ?_ W hlaid base args ds gs before hval0 hW hwt0
 ·intro ds hd
  match ds,hd with
  | [_,_,_,_,_,_],_=>rfl
 intro W hX base args ds p hval0 hA0 hwt0
 have hval :∀(j:Nat) t v,Tryz.f7.params[j]?=some t->args[j]?=some v->Value.okWide Tryz.prog W .any base t v:=hval0
 have hA:DataW.TrodAll enc Tryz.prog W 0 (fun _=>true) true Tryz.f7.params.toList args.toList ds p:=hA0
 have hwt :∀(j:Nat) t d,Tryz.f7.params.toList[j]?=some t->ds[j]?=some d->Wt Tryz.prog t d:=hwt0
 rw[Tryz.params7] at hA hval hwt
 obtain⟨v0,vs0,d0,ds0,p0,q0,hargs,rfl,rfl,h0,k0⟩:=trodAll_cons hA
 obtain⟨v1,vs1,d1,ds1,p1,q1,rfl,rfl,rfl,h1,k1⟩:=trodAll_cons k0
 obtain⟨v2,vs2,d2,ds2,p2,q2,rfl,rfl,rfl,h2,k2⟩:=trodAll_cons k1
 obtain⟨v3,vs3,d3,ds3,p3,q3,rfl,rfl,rfl,h3,k3⟩:=trodAll_cons k2
 obtain⟨v4,vs4,d4,ds4,p4,q4,rfl,rfl,rfl,h4,k4⟩:=trodAll_cons k3
 obtain⟨v5,vs5,d5,ds5,p5,q5,rfl,rfl,rfl,h5,k5⟩:=trodAll_cons k4
 obtain⟨rfl,rfl,rfl⟩:=trodAll_nil k5
 obtain rfl:args=#[v0,v1,v2,v3,v4,v5]:=by cases args;simp_all
 clear hA0 hval0 hwt0
 obtain⟨a0,w0,r0⟩:=Go.AX.open_struct Tryz.underlying32 (reads32 (enc:=enc)) (hval 0 32 v0 rfl rfl) h0 (hwt 0 32 d0 rfl rfl)
 obtain⟨a1,w1,r1⟩:=Go.AX.open_struct Tryz.underlying36 (reads36 (enc:=enc)) (hval 1 36 v1 rfl rfl) h1 (hwt 1 36 d1 rfl rfl)
 obtain⟨a2,w2,r2⟩:=Go.AX.open_struct Tryz.underlying49 (reads49 (enc:=enc)) (hval 2 49 v2 rfl rfl) h2 (hwt 2 49 d2 rfl rfl)
 obtain⟨a3,w3,r3⟩:=Go.AX.open_one Tryz.underlying22 rfl (reads22 (enc:=enc)) (hval 3 22 v3 rfl rfl) h3 (hwt 3 22 d3 rfl rfl)
 obtain⟨a4,w4,r4⟩:=Go.AX.open_one Tryz.underlying3 rfl (reads3 (enc:=enc)) (hval 4 3 v4 rfl rfl) h4 (hwt 4 3 d4 rfl rfl)
 obtain⟨a5,w5,r5⟩:=Go.AX.open_one Tryz.underlying3 rfl (reads3 (enc:=enc)) (hval 5 3 v5 rfl rfl) h5 (hwt 5 3 d5 rfl rfl)
 exact⟨_,.cons r0 (.cons r1 (.cons r2 (.cons r3 (.cons r4 (.cons r5 .nil))))),Go.AX.Q24.law24_FilterValid_ok (cg a0 a1 a2 a3 a4 a5 w0 w1 w2 w3 w4 w5),Go.AX.Q24.glob_ok hX⟩
theorem facts1:((Rows.filterValidRow.inPlace==Tryz.prog.inPlace 7)&&(Rows.filterValidRow.unfollowed==Tryz.prog.unfollowed 7)&&(Rows.filterValidRow.recurses==Tryz.prog.recurses 7)&&(Rows.filterValidRow.named==Tryz.prog.varsNamed 7))=true:=by kernel_rfl
theorem facts2:(Tryz.prog.stopsHeard&&Tryz.prog.mayEnter&&(Rows.filterValidRow.lifted==Tryz.prog.liftsFinal)&&(Tryz.prog.make==some Rows.filterValidRow.make))=true:=by kernel_rfl
theorem facts3:(laidOutB Tryz.prog&&mapsRowed Tryz.prog&&(Rows.filterValidRow.plainKeys==Tryz.prog.plainKeys))=true:=by kernel_rfl
theorem facts:joinedFacts Tryz.prog 7 Tryz.f7 Rows.filterValidSpec Rows.filterValidRow=true:=by
 have h1:=facts1;have h2:=facts2;have h3:=facts3
 simp only[X27] at h1 h2 h3
 unfold joinedFacts
 rw[h1.1.1.1,h1.1.1.2,h1.1.2,h1.2,h2.1.1.1,h2.1.1.2,h2.1.2,h2.2,h3.1.1,h3.1.2,h3.2]
 clear h1 h2 h3
 refine (?_:@Eq Bool _ true)
 kernel_rfl
theorem over:Rows.filterValidRow.holds Tryz.pinned (OpenSpec.ofChange Rows.filterValidSpec):=
 OpenClaim.holds_of_wide 7 Tryz.f7 rfl rfl rfl rfl rfl rfl rfl ⟨rfl,rfl,rfl,rfl,rfl⟩ rfl rfl rfl rfl rfl (by kernel_rfl) Tryz.func7 facts
  (of_decide_eq_true (by kernel_rfl)) (by unfold Func.isWrapper;first | (rw[if_pos (by decide +kernel)];kernel_rfl)|(rw[if_neg (by decide +kernel)];exact⟨rfl,rfl⟩))
  (fun os started H enc _=>lifted os started H enc)
theorem card1 : Tryz.prog.mainIs = some ((true, "bd37f3eb1d165f40e7c083baf7a0a4a28f9a0c5951331e09bf0ecf6536612cd9").1, (true, "bd37f3eb1d165f40e7c083baf7a0a4a28f9a0c5951331e09bf0ecf6536612cd9").2.toList) := by kernel_rfl
theorem card2:false=Tryz.prog.looks []:=by kernel_rfl
theorem card3:false=Rows.filterValidRow.goesBy Tryz.prog:=by kernel_rfl
theorem card_holds:Rows.FilterValidCardSaid:=
 Claim7.holds_tied_plain_at .later [] [.data, .mapped, .pinned] true (true, "bd37f3eb1d165f40e7c083baf7a0a4a28f9a0c5951331e09bf0ecf6536612cd9") false over (fun _ h => by cases h) (by kernel_rfl) (fun _ h => by cases h) filterValid_row_tie rfl ⟨rfl, rfl⟩ card1 rfl
  (fun f fn hf hfn=>by
   obtain rfl : f = 7 := X25 ((show Tryz.prog.funcNamed "exchangepoint/exchangepointlaw24.FilterValid" = some 7 by kernel_rfl).symm.trans hf) |>.symm
   obtain rfl:fn=Tryz.f7:=(X25 (Tryz.func7.symm.trans hfn)).symm
   exact⟨card2,fun j t ht=>by
    rw[Tryz.params7] at ht
    have hm:t ∈ [32,36,49,22,3,3]:=by simpa using Array.mem_of_getElem? ht
    have hall:([32,36,49,22,3,3].all fun u=>!Tryz.prog.wantsStandIn u)=true:=by kernel_rfl
    exact (show Tryz.prog.wantsStandIn t=false by simpa using List.all_eq_true.1 hall t hm)⟩)
  card3
theorem proved:Rows.FilterValidCardSaid:=card_holds
#print axioms proved
end Go.Proofs.YtckndjeehbfpkaaGreatDoor.filterValid
end
