/-
  Texts of one proof, packed.
-/
import Derived.Test.YtppcmaidcgimpaaGreatDoorF25CSessions
import Derived.Test.YtppcmaidcgimpaaGreatDoorS14
import Derived.Test.YtppcmaidcgimpaaGreatDoorS18
import Derived.Test.YtppcmaidcgimpaaGreatDoorS26
import Derived.Test.YtppcmaidcgimpaaGreatDoorS31
import Derived.Below
import Derived.ChangeOld
import Derived.Deep.DeepHandedRow
import Derived.Deep.DeepWitnessRowRef
import Derived.LaidMore
import Derived.Lay
import Derived.MakeChecks
import Derived.OpenShut
import Derived.ProofKit
import Derived.SevenTiedAt
import Derived.ShutString
import Derived.Test.YtppcmaidcgimpaaGreatDoorCards
import Derived.Test.YtppcmaidcgimpaaGreatDoorRows
import Derived.Test.YtppcmaidcgimpaaGreatDoorTie
import Derived.WalkKit
set_option linter.all false
set_option maxRecDepth 100000
set_option maxHeartbeats 4000000
open List renaming length_map→X6,length_append→X10,length_cons→X11,length_drop→X16,length_take→X17,length_replicate→X19,length_set→X20
open Option.some renaming inj→X24
open Bool renaming and_eq_true→X26
section
namespace Go.Proofs.YtppcmaidcgimpaaGreatDoor.ribinSessions
open Go.ChangeShapes Go.WideShapes Go.ChangeAt Go.RowKit Go.AX Go.AX.Q25
set_option linter.unusedVariables false
theorem own:ownKnob Tryz.prog.godebug=none:=by kernel_rfl
theorem laidOut:laidOutB Tryz.prog=true:=by kernel_rfl
theorem one_le {H:Type} (d:DataW H):1<=Rows.uptoBulk d:=by
 cases d with
 | lit l=>cases l<;>simp[Rows.uptoBulk]
 | nil=>simp[Rows.uptoBulk]
 | ptr d=>simp[Rows.uptoBulk]
 | slice elems spare=>simp[Rows.uptoBulk]
 | agg parts=>simp[Rows.uptoBulk]
 | iface t d=>simp[Rows.uptoBulk]
 | map entries=>simp[Rows.uptoBulk]
 | held h=>simp[Rows.uptoBulk]
theorem part_le {H:Type} {d:DataW H} {l:List (DataW H)} (h:d ∈ l):Rows.uptoBulk d<=Rows.uptoBulkAll l:=by
 induction l with
 | nil=>cases h
 | cons x r ih=>
  simp only[Rows.uptoBulkAll]
  cases List.mem_cons.1 h with
  | inl e=>subst e;omega
  | inr e=>have:=ih e;omega
theorem length_le {H:Type} (l:List (DataW H)):l.length<=Rows.uptoBulkAll l:=by
 induction l with
 | nil=>simp[Rows.uptoBulkAll]
 | cons x r ih=>have:=one_le x;simp only[Rows.uptoBulkAll,X11];omega
def lim (H:Type) (P:Program):Go.AX.uO H P where
 W _ d:=Rows.uptoBulk d<=1048576
 S _ n:=n<=1048576
 B:=1048576
 slice {t e el sp} _ h:=by
  simp only[Rows.uptoBulk] at h
  have:=length_le el
  exact⟨by omega,fun d hd=>by have:=part_le hd;omega⟩
 string {t b} h:=by
  simp only[Rows.uptoBulk] at h
  omega
 agg {t F ds} _ h i f d _ hd:=by
  simp only[Rows.uptoBulk] at h
  have:=part_le (List.mem_of_getElem? hd)
  omega
theorem bulk_each {H:Type} {ts:List TypeId} {ds gs:List (DataW H)} (h:Rows.uptoSmall H (ds++gs)=true) (j:Nat) (t:TypeId) (d:DataW H) (_:ts[j]?=some t) (hd:ds[j]?=some d):(lim H Tryz.prog).W t d:=by
 have h':Rows.uptoBulkAll (ds++gs)<=1048576:=of_decide_eq_true h
 have:=part_le (List.mem_append_left gs (List.mem_of_getElem? hd))
 exact Nat.le_trans this h'
theorem reads3 {H:Type} {enc:TypeId×Value->H} {w:World}:Go.AX.ph (lim H Tryz.prog) enc w 3 (fun x:Int=>[D.i x]) (fun a:Int=>r7 a):=
 Go.AX.tz Tryz.underlying3
theorem reads9 {H:Type} {enc:TypeId×Value->H} {w:World}:Go.AX.ph (lim H Tryz.prog) enc w 9 (fun x:ByteArray=>[D.s x]) (fun a:ByteArray=>(a.size<=maxLen/\a.size<=1048576)):=
 Go.AX.sP Tryz.underlying9
theorem reads4 {H:Type} {enc:TypeId×Value->H} {w:World}:Go.AX.ph (lim H Tryz.prog) enc w 4 (fun x:Bool=>[D.b x]) (fun a:Bool=>True):=
 Go.AX.tp Tryz.underlying4
theorem reads30 {H:Type} {enc:TypeId×Value->H} {w:World}:Go.AX.ph (lim H Tryz.prog) enc w 30 (fun x:UInt64=>[D.u64 x]) (fun a:UInt64=>True):=
 Go.AX.tA Tryz.underlying30
theorem reads32 {H:Type} {enc:TypeId×Value->H} {w:World}:Go.AX.ph (lim H Tryz.prog) enc w 32 (fun x:Go.AX.Q25.Addr=>[D.b x.V6,D.u64 x.Hi,D.u64 x.Lo]) (fun a:Go.AX.Q25.Addr=>Go.AX.Q25.Addr.rH a):=
 Go.AX.ph.map' (Go.AX.qy Tryz.underlying32 (by kernel_rfl) (Go.AX.iX (sz:=1) reads4 (Go.AX.iX (sz:=1) reads30 (Go.AX.iX (sz:=1) reads30 (Go.AX.qN))))) (fun x=>(⟨x.1,x.2.1,x.2.2.1⟩:Go.AX.Q25.Addr)) (fun _ _=>rfl) (fun _ h=>h)
theorem reads22 {H:Type} {enc:TypeId×Value->H} {w:World}:Go.AX.ph (lim H Tryz.prog) enc w 22 (fun x:List Go.AX.Q25.Addr=>[D.l 3 Go.AX.Q25.Addr.fv x]) (fun a:List Go.AX.Q25.Addr=>(a.length<=maxLen/\a.length<=1048576/\∀y0 ∈ a,Go.AX.Q25.Addr.rH y0)):=
 Go.AX.qP (L:=lim H Tryz.prog) (sok:=fun n=>n<=1048576) (el:=Go.AX.Q25.Addr.fv) (sz:=3) Tryz.underlying22 (by kernel_rfl) (by decide) (by decide) (fun _ h=>h) reads32
theorem reads24 {H:Type} {enc:TypeId×Value->H} {w:World}:Go.AX.ph (lim H Tryz.prog) enc w 24 (fun x:Go.AX.Q25.kI=>[D.i x.ql,D.s x.Set,D.i x.qh,D.i x.qg,D.l 3 Go.AX.Q25.Addr.fv x.oE]) (fun a:Go.AX.Q25.kI=>Go.AX.Q25.kI.rH a):=
 Go.AX.ph.map' (Go.AX.qy Tryz.underlying24 (by kernel_rfl) (Go.AX.iX (sz:=1) reads3 (Go.AX.iX (sz:=1) reads9 (Go.AX.iX (sz:=1) reads3 (Go.AX.iX (sz:=1) reads3 (Go.AX.iX (sz:=1) reads22 (Go.AX.qN))))))) (fun x=>(⟨x.1,x.2.1,x.2.2.1,x.2.2.2.1,x.2.2.2.2.1⟩:Go.AX.Q25.kI)) (fun _ _=>rfl) (fun _ h=>h)
theorem reads67 {H:Type} {enc:TypeId×Value->H} {w:World}:Go.AX.ph (lim H Tryz.prog) enc w 67 (fun x:Go.AX.Q25.fI=>[D.b x.Addr.V6,D.u64 x.Addr.Hi,D.u64 x.Addr.Lo,D.i x.qo]) (fun a:Go.AX.Q25.fI=>Go.AX.Q25.fI.rH a):=
 Go.AX.ph.map' (Go.AX.qy Tryz.underlying67 (by kernel_rfl) (Go.AX.iX (sz:=3) reads32 (Go.AX.iX (sz:=1) reads3 (Go.AX.qN)))) (fun x=>(⟨x.1,x.2.1⟩:Go.AX.Q25.fI)) (fun _ _=>rfl) (fun _ h=>h)
theorem reads40 {H:Type} {enc:TypeId×Value->H} {w:World}:Go.AX.ph (lim H Tryz.prog) enc w 40 (fun x:List Int=>[D.l 1 D.i x]) (fun a:List Int=>(a.length<=maxLen/\a.length<=1048576/\∀y0 ∈ a,r7 y0)):=
 Go.AX.qP (L:=lim H Tryz.prog) (sok:=fun n=>n<=1048576) (el:=D.i) (sz:=1) Tryz.underlying40 (by kernel_rfl) (by decide) (by decide) (fun _ h=>h) reads3
theorem reads93 {H:Type} {enc:TypeId×Value->H} {w:World}:Go.AX.ph (lim H Tryz.prog) enc w 93 (fun x:Go.AX.Q25.oA=>[D.b x.Set,D.l 1 D.i x.lf]) (fun a:Go.AX.Q25.oA=>Go.AX.Q25.oA.rH a):=
 Go.AX.ph.map' (Go.AX.qy Tryz.underlying93 (by kernel_rfl) (Go.AX.iX (sz:=1) reads4 (Go.AX.iX (sz:=1) reads40 (Go.AX.qN)))) (fun x=>(⟨x.1,x.2.1⟩:Go.AX.Q25.oA)) (fun _ _=>rfl) (fun _ h=>h)
theorem reads29 {H:Type} {enc:TypeId×Value->H} {w:World}:Go.AX.ph (lim H Tryz.prog) enc w 29 (fun x:List Go.AX.Q25.oA=>[D.l 2 Go.AX.Q25.oA.fv x]) (fun a:List Go.AX.Q25.oA=>(a.length<=maxLen/\a.length<=1048576/\∀y0 ∈ a,Go.AX.Q25.oA.rH y0)):=
 Go.AX.qP (L:=lim H Tryz.prog) (sok:=fun n=>n<=1048576) (el:=Go.AX.Q25.oA.fv) (sz:=2) Tryz.underlying29 (by kernel_rfl) (by decide) (by decide) (fun _ h=>h) reads93
theorem reads125 {H:Type} {enc:TypeId×Value->H} {w:World}:Go.AX.ph (lim H Tryz.prog) enc w 125 (fun x:Go.AX.Q25.oF=>[D.i x.A,D.i x.B]) (fun a:Go.AX.Q25.oF=>Go.AX.Q25.oF.rH a):=
 Go.AX.ph.map' (Go.AX.qy Tryz.underlying125 (by kernel_rfl) (Go.AX.iX (sz:=1) reads3 (Go.AX.iX (sz:=1) reads3 (Go.AX.qN)))) (fun x=>(⟨x.1,x.2.1⟩:Go.AX.Q25.oF)) (fun _ _=>rfl) (fun _ h=>h)
theorem reads33 {H:Type} {enc:TypeId×Value->H} {w:World}:Go.AX.ph (lim H Tryz.prog) enc w 33 (fun x:List Go.AX.Q25.oF=>[D.l 2 Go.AX.Q25.oF.fv x]) (fun a:List Go.AX.Q25.oF=>(a.length<=maxLen/\a.length<=1048576/\∀y0 ∈ a,Go.AX.Q25.oF.rH y0)):=
 Go.AX.qP (L:=lim H Tryz.prog) (sok:=fun n=>n<=1048576) (el:=Go.AX.Q25.oF.fv) (sz:=2) Tryz.underlying33 (by kernel_rfl) (by decide) (by decide) (fun _ h=>h) reads125
theorem reads127 {H:Type} {enc:TypeId×Value->H} {w:World}:Go.AX.ph (lim H Tryz.prog) enc w 127 (fun x:Go.AX.Q25.ls=>[D.i x.A,D.i x.B,D.i x.C]) (fun a:Go.AX.Q25.ls=>Go.AX.Q25.ls.rH a):=
 Go.AX.ph.map' (Go.AX.qy Tryz.underlying127 (by kernel_rfl) (Go.AX.iX (sz:=1) reads3 (Go.AX.iX (sz:=1) reads3 (Go.AX.iX (sz:=1) reads3 (Go.AX.qN))))) (fun x=>(⟨x.1,x.2.1,x.2.2.1⟩:Go.AX.Q25.ls)) (fun _ _=>rfl) (fun _ h=>h)
theorem reads34 {H:Type} {enc:TypeId×Value->H} {w:World}:Go.AX.ph (lim H Tryz.prog) enc w 34 (fun x:List Go.AX.Q25.ls=>[D.l 3 Go.AX.Q25.ls.fv x]) (fun a:List Go.AX.Q25.ls=>(a.length<=maxLen/\a.length<=1048576/\∀y0 ∈ a,Go.AX.Q25.ls.rH y0)):=
 Go.AX.qP (L:=lim H Tryz.prog) (sok:=fun n=>n<=1048576) (el:=Go.AX.Q25.ls.fv) (sz:=3) Tryz.underlying34 (by kernel_rfl) (by decide) (by decide) (fun _ h=>h) reads127
theorem reads5 {H:Type} {enc:TypeId×Value->H} {w:World}:Go.AX.ph (lim H Tryz.prog) enc w 5 (fun x:UInt8=>[D.u8 x]) (fun a:UInt8=>True):=
 Go.AX.tN Tryz.underlying5
theorem reads94 {H:Type} {enc:TypeId×Value->H} {w:World}:Go.AX.ph (lim H Tryz.prog) enc w 94 (fun x:List UInt8=>[D.l 1 D.u8 x]) (fun a:List UInt8=>(a.length<=maxLen/\a.length<=1048576/\∀y0 ∈ a,True)):=
 Go.AX.qP (L:=lim H Tryz.prog) (sok:=fun n=>n<=1048576) (el:=D.u8) (sz:=1) Tryz.underlying94 (by kernel_rfl) (by decide) (by decide) (fun _ h=>h) reads5
theorem reads96 {H:Type} {enc:TypeId×Value->H} {w:World}:Go.AX.ph (lim H Tryz.prog) enc w 96 (fun x:Go.AX.Q25.gF=>[D.i x.Flags,D.i x.hB,D.l 1 D.u8 x.Data]) (fun a:Go.AX.Q25.gF=>Go.AX.Q25.gF.rH a):=
 Go.AX.ph.map' (Go.AX.qy Tryz.underlying96 (by kernel_rfl) (Go.AX.iX (sz:=1) reads3 (Go.AX.iX (sz:=1) reads3 (Go.AX.iX (sz:=1) reads94 (Go.AX.qN))))) (fun x=>(⟨x.1,x.2.1,x.2.2.1⟩:Go.AX.Q25.gF)) (fun _ _=>rfl) (fun _ h=>h)
theorem reads35 {H:Type} {enc:TypeId×Value->H} {w:World}:Go.AX.ph (lim H Tryz.prog) enc w 35 (fun x:List Go.AX.Q25.gF=>[D.l 3 Go.AX.Q25.gF.fv x]) (fun a:List Go.AX.Q25.gF=>(a.length<=maxLen/\a.length<=1048576/\∀y0 ∈ a,Go.AX.Q25.gF.rH y0)):=
 Go.AX.qP (L:=lim H Tryz.prog) (sok:=fun n=>n<=1048576) (el:=Go.AX.Q25.gF.fv) (sz:=3) Tryz.underlying35 (by kernel_rfl) (by decide) (by decide) (fun _ h=>h) reads96
theorem reads37 {H:Type} {enc:TypeId×Value->H} {w:World}:Go.AX.ph (lim H Tryz.prog) enc w 37 (fun x:Go.AX.Q25.gE=>[D.i x.gT,D.l 2 Go.AX.Q25.oA.fv x.Path,D.b x.Next.V6,D.u64 x.Next.Hi,D.u64 x.Next.Lo,D.i x.qW,D.i x.qd,D.i x.qz,D.l 2 Go.AX.Q25.oF.fv x.cW,D.l 3 Go.AX.Q25.ls.fv x.ls,D.l 3 Go.AX.Q25.gF.fv x.gS]) (fun a:Go.AX.Q25.gE=>Go.AX.Q25.gE.rH a):=
 Go.AX.ph.map' (Go.AX.qy Tryz.underlying37 (by kernel_rfl) (Go.AX.iX (sz:=1) reads3 (Go.AX.iX (sz:=1) reads29 (Go.AX.iX (sz:=3) reads32 (Go.AX.iX (sz:=1) reads3 (Go.AX.iX (sz:=1) reads3 (Go.AX.iX (sz:=1) reads3 (Go.AX.iX (sz:=1) reads33 (Go.AX.iX (sz:=1) reads34 (Go.AX.iX (sz:=1) reads35 (Go.AX.qN))))))))))) (fun x=>(⟨x.1,x.2.1,x.2.2.1,x.2.2.2.1,x.2.2.2.2.1,x.2.2.2.2.2.1,x.2.2.2.2.2.2.1,x.2.2.2.2.2.2.2.1,x.2.2.2.2.2.2.2.2.1⟩:Go.AX.Q25.gE)) (fun _ _=>rfl) (fun _ h=>h)
theorem reads69 {H:Type} {enc:TypeId×Value->H} {w:World}:Go.AX.ph (lim H Tryz.prog) enc w 69 (fun x:Go.AX.Q25.o3=>[D.b x.fI.Addr.V6,D.u64 x.fI.Addr.Hi,D.u64 x.fI.Addr.Lo,D.i x.fI.qo,D.i x.qM,D.i x.gE.gT,D.l 2 Go.AX.Q25.oA.fv x.gE.Path,D.b x.gE.Next.V6,D.u64 x.gE.Next.Hi,D.u64 x.gE.Next.Lo,D.i x.gE.qW,D.i x.gE.qd,D.i x.gE.qz,D.l 2 Go.AX.Q25.oF.fv x.gE.cW,D.l 3 Go.AX.Q25.ls.fv x.gE.ls,D.l 3 Go.AX.Q25.gF.fv x.gE.gS]) (fun a:Go.AX.Q25.o3=>Go.AX.Q25.o3.rH a):=
 Go.AX.ph.map' (Go.AX.qy Tryz.underlying69 (by kernel_rfl) (Go.AX.iX (sz:=4) reads67 (Go.AX.iX (sz:=1) reads3 (Go.AX.iX (sz:=11) reads37 (Go.AX.qN))))) (fun x=>(⟨x.1,x.2.1,x.2.2.1⟩:Go.AX.Q25.o3)) (fun _ _=>rfl) (fun _ h=>h)
theorem reads71 {H:Type} {enc:TypeId×Value->H} {w:World}:Go.AX.ph (lim H Tryz.prog) enc w 71 (fun x:Go.AX.Q25.fT=>[D.b x.o3.fI.Addr.V6,D.u64 x.o3.fI.Addr.Hi,D.u64 x.o3.fI.Addr.Lo,D.i x.o3.fI.qo,D.i x.o3.qM,D.i x.o3.gE.gT,D.l 2 Go.AX.Q25.oA.fv x.o3.gE.Path,D.b x.o3.gE.Next.V6,D.u64 x.o3.gE.Next.Hi,D.u64 x.o3.gE.Next.Lo,D.i x.o3.gE.qW,D.i x.o3.gE.qd,D.i x.o3.gE.qz,D.l 2 Go.AX.Q25.oF.fv x.o3.gE.cW,D.l 3 Go.AX.Q25.ls.fv x.o3.gE.ls,D.l 3 Go.AX.Q25.gF.fv x.o3.gE.gS,D.i x.qx,D.b x.qA]) (fun a:Go.AX.Q25.fT=>Go.AX.Q25.fT.rH a):=
 Go.AX.ph.map' (Go.AX.qy Tryz.underlying71 (by kernel_rfl) (Go.AX.iX (sz:=16) reads69 (Go.AX.iX (sz:=1) reads3 (Go.AX.iX (sz:=1) reads4 (Go.AX.qN))))) (fun x=>(⟨x.1,x.2.1,x.2.2.1⟩:Go.AX.Q25.fT)) (fun _ _=>rfl) (fun _ h=>h)
theorem reads25 {H:Type} {enc:TypeId×Value->H} {w:World}:Go.AX.ph (lim H Tryz.prog) enc w 25 (fun x:List Go.AX.Q25.fT=>[D.l 18 Go.AX.Q25.fT.fv x]) (fun a:List Go.AX.Q25.fT=>(a.length<=maxLen/\a.length<=1048576/\∀y0 ∈ a,Go.AX.Q25.fT.rH y0)):=
 Go.AX.qP (L:=lim H Tryz.prog) (sok:=fun n=>n<=1048576) (el:=Go.AX.Q25.fT.fv) (sz:=18) Tryz.underlying25 (by kernel_rfl) (by decide) (by decide) (fun _ h=>h) reads71
theorem reads27 {H:Type} {enc:TypeId×Value->H} {w:World}:Go.AX.ph (lim H Tryz.prog) enc w 27 (fun x:Go.AX.Q25.iA=>[D.i x.kI.ql,D.s x.kI.Set,D.i x.kI.qh,D.i x.kI.qg,D.l 3 Go.AX.Q25.Addr.fv x.kI.oE,D.b x.Up,D.l 18 Go.AX.Q25.fT.fv x.fT,D.i x.oT]) (fun a:Go.AX.Q25.iA=>Go.AX.Q25.iA.rH a):=
 Go.AX.ph.map' (Go.AX.qy Tryz.underlying27 (by kernel_rfl) (Go.AX.iX (sz:=5) reads24 (Go.AX.iX (sz:=1) reads4 (Go.AX.iX (sz:=1) reads25 (Go.AX.iX (sz:=1) reads3 (Go.AX.qN)))))) (fun x=>(⟨x.1,x.2.1,x.2.2.1,x.2.2.2.1⟩:Go.AX.Q25.iA)) (fun _ _=>rfl) (fun _ h=>h)
noncomputable def uj (os : Os) : World := (World.doorLaid Tryz.prog 600 os).layVars Tryz.prog [("unicode/utf8.first", Rows.laid_unicode_utf8_first)]
theorem door_met (os:Os) (args:Array Value):laidMetH Tryz.prog Rows.ribinSessionsUptoRow.laid ((uj os).forCall (fun _ _=>0) ⟨#[],args,[]⟩).memory:=by
 rw[MakeChecks.laidMetH_plain _ _ _ (by kernel_rfl)]
 have h : laidMet Tryz.prog Rows.ribinSessionsUptoRow.laid (uj os) := laidMet_layVars (w0 := World.doorLaid Tryz.prog 600 os) ["unicode/utf8.first"] ((List.range (World.doorLaid Tryz.prog 600 os).heap.size).filter fun x => x != 1)
  (by rw [show (Rows.ribinSessionsUptoRow.laid.filter fun x => (["unicode/utf8.first"] : List String).contains x.1) = [("unicode/utf8.first", Rows.laid_unicode_utf8_first)] by kernel_rfl]; rfl)
  (by kernel_rfl) (by kernel_rfl) (LaidIn.of_run _ 8 (by kernel_rfl) (by kernel_rfl) (by kernel_rfl) (by kernel_rfl))
 exact h.of_heap (by simp[World.memory,World.forCall,Input.heap])
theorem whole (os:Os) {H:Type} (enc:TypeId×Value->H) :∃places,DataW.whole enc Tryz.prog ((uj os).forCall (fun _ _=>0) ⟨#[],#[.agg #[.int .i64 0,.string ByteArray.empty,.int .i64 0,.int .i64 0,.slice none 0 0,.bool false,.slice none 0 0,.int .i64 0],.slice none 0 0,.int .i64 0,.int .i64 0,.int .i64 0],[]⟩).memory Tryz.f7.params.toList Rows.ribinSessionsSpec.vars false (#[.agg #[.int .i64 0,.string ByteArray.empty,.int .i64 0,.int .i64 0,.slice none 0 0,.bool false,.slice none 0 0,.int .i64 0],.slice none 0 0,.int .i64 0,.int .i64 0,.int .i64 0]:Array Value).toList 12=some ([.agg [.agg [.lit (.int .i64 0),.lit (.string []),.lit (.int .i64 0),.lit (.int .i64 0),.nil],.lit (.bool false),.nil,.lit (.int .i64 0)],.nil,.lit (.int .i64 0),.lit (.int .i64 0),.lit (.int .i64 0)],[],places):=
 ⟨[],by kernel_rfl⟩
set_option maxRecDepth 100000 in
theorem lifted (os:Os) (started:os.Started) (H:Type) (enc:TypeId×Value->H) (F:Stop.Interp) :
  ReturnsInHanded {} Tryz.checked os 7 .any ((Rows.OpenSpec.upto Rows.ribinSessionsSpec).preRow enc Tryz.prog Tryz.f7 Rows.ribinSessionsUptoRow.domain false Rows.ribinSessionsUptoRow.laid) (((Rows.OpenSpec.upto Rows.ribinSessionsSpec).at F).post enc Tryz.prog Tryz.f7 false true false false):=by
 obtain⟨places,hx⟩:=whole os enc
 refine returnsInHanded_of_row (C:=Tryz.checked) (s:=(Rows.OpenSpec.upto Rows.ribinSessionsSpec)) own started (by kernel_rfl) Tryz.func7
  (witness_row_atRef (enc:=enc) (C:=Tryz.checked) false (uj os) #[.agg #[.int .i64 0,.string ByteArray.empty,.int .i64 0,.int .i64 0,.slice none 0 0,.bool false,.slice none 0 0,.int .i64 0],.slice none 0 0,.int .i64 0,.int .i64 0,.int .i64 0] (World.layVars_os _ _ _) (by kernel_rfl) (by kernel_rfl) (by kernel_rfl)
   (OpenSpec.preRow_of_cond 12 hx (by kernel_rfl) (fun k hk=>by cases hk;kernel_rfl) (by kernel_rfl) (door_met os _))) ?_
 intro W base args ds gs before hval0 hW _ hcond _ hlaid _ _
 refine Go.AX.sy (s:=Rows.ribinSessionsSpec) (L:=lim H Tryz.prog) (X:=laidMetH Tryz.prog Rows.ribinSessionsUptoRow.laid) (wl:=Go.AX.Q25.Wl True) (C:=Tryz.checked) (b:=4) laidOut rfl ?_ rfl Tryz.underlying4 (by kernel_rfl) ?_ W hlaid base args ds gs before hval0 hW (bulk_each (hcond _ rfl))
 ·intro ds hd
  match ds,hd with
  | [_,_,_,_,_],_=>rfl
 intro W hX base args ds p hval0 hA0 hwt0
 have hval :∀(j:Nat) t v,Tryz.f7.params[j]?=some t->args[j]?=some v->Value.okWide Tryz.prog W .any base t v:=hval0
 have hA:DataW.TrodAll enc Tryz.prog W 0 (fun _=>true) true Tryz.f7.params.toList args.toList ds p:=hA0
 have hwt :∀(j:Nat) t d,Tryz.f7.params.toList[j]?=some t->ds[j]?=some d->(lim H Tryz.prog).W t d:=hwt0
 rw[Tryz.params7] at hA hval hwt
 obtain⟨v0,vs0,d0,ds0,p0,q0,hargs,rfl,rfl,h0,k0⟩:=trodAll_cons hA
 obtain⟨v1,vs1,d1,ds1,p1,q1,rfl,rfl,rfl,h1,k1⟩:=trodAll_cons k0
 obtain⟨v2,vs2,d2,ds2,p2,q2,rfl,rfl,rfl,h2,k2⟩:=trodAll_cons k1
 obtain⟨v3,vs3,d3,ds3,p3,q3,rfl,rfl,rfl,h3,k3⟩:=trodAll_cons k2
 obtain⟨v4,vs4,d4,ds4,p4,q4,rfl,rfl,rfl,h4,k4⟩:=trodAll_cons k3
 obtain⟨rfl,rfl,rfl⟩:=trodAll_nil k4
 obtain rfl:args=#[v0,v1,v2,v3,v4]:=by cases args;simp_all
 clear hA0 hval0 hwt0
 obtain⟨a0,w0,r0⟩:=Go.AX.sX Tryz.underlying27 (reads27 (enc:=enc)) (hval 0 27 v0 rfl rfl) h0 (hwt 0 27 d0 rfl rfl)
 obtain⟨a1,w1,r1⟩:=Go.AX.so Tryz.underlying40 rfl (reads40 (enc:=enc)) (hval 1 40 v1 rfl rfl) h1 (hwt 1 40 d1 rfl rfl)
 obtain⟨a2,w2,r2⟩:=Go.AX.so Tryz.underlying3 rfl (reads3 (enc:=enc)) (hval 2 3 v2 rfl rfl) h2 (hwt 2 3 d2 rfl rfl)
 obtain⟨a3,w3,r3⟩:=Go.AX.so Tryz.underlying3 rfl (reads3 (enc:=enc)) (hval 3 3 v3 rfl rfl) h3 (hwt 3 3 d3 rfl rfl)
 obtain⟨a4,w4,r4⟩:=Go.AX.so Tryz.underlying3 rfl (reads3 (enc:=enc)) (hval 4 3 v4 rfl rfl) h4 (hwt 4 3 d4 rfl rfl)
 exact⟨_,.cons r0 (.cons r1 (.cons r2 (.cons r3 (.cons r4 .nil)))),Go.AX.Q25.rP (Z4 a0 a1 a2 a3 a4 w0 w1 w2 w3 w4),Go.AX.Q25.uu hX⟩
theorem facts1:((Rows.ribinSessionsUptoRow.inPlace==Tryz.prog.inPlace 7)&&(Rows.ribinSessionsUptoRow.unfollowed==Tryz.prog.unfollowed 7)&&(Rows.ribinSessionsUptoRow.recurses==Tryz.prog.recurses 7)&&(Rows.ribinSessionsUptoRow.named==Tryz.prog.varsNamed 7))=true:=by kernel_rfl
theorem facts2:(Tryz.prog.stopsHeard&&Tryz.prog.mayEnter&&(Rows.ribinSessionsUptoRow.lifted==Tryz.prog.liftsFinal)&&(Tryz.prog.make==some Rows.ribinSessionsUptoRow.make))=true:=by kernel_rfl
theorem facts3:(laidOutB Tryz.prog&&mapsRowed Tryz.prog&&(Rows.ribinSessionsUptoRow.plainKeys==Tryz.prog.plainKeys))=true:=by kernel_rfl
theorem facts:joinedFacts Tryz.prog 7 Tryz.f7 (Rows.OpenSpec.upto Rows.ribinSessionsSpec).bare Rows.ribinSessionsUptoRow=true:=by
 have h1:=facts1;have h2:=facts2;have h3:=facts3
 simp only[X26] at h1 h2 h3
 unfold joinedFacts
 rw[h1.1.1.1,h1.1.1.2,h1.1.2,h1.2,h2.1.1.1,h2.1.1.2,h2.1.2,h2.2,h3.1.1,h3.1.2,h3.2]
 clear h1 h2 h3
 refine (?_:@Eq Bool _ true)
 kernel_rfl
theorem over:Rows.ribinSessionsUptoRow.holds Tryz.pinned (Rows.OpenSpec.upto Rows.ribinSessionsSpec):=
 OpenClaim.holds_of_cond 7 Tryz.f7 rfl rfl rfl rfl rfl rfl rfl ⟨rfl,rfl,rfl,rfl,rfl⟩ rfl rfl rfl rfl rfl (by kernel_rfl) Tryz.func7 facts
  (of_decide_eq_true (by kernel_rfl)) (by unfold Func.isWrapper;first | (rw[if_pos (by decide +kernel)];kernel_rfl)|(rw[if_neg (by decide +kernel)];exact⟨rfl,rfl⟩))
  (fun os started H enc _ F=>by rw[OpenClaim.pre_eq_preRow];exact lifted os started H enc F)
theorem card_holds:Rows.RibinSessionsUptoCardSaid:=
 Claim7.holds_tied_plain_at .later [] [.data, .mapped, .pinned] true (true, "2a7c648d695288c2a2089ea855bf01ad73ba385e4901d298dd13b77bb45bcca1") false over (fun _ h => by cases h) (by kernel_rfl) (fun _ h => by cases h) ribinSessionsUpto_row_tie rfl ⟨rfl, rfl⟩ card1 rfl
  (fun f fn hf hfn=>by
   obtain rfl : f = 7 := X24 ((show Tryz.prog.funcNamed "exchangepoint/exchangepointlaw25.RibinSessions" = some 7 by kernel_rfl).symm.trans hf) |>.symm
   obtain rfl:fn=Tryz.f7:=(X24 (Tryz.func7.symm.trans hfn)).symm
   exact⟨card2,fun j t ht=>by
    rw[Tryz.params7] at ht
    have hm:t ∈ [27,40,3,3,3]:=by simpa using Array.mem_of_getElem? ht
    have hall:([27,40,3,3,3].all fun u=>!Tryz.prog.wantsStandIn u)=true:=by kernel_rfl
    exact (show Tryz.prog.wantsStandIn t=false by simpa using List.all_eq_true.1 hall t hm)⟩)
  card3
theorem proved:Rows.RibinSessionsUptoCardSaid:=card_holds
#print axioms proved
end Go.Proofs.YtppcmaidcgimpaaGreatDoor.ribinSessions
end
