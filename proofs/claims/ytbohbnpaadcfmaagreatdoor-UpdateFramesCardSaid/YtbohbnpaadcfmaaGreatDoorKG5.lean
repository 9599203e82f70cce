/-
  Texts of one proof, packed.
-/
import Derived.Test.YtbohbnpaadcfmaaGreatDoorKG4
import Derived.LaidSub
import Derived.MapKept
import Derived.Test.YtbohbnpaadcfmaaGreatDoorRows
set_option linter.all false
set_option maxRecDepth 100000
set_option maxHeartbeats 4000000
open List renaming length_append→X11,length_cons→X12,length_nil→X13,mem_singleton→X14,getElem?_eq_getElem→X15,getElem?_eq_some_iff→X16,mem_cons_of_mem→X19,length_set→X21,length_singleton→X22,mem_append→X23
open Option.some renaming injEq→X24,inj→X25
open Prod.mk renaming injEq→X26
open Bool renaming and_eq_true→X27,eq_iff_iff→X28
section
namespace Go.AX.Q19
open Go Go.AX
noncomputable section
def Ba:List (Int×Int):=[(1,64),(2,64),(3,64),(4,128),(5,64),(8,192),(32,192),(35,192)]
structure JAI where
  L:List Int
  At:Int
def JAI.toD (x:JAI):D:=.agg [D.l 1 D.i x.L,D.i x.At]
def JAI.av (x:JAI):List AV:=[.d (D.l 1 D.i x.L),.d (D.i x.At)]
def JAI.zv:List AV:=[.d (D.nil 1),.d (D.i 0)]
def JAI.wf (x:JAI):Prop:=(x.L.length<=maxLen/\x.L.length*8<=reachBytes/\∀y0∈x.L,I64 y0)/\I64 x.At/\True
structure JAE where
  Set:Bool
  ASNs:List Int
def JAE.toD (x:JAE):D:=.agg [D.b x.Set,D.l 1 D.i x.ASNs]
def JAE.av (x:JAE):List AV:=[.d (D.b x.Set),.d (D.l 1 D.i x.ASNs)]
def JAE.zv:List AV:=[.d (D.b false),.d (D.nil 1)]
def JAE.wf (x:JAE):Prop:=True/\(x.ASNs.length<=maxLen/\x.ASNs.length*8<=reachBytes/\∀y0∈x.ASNs,I64 y0)/\True
structure Addr where
  V6:Bool
  Hi:UInt64
  Lo:UInt64
def Addr.toD (x:Addr):D:=.agg [D.b x.V6,D.u64 x.Hi,D.u64 x.Lo]
def Addr.av (x:Addr):List AV:=[.d (D.b x.V6),.d (D.u64 x.Hi),.d (D.u64 x.Lo)]
def Addr.zv:List AV:=[.d (D.b false),.d (D.u64 (0:UInt64)),.d (D.u64 (0:UInt64))]
def Addr.wf (x:Addr):Prop:=True/\True/\True/\True
def Addr.eqd (x y:Addr):Bool:=((x.V6==y.V6)&&(((x.Hi.toNat:Int)==(y.Hi.toNat:Int))&&(((x.Lo.toNat:Int)==(y.Lo.toNat:Int))&&true)))
structure JAB where
  A:Int
  B:Int
def JAB.toD (x:JAB):D:=.agg [D.i x.A,D.i x.B]
def JAB.av (x:JAB):List AV:=[.d (D.i x.A),.d (D.i x.B)]
def JAB.zv:List AV:=[.d (D.i 0),.d (D.i 0)]
def JAB.wf (x:JAB):Prop:=I64 x.A/\I64 x.B/\True
def JAB.eqd (x y:JAB):Bool:=((x.A==y.A)&&((x.B==y.B)&&true))
structure JAF where
  A:Int
  B:Int
  C:Int
def JAF.toD (x:JAF):D:=.agg [D.i x.A,D.i x.B,D.i x.C]
def JAF.av (x:JAF):List AV:=[.d (D.i x.A),.d (D.i x.B),.d (D.i x.C)]
def JAF.zv:List AV:=[.d (D.i 0),.d (D.i 0),.d (D.i 0)]
def JAF.wf (x:JAF):Prop:=I64 x.A/\I64 x.B/\I64 x.C/\True
def JAF.eqd (x y:JAF):Bool:=((x.A==y.A)&&((x.B==y.B)&&((x.C==y.C)&&true)))
structure JAA where
  Flags:Int
  Type_:Int
  Data:List UInt8
def JAA.toD (x:JAA):D:=.agg [D.i x.Flags,D.i x.Type_,D.l 1 D.u8 x.Data]
def JAA.av (x:JAA):List AV:=[.d (D.i x.Flags),.d (D.i x.Type_),.d (D.l 1 D.u8 x.Data)]
def JAA.zv:List AV:=[.d (D.i 0),.d (D.i 0),.d (D.nil 1)]
def JAA.wf (x:JAA):Prop:=I64 x.Flags/\I64 x.Type_/\(x.Data.length<=maxLen/\x.Data.length*1<=reachBytes/\∀y0∈x.Data,True)/\True
structure JAC where
  Origin:Int
  Path:List JAE
  Next:Addr
  MED:Int
  Pref:Int
  OTC:Int
  Communities:List JAB
  JAF:List JAF
  Other:List JAA
def JAC.toD (x:JAC):D:=.agg [D.i x.Origin,D.l 2 JAE.toD x.Path,D.b x.Next.V6,D.u64 x.Next.Hi,D.u64 x.Next.Lo,D.i x.MED,D.i x.Pref,D.i x.OTC,D.l 2 JAB.toD x.Communities,D.l 3 JAF.toD x.JAF,D.l 3 JAA.toD x.Other]
def JAC.av (x:JAC):List AV:=[.d (D.i x.Origin),.d (D.l 2 JAE.toD x.Path),.d (D.b x.Next.V6),.d (D.u64 x.Next.Hi),.d (D.u64 x.Next.Lo),.d (D.i x.MED),.d (D.i x.Pref),.d (D.i x.OTC),.d (D.l 2 JAB.toD x.Communities),.d (D.l 3 JAF.toD x.JAF),.d (D.l 3 JAA.toD x.Other)]
def JAC.zv:List AV:=[.d (D.i 0),.d (D.nil 2),.d (D.b false),.d (D.u64 (0:UInt64)),.d (D.u64 (0:UInt64)),.d (D.i 0),.d (D.i 0),.d (D.i 0),.d (D.nil 2),.d (D.nil 3),.d (D.nil 3)]
def JAC.wf (x:JAC):Prop:=I64 x.Origin/\(x.Path.length<=maxLen/\x.Path.length*32<=reachBytes/\∀y0∈x.Path,JAE.wf y0)/\Addr.wf x.Next/\I64 x.MED/\I64 x.Pref/\I64 x.OTC/\(x.Communities.length<=maxLen/\x.Communities.length*16<=reachBytes/\∀y0∈x.Communities,JAB.wf y0)/\(x.JAF.length<=maxLen/\x.JAF.length*24<=reachBytes/\∀y0∈x.JAF,JAF.wf y0)/\(x.Other.length<=maxLen/\x.Other.length*40<=reachBytes/\∀y0∈x.Other,JAA.wf y0)/\True
structure JAD where
  Addr:Addr
  Len:Int
def JAD.toD (x:JAD):D:=.agg [D.b x.Addr.V6,D.u64 x.Addr.Hi,D.u64 x.Addr.Lo,D.i x.Len]
def JAD.av (x:JAD):List AV:=[.d (D.b x.Addr.V6),.d (D.u64 x.Addr.Hi),.d (D.u64 x.Addr.Lo),.d (D.i x.Len)]
def JAD.zv:List AV:=[.d (D.b false),.d (D.u64 (0:UInt64)),.d (D.u64 (0:UInt64)),.d (D.i 0)]
def JAD.wf (x:JAD):Prop:=Addr.wf x.Addr/\I64 x.Len/\True
def JAD.eqd (x y:JAD):Bool:=(((x.Addr.V6==y.Addr.V6)&&(((x.Addr.Hi.toNat:Int)==(y.Addr.Hi.toNat:Int))&&(((x.Addr.Lo.toNat:Int)==(y.Addr.Lo.toNat:Int))&&true)))&&((x.Len==y.Len)&&true))
structure JAG where
  Withdraw:List JAD
  JAC:JAC
  Announce:List JAD
def JAG.toD (x:JAG):D:=.agg [D.l 4 JAD.toD x.Withdraw,D.i x.JAC.Origin,D.l 2 JAE.toD x.JAC.Path,D.b x.JAC.Next.V6,D.u64 x.JAC.Next.Hi,D.u64 x.JAC.Next.Lo,D.i x.JAC.MED,D.i x.JAC.Pref,D.i x.JAC.OTC,D.l 2 JAB.toD x.JAC.Communities,D.l 3 JAF.toD x.JAC.JAF,D.l 3 JAA.toD x.JAC.Other,D.l 4 JAD.toD x.Announce]
def JAG.av (x:JAG):List AV:=[.d (D.l 4 JAD.toD x.Withdraw),.d (D.i x.JAC.Origin),.d (D.l 2 JAE.toD x.JAC.Path),.d (D.b x.JAC.Next.V6),.d (D.u64 x.JAC.Next.Hi),.d (D.u64 x.JAC.Next.Lo),.d (D.i x.JAC.MED),.d (D.i x.JAC.Pref),.d (D.i x.JAC.OTC),.d (D.l 2 JAB.toD x.JAC.Communities),.d (D.l 3 JAF.toD x.JAC.JAF),.d (D.l 3 JAA.toD x.JAC.Other),.d (D.l 4 JAD.toD x.Announce)]
def JAG.zv:List AV:=[.d (D.nil 4),.d (D.i 0),.d (D.nil 2),.d (D.b false),.d (D.u64 (0:UInt64)),.d (D.u64 (0:UInt64)),.d (D.i 0),.d (D.i 0),.d (D.i 0),.d (D.nil 2),.d (D.nil 3),.d (D.nil 3),.d (D.nil 4)]
def JAG.wf (x:JAG):Prop:=(x.Withdraw.length<=maxLen/\x.Withdraw.length*32<=reachBytes/\∀y0∈x.Withdraw,JAD.wf y0)/\JAC.wf x.JAC/\(x.Announce.length<=maxLen/\x.Announce.length*32<=reachBytes/\∀y0∈x.Announce,JAD.wf y0)/\True
structure JAJ where
  attrs:List JAA
  next:Addr
  gone4:List JAD
  gone6:List JAD
  new4:List JAD
  new6:List JAD
def JAJ.toD (x:JAJ):D:=.agg [D.l 3 JAA.toD x.attrs,D.b x.next.V6,D.u64 x.next.Hi,D.u64 x.next.Lo,D.l 4 JAD.toD x.gone4,D.l 4 JAD.toD x.gone6,D.l 4 JAD.toD x.new4,D.l 4 JAD.toD x.new6]
def JAJ.av (x:JAJ):List AV:=[.d (D.l 3 JAA.toD x.attrs),.d (D.b x.next.V6),.d (D.u64 x.next.Hi),.d (D.u64 x.next.Lo),.d (D.l 4 JAD.toD x.gone4),.d (D.l 4 JAD.toD x.gone6),.d (D.l 4 JAD.toD x.new4),.d (D.l 4 JAD.toD x.new6)]
def JAJ.zv:List AV:=[.d (D.nil 3),.d (D.b false),.d (D.u64 (0:UInt64)),.d (D.u64 (0:UInt64)),.d (D.nil 4),.d (D.nil 4),.d (D.nil 4),.d (D.nil 4)]
def JAJ.wf (x:JAJ):Prop:=(x.attrs.length<=maxLen/\x.attrs.length*40<=reachBytes/\∀y0∈x.attrs,JAA.wf y0)/\Addr.wf x.next/\(x.gone4.length<=maxLen/\x.gone4.length*32<=reachBytes/\∀y0∈x.gone4,JAD.wf y0)/\(x.gone6.length<=maxLen/\x.gone6.length*32<=reachBytes/\∀y0∈x.gone6,JAD.wf y0)/\(x.new4.length<=maxLen/\x.new4.length*32<=reachBytes/\∀y0∈x.new4,JAD.wf y0)/\(x.new6.length<=maxLen/\x.new6.length*32<=reachBytes/\∀y0∈x.new6,JAD.wf y0)/\True
structure JAH where
  Type_:Int
  Body:List UInt8
def JAH.toD (x:JAH):D:=.agg [D.i x.Type_,D.l 1 D.u8 x.Body]
def JAH.av (x:JAH):List AV:=[.d (D.i x.Type_),.d (D.l 1 D.u8 x.Body)]
def JAH.zv:List AV:=[.d (D.i 0),.d (D.nil 1)]
def JAH.wf (x:JAH):Prop:=I64 x.Type_/\(x.Body.length<=maxLen/\x.Body.length*1<=reachBytes/\∀y0∈x.Body,True)/\True
def Is (a0:List Int):Option JAI:= some (⟨a0,0⟩:JAI)
def Db:Option JAC:= some (⟨(-1),[],(⟨false,(0:UInt64),(0:UInt64)⟩:Addr),(-1),(-1),(-1),[],[],[]⟩:JAC)
def A6 (a0:Int)(a1:Int):Option Int:=
(chk (a1≠0)).bind fun _=> AI (τ:=Int) (fun k1=> if (decide ((Int.tmod a0 a1)<0)) then k1 (AS ((Int.tmod a0 a1)+a1)) else k1 (Int.tmod a0 a1)
) fun v2=> some v2
def AL (a0:JAI)(a1:Int):Option (Int×JAI):= if (decide (a0.At ≥ (a0.L.length:Int))) then some (0,a0) else
(geti a0.L (AS ((AS (a0.At+1))-1))).bind fun v1=>
(A6 v1 a1).bind fun v2=> some (v2,(⟨a0.L,(AS (a0.At+1))⟩:JAI))
def Hr (a0:Int):Option Addr:= some (⟨false,(0:UInt64),(AN (3221225984+((AN (AS (1+a0))).toNat:Int)))⟩:Addr)
def Iy (a0:Int):Option Addr:= some (⟨true,(2306139568115548160:UInt64),(AN (AS (1+a0)))⟩:Addr)
def EC (a0:List JAE):Option Bool:= AI (τ:=Int) (fun k1=> Ak (σ:=Int) (fun v2=> k1 v2
) (fun next3 (x4:JAE) i5 v2=> AI (τ:=Unit) (fun k6=> AI (τ:=Bool) (fun k7=> if ((x4.ASNs.length:Int)==0) then k7 true else if (decide ((i5:Int) > 0)) then if (cond true (!x4.Set) false) then
(geti a0 (AS ((i5:Int)-1))).bind fun v8=> k7 (cond false true (cond true (!v8.Set) false)) else k7 false else k7 false
) fun v9=> if v9 then some false else AI (τ:=Unit) (fun k10=> Ak (σ:=Unit) (fun _=> k10 ()
) (fun next11 (x12:Int) i13 _=> AI (τ:=Bool) (fun k14=> if (decide (x12<1)) then k14 true else if (cond false true (decide (x12 > 4294967295))) then k14 true else if x4.Set then if (cond true (decide ((i13:Int) > 0)) false) then
(geti x4.ASNs (AS ((i13:Int)-1))).bind fun v15=> k14 (cond false true (cond true (decide (v15 ≥ x12)) false)) else k14 false else k14 false
) fun v16=> if v16 then some false else next11 ()
) x4.ASNs 0 ()
) fun _=> k6 ()
) fun _=> next3 (AS (v2+(x4.ASNs.length:Int)))
) a0 0 0
) fun v17=> some (decide (v17<=64))
def Eb (a0:JAI):Option (Int×JAI):=
(AL a0 9).bind fun (v1,v2)=>
(AL v2 3).bind fun (v3,v4)=>
(AL v4 7).bind fun (v5,v6)=>
(geti ([1,7,3,65001,4294967295,(AS (1+v1)),(AS (64512+v3))]:List Int) v5).bind fun v7=> some (v7,v6)
def EA (a0:JAI):Option ((List JAE)×JAI):=
(AL a0 4).bind fun (v1,v2)=> AI (τ:=JAI×(List JAE)) (fun k3=> A1 (σ:=Int×JAI×(List JAE)) (fun next4 (v5,v6,v7)=> if (decide (v5 > 0)) then AI (τ:=JAI×(List JAE)) (fun k8=> AI (τ:=Bool×JAI) (fun k9=> if (decide ((v7.length:Int) > 0)) then
(geti v7 (AS ((v7.length:Int)-1))).bind fun v10=> if (cond true (!v10.Set) false) then k9 (true,v6) else
(AL v6 5).bind fun (v11,v12)=> k9 ((cond false true (v11==4)),v12) else
(AL v6 5).bind fun (v13,v14)=> k9 ((cond false true (v13==4)),v14)
) fun (v15,v16)=>
(AL v16 4).bind fun (v17,v18)=> AI (τ:=JAI×(List Int)) (fun k19=> A1 (σ:=Int×JAI×(List Int)) (fun next20 (v21,v22,v23)=> if (decide (v21 > 0)) then AI (τ:=JAI×(List Int)) (fun k24=>
(Eb v22).bind fun (v25,v26)=> if (!v15) then
(apnd (α:=Int) 8 v23 ([v25]:List Int)).bind fun v27=> k24 (v26,v27) else AI (τ:=Int) (fun k28=> A1 (σ:=Int) (fun next29 v30=> AI (τ:=Bool) (fun k31=> if (decide (v30<(v23.length:Int))) then
(geti v23 v30).bind fun v32=> k31 (cond true (decide (v32<v25)) false) else k31 false
) fun v33=> if v33 then next29 (AS (v30+1)) else k28 v30
) fuel 0
) fun v34=> AI (τ:=Bool) (fun k35=> if (v34==(v23.length:Int)) then k35 true else
(geti v23 v34).bind fun v36=> k35 (cond false true (v36 != v25))
) fun v37=> AI (τ:=(List Int)) (fun k38=> if v37 then
(chk (0<=(0:Int)/\(0:Int)<=v34/\v34<=(v23.length:Int))).bind fun _=>
(apnd (α:=Int) 8 [] (List.take (Int.toNat v34-Int.toNat 0) (List.drop (Int.toNat 0) v23))).bind fun _=>
(apnd (α:=Int) 8 (List.take (Int.toNat v34-Int.toNat 0) (List.drop (Int.toNat 0) v23)) ([v25]:List Int)).bind fun v39=>
(chk (0<=v34/\v34<=(v23.length:Int)/\(v23.length:Int)<=(v23.length:Int))).bind fun _=>
(apnd (α:=Int) 8 v39 (List.take (Int.toNat (v23.length:Int)-Int.toNat v34) (List.drop (Int.toNat v34) v23))).bind fun v40=> k38 v40 else k38 v23
) fun v41=> k24 (v26,v41)
) fun (v42,v43)=> next20 ((AS (v21-1)),v42,v43) else k19 (v22,v23)
) fuel ((AS (1+v17)),v18,[])
) fun (v44,v45)=>
(apnd (α:=JAE) 32 v7 ([(⟨v15,v45⟩:JAE)]:List JAE)).bind fun v46=>
(EC v46).bind fun v47=> AI (τ:=(List JAE)) (fun k48=> if (!v47) then
(part v46 0 (AS ((v46.length:Int)-1))).bind fun v49=> k48 v49 else k48 v46
) fun v50=> k8 (v44,v50)
) fun (v51,v52)=> next4 ((AS (v5-1)),v51,v52) else k3 (v6,v7)
) fuel (v1,v2,[])
) fun (v53,v54)=> some (v54,v53)
def Df (a0:JAB):Option Bool:= AI (τ:=Bool) (fun k1=> if (decide (a0.A ≥ 0)) then if (cond true (decide (a0.A<=65535)) false) then if (cond true (decide (a0.B ≥ 0)) false) then k1 (cond true (decide (a0.B<=65535)) false) else k1 false else k1 false else k1 false
) fun v2=> some v2
def Dj (a0:JAB)(a1:JAB):Option Bool:= AI (τ:=Bool) (fun k1=> if (decide (a0.A<a1.A)) then k1 true else if (a0.A==a1.A) then k1 (cond false true (cond true (decide (a0.B<a1.B)) false)) else k1 false
) fun v2=> some v2
def EL (a0:List JAB):Option Bool:= AI (τ:=Unit) (fun k1=> Ak (σ:=Unit) (fun _=> k1 ()
) (fun next2 (x3:JAB) i4 _=> AI (τ:=Bool) (fun k5=>
(Df x3).bind fun v6=> if (!v6) then k5 true else if (decide ((i4:Int) > 0)) then
(geti a0 (AS ((i4:Int)-1))).bind fun v7=>
(Dj v7 x3).bind fun v8=> k5 (cond false true (cond true (!v8) false)) else k5 false
) fun v9=> if v9 then some false else next2 ()
) a0 0 ()
) fun _=> some (decide ((a0.length:Int)<=64))
def FS (a0:List JAB)(a1:JAB):Option Bool:= AI (τ:=Unit) (fun k1=> Ak (σ:=Unit) (fun _=> k1 ()
) (fun next2 (x3:JAB) i4 _=> if (JAB.eqd x3 a1) then some true else next2 ()
) a0 0 ()
) fun _=> some false
def Ho (a0:List JAB)(a1:JAB):Option ((List JAB)×Int):= AI (τ:=Bool) (fun k1=>
(EL a0).bind fun v2=> if (!v2) then k1 true else
(Df a1).bind fun v3=> k1 (cond false true (!v3))
) fun v4=> if v4 then some ([],1) else
(FS a0 a1).bind fun v5=> if v5 then
(apnd (α:=JAB) 16 [] a0).bind fun _=> some (a0,0) else if (decide ((a0.length:Int) ≥ 64)) then some ([],3) else AI (τ:=Int) (fun k6=> A1 (σ:=Int) (fun next7 v8=> AI (τ:=Bool) (fun k9=> if (decide (v8<(a0.length:Int))) then
(geti a0 v8).bind fun v10=>
(Dj v10 a1).bind fun v11=> k9 (cond true v11 false) else k9 false
) fun v12=> if v12 then next7 (AS (v8+1)) else k6 v8
) fuel 0
) fun v13=>
(part a0 0 v13).bind fun v14=>
(apnd (α:=JAB) 16 [] v14).bind fun _=>
(apnd (α:=JAB) 16 v14 ([a1]:List JAB)).bind fun v15=>
(part a0 v13 (a0.length:Int)).bind fun v16=>
(apnd (α:=JAB) 16 v15 v16).bind fun v17=> some (v17,0)
def BU (a0:JAF):Option Bool:= AI (τ:=Bool) (fun k1=> if (decide (a0.A ≥ 0)) then if (cond true (decide (a0.A<=4294967295)) false) then if (cond true (decide (a0.B ≥ 0)) false) then if (cond true (decide (a0.B<=4294967295)) false) then if (cond true (decide (a0.C ≥ 0)) false) then k1 (cond true (decide (a0.C<=4294967295)) false) else k1 false else k1 false else k1 false else k1 false else k1 false
) fun v2=> some v2
def BQ (a0:JAF)(a1:JAF):Option Bool:= AI (τ:=Bool) (fun k1=> if (decide (a0.A<a1.A)) then k1 true else if (a0.A==a1.A) then if (decide (a0.B<a1.B)) then k1 true else if (a0.B==a1.B) then k1 (cond false true (cond true (cond false true (cond true (decide (a0.C<a1.C)) false)) false)) else k1 false else k1 false
) fun v2=> some v2
def Bw (a0:List JAF):Option Bool:= AI (τ:=Unit) (fun k1=> Ak (σ:=Unit) (fun _=> k1 ()
) (fun next2 (x3:JAF) i4 _=> AI (τ:=Bool) (fun k5=>
(BU x3).bind fun v6=> if (!v6) then k5 true else if (decide ((i4:Int) > 0)) then
(geti a0 (AS ((i4:Int)-1))).bind fun v7=>
(BQ v7 x3).bind fun v8=> k5 (cond false true (cond true (!v8) false)) else k5 false
) fun v9=> if v9 then some false else next2 ()
) a0 0 ()
) fun _=> some (decide ((a0.length:Int)<=64))
def Ce (a0:List JAF)(a1:JAF):Option Bool:= AI (τ:=Unit) (fun k1=> Ak (σ:=Unit) (fun _=> k1 ()
) (fun next2 (x3:JAF) i4 _=> if (JAF.eqd x3 a1) then some true else next2 ()
) a0 0 ()
) fun _=> some false
def EF (a0:List JAF)(a1:JAF):Option ((List JAF)×Int):= AI (τ:=Bool) (fun k1=>
(Bw a0).bind fun v2=> if (!v2) then k1 true else
(BU a1).bind fun v3=> k1 (cond false true (!v3))
) fun v4=> if v4 then some ([],1) else
(Ce a0 a1).bind fun v5=> if v5 then
(apnd (α:=JAF) 24 [] a0).bind fun _=> some (a0,0) else if (decide ((a0.length:Int) ≥ 64)) then some ([],3) else AI (τ:=Int) (fun k6=> A1 (σ:=Int) (fun next7 v8=> AI (τ:=Bool) (fun k9=> if (decide (v8<(a0.length:Int))) then
(geti a0 v8).bind fun v10=>
(BQ v10 a1).bind fun v11=> k9 (cond true v11 false) else k9 false
) fun v12=> if v12 then next7 (AS (v8+1)) else k6 v8
) fuel 0
) fun v13=>
(part a0 0 v13).bind fun v14=>
(apnd (α:=JAF) 24 [] v14).bind fun _=>
(apnd (α:=JAF) 24 v14 ([a1]:List JAF)).bind fun v15=>
(part a0 v13 (a0.length:Int)).bind fun v16=>
(apnd (α:=JAF) 24 v15 v16).bind fun v17=> some (v17,0)
def Bo (a0:JAI):Option ((List JAB)×(List JAF)×JAI):=
(AL a0 5).bind fun (v1,v2)=> AI (τ:=(List JAB)×JAI) (fun k3=> A1 (σ:=(List JAB)×Int×JAI) (fun next4 (v5,v6,v7)=> if (decide (v6 > 0)) then
(AL v7 4).bind fun (v8,v9)=>
(geti ([65000,65535,0,1]:List Int) v8).bind fun v10=>
(AL v9 5).bind fun (v11,v12)=>
(AL v12 4).bind fun (v13,v14)=>
(geti ([0,666,65535,(AS (1+v11))]:List Int) v13).bind fun v15=>
(Ho v5 (⟨v10,v15⟩:JAB)).bind fun (v16,v17)=> next4 (v16,(AS (v6-1)),v14) else k3 (v5,v7)
) fuel ([],v1,v2)
) fun (v18,v19)=>
(AL v19 4).bind fun (v20,v21)=> AI (τ:=(List JAF)×JAI) (fun k22=> A1 (σ:=(List JAF)×Int×JAI) (fun next23 (v24,v25,v26)=> if (decide (v25 > 0)) then
(AL v26 3).bind fun (v27,v28)=>
(geti ([65000,4294967295,0]:List Int) v27).bind fun v29=>
(AL v28 3).bind fun (v30,v31)=>
(AL v31 4).bind fun (v32,v33)=>
(EF v24 (⟨v29,v30,v32⟩:JAF)).bind fun (v34,v35)=> next23 (v34,(AS (v25-1)),v33) else k22 (v24,v26)
) fuel ([],v20,v21)
) fun (v36,v37)=> some (v18,v36,v37)
def Dq (a0:JAI)(a1:Int):Option ((List UInt8)×JAI):=
(AL a0 (AS (a1+1))).bind fun (v1,v2)=> AI (τ:=JAI×(List UInt8)) (fun k3=> A1 (σ:=Int×JAI×(List UInt8)) (fun next4 (v5,v6,v7)=> if (decide (v5 > 0)) then
(AL v6 256).bind fun (v8,v9)=>
(apnd (α:=UInt8) 1 v7 ([(Ah v8)]:List UInt8)).bind fun v10=> next4 ((AS (v5-1)),v9,v10) else k3 (v6,v7)
) fuel (v1,v2,[])
) fun (v11,v12)=> some (v12,v11)
def C6 (a0:JAI):Option (JAC×JAI):= AI (τ:=Unit) (fun k1=> k1 ()
) fun _=>
(AL a0 4).bind fun (v2,v3)=>
(EA v3).bind fun (v4,v5)=>
(Hr 3).bind fun v6=>
(Iy 4).bind fun v7=>
(AL v5 3).bind fun (v8,v9)=>
(geti ([(⟨false,(0:UInt64),(0:UInt64)⟩:Addr),v6,v7]:List Addr) v8).bind fun v10=>
(AL v9 4).bind fun (v11,v12)=>
(geti ([(-1),0,100,4294967295]:List Int) v11).bind fun v13=>
(AL v12 4).bind fun (v14,v15)=>
(geti ([(-1),0,100,4294967295]:List Int) v14).bind fun v16=>
(AL v15 3).bind fun (v17,v18)=>
(geti ([(-1),1,65000]:List Int) v17).bind fun v19=>
(Bo v18).bind fun (v20,v21,v22)=> AI (τ:=JAI×(List JAA)) (fun k23=> Ak (σ:=JAI×(List JAA)) (fun (v24,v25)=> k23 (v24,v25)
) (fun next26 (x27:Int) i28 (v24,v25)=>
(AL v24 6).bind fun (v29,v30)=> AI (τ:=JAI×(List JAA)) (fun k31=> if (v29==5) then
(Dq v30 9).bind fun (v32,v33)=>
(apnd (α:=JAA) 40 v25 ([(⟨224,x27,v32⟩:JAA)]:List JAA)).bind fun v34=> k31 (v33,v34) else k31 (v30,v25)
) fun (v35,v36)=> next26 (v35,v36)
) ([6,7,16,34,200,255]:List Int) 0 (v22,[])
) fun (v37,v38)=> some ((⟨(AS (v2-1)),v4,v10,v13,v16,v19,v20,v21,v38⟩:JAC),v37)
def ED (a0:JAI):Option (Addr×JAI):=
(AL a0 6).bind fun (v1,v2)=> if (v1==0) then
(AL v2 8).bind fun (v3,v4)=>
(AL v4 4).bind fun (v5,v6)=> some ((⟨false,(0:UInt64),(AN (AS ((AS (167772160+(AS (v3*(2^(min (Int.toNat 8) 64))))))+v5)))⟩:Addr),v6) else if (v1==1) then
(AL v2 4).bind fun (v7,v8)=>
(AL v8 8).bind fun (v9,v10)=> some ((⟨true,(AN (2306139568115548160+((AN v7).toNat:Int))),(AN v9)⟩:Addr),v10) else if (v1==2) then
(AL v2 5).bind fun (v11,v12)=>
(geti ([(0:UInt64),(1:UInt64),(4294967295:UInt64),(2147483647:UInt64),(2147483648:UInt64)]:List UInt64) v11).bind fun v13=> some ((⟨false,(0:UInt64),v13⟩:Addr),v12) else if (v1==3) then
(AL v2 4).bind fun (v14,v15)=>
(geti ([(0:UInt64),(1:UInt64),(18446744073709551615:UInt64),(9223372036854775808:UInt64)]:List UInt64) v14).bind fun v16=>
(AL v15 4).bind fun (v17,v18)=>
(geti ([(0:UInt64),(1:UInt64),(18446744073709551615:UInt64),(9223372036854775808:UInt64)]:List UInt64) v17).bind fun v19=> some ((⟨true,v16,v19⟩:Addr),v18) else if (v1==4) then
(AL v2 1073741824).bind fun (v20,v21)=>
(AL v21 5).bind fun (v22,v23)=>
(AL v23 1073741824).bind fun (v24,v25)=>
(AL v25 5).bind fun (v26,v27)=> some ((⟨true,(AN (((AN v20).toNat:Int)*(2^(min (Int.toNat ((AN (AS (v22*8))).toNat:Int)) 64)))),(AN (((AN v24).toNat:Int)*(2^(min (Int.toNat ((AN (AS (v26*8))).toNat:Int)) 64))))⟩:Addr),v27) else
(AL v2 1073741824).bind fun (v28,v29)=> some ((⟨false,(0:UInt64),(AN v28)⟩:Addr),v29)
def DG (a0:Addr):Option Bool:= AI (τ:=Bool) (fun k1=> if a0.V6 then k1 true else if ((a0.Hi.toNat:Int)==0) then k1 (cond false true (cond true (decide ((a0.Lo.toNat:Int)<4294967296)) false)) else k1 false
) fun v2=> some v2
def DC (a0:Addr):Option Int:= if a0.V6 then some 128 else some 32
def BG (a0:Addr):Option (List UInt8):=
(DG a0).bind fun v1=> if (!v1) then some [] else AI (τ:=Int) (fun k2=> if a0.V6 then k2 16 else k2 4
) fun v3=> AI (τ:=(List UInt8)) (fun k4=> A1 (σ:=Int×(List UInt8)) (fun next5 (v6,v7)=> if (decide (v6 ≥ 0)) then AI (τ:=UInt64) (fun k8=> if (decide (v6 ≥ 8)) then k8 a0.Hi else k8 a0.Lo
) fun v9=>
(apnd (α:=UInt8) 1 v7 ([(Ah ((AN (Int.fdiv (v9.toNat:Int) (2^(min (Int.toNat ((AN (8*((AN (Int.tmod v6 8)).toNat:Int))).toNat:Int)) 64)))).toNat:Int))]:List UInt8)).bind fun v10=> next5 ((AS (v6-1)),v10) else k4 v7
) fuel ((AS (v3-1)),[])
) fun v11=> some v11
def CE (a0:List UInt8):Option (Addr×Int):= AI (τ:=Bool) (fun k1=> if ((a0.length:Int) != 4) then k1 (cond true ((a0.length:Int) != 16) false) else k1 false
) fun v2=> if v2 then some ((⟨false,(0:UInt64),(0:UInt64)⟩:Addr),1) else AI (τ:=Addr) (fun k3=> Ak (σ:=Addr) (fun v4=> k3 v4
) (fun next5 (x6:UInt8) i7 v4=> next5 (⟨v4.V6,(AN ((BitVec.ofInt 64 ((AN ((v4.Hi.toNat:Int)*(2^(min (Int.toNat 8) 64)))).toNat:Int) ||| BitVec.ofInt 64 ((AN (Int.fdiv (v4.Lo.toNat:Int) (2^(min (Int.toNat 56) 64)))).toNat:Int)).toNat:Int)),(AN ((BitVec.ofInt 64 ((AN ((v4.Lo.toNat:Int)*(2^(min (Int.toNat 8) 64)))).toNat:Int) ||| BitVec.ofInt 64 ((AN (x6.toNat:Int)).toNat:Int)).toNat:Int))⟩:Addr)
) a0 0 (⟨((a0.length:Int)==16),(0:UInt64),(0:UInt64)⟩:Addr)
) fun v8=> some (v8,0)
def DO (a0:Addr)(a1:Int):Option (JAD×Int):=
(DG a0).bind fun v1=> if (!v1) then some ((⟨(⟨false,(0:UInt64),(0:UInt64)⟩:Addr),0⟩:JAD),1) else AI (τ:=Bool) (fun k2=> if (decide (a1<0)) then k2 true else
(DC a0).bind fun v3=> k2 (cond false true (decide (a1 > v3)))
) fun v4=> if v4 then some ((⟨(⟨false,(0:UInt64),(0:UInt64)⟩:Addr),0⟩:JAD),9) else
(BG a0).bind fun v5=> AI (τ:=(List UInt8)) (fun k6=> A1 (σ:=Int×(List UInt8)) (fun next7 (v8,v9)=> if (decide (v8<(AS (8*(v9.length:Int))))) then
(geti v9 (AS (Int.tdiv v8 8))).bind fun v10=>
(geti v9 (AS (Int.tdiv v8 8))).bind fun v11=>
(seti v9 (AS (Int.tdiv v8 8)) (Ah ((BitVec.ofInt 8 (v10.toNat:Int) &&& ~~~BitVec.ofInt 8 ((Ah (Int.fdiv 128 (2^(min (Int.toNat ((AN (Int.tmod v8 8)).toNat:Int)) 8)))).toNat:Int)).toNat:Int))).bind fun v12=> next7 ((AS (v8+1)),v12) else k6 v9
) fuel (a1,v5)
) fun v13=>
(CE v13).bind fun (v14,v15)=> some ((⟨v14,a1⟩:JAD),0)
def BX (a0:JAI):Option (JAD×JAI):=
(ED a0).bind fun (v1,v2)=> AI (τ:=Int) (fun k3=> if v1.V6 then k3 128 else k3 32
) fun v4=>
(AL v2 4).bind fun (v5,v6)=> AI (τ:=Int×JAI) (fun k7=> if (v5==0) then
(AL v6 (AS (v4+1))).bind fun (v8,v9)=> k7 (v8,v9) else AI (τ:=Int×JAI) (fun k10=> if (v5==1) then
(AL v6 9).bind fun (v11,v12)=> k10 ((AS (v4-v11)),v12) else AI (τ:=Int×JAI) (fun k13=> if (v5==2) then
(AL v6 5).bind fun (v14,v15)=>
(geti ([8,22,23,24,16]:List Int) v14).bind fun v16=> k13 (v16,v15) else k13 (v4,v6)
) fun (v17,v18)=> k10 (v17,v18)
) fun (v19,v20)=> k7 (v19,v20)
) fun (v21,v22)=>
(DO v1 v21).bind fun (v23,v24)=> some (v23,v22)
def DF (a0:JAD):Option Bool:=
(DO a0.Addr a0.Len).bind fun (v1,v2)=> AI (τ:=Bool) (fun k3=> if (v2==0) then k3 (cond true (JAD.eqd a0 v1) false) else k3 false
) fun v4=> some v4
def BF (a0:Int):Option Int:= AI (τ:=Bool) (fun k1=> if (a0==1) then k1 (a0==1) else AI (τ:=Bool) (fun k2=> if (a0==2) then k2 (a0==2) else AI (τ:=Bool) (fun k3=> if (a0==3) then k3 (a0==3) else k3 (a0==5)
) fun v4=> k2 v4
) fun v5=> k1 v5
) fun v6=> if v6 then some 64 else if (a0==4) then some 128 else AI (τ:=Bool) (fun k7=> if (a0==8) then k7 (a0==8) else AI (τ:=Bool) (fun k8=> if (a0==32) then k8 (a0==32) else k8 (a0==35)
) fun v9=> k7 v9
) fun v10=> if v10 then some 192 else some 0
def CU (a0:Int):Option Bool:= AI (τ:=Bool) (fun k1=>
(BF a0).bind fun v2=> if (v2==0) then if (cond true (a0 != 14) false) then k1 (cond true (a0 != 15) false) else k1 false else k1 false
) fun v3=> some v3
def E3 (a0:JAC):Option Bool:= AI (τ:=Unit) (fun k1=> Ak (σ:=Unit) (fun _=> k1 ()
) (fun next2 (x3:JAA) i4 _=> AI (τ:=Bool) (fun k5=> if (decide (x3.Type_<1)) then k5 true else if (cond false true (decide (x3.Type_ > 255))) then k5 true else
(CU x3.Type_).bind fun v6=> if (cond false true (!v6)) then k5 true else if (cond false true (x3.Flags != 224)) then k5 true else if (cond false true (decide ((x3.Data.length:Int) > 255))) then k5 true else if (decide ((i4:Int) > 0)) then
(geti a0.Other (AS ((i4:Int)-1))).bind fun v7=> k5 (cond false true (cond true (decide (v7.Type_ ≥ x3.Type_)) false)) else k5 false
) fun v8=> if v8 then some false else next2 ()
) a0.Other 0 ()
) fun _=> AI (τ:=Bool) (fun k9=> if (decide (a0.Origin ≥ (-1))) then if (cond true (decide (a0.Origin<=2)) false) then
(EC a0.Path).bind fun v10=> if (cond true v10 false) then
(DG a0.Next).bind fun v11=> if (cond true v11 false) then if (cond true (decide (a0.MED ≥ (-1))) false) then if (cond true (decide (a0.MED<=4294967295)) false) then if (cond true (decide (a0.Pref ≥ (-1))) false) then if (cond true (decide (a0.Pref<=4294967295)) false) then if (a0.OTC==(-1)) then
(EL a0.Communities).bind fun v12=> if (cond true v12 false) then
(Bw a0.JAF).bind fun v13=> if (cond true v13 false) then k9 (cond true (decide ((a0.Other.length:Int)<=8)) false) else k9 false else k9 false else if (decide (a0.OTC ≥ 1)) then if (cond true (cond false true (cond true (decide (a0.OTC<=4294967295)) false)) false) then
(EL a0.Communities).bind fun v14=> if (cond true v14 false) then
(Bw a0.JAF).bind fun v15=> if (cond true v15 false) then k9 (cond true (decide ((a0.Other.length:Int)<=8)) false) else k9 false else k9 false else k9 false else k9 false else k9 false else k9 false else k9 false else k9 false else k9 false else k9 false else k9 false else k9 false
) fun v16=> some v16
def Dp (a0:List JAE)(a1:List JAE):Option Bool:= if ((a0.length:Int) != (a1.length:Int)) then some false else AI (τ:=Unit) (fun k1=> Ak (σ:=Unit) (fun _=> k1 ()
) (fun next2 (x3:JAE) i4 _=> AI (τ:=Unit) (fun k5=> AI (τ:=Bool) (fun k6=>
(geti a1 (i4:Int)).bind fun v7=> if (!(x3.Set==v7.Set)) then k6 true else
(geti a1 (i4:Int)).bind fun v8=> k6 (cond false true ((x3.ASNs.length:Int) != (v8.ASNs.length:Int)))
) fun v9=> if v9 then some false else AI (τ:=Unit) (fun k10=> Ak (σ:=Unit) (fun _=> k10 ()
) (fun next11 (x12:Int) i13 _=>
(geti a1 (i4:Int)).bind fun v14=>
(geti v14.ASNs (i13:Int)).bind fun v15=> if (v15 != x12) then some false else next11 ()
) x3.ASNs 0 ()
) fun _=> k5 ()
) fun _=> next2 ()
) a0 0 ()
) fun _=> some true
def Dl (a0:List JAB)(a1:List JAB):Option Bool:= if ((a0.length:Int) != (a1.length:Int)) then some false else AI (τ:=Unit) (fun k1=> Ak (σ:=Unit) (fun _=> k1 ()
) (fun next2 (x3:JAB) i4 _=>
(geti a1 (i4:Int)).bind fun v5=> if (!(JAB.eqd v5 x3)) then some false else next2 ()
) a0 0 ()
) fun _=> some true
def BP (a0:List JAF)(a1:List JAF):Option Bool:= if ((a0.length:Int) != (a1.length:Int)) then some false else AI (τ:=Unit) (fun k1=> Ak (σ:=Unit) (fun _=> k1 ()
) (fun next2 (x3:JAF) i4 _=>
(geti a1 (i4:Int)).bind fun v5=> if (!(JAF.eqd v5 x3)) then some false else next2 ()
) a0 0 ()
) fun _=> some true
def Bc (a0:List JAA)(a1:List JAA):Option Bool:= if ((a0.length:Int) != (a1.length:Int)) then some false else AI (τ:=Unit) (fun k1=> Ak (σ:=Unit) (fun _=> k1 ()
) (fun next2 (x3:JAA) i4 _=> AI (τ:=Bool) (fun k5=>
(geti a1 (i4:Int)).bind fun v6=> if (x3.Flags != v6.Flags) then k5 true else
(geti a1 (i4:Int)).bind fun v7=> if (cond false true (x3.Type_ != v7.Type_)) then k5 true else
(geti a1 (i4:Int)).bind fun v8=> k5 (cond false true (!((bs x3.Data).toList==(bs v8.Data).toList)))
) fun v9=> if v9 then some false else next2 ()
) a0 0 ()
) fun _=> some true
def Cb (a0:JAC)(a1:JAC):Option Bool:= AI (τ:=Bool) (fun k1=> if (a0.Origin==a1.Origin) then
(Dp a0.Path a1.Path).bind fun v2=> if (cond true v2 false) then if (cond true (Addr.eqd a0.Next a1.Next) false) then if (cond true (a0.MED==a1.MED) false) then if (cond true (a0.Pref==a1.Pref) false) then if (cond true (a0.OTC==a1.OTC) false) then
(Dl a0.Communities a1.Communities).bind fun v3=> if (cond true v3 false) then
(BP a0.JAF a1.JAF).bind fun v4=> if (cond true v4 false) then
(Bc a0.Other a1.Other).bind fun v5=> k1 (cond true v5 false) else k1 false else k1 false else k1 false else k1 false else k1 false else k1 false else k1 false else k1 false
) fun v6=> some v6
def AT (a0:Int)(a1:Int):Option (List UInt8):= AI (τ:=(List UInt8)) (fun k1=> A1 (σ:=Int×(List UInt8)) (fun next2 (v3,v4)=> if (decide (v3 ≥ 0)) then
(apnd (α:=UInt8) 1 v4 ([(Ah (Int.fdiv a0 (2^(min (Int.toNat ((AN (8*((AN v3).toNat:Int))).toNat:Int)) 64))))]:List UInt8)).bind fun v5=> next2 ((AS (v3-1)),v5) else k1 v4
) fuel ((AS (a1-1)),[])
) fun v6=> some v6
def Et (a0:JAC):Option ((List JAA)×Int):=
(E3 a0).bind fun v1=> if (!v1) then some ([],1) else AI (τ:=(List (Int×(List UInt8)))) (fun k2=> if (decide (a0.Origin ≥ 0)) then k2 (Cd [] 1 ([(Ah a0.Origin)]:List UInt8)) else k2 []
) fun v3=> AI (τ:=Bool) (fun k4=> if (decide (a0.Origin ≥ 0)) then k4 true else k4 (cond false true (decide ((a0.Path.length:Int) > 0)))
) fun v5=> AI (τ:=(List (Int×(List UInt8)))) (fun k6=> if v5 then AI (τ:=(List UInt8)) (fun k7=> Ak (σ:=(List UInt8)) (fun v8=> k7 v8
) (fun next9 (x10:JAE) i11 v8=> AI (τ:=(List UInt8)) (fun k12=> AI (τ:=UInt8) (fun k13=> if x10.Set then k13 (1:UInt8) else k13 (2:UInt8)
) fun v14=>
(apnd (α:=UInt8) 1 v8 ([v14,(Ah (x10.ASNs.length:Int))]:List UInt8)).bind fun v15=> AI (τ:=(List UInt8)) (fun k16=> Ak (σ:=(List UInt8)) (fun v17=> k16 v17
) (fun next18 (x19:Int) i20 v17=>
(AT x19 4).bind fun v21=>
(apnd (α:=UInt8) 1 v17 v21).bind fun v22=> next18 v22
) x10.ASNs 0 v15
) fun v23=> k12 v23
) fun v24=> next9 v24
) a0.Path 0 ([]:List UInt8)
) fun v25=> k6 (Cd v3 2 v25) else k6 v3
) fun v26=> AI (τ:=Bool) (fun k27=> if (!(Addr.eqd a0.Next (⟨false,(0:UInt64),(0:UInt64)⟩:Addr))) then k27 (cond true (!a0.Next.V6) false) else k27 false
) fun v28=> AI (τ:=(List (Int×(List UInt8)))) (fun k29=> if v28 then
(BG a0.Next).bind fun v30=> k29 (Cd v26 3 v30) else k29 v26
) fun v31=> AI (τ:=(List (Int×(List UInt8)))) (fun k32=> if (decide (a0.MED ≥ 0)) then
(AT a0.MED 4).bind fun v33=> k32 (Cd v31 4 v33) else k32 v31
) fun v34=> AI (τ:=(List (Int×(List UInt8)))) (fun k35=> if (decide (a0.Pref ≥ 0)) then
(AT a0.Pref 4).bind fun v36=> k35 (Cd v34 5 v36) else k35 v34
) fun v37=> AI (τ:=(List (Int×(List UInt8)))×(List UInt8)) (fun k38=>
(chk ((A4 v37 8).isNone=true)).bind fun _=> Ak (σ:=(List (Int×(List UInt8)))×(List UInt8)) (fun (v39,v40)=> k38 (v39,v40)
) (fun next41 (x42:JAB) i43 (v39,v40)=>
(AT x42.A 2).bind fun v44=>
(apnd (α:=UInt8) 1 v40 v44).bind fun v45=>
(AT x42.B 2).bind fun v46=>
(apnd (α:=UInt8) 1 v45 v46).bind fun v47=> next41 ((Cd v39 8 v47),v47)
) a0.Communities 0 (v37,[])
) fun (v48,v49)=> AI (τ:=(List (Int×(List UInt8)))×(List UInt8)) (fun k50=>
(chk ((A4 v48 32).isNone=true)).bind fun _=> Ak (σ:=(List (Int×(List UInt8)))×(List UInt8)) (fun (v51,v52)=> k50 (v51,v52)
) (fun next53 (x54:JAF) i55 (v51,v52)=>
(AT x54.A 4).bind fun v56=>
(apnd (α:=UInt8) 1 v52 v56).bind fun v57=>
(AT x54.B 4).bind fun v58=>
(apnd (α:=UInt8) 1 v57 v58).bind fun v59=>
(AT x54.C 4).bind fun v60=>
(apnd (α:=UInt8) 1 v59 v60).bind fun v61=> next53 ((Cd v51 32 v61),v61)
) a0.JAF 0 (v48,[])
) fun (v62,v63)=> AI (τ:=(List (Int×(List UInt8)))) (fun k64=> if (decide (a0.OTC ≥ 0)) then
(AT a0.OTC 4).bind fun v65=> k64 (Cd v62 35 v65) else k64 v62
) fun v66=> AI (τ:=(List JAA)) (fun k67=> A1 (σ:=Int×(List JAA)) (fun next68 (v69,v70)=> if (decide (v69<256)) then AI (τ:=(List JAA)) (fun k71=>
(some (Option.getD (A4 v66 v69) [])).bind fun v72=>
(some (Option.isSome (A4 v66 v69))).bind fun v73=> AI (τ:=(List JAA)) (fun k74=> if v73 then
(BF v69).bind fun v75=>
(apnd (α:=UInt8) 1 [] v72).bind fun _=>
(apnd (α:=JAA) 40 v70 ([(⟨v75,v69,v72⟩:JAA)]:List JAA)).bind fun v76=> k74 v76 else k74 v70
) fun v77=> AI (τ:=(List JAA)) (fun k78=> Ak (σ:=(List JAA)) (fun v79=> k78 v79
) (fun next80 (x81:JAA) i82 v79=> AI (τ:=(List JAA)) (fun k83=> if (x81.Type_==v69) then
(apnd (α:=UInt8) 1 [] x81.Data).bind fun _=>
(apnd (α:=JAA) 40 v79 ([{ x81 with Type_:=v69 }]:List JAA)).bind fun v84=> k83 v84 else k83 v79
) fun v85=> next80 v85
) a0.Other 0 v77
) fun v86=> k71 v86
) fun v87=> next68 ((AS (v69+1)),v87) else k67 v70
) fuel (0,[])
) fun v88=> some (v88,0)
def G1 (a0:List JAA):Option ((List UInt8)×Int):= AI (τ:=Unit) (fun k1=> Ak (σ:=Unit) (fun _=> k1 ()
) (fun next2 (x3:JAA) i4 _=> AI (τ:=Bool) (fun k5=> if (decide (x3.Flags<0)) then k5 true else if (cond false true (decide (x3.Flags > 255))) then k5 true else if (cond false true (decide (x3.Type_<0))) then k5 true else if (cond false true (decide (x3.Type_ > 255))) then k5 true else k5 (cond false true (decide ((x3.Data.length:Int) > 65535)))
) fun v6=> if v6 then some ([],1) else next2 ()
) a0 0 ()
) fun _=> AI (τ:=(List UInt8)) (fun k7=> Ak (σ:=(List UInt8)) (fun v8=> k7 v8
) (fun next9 (x10:JAA) i11 v8=> AI (τ:=(List UInt8)) (fun k12=> if (decide ((x10.Data.length:Int) > 255)) then
(apnd (α:=UInt8) 1 v8 ([(Ah ((BitVec.ofInt 8 ((Ah ((BitVec.ofInt 8 ((Ah x10.Flags).toNat:Int) &&& BitVec.ofInt 8 224).toNat:Int)).toNat:Int) ||| BitVec.ofInt 8 16).toNat:Int)),(Ah x10.Type_),(Ah (Int.fdiv (x10.Data.length:Int) (2^(min (Int.toNat 8) 64)))),(Ah (x10.Data.length:Int))]:List UInt8)).bind fun v13=> k12 v13 else
(apnd (α:=UInt8) 1 v8 ([(Ah ((BitVec.ofInt 8 ((Ah x10.Flags).toNat:Int) &&& BitVec.ofInt 8 224).toNat:Int)),(Ah x10.Type_),(Ah (x10.Data.length:Int))]:List UInt8)).bind fun v14=> k12 v14
) fun v15=>
(apnd (α:=UInt8) 1 v15 x10.Data).bind fun v16=> next9 v16
) a0 0 []
) fun v17=> if (decide ((v17.length:Int) > 2048)) then some ([],3) else some (v17,0)
def Dc (a0:List JAD)(a1:Bool):Option (List UInt8):= AI (τ:=(List UInt8)) (fun k1=> Ak (σ:=(List UInt8)) (fun v2=> k1 v2
) (fun next3 (x4:JAD) i5 v2=> AI (τ:=(List UInt8)) (fun k6=> if (x4.Addr.V6==a1) then
(apnd (α:=UInt8) 1 v2 ([(Ah x4.Len)]:List UInt8)).bind fun v7=>
(BG x4.Addr).bind fun v8=>
(chk (0<=(0:Int)/\(0:Int)<=(AS (Int.tdiv (AS (x4.Len+7)) 8))/\(AS (Int.tdiv (AS (x4.Len+7)) 8))<=(v8.length:Int))).bind fun _=>
(apnd (α:=UInt8) 1 v7 (List.take (Int.toNat (AS (Int.tdiv (AS (x4.Len+7)) 8))-Int.toNat 0) (List.drop (Int.toNat 0) v8))).bind fun v9=> k6 v9 else k6 v2
) fun v10=> next3 v10
) a0 0 []
) fun v11=> some v11
def Ep (a0:List JAA)(a1:JAA):Option (List JAA):= AI (τ:=Int) (fun k1=> A1 (σ:=Int) (fun next2 v3=> AI (τ:=Bool) (fun k4=> if (decide (v3<(a0.length:Int))) then
(geti a0 v3).bind fun v5=> k4 (cond true (decide (v5.Type_<a1.Type_)) false) else k4 false
) fun v6=> if v6 then next2 (AS (v3+1)) else k1 v3
) fuel 0
) fun v7=>
(part a0 0 v7).bind fun v8=>
(apnd (α:=JAA) 40 [] v8).bind fun _=>
(apnd (α:=JAA) 40 v8 ([a1]:List JAA)).bind fun v9=>
(part a0 v7 (a0.length:Int)).bind fun v10=>
(apnd (α:=JAA) 40 v9 v10).bind fun v11=> some v11
def EE (a0:JAG):Option ((List UInt8)×Int):= AI (τ:=(List JAA)) (fun k1=> if (decide ((a0.Announce.length:Int) > 0)) then
(Et a0.JAC).bind fun (v2,v3)=> if (v3 != 0) then some ([],v3) else k1 v2 else k1 []
) fun v4=>
(Dc a0.Announce true).bind fun v5=> AI (τ:=(List JAA)) (fun k6=> if (decide ((v5.length:Int) > 0)) then
(BG a0.JAC.Next).bind fun v7=>
(apnd (α:=UInt8) 1 ([(0:UInt8),(2:UInt8),(1:UInt8),(16:UInt8)]:List UInt8) v7).bind fun v8=>
(apnd (α:=UInt8) 1 v8 ([(0:UInt8)]:List UInt8)).bind fun v9=>
(apnd (α:=UInt8) 1 v9 v5).bind fun v10=>
(Ep v4 (⟨128,14,v10⟩:JAA)).bind fun v11=> k6 v11 else k6 v4
) fun v12=>
(Dc a0.Withdraw true).bind fun v13=> AI (τ:=(List JAA)) (fun k14=> if (decide ((v13.length:Int) > 0)) then
(apnd (α:=UInt8) 1 ([(0:UInt8),(2:UInt8),(1:UInt8)]:List UInt8) v13).bind fun v15=>
(Ep v12 (⟨128,15,v15⟩:JAA)).bind fun v16=> k14 v16 else k14 v12
) fun v17=>
(G1 v17).bind fun (v18,v19)=> if (v19 != 0) then some ([],v19) else
(Dc a0.Withdraw false).bind fun v20=>
(apnd (α:=UInt8) 1 ([(Ah (Int.fdiv (v20.length:Int) (2^(min (Int.toNat 8) 64)))),(Ah (v20.length:Int))]:List UInt8) v20).bind fun v21=>
(apnd (α:=UInt8) 1 v21 ([(Ah (Int.fdiv (v18.length:Int) (2^(min (Int.toNat 8) 64)))),(Ah (v18.length:Int))]:List UInt8)).bind fun v22=>
(apnd (α:=UInt8) 1 v22 v18).bind fun v23=>
(Dc a0.Announce false).bind fun v24=>
(apnd (α:=UInt8) 1 v23 v24).bind fun v25=> some (v25,0)
def EB (a0:JAG):Option Bool:= AI (τ:=Bool) (fun k1=> if (decide ((a0.Withdraw.length:Int) > 256)) then k1 true else k1 (cond false true (decide ((a0.Announce.length:Int) > 256)))
) fun v2=> if v2 then some false else
(apnd (α:=JAD) 32 [] a0.Withdraw).bind fun _=>
(apnd (α:=JAD) 32 a0.Withdraw a0.Announce).bind fun v3=> AI (τ:=Unit) (fun k4=> Ak (σ:=Unit) (fun _=> k4 ()
) (fun next5 (x6:JAD) i7 _=>
(DF x6).bind fun v8=> if (!v8) then some false else next5 ()
) v3 0 ()
) fun _=> AI (τ:=Bool) (fun k9=> if ((a0.Announce.length:Int)==0) then
(Db).bind fun v10=>
(Cb a0.JAC v10).bind fun v11=> k9 (cond true (!v11) false) else k9 false
) fun v12=> if v12 then some false else AI (τ:=Unit) (fun k13=> Ak (σ:=Unit) (fun _=> k13 ()
) (fun next14 (x15:JAD) i16 _=> AI (τ:=Bool) (fun k17=> if (!(x15.Addr.V6==a0.JAC.Next.V6)) then k17 true else if (cond false true (a0.JAC.Origin==(-1))) then k17 true else if (cond false true (Addr.eqd a0.JAC.Next (⟨false,(0:UInt64),(0:UInt64)⟩:Addr))) then k17 true else
(E3 a0.JAC).bind fun v18=> k17 (cond false true (!v18))
) fun v19=> if v19 then some false else next14 ()
) a0.Announce 0 ()
) fun _=>
(EE a0).bind fun (v20,v21)=> AI (τ:=Bool) (fun k22=> if (v21==0) then k22 (cond true (decide ((v20.length:Int)<=4077)) false) else k22 false
) fun v23=> some v23
def DT (a0:JAI):Option (JAG×JAI):= AI (τ:=Unit) (fun k1=> k1 ()
) fun _=>
(AL a0 5).bind fun (v2,v3)=> AI (τ:=JAI×(List JAD)) (fun k4=> A1 (σ:=Int×JAI×(List JAD)) (fun next5 (v6,v7,v8)=> if (decide (v6 > 0)) then
(BX v7).bind fun (v9,v10)=>
(apnd (α:=JAD) 32 v8 ([v9]:List JAD)).bind fun v11=> next5 ((AS (v6-1)),v10,v11) else k4 (v7,v8)
) fuel (v2,v3,[])
) fun (v12,v13)=>
(AL v12 4).bind fun (v14,v15)=> if (v14==3) then some ((⟨v13,(⟨(-1),[],(⟨false,(0:UInt64),(0:UInt64)⟩:Addr),(-1),(-1),(-1),[],[],[]⟩:JAC),[]⟩:JAG),v15) else
(AL v15 2).bind fun (v16,v17)=>
(AL v17 6).bind fun (v18,v19)=> AI (τ:=JAI×(List JAD)) (fun k20=> A1 (σ:=Int×JAI×(List JAD)) (fun next21 (v22,v23,v24)=> if (decide (v22 > 0)) then
(BX v23).bind fun (v25,v26)=> AI (τ:=(List JAD)) (fun k27=> if (v25.Addr.V6==(v16==1)) then
(apnd (α:=JAD) 32 v24 ([v25]:List JAD)).bind fun v28=> k27 v28 else k27 v24
) fun v29=> next21 ((AS (v22-1)),v26,v29) else k20 (v23,v24)
) fuel (v18,v19,[])
) fun (v30,v31)=> if ((v31.length:Int)==0) then some ((⟨v13,(⟨(-1),[],(⟨false,(0:UInt64),(0:UInt64)⟩:Addr),(-1),(-1),(-1),[],[],[]⟩:JAC),v31⟩:JAG),v30) else
(C6 v30).bind fun (v32,v33)=>
(Hr 5).bind fun v34=> AI (τ:=Bool×UInt64×UInt64) (fun k35=> if (v16==1) then
(Iy 5).bind fun v36=> k35 (v36.V6,v36.Hi,v36.Lo) else k35 (v34.V6,v34.Hi,v34.Lo)
) fun (v37,v38,v39)=>
(EB (⟨v13,{ v32 with Origin:=(if v32.Origin > 0 then v32.Origin else 0),Next:=(⟨v37,v38,v39⟩:Addr) },v31⟩:JAG)).bind fun v40=> if (!v40) then AI (τ:=Unit) (fun k41=> k41 ()
) fun _=> some ((⟨[],(⟨(-1),[],(⟨false,(0:UInt64),(0:UInt64)⟩:Addr),(-1),(-1),(-1),[],[],[]⟩:JAC),[]⟩:JAG),v33) else some ((⟨v13,{ v32 with Origin:=(if v32.Origin > 0 then v32.Origin else 0),Next:=(⟨v37,v38,v39⟩:Addr) },v31⟩:JAG),v33)
def Fa (a0:List UInt8)(a1:Int):Option (List UInt8):=
(apnd (α:=UInt8) 1 a0 ([(Ah (Int.fdiv a1 (2^(min (Int.toNat 8) 64)))),(Ah a1)]:List UInt8)).bind fun v1=> some v1
def A9 (a0:Int)(a1:Int)(a2:Int):Option Bool:= AI (τ:=Bool) (fun k1=> if (decide (a0 ≥ a1)) then k1 (cond true (decide (a0<=a2)) false) else k1 false
) fun v2=> some v2
def D7 (a0:List JAA):Option ((List UInt8)×Int):= AI (τ:=Unit) (fun k1=> Ak (σ:=Unit) (fun _=> k1 ()
) (fun next2 (x3:JAA) i4 _=> AI (τ:=Bool) (fun k5=>
(A9 x3.Flags 0 255).bind fun v6=> if (!v6) then k5 true else
(A9 x3.Type_ 0 255).bind fun v7=> if (cond false true (!v7)) then k5 true else k5 (cond false true (decide ((x3.Data.length:Int) > 65535)))
) fun v8=> if v8 then some ([],1) else next2 ()
) a0 0 ()
) fun _=> AI (τ:=(List UInt8)) (fun k9=> Ak (σ:=(List UInt8)) (fun v10=> k9 v10
) (fun next11 (x12:JAA) i13 v10=> AI (τ:=(List UInt8)) (fun k14=> if (decide ((x12.Data.length:Int) > 255)) then
(apnd (α:=UInt8) 1 v10 ([(Ah ((BitVec.ofInt 8 ((Ah ((BitVec.ofInt 8 ((Ah x12.Flags).toNat:Int) &&& BitVec.ofInt 8 224).toNat:Int)).toNat:Int) ||| BitVec.ofInt 8 16).toNat:Int)),(Ah x12.Type_),(Ah (Int.fdiv (x12.Data.length:Int) (2^(min (Int.toNat 8) 64)))),(Ah (x12.Data.length:Int))]:List UInt8)).bind fun v15=> k14 v15 else
(apnd (α:=UInt8) 1 v10 ([(Ah ((BitVec.ofInt 8 ((Ah x12.Flags).toNat:Int) &&& BitVec.ofInt 8 224).toNat:Int)),(Ah x12.Type_),(Ah (x12.Data.length:Int))]:List UInt8)).bind fun v16=> k14 v16
) fun v17=>
(apnd (α:=UInt8) 1 v17 x12.Data).bind fun v18=> if (decide ((v18.length:Int) > 2048)) then some ([],3) else next11 v18
) a0 0 []
) fun v19=> some (v19,0)
def Ei (a0:Addr):Option Bool:= AI (τ:=Bool) (fun k1=> if a0.V6 then k1 true else if ((a0.Hi.toNat:Int)==0) then k1 (cond false true (cond true (decide ((a0.Lo.toNat:Int)<4294967296)) false)) else k1 false
) fun v2=> some v2
def A5 (a0:Addr):Option (List UInt8):=
(Ei a0).bind fun v1=> if (!v1) then some [] else AI (τ:=Int) (fun k2=> if a0.V6 then k2 16 else k2 4
) fun v3=>
(chk (0<=v3/\v3<=v3/\v3<=1048576)).bind fun _=> AI (τ:=(List UInt8)) (fun k4=> A1 (σ:=Int×Addr×(List UInt8)) (fun next5 (v6,v7,v8)=> if (decide (v6 ≥ 0)) then
(geti v8 v6).bind fun v9=>
(seti v8 v6 (Ah (v7.Lo.toNat:Int))).bind fun v10=> next5 ((AS (v6-1)),(⟨v7.V6,(AN (Int.fdiv (v7.Hi.toNat:Int) (2^(min (Int.toNat 8) 64)))),(AN ((BitVec.ofInt 64 ((AN (Int.fdiv (v7.Lo.toNat:Int) (2^(min (Int.toNat 8) 64)))).toNat:Int) ||| BitVec.ofInt 64 ((AN ((v7.Hi.toNat:Int)*(2^(min (Int.toNat 56) 64)))).toNat:Int)).toNat:Int))⟩:Addr),v10) else k4 v8
) fuel ((AS (v3-1)),a0,(List.replicate (Int.toNat v3) (0:UInt8)))
) fun v11=> some v11
def Dm (a0:List UInt8)(a1:List JAD)(a2:Bool):Option (List UInt8):= AI (τ:=(List UInt8)) (fun k1=> Ak (σ:=(List UInt8)) (fun v2=> k1 v2
) (fun next3 (x4:JAD) i5 v2=> AI (τ:=(List UInt8)) (fun k6=> if (x4.Addr.V6==a2) then
(apnd (α:=UInt8) 1 v2 ([(Ah x4.Len)]:List UInt8)).bind fun v7=>
(A5 x4.Addr).bind fun v8=>
(part v8 0 (AS (Int.tdiv (AS (x4.Len+7)) 8))).bind fun v9=>
(apnd (α:=UInt8) 1 v7 v9).bind fun v10=> k6 v10 else k6 v2
) fun v11=> next3 v11
) a1 0 a0
) fun v12=> some v12
def Dx (a0:Int):Option Bool:= AI (τ:=Bool) (fun k1=> if (decide (a0 ≥ 1)) then k1 (cond true (decide (a0<=4294967295)) false) else k1 false
) fun v2=> some v2
def FB (a0:List JAE):Option Bool:= AI (τ:=Int) (fun k1=> Ak (σ:=Int) (fun v2=> k1 v2
) (fun next3 (x4:JAE) i5 v2=> AI (τ:=Unit) (fun k6=> AI (τ:=Bool) (fun k7=> if ((x4.ASNs.length:Int)==0) then k7 true else if (decide ((i5:Int) > 0)) then if (cond true (!x4.Set) false) then
(geti a0 (AS ((i5:Int)-1))).bind fun v8=> k7 (cond false true (cond true (!v8.Set) false)) else k7 false else k7 false
) fun v9=> if v9 then some false else AI (τ:=Unit) (fun k10=> Ak (σ:=Unit) (fun _=> k10 ()
) (fun next11 (x12:Int) i13 _=> AI (τ:=Bool) (fun k14=>
(Dx x12).bind fun v15=> if (!v15) then k14 true else if x4.Set then if (cond true (decide ((i13:Int) > 0)) false) then
(geti x4.ASNs (AS ((i13:Int)-1))).bind fun v16=> k14 (cond false true (cond true (decide (v16 ≥ x12)) false)) else k14 false else k14 false
) fun v17=> if v17 then some false else next11 ()
) x4.ASNs 0 ()
) fun _=> k6 ()
) fun _=> next3 (AS (v2+(x4.ASNs.length:Int)))
) a0 0 0
) fun v18=> some (decide (v18<=64))
def Cf (a0:List Int):Option Int:= if (decide ((a0.length:Int)<1)) then none else
(geti a0 0).bind fun v1=> AI (τ:=Int) (fun k2=> A1 (σ:=Int×Int) (fun next3 (v4,v5)=> if (decide (v5<(a0.length:Int))) then
(geti a0 v5).bind fun v6=> next3 ((if v6<v4 then v6 else v4),(AS (v5+1))) else k2 v4
) fuel (v1,1)
) fun v7=> some v7
def CZ (a0:List Int):Option Int:= if (decide ((a0.length:Int)<1)) then none else
(geti a0 0).bind fun v1=> AI (τ:=Int) (fun k2=> A1 (σ:=Int×Int) (fun next3 (v4,v5)=> if (decide (v5<(a0.length:Int))) then
(geti a0 v5).bind fun v6=> next3 ((if v6 > v4 then v6 else v4),(AS (v5+1))) else k2 v4
) fuel (v1,1)
) fun v7=> some v7
def CV (a0:Int)(a1:List Int):Option Bool:= AI (τ:=Bool) (fun k1=>
(Cf a1).bind fun v2=> if (decide (v2 ≥ 0)) then
(CZ a1).bind fun v3=> k1 (cond true (decide (v3<=a0)) false) else k1 false
) fun v4=> some v4
def EI (a0:JAB):Option Bool:=
(CV 65535 ([a0.A,a0.B]:List Int)).bind fun v1=> some v1
def cmp_isNaN_int (a0:Int):Option Bool:= some (a0 != a0)
def cmp_Compare_int (a0:Int)(a1:Int):Option Int:=
(cmp_isNaN_int a0).bind fun v1=>
(cmp_isNaN_int a1).bind fun v2=> if v1 then if v2 then some 0 else some (-1) else if v2 then some 1 else if (decide (a0<a1)) then some (-1) else if (decide (a0 > a1)) then some 1 else some 0
def FP (a0:List Int):Option Int:= AI (τ:=Unit) (fun k1=> Ak (σ:=Unit) (fun _=> k1 ()
) (fun next2 (x3:Int) i4 _=> if (x3 != 0) then some x3 else next2 ()
) a0 0 ()
) fun _=> some 0
def DI (a0:JAB)(a1:JAB):Option Int:=
(cmp_Compare_int a0.A a1.A).bind fun v1=>
(cmp_Compare_int a0.B a1.B).bind fun v2=>
(FP ([v1,v2]:List Int)).bind fun v3=> some v3
def Ad (a0:List JAB):Option Bool:= AI (τ:=Unit) (fun k1=> Ak (σ:=Unit) (fun _=> k1 ()
) (fun next2 (x3:JAB) i4 _=> AI (τ:=Bool) (fun k5=>
(EI x3).bind fun v6=> if (!v6) then k5 true else if (decide ((i4:Int) > 0)) then
(geti a0 (AS ((i4:Int)-1))).bind fun v7=>
(DI v7 x3).bind fun v8=> k5 (cond false true (cond true (decide (v8 ≥ 0)) false)) else k5 false
) fun v9=> if v9 then some false else next2 ()
) a0 0 ()
) fun _=> some (decide ((a0.length:Int)<=64))
def C3 (a0:List JAB):Option Bool:=
(Ad a0).bind fun v1=> some v1
def CL (a0:JAF):Option Bool:=
(CV 4294967295 ([a0.A,a0.B,a0.C]:List Int)).bind fun v1=> some v1
def Bg (a0:JAF)(a1:JAF):Option Int:=
(cmp_Compare_int a0.A a1.A).bind fun v1=>
(cmp_Compare_int a0.B a1.B).bind fun v2=>
(cmp_Compare_int a0.C a1.C).bind fun v3=>
(FP ([v1,v2,v3]:List Int)).bind fun v4=> some v4
def AW (a0:List JAF):Option Bool:= AI (τ:=Unit) (fun k1=> Ak (σ:=Unit) (fun _=> k1 ()
) (fun next2 (x3:JAF) i4 _=> AI (τ:=Bool) (fun k5=>
(CL x3).bind fun v6=> if (!v6) then k5 true else if (decide ((i4:Int) > 0)) then
(geti a0 (AS ((i4:Int)-1))).bind fun v7=>
(Bg v7 x3).bind fun v8=> k5 (cond false true (cond true (decide (v8 ≥ 0)) false)) else k5 false
) fun v9=> if v9 then some false else next2 ()
) a0 0 ()
) fun _=> some (decide ((a0.length:Int)<=64))
def BW (a0:List JAF):Option Bool:=
(AW a0).bind fun v1=> some v1
def DJ (a0:Int):Option Bool:= AI (τ:=Bool) (fun k1=>
(some (Option.getD (A4 Ba a0) 0)).bind fun v2=> if (v2==0) then if (cond true (a0 != 14) false) then k1 (cond true (a0 != 15) false) else k1 false else k1 false
) fun v3=> some v3
def CW (a0:List JAA):Option Bool:= AI (τ:=Unit) (fun k1=> Ak (σ:=Unit) (fun _=> k1 ()
) (fun next2 (x3:JAA) i4 _=> AI (τ:=Bool) (fun k5=>
(DJ x3.Type_).bind fun v6=> if (!v6) then k5 true else
(A9 x3.Type_ 1 255).bind fun v7=> if (cond false true (!v7)) then k5 true else if (cond false true (x3.Flags != 224)) then k5 true else if (cond false true (decide ((x3.Data.length:Int) > 255))) then k5 true else if (decide ((i4:Int) > 0)) then
(geti a0 (AS ((i4:Int)-1))).bind fun v8=> k5 (cond false true (cond true (decide (v8.Type_ ≥ x3.Type_)) false)) else k5 false
) fun v9=> if v9 then some false else next2 ()
) a0 0 ()
) fun _=> some (decide ((a0.length:Int)<=8))
def CG (a0:JAC):Option Bool:= AI (τ:=Bool) (fun k1=>
(A9 a0.Origin (-1) 2).bind fun v2=> if v2 then
(FB a0.Path).bind fun v3=> if (cond true v3 false) then
(Ei a0.Next).bind fun v4=> if (cond true v4 false) then
(A9 a0.MED (-1) 4294967295).bind fun v5=> if (cond true v5 false) then
(A9 a0.Pref (-1) 4294967295).bind fun v6=> if (cond true v6 false) then if (a0.OTC==(-1)) then
(C3 a0.Communities).bind fun v7=> if (cond true v7 false) then
(BW a0.JAF).bind fun v8=> if (cond true v8 false) then
(CW a0.Other).bind fun v9=> k1 (cond true v9 false) else k1 false else k1 false else
(Dx a0.OTC).bind fun v10=> if (cond true (cond false true v10) false) then
(C3 a0.Communities).bind fun v11=> if (cond true v11 false) then
(BW a0.JAF).bind fun v12=> if (cond true v12 false) then
(CW a0.Other).bind fun v13=> k1 (cond true v13 false) else k1 false else k1 false else k1 false else k1 false else k1 false else k1 false else k1 false else k1 false
) fun v14=> some v14
def BK (a0:List UInt8):Option (List UInt8):=
(apnd (α:=UInt8) 1 ([]:List UInt8) a0).bind fun v1=> some v1
def CS (a0:List UInt8)(a1:List Int):Option (List UInt8):= AI (τ:=(List UInt8)) (fun k1=> Ak (σ:=(List UInt8)) (fun v2=> k1 v2
) (fun next3 (x4:Int) i5 v2=>
(apnd (α:=UInt8) 1 v2 ([(Ah (Int.fdiv x4 (2^(min (Int.toNat 24) 64)))),(Ah (Int.fdiv x4 (2^(min (Int.toNat 16) 64)))),(Ah (Int.fdiv x4 (2^(min (Int.toNat 8) 64)))),(Ah x4)]:List UInt8)).bind fun v6=> next3 v6
) a1 0 a0
) fun v7=> some v7
def BH (a0:List JAE):Option (List UInt8):= AI (τ:=(List UInt8)) (fun k1=> Ak (σ:=(List UInt8)) (fun v2=> k1 v2
) (fun next3 (x4:JAE) i5 v2=> AI (τ:=UInt8) (fun k6=> if x4.Set then k6 (1:UInt8) else k6 (2:UInt8)
) fun v7=>
(apnd (α:=UInt8) 1 v2 ([v7,(Ah (x4.ASNs.length:Int))]:List UInt8)).bind fun v8=>
(CS v8 x4.ASNs).bind fun v9=> next3 v9
) a0 0 []
) fun v10=> some v10
def BN (a0:List JAB):Option (List UInt8):= AI (τ:=(List UInt8)) (fun k1=> Ak (σ:=(List UInt8)) (fun v2=> k1 v2
) (fun next3 (x4:JAB) i5 v2=>
(CS v2 ([(AS ((BitVec.ofInt 64 (AS (x4.A*(2^(min (Int.toNat 16) 64)))) ||| BitVec.ofInt 64 x4.B).toNat:Int))]:List Int)).bind fun v6=> next3 v6
) a0 0 []
) fun v7=> some v7
def C9 (a0:List JAF):Option (List UInt8):= AI (τ:=(List UInt8)) (fun k1=> Ak (σ:=(List UInt8)) (fun v2=> k1 v2
) (fun next3 (x4:JAF) i5 v2=>
(CS v2 ([x4.A,x4.B,x4.C]:List Int)).bind fun v6=> next3 v6
) a0 0 []
) fun v7=> some v7
def CC (a0:JAA)(a1:JAA):Option Int:=
(cmp_Compare_int a0.Type_ a1.Type_).bind fun v1=> some v1
def A2 (a1:List Int):Option (List UInt8):= AI (τ:=(List UInt8)) (fun k1=> Ak (σ:=(List UInt8)) (fun v2=> k1 v2
) (fun next3 (x4:Int) i5 v2=>
(apnd (α:=UInt8) 1 v2 ([(Ah (Int.fdiv x4 (2^(min (Int.toNat 24) 64)))),(Ah (Int.fdiv x4 (2^(min (Int.toNat 16) 64)))),(Ah (Int.fdiv x4 (2^(min (Int.toNat 8) 64)))),(Ah x4)]:List UInt8)).bind fun v6=> next3 v6
) a1 0 []
) fun v7=> some v7
def EZ (a0:JAA)(a1:JAA):Option Int:=
(cmp_Compare_int a0.Type_ a1.Type_).bind fun v1=> some v1
def DU (a1:List JAD)(a2:Bool):Option (List UInt8):= AI (τ:=(List UInt8)) (fun k1=> Ak (σ:=(List UInt8)) (fun v2=> k1 v2
) (fun next3 (x4:JAD) i5 v2=> AI (τ:=(List UInt8)) (fun k6=> if (x4.Addr.V6==a2) then
(apnd (α:=UInt8) 1 v2 ([(Ah x4.Len)]:List UInt8)).bind fun v7=>
(A5 x4.Addr).bind fun v8=>
(part v8 0 (AS (Int.tdiv (AS (x4.Len+7)) 8))).bind fun v9=>
(apnd (α:=UInt8) 1 v7 v9).bind fun v10=> k6 v10 else k6 v2
) fun v11=> next3 v11
) a1 0 []
) fun v12=> some v12
def Fj (a0:JAG):Option (List JAA):= AI (τ:=Int×(List JAA)) (fun k1=>
(CG a0.JAC).bind fun v2=> if (!v2) then k1 (1,[]) else AI (τ:=(List JAA)) (fun k3=> AI (τ:=(List JAA)) (fun k4=> if (a0.JAC.Origin != (-1)) then
(some (Option.getD (A4 Ba 1) 0)).bind fun v5=>
(apnd (α:=JAA) 40 [] ([(⟨v5,1,([(Ah a0.JAC.Origin)]:List UInt8)⟩:JAA)]:List JAA)).bind fun _=> k4 ([(⟨v5,1,([(Ah a0.JAC.Origin)]:List UInt8)⟩:JAA)]:List JAA) else k4 []
) fun v6=> k3 v6
) fun v7=> AI (τ:=(List JAA)) (fun k8=> if (a0.JAC.Origin != (-1)) then
(BH a0.JAC.Path).bind fun v9=> AI (τ:=(List JAA)) (fun k10=>
(some (Option.getD (A4 Ba 2) 0)).bind fun v11=>
(apnd (α:=JAA) 40 v7 ([(⟨v11,2,v9⟩:JAA)]:List JAA)).bind fun v12=> k10 v12
) fun v13=> k8 v13 else
(BH a0.JAC.Path).bind fun v14=> AI (τ:=(List JAA)) (fun k15=> AI (τ:=(List JAA)) (fun k16=> if (cond false true (decide ((a0.JAC.Path.length:Int) > 0))) then
(some (Option.getD (A4 Ba 2) 0)).bind fun v17=>
(apnd (α:=JAA) 40 v7 ([(⟨v17,2,v14⟩:JAA)]:List JAA)).bind fun v18=> k16 v18 else k16 v7
) fun v19=> k15 v19
) fun v20=> k8 v20
) fun v21=> AI (τ:=(List JAA)) (fun k22=> if (!a0.JAC.Next.V6) then
(A5 a0.JAC.Next).bind fun v23=> AI (τ:=(List JAA)) (fun k24=> AI (τ:=(List JAA)) (fun k25=> if (cond true (!(Addr.eqd a0.JAC.Next (⟨false,(0:UInt64),(0:UInt64)⟩:Addr))) false) then
(some (Option.getD (A4 Ba 3) 0)).bind fun v26=>
(apnd (α:=JAA) 40 v21 ([(⟨v26,3,v23⟩:JAA)]:List JAA)).bind fun v27=> k25 v27 else k25 v21
) fun v28=> k24 v28
) fun v29=> k22 v29 else
(A5 a0.JAC.Next).bind fun v30=> AI (τ:=Unit) (fun k31=> k31 ()
) fun _=> k22 v21
) fun v32=>
(A2 ([a0.JAC.MED]:List Int)).bind fun v33=> AI (τ:=(List JAA)) (fun k34=> AI (τ:=(List JAA)) (fun k35=> if (a0.JAC.MED != (-1)) then
(some (Option.getD (A4 Ba 4) 0)).bind fun v36=>
(apnd (α:=JAA) 40 v32 ([(⟨v36,4,v33⟩:JAA)]:List JAA)).bind fun v37=> k35 v37 else k35 v32
) fun v38=> k34 v38
) fun v39=>
(A2 ([a0.JAC.Pref]:List Int)).bind fun v40=> AI (τ:=(List JAA)) (fun k41=> AI (τ:=(List JAA)) (fun k42=> if (a0.JAC.Pref != (-1)) then
(some (Option.getD (A4 Ba 5) 0)).bind fun v43=>
(apnd (α:=JAA) 40 v39 ([(⟨v43,5,v40⟩:JAA)]:List JAA)).bind fun v44=> k42 v44 else k42 v39
) fun v45=> k41 v45
) fun v46=>
(BN a0.JAC.Communities).bind fun v47=> AI (τ:=(List JAA)) (fun k48=> AI (τ:=(List JAA)) (fun k49=> if (decide ((a0.JAC.Communities.length:Int) > 0)) then
(some (Option.getD (A4 Ba 8) 0)).bind fun v50=>
(apnd (α:=JAA) 40 v46 ([(⟨v50,8,v47⟩:JAA)]:List JAA)).bind fun v51=> k49 v51 else k49 v46
) fun v52=> k48 v52
) fun v53=>
(C9 a0.JAC.JAF).bind fun v54=> AI (τ:=(List JAA)) (fun k55=> AI (τ:=(List JAA)) (fun k56=> if (decide ((a0.JAC.JAF.length:Int) > 0)) then
(some (Option.getD (A4 Ba 32) 0)).bind fun v57=>
(apnd (α:=JAA) 40 v53 ([(⟨v57,32,v54⟩:JAA)]:List JAA)).bind fun v58=> k56 v58 else k56 v53
) fun v59=> k55 v59
) fun v60=>
(A2 ([a0.JAC.OTC]:List Int)).bind fun v61=> AI (τ:=(List JAA)) (fun k62=> AI (τ:=(List JAA)) (fun k63=> if (a0.JAC.OTC != (-1)) then
(some (Option.getD (A4 Ba 35) 0)).bind fun v64=>
(apnd (α:=JAA) 40 v60 ([(⟨v64,35,v61⟩:JAA)]:List JAA)).bind fun v65=> k63 v65 else k63 v60
) fun v66=> k62 v66
) fun v67=> AI (τ:=(List JAA)) (fun k68=> Ak (σ:=(List JAA)) (fun v69=> k68 v69
) (fun next70 (x71:JAA) i72 v69=>
(BK x71.Data).bind fun v73=>
(apnd (α:=JAA) 40 v69 ([{ x71 with Data:=v73 }]:List JAA)).bind fun v74=> next70 v74
) a0.JAC.Other 0 v67
) fun v75=>
(FO CC v75).bind fun v76=> k1 (0,v76)
) fun (v77,v78)=> AI (τ:=Bool) (fun k79=> if (decide ((a0.Announce.length:Int) > 0)) then k79 (cond true a0.JAC.Next.V6 false) else k79 false
) fun v80=> AI (τ:=(List JAA)) (fun k81=> if v80 then
(A5 a0.JAC.Next).bind fun v82=>
(apnd (α:=UInt8) 1 ([(0:UInt8),(2:UInt8),(1:UInt8),(16:UInt8)]:List UInt8) v82).bind fun v83=>
(apnd (α:=UInt8) 1 v83 ([(0:UInt8)]:List UInt8)).bind fun v84=>
(Dm v84 a0.Announce true).bind fun v85=>
(apnd (α:=JAA) 40 v78 ([(⟨128,14,v85⟩:JAA)]:List JAA)).bind fun v86=> k81 v86 else k81 v78
) fun v87=>
(DU a0.Withdraw true).bind fun v88=> AI (τ:=(List JAA)) (fun k89=> if (decide ((v88.length:Int) > 0)) then
(apnd (α:=UInt8) 1 ([(0:UInt8),(2:UInt8),(1:UInt8)]:List UInt8) v88).bind fun v90=>
(apnd (α:=JAA) 40 v87 ([(⟨128,15,v90⟩:JAA)]:List JAA)).bind fun v91=> k89 v91 else k89 v87
) fun v92=>
(FO EZ v92).bind fun v93=> some v93
def D8 (a1:Int):Option (List UInt8):=
(apnd (α:=UInt8) 1 [] ([(Ah (Int.fdiv a1 (2^(min (Int.toNat 8) 64)))),(Ah a1)]:List UInt8)).bind fun _=> some ([(Ah (Int.fdiv a1 (2^(min (Int.toNat 8) 64)))),(Ah a1)]:List UInt8)
def Di (a0:JAG):Option ((List UInt8)×Bool):=
(Fj a0).bind fun v1=>
(D7 v1).bind fun (v2,v3)=>
(DU a0.Withdraw false).bind fun v4=>
(D8 (v4.length:Int)).bind fun v5=>
(apnd (α:=UInt8) 1 v5 v4).bind fun v6=>
(Fa v6 (v2.length:Int)).bind fun v7=>
(apnd (α:=UInt8) 1 v7 v2).bind fun v8=>
(Dm v8 a0.Announce false).bind fun v9=> AI (τ:=Bool) (fun k10=> if (v3==0) then k10 (cond true (decide ((v9.length:Int)<=4077)) false) else k10 false
) fun v11=> some (v9,v11)
def B2 (a0:Addr):Option Int:= if a0.V6 then some 128 else some 32
def EV (a0:Int):Option (UInt64×UInt64):= if (decide (a0 > 64)) then some ((AN (((AN (1*(2^(min (Int.toNat ((AN (AS (a0-64))).toNat:Int)) 64)))).toNat:Int)-1)),(18446744073709551615:UInt64)) else some ((0:UInt64),(AN (((AN (1*(2^(min (Int.toNat ((AN a0).toNat:Int)) 64)))).toNat:Int)-1)))
def Do (a0:Addr)(a1:Int):Option Addr:=
(B2 a0).bind fun v1=>
(EV (AS (v1-a1))).bind fun (v2,v3)=> some (⟨a0.V6,(AN ((BitVec.ofInt 64 (a0.Hi.toNat:Int) &&& ~~~BitVec.ofInt 64 (v2.toNat:Int)).toNat:Int)),(AN ((BitVec.ofInt 64 (a0.Lo.toNat:Int) &&& ~~~BitVec.ofInt 64 (v3.toNat:Int)).toNat:Int))⟩:Addr)
def FK (a0:JAD):Option Bool:= AI (τ:=Bool) (fun k1=>
(Ei a0.Addr).bind fun v2=> if v2 then if (cond true (decide (a0.Len ≥ 0)) false) then
(B2 a0.Addr).bind fun v3=> if (cond true (decide (a0.Len<=v3)) false) then
(Do a0.Addr a0.Len).bind fun v4=> k1 (cond true (Addr.eqd v4 a0.Addr) false) else k1 false else k1 false else k1 false
) fun v5=> some v5
def EH (a0:JAD):Option Bool:=
(FK a0).bind fun v1=> some (!v1)
def FC (a0:JAC):Option Bool:= AI (τ:=Unit) (fun k1=> k1 ()
) fun _=> AI (τ:=Bool) (fun k2=> if (a0.Origin==(-1)) then if (cond true (a0.MED==(-1)) false) then if (cond true (a0.Pref==(-1)) false) then if (cond true (a0.OTC==(-1)) false) then if (cond true (Addr.eqd a0.Next (⟨false,(0:UInt64),(0:UInt64)⟩:Addr)) false) then k2 (cond true ((AS ((AS ((AS ((a0.Path.length:Int)+(a0.Communities.length:Int)))+(a0.JAF.length:Int)))+(a0.Other.length:Int)))==0) false) else k2 false else k2 false else k2 false else k2 false else k2 false
) fun v3=> some v3
def Dy (a0:JAD)(a1:JAG):Option (Bool×JAG):= some ((!(a0.Addr.V6==a1.JAC.Next.V6)),a1)
def Ai (a0:List JAD)(a1c0:JAG):Option (Int×JAG):= AI (τ:=JAG) (fun k1=> Ak (σ:=JAG) (fun v2=> k1 v2
) (fun next3 (x4:JAD) i5 v2=>
(Dy x4 v2).bind fun (v6,v7)=> if v6 then some ((i5:Int),v7) else next3 v7
) a0 0 a1c0
) fun v8=> some ((-1),v8)
def Ac (a0:List JAD)(a1c0:JAG):Option (Bool×JAG):=
(Ai a0 a1c0).bind fun (v1,v2)=> some ((decide (v1 ≥ 0)),v2)
def F7 (a0:JAG):Option Bool:= if ((a0.Announce.length:Int)==0) then
(FC a0.JAC).bind fun v1=> some v1 else AI (τ:=Bool) (fun k2=>
(CG a0.JAC).bind fun v3=> if v3 then if (cond true (a0.JAC.Origin != (-1)) false) then if (cond true (!(Addr.eqd a0.JAC.Next (⟨false,(0:UInt64),(0:UInt64)⟩:Addr))) false) then
(Ac a0.Announce a0).bind fun (v4,v5)=> k2 (cond true (!v4) false) else k2 false else k2 false else k2 false
) fun v6=> some v6
def As (a0:List JAD):Option Int:= AI (τ:=Unit) (fun k1=> Ak (σ:=Unit) (fun _=> k1 ()
) (fun next2 (x3:JAD) i4 _=>
(EH x3).bind fun v5=> if v5 then some (i4:Int) else next2 ()
) a0 0 ()
) fun _=> some (-1)
def Ab (a0:List JAD):Option Bool:=
(As a0).bind fun v1=> some (decide (v1 ≥ 0))
def CM (a0:JAG):Option Bool:= AI (τ:=Bool) (fun k1=> if (decide ((a0.Withdraw.length:Int) > 256)) then k1 true else if (cond false true (decide ((a0.Announce.length:Int) > 256))) then k1 true else
(Ab a0.Withdraw).bind fun v2=> if (cond false true v2) then k1 true else
(Ab a0.Announce).bind fun v3=> if (cond false true v3) then k1 true else
(F7 a0).bind fun v4=> k1 (cond false true (!v4))
) fun v5=> if v5 then some false else
(Di a0).bind fun (v6,v7)=> some v7
def DN (a0:JAG):Option ((List UInt8)×Int):=
(CM a0).bind fun v1=> if (!v1) then some ([],1) else
(Di a0).bind fun (v2,v3)=> some (v2,0)
def ER (a0:JAG):Option ((List UInt8)×Int):=
(EB a0).bind fun v1=> if (!v1) then some ([],1) else
(EE a0).bind fun (v2,v3)=> some (v2,v3)
def CQ (a0:JAG):Option Int:=
(CM a0).bind fun v1=> if (!v1) then some 0 else
(Di a0).bind fun (v2,v3)=> some (AS (19+(v2.length:Int)))
def G3 (a0:JAG):Option Int:=
(ER a0).bind fun (v1,v2)=> if (v2 != 0) then some 0 else some (AS (19+(v1.length:Int)))
def FG (a0:List UInt8):Option (Addr×Int):= AI (τ:=Bool) (fun k1=> if ((a0.length:Int) != 4) then k1 (cond true ((a0.length:Int) != 16) false) else k1 false
) fun v2=> if v2 then some ((⟨false,(0:UInt64),(0:UInt64)⟩:Addr),1) else AI (τ:=Addr) (fun k3=> Ak (σ:=Addr) (fun v4=> k3 v4
) (fun next5 (x6:UInt8) i7 v4=> next5 (⟨v4.V6,(AN ((BitVec.ofInt 64 ((AN ((v4.Hi.toNat:Int)*(2^(min (Int.toNat 8) 64)))).toNat:Int) ||| BitVec.ofInt 64 ((AN (Int.fdiv (v4.Lo.toNat:Int) (2^(min (Int.toNat 56) 64)))).toNat:Int)).toNat:Int)),(AN ((BitVec.ofInt 64 ((AN ((v4.Lo.toNat:Int)*(2^(min (Int.toNat 8) 64)))).toNat:Int) ||| BitVec.ofInt 64 ((AN (x6.toNat:Int)).toNat:Int)).toNat:Int))⟩:Addr)
) a0 0 (⟨((a0.length:Int)==16),(0:UInt64),(0:UInt64)⟩:Addr)
) fun v8=> some (v8,0)
def Ha (a0:JAA)(a1:JAA):Option Int:=
(cmp_Compare_int a0.Type_ a1.Type_).bind fun v1=> some v1
def Gw (a0:List UInt8):Option Int:=
(geti a0 0).bind fun v1=>
(geti a0 1).bind fun v2=> some (AS ((BitVec.ofInt 64 (AS ((v1.toNat:Int)*(2^(min (Int.toNat 8) 64)))) ||| BitVec.ofInt 64 (v2.toNat:Int)).toNat:Int))
def bytes_Equal (a0:List UInt8)(a1:List UInt8):Option Bool:= some ((bs a0).toList==(bs a1).toList)
def bytes_HasPrefix (a0:List UInt8)(a1:List UInt8):Option Bool:= AI (τ:=Bool) (fun k1=> if (decide ((a0.length:Int) ≥ (a1.length:Int))) then
(part a0 0 (a1.length:Int)).bind fun v2=>
(bytes_Equal v2 a1).bind fun v3=> k1 (cond true v3 false) else k1 false
) fun v4=> some v4
def HG (a0:List UInt8):Option (Bool×Bool):=
(chk (0<=(4:Int)/\(4:Int)<=4/\(4:Int)<=1048576)).bind fun _=>
(bytes_Equal a0 (List.replicate (Int.toNat 4) (0:UInt8))).bind fun v1=> if v1 then some (true,false) else none
def BV:Option Bool:=
(Db).bind fun v1=>
(DN (⟨([(⟨(⟨false,(0:UInt64),(167772160:UInt64)⟩:Addr),8⟩:JAD)]:List JAD),v1,[]⟩:JAG)).bind fun (v2,v3)=>
(HG ([(0:UInt8),(0:UInt8),(0:UInt8),(0:UInt8)]:List UInt8)).bind fun (v4,v5)=> AI (τ:=Bool) (fun k6=> if (v3==0) then if (cond true ((bs v2).toList==(ByteArray.mk (List.toArray (List.cons 0 (List.cons 2 (List.cons 8 (List.cons 10 (List.cons 0 (List.cons 0 List.nil)))))))).toList) false) then if (cond true v4 false) then k6 (cond true (!v5) false) else k6 false else k6 false else k6 false
) fun v7=> some v7
def Bl (a0:List Int)(a1:Int)(a2:Int):Option Bool:=
(Is a0).bind fun v1=>
(DT v1).bind fun (v2,v3)=>
(A6 a1 6).bind fun v4=> AI (τ:=JAG) (fun k5=> AI (τ:=JAG) (fun k6=> if (v4==0) then
(C6 v3).bind fun (v7,v8)=> k6 ({ v2 with JAC:=v7 }) else AI (τ:=(List JAD)×Int×(List JAE)×Bool×UInt64×UInt64×Int×Int×Int×(List JAB)×(List JAF)×(List JAA)×(List JAD)) (fun k9=> if (v4==1) then
(apnd (α:=JAD) 32 [] v2.Announce).bind fun _=>
(BX v3).bind fun (v10,v11)=>
(apnd (α:=JAD) 32 v2.Announce ([v10]:List JAD)).bind fun v12=> k9 (v2.Withdraw,v2.JAC.Origin,v2.JAC.Path,v2.JAC.Next.V6,v2.JAC.Next.Hi,v2.JAC.Next.Lo,v2.JAC.MED,v2.JAC.Pref,v2.JAC.OTC,v2.JAC.Communities,v2.JAC.JAF,v2.JAC.Other,v12) else AI (τ:=(List JAD)×Int×(List JAE)×Bool×UInt64×UInt64×Int×Int×Int×(List JAB)×(List JAF)×(List JAA)×(List JAD)) (fun k13=> if (v4==2) then
(A6 a2 3).bind fun v14=> AI (τ:=(List JAD)) (fun k15=> A1 (σ:=Int×(List JAD)) (fun next16 (v17,v18)=> if (decide (v17<(AS (255+v14)))) then
(A6 a2 2).bind fun v19=>
(apnd (α:=JAD) 32 v18 ([(⟨(⟨((AS ((BitVec.ofInt 64 a2 &&& BitVec.ofInt 64 1).toNat:Int))==0),(0:UInt64),(0:UInt64)⟩:Addr),(AS (v19*8))⟩:JAD)]:List JAD)).bind fun v20=> next16 ((AS (v17+1)),v20) else k15 v18
) fuel (0,[])
) fun v21=> k13 (v21,v2.JAC.Origin,v2.JAC.Path,v2.JAC.Next.V6,v2.JAC.Next.Hi,v2.JAC.Next.Lo,v2.JAC.MED,v2.JAC.Pref,v2.JAC.OTC,v2.JAC.Communities,v2.JAC.JAF,v2.JAC.Other,v2.Announce) else AI (τ:=(List JAD)×Int×(List JAE)×Bool×UInt64×UInt64×Int×Int×Int×(List JAB)×(List JAF)×(List JAA)×(List JAD)) (fun k22=> if (v4==3) then
(apnd (α:=JAD) 32 [] v2.Withdraw).bind fun _=>
(A6 a2 34).bind fun v23=>
(apnd (α:=JAD) 32 v2.Withdraw ([(⟨(⟨false,(0:UInt64),(7:UInt64)⟩:Addr),v23⟩:JAD)]:List JAD)).bind fun v24=> k22 (v24,v2.JAC.Origin,v2.JAC.Path,v2.JAC.Next.V6,v2.JAC.Next.Hi,v2.JAC.Next.Lo,v2.JAC.MED,v2.JAC.Pref,v2.JAC.OTC,v2.JAC.Communities,v2.JAC.JAF,v2.JAC.Other,v2.Announce) else AI (τ:=Int×(List JAE)×Bool×UInt64×UInt64×Int×Int×Int×(List JAB)×(List JAF)×(List JAA)×(List JAD)) (fun k25=> if (v4==4) then k25 ((-1),v2.JAC.Path,v2.JAC.Next.V6,v2.JAC.Next.Hi,v2.JAC.Next.Lo,v2.JAC.MED,v2.JAC.Pref,v2.JAC.OTC,v2.JAC.Communities,v2.JAC.JAF,v2.JAC.Other,v2.Announce) else AI (τ:=Unit) (fun k26=> k26 ()
) fun _=>
(A6 a2 60).bind fun v27=> AI (τ:=(List JAD)) (fun k28=> A1 (σ:=Int×(List JAD)) (fun next29 (v30,v31)=> if (decide (v30<(AS (100+v27)))) then
(apnd (α:=JAD) 32 v31 ([(⟨(⟨true,(0:UInt64),(AN v30)⟩:Addr),128⟩:JAD)]:List JAD)).bind fun v32=> next29 ((AS (v30+1)),v32) else k28 v31
) fuel (0,[])
) fun v33=> k25 (0,[],true,(0:UInt64),(1:UInt64),(-1),(-1),(-1),[],[],[],v33)
) fun (v34,v35,v36,v37,v38,v39,v40,v41,v42,v43,v44,v45)=> k22 (v2.Withdraw,v34,v35,v36,v37,v38,v39,v40,v41,v42,v43,v44,v45)
) fun (v46,v47,v48,v49,v50,v51,v52,v53,v54,v55,v56,v57,v58)=> k13 (v46,v47,v48,v49,v50,v51,v52,v53,v54,v55,v56,v57,v58)
) fun (v59,v60,v61,v62,v63,v64,v65,v66,v67,v68,v69,v70,v71)=> k9 (v59,v60,v61,v62,v63,v64,v65,v66,v67,v68,v69,v70,v71)
) fun (v72,v73,v74,v75,v76,v77,v78,v79,v80,v81,v82,v83,v84)=> k6 (⟨v72,(⟨v73,v74,(⟨v75,v76,v77⟩:Addr),v78,v79,v80,v81,v82,v83⟩:JAC),v84⟩:JAG)
) fun v85=> k5 v85
) fun v86=> AI (τ:=Unit) (fun k87=> Ak (σ:=Unit) (fun _=> k87 ()
) (fun next88 (x89:JAG) i90 _=>
(DN x89).bind fun (v91,v92)=>
(ER x89).bind fun (v93,v94)=> AI (τ:=Bool) (fun k95=>
(CM x89).bind fun v96=>
(EB x89).bind fun v97=> if (!(v96==v97)) then k95 true else
(CQ x89).bind fun v98=>
(G3 x89).bind fun v99=> if (cond false true (v98 != v99)) then k95 true else if (cond false true (!((bs v91).toList==(bs v93).toList))) then k95 true else k95 (cond false true (v92 != v94))
) fun v100=> if v100 then some false else next88 ()
) ([v2,v86]:List JAG) 0 ()
) fun _=>
(BV).bind fun v101=> some v101
def B9 (a0:List Int):Option Bool:=
(Is a0).bind fun v1=> AI (τ:=Unit) (fun k2=> k2 ()
) fun _=>
(CQ (⟨[],(⟨(-1),[],(⟨false,(0:UInt64),(0:UInt64)⟩:Addr),(-1),(-1),(-1),[],[],[]⟩:JAC),[]⟩:JAG)).bind fun v3=> if (v3 != 23) then some false else
(AL v1 20).bind fun (v4,v5)=> AI (τ:=(List JAD)) (fun k6=> A1 (σ:=Int×Int×JAI×(List JAD)) (fun next7 (v8,v9,v10,v11)=> if (decide (v9 > 0)) then AI (τ:=Int×JAI×(List JAD)) (fun k12=>
(BX v10).bind fun (v13,v14)=> if v13.Addr.V6 then k12 (v8,v14,v11) else
(apnd (α:=JAD) 32 v11 ([v13]:List JAD)).bind fun v15=>
(CQ (⟨v15,(⟨(-1),[],(⟨false,(0:UInt64),(0:UInt64)⟩:Addr),(-1),(-1),(-1),[],[],[]⟩:JAC),[]⟩:JAG)).bind fun v16=> if (v16 != (AS (v8+(AS (1+(AS (Int.tdiv (AS (v13.Len+7)) 8))))))) then some false else k12 ((AS (v8+(AS (1+(AS (Int.tdiv (AS (v13.Len+7)) 8)))))),v14,v15)
) fun (v17,v18,v19)=> next7 (v17,(AS (v9-1)),v18,v19) else k6 v11
) fuel (23,v4,v5,[])
) fun v20=> AI (τ:=Bool) (fun k21=>
(CM (⟨v20,(⟨(-1),[],(⟨false,(0:UInt64),(0:UInt64)⟩:Addr),(-1),(-1),(-1),[],[],[]⟩:JAC),[]⟩:JAG)).bind fun v22=> if v22 then
(BV).bind fun v23=> k21 (cond true v23 false) else k21 false
) fun v24=> some v24
def Ej (a0:List UInt8):Option Bool:= some (decide ((a0.length:Int)<=600))
def E0 (a0:List UInt8)(a1:Int)(a2:Int):Option (List UInt8):=
(apnd (α:=UInt8) 1 [] a0).bind fun _=> if ((a0.length:Int)==0) then some ([(Ah a2)]:List UInt8) else
(A6 a1 (a0.length:Int)).bind fun v1=>
(A6 (AS (Int.tdiv a2 256)) 4).bind fun v2=> if (v2==0) then
(geti a0 v1).bind fun v3=>
(seti a0 v1 (Ah a2)).bind fun v4=> some v4 else if (v2==1) then
(chk (0<=(0:Int)/\(0:Int)<=v1/\v1<=(a0.length:Int))).bind fun _=>
(chk (0<=(AS (v1+1))/\(AS (v1+1))<=(a0.length:Int)/\(a0.length:Int)<=(a0.length:Int))).bind fun _=>
(apnd (α:=UInt8) 1 (List.take (Int.toNat v1-Int.toNat 0) a0) (List.take (Int.toNat (a0.length:Int)-Int.toNat (AS (v1+1))) (List.drop (Int.toNat (AS (v1+1))) a0))).bind fun v5=> some v5 else if (v2==2) then
(chk (0<=(0:Int)/\(0:Int)<=v1/\v1<=(a0.length:Int))).bind fun _=>
(apnd (α:=UInt8) 1 [] (List.take (Int.toNat v1-Int.toNat 0) (List.drop (Int.toNat 0) a0))).bind fun _=>
(apnd (α:=UInt8) 1 (List.take (Int.toNat v1-Int.toNat 0) (List.drop (Int.toNat 0) a0)) ([(Ah a2)]:List UInt8)).bind fun v6=>
(chk (0<=v1/\v1<=(a0.length:Int)/\(a0.length:Int)<=(a0.length:Int))).bind fun _=>
(apnd (α:=UInt8) 1 v6 (List.take (Int.toNat (a0.length:Int)-Int.toNat v1) (List.drop (Int.toNat v1) a0))).bind fun v7=> some v7 else
(part a0 0 v1).bind fun v8=> some v8
def H5 (a0:List Int):Option (List Int):= AI (τ:=(List Int)) (fun k1=> Ak (σ:=(List Int)) (fun v2=> k1 v2
) (fun next3 (x4:Int) i5 v2=> AI (τ:=(List Int)) (fun k6=> AI (τ:=Int) (fun k7=> A1 (σ:=Int) (fun next8 v9=> AI (τ:=Bool) (fun k10=> if (decide (v9<(v2.length:Int))) then
(geti v2 v9).bind fun v11=> k10 (cond true (decide (v11<x4)) false) else k10 false
) fun v12=> if v12 then next8 (AS (v9+1)) else k7 v9
) fuel 0
) fun v13=> AI (τ:=Bool) (fun k14=> if (decide (v13<(v2.length:Int))) then
(geti v2 v13).bind fun v15=> k14 (cond true (v15==x4) false) else k14 false
) fun v16=> if v16 then k6 v2 else
(chk (0<=(0:Int)/\(0:Int)<=v13/\v13<=(v2.length:Int))).bind fun _=>
(apnd (α:=Int) 8 [] (List.take (Int.toNat v13-Int.toNat 0) (List.drop (Int.toNat 0) v2))).bind fun _=>
(apnd (α:=Int) 8 (List.take (Int.toNat v13-Int.toNat 0) (List.drop (Int.toNat 0) v2)) ([x4]:List Int)).bind fun v17=>
(chk (0<=v13/\v13<=(v2.length:Int)/\(v2.length:Int)<=(v2.length:Int))).bind fun _=>
(apnd (α:=Int) 8 v17 (List.take (Int.toNat (v2.length:Int)-Int.toNat v13) (List.drop (Int.toNat v13) v2))).bind fun v18=> k6 v18
) fun v19=> next3 v19
) a0 0 []
) fun v20=> some v20
def Dh (a0:JAH):Option ((List UInt8)×Int):= AI (τ:=Bool) (fun k1=> if (decide (a0.Type_<1)) then k1 true else k1 (cond false true (decide (a0.Type_ > 5)))
) fun v2=> if v2 then some ([],1) else if (decide ((a0.Body.length:Int) > 4077)) then some ([],3) else AI (τ:=(List UInt8)) (fun k3=> A1 (σ:=Int×(List UInt8)) (fun next4 (v5,v6)=> if (decide (v5<16)) then
(apnd (α:=UInt8) 1 v6 ([(255:UInt8)]:List UInt8)).bind fun v7=> next4 ((AS (v5+1)),v7) else k3 v6
) fuel (0,[])
) fun v8=>
(apnd (α:=UInt8) 1 v8 ([(Ah (Int.fdiv (AS ((a0.Body.length:Int)+19)) (2^(min (Int.toNat 8) 64)))),(Ah (AS ((a0.Body.length:Int)+19))),(Ah a0.Type_)]:List UInt8)).bind fun v9=>
(apnd (α:=UInt8) 1 v9 a0.Body).bind fun v10=> some (v10,0)
def F9 (a0:UInt64)(a1:UInt64):Option (UInt64×UInt64):= some ((AN (((AN (((AN (((AN (Int.fdiv (a0.toNat:Int) (2^(min (Int.toNat 32) 64)))).toNat:Int)*((AN (Int.fdiv (a1.toNat:Int) (2^(min (Int.toNat 32) 64)))).toNat:Int))).toNat:Int)+((AN (Int.fdiv ((AN (((AN (((AN (Int.fdiv (a0.toNat:Int) (2^(min (Int.toNat 32) 64)))).toNat:Int)*((AN ((BitVec.ofInt 64 (a1.toNat:Int) &&& BitVec.ofInt 64 4294967295).toNat:Int)).toNat:Int))).toNat:Int)+((AN (Int.fdiv ((AN (((AN ((BitVec.ofInt 64 (a0.toNat:Int) &&& BitVec.ofInt 64 4294967295).toNat:Int)).toNat:Int)*((AN ((BitVec.ofInt 64 (a1.toNat:Int) &&& BitVec.ofInt 64 4294967295).toNat:Int)).toNat:Int))).toNat:Int) (2^(min (Int.toNat 32) 64)))).toNat:Int))).toNat:Int) (2^(min (Int.toNat 32) 64)))).toNat:Int))).toNat:Int)+((AN (Int.fdiv ((AN (((AN ((BitVec.ofInt 64 ((AN (((AN (((AN (Int.fdiv (a0.toNat:Int) (2^(min (Int.toNat 32) 64)))).toNat:Int)*((AN ((BitVec.ofInt 64 (a1.toNat:Int) &&& BitVec.ofInt 64 4294967295).toNat:Int)).toNat:Int))).toNat:Int)+((AN (Int.fdiv ((AN (((AN ((BitVec.ofInt 64 (a0.toNat:Int) &&& BitVec.ofInt 64 4294967295).toNat:Int)).toNat:Int)*((AN ((BitVec.ofInt 64 (a1.toNat:Int) &&& BitVec.ofInt 64 4294967295).toNat:Int)).toNat:Int))).toNat:Int) (2^(min (Int.toNat 32) 64)))).toNat:Int))).toNat:Int) &&& BitVec.ofInt 64 4294967295).toNat:Int)).toNat:Int)+((AN (((AN ((BitVec.ofInt 64 (a0.toNat:Int) &&& BitVec.ofInt 64 4294967295).toNat:Int)).toNat:Int)*((AN (Int.fdiv (a1.toNat:Int) (2^(min (Int.toNat 32) 64)))).toNat:Int))).toNat:Int))).toNat:Int) (2^(min (Int.toNat 32) 64)))).toNat:Int))),(AN ((a0.toNat:Int)*(a1.toNat:Int))))
def Fe (a0:UInt64)(a1:UInt64):Option (UInt64×UInt64):=
(F9 a0 a1).bind fun (v1,v2)=> some (v1,v2)
def FM (a0:List UInt8)(a1:Int):Option (List UInt8):= if (a1==0) then some ([]:List UInt8) else if (decide (a1<0)) then none else
(Fe (AN (a0.length:Int)) (AN a1)).bind fun (v1,v2)=> AI (τ:=Bool) (fun k3=> if (decide ((v1.toNat:Int) > 0)) then k3 true else k3 (cond false true (decide ((v2.toNat:Int) > 9223372036854775807)))
) fun v4=> if v4 then none else if ((a0.length:Int)==0) then some ([]:List UInt8) else AI (τ:=Int) (fun k5=> if (decide ((AS (v2.toNat:Int)) > 8192)) then
(chk ((a0.length:Int)≠0)).bind fun _=> AI (τ:=Int) (fun k6=> if ((AS ((AS (Int.tdiv 8192 (a0.length:Int)))*(a0.length:Int)))==0) then k6 (a0.length:Int) else k6 (AS ((AS (Int.tdiv 8192 (a0.length:Int)))*(a0.length:Int)))
) fun v7=> k5 v7 else k5 (AS (v2.toNat:Int))
) fun v8=> forallJ (AS (v2.toNat:Int)) fun (v9:List UInt8)=>
(chk ((AS (v2.toNat:Int))<=(AS (v2.toNat:Int))/\(AS (v2.toNat:Int))<=(v9.length:Int))).bind fun _=>
(part v9 0 (AS (v2.toNat:Int))).bind fun v10=> AI (τ:=(List UInt8)) (fun k11=> A1 (σ:=Int×(List UInt8)) (fun next12 (v13,v14)=> if (decide (v13<(AS (v2.toNat:Int)))) then
(chk (0<=v13/\v13<=(v14.length:Int)/\(v14.length:Int)<=(v14.length:Int))).bind fun _=>
(chk (0<=(0:Int)/\(0:Int)<=(if v8<v13 then v8 else v13)/\(if v8<v13 then v8 else v13)<=(v14.length:Int))).bind fun _=> next12 ((AS (v13+(((min (List.take (Int.toNat (if v8<v13 then v8 else v13)-Int.toNat 0) (List.drop (Int.toNat 0) v14)).length (Int.toNat (v14.length:Int)-Int.toNat v13)):Nat):Int))),(cpy v14 (Int.toNat v13) (Int.toNat (v14.length:Int)-Int.toNat v13) (List.take (Int.toNat (if v8<v13 then v8 else v13)-Int.toNat 0) (List.drop (Int.toNat 0) v14)))) else k11 v14
) fuel ((((min a0.length v10.length):Nat):Int),(cpy v10 0 v10.length a0))
) fun v15=> some v15
def CP:Option (List UInt8):=
(FM ([(255:UInt8)]:List UInt8) 16).bind fun v1=> some v1
def EU (a0:Int):Option Bool:= AI (τ:=Bool) (fun k1=> if (decide (a0 ≥ 1)) then k1 (cond true (decide (a0<=5)) false) else k1 false
) fun v2=> some v2
def F5 (a0:List UInt8):Option (List UInt8):=
(apnd (α:=UInt8) 1 ([]:List UInt8) a0).bind fun v1=> some v1
def CO (a0:List UInt8):Option (JAH×Int×Int):=
(CP).bind fun v1=>
(part a0 0 (if (a0.length:Int)<16 then (a0.length:Int) else 16)).bind fun v2=>
(bytes_HasPrefix v1 v2).bind fun v3=> if (!v3) then some ((⟨0,[]⟩:JAH),0,12) else if (decide ((a0.length:Int)<19)) then some ((⟨0,[]⟩:JAH),0,4) else
(part a0 16 (a0.length:Int)).bind fun v4=>
(Gw v4).bind fun v5=>
(geti a0 18).bind fun v6=> AI (τ:=Bool) (fun k7=> if (decide (v5<19)) then k7 true else if (cond false true (decide (v5 > 4096))) then k7 true else
(EU (v6.toNat:Int)).bind fun v8=> k7 (cond false true (!v8))
) fun v9=> if v9 then some ((⟨0,[]⟩:JAH),0,12) else if (decide ((a0.length:Int)<v5)) then some ((⟨0,[]⟩:JAH),0,4) else
(part a0 19 v5).bind fun v10=>
(F5 v10).bind fun v11=> some ((⟨(v6.toNat:Int),v11⟩:JAH),v5,0)
def By (a0:List (List UInt8))(a1:Int)(a2:Int):Option Bool:= if (decide ((a0.length:Int) > 9)) then
(BV).bind fun v1=> some v1 else AI (τ:=(List UInt8)) (fun k2=> Ak (σ:=(List UInt8)) (fun v3=> k2 v3
) (fun next4 (x5:List UInt8) i6 v3=>
(Ej x5).bind fun v7=> if (!v7) then
(BV).bind fun v8=> some v8 else
(A6 a1 5).bind fun v9=>
(Dh (⟨(AS (1+v9)),x5⟩:JAH)).bind fun (v10,v11)=>
(apnd (α:=UInt8) 1 v3 v10).bind fun v12=> next4 v12
) a0 0 []
) fun v13=>
(A6 a2 19).bind fun v14=>
(Dh (⟨4,[]⟩:JAH)).bind fun (v15,v16)=>
(part v15 0 v14).bind fun v17=>
(apnd (α:=UInt8) 1 v13 v17).bind fun v18=> AI (τ:=(List UInt8)×Int) (fun k19=> Ak (σ:=(List UInt8)×Int) (fun (v20,v21)=> k19 (v20,v21)
) (fun next22 (x23:List UInt8) i24 (v20,v21)=>
(CO v20).bind fun (v25,v26,v27)=> AI (τ:=Bool) (fun k28=> if (v27 != 0) then k28 true else if (cond false true (!((bs v25.Body).toList==(bs x23).toList))) then k28 true else if (cond false true (v26 != (AS (19+(x23.length:Int))))) then k28 true else k28 (cond false true (decide (v26 > (v20.length:Int))))
) fun v29=> if v29 then some false else
(part v20 v26 (v20.length:Int)).bind fun v30=> next22 (v30,(AS (v21-v26)))
) a0 0 (v18,(v13.length:Int))
) fun (v31,v32)=>
(CO v31).bind fun (v33,v34,v35)=> AI (τ:=Bool) (fun k36=> if (v32==0) then if (cond true (v35==4) false) then
(BV).bind fun v37=> k36 (cond true v37 false) else k36 false else k36 false
) fun v38=> some v38
def EN (a0:JAH):Option ((List UInt8)×Int):=
(EU a0.Type_).bind fun v1=> if (!v1) then some ([],1) else if (decide ((a0.Body.length:Int) > 4077)) then some ([],3) else
(CP).bind fun v2=>
(Fa v2 (AS (19+(a0.Body.length:Int)))).bind fun v3=>
(apnd (α:=UInt8) 1 v3 ([(Ah a0.Type_)]:List UInt8)).bind fun v4=>
(apnd (α:=UInt8) 1 v4 a0.Body).bind fun v5=> some (v5,0)
def Fq (a0:List UInt8):Option (JAH×Int×Int):= AI (τ:=Unit) (fun k1=> Ak (σ:=Unit) (fun _=> k1 ()
) (fun next2 (x3:UInt8) i4 _=> AI (τ:=Bool) (fun k5=> if (decide ((i4:Int)<16)) then k5 (cond true ((x3.toNat:Int) != 255) false) else k5 false
) fun v6=> if v6 then some ((⟨0,[]⟩:JAH),0,12) else next2 ()
) a0 0 ()
) fun _=> if (decide ((a0.length:Int)<19)) then some ((⟨0,[]⟩:JAH),0,4) else
(geti a0 16).bind fun v7=>
(geti a0 17).bind fun v8=> AI (τ:=Bool) (fun k9=> if (decide ((AS ((BitVec.ofInt 64 (AS ((v7.toNat:Int)*(2^(min (Int.toNat 8) 64)))) ||| BitVec.ofInt 64 (v8.toNat:Int)).toNat:Int))<19)) then k9 true else if (cond false true (decide ((AS ((BitVec.ofInt 64 (AS ((v7.toNat:Int)*(2^(min (Int.toNat 8) 64)))) ||| BitVec.ofInt 64 (v8.toNat:Int)).toNat:Int)) > 4096))) then k9 true else
(geti a0 18).bind fun v10=> if (cond false true (decide ((v10.toNat:Int)<1))) then k9 true else
(geti a0 18).bind fun v11=> k9 (cond false true (decide ((v11.toNat:Int) > 5)))
) fun v12=> if v12 then some ((⟨0,[]⟩:JAH),0,12) else if (decide ((a0.length:Int)<(AS ((BitVec.ofInt 64 (AS ((v7.toNat:Int)*(2^(min (Int.toNat 8) 64)))) ||| BitVec.ofInt 64 (v8.toNat:Int)).toNat:Int)))) then some ((⟨0,[]⟩:JAH),0,4) else
(geti a0 18).bind fun v13=>
(part a0 19 (AS ((BitVec.ofInt 64 (AS ((v7.toNat:Int)*(2^(min (Int.toNat 8) 64)))) ||| BitVec.ofInt 64 (v8.toNat:Int)).toNat:Int))).bind fun v14=>
(apnd (α:=UInt8) 1 [] v14).bind fun _=> some ((⟨(v13.toNat:Int),v14⟩:JAH),(AS ((BitVec.ofInt 64 (AS ((v7.toNat:Int)*(2^(min (Int.toNat 8) 64)))) ||| BitVec.ofInt 64 (v8.toNat:Int)).toNat:Int)),0)
def Bv (a0:JAH)(a1:List UInt8)(a2:Int)(a3:Int)(a4:Int):Option Bool:= AI (τ:=Bool) (fun k1=>
(Ej a0.Body).bind fun v2=> if (!v2) then k1 true else
(Ej a1).bind fun v3=> k1 (cond false true (!v3))
) fun v4=> if v4 then
(BV).bind fun v5=> some v5 else
(A6 a2 7).bind fun v6=>
(A6 a4 3).bind fun v7=>
(chk (0<=(AS (4076+v7))/\(AS (4076+v7))<=(AS (4076+v7))/\(AS (4076+v7))<=1048576)).bind fun _=> AI (τ:=Unit) (fun k8=> Ak (σ:=Unit) (fun _=> k8 ()
) (fun next9 (x10:JAH) i11 _=>
(EN x10).bind fun (v12,v13)=>
(Dh x10).bind fun (v14,v15)=> AI (τ:=Bool) (fun k16=> if (!((bs v12).toList==(bs v14).toList)) then k16 true else k16 (cond false true (v13 != v15))
) fun v17=> if v17 then some false else next9 ()
) ([a0,(⟨v6,a1⟩:JAH),(⟨2,(List.replicate (Int.toNat (AS (4076+v7))) (0:UInt8))⟩:JAH)]:List JAH) 0 ()
) fun _=>
(A6 a2 5).bind fun v18=>
(Dh (⟨(AS (1+v18)),a1⟩:JAH)).bind fun (v19,v20)=>
(E0 v19 a3 a4).bind fun v21=>
(A6 a3 3).bind fun v22=>
(A6 a4 256).bind fun v23=>
(E0 v19 (AS (16+v22)) v23).bind fun v24=>
(A6 a3 (AS ((v19.length:Int)+1))).bind fun v25=>
(part v19 0 v25).bind fun v26=>
(apnd (α:=UInt8) 1 [] v19).bind fun _=>
(apnd (α:=UInt8) 1 v19 a1).bind fun v27=> AI (τ:=Unit) (fun k28=> Ak (σ:=Unit) (fun _=> k28 ()
) (fun next29 (x30:List UInt8) i31 _=>
(CO x30).bind fun (v32,v33,v34)=>
(Fq x30).bind fun (v35,v36,v37)=> AI (τ:=Bool) (fun k38=> if (v32.Type_ != v35.Type_) then k38 true else if (cond false true (!((bs v32.Body).toList==(bs v35.Body).toList))) then k38 true else if (cond false true (v33 != v36)) then k38 true else k38 (cond false true (v34 != v37))
) fun v39=> if v39 then some false else next29 ()
) ([a1,v19,v21,v24,v26,v27]:List (List UInt8)) 0 ()
) fun _=>
(BV).bind fun v40=> some v40
def C4 (a0:List UInt8)(a1:Int)(a2:Int)(a3:Int)(a4:Int):Option Bool:=
(Ej a0).bind fun v1=> if (!v1) then
(BV).bind fun v2=> some v2 else
(A6 a1 5).bind fun v3=>
(EN (⟨(AS (1+v3)),a0⟩:JAH)).bind fun (v4,v5)=> AI (τ:=Bool) (fun k6=> if (v5 != 0) then k6 true else k6 (cond false true ((v4.length:Int) != (AS (19+(a0.length:Int)))))
) fun v7=> if v7 then some false else
(A6 a2 (v4.length:Int)).bind fun v8=>
(part v4 0 v8).bind fun v9=>
(CO v9).bind fun (v10,v11,v12)=>
(apnd (α:=UInt8) 1 [] v4).bind fun _=>
(A6 a3 16).bind fun v13=>
(A6 a4 255).bind fun v14=>
(geti v4 v13).bind fun v15=>
(seti v4 v13 (Ah v14)).bind fun v16=>
(CO v16).bind fun (v17,v18,v19)=> AI (τ:=Bool) (fun k20=> if (v11==0) then if (cond true (v12==4) false) then if (cond true (v18==0) false) then if (cond true (v19==12) false) then
(BV).bind fun v21=> k20 (cond true v21 false) else k20 false else k20 false else k20 false else k20 false
) fun v22=> some v22
end
end Go.AX.Q19
end
section
namespace Go.AX.Q19
open Go Go.AX Go.Proofs
def keep:FuncId->List Bool:=fun f=>(match Nat.beq f 227 with | true=>[true]|false=>(match Nat.beq f 218 with | true=>[true]|false=>(match Nat.beq f 225 with | true=>[true]|false=>(match Nat.beq f 120 with | true=>[true]|false=>(match Nat.beq f 228 with | true=>[true]|false=>(match Nat.beq f 226 with | true=>[true]|false=>(match Nat.beq f 219 with | true=>[true]|false=>(match Nat.beq f 87 with | true=>[true]|false=>(match Nat.beq f 96 with | true=>[true]|false=>(match Nat.beq f 158 with | true=>[true]|false=>[]))))))))))
def Uf:FuncId->Bool:=fun f=>(match Nat.beq f 222 with | true=>true | false=>(match Nat.beq f 220 with | true=>true | false=>(match Nat.beq f 216 with | true=>true | false=>(match Nat.beq f 215 with | true=>true | false=>(match Nat.beq f 214 with | true=>true | false=>(match Nat.beq f 213 with | true=>true | false=>(match Nat.beq f 212 with | true=>true | false=>(match Nat.beq f 211 with | true=>true | false=>(match Nat.beq f 210 with | true=>true | false=>(match Nat.beq f 209 with | true=>true | false=>(match Nat.beq f 208 with | true=>true | false=>(match Nat.beq f 156 with | true=>true | false=>(match Nat.beq f 155 with | true=>true | false=>(match Nat.beq f 134 with | true=>true | false=>(match Nat.beq f 125 with | true=>true | false=>(match Nat.beq f 117 with | true=>true | false=>(match Nat.beq f 112 with | true=>true | false=>(match Nat.beq f 64 with | true=>true | false=>(match Nat.beq f 60 with | true=>true | false=>(match Nat.beq f 17 with | true=>true | false=>false))))))))))))))))))))
def aI:Nat->Option (List (D×D)):=fun g=>(match Nat.beq g 1 with | true=>some ([(D.i 1,D.val (.func (.func 208) #[] #[])),(D.i 2,D.val (.func (.func 209) #[] #[])),(D.i 3,D.val (.func (.func 210) #[] #[])),(D.i 4,D.val (.func (.func 211) #[] #[])),(D.i 5,D.val (.func (.func 213) #[] #[])),(D.i 8,D.val (.func (.func 214) #[] #[])),(D.i 32,D.val (.func (.func 215) #[] #[])),(D.i 35,D.val (.func (.func 216) #[] #[]))])|false=>(match Nat.beq g 0 with | true=>some (Bz D.i D.i Ba)|false=>none))
abbrev Wl (p:Prop):WL:=⟨p,aI⟩
theorem ok {wl:Prop}{f:FuncId}(fn:Func){args:List AV}{objs:List OB}{res:AV}{objs':List OB}
    (hf : Tryz.prog.funcs[f]? = some fn) (hn : (fn.name == "runtime.NumGoroutine") = false) (h : Xs (mcx (Wl wl) Tryz.prog tt keep Uf 0 objs.length) fn args objs fun r o => r = res ∧ o = objs') : Cj (Wl wl) Tryz.prog f args objs res objs' :=
  Yk W4 (by kernel_rfl) keep Uf 0 hf hn h
theorem okx {wl:Prop}{f:FuncId}(ex:Nat)(fn:Func){args:List AV}{objs:List OB}{res:AV}{objs':List OB}
    (hf : Tryz.prog.funcs[f]? = some fn) (hn : (fn.name == "runtime.NumGoroutine") = false) (h : Xs (mcx (Wl wl) Tryz.prog tt keep Uf ex objs.length) fn args objs fun r o => r = res ∧ o = objs') : Cj (Wl wl) Tryz.prog f args objs res objs' :=
  Yk W4 (by kernel_rfl) keep Uf ex hf hn h
theorem inl {wl:Prop}{f:FuncId}(fn:Func)(np:Nat){args:List AV}{ob:List (Option OB)}{K:AV->List (Option OB)->Prop}
    (hf : Tryz.prog.funcs[f]? = some fn) (hn : (fn.name == "runtime.NumGoroutine") = false) (h : Yx (mcx (Wl wl) Tryz.prog tt keep Uf 0 np) fn args ob K) : S5 (Wl wl) Tryz.prog f args ob K :=
  ZX W4 (by kernel_rfl) keep Uf np hf hn h
abbrev X:AV:=.dead
abbrev N:Option OB:=none
def dd:Nat->List AV->List AV
  | 0,l=>l
  | n+1,l=>.dead::dd n l
def nn:Nat->List (Option OB)->List (Option OB)
  | 0,l=>l
  | n+1,l=>none::nn n l
abbrev yb (x:Bool):AV:=.d (D.b x)
abbrev yi (x:Int):AV:=.d (D.i x)
abbrev yu (x:UInt64):AV:=.d (D.u64 x)
abbrev yv (x:UInt8):AV:=.d (D.u8 x)
abbrev ys (x:ByteArray):AV:=.d (D.s x)
theorem sJ {b:Bool}{ρ:Type}{X Y:Option ρ}{r:ρ}{A B:Prop}(h:(if b=true then X else Y)=some r)(h1:X=some r->A)(h2:Y=some r->B):KO b A B:=ZE h1 h2 h
theorem oK {wl:Prop}{f:FuncId}(fn:Func){args:List AV}{objs:List OB}{res:AV}{objs':List OB}(h:Xs (mcx (Wl wl) Tryz.prog tt keep Uf 0 objs.length) fn args objs fun r o=>r=res∧o=objs')(hf:Tryz.prog.funcs[f]?=some fn:=by kernel_rfl)(hn:(fn.name == "runtime.NumGoroutine")=false:=by kernel_rfl):Cj (Wl wl) Tryz.prog f args objs res objs':=ok fn hf hn h
theorem cO {ops:Array Oper}{e:List (List Nat×List Nat)}{K:Prop}(k:K)(h:confB ops e=true:=by kernel_rfl):Ek ops 0 e=true/\K:=cOB h k
theorem dO {ops:Array Oper}{K:Prop}(k:K)(h:drawB ops=true:=by kernel_rfl):GG ops=true/\K:=dOB h k
abbrev yr (a b:Nat):AV:=.ref a b
abbrev yO {α:Type}(r:Nat)(f:α->D)(l:List α):AV:=.own r (List.map f l).length
abbrev yR {α:Type}(e s:Nat)(f:α->D)(l:List α):Option OB:=some (OB.row e s (List.map f l) .no)
abbrev yB (l:List AV):Option OB:=some (OB.box l)
abbrev y0 (l:List JAE):AV:=.d (D.l 2 JAE.toD l)
abbrev y1 (l:List JAB):AV:=.d (D.l 2 JAB.toD l)
abbrev y2 (l:List JAF):AV:=.d (D.l 3 JAF.toD l)
abbrev y3 (l:List UInt8):AV:=.d (D.l 1 D.u8 l)
abbrev y4 (l:List JAA):AV:=.d (D.l 3 JAA.toD l)
abbrev y5 (l:List JAD):AV:=.d (D.l 4 JAD.toD l)
abbrev y6 (l:List Int):AV:=.d (D.l 1 D.i l)
abbrev yC (wl:Prop):=Cj (Wl wl) Tryz.prog
end Go.AX.Q19
end
section
namespace Go.AX.Q19
open Go Go.AX Go.Proofs Go.Proofs.YtbohbnpaadcfmaaGreatDoor
def aX (n:Int):FuncId:=if n=1 then 208 else if n=2 then 209 else if n=3 then 210 else if n=4 then 211 else if n=5 then 213 else if n=8 then 214 else if n=32 then 215 else 216
def D2f {H:Type}:Lit×DataW H->D×D
 | (.int k n,.lit (.int k' m))=>(.val (.int k n),.val (.int k' m))
 | _=>(D.i 0,D.i 0)
def D2r {H:Type}:Lit×DataW H->D×D
 | (.int k n,_)=>(.val (.int k n),.val (.func (.func (aX n)) #[] #[]))
 | _=>(D.i 0,D.i 0)
theorem glob_ok {W:World}{p:Prop}(h:laidMetH Tryz.prog Rows.updateEncodesRow.laid W) :∃gb:Nat->Prop,(Wl p).gf gb W/\∀b,gb b->b<W.heap.size:=by
 obtain⟨h1,_⟩:=laidMetH_iff.1 h
 have e1 : (Rows.updateEncodesRow.laid.filter fun x => x.2.handleName?.isNone) = [("exchangepoint/attribute.flags", Rows.laid_exchangepoint_attribute_flags)] := by kernel_rfl
 rw[e1] at h1
 obtain⟨ps,⟨g0,t0,cs0,f0,p0,q0,hg0,ht0,hv0,hd0,_⟩,_,_⟩:=h1
 obtain rfl := X25 ((show Tryz.prog.globalNamed "exchangepoint/attribute.flags" = some 0 by kernel_rfl).symm.trans hg0)
 obtain rfl:=X25 ((show (Tryz.prog.globals[0]?).map (·.type)=some 176 by kernel_rfl).symm.trans ht0)
 obtain⟨b0,a0,c0,hc0,hb0,hp0,ho0⟩:=TE (kd:=.i64) Tryz.underlying176 Tryz.underlying3 hd0 D2f (fun n v d m q hm hv hf=>by
  obtain⟨j,h1,h2,_⟩:=DataW.trod_int Tryz.underlying3 hv
  simp only[X26] at h2
  obtain⟨rfl,_⟩:=h2
  have hv:v=.int .i64 j:=by
   unfold Value.formed at hf
   rw[Tryz.underlying3] at hf
   cases v<;>simp_all [Value.cells]
  subst hv
  exact⟨rfl,rfl⟩)
 obtain ⟨g1, t1, cs1, f1, p1, hg1, ht1, hv1, hd1⟩ := h.funcs (n := "exchangepoint/attribute.readers") (X19 _ (X14.2 rfl))
 obtain rfl := X25 ((show Tryz.prog.globalNamed "exchangepoint/attribute.readers" = some 1 by kernel_rfl).symm.trans hg1)
 obtain rfl:=X25 ((show (Tryz.prog.globals[1]?).map (·.type)=some 182 by kernel_rfl).symm.trans ht1)
 have hd1:DataW.trod (funcToken Tryz.prog) Tryz.prog W 0 (fun _=>true) true f1 182 cs1.toList=some (.map [(.int .i64 1,.held [101,120,99,104,97,110,103,101,112,111,105,110,116,47,97,116,116,114,105,98,117,116,101,46,114,101,97,100,79,114,105,103,105,110]),(.int .i64 2,.held [101,120,99,104,97,110,103,101,112,111,105,110,116,47,97,116,116,114,105,98,117,116,101,46,114,101,97,100,80,97,116,104]),(.int .i64 3,.held [101,120,99,104,97,110,103,101,112,111,105,110,116,47,97,116,116,114,105,98,117,116,101,46,114,101,97,100,78,101,120,116]),(.int .i64 4,.held [101,120,99,104,97,110,103,101,112,111,105,110,116,47,97,116,116,114,105,98,117,116,101,46,114,101,97,100,101,114,115,36,49]),(.int .i64 5,.held [101,120,99,104,97,110,103,101,112,111,105,110,116,47,97,116,116,114,105,98,117,116,101,46,114,101,97,100,101,114,115,36,50]),(.int .i64 8,.held [101,120,99,104,97,110,103,101,112,111,105,110,116,47,97,116,116,114,105,98,117,116,101,46,114,101,97,100,67,111,109,109,117,110,105,116,105,101,115]),(.int .i64 32,.held [101,120,99,104,97,110,103,101,112,111,105,110,116,47,97,116,116,114,105,98,117,116,101,46,114,101,97,100,76,97,114,103,101]),(.int .i64 35,.held [101,120,99,104,97,110,103,101,112,111,105,110,116,47,97,116,116,114,105,98,117,116,101,46,114,101,97,100,101,114,115,36,51])],p1):=hd1
 obtain⟨b1,a1,c1,hc1,hb1,hp1,ho1⟩:=TE (kd:=.i64) Tryz.underlying182 Tryz.underlying3 hd1 D2r (fun n v d m q hm hv hf=>by
  have hv1:v.cells.toList=[v]:=by
   unfold Value.formed at hf
   rw[Tryz.underlying180] at hf
   cases v<;>simp_all [Value.cells]
  rw[hv1] at hv
  simp only[List.mem_cons,List.not_mem_nil,or_false,X26,Lit.int.injEq,true_and] at hm
  rcases hm with ⟨rfl,rfl⟩|⟨rfl,rfl⟩|⟨rfl,rfl⟩|⟨rfl,rfl⟩|⟨rfl,rfl⟩|⟨rfl,rfl⟩|⟨rfl,rfl⟩|⟨rfl,rfl⟩
  ·obtain rfl:=func_of_trod (f0:=208) Tryz.underlying180 (by kernel_rfl) hv
   exact⟨rfl,rfl⟩
  ·obtain rfl:=func_of_trod (f0:=209) Tryz.underlying180 (by kernel_rfl) hv
   exact⟨rfl,rfl⟩
  ·obtain rfl:=func_of_trod (f0:=210) Tryz.underlying180 (by kernel_rfl) hv
   exact⟨rfl,rfl⟩
  ·obtain rfl:=func_of_trod (f0:=211) Tryz.underlying180 (by kernel_rfl) hv
   exact⟨rfl,rfl⟩
  ·obtain rfl:=func_of_trod (f0:=213) Tryz.underlying180 (by kernel_rfl) hv
   exact⟨rfl,rfl⟩
  ·obtain rfl:=func_of_trod (f0:=214) Tryz.underlying180 (by kernel_rfl) hv
   exact⟨rfl,rfl⟩
  ·obtain rfl:=func_of_trod (f0:=215) Tryz.underlying180 (by kernel_rfl) hv
   exact⟨rfl,rfl⟩
  obtain rfl:=func_of_trod (f0:=216) Tryz.underlying180 (by kernel_rfl) hv
  exact⟨rfl,rfl⟩)
 have cell :∀{g:Nat} {n:String} {cs:Array Value} {v:Value},Tryz.prog.globalNamed n=some g->W.var? Tryz.prog n=some cs->cs.toList=[v]->cellAt W g 0=some v/\g<W.heap.size:=by
  intro g n cs v hg hv hc
  have h1:=World.var?_cell hg hv 0
  rw[Array.eq_one_of_toList hc] at h1
  have h1:W.cell? ⟨g,0,none⟩=some v:=by simpa using h1
  refine⟨h1,?_⟩
  unfold World.var? at hv
  rw[hg,Option.bind_some] at hv
  cases hh:W.heap[g]? with
  | none=>rw[hh] at hv;cases hv
  | some o=>exact (Array.getElem?_eq_some_iff.1 hh).1
 obtain⟨k0,s0⟩:=cell hg0 hv0 hc0
 obtain⟨k1,s1⟩:=cell hg1 hv1 hc1
 refine⟨fun b=>b=0\/b=1\/b=b0\/b=b1,fun g es hg=>?_,fun b hb=>?_⟩
 rotate_left
 ·rcases hb with rfl | rfl | rfl | rfl
  ·exact s0
  ·exact s1
  ·exact (Array.getElem?_eq_some_iff.1 hb0).1
  exact (Array.getElem?_eq_some_iff.1 hb1).1
 match g,hg with
 | 0,hg=>
  obtain rfl:Bz D.i D.i Ba=es:=X25 hg
  refine⟨.inl rfl,b0,a0,c0,_,.inr (.inr (.inl rfl)),k0,hb0,fun tk x q hq=>?_,QV ho0⟩
  refine NQ (l:=Bz D.i D.i Ba) (hp0.symm) ?_ (by unfold Ba Bz;simp[D.i]) hq
  intro q hq
  obtain⟨z,_,rfl⟩:=List.mem_map.1 hq
  exact⟨_,rfl⟩
 | 1,hg=>
  obtain rfl:=X25 hg
  refine⟨.inr (.inl rfl),b1,a1,c1,_,.inr (.inr (.inr rfl)),k1,hb1,fun tk x q hq=>?_,QV ho1⟩
  refine NQ (hp1.symm) ?_ (by simp[D2r]) hq
  intro q hq
  obtain⟨z,hz,rfl⟩:=List.mem_map.1 hq
  simp only[List.mem_cons,List.not_mem_nil,or_false] at hz
  rcases hz with rfl | rfl | rfl | rfl | rfl | rfl | rfl | rfl<;>exact⟨_,rfl⟩
 | g+2,hg=>cases hg
end Go.AX.Q19
end
section
namespace Go.AX
class Tt {ρ:Type} (m:Option ρ):Prop where
 h :∃r,m=some r
def Ok {ρ:Type}(m:Option ρ)(Q:ρ->Prop):Prop:=∃r,m=some r/\Q r
theorem Ok.ret {ρ:Type}{Q:ρ->Prop}{r:ρ}(h:Q r):Ok (some r) Q:=⟨r,rfl,h⟩
theorem Ok.of {ρ:Type}{m:Option ρ}[t:Tt m]:Ok m fun r=>m=some r:=by
 obtain⟨r,h⟩:=t.h
 exact⟨r,h,h⟩
theorem Ok.imp {ρ:Type}{m:Option ρ}{P Q:ρ->Prop}(h:Ok m P)(k :∀r,P r->Q r):Ok m Q:=by
 obtain⟨r,h1,h2⟩:=h
 exact⟨r,h1,k r h2⟩
theorem Ok.tt {ρ:Type}{m:Option ρ}{Q:ρ->Prop}(h:Ok m Q):Tt m:=by
 obtain⟨r,h1,_⟩:=h
 exact⟨r,h1⟩
theorem Ok.bind {α ρ:Type}{m:Option α}{f:α->Option ρ}{P:α->Prop}{Q:ρ->Prop}(h:Ok m P)(k :∀a,P a->Ok (f a) Q):Ok (Option.bind m f) Q:=by
 obtain⟨a,h1,h2⟩:=h
 rw[h1]
 exact k a h2
theorem Ok.join {τ ρ:Type}{m:(τ->Option ρ)->Option ρ}{k:τ->Option ρ}{Q:ρ->Prop}(J:τ->Prop)(h1 :∀k',(∀v,J v->Ok (k' v) Q)->Ok (m k') Q)(h2 :∀v,J v->Ok (k v) Q):Ok (AI m k) Q:=h1 k h2
theorem Ok.forX {α σ ρ:Type}{done:σ->Option ρ}{body:(σ->Option ρ)->α->Nat->σ->Option ρ}{Q:ρ->Prop}{l:List α}{s0:σ}(I:Nat->σ->Prop)(h0:I 0 s0)(hd :∀s,I l.length s->Ok (done s) Q)
  (hs :∀(next:σ->Option ρ) x i s,l[i]?=some x->I i s->(∀s',I (i+1) s'->Ok (next s') Q)->Ok (body next x i s) Q):Ok (Ak done body l 0 s0) Q:=by
 have key :∀(t:List α) (i:Nat) (s:σ),(∃p,l=p++t/\p.length=i)->I i s->Ok (Ak done body t i s) Q:=by
  intro t
  induction t with
  | nil=>intro i s ⟨p,hp,hl⟩ hi;exact hd s (by rw[hp];simpa[hl] using hi)
  | cons x t ih=>
   intro i s ⟨p,hp,hl⟩ hi
   exact hs _ x i s (by rw[hp,<- hl];simp) hi fun s' h'=>ih (i+1) s' ⟨p++[x],by simp[hp],by simp[hl]⟩ h'
 exact key l 0 s0 ⟨[],rfl,rfl⟩ h0
theorem Ok.forI {α σ ρ:Type}{done:σ->Option ρ}{body:(σ->Option ρ)->α->Nat->σ->Option ρ}{Q:ρ->Prop}{l:List α}{s0:σ}(I:Nat->σ->Prop)(h0:I 0 s0)(hd :∀s,I l.length s->Ok (done s) Q)
  (hs :∀(next:σ->Option ρ) x i s,i<l.length->x∈l->I i s->(∀s',I (i+1) s'->Ok (next s') Q)->Ok (body next x i s) Q):Ok (Ak done body l 0 s0) Q:=
 .forX I h0 hd fun n x i s hx=>hs n x i s (X16.1 hx).1 (List.mem_of_getElem? hx)
theorem Ok.for_ {α σ ρ:Type}{done:σ->Option ρ}{body:(σ->Option ρ)->α->Nat->σ->Option ρ}{Q:ρ->Prop}{l:List α}{s0:σ}(hd :∀s,Ok (done s) Q)
  (hs :∀(next:σ->Option ρ) x i s,i<l.length->x∈l->(∀s',Ok (next s') Q)->Ok (body next x i s) Q):Ok (Ak done body l 0 s0) Q:=
 .forI (fun _ _=>True) trivial (fun s _=>hd s) fun n x i s h1 h2 _ h3=>hs n x i s h1 h2 fun s'=>h3 s' trivial
theorem Ok.whileI {σ ρ:Type}{body:(σ->Option ρ)->σ->Option ρ}{n:Nat}{s:σ}{Q:ρ->Prop}(I:σ->Prop)(μ:σ->Nat)(h0:I s)(hm:μ s<n)
  (hs :∀(next:σ->Option ρ) s,I s->(∀s',I s'->μ s'<μ s->Ok (next s') Q)->Ok (body next s) Q):Ok (A1 body n s) Q:=
 QB I μ Q (fun next s h k=>hs next s h k) n s h0 hm
theorem Ok.ite {ρ:Type}{p:Prop}[Decidable p]{x y:Option ρ}{Q:ρ->Prop}(h1:p->Ok x Q)(h2:¬ p->Ok y Q):Ok (if p then x else y) Q:=by
 split
 ·exact h1 ‹_›
 exact h2 ‹_›
theorem Ok.geti {α:Type}{l:List α}{i:Int}(h:0<=i/\i<l.length):Ok (geti l i) fun x=>x∈l/\geti l i=some x:=by
 have h2:i.toNat<l.length:=by omega
 have h3:Go.AX.geti l i=some l[i.toNat]:=by
  unfold Go.AX.geti
  rw[if_pos h]
  simp[h2]
 exact⟨_,h3,List.getElem_mem h2,h3⟩
theorem Ok.seti {α:Type}{l:List α}{i:Int}{x:α}(h:0<=i/\i<l.length):Ok (seti l i x) fun l'=>l'=l.set i.toNat x/\l'.length=l.length:=by
 refine⟨_,?_,rfl,by simp⟩
 unfold Go.AX.seti
 rw[if_pos h]
theorem Ok.apnd {α:Type}{b:Nat}{l m:List α}(hb:Nat.ble b 65536=true)(h:l.length+m.length<=1000000000):Ok (apnd b l m) fun l'=>l'=l++m:=⟨_,AP hb h,rfl⟩
theorem Ok.part {α:Type}{l:List α}{a b:Int}(h:0<=a/\a<=b/\b<=l.length):Ok (part l a b) fun l'=>l'=(l.drop a.toNat).take (b.toNat-a.toNat)/\(l'.length:Int)=b-a:=by
 refine⟨_,?_,rfl,by simp;omega⟩
 unfold Go.AX.part
 rw[if_pos h]
theorem Ok.chk {p:Prop}[Decidable p](h:p):Ok (chk p) fun _=>True:=by
 refine⟨(),?_,trivial⟩
 unfold Go.AX.chk
 rw[if_pos h]
theorem Tt.auto {ρ:Type}{m:Option ρ} (h:Ok m fun _=>True:=by
  repeat' (first
   | exact Ok.ret trivial
   | assumption
   | (refine Ok.bind Ok.of ?_;intros)
   | (refine Ok.ite ?_ ?_<;>intros)
   | (refine Ok.join (fun _=>True) ?_ ?_<;>intros)
   | (refine Ok.for_ ?_ ?_<;>intros)
   | (refine Ok.bind (Ok.geti ?_) ?_<;>intros)
   | (refine Ok.bind (Ok.chk ?_) ?_<;>intros)
   | exact ‹∀v,True->Ok _ _› _ trivial
   | exact ‹∀v,Ok _ _› _
   | solve_by_elim
   | (constructor<;>first | omega | (simp_all;done)|(simp_all;omega))
   | omega
   | decide)):Tt m:=h.tt
theorem Ok.q {ρ:Type}{m:Option ρ}{Q:ρ->Prop} (h:Ok m Q:=by
  repeat' (first
   | assumption
   | refine Ok.ret ?_
   | exact trivial
   | (refine Ok.bind Ok.of ?_;intros)
   | (refine Ok.ite ?_ ?_<;>intros)
   | (refine Ok.bind (Ok.chk ?_) ?_<;>intros)
   | (refine Ok.bind (Ok.geti ?_) ?_<;>intros)
   | (refine Ok.bind (Ok.seti ?_) ?_<;>intros)
   | (refine Ok.bind (Ok.apnd (by decide) ?_) ?_<;>intros)
   | refine ‹∀v,_->_->Ok _ _› _ ?_ ?_
   | refine ‹∀v,_->Ok _ _› _ ?_
   | exact ‹∀v,Ok _ _› _
   | (refine Ok.join (τ:=Bool) (fun _=>True) ?_ ?_<;>intros)
   | (refine Ok.join (τ:=Unit) (fun _=>True) ?_ ?_<;>intros)
   | omega
   | solve_by_elim
   | (simp_all;done)
   | (simp_all;omega)
   | (simp only[X11,X12,X13,X21,decide_eq_true_eq,beq_iff_eq,bne_iff_ne,Bool.not_eq_true'] at *;(try subst_vars);(try simp only[X11,X12,X13]);omega))):Ok m Q:=h
theorem Ok.pos {ρ:Type}{Q:ρ->Prop}{n:Nat}{g:(Bool->Option ρ)->Int->Option ρ}{k:Int->Option ρ}(hn:n<=1000000000)
  (hg :∀(k':Bool->Option ρ) (v:Int),0<=v->v<=n->(∀c,(c=true->v<n)->Ok (k' c) Q)->Ok (g k' v) Q) (hk :∀v:Int,0<=v->v<=n->Ok (k v) Q) :
  Ok (AI (fun k1=>A1 (fun next v=>AI (fun k2=>g k2 v) (fun c=>if c=true then next (AS (v+1)) else k1 v)) fuel 0) k) Q:=by
 refine .join (fun v:Int=>0<=v/\v<=n) (fun k1 hk1=>?_) fun v hv=>hk v hv.1 hv.2
 refine .whileI (fun v:Int=>0<=v/\v<=n) (fun v=>(n-v).toNat) (by omega) (Be (by omega)) fun next v hv hnx=>?_
 refine .join (fun c=>c=true->v<n) (fun k2 hk2=>hg k2 v hv.1 hv.2 hk2) fun c hc=>.ite (fun h=>?_) fun _=>hk1 v hv
 have:=hc h
 rw[AQ (by omega)]
 exact hnx _ (by omega) (by omega)
end Go.AX
end
section
namespace Go.AX
theorem XA {α ρ:Type}{g:α->Bool}{body:(Unit->Option ρ)->α->Nat->Unit->Option ρ}{K:Unit->Option ρ}{r0:Option ρ} :
  ∀{l:List α} {i:Nat},(∀next x i,x∈l->body next x i ()=cond (g x) (next ()) r0)->Ak K body l i ()=cond (l.all g) (K ()) r0
 | [],_,_=>rfl
 | x::t,i,h=>by
  show body (fun s=>Ak K body t (i+1) s) x i ()=_
  rw[h _ x i (by simp),List.all_cons]
  cases g x
  ·rfl
  exact XA fun next y j hy=>h next y j (X19 _ hy)
theorem Z4 {α:Type}{f:α->Option Bool}{q:α->Bool} :∀{l:List α} {i:Nat},(∀x∈l,f x=some (q x))->
  Ak (fun _=>some (-1)) (fun next x i _=>Option.bind (f x) fun v=>if v then some (i:Int) else next ()) l i ()=some (match l.findIdx? q with | some j=>((i+j:Nat):Int)|none=>-1)
 | [],_,_=>rfl
 | x::t,i,h=>by
  show Option.bind (f x) (fun v=>if v then some (i:Int) else Ak (fun _=>some (-1)) _ t (i+1) ())=_
  rw[h x (by simp),AC,List.findIdx?_cons]
  by_cases hq:q x=true
  ·rw[if_pos hq,if_pos hq];simp
  rw[if_neg hq,if_neg hq,Z4 fun y hy=>h y (X19 _ hy)]
  cases t.findIdx? q with
  | none=>rfl
  | some j=>simp only[Option.map_some];rw[show i+1+j=i+(j+1) by omega]
theorem Zw {α:Type}{f:α->Option Bool}{q:α->Bool}{l:List α}(h :∀x∈l,f x=some (q x)) :
  (Option.bind (AI (τ:=Unit) (fun k1=>Ak (fun _=>k1 ()) (fun next x i _=>Option.bind (f x) fun v=>if v then some (i:Int) else next ()) l 0 ()) fun _=>some (-1)) fun v1=>some (decide (v1 ≥ 0)))=some (l.any q):=by
 rw[AH,Z4 h,AC]
 congr 1
 cases hf:l.findIdx? q with
 | none=>
  have:l.any q=false:=by
   rw[List.findIdx?_eq_none_iff] at hf
   simp only[List.any_eq_false]
   intro x hx
   simp[hf x hx]
  rw[this];rfl
 | some j=>
  have h1:=List.findIdx?_eq_some_iff_getElem.1 hf
  obtain⟨hj,hq,_⟩:=h1
  have:l.any q=true:=List.any_eq_true.2 ⟨_,List.getElem_mem hj,hq⟩
  rw[this]
  simp
theorem RL {a b:ByteArray}(h:(a==b)=true):a=b:=(Go.MapKept.bytes_beq a b).1 h
theorem Ze {a:ByteArray}:(a==a)=true:=(Go.MapKept.bytes_beq a a).2 rfl
instance:LawfulBEq ByteArray:={ eq_of_beq:=RL,rfl:=Ze }
section
variable {K V:Type} [BEq K] [LawfulBEq K]
theorem mget_mset (l:List (K×V))(k:K)(v:V)(k':K):A4 (Cd l k v) k'=if k'==k then some v else A4 l k':=by
 induction l with
 | nil=>
  unfold Cd
  simp only[A4]
 | cons p l ih=>
  unfold Cd
  by_cases hp:(k==p.1)=true
  ·rw[if_pos hp]
   have:=eq_of_beq hp
   simp only[A4]
   by_cases hk:(k'==k)=true
   ·rw[if_pos hk,if_pos hk]
   rw[if_neg hk,if_neg hk,if_neg (by rw[<- this];exact hk)]
  rw[if_neg hp]
  simp only[A4,ih]
  by_cases hk:(k'==k)=true
  ·have:=eq_of_beq hk
   subst this
   rw[if_neg hp,if_pos hk,if_pos hk]
  rw[if_neg hk,if_neg hk]
end
theorem FR {α:Type}(p:α->Bool)(l:List α):(l.takeWhile p).length<=l.length:=(List.takeWhile_prefix p).length_le
theorem LF {α:Type}{p:α->Bool} :∀{l:List α} {k:Nat} (hk:k<l.length),k<=(l.takeWhile p).length->(k<(l.takeWhile p).length↔p l[k]=true)
 | [],_,hk,_=>by simp at hk
 | x::t,k,hk,h=>by
  rw[List.takeWhile_cons] at h ⊢
  by_cases hp:p x=true
  ·rw[if_pos hp] at h ⊢
   cases k with
   | zero=>simp[hp]
   | succ k=>simpa using LF (p:=p) (l:=t) (k:=k) (by simpa using hk) (by simpa using h)
  rw[if_neg hp] at h ⊢
  have:k=0:=by simpa using h
  subst this
  simp[hp]
theorem YD {α ρ:Type}{l:List α}{p:α->Bool}(g:α->(Bool->Option ρ)->Option ρ){K:Int->Option ρ}(hl:l.length<=1000000000000)(hg :∀x∈l,∀k,g x k=k (p x)) :
  AI (fun k1=>A1 (fun next v=>AI (fun k2=>if decide (v<(l.length:Int)) then Option.bind (geti l v) fun x=>g x k2 else k2 false) (fun c=>if c=true then next (AS (v+1)) else k1 v)) fuel 0) K=K ((l.takeWhile p).length:Int):=by
 have ht:=FR p l
 rw[AH,Dz (fun v:Int=>0<=v/\v<=((l.takeWhile p).length:Int)) (fun v=>(l.length-v).toNat) (fun _=>K ((l.takeWhile p).length:Int)) ?_ fuel 0 (by omega) (Be (by omega))]
 intro next v hv hn
 obtain⟨k,rfl⟩ :∃k:Nat,v=k:=⟨v.toNat,by omega⟩
 rw[AH]
 by_cases hk:k<l.length
 ·rw[if_pos (by simpa using hk),Dw hk,AC,hg _ (List.getElem_mem hk)]
  have h:=LF (p:=p) hk (by omega)
  by_cases hp:p l[k]=true
  ·rw[if_pos hp,AQ (by omega)]
   have:=h.2 hp
   exact hn _ (by omega) (by omega)
  rw[if_neg hp]
  have:¬ k<(l.takeWhile p).length:=fun q=>hp (h.1 q)
  have:k=(l.takeWhile p).length:=by omega
  rw[this]
 rw[if_neg (by simpa using hk)]
 have:k=(l.takeWhile p).length:=by omega
 subst this
 rfl
theorem Qq {α:Type}[DecidableEq α] :∀{l m:List α},l.Nodup->(∀x∈l,x∈m)->l.length<=m.length
 | [],_,_,_=>Nat.zero_le _
 | x::t,m,h,hs=>by
  obtain⟨h1,h2⟩:=List.nodup_cons.1 h
  have hx:=hs x (by simp)
  have:=Qq (m:=m.erase x) h2 fun y hy=>(List.mem_erase_of_ne (fun e=>h1 (by rw[<- e];exact hy))).2 (hs y (X19 _ hy))
  rw[List.length_erase_of_mem hx] at this
  have:0<m.length:=List.length_pos_of_mem hx
  simp only[X12]
  omega
theorem N2 {α:Type}{lt:α->α->Prop}(hirr :∀a,¬ lt a a)(htr :∀a b c,lt a b->lt b c->lt a c) :∀{l m:List α},l.Pairwise lt->m.Pairwise lt->(∀x,x∈l↔x∈m)->l=m
 | [],[],_,_,_=>rfl
 | [],y::m,_,_,h=>by have:=(h y).2 (by simp);simp at this
 | x::l,[],_,_,h=>by have:=(h x).1 (by simp);simp at this
 | x::l,y::m,h1,h2,h=>by
  obtain⟨a1,a2⟩:=List.pairwise_cons.1 h1
  obtain⟨b1,b2⟩:=List.pairwise_cons.1 h2
  have hxy:x=y:=by
   rcases List.mem_cons.1 ((h x).1 (by simp)) with e | e
   ·exact e
   rcases List.mem_cons.1 ((h y).2 (by simp)) with e' | e'
   ·exact e'.symm
   exact absurd (htr _ _ _ (a1 y e') (b1 x e)) (hirr x)
  subst hxy
  congr 1
  refine N2 hirr htr a2 b2 fun z=>?_
  constructor
  ·intro hz
   rcases List.mem_cons.1 ((h z).1 (X19 _ hz)) with e | e
   ·subst e;exact absurd (a1 z hz) (hirr z)
   exact e
  intro hz
  rcases List.mem_cons.1 ((h z).2 (X19 _ hz)) with e | e
  ·subst e;exact absurd (b1 z hz) (hirr z)
  exact e
def FY {α:Type}(lt:α->α->Bool)(l:List α)(x:α):List α:=l.takeWhile (lt · x)++x::l.dropWhile (lt · x)
theorem Ea {α:Type}{lt:α->α->Bool}{l:List α}{x y:α}:y∈FY lt l x↔y∈l\/y=x:=by
 unfold FY
 have:y∈l↔y∈l.takeWhile (lt · x)\/y∈l.dropWhile (lt · x):=by
  rw[<- X23,List.takeWhile_append_dropWhile]
 rw[this,X23,List.mem_cons]
 constructor
 ·rintro (h | h | h)
  ·exact .inl (.inl h)
  ·exact .inr h
  exact .inl (.inr h)
 rintro ((h | h)|h)
 ·exact .inl h
 ·exact .inr (.inr h)
 exact .inr (.inl h)
theorem Fo {α:Type}(lt:α->α->Bool)(l:List α)(x:α):(FY lt l x).length=l.length+1:=by
 unfold FY
 have:=congrArg List.length (List.takeWhile_append_dropWhile (p:=(lt · x)) (l:=l))
 simp only[X11,X12] at this ⊢
 omega
theorem HK {α:Type}(p:α->Bool){l:List α}{x:α}(h:x∈l.takeWhile p):p x=true:=by
 induction l with
 | nil=>simp at h
 | cons y t ih=>
  rw[List.takeWhile_cons] at h
  split at h
  ·rcases List.mem_cons.1 h with rfl | h
   ·assumption
   exact ih h
  simp at h
theorem HA {α:Type}{lt:α->α->Bool}(htr :∀a b c,lt a b=true->lt b c=true->lt a c=true)(htot :∀a b,lt a b=false->a=b\/lt b a=true){l:List α}{x:α}(h:l.Pairwise fun a b=>lt a b=true)(hx:x∉l) :
  (FY lt l x).Pairwise fun a b=>lt a b=true:=by
 have h0:=h
 rw[<- List.takeWhile_append_dropWhile (p:=(lt · x)) (l:=l),List.pairwise_append] at h
 obtain⟨h1,h2,h3⟩:=h
 have hd :∀b∈l.dropWhile (lt · x),lt x b=true:=by
  cases hl:l.dropWhile (lt · x) with
  | nil=>intro b hb;simp at hb
  | cons y t=>
   have hy:lt y x=false:=by
    have:=List.head?_dropWhile_not (lt · x) l
    rw[hl] at this
    simpa using this
   have hyl:y∈l:=by
    have:y∈l.dropWhile (lt · x):=by rw[hl];simp
    exact List.dropWhile_subset _ this
   have hxy:lt x y=true:=by
    rcases htot _ _ hy with e | e
    ·subst e;exact absurd hyl hx
    exact e
   rw[hl] at h2
   intro b hb
   rcases List.mem_cons.1 hb with rfl | hb
   ·exact hxy
   exact htr _ _ _ hxy ((List.pairwise_cons.1 h2).1 b hb)
 unfold FY
 rw[List.pairwise_append]
 refine⟨h1,List.pairwise_cons.2 ⟨hd,h2⟩,fun a ha b hb=>?_⟩
 rcases List.mem_cons.1 hb with e | hb
 ·rw[e];exact HK (lt · x) ha
 exact h3 a ha b hb
theorem takeWhile_take {α:Type}(p:α->Bool)(l:List α):l.take (l.takeWhile p).length=l.takeWhile p/\l.drop (l.takeWhile p).length=l.dropWhile p:=by
 have h:=List.takeWhile_append_dropWhile (p:=p) (l:=l)
 constructor
 ·conv=>lhs;arg 2;rw[<- h]
  rw[List.take_left']
  rfl
 conv=>lhs;arg 2;rw[<- h]
 rw[List.drop_left']
 rfl
end Go.AX
end
section
namespace Go.AX
def WW (a b:Int):Int:=if a<b then -1 else if b<a then 1 else 0
def orI:List Int->Int
 | []=>0
 | x::t=>if x=0 then orI t else x
def Ef:List Int->List Int->Int
 | x::s,y::t=>if x<y then -1 else if y<x then 1 else Ef s t
 | _,_=>0
theorem S7 (x:Int)(t:List Int):orI (x::t)=if x=0 then orI t else x:=rfl
theorem KY (x y:Int)(t:List Int):orI (WW x y::t)=if x<y then -1 else if y<x then 1 else orI t:=by
 rw[S7]
 unfold WW
 split
 ·rfl
 split<;>simp
theorem Vk (x y:Int)(s t:List Int):Ef (x::s) (y::t)=if x<y then -1 else if y<x then 1 else Ef s t:=rfl
theorem Wp:Ef [] []=0:=rfl
theorem QH :∀a:List Int,Ef a a=0
 | []=>rfl
 | x::t=>by unfold Ef;simp[QH t]
theorem Ql :∀{a b:List Int},a.length=b.length->Ef a b=0->a=b
 | [],[],_,_=>rfl
 | [],_::_,h,_=>by simp at h
 | _::_,[],h,_=>by simp at h
 | x::s,y::t,h,e=>by
  unfold Ef at e
  split at e
  ·simp at e
  split at e
  ·simp at e
  rw[Ql (by simpa using h) e,show x=y by omega]
theorem Tq :∀a b:List Int,Ef b a=- Ef a b
 | [],[]=>rfl
 | [],_::_=>rfl
 | _::_,[]=>rfl
 | x::s,y::t=>by
  unfold Ef
  have:=Tq s t
  split<;>split<;>first | omega | (split<;>omega)
theorem VX :∀{a b c:List Int},a.length=b.length->b.length=c.length->Ef a b<0->Ef b c<0->Ef a c<0
 | [],_,_,_,_,h,_=>by simp[Ef] at h
 | _::_,[],_,h,_,_,_=>by simp at h
 | _::_,_::_,[],_,h,_,_=>by simp at h
 | x::s,y::t,z::u,h1,h2,h3,h4=>by
  have ih:=@VX s t u (by simpa using h1) (by simpa using h2)
  unfold Ef at h3 h4 ⊢
  by_cases a1:x<y
  ·by_cases a2:y<z
   ·rw[if_pos (by omega)];omega
   rw[if_neg a2] at h4
   by_cases a3:z<y
   ·rw[if_pos a3] at h4;omega
   rw[if_pos (by omega)];omega
  rw[if_neg a1] at h3
  by_cases a4:y<x
  ·rw[if_pos a4] at h3;omega
  rw[if_neg a4] at h3
  have:x=y:=by omega
  subst this
  by_cases a2:x<z
  ·rw[if_pos a2];omega
  rw[if_neg a2] at h4 ⊢
  by_cases a3:z<x
  ·rw[if_pos a3] at h4;omega
  rw[if_neg a3] at h4 ⊢
  exact ih h3 h4
section
variable {X:Type} {key:X->List Int}
def ltK (key:X->List Int)(a b:X):Bool:=decide (Ef (key a) (key b)<0)
theorem Ri (a:X):ltK key a a=false:=by unfold ltK;rw[QH];rfl
theorem Lp (hl :∀a b:X,(key a).length=(key b).length)(a b c:X)(h1:ltK key a b=true)(h2:ltK key b c=true):ltK key a c=true:=by
 unfold ltK at *
 simp only[decide_eq_true_eq] at *
 exact VX (hl _ _) (hl _ _) h1 h2
theorem LD (hl :∀a b:X,(key a).length=(key b).length)(a b:X)(h:ltK key a b=false):key a=key b\/ltK key b a=true:=by
 unfold ltK at *
 simp only[decide_eq_false_iff_not,decide_eq_true_eq] at *
 have:=Tq (key a) (key b)
 by_cases h0:Ef (key a) (key b)=0
 ·exact .inl (Ql (hl _ _) h0)
 exact .inr (by omega)
theorem Tm (hl :∀a b:X,(key a).length=(key b).length)(a b:X)(h:ltK key a b=true):ltK key b a=false:=by
 cases h1:ltK key b a
 ·rfl
 have:=Lp hl _ _ _ h h1
 rw[Ri] at this;simp at this
theorem Ye (hl :∀a b:X,(key a).length=(key b).length)(a b c:X)(h1:ltK key a b=false)(h2:ltK key b c=false):ltK key a c=false:=by
 rcases LD hl _ _ h1 with e | h1
 ·unfold ltK at *;rw[e];exact h2
 rcases LD hl _ _ h2 with e | h2
 ·refine Tm hl _ _ ?_
  unfold ltK at *;rw[<- e];exact h1
 exact Tm hl _ _ (Lp hl _ _ _ h2 h1)
variable {cmp:X->X->Option Int}
theorem U9 (hc :∀a b,cmp a b=some (Ef (key a) (key b)))(a b:X):ltC cmp a b=ltK key a b:=by unfold ltC;rw[hc];rfl
theorem VS (hl :∀a b:X,(key a).length=(key b).length)(hc :∀a b,cmp a b=some (Ef (key a) (key b))){l:List X}(hn:l.length<=1000000000) :
  Ok (FO cmp l) fun r=>r.Perm l/\r.Pairwise fun a b=>ltK key b a=false:=by
 obtain⟨r,hr⟩:=Uc (cmp:=cmp) (l:=l) (X6 (fun a _ b _=>⟨_,hc a b⟩) (fun a _=>by rw[U9 hc,Ri])
  (fun a _ b _ c _ h1 h2=>by rw[U9 hc] at *;exact Lp hl _ _ _ h1 h2) (fun a _ b _ c _ h1 h2=>by rw[U9 hc] at *;exact Ye hl _ _ _ h1 h2) hn)
 obtain⟨h1,h2⟩:=Jw hr
 exact⟨r,hr,h1,h2.imp fun h=>by rw[U9 hc] at h;exact h⟩
theorem Qv {l:List X}(hl :∀a b:X,(key a).length=(key b).length)(h1:l.Pairwise fun a b=>ltK key b a=false)(h2:l.Pairwise fun a b=>key a≠key b):l.Pairwise fun a b=>ltK key a b=true:=
 (h1.and h2).imp fun {a b} h=>(LD hl b a h.1).resolve_left fun e=>h.2 e.symm
theorem Va (hl :∀a b:X,(key a).length=(key b).length){l m:List X}(h1:l.Pairwise fun a b=>ltK key a b=true)(h2:m.Pairwise fun a b=>ltK key a b=true)(h :∀x,x∈l↔x∈m):l=m:=
 N2 (lt:=fun a b=>ltK key a b=true) (fun a h=>by rw[Ri] at h;simp at h) (fun a b c=>Lp hl a b c) h1 h2 h
end
theorem Xl {α:Type}{lt:α->α->Bool}(htr :∀a b c,lt a b=true->lt b c=true->lt a c=true)(hirr :∀a,lt a a=false){l:List α}{x:α}(hs:l.Pairwise fun a b=>lt a b=true) :
  x∈l↔l[(l.takeWhile (lt · x)).length]?=some x:=by
 constructor
 ·intro hx
  rw[<- List.takeWhile_append_dropWhile (p:=(lt · x)) (l:=l),X23] at hx
  rcases hx with hx | hx
  ·have:=HK (lt · x) hx
   rw[hirr] at this
   simp at this
  have h2:=(takeWhile_take (lt · x) l).2
  cases hd:l.dropWhile (lt · x) with
  | nil=>rw[hd] at hx;simp at hx
  | cons y t=>
   have hy:lt y x=false:=by
    have:=List.head?_dropWhile_not (lt · x) l
    rw[hd] at this
    simpa using this
   have hp:(y::t).Pairwise fun a b=>lt a b=true:=by
    rw[<- hd]
    exact hs.sublist (List.dropWhile_sublist _)
   rw[hd] at hx
   have hxy:x=y:=by
    rcases List.mem_cons.1 hx with e | e
    ·exact e
    have:=(List.pairwise_cons.1 hp).1 x e
    rw[hy] at this;simp at this
   have h3:(l.drop (l.takeWhile (lt · x)).length)[0]?=some x:=by rw[h2,hd,hxy];rfl
   rw[List.getElem?_drop] at h3
   simpa using h3
 intro h
 exact List.mem_of_getElem? h
section
variable {α:Type} {lt:α->α->Bool} (hirr :∀a,lt a a=false) (htr :∀a b c,lt a b=true->lt b c=true->lt a c=true) (htot :∀a b,lt a b=false->a=b\/lt b a=true)
include htr htot
include hirr
end
end Go.AX
end
section
namespace Go.AX
def Po {ρ:Type}(m:Option ρ)(Q:ρ->Prop):Prop:=∀r,m=some r->Q r
theorem Po.ret {ρ:Type}{Q:ρ->Prop}{r:ρ}(h:Q r):Po (some r) Q:=fun _ e=>X25 e ▸ h
theorem Po.imp {ρ:Type}{m:Option ρ}{P Q:ρ->Prop}(h:Po m P)(k :∀r,P r->Q r):Po m Q:=fun r e=>k r (h r e)
theorem Po.bind {α ρ:Type}{m:Option α}{f:α->Option ρ}{Q:ρ->Prop}(k :∀a,m=some a->Po (f a) Q):Po (Option.bind m f) Q:=by
 intro r e
 cases hm:m with
 | none=>rw[hm] at e;cases e
 | some a=>rw[hm] at e;exact k a hm r e
theorem Po.join {τ ρ:Type}{m:(τ->Option ρ)->Option ρ}{k:τ->Option ρ}{Q:ρ->Prop}(J:τ->Prop)(h1 :∀k',(∀v,J v->Po (k' v) Q)->Po (m k') Q)(h2 :∀v,J v->Po (k v) Q):Po (AI m k) Q:=h1 k h2
theorem Po.ite {ρ:Type}{p:Prop}[Decidable p]{x y:Option ρ}{Q:ρ->Prop}(h1:p->Po x Q)(h2:¬ p->Po y Q):Po (if p then x else y) Q:=by
 split
 ·exact h1 ‹_›
 exact h2 ‹_›
theorem Po.forX {α σ ρ:Type}{done:σ->Option ρ}{body:(σ->Option ρ)->α->Nat->σ->Option ρ}{Q:ρ->Prop}{l:List α}{s0:σ}(I:Nat->σ->Prop)(h0:I 0 s0)(hd :∀s,I l.length s->Po (done s) Q)
  (hs :∀(next:σ->Option ρ) x i s,l[i]?=some x->I i s->(∀s',I (i+1) s'->Po (next s') Q)->Po (body next x i s) Q):Po (Ak done body l 0 s0) Q:=by
 have key :∀(t:List α) (i:Nat) (s:σ),(∃p,l=p++t/\p.length=i)->I i s->Po (Ak done body t i s) Q:=by
  intro t
  induction t with
  | nil=>intro i s ⟨p,hp,hl⟩ hi;exact hd s (by rw[hp];simpa[hl] using hi)
  | cons x t ih=>
   intro i s ⟨p,hp,hl⟩ hi
   exact hs _ x i s (by rw[hp,<- hl];simp) hi fun s' h'=>ih (i+1) s' ⟨p++[x],by simp[hp],by simp[hl]⟩ h'
 exact key l 0 s0 ⟨[],rfl,rfl⟩ h0
theorem Po.for_ {α σ ρ:Type}{done:σ->Option ρ}{body:(σ->Option ρ)->α->Nat->σ->Option ρ}{Q:ρ->Prop}{l:List α}{s0:σ}(I:σ->Prop)(h0:I s0)(hd :∀s,I s->Po (done s) Q)
  (hs :∀(next:σ->Option ρ) x i s,x∈l->I s->(∀s',I s'->Po (next s') Q)->Po (body next x i s) Q):Po (Ak done body l 0 s0) Q:=
 .forX (fun _=>I) h0 hd fun n x i s hx=>hs n x i s (List.mem_of_getElem? hx)
theorem Po.apnd {α:Type}{b:Nat}{l m:List α}:Po (Go.AX.apnd b l m) fun r=>r=l++m:=by
 intro r e
 unfold Go.AX.apnd at e
 split at e
 ·exact (X25 e).symm
 cases e
theorem Po.geti {α:Type}{l:List α}{i:Int}:Po (Go.AX.geti l i) fun x=>0<=i/\l[i.toNat]?=some x:=by
 intro r e
 unfold Go.AX.geti at e
 split at e
 ·rename_i h
  exact⟨h.1,e⟩
 cases e
theorem Po.seti {α:Type}{l:List α}{i:Int}{x:α}:Po (Go.AX.seti l i x) fun r=>0<=i/\i.toNat<l.length/\r=l.set i.toNat x:=by
 intro r e
 unfold Go.AX.seti at e
 split at e
 ·rename_i h
  exact⟨h.1,by omega,(X25 e).symm⟩
 cases e
theorem Po.part {α:Type}{l:List α}{a b:Int}:Po (Go.AX.part l a b) fun r=>r=(l.drop a.toNat).take (b.toNat-a.toNat):=by
 intro r e
 unfold Go.AX.part at e
 split at e
 ·exact (X25 e).symm
 cases e
theorem Ok.and {ρ:Type}{m:Option ρ}{P Q:ρ->Prop}(h:Ok m P)(k:Po m Q):Ok m fun r=>P r/\Q r:=by
 obtain⟨r,h1,h2⟩:=h
 exact⟨r,h1,h2,k r h1⟩
theorem Po.sel {τ ρ:Type}{m:(τ->Option ρ)->Option ρ}{k:τ->Option ρ}{Q:ρ->Prop}(h1 :∀k',(∀v,Po (k' v) Q)->Po (m k') Q)(h2 :∀v,Po (k v) Q):Po (AI m k) Q:=h1 k h2
end Go.AX
end
section
namespace Go.AX.Q19
open Go Go.AX
def fl (t:Int):Int:=if t=1 then 64 else if t=2 then 64 else if t=3 then 64 else if t=4 then 128 else if t=5 then 64 else if t=8 then 192 else if t=32 then 192 else if t=35 then 192 else 0
def unk (t:Int):Bool:=decide (fl t=0)&&(decide (t≠14)&&decide (t≠15))
theorem K4 (t:Int):(A4 Ba t).getD 0=fl t:=by
 unfold Ba fl
 simp only[A4,beq_iff_eq]
 repeat' (split;· rfl)
 rfl
theorem Hj (t:Int):(t=1/\fl t=64)\/(t=2/\fl t=64)\/(t=3/\fl t=64)\/(t=4/\fl t=128)\/(t=5/\fl t=64)\/(t=8/\fl t=192)\/(t=32/\fl t=192)\/(t=35/\fl t=192) \/
  (t≠1/\t≠2/\t≠3/\t≠4/\t≠5/\t≠8/\t≠32/\t≠35/\fl t=0):=by
 unfold fl
 by_cases h1:t=1<;>by_cases h2:t=2<;>by_cases h3:t=3<;>by_cases h4:t=4<;>by_cases h5:t=5<;>by_cases h6:t=8<;>by_cases h7:t=32<;>by_cases h8:t=35<;>first | (exfalso;omega)|simp[h1,h2,h3,h4,h5,h6,h7,h8]
theorem JG (t:Int):BF t=some (fl t):=by
 unfold BF
 simp only[AH,beq_iff_eq]
 rcases Hj t with ⟨h,e⟩|⟨h,e⟩|⟨h,e⟩|⟨h,e⟩|⟨h,e⟩|⟨h,e⟩|⟨h,e⟩|⟨h,e⟩|⟨h1,h2,h3,h4,h5,h6,h7,h8,e⟩<;>rw[e]
 iterate 8 (subst h;rfl)
 simp[h1,h2,h3,h4,h5,h6,h7,h8]
theorem XX (t:Int)(k:Bool->Option Bool):(if (fl t==0)=true then if (cond true (t != 14) false)=true then k (cond true (t != 15) false) else k false else k false)=k (unk t):=by
 have e1:(t != 14)=!decide (t=14):=rfl
 have e2:(t != 15)=!decide (t=15):=rfl
 unfold unk
 rw[e1,e2]
 by_cases h1:fl t=0<;>by_cases h2:t=14<;>by_cases h3:t=15<;>simp[h1,h2,h3]
theorem F6 (t:Int):DJ t=some (unk t):=by
 unfold DJ
 rw[AH,K4,AC]
 exact XX t some
theorem Hq (t:Int):CU t=some (unk t):=by
 unfold CU
 rw[AH,JG,AC]
 exact XX t some
theorem FX (a b c:Int):A9 a b c=some (decide (b<=a)&&decide (a<=c)):=by
 unfold A9
 rw[AH]
 by_cases h:b<=a
 ·rw[if_pos (by simpa using h),decide_eq_true h];rfl
 rw[if_neg (by simpa using h),decide_eq_false h];rfl
theorem number_eq (a:Int):Dx a=some (decide (1<=a)&&decide (a<=4294967295)):=by
 unfold Dx
 rw[AH]
 by_cases h:1<=a
 ·rw[if_pos (by simpa using h),decide_eq_true h];rfl
 rw[if_neg (by simpa using h),decide_eq_false h];rfl
def bt (x m:Int):Int:=AS ((BitVec.ofInt 64 x &&& BitVec.ofInt 64 m).toNat:Int)
def ZW (x:JAA):Bool:=bt x.Flags 192==fl x.Type_&&(fl x.Type_==192 || bt x.Flags 32==0)
def If (b:List UInt8):Int:=b.foldl (fun n x=>AS ((BitVec.ofInt 64 (AS (n*(2^(min (Int.toNat 8) 64)))) ||| BitVec.ofInt 64 (x.toNat:Int)).toNat:Int)) 0
theorem Yi {α σ ρ:Type}{K:σ->Option ρ}{g:σ->α->σ} :∀(l:List α) (i:Nat) (s:σ),Ak K (fun next x _ s=>next (g s x)) l i s=K (l.foldl g s)
 | [],_,_=>rfl
 | x::t,i,s=>Yi t (i+1) (g s x)
def val (l:List UInt8):Nat:=l.foldl (fun m x=>m*256+x.toNat) 0
theorem KP (l:List UInt8)(x:UInt8):val (l++[x])=val l*256+x.toNat:=by simp[val]
theorem PL :∀l:List UInt8,val l<256^l.length:=by
 intro l
 rw[<- List.reverse_reverse l]
 generalize l.reverse=m
 induction m with
 | nil=>decide
 | cons x t ih=>
  rw[List.reverse_cons,KP,X11,X22,Nat.pow_succ]
  have:=x.toNat_lt
  omega
theorem UB {u v:Nat}(hu:u<36028797018963968)(hv:v<256):AS ((BitVec.ofInt 64 (AS ((u:Int)*(2^(min (Int.toNat 8) 64)))) ||| BitVec.ofInt 64 (v:Int)).toNat:Int)=((u*256+v:Nat):Int):=by
 have h1:((u:Int)*(2^(min (Int.toNat 8) 64)))=((u*256:Nat):Int):=by
  have:min (Int.toNat 8) 64=8:=rfl
  rw[this];omega
 rw[h1,AQ (x:=((u*256:Nat):Int)) (by omega),BitVec.ofInt_natCast,BitVec.ofInt_natCast,BitVec.toNat_or,BitVec.toNat_ofNat,BitVec.toNat_ofNat,Nat.mod_eq_of_lt (show u*256<2^64 by omega),Nat.mod_eq_of_lt (show v<2^64 by omega),
  show u*256=2^8*u by omega,<- Nat.two_pow_add_eq_or_of_lt (show v<2^8 by omega)]
 rw[AQ (by omega)]
theorem Nu :∀{l:List UInt8},l.length<=7->If l=(val l:Int):=by
 intro l
 rw[<- List.reverse_reverse l]
 generalize l.reverse=m
 induction m with
 | nil=>intro _;rfl
 | cons x t ih=>
  intro h
  rw[List.reverse_cons] at h ⊢
  simp only[X11,List.length_reverse,X22] at h
  unfold If at ih ⊢
  rw[List.foldl_append,ih (by simp;omega)]
  have h1:=PL t.reverse
  have h2:256^t.reverse.length<=256^6:=Nat.pow_le_pow_right (by omega) (by simp;omega)
  show AS _=_
  rw[UB (by omega) x.toNat_lt,KP]
def nums:List UInt8->List Int
 | a::b::c::d::t=>If [a,b,c,d]::nums t
 | _=>[]
theorem P2 (a b c d:UInt8)(t:List UInt8):nums (a::b::c::d::t)=If [a,b,c,d]::nums t:=rfl
theorem PO :∀l:List UInt8,(nums l).length=l.length/4
 | a::b::c::d::t=>by
  rw[P2,X12,PO t]
  simp only[X12]
  omega
 | []=>rfl
 | [_]=>by simp[nums]
 | [_,_]=>by simp[nums]
 | [_,_,_]=>by simp[nums]
theorem T9 :∀(l:List UInt8),∀n∈nums l,0<=n/\n<=4294967295
 | a::b::c::d::t=>by
  rw[P2]
  intro n hn
  rcases List.mem_cons.1 hn with h | h
  ·have h1:=PL [a,b,c,d]
   rw[h,Nu (by simp)]
   simp only[X12,X13] at h1
   omega
  exact T9 t n h
 | []=>by intro n h;simp[nums] at h
 | [_]=>by intro n h;simp[nums] at h
 | [_,_]=>by intro n h;simp[nums] at h
 | [_,_,_]=>by intro n h;simp[nums] at h
def ltI (a b:Int):Bool:=decide (a<b)
theorem VR (a:Int):ltI a a=false:=by simp[ltI]
theorem Xd (a b c:Int)(h1:ltI a b=true)(h2:ltI b c=true):ltI a c=true:=by simp only[ltI,decide_eq_true_eq] at *;omega
theorem YM (a b:Int)(h:ltI a b=false):a=b\/ltI b a=true:=by simp only[ltI,decide_eq_true_eq,decide_eq_false_iff_not] at *;omega
def Asc (l r:List Int):Prop:=r.Pairwise (fun a b=>ltI a b=true)/\∀x,x∈r↔x∈l
theorem MF {l:List Int}(hl:l.length<=1000000):Ok (H5 l) (Asc l):=by
 unfold H5
 refine .join (Asc l) (fun k hk=>?_) fun r hr=>.ret hr
 refine .forX (fun i v=>v.Pairwise (fun a b=>ltI a b=true)/\(∀x,x∈v↔x∈l.take i)/\v.length<=i) ⟨.nil,by simp,by simp⟩ (fun v hv=>hk v ⟨hv.1,by simpa using hv.2.1⟩) fun next x i v hx hI hn=>?_
 obtain⟨i1,i2,i3⟩:=hI
 have hil:=(X16.1 hx).1
 have hmt :∀y,y∈l.take (i+1)↔y∈l.take i\/y=x:=by
  intro y
  rw[List.take_add_one,hx]
  simp
 refine .join (fun v'=>v'.Pairwise (fun a b=>ltI a b=true)/\(∀x,x∈v'↔x∈l.take (i+1))/\v'.length<=i+1) (fun k6 hk6=>?_) fun v' h=>hn _ h
 have hpos:=FR (ltI · x) v
 rw[YD (p:=(ltI · x)) (fun y k4=>k4 (cond true (decide (y<x)) false)) (by omega) (fun y _ k=>rfl)]
 have hh:=Xl Xd VR (x:=x) i1
 obtain⟨t1,t2⟩:=takeWhile_take (ltI · x) v
 refine .join (fun c=>c=true↔x∈v) (fun k15 hk15=>?_) fun c hc=>.ite (fun h=>?_) fun h=>?_
 ·by_cases hk:(v.takeWhile (ltI · x)).length<v.length
  ·rw[if_pos (by simpa using hk),Dw hk,AC]
   refine hk15 _ ?_
   rw[hh,X15 hk]
   simp only[cond_true,beq_iff_eq,X24]
  rw[if_neg (by simpa using hk)]
  refine hk15 _ ?_
  rw[hh,List.getElem?_eq_none (by omega)]
  simp
 ·refine hk6 _ ⟨i1,fun y=>?_,by omega⟩
  rw[hmt,i2 y]
  refine⟨.inl,fun q=>q.elim id fun e=>?_⟩
  rw[e];exact (i2 x).1 (hc.1 h)
 have hnx:x∉v:=fun q=>h (hc.2 q)
 simp only[Int.toNat_natCast,Int.toNat_zero,List.drop_zero,Nat.sub_zero]
 refine .bind (Ok.chk (by omega)) fun _ _=>.bind (Ok.apnd (by decide) (by simp;omega)) fun _ _=>.bind (Ok.apnd (by decide) (by simp;omega)) fun a ha=>.bind (Ok.chk (by omega)) fun _ _=>.bind (Ok.apnd (by decide) (by rw[ha];simp;omega)) fun b hb=>hk6 _ ?_
 have e:b=FY ltI v x:=by
  have e2:(List.drop (v.takeWhile (ltI · x)).length v).take (v.length-(v.takeWhile (ltI · x)).length)=v.dropWhile (ltI · x):=by
   rw[List.take_of_length_le (by simp),t2]
  rw[hb,ha,e2,t1]
  unfold FY
  simp
 rw[e]
 refine⟨HA Xd YM i1 hnx,fun y=>?_,by rw[Fo];omega⟩
 rw[Ea,hmt,i2]
def srt (l:List Int):List Int:=(H5 l).getD []
theorem YW {l:List Int}(hl:l.length<=1000000):Asc l (srt l):=by
 obtain⟨r,h,k⟩:=MF hl
 unfold srt;rw[h];exact k
def Q1 (p:List JAE)(set:Bool)(l:List Int):List JAE:=
 if set then p++[⟨true,srt l⟩] else match p.getLast? with
  | some s=>if s.Set then p++[⟨false,l⟩] else p.dropLast++[⟨false,s.ASNs++l⟩]
  | none=>[⟨false,l⟩]
def ON:Nat->List UInt8->List JAE->Option (List JAE)
 | _,[],p=>some p
 | n+1,k::c::t,p=>if (k.toNat≠1/\k.toNat≠2)\/c.toNat=0\/t.length<4*c.toNat then none else ON n (t.drop (4*c.toNat)) (Q1 p (k.toNat==1) (nums (t.take (4*c.toNat))))
 | _,_,_=>none
theorem V1 (n:Nat)(p:List JAE):ON n [] p=some p:=by cases n<;>rfl
def rdL (b:List UInt8)(p:List JAE):Option (List JAE):=ON b.length b p
theorem Zf {x:UInt8}{t:List UInt8}:geti (x::t) 0=some x:=Dw (l:=x::t) (i:=0) (by simp)
theorem Yy {x y:UInt8}{t:List UInt8}:geti (x::y::t) 1=some y:=Dw (l:=x::y::t) (i:=1) (by simp)
theorem YT {l:List Int}(hl:l.length<=1000000):(srt l).length<=l.length:=by
 obtain⟨h1,h2⟩:=YW hl
 refine Qq (h1.imp fun {a b} h e=>?_) fun x hx=>(h2 x).1 hx
 subst e
 rw[VR] at h;simp at h
end Go.AX.Q19
end
section
namespace Go.AX
section
variable {α ρ:Type}
def chainB (lt:α->α->Bool):List α->Bool
 | x::y::t=>lt x y&&chainB lt (y::t)
 | _=>true
theorem JA (lt:α->α->Bool)(x y:α)(t:List α):chainB lt (x::y::t)=(lt x y&&chainB lt (y::t)):=rfl
theorem N3 (lt:α->α->Bool)(x:α):chainB lt [x]=true:=rfl
theorem HW {lt:α->α->Bool}(htr :∀a b c,lt a b=true->lt b c=true->lt a c=true) :∀{l:List α},chainB lt l=true↔l.Pairwise fun a b=>lt a b=true
 | []=>by simp[chainB]
 | [x]=>by simp[chainB]
 | x::y::t=>by
  rw[JA,X27,HW htr (l:=y::t),List.pairwise_cons (a:=x)]
  constructor
  ·rintro⟨h1,h2⟩
   refine⟨fun z hz=>?_,h2⟩
   rcases List.mem_cons.1 hz with e | hz
   ·rw[e];exact h1
   exact htr _ _ _ h1 ((List.pairwise_cons.1 h2).1 z hz)
  rintro⟨h1,h2⟩
  exact⟨h1 y (by simp),h2⟩
theorem YB {ok:α->Bool}{lt:α->α->Bool}{l:List α}{K:Unit->Option ρ}{F:Option ρ}{body:(Unit->Option ρ)->α->Nat->Unit->Option ρ}(hl:l.length<=1000000000000)
  (h0 :∀next x,x∈l->body next x 0 ()=if ok x then next () else F)
  (h1 :∀next x y i,x∈l->y∈l->geti l (AS (((i+1:Nat):Int)-1))=some y->body next x (i+1) ()=if ok x&&lt y x then next () else F) :
  Ak K body l 0 ()=if l.all ok&&chainB lt l then K () else F:=by
 have key :∀(t p:List α) (y:α),l=p++y::t->Ak K body t (p.length+1) ()=if t.all ok&&chainB lt (y::t) then K () else F:=by
  intro t
  induction t with
  | nil=>intro p y _;rw[N3];rfl
  | cons x t ih=>
   intro p y e
   show body (fun s=>Ak K body t (p.length+1+1) s) x (p.length+1) ()=_
   have hlen:p.length<l.length:=by rw[e];simp
   rw[h1 _ x y p.length (by rw[e];simp) (by rw[e];simp) (by
    rw[AQ (by omega),show ((p.length+1:Nat):Int)-1=(p.length:Int) by omega,e]
    exact R2 p y (x::t))]
   have:=ih (p++[y]) x (by rw[e];simp)
   rw[X11,X22] at this
   rw[this,JA,List.all_cons]
   generalize chainB lt (x::t)=c1
   generalize t.all ok=c2
   cases ok x<;>cases lt y x<;>cases c1<;>cases c2<;>rfl
 match l,h0,h1,key with
 | [],_,_,_=>rfl
 | x::t,h0,_,key=>
  show body (fun s=>Ak K body t (0+1) s) x 0 ()=_
  rw[h0 _ x (by simp)]
  have:=key t [] x rfl
  rw[X13] at this
  rw[this,List.all_cons]
  generalize chainB lt (x::t)=c1
  generalize t.all ok=c2
  cases ok x<;>cases c1<;>cases c2<;>rfl
theorem Zg {σ:Type}{g:σ->α->σ}{ok:α->Bool}{lt:α->α->Bool}{l:List α}{s0:σ}{K:σ->Option ρ}{F:Option ρ}{body:(σ->Option ρ)->α->Nat->σ->Option ρ}(hl:l.length<=1000000000000)
  (h0 :∀next x s,x∈l->body next x 0 s=if ok x then next (g s x) else F)
  (h1 :∀next x y i s,x∈l->y∈l->geti l (AS (((i+1:Nat):Int)-1))=some y->body next x (i+1) s=if ok x&&lt y x then next (g s x) else F) :
  Ak K body l 0 s0=if l.all ok&&chainB lt l then K (l.foldl g s0) else F:=by
 have key :∀(t p:List α) (y:α) (s:σ),l=p++y::t->Ak K body t (p.length+1) s=if t.all ok&&chainB lt (y::t) then K (t.foldl g s) else F:=by
  intro t
  induction t with
  | nil=>intro p y s _;rw[N3];rfl
  | cons x t ih=>
   intro p y s e
   show body (fun s=>Ak K body t (p.length+1+1) s) x (p.length+1) s=_
   have hlen:p.length<l.length:=by rw[e];simp
   rw[h1 _ x y p.length s (by rw[e];simp) (by rw[e];simp) (by
    rw[AQ (by omega),show ((p.length+1:Nat):Int)-1=(p.length:Int) by omega,e]
    exact R2 p y (x::t))]
   have:=ih (p++[y]) x (g s x) (by rw[e];simp)
   rw[X11,X22] at this
   rw[this,JA,List.all_cons,List.foldl_cons]
   generalize chainB lt (x::t)=c1
   generalize t.all ok=c2
   cases ok x<;>cases lt y x<;>cases c1<;>cases c2<;>rfl
 match l,h0,h1,key with
 | [],_,_,_=>rfl
 | x::t,h0,_,key=>
  show body (fun s=>Ak K body t (0+1) s) x 0 s0=_
  rw[h0 _ x s0 (by simp)]
  have:=key t [] x (g s0 x) rfl
  rw[X13] at this
  rw[this,List.all_cons,List.foldl_cons]
  generalize chainB lt (x::t)=c1
  generalize t.all ok=c2
  cases ok x<;>cases c1<;>cases c2<;>rfl
theorem Pv {β:Type}{g:β->List α}{N:Nat}{body:(List α->Option ρ)->β->Nat->List α->Option ρ}{K:List α->Option ρ} :∀{l:List β} {i:Nat} {v:List α},v.length+(l.flatMap g).length<=N->
  (∀next x i v,x∈l->v.length+(g x).length<=N->body next x i v=next (v++g x))->Ak K body l i v=K (v++l.flatMap g)
 | [],i,v,_,_=>by rw[List.flatMap_nil,List.append_nil];rfl
 | x::t,i,v,h,hb=>by
  rw[List.flatMap_cons,X11] at h
  show body (fun s=>Ak K body t (i+1) s) x i v=_
  rw[hb _ x i v (by simp) (by omega),Pv (l:=t) (by rw[X11];omega) fun next y j w hy hw=>hb next y j w (X19 _ hy) hw,List.flatMap_cons,List.append_assoc]
def canon (e lt:α->α->Bool)(l:List α):List α:=l.foldl (fun acc x=>if acc.any (fun y=>e y x) then acc else FY lt acc x) []
theorem Ub (e lt:α->α->Bool)(l:List α)(x:α):canon e lt (l++[x])=if (canon e lt l).any (fun y=>e y x) then canon e lt l else FY lt (canon e lt l) x:=by
 unfold canon
 rw[List.foldl_append]
 rfl
theorem PI {e lt:α->α->Bool}(he :∀a b,e a b=true↔a=b)(htr :∀a b c,lt a b=true->lt b c=true->lt a c=true)(htot :∀a b,lt a b=false->a=b\/lt b a=true)(l:List α) :
  (canon e lt l).Pairwise (fun a b=>lt a b=true)/\(∀x,x∈canon e lt l↔x∈l)/\(canon e lt l).length<=l.length:=by
 rw[<- List.reverse_reverse l]
 generalize l.reverse=m
 induction m with
 | nil=>exact⟨.nil,by simp[canon],by simp[canon]⟩
 | cons x t ih=>
  obtain⟨h1,h2,h3⟩:=ih
  rw[List.reverse_cons,Ub]
  by_cases hx:(canon e lt t.reverse).any (fun y=>e y x)=true
  ·rw[if_pos hx]
   obtain⟨y,hy,hyx⟩:=List.any_eq_true.1 hx
   have:=(he _ _).1 hyx
   subst this
   refine⟨h1,fun z=>?_,by simp only[X11];omega⟩
   rw[X23,h2 z,X14]
   refine⟨.inl,fun q=>q.elim id fun e=>?_⟩
   rw[e];exact (h2 _).1 hy
  rw[if_neg hx]
  have hx:x∉canon e lt t.reverse:=fun q=>hx (List.any_eq_true.2 ⟨x,q,(he _ _).2 rfl⟩)
  refine⟨HA htr htot h1 hx,fun z=>?_,by rw[Fo];simp only[X11,X22];omega⟩
  rw[Ea,X23,h2 z,X14]
end
end Go.AX
end
section
namespace Go.AX.Q19
open Go Go.AX
theorem JY (a b:Int):cmp_Compare_int a b=some (WW a b):=by
 unfold cmp_Compare_int cmp_isNaN_int WW
 simp only[AC,bne_self_eq_false,Bool.false_eq_true,if_false,decide_eq_true_eq,gt_iff_lt]
 split<;>(try split)<;>rfl
theorem W1 (l:List Int):FP l=some (orI l):=by
 unfold FP
 rw[AH]
 have key :∀(l:List Int) (i:Nat),Ak (σ:=Unit) (fun _=>some (0:Int)) (fun next x _ _=>if (x != 0)=true then some x else next ()) l i ()=some (orI l):=by
  intro l
  induction l with
  | nil=>intro i;rfl
  | cons x t ih=>
   intro i
   show (if (x != 0)=true then some x else Ak _ _ t (i+1) ())=_
   rw[ih]
   rw[S7]
   by_cases h:x=0<;>simp[h]
 exact key l 0
def Q6 (c:JAB):List Int:=[c.A,c.B]
def Ro (c:JAF):List Int:=[c.A,c.B,c.C]
theorem SJ (a b:JAB):(Q6 a).length=(Q6 b).length:=rfl
theorem TD (a b:JAF):(Ro a).length=(Ro b).length:=rfl
theorem W8 {a b:JAB}(h:Q6 a=Q6 b):a=b:=by
 simp only[Q6,List.cons.injEq,and_true] at h
 cases a;cases b;simp_all
theorem XT {a b:JAF}(h:Ro a=Ro b):a=b:=by
 simp only[Ro,List.cons.injEq,and_true] at h
 cases a;cases b;simp_all
def Ji:JAB->JAB->Bool:=ltK Q6
def Jf:JAF->JAF->Bool:=ltK Ro
theorem Q4 (a b c:JAB)(h1:Ji a b=true)(h2:Ji b c=true):Ji a c=true:=Lp SJ a b c h1 h2
theorem Q8 (a b c:JAF)(h1:Jf a b=true)(h2:Jf b c=true):Jf a c=true:=Lp TD a b c h1 h2
theorem TW (a b:JAB)(h:Ji a b=false):a=b\/Ji b a=true:=(LD SJ a b h).imp_left W8
theorem SV (a b:JAF)(h:Jf a b=false):a=b\/Jf b a=true:=(LD TD a b h).imp_left XT
theorem Zb (a b:JAB):JAB.eqd a b=true↔a=b:=by
 unfold JAB.eqd
 simp only[X27,Bool.and_true,beq_iff_eq]
 constructor
 ·rintro⟨h1,h2⟩;cases a;cases b;simp_all
 rintro rfl;exact⟨rfl,rfl⟩
theorem ZL (a b:JAF):JAF.eqd a b=true↔a=b:=by
 unfold JAF.eqd
 simp only[X27,Bool.and_true,beq_iff_eq]
 constructor
 ·rintro⟨h1,h2,h3⟩;cases a;cases b;simp_all
 rintro rfl;exact⟨rfl,rfl,rfl⟩
theorem XB (a b:JAB):DI a b=some (Ef (Q6 a) (Q6 b)):=by
 unfold DI
 rw[JY,AC,JY,AC,W1,AC,KY,KY]
 rfl
theorem Xe (a b:JAF):Bg a b=some (Ef (Ro a) (Ro b)):=by
 unfold Bg
 rw[JY,AC,JY,AC,JY,AC,W1,AC,KY,KY,KY]
 rfl
theorem TQ (a b:JAB):Dj a b=some (Ji a b):=by
 unfold Dj Ji ltK Q6
 rw[AH]
 simp only[Ef,decide_eq_true_eq,beq_iff_eq,cond_true,cond_false]
 by_cases a1:a.A < b.A<;>by_cases a2:a.A=b.A<;>by_cases a3:b.A < a.A<;>by_cases b1:a.B < b.B<;>by_cases b3:b.B < a.B<;>first | (exfalso;omega)|simp[a1,a2,a3,b1,b3]
theorem TA (a b:JAF):BQ a b=some (Jf a b):=by
 unfold BQ Jf ltK Ro
 simp only[AH]
 simp only[Ef,decide_eq_true_eq,beq_iff_eq,cond_true,cond_false]
 by_cases a1:a.A < b.A<;>by_cases a2:a.A=b.A<;>by_cases a3:b.A < a.A<;>by_cases b1:a.B < b.B<;>by_cases b2:a.B=b.B<;>by_cases b3:b.B < a.B<;>by_cases c1:a.C < b.C<;>by_cases c3:b.C < a.C<;>first | (exfalso;omega)|simp[a1,a2,a3,b1,b2,b3,c1,c3]
def inR (m x:Int):Bool:=decide (0<=x)&&decide (x<=m)
def okC (c:JAB):Bool:=inR 65535 c.A&&inR 65535 c.B
def okL (c:JAF):Bool:=inR 4294967295 c.A&&(inR 4294967295 c.B&&inR 4294967295 c.C)
theorem QG (c:JAB):Df c=some (okC c):=by
 unfold Df okC inR
 rw[AH]
 simp only[decide_eq_true_eq,cond_true,ge_iff_le]
 by_cases a1:0<=c.A<;>by_cases a2:c.A<=65535<;>by_cases a3:0<=c.B<;>by_cases a4:c.B<=65535<;>simp[a1,a2,a3,a4]
theorem Qa (c:JAF):BU c=some (okL c):=by
 unfold BU okL inR
 rw[AH]
 simp only[decide_eq_true_eq,cond_true,ge_iff_le]
 by_cases a1:0<=c.A<;>by_cases a2:c.A<=4294967295<;>by_cases a3:0<=c.B<;>by_cases a4:c.B<=4294967295<;>by_cases a5:0<=c.C<;>by_cases a6:c.C<=4294967295<;>simp[a1,a2,a3,a4,a5,a6]
theorem mmR {g:Int->Int->Int}{x:Int}{t:List Int}(hl:t.length<=1000000000) :
  AI (τ:=Int) (fun k2=>A1 (σ:=Int×Int) (fun next3 p=>match p with
   | (v4,v5)=>if (decide (v5<((x::t).length:Int)))=true then Option.bind (geti (x::t) v5) fun v6=>next3 (g v4 v6,(AS (v5+1))) else k2 v4) fuel (x,1)) (fun v=>some v)=some (t.foldl g x):=by
 rw[AH]
 refine (Dz (fun s:Int×Int=>∃j:Nat,s.2=(j+1:Nat)/\j<=t.length) (fun s=>((x::t).length-s.2).toNat) (fun s=>some ((t.drop (s.2.toNat-1)).foldl g s.1)) ?_ fuel (x,1) ⟨0,rfl,Nat.zero_le _⟩ (Be (by simp;omega))).trans rfl
 rintro next ⟨m,i⟩ ⟨j,h1,h2⟩ hn
 dsimp only at h1
 subst h1
 dsimp only
 have e1:((j+1:Nat):Int).toNat-1=j:=by omega
 rw[e1]
 by_cases hj:j<t.length
 ·rw[if_pos (by simp only[X12,decide_eq_true_eq];omega),Dw (by simp;omega),AC,AQ (by omega)]
  rw[hn _ ⟨j+1,by simp,by omega⟩ (by simp only[X12];omega)]
  have e2:(((j+1:Nat):Int)+1).toNat-1=j+1:=by omega
  simp only[e2,List.getElem_cons_succ]
  rw[List.drop_eq_getElem_cons hj,List.foldl_cons]
 rw[if_neg (by simp only[X12,decide_eq_true_eq];omega),List.drop_eq_nil_of_le (by omega)]
 rfl
def mn (a b:Int):Int:=if b<a then b else a
def mx (a b:Int):Int:=if b > a then b else a
theorem ZR {x:Int}{t:List Int}(hl:t.length<=1000000000):Cf (x::t)=some (t.foldl mn x):=by
 unfold Cf
 rw[if_neg (by simp;omega),show geti (x::t) 0=some x from Dw (l:=x::t) (i:=0) (by simp),AC]
 exact mmR (g:=mn) hl
theorem ZT {x:Int}{t:List Int}(hl:t.length<=1000000000):CZ (x::t)=some (t.foldl mx x):=by
 unfold CZ
 rw[if_neg (by simp;omega),show geti (x::t) 0=some x from Dw (l:=x::t) (i:=0) (by simp),AC]
 exact mmR (g:=mx) hl
theorem XR (n:Int) :∀(t:List Int) (x:Int),decide (n<=t.foldl mn x)=(x::t).all fun y=>decide (n<=y)
 | [],x=>by rw[List.all_cons,List.all_nil,Bool.and_true];rfl
 | y::t,x=>by
  rw[List.foldl_cons,XR n t (mn x y)]
  simp only[List.all_cons]
  unfold mn
  rw[X28]
  simp only[X27,decide_eq_true_eq]
  constructor
  ·rintro⟨h1,h2⟩;split at h1<;>exact⟨by omega,by omega,h2⟩
  rintro⟨h1,h2,h3⟩;split<;>exact⟨by omega,h3⟩
theorem Xi (n:Int) :∀(t:List Int) (x:Int),decide (t.foldl mx x<=n)=(x::t).all fun y=>decide (y<=n)
 | [],x=>by rw[List.all_cons,List.all_nil,Bool.and_true];rfl
 | y::t,x=>by
  rw[List.foldl_cons,Xi n t (mx x y)]
  simp only[List.all_cons]
  unfold mx
  rw[X28]
  simp only[X27,decide_eq_true_eq]
  constructor
  ·rintro⟨h1,h2⟩;split at h1<;>exact⟨by omega,by omega,h2⟩
  rintro⟨h1,h2,h3⟩;split<;>exact⟨by omega,h3⟩
theorem OW {m x:Int}{t:List Int}(hl:t.length<=1000000000):CV m (x::t)=some ((x::t).all (inR m)):=by
 unfold CV
 rw[AH,ZR hl,AC,ZT hl]
 have e:(x::t).all (inR m)=(decide (0<=t.foldl mn x)&&decide (t.foldl mx x<=m)):=by
  rw[XR,Xi,X28,X27]
  simp only[List.all_eq_true,inR,X27]
  exact⟨fun h=>⟨fun y hy=>(h y hy).1,fun y hy=>(h y hy).2⟩,fun h y hy=>⟨h.1 y hy,h.2 y hy⟩⟩
 rw[e]
 by_cases h:0<=t.foldl mn x
 ·rw[if_pos (by simpa using h),AC,decide_eq_true h];rfl
 rw[if_neg (by simpa using h),decide_eq_false h];rfl
theorem Xy (c:JAB):EI c=some (okC c):=by
 unfold EI
 rw[OW (by simp),AC]
 simp[okC]
theorem XF (c:JAF):CL c=some (okL c):=by
 unfold CL
 rw[OW (by simp),AC]
 simp[okL]
def D1 (l:List JAB):Bool:=l.all okC&&chainB Ji l&&decide (l.length<=64)
def D3 (l:List JAF):Bool:=l.all okL&&chainB Jf l&&decide (l.length<=64)
theorem Yj {X:Type}{key:X->List Int}(a b:X):decide (Ef (key a) (key b) ≥ 0)=!ltK key a b:=by
 unfold ltK
 rw[X28]
 simp
theorem YV {α:Type}{ok:α->Bool}{lt:α->α->Bool}{l:List α}(hl:l.length<=1000000000){body:(Unit->Option Bool)->α->Nat->Unit->Option Bool}
  (h :∀next x i,body next x i ()=AI (τ:=Bool) (fun k5=>Option.bind (some (ok x)) fun v6=>if (!v6)=true then k5 true else if (decide ((i:Int) > 0))=true then Option.bind (geti l (AS ((i:Int)-1))) fun v7=>Option.bind (some (lt v7 x)) fun v8=>k5 (cond false true (cond true (!v8) false)) else k5 false) fun v9=>if v9=true then some false else next ()) :
  (AI (τ:=Unit) (fun k1=>Ak (σ:=Unit) (fun _=>k1 ()) body l 0 ()) fun _=>some (decide ((l.length:Int)<=64)))=some (l.all ok&&chainB lt l&&decide (l.length<=64)):=by
 rw[AH,YB (ok:=ok) (lt:=lt) (F:=some false) (by omega)]
 ·have e:decide ((l.length:Int)<=64)=decide (l.length<=64):=by rw[X28];simp;omega
  rw[e]
  generalize (l.all ok&&chainB lt l)=b
  cases b<;>rfl
 ·intro next x _
  rw[h,AH,AC]
  cases ok x<;>rfl
 intro next x y i _ _ hg
 rw[h,AH,AC,hg,AC,AC,if_pos (show decide (((i+1:Nat):Int) > 0)=true by simp)]
 cases ok x<;>cases lt y x<;>rfl
theorem JJ {l:List JAB}(hl:l.length<=1000000000):EL l=some (D1 l):=by
 unfold EL D1
 exact YV hl fun next x i=>by simp only[QG,TQ]
theorem GK {l:List JAF}(hl:l.length<=1000000000):Bw l=some (D3 l):=by
 unfold Bw D3
 exact YV hl fun next x i=>by simp only[Qa,TA]
theorem KA {l:List JAB}(hl:l.length<=1000000000):C3 l=some (D1 l):=by
 unfold C3 Ad D1
 rw[YV (ok:=okC) (lt:=Ji) hl fun next x i=>by simp only[Xy,XB,AC,Yj];rfl]
 rfl
theorem Hn {l:List JAF}(hl:l.length<=1000000000):BW l=some (D3 l):=by
 unfold BW AW D3
 rw[YV (ok:=okL) (lt:=Jf) hl fun next x i=>by simp only[XF,Xe,AC,Yj];rfl]
 rfl
theorem Eg {l:List JAB}:D1 l=true↔(∀c∈l,okC c=true)/\(l.Pairwise fun a b=>Ji a b=true)/\l.length<=64:=by
 unfold D1
 rw[X27,X27,HW Q4,List.all_eq_true,decide_eq_true_eq,and_assoc]
theorem Em {l:List JAF}:D3 l=true↔(∀c∈l,okL c=true)/\(l.Pairwise fun a b=>Jf a b=true)/\l.length<=64:=by
 unfold D3
 rw[X27,X27,HW Q8,List.all_eq_true,decide_eq_true_eq,and_assoc]
theorem Y1 {α:Type}{e:α->α->Bool}{x:α} :∀(l:List α) (i:Nat),Ak (σ:=Unit) (fun _=>some false) (fun (next:Unit->Option Bool) (y:α) _ _=>if e y x=true then some true else next ()) l i ()=some (l.any fun y=>e y x)
 | [],_=>rfl
 | y::t,i=>by
  show (if e y x=true then some true else Ak _ _ t (i+1) ())=_
  rw[Y1 t (i+1),List.any_cons]
  cases e y x<;>rfl
theorem RI (l:List JAB)(c:JAB):FS l c=some (l.any fun y=>JAB.eqd y c):=by
 unfold FS
 rw[AH]
 exact Y1 l 0
theorem K2 (l:List JAF)(c:JAF):Ce l c=some (l.any fun y=>JAF.eqd y c):=by
 unfold Ce
 rw[AH]
 exact Y1 l 0
theorem Ge {α:Type}{l:List α}{n:Nat}(h:n<=l.length):part l 0 (n:Int)=some (l.take n):=by
 have:=Il (l:=l) (a:=0) (b:=n) (by omega) h
 simpa using this
theorem Oe {α:Type}{l:List α}{n:Nat}(h:n<=l.length):part l (n:Int) (l.length:Int)=some (l.drop n):=by
 rw[Il h (Nat.le_refl _),List.take_of_length_le (by simp)]
theorem PK {α:Type}{b:Nat}{lt:α->α->Bool}{l:List α}{x:α}(hb:Nat.ble b 65536=true)(hl:l.length+1<=1000000000){ρ:Type}{K:List α->Option ρ} :
  (Option.bind (part l 0 ((l.takeWhile (lt · x)).length:Int)) fun v14=>Option.bind (apnd (α:=α) b [] v14) fun _=>Option.bind (apnd (α:=α) b v14 ([x]:List α)) fun v15=>Option.bind (part l ((l.takeWhile (lt · x)).length:Int) (l.length:Int)) fun v16=>Option.bind (apnd (α:=α) b v15 v16) K)=K (FY lt l x):=by
 have ht:=FR (lt · x) l
 obtain⟨h1,h2⟩:=takeWhile_take (lt · x) l
 rw[Ge (by omega),AC,AP hb (by simp;omega),AC,AP hb (by simp;omega),AC,Oe (by omega),AC,AP hb (by simp;omega),AC,h1,h2]
 unfold FY
 simp
def Xn:List JAB->List JAB:=canon JAB.eqd Ji
def Xw:List JAF->List JAF:=canon JAF.eqd Jf
theorem RB {l:List JAB}{c:JAB}(hv:D1 l=true)(hc:okC c=true)(hl:l.length<64):Ho l c=some (if l.any (fun y=>JAB.eqd y c)=true then l else FY Ji l c,0):=by
 unfold Ho
 rw[AH,JJ (by omega),AC,hv,if_neg (by decide),QG,AC,hc]
 show (if (bif false then true else !true)=true then _ else _)=_
 rw[if_neg (by decide),RI,AC]
 by_cases h:(l.any fun y=>JAB.eqd y c)=true
 ·rw[if_pos h,if_pos h,AP (by decide) (by simp;omega),AC]
 rw[if_neg h,if_neg h,if_neg (by simp;omega)]
 rw[YD (p:=(Ji · c)) (fun y k9=>Option.bind (Dj y c) fun v11=>k9 (cond true v11 false)) (by omega) (fun y _ k=>by rw[TQ];rfl)]
 exact PK (K:=fun v17=>some (v17,0)) (by decide) (by omega)
theorem Kz {l:List JAF}{c:JAF}(hv:D3 l=true)(hc:okL c=true)(hl:l.length<64):EF l c=some (if l.any (fun y=>JAF.eqd y c)=true then l else FY Jf l c,0):=by
 unfold EF
 rw[AH,GK (by omega),AC,hv,if_neg (by decide),Qa,AC,hc]
 show (if (bif false then true else !true)=true then _ else _)=_
 rw[if_neg (by decide),K2,AC]
 by_cases h:(l.any fun y=>JAF.eqd y c)=true
 ·rw[if_pos h,if_pos h,AP (by decide) (by simp;omega),AC]
 rw[if_neg h,if_neg h,if_neg (by simp;omega)]
 rw[YD (p:=(Jf · c)) (fun y k9=>Option.bind (BQ y c) fun v11=>k9 (cond true v11 false)) (by omega) (fun y _ k=>by rw[TA];rfl)]
 exact PK (K:=fun v17=>some (v17,0)) (by decide) (by omega)
theorem Vj (l:List JAB):(Xn l).Pairwise (fun a b=>Ji a b=true)/\(∀x,x∈Xn l↔x∈l)/\(Xn l).length<=l.length:=PI Zb Q4 TW l
theorem WS (l:List JAF):(Xw l).Pairwise (fun a b=>Jf a b=true)/\(∀x,x∈Xw l↔x∈l)/\(Xw l).length<=l.length:=PI ZL Q8 SV l
theorem Uu {l:List JAB}(h :∀c∈l,okC c=true)(hl:l.length<=64):D1 (Xn l)=true:=by
 obtain⟨h1,h2,h3⟩:=Vj l
 exact Eg.2 ⟨fun c hc=>h c ((h2 c).1 hc),h1,by omega⟩
theorem UV {l:List JAF}(h :∀c∈l,okL c=true)(hl:l.length<=64):D3 (Xw l)=true:=by
 obtain⟨h1,h2,h3⟩:=WS l
 exact Em.2 ⟨fun c hc=>h c ((h2 c).1 hc),h1,by omega⟩
def comms:List UInt8->List JAB
 | a::b::c::d::t=>⟨If [a,b],If [c,d]⟩::comms t
 | _=>[]
def G0:List Int->List JAF
 | a::b::c::t=>⟨a,b,c⟩::G0 t
 | _=>[]
theorem Om (a b c d:UInt8)(t:List UInt8):comms (a::b::c::d::t)=⟨If [a,b],If [c,d]⟩::comms t:=rfl
theorem NJ (a b c:Int)(t:List Int):G0 (a::b::c::t)=⟨a,b,c⟩::G0 t:=rfl
theorem Qo :∀l:List UInt8,(comms l).length=l.length/4
 | a::b::c::d::t=>by
  rw[Om,X12,Qo t]
  simp only[X12]
  omega
 | []=>rfl
 | [_]=>by simp[comms]
 | [_,_]=>by simp[comms]
 | [_,_,_]=>by simp[comms]
theorem OG :∀l:List Int,(G0 l).length=l.length/3
 | a::b::c::t=>by
  rw[NJ,X12,OG t]
  simp only[X12]
  omega
 | []=>rfl
 | [_]=>by simp[G0]
 | [_,_]=>by simp[G0]
theorem TY (a b:UInt8):0<=If [a,b]/\If [a,b]<=65535:=by
 have:=PL [a,b]
 rw[Nu (by simp)]
 simp only[X12,X13] at this
 omega
theorem SC :∀(l:List UInt8),∀c∈comms l,okC c=true
 | a::b::c::d::t=>by
  rw[Om]
  intro x hx
  rcases List.mem_cons.1 hx with rfl | hx
  ·have h1:=TY a b
   have h2:=TY c d
   simp[okC,inR,h1,h2]
  exact SC t x hx
 | []=>by intro n h;simp[comms] at h
 | [_]=>by intro n h;simp[comms] at h
 | [_,_]=>by intro n h;simp[comms] at h
 | [_,_,_]=>by intro n h;simp[comms] at h
theorem QR :∀(l:List Int),(∀n∈l,0<=n/\n<=4294967295)->∀c∈G0 l,okL c=true
 | a::b::c::t,h=>by
  rw[NJ]
  intro x hx
  rcases List.mem_cons.1 hx with rfl | hx
  ·have h1:=h a (by simp)
   have h2:=h b (by simp)
   have h3:=h c (by simp)
   simp[okL,inR,h1,h2,h3]
  exact QR t (fun n hn=>h n (by simp[hn])) x hx
 | [],_=>by intro n h;simp[G0] at h
 | [_],_=>by intro n h;simp[G0] at h
 | [_,_],_=>by intro n h;simp[G0] at h
end Go.AX.Q19
end
section
end
section
namespace Go.AX.Q19
open Go Go.AX
def UM (p:List JAE):Bool:=(EC p).getD false
def Sz (d:List UInt8):Option Int:=if d.length=1/\If d<=2 then some (If d) else none
def XS (d:List UInt8):Option (List JAE):=(rdL d []).bind fun p=>if UM p=true then some p else none
def addrOf (d:List UInt8):Addr:=((FG d).getD (⟨false,0,0⟩,0)).1
def Wv (d:List UInt8):Option Addr:=if d.length=4 then some (addrOf d) else none
def rd4 (d:List UInt8):Option Int:=if d.length=4 then some (If d) else none
def Ym (d:List UInt8):Option Int:=if d.length=4/\If d≠0 then some (If d) else none
def WY (d:List UInt8):Option (List JAB):=if d.length≠0/\d.length%4=0/\d.length/4<=64 then some (Xn (comms d)) else none
def VN (d:List UInt8):Option (List JAF):=if d.length≠0/\d.length%12=0/\d.length/12<=64 then some (Xw (G0 (nums d))) else none
def W5 (a:JAC)(t:Int)(d:List UInt8):Option JAC:=
 if t=1 then (Sz d).map fun v=>{ a with Origin:=v } else
 if t=2 then (XS d).map fun v=>{ a with Path:=v } else
 if t=3 then (Wv d).map fun v=>{ a with Next:=v } else
 if t=4 then (rd4 d).map fun v=>{ a with MED:=v } else
 if t=5 then (rd4 d).map fun v=>{ a with Pref:=v } else
 if t=8 then (WY d).map fun v=>{ a with Communities:=v } else
 if t=32 then (VN d).map fun v=>{ a with JAF:=v } else
 if t=35 then (Ym d).map fun v=>{ a with OTC:=v } else some a
def stepS (a:JAC)(x:JAA):Option JAC:=if fl x.Type_=0 then some a else if ZW x=true then W5 a x.Type_ x.Data else none
instance (a0:List UInt8):Tt (FG a0):=by unfold FG;exact Tt.auto
theorem MK {d:List UInt8}(h:d.length=4):0<=If d/\If d<=4294967295:=by
 have:=PL d
 rw[Nu (by omega)]
 rw[h] at this
 omega
section
variable {ρ:Type} {F:Option ρ} {next:Int×Bool×UInt64×UInt64×Int×Int×Int×(List JAE)×(List JAB)×(List JAF)->Option ρ} {x:JAA} {a:JAC}
end
end Go.AX.Q19
end
