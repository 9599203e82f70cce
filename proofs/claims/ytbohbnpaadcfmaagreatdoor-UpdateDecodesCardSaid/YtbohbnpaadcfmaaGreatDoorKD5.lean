/-
  Texts of one proof, packed.
-/
import Derived.Test.YtbohbnpaadcfmaaGreatDoorKD4
import Derived.LaidSub
import Derived.Test.YtbohbnpaadcfmaaGreatDoorRows
set_option linter.all false
set_option maxRecDepth 100000
set_option maxHeartbeats 4000000
open List renaming length_append→X11,length_cons→X12,length_nil→X13,mem_singleton→X14,getElem?_eq_some_iff→X16,mem_cons_of_mem→X19,length_set→X21
open Option.some renaming inj→X25
open Prod.mk renaming injEq→X26
section
namespace Go.AX.Q19
open Go Go.AX
noncomputable section
def Du:List (Int×Int):=[(1,64),(2,64),(3,64),(4,128),(5,64),(8,192),(32,192),(35,192)]
structure JAI where
  L:List Int
  At:Int
def JAI.toD (x:JAI):D:=.agg [D.l 1 D.i x.L,D.i x.At]
def JAI.av (x:JAI):List AV:=[.d (D.l 1 D.i x.L),.d (D.i x.At)]
def JAI.zv:List AV:=[.d (D.nil 1),.d (D.i 0)]
def JAI.wf (x:JAI):Prop:=(x.L.length<=maxLen/\x.L.length*8<=reachBytes/\∀y0∈x.L,I64 y0)/\I64 x.At/\True
structure JAD where
  Set:Bool
  ASNs:List Int
def JAD.toD (x:JAD):D:=.agg [D.b x.Set,D.l 1 D.i x.ASNs]
def JAD.av (x:JAD):List AV:=[.d (D.b x.Set),.d (D.l 1 D.i x.ASNs)]
def JAD.zv:List AV:=[.d (D.b false),.d (D.nil 1)]
def JAD.wf (x:JAD):Prop:=True/\(x.ASNs.length<=maxLen/\x.ASNs.length*8<=reachBytes/\∀y0∈x.ASNs,I64 y0)/\True
structure Addr where
  V6:Bool
  Hi:UInt64
  Lo:UInt64
def Addr.toD (x:Addr):D:=.agg [D.b x.V6,D.u64 x.Hi,D.u64 x.Lo]
def Addr.av (x:Addr):List AV:=[.d (D.b x.V6),.d (D.u64 x.Hi),.d (D.u64 x.Lo)]
def Addr.zv:List AV:=[.d (D.b false),.d (D.u64 (0:UInt64)),.d (D.u64 (0:UInt64))]
def Addr.wf (x:Addr):Prop:=True/\True/\True/\True
def Addr.eqd (x y:Addr):Bool:=((x.V6==y.V6)&&(((x.Hi.toNat:Int)==(y.Hi.toNat:Int))&&(((x.Lo.toNat:Int)==(y.Lo.toNat:Int))&&true)))
structure JAB where
  A:Int
  B:Int
def JAB.toD (x:JAB):D:=.agg [D.i x.A,D.i x.B]
def JAB.av (x:JAB):List AV:=[.d (D.i x.A),.d (D.i x.B)]
def JAB.zv:List AV:=[.d (D.i 0),.d (D.i 0)]
def JAB.wf (x:JAB):Prop:=I64 x.A/\I64 x.B/\True
def JAB.eqd (x y:JAB):Bool:=((x.A==y.A)&&((x.B==y.B)&&true))
structure JAF where
  A:Int
  B:Int
  C:Int
def JAF.toD (x:JAF):D:=.agg [D.i x.A,D.i x.B,D.i x.C]
def JAF.av (x:JAF):List AV:=[.d (D.i x.A),.d (D.i x.B),.d (D.i x.C)]
def JAF.zv:List AV:=[.d (D.i 0),.d (D.i 0),.d (D.i 0)]
def JAF.wf (x:JAF):Prop:=I64 x.A/\I64 x.B/\I64 x.C/\True
def JAF.eqd (x y:JAF):Bool:=((x.A==y.A)&&((x.B==y.B)&&((x.C==y.C)&&true)))
structure JAA where
  Flags:Int
  Type_:Int
  Data:List UInt8
def JAA.toD (x:JAA):D:=.agg [D.i x.Flags,D.i x.Type_,D.l 1 D.u8 x.Data]
def JAA.av (x:JAA):List AV:=[.d (D.i x.Flags),.d (D.i x.Type_),.d (D.l 1 D.u8 x.Data)]
def JAA.zv:List AV:=[.d (D.i 0),.d (D.i 0),.d (D.nil 1)]
def JAA.wf (x:JAA):Prop:=I64 x.Flags/\I64 x.Type_/\(x.Data.length<=maxLen/\x.Data.length*1<=reachBytes/\∀y0∈x.Data,True)/\True
structure JAE where
  Origin:Int
  Path:List JAD
  Next:Addr
  MED:Int
  Pref:Int
  OTC:Int
  Communities:List JAB
  JAF:List JAF
  Other:List JAA
def JAE.toD (x:JAE):D:=.agg [D.i x.Origin,D.l 2 JAD.toD x.Path,D.b x.Next.V6,D.u64 x.Next.Hi,D.u64 x.Next.Lo,D.i x.MED,D.i x.Pref,D.i x.OTC,D.l 2 JAB.toD x.Communities,D.l 3 JAF.toD x.JAF,D.l 3 JAA.toD x.Other]
def JAE.av (x:JAE):List AV:=[.d (D.i x.Origin),.d (D.l 2 JAD.toD x.Path),.d (D.b x.Next.V6),.d (D.u64 x.Next.Hi),.d (D.u64 x.Next.Lo),.d (D.i x.MED),.d (D.i x.Pref),.d (D.i x.OTC),.d (D.l 2 JAB.toD x.Communities),.d (D.l 3 JAF.toD x.JAF),.d (D.l 3 JAA.toD x.Other)]
def JAE.zv:List AV:=[.d (D.i 0),.d (D.nil 2),.d (D.b false),.d (D.u64 (0:UInt64)),.d (D.u64 (0:UInt64)),.d (D.i 0),.d (D.i 0),.d (D.i 0),.d (D.nil 2),.d (D.nil 3),.d (D.nil 3)]
def JAE.wf (x:JAE):Prop:=I64 x.Origin/\(x.Path.length<=maxLen/\x.Path.length*32<=reachBytes/\∀y0∈x.Path,JAD.wf y0)/\Addr.wf x.Next/\I64 x.MED/\I64 x.Pref/\I64 x.OTC/\(x.Communities.length<=maxLen/\x.Communities.length*16<=reachBytes/\∀y0∈x.Communities,JAB.wf y0)/\(x.JAF.length<=maxLen/\x.JAF.length*24<=reachBytes/\∀y0∈x.JAF,JAF.wf y0)/\(x.Other.length<=maxLen/\x.Other.length*40<=reachBytes/\∀y0∈x.Other,JAA.wf y0)/\True
structure JAC where
  Addr:Addr
  Len:Int
def JAC.toD (x:JAC):D:=.agg [D.b x.Addr.V6,D.u64 x.Addr.Hi,D.u64 x.Addr.Lo,D.i x.Len]
def JAC.av (x:JAC):List AV:=[.d (D.b x.Addr.V6),.d (D.u64 x.Addr.Hi),.d (D.u64 x.Addr.Lo),.d (D.i x.Len)]
def JAC.zv:List AV:=[.d (D.b false),.d (D.u64 (0:UInt64)),.d (D.u64 (0:UInt64)),.d (D.i 0)]
def JAC.wf (x:JAC):Prop:=Addr.wf x.Addr/\I64 x.Len/\True
def JAC.eqd (x y:JAC):Bool:=(((x.Addr.V6==y.Addr.V6)&&(((x.Addr.Hi.toNat:Int)==(y.Addr.Hi.toNat:Int))&&(((x.Addr.Lo.toNat:Int)==(y.Addr.Lo.toNat:Int))&&true)))&&((x.Len==y.Len)&&true))
structure JAG where
  Withdraw:List JAC
  JAE:JAE
  Announce:List JAC
def JAG.toD (x:JAG):D:=.agg [D.l 4 JAC.toD x.Withdraw,D.i x.JAE.Origin,D.l 2 JAD.toD x.JAE.Path,D.b x.JAE.Next.V6,D.u64 x.JAE.Next.Hi,D.u64 x.JAE.Next.Lo,D.i x.JAE.MED,D.i x.JAE.Pref,D.i x.JAE.OTC,D.l 2 JAB.toD x.JAE.Communities,D.l 3 JAF.toD x.JAE.JAF,D.l 3 JAA.toD x.JAE.Other,D.l 4 JAC.toD x.Announce]
def JAG.av (x:JAG):List AV:=[.d (D.l 4 JAC.toD x.Withdraw),.d (D.i x.JAE.Origin),.d (D.l 2 JAD.toD x.JAE.Path),.d (D.b x.JAE.Next.V6),.d (D.u64 x.JAE.Next.Hi),.d (D.u64 x.JAE.Next.Lo),.d (D.i x.JAE.MED),.d (D.i x.JAE.Pref),.d (D.i x.JAE.OTC),.d (D.l 2 JAB.toD x.JAE.Communities),.d (D.l 3 JAF.toD x.JAE.JAF),.d (D.l 3 JAA.toD x.JAE.Other),.d (D.l 4 JAC.toD x.Announce)]
def JAG.zv:List AV:=[.d (D.nil 4),.d (D.i 0),.d (D.nil 2),.d (D.b false),.d (D.u64 (0:UInt64)),.d (D.u64 (0:UInt64)),.d (D.i 0),.d (D.i 0),.d (D.i 0),.d (D.nil 2),.d (D.nil 3),.d (D.nil 3),.d (D.nil 4)]
def JAG.wf (x:JAG):Prop:=(x.Withdraw.length<=maxLen/\x.Withdraw.length*32<=reachBytes/\∀y0∈x.Withdraw,JAC.wf y0)/\JAE.wf x.JAE/\(x.Announce.length<=maxLen/\x.Announce.length*32<=reachBytes/\∀y0∈x.Announce,JAC.wf y0)/\True
structure JAH where
  attrs:List JAA
  next:Addr
  gone4:List JAC
  gone6:List JAC
  new4:List JAC
  new6:List JAC
def JAH.toD (x:JAH):D:=.agg [D.l 3 JAA.toD x.attrs,D.b x.next.V6,D.u64 x.next.Hi,D.u64 x.next.Lo,D.l 4 JAC.toD x.gone4,D.l 4 JAC.toD x.gone6,D.l 4 JAC.toD x.new4,D.l 4 JAC.toD x.new6]
def JAH.av (x:JAH):List AV:=[.d (D.l 3 JAA.toD x.attrs),.d (D.b x.next.V6),.d (D.u64 x.next.Hi),.d (D.u64 x.next.Lo),.d (D.l 4 JAC.toD x.gone4),.d (D.l 4 JAC.toD x.gone6),.d (D.l 4 JAC.toD x.new4),.d (D.l 4 JAC.toD x.new6)]
def JAH.zv:List AV:=[.d (D.nil 3),.d (D.b false),.d (D.u64 (0:UInt64)),.d (D.u64 (0:UInt64)),.d (D.nil 4),.d (D.nil 4),.d (D.nil 4),.d (D.nil 4)]
def JAH.wf (x:JAH):Prop:=(x.attrs.length<=maxLen/\x.attrs.length*40<=reachBytes/\∀y0∈x.attrs,JAA.wf y0)/\Addr.wf x.next/\(x.gone4.length<=maxLen/\x.gone4.length*32<=reachBytes/\∀y0∈x.gone4,JAC.wf y0)/\(x.gone6.length<=maxLen/\x.gone6.length*32<=reachBytes/\∀y0∈x.gone6,JAC.wf y0)/\(x.new4.length<=maxLen/\x.new4.length*32<=reachBytes/\∀y0∈x.new4,JAC.wf y0)/\(x.new6.length<=maxLen/\x.new6.length*32<=reachBytes/\∀y0∈x.new6,JAC.wf y0)/\True
structure JAJ where
  Type_:Int
  Body:List UInt8
def JAJ.toD (x:JAJ):D:=.agg [D.i x.Type_,D.l 1 D.u8 x.Body]
def JAJ.av (x:JAJ):List AV:=[.d (D.i x.Type_),.d (D.l 1 D.u8 x.Body)]
def JAJ.zv:List AV:=[.d (D.i 0),.d (D.nil 1)]
def JAJ.wf (x:JAJ):Prop:=I64 x.Type_/\(x.Body.length<=maxLen/\x.Body.length*1<=reachBytes/\∀y0∈x.Body,True)/\True
def NI (a0:List Int):Option JAI:= some (⟨a0,0⟩:JAI)
def Ew:Option JAE:= some (⟨(-1),[],(⟨false,(0:UInt64),(0:UInt64)⟩:Addr),(-1),(-1),(-1),[],[],[]⟩:JAE)
def H2 (a0:Int)(a1:Int):Option Int:=
(chk (a1≠0)).bind fun _=> AC (τ:=Int) (fun k1=> if (decide ((Int.tmod a0 a1)<0)) then k1 (AD ((Int.tmod a0 a1)+a1)) else k1 (Int.tmod a0 a1)
) fun v2=> some v2
def AK (a0:JAI)(a1:Int):Option (Int×JAI):= if (decide (a0.At ≥ (a0.L.length:Int))) then some (0,a0) else
(geti a0.L (AD ((AD (a0.At+1))-1))).bind fun v1=>
(H2 v1 a1).bind fun v2=> some (v2,(⟨a0.L,(AD (a0.At+1))⟩:JAI))
def JC (a0:Int):Option Addr:= some (⟨false,(0:UInt64),(Ad (3221225984+((Ad (AD (1+a0))).toNat:Int)))⟩:Addr)
def KJ (a0:Int):Option Addr:= some (⟨true,(2306139568115548160:UInt64),(Ad (AD (1+a0)))⟩:Addr)
def DZ (a0:List JAD):Option Bool:= AC (τ:=Int) (fun k1=> Ak (σ:=Int) (fun v2=> k1 v2
) (fun next3 (x4:JAD) i5 v2=> AC (τ:=Unit) (fun k6=> AC (τ:=Bool) (fun k7=> if ((x4.ASNs.length:Int)==0) then k7 true else if (decide ((i5:Int) > 0)) then if (cond true (!x4.Set) false) then
(geti a0 (AD ((i5:Int)-1))).bind fun v8=> k7 (cond false true (cond true (!v8.Set) false)) else k7 false else k7 false
) fun v9=> if v9 then some false else AC (τ:=Unit) (fun k10=> Ak (σ:=Unit) (fun _=> k10 ()
) (fun next11 (x12:Int) i13 _=> AC (τ:=Bool) (fun k14=> if (decide (x12<1)) then k14 true else if (cond false true (decide (x12 > 4294967295))) then k14 true else if x4.Set then if (cond true (decide ((i13:Int) > 0)) false) then
(geti x4.ASNs (AD ((i13:Int)-1))).bind fun v15=> k14 (cond false true (cond true (decide (v15 ≥ x12)) false)) else k14 false else k14 false
) fun v16=> if v16 then some false else next11 ()
) x4.ASNs 0 ()
) fun _=> k6 ()
) fun _=> next3 (AD (v2+(x4.ASNs.length:Int)))
) a0 0 0
) fun v17=> some (decide (v17<=64))
def FO (a0:JAI):Option (Int×JAI):=
(AK a0 9).bind fun (v1,v2)=>
(AK v2 3).bind fun (v3,v4)=>
(AK v4 7).bind fun (v5,v6)=>
(geti ([1,7,3,65001,4294967295,(AD (1+v1)),(AD (64512+v3))]:List Int) v5).bind fun v7=> some (v7,v6)
def E3 (a0:JAI):Option ((List JAD)×JAI):=
(AK a0 4).bind fun (v1,v2)=> AC (τ:=JAI×(List JAD)) (fun k3=> Ao (σ:=Int×JAI×(List JAD)) (fun next4 (v5,v6,v7)=> if (decide (v5 > 0)) then AC (τ:=JAI×(List JAD)) (fun k8=> AC (τ:=Bool×JAI) (fun k9=> if (decide ((v7.length:Int) > 0)) then
(geti v7 (AD ((v7.length:Int)-1))).bind fun v10=> if (cond true (!v10.Set) false) then k9 (true,v6) else
(AK v6 5).bind fun (v11,v12)=> k9 ((cond false true (v11==4)),v12) else
(AK v6 5).bind fun (v13,v14)=> k9 ((cond false true (v13==4)),v14)
) fun (v15,v16)=>
(AK v16 4).bind fun (v17,v18)=> AC (τ:=JAI×(List Int)) (fun k19=> Ao (σ:=Int×JAI×(List Int)) (fun next20 (v21,v22,v23)=> if (decide (v21 > 0)) then AC (τ:=JAI×(List Int)) (fun k24=>
(FO v22).bind fun (v25,v26)=> if (!v15) then
(apnd (α:=Int) 8 v23 ([v25]:List Int)).bind fun v27=> k24 (v26,v27) else AC (τ:=Int) (fun k28=> Ao (σ:=Int) (fun next29 v30=> AC (τ:=Bool) (fun k31=> if (decide (v30<(v23.length:Int))) then
(geti v23 v30).bind fun v32=> k31 (cond true (decide (v32<v25)) false) else k31 false
) fun v33=> if v33 then next29 (AD (v30+1)) else k28 v30
) fuel 0
) fun v34=> AC (τ:=Bool) (fun k35=> if (v34==(v23.length:Int)) then k35 true else
(geti v23 v34).bind fun v36=> k35 (cond false true (v36 != v25))
) fun v37=> AC (τ:=(List Int)) (fun k38=> if v37 then
(chk (0<=(0:Int)/\(0:Int)<=v34/\v34<=(v23.length:Int))).bind fun _=>
(apnd (α:=Int) 8 [] (List.take (Int.toNat v34-Int.toNat 0) (List.drop (Int.toNat 0) v23))).bind fun _=>
(apnd (α:=Int) 8 (List.take (Int.toNat v34-Int.toNat 0) (List.drop (Int.toNat 0) v23)) ([v25]:List Int)).bind fun v39=>
(chk (0<=v34/\v34<=(v23.length:Int)/\(v23.length:Int)<=(v23.length:Int))).bind fun _=>
(apnd (α:=Int) 8 v39 (List.take (Int.toNat (v23.length:Int)-Int.toNat v34) (List.drop (Int.toNat v34) v23))).bind fun v40=> k38 v40 else k38 v23
) fun v41=> k24 (v26,v41)
) fun (v42,v43)=> next20 ((AD (v21-1)),v42,v43) else k19 (v22,v23)
) fuel ((AD (1+v17)),v18,[])
) fun (v44,v45)=>
(apnd (α:=JAD) 32 v7 ([(⟨v15,v45⟩:JAD)]:List JAD)).bind fun v46=>
(DZ v46).bind fun v47=> AC (τ:=(List JAD)) (fun k48=> if (!v47) then
(part v46 0 (AD ((v46.length:Int)-1))).bind fun v49=> k48 v49 else k48 v46
) fun v50=> k8 (v44,v50)
) fun (v51,v52)=> next4 ((AD (v5-1)),v51,v52) else k3 (v6,v7)
) fuel (v1,v2,[])
) fun (v53,v54)=> some (v54,v53)
def EN (a0:JAB):Option Bool:= AC (τ:=Bool) (fun k1=> if (decide (a0.A ≥ 0)) then if (cond true (decide (a0.A<=65535)) false) then if (cond true (decide (a0.B ≥ 0)) false) then k1 (cond true (decide (a0.B<=65535)) false) else k1 false else k1 false else k1 false
) fun v2=> some v2
def EP (a0:JAB)(a1:JAB):Option Bool:= AC (τ:=Bool) (fun k1=> if (decide (a0.A<a1.A)) then k1 true else if (a0.A==a1.A) then k1 (cond false true (cond true (decide (a0.B<a1.B)) false)) else k1 false
) fun v2=> some v2
def E2 (a0:List JAB):Option Bool:= AC (τ:=Unit) (fun k1=> Ak (σ:=Unit) (fun _=> k1 ()
) (fun next2 (x3:JAB) i4 _=> AC (τ:=Bool) (fun k5=>
(EN x3).bind fun v6=> if (!v6) then k5 true else if (decide ((i4:Int) > 0)) then
(geti a0 (AD ((i4:Int)-1))).bind fun v7=>
(EP v7 x3).bind fun v8=> k5 (cond false true (cond true (!v8) false)) else k5 false
) fun v9=> if v9 then some false else next2 ()
) a0 0 ()
) fun _=> some (decide ((a0.length:Int)<=64))
def Gh (a0:List JAB)(a1:JAB):Option Bool:= AC (τ:=Unit) (fun k1=> Ak (σ:=Unit) (fun _=> k1 ()
) (fun next2 (x3:JAB) i4 _=> if (JAB.eqd x3 a1) then some true else next2 ()
) a0 0 ()
) fun _=> some false
def Ff (a0:List JAB)(a1:JAB):Option ((List JAB)×Int):= AC (τ:=Bool) (fun k1=>
(E2 a0).bind fun v2=> if (!v2) then k1 true else
(EN a1).bind fun v3=> k1 (cond false true (!v3))
) fun v4=> if v4 then some ([],1) else
(Gh a0 a1).bind fun v5=> if v5 then
(apnd (α:=JAB) 16 [] a0).bind fun _=> some (a0,0) else if (decide ((a0.length:Int) ≥ 64)) then some ([],3) else AC (τ:=Int) (fun k6=> Ao (σ:=Int) (fun next7 v8=> AC (τ:=Bool) (fun k9=> if (decide (v8<(a0.length:Int))) then
(geti a0 v8).bind fun v10=>
(EP v10 a1).bind fun v11=> k9 (cond true v11 false) else k9 false
) fun v12=> if v12 then next7 (AD (v8+1)) else k6 v8
) fuel 0
) fun v13=>
(part a0 0 v13).bind fun v14=>
(apnd (α:=JAB) 16 [] v14).bind fun _=>
(apnd (α:=JAB) 16 v14 ([a1]:List JAB)).bind fun v15=>
(part a0 v13 (a0.length:Int)).bind fun v16=>
(apnd (α:=JAB) 16 v15 v16).bind fun v17=> some (v17,0)
def CU (a0:JAF):Option Bool:= AC (τ:=Bool) (fun k1=> if (decide (a0.A ≥ 0)) then if (cond true (decide (a0.A<=4294967295)) false) then if (cond true (decide (a0.B ≥ 0)) false) then if (cond true (decide (a0.B<=4294967295)) false) then if (cond true (decide (a0.C ≥ 0)) false) then k1 (cond true (decide (a0.C<=4294967295)) false) else k1 false else k1 false else k1 false else k1 false else k1 false
) fun v2=> some v2
def CL (a0:JAF)(a1:JAF):Option Bool:= AC (τ:=Bool) (fun k1=> if (decide (a0.A<a1.A)) then k1 true else if (a0.A==a1.A) then if (decide (a0.B<a1.B)) then k1 true else if (a0.B==a1.B) then k1 (cond false true (cond true (cond false true (cond true (decide (a0.C<a1.C)) false)) false)) else k1 false else k1 false
) fun v2=> some v2
def C2 (a0:List JAF):Option Bool:= AC (τ:=Unit) (fun k1=> Ak (σ:=Unit) (fun _=> k1 ()
) (fun next2 (x3:JAF) i4 _=> AC (τ:=Bool) (fun k5=>
(CU x3).bind fun v6=> if (!v6) then k5 true else if (decide ((i4:Int) > 0)) then
(geti a0 (AD ((i4:Int)-1))).bind fun v7=>
(CL v7 x3).bind fun v8=> k5 (cond false true (cond true (!v8) false)) else k5 false
) fun v9=> if v9 then some false else next2 ()
) a0 0 ()
) fun _=> some (decide ((a0.length:Int)<=64))
def Dq (a0:List JAF)(a1:JAF):Option Bool:= AC (τ:=Unit) (fun k1=> Ak (σ:=Unit) (fun _=> k1 ()
) (fun next2 (x3:JAF) i4 _=> if (JAF.eqd x3 a1) then some true else next2 ()
) a0 0 ()
) fun _=> some false
def DJ (a0:List JAF)(a1:JAF):Option ((List JAF)×Int):= AC (τ:=Bool) (fun k1=>
(C2 a0).bind fun v2=> if (!v2) then k1 true else
(CU a1).bind fun v3=> k1 (cond false true (!v3))
) fun v4=> if v4 then some ([],1) else
(Dq a0 a1).bind fun v5=> if v5 then
(apnd (α:=JAF) 24 [] a0).bind fun _=> some (a0,0) else if (decide ((a0.length:Int) ≥ 64)) then some ([],3) else AC (τ:=Int) (fun k6=> Ao (σ:=Int) (fun next7 v8=> AC (τ:=Bool) (fun k9=> if (decide (v8<(a0.length:Int))) then
(geti a0 v8).bind fun v10=>
(CL v10 a1).bind fun v11=> k9 (cond true v11 false) else k9 false
) fun v12=> if v12 then next7 (AD (v8+1)) else k6 v8
) fuel 0
) fun v13=>
(part a0 0 v13).bind fun v14=>
(apnd (α:=JAF) 24 [] v14).bind fun _=>
(apnd (α:=JAF) 24 v14 ([a1]:List JAF)).bind fun v15=>
(part a0 v13 (a0.length:Int)).bind fun v16=>
(apnd (α:=JAF) 24 v15 v16).bind fun v17=> some (v17,0)
def C0 (a0:JAI):Option ((List JAB)×(List JAF)×JAI):=
(AK a0 5).bind fun (v1,v2)=> AC (τ:=(List JAB)×JAI) (fun k3=> Ao (σ:=(List JAB)×Int×JAI) (fun next4 (v5,v6,v7)=> if (decide (v6 > 0)) then
(AK v7 4).bind fun (v8,v9)=>
(geti ([65000,65535,0,1]:List Int) v8).bind fun v10=>
(AK v9 5).bind fun (v11,v12)=>
(AK v12 4).bind fun (v13,v14)=>
(geti ([0,666,65535,(AD (1+v11))]:List Int) v13).bind fun v15=>
(Ff v5 (⟨v10,v15⟩:JAB)).bind fun (v16,v17)=> next4 (v16,(AD (v6-1)),v14) else k3 (v5,v7)
) fuel ([],v1,v2)
) fun (v18,v19)=>
(AK v19 4).bind fun (v20,v21)=> AC (τ:=(List JAF)×JAI) (fun k22=> Ao (σ:=(List JAF)×Int×JAI) (fun next23 (v24,v25,v26)=> if (decide (v25 > 0)) then
(AK v26 3).bind fun (v27,v28)=>
(geti ([65000,4294967295,0]:List Int) v27).bind fun v29=>
(AK v28 3).bind fun (v30,v31)=>
(AK v31 4).bind fun (v32,v33)=>
(DJ v24 (⟨v29,v30,v32⟩:JAF)).bind fun (v34,v35)=> next23 (v34,(AD (v25-1)),v33) else k22 (v24,v26)
) fuel ([],v20,v21)
) fun (v36,v37)=> some (v18,v36,v37)
def EW (a0:JAI)(a1:Int):Option ((List UInt8)×JAI):=
(AK a0 (AD (a1+1))).bind fun (v1,v2)=> AC (τ:=JAI×(List UInt8)) (fun k3=> Ao (σ:=Int×JAI×(List UInt8)) (fun next4 (v5,v6,v7)=> if (decide (v5 > 0)) then
(AK v6 256).bind fun (v8,v9)=>
(apnd (α:=UInt8) 1 v7 ([(Am v8)]:List UInt8)).bind fun v10=> next4 ((AD (v5-1)),v9,v10) else k3 (v6,v7)
) fuel (v1,v2,[])
) fun (v11,v12)=> some (v12,v11)
def Dx (a0:JAI):Option (JAE×JAI):= AC (τ:=Unit) (fun k1=> k1 ()
) fun _=>
(AK a0 4).bind fun (v2,v3)=>
(E3 v3).bind fun (v4,v5)=>
(JC 3).bind fun v6=>
(KJ 4).bind fun v7=>
(AK v5 3).bind fun (v8,v9)=>
(geti ([(⟨false,(0:UInt64),(0:UInt64)⟩:Addr),v6,v7]:List Addr) v8).bind fun v10=>
(AK v9 4).bind fun (v11,v12)=>
(geti ([(-1),0,100,4294967295]:List Int) v11).bind fun v13=>
(AK v12 4).bind fun (v14,v15)=>
(geti ([(-1),0,100,4294967295]:List Int) v14).bind fun v16=>
(AK v15 3).bind fun (v17,v18)=>
(geti ([(-1),1,65000]:List Int) v17).bind fun v19=>
(C0 v18).bind fun (v20,v21,v22)=> AC (τ:=JAI×(List JAA)) (fun k23=> Ak (σ:=JAI×(List JAA)) (fun (v24,v25)=> k23 (v24,v25)
) (fun next26 (x27:Int) i28 (v24,v25)=>
(AK v24 6).bind fun (v29,v30)=> AC (τ:=JAI×(List JAA)) (fun k31=> if (v29==5) then
(EW v30 9).bind fun (v32,v33)=>
(apnd (α:=JAA) 40 v25 ([(⟨224,x27,v32⟩:JAA)]:List JAA)).bind fun v34=> k31 (v33,v34) else k31 (v30,v25)
) fun (v35,v36)=> next26 (v35,v36)
) ([6,7,16,34,200,255]:List Int) 0 (v22,[])
) fun (v37,v38)=> some ((⟨(AD (v2-1)),v4,v10,v13,v16,v19,v20,v21,v38⟩:JAE),v37)
def En (a0:JAI):Option (Addr×JAI):=
(AK a0 6).bind fun (v1,v2)=> if (v1==0) then
(AK v2 8).bind fun (v3,v4)=>
(AK v4 4).bind fun (v5,v6)=> some ((⟨false,(0:UInt64),(Ad (AD ((AD (167772160+(AD (v3*(2^(min (Int.toNat 8) 64))))))+v5)))⟩:Addr),v6) else if (v1==1) then
(AK v2 4).bind fun (v7,v8)=>
(AK v8 8).bind fun (v9,v10)=> some ((⟨true,(Ad (2306139568115548160+((Ad v7).toNat:Int))),(Ad v9)⟩:Addr),v10) else if (v1==2) then
(AK v2 5).bind fun (v11,v12)=>
(geti ([(0:UInt64),(1:UInt64),(4294967295:UInt64),(2147483647:UInt64),(2147483648:UInt64)]:List UInt64) v11).bind fun v13=> some ((⟨false,(0:UInt64),v13⟩:Addr),v12) else if (v1==3) then
(AK v2 4).bind fun (v14,v15)=>
(geti ([(0:UInt64),(1:UInt64),(18446744073709551615:UInt64),(9223372036854775808:UInt64)]:List UInt64) v14).bind fun v16=>
(AK v15 4).bind fun (v17,v18)=>
(geti ([(0:UInt64),(1:UInt64),(18446744073709551615:UInt64),(9223372036854775808:UInt64)]:List UInt64) v17).bind fun v19=> some ((⟨true,v16,v19⟩:Addr),v18) else if (v1==4) then
(AK v2 1073741824).bind fun (v20,v21)=>
(AK v21 5).bind fun (v22,v23)=>
(AK v23 1073741824).bind fun (v24,v25)=>
(AK v25 5).bind fun (v26,v27)=> some ((⟨true,(Ad (((Ad v20).toNat:Int)*(2^(min (Int.toNat ((Ad (AD (v22*8))).toNat:Int)) 64)))),(Ad (((Ad v24).toNat:Int)*(2^(min (Int.toNat ((Ad (AD (v26*8))).toNat:Int)) 64))))⟩:Addr),v27) else
(AK v2 1073741824).bind fun (v28,v29)=> some ((⟨false,(0:UInt64),(Ad v28)⟩:Addr),v29)
def EA (a0:Addr):Option Bool:= AC (τ:=Bool) (fun k1=> if a0.V6 then k1 true else if ((a0.Hi.toNat:Int)==0) then k1 (cond false true (cond true (decide ((a0.Lo.toNat:Int)<4294967296)) false)) else k1 false
) fun v2=> some v2
def D8 (a0:Addr):Option Int:= if a0.V6 then some 128 else some 32
def Bn (a0:Addr):Option (List UInt8):=
(EA a0).bind fun v1=> if (!v1) then some [] else AC (τ:=Int) (fun k2=> if a0.V6 then k2 16 else k2 4
) fun v3=> AC (τ:=(List UInt8)) (fun k4=> Ao (σ:=Int×(List UInt8)) (fun next5 (v6,v7)=> if (decide (v6 ≥ 0)) then AC (τ:=UInt64) (fun k8=> if (decide (v6 ≥ 8)) then k8 a0.Hi else k8 a0.Lo
) fun v9=>
(apnd (α:=UInt8) 1 v7 ([(Am ((Ad (Int.fdiv (v9.toNat:Int) (2^(min (Int.toNat ((Ad (8*((Ad (Int.tmod v6 8)).toNat:Int))).toNat:Int)) 64)))).toNat:Int))]:List UInt8)).bind fun v10=> next5 ((AD (v6-1)),v10) else k4 v7
) fuel ((AD (v3-1)),[])
) fun v11=> some v11
def A5 (a0:List UInt8):Option (Addr×Int):= AC (τ:=Bool) (fun k1=> if ((a0.length:Int) != 4) then k1 (cond true ((a0.length:Int) != 16) false) else k1 false
) fun v2=> if v2 then some ((⟨false,(0:UInt64),(0:UInt64)⟩:Addr),1) else AC (τ:=Addr) (fun k3=> Ak (σ:=Addr) (fun v4=> k3 v4
) (fun next5 (x6:UInt8) i7 v4=> next5 (⟨v4.V6,(Ad ((BitVec.ofInt 64 ((Ad ((v4.Hi.toNat:Int)*(2^(min (Int.toNat 8) 64)))).toNat:Int) ||| BitVec.ofInt 64 ((Ad (Int.fdiv (v4.Lo.toNat:Int) (2^(min (Int.toNat 56) 64)))).toNat:Int)).toNat:Int)),(Ad ((BitVec.ofInt 64 ((Ad ((v4.Lo.toNat:Int)*(2^(min (Int.toNat 8) 64)))).toNat:Int) ||| BitVec.ofInt 64 ((Ad (x6.toNat:Int)).toNat:Int)).toNat:Int))⟩:Addr)
) a0 0 (⟨((a0.length:Int)==16),(0:UInt64),(0:UInt64)⟩:Addr)
) fun v8=> some (v8,0)
def B1 (a0:Addr)(a1:Int):Option (JAC×Int):=
(EA a0).bind fun v1=> if (!v1) then some ((⟨(⟨false,(0:UInt64),(0:UInt64)⟩:Addr),0⟩:JAC),1) else AC (τ:=Bool) (fun k2=> if (decide (a1<0)) then k2 true else
(D8 a0).bind fun v3=> k2 (cond false true (decide (a1 > v3)))
) fun v4=> if v4 then some ((⟨(⟨false,(0:UInt64),(0:UInt64)⟩:Addr),0⟩:JAC),9) else
(Bn a0).bind fun v5=> AC (τ:=(List UInt8)) (fun k6=> Ao (σ:=Int×(List UInt8)) (fun next7 (v8,v9)=> if (decide (v8<(AD (8*(v9.length:Int))))) then
(geti v9 (AD (Int.tdiv v8 8))).bind fun v10=>
(geti v9 (AD (Int.tdiv v8 8))).bind fun v11=>
(seti v9 (AD (Int.tdiv v8 8)) (Am ((BitVec.ofInt 8 (v10.toNat:Int) &&& ~~~BitVec.ofInt 8 ((Am (Int.fdiv 128 (2^(min (Int.toNat ((Ad (Int.tmod v8 8)).toNat:Int)) 8)))).toNat:Int)).toNat:Int))).bind fun v12=> next7 ((AD (v8+1)),v12) else k6 v9
) fuel (a1,v5)
) fun v13=>
(A5 v13).bind fun (v14,v15)=> some ((⟨v14,a1⟩:JAC),0)
def Da (a0:JAI):Option (JAC×JAI):=
(En a0).bind fun (v1,v2)=> AC (τ:=Int) (fun k3=> if v1.V6 then k3 128 else k3 32
) fun v4=>
(AK v2 4).bind fun (v5,v6)=> AC (τ:=Int×JAI) (fun k7=> if (v5==0) then
(AK v6 (AD (v4+1))).bind fun (v8,v9)=> k7 (v8,v9) else AC (τ:=Int×JAI) (fun k10=> if (v5==1) then
(AK v6 9).bind fun (v11,v12)=> k10 ((AD (v4-v11)),v12) else AC (τ:=Int×JAI) (fun k13=> if (v5==2) then
(AK v6 5).bind fun (v14,v15)=>
(geti ([8,22,23,24,16]:List Int) v14).bind fun v16=> k13 (v16,v15) else k13 (v4,v6)
) fun (v17,v18)=> k10 (v17,v18)
) fun (v19,v20)=> k7 (v19,v20)
) fun (v21,v22)=>
(B1 v1 v21).bind fun (v23,v24)=> some (v23,v22)
def D4 (a0:JAC):Option Bool:=
(B1 a0.Addr a0.Len).bind fun (v1,v2)=> AC (τ:=Bool) (fun k3=> if (v2==0) then k3 (cond true (JAC.eqd a0 v1) false) else k3 false
) fun v4=> some v4
def Be (a0:Int):Option Int:= AC (τ:=Bool) (fun k1=> if (a0==1) then k1 (a0==1) else AC (τ:=Bool) (fun k2=> if (a0==2) then k2 (a0==2) else AC (τ:=Bool) (fun k3=> if (a0==3) then k3 (a0==3) else k3 (a0==5)
) fun v4=> k2 v4
) fun v5=> k1 v5
) fun v6=> if v6 then some 64 else if (a0==4) then some 128 else AC (τ:=Bool) (fun k7=> if (a0==8) then k7 (a0==8) else AC (τ:=Bool) (fun k8=> if (a0==32) then k8 (a0==32) else k8 (a0==35)
) fun v9=> k7 v9
) fun v10=> if v10 then some 192 else some 0
def BY (a0:Int):Option Bool:= AC (τ:=Bool) (fun k1=>
(Be a0).bind fun v2=> if (v2==0) then if (cond true (a0 != 14) false) then k1 (cond true (a0 != 15) false) else k1 false else k1 false
) fun v3=> some v3
def Fq (a0:JAE):Option Bool:= AC (τ:=Unit) (fun k1=> Ak (σ:=Unit) (fun _=> k1 ()
) (fun next2 (x3:JAA) i4 _=> AC (τ:=Bool) (fun k5=> if (decide (x3.Type_<1)) then k5 true else if (cond false true (decide (x3.Type_ > 255))) then k5 true else
(BY x3.Type_).bind fun v6=> if (cond false true (!v6)) then k5 true else if (cond false true (x3.Flags != 224)) then k5 true else if (cond false true (decide ((x3.Data.length:Int) > 255))) then k5 true else if (decide ((i4:Int) > 0)) then
(geti a0.Other (AD ((i4:Int)-1))).bind fun v7=> k5 (cond false true (cond true (decide (v7.Type_ ≥ x3.Type_)) false)) else k5 false
) fun v8=> if v8 then some false else next2 ()
) a0.Other 0 ()
) fun _=> AC (τ:=Bool) (fun k9=> if (decide (a0.Origin ≥ (-1))) then if (cond true (decide (a0.Origin<=2)) false) then
(DZ a0.Path).bind fun v10=> if (cond true v10 false) then
(EA a0.Next).bind fun v11=> if (cond true v11 false) then if (cond true (decide (a0.MED ≥ (-1))) false) then if (cond true (decide (a0.MED<=4294967295)) false) then if (cond true (decide (a0.Pref ≥ (-1))) false) then if (cond true (decide (a0.Pref<=4294967295)) false) then if (a0.OTC==(-1)) then
(E2 a0.Communities).bind fun v12=> if (cond true v12 false) then
(C2 a0.JAF).bind fun v13=> if (cond true v13 false) then k9 (cond true (decide ((a0.Other.length:Int)<=8)) false) else k9 false else k9 false else if (decide (a0.OTC ≥ 1)) then if (cond true (cond false true (cond true (decide (a0.OTC<=4294967295)) false)) false) then
(E2 a0.Communities).bind fun v14=> if (cond true v14 false) then
(C2 a0.JAF).bind fun v15=> if (cond true v15 false) then k9 (cond true (decide ((a0.Other.length:Int)<=8)) false) else k9 false else k9 false else k9 false else k9 false else k9 false else k9 false else k9 false else k9 false else k9 false else k9 false else k9 false else k9 false
) fun v16=> some v16
def FY (a0:List JAD)(a1:List JAD):Option Bool:= if ((a0.length:Int) != (a1.length:Int)) then some false else AC (τ:=Unit) (fun k1=> Ak (σ:=Unit) (fun _=> k1 ()
) (fun next2 (x3:JAD) i4 _=> AC (τ:=Unit) (fun k5=> AC (τ:=Bool) (fun k6=>
(geti a1 (i4:Int)).bind fun v7=> if (!(x3.Set==v7.Set)) then k6 true else
(geti a1 (i4:Int)).bind fun v8=> k6 (cond false true ((x3.ASNs.length:Int) != (v8.ASNs.length:Int)))
) fun v9=> if v9 then some false else AC (τ:=Unit) (fun k10=> Ak (σ:=Unit) (fun _=> k10 ()
) (fun next11 (x12:Int) i13 _=>
(geti a1 (i4:Int)).bind fun v14=>
(geti v14.ASNs (i13:Int)).bind fun v15=> if (v15 != x12) then some false else next11 ()
) x3.ASNs 0 ()
) fun _=> k5 ()
) fun _=> next2 ()
) a0 0 ()
) fun _=> some true
def Fa (a0:List JAB)(a1:List JAB):Option Bool:= if ((a0.length:Int) != (a1.length:Int)) then some false else AC (τ:=Unit) (fun k1=> Ak (σ:=Unit) (fun _=> k1 ()
) (fun next2 (x3:JAB) i4 _=>
(geti a1 (i4:Int)).bind fun v5=> if (!(JAB.eqd v5 x3)) then some false else next2 ()
) a0 0 ()
) fun _=> some true
def DT (a0:List JAF)(a1:List JAF):Option Bool:= if ((a0.length:Int) != (a1.length:Int)) then some false else AC (τ:=Unit) (fun k1=> Ak (σ:=Unit) (fun _=> k1 ()
) (fun next2 (x3:JAF) i4 _=>
(geti a1 (i4:Int)).bind fun v5=> if (!(JAF.eqd v5 x3)) then some false else next2 ()
) a0 0 ()
) fun _=> some true
def Dp (a0:List JAA)(a1:List JAA):Option Bool:= if ((a0.length:Int) != (a1.length:Int)) then some false else AC (τ:=Unit) (fun k1=> Ak (σ:=Unit) (fun _=> k1 ()
) (fun next2 (x3:JAA) i4 _=> AC (τ:=Bool) (fun k5=>
(geti a1 (i4:Int)).bind fun v6=> if (x3.Flags != v6.Flags) then k5 true else
(geti a1 (i4:Int)).bind fun v7=> if (cond false true (x3.Type_ != v7.Type_)) then k5 true else
(geti a1 (i4:Int)).bind fun v8=> k5 (cond false true (!((bs x3.Data).toList==(bs v8.Data).toList)))
) fun v9=> if v9 then some false else next2 ()
) a0 0 ()
) fun _=> some true
def Dm (a0:JAE)(a1:JAE):Option Bool:= AC (τ:=Bool) (fun k1=> if (a0.Origin==a1.Origin) then
(FY a0.Path a1.Path).bind fun v2=> if (cond true v2 false) then if (cond true (Addr.eqd a0.Next a1.Next) false) then if (cond true (a0.MED==a1.MED) false) then if (cond true (a0.Pref==a1.Pref) false) then if (cond true (a0.OTC==a1.OTC) false) then
(Fa a0.Communities a1.Communities).bind fun v3=> if (cond true v3 false) then
(DT a0.JAF a1.JAF).bind fun v4=> if (cond true v4 false) then
(Dp a0.Other a1.Other).bind fun v5=> k1 (cond true v5 false) else k1 false else k1 false else k1 false else k1 false else k1 false else k1 false else k1 false else k1 false
) fun v6=> some v6
def AU (a0:Int)(a1:Int):Option (List UInt8):= AC (τ:=(List UInt8)) (fun k1=> Ao (σ:=Int×(List UInt8)) (fun next2 (v3,v4)=> if (decide (v3 ≥ 0)) then
(apnd (α:=UInt8) 1 v4 ([(Am (Int.fdiv a0 (2^(min (Int.toNat ((Ad (8*((Ad v3).toNat:Int))).toNat:Int)) 64))))]:List UInt8)).bind fun v5=> next2 ((AD (v3-1)),v5) else k1 v4
) fuel ((AD (a1-1)),[])
) fun v6=> some v6
def Ep (a0:JAE):Option ((List JAA)×Int):=
(Fq a0).bind fun v1=> if (!v1) then some ([],1) else AC (τ:=(List (Int×(List UInt8)))) (fun k2=> if (decide (a0.Origin ≥ 0)) then k2 (Cf [] 1 ([(Am a0.Origin)]:List UInt8)) else k2 []
) fun v3=> AC (τ:=Bool) (fun k4=> if (decide (a0.Origin ≥ 0)) then k4 true else k4 (cond false true (decide ((a0.Path.length:Int) > 0)))
) fun v5=> AC (τ:=(List (Int×(List UInt8)))) (fun k6=> if v5 then AC (τ:=(List UInt8)) (fun k7=> Ak (σ:=(List UInt8)) (fun v8=> k7 v8
) (fun next9 (x10:JAD) i11 v8=> AC (τ:=(List UInt8)) (fun k12=> AC (τ:=UInt8) (fun k13=> if x10.Set then k13 (1:UInt8) else k13 (2:UInt8)
) fun v14=>
(apnd (α:=UInt8) 1 v8 ([v14,(Am (x10.ASNs.length:Int))]:List UInt8)).bind fun v15=> AC (τ:=(List UInt8)) (fun k16=> Ak (σ:=(List UInt8)) (fun v17=> k16 v17
) (fun next18 (x19:Int) i20 v17=>
(AU x19 4).bind fun v21=>
(apnd (α:=UInt8) 1 v17 v21).bind fun v22=> next18 v22
) x10.ASNs 0 v15
) fun v23=> k12 v23
) fun v24=> next9 v24
) a0.Path 0 ([]:List UInt8)
) fun v25=> k6 (Cf v3 2 v25) else k6 v3
) fun v26=> AC (τ:=Bool) (fun k27=> if (!(Addr.eqd a0.Next (⟨false,(0:UInt64),(0:UInt64)⟩:Addr))) then k27 (cond true (!a0.Next.V6) false) else k27 false
) fun v28=> AC (τ:=(List (Int×(List UInt8)))) (fun k29=> if v28 then
(Bn a0.Next).bind fun v30=> k29 (Cf v26 3 v30) else k29 v26
) fun v31=> AC (τ:=(List (Int×(List UInt8)))) (fun k32=> if (decide (a0.MED ≥ 0)) then
(AU a0.MED 4).bind fun v33=> k32 (Cf v31 4 v33) else k32 v31
) fun v34=> AC (τ:=(List (Int×(List UInt8)))) (fun k35=> if (decide (a0.Pref ≥ 0)) then
(AU a0.Pref 4).bind fun v36=> k35 (Cf v34 5 v36) else k35 v34
) fun v37=> AC (τ:=(List (Int×(List UInt8)))×(List UInt8)) (fun k38=>
(chk ((BV v37 8).isNone=true)).bind fun _=> Ak (σ:=(List (Int×(List UInt8)))×(List UInt8)) (fun (v39,v40)=> k38 (v39,v40)
) (fun next41 (x42:JAB) i43 (v39,v40)=>
(AU x42.A 2).bind fun v44=>
(apnd (α:=UInt8) 1 v40 v44).bind fun v45=>
(AU x42.B 2).bind fun v46=>
(apnd (α:=UInt8) 1 v45 v46).bind fun v47=> next41 ((Cf v39 8 v47),v47)
) a0.Communities 0 (v37,[])
) fun (v48,v49)=> AC (τ:=(List (Int×(List UInt8)))×(List UInt8)) (fun k50=>
(chk ((BV v48 32).isNone=true)).bind fun _=> Ak (σ:=(List (Int×(List UInt8)))×(List UInt8)) (fun (v51,v52)=> k50 (v51,v52)
) (fun next53 (x54:JAF) i55 (v51,v52)=>
(AU x54.A 4).bind fun v56=>
(apnd (α:=UInt8) 1 v52 v56).bind fun v57=>
(AU x54.B 4).bind fun v58=>
(apnd (α:=UInt8) 1 v57 v58).bind fun v59=>
(AU x54.C 4).bind fun v60=>
(apnd (α:=UInt8) 1 v59 v60).bind fun v61=> next53 ((Cf v51 32 v61),v61)
) a0.JAF 0 (v48,[])
) fun (v62,v63)=> AC (τ:=(List (Int×(List UInt8)))) (fun k64=> if (decide (a0.OTC ≥ 0)) then
(AU a0.OTC 4).bind fun v65=> k64 (Cf v62 35 v65) else k64 v62
) fun v66=> AC (τ:=(List JAA)) (fun k67=> Ao (σ:=Int×(List JAA)) (fun next68 (v69,v70)=> if (decide (v69<256)) then AC (τ:=(List JAA)) (fun k71=>
(some (Option.getD (BV v66 v69) [])).bind fun v72=>
(some (Option.isSome (BV v66 v69))).bind fun v73=> AC (τ:=(List JAA)) (fun k74=> if v73 then
(Be v69).bind fun v75=>
(apnd (α:=UInt8) 1 [] v72).bind fun _=>
(apnd (α:=JAA) 40 v70 ([(⟨v75,v69,v72⟩:JAA)]:List JAA)).bind fun v76=> k74 v76 else k74 v70
) fun v77=> AC (τ:=(List JAA)) (fun k78=> Ak (σ:=(List JAA)) (fun v79=> k78 v79
) (fun next80 (x81:JAA) i82 v79=> AC (τ:=(List JAA)) (fun k83=> if (x81.Type_==v69) then
(apnd (α:=UInt8) 1 [] x81.Data).bind fun _=>
(apnd (α:=JAA) 40 v79 ([{ x81 with Type_:=v69 }]:List JAA)).bind fun v84=> k83 v84 else k83 v79
) fun v85=> next80 v85
) a0.Other 0 v77
) fun v86=> k71 v86
) fun v87=> next68 ((AD (v69+1)),v87) else k67 v70
) fuel (0,[])
) fun v88=> some (v88,0)
def GZ (a0:List JAA):Option ((List UInt8)×Int):= AC (τ:=Unit) (fun k1=> Ak (σ:=Unit) (fun _=> k1 ()
) (fun next2 (x3:JAA) i4 _=> AC (τ:=Bool) (fun k5=> if (decide (x3.Flags<0)) then k5 true else if (cond false true (decide (x3.Flags > 255))) then k5 true else if (cond false true (decide (x3.Type_<0))) then k5 true else if (cond false true (decide (x3.Type_ > 255))) then k5 true else k5 (cond false true (decide ((x3.Data.length:Int) > 65535)))
) fun v6=> if v6 then some ([],1) else next2 ()
) a0 0 ()
) fun _=> AC (τ:=(List UInt8)) (fun k7=> Ak (σ:=(List UInt8)) (fun v8=> k7 v8
) (fun next9 (x10:JAA) i11 v8=> AC (τ:=(List UInt8)) (fun k12=> if (decide ((x10.Data.length:Int) > 255)) then
(apnd (α:=UInt8) 1 v8 ([(Am ((BitVec.ofInt 8 ((Am ((BitVec.ofInt 8 ((Am x10.Flags).toNat:Int) &&& BitVec.ofInt 8 224).toNat:Int)).toNat:Int) ||| BitVec.ofInt 8 16).toNat:Int)),(Am x10.Type_),(Am (Int.fdiv (x10.Data.length:Int) (2^(min (Int.toNat 8) 64)))),(Am (x10.Data.length:Int))]:List UInt8)).bind fun v13=> k12 v13 else
(apnd (α:=UInt8) 1 v8 ([(Am ((BitVec.ofInt 8 ((Am x10.Flags).toNat:Int) &&& BitVec.ofInt 8 224).toNat:Int)),(Am x10.Type_),(Am (x10.Data.length:Int))]:List UInt8)).bind fun v14=> k12 v14
) fun v15=>
(apnd (α:=UInt8) 1 v15 x10.Data).bind fun v16=> next9 v16
) a0 0 []
) fun v17=> if (decide ((v17.length:Int) > 2048)) then some ([],3) else some (v17,0)
def EO (a0:List JAC)(a1:Bool):Option (List UInt8):= AC (τ:=(List UInt8)) (fun k1=> Ak (σ:=(List UInt8)) (fun v2=> k1 v2
) (fun next3 (x4:JAC) i5 v2=> AC (τ:=(List UInt8)) (fun k6=> if (x4.Addr.V6==a1) then
(apnd (α:=UInt8) 1 v2 ([(Am x4.Len)]:List UInt8)).bind fun v7=>
(Bn x4.Addr).bind fun v8=>
(chk (0<=(0:Int)/\(0:Int)<=(AD (Int.tdiv (AD (x4.Len+7)) 8))/\(AD (Int.tdiv (AD (x4.Len+7)) 8))<=(v8.length:Int))).bind fun _=>
(apnd (α:=UInt8) 1 v7 (List.take (Int.toNat (AD (Int.tdiv (AD (x4.Len+7)) 8))-Int.toNat 0) (List.drop (Int.toNat 0) v8))).bind fun v9=> k6 v9 else k6 v2
) fun v10=> next3 v10
) a0 0 []
) fun v11=> some v11
def Fg (a0:List JAA)(a1:JAA):Option (List JAA):= AC (τ:=Int) (fun k1=> Ao (σ:=Int) (fun next2 v3=> AC (τ:=Bool) (fun k4=> if (decide (v3<(a0.length:Int))) then
(geti a0 v3).bind fun v5=> k4 (cond true (decide (v5.Type_<a1.Type_)) false) else k4 false
) fun v6=> if v6 then next2 (AD (v3+1)) else k1 v3
) fuel 0
) fun v7=>
(part a0 0 v7).bind fun v8=>
(apnd (α:=JAA) 40 [] v8).bind fun _=>
(apnd (α:=JAA) 40 v8 ([a1]:List JAA)).bind fun v9=>
(part a0 v7 (a0.length:Int)).bind fun v10=>
(apnd (α:=JAA) 40 v9 v10).bind fun v11=> some v11
def Ey (a0:JAG):Option ((List UInt8)×Int):= AC (τ:=(List JAA)) (fun k1=> if (decide ((a0.Announce.length:Int) > 0)) then
(Ep a0.JAE).bind fun (v2,v3)=> if (v3 != 0) then some ([],v3) else k1 v2 else k1 []
) fun v4=>
(EO a0.Announce true).bind fun v5=> AC (τ:=(List JAA)) (fun k6=> if (decide ((v5.length:Int) > 0)) then
(Bn a0.JAE.Next).bind fun v7=>
(apnd (α:=UInt8) 1 ([(0:UInt8),(2:UInt8),(1:UInt8),(16:UInt8)]:List UInt8) v7).bind fun v8=>
(apnd (α:=UInt8) 1 v8 ([(0:UInt8)]:List UInt8)).bind fun v9=>
(apnd (α:=UInt8) 1 v9 v5).bind fun v10=>
(Fg v4 (⟨128,14,v10⟩:JAA)).bind fun v11=> k6 v11 else k6 v4
) fun v12=>
(EO a0.Withdraw true).bind fun v13=> AC (τ:=(List JAA)) (fun k14=> if (decide ((v13.length:Int) > 0)) then
(apnd (α:=UInt8) 1 ([(0:UInt8),(2:UInt8),(1:UInt8)]:List UInt8) v13).bind fun v15=>
(Fg v12 (⟨128,15,v15⟩:JAA)).bind fun v16=> k14 v16 else k14 v12
) fun v17=>
(GZ v17).bind fun (v18,v19)=> if (v19 != 0) then some ([],v19) else
(EO a0.Withdraw false).bind fun v20=>
(apnd (α:=UInt8) 1 ([(Am (Int.fdiv (v20.length:Int) (2^(min (Int.toNat 8) 64)))),(Am (v20.length:Int))]:List UInt8) v20).bind fun v21=>
(apnd (α:=UInt8) 1 v21 ([(Am (Int.fdiv (v18.length:Int) (2^(min (Int.toNat 8) 64)))),(Am (v18.length:Int))]:List UInt8)).bind fun v22=>
(apnd (α:=UInt8) 1 v22 v18).bind fun v23=>
(EO a0.Announce false).bind fun v24=>
(apnd (α:=UInt8) 1 v23 v24).bind fun v25=> some (v25,0)
def F3 (a0:JAG):Option Bool:= AC (τ:=Bool) (fun k1=> if (decide ((a0.Withdraw.length:Int) > 256)) then k1 true else k1 (cond false true (decide ((a0.Announce.length:Int) > 256)))
) fun v2=> if v2 then some false else
(apnd (α:=JAC) 32 [] a0.Withdraw).bind fun _=>
(apnd (α:=JAC) 32 a0.Withdraw a0.Announce).bind fun v3=> AC (τ:=Unit) (fun k4=> Ak (σ:=Unit) (fun _=> k4 ()
) (fun next5 (x6:JAC) i7 _=>
(D4 x6).bind fun v8=> if (!v8) then some false else next5 ()
) v3 0 ()
) fun _=> AC (τ:=Bool) (fun k9=> if ((a0.Announce.length:Int)==0) then
(Ew).bind fun v10=>
(Dm a0.JAE v10).bind fun v11=> k9 (cond true (!v11) false) else k9 false
) fun v12=> if v12 then some false else AC (τ:=Unit) (fun k13=> Ak (σ:=Unit) (fun _=> k13 ()
) (fun next14 (x15:JAC) i16 _=> AC (τ:=Bool) (fun k17=> if (!(x15.Addr.V6==a0.JAE.Next.V6)) then k17 true else if (cond false true (a0.JAE.Origin==(-1))) then k17 true else if (cond false true (Addr.eqd a0.JAE.Next (⟨false,(0:UInt64),(0:UInt64)⟩:Addr))) then k17 true else
(Fq a0.JAE).bind fun v18=> k17 (cond false true (!v18))
) fun v19=> if v19 then some false else next14 ()
) a0.Announce 0 ()
) fun _=>
(Ey a0).bind fun (v20,v21)=> AC (τ:=Bool) (fun k22=> if (v21==0) then k22 (cond true (decide ((v20.length:Int)<=4077)) false) else k22 false
) fun v23=> some v23
def EJ (a0:JAI):Option (JAG×JAI):= AC (τ:=Unit) (fun k1=> k1 ()
) fun _=>
(AK a0 5).bind fun (v2,v3)=> AC (τ:=JAI×(List JAC)) (fun k4=> Ao (σ:=Int×JAI×(List JAC)) (fun next5 (v6,v7,v8)=> if (decide (v6 > 0)) then
(Da v7).bind fun (v9,v10)=>
(apnd (α:=JAC) 32 v8 ([v9]:List JAC)).bind fun v11=> next5 ((AD (v6-1)),v10,v11) else k4 (v7,v8)
) fuel (v2,v3,[])
) fun (v12,v13)=>
(AK v12 4).bind fun (v14,v15)=> if (v14==3) then some ((⟨v13,(⟨(-1),[],(⟨false,(0:UInt64),(0:UInt64)⟩:Addr),(-1),(-1),(-1),[],[],[]⟩:JAE),[]⟩:JAG),v15) else
(AK v15 2).bind fun (v16,v17)=>
(AK v17 6).bind fun (v18,v19)=> AC (τ:=JAI×(List JAC)) (fun k20=> Ao (σ:=Int×JAI×(List JAC)) (fun next21 (v22,v23,v24)=> if (decide (v22 > 0)) then
(Da v23).bind fun (v25,v26)=> AC (τ:=(List JAC)) (fun k27=> if (v25.Addr.V6==(v16==1)) then
(apnd (α:=JAC) 32 v24 ([v25]:List JAC)).bind fun v28=> k27 v28 else k27 v24
) fun v29=> next21 ((AD (v22-1)),v26,v29) else k20 (v23,v24)
) fuel (v18,v19,[])
) fun (v30,v31)=> if ((v31.length:Int)==0) then some ((⟨v13,(⟨(-1),[],(⟨false,(0:UInt64),(0:UInt64)⟩:Addr),(-1),(-1),(-1),[],[],[]⟩:JAE),v31⟩:JAG),v30) else
(Dx v30).bind fun (v32,v33)=>
(JC 5).bind fun v34=> AC (τ:=Bool×UInt64×UInt64) (fun k35=> if (v16==1) then
(KJ 5).bind fun v36=> k35 (v36.V6,v36.Hi,v36.Lo) else k35 (v34.V6,v34.Hi,v34.Lo)
) fun (v37,v38,v39)=>
(F3 (⟨v13,{ v32 with Origin:=(if v32.Origin > 0 then v32.Origin else 0),Next:=(⟨v37,v38,v39⟩:Addr) },v31⟩:JAG)).bind fun v40=> if (!v40) then AC (τ:=Unit) (fun k41=> k41 ()
) fun _=> some ((⟨[],(⟨(-1),[],(⟨false,(0:UInt64),(0:UInt64)⟩:Addr),(-1),(-1),(-1),[],[],[]⟩:JAE),[]⟩:JAG),v33) else some ((⟨v13,{ v32 with Origin:=(if v32.Origin > 0 then v32.Origin else 0),Next:=(⟨v37,v38,v39⟩:Addr) },v31⟩:JAG),v33)
def MQ (a0:List UInt8)(a1:Int):Option (List UInt8):=
(apnd (α:=UInt8) 1 a0 ([(Am (Int.fdiv a1 (2^(min (Int.toNat 8) 64)))),(Am a1)]:List UInt8)).bind fun v1=> some v1
def BA (a0:Int)(a1:Int)(a2:Int):Option Bool:= AC (τ:=Bool) (fun k1=> if (decide (a0 ≥ a1)) then k1 (cond true (decide (a0<=a2)) false) else k1 false
) fun v2=> some v2
def Ht (a0:List JAA):Option ((List UInt8)×Int):= AC (τ:=Unit) (fun k1=> Ak (σ:=Unit) (fun _=> k1 ()
) (fun next2 (x3:JAA) i4 _=> AC (τ:=Bool) (fun k5=>
(BA x3.Flags 0 255).bind fun v6=> if (!v6) then k5 true else
(BA x3.Type_ 0 255).bind fun v7=> if (cond false true (!v7)) then k5 true else k5 (cond false true (decide ((x3.Data.length:Int) > 65535)))
) fun v8=> if v8 then some ([],1) else next2 ()
) a0 0 ()
) fun _=> AC (τ:=(List UInt8)) (fun k9=> Ak (σ:=(List UInt8)) (fun v10=> k9 v10
) (fun next11 (x12:JAA) i13 v10=> AC (τ:=(List UInt8)) (fun k14=> if (decide ((x12.Data.length:Int) > 255)) then
(apnd (α:=UInt8) 1 v10 ([(Am ((BitVec.ofInt 8 ((Am ((BitVec.ofInt 8 ((Am x12.Flags).toNat:Int) &&& BitVec.ofInt 8 224).toNat:Int)).toNat:Int) ||| BitVec.ofInt 8 16).toNat:Int)),(Am x12.Type_),(Am (Int.fdiv (x12.Data.length:Int) (2^(min (Int.toNat 8) 64)))),(Am (x12.Data.length:Int))]:List UInt8)).bind fun v15=> k14 v15 else
(apnd (α:=UInt8) 1 v10 ([(Am ((BitVec.ofInt 8 ((Am x12.Flags).toNat:Int) &&& BitVec.ofInt 8 224).toNat:Int)),(Am x12.Type_),(Am (x12.Data.length:Int))]:List UInt8)).bind fun v16=> k14 v16
) fun v17=>
(apnd (α:=UInt8) 1 v17 x12.Data).bind fun v18=> if (decide ((v18.length:Int) > 2048)) then some ([],3) else next11 v18
) a0 0 []
) fun v19=> some (v19,0)
def Em (a0:Addr):Option Bool:= AC (τ:=Bool) (fun k1=> if a0.V6 then k1 true else if ((a0.Hi.toNat:Int)==0) then k1 (cond false true (cond true (decide ((a0.Lo.toNat:Int)<4294967296)) false)) else k1 false
) fun v2=> some v2
def FS (a0:Addr):Option (List UInt8):=
(Em a0).bind fun v1=> if (!v1) then some [] else AC (τ:=Int) (fun k2=> if a0.V6 then k2 16 else k2 4
) fun v3=>
(chk (0<=v3/\v3<=v3/\v3<=1048576)).bind fun _=> AC (τ:=(List UInt8)) (fun k4=> Ao (σ:=Int×Addr×(List UInt8)) (fun next5 (v6,v7,v8)=> if (decide (v6 ≥ 0)) then
(geti v8 v6).bind fun v9=>
(seti v8 v6 (Am (v7.Lo.toNat:Int))).bind fun v10=> next5 ((AD (v6-1)),(⟨v7.V6,(Ad (Int.fdiv (v7.Hi.toNat:Int) (2^(min (Int.toNat 8) 64)))),(Ad ((BitVec.ofInt 64 ((Ad (Int.fdiv (v7.Lo.toNat:Int) (2^(min (Int.toNat 8) 64)))).toNat:Int) ||| BitVec.ofInt 64 ((Ad ((v7.Hi.toNat:Int)*(2^(min (Int.toNat 56) 64)))).toNat:Int)).toNat:Int))⟩:Addr),v10) else k4 v8
) fuel ((AD (v3-1)),a0,(List.replicate (Int.toNat v3) (0:UInt8)))
) fun v11=> some v11
def HZ (a0:List UInt8)(a1:List JAC)(a2:Bool):Option (List UInt8):= AC (τ:=(List UInt8)) (fun k1=> Ak (σ:=(List UInt8)) (fun v2=> k1 v2
) (fun next3 (x4:JAC) i5 v2=> AC (τ:=(List UInt8)) (fun k6=> if (x4.Addr.V6==a2) then
(apnd (α:=UInt8) 1 v2 ([(Am x4.Len)]:List UInt8)).bind fun v7=>
(FS x4.Addr).bind fun v8=>
(part v8 0 (AD (Int.tdiv (AD (x4.Len+7)) 8))).bind fun v9=>
(apnd (α:=UInt8) 1 v7 v9).bind fun v10=> k6 v10 else k6 v2
) fun v11=> next3 v11
) a1 0 a0
) fun v12=> some v12
def EC (a0:Int):Option Bool:= AC (τ:=Bool) (fun k1=> if (decide (a0 ≥ 1)) then k1 (cond true (decide (a0<=4294967295)) false) else k1 false
) fun v2=> some v2
def E8 (a0:List JAD):Option Bool:= AC (τ:=Int) (fun k1=> Ak (σ:=Int) (fun v2=> k1 v2
) (fun next3 (x4:JAD) i5 v2=> AC (τ:=Unit) (fun k6=> AC (τ:=Bool) (fun k7=> if ((x4.ASNs.length:Int)==0) then k7 true else if (decide ((i5:Int) > 0)) then if (cond true (!x4.Set) false) then
(geti a0 (AD ((i5:Int)-1))).bind fun v8=> k7 (cond false true (cond true (!v8.Set) false)) else k7 false else k7 false
) fun v9=> if v9 then some false else AC (τ:=Unit) (fun k10=> Ak (σ:=Unit) (fun _=> k10 ()
) (fun next11 (x12:Int) i13 _=> AC (τ:=Bool) (fun k14=>
(EC x12).bind fun v15=> if (!v15) then k14 true else if x4.Set then if (cond true (decide ((i13:Int) > 0)) false) then
(geti x4.ASNs (AD ((i13:Int)-1))).bind fun v16=> k14 (cond false true (cond true (decide (v16 ≥ x12)) false)) else k14 false else k14 false
) fun v17=> if v17 then some false else next11 ()
) x4.ASNs 0 ()
) fun _=> k6 ()
) fun _=> next3 (AD (v2+(x4.ASNs.length:Int)))
) a0 0 0
) fun v18=> some (decide (v18<=64))
def Dn (a0:List Int):Option Int:= if (decide ((a0.length:Int)<1)) then none else
(geti a0 0).bind fun v1=> AC (τ:=Int) (fun k2=> Ao (σ:=Int×Int) (fun next3 (v4,v5)=> if (decide (v5<(a0.length:Int))) then
(geti a0 v5).bind fun v6=> next3 ((if v6<v4 then v6 else v4),(AD (v5+1))) else k2 v4
) fuel (v1,1)
) fun v7=> some v7
def Do (a0:List Int):Option Int:= if (decide ((a0.length:Int)<1)) then none else
(geti a0 0).bind fun v1=> AC (τ:=Int) (fun k2=> Ao (σ:=Int×Int) (fun next3 (v4,v5)=> if (decide (v5<(a0.length:Int))) then
(geti a0 v5).bind fun v6=> next3 ((if v6 > v4 then v6 else v4),(AD (v5+1))) else k2 v4
) fuel (v1,1)
) fun v7=> some v7
def Dh (a0:Int)(a1:List Int):Option Bool:= AC (τ:=Bool) (fun k1=>
(Dn a1).bind fun v2=> if (decide (v2 ≥ 0)) then
(Do a1).bind fun v3=> k1 (cond true (decide (v3<=a0)) false) else k1 false
) fun v4=> some v4
def Eg (a0:JAB):Option Bool:=
(Dh 65535 ([a0.A,a0.B]:List Int)).bind fun v1=> some v1
def cmp_isNaN_int (a0:Int):Option Bool:= some (a0 != a0)
def cmp_Compare_int (a0:Int)(a1:Int):Option Int:=
(cmp_isNaN_int a0).bind fun v1=>
(cmp_isNaN_int a1).bind fun v2=> if v1 then if v2 then some 0 else some (-1) else if v2 then some 1 else if (decide (a0<a1)) then some (-1) else if (decide (a0 > a1)) then some 1 else some 0
def Et (a0:List Int):Option Int:= AC (τ:=Unit) (fun k1=> Ak (σ:=Unit) (fun _=> k1 ()
) (fun next2 (x3:Int) i4 _=> if (x3 != 0) then some x3 else next2 ()
) a0 0 ()
) fun _=> some 0
def D7 (a0:JAB)(a1:JAB):Option Int:=
(cmp_Compare_int a0.A a1.A).bind fun v1=>
(cmp_Compare_int a0.B a1.B).bind fun v2=>
(Et ([v1,v2]:List Int)).bind fun v3=> some v3
def Af (a0:List JAB):Option Bool:= AC (τ:=Unit) (fun k1=> Ak (σ:=Unit) (fun _=> k1 ()
) (fun next2 (x3:JAB) i4 _=> AC (τ:=Bool) (fun k5=>
(Eg x3).bind fun v6=> if (!v6) then k5 true else if (decide ((i4:Int) > 0)) then
(geti a0 (AD ((i4:Int)-1))).bind fun v7=>
(D7 v7 x3).bind fun v8=> k5 (cond false true (cond true (decide (v8 ≥ 0)) false)) else k5 false
) fun v9=> if v9 then some false else next2 ()
) a0 0 ()
) fun _=> some (decide ((a0.length:Int)<=64))
def DR (a0:List JAB):Option Bool:=
(Af a0).bind fun v1=> some v1
def DV (a0:JAF):Option Bool:=
(Dh 4294967295 ([a0.A,a0.B,a0.C]:List Int)).bind fun v1=> some v1
def CZ (a0:JAF)(a1:JAF):Option Int:=
(cmp_Compare_int a0.A a1.A).bind fun v1=>
(cmp_Compare_int a0.B a1.B).bind fun v2=>
(cmp_Compare_int a0.C a1.C).bind fun v3=>
(Et ([v1,v2,v3]:List Int)).bind fun v4=> some v4
def Ac (a0:List JAF):Option Bool:= AC (τ:=Unit) (fun k1=> Ak (σ:=Unit) (fun _=> k1 ()
) (fun next2 (x3:JAF) i4 _=> AC (τ:=Bool) (fun k5=>
(DV x3).bind fun v6=> if (!v6) then k5 true else if (decide ((i4:Int) > 0)) then
(geti a0 (AD ((i4:Int)-1))).bind fun v7=>
(CZ v7 x3).bind fun v8=> k5 (cond false true (cond true (decide (v8 ≥ 0)) false)) else k5 false
) fun v9=> if v9 then some false else next2 ()
) a0 0 ()
) fun _=> some (decide ((a0.length:Int)<=64))
def Bo (a0:List JAF):Option Bool:=
(Ac a0).bind fun v1=> some v1
def Bf (a0:Int):Option Bool:= AC (τ:=Bool) (fun k1=>
(some (Option.getD (BV Du a0) 0)).bind fun v2=> if (v2==0) then if (cond true (a0 != 14) false) then k1 (cond true (a0 != 15) false) else k1 false else k1 false
) fun v3=> some v3
def FD (a0:List JAA):Option Bool:= AC (τ:=Unit) (fun k1=> Ak (σ:=Unit) (fun _=> k1 ()
) (fun next2 (x3:JAA) i4 _=> AC (τ:=Bool) (fun k5=>
(Bf x3.Type_).bind fun v6=> if (!v6) then k5 true else
(BA x3.Type_ 1 255).bind fun v7=> if (cond false true (!v7)) then k5 true else if (cond false true (x3.Flags != 224)) then k5 true else if (cond false true (decide ((x3.Data.length:Int) > 255))) then k5 true else if (decide ((i4:Int) > 0)) then
(geti a0 (AD ((i4:Int)-1))).bind fun v8=> k5 (cond false true (cond true (decide (v8.Type_ ≥ x3.Type_)) false)) else k5 false
) fun v9=> if v9 then some false else next2 ()
) a0 0 ()
) fun _=> some (decide ((a0.length:Int)<=8))
def FQ (a0:JAE):Option Bool:= AC (τ:=Bool) (fun k1=>
(BA a0.Origin (-1) 2).bind fun v2=> if v2 then
(E8 a0.Path).bind fun v3=> if (cond true v3 false) then
(Em a0.Next).bind fun v4=> if (cond true v4 false) then
(BA a0.MED (-1) 4294967295).bind fun v5=> if (cond true v5 false) then
(BA a0.Pref (-1) 4294967295).bind fun v6=> if (cond true v6 false) then if (a0.OTC==(-1)) then
(DR a0.Communities).bind fun v7=> if (cond true v7 false) then
(Bo a0.JAF).bind fun v8=> if (cond true v8 false) then
(FD a0.Other).bind fun v9=> k1 (cond true v9 false) else k1 false else k1 false else
(EC a0.OTC).bind fun v10=> if (cond true (cond false true v10) false) then
(DR a0.Communities).bind fun v11=> if (cond true v11 false) then
(Bo a0.JAF).bind fun v12=> if (cond true v12 false) then
(FD a0.Other).bind fun v13=> k1 (cond true v13 false) else k1 false else k1 false else k1 false else k1 false else k1 false else k1 false else k1 false else k1 false
) fun v14=> some v14
def By (a0:List UInt8):Option (List UInt8):=
(apnd (α:=UInt8) 1 ([]:List UInt8) a0).bind fun v1=> some v1
def FP (a0:List UInt8)(a1:List Int):Option (List UInt8):= AC (τ:=(List UInt8)) (fun k1=> Ak (σ:=(List UInt8)) (fun v2=> k1 v2
) (fun next3 (x4:Int) i5 v2=>
(apnd (α:=UInt8) 1 v2 ([(Am (Int.fdiv x4 (2^(min (Int.toNat 24) 64)))),(Am (Int.fdiv x4 (2^(min (Int.toNat 16) 64)))),(Am (Int.fdiv x4 (2^(min (Int.toNat 8) 64)))),(Am x4)]:List UInt8)).bind fun v6=> next3 v6
) a1 0 a0
) fun v7=> some v7
def GL (a0:List JAD):Option (List UInt8):= AC (τ:=(List UInt8)) (fun k1=> Ak (σ:=(List UInt8)) (fun v2=> k1 v2
) (fun next3 (x4:JAD) i5 v2=> AC (τ:=UInt8) (fun k6=> if x4.Set then k6 (1:UInt8) else k6 (2:UInt8)
) fun v7=>
(apnd (α:=UInt8) 1 v2 ([v7,(Am (x4.ASNs.length:Int))]:List UInt8)).bind fun v8=>
(FP v8 x4.ASNs).bind fun v9=> next3 v9
) a0 0 []
) fun v10=> some v10
def EZ (a0:List JAB):Option (List UInt8):= AC (τ:=(List UInt8)) (fun k1=> Ak (σ:=(List UInt8)) (fun v2=> k1 v2
) (fun next3 (x4:JAB) i5 v2=>
(FP v2 ([(AD ((BitVec.ofInt 64 (AD (x4.A*(2^(min (Int.toNat 16) 64)))) ||| BitVec.ofInt 64 x4.B).toNat:Int))]:List Int)).bind fun v6=> next3 v6
) a0 0 []
) fun v7=> some v7
def HK (a0:List JAF):Option (List UInt8):= AC (τ:=(List UInt8)) (fun k1=> Ak (σ:=(List UInt8)) (fun v2=> k1 v2
) (fun next3 (x4:JAF) i5 v2=>
(FP v2 ([x4.A,x4.B,x4.C]:List Int)).bind fun v6=> next3 v6
) a0 0 []
) fun v7=> some v7
def D1 (a0:JAA)(a1:JAA):Option Int:=
(cmp_Compare_int a0.Type_ a1.Type_).bind fun v1=> some v1
def D3 (a1:List Int):Option (List UInt8):= AC (τ:=(List UInt8)) (fun k1=> Ak (σ:=(List UInt8)) (fun v2=> k1 v2
) (fun next3 (x4:Int) i5 v2=>
(apnd (α:=UInt8) 1 v2 ([(Am (Int.fdiv x4 (2^(min (Int.toNat 24) 64)))),(Am (Int.fdiv x4 (2^(min (Int.toNat 16) 64)))),(Am (Int.fdiv x4 (2^(min (Int.toNat 8) 64)))),(Am x4)]:List UInt8)).bind fun v6=> next3 v6
) a1 0 []
) fun v7=> some v7
def Ih (a0:JAA)(a1:JAA):Option Int:=
(cmp_Compare_int a0.Type_ a1.Type_).bind fun v1=> some v1
def E9 (a1:List JAC)(a2:Bool):Option (List UInt8):= AC (τ:=(List UInt8)) (fun k1=> Ak (σ:=(List UInt8)) (fun v2=> k1 v2
) (fun next3 (x4:JAC) i5 v2=> AC (τ:=(List UInt8)) (fun k6=> if (x4.Addr.V6==a2) then
(apnd (α:=UInt8) 1 v2 ([(Am x4.Len)]:List UInt8)).bind fun v7=>
(FS x4.Addr).bind fun v8=>
(part v8 0 (AD (Int.tdiv (AD (x4.Len+7)) 8))).bind fun v9=>
(apnd (α:=UInt8) 1 v7 v9).bind fun v10=> k6 v10 else k6 v2
) fun v11=> next3 v11
) a1 0 []
) fun v12=> some v12
def Kx (a0:JAG):Option (List JAA):= AC (τ:=Int×(List JAA)) (fun k1=>
(FQ a0.JAE).bind fun v2=> if (!v2) then k1 (1,[]) else AC (τ:=(List JAA)) (fun k3=> AC (τ:=(List JAA)) (fun k4=> if (a0.JAE.Origin != (-1)) then
(some (Option.getD (BV Du 1) 0)).bind fun v5=>
(apnd (α:=JAA) 40 [] ([(⟨v5,1,([(Am a0.JAE.Origin)]:List UInt8)⟩:JAA)]:List JAA)).bind fun _=> k4 ([(⟨v5,1,([(Am a0.JAE.Origin)]:List UInt8)⟩:JAA)]:List JAA) else k4 []
) fun v6=> k3 v6
) fun v7=> AC (τ:=(List JAA)) (fun k8=> if (a0.JAE.Origin != (-1)) then
(GL a0.JAE.Path).bind fun v9=> AC (τ:=(List JAA)) (fun k10=>
(some (Option.getD (BV Du 2) 0)).bind fun v11=>
(apnd (α:=JAA) 40 v7 ([(⟨v11,2,v9⟩:JAA)]:List JAA)).bind fun v12=> k10 v12
) fun v13=> k8 v13 else
(GL a0.JAE.Path).bind fun v14=> AC (τ:=(List JAA)) (fun k15=> AC (τ:=(List JAA)) (fun k16=> if (cond false true (decide ((a0.JAE.Path.length:Int) > 0))) then
(some (Option.getD (BV Du 2) 0)).bind fun v17=>
(apnd (α:=JAA) 40 v7 ([(⟨v17,2,v14⟩:JAA)]:List JAA)).bind fun v18=> k16 v18 else k16 v7
) fun v19=> k15 v19
) fun v20=> k8 v20
) fun v21=> AC (τ:=(List JAA)) (fun k22=> if (!a0.JAE.Next.V6) then
(FS a0.JAE.Next).bind fun v23=> AC (τ:=(List JAA)) (fun k24=> AC (τ:=(List JAA)) (fun k25=> if (cond true (!(Addr.eqd a0.JAE.Next (⟨false,(0:UInt64),(0:UInt64)⟩:Addr))) false) then
(some (Option.getD (BV Du 3) 0)).bind fun v26=>
(apnd (α:=JAA) 40 v21 ([(⟨v26,3,v23⟩:JAA)]:List JAA)).bind fun v27=> k25 v27 else k25 v21
) fun v28=> k24 v28
) fun v29=> k22 v29 else
(FS a0.JAE.Next).bind fun v30=> AC (τ:=Unit) (fun k31=> k31 ()
) fun _=> k22 v21
) fun v32=>
(D3 ([a0.JAE.MED]:List Int)).bind fun v33=> AC (τ:=(List JAA)) (fun k34=> AC (τ:=(List JAA)) (fun k35=> if (a0.JAE.MED != (-1)) then
(some (Option.getD (BV Du 4) 0)).bind fun v36=>
(apnd (α:=JAA) 40 v32 ([(⟨v36,4,v33⟩:JAA)]:List JAA)).bind fun v37=> k35 v37 else k35 v32
) fun v38=> k34 v38
) fun v39=>
(D3 ([a0.JAE.Pref]:List Int)).bind fun v40=> AC (τ:=(List JAA)) (fun k41=> AC (τ:=(List JAA)) (fun k42=> if (a0.JAE.Pref != (-1)) then
(some (Option.getD (BV Du 5) 0)).bind fun v43=>
(apnd (α:=JAA) 40 v39 ([(⟨v43,5,v40⟩:JAA)]:List JAA)).bind fun v44=> k42 v44 else k42 v39
) fun v45=> k41 v45
) fun v46=>
(EZ a0.JAE.Communities).bind fun v47=> AC (τ:=(List JAA)) (fun k48=> AC (τ:=(List JAA)) (fun k49=> if (decide ((a0.JAE.Communities.length:Int) > 0)) then
(some (Option.getD (BV Du 8) 0)).bind fun v50=>
(apnd (α:=JAA) 40 v46 ([(⟨v50,8,v47⟩:JAA)]:List JAA)).bind fun v51=> k49 v51 else k49 v46
) fun v52=> k48 v52
) fun v53=>
(HK a0.JAE.JAF).bind fun v54=> AC (τ:=(List JAA)) (fun k55=> AC (τ:=(List JAA)) (fun k56=> if (decide ((a0.JAE.JAF.length:Int) > 0)) then
(some (Option.getD (BV Du 32) 0)).bind fun v57=>
(apnd (α:=JAA) 40 v53 ([(⟨v57,32,v54⟩:JAA)]:List JAA)).bind fun v58=> k56 v58 else k56 v53
) fun v59=> k55 v59
) fun v60=>
(D3 ([a0.JAE.OTC]:List Int)).bind fun v61=> AC (τ:=(List JAA)) (fun k62=> AC (τ:=(List JAA)) (fun k63=> if (a0.JAE.OTC != (-1)) then
(some (Option.getD (BV Du 35) 0)).bind fun v64=>
(apnd (α:=JAA) 40 v60 ([(⟨v64,35,v61⟩:JAA)]:List JAA)).bind fun v65=> k63 v65 else k63 v60
) fun v66=> k62 v66
) fun v67=> AC (τ:=(List JAA)) (fun k68=> Ak (σ:=(List JAA)) (fun v69=> k68 v69
) (fun next70 (x71:JAA) i72 v69=>
(By x71.Data).bind fun v73=>
(apnd (α:=JAA) 40 v69 ([{ x71 with Data:=v73 }]:List JAA)).bind fun v74=> next70 v74
) a0.JAE.Other 0 v67
) fun v75=>
(Ez D1 v75).bind fun v76=> k1 (0,v76)
) fun (v77,v78)=> AC (τ:=Bool) (fun k79=> if (decide ((a0.Announce.length:Int) > 0)) then k79 (cond true a0.JAE.Next.V6 false) else k79 false
) fun v80=> AC (τ:=(List JAA)) (fun k81=> if v80 then
(FS a0.JAE.Next).bind fun v82=>
(apnd (α:=UInt8) 1 ([(0:UInt8),(2:UInt8),(1:UInt8),(16:UInt8)]:List UInt8) v82).bind fun v83=>
(apnd (α:=UInt8) 1 v83 ([(0:UInt8)]:List UInt8)).bind fun v84=>
(HZ v84 a0.Announce true).bind fun v85=>
(apnd (α:=JAA) 40 v78 ([(⟨128,14,v85⟩:JAA)]:List JAA)).bind fun v86=> k81 v86 else k81 v78
) fun v87=>
(E9 a0.Withdraw true).bind fun v88=> AC (τ:=(List JAA)) (fun k89=> if (decide ((v88.length:Int) > 0)) then
(apnd (α:=UInt8) 1 ([(0:UInt8),(2:UInt8),(1:UInt8)]:List UInt8) v88).bind fun v90=>
(apnd (α:=JAA) 40 v87 ([(⟨128,15,v90⟩:JAA)]:List JAA)).bind fun v91=> k89 v91 else k89 v87
) fun v92=>
(Ez Ih v92).bind fun v93=> some v93
def Hm (a1:Int):Option (List UInt8):=
(apnd (α:=UInt8) 1 [] ([(Am (Int.fdiv a1 (2^(min (Int.toNat 8) 64)))),(Am a1)]:List UInt8)).bind fun _=> some ([(Am (Int.fdiv a1 (2^(min (Int.toNat 8) 64)))),(Am a1)]:List UInt8)
def IP (a0:JAG):Option ((List UInt8)×Bool):=
(Kx a0).bind fun v1=>
(Ht v1).bind fun (v2,v3)=>
(E9 a0.Withdraw false).bind fun v4=>
(Hm (v4.length:Int)).bind fun v5=>
(apnd (α:=UInt8) 1 v5 v4).bind fun v6=>
(MQ v6 (v2.length:Int)).bind fun v7=>
(apnd (α:=UInt8) 1 v7 v2).bind fun v8=>
(HZ v8 a0.Announce false).bind fun v9=> AC (τ:=Bool) (fun k10=> if (v3==0) then k10 (cond true (decide ((v9.length:Int)<=4077)) false) else k10 false
) fun v11=> some (v9,v11)
def CY (a0:Addr):Option Int:= if a0.V6 then some 128 else some 32
def FA (a0:Int):Option (UInt64×UInt64):= if (decide (a0 > 64)) then some ((Ad (((Ad (1*(2^(min (Int.toNat ((Ad (AD (a0-64))).toNat:Int)) 64)))).toNat:Int)-1)),(18446744073709551615:UInt64)) else some ((0:UInt64),(Ad (((Ad (1*(2^(min (Int.toNat ((Ad a0).toNat:Int)) 64)))).toNat:Int)-1)))
def D6 (a0:Addr)(a1:Int):Option Addr:=
(CY a0).bind fun v1=>
(FA (AD (v1-a1))).bind fun (v2,v3)=> some (⟨a0.V6,(Ad ((BitVec.ofInt 64 (a0.Hi.toNat:Int) &&& ~~~BitVec.ofInt 64 (v2.toNat:Int)).toNat:Int)),(Ad ((BitVec.ofInt 64 (a0.Lo.toNat:Int) &&& ~~~BitVec.ofInt 64 (v3.toNat:Int)).toNat:Int))⟩:Addr)
def Jb (a0:JAC):Option Bool:= AC (τ:=Bool) (fun k1=>
(Em a0.Addr).bind fun v2=> if v2 then if (cond true (decide (a0.Len ≥ 0)) false) then
(CY a0.Addr).bind fun v3=> if (cond true (decide (a0.Len<=v3)) false) then
(D6 a0.Addr a0.Len).bind fun v4=> k1 (cond true (Addr.eqd v4 a0.Addr) false) else k1 false else k1 false else k1 false
) fun v5=> some v5
def Hr (a0:JAC):Option Bool:=
(Jb a0).bind fun v1=> some (!v1)
def FR:Option JAE:= some (⟨(-1),[],(⟨false,(0:UInt64),(0:UInt64)⟩:Addr),(-1),(-1),(-1),[],[],[]⟩:JAE)
def Jq (a0:JAE):Option Bool:= AC (τ:=Unit) (fun k1=> k1 ()
) fun _=> AC (τ:=Bool) (fun k2=> if (a0.Origin==(-1)) then if (cond true (a0.MED==(-1)) false) then if (cond true (a0.Pref==(-1)) false) then if (cond true (a0.OTC==(-1)) false) then if (cond true (Addr.eqd a0.Next (⟨false,(0:UInt64),(0:UInt64)⟩:Addr)) false) then k2 (cond true ((AD ((AD ((AD ((a0.Path.length:Int)+(a0.Communities.length:Int)))+(a0.JAF.length:Int)))+(a0.Other.length:Int)))==0) false) else k2 false else k2 false else k2 false else k2 false else k2 false
) fun v3=> some v3
def Ik (a0:JAC)(a1:JAG):Option (Bool×JAG):= some ((!(a0.Addr.V6==a1.JAE.Next.V6)),a1)
def A9 (a0:List JAC)(a1c0:JAG):Option (Int×JAG):= AC (τ:=JAG) (fun k1=> Ak (σ:=JAG) (fun v2=> k1 v2
) (fun next3 (x4:JAC) i5 v2=>
(Ik x4 v2).bind fun (v6,v7)=> if v6 then some ((i5:Int),v7) else next3 v7
) a0 0 a1c0
) fun v8=> some ((-1),v8)
def A6 (a0:List JAC)(a1c0:JAG):Option (Bool×JAG):=
(A9 a0 a1c0).bind fun (v1,v2)=> some ((decide (v1 ≥ 0)),v2)
def KQ (a0:JAG):Option Bool:= if ((a0.Announce.length:Int)==0) then
(Jq a0.JAE).bind fun v1=> some v1 else AC (τ:=Bool) (fun k2=>
(FQ a0.JAE).bind fun v3=> if v3 then if (cond true (a0.JAE.Origin != (-1)) false) then if (cond true (!(Addr.eqd a0.JAE.Next (⟨false,(0:UInt64),(0:UInt64)⟩:Addr))) false) then
(A6 a0.Announce a0).bind fun (v4,v5)=> k2 (cond true (!v4) false) else k2 false else k2 false else k2 false
) fun v6=> some v6
def A8 (a0:List JAC):Option Int:= AC (τ:=Unit) (fun k1=> Ak (σ:=Unit) (fun _=> k1 ()
) (fun next2 (x3:JAC) i4 _=>
(Hr x3).bind fun v5=> if v5 then some (i4:Int) else next2 ()
) a0 0 ()
) fun _=> some (-1)
def Aq (a0:List JAC):Option Bool:=
(A8 a0).bind fun v1=> some (decide (v1 ≥ 0))
def JO (a0:JAG):Option Bool:= AC (τ:=Bool) (fun k1=> if (decide ((a0.Withdraw.length:Int) > 256)) then k1 true else if (cond false true (decide ((a0.Announce.length:Int) > 256))) then k1 true else
(Aq a0.Withdraw).bind fun v2=> if (cond false true v2) then k1 true else
(Aq a0.Announce).bind fun v3=> if (cond false true v3) then k1 true else
(KQ a0).bind fun v4=> k1 (cond false true (!v4))
) fun v5=> if v5 then some false else
(IP a0).bind fun (v6,v7)=> some v7
def If (a0:JAG):Option ((List UInt8)×Int):=
(JO a0).bind fun v1=> if (!v1) then some ([],1) else
(IP a0).bind fun (v2,v3)=> some (v2,0)
def GN (a0:JAG):Option ((List UInt8)×Int):=
(F3 a0).bind fun v1=> if (!v1) then some ([],1) else
(Ey a0).bind fun (v2,v3)=> some (v2,v3)
def Dc (a0:List JAA):Option (List JAA):= AC (τ:=(List JAA)) (fun k1=> Ak (σ:=(List (Int×Bool))×(List JAA)) (fun (v2,v3)=> k1 v3
) (fun next4 (x5:JAA) i6 (v2,v3)=>
(some (Option.getD (BV v2 x5.Type_) false)).bind fun v7=> AC (τ:=(List JAA)) (fun k8=> if (!v7) then
(apnd (α:=JAA) 40 v3 ([x5]:List JAA)).bind fun v9=> k8 v9 else k8 v3
) fun v10=> next4 ((Cf v2 x5.Type_ true),v10)
) a0 0 ([],[])
) fun v11=> some v11
def Df (a0:JAA):Option Bool:= AC (τ:=Bool) (fun k1=>
(Bf a0.Type_).bind fun v2=> if v2 then k1 (cond true ((AD ((BitVec.ofInt 64 a0.Flags &&& BitVec.ofInt 64 128).toNat:Int))==0) false) else k1 false
) fun v3=> some v3
def BQ (a0:JAA):Option Bool:= AC (τ:=Bool) (fun k1=>
(some (Option.getD (BV Du a0.Type_) 0)).bind fun v2=> if ((AD ((BitVec.ofInt 64 (AD ((BitVec.ofInt 64 a0.Flags ^^^ BitVec.ofInt 64 v2).toNat:Int)) &&& BitVec.ofInt 64 192).toNat:Int))==0) then
(some (Option.getD (BV Du a0.Type_) 0)).bind fun v3=> if (v3==192) then k1 true else k1 (cond true (cond false true ((AD ((BitVec.ofInt 64 a0.Flags &&& BitVec.ofInt 64 32).toNat:Int))==0)) false) else k1 false
) fun v4=> some v4
def CC (a0:List UInt8):Option Int:= AC (τ:=Int) (fun k1=> Ak (σ:=Int) (fun v2=> k1 v2
) (fun next3 (x4:UInt8) i5 v2=> next3 (AD ((BitVec.ofInt 64 (AD (v2*(2^(min (Int.toNat 8) 64)))) ||| BitVec.ofInt 64 (x4.toNat:Int)).toNat:Int))
) a0 0 0
) fun v6=> some v6
def Cb (a0:List UInt8):Option (List Int):= AC (τ:=(List Int)) (fun k1=> Ao (σ:=(List UInt8)×(List Int)) (fun next2 (v3,v4)=> if (decide ((v3.length:Int) ≥ 4)) then
(part v3 0 4).bind fun v5=>
(CC v5).bind fun v6=>
(apnd (α:=Int) 8 v4 ([v6]:List Int)).bind fun v7=>
(part v3 4 (v3.length:Int)).bind fun v8=> next2 (v8,v7) else k1 v4
) fuel (a0,[])
) fun v9=> some v9
def Bz (a0:List Int):Option (List Int):= if (decide ((a0.length:Int)<2)) then some a0 else AC (τ:=Unit) (fun k1=> Ao (σ:=Int) (fun next2 v3=> if (decide (v3<(a0.length:Int))) then AC (τ:=Unit) (fun k4=>
(geti a0 v3).bind fun v5=>
(geti a0 (AD (v3-1))).bind fun v6=> if (v5==v6) then
(chk (0<=v3/\v3<=(a0.length:Int)/\(a0.length:Int)<=(a0.length:Int))).bind fun _=> AC (τ:=Int×(List Int)) (fun k7=> Ao (σ:=Int×Int×(List Int)) (fun next8 (v9,v10,v11)=> if (decide (v10<(((Int.toNat (a0.length:Int)-Int.toNat v3):Nat):Int))) then
(geti (List.take (Int.toNat (a0.length:Int)-Int.toNat v3) (List.drop (Int.toNat v3) v11)) v10).bind fun v12=>
(geti (List.take (Int.toNat (a0.length:Int)-Int.toNat v3) (List.drop (Int.toNat v3) v11)) (AD (v10-1))).bind fun v13=> AC (τ:=Int×(List Int)) (fun k14=> if (v12 != v13) then
(geti (List.take (Int.toNat (a0.length:Int)-Int.toNat v3) (List.drop (Int.toNat v3) v11)) v10).bind fun v15=>
(geti v11 v9).bind fun v16=>
(seti v11 v9 v15).bind fun v17=> k14 ((AD (v9+1)),v17) else k14 (v9,v11)
) fun (v18,v19)=> next8 (v18,(AD (v10+1)),v19) else k7 (v9,v11)
) fuel (v3,1,a0)
) fun (v20,v21)=>
(chk (0<=v20/\v20<=(v21.length:Int)/\(v21.length:Int)<=(v21.length:Int))).bind fun _=>
(part (List.take (Int.toNat v20) v21++List.replicate (Int.toNat (v21.length:Int)-Int.toNat v20) 0++List.drop ((Int.toNat v20)+(Int.toNat (v21.length:Int)-Int.toNat v20)) v21) 0 v20).bind fun v22=> some v22 else k4 ()
) fun _=> next2 (AD (v3+1)) else k1 ()
) fuel 1
) fun _=> some a0
def BF (a0:List UInt8):Option (Addr×Int):= AC (τ:=Bool) (fun k1=> if ((a0.length:Int) != 4) then k1 (cond true ((a0.length:Int) != 16) false) else k1 false
) fun v2=> if v2 then some ((⟨false,(0:UInt64),(0:UInt64)⟩:Addr),1) else AC (τ:=Addr) (fun k3=> Ak (σ:=Addr) (fun v4=> k3 v4
) (fun next5 (x6:UInt8) i7 v4=> next5 (⟨v4.V6,(Ad ((BitVec.ofInt 64 ((Ad ((v4.Hi.toNat:Int)*(2^(min (Int.toNat 8) 64)))).toNat:Int) ||| BitVec.ofInt 64 ((Ad (Int.fdiv (v4.Lo.toNat:Int) (2^(min (Int.toNat 56) 64)))).toNat:Int)).toNat:Int)),(Ad ((BitVec.ofInt 64 ((Ad ((v4.Lo.toNat:Int)*(2^(min (Int.toNat 8) 64)))).toNat:Int) ||| BitVec.ofInt 64 ((Ad (x6.toNat:Int)).toNat:Int)).toNat:Int))⟩:Addr)
) a0 0 (⟨((a0.length:Int)==16),(0:UInt64),(0:UInt64)⟩:Addr)
) fun v8=> some (v8,0)
def Ax (a0:List JAB):Option (List JAB):= if (decide ((a0.length:Int)<2)) then some a0 else AC (τ:=Unit) (fun k1=> Ao (σ:=Int) (fun next2 v3=> if (decide (v3<(a0.length:Int))) then AC (τ:=Unit) (fun k4=>
(geti a0 v3).bind fun v5=>
(geti a0 (AD (v3-1))).bind fun v6=> if (JAB.eqd v5 v6) then
(chk (0<=v3/\v3<=(a0.length:Int)/\(a0.length:Int)<=(a0.length:Int))).bind fun _=> AC (τ:=Int×(List JAB)) (fun k7=> Ao (σ:=Int×Int×(List JAB)) (fun next8 (v9,v10,v11)=> if (decide (v10<(((Int.toNat (a0.length:Int)-Int.toNat v3):Nat):Int))) then
(geti (List.take (Int.toNat (a0.length:Int)-Int.toNat v3) (List.drop (Int.toNat v3) v11)) v10).bind fun v12=>
(geti (List.take (Int.toNat (a0.length:Int)-Int.toNat v3) (List.drop (Int.toNat v3) v11)) (AD (v10-1))).bind fun v13=> AC (τ:=Int×(List JAB)) (fun k14=> if (!(JAB.eqd v12 v13)) then
(geti (List.take (Int.toNat (a0.length:Int)-Int.toNat v3) (List.drop (Int.toNat v3) v11)) v10).bind fun v15=>
(geti v11 v9).bind fun v16=>
(seti v11 v9 v15).bind fun v17=> k14 ((AD (v9+1)),v17) else k14 (v9,v11)
) fun (v18,v19)=> next8 (v18,(AD (v10+1)),v19) else k7 (v9,v11)
) fuel (v3,1,a0)
) fun (v20,v21)=>
(chk (0<=v20/\v20<=(v21.length:Int)/\(v21.length:Int)<=(v21.length:Int))).bind fun _=>
(part (List.take (Int.toNat v20) v21++List.replicate (Int.toNat (v21.length:Int)-Int.toNat v20) (⟨0,0⟩:JAB)++List.drop ((Int.toNat v20)+(Int.toNat (v21.length:Int)-Int.toNat v20)) v21) 0 v20).bind fun v22=> some v22 else k4 ()
) fun _=> next2 (AD (v3+1)) else k1 ()
) fuel 1
) fun _=> some a0
def Bg (a0:JAB)(a1:JAB):Option Int:=
(cmp_Compare_int a0.A a1.A).bind fun v1=>
(cmp_Compare_int a0.B a1.B).bind fun v2=>
(Et ([v1,v2]:List Int)).bind fun v3=> some v3
def BC (a0:List JAF):Option (List JAF):= if (decide ((a0.length:Int)<2)) then some a0 else AC (τ:=Unit) (fun k1=> Ao (σ:=Int) (fun next2 v3=> if (decide (v3<(a0.length:Int))) then AC (τ:=Unit) (fun k4=>
(geti a0 v3).bind fun v5=>
(geti a0 (AD (v3-1))).bind fun v6=> if (JAF.eqd v5 v6) then
(chk (0<=v3/\v3<=(a0.length:Int)/\(a0.length:Int)<=(a0.length:Int))).bind fun _=> AC (τ:=Int×(List JAF)) (fun k7=> Ao (σ:=Int×Int×(List JAF)) (fun next8 (v9,v10,v11)=> if (decide (v10<(((Int.toNat (a0.length:Int)-Int.toNat v3):Nat):Int))) then
(geti (List.take (Int.toNat (a0.length:Int)-Int.toNat v3) (List.drop (Int.toNat v3) v11)) v10).bind fun v12=>
(geti (List.take (Int.toNat (a0.length:Int)-Int.toNat v3) (List.drop (Int.toNat v3) v11)) (AD (v10-1))).bind fun v13=> AC (τ:=Int×(List JAF)) (fun k14=> if (!(JAF.eqd v12 v13)) then
(geti (List.take (Int.toNat (a0.length:Int)-Int.toNat v3) (List.drop (Int.toNat v3) v11)) v10).bind fun v15=>
(geti v11 v9).bind fun v16=>
(seti v11 v9 v15).bind fun v17=> k14 ((AD (v9+1)),v17) else k14 (v9,v11)
) fun (v18,v19)=> next8 (v18,(AD (v10+1)),v19) else k7 (v9,v11)
) fuel (v3,1,a0)
) fun (v20,v21)=>
(chk (0<=v20/\v20<=(v21.length:Int)/\(v21.length:Int)<=(v21.length:Int))).bind fun _=>
(part (List.take (Int.toNat v20) v21++List.replicate (Int.toNat (v21.length:Int)-Int.toNat v20) (⟨0,0,0⟩:JAF)++List.drop ((Int.toNat v20)+(Int.toNat (v21.length:Int)-Int.toNat v20)) v21) 0 v20).bind fun v22=> some v22 else k4 ()
) fun _=> next2 (AD (v3+1)) else k1 ()
) fuel 1
) fun _=> some a0
def Ci (a0:JAF)(a1:JAF):Option Int:=
(cmp_Compare_int a0.A a1.A).bind fun v1=>
(cmp_Compare_int a0.B a1.B).bind fun v2=>
(cmp_Compare_int a0.C a1.C).bind fun v3=>
(Et ([v1,v2,v3]:List Int)).bind fun v4=> some v4
def Di (a0:JAA)(a1:JAA):Option Int:=
(cmp_Compare_int a0.Type_ a1.Type_).bind fun v1=> some v1
def A2 (a0:List JAA):Option Int:= AC (τ:=Unit) (fun k1=> Ak (σ:=Unit) (fun _=> k1 ()
) (fun next2 (x3:JAA) i4 _=>
(Df x3).bind fun v5=> if v5 then some (i4:Int) else next2 ()
) a0 0 ()
) fun _=> some (-1)
def Aj (a0:List JAA):Option Bool:=
(A2 a0).bind fun v1=> some (decide (v1 ≥ 0))
def Ed {ρ:Type}(F:Option ρ)(next16:Int×Bool×UInt64×UInt64×Int×Int×Int×(List JAD)×(List JAB)×(List JAF)->Option ρ)(x17:JAA):Int×Bool×UInt64×UInt64×Int×Int×Int×(List JAD)×(List JAB)×(List JAF)->Option ρ:=fun (v6,v7,v8,v9,v10,v11,v12,v13,v14,v15)=> AC (τ:=Int×Bool×UInt64×UInt64×Int×Int×Int×(List JAD)×(List JAB)×(List JAF)) (fun k19=> if (x17.Type_==1) then AC (τ:=Bool×Int) (fun k20=>
(BQ x17).bind fun v21=> if (!v21) then k20 (true,v6) else AC (τ:=Bool×Int) (fun k22=>
(CC x17.Data).bind fun v23=> AC (τ:=Bool) (fun k24=> if ((x17.Data.length:Int)==1) then k24 (cond true (decide (v23<=2)) false) else k24 false
) fun v25=> k22 (v25,v23)
) fun (v26,v27)=> k20 ((cond true (cond false true (!v26)) false),v27)
) fun (v28,v29)=> if v28 then F else k19 (v29,v7,v8,v9,v10,v11,v12,v13,v14,v15) else if (x17.Type_==2) then AC (τ:=Bool×(List JAD)) (fun k30=>
(BQ x17).bind fun v31=> if (!v31) then k30 (true,v13) else AC (τ:=Bool×(List JAD)) (fun k32=> AC (τ:=(List JAD)) (fun k33=>
(chk (v13=[])).bind fun _=> Ao (σ:=(List UInt8)×(List JAD)×Nat×(List Int)) (fun next34 (v35,v36,v37,v38)=> if (decide ((v35.length:Int) > 0)) then AC (τ:=Bool) (fun k39=> if (decide ((v35.length:Int)<2)) then k39 true else
(geti v35 0).bind fun v40=> if ((v40.toNat:Int) != 1) then
(geti v35 0).bind fun v41=> if (cond false true (cond true ((v41.toNat:Int) != 2) false)) then k39 true else
(geti v35 1).bind fun v42=> if (cond false true (decide ((v35.length:Int)<(AD (2+(AD (4*(v42.toNat:Int)))))))) then k39 true else
(geti v35 1).bind fun v43=> k39 (cond false true ((v43.toNat:Int)==0)) else
(geti v35 1).bind fun v44=> if (cond false true (decide ((v35.length:Int)<(AD (2+(AD (4*(v44.toNat:Int)))))))) then k39 true else
(geti v35 1).bind fun v45=> k39 (cond false true ((v45.toNat:Int)==0))
) fun v46=> if v46 then k32 (false,v36) else
(geti v35 1).bind fun v47=>
(geti v35 0).bind fun v48=>
(part v35 2 (AD (2+(AD (4*(v47.toNat:Int)))))).bind fun v49=>
(Cb v49).bind fun v50=>
(part v35 (AD (2+(AD (4*(v47.toNat:Int))))) (v35.length:Int)).bind fun v51=> AC (τ:=(List Int)) (fun k52=> if ((v48.toNat:Int)==1) then
(Lx v50).bind fun v53=>
(Bz v53).bind fun v54=> k52 v54 else k52 v50
) fun v55=> AC (τ:=Bool) (fun k56=> if (decide ((AD ((v36.length:Int)-1)) ≥ 0)) then if (cond true (!((v48.toNat:Int)==1)) false) then
(geti v36 (AD ((v36.length:Int)-1))).bind fun v57=> k56 (cond true (!v57.Set) false) else k56 false else k56 false
) fun v58=> AC (τ:=(List JAD)×Nat×(List Int)) (fun k59=> if v58 then
(geti v36 (AD ((v36.length:Int)-1))).bind fun v60=>
(chk (Int.toNat (AD ((v36.length:Int)-1))=v37)).bind fun _=>
(apnd (α:=Int) 8 v38 v55).bind fun v61=>
(geti v36 (AD ((v36.length:Int)-1))).bind fun v62=>
(seti v36 (AD ((v36.length:Int)-1)) (⟨v62.Set,v61⟩:JAD)).bind fun v63=> k59 (v63,(Int.toNat (AD ((v36.length:Int)-1))),v61) else
(apnd (α:=JAD) 32 v36 ([(⟨((v48.toNat:Int)==1),v55⟩:JAD)]:List JAD)).bind fun v64=> k59 (v64,((List.map JAD.toD v36).length+0),v55)
) fun (v65,v66,v67)=> next34 (v51,v65,v66,v67) else k33 v36
) fuel (x17.Data,v13,0,[])
) fun v68=>
(E8 v68).bind fun v69=> k32 (v69,v68)
) fun (v70,v71)=> k30 ((cond true (cond false true (!v70)) false),v71)
) fun (v72,v73)=> if v72 then F else k19 (v6,v7,v8,v9,v10,v11,v12,v73,v14,v15) else if (x17.Type_==3) then AC (τ:=Bool×Bool×UInt64×UInt64) (fun k74=>
(BQ x17).bind fun v75=> if (!v75) then k74 (true,v7,v8,v9) else AC (τ:=Bool×UInt64×UInt64) (fun k76=>
(BF x17.Data).bind fun (v77,v78)=> k76 (v77.V6,v77.Hi,v77.Lo)
) fun (v79,v80,v81)=> k74 ((cond true (cond false true (!((x17.Data.length:Int)==4))) false),v79,v80,v81)
) fun (v82,v83,v84,v85)=> if v82 then F else k19 (v6,v83,v84,v85,v10,v11,v12,v13,v14,v15) else if (x17.Type_==4) then AC (τ:=Bool×Int) (fun k86=>
(BQ x17).bind fun v87=> if (!v87) then k86 (true,v10) else AC (τ:=Int) (fun k88=> AC (τ:=Int) (fun k89=>
(CC x17.Data).bind fun v90=> k89 v90
) fun v91=> k88 v91
) fun v92=> k86 ((cond true (cond false true (!((x17.Data.length:Int)==4))) false),v92)
) fun (v93,v94)=> if v93 then F else k19 (v6,v7,v8,v9,v94,v11,v12,v13,v14,v15) else if (x17.Type_==5) then AC (τ:=Bool×Int) (fun k95=>
(BQ x17).bind fun v96=> if (!v96) then k95 (true,v11) else AC (τ:=Int) (fun k97=> AC (τ:=Int) (fun k98=>
(CC x17.Data).bind fun v99=> k98 v99
) fun v100=> k97 v100
) fun v101=> k95 ((cond true (cond false true (!((x17.Data.length:Int)==4))) false),v101)
) fun (v102,v103)=> if v102 then F else k19 (v6,v7,v8,v9,v10,v103,v12,v13,v14,v15) else if (x17.Type_==8) then AC (τ:=Bool×(List JAB)) (fun k104=>
(BQ x17).bind fun v105=> if (!v105) then k104 (true,v14) else AC (τ:=Bool×(List JAB)) (fun k106=>
(Cb x17.Data).bind fun v107=> AC (τ:=(List JAB)) (fun k108=> Ak (σ:=(List JAB)) (fun v109=> k108 v109
) (fun next110 (x111:Int) i112 v109=>
(apnd (α:=JAB) 16 v109 ([(⟨(Int.fdiv x111 (2^(min (Int.toNat 16) 64))),(AD ((BitVec.ofInt 64 x111 &&& BitVec.ofInt 64 65535).toNat:Int))⟩:JAB)]:List JAB)).bind fun v113=> next110 v113
) v107 0 []
) fun v114=> AC (τ:=Bool×(List JAB)) (fun k115=> AC (τ:=Bool) (fun k116=> if (decide ((v114.length:Int) > 0)) then k116 (cond true (decide ((v114.length:Int)<=64)) false) else k116 false
) fun v117=>
(Ez Bg v114).bind fun v118=>
(Ax v118).bind fun v119=> k115 (v117,v119)
) fun (v120,v121)=> AC (τ:=Bool) (fun k122=> if v120 then if (cond true ((Int.tmod (x17.Data.length:Int) 4)==0) false) then
(DR v121).bind fun v123=> k122 (cond true v123 false) else k122 false else k122 false
) fun v124=> k106 (v124,v121)
) fun (v125,v126)=> k104 ((cond true (cond false true (!v125)) false),v126)
) fun (v127,v128)=> if v127 then F else k19 (v6,v7,v8,v9,v10,v11,v12,v13,v128,v15) else if (x17.Type_==32) then AC (τ:=Bool×(List JAF)) (fun k129=>
(BQ x17).bind fun v130=> if (!v130) then k129 (true,v15) else AC (τ:=Bool×(List JAF)) (fun k131=> if ((Int.tmod (x17.Data.length:Int) 12) != 0) then k131 (false,v15) else
(Cb x17.Data).bind fun v132=> AC (τ:=(List JAF)) (fun k133=> Ao (σ:=(List JAF)×(List Int)) (fun next134 (v135,v136)=> if (decide ((v136.length:Int) > 0)) then
(geti v136 0).bind fun v137=>
(geti v136 1).bind fun v138=>
(geti v136 2).bind fun v139=>
(apnd (α:=JAF) 24 v135 ([(⟨v137,v138,v139⟩:JAF)]:List JAF)).bind fun v140=>
(part v136 3 (v136.length:Int)).bind fun v141=> next134 (v140,v141) else k133 v135
) fuel ([],v132)
) fun v142=> AC (τ:=Bool×(List JAF)) (fun k143=> AC (τ:=Bool) (fun k144=> if (decide ((v142.length:Int) > 0)) then k144 (cond true (decide ((v142.length:Int)<=64)) false) else k144 false
) fun v145=>
(Ez Ci v142).bind fun v146=>
(BC v146).bind fun v147=> k143 (v145,v147)
) fun (v148,v149)=> AC (τ:=Bool) (fun k150=> if v148 then
(Bo v149).bind fun v151=> k150 (cond true v151 false) else k150 false
) fun v152=> k131 (v152,v149)
) fun (v153,v154)=> k129 ((cond true (cond false true (!v153)) false),v154)
) fun (v155,v156)=> if v155 then F else k19 (v6,v7,v8,v9,v10,v11,v12,v13,v14,v156) else if (x17.Type_==35) then AC (τ:=Bool×Int) (fun k157=>
(BQ x17).bind fun v158=> if (!v158) then k157 (true,v12) else AC (τ:=Bool×Int) (fun k159=> AC (τ:=Bool×Int) (fun k160=> AC (τ:=Int) (fun k161=>
(CC x17.Data).bind fun v162=> k161 v162
) fun v163=> if ((x17.Data.length:Int)==4) then
(EC v163).bind fun v164=> k160 ((cond true v164 false),v163) else k160 (false,v163)
) fun (v165,v166)=> k159 (v165,v166)
) fun (v167,v168)=> k157 ((cond true (cond false true (!v167)) false),v168)
) fun (v169,v170)=> if v169 then F else k19 (v6,v7,v8,v9,v10,v11,v170,v13,v14,v15) else k19 (v6,v7,v8,v9,v10,v11,v12,v13,v14,v15)
) fun (v171,v172,v173,v174,v175,v176,v177,v178,v179,v180)=> next16 (v171,v172,v173,v174,v175,v176,v177,v178,v179,v180)
def EE (a0:List JAA):Option (JAE×Int):=
(Dc a0).bind fun v1=>
(Aj v1).bind fun v2=> if v2 then some ((⟨0,[],(⟨false,(0:UInt64),(0:UInt64)⟩:Addr),0,0,0,[],[],[]⟩:JAE),12) else AC (τ:=Int×Bool×UInt64×UInt64×Int×Int×Int×Bool×(List JAD)×(List JAB)×(List JAF)) (fun k3=> AC (τ:=Unit) (fun k4=> k4 ()
) fun _=> AC (τ:=Int×Bool×UInt64×UInt64×Int×Int×Int×(List JAD)×(List JAB)×(List JAF)) (fun k5=> Ak (σ:=Int×Bool×UInt64×UInt64×Int×Int×Int×(List JAD)×(List JAB)×(List JAF)) (fun (v6,v7,v8,v9,v10,v11,v12,v13,v14,v15)=> k5 (v6,v7,v8,v9,v10,v11,v12,v13,v14,v15)
) (fun next16 (x17:JAA) i18 s=>Ed (k3 (0,false,(0:UInt64),(0:UInt64),0,0,0,false,[],[],[])) next16 x17 s
) v1 0 ((-1),false,(0:UInt64),(0:UInt64),(-1),(-1),(-1),[],[],[])
) fun (v181,v182,v183,v184,v185,v186,v187,v188,v189,v190)=> k3 (v181,v182,v183,v184,v185,v186,v187,true,v188,v189,v190)
) fun (v191,v192,v193,v194,v195,v196,v197,v198,v199,v200,v201)=> if (!v198) then some ((⟨0,[],(⟨false,(0:UInt64),(0:UInt64)⟩:Addr),0,0,0,[],[],[]⟩:JAE),13) else AC (τ:=(List JAA)) (fun k202=> Ak (σ:=(List JAA)) (fun v203=> k202 v203
) (fun next204 (x205:JAA) i206 v203=> AC (τ:=Bool) (fun k207=>
(Bf x205.Type_).bind fun v208=> if v208 then
(BA x205.Type_ 1 255).bind fun v209=> if (cond true v209 false) then if (cond true ((AD ((BitVec.ofInt 64 x205.Flags &&& BitVec.ofInt 64 64).toNat:Int)) != 0) false) then k207 (cond true (decide ((x205.Data.length:Int)<=255)) false) else k207 false else k207 false else k207 false
) fun v210=> AC (τ:=(List JAA)) (fun k211=> if v210 then
(By x205.Data).bind fun v212=>
(apnd (α:=JAA) 40 v203 ([(⟨224,x205.Type_,v212⟩:JAA)]:List JAA)).bind fun v213=> k211 v213 else k211 v203
) fun v214=> next204 v214
) v1 0 []
) fun v215=> if (decide ((v215.length:Int) > 8)) then some ((⟨0,[],(⟨false,(0:UInt64),(0:UInt64)⟩:Addr),0,0,0,[],[],[]⟩:JAE),3) else
(Ez Di v215).bind fun v216=> some ((⟨v191,v199,(⟨v192,v193,v194⟩:Addr),v195,v196,v197,v200,v201,v216⟩:JAE),0)
def Ek (a0:List UInt8):Option Int:=
(geti a0 0).bind fun v1=>
(geti a0 1).bind fun v2=> some (AD ((BitVec.ofInt 64 (AD ((v1.toNat:Int)*(2^(min (Int.toNat 8) 64)))) ||| BitVec.ofInt 64 (v2.toNat:Int)).toNat:Int))
def Gl (a0:List UInt8):Option ((List UInt8)×(List UInt8)×Bool):= AC (τ:=Bool) (fun k1=> if (decide ((a0.length:Int)<2)) then k1 true else
(Ek a0).bind fun v2=> k1 (cond false true (decide ((AD ((a0.length:Int)-2))<v2)))
) fun v3=> if v3 then some ([],[],false) else
(Ek a0).bind fun v4=>
(part a0 2 (AD (2+v4))).bind fun v5=>
(part a0 (AD (2+v4)) (a0.length:Int)).bind fun v6=> some (v5,v6,true)
def EU (a0:List UInt8):Option ((List JAA)×Int):= AC (τ:=(List JAA)) (fun k1=> Ao (σ:=(List UInt8)×(List JAA)) (fun next2 (v3,v4)=> if (decide ((v3.length:Int) > 0)) then
(geti v3 0).bind fun v5=> AC (τ:=Int) (fun k6=> if (((Am ((BitVec.ofInt 8 (v5.toNat:Int) &&& BitVec.ofInt 8 16).toNat:Int)).toNat:Int) != 0) then k6 4 else k6 3
) fun v7=> AC (τ:=Bool) (fun k8=> if (decide ((v3.length:Int)<v7)) then k8 true else
(part v3 2 v7).bind fun v9=>
(CC v9).bind fun v10=> k8 (cond false true (decide ((AD ((v3.length:Int)-v7))<v10)))
) fun v11=> if v11 then some ([],12) else
(part v3 2 v7).bind fun v12=>
(CC v12).bind fun v13=>
(geti v3 0).bind fun v14=>
(geti v3 1).bind fun v15=>
(part v3 v7 (AD (v7+v13))).bind fun v16=>
(apnd (α:=UInt8) 1 [] v16).bind fun _=>
(apnd (α:=JAA) 40 v4 ([(⟨((Am ((BitVec.ofInt 8 (v14.toNat:Int) &&& BitVec.ofInt 8 224).toNat:Int)).toNat:Int),(v15.toNat:Int),v16⟩:JAA)]:List JAA)).bind fun v17=>
(part v3 (AD (v7+v13)) (v3.length:Int)).bind fun v18=> next2 (v18,v17) else k1 v4
) fuel (a0,[])
) fun v19=> some (v19,0)
def G4 (a0:Addr)(a1:Int):Option (JAC×Int):=
(Em a0).bind fun v1=> if (!v1) then some ((⟨(⟨false,(0:UInt64),(0:UInt64)⟩:Addr),0⟩:JAC),1) else AC (τ:=Bool) (fun k2=> if (decide (a1<0)) then k2 true else
(CY a0).bind fun v3=> k2 (cond false true (decide (a1 > v3)))
) fun v4=> if v4 then some ((⟨(⟨false,(0:UInt64),(0:UInt64)⟩:Addr),0⟩:JAC),9) else
(D6 a0 a1).bind fun v5=> some ((⟨v5,a1⟩:JAC),0)
def CJ (a0:List UInt8)(a1:Bool):Option ((List JAC)×Bool):= AC (τ:=Int) (fun k1=> if a1 then k1 128 else k1 32
) fun v2=> AC (τ:=(List JAC)) (fun k3=> Ao (σ:=(List UInt8)×(List JAC)) (fun next4 (v5,v6)=> if (decide ((v5.length:Int) > 0)) then
(geti v5 0).bind fun v7=> AC (τ:=Bool) (fun k8=> if (decide ((v7.toNat:Int) > v2)) then k8 true else k8 (cond false true (decide ((v5.length:Int)<(AD (1+(AD (Int.tdiv (AD ((v7.toNat:Int)+7)) 8)))))))
) fun v9=> if v9 then some ([],false) else
(chk (0<=(AD (Int.tdiv v2 8))/\(AD (Int.tdiv v2 8))<=(AD (Int.tdiv v2 8))/\(AD (Int.tdiv v2 8))<=1048576)).bind fun _=>
(part v5 1 (AD (1+(AD (Int.tdiv (AD ((v7.toNat:Int)+7)) 8))))).bind fun v10=>
(BF (cpy (List.replicate (Int.toNat (AD (Int.tdiv v2 8))) (0:UInt8)) 0 (List.replicate (Int.toNat (AD (Int.tdiv v2 8))) (0:UInt8)).length v10)).bind fun (v11,v12)=>
(G4 v11 (v7.toNat:Int)).bind fun (v13,v14)=>
(apnd (α:=JAC) 32 v6 ([v13]:List JAC)).bind fun v15=>
(part v5 (AD (1+(AD (Int.tdiv (AD ((v7.toNat:Int)+7)) 8)))) (v5.length:Int)).bind fun v16=> next4 (v16,v15) else k3 v6
) fuel (a0,[])
) fun v17=> some (v17,true)
def bytes_Equal (a0:List UInt8)(a1:List UInt8):Option Bool:= some ((bs a0).toList==(bs a1).toList)
def bytes_HasPrefix (a0:List UInt8)(a1:List UInt8):Option Bool:= AC (τ:=Bool) (fun k1=> if (decide ((a0.length:Int) ≥ (a1.length:Int))) then
(part a0 0 (a1.length:Int)).bind fun v2=>
(bytes_Equal v2 a1).bind fun v3=> k1 (cond true v3 false) else k1 false
) fun v4=> some v4
def bytes_CutPrefix (a0:List UInt8)(a1:List UInt8):Option ((List UInt8)×Bool):=
(bytes_HasPrefix a0 a1).bind fun v1=> if (!v1) then some (a0,false) else
(part a0 (a1.length:Int) (a0.length:Int)).bind fun v2=> some (v2,true)
def DF (a0:JAH):Option (Bool×JAH):= AC (τ:=JAH×(List (Int×Int))) (fun k1=> Ak (σ:=JAH×(List (Int×Int))) (fun (v2,v3)=> k1 (v2,v3)
) (fun next4 (x5:JAA) i6 (v2,v3)=>
(some (Option.getD (BV v3 x5.Type_) 0)).bind fun v7=>
(bytes_CutPrefix x5.Data ([(0:UInt8),(2:UInt8),(1:UInt8)]:List UInt8)).bind fun (v8,v9)=> AC (τ:=Bool×JAH) (fun k10=> if (x5.Type_==14) then AC (τ:=Bool) (fun k11=> if (!v9) then k11 true else if (cond false true (decide ((v8.length:Int)<18))) then k11 true else
(geti v8 0).bind fun v12=> if (cond false true ((v12.toNat:Int) != 16)) then k11 true else
(geti v8 17).bind fun v13=> k11 (cond false true ((v13.toNat:Int) != 0))
) fun v14=> if v14 then some (false,v2) else
(part v8 1 17).bind fun v15=>
(BF v15).bind fun (v16,v17)=>
(part v8 18 (v8.length:Int)).bind fun v18=>
(CJ v18 true).bind fun (v19,v20)=> k10 (v20,{ v2 with next:=v16,new6:=v19 }) else AC (τ:=Bool×(List JAC)) (fun k21=> if (x5.Type_==15) then AC (τ:=Bool×(List JAC)) (fun k22=> if v9 then
(CJ v8 true).bind fun (v23,v24)=> k22 (v24,v23) else k22 (v9,v2.gone6)
) fun (v25,v26)=> k21 (v25,v26) else k21 (true,v2.gone6)
) fun (v27,v28)=> k10 (v27,{ v2 with gone6:=v28 })
) fun (v29,v30)=> if (!v29) then some (false,v30) else next4 (v30,(Cf v3 x5.Type_ (AD (v7+1))))
) a0.attrs 0 (a0,[])
) fun (v31,v32)=> AC (τ:=Bool) (fun k33=>
(some (Option.getD (BV v32 14) 0)).bind fun v34=> if (decide (v34<2)) then
(some (Option.getD (BV v32 15) 0)).bind fun v35=> k33 (cond true (decide (v35<2)) false) else k33 false
) fun v36=> some (v36,v31)
def B5 (a0:JAH)(a1:List UInt8):Option (Bool×JAH):=
(Gl a1).bind fun (v1,v2,v3)=> if (!v3) then some (false,a0) else
(Gl v2).bind fun (v4,v5,v6)=> if (!v6) then some (false,a0) else
(EU v4).bind fun (v7,v8)=> AC (τ:=Bool×JAH) (fun k9=> if (v8 != 0) then k9 (true,{ a0 with attrs:=v7 }) else
(DF ({ a0 with attrs:=v7 })).bind fun (v10,v11)=> k9 ((cond false true (!v10)),v11)
) fun (v12,v13)=> if v12 then some (false,v13) else
(CJ v1 false).bind fun (v14,v15)=>
(CJ v5 false).bind fun (v16,v17)=> AC (τ:=Bool) (fun k18=> if (!v15) then k18 true else if (cond false true (!v17)) then k18 true else if (decide ((v16.length:Int) > 0)) then if (cond false true (cond true (decide ((v13.new6.length:Int) > 0)) false)) then k18 true else if (cond false true (decide ((AD ((v14.length:Int)+(v13.gone6.length:Int))) > 256))) then k18 true else k18 (cond false true (decide ((AD ((v16.length:Int)+(v13.new6.length:Int))) > 256))) else if (cond false true (decide ((AD ((v14.length:Int)+(v13.gone6.length:Int))) > 256))) then k18 true else k18 (cond false true (decide ((AD ((v16.length:Int)+(v13.new6.length:Int))) > 256)))
) fun v19=> if v19 then some (false,{ v13 with gone4:=v14,new4:=v16 }) else
(EE v13.attrs).bind fun (v20,v21)=> some ((v21 != 12),{ v13 with gone4:=v14,new4:=v16 })
def DL (a0:JAA)(a1:Int):Option (Bool×Int):= some ((a0.Type_==a1),a1)
def Ai (a0:List JAA)(a1c0:Int):Option (Int×Int):= AC (τ:=Int) (fun k1=> Ak (σ:=Int) (fun v2=> k1 v2
) (fun next3 (x4:JAA) i5 v2=>
(DL x4 v2).bind fun (v6,v7)=> if v6 then some ((i5:Int),v7) else next3 v7
) a0 0 a1c0
) fun v8=> some ((-1),v8)
def Ah (a0:List JAA)(a1c0:Int):Option (Bool×Int):=
(Ai a0 a1c0).bind fun (v1,v2)=> some ((decide (v1 ≥ 0)),v2)
def CN (a0:JAH)(a1:Int):Option (Bool×JAH):=
(Ah a0.attrs a1).bind fun (v1,v2)=> some (v1,a0)
def Fz (a0:List UInt8):Option (Bool×Bool):=
(chk (0<=(4:Int)/\(4:Int)<=4/\(4:Int)<=1048576)).bind fun _=>
(bytes_Equal a0 (List.replicate (Int.toNat 4) (0:UInt8))).bind fun v1=> if v1 then some (true,false) else AC (τ:=Bool) (fun k2=>
(B5 (⟨[],(⟨false,(0:UInt64),(0:UInt64)⟩:Addr),[],[],[],[]⟩:JAH) a0).bind fun (v3,v4)=> if (!v3) then k2 true else
(part a0 2 (a0.length:Int)).bind fun v5=>
(Ek v5).bind fun v6=> if (cond false true ((a0.length:Int) != (AD (4+v6)))) then k2 true else if (cond false true ((v4.attrs.length:Int) != 1)) then k2 true else
(CN v4 15).bind fun (v7,v8)=> if (cond false true (!v7)) then k2 true else
(Ek a0).bind fun v9=> if (cond false true (v9 != 0)) then k2 true else k2 (cond false true (decide ((v8.gone6.length:Int) > 0)))
) fun v10=> if v10 then some (false,false) else some (true,true)
def G1:Option Bool:=
(Ew).bind fun v1=>
(If (⟨([(⟨(⟨false,(0:UInt64),(167772160:UInt64)⟩:Addr),8⟩:JAC)]:List JAC),v1,[]⟩:JAG)).bind fun (v2,v3)=>
(Fz ([(0:UInt8),(0:UInt8),(0:UInt8),(0:UInt8)]:List UInt8)).bind fun (v4,v5)=> AC (τ:=Bool) (fun k6=> if (v3==0) then if (cond true ((bs v2).toList==(ByteArray.mk (List.toArray (List.cons 0 (List.cons 2 (List.cons 8 (List.cons 10 (List.cons 0 (List.cons 0 List.nil)))))))).toList) false) then if (cond true v4 false) then k6 (cond true (!v5) false) else k6 false else k6 false else k6 false
) fun v7=> some v7
def JM (a0:List UInt8):Option Bool:= some (decide ((a0.length:Int)<=600))
def FW (a0:JAI)(a1:Int):Option ((List UInt8)×JAI):=
(AK a0 3).bind fun (v1,v2)=> AC (τ:=JAI×(List UInt8)) (fun k3=> Ao (σ:=Int×JAI×(List UInt8)) (fun next4 (v5,v6,v7)=> if (decide (v5 > 0)) then AC (τ:=JAI×(List UInt8)) (fun k8=>
(AK v6 (AD (a1+1))).bind fun (v9,v10)=>
(AK v10 20).bind fun (v11,v12)=> AC (τ:=Int) (fun k13=> if (v11==19) then k13 (AD (a1+1)) else k13 v9
) fun v14=>
(apnd (α:=UInt8) 1 v7 ([(Am v14)]:List UInt8)).bind fun v15=> AC (τ:=JAI×(List UInt8)) (fun k16=> Ao (σ:=Int×JAI×(List UInt8)) (fun next17 (v18,v19,v20)=> if (decide (v18<(AD (Int.tdiv (AD (v14+7)) 8)))) then
(AK v19 256).bind fun (v21,v22)=>
(apnd (α:=UInt8) 1 v20 ([(Am v21)]:List UInt8)).bind fun v23=> next17 ((AD (v18+1)),v22,v23) else k16 (v19,v20)
) fuel (0,v12,v15)
) fun (v24,v25)=> k8 (v24,v25)
) fun (v26,v27)=> next4 ((AD (v5-1)),v26,v27) else k3 (v6,v7)
) fuel (v1,v2,[])
) fun (v28,v29)=> some (v29,v28)
def Hj (a0:JAI):Option ((List UInt8)×JAI):=
(AK a0 2).bind fun (v1,v2)=> if (v1==0) then
(EJ v2).bind fun (v3,v4)=>
(GN v3).bind fun (v5,v6)=> some (v5,v4) else
(Dx v2).bind fun (v7,v8)=>
(Ep v7).bind fun (v9,v10)=>
(AK v8 3).bind fun (v11,v12)=> AC (τ:=(List JAA)×JAI) (fun k13=> Ao (σ:=(List JAA)×Int×JAI) (fun next14 (v15,v16,v17)=> if (decide (v16 > 0)) then
(AK v17 4).bind fun (v18,v19)=>
(AK v19 4).bind fun (v20,v21)=>
(chk ((AD (1+v20))≠0)).bind fun _=>
(geti ([128,192,160,64]:List Int) (Int.tmod v18 (AD (1+v20)))).bind fun v22=>
(AK v21 2).bind fun (v23,v24)=>
(AK v24 8).bind fun (v25,v26)=> AC (τ:=JAI×(List UInt8)) (fun k27=> if ((AD (14+v23))==14) then
(AK v26 9).bind fun (v28,v29)=>
(apnd (α:=UInt8) 1 ([(0:UInt8),(2:UInt8),(Am (AD (1+(AD (Int.tdiv v25 7)))))]:List UInt8) ([(Am (AD (16-(AD (Int.tdiv v28 8)))))]:List UInt8)).bind fun v30=>
(AK v29 9).bind fun (v31,v32)=>
(chk (0<=(AD (16+(AD (Int.tdiv v31 8))))/\(AD (16+(AD (Int.tdiv v31 8))))<=1048576)).bind fun _=>
(apnd (α:=UInt8) 1 v30 (List.replicate (Int.toNat (AD (16+(AD (Int.tdiv v31 8))))) (0:UInt8))).bind fun v33=>
(AK v32 9).bind fun (v34,v35)=>
(apnd (α:=UInt8) 1 v33 ([(Am (AD (Int.tdiv v34 8)))]:List UInt8)).bind fun v36=> k27 (v35,v36) else k27 (v26,([(0:UInt8),(2:UInt8),(Am (AD (1+(AD (Int.tdiv v25 7)))))]:List UInt8))
) fun (v37,v38)=>
(FW v37 128).bind fun (v39,v40)=>
(apnd (α:=UInt8) 1 v38 v39).bind fun v41=>
(AK v40 (AD ((v15.length:Int)+1))).bind fun (v42,v43)=>
(part v15 0 v42).bind fun v44=>
(apnd (α:=JAA) 40 [] v44).bind fun _=>
(apnd (α:=JAA) 40 v44 ([(⟨v22,(AD (14+v23)),v41⟩:JAA)]:List JAA)).bind fun v45=>
(part v15 v42 (v15.length:Int)).bind fun v46=>
(apnd (α:=JAA) 40 v45 v46).bind fun v47=> next14 (v47,(AD (v16-1)),v43) else k13 (v15,v17)
) fuel (v9,v11,v12)
) fun (v48,v49)=> AC (τ:=Bool×JAI) (fun k50=> if (decide ((v48.length:Int) > 0)) then
(AK v49 3).bind fun (v51,v52)=> k50 ((cond true (v51==0) false),v52) else k50 (false,v49)
) fun (v53,v54)=> AC (τ:=(List JAA)×JAI) (fun k55=> if v53 then
(AK v54 (v48.length:Int)).bind fun (v56,v57)=>
(part v48 0 v56).bind fun v58=>
(apnd (α:=JAA) 40 [] v58).bind fun _=>
(part v48 (AD (v56+1)) (v48.length:Int)).bind fun v59=>
(apnd (α:=JAA) 40 v58 v59).bind fun v60=> k55 (v60,v57) else k55 (v48,v54)
) fun (v61,v62)=>
(GZ v61).bind fun (v63,v64)=>
(FW v62 32).bind fun (v65,v66)=>
(apnd (α:=UInt8) 1 ([(Am (Int.fdiv (v65.length:Int) (2^(min (Int.toNat 8) 64)))),(Am (v65.length:Int))]:List UInt8) v65).bind fun v67=>
(apnd (α:=UInt8) 1 v67 ([(Am (Int.fdiv (v63.length:Int) (2^(min (Int.toNat 8) 64)))),(Am (v63.length:Int))]:List UInt8)).bind fun v68=>
(apnd (α:=UInt8) 1 v68 v63).bind fun v69=>
(FW v66 32).bind fun (v70,v71)=>
(apnd (α:=UInt8) 1 v69 v70).bind fun v72=> some (v72,v71)
def G0 (a0:List UInt8)(a1:Int)(a2:Int):Option (List UInt8):=
(apnd (α:=UInt8) 1 [] a0).bind fun _=> if ((a0.length:Int)==0) then some ([(Am a2)]:List UInt8) else
(H2 a1 (a0.length:Int)).bind fun v1=>
(H2 (AD (Int.tdiv a2 256)) 4).bind fun v2=> if (v2==0) then
(geti a0 v1).bind fun v3=>
(seti a0 v1 (Am a2)).bind fun v4=> some v4 else if (v2==1) then
(chk (0<=(0:Int)/\(0:Int)<=v1/\v1<=(a0.length:Int))).bind fun _=>
(chk (0<=(AD (v1+1))/\(AD (v1+1))<=(a0.length:Int)/\(a0.length:Int)<=(a0.length:Int))).bind fun _=>
(apnd (α:=UInt8) 1 (List.take (Int.toNat v1-Int.toNat 0) a0) (List.take (Int.toNat (a0.length:Int)-Int.toNat (AD (v1+1))) (List.drop (Int.toNat (AD (v1+1))) a0))).bind fun v5=> some v5 else if (v2==2) then
(chk (0<=(0:Int)/\(0:Int)<=v1/\v1<=(a0.length:Int))).bind fun _=>
(apnd (α:=UInt8) 1 [] (List.take (Int.toNat v1-Int.toNat 0) (List.drop (Int.toNat 0) a0))).bind fun _=>
(apnd (α:=UInt8) 1 (List.take (Int.toNat v1-Int.toNat 0) (List.drop (Int.toNat 0) a0)) ([(Am a2)]:List UInt8)).bind fun v6=>
(chk (0<=v1/\v1<=(a0.length:Int)/\(a0.length:Int)<=(a0.length:Int))).bind fun _=>
(apnd (α:=UInt8) 1 v6 (List.take (Int.toNat (a0.length:Int)-Int.toNat v1) (List.drop (Int.toNat v1) a0))).bind fun v7=> some v7 else
(part a0 0 v1).bind fun v8=> some v8
def A0 (a0:List (List JAC)):Option (List JAC):= AC (τ:=Int) (fun k1=> Ak (σ:=Int) (fun v2=> k1 v2
) (fun next3 (x4:List JAC) i5 v2=> if (decide ((AD (v2+(x4.length:Int)))<0)) then none else next3 (AD (v2+(x4.length:Int)))
) a0 0 0
) fun v6=> AC (τ:=(List JAC)) (fun k7=> if (decide (v6<0)) then none else AC (τ:=(List JAC)) (fun k8=> if (decide ((AD (v6-(AD (0-0)))) > 0)) then
(chk (0<(AD (v6-(AD (0-0))))/\(AD (v6-(AD (0-0))))<=1048576)).bind fun _=>
(part (List.replicate (Int.toNat (AD (v6-(AD (0-0))))) (⟨(⟨false,(0:UInt64),(0:UInt64)⟩:Addr),0⟩:JAC)) 0 0).bind fun v9=> k8 v9 else k8 []
) fun v10=> k7 v10
) fun v11=> AC (τ:=(List JAC)) (fun k12=> Ak (σ:=(List JAC)) (fun v13=> k12 v13
) (fun next14 (x15:List JAC) i16 v13=>
(apnd (α:=JAC) 32 v13 x15).bind fun v17=> next14 v17
) a0 0 v11
) fun v18=> some v18
def B8 (a0:JAA):Option Bool:= AC (τ:=Bool) (fun k1=> if (a0.Type_==14) then k1 (cond true ((AD ((BitVec.ofInt 64 a0.Flags &&& BitVec.ofInt 64 192).toNat:Int)) != 128) false) else if (cond false true (a0.Type_==15)) then k1 (cond true ((AD ((BitVec.ofInt 64 a0.Flags &&& BitVec.ofInt 64 192).toNat:Int)) != 128) false) else k1 false
) fun v2=> some v2
def Au (a0:List JAA):Option Int:= AC (τ:=Unit) (fun k1=> Ak (σ:=Unit) (fun _=> k1 ()
) (fun next2 (x3:JAA) i4 _=>
(B8 x3).bind fun v5=> if v5 then some (i4:Int) else next2 ()
) a0 0 ()
) fun _=> some (-1)
def Ag (a0:List JAA):Option Bool:=
(Au a0).bind fun v1=> some (decide (v1 ≥ 0))
def DW (a0:JAH)(a1:JAE)(a2:Int):Option (Bool×JAH):= AC (τ:=Bool×JAH) (fun k1=> if (a2 != 0) then k1 (true,a0) else
(Ag a0.attrs).bind fun v2=> if (cond false true v2) then k1 (true,a0) else
(CN a0 1).bind fun (v3,v4)=> if (cond false true (!v3)) then k1 (true,v4) else
(CN v4 2).bind fun (v5,v6)=> if (cond false true (!v5)) then k1 (true,v6) else if (decide ((v6.new4.length:Int) > 0)) then k1 ((cond false true (cond true (Addr.eqd a1.Next (⟨false,(0:UInt64),(0:UInt64)⟩:Addr)) false)),v6) else k1 (false,v6)
) fun (v7,v8)=> some (v7,v8)
def FM (a0:List UInt8):Option (JAG×Int):=
(B5 (⟨[],(⟨false,(0:UInt64),(0:UInt64)⟩:Addr),[],[],[],[]⟩:JAH) a0).bind fun (v1,v2)=> if (!v1) then some ((⟨[],(⟨0,[],(⟨false,(0:UInt64),(0:UInt64)⟩:Addr),0,0,0,[],[],[]⟩:JAE),[]⟩:JAG),12) else
(A0 ([v2.gone4,v2.gone6]:List (List JAC))).bind fun v3=>
(FR).bind fun v4=>
(A0 ([v2.new4,v2.new6]:List (List JAC))).bind fun v5=> if ((v5.length:Int)==0) then some ((⟨v3,v4,[]⟩:JAG),0) else
(EE v2.attrs).bind fun (v6,v7)=>
(DW v2 v6 v7).bind fun (v8,v9)=> if v8 then
(apnd (α:=JAC) 32 v3 v5).bind fun v10=> some ((⟨v10,v4,[]⟩:JAG),13) else AC (τ:=JAE) (fun k11=> if (decide ((v9.new6.length:Int) > 0)) then k11 ({ v6 with Next:=v9.next }) else k11 v6
) fun v12=> some ((⟨v3,v12,v5⟩:JAG),0)
def ER (a0:List UInt8):Option ((List UInt8)×(List UInt8)×Bool):= if (decide ((a0.length:Int)<2)) then some ([],[],false) else
(geti a0 0).bind fun v1=>
(geti a0 1).bind fun v2=> if (decide ((AD ((a0.length:Int)-2))<(AD ((BitVec.ofInt 64 (AD ((v1.toNat:Int)*(2^(min (Int.toNat 8) 64)))) ||| BitVec.ofInt 64 (v2.toNat:Int)).toNat:Int)))) then some ([],[],false) else
(part a0 2 (AD (2+(AD ((BitVec.ofInt 64 (AD ((v1.toNat:Int)*(2^(min (Int.toNat 8) 64)))) ||| BitVec.ofInt 64 (v2.toNat:Int)).toNat:Int))))).bind fun v3=>
(part a0 (AD (2+(AD ((BitVec.ofInt 64 (AD ((v1.toNat:Int)*(2^(min (Int.toNat 8) 64)))) ||| BitVec.ofInt 64 (v2.toNat:Int)).toNat:Int)))) (a0.length:Int)).bind fun v4=> some (v3,v4,true)
def Eo (a0:List UInt8):Option ((List JAA)×Int):= AC (τ:=(List JAA)) (fun k1=> Ao (σ:=(List UInt8)×(List JAA)) (fun next2 (v3,v4)=> if (decide ((v3.length:Int) > 0)) then
(geti v3 0).bind fun v5=> AC (τ:=Int) (fun k6=> if (((Am ((BitVec.ofInt 8 (v5.toNat:Int) &&& BitVec.ofInt 8 16).toNat:Int)).toNat:Int) != 0) then k6 4 else k6 3
) fun v7=> if (decide ((v3.length:Int)<v7)) then some ([],12) else
(geti v3 2).bind fun v8=> AC (τ:=Int) (fun k9=> if (v7==4) then
(geti v3 3).bind fun v10=> k9 (AD ((BitVec.ofInt 64 (AD ((v8.toNat:Int)*(2^(min (Int.toNat 8) 64)))) ||| BitVec.ofInt 64 (v10.toNat:Int)).toNat:Int)) else k9 (v8.toNat:Int)
) fun v11=> if (decide ((AD ((v3.length:Int)-v7))<v11)) then some ([],12) else
(geti v3 0).bind fun v12=>
(geti v3 1).bind fun v13=>
(part v3 v7 (AD (v7+v11))).bind fun v14=>
(apnd (α:=UInt8) 1 [] v14).bind fun _=>
(apnd (α:=JAA) 40 v4 ([(⟨((Am ((BitVec.ofInt 8 (v12.toNat:Int) &&& BitVec.ofInt 8 224).toNat:Int)).toNat:Int),(v13.toNat:Int),v14⟩:JAA)]:List JAA)).bind fun v15=>
(part v3 (AD (v7+v11)) (v3.length:Int)).bind fun v16=> next2 (v16,v15) else k1 v4
) fuel (a0,[])
) fun v17=> some (v17,0)
def FX (a0:List JAA)(a1:Int):Option (JAA×Int):= AC (τ:=Int×JAA) (fun k1=> Ak (σ:=Int×JAA) (fun (v2,v3)=> k1 (v2,v3)
) (fun next4 (x5:JAA) i6 (v2,v3)=> AC (τ:=Int×JAA) (fun k7=> if (x5.Type_==a1) then AC (τ:=JAA) (fun k8=> if ((AD (v2+1))==1) then k8 x5 else k8 v3
) fun v9=> k7 ((AD (v2+1)),v9) else k7 (v2,v3)
) fun (v10,v11)=> next4 (v10,v11)
) a0 0 (0,(⟨0,0,[]⟩:JAA))
) fun (v12,v13)=> some (v13,v12)
def DC (a0:JAA)(a1:Int):Option (Addr×(List JAC)×Bool):= if (a1==0) then some ((⟨false,(0:UInt64),(0:UInt64)⟩:Addr),[],true) else AC (τ:=Bool) (fun k1=> if (decide (a1 > 1)) then k1 true else if (cond false true (decide ((a0.Data.length:Int)<21))) then k1 true else
(geti a0.Data 0).bind fun v2=> if (cond false true ((v2.toNat:Int) != 0)) then k1 true else
(geti a0.Data 1).bind fun v3=> if (cond false true ((v3.toNat:Int) != 2)) then k1 true else
(geti a0.Data 2).bind fun v4=> if (cond false true ((v4.toNat:Int) != 1)) then k1 true else
(geti a0.Data 3).bind fun v5=> if (cond false true ((v5.toNat:Int) != 16)) then k1 true else
(geti a0.Data 20).bind fun v6=> k1 (cond false true ((v6.toNat:Int) != 0))
) fun v7=> if v7 then some ((⟨false,(0:UInt64),(0:UInt64)⟩:Addr),[],false) else
(part a0.Data 4 20).bind fun v8=>
(A5 v8).bind fun (v9,v10)=>
(part a0.Data 21 (a0.Data.length:Int)).bind fun v11=> AC (τ:=Bool×(List JAC)) (fun k12=> AC (τ:=(List JAC)) (fun k13=> Ao (σ:=(List UInt8)×(List JAC)) (fun next14 (v15,v16)=> if (decide ((v15.length:Int) > 0)) then
(geti v15 0).bind fun v17=> AC (τ:=Bool) (fun k18=> if (decide ((v17.toNat:Int) > (AD (8*16)))) then k18 true else k18 (cond false true (decide ((v15.length:Int)<(AD (1+(AD (Int.tdiv (AD ((v17.toNat:Int)+7)) 8)))))))
) fun v19=> if v19 then k12 (false,[]) else
(part v15 1 (AD (1+(AD (Int.tdiv (AD ((v17.toNat:Int)+7)) 8))))).bind fun v20=>
(apnd (α:=UInt8) 1 [] v20).bind fun _=>
(chk (0<=(AD (16-(AD (Int.tdiv (AD ((v17.toNat:Int)+7)) 8))))/\(AD (16-(AD (Int.tdiv (AD ((v17.toNat:Int)+7)) 8))))<=1048576)).bind fun _=>
(apnd (α:=UInt8) 1 v20 (List.replicate (Int.toNat (AD (16-(AD (Int.tdiv (AD ((v17.toNat:Int)+7)) 8))))) (0:UInt8))).bind fun v21=>
(A5 v21).bind fun (v22,v23)=>
(B1 v22 (v17.toNat:Int)).bind fun (v24,v25)=>
(apnd (α:=JAC) 32 v16 ([v24]:List JAC)).bind fun v26=>
(part v15 (AD (1+(AD (Int.tdiv (AD ((v17.toNat:Int)+7)) 8)))) (v15.length:Int)).bind fun v27=> next14 (v27,v26) else k13 v16
) fuel (v11,[])
) fun v28=> k12 (true,v28)
) fun (v29,v30)=> some (v9,v30,v29)
def C6 (a0:JAA)(a1:Int):Option ((List JAC)×Bool):= if (a1==0) then some ([],true) else AC (τ:=Bool) (fun k1=> if (decide (a1 > 1)) then k1 true else if (cond false true (decide ((a0.Data.length:Int)<3))) then k1 true else
(geti a0.Data 0).bind fun v2=> if (cond false true ((v2.toNat:Int) != 0)) then k1 true else
(geti a0.Data 1).bind fun v3=> if (cond false true ((v3.toNat:Int) != 2)) then k1 true else
(geti a0.Data 2).bind fun v4=> k1 (cond false true ((v4.toNat:Int) != 1))
) fun v5=> if v5 then some ([],false) else
(part a0.Data 3 (a0.Data.length:Int)).bind fun v6=> AC (τ:=Bool×(List JAC)) (fun k7=> AC (τ:=(List JAC)) (fun k8=> Ao (σ:=(List UInt8)×(List JAC)) (fun next9 (v10,v11)=> if (decide ((v10.length:Int) > 0)) then
(geti v10 0).bind fun v12=> AC (τ:=Bool) (fun k13=> if (decide ((v12.toNat:Int) > (AD (8*16)))) then k13 true else k13 (cond false true (decide ((v10.length:Int)<(AD (1+(AD (Int.tdiv (AD ((v12.toNat:Int)+7)) 8)))))))
) fun v14=> if v14 then k7 (false,[]) else
(part v10 1 (AD (1+(AD (Int.tdiv (AD ((v12.toNat:Int)+7)) 8))))).bind fun v15=>
(apnd (α:=UInt8) 1 [] v15).bind fun _=>
(chk (0<=(AD (16-(AD (Int.tdiv (AD ((v12.toNat:Int)+7)) 8))))/\(AD (16-(AD (Int.tdiv (AD ((v12.toNat:Int)+7)) 8))))<=1048576)).bind fun _=>
(apnd (α:=UInt8) 1 v15 (List.replicate (Int.toNat (AD (16-(AD (Int.tdiv (AD ((v12.toNat:Int)+7)) 8))))) (0:UInt8))).bind fun v16=>
(A5 v16).bind fun (v17,v18)=>
(B1 v17 (v12.toNat:Int)).bind fun (v19,v20)=>
(apnd (α:=JAC) 32 v11 ([v19]:List JAC)).bind fun v21=>
(part v10 (AD (1+(AD (Int.tdiv (AD ((v12.toNat:Int)+7)) 8)))) (v10.length:Int)).bind fun v22=> next9 (v22,v21) else k8 v11
) fuel (v6,[])
) fun v23=> k7 (true,v23)
) fun (v24,v25)=> some (v25,v24)
def F5 (a0:List JAA):Option (List JAA):= AC (τ:=(List JAA)) (fun k1=> Ak (σ:=(List JAA)×(List (Int×Bool))) (fun (v2,v3)=> k1 v2
) (fun next4 (x5:JAA) i6 (v2,v3)=>
(some (Option.getD (BV v3 x5.Type_) false)).bind fun v7=> AC (τ:=(List JAA)) (fun k8=> if (!v7) then
(apnd (α:=JAA) 40 v2 ([x5]:List JAA)).bind fun v9=> k8 v9 else k8 v2
) fun v10=> next4 (v10,(Cf v3 x5.Type_ true))
) a0 0 ([],[])
) fun v11=> some v11
def Az (a0:List UInt8):Option Int:= AC (τ:=Int) (fun k1=> Ak (σ:=Int) (fun v2=> k1 v2
) (fun next3 (x4:UInt8) i5 v2=> next3 (AD ((BitVec.ofInt 64 (AD (v2*(2^(min (Int.toNat 8) 64)))) ||| BitVec.ofInt 64 (x4.toNat:Int)).toNat:Int))
) a0 0 0
) fun v6=> some v6
def EQ (a0:List Int):Option (List Int):= AC (τ:=(List Int)) (fun k1=> Ak (σ:=(List Int)) (fun v2=> k1 v2
) (fun next3 (x4:Int) i5 v2=> AC (τ:=(List Int)) (fun k6=> AC (τ:=Int) (fun k7=> Ao (σ:=Int) (fun next8 v9=> AC (τ:=Bool) (fun k10=> if (decide (v9<(v2.length:Int))) then
(geti v2 v9).bind fun v11=> k10 (cond true (decide (v11<x4)) false) else k10 false
) fun v12=> if v12 then next8 (AD (v9+1)) else k7 v9
) fuel 0
) fun v13=> AC (τ:=Bool) (fun k14=> if (decide (v13<(v2.length:Int))) then
(geti v2 v13).bind fun v15=> k14 (cond true (v15==x4) false) else k14 false
) fun v16=> if v16 then k6 v2 else
(chk (0<=(0:Int)/\(0:Int)<=v13/\v13<=(v2.length:Int))).bind fun _=>
(apnd (α:=Int) 8 [] (List.take (Int.toNat v13-Int.toNat 0) (List.drop (Int.toNat 0) v2))).bind fun _=>
(apnd (α:=Int) 8 (List.take (Int.toNat v13-Int.toNat 0) (List.drop (Int.toNat 0) v2)) ([x4]:List Int)).bind fun v17=>
(chk (0<=v13/\v13<=(v2.length:Int)/\(v2.length:Int)<=(v2.length:Int))).bind fun _=>
(apnd (α:=Int) 8 v17 (List.take (Int.toNat (v2.length:Int)-Int.toNat v13) (List.drop (Int.toNat v13) v2))).bind fun v18=> k6 v18
) fun v19=> next3 v19
) a0 0 []
) fun v20=> some v20
def Gj (a0:List UInt8):Option ((List JAD)×Bool):= AC (τ:=(List JAD)×Nat×(List Int)) (fun k1=> Ao (σ:=(List UInt8)×(List JAD)×Nat×(List Int)) (fun next2 (v3,v4,v5,v6)=> if (decide ((v3.length:Int) > 0)) then AC (τ:=(List UInt8)×(List JAD)×Nat×(List Int)) (fun k7=> AC (τ:=Bool) (fun k8=> if (decide ((v3.length:Int)<2)) then k8 true else
(geti v3 0).bind fun v9=> if ((v9.toNat:Int) != 1) then
(geti v3 0).bind fun v10=> if (cond false true (cond true ((v10.toNat:Int) != 2) false)) then k8 true else
(geti v3 1).bind fun v11=> if (cond false true ((v11.toNat:Int)==0)) then k8 true else
(geti v3 1).bind fun v12=> k8 (cond false true (decide ((v3.length:Int)<(AD (2+(AD (4*(v12.toNat:Int)))))))) else
(geti v3 1).bind fun v13=> if (cond false true ((v13.toNat:Int)==0)) then k8 true else
(geti v3 1).bind fun v14=> k8 (cond false true (decide ((v3.length:Int)<(AD (2+(AD (4*(v14.toNat:Int))))))))
) fun v15=> if v15 then some ([],false) else
(geti v3 1).bind fun v16=> AC (τ:=(List Int)) (fun k17=> Ao (σ:=Int×(List Int)) (fun next18 (v19,v20)=> if (decide (v19<(v16.toNat:Int))) then
(part v3 (AD (2+(AD (4*v19)))) (AD (6+(AD (4*v19))))).bind fun v21=>
(Az v21).bind fun v22=>
(apnd (α:=Int) 8 v20 ([v22]:List Int)).bind fun v23=> next18 ((AD (v19+1)),v23) else k17 v20
) fuel (0,[])
) fun v24=>
(geti v3 0).bind fun v25=> AC (τ:=(List JAD)×Nat×(List Int)) (fun k26=> if ((v25.toNat:Int)==1) then
(EQ v24).bind fun v27=>
(apnd (α:=JAD) 32 v4 ([(⟨true,v27⟩:JAD)]:List JAD)).bind fun v28=> k26 (v28,((List.map JAD.toD v4).length+0),v27) else AC (τ:=Bool) (fun k29=> if (decide ((v4.length:Int) > 0)) then
(geti v4 (AD ((v4.length:Int)-1))).bind fun v30=> k29 (cond true (!v30.Set) false) else k29 false
) fun v31=> AC (τ:=(List JAD)×Nat×(List Int)) (fun k32=> if v31 then
(geti v4 (AD ((v4.length:Int)-1))).bind fun v33=>
(chk (Int.toNat (AD ((v4.length:Int)-1))=v5)).bind fun _=>
(apnd (α:=Int) 8 v6 v24).bind fun v34=>
(geti v4 (AD ((v4.length:Int)-1))).bind fun v35=>
(seti v4 (AD ((v4.length:Int)-1)) (⟨v35.Set,v34⟩:JAD)).bind fun v36=> k32 (v36,(Int.toNat (AD ((v4.length:Int)-1))),v34) else
(apnd (α:=JAD) 32 v4 ([(⟨false,v24⟩:JAD)]:List JAD)).bind fun v37=> k32 (v37,((List.map JAD.toD v4).length+0),v24)
) fun (v38,v39,v40)=> k26 (v38,v39,v40)
) fun (v41,v42,v43)=>
(geti v3 1).bind fun v44=>
(part v3 (AD (2+(AD (4*(v44.toNat:Int))))) (v3.length:Int)).bind fun v45=> k7 (v45,v41,v42,v43)
) fun (v46,v47,v48,v49)=> next2 (v46,v47,v48,v49) else k1 (v4,v5,v6)
) fuel (a0,[],0,[])
) fun (v50,v51,v52)=>
(DZ v50).bind fun v53=> some (v50,v53)
def Ee {ρ:Type}(F:Option ρ)(next21:Int×(List JAD)×Bool×UInt64×UInt64×Int×Int×Int×(List JAB)×(List JAF)->Option ρ)(x22:JAA):Int×(List JAD)×Bool×UInt64×UInt64×Int×Int×Int×(List JAB)×(List JAF)->Option ρ:=fun (v11,v12,v13,v14,v15,v16,v17,v18,v19,v20)=> AC (τ:=Int×(List JAD)×Bool×UInt64×UInt64×Int×Int×Int×(List JAB)×(List JAF)) (fun k24=>
(Be x22.Type_).bind fun v25=> if (v25==0) then k24 (v11,v12,v13,v14,v15,v16,v17,v18,v19,v20) else AC (τ:=Bool×Int×(List JAD)×Bool×UInt64×UInt64×Int×Int×Int×(List JAB)×(List JAF)) (fun k26=> if ((AD ((BitVec.ofInt 64 x22.Flags &&& BitVec.ofInt 64 192).toNat:Int)) != v25) then k26 (true,v11,v12,v13,v14,v15,v16,v17,v18,v19,v20) else if (v25 != 192) then if (cond false true (cond true ((AD ((BitVec.ofInt 64 x22.Flags &&& BitVec.ofInt 64 32).toNat:Int)) != 0) false)) then k26 (true,v11,v12,v13,v14,v15,v16,v17,v18,v19,v20) else AC (τ:=Bool×Int×(List JAD)×Bool×UInt64×UInt64×Int×Int×Int×(List JAB)×(List JAF)) (fun k27=> AC (τ:=Int×Bool×UInt64×UInt64×Int×Int×Int×(List JAB)×(List JAF)) (fun k28=> AC (τ:=Int×Bool×UInt64×UInt64×Int×Int×Int×(List JAB)×(List JAF)) (fun k29=> if (x22.Type_==1) then AC (τ:=Bool) (fun k30=> if ((x22.Data.length:Int) != 1) then k30 true else
(geti x22.Data 0).bind fun v31=> k30 (cond false true (decide ((v31.toNat:Int) > 2)))
) fun v32=> if v32 then k27 (false,v11,v12,v13,v14,v15,v16,v17,v18,v19,v20) else
(geti x22.Data 0).bind fun v33=> k29 ((v33.toNat:Int),v13,v14,v15,v16,v17,v18,v19,v20) else if (x22.Type_==2) then
(Gj x22.Data).bind fun (v34,v35)=> k27 (v35,v11,v34,v13,v14,v15,v16,v17,v18,v19,v20) else AC (τ:=Bool×UInt64×UInt64×Int×Int×Int×(List JAB)×(List JAF)) (fun k36=> if (x22.Type_==3) then if ((x22.Data.length:Int) != 4) then k27 (false,v11,v12,v13,v14,v15,v16,v17,v18,v19,v20) else
(A5 x22.Data).bind fun (v37,v38)=> k36 (v37.V6,v37.Hi,v37.Lo,v16,v17,v18,v19,v20) else AC (τ:=Bool) (fun k39=> if (x22.Type_==4) then k39 (x22.Type_==4) else AC (τ:=Bool) (fun k40=> if (x22.Type_==5) then k40 (x22.Type_==5) else k40 (x22.Type_==35)
) fun v41=> k39 v41
) fun v42=> AC (τ:=Int×Int×Int×(List JAB)×(List JAF)) (fun k43=> if v42 then
(part x22.Data 0 (if (4:Int)<(x22.Data.length:Int) then 4 else (x22.Data.length:Int))).bind fun v44=>
(Az v44).bind fun v45=> AC (τ:=Bool) (fun k46=> if ((x22.Data.length:Int) != 4) then k46 true else if (x22.Type_==35) then k46 (cond false true (cond true (v45==0) false)) else k46 false
) fun v47=> if v47 then k27 (false,v11,v12,v13,v14,v15,v16,v17,v18,v19,v20) else AC (τ:=Int×Int×Int) (fun k48=> if (x22.Type_==4) then k48 (v45,v17,v18) else AC (τ:=Int×Int) (fun k49=> if (x22.Type_==5) then k49 (v45,v18) else k49 (v17,v45)
) fun (v50,v51)=> k48 (v16,v50,v51)
) fun (v52,v53,v54)=> k43 (v52,v53,v54,v19,v20) else AC (τ:=(List JAB)×(List JAF)) (fun k55=> if (x22.Type_==8) then AC (τ:=Bool) (fun k56=> if ((x22.Data.length:Int)==0) then k56 true else if (cond false true ((Int.tmod (x22.Data.length:Int) 4) != 0)) then k56 true else k56 (cond false true (decide ((AD (Int.tdiv (x22.Data.length:Int) 4)) > 64)))
) fun v57=> if v57 then k27 (false,v11,v12,v13,v14,v15,v16,v17,v18,v19,v20) else AC (τ:=(List JAB)) (fun k58=> Ao (σ:=Int×(List JAB)) (fun next59 (v60,v61)=> if (decide (v60<(x22.Data.length:Int))) then
(part x22.Data v60 (AD (v60+2))).bind fun v62=>
(Az v62).bind fun v63=>
(part x22.Data (AD (v60+2)) (AD (v60+4))).bind fun v64=>
(Az v64).bind fun v65=>
(Ff v61 (⟨v63,v65⟩:JAB)).bind fun (v66,v67)=> next59 ((AD (v60+4)),v66) else k58 v61
) fuel (0,v19)
) fun v68=> k55 (v68,v20) else AC (τ:=(List JAF)) (fun k69=> if (x22.Type_==32) then AC (τ:=Bool) (fun k70=> if ((x22.Data.length:Int)==0) then k70 true else if (cond false true ((Int.tmod (x22.Data.length:Int) 12) != 0)) then k70 true else k70 (cond false true (decide ((AD (Int.tdiv (x22.Data.length:Int) 12)) > 64)))
) fun v71=> if v71 then k27 (false,v11,v12,v13,v14,v15,v16,v17,v18,v19,v20) else AC (τ:=(List JAF)) (fun k72=> Ao (σ:=Int×(List JAF)) (fun next73 (v74,v75)=> if (decide (v74<(x22.Data.length:Int))) then
(part x22.Data v74 (AD (v74+4))).bind fun v76=>
(Az v76).bind fun v77=>
(part x22.Data (AD (v74+4)) (AD (v74+8))).bind fun v78=>
(Az v78).bind fun v79=>
(part x22.Data (AD (v74+8)) (AD (v74+12))).bind fun v80=>
(Az v80).bind fun v81=>
(DJ v75 (⟨v77,v79,v81⟩:JAF)).bind fun (v82,v83)=> next73 ((AD (v74+12)),v82) else k72 v75
) fuel (0,v20)
) fun v84=> k69 v84 else k69 v20
) fun v85=> k55 (v19,v85)
) fun (v86,v87)=> k43 (v16,v17,v18,v86,v87)
) fun (v88,v89,v90,v91,v92)=> k36 (v13,v14,v15,v88,v89,v90,v91,v92)
) fun (v93,v94,v95,v96,v97,v98,v99,v100)=> k29 (v11,v93,v94,v95,v96,v97,v98,v99,v100)
) fun (v101,v102,v103,v104,v105,v106,v107,v108,v109)=> k28 (v101,v102,v103,v104,v105,v106,v107,v108,v109)
) fun (v110,v111,v112,v113,v114,v115,v116,v117,v118)=> k27 (true,v110,v12,v111,v112,v113,v114,v115,v116,v117,v118)
) fun (v119,v120,v121,v122,v123,v124,v125,v126,v127,v128,v129)=> k26 ((cond false true (!v119)),v120,v121,v122,v123,v124,v125,v126,v127,v128,v129) else AC (τ:=Bool×Int×(List JAD)×Bool×UInt64×UInt64×Int×Int×Int×(List JAB)×(List JAF)) (fun k130=> AC (τ:=Int×Bool×UInt64×UInt64×Int×Int×Int×(List JAB)×(List JAF)) (fun k131=> AC (τ:=Int×Bool×UInt64×UInt64×Int×Int×Int×(List JAB)×(List JAF)) (fun k132=> if (x22.Type_==1) then AC (τ:=Bool) (fun k133=> if ((x22.Data.length:Int) != 1) then k133 true else
(geti x22.Data 0).bind fun v134=> k133 (cond false true (decide ((v134.toNat:Int) > 2)))
) fun v135=> if v135 then k130 (false,v11,v12,v13,v14,v15,v16,v17,v18,v19,v20) else
(geti x22.Data 0).bind fun v136=> k132 ((v136.toNat:Int),v13,v14,v15,v16,v17,v18,v19,v20) else if (x22.Type_==2) then
(Gj x22.Data).bind fun (v137,v138)=> k130 (v138,v11,v137,v13,v14,v15,v16,v17,v18,v19,v20) else AC (τ:=Bool×UInt64×UInt64×Int×Int×Int×(List JAB)×(List JAF)) (fun k139=> if (x22.Type_==3) then if ((x22.Data.length:Int) != 4) then k130 (false,v11,v12,v13,v14,v15,v16,v17,v18,v19,v20) else
(A5 x22.Data).bind fun (v140,v141)=> k139 (v140.V6,v140.Hi,v140.Lo,v16,v17,v18,v19,v20) else AC (τ:=Bool) (fun k142=> if (x22.Type_==4) then k142 (x22.Type_==4) else AC (τ:=Bool) (fun k143=> if (x22.Type_==5) then k143 (x22.Type_==5) else k143 (x22.Type_==35)
) fun v144=> k142 v144
) fun v145=> AC (τ:=Int×Int×Int×(List JAB)×(List JAF)) (fun k146=> if v145 then
(part x22.Data 0 (if (4:Int)<(x22.Data.length:Int) then 4 else (x22.Data.length:Int))).bind fun v147=>
(Az v147).bind fun v148=> AC (τ:=Bool) (fun k149=> if ((x22.Data.length:Int) != 4) then k149 true else if (x22.Type_==35) then k149 (cond false true (cond true (v148==0) false)) else k149 false
) fun v150=> if v150 then k130 (false,v11,v12,v13,v14,v15,v16,v17,v18,v19,v20) else AC (τ:=Int×Int×Int) (fun k151=> if (x22.Type_==4) then k151 (v148,v17,v18) else AC (τ:=Int×Int) (fun k152=> if (x22.Type_==5) then k152 (v148,v18) else k152 (v17,v148)
) fun (v153,v154)=> k151 (v16,v153,v154)
) fun (v155,v156,v157)=> k146 (v155,v156,v157,v19,v20) else AC (τ:=(List JAB)×(List JAF)) (fun k158=> if (x22.Type_==8) then AC (τ:=Bool) (fun k159=> if ((x22.Data.length:Int)==0) then k159 true else if (cond false true ((Int.tmod (x22.Data.length:Int) 4) != 0)) then k159 true else k159 (cond false true (decide ((AD (Int.tdiv (x22.Data.length:Int) 4)) > 64)))
) fun v160=> if v160 then k130 (false,v11,v12,v13,v14,v15,v16,v17,v18,v19,v20) else AC (τ:=(List JAB)) (fun k161=> Ao (σ:=Int×(List JAB)) (fun next162 (v163,v164)=> if (decide (v163<(x22.Data.length:Int))) then
(part x22.Data v163 (AD (v163+2))).bind fun v165=>
(Az v165).bind fun v166=>
(part x22.Data (AD (v163+2)) (AD (v163+4))).bind fun v167=>
(Az v167).bind fun v168=>
(Ff v164 (⟨v166,v168⟩:JAB)).bind fun (v169,v170)=> next162 ((AD (v163+4)),v169) else k161 v164
) fuel (0,v19)
) fun v171=> k158 (v171,v20) else AC (τ:=(List JAF)) (fun k172=> if (x22.Type_==32) then AC (τ:=Bool) (fun k173=> if ((x22.Data.length:Int)==0) then k173 true else if (cond false true ((Int.tmod (x22.Data.length:Int) 12) != 0)) then k173 true else k173 (cond false true (decide ((AD (Int.tdiv (x22.Data.length:Int) 12)) > 64)))
) fun v174=> if v174 then k130 (false,v11,v12,v13,v14,v15,v16,v17,v18,v19,v20) else AC (τ:=(List JAF)) (fun k175=> Ao (σ:=Int×(List JAF)) (fun next176 (v177,v178)=> if (decide (v177<(x22.Data.length:Int))) then
(part x22.Data v177 (AD (v177+4))).bind fun v179=>
(Az v179).bind fun v180=>
(part x22.Data (AD (v177+4)) (AD (v177+8))).bind fun v181=>
(Az v181).bind fun v182=>
(part x22.Data (AD (v177+8)) (AD (v177+12))).bind fun v183=>
(Az v183).bind fun v184=>
(DJ v178 (⟨v180,v182,v184⟩:JAF)).bind fun (v185,v186)=> next176 ((AD (v177+12)),v185) else k175 v178
) fuel (0,v20)
) fun v187=> k172 v187 else k172 v20
) fun v188=> k158 (v19,v188)
) fun (v189,v190)=> k146 (v16,v17,v18,v189,v190)
) fun (v191,v192,v193,v194,v195)=> k139 (v13,v14,v15,v191,v192,v193,v194,v195)
) fun (v196,v197,v198,v199,v200,v201,v202,v203)=> k132 (v11,v196,v197,v198,v199,v200,v201,v202,v203)
) fun (v204,v205,v206,v207,v208,v209,v210,v211,v212)=> k131 (v204,v205,v206,v207,v208,v209,v210,v211,v212)
) fun (v213,v214,v215,v216,v217,v218,v219,v220,v221)=> k130 (true,v213,v12,v214,v215,v216,v217,v218,v219,v220,v221)
) fun (v222,v223,v224,v225,v226,v227,v228,v229,v230,v231,v232)=> k26 ((cond false true (!v222)),v223,v224,v225,v226,v227,v228,v229,v230,v231,v232)
) fun (v233,v234,v235,v236,v237,v238,v239,v240,v241,v242,v243)=> if v233 then F else k24 (v234,v235,v236,v237,v238,v239,v240,v241,v242,v243)
) fun (v244,v245,v246,v247,v248,v249,v250,v251,v252,v253)=> next21 (v244,v245,v246,v247,v248,v249,v250,v251,v252,v253)
def H5 (a0:List JAA):Option (JAE×Int):=
(F5 a0).bind fun v1=> AC (τ:=Unit) (fun k2=> Ak (σ:=Unit) (fun _=> k2 ()
) (fun next3 (x4:JAA) i5 _=> AC (τ:=Bool) (fun k6=>
(BY x4.Type_).bind fun v7=> if v7 then k6 (cond true ((AD ((BitVec.ofInt 64 x4.Flags &&& BitVec.ofInt 64 128).toNat:Int))==0) false) else k6 false
) fun v8=> if v8 then some ((⟨0,[],(⟨false,(0:UInt64),(0:UInt64)⟩:Addr),0,0,0,[],[],[]⟩:JAE),12) else next3 ()
) v1 0 ()
) fun _=> AC (τ:=Unit) (fun k9=> k9 ()
) fun _=> AC (τ:=Int×(List JAD)×Bool×UInt64×UInt64×Int×Int×Int×(List JAB)×(List JAF)) (fun k10=> Ak (σ:=Int×(List JAD)×Bool×UInt64×UInt64×Int×Int×Int×(List JAB)×(List JAF)) (fun (v11,v12,v13,v14,v15,v16,v17,v18,v19,v20)=> k10 (v11,v12,v13,v14,v15,v16,v17,v18,v19,v20)
) (fun next21 (x22:JAA) i23 s=>Ee (some ((⟨0,[],(⟨false,(0:UInt64),(0:UInt64)⟩:Addr),0,0,0,[],[],[]⟩:JAE),13)) next21 x22 s
) v1 0 ((-1),[],false,(0:UInt64),(0:UInt64),(-1),(-1),(-1),[],[])
) fun (v254,v255,v256,v257,v258,v259,v260,v261,v262,v263)=> AC (τ:=(List JAA)) (fun k264=> Ao (σ:=Int×(List JAA)) (fun next265 (v266,v267)=> if (decide (v266<256)) then AC (τ:=(List JAA)) (fun k268=> AC (τ:=(List JAA)) (fun k269=> Ak (σ:=(List JAA)) (fun v270=> k269 v270
) (fun next271 (x272:JAA) i273 v270=> AC (τ:=Bool) (fun k274=> if (x272.Type_==v266) then
(BY v266).bind fun v275=> if (cond true v275 false) then if (cond true ((AD ((BitVec.ofInt 64 x272.Flags &&& BitVec.ofInt 64 64).toNat:Int)) != 0) false) then k274 (cond true (decide ((x272.Data.length:Int)<=255)) false) else k274 false else k274 false else k274 false
) fun v276=> AC (τ:=(List JAA)) (fun k277=> if v276 then
(apnd (α:=UInt8) 1 [] x272.Data).bind fun _=>
(apnd (α:=JAA) 40 v270 ([(⟨224,v266,x272.Data⟩:JAA)]:List JAA)).bind fun v278=> k277 v278 else k277 v270
) fun v279=> next271 v279
) v1 0 v267
) fun v280=> k268 v280
) fun v281=> next265 ((AD (v266+1)),v281) else k264 v267
) fuel (1,[])
) fun v282=> if (decide ((v282.length:Int) > 8)) then some ((⟨0,[],(⟨false,(0:UInt64),(0:UInt64)⟩:Addr),0,0,0,[],[],[]⟩:JAE),3) else some ((⟨v254,v255,(⟨v256,v257,v258⟩:Addr),v259,v260,v261,v262,v263,v282⟩:JAE),0)
def EM (a0:JAA)(a1:Int):Option Bool:= AC (τ:=Bool) (fun k1=> if (decide (a1 > 0)) then k1 (cond true ((AD ((BitVec.ofInt 64 a0.Flags &&& BitVec.ofInt 64 192).toNat:Int)) != 128) false) else k1 false
) fun v2=> some v2
def E7 (a0:List UInt8):Option (JAG×Int):=
(ER a0).bind fun (v1,v2,v3)=>
(ER v2).bind fun (v4,v5,v6)=> AC (τ:=Bool) (fun k7=> if (!v3) then k7 true else k7 (cond false true (!v6))
) fun v8=> if v8 then some ((⟨[],(⟨0,[],(⟨false,(0:UInt64),(0:UInt64)⟩:Addr),0,0,0,[],[],[]⟩:JAE),[]⟩:JAG),12) else AC (τ:=Unit) (fun k9=> k9 ()
) fun _=> AC (τ:=Bool×(List JAC)) (fun k10=> AC (τ:=(List JAC)) (fun k11=> Ao (σ:=(List UInt8)×(List JAC)) (fun next12 (v13,v14)=> if (decide ((v13.length:Int) > 0)) then
(geti v13 0).bind fun v15=> AC (τ:=Bool) (fun k16=> if (decide ((v15.toNat:Int) > (AD (8*4)))) then k16 true else k16 (cond false true (decide ((v13.length:Int)<(AD (1+(AD (Int.tdiv (AD ((v15.toNat:Int)+7)) 8)))))))
) fun v17=> if v17 then k10 (false,[]) else
(part v13 1 (AD (1+(AD (Int.tdiv (AD ((v15.toNat:Int)+7)) 8))))).bind fun v18=>
(apnd (α:=UInt8) 1 [] v18).bind fun _=>
(chk (0<=(AD (4-(AD (Int.tdiv (AD ((v15.toNat:Int)+7)) 8))))/\(AD (4-(AD (Int.tdiv (AD ((v15.toNat:Int)+7)) 8))))<=1048576)).bind fun _=>
(apnd (α:=UInt8) 1 v18 (List.replicate (Int.toNat (AD (4-(AD (Int.tdiv (AD ((v15.toNat:Int)+7)) 8))))) (0:UInt8))).bind fun v19=>
(A5 v19).bind fun (v20,v21)=>
(B1 v20 (v15.toNat:Int)).bind fun (v22,v23)=>
(apnd (α:=JAC) 32 v14 ([v22]:List JAC)).bind fun v24=>
(part v13 (AD (1+(AD (Int.tdiv (AD ((v15.toNat:Int)+7)) 8)))) (v13.length:Int)).bind fun v25=> next12 (v25,v24) else k11 v14
) fuel (v1,[])
) fun v26=> k10 (true,v26)
) fun (v27,v28)=>
(Eo v4).bind fun (v29,v30)=>
(FX v29 14).bind fun (v31,v32)=>
(FX v29 15).bind fun (v33,v34)=>
(DC v31 v32).bind fun (v35,v36,v37)=>
(C6 v33 v34).bind fun (v38,v39)=> AC (τ:=Bool×(List JAC)) (fun k40=> AC (τ:=(List JAC)) (fun k41=> Ao (σ:=(List UInt8)×(List JAC)) (fun next42 (v43,v44)=> if (decide ((v43.length:Int) > 0)) then
(geti v43 0).bind fun v45=> AC (τ:=Bool) (fun k46=> if (decide ((v45.toNat:Int) > (AD (8*4)))) then k46 true else k46 (cond false true (decide ((v43.length:Int)<(AD (1+(AD (Int.tdiv (AD ((v45.toNat:Int)+7)) 8)))))))
) fun v47=> if v47 then k40 (false,[]) else
(part v43 1 (AD (1+(AD (Int.tdiv (AD ((v45.toNat:Int)+7)) 8))))).bind fun v48=>
(apnd (α:=UInt8) 1 [] v48).bind fun _=>
(chk (0<=(AD (4-(AD (Int.tdiv (AD ((v45.toNat:Int)+7)) 8))))/\(AD (4-(AD (Int.tdiv (AD ((v45.toNat:Int)+7)) 8))))<=1048576)).bind fun _=>
(apnd (α:=UInt8) 1 v48 (List.replicate (Int.toNat (AD (4-(AD (Int.tdiv (AD ((v45.toNat:Int)+7)) 8))))) (0:UInt8))).bind fun v49=>
(A5 v49).bind fun (v50,v51)=>
(B1 v50 (v45.toNat:Int)).bind fun (v52,v53)=>
(apnd (α:=JAC) 32 v44 ([v52]:List JAC)).bind fun v54=>
(part v43 (AD (1+(AD (Int.tdiv (AD ((v45.toNat:Int)+7)) 8)))) (v43.length:Int)).bind fun v55=> next42 (v55,v54) else k41 v44
) fuel (v5,[])
) fun v56=> k40 (true,v56)
) fun (v57,v58)=>
(apnd (α:=JAC) 32 v28 v38).bind fun v59=>
(apnd (α:=JAC) 32 v58 v36).bind fun v60=> AC (τ:=Bool) (fun k61=> if (!v27) then k61 true else if (cond false true (v30 != 0)) then k61 true else if (cond false true (!v37)) then k61 true else if (cond false true (!v39)) then k61 true else if (cond false true (!v57)) then k61 true else if (decide ((v58.length:Int) > 0)) then if (cond false true (cond true (decide ((v36.length:Int) > 0)) false)) then k61 true else if (cond false true (decide ((v59.length:Int) > 256))) then k61 true else k61 (cond false true (decide ((v60.length:Int) > 256))) else if (cond false true (decide ((v59.length:Int) > 256))) then k61 true else k61 (cond false true (decide ((v60.length:Int) > 256)))
) fun v62=> if v62 then some ((⟨[],(⟨0,[],(⟨false,(0:UInt64),(0:UInt64)⟩:Addr),0,0,0,[],[],[]⟩:JAE),[]⟩:JAG),12) else
(H5 v29).bind fun (v63,v64)=> if (v64==12) then some ((⟨[],(⟨0,[],(⟨false,(0:UInt64),(0:UInt64)⟩:Addr),0,0,0,[],[],[]⟩:JAE),[]⟩:JAG),v64) else if ((v60.length:Int)==0) then some ((⟨v59,(⟨(-1),[],(⟨false,(0:UInt64),(0:UInt64)⟩:Addr),(-1),(-1),(-1),[],[],[]⟩:JAE),v60⟩:JAG),0) else
(FX v29 2).bind fun (v65,v66)=> AC (τ:=Bool) (fun k67=> if (v64 != 0) then k67 true else
(EM v31 v32).bind fun v68=> if (cond false true v68) then k67 true else
(EM v33 v34).bind fun v69=> if (cond false true v69) then k67 true else if (cond false true (v63.Origin==(-1))) then k67 true else if (cond false true (v66==0)) then k67 true else if (decide ((v58.length:Int) > 0)) then k67 (cond false true (cond true (Addr.eqd v63.Next (⟨false,(0:UInt64),(0:UInt64)⟩:Addr)) false)) else k67 false
) fun v70=> if v70 then
(apnd (α:=JAC) 32 [] v59).bind fun _=>
(apnd (α:=JAC) 32 v59 v60).bind fun v71=> some ((⟨v71,(⟨(-1),[],(⟨false,(0:UInt64),(0:UInt64)⟩:Addr),(-1),(-1),(-1),[],[],[]⟩:JAE),[]⟩:JAG),13) else AC (τ:=JAE) (fun k72=> if (decide ((v36.length:Int) > 0)) then k72 ({ v63 with Next:=v35 }) else k72 v63
) fun v73=> some ((⟨v59,v73,v60⟩:JAG),0)
def Hz (a0:List UInt8):Option (Bool×Bool):= if ((bs a0).toList==(ByteArray.mk (List.toArray (List.cons 0 (List.cons 0 (List.cons 0 (List.cons 0 List.nil)))))).toList) then some (true,false) else
(E7 a0).bind fun (v1,v2)=> AC (τ:=Bool) (fun k3=> if (v2 != 0) then k3 true else if (cond false true (decide ((v1.Withdraw.length:Int) > 0))) then k3 true else if (cond false true (decide ((v1.Announce.length:Int) > 0))) then k3 true else if (cond false true (decide ((a0.length:Int)<2))) then k3 true else
(geti a0 0).bind fun v4=> if (cond false true ((v4.toNat:Int) != 0)) then k3 true else
(geti a0 1).bind fun v5=> k3 (cond false true ((v5.toNat:Int) != 0))
) fun v6=> if v6 then some (false,false) else
(part a0 2 (a0.length:Int)).bind fun v7=>
(ER v7).bind fun (v8,v9,v10)=>
(Eo v8).bind fun (v11,v12)=> AC (τ:=Bool) (fun k13=> if (!v10) then k13 true else if (cond false true (decide ((v9.length:Int) > 0))) then k13 true else if (cond false true (v12 != 0)) then k13 true else if (cond false true ((v11.length:Int) != 1)) then k13 true else
(geti v11 0).bind fun v14=> k13 (cond false true (v14.Type_ != 15))
) fun v15=> if v15 then some (false,false) else some (true,true)
def EK (a0:List JAC)(a1:List JAC):Option Bool:= if ((a0.length:Int) != (a1.length:Int)) then some false else AC (τ:=Unit) (fun k1=> Ak (σ:=Unit) (fun _=> k1 ()
) (fun next2 (x3:JAC) i4 _=>
(geti a1 (i4:Int)).bind fun v5=> if (!(JAC.eqd v5 x3)) then some false else next2 ()
) a0 0 ()
) fun _=> some true
def IA (a0:JAG)(a1:JAG):Option Bool:= AC (τ:=Bool) (fun k1=>
(EK a0.Withdraw a1.Withdraw).bind fun v2=> if v2 then
(EK a0.Announce a1.Announce).bind fun v3=> if (cond true v3 false) then
(Dm a0.JAE a1.JAE).bind fun v4=> k1 (cond true v4 false) else k1 false else k1 false
) fun v5=> some v5
def Cc (a0:List UInt8)(a1:List Int)(a2:Int)(a3:Int):Option Bool:=
(JM a0).bind fun v1=> if (!v1) then
(G1).bind fun v2=> some v2 else
(NI a1).bind fun v3=>
(Hj v3).bind fun (v4,v5)=>
(G0 v4 a2 a3).bind fun v6=>
(apnd (α:=UInt8) 1 ([(0:UInt8),(0:UInt8),(0:UInt8),(Am (a0.length:Int))]:List UInt8) a0).bind fun v7=> AC (τ:=Unit) (fun k8=> Ak (σ:=Unit) (fun _=> k8 ()
) (fun next9 (x10:List UInt8) i11 _=>
(FM x10).bind fun (v12,v13)=>
(E7 x10).bind fun (v14,v15)=>
(Fz x10).bind fun (v16,v17)=>
(Hz x10).bind fun (v18,v19)=> AC (τ:=Bool) (fun k20=> if (v13==12) then k20 (cond true (v15==12) false) else k20 false
) fun v21=> AC (τ:=JAG×JAG) (fun k22=> if v21 then k22 ((⟨[],(⟨0,[],(⟨false,(0:UInt64),(0:UInt64)⟩:Addr),0,0,0,[],[],[]⟩:JAE),[]⟩:JAG),(⟨[],(⟨0,[],(⟨false,(0:UInt64),(0:UInt64)⟩:Addr),0,0,0,[],[],[]⟩:JAE),[]⟩:JAG)) else k22 (v12,v14)
) fun (v23,v24)=> AC (τ:=Bool) (fun k25=>
(IA v23 v24).bind fun v26=> if (!v26) then k25 true else if (cond false true (v13 != v15)) then k25 true else if (cond false true (!(v16==v18))) then k25 true else k25 (cond false true (!(v17==v19)))
) fun v27=> if v27 then some false else next9 ()
) ([a0,v4,v6,v7,([(0:UInt8),(0:UInt8),(0:UInt8),(6:UInt8),(128:UInt8),(15:UInt8),(3:UInt8),(0:UInt8),(2:UInt8),(1:UInt8)]:List UInt8),([(0:UInt8),(0:UInt8),(0:UInt8),(6:UInt8),(128:UInt8),(15:UInt8),(3:UInt8),(0:UInt8),(Am a3),(1:UInt8)]:List UInt8),([(0:UInt8),(0:UInt8),(0:UInt8),(0:UInt8)]:List UInt8)]:List (List UInt8)) 0 ()
) fun _=>
(G1).bind fun v28=> some v28
end
end Go.AX.Q19
end
section
namespace Go.AX.Q19
open Go Go.AX Go.Proofs
def keep:FuncId->List Bool:=fun f=>(match Nat.beq f 227 with | true=>[true]|false=>(match Nat.beq f 218 with | true=>[true]|false=>(match Nat.beq f 225 with | true=>[true]|false=>(match Nat.beq f 120 with | true=>[true]|false=>(match Nat.beq f 228 with | true=>[true]|false=>(match Nat.beq f 226 with | true=>[true]|false=>(match Nat.beq f 219 with | true=>[true]|false=>(match Nat.beq f 87 with | true=>[true]|false=>(match Nat.beq f 96 with | true=>[true]|false=>(match Nat.beq f 158 with | true=>[true]|false=>[]))))))))))
def WO:FuncId->Bool:=fun f=>(match Nat.beq f 222 with | true=>true | false=>(match Nat.beq f 220 with | true=>true | false=>(match Nat.beq f 216 with | true=>true | false=>(match Nat.beq f 215 with | true=>true | false=>(match Nat.beq f 214 with | true=>true | false=>(match Nat.beq f 213 with | true=>true | false=>(match Nat.beq f 212 with | true=>true | false=>(match Nat.beq f 211 with | true=>true | false=>(match Nat.beq f 210 with | true=>true | false=>(match Nat.beq f 209 with | true=>true | false=>(match Nat.beq f 208 with | true=>true | false=>(match Nat.beq f 156 with | true=>true | false=>(match Nat.beq f 155 with | true=>true | false=>(match Nat.beq f 134 with | true=>true | false=>(match Nat.beq f 125 with | true=>true | false=>(match Nat.beq f 117 with | true=>true | false=>(match Nat.beq f 112 with | true=>true | false=>(match Nat.beq f 64 with | true=>true | false=>(match Nat.beq f 60 with | true=>true | false=>(match Nat.beq f 17 with | true=>true | false=>false))))))))))))))))))))
def eU:Nat->Option (List (D×D)):=fun g=>(match Nat.beq g 1 with | true=>some ([(D.i 1,D.val (.func (.func 208) #[] #[])),(D.i 2,D.val (.func (.func 209) #[] #[])),(D.i 3,D.val (.func (.func 210) #[] #[])),(D.i 4,D.val (.func (.func 211) #[] #[])),(D.i 5,D.val (.func (.func 213) #[] #[])),(D.i 8,D.val (.func (.func 214) #[] #[])),(D.i 32,D.val (.func (.func 215) #[] #[])),(D.i 35,D.val (.func (.func 216) #[] #[]))])|false=>(match Nat.beq g 0 with | true=>some (Bv D.i D.i Du)|false=>none))
abbrev Wl (p:Prop):WL:=⟨p,eU⟩
theorem ok {wl:Prop}{f:FuncId}(fn:Func){args:List AV}{objs:List OB}{res:AV}{objs':List OB}
    (hf : Tryz.prog.funcs[f]? = some fn) (hn : (fn.name == "runtime.NumGoroutine") = false) (h : ZG (mcx (Wl wl) Tryz.prog tt keep WO 0 objs.length) fn args objs fun r o => r = res ∧ o = objs') : CallsOK (Wl wl) Tryz.prog f args objs res objs' :=
  ce bF (by kernel_rfl) keep WO 0 hf hn h
theorem okx {wl:Prop}{f:FuncId}(ex:Nat)(fn:Func){args:List AV}{objs:List OB}{res:AV}{objs':List OB}
    (hf : Tryz.prog.funcs[f]? = some fn) (hn : (fn.name == "runtime.NumGoroutine") = false) (h : ZG (mcx (Wl wl) Tryz.prog tt keep WO ex objs.length) fn args objs fun r o => r = res ∧ o = objs') : CallsOK (Wl wl) Tryz.prog f args objs res objs' :=
  ce bF (by kernel_rfl) keep WO ex hf hn h
theorem inl {wl:Prop}{f:FuncId}(fn:Func)(np:Nat){args:List AV}{ob:List (Option OB)}{K:AV->List (Option OB)->Prop}
    (hf : Tryz.prog.funcs[f]? = some fn) (hn : (fn.name == "runtime.NumGoroutine") = false) (h : dl (mcx (Wl wl) Tryz.prog tt keep WO 0 np) fn args ob K) : YR (Wl wl) Tryz.prog f args ob K :=
  dF bF (by kernel_rfl) keep WO np hf hn h
abbrev X:AV:=.dead
abbrev N:Option OB:=none
def dd:Nat->List AV->List AV
  | 0,l=>l
  | n+1,l=>.dead::dd n l
def nn:Nat->List (Option OB)->List (Option OB)
  | 0,l=>l
  | n+1,l=>none::nn n l
abbrev yb (x:Bool):AV:=.d (D.b x)
abbrev yi (x:Int):AV:=.d (D.i x)
abbrev yu (x:UInt64):AV:=.d (D.u64 x)
abbrev yv (x:UInt8):AV:=.d (D.u8 x)
abbrev ys (x:ByteArray):AV:=.d (D.s x)
theorem oK {wl:Prop}{f:FuncId}(fn:Func){args:List AV}{objs:List OB}{res:AV}{objs':List OB}(h:ZG (mcx (Wl wl) Tryz.prog tt keep WO 0 objs.length) fn args objs fun r o=>r=res∧o=objs')(hf:Tryz.prog.funcs[f]?=some fn:=by kernel_rfl)(hn:(fn.name == "runtime.NumGoroutine")=false:=by kernel_rfl):CallsOK (Wl wl) Tryz.prog f args objs res objs':=ok fn hf hn h
theorem oKx {wl:Prop}{f:FuncId}(ex:Nat)(fn:Func){args:List AV}{objs:List OB}{res:AV}{objs':List OB}(h:ZG (mcx (Wl wl) Tryz.prog tt keep WO ex objs.length) fn args objs fun r o=>r=res∧o=objs')(hf:Tryz.prog.funcs[f]?=some fn:=by kernel_rfl)(hn:(fn.name == "runtime.NumGoroutine")=false:=by kernel_rfl):CallsOK (Wl wl) Tryz.prog f args objs res objs':=okx ex fn hf hn h
theorem cO {ops:Array Oper}{e:List (List Nat×List Nat)}{K:Prop}(k:K)(h:confB ops e=true:=by kernel_rfl):FT ops 0 e=true/\K:=cOB h k
theorem dO {ops:Array Oper}{K:Prop}(k:K)(h:drawB ops=true:=by kernel_rfl):HJ ops=true/\K:=dOB h k
abbrev yr (a b:Nat):AV:=.ref a b
abbrev yO {α:Type}(r:Nat)(f:α->D)(l:List α):AV:=.own r (List.map f l).length
abbrev yR {α:Type}(e s:Nat)(f:α->D)(l:List α):Option OB:=some (OB.row e s (List.map f l) .no)
abbrev yB (l:List AV):Option OB:=some (OB.box l)
abbrev y0 (l:List JAD):AV:=.d (D.l 2 JAD.toD l)
abbrev y1 (l:List JAB):AV:=.d (D.l 2 JAB.toD l)
abbrev y2 (l:List JAF):AV:=.d (D.l 3 JAF.toD l)
abbrev y3 (l:List UInt8):AV:=.d (D.l 1 D.u8 l)
abbrev y4 (l:List JAA):AV:=.d (D.l 3 JAA.toD l)
abbrev y5 (l:List JAC):AV:=.d (D.l 4 JAC.toD l)
abbrev y6 (l:List Int):AV:=.d (D.l 1 D.i l)
abbrev yA0 (a0:Int)(a1:List JAD)(a2:Bool)(a3:UInt64)(a4:UInt64)(a5:Int)(a6:Int)(a7:Int)(a8:List JAB)(a9:List JAF):Option OB:=yB [yi a0,y0 a1,yb a2,yu a3,yu a4,yi a5,yi a6,yi a7,y1 a8,y2 a9,AV.d (D.nil 3)]
abbrev yA1 (a1:Int)(a3:Bool)(a4:UInt64)(a5:UInt64)(a6:Int)(a7:Int)(a8:Int):Option OB:=yB [AV.d (D.nil 4),yi a1,AV.d (D.nil 2),yb a3,yu a4,yu a5,yi a6,yi a7,yi a8,AV.d (D.nil 2),AV.d (D.nil 3),AV.d (D.nil 3),AV.d (D.nil 4)]
abbrev zS0 (a0:Int)(a1:Bool)(a2:UInt64)(a3:UInt64)(a4:Int)(a5:Int)(a6:Int)(a7:List JAD)(a8:List JAB)(a9:List JAF):Option OB:=yB [yi a0,yO 106 JAD.toD a7,yb a1,yu a2,yu a3,yi a4,yi a5,yi a6,yO 105 JAB.toD a8,yO 104 JAF.toD a9,AV.d (D.nil 3)]
abbrev zS1 (a0:Int)(a1:Bool)(a2:UInt64)(a3:UInt64)(a4:Int)(a5:Int)(a6:Int)(a7:List JAD)(a8:List JAB)(a9:List JAF)(a10:List JAA):Option OB:=yB [yi a0,y0 a7,yb a1,yu a2,yu a3,yi a4,yi a5,yi a6,y1 a8,y2 a9,yO 104 JAA.toD a10]
abbrev zS2 (a0:List JAA):Option OB:=yB [yO 168 JAA.toD a0]
abbrev zS3 (a0:Int)(a1:Bool)(a2:UInt64)(a3:UInt64)(a4:Int)(a5:Int)(a6:Int)(a7:List JAD)(a8:List JAB)(a9:List JAF)(a10:List JAA):Option OB:=yB [yi a0,yO 64 JAD.toD a7,yb a1,yu a2,yu a3,yi a4,yi a5,yi a6,yO 65 JAB.toD a8,yO 67 JAF.toD a9,yO 56 JAA.toD a10]
abbrev zS4 (a0:Int)(a1:Bool)(a2:UInt64)(a3:List JAC)(a4:List JAC):Option OB:=yB [yO 204 JAC.toD a3,yi a0,AV.d (D.nil 2),yb a1,yu a2,yu a2,yi a0,yi a0,yi a0,AV.d (D.nil 2),AV.d (D.nil 3),AV.d (D.nil 3),yO 203 JAC.toD a4]
abbrev zS5 (a0:Int)(a1:Bool)(a2:UInt64)(a3:List JAC)(a4:List JAC):Option OB:=yB [yO 22 JAC.toD a3,yi a0,AV.d (D.nil 2),yb a1,yu a2,yu a2,yi a0,yi a0,yi a0,AV.d (D.nil 2),AV.d (D.nil 3),AV.d (D.nil 3),yO 48 JAC.toD a4]
abbrev zS6 (a0:List JAC)(a1:Bool)(a2:UInt64)(a3:UInt64)(a4:List JAA)(a5:List JAC)(a6:List JAC)(a7:List JAC):Option OB:=yB [AV.d (D.l 3 JAA.toD a4),AV.d (D.b a1),AV.d (D.u64 a2),AV.d (D.u64 a3),AV.d (D.l 4 JAC.toD a5),y5 a0,AV.d (D.l 4 JAC.toD a6),AV.d (D.l 4 JAC.toD a7)]
abbrev zS7 (a0:Int)(a1:Bool)(a2:UInt64)(a3:List JAC):Option OB:=yB [yO 22 JAC.toD a3,yi a0,AV.d (D.nil 2),yb a1,yu a2,yu a2,yi a0,yi a0,yi a0,AV.d (D.nil 2),AV.d (D.nil 3),AV.d (D.nil 3),AV.d (D.nil 4)]
abbrev zS8 (a0:Int)(a1:Bool)(a2:UInt64)(a3:UInt64)(a4:Int)(a5:Int)(a6:Int)(a7:List JAD)(a8:List JAB)(a9:List JAF):List (Option OB):=N::N::yB JAE.zv::nn 67 (yB JAE.zv::N::zS0 a0 a1 a2 a3 a4 a5 a6 a7 a8 a9::nn 31 (yR 141 3 JAF.toD a9::yR 137 2 JAB.toD a8::yR 132 2 JAD.toD a7::nn 127 ([])))
abbrev zS9 (a0:List JAA)(a1:JAG)(a2:JAE):List (Option OB):=N::yB (JAG.av a1)::some (OB.row 88 3 (List.map JAA.toD []) .no)::nn 53 (yB (JAE.av a2)::N::N::zS2 a0::nn 108 (yR 88 3 JAA.toD a0::nn 17 ([])))
abbrev ZO (a0:Int)(a1:Bool)(a2:UInt64)(a3:UInt64)(a4:Int)(a5:Int)(a6:Int)(a7:List JAD)(a8:List JAB)(a9:List JAF)(a10:JAA):List (Option OB):=N::N::yB JAE.zv::nn 67 (yB JAE.zv::N::zS0 a0 a1 a2 a3 a4 a5 a6 a7 a8 a9::N::yB (JAA.av a10)::nn 29 (yR 141 3 JAF.toD a9::yR 137 2 JAB.toD a8::yR 132 2 JAD.toD a7::nn 127 ([])))
abbrev Wm (a0:Int)(a1:Int)(a2:Bool)(a3:Bool)(a4:Bool)(a5:List JAA):List AV:=X::X::yr 70 0::X::yr 72 0::dd 5 (y4 a5::yi a0::yi a1::dd 11 (yb a2::X::X::X::yb a3::X::X::X::yb a4::dd 6 ([])))
abbrev W0 (a0:Bool)(a1:List JAD)(a2:List Int)(a3:JAI):List (Option OB):=yB (JAI.av a3)::N::N::N::yR 132 2 JAD.toD a1::N::N::yB [yb a0,yO 52 D.i a2]::nn 44 (yR 3 1 D.i a2::nn 58 ([]))
abbrev Wv (a0:Int)(a1:Int)(a2:Bool)(a3:List JAA):List AV:=X::X::yr 70 0::X::yr 72 0::dd 5 (y4 a3::yi a0::yi a1::dd 22 (yb a2::X::X::X::[]))
abbrev ZH (a0:Int)(a1:Bool)(a2:UInt64)(a3:UInt64)(a4:Int)(a5:Int)(a6:Int)(a7:List JAD)(a8:List JAB)(a9:List JAF)(a10:List JAA):List (Option OB):=N::N::yB JAE.zv::N::N::N::zS1 a0 a1 a2 a3 a4 a5 a6 a7 a8 a9 a10::nn 97 (yR 88 3 JAA.toD a10::nn 208 ([]))
abbrev Vy :List AV:=X::yr 1 0::X::X::AV.own 4 (List.map JAA.toD []).length::AV.mp 24::dd 189 ([])
abbrev dD (a0:Int)(a1:Bool)(a2:UInt64)(a3:UInt64)(a4:Int)(a5:Int)(a6:Int)(a7:List JAD)(a8:List JAB)(a9:List JAF)(a10:List JAA):List (Option OB):=N::N::yB JAE.zv::N::zS3 a0 a1 a2 a3 a4 a5 a6 a7 a8 a9 a10::nn 51 (yR 88 3 JAA.toD a10::nn 7 (yR 132 2 JAD.toD a7::yR 137 2 JAB.toD a8::N::yR 141 3 JAF.toD a9::nn 166 ([])))
abbrev eF (a0:Int)(a1:Int)(a2:Int)(a3:Int)(a4:List JAD)(a5:List JAB)(a6:List JAF)(a7:List JAA)(a8:List Int)(a9:Bool)(a10:UInt64)(a11:UInt64)(a12:JAI):List (Option OB):=yB (JAI.av a12)::N::N::yB JAE.zv::yB [yi a0,y0 a4,AV.d (D.b a9),AV.d (D.u64 a10),AV.d (D.u64 a11),yi a1,yi a2,yi a3,y1 a5,y2 a6,yO 67 JAA.toD a7]::nn 46 (yR 3 1 D.i a8::nn 15 (yR 88 3 JAA.toD a7::nn 5 ([])))
abbrev dN (a0:Int)(a1:Int)(a2:List UInt8)(a3:List JAD):List AV:=X::yr 1 0::X::X::AV.own 4 (List.map JAA.toD []).length::AV.mp 24::yO 42 D.u8 a2::dd 37 (AV.d (D.l 2 JAD.toD a3)::yi a0::yi a1::dd 148 ([]))
abbrev be (a0:Int)(a1:Bool)(a2:Int):List AV:=yr 6 0::X::X::yr 116 0::X::yi a0::dd 9 (AV.d (D.i a2)::dd 45 (yb a1::dd 138 ([])))
abbrev cz (a0:Int)(a1:Bool)(a2:UInt64)(a3:List JAC)(a4:List JAC)(a5:JAI):List (Option OB):=yB (JAI.av a5)::N::N::yB JAG.zv::zS5 a0 a1 a2 a3 a4::nn 17 (yR 41 4 JAC.toD a3::nn 25 (yR 41 4 JAC.toD a4::nn 30 ([])))
abbrev dR (a0:Bool)(a1:Int)(a2:Int)(a3:List JAA):List AV:=yr 0 0::X::X::AV.mp 10::dd 4 (yb a0::dd 4 (AV.d (D.l 3 JAA.toD a3)::yi a1::yi a2::dd 79 ([])))
abbrev eQ (a0:Int)(a1:Int)(a2:Int)(a3:List JAA)(a4:List JAA):List AV:=X::yr 1 0::X::X::yO 4 JAA.toD a3::AV.mp 24::dd 10 (yi a0::dd 135 (yi a0::dd 19 (AV.d (D.l 3 JAA.toD a4)::yi a1::yi a2::dd 20 ([]))))
abbrev dX (a0:Int)(a1:Int)(a2:Int)(a3:Int)(a4:List JAA):List AV:=X::yi a0::X::X::yr 4 0::X::yr 6 0::yi a1::X::X::y4 a4::yi a2::yi a3::dd 15 ([])
abbrev Ye (a0:List UInt8)(a1:JAI):List (Option OB):=yB (JAI.av a1)::nn 5 (yR 5 1 D.u8 a0::nn 37 ([]))
abbrev fC (a0:Int)(a1:Int)(a2:List Int):List AV:=yr 0 0::X::yr 3 0::yr 4 0::dd 46 (yO 51 D.i a2::yi a0::yi a1::dd 17 ([]))
abbrev fA (a0:List JAA)(a1:JAG):List (Option OB):=N::yB (JAG.av a1)::some (OB.row 88 3 (List.map JAA.toD []) .no)::nn 56 (zS2 a0::nn 108 (yR 88 3 JAA.toD a0::nn 17 ([])))
abbrev du (a0:List JAC)(a1:Addr):List (Option OB):=nn 4 (yB Addr.zv::N::N::N::yB (Addr.av a1)::nn 67 (yR 41 4 JAC.toD a0::nn 57 ([])))
abbrev bw (a0:JAI)(a1:Addr):List (Option OB):=yB (JAI.av a0)::N::N::yB JAC.zv::yB (Addr.av a1)::nn 35 ([])
abbrev XI (a0:List Int):List (Option OB):=N::N::N::yR 3 1 D.i a0::nn 48 ([])
abbrev dL (a0:Int)(a1:List JAA):List AV:=X::yr 1 0::X::X::yO 4 JAA.toD a1::AV.mp 24::dd 146 (yi a0::dd 42 ([]))
abbrev ZF (a0:List JAB):List (Option OB):=yR 137 2 JAB.toD a0::nn 61 ([])
abbrev bL (a0:JAA):List (Option OB):=nn 4 (yB JAA.zv::N::yB (JAA.av a0)::nn 21 ([]))
abbrev Ir :List AV:=dd 200 ([])
abbrev Yn (a0:List JAF):List (Option OB):=yR 141 3 JAF.toD a0::nn 61 ([])
abbrev bk (a0:Addr):List (Option OB):=N::N::yB Addr.zv::N::yB (Addr.av a0)::nn 38 ([])
abbrev Yt (a0:JAG):List (Option OB):=N::yB (JAG.av a0)::nn 90 ([])
abbrev yC (wl:Prop):=CallsOK (Wl wl) Tryz.prog
end Go.AX.Q19
end
section
namespace Go.AX.Q19
open Go Go.AX Go.Proofs Go.Proofs.YtbohbnpaadcfmaaGreatDoor
def gC (n:Int):FuncId:=if n=1 then 208 else if n=2 then 209 else if n=3 then 210 else if n=4 then 211 else if n=5 then 213 else if n=8 then 214 else if n=32 then 215 else 216
def D2f {H:Type}:Lit×DataW H->D×D
 | (.int k n,.lit (.int k' m))=>(.val (.int k n),.val (.int k' m))
 | _=>(D.i 0,D.i 0)
def D2r {H:Type}:Lit×DataW H->D×D
 | (.int k n,_)=>(.val (.int k n),.val (.func (.func (gC n)) #[] #[]))
 | _=>(D.i 0,D.i 0)
theorem glob_ok {W:World}{p:Prop}(h:laidMetH Tryz.prog Rows.updateEncodesRow.laid W) :∃gb:Nat->Prop,(Wl p).gf gb W/\∀b,gb b->b<W.heap.size:=by
 obtain⟨h1,_⟩:=laidMetH_iff.1 h
 have e1 : (Rows.updateEncodesRow.laid.filter fun x => x.2.handleName?.isNone) = [("exchangepoint/attribute.flags", Rows.laid_exchangepoint_attribute_flags)] := by kernel_rfl
 rw[e1] at h1
 obtain⟨ps,⟨g0,t0,cs0,f0,p0,q0,hg0,ht0,hv0,hd0,_⟩,_,_⟩:=h1
 obtain rfl := X25 ((show Tryz.prog.globalNamed "exchangepoint/attribute.flags" = some 0 by kernel_rfl).symm.trans hg0)
 obtain rfl:=X25 ((show (Tryz.prog.globals[0]?).map (·.type)=some 176 by kernel_rfl).symm.trans ht0)
 obtain⟨b0,a0,c0,hc0,hb0,hp0,ho0⟩:=Vb (kd:=.i64) Tryz.underlying176 Tryz.underlying3 hd0 D2f (fun n v d m q hm hv hf=>by
  obtain⟨j,h1,h2,_⟩:=DataW.trod_int Tryz.underlying3 hv
  simp only[X26] at h2
  obtain⟨rfl,_⟩:=h2
  have hv:v=.int .i64 j:=by
   unfold Value.formed at hf
   rw[Tryz.underlying3] at hf
   cases v<;>simp_all [Value.cells]
  subst hv
  exact⟨rfl,rfl⟩)
 obtain ⟨g1, t1, cs1, f1, p1, hg1, ht1, hv1, hd1⟩ := h.funcs (n := "exchangepoint/attribute.readers") (X19 _ (X14.2 rfl))
 obtain rfl := X25 ((show Tryz.prog.globalNamed "exchangepoint/attribute.readers" = some 1 by kernel_rfl).symm.trans hg1)
 obtain rfl:=X25 ((show (Tryz.prog.globals[1]?).map (·.type)=some 182 by kernel_rfl).symm.trans ht1)
 have hd1:DataW.trod (funcToken Tryz.prog) Tryz.prog W 0 (fun _=>true) true f1 182 cs1.toList=some (.map [(.int .i64 1,.held [101,120,99,104,97,110,103,101,112,111,105,110,116,47,97,116,116,114,105,98,117,116,101,46,114,101,97,100,79,114,105,103,105,110]),(.int .i64 2,.held [101,120,99,104,97,110,103,101,112,111,105,110,116,47,97,116,116,114,105,98,117,116,101,46,114,101,97,100,80,97,116,104]),(.int .i64 3,.held [101,120,99,104,97,110,103,101,112,111,105,110,116,47,97,116,116,114,105,98,117,116,101,46,114,101,97,100,78,101,120,116]),(.int .i64 4,.held [101,120,99,104,97,110,103,101,112,111,105,110,116,47,97,116,116,114,105,98,117,116,101,46,114,101,97,100,101,114,115,36,49]),(.int .i64 5,.held [101,120,99,104,97,110,103,101,112,111,105,110,116,47,97,116,116,114,105,98,117,116,101,46,114,101,97,100,101,114,115,36,50]),(.int .i64 8,.held [101,120,99,104,97,110,103,101,112,111,105,110,116,47,97,116,116,114,105,98,117,116,101,46,114,101,97,100,67,111,109,109,117,110,105,116,105,101,115]),(.int .i64 32,.held [101,120,99,104,97,110,103,101,112,111,105,110,116,47,97,116,116,114,105,98,117,116,101,46,114,101,97,100,76,97,114,103,101]),(.int .i64 35,.held [101,120,99,104,97,110,103,101,112,111,105,110,116,47,97,116,116,114,105,98,117,116,101,46,114,101,97,100,101,114,115,36,51])],p1):=hd1
 obtain⟨b1,a1,c1,hc1,hb1,hp1,ho1⟩:=Vb (kd:=.i64) Tryz.underlying182 Tryz.underlying3 hd1 D2r (fun n v d m q hm hv hf=>by
  have hv1:v.cells.toList=[v]:=by
   unfold Value.formed at hf
   rw[Tryz.underlying180] at hf
   cases v<;>simp_all [Value.cells]
  rw[hv1] at hv
  simp only[List.mem_cons,List.not_mem_nil,or_false,X26,Lit.int.injEq,true_and] at hm
  rcases hm with ⟨rfl,rfl⟩|⟨rfl,rfl⟩|⟨rfl,rfl⟩|⟨rfl,rfl⟩|⟨rfl,rfl⟩|⟨rfl,rfl⟩|⟨rfl,rfl⟩|⟨rfl,rfl⟩
  ·obtain rfl:=func_of_trod (f0:=208) Tryz.underlying180 (by kernel_rfl) hv
   exact⟨rfl,rfl⟩
  ·obtain rfl:=func_of_trod (f0:=209) Tryz.underlying180 (by kernel_rfl) hv
   exact⟨rfl,rfl⟩
  ·obtain rfl:=func_of_trod (f0:=210) Tryz.underlying180 (by kernel_rfl) hv
   exact⟨rfl,rfl⟩
  ·obtain rfl:=func_of_trod (f0:=211) Tryz.underlying180 (by kernel_rfl) hv
   exact⟨rfl,rfl⟩
  ·obtain rfl:=func_of_trod (f0:=213) Tryz.underlying180 (by kernel_rfl) hv
   exact⟨rfl,rfl⟩
  ·obtain rfl:=func_of_trod (f0:=214) Tryz.underlying180 (by kernel_rfl) hv
   exact⟨rfl,rfl⟩
  ·obtain rfl:=func_of_trod (f0:=215) Tryz.underlying180 (by kernel_rfl) hv
   exact⟨rfl,rfl⟩
  obtain rfl:=func_of_trod (f0:=216) Tryz.underlying180 (by kernel_rfl) hv
  exact⟨rfl,rfl⟩)
 have cell :∀{g:Nat} {n:String} {cs:Array Value} {v:Value},Tryz.prog.globalNamed n=some g->W.var? Tryz.prog n=some cs->cs.toList=[v]->cellAt W g 0=some v/\g<W.heap.size:=by
  intro g n cs v hg hv hc
  have h1:=World.var?_cell hg hv 0
  rw[Array.eq_one_of_toList hc] at h1
  have h1:W.cell? ⟨g,0,none⟩=some v:=by simpa using h1
  refine⟨h1,?_⟩
  unfold World.var? at hv
  rw[hg,Option.bind_some] at hv
  cases hh:W.heap[g]? with
  | none=>rw[hh] at hv;cases hv
  | some o=>exact (Array.getElem?_eq_some_iff.1 hh).1
 obtain⟨k0,s0⟩:=cell hg0 hv0 hc0
 obtain⟨k1,s1⟩:=cell hg1 hv1 hc1
 refine⟨fun b=>b=0\/b=1\/b=b0\/b=b1,fun g es hg=>?_,fun b hb=>?_⟩
 rotate_left
 ·rcases hb with rfl | rfl | rfl | rfl
  ·exact s0
  ·exact s1
  ·exact (Array.getElem?_eq_some_iff.1 hb0).1
  exact (Array.getElem?_eq_some_iff.1 hb1).1
 match g,hg with
 | 0,hg=>
  obtain rfl:Bv D.i D.i Du=es:=X25 hg
  refine⟨.inl rfl,b0,a0,c0,_,.inr (.inr (.inl rfl)),k0,hb0,fun tk x q hq=>?_,TN ho0⟩
  refine PX (l:=Bv D.i D.i Du) (hp0.symm) ?_ (by unfold Du Bv;simp[D.i]) hq
  intro q hq
  obtain⟨z,_,rfl⟩:=List.mem_map.1 hq
  exact⟨_,rfl⟩
 | 1,hg=>
  obtain rfl:=X25 hg
  refine⟨.inr (.inl rfl),b1,a1,c1,_,.inr (.inr (.inr rfl)),k1,hb1,fun tk x q hq=>?_,TN ho1⟩
  refine PX (hp1.symm) ?_ (by simp[D2r]) hq
  intro q hq
  obtain⟨z,hz,rfl⟩:=List.mem_map.1 hq
  simp only[List.mem_cons,List.not_mem_nil,or_false] at hz
  rcases hz with rfl | rfl | rfl | rfl | rfl | rfl | rfl | rfl<;>exact⟨_,rfl⟩
 | g+2,hg=>cases hg
end Go.AX.Q19
end
section
namespace Go.AX
class Tt {ρ:Type} (m:Option ρ):Prop where
 h :∃r,m=some r
def Ok {ρ:Type}(m:Option ρ)(Q:ρ->Prop):Prop:=∃r,m=some r/\Q r
theorem Ok.ret {ρ:Type}{Q:ρ->Prop}{r:ρ}(h:Q r):Ok (some r) Q:=⟨r,rfl,h⟩
theorem Ok.of {ρ:Type}{m:Option ρ}[t:Tt m]:Ok m fun r=>m=some r:=by
 obtain⟨r,h⟩:=t.h
 exact⟨r,h,h⟩
theorem Ok.imp {ρ:Type}{m:Option ρ}{P Q:ρ->Prop}(h:Ok m P)(k :∀r,P r->Q r):Ok m Q:=by
 obtain⟨r,h1,h2⟩:=h
 exact⟨r,h1,k r h2⟩
theorem Ok.tt {ρ:Type}{m:Option ρ}{Q:ρ->Prop}(h:Ok m Q):Tt m:=by
 obtain⟨r,h1,_⟩:=h
 exact⟨r,h1⟩
theorem Ok.bind {α ρ:Type}{m:Option α}{f:α->Option ρ}{P:α->Prop}{Q:ρ->Prop}(h:Ok m P)(k :∀a,P a->Ok (f a) Q):Ok (Option.bind m f) Q:=by
 obtain⟨a,h1,h2⟩:=h
 rw[h1]
 exact k a h2
theorem Ok.join {τ ρ:Type}{m:(τ->Option ρ)->Option ρ}{k:τ->Option ρ}{Q:ρ->Prop}(J:τ->Prop)(h1 :∀k',(∀v,J v->Ok (k' v) Q)->Ok (m k') Q)(h2 :∀v,J v->Ok (k v) Q):Ok (AC m k) Q:=h1 k h2
theorem Ok.forX {α σ ρ:Type}{done:σ->Option ρ}{body:(σ->Option ρ)->α->Nat->σ->Option ρ}{Q:ρ->Prop}{l:List α}{s0:σ}(I:Nat->σ->Prop)(h0:I 0 s0)(hd :∀s,I l.length s->Ok (done s) Q)
  (hs :∀(next:σ->Option ρ) x i s,l[i]?=some x->I i s->(∀s',I (i+1) s'->Ok (next s') Q)->Ok (body next x i s) Q):Ok (Ak done body l 0 s0) Q:=by
 have key :∀(t:List α) (i:Nat) (s:σ),(∃p,l=p++t/\p.length=i)->I i s->Ok (Ak done body t i s) Q:=by
  intro t
  induction t with
  | nil=>intro i s ⟨p,hp,hl⟩ hi;exact hd s (by rw[hp];simpa[hl] using hi)
  | cons x t ih=>
   intro i s ⟨p,hp,hl⟩ hi
   exact hs _ x i s (by rw[hp,<- hl];simp) hi fun s' h'=>ih (i+1) s' ⟨p++[x],by simp[hp],by simp[hl]⟩ h'
 exact key l 0 s0 ⟨[],rfl,rfl⟩ h0
theorem Ok.forI {α σ ρ:Type}{done:σ->Option ρ}{body:(σ->Option ρ)->α->Nat->σ->Option ρ}{Q:ρ->Prop}{l:List α}{s0:σ}(I:Nat->σ->Prop)(h0:I 0 s0)(hd :∀s,I l.length s->Ok (done s) Q)
  (hs :∀(next:σ->Option ρ) x i s,i<l.length->x∈l->I i s->(∀s',I (i+1) s'->Ok (next s') Q)->Ok (body next x i s) Q):Ok (Ak done body l 0 s0) Q:=
 .forX I h0 hd fun n x i s hx=>hs n x i s (X16.1 hx).1 (List.mem_of_getElem? hx)
theorem Ok.for_ {α σ ρ:Type}{done:σ->Option ρ}{body:(σ->Option ρ)->α->Nat->σ->Option ρ}{Q:ρ->Prop}{l:List α}{s0:σ}(hd :∀s,Ok (done s) Q)
  (hs :∀(next:σ->Option ρ) x i s,i<l.length->x∈l->(∀s',Ok (next s') Q)->Ok (body next x i s) Q):Ok (Ak done body l 0 s0) Q:=
 .forI (fun _ _=>True) trivial (fun s _=>hd s) fun n x i s h1 h2 _ h3=>hs n x i s h1 h2 fun s'=>h3 s' trivial
theorem Ok.whileI {σ ρ:Type}{body:(σ->Option ρ)->σ->Option ρ}{n:Nat}{s:σ}{Q:ρ->Prop}(I:σ->Prop)(μ:σ->Nat)(h0:I s)(hm:μ s<n)
  (hs :∀(next:σ->Option ρ) s,I s->(∀s',I s'->μ s'<μ s->Ok (next s') Q)->Ok (body next s) Q):Ok (Ao body n s) Q:=
 TW I μ Q (fun next s h k=>hs next s h k) n s h0 hm
theorem Ok.ite {ρ:Type}{p:Prop}[Decidable p]{x y:Option ρ}{Q:ρ->Prop}(h1:p->Ok x Q)(h2:¬ p->Ok y Q):Ok (if p then x else y) Q:=by
 split
 ·exact h1 ‹_›
 exact h2 ‹_›
theorem Ok.geti {α:Type}{l:List α}{i:Int}(h:0<=i/\i<l.length):Ok (geti l i) fun x=>x∈l/\geti l i=some x:=by
 have h2:i.toNat<l.length:=by omega
 have h3:Go.AX.geti l i=some l[i.toNat]:=by
  unfold Go.AX.geti
  rw[if_pos h]
  simp[h2]
 exact⟨_,h3,List.getElem_mem h2,h3⟩
theorem Ok.seti {α:Type}{l:List α}{i:Int}{x:α}(h:0<=i/\i<l.length):Ok (seti l i x) fun l'=>l'=l.set i.toNat x/\l'.length=l.length:=by
 refine⟨_,?_,rfl,by simp⟩
 unfold Go.AX.seti
 rw[if_pos h]
theorem Ok.apnd {α:Type}{b:Nat}{l m:List α}(hb:Nat.ble b 65536=true)(h:l.length+m.length<=1000000000):Ok (apnd b l m) fun l'=>l'=l++m:=⟨_,AQ hb h,rfl⟩
theorem Ok.part {α:Type}{l:List α}{a b:Int}(h:0<=a/\a<=b/\b<=l.length):Ok (part l a b) fun l'=>l'=(l.drop a.toNat).take (b.toNat-a.toNat)/\(l'.length:Int)=b-a:=by
 refine⟨_,?_,rfl,by simp;omega⟩
 unfold Go.AX.part
 rw[if_pos h]
theorem Ok.chk {p:Prop}[Decidable p](h:p):Ok (chk p) fun _=>True:=by
 refine⟨(),?_,trivial⟩
 unfold Go.AX.chk
 rw[if_pos h]
theorem Tt.auto {ρ:Type}{m:Option ρ} (h:Ok m fun _=>True:=by
  repeat' (first
   | exact Ok.ret trivial
   | assumption
   | (refine Ok.bind Ok.of ?_;intros)
   | (refine Ok.ite ?_ ?_<;>intros)
   | (refine Ok.join (fun _=>True) ?_ ?_<;>intros)
   | (refine Ok.for_ ?_ ?_<;>intros)
   | (refine Ok.bind (Ok.geti ?_) ?_<;>intros)
   | (refine Ok.bind (Ok.chk ?_) ?_<;>intros)
   | exact ‹∀v,True->Ok _ _› _ trivial
   | exact ‹∀v,Ok _ _› _
   | solve_by_elim
   | (constructor<;>first | omega | (simp_all;done)|(simp_all;omega))
   | omega
   | decide)):Tt m:=h.tt
theorem Ok.q {ρ:Type}{m:Option ρ}{Q:ρ->Prop} (h:Ok m Q:=by
  repeat' (first
   | assumption
   | refine Ok.ret ?_
   | exact trivial
   | (refine Ok.bind Ok.of ?_;intros)
   | (refine Ok.ite ?_ ?_<;>intros)
   | (refine Ok.bind (Ok.chk ?_) ?_<;>intros)
   | (refine Ok.bind (Ok.geti ?_) ?_<;>intros)
   | (refine Ok.bind (Ok.seti ?_) ?_<;>intros)
   | (refine Ok.bind (Ok.apnd (by decide) ?_) ?_<;>intros)
   | refine ‹∀v,_->_->Ok _ _› _ ?_ ?_
   | refine ‹∀v,_->Ok _ _› _ ?_
   | exact ‹∀v,Ok _ _› _
   | (refine Ok.join (τ:=Bool) (fun _=>True) ?_ ?_<;>intros)
   | (refine Ok.join (τ:=Unit) (fun _=>True) ?_ ?_<;>intros)
   | omega
   | solve_by_elim
   | (simp_all;done)
   | (simp_all;omega)
   | (simp only[X11,X12,X13,X21,decide_eq_true_eq,beq_iff_eq,bne_iff_ne,Bool.not_eq_true'] at *;(try subst_vars);(try simp only[X11,X12,X13]);omega))):Ok m Q:=h
theorem Ok.pos {ρ:Type}{Q:ρ->Prop}{n:Nat}{g:(Bool->Option ρ)->Int->Option ρ}{k:Int->Option ρ}(hn:n<=1000000000)
  (hg :∀(k':Bool->Option ρ) (v:Int),0<=v->v<=n->(∀c,(c=true->v<n)->Ok (k' c) Q)->Ok (g k' v) Q) (hk :∀v:Int,0<=v->v<=n->Ok (k v) Q) :
  Ok (AC (fun k1=>Ao (fun next v=>AC (fun k2=>g k2 v) (fun c=>if c=true then next (AD (v+1)) else k1 v)) fuel 0) k) Q:=by
 refine .join (fun v:Int=>0<=v/\v<=n) (fun k1 hk1=>?_) fun v hv=>hk v hv.1 hv.2
 refine .whileI (fun v:Int=>0<=v/\v<=n) (fun v=>(n-v).toNat) (by omega) (BS (by omega)) fun next v hv hnx=>?_
 refine .join (fun c=>c=true->v<n) (fun k2 hk2=>hg k2 v hv.1 hv.2 hk2) fun c hc=>.ite (fun h=>?_) fun _=>hk1 v hv
 have:=hc h
 rw[AP (by omega)]
 exact hnx _ (by omega) (by omega)
end Go.AX
end
