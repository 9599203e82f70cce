/-
  Texts of one proof, packed.
-/
import Derived.Test.YtbohbnpaadcfmaaGreatDoorKB4
import Derived.LaidSub
import Derived.MapKept
import Derived.Test.YtbohbnpaadcfmaaGreatDoorRows
set_option linter.all false
set_option maxRecDepth 100000
set_option maxHeartbeats 4000000
open List renaming length_append→X11,length_cons→X12,length_nil→X13,mem_singleton→X14,getElem?_eq_getElem→X15,getElem?_eq_some_iff→X16,length_take→X18,mem_cons_of_mem→X19,length_set→X21,length_singleton→X22,mem_append→X23
open Option.some renaming injEq→X24,inj→X25
open Prod.mk renaming injEq→X26
open Bool renaming eq_iff_iff→X28
section
namespace Go.AX.Q19
open Go Go.AX
noncomputable section
def Bo:List (Int×Int):=[(1,64),(2,64),(3,64),(4,128),(5,64),(8,192),(32,192),(35,192)]
structure JAI where
  L:List Int
  At:Int
def JAI.toD (x:JAI):D:=.agg [D.l 1 D.i x.L,D.i x.At]
def JAI.av (x:JAI):List AV:=[.d (D.l 1 D.i x.L),.d (D.i x.At)]
def JAI.zv:List AV:=[.d (D.nil 1),.d (D.i 0)]
def JAI.wf (x:JAI):Prop:=(x.L.length<=maxLen/\x.L.length*8<=reachBytes/\∀y0∈x.L,I64 y0)/\I64 x.At/\True
structure JAD where
  Set:Bool
  ASNs:List Int
def JAD.toD (x:JAD):D:=.agg [D.b x.Set,D.l 1 D.i x.ASNs]
def JAD.av (x:JAD):List AV:=[.d (D.b x.Set),.d (D.l 1 D.i x.ASNs)]
def JAD.zv:List AV:=[.d (D.b false),.d (D.nil 1)]
def JAD.wf (x:JAD):Prop:=True/\(x.ASNs.length<=maxLen/\x.ASNs.length*8<=reachBytes/\∀y0∈x.ASNs,I64 y0)/\True
structure Addr where
  V6:Bool
  Hi:UInt64
  Lo:UInt64
def Addr.toD (x:Addr):D:=.agg [D.b x.V6,D.u64 x.Hi,D.u64 x.Lo]
def Addr.av (x:Addr):List AV:=[.d (D.b x.V6),.d (D.u64 x.Hi),.d (D.u64 x.Lo)]
def Addr.zv:List AV:=[.d (D.b false),.d (D.u64 (0:UInt64)),.d (D.u64 (0:UInt64))]
def Addr.wf (x:Addr):Prop:=True/\True/\True/\True
def Addr.eqd (x y:Addr):Bool:=((x.V6==y.V6)&&(((x.Hi.toNat:Int)==(y.Hi.toNat:Int))&&(((x.Lo.toNat:Int)==(y.Lo.toNat:Int))&&true)))
structure JAB where
  A:Int
  B:Int
def JAB.toD (x:JAB):D:=.agg [D.i x.A,D.i x.B]
def JAB.av (x:JAB):List AV:=[.d (D.i x.A),.d (D.i x.B)]
def JAB.zv:List AV:=[.d (D.i 0),.d (D.i 0)]
def JAB.wf (x:JAB):Prop:=I64 x.A/\I64 x.B/\True
def JAB.eqd (x y:JAB):Bool:=((x.A==y.A)&&((x.B==y.B)&&true))
structure JAF where
  A:Int
  B:Int
  C:Int
def JAF.toD (x:JAF):D:=.agg [D.i x.A,D.i x.B,D.i x.C]
def JAF.av (x:JAF):List AV:=[.d (D.i x.A),.d (D.i x.B),.d (D.i x.C)]
def JAF.zv:List AV:=[.d (D.i 0),.d (D.i 0),.d (D.i 0)]
def JAF.wf (x:JAF):Prop:=I64 x.A/\I64 x.B/\I64 x.C/\True
def JAF.eqd (x y:JAF):Bool:=((x.A==y.A)&&((x.B==y.B)&&((x.C==y.C)&&true)))
structure JAA where
  Flags:Int
  Type_:Int
  Data:List UInt8
def JAA.toD (x:JAA):D:=.agg [D.i x.Flags,D.i x.Type_,D.l 1 D.u8 x.Data]
def JAA.av (x:JAA):List AV:=[.d (D.i x.Flags),.d (D.i x.Type_),.d (D.l 1 D.u8 x.Data)]
def JAA.zv:List AV:=[.d (D.i 0),.d (D.i 0),.d (D.nil 1)]
def JAA.wf (x:JAA):Prop:=I64 x.Flags/\I64 x.Type_/\(x.Data.length<=maxLen/\x.Data.length*1<=reachBytes/\∀y0∈x.Data,True)/\True
structure JAC where
  Origin:Int
  Path:List JAD
  Next:Addr
  MED:Int
  Pref:Int
  OTC:Int
  Communities:List JAB
  JAF:List JAF
  Other:List JAA
def JAC.toD (x:JAC):D:=.agg [D.i x.Origin,D.l 2 JAD.toD x.Path,D.b x.Next.V6,D.u64 x.Next.Hi,D.u64 x.Next.Lo,D.i x.MED,D.i x.Pref,D.i x.OTC,D.l 2 JAB.toD x.Communities,D.l 3 JAF.toD x.JAF,D.l 3 JAA.toD x.Other]
def JAC.av (x:JAC):List AV:=[.d (D.i x.Origin),.d (D.l 2 JAD.toD x.Path),.d (D.b x.Next.V6),.d (D.u64 x.Next.Hi),.d (D.u64 x.Next.Lo),.d (D.i x.MED),.d (D.i x.Pref),.d (D.i x.OTC),.d (D.l 2 JAB.toD x.Communities),.d (D.l 3 JAF.toD x.JAF),.d (D.l 3 JAA.toD x.Other)]
def JAC.zv:List AV:=[.d (D.i 0),.d (D.nil 2),.d (D.b false),.d (D.u64 (0:UInt64)),.d (D.u64 (0:UInt64)),.d (D.i 0),.d (D.i 0),.d (D.i 0),.d (D.nil 2),.d (D.nil 3),.d (D.nil 3)]
def JAC.wf (x:JAC):Prop:=I64 x.Origin/\(x.Path.length<=maxLen/\x.Path.length*32<=reachBytes/\∀y0∈x.Path,JAD.wf y0)/\Addr.wf x.Next/\I64 x.MED/\I64 x.Pref/\I64 x.OTC/\(x.Communities.length<=maxLen/\x.Communities.length*16<=reachBytes/\∀y0∈x.Communities,JAB.wf y0)/\(x.JAF.length<=maxLen/\x.JAF.length*24<=reachBytes/\∀y0∈x.JAF,JAF.wf y0)/\(x.Other.length<=maxLen/\x.Other.length*40<=reachBytes/\∀y0∈x.Other,JAA.wf y0)/\True
structure JAE where
  Addr:Addr
  Len:Int
def JAE.toD (x:JAE):D:=.agg [D.b x.Addr.V6,D.u64 x.Addr.Hi,D.u64 x.Addr.Lo,D.i x.Len]
def JAE.av (x:JAE):List AV:=[.d (D.b x.Addr.V6),.d (D.u64 x.Addr.Hi),.d (D.u64 x.Addr.Lo),.d (D.i x.Len)]
def JAE.zv:List AV:=[.d (D.b false),.d (D.u64 (0:UInt64)),.d (D.u64 (0:UInt64)),.d (D.i 0)]
def JAE.wf (x:JAE):Prop:=Addr.wf x.Addr/\I64 x.Len/\True
def JAE.eqd (x y:JAE):Bool:=(((x.Addr.V6==y.Addr.V6)&&(((x.Addr.Hi.toNat:Int)==(y.Addr.Hi.toNat:Int))&&(((x.Addr.Lo.toNat:Int)==(y.Addr.Lo.toNat:Int))&&true)))&&((x.Len==y.Len)&&true))
structure JAG where
  Withdraw:List JAE
  JAC:JAC
  Announce:List JAE
def JAG.toD (x:JAG):D:=.agg [D.l 4 JAE.toD x.Withdraw,D.i x.JAC.Origin,D.l 2 JAD.toD x.JAC.Path,D.b x.JAC.Next.V6,D.u64 x.JAC.Next.Hi,D.u64 x.JAC.Next.Lo,D.i x.JAC.MED,D.i x.JAC.Pref,D.i x.JAC.OTC,D.l 2 JAB.toD x.JAC.Communities,D.l 3 JAF.toD x.JAC.JAF,D.l 3 JAA.toD x.JAC.Other,D.l 4 JAE.toD x.Announce]
def JAG.av (x:JAG):List AV:=[.d (D.l 4 JAE.toD x.Withdraw),.d (D.i x.JAC.Origin),.d (D.l 2 JAD.toD x.JAC.Path),.d (D.b x.JAC.Next.V6),.d (D.u64 x.JAC.Next.Hi),.d (D.u64 x.JAC.Next.Lo),.d (D.i x.JAC.MED),.d (D.i x.JAC.Pref),.d (D.i x.JAC.OTC),.d (D.l 2 JAB.toD x.JAC.Communities),.d (D.l 3 JAF.toD x.JAC.JAF),.d (D.l 3 JAA.toD x.JAC.Other),.d (D.l 4 JAE.toD x.Announce)]
def JAG.zv:List AV:=[.d (D.nil 4),.d (D.i 0),.d (D.nil 2),.d (D.b false),.d (D.u64 (0:UInt64)),.d (D.u64 (0:UInt64)),.d (D.i 0),.d (D.i 0),.d (D.i 0),.d (D.nil 2),.d (D.nil 3),.d (D.nil 3),.d (D.nil 4)]
def JAG.wf (x:JAG):Prop:=(x.Withdraw.length<=maxLen/\x.Withdraw.length*32<=reachBytes/\∀y0∈x.Withdraw,JAE.wf y0)/\JAC.wf x.JAC/\(x.Announce.length<=maxLen/\x.Announce.length*32<=reachBytes/\∀y0∈x.Announce,JAE.wf y0)/\True
structure JAH where
  attrs:List JAA
  next:Addr
  gone4:List JAE
  gone6:List JAE
  new4:List JAE
  new6:List JAE
def JAH.toD (x:JAH):D:=.agg [D.l 3 JAA.toD x.attrs,D.b x.next.V6,D.u64 x.next.Hi,D.u64 x.next.Lo,D.l 4 JAE.toD x.gone4,D.l 4 JAE.toD x.gone6,D.l 4 JAE.toD x.new4,D.l 4 JAE.toD x.new6]
def JAH.av (x:JAH):List AV:=[.d (D.l 3 JAA.toD x.attrs),.d (D.b x.next.V6),.d (D.u64 x.next.Hi),.d (D.u64 x.next.Lo),.d (D.l 4 JAE.toD x.gone4),.d (D.l 4 JAE.toD x.gone6),.d (D.l 4 JAE.toD x.new4),.d (D.l 4 JAE.toD x.new6)]
def JAH.zv:List AV:=[.d (D.nil 3),.d (D.b false),.d (D.u64 (0:UInt64)),.d (D.u64 (0:UInt64)),.d (D.nil 4),.d (D.nil 4),.d (D.nil 4),.d (D.nil 4)]
def JAH.wf (x:JAH):Prop:=(x.attrs.length<=maxLen/\x.attrs.length*40<=reachBytes/\∀y0∈x.attrs,JAA.wf y0)/\Addr.wf x.next/\(x.gone4.length<=maxLen/\x.gone4.length*32<=reachBytes/\∀y0∈x.gone4,JAE.wf y0)/\(x.gone6.length<=maxLen/\x.gone6.length*32<=reachBytes/\∀y0∈x.gone6,JAE.wf y0)/\(x.new4.length<=maxLen/\x.new4.length*32<=reachBytes/\∀y0∈x.new4,JAE.wf y0)/\(x.new6.length<=maxLen/\x.new6.length*32<=reachBytes/\∀y0∈x.new6,JAE.wf y0)/\True
structure JAJ where
  Type_:Int
  Body:List UInt8
def JAJ.toD (x:JAJ):D:=.agg [D.i x.Type_,D.l 1 D.u8 x.Body]
def JAJ.av (x:JAJ):List AV:=[.d (D.i x.Type_),.d (D.l 1 D.u8 x.Body)]
def JAJ.zv:List AV:=[.d (D.i 0),.d (D.nil 1)]
def JAJ.wf (x:JAJ):Prop:=I64 x.Type_/\(x.Body.length<=maxLen/\x.Body.length*1<=reachBytes/\∀y0∈x.Body,True)/\True
def NE (a0:List Int):Option JAI:= some (⟨a0,0⟩:JAI)
def ES:Option JAC:= some (⟨(-1),[],(⟨false,(0:UInt64),(0:UInt64)⟩:Addr),(-1),(-1),(-1),[],[],[]⟩:JAC)
def KV (a0:Int)(a1:Int):Option Int:=
(chk (a1≠0)).bind fun _=> AI (τ:=Int) (fun k1=> if (decide ((Int.tmod a0 a1)<0)) then k1 (AN ((Int.tmod a0 a1)+a1)) else k1 (Int.tmod a0 a1)
) fun v2=> some v2
def AL (a0:JAI)(a1:Int):Option (Int×JAI):= if (decide (a0.At ≥ (a0.L.length:Int))) then some (0,a0) else
(geti a0.L (AN ((AN (a0.At+1))-1))).bind fun v1=>
(KV v1 a1).bind fun v2=> some (v2,(⟨a0.L,(AN (a0.At+1))⟩:JAI))
def I2 (a0:Int):Option Addr:= some (⟨false,(0:UInt64),(AT (3221225984+((AT (AN (1+a0))).toNat:Int)))⟩:Addr)
def KN (a0:Int):Option Addr:= some (⟨true,(2306139568115548160:UInt64),(AT (AN (1+a0)))⟩:Addr)
def Eo (a0:List JAD):Option Bool:= AI (τ:=Int) (fun k1=> Ao (σ:=Int) (fun v2=> k1 v2
) (fun next3 (x4:JAD) i5 v2=> AI (τ:=Unit) (fun k6=> AI (τ:=Bool) (fun k7=> if ((x4.ASNs.length:Int)==0) then k7 true else if (decide ((i5:Int) > 0)) then if (cond true (!x4.Set) false) then
(geti a0 (AN ((i5:Int)-1))).bind fun v8=> k7 (cond false true (cond true (!v8.Set) false)) else k7 false else k7 false
) fun v9=> if v9 then some false else AI (τ:=Unit) (fun k10=> Ao (σ:=Unit) (fun _=> k10 ()
) (fun next11 (x12:Int) i13 _=> AI (τ:=Bool) (fun k14=> if (decide (x12<1)) then k14 true else if (cond false true (decide (x12 > 4294967295))) then k14 true else if x4.Set then if (cond true (decide ((i13:Int) > 0)) false) then
(geti x4.ASNs (AN ((i13:Int)-1))).bind fun v15=> k14 (cond false true (cond true (decide (v15 ≥ x12)) false)) else k14 false else k14 false
) fun v16=> if v16 then some false else next11 ()
) x4.ASNs 0 ()
) fun _=> k6 ()
) fun _=> next3 (AN (v2+(x4.ASNs.length:Int)))
) a0 0 0
) fun v17=> some (decide (v17<=64))
def Fq (a0:JAI):Option (Int×JAI):=
(AL a0 9).bind fun (v1,v2)=>
(AL v2 3).bind fun (v3,v4)=>
(AL v4 7).bind fun (v5,v6)=>
(geti ([1,7,3,65001,4294967295,(AN (1+v1)),(AN (64512+v3))]:List Int) v5).bind fun v7=> some (v7,v6)
def FA (a0:JAI):Option ((List JAD)×JAI):=
(AL a0 4).bind fun (v1,v2)=> AI (τ:=JAI×(List JAD)) (fun k3=> A6 (σ:=Int×JAI×(List JAD)) (fun next4 (v5,v6,v7)=> if (decide (v5 > 0)) then AI (τ:=JAI×(List JAD)) (fun k8=> AI (τ:=Bool×JAI) (fun k9=> if (decide ((v7.length:Int) > 0)) then
(geti v7 (AN ((v7.length:Int)-1))).bind fun v10=> if (cond true (!v10.Set) false) then k9 (true,v6) else
(AL v6 5).bind fun (v11,v12)=> k9 ((cond false true (v11==4)),v12) else
(AL v6 5).bind fun (v13,v14)=> k9 ((cond false true (v13==4)),v14)
) fun (v15,v16)=>
(AL v16 4).bind fun (v17,v18)=> AI (τ:=JAI×(List Int)) (fun k19=> A6 (σ:=Int×JAI×(List Int)) (fun next20 (v21,v22,v23)=> if (decide (v21 > 0)) then AI (τ:=JAI×(List Int)) (fun k24=>
(Fq v22).bind fun (v25,v26)=> if (!v15) then
(apnd (α:=Int) 8 v23 ([v25]:List Int)).bind fun v27=> k24 (v26,v27) else AI (τ:=Int) (fun k28=> A6 (σ:=Int) (fun next29 v30=> AI (τ:=Bool) (fun k31=> if (decide (v30<(v23.length:Int))) then
(geti v23 v30).bind fun v32=> k31 (cond true (decide (v32<v25)) false) else k31 false
) fun v33=> if v33 then next29 (AN (v30+1)) else k28 v30
) fuel 0
) fun v34=> AI (τ:=Bool) (fun k35=> if (v34==(v23.length:Int)) then k35 true else
(geti v23 v34).bind fun v36=> k35 (cond false true (v36 != v25))
) fun v37=> AI (τ:=(List Int)) (fun k38=> if v37 then
(chk (0<=(0:Int)/\(0:Int)<=v34/\v34<=(v23.length:Int))).bind fun _=>
(apnd (α:=Int) 8 [] (List.take (Int.toNat v34-Int.toNat 0) (List.drop (Int.toNat 0) v23))).bind fun _=>
(apnd (α:=Int) 8 (List.take (Int.toNat v34-Int.toNat 0) (List.drop (Int.toNat 0) v23)) ([v25]:List Int)).bind fun v39=>
(chk (0<=v34/\v34<=(v23.length:Int)/\(v23.length:Int)<=(v23.length:Int))).bind fun _=>
(apnd (α:=Int) 8 v39 (List.take (Int.toNat (v23.length:Int)-Int.toNat v34) (List.drop (Int.toNat v34) v23))).bind fun v40=> k38 v40 else k38 v23
) fun v41=> k24 (v26,v41)
) fun (v42,v43)=> next20 ((AN (v21-1)),v42,v43) else k19 (v22,v23)
) fuel ((AN (1+v17)),v18,[])
) fun (v44,v45)=>
(apnd (α:=JAD) 32 v7 ([(⟨v15,v45⟩:JAD)]:List JAD)).bind fun v46=>
(Eo v46).bind fun v47=> AI (τ:=(List JAD)) (fun k48=> if (!v47) then
(part v46 0 (AN ((v46.length:Int)-1))).bind fun v49=> k48 v49 else k48 v46
) fun v50=> k8 (v44,v50)
) fun (v51,v52)=> next4 ((AN (v5-1)),v51,v52) else k3 (v6,v7)
) fuel (v1,v2,[])
) fun (v53,v54)=> some (v54,v53)
def EP (a0:JAB):Option Bool:= AI (τ:=Bool) (fun k1=> if (decide (a0.A ≥ 0)) then if (cond true (decide (a0.A<=65535)) false) then if (cond true (decide (a0.B ≥ 0)) false) then k1 (cond true (decide (a0.B<=65535)) false) else k1 false else k1 false else k1 false
) fun v2=> some v2
def EV (a0:JAB)(a1:JAB):Option Bool:= AI (τ:=Bool) (fun k1=> if (decide (a0.A<a1.A)) then k1 true else if (a0.A==a1.A) then k1 (cond false true (cond true (decide (a0.B<a1.B)) false)) else k1 false
) fun v2=> some v2
def E1 (a0:List JAB):Option Bool:= AI (τ:=Unit) (fun k1=> Ao (σ:=Unit) (fun _=> k1 ()
) (fun next2 (x3:JAB) i4 _=> AI (τ:=Bool) (fun k5=>
(EP x3).bind fun v6=> if (!v6) then k5 true else if (decide ((i4:Int) > 0)) then
(geti a0 (AN ((i4:Int)-1))).bind fun v7=>
(EV v7 x3).bind fun v8=> k5 (cond false true (cond true (!v8) false)) else k5 false
) fun v9=> if v9 then some false else next2 ()
) a0 0 ()
) fun _=> some (decide ((a0.length:Int)<=64))
def Gv (a0:List JAB)(a1:JAB):Option Bool:= AI (τ:=Unit) (fun k1=> Ao (σ:=Unit) (fun _=> k1 ()
) (fun next2 (x3:JAB) i4 _=> if (JAB.eqd x3 a1) then some true else next2 ()
) a0 0 ()
) fun _=> some false
def Ix (a0:List JAB)(a1:JAB):Option ((List JAB)×Int):= AI (τ:=Bool) (fun k1=>
(E1 a0).bind fun v2=> if (!v2) then k1 true else
(EP a1).bind fun v3=> k1 (cond false true (!v3))
) fun v4=> if v4 then some ([],1) else
(Gv a0 a1).bind fun v5=> if v5 then
(apnd (α:=JAB) 16 [] a0).bind fun _=> some (a0,0) else if (decide ((a0.length:Int) ≥ 64)) then some ([],3) else AI (τ:=Int) (fun k6=> A6 (σ:=Int) (fun next7 v8=> AI (τ:=Bool) (fun k9=> if (decide (v8<(a0.length:Int))) then
(geti a0 v8).bind fun v10=>
(EV v10 a1).bind fun v11=> k9 (cond true v11 false) else k9 false
) fun v12=> if v12 then next7 (AN (v8+1)) else k6 v8
) fuel 0
) fun v13=>
(part a0 0 v13).bind fun v14=>
(apnd (α:=JAB) 16 [] v14).bind fun _=>
(apnd (α:=JAB) 16 v14 ([a1]:List JAB)).bind fun v15=>
(part a0 v13 (a0.length:Int)).bind fun v16=>
(apnd (α:=JAB) 16 v15 v16).bind fun v17=> some (v17,0)
def B9 (a0:JAF):Option Bool:= AI (τ:=Bool) (fun k1=> if (decide (a0.A ≥ 0)) then if (cond true (decide (a0.A<=4294967295)) false) then if (cond true (decide (a0.B ≥ 0)) false) then if (cond true (decide (a0.B<=4294967295)) false) then if (cond true (decide (a0.C ≥ 0)) false) then k1 (cond true (decide (a0.C<=4294967295)) false) else k1 false else k1 false else k1 false else k1 false else k1 false
) fun v2=> some v2
def B6 (a0:JAF)(a1:JAF):Option Bool:= AI (τ:=Bool) (fun k1=> if (decide (a0.A<a1.A)) then k1 true else if (a0.A==a1.A) then if (decide (a0.B<a1.B)) then k1 true else if (a0.B==a1.B) then k1 (cond false true (cond true (cond false true (cond true (decide (a0.C<a1.C)) false)) false)) else k1 false else k1 false
) fun v2=> some v2
def Cf (a0:List JAF):Option Bool:= AI (τ:=Unit) (fun k1=> Ao (σ:=Unit) (fun _=> k1 ()
) (fun next2 (x3:JAF) i4 _=> AI (τ:=Bool) (fun k5=>
(B9 x3).bind fun v6=> if (!v6) then k5 true else if (decide ((i4:Int) > 0)) then
(geti a0 (AN ((i4:Int)-1))).bind fun v7=>
(B6 v7 x3).bind fun v8=> k5 (cond false true (cond true (!v8) false)) else k5 false
) fun v9=> if v9 then some false else next2 ()
) a0 0 ()
) fun _=> some (decide ((a0.length:Int)<=64))
def Dh (a0:List JAF)(a1:JAF):Option Bool:= AI (τ:=Unit) (fun k1=> Ao (σ:=Unit) (fun _=> k1 ()
) (fun next2 (x3:JAF) i4 _=> if (JAF.eqd x3 a1) then some true else next2 ()
) a0 0 ()
) fun _=> some false
def Ey (a0:List JAF)(a1:JAF):Option ((List JAF)×Int):= AI (τ:=Bool) (fun k1=>
(Cf a0).bind fun v2=> if (!v2) then k1 true else
(B9 a1).bind fun v3=> k1 (cond false true (!v3))
) fun v4=> if v4 then some ([],1) else
(Dh a0 a1).bind fun v5=> if v5 then
(apnd (α:=JAF) 24 [] a0).bind fun _=> some (a0,0) else if (decide ((a0.length:Int) ≥ 64)) then some ([],3) else AI (τ:=Int) (fun k6=> A6 (σ:=Int) (fun next7 v8=> AI (τ:=Bool) (fun k9=> if (decide (v8<(a0.length:Int))) then
(geti a0 v8).bind fun v10=>
(B6 v10 a1).bind fun v11=> k9 (cond true v11 false) else k9 false
) fun v12=> if v12 then next7 (AN (v8+1)) else k6 v8
) fuel 0
) fun v13=>
(part a0 0 v13).bind fun v14=>
(apnd (α:=JAF) 24 [] v14).bind fun _=>
(apnd (α:=JAF) 24 v14 ([a1]:List JAF)).bind fun v15=>
(part a0 v13 (a0.length:Int)).bind fun v16=>
(apnd (α:=JAF) 24 v15 v16).bind fun v17=> some (v17,0)
def CV (a0:JAI):Option ((List JAB)×(List JAF)×JAI):=
(AL a0 5).bind fun (v1,v2)=> AI (τ:=(List JAB)×JAI) (fun k3=> A6 (σ:=(List JAB)×Int×JAI) (fun next4 (v5,v6,v7)=> if (decide (v6 > 0)) then
(AL v7 4).bind fun (v8,v9)=>
(geti ([65000,65535,0,1]:List Int) v8).bind fun v10=>
(AL v9 5).bind fun (v11,v12)=>
(AL v12 4).bind fun (v13,v14)=>
(geti ([0,666,65535,(AN (1+v11))]:List Int) v13).bind fun v15=>
(Ix v5 (⟨v10,v15⟩:JAB)).bind fun (v16,v17)=> next4 (v16,(AN (v6-1)),v14) else k3 (v5,v7)
) fuel ([],v1,v2)
) fun (v18,v19)=>
(AL v19 4).bind fun (v20,v21)=> AI (τ:=(List JAF)×JAI) (fun k22=> A6 (σ:=(List JAF)×Int×JAI) (fun next23 (v24,v25,v26)=> if (decide (v25 > 0)) then
(AL v26 3).bind fun (v27,v28)=>
(geti ([65000,4294967295,0]:List Int) v27).bind fun v29=>
(AL v28 3).bind fun (v30,v31)=>
(AL v31 4).bind fun (v32,v33)=>
(Ey v24 (⟨v29,v30,v32⟩:JAF)).bind fun (v34,v35)=> next23 (v34,(AN (v25-1)),v33) else k22 (v24,v26)
) fuel ([],v20,v21)
) fun (v36,v37)=> some (v18,v36,v37)
def Ec (a0:JAI)(a1:Int):Option ((List UInt8)×JAI):=
(AL a0 (AN (a1+1))).bind fun (v1,v2)=> AI (τ:=JAI×(List UInt8)) (fun k3=> A6 (σ:=Int×JAI×(List UInt8)) (fun next4 (v5,v6,v7)=> if (decide (v5 > 0)) then
(AL v6 256).bind fun (v8,v9)=>
(apnd (α:=UInt8) 1 v7 ([(Aa v8)]:List UInt8)).bind fun v10=> next4 ((AN (v5-1)),v9,v10) else k3 (v6,v7)
) fuel (v1,v2,[])
) fun (v11,v12)=> some (v12,v11)
def Eb (a0:JAI):Option (JAC×JAI):= AI (τ:=Unit) (fun k1=> k1 ()
) fun _=>
(AL a0 4).bind fun (v2,v3)=>
(FA v3).bind fun (v4,v5)=>
(I2 3).bind fun v6=>
(KN 4).bind fun v7=>
(AL v5 3).bind fun (v8,v9)=>
(geti ([(⟨false,(0:UInt64),(0:UInt64)⟩:Addr),v6,v7]:List Addr) v8).bind fun v10=>
(AL v9 4).bind fun (v11,v12)=>
(geti ([(-1),0,100,4294967295]:List Int) v11).bind fun v13=>
(AL v12 4).bind fun (v14,v15)=>
(geti ([(-1),0,100,4294967295]:List Int) v14).bind fun v16=>
(AL v15 3).bind fun (v17,v18)=>
(geti ([(-1),1,65000]:List Int) v17).bind fun v19=>
(CV v18).bind fun (v20,v21,v22)=> AI (τ:=JAI×(List JAA)) (fun k23=> Ao (σ:=JAI×(List JAA)) (fun (v24,v25)=> k23 (v24,v25)
) (fun next26 (x27:Int) i28 (v24,v25)=>
(AL v24 6).bind fun (v29,v30)=> AI (τ:=JAI×(List JAA)) (fun k31=> if (v29==5) then
(Ec v30 9).bind fun (v32,v33)=>
(apnd (α:=JAA) 40 v25 ([(⟨224,x27,v32⟩:JAA)]:List JAA)).bind fun v34=> k31 (v33,v34) else k31 (v30,v25)
) fun (v35,v36)=> next26 (v35,v36)
) ([6,7,16,34,200,255]:List Int) 0 (v22,[])
) fun (v37,v38)=> some ((⟨(AN (v2-1)),v4,v10,v13,v16,v19,v20,v21,v38⟩:JAC),v37)
def FG (a0:JAI):Option (Addr×JAI):=
(AL a0 6).bind fun (v1,v2)=> if (v1==0) then
(AL v2 8).bind fun (v3,v4)=>
(AL v4 4).bind fun (v5,v6)=> some ((⟨false,(0:UInt64),(AT (AN ((AN (167772160+(AN (v3*(2^(min (Int.toNat 8) 64))))))+v5)))⟩:Addr),v6) else if (v1==1) then
(AL v2 4).bind fun (v7,v8)=>
(AL v8 8).bind fun (v9,v10)=> some ((⟨true,(AT (2306139568115548160+((AT v7).toNat:Int))),(AT v9)⟩:Addr),v10) else if (v1==2) then
(AL v2 5).bind fun (v11,v12)=>
(geti ([(0:UInt64),(1:UInt64),(4294967295:UInt64),(2147483647:UInt64),(2147483648:UInt64)]:List UInt64) v11).bind fun v13=> some ((⟨false,(0:UInt64),v13⟩:Addr),v12) else if (v1==3) then
(AL v2 4).bind fun (v14,v15)=>
(geti ([(0:UInt64),(1:UInt64),(18446744073709551615:UInt64),(9223372036854775808:UInt64)]:List UInt64) v14).bind fun v16=>
(AL v15 4).bind fun (v17,v18)=>
(geti ([(0:UInt64),(1:UInt64),(18446744073709551615:UInt64),(9223372036854775808:UInt64)]:List UInt64) v17).bind fun v19=> some ((⟨true,v16,v19⟩:Addr),v18) else if (v1==4) then
(AL v2 1073741824).bind fun (v20,v21)=>
(AL v21 5).bind fun (v22,v23)=>
(AL v23 1073741824).bind fun (v24,v25)=>
(AL v25 5).bind fun (v26,v27)=> some ((⟨true,(AT (((AT v20).toNat:Int)*(2^(min (Int.toNat ((AT (AN (v22*8))).toNat:Int)) 64)))),(AT (((AT v24).toNat:Int)*(2^(min (Int.toNat ((AT (AN (v26*8))).toNat:Int)) 64))))⟩:Addr),v27) else
(AL v2 1073741824).bind fun (v28,v29)=> some ((⟨false,(0:UInt64),(AT v28)⟩:Addr),v29)
def Dx (a0:Addr):Option Bool:= AI (τ:=Bool) (fun k1=> if a0.V6 then k1 true else if ((a0.Hi.toNat:Int)==0) then k1 (cond false true (cond true (decide ((a0.Lo.toNat:Int)<4294967296)) false)) else k1 false
) fun v2=> some v2
def Dv (a0:Addr):Option Int:= if a0.V6 then some 128 else some 32
def Bg (a0:Addr):Option (List UInt8):=
(Dx a0).bind fun v1=> if (!v1) then some [] else AI (τ:=Int) (fun k2=> if a0.V6 then k2 16 else k2 4
) fun v3=> AI (τ:=(List UInt8)) (fun k4=> A6 (σ:=Int×(List UInt8)) (fun next5 (v6,v7)=> if (decide (v6 ≥ 0)) then AI (τ:=UInt64) (fun k8=> if (decide (v6 ≥ 8)) then k8 a0.Hi else k8 a0.Lo
) fun v9=>
(apnd (α:=UInt8) 1 v7 ([(Aa ((AT (Int.fdiv (v9.toNat:Int) (2^(min (Int.toNat ((AT (8*((AT (Int.tmod v6 8)).toNat:Int))).toNat:Int)) 64)))).toNat:Int))]:List UInt8)).bind fun v10=> next5 ((AN (v6-1)),v10) else k4 v7
) fuel ((AN (v3-1)),[])
) fun v11=> some v11
def CP (a0:List UInt8):Option (Addr×Int):= AI (τ:=Bool) (fun k1=> if ((a0.length:Int) != 4) then k1 (cond true ((a0.length:Int) != 16) false) else k1 false
) fun v2=> if v2 then some ((⟨false,(0:UInt64),(0:UInt64)⟩:Addr),1) else AI (τ:=Addr) (fun k3=> Ao (σ:=Addr) (fun v4=> k3 v4
) (fun next5 (x6:UInt8) i7 v4=> next5 (⟨v4.V6,(AT ((BitVec.ofInt 64 ((AT ((v4.Hi.toNat:Int)*(2^(min (Int.toNat 8) 64)))).toNat:Int) ||| BitVec.ofInt 64 ((AT (Int.fdiv (v4.Lo.toNat:Int) (2^(min (Int.toNat 56) 64)))).toNat:Int)).toNat:Int)),(AT ((BitVec.ofInt 64 ((AT ((v4.Lo.toNat:Int)*(2^(min (Int.toNat 8) 64)))).toNat:Int) ||| BitVec.ofInt 64 ((AT (x6.toNat:Int)).toNat:Int)).toNat:Int))⟩:Addr)
) a0 0 (⟨((a0.length:Int)==16),(0:UInt64),(0:UInt64)⟩:Addr)
) fun v8=> some (v8,0)
def D8 (a0:Addr)(a1:Int):Option (JAE×Int):=
(Dx a0).bind fun v1=> if (!v1) then some ((⟨(⟨false,(0:UInt64),(0:UInt64)⟩:Addr),0⟩:JAE),1) else AI (τ:=Bool) (fun k2=> if (decide (a1<0)) then k2 true else
(Dv a0).bind fun v3=> k2 (cond false true (decide (a1 > v3)))
) fun v4=> if v4 then some ((⟨(⟨false,(0:UInt64),(0:UInt64)⟩:Addr),0⟩:JAE),9) else
(Bg a0).bind fun v5=> AI (τ:=(List UInt8)) (fun k6=> A6 (σ:=Int×(List UInt8)) (fun next7 (v8,v9)=> if (decide (v8<(AN (8*(v9.length:Int))))) then
(geti v9 (AN (Int.tdiv v8 8))).bind fun v10=>
(geti v9 (AN (Int.tdiv v8 8))).bind fun v11=>
(seti v9 (AN (Int.tdiv v8 8)) (Aa ((BitVec.ofInt 8 (v10.toNat:Int) &&& ~~~BitVec.ofInt 8 ((Aa (Int.fdiv 128 (2^(min (Int.toNat ((AT (Int.tmod v8 8)).toNat:Int)) 8)))).toNat:Int)).toNat:Int))).bind fun v12=> next7 ((AN (v8+1)),v12) else k6 v9
) fuel (a1,v5)
) fun v13=>
(CP v13).bind fun (v14,v15)=> some ((⟨v14,a1⟩:JAE),0)
def DZ (a0:JAI):Option (JAE×JAI):=
(FG a0).bind fun (v1,v2)=> AI (τ:=Int) (fun k3=> if v1.V6 then k3 128 else k3 32
) fun v4=>
(AL v2 4).bind fun (v5,v6)=> AI (τ:=Int×JAI) (fun k7=> if (v5==0) then
(AL v6 (AN (v4+1))).bind fun (v8,v9)=> k7 (v8,v9) else AI (τ:=Int×JAI) (fun k10=> if (v5==1) then
(AL v6 9).bind fun (v11,v12)=> k10 ((AN (v4-v11)),v12) else AI (τ:=Int×JAI) (fun k13=> if (v5==2) then
(AL v6 5).bind fun (v14,v15)=>
(geti ([8,22,23,24,16]:List Int) v14).bind fun v16=> k13 (v16,v15) else k13 (v4,v6)
) fun (v17,v18)=> k10 (v17,v18)
) fun (v19,v20)=> k7 (v19,v20)
) fun (v21,v22)=>
(D8 v1 v21).bind fun (v23,v24)=> some (v23,v22)
def Dz (a0:JAE):Option Bool:=
(D8 a0.Addr a0.Len).bind fun (v1,v2)=> AI (τ:=Bool) (fun k3=> if (v2==0) then k3 (cond true (JAE.eqd a0 v1) false) else k3 false
) fun v4=> some v4
def Bc (a0:Int):Option Int:= AI (τ:=Bool) (fun k1=> if (a0==1) then k1 (a0==1) else AI (τ:=Bool) (fun k2=> if (a0==2) then k2 (a0==2) else AI (τ:=Bool) (fun k3=> if (a0==3) then k3 (a0==3) else k3 (a0==5)
) fun v4=> k2 v4
) fun v5=> k1 v5
) fun v6=> if v6 then some 64 else if (a0==4) then some 128 else AI (τ:=Bool) (fun k7=> if (a0==8) then k7 (a0==8) else AI (τ:=Bool) (fun k8=> if (a0==32) then k8 (a0==32) else k8 (a0==35)
) fun v9=> k7 v9
) fun v10=> if v10 then some 192 else some 0
def DT (a0:Int):Option Bool:= AI (τ:=Bool) (fun k1=>
(Bc a0).bind fun v2=> if (v2==0) then if (cond true (a0 != 14) false) then k1 (cond true (a0 != 15) false) else k1 false else k1 false
) fun v3=> some v3
def GP (a0:JAC):Option Bool:= AI (τ:=Unit) (fun k1=> Ao (σ:=Unit) (fun _=> k1 ()
) (fun next2 (x3:JAA) i4 _=> AI (τ:=Bool) (fun k5=> if (decide (x3.Type_<1)) then k5 true else if (cond false true (decide (x3.Type_ > 255))) then k5 true else
(DT x3.Type_).bind fun v6=> if (cond false true (!v6)) then k5 true else if (cond false true (x3.Flags != 224)) then k5 true else if (cond false true (decide ((x3.Data.length:Int) > 255))) then k5 true else if (decide ((i4:Int) > 0)) then
(geti a0.Other (AN ((i4:Int)-1))).bind fun v7=> k5 (cond false true (cond true (decide (v7.Type_ ≥ x3.Type_)) false)) else k5 false
) fun v8=> if v8 then some false else next2 ()
) a0.Other 0 ()
) fun _=> AI (τ:=Bool) (fun k9=> if (decide (a0.Origin ≥ (-1))) then if (cond true (decide (a0.Origin<=2)) false) then
(Eo a0.Path).bind fun v10=> if (cond true v10 false) then
(Dx a0.Next).bind fun v11=> if (cond true v11 false) then if (cond true (decide (a0.MED ≥ (-1))) false) then if (cond true (decide (a0.MED<=4294967295)) false) then if (cond true (decide (a0.Pref ≥ (-1))) false) then if (cond true (decide (a0.Pref<=4294967295)) false) then if (a0.OTC==(-1)) then
(E1 a0.Communities).bind fun v12=> if (cond true v12 false) then
(Cf a0.JAF).bind fun v13=> if (cond true v13 false) then k9 (cond true (decide ((a0.Other.length:Int)<=8)) false) else k9 false else k9 false else if (decide (a0.OTC ≥ 1)) then if (cond true (cond false true (cond true (decide (a0.OTC<=4294967295)) false)) false) then
(E1 a0.Communities).bind fun v14=> if (cond true v14 false) then
(Cf a0.JAF).bind fun v15=> if (cond true v15 false) then k9 (cond true (decide ((a0.Other.length:Int)<=8)) false) else k9 false else k9 false else k9 false else k9 false else k9 false else k9 false else k9 false else k9 false else k9 false else k9 false else k9 false else k9 false
) fun v16=> some v16
def EW (a0:List JAD)(a1:List JAD):Option Bool:= if ((a0.length:Int) != (a1.length:Int)) then some false else AI (τ:=Unit) (fun k1=> Ao (σ:=Unit) (fun _=> k1 ()
) (fun next2 (x3:JAD) i4 _=> AI (τ:=Unit) (fun k5=> AI (τ:=Bool) (fun k6=>
(geti a1 (i4:Int)).bind fun v7=> if (!(x3.Set==v7.Set)) then k6 true else
(geti a1 (i4:Int)).bind fun v8=> k6 (cond false true ((x3.ASNs.length:Int) != (v8.ASNs.length:Int)))
) fun v9=> if v9 then some false else AI (τ:=Unit) (fun k10=> Ao (σ:=Unit) (fun _=> k10 ()
) (fun next11 (x12:Int) i13 _=>
(geti a1 (i4:Int)).bind fun v14=>
(geti v14.ASNs (i13:Int)).bind fun v15=> if (v15 != x12) then some false else next11 ()
) x3.ASNs 0 ()
) fun _=> k5 ()
) fun _=> next2 ()
) a0 0 ()
) fun _=> some true
def EU (a0:List JAB)(a1:List JAB):Option Bool:= if ((a0.length:Int) != (a1.length:Int)) then some false else AI (τ:=Unit) (fun k1=> Ao (σ:=Unit) (fun _=> k1 ()
) (fun next2 (x3:JAB) i4 _=>
(geti a1 (i4:Int)).bind fun v5=> if (!(JAB.eqd v5 x3)) then some false else next2 ()
) a0 0 ()
) fun _=> some true
def B5 (a0:List JAF)(a1:List JAF):Option Bool:= if ((a0.length:Int) != (a1.length:Int)) then some false else AI (τ:=Unit) (fun k1=> Ao (σ:=Unit) (fun _=> k1 ()
) (fun next2 (x3:JAF) i4 _=>
(geti a1 (i4:Int)).bind fun v5=> if (!(JAF.eqd v5 x3)) then some false else next2 ()
) a0 0 ()
) fun _=> some true
def CL (a0:List JAA)(a1:List JAA):Option Bool:= if ((a0.length:Int) != (a1.length:Int)) then some false else AI (τ:=Unit) (fun k1=> Ao (σ:=Unit) (fun _=> k1 ()
) (fun next2 (x3:JAA) i4 _=> AI (τ:=Bool) (fun k5=>
(geti a1 (i4:Int)).bind fun v6=> if (x3.Flags != v6.Flags) then k5 true else
(geti a1 (i4:Int)).bind fun v7=> if (cond false true (x3.Type_ != v7.Type_)) then k5 true else
(geti a1 (i4:Int)).bind fun v8=> k5 (cond false true (!((bs x3.Data).toList==(bs v8.Data).toList)))
) fun v9=> if v9 then some false else next2 ()
) a0 0 ()
) fun _=> some true
def DJ (a0:JAC)(a1:JAC):Option Bool:= AI (τ:=Bool) (fun k1=> if (a0.Origin==a1.Origin) then
(EW a0.Path a1.Path).bind fun v2=> if (cond true v2 false) then if (cond true (Addr.eqd a0.Next a1.Next) false) then if (cond true (a0.MED==a1.MED) false) then if (cond true (a0.Pref==a1.Pref) false) then if (cond true (a0.OTC==a1.OTC) false) then
(EU a0.Communities a1.Communities).bind fun v3=> if (cond true v3 false) then
(B5 a0.JAF a1.JAF).bind fun v4=> if (cond true v4 false) then
(CL a0.Other a1.Other).bind fun v5=> k1 (cond true v5 false) else k1 false else k1 false else k1 false else k1 false else k1 false else k1 false else k1 false else k1 false
) fun v6=> some v6
def AS (a0:Int)(a1:Int):Option (List UInt8):= AI (τ:=(List UInt8)) (fun k1=> A6 (σ:=Int×(List UInt8)) (fun next2 (v3,v4)=> if (decide (v3 ≥ 0)) then
(apnd (α:=UInt8) 1 v4 ([(Aa (Int.fdiv a0 (2^(min (Int.toNat ((AT (8*((AT v3).toNat:Int))).toNat:Int)) 64))))]:List UInt8)).bind fun v5=> next2 ((AN (v3-1)),v5) else k1 v4
) fuel ((AN (a1-1)),[])
) fun v6=> some v6
def GG (a0:JAC):Option ((List JAA)×Int):=
(GP a0).bind fun v1=> if (!v1) then some ([],1) else AI (τ:=(List (Int×(List UInt8)))) (fun k2=> if (decide (a0.Origin ≥ 0)) then k2 (Cc [] 1 ([(Aa a0.Origin)]:List UInt8)) else k2 []
) fun v3=> AI (τ:=Bool) (fun k4=> if (decide (a0.Origin ≥ 0)) then k4 true else k4 (cond false true (decide ((a0.Path.length:Int) > 0)))
) fun v5=> AI (τ:=(List (Int×(List UInt8)))) (fun k6=> if v5 then AI (τ:=(List UInt8)) (fun k7=> Ao (σ:=(List UInt8)) (fun v8=> k7 v8
) (fun next9 (x10:JAD) i11 v8=> AI (τ:=(List UInt8)) (fun k12=> AI (τ:=UInt8) (fun k13=> if x10.Set then k13 (1:UInt8) else k13 (2:UInt8)
) fun v14=>
(apnd (α:=UInt8) 1 v8 ([v14,(Aa (x10.ASNs.length:Int))]:List UInt8)).bind fun v15=> AI (τ:=(List UInt8)) (fun k16=> Ao (σ:=(List UInt8)) (fun v17=> k16 v17
) (fun next18 (x19:Int) i20 v17=>
(AS x19 4).bind fun v21=>
(apnd (α:=UInt8) 1 v17 v21).bind fun v22=> next18 v22
) x10.ASNs 0 v15
) fun v23=> k12 v23
) fun v24=> next9 v24
) a0.Path 0 ([]:List UInt8)
) fun v25=> k6 (Cc v3 2 v25) else k6 v3
) fun v26=> AI (τ:=Bool) (fun k27=> if (!(Addr.eqd a0.Next (⟨false,(0:UInt64),(0:UInt64)⟩:Addr))) then k27 (cond true (!a0.Next.V6) false) else k27 false
) fun v28=> AI (τ:=(List (Int×(List UInt8)))) (fun k29=> if v28 then
(Bg a0.Next).bind fun v30=> k29 (Cc v26 3 v30) else k29 v26
) fun v31=> AI (τ:=(List (Int×(List UInt8)))) (fun k32=> if (decide (a0.MED ≥ 0)) then
(AS a0.MED 4).bind fun v33=> k32 (Cc v31 4 v33) else k32 v31
) fun v34=> AI (τ:=(List (Int×(List UInt8)))) (fun k35=> if (decide (a0.Pref ≥ 0)) then
(AS a0.Pref 4).bind fun v36=> k35 (Cc v34 5 v36) else k35 v34
) fun v37=> AI (τ:=(List (Int×(List UInt8)))×(List UInt8)) (fun k38=>
(chk ((BB v37 8).isNone=true)).bind fun _=> Ao (σ:=(List (Int×(List UInt8)))×(List UInt8)) (fun (v39,v40)=> k38 (v39,v40)
) (fun next41 (x42:JAB) i43 (v39,v40)=>
(AS x42.A 2).bind fun v44=>
(apnd (α:=UInt8) 1 v40 v44).bind fun v45=>
(AS x42.B 2).bind fun v46=>
(apnd (α:=UInt8) 1 v45 v46).bind fun v47=> next41 ((Cc v39 8 v47),v47)
) a0.Communities 0 (v37,[])
) fun (v48,v49)=> AI (τ:=(List (Int×(List UInt8)))×(List UInt8)) (fun k50=>
(chk ((BB v48 32).isNone=true)).bind fun _=> Ao (σ:=(List (Int×(List UInt8)))×(List UInt8)) (fun (v51,v52)=> k50 (v51,v52)
) (fun next53 (x54:JAF) i55 (v51,v52)=>
(AS x54.A 4).bind fun v56=>
(apnd (α:=UInt8) 1 v52 v56).bind fun v57=>
(AS x54.B 4).bind fun v58=>
(apnd (α:=UInt8) 1 v57 v58).bind fun v59=>
(AS x54.C 4).bind fun v60=>
(apnd (α:=UInt8) 1 v59 v60).bind fun v61=> next53 ((Cc v51 32 v61),v61)
) a0.JAF 0 (v48,[])
) fun (v62,v63)=> AI (τ:=(List (Int×(List UInt8)))) (fun k64=> if (decide (a0.OTC ≥ 0)) then
(AS a0.OTC 4).bind fun v65=> k64 (Cc v62 35 v65) else k64 v62
) fun v66=> AI (τ:=(List JAA)) (fun k67=> A6 (σ:=Int×(List JAA)) (fun next68 (v69,v70)=> if (decide (v69<256)) then AI (τ:=(List JAA)) (fun k71=>
(some (Option.getD (BB v66 v69) [])).bind fun v72=>
(some (Option.isSome (BB v66 v69))).bind fun v73=> AI (τ:=(List JAA)) (fun k74=> if v73 then
(Bc v69).bind fun v75=>
(apnd (α:=UInt8) 1 [] v72).bind fun _=>
(apnd (α:=JAA) 40 v70 ([(⟨v75,v69,v72⟩:JAA)]:List JAA)).bind fun v76=> k74 v76 else k74 v70
) fun v77=> AI (τ:=(List JAA)) (fun k78=> Ao (σ:=(List JAA)) (fun v79=> k78 v79
) (fun next80 (x81:JAA) i82 v79=> AI (τ:=(List JAA)) (fun k83=> if (x81.Type_==v69) then
(apnd (α:=UInt8) 1 [] x81.Data).bind fun _=>
(apnd (α:=JAA) 40 v79 ([{ x81 with Type_:=v69 }]:List JAA)).bind fun v84=> k83 v84 else k83 v79
) fun v85=> next80 v85
) a0.Other 0 v77
) fun v86=> k71 v86
) fun v87=> next68 ((AN (v69+1)),v87) else k67 v70
) fuel (0,[])
) fun v88=> some (v88,0)
def IG (a0:List JAA):Option ((List UInt8)×Int):= AI (τ:=Unit) (fun k1=> Ao (σ:=Unit) (fun _=> k1 ()
) (fun next2 (x3:JAA) i4 _=> AI (τ:=Bool) (fun k5=> if (decide (x3.Flags<0)) then k5 true else if (cond false true (decide (x3.Flags > 255))) then k5 true else if (cond false true (decide (x3.Type_<0))) then k5 true else if (cond false true (decide (x3.Type_ > 255))) then k5 true else k5 (cond false true (decide ((x3.Data.length:Int) > 65535)))
) fun v6=> if v6 then some ([],1) else next2 ()
) a0 0 ()
) fun _=> AI (τ:=(List UInt8)) (fun k7=> Ao (σ:=(List UInt8)) (fun v8=> k7 v8
) (fun next9 (x10:JAA) i11 v8=> AI (τ:=(List UInt8)) (fun k12=> if (decide ((x10.Data.length:Int) > 255)) then
(apnd (α:=UInt8) 1 v8 ([(Aa ((BitVec.ofInt 8 ((Aa ((BitVec.ofInt 8 ((Aa x10.Flags).toNat:Int) &&& BitVec.ofInt 8 224).toNat:Int)).toNat:Int) ||| BitVec.ofInt 8 16).toNat:Int)),(Aa x10.Type_),(Aa (Int.fdiv (x10.Data.length:Int) (2^(min (Int.toNat 8) 64)))),(Aa (x10.Data.length:Int))]:List UInt8)).bind fun v13=> k12 v13 else
(apnd (α:=UInt8) 1 v8 ([(Aa ((BitVec.ofInt 8 ((Aa x10.Flags).toNat:Int) &&& BitVec.ofInt 8 224).toNat:Int)),(Aa x10.Type_),(Aa (x10.Data.length:Int))]:List UInt8)).bind fun v14=> k12 v14
) fun v15=>
(apnd (α:=UInt8) 1 v15 x10.Data).bind fun v16=> next9 v16
) a0 0 []
) fun v17=> if (decide ((v17.length:Int) > 2048)) then some ([],3) else some (v17,0)
def ER (a0:List JAE)(a1:Bool):Option (List UInt8):= AI (τ:=(List UInt8)) (fun k1=> Ao (σ:=(List UInt8)) (fun v2=> k1 v2
) (fun next3 (x4:JAE) i5 v2=> AI (τ:=(List UInt8)) (fun k6=> if (x4.Addr.V6==a1) then
(apnd (α:=UInt8) 1 v2 ([(Aa x4.Len)]:List UInt8)).bind fun v7=>
(Bg x4.Addr).bind fun v8=>
(chk (0<=(0:Int)/\(0:Int)<=(AN (Int.tdiv (AN (x4.Len+7)) 8))/\(AN (Int.tdiv (AN (x4.Len+7)) 8))<=(v8.length:Int))).bind fun _=>
(apnd (α:=UInt8) 1 v7 (List.take (Int.toNat (AN (Int.tdiv (AN (x4.Len+7)) 8))-Int.toNat 0) (List.drop (Int.toNat 0) v8))).bind fun v9=> k6 v9 else k6 v2
) fun v10=> next3 v10
) a0 0 []
) fun v11=> some v11
def GM (a0:List JAA)(a1:JAA):Option (List JAA):= AI (τ:=Int) (fun k1=> A6 (σ:=Int) (fun next2 v3=> AI (τ:=Bool) (fun k4=> if (decide (v3<(a0.length:Int))) then
(geti a0 v3).bind fun v5=> k4 (cond true (decide (v5.Type_<a1.Type_)) false) else k4 false
) fun v6=> if v6 then next2 (AN (v3+1)) else k1 v3
) fuel 0
) fun v7=>
(part a0 0 v7).bind fun v8=>
(apnd (α:=JAA) 40 [] v8).bind fun _=>
(apnd (α:=JAA) 40 v8 ([a1]:List JAA)).bind fun v9=>
(part a0 v7 (a0.length:Int)).bind fun v10=>
(apnd (α:=JAA) 40 v9 v10).bind fun v11=> some v11
def GO (a0:JAG):Option ((List UInt8)×Int):= AI (τ:=(List JAA)) (fun k1=> if (decide ((a0.Announce.length:Int) > 0)) then
(GG a0.JAC).bind fun (v2,v3)=> if (v3 != 0) then some ([],v3) else k1 v2 else k1 []
) fun v4=>
(ER a0.Announce true).bind fun v5=> AI (τ:=(List JAA)) (fun k6=> if (decide ((v5.length:Int) > 0)) then
(Bg a0.JAC.Next).bind fun v7=>
(apnd (α:=UInt8) 1 ([(0:UInt8),(2:UInt8),(1:UInt8),(16:UInt8)]:List UInt8) v7).bind fun v8=>
(apnd (α:=UInt8) 1 v8 ([(0:UInt8)]:List UInt8)).bind fun v9=>
(apnd (α:=UInt8) 1 v9 v5).bind fun v10=>
(GM v4 (⟨128,14,v10⟩:JAA)).bind fun v11=> k6 v11 else k6 v4
) fun v12=>
(ER a0.Withdraw true).bind fun v13=> AI (τ:=(List JAA)) (fun k14=> if (decide ((v13.length:Int) > 0)) then
(apnd (α:=UInt8) 1 ([(0:UInt8),(2:UInt8),(1:UInt8)]:List UInt8) v13).bind fun v15=>
(GM v12 (⟨128,15,v15⟩:JAA)).bind fun v16=> k14 v16 else k14 v12
) fun v17=>
(IG v17).bind fun (v18,v19)=> if (v19 != 0) then some ([],v19) else
(ER a0.Withdraw false).bind fun v20=>
(apnd (α:=UInt8) 1 ([(Aa (Int.fdiv (v20.length:Int) (2^(min (Int.toNat 8) 64)))),(Aa (v20.length:Int))]:List UInt8) v20).bind fun v21=>
(apnd (α:=UInt8) 1 v21 ([(Aa (Int.fdiv (v18.length:Int) (2^(min (Int.toNat 8) 64)))),(Aa (v18.length:Int))]:List UInt8)).bind fun v22=>
(apnd (α:=UInt8) 1 v22 v18).bind fun v23=>
(ER a0.Announce false).bind fun v24=>
(apnd (α:=UInt8) 1 v23 v24).bind fun v25=> some (v25,0)
def HE (a0:JAG):Option Bool:= AI (τ:=Bool) (fun k1=> if (decide ((a0.Withdraw.length:Int) > 256)) then k1 true else k1 (cond false true (decide ((a0.Announce.length:Int) > 256)))
) fun v2=> if v2 then some false else
(apnd (α:=JAE) 32 [] a0.Withdraw).bind fun _=>
(apnd (α:=JAE) 32 a0.Withdraw a0.Announce).bind fun v3=> AI (τ:=Unit) (fun k4=> Ao (σ:=Unit) (fun _=> k4 ()
) (fun next5 (x6:JAE) i7 _=>
(Dz x6).bind fun v8=> if (!v8) then some false else next5 ()
) v3 0 ()
) fun _=> AI (τ:=Bool) (fun k9=> if ((a0.Announce.length:Int)==0) then
(ES).bind fun v10=>
(DJ a0.JAC v10).bind fun v11=> k9 (cond true (!v11) false) else k9 false
) fun v12=> if v12 then some false else AI (τ:=Unit) (fun k13=> Ao (σ:=Unit) (fun _=> k13 ()
) (fun next14 (x15:JAE) i16 _=> AI (τ:=Bool) (fun k17=> if (!(x15.Addr.V6==a0.JAC.Next.V6)) then k17 true else if (cond false true (a0.JAC.Origin==(-1))) then k17 true else if (cond false true (Addr.eqd a0.JAC.Next (⟨false,(0:UInt64),(0:UInt64)⟩:Addr))) then k17 true else
(GP a0.JAC).bind fun v18=> k17 (cond false true (!v18))
) fun v19=> if v19 then some false else next14 ()
) a0.Announce 0 ()
) fun _=>
(GO a0).bind fun (v20,v21)=> AI (τ:=Bool) (fun k22=> if (v21==0) then k22 (cond true (decide ((v20.length:Int)<=4077)) false) else k22 false
) fun v23=> some v23
def EN (a0:JAI):Option (JAG×JAI):= AI (τ:=Unit) (fun k1=> k1 ()
) fun _=>
(AL a0 5).bind fun (v2,v3)=> AI (τ:=JAI×(List JAE)) (fun k4=> A6 (σ:=Int×JAI×(List JAE)) (fun next5 (v6,v7,v8)=> if (decide (v6 > 0)) then
(DZ v7).bind fun (v9,v10)=>
(apnd (α:=JAE) 32 v8 ([v9]:List JAE)).bind fun v11=> next5 ((AN (v6-1)),v10,v11) else k4 (v7,v8)
) fuel (v2,v3,[])
) fun (v12,v13)=>
(AL v12 4).bind fun (v14,v15)=> if (v14==3) then some ((⟨v13,(⟨(-1),[],(⟨false,(0:UInt64),(0:UInt64)⟩:Addr),(-1),(-1),(-1),[],[],[]⟩:JAC),[]⟩:JAG),v15) else
(AL v15 2).bind fun (v16,v17)=>
(AL v17 6).bind fun (v18,v19)=> AI (τ:=JAI×(List JAE)) (fun k20=> A6 (σ:=Int×JAI×(List JAE)) (fun next21 (v22,v23,v24)=> if (decide (v22 > 0)) then
(DZ v23).bind fun (v25,v26)=> AI (τ:=(List JAE)) (fun k27=> if (v25.Addr.V6==(v16==1)) then
(apnd (α:=JAE) 32 v24 ([v25]:List JAE)).bind fun v28=> k27 v28 else k27 v24
) fun v29=> next21 ((AN (v22-1)),v26,v29) else k20 (v23,v24)
) fuel (v18,v19,[])
) fun (v30,v31)=> if ((v31.length:Int)==0) then some ((⟨v13,(⟨(-1),[],(⟨false,(0:UInt64),(0:UInt64)⟩:Addr),(-1),(-1),(-1),[],[],[]⟩:JAC),v31⟩:JAG),v30) else
(Eb v30).bind fun (v32,v33)=>
(I2 5).bind fun v34=> AI (τ:=Bool×UInt64×UInt64) (fun k35=> if (v16==1) then
(KN 5).bind fun v36=> k35 (v36.V6,v36.Hi,v36.Lo) else k35 (v34.V6,v34.Hi,v34.Lo)
) fun (v37,v38,v39)=>
(HE (⟨v13,{ v32 with Origin:=(if v32.Origin > 0 then v32.Origin else 0),Next:=(⟨v37,v38,v39⟩:Addr) },v31⟩:JAG)).bind fun v40=> if (!v40) then AI (τ:=Unit) (fun k41=> k41 ()
) fun _=> some ((⟨[],(⟨(-1),[],(⟨false,(0:UInt64),(0:UInt64)⟩:Addr),(-1),(-1),(-1),[],[],[]⟩:JAC),[]⟩:JAG),v33) else some ((⟨v13,{ v32 with Origin:=(if v32.Origin > 0 then v32.Origin else 0),Next:=(⟨v37,v38,v39⟩:Addr) },v31⟩:JAG),v33)
def ID (a0:List UInt8)(a1:Int):Option (List UInt8):=
(apnd (α:=UInt8) 1 a0 ([(Aa (Int.fdiv a1 (2^(min (Int.toNat 8) 64)))),(Aa a1)]:List UInt8)).bind fun v1=> some v1
def A8 (a0:Int)(a1:Int)(a2:Int):Option Bool:= AI (τ:=Bool) (fun k1=> if (decide (a0 ≥ a1)) then k1 (cond true (decide (a0<=a2)) false) else k1 false
) fun v2=> some v2
def E5 (a0:List JAA):Option ((List UInt8)×Int):= AI (τ:=Unit) (fun k1=> Ao (σ:=Unit) (fun _=> k1 ()
) (fun next2 (x3:JAA) i4 _=> AI (τ:=Bool) (fun k5=>
(A8 x3.Flags 0 255).bind fun v6=> if (!v6) then k5 true else
(A8 x3.Type_ 0 255).bind fun v7=> if (cond false true (!v7)) then k5 true else k5 (cond false true (decide ((x3.Data.length:Int) > 65535)))
) fun v8=> if v8 then some ([],1) else next2 ()
) a0 0 ()
) fun _=> AI (τ:=(List UInt8)) (fun k9=> Ao (σ:=(List UInt8)) (fun v10=> k9 v10
) (fun next11 (x12:JAA) i13 v10=> AI (τ:=(List UInt8)) (fun k14=> if (decide ((x12.Data.length:Int) > 255)) then
(apnd (α:=UInt8) 1 v10 ([(Aa ((BitVec.ofInt 8 ((Aa ((BitVec.ofInt 8 ((Aa x12.Flags).toNat:Int) &&& BitVec.ofInt 8 224).toNat:Int)).toNat:Int) ||| BitVec.ofInt 8 16).toNat:Int)),(Aa x12.Type_),(Aa (Int.fdiv (x12.Data.length:Int) (2^(min (Int.toNat 8) 64)))),(Aa (x12.Data.length:Int))]:List UInt8)).bind fun v15=> k14 v15 else
(apnd (α:=UInt8) 1 v10 ([(Aa ((BitVec.ofInt 8 ((Aa x12.Flags).toNat:Int) &&& BitVec.ofInt 8 224).toNat:Int)),(Aa x12.Type_),(Aa (x12.Data.length:Int))]:List UInt8)).bind fun v16=> k14 v16
) fun v17=>
(apnd (α:=UInt8) 1 v17 x12.Data).bind fun v18=> if (decide ((v18.length:Int) > 2048)) then some ([],3) else next11 v18
) a0 0 []
) fun v19=> some (v19,0)
def FI (a0:Addr):Option Bool:= AI (τ:=Bool) (fun k1=> if a0.V6 then k1 true else if ((a0.Hi.toNat:Int)==0) then k1 (cond false true (cond true (decide ((a0.Lo.toNat:Int)<4294967296)) false)) else k1 false
) fun v2=> some v2
def BM (a0:Addr):Option (List UInt8):=
(FI a0).bind fun v1=> if (!v1) then some [] else AI (τ:=Int) (fun k2=> if a0.V6 then k2 16 else k2 4
) fun v3=>
(chk (0<=v3/\v3<=v3/\v3<=1048576)).bind fun _=> AI (τ:=(List UInt8)) (fun k4=> A6 (σ:=Int×Addr×(List UInt8)) (fun next5 (v6,v7,v8)=> if (decide (v6 ≥ 0)) then
(geti v8 v6).bind fun v9=>
(seti v8 v6 (Aa (v7.Lo.toNat:Int))).bind fun v10=> next5 ((AN (v6-1)),(⟨v7.V6,(AT (Int.fdiv (v7.Hi.toNat:Int) (2^(min (Int.toNat 8) 64)))),(AT ((BitVec.ofInt 64 ((AT (Int.fdiv (v7.Lo.toNat:Int) (2^(min (Int.toNat 8) 64)))).toNat:Int) ||| BitVec.ofInt 64 ((AT ((v7.Hi.toNat:Int)*(2^(min (Int.toNat 56) 64)))).toNat:Int)).toNat:Int))⟩:Addr),v10) else k4 v8
) fuel ((AN (v3-1)),a0,(List.replicate (Int.toNat v3) (0:UInt8)))
) fun v11=> some v11
def EX (a0:List UInt8)(a1:List JAE)(a2:Bool):Option (List UInt8):= AI (τ:=(List UInt8)) (fun k1=> Ao (σ:=(List UInt8)) (fun v2=> k1 v2
) (fun next3 (x4:JAE) i5 v2=> AI (τ:=(List UInt8)) (fun k6=> if (x4.Addr.V6==a2) then
(apnd (α:=UInt8) 1 v2 ([(Aa x4.Len)]:List UInt8)).bind fun v7=>
(BM x4.Addr).bind fun v8=>
(part v8 0 (AN (Int.tdiv (AN (x4.Len+7)) 8))).bind fun v9=>
(apnd (α:=UInt8) 1 v7 v9).bind fun v10=> k6 v10 else k6 v2
) fun v11=> next3 v11
) a1 0 a0
) fun v12=> some v12
def EA (a0:Int):Option Bool:= AI (τ:=Bool) (fun k1=> if (decide (a0 ≥ 1)) then k1 (cond true (decide (a0<=4294967295)) false) else k1 false
) fun v2=> some v2
def FV (a0:List JAD):Option Bool:= AI (τ:=Int) (fun k1=> Ao (σ:=Int) (fun v2=> k1 v2
) (fun next3 (x4:JAD) i5 v2=> AI (τ:=Unit) (fun k6=> AI (τ:=Bool) (fun k7=> if ((x4.ASNs.length:Int)==0) then k7 true else if (decide ((i5:Int) > 0)) then if (cond true (!x4.Set) false) then
(geti a0 (AN ((i5:Int)-1))).bind fun v8=> k7 (cond false true (cond true (!v8.Set) false)) else k7 false else k7 false
) fun v9=> if v9 then some false else AI (τ:=Unit) (fun k10=> Ao (σ:=Unit) (fun _=> k10 ()
) (fun next11 (x12:Int) i13 _=> AI (τ:=Bool) (fun k14=>
(EA x12).bind fun v15=> if (!v15) then k14 true else if x4.Set then if (cond true (decide ((i13:Int) > 0)) false) then
(geti x4.ASNs (AN ((i13:Int)-1))).bind fun v16=> k14 (cond false true (cond true (decide (v16 ≥ x12)) false)) else k14 false else k14 false
) fun v17=> if v17 then some false else next11 ()
) x4.ASNs 0 ()
) fun _=> k6 ()
) fun _=> next3 (AN (v2+(x4.ASNs.length:Int)))
) a0 0 0
) fun v18=> some (decide (v18<=64))
def Dj (a0:List Int):Option Int:= if (decide ((a0.length:Int)<1)) then none else
(geti a0 0).bind fun v1=> AI (τ:=Int) (fun k2=> A6 (σ:=Int×Int) (fun next3 (v4,v5)=> if (decide (v5<(a0.length:Int))) then
(geti a0 v5).bind fun v6=> next3 ((if v6<v4 then v6 else v4),(AN (v5+1))) else k2 v4
) fuel (v1,1)
) fun v7=> some v7
def Di (a0:List Int):Option Int:= if (decide ((a0.length:Int)<1)) then none else
(geti a0 0).bind fun v1=> AI (τ:=Int) (fun k2=> A6 (σ:=Int×Int) (fun next3 (v4,v5)=> if (decide (v5<(a0.length:Int))) then
(geti a0 v5).bind fun v6=> next3 ((if v6 > v4 then v6 else v4),(AN (v5+1))) else k2 v4
) fuel (v1,1)
) fun v7=> some v7
def DY (a0:Int)(a1:List Int):Option Bool:= AI (τ:=Bool) (fun k1=>
(Dj a1).bind fun v2=> if (decide (v2 ≥ 0)) then
(Di a1).bind fun v3=> k1 (cond true (decide (v3<=a0)) false) else k1 false
) fun v4=> some v4
def E4 (a0:JAB):Option Bool:=
(DY 65535 ([a0.A,a0.B]:List Int)).bind fun v1=> some v1
def cmp_isNaN_int (a0:Int):Option Bool:= some (a0 != a0)
def cmp_Compare_int (a0:Int)(a1:Int):Option Int:=
(cmp_isNaN_int a0).bind fun v1=>
(cmp_isNaN_int a1).bind fun v2=> if v1 then if v2 then some 0 else some (-1) else if v2 then some 1 else if (decide (a0<a1)) then some (-1) else if (decide (a0 > a1)) then some 1 else some 0
def FC (a0:List Int):Option Int:= AI (τ:=Unit) (fun k1=> Ao (σ:=Unit) (fun _=> k1 ()
) (fun next2 (x3:Int) i4 _=> if (x3 != 0) then some x3 else next2 ()
) a0 0 ()
) fun _=> some 0
def Dy (a0:JAB)(a1:JAB):Option Int:=
(cmp_Compare_int a0.A a1.A).bind fun v1=>
(cmp_Compare_int a0.B a1.B).bind fun v2=>
(FC ([v1,v2]:List Int)).bind fun v3=> some v3
def Ae (a0:List JAB):Option Bool:= AI (τ:=Unit) (fun k1=> Ao (σ:=Unit) (fun _=> k1 ()
) (fun next2 (x3:JAB) i4 _=> AI (τ:=Bool) (fun k5=>
(E4 x3).bind fun v6=> if (!v6) then k5 true else if (decide ((i4:Int) > 0)) then
(geti a0 (AN ((i4:Int)-1))).bind fun v7=>
(Dy v7 x3).bind fun v8=> k5 (cond false true (cond true (decide (v8 ≥ 0)) false)) else k5 false
) fun v9=> if v9 then some false else next2 ()
) a0 0 ()
) fun _=> some (decide ((a0.length:Int)<=64))
def DK (a0:List JAB):Option Bool:=
(Ae a0).bind fun v1=> some v1
def DN (a0:JAF):Option Bool:=
(DY 4294967295 ([a0.A,a0.B,a0.C]:List Int)).bind fun v1=> some v1
def CM (a0:JAF)(a1:JAF):Option Int:=
(cmp_Compare_int a0.A a1.A).bind fun v1=>
(cmp_Compare_int a0.B a1.B).bind fun v2=>
(cmp_Compare_int a0.C a1.C).bind fun v3=>
(FC ([v1,v2,v3]:List Int)).bind fun v4=> some v4
def AW (a0:List JAF):Option Bool:= AI (τ:=Unit) (fun k1=> Ao (σ:=Unit) (fun _=> k1 ()
) (fun next2 (x3:JAF) i4 _=> AI (τ:=Bool) (fun k5=>
(DN x3).bind fun v6=> if (!v6) then k5 true else if (decide ((i4:Int) > 0)) then
(geti a0 (AN ((i4:Int)-1))).bind fun v7=>
(CM v7 x3).bind fun v8=> k5 (cond false true (cond true (decide (v8 ≥ 0)) false)) else k5 false
) fun v9=> if v9 then some false else next2 ()
) a0 0 ()
) fun _=> some (decide ((a0.length:Int)<=64))
def Bd (a0:List JAF):Option Bool:=
(AW a0).bind fun v1=> some v1
def BV (a0:Int):Option Bool:= AI (τ:=Bool) (fun k1=>
(some (Option.getD (BB Bo a0) 0)).bind fun v2=> if (v2==0) then if (cond true (a0 != 14) false) then k1 (cond true (a0 != 15) false) else k1 false else k1 false
) fun v3=> some v3
def Db (a0:List JAA):Option Bool:= AI (τ:=Unit) (fun k1=> Ao (σ:=Unit) (fun _=> k1 ()
) (fun next2 (x3:JAA) i4 _=> AI (τ:=Bool) (fun k5=>
(BV x3.Type_).bind fun v6=> if (!v6) then k5 true else
(A8 x3.Type_ 1 255).bind fun v7=> if (cond false true (!v7)) then k5 true else if (cond false true (x3.Flags != 224)) then k5 true else if (cond false true (decide ((x3.Data.length:Int) > 255))) then k5 true else if (decide ((i4:Int) > 0)) then
(geti a0 (AN ((i4:Int)-1))).bind fun v8=> k5 (cond false true (cond true (decide (v8.Type_ ≥ x3.Type_)) false)) else k5 false
) fun v9=> if v9 then some false else next2 ()
) a0 0 ()
) fun _=> some (decide ((a0.length:Int)<=8))
def DI (a0:JAC):Option Bool:= AI (τ:=Bool) (fun k1=>
(A8 a0.Origin (-1) 2).bind fun v2=> if v2 then
(FV a0.Path).bind fun v3=> if (cond true v3 false) then
(FI a0.Next).bind fun v4=> if (cond true v4 false) then
(A8 a0.MED (-1) 4294967295).bind fun v5=> if (cond true v5 false) then
(A8 a0.Pref (-1) 4294967295).bind fun v6=> if (cond true v6 false) then if (a0.OTC==(-1)) then
(DK a0.Communities).bind fun v7=> if (cond true v7 false) then
(Bd a0.JAF).bind fun v8=> if (cond true v8 false) then
(Db a0.Other).bind fun v9=> k1 (cond true v9 false) else k1 false else k1 false else
(EA a0.OTC).bind fun v10=> if (cond true (cond false true v10) false) then
(DK a0.Communities).bind fun v11=> if (cond true v11 false) then
(Bd a0.JAF).bind fun v12=> if (cond true v12 false) then
(Db a0.Other).bind fun v13=> k1 (cond true v13 false) else k1 false else k1 false else k1 false else k1 false else k1 false else k1 false else k1 false else k1 false
) fun v14=> some v14
def A7 (a0:List UInt8):Option (List UInt8):=
(apnd (α:=UInt8) 1 ([]:List UInt8) a0).bind fun v1=> some v1
def DR (a0:List UInt8)(a1:List Int):Option (List UInt8):= AI (τ:=(List UInt8)) (fun k1=> Ao (σ:=(List UInt8)) (fun v2=> k1 v2
) (fun next3 (x4:Int) i5 v2=>
(apnd (α:=UInt8) 1 v2 ([(Aa (Int.fdiv x4 (2^(min (Int.toNat 24) 64)))),(Aa (Int.fdiv x4 (2^(min (Int.toNat 16) 64)))),(Aa (Int.fdiv x4 (2^(min (Int.toNat 8) 64)))),(Aa x4)]:List UInt8)).bind fun v6=> next3 v6
) a1 0 a0
) fun v7=> some v7
def Be (a0:List JAD):Option (List UInt8):= AI (τ:=(List UInt8)) (fun k1=> Ao (σ:=(List UInt8)) (fun v2=> k1 v2
) (fun next3 (x4:JAD) i5 v2=> AI (τ:=UInt8) (fun k6=> if x4.Set then k6 (1:UInt8) else k6 (2:UInt8)
) fun v7=>
(apnd (α:=UInt8) 1 v2 ([v7,(Aa (x4.ASNs.length:Int))]:List UInt8)).bind fun v8=>
(DR v8 x4.ASNs).bind fun v9=> next3 v9
) a0 0 []
) fun v10=> some v10
def Bv (a0:List JAB):Option (List UInt8):= AI (τ:=(List UInt8)) (fun k1=> Ao (σ:=(List UInt8)) (fun v2=> k1 v2
) (fun next3 (x4:JAB) i5 v2=>
(DR v2 ([(AN ((BitVec.ofInt 64 (AN (x4.A*(2^(min (Int.toNat 16) 64)))) ||| BitVec.ofInt 64 x4.B).toNat:Int))]:List Int)).bind fun v6=> next3 v6
) a0 0 []
) fun v7=> some v7
def Du (a0:List JAF):Option (List UInt8):= AI (τ:=(List UInt8)) (fun k1=> Ao (σ:=(List UInt8)) (fun v2=> k1 v2
) (fun next3 (x4:JAF) i5 v2=>
(DR v2 ([x4.A,x4.B,x4.C]:List Int)).bind fun v6=> next3 v6
) a0 0 []
) fun v7=> some v7
def DC (a0:JAA)(a1:JAA):Option Int:=
(cmp_Compare_int a0.Type_ a1.Type_).bind fun v1=> some v1
def BJ (a1:List Int):Option (List UInt8):= AI (τ:=(List UInt8)) (fun k1=> Ao (σ:=(List UInt8)) (fun v2=> k1 v2
) (fun next3 (x4:Int) i5 v2=>
(apnd (α:=UInt8) 1 v2 ([(Aa (Int.fdiv x4 (2^(min (Int.toNat 24) 64)))),(Aa (Int.fdiv x4 (2^(min (Int.toNat 16) 64)))),(Aa (Int.fdiv x4 (2^(min (Int.toNat 8) 64)))),(Aa x4)]:List UInt8)).bind fun v6=> next3 v6
) a1 0 []
) fun v7=> some v7
def Fp (a0:JAA)(a1:JAA):Option Int:=
(cmp_Compare_int a0.Type_ a1.Type_).bind fun v1=> some v1
def EI (a1:List JAE)(a2:Bool):Option (List UInt8):= AI (τ:=(List UInt8)) (fun k1=> Ao (σ:=(List UInt8)) (fun v2=> k1 v2
) (fun next3 (x4:JAE) i5 v2=> AI (τ:=(List UInt8)) (fun k6=> if (x4.Addr.V6==a2) then
(apnd (α:=UInt8) 1 v2 ([(Aa x4.Len)]:List UInt8)).bind fun v7=>
(BM x4.Addr).bind fun v8=>
(part v8 0 (AN (Int.tdiv (AN (x4.Len+7)) 8))).bind fun v9=>
(apnd (α:=UInt8) 1 v7 v9).bind fun v10=> k6 v10 else k6 v2
) fun v11=> next3 v11
) a1 0 []
) fun v12=> some v12
def HS (a0:JAG):Option (List JAA):= AI (τ:=Int×(List JAA)) (fun k1=>
(DI a0.JAC).bind fun v2=> if (!v2) then k1 (1,[]) else AI (τ:=(List JAA)) (fun k3=> AI (τ:=(List JAA)) (fun k4=> if (a0.JAC.Origin != (-1)) then
(some (Option.getD (BB Bo 1) 0)).bind fun v5=>
(apnd (α:=JAA) 40 [] ([(⟨v5,1,([(Aa a0.JAC.Origin)]:List UInt8)⟩:JAA)]:List JAA)).bind fun _=> k4 ([(⟨v5,1,([(Aa a0.JAC.Origin)]:List UInt8)⟩:JAA)]:List JAA) else k4 []
) fun v6=> k3 v6
) fun v7=> AI (τ:=(List JAA)) (fun k8=> if (a0.JAC.Origin != (-1)) then
(Be a0.JAC.Path).bind fun v9=> AI (τ:=(List JAA)) (fun k10=>
(some (Option.getD (BB Bo 2) 0)).bind fun v11=>
(apnd (α:=JAA) 40 v7 ([(⟨v11,2,v9⟩:JAA)]:List JAA)).bind fun v12=> k10 v12
) fun v13=> k8 v13 else
(Be a0.JAC.Path).bind fun v14=> AI (τ:=(List JAA)) (fun k15=> AI (τ:=(List JAA)) (fun k16=> if (cond false true (decide ((a0.JAC.Path.length:Int) > 0))) then
(some (Option.getD (BB Bo 2) 0)).bind fun v17=>
(apnd (α:=JAA) 40 v7 ([(⟨v17,2,v14⟩:JAA)]:List JAA)).bind fun v18=> k16 v18 else k16 v7
) fun v19=> k15 v19
) fun v20=> k8 v20
) fun v21=> AI (τ:=(List JAA)) (fun k22=> if (!a0.JAC.Next.V6) then
(BM a0.JAC.Next).bind fun v23=> AI (τ:=(List JAA)) (fun k24=> AI (τ:=(List JAA)) (fun k25=> if (cond true (!(Addr.eqd a0.JAC.Next (⟨false,(0:UInt64),(0:UInt64)⟩:Addr))) false) then
(some (Option.getD (BB Bo 3) 0)).bind fun v26=>
(apnd (α:=JAA) 40 v21 ([(⟨v26,3,v23⟩:JAA)]:List JAA)).bind fun v27=> k25 v27 else k25 v21
) fun v28=> k24 v28
) fun v29=> k22 v29 else
(BM a0.JAC.Next).bind fun v30=> AI (τ:=Unit) (fun k31=> k31 ()
) fun _=> k22 v21
) fun v32=>
(BJ ([a0.JAC.MED]:List Int)).bind fun v33=> AI (τ:=(List JAA)) (fun k34=> AI (τ:=(List JAA)) (fun k35=> if (a0.JAC.MED != (-1)) then
(some (Option.getD (BB Bo 4) 0)).bind fun v36=>
(apnd (α:=JAA) 40 v32 ([(⟨v36,4,v33⟩:JAA)]:List JAA)).bind fun v37=> k35 v37 else k35 v32
) fun v38=> k34 v38
) fun v39=>
(BJ ([a0.JAC.Pref]:List Int)).bind fun v40=> AI (τ:=(List JAA)) (fun k41=> AI (τ:=(List JAA)) (fun k42=> if (a0.JAC.Pref != (-1)) then
(some (Option.getD (BB Bo 5) 0)).bind fun v43=>
(apnd (α:=JAA) 40 v39 ([(⟨v43,5,v40⟩:JAA)]:List JAA)).bind fun v44=> k42 v44 else k42 v39
) fun v45=> k41 v45
) fun v46=>
(Bv a0.JAC.Communities).bind fun v47=> AI (τ:=(List JAA)) (fun k48=> AI (τ:=(List JAA)) (fun k49=> if (decide ((a0.JAC.Communities.length:Int) > 0)) then
(some (Option.getD (BB Bo 8) 0)).bind fun v50=>
(apnd (α:=JAA) 40 v46 ([(⟨v50,8,v47⟩:JAA)]:List JAA)).bind fun v51=> k49 v51 else k49 v46
) fun v52=> k48 v52
) fun v53=>
(Du a0.JAC.JAF).bind fun v54=> AI (τ:=(List JAA)) (fun k55=> AI (τ:=(List JAA)) (fun k56=> if (decide ((a0.JAC.JAF.length:Int) > 0)) then
(some (Option.getD (BB Bo 32) 0)).bind fun v57=>
(apnd (α:=JAA) 40 v53 ([(⟨v57,32,v54⟩:JAA)]:List JAA)).bind fun v58=> k56 v58 else k56 v53
) fun v59=> k55 v59
) fun v60=>
(BJ ([a0.JAC.OTC]:List Int)).bind fun v61=> AI (τ:=(List JAA)) (fun k62=> AI (τ:=(List JAA)) (fun k63=> if (a0.JAC.OTC != (-1)) then
(some (Option.getD (BB Bo 35) 0)).bind fun v64=>
(apnd (α:=JAA) 40 v60 ([(⟨v64,35,v61⟩:JAA)]:List JAA)).bind fun v65=> k63 v65 else k63 v60
) fun v66=> k62 v66
) fun v67=> AI (τ:=(List JAA)) (fun k68=> Ao (σ:=(List JAA)) (fun v69=> k68 v69
) (fun next70 (x71:JAA) i72 v69=>
(A7 x71.Data).bind fun v73=>
(apnd (α:=JAA) 40 v69 ([{ x71 with Data:=v73 }]:List JAA)).bind fun v74=> next70 v74
) a0.JAC.Other 0 v67
) fun v75=>
(EO DC v75).bind fun v76=> k1 (0,v76)
) fun (v77,v78)=> AI (τ:=Bool) (fun k79=> if (decide ((a0.Announce.length:Int) > 0)) then k79 (cond true a0.JAC.Next.V6 false) else k79 false
) fun v80=> AI (τ:=(List JAA)) (fun k81=> if v80 then
(BM a0.JAC.Next).bind fun v82=>
(apnd (α:=UInt8) 1 ([(0:UInt8),(2:UInt8),(1:UInt8),(16:UInt8)]:List UInt8) v82).bind fun v83=>
(apnd (α:=UInt8) 1 v83 ([(0:UInt8)]:List UInt8)).bind fun v84=>
(EX v84 a0.Announce true).bind fun v85=>
(apnd (α:=JAA) 40 v78 ([(⟨128,14,v85⟩:JAA)]:List JAA)).bind fun v86=> k81 v86 else k81 v78
) fun v87=>
(EI a0.Withdraw true).bind fun v88=> AI (τ:=(List JAA)) (fun k89=> if (decide ((v88.length:Int) > 0)) then
(apnd (α:=UInt8) 1 ([(0:UInt8),(2:UInt8),(1:UInt8)]:List UInt8) v88).bind fun v90=>
(apnd (α:=JAA) 40 v87 ([(⟨128,15,v90⟩:JAA)]:List JAA)).bind fun v91=> k89 v91 else k89 v87
) fun v92=>
(EO Fp v92).bind fun v93=> some v93
def E7 (a1:Int):Option (List UInt8):=
(apnd (α:=UInt8) 1 [] ([(Aa (Int.fdiv a1 (2^(min (Int.toNat 8) 64)))),(Aa a1)]:List UInt8)).bind fun _=> some ([(Aa (Int.fdiv a1 (2^(min (Int.toNat 8) 64)))),(Aa a1)]:List UInt8)
def EQ (a0:JAG):Option ((List UInt8)×Bool):=
(HS a0).bind fun v1=>
(E5 v1).bind fun (v2,v3)=>
(EI a0.Withdraw false).bind fun v4=>
(E7 (v4.length:Int)).bind fun v5=>
(apnd (α:=UInt8) 1 v5 v4).bind fun v6=>
(ID v6 (v2.length:Int)).bind fun v7=>
(apnd (α:=UInt8) 1 v7 v2).bind fun v8=>
(EX v8 a0.Announce false).bind fun v9=> AI (τ:=Bool) (fun k10=> if (v3==0) then k10 (cond true (decide ((v9.length:Int)<=4077)) false) else k10 false
) fun v11=> some (v9,v11)
def CJ (a0:Addr):Option Int:= if a0.V6 then some 128 else some 32
def FN (a0:Int):Option (UInt64×UInt64):= if (decide (a0 > 64)) then some ((AT (((AT (1*(2^(min (Int.toNat ((AT (AN (a0-64))).toNat:Int)) 64)))).toNat:Int)-1)),(18446744073709551615:UInt64)) else some ((0:UInt64),(AT (((AT (1*(2^(min (Int.toNat ((AT a0).toNat:Int)) 64)))).toNat:Int)-1)))
def D5 (a0:Addr)(a1:Int):Option Addr:=
(CJ a0).bind fun v1=>
(FN (AN (v1-a1))).bind fun (v2,v3)=> some (⟨a0.V6,(AT ((BitVec.ofInt 64 (a0.Hi.toNat:Int) &&& ~~~BitVec.ofInt 64 (v2.toNat:Int)).toNat:Int)),(AT ((BitVec.ofInt 64 (a0.Lo.toNat:Int) &&& ~~~BitVec.ofInt 64 (v3.toNat:Int)).toNat:Int))⟩:Addr)
def Gk (a0:JAE):Option Bool:= AI (τ:=Bool) (fun k1=>
(FI a0.Addr).bind fun v2=> if v2 then if (cond true (decide (a0.Len ≥ 0)) false) then
(CJ a0.Addr).bind fun v3=> if (cond true (decide (a0.Len<=v3)) false) then
(D5 a0.Addr a0.Len).bind fun v4=> k1 (cond true (Addr.eqd v4 a0.Addr) false) else k1 false else k1 false else k1 false
) fun v5=> some v5
def Ez (a0:JAE):Option Bool:=
(Gk a0).bind fun v1=> some (!v1)
def F3:Option JAC:= some (⟨(-1),[],(⟨false,(0:UInt64),(0:UInt64)⟩:Addr),(-1),(-1),(-1),[],[],[]⟩:JAC)
def GW (a0:JAC):Option Bool:= AI (τ:=Unit) (fun k1=> k1 ()
) fun _=> AI (τ:=Bool) (fun k2=> if (a0.Origin==(-1)) then if (cond true (a0.MED==(-1)) false) then if (cond true (a0.Pref==(-1)) false) then if (cond true (a0.OTC==(-1)) false) then if (cond true (Addr.eqd a0.Next (⟨false,(0:UInt64),(0:UInt64)⟩:Addr)) false) then k2 (cond true ((AN ((AN ((AN ((a0.Path.length:Int)+(a0.Communities.length:Int)))+(a0.JAF.length:Int)))+(a0.Other.length:Int)))==0) false) else k2 false else k2 false else k2 false else k2 false else k2 false
) fun v3=> some v3
def Ei (a0:JAE)(a1:JAG):Option (Bool×JAG):= some ((!(a0.Addr.V6==a1.JAC.Next.V6)),a1)
def Aq (a0:List JAE)(a1c0:JAG):Option (Int×JAG):= AI (τ:=JAG) (fun k1=> Ao (σ:=JAG) (fun v2=> k1 v2
) (fun next3 (x4:JAE) i5 v2=>
(Ei x4 v2).bind fun (v6,v7)=> if v6 then some ((i5:Int),v7) else next3 v7
) a0 0 a1c0
) fun v8=> some ((-1),v8)
def Ad (a0:List JAE)(a1c0:JAG):Option (Bool×JAG):=
(Aq a0 a1c0).bind fun (v1,v2)=> some ((decide (v1 ≥ 0)),v2)
def HA (a0:JAG):Option Bool:= if ((a0.Announce.length:Int)==0) then
(GW a0.JAC).bind fun v1=> some v1 else AI (τ:=Bool) (fun k2=>
(DI a0.JAC).bind fun v3=> if v3 then if (cond true (a0.JAC.Origin != (-1)) false) then if (cond true (!(Addr.eqd a0.JAC.Next (⟨false,(0:UInt64),(0:UInt64)⟩:Addr))) false) then
(Ad a0.Announce a0).bind fun (v4,v5)=> k2 (cond true (!v4) false) else k2 false else k2 false else k2 false
) fun v6=> some v6
def A4 (a0:List JAE):Option Int:= AI (τ:=Unit) (fun k1=> Ao (σ:=Unit) (fun _=> k1 ()
) (fun next2 (x3:JAE) i4 _=>
(Ez x3).bind fun v5=> if v5 then some (i4:Int) else next2 ()
) a0 0 ()
) fun _=> some (-1)
def AZ (a0:List JAE):Option Bool:=
(A4 a0).bind fun v1=> some (decide (v1 ≥ 0))
def FQ (a0:JAG):Option Bool:= AI (τ:=Bool) (fun k1=> if (decide ((a0.Withdraw.length:Int) > 256)) then k1 true else if (cond false true (decide ((a0.Announce.length:Int) > 256))) then k1 true else
(AZ a0.Withdraw).bind fun v2=> if (cond false true v2) then k1 true else
(AZ a0.Announce).bind fun v3=> if (cond false true v3) then k1 true else
(HA a0).bind fun v4=> k1 (cond false true (!v4))
) fun v5=> if v5 then some false else
(EQ a0).bind fun (v6,v7)=> some v7
def D9 (a0:JAG):Option ((List UInt8)×Int):=
(FQ a0).bind fun v1=> if (!v1) then some ([],1) else
(EQ a0).bind fun (v2,v3)=> some (v2,0)
def GE (a0:JAG):Option Int:=
(FQ a0).bind fun v1=> if (!v1) then some 0 else
(EQ a0).bind fun (v2,v3)=> some (AN (19+(v2.length:Int)))
def Dc (a0:List JAA):Option (List JAA):= AI (τ:=(List JAA)) (fun k1=> Ao (σ:=(List (Int×Bool))×(List JAA)) (fun (v2,v3)=> k1 v3
) (fun next4 (x5:JAA) i6 (v2,v3)=>
(some (Option.getD (BB v2 x5.Type_) false)).bind fun v7=> AI (τ:=(List JAA)) (fun k8=> if (!v7) then
(apnd (α:=JAA) 40 v3 ([x5]:List JAA)).bind fun v9=> k8 v9 else k8 v3
) fun v10=> next4 ((Cc v2 x5.Type_ true),v10)
) a0 0 ([],[])
) fun v11=> some v11
def Df (a0:JAA):Option Bool:= AI (τ:=Bool) (fun k1=>
(BV a0.Type_).bind fun v2=> if v2 then k1 (cond true ((AN ((BitVec.ofInt 64 a0.Flags &&& BitVec.ofInt 64 128).toNat:Int))==0) false) else k1 false
) fun v3=> some v3
def BH (a0:JAA):Option Bool:= AI (τ:=Bool) (fun k1=>
(some (Option.getD (BB Bo a0.Type_) 0)).bind fun v2=> if ((AN ((BitVec.ofInt 64 (AN ((BitVec.ofInt 64 a0.Flags ^^^ BitVec.ofInt 64 v2).toNat:Int)) &&& BitVec.ofInt 64 192).toNat:Int))==0) then
(some (Option.getD (BB Bo a0.Type_) 0)).bind fun v3=> if (v3==192) then k1 true else k1 (cond true (cond false true ((AN ((BitVec.ofInt 64 a0.Flags &&& BitVec.ofInt 64 32).toNat:Int))==0)) false) else k1 false
) fun v4=> some v4
def B0 (a0:List UInt8):Option Int:= AI (τ:=Int) (fun k1=> Ao (σ:=Int) (fun v2=> k1 v2
) (fun next3 (x4:UInt8) i5 v2=> next3 (AN ((BitVec.ofInt 64 (AN (v2*(2^(min (Int.toNat 8) 64)))) ||| BitVec.ofInt 64 (x4.toNat:Int)).toNat:Int))
) a0 0 0
) fun v6=> some v6
def CH (a0:List UInt8):Option (List Int):= AI (τ:=(List Int)) (fun k1=> A6 (σ:=(List UInt8)×(List Int)) (fun next2 (v3,v4)=> if (decide ((v3.length:Int) ≥ 4)) then
(part v3 0 4).bind fun v5=>
(B0 v5).bind fun v6=>
(apnd (α:=Int) 8 v4 ([v6]:List Int)).bind fun v7=>
(part v3 4 (v3.length:Int)).bind fun v8=> next2 (v8,v7) else k1 v4
) fuel (a0,[])
) fun v9=> some v9
def Bh (a0:List Int):Option (List Int):= if (decide ((a0.length:Int)<2)) then some a0 else AI (τ:=Unit) (fun k1=> A6 (σ:=Int) (fun next2 v3=> if (decide (v3<(a0.length:Int))) then AI (τ:=Unit) (fun k4=>
(geti a0 v3).bind fun v5=>
(geti a0 (AN (v3-1))).bind fun v6=> if (v5==v6) then
(chk (0<=v3/\v3<=(a0.length:Int)/\(a0.length:Int)<=(a0.length:Int))).bind fun _=> AI (τ:=Int×(List Int)) (fun k7=> A6 (σ:=Int×Int×(List Int)) (fun next8 (v9,v10,v11)=> if (decide (v10<(((Int.toNat (a0.length:Int)-Int.toNat v3):Nat):Int))) then
(geti (List.take (Int.toNat (a0.length:Int)-Int.toNat v3) (List.drop (Int.toNat v3) v11)) v10).bind fun v12=>
(geti (List.take (Int.toNat (a0.length:Int)-Int.toNat v3) (List.drop (Int.toNat v3) v11)) (AN (v10-1))).bind fun v13=> AI (τ:=Int×(List Int)) (fun k14=> if (v12 != v13) then
(geti (List.take (Int.toNat (a0.length:Int)-Int.toNat v3) (List.drop (Int.toNat v3) v11)) v10).bind fun v15=>
(geti v11 v9).bind fun v16=>
(seti v11 v9 v15).bind fun v17=> k14 ((AN (v9+1)),v17) else k14 (v9,v11)
) fun (v18,v19)=> next8 (v18,(AN (v10+1)),v19) else k7 (v9,v11)
) fuel (v3,1,a0)
) fun (v20,v21)=>
(chk (0<=v20/\v20<=(v21.length:Int)/\(v21.length:Int)<=(v21.length:Int))).bind fun _=>
(part (List.take (Int.toNat v20) v21++List.replicate (Int.toNat (v21.length:Int)-Int.toNat v20) 0++List.drop ((Int.toNat v20)+(Int.toNat (v21.length:Int)-Int.toNat v20)) v21) 0 v20).bind fun v22=> some v22 else k4 ()
) fun _=> next2 (AN (v3+1)) else k1 ()
) fuel 1
) fun _=> some a0
def A5 (a0:List UInt8):Option (Addr×Int):= AI (τ:=Bool) (fun k1=> if ((a0.length:Int) != 4) then k1 (cond true ((a0.length:Int) != 16) false) else k1 false
) fun v2=> if v2 then some ((⟨false,(0:UInt64),(0:UInt64)⟩:Addr),1) else AI (τ:=Addr) (fun k3=> Ao (σ:=Addr) (fun v4=> k3 v4
) (fun next5 (x6:UInt8) i7 v4=> next5 (⟨v4.V6,(AT ((BitVec.ofInt 64 ((AT ((v4.Hi.toNat:Int)*(2^(min (Int.toNat 8) 64)))).toNat:Int) ||| BitVec.ofInt 64 ((AT (Int.fdiv (v4.Lo.toNat:Int) (2^(min (Int.toNat 56) 64)))).toNat:Int)).toNat:Int)),(AT ((BitVec.ofInt 64 ((AT ((v4.Lo.toNat:Int)*(2^(min (Int.toNat 8) 64)))).toNat:Int) ||| BitVec.ofInt 64 ((AT (x6.toNat:Int)).toNat:Int)).toNat:Int))⟩:Addr)
) a0 0 (⟨((a0.length:Int)==16),(0:UInt64),(0:UInt64)⟩:Addr)
) fun v8=> some (v8,0)
def Ax (a0:List JAB):Option (List JAB):= if (decide ((a0.length:Int)<2)) then some a0 else AI (τ:=Unit) (fun k1=> A6 (σ:=Int) (fun next2 v3=> if (decide (v3<(a0.length:Int))) then AI (τ:=Unit) (fun k4=>
(geti a0 v3).bind fun v5=>
(geti a0 (AN (v3-1))).bind fun v6=> if (JAB.eqd v5 v6) then
(chk (0<=v3/\v3<=(a0.length:Int)/\(a0.length:Int)<=(a0.length:Int))).bind fun _=> AI (τ:=Int×(List JAB)) (fun k7=> A6 (σ:=Int×Int×(List JAB)) (fun next8 (v9,v10,v11)=> if (decide (v10<(((Int.toNat (a0.length:Int)-Int.toNat v3):Nat):Int))) then
(geti (List.take (Int.toNat (a0.length:Int)-Int.toNat v3) (List.drop (Int.toNat v3) v11)) v10).bind fun v12=>
(geti (List.take (Int.toNat (a0.length:Int)-Int.toNat v3) (List.drop (Int.toNat v3) v11)) (AN (v10-1))).bind fun v13=> AI (τ:=Int×(List JAB)) (fun k14=> if (!(JAB.eqd v12 v13)) then
(geti (List.take (Int.toNat (a0.length:Int)-Int.toNat v3) (List.drop (Int.toNat v3) v11)) v10).bind fun v15=>
(geti v11 v9).bind fun v16=>
(seti v11 v9 v15).bind fun v17=> k14 ((AN (v9+1)),v17) else k14 (v9,v11)
) fun (v18,v19)=> next8 (v18,(AN (v10+1)),v19) else k7 (v9,v11)
) fuel (v3,1,a0)
) fun (v20,v21)=>
(chk (0<=v20/\v20<=(v21.length:Int)/\(v21.length:Int)<=(v21.length:Int))).bind fun _=>
(part (List.take (Int.toNat v20) v21++List.replicate (Int.toNat (v21.length:Int)-Int.toNat v20) (⟨0,0⟩:JAB)++List.drop ((Int.toNat v20)+(Int.toNat (v21.length:Int)-Int.toNat v20)) v21) 0 v20).bind fun v22=> some v22 else k4 ()
) fun _=> next2 (AN (v3+1)) else k1 ()
) fuel 1
) fun _=> some a0
def BW (a0:JAB)(a1:JAB):Option Int:=
(cmp_Compare_int a0.A a1.A).bind fun v1=>
(cmp_Compare_int a0.B a1.B).bind fun v2=>
(FC ([v1,v2]:List Int)).bind fun v3=> some v3
def BA (a0:List JAF):Option (List JAF):= if (decide ((a0.length:Int)<2)) then some a0 else AI (τ:=Unit) (fun k1=> A6 (σ:=Int) (fun next2 v3=> if (decide (v3<(a0.length:Int))) then AI (τ:=Unit) (fun k4=>
(geti a0 v3).bind fun v5=>
(geti a0 (AN (v3-1))).bind fun v6=> if (JAF.eqd v5 v6) then
(chk (0<=v3/\v3<=(a0.length:Int)/\(a0.length:Int)<=(a0.length:Int))).bind fun _=> AI (τ:=Int×(List JAF)) (fun k7=> A6 (σ:=Int×Int×(List JAF)) (fun next8 (v9,v10,v11)=> if (decide (v10<(((Int.toNat (a0.length:Int)-Int.toNat v3):Nat):Int))) then
(geti (List.take (Int.toNat (a0.length:Int)-Int.toNat v3) (List.drop (Int.toNat v3) v11)) v10).bind fun v12=>
(geti (List.take (Int.toNat (a0.length:Int)-Int.toNat v3) (List.drop (Int.toNat v3) v11)) (AN (v10-1))).bind fun v13=> AI (τ:=Int×(List JAF)) (fun k14=> if (!(JAF.eqd v12 v13)) then
(geti (List.take (Int.toNat (a0.length:Int)-Int.toNat v3) (List.drop (Int.toNat v3) v11)) v10).bind fun v15=>
(geti v11 v9).bind fun v16=>
(seti v11 v9 v15).bind fun v17=> k14 ((AN (v9+1)),v17) else k14 (v9,v11)
) fun (v18,v19)=> next8 (v18,(AN (v10+1)),v19) else k7 (v9,v11)
) fuel (v3,1,a0)
) fun (v20,v21)=>
(chk (0<=v20/\v20<=(v21.length:Int)/\(v21.length:Int)<=(v21.length:Int))).bind fun _=>
(part (List.take (Int.toNat v20) v21++List.replicate (Int.toNat (v21.length:Int)-Int.toNat v20) (⟨0,0,0⟩:JAF)++List.drop ((Int.toNat v20)+(Int.toNat (v21.length:Int)-Int.toNat v20)) v21) 0 v20).bind fun v22=> some v22 else k4 ()
) fun _=> next2 (AN (v3+1)) else k1 ()
) fuel 1
) fun _=> some a0
def CU (a0:JAF)(a1:JAF):Option Int:=
(cmp_Compare_int a0.A a1.A).bind fun v1=>
(cmp_Compare_int a0.B a1.B).bind fun v2=>
(cmp_Compare_int a0.C a1.C).bind fun v3=>
(FC ([v1,v2,v3]:List Int)).bind fun v4=> some v4
def DX (a0:JAA)(a1:JAA):Option Int:=
(cmp_Compare_int a0.Type_ a1.Type_).bind fun v1=> some v1
def A2 (a0:List JAA):Option Int:= AI (τ:=Unit) (fun k1=> Ao (σ:=Unit) (fun _=> k1 ()
) (fun next2 (x3:JAA) i4 _=>
(Df x3).bind fun v5=> if v5 then some (i4:Int) else next2 ()
) a0 0 ()
) fun _=> some (-1)
def Am (a0:List JAA):Option Bool:=
(A2 a0).bind fun v1=> some (decide (v1 ≥ 0))
def Ek {ρ:Type}(F:Option ρ)(next16:Int×Bool×UInt64×UInt64×Int×Int×Int×(List JAD)×(List JAB)×(List JAF)->Option ρ)(x17:JAA):Int×Bool×UInt64×UInt64×Int×Int×Int×(List JAD)×(List JAB)×(List JAF)->Option ρ:=fun (v6,v7,v8,v9,v10,v11,v12,v13,v14,v15)=> AI (τ:=Int×Bool×UInt64×UInt64×Int×Int×Int×(List JAD)×(List JAB)×(List JAF)) (fun k19=> if (x17.Type_==1) then AI (τ:=Bool×Int) (fun k20=>
(BH x17).bind fun v21=> if (!v21) then k20 (true,v6) else AI (τ:=Bool×Int) (fun k22=>
(B0 x17.Data).bind fun v23=> AI (τ:=Bool) (fun k24=> if ((x17.Data.length:Int)==1) then k24 (cond true (decide (v23<=2)) false) else k24 false
) fun v25=> k22 (v25,v23)
) fun (v26,v27)=> k20 ((cond true (cond false true (!v26)) false),v27)
) fun (v28,v29)=> if v28 then F else k19 (v29,v7,v8,v9,v10,v11,v12,v13,v14,v15) else if (x17.Type_==2) then AI (τ:=Bool×(List JAD)) (fun k30=>
(BH x17).bind fun v31=> if (!v31) then k30 (true,v13) else AI (τ:=Bool×(List JAD)) (fun k32=> AI (τ:=(List JAD)) (fun k33=>
(chk (v13=[])).bind fun _=> A6 (σ:=(List UInt8)×(List JAD)×Nat×(List Int)) (fun next34 (v35,v36,v37,v38)=> if (decide ((v35.length:Int) > 0)) then AI (τ:=Bool) (fun k39=> if (decide ((v35.length:Int)<2)) then k39 true else
(geti v35 0).bind fun v40=> if ((v40.toNat:Int) != 1) then
(geti v35 0).bind fun v41=> if (cond false true (cond true ((v41.toNat:Int) != 2) false)) then k39 true else
(geti v35 1).bind fun v42=> if (cond false true (decide ((v35.length:Int)<(AN (2+(AN (4*(v42.toNat:Int)))))))) then k39 true else
(geti v35 1).bind fun v43=> k39 (cond false true ((v43.toNat:Int)==0)) else
(geti v35 1).bind fun v44=> if (cond false true (decide ((v35.length:Int)<(AN (2+(AN (4*(v44.toNat:Int)))))))) then k39 true else
(geti v35 1).bind fun v45=> k39 (cond false true ((v45.toNat:Int)==0))
) fun v46=> if v46 then k32 (false,v36) else
(geti v35 1).bind fun v47=>
(geti v35 0).bind fun v48=>
(part v35 2 (AN (2+(AN (4*(v47.toNat:Int)))))).bind fun v49=>
(CH v49).bind fun v50=>
(part v35 (AN (2+(AN (4*(v47.toNat:Int))))) (v35.length:Int)).bind fun v51=> AI (τ:=(List Int)) (fun k52=> if ((v48.toNat:Int)==1) then
(Lm v50).bind fun v53=>
(Bh v53).bind fun v54=> k52 v54 else k52 v50
) fun v55=> AI (τ:=Bool) (fun k56=> if (decide ((AN ((v36.length:Int)-1)) ≥ 0)) then if (cond true (!((v48.toNat:Int)==1)) false) then
(geti v36 (AN ((v36.length:Int)-1))).bind fun v57=> k56 (cond true (!v57.Set) false) else k56 false else k56 false
) fun v58=> AI (τ:=(List JAD)×Nat×(List Int)) (fun k59=> if v58 then
(geti v36 (AN ((v36.length:Int)-1))).bind fun v60=>
(chk (Int.toNat (AN ((v36.length:Int)-1))=v37)).bind fun _=>
(apnd (α:=Int) 8 v38 v55).bind fun v61=>
(geti v36 (AN ((v36.length:Int)-1))).bind fun v62=>
(seti v36 (AN ((v36.length:Int)-1)) (⟨v62.Set,v61⟩:JAD)).bind fun v63=> k59 (v63,(Int.toNat (AN ((v36.length:Int)-1))),v61) else
(apnd (α:=JAD) 32 v36 ([(⟨((v48.toNat:Int)==1),v55⟩:JAD)]:List JAD)).bind fun v64=> k59 (v64,((List.map JAD.toD v36).length+0),v55)
) fun (v65,v66,v67)=> next34 (v51,v65,v66,v67) else k33 v36
) fuel (x17.Data,v13,0,[])
) fun v68=>
(FV v68).bind fun v69=> k32 (v69,v68)
) fun (v70,v71)=> k30 ((cond true (cond false true (!v70)) false),v71)
) fun (v72,v73)=> if v72 then F else k19 (v6,v7,v8,v9,v10,v11,v12,v73,v14,v15) else if (x17.Type_==3) then AI (τ:=Bool×Bool×UInt64×UInt64) (fun k74=>
(BH x17).bind fun v75=> if (!v75) then k74 (true,v7,v8,v9) else AI (τ:=Bool×UInt64×UInt64) (fun k76=>
(A5 x17.Data).bind fun (v77,v78)=> k76 (v77.V6,v77.Hi,v77.Lo)
) fun (v79,v80,v81)=> k74 ((cond true (cond false true (!((x17.Data.length:Int)==4))) false),v79,v80,v81)
) fun (v82,v83,v84,v85)=> if v82 then F else k19 (v6,v83,v84,v85,v10,v11,v12,v13,v14,v15) else if (x17.Type_==4) then AI (τ:=Bool×Int) (fun k86=>
(BH x17).bind fun v87=> if (!v87) then k86 (true,v10) else AI (τ:=Int) (fun k88=> AI (τ:=Int) (fun k89=>
(B0 x17.Data).bind fun v90=> k89 v90
) fun v91=> k88 v91
) fun v92=> k86 ((cond true (cond false true (!((x17.Data.length:Int)==4))) false),v92)
) fun (v93,v94)=> if v93 then F else k19 (v6,v7,v8,v9,v94,v11,v12,v13,v14,v15) else if (x17.Type_==5) then AI (τ:=Bool×Int) (fun k95=>
(BH x17).bind fun v96=> if (!v96) then k95 (true,v11) else AI (τ:=Int) (fun k97=> AI (τ:=Int) (fun k98=>
(B0 x17.Data).bind fun v99=> k98 v99
) fun v100=> k97 v100
) fun v101=> k95 ((cond true (cond false true (!((x17.Data.length:Int)==4))) false),v101)
) fun (v102,v103)=> if v102 then F else k19 (v6,v7,v8,v9,v10,v103,v12,v13,v14,v15) else if (x17.Type_==8) then AI (τ:=Bool×(List JAB)) (fun k104=>
(BH x17).bind fun v105=> if (!v105) then k104 (true,v14) else AI (τ:=Bool×(List JAB)) (fun k106=>
(CH x17.Data).bind fun v107=> AI (τ:=(List JAB)) (fun k108=> Ao (σ:=(List JAB)) (fun v109=> k108 v109
) (fun next110 (x111:Int) i112 v109=>
(apnd (α:=JAB) 16 v109 ([(⟨(Int.fdiv x111 (2^(min (Int.toNat 16) 64))),(AN ((BitVec.ofInt 64 x111 &&& BitVec.ofInt 64 65535).toNat:Int))⟩:JAB)]:List JAB)).bind fun v113=> next110 v113
) v107 0 []
) fun v114=> AI (τ:=Bool×(List JAB)) (fun k115=> AI (τ:=Bool) (fun k116=> if (decide ((v114.length:Int) > 0)) then k116 (cond true (decide ((v114.length:Int)<=64)) false) else k116 false
) fun v117=>
(EO BW v114).bind fun v118=>
(Ax v118).bind fun v119=> k115 (v117,v119)
) fun (v120,v121)=> AI (τ:=Bool) (fun k122=> if v120 then if (cond true ((Int.tmod (x17.Data.length:Int) 4)==0) false) then
(DK v121).bind fun v123=> k122 (cond true v123 false) else k122 false else k122 false
) fun v124=> k106 (v124,v121)
) fun (v125,v126)=> k104 ((cond true (cond false true (!v125)) false),v126)
) fun (v127,v128)=> if v127 then F else k19 (v6,v7,v8,v9,v10,v11,v12,v13,v128,v15) else if (x17.Type_==32) then AI (τ:=Bool×(List JAF)) (fun k129=>
(BH x17).bind fun v130=> if (!v130) then k129 (true,v15) else AI (τ:=Bool×(List JAF)) (fun k131=> if ((Int.tmod (x17.Data.length:Int) 12) != 0) then k131 (false,v15) else
(CH x17.Data).bind fun v132=> AI (τ:=(List JAF)) (fun k133=> A6 (σ:=(List JAF)×(List Int)) (fun next134 (v135,v136)=> if (decide ((v136.length:Int) > 0)) then
(geti v136 0).bind fun v137=>
(geti v136 1).bind fun v138=>
(geti v136 2).bind fun v139=>
(apnd (α:=JAF) 24 v135 ([(⟨v137,v138,v139⟩:JAF)]:List JAF)).bind fun v140=>
(part v136 3 (v136.length:Int)).bind fun v141=> next134 (v140,v141) else k133 v135
) fuel ([],v132)
) fun v142=> AI (τ:=Bool×(List JAF)) (fun k143=> AI (τ:=Bool) (fun k144=> if (decide ((v142.length:Int) > 0)) then k144 (cond true (decide ((v142.length:Int)<=64)) false) else k144 false
) fun v145=>
(EO CU v142).bind fun v146=>
(BA v146).bind fun v147=> k143 (v145,v147)
) fun (v148,v149)=> AI (τ:=Bool) (fun k150=> if v148 then
(Bd v149).bind fun v151=> k150 (cond true v151 false) else k150 false
) fun v152=> k131 (v152,v149)
) fun (v153,v154)=> k129 ((cond true (cond false true (!v153)) false),v154)
) fun (v155,v156)=> if v155 then F else k19 (v6,v7,v8,v9,v10,v11,v12,v13,v14,v156) else if (x17.Type_==35) then AI (τ:=Bool×Int) (fun k157=>
(BH x17).bind fun v158=> if (!v158) then k157 (true,v12) else AI (τ:=Bool×Int) (fun k159=> AI (τ:=Bool×Int) (fun k160=> AI (τ:=Int) (fun k161=>
(B0 x17.Data).bind fun v162=> k161 v162
) fun v163=> if ((x17.Data.length:Int)==4) then
(EA v163).bind fun v164=> k160 ((cond true v164 false),v163) else k160 (false,v163)
) fun (v165,v166)=> k159 (v165,v166)
) fun (v167,v168)=> k157 ((cond true (cond false true (!v167)) false),v168)
) fun (v169,v170)=> if v169 then F else k19 (v6,v7,v8,v9,v10,v11,v170,v13,v14,v15) else k19 (v6,v7,v8,v9,v10,v11,v12,v13,v14,v15)
) fun (v171,v172,v173,v174,v175,v176,v177,v178,v179,v180)=> next16 (v171,v172,v173,v174,v175,v176,v177,v178,v179,v180)
def EG (a0:List JAA):Option (JAC×Int):=
(Dc a0).bind fun v1=>
(Am v1).bind fun v2=> if v2 then some ((⟨0,[],(⟨false,(0:UInt64),(0:UInt64)⟩:Addr),0,0,0,[],[],[]⟩:JAC),12) else AI (τ:=Int×Bool×UInt64×UInt64×Int×Int×Int×Bool×(List JAD)×(List JAB)×(List JAF)) (fun k3=> AI (τ:=Unit) (fun k4=> k4 ()
) fun _=> AI (τ:=Int×Bool×UInt64×UInt64×Int×Int×Int×(List JAD)×(List JAB)×(List JAF)) (fun k5=> Ao (σ:=Int×Bool×UInt64×UInt64×Int×Int×Int×(List JAD)×(List JAB)×(List JAF)) (fun (v6,v7,v8,v9,v10,v11,v12,v13,v14,v15)=> k5 (v6,v7,v8,v9,v10,v11,v12,v13,v14,v15)
) (fun next16 (x17:JAA) i18 s=>Ek (k3 (0,false,(0:UInt64),(0:UInt64),0,0,0,false,[],[],[])) next16 x17 s
) v1 0 ((-1),false,(0:UInt64),(0:UInt64),(-1),(-1),(-1),[],[],[])
) fun (v181,v182,v183,v184,v185,v186,v187,v188,v189,v190)=> k3 (v181,v182,v183,v184,v185,v186,v187,true,v188,v189,v190)
) fun (v191,v192,v193,v194,v195,v196,v197,v198,v199,v200,v201)=> if (!v198) then some ((⟨0,[],(⟨false,(0:UInt64),(0:UInt64)⟩:Addr),0,0,0,[],[],[]⟩:JAC),13) else AI (τ:=(List JAA)) (fun k202=> Ao (σ:=(List JAA)) (fun v203=> k202 v203
) (fun next204 (x205:JAA) i206 v203=> AI (τ:=Bool) (fun k207=>
(BV x205.Type_).bind fun v208=> if v208 then
(A8 x205.Type_ 1 255).bind fun v209=> if (cond true v209 false) then if (cond true ((AN ((BitVec.ofInt 64 x205.Flags &&& BitVec.ofInt 64 64).toNat:Int)) != 0) false) then k207 (cond true (decide ((x205.Data.length:Int)<=255)) false) else k207 false else k207 false else k207 false
) fun v210=> AI (τ:=(List JAA)) (fun k211=> if v210 then
(A7 x205.Data).bind fun v212=>
(apnd (α:=JAA) 40 v203 ([(⟨224,x205.Type_,v212⟩:JAA)]:List JAA)).bind fun v213=> k211 v213 else k211 v203
) fun v214=> next204 v214
) v1 0 []
) fun v215=> if (decide ((v215.length:Int) > 8)) then some ((⟨0,[],(⟨false,(0:UInt64),(0:UInt64)⟩:Addr),0,0,0,[],[],[]⟩:JAC),3) else
(EO DX v215).bind fun v216=> some ((⟨v191,v199,(⟨v192,v193,v194⟩:Addr),v195,v196,v197,v200,v201,v216⟩:JAC),0)
def Gs (a0:List UInt8):Option Int:=
(geti a0 0).bind fun v1=>
(geti a0 1).bind fun v2=> some (AN ((BitVec.ofInt 64 (AN ((v1.toNat:Int)*(2^(min (Int.toNat 8) 64)))) ||| BitVec.ofInt 64 (v2.toNat:Int)).toNat:Int))
def Gx (a0:List UInt8):Option ((List UInt8)×(List UInt8)×Bool):= AI (τ:=Bool) (fun k1=> if (decide ((a0.length:Int)<2)) then k1 true else
(Gs a0).bind fun v2=> k1 (cond false true (decide ((AN ((a0.length:Int)-2))<v2)))
) fun v3=> if v3 then some ([],[],false) else
(Gs a0).bind fun v4=>
(part a0 2 (AN (2+v4))).bind fun v5=>
(part a0 (AN (2+v4)) (a0.length:Int)).bind fun v6=> some (v5,v6,true)
def Ef (a0:List UInt8):Option ((List JAA)×Int):= AI (τ:=(List JAA)) (fun k1=> A6 (σ:=(List UInt8)×(List JAA)) (fun next2 (v3,v4)=> if (decide ((v3.length:Int) > 0)) then
(geti v3 0).bind fun v5=> AI (τ:=Int) (fun k6=> if (((Aa ((BitVec.ofInt 8 (v5.toNat:Int) &&& BitVec.ofInt 8 16).toNat:Int)).toNat:Int) != 0) then k6 4 else k6 3
) fun v7=> AI (τ:=Bool) (fun k8=> if (decide ((v3.length:Int)<v7)) then k8 true else
(part v3 2 v7).bind fun v9=>
(B0 v9).bind fun v10=> k8 (cond false true (decide ((AN ((v3.length:Int)-v7))<v10)))
) fun v11=> if v11 then some ([],12) else
(part v3 2 v7).bind fun v12=>
(B0 v12).bind fun v13=>
(geti v3 0).bind fun v14=>
(geti v3 1).bind fun v15=>
(part v3 v7 (AN (v7+v13))).bind fun v16=>
(apnd (α:=UInt8) 1 [] v16).bind fun _=>
(apnd (α:=JAA) 40 v4 ([(⟨((Aa ((BitVec.ofInt 8 (v14.toNat:Int) &&& BitVec.ofInt 8 224).toNat:Int)).toNat:Int),(v15.toNat:Int),v16⟩:JAA)]:List JAA)).bind fun v17=>
(part v3 (AN (v7+v13)) (v3.length:Int)).bind fun v18=> next2 (v18,v17) else k1 v4
) fuel (a0,[])
) fun v19=> some (v19,0)
def HD (a0:Addr)(a1:Int):Option (JAE×Int):=
(FI a0).bind fun v1=> if (!v1) then some ((⟨(⟨false,(0:UInt64),(0:UInt64)⟩:Addr),0⟩:JAE),1) else AI (τ:=Bool) (fun k2=> if (decide (a1<0)) then k2 true else
(CJ a0).bind fun v3=> k2 (cond false true (decide (a1 > v3)))
) fun v4=> if v4 then some ((⟨(⟨false,(0:UInt64),(0:UInt64)⟩:Addr),0⟩:JAE),9) else
(D5 a0 a1).bind fun v5=> some ((⟨v5,a1⟩:JAE),0)
def B1 (a0:List UInt8)(a1:Bool):Option ((List JAE)×Bool):= AI (τ:=Int) (fun k1=> if a1 then k1 128 else k1 32
) fun v2=> AI (τ:=(List JAE)) (fun k3=> A6 (σ:=(List UInt8)×(List JAE)) (fun next4 (v5,v6)=> if (decide ((v5.length:Int) > 0)) then
(geti v5 0).bind fun v7=> AI (τ:=Bool) (fun k8=> if (decide ((v7.toNat:Int) > v2)) then k8 true else k8 (cond false true (decide ((v5.length:Int)<(AN (1+(AN (Int.tdiv (AN ((v7.toNat:Int)+7)) 8)))))))
) fun v9=> if v9 then some ([],false) else
(chk (0<=(AN (Int.tdiv v2 8))/\(AN (Int.tdiv v2 8))<=(AN (Int.tdiv v2 8))/\(AN (Int.tdiv v2 8))<=1048576)).bind fun _=>
(part v5 1 (AN (1+(AN (Int.tdiv (AN ((v7.toNat:Int)+7)) 8))))).bind fun v10=>
(A5 (cpy (List.replicate (Int.toNat (AN (Int.tdiv v2 8))) (0:UInt8)) 0 (List.replicate (Int.toNat (AN (Int.tdiv v2 8))) (0:UInt8)).length v10)).bind fun (v11,v12)=>
(HD v11 (v7.toNat:Int)).bind fun (v13,v14)=>
(apnd (α:=JAE) 32 v6 ([v13]:List JAE)).bind fun v15=>
(part v5 (AN (1+(AN (Int.tdiv (AN ((v7.toNat:Int)+7)) 8)))) (v5.length:Int)).bind fun v16=> next4 (v16,v15) else k3 v6
) fuel (a0,[])
) fun v17=> some (v17,true)
def bytes_Equal (a0:List UInt8)(a1:List UInt8):Option Bool:= some ((bs a0).toList==(bs a1).toList)
def bytes_HasPrefix (a0:List UInt8)(a1:List UInt8):Option Bool:= AI (τ:=Bool) (fun k1=> if (decide ((a0.length:Int) ≥ (a1.length:Int))) then
(part a0 0 (a1.length:Int)).bind fun v2=>
(bytes_Equal v2 a1).bind fun v3=> k1 (cond true v3 false) else k1 false
) fun v4=> some v4
def bytes_CutPrefix (a0:List UInt8)(a1:List UInt8):Option ((List UInt8)×Bool):=
(bytes_HasPrefix a0 a1).bind fun v1=> if (!v1) then some (a0,false) else
(part a0 (a1.length:Int) (a0.length:Int)).bind fun v2=> some (v2,true)
def C4 (a0:JAH):Option (Bool×JAH):= AI (τ:=JAH×(List (Int×Int))) (fun k1=> Ao (σ:=JAH×(List (Int×Int))) (fun (v2,v3)=> k1 (v2,v3)
) (fun next4 (x5:JAA) i6 (v2,v3)=>
(some (Option.getD (BB v3 x5.Type_) 0)).bind fun v7=>
(bytes_CutPrefix x5.Data ([(0:UInt8),(2:UInt8),(1:UInt8)]:List UInt8)).bind fun (v8,v9)=> AI (τ:=Bool×JAH) (fun k10=> if (x5.Type_==14) then AI (τ:=Bool) (fun k11=> if (!v9) then k11 true else if (cond false true (decide ((v8.length:Int)<18))) then k11 true else
(geti v8 0).bind fun v12=> if (cond false true ((v12.toNat:Int) != 16)) then k11 true else
(geti v8 17).bind fun v13=> k11 (cond false true ((v13.toNat:Int) != 0))
) fun v14=> if v14 then some (false,v2) else
(part v8 1 17).bind fun v15=>
(A5 v15).bind fun (v16,v17)=>
(part v8 18 (v8.length:Int)).bind fun v18=>
(B1 v18 true).bind fun (v19,v20)=> k10 (v20,{ v2 with next:=v16,new6:=v19 }) else AI (τ:=Bool×(List JAE)) (fun k21=> if (x5.Type_==15) then AI (τ:=Bool×(List JAE)) (fun k22=> if v9 then
(B1 v8 true).bind fun (v23,v24)=> k22 (v24,v23) else k22 (v9,v2.gone6)
) fun (v25,v26)=> k21 (v25,v26) else k21 (true,v2.gone6)
) fun (v27,v28)=> k10 (v27,{ v2 with gone6:=v28 })
) fun (v29,v30)=> if (!v29) then some (false,v30) else next4 (v30,(Cc v3 x5.Type_ (AN (v7+1))))
) a0.attrs 0 (a0,[])
) fun (v31,v32)=> AI (τ:=Bool) (fun k33=>
(some (Option.getD (BB v32 14) 0)).bind fun v34=> if (decide (v34<2)) then
(some (Option.getD (BB v32 15) 0)).bind fun v35=> k33 (cond true (decide (v35<2)) false) else k33 false
) fun v36=> some (v36,v31)
def DF (a0:JAH)(a1:List UInt8):Option (Bool×JAH):=
(Gx a1).bind fun (v1,v2,v3)=> if (!v3) then some (false,a0) else
(Gx v2).bind fun (v4,v5,v6)=> if (!v6) then some (false,a0) else
(Ef v4).bind fun (v7,v8)=> AI (τ:=Bool×JAH) (fun k9=> if (v8 != 0) then k9 (true,{ a0 with attrs:=v7 }) else
(C4 ({ a0 with attrs:=v7 })).bind fun (v10,v11)=> k9 ((cond false true (!v10)),v11)
) fun (v12,v13)=> if v12 then some (false,v13) else
(B1 v1 false).bind fun (v14,v15)=>
(B1 v5 false).bind fun (v16,v17)=> AI (τ:=Bool) (fun k18=> if (!v15) then k18 true else if (cond false true (!v17)) then k18 true else if (decide ((v16.length:Int) > 0)) then if (cond false true (cond true (decide ((v13.new6.length:Int) > 0)) false)) then k18 true else if (cond false true (decide ((AN ((v14.length:Int)+(v13.gone6.length:Int))) > 256))) then k18 true else k18 (cond false true (decide ((AN ((v16.length:Int)+(v13.new6.length:Int))) > 256))) else if (cond false true (decide ((AN ((v14.length:Int)+(v13.gone6.length:Int))) > 256))) then k18 true else k18 (cond false true (decide ((AN ((v16.length:Int)+(v13.new6.length:Int))) > 256)))
) fun v19=> if v19 then some (false,{ v13 with gone4:=v14,new4:=v16 }) else
(EG v13.attrs).bind fun (v20,v21)=> some ((v21 != 12),{ v13 with gone4:=v14,new4:=v16 })
def C0 (a0:JAA)(a1:Int):Option (Bool×Int):= some ((a0.Type_==a1),a1)
def Ak (a0:List JAA)(a1c0:Int):Option (Int×Int):= AI (τ:=Int) (fun k1=> Ao (σ:=Int) (fun v2=> k1 v2
) (fun next3 (x4:JAA) i5 v2=>
(C0 x4 v2).bind fun (v6,v7)=> if v6 then some ((i5:Int),v7) else next3 v7
) a0 0 a1c0
) fun v8=> some ((-1),v8)
def Ai (a0:List JAA)(a1c0:Int):Option (Bool×Int):=
(Ak a0 a1c0).bind fun (v1,v2)=> some ((decide (v1 ≥ 0)),v2)
def CY (a0:JAH)(a1:Int):Option (Bool×JAH):=
(Ai a0.attrs a1).bind fun (v1,v2)=> some (v1,a0)
def Ic (a0:List UInt8):Option (Bool×Bool):=
(chk (0<=(4:Int)/\(4:Int)<=4/\(4:Int)<=1048576)).bind fun _=>
(bytes_Equal a0 (List.replicate (Int.toNat 4) (0:UInt8))).bind fun v1=> if v1 then some (true,false) else none
def HN:Option Bool:=
(ES).bind fun v1=>
(D9 (⟨([(⟨(⟨false,(0:UInt64),(167772160:UInt64)⟩:Addr),8⟩:JAE)]:List JAE),v1,[]⟩:JAG)).bind fun (v2,v3)=>
(Ic ([(0:UInt8),(0:UInt8),(0:UInt8),(0:UInt8)]:List UInt8)).bind fun (v4,v5)=> AI (τ:=Bool) (fun k6=> if (v3==0) then if (cond true ((bs v2).toList==(ByteArray.mk (List.toArray (List.cons 0 (List.cons 2 (List.cons 8 (List.cons 10 (List.cons 0 (List.cons 0 List.nil)))))))).toList) false) then if (cond true v4 false) then k6 (cond true (!v5) false) else k6 false else k6 false else k6 false
) fun v7=> some v7
def Az (a0:List (List JAE)):Option (List JAE):= AI (τ:=Int) (fun k1=> Ao (σ:=Int) (fun v2=> k1 v2
) (fun next3 (x4:List JAE) i5 v2=> if (decide ((AN (v2+(x4.length:Int)))<0)) then none else next3 (AN (v2+(x4.length:Int)))
) a0 0 0
) fun v6=> AI (τ:=(List JAE)) (fun k7=> if (decide (v6<0)) then none else AI (τ:=(List JAE)) (fun k8=> if (decide ((AN (v6-(AN (0-0)))) > 0)) then
(chk (0<(AN (v6-(AN (0-0))))/\(AN (v6-(AN (0-0))))<=1048576)).bind fun _=>
(part (List.replicate (Int.toNat (AN (v6-(AN (0-0))))) (⟨(⟨false,(0:UInt64),(0:UInt64)⟩:Addr),0⟩:JAE)) 0 0).bind fun v9=> k8 v9 else k8 []
) fun v10=> k7 v10
) fun v11=> AI (τ:=(List JAE)) (fun k12=> Ao (σ:=(List JAE)) (fun v13=> k12 v13
) (fun next14 (x15:List JAE) i16 v13=>
(apnd (α:=JAE) 32 v13 x15).bind fun v17=> next14 v17
) a0 0 v11
) fun v18=> some v18
def Bw (a0:JAA):Option Bool:= AI (τ:=Bool) (fun k1=> if (a0.Type_==14) then k1 (cond true ((AN ((BitVec.ofInt 64 a0.Flags &&& BitVec.ofInt 64 192).toNat:Int)) != 128) false) else if (cond false true (a0.Type_==15)) then k1 (cond true ((AN ((BitVec.ofInt 64 a0.Flags &&& BitVec.ofInt 64 192).toNat:Int)) != 128) false) else k1 false
) fun v2=> some v2
def Au (a0:List JAA):Option Int:= AI (τ:=Unit) (fun k1=> Ao (σ:=Unit) (fun _=> k1 ()
) (fun next2 (x3:JAA) i4 _=>
(Bw x3).bind fun v5=> if v5 then some (i4:Int) else next2 ()
) a0 0 ()
) fun _=> some (-1)
def Af (a0:List JAA):Option Bool:=
(Au a0).bind fun v1=> some (decide (v1 ≥ 0))
def DL (a0:JAH)(a1:JAC)(a2:Int):Option (Bool×JAH):= AI (τ:=Bool×JAH) (fun k1=> if (a2 != 0) then k1 (true,a0) else
(Af a0.attrs).bind fun v2=> if (cond false true v2) then k1 (true,a0) else
(CY a0 1).bind fun (v3,v4)=> if (cond false true (!v3)) then k1 (true,v4) else
(CY v4 2).bind fun (v5,v6)=> if (cond false true (!v5)) then k1 (true,v6) else if (decide ((v6.new4.length:Int) > 0)) then k1 ((cond false true (cond true (Addr.eqd a1.Next (⟨false,(0:UInt64),(0:UInt64)⟩:Addr)) false)),v6) else k1 (false,v6)
) fun (v7,v8)=> some (v7,v8)
def Fg (a0:List UInt8):Option (JAG×Int):=
(DF (⟨[],(⟨false,(0:UInt64),(0:UInt64)⟩:Addr),[],[],[],[]⟩:JAH) a0).bind fun (v1,v2)=> if (!v1) then some ((⟨[],(⟨0,[],(⟨false,(0:UInt64),(0:UInt64)⟩:Addr),0,0,0,[],[],[]⟩:JAC),[]⟩:JAG),12) else
(Az ([v2.gone4,v2.gone6]:List (List JAE))).bind fun v3=>
(F3).bind fun v4=>
(Az ([v2.new4,v2.new6]:List (List JAE))).bind fun v5=> if ((v5.length:Int)==0) then some ((⟨v3,v4,[]⟩:JAG),0) else
(EG v2.attrs).bind fun (v6,v7)=>
(DL v2 v6 v7).bind fun (v8,v9)=> if v8 then
(apnd (α:=JAE) 32 v3 v5).bind fun v10=> some ((⟨v10,v4,[]⟩:JAG),13) else AI (τ:=JAC) (fun k11=> if (decide ((v9.new6.length:Int) > 0)) then k11 ({ v6 with Next:=v9.next }) else k11 v6
) fun v12=> some ((⟨v3,v12,v5⟩:JAG),0)
def Jj (a0:List Int):Option (List Int):= AI (τ:=(List Int)) (fun k1=> Ao (σ:=(List Int)) (fun v2=> k1 v2
) (fun next3 (x4:Int) i5 v2=> AI (τ:=(List Int)) (fun k6=> AI (τ:=Int) (fun k7=> A6 (σ:=Int) (fun next8 v9=> AI (τ:=Bool) (fun k10=> if (decide (v9<(v2.length:Int))) then
(geti v2 v9).bind fun v11=> k10 (cond true (decide (v11<x4)) false) else k10 false
) fun v12=> if v12 then next8 (AN (v9+1)) else k7 v9
) fuel 0
) fun v13=> AI (τ:=Bool) (fun k14=> if (decide (v13<(v2.length:Int))) then
(geti v2 v13).bind fun v15=> k14 (cond true (v15==x4) false) else k14 false
) fun v16=> if v16 then k6 v2 else
(chk (0<=(0:Int)/\(0:Int)<=v13/\v13<=(v2.length:Int))).bind fun _=>
(apnd (α:=Int) 8 [] (List.take (Int.toNat v13-Int.toNat 0) (List.drop (Int.toNat 0) v2))).bind fun _=>
(apnd (α:=Int) 8 (List.take (Int.toNat v13-Int.toNat 0) (List.drop (Int.toNat 0) v2)) ([x4]:List Int)).bind fun v17=>
(chk (0<=v13/\v13<=(v2.length:Int)/\(v2.length:Int)<=(v2.length:Int))).bind fun _=>
(apnd (α:=Int) 8 v17 (List.take (Int.toNat (v2.length:Int)-Int.toNat v13) (List.drop (Int.toNat v13) v2))).bind fun v18=> k6 v18
) fun v19=> next3 v19
) a0 0 []
) fun v20=> some v20
def EF (a0:List JAE)(a1:List JAE):Option Bool:= if ((a0.length:Int) != (a1.length:Int)) then some false else AI (τ:=Unit) (fun k1=> Ao (σ:=Unit) (fun _=> k1 ()
) (fun next2 (x3:JAE) i4 _=>
(geti a1 (i4:Int)).bind fun v5=> if (!(JAE.eqd v5 x3)) then some false else next2 ()
) a0 0 ()
) fun _=> some true
def Gu (a0:JAG)(a1:JAG):Option Bool:= AI (τ:=Bool) (fun k1=>
(EF a0.Withdraw a1.Withdraw).bind fun v2=> if v2 then
(EF a0.Announce a1.Announce).bind fun v3=> if (cond true v3 false) then
(DJ a0.JAC a1.JAC).bind fun v4=> k1 (cond true v4 false) else k1 false else k1 false
) fun v5=> some v5
def DV (a0:List Int):Option Bool:=
(NE a0).bind fun v1=>
(EN v1).bind fun (v2,v3)=>
(D9 v2).bind fun (v4,v5)=>
(Fg v4).bind fun (v6,v7)=> AI (τ:=(List JAE)) (fun k8=> Ao (σ:=(List JAE)) (fun v9=> k8 v9
) (fun next10 (x11:Bool) i12 v9=> AI (τ:=(List JAE)) (fun k13=> AI (τ:=(List JAE)) (fun k14=> Ao (σ:=(List JAE)) (fun v15=> k14 v15
) (fun next16 (x17:JAE) i18 v15=> AI (τ:=(List JAE)) (fun k19=> if (x17.Addr.V6==x11) then
(apnd (α:=JAE) 32 v15 ([x17]:List JAE)).bind fun v20=> k19 v20 else k19 v15
) fun v21=> next16 v21
) v2.Withdraw 0 v9
) fun v22=> k13 v22
) fun v23=> next10 v23
) ([false,true]:List Bool) 0 []
) fun v24=> AI (τ:=Bool) (fun k25=> if (v5==0) then if (cond true (v7==0) false) then
(Gu v6 ({ v2 with Withdraw:=v24 })).bind fun v26=> if (cond true v26 false) then
(GE v2).bind fun v27=> if (cond true (v27==(AN (19+(v4.length:Int)))) false) then
(HN).bind fun v28=> k25 (cond true v28 false) else k25 false else k25 false else k25 false else k25 false
) fun v29=> some v29
end
end Go.AX.Q19
end
section
namespace Go.AX.Q19
open Go Go.AX Go.Proofs
def keep:FuncId->List Bool:=fun f=>(match Nat.beq f 227 with | true=>[true]|false=>(match Nat.beq f 218 with | true=>[true]|false=>(match Nat.beq f 225 with | true=>[true]|false=>(match Nat.beq f 120 with | true=>[true]|false=>(match Nat.beq f 228 with | true=>[true]|false=>(match Nat.beq f 226 with | true=>[true]|false=>(match Nat.beq f 219 with | true=>[true]|false=>(match Nat.beq f 87 with | true=>[true]|false=>(match Nat.beq f 96 with | true=>[true]|false=>(match Nat.beq f 158 with | true=>[true]|false=>[]))))))))))
def W9:FuncId->Bool:=fun f=>(match Nat.beq f 222 with | true=>true | false=>(match Nat.beq f 220 with | true=>true | false=>(match Nat.beq f 216 with | true=>true | false=>(match Nat.beq f 215 with | true=>true | false=>(match Nat.beq f 214 with | true=>true | false=>(match Nat.beq f 213 with | true=>true | false=>(match Nat.beq f 212 with | true=>true | false=>(match Nat.beq f 211 with | true=>true | false=>(match Nat.beq f 210 with | true=>true | false=>(match Nat.beq f 209 with | true=>true | false=>(match Nat.beq f 208 with | true=>true | false=>(match Nat.beq f 156 with | true=>true | false=>(match Nat.beq f 155 with | true=>true | false=>(match Nat.beq f 134 with | true=>true | false=>(match Nat.beq f 125 with | true=>true | false=>(match Nat.beq f 117 with | true=>true | false=>(match Nat.beq f 112 with | true=>true | false=>(match Nat.beq f 64 with | true=>true | false=>(match Nat.beq f 60 with | true=>true | false=>(match Nat.beq f 17 with | true=>true | false=>false))))))))))))))))))))
def fc:Nat->Option (List (D×D)):=fun g=>(match Nat.beq g 1 with | true=>some ([(D.i 1,D.val (.func (.func 208) #[] #[])),(D.i 2,D.val (.func (.func 209) #[] #[])),(D.i 3,D.val (.func (.func 210) #[] #[])),(D.i 4,D.val (.func (.func 211) #[] #[])),(D.i 5,D.val (.func (.func 213) #[] #[])),(D.i 8,D.val (.func (.func 214) #[] #[])),(D.i 32,D.val (.func (.func 215) #[] #[])),(D.i 35,D.val (.func (.func 216) #[] #[]))])|false=>(match Nat.beq g 0 with | true=>some (Bn D.i D.i Bo)|false=>none))
abbrev Wl (p:Prop):WL:=⟨p,fc⟩
theorem ok {wl:Prop}{f:FuncId}(fn:Func){args:List AV}{objs:List OB}{res:AV}{objs':List OB}
    (hf : Tryz.prog.funcs[f]? = some fn) (hn : (fn.name == "runtime.NumGoroutine") = false) (h : ax (mcx (Wl wl) Tryz.prog tt keep W9 0 objs.length) fn args objs fun r o => r = res ∧ o = objs') : CallsOK (Wl wl) Tryz.prog f args objs res objs' :=
  dJ bN (by kernel_rfl) keep W9 0 hf hn h
theorem okx {wl:Prop}{f:FuncId}(ex:Nat)(fn:Func){args:List AV}{objs:List OB}{res:AV}{objs':List OB}
    (hf : Tryz.prog.funcs[f]? = some fn) (hn : (fn.name == "runtime.NumGoroutine") = false) (h : ax (mcx (Wl wl) Tryz.prog tt keep W9 ex objs.length) fn args objs fun r o => r = res ∧ o = objs') : CallsOK (Wl wl) Tryz.prog f args objs res objs' :=
  dJ bN (by kernel_rfl) keep W9 ex hf hn h
theorem inl {wl:Prop}{f:FuncId}(fn:Func)(np:Nat){args:List AV}{ob:List (Option OB)}{K:AV->List (Option OB)->Prop}
    (hf : Tryz.prog.funcs[f]? = some fn) (hn : (fn.name == "runtime.NumGoroutine") = false) (h : dR (mcx (Wl wl) Tryz.prog tt keep W9 0 np) fn args ob K) : YO (Wl wl) Tryz.prog f args ob K :=
  dZ bN (by kernel_rfl) keep W9 np hf hn h
abbrev X:AV:=.dead
abbrev N:Option OB:=none
def dd:Nat->List AV->List AV
  | 0,l=>l
  | n+1,l=>.dead::dd n l
def nn:Nat->List (Option OB)->List (Option OB)
  | 0,l=>l
  | n+1,l=>none::nn n l
abbrev yb (x:Bool):AV:=.d (D.b x)
abbrev yi (x:Int):AV:=.d (D.i x)
abbrev yu (x:UInt64):AV:=.d (D.u64 x)
abbrev yv (x:UInt8):AV:=.d (D.u8 x)
abbrev ys (x:ByteArray):AV:=.d (D.s x)
theorem sJ {b:Bool}{ρ:Type}{X Y:Option ρ}{r:ρ}{A B:Prop}(h:(if b=true then X else Y)=some r)(h1:X=some r->A)(h2:Y=some r->B):N4 b A B:=dM h1 h2 h
theorem oK {wl:Prop}{f:FuncId}(fn:Func){args:List AV}{objs:List OB}{res:AV}{objs':List OB}(h:ax (mcx (Wl wl) Tryz.prog tt keep W9 0 objs.length) fn args objs fun r o=>r=res∧o=objs')(hf:Tryz.prog.funcs[f]?=some fn:=by kernel_rfl)(hn:(fn.name == "runtime.NumGoroutine")=false:=by kernel_rfl):CallsOK (Wl wl) Tryz.prog f args objs res objs':=ok fn hf hn h
theorem cO {ops:Array Oper}{e:List (List Nat×List Nat)}{K:Prop}(k:K)(h:confB ops e=true:=by kernel_rfl):F9 ops 0 e=true/\K:=cOB h k
theorem dO {ops:Array Oper}{K:Prop}(k:K)(h:drawB ops=true:=by kernel_rfl):Ha ops=true/\K:=dOB h k
abbrev yr (a b:Nat):AV:=.ref a b
abbrev yO {α:Type}(r:Nat)(f:α->D)(l:List α):AV:=.own r (List.map f l).length
abbrev yR {α:Type}(e s:Nat)(f:α->D)(l:List α):Option OB:=some (OB.row e s (List.map f l) .no)
abbrev yB (l:List AV):Option OB:=some (OB.box l)
abbrev y0 (l:List JAD):AV:=.d (D.l 2 JAD.toD l)
abbrev y1 (l:List JAB):AV:=.d (D.l 2 JAB.toD l)
abbrev y2 (l:List JAF):AV:=.d (D.l 3 JAF.toD l)
abbrev y3 (l:List UInt8):AV:=.d (D.l 1 D.u8 l)
abbrev y4 (l:List JAA):AV:=.d (D.l 3 JAA.toD l)
abbrev y5 (l:List JAE):AV:=.d (D.l 4 JAE.toD l)
abbrev y6 (l:List Int):AV:=.d (D.l 1 D.i l)
abbrev yC (wl:Prop):=CallsOK (Wl wl) Tryz.prog
end Go.AX.Q19
end
section
namespace Go.AX.Q19
open Go Go.AX Go.Proofs Go.Proofs.YtbohbnpaadcfmaaGreatDoor
def fy (n:Int):FuncId:=if n=1 then 208 else if n=2 then 209 else if n=3 then 210 else if n=4 then 211 else if n=5 then 213 else if n=8 then 214 else if n=32 then 215 else 216
def D2f {H:Type}:Lit×DataW H->D×D
 | (.int k n,.lit (.int k' m))=>(.val (.int k n),.val (.int k' m))
 | _=>(D.i 0,D.i 0)
def D2r {H:Type}:Lit×DataW H->D×D
 | (.int k n,_)=>(.val (.int k n),.val (.func (.func (fy n)) #[] #[]))
 | _=>(D.i 0,D.i 0)
theorem glob_ok {W:World}{p:Prop}(h:laidMetH Tryz.prog Rows.updateEncodesRow.laid W) :∃gb:Nat->Prop,(Wl p).gf gb W/\∀b,gb b->b<W.heap.size:=by
 obtain⟨h1,_⟩:=laidMetH_iff.1 h
 have e1 : (Rows.updateEncodesRow.laid.filter fun x => x.2.handleName?.isNone) = [("exchangepoint/attribute.flags", Rows.laid_exchangepoint_attribute_flags)] := by kernel_rfl
 rw[e1] at h1
 obtain⟨ps,⟨g0,t0,cs0,f0,p0,q0,hg0,ht0,hv0,hd0,_⟩,_,_⟩:=h1
 obtain rfl := X25 ((show Tryz.prog.globalNamed "exchangepoint/attribute.flags" = some 0 by kernel_rfl).symm.trans hg0)
 obtain rfl:=X25 ((show (Tryz.prog.globals[0]?).map (·.type)=some 176 by kernel_rfl).symm.trans ht0)
 obtain⟨b0,a0,c0,hc0,hb0,hp0,ho0⟩:=WJ (kd:=.i64) Tryz.underlying176 Tryz.underlying3 hd0 D2f (fun n v d m q hm hv hf=>by
  obtain⟨j,h1,h2,_⟩:=DataW.trod_int Tryz.underlying3 hv
  simp only[X26] at h2
  obtain⟨rfl,_⟩:=h2
  have hv:v=.int .i64 j:=by
   unfold Value.formed at hf
   rw[Tryz.underlying3] at hf
   cases v<;>simp_all [Value.cells]
  subst hv
  exact⟨rfl,rfl⟩)
 obtain ⟨g1, t1, cs1, f1, p1, hg1, ht1, hv1, hd1⟩ := h.funcs (n := "exchangepoint/attribute.readers") (X19 _ (X14.2 rfl))
 obtain rfl := X25 ((show Tryz.prog.globalNamed "exchangepoint/attribute.readers" = some 1 by kernel_rfl).symm.trans hg1)
 obtain rfl:=X25 ((show (Tryz.prog.globals[1]?).map (·.type)=some 182 by kernel_rfl).symm.trans ht1)
 have hd1:DataW.trod (funcToken Tryz.prog) Tryz.prog W 0 (fun _=>true) true f1 182 cs1.toList=some (.map [(.int .i64 1,.held [101,120,99,104,97,110,103,101,112,111,105,110,116,47,97,116,116,114,105,98,117,116,101,46,114,101,97,100,79,114,105,103,105,110]),(.int .i64 2,.held [101,120,99,104,97,110,103,101,112,111,105,110,116,47,97,116,116,114,105,98,117,116,101,46,114,101,97,100,80,97,116,104]),(.int .i64 3,.held [101,120,99,104,97,110,103,101,112,111,105,110,116,47,97,116,116,114,105,98,117,116,101,46,114,101,97,100,78,101,120,116]),(.int .i64 4,.held [101,120,99,104,97,110,103,101,112,111,105,110,116,47,97,116,116,114,105,98,117,116,101,46,114,101,97,100,101,114,115,36,49]),(.int .i64 5,.held [101,120,99,104,97,110,103,101,112,111,105,110,116,47,97,116,116,114,105,98,117,116,101,46,114,101,97,100,101,114,115,36,50]),(.int .i64 8,.held [101,120,99,104,97,110,103,101,112,111,105,110,116,47,97,116,116,114,105,98,117,116,101,46,114,101,97,100,67,111,109,109,117,110,105,116,105,101,115]),(.int .i64 32,.held [101,120,99,104,97,110,103,101,112,111,105,110,116,47,97,116,116,114,105,98,117,116,101,46,114,101,97,100,76,97,114,103,101]),(.int .i64 35,.held [101,120,99,104,97,110,103,101,112,111,105,110,116,47,97,116,116,114,105,98,117,116,101,46,114,101,97,100,101,114,115,36,51])],p1):=hd1
 obtain⟨b1,a1,c1,hc1,hb1,hp1,ho1⟩:=WJ (kd:=.i64) Tryz.underlying182 Tryz.underlying3 hd1 D2r (fun n v d m q hm hv hf=>by
  have hv1:v.cells.toList=[v]:=by
   unfold Value.formed at hf
   rw[Tryz.underlying180] at hf
   cases v<;>simp_all [Value.cells]
  rw[hv1] at hv
  simp only[List.mem_cons,List.not_mem_nil,or_false,X26,Lit.int.injEq,true_and] at hm
  rcases hm with ⟨rfl,rfl⟩|⟨rfl,rfl⟩|⟨rfl,rfl⟩|⟨rfl,rfl⟩|⟨rfl,rfl⟩|⟨rfl,rfl⟩|⟨rfl,rfl⟩|⟨rfl,rfl⟩
  ·obtain rfl:=func_of_trod (f0:=208) Tryz.underlying180 (by kernel_rfl) hv
   exact⟨rfl,rfl⟩
  ·obtain rfl:=func_of_trod (f0:=209) Tryz.underlying180 (by kernel_rfl) hv
   exact⟨rfl,rfl⟩
  ·obtain rfl:=func_of_trod (f0:=210) Tryz.underlying180 (by kernel_rfl) hv
   exact⟨rfl,rfl⟩
  ·obtain rfl:=func_of_trod (f0:=211) Tryz.underlying180 (by kernel_rfl) hv
   exact⟨rfl,rfl⟩
  ·obtain rfl:=func_of_trod (f0:=213) Tryz.underlying180 (by kernel_rfl) hv
   exact⟨rfl,rfl⟩
  ·obtain rfl:=func_of_trod (f0:=214) Tryz.underlying180 (by kernel_rfl) hv
   exact⟨rfl,rfl⟩
  ·obtain rfl:=func_of_trod (f0:=215) Tryz.underlying180 (by kernel_rfl) hv
   exact⟨rfl,rfl⟩
  obtain rfl:=func_of_trod (f0:=216) Tryz.underlying180 (by kernel_rfl) hv
  exact⟨rfl,rfl⟩)
 have cell :∀{g:Nat} {n:String} {cs:Array Value} {v:Value},Tryz.prog.globalNamed n=some g->W.var? Tryz.prog n=some cs->cs.toList=[v]->cellAt W g 0=some v/\g<W.heap.size:=by
  intro g n cs v hg hv hc
  have h1:=World.var?_cell hg hv 0
  rw[Array.eq_one_of_toList hc] at h1
  have h1:W.cell? ⟨g,0,none⟩=some v:=by simpa using h1
  refine⟨h1,?_⟩
  unfold World.var? at hv
  rw[hg,Option.bind_some] at hv
  cases hh:W.heap[g]? with
  | none=>rw[hh] at hv;cases hv
  | some o=>exact (Array.getElem?_eq_some_iff.1 hh).1
 obtain⟨k0,s0⟩:=cell hg0 hv0 hc0
 obtain⟨k1,s1⟩:=cell hg1 hv1 hc1
 refine⟨fun b=>b=0\/b=1\/b=b0\/b=b1,fun g es hg=>?_,fun b hb=>?_⟩
 rotate_left
 ·rcases hb with rfl | rfl | rfl | rfl
  ·exact s0
  ·exact s1
  ·exact (Array.getElem?_eq_some_iff.1 hb0).1
  exact (Array.getElem?_eq_some_iff.1 hb1).1
 match g,hg with
 | 0,hg=>
  obtain rfl:Bn D.i D.i Bo=es:=X25 hg
  refine⟨.inl rfl,b0,a0,c0,_,.inr (.inr (.inl rfl)),k0,hb0,fun tk x q hq=>?_,TR ho0⟩
  refine PL (l:=Bn D.i D.i Bo) (hp0.symm) ?_ (by unfold Bo Bn;simp[D.i]) hq
  intro q hq
  obtain⟨z,_,rfl⟩:=List.mem_map.1 hq
  exact⟨_,rfl⟩
 | 1,hg=>
  obtain rfl:=X25 hg
  refine⟨.inr (.inl rfl),b1,a1,c1,_,.inr (.inr (.inr rfl)),k1,hb1,fun tk x q hq=>?_,TR ho1⟩
  refine PL (hp1.symm) ?_ (by simp[D2r]) hq
  intro q hq
  obtain⟨z,hz,rfl⟩:=List.mem_map.1 hq
  simp only[List.mem_cons,List.not_mem_nil,or_false] at hz
  rcases hz with rfl | rfl | rfl | rfl | rfl | rfl | rfl | rfl<;>exact⟨_,rfl⟩
 | g+2,hg=>cases hg
end Go.AX.Q19
end
section
namespace Go.AX
class Tt {ρ:Type} (m:Option ρ):Prop where
 h :∃r,m=some r
def Ok {ρ:Type}(m:Option ρ)(Q:ρ->Prop):Prop:=∃r,m=some r/\Q r
theorem Ok.ret {ρ:Type}{Q:ρ->Prop}{r:ρ}(h:Q r):Ok (some r) Q:=⟨r,rfl,h⟩
theorem Ok.of {ρ:Type}{m:Option ρ}[t:Tt m]:Ok m fun r=>m=some r:=by
 obtain⟨r,h⟩:=t.h
 exact⟨r,h,h⟩
theorem Ok.imp {ρ:Type}{m:Option ρ}{P Q:ρ->Prop}(h:Ok m P)(k :∀r,P r->Q r):Ok m Q:=by
 obtain⟨r,h1,h2⟩:=h
 exact⟨r,h1,k r h2⟩
theorem Ok.tt {ρ:Type}{m:Option ρ}{Q:ρ->Prop}(h:Ok m Q):Tt m:=by
 obtain⟨r,h1,_⟩:=h
 exact⟨r,h1⟩
theorem Ok.bind {α ρ:Type}{m:Option α}{f:α->Option ρ}{P:α->Prop}{Q:ρ->Prop}(h:Ok m P)(k :∀a,P a->Ok (f a) Q):Ok (Option.bind m f) Q:=by
 obtain⟨a,h1,h2⟩:=h
 rw[h1]
 exact k a h2
theorem Ok.join {τ ρ:Type}{m:(τ->Option ρ)->Option ρ}{k:τ->Option ρ}{Q:ρ->Prop}(J:τ->Prop)(h1 :∀k',(∀v,J v->Ok (k' v) Q)->Ok (m k') Q)(h2 :∀v,J v->Ok (k v) Q):Ok (AI m k) Q:=h1 k h2
theorem Ok.forX {α σ ρ:Type}{done:σ->Option ρ}{body:(σ->Option ρ)->α->Nat->σ->Option ρ}{Q:ρ->Prop}{l:List α}{s0:σ}(I:Nat->σ->Prop)(h0:I 0 s0)(hd :∀s,I l.length s->Ok (done s) Q)
  (hs :∀(next:σ->Option ρ) x i s,l[i]?=some x->I i s->(∀s',I (i+1) s'->Ok (next s') Q)->Ok (body next x i s) Q):Ok (Ao done body l 0 s0) Q:=by
 have key :∀(t:List α) (i:Nat) (s:σ),(∃p,l=p++t/\p.length=i)->I i s->Ok (Ao done body t i s) Q:=by
  intro t
  induction t with
  | nil=>intro i s ⟨p,hp,hl⟩ hi;exact hd s (by rw[hp];simpa[hl] using hi)
  | cons x t ih=>
   intro i s ⟨p,hp,hl⟩ hi
   exact hs _ x i s (by rw[hp,<- hl];simp) hi fun s' h'=>ih (i+1) s' ⟨p++[x],by simp[hp],by simp[hl]⟩ h'
 exact key l 0 s0 ⟨[],rfl,rfl⟩ h0
theorem Ok.forI {α σ ρ:Type}{done:σ->Option ρ}{body:(σ->Option ρ)->α->Nat->σ->Option ρ}{Q:ρ->Prop}{l:List α}{s0:σ}(I:Nat->σ->Prop)(h0:I 0 s0)(hd :∀s,I l.length s->Ok (done s) Q)
  (hs :∀(next:σ->Option ρ) x i s,i<l.length->x∈l->I i s->(∀s',I (i+1) s'->Ok (next s') Q)->Ok (body next x i s) Q):Ok (Ao done body l 0 s0) Q:=
 .forX I h0 hd fun n x i s hx=>hs n x i s (X16.1 hx).1 (List.mem_of_getElem? hx)
theorem Ok.for_ {α σ ρ:Type}{done:σ->Option ρ}{body:(σ->Option ρ)->α->Nat->σ->Option ρ}{Q:ρ->Prop}{l:List α}{s0:σ}(hd :∀s,Ok (done s) Q)
  (hs :∀(next:σ->Option ρ) x i s,i<l.length->x∈l->(∀s',Ok (next s') Q)->Ok (body next x i s) Q):Ok (Ao done body l 0 s0) Q:=
 .forI (fun _ _=>True) trivial (fun s _=>hd s) fun n x i s h1 h2 _ h3=>hs n x i s h1 h2 fun s'=>h3 s' trivial
theorem Ok.whileI {σ ρ:Type}{body:(σ->Option ρ)->σ->Option ρ}{n:Nat}{s:σ}{Q:ρ->Prop}(I:σ->Prop)(μ:σ->Nat)(h0:I s)(hm:μ s<n)
  (hs :∀(next:σ->Option ρ) s,I s->(∀s',I s'->μ s'<μ s->Ok (next s') Q)->Ok (body next s) Q):Ok (A6 body n s) Q:=
 Tn I μ Q (fun next s h k=>hs next s h k) n s h0 hm
theorem Ok.ite {ρ:Type}{p:Prop}[Decidable p]{x y:Option ρ}{Q:ρ->Prop}(h1:p->Ok x Q)(h2:¬ p->Ok y Q):Ok (if p then x else y) Q:=by
 split
 ·exact h1 ‹_›
 exact h2 ‹_›
theorem Ok.geti {α:Type}{l:List α}{i:Int}(h:0<=i/\i<l.length):Ok (geti l i) fun x=>x∈l/\geti l i=some x:=by
 have h2:i.toNat<l.length:=by omega
 have h3:Go.AX.geti l i=some l[i.toNat]:=by
  unfold Go.AX.geti
  rw[if_pos h]
  simp[h2]
 exact⟨_,h3,List.getElem_mem h2,h3⟩
theorem Ok.seti {α:Type}{l:List α}{i:Int}{x:α}(h:0<=i/\i<l.length):Ok (seti l i x) fun l'=>l'=l.set i.toNat x/\l'.length=l.length:=by
 refine⟨_,?_,rfl,by simp⟩
 unfold Go.AX.seti
 rw[if_pos h]
theorem Ok.apnd {α:Type}{b:Nat}{l m:List α}(hb:Nat.ble b 65536=true)(h:l.length+m.length<=1000000000):Ok (apnd b l m) fun l'=>l'=l++m:=⟨_,AO hb h,rfl⟩
theorem Ok.part {α:Type}{l:List α}{a b:Int}(h:0<=a/\a<=b/\b<=l.length):Ok (part l a b) fun l'=>l'=(l.drop a.toNat).take (b.toNat-a.toNat)/\(l'.length:Int)=b-a:=by
 refine⟨_,?_,rfl,by simp;omega⟩
 unfold Go.AX.part
 rw[if_pos h]
theorem Ok.chk {p:Prop}[Decidable p](h:p):Ok (chk p) fun _=>True:=by
 refine⟨(),?_,trivial⟩
 unfold Go.AX.chk
 rw[if_pos h]
theorem Tt.auto {ρ:Type}{m:Option ρ} (h:Ok m fun _=>True:=by
  repeat' (first
   | exact Ok.ret trivial
   | assumption
   | (refine Ok.bind Ok.of ?_;intros)
   | (refine Ok.ite ?_ ?_<;>intros)
   | (refine Ok.join (fun _=>True) ?_ ?_<;>intros)
   | (refine Ok.for_ ?_ ?_<;>intros)
   | (refine Ok.bind (Ok.geti ?_) ?_<;>intros)
   | (refine Ok.bind (Ok.chk ?_) ?_<;>intros)
   | exact ‹∀v,True->Ok _ _› _ trivial
   | exact ‹∀v,Ok _ _› _
   | solve_by_elim
   | (constructor<;>first | omega | (simp_all;done)|(simp_all;omega))
   | omega
   | decide)):Tt m:=h.tt
theorem Ok.q {ρ:Type}{m:Option ρ}{Q:ρ->Prop} (h:Ok m Q:=by
  repeat' (first
   | assumption
   | refine Ok.ret ?_
   | exact trivial
   | (refine Ok.bind Ok.of ?_;intros)
   | (refine Ok.ite ?_ ?_<;>intros)
   | (refine Ok.bind (Ok.chk ?_) ?_<;>intros)
   | (refine Ok.bind (Ok.geti ?_) ?_<;>intros)
   | (refine Ok.bind (Ok.seti ?_) ?_<;>intros)
   | (refine Ok.bind (Ok.apnd (by decide) ?_) ?_<;>intros)
   | refine ‹∀v,_->_->Ok _ _› _ ?_ ?_
   | refine ‹∀v,_->Ok _ _› _ ?_
   | exact ‹∀v,Ok _ _› _
   | (refine Ok.join (τ:=Bool) (fun _=>True) ?_ ?_<;>intros)
   | (refine Ok.join (τ:=Unit) (fun _=>True) ?_ ?_<;>intros)
   | omega
   | solve_by_elim
   | (simp_all;done)
   | (simp_all;omega)
   | (simp only[X11,X12,X13,X21,decide_eq_true_eq,beq_iff_eq,bne_iff_ne,Bool.not_eq_true'] at *;(try subst_vars);(try simp only[X11,X12,X13]);omega))):Ok m Q:=h
theorem Ok.pos {ρ:Type}{Q:ρ->Prop}{n:Nat}{g:(Bool->Option ρ)->Int->Option ρ}{k:Int->Option ρ}(hn:n<=1000000000)
  (hg :∀(k':Bool->Option ρ) (v:Int),0<=v->v<=n->(∀c,(c=true->v<n)->Ok (k' c) Q)->Ok (g k' v) Q) (hk :∀v:Int,0<=v->v<=n->Ok (k v) Q) :
  Ok (AI (fun k1=>A6 (fun next v=>AI (fun k2=>g k2 v) (fun c=>if c=true then next (AN (v+1)) else k1 v)) fuel 0) k) Q:=by
 refine .join (fun v:Int=>0<=v/\v<=n) (fun k1 hk1=>?_) fun v hv=>hk v hv.1 hv.2
 refine .whileI (fun v:Int=>0<=v/\v<=n) (fun v=>(n-v).toNat) (by omega) (B2 (by omega)) fun next v hv hnx=>?_
 refine .join (fun c=>c=true->v<n) (fun k2 hk2=>hg k2 v hv.1 hv.2 hk2) fun c hc=>.ite (fun h=>?_) fun _=>hk1 v hv
 have:=hc h
 rw[AP (by omega)]
 exact hnx _ (by omega) (by omega)
end Go.AX
end
section
namespace Go.AX
theorem Z2 {α ρ:Type}{g:α->Bool}{body:(Unit->Option ρ)->α->Nat->Unit->Option ρ}{K:Unit->Option ρ}{r0:Option ρ} :
  ∀{l:List α} {i:Nat},(∀next x i,x∈l->body next x i ()=cond (g x) (next ()) r0)->Ao K body l i ()=cond (l.all g) (K ()) r0
 | [],_,_=>rfl
 | x::t,i,h=>by
  show body (fun s=>Ao K body t (i+1) s) x i ()=_
  rw[h _ x i (by simp),List.all_cons]
  cases g x
  ·rfl
  exact Z2 fun next y j hy=>h next y j (X19 _ hy)
theorem ew {α:Type}{f:α->Option Bool}{q:α->Bool} :∀{l:List α} {i:Nat},(∀x∈l,f x=some (q x))->
  Ao (fun _=>some (-1)) (fun next x i _=>Option.bind (f x) fun v=>if v then some (i:Int) else next ()) l i ()=some (match l.findIdx? q with | some j=>((i+j:Nat):Int)|none=>-1)
 | [],_,_=>rfl
 | x::t,i,h=>by
  show Option.bind (f x) (fun v=>if v then some (i:Int) else Ao (fun _=>some (-1)) _ t (i+1) ())=_
  rw[h x (by simp),AC,List.findIdx?_cons]
  by_cases hq:q x=true
  ·rw[if_pos hq,if_pos hq];simp
  rw[if_neg hq,if_neg hq,ew fun y hy=>h y (X19 _ hy)]
  cases t.findIdx? q with
  | none=>rfl
  | some j=>simp only[Option.map_some];rw[show i+1+j=i+(j+1) by omega]
theorem aO {α:Type}{f:α->Option Bool}{q:α->Bool}{l:List α}(h :∀x∈l,f x=some (q x)) :
  (Option.bind (AI (τ:=Unit) (fun k1=>Ao (fun _=>k1 ()) (fun next x i _=>Option.bind (f x) fun v=>if v then some (i:Int) else next ()) l 0 ()) fun _=>some (-1)) fun v1=>some (decide (v1 ≥ 0)))=some (l.any q):=by
 rw[AH,ew h,AC]
 congr 1
 cases hf:l.findIdx? q with
 | none=>
  have:l.any q=false:=by
   rw[List.findIdx?_eq_none_iff] at hf
   simp only[List.any_eq_false]
   intro x hx
   simp[hf x hx]
  rw[this];rfl
 | some j=>
  have h1:=List.findIdx?_eq_some_iff_getElem.1 hf
  obtain⟨hj,hq,_⟩:=h1
  have:l.any q=true:=List.any_eq_true.2 ⟨_,List.getElem_mem hj,hq⟩
  rw[this]
  simp
theorem Uj {a b:ByteArray}(h:(a==b)=true):a=b:=(Go.MapKept.bytes_beq a b).1 h
theorem eP {a:ByteArray}:(a==a)=true:=(Go.MapKept.bytes_beq a a).2 rfl
instance:LawfulBEq ByteArray:={ eq_of_beq:=Uj,rfl:=eP }
section
variable {K V:Type} [BEq K] [LawfulBEq K]
theorem mget_mset (l:List (K×V))(k:K)(v:V)(k':K):BB (Cc l k v) k'=if k'==k then some v else BB l k':=by
 induction l with
 | nil=>
  unfold Cc
  simp only[BB]
 | cons p l ih=>
  unfold Cc
  by_cases hp:(k==p.1)=true
  ·rw[if_pos hp]
   have:=eq_of_beq hp
   simp only[BB]
   by_cases hk:(k'==k)=true
   ·rw[if_pos hk,if_pos hk]
   rw[if_neg hk,if_neg hk,if_neg (by rw[<- this];exact hk)]
  rw[if_neg hp]
  simp only[BB,ih]
  by_cases hk:(k'==k)=true
  ·have:=eq_of_beq hk
   subst this
   rw[if_neg hp,if_pos hk,if_pos hk]
  rw[if_neg hk,if_neg hk]
end
theorem G1 {α:Type}(p:α->Bool)(l:List α):(l.takeWhile p).length<=l.length:=(List.takeWhile_prefix p).length_le
theorem M5 {α:Type}{p:α->Bool} :∀{l:List α} {k:Nat} (hk:k<l.length),k<=(l.takeWhile p).length->(k<(l.takeWhile p).length↔p l[k]=true)
 | [],_,hk,_=>by simp at hk
 | x::t,k,hk,h=>by
  rw[List.takeWhile_cons] at h ⊢
  by_cases hp:p x=true
  ·rw[if_pos hp] at h ⊢
   cases k with
   | zero=>simp[hp]
   | succ k=>simpa using M5 (p:=p) (l:=t) (k:=k) (by simpa using hk) (by simpa using h)
  rw[if_neg hp] at h ⊢
  have:k=0:=by simpa using h
  subst this
  simp[hp]
theorem cj {α ρ:Type}{l:List α}{p:α->Bool}(g:α->(Bool->Option ρ)->Option ρ){K:Int->Option ρ}(hl:l.length<=1000000000000)(hg :∀x∈l,∀k,g x k=k (p x)) :
  AI (fun k1=>A6 (fun next v=>AI (fun k2=>if decide (v<(l.length:Int)) then Option.bind (geti l v) fun x=>g x k2 else k2 false) (fun c=>if c=true then next (AN (v+1)) else k1 v)) fuel 0) K=K ((l.takeWhile p).length:Int):=by
 have ht:=G1 p l
 rw[AH,DW (fun v:Int=>0<=v/\v<=((l.takeWhile p).length:Int)) (fun v=>(l.length-v).toNat) (fun _=>K ((l.takeWhile p).length:Int)) ?_ fuel 0 (by omega) (B2 (by omega))]
 intro next v hv hn
 obtain⟨k,rfl⟩ :∃k:Nat,v=k:=⟨v.toNat,by omega⟩
 rw[AH]
 by_cases hk:k<l.length
 ·rw[if_pos (by simpa using hk),C7 hk,AC,hg _ (List.getElem_mem hk)]
  have h:=M5 (p:=p) hk (by omega)
  by_cases hp:p l[k]=true
  ·rw[if_pos hp,AP (by omega)]
   have:=h.2 hp
   exact hn _ (by omega) (by omega)
  rw[if_neg hp]
  have:¬ k<(l.takeWhile p).length:=fun q=>hp (h.1 q)
  have:k=(l.takeWhile p).length:=by omega
  rw[this]
 rw[if_neg (by simpa using hk)]
 have:k=(l.takeWhile p).length:=by omega
 subst this
 rfl
theorem UB {α:Type}[DecidableEq α] :∀{l m:List α},l.Nodup->(∀x∈l,x∈m)->l.length<=m.length
 | [],_,_,_=>Nat.zero_le _
 | x::t,m,h,hs=>by
  obtain⟨h1,h2⟩:=List.nodup_cons.1 h
  have hx:=hs x (by simp)
  have:=UB (m:=m.erase x) h2 fun y hy=>(List.mem_erase_of_ne (fun e=>h1 (by rw[<- e];exact hy))).2 (hs y (X19 _ hy))
  rw[List.length_erase_of_mem hx] at this
  have:0<m.length:=List.length_pos_of_mem hx
  simp only[X12]
  omega
theorem JZ {α:Type}{lt:α->α->Prop}(hirr :∀a,¬ lt a a)(htr :∀a b c,lt a b->lt b c->lt a c) :∀{l m:List α},l.Pairwise lt->m.Pairwise lt->(∀x,x∈l↔x∈m)->l=m
 | [],[],_,_,_=>rfl
 | [],y::m,_,_,h=>by have:=(h y).2 (by simp);simp at this
 | x::l,[],_,_,h=>by have:=(h x).1 (by simp);simp at this
 | x::l,y::m,h1,h2,h=>by
  obtain⟨a1,a2⟩:=List.pairwise_cons.1 h1
  obtain⟨b1,b2⟩:=List.pairwise_cons.1 h2
  have hxy:x=y:=by
   rcases List.mem_cons.1 ((h x).1 (by simp)) with e | e
   ·exact e
   rcases List.mem_cons.1 ((h y).2 (by simp)) with e' | e'
   ·exact e'.symm
   exact absurd (htr _ _ _ (a1 y e') (b1 x e)) (hirr x)
  subst hxy
  congr 1
  refine JZ hirr htr a2 b2 fun z=>?_
  constructor
  ·intro hz
   rcases List.mem_cons.1 ((h z).1 (X19 _ hz)) with e | e
   ·subst e;exact absurd (a1 z hz) (hirr z)
   exact e
  intro hz
  rcases List.mem_cons.1 ((h z).2 (X19 _ hz)) with e | e
  ·subst e;exact absurd (b1 z hz) (hirr z)
  exact e
def Ff {α:Type}(lt:α->α->Bool)(l:List α)(x:α):List α:=l.takeWhile (lt · x)++x::l.dropWhile (lt · x)
theorem D4 {α:Type}{lt:α->α->Bool}{l:List α}{x y:α}:y∈Ff lt l x↔y∈l\/y=x:=by
 unfold Ff
 have:y∈l↔y∈l.takeWhile (lt · x)\/y∈l.dropWhile (lt · x):=by
  rw[<- X23,List.takeWhile_append_dropWhile]
 rw[this,X23,List.mem_cons]
 constructor
 ·rintro (h | h | h)
  ·exact .inl (.inl h)
  ·exact .inr h
  exact .inl (.inr h)
 rintro ((h | h)|h)
 ·exact .inl h
 ·exact .inr (.inr h)
 exact .inr (.inl h)
theorem HG {α:Type}(lt:α->α->Bool)(l:List α)(x:α):(Ff lt l x).length=l.length+1:=by
 unfold Ff
 have:=congrArg List.length (List.takeWhile_append_dropWhile (p:=(lt · x)) (l:=l))
 simp only[X11,X12] at this ⊢
 omega
theorem Ig {α:Type}(p:α->Bool){l:List α}{x:α}(h:x∈l.takeWhile p):p x=true:=by
 induction l with
 | nil=>simp at h
 | cons y t ih=>
  rw[List.takeWhile_cons] at h
  split at h
  ·rcases List.mem_cons.1 h with rfl | h
   ·assumption
   exact ih h
  simp at h
theorem IY {α:Type}{lt:α->α->Bool}(htr :∀a b c,lt a b=true->lt b c=true->lt a c=true)(htot :∀a b,lt a b=false->a=b\/lt b a=true){l:List α}{x:α}(h:l.Pairwise fun a b=>lt a b=true)(hx:x∉l) :
  (Ff lt l x).Pairwise fun a b=>lt a b=true:=by
 have h0:=h
 rw[<- List.takeWhile_append_dropWhile (p:=(lt · x)) (l:=l),List.pairwise_append] at h
 obtain⟨h1,h2,h3⟩:=h
 have hd :∀b∈l.dropWhile (lt · x),lt x b=true:=by
  cases hl:l.dropWhile (lt · x) with
  | nil=>intro b hb;simp at hb
  | cons y t=>
   have hy:lt y x=false:=by
    have:=List.head?_dropWhile_not (lt · x) l
    rw[hl] at this
    simpa using this
   have hyl:y∈l:=by
    have:y∈l.dropWhile (lt · x):=by rw[hl];simp
    exact List.dropWhile_subset _ this
   have hxy:lt x y=true:=by
    rcases htot _ _ hy with e | e
    ·subst e;exact absurd hyl hx
    exact e
   rw[hl] at h2
   intro b hb
   rcases List.mem_cons.1 hb with rfl | hb
   ·exact hxy
   exact htr _ _ _ hxy ((List.pairwise_cons.1 h2).1 b hb)
 unfold Ff
 rw[List.pairwise_append]
 refine⟨h1,List.pairwise_cons.2 ⟨hd,h2⟩,fun a ha b hb=>?_⟩
 rcases List.mem_cons.1 hb with e | hb
 ·rw[e];exact Ig (lt · x) ha
 exact h3 a ha b hb
theorem takeWhile_take {α:Type}(p:α->Bool)(l:List α):l.take (l.takeWhile p).length=l.takeWhile p/\l.drop (l.takeWhile p).length=l.dropWhile p:=by
 have h:=List.takeWhile_append_dropWhile (p:=p) (l:=l)
 constructor
 ·conv=>lhs;arg 2;rw[<- h]
  rw[List.take_left']
  rfl
 conv=>lhs;arg 2;rw[<- h]
 rw[List.drop_left']
 rfl
end Go.AX
end
section
namespace Go.AX
def ZY (a b:Int):Int:=if a<b then -1 else if b<a then 1 else 0
def orI:List Int->Int
 | []=>0
 | x::t=>if x=0 then orI t else x
def Fb:List Int->List Int->Int
 | x::s,y::t=>if x<y then -1 else if y<x then 1 else Fb s t
 | _,_=>0
theorem Vz (x:Int)(t:List Int):orI (x::t)=if x=0 then orI t else x:=rfl
theorem NL (x y:Int)(t:List Int):orI (ZY x y::t)=if x<y then -1 else if y<x then 1 else orI t:=by
 rw[Vz]
 unfold ZY
 split
 ·rfl
 split<;>simp
theorem To (x y:Int)(s t:List Int):Fb (x::s) (y::t)=if x<y then -1 else if y<x then 1 else Fb s t:=rfl
theorem ae:Fb [] []=0:=rfl
theorem TG :∀a:List Int,Fb a a=0
 | []=>rfl
 | x::t=>by unfold Fb;simp[TG t]
theorem T9 :∀{a b:List Int},a.length=b.length->Fb a b=0->a=b
 | [],[],_,_=>rfl
 | [],_::_,h,_=>by simp at h
 | _::_,[],h,_=>by simp at h
 | x::s,y::t,h,e=>by
  unfold Fb at e
  split at e
  ·simp at e
  split at e
  ·simp at e
  rw[T9 (by simpa using h) e,show x=y by omega]
theorem VJ :∀a b:List Int,Fb b a=- Fb a b
 | [],[]=>rfl
 | [],_::_=>rfl
 | _::_,[]=>rfl
 | x::s,y::t=>by
  unfold Fb
  have:=VJ s t
  split<;>split<;>first | omega | (split<;>omega)
theorem YA :∀{a b c:List Int},a.length=b.length->b.length=c.length->Fb a b<0->Fb b c<0->Fb a c<0
 | [],_,_,_,_,h,_=>by simp[Fb] at h
 | _::_,[],_,h,_,_,_=>by simp at h
 | _::_,_::_,[],_,h,_,_=>by simp at h
 | x::s,y::t,z::u,h1,h2,h3,h4=>by
  have ih:=@YA s t u (by simpa using h1) (by simpa using h2)
  unfold Fb at h3 h4 ⊢
  by_cases a1:x<y
  ·by_cases a2:y<z
   ·rw[if_pos (by omega)];omega
   rw[if_neg a2] at h4
   by_cases a3:z<y
   ·rw[if_pos a3] at h4;omega
   rw[if_pos (by omega)];omega
  rw[if_neg a1] at h3
  by_cases a4:y<x
  ·rw[if_pos a4] at h3;omega
  rw[if_neg a4] at h3
  have:x=y:=by omega
  subst this
  by_cases a2:x<z
  ·rw[if_pos a2];omega
  rw[if_neg a2] at h4 ⊢
  by_cases a3:z<x
  ·rw[if_pos a3] at h4;omega
  rw[if_neg a3] at h4 ⊢
  exact ih h3 h4
section
variable {X:Type} {key:X->List Int}
def ltK (key:X->List Int)(a b:X):Bool:=decide (Fb (key a) (key b)<0)
theorem N3 (a:X):ltK key a a=false:=by unfold ltK;rw[TG];rfl
theorem OL (hl :∀a b:X,(key a).length=(key b).length)(a b c:X)(h1:ltK key a b=true)(h2:ltK key b c=true):ltK key a c=true:=by
 unfold ltK at *
 simp only[decide_eq_true_eq] at *
 exact YA (hl _ _) (hl _ _) h1 h2
theorem Nu (hl :∀a b:X,(key a).length=(key b).length)(a b:X)(h:ltK key a b=false):key a=key b\/ltK key b a=true:=by
 unfold ltK at *
 simp only[decide_eq_false_iff_not,decide_eq_true_eq] at *
 have:=VJ (key a) (key b)
 by_cases h0:Fb (key a) (key b)=0
 ·exact .inl (T9 (hl _ _) h0)
 exact .inr (by omega)
theorem WA (hl :∀a b:X,(key a).length=(key b).length)(a b:X)(h:ltK key a b=true):ltK key b a=false:=by
 cases h1:ltK key b a
 ·rfl
 have:=OL hl _ _ _ h h1
 rw[N3] at this;simp at this
theorem bk (hl :∀a b:X,(key a).length=(key b).length)(a b c:X)(h1:ltK key a b=false)(h2:ltK key b c=false):ltK key a c=false:=by
 rcases Nu hl _ _ h1 with e | h1
 ·unfold ltK at *;rw[e];exact h2
 rcases Nu hl _ _ h2 with e | h2
 ·refine WA hl _ _ ?_
  unfold ltK at *;rw[<- e];exact h1
 exact WA hl _ _ (OL hl _ _ _ h2 h1)
variable {cmp:X->X->Option Int}
theorem YN (hc :∀a b,cmp a b=some (Fb (key a) (key b)))(a b:X):ltC cmp a b=ltK key a b:=by unfold ltC;rw[hc];rfl
theorem ND (hl :∀a b:X,(key a).length=(key b).length)(hc :∀a b,cmp a b=some (Fb (key a) (key b))){l:List X}(hn:l.length<=1000000000) :
  Ok (EO cmp l) fun r=>r.Perm l/\r.Pairwise fun a b=>ltK key b a=false:=by
 obtain⟨r,hr⟩:=W1 (cmp:=cmp) (l:=l) (bX (fun a _ b _=>⟨_,hc a b⟩) (fun a _=>by rw[YN hc,N3])
  (fun a _ b _ c _ h1 h2=>by rw[YN hc] at *;exact OL hl _ _ _ h1 h2) (fun a _ b _ c _ h1 h2=>by rw[YN hc] at *;exact bk hl _ _ _ h1 h2) hn)
 obtain⟨h1,h2⟩:=MK hr
 exact⟨r,hr,h1,h2.imp fun h=>by rw[YN hc] at h;exact h⟩
theorem OU {l:List X}(hl :∀a b:X,(key a).length=(key b).length)(h1:l.Pairwise fun a b=>ltK key b a=false)(h2:l.Pairwise fun a b=>key a≠key b):l.Pairwise fun a b=>ltK key a b=true:=
 (h1.and h2).imp fun {a b} h=>(Nu hl b a h.1).resolve_left fun e=>h.2 e.symm
theorem QH (hl :∀a b:X,(key a).length=(key b).length){l m:List X}(h1:l.Pairwise fun a b=>ltK key a b=true)(h2:m.Pairwise fun a b=>ltK key a b=true)(h :∀x,x∈l↔x∈m):l=m:=
 JZ (lt:=fun a b=>ltK key a b=true) (fun a h=>by rw[N3] at h;simp at h) (fun a b c=>OL hl a b c) h1 h2 h
end
theorem Zd {α:Type}{lt:α->α->Bool}(htr :∀a b c,lt a b=true->lt b c=true->lt a c=true)(hirr :∀a,lt a a=false){l:List α}{x:α}(hs:l.Pairwise fun a b=>lt a b=true) :
  x∈l↔l[(l.takeWhile (lt · x)).length]?=some x:=by
 constructor
 ·intro hx
  rw[<- List.takeWhile_append_dropWhile (p:=(lt · x)) (l:=l),X23] at hx
  rcases hx with hx | hx
  ·have:=Ig (lt · x) hx
   rw[hirr] at this
   simp at this
  have h2:=(takeWhile_take (lt · x) l).2
  cases hd:l.dropWhile (lt · x) with
  | nil=>rw[hd] at hx;simp at hx
  | cons y t=>
   have hy:lt y x=false:=by
    have:=List.head?_dropWhile_not (lt · x) l
    rw[hd] at this
    simpa using this
   have hp:(y::t).Pairwise fun a b=>lt a b=true:=by
    rw[<- hd]
    exact hs.sublist (List.dropWhile_sublist _)
   rw[hd] at hx
   have hxy:x=y:=by
    rcases List.mem_cons.1 hx with e | e
    ·exact e
    have:=(List.pairwise_cons.1 hp).1 x e
    rw[hy] at this;simp at this
   have h3:(l.drop (l.takeWhile (lt · x)).length)[0]?=some x:=by rw[h2,hd,hxy];rfl
   rw[List.getElem?_drop] at h3
   simpa using h3
 intro h
 exact List.mem_of_getElem? h
def KW {α:Type}(e:α->α->Bool)(z:α)(a0:List α):Option (List α):=
 if (decide ((a0.length:Int)<2)) then
  some a0
 else
  AI (τ:=Unit) (fun k1=>
   A6 (σ:=Int) (fun next2 v3=>
    if (decide (v3<(a0.length:Int))) then
     AI (τ:=Unit) (fun k4=>
      Option.bind (geti a0 v3) fun v5=>
      Option.bind (geti a0 (AN (v3-1))) fun v6=>
      if (e v5 v6) then
       Option.bind (chk (0<=v3/\v3<=(a0.length:Int)/\(a0.length:Int)<=(a0.length:Int))) fun _=>
       AI (τ:=Int×(List α)) (fun k7=>
        A6 (σ:=Int×Int×(List α)) (fun next8 (v9,v10,v11)=>
         if (decide (v10<(((Int.toNat (a0.length:Int)-Int.toNat v3):Nat):Int))) then
          Option.bind (geti (List.take (Int.toNat (a0.length:Int)-Int.toNat v3) (List.drop (Int.toNat v3) v11)) v10) fun v12=>
          Option.bind (geti (List.take (Int.toNat (a0.length:Int)-Int.toNat v3) (List.drop (Int.toNat v3) v11)) (AN (v10-1))) fun v13=>
          AI (τ:=Int×(List α)) (fun k14=>
           if (!(e v12 v13)) then
            Option.bind (geti (List.take (Int.toNat (a0.length:Int)-Int.toNat v3) (List.drop (Int.toNat v3) v11)) v10) fun v15=>
            Option.bind (geti v11 v9) fun v16=>
            Option.bind (seti v11 v9 v15) fun v17=>
            k14 ((AN (v9+1)),v17)
           else
            k14 (v9,v11)
          ) fun (v18,v19)=>
          next8 (v18,(AN (v10+1)),v19)
         else
          k7 (v9,v11)
        ) fuel (v3,1,a0)
       ) fun (v20,v21)=>
       Option.bind (chk (0<=v20/\v20<=(v21.length:Int)/\(v21.length:Int)<=(v21.length:Int))) fun _=>
       Option.bind (part (List.take (Int.toNat v20) v21++List.replicate (Int.toNat (v21.length:Int)-Int.toNat v20) z++List.drop ((Int.toNat v20)+(Int.toNat (v21.length:Int)-Int.toNat v20)) v21) 0 v20) fun v22=>
       some v22
      else
       k4 ()
     ) fun _=>
     next2 (AN (v3+1))
    else
     k1 ()
   ) fuel 1
  ) fun _=>
  some a0
theorem ba {α:Type}{l:List α}{i:Int}{x:α}(h0:0<=i)(h:l[i.toNat]?=some x):geti l i=some x:=by
 have:=(X16.1 h).1
 unfold geti
 rw[if_pos (by omega),h]
theorem V2 {α:Type}{l:List α}{i:Nat}{x:α}(h:i<l.length):(l.set i x).take (i+1)=l.take i++[x]:=by
 rw[List.take_add_one,List.take_set_of_le (Nat.le_refl _),List.getElem?_set_self h]
 rfl
section
variable {α:Type} {lt:α->α->Bool} (hirr :∀a,lt a a=false) (htr :∀a b c,lt a b=true->lt b c=true->lt a c=true) (htot :∀a b,lt a b=false->a=b\/lt b a=true)
include htr htot
theorem bM {p q:List α}{y z:α}(hp:p.Pairwise fun a b=>lt a b=true)(hm :∀x,x∈p↔x∈q)(hq :∀x∈q,lt z x=false)(hyz:lt y z=false)(hne:y≠z) :
  (p++[y]).Pairwise (fun a b=>lt a b=true)/\∀x,x∈p++[y]↔x∈q++[y]:=by
 refine⟨List.pairwise_append.2 ⟨hp,by simp,fun x hx w hw=>?_⟩,fun x=>by rw[X23,X23,hm]⟩
 rw[X14] at hw
 subst hw
 have h1:=hq x ((hm x).1 hx)
 have h2:lt z w=true:=(htot _ _ hyz).resolve_left hne
 rcases htot _ _ h1 with e | e
 ·rw[<- e];exact h2
 exact htr _ _ _ e h2
include hirr
theorem Ky {e:α->α->Bool}{zz:α}(he :∀a b,e a b=true↔a=b){l:List α}(hs:l.Pairwise fun a b=>lt b a=false)(hl:l.length<=1000000000) :
  Ok (KW e zz l) fun c=>c.Pairwise (fun a b=>lt a b=true)/\(∀x,x∈c↔x∈l):=by
 have hprev :∀(k:Nat) (z:α),l[k]?=some z->∀x∈l.take (k+1),lt z x=false:=by
  intro k z hk x hx
  obtain⟨i,hi,rfl⟩:=List.mem_iff_getElem.1 hx
  rw[X18] at hi
  obtain⟨hk1,rfl⟩:=X16.1 hk
  rw[List.getElem_take]
  by_cases e:i=k
  ·subst e;exact hirr _
  exact List.pairwise_iff_getElem.1 hs i k (by omega) hk1 (by omega)
 have hnext :∀(k:Nat) (z y:α),l[k]?=some z->l[k+1]?=some y->lt y z=false:=by
  intro k z y hk hy
  obtain⟨hk1,rfl⟩:=X16.1 hk
  obtain⟨hk2,rfl⟩:=X16.1 hy
  exact List.pairwise_iff_getElem.1 hs k (k+1) hk1 hk2 (by omega)
 have htk :∀(k:Nat) (y:α),l[k]?=some y->l.take (k+1)=l.take k++[y]:=by
  intro k y hk
  rw[List.take_add_one,hk];rfl
 have hmem :∀(k:Nat) (z:α),l[k]?=some z->z∈l.take (k+1):=by
  intro k z hk;rw[htk k z hk];simp
 unfold KW
 refine .ite (fun h=>?_) fun h=>?_
 ·simp only[decide_eq_true_eq] at h
  refine .ret ⟨?_,fun _=>Iff.rfl⟩
  match l,h with
  | [],_=>exact .nil
  | [x],_=>simp
  | x::y::t,h=>simp at h;omega
 simp only[decide_eq_true_eq] at h
 refine .join (fun _=>l.Pairwise fun a b=>lt a b=true) (fun k1 hk1=>?_) fun _ h=>.ret ⟨h,fun _=>Iff.rfl⟩
 refine .whileI (fun v:Int=>1<=v/\v<=l.length/\(l.take v.toNat).Pairwise fun a b=>lt a b=true) (fun v=>(l.length-v).toNat) ⟨by omega,by omega,?_⟩ (B2 (by omega)) fun next v hv hnx=>?_
 ·match l,h with
  | x::t,_=>simp
  | [],h=>simp at h
 obtain⟨v1,v2,v3⟩:=hv
 refine .ite (fun hlt=>?_) fun hge=>?_
 rotate_left
 ·simp only[decide_eq_true_eq] at hge
  refine hk1 () ?_
  have:v.toNat=l.length:=by omega
  rw[this,List.take_length] at v3
  exact v3
 simp only[decide_eq_true_eq] at hlt
 obtain⟨n,rfl⟩ :∃n:Nat,v=((n+1:Nat):Int):=⟨(v-1).toNat,by omega⟩
 have hn:n+1<l.length:=by omega
 have gy:l[n+1]?=some l[n+1]:=X15 hn
 have gz:l[n]?=some l[n]:=X15 (by omega)
 have e1:geti l ((n+1:Nat):Int)=some l[n+1]:=C7 hn
 have e2:geti l (AN (((n+1:Nat):Int)-1))=some l[n]:=by
  rw[AP (by omega),show ((n+1:Nat):Int)-1=(n:Int) by omega]
  exact C7 (by omega)
 refine .join (fun _=>l[n+1]≠l[n]) (fun k4 hk4=>?_) fun _ hne=>?_
 rotate_left
 ·rw[AP (by omega)]
  refine hnx _ ⟨by omega,by omega,?_⟩ (by omega)
  have:=(bM htr htot (p:=l.take (n+1)) (q:=l.take (n+1)) v3 (fun _=>Iff.rfl) (hprev n _ gz) (hnext n _ _ gz gy) hne).1
  rw[<- htk _ _ gy] at this
  have e:(((n+1:Nat):Int)+1).toNat=n+1+1:=by omega
  rw[e];exact this
 rw[e1,AC,e2,AC]
 refine .ite (fun heq=>?_) fun hne=>hk4 _ fun e=>hne ((he _ _).2 e)
 have heq:=(he _ _).1 heq
 refine .bind (Ok.chk (by omega)) fun _ _=>?_
 refine .join (fun p:Int×List α=>0<=p.1/\p.1<=l.length/\p.2.length=l.length/\(p.2.take p.1.toNat).Pairwise (fun a b=>lt a b=true)/\∀x,x∈p.2.take p.1.toNat↔x∈l) (fun k7 hk7=>?_) ?_
 ·refine .whileI (fun p:Int×Int×List α=>0<=p.1/\1<=p.2.1/\p.1<=(n+1:Nat)+p.2.1-1/\(n+1:Nat)+p.2.1<=l.length/\p.2.2.length=l.length/\(∀j:Nat,p.1<=j->p.2.2[j]?=l[j]?)/\
    (p.2.2.take p.1.toNat).Pairwise (fun a b=>lt a b=true)/\∀x,x∈p.2.2.take p.1.toNat↔x∈l.take ((n+1:Nat)+p.2.1).toNat) (fun p=>(l.length-p.2.1).toNat) ⟨by dsimp only;omega,by dsimp only;omega,by dsimp only;omega,by dsimp only;omega,rfl,fun _ _=>rfl,v3,fun x=>?_⟩ (B2 (by dsimp only;omega)) ?_
  ·dsimp only
   have e:(((n+1:Nat):Int)+1).toNat=n+1+1:=by omega
   rw[e,htk _ _ gy,Int.toNat_natCast]
   constructor
   ·exact fun h=>List.mem_append_left _ h
   intro h
   rcases X23.1 h with h | h
   ·exact h
   rw[X14] at h
   rw[h,heq];exact hmem n _ gz
  rintro next ⟨i,k,a⟩ ⟨q1,q2,q3,q4,q5,q6,q7,q8⟩ hnx2
  dsimp only at q1 q2 q3 q4 q5 q6 q7 q8 ⊢
  refine .ite (fun hk=>?_) fun hk=>?_
  rotate_left
  ·simp only[decide_eq_true_eq] at hk
   refine hk7 (i,a) ⟨q1,by dsimp only;omega,q5,q7,fun x=>?_⟩
   dsimp only
   rw[q8 x,show ((n+1:Nat)+k).toNat=l.length by omega,List.take_length]
  simp only[decide_eq_true_eq] at hk
  obtain⟨m,rfl⟩ :∃m:Nat,k=((m+1:Nat):Int):=⟨(k-1).toNat,by omega⟩
  have hml:n+1+(m+1)<l.length:=by omega
  have gy2:l[n+1+(m+1)]?=some l[n+1+(m+1)]:=X15 hml
  have gz2:l[n+1+m]?=some l[n+1+m]:=X15 (by omega)
  have ge :∀j:Nat,n+1+j<l.length->i<=((n+1+j:Nat):Int)->∀y,l[n+1+j]?=some y->geti (List.take (Int.toNat (l.length:Int)-Int.toNat ((n+1:Nat):Int)) (List.drop (Int.toNat ((n+1:Nat):Int)) a)) (j:Int)=some y:=by
   intro j hj hij y hy
   refine ba (by omega) ?_
   rw[Int.toNat_natCast,Int.toNat_natCast,Int.toNat_natCast,List.getElem?_take_of_lt (by omega),List.getElem?_drop,q6 _ hij]
   exact hy
  have r1:=ge (m+1) hml (by omega) _ gy2
  have r2:=ge m (by omega) (by omega) _ gz2
  rw[r1,AC,AP (x:=((m+1:Nat):Int)-1) (by omega),show ((m+1:Nat):Int)-1=(m:Int) by omega,r2,AC]
  refine .join (fun p:Int×List α=>0<=p.1/\p.1<=(n+1:Nat)+((m+1:Nat):Int)/\p.2.length=l.length/\(∀j:Nat,p.1<=j->p.2[j]?=l[j]?)/\
    (p.2.take p.1.toNat).Pairwise (fun a b=>lt a b=true)/\∀x,x∈p.2.take p.1.toNat↔x∈l.take (n+1+(m+1)+1)) (fun k14 hk14=>?_) ?_
  ·have et:((n+1:Nat)+((m+1:Nat):Int)).toNat=n+1+(m+1):=by omega
   rw[et] at q8
   refine .ite (fun hne=>?_) fun heq2=>?_
   ·have hne:l[n+1+(m+1)]≠l[n+1+m]:=fun e=>by rw[(he _ _).2 e] at hne;simp at hne
    rw[AC]
    have hia:i.toNat<a.length:=by omega
    refine .bind (Ok.geti (by omega)) fun _ _=>.bind (Ok.seti (by omega)) fun a' ha'=>hk14 _ ?_
    rw[AP (by omega)]
    have ei:(i+1).toNat=i.toNat+1:=by omega
    have hc:=bM htr htot (y:=l[n+1+(m+1)]) (z:=l[n+1+m]) q7 q8 (by rw[show n+1+(m+1)=n+1+m+1 by omega];exact hprev _ _ gz2) (hnext _ _ _ gz2 gy2) hne
    refine⟨by dsimp only;omega,by dsimp only;omega,ha'.2.trans q5,fun j hj=>?_,?_,?_⟩
    ·dsimp only at hj ⊢
     rw[ha'.1,List.getElem?_set_ne (by omega)]
     exact q6 j (by omega)
    ·dsimp only
     rw[ei,ha'.1,V2 hia]
     exact hc.1
    dsimp only
    rw[ei,ha'.1,V2 hia,htk _ _ gy2]
    exact hc.2
   have heq2:l[n+1+(m+1)]=l[n+1+m]:=by
    refine (he _ _).1 ?_
    cases h:e l[n+1+(m+1)] l[n+1+m]
    ·rw[h] at heq2;simp at heq2
    rfl
   refine hk14 _ ⟨q1,by dsimp only;omega,q5,q6,q7,fun x=>?_⟩
   dsimp only
   rw[q8 x,htk _ _ gy2]
   constructor
   ·exact fun h=>List.mem_append_left _ h
   intro h
   rcases X23.1 h with h | h
   ·exact h
   rw[X14] at h
   rw[h,heq2];exact hmem _ _ gz2
  rintro⟨i',a'⟩ ⟨p1,p2,p3,p4,p5,p6⟩
  dsimp only at p1 p2 p3 p4 p5 p6 ⊢
  rw[AP (by omega)]
  refine hnx2 _ ⟨p1,by dsimp only;omega,by dsimp only;omega,by dsimp only;omega,p3,p4,p5,fun x=>?_⟩ (by dsimp only;omega)
  dsimp only
  rw[p6 x,show ((n+1:Nat)+(((m+1:Nat):Int)+1)).toNat=n+1+(m+1)+1 by omega]
 rintro⟨i,a⟩ ⟨p1,p2,p3,p4,p5⟩
 dsimp only at p1 p2 p3 p4 p5 ⊢
 refine .bind (Ok.chk (by omega)) fun _ _=>.bind (Ok.part ⟨by omega,by omega,by simp;omega⟩) fun c hc=>.ret ?_
 have:c=a.take i.toNat:=by
  rw[hc.1]
  simp only[Int.toNat_zero,List.drop_zero,Nat.sub_zero]
  rw[List.append_assoc,List.take_append_of_le_length (by simp;omega),List.take_take,Nat.min_self]
 rw[this]
 exact⟨p4,p5⟩
end
theorem Y8 {l:List Int}(hl:l.length<=1000000000):Ok (Lm l) fun r=>r.Perm l/\r.Pairwise fun a b=>decide (b<a)=false:=by
 unfold Lm
 rw[if_pos (by omega)]
 refine .ret ⟨List.mergeSort_perm _ _,?_⟩
 refine (List.pairwise_mergeSort (le:=fun x y:Int=>decide (x<=y)) (fun a b c h1 h2=>by simp only[decide_eq_true_eq] at *;omega) (fun a b=>by simp only[Bool.or_eq_true,decide_eq_true_eq];omega) l).imp fun {a b} h=>?_
 simp only[decide_eq_true_eq,decide_eq_false_iff_not] at *
 omega
end Go.AX
end
section
namespace Go.AX
def Po {ρ:Type}(m:Option ρ)(Q:ρ->Prop):Prop:=∀r,m=some r->Q r
theorem Po.ret {ρ:Type}{Q:ρ->Prop}{r:ρ}(h:Q r):Po (some r) Q:=fun _ e=>X25 e ▸ h
theorem Po.imp {ρ:Type}{m:Option ρ}{P Q:ρ->Prop}(h:Po m P)(k :∀r,P r->Q r):Po m Q:=fun r e=>k r (h r e)
theorem Po.bind {α ρ:Type}{m:Option α}{f:α->Option ρ}{Q:ρ->Prop}(k :∀a,m=some a->Po (f a) Q):Po (Option.bind m f) Q:=by
 intro r e
 cases hm:m with
 | none=>rw[hm] at e;cases e
 | some a=>rw[hm] at e;exact k a hm r e
theorem Po.join {τ ρ:Type}{m:(τ->Option ρ)->Option ρ}{k:τ->Option ρ}{Q:ρ->Prop}(J:τ->Prop)(h1 :∀k',(∀v,J v->Po (k' v) Q)->Po (m k') Q)(h2 :∀v,J v->Po (k v) Q):Po (AI m k) Q:=h1 k h2
theorem Po.ite {ρ:Type}{p:Prop}[Decidable p]{x y:Option ρ}{Q:ρ->Prop}(h1:p->Po x Q)(h2:¬ p->Po y Q):Po (if p then x else y) Q:=by
 split
 ·exact h1 ‹_›
 exact h2 ‹_›
theorem Po.forX {α σ ρ:Type}{done:σ->Option ρ}{body:(σ->Option ρ)->α->Nat->σ->Option ρ}{Q:ρ->Prop}{l:List α}{s0:σ}(I:Nat->σ->Prop)(h0:I 0 s0)(hd :∀s,I l.length s->Po (done s) Q)
  (hs :∀(next:σ->Option ρ) x i s,l[i]?=some x->I i s->(∀s',I (i+1) s'->Po (next s') Q)->Po (body next x i s) Q):Po (Ao done body l 0 s0) Q:=by
 have key :∀(t:List α) (i:Nat) (s:σ),(∃p,l=p++t/\p.length=i)->I i s->Po (Ao done body t i s) Q:=by
  intro t
  induction t with
  | nil=>intro i s ⟨p,hp,hl⟩ hi;exact hd s (by rw[hp];simpa[hl] using hi)
  | cons x t ih=>
   intro i s ⟨p,hp,hl⟩ hi
   exact hs _ x i s (by rw[hp,<- hl];simp) hi fun s' h'=>ih (i+1) s' ⟨p++[x],by simp[hp],by simp[hl]⟩ h'
 exact key l 0 s0 ⟨[],rfl,rfl⟩ h0
theorem Po.for_ {α σ ρ:Type}{done:σ->Option ρ}{body:(σ->Option ρ)->α->Nat->σ->Option ρ}{Q:ρ->Prop}{l:List α}{s0:σ}(I:σ->Prop)(h0:I s0)(hd :∀s,I s->Po (done s) Q)
  (hs :∀(next:σ->Option ρ) x i s,x∈l->I s->(∀s',I s'->Po (next s') Q)->Po (body next x i s) Q):Po (Ao done body l 0 s0) Q:=
 .forX (fun _=>I) h0 hd fun n x i s hx=>hs n x i s (List.mem_of_getElem? hx)
theorem Po.apnd {α:Type}{b:Nat}{l m:List α}:Po (Go.AX.apnd b l m) fun r=>r=l++m:=by
 intro r e
 unfold Go.AX.apnd at e
 split at e
 ·exact (X25 e).symm
 cases e
theorem Po.geti {α:Type}{l:List α}{i:Int}:Po (Go.AX.geti l i) fun x=>0<=i/\l[i.toNat]?=some x:=by
 intro r e
 unfold Go.AX.geti at e
 split at e
 ·rename_i h
  exact⟨h.1,e⟩
 cases e
theorem Po.seti {α:Type}{l:List α}{i:Int}{x:α}:Po (Go.AX.seti l i x) fun r=>0<=i/\i.toNat<l.length/\r=l.set i.toNat x:=by
 intro r e
 unfold Go.AX.seti at e
 split at e
 ·rename_i h
  exact⟨h.1,by omega,(X25 e).symm⟩
 cases e
theorem Po.part {α:Type}{l:List α}{a b:Int}:Po (Go.AX.part l a b) fun r=>r=(l.drop a.toNat).take (b.toNat-a.toNat):=by
 intro r e
 unfold Go.AX.part at e
 split at e
 ·exact (X25 e).symm
 cases e
theorem Ok.and {ρ:Type}{m:Option ρ}{P Q:ρ->Prop}(h:Ok m P)(k:Po m Q):Ok m fun r=>P r/\Q r:=by
 obtain⟨r,h1,h2⟩:=h
 exact⟨r,h1,h2,k r h1⟩
theorem Po.sel {τ ρ:Type}{m:(τ->Option ρ)->Option ρ}{k:τ->Option ρ}{Q:ρ->Prop}(h1 :∀k',(∀v,Po (k' v) Q)->Po (m k') Q)(h2 :∀v,Po (k v) Q):Po (AI m k) Q:=h1 k h2
end Go.AX
end
section
namespace Go.AX.Q19
open Go Go.AX
def fl (t:Int):Int:=if t=1 then 64 else if t=2 then 64 else if t=3 then 64 else if t=4 then 128 else if t=5 then 64 else if t=8 then 192 else if t=32 then 192 else if t=35 then 192 else 0
def unk (t:Int):Bool:=decide (fl t=0)&&(decide (t≠14)&&decide (t≠15))
theorem LR (t:Int):(BB Bo t).getD 0=fl t:=by
 unfold Bo fl
 simp only[BB,beq_iff_eq]
 repeat' (split;· rfl)
 rfl
theorem FH (t:Int):(t=1/\fl t=64)\/(t=2/\fl t=64)\/(t=3/\fl t=64)\/(t=4/\fl t=128)\/(t=5/\fl t=64)\/(t=8/\fl t=192)\/(t=32/\fl t=192)\/(t=35/\fl t=192) \/
  (t≠1/\t≠2/\t≠3/\t≠4/\t≠5/\t≠8/\t≠32/\t≠35/\fl t=0):=by
 unfold fl
 by_cases h1:t=1<;>by_cases h2:t=2<;>by_cases h3:t=3<;>by_cases h4:t=4<;>by_cases h5:t=5<;>by_cases h6:t=8<;>by_cases h7:t=32<;>by_cases h8:t=35<;>first | (exfalso;omega)|simp[h1,h2,h3,h4,h5,h6,h7,h8]
theorem Kt (t:Int):Bc t=some (fl t):=by
 unfold Bc
 simp only[AH,beq_iff_eq]
 rcases FH t with ⟨h,e⟩|⟨h,e⟩|⟨h,e⟩|⟨h,e⟩|⟨h,e⟩|⟨h,e⟩|⟨h,e⟩|⟨h,e⟩|⟨h1,h2,h3,h4,h5,h6,h7,h8,e⟩<;>rw[e]
 iterate 8 (subst h;rfl)
 simp[h1,h2,h3,h4,h5,h6,h7,h8]
theorem bB (t:Int)(k:Bool->Option Bool):(if (fl t==0)=true then if (cond true (t != 14) false)=true then k (cond true (t != 15) false) else k false else k false)=k (unk t):=by
 have e1:(t != 14)=!decide (t=14):=rfl
 have e2:(t != 15)=!decide (t=15):=rfl
 unfold unk
 rw[e1,e2]
 by_cases h1:fl t=0<;>by_cases h2:t=14<;>by_cases h3:t=15<;>simp[h1,h2,h3]
theorem D3 (t:Int):BV t=some (unk t):=by
 unfold BV
 rw[AH,LR,AC]
 exact bB t some
theorem Is (t:Int):DT t=some (unk t):=by
 unfold DT
 rw[AH,Kt,AC]
 exact bB t some
theorem GH (a b c:Int):A8 a b c=some (decide (b<=a)&&decide (a<=c)):=by
 unfold A8
 rw[AH]
 by_cases h:b<=a
 ·rw[if_pos (by simpa using h),decide_eq_true h];rfl
 rw[if_neg (by simpa using h),decide_eq_false h];rfl
theorem number_eq (a:Int):EA a=some (decide (1<=a)&&decide (a<=4294967295)):=by
 unfold EA
 rw[AH]
 by_cases h:1<=a
 ·rw[if_pos (by simpa using h),decide_eq_true h];rfl
 rw[if_neg (by simpa using h),decide_eq_false h];rfl
def bt (x m:Int):Int:=AN ((BitVec.ofInt 64 x &&& BitVec.ofInt 64 m).toNat:Int)
theorem Wn {n m:Int}(h:n%(2^64:Int)=m%(2^64:Int)):AN n=AN m:=
 congrArg (fun q:Int=>if (IntKind.i64.signed&&decide (q ≥ (2^(IntKind.i64.bits-1):Int)))=true then q-(2^IntKind.i64.bits:Int) else q) h
theorem Ub (b:BitVec 64):AN (b.toNat:Int)=b.toInt:=by
 have h:=b.isLt
 have h1:=BitVec.toInt_eq_toNat_cond b
 have p1:(2:Int)^64=18446744073709551616:=by decide
 have p2:((2^64:Nat):Int)=18446744073709551616:=by decide
 have p3:(2:Nat)^64=18446744073709551616:=by decide
 rw[p2] at h1
 rw[p3] at h h1
 have h2:-9223372036854775808<=b.toInt/\b.toInt<=9223372036854775807:=by
  rw[h1];split<;>omega
 rw[Wn (m:=b.toInt) (by rw[p1,h1];split<;>omega),AP h2]
theorem SO (b:BitVec 64):BitVec.ofInt 64 (AN (b.toNat:Int))=b:=by
 rw[Ub,BitVec.ofInt_toInt]
theorem Wu {f m:Int}(hf:f=64\/f=128\/f=192):(AN ((BitVec.ofInt 64 (AN ((BitVec.ofInt 64 m ^^^ BitVec.ofInt 64 f).toNat:Int)) &&& BitVec.ofInt 64 192).toNat:Int)==0)=(bt m 192==f):=by
 unfold bt
 rw[SO,Ub,Ub,X28,beq_iff_eq,beq_iff_eq]
 have h0:(0:Int)=(0#64).toInt:=by decide
 have h1:f=(BitVec.ofInt 64 f &&& BitVec.ofInt 64 192).toInt:=by rcases hf with rfl | rfl | rfl<;>decide
 have hx:(BitVec.ofInt 64 m ^^^ BitVec.ofInt 64 f) &&& BitVec.ofInt 64 192=(BitVec.ofInt 64 m &&& BitVec.ofInt 64 192) ^^^ (BitVec.ofInt 64 f &&& BitVec.ofInt 64 192):=by
  apply BitVec.eq_of_getLsbD_eq
  intro i _
  simp only[BitVec.getLsbD_and,BitVec.getLsbD_xor]
  generalize (BitVec.ofInt 64 m).getLsbD i=x
  generalize (BitVec.ofInt 64 f).getLsbD i=y
  generalize (BitVec.ofInt 64 192).getLsbD i=z
  cases x<;>cases y<;>cases z<;>rfl
 rw[hx]
 conv=>rhs;rhs;rw[h1]
 rw[h0,BitVec.toInt_inj,BitVec.toInt_inj,BitVec.xor_eq_zero_iff]
def Eu (x:JAA):Bool:=bt x.Flags 192==fl x.Type_&&(fl x.Type_==192 || bt x.Flags 32==0)
theorem Ba (x:JAA)(h:fl x.Type_≠0):BH x=some (Eu x):=by
 have hf:fl x.Type_=64\/fl x.Type_=128\/fl x.Type_=192:=by
  rcases FH x.Type_ with ⟨_,e⟩|⟨_,e⟩|⟨_,e⟩|⟨_,e⟩|⟨_,e⟩|⟨_,e⟩|⟨_,e⟩|⟨_,e⟩|h'<;>first | (rw[e];simp;done)|exact absurd h'.2.2.2.2.2.2.2.2 h
 unfold BH Eu
 rw[AH,LR]
 simp only[AC,Wu hf]
 show (if (bt x.Flags 192==fl x.Type_)=true then if (fl x.Type_==192)=true then some true else some (cond true (cond false true (bt x.Flags 32==0)) false) else some false)=_
 cases (bt x.Flags 192==fl x.Type_)<;>cases (fl x.Type_==192)<;>rfl
def Eg (b:List UInt8):Int:=b.foldl (fun n x=>AN ((BitVec.ofInt 64 (AN (n*(2^(min (Int.toNat 8) 64)))) ||| BitVec.ofInt 64 (x.toNat:Int)).toNat:Int)) 0
theorem Xu {α σ ρ:Type}{K:σ->Option ρ}{g:σ->α->σ} :∀(l:List α) (i:Nat) (s:σ),Ao K (fun next x _ s=>next (g s x)) l i s=K (l.foldl g s)
 | [],_,_=>rfl
 | x::t,i,s=>Xu t (i+1) (g s x)
theorem Ce (b:List UInt8):B0 b=some (Eg b):=by
 unfold B0
 rw[AH]
 exact Xu (K:=some) b 0 0
def val (l:List UInt8):Nat:=l.foldl (fun m x=>m*256+x.toNat) 0
theorem NQ (l:List UInt8)(x:UInt8):val (l++[x])=val l*256+x.toNat:=by simp[val]
theorem MO :∀l:List UInt8,val l<256^l.length:=by
 intro l
 rw[<- List.reverse_reverse l]
 generalize l.reverse=m
 induction m with
 | nil=>decide
 | cons x t ih=>
  rw[List.reverse_cons,NQ,X11,X22,Nat.pow_succ]
  have:=x.toNat_lt
  omega
theorem bA {u v:Nat}(hu:u<36028797018963968)(hv:v<256):AN ((BitVec.ofInt 64 (AN ((u:Int)*(2^(min (Int.toNat 8) 64)))) ||| BitVec.ofInt 64 (v:Int)).toNat:Int)=((u*256+v:Nat):Int):=by
 have h1:((u:Int)*(2^(min (Int.toNat 8) 64)))=((u*256:Nat):Int):=by
  have:min (Int.toNat 8) 64=8:=rfl
  rw[this];omega
 rw[h1,AP (x:=((u*256:Nat):Int)) (by omega),BitVec.ofInt_natCast,BitVec.ofInt_natCast,BitVec.toNat_or,BitVec.toNat_ofNat,BitVec.toNat_ofNat,Nat.mod_eq_of_lt (show u*256<2^64 by omega),Nat.mod_eq_of_lt (show v<2^64 by omega),
  show u*256=2^8*u by omega,<- Nat.two_pow_add_eq_or_of_lt (show v<2^8 by omega)]
 rw[AP (by omega)]
theorem GY :∀{l:List UInt8},l.length<=7->Eg l=(val l:Int):=by
 intro l
 rw[<- List.reverse_reverse l]
 generalize l.reverse=m
 induction m with
 | nil=>intro _;rfl
 | cons x t ih=>
  intro h
  rw[List.reverse_cons] at h ⊢
  simp only[X11,List.length_reverse,X22] at h
  unfold Eg at ih ⊢
  rw[List.foldl_append,ih (by simp;omega)]
  have h1:=MO t.reverse
  have h2:256^t.reverse.length<=256^6:=Nat.pow_le_pow_right (by omega) (by simp;omega)
  show AN _=_
  rw[bA (by omega) x.toNat_lt,NQ]
def nums:List UInt8->List Int
 | a::b::c::d::t=>Eg [a,b,c,d]::nums t
 | _=>[]
theorem LX (a b c d:UInt8)(t:List UInt8):nums (a::b::c::d::t)=Eg [a,b,c,d]::nums t:=rfl
theorem Xm :∀{l:List UInt8},l.length<4->nums l=[]
 | [],_=>rfl
 | [_],_=>rfl
 | [_,_],_=>rfl
 | [_,_,_],_=>rfl
 | _::_::_::_::_,h=>by simp at h;omega
theorem bU :∀{l:List UInt8},4<=l.length->∃a b c d t,l=a::b::c::d::t
 | [],h=>by simp at h
 | [_],h=>by simp at h
 | [_,_],h=>by simp at h
 | [_,_,_],h=>by simp at h
 | a::b::c::d::t,_=>⟨a,b,c,d,t,rfl⟩
theorem HK :∀l:List UInt8,(nums l).length=l.length/4
 | a::b::c::d::t=>by
  rw[LX,X12,HK t]
  simp only[X12]
  omega
 | []=>rfl
 | [_]=>by simp[nums]
 | [_,_]=>by simp[nums]
 | [_,_,_]=>by simp[nums]
theorem RJ :∀(l:List UInt8),∀n∈nums l,0<=n/\n<=4294967295
 | a::b::c::d::t=>by
  rw[LX]
  intro n hn
  rcases List.mem_cons.1 hn with h | h
  ·have h1:=MO [a,b,c,d]
   rw[h,GY (by simp)]
   simp only[X12,X13] at h1
   omega
  exact RJ t n h
 | []=>by intro n h;simp[nums] at h
 | [_]=>by intro n h;simp[nums] at h
 | [_,_]=>by intro n h;simp[nums] at h
 | [_,_,_]=>by intro n h;simp[nums] at h
theorem Ep {b:List UInt8}(hb:b.length<=1000000000):CH b=some (nums b):=by
 unfold CH
 rw[AH,DW (fun s:List UInt8×List Int=>s.1.length+4*s.2.length<=1000000000) (fun s=>s.1.length) (fun s=>some (s.2++nums s.1)) ?_ fuel (b,[]) (by simpa using hb) (B2 (by simp only;omega))]
 ·rfl
 rintro next ⟨v,o⟩ h hn
 dsimp only at h ⊢
 by_cases h4:4<=v.length
 ·obtain⟨x,y,z,w,t,rfl⟩:=bU h4
  simp only[X12] at h
  rw[if_pos (by simp only[X12,decide_eq_true_eq];omega)]
  have e1:part (x::y::z::w::t) 0 4=some [x,y,z,w]:=by
   rw[show (0:Int)=((0:Nat):Int) by rfl,show (4:Int)=((4:Nat):Int) by rfl,Ed (by omega) (by simp)]
   rfl
  have e2:part (x::y::z::w::t) 4 ((x::y::z::w::t).length:Int)=some t:=by
   rw[show (4:Int)=((4:Nat):Int) by rfl,Ed (by simp) (by simp)]
   simp
  rw[e1,AC,Ce,AC,AO (by decide) (by simp only[X22];omega),AC,e2,AC,hn _ (by simp only[X11,X22];omega) (by simp only[X12];omega)]
  simp[LX]
 rw[if_neg (by simp only[decide_eq_true_eq];omega),Xm (by omega)]
 simp
def ltI (a b:Int):Bool:=decide (a<b)
theorem QD (a:Int):ltI a a=false:=by simp[ltI]
theorem R1 (a b c:Int)(h1:ltI a b=true)(h2:ltI b c=true):ltI a c=true:=by simp only[ltI,decide_eq_true_eq] at *;omega
theorem YL (a b:Int)(h:ltI a b=false):a=b\/ltI b a=true:=by simp only[ltI,decide_eq_true_eq,decide_eq_false_iff_not] at *;omega
def Asc (l r:List Int):Prop:=r.Pairwise (fun a b=>ltI a b=true)/\∀x,x∈r↔x∈l
theorem Asc.uniq {l r s:List Int}(h:Asc l r)(k:Asc l s):r=s:=
 JZ (lt:=fun a b=>ltI a b=true) (fun a=>by simp[QD]) R1 h.1 k.1 fun x=>(h.2 x).trans (k.2 x).symm
theorem Ot {l:List Int}(hl:l.length<=1000000):Ok (Jj l) (Asc l):=by
 unfold Jj
 refine .join (Asc l) (fun k hk=>?_) fun r hr=>.ret hr
 refine .forX (fun i v=>v.Pairwise (fun a b=>ltI a b=true)/\(∀x,x∈v↔x∈l.take i)/\v.length<=i) ⟨.nil,by simp,by simp⟩ (fun v hv=>hk v ⟨hv.1,by simpa using hv.2.1⟩) fun next x i v hx hI hn=>?_
 obtain⟨i1,i2,i3⟩:=hI
 have hil:=(X16.1 hx).1
 have hmt :∀y,y∈l.take (i+1)↔y∈l.take i\/y=x:=by
  intro y
  rw[List.take_add_one,hx]
  simp
 refine .join (fun v'=>v'.Pairwise (fun a b=>ltI a b=true)/\(∀x,x∈v'↔x∈l.take (i+1))/\v'.length<=i+1) (fun k6 hk6=>?_) fun v' h=>hn _ h
 have hpos:=G1 (ltI · x) v
 rw[cj (p:=(ltI · x)) (fun y k4=>k4 (cond true (decide (y<x)) false)) (by omega) (fun y _ k=>rfl)]
 have hh:=Zd R1 QD (x:=x) i1
 obtain⟨t1,t2⟩:=takeWhile_take (ltI · x) v
 refine .join (fun c=>c=true↔x∈v) (fun k15 hk15=>?_) fun c hc=>.ite (fun h=>?_) fun h=>?_
 ·by_cases hk:(v.takeWhile (ltI · x)).length<v.length
  ·rw[if_pos (by simpa using hk),C7 hk,AC]
   refine hk15 _ ?_
   rw[hh,X15 hk]
   simp only[cond_true,beq_iff_eq,X24]
  rw[if_neg (by simpa using hk)]
  refine hk15 _ ?_
  rw[hh,List.getElem?_eq_none (by omega)]
  simp
 ·refine hk6 _ ⟨i1,fun y=>?_,by omega⟩
  rw[hmt,i2 y]
  refine⟨.inl,fun q=>q.elim id fun e=>?_⟩
  rw[e];exact (i2 x).1 (hc.1 h)
 have hnx:x∉v:=fun q=>h (hc.2 q)
 simp only[Int.toNat_natCast,Int.toNat_zero,List.drop_zero,Nat.sub_zero]
 refine .bind (Ok.chk (by omega)) fun _ _=>.bind (Ok.apnd (by decide) (by simp;omega)) fun _ _=>.bind (Ok.apnd (by decide) (by simp;omega)) fun a ha=>.bind (Ok.chk (by omega)) fun _ _=>.bind (Ok.apnd (by decide) (by rw[ha];simp;omega)) fun b hb=>hk6 _ ?_
 have e:b=Ff ltI v x:=by
  have e2:(List.drop (v.takeWhile (ltI · x)).length v).take (v.length-(v.takeWhile (ltI · x)).length)=v.dropWhile (ltI · x):=by
   rw[List.take_of_length_le (by simp),t2]
  rw[hb,ha,e2,t1]
  unfold Ff
  simp
 rw[e]
 refine⟨IY R1 YL i1 hnx,fun y=>?_,by rw[HG];omega⟩
 rw[D4,hmt,i2]
def srt (l:List Int):List Int:=(Jj l).getD []
theorem Ui {l:List Int}(hl:l.length<=1000000):Asc l (srt l):=by
 obtain⟨r,h,k⟩:=Ot hl
 unfold srt;rw[h];exact k
theorem Vw (l:List Int):Bh l=KW (fun a b=>a==b) 0 l:=rfl
theorem R9 {l:List Int}{ρ:Type}{K:List Int->Option ρ}(hl:l.length<=1000000):(Option.bind (Lm l) fun v=>Option.bind (Bh v) K)=K (srt l):=by
 obtain⟨r,h,h1,h2⟩:=Y8 (l:=l) (by omega)
 rw[h,AC,Vw]
 obtain⟨c,g,g1,g2⟩:=Ky (lt:=ltI) (e:=fun a b:Int=>a==b) (zz:=0) QD R1 YL (fun a b=>beq_iff_eq) (l:=r) h2 (by rw[h1.length_eq];omega)
 rw[g,AC,Asc.uniq (l:=l) ⟨g1,fun x=>(g2 x).trans h1.mem_iff⟩ (Ui hl)]
def Gw (p:List JAD)(set:Bool)(l:List Int):List JAD:=
 if set then p++[⟨true,srt l⟩] else match p.getLast? with
  | some s=>if s.Set then p++[⟨false,l⟩] else p.dropLast++[⟨false,s.ASNs++l⟩]
  | none=>[⟨false,l⟩]
def J7:Nat->List UInt8->List JAD->Option (List JAD)
 | _,[],p=>some p
 | n+1,k::c::t,p=>if (k.toNat≠1/\k.toNat≠2)\/c.toNat=0\/t.length<4*c.toNat then none else J7 n (t.drop (4*c.toNat)) (Gw p (k.toNat==1) (nums (t.take (4*c.toNat))))
 | _,_,_=>none
end Go.AX.Q19
end
