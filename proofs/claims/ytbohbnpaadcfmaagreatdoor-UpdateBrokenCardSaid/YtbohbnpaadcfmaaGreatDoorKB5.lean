/-
  Texts of one proof, packed.
-/
import Derived.Test.YtbohbnpaadcfmaaGreatDoorKB4
import Derived.LaidSub
import Derived.MapKept
import Derived.Test.YtbohbnpaadcfmaaGreatDoorRows
set_option linter.all false
set_option maxRecDepth 100000
set_option maxHeartbeats 4000000
open List renaming length_append→X11,length_cons→X12,length_nil→X13,mem_singleton→X14,getElem?_eq_getElem→X15,getElem?_eq_some_iff→X16,length_take→X18,mem_cons_of_mem→X19,length_set→X21,mem_append→X23
open Option.some renaming inj→X25
open Prod.mk renaming injEq→X26
section
namespace Go.AX.Q19
open Go Go.AX
noncomputable section
def Bz:List (Int×Int):=[(1,64),(2,64),(3,64),(4,128),(5,64),(8,192),(32,192),(35,192)]
structure JAI where
  L:List Int
  At:Int
def JAI.toD (x:JAI):D:=.agg [D.l 1 D.i x.L,D.i x.At]
def JAI.av (x:JAI):List AV:=[.d (D.l 1 D.i x.L),.d (D.i x.At)]
def JAI.zv:List AV:=[.d (D.nil 1),.d (D.i 0)]
def JAI.wf (x:JAI):Prop:=(x.L.length<=maxLen/\x.L.length*8<=reachBytes/\∀y0∈x.L,I64 y0)/\I64 x.At/\True
structure JAE where
  Set:Bool
  ASNs:List Int
def JAE.toD (x:JAE):D:=.agg [D.b x.Set,D.l 1 D.i x.ASNs]
def JAE.av (x:JAE):List AV:=[.d (D.b x.Set),.d (D.l 1 D.i x.ASNs)]
def JAE.zv:List AV:=[.d (D.b false),.d (D.nil 1)]
def JAE.wf (x:JAE):Prop:=True/\(x.ASNs.length<=maxLen/\x.ASNs.length*8<=reachBytes/\∀y0∈x.ASNs,I64 y0)/\True
structure Addr where
  V6:Bool
  Hi:UInt64
  Lo:UInt64
def Addr.toD (x:Addr):D:=.agg [D.b x.V6,D.u64 x.Hi,D.u64 x.Lo]
def Addr.av (x:Addr):List AV:=[.d (D.b x.V6),.d (D.u64 x.Hi),.d (D.u64 x.Lo)]
def Addr.zv:List AV:=[.d (D.b false),.d (D.u64 (0:UInt64)),.d (D.u64 (0:UInt64))]
def Addr.wf (x:Addr):Prop:=True/\True/\True/\True
def Addr.eqd (x y:Addr):Bool:=((x.V6==y.V6)&&(((x.Hi.toNat:Int)==(y.Hi.toNat:Int))&&(((x.Lo.toNat:Int)==(y.Lo.toNat:Int))&&true)))
structure JAB where
  A:Int
  B:Int
def JAB.toD (x:JAB):D:=.agg [D.i x.A,D.i x.B]
def JAB.av (x:JAB):List AV:=[.d (D.i x.A),.d (D.i x.B)]
def JAB.zv:List AV:=[.d (D.i 0),.d (D.i 0)]
def JAB.wf (x:JAB):Prop:=I64 x.A/\I64 x.B/\True
def JAB.eqd (x y:JAB):Bool:=((x.A==y.A)&&((x.B==y.B)&&true))
structure JAF where
  A:Int
  B:Int
  C:Int
def JAF.toD (x:JAF):D:=.agg [D.i x.A,D.i x.B,D.i x.C]
def JAF.av (x:JAF):List AV:=[.d (D.i x.A),.d (D.i x.B),.d (D.i x.C)]
def JAF.zv:List AV:=[.d (D.i 0),.d (D.i 0),.d (D.i 0)]
def JAF.wf (x:JAF):Prop:=I64 x.A/\I64 x.B/\I64 x.C/\True
def JAF.eqd (x y:JAF):Bool:=((x.A==y.A)&&((x.B==y.B)&&((x.C==y.C)&&true)))
structure JAA where
  Flags:Int
  Type_:Int
  Data:List UInt8
def JAA.toD (x:JAA):D:=.agg [D.i x.Flags,D.i x.Type_,D.l 1 D.u8 x.Data]
def JAA.av (x:JAA):List AV:=[.d (D.i x.Flags),.d (D.i x.Type_),.d (D.l 1 D.u8 x.Data)]
def JAA.zv:List AV:=[.d (D.i 0),.d (D.i 0),.d (D.nil 1)]
def JAA.wf (x:JAA):Prop:=I64 x.Flags/\I64 x.Type_/\(x.Data.length<=maxLen/\x.Data.length*1<=reachBytes/\∀y0∈x.Data,True)/\True
structure JAD where
  Origin:Int
  Path:List JAE
  Next:Addr
  MED:Int
  Pref:Int
  OTC:Int
  Communities:List JAB
  JAF:List JAF
  Other:List JAA
def JAD.toD (x:JAD):D:=.agg [D.i x.Origin,D.l 2 JAE.toD x.Path,D.b x.Next.V6,D.u64 x.Next.Hi,D.u64 x.Next.Lo,D.i x.MED,D.i x.Pref,D.i x.OTC,D.l 2 JAB.toD x.Communities,D.l 3 JAF.toD x.JAF,D.l 3 JAA.toD x.Other]
def JAD.av (x:JAD):List AV:=[.d (D.i x.Origin),.d (D.l 2 JAE.toD x.Path),.d (D.b x.Next.V6),.d (D.u64 x.Next.Hi),.d (D.u64 x.Next.Lo),.d (D.i x.MED),.d (D.i x.Pref),.d (D.i x.OTC),.d (D.l 2 JAB.toD x.Communities),.d (D.l 3 JAF.toD x.JAF),.d (D.l 3 JAA.toD x.Other)]
def JAD.zv:List AV:=[.d (D.i 0),.d (D.nil 2),.d (D.b false),.d (D.u64 (0:UInt64)),.d (D.u64 (0:UInt64)),.d (D.i 0),.d (D.i 0),.d (D.i 0),.d (D.nil 2),.d (D.nil 3),.d (D.nil 3)]
def JAD.wf (x:JAD):Prop:=I64 x.Origin/\(x.Path.length<=maxLen/\x.Path.length*32<=reachBytes/\∀y0∈x.Path,JAE.wf y0)/\Addr.wf x.Next/\I64 x.MED/\I64 x.Pref/\I64 x.OTC/\(x.Communities.length<=maxLen/\x.Communities.length*16<=reachBytes/\∀y0∈x.Communities,JAB.wf y0)/\(x.JAF.length<=maxLen/\x.JAF.length*24<=reachBytes/\∀y0∈x.JAF,JAF.wf y0)/\(x.Other.length<=maxLen/\x.Other.length*40<=reachBytes/\∀y0∈x.Other,JAA.wf y0)/\True
structure JAC where
  Addr:Addr
  Len:Int
def JAC.toD (x:JAC):D:=.agg [D.b x.Addr.V6,D.u64 x.Addr.Hi,D.u64 x.Addr.Lo,D.i x.Len]
def JAC.av (x:JAC):List AV:=[.d (D.b x.Addr.V6),.d (D.u64 x.Addr.Hi),.d (D.u64 x.Addr.Lo),.d (D.i x.Len)]
def JAC.zv:List AV:=[.d (D.b false),.d (D.u64 (0:UInt64)),.d (D.u64 (0:UInt64)),.d (D.i 0)]
def JAC.wf (x:JAC):Prop:=Addr.wf x.Addr/\I64 x.Len/\True
def JAC.eqd (x y:JAC):Bool:=(((x.Addr.V6==y.Addr.V6)&&(((x.Addr.Hi.toNat:Int)==(y.Addr.Hi.toNat:Int))&&(((x.Addr.Lo.toNat:Int)==(y.Addr.Lo.toNat:Int))&&true)))&&((x.Len==y.Len)&&true))
structure JAG where
  Withdraw:List JAC
  JAD:JAD
  Announce:List JAC
def JAG.toD (x:JAG):D:=.agg [D.l 4 JAC.toD x.Withdraw,D.i x.JAD.Origin,D.l 2 JAE.toD x.JAD.Path,D.b x.JAD.Next.V6,D.u64 x.JAD.Next.Hi,D.u64 x.JAD.Next.Lo,D.i x.JAD.MED,D.i x.JAD.Pref,D.i x.JAD.OTC,D.l 2 JAB.toD x.JAD.Communities,D.l 3 JAF.toD x.JAD.JAF,D.l 3 JAA.toD x.JAD.Other,D.l 4 JAC.toD x.Announce]
def JAG.av (x:JAG):List AV:=[.d (D.l 4 JAC.toD x.Withdraw),.d (D.i x.JAD.Origin),.d (D.l 2 JAE.toD x.JAD.Path),.d (D.b x.JAD.Next.V6),.d (D.u64 x.JAD.Next.Hi),.d (D.u64 x.JAD.Next.Lo),.d (D.i x.JAD.MED),.d (D.i x.JAD.Pref),.d (D.i x.JAD.OTC),.d (D.l 2 JAB.toD x.JAD.Communities),.d (D.l 3 JAF.toD x.JAD.JAF),.d (D.l 3 JAA.toD x.JAD.Other),.d (D.l 4 JAC.toD x.Announce)]
def JAG.zv:List AV:=[.d (D.nil 4),.d (D.i 0),.d (D.nil 2),.d (D.b false),.d (D.u64 (0:UInt64)),.d (D.u64 (0:UInt64)),.d (D.i 0),.d (D.i 0),.d (D.i 0),.d (D.nil 2),.d (D.nil 3),.d (D.nil 3),.d (D.nil 4)]
def JAG.wf (x:JAG):Prop:=(x.Withdraw.length<=maxLen/\x.Withdraw.length*32<=reachBytes/\∀y0∈x.Withdraw,JAC.wf y0)/\JAD.wf x.JAD/\(x.Announce.length<=maxLen/\x.Announce.length*32<=reachBytes/\∀y0∈x.Announce,JAC.wf y0)/\True
structure JAH where
  attrs:List JAA
  next:Addr
  gone4:List JAC
  gone6:List JAC
  new4:List JAC
  new6:List JAC
def JAH.toD (x:JAH):D:=.agg [D.l 3 JAA.toD x.attrs,D.b x.next.V6,D.u64 x.next.Hi,D.u64 x.next.Lo,D.l 4 JAC.toD x.gone4,D.l 4 JAC.toD x.gone6,D.l 4 JAC.toD x.new4,D.l 4 JAC.toD x.new6]
def JAH.av (x:JAH):List AV:=[.d (D.l 3 JAA.toD x.attrs),.d (D.b x.next.V6),.d (D.u64 x.next.Hi),.d (D.u64 x.next.Lo),.d (D.l 4 JAC.toD x.gone4),.d (D.l 4 JAC.toD x.gone6),.d (D.l 4 JAC.toD x.new4),.d (D.l 4 JAC.toD x.new6)]
def JAH.zv:List AV:=[.d (D.nil 3),.d (D.b false),.d (D.u64 (0:UInt64)),.d (D.u64 (0:UInt64)),.d (D.nil 4),.d (D.nil 4),.d (D.nil 4),.d (D.nil 4)]
def JAH.wf (x:JAH):Prop:=(x.attrs.length<=maxLen/\x.attrs.length*40<=reachBytes/\∀y0∈x.attrs,JAA.wf y0)/\Addr.wf x.next/\(x.gone4.length<=maxLen/\x.gone4.length*32<=reachBytes/\∀y0∈x.gone4,JAC.wf y0)/\(x.gone6.length<=maxLen/\x.gone6.length*32<=reachBytes/\∀y0∈x.gone6,JAC.wf y0)/\(x.new4.length<=maxLen/\x.new4.length*32<=reachBytes/\∀y0∈x.new4,JAC.wf y0)/\(x.new6.length<=maxLen/\x.new6.length*32<=reachBytes/\∀y0∈x.new6,JAC.wf y0)/\True
structure JAJ where
  Type_:Int
  Body:List UInt8
def JAJ.toD (x:JAJ):D:=.agg [D.i x.Type_,D.l 1 D.u8 x.Body]
def JAJ.av (x:JAJ):List AV:=[.d (D.i x.Type_),.d (D.l 1 D.u8 x.Body)]
def JAJ.zv:List AV:=[.d (D.i 0),.d (D.nil 1)]
def JAJ.wf (x:JAJ):Prop:=I64 x.Type_/\(x.Body.length<=maxLen/\x.Body.length*1<=reachBytes/\∀y0∈x.Body,True)/\True
def MR (a0:List Int):Option JAI:= some (⟨a0,0⟩:JAI)
def E7:Option JAD:= some (⟨(-1),[],(⟨false,(0:UInt64),(0:UInt64)⟩:Addr),(-1),(-1),(-1),[],[],[]⟩:JAD)
def KP (a0:Int)(a1:Int):Option Int:=
(chk (a1≠0)).bind fun _=> AC (τ:=Int) (fun k1=> if (decide ((Int.tmod a0 a1)<0)) then k1 (AI ((Int.tmod a0 a1)+a1)) else k1 (Int.tmod a0 a1)
) fun v2=> some v2
def AL (a0:JAI)(a1:Int):Option (Int×JAI):= if (decide (a0.At ≥ (a0.L.length:Int))) then some (0,a0) else
(geti a0.L (AI ((AI (a0.At+1))-1))).bind fun v1=>
(KP v1 a1).bind fun v2=> some (v2,(⟨a0.L,(AI (a0.At+1))⟩:JAI))
def Ib (a0:Int):Option Addr:= some (⟨false,(0:UInt64),(AW (3221225984+((AW (AI (1+a0))).toNat:Int)))⟩:Addr)
def Ku (a0:Int):Option Addr:= some (⟨true,(2306139568115548160:UInt64),(AW (AI (1+a0)))⟩:Addr)
def E0 (a0:List JAE):Option Bool:= AC (τ:=Int) (fun k1=> An (σ:=Int) (fun v2=> k1 v2
) (fun next3 (x4:JAE) i5 v2=> AC (τ:=Unit) (fun k6=> AC (τ:=Bool) (fun k7=> if ((x4.ASNs.length:Int)==0) then k7 true else if (decide ((i5:Int) > 0)) then if (cond true (!x4.Set) false) then
(geti a0 (AI ((i5:Int)-1))).bind fun v8=> k7 (cond false true (cond true (!v8.Set) false)) else k7 false else k7 false
) fun v9=> if v9 then some false else AC (τ:=Unit) (fun k10=> An (σ:=Unit) (fun _=> k10 ()
) (fun next11 (x12:Int) i13 _=> AC (τ:=Bool) (fun k14=> if (decide (x12<1)) then k14 true else if (cond false true (decide (x12 > 4294967295))) then k14 true else if x4.Set then if (cond true (decide ((i13:Int) > 0)) false) then
(geti x4.ASNs (AI ((i13:Int)-1))).bind fun v15=> k14 (cond false true (cond true (decide (v15 ≥ x12)) false)) else k14 false else k14 false
) fun v16=> if v16 then some false else next11 ()
) x4.ASNs 0 ()
) fun _=> k6 ()
) fun _=> next3 (AI (v2+(x4.ASNs.length:Int)))
) a0 0 0
) fun v17=> some (decide (v17<=64))
def Ff (a0:JAI):Option (Int×JAI):=
(AL a0 9).bind fun (v1,v2)=>
(AL v2 3).bind fun (v3,v4)=>
(AL v4 7).bind fun (v5,v6)=>
(geti ([1,7,3,65001,4294967295,(AI (1+v1)),(AI (64512+v3))]:List Int) v5).bind fun v7=> some (v7,v6)
def FH (a0:JAI):Option ((List JAE)×JAI):=
(AL a0 4).bind fun (v1,v2)=> AC (τ:=JAI×(List JAE)) (fun k3=> A7 (σ:=Int×JAI×(List JAE)) (fun next4 (v5,v6,v7)=> if (decide (v5 > 0)) then AC (τ:=JAI×(List JAE)) (fun k8=> AC (τ:=Bool×JAI) (fun k9=> if (decide ((v7.length:Int) > 0)) then
(geti v7 (AI ((v7.length:Int)-1))).bind fun v10=> if (cond true (!v10.Set) false) then k9 (true,v6) else
(AL v6 5).bind fun (v11,v12)=> k9 ((cond false true (v11==4)),v12) else
(AL v6 5).bind fun (v13,v14)=> k9 ((cond false true (v13==4)),v14)
) fun (v15,v16)=>
(AL v16 4).bind fun (v17,v18)=> AC (τ:=JAI×(List Int)) (fun k19=> A7 (σ:=Int×JAI×(List Int)) (fun next20 (v21,v22,v23)=> if (decide (v21 > 0)) then AC (τ:=JAI×(List Int)) (fun k24=>
(Ff v22).bind fun (v25,v26)=> if (!v15) then
(apnd (α:=Int) 8 v23 ([v25]:List Int)).bind fun v27=> k24 (v26,v27) else AC (τ:=Int) (fun k28=> A7 (σ:=Int) (fun next29 v30=> AC (τ:=Bool) (fun k31=> if (decide (v30<(v23.length:Int))) then
(geti v23 v30).bind fun v32=> k31 (cond true (decide (v32<v25)) false) else k31 false
) fun v33=> if v33 then next29 (AI (v30+1)) else k28 v30
) fuel 0
) fun v34=> AC (τ:=Bool) (fun k35=> if (v34==(v23.length:Int)) then k35 true else
(geti v23 v34).bind fun v36=> k35 (cond false true (v36 != v25))
) fun v37=> AC (τ:=(List Int)) (fun k38=> if v37 then
(chk (0<=(0:Int)/\(0:Int)<=v34/\v34<=(v23.length:Int))).bind fun _=>
(apnd (α:=Int) 8 [] (List.take (Int.toNat v34-Int.toNat 0) (List.drop (Int.toNat 0) v23))).bind fun _=>
(apnd (α:=Int) 8 (List.take (Int.toNat v34-Int.toNat 0) (List.drop (Int.toNat 0) v23)) ([v25]:List Int)).bind fun v39=>
(chk (0<=v34/\v34<=(v23.length:Int)/\(v23.length:Int)<=(v23.length:Int))).bind fun _=>
(apnd (α:=Int) 8 v39 (List.take (Int.toNat (v23.length:Int)-Int.toNat v34) (List.drop (Int.toNat v34) v23))).bind fun v40=> k38 v40 else k38 v23
) fun v41=> k24 (v26,v41)
) fun (v42,v43)=> next20 ((AI (v21-1)),v42,v43) else k19 (v22,v23)
) fuel ((AI (1+v17)),v18,[])
) fun (v44,v45)=>
(apnd (α:=JAE) 32 v7 ([(⟨v15,v45⟩:JAE)]:List JAE)).bind fun v46=>
(E0 v46).bind fun v47=> AC (τ:=(List JAE)) (fun k48=> if (!v47) then
(part v46 0 (AI ((v46.length:Int)-1))).bind fun v49=> k48 v49 else k48 v46
) fun v50=> k8 (v44,v50)
) fun (v51,v52)=> next4 ((AI (v5-1)),v51,v52) else k3 (v6,v7)
) fuel (v1,v2,[])
) fun (v53,v54)=> some (v54,v53)
def EO (a0:JAB):Option Bool:= AC (τ:=Bool) (fun k1=> if (decide (a0.A ≥ 0)) then if (cond true (decide (a0.A<=65535)) false) then if (cond true (decide (a0.B ≥ 0)) false) then k1 (cond true (decide (a0.B<=65535)) false) else k1 false else k1 false else k1 false
) fun v2=> some v2
def EU (a0:JAB)(a1:JAB):Option Bool:= AC (τ:=Bool) (fun k1=> if (decide (a0.A<a1.A)) then k1 true else if (a0.A==a1.A) then k1 (cond false true (cond true (decide (a0.B<a1.B)) false)) else k1 false
) fun v2=> some v2
def E9 (a0:List JAB):Option Bool:= AC (τ:=Unit) (fun k1=> An (σ:=Unit) (fun _=> k1 ()
) (fun next2 (x3:JAB) i4 _=> AC (τ:=Bool) (fun k5=>
(EO x3).bind fun v6=> if (!v6) then k5 true else if (decide ((i4:Int) > 0)) then
(geti a0 (AI ((i4:Int)-1))).bind fun v7=>
(EU v7 x3).bind fun v8=> k5 (cond false true (cond true (!v8) false)) else k5 false
) fun v9=> if v9 then some false else next2 ()
) a0 0 ()
) fun _=> some (decide ((a0.length:Int)<=64))
def Gm (a0:List JAB)(a1:JAB):Option Bool:= AC (τ:=Unit) (fun k1=> An (σ:=Unit) (fun _=> k1 ()
) (fun next2 (x3:JAB) i4 _=> if (JAB.eqd x3 a1) then some true else next2 ()
) a0 0 ()
) fun _=> some false
def Ik (a0:List JAB)(a1:JAB):Option ((List JAB)×Int):= AC (τ:=Bool) (fun k1=>
(E9 a0).bind fun v2=> if (!v2) then k1 true else
(EO a1).bind fun v3=> k1 (cond false true (!v3))
) fun v4=> if v4 then some ([],1) else
(Gm a0 a1).bind fun v5=> if v5 then
(apnd (α:=JAB) 16 [] a0).bind fun _=> some (a0,0) else if (decide ((a0.length:Int) ≥ 64)) then some ([],3) else AC (τ:=Int) (fun k6=> A7 (σ:=Int) (fun next7 v8=> AC (τ:=Bool) (fun k9=> if (decide (v8<(a0.length:Int))) then
(geti a0 v8).bind fun v10=>
(EU v10 a1).bind fun v11=> k9 (cond true v11 false) else k9 false
) fun v12=> if v12 then next7 (AI (v8+1)) else k6 v8
) fuel 0
) fun v13=>
(part a0 0 v13).bind fun v14=>
(apnd (α:=JAB) 16 [] v14).bind fun _=>
(apnd (α:=JAB) 16 v14 ([a1]:List JAB)).bind fun v15=>
(part a0 v13 (a0.length:Int)).bind fun v16=>
(apnd (α:=JAB) 16 v15 v16).bind fun v17=> some (v17,0)
def CO (a0:JAF):Option Bool:= AC (τ:=Bool) (fun k1=> if (decide (a0.A ≥ 0)) then if (cond true (decide (a0.A<=4294967295)) false) then if (cond true (decide (a0.B ≥ 0)) false) then if (cond true (decide (a0.B<=4294967295)) false) then if (cond true (decide (a0.C ≥ 0)) false) then k1 (cond true (decide (a0.C<=4294967295)) false) else k1 false else k1 false else k1 false else k1 false else k1 false
) fun v2=> some v2
def CG (a0:JAF)(a1:JAF):Option Bool:= AC (τ:=Bool) (fun k1=> if (decide (a0.A<a1.A)) then k1 true else if (a0.A==a1.A) then if (decide (a0.B<a1.B)) then k1 true else if (a0.B==a1.B) then k1 (cond false true (cond true (cond false true (cond true (decide (a0.C<a1.C)) false)) false)) else k1 false else k1 false
) fun v2=> some v2
def Ci (a0:List JAF):Option Bool:= AC (τ:=Unit) (fun k1=> An (σ:=Unit) (fun _=> k1 ()
) (fun next2 (x3:JAF) i4 _=> AC (τ:=Bool) (fun k5=>
(CO x3).bind fun v6=> if (!v6) then k5 true else if (decide ((i4:Int) > 0)) then
(geti a0 (AI ((i4:Int)-1))).bind fun v7=>
(CG v7 x3).bind fun v8=> k5 (cond false true (cond true (!v8) false)) else k5 false
) fun v9=> if v9 then some false else next2 ()
) a0 0 ()
) fun _=> some (decide ((a0.length:Int)<=64))
def Dp (a0:List JAF)(a1:JAF):Option Bool:= AC (τ:=Unit) (fun k1=> An (σ:=Unit) (fun _=> k1 ()
) (fun next2 (x3:JAF) i4 _=> if (JAF.eqd x3 a1) then some true else next2 ()
) a0 0 ()
) fun _=> some false
def Et (a0:List JAF)(a1:JAF):Option ((List JAF)×Int):= AC (τ:=Bool) (fun k1=>
(Ci a0).bind fun v2=> if (!v2) then k1 true else
(CO a1).bind fun v3=> k1 (cond false true (!v3))
) fun v4=> if v4 then some ([],1) else
(Dp a0 a1).bind fun v5=> if v5 then
(apnd (α:=JAF) 24 [] a0).bind fun _=> some (a0,0) else if (decide ((a0.length:Int) ≥ 64)) then some ([],3) else AC (τ:=Int) (fun k6=> A7 (σ:=Int) (fun next7 v8=> AC (τ:=Bool) (fun k9=> if (decide (v8<(a0.length:Int))) then
(geti a0 v8).bind fun v10=>
(CG v10 a1).bind fun v11=> k9 (cond true v11 false) else k9 false
) fun v12=> if v12 then next7 (AI (v8+1)) else k6 v8
) fuel 0
) fun v13=>
(part a0 0 v13).bind fun v14=>
(apnd (α:=JAF) 24 [] v14).bind fun _=>
(apnd (α:=JAF) 24 v14 ([a1]:List JAF)).bind fun v15=>
(part a0 v13 (a0.length:Int)).bind fun v16=>
(apnd (α:=JAF) 24 v15 v16).bind fun v17=> some (v17,0)
def Cd (a0:JAI):Option ((List JAB)×(List JAF)×JAI):=
(AL a0 5).bind fun (v1,v2)=> AC (τ:=(List JAB)×JAI) (fun k3=> A7 (σ:=(List JAB)×Int×JAI) (fun next4 (v5,v6,v7)=> if (decide (v6 > 0)) then
(AL v7 4).bind fun (v8,v9)=>
(geti ([65000,65535,0,1]:List Int) v8).bind fun v10=>
(AL v9 5).bind fun (v11,v12)=>
(AL v12 4).bind fun (v13,v14)=>
(geti ([0,666,65535,(AI (1+v11))]:List Int) v13).bind fun v15=>
(Ik v5 (⟨v10,v15⟩:JAB)).bind fun (v16,v17)=> next4 (v16,(AI (v6-1)),v14) else k3 (v5,v7)
) fuel ([],v1,v2)
) fun (v18,v19)=>
(AL v19 4).bind fun (v20,v21)=> AC (τ:=(List JAF)×JAI) (fun k22=> A7 (σ:=(List JAF)×Int×JAI) (fun next23 (v24,v25,v26)=> if (decide (v25 > 0)) then
(AL v26 3).bind fun (v27,v28)=>
(geti ([65000,4294967295,0]:List Int) v27).bind fun v29=>
(AL v28 3).bind fun (v30,v31)=>
(AL v31 4).bind fun (v32,v33)=>
(Et v24 (⟨v29,v30,v32⟩:JAF)).bind fun (v34,v35)=> next23 (v34,(AI (v25-1)),v33) else k22 (v24,v26)
) fuel ([],v20,v21)
) fun (v36,v37)=> some (v18,v36,v37)
def EZ (a0:JAI)(a1:Int):Option ((List UInt8)×JAI):=
(AL a0 (AI (a1+1))).bind fun (v1,v2)=> AC (τ:=JAI×(List UInt8)) (fun k3=> A7 (σ:=Int×JAI×(List UInt8)) (fun next4 (v5,v6,v7)=> if (decide (v5 > 0)) then
(AL v6 256).bind fun (v8,v9)=>
(apnd (α:=UInt8) 1 v7 ([(Aa v8)]:List UInt8)).bind fun v10=> next4 ((AI (v5-1)),v9,v10) else k3 (v6,v7)
) fuel (v1,v2,[])
) fun (v11,v12)=> some (v12,v11)
def Ec (a0:JAI):Option (JAD×JAI):= AC (τ:=Unit) (fun k1=> k1 ()
) fun _=>
(AL a0 4).bind fun (v2,v3)=>
(FH v3).bind fun (v4,v5)=>
(Ib 3).bind fun v6=>
(Ku 4).bind fun v7=>
(AL v5 3).bind fun (v8,v9)=>
(geti ([(⟨false,(0:UInt64),(0:UInt64)⟩:Addr),v6,v7]:List Addr) v8).bind fun v10=>
(AL v9 4).bind fun (v11,v12)=>
(geti ([(-1),0,100,4294967295]:List Int) v11).bind fun v13=>
(AL v12 4).bind fun (v14,v15)=>
(geti ([(-1),0,100,4294967295]:List Int) v14).bind fun v16=>
(AL v15 3).bind fun (v17,v18)=>
(geti ([(-1),1,65000]:List Int) v17).bind fun v19=>
(Cd v18).bind fun (v20,v21,v22)=> AC (τ:=JAI×(List JAA)) (fun k23=> An (σ:=JAI×(List JAA)) (fun (v24,v25)=> k23 (v24,v25)
) (fun next26 (x27:Int) i28 (v24,v25)=>
(AL v24 6).bind fun (v29,v30)=> AC (τ:=JAI×(List JAA)) (fun k31=> if (v29==5) then
(EZ v30 9).bind fun (v32,v33)=>
(apnd (α:=JAA) 40 v25 ([(⟨224,x27,v32⟩:JAA)]:List JAA)).bind fun v34=> k31 (v33,v34) else k31 (v30,v25)
) fun (v35,v36)=> next26 (v35,v36)
) ([6,7,16,34,200,255]:List Int) 0 (v22,[])
) fun (v37,v38)=> some ((⟨(AI (v2-1)),v4,v10,v13,v16,v19,v20,v21,v38⟩:JAD),v37)
def Es (a0:JAI):Option (Addr×JAI):=
(AL a0 6).bind fun (v1,v2)=> if (v1==0) then
(AL v2 8).bind fun (v3,v4)=>
(AL v4 4).bind fun (v5,v6)=> some ((⟨false,(0:UInt64),(AW (AI ((AI (167772160+(AI (v3*(2^(min (Int.toNat 8) 64))))))+v5)))⟩:Addr),v6) else if (v1==1) then
(AL v2 4).bind fun (v7,v8)=>
(AL v8 8).bind fun (v9,v10)=> some ((⟨true,(AW (2306139568115548160+((AW v7).toNat:Int))),(AW v9)⟩:Addr),v10) else if (v1==2) then
(AL v2 5).bind fun (v11,v12)=>
(geti ([(0:UInt64),(1:UInt64),(4294967295:UInt64),(2147483647:UInt64),(2147483648:UInt64)]:List UInt64) v11).bind fun v13=> some ((⟨false,(0:UInt64),v13⟩:Addr),v12) else if (v1==3) then
(AL v2 4).bind fun (v14,v15)=>
(geti ([(0:UInt64),(1:UInt64),(18446744073709551615:UInt64),(9223372036854775808:UInt64)]:List UInt64) v14).bind fun v16=>
(AL v15 4).bind fun (v17,v18)=>
(geti ([(0:UInt64),(1:UInt64),(18446744073709551615:UInt64),(9223372036854775808:UInt64)]:List UInt64) v17).bind fun v19=> some ((⟨true,v16,v19⟩:Addr),v18) else if (v1==4) then
(AL v2 1073741824).bind fun (v20,v21)=>
(AL v21 5).bind fun (v22,v23)=>
(AL v23 1073741824).bind fun (v24,v25)=>
(AL v25 5).bind fun (v26,v27)=> some ((⟨true,(AW (((AW v20).toNat:Int)*(2^(min (Int.toNat ((AW (AI (v22*8))).toNat:Int)) 64)))),(AW (((AW v24).toNat:Int)*(2^(min (Int.toNat ((AW (AI (v26*8))).toNat:Int)) 64))))⟩:Addr),v27) else
(AL v2 1073741824).bind fun (v28,v29)=> some ((⟨false,(0:UInt64),(AW v28)⟩:Addr),v29)
def Dy (a0:Addr):Option Bool:= AC (τ:=Bool) (fun k1=> if a0.V6 then k1 true else if ((a0.Hi.toNat:Int)==0) then k1 (cond false true (cond true (decide ((a0.Lo.toNat:Int)<4294967296)) false)) else k1 false
) fun v2=> some v2
def D3 (a0:Addr):Option Int:= if a0.V6 then some 128 else some 32
def Bl (a0:Addr):Option (List UInt8):=
(Dy a0).bind fun v1=> if (!v1) then some [] else AC (τ:=Int) (fun k2=> if a0.V6 then k2 16 else k2 4
) fun v3=> AC (τ:=(List UInt8)) (fun k4=> A7 (σ:=Int×(List UInt8)) (fun next5 (v6,v7)=> if (decide (v6 ≥ 0)) then AC (τ:=UInt64) (fun k8=> if (decide (v6 ≥ 8)) then k8 a0.Hi else k8 a0.Lo
) fun v9=>
(apnd (α:=UInt8) 1 v7 ([(Aa ((AW (Int.fdiv (v9.toNat:Int) (2^(min (Int.toNat ((AW (8*((AW (Int.tmod v6 8)).toNat:Int))).toNat:Int)) 64)))).toNat:Int))]:List UInt8)).bind fun v10=> next5 ((AI (v6-1)),v10) else k4 v7
) fuel ((AI (v3-1)),[])
) fun v11=> some v11
def CY (a0:List UInt8):Option (Addr×Int):= AC (τ:=Bool) (fun k1=> if ((a0.length:Int) != 4) then k1 (cond true ((a0.length:Int) != 16) false) else k1 false
) fun v2=> if v2 then some ((⟨false,(0:UInt64),(0:UInt64)⟩:Addr),1) else AC (τ:=Addr) (fun k3=> An (σ:=Addr) (fun v4=> k3 v4
) (fun next5 (x6:UInt8) i7 v4=> next5 (⟨v4.V6,(AW ((BitVec.ofInt 64 ((AW ((v4.Hi.toNat:Int)*(2^(min (Int.toNat 8) 64)))).toNat:Int) ||| BitVec.ofInt 64 ((AW (Int.fdiv (v4.Lo.toNat:Int) (2^(min (Int.toNat 56) 64)))).toNat:Int)).toNat:Int)),(AW ((BitVec.ofInt 64 ((AW ((v4.Lo.toNat:Int)*(2^(min (Int.toNat 8) 64)))).toNat:Int) ||| BitVec.ofInt 64 ((AW (x6.toNat:Int)).toNat:Int)).toNat:Int))⟩:Addr)
) a0 0 (⟨((a0.length:Int)==16),(0:UInt64),(0:UInt64)⟩:Addr)
) fun v8=> some (v8,0)
def EC (a0:Addr)(a1:Int):Option (JAC×Int):=
(Dy a0).bind fun v1=> if (!v1) then some ((⟨(⟨false,(0:UInt64),(0:UInt64)⟩:Addr),0⟩:JAC),1) else AC (τ:=Bool) (fun k2=> if (decide (a1<0)) then k2 true else
(D3 a0).bind fun v3=> k2 (cond false true (decide (a1 > v3)))
) fun v4=> if v4 then some ((⟨(⟨false,(0:UInt64),(0:UInt64)⟩:Addr),0⟩:JAC),9) else
(Bl a0).bind fun v5=> AC (τ:=(List UInt8)) (fun k6=> A7 (σ:=Int×(List UInt8)) (fun next7 (v8,v9)=> if (decide (v8<(AI (8*(v9.length:Int))))) then
(geti v9 (AI (Int.tdiv v8 8))).bind fun v10=>
(geti v9 (AI (Int.tdiv v8 8))).bind fun v11=>
(seti v9 (AI (Int.tdiv v8 8)) (Aa ((BitVec.ofInt 8 (v10.toNat:Int) &&& ~~~BitVec.ofInt 8 ((Aa (Int.fdiv 128 (2^(min (Int.toNat ((AW (Int.tmod v8 8)).toNat:Int)) 8)))).toNat:Int)).toNat:Int))).bind fun v12=> next7 ((AI (v8+1)),v12) else k6 v9
) fuel (a1,v5)
) fun v13=>
(CY v13).bind fun (v14,v15)=> some ((⟨v14,a1⟩:JAC),0)
def Db (a0:JAI):Option (JAC×JAI):=
(Es a0).bind fun (v1,v2)=> AC (τ:=Int) (fun k3=> if v1.V6 then k3 128 else k3 32
) fun v4=>
(AL v2 4).bind fun (v5,v6)=> AC (τ:=Int×JAI) (fun k7=> if (v5==0) then
(AL v6 (AI (v4+1))).bind fun (v8,v9)=> k7 (v8,v9) else AC (τ:=Int×JAI) (fun k10=> if (v5==1) then
(AL v6 9).bind fun (v11,v12)=> k10 ((AI (v4-v11)),v12) else AC (τ:=Int×JAI) (fun k13=> if (v5==2) then
(AL v6 5).bind fun (v14,v15)=>
(geti ([8,22,23,24,16]:List Int) v14).bind fun v16=> k13 (v16,v15) else k13 (v4,v6)
) fun (v17,v18)=> k10 (v17,v18)
) fun (v19,v20)=> k7 (v19,v20)
) fun (v21,v22)=>
(EC v1 v21).bind fun (v23,v24)=> some (v23,v22)
def D1 (a0:JAC):Option Bool:=
(EC a0.Addr a0.Len).bind fun (v1,v2)=> AC (τ:=Bool) (fun k3=> if (v2==0) then k3 (cond true (JAC.eqd a0 v1) false) else k3 false
) fun v4=> some v4
def Bf (a0:Int):Option Int:= AC (τ:=Bool) (fun k1=> if (a0==1) then k1 (a0==1) else AC (τ:=Bool) (fun k2=> if (a0==2) then k2 (a0==2) else AC (τ:=Bool) (fun k3=> if (a0==3) then k3 (a0==3) else k3 (a0==5)
) fun v4=> k2 v4
) fun v5=> k1 v5
) fun v6=> if v6 then some 64 else if (a0==4) then some 128 else AC (τ:=Bool) (fun k7=> if (a0==8) then k7 (a0==8) else AC (τ:=Bool) (fun k8=> if (a0==32) then k8 (a0==32) else k8 (a0==35)
) fun v9=> k7 v9
) fun v10=> if v10 then some 192 else some 0
def DY (a0:Int):Option Bool:= AC (τ:=Bool) (fun k1=>
(Bf a0).bind fun v2=> if (v2==0) then if (cond true (a0 != 14) false) then k1 (cond true (a0 != 15) false) else k1 false else k1 false
) fun v3=> some v3
def F3 (a0:JAD):Option Bool:= AC (τ:=Unit) (fun k1=> An (σ:=Unit) (fun _=> k1 ()
) (fun next2 (x3:JAA) i4 _=> AC (τ:=Bool) (fun k5=> if (decide (x3.Type_<1)) then k5 true else if (cond false true (decide (x3.Type_ > 255))) then k5 true else
(DY x3.Type_).bind fun v6=> if (cond false true (!v6)) then k5 true else if (cond false true (x3.Flags != 224)) then k5 true else if (cond false true (decide ((x3.Data.length:Int) > 255))) then k5 true else if (decide ((i4:Int) > 0)) then
(geti a0.Other (AI ((i4:Int)-1))).bind fun v7=> k5 (cond false true (cond true (decide (v7.Type_ ≥ x3.Type_)) false)) else k5 false
) fun v8=> if v8 then some false else next2 ()
) a0.Other 0 ()
) fun _=> AC (τ:=Bool) (fun k9=> if (decide (a0.Origin ≥ (-1))) then if (cond true (decide (a0.Origin<=2)) false) then
(E0 a0.Path).bind fun v10=> if (cond true v10 false) then
(Dy a0.Next).bind fun v11=> if (cond true v11 false) then if (cond true (decide (a0.MED ≥ (-1))) false) then if (cond true (decide (a0.MED<=4294967295)) false) then if (cond true (decide (a0.Pref ≥ (-1))) false) then if (cond true (decide (a0.Pref<=4294967295)) false) then if (a0.OTC==(-1)) then
(E9 a0.Communities).bind fun v12=> if (cond true v12 false) then
(Ci a0.JAF).bind fun v13=> if (cond true v13 false) then k9 (cond true (decide ((a0.Other.length:Int)<=8)) false) else k9 false else k9 false else if (decide (a0.OTC ≥ 1)) then if (cond true (cond false true (cond true (decide (a0.OTC<=4294967295)) false)) false) then
(E9 a0.Communities).bind fun v14=> if (cond true v14 false) then
(Ci a0.JAF).bind fun v15=> if (cond true v15 false) then k9 (cond true (decide ((a0.Other.length:Int)<=8)) false) else k9 false else k9 false else k9 false else k9 false else k9 false else k9 false else k9 false else k9 false else k9 false else k9 false else k9 false else k9 false
) fun v16=> some v16
def EQ (a0:List JAE)(a1:List JAE):Option Bool:= if ((a0.length:Int) != (a1.length:Int)) then some false else AC (τ:=Unit) (fun k1=> An (σ:=Unit) (fun _=> k1 ()
) (fun next2 (x3:JAE) i4 _=> AC (τ:=Unit) (fun k5=> AC (τ:=Bool) (fun k6=>
(geti a1 (i4:Int)).bind fun v7=> if (!(x3.Set==v7.Set)) then k6 true else
(geti a1 (i4:Int)).bind fun v8=> k6 (cond false true ((x3.ASNs.length:Int) != (v8.ASNs.length:Int)))
) fun v9=> if v9 then some false else AC (τ:=Unit) (fun k10=> An (σ:=Unit) (fun _=> k10 ()
) (fun next11 (x12:Int) i13 _=>
(geti a1 (i4:Int)).bind fun v14=>
(geti v14.ASNs (i13:Int)).bind fun v15=> if (v15 != x12) then some false else next11 ()
) x3.ASNs 0 ()
) fun _=> k5 ()
) fun _=> next2 ()
) a0 0 ()
) fun _=> some true
def ER (a0:List JAB)(a1:List JAB):Option Bool:= if ((a0.length:Int) != (a1.length:Int)) then some false else AC (τ:=Unit) (fun k1=> An (σ:=Unit) (fun _=> k1 ()
) (fun next2 (x3:JAB) i4 _=>
(geti a1 (i4:Int)).bind fun v5=> if (!(JAB.eqd v5 x3)) then some false else next2 ()
) a0 0 ()
) fun _=> some true
def CH (a0:List JAF)(a1:List JAF):Option Bool:= if ((a0.length:Int) != (a1.length:Int)) then some false else AC (τ:=Unit) (fun k1=> An (σ:=Unit) (fun _=> k1 ()
) (fun next2 (x3:JAF) i4 _=>
(geti a1 (i4:Int)).bind fun v5=> if (!(JAF.eqd v5 x3)) then some false else next2 ()
) a0 0 ()
) fun _=> some true
def CV (a0:List JAA)(a1:List JAA):Option Bool:= if ((a0.length:Int) != (a1.length:Int)) then some false else AC (τ:=Unit) (fun k1=> An (σ:=Unit) (fun _=> k1 ()
) (fun next2 (x3:JAA) i4 _=> AC (τ:=Bool) (fun k5=>
(geti a1 (i4:Int)).bind fun v6=> if (x3.Flags != v6.Flags) then k5 true else
(geti a1 (i4:Int)).bind fun v7=> if (cond false true (x3.Type_ != v7.Type_)) then k5 true else
(geti a1 (i4:Int)).bind fun v8=> k5 (cond false true (!((bs x3.Data).toList==(bs v8.Data).toList)))
) fun v9=> if v9 then some false else next2 ()
) a0 0 ()
) fun _=> some true
def Dq (a0:JAD)(a1:JAD):Option Bool:= AC (τ:=Bool) (fun k1=> if (a0.Origin==a1.Origin) then
(EQ a0.Path a1.Path).bind fun v2=> if (cond true v2 false) then if (cond true (Addr.eqd a0.Next a1.Next) false) then if (cond true (a0.MED==a1.MED) false) then if (cond true (a0.Pref==a1.Pref) false) then if (cond true (a0.OTC==a1.OTC) false) then
(ER a0.Communities a1.Communities).bind fun v3=> if (cond true v3 false) then
(CH a0.JAF a1.JAF).bind fun v4=> if (cond true v4 false) then
(CV a0.Other a1.Other).bind fun v5=> k1 (cond true v5 false) else k1 false else k1 false else k1 false else k1 false else k1 false else k1 false else k1 false else k1 false
) fun v6=> some v6
def AT (a0:Int)(a1:Int):Option (List UInt8):= AC (τ:=(List UInt8)) (fun k1=> A7 (σ:=Int×(List UInt8)) (fun next2 (v3,v4)=> if (decide (v3 ≥ 0)) then
(apnd (α:=UInt8) 1 v4 ([(Aa (Int.fdiv a0 (2^(min (Int.toNat ((AW (8*((AW v3).toNat:Int))).toNat:Int)) 64))))]:List UInt8)).bind fun v5=> next2 ((AI (v3-1)),v5) else k1 v4
) fuel ((AI (a1-1)),[])
) fun v6=> some v6
def GB (a0:JAD):Option ((List JAA)×Int):=
(F3 a0).bind fun v1=> if (!v1) then some ([],1) else AC (τ:=(List (Int×(List UInt8)))) (fun k2=> if (decide (a0.Origin ≥ 0)) then k2 (C2 [] 1 ([(Aa a0.Origin)]:List UInt8)) else k2 []
) fun v3=> AC (τ:=Bool) (fun k4=> if (decide (a0.Origin ≥ 0)) then k4 true else k4 (cond false true (decide ((a0.Path.length:Int) > 0)))
) fun v5=> AC (τ:=(List (Int×(List UInt8)))) (fun k6=> if v5 then AC (τ:=(List UInt8)) (fun k7=> An (σ:=(List UInt8)) (fun v8=> k7 v8
) (fun next9 (x10:JAE) i11 v8=> AC (τ:=(List UInt8)) (fun k12=> AC (τ:=UInt8) (fun k13=> if x10.Set then k13 (1:UInt8) else k13 (2:UInt8)
) fun v14=>
(apnd (α:=UInt8) 1 v8 ([v14,(Aa (x10.ASNs.length:Int))]:List UInt8)).bind fun v15=> AC (τ:=(List UInt8)) (fun k16=> An (σ:=(List UInt8)) (fun v17=> k16 v17
) (fun next18 (x19:Int) i20 v17=>
(AT x19 4).bind fun v21=>
(apnd (α:=UInt8) 1 v17 v21).bind fun v22=> next18 v22
) x10.ASNs 0 v15
) fun v23=> k12 v23
) fun v24=> next9 v24
) a0.Path 0 ([]:List UInt8)
) fun v25=> k6 (C2 v3 2 v25) else k6 v3
) fun v26=> AC (τ:=Bool) (fun k27=> if (!(Addr.eqd a0.Next (⟨false,(0:UInt64),(0:UInt64)⟩:Addr))) then k27 (cond true (!a0.Next.V6) false) else k27 false
) fun v28=> AC (τ:=(List (Int×(List UInt8)))) (fun k29=> if v28 then
(Bl a0.Next).bind fun v30=> k29 (C2 v26 3 v30) else k29 v26
) fun v31=> AC (τ:=(List (Int×(List UInt8)))) (fun k32=> if (decide (a0.MED ≥ 0)) then
(AT a0.MED 4).bind fun v33=> k32 (C2 v31 4 v33) else k32 v31
) fun v34=> AC (τ:=(List (Int×(List UInt8)))) (fun k35=> if (decide (a0.Pref ≥ 0)) then
(AT a0.Pref 4).bind fun v36=> k35 (C2 v34 5 v36) else k35 v34
) fun v37=> AC (τ:=(List (Int×(List UInt8)))×(List UInt8)) (fun k38=>
(chk ((BC v37 8).isNone=true)).bind fun _=> An (σ:=(List (Int×(List UInt8)))×(List UInt8)) (fun (v39,v40)=> k38 (v39,v40)
) (fun next41 (x42:JAB) i43 (v39,v40)=>
(AT x42.A 2).bind fun v44=>
(apnd (α:=UInt8) 1 v40 v44).bind fun v45=>
(AT x42.B 2).bind fun v46=>
(apnd (α:=UInt8) 1 v45 v46).bind fun v47=> next41 ((C2 v39 8 v47),v47)
) a0.Communities 0 (v37,[])
) fun (v48,v49)=> AC (τ:=(List (Int×(List UInt8)))×(List UInt8)) (fun k50=>
(chk ((BC v48 32).isNone=true)).bind fun _=> An (σ:=(List (Int×(List UInt8)))×(List UInt8)) (fun (v51,v52)=> k50 (v51,v52)
) (fun next53 (x54:JAF) i55 (v51,v52)=>
(AT x54.A 4).bind fun v56=>
(apnd (α:=UInt8) 1 v52 v56).bind fun v57=>
(AT x54.B 4).bind fun v58=>
(apnd (α:=UInt8) 1 v57 v58).bind fun v59=>
(AT x54.C 4).bind fun v60=>
(apnd (α:=UInt8) 1 v59 v60).bind fun v61=> next53 ((C2 v51 32 v61),v61)
) a0.JAF 0 (v48,[])
) fun (v62,v63)=> AC (τ:=(List (Int×(List UInt8)))) (fun k64=> if (decide (a0.OTC ≥ 0)) then
(AT a0.OTC 4).bind fun v65=> k64 (C2 v62 35 v65) else k64 v62
) fun v66=> AC (τ:=(List JAA)) (fun k67=> A7 (σ:=Int×(List JAA)) (fun next68 (v69,v70)=> if (decide (v69<256)) then AC (τ:=(List JAA)) (fun k71=>
(some (Option.getD (BC v66 v69) [])).bind fun v72=>
(some (Option.isSome (BC v66 v69))).bind fun v73=> AC (τ:=(List JAA)) (fun k74=> if v73 then
(Bf v69).bind fun v75=>
(apnd (α:=UInt8) 1 [] v72).bind fun _=>
(apnd (α:=JAA) 40 v70 ([(⟨v75,v69,v72⟩:JAA)]:List JAA)).bind fun v76=> k74 v76 else k74 v70
) fun v77=> AC (τ:=(List JAA)) (fun k78=> An (σ:=(List JAA)) (fun v79=> k78 v79
) (fun next80 (x81:JAA) i82 v79=> AC (τ:=(List JAA)) (fun k83=> if (x81.Type_==v69) then
(apnd (α:=UInt8) 1 [] x81.Data).bind fun _=>
(apnd (α:=JAA) 40 v79 ([{ x81 with Type_:=v69 }]:List JAA)).bind fun v84=> k83 v84 else k83 v79
) fun v85=> next80 v85
) a0.Other 0 v77
) fun v86=> k71 v86
) fun v87=> next68 ((AI (v69+1)),v87) else k67 v70
) fuel (0,[])
) fun v88=> some (v88,0)
def Hn (a0:List JAA):Option ((List UInt8)×Int):= AC (τ:=Unit) (fun k1=> An (σ:=Unit) (fun _=> k1 ()
) (fun next2 (x3:JAA) i4 _=> AC (τ:=Bool) (fun k5=> if (decide (x3.Flags<0)) then k5 true else if (cond false true (decide (x3.Flags > 255))) then k5 true else if (cond false true (decide (x3.Type_<0))) then k5 true else if (cond false true (decide (x3.Type_ > 255))) then k5 true else k5 (cond false true (decide ((x3.Data.length:Int) > 65535)))
) fun v6=> if v6 then some ([],1) else next2 ()
) a0 0 ()
) fun _=> AC (τ:=(List UInt8)) (fun k7=> An (σ:=(List UInt8)) (fun v8=> k7 v8
) (fun next9 (x10:JAA) i11 v8=> AC (τ:=(List UInt8)) (fun k12=> if (decide ((x10.Data.length:Int) > 255)) then
(apnd (α:=UInt8) 1 v8 ([(Aa ((BitVec.ofInt 8 ((Aa ((BitVec.ofInt 8 ((Aa x10.Flags).toNat:Int) &&& BitVec.ofInt 8 224).toNat:Int)).toNat:Int) ||| BitVec.ofInt 8 16).toNat:Int)),(Aa x10.Type_),(Aa (Int.fdiv (x10.Data.length:Int) (2^(min (Int.toNat 8) 64)))),(Aa (x10.Data.length:Int))]:List UInt8)).bind fun v13=> k12 v13 else
(apnd (α:=UInt8) 1 v8 ([(Aa ((BitVec.ofInt 8 ((Aa x10.Flags).toNat:Int) &&& BitVec.ofInt 8 224).toNat:Int)),(Aa x10.Type_),(Aa (x10.Data.length:Int))]:List UInt8)).bind fun v14=> k12 v14
) fun v15=>
(apnd (α:=UInt8) 1 v15 x10.Data).bind fun v16=> next9 v16
) a0 0 []
) fun v17=> if (decide ((v17.length:Int) > 2048)) then some ([],3) else some (v17,0)
def EN (a0:List JAC)(a1:Bool):Option (List UInt8):= AC (τ:=(List UInt8)) (fun k1=> An (σ:=(List UInt8)) (fun v2=> k1 v2
) (fun next3 (x4:JAC) i5 v2=> AC (τ:=(List UInt8)) (fun k6=> if (x4.Addr.V6==a1) then
(apnd (α:=UInt8) 1 v2 ([(Aa x4.Len)]:List UInt8)).bind fun v7=>
(Bl x4.Addr).bind fun v8=>
(chk (0<=(0:Int)/\(0:Int)<=(AI (Int.tdiv (AI (x4.Len+7)) 8))/\(AI (Int.tdiv (AI (x4.Len+7)) 8))<=(v8.length:Int))).bind fun _=>
(apnd (α:=UInt8) 1 v7 (List.take (Int.toNat (AI (Int.tdiv (AI (x4.Len+7)) 8))-Int.toNat 0) (List.drop (Int.toNat 0) v8))).bind fun v9=> k6 v9 else k6 v2
) fun v10=> next3 v10
) a0 0 []
) fun v11=> some v11
def F8 (a0:List JAA)(a1:JAA):Option (List JAA):= AC (τ:=Int) (fun k1=> A7 (σ:=Int) (fun next2 v3=> AC (τ:=Bool) (fun k4=> if (decide (v3<(a0.length:Int))) then
(geti a0 v3).bind fun v5=> k4 (cond true (decide (v5.Type_<a1.Type_)) false) else k4 false
) fun v6=> if v6 then next2 (AI (v3+1)) else k1 v3
) fuel 0
) fun v7=>
(part a0 0 v7).bind fun v8=>
(apnd (α:=JAA) 40 [] v8).bind fun _=>
(apnd (α:=JAA) 40 v8 ([a1]:List JAA)).bind fun v9=>
(part a0 v7 (a0.length:Int)).bind fun v10=>
(apnd (α:=JAA) 40 v9 v10).bind fun v11=> some v11
def F7 (a0:JAG):Option ((List UInt8)×Int):= AC (τ:=(List JAA)) (fun k1=> if (decide ((a0.Announce.length:Int) > 0)) then
(GB a0.JAD).bind fun (v2,v3)=> if (v3 != 0) then some ([],v3) else k1 v2 else k1 []
) fun v4=>
(EN a0.Announce true).bind fun v5=> AC (τ:=(List JAA)) (fun k6=> if (decide ((v5.length:Int) > 0)) then
(Bl a0.JAD.Next).bind fun v7=>
(apnd (α:=UInt8) 1 ([(0:UInt8),(2:UInt8),(1:UInt8),(16:UInt8)]:List UInt8) v7).bind fun v8=>
(apnd (α:=UInt8) 1 v8 ([(0:UInt8)]:List UInt8)).bind fun v9=>
(apnd (α:=UInt8) 1 v9 v5).bind fun v10=>
(F8 v4 (⟨128,14,v10⟩:JAA)).bind fun v11=> k6 v11 else k6 v4
) fun v12=>
(EN a0.Withdraw true).bind fun v13=> AC (τ:=(List JAA)) (fun k14=> if (decide ((v13.length:Int) > 0)) then
(apnd (α:=UInt8) 1 ([(0:UInt8),(2:UInt8),(1:UInt8)]:List UInt8) v13).bind fun v15=>
(F8 v12 (⟨128,15,v15⟩:JAA)).bind fun v16=> k14 v16 else k14 v12
) fun v17=>
(Hn v17).bind fun (v18,v19)=> if (v19 != 0) then some ([],v19) else
(EN a0.Withdraw false).bind fun v20=>
(apnd (α:=UInt8) 1 ([(Aa (Int.fdiv (v20.length:Int) (2^(min (Int.toNat 8) 64)))),(Aa (v20.length:Int))]:List UInt8) v20).bind fun v21=>
(apnd (α:=UInt8) 1 v21 ([(Aa (Int.fdiv (v18.length:Int) (2^(min (Int.toNat 8) 64)))),(Aa (v18.length:Int))]:List UInt8)).bind fun v22=>
(apnd (α:=UInt8) 1 v22 v18).bind fun v23=>
(EN a0.Announce false).bind fun v24=>
(apnd (α:=UInt8) 1 v23 v24).bind fun v25=> some (v25,0)
def G4 (a0:JAG):Option Bool:= AC (τ:=Bool) (fun k1=> if (decide ((a0.Withdraw.length:Int) > 256)) then k1 true else k1 (cond false true (decide ((a0.Announce.length:Int) > 256)))
) fun v2=> if v2 then some false else
(apnd (α:=JAC) 32 [] a0.Withdraw).bind fun _=>
(apnd (α:=JAC) 32 a0.Withdraw a0.Announce).bind fun v3=> AC (τ:=Unit) (fun k4=> An (σ:=Unit) (fun _=> k4 ()
) (fun next5 (x6:JAC) i7 _=>
(D1 x6).bind fun v8=> if (!v8) then some false else next5 ()
) v3 0 ()
) fun _=> AC (τ:=Bool) (fun k9=> if ((a0.Announce.length:Int)==0) then
(E7).bind fun v10=>
(Dq a0.JAD v10).bind fun v11=> k9 (cond true (!v11) false) else k9 false
) fun v12=> if v12 then some false else AC (τ:=Unit) (fun k13=> An (σ:=Unit) (fun _=> k13 ()
) (fun next14 (x15:JAC) i16 _=> AC (τ:=Bool) (fun k17=> if (!(x15.Addr.V6==a0.JAD.Next.V6)) then k17 true else if (cond false true (a0.JAD.Origin==(-1))) then k17 true else if (cond false true (Addr.eqd a0.JAD.Next (⟨false,(0:UInt64),(0:UInt64)⟩:Addr))) then k17 true else
(F3 a0.JAD).bind fun v18=> k17 (cond false true (!v18))
) fun v19=> if v19 then some false else next14 ()
) a0.Announce 0 ()
) fun _=>
(F7 a0).bind fun (v20,v21)=> AC (τ:=Bool) (fun k22=> if (v21==0) then k22 (cond true (decide ((v20.length:Int)<=4077)) false) else k22 false
) fun v23=> some v23
def EG (a0:JAI):Option (JAG×JAI):= AC (τ:=Unit) (fun k1=> k1 ()
) fun _=>
(AL a0 5).bind fun (v2,v3)=> AC (τ:=JAI×(List JAC)) (fun k4=> A7 (σ:=Int×JAI×(List JAC)) (fun next5 (v6,v7,v8)=> if (decide (v6 > 0)) then
(Db v7).bind fun (v9,v10)=>
(apnd (α:=JAC) 32 v8 ([v9]:List JAC)).bind fun v11=> next5 ((AI (v6-1)),v10,v11) else k4 (v7,v8)
) fuel (v2,v3,[])
) fun (v12,v13)=>
(AL v12 4).bind fun (v14,v15)=> if (v14==3) then some ((⟨v13,(⟨(-1),[],(⟨false,(0:UInt64),(0:UInt64)⟩:Addr),(-1),(-1),(-1),[],[],[]⟩:JAD),[]⟩:JAG),v15) else
(AL v15 2).bind fun (v16,v17)=>
(AL v17 6).bind fun (v18,v19)=> AC (τ:=JAI×(List JAC)) (fun k20=> A7 (σ:=Int×JAI×(List JAC)) (fun next21 (v22,v23,v24)=> if (decide (v22 > 0)) then
(Db v23).bind fun (v25,v26)=> AC (τ:=(List JAC)) (fun k27=> if (v25.Addr.V6==(v16==1)) then
(apnd (α:=JAC) 32 v24 ([v25]:List JAC)).bind fun v28=> k27 v28 else k27 v24
) fun v29=> next21 ((AI (v22-1)),v26,v29) else k20 (v23,v24)
) fuel (v18,v19,[])
) fun (v30,v31)=> if ((v31.length:Int)==0) then some ((⟨v13,(⟨(-1),[],(⟨false,(0:UInt64),(0:UInt64)⟩:Addr),(-1),(-1),(-1),[],[],[]⟩:JAD),v31⟩:JAG),v30) else
(Ec v30).bind fun (v32,v33)=>
(Ib 5).bind fun v34=> AC (τ:=Bool×UInt64×UInt64) (fun k35=> if (v16==1) then
(Ku 5).bind fun v36=> k35 (v36.V6,v36.Hi,v36.Lo) else k35 (v34.V6,v34.Hi,v34.Lo)
) fun (v37,v38,v39)=>
(G4 (⟨v13,{ v32 with Origin:=(if v32.Origin > 0 then v32.Origin else 0),Next:=(⟨v37,v38,v39⟩:Addr) },v31⟩:JAG)).bind fun v40=> if (!v40) then AC (τ:=Unit) (fun k41=> k41 ()
) fun _=> some ((⟨[],(⟨(-1),[],(⟨false,(0:UInt64),(0:UInt64)⟩:Addr),(-1),(-1),(-1),[],[],[]⟩:JAD),[]⟩:JAG),v33) else some ((⟨v13,{ v32 with Origin:=(if v32.Origin > 0 then v32.Origin else 0),Next:=(⟨v37,v38,v39⟩:Addr) },v31⟩:JAG),v33)
def Fp (a0:List UInt8)(a1:Int):Option (List UInt8):=
(apnd (α:=UInt8) 1 a0 ([(Aa (Int.fdiv a1 (2^(min (Int.toNat 8) 64)))),(Aa a1)]:List UInt8)).bind fun v1=> some v1
def A9 (a0:Int)(a1:Int)(a2:Int):Option Bool:= AC (τ:=Bool) (fun k1=> if (decide (a0 ≥ a1)) then k1 (cond true (decide (a0<=a2)) false) else k1 false
) fun v2=> some v2
def Do (a0:List JAA):Option ((List UInt8)×Int):= AC (τ:=Unit) (fun k1=> An (σ:=Unit) (fun _=> k1 ()
) (fun next2 (x3:JAA) i4 _=> AC (τ:=Bool) (fun k5=>
(A9 x3.Flags 0 255).bind fun v6=> if (!v6) then k5 true else
(A9 x3.Type_ 0 255).bind fun v7=> if (cond false true (!v7)) then k5 true else k5 (cond false true (decide ((x3.Data.length:Int) > 65535)))
) fun v8=> if v8 then some ([],1) else next2 ()
) a0 0 ()
) fun _=> AC (τ:=(List UInt8)) (fun k9=> An (σ:=(List UInt8)) (fun v10=> k9 v10
) (fun next11 (x12:JAA) i13 v10=> AC (τ:=(List UInt8)) (fun k14=> if (decide ((x12.Data.length:Int) > 255)) then
(apnd (α:=UInt8) 1 v10 ([(Aa ((BitVec.ofInt 8 ((Aa ((BitVec.ofInt 8 ((Aa x12.Flags).toNat:Int) &&& BitVec.ofInt 8 224).toNat:Int)).toNat:Int) ||| BitVec.ofInt 8 16).toNat:Int)),(Aa x12.Type_),(Aa (Int.fdiv (x12.Data.length:Int) (2^(min (Int.toNat 8) 64)))),(Aa (x12.Data.length:Int))]:List UInt8)).bind fun v15=> k14 v15 else
(apnd (α:=UInt8) 1 v10 ([(Aa ((BitVec.ofInt 8 ((Aa x12.Flags).toNat:Int) &&& BitVec.ofInt 8 224).toNat:Int)),(Aa x12.Type_),(Aa (x12.Data.length:Int))]:List UInt8)).bind fun v16=> k14 v16
) fun v17=>
(apnd (α:=UInt8) 1 v17 x12.Data).bind fun v18=> if (decide ((v18.length:Int) > 2048)) then some ([],3) else next11 v18
) a0 0 []
) fun v19=> some (v19,0)
def E8 (a0:Addr):Option Bool:= AC (τ:=Bool) (fun k1=> if a0.V6 then k1 true else if ((a0.Hi.toNat:Int)==0) then k1 (cond false true (cond true (decide ((a0.Lo.toNat:Int)<4294967296)) false)) else k1 false
) fun v2=> some v2
def BQ (a0:Addr):Option (List UInt8):=
(E8 a0).bind fun v1=> if (!v1) then some [] else AC (τ:=Int) (fun k2=> if a0.V6 then k2 16 else k2 4
) fun v3=>
(chk (0<=v3/\v3<=v3/\v3<=1048576)).bind fun _=> AC (τ:=(List UInt8)) (fun k4=> A7 (σ:=Int×Addr×(List UInt8)) (fun next5 (v6,v7,v8)=> if (decide (v6 ≥ 0)) then
(geti v8 v6).bind fun v9=>
(seti v8 v6 (Aa (v7.Lo.toNat:Int))).bind fun v10=> next5 ((AI (v6-1)),(⟨v7.V6,(AW (Int.fdiv (v7.Hi.toNat:Int) (2^(min (Int.toNat 8) 64)))),(AW ((BitVec.ofInt 64 ((AW (Int.fdiv (v7.Lo.toNat:Int) (2^(min (Int.toNat 8) 64)))).toNat:Int) ||| BitVec.ofInt 64 ((AW ((v7.Hi.toNat:Int)*(2^(min (Int.toNat 56) 64)))).toNat:Int)).toNat:Int))⟩:Addr),v10) else k4 v8
) fuel ((AI (v3-1)),a0,(List.replicate (Int.toNat v3) (0:UInt8)))
) fun v11=> some v11
def DX (a0:List UInt8)(a1:List JAC)(a2:Bool):Option (List UInt8):= AC (τ:=(List UInt8)) (fun k1=> An (σ:=(List UInt8)) (fun v2=> k1 v2
) (fun next3 (x4:JAC) i5 v2=> AC (τ:=(List UInt8)) (fun k6=> if (x4.Addr.V6==a2) then
(apnd (α:=UInt8) 1 v2 ([(Aa x4.Len)]:List UInt8)).bind fun v7=>
(BQ x4.Addr).bind fun v8=>
(part v8 0 (AI (Int.tdiv (AI (x4.Len+7)) 8))).bind fun v9=>
(apnd (α:=UInt8) 1 v7 v9).bind fun v10=> k6 v10 else k6 v2
) fun v11=> next3 v11
) a1 0 a0
) fun v12=> some v12
def EB (a0:Int):Option Bool:= AC (τ:=Bool) (fun k1=> if (decide (a0 ≥ 1)) then k1 (cond true (decide (a0<=4294967295)) false) else k1 false
) fun v2=> some v2
def FP (a0:List JAE):Option Bool:= AC (τ:=Int) (fun k1=> An (σ:=Int) (fun v2=> k1 v2
) (fun next3 (x4:JAE) i5 v2=> AC (τ:=Unit) (fun k6=> AC (τ:=Bool) (fun k7=> if ((x4.ASNs.length:Int)==0) then k7 true else if (decide ((i5:Int) > 0)) then if (cond true (!x4.Set) false) then
(geti a0 (AI ((i5:Int)-1))).bind fun v8=> k7 (cond false true (cond true (!v8.Set) false)) else k7 false else k7 false
) fun v9=> if v9 then some false else AC (τ:=Unit) (fun k10=> An (σ:=Unit) (fun _=> k10 ()
) (fun next11 (x12:Int) i13 _=> AC (τ:=Bool) (fun k14=>
(EB x12).bind fun v15=> if (!v15) then k14 true else if x4.Set then if (cond true (decide ((i13:Int) > 0)) false) then
(geti x4.ASNs (AI ((i13:Int)-1))).bind fun v16=> k14 (cond false true (cond true (decide (v16 ≥ x12)) false)) else k14 false else k14 false
) fun v17=> if v17 then some false else next11 ()
) x4.ASNs 0 ()
) fun _=> k6 ()
) fun _=> next3 (AI (v2+(x4.ASNs.length:Int)))
) a0 0 0
) fun v18=> some (decide (v18<=64))
def Dn (a0:List Int):Option Int:= if (decide ((a0.length:Int)<1)) then none else
(geti a0 0).bind fun v1=> AC (τ:=Int) (fun k2=> A7 (σ:=Int×Int) (fun next3 (v4,v5)=> if (decide (v5<(a0.length:Int))) then
(geti a0 v5).bind fun v6=> next3 ((if v6<v4 then v6 else v4),(AI (v5+1))) else k2 v4
) fuel (v1,1)
) fun v7=> some v7
def Dm (a0:List Int):Option Int:= if (decide ((a0.length:Int)<1)) then none else
(geti a0 0).bind fun v1=> AC (τ:=Int) (fun k2=> A7 (σ:=Int×Int) (fun next3 (v4,v5)=> if (decide (v5<(a0.length:Int))) then
(geti a0 v5).bind fun v6=> next3 ((if v6 > v4 then v6 else v4),(AI (v5+1))) else k2 v4
) fuel (v1,1)
) fun v7=> some v7
def Di (a0:Int)(a1:List Int):Option Bool:= AC (τ:=Bool) (fun k1=>
(Dn a1).bind fun v2=> if (decide (v2 ≥ 0)) then
(Dm a1).bind fun v3=> k1 (cond true (decide (v3<=a0)) false) else k1 false
) fun v4=> some v4
def Ew (a0:JAB):Option Bool:=
(Di 65535 ([a0.A,a0.B]:List Int)).bind fun v1=> some v1
def cmp_isNaN_int (a0:Int):Option Bool:= some (a0 != a0)
def cmp_Compare_int (a0:Int)(a1:Int):Option Int:=
(cmp_isNaN_int a0).bind fun v1=>
(cmp_isNaN_int a1).bind fun v2=> if v1 then if v2 then some 0 else some (-1) else if v2 then some 1 else if (decide (a0<a1)) then some (-1) else if (decide (a0 > a1)) then some 1 else some 0
def FK (a0:List Int):Option Int:= AC (τ:=Unit) (fun k1=> An (σ:=Unit) (fun _=> k1 ()
) (fun next2 (x3:Int) i4 _=> if (x3 != 0) then some x3 else next2 ()
) a0 0 ()
) fun _=> some 0
def EA (a0:JAB)(a1:JAB):Option Int:=
(cmp_Compare_int a0.A a1.A).bind fun v1=>
(cmp_Compare_int a0.B a1.B).bind fun v2=>
(FK ([v1,v2]:List Int)).bind fun v3=> some v3
def Ag (a0:List JAB):Option Bool:= AC (τ:=Unit) (fun k1=> An (σ:=Unit) (fun _=> k1 ()
) (fun next2 (x3:JAB) i4 _=> AC (τ:=Bool) (fun k5=>
(Ew x3).bind fun v6=> if (!v6) then k5 true else if (decide ((i4:Int) > 0)) then
(geti a0 (AI ((i4:Int)-1))).bind fun v7=>
(EA v7 x3).bind fun v8=> k5 (cond false true (cond true (decide (v8 ≥ 0)) false)) else k5 false
) fun v9=> if v9 then some false else next2 ()
) a0 0 ()
) fun _=> some (decide ((a0.length:Int)<=64))
def DN (a0:List JAB):Option Bool:=
(Ag a0).bind fun v1=> some v1
def DR (a0:JAF):Option Bool:=
(Di 4294967295 ([a0.A,a0.B,a0.C]:List Int)).bind fun v1=> some v1
def CW (a0:JAF)(a1:JAF):Option Int:=
(cmp_Compare_int a0.A a1.A).bind fun v1=>
(cmp_Compare_int a0.B a1.B).bind fun v2=>
(cmp_Compare_int a0.C a1.C).bind fun v3=>
(FK ([v1,v2,v3]:List Int)).bind fun v4=> some v4
def Ab (a0:List JAF):Option Bool:= AC (τ:=Unit) (fun k1=> An (σ:=Unit) (fun _=> k1 ()
) (fun next2 (x3:JAF) i4 _=> AC (τ:=Bool) (fun k5=>
(DR x3).bind fun v6=> if (!v6) then k5 true else if (decide ((i4:Int) > 0)) then
(geti a0 (AI ((i4:Int)-1))).bind fun v7=>
(CW v7 x3).bind fun v8=> k5 (cond false true (cond true (decide (v8 ≥ 0)) false)) else k5 false
) fun v9=> if v9 then some false else next2 ()
) a0 0 ()
) fun _=> some (decide ((a0.length:Int)<=64))
def Bg (a0:List JAF):Option Bool:=
(Ab a0).bind fun v1=> some v1
def Ba (a0:Int):Option Bool:= AC (τ:=Bool) (fun k1=>
(some (Option.getD (BC Bz a0) 0)).bind fun v2=> if (v2==0) then if (cond true (a0 != 14) false) then k1 (cond true (a0 != 15) false) else k1 false else k1 false
) fun v3=> some v3
def Df (a0:List JAA):Option Bool:= AC (τ:=Unit) (fun k1=> An (σ:=Unit) (fun _=> k1 ()
) (fun next2 (x3:JAA) i4 _=> AC (τ:=Bool) (fun k5=>
(Ba x3.Type_).bind fun v6=> if (!v6) then k5 true else
(A9 x3.Type_ 1 255).bind fun v7=> if (cond false true (!v7)) then k5 true else if (cond false true (x3.Flags != 224)) then k5 true else if (cond false true (decide ((x3.Data.length:Int) > 255))) then k5 true else if (decide ((i4:Int) > 0)) then
(geti a0 (AI ((i4:Int)-1))).bind fun v8=> k5 (cond false true (cond true (decide (v8.Type_ ≥ x3.Type_)) false)) else k5 false
) fun v9=> if v9 then some false else next2 ()
) a0 0 ()
) fun _=> some (decide ((a0.length:Int)<=8))
def DO (a0:JAD):Option Bool:= AC (τ:=Bool) (fun k1=>
(A9 a0.Origin (-1) 2).bind fun v2=> if v2 then
(FP a0.Path).bind fun v3=> if (cond true v3 false) then
(E8 a0.Next).bind fun v4=> if (cond true v4 false) then
(A9 a0.MED (-1) 4294967295).bind fun v5=> if (cond true v5 false) then
(A9 a0.Pref (-1) 4294967295).bind fun v6=> if (cond true v6 false) then if (a0.OTC==(-1)) then
(DN a0.Communities).bind fun v7=> if (cond true v7 false) then
(Bg a0.JAF).bind fun v8=> if (cond true v8 false) then
(Df a0.Other).bind fun v9=> k1 (cond true v9 false) else k1 false else k1 false else
(EB a0.OTC).bind fun v10=> if (cond true (cond false true v10) false) then
(DN a0.Communities).bind fun v11=> if (cond true v11 false) then
(Bg a0.JAF).bind fun v12=> if (cond true v12 false) then
(Df a0.Other).bind fun v13=> k1 (cond true v13 false) else k1 false else k1 false else k1 false else k1 false else k1 false else k1 false else k1 false else k1 false
) fun v14=> some v14
def A8 (a0:List UInt8):Option (List UInt8):=
(apnd (α:=UInt8) 1 ([]:List UInt8) a0).bind fun v1=> some v1
def DZ (a0:List UInt8)(a1:List Int):Option (List UInt8):= AC (τ:=(List UInt8)) (fun k1=> An (σ:=(List UInt8)) (fun v2=> k1 v2
) (fun next3 (x4:Int) i5 v2=>
(apnd (α:=UInt8) 1 v2 ([(Aa (Int.fdiv x4 (2^(min (Int.toNat 24) 64)))),(Aa (Int.fdiv x4 (2^(min (Int.toNat 16) 64)))),(Aa (Int.fdiv x4 (2^(min (Int.toNat 8) 64)))),(Aa x4)]:List UInt8)).bind fun v6=> next3 v6
) a1 0 a0
) fun v7=> some v7
def Bh (a0:List JAE):Option (List UInt8):= AC (τ:=(List UInt8)) (fun k1=> An (σ:=(List UInt8)) (fun v2=> k1 v2
) (fun next3 (x4:JAE) i5 v2=> AC (τ:=UInt8) (fun k6=> if x4.Set then k6 (1:UInt8) else k6 (2:UInt8)
) fun v7=>
(apnd (α:=UInt8) 1 v2 ([v7,(Aa (x4.ASNs.length:Int))]:List UInt8)).bind fun v8=>
(DZ v8 x4.ASNs).bind fun v9=> next3 v9
) a0 0 []
) fun v10=> some v10
def B6 (a0:List JAB):Option (List UInt8):= AC (τ:=(List UInt8)) (fun k1=> An (σ:=(List UInt8)) (fun v2=> k1 v2
) (fun next3 (x4:JAB) i5 v2=>
(DZ v2 ([(AI ((BitVec.ofInt 64 (AI (x4.A*(2^(min (Int.toNat 16) 64)))) ||| BitVec.ofInt 64 x4.B).toNat:Int))]:List Int)).bind fun v6=> next3 v6
) a0 0 []
) fun v7=> some v7
def Dw (a0:List JAF):Option (List UInt8):= AC (τ:=(List UInt8)) (fun k1=> An (σ:=(List UInt8)) (fun v2=> k1 v2
) (fun next3 (x4:JAF) i5 v2=>
(DZ v2 ([x4.A,x4.B,x4.C]:List Int)).bind fun v6=> next3 v6
) a0 0 []
) fun v7=> some v7
def DL (a0:JAA)(a1:JAA):Option Int:=
(cmp_Compare_int a0.Type_ a1.Type_).bind fun v1=> some v1
def BL (a1:List Int):Option (List UInt8):= AC (τ:=(List UInt8)) (fun k1=> An (σ:=(List UInt8)) (fun v2=> k1 v2
) (fun next3 (x4:Int) i5 v2=>
(apnd (α:=UInt8) 1 v2 ([(Aa (Int.fdiv x4 (2^(min (Int.toNat 24) 64)))),(Aa (Int.fdiv x4 (2^(min (Int.toNat 16) 64)))),(Aa (Int.fdiv x4 (2^(min (Int.toNat 8) 64)))),(Aa x4)]:List UInt8)).bind fun v6=> next3 v6
) a1 0 []
) fun v7=> some v7
def Fa (a0:JAA)(a1:JAA):Option Int:=
(cmp_Compare_int a0.Type_ a1.Type_).bind fun v1=> some v1
def C3 (a1:List JAC)(a2:Bool):Option (List UInt8):= AC (τ:=(List UInt8)) (fun k1=> An (σ:=(List UInt8)) (fun v2=> k1 v2
) (fun next3 (x4:JAC) i5 v2=> AC (τ:=(List UInt8)) (fun k6=> if (x4.Addr.V6==a2) then
(apnd (α:=UInt8) 1 v2 ([(Aa x4.Len)]:List UInt8)).bind fun v7=>
(BQ x4.Addr).bind fun v8=>
(part v8 0 (AI (Int.tdiv (AI (x4.Len+7)) 8))).bind fun v9=>
(apnd (α:=UInt8) 1 v7 v9).bind fun v10=> k6 v10 else k6 v2
) fun v11=> next3 v11
) a1 0 []
) fun v12=> some v12
def Eo (a0:JAG):Option (List JAA):= AC (τ:=Int×(List JAA)) (fun k1=>
(DO a0.JAD).bind fun v2=> if (!v2) then k1 (1,[]) else AC (τ:=(List JAA)) (fun k3=> AC (τ:=(List JAA)) (fun k4=> if (a0.JAD.Origin != (-1)) then
(some (Option.getD (BC Bz 1) 0)).bind fun v5=>
(apnd (α:=JAA) 40 [] ([(⟨v5,1,([(Aa a0.JAD.Origin)]:List UInt8)⟩:JAA)]:List JAA)).bind fun _=> k4 ([(⟨v5,1,([(Aa a0.JAD.Origin)]:List UInt8)⟩:JAA)]:List JAA) else k4 []
) fun v6=> k3 v6
) fun v7=> AC (τ:=(List JAA)) (fun k8=> if (a0.JAD.Origin != (-1)) then
(Bh a0.JAD.Path).bind fun v9=> AC (τ:=(List JAA)) (fun k10=>
(some (Option.getD (BC Bz 2) 0)).bind fun v11=>
(apnd (α:=JAA) 40 v7 ([(⟨v11,2,v9⟩:JAA)]:List JAA)).bind fun v12=> k10 v12
) fun v13=> k8 v13 else
(Bh a0.JAD.Path).bind fun v14=> AC (τ:=(List JAA)) (fun k15=> AC (τ:=(List JAA)) (fun k16=> if (cond false true (decide ((a0.JAD.Path.length:Int) > 0))) then
(some (Option.getD (BC Bz 2) 0)).bind fun v17=>
(apnd (α:=JAA) 40 v7 ([(⟨v17,2,v14⟩:JAA)]:List JAA)).bind fun v18=> k16 v18 else k16 v7
) fun v19=> k15 v19
) fun v20=> k8 v20
) fun v21=> AC (τ:=(List JAA)) (fun k22=> if (!a0.JAD.Next.V6) then
(BQ a0.JAD.Next).bind fun v23=> AC (τ:=(List JAA)) (fun k24=> AC (τ:=(List JAA)) (fun k25=> if (cond true (!(Addr.eqd a0.JAD.Next (⟨false,(0:UInt64),(0:UInt64)⟩:Addr))) false) then
(some (Option.getD (BC Bz 3) 0)).bind fun v26=>
(apnd (α:=JAA) 40 v21 ([(⟨v26,3,v23⟩:JAA)]:List JAA)).bind fun v27=> k25 v27 else k25 v21
) fun v28=> k24 v28
) fun v29=> k22 v29 else
(BQ a0.JAD.Next).bind fun v30=> AC (τ:=Unit) (fun k31=> k31 ()
) fun _=> k22 v21
) fun v32=>
(BL ([a0.JAD.MED]:List Int)).bind fun v33=> AC (τ:=(List JAA)) (fun k34=> AC (τ:=(List JAA)) (fun k35=> if (a0.JAD.MED != (-1)) then
(some (Option.getD (BC Bz 4) 0)).bind fun v36=>
(apnd (α:=JAA) 40 v32 ([(⟨v36,4,v33⟩:JAA)]:List JAA)).bind fun v37=> k35 v37 else k35 v32
) fun v38=> k34 v38
) fun v39=>
(BL ([a0.JAD.Pref]:List Int)).bind fun v40=> AC (τ:=(List JAA)) (fun k41=> AC (τ:=(List JAA)) (fun k42=> if (a0.JAD.Pref != (-1)) then
(some (Option.getD (BC Bz 5) 0)).bind fun v43=>
(apnd (α:=JAA) 40 v39 ([(⟨v43,5,v40⟩:JAA)]:List JAA)).bind fun v44=> k42 v44 else k42 v39
) fun v45=> k41 v45
) fun v46=>
(B6 a0.JAD.Communities).bind fun v47=> AC (τ:=(List JAA)) (fun k48=> AC (τ:=(List JAA)) (fun k49=> if (decide ((a0.JAD.Communities.length:Int) > 0)) then
(some (Option.getD (BC Bz 8) 0)).bind fun v50=>
(apnd (α:=JAA) 40 v46 ([(⟨v50,8,v47⟩:JAA)]:List JAA)).bind fun v51=> k49 v51 else k49 v46
) fun v52=> k48 v52
) fun v53=>
(Dw a0.JAD.JAF).bind fun v54=> AC (τ:=(List JAA)) (fun k55=> AC (τ:=(List JAA)) (fun k56=> if (decide ((a0.JAD.JAF.length:Int) > 0)) then
(some (Option.getD (BC Bz 32) 0)).bind fun v57=>
(apnd (α:=JAA) 40 v53 ([(⟨v57,32,v54⟩:JAA)]:List JAA)).bind fun v58=> k56 v58 else k56 v53
) fun v59=> k55 v59
) fun v60=>
(BL ([a0.JAD.OTC]:List Int)).bind fun v61=> AC (τ:=(List JAA)) (fun k62=> AC (τ:=(List JAA)) (fun k63=> if (a0.JAD.OTC != (-1)) then
(some (Option.getD (BC Bz 35) 0)).bind fun v64=>
(apnd (α:=JAA) 40 v60 ([(⟨v64,35,v61⟩:JAA)]:List JAA)).bind fun v65=> k63 v65 else k63 v60
) fun v66=> k62 v66
) fun v67=> AC (τ:=(List JAA)) (fun k68=> An (σ:=(List JAA)) (fun v69=> k68 v69
) (fun next70 (x71:JAA) i72 v69=>
(A8 x71.Data).bind fun v73=>
(apnd (α:=JAA) 40 v69 ([{ x71 with Data:=v73 }]:List JAA)).bind fun v74=> next70 v74
) a0.JAD.Other 0 v67
) fun v75=>
(EP DL v75).bind fun v76=> k1 (0,v76)
) fun (v77,v78)=> AC (τ:=Bool) (fun k79=> if (decide ((a0.Announce.length:Int) > 0)) then k79 (cond true a0.JAD.Next.V6 false) else k79 false
) fun v80=> AC (τ:=(List JAA)) (fun k81=> if v80 then
(BQ a0.JAD.Next).bind fun v82=>
(apnd (α:=UInt8) 1 ([(0:UInt8),(2:UInt8),(1:UInt8),(16:UInt8)]:List UInt8) v82).bind fun v83=>
(apnd (α:=UInt8) 1 v83 ([(0:UInt8)]:List UInt8)).bind fun v84=>
(DX v84 a0.Announce true).bind fun v85=>
(apnd (α:=JAA) 40 v78 ([(⟨128,14,v85⟩:JAA)]:List JAA)).bind fun v86=> k81 v86 else k81 v78
) fun v87=>
(C3 a0.Withdraw true).bind fun v88=> AC (τ:=(List JAA)) (fun k89=> if (decide ((v88.length:Int) > 0)) then
(apnd (α:=UInt8) 1 ([(0:UInt8),(2:UInt8),(1:UInt8)]:List UInt8) v88).bind fun v90=>
(apnd (α:=JAA) 40 v87 ([(⟨128,15,v90⟩:JAA)]:List JAA)).bind fun v91=> k89 v91 else k89 v87
) fun v92=>
(EP Fa v92).bind fun v93=> some v93
def Dl (a1:Int):Option (List UInt8):=
(apnd (α:=UInt8) 1 [] ([(Aa (Int.fdiv a1 (2^(min (Int.toNat 8) 64)))),(Aa a1)]:List UInt8)).bind fun _=> some ([(Aa (Int.fdiv a1 (2^(min (Int.toNat 8) 64)))),(Aa a1)]:List UInt8)
def E6 (a0:JAG):Option ((List UInt8)×Bool):=
(Eo a0).bind fun v1=>
(Do v1).bind fun (v2,v3)=>
(C3 a0.Withdraw false).bind fun v4=>
(Dl (v4.length:Int)).bind fun v5=>
(apnd (α:=UInt8) 1 v5 v4).bind fun v6=>
(Fp v6 (v2.length:Int)).bind fun v7=>
(apnd (α:=UInt8) 1 v7 v2).bind fun v8=>
(DX v8 a0.Announce false).bind fun v9=> AC (τ:=Bool) (fun k10=> if (v3==0) then k10 (cond true (decide ((v9.length:Int)<=4077)) false) else k10 false
) fun v11=> some (v9,v11)
def CS (a0:Addr):Option Int:= if a0.V6 then some 128 else some 32
def FO (a0:Int):Option (UInt64×UInt64):= if (decide (a0 > 64)) then some ((AW (((AW (1*(2^(min (Int.toNat ((AW (AI (a0-64))).toNat:Int)) 64)))).toNat:Int)-1)),(18446744073709551615:UInt64)) else some ((0:UInt64),(AW (((AW (1*(2^(min (Int.toNat ((AW a0).toNat:Int)) 64)))).toNat:Int)-1)))
def D9 (a0:Addr)(a1:Int):Option Addr:=
(CS a0).bind fun v1=>
(FO (AI (v1-a1))).bind fun (v2,v3)=> some (⟨a0.V6,(AW ((BitVec.ofInt 64 (a0.Hi.toNat:Int) &&& ~~~BitVec.ofInt 64 (v2.toNat:Int)).toNat:Int)),(AW ((BitVec.ofInt 64 (a0.Lo.toNat:Int) &&& ~~~BitVec.ofInt 64 (v3.toNat:Int)).toNat:Int))⟩:Addr)
def GO (a0:JAC):Option Bool:= AC (τ:=Bool) (fun k1=>
(E8 a0.Addr).bind fun v2=> if v2 then if (cond true (decide (a0.Len ≥ 0)) false) then
(CS a0.Addr).bind fun v3=> if (cond true (decide (a0.Len<=v3)) false) then
(D9 a0.Addr a0.Len).bind fun v4=> k1 (cond true (Addr.eqd v4 a0.Addr) false) else k1 false else k1 false else k1 false
) fun v5=> some v5
def E4 (a0:JAC):Option Bool:=
(GO a0).bind fun v1=> some (!v1)
def Fg:Option JAD:= some (⟨(-1),[],(⟨false,(0:UInt64),(0:UInt64)⟩:Addr),(-1),(-1),(-1),[],[],[]⟩:JAD)
def GT (a0:JAD):Option Bool:= AC (τ:=Unit) (fun k1=> k1 ()
) fun _=> AC (τ:=Bool) (fun k2=> if (a0.Origin==(-1)) then if (cond true (a0.MED==(-1)) false) then if (cond true (a0.Pref==(-1)) false) then if (cond true (a0.OTC==(-1)) false) then if (cond true (Addr.eqd a0.Next (⟨false,(0:UInt64),(0:UInt64)⟩:Addr)) false) then k2 (cond true ((AI ((AI ((AI ((a0.Path.length:Int)+(a0.Communities.length:Int)))+(a0.JAF.length:Int)))+(a0.Other.length:Int)))==0) false) else k2 false else k2 false else k2 false else k2 false else k2 false
) fun v3=> some v3
def Eg (a0:JAC)(a1:JAG):Option (Bool×JAG):= some ((!(a0.Addr.V6==a1.JAD.Next.V6)),a1)
def Ap (a0:List JAC)(a1c0:JAG):Option (Int×JAG):= AC (τ:=JAG) (fun k1=> An (σ:=JAG) (fun v2=> k1 v2
) (fun next3 (x4:JAC) i5 v2=>
(Eg x4 v2).bind fun (v6,v7)=> if v6 then some ((i5:Int),v7) else next3 v7
) a0 0 a1c0
) fun v8=> some ((-1),v8)
def Ae (a0:List JAC)(a1c0:JAG):Option (Bool×JAG):=
(Ap a0 a1c0).bind fun (v1,v2)=> some ((decide (v1 ≥ 0)),v2)
def G9 (a0:JAG):Option Bool:= if ((a0.Announce.length:Int)==0) then
(GT a0.JAD).bind fun v1=> some v1 else AC (τ:=Bool) (fun k2=>
(DO a0.JAD).bind fun v3=> if v3 then if (cond true (a0.JAD.Origin != (-1)) false) then if (cond true (!(Addr.eqd a0.JAD.Next (⟨false,(0:UInt64),(0:UInt64)⟩:Addr))) false) then
(Ae a0.Announce a0).bind fun (v4,v5)=> k2 (cond true (!v4) false) else k2 false else k2 false else k2 false
) fun v6=> some v6
def A4 (a0:List JAC):Option Int:= AC (τ:=Unit) (fun k1=> An (σ:=Unit) (fun _=> k1 ()
) (fun next2 (x3:JAC) i4 _=>
(E4 x3).bind fun v5=> if v5 then some (i4:Int) else next2 ()
) a0 0 ()
) fun _=> some (-1)
def Ac (a0:List JAC):Option Bool:=
(A4 a0).bind fun v1=> some (decide (v1 ≥ 0))
def FM (a0:JAG):Option Bool:= AC (τ:=Bool) (fun k1=> if (decide ((a0.Withdraw.length:Int) > 256)) then k1 true else if (cond false true (decide ((a0.Announce.length:Int) > 256))) then k1 true else
(Ac a0.Withdraw).bind fun v2=> if (cond false true v2) then k1 true else
(Ac a0.Announce).bind fun v3=> if (cond false true v3) then k1 true else
(G9 a0).bind fun v4=> k1 (cond false true (!v4))
) fun v5=> if v5 then some false else
(E6 a0).bind fun (v6,v7)=> some v7
def IZ (a0:JAG):Option ((List UInt8)×Int):=
(FM a0).bind fun v1=> if (!v1) then some ([],1) else
(E6 a0).bind fun (v2,v3)=> some (v2,0)
def Dh (a0:List JAA):Option (List JAA):= AC (τ:=(List JAA)) (fun k1=> An (σ:=(List (Int×Bool))×(List JAA)) (fun (v2,v3)=> k1 v3
) (fun next4 (x5:JAA) i6 (v2,v3)=>
(some (Option.getD (BC v2 x5.Type_) false)).bind fun v7=> AC (τ:=(List JAA)) (fun k8=> if (!v7) then
(apnd (α:=JAA) 40 v3 ([x5]:List JAA)).bind fun v9=> k8 v9 else k8 v3
) fun v10=> next4 ((C2 v2 x5.Type_ true),v10)
) a0 0 ([],[])
) fun v11=> some v11
def Dc (a0:JAA):Option Bool:= AC (τ:=Bool) (fun k1=>
(Ba a0.Type_).bind fun v2=> if v2 then k1 (cond true ((AI ((BitVec.ofInt 64 a0.Flags &&& BitVec.ofInt 64 128).toNat:Int))==0) false) else k1 false
) fun v3=> some v3
def BH (a0:JAA):Option Bool:= AC (τ:=Bool) (fun k1=>
(some (Option.getD (BC Bz a0.Type_) 0)).bind fun v2=> if ((AI ((BitVec.ofInt 64 (AI ((BitVec.ofInt 64 a0.Flags ^^^ BitVec.ofInt 64 v2).toNat:Int)) &&& BitVec.ofInt 64 192).toNat:Int))==0) then
(some (Option.getD (BC Bz a0.Type_) 0)).bind fun v3=> if (v3==192) then k1 true else k1 (cond true (cond false true ((AI ((BitVec.ofInt 64 a0.Flags &&& BitVec.ofInt 64 32).toNat:Int))==0)) false) else k1 false
) fun v4=> some v4
def B9 (a0:List UInt8):Option Int:= AC (τ:=Int) (fun k1=> An (σ:=Int) (fun v2=> k1 v2
) (fun next3 (x4:UInt8) i5 v2=> next3 (AI ((BitVec.ofInt 64 (AI (v2*(2^(min (Int.toNat 8) 64)))) ||| BitVec.ofInt 64 (x4.toNat:Int)).toNat:Int))
) a0 0 0
) fun v6=> some v6
def CQ (a0:List UInt8):Option (List Int):= AC (τ:=(List Int)) (fun k1=> A7 (σ:=(List UInt8)×(List Int)) (fun next2 (v3,v4)=> if (decide ((v3.length:Int) ≥ 4)) then
(part v3 0 4).bind fun v5=>
(B9 v5).bind fun v6=>
(apnd (α:=Int) 8 v4 ([v6]:List Int)).bind fun v7=>
(part v3 4 (v3.length:Int)).bind fun v8=> next2 (v8,v7) else k1 v4
) fuel (a0,[])
) fun v9=> some v9
def Bo (a0:List Int):Option (List Int):= if (decide ((a0.length:Int)<2)) then some a0 else AC (τ:=Unit) (fun k1=> A7 (σ:=Int) (fun next2 v3=> if (decide (v3<(a0.length:Int))) then AC (τ:=Unit) (fun k4=>
(geti a0 v3).bind fun v5=>
(geti a0 (AI (v3-1))).bind fun v6=> if (v5==v6) then
(chk (0<=v3/\v3<=(a0.length:Int)/\(a0.length:Int)<=(a0.length:Int))).bind fun _=> AC (τ:=Int×(List Int)) (fun k7=> A7 (σ:=Int×Int×(List Int)) (fun next8 (v9,v10,v11)=> if (decide (v10<(((Int.toNat (a0.length:Int)-Int.toNat v3):Nat):Int))) then
(geti (List.take (Int.toNat (a0.length:Int)-Int.toNat v3) (List.drop (Int.toNat v3) v11)) v10).bind fun v12=>
(geti (List.take (Int.toNat (a0.length:Int)-Int.toNat v3) (List.drop (Int.toNat v3) v11)) (AI (v10-1))).bind fun v13=> AC (τ:=Int×(List Int)) (fun k14=> if (v12 != v13) then
(geti (List.take (Int.toNat (a0.length:Int)-Int.toNat v3) (List.drop (Int.toNat v3) v11)) v10).bind fun v15=>
(geti v11 v9).bind fun v16=>
(seti v11 v9 v15).bind fun v17=> k14 ((AI (v9+1)),v17) else k14 (v9,v11)
) fun (v18,v19)=> next8 (v18,(AI (v10+1)),v19) else k7 (v9,v11)
) fuel (v3,1,a0)
) fun (v20,v21)=>
(chk (0<=v20/\v20<=(v21.length:Int)/\(v21.length:Int)<=(v21.length:Int))).bind fun _=>
(part (List.take (Int.toNat v20) v21++List.replicate (Int.toNat (v21.length:Int)-Int.toNat v20) 0++List.drop ((Int.toNat v20)+(Int.toNat (v21.length:Int)-Int.toNat v20)) v21) 0 v20).bind fun v22=> some v22 else k4 ()
) fun _=> next2 (AI (v3+1)) else k1 ()
) fuel 1
) fun _=> some a0
def A5 (a0:List UInt8):Option (Addr×Int):= AC (τ:=Bool) (fun k1=> if ((a0.length:Int) != 4) then k1 (cond true ((a0.length:Int) != 16) false) else k1 false
) fun v2=> if v2 then some ((⟨false,(0:UInt64),(0:UInt64)⟩:Addr),1) else AC (τ:=Addr) (fun k3=> An (σ:=Addr) (fun v4=> k3 v4
) (fun next5 (x6:UInt8) i7 v4=> next5 (⟨v4.V6,(AW ((BitVec.ofInt 64 ((AW ((v4.Hi.toNat:Int)*(2^(min (Int.toNat 8) 64)))).toNat:Int) ||| BitVec.ofInt 64 ((AW (Int.fdiv (v4.Lo.toNat:Int) (2^(min (Int.toNat 56) 64)))).toNat:Int)).toNat:Int)),(AW ((BitVec.ofInt 64 ((AW ((v4.Lo.toNat:Int)*(2^(min (Int.toNat 8) 64)))).toNat:Int) ||| BitVec.ofInt 64 ((AW (x6.toNat:Int)).toNat:Int)).toNat:Int))⟩:Addr)
) a0 0 (⟨((a0.length:Int)==16),(0:UInt64),(0:UInt64)⟩:Addr)
) fun v8=> some (v8,0)
def Au (a0:List JAB):Option (List JAB):= if (decide ((a0.length:Int)<2)) then some a0 else AC (τ:=Unit) (fun k1=> A7 (σ:=Int) (fun next2 v3=> if (decide (v3<(a0.length:Int))) then AC (τ:=Unit) (fun k4=>
(geti a0 v3).bind fun v5=>
(geti a0 (AI (v3-1))).bind fun v6=> if (JAB.eqd v5 v6) then
(chk (0<=v3/\v3<=(a0.length:Int)/\(a0.length:Int)<=(a0.length:Int))).bind fun _=> AC (τ:=Int×(List JAB)) (fun k7=> A7 (σ:=Int×Int×(List JAB)) (fun next8 (v9,v10,v11)=> if (decide (v10<(((Int.toNat (a0.length:Int)-Int.toNat v3):Nat):Int))) then
(geti (List.take (Int.toNat (a0.length:Int)-Int.toNat v3) (List.drop (Int.toNat v3) v11)) v10).bind fun v12=>
(geti (List.take (Int.toNat (a0.length:Int)-Int.toNat v3) (List.drop (Int.toNat v3) v11)) (AI (v10-1))).bind fun v13=> AC (τ:=Int×(List JAB)) (fun k14=> if (!(JAB.eqd v12 v13)) then
(geti (List.take (Int.toNat (a0.length:Int)-Int.toNat v3) (List.drop (Int.toNat v3) v11)) v10).bind fun v15=>
(geti v11 v9).bind fun v16=>
(seti v11 v9 v15).bind fun v17=> k14 ((AI (v9+1)),v17) else k14 (v9,v11)
) fun (v18,v19)=> next8 (v18,(AI (v10+1)),v19) else k7 (v9,v11)
) fuel (v3,1,a0)
) fun (v20,v21)=>
(chk (0<=v20/\v20<=(v21.length:Int)/\(v21.length:Int)<=(v21.length:Int))).bind fun _=>
(part (List.take (Int.toNat v20) v21++List.replicate (Int.toNat (v21.length:Int)-Int.toNat v20) (⟨0,0⟩:JAB)++List.drop ((Int.toNat v20)+(Int.toNat (v21.length:Int)-Int.toNat v20)) v21) 0 v20).bind fun v22=> some v22 else k4 ()
) fun _=> next2 (AI (v3+1)) else k1 ()
) fuel 1
) fun _=> some a0
def BY (a0:JAB)(a1:JAB):Option Int:=
(cmp_Compare_int a0.A a1.A).bind fun v1=>
(cmp_Compare_int a0.B a1.B).bind fun v2=>
(FK ([v1,v2]:List Int)).bind fun v3=> some v3
def BB (a0:List JAF):Option (List JAF):= if (decide ((a0.length:Int)<2)) then some a0 else AC (τ:=Unit) (fun k1=> A7 (σ:=Int) (fun next2 v3=> if (decide (v3<(a0.length:Int))) then AC (τ:=Unit) (fun k4=>
(geti a0 v3).bind fun v5=>
(geti a0 (AI (v3-1))).bind fun v6=> if (JAF.eqd v5 v6) then
(chk (0<=v3/\v3<=(a0.length:Int)/\(a0.length:Int)<=(a0.length:Int))).bind fun _=> AC (τ:=Int×(List JAF)) (fun k7=> A7 (σ:=Int×Int×(List JAF)) (fun next8 (v9,v10,v11)=> if (decide (v10<(((Int.toNat (a0.length:Int)-Int.toNat v3):Nat):Int))) then
(geti (List.take (Int.toNat (a0.length:Int)-Int.toNat v3) (List.drop (Int.toNat v3) v11)) v10).bind fun v12=>
(geti (List.take (Int.toNat (a0.length:Int)-Int.toNat v3) (List.drop (Int.toNat v3) v11)) (AI (v10-1))).bind fun v13=> AC (τ:=Int×(List JAF)) (fun k14=> if (!(JAF.eqd v12 v13)) then
(geti (List.take (Int.toNat (a0.length:Int)-Int.toNat v3) (List.drop (Int.toNat v3) v11)) v10).bind fun v15=>
(geti v11 v9).bind fun v16=>
(seti v11 v9 v15).bind fun v17=> k14 ((AI (v9+1)),v17) else k14 (v9,v11)
) fun (v18,v19)=> next8 (v18,(AI (v10+1)),v19) else k7 (v9,v11)
) fuel (v3,1,a0)
) fun (v20,v21)=>
(chk (0<=v20/\v20<=(v21.length:Int)/\(v21.length:Int)<=(v21.length:Int))).bind fun _=>
(part (List.take (Int.toNat v20) v21++List.replicate (Int.toNat (v21.length:Int)-Int.toNat v20) (⟨0,0,0⟩:JAF)++List.drop ((Int.toNat v20)+(Int.toNat (v21.length:Int)-Int.toNat v20)) v21) 0 v20).bind fun v22=> some v22 else k4 ()
) fun _=> next2 (AI (v3+1)) else k1 ()
) fuel 1
) fun _=> some a0
def Cc (a0:JAF)(a1:JAF):Option Int:=
(cmp_Compare_int a0.A a1.A).bind fun v1=>
(cmp_Compare_int a0.B a1.B).bind fun v2=>
(cmp_Compare_int a0.C a1.C).bind fun v3=>
(FK ([v1,v2,v3]:List Int)).bind fun v4=> some v4
def Dj (a0:JAA)(a1:JAA):Option Int:=
(cmp_Compare_int a0.Type_ a1.Type_).bind fun v1=> some v1
def Az (a0:List JAA):Option Int:= AC (τ:=Unit) (fun k1=> An (σ:=Unit) (fun _=> k1 ()
) (fun next2 (x3:JAA) i4 _=>
(Dc x3).bind fun v5=> if v5 then some (i4:Int) else next2 ()
) a0 0 ()
) fun _=> some (-1)
def Am (a0:List JAA):Option Bool:=
(Az a0).bind fun v1=> some (decide (v1 ≥ 0))
def Ej {ρ:Type}(F:Option ρ)(next16:Int×Bool×UInt64×UInt64×Int×Int×Int×(List JAE)×(List JAB)×(List JAF)->Option ρ)(x17:JAA):Int×Bool×UInt64×UInt64×Int×Int×Int×(List JAE)×(List JAB)×(List JAF)->Option ρ:=fun (v6,v7,v8,v9,v10,v11,v12,v13,v14,v15)=> AC (τ:=Int×Bool×UInt64×UInt64×Int×Int×Int×(List JAE)×(List JAB)×(List JAF)) (fun k19=> if (x17.Type_==1) then AC (τ:=Bool×Int) (fun k20=>
(BH x17).bind fun v21=> if (!v21) then k20 (true,v6) else AC (τ:=Bool×Int) (fun k22=>
(B9 x17.Data).bind fun v23=> AC (τ:=Bool) (fun k24=> if ((x17.Data.length:Int)==1) then k24 (cond true (decide (v23<=2)) false) else k24 false
) fun v25=> k22 (v25,v23)
) fun (v26,v27)=> k20 ((cond true (cond false true (!v26)) false),v27)
) fun (v28,v29)=> if v28 then F else k19 (v29,v7,v8,v9,v10,v11,v12,v13,v14,v15) else if (x17.Type_==2) then AC (τ:=Bool×(List JAE)) (fun k30=>
(BH x17).bind fun v31=> if (!v31) then k30 (true,v13) else AC (τ:=Bool×(List JAE)) (fun k32=> AC (τ:=(List JAE)) (fun k33=>
(chk (v13=[])).bind fun _=> A7 (σ:=(List UInt8)×(List JAE)×Nat×(List Int)) (fun next34 (v35,v36,v37,v38)=> if (decide ((v35.length:Int) > 0)) then AC (τ:=Bool) (fun k39=> if (decide ((v35.length:Int)<2)) then k39 true else
(geti v35 0).bind fun v40=> if ((v40.toNat:Int) != 1) then
(geti v35 0).bind fun v41=> if (cond false true (cond true ((v41.toNat:Int) != 2) false)) then k39 true else
(geti v35 1).bind fun v42=> if (cond false true (decide ((v35.length:Int)<(AI (2+(AI (4*(v42.toNat:Int)))))))) then k39 true else
(geti v35 1).bind fun v43=> k39 (cond false true ((v43.toNat:Int)==0)) else
(geti v35 1).bind fun v44=> if (cond false true (decide ((v35.length:Int)<(AI (2+(AI (4*(v44.toNat:Int)))))))) then k39 true else
(geti v35 1).bind fun v45=> k39 (cond false true ((v45.toNat:Int)==0))
) fun v46=> if v46 then k32 (false,v36) else
(geti v35 1).bind fun v47=>
(geti v35 0).bind fun v48=>
(part v35 2 (AI (2+(AI (4*(v47.toNat:Int)))))).bind fun v49=>
(CQ v49).bind fun v50=>
(part v35 (AI (2+(AI (4*(v47.toNat:Int))))) (v35.length:Int)).bind fun v51=> AC (τ:=(List Int)) (fun k52=> if ((v48.toNat:Int)==1) then
(Lh v50).bind fun v53=>
(Bo v53).bind fun v54=> k52 v54 else k52 v50
) fun v55=> AC (τ:=Bool) (fun k56=> if (decide ((AI ((v36.length:Int)-1)) ≥ 0)) then if (cond true (!((v48.toNat:Int)==1)) false) then
(geti v36 (AI ((v36.length:Int)-1))).bind fun v57=> k56 (cond true (!v57.Set) false) else k56 false else k56 false
) fun v58=> AC (τ:=(List JAE)×Nat×(List Int)) (fun k59=> if v58 then
(geti v36 (AI ((v36.length:Int)-1))).bind fun v60=>
(chk (Int.toNat (AI ((v36.length:Int)-1))=v37)).bind fun _=>
(apnd (α:=Int) 8 v38 v55).bind fun v61=>
(geti v36 (AI ((v36.length:Int)-1))).bind fun v62=>
(seti v36 (AI ((v36.length:Int)-1)) (⟨v62.Set,v61⟩:JAE)).bind fun v63=> k59 (v63,(Int.toNat (AI ((v36.length:Int)-1))),v61) else
(apnd (α:=JAE) 32 v36 ([(⟨((v48.toNat:Int)==1),v55⟩:JAE)]:List JAE)).bind fun v64=> k59 (v64,((List.map JAE.toD v36).length+0),v55)
) fun (v65,v66,v67)=> next34 (v51,v65,v66,v67) else k33 v36
) fuel (x17.Data,v13,0,[])
) fun v68=>
(FP v68).bind fun v69=> k32 (v69,v68)
) fun (v70,v71)=> k30 ((cond true (cond false true (!v70)) false),v71)
) fun (v72,v73)=> if v72 then F else k19 (v6,v7,v8,v9,v10,v11,v12,v73,v14,v15) else if (x17.Type_==3) then AC (τ:=Bool×Bool×UInt64×UInt64) (fun k74=>
(BH x17).bind fun v75=> if (!v75) then k74 (true,v7,v8,v9) else AC (τ:=Bool×UInt64×UInt64) (fun k76=>
(A5 x17.Data).bind fun (v77,v78)=> k76 (v77.V6,v77.Hi,v77.Lo)
) fun (v79,v80,v81)=> k74 ((cond true (cond false true (!((x17.Data.length:Int)==4))) false),v79,v80,v81)
) fun (v82,v83,v84,v85)=> if v82 then F else k19 (v6,v83,v84,v85,v10,v11,v12,v13,v14,v15) else if (x17.Type_==4) then AC (τ:=Bool×Int) (fun k86=>
(BH x17).bind fun v87=> if (!v87) then k86 (true,v10) else AC (τ:=Int) (fun k88=> AC (τ:=Int) (fun k89=>
(B9 x17.Data).bind fun v90=> k89 v90
) fun v91=> k88 v91
) fun v92=> k86 ((cond true (cond false true (!((x17.Data.length:Int)==4))) false),v92)
) fun (v93,v94)=> if v93 then F else k19 (v6,v7,v8,v9,v94,v11,v12,v13,v14,v15) else if (x17.Type_==5) then AC (τ:=Bool×Int) (fun k95=>
(BH x17).bind fun v96=> if (!v96) then k95 (true,v11) else AC (τ:=Int) (fun k97=> AC (τ:=Int) (fun k98=>
(B9 x17.Data).bind fun v99=> k98 v99
) fun v100=> k97 v100
) fun v101=> k95 ((cond true (cond false true (!((x17.Data.length:Int)==4))) false),v101)
) fun (v102,v103)=> if v102 then F else k19 (v6,v7,v8,v9,v10,v103,v12,v13,v14,v15) else if (x17.Type_==8) then AC (τ:=Bool×(List JAB)) (fun k104=>
(BH x17).bind fun v105=> if (!v105) then k104 (true,v14) else AC (τ:=Bool×(List JAB)) (fun k106=>
(CQ x17.Data).bind fun v107=> AC (τ:=(List JAB)) (fun k108=> An (σ:=(List JAB)) (fun v109=> k108 v109
) (fun next110 (x111:Int) i112 v109=>
(apnd (α:=JAB) 16 v109 ([(⟨(Int.fdiv x111 (2^(min (Int.toNat 16) 64))),(AI ((BitVec.ofInt 64 x111 &&& BitVec.ofInt 64 65535).toNat:Int))⟩:JAB)]:List JAB)).bind fun v113=> next110 v113
) v107 0 []
) fun v114=> AC (τ:=Bool×(List JAB)) (fun k115=> AC (τ:=Bool) (fun k116=> if (decide ((v114.length:Int) > 0)) then k116 (cond true (decide ((v114.length:Int)<=64)) false) else k116 false
) fun v117=>
(EP BY v114).bind fun v118=>
(Au v118).bind fun v119=> k115 (v117,v119)
) fun (v120,v121)=> AC (τ:=Bool) (fun k122=> if v120 then if (cond true ((Int.tmod (x17.Data.length:Int) 4)==0) false) then
(DN v121).bind fun v123=> k122 (cond true v123 false) else k122 false else k122 false
) fun v124=> k106 (v124,v121)
) fun (v125,v126)=> k104 ((cond true (cond false true (!v125)) false),v126)
) fun (v127,v128)=> if v127 then F else k19 (v6,v7,v8,v9,v10,v11,v12,v13,v128,v15) else if (x17.Type_==32) then AC (τ:=Bool×(List JAF)) (fun k129=>
(BH x17).bind fun v130=> if (!v130) then k129 (true,v15) else AC (τ:=Bool×(List JAF)) (fun k131=> if ((Int.tmod (x17.Data.length:Int) 12) != 0) then k131 (false,v15) else
(CQ x17.Data).bind fun v132=> AC (τ:=(List JAF)) (fun k133=> A7 (σ:=(List JAF)×(List Int)) (fun next134 (v135,v136)=> if (decide ((v136.length:Int) > 0)) then
(geti v136 0).bind fun v137=>
(geti v136 1).bind fun v138=>
(geti v136 2).bind fun v139=>
(apnd (α:=JAF) 24 v135 ([(⟨v137,v138,v139⟩:JAF)]:List JAF)).bind fun v140=>
(part v136 3 (v136.length:Int)).bind fun v141=> next134 (v140,v141) else k133 v135
) fuel ([],v132)
) fun v142=> AC (τ:=Bool×(List JAF)) (fun k143=> AC (τ:=Bool) (fun k144=> if (decide ((v142.length:Int) > 0)) then k144 (cond true (decide ((v142.length:Int)<=64)) false) else k144 false
) fun v145=>
(EP Cc v142).bind fun v146=>
(BB v146).bind fun v147=> k143 (v145,v147)
) fun (v148,v149)=> AC (τ:=Bool) (fun k150=> if v148 then
(Bg v149).bind fun v151=> k150 (cond true v151 false) else k150 false
) fun v152=> k131 (v152,v149)
) fun (v153,v154)=> k129 ((cond true (cond false true (!v153)) false),v154)
) fun (v155,v156)=> if v155 then F else k19 (v6,v7,v8,v9,v10,v11,v12,v13,v14,v156) else if (x17.Type_==35) then AC (τ:=Bool×Int) (fun k157=>
(BH x17).bind fun v158=> if (!v158) then k157 (true,v12) else AC (τ:=Bool×Int) (fun k159=> AC (τ:=Bool×Int) (fun k160=> AC (τ:=Int) (fun k161=>
(B9 x17.Data).bind fun v162=> k161 v162
) fun v163=> if ((x17.Data.length:Int)==4) then
(EB v163).bind fun v164=> k160 ((cond true v164 false),v163) else k160 (false,v163)
) fun (v165,v166)=> k159 (v165,v166)
) fun (v167,v168)=> k157 ((cond true (cond false true (!v167)) false),v168)
) fun (v169,v170)=> if v169 then F else k19 (v6,v7,v8,v9,v10,v11,v170,v13,v14,v15) else k19 (v6,v7,v8,v9,v10,v11,v12,v13,v14,v15)
) fun (v171,v172,v173,v174,v175,v176,v177,v178,v179,v180)=> next16 (v171,v172,v173,v174,v175,v176,v177,v178,v179,v180)
def EL (a0:List JAA):Option (JAD×Int):=
(Dh a0).bind fun v1=>
(Am v1).bind fun v2=> if v2 then some ((⟨0,[],(⟨false,(0:UInt64),(0:UInt64)⟩:Addr),0,0,0,[],[],[]⟩:JAD),12) else AC (τ:=Int×Bool×UInt64×UInt64×Int×Int×Int×Bool×(List JAE)×(List JAB)×(List JAF)) (fun k3=> AC (τ:=Unit) (fun k4=> k4 ()
) fun _=> AC (τ:=Int×Bool×UInt64×UInt64×Int×Int×Int×(List JAE)×(List JAB)×(List JAF)) (fun k5=> An (σ:=Int×Bool×UInt64×UInt64×Int×Int×Int×(List JAE)×(List JAB)×(List JAF)) (fun (v6,v7,v8,v9,v10,v11,v12,v13,v14,v15)=> k5 (v6,v7,v8,v9,v10,v11,v12,v13,v14,v15)
) (fun next16 (x17:JAA) i18 s=>Ej (k3 (0,false,(0:UInt64),(0:UInt64),0,0,0,false,[],[],[])) next16 x17 s
) v1 0 ((-1),false,(0:UInt64),(0:UInt64),(-1),(-1),(-1),[],[],[])
) fun (v181,v182,v183,v184,v185,v186,v187,v188,v189,v190)=> k3 (v181,v182,v183,v184,v185,v186,v187,true,v188,v189,v190)
) fun (v191,v192,v193,v194,v195,v196,v197,v198,v199,v200,v201)=> if (!v198) then some ((⟨0,[],(⟨false,(0:UInt64),(0:UInt64)⟩:Addr),0,0,0,[],[],[]⟩:JAD),13) else AC (τ:=(List JAA)) (fun k202=> An (σ:=(List JAA)) (fun v203=> k202 v203
) (fun next204 (x205:JAA) i206 v203=> AC (τ:=Bool) (fun k207=>
(Ba x205.Type_).bind fun v208=> if v208 then
(A9 x205.Type_ 1 255).bind fun v209=> if (cond true v209 false) then if (cond true ((AI ((BitVec.ofInt 64 x205.Flags &&& BitVec.ofInt 64 64).toNat:Int)) != 0) false) then k207 (cond true (decide ((x205.Data.length:Int)<=255)) false) else k207 false else k207 false else k207 false
) fun v210=> AC (τ:=(List JAA)) (fun k211=> if v210 then
(A8 x205.Data).bind fun v212=>
(apnd (α:=JAA) 40 v203 ([(⟨224,x205.Type_,v212⟩:JAA)]:List JAA)).bind fun v213=> k211 v213 else k211 v203
) fun v214=> next204 v214
) v1 0 []
) fun v215=> if (decide ((v215.length:Int) > 8)) then some ((⟨0,[],(⟨false,(0:UInt64),(0:UInt64)⟩:Addr),0,0,0,[],[],[]⟩:JAD),3) else
(EP Dj v215).bind fun v216=> some ((⟨v191,v199,(⟨v192,v193,v194⟩:Addr),v195,v196,v197,v200,v201,v216⟩:JAD),0)
def Em (a0:List UInt8):Option Int:=
(geti a0 0).bind fun v1=>
(geti a0 1).bind fun v2=> some (AI ((BitVec.ofInt 64 (AI ((v1.toNat:Int)*(2^(min (Int.toNat 8) 64)))) ||| BitVec.ofInt 64 (v2.toNat:Int)).toNat:Int))
def Gn (a0:List UInt8):Option ((List UInt8)×(List UInt8)×Bool):= AC (τ:=Bool) (fun k1=> if (decide ((a0.length:Int)<2)) then k1 true else
(Em a0).bind fun v2=> k1 (cond false true (decide ((AI ((a0.length:Int)-2))<v2)))
) fun v3=> if v3 then some ([],[],false) else
(Em a0).bind fun v4=>
(part a0 2 (AI (2+v4))).bind fun v5=>
(part a0 (AI (2+v4)) (a0.length:Int)).bind fun v6=> some (v5,v6,true)
def Eb (a0:List UInt8):Option ((List JAA)×Int):= AC (τ:=(List JAA)) (fun k1=> A7 (σ:=(List UInt8)×(List JAA)) (fun next2 (v3,v4)=> if (decide ((v3.length:Int) > 0)) then
(geti v3 0).bind fun v5=> AC (τ:=Int) (fun k6=> if (((Aa ((BitVec.ofInt 8 (v5.toNat:Int) &&& BitVec.ofInt 8 16).toNat:Int)).toNat:Int) != 0) then k6 4 else k6 3
) fun v7=> AC (τ:=Bool) (fun k8=> if (decide ((v3.length:Int)<v7)) then k8 true else
(part v3 2 v7).bind fun v9=>
(B9 v9).bind fun v10=> k8 (cond false true (decide ((AI ((v3.length:Int)-v7))<v10)))
) fun v11=> if v11 then some ([],12) else
(part v3 2 v7).bind fun v12=>
(B9 v12).bind fun v13=>
(geti v3 0).bind fun v14=>
(geti v3 1).bind fun v15=>
(part v3 v7 (AI (v7+v13))).bind fun v16=>
(apnd (α:=UInt8) 1 [] v16).bind fun _=>
(apnd (α:=JAA) 40 v4 ([(⟨((Aa ((BitVec.ofInt 8 (v14.toNat:Int) &&& BitVec.ofInt 8 224).toNat:Int)).toNat:Int),(v15.toNat:Int),v16⟩:JAA)]:List JAA)).bind fun v17=>
(part v3 (AI (v7+v13)) (v3.length:Int)).bind fun v18=> next2 (v18,v17) else k1 v4
) fuel (a0,[])
) fun v19=> some (v19,0)
def HC (a0:Addr)(a1:Int):Option (JAC×Int):=
(E8 a0).bind fun v1=> if (!v1) then some ((⟨(⟨false,(0:UInt64),(0:UInt64)⟩:Addr),0⟩:JAC),1) else AC (τ:=Bool) (fun k2=> if (decide (a1<0)) then k2 true else
(CS a0).bind fun v3=> k2 (cond false true (decide (a1 > v3)))
) fun v4=> if v4 then some ((⟨(⟨false,(0:UInt64),(0:UInt64)⟩:Addr),0⟩:JAC),9) else
(D9 a0 a1).bind fun v5=> some ((⟨v5,a1⟩:JAC),0)
def CJ (a0:List UInt8)(a1:Bool):Option ((List JAC)×Bool):= AC (τ:=Int) (fun k1=> if a1 then k1 128 else k1 32
) fun v2=> AC (τ:=(List JAC)) (fun k3=> A7 (σ:=(List UInt8)×(List JAC)) (fun next4 (v5,v6)=> if (decide ((v5.length:Int) > 0)) then
(geti v5 0).bind fun v7=> AC (τ:=Bool) (fun k8=> if (decide ((v7.toNat:Int) > v2)) then k8 true else k8 (cond false true (decide ((v5.length:Int)<(AI (1+(AI (Int.tdiv (AI ((v7.toNat:Int)+7)) 8)))))))
) fun v9=> if v9 then some ([],false) else
(chk (0<=(AI (Int.tdiv v2 8))/\(AI (Int.tdiv v2 8))<=(AI (Int.tdiv v2 8))/\(AI (Int.tdiv v2 8))<=1048576)).bind fun _=>
(part v5 1 (AI (1+(AI (Int.tdiv (AI ((v7.toNat:Int)+7)) 8))))).bind fun v10=>
(A5 (cpy (List.replicate (Int.toNat (AI (Int.tdiv v2 8))) (0:UInt8)) 0 (List.replicate (Int.toNat (AI (Int.tdiv v2 8))) (0:UInt8)).length v10)).bind fun (v11,v12)=>
(HC v11 (v7.toNat:Int)).bind fun (v13,v14)=>
(apnd (α:=JAC) 32 v6 ([v13]:List JAC)).bind fun v15=>
(part v5 (AI (1+(AI (Int.tdiv (AI ((v7.toNat:Int)+7)) 8)))) (v5.length:Int)).bind fun v16=> next4 (v16,v15) else k3 v6
) fuel (a0,[])
) fun v17=> some (v17,true)
def bytes_Equal (a0:List UInt8)(a1:List UInt8):Option Bool:= some ((bs a0).toList==(bs a1).toList)
def bytes_HasPrefix (a0:List UInt8)(a1:List UInt8):Option Bool:= AC (τ:=Bool) (fun k1=> if (decide ((a0.length:Int) ≥ (a1.length:Int))) then
(part a0 0 (a1.length:Int)).bind fun v2=>
(bytes_Equal v2 a1).bind fun v3=> k1 (cond true v3 false) else k1 false
) fun v4=> some v4
def bytes_CutPrefix (a0:List UInt8)(a1:List UInt8):Option ((List UInt8)×Bool):=
(bytes_HasPrefix a0 a1).bind fun v1=> if (!v1) then some (a0,false) else
(part a0 (a1.length:Int) (a0.length:Int)).bind fun v2=> some (v2,true)
def DG (a0:JAH):Option (Bool×JAH):= AC (τ:=JAH×(List (Int×Int))) (fun k1=> An (σ:=JAH×(List (Int×Int))) (fun (v2,v3)=> k1 (v2,v3)
) (fun next4 (x5:JAA) i6 (v2,v3)=>
(some (Option.getD (BC v3 x5.Type_) 0)).bind fun v7=>
(bytes_CutPrefix x5.Data ([(0:UInt8),(2:UInt8),(1:UInt8)]:List UInt8)).bind fun (v8,v9)=> AC (τ:=Bool×JAH) (fun k10=> if (x5.Type_==14) then AC (τ:=Bool) (fun k11=> if (!v9) then k11 true else if (cond false true (decide ((v8.length:Int)<18))) then k11 true else
(geti v8 0).bind fun v12=> if (cond false true ((v12.toNat:Int) != 16)) then k11 true else
(geti v8 17).bind fun v13=> k11 (cond false true ((v13.toNat:Int) != 0))
) fun v14=> if v14 then some (false,v2) else
(part v8 1 17).bind fun v15=>
(A5 v15).bind fun (v16,v17)=>
(part v8 18 (v8.length:Int)).bind fun v18=>
(CJ v18 true).bind fun (v19,v20)=> k10 (v20,{ v2 with next:=v16,new6:=v19 }) else AC (τ:=Bool×(List JAC)) (fun k21=> if (x5.Type_==15) then AC (τ:=Bool×(List JAC)) (fun k22=> if v9 then
(CJ v8 true).bind fun (v23,v24)=> k22 (v24,v23) else k22 (v9,v2.gone6)
) fun (v25,v26)=> k21 (v25,v26) else k21 (true,v2.gone6)
) fun (v27,v28)=> k10 (v27,{ v2 with gone6:=v28 })
) fun (v29,v30)=> if (!v29) then some (false,v30) else next4 (v30,(C2 v3 x5.Type_ (AI (v7+1))))
) a0.attrs 0 (a0,[])
) fun (v31,v32)=> AC (τ:=Bool) (fun k33=>
(some (Option.getD (BC v32 14) 0)).bind fun v34=> if (decide (v34<2)) then
(some (Option.getD (BC v32 15) 0)).bind fun v35=> k33 (cond true (decide (v35<2)) false) else k33 false
) fun v36=> some (v36,v31)
def CU (a0:JAH)(a1:List UInt8):Option (Bool×JAH):=
(Gn a1).bind fun (v1,v2,v3)=> if (!v3) then some (false,a0) else
(Gn v2).bind fun (v4,v5,v6)=> if (!v6) then some (false,a0) else
(Eb v4).bind fun (v7,v8)=> AC (τ:=Bool×JAH) (fun k9=> if (v8 != 0) then k9 (true,{ a0 with attrs:=v7 }) else
(DG ({ a0 with attrs:=v7 })).bind fun (v10,v11)=> k9 ((cond false true (!v10)),v11)
) fun (v12,v13)=> if v12 then some (false,v13) else
(CJ v1 false).bind fun (v14,v15)=>
(CJ v5 false).bind fun (v16,v17)=> AC (τ:=Bool) (fun k18=> if (!v15) then k18 true else if (cond false true (!v17)) then k18 true else if (decide ((v16.length:Int) > 0)) then if (cond false true (cond true (decide ((v13.new6.length:Int) > 0)) false)) then k18 true else if (cond false true (decide ((AI ((v14.length:Int)+(v13.gone6.length:Int))) > 256))) then k18 true else k18 (cond false true (decide ((AI ((v16.length:Int)+(v13.new6.length:Int))) > 256))) else if (cond false true (decide ((AI ((v14.length:Int)+(v13.gone6.length:Int))) > 256))) then k18 true else k18 (cond false true (decide ((AI ((v16.length:Int)+(v13.new6.length:Int))) > 256)))
) fun v19=> if v19 then some (false,{ v13 with gone4:=v14,new4:=v16 }) else
(EL v13.attrs).bind fun (v20,v21)=> some ((v21 != 12),{ v13 with gone4:=v14,new4:=v16 })
def C9 (a0:JAA)(a1:Int):Option (Bool×Int):= some ((a0.Type_==a1),a1)
def Ak (a0:List JAA)(a1c0:Int):Option (Int×Int):= AC (τ:=Int) (fun k1=> An (σ:=Int) (fun v2=> k1 v2
) (fun next3 (x4:JAA) i5 v2=>
(C9 x4 v2).bind fun (v6,v7)=> if v6 then some ((i5:Int),v7) else next3 v7
) a0 0 a1c0
) fun v8=> some ((-1),v8)
def Ai (a0:List JAA)(a1c0:Int):Option (Bool×Int):=
(Ak a0 a1c0).bind fun (v1,v2)=> some ((decide (v1 ≥ 0)),v2)
def CL (a0:JAH)(a1:Int):Option (Bool×JAH):=
(Ai a0.attrs a1).bind fun (v1,v2)=> some (v1,a0)
def J1 (a0:List UInt8):Option (Bool×Bool):=
(chk (0<=(4:Int)/\(4:Int)<=4/\(4:Int)<=1048576)).bind fun _=>
(bytes_Equal a0 (List.replicate (Int.toNat 4) (0:UInt8))).bind fun v1=> if v1 then some (true,false) else AC (τ:=Bool) (fun k2=>
(CU (⟨[],(⟨false,(0:UInt64),(0:UInt64)⟩:Addr),[],[],[],[]⟩:JAH) a0).bind fun (v3,v4)=> if (!v3) then k2 true else
(part a0 2 (a0.length:Int)).bind fun v5=>
(Em v5).bind fun v6=> if (cond false true ((a0.length:Int) != (AI (4+v6)))) then k2 true else if (cond false true ((v4.attrs.length:Int) != 1)) then k2 true else
(CL v4 15).bind fun (v7,v8)=> if (cond false true (!v7)) then k2 true else
(Em a0).bind fun v9=> if (cond false true (v9 != 0)) then k2 true else k2 (cond false true (decide ((v8.gone6.length:Int) > 0)))
) fun v10=> if v10 then some (false,false) else some (true,true)
def G2:Option Bool:=
(E7).bind fun v1=>
(IZ (⟨([(⟨(⟨false,(0:UInt64),(167772160:UInt64)⟩:Addr),8⟩:JAC)]:List JAC),v1,[]⟩:JAG)).bind fun (v2,v3)=>
(J1 ([(0:UInt8),(0:UInt8),(0:UInt8),(0:UInt8)]:List UInt8)).bind fun (v4,v5)=> AC (τ:=Bool) (fun k6=> if (v3==0) then if (cond true ((bs v2).toList==(ByteArray.mk (List.toArray (List.cons 0 (List.cons 2 (List.cons 8 (List.cons 10 (List.cons 0 (List.cons 0 List.nil)))))))).toList) false) then if (cond true v4 false) then k6 (cond true (!v5) false) else k6 false else k6 false else k6 false
) fun v7=> some v7
def Ax (a0:List (List JAC)):Option (List JAC):= AC (τ:=Int) (fun k1=> An (σ:=Int) (fun v2=> k1 v2
) (fun next3 (x4:List JAC) i5 v2=> if (decide ((AI (v2+(x4.length:Int)))<0)) then none else next3 (AI (v2+(x4.length:Int)))
) a0 0 0
) fun v6=> AC (τ:=(List JAC)) (fun k7=> if (decide (v6<0)) then none else AC (τ:=(List JAC)) (fun k8=> if (decide ((AI (v6-(AI (0-0)))) > 0)) then
(chk (0<(AI (v6-(AI (0-0))))/\(AI (v6-(AI (0-0))))<=1048576)).bind fun _=>
(part (List.replicate (Int.toNat (AI (v6-(AI (0-0))))) (⟨(⟨false,(0:UInt64),(0:UInt64)⟩:Addr),0⟩:JAC)) 0 0).bind fun v9=> k8 v9 else k8 []
) fun v10=> k7 v10
) fun v11=> AC (τ:=(List JAC)) (fun k12=> An (σ:=(List JAC)) (fun v13=> k12 v13
) (fun next14 (x15:List JAC) i16 v13=>
(apnd (α:=JAC) 32 v13 x15).bind fun v17=> next14 v17
) a0 0 v11
) fun v18=> some v18
def B5 (a0:JAA):Option Bool:= AC (τ:=Bool) (fun k1=> if (a0.Type_==14) then k1 (cond true ((AI ((BitVec.ofInt 64 a0.Flags &&& BitVec.ofInt 64 192).toNat:Int)) != 128) false) else if (cond false true (a0.Type_==15)) then k1 (cond true ((AI ((BitVec.ofInt 64 a0.Flags &&& BitVec.ofInt 64 192).toNat:Int)) != 128) false) else k1 false
) fun v2=> some v2
def As (a0:List JAA):Option Int:= AC (τ:=Unit) (fun k1=> An (σ:=Unit) (fun _=> k1 ()
) (fun next2 (x3:JAA) i4 _=>
(B5 x3).bind fun v5=> if v5 then some (i4:Int) else next2 ()
) a0 0 ()
) fun _=> some (-1)
def Af (a0:List JAA):Option Bool:=
(As a0).bind fun v1=> some (decide (v1 ≥ 0))
def DT (a0:JAH)(a1:JAD)(a2:Int):Option (Bool×JAH):= AC (τ:=Bool×JAH) (fun k1=> if (a2 != 0) then k1 (true,a0) else
(Af a0.attrs).bind fun v2=> if (cond false true v2) then k1 (true,a0) else
(CL a0 1).bind fun (v3,v4)=> if (cond false true (!v3)) then k1 (true,v4) else
(CL v4 2).bind fun (v5,v6)=> if (cond false true (!v5)) then k1 (true,v6) else if (decide ((v6.new4.length:Int) > 0)) then k1 ((cond false true (cond true (Addr.eqd a1.Next (⟨false,(0:UInt64),(0:UInt64)⟩:Addr)) false)),v6) else k1 (false,v6)
) fun (v7,v8)=> some (v7,v8)
def Fb (a0:List UInt8):Option (JAG×Int):=
(CU (⟨[],(⟨false,(0:UInt64),(0:UInt64)⟩:Addr),[],[],[],[]⟩:JAH) a0).bind fun (v1,v2)=> if (!v1) then some ((⟨[],(⟨0,[],(⟨false,(0:UInt64),(0:UInt64)⟩:Addr),0,0,0,[],[],[]⟩:JAD),[]⟩:JAG),12) else
(Ax ([v2.gone4,v2.gone6]:List (List JAC))).bind fun v3=>
(Fg).bind fun v4=>
(Ax ([v2.new4,v2.new6]:List (List JAC))).bind fun v5=> if ((v5.length:Int)==0) then some ((⟨v3,v4,[]⟩:JAG),0) else
(EL v2.attrs).bind fun (v6,v7)=>
(DT v2 v6 v7).bind fun (v8,v9)=> if v8 then
(apnd (α:=JAC) 32 v3 v5).bind fun v10=> some ((⟨v10,v4,[]⟩:JAG),13) else AC (τ:=JAD) (fun k11=> if (decide ((v9.new6.length:Int) > 0)) then k11 ({ v6 with Next:=v9.next }) else k11 v6
) fun v12=> some ((⟨v3,v12,v5⟩:JAG),0)
def JH (a0:List Int):Option (List Int):= AC (τ:=(List Int)) (fun k1=> An (σ:=(List Int)) (fun v2=> k1 v2
) (fun next3 (x4:Int) i5 v2=> AC (τ:=(List Int)) (fun k6=> AC (τ:=Int) (fun k7=> A7 (σ:=Int) (fun next8 v9=> AC (τ:=Bool) (fun k10=> if (decide (v9<(v2.length:Int))) then
(geti v2 v9).bind fun v11=> k10 (cond true (decide (v11<x4)) false) else k10 false
) fun v12=> if v12 then next8 (AI (v9+1)) else k7 v9
) fuel 0
) fun v13=> AC (τ:=Bool) (fun k14=> if (decide (v13<(v2.length:Int))) then
(geti v2 v13).bind fun v15=> k14 (cond true (v15==x4) false) else k14 false
) fun v16=> if v16 then k6 v2 else
(chk (0<=(0:Int)/\(0:Int)<=v13/\v13<=(v2.length:Int))).bind fun _=>
(apnd (α:=Int) 8 [] (List.take (Int.toNat v13-Int.toNat 0) (List.drop (Int.toNat 0) v2))).bind fun _=>
(apnd (α:=Int) 8 (List.take (Int.toNat v13-Int.toNat 0) (List.drop (Int.toNat 0) v2)) ([x4]:List Int)).bind fun v17=>
(chk (0<=v13/\v13<=(v2.length:Int)/\(v2.length:Int)<=(v2.length:Int))).bind fun _=>
(apnd (α:=Int) 8 v17 (List.take (Int.toNat (v2.length:Int)-Int.toNat v13) (List.drop (Int.toNat v13) v2))).bind fun v18=> k6 v18
) fun v19=> next3 v19
) a0 0 []
) fun v20=> some v20
def E1 (a0:List JAC)(a1:List JAC):Option Bool:= if ((a0.length:Int) != (a1.length:Int)) then some false else AC (τ:=Unit) (fun k1=> An (σ:=Unit) (fun _=> k1 ()
) (fun next2 (x3:JAC) i4 _=>
(geti a1 (i4:Int)).bind fun v5=> if (!(JAC.eqd v5 x3)) then some false else next2 ()
) a0 0 ()
) fun _=> some true
def Cj (a0:List Int):Option Bool:=
(MR a0).bind fun v1=>
(EG v1).bind fun (v2,v3)=> if ((v2.Announce.length:Int)==0) then
(G2).bind fun v4=> some v4 else AC (τ:=Int×(List UInt8)) (fun k5=>
(FM v2).bind fun v6=> if (!v6) then k5 (1,[]) else AC (τ:=Bool×(List UInt8)) (fun k7=>
(Eo v2).bind fun v8=>
(Do v8).bind fun (v9,v10)=>
(C3 v2.Withdraw false).bind fun v11=>
(Dl (v11.length:Int)).bind fun v12=>
(apnd (α:=UInt8) 1 v12 v11).bind fun v13=>
(Fp v13 (v9.length:Int)).bind fun v14=>
(apnd (α:=UInt8) 1 v14 v9).bind fun v15=>
(DX v15 v2.Announce false).bind fun v16=> AC (τ:=Bool) (fun k17=> if (v10==0) then k17 (cond true (decide ((v16.length:Int)<=4077)) false) else k17 false
) fun v18=> k7 (v18,v16)
) fun (v19,v20)=> k5 (0,v20)
) fun (v21,v22)=> AC (τ:=Bool) (fun k23=> if (v21 != 0) then k23 true else k23 (cond false true (decide ((v22.length:Int)<4)))
) fun v24=> if v24 then some false else
(geti v22 0).bind fun v25=>
(geti v22 1).bind fun v26=> AC (τ:=Bool) (fun k27=> if (decide ((v22.length:Int)<(AI ((AI ((BitVec.ofInt 64 (AI ((v25.toNat:Int)*(2^(min (Int.toNat 8) 64)))) ||| BitVec.ofInt 64 (v26.toNat:Int)).toNat:Int))+8)))) then k27 true else
(geti v22 (AI ((AI ((BitVec.ofInt 64 (AI ((v25.toNat:Int)*(2^(min (Int.toNat 8) 64)))) ||| BitVec.ofInt 64 (v26.toNat:Int)).toNat:Int))+5))).bind fun v28=> if (cond false true ((v28.toNat:Int) != 1)) then k27 true else
(geti v22 (AI ((AI ((BitVec.ofInt 64 (AI ((v25.toNat:Int)*(2^(min (Int.toNat 8) 64)))) ||| BitVec.ofInt 64 (v26.toNat:Int)).toNat:Int))+6))).bind fun v29=> k27 (cond false true ((v29.toNat:Int) != 1))
) fun v30=> if v30 then some false else
(geti v22 (AI ((AI ((BitVec.ofInt 64 (AI ((v25.toNat:Int)*(2^(min (Int.toNat 8) 64)))) ||| BitVec.ofInt 64 (v26.toNat:Int)).toNat:Int))+7))).bind fun v31=>
(seti v22 (AI ((AI ((BitVec.ofInt 64 (AI ((v25.toNat:Int)*(2^(min (Int.toNat 8) 64)))) ||| BitVec.ofInt 64 (v26.toNat:Int)).toNat:Int))+7)) (9:UInt8)).bind fun v32=>
(Fb v32).bind fun (v33,v34)=> AC (τ:=Bool) (fun k35=> if (v34==13) then if (cond true ((v33.Announce.length:Int)==0) false) then if (cond true ((v33.Withdraw.length:Int)==(AI ((v2.Withdraw.length:Int)+(v2.Announce.length:Int)))) false) then
(part v33.Withdraw (v2.Withdraw.length:Int) (v33.Withdraw.length:Int)).bind fun v36=>
(E1 v36 v2.Announce).bind fun v37=> if (cond true v37 false) then
(G2).bind fun v38=> k35 (cond true v38 false) else k35 false else k35 false else k35 false else k35 false
) fun v39=> some v39
end
end Go.AX.Q19
end
section
namespace Go.AX.Q19
open Go Go.AX Go.Proofs
def keep:FuncId->List Bool:=fun f=>(match Nat.beq f 227 with | true=>[true]|false=>(match Nat.beq f 218 with | true=>[true]|false=>(match Nat.beq f 225 with | true=>[true]|false=>(match Nat.beq f 120 with | true=>[true]|false=>(match Nat.beq f 228 with | true=>[true]|false=>(match Nat.beq f 226 with | true=>[true]|false=>(match Nat.beq f 219 with | true=>[true]|false=>(match Nat.beq f 87 with | true=>[true]|false=>(match Nat.beq f 96 with | true=>[true]|false=>(match Nat.beq f 158 with | true=>[true]|false=>[]))))))))))
def T0:FuncId->Bool:=fun f=>(match Nat.beq f 222 with | true=>true | false=>(match Nat.beq f 220 with | true=>true | false=>(match Nat.beq f 216 with | true=>true | false=>(match Nat.beq f 215 with | true=>true | false=>(match Nat.beq f 214 with | true=>true | false=>(match Nat.beq f 213 with | true=>true | false=>(match Nat.beq f 212 with | true=>true | false=>(match Nat.beq f 211 with | true=>true | false=>(match Nat.beq f 210 with | true=>true | false=>(match Nat.beq f 209 with | true=>true | false=>(match Nat.beq f 208 with | true=>true | false=>(match Nat.beq f 156 with | true=>true | false=>(match Nat.beq f 155 with | true=>true | false=>(match Nat.beq f 134 with | true=>true | false=>(match Nat.beq f 125 with | true=>true | false=>(match Nat.beq f 117 with | true=>true | false=>(match Nat.beq f 112 with | true=>true | false=>(match Nat.beq f 64 with | true=>true | false=>(match Nat.beq f 60 with | true=>true | false=>(match Nat.beq f 17 with | true=>true | false=>false))))))))))))))))))))
def eq:Nat->Option (List (D×D)):=fun g=>(match Nat.beq g 1 with | true=>some ([(D.i 1,D.val (.func (.func 208) #[] #[])),(D.i 2,D.val (.func (.func 209) #[] #[])),(D.i 3,D.val (.func (.func 210) #[] #[])),(D.i 4,D.val (.func (.func 211) #[] #[])),(D.i 5,D.val (.func (.func 213) #[] #[])),(D.i 8,D.val (.func (.func 214) #[] #[])),(D.i 32,D.val (.func (.func 215) #[] #[])),(D.i 35,D.val (.func (.func 216) #[] #[]))])|false=>(match Nat.beq g 0 with | true=>some (Bw D.i D.i Bz)|false=>none))
abbrev Wl (p:Prop):WL:=⟨p,eq⟩
theorem ok {wl:Prop}{f:FuncId}(fn:Func){args:List AV}{objs:List OB}{res:AV}{objs':List OB}
    (hf : Tryz.prog.funcs[f]? = some fn) (hn : (fn.name == "runtime.NumGoroutine") = false) (h : XQ (mcx (Wl wl) Tryz.prog tt keep T0 0 objs.length) fn args objs fun r o => r = res ∧ o = objs') : CallsOK (Wl wl) Tryz.prog f args objs res objs' :=
  bC U7 (by kernel_rfl) keep T0 0 hf hn h
theorem okx {wl:Prop}{f:FuncId}(ex:Nat)(fn:Func){args:List AV}{objs:List OB}{res:AV}{objs':List OB}
    (hf : Tryz.prog.funcs[f]? = some fn) (hn : (fn.name == "runtime.NumGoroutine") = false) (h : XQ (mcx (Wl wl) Tryz.prog tt keep T0 ex objs.length) fn args objs fun r o => r = res ∧ o = objs') : CallsOK (Wl wl) Tryz.prog f args objs res objs' :=
  bC U7 (by kernel_rfl) keep T0 ex hf hn h
theorem inl {wl:Prop}{f:FuncId}(fn:Func)(np:Nat){args:List AV}{ob:List (Option OB)}{K:AV->List (Option OB)->Prop}
    (hf : Tryz.prog.funcs[f]? = some fn) (hn : (fn.name == "runtime.NumGoroutine") = false) (h : cD (mcx (Wl wl) Tryz.prog tt keep T0 0 np) fn args ob K) : Vq (Wl wl) Tryz.prog f args ob K :=
  Z1 U7 (by kernel_rfl) keep T0 np hf hn h
abbrev X:AV:=.dead
abbrev N:Option OB:=none
def dd:Nat->List AV->List AV
  | 0,l=>l
  | n+1,l=>.dead::dd n l
def nn:Nat->List (Option OB)->List (Option OB)
  | 0,l=>l
  | n+1,l=>none::nn n l
abbrev yb (x:Bool):AV:=.d (D.b x)
abbrev yi (x:Int):AV:=.d (D.i x)
abbrev yu (x:UInt64):AV:=.d (D.u64 x)
abbrev yv (x:UInt8):AV:=.d (D.u8 x)
abbrev ys (x:ByteArray):AV:=.d (D.s x)
theorem oK {wl:Prop}{f:FuncId}(fn:Func){args:List AV}{objs:List OB}{res:AV}{objs':List OB}(h:XQ (mcx (Wl wl) Tryz.prog tt keep T0 0 objs.length) fn args objs fun r o=>r=res∧o=objs')(hf:Tryz.prog.funcs[f]?=some fn:=by kernel_rfl)(hn:(fn.name == "runtime.NumGoroutine")=false:=by kernel_rfl):CallsOK (Wl wl) Tryz.prog f args objs res objs':=ok fn hf hn h
theorem oKx {wl:Prop}{f:FuncId}(ex:Nat)(fn:Func){args:List AV}{objs:List OB}{res:AV}{objs':List OB}(h:XQ (mcx (Wl wl) Tryz.prog tt keep T0 ex objs.length) fn args objs fun r o=>r=res∧o=objs')(hf:Tryz.prog.funcs[f]?=some fn:=by kernel_rfl)(hn:(fn.name == "runtime.NumGoroutine")=false:=by kernel_rfl):CallsOK (Wl wl) Tryz.prog f args objs res objs':=okx ex fn hf hn h
theorem cO {ops:Array Oper}{e:List (List Nat×List Nat)}{K:Prop}(k:K)(h:confB ops e=true:=by kernel_rfl):Ft ops 0 e=true/\K:=cOB h k
theorem dO {ops:Array Oper}{K:Prop}(k:K)(h:drawB ops=true:=by kernel_rfl):HO ops=true/\K:=dOB h k
abbrev yr (a b:Nat):AV:=.ref a b
abbrev yO {α:Type}(r:Nat)(f:α->D)(l:List α):AV:=.own r (List.map f l).length
abbrev yR {α:Type}(e s:Nat)(f:α->D)(l:List α):Option OB:=some (OB.row e s (List.map f l) .no)
abbrev yB (l:List AV):Option OB:=some (OB.box l)
abbrev y0 (l:List JAE):AV:=.d (D.l 2 JAE.toD l)
abbrev y1 (l:List JAB):AV:=.d (D.l 2 JAB.toD l)
abbrev y2 (l:List JAF):AV:=.d (D.l 3 JAF.toD l)
abbrev y3 (l:List UInt8):AV:=.d (D.l 1 D.u8 l)
abbrev y4 (l:List JAA):AV:=.d (D.l 3 JAA.toD l)
abbrev y5 (l:List JAC):AV:=.d (D.l 4 JAC.toD l)
abbrev y6 (l:List Int):AV:=.d (D.l 1 D.i l)
abbrev zS0 (a0:Int)(a1:Bool)(a2:UInt64)(a3:UInt64)(a4:Int)(a5:Int)(a6:Int)(a7:List JAE)(a8:List JAB)(a9:List JAF):Option OB:=yB [yi a0,yO 106 JAE.toD a7,yb a1,yu a2,yu a3,yi a4,yi a5,yi a6,yO 105 JAB.toD a8,yO 104 JAF.toD a9,AV.d (D.nil 3)]
abbrev zS1 (a0:List JAA):Option OB:=yB [yO 168 JAA.toD a0]
abbrev zS2 (a0:Int)(a1:Bool)(a2:UInt64)(a3:UInt64)(a4:Int)(a5:Int)(a6:Int)(a7:List JAE)(a8:List JAB)(a9:List JAF)(a10:List JAA):Option OB:=yB [yi a0,yO 64 JAE.toD a7,yb a1,yu a2,yu a3,yi a4,yi a5,yi a6,yO 65 JAB.toD a8,yO 67 JAF.toD a9,yO 56 JAA.toD a10]
abbrev zS3 (a0:Int)(a1:Bool)(a2:UInt64)(a3:List JAC)(a4:List JAC):Option OB:=yB [yO 22 JAC.toD a3,yi a0,AV.d (D.nil 2),yb a1,yu a2,yu a2,yi a0,yi a0,yi a0,AV.d (D.nil 2),AV.d (D.nil 3),AV.d (D.nil 3),yO 48 JAC.toD a4]
abbrev zS4 (a0:List JAC)(a1:Bool)(a2:UInt64)(a3:UInt64)(a4:List JAA)(a5:List JAC)(a6:List JAC)(a7:List JAC):Option OB:=yB [AV.d (D.l 3 JAA.toD a4),AV.d (D.b a1),AV.d (D.u64 a2),AV.d (D.u64 a3),AV.d (D.l 4 JAC.toD a5),y5 a0,AV.d (D.l 4 JAC.toD a6),AV.d (D.l 4 JAC.toD a7)]
abbrev zS5 (a0:Int)(a1:Bool)(a2:UInt64)(a3:List JAC):Option OB:=yB [yO 22 JAC.toD a3,yi a0,AV.d (D.nil 2),yb a1,yu a2,yu a2,yi a0,yi a0,yi a0,AV.d (D.nil 2),AV.d (D.nil 3),AV.d (D.nil 3),AV.d (D.nil 4)]
abbrev zS6 (a0:Int)(a1:Bool)(a2:UInt64)(a3:UInt64)(a4:Int)(a5:Int)(a6:Int)(a7:List JAE)(a8:List JAB)(a9:List JAF):List (Option OB):=N::N::yB JAD.zv::nn 67 (yB JAD.zv::N::zS0 a0 a1 a2 a3 a4 a5 a6 a7 a8 a9::nn 31 (yR 141 3 JAF.toD a9::yR 137 2 JAB.toD a8::yR 132 2 JAE.toD a7::nn 127 ([])))
abbrev zS7 (a0:List JAA)(a1:JAG)(a2:JAD):List (Option OB):=N::yB (JAG.av a1)::some (OB.row 88 3 (List.map JAA.toD []) .no)::nn 53 (yB (JAD.av a2)::N::N::zS1 a0::nn 108 (yR 88 3 JAA.toD a0::nn 17 ([])))
abbrev zS8 (a0:Int)(a1:Bool)(a2:UInt64)(a3:UInt64)(a4:Int)(a5:Int)(a6:Int)(a7:List JAE)(a8:List JAB)(a9:List JAF)(a10:JAA):List (Option OB):=N::N::yB JAD.zv::nn 67 (yB JAD.zv::N::zS0 a0 a1 a2 a3 a4 a5 a6 a7 a8 a9::N::yB (JAA.av a10)::nn 29 (yR 141 3 JAF.toD a9::yR 137 2 JAB.toD a8::yR 132 2 JAE.toD a7::nn 127 ([])))
abbrev zS9 (a0:Int)(a1:Int)(a2:Bool)(a3:Bool)(a4:Bool)(a5:List JAA):List AV:=X::X::yr 70 0::X::yr 72 0::dd 5 (y4 a5::yi a0::yi a1::dd 11 (yb a2::X::X::X::yb a3::X::X::X::yb a4::dd 6 ([])))
abbrev Wg (a0:Bool)(a1:List JAE)(a2:List Int)(a3:JAI):List (Option OB):=yB (JAI.av a3)::N::N::N::yR 132 2 JAE.toD a1::N::N::yB [yb a0,yO 52 D.i a2]::nn 44 (yR 3 1 D.i a2::nn 58 ([]))
abbrev VP (a0:Int)(a1:Int)(a2:Bool)(a3:List JAA):List AV:=X::X::yr 70 0::X::yr 72 0::dd 5 (y4 a3::yi a0::yi a1::dd 22 (yb a2::X::X::X::[]))
abbrev Vi :List AV:=X::yr 1 0::X::X::AV.own 4 (List.map JAA.toD []).length::AV.mp 24::dd 189 ([])
abbrev dW (a0:Int)(a1:Bool)(a2:UInt64)(a3:UInt64)(a4:Int)(a5:Int)(a6:Int)(a7:List JAE)(a8:List JAB)(a9:List JAF)(a10:List JAA):List (Option OB):=N::N::yB JAD.zv::N::zS2 a0 a1 a2 a3 a4 a5 a6 a7 a8 a9 a10::nn 51 (yR 88 3 JAA.toD a10::nn 7 (yR 132 2 JAE.toD a7::yR 137 2 JAB.toD a8::N::yR 141 3 JAF.toD a9::nn 166 ([])))
abbrev fZ (a0:Int)(a1:Int)(a2:Int)(a3:Int)(a4:List JAE)(a5:List JAB)(a6:List JAF)(a7:List JAA)(a8:List Int)(a9:Bool)(a10:UInt64)(a11:UInt64)(a12:JAI):List (Option OB):=yB (JAI.av a12)::N::N::yB JAD.zv::yB [yi a0,y0 a4,AV.d (D.b a9),AV.d (D.u64 a10),AV.d (D.u64 a11),yi a1,yi a2,yi a3,y1 a5,y2 a6,yO 67 JAA.toD a7]::nn 46 (yR 3 1 D.i a8::nn 15 (yR 88 3 JAA.toD a7::nn 5 ([])))
abbrev dn (a0:Int)(a1:Int)(a2:List UInt8)(a3:List JAE):List AV:=X::yr 1 0::X::X::AV.own 4 (List.map JAA.toD []).length::AV.mp 24::yO 42 D.u8 a2::dd 37 (AV.d (D.l 2 JAE.toD a3)::yi a0::yi a1::dd 148 ([]))
abbrev dl (a0:Int)(a1:Bool)(a2:UInt64)(a3:List JAC)(a4:List JAC)(a5:JAI):List (Option OB):=yB (JAI.av a5)::N::N::yB JAG.zv::zS3 a0 a1 a2 a3 a4::nn 17 (yR 41 4 JAC.toD a3::nn 25 (yR 41 4 JAC.toD a4::nn 30 ([])))
abbrev du (a0:Bool)(a1:Int)(a2:Int)(a3:List JAA):List AV:=yr 0 0::X::X::AV.mp 10::dd 4 (yb a0::dd 4 (AV.d (D.l 3 JAA.toD a3)::yi a1::yi a2::dd 79 ([])))
abbrev ew (a0:Int)(a1:Int)(a2:Int)(a3:List JAA)(a4:List JAA):List AV:=X::yr 1 0::X::X::yO 4 JAA.toD a3::AV.mp 24::dd 10 (yi a0::dd 135 (yi a0::dd 19 (AV.d (D.l 3 JAA.toD a4)::yi a1::yi a2::dd 20 ([]))))
abbrev fE (a0:Int)(a1:Int)(a2:List Int):List AV:=yr 0 0::X::yr 3 0::yr 4 0::dd 46 (yO 51 D.i a2::yi a0::yi a1::dd 17 ([]))
abbrev eQ (a0:List JAA)(a1:JAG):List (Option OB):=N::yB (JAG.av a1)::some (OB.row 88 3 (List.map JAA.toD []) .no)::nn 56 (zS1 a0::nn 108 (yR 88 3 JAA.toD a0::nn 17 ([])))
abbrev bK (a0:JAI)(a1:Addr):List (Option OB):=yB (JAI.av a0)::N::N::yB JAC.zv::yB (Addr.av a1)::nn 35 ([])
abbrev dK (a0:Int)(a1:List JAA):List AV:=X::yr 1 0::X::X::yO 4 JAA.toD a1::AV.mp 24::dd 146 (yi a0::dd 42 ([]))
abbrev Yk (a0:List JAB):List (Option OB):=yR 137 2 JAB.toD a0::nn 61 ([])
abbrev Yz (a0:List JAF):List (Option OB):=yR 141 3 JAF.toD a0::nn 61 ([])
abbrev bW (a0:Addr):List (Option OB):=N::N::yB Addr.zv::N::yB (Addr.av a0)::nn 38 ([])
abbrev Yx (a0:JAG):List (Option OB):=N::yB (JAG.av a0)::nn 90 ([])
abbrev yC (wl:Prop):=CallsOK (Wl wl) Tryz.prog
end Go.AX.Q19
end
section
namespace Go.AX.Q19
open Go Go.AX Go.Proofs Go.Proofs.YtbohbnpaadcfmaaGreatDoor
def hM (n:Int):FuncId:=if n=1 then 208 else if n=2 then 209 else if n=3 then 210 else if n=4 then 211 else if n=5 then 213 else if n=8 then 214 else if n=32 then 215 else 216
def D2f {H:Type}:Lit×DataW H->D×D
 | (.int k n,.lit (.int k' m))=>(.val (.int k n),.val (.int k' m))
 | _=>(D.i 0,D.i 0)
def D2r {H:Type}:Lit×DataW H->D×D
 | (.int k n,_)=>(.val (.int k n),.val (.func (.func (hM n)) #[] #[]))
 | _=>(D.i 0,D.i 0)
theorem glob_ok {W:World}{p:Prop}(h:laidMetH Tryz.prog Rows.updateEncodesRow.laid W) :∃gb:Nat->Prop,(Wl p).gf gb W/\∀b,gb b->b<W.heap.size:=by
 obtain⟨h1,_⟩:=laidMetH_iff.1 h
 have e1 : (Rows.updateEncodesRow.laid.filter fun x => x.2.handleName?.isNone) = [("exchangepoint/attribute.flags", Rows.laid_exchangepoint_attribute_flags)] := by kernel_rfl
 rw[e1] at h1
 obtain⟨ps,⟨g0,t0,cs0,f0,p0,q0,hg0,ht0,hv0,hd0,_⟩,_,_⟩:=h1
 obtain rfl := X25 ((show Tryz.prog.globalNamed "exchangepoint/attribute.flags" = some 0 by kernel_rfl).symm.trans hg0)
 obtain rfl:=X25 ((show (Tryz.prog.globals[0]?).map (·.type)=some 176 by kernel_rfl).symm.trans ht0)
 obtain⟨b0,a0,c0,hc0,hb0,hp0,ho0⟩:=VI (kd:=.i64) Tryz.underlying176 Tryz.underlying3 hd0 D2f (fun n v d m q hm hv hf=>by
  obtain⟨j,h1,h2,_⟩:=DataW.trod_int Tryz.underlying3 hv
  simp only[X26] at h2
  obtain⟨rfl,_⟩:=h2
  have hv:v=.int .i64 j:=by
   unfold Value.formed at hf
   rw[Tryz.underlying3] at hf
   cases v<;>simp_all [Value.cells]
  subst hv
  exact⟨rfl,rfl⟩)
 obtain ⟨g1, t1, cs1, f1, p1, hg1, ht1, hv1, hd1⟩ := h.funcs (n := "exchangepoint/attribute.readers") (X19 _ (X14.2 rfl))
 obtain rfl := X25 ((show Tryz.prog.globalNamed "exchangepoint/attribute.readers" = some 1 by kernel_rfl).symm.trans hg1)
 obtain rfl:=X25 ((show (Tryz.prog.globals[1]?).map (·.type)=some 182 by kernel_rfl).symm.trans ht1)
 have hd1:DataW.trod (funcToken Tryz.prog) Tryz.prog W 0 (fun _=>true) true f1 182 cs1.toList=some (.map [(.int .i64 1,.held [101,120,99,104,97,110,103,101,112,111,105,110,116,47,97,116,116,114,105,98,117,116,101,46,114,101,97,100,79,114,105,103,105,110]),(.int .i64 2,.held [101,120,99,104,97,110,103,101,112,111,105,110,116,47,97,116,116,114,105,98,117,116,101,46,114,101,97,100,80,97,116,104]),(.int .i64 3,.held [101,120,99,104,97,110,103,101,112,111,105,110,116,47,97,116,116,114,105,98,117,116,101,46,114,101,97,100,78,101,120,116]),(.int .i64 4,.held [101,120,99,104,97,110,103,101,112,111,105,110,116,47,97,116,116,114,105,98,117,116,101,46,114,101,97,100,101,114,115,36,49]),(.int .i64 5,.held [101,120,99,104,97,110,103,101,112,111,105,110,116,47,97,116,116,114,105,98,117,116,101,46,114,101,97,100,101,114,115,36,50]),(.int .i64 8,.held [101,120,99,104,97,110,103,101,112,111,105,110,116,47,97,116,116,114,105,98,117,116,101,46,114,101,97,100,67,111,109,109,117,110,105,116,105,101,115]),(.int .i64 32,.held [101,120,99,104,97,110,103,101,112,111,105,110,116,47,97,116,116,114,105,98,117,116,101,46,114,101,97,100,76,97,114,103,101]),(.int .i64 35,.held [101,120,99,104,97,110,103,101,112,111,105,110,116,47,97,116,116,114,105,98,117,116,101,46,114,101,97,100,101,114,115,36,51])],p1):=hd1
 obtain⟨b1,a1,c1,hc1,hb1,hp1,ho1⟩:=VI (kd:=.i64) Tryz.underlying182 Tryz.underlying3 hd1 D2r (fun n v d m q hm hv hf=>by
  have hv1:v.cells.toList=[v]:=by
   unfold Value.formed at hf
   rw[Tryz.underlying180] at hf
   cases v<;>simp_all [Value.cells]
  rw[hv1] at hv
  simp only[List.mem_cons,List.not_mem_nil,or_false,X26,Lit.int.injEq,true_and] at hm
  rcases hm with ⟨rfl,rfl⟩|⟨rfl,rfl⟩|⟨rfl,rfl⟩|⟨rfl,rfl⟩|⟨rfl,rfl⟩|⟨rfl,rfl⟩|⟨rfl,rfl⟩|⟨rfl,rfl⟩
  ·obtain rfl:=func_of_trod (f0:=208) Tryz.underlying180 (by kernel_rfl) hv
   exact⟨rfl,rfl⟩
  ·obtain rfl:=func_of_trod (f0:=209) Tryz.underlying180 (by kernel_rfl) hv
   exact⟨rfl,rfl⟩
  ·obtain rfl:=func_of_trod (f0:=210) Tryz.underlying180 (by kernel_rfl) hv
   exact⟨rfl,rfl⟩
  ·obtain rfl:=func_of_trod (f0:=211) Tryz.underlying180 (by kernel_rfl) hv
   exact⟨rfl,rfl⟩
  ·obtain rfl:=func_of_trod (f0:=213) Tryz.underlying180 (by kernel_rfl) hv
   exact⟨rfl,rfl⟩
  ·obtain rfl:=func_of_trod (f0:=214) Tryz.underlying180 (by kernel_rfl) hv
   exact⟨rfl,rfl⟩
  ·obtain rfl:=func_of_trod (f0:=215) Tryz.underlying180 (by kernel_rfl) hv
   exact⟨rfl,rfl⟩
  obtain rfl:=func_of_trod (f0:=216) Tryz.underlying180 (by kernel_rfl) hv
  exact⟨rfl,rfl⟩)
 have cell :∀{g:Nat} {n:String} {cs:Array Value} {v:Value},Tryz.prog.globalNamed n=some g->W.var? Tryz.prog n=some cs->cs.toList=[v]->cellAt W g 0=some v/\g<W.heap.size:=by
  intro g n cs v hg hv hc
  have h1:=World.var?_cell hg hv 0
  rw[Array.eq_one_of_toList hc] at h1
  have h1:W.cell? ⟨g,0,none⟩=some v:=by simpa using h1
  refine⟨h1,?_⟩
  unfold World.var? at hv
  rw[hg,Option.bind_some] at hv
  cases hh:W.heap[g]? with
  | none=>rw[hh] at hv;cases hv
  | some o=>exact (Array.getElem?_eq_some_iff.1 hh).1
 obtain⟨k0,s0⟩:=cell hg0 hv0 hc0
 obtain⟨k1,s1⟩:=cell hg1 hv1 hc1
 refine⟨fun b=>b=0\/b=1\/b=b0\/b=b1,fun g es hg=>?_,fun b hb=>?_⟩
 rotate_left
 ·rcases hb with rfl | rfl | rfl | rfl
  ·exact s0
  ·exact s1
  ·exact (Array.getElem?_eq_some_iff.1 hb0).1
  exact (Array.getElem?_eq_some_iff.1 hb1).1
 match g,hg with
 | 0,hg=>
  obtain rfl:Bw D.i D.i Bz=es:=X25 hg
  refine⟨.inl rfl,b0,a0,c0,_,.inr (.inr (.inl rfl)),k0,hb0,fun tk x q hq=>?_,S8 ho0⟩
  refine O6 (l:=Bw D.i D.i Bz) (hp0.symm) ?_ (by unfold Bz Bw;simp[D.i]) hq
  intro q hq
  obtain⟨z,_,rfl⟩:=List.mem_map.1 hq
  exact⟨_,rfl⟩
 | 1,hg=>
  obtain rfl:=X25 hg
  refine⟨.inr (.inl rfl),b1,a1,c1,_,.inr (.inr (.inr rfl)),k1,hb1,fun tk x q hq=>?_,S8 ho1⟩
  refine O6 (hp1.symm) ?_ (by simp[D2r]) hq
  intro q hq
  obtain⟨z,hz,rfl⟩:=List.mem_map.1 hq
  simp only[List.mem_cons,List.not_mem_nil,or_false] at hz
  rcases hz with rfl | rfl | rfl | rfl | rfl | rfl | rfl | rfl<;>exact⟨_,rfl⟩
 | g+2,hg=>cases hg
end Go.AX.Q19
end
section
namespace Go.AX
class Tt {ρ:Type} (m:Option ρ):Prop where
 h :∃r,m=some r
def Ok {ρ:Type}(m:Option ρ)(Q:ρ->Prop):Prop:=∃r,m=some r/\Q r
theorem Ok.ret {ρ:Type}{Q:ρ->Prop}{r:ρ}(h:Q r):Ok (some r) Q:=⟨r,rfl,h⟩
theorem Ok.of {ρ:Type}{m:Option ρ}[t:Tt m]:Ok m fun r=>m=some r:=by
 obtain⟨r,h⟩:=t.h
 exact⟨r,h,h⟩
theorem Ok.imp {ρ:Type}{m:Option ρ}{P Q:ρ->Prop}(h:Ok m P)(k :∀r,P r->Q r):Ok m Q:=by
 obtain⟨r,h1,h2⟩:=h
 exact⟨r,h1,k r h2⟩
theorem Ok.tt {ρ:Type}{m:Option ρ}{Q:ρ->Prop}(h:Ok m Q):Tt m:=by
 obtain⟨r,h1,_⟩:=h
 exact⟨r,h1⟩
theorem Ok.bind {α ρ:Type}{m:Option α}{f:α->Option ρ}{P:α->Prop}{Q:ρ->Prop}(h:Ok m P)(k :∀a,P a->Ok (f a) Q):Ok (Option.bind m f) Q:=by
 obtain⟨a,h1,h2⟩:=h
 rw[h1]
 exact k a h2
theorem Ok.join {τ ρ:Type}{m:(τ->Option ρ)->Option ρ}{k:τ->Option ρ}{Q:ρ->Prop}(J:τ->Prop)(h1 :∀k',(∀v,J v->Ok (k' v) Q)->Ok (m k') Q)(h2 :∀v,J v->Ok (k v) Q):Ok (AC m k) Q:=h1 k h2
theorem Ok.forX {α σ ρ:Type}{done:σ->Option ρ}{body:(σ->Option ρ)->α->Nat->σ->Option ρ}{Q:ρ->Prop}{l:List α}{s0:σ}(I:Nat->σ->Prop)(h0:I 0 s0)(hd :∀s,I l.length s->Ok (done s) Q)
  (hs :∀(next:σ->Option ρ) x i s,l[i]?=some x->I i s->(∀s',I (i+1) s'->Ok (next s') Q)->Ok (body next x i s) Q):Ok (An done body l 0 s0) Q:=by
 have key :∀(t:List α) (i:Nat) (s:σ),(∃p,l=p++t/\p.length=i)->I i s->Ok (An done body t i s) Q:=by
  intro t
  induction t with
  | nil=>intro i s ⟨p,hp,hl⟩ hi;exact hd s (by rw[hp];simpa[hl] using hi)
  | cons x t ih=>
   intro i s ⟨p,hp,hl⟩ hi
   exact hs _ x i s (by rw[hp,<- hl];simp) hi fun s' h'=>ih (i+1) s' ⟨p++[x],by simp[hp],by simp[hl]⟩ h'
 exact key l 0 s0 ⟨[],rfl,rfl⟩ h0
theorem Ok.forI {α σ ρ:Type}{done:σ->Option ρ}{body:(σ->Option ρ)->α->Nat->σ->Option ρ}{Q:ρ->Prop}{l:List α}{s0:σ}(I:Nat->σ->Prop)(h0:I 0 s0)(hd :∀s,I l.length s->Ok (done s) Q)
  (hs :∀(next:σ->Option ρ) x i s,i<l.length->x∈l->I i s->(∀s',I (i+1) s'->Ok (next s') Q)->Ok (body next x i s) Q):Ok (An done body l 0 s0) Q:=
 .forX I h0 hd fun n x i s hx=>hs n x i s (X16.1 hx).1 (List.mem_of_getElem? hx)
theorem Ok.for_ {α σ ρ:Type}{done:σ->Option ρ}{body:(σ->Option ρ)->α->Nat->σ->Option ρ}{Q:ρ->Prop}{l:List α}{s0:σ}(hd :∀s,Ok (done s) Q)
  (hs :∀(next:σ->Option ρ) x i s,i<l.length->x∈l->(∀s',Ok (next s') Q)->Ok (body next x i s) Q):Ok (An done body l 0 s0) Q:=
 .forI (fun _ _=>True) trivial (fun s _=>hd s) fun n x i s h1 h2 _ h3=>hs n x i s h1 h2 fun s'=>h3 s' trivial
theorem Ok.whileI {σ ρ:Type}{body:(σ->Option ρ)->σ->Option ρ}{n:Nat}{s:σ}{Q:ρ->Prop}(I:σ->Prop)(μ:σ->Nat)(h0:I s)(hm:μ s<n)
  (hs :∀(next:σ->Option ρ) s,I s->(∀s',I s'->μ s'<μ s->Ok (next s') Q)->Ok (body next s) Q):Ok (A7 body n s) Q:=
 TD I μ Q (fun next s h k=>hs next s h k) n s h0 hm
theorem Ok.ite {ρ:Type}{p:Prop}[Decidable p]{x y:Option ρ}{Q:ρ->Prop}(h1:p->Ok x Q)(h2:¬ p->Ok y Q):Ok (if p then x else y) Q:=by
 split
 ·exact h1 ‹_›
 exact h2 ‹_›
theorem Ok.geti {α:Type}{l:List α}{i:Int}(h:0<=i/\i<l.length):Ok (geti l i) fun x=>x∈l/\geti l i=some x:=by
 have h2:i.toNat<l.length:=by omega
 have h3:Go.AX.geti l i=some l[i.toNat]:=by
  unfold Go.AX.geti
  rw[if_pos h]
  simp[h2]
 exact⟨_,h3,List.getElem_mem h2,h3⟩
theorem Ok.seti {α:Type}{l:List α}{i:Int}{x:α}(h:0<=i/\i<l.length):Ok (seti l i x) fun l'=>l'=l.set i.toNat x/\l'.length=l.length:=by
 refine⟨_,?_,rfl,by simp⟩
 unfold Go.AX.seti
 rw[if_pos h]
theorem Ok.apnd {α:Type}{b:Nat}{l m:List α}(hb:Nat.ble b 65536=true)(h:l.length+m.length<=1000000000):Ok (apnd b l m) fun l'=>l'=l++m:=⟨_,AO hb h,rfl⟩
theorem Ok.part {α:Type}{l:List α}{a b:Int}(h:0<=a/\a<=b/\b<=l.length):Ok (part l a b) fun l'=>l'=(l.drop a.toNat).take (b.toNat-a.toNat)/\(l'.length:Int)=b-a:=by
 refine⟨_,?_,rfl,by simp;omega⟩
 unfold Go.AX.part
 rw[if_pos h]
theorem Ok.chk {p:Prop}[Decidable p](h:p):Ok (chk p) fun _=>True:=by
 refine⟨(),?_,trivial⟩
 unfold Go.AX.chk
 rw[if_pos h]
theorem Tt.auto {ρ:Type}{m:Option ρ} (h:Ok m fun _=>True:=by
  repeat' (first
   | exact Ok.ret trivial
   | assumption
   | (refine Ok.bind Ok.of ?_;intros)
   | (refine Ok.ite ?_ ?_<;>intros)
   | (refine Ok.join (fun _=>True) ?_ ?_<;>intros)
   | (refine Ok.for_ ?_ ?_<;>intros)
   | (refine Ok.bind (Ok.geti ?_) ?_<;>intros)
   | (refine Ok.bind (Ok.chk ?_) ?_<;>intros)
   | exact ‹∀v,True->Ok _ _› _ trivial
   | exact ‹∀v,Ok _ _› _
   | solve_by_elim
   | (constructor<;>first | omega | (simp_all;done)|(simp_all;omega))
   | omega
   | decide)):Tt m:=h.tt
theorem Ok.q {ρ:Type}{m:Option ρ}{Q:ρ->Prop} (h:Ok m Q:=by
  repeat' (first
   | assumption
   | refine Ok.ret ?_
   | exact trivial
   | (refine Ok.bind Ok.of ?_;intros)
   | (refine Ok.ite ?_ ?_<;>intros)
   | (refine Ok.bind (Ok.chk ?_) ?_<;>intros)
   | (refine Ok.bind (Ok.geti ?_) ?_<;>intros)
   | (refine Ok.bind (Ok.seti ?_) ?_<;>intros)
   | (refine Ok.bind (Ok.apnd (by decide) ?_) ?_<;>intros)
   | refine ‹∀v,_->_->Ok _ _› _ ?_ ?_
   | refine ‹∀v,_->Ok _ _› _ ?_
   | exact ‹∀v,Ok _ _› _
   | (refine Ok.join (τ:=Bool) (fun _=>True) ?_ ?_<;>intros)
   | (refine Ok.join (τ:=Unit) (fun _=>True) ?_ ?_<;>intros)
   | omega
   | solve_by_elim
   | (simp_all;done)
   | (simp_all;omega)
   | (simp only[X11,X12,X13,X21,decide_eq_true_eq,beq_iff_eq,bne_iff_ne,Bool.not_eq_true'] at *;(try subst_vars);(try simp only[X11,X12,X13]);omega))):Ok m Q:=h
theorem Ok.pos {ρ:Type}{Q:ρ->Prop}{n:Nat}{g:(Bool->Option ρ)->Int->Option ρ}{k:Int->Option ρ}(hn:n<=1000000000)
  (hg :∀(k':Bool->Option ρ) (v:Int),0<=v->v<=n->(∀c,(c=true->v<n)->Ok (k' c) Q)->Ok (g k' v) Q) (hk :∀v:Int,0<=v->v<=n->Ok (k v) Q) :
  Ok (AC (fun k1=>A7 (fun next v=>AC (fun k2=>g k2 v) (fun c=>if c=true then next (AI (v+1)) else k1 v)) fuel 0) k) Q:=by
 refine .join (fun v:Int=>0<=v/\v<=n) (fun k1 hk1=>?_) fun v hv=>hk v hv.1 hv.2
 refine .whileI (fun v:Int=>0<=v/\v<=n) (fun v=>(n-v).toNat) (by omega) (CE (by omega)) fun next v hv hnx=>?_
 refine .join (fun c=>c=true->v<n) (fun k2 hk2=>hg k2 v hv.1 hv.2 hk2) fun c hc=>.ite (fun h=>?_) fun _=>hk1 v hv
 have:=hc h
 rw[AP (by omega)]
 exact hnx _ (by omega) (by omega)
end Go.AX
end
section
namespace Go.AX
theorem Z3 {α ρ:Type}{g:α->Bool}{body:(Unit->Option ρ)->α->Nat->Unit->Option ρ}{K:Unit->Option ρ}{r0:Option ρ} :
  ∀{l:List α} {i:Nat},(∀next x i,x∈l->body next x i ()=cond (g x) (next ()) r0)->An K body l i ()=cond (l.all g) (K ()) r0
 | [],_,_=>rfl
 | x::t,i,h=>by
  show body (fun s=>An K body t (i+1) s) x i ()=_
  rw[h _ x i (by simp),List.all_cons]
  cases g x
  ·rfl
  exact Z3 fun next y j hy=>h next y j (X19 _ hy)
theorem eT {α:Type}{f:α->Option Bool}{q:α->Bool} :∀{l:List α} {i:Nat},(∀x∈l,f x=some (q x))->
  An (fun _=>some (-1)) (fun next x i _=>Option.bind (f x) fun v=>if v then some (i:Int) else next ()) l i ()=some (match l.findIdx? q with | some j=>((i+j:Nat):Int)|none=>-1)
 | [],_,_=>rfl
 | x::t,i,h=>by
  show Option.bind (f x) (fun v=>if v then some (i:Int) else An (fun _=>some (-1)) _ t (i+1) ())=_
  rw[h x (by simp),AA,List.findIdx?_cons]
  by_cases hq:q x=true
  ·rw[if_pos hq,if_pos hq];simp
  rw[if_neg hq,if_neg hq,eT fun y hy=>h y (X19 _ hy)]
  cases t.findIdx? q with
  | none=>rfl
  | some j=>simp only[Option.map_some];rw[show i+1+j=i+(j+1) by omega]
theorem ai {α:Type}{f:α->Option Bool}{q:α->Bool}{l:List α}(h :∀x∈l,f x=some (q x)) :
  (Option.bind (AC (τ:=Unit) (fun k1=>An (fun _=>k1 ()) (fun next x i _=>Option.bind (f x) fun v=>if v then some (i:Int) else next ()) l 0 ()) fun _=>some (-1)) fun v1=>some (decide (v1 ≥ 0)))=some (l.any q):=by
 rw[AB,eT h,AA]
 congr 1
 cases hf:l.findIdx? q with
 | none=>
  have:l.any q=false:=by
   rw[List.findIdx?_eq_none_iff] at hf
   simp only[List.any_eq_false]
   intro x hx
   simp[hf x hx]
  rw[this];rfl
 | some j=>
  have h1:=List.findIdx?_eq_some_iff_getElem.1 hf
  obtain⟨hj,hq,_⟩:=h1
  have:l.any q=true:=List.any_eq_true.2 ⟨_,List.getElem_mem hj,hq⟩
  rw[this]
  simp
theorem UI {a b:ByteArray}(h:(a==b)=true):a=b:=(Go.MapKept.bytes_beq a b).1 h
theorem eN {a:ByteArray}:(a==a)=true:=(Go.MapKept.bytes_beq a a).2 rfl
instance:LawfulBEq ByteArray:={ eq_of_beq:=UI,rfl:=eN }
section
variable {K V:Type} [BEq K] [LawfulBEq K]
theorem mget_mset (l:List (K×V))(k:K)(v:V)(k':K):BC (C2 l k v) k'=if k'==k then some v else BC l k':=by
 induction l with
 | nil=>
  unfold C2
  simp only[BC]
 | cons p l ih=>
  unfold C2
  by_cases hp:(k==p.1)=true
  ·rw[if_pos hp]
   have:=eq_of_beq hp
   simp only[BC]
   by_cases hk:(k'==k)=true
   ·rw[if_pos hk,if_pos hk]
   rw[if_neg hk,if_neg hk,if_neg (by rw[<- this];exact hk)]
  rw[if_neg hp]
  simp only[BC,ih]
  by_cases hk:(k'==k)=true
  ·have:=eq_of_beq hk
   subst this
   rw[if_neg hp,if_pos hk,if_pos hk]
  rw[if_neg hk,if_neg hk]
end
theorem GY {α:Type}(p:α->Bool)(l:List α):(l.takeWhile p).length<=l.length:=(List.takeWhile_prefix p).length_le
theorem Mc {α:Type}{p:α->Bool} :∀{l:List α} {k:Nat} (hk:k<l.length),k<=(l.takeWhile p).length->(k<(l.takeWhile p).length↔p l[k]=true)
 | [],_,hk,_=>by simp at hk
 | x::t,k,hk,h=>by
  rw[List.takeWhile_cons] at h ⊢
  by_cases hp:p x=true
  ·rw[if_pos hp] at h ⊢
   cases k with
   | zero=>simp[hp]
   | succ k=>simpa using Mc (p:=p) (l:=t) (k:=k) (by simpa using hk) (by simpa using h)
  rw[if_neg hp] at h ⊢
  have:k=0:=by simpa using h
  subst this
  simp[hp]
theorem cY {α ρ:Type}{l:List α}{p:α->Bool}(g:α->(Bool->Option ρ)->Option ρ){K:Int->Option ρ}(hl:l.length<=1000000000000)(hg :∀x∈l,∀k,g x k=k (p x)) :
  AC (fun k1=>A7 (fun next v=>AC (fun k2=>if decide (v<(l.length:Int)) then Option.bind (geti l v) fun x=>g x k2 else k2 false) (fun c=>if c=true then next (AI (v+1)) else k1 v)) fuel 0) K=K ((l.takeWhile p).length:Int):=by
 have ht:=GY p l
 rw[AB,Da (fun v:Int=>0<=v/\v<=((l.takeWhile p).length:Int)) (fun v=>(l.length-v).toNat) (fun _=>K ((l.takeWhile p).length:Int)) ?_ fuel 0 (by omega) (CE (by omega))]
 intro next v hv hn
 obtain⟨k,rfl⟩ :∃k:Nat,v=k:=⟨v.toNat,by omega⟩
 rw[AB]
 by_cases hk:k<l.length
 ·rw[if_pos (by simpa using hk),B8 hk,AA,hg _ (List.getElem_mem hk)]
  have h:=Mc (p:=p) hk (by omega)
  by_cases hp:p l[k]=true
  ·rw[if_pos hp,AP (by omega)]
   have:=h.2 hp
   exact hn _ (by omega) (by omega)
  rw[if_neg hp]
  have:¬ k<(l.takeWhile p).length:=fun q=>hp (h.1 q)
  have:k=(l.takeWhile p).length:=by omega
  rw[this]
 rw[if_neg (by simpa using hk)]
 have:k=(l.takeWhile p).length:=by omega
 subst this
 rfl
theorem TF {α:Type}[DecidableEq α] :∀{l m:List α},l.Nodup->(∀x∈l,x∈m)->l.length<=m.length
 | [],_,_,_=>Nat.zero_le _
 | x::t,m,h,hs=>by
  obtain⟨h1,h2⟩:=List.nodup_cons.1 h
  have hx:=hs x (by simp)
  have:=TF (m:=m.erase x) h2 fun y hy=>(List.mem_erase_of_ne (fun e=>h1 (by rw[<- e];exact hy))).2 (hs y (X19 _ hy))
  rw[List.length_erase_of_mem hx] at this
  have:0<m.length:=List.length_pos_of_mem hx
  simp only[X12]
  omega
theorem I8 {α:Type}{lt:α->α->Prop}(hirr :∀a,¬ lt a a)(htr :∀a b c,lt a b->lt b c->lt a c) :∀{l m:List α},l.Pairwise lt->m.Pairwise lt->(∀x,x∈l↔x∈m)->l=m
 | [],[],_,_,_=>rfl
 | [],y::m,_,_,h=>by have:=(h y).2 (by simp);simp at this
 | x::l,[],_,_,h=>by have:=(h x).1 (by simp);simp at this
 | x::l,y::m,h1,h2,h=>by
  obtain⟨a1,a2⟩:=List.pairwise_cons.1 h1
  obtain⟨b1,b2⟩:=List.pairwise_cons.1 h2
  have hxy:x=y:=by
   rcases List.mem_cons.1 ((h x).1 (by simp)) with e | e
   ·exact e
   rcases List.mem_cons.1 ((h y).2 (by simp)) with e' | e'
   ·exact e'.symm
   exact absurd (htr _ _ _ (a1 y e') (b1 x e)) (hirr x)
  subst hxy
  congr 1
  refine I8 hirr htr a2 b2 fun z=>?_
  constructor
  ·intro hz
   rcases List.mem_cons.1 ((h z).1 (X19 _ hz)) with e | e
   ·subst e;exact absurd (a1 z hz) (hirr z)
   exact e
  intro hz
  rcases List.mem_cons.1 ((h z).2 (X19 _ hz)) with e | e
  ·subst e;exact absurd (b1 z hz) (hirr z)
  exact e
def FB {α:Type}(lt:α->α->Bool)(l:List α)(x:α):List α:=l.takeWhile (lt · x)++x::l.dropWhile (lt · x)
theorem D8 {α:Type}{lt:α->α->Bool}{l:List α}{x y:α}:y∈FB lt l x↔y∈l\/y=x:=by
 unfold FB
 have:y∈l↔y∈l.takeWhile (lt · x)\/y∈l.dropWhile (lt · x):=by
  rw[<- X23,List.takeWhile_append_dropWhile]
 rw[this,X23,List.mem_cons]
 constructor
 ·rintro (h | h | h)
  ·exact .inl (.inl h)
  ·exact .inr h
  exact .inl (.inr h)
 rintro ((h | h)|h)
 ·exact .inl h
 ·exact .inr (.inr h)
 exact .inr (.inl h)
theorem HA {α:Type}(lt:α->α->Bool)(l:List α)(x:α):(FB lt l x).length=l.length+1:=by
 unfold FB
 have:=congrArg List.length (List.takeWhile_append_dropWhile (p:=(lt · x)) (l:=l))
 simp only[X11,X12] at this ⊢
 omega
theorem Ia {α:Type}(p:α->Bool){l:List α}{x:α}(h:x∈l.takeWhile p):p x=true:=by
 induction l with
 | nil=>simp at h
 | cons y t ih=>
  rw[List.takeWhile_cons] at h
  split at h
  ·rcases List.mem_cons.1 h with rfl | h
   ·assumption
   exact ih h
  simp at h
theorem IQ {α:Type}{lt:α->α->Bool}(htr :∀a b c,lt a b=true->lt b c=true->lt a c=true)(htot :∀a b,lt a b=false->a=b\/lt b a=true){l:List α}{x:α}(h:l.Pairwise fun a b=>lt a b=true)(hx:x∉l) :
  (FB lt l x).Pairwise fun a b=>lt a b=true:=by
 have h0:=h
 rw[<- List.takeWhile_append_dropWhile (p:=(lt · x)) (l:=l),List.pairwise_append] at h
 obtain⟨h1,h2,h3⟩:=h
 have hd :∀b∈l.dropWhile (lt · x),lt x b=true:=by
  cases hl:l.dropWhile (lt · x) with
  | nil=>intro b hb;simp at hb
  | cons y t=>
   have hy:lt y x=false:=by
    have:=List.head?_dropWhile_not (lt · x) l
    rw[hl] at this
    simpa using this
   have hyl:y∈l:=by
    have:y∈l.dropWhile (lt · x):=by rw[hl];simp
    exact List.dropWhile_subset _ this
   have hxy:lt x y=true:=by
    rcases htot _ _ hy with e | e
    ·subst e;exact absurd hyl hx
    exact e
   rw[hl] at h2
   intro b hb
   rcases List.mem_cons.1 hb with rfl | hb
   ·exact hxy
   exact htr _ _ _ hxy ((List.pairwise_cons.1 h2).1 b hb)
 unfold FB
 rw[List.pairwise_append]
 refine⟨h1,List.pairwise_cons.2 ⟨hd,h2⟩,fun a ha b hb=>?_⟩
 rcases List.mem_cons.1 hb with e | hb
 ·rw[e];exact Ia (lt · x) ha
 exact h3 a ha b hb
theorem takeWhile_take {α:Type}(p:α->Bool)(l:List α):l.take (l.takeWhile p).length=l.takeWhile p/\l.drop (l.takeWhile p).length=l.dropWhile p:=by
 have h:=List.takeWhile_append_dropWhile (p:=p) (l:=l)
 constructor
 ·conv=>lhs;arg 2;rw[<- h]
  rw[List.take_left']
  rfl
 conv=>lhs;arg 2;rw[<- h]
 rw[List.drop_left']
 rfl
end Go.AX
end
section
namespace Go.AX
def aO (a b:Int):Int:=if a<b then -1 else if b<a then 1 else 0
def orI:List Int->Int
 | []=>0
 | x::t=>if x=0 then orI t else x
def FT:List Int->List Int->Int
 | x::s,y::t=>if x<y then -1 else if y<x then 1 else FT s t
 | _,_=>0
theorem VD (x:Int)(t:List Int):orI (x::t)=if x=0 then orI t else x:=rfl
theorem Md (x y:Int)(t:List Int):orI (aO x y::t)=if x<y then -1 else if y<x then 1 else orI t:=by
 rw[VD]
 unfold aO
 split
 ·rfl
 split<;>simp
theorem SJ (x y:Int)(s t:List Int):FT (x::s) (y::t)=if x<y then -1 else if y<x then 1 else FT s t:=rfl
theorem Z9:FT [] []=0:=rfl
theorem TQ :∀a:List Int,FT a a=0
 | []=>rfl
 | x::t=>by unfold FT;simp[TQ t]
theorem Sj :∀{a b:List Int},a.length=b.length->FT a b=0->a=b
 | [],[],_,_=>rfl
 | [],_::_,h,_=>by simp at h
 | _::_,[],h,_=>by simp at h
 | x::s,y::t,h,e=>by
  unfold FT at e
  split at e
  ·simp at e
  split at e
  ·simp at e
  rw[Sj (by simpa using h) e,show x=y by omega]
theorem WN :∀a b:List Int,FT b a=- FT a b
 | [],[]=>rfl
 | [],_::_=>rfl
 | _::_,[]=>rfl
 | x::s,y::t=>by
  unfold FT
  have:=WN s t
  split<;>split<;>first | omega | (split<;>omega)
theorem Xb :∀{a b c:List Int},a.length=b.length->b.length=c.length->FT a b<0->FT b c<0->FT a c<0
 | [],_,_,_,_,h,_=>by simp[FT] at h
 | _::_,[],_,h,_,_,_=>by simp at h
 | _::_,_::_,[],_,h,_,_=>by simp at h
 | x::s,y::t,z::u,h1,h2,h3,h4=>by
  have ih:=@Xb s t u (by simpa using h1) (by simpa using h2)
  unfold FT at h3 h4 ⊢
  by_cases a1:x<y
  ·by_cases a2:y<z
   ·rw[if_pos (by omega)];omega
   rw[if_neg a2] at h4
   by_cases a3:z<y
   ·rw[if_pos a3] at h4;omega
   rw[if_pos (by omega)];omega
  rw[if_neg a1] at h3
  by_cases a4:y<x
  ·rw[if_pos a4] at h3;omega
  rw[if_neg a4] at h3
  have:x=y:=by omega
  subst this
  by_cases a2:x<z
  ·rw[if_pos a2];omega
  rw[if_neg a2] at h4 ⊢
  by_cases a3:z<x
  ·rw[if_pos a3] at h4;omega
  rw[if_neg a3] at h4 ⊢
  exact ih h3 h4
section
variable {X:Type} {key:X->List Int}
def ltK (key:X->List Int)(a b:X):Bool:=decide (FT (key a) (key b)<0)
theorem NF (a:X):ltK key a a=false:=by unfold ltK;rw[TQ];rfl
theorem N5 (hl :∀a b:X,(key a).length=(key b).length)(a b c:X)(h1:ltK key a b=true)(h2:ltK key b c=true):ltK key a c=true:=by
 unfold ltK at *
 simp only[decide_eq_true_eq] at *
 exact Xb (hl _ _) (hl _ _) h1 h2
theorem ND (hl :∀a b:X,(key a).length=(key b).length)(a b:X)(h:ltK key a b=false):key a=key b\/ltK key b a=true:=by
 unfold ltK at *
 simp only[decide_eq_false_iff_not,decide_eq_true_eq] at *
 have:=WN (key a) (key b)
 by_cases h0:FT (key a) (key b)=0
 ·exact .inl (Sj (hl _ _) h0)
 exact .inr (by omega)
theorem VH (hl :∀a b:X,(key a).length=(key b).length)(a b:X)(h:ltK key a b=true):ltK key b a=false:=by
 cases h1:ltK key b a
 ·rfl
 have:=N5 hl _ _ _ h h1
 rw[NF] at this;simp at this
theorem cB (hl :∀a b:X,(key a).length=(key b).length)(a b c:X)(h1:ltK key a b=false)(h2:ltK key b c=false):ltK key a c=false:=by
 rcases ND hl _ _ h1 with e | h1
 ·unfold ltK at *;rw[e];exact h2
 rcases ND hl _ _ h2 with e | h2
 ·refine VH hl _ _ ?_
  unfold ltK at *;rw[<- e];exact h1
 exact VH hl _ _ (N5 hl _ _ _ h2 h1)
variable {cmp:X->X->Option Int}
theorem Xm (hc :∀a b,cmp a b=some (FT (key a) (key b)))(a b:X):ltC cmp a b=ltK key a b:=by unfold ltC;rw[hc];rfl
theorem NN (hl :∀a b:X,(key a).length=(key b).length)(hc :∀a b,cmp a b=some (FT (key a) (key b))){l:List X}(hn:l.length<=1000000000) :
  Ok (EP cmp l) fun r=>r.Perm l/\r.Pairwise fun a b=>ltK key b a=false:=by
 obtain⟨r,hr⟩:=WU (cmp:=cmp) (l:=l) (bJ (fun a _ b _=>⟨_,hc a b⟩) (fun a _=>by rw[Xm hc,NF])
  (fun a _ b _ c _ h1 h2=>by rw[Xm hc] at *;exact N5 hl _ _ _ h1 h2) (fun a _ b _ c _ h1 h2=>by rw[Xm hc] at *;exact cB hl _ _ _ h1 h2) hn)
 obtain⟨h1,h2⟩:=Lt hr
 exact⟨r,hr,h1,h2.imp fun h=>by rw[Xm hc] at h;exact h⟩
theorem OL {l:List X}(hl :∀a b:X,(key a).length=(key b).length)(h1:l.Pairwise fun a b=>ltK key b a=false)(h2:l.Pairwise fun a b=>key a≠key b):l.Pairwise fun a b=>ltK key a b=true:=
 (h1.and h2).imp fun {a b} h=>(ND hl b a h.1).resolve_left fun e=>h.2 e.symm
theorem Pz (hl :∀a b:X,(key a).length=(key b).length){l m:List X}(h1:l.Pairwise fun a b=>ltK key a b=true)(h2:m.Pairwise fun a b=>ltK key a b=true)(h :∀x,x∈l↔x∈m):l=m:=
 I8 (lt:=fun a b=>ltK key a b=true) (fun a h=>by rw[NF] at h;simp at h) (fun a b c=>N5 hl a b c) h1 h2 h
end
theorem ZR {α:Type}{lt:α->α->Bool}(htr :∀a b c,lt a b=true->lt b c=true->lt a c=true)(hirr :∀a,lt a a=false){l:List α}{x:α}(hs:l.Pairwise fun a b=>lt a b=true) :
  x∈l↔l[(l.takeWhile (lt · x)).length]?=some x:=by
 constructor
 ·intro hx
  rw[<- List.takeWhile_append_dropWhile (p:=(lt · x)) (l:=l),X23] at hx
  rcases hx with hx | hx
  ·have:=Ia (lt · x) hx
   rw[hirr] at this
   simp at this
  have h2:=(takeWhile_take (lt · x) l).2
  cases hd:l.dropWhile (lt · x) with
  | nil=>rw[hd] at hx;simp at hx
  | cons y t=>
   have hy:lt y x=false:=by
    have:=List.head?_dropWhile_not (lt · x) l
    rw[hd] at this
    simpa using this
   have hp:(y::t).Pairwise fun a b=>lt a b=true:=by
    rw[<- hd]
    exact hs.sublist (List.dropWhile_sublist _)
   rw[hd] at hx
   have hxy:x=y:=by
    rcases List.mem_cons.1 hx with e | e
    ·exact e
    have:=(List.pairwise_cons.1 hp).1 x e
    rw[hy] at this;simp at this
   have h3:(l.drop (l.takeWhile (lt · x)).length)[0]?=some x:=by rw[h2,hd,hxy];rfl
   rw[List.getElem?_drop] at h3
   simpa using h3
 intro h
 exact List.mem_of_getElem? h
def Jx {α:Type}(e:α->α->Bool)(z:α)(a0:List α):Option (List α):=
 if (decide ((a0.length:Int)<2)) then
  some a0
 else
  AC (τ:=Unit) (fun k1=>
   A7 (σ:=Int) (fun next2 v3=>
    if (decide (v3<(a0.length:Int))) then
     AC (τ:=Unit) (fun k4=>
      Option.bind (geti a0 v3) fun v5=>
      Option.bind (geti a0 (AI (v3-1))) fun v6=>
      if (e v5 v6) then
       Option.bind (chk (0<=v3/\v3<=(a0.length:Int)/\(a0.length:Int)<=(a0.length:Int))) fun _=>
       AC (τ:=Int×(List α)) (fun k7=>
        A7 (σ:=Int×Int×(List α)) (fun next8 (v9,v10,v11)=>
         if (decide (v10<(((Int.toNat (a0.length:Int)-Int.toNat v3):Nat):Int))) then
          Option.bind (geti (List.take (Int.toNat (a0.length:Int)-Int.toNat v3) (List.drop (Int.toNat v3) v11)) v10) fun v12=>
          Option.bind (geti (List.take (Int.toNat (a0.length:Int)-Int.toNat v3) (List.drop (Int.toNat v3) v11)) (AI (v10-1))) fun v13=>
          AC (τ:=Int×(List α)) (fun k14=>
           if (!(e v12 v13)) then
            Option.bind (geti (List.take (Int.toNat (a0.length:Int)-Int.toNat v3) (List.drop (Int.toNat v3) v11)) v10) fun v15=>
            Option.bind (geti v11 v9) fun v16=>
            Option.bind (seti v11 v9 v15) fun v17=>
            k14 ((AI (v9+1)),v17)
           else
            k14 (v9,v11)
          ) fun (v18,v19)=>
          next8 (v18,(AI (v10+1)),v19)
         else
          k7 (v9,v11)
        ) fuel (v3,1,a0)
       ) fun (v20,v21)=>
       Option.bind (chk (0<=v20/\v20<=(v21.length:Int)/\(v21.length:Int)<=(v21.length:Int))) fun _=>
       Option.bind (part (List.take (Int.toNat v20) v21++List.replicate (Int.toNat (v21.length:Int)-Int.toNat v20) z++List.drop ((Int.toNat v20)+(Int.toNat (v21.length:Int)-Int.toNat v20)) v21) 0 v20) fun v22=>
       some v22
      else
       k4 ()
     ) fun _=>
     next2 (AI (v3+1))
    else
     k1 ()
   ) fuel 1
  ) fun _=>
  some a0
theorem bN {α:Type}{l:List α}{i:Int}{x:α}(h0:0<=i)(h:l[i.toNat]?=some x):geti l i=some x:=by
 have:=(X16.1 h).1
 unfold geti
 rw[if_pos (by omega),h]
theorem Us {α:Type}{l:List α}{i:Nat}{x:α}(h:i<l.length):(l.set i x).take (i+1)=l.take i++[x]:=by
 rw[List.take_add_one,List.take_set_of_le (Nat.le_refl _),List.getElem?_set_self h]
 rfl
section
variable {α:Type} {lt:α->α->Bool} (hirr :∀a,lt a a=false) (htr :∀a b c,lt a b=true->lt b c=true->lt a c=true) (htot :∀a b,lt a b=false->a=b\/lt b a=true)
include htr htot
theorem ae {p q:List α}{y z:α}(hp:p.Pairwise fun a b=>lt a b=true)(hm :∀x,x∈p↔x∈q)(hq :∀x∈q,lt z x=false)(hyz:lt y z=false)(hne:y≠z) :
  (p++[y]).Pairwise (fun a b=>lt a b=true)/\∀x,x∈p++[y]↔x∈q++[y]:=by
 refine⟨List.pairwise_append.2 ⟨hp,by simp,fun x hx w hw=>?_⟩,fun x=>by rw[X23,X23,hm]⟩
 rw[X14] at hw
 subst hw
 have h1:=hq x ((hm x).1 hx)
 have h2:lt z w=true:=(htot _ _ hyz).resolve_left hne
 rcases htot _ _ h1 with e | e
 ·rw[<- e];exact h2
 exact htr _ _ _ e h2
include hirr
theorem Kw {e:α->α->Bool}{zz:α}(he :∀a b,e a b=true↔a=b){l:List α}(hs:l.Pairwise fun a b=>lt b a=false)(hl:l.length<=1000000000) :
  Ok (Jx e zz l) fun c=>c.Pairwise (fun a b=>lt a b=true)/\(∀x,x∈c↔x∈l):=by
 have hprev :∀(k:Nat) (z:α),l[k]?=some z->∀x∈l.take (k+1),lt z x=false:=by
  intro k z hk x hx
  obtain⟨i,hi,rfl⟩:=List.mem_iff_getElem.1 hx
  rw[X18] at hi
  obtain⟨hk1,rfl⟩:=X16.1 hk
  rw[List.getElem_take]
  by_cases e:i=k
  ·subst e;exact hirr _
  exact List.pairwise_iff_getElem.1 hs i k (by omega) hk1 (by omega)
 have hnext :∀(k:Nat) (z y:α),l[k]?=some z->l[k+1]?=some y->lt y z=false:=by
  intro k z y hk hy
  obtain⟨hk1,rfl⟩:=X16.1 hk
  obtain⟨hk2,rfl⟩:=X16.1 hy
  exact List.pairwise_iff_getElem.1 hs k (k+1) hk1 hk2 (by omega)
 have htk :∀(k:Nat) (y:α),l[k]?=some y->l.take (k+1)=l.take k++[y]:=by
  intro k y hk
  rw[List.take_add_one,hk];rfl
 have hmem :∀(k:Nat) (z:α),l[k]?=some z->z∈l.take (k+1):=by
  intro k z hk;rw[htk k z hk];simp
 unfold Jx
 refine .ite (fun h=>?_) fun h=>?_
 ·simp only[decide_eq_true_eq] at h
  refine .ret ⟨?_,fun _=>Iff.rfl⟩
  match l,h with
  | [],_=>exact .nil
  | [x],_=>simp
  | x::y::t,h=>simp at h;omega
 simp only[decide_eq_true_eq] at h
 refine .join (fun _=>l.Pairwise fun a b=>lt a b=true) (fun k1 hk1=>?_) fun _ h=>.ret ⟨h,fun _=>Iff.rfl⟩
 refine .whileI (fun v:Int=>1<=v/\v<=l.length/\(l.take v.toNat).Pairwise fun a b=>lt a b=true) (fun v=>(l.length-v).toNat) ⟨by omega,by omega,?_⟩ (CE (by omega)) fun next v hv hnx=>?_
 ·match l,h with
  | x::t,_=>simp
  | [],h=>simp at h
 obtain⟨v1,v2,v3⟩:=hv
 refine .ite (fun hlt=>?_) fun hge=>?_
 rotate_left
 ·simp only[decide_eq_true_eq] at hge
  refine hk1 () ?_
  have:v.toNat=l.length:=by omega
  rw[this,List.take_length] at v3
  exact v3
 simp only[decide_eq_true_eq] at hlt
 obtain⟨n,rfl⟩ :∃n:Nat,v=((n+1:Nat):Int):=⟨(v-1).toNat,by omega⟩
 have hn:n+1<l.length:=by omega
 have gy:l[n+1]?=some l[n+1]:=X15 hn
 have gz:l[n]?=some l[n]:=X15 (by omega)
 have e1:geti l ((n+1:Nat):Int)=some l[n+1]:=B8 hn
 have e2:geti l (AI (((n+1:Nat):Int)-1))=some l[n]:=by
  rw[AP (by omega),show ((n+1:Nat):Int)-1=(n:Int) by omega]
  exact B8 (by omega)
 refine .join (fun _=>l[n+1]≠l[n]) (fun k4 hk4=>?_) fun _ hne=>?_
 rotate_left
 ·rw[AP (by omega)]
  refine hnx _ ⟨by omega,by omega,?_⟩ (by omega)
  have:=(ae htr htot (p:=l.take (n+1)) (q:=l.take (n+1)) v3 (fun _=>Iff.rfl) (hprev n _ gz) (hnext n _ _ gz gy) hne).1
  rw[<- htk _ _ gy] at this
  have e:(((n+1:Nat):Int)+1).toNat=n+1+1:=by omega
  rw[e];exact this
 rw[e1,AA,e2,AA]
 refine .ite (fun heq=>?_) fun hne=>hk4 _ fun e=>hne ((he _ _).2 e)
 have heq:=(he _ _).1 heq
 refine .bind (Ok.chk (by omega)) fun _ _=>?_
 refine .join (fun p:Int×List α=>0<=p.1/\p.1<=l.length/\p.2.length=l.length/\(p.2.take p.1.toNat).Pairwise (fun a b=>lt a b=true)/\∀x,x∈p.2.take p.1.toNat↔x∈l) (fun k7 hk7=>?_) ?_
 ·refine .whileI (fun p:Int×Int×List α=>0<=p.1/\1<=p.2.1/\p.1<=(n+1:Nat)+p.2.1-1/\(n+1:Nat)+p.2.1<=l.length/\p.2.2.length=l.length/\(∀j:Nat,p.1<=j->p.2.2[j]?=l[j]?)/\
    (p.2.2.take p.1.toNat).Pairwise (fun a b=>lt a b=true)/\∀x,x∈p.2.2.take p.1.toNat↔x∈l.take ((n+1:Nat)+p.2.1).toNat) (fun p=>(l.length-p.2.1).toNat) ⟨by dsimp only;omega,by dsimp only;omega,by dsimp only;omega,by dsimp only;omega,rfl,fun _ _=>rfl,v3,fun x=>?_⟩ (CE (by dsimp only;omega)) ?_
  ·dsimp only
   have e:(((n+1:Nat):Int)+1).toNat=n+1+1:=by omega
   rw[e,htk _ _ gy,Int.toNat_natCast]
   constructor
   ·exact fun h=>List.mem_append_left _ h
   intro h
   rcases X23.1 h with h | h
   ·exact h
   rw[X14] at h
   rw[h,heq];exact hmem n _ gz
  rintro next ⟨i,k,a⟩ ⟨q1,q2,q3,q4,q5,q6,q7,q8⟩ hnx2
  dsimp only at q1 q2 q3 q4 q5 q6 q7 q8 ⊢
  refine .ite (fun hk=>?_) fun hk=>?_
  rotate_left
  ·simp only[decide_eq_true_eq] at hk
   refine hk7 (i,a) ⟨q1,by dsimp only;omega,q5,q7,fun x=>?_⟩
   dsimp only
   rw[q8 x,show ((n+1:Nat)+k).toNat=l.length by omega,List.take_length]
  simp only[decide_eq_true_eq] at hk
  obtain⟨m,rfl⟩ :∃m:Nat,k=((m+1:Nat):Int):=⟨(k-1).toNat,by omega⟩
  have hml:n+1+(m+1)<l.length:=by omega
  have gy2:l[n+1+(m+1)]?=some l[n+1+(m+1)]:=X15 hml
  have gz2:l[n+1+m]?=some l[n+1+m]:=X15 (by omega)
  have ge :∀j:Nat,n+1+j<l.length->i<=((n+1+j:Nat):Int)->∀y,l[n+1+j]?=some y->geti (List.take (Int.toNat (l.length:Int)-Int.toNat ((n+1:Nat):Int)) (List.drop (Int.toNat ((n+1:Nat):Int)) a)) (j:Int)=some y:=by
   intro j hj hij y hy
   refine bN (by omega) ?_
   rw[Int.toNat_natCast,Int.toNat_natCast,Int.toNat_natCast,List.getElem?_take_of_lt (by omega),List.getElem?_drop,q6 _ hij]
   exact hy
  have r1:=ge (m+1) hml (by omega) _ gy2
  have r2:=ge m (by omega) (by omega) _ gz2
  rw[r1,AA,AP (x:=((m+1:Nat):Int)-1) (by omega),show ((m+1:Nat):Int)-1=(m:Int) by omega,r2,AA]
  refine .join (fun p:Int×List α=>0<=p.1/\p.1<=(n+1:Nat)+((m+1:Nat):Int)/\p.2.length=l.length/\(∀j:Nat,p.1<=j->p.2[j]?=l[j]?)/\
    (p.2.take p.1.toNat).Pairwise (fun a b=>lt a b=true)/\∀x,x∈p.2.take p.1.toNat↔x∈l.take (n+1+(m+1)+1)) (fun k14 hk14=>?_) ?_
  ·have et:((n+1:Nat)+((m+1:Nat):Int)).toNat=n+1+(m+1):=by omega
   rw[et] at q8
   refine .ite (fun hne=>?_) fun heq2=>?_
   ·have hne:l[n+1+(m+1)]≠l[n+1+m]:=fun e=>by rw[(he _ _).2 e] at hne;simp at hne
    rw[AA]
    have hia:i.toNat<a.length:=by omega
    refine .bind (Ok.geti (by omega)) fun _ _=>.bind (Ok.seti (by omega)) fun a' ha'=>hk14 _ ?_
    rw[AP (by omega)]
    have ei:(i+1).toNat=i.toNat+1:=by omega
    have hc:=ae htr htot (y:=l[n+1+(m+1)]) (z:=l[n+1+m]) q7 q8 (by rw[show n+1+(m+1)=n+1+m+1 by omega];exact hprev _ _ gz2) (hnext _ _ _ gz2 gy2) hne
    refine⟨by dsimp only;omega,by dsimp only;omega,ha'.2.trans q5,fun j hj=>?_,?_,?_⟩
    ·dsimp only at hj ⊢
     rw[ha'.1,List.getElem?_set_ne (by omega)]
     exact q6 j (by omega)
    ·dsimp only
     rw[ei,ha'.1,Us hia]
     exact hc.1
    dsimp only
    rw[ei,ha'.1,Us hia,htk _ _ gy2]
    exact hc.2
   have heq2:l[n+1+(m+1)]=l[n+1+m]:=by
    refine (he _ _).1 ?_
    cases h:e l[n+1+(m+1)] l[n+1+m]
    ·rw[h] at heq2;simp at heq2
    rfl
   refine hk14 _ ⟨q1,by dsimp only;omega,q5,q6,q7,fun x=>?_⟩
   dsimp only
   rw[q8 x,htk _ _ gy2]
   constructor
   ·exact fun h=>List.mem_append_left _ h
   intro h
   rcases X23.1 h with h | h
   ·exact h
   rw[X14] at h
   rw[h,heq2];exact hmem _ _ gz2
  rintro⟨i',a'⟩ ⟨p1,p2,p3,p4,p5,p6⟩
  dsimp only at p1 p2 p3 p4 p5 p6 ⊢
  rw[AP (by omega)]
  refine hnx2 _ ⟨p1,by dsimp only;omega,by dsimp only;omega,by dsimp only;omega,p3,p4,p5,fun x=>?_⟩ (by dsimp only;omega)
  dsimp only
  rw[p6 x,show ((n+1:Nat)+(((m+1:Nat):Int)+1)).toNat=n+1+(m+1)+1 by omega]
 rintro⟨i,a⟩ ⟨p1,p2,p3,p4,p5⟩
 dsimp only at p1 p2 p3 p4 p5 ⊢
 refine .bind (Ok.chk (by omega)) fun _ _=>.bind (Ok.part ⟨by omega,by omega,by simp;omega⟩) fun c hc=>.ret ?_
 have:c=a.take i.toNat:=by
  rw[hc.1]
  simp only[Int.toNat_zero,List.drop_zero,Nat.sub_zero]
  rw[List.append_assoc,List.take_append_of_le_length (by simp;omega),List.take_take,Nat.min_self]
 rw[this]
 exact⟨p4,p5⟩
end
theorem Yh {l:List Int}(hl:l.length<=1000000000):Ok (Lh l) fun r=>r.Perm l/\r.Pairwise fun a b=>decide (b<a)=false:=by
 unfold Lh
 rw[if_pos (by omega)]
 refine .ret ⟨List.mergeSort_perm _ _,?_⟩
 refine (List.pairwise_mergeSort (le:=fun x y:Int=>decide (x<=y)) (fun a b c h1 h2=>by simp only[decide_eq_true_eq] at *;omega) (fun a b=>by simp only[Bool.or_eq_true,decide_eq_true_eq];omega) l).imp fun {a b} h=>?_
 simp only[decide_eq_true_eq,decide_eq_false_iff_not] at *
 omega
end Go.AX
end
section
namespace Go.AX
def Po {ρ:Type}(m:Option ρ)(Q:ρ->Prop):Prop:=∀r,m=some r->Q r
theorem Po.ret {ρ:Type}{Q:ρ->Prop}{r:ρ}(h:Q r):Po (some r) Q:=fun _ e=>X25 e ▸ h
theorem Po.imp {ρ:Type}{m:Option ρ}{P Q:ρ->Prop}(h:Po m P)(k :∀r,P r->Q r):Po m Q:=fun r e=>k r (h r e)
theorem Po.bind {α ρ:Type}{m:Option α}{f:α->Option ρ}{Q:ρ->Prop}(k :∀a,m=some a->Po (f a) Q):Po (Option.bind m f) Q:=by
 intro r e
 cases hm:m with
 | none=>rw[hm] at e;cases e
 | some a=>rw[hm] at e;exact k a hm r e
theorem Po.join {τ ρ:Type}{m:(τ->Option ρ)->Option ρ}{k:τ->Option ρ}{Q:ρ->Prop}(J:τ->Prop)(h1 :∀k',(∀v,J v->Po (k' v) Q)->Po (m k') Q)(h2 :∀v,J v->Po (k v) Q):Po (AC m k) Q:=h1 k h2
theorem Po.ite {ρ:Type}{p:Prop}[Decidable p]{x y:Option ρ}{Q:ρ->Prop}(h1:p->Po x Q)(h2:¬ p->Po y Q):Po (if p then x else y) Q:=by
 split
 ·exact h1 ‹_›
 exact h2 ‹_›
theorem Po.forX {α σ ρ:Type}{done:σ->Option ρ}{body:(σ->Option ρ)->α->Nat->σ->Option ρ}{Q:ρ->Prop}{l:List α}{s0:σ}(I:Nat->σ->Prop)(h0:I 0 s0)(hd :∀s,I l.length s->Po (done s) Q)
  (hs :∀(next:σ->Option ρ) x i s,l[i]?=some x->I i s->(∀s',I (i+1) s'->Po (next s') Q)->Po (body next x i s) Q):Po (An done body l 0 s0) Q:=by
 have key :∀(t:List α) (i:Nat) (s:σ),(∃p,l=p++t/\p.length=i)->I i s->Po (An done body t i s) Q:=by
  intro t
  induction t with
  | nil=>intro i s ⟨p,hp,hl⟩ hi;exact hd s (by rw[hp];simpa[hl] using hi)
  | cons x t ih=>
   intro i s ⟨p,hp,hl⟩ hi
   exact hs _ x i s (by rw[hp,<- hl];simp) hi fun s' h'=>ih (i+1) s' ⟨p++[x],by simp[hp],by simp[hl]⟩ h'
 exact key l 0 s0 ⟨[],rfl,rfl⟩ h0
theorem Po.for_ {α σ ρ:Type}{done:σ->Option ρ}{body:(σ->Option ρ)->α->Nat->σ->Option ρ}{Q:ρ->Prop}{l:List α}{s0:σ}(I:σ->Prop)(h0:I s0)(hd :∀s,I s->Po (done s) Q)
  (hs :∀(next:σ->Option ρ) x i s,x∈l->I s->(∀s',I s'->Po (next s') Q)->Po (body next x i s) Q):Po (An done body l 0 s0) Q:=
 .forX (fun _=>I) h0 hd fun n x i s hx=>hs n x i s (List.mem_of_getElem? hx)
theorem Po.apnd {α:Type}{b:Nat}{l m:List α}:Po (Go.AX.apnd b l m) fun r=>r=l++m:=by
 intro r e
 unfold Go.AX.apnd at e
 split at e
 ·exact (X25 e).symm
 cases e
theorem Po.geti {α:Type}{l:List α}{i:Int}:Po (Go.AX.geti l i) fun x=>0<=i/\l[i.toNat]?=some x:=by
 intro r e
 unfold Go.AX.geti at e
 split at e
 ·rename_i h
  exact⟨h.1,e⟩
 cases e
theorem Po.seti {α:Type}{l:List α}{i:Int}{x:α}:Po (Go.AX.seti l i x) fun r=>0<=i/\i.toNat<l.length/\r=l.set i.toNat x:=by
 intro r e
 unfold Go.AX.seti at e
 split at e
 ·rename_i h
  exact⟨h.1,by omega,(X25 e).symm⟩
 cases e
theorem Po.part {α:Type}{l:List α}{a b:Int}:Po (Go.AX.part l a b) fun r=>r=(l.drop a.toNat).take (b.toNat-a.toNat):=by
 intro r e
 unfold Go.AX.part at e
 split at e
 ·exact (X25 e).symm
 cases e
theorem Ok.and {ρ:Type}{m:Option ρ}{P Q:ρ->Prop}(h:Ok m P)(k:Po m Q):Ok m fun r=>P r/\Q r:=by
 obtain⟨r,h1,h2⟩:=h
 exact⟨r,h1,h2,k r h1⟩
theorem Po.sel {τ ρ:Type}{m:(τ->Option ρ)->Option ρ}{k:τ->Option ρ}{Q:ρ->Prop}(h1 :∀k',(∀v,Po (k' v) Q)->Po (m k') Q)(h2 :∀v,Po (k v) Q):Po (AC m k) Q:=h1 k h2
end Go.AX
end
