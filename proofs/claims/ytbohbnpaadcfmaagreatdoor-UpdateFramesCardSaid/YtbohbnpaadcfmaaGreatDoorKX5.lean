/-
  Texts of one proof, packed: Q19Sp Q19P0 L19G2 AxT AxV AxW AxU M18A M18B M18C AxX M18D M18E M18F M18G M18H M18I M18J M18K M33O M18V M35M M33S M33T M33U M33V M33W M33X M33Y M33Z.
-/
import Derived.Test.YtbohbnpaadcfmaaGreatDoorKX4
import Derived.KernelRfl
import Derived.LaidSub
import Derived.MapKept
import Derived.Test.YtbohbnpaadcfmaaGreatDoorRows
set_option linter.all false
set_option maxRecDepth 100000
set_option maxHeartbeats 4000000
open List renaming length_map→X10,length_append→X11,length_cons→X12,length_nil→X13,mem_singleton→X14,getElem?_eq_getElem→X15,getElem?_eq_some_iff→X16,length_drop→X17,length_take→X18,mem_cons_of_mem→X19,length_replicate→X20,length_set→X21,length_singleton→X22,mem_append→X23
open Option.some renaming injEq→X24,inj→X25
open Prod.mk renaming injEq→X26
open Bool renaming and_eq_true→X27,eq_iff_iff→X28
open Nat renaming le_of_ble_eq_true→X29,eq_of_beq_eq_true→X30,mul_le_mul_right→X31,add_mul→X32
section
namespace Go.AX.Q19
open Go Go.AX
noncomputable section
def BE:List (Int×Int):=[(1,64),(2,64),(3,64),(4,128),(5,64),(8,192),(32,192),(35,192)]
structure Yg where
  L:List Int
  At:Int
def Yg.toD (x:Yg):D:=.agg [D.l 1 D.i x.L,D.i x.At]
def Yg.av (x:Yg):List AV:=[.d (D.l 1 D.i x.L),.d (D.i x.At)]
def Yg.zv:List AV:=[.d (D.nil 1),.d (D.i 0)]
def Yg.wf (x:Yg):Prop:=(x.L.length<=maxLen/\x.L.length*8<=reachBytes/\∀y0∈x.L,I64 y0)/\I64 x.At/\True
structure Yd where
  Set:Bool
  ASNs:List Int
def Yd.toD (x:Yd):D:=.agg [D.b x.Set,D.l 1 D.i x.ASNs]
def Yd.av (x:Yd):List AV:=[.d (D.b x.Set),.d (D.l 1 D.i x.ASNs)]
def Yd.zv:List AV:=[.d (D.b false),.d (D.nil 1)]
def Yd.wf (x:Yd):Prop:=True/\(x.ASNs.length<=maxLen/\x.ASNs.length*8<=reachBytes/\∀y0∈x.ASNs,I64 y0)/\True
structure Addr where
  V6:Bool
  Hi:UInt64
  Lo:UInt64
def Addr.toD (x:Addr):D:=.agg [D.b x.V6,D.u64 x.Hi,D.u64 x.Lo]
def Addr.av (x:Addr):List AV:=[.d (D.b x.V6),.d (D.u64 x.Hi),.d (D.u64 x.Lo)]
def Addr.zv:List AV:=[.d (D.b false),.d (D.u64 (0:UInt64)),.d (D.u64 (0:UInt64))]
def Addr.wf (x:Addr):Prop:=True/\True/\True/\True
def Addr.eqd (x y:Addr):Bool:=((x.V6==y.V6)&&(((x.Hi.toNat:Int)==(y.Hi.toNat:Int))&&(((x.Lo.toNat:Int)==(y.Lo.toNat:Int))&&true)))
structure YZ where
  A:Int
  B:Int
def YZ.toD (x:YZ):D:=.agg [D.i x.A,D.i x.B]
def YZ.av (x:YZ):List AV:=[.d (D.i x.A),.d (D.i x.B)]
def YZ.zv:List AV:=[.d (D.i 0),.d (D.i 0)]
def YZ.wf (x:YZ):Prop:=I64 x.A/\I64 x.B/\True
def YZ.eqd (x y:YZ):Bool:=((x.A==y.A)&&((x.B==y.B)&&true))
structure Ye where
  A:Int
  B:Int
  C:Int
def Ye.toD (x:Ye):D:=.agg [D.i x.A,D.i x.B,D.i x.C]
def Ye.av (x:Ye):List AV:=[.d (D.i x.A),.d (D.i x.B),.d (D.i x.C)]
def Ye.zv:List AV:=[.d (D.i 0),.d (D.i 0),.d (D.i 0)]
def Ye.wf (x:Ye):Prop:=I64 x.A/\I64 x.B/\I64 x.C/\True
def Ye.eqd (x y:Ye):Bool:=((x.A==y.A)&&((x.B==y.B)&&((x.C==y.C)&&true)))
structure YX where
  Flags:Int
  Type_:Int
  Data:List UInt8
def YX.toD (x:YX):D:=.agg [D.i x.Flags,D.i x.Type_,D.l 1 D.u8 x.Data]
def YX.av (x:YX):List AV:=[.d (D.i x.Flags),.d (D.i x.Type_),.d (D.l 1 D.u8 x.Data)]
def YX.zv:List AV:=[.d (D.i 0),.d (D.i 0),.d (D.nil 1)]
def YX.wf (x:YX):Prop:=I64 x.Flags/\I64 x.Type_/\(x.Data.length<=maxLen/\x.Data.length*1<=reachBytes/\∀y0∈x.Data,True)/\True
structure YY where
  Origin:Int
  Path:List Yd
  Next:Addr
  MED:Int
  Pref:Int
  OTC:Int
  Communities:List YZ
  Ye:List Ye
  Other:List YX
def YY.toD (x:YY):D:=.agg [D.i x.Origin,D.l 2 Yd.toD x.Path,D.b x.Next.V6,D.u64 x.Next.Hi,D.u64 x.Next.Lo,D.i x.MED,D.i x.Pref,D.i x.OTC,D.l 2 YZ.toD x.Communities,D.l 3 Ye.toD x.Ye,D.l 3 YX.toD x.Other]
def YY.av (x:YY):List AV:=[.d (D.i x.Origin),.d (D.l 2 Yd.toD x.Path),.d (D.b x.Next.V6),.d (D.u64 x.Next.Hi),.d (D.u64 x.Next.Lo),.d (D.i x.MED),.d (D.i x.Pref),.d (D.i x.OTC),.d (D.l 2 YZ.toD x.Communities),.d (D.l 3 Ye.toD x.Ye),.d (D.l 3 YX.toD x.Other)]
def YY.zv:List AV:=[.d (D.i 0),.d (D.nil 2),.d (D.b false),.d (D.u64 (0:UInt64)),.d (D.u64 (0:UInt64)),.d (D.i 0),.d (D.i 0),.d (D.i 0),.d (D.nil 2),.d (D.nil 3),.d (D.nil 3)]
def YY.wf (x:YY):Prop:=I64 x.Origin/\(x.Path.length<=maxLen/\x.Path.length*32<=reachBytes/\∀y0∈x.Path,Yd.wf y0)/\Addr.wf x.Next/\I64 x.MED/\I64 x.Pref/\I64 x.OTC/\(x.Communities.length<=maxLen/\x.Communities.length*16<=reachBytes/\∀y0∈x.Communities,YZ.wf y0)/\(x.Ye.length<=maxLen/\x.Ye.length*24<=reachBytes/\∀y0∈x.Ye,Ye.wf y0)/\(x.Other.length<=maxLen/\x.Other.length*40<=reachBytes/\∀y0∈x.Other,YX.wf y0)/\True
structure Yb where
  Addr:Addr
  Len:Int
def Yb.toD (x:Yb):D:=.agg [D.b x.Addr.V6,D.u64 x.Addr.Hi,D.u64 x.Addr.Lo,D.i x.Len]
def Yb.av (x:Yb):List AV:=[.d (D.b x.Addr.V6),.d (D.u64 x.Addr.Hi),.d (D.u64 x.Addr.Lo),.d (D.i x.Len)]
def Yb.zv:List AV:=[.d (D.b false),.d (D.u64 (0:UInt64)),.d (D.u64 (0:UInt64)),.d (D.i 0)]
def Yb.wf (x:Yb):Prop:=Addr.wf x.Addr/\I64 x.Len/\True
def Yb.eqd (x y:Yb):Bool:=(((x.Addr.V6==y.Addr.V6)&&(((x.Addr.Hi.toNat:Int)==(y.Addr.Hi.toNat:Int))&&(((x.Addr.Lo.toNat:Int)==(y.Addr.Lo.toNat:Int))&&true)))&&((x.Len==y.Len)&&true))
structure Yc where
  Withdraw:List Yb
  YY:YY
  Announce:List Yb
def Yc.toD (x:Yc):D:=.agg [D.l 4 Yb.toD x.Withdraw,D.i x.YY.Origin,D.l 2 Yd.toD x.YY.Path,D.b x.YY.Next.V6,D.u64 x.YY.Next.Hi,D.u64 x.YY.Next.Lo,D.i x.YY.MED,D.i x.YY.Pref,D.i x.YY.OTC,D.l 2 YZ.toD x.YY.Communities,D.l 3 Ye.toD x.YY.Ye,D.l 3 YX.toD x.YY.Other,D.l 4 Yb.toD x.Announce]
def Yc.av (x:Yc):List AV:=[.d (D.l 4 Yb.toD x.Withdraw),.d (D.i x.YY.Origin),.d (D.l 2 Yd.toD x.YY.Path),.d (D.b x.YY.Next.V6),.d (D.u64 x.YY.Next.Hi),.d (D.u64 x.YY.Next.Lo),.d (D.i x.YY.MED),.d (D.i x.YY.Pref),.d (D.i x.YY.OTC),.d (D.l 2 YZ.toD x.YY.Communities),.d (D.l 3 Ye.toD x.YY.Ye),.d (D.l 3 YX.toD x.YY.Other),.d (D.l 4 Yb.toD x.Announce)]
def Yc.zv:List AV:=[.d (D.nil 4),.d (D.i 0),.d (D.nil 2),.d (D.b false),.d (D.u64 (0:UInt64)),.d (D.u64 (0:UInt64)),.d (D.i 0),.d (D.i 0),.d (D.i 0),.d (D.nil 2),.d (D.nil 3),.d (D.nil 3),.d (D.nil 4)]
def Yc.wf (x:Yc):Prop:=(x.Withdraw.length<=maxLen/\x.Withdraw.length*32<=reachBytes/\∀y0∈x.Withdraw,Yb.wf y0)/\YY.wf x.YY/\(x.Announce.length<=maxLen/\x.Announce.length*32<=reachBytes/\∀y0∈x.Announce,Yb.wf y0)/\True
structure Yf where
  attrs:List YX
  next:Addr
  gone4:List Yb
  gone6:List Yb
  new4:List Yb
  new6:List Yb
def Yf.toD (x:Yf):D:=.agg [D.l 3 YX.toD x.attrs,D.b x.next.V6,D.u64 x.next.Hi,D.u64 x.next.Lo,D.l 4 Yb.toD x.gone4,D.l 4 Yb.toD x.gone6,D.l 4 Yb.toD x.new4,D.l 4 Yb.toD x.new6]
def Yf.av (x:Yf):List AV:=[.d (D.l 3 YX.toD x.attrs),.d (D.b x.next.V6),.d (D.u64 x.next.Hi),.d (D.u64 x.next.Lo),.d (D.l 4 Yb.toD x.gone4),.d (D.l 4 Yb.toD x.gone6),.d (D.l 4 Yb.toD x.new4),.d (D.l 4 Yb.toD x.new6)]
def Yf.zv:List AV:=[.d (D.nil 3),.d (D.b false),.d (D.u64 (0:UInt64)),.d (D.u64 (0:UInt64)),.d (D.nil 4),.d (D.nil 4),.d (D.nil 4),.d (D.nil 4)]
def Yf.wf (x:Yf):Prop:=(x.attrs.length<=maxLen/\x.attrs.length*40<=reachBytes/\∀y0∈x.attrs,YX.wf y0)/\Addr.wf x.next/\(x.gone4.length<=maxLen/\x.gone4.length*32<=reachBytes/\∀y0∈x.gone4,Yb.wf y0)/\(x.gone6.length<=maxLen/\x.gone6.length*32<=reachBytes/\∀y0∈x.gone6,Yb.wf y0)/\(x.new4.length<=maxLen/\x.new4.length*32<=reachBytes/\∀y0∈x.new4,Yb.wf y0)/\(x.new6.length<=maxLen/\x.new6.length*32<=reachBytes/\∀y0∈x.new6,Yb.wf y0)/\True
structure Ya where
  Type_:Int
  Body:List UInt8
def Ya.toD (x:Ya):D:=.agg [D.i x.Type_,D.l 1 D.u8 x.Body]
def Ya.av (x:Ya):List AV:=[.d (D.i x.Type_),.d (D.l 1 D.u8 x.Body)]
def Ya.zv:List AV:=[.d (D.i 0),.d (D.nil 1)]
def Ya.wf (x:Ya):Prop:=I64 x.Type_/\(x.Body.length<=maxLen/\x.Body.length*1<=reachBytes/\∀y0∈x.Body,True)/\True
def Ds:Option YY:=
some (⟨(-1),[],(⟨false,(0:UInt64),(0:UInt64)⟩:Addr),(-1),(-1),(-1),[],[],[]⟩:YY)
def BF (a0:Int)(a1:Int):Option Int:=
(chk (a1≠0)).bind fun _=>
AH (τ:=Int) (fun k1=>
if (decide ((Int.tmod a0 a1)<0)) then
k1 (AT ((Int.tmod a0 a1)+a1))
else
k1 (Int.tmod a0 a1)
) fun v2=>
some v2
def HM (a0:List Yd):Option Bool:=
AH (τ:=Int) (fun k1=>
Ah (σ:=Int) (fun v2=>
k1 v2
) (fun next3 (x4:Yd) i5 v2=>
AH (τ:=Unit) (fun k6=>
AH (τ:=Bool) (fun k7=>
if ((x4.ASNs.length:Int)==0) then
k7 true
else
if (decide ((i5:Int) > 0)) then
if (cond true (!x4.Set) false) then
(geti a0 (AT ((i5:Int)-1))).bind fun v8=>
k7 (cond false true (cond true (!v8.Set) false))
else
k7 false
else
k7 false
) fun v9=>
if v9 then
some false
else
AH (τ:=Unit) (fun k10=>
Ah (σ:=Unit) (fun _=>
k10 ()
) (fun next11 (x12:Int) i13 _=>
AH (τ:=Bool) (fun k14=>
if (decide (x12<1)) then
k14 true
else
if (cond false true (decide (x12 > 4294967295))) then
k14 true
else
if x4.Set then
if (cond true (decide ((i13:Int) > 0)) false) then
(geti x4.ASNs (AT ((i13:Int)-1))).bind fun v15=>
k14 (cond false true (cond true (decide (v15 ≥ x12)) false))
else
k14 false
else
k14 false
) fun v16=>
if v16 then
some false
else
next11 ()
) x4.ASNs 0 ()
) fun _=>
k6 ()
) fun _=>
next3 (AT (v2+(x4.ASNs.length:Int)))
) a0 0 0
) fun v17=>
some (decide (v17<=64))
def J3 (a0:YZ):Option Bool:=
AH (τ:=Bool) (fun k1=>
if (decide (a0.A ≥ 0)) then
if (cond true (decide (a0.A<=65535)) false) then
if (cond true (decide (a0.B ≥ 0)) false) then
k1 (cond true (decide (a0.B<=65535)) false)
else
k1 false
else
k1 false
else
k1 false
) fun v2=>
some v2
def MM (a0:YZ)(a1:YZ):Option Bool:=
AH (τ:=Bool) (fun k1=>
if (decide (a0.A<a1.A)) then
k1 true
else
if (a0.A==a1.A) then
k1 (cond false true (cond true (decide (a0.B<a1.B)) false))
else
k1 false
) fun v2=>
some v2
def N3 (a0:List YZ)(a1:YZ):Option Bool:=
AH (τ:=Unit) (fun k1=>
Ah (σ:=Unit) (fun _=>
k1 ()
) (fun next2 (x3:YZ) i4 _=>
if (YZ.eqd x3 a1) then
some true
else
next2 ()
) a0 0 ()
) fun _=>
some false
def GE (a0:Ye):Option Bool:=
AH (τ:=Bool) (fun k1=>
if (decide (a0.A ≥ 0)) then
if (cond true (decide (a0.A<=4294967295)) false) then
if (cond true (decide (a0.B ≥ 0)) false) then
if (cond true (decide (a0.B<=4294967295)) false) then
if (cond true (decide (a0.C ≥ 0)) false) then
k1 (cond true (decide (a0.C<=4294967295)) false)
else
k1 false
else
k1 false
else
k1 false
else
k1 false
else
k1 false
) fun v2=>
some v2
def Gv (a0:Ye)(a1:Ye):Option Bool:=
AH (τ:=Bool) (fun k1=>
if (decide (a0.A<a1.A)) then
k1 true
else
if (a0.A==a1.A) then
if (decide (a0.B<a1.B)) then
k1 true
else
if (a0.B==a1.B) then
k1 (cond false true (cond true (cond false true (cond true (decide (a0.C<a1.C)) false)) false))
else
k1 false
else
k1 false
) fun v2=>
some v2
def HK (a0:List Ye)(a1:Ye):Option Bool:=
AH (τ:=Unit) (fun k1=>
Ah (σ:=Unit) (fun _=>
k1 ()
) (fun next2 (x3:Ye) i4 _=>
if (Ye.eqd x3 a1) then
some true
else
next2 ()
) a0 0 ()
) fun _=>
some false
def Dp (a0:Addr):Option Bool:=
AH (τ:=Bool) (fun k1=>
if a0.V6 then
k1 true
else
if ((a0.Hi.toNat:Int)==0) then
k1 (cond false true (cond true (decide ((a0.Lo.toNat:Int)<4294967296)) false))
else
k1 false
) fun v2=>
some v2
def C7 (a0:Addr):Option Int:=
if a0.V6 then
some 128
else
some 32
def EZ (a0:Addr):Option (List UInt8):=
(Dp a0).bind fun v1=>
if (!v1) then
some []
else
AH (τ:=Int) (fun k2=>
if a0.V6 then
k2 16
else
k2 4
) fun v3=>
AH (τ:=(List UInt8)) (fun k4=>
Cc (σ:=Int×(List UInt8)) (fun next5 (v6,v7)=>
if (decide (v6 ≥ 0)) then
AH (τ:=UInt64) (fun k8=>
if (decide (v6 ≥ 8)) then
k8 a0.Hi
else
k8 a0.Lo
) fun v9=>
(apnd (α:=UInt8) 1 v7 ([(Ab ((AL (Int.fdiv (v9.toNat:Int) (2^(min (Int.toNat ((AL (8*((AL (Int.tmod v6 8)).toNat:Int))).toNat:Int)) 64)))).toNat:Int))]:List UInt8)).bind fun v10=>
next5 ((AT (v6-1)),v10)
else
k4 v7
) fuel ((AT (v3-1)),[])
) fun v11=>
some v11
def CU (a0:List UInt8):Option (Addr×Int):=
AH (τ:=Bool) (fun k1=>
if ((a0.length:Int) != 4) then
k1 (cond true ((a0.length:Int) != 16) false)
else
k1 false
) fun v2=>
if v2 then
some ((⟨false,(0:UInt64),(0:UInt64)⟩:Addr),1)
else
AH (τ:=Addr) (fun k3=>
Ah (σ:=Addr) (fun v4=>
k3 v4
) (fun next5 (x6:UInt8) i7 v4=>
next5 (⟨v4.V6,(AL ((BitVec.ofInt 64 ((AL ((v4.Hi.toNat:Int)*(2^(min (Int.toNat 8) 64)))).toNat:Int) ||| BitVec.ofInt 64 ((AL (Int.fdiv (v4.Lo.toNat:Int) (2^(min (Int.toNat 56) 64)))).toNat:Int)).toNat:Int)),(AL ((BitVec.ofInt 64 ((AL ((v4.Lo.toNat:Int)*(2^(min (Int.toNat 8) 64)))).toNat:Int) ||| BitVec.ofInt 64 ((AL (x6.toNat:Int)).toNat:Int)).toNat:Int))⟩:Addr)
) a0 0 (⟨((a0.length:Int)==16),(0:UInt64),(0:UInt64)⟩:Addr)
) fun v8=>
some (v8,0)
def DW (a0:Addr)(a1:Int):Option (Yb×Int):=
(Dp a0).bind fun v1=>
if (!v1) then
some ((⟨(⟨false,(0:UInt64),(0:UInt64)⟩:Addr),0⟩:Yb),1)
else
AH (τ:=Bool) (fun k2=>
if (decide (a1<0)) then
k2 true
else
(C7 a0).bind fun v3=>
k2 (cond false true (decide (a1 > v3)))
) fun v4=>
if v4 then
some ((⟨(⟨false,(0:UInt64),(0:UInt64)⟩:Addr),0⟩:Yb),9)
else
(EZ a0).bind fun v5=>
AH (τ:=(List UInt8)) (fun k6=>
Cc (σ:=Int×(List UInt8)) (fun next7 (v8,v9)=>
if (decide (v8<(AT (8*(v9.length:Int))))) then
(geti v9 (AT (Int.tdiv v8 8))).bind fun v10=>
(geti v9 (AT (Int.tdiv v8 8))).bind fun v11=>
(seti v9 (AT (Int.tdiv v8 8)) (Ab ((BitVec.ofInt 8 (v10.toNat:Int) &&& ~~~BitVec.ofInt 8 ((Ab (Int.fdiv 128 (2^(min (Int.toNat ((AL (Int.tmod v8 8)).toNat:Int)) 8)))).toNat:Int)).toNat:Int))).bind fun v12=>
next7 ((AT (v8+1)),v12)
else
k6 v9
) fuel (a1,v5)
) fun v13=>
(CU v13).bind fun (v14,v15)=>
some ((⟨v14,a1⟩:Yb),0)
def Dk (a0:Yb):Option Bool:=
(DW a0.Addr a0.Len).bind fun (v1,v2)=>
AH (τ:=Bool) (fun k3=>
if (v2==0) then
k3 (cond true (Yb.eqd a0 v1) false)
else
k3 false
) fun v4=>
some v4
def HI (a0:Int):Option Int:=
AH (τ:=Bool) (fun k1=>
if (a0==1) then
k1 (a0==1)
else
AH (τ:=Bool) (fun k2=>
if (a0==2) then
k2 (a0==2)
else
AH (τ:=Bool) (fun k3=>
if (a0==3) then
k3 (a0==3)
else
k3 (a0==5)
) fun v4=>
k2 v4
) fun v5=>
k1 v5
) fun v6=>
if v6 then
some 64
else
if (a0==4) then
some 128
else
AH (τ:=Bool) (fun k7=>
if (a0==8) then
k7 (a0==8)
else
AH (τ:=Bool) (fun k8=>
if (a0==32) then
k8 (a0==32)
else
k8 (a0==35)
) fun v9=>
k7 v9
) fun v10=>
if v10 then
some 192
else
some 0
def IG (a0:Int):Option Bool:=
AH (τ:=Bool) (fun k1=>
(HI a0).bind fun v2=>
if (v2==0) then
if (cond true (a0 != 14) false) then
k1 (cond true (a0 != 15) false)
else
k1 false
else
k1 false
) fun v3=>
some v3
def DY (a0:List Yd)(a1:List Yd):Option Bool:=
if ((a0.length:Int) != (a1.length:Int)) then
some false
else
AH (τ:=Unit) (fun k1=>
Ah (σ:=Unit) (fun _=>
k1 ()
) (fun next2 (x3:Yd) i4 _=>
AH (τ:=Unit) (fun k5=>
AH (τ:=Bool) (fun k6=>
(geti a1 (i4:Int)).bind fun v7=>
if (!(x3.Set==v7.Set)) then
k6 true
else
(geti a1 (i4:Int)).bind fun v8=>
k6 (cond false true ((x3.ASNs.length:Int) != (v8.ASNs.length:Int)))
) fun v9=>
if v9 then
some false
else
AH (τ:=Unit) (fun k10=>
Ah (σ:=Unit) (fun _=>
k10 ()
) (fun next11 (x12:Int) i13 _=>
(geti a1 (i4:Int)).bind fun v14=>
(geti v14.ASNs (i13:Int)).bind fun v15=>
if (v15 != x12) then
some false
else
next11 ()
) x3.ASNs 0 ()
) fun _=>
k5 ()
) fun _=>
next2 ()
) a0 0 ()
) fun _=>
some true
def Da (a0:List YZ)(a1:List YZ):Option Bool:=
if ((a0.length:Int) != (a1.length:Int)) then
some false
else
AH (τ:=Unit) (fun k1=>
Ah (σ:=Unit) (fun _=>
k1 ()
) (fun next2 (x3:YZ) i4 _=>
(geti a1 (i4:Int)).bind fun v5=>
if (!(YZ.eqd v5 x3)) then
some false
else
next2 ()
) a0 0 ()
) fun _=>
some true
def Ba (a0:List Ye)(a1:List Ye):Option Bool:=
if ((a0.length:Int) != (a1.length:Int)) then
some false
else
AH (τ:=Unit) (fun k1=>
Ah (σ:=Unit) (fun _=>
k1 ()
) (fun next2 (x3:Ye) i4 _=>
(geti a1 (i4:Int)).bind fun v5=>
if (!(Ye.eqd v5 x3)) then
some false
else
next2 ()
) a0 0 ()
) fun _=>
some true
def Bm (a0:List YX)(a1:List YX):Option Bool:=
if ((a0.length:Int) != (a1.length:Int)) then
some false
else
AH (τ:=Unit) (fun k1=>
Ah (σ:=Unit) (fun _=>
k1 ()
) (fun next2 (x3:YX) i4 _=>
AH (τ:=Bool) (fun k5=>
(geti a1 (i4:Int)).bind fun v6=>
if (x3.Flags != v6.Flags) then
k5 true
else
(geti a1 (i4:Int)).bind fun v7=>
if (cond false true (x3.Type_ != v7.Type_)) then
k5 true
else
(geti a1 (i4:Int)).bind fun v8=>
k5 (cond false true (!((bs x3.Data).toList==(bs v8.Data).toList)))
) fun v9=>
if v9 then
some false
else
next2 ()
) a0 0 ()
) fun _=>
some true
def C9 (a0:YY)(a1:YY):Option Bool:=
AH (τ:=Bool) (fun k1=>
if (a0.Origin==a1.Origin) then
(DY a0.Path a1.Path).bind fun v2=>
if (cond true v2 false) then
if (cond true (Addr.eqd a0.Next a1.Next) false) then
if (cond true (a0.MED==a1.MED) false) then
if (cond true (a0.Pref==a1.Pref) false) then
if (cond true (a0.OTC==a1.OTC) false) then
(Da a0.Communities a1.Communities).bind fun v3=>
if (cond true v3 false) then
(Ba a0.Ye a1.Ye).bind fun v4=>
if (cond true v4 false) then
(Bm a0.Other a1.Other).bind fun v5=>
k1 (cond true v5 false)
else
k1 false
else
k1 false
else
k1 false
else
k1 false
else
k1 false
else
k1 false
else
k1 false
else
k1 false
) fun v6=>
some v6
def EC (a0:List UInt8)(a1:Int):Option (List UInt8):=
(apnd (α:=UInt8) 1 a0 ([(Ab (Int.fdiv a1 (2^(min (Int.toNat 8) 64)))),(Ab a1)]:List UInt8)).bind fun v1=>
some v1
def Au (a0:Int)(a1:Int)(a2:Int):Option Bool:=
AH (τ:=Bool) (fun k1=>
if (decide (a0 ≥ a1)) then
k1 (cond true (decide (a0<=a2)) false)
else
k1 false
) fun v2=>
some v2
def Cm (a0:List YX):Option ((List UInt8)×Int):=
AH (τ:=Unit) (fun k1=>
Ah (σ:=Unit) (fun _=>
k1 ()
) (fun next2 (x3:YX) i4 _=>
AH (τ:=Bool) (fun k5=>
(Au x3.Flags 0 255).bind fun v6=>
if (!v6) then
k5 true
else
(Au x3.Type_ 0 255).bind fun v7=>
if (cond false true (!v7)) then
k5 true
else
k5 (cond false true (decide ((x3.Data.length:Int) > 65535)))
) fun v8=>
if v8 then
some ([],1)
else
next2 ()
) a0 0 ()
) fun _=>
AH (τ:=(List UInt8)) (fun k9=>
Ah (σ:=(List UInt8)) (fun v10=>
k9 v10
) (fun next11 (x12:YX) i13 v10=>
AH (τ:=(List UInt8)) (fun k14=>
if (decide ((x12.Data.length:Int) > 255)) then
(apnd (α:=UInt8) 1 v10 ([(Ab ((BitVec.ofInt 8 ((Ab ((BitVec.ofInt 8 ((Ab x12.Flags).toNat:Int) &&& BitVec.ofInt 8 224).toNat:Int)).toNat:Int) ||| BitVec.ofInt 8 16).toNat:Int)),(Ab x12.Type_),(Ab (Int.fdiv (x12.Data.length:Int) (2^(min (Int.toNat 8) 64)))),(Ab (x12.Data.length:Int))]:List UInt8)).bind fun v15=>
k14 v15
else
(apnd (α:=UInt8) 1 v10 ([(Ab ((BitVec.ofInt 8 ((Ab x12.Flags).toNat:Int) &&& BitVec.ofInt 8 224).toNat:Int)),(Ab x12.Type_),(Ab (x12.Data.length:Int))]:List UInt8)).bind fun v16=>
k14 v16
) fun v17=>
(apnd (α:=UInt8) 1 v17 x12.Data).bind fun v18=>
if (decide ((v18.length:Int) > 2048)) then
some ([],3)
else
next11 v18
) a0 0 []
) fun v19=>
some (v19,0)
def Db (a0:Addr):Option Bool:=
AH (τ:=Bool) (fun k1=>
if a0.V6 then
k1 true
else
if ((a0.Hi.toNat:Int)==0) then
k1 (cond false true (cond true (decide ((a0.Lo.toNat:Int)<4294967296)) false))
else
k1 false
) fun v2=>
some v2
def Ar (a0:Addr):Option (List UInt8):=
(Db a0).bind fun v1=>
if (!v1) then
some []
else
AH (τ:=Int) (fun k2=>
if a0.V6 then
k2 16
else
k2 4
) fun v3=>
(chk (0<=v3/\v3<=v3/\v3<=1048576)).bind fun _=>
AH (τ:=(List UInt8)) (fun k4=>
Cc (σ:=Int×Addr×(List UInt8)) (fun next5 (v6,v7,v8)=>
if (decide (v6 ≥ 0)) then
(geti v8 v6).bind fun v9=>
(seti v8 v6 (Ab (v7.Lo.toNat:Int))).bind fun v10=>
next5 ((AT (v6-1)),(⟨v7.V6,(AL (Int.fdiv (v7.Hi.toNat:Int) (2^(min (Int.toNat 8) 64)))),(AL ((BitVec.ofInt 64 ((AL (Int.fdiv (v7.Lo.toNat:Int) (2^(min (Int.toNat 8) 64)))).toNat:Int) ||| BitVec.ofInt 64 ((AL ((v7.Hi.toNat:Int)*(2^(min (Int.toNat 56) 64)))).toNat:Int)).toNat:Int))⟩:Addr),v10)
else
k4 v8
) fuel ((AT (v3-1)),a0,(List.replicate (Int.toNat v3) (0:UInt8)))
) fun v11=>
some v11
def CQ (a0:List UInt8)(a1:List Yb)(a2:Bool):Option (List UInt8):=
AH (τ:=(List UInt8)) (fun k1=>
Ah (σ:=(List UInt8)) (fun v2=>
k1 v2
) (fun next3 (x4:Yb) i5 v2=>
AH (τ:=(List UInt8)) (fun k6=>
if (x4.Addr.V6==a2) then
(apnd (α:=UInt8) 1 v2 ([(Ab x4.Len)]:List UInt8)).bind fun v7=>
(Ar x4.Addr).bind fun v8=>
(part v8 0 (AT (Int.tdiv (AT (x4.Len+7)) 8))).bind fun v9=>
(apnd (α:=UInt8) 1 v7 v9).bind fun v10=>
k6 v10
else
k6 v2
) fun v11=>
next3 v11
) a1 0 a0
) fun v12=>
some v12
def CX (a0:Int):Option Bool:=
AH (τ:=Bool) (fun k1=>
if (decide (a0 ≥ 1)) then
k1 (cond true (decide (a0<=4294967295)) false)
else
k1 false
) fun v2=>
some v2
def D1 (a0:List Yd):Option Bool:=
AH (τ:=Int) (fun k1=>
Ah (σ:=Int) (fun v2=>
k1 v2
) (fun next3 (x4:Yd) i5 v2=>
AH (τ:=Unit) (fun k6=>
AH (τ:=Bool) (fun k7=>
if ((x4.ASNs.length:Int)==0) then
k7 true
else
if (decide ((i5:Int) > 0)) then
if (cond true (!x4.Set) false) then
(geti a0 (AT ((i5:Int)-1))).bind fun v8=>
k7 (cond false true (cond true (!v8.Set) false))
else
k7 false
else
k7 false
) fun v9=>
if v9 then
some false
else
AH (τ:=Unit) (fun k10=>
Ah (σ:=Unit) (fun _=>
k10 ()
) (fun next11 (x12:Int) i13 _=>
AH (τ:=Bool) (fun k14=>
(CX x12).bind fun v15=>
if (!v15) then
k14 true
else
if x4.Set then
if (cond true (decide ((i13:Int) > 0)) false) then
(geti x4.ASNs (AT ((i13:Int)-1))).bind fun v16=>
k14 (cond false true (cond true (decide (v16 ≥ x12)) false))
else
k14 false
else
k14 false
) fun v17=>
if v17 then
some false
else
next11 ()
) x4.ASNs 0 ()
) fun _=>
k6 ()
) fun _=>
next3 (AT (v2+(x4.ASNs.length:Int)))
) a0 0 0
) fun v18=>
some (decide (v18<=64))
def Bo (a0:List Int):Option Int:=
if (decide ((a0.length:Int)<1)) then
none
else
(geti a0 0).bind fun v1=>
AH (τ:=Int) (fun k2=>
Cc (σ:=Int×Int) (fun next3 (v4,v5)=>
if (decide (v5<(a0.length:Int))) then
(geti a0 v5).bind fun v6=>
next3 ((if v6<v4 then v6 else v4),(AT (v5+1)))
else
k2 v4
) fuel (v1,1)
) fun v7=>
some v7
def Bq (a0:List Int):Option Int:=
if (decide ((a0.length:Int)<1)) then
none
else
(geti a0 0).bind fun v1=>
AH (τ:=Int) (fun k2=>
Cc (σ:=Int×Int) (fun next3 (v4,v5)=>
if (decide (v5<(a0.length:Int))) then
(geti a0 v5).bind fun v6=>
next3 ((if v6 > v4 then v6 else v4),(AT (v5+1)))
else
k2 v4
) fuel (v1,1)
) fun v7=>
some v7
def Bh (a0:Int)(a1:List Int):Option Bool:=
AH (τ:=Bool) (fun k1=>
(Bo a1).bind fun v2=>
if (decide (v2 ≥ 0)) then
(Bq a1).bind fun v3=>
k1 (cond true (decide (v3<=a0)) false)
else
k1 false
) fun v4=>
some v4
def Cj (a0:YZ):Option Bool:=
(Bh 65535 ([a0.A,a0.B]:List Int)).bind fun v1=>
some v1
def cmp_isNaN_int (a0:Int):Option Bool:=
some (a0 != a0)
def cmp_Compare_int (a0:Int)(a1:Int):Option Int:=
(cmp_isNaN_int a0).bind fun v1=>
(cmp_isNaN_int a1).bind fun v2=>
if v1 then
if v2 then
some 0
else
some (-1)
else
if v2 then
some 1
else
if (decide (a0<a1)) then
some (-1)
else
if (decide (a0 > a1)) then
some 1
else
some 0
def EE (a0:List Int):Option Int:=
AH (τ:=Unit) (fun k1=>
Ah (σ:=Unit) (fun _=>
k1 ()
) (fun next2 (x3:Int) i4 _=>
if (x3 != 0) then
some x3
else
next2 ()
) a0 0 ()
) fun _=>
some 0
def B9 (a0:YZ)(a1:YZ):Option Int:=
(cmp_Compare_int a0.A a1.A).bind fun v1=>
(cmp_Compare_int a0.B a1.B).bind fun v2=>
(EE ([v1,v2]:List Int)).bind fun v3=>
some v3
def AS (a0:List YZ):Option Bool:=
AH (τ:=Unit) (fun k1=>
Ah (σ:=Unit) (fun _=>
k1 ()
) (fun next2 (x3:YZ) i4 _=>
AH (τ:=Bool) (fun k5=>
(Cj x3).bind fun v6=>
if (!v6) then
k5 true
else
if (decide ((i4:Int) > 0)) then
(geti a0 (AT ((i4:Int)-1))).bind fun v7=>
(B9 v7 x3).bind fun v8=>
k5 (cond false true (cond true (decide (v8 ≥ 0)) false))
else
k5 false
) fun v9=>
if v9 then
some false
else
next2 ()
) a0 0 ()
) fun _=>
some (decide ((a0.length:Int)<=64))
def B1 (a0:List YZ):Option Bool:=
(AS a0).bind fun v1=>
some v1
def Bc (a0:Ye):Option Bool:=
(Bh 4294967295 ([a0.A,a0.B,a0.C]:List Int)).bind fun v1=>
some v1
def BG (a0:Ye)(a1:Ye):Option Int:=
(cmp_Compare_int a0.A a1.A).bind fun v1=>
(cmp_Compare_int a0.B a1.B).bind fun v2=>
(cmp_Compare_int a0.C a1.C).bind fun v3=>
(EE ([v1,v2,v3]:List Int)).bind fun v4=>
some v4
def AN (a0:List Ye):Option Bool:=
AH (τ:=Unit) (fun k1=>
Ah (σ:=Unit) (fun _=>
k1 ()
) (fun next2 (x3:Ye) i4 _=>
AH (τ:=Bool) (fun k5=>
(Bc x3).bind fun v6=>
if (!v6) then
k5 true
else
if (decide ((i4:Int) > 0)) then
(geti a0 (AT ((i4:Int)-1))).bind fun v7=>
(BG v7 x3).bind fun v8=>
k5 (cond false true (cond true (decide (v8 ≥ 0)) false))
else
k5 false
) fun v9=>
if v9 then
some false
else
next2 ()
) a0 0 ()
) fun _=>
some (decide ((a0.length:Int)<=64))
def BB (a0:List Ye):Option Bool:=
(AN a0).bind fun v1=>
some v1
def B7 (a0:Int):Option Bool:=
AH (τ:=Bool) (fun k1=>
(some (Option.getD (B8 BE a0) 0)).bind fun v2=>
if (v2==0) then
if (cond true (a0 != 14) false) then
k1 (cond true (a0 != 15) false)
else
k1 false
else
k1 false
) fun v3=>
some v3
def Bi (a0:List YX):Option Bool:=
AH (τ:=Unit) (fun k1=>
Ah (σ:=Unit) (fun _=>
k1 ()
) (fun next2 (x3:YX) i4 _=>
AH (τ:=Bool) (fun k5=>
(B7 x3.Type_).bind fun v6=>
if (!v6) then
k5 true
else
(Au x3.Type_ 1 255).bind fun v7=>
if (cond false true (!v7)) then
k5 true
else
if (cond false true (x3.Flags != 224)) then
k5 true
else
if (cond false true (decide ((x3.Data.length:Int) > 255))) then
k5 true
else
if (decide ((i4:Int) > 0)) then
(geti a0 (AT ((i4:Int)-1))).bind fun v8=>
k5 (cond false true (cond true (decide (v8.Type_ ≥ x3.Type_)) false))
else
k5 false
) fun v9=>
if v9 then
some false
else
next2 ()
) a0 0 ()
) fun _=>
some (decide ((a0.length:Int)<=8))
def BZ (a0:YY):Option Bool:=
AH (τ:=Bool) (fun k1=>
(Au a0.Origin (-1) 2).bind fun v2=>
if v2 then
(D1 a0.Path).bind fun v3=>
if (cond true v3 false) then
(Db a0.Next).bind fun v4=>
if (cond true v4 false) then
(Au a0.MED (-1) 4294967295).bind fun v5=>
if (cond true v5 false) then
(Au a0.Pref (-1) 4294967295).bind fun v6=>
if (cond true v6 false) then
if (a0.OTC==(-1)) then
(B1 a0.Communities).bind fun v7=>
if (cond true v7 false) then
(BB a0.Ye).bind fun v8=>
if (cond true v8 false) then
(Bi a0.Other).bind fun v9=>
k1 (cond true v9 false)
else
k1 false
else
k1 false
else
(CX a0.OTC).bind fun v10=>
if (cond true (cond false true v10) false) then
(B1 a0.Communities).bind fun v11=>
if (cond true v11 false) then
(BB a0.Ye).bind fun v12=>
if (cond true v12 false) then
(Bi a0.Other).bind fun v13=>
k1 (cond true v13 false)
else
k1 false
else
k1 false
else
k1 false
else
k1 false
else
k1 false
else
k1 false
else
k1 false
else
k1 false
) fun v14=>
some v14
def A1 (a0:List UInt8):Option (List UInt8):=
(apnd (α:=UInt8) 1 ([]:List UInt8) a0).bind fun v1=>
some v1
def Bg (a0:List UInt8)(a1:List Int):Option (List UInt8):=
AH (τ:=(List UInt8)) (fun k1=>
Ah (σ:=(List UInt8)) (fun v2=>
k1 v2
) (fun next3 (x4:Int) i5 v2=>
(apnd (α:=UInt8) 1 v2 ([(Ab (Int.fdiv x4 (2^(min (Int.toNat 24) 64)))),(Ab (Int.fdiv x4 (2^(min (Int.toNat 16) 64)))),(Ab (Int.fdiv x4 (2^(min (Int.toNat 8) 64)))),(Ab x4)]:List UInt8)).bind fun v6=>
next3 v6
) a1 0 a0
) fun v7=>
some v7
def A0 (a0:List Yd):Option (List UInt8):=
AH (τ:=(List UInt8)) (fun k1=>
Ah (σ:=(List UInt8)) (fun v2=>
k1 v2
) (fun next3 (x4:Yd) i5 v2=>
AH (τ:=UInt8) (fun k6=>
if x4.Set then
k6 (1:UInt8)
else
k6 (2:UInt8)
) fun v7=>
(apnd (α:=UInt8) 1 v2 ([v7,(Ab (x4.ASNs.length:Int))]:List UInt8)).bind fun v8=>
(Bg v8 x4.ASNs).bind fun v9=>
next3 v9
) a0 0 []
) fun v10=>
some v10
def A7 (a0:List YZ):Option (List UInt8):=
AH (τ:=(List UInt8)) (fun k1=>
Ah (σ:=(List UInt8)) (fun v2=>
k1 v2
) (fun next3 (x4:YZ) i5 v2=>
(Bg v2 ([(AT ((BitVec.ofInt 64 (AT (x4.A*(2^(min (Int.toNat 16) 64)))) ||| BitVec.ofInt 64 x4.B).toNat:Int))]:List Int)).bind fun v6=>
next3 v6
) a0 0 []
) fun v7=>
some v7
def By (a0:List Ye):Option (List UInt8):=
AH (τ:=(List UInt8)) (fun k1=>
Ah (σ:=(List UInt8)) (fun v2=>
k1 v2
) (fun next3 (x4:Ye) i5 v2=>
(Bg v2 ([x4.A,x4.B,x4.C]:List Int)).bind fun v6=>
next3 v6
) a0 0 []
) fun v7=>
some v7
def BW (a0:YX)(a1:YX):Option Int:=
(cmp_Compare_int a0.Type_ a1.Type_).bind fun v1=>
some v1
def Ao (a1:List Int):Option (List UInt8):=
AH (τ:=(List UInt8)) (fun k1=>
Ah (σ:=(List UInt8)) (fun v2=>
k1 v2
) (fun next3 (x4:Int) i5 v2=>
(apnd (α:=UInt8) 1 v2 ([(Ab (Int.fdiv x4 (2^(min (Int.toNat 24) 64)))),(Ab (Int.fdiv x4 (2^(min (Int.toNat 16) 64)))),(Ab (Int.fdiv x4 (2^(min (Int.toNat 8) 64)))),(Ab x4)]:List UInt8)).bind fun v6=>
next3 v6
) a1 0 []
) fun v7=>
some v7
def DR (a0:YX)(a1:YX):Option Int:=
(cmp_Compare_int a0.Type_ a1.Type_).bind fun v1=>
some v1
def CH (a1:List Yb)(a2:Bool):Option (List UInt8):=
AH (τ:=(List UInt8)) (fun k1=>
Ah (σ:=(List UInt8)) (fun v2=>
k1 v2
) (fun next3 (x4:Yb) i5 v2=>
AH (τ:=(List UInt8)) (fun k6=>
if (x4.Addr.V6==a2) then
(apnd (α:=UInt8) 1 v2 ([(Ab x4.Len)]:List UInt8)).bind fun v7=>
(Ar x4.Addr).bind fun v8=>
(part v8 0 (AT (Int.tdiv (AT (x4.Len+7)) 8))).bind fun v9=>
(apnd (α:=UInt8) 1 v7 v9).bind fun v10=>
k6 v10
else
k6 v2
) fun v11=>
next3 v11
) a1 0 []
) fun v12=>
some v12
def Ea (a0:Yc):Option (List YX):=
AH (τ:=Int×(List YX)) (fun k1=>
(BZ a0.YY).bind fun v2=>
if (!v2) then
k1 (1,[])
else
AH (τ:=(List YX)) (fun k3=>
AH (τ:=(List YX)) (fun k4=>
if (a0.YY.Origin != (-1)) then
(some (Option.getD (B8 BE 1) 0)).bind fun v5=>
(apnd (α:=YX) 40 [] ([(⟨v5,1,([(Ab a0.YY.Origin)]:List UInt8)⟩:YX)]:List YX)).bind fun _=>
k4 ([(⟨v5,1,([(Ab a0.YY.Origin)]:List UInt8)⟩:YX)]:List YX)
else
k4 []
) fun v6=>
k3 v6
) fun v7=>
AH (τ:=(List YX)) (fun k8=>
if (a0.YY.Origin != (-1)) then
(A0 a0.YY.Path).bind fun v9=>
AH (τ:=(List YX)) (fun k10=>
(some (Option.getD (B8 BE 2) 0)).bind fun v11=>
(apnd (α:=YX) 40 v7 ([(⟨v11,2,v9⟩:YX)]:List YX)).bind fun v12=>
k10 v12
) fun v13=>
k8 v13
else
(A0 a0.YY.Path).bind fun v14=>
AH (τ:=(List YX)) (fun k15=>
AH (τ:=(List YX)) (fun k16=>
if (cond false true (decide ((a0.YY.Path.length:Int) > 0))) then
(some (Option.getD (B8 BE 2) 0)).bind fun v17=>
(apnd (α:=YX) 40 v7 ([(⟨v17,2,v14⟩:YX)]:List YX)).bind fun v18=>
k16 v18
else
k16 v7
) fun v19=>
k15 v19
) fun v20=>
k8 v20
) fun v21=>
AH (τ:=(List YX)) (fun k22=>
if (!a0.YY.Next.V6) then
(Ar a0.YY.Next).bind fun v23=>
AH (τ:=(List YX)) (fun k24=>
AH (τ:=(List YX)) (fun k25=>
if (cond true (!(Addr.eqd a0.YY.Next (⟨false,(0:UInt64),(0:UInt64)⟩:Addr))) false) then
(some (Option.getD (B8 BE 3) 0)).bind fun v26=>
(apnd (α:=YX) 40 v21 ([(⟨v26,3,v23⟩:YX)]:List YX)).bind fun v27=>
k25 v27
else
k25 v21
) fun v28=>
k24 v28
) fun v29=>
k22 v29
else
(Ar a0.YY.Next).bind fun v30=>
AH (τ:=Unit) (fun k31=>
k31 ()
) fun _=>
k22 v21
) fun v32=>
(Ao ([a0.YY.MED]:List Int)).bind fun v33=>
AH (τ:=(List YX)) (fun k34=>
AH (τ:=(List YX)) (fun k35=>
if (a0.YY.MED != (-1)) then
(some (Option.getD (B8 BE 4) 0)).bind fun v36=>
(apnd (α:=YX) 40 v32 ([(⟨v36,4,v33⟩:YX)]:List YX)).bind fun v37=>
k35 v37
else
k35 v32
) fun v38=>
k34 v38
) fun v39=>
(Ao ([a0.YY.Pref]:List Int)).bind fun v40=>
AH (τ:=(List YX)) (fun k41=>
AH (τ:=(List YX)) (fun k42=>
if (a0.YY.Pref != (-1)) then
(some (Option.getD (B8 BE 5) 0)).bind fun v43=>
(apnd (α:=YX) 40 v39 ([(⟨v43,5,v40⟩:YX)]:List YX)).bind fun v44=>
k42 v44
else
k42 v39
) fun v45=>
k41 v45
) fun v46=>
(A7 a0.YY.Communities).bind fun v47=>
AH (τ:=(List YX)) (fun k48=>
AH (τ:=(List YX)) (fun k49=>
if (decide ((a0.YY.Communities.length:Int) > 0)) then
(some (Option.getD (B8 BE 8) 0)).bind fun v50=>
(apnd (α:=YX) 40 v46 ([(⟨v50,8,v47⟩:YX)]:List YX)).bind fun v51=>
k49 v51
else
k49 v46
) fun v52=>
k48 v52
) fun v53=>
(By a0.YY.Ye).bind fun v54=>
AH (τ:=(List YX)) (fun k55=>
AH (τ:=(List YX)) (fun k56=>
if (decide ((a0.YY.Ye.length:Int) > 0)) then
(some (Option.getD (B8 BE 32) 0)).bind fun v57=>
(apnd (α:=YX) 40 v53 ([(⟨v57,32,v54⟩:YX)]:List YX)).bind fun v58=>
k56 v58
else
k56 v53
) fun v59=>
k55 v59
) fun v60=>
(Ao ([a0.YY.OTC]:List Int)).bind fun v61=>
AH (τ:=(List YX)) (fun k62=>
AH (τ:=(List YX)) (fun k63=>
if (a0.YY.OTC != (-1)) then
(some (Option.getD (B8 BE 35) 0)).bind fun v64=>
(apnd (α:=YX) 40 v60 ([(⟨v64,35,v61⟩:YX)]:List YX)).bind fun v65=>
k63 v65
else
k63 v60
) fun v66=>
k62 v66
) fun v67=>
AH (τ:=(List YX)) (fun k68=>
Ah (σ:=(List YX)) (fun v69=>
k68 v69
) (fun next70 (x71:YX) i72 v69=>
(A1 x71.Data).bind fun v73=>
(apnd (α:=YX) 40 v69 ([{ x71 with Data:=v73 }]:List YX)).bind fun v74=>
next70 v74
) a0.YY.Other 0 v67
) fun v75=>
(D9 BW v75).bind fun v76=>
k1 (0,v76)
) fun (v77,v78)=>
AH (τ:=Bool) (fun k79=>
if (decide ((a0.Announce.length:Int) > 0)) then
k79 (cond true a0.YY.Next.V6 false)
else
k79 false
) fun v80=>
AH (τ:=(List YX)) (fun k81=>
if v80 then
(Ar a0.YY.Next).bind fun v82=>
(apnd (α:=UInt8) 1 ([(0:UInt8),(2:UInt8),(1:UInt8),(16:UInt8)]:List UInt8) v82).bind fun v83=>
(apnd (α:=UInt8) 1 v83 ([(0:UInt8)]:List UInt8)).bind fun v84=>
(CQ v84 a0.Announce true).bind fun v85=>
(apnd (α:=YX) 40 v78 ([(⟨128,14,v85⟩:YX)]:List YX)).bind fun v86=>
k81 v86
else
k81 v78
) fun v87=>
(CH a0.Withdraw true).bind fun v88=>
AH (τ:=(List YX)) (fun k89=>
if (decide ((v88.length:Int) > 0)) then
(apnd (α:=UInt8) 1 ([(0:UInt8),(2:UInt8),(1:UInt8)]:List UInt8) v88).bind fun v90=>
(apnd (α:=YX) 40 v87 ([(⟨128,15,v90⟩:YX)]:List YX)).bind fun v91=>
k89 v91
else
k89 v87
) fun v92=>
(D9 DR v92).bind fun v93=>
some v93
def DC (a1:Int):Option (List UInt8):=
(apnd (α:=UInt8) 1 [] ([(Ab (Int.fdiv a1 (2^(min (Int.toNat 8) 64)))),(Ab a1)]:List UInt8)).bind fun _=>
some ([(Ab (Int.fdiv a1 (2^(min (Int.toNat 8) 64)))),(Ab a1)]:List UInt8)
def DD (a0:Yc):Option ((List UInt8)×Bool):=
(Ea a0).bind fun v1=>
(Cm v1).bind fun (v2,v3)=>
(CH a0.Withdraw false).bind fun v4=>
(DC (v4.length:Int)).bind fun v5=>
(apnd (α:=UInt8) 1 v5 v4).bind fun v6=>
(EC v6 (v2.length:Int)).bind fun v7=>
(apnd (α:=UInt8) 1 v7 v2).bind fun v8=>
(CQ v8 a0.Announce false).bind fun v9=>
AH (τ:=Bool) (fun k10=>
if (v3==0) then
k10 (cond true (decide ((v9.length:Int)<=4077)) false)
else
k10 false
) fun v11=>
some (v9,v11)
def BQ (a0:Addr):Option Int:=
if a0.V6 then
some 128
else
some 32
def DF (a0:Int):Option (UInt64×UInt64):=
if (decide (a0 > 64)) then
some ((AL (((AL (1*(2^(min (Int.toNat ((AL (AT (a0-64))).toNat:Int)) 64)))).toNat:Int)-1)),(18446744073709551615:UInt64))
else
some ((0:UInt64),(AL (((AL (1*(2^(min (Int.toNat ((AL a0).toNat:Int)) 64)))).toNat:Int)-1)))
def CP (a0:Addr)(a1:Int):Option Addr:=
(BQ a0).bind fun v1=>
(DF (AT (v1-a1))).bind fun (v2,v3)=>
some (⟨a0.V6,(AL ((BitVec.ofInt 64 (a0.Hi.toNat:Int) &&& ~~~BitVec.ofInt 64 (v2.toNat:Int)).toNat:Int)),(AL ((BitVec.ofInt 64 (a0.Lo.toNat:Int) &&& ~~~BitVec.ofInt 64 (v3.toNat:Int)).toNat:Int))⟩:Addr)
def D4 (a0:Yb):Option Bool:=
AH (τ:=Bool) (fun k1=>
(Db a0.Addr).bind fun v2=>
if v2 then
if (cond true (decide (a0.Len ≥ 0)) false) then
(BQ a0.Addr).bind fun v3=>
if (cond true (decide (a0.Len<=v3)) false) then
(CP a0.Addr a0.Len).bind fun v4=>
k1 (cond true (Addr.eqd v4 a0.Addr) false)
else
k1 false
else
k1 false
else
k1 false
) fun v5=>
some v5
def C0 (a0:Yb):Option Bool:=
(D4 a0).bind fun v1=>
some (!v1)
def D3 (a0:YY):Option Bool:=
AH (τ:=Unit) (fun k1=>
k1 ()
) fun _=>
AH (τ:=Bool) (fun k2=>
if (a0.Origin==(-1)) then
if (cond true (a0.MED==(-1)) false) then
if (cond true (a0.Pref==(-1)) false) then
if (cond true (a0.OTC==(-1)) false) then
if (cond true (Addr.eqd a0.Next (⟨false,(0:UInt64),(0:UInt64)⟩:Addr)) false) then
k2 (cond true ((AT ((AT ((AT ((a0.Path.length:Int)+(a0.Communities.length:Int)))+(a0.Ye.length:Int)))+(a0.Other.length:Int)))==0) false)
else
k2 false
else
k2 false
else
k2 false
else
k2 false
else
k2 false
) fun v3=>
some v3
def Cb (a0:Yb)(a1:Yc):Option (Bool×Yc):=
some ((!(a0.Addr.V6==a1.YY.Next.V6)),a1)
def AU (a0:List Yb)(a1c0:Yc):Option (Int×Yc):=
AH (τ:=Yc) (fun k1=>
Ah (σ:=Yc) (fun v2=>
k1 v2
) (fun next3 (x4:Yb) i5 v2=>
(Cb x4 v2).bind fun (v6,v7)=>
if v6 then
some ((i5:Int),v7)
else
next3 v7
) a0 0 a1c0
) fun v8=>
some ((-1),v8)
def AQ (a0:List Yb)(a1c0:Yc):Option (Bool×Yc):=
(AU a0 a1c0).bind fun (v1,v2)=>
some ((decide (v1 ≥ 0)),v2)
def EV (a0:Yc):Option Bool:=
if ((a0.Announce.length:Int)==0) then
(D3 a0.YY).bind fun v1=>
some v1
else
AH (τ:=Bool) (fun k2=>
(BZ a0.YY).bind fun v3=>
if v3 then
if (cond true (a0.YY.Origin != (-1)) false) then
if (cond true (!(Addr.eqd a0.YY.Next (⟨false,(0:UInt64),(0:UInt64)⟩:Addr))) false) then
(AQ a0.Announce a0).bind fun (v4,v5)=>
k2 (cond true (!v4) false)
else
k2 false
else
k2 false
else
k2 false
) fun v6=>
some v6
def Ad (a0:List Yb):Option Int:=
AH (τ:=Unit) (fun k1=>
Ah (σ:=Unit) (fun _=>
k1 ()
) (fun next2 (x3:Yb) i4 _=>
(C0 x3).bind fun v5=>
if v5 then
some (i4:Int)
else
next2 ()
) a0 0 ()
) fun _=>
some (-1)
def AP (a0:List Yb):Option Bool:=
(Ad a0).bind fun v1=>
some (decide (v1 ≥ 0))
def Dw (a0:Yc):Option Bool:=
AH (τ:=Bool) (fun k1=>
if (decide ((a0.Withdraw.length:Int) > 256)) then
k1 true
else
if (cond false true (decide ((a0.Announce.length:Int) > 256))) then
k1 true
else
(AP a0.Withdraw).bind fun v2=>
if (cond false true v2) then
k1 true
else
(AP a0.Announce).bind fun v3=>
if (cond false true v3) then
k1 true
else
(EV a0).bind fun v4=>
k1 (cond false true (!v4))
) fun v5=>
if v5 then
some false
else
(DD a0).bind fun (v6,v7)=>
some v7
def CY (a0:Yc):Option ((List UInt8)×Int):=
(Dw a0).bind fun v1=>
if (!v1) then
some ([],1)
else
(DD a0).bind fun (v2,v3)=>
some (v2,0)
def Du (a0:List UInt8):Option (Addr×Int):=
AH (τ:=Bool) (fun k1=>
if ((a0.length:Int) != 4) then
k1 (cond true ((a0.length:Int) != 16) false)
else
k1 false
) fun v2=>
if v2 then
some ((⟨false,(0:UInt64),(0:UInt64)⟩:Addr),1)
else
AH (τ:=Addr) (fun k3=>
Ah (σ:=Addr) (fun v4=>
k3 v4
) (fun next5 (x6:UInt8) i7 v4=>
next5 (⟨v4.V6,(AL ((BitVec.ofInt 64 ((AL ((v4.Hi.toNat:Int)*(2^(min (Int.toNat 8) 64)))).toNat:Int) ||| BitVec.ofInt 64 ((AL (Int.fdiv (v4.Lo.toNat:Int) (2^(min (Int.toNat 56) 64)))).toNat:Int)).toNat:Int)),(AL ((BitVec.ofInt 64 ((AL ((v4.Lo.toNat:Int)*(2^(min (Int.toNat 8) 64)))).toNat:Int) ||| BitVec.ofInt 64 ((AL (x6.toNat:Int)).toNat:Int)).toNat:Int))⟩:Addr)
) a0 0 (⟨((a0.length:Int)==16),(0:UInt64),(0:UInt64)⟩:Addr)
) fun v8=>
some (v8,0)
def F5 (a0:YX)(a1:YX):Option Int:=
(cmp_Compare_int a0.Type_ a1.Type_).bind fun v1=>
some v1
def E6 (a0:List UInt8):Option Int:=
(geti a0 0).bind fun v1=>
(geti a0 1).bind fun v2=>
some (AT ((BitVec.ofInt 64 (AT ((v1.toNat:Int)*(2^(min (Int.toNat 8) 64)))) ||| BitVec.ofInt 64 (v2.toNat:Int)).toNat:Int))
def bytes_Equal (a0:List UInt8)(a1:List UInt8):Option Bool:=
some ((bs a0).toList==(bs a1).toList)
def bytes_HasPrefix (a0:List UInt8)(a1:List UInt8):Option Bool:=
AH (τ:=Bool) (fun k1=>
if (decide ((a0.length:Int) ≥ (a1.length:Int))) then
(part a0 0 (a1.length:Int)).bind fun v2=>
(bytes_Equal v2 a1).bind fun v3=>
k1 (cond true v3 false)
else
k1 false
) fun v4=>
some v4
def FW (a0:List UInt8):Option (Bool×Bool):=
(chk (0<=(4:Int)/\(4:Int)<=4/\(4:Int)<=1048576)).bind fun _=>
(bytes_Equal a0 (List.replicate (Int.toNat 4) (0:UInt8))).bind fun v1=>
if v1 then
some (true,false)
else
none
def BU:Option Bool:=
(Ds).bind fun v1=>
(CY (⟨([(⟨(⟨false,(0:UInt64),(167772160:UInt64)⟩:Addr),8⟩:Yb)]:List Yb),v1,[]⟩:Yc)).bind fun (v2,v3)=>
(FW ([(0:UInt8),(0:UInt8),(0:UInt8),(0:UInt8)]:List UInt8)).bind fun (v4,v5)=>
AH (τ:=Bool) (fun k6=>
if (v3==0) then
if (cond true ((bs v2).toList==(ByteArray.mk (List.toArray (List.cons 0 (List.cons 2 (List.cons 8 (List.cons 10 (List.cons 0 (List.cons 0 List.nil)))))))).toList) false) then
if (cond true v4 false) then
k6 (cond true (!v5) false)
else
k6 false
else
k6 false
else
k6 false
) fun v7=>
some v7
def DX (a0:List UInt8):Option Bool:=
some (decide ((a0.length:Int)<=600))
def Do (a0:List UInt8)(a1:Int)(a2:Int):Option (List UInt8):=
(apnd (α:=UInt8) 1 [] a0).bind fun _=>
if ((a0.length:Int)==0) then
some ([(Ab a2)]:List UInt8)
else
(BF a1 (a0.length:Int)).bind fun v1=>
(BF (AT (Int.tdiv a2 256)) 4).bind fun v2=>
if (v2==0) then
(geti a0 v1).bind fun v3=>
(seti a0 v1 (Ab a2)).bind fun v4=>
some v4
else
if (v2==1) then
(chk (0<=(0:Int)/\(0:Int)<=v1/\v1<=(a0.length:Int))).bind fun _=>
(chk (0<=(AT (v1+1))/\(AT (v1+1))<=(a0.length:Int)/\(a0.length:Int)<=(a0.length:Int))).bind fun _=>
(apnd (α:=UInt8) 1 (List.take (Int.toNat v1-Int.toNat 0) a0) (List.take (Int.toNat (a0.length:Int)-Int.toNat (AT (v1+1))) (List.drop (Int.toNat (AT (v1+1))) a0))).bind fun v5=>
some v5
else
if (v2==2) then
(chk (0<=(0:Int)/\(0:Int)<=v1/\v1<=(a0.length:Int))).bind fun _=>
(apnd (α:=UInt8) 1 [] (List.take (Int.toNat v1-Int.toNat 0) (List.drop (Int.toNat 0) a0))).bind fun _=>
(apnd (α:=UInt8) 1 (List.take (Int.toNat v1-Int.toNat 0) (List.drop (Int.toNat 0) a0)) ([(Ab a2)]:List UInt8)).bind fun v6=>
(chk (0<=v1/\v1<=(a0.length:Int)/\(a0.length:Int)<=(a0.length:Int))).bind fun _=>
(apnd (α:=UInt8) 1 v6 (List.take (Int.toNat (a0.length:Int)-Int.toNat v1) (List.drop (Int.toNat v1) a0))).bind fun v7=>
some v7
else
(part a0 0 v1).bind fun v8=>
some v8
def Gs (a0:List Int):Option (List Int):=
AH (τ:=(List Int)) (fun k1=>
Ah (σ:=(List Int)) (fun v2=>
k1 v2
) (fun next3 (x4:Int) i5 v2=>
AH (τ:=(List Int)) (fun k6=>
AH (τ:=Int) (fun k7=>
Cc (σ:=Int) (fun next8 v9=>
AH (τ:=Bool) (fun k10=>
if (decide (v9<(v2.length:Int))) then
(geti v2 v9).bind fun v11=>
k10 (cond true (decide (v11<x4)) false)
else
k10 false
) fun v12=>
if v12 then
next8 (AT (v9+1))
else
k7 v9
) fuel 0
) fun v13=>
AH (τ:=Bool) (fun k14=>
if (decide (v13<(v2.length:Int))) then
(geti v2 v13).bind fun v15=>
k14 (cond true (v15==x4) false)
else
k14 false
) fun v16=>
if v16 then
k6 v2
else
(chk (0<=(0:Int)/\(0:Int)<=v13/\v13<=(v2.length:Int))).bind fun _=>
(apnd (α:=Int) 8 [] (List.take (Int.toNat v13-Int.toNat 0) (List.drop (Int.toNat 0) v2))).bind fun _=>
(apnd (α:=Int) 8 (List.take (Int.toNat v13-Int.toNat 0) (List.drop (Int.toNat 0) v2)) ([x4]:List Int)).bind fun v17=>
(chk (0<=v13/\v13<=(v2.length:Int)/\(v2.length:Int)<=(v2.length:Int))).bind fun _=>
(apnd (α:=Int) 8 v17 (List.take (Int.toNat (v2.length:Int)-Int.toNat v13) (List.drop (Int.toNat v13) v2))).bind fun v18=>
k6 v18
) fun v19=>
next3 v19
) a0 0 []
) fun v20=>
some v20
def CN (a0:Ya):Option ((List UInt8)×Int):=
AH (τ:=Bool) (fun k1=>
if (decide (a0.Type_<1)) then
k1 true
else
k1 (cond false true (decide (a0.Type_ > 5)))
) fun v2=>
if v2 then
some ([],1)
else
if (decide ((a0.Body.length:Int) > 4077)) then
some ([],3)
else
AH (τ:=(List UInt8)) (fun k3=>
Cc (σ:=Int×(List UInt8)) (fun next4 (v5,v6)=>
if (decide (v5<16)) then
(apnd (α:=UInt8) 1 v6 ([(255:UInt8)]:List UInt8)).bind fun v7=>
next4 ((AT (v5+1)),v7)
else
k3 v6
) fuel (0,[])
) fun v8=>
(apnd (α:=UInt8) 1 v8 ([(Ab (Int.fdiv (AT ((a0.Body.length:Int)+19)) (2^(min (Int.toNat 8) 64)))),(Ab (AT ((a0.Body.length:Int)+19))),(Ab a0.Type_)]:List UInt8)).bind fun v9=>
(apnd (α:=UInt8) 1 v9 a0.Body).bind fun v10=>
some (v10,0)
def Ej (a0:UInt64)(a1:UInt64):Option (UInt64×UInt64):=
some ((AL (((AL (((AL (((AL (Int.fdiv (a0.toNat:Int) (2^(min (Int.toNat 32) 64)))).toNat:Int)*((AL (Int.fdiv (a1.toNat:Int) (2^(min (Int.toNat 32) 64)))).toNat:Int))).toNat:Int)+((AL (Int.fdiv ((AL (((AL (((AL (Int.fdiv (a0.toNat:Int) (2^(min (Int.toNat 32) 64)))).toNat:Int)*((AL ((BitVec.ofInt 64 (a1.toNat:Int) &&& BitVec.ofInt 64 4294967295).toNat:Int)).toNat:Int))).toNat:Int)+((AL (Int.fdiv ((AL (((AL ((BitVec.ofInt 64 (a0.toNat:Int) &&& BitVec.ofInt 64 4294967295).toNat:Int)).toNat:Int)*((AL ((BitVec.ofInt 64 (a1.toNat:Int) &&& BitVec.ofInt 64 4294967295).toNat:Int)).toNat:Int))).toNat:Int) (2^(min (Int.toNat 32) 64)))).toNat:Int))).toNat:Int) (2^(min (Int.toNat 32) 64)))).toNat:Int))).toNat:Int)+((AL (Int.fdiv ((AL (((AL ((BitVec.ofInt 64 ((AL (((AL (((AL (Int.fdiv (a0.toNat:Int) (2^(min (Int.toNat 32) 64)))).toNat:Int)*((AL ((BitVec.ofInt 64 (a1.toNat:Int) &&& BitVec.ofInt 64 4294967295).toNat:Int)).toNat:Int))).toNat:Int)+((AL (Int.fdiv ((AL (((AL ((BitVec.ofInt 64 (a0.toNat:Int) &&& BitVec.ofInt 64 4294967295).toNat:Int)).toNat:Int)*((AL ((BitVec.ofInt 64 (a1.toNat:Int) &&& BitVec.ofInt 64 4294967295).toNat:Int)).toNat:Int))).toNat:Int) (2^(min (Int.toNat 32) 64)))).toNat:Int))).toNat:Int) &&& BitVec.ofInt 64 4294967295).toNat:Int)).toNat:Int)+((AL (((AL ((BitVec.ofInt 64 (a0.toNat:Int) &&& BitVec.ofInt 64 4294967295).toNat:Int)).toNat:Int)*((AL (Int.fdiv (a1.toNat:Int) (2^(min (Int.toNat 32) 64)))).toNat:Int))).toNat:Int))).toNat:Int) (2^(min (Int.toNat 32) 64)))).toNat:Int))),(AL ((a0.toNat:Int)*(a1.toNat:Int))))
def EO (a0:UInt64)(a1:UInt64):Option (UInt64×UInt64):=
(Ej a0 a1).bind fun (v1,v2)=>
some (v1,v2)
def D7 (a0:List UInt8)(a1:Int):Option (List UInt8):=
if (a1==0) then
some ([]:List UInt8)
else
if (decide (a1<0)) then
none
else
(EO (AL (a0.length:Int)) (AL a1)).bind fun (v1,v2)=>
AH (τ:=Bool) (fun k3=>
if (decide ((v1.toNat:Int) > 0)) then
k3 true
else
k3 (cond false true (decide ((v2.toNat:Int) > 9223372036854775807)))
) fun v4=>
if v4 then
none
else
if ((a0.length:Int)==0) then
some ([]:List UInt8)
else
AH (τ:=Int) (fun k5=>
if (decide ((AT (v2.toNat:Int)) > 8192)) then
(chk ((a0.length:Int)≠0)).bind fun _=>
AH (τ:=Int) (fun k6=>
if ((AT ((AT (Int.tdiv 8192 (a0.length:Int)))*(a0.length:Int)))==0) then
k6 (a0.length:Int)
else
k6 (AT ((AT (Int.tdiv 8192 (a0.length:Int)))*(a0.length:Int)))
) fun v7=>
k5 v7
else
k5 (AT (v2.toNat:Int))
) fun v8=>
forallJ (AT (v2.toNat:Int)) fun (v9:List UInt8)=>
(chk ((AT (v2.toNat:Int))<=(AT (v2.toNat:Int))/\(AT (v2.toNat:Int))<=(v9.length:Int))).bind fun _=>
(part v9 0 (AT (v2.toNat:Int))).bind fun v10=>
AH (τ:=(List UInt8)) (fun k11=>
Cc (σ:=Int×(List UInt8)) (fun next12 (v13,v14)=>
if (decide (v13<(AT (v2.toNat:Int)))) then
(chk (0<=v13/\v13<=(v14.length:Int)/\(v14.length:Int)<=(v14.length:Int))).bind fun _=>
(chk (0<=(0:Int)/\(0:Int)<=(if v8<v13 then v8 else v13)/\(if v8<v13 then v8 else v13)<=(v14.length:Int))).bind fun _=>
next12 ((AT (v13+(((min (List.take (Int.toNat (if v8<v13 then v8 else v13)-Int.toNat 0) (List.drop (Int.toNat 0) v14)).length (Int.toNat (v14.length:Int)-Int.toNat v13)):Nat):Int))),(cpy v14 (Int.toNat v13) (Int.toNat (v14.length:Int)-Int.toNat v13) (List.take (Int.toNat (if v8<v13 then v8 else v13)-Int.toNat 0) (List.drop (Int.toNat 0) v14))))
else
k11 v14
) fuel ((((min a0.length v10.length):Nat):Int),(cpy v10 0 v10.length a0))
) fun v15=>
some v15
def Bf:Option (List UInt8):=
(D7 ([(255:UInt8)]:List UInt8) 16).bind fun v1=>
some v1
def DO (a0:Int):Option Bool:=
AH (τ:=Bool) (fun k1=>
if (decide (a0 ≥ 1)) then
k1 (cond true (decide (a0<=5)) false)
else
k1 false
) fun v2=>
some v2
def EX (a0:List UInt8):Option (List UInt8):=
(apnd (α:=UInt8) 1 ([]:List UInt8) a0).bind fun v1=>
some v1
def Be (a0:List UInt8):Option (Ya×Int×Int):=
(Bf).bind fun v1=>
(part a0 0 (if (a0.length:Int)<16 then (a0.length:Int) else 16)).bind fun v2=>
(bytes_HasPrefix v1 v2).bind fun v3=>
if (!v3) then
some ((⟨0,[]⟩:Ya),0,12)
else
if (decide ((a0.length:Int)<19)) then
some ((⟨0,[]⟩:Ya),0,4)
else
(part a0 16 (a0.length:Int)).bind fun v4=>
(E6 v4).bind fun v5=>
(geti a0 18).bind fun v6=>
AH (τ:=Bool) (fun k7=>
if (decide (v5<19)) then
k7 true
else
if (cond false true (decide (v5 > 4096))) then
k7 true
else
(DO (v6.toNat:Int)).bind fun v8=>
k7 (cond false true (!v8))
) fun v9=>
if v9 then
some ((⟨0,[]⟩:Ya),0,12)
else
if (decide ((a0.length:Int)<v5)) then
some ((⟨0,[]⟩:Ya),0,4)
else
(part a0 19 v5).bind fun v10=>
(EX v10).bind fun v11=>
some ((⟨(v6.toNat:Int),v11⟩:Ya),v5,0)
def BN (a0:List (List UInt8))(a1:Int)(a2:Int):Option Bool:=
if (decide ((a0.length:Int) > 9)) then
(BU).bind fun v1=>
some v1
else
AH (τ:=(List UInt8)) (fun k2=>
Ah (σ:=(List UInt8)) (fun v3=>
k2 v3
) (fun next4 (x5:List UInt8) i6 v3=>
(DX x5).bind fun v7=>
if (!v7) then
(BU).bind fun v8=>
some v8
else
(BF a1 5).bind fun v9=>
(CN (⟨(AT (1+v9)),x5⟩:Ya)).bind fun (v10,v11)=>
(apnd (α:=UInt8) 1 v3 v10).bind fun v12=>
next4 v12
) a0 0 []
) fun v13=>
(BF a2 19).bind fun v14=>
(CN (⟨4,[]⟩:Ya)).bind fun (v15,v16)=>
(part v15 0 v14).bind fun v17=>
(apnd (α:=UInt8) 1 v13 v17).bind fun v18=>
AH (τ:=(List UInt8)×Int) (fun k19=>
Ah (σ:=(List UInt8)×Int) (fun (v20,v21)=>
k19 (v20,v21)
) (fun next22 (x23:List UInt8) i24 (v20,v21)=>
(Be v20).bind fun (v25,v26,v27)=>
AH (τ:=Bool) (fun k28=>
if (v27 != 0) then
k28 true
else
if (cond false true (!((bs v25.Body).toList==(bs x23).toList))) then
k28 true
else
if (cond false true (v26 != (AT (19+(x23.length:Int))))) then
k28 true
else
k28 (cond false true (decide (v26 > (v20.length:Int))))
) fun v29=>
if v29 then
some false
else
(part v20 v26 (v20.length:Int)).bind fun v30=>
next22 (v30,(AT (v21-v26)))
) a0 0 (v18,(v13.length:Int))
) fun (v31,v32)=>
(Be v31).bind fun (v33,v34,v35)=>
AH (τ:=Bool) (fun k36=>
if (v32==0) then
if (cond true (v35==4) false) then
(BU).bind fun v37=>
k36 (cond true v37 false)
else
k36 false
else
k36 false
) fun v38=>
some v38
def DK (a0:Ya):Option ((List UInt8)×Int):=
(DO a0.Type_).bind fun v1=>
if (!v1) then
some ([],1)
else
if (decide ((a0.Body.length:Int) > 4077)) then
some ([],3)
else
(Bf).bind fun v2=>
(EC v2 (AT (19+(a0.Body.length:Int)))).bind fun v3=>
(apnd (α:=UInt8) 1 v3 ([(Ab a0.Type_)]:List UInt8)).bind fun v4=>
(apnd (α:=UInt8) 1 v4 a0.Body).bind fun v5=>
some (v5,0)
def EY (a0:List UInt8):Option (Ya×Int×Int):=
AH (τ:=Unit) (fun k1=>
Ah (σ:=Unit) (fun _=>
k1 ()
) (fun next2 (x3:UInt8) i4 _=>
AH (τ:=Bool) (fun k5=>
if (decide ((i4:Int)<16)) then
k5 (cond true ((x3.toNat:Int) != 255) false)
else
k5 false
) fun v6=>
if v6 then
some ((⟨0,[]⟩:Ya),0,12)
else
next2 ()
) a0 0 ()
) fun _=>
if (decide ((a0.length:Int)<19)) then
some ((⟨0,[]⟩:Ya),0,4)
else
(geti a0 16).bind fun v7=>
(geti a0 17).bind fun v8=>
AH (τ:=Bool) (fun k9=>
if (decide ((AT ((BitVec.ofInt 64 (AT ((v7.toNat:Int)*(2^(min (Int.toNat 8) 64)))) ||| BitVec.ofInt 64 (v8.toNat:Int)).toNat:Int))<19)) then
k9 true
else
if (cond false true (decide ((AT ((BitVec.ofInt 64 (AT ((v7.toNat:Int)*(2^(min (Int.toNat 8) 64)))) ||| BitVec.ofInt 64 (v8.toNat:Int)).toNat:Int)) > 4096))) then
k9 true
else
(geti a0 18).bind fun v10=>
if (cond false true (decide ((v10.toNat:Int)<1))) then
k9 true
else
(geti a0 18).bind fun v11=>
k9 (cond false true (decide ((v11.toNat:Int) > 5)))
) fun v12=>
if v12 then
some ((⟨0,[]⟩:Ya),0,12)
else
if (decide ((a0.length:Int)<(AT ((BitVec.ofInt 64 (AT ((v7.toNat:Int)*(2^(min (Int.toNat 8) 64)))) ||| BitVec.ofInt 64 (v8.toNat:Int)).toNat:Int)))) then
some ((⟨0,[]⟩:Ya),0,4)
else
(geti a0 18).bind fun v13=>
(part a0 19 (AT ((BitVec.ofInt 64 (AT ((v7.toNat:Int)*(2^(min (Int.toNat 8) 64)))) ||| BitVec.ofInt 64 (v8.toNat:Int)).toNat:Int))).bind fun v14=>
(apnd (α:=UInt8) 1 [] v14).bind fun _=>
some ((⟨(v13.toNat:Int),v14⟩:Ya),(AT ((BitVec.ofInt 64 (AT ((v7.toNat:Int)*(2^(min (Int.toNat 8) 64)))) ||| BitVec.ofInt 64 (v8.toNat:Int)).toNat:Int)),0)
def BO (a0:Ya)(a1:List UInt8)(a2:Int)(a3:Int)(a4:Int):Option Bool:=
AH (τ:=Bool) (fun k1=>
(DX a0.Body).bind fun v2=>
if (!v2) then
k1 true
else
(DX a1).bind fun v3=>
k1 (cond false true (!v3))
) fun v4=>
if v4 then
(BU).bind fun v5=>
some v5
else
(BF a2 7).bind fun v6=>
(BF a4 3).bind fun v7=>
(chk (0<=(AT (4076+v7))/\(AT (4076+v7))<=(AT (4076+v7))/\(AT (4076+v7))<=1048576)).bind fun _=>
AH (τ:=Unit) (fun k8=>
Ah (σ:=Unit) (fun _=>
k8 ()
) (fun next9 (x10:Ya) i11 _=>
(DK x10).bind fun (v12,v13)=>
(CN x10).bind fun (v14,v15)=>
AH (τ:=Bool) (fun k16=>
if (!((bs v12).toList==(bs v14).toList)) then
k16 true
else
k16 (cond false true (v13 != v15))
) fun v17=>
if v17 then
some false
else
next9 ()
) ([a0,(⟨v6,a1⟩:Ya),(⟨2,(List.replicate (Int.toNat (AT (4076+v7))) (0:UInt8))⟩:Ya)]:List Ya) 0 ()
) fun _=>
(BF a2 5).bind fun v18=>
(CN (⟨(AT (1+v18)),a1⟩:Ya)).bind fun (v19,v20)=>
(Do v19 a3 a4).bind fun v21=>
(BF a3 3).bind fun v22=>
(BF a4 256).bind fun v23=>
(Do v19 (AT (16+v22)) v23).bind fun v24=>
(BF a3 (AT ((v19.length:Int)+1))).bind fun v25=>
(part v19 0 v25).bind fun v26=>
(apnd (α:=UInt8) 1 [] v19).bind fun _=>
(apnd (α:=UInt8) 1 v19 a1).bind fun v27=>
AH (τ:=Unit) (fun k28=>
Ah (σ:=Unit) (fun _=>
k28 ()
) (fun next29 (x30:List UInt8) i31 _=>
(Be x30).bind fun (v32,v33,v34)=>
(EY x30).bind fun (v35,v36,v37)=>
AH (τ:=Bool) (fun k38=>
if (v32.Type_ != v35.Type_) then
k38 true
else
if (cond false true (!((bs v32.Body).toList==(bs v35.Body).toList))) then
k38 true
else
if (cond false true (v33 != v36)) then
k38 true
else
k38 (cond false true (v34 != v37))
) fun v39=>
if v39 then
some false
else
next29 ()
) ([a1,v19,v21,v24,v26,v27]:List (List UInt8)) 0 ()
) fun _=>
(BU).bind fun v40=>
some v40
def B2 (a0:List UInt8)(a1:Int)(a2:Int)(a3:Int)(a4:Int):Option Bool:=
(DX a0).bind fun v1=>
if (!v1) then
(BU).bind fun v2=>
some v2
else
(BF a1 5).bind fun v3=>
(DK (⟨(AT (1+v3)),a0⟩:Ya)).bind fun (v4,v5)=>
AH (τ:=Bool) (fun k6=>
if (v5 != 0) then
k6 true
else
k6 (cond false true ((v4.length:Int) != (AT (19+(a0.length:Int)))))
) fun v7=>
if v7 then
some false
else
(BF a2 (v4.length:Int)).bind fun v8=>
(part v4 0 v8).bind fun v9=>
(Be v9).bind fun (v10,v11,v12)=>
(apnd (α:=UInt8) 1 [] v4).bind fun _=>
(BF a3 16).bind fun v13=>
(BF a4 255).bind fun v14=>
(geti v4 v13).bind fun v15=>
(seti v4 v13 (Ab v14)).bind fun v16=>
(Be v16).bind fun (v17,v18,v19)=>
AH (τ:=Bool) (fun k20=>
if (v11==0) then
if (cond true (v12==4) false) then
if (cond true (v18==0) false) then
if (cond true (v19==12) false) then
(BU).bind fun v21=>
k20 (cond true v21 false)
else
k20 false
else
k20 false
else
k20 false
else
k20 false
) fun v22=>
some v22
end
end Go.AX.Q19
end
section
namespace Go.AX.Q19
open Go Go.AX Go.Proofs
def keep:FuncId->List Bool:=fun f=>(match Nat.beq f 227 with | true=>[true]|false=>(match Nat.beq f 218 with | true=>[true]|false=>(match Nat.beq f 225 with | true=>[true]|false=>(match Nat.beq f 120 with | true=>[true]|false=>(match Nat.beq f 228 with | true=>[true]|false=>(match Nat.beq f 226 with | true=>[true]|false=>(match Nat.beq f 219 with | true=>[true]|false=>(match Nat.beq f 87 with | true=>[true]|false=>(match Nat.beq f 96 with | true=>[true]|false=>(match Nat.beq f 158 with | true=>[true]|false=>[]))))))))))
def Q9:FuncId->Bool:=fun f=>(match Nat.beq f 222 with | true=>true | false=>(match Nat.beq f 220 with | true=>true | false=>(match Nat.beq f 216 with | true=>true | false=>(match Nat.beq f 215 with | true=>true | false=>(match Nat.beq f 214 with | true=>true | false=>(match Nat.beq f 213 with | true=>true | false=>(match Nat.beq f 212 with | true=>true | false=>(match Nat.beq f 211 with | true=>true | false=>(match Nat.beq f 210 with | true=>true | false=>(match Nat.beq f 209 with | true=>true | false=>(match Nat.beq f 208 with | true=>true | false=>(match Nat.beq f 156 with | true=>true | false=>(match Nat.beq f 155 with | true=>true | false=>(match Nat.beq f 134 with | true=>true | false=>(match Nat.beq f 125 with | true=>true | false=>(match Nat.beq f 117 with | true=>true | false=>(match Nat.beq f 112 with | true=>true | false=>(match Nat.beq f 64 with | true=>true | false=>(match Nat.beq f 60 with | true=>true | false=>(match Nat.beq f 17 with | true=>true | false=>false))))))))))))))))))))
def XP:Nat->Option (List (D×D)):=fun g=>(match Nat.beq g 1 with | true=>some ([(D.i 1,D.val (.func (.func 208) #[] #[])),(D.i 2,D.val (.func (.func 209) #[] #[])),(D.i 3,D.val (.func (.func 210) #[] #[])),(D.i 4,D.val (.func (.func 211) #[] #[])),(D.i 5,D.val (.func (.func 213) #[] #[])),(D.i 8,D.val (.func (.func 214) #[] #[])),(D.i 32,D.val (.func (.func 215) #[] #[])),(D.i 35,D.val (.func (.func 216) #[] #[]))])|false=>(match Nat.beq g 0 with | true=>some (K9 D.i D.i BE)|false=>none))
abbrev Wl (p:Prop):WL:=⟨p,XP⟩
theorem ok {wl:Prop}{f:FuncId}(fn:Func){args:List AV}{objs:List OB}{res:AV}{objs':List OB}
    (hf : Tryz.prog.funcs[f]? = some fn) (hn : (fn.name == "runtime.NumGoroutine") = false) (h : Ur (mcx (Wl wl) Tryz.prog tt keep Q9 0 objs.length) fn args objs fun r o => r = res ∧ o = objs') : Br (Wl wl) Tryz.prog f args objs res objs' :=
  V3 VD (by kernel_rfl) keep Q9 0 hf hn h
theorem okx {wl:Prop}{f:FuncId}(ex:Nat)(fn:Func){args:List AV}{objs:List OB}{res:AV}{objs':List OB}
    (hf : Tryz.prog.funcs[f]? = some fn) (hn : (fn.name == "runtime.NumGoroutine") = false) (h : Ur (mcx (Wl wl) Tryz.prog tt keep Q9 ex objs.length) fn args objs fun r o => r = res ∧ o = objs') : Br (Wl wl) Tryz.prog f args objs res objs' :=
  V3 VD (by kernel_rfl) keep Q9 ex hf hn h
theorem inl {wl:Prop}{f:FuncId}(fn:Func)(np:Nat){args:List AV}{ob:List (Option OB)}{K:AV->List (Option OB)->Prop}
    (hf : Tryz.prog.funcs[f]? = some fn) (hn : (fn.name == "runtime.NumGoroutine") = false) (h : WO (mcx (Wl wl) Tryz.prog tt keep Q9 0 np) fn args ob K) : Qb (Wl wl) Tryz.prog f args ob K :=
  Wm VD (by kernel_rfl) keep Q9 np hf hn h
abbrev X:AV:=.dead
abbrev N:Option OB:=none
def dd:Nat->List AV->List AV
  | 0,l=>l
  | n+1,l=>.dead::dd n l
def nn:Nat->List (Option OB)->List (Option OB)
  | 0,l=>l
  | n+1,l=>none::nn n l
abbrev yb (x:Bool):AV:=.d (D.b x)
abbrev yi (x:Int):AV:=.d (D.i x)
abbrev yu (x:UInt64):AV:=.d (D.u64 x)
abbrev yv (x:UInt8):AV:=.d (D.u8 x)
abbrev ys (x:ByteArray):AV:=.d (D.s x)
theorem sJ {b:Bool}{ρ:Type}{X Y:Option ρ}{r:ρ}{A B:Prop}(h:(if b=true then X else Y)=some r)(h1:X=some r->A)(h2:Y=some r->B):JE b A B:=WF h1 h2 h
theorem oK {wl:Prop}{f:FuncId}(fn:Func){args:List AV}{objs:List OB}{res:AV}{objs':List OB}(h:Ur (mcx (Wl wl) Tryz.prog tt keep Q9 0 objs.length) fn args objs fun r o=>r=res∧o=objs')(hf:Tryz.prog.funcs[f]?=some fn:=by kernel_rfl)(hn:(fn.name == "runtime.NumGoroutine")=false:=by kernel_rfl):Br (Wl wl) Tryz.prog f args objs res objs':=ok fn hf hn h
theorem cO {ops:Array Oper}{e:List (List Nat×List Nat)}{K:Prop}(k:K)(h:confB ops e=true:=by kernel_rfl):Df ops 0 e=true/\K:=cOB h k
theorem dO {ops:Array Oper}{K:Prop}(k:K)(h:drawB ops=true:=by kernel_rfl):Eg ops=true/\K:=dOB h k
abbrev yr (a b:Nat):AV:=.ref a b
abbrev yO {α:Type}(r:Nat)(f:α->D)(l:List α):AV:=.own r (List.map f l).length
abbrev yR {α:Type}(e s:Nat)(f:α->D)(l:List α):Option OB:=some (OB.row e s (List.map f l) .no)
abbrev yB (l:List AV):Option OB:=some (OB.box l)
abbrev y0 (l:List YX):AV:=.d (D.l 3 YX.toD l)
abbrev y1 (l:List Yb):AV:=.d (D.l 4 Yb.toD l)
abbrev y2 (l:List Yd):AV:=.d (D.l 2 Yd.toD l)
abbrev y3 (l:List Int):AV:=.d (D.l 1 D.i l)
abbrev y4 (l:List YZ):AV:=.d (D.l 2 YZ.toD l)
abbrev y5 (l:List Ye):AV:=.d (D.l 3 Ye.toD l)
abbrev y6 (l:List UInt8):AV:=.d (D.l 1 D.u8 l)
abbrev yC (wl:Prop):=Br (Wl wl) Tryz.prog
end Go.AX.Q19
end
section
namespace Go.AX.Q19
open Go Go.AX Go.Proofs Go.Proofs.YtbohbnpaadcfmaaGreatDoor
def X0 (n:Int):FuncId:=if n=1 then 208 else if n=2 then 209 else if n=3 then 210 else if n=4 then 211 else if n=5 then 213 else if n=8 then 214 else if n=32 then 215 else 216
def D2f {H:Type}:Lit×DataW H->D×D
 | (.int k n,.lit (.int k' m))=>(.val (.int k n),.val (.int k' m))
 | _=>(D.i 0,D.i 0)
def D2r {H:Type}:Lit×DataW H->D×D
 | (.int k n,_)=>(.val (.int k n),.val (.func (.func (X0 n)) #[] #[]))
 | _=>(D.i 0,D.i 0)
theorem glob_ok {W:World}{p:Prop}(h:laidMetH Tryz.prog Rows.updateEncodesRow.laid W) :∃gb:Nat->Prop,(Wl p).gf gb W/\∀b,gb b->b<W.heap.size:=by
 obtain⟨h1,_⟩:=laidMetH_iff.1 h
 have e1 : (Rows.updateEncodesRow.laid.filter fun x => x.2.handleName?.isNone) = [("exchangepoint/attribute.flags", Rows.laid_exchangepoint_attribute_flags)] := by kernel_rfl
 rw[e1] at h1
 obtain⟨ps,⟨g0,t0,cs0,f0,p0,q0,hg0,ht0,hv0,hd0,_⟩,_,_⟩:=h1
 obtain rfl := X25 ((show Tryz.prog.globalNamed "exchangepoint/attribute.flags" = some 0 by kernel_rfl).symm.trans hg0)
 obtain rfl:=X25 ((show (Tryz.prog.globals[0]?).map (·.type)=some 176 by kernel_rfl).symm.trans ht0)
 obtain⟨b0,a0,c0,hc0,hb0,hp0,ho0⟩:=QY (kd:=.i64) Tryz.underlying176 Tryz.underlying3 hd0 D2f (fun n v d m q hm hv hf=>by
  obtain⟨j,h1,h2,_⟩:=DataW.trod_int Tryz.underlying3 hv
  simp only[X26] at h2
  obtain⟨rfl,_⟩:=h2
  have hv:v=.int .i64 j:=by
   unfold Value.formed at hf
   rw[Tryz.underlying3] at hf
   cases v<;>simp_all [Value.cells]
  subst hv
  exact⟨rfl,rfl⟩)
 obtain ⟨g1, t1, cs1, f1, p1, hg1, ht1, hv1, hd1⟩ := h.funcs (n := "exchangepoint/attribute.readers") (X19 _ (X14.2 rfl))
 obtain rfl := X25 ((show Tryz.prog.globalNamed "exchangepoint/attribute.readers" = some 1 by kernel_rfl).symm.trans hg1)
 obtain rfl:=X25 ((show (Tryz.prog.globals[1]?).map (·.type)=some 182 by kernel_rfl).symm.trans ht1)
 have hd1:DataW.trod (funcToken Tryz.prog) Tryz.prog W 0 (fun _=>true) true f1 182 cs1.toList=some (.map [(.int .i64 1,.held [101,120,99,104,97,110,103,101,112,111,105,110,116,47,97,116,116,114,105,98,117,116,101,46,114,101,97,100,79,114,105,103,105,110]),(.int .i64 2,.held [101,120,99,104,97,110,103,101,112,111,105,110,116,47,97,116,116,114,105,98,117,116,101,46,114,101,97,100,80,97,116,104]),(.int .i64 3,.held [101,120,99,104,97,110,103,101,112,111,105,110,116,47,97,116,116,114,105,98,117,116,101,46,114,101,97,100,78,101,120,116]),(.int .i64 4,.held [101,120,99,104,97,110,103,101,112,111,105,110,116,47,97,116,116,114,105,98,117,116,101,46,114,101,97,100,101,114,115,36,49]),(.int .i64 5,.held [101,120,99,104,97,110,103,101,112,111,105,110,116,47,97,116,116,114,105,98,117,116,101,46,114,101,97,100,101,114,115,36,50]),(.int .i64 8,.held [101,120,99,104,97,110,103,101,112,111,105,110,116,47,97,116,116,114,105,98,117,116,101,46,114,101,97,100,67,111,109,109,117,110,105,116,105,101,115]),(.int .i64 32,.held [101,120,99,104,97,110,103,101,112,111,105,110,116,47,97,116,116,114,105,98,117,116,101,46,114,101,97,100,76,97,114,103,101]),(.int .i64 35,.held [101,120,99,104,97,110,103,101,112,111,105,110,116,47,97,116,116,114,105,98,117,116,101,46,114,101,97,100,101,114,115,36,51])],p1):=hd1
 obtain⟨b1,a1,c1,hc1,hb1,hp1,ho1⟩:=QY (kd:=.i64) Tryz.underlying182 Tryz.underlying3 hd1 D2r (fun n v d m q hm hv hf=>by
  have hv1:v.cells.toList=[v]:=by
   unfold Value.formed at hf
   rw[Tryz.underlying180] at hf
   cases v<;>simp_all [Value.cells]
  rw[hv1] at hv
  simp only[List.mem_cons,List.not_mem_nil,or_false,X26,Lit.int.injEq,true_and] at hm
  rcases hm with ⟨rfl,rfl⟩|⟨rfl,rfl⟩|⟨rfl,rfl⟩|⟨rfl,rfl⟩|⟨rfl,rfl⟩|⟨rfl,rfl⟩|⟨rfl,rfl⟩|⟨rfl,rfl⟩
  ·obtain rfl:=func_of_trod (f0:=208) Tryz.underlying180 (by kernel_rfl) hv
   exact⟨rfl,rfl⟩
  ·obtain rfl:=func_of_trod (f0:=209) Tryz.underlying180 (by kernel_rfl) hv
   exact⟨rfl,rfl⟩
  ·obtain rfl:=func_of_trod (f0:=210) Tryz.underlying180 (by kernel_rfl) hv
   exact⟨rfl,rfl⟩
  ·obtain rfl:=func_of_trod (f0:=211) Tryz.underlying180 (by kernel_rfl) hv
   exact⟨rfl,rfl⟩
  ·obtain rfl:=func_of_trod (f0:=213) Tryz.underlying180 (by kernel_rfl) hv
   exact⟨rfl,rfl⟩
  ·obtain rfl:=func_of_trod (f0:=214) Tryz.underlying180 (by kernel_rfl) hv
   exact⟨rfl,rfl⟩
  ·obtain rfl:=func_of_trod (f0:=215) Tryz.underlying180 (by kernel_rfl) hv
   exact⟨rfl,rfl⟩
  obtain rfl:=func_of_trod (f0:=216) Tryz.underlying180 (by kernel_rfl) hv
  exact⟨rfl,rfl⟩)
 have cell :∀{g:Nat} {n:String} {cs:Array Value} {v:Value},Tryz.prog.globalNamed n=some g->W.var? Tryz.prog n=some cs->cs.toList=[v]->cellAt W g 0=some v/\g<W.heap.size:=by
  intro g n cs v hg hv hc
  have h1:=World.var?_cell hg hv 0
  rw[Array.eq_one_of_toList hc] at h1
  have h1:W.cell? ⟨g,0,none⟩=some v:=by simpa using h1
  refine⟨h1,?_⟩
  unfold World.var? at hv
  rw[hg,Option.bind_some] at hv
  cases hh:W.heap[g]? with
  | none=>rw[hh] at hv;cases hv
  | some o=>exact (Array.getElem?_eq_some_iff.1 hh).1
 obtain⟨k0,s0⟩:=cell hg0 hv0 hc0
 obtain⟨k1,s1⟩:=cell hg1 hv1 hc1
 refine⟨fun b=>b=0\/b=1\/b=b0\/b=b1,fun g es hg=>?_,fun b hb=>?_⟩
 rotate_left
 ·rcases hb with rfl | rfl | rfl | rfl
  ·exact s0
  ·exact s1
  ·exact (Array.getElem?_eq_some_iff.1 hb0).1
  exact (Array.getElem?_eq_some_iff.1 hb1).1
 match g,hg with
 | 0,hg=>
  obtain rfl:K9 D.i D.i BE=es:=X25 hg
  refine⟨.inl rfl,b0,a0,c0,_,.inr (.inr (.inl rfl)),k0,hb0,fun tk x q hq=>?_,NJ ho0⟩
  refine J1 (l:=K9 D.i D.i BE) (hp0.symm) ?_ (by unfold BE K9;simp[D.i]) hq
  intro q hq
  obtain⟨z,_,rfl⟩:=List.mem_map.1 hq
  exact⟨_,rfl⟩
 | 1,hg=>
  obtain rfl:=X25 hg
  refine⟨.inr (.inl rfl),b1,a1,c1,_,.inr (.inr (.inr rfl)),k1,hb1,fun tk x q hq=>?_,NJ ho1⟩
  refine J1 (hp1.symm) ?_ (by simp[D2r]) hq
  intro q hq
  obtain⟨z,hz,rfl⟩:=List.mem_map.1 hq
  simp only[List.mem_cons,List.not_mem_nil,or_false] at hz
  rcases hz with rfl | rfl | rfl | rfl | rfl | rfl | rfl | rfl<;>exact⟨_,rfl⟩
 | g+2,hg=>cases hg
end Go.AX.Q19
end
section
namespace Go.AX
class Tt {ρ:Type} (m:Option ρ):Prop where
 h :∃r,m=some r
def Ok {ρ:Type}(m:Option ρ)(Q:ρ->Prop):Prop:=∃r,m=some r/\Q r
theorem Ok.ret {ρ:Type}{Q:ρ->Prop}{r:ρ}(h:Q r):Ok (some r) Q:=⟨r,rfl,h⟩
theorem Ok.of {ρ:Type}{m:Option ρ}[t:Tt m]:Ok m fun r=>m=some r:=by
 obtain⟨r,h⟩:=t.h
 exact⟨r,h,h⟩
theorem Ok.imp {ρ:Type}{m:Option ρ}{P Q:ρ->Prop}(h:Ok m P)(k :∀r,P r->Q r):Ok m Q:=by
 obtain⟨r,h1,h2⟩:=h
 exact⟨r,h1,k r h2⟩
theorem Ok.tt {ρ:Type}{m:Option ρ}{Q:ρ->Prop}(h:Ok m Q):Tt m:=by
 obtain⟨r,h1,_⟩:=h
 exact⟨r,h1⟩
theorem Ok.bind {α ρ:Type}{m:Option α}{f:α->Option ρ}{P:α->Prop}{Q:ρ->Prop}(h:Ok m P)(k :∀a,P a->Ok (f a) Q):Ok (Option.bind m f) Q:=by
 obtain⟨a,h1,h2⟩:=h
 rw[h1]
 exact k a h2
theorem Ok.join {τ ρ:Type}{m:(τ->Option ρ)->Option ρ}{k:τ->Option ρ}{Q:ρ->Prop}(J:τ->Prop)(h1 :∀k',(∀v,J v->Ok (k' v) Q)->Ok (m k') Q)(h2 :∀v,J v->Ok (k v) Q):Ok (AH m k) Q:=h1 k h2
theorem Ok.forX {α σ ρ:Type}{done:σ->Option ρ}{body:(σ->Option ρ)->α->Nat->σ->Option ρ}{Q:ρ->Prop}{l:List α}{s0:σ}(I:Nat->σ->Prop)(h0:I 0 s0)(hd :∀s,I l.length s->Ok (done s) Q)
  (hs :∀(next:σ->Option ρ) x i s,l[i]?=some x->I i s->(∀s',I (i+1) s'->Ok (next s') Q)->Ok (body next x i s) Q):Ok (Ah done body l 0 s0) Q:=by
 have key :∀(t:List α) (i:Nat) (s:σ),(∃p,l=p++t/\p.length=i)->I i s->Ok (Ah done body t i s) Q:=by
  intro t
  induction t with
  | nil=>intro i s ⟨p,hp,hl⟩ hi;exact hd s (by rw[hp];simpa[hl] using hi)
  | cons x t ih=>
   intro i s ⟨p,hp,hl⟩ hi
   exact hs _ x i s (by rw[hp,<- hl];simp) hi fun s' h'=>ih (i+1) s' ⟨p++[x],by simp[hp],by simp[hl]⟩ h'
 exact key l 0 s0 ⟨[],rfl,rfl⟩ h0
theorem Ok.forI {α σ ρ:Type}{done:σ->Option ρ}{body:(σ->Option ρ)->α->Nat->σ->Option ρ}{Q:ρ->Prop}{l:List α}{s0:σ}(I:Nat->σ->Prop)(h0:I 0 s0)(hd :∀s,I l.length s->Ok (done s) Q)
  (hs :∀(next:σ->Option ρ) x i s,i<l.length->x∈l->I i s->(∀s',I (i+1) s'->Ok (next s') Q)->Ok (body next x i s) Q):Ok (Ah done body l 0 s0) Q:=
 .forX I h0 hd fun n x i s hx=>hs n x i s (X16.1 hx).1 (List.mem_of_getElem? hx)
theorem Ok.for_ {α σ ρ:Type}{done:σ->Option ρ}{body:(σ->Option ρ)->α->Nat->σ->Option ρ}{Q:ρ->Prop}{l:List α}{s0:σ}(hd :∀s,Ok (done s) Q)
  (hs :∀(next:σ->Option ρ) x i s,i<l.length->x∈l->(∀s',Ok (next s') Q)->Ok (body next x i s) Q):Ok (Ah done body l 0 s0) Q:=
 .forI (fun _ _=>True) trivial (fun s _=>hd s) fun n x i s h1 h2 _ h3=>hs n x i s h1 h2 fun s'=>h3 s' trivial
theorem Ok.whileI {σ ρ:Type}{body:(σ->Option ρ)->σ->Option ρ}{n:Nat}{s:σ}{Q:ρ->Prop}(I:σ->Prop)(μ:σ->Nat)(h0:I s)(hm:μ s<n)
  (hs :∀(next:σ->Option ρ) s,I s->(∀s',I s'->μ s'<μ s->Ok (next s') Q)->Ok (body next s) Q):Ok (Cc body n s) Q:=
 N6 I μ Q (fun next s h k=>hs next s h k) n s h0 hm
theorem Ok.ite {ρ:Type}{p:Prop}[Decidable p]{x y:Option ρ}{Q:ρ->Prop}(h1:p->Ok x Q)(h2:¬ p->Ok y Q):Ok (if p then x else y) Q:=by
 split
 ·exact h1 ‹_›
 exact h2 ‹_›
theorem Ok.geti {α:Type}{l:List α}{i:Int}(h:0<=i/\i<l.length):Ok (geti l i) fun x=>x∈l/\geti l i=some x:=by
 have h2:i.toNat<l.length:=by omega
 have h3:Go.AX.geti l i=some l[i.toNat]:=by
  unfold Go.AX.geti
  rw[if_pos h]
  simp[h2]
 exact⟨_,h3,List.getElem_mem h2,h3⟩
theorem Ok.seti {α:Type}{l:List α}{i:Int}{x:α}(h:0<=i/\i<l.length):Ok (seti l i x) fun l'=>l'=l.set i.toNat x/\l'.length=l.length:=by
 refine⟨_,?_,rfl,by simp⟩
 unfold Go.AX.seti
 rw[if_pos h]
theorem Ok.apnd {α:Type}{b:Nat}{l m:List α}(hb:Nat.ble b 65536=true)(h:l.length+m.length<=1000000000):Ok (apnd b l m) fun l'=>l'=l++m:=⟨_,AY hb h,rfl⟩
theorem Ok.part {α:Type}{l:List α}{a b:Int}(h:0<=a/\a<=b/\b<=l.length):Ok (part l a b) fun l'=>l'=(l.drop a.toNat).take (b.toNat-a.toNat)/\(l'.length:Int)=b-a:=by
 refine⟨_,?_,rfl,by simp;omega⟩
 unfold Go.AX.part
 rw[if_pos h]
theorem Ok.chk {p:Prop}[Decidable p](h:p):Ok (chk p) fun _=>True:=by
 refine⟨(),?_,trivial⟩
 unfold Go.AX.chk
 rw[if_pos h]
theorem Tt.auto {ρ:Type}{m:Option ρ} (h:Ok m fun _=>True:=by
  repeat' (first
   | exact Ok.ret trivial
   | assumption
   | (refine Ok.bind Ok.of ?_;intros)
   | (refine Ok.ite ?_ ?_<;>intros)
   | (refine Ok.join (fun _=>True) ?_ ?_<;>intros)
   | (refine Ok.for_ ?_ ?_<;>intros)
   | (refine Ok.bind (Ok.geti ?_) ?_<;>intros)
   | (refine Ok.bind (Ok.chk ?_) ?_<;>intros)
   | exact ‹∀v,True->Ok _ _› _ trivial
   | exact ‹∀v,Ok _ _› _
   | solve_by_elim
   | (constructor<;>first | omega | (simp_all;done)|(simp_all;omega))
   | omega
   | decide)):Tt m:=h.tt
theorem Ok.q {ρ:Type}{m:Option ρ}{Q:ρ->Prop} (h:Ok m Q:=by
  repeat' (first
   | assumption
   | refine Ok.ret ?_
   | exact trivial
   | (refine Ok.bind Ok.of ?_;intros)
   | (refine Ok.ite ?_ ?_<;>intros)
   | (refine Ok.bind (Ok.chk ?_) ?_<;>intros)
   | (refine Ok.bind (Ok.geti ?_) ?_<;>intros)
   | (refine Ok.bind (Ok.seti ?_) ?_<;>intros)
   | (refine Ok.bind (Ok.apnd (by decide) ?_) ?_<;>intros)
   | refine ‹∀v,_->_->Ok _ _› _ ?_ ?_
   | refine ‹∀v,_->Ok _ _› _ ?_
   | exact ‹∀v,Ok _ _› _
   | (refine Ok.join (τ:=Bool) (fun _=>True) ?_ ?_<;>intros)
   | (refine Ok.join (τ:=Unit) (fun _=>True) ?_ ?_<;>intros)
   | omega
   | solve_by_elim
   | (simp_all;done)
   | (simp_all;omega)
   | (simp only[X11,X12,X13,X21,decide_eq_true_eq,beq_iff_eq,bne_iff_ne,Bool.not_eq_true'] at *;(try subst_vars);(try simp only[X11,X12,X13]);omega))):Ok m Q:=h
end Go.AX
end
section
namespace Go.AX
theorem XF {α ρ:Type}{g:α->Bool}{body:(Unit->Option ρ)->α->Nat->Unit->Option ρ}{K:Unit->Option ρ}{r0:Option ρ} :
  ∀{l:List α} {i:Nat},(∀next x i,x∈l->body next x i ()=cond (g x) (next ()) r0)->Ah K body l i ()=cond (l.all g) (K ()) r0
 | [],_,_=>rfl
 | x::t,i,h=>by
  show body (fun s=>Ah K body t (i+1) s) x i ()=_
  rw[h _ x i (by simp),List.all_cons]
  cases g x
  ·rfl
  exact XF fun next y j hy=>h next y j (X19 _ hy)
theorem Xo {α:Type}{f:α->Option Bool}{q:α->Bool} :∀{l:List α} {i:Nat},(∀x∈l,f x=some (q x))->
  Ah (fun _=>some (-1)) (fun next x i _=>Option.bind (f x) fun v=>if v then some (i:Int) else next ()) l i ()=some (match l.findIdx? q with | some j=>((i+j:Nat):Int)|none=>-1)
 | [],_,_=>rfl
 | x::t,i,h=>by
  show Option.bind (f x) (fun v=>if v then some (i:Int) else Ah (fun _=>some (-1)) _ t (i+1) ())=_
  rw[h x (by simp),AA,List.findIdx?_cons]
  by_cases hq:q x=true
  ·rw[if_pos hq,if_pos hq];simp
  rw[if_neg hq,if_neg hq,Xo fun y hy=>h y (X19 _ hy)]
  cases t.findIdx? q with
  | none=>rfl
  | some j=>simp only[Option.map_some];rw[show i+1+j=i+(j+1) by omega]
theorem XW {α:Type}{f:α->Option Bool}{q:α->Bool}{l:List α}(h :∀x∈l,f x=some (q x)) :
  (Option.bind (AH (τ:=Unit) (fun k1=>Ah (fun _=>k1 ()) (fun next x i _=>Option.bind (f x) fun v=>if v then some (i:Int) else next ()) l 0 ()) fun _=>some (-1)) fun v1=>some (decide (v1 ≥ 0)))=some (l.any q):=by
 rw[AG,Xo h,AA]
 congr 1
 cases hf:l.findIdx? q with
 | none=>
  have:l.any q=false:=by
   rw[List.findIdx?_eq_none_iff] at hf
   simp only[List.any_eq_false]
   intro x hx
   simp[hf x hx]
  rw[this];rfl
 | some j=>
  have h1:=List.findIdx?_eq_some_iff_getElem.1 hf
  obtain⟨hj,hq,_⟩:=h1
  have:l.any q=true:=List.any_eq_true.2 ⟨_,List.getElem_mem hj,hq⟩
  rw[this]
  simp
theorem Oh {a b:ByteArray}(h:(a==b)=true):a=b:=(Go.MapKept.bytes_beq a b).1 h
theorem WE {a:ByteArray}:(a==a)=true:=(Go.MapKept.bytes_beq a a).2 rfl
instance:LawfulBEq ByteArray:={ eq_of_beq:=Oh,rfl:=WE }
section
variable {K V:Type} [BEq K] [LawfulBEq K]
theorem mget_mset (l:List (K×V))(k:K)(v:V)(k':K):B8 (M4 l k v) k'=if k'==k then some v else B8 l k':=by
 induction l with
 | nil=>
  unfold M4
  simp only[B8]
 | cons p l ih=>
  unfold M4
  by_cases hp:(k==p.1)=true
  ·rw[if_pos hp]
   have:=eq_of_beq hp
   simp only[B8]
   by_cases hk:(k'==k)=true
   ·rw[if_pos hk,if_pos hk]
   rw[if_neg hk,if_neg hk,if_neg (by rw[<- this];exact hk)]
  rw[if_neg hp]
  simp only[B8,ih]
  by_cases hk:(k'==k)=true
  ·have:=eq_of_beq hk
   subst this
   rw[if_neg hp,if_pos hk,if_pos hk]
  rw[if_neg hk,if_neg hk]
end
theorem GB {α:Type}(p:α->Bool)(l:List α):(l.takeWhile p).length<=l.length:=(List.takeWhile_prefix p).length_le
theorem Ig {α:Type}{p:α->Bool} :∀{l:List α} {k:Nat} (hk:k<l.length),k<=(l.takeWhile p).length->(k<(l.takeWhile p).length↔p l[k]=true)
 | [],_,hk,_=>by simp at hk
 | x::t,k,hk,h=>by
  rw[List.takeWhile_cons] at h ⊢
  by_cases hp:p x=true
  ·rw[if_pos hp] at h ⊢
   cases k with
   | zero=>simp[hp]
   | succ k=>simpa using Ig (p:=p) (l:=t) (k:=k) (by simpa using hk) (by simpa using h)
  rw[if_neg hp] at h ⊢
  have:k=0:=by simpa using h
  subst this
  simp[hp]
theorem YW {α ρ:Type}{l:List α}{p:α->Bool}(g:α->(Bool->Option ρ)->Option ρ){K:Int->Option ρ}(hl:l.length<=1000000000000)(hg :∀x∈l,∀k,g x k=k (p x)) :
  AH (fun k1=>Cc (fun next v=>AH (fun k2=>if decide (v<(l.length:Int)) then Option.bind (geti l v) fun x=>g x k2 else k2 false) (fun c=>if c=true then next (AT (v+1)) else k1 v)) fuel 0) K=K ((l.takeWhile p).length:Int):=by
 have ht:=GB p l
 rw[AG,EI (fun v:Int=>0<=v/\v<=((l.takeWhile p).length:Int)) (fun v=>(l.length-v).toNat) (fun _=>K ((l.takeWhile p).length:Int)) ?_ fuel 0 (by omega) (Et (by omega))]
 intro next v hv hn
 obtain⟨k,rfl⟩ :∃k:Nat,v=k:=⟨v.toNat,by omega⟩
 rw[AG]
 by_cases hk:k<l.length
 ·rw[if_pos (by simpa using hk),CV hk,AA,hg _ (List.getElem_mem hk)]
  have h:=Ig (p:=p) hk (by omega)
  by_cases hp:p l[k]=true
  ·rw[if_pos hp,AZ (by omega)]
   have:=h.2 hp
   exact hn _ (by omega) (by omega)
  rw[if_neg hp]
  have:¬ k<(l.takeWhile p).length:=fun q=>hp (h.1 q)
  have:k=(l.takeWhile p).length:=by omega
  rw[this]
 rw[if_neg (by simpa using hk)]
 have:k=(l.takeWhile p).length:=by omega
 subst this
 rfl
theorem NU {α:Type}[DecidableEq α] :∀{l m:List α},l.Nodup->(∀x∈l,x∈m)->l.length<=m.length
 | [],_,_,_=>Nat.zero_le _
 | x::t,m,h,hs=>by
  obtain⟨h1,h2⟩:=List.nodup_cons.1 h
  have hx:=hs x (by simp)
  have:=NU (m:=m.erase x) h2 fun y hy=>(List.mem_erase_of_ne (fun e=>h1 (by rw[<- e];exact hy))).2 (hs y (X19 _ hy))
  rw[List.length_erase_of_mem hx] at this
  have:0<m.length:=List.length_pos_of_mem hx
  simp only[X12]
  omega
theorem Lm {α:Type}{lt:α->α->Prop}(hirr :∀a,¬ lt a a)(htr :∀a b c,lt a b->lt b c->lt a c) :∀{l m:List α},l.Pairwise lt->m.Pairwise lt->(∀x,x∈l↔x∈m)->l=m
 | [],[],_,_,_=>rfl
 | [],y::m,_,_,h=>by have:=(h y).2 (by simp);simp at this
 | x::l,[],_,_,h=>by have:=(h x).1 (by simp);simp at this
 | x::l,y::m,h1,h2,h=>by
  obtain⟨a1,a2⟩:=List.pairwise_cons.1 h1
  obtain⟨b1,b2⟩:=List.pairwise_cons.1 h2
  have hxy:x=y:=by
   rcases List.mem_cons.1 ((h x).1 (by simp)) with e | e
   ·exact e
   rcases List.mem_cons.1 ((h y).2 (by simp)) with e' | e'
   ·exact e'.symm
   exact absurd (htr _ _ _ (a1 y e') (b1 x e)) (hirr x)
  subst hxy
  congr 1
  refine Lm hirr htr a2 b2 fun z=>?_
  constructor
  ·intro hz
   rcases List.mem_cons.1 ((h z).1 (X19 _ hz)) with e | e
   ·subst e;exact absurd (a1 z hz) (hirr z)
   exact e
  intro hz
  rcases List.mem_cons.1 ((h z).2 (X19 _ hz)) with e | e
  ·subst e;exact absurd (b1 z hz) (hirr z)
  exact e
def G7 {α:Type}(lt:α->α->Bool)(l:List α)(x:α):List α:=l.takeWhile (lt · x)++x::l.dropWhile (lt · x)
theorem Fp {α:Type}{lt:α->α->Bool}{l:List α}{x y:α}:y∈G7 lt l x↔y∈l\/y=x:=by
 unfold G7
 have:y∈l↔y∈l.takeWhile (lt · x)\/y∈l.dropWhile (lt · x):=by
  rw[<- X23,List.takeWhile_append_dropWhile]
 rw[this,X23,List.mem_cons]
 constructor
 ·rintro (h | h | h)
  ·exact .inl (.inl h)
  ·exact .inr h
  exact .inl (.inr h)
 rintro ((h | h)|h)
 ·exact .inl h
 ·exact .inr (.inr h)
 exact .inr (.inl h)
theorem JM {α:Type}(lt:α->α->Bool)(l:List α)(x:α):(G7 lt l x).length=l.length+1:=by
 unfold G7
 have:=congrArg List.length (List.takeWhile_append_dropWhile (p:=(lt · x)) (l:=l))
 simp only[X11,X12] at this ⊢
 omega
theorem Fb {α:Type}(p:α->Bool){l:List α}{x:α}(h:x∈l.takeWhile p):p x=true:=by
 induction l with
 | nil=>simp at h
 | cons y t ih=>
  rw[List.takeWhile_cons] at h
  split at h
  ·rcases List.mem_cons.1 h with rfl | h
   ·assumption
   exact ih h
  simp at h
theorem KG {α:Type}{lt:α->α->Bool}(htr :∀a b c,lt a b=true->lt b c=true->lt a c=true)(htot :∀a b,lt a b=false->a=b\/lt b a=true){l:List α}{x:α}(h:l.Pairwise fun a b=>lt a b=true)(hx:x∉l) :
  (G7 lt l x).Pairwise fun a b=>lt a b=true:=by
 have h0:=h
 rw[<- List.takeWhile_append_dropWhile (p:=(lt · x)) (l:=l),List.pairwise_append] at h
 obtain⟨h1,h2,h3⟩:=h
 have hd :∀b∈l.dropWhile (lt · x),lt x b=true:=by
  cases hl:l.dropWhile (lt · x) with
  | nil=>intro b hb;simp at hb
  | cons y t=>
   have hy:lt y x=false:=by
    have:=List.head?_dropWhile_not (lt · x) l
    rw[hl] at this
    simpa using this
   have hyl:y∈l:=by
    have:y∈l.dropWhile (lt · x):=by rw[hl];simp
    exact List.dropWhile_subset _ this
   have hxy:lt x y=true:=by
    rcases htot _ _ hy with e | e
    ·subst e;exact absurd hyl hx
    exact e
   rw[hl] at h2
   intro b hb
   rcases List.mem_cons.1 hb with rfl | hb
   ·exact hxy
   exact htr _ _ _ hxy ((List.pairwise_cons.1 h2).1 b hb)
 unfold G7
 rw[List.pairwise_append]
 refine⟨h1,List.pairwise_cons.2 ⟨hd,h2⟩,fun a ha b hb=>?_⟩
 rcases List.mem_cons.1 hb with e | hb
 ·rw[e];exact Fb (lt · x) ha
 exact h3 a ha b hb
theorem takeWhile_take {α:Type}(p:α->Bool)(l:List α):l.take (l.takeWhile p).length=l.takeWhile p/\l.drop (l.takeWhile p).length=l.dropWhile p:=by
 have h:=List.takeWhile_append_dropWhile (p:=p) (l:=l)
 constructor
 ·conv=>lhs;arg 2;rw[<- h]
  rw[List.take_left']
  rfl
 conv=>lhs;arg 2;rw[<- h]
 rw[List.drop_left']
 rfl
end Go.AX
end
section
namespace Go.AX
def UU (a b:Int):Int:=if a<b then -1 else if b<a then 1 else 0
def orI:List Int->Int
 | []=>0
 | x::t=>if x=0 then orI t else x
def Dx:List Int->List Int->Int
 | x::s,y::t=>if x<y then -1 else if y<x then 1 else Dx s t
 | _,_=>0
theorem PO (x:Int)(t:List Int):orI (x::t)=if x=0 then orI t else x:=rfl
theorem I0 (x y:Int)(t:List Int):orI (UU x y::t)=if x<y then -1 else if y<x then 1 else orI t:=by
 rw[PO]
 unfold UU
 split
 ·rfl
 split<;>simp
theorem Tm (x y:Int)(s t:List Int):Dx (x::s) (y::t)=if x<y then -1 else if y<x then 1 else Dx s t:=rfl
theorem VO:Dx [] []=0:=rfl
theorem OF :∀a:List Int,Dx a a=0
 | []=>rfl
 | x::t=>by unfold Dx;simp[OF t]
theorem OI :∀{a b:List Int},a.length=b.length->Dx a b=0->a=b
 | [],[],_,_=>rfl
 | [],_::_,h,_=>by simp at h
 | _::_,[],h,_=>by simp at h
 | x::s,y::t,h,e=>by
  unfold Dx at e
  split at e
  ·simp at e
  split at e
  ·simp at e
  rw[OI (by simpa using h) e,show x=y by omega]
theorem PK :∀a b:List Int,Dx b a=- Dx a b
 | [],[]=>rfl
 | [],_::_=>rfl
 | _::_,[]=>rfl
 | x::s,y::t=>by
  unfold Dx
  have:=PK s t
  split<;>split<;>first | omega | (split<;>omega)
theorem Rw :∀{a b c:List Int},a.length=b.length->b.length=c.length->Dx a b<0->Dx b c<0->Dx a c<0
 | [],_,_,_,_,h,_=>by simp[Dx] at h
 | _::_,[],_,h,_,_,_=>by simp at h
 | _::_,_::_,[],_,h,_,_=>by simp at h
 | x::s,y::t,z::u,h1,h2,h3,h4=>by
  have ih:=@Rw s t u (by simpa using h1) (by simpa using h2)
  unfold Dx at h3 h4 ⊢
  by_cases a1:x<y
  ·by_cases a2:y<z
   ·rw[if_pos (by omega)];omega
   rw[if_neg a2] at h4
   by_cases a3:z<y
   ·rw[if_pos a3] at h4;omega
   rw[if_pos (by omega)];omega
  rw[if_neg a1] at h3
  by_cases a4:y<x
  ·rw[if_pos a4] at h3;omega
  rw[if_neg a4] at h3
  have:x=y:=by omega
  subst this
  by_cases a2:x<z
  ·rw[if_pos a2];omega
  rw[if_neg a2] at h4 ⊢
  by_cases a3:z<x
  ·rw[if_pos a3] at h4;omega
  rw[if_neg a3] at h4 ⊢
  exact ih h3 h4
section
variable {X:Type} {key:X->List Int}
def ltK (key:X->List Int)(a b:X):Bool:=decide (Dx (key a) (key b)<0)
theorem O5 (a:X):ltK key a a=false:=by unfold ltK;rw[OF];rfl
theorem Jt (hl :∀a b:X,(key a).length=(key b).length)(a b c:X)(h1:ltK key a b=true)(h2:ltK key b c=true):ltK key a c=true:=by
 unfold ltK at *
 simp only[decide_eq_true_eq] at *
 exact Rw (hl _ _) (hl _ _) h1 h2
theorem I7 (hl :∀a b:X,(key a).length=(key b).length)(a b:X)(h:ltK key a b=false):key a=key b\/ltK key b a=true:=by
 unfold ltK at *
 simp only[decide_eq_false_iff_not,decide_eq_true_eq] at *
 have:=PK (key a) (key b)
 by_cases h0:Dx (key a) (key b)=0
 ·exact .inl (OI (hl _ _) h0)
 exact .inr (by omega)
theorem QO (hl :∀a b:X,(key a).length=(key b).length)(a b:X)(h:ltK key a b=true):ltK key b a=false:=by
 cases h1:ltK key b a
 ·rfl
 have:=Jt hl _ _ _ h h1
 rw[O5] at this;simp at this
theorem VW (hl :∀a b:X,(key a).length=(key b).length)(a b c:X)(h1:ltK key a b=false)(h2:ltK key b c=false):ltK key a c=false:=by
 rcases I7 hl _ _ h1 with e | h1
 ·unfold ltK at *;rw[e];exact h2
 rcases I7 hl _ _ h2 with e | h2
 ·refine QO hl _ _ ?_
  unfold ltK at *;rw[<- e];exact h1
 exact QO hl _ _ (Jt hl _ _ _ h2 h1)
variable {cmp:X->X->Option Int}
theorem SX (hc :∀a b,cmp a b=some (Dx (key a) (key b)))(a b:X):ltC cmp a b=ltK key a b:=by unfold ltC;rw[hc];rfl
theorem R2 (hl :∀a b:X,(key a).length=(key b).length)(hc :∀a b,cmp a b=some (Dx (key a) (key b))){l:List X}(hn:l.length<=1000000000) :
  Ok (D9 cmp l) fun r=>r.Perm l/\r.Pairwise fun a b=>ltK key b a=false:=by
 obtain⟨r,hr⟩:=Q4 (cmp:=cmp) (l:=l) (VU (fun a _ b _=>⟨_,hc a b⟩) (fun a _=>by rw[SX hc,O5])
  (fun a _ b _ c _ h1 h2=>by rw[SX hc] at *;exact Jt hl _ _ _ h1 h2) (fun a _ b _ c _ h1 h2=>by rw[SX hc] at *;exact VW hl _ _ _ h1 h2) hn)
 obtain⟨h1,h2⟩:=Ib hr
 exact⟨r,hr,h1,h2.imp fun h=>by rw[SX hc] at h;exact h⟩
theorem OG {l:List X}(hl :∀a b:X,(key a).length=(key b).length)(h1:l.Pairwise fun a b=>ltK key b a=false)(h2:l.Pairwise fun a b=>key a≠key b):l.Pairwise fun a b=>ltK key a b=true:=
 (h1.and h2).imp fun {a b} h=>(I7 hl b a h.1).resolve_left fun e=>h.2 e.symm
theorem SQ (hl :∀a b:X,(key a).length=(key b).length){l m:List X}(h1:l.Pairwise fun a b=>ltK key a b=true)(h2:m.Pairwise fun a b=>ltK key a b=true)(h :∀x,x∈l↔x∈m):l=m:=
 Lm (lt:=fun a b=>ltK key a b=true) (fun a h=>by rw[O5] at h;simp at h) (fun a b c=>Jt hl a b c) h1 h2 h
end
theorem VK {α:Type}{lt:α->α->Bool}(htr :∀a b c,lt a b=true->lt b c=true->lt a c=true)(hirr :∀a,lt a a=false){l:List α}{x:α}(hs:l.Pairwise fun a b=>lt a b=true) :
  x∈l↔l[(l.takeWhile (lt · x)).length]?=some x:=by
 constructor
 ·intro hx
  rw[<- List.takeWhile_append_dropWhile (p:=(lt · x)) (l:=l),X23] at hx
  rcases hx with hx | hx
  ·have:=Fb (lt · x) hx
   rw[hirr] at this
   simp at this
  have h2:=(takeWhile_take (lt · x) l).2
  cases hd:l.dropWhile (lt · x) with
  | nil=>rw[hd] at hx;simp at hx
  | cons y t=>
   have hy:lt y x=false:=by
    have:=List.head?_dropWhile_not (lt · x) l
    rw[hd] at this
    simpa using this
   have hp:(y::t).Pairwise fun a b=>lt a b=true:=by
    rw[<- hd]
    exact hs.sublist (List.dropWhile_sublist _)
   rw[hd] at hx
   have hxy:x=y:=by
    rcases List.mem_cons.1 hx with e | e
    ·exact e
    have:=(List.pairwise_cons.1 hp).1 x e
    rw[hy] at this;simp at this
   have h3:(l.drop (l.takeWhile (lt · x)).length)[0]?=some x:=by rw[h2,hd,hxy];rfl
   rw[List.getElem?_drop] at h3
   simpa using h3
 intro h
 exact List.mem_of_getElem? h
section
variable {α:Type} {lt:α->α->Bool} (hirr :∀a,lt a a=false) (htr :∀a b c,lt a b=true->lt b c=true->lt a c=true) (htot :∀a b,lt a b=false->a=b\/lt b a=true)
include htr htot
include hirr
end
end Go.AX
end
section
namespace Go.AX
def Po {ρ:Type}(m:Option ρ)(Q:ρ->Prop):Prop:=∀r,m=some r->Q r
theorem Po.ret {ρ:Type}{Q:ρ->Prop}{r:ρ}(h:Q r):Po (some r) Q:=fun _ e=>X25 e ▸ h
theorem Po.imp {ρ:Type}{m:Option ρ}{P Q:ρ->Prop}(h:Po m P)(k :∀r,P r->Q r):Po m Q:=fun r e=>k r (h r e)
theorem Po.bind {α ρ:Type}{m:Option α}{f:α->Option ρ}{Q:ρ->Prop}(k :∀a,m=some a->Po (f a) Q):Po (Option.bind m f) Q:=by
 intro r e
 cases hm:m with
 | none=>rw[hm] at e;cases e
 | some a=>rw[hm] at e;exact k a hm r e
theorem Po.join {τ ρ:Type}{m:(τ->Option ρ)->Option ρ}{k:τ->Option ρ}{Q:ρ->Prop}(J:τ->Prop)(h1 :∀k',(∀v,J v->Po (k' v) Q)->Po (m k') Q)(h2 :∀v,J v->Po (k v) Q):Po (AH m k) Q:=h1 k h2
theorem Po.ite {ρ:Type}{p:Prop}[Decidable p]{x y:Option ρ}{Q:ρ->Prop}(h1:p->Po x Q)(h2:¬ p->Po y Q):Po (if p then x else y) Q:=by
 split
 ·exact h1 ‹_›
 exact h2 ‹_›
theorem Po.forX {α σ ρ:Type}{done:σ->Option ρ}{body:(σ->Option ρ)->α->Nat->σ->Option ρ}{Q:ρ->Prop}{l:List α}{s0:σ}(I:Nat->σ->Prop)(h0:I 0 s0)(hd :∀s,I l.length s->Po (done s) Q)
  (hs :∀(next:σ->Option ρ) x i s,l[i]?=some x->I i s->(∀s',I (i+1) s'->Po (next s') Q)->Po (body next x i s) Q):Po (Ah done body l 0 s0) Q:=by
 have key :∀(t:List α) (i:Nat) (s:σ),(∃p,l=p++t/\p.length=i)->I i s->Po (Ah done body t i s) Q:=by
  intro t
  induction t with
  | nil=>intro i s ⟨p,hp,hl⟩ hi;exact hd s (by rw[hp];simpa[hl] using hi)
  | cons x t ih=>
   intro i s ⟨p,hp,hl⟩ hi
   exact hs _ x i s (by rw[hp,<- hl];simp) hi fun s' h'=>ih (i+1) s' ⟨p++[x],by simp[hp],by simp[hl]⟩ h'
 exact key l 0 s0 ⟨[],rfl,rfl⟩ h0
theorem Po.for_ {α σ ρ:Type}{done:σ->Option ρ}{body:(σ->Option ρ)->α->Nat->σ->Option ρ}{Q:ρ->Prop}{l:List α}{s0:σ}(I:σ->Prop)(h0:I s0)(hd :∀s,I s->Po (done s) Q)
  (hs :∀(next:σ->Option ρ) x i s,x∈l->I s->(∀s',I s'->Po (next s') Q)->Po (body next x i s) Q):Po (Ah done body l 0 s0) Q:=
 .forX (fun _=>I) h0 hd fun n x i s hx=>hs n x i s (List.mem_of_getElem? hx)
theorem Po.apnd {α:Type}{b:Nat}{l m:List α}:Po (Go.AX.apnd b l m) fun r=>r=l++m:=by
 intro r e
 unfold Go.AX.apnd at e
 split at e
 ·exact (X25 e).symm
 cases e
theorem Po.geti {α:Type}{l:List α}{i:Int}:Po (Go.AX.geti l i) fun x=>0<=i/\l[i.toNat]?=some x:=by
 intro r e
 unfold Go.AX.geti at e
 split at e
 ·rename_i h
  exact⟨h.1,e⟩
 cases e
theorem Po.seti {α:Type}{l:List α}{i:Int}{x:α}:Po (Go.AX.seti l i x) fun r=>0<=i/\i.toNat<l.length/\r=l.set i.toNat x:=by
 intro r e
 unfold Go.AX.seti at e
 split at e
 ·rename_i h
  exact⟨h.1,by omega,(X25 e).symm⟩
 cases e
theorem Po.part {α:Type}{l:List α}{a b:Int}:Po (Go.AX.part l a b) fun r=>r=(l.drop a.toNat).take (b.toNat-a.toNat):=by
 intro r e
 unfold Go.AX.part at e
 split at e
 ·exact (X25 e).symm
 cases e
theorem Ok.and {ρ:Type}{m:Option ρ}{P Q:ρ->Prop}(h:Ok m P)(k:Po m Q):Ok m fun r=>P r/\Q r:=by
 obtain⟨r,h1,h2⟩:=h
 exact⟨r,h1,h2,k r h1⟩
theorem Po.sel {τ ρ:Type}{m:(τ->Option ρ)->Option ρ}{k:τ->Option ρ}{Q:ρ->Prop}(h1 :∀k',(∀v,Po (k' v) Q)->Po (m k') Q)(h2 :∀v,Po (k v) Q):Po (AH m k) Q:=h1 k h2
end Go.AX
end
section
namespace Go.AX.Q19
open Go Go.AX
def fl (t:Int):Int:=if t=1 then 64 else if t=2 then 64 else if t=3 then 64 else if t=4 then 128 else if t=5 then 64 else if t=8 then 192 else if t=32 then 192 else if t=35 then 192 else 0
def unk (t:Int):Bool:=decide (fl t=0)&&(decide (t≠14)&&decide (t≠15))
theorem Ih (t:Int):(B8 BE t).getD 0=fl t:=by
 unfold BE fl
 simp only[B8,beq_iff_eq]
 repeat' (split;· rfl)
 rfl
theorem HC (t:Int):(t=1/\fl t=64)\/(t=2/\fl t=64)\/(t=3/\fl t=64)\/(t=4/\fl t=128)\/(t=5/\fl t=64)\/(t=8/\fl t=192)\/(t=32/\fl t=192)\/(t=35/\fl t=192) \/
  (t≠1/\t≠2/\t≠3/\t≠4/\t≠5/\t≠8/\t≠32/\t≠35/\fl t=0):=by
 unfold fl
 by_cases h1:t=1<;>by_cases h2:t=2<;>by_cases h3:t=3<;>by_cases h4:t=4<;>by_cases h5:t=5<;>by_cases h6:t=8<;>by_cases h7:t=32<;>by_cases h8:t=35<;>first | (exfalso;omega)|simp[h1,h2,h3,h4,h5,h6,h7,h8]
theorem Ww (t:Int)(k:Bool->Option Bool):(if (fl t==0)=true then if (cond true (t != 14) false)=true then k (cond true (t != 15) false) else k false else k false)=k (unk t):=by
 have e1:(t != 14)=!decide (t=14):=rfl
 have e2:(t != 15)=!decide (t=15):=rfl
 unfold unk
 rw[e1,e2]
 by_cases h1:fl t=0<;>by_cases h2:t=14<;>by_cases h3:t=15<;>simp[h1,h2,h3]
theorem ER (t:Int):B7 t=some (unk t):=by
 unfold B7
 rw[AG,Ih,AA]
 exact Ww t some
theorem EB (a b c:Int):Au a b c=some (decide (b<=a)&&decide (a<=c)):=by
 unfold Au
 rw[AG]
 by_cases h:b<=a
 ·rw[if_pos (by simpa using h),decide_eq_true h];rfl
 rw[if_neg (by simpa using h),decide_eq_false h];rfl
theorem number_eq (a:Int):CX a=some (decide (1<=a)&&decide (a<=4294967295)):=by
 unfold CX
 rw[AG]
 by_cases h:1<=a
 ·rw[if_pos (by simpa using h),decide_eq_true h];rfl
 rw[if_neg (by simpa using h),decide_eq_false h];rfl
def bt (x m:Int):Int:=AT ((BitVec.ofInt 64 x &&& BitVec.ofInt 64 m).toNat:Int)
def W3 (x:YX):Bool:=bt x.Flags 192==fl x.Type_&&(fl x.Type_==192 || bt x.Flags 32==0)
def G8 (b:List UInt8):Int:=b.foldl (fun n x=>AT ((BitVec.ofInt 64 (AT (n*(2^(min (Int.toNat 8) 64)))) ||| BitVec.ofInt 64 (x.toNat:Int)).toNat:Int)) 0
theorem V0 {α σ ρ:Type}{K:σ->Option ρ}{g:σ->α->σ} :∀(l:List α) (i:Nat) (s:σ),Ah K (fun next x _ s=>next (g s x)) l i s=K (l.foldl g s)
 | [],_,_=>rfl
 | x::t,i,s=>V0 t (i+1) (g s x)
def val (l:List UInt8):Nat:=l.foldl (fun m x=>m*256+x.toNat) 0
theorem Ip (l:List UInt8)(x:UInt8):val (l++[x])=val l*256+x.toNat:=by simp[val]
theorem MO :∀l:List UInt8,val l<256^l.length:=by
 intro l
 rw[<- List.reverse_reverse l]
 generalize l.reverse=m
 induction m with
 | nil=>decide
 | cons x t ih=>
  rw[List.reverse_cons,Ip,X11,X22,Nat.pow_succ]
  have:=x.toNat_lt
  omega
theorem Qu {u v:Nat}(hu:u<36028797018963968)(hv:v<256):AT ((BitVec.ofInt 64 (AT ((u:Int)*(2^(min (Int.toNat 8) 64)))) ||| BitVec.ofInt 64 (v:Int)).toNat:Int)=((u*256+v:Nat):Int):=by
 have h1:((u:Int)*(2^(min (Int.toNat 8) 64)))=((u*256:Nat):Int):=by
  have:min (Int.toNat 8) 64=8:=rfl
  rw[this];omega
 rw[h1,AZ (x:=((u*256:Nat):Int)) (by omega),BitVec.ofInt_natCast,BitVec.ofInt_natCast,BitVec.toNat_or,BitVec.toNat_ofNat,BitVec.toNat_ofNat,Nat.mod_eq_of_lt (show u*256<2^64 by omega),Nat.mod_eq_of_lt (show v<2^64 by omega),
  show u*256=2^8*u by omega,<- Nat.two_pow_add_eq_or_of_lt (show v<2^8 by omega)]
 rw[AZ (by omega)]
theorem Kw :∀{l:List UInt8},l.length<=7->G8 l=(val l:Int):=by
 intro l
 rw[<- List.reverse_reverse l]
 generalize l.reverse=m
 induction m with
 | nil=>intro _;rfl
 | cons x t ih=>
  intro h
  rw[List.reverse_cons] at h ⊢
  simp only[X11,List.length_reverse,X22] at h
  unfold G8 at ih ⊢
  rw[List.foldl_append,ih (by simp;omega)]
  have h1:=MO t.reverse
  have h2:256^t.reverse.length<=256^6:=Nat.pow_le_pow_right (by omega) (by simp;omega)
  show AT _=_
  rw[Qu (by omega) x.toNat_lt,Ip]
def nums:List UInt8->List Int
 | a::b::c::d::t=>G8 [a,b,c,d]::nums t
 | _=>[]
theorem NN (a b c d:UInt8)(t:List UInt8):nums (a::b::c::d::t)=G8 [a,b,c,d]::nums t:=rfl
theorem ME :∀l:List UInt8,(nums l).length=l.length/4
 | a::b::c::d::t=>by
  rw[NN,X12,ME t]
  simp only[X12]
  omega
 | []=>rfl
 | [_]=>by simp[nums]
 | [_,_]=>by simp[nums]
 | [_,_,_]=>by simp[nums]
theorem Pj :∀(l:List UInt8),∀n∈nums l,0<=n/\n<=4294967295
 | a::b::c::d::t=>by
  rw[NN]
  intro n hn
  rcases List.mem_cons.1 hn with h | h
  ·have h1:=MO [a,b,c,d]
   rw[h,Kw (by simp)]
   simp only[X12,X13] at h1
   omega
  exact Pj t n h
 | []=>by intro n h;simp[nums] at h
 | [_]=>by intro n h;simp[nums] at h
 | [_,_]=>by intro n h;simp[nums] at h
 | [_,_,_]=>by intro n h;simp[nums] at h
def ltI (a b:Int):Bool:=decide (a<b)
theorem Rq (a:Int):ltI a a=false:=by simp[ltI]
theorem UQ (a b c:Int)(h1:ltI a b=true)(h2:ltI b c=true):ltI a c=true:=by simp only[ltI,decide_eq_true_eq] at *;omega
theorem VV (a b:Int)(h:ltI a b=false):a=b\/ltI b a=true:=by simp only[ltI,decide_eq_true_eq,decide_eq_false_iff_not] at *;omega
def Asc (l r:List Int):Prop:=r.Pairwise (fun a b=>ltI a b=true)/\∀x,x∈r↔x∈l
theorem Ju {l:List Int}(hl:l.length<=1000000):Ok (Gs l) (Asc l):=by
 unfold Gs
 refine .join (Asc l) (fun k hk=>?_) fun r hr=>.ret hr
 refine .forX (fun i v=>v.Pairwise (fun a b=>ltI a b=true)/\(∀x,x∈v↔x∈l.take i)/\v.length<=i) ⟨.nil,by simp,by simp⟩ (fun v hv=>hk v ⟨hv.1,by simpa using hv.2.1⟩) fun next x i v hx hI hn=>?_
 obtain⟨i1,i2,i3⟩:=hI
 have hil:=(X16.1 hx).1
 have hmt :∀y,y∈l.take (i+1)↔y∈l.take i\/y=x:=by
  intro y
  rw[List.take_add_one,hx]
  simp
 refine .join (fun v'=>v'.Pairwise (fun a b=>ltI a b=true)/\(∀x,x∈v'↔x∈l.take (i+1))/\v'.length<=i+1) (fun k6 hk6=>?_) fun v' h=>hn _ h
 have hpos:=GB (ltI · x) v
 rw[YW (p:=(ltI · x)) (fun y k4=>k4 (cond true (decide (y<x)) false)) (by omega) (fun y _ k=>rfl)]
 have hh:=VK UQ Rq (x:=x) i1
 obtain⟨t1,t2⟩:=takeWhile_take (ltI · x) v
 refine .join (fun c=>c=true↔x∈v) (fun k15 hk15=>?_) fun c hc=>.ite (fun h=>?_) fun h=>?_
 ·by_cases hk:(v.takeWhile (ltI · x)).length<v.length
  ·rw[if_pos (by simpa using hk),CV hk,AA]
   refine hk15 _ ?_
   rw[hh,X15 hk]
   simp only[cond_true,beq_iff_eq,X24]
  rw[if_neg (by simpa using hk)]
  refine hk15 _ ?_
  rw[hh,List.getElem?_eq_none (by omega)]
  simp
 ·refine hk6 _ ⟨i1,fun y=>?_,by omega⟩
  rw[hmt,i2 y]
  refine⟨.inl,fun q=>q.elim id fun e=>?_⟩
  rw[e];exact (i2 x).1 (hc.1 h)
 have hnx:x∉v:=fun q=>h (hc.2 q)
 simp only[Int.toNat_natCast,Int.toNat_zero,List.drop_zero,Nat.sub_zero]
 refine .bind (Ok.chk (by omega)) fun _ _=>.bind (Ok.apnd (by decide) (by simp;omega)) fun _ _=>.bind (Ok.apnd (by decide) (by simp;omega)) fun a ha=>.bind (Ok.chk (by omega)) fun _ _=>.bind (Ok.apnd (by decide) (by rw[ha];simp;omega)) fun b hb=>hk6 _ ?_
 have e:b=G7 ltI v x:=by
  have e2:(List.drop (v.takeWhile (ltI · x)).length v).take (v.length-(v.takeWhile (ltI · x)).length)=v.dropWhile (ltI · x):=by
   rw[List.take_of_length_le (by simp),t2]
  rw[hb,ha,e2,t1]
  unfold G7
  simp
 rw[e]
 refine⟨KG UQ VV i1 hnx,fun y=>?_,by rw[JM];omega⟩
 rw[Fp,hmt,i2]
def srt (l:List Int):List Int:=(Gs l).getD []
theorem VR {l:List Int}(hl:l.length<=1000000):Asc l (srt l):=by
 obtain⟨r,h,k⟩:=Ju hl
 unfold srt;rw[h];exact k
def O2 (p:List Yd)(set:Bool)(l:List Int):List Yd:=
 if set then p++[⟨true,srt l⟩] else match p.getLast? with
  | some s=>if s.Set then p++[⟨false,l⟩] else p.dropLast++[⟨false,s.ASNs++l⟩]
  | none=>[⟨false,l⟩]
def L9:Nat->List UInt8->List Yd->Option (List Yd)
 | _,[],p=>some p
 | n+1,k::c::t,p=>if (k.toNat≠1/\k.toNat≠2)\/c.toNat=0\/t.length<4*c.toNat then none else L9 n (t.drop (4*c.toNat)) (O2 p (k.toNat==1) (nums (t.take (4*c.toNat))))
 | _,_,_=>none
theorem TV (n:Nat)(p:List Yd):L9 n [] p=some p:=by cases n<;>rfl
def rdL (b:List UInt8)(p:List Yd):Option (List Yd):=L9 b.length b p
theorem Wx {x:UInt8}{t:List UInt8}:geti (x::t) 0=some x:=CV (l:=x::t) (i:=0) (by simp)
theorem W0 {x y:UInt8}{t:List UInt8}:geti (x::y::t) 1=some y:=CV (l:=x::y::t) (i:=1) (by simp)
theorem Ve {l:List Int}(hl:l.length<=1000000):(srt l).length<=l.length:=by
 obtain⟨h1,h2⟩:=VR hl
 refine NU (h1.imp fun {a b} h e=>?_) fun x hx=>(h2 x).1 hx
 subst e
 rw[Rq] at h;simp at h
end Go.AX.Q19
end
section
namespace Go.AX
section
variable {α ρ:Type}
def chainB (lt:α->α->Bool):List α->Bool
 | x::y::t=>lt x y&&chainB lt (y::t)
 | _=>true
theorem HS (lt:α->α->Bool)(x y:α)(t:List α):chainB lt (x::y::t)=(lt x y&&chainB lt (y::t)):=rfl
theorem LR (lt:α->α->Bool)(x:α):chainB lt [x]=true:=rfl
theorem Hy {lt:α->α->Bool}(htr :∀a b c,lt a b=true->lt b c=true->lt a c=true) :∀{l:List α},chainB lt l=true↔l.Pairwise fun a b=>lt a b=true
 | []=>by simp[chainB]
 | [x]=>by simp[chainB]
 | x::y::t=>by
  rw[HS,X27,Hy htr (l:=y::t),List.pairwise_cons (a:=x)]
  constructor
  ·rintro⟨h1,h2⟩
   refine⟨fun z hz=>?_,h2⟩
   rcases List.mem_cons.1 hz with e | hz
   ·rw[e];exact h1
   exact htr _ _ _ h1 ((List.pairwise_cons.1 h2).1 z hz)
  rintro⟨h1,h2⟩
  exact⟨h1 y (by simp),h2⟩
theorem WG {ok:α->Bool}{lt:α->α->Bool}{l:List α}{K:Unit->Option ρ}{F:Option ρ}{body:(Unit->Option ρ)->α->Nat->Unit->Option ρ}(hl:l.length<=1000000000000)
  (h0 :∀next x,x∈l->body next x 0 ()=if ok x then next () else F)
  (h1 :∀next x y i,x∈l->y∈l->geti l (AT (((i+1:Nat):Int)-1))=some y->body next x (i+1) ()=if ok x&&lt y x then next () else F) :
  Ah K body l 0 ()=if l.all ok&&chainB lt l then K () else F:=by
 have key :∀(t p:List α) (y:α),l=p++y::t->Ah K body t (p.length+1) ()=if t.all ok&&chainB lt (y::t) then K () else F:=by
  intro t
  induction t with
  | nil=>intro p y _;rw[LR];rfl
  | cons x t ih=>
   intro p y e
   show body (fun s=>Ah K body t (p.length+1+1) s) x (p.length+1) ()=_
   have hlen:p.length<l.length:=by rw[e];simp
   rw[h1 _ x y p.length (by rw[e];simp) (by rw[e];simp) (by
    rw[AZ (by omega),show ((p.length+1:Nat):Int)-1=(p.length:Int) by omega,e]
    exact OR p y (x::t))]
   have:=ih (p++[y]) x (by rw[e];simp)
   rw[X11,X22] at this
   rw[this,HS,List.all_cons]
   generalize chainB lt (x::t)=c1
   generalize t.all ok=c2
   cases ok x<;>cases lt y x<;>cases c1<;>cases c2<;>rfl
 match l,h0,h1,key with
 | [],_,_,_=>rfl
 | x::t,h0,_,key=>
  show body (fun s=>Ah K body t (0+1) s) x 0 ()=_
  rw[h0 _ x (by simp)]
  have:=key t [] x rfl
  rw[X13] at this
  rw[this,List.all_cons]
  generalize chainB lt (x::t)=c1
  generalize t.all ok=c2
  cases ok x<;>cases c1<;>cases c2<;>rfl
theorem Xf {σ:Type}{g:σ->α->σ}{ok:α->Bool}{lt:α->α->Bool}{l:List α}{s0:σ}{K:σ->Option ρ}{F:Option ρ}{body:(σ->Option ρ)->α->Nat->σ->Option ρ}(hl:l.length<=1000000000000)
  (h0 :∀next x s,x∈l->body next x 0 s=if ok x then next (g s x) else F)
  (h1 :∀next x y i s,x∈l->y∈l->geti l (AT (((i+1:Nat):Int)-1))=some y->body next x (i+1) s=if ok x&&lt y x then next (g s x) else F) :
  Ah K body l 0 s0=if l.all ok&&chainB lt l then K (l.foldl g s0) else F:=by
 have key :∀(t p:List α) (y:α) (s:σ),l=p++y::t->Ah K body t (p.length+1) s=if t.all ok&&chainB lt (y::t) then K (t.foldl g s) else F:=by
  intro t
  induction t with
  | nil=>intro p y s _;rw[LR];rfl
  | cons x t ih=>
   intro p y s e
   show body (fun s=>Ah K body t (p.length+1+1) s) x (p.length+1) s=_
   have hlen:p.length<l.length:=by rw[e];simp
   rw[h1 _ x y p.length s (by rw[e];simp) (by rw[e];simp) (by
    rw[AZ (by omega),show ((p.length+1:Nat):Int)-1=(p.length:Int) by omega,e]
    exact OR p y (x::t))]
   have:=ih (p++[y]) x (g s x) (by rw[e];simp)
   rw[X11,X22] at this
   rw[this,HS,List.all_cons,List.foldl_cons]
   generalize chainB lt (x::t)=c1
   generalize t.all ok=c2
   cases ok x<;>cases lt y x<;>cases c1<;>cases c2<;>rfl
 match l,h0,h1,key with
 | [],_,_,_=>rfl
 | x::t,h0,_,key=>
  show body (fun s=>Ah K body t (0+1) s) x 0 s0=_
  rw[h0 _ x s0 (by simp)]
  have:=key t [] x (g s0 x) rfl
  rw[X13] at this
  rw[this,List.all_cons,List.foldl_cons]
  generalize chainB lt (x::t)=c1
  generalize t.all ok=c2
  cases ok x<;>cases c1<;>cases c2<;>rfl
theorem Td {β:Type}{g:β->List α}{N:Nat}{body:(List α->Option ρ)->β->Nat->List α->Option ρ}{K:List α->Option ρ} :∀{l:List β} {i:Nat} {v:List α},v.length+(l.flatMap g).length<=N->
  (∀next x i v,x∈l->v.length+(g x).length<=N->body next x i v=next (v++g x))->Ah K body l i v=K (v++l.flatMap g)
 | [],i,v,_,_=>by rw[List.flatMap_nil,List.append_nil];rfl
 | x::t,i,v,h,hb=>by
  rw[List.flatMap_cons,X11] at h
  show body (fun s=>Ah K body t (i+1) s) x i v=_
  rw[hb _ x i v (by simp) (by omega),Td (l:=t) (by rw[X11];omega) fun next y j w hy hw=>hb next y j w (X19 _ hy) hw,List.flatMap_cons,List.append_assoc]
def canon (e lt:α->α->Bool)(l:List α):List α:=l.foldl (fun acc x=>if acc.any (fun y=>e y x) then acc else G7 lt acc x) []
theorem RU (e lt:α->α->Bool)(l:List α)(x:α):canon e lt (l++[x])=if (canon e lt l).any (fun y=>e y x) then canon e lt l else G7 lt (canon e lt l) x:=by
 unfold canon
 rw[List.foldl_append]
 rfl
theorem MA {e lt:α->α->Bool}(he :∀a b,e a b=true↔a=b)(htr :∀a b c,lt a b=true->lt b c=true->lt a c=true)(htot :∀a b,lt a b=false->a=b\/lt b a=true)(l:List α) :
  (canon e lt l).Pairwise (fun a b=>lt a b=true)/\(∀x,x∈canon e lt l↔x∈l)/\(canon e lt l).length<=l.length:=by
 rw[<- List.reverse_reverse l]
 generalize l.reverse=m
 induction m with
 | nil=>exact⟨.nil,by simp[canon],by simp[canon]⟩
 | cons x t ih=>
  obtain⟨h1,h2,h3⟩:=ih
  rw[List.reverse_cons,RU]
  by_cases hx:(canon e lt t.reverse).any (fun y=>e y x)=true
  ·rw[if_pos hx]
   obtain⟨y,hy,hyx⟩:=List.any_eq_true.1 hx
   have:=(he _ _).1 hyx
   subst this
   refine⟨h1,fun z=>?_,by simp only[X11];omega⟩
   rw[X23,h2 z,X14]
   refine⟨.inl,fun q=>q.elim id fun e=>?_⟩
   rw[e];exact (h2 _).1 hy
  rw[if_neg hx]
  have hx:x∉canon e lt t.reverse:=fun q=>hx (List.any_eq_true.2 ⟨x,q,(he _ _).2 rfl⟩)
  refine⟨KG htr htot h1 hx,fun z=>?_,by rw[JM];simp only[X11,X22];omega⟩
  rw[Fp,X23,h2 z,X14]
end
end Go.AX
end
section
namespace Go.AX.Q19
open Go Go.AX
theorem H6 (a b:Int):cmp_Compare_int a b=some (UU a b):=by
 unfold cmp_Compare_int cmp_isNaN_int UU
 simp only[AA,bne_self_eq_false,Bool.false_eq_true,if_false,decide_eq_true_eq,gt_iff_lt]
 split<;>(try split)<;>rfl
theorem UC (l:List Int):EE l=some (orI l):=by
 unfold EE
 rw[AG]
 have key :∀(l:List Int) (i:Nat),Ah (σ:=Unit) (fun _=>some (0:Int)) (fun next x _ _=>if (x != 0)=true then some x else next ()) l i ()=some (orI l):=by
  intro l
  induction l with
  | nil=>intro i;rfl
  | cons x t ih=>
   intro i
   show (if (x != 0)=true then some x else Ah _ _ t (i+1) ())=_
   rw[ih]
   rw[PO]
   by_cases h:x=0<;>simp[h]
 exact key l 0
def P5 (c:YZ):List Int:=[c.A,c.B]
def PZ (c:Ye):List Int:=[c.A,c.B,c.C]
theorem Qa (a b:YZ):(P5 a).length=(P5 b).length:=rfl
theorem QF (a b:Ye):(PZ a).length=(PZ b).length:=rfl
theorem To {a b:YZ}(h:P5 a=P5 b):a=b:=by
 simp only[P5,List.cons.injEq,and_true] at h
 cases a;cases b;simp_all
theorem VE {a b:Ye}(h:PZ a=PZ b):a=b:=by
 simp only[PZ,List.cons.injEq,and_true] at h
 cases a;cases b;simp_all
def M7:YZ->YZ->Bool:=ltK P5
def M1:Ye->Ye->Bool:=ltK PZ
theorem Ry (a b c:YZ)(h1:M7 a b=true)(h2:M7 b c=true):M7 a c=true:=Jt Qa a b c h1 h2
theorem Ru (a b c:Ye)(h1:M1 a b=true)(h2:M1 b c=true):M1 a c=true:=Jt QF a b c h1 h2
theorem Ug (a b:YZ)(h:M7 a b=false):a=b\/M7 b a=true:=(I7 Qa a b h).imp_left To
theorem UL (a b:Ye)(h:M1 a b=false):a=b\/M1 b a=true:=(I7 QF a b h).imp_left VE
theorem Xs (a b:YZ):YZ.eqd a b=true↔a=b:=by
 unfold YZ.eqd
 simp only[X27,Bool.and_true,beq_iff_eq]
 constructor
 ·rintro⟨h1,h2⟩;cases a;cases b;simp_all
 rintro rfl;exact⟨rfl,rfl⟩
theorem Xd (a b:Ye):Ye.eqd a b=true↔a=b:=by
 unfold Ye.eqd
 simp only[X27,Bool.and_true,beq_iff_eq]
 constructor
 ·rintro⟨h1,h2,h3⟩;cases a;cases b;simp_all
 rintro rfl;exact⟨rfl,rfl,rfl⟩
theorem U6 (a b:YZ):B9 a b=some (Dx (P5 a) (P5 b)):=by
 unfold B9
 rw[H6,AA,H6,AA,UC,AA,I0,I0]
 rfl
theorem UJ (a b:Ye):BG a b=some (Dx (PZ a) (PZ b)):=by
 unfold BG
 rw[H6,AA,H6,AA,H6,AA,UC,AA,I0,I0,I0]
 rfl
def inR (m x:Int):Bool:=decide (0<=x)&&decide (x<=m)
def okC (c:YZ):Bool:=inR 65535 c.A&&inR 65535 c.B
def okL (c:Ye):Bool:=inR 4294967295 c.A&&(inR 4294967295 c.B&&inR 4294967295 c.C)
theorem mmR {g:Int->Int->Int}{x:Int}{t:List Int}(hl:t.length<=1000000000) :
  AH (τ:=Int) (fun k2=>Cc (σ:=Int×Int) (fun next3 p=>match p with
   | (v4,v5)=>if (decide (v5<((x::t).length:Int)))=true then Option.bind (geti (x::t) v5) fun v6=>next3 (g v4 v6,(AT (v5+1))) else k2 v4) fuel (x,1)) (fun v=>some v)=some (t.foldl g x):=by
 rw[AG]
 refine (EI (fun s:Int×Int=>∃j:Nat,s.2=(j+1:Nat)/\j<=t.length) (fun s=>((x::t).length-s.2).toNat) (fun s=>some ((t.drop (s.2.toNat-1)).foldl g s.1)) ?_ fuel (x,1) ⟨0,rfl,Nat.zero_le _⟩ (Et (by simp;omega))).trans rfl
 rintro next ⟨m,i⟩ ⟨j,h1,h2⟩ hn
 dsimp only at h1
 subst h1
 dsimp only
 have e1:((j+1:Nat):Int).toNat-1=j:=by omega
 rw[e1]
 by_cases hj:j<t.length
 ·rw[if_pos (by simp only[X12,decide_eq_true_eq];omega),CV (by simp;omega),AA,AZ (by omega)]
  rw[hn _ ⟨j+1,by simp,by omega⟩ (by simp only[X12];omega)]
  have e2:(((j+1:Nat):Int)+1).toNat-1=j+1:=by omega
  simp only[e2,List.getElem_cons_succ]
  rw[List.drop_eq_getElem_cons hj,List.foldl_cons]
 rw[if_neg (by simp only[X12,decide_eq_true_eq];omega),List.drop_eq_nil_of_le (by omega)]
 rfl
def mn (a b:Int):Int:=if b<a then b else a
def mx (a b:Int):Int:=if b > a then b else a
theorem Wq {x:Int}{t:List Int}(hl:t.length<=1000000000):Bo (x::t)=some (t.foldl mn x):=by
 unfold Bo
 rw[if_neg (by simp;omega),show geti (x::t) 0=some x from CV (l:=x::t) (i:=0) (by simp),AA]
 exact mmR (g:=mn) hl
theorem V5 {x:Int}{t:List Int}(hl:t.length<=1000000000):Bq (x::t)=some (t.foldl mx x):=by
 unfold Bq
 rw[if_neg (by simp;omega),show geti (x::t) 0=some x from CV (l:=x::t) (i:=0) (by simp),AA]
 exact mmR (g:=mx) hl
theorem UI (n:Int) :∀(t:List Int) (x:Int),decide (n<=t.foldl mn x)=(x::t).all fun y=>decide (n<=y)
 | [],x=>by rw[List.all_cons,List.all_nil,Bool.and_true];rfl
 | y::t,x=>by
  rw[List.foldl_cons,UI n t (mn x y)]
  simp only[List.all_cons]
  unfold mn
  rw[X28]
  simp only[X27,decide_eq_true_eq]
  constructor
  ·rintro⟨h1,h2⟩;split at h1<;>exact⟨by omega,by omega,h2⟩
  rintro⟨h1,h2,h3⟩;split<;>exact⟨by omega,h3⟩
theorem Ut (n:Int) :∀(t:List Int) (x:Int),decide (t.foldl mx x<=n)=(x::t).all fun y=>decide (y<=n)
 | [],x=>by rw[List.all_cons,List.all_nil,Bool.and_true];rfl
 | y::t,x=>by
  rw[List.foldl_cons,Ut n t (mx x y)]
  simp only[List.all_cons]
  unfold mx
  rw[X28]
  simp only[X27,decide_eq_true_eq]
  constructor
  ·rintro⟨h1,h2⟩;split at h1<;>exact⟨by omega,by omega,h2⟩
  rintro⟨h1,h2,h3⟩;split<;>exact⟨by omega,h3⟩
theorem LM {m x:Int}{t:List Int}(hl:t.length<=1000000000):Bh m (x::t)=some ((x::t).all (inR m)):=by
 unfold Bh
 rw[AG,Wq hl,AA,V5 hl]
 have e:(x::t).all (inR m)=(decide (0<=t.foldl mn x)&&decide (t.foldl mx x<=m)):=by
  rw[UI,Ut,X28,X27]
  simp only[List.all_eq_true,inR,X27]
  exact⟨fun h=>⟨fun y hy=>(h y hy).1,fun y hy=>(h y hy).2⟩,fun h y hy=>⟨h.1 y hy,h.2 y hy⟩⟩
 rw[e]
 by_cases h:0<=t.foldl mn x
 ·rw[if_pos (by simpa using h),AA,decide_eq_true h];rfl
 rw[if_neg (by simpa using h),decide_eq_false h];rfl
theorem Uf (c:YZ):Cj c=some (okC c):=by
 unfold Cj
 rw[LM (by simp),AA]
 simp[okC]
theorem VG (c:Ye):Bc c=some (okL c):=by
 unfold Bc
 rw[LM (by simp),AA]
 simp[okL]
def GQ (l:List YZ):Bool:=l.all okC&&chainB M7 l&&decide (l.length<=64)
def Gm (l:List Ye):Bool:=l.all okL&&chainB M1 l&&decide (l.length<=64)
theorem V2 {X:Type}{key:X->List Int}(a b:X):decide (Dx (key a) (key b) ≥ 0)=!ltK key a b:=by
 unfold ltK
 rw[X28]
 simp
theorem XI {α:Type}{ok:α->Bool}{lt:α->α->Bool}{l:List α}(hl:l.length<=1000000000){body:(Unit->Option Bool)->α->Nat->Unit->Option Bool}
  (h :∀next x i,body next x i ()=AH (τ:=Bool) (fun k5=>Option.bind (some (ok x)) fun v6=>if (!v6)=true then k5 true else if (decide ((i:Int) > 0))=true then Option.bind (geti l (AT ((i:Int)-1))) fun v7=>Option.bind (some (lt v7 x)) fun v8=>k5 (cond false true (cond true (!v8) false)) else k5 false) fun v9=>if v9=true then some false else next ()) :
  (AH (τ:=Unit) (fun k1=>Ah (σ:=Unit) (fun _=>k1 ()) body l 0 ()) fun _=>some (decide ((l.length:Int)<=64)))=some (l.all ok&&chainB lt l&&decide (l.length<=64)):=by
 rw[AG,WG (ok:=ok) (lt:=lt) (F:=some false) (by omega)]
 ·have e:decide ((l.length:Int)<=64)=decide (l.length<=64):=by rw[X28];simp;omega
  rw[e]
  generalize (l.all ok&&chainB lt l)=b
  cases b<;>rfl
 ·intro next x _
  rw[h,AG,AA]
  cases ok x<;>rfl
 intro next x y i _ _ hg
 rw[h,AG,AA,hg,AA,AA,if_pos (show decide (((i+1:Nat):Int) > 0)=true by simp)]
 cases ok x<;>cases lt y x<;>rfl
theorem Ie {l:List YZ}(hl:l.length<=1000000000):B1 l=some (GQ l):=by
 unfold B1 AS GQ
 rw[XI (ok:=okC) (lt:=M7) hl fun next x i=>by simp only[Uf,U6,AA,V2];rfl]
 rfl
theorem F3 {l:List Ye}(hl:l.length<=1000000000):BB l=some (Gm l):=by
 unfold BB AN Gm
 rw[XI (ok:=okL) (lt:=M1) hl fun next x i=>by simp only[VG,UJ,AA,V2];rfl]
 rfl
theorem GX {l:List YZ}:GQ l=true↔(∀c∈l,okC c=true)/\(l.Pairwise fun a b=>M7 a b=true)/\l.length<=64:=by
 unfold GQ
 rw[X27,X27,Hy Ry,List.all_eq_true,decide_eq_true_eq,and_assoc]
theorem GW {l:List Ye}:Gm l=true↔(∀c∈l,okL c=true)/\(l.Pairwise fun a b=>M1 a b=true)/\l.length<=64:=by
 unfold Gm
 rw[X27,X27,Hy Ru,List.all_eq_true,decide_eq_true_eq,and_assoc]
theorem F2 {α:Type}{l:List α}{n:Nat}(h:n<=l.length):part l 0 (n:Int)=some (l.take n):=by
 have:=HF (l:=l) (a:=0) (b:=n) (by omega) h
 simpa using this
theorem QK {α:Type}{l:List α}{n:Nat}(h:n<=l.length):part l (n:Int) (l.length:Int)=some (l.drop n):=by
 rw[HF h (Nat.le_refl _),List.take_of_length_le (by simp)]
def UB:List YZ->List YZ:=canon YZ.eqd M7
def Ux:List Ye->List Ye:=canon Ye.eqd M1
theorem Tf (l:List YZ):(UB l).Pairwise (fun a b=>M7 a b=true)/\(∀x,x∈UB l↔x∈l)/\(UB l).length<=l.length:=MA Xs Ry Ug l
theorem TG (l:List Ye):(Ux l).Pairwise (fun a b=>M1 a b=true)/\(∀x,x∈Ux l↔x∈l)/\(Ux l).length<=l.length:=MA Xd Ru UL l
theorem Qp {l:List YZ}(h :∀c∈l,okC c=true)(hl:l.length<=64):GQ (UB l)=true:=by
 obtain⟨h1,h2,h3⟩:=Tf l
 exact GX.2 ⟨fun c hc=>h c ((h2 c).1 hc),h1,by omega⟩
theorem Qi {l:List Ye}(h :∀c∈l,okL c=true)(hl:l.length<=64):Gm (Ux l)=true:=by
 obtain⟨h1,h2,h3⟩:=TG l
 exact GW.2 ⟨fun c hc=>h c ((h2 c).1 hc),h1,by omega⟩
def comms:List UInt8->List YZ
 | a::b::c::d::t=>⟨G8 [a,b],G8 [c,d]⟩::comms t
 | _=>[]
def FH:List Int->List Ye
 | a::b::c::t=>⟨a,b,c⟩::FH t
 | _=>[]
theorem MW (a b c d:UInt8)(t:List UInt8):comms (a::b::c::d::t)=⟨G8 [a,b],G8 [c,d]⟩::comms t:=rfl
theorem KL (a b c:Int)(t:List Int):FH (a::b::c::t)=⟨a,b,c⟩::FH t:=rfl
theorem NY :∀l:List UInt8,(comms l).length=l.length/4
 | a::b::c::d::t=>by
  rw[MW,X12,NY t]
  simp only[X12]
  omega
 | []=>rfl
 | [_]=>by simp[comms]
 | [_,_]=>by simp[comms]
 | [_,_,_]=>by simp[comms]
theorem Ln :∀l:List Int,(FH l).length=l.length/3
 | a::b::c::t=>by
  rw[KL,X12,Ln t]
  simp only[X12]
  omega
 | []=>rfl
 | [_]=>by simp[FH]
 | [_,_]=>by simp[FH]
theorem PM (a b:UInt8):0<=G8 [a,b]/\G8 [a,b]<=65535:=by
 have:=MO [a,b]
 rw[Kw (by simp)]
 simp only[X12,X13] at this
 omega
theorem Pn :∀(l:List UInt8),∀c∈comms l,okC c=true
 | a::b::c::d::t=>by
  rw[MW]
  intro x hx
  rcases List.mem_cons.1 hx with rfl | hx
  ·have h1:=PM a b
   have h2:=PM c d
   simp[okC,inR,h1,h2]
  exact Pn t x hx
 | []=>by intro n h;simp[comms] at h
 | [_]=>by intro n h;simp[comms] at h
 | [_,_]=>by intro n h;simp[comms] at h
 | [_,_,_]=>by intro n h;simp[comms] at h
theorem OD :∀(l:List Int),(∀n∈l,0<=n/\n<=4294967295)->∀c∈FH l,okL c=true
 | a::b::c::t,h=>by
  rw[KL]
  intro x hx
  rcases List.mem_cons.1 hx with rfl | hx
  ·have h1:=h a (by simp)
   have h2:=h b (by simp)
   have h3:=h c (by simp)
   simp[okL,inR,h1,h2,h3]
  exact OD t (fun n hn=>h n (by simp[hn])) x hx
 | [],_=>by intro n h;simp[FH] at h
 | [_],_=>by intro n h;simp[FH] at h
 | [_,_],_=>by intro n h;simp[FH] at h
end Go.AX.Q19
end
section
end
section
namespace Go.AX.Q19
open Go Go.AX
def Qn (p:List Yd):Bool:=(HM p).getD false
def QI (d:List UInt8):Option Int:=if d.length=1/\G8 d<=2 then some (G8 d) else none
def Tq (d:List UInt8):Option (List Yd):=(rdL d []).bind fun p=>if Qn p=true then some p else none
def addrOf (d:List UInt8):Addr:=((Du d).getD (⟨false,0,0⟩,0)).1
def Uj (d:List UInt8):Option Addr:=if d.length=4 then some (addrOf d) else none
def rd4 (d:List UInt8):Option Int:=if d.length=4 then some (G8 d) else none
def Vz (d:List UInt8):Option Int:=if d.length=4/\G8 d≠0 then some (G8 d) else none
def Up (d:List UInt8):Option (List YZ):=if d.length≠0/\d.length%4=0/\d.length/4<=64 then some (UB (comms d)) else none
def SA (d:List UInt8):Option (List Ye):=if d.length≠0/\d.length%12=0/\d.length/12<=64 then some (Ux (FH (nums d))) else none
def T8 (a:YY)(t:Int)(d:List UInt8):Option YY:=
 if t=1 then (QI d).map fun v=>{ a with Origin:=v } else
 if t=2 then (Tq d).map fun v=>{ a with Path:=v } else
 if t=3 then (Uj d).map fun v=>{ a with Next:=v } else
 if t=4 then (rd4 d).map fun v=>{ a with MED:=v } else
 if t=5 then (rd4 d).map fun v=>{ a with Pref:=v } else
 if t=8 then (Up d).map fun v=>{ a with Communities:=v } else
 if t=32 then (SA d).map fun v=>{ a with Ye:=v } else
 if t=35 then (Vz d).map fun v=>{ a with OTC:=v } else some a
def stepS (a:YY)(x:YX):Option YY:=if fl x.Type_=0 then some a else if W3 x=true then T8 a x.Type_ x.Data else none
instance (a0:List UInt8):Tt (Du a0):=by unfold Du;exact Tt.auto
theorem Jl {d:List UInt8}(h:d.length=4):0<=G8 d/\G8 d<=4294967295:=by
 have:=MO d
 rw[Kw (by omega)]
 rw[h] at this
 omega
section
variable {ρ:Type} {F:Option ρ} {next:Int×Bool×UInt64×UInt64×Int×Int×Int×(List Yd)×(List YZ)×(List Ye)->Option ρ} {x:YX} {a:YY}
end
end Go.AX.Q19
end
section
namespace Go.AX.Q19
open Go Go.AX
def Jm (n:Int):Bool:=decide (1<=n)&&decide (n<=4294967295)
def NS (s:Yd):Bool:=decide (s.ASNs.length≠0)&&(s.ASNs.all Jm&&chainB (fun a b=>!s.Set || ltI a b) s.ASNs)
def sgl (a b:Yd):Bool:=b.Set || a.Set
def tot (p:List Yd):Nat:=p.foldl (fun n s=>n+s.ASNs.length) 0
theorem UD (p:List Yd)(n:Nat):p.foldl (fun n s=>n+s.ASNs.length) n=n+tot p:=by
 unfold tot
 induction p generalizing n with
 | nil=>rfl
 | cons s t ih=>rw[List.foldl_cons,List.foldl_cons,ih,ih (0+_)];omega
theorem C2 (s:Yd)(p:List Yd):tot (s::p)=s.ASNs.length+tot p:=by
 conv=>lhs;unfold tot
 rw[List.foldl_cons,UD];omega
theorem K0 (p q:List Yd):tot (p++q)=tot p+tot q:=by
 induction p with
 | nil=>rw[List.nil_append];exact (Nat.zero_add _).symm
 | cons s t ih=>rw[List.cons_append,C2,C2,ih];omega
theorem VT {p:List Yd}{s:Yd}(h:s∈p):s.ASNs.length<=tot p:=by
 induction p with
 | nil=>simp at h
 | cons x t ih=>
  rw[C2]
  rcases List.mem_cons.1 h with rfl | h
  ·omega
  have:=ih h;omega
def HN (p:List Yd):Bool:=p.all NS&&chainB sgl p&&decide (tot p<=64)
theorem Rn :∀(p:List Yd) (n:Nat),n+tot p<=1000000000->p.foldl (fun (v:Int) s=>AT (v+(s.ASNs.length:Int))) (n:Int)=((n+tot p:Nat):Int)
 | [],n,_=>rfl
 | s::t,n,h=>by
  rw[C2] at h
  rw[List.foldl_cons,C2,AZ (by omega),show (n:Int)+(s.ASNs.length:Int)=((n+s.ASNs.length:Nat):Int) by omega,Rn t _ (by omega)]
  congr 1
  omega
theorem S8 {s:Yd}(hl:s.ASNs.length<=1000000000){K:Unit->Option Bool}{body:(Unit->Option Bool)->Int->Nat->Unit->Option Bool}
  (hb :∀next x i,body next x i ()=AH (τ:=Bool) (fun k14=>if (!Jm x)=true then k14 true else if s.Set=true then if (cond true (decide ((i:Int) > 0)) false)=true then Option.bind (geti s.ASNs (AT ((i:Int)-1))) fun v15=>k14 (cond false true (cond true (decide (v15 ≥ x)) false)) else k14 false else k14 false) fun v16=>if v16=true then some false else next ()) :
  Ah K body s.ASNs 0 ()=if s.ASNs.all Jm&&chainB (fun a b=>!s.Set || ltI a b) s.ASNs then K () else some false:=by
 refine WG (by omega) (fun next x _=>?_) fun next x y i _ _ hg=>?_
 ·rw[hb,AG]
  cases Jm x<;>cases s.Set<;>rfl
 rw[hb,AG,hg,AA]
 have e:decide (((i+1:Nat):Int) > 0)=true:=by simp
 have e2:decide (y ≥ x)=!ltI y x:=by unfold ltI;rw[X28];simp
 rw[e,e2]
 cases Jm x<;>cases s.Set<;>cases ltI y x<;>rfl
theorem NK {p:List Yd}(hl:p.length<=1000000000)(ht:tot p<=1000000000){body:(Int->Option Bool)->Yd->Nat->Int->Option Bool}{inner:Yd->(Unit->Option Bool)->Int->Nat->Unit->Option Bool}
  (hb :∀next x i v,body next x i v=AH (τ:=Unit) (fun k6=>AH (τ:=Bool) (fun k7=>if ((x.ASNs.length:Int)==0)=true then k7 true else if (decide ((i:Int) > 0))=true then if (cond true (!x.Set) false)=true then Option.bind (geti p (AT ((i:Int)-1))) fun v8=>k7 (cond false true (cond true (!v8.Set) false)) else k7 false else k7 false) fun v9=>if v9=true then some false else AH (τ:=Unit) (fun k10=>Ah (σ:=Unit) (fun _=>k10 ()) (inner x) x.ASNs 0 ()) fun _=>k6 ()) fun _=>next (AT (v+(x.ASNs.length:Int))))
  (hi :∀s next x i,inner s next x i ()=AH (τ:=Bool) (fun k14=>if (!Jm x)=true then k14 true else if s.Set=true then if (cond true (decide ((i:Int) > 0)) false)=true then Option.bind (geti s.ASNs (AT ((i:Int)-1))) fun v15=>k14 (cond false true (cond true (decide (v15 ≥ x)) false)) else k14 false else k14 false) fun v16=>if v16=true then some false else next ()) :
  (AH (τ:=Int) (fun k1=>Ah (σ:=Int) (fun v=>k1 v) body p 0 0) fun v=>some (decide (v<=64)))=some (HN p):=by
 rw[AG]
 have hin :∀s∈p,∀K:Unit->Option Bool,Ah K (inner s) s.ASNs 0 ()=if s.ASNs.all Jm&&chainB (fun a b=>!s.Set || ltI a b) s.ASNs then K () else some false:=fun s hs K=>S8 (by have:=VT hs;omega) (hi s)
 refine (Xf (g:=fun (v:Int) s=>AT (v+(s.ASNs.length:Int))) (ok:=NS) (lt:=sgl) (F:=some false) (by omega) (fun next x v hx=>?_) fun next x y i v hx _ hg=>?_).trans ?_
 ·rw[hb,AG,AG]
  unfold NS
  by_cases h0:x.ASNs.length=0
  ·have e:((x.ASNs.length:Int)==0)=true:=by simp[h0]
   rw[if_pos e]
   simp[h0]
  have e:¬ ((x.ASNs.length:Int)==0)=true:=by simpa using h0
  rw[if_neg e,if_neg (by simp)]
  show (if false=true then _ else _)=_
  rw[if_neg (by decide),AG,hin x hx]
  simp only[h0,ne_eq,not_false_eq_true,decide_true,Bool.true_and]
 ·rw[hb,AG,AG,hg]
  unfold NS sgl
  by_cases h0:x.ASNs.length=0
  ·have e:((x.ASNs.length:Int)==0)=true:=by simp[h0]
   rw[if_pos e]
   simp[h0]
  have e:¬ ((x.ASNs.length:Int)==0)=true:=by simpa using h0
  have e2:decide (((i+1:Nat):Int) > 0)=true:=by simp
  rw[if_neg e,if_pos e2,AA,AG,hin x hx]
  simp only[h0,ne_eq,not_false_eq_true,decide_true,Bool.true_and]
  generalize (x.ASNs.all Jm&&chainB (fun a b=>!x.Set || ltI a b) x.ASNs)=c
  cases x.Set<;>cases y.Set<;>cases c<;>rfl
 have hs:=Rn p 0 (by omega)
 rw[Nat.zero_add] at hs
 have hs:p.foldl (fun (v:Int) s=>AT (v+(s.ASNs.length:Int))) 0=(tot p:Int):=hs
 rw[hs]
 unfold HN
 have e:decide ((tot p:Int)<=64)=decide (tot p<=64):=by rw[X28];simp;omega
 simp only[e]
 generalize (p.all NS&&chainB sgl p)=c
 cases c<;>rfl
theorem MF {p:List Yd}(hl:p.length<=1000000000)(ht:tot p<=1000000000):HM p=some (HN p):=by
 unfold HM
 refine NK hl ht (fun next x i v=>rfl) fun s next x i=>?_
 have e:(!Jm x)=(decide (x < 1) || decide (x > 4294967295)):=by unfold Jm;rw[X28];simp<;>omega
 rw[AG,AG,e]
 cases decide (x < 1)<;>cases decide (x > 4294967295)<;>rfl
theorem KZ {p:List Yd}(hl:p.length<=1000000000)(ht:tot p<=1000000000):D1 p=some (HN p):=by
 unfold D1
 refine NK hl ht (fun next x i v=>rfl) fun s next x i=>?_
 rw[number_eq]
 rfl
theorem TF {p:List Yd}(hl:p.length<=1000000000)(ht:tot p<=1000000000):Qn p=HN p:=by
 unfold Qn
 rw[MF hl ht];rfl
theorem PY (p:List Yd)(b:Bool){m:List Int}(hm:m.length<=1000000):(O2 p b m).length<=p.length+1/\tot (O2 p b m)<=tot p+m.length:=by
 unfold O2
 cases b
 ·simp only[Bool.false_eq_true,if_false]
  rcases List.eq_nil_or_concat p with rfl | ⟨q,s,rfl⟩
  ·exact⟨by simp,by simp[tot]⟩
  rw[List.concat_eq_append]
  simp only[List.getLast?_concat,List.dropLast_concat]
  split
  ·rw[K0,C2]
   exact⟨by simp,by simp[tot]⟩
  rw[K0,C2,K0,C2]
  exact⟨by simp,by simp[tot];omega⟩
 simp only[if_true]
 rw[K0,C2]
 have:=Ve hm
 exact⟨by simp,by simp only[tot,List.foldl_nil];omega⟩
theorem LD :∀(n:Nat) (b:List UInt8) (p q:List Yd),b.length<=1000000->L9 n b p=some q->q.length<=p.length+b.length/\tot q<=tot p+b.length
 | n,[],p,q,_,h=>by
  rw[TV] at h
  obtain rfl:=X25 h
  exact⟨Nat.le_refl _,Nat.le_refl _⟩
 | n+1,[x],p,q,_,h=>by simp[L9] at h
 | n+1,k::c::t,p,q,hb,h=>by
  simp only[X12] at hb
  simp only[L9] at h
  split at h
  ·cases h
  rename_i hk
  have h1:=LD n _ _ _ (by simp only[X17];omega) h
  have hn:(nums (t.take (4*c.toNat))).length=c.toNat:=by rw[ME,X18];omega
  have hc:=c.toNat_lt
  have h2:=PY p (k.toNat==1) (m:=nums (t.take (4*c.toNat))) (by omega)
  simp only[X17] at h1
  simp only[X12]
  omega
 | 0,x::b,p,q,_,h=>by
  have:L9 0 (x::b) p=none:=by cases b<;>rfl
  rw[this] at h;simp at h
theorem UT {b:List UInt8}{q:List Yd}(hb:b.length<=1000000)(h:rdL b []=some q):q.length<=1000000/\tot q<=1000000:=by
 have:=LD _ _ _ _ hb h
 simp only[X13,tot,List.foldl_nil] at this
 unfold tot
 omega
section
variable {ρ:Type} {F:Option ρ} {next:Int×Bool×UInt64×UInt64×Int×Int×Int×(List Yd)×(List YZ)×(List Ye)->Option ρ} {x:YX} {a:YY}
end
end Go.AX.Q19
end
section
namespace Go.AX.Q19
open Go Go.AX
section
variable {ρ:Type} {F:Option ρ} {next:Int×(List Yd)×Bool×UInt64×UInt64×Int×Int×Int×(List YZ)×(List Ye)->Option ρ} {x:YX} {a:YY}
end
end Go.AX.Q19
end
section
namespace Go.AX.Q19
open Go Go.AX
def TP (l:List YX):Prop:=l.Pairwise fun a b=>a.Type_≠b.Type_
structure Fit (l:List YX)(a:YY):Prop where
 d:TP l
 z :∀x∈l,x.Data.length<=1000000
 p :∀x∈l,x.Type_=2->a.Path=[]
 c :∀x∈l,x.Type_=8->a.Communities=[]
 l :∀x∈l,x.Type_=32->a.Ye=[]
theorem PP {a a':YY}{x:YX}(h:stepS a x=some a'):(x.Type_≠2->a'.Path=a.Path)/\(x.Type_≠8->a'.Communities=a.Communities)/\(x.Type_≠32->a'.Ye=a.Ye)/\a'.Other=a.Other:=by
 unfold stepS at h
 split at h
 ·obtain rfl:=X25 h
  exact⟨fun _=>rfl,fun _=>rfl,fun _=>rfl,rfl⟩
 split at h
 ·unfold T8 at h
  rcases HC x.Type_ with ⟨e,_⟩|⟨e,_⟩|⟨e,_⟩|⟨e,_⟩|⟨e,_⟩|⟨e,_⟩|⟨e,_⟩|⟨e,_⟩|⟨e1,e2,e3,e4,e5,e6,e7,e8,_⟩
  iterate 8
   ·rw[e] at h ⊢
    obtain⟨v,_,rfl⟩:=Option.map_eq_some_iff.1 h
    exact⟨fun q=>by first | rfl | exact absurd rfl q,fun q=>by first | rfl | exact absurd rfl q,fun q=>by first | rfl | exact absurd rfl q,rfl⟩
  rw[if_neg e1,if_neg e2,if_neg e3,if_neg e4,if_neg e5,if_neg e6,if_neg e7,if_neg e8] at h
  obtain rfl:=X25 h
  exact⟨fun _=>rfl,fun _=>rfl,fun _=>rfl,rfl⟩
 simp at h
theorem Fit.next {x:YX}{t:List YX}{a a':YY}(f:Fit (x::t) a)(h:stepS a x=some a'):Fit t a':=by
 obtain⟨k1,k2,k3,_⟩:=PP h
 obtain⟨d1,d2⟩:=List.pairwise_cons.1 f.d
 exact⟨d2,fun y hy=>f.z y (X19 _ hy),fun y hy e=>(k1 (e ▸ d1 y hy)).trans (f.p y (X19 _ hy) e),
  fun y hy e=>(k2 (e ▸ d1 y hy)).trans (f.c y (X19 _ hy) e),fun y hy e=>(k3 (e ▸ d1 y hy)).trans (f.l y (X19 _ hy) e)⟩
def conv (x:YX):YX:=⟨224,x.Type_,x.Data⟩
def F4 (x:YX):List Int:=[x.Type_]
theorem F7 (a b:YX):(F4 a).length=(F4 b).length:=rfl
theorem TC {α:Type}{R:α->α->Prop}{c:Bool}{x:α}:(if c=true then [x] else []).Pairwise R:=by
 cases c
 ·exact .nil
 exact List.pairwise_singleton _ _
def eA:YY:=⟨(-1),[],(⟨false,(0:UInt64),(0:UInt64)⟩:Addr),(-1),(-1),(-1),[],[],[]⟩
theorem QP {α β:Type}{g:α->List β}(hg :∀x,(g x).length<=1) :∀l:List α,(l.flatMap g).length<=l.length
 | []=>by simp
 | x::t=>by
  rw[List.flatMap_cons,X11,X12]
  have:=QP hg t
  have:=hg x
  omega
theorem PI (a b:YX):F5 a b=some (Dx (F4 a) (F4 b)):=by
 unfold F5 F4
 rw[H6,AA]
 unfold UU Dx Dx
 rfl
def sizeOf (b:List UInt8)(h:Nat):Nat:=val ((b.drop 2).take (h-2))
instance (a0:Addr):Tt (Dp a0):=by unfold Dp;exact Tt.auto
instance (a0:Addr):Tt (C7 a0):=by unfold C7;exact Tt.auto
instance (a0:List UInt8):Tt (CU a0):=by unfold CU;exact Tt.auto
instance (a0:Int):Tt (HI a0):=by unfold HI;exact Tt.auto
instance (a0:Int):Tt (IG a0):=by unfold IG;exact Tt.auto
instance (a0:YZ):Tt (J3 a0):=by unfold J3;exact Tt.auto
instance (a0:YZ) (a1:YZ):Tt (MM a0 a1):=by unfold MM;exact Tt.auto
instance (a0:Ye):Tt (GE a0):=by unfold GE;exact Tt.auto
instance (a0:Ye) (a1:Ye):Tt (Gv a0 a1):=by unfold Gv;exact Tt.auto
instance (a0:List YZ) (a1:YZ):Tt (N3 a0 a1):=by unfold N3;exact Tt.auto
instance (a0:List Ye) (a1:Ye):Tt (HK a0 a1):=by unfold HK;exact Tt.auto
instance:Tt (Ds):=by unfold Ds;exact Tt.auto
instance (a0:List YZ) (a1:List YZ):Tt (Da a0 a1):=by unfold Da;exact Tt.auto
instance (a0:List Ye) (a1:List Ye):Tt (Ba a0 a1):=by unfold Ba;exact Tt.auto
instance (a0:List YX) (a1:List YX):Tt (Bm a0 a1):=by unfold Bm;exact Tt.auto
instance (a0:Addr):Tt (BQ a0):=by unfold BQ;exact Tt.auto
instance (a0:Int):Tt (DF a0):=by unfold DF;exact Tt.auto
instance (a0:Addr) (a1:Int):Tt (CP a0 a1):=by unfold CP;exact Tt.auto
theorem Qh {a k:Nat}(ha:a<2^64)(hk:k<=64):(BitVec.ofInt 64 (a:Int) &&& ~~~BitVec.ofInt 64 ((2^k-1:Nat):Int)).toNat=a/2^k*2^k:=by
 apply Nat.eq_of_testBit_eq
 intro i
 rw[BitVec.ofInt_natCast,BitVec.ofInt_natCast,BitVec.testBit_toNat]
 simp only[BitVec.getLsbD_and,BitVec.getLsbD_not,BitVec.getLsbD_ofNat,Nat.testBit_mul_two_pow,Nat.testBit_div_two_pow,Nat.testBit_two_pow_sub_one]
 by_cases hi:i<64
 ·by_cases hki:k<=i
  ·simp[hi,hki,Nat.not_lt.2 hki]
  simp[hi,hki,Nat.lt_of_not_le hki]
 have:a.testBit i=false:=Nat.testBit_lt_two_pow (Nat.lt_of_lt_of_le ha (Nat.pow_le_pow_right (by omega) (by omega)))
 by_cases hki:k<=i
 ·simp[hi,hki,this]
 omega
theorem A4 (n:Nat):AL (n:Int)=UInt64.ofNat n:=by
 unfold AL
 apply UInt64.toNat_inj.1
 simp only[UInt64.toNat_ofNat']
 omega
def Addr.n (a:Addr):Nat:=a.Hi.toNat*2^64+a.Lo.toNat
def Addr.w (a:Addr):Nat:=if a.V6 then 128 else 32
def Addr.ok (a:Addr):Bool:=cond a.V6 true (cond ((a.Hi.toNat:Int)==0) (decide ((a.Lo.toNat:Int)<4294967296)) false)
def mkA (v6:Bool)(n:Nat):Addr:=⟨v6,UInt64.ofNat (n/2^64),UInt64.ofNat n⟩
def Addr.cut (a:Addr)(n:Nat):Addr:=mkA a.V6 (a.n/2^(a.w-n)*2^(a.w-n))
theorem Ws (b:Bool)(m:Nat):(mkA b m).V6=b:=by unfold mkA;rfl
theorem YQ (h l k:Nat)(hl:l<2^64)(hk:k<=64):(h*2^64+l)/2^k*2^k=h*2^64+l/2^k*2^k:=by
 have:(2:Nat)^64=2^(64-k)*2^k:=by rw[<- Nat.pow_add];congr 1;omega
 rw[this,<- Nat.mul_assoc,Nat.add_comm,Nat.add_mul_div_right _ _ (Nat.two_pow_pos k),X32,Nat.add_comm]
theorem WW:AL (((0:Nat):Int)-1)=UInt64.ofNat 18446744073709551615:=by
   unfold AL
   congr 1
theorem V8 {k:Nat}(hk:k<64):AL (((UInt64.ofNat (2^k)).toNat:Int)-1)=UInt64.ofNat (2^k-1):=by
  have h3:(2:Nat)^k<2^64:=Nat.pow_lt_pow_right (by omega) (by omega)
  have h4:0<(2:Nat)^k:=Nat.two_pow_pos k
  have h5:(UInt64.ofNat (2^k)).toNat=2^k:=by simp only[UInt64.toNat_ofNat'];omega
  rw[h5]
  have h6:((2^k:Nat):Int)-1=((2^k-1:Nat):Int):=by omega
  rw[h6,A4]
theorem WM:AL (((UInt64.ofNat (2^64)).toNat:Int)-1)=UInt64.ofNat (2^64-1):=by
  have h5:(UInt64.ofNat (2^64)).toNat=0:=by simp only[UInt64.toNat_ofNat',Nat.mod_self]
  rw[h5]
  exact WW
theorem W4 {k:Nat}(hk:k<=64):AL (1*(2^(min (Int.toNat ((AL (k:Int)).toNat:Int)) 64)))=UInt64.ofNat (2^k):=by
 rw[A4]
 have h1:(UInt64.ofNat k).toNat=k:=by simp;omega
 rw[h1,Int.toNat_natCast,Nat.min_eq_left hk,Int.one_mul]
 have h2:((2:Int)^k)=((2^k:Nat):Int):=by simp
 rw[h2,A4]
theorem PV {k:Nat}(hk:k<=64):AL (((AL (1*(2^(min (Int.toNat ((AL (k:Int)).toNat:Int)) 64)))).toNat:Int)-1)=UInt64.ofNat (2^k-1):=by
 rw[W4 hk]
 rcases Nat.lt_or_eq_of_le hk with h | h
 ·exact V8 h
 rw[h];exact WM
theorem JI {x:UInt64}{k:Nat}(hk:k<=64):AL ((BitVec.ofInt 64 (x.toNat:Int) &&& ~~~BitVec.ofInt 64 ((UInt64.ofNat (2^k-1)).toNat:Int)).toNat:Int)=UInt64.ofNat (x.toNat/2^k*2^k):=by
 have h:(UInt64.ofNat (2^k-1)).toNat=2^k-1:=by
  have:(2:Nat)^k<=2^64:=Nat.pow_le_pow_right (by omega) hk
  have h4:0<(2:Nat)^k:=Nat.two_pow_pos k
  simp only[UInt64.toNat_ofNat'];omega
 rw[h,Qh x.toNat_lt hk,A4]
theorem KU (a:Addr){n:Nat}(hn:n<=a.w):CP a (n:Int)=some (a.cut n):=by
 have hw:BQ a=some (a.w:Int):=by unfold BQ Addr.w;split<;>rfl
 have hwn:AT ((a.w:Int)-(n:Int))=((a.w-n:Nat):Int):=by
  have:a.w<=128:=by unfold Addr.w;split<;>omega
  rw[AZ (by omega)];omega
 have hlo:=a.Lo.toNat_lt
 have hhi:=a.Hi.toNat_lt
 unfold CP
 rw[hw,AA,hwn]
 have hk128:a.w-n<=128:=by unfold Addr.w;split<;>omega
 generalize hk:a.w-n=k at *
 unfold DF
 by_cases h64:k > 64
 ·rw[if_pos (by simp;omega),AA]
  have e:AT ((k:Int)-64)=((k-64:Nat):Int):=by rw[AZ (by omega)];omega
  rw[e,PV (by omega)]
  simp only[JI (show k-64<=64 by omega)]
  have h1:(18446744073709551615:UInt64)=UInt64.ofNat (2^64-1):=rfl
  rw[h1,JI (Nat.le_refl 64)]
  have h0:a.Lo.toNat/2^64=0:=Nat.div_eq_of_lt hlo
  unfold Addr.cut mkA Addr.n
  rw[hk]
  have hsplit:(2:Nat)^k=2^64*2^(k-64):=by rw[<- Nat.pow_add];congr 1;omega
  have hd:(a.Hi.toNat*2^64+a.Lo.toNat)/2^k=a.Hi.toNat/2^(k-64):=by
   rw[hsplit,<- Nat.div_div_eq_div_mul,Nat.add_comm,Nat.add_mul_div_right _ _ (Nat.two_pow_pos 64),h0,Nat.zero_add]
  rw[hd]
  have he:a.Hi.toNat/2^(k-64)*2^k=a.Hi.toNat/2^(k-64)*2^(k-64)*2^64:=by
   rw[hsplit,Nat.mul_comm (2^64),Nat.mul_assoc]
  rw[he,Nat.mul_div_cancel _ (Nat.two_pow_pos 64),h0]
  have e0:UInt64.ofNat (a.Hi.toNat/2^(k-64)*2^(k-64)*2^64)=UInt64.ofNat 0:=by
   apply UInt64.toNat_inj.1
   simp only[UInt64.toNat_ofNat',Nat.mul_mod_left,Nat.zero_mod]
  rw[e0,Nat.zero_mul]
 rw[if_neg (by simp;omega),AA,PV (by omega)]
 simp only[JI (show k<=64 by omega)]
 have h1:(0:UInt64)=UInt64.ofNat (2^0-1):=rfl
 rw[h1,JI (Nat.zero_le 64)]
 unfold Addr.cut mkA Addr.n
 rw[hk,YQ _ _ _ hlo (by omega)]
 have hlt:a.Lo.toNat/2^k*2^k<2^64:=Nat.lt_of_le_of_lt (Nat.div_mul_le_self _ _) hlo
 have e1:UInt64.ofNat (a.Hi.toNat/2^0*2^0)=UInt64.ofNat ((a.Hi.toNat*2^64+a.Lo.toNat/2^k*2^k)/2^64):=by
  congr 1
  omega
 have e2:UInt64.ofNat (a.Lo.toNat/2^k*2^k)=UInt64.ofNat (a.Hi.toNat*2^64+a.Lo.toNat/2^k*2^k):=by
  apply UInt64.toNat_inj.1
  simp only[UInt64.toNat_ofNat']
  omega
 rw[e1,e2]
theorem Bj (n:Nat):Ab (n:Int)=UInt8.ofNat n:=by
 unfold Ab
 apply UInt8.toNat_inj.1
 simp only[UInt8.toNat_ofNat']
 omega
def Addr.L (a:Addr):Nat:=if a.V6 then 16 else 4
def JL (a:Addr)(k:Nat):UInt8:=UInt8.ofNat (a.n/2^(8*k))
theorem E3 (a:Addr):Dp a=some a.ok:=by
 unfold Dp Addr.ok
 rw[AG]
 generalize ((a.Hi.toNat:Int)==0)=x
 generalize decide ((a.Lo.toNat:Int)<4294967296)=y
 generalize a.V6=z
 cases z<;>cases x<;>rfl
theorem Ql {w:UInt64}{k:Nat}(hk:k<8) :
  Ab ((AL (Int.fdiv (w.toNat:Int) (2^(min (Int.toNat ((AL (8*((AL (k:Int)).toNat:Int))).toNat:Int)) 64)))).toNat:Int)=UInt8.ofNat (w.toNat/2^(8*k)):=by
 have h1:(AL (k:Int)).toNat=k:=by rw[A4];simp;omega
 have h2:(AL (8*((AL (k:Int)).toNat:Int))).toNat=8*k:=by
  rw[h1]
  have:(8*(k:Int))=((8*k:Nat):Int):=by omega
  rw[this,A4];simp;omega
 have h3:Int.fdiv (w.toNat:Int) ((2:Int)^(8*k))=((w.toNat/2^(8*k):Nat):Int):=by
  have:((2:Int)^(8*k))=((2^(8*k):Nat):Int):=by simp
  rw[this,Int.fdiv_eq_ediv_of_nonneg _ (Int.natCast_nonneg _),Int.natCast_ediv]
 rw[h2,Int.toNat_natCast,Nat.min_eq_left (by omega),h3,A4,Bj]
 have:(UInt64.ofNat (w.toNat/2^(8*k))).toNat=w.toNat/2^(8*k):=by
  have hd:w.toNat/2^(8*k)<2^64:=Nat.lt_of_le_of_lt (Nat.div_le_self _ _) w.toNat_lt
  rw[UInt64.toNat_ofNat',Nat.mod_eq_of_lt hd]
 rw[this]
theorem OL {a b:Nat}(h:a%256=b%256):UInt8.ofNat a=UInt8.ofNat b:=by
 apply UInt8.toNat_inj.1
 simp only[UInt8.toNat_ofNat']
 exact h
theorem OX {a:Addr}{k:Nat}(hk:k<16)(hv:a.ok=true)(h4:a.V6=false->k<4) :
  UInt8.ofNat ((if k ≥ 8 then a.Hi else a.Lo).toNat/2^(8*(k%8)))=JL a k:=by
 unfold JL Addr.n
 have hlo:=a.Lo.toNat_lt
 by_cases h8:k ≥ 8
 ·rw[if_pos h8]
  have e:8*k=64+8*(k%8):=by omega
  rw[e,Nat.pow_add,<- Nat.div_div_eq_div_mul,Nat.add_comm (a.Hi.toNat*2^64),Nat.add_mul_div_right _ _ (Nat.two_pow_pos 64),Nat.div_eq_of_lt hlo,Nat.zero_add]
 rw[if_neg h8]
 have e:k%8=k:=Nat.mod_eq_of_lt (by omega)
 rw[e]
 apply OL
 have e2:(2:Nat)^64=2^(8*k)*2^(64-8*k):=by rw[<- Nat.pow_add];congr 1;omega
 have e3:(2:Nat)^(64-8*k)=256*2^(56-8*k):=by
  have:(256:Nat)=2^8:=rfl
  rw[this,<- Nat.pow_add];congr 1;omega
 have e4:a.Hi.toNat*2^64=a.Hi.toNat*2^(56-8*k)*256*2^(8*k):=by
  rw[e2,e3,Nat.mul_assoc,Nat.mul_assoc]
  congr 1
  rw[Nat.mul_comm (2^(56-8*k)),Nat.mul_comm (2^(8*k))]
  rw[Nat.mul_assoc,Nat.mul_comm (2^(56-8*k)),Nat.mul_assoc]
 rw[e4,Nat.add_comm,Nat.add_mul_div_right _ _ (Nat.two_pow_pos _),Nat.add_mul_mod_self_right]
theorem FK {a:Addr}(hv:a.ok=true):Ok (EZ a) fun l=>l.length=a.L/\∀j,j<a.L->l[j]?=some (JL a (a.L-1-j)):=by
 unfold EZ
 rw[E3,AA,hv]
 refine .ite (fun h=>by simp at h) fun _=>?_
 refine .join (fun n:Int=>n=a.L) (fun k hk=>.ite (fun h=>hk _ (by unfold Addr.L;rw[if_pos h];rfl)) fun h=>hk _ (by unfold Addr.L;rw[if_neg h];rfl)) fun n hn=>?_
 have hL:a.L=16\/a.L=4:=by unfold Addr.L;split<;>simp
 subst hn
 refine .join (fun l:List UInt8=>l.length=a.L/\∀j,j<a.L->l[j]?=some (JL a (a.L-1-j))) (fun k hk=>?_) fun l hl=>.ret hl
 refine .whileI (fun s:Int×List UInt8=>-1<=s.1/\s.1=a.L-1-s.2.length/\∀j,j<s.2.length->s.2[j]?=some (JL a (a.L-1-j))) (fun s=>(s.1+1).toNat) ?_ ?_ ?_
 ·rw[AZ (by omega)];simp;omega
 ·rw[AZ (by omega)];exact Et (by omega)
 rintro next ⟨p,l⟩ ⟨h1,h2,h3⟩ hn
 simp only at h1 h2 h3
 refine .ite (fun h=>?_) fun h=>hk _ ⟨by simp at h;omega,fun j hj=>h3 j (by simp at h;omega)⟩
 simp only[decide_eq_true_eq] at h
 obtain⟨k,rfl⟩ :∃k:Nat,p=k:=⟨p.toNat,by omega⟩
 refine .join (fun w:UInt64=>w=if k ≥ 8 then a.Hi else a.Lo) (fun k' hk'=>.ite (fun h=>hk' _ (by rw[if_pos (by simp at h;omega)]) ) fun h=>hk' _ (by rw[if_neg (by simp at h;omega)])) fun w hw=>?_
 refine .bind (Ok.apnd (by decide) (by simp;omega)) fun l' hl'=>?_
 have hb:k<16:=by omega
 have ht:Int.tmod (k:Int) 8=((k%8:Nat):Int):=by rw[Int.tmod_eq_emod_of_nonneg (by omega)];omega
 rw[ht,Ql (Nat.mod_lt _ (by omega)),hw,OX hb hv (fun h4=>by unfold Addr.L at h2;simp[h4] at h2;omega)] at hl'
 subst hl'
 rw[AZ (by omega)]
 refine hn _ ⟨by simp only;omega,by simp;omega,fun j hj=>?_⟩ (by simp only;omega)
 simp only[X11,X22] at hj
 by_cases hj':j<l.length
 ·simp only
  rw[List.getElem?_append_left hj'];exact h3 j hj'
 have:j=l.length:=by omega
 subst this
 simp only[List.getElem?_append_right (Nat.le_refl _),Nat.sub_self,List.getElem?_cons_zero]
 congr 2
 omega
theorem OM {u v:Nat}(hu:u<2^64)(hv:v<256):AL ((BitVec.ofInt 64 ((AL ((u:Int)*(2^(min (Int.toNat 8) 64)))).toNat:Int) ||| BitVec.ofInt 64 ((AL (v:Int)).toNat:Int)).toNat:Int)=UInt64.ofNat (u*256+v):=by
 have h1:((u:Int)*(2^(min (Int.toNat 8) 64)))=((u*256:Nat):Int):=by
  have:min (Int.toNat 8) 64=8:=rfl
  rw[this];omega
 rw[h1,A4,A4,A4]
 have h2:(UInt64.ofNat v).toNat=v:=by simp only[UInt64.toNat_ofNat'];omega
 have h3:(UInt64.ofNat (u*256)).toNat=2^8*(u%2^56):=by simp only[UInt64.toNat_ofNat'];omega
 rw[h2,h3,BitVec.ofInt_natCast,BitVec.ofInt_natCast,BitVec.toNat_or,BitVec.toNat_ofNat,BitVec.toNat_ofNat,Nat.mod_eq_of_lt (show 2^8*(u%2^56)<2^64 by omega),Nat.mod_eq_of_lt (show v<2^64 by omega),
  ← Nat.two_pow_add_eq_or_of_lt (show v<2^8 by omega)]
 apply UInt64.toNat_inj.1
 simp only[UInt64.toNat_ofNat']
 omega
theorem IQ {l:List UInt8}(hl:l.length=4\/l.length=16):Ok (CU l) fun r=>r=(mkA (l.length==16) (val l%2^128),0):=by
 unfold CU
 refine .join (fun b=>b=false) (fun k hk=>.ite (fun h=>hk _ ?_) fun _=>hk _ rfl) fun b hb=>?_
 ·rcases hl with h' | h'<;>simp[h'] at h ⊢
 subst hb
 refine .ite (fun h=>by simp at h) fun _=>?_
 refine .join (fun a=>a=mkA (l.length==16) (val l%2^128)) (fun k hk=>?_) fun a ha=>.ret (by rw[ha])
 refine .forX (fun i s=>s=mkA (l.length==16) (val (l.take i)%2^128)) ?_ (fun s hs=>hk _ (by rw[hs,List.take_length])) ?_
 ·have:((l.length:Int)==16)=(l.length==16):=by rw[X28];simp only[beq_iff_eq];omega
  rw[this,List.take_zero]
  have e0:val []%2^128=0:=by simp[val]
  rw[e0]
  unfold mkA
  rfl
 rintro next x i s hx rfl hn
 refine hn _ ?_
 have hlt:=(X16.1 hx).1
 have ht:l.take (i+1)=l.take i++[x]:=by rw[List.take_add_one,hx];rfl
 rw[ht,Ip]
 generalize val (l.take i)=m
 have hx8:=x.toNat_lt
 have hlo:(mkA (l.length==16) (m%2^128)).Lo.toNat=m%2^64:=by unfold mkA;simp only[UInt64.toNat_ofNat'];omega
 have hhi:(mkA (l.length==16) (m%2^128)).Hi.toNat=m/2^64%2^64:=by unfold mkA;simp only[UInt64.toNat_ofNat'];omega
 have h1:=OM (u:=m%2^64) (v:=x.toNat) (by omega) hx8
 have h2:=OM (u:=m/2^64%2^64) (v:=m%2^64/2^56) (by omega) (by omega)
 have h3:Int.fdiv ((m%2^64:Nat):Int) (2^(min (Int.toNat 56) 64))=((m%2^64/2^56:Nat):Int):=by
  have:min (Int.toNat 56) 64=56:=rfl
  have e5:((2:Int)^56)=((2^56:Nat):Int):=by simp
  rw[this,e5,Int.fdiv_eq_ediv_of_nonneg _ (Int.natCast_nonneg _),Int.natCast_ediv]
 rw[hlo,hhi,h3,h1,h2,Ws]
 unfold mkA
 have e1:UInt64.ofNat (m/2^64%2^64*256+m%2^64/2^56)=UInt64.ofNat ((m*256+x.toNat)%2^128/2^64):=by
  apply UInt64.toNat_inj.1;simp only[UInt64.toNat_ofNat'];omega
 have e2:UInt64.ofNat (m%2^64*256+x.toNat)=UInt64.ofNat ((m*256+x.toNat)%2^128):=by
  apply UInt64.toNat_inj.1;simp only[UInt64.toNat_ofNat'];omega
 rw[e1,e2]
theorem QN :∀(l:List UInt8) (q:Nat),(val l).testBit q=if q<8*l.length then (l.getD (l.length-1-q/8) 0).toNat.testBit (q%8) else false:=by
 intro l
 induction h:l.length generalizing l with
 | zero=>intro q;have:l=[]:=List.eq_nil_of_length_eq_zero h;subst this;simp[val]
 | succ n ih=>
  intro q
  obtain⟨l',x,rfl⟩ :∃l' x,l=l'++[x]:=by
   rcases List.eq_nil_or_concat l with h' | ⟨l',x,h'⟩
   ·subst h';simp at h
   exact⟨l',x,by simpa using h'⟩
  have hl':l'.length=n:=by simpa using h
  rw[Ip,Nat.mul_comm,show (256:Nat)=2^8 from rfl,Nat.testBit_two_pow_mul_add _ (show x.toNat<2^8 from x.toNat_lt)]
  by_cases hq:q<8
  ·rw[if_pos hq,if_pos (by omega)]
   have e1:n+1-1-q/8=l'.length:=by omega
   rw[e1,Nat.mod_eq_of_lt hq]
   simp[List.getD_eq_getElem?_getD]
  rw[if_neg hq,ih l' hl']
  by_cases h2:q-8<8*n
  ·rw[if_pos h2,if_pos (by omega)]
   have e1:n-1-(q-8)/8=n+1-1-q/8:=by omega
   have e2:(q-8)%8=q%8:=by omega
   rw[e1,e2,List.getD_eq_getElem?_getD,List.getD_eq_getElem?_getD,List.getElem?_append_left (by omega)]
  rw[if_neg h2,if_neg (by omega)]
theorem Sl {x:UInt8}{r:Nat}(hr:r<8){s:Nat}(hs:s<8) :
  (Ab ((BitVec.ofInt 8 (x.toNat:Int) &&& ~~~BitVec.ofInt 8 ((Ab (Int.fdiv 128 (2^(min (Int.toNat ((AL (r:Int)).toNat:Int)) 8)))).toNat:Int)).toNat:Int)).toNat.testBit s=(x.toNat.testBit s&&!decide (7-r=s)):=by
 have h1:(AL (r:Int)).toNat=r:=by rw[A4];simp;omega
 have h2:Int.fdiv 128 ((2:Int)^r)=((2^(7-r):Nat):Int):=by
  have e1:((2:Int)^r)=((2^r:Nat):Int):=by simp
  have e2:(128:Int)=((128:Nat):Int):=rfl
  rw[e1,e2,Int.fdiv_eq_ediv_of_nonneg _ (Int.natCast_nonneg _),<- Int.natCast_ediv]
  congr 1
  have e3:(128:Nat)=2^(7-r)*2^r:=by rw[<- Nat.pow_add,show 7-r+r=7 by omega]
  rw[e3,Nat.mul_div_cancel _ (Nat.two_pow_pos r)]
 rw[h1,Int.toNat_natCast,Nat.min_eq_left (by omega),h2,Bj,Bj,BitVec.ofInt_natCast,BitVec.ofInt_natCast]
 have hp:2^(7-r)<256:=Nat.lt_of_le_of_lt (Nat.pow_le_pow_right (by omega) (show 7-r<=7 by omega)) (by decide)
 have h3:(UInt8.ofNat (2^(7-r))).toNat=2^(7-r):=by simp only[UInt8.toNat_ofNat'];exact Nat.mod_eq_of_lt hp
 rw[h3,UInt8.toNat_ofNat',Nat.testBit_mod_two_pow,BitVec.testBit_toNat]
 simp only[BitVec.getLsbD_and,BitVec.getLsbD_not,BitVec.getLsbD_ofNat,hs,decide_true,Bool.true_and,Nat.testBit_two_pow]
theorem Addr.cut_bit (a:Addr){n q:Nat}(hn:n<=a.w):(a.n/2^(a.w-n)*2^(a.w-n)).testBit q=(a.n.testBit q&&decide (a.w-n<=q)):=by
 rw[Nat.testBit_mul_two_pow,Nat.testBit_div_two_pow]
 by_cases h:a.w-n<=q
 ·simp[h]
 simp[h]
theorem T9 {b c:Bool}(h:cond b c false=true):b=true/\c=true:=by cases b<;>simp at h ⊢;exact h
theorem Addr.ok4 {a:Addr}(hv:a.ok=true)(h6:a.V6=false):a.Hi.toNat=0/\a.Lo.toNat<2^32:=by
 unfold Addr.ok at hv
 rw[h6] at hv
 obtain⟨h1,h2⟩:=T9 hv
 have h2:=of_decide_eq_true h2
 have h1:=eq_of_beq h1
 omega
theorem Addr.n_lt {a:Addr}(hv:a.ok=true):a.n<2^a.w:=by
 have h1:=a.Lo.toNat_lt
 have h2:=a.Hi.toNat_lt
 cases hv6:a.V6
 ·obtain⟨g1,g2⟩:=Addr.ok4 hv hv6
  have hw:a.w=32:=by unfold Addr.w;rw[hv6];rfl
  have hn:a.n=a.Lo.toNat:=by unfold Addr.n;rw[g1,Nat.zero_mul,Nat.zero_add]
  rw[hw,hn];exact g2
 have hw:a.w=128:=by unfold Addr.w;rw[hv6];rfl
 rw[hw]
 unfold Addr.n
 omega
theorem NB {a:Addr}{n:Nat}(hv:a.ok=true)(hn:n<=a.w):Ok (DW a (n:Int)) fun r=>r=(⟨a.cut n,n⟩,0):=by
 have hw:a.w=8*a.L:=by unfold Addr.w Addr.L;split<;>rfl
 have hL:a.L=16\/a.L=4:=by unfold Addr.L;split<;>simp
 unfold DW
 rw[E3,AA,hv]
 refine .ite (fun h=>by simp at h) fun _=>?_
 have hwid:C7 a=some (a.w:Int):=by unfold C7 Addr.w;split<;>rfl
 refine .join (fun b=>b=false) (fun k hk=>.ite (fun h=>by simp at h;omega) fun _=>?_) fun b hb=>?_
 ·rw[hwid,AA]
  refine hk _ ?_
  simp only[cond_false,decide_eq_false_iff_not]
  omega
 subst hb
 refine .ite (fun h=>by simp at h) fun _=>?_
 refine .bind (FK hv) fun l hl=>?_
 refine .join (fun l:List UInt8=>l.length=a.L/\val l=a.n/2^(a.w-n)*2^(a.w-n)) (fun k hk=>?_) fun l' hl'=>?_
 ·refine .whileI (fun s:Int×List UInt8=>∃P:Nat,s.1=P/\n<=P/\P<=8*a.L/\s.2.length=a.L/\∀q,q<8*a.L->(s.2.getD (a.L-1-q/8) 0).toNat.testBit (q%8)=(a.n.testBit q&&!decide (8*a.L-P<=q/\q<8*a.L-n)))
   (fun s=>(8*a.L-s.1).toNat) ⟨n,rfl,Nat.le_refl _,by omega,hl.1,fun q hq=>?_⟩ (Et (by simp only;omega)) ?_
  ·have h1:a.L-1-q/8<a.L:=by omega
   have h2:=hl.2 _ h1
   have h3:a.L-1-(a.L-1-q/8)=q/8:=by omega
   have h4:¬ (8*a.L-n<=q/\q<8*a.L-n):=by omega
   rw[List.getD_eq_getElem?_getD,h2,h3]
   simp only[Option.getD_some,h4,decide_false,Bool.not_false,Bool.and_true]
   unfold JL
   rw[UInt8.toNat_ofNat',Nat.testBit_mod_two_pow,Nat.testBit_div_two_pow,Nat.mod_add_div]
   simp[Nat.mod_lt]
  rintro next ⟨p,l⟩ ⟨P,h1,h2,h3,h4,h5⟩ hnx
  simp only at h1 h4 h5
  subst h1
  have e8:AT (8*(l.length:Int))=((8*a.L:Nat):Int):=by rw[AZ (by omega)];omega
  refine .ite (fun h=>?_) fun h=>hk _ ?_
  ·rw[e8] at h
   simp only[decide_eq_true_eq] at h
   have ed:AT (Int.tdiv (P:Int) 8)=((P/8:Nat):Int):=by
    rw[Int.tdiv_eq_ediv_of_nonneg (by omega),AZ (by omega)];omega
   have et:Int.tmod (P:Int) 8=((P%8:Nat):Int):=by rw[Int.tmod_eq_emod_of_nonneg (by omega)];omega
   have hlt:P/8<l.length:=by omega
   rw[ed,CV hlt,AA,AA]
   refine .bind (Ok.seti (by omega)) fun l' hl'=>?_
   rw[Int.toNat_natCast,et] at hl'
   rw[AZ (by omega)]
   refine hnx _ ⟨P+1,by simp only;omega,by omega,by omega,by simp only;omega,fun q hq=>?_⟩ (by simp only;omega)
   simp only
   rw[hl'.1]
   by_cases hb:a.L-1-q/8=P/8
   ·have hx:=h5 q hq
    rw[hb,List.getD_eq_getElem?_getD,X15 hlt,Option.getD_some] at hx
    rw[hb,List.getD_eq_getElem?_getD,List.getElem?_set_self (by omega),Option.getD_some,Sl (Nat.mod_lt _ (by omega)) (Nat.mod_lt _ (by omega)),hx,Bool.and_assoc]
    congr 1
    rw[X28]
    simp only[X27,Bool.not_eq_true',decide_eq_false_iff_not]
    omega
   have hx:=h5 q hq
   rw[List.getD_eq_getElem?_getD] at hx
   rw[List.getD_eq_getElem?_getD,List.getElem?_set_ne (by omega),hx]
   congr 2
   rw[decide_eq_decide]
   omega
  rw[e8] at h
  simp only[decide_eq_true_eq] at h
  have hP:P=8*a.L:=by omega
  subst hP
  refine⟨h4,?_⟩
  apply Nat.eq_of_testBit_eq
  intro q
  rw[QN,a.cut_bit hn,h4]
  by_cases hq:q<8*a.L
  ·rw[if_pos hq,h5 q hq]
   congr 1
   rw[X28]
   simp only[Bool.not_eq_true',decide_eq_false_iff_not,decide_eq_true_eq]
   omega
  rw[if_neg hq]
  have:a.n.testBit q=false:=Nat.testBit_lt_two_pow (Nat.lt_of_lt_of_le (Addr.n_lt hv) (Nat.pow_le_pow_right (by omega) (by omega)))
  rw[this,Bool.false_and]
 refine .bind (IQ (by omega)) fun r hr=>?_
 subst hr
 refine .ret ?_
 have e1:(l'.length==16)=a.V6:=by
  rw[hl'.1]
  unfold Addr.L
  cases a.V6<;>rfl
 have e2:val l'%2^128=val l':=by
  refine Nat.mod_eq_of_lt ?_
  rw[hl'.2]
  exact Nat.lt_of_le_of_lt (Nat.div_mul_le_self _ _) (Nat.lt_of_lt_of_le (Addr.n_lt hv) (Nat.pow_le_pow_right (by omega) (by rw[hw];omega)))
 rw[e1,e2,hl'.2,Addr.cut]
theorem L2 {a:Addr}{n:Int}(hn:¬ (a.ok=true/\0<=n/\n<=a.w)):Ok (DW a n) fun r=>r.2≠0:=by
 have hwid:C7 a=some (a.w:Int):=by unfold C7 Addr.w;split<;>rfl
 unfold DW
 rw[E3,AA]
 refine .ite (fun _=>.ret (by decide)) fun hv=>?_
 have hv:a.ok=true:=by simpa using hv
 refine .join (fun b=>b=true) (fun k hk=>.ite (fun _=>hk _ rfl) fun h=>?_) fun b hb=>?_
 ·rw[hwid,AA]
  refine hk _ ?_
  show decide (n > (a.w:Int))=true
  simp at h ⊢
  have:¬ (0<=n/\n<=a.w):=fun q=>hn ⟨hv,q⟩
  omega
 subst hb
 exact .ite (fun _=>.ret (by decide)) fun h=>absurd rfl h
theorem ID (a:Addr)(n:Int) :∃r e,DW a n=some (r,e)/\((a.ok=true/\0<=n/\n<=a.w)/\e=0/\r=⟨a.cut n.toNat,n⟩\/¬ (a.ok=true/\0<=n/\n<=a.w)/\e≠0):=by
 by_cases h:a.ok=true/\0<=n/\n<=a.w
 ·obtain⟨k,rfl⟩ :∃k:Nat,n=k:=⟨n.toNat,by omega⟩
  obtain⟨r,h1,h2⟩:=NB h.1 (n:=k) (by omega)
  exact⟨_,_,by rw[h1,h2],.inl ⟨h,rfl,by rw[Int.toNat_natCast]⟩⟩
 obtain⟨r,h1,h2⟩:=L2 h
 exact⟨r.1,r.2,h1,.inr ⟨h,h2⟩⟩
instance (a:Addr) (n:Int):Tt (DW a n):=by
 obtain⟨r,e,h,_⟩:=ID a n
 exact⟨_,h⟩
instance (p:Yb):Tt (Dk p):=by unfold Dk;exact Tt.auto
structure SmA (n:Nat)(a:YY):Prop where
 p:a.Path.length<=n
 s :∀s∈a.Path,s.ASNs.length<=n
 c:a.Communities.length<=n
 l:a.Ye.length<=n
 o:a.Other.length<=n
 d :∀u∈a.Other,u.Data.length<=n
theorem SmA.mono {n m:Nat}{a:YY}(h:SmA n a)(hnm:n<=m):SmA m a:=
 ⟨Nat.le_trans h.p hnm,fun s hs=>Nat.le_trans (h.s s hs) hnm,Nat.le_trans h.c hnm,Nat.le_trans h.l hnm,Nat.le_trans h.o hnm,fun u hu=>Nat.le_trans (h.d u hu) hnm⟩
theorem SmA.zero (n:Nat)(x:Addr)(a b c d:Int):SmA n ⟨a,[],x,b,c,d,[],[],[]⟩:=⟨Nat.zero_le _,fun _ h=>absurd h (by simp),Nat.zero_le _,Nat.zero_le _,Nat.zero_le _,fun _ h=>absurd h (by simp)⟩
instance (a b:List Yd):Tt (DY a b):=by
 unfold DY
 refine Ok.tt (Q:=fun _=>True) (.ite (fun _=>.ret trivial) fun hl=>.join (fun _=>True) (fun k hk=>?_) fun _ _=>.ret trivial)
 have hl:a.length=b.length:=by simp at hl;omega
 refine .for_ (fun _=>hk _ trivial) fun next x i s hi hx hnx=>.join (fun _=>True) (fun k2 hk2=>?_) fun _ _=>hnx _
 have hib:i<b.length:=by omega
 refine .join (fun c=>c=false->x.ASNs.length=b[i].ASNs.length) (fun k3 hk3=>?_) fun c hc=>.ite (fun _=>.ret trivial) fun hc'=>.join (fun _=>True) (fun k4 hk4=>?_) fun _ _=>hk2 _ trivial
 ·rw[CV hib,AA]
  refine .ite (fun _=>hk3 _ (by simp)) fun _=>?_
  rw[AA]
  exact hk3 _ fun h=>by simp at h;omega
 have:=hc (by simpa using hc')
 refine .for_ (fun _=>hk4 _ trivial) fun next y j s hj hy hny=>?_
 rw[CV hib,AA]
 refine .bind (.geti (by omega)) fun _ _=>.ite (fun _=>.ret trivial) fun _=>hny _
instance (a b:YY):Tt (C9 a b):=by unfold C9;exact Tt.auto
theorem RF {K V:Type}[BEq K](hl :∀a b:K,(a==b)=true↔a=b){l:List (K×V)}{k k':K}{v:V}:B8 (M4 l k v) k'=cond (k'==k) (some v) (B8 l k'):=by
 induction l with
 | nil=>simp only[M4,B8];cases k'==k<;>rfl
 | cons p l ih=>
  simp only[M4]
  cases h:(k==p.1)
  ·simp only[Bool.false_eq_true,if_false,B8,ih]
   cases h2:(k'==p.1)
   ·simp
   have h3:(k'==k)=false:=by
    cases h4:(k'==k)
    ·rfl
    have e1:=(hl _ _).1 h2;have e2:=(hl _ _).1 h4
    rw[<- e2,e1,(hl _ _).2 rfl] at h
    simp at h
   rw[h3];simp
  simp only[if_true,B8]
  have e:=(hl _ _).1 h
  rw[<- e]
  cases k'==k<;>simp
theorem mget_mset {V:Type}{l:List (Int×V)}{k k':Int}{v:V}:B8 (M4 l k v) k'=if k'=k then some v else B8 l k':=by
 rw[RF (fun a b=>beq_iff_eq)]
 by_cases h:k'=k
 ·rw[if_pos h,h];simp
 rw[if_neg h,show (k'==k)=false by simpa using h];rfl
def Mb (n:Nat)(ks:List Int)(m:List (Int×List UInt8)):Prop:=(∀k v,B8 m k=some v->v.length<=n)/\∀k∈ks,B8 m k=none
theorem Mb.set {n:Nat}{ks ks':List Int}{m:List (Int×List UInt8)}{k:Int}{v:List UInt8}(h:Mb n ks m)(hv:v.length<=n)(hk :∀q∈ks',q∈ks/\q≠k):Mb n ks' (M4 m k v):=by
 refine⟨fun q u hq=>?_,fun q hq=>?_⟩
 ·rw[mget_mset] at hq
  split at hq
  ·obtain rfl:=X25 hq;exact hv
  exact h.1 _ _ hq
 rw[mget_mset,if_neg (hk q hq).2]
 exact h.2 q (hk q hq).1
theorem Mb.sub {n:Nat}{ks ks':List Int}{m:List (Int×List UInt8)}(h:Mb n ks m)(hk :∀q∈ks',q∈ks):Mb n ks' m:=⟨h.1,fun q hq=>h.2 q (hk q hq)⟩
def Eb (p:Yb):Prop:=p.Addr.ok=true/\0<=p.Len/\p.Len<=p.Addr.w/\p.Addr.cut p.Len.toNat=p.Addr
theorem Addr.eqd_iff (a b:Addr):Addr.eqd a b=true↔a=b:=by
 unfold Addr.eqd
 simp only[X27,beq_iff_eq,Bool.and_true,Int.natCast_inj,UInt64.toNat_inj]
 constructor
 ·rintro⟨h1,h2,h3⟩;cases a;cases b;simp_all
 rintro rfl;exact⟨rfl,rfl,rfl⟩
theorem Yb.eqd_iff (a b:Yb):Yb.eqd a b=true↔a=b:=by
 have h:=Addr.eqd_iff a.Addr b.Addr
 unfold Addr.eqd at h
 unfold Yb.eqd
 rw[X27,h]
 simp only[Bool.and_true,beq_iff_eq]
 constructor
 ·rintro⟨h1,h2⟩;cases a;cases b;simp_all
 rintro rfl;exact⟨rfl,rfl⟩
theorem MG (p:Yb):Ok (Dk p) fun b=>b=true↔Eb p:=by
 obtain⟨r,e,h1,h2⟩:=ID p.Addr p.Len
 unfold Dk
 rw[h1,AA]
 dsimp only
 unfold Eb
 rcases h2 with ⟨h3,rfl,rfl⟩|⟨h3,h4⟩
 ·refine .join (fun b=>b=true↔p.Addr.cut p.Len.toNat=p.Addr) (fun k hk=>.ite (fun _=>hk _ ?_) fun h=>absurd rfl h) fun b hb=>.ret (by rw[hb];exact⟨fun h=>⟨h3.1,h3.2.1,h3.2.2,h⟩,fun h=>h.2.2.2⟩)
  show Yb.eqd p _=true↔_
  rw[Yb.eqd_iff]
  exact⟨fun h=>(congrArg Yb.Addr h).symm,fun h=>by rw[h]⟩
 refine .join (fun b=>b=false) (fun k hk=>.ite (fun h=>absurd (by simpa using h) h4) fun _=>hk _ rfl) fun b hb=>.ret ⟨fun h=>by rw[hb] at h;simp at h,fun h=>absurd ⟨h.1,h.2.1,h.2.2.1⟩ h3⟩
def Sh (p:List Yd)(o:List YX):Prop:=(p.length<=4/\∀s∈p,s.ASNs.length<=20)/\o.length<=4/\∀u∈o,u.Data.length<=4
theorem Sh.a {p:List Yd}{o:List YX}(h:Sh p o){a b c d:Int}{x:Addr}{e:List YZ}{f:List Ye}(he:e.length<=8)(hf:f.length<=8):SmA 1000 ⟨a,p,x,b,c,d,e,f,o⟩:=
 ⟨by have:=h.1.1;simp only;omega,fun s hs=>by have:=h.1.2 s hs;omega,by simp only;omega,by simp only;omega,by have:=h.2.1;simp only;omega,fun u hu=>by have:=h.2.2 u hu;omega⟩
def pk (n:UInt8):Nat:=(n.toNat+7)/8
def XH (b:List UInt8):Option (List UInt8×List UInt8):=match b with
 | x::y::t=>if t.length<x.toNat*256+y.toNat then none else some (t.take (x.toNat*256+y.toNat),t.drop (x.toNat*256+y.toNat))
 | _=>none
def Oo (l:List YX)(k:Int):List YX:=l.filter fun x=>x.Type_==k
def zAd:Addr:=⟨false,(0:UInt64),(0:UInt64)⟩
def Ni (b:List UInt8):List UInt8×List UInt8×Bool:=match XH b with
 | none=>([],[],false)
 | some (p,r)=>(p,r,true)
theorem Vy (x y:UInt8)(t:List UInt8):E6 (x::y::t)=some ((x.toNat*256+y.toNat:Nat):Int):=by
 unfold E6
 have hx:=x.toNat_lt
 rw[Wx,AA,W0,AA,Qu (by omega) y.toNat_lt]
theorem DU (a:Addr):Db a=some a.ok:=by
 unfold Db Addr.ok
 rw[AG]
 generalize ((a.Hi.toNat:Int)==0)=x
 generalize decide ((a.Lo.toNat:Int)<4294967296)=y
 generalize a.V6=z
 cases z<;>cases x<;>rfl
theorem Ks (a:Addr):BQ a=some (a.w:Int):=by unfold BQ Addr.w;split<;>rfl
theorem Uc (a b:List UInt8):bytes_Equal a b=some (a==b):=by
 unfold bytes_Equal
 rw[NZ,NZ]
theorem TU {α σ ρ:Type}{K:σ->Option ρ}{b:(σ->Option ρ)->α->Nat->σ->Option ρ}{x:α}{t:List α}{i:Nat}{s:σ}:Ah K b (x::t) i s=b (fun s=>Ah K b t (i+1) s) x i s:=rfl
def wr (x:YX)(n:Int):Bool:=decide (n > 0)&&(bt x.Flags 192 != 128)
end Go.AX.Q19
end
