/-
  The plain forms of the functions (written by a program of mine out of the seat's translation).
-/
import Derived.Test.YtoankoojoeaooaaAx19
namespace Go.AX.Q23
open Go Go.AX
set_option linter.unusedVariables false
structure A5_Int where
  e0 : Int
  e1 : Int
  e2 : Int
  e3 : Int
  e4 : Int
def A5_Int.toD (x : A5_Int) : D := .agg [D.i x.e0, D.i x.e1, D.i x.e2, D.i x.e3, D.i x.e4]
def A5_Int.av (x : A5_Int) : List AV := [.d (D.i x.e0), .d (D.i x.e1), .d (D.i x.e2), .d (D.i x.e3), .d (D.i x.e4)]
def A5_Int.wf (x : A5_Int) : Prop := I64 x.e0 ∧ I64 x.e1 ∧ I64 x.e2 ∧ I64 x.e3 ∧ I64 x.e4 ∧ True
structure Community where
  A : Int
  B : Int
def Community.toD (x : Community) : D := .agg [D.i x.A, D.i x.B]
def Community.av (x : Community) : List AV := [.d (D.i x.A), .d (D.i x.B)]
def Community.wf (x : Community) : Prop := I64 x.A ∧ I64 x.B ∧ True
def Community.eqd (x y : Community) : Bool := ((x.A == y.A) && ((x.B == y.B) && true))
structure Large where
  A : Int
  B : Int
  C : Int
def Large.toD (x : Large) : D := .agg [D.i x.A, D.i x.B, D.i x.C]
def Large.av (x : Large) : List AV := [.d (D.i x.A), .d (D.i x.B), .d (D.i x.C)]
def Large.wf (x : Large) : Prop := I64 x.A ∧ I64 x.B ∧ I64 x.C ∧ True
def Large.eqd (x y : Large) : Bool := ((x.A == y.A) && ((x.B == y.B) && ((x.C == y.C) && true)))
structure Segment where
  Set : Bool
  ASNs : List Int
def Segment.toD (x : Segment) : D := .agg [D.b x.Set, D.l 1 D.i x.ASNs]
def Segment.av (x : Segment) : List AV := [.d (D.b x.Set), .d (D.l 1 D.i x.ASNs)]
def Segment.wf (x : Segment) : Prop := True ∧ (x.ASNs.length ≤ maxLen ∧ x.ASNs.length * 8 ≤ reachBytes ∧ ∀ y0 ∈ x.ASNs, I64 y0) ∧ True
structure Addr where
  V6 : Bool
  Hi : UInt64
  Lo : UInt64
def Addr.toD (x : Addr) : D := .agg [D.b x.V6, D.u64 x.Hi, D.u64 x.Lo]
def Addr.av (x : Addr) : List AV := [.d (D.b x.V6), .d (D.u64 x.Hi), .d (D.u64 x.Lo)]
def Addr.wf (x : Addr) : Prop := True ∧ True ∧ True ∧ True
def Addr.eqd (x y : Addr) : Bool := ((x.V6 == y.V6) && (((x.Hi.toNat : Int) == (y.Hi.toNat : Int)) && (((x.Lo.toNat : Int) == (y.Lo.toNat : Int)) && true)))
structure Unknown where
  Flags : Int
  Type_ : Int
  Data : List UInt8
def Unknown.toD (x : Unknown) : D := .agg [D.i x.Flags, D.i x.Type_, D.l 1 D.u8 x.Data]
def Unknown.av (x : Unknown) : List AV := [.d (D.i x.Flags), .d (D.i x.Type_), .d (D.l 1 D.u8 x.Data)]
def Unknown.wf (x : Unknown) : Prop := I64 x.Flags ∧ I64 x.Type_ ∧ (x.Data.length ≤ maxLen ∧ x.Data.length * 1 ≤ reachBytes ∧ ∀ y0 ∈ x.Data, True) ∧ True
structure Attrs where
  Origin : Int
  Path : List Segment
  Next : Addr
  MED : Int
  Pref : Int
  OTC : Int
  Communities : List Community
  Large : List Large
  Other : List Unknown
def Attrs.toD (x : Attrs) : D := .agg [D.i x.Origin, D.l 2 Segment.toD x.Path, D.b x.Next.V6, D.u64 x.Next.Hi, D.u64 x.Next.Lo, D.i x.MED, D.i x.Pref, D.i x.OTC, D.l 2 Community.toD x.Communities, D.l 3 Large.toD x.Large, D.l 3 Unknown.toD x.Other]
def Attrs.av (x : Attrs) : List AV := [.d (D.i x.Origin), .d (D.l 2 Segment.toD x.Path), .d (D.b x.Next.V6), .d (D.u64 x.Next.Hi), .d (D.u64 x.Next.Lo), .d (D.i x.MED), .d (D.i x.Pref), .d (D.i x.OTC), .d (D.l 2 Community.toD x.Communities), .d (D.l 3 Large.toD x.Large), .d (D.l 3 Unknown.toD x.Other)]
def Attrs.wf (x : Attrs) : Prop := I64 x.Origin ∧ (x.Path.length ≤ maxLen ∧ x.Path.length * 32 ≤ reachBytes ∧ ∀ y0 ∈ x.Path, Segment.wf y0) ∧ Addr.wf x.Next ∧ I64 x.MED ∧ I64 x.Pref ∧ I64 x.OTC ∧ (x.Communities.length ≤ maxLen ∧ x.Communities.length * 16 ≤ reachBytes ∧ ∀ y0 ∈ x.Communities, Community.wf y0) ∧ (x.Large.length ≤ maxLen ∧ x.Large.length * 24 ≤ reachBytes ∧ ∀ y0 ∈ x.Large, Large.wf y0) ∧ (x.Other.length ≤ maxLen ∧ x.Other.length * 40 ≤ reachBytes ∧ ∀ y0 ∈ x.Other, Unknown.wf y0) ∧ True
structure Hop where
  From : Int
  To : Int
  Role : Int
def Hop.toD (x : Hop) : D := .agg [D.i x.From, D.i x.To, D.i x.Role]
def Hop.av (x : Hop) : List AV := [.d (D.i x.From), .d (D.i x.To), .d (D.i x.Role)]
def Hop.wf (x : Hop) : Prop := I64 x.From ∧ I64 x.To ∧ I64 x.Role ∧ True
def Hop.eqd (x y : Hop) : Bool := ((x.From == y.From) && ((x.To == y.To) && ((x.Role == y.Role) && true)))
structure Deck where
  L : List Int
  At : Int
def Deck.toD (x : Deck) : D := .agg [D.l 1 D.i x.L, D.i x.At]
def Deck.av (x : Deck) : List AV := [.d (D.l 1 D.i x.L), .d (D.i x.At)]
def Deck.wf (x : Deck) : Prop := (x.L.length ≤ maxLen ∧ x.L.length * 8 ≤ reachBytes ∧ ∀ y0 ∈ x.L, I64 y0) ∧ I64 x.At ∧ True

def mill_Mod (a0 : Int) (a1 : Int) : Option Int :=
  Option.bind (chk (a1 ≠ 0)) fun _ =>
  joinP (τ := Int) (fun k3 =>
    if (decide ((Int.tmod a0 a1) < 0)) then
      k3 (i64w ((Int.tmod a0 a1) + a1))
    else
      k3 (Int.tmod a0 a1)
  ) fun v2 =>
  some v2

def role_inverse  : Option A5_Int :=
  some (⟨3, 2, 1, 0, 4⟩ : A5_Int)

def role_known (a0 : Int) : Option Bool :=
  joinP (τ := Bool) (fun k4 =>
    if (decide (a0 ≥ 0)) then
      Option.bind (role_inverse) fun v5 =>
      k4 (decide (a0 < 5))
    else
      k4 false
  ) fun v3 =>
  some v3

def role_Inverse (a0 : Int) : Option Int :=
  Option.bind (role_known a0) fun v1 =>
  if (!v1) then
    some (-1)
  else
    Option.bind (role_inverse) fun v3 =>
    Option.bind (geti [v3.e0, v3.e1, v3.e2, v3.e3, v3.e4] a0) fun v5 =>
    some v5

def ref23_Inverse (a0 : Int) : Option Int :=
  if (a0 == 0) then
    some 3
  else
    if (a0 == 3) then
      some 0
    else
      if (a0 == 1) then
        some 2
      else
        if (a0 == 2) then
          some 1
        else
          if (a0 == 4) then
            some 4
          else
            some (-1)

def role_Fits (a0 : Int) (a1 : Int) : Option Bool :=
  joinP (τ := Bool) (fun k6 =>
    Option.bind (role_known a0) fun v7 =>
    if v7 then
      Option.bind (role_Inverse a0) fun v9 =>
      k6 (a1 == v9)
    else
      k6 false
  ) fun v5 =>
  some v5

def ref23_Fits (a0 : Int) (a1 : Int) : Option Bool :=
  joinP (τ := Bool) (fun k6 =>
    Option.bind (ref23_Inverse a0) fun v7 =>
    if (v7 != (-1)) then
      Option.bind (ref23_Inverse a0) fun v9 =>
      k6 (a1 == v9)
    else
      k6 false
  ) fun v5 =>
  some v5

def role_number (a0 : Int) : Option Bool :=
  joinP (τ := Bool) (fun k2 =>
    if (decide (a0 ≥ 1)) then
      k2 (decide (a0 ≤ 4294967295))
    else
      k2 false
  ) fun v1 =>
  some v1

def clone_List_int (a0 : List Int) : Option (List Int) :=
  Option.bind (apnd (α := Int) 8 [] a0) fun _ =>
  some a0

def clone_List_byte (a0 : List UInt8) : Option (List UInt8) :=
  Option.bind (apnd (α := UInt8) 1 [] a0) fun _ =>
  some a0

def clone_List_api_Community (a0 : List Community) : Option (List Community) :=
  Option.bind (apnd (α := Community) 16 [] a0) fun _ =>
  some a0

def clone_List_api_Large (a0 : List Large) : Option (List Large) :=
  Option.bind (apnd (α := Large) 24 [] a0) fun _ =>
  some a0

def clone_Attrs (a0 : Attrs) : Option Attrs :=
  joinP (τ := (List Segment)) (fun k37 =>
    forR (σ := (List Segment)) (fun v59 =>
      k37 v59
    ) (fun next64 x61 i60 v59 =>
      Option.bind (clone_List_int x61.ASNs) fun v69 =>
      Option.bind (apnd (α := Segment) 32 v59 ([(⟨x61.Set, v69⟩ : Segment)] : List Segment)) fun v71 =>
      next64 v71
    ) a0.Path 0 []
  ) fun v36 =>
  joinP (τ := (List Unknown)) (fun k109 =>
    forR (σ := (List Unknown)) (fun v131 =>
      k109 v131
    ) (fun next136 x133 i132 v131 =>
      Option.bind (clone_List_byte x133.Data) fun v141 =>
      Option.bind (apnd (α := Unknown) 40 v131 ([{ x133 with Data := v141 }] : List Unknown)) fun v143 =>
      next136 v143
    ) a0.Other 0 []
  ) fun v108 =>
  Option.bind (clone_List_api_Community a0.Communities) fun v145 =>
  Option.bind (clone_List_api_Large a0.Large) fun v147 =>
  some ({ a0 with Path := v36, Communities := v145, Large := v147, Other := v108 })

def role_Receive (a0 : Int) (a1 : Int) (a2 : Attrs) : Option (Attrs × Int) :=
  joinP (τ := Bool) (fun k6 =>
    Option.bind (role_known a0) fun v7 =>
    if (!v7) then
      k6 true
    else
      Option.bind (role_number a1) fun v9 =>
      k6 (!v9)
  ) fun v5 =>
  if v5 then
    some ((⟨0, [], (⟨false, (0 : UInt64), (0 : UInt64)⟩ : Addr), 0, 0, 0, [], [], []⟩ : Attrs), 1)
  else
    joinP (τ := Bool) (fun k12 =>
      if (a0 == 0) then
        k12 true
      else
        k12 (a0 == 1)
    ) fun v11 =>
    joinP (τ := Bool) (fun k14 =>
      if v11 then
        if (a2.OTC != (-1)) then
          k14 true
        else
          if (a0 == 4) then
            if (a2.OTC != (-1)) then
              k14 (a2.OTC != a1)
            else
              k14 false
          else
            k14 false
      else
        if (a0 == 4) then
          if (a2.OTC != (-1)) then
            k14 (a2.OTC != a1)
          else
            k14 false
        else
          k14 false
    ) fun v13 =>
    if v13 then
      some ((⟨0, [], (⟨false, (0 : UInt64), (0 : UInt64)⟩ : Addr), 0, 0, 0, [], [], []⟩ : Attrs), 30)
    else
      Option.bind (clone_Attrs a2) fun v15 =>
      joinP (τ := Bool) (fun k18 =>
        if (!(a2.OTC != (-1))) then
          k18 (!v11)
        else
          k18 false
      ) fun v17 =>
      joinP (τ := Int) (fun k20 =>
        if v17 then
          k20 a1
        else
          k20 v15.OTC
      ) fun v19 =>
      some (({ v15 with OTC := v19 }), 0)

def role_Send (a0 : Int) (a1 : Int) (a2 : Attrs) : Option (Attrs × Int) :=
  joinP (τ := Bool) (fun k6 =>
    Option.bind (role_known a0) fun v7 =>
    if (!v7) then
      k6 true
    else
      Option.bind (role_number a1) fun v9 =>
      k6 (!v9)
  ) fun v5 =>
  if v5 then
    some ((⟨0, [], (⟨false, (0 : UInt64), (0 : UInt64)⟩ : Addr), 0, 0, 0, [], [], []⟩ : Attrs), 1)
  else
    joinP (τ := Bool) (fun k12 =>
      if (a0 == 0) then
        k12 true
      else
        k12 (a0 == 1)
    ) fun v11 =>
    joinP (τ := Bool) (fun k14 =>
      if (a2.OTC != (-1)) then
        k14 (!v11)
      else
        k14 false
    ) fun v13 =>
    if v13 then
      some ((⟨0, [], (⟨false, (0 : UInt64), (0 : UInt64)⟩ : Addr), 0, 0, 0, [], [], []⟩ : Attrs), 30)
    else
      Option.bind (clone_Attrs a2) fun v15 =>
      joinP (τ := Bool) (fun k18 =>
        if (!(a2.OTC != (-1))) then
          if v11 then
            k18 true
          else
            k18 (a0 == 4)
        else
          k18 false
      ) fun v17 =>
      joinP (τ := Int) (fun k20 =>
        if v17 then
          k20 a1
        else
          k20 v15.OTC
      ) fun v19 =>
      some (({ v15 with OTC := v19 }), 0)

def role_joined (a0 : List Hop) (a1 : Int) : Option Bool :=
  Option.bind (geti a0 a1) fun v1 =>
  joinP (τ := Bool) (fun k12 =>
    Option.bind (role_known v1.Role) fun v13 =>
    if v13 then
      Option.bind (role_number v1.From) fun v15 =>
      if v15 then
        Option.bind (role_number v1.To) fun v17 =>
        if v17 then
          if (a1 == 0) then
            k12 true
          else
            Option.bind (geti a0 (i64w (a1 - 1))) fun v19 =>
            k12 (v19.To == v1.From)
        else
          k12 false
      else
        k12 false
    else
      k12 false
  ) fun v11 =>
  some v11

def role_Travels (a0 : List Hop) : Option Bool :=
  joinP (τ := Unit) (fun k72 =>
    forR (σ := Attrs) (fun v118 =>
      k72 ()
    ) (fun next123 x120 i119 v118 =>
      Option.bind (role_joined a0 (i119 : Int)) fun v134 =>
      if (!v134) then
        some false
      else
        Option.bind (role_Send x120.Role x120.From v118) fun (v136, v137) =>
        if (v137 != 0) then
          some false
        else
          Option.bind (role_Inverse x120.Role) fun v139 =>
          Option.bind (role_Receive v139 x120.From v136) fun (v141, v142) =>
          if (v142 != 0) then
            some false
          else
            next123 v141
    ) a0 0 (⟨0, [], (⟨false, (0 : UInt64), (0 : UInt64)⟩ : Addr), 0, 0, (-1), [], [], []⟩ : Attrs)
  ) fun _ =>
  some true

def role_Valley (a0 : List Hop) : Option Bool :=
  joinP (τ := Unit) (fun k144 =>
    forR (σ := Bool) (fun v238 =>
      k144 ()
    ) (fun next243 x240 i239 v238 =>
      Option.bind (role_joined a0 (i239 : Int)) fun v266 =>
      if (!v266) then
        some false
      else
        joinP (τ := Bool) (fun k283 =>
          if (x240.Role == 4) then
            if v238 then
              some false
            else
              k283 true
          else
            joinP (τ := Bool) (fun k285 =>
              if (x240.Role == 0) then
                k285 (x240.Role == 0)
              else
                k285 (x240.Role == 1)
            ) fun v284 =>
            joinP (τ := Bool) (fun k287 =>
              if v284 then
                k287 true
              else
                if v238 then
                  some false
                else
                  k287 v238
            ) fun v286 =>
            k283 v286
        ) fun v282 =>
        next243 v282
    ) a0 0 false
  ) fun _ =>
  some true

def law23_awake  : Option Bool :=
  joinP (τ := Bool) (fun k12 =>
    Option.bind (role_Travels ([(⟨1, 2, 3⟩ : Hop), (⟨2, 3, 2⟩ : Hop), (⟨3, 4, 1⟩ : Hop), (⟨4, 5, 0⟩ : Hop)] : List Hop)) fun v13 =>
    if v13 then
      Option.bind (role_Travels ([(⟨1, 2, 4⟩ : Hop), (⟨2, 3, 4⟩ : Hop)] : List Hop)) fun v15 =>
      if (!v15) then
        Option.bind (role_Valley ([(⟨1, 2, 3⟩ : Hop), (⟨2, 3, 2⟩ : Hop), (⟨3, 4, 1⟩ : Hop), (⟨4, 5, 0⟩ : Hop)] : List Hop)) fun v17 =>
        if v17 then
          Option.bind (role_Valley ([(⟨1, 2, 4⟩ : Hop), (⟨2, 3, 4⟩ : Hop)] : List Hop)) fun v19 =>
          if (!v19) then
            Option.bind (role_Fits 1 2) fun v21 =>
            k12 v21
          else
            k12 false
        else
          k12 false
      else
        k12 false
    else
      k12 false
  ) fun v11 =>
  some v11

def law23_RolePairs (a0 : Int) (a1 : Int) : Option Bool :=
  Option.bind (mill_Mod a0 7) fun v1 =>
  Option.bind (mill_Mod a1 7) fun v3 =>
  joinP (τ := Unit) (fun k180 =>
    forR (σ := Unit) (fun _ =>
      k180 ()
    ) (fun next271 x268 i267 _ =>
      joinP (τ := Bool) (fun k335 =>
        Option.bind (geti x268 0) fun v336 =>
        Option.bind (role_Inverse v336) fun v338 =>
        Option.bind (geti x268 0) fun v340 =>
        Option.bind (ref23_Inverse v340) fun v342 =>
        if (v338 != v342) then
          k335 true
        else
          Option.bind (geti x268 0) fun v344 =>
          Option.bind (geti x268 1) fun v346 =>
          Option.bind (role_Fits v344 v346) fun v348 =>
          Option.bind (geti x268 0) fun v350 =>
          Option.bind (geti x268 1) fun v352 =>
          Option.bind (ref23_Fits v350 v352) fun v354 =>
          k335 (!(v348 == v354))
      ) fun v334 =>
      if v334 then
        some false
      else
        next271 ()
    ) ([([a0, a1] : List Int), ([(i64w (v1 - 1)), (i64w (v3 - 1))] : List Int)] : List (List Int)) 0 ()
  ) fun _ =>
  Option.bind (law23_awake) fun v356 =>
  some v356

def mill_Small (a0 : Attrs) : Option Bool :=
  joinP (τ := Int) (fun k13 =>
    forR (σ := Int) (fun v19 =>
      k13 v19
    ) (fun next24 x21 i20 v19 =>
      next24 (i64w (v19 + (i64w (1 + (x21.ASNs.length : Int)))))
    ) a0.Path 0 (i64w ((i64w ((a0.Communities.length : Int) + (a0.Large.length : Int))) + (a0.Other.length : Int)))
  ) fun v12 =>
  joinP (τ := Int) (fun k37 =>
    forR (σ := Int) (fun v43 =>
      k37 v43
    ) (fun next48 x45 i44 v43 =>
      next48 (i64w (v43 + (x45.Data.length : Int)))
    ) a0.Other 0 v12
  ) fun v36 =>
  some (decide (v36 ≤ 2000))

def mill_New (a0 : List Int) : Option Deck :=
  some (⟨a0, 0⟩ : Deck)

def ref18_Empty  : Option Attrs :=
  some (⟨(-1), [], (⟨false, (0 : UInt64), (0 : UInt64)⟩ : Addr), (-1), (-1), (-1), [], [], []⟩ : Attrs)

def mill_Deck_Next (a0 : Deck) (a1 : Int) : Option (Int × Deck) :=
  if (decide (a0.At ≥ (a0.L.length : Int))) then
    some (0, a0)
  else
    Option.bind (geti a0.L (i64w ((i64w (a0.At + 1)) - 1))) fun v1 =>
    Option.bind (mill_Mod v1 a1) fun v3 =>
    some (v3, (⟨a0.L, (i64w (a0.At + 1))⟩ : Deck))

def mill_Port (a0 : Int) (a1 : Bool) : Option Addr :=
  if a1 then
    some (⟨true, (2306139568115613695 : UInt64), (toU64 a0)⟩ : Addr)
  else
    some (⟨false, (0 : UInt64), (toU64 ((BitVec.ofInt 64 3221225984 ||| BitVec.ofInt 64 ((toU64 (i64w ((Int.tmod a0 250) + 1))).toNat : Int)).toNat : Int))⟩ : Addr)

def mill_Deck_Communities (a0 : Deck) : Option ((List Community) × Deck) :=
  Option.bind (mill_Deck_Next a0 65536) fun (v1, v2) =>
  joinP (τ := Deck × (List Community)) (fun k109 =>
    forR (σ := Deck × (List Community)) (fun (v176, v177) =>
      k109 (v176, v177)
    ) (fun next182 x179 i178 (v176, v177) =>
      joinP (τ := Bool × Deck) (fun k203 =>
        if ((i64w ((BitVec.ofInt 64 (Int.fdiv v1 (2 ^ (min (Int.toNat ((toU64 (i64w (2 * (i178 : Int)))).toNat : Int)) 64))) &&& BitVec.ofInt 64 3).toNat : Int)) == 3) then
          if (decide ((i178 : Int) < 6)) then
            k203 (true, v176)
          else
            Option.bind (mill_Deck_Next v176 2) fun (v204, v205) =>
            k203 ((v204 == 0), v205)
        else
          k203 (false, v176)
      ) fun (v201, v202) =>
      joinP (τ := (List Community)) (fun k210 =>
        if v201 then
          Option.bind (apnd (α := Community) 16 v177 ([x179] : List Community)) fun v211 =>
          k210 v211
        else
          k210 v177
      ) fun v209 =>
      next182 (v202, v209)
    ) ([(⟨0, 99⟩ : Community), (⟨0, 101⟩ : Community), (⟨0, 102⟩ : Community), (⟨99, 101⟩ : Community), (⟨99, 103⟩ : Community), (⟨500, 1⟩ : Community), (⟨65535, 666⟩ : Community), (⟨65535, 65282⟩ : Community)] : List Community) 0 (v2, [])
  ) fun (v107, v108) =>
  some (v108, v107)

def mill_Deck_Large (a0 : Deck) : Option ((List Large) × Deck) :=
  Option.bind (mill_Deck_Next a0 16384) fun (v1, v2) =>
  joinP (τ := (List Large)) (fun k52 =>
    forR (σ := (List Large)) (fun v82 =>
      k52 v82
    ) (fun next87 x84 i83 v82 =>
      joinP (τ := (List Large)) (fun k97 =>
        if ((i64w ((BitVec.ofInt 64 (Int.fdiv v1 (2 ^ (min (Int.toNat ((toU64 (i64w (2 * (i83 : Int)))).toNat : Int)) 64))) &&& BitVec.ofInt 64 3).toNat : Int)) == 3) then
          Option.bind (apnd (α := Large) 24 v82 ([x84] : List Large)) fun v98 =>
          k97 v98
        else
          k97 v82
      ) fun v96 =>
      next87 v96
    ) ([(⟨5, 5, 5⟩ : Large), (⟨99, 0, 0⟩ : Large), (⟨99, 0, 103⟩ : Large), (⟨99, 1, 102⟩ : Large), (⟨99, 101, 0⟩ : Large), (⟨99, 102, 104⟩ : Large), (⟨99, 103, 101⟩ : Large)] : List Large) 0 []
  ) fun v51 =>
  some (v51, v2)

def mill_Deck_Attrs (a0 : Deck) (a1 : Int) (a2 : Bool) : Option (Attrs × Deck) :=
  Option.bind (ref18_Empty) fun v1 =>
  Option.bind (mill_Deck_Next a0 3) fun (v3, v4) =>
  Option.bind (mill_Deck_Next v4 4) fun (v6, v7) =>
  joinP (τ := Deck × (List Int)) (fun k62 =>
    whileR (σ := Int × Deck × (List Int)) (fun next99 (v94, v95, v96) =>
      if (decide (v94 > 0)) then
        Option.bind (mill_Deck_Next v95 7) fun (v107, v108) =>
        Option.bind (geti ([a1, 101, 102, 201, 202, 203, 301] : List Int) v107) fun v110 =>
        Option.bind (apnd (α := Int) 8 v96 ([v110] : List Int)) fun v112 =>
        next99 ((i64w (v94 - 1)), v108, v112)
      else
        k62 (v95, v96)
    ) fuel (v6, v7, ([a1] : List Int))
  ) fun (v60, v61) =>
  Option.bind (mill_Port a1 a2) fun v114 =>
  Option.bind (mill_Deck_Next v60 3) fun (v116, v117) =>
  joinP (τ := Deck × Int) (fun k124 =>
    if (v116 == 0) then
      Option.bind (mill_Deck_Next v117 3) fun (v125, v126) =>
      k124 (v126, v125)
    else
      k124 (v117, v1.MED)
  ) fun (v122, v123) =>
  Option.bind (mill_Deck_Next v122 6) fun (v128, v129) =>
  joinP (τ := Deck × Int) (fun k136 =>
    if (v128 == 0) then
      Option.bind (mill_Deck_Next v129 300) fun (v137, v138) =>
      k136 (v138, v137)
    else
      k136 (v129, v1.Pref)
  ) fun (v134, v135) =>
  Option.bind (mill_Deck_Communities v134) fun (v140, v141) =>
  Option.bind (mill_Deck_Large v141) fun (v143, v144) =>
  Option.bind (mill_Deck_Next v144 24) fun (v146, v147) =>
  joinP (τ := Deck × (List Segment) × Bool × UInt64 × UInt64 × Int × (List Unknown)) (fun k3176 =>
    if (v146 == 0) then
      Option.bind (mill_Deck_Next v147 300) fun (v3177, v3178) =>
      k3176 (v3178, [(⟨false, v61⟩ : Segment)], v114.V6, v114.Hi, v114.Lo, (i64w (1 + v3177)), v1.Other)
    else
      joinP (τ := Deck × (List Segment) × Bool × UInt64 × UInt64 × (List Unknown)) (fun k3683 =>
        if (v146 == 1) then
          Option.bind (geti v61 0) fun v3684 =>
          Option.bind (seti v61 0 103) fun v3686 =>
          k3683 (v147, [(⟨false, v3686⟩ : Segment)], v114.V6, v114.Hi, v114.Lo, v1.Other)
        else
          joinP (τ := Deck × (List Segment) × Bool × UInt64 × UInt64 × (List Unknown)) (fun k3937 =>
            if (v146 == 2) then
              k3937 (v147, ((⟨false, v61⟩ : Segment) :: ([(⟨true, ([7, 9] : List Int)⟩ : Segment)] : List Segment)), v114.V6, v114.Hi, v114.Lo, v1.Other)
            else
              joinP (τ := Deck × (List Segment) × Bool × UInt64 × UInt64 × (List Unknown)) (fun k4063 =>
                if (v146 == 3) then
                  Option.bind (apnd (α := Int) 8 v61 ([99] : List Int)) fun v4064 =>
                  k4063 (v147, [(⟨false, v4064⟩ : Segment)], v114.V6, v114.Hi, v114.Lo, v1.Other)
                else
                  joinP (τ := Deck × (List Segment) × Bool × UInt64 × UInt64 × (List Unknown)) (fun k4126 =>
                    if (v146 == 4) then
                      Option.bind (mill_Port 104 a2) fun v4127 =>
                      k4126 (v147, [(⟨false, v61⟩ : Segment)], v4127.V6, v4127.Hi, v4127.Lo, v1.Other)
                    else
                      joinP (τ := Deck × (List Segment) × (List Unknown)) (fun k4156 =>
                        if (v146 == 5) then
                          Option.bind (apnd (α := Int) 8 v61 ([64512, 701] : List Int)) fun v4157 =>
                          k4156 (v147, [(⟨false, v4157⟩ : Segment)], v1.Other)
                        else
                          joinP (τ := Deck × (List Segment) × (List Unknown)) (fun k4171 =>
                            if (v146 == 6) then
                              k4171 (v147, [], v1.Other)
                            else
                              joinP (τ := Deck × (List Unknown)) (fun k4177 =>
                                if (v146 == 7) then
                                  Option.bind (mill_Deck_Next v147 256) fun (v4178, v4179) =>
                                  k4177 (v4179, [(⟨224, 99, ([(1 : UInt8), (toU8 v4178)] : List UInt8)⟩ : Unknown)])
                                else
                                  k4177 (v147, v1.Other)
                              ) fun (v4175, v4176) =>
                              k4171 (v4175, [(⟨false, v61⟩ : Segment)], v4176)
                          ) fun (v4168, v4169, v4170) =>
                          k4156 (v4168, v4169, v4170)
                      ) fun (v4153, v4154, v4155) =>
                      k4126 (v4153, v4154, v114.V6, v114.Hi, v114.Lo, v4155)
                  ) fun (v4120, v4121, v4122, v4123, v4124, v4125) =>
                  k4063 (v4120, v4121, v4122, v4123, v4124, v4125)
              ) fun (v4057, v4058, v4059, v4060, v4061, v4062) =>
              k3937 (v4057, v4058, v4059, v4060, v4061, v4062)
          ) fun (v3931, v3932, v3933, v3934, v3935, v3936) =>
          k3683 (v3931, v3932, v3933, v3934, v3935, v3936)
      ) fun (v3677, v3678, v3679, v3680, v3681, v3682) =>
      k3176 (v3677, v3678, v3679, v3680, v3681, v1.OTC, v3682)
  ) fun (v3169, v3170, v3171, v3172, v3173, v3174, v3175) =>
  some ((⟨v3, v3170, (⟨v3171, v3172, v3173⟩ : Addr), v123, v135, v3174, v140, v143, v3175⟩ : Attrs), v3169)

def ref23_bad (a0 : Int) (a1 : Int) : Option Bool :=
  joinP (τ := Bool) (fun k4 =>
    Option.bind (ref23_Inverse a0) fun v5 =>
    if (v5 == (-1)) then
      k4 true
    else
      if (decide (a1 < 1)) then
        k4 true
      else
        k4 (decide (a1 > 4294967295))
  ) fun v3 =>
  some v3

def ref23_Receive (a0 : Int) (a1 : Int) (a2 : Attrs) : Option (Attrs × Int) :=
  Option.bind (ref23_bad a0 a1) fun v1 =>
  if v1 then
    some ((⟨0, [], (⟨false, (0 : UInt64), (0 : UInt64)⟩ : Addr), 0, 0, 0, [], [], []⟩ : Attrs), 1)
  else
    joinP (τ := Bool) (fun k4 =>
      if (a0 == 3) then
        k4 true
      else
        k4 (a0 == 2)
    ) fun v3 =>
    joinP (τ := Bool) (fun k6 =>
      if (a2.OTC != (-1)) then
        if (!v3) then
          if (a0 != 4) then
            k6 true
          else
            k6 (a2.OTC != a1)
        else
          k6 false
      else
        k6 false
    ) fun v5 =>
    if v5 then
      some ((⟨0, [], (⟨false, (0 : UInt64), (0 : UInt64)⟩ : Addr), 0, 0, 0, [], [], []⟩ : Attrs), 30)
    else
      joinP (τ := Bool) (fun k8 =>
        if (a2.OTC == (-1)) then
          if v3 then
            k8 true
          else
            k8 (a0 == 4)
        else
          k8 false
      ) fun v7 =>
      joinP (τ := Int) (fun k10 =>
        if v7 then
          k10 a1
        else
          k10 a2.OTC
      ) fun v9 =>
      some (({ a2 with OTC := v9 }), 0)

def ref23_Send (a0 : Int) (a1 : Int) (a2 : Attrs) : Option (Attrs × Int) :=
  Option.bind (ref23_bad a0 a1) fun v1 =>
  if v1 then
    some ((⟨0, [], (⟨false, (0 : UInt64), (0 : UInt64)⟩ : Addr), 0, 0, 0, [], [], []⟩ : Attrs), 1)
  else
    joinP (τ := Bool) (fun k4 =>
      if (a0 == 0) then
        k4 true
      else
        k4 (a0 == 1)
    ) fun v3 =>
    joinP (τ := Bool) (fun k6 =>
      if (a2.OTC != (-1)) then
        k6 (!v3)
      else
        k6 false
    ) fun v5 =>
    if v5 then
      some ((⟨0, [], (⟨false, (0 : UInt64), (0 : UInt64)⟩ : Addr), 0, 0, 0, [], [], []⟩ : Attrs), 30)
    else
      joinP (τ := Bool) (fun k8 =>
        if (a2.OTC == (-1)) then
          if v3 then
            k8 true
          else
            k8 (a0 == 4)
        else
          k8 false
      ) fun v7 =>
      joinP (τ := Int) (fun k10 =>
        if v7 then
          k10 a1
        else
          k10 a2.OTC
      ) fun v9 =>
      some (({ a2 with OTC := v9 }), 0)

def ref23_SameInts (a0 : List Int) (a1 : List Int) : Option Bool :=
  if ((a0.length : Int) != (a1.length : Int)) then
    some false
  else
    joinP (τ := Unit) (fun k16 =>
      forR (σ := Unit) (fun _ =>
        k16 ()
      ) (fun next27 x24 i23 _ =>
        Option.bind (geti a1 (i23 : Int)) fun v30 =>
        if (x24 != v30) then
          some false
        else
          next27 ()
      ) a0 0 ()
    ) fun _ =>
    some true

def ref23_SameAttrs (a0 : Attrs) (a1 : Attrs) : Option Bool :=
  joinP (τ := Bool) (fun k2 =>
    if (a0.Origin != a1.Origin) then
      k2 true
    else
      if (!(Addr.eqd a0.Next a1.Next)) then
        k2 true
      else
        if (a0.MED != a1.MED) then
          k2 true
        else
          if (a0.Pref != a1.Pref) then
            k2 true
          else
            if (a0.OTC != a1.OTC) then
              k2 true
            else
              if ((a0.Path.length : Int) != (a1.Path.length : Int)) then
                k2 true
              else
                if ((a0.Communities.length : Int) != (a1.Communities.length : Int)) then
                  k2 true
                else
                  if ((a0.Large.length : Int) != (a1.Large.length : Int)) then
                    k2 true
                  else
                    k2 ((a0.Other.length : Int) != (a1.Other.length : Int))
  ) fun v1 =>
  if v1 then
    some false
  else
    joinP (τ := Unit) (fun k66 =>
      forR (σ := Unit) (fun _ =>
        k66 ()
      ) (fun next101 x98 i97 _ =>
        joinP (τ := Bool) (fun k123 =>
          Option.bind (geti a1.Path (i97 : Int)) fun v124 =>
          if (!(x98.Set == v124.Set)) then
            k123 true
          else
            Option.bind (geti a1.Path (i97 : Int)) fun v126 =>
            Option.bind (ref23_SameInts x98.ASNs v126.ASNs) fun v128 =>
            k123 (!v128)
        ) fun v122 =>
        if v122 then
          some false
        else
          next101 ()
      ) a0.Path 0 ()
    ) fun _ =>
    joinP (τ := Unit) (fun k145 =>
      forR (σ := Unit) (fun _ =>
        k145 ()
      ) (fun next156 x153 i152 _ =>
        Option.bind (geti a1.Communities (i152 : Int)) fun v159 =>
        if (!(Community.eqd x153 v159)) then
          some false
        else
          next156 ()
      ) a0.Communities 0 ()
    ) fun _ =>
    joinP (τ := Unit) (fun k176 =>
      forR (σ := Unit) (fun _ =>
        k176 ()
      ) (fun next187 x184 i183 _ =>
        Option.bind (geti a1.Large (i183 : Int)) fun v190 =>
        if (!(Large.eqd x184 v190)) then
          some false
        else
          next187 ()
      ) a0.Large 0 ()
    ) fun _ =>
    joinP (τ := Unit) (fun k255 =>
      forR (σ := Unit) (fun _ =>
        k255 ()
      ) (fun next290 x287 i286 _ =>
        joinP (τ := Bool) (fun k312 =>
          Option.bind (geti a1.Other (i286 : Int)) fun v313 =>
          if (x287.Flags != v313.Flags) then
            k312 true
          else
            Option.bind (geti a1.Other (i286 : Int)) fun v315 =>
            if (x287.Type_ != v315.Type_) then
              k312 true
            else
              Option.bind (geti a1.Other (i286 : Int)) fun v317 =>
              k312 (!((bs x287.Data).toList == (bs v317.Data).toList))
        ) fun v311 =>
        if v311 then
          some false
        else
          next290 ()
      ) a0.Other 0 ()
    ) fun _ =>
    some true

def law23_RoleMarks (a0 : Attrs) (a1 : Int) (a2 : Int) (a3 : Int) (a4 : List Int) : Option Bool :=
  Option.bind (mill_Small a0) fun v1 =>
  if (!v1) then
    Option.bind (law23_awake) fun v5 =>
    some v5
  else
    Option.bind (mill_New a4) fun v7 =>
    Option.bind (mill_Deck_Attrs v7 101 false) fun (v9, v10) =>
    Option.bind (mill_Mod a3 400) fun v12 =>
    Option.bind (mill_Mod a3 3) fun v14 =>
    Option.bind (geti ([(-1), 101, v12] : List Int) v14) fun v16 =>
    joinP (τ := Unit) (fun k1343 =>
      forR (σ := Unit) (fun _ =>
        k1343 ()
      ) (fun next2009 x2006 i2005 _ =>
        joinP (τ := Unit) (fun k2339 =>
          Option.bind (mill_Mod a1 5) fun v2340 =>
          Option.bind (mill_Mod a2 3) fun v2342 =>
          Option.bind (geti ([101, 102, 1] : List Int) v2342) fun v2344 =>
          Option.bind (mill_Mod a1 5) fun v2346 =>
          Option.bind (mill_Mod a2 400) fun v2348 =>
          joinP (τ := Unit) (fun k2509 =>
            forR (σ := Unit) (fun _ =>
              k2509 ()
            ) (fun next2592 x2589 i2588 _ =>
              Option.bind (geti x2589 0) fun v2631 =>
              Option.bind (geti x2589 1) fun v2633 =>
              Option.bind (role_Receive v2631 v2633 x2006) fun (v2635, v2636) =>
              Option.bind (geti x2589 0) fun v2638 =>
              Option.bind (geti x2589 1) fun v2640 =>
              Option.bind (ref23_Receive v2638 v2640 x2006) fun (v2642, v2643) =>
              Option.bind (geti x2589 0) fun v2645 =>
              Option.bind (geti x2589 1) fun v2647 =>
              Option.bind (role_Send v2645 v2647 x2006) fun (v2649, v2650) =>
              Option.bind (geti x2589 0) fun v2652 =>
              Option.bind (geti x2589 1) fun v2654 =>
              Option.bind (ref23_Send v2652 v2654 x2006) fun (v2656, v2657) =>
              joinP (τ := Bool) (fun k2664 =>
                if (v2636 != v2643) then
                  k2664 true
                else
                  if (v2650 != v2657) then
                    k2664 true
                  else
                    Option.bind (ref23_SameAttrs v2635 v2642) fun v2665 =>
                    if (!v2665) then
                      k2664 true
                    else
                      Option.bind (ref23_SameAttrs v2649 v2656) fun v2667 =>
                      k2664 (!v2667)
              ) fun v2663 =>
              if v2663 then
                some false
              else
                next2592 ()
            ) ([([a1, a2] : List Int), ([v2340, v2344] : List Int), ([v2346, (i64w (1 + v2348))] : List Int)] : List (List Int)) 0 ()
          ) fun _ =>
          k2339 ()
        ) fun _ =>
        next2009 ()
      ) ([{ v9 with OTC := v16 }, a0] : List Attrs) 0 ()
    ) fun _ =>
    Option.bind (law23_awake) fun v2669 =>
    some v2669

def law23_hops (a0 : Deck) : Option ((List Hop) × Deck) :=
  Option.bind (mill_Deck_Next a0 5) fun (v1, v2) =>
  Option.bind (mill_Deck_Next v2 9) fun (v4, v5) =>
  joinP (τ := Deck × (List Hop)) (fun k454 =>
    whileR (σ := Int × Int × Int × Deck × (List Hop)) (fun next755 (v748, v749, v750, v751, v752) =>
      if (decide (v750 > 0)) then
        Option.bind (mill_Deck_Next v751 6) fun (v828, v829) =>
        Option.bind (mill_Deck_Next v829 5) fun (v831, v832) =>
        Option.bind (geti ([([3, 2] : List Int), ([4, 0] : List Int), ([0, 1] : List Int)] : List (List Int)) (if (i64w (v831 - 2)) > v749 then (i64w (v831 - 2)) else v749)) fun v834 =>
        Option.bind (mill_Deck_Next v832 2) fun (v836, v837) =>
        Option.bind (geti v834 v836) fun v839 =>
        Option.bind (mill_Deck_Next v837 16) fun (v841, v842) =>
        joinP (τ := Deck × Hop) (fun k885 =>
          if (v841 == 0) then
            Option.bind (mill_Deck_Next v842 7) fun (v886, v887) =>
            k885 (v887, (⟨v748, (i64w (1 + v828)), (i64w (v886 - 1))⟩ : Hop))
          else
            joinP (τ := Deck × Int) (fun k894 =>
              if (v841 == 1) then
                Option.bind (mill_Deck_Next v842 4) fun (v895, v896) =>
                k894 (v896, v895)
              else
                k894 (v842, v748)
            ) fun (v892, v893) =>
            k885 (v892, (⟨v893, (i64w (1 + v828)), v839⟩ : Hop))
        ) fun (v883, v884) =>
        Option.bind (apnd (α := Hop) 24 v752 ([v884] : List Hop)) fun v898 =>
        next755 (v884.To, (if (i64w (v831 - 2)) > v749 then (i64w (v831 - 2)) else v749), (i64w (v750 - 1)), v883, v898)
      else
        k454 (v751, v752)
    ) fuel ((i64w (1 + v1)), 0, v4, v5, [])
  ) fun (v452, v453) =>
  some (v453, v452)

def ref23_joined (a0 : List Hop) : Option Bool :=
  joinP (τ := Unit) (fun k48 =>
    forR (σ := Unit) (fun _ =>
      k48 ()
    ) (fun next75 x72 i71 _ =>
      joinP (τ := Bool) (fun k91 =>
        Option.bind (ref23_bad x72.Role x72.From) fun v92 =>
        if v92 then
          k91 true
        else
          if (decide (x72.To < 1)) then
            k91 true
          else
            if (decide (x72.To > 4294967295)) then
              k91 true
            else
              if (decide ((i71 : Int) > 0)) then
                Option.bind (geti a0 (i64w ((i71 : Int) - 1))) fun v94 =>
                k91 (v94.To != x72.From)
              else
                k91 false
      ) fun v90 =>
      if v90 then
        some false
      else
        next75 ()
    ) a0 0 ()
  ) fun _ =>
  some true

def ref23_Travels (a0 : List Hop) : Option Bool :=
  joinP (τ := Unit) (fun k60 =>
    forR (σ := Attrs) (fun v98 =>
      k60 ()
    ) (fun next103 x100 i99 v98 =>
      Option.bind (ref23_Send x100.Role x100.From v98) fun (v112, v113) =>
      if (v113 != 0) then
        some false
      else
        Option.bind (ref23_Inverse x100.Role) fun v115 =>
        Option.bind (ref23_Receive v115 x100.From v112) fun (v117, v118) =>
        if (v118 != 0) then
          some false
        else
          next103 v117
    ) a0 0 (⟨0, [], (⟨false, (0 : UInt64), (0 : UInt64)⟩ : Addr), 0, 0, (-1), [], [], []⟩ : Attrs)
  ) fun _ =>
  Option.bind (ref23_joined a0) fun v120 =>
  some v120

def ref23_Valley (a0 : List Hop) : Option Bool :=
  joinP (τ := Int) (fun k37 =>
    whileR (σ := Int) (fun next62 v59 =>
      joinP (τ := Bool) (fun k68 =>
        if (decide (v59 < (a0.length : Int))) then
          Option.bind (geti a0 v59) fun v69 =>
          if (v69.Role == 3) then
            k68 true
          else
            Option.bind (geti a0 v59) fun v71 =>
            k68 (v71.Role == 2)
        else
          k68 false
      ) fun v67 =>
      if v67 then
        next62 (i64w (v59 + 1))
      else
        k37 v59
    ) fuel 0
  ) fun v36 =>
  joinP (τ := Bool) (fun k76 =>
    if (decide (v36 < (a0.length : Int))) then
      Option.bind (geti a0 v36) fun v77 =>
      k76 (v77.Role == 4)
    else
      k76 false
  ) fun v75 =>
  joinP (τ := Int) (fun k80 =>
    if v75 then
      k80 (i64w (v36 + 1))
    else
      k80 v36
  ) fun v79 =>
  joinP (τ := Int) (fun k117 =>
    whileR (σ := Int) (fun next142 v139 =>
      joinP (τ := Bool) (fun k148 =>
        if (decide (v139 < (a0.length : Int))) then
          Option.bind (geti a0 v139) fun v149 =>
          if (v149.Role == 0) then
            k148 true
          else
            Option.bind (geti a0 v139) fun v151 =>
            k148 (v151.Role == 1)
        else
          k148 false
      ) fun v147 =>
      if v147 then
        next142 (i64w (v139 + 1))
      else
        k117 v139
    ) fuel v79
  ) fun v116 =>
  joinP (τ := Bool) (fun k156 =>
    if (v116 == (a0.length : Int)) then
      Option.bind (ref23_joined a0) fun v157 =>
      k156 v157
    else
      k156 false
  ) fun v155 =>
  some v155

def law23_RoleWays (a0 : List Hop) (a1 : List Int) : Option Bool :=
  if (decide ((a0.length : Int) > 60)) then
    Option.bind (law23_awake) fun v3 =>
    some v3
  else
    Option.bind (mill_New a1) fun v5 =>
    Option.bind (law23_hops v5) fun (v7, v8) =>
    joinP (τ := Unit) (fun k89 =>
      forR (σ := Unit) (fun _ =>
        k89 ()
      ) (fun next132 x129 i128 _ =>
        joinP (τ := Bool) (fun k160 =>
          Option.bind (role_Travels x129) fun v161 =>
          Option.bind (ref23_Travels x129) fun v163 =>
          if (!(v161 == v163)) then
            k160 true
          else
            Option.bind (role_Valley x129) fun v165 =>
            Option.bind (ref23_Valley x129) fun v167 =>
            k160 (!(v165 == v167))
        ) fun v159 =>
        if v159 then
          some false
        else
          next132 ()
      ) ([a0, v7] : List (List Hop)) 0 ()
    ) fun _ =>
    Option.bind (law23_awake) fun v169 =>
    some v169

def law23_RoleValleys (a0 : List Hop) (a1 : List Int) : Option Bool :=
  if (decide ((a0.length : Int) > 60)) then
    Option.bind (law23_awake) fun v3 =>
    some v3
  else
    Option.bind (mill_New a1) fun v5 =>
    Option.bind (law23_hops v5) fun (v7, v8) =>
    joinP (τ := Unit) (fun k33 =>
      forR (σ := Unit) (fun _ =>
        k33 ()
      ) (fun next48 x45 i44 _ =>
        Option.bind (role_Travels x45) fun v53 =>
        Option.bind (role_Valley x45) fun v55 =>
        if (!(v53 == v55)) then
          some false
        else
          next48 ()
      ) ([a0, v7] : List (List Hop)) 0 ()
    ) fun _ =>
    Option.bind (law23_awake) fun v57 =>
    some v57

def law23_RoleDown (a0 : List Int) (a1 : Int) (a2 : Int) (a3 : Int) (a4 : Int) : Option Bool :=
  Option.bind (mill_New a0) fun v1 =>
  Option.bind (mill_Deck_Attrs v1 101 false) fun (v3, v4) =>
  Option.bind (mill_Mod a1 5) fun v6 =>
  Option.bind (mill_Mod a3 5) fun v8 =>
  Option.bind (mill_Mod a2 500) fun v10 =>
  Option.bind (mill_Mod a4 500) fun v12 =>
  Option.bind (role_Receive v6 (i64w (1 + v10)) v3) fun (v14, v15) =>
  if (v15 != 0) then
    joinP (τ := Bool) (fun k26 =>
      if (v15 == 30) then
        if (v3.OTC != (-1)) then
          Option.bind (law23_awake) fun v27 =>
          k26 v27
        else
          k26 false
      else
        k26 false
    ) fun v25 =>
    some v25
  else
    Option.bind (role_Send v8 (i64w (1 + v12)) v14) fun (v29, v30) =>
    joinP (τ := Bool) (fun k33 =>
      if (v6 == 3) then
        k33 true
      else
        if (v6 == 2) then
          k33 true
        else
          k33 (v6 == 4)
    ) fun v32 =>
    joinP (τ := Bool) (fun k35 =>
      if (v8 == 0) then
        k35 true
      else
        k35 (v8 == 1)
    ) fun v34 =>
    joinP (τ := Bool) (fun k37 =>
      if v32 then
        k37 (!v34)
      else
        k37 false
    ) fun v36 =>
    if v36 then
      some (v30 == 30)
    else
      joinP (τ := Bool) (fun k51 =>
        if (v14.OTC == (-1)) then
          if ((v30 == 0) == true) then
            if (v30 != 0) then
              Option.bind (law23_awake) fun v52 =>
              k51 v52
            else
              if (v14.OTC == (-1)) then
                Option.bind (law23_awake) fun v54 =>
                k51 v54
              else
                if (v29.OTC == v14.OTC) then
                  Option.bind (law23_awake) fun v56 =>
                  k51 v56
                else
                  k51 false
          else
            k51 false
        else
          if ((v30 == 0) == v34) then
            if (v30 != 0) then
              Option.bind (law23_awake) fun v58 =>
              k51 v58
            else
              if (v14.OTC == (-1)) then
                Option.bind (law23_awake) fun v60 =>
                k51 v60
              else
                if (v29.OTC == v14.OTC) then
                  Option.bind (law23_awake) fun v62 =>
                  k51 v62
                else
                  k51 false
          else
            k51 false
      ) fun v50 =>
      some v50
end Go.AX.Q23
