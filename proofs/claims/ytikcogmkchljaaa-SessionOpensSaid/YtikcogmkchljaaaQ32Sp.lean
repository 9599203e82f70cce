/-
  The plain forms of the functions (written by a program of mine out of the seat's translation).
-/
import Derived.Test.YtikcogmkchljaaaAx19
namespace Go.AX.Q32
open Go Go.AX
set_option linter.unusedVariables false
structure Deck where
  L : List Int
  At : Int
def Deck.toD (x : Deck) : D := .agg [D.l 1 D.i x.L, D.i x.At]
def Deck.av (x : Deck) : List AV := [.d (D.l 1 D.i x.L), .d (D.i x.At)]
def Deck.wf (x : Deck) : Prop := (x.L.length ≤ maxLen ∧ ∀ y0 ∈ x.L, I64 y0) ∧ I64 x.At ∧ True
structure Open where
  ASN : Int
  ID : Int
  Hold : Int
  Role : Int
  Grace : Int
  Again : Bool
def Open.toD (x : Open) : D := .agg [D.i x.ASN, D.i x.ID, D.i x.Hold, D.i x.Role, D.i x.Grace, D.b x.Again]
def Open.av (x : Open) : List AV := [.d (D.i x.ASN), .d (D.i x.ID), .d (D.i x.Hold), .d (D.i x.Role), .d (D.i x.Grace), .d (D.b x.Again)]
def Open.wf (x : Open) : Prop := I64 x.ASN ∧ I64 x.ID ∧ I64 x.Hold ∧ I64 x.Role ∧ I64 x.Grace ∧ True ∧ True
def Open.eqd (x y : Open) : Bool := ((x.ASN == y.ASN) && ((x.ID == y.ID) && ((x.Hold == y.Hold) && ((x.Role == y.Role) && ((x.Grace == y.Grace) && ((x.Again == y.Again) && true))))))
structure Message where
  Type_ : Int
  Body : List UInt8
def Message.toD (x : Message) : D := .agg [D.i x.Type_, D.l 1 D.u8 x.Body]
def Message.av (x : Message) : List AV := [.d (D.i x.Type_), .d (D.l 1 D.u8 x.Body)]
def Message.wf (x : Message) : Prop := I64 x.Type_ ∧ (x.Body.length ≤ maxLen ∧ ∀ y0 ∈ x.Body, True) ∧ True

def mill_New (a0 : List Int) : Option Deck :=
  some (⟨a0, 0⟩ : Deck)

def mill_Mod (a0 : Int) (a1 : Int) : Option Int :=
  Option.bind (chk (a1 ≠ 0)) fun _ =>
  joinP (τ := Int) (fun k3 =>
    if (decide ((Int.tmod a0 a1) < 0)) then
      k3 (i64w ((Int.tmod a0 a1) + a1))
    else
      k3 (Int.tmod a0 a1)
  ) fun v2 =>
  some v2

def mill_Deck_Next (a0 : Deck) (a1 : Int) : Option (Int × Deck) :=
  if (decide (a0.At ≥ (a0.L.length : Int))) then
    some (0, a0)
  else
    Option.bind (geti a0.L (i64w ((i64w (a0.At + 1)) - 1))) fun v1 =>
    Option.bind (mill_Mod v1 a1) fun v3 =>
    some (v3, (⟨a0.L, (i64w (a0.At + 1))⟩ : Deck))

def mill_Deck_Open (a0 : Deck) (a1 : Int) : Option (Open × Deck) :=
  Option.bind (mill_Deck_Next a0 1073741824) fun (v1, v2) =>
  Option.bind (mill_Deck_Next v2 5) fun (v4, v5) =>
  Option.bind (geti ([0, 3, 9, 90, 65535] : List Int) v4) fun v7 =>
  Option.bind (mill_Deck_Next v5 6) fun (v9, v10) =>
  Option.bind (mill_Deck_Next v10 5) fun (v12, v13) =>
  Option.bind (geti ([0, 0, 1, 60, 4095] : List Int) v12) fun v15 =>
  Option.bind (mill_Deck_Next v13 3) fun (v17, v18) =>
  some ((⟨a1, (i64w (1 + v1)), v7, (i64w (v9 - 1)), v15, (v17 == 0)⟩ : Open), v18)

def mill_Deck_ASN (a0 : Deck) : Option (Int × Deck) :=
  Option.bind (mill_Deck_Next a0 10) fun (v1, v2) =>
  if (v1 == 9) then
    Option.bind (mill_Deck_Next v2 6) fun (v9, v10) =>
    Option.bind (geti ([0, 1, 70000, 99, 4294967295, 300] : List Int) v9) fun v12 =>
    some (v12, v10)
  else
    Option.bind (mill_Deck_Next v2 5) fun (v14, v15) =>
    some ((i64w (101 + v14)), v15)

def session_Valid_1 (a0 : Int) (a1 : Int) (a2 : Int) : Option Bool :=
  joinP (τ := Bool) (fun k2 =>
    if (decide (a0 ≥ a1)) then
      k2 (decide (a0 ≤ a2))
    else
      k2 false
  ) fun v1 =>
  some v1

def session_Valid (a0 : Open) : Option Bool :=
  joinP (τ := Bool) (fun k16 =>
    Option.bind (session_Valid_1 a0.ASN 1 4294967295) fun v17 =>
    if v17 then
      Option.bind (session_Valid_1 a0.ID 1 4294967295) fun v19 =>
      if v19 then
        if (a0.Hold == 0) then
          Option.bind (session_Valid_1 a0.Role (-1) 4) fun v21 =>
          if v21 then
            Option.bind (session_Valid_1 a0.Grace 0 4095) fun v23 =>
            k16 v23
          else
            k16 false
        else
          Option.bind (session_Valid_1 a0.Hold 3 65535) fun v25 =>
          if v25 then
            Option.bind (session_Valid_1 a0.Role (-1) 4) fun v27 =>
            if v27 then
              Option.bind (session_Valid_1 a0.Grace 0 4095) fun v29 =>
              k16 v29
            else
              k16 false
          else
            k16 false
      else
        k16 false
    else
      k16 false
  ) fun v15 =>
  some v15

def session_put (a0 : List UInt8) (a1 : Int) (a2 : Int) : Option (List UInt8) :=
  joinP (τ := (List UInt8)) (fun k27 =>
    whileR (σ := Int × (List UInt8)) (fun next46 (v42, v43) =>
      if (decide (v42 ≥ 0)) then
        Option.bind (chk (0 ≤ (i64w (8 * v42)))) fun _ =>
        Option.bind (apnd (α := UInt8) 1 v43 ([(toU8 (Int.fdiv a2 (2 ^ (min (Int.toNat (i64w (8 * v42))) 64))))] : List UInt8)) fun v51 =>
        next46 ((i64w (v42 - 1)), v51)
      else
        k27 v43
    ) fuel ((i64w (a1 - 1)), a0)
  ) fun v26 =>
  some v26

def session_Encode (a0 : Open) : Option ((List UInt8) × Int) :=
  Option.bind (session_Valid a0) fun v1 =>
  if (!v1) then
    some ([], 1)
  else
    joinP (τ := (List UInt8)) (fun k6 =>
      if (a0.Role != (-1)) then
        Option.bind (apnd (α := UInt8) 1 [] ([(9 : UInt8), (1 : UInt8), (toU8 a0.Role)] : List UInt8)) fun v7 =>
        k6 v7
      else
        k6 []
    ) fun v5 =>
    joinP (τ := Bool) (fun k10 =>
      if (a0.Grace != 0) then
        k10 true
      else
        k10 a0.Again
    ) fun v9 =>
    joinP (τ := (List UInt8)) (fun k18 =>
      if v9 then
        joinP (τ := Int) (fun k20 =>
          if a0.Again then
            k20 (i64w ((BitVec.ofInt 64 a0.Grace ||| BitVec.ofInt 64 32768).toNat : Int))
          else
            k20 a0.Grace
        ) fun v19 =>
        Option.bind (apnd (α := UInt8) 1 v5 ([(64 : UInt8), (2 : UInt8)] : List UInt8)) fun v21 =>
        Option.bind (session_put v21 2 v19) fun v23 =>
        k18 v23
      else
        k18 v5
    ) fun v17 =>
    Option.bind (apnd (α := UInt8) 1 v17 ([(65 : UInt8), (4 : UInt8)] : List UInt8)) fun v25 =>
    Option.bind (session_put v25 4 a0.ASN) fun v27 =>
    joinP (τ := Int) (fun k30 =>
      if (decide (a0.ASN ≤ 65535)) then
        k30 a0.ASN
      else
        k30 23456
    ) fun v29 =>
    Option.bind (session_put ([(4 : UInt8)] : List UInt8) 2 v29) fun v31 =>
    Option.bind (session_put v31 2 a0.Hold) fun v33 =>
    Option.bind (session_put v33 4 a0.ID) fun v35 =>
    Option.bind (apnd (α := UInt8) 1 v35 ([(toU8 (i64w (2 + (v27.length : Int)))), (2 : UInt8), (toU8 (v27.length : Int))] : List UInt8)) fun v37 =>
    Option.bind (apnd (α := UInt8) 1 v37 v27) fun v39 =>
    some (v39, 0)

def ref32_Valid (a0 : Open) : Option Bool :=
  joinP (τ := Bool) (fun k2 =>
    if (decide (a0.ASN ≥ 1)) then
      if (decide (a0.ASN ≤ 4294967295)) then
        if (decide (a0.ID ≥ 1)) then
          if (decide (a0.ID ≤ 4294967295)) then
            if (a0.Hold == 0) then
              if (decide (a0.Role ≥ (-1))) then
                if (decide (a0.Role ≤ 4)) then
                  if (decide (a0.Grace ≥ 0)) then
                    k2 (decide (a0.Grace ≤ 4095))
                  else
                    k2 false
                else
                  k2 false
              else
                k2 false
            else
              if (decide (a0.Hold ≥ 3)) then
                if (decide (a0.Hold ≤ 65535)) then
                  if (decide (a0.Role ≥ (-1))) then
                    if (decide (a0.Role ≤ 4)) then
                      if (decide (a0.Grace ≥ 0)) then
                        k2 (decide (a0.Grace ≤ 4095))
                      else
                        k2 false
                    else
                      k2 false
                  else
                    k2 false
                else
                  k2 false
              else
                k2 false
          else
            k2 false
        else
          k2 false
      else
        k2 false
    else
      k2 false
  ) fun v1 =>
  some v1

def ref32_number (a0 : Int) (a1 : Int) : Option (List UInt8) :=
  joinP (τ := (List UInt8)) (fun k21 =>
    whileR (σ := Int × (List UInt8)) (fun next36 (v32, v33) =>
      if (decide (v32 > 0)) then
        Option.bind (apnd (α := UInt8) 1 v33 ([(toU8 (Int.fdiv a0 (2 ^ (min (Int.toNat ((toU64 (i64w (8 * (i64w (v32 - 1))))).toNat : Int)) 64))))] : List UInt8)) fun v39 =>
        next36 ((i64w (v32 - 1)), v39)
      else
        k21 v33
    ) fuel (a1, [])
  ) fun v20 =>
  some v20

def ref32_Encode (a0 : Open) : Option ((List UInt8) × Int) :=
  Option.bind (ref32_Valid a0) fun v1 =>
  if (!v1) then
    some ([], 1)
  else
    joinP (τ := (List UInt8)) (fun k6 =>
      if (a0.Role != (-1)) then
        Option.bind (apnd (α := UInt8) 1 [] ([(9 : UInt8), (1 : UInt8), (toU8 a0.Role)] : List UInt8)) fun v7 =>
        k6 v7
      else
        k6 []
    ) fun v5 =>
    joinP (τ := Bool) (fun k10 =>
      if (a0.Grace != 0) then
        k10 true
      else
        k10 a0.Again
    ) fun v9 =>
    joinP (τ := (List UInt8)) (fun k20 =>
      if v9 then
        joinP (τ := Int) (fun k22 =>
          if a0.Again then
            k22 (i64w (a0.Grace + 32768))
          else
            k22 a0.Grace
        ) fun v21 =>
        Option.bind (apnd (α := UInt8) 1 v5 ([(64 : UInt8), (2 : UInt8)] : List UInt8)) fun v23 =>
        Option.bind (ref32_number v21 2) fun v25 =>
        Option.bind (apnd (α := UInt8) 1 v23 v25) fun v27 =>
        k20 v27
      else
        k20 v5
    ) fun v19 =>
    Option.bind (apnd (α := UInt8) 1 v19 ([(65 : UInt8), (4 : UInt8)] : List UInt8)) fun v29 =>
    Option.bind (ref32_number a0.ASN 4) fun v31 =>
    Option.bind (apnd (α := UInt8) 1 v29 v31) fun v33 =>
    joinP (τ := Int) (fun k36 =>
      if (decide (a0.ASN > 65535)) then
        k36 23456
      else
        k36 a0.ASN
    ) fun v35 =>
    Option.bind (ref32_number v35 2) fun v37 =>
    Option.bind (apnd (α := UInt8) 1 ([(4 : UInt8)] : List UInt8) v37) fun v39 =>
    Option.bind (ref32_number a0.Hold 2) fun v41 =>
    Option.bind (apnd (α := UInt8) 1 v39 v41) fun v43 =>
    Option.bind (ref32_number a0.ID 4) fun v45 =>
    Option.bind (apnd (α := UInt8) 1 v43 v45) fun v47 =>
    Option.bind (apnd (α := UInt8) 1 v47 ([(toU8 (i64w ((v33.length : Int) + 2))), (2 : UInt8), (toU8 (v33.length : Int))] : List UInt8)) fun v49 =>
    Option.bind (apnd (α := UInt8) 1 v49 v33) fun v51 =>
    some (v51, 0)

def ref32_SameMessages (a0 : List Message) (a1 : List Message) : Option Bool :=
  if ((a0.length : Int) != (a1.length : Int)) then
    some false
  else
    joinP (τ := Unit) (fun k48 =>
      forR (σ := Unit) (fun _ =>
        k48 ()
      ) (fun next75 x72 i71 _ =>
        joinP (τ := Bool) (fun k91 =>
          Option.bind (geti a1 (i71 : Int)) fun v92 =>
          if (x72.Type_ != v92.Type_) then
            k91 true
          else
            Option.bind (geti a1 (i71 : Int)) fun v94 =>
            k91 (!((bs x72.Body).toList == (bs v94.Body).toList))
        ) fun v90 =>
        if v90 then
          some false
        else
          next75 ()
      ) a0 0 ()
    ) fun _ =>
    some true

def session_Notify (a0 : Int) : Option Message :=
  some (⟨3, ([(toU8 a0), (0 : UInt8)] : List UInt8)⟩ : Message)

def ref32_Notify (a0 : Int) : Option Message :=
  some (⟨3, ([(toU8 a0), (0 : UInt8)] : List UInt8)⟩ : Message)

def law32_awake  : Option Bool :=
  Option.bind (session_Encode (⟨65551, 1, 9, (-1), 0, false⟩ : Open)) fun (v1, v2) =>
  joinP (τ := Bool) (fun k7 =>
    if (v2 == 0) then
      if ((bs v1).toList == (ByteArray.mk (List.toArray (List.cons 4 (List.cons 91 (List.cons 160 (List.cons 0 (List.cons 9 (List.cons 0 (List.cons 0 (List.cons 0 (List.cons 1 (List.cons 8 (List.cons 2 (List.cons 6 (List.cons 65 (List.cons 4 (List.cons 0 (List.cons 1 (List.cons 0 (List.cons 15 List.nil)))))))))))))))))))).toList) then
        Option.bind (session_Notify 6) fun v8 =>
        k7 ((v8.Body.length : Int) == 2)
      else
        k7 false
    else
      k7 false
  ) fun v6 =>
  some v6

def law32_SessionOpens (a0 : Open) (a1 : List Int) (a2 : Int) : Option Bool :=
  Option.bind (mill_New a1) fun v1 =>
  Option.bind (mill_Deck_ASN v1) fun (v3, v4) =>
  Option.bind (mill_Deck_Open v4 v3) fun (v6, v7) =>
  Option.bind (mill_Deck_Open v7 101) fun (v9, v10) =>
  Option.bind (mill_Deck_Open v10 4294967295) fun (v12, v13) =>
  joinP (τ := Unit) (fun k86 =>
    forR (σ := Unit) (fun _ =>
      k86 ()
    ) (fun next125 x122 i121 _ =>
      Option.bind (session_Encode x122) fun (v142, v143) =>
      Option.bind (ref32_Encode x122) fun (v145, v146) =>
      joinP (τ := Bool) (fun k153 =>
        Option.bind (session_Valid x122) fun v154 =>
        Option.bind (ref32_Valid x122) fun v156 =>
        if (!(v154 == v156)) then
          k153 true
        else
          if (v143 != v146) then
            k153 true
          else
            k153 (!((bs v142).toList == (bs v145).toList))
      ) fun v152 =>
      if v152 then
        some false
      else
        next125 ()
    ) ([a0, v6, v9, v12] : List Open) 0 ()
  ) fun _ =>
  joinP (τ := Bool) (fun k167 =>
    Option.bind (session_Notify a2) fun v168 =>
    Option.bind (ref32_Notify a2) fun v170 =>
    Option.bind (ref32_SameMessages ([v168] : List Message) ([v170] : List Message)) fun v172 =>
    if v172 then
      Option.bind (law32_awake) fun v174 =>
      k167 v174
    else
      k167 false
  ) fun v166 =>
  some v166
end Go.AX.Q32
