/-
  The plain forms of the functions (written by a program of mine out of the seat's translation).
-/
import Derived.Test.YtikcogmkchljaaaAx19
namespace Go.AX.Q32
open Go Go.AX
set_option linter.unusedVariables false
structure Deck where
  L : List Int
  At : Int
def Deck.toD (x : Deck) : D := .agg [D.l 1 D.i x.L, D.i x.At]
def Deck.av (x : Deck) : List AV := [.d (D.l 1 D.i x.L), .d (D.i x.At)]
def Deck.wf (x : Deck) : Prop := (x.L.length ≤ maxLen ∧ ∀ y0 ∈ x.L, I64 y0) ∧ I64 x.At ∧ True
structure Open where
  ASN : Int
  ID : Int
  Hold : Int
  Role : Int
  Grace : Int
  Again : Bool
def Open.toD (x : Open) : D := .agg [D.i x.ASN, D.i x.ID, D.i x.Hold, D.i x.Role, D.i x.Grace, D.b x.Again]
def Open.av (x : Open) : List AV := [.d (D.i x.ASN), .d (D.i x.ID), .d (D.i x.Hold), .d (D.i x.Role), .d (D.i x.Grace), .d (D.b x.Again)]
def Open.wf (x : Open) : Prop := I64 x.ASN ∧ I64 x.ID ∧ I64 x.Hold ∧ I64 x.Role ∧ I64 x.Grace ∧ True ∧ True
def Open.eqd (x y : Open) : Bool := ((x.ASN == y.ASN) && ((x.ID == y.ID) && ((x.Hold == y.Hold) && ((x.Role == y.Role) && ((x.Grace == y.Grace) && ((x.Again == y.Again) && true))))))
structure Message where
  Type_ : Int
  Body : List UInt8
def Message.toD (x : Message) : D := .agg [D.i x.Type_, D.l 1 D.u8 x.Body]
def Message.av (x : Message) : List AV := [.d (D.i x.Type_), .d (D.l 1 D.u8 x.Body)]
def Message.wf (x : Message) : Prop := I64 x.Type_ ∧ (x.Body.length ≤ maxLen ∧ ∀ y0 ∈ x.Body, True) ∧ True
structure session_reader where
  b : List UInt8
  bad : Bool
def session_reader.toD (x : session_reader) : D := .agg [D.l 1 D.u8 x.b, D.b x.bad]
def session_reader.av (x : session_reader) : List AV := [.d (D.l 1 D.u8 x.b), .d (D.b x.bad)]
def session_reader.wf (x : session_reader) : Prop := (x.b.length ≤ maxLen ∧ ∀ y0 ∈ x.b, True) ∧ True ∧ True
structure Session where
  State : Int
  Mine : Open
  ASN : Int
  Theirs : Open
  Sent : Int
  Heard : Int
def Session.toD (x : Session) : D := .agg [D.i x.State, D.i x.Mine.ASN, D.i x.Mine.ID, D.i x.Mine.Hold, D.i x.Mine.Role, D.i x.Mine.Grace, D.b x.Mine.Again, D.i x.ASN, D.i x.Theirs.ASN, D.i x.Theirs.ID, D.i x.Theirs.Hold, D.i x.Theirs.Role, D.i x.Theirs.Grace, D.b x.Theirs.Again, D.i x.Sent, D.i x.Heard]
def Session.av (x : Session) : List AV := [.d (D.i x.State), .d (D.i x.Mine.ASN), .d (D.i x.Mine.ID), .d (D.i x.Mine.Hold), .d (D.i x.Mine.Role), .d (D.i x.Mine.Grace), .d (D.b x.Mine.Again), .d (D.i x.ASN), .d (D.i x.Theirs.ASN), .d (D.i x.Theirs.ID), .d (D.i x.Theirs.Hold), .d (D.i x.Theirs.Role), .d (D.i x.Theirs.Grace), .d (D.b x.Theirs.Again), .d (D.i x.Sent), .d (D.i x.Heard)]
def Session.wf (x : Session) : Prop := I64 x.State ∧ Open.wf x.Mine ∧ I64 x.ASN ∧ Open.wf x.Theirs ∧ I64 x.Sent ∧ I64 x.Heard ∧ True
def Session.eqd (x y : Session) : Bool := ((x.State == y.State) && (((x.Mine.ASN == y.Mine.ASN) && ((x.Mine.ID == y.Mine.ID) && ((x.Mine.Hold == y.Mine.Hold) && ((x.Mine.Role == y.Mine.Role) && ((x.Mine.Grace == y.Mine.Grace) && ((x.Mine.Again == y.Mine.Again) && true)))))) && ((x.ASN == y.ASN) && (((x.Theirs.ASN == y.Theirs.ASN) && ((x.Theirs.ID == y.Theirs.ID) && ((x.Theirs.Hold == y.Theirs.Hold) && ((x.Theirs.Role == y.Theirs.Role) && ((x.Theirs.Grace == y.Theirs.Grace) && ((x.Theirs.Again == y.Theirs.Again) && true)))))) && ((x.Sent == y.Sent) && ((x.Heard == y.Heard) && true))))))
structure A5_Int where
  e0 : Int
  e1 : Int
  e2 : Int
  e3 : Int
  e4 : Int
def A5_Int.toD (x : A5_Int) : D := .agg [D.i x.e0, D.i x.e1, D.i x.e2, D.i x.e3, D.i x.e4]
def A5_Int.av (x : A5_Int) : List AV := [.d (D.i x.e0), .d (D.i x.e1), .d (D.i x.e2), .d (D.i x.e3), .d (D.i x.e4)]
def A5_Int.wf (x : A5_Int) : Prop := I64 x.e0 ∧ I64 x.e1 ∧ I64 x.e2 ∧ I64 x.e3 ∧ I64 x.e4 ∧ True

def mill_New (a0 : List Int) : Option Deck :=
  some (⟨a0, 0⟩ : Deck)

def mill_Mod (a0 : Int) (a1 : Int) : Option Int :=
  Option.bind (chk (a1 ≠ 0)) fun _ =>
  joinP (τ := Int) (fun k3 =>
    if (decide ((Int.tmod a0 a1) < 0)) then
      k3 (i64w ((Int.tmod a0 a1) + a1))
    else
      k3 (Int.tmod a0 a1)
  ) fun v2 =>
  some v2

def mill_Deck_Next (a0 : Deck) (a1 : Int) : Option (Int × Deck) :=
  if (decide (a0.At ≥ (a0.L.length : Int))) then
    some (0, a0)
  else
    Option.bind (geti a0.L (i64w ((i64w (a0.At + 1)) - 1))) fun v1 =>
    Option.bind (mill_Mod v1 a1) fun v3 =>
    some (v3, (⟨a0.L, (i64w (a0.At + 1))⟩ : Deck))

def mill_Deck_Open (a0 : Deck) (a1 : Int) : Option (Open × Deck) :=
  Option.bind (mill_Deck_Next a0 1073741824) fun (v1, v2) =>
  Option.bind (mill_Deck_Next v2 5) fun (v4, v5) =>
  Option.bind (geti ([0, 3, 9, 90, 65535] : List Int) v4) fun v7 =>
  Option.bind (mill_Deck_Next v5 6) fun (v9, v10) =>
  Option.bind (mill_Deck_Next v10 5) fun (v12, v13) =>
  Option.bind (geti ([0, 0, 1, 60, 4095] : List Int) v12) fun v15 =>
  Option.bind (mill_Deck_Next v13 3) fun (v17, v18) =>
  some ((⟨a1, (i64w (1 + v1)), v7, (i64w (v9 - 1)), v15, (v17 == 0)⟩ : Open), v18)

def mill_Deck_ASN (a0 : Deck) : Option (Int × Deck) :=
  Option.bind (mill_Deck_Next a0 10) fun (v1, v2) =>
  if (v1 == 9) then
    Option.bind (mill_Deck_Next v2 6) fun (v9, v10) =>
    Option.bind (geti ([0, 1, 70000, 99, 4294967295, 300] : List Int) v9) fun v12 =>
    some (v12, v10)
  else
    Option.bind (mill_Deck_Next v2 5) fun (v14, v15) =>
    some ((i64w (101 + v14)), v15)

def session_Valid_1 (a0 : Int) (a1 : Int) (a2 : Int) : Option Bool :=
  joinP (τ := Bool) (fun k2 =>
    if (decide (a0 ≥ a1)) then
      k2 (decide (a0 ≤ a2))
    else
      k2 false
  ) fun v1 =>
  some v1

def session_Valid (a0 : Open) : Option Bool :=
  joinP (τ := Bool) (fun k16 =>
    Option.bind (session_Valid_1 a0.ASN 1 4294967295) fun v17 =>
    if v17 then
      Option.bind (session_Valid_1 a0.ID 1 4294967295) fun v19 =>
      if v19 then
        if (a0.Hold == 0) then
          Option.bind (session_Valid_1 a0.Role (-1) 4) fun v21 =>
          if v21 then
            Option.bind (session_Valid_1 a0.Grace 0 4095) fun v23 =>
            k16 v23
          else
            k16 false
        else
          Option.bind (session_Valid_1 a0.Hold 3 65535) fun v25 =>
          if v25 then
            Option.bind (session_Valid_1 a0.Role (-1) 4) fun v27 =>
            if v27 then
              Option.bind (session_Valid_1 a0.Grace 0 4095) fun v29 =>
              k16 v29
            else
              k16 false
          else
            k16 false
      else
        k16 false
    else
      k16 false
  ) fun v15 =>
  some v15

def session_put (a0 : List UInt8) (a1 : Int) (a2 : Int) : Option (List UInt8) :=
  joinP (τ := (List UInt8)) (fun k27 =>
    whileR (σ := Int × (List UInt8)) (fun next46 (v42, v43) =>
      if (decide (v42 ≥ 0)) then
        Option.bind (chk (0 ≤ (i64w (8 * v42)))) fun _ =>
        Option.bind (apnd (α := UInt8) 1 v43 ([(toU8 (Int.fdiv a2 (2 ^ (min (Int.toNat (i64w (8 * v42))) 64))))] : List UInt8)) fun v51 =>
        next46 ((i64w (v42 - 1)), v51)
      else
        k27 v43
    ) fuel ((i64w (a1 - 1)), a0)
  ) fun v26 =>
  some v26

def session_Encode (a0 : Open) : Option ((List UInt8) × Int) :=
  Option.bind (session_Valid a0) fun v1 =>
  if (!v1) then
    some ([], 1)
  else
    joinP (τ := (List UInt8)) (fun k6 =>
      if (a0.Role != (-1)) then
        Option.bind (apnd (α := UInt8) 1 [] ([(9 : UInt8), (1 : UInt8), (toU8 a0.Role)] : List UInt8)) fun v7 =>
        k6 v7
      else
        k6 []
    ) fun v5 =>
    joinP (τ := Bool) (fun k10 =>
      if (a0.Grace != 0) then
        k10 true
      else
        k10 a0.Again
    ) fun v9 =>
    joinP (τ := (List UInt8)) (fun k18 =>
      if v9 then
        joinP (τ := Int) (fun k20 =>
          if a0.Again then
            k20 (i64w ((BitVec.ofInt 64 a0.Grace ||| BitVec.ofInt 64 32768).toNat : Int))
          else
            k20 a0.Grace
        ) fun v19 =>
        Option.bind (apnd (α := UInt8) 1 v5 ([(64 : UInt8), (2 : UInt8)] : List UInt8)) fun v21 =>
        Option.bind (session_put v21 2 v19) fun v23 =>
        k18 v23
      else
        k18 v5
    ) fun v17 =>
    Option.bind (apnd (α := UInt8) 1 v17 ([(65 : UInt8), (4 : UInt8)] : List UInt8)) fun v25 =>
    Option.bind (session_put v25 4 a0.ASN) fun v27 =>
    joinP (τ := Int) (fun k30 =>
      if (decide (a0.ASN ≤ 65535)) then
        k30 a0.ASN
      else
        k30 23456
    ) fun v29 =>
    Option.bind (session_put ([(4 : UInt8)] : List UInt8) 2 v29) fun v31 =>
    Option.bind (session_put v31 2 a0.Hold) fun v33 =>
    Option.bind (session_put v33 4 a0.ID) fun v35 =>
    Option.bind (apnd (α := UInt8) 1 v35 ([(toU8 (i64w (2 + (v27.length : Int)))), (2 : UInt8), (toU8 (v27.length : Int))] : List UInt8)) fun v37 =>
    Option.bind (apnd (α := UInt8) 1 v37 v27) fun v39 =>
    some (v39, 0)

def ref32_Valid (a0 : Open) : Option Bool :=
  joinP (τ := Bool) (fun k2 =>
    if (decide (a0.ASN ≥ 1)) then
      if (decide (a0.ASN ≤ 4294967295)) then
        if (decide (a0.ID ≥ 1)) then
          if (decide (a0.ID ≤ 4294967295)) then
            if (a0.Hold == 0) then
              if (decide (a0.Role ≥ (-1))) then
                if (decide (a0.Role ≤ 4)) then
                  if (decide (a0.Grace ≥ 0)) then
                    k2 (decide (a0.Grace ≤ 4095))
                  else
                    k2 false
                else
                  k2 false
              else
                k2 false
            else
              if (decide (a0.Hold ≥ 3)) then
                if (decide (a0.Hold ≤ 65535)) then
                  if (decide (a0.Role ≥ (-1))) then
                    if (decide (a0.Role ≤ 4)) then
                      if (decide (a0.Grace ≥ 0)) then
                        k2 (decide (a0.Grace ≤ 4095))
                      else
                        k2 false
                    else
                      k2 false
                  else
                    k2 false
                else
                  k2 false
              else
                k2 false
          else
            k2 false
        else
          k2 false
      else
        k2 false
    else
      k2 false
  ) fun v1 =>
  some v1

def ref32_number (a0 : Int) (a1 : Int) : Option (List UInt8) :=
  joinP (τ := (List UInt8)) (fun k21 =>
    whileR (σ := Int × (List UInt8)) (fun next36 (v32, v33) =>
      if (decide (v32 > 0)) then
        Option.bind (apnd (α := UInt8) 1 v33 ([(toU8 (Int.fdiv a0 (2 ^ (min (Int.toNat ((toU64 (i64w (8 * (i64w (v32 - 1))))).toNat : Int)) 64))))] : List UInt8)) fun v39 =>
        next36 ((i64w (v32 - 1)), v39)
      else
        k21 v33
    ) fuel (a1, [])
  ) fun v20 =>
  some v20

def ref32_Encode (a0 : Open) : Option ((List UInt8) × Int) :=
  Option.bind (ref32_Valid a0) fun v1 =>
  if (!v1) then
    some ([], 1)
  else
    joinP (τ := (List UInt8)) (fun k6 =>
      if (a0.Role != (-1)) then
        Option.bind (apnd (α := UInt8) 1 [] ([(9 : UInt8), (1 : UInt8), (toU8 a0.Role)] : List UInt8)) fun v7 =>
        k6 v7
      else
        k6 []
    ) fun v5 =>
    joinP (τ := Bool) (fun k10 =>
      if (a0.Grace != 0) then
        k10 true
      else
        k10 a0.Again
    ) fun v9 =>
    joinP (τ := (List UInt8)) (fun k20 =>
      if v9 then
        joinP (τ := Int) (fun k22 =>
          if a0.Again then
            k22 (i64w (a0.Grace + 32768))
          else
            k22 a0.Grace
        ) fun v21 =>
        Option.bind (apnd (α := UInt8) 1 v5 ([(64 : UInt8), (2 : UInt8)] : List UInt8)) fun v23 =>
        Option.bind (ref32_number v21 2) fun v25 =>
        Option.bind (apnd (α := UInt8) 1 v23 v25) fun v27 =>
        k20 v27
      else
        k20 v5
    ) fun v19 =>
    Option.bind (apnd (α := UInt8) 1 v19 ([(65 : UInt8), (4 : UInt8)] : List UInt8)) fun v29 =>
    Option.bind (ref32_number a0.ASN 4) fun v31 =>
    Option.bind (apnd (α := UInt8) 1 v29 v31) fun v33 =>
    joinP (τ := Int) (fun k36 =>
      if (decide (a0.ASN > 65535)) then
        k36 23456
      else
        k36 a0.ASN
    ) fun v35 =>
    Option.bind (ref32_number v35 2) fun v37 =>
    Option.bind (apnd (α := UInt8) 1 ([(4 : UInt8)] : List UInt8) v37) fun v39 =>
    Option.bind (ref32_number a0.Hold 2) fun v41 =>
    Option.bind (apnd (α := UInt8) 1 v39 v41) fun v43 =>
    Option.bind (ref32_number a0.ID 4) fun v45 =>
    Option.bind (apnd (α := UInt8) 1 v43 v45) fun v47 =>
    Option.bind (apnd (α := UInt8) 1 v47 ([(toU8 (i64w ((v33.length : Int) + 2))), (2 : UInt8), (toU8 (v33.length : Int))] : List UInt8)) fun v49 =>
    Option.bind (apnd (α := UInt8) 1 v49 v33) fun v51 =>
    some (v51, 0)

def ref32_SameMessages (a0 : List Message) (a1 : List Message) : Option Bool :=
  if ((a0.length : Int) != (a1.length : Int)) then
    some false
  else
    joinP (τ := Unit) (fun k48 =>
      forR (σ := Unit) (fun _ =>
        k48 ()
      ) (fun next75 x72 i71 _ =>
        joinP (τ := Bool) (fun k91 =>
          Option.bind (geti a1 (i71 : Int)) fun v92 =>
          if (x72.Type_ != v92.Type_) then
            k91 true
          else
            Option.bind (geti a1 (i71 : Int)) fun v94 =>
            k91 (!((bs x72.Body).toList == (bs v94.Body).toList))
        ) fun v90 =>
        if v90 then
          some false
        else
          next75 ()
      ) a0 0 ()
    ) fun _ =>
    some true

def session_Notify (a0 : Int) : Option Message :=
  some (⟨3, ([(toU8 a0), (0 : UInt8)] : List UInt8)⟩ : Message)

def ref32_Notify (a0 : Int) : Option Message :=
  some (⟨3, ([(toU8 a0), (0 : UInt8)] : List UInt8)⟩ : Message)

def law32_awake  : Option Bool :=
  Option.bind (session_Encode (⟨65551, 1, 9, (-1), 0, false⟩ : Open)) fun (v1, v2) =>
  joinP (τ := Bool) (fun k7 =>
    if (v2 == 0) then
      if ((bs v1).toList == (ByteArray.mk (List.toArray (List.cons 4 (List.cons 91 (List.cons 160 (List.cons 0 (List.cons 9 (List.cons 0 (List.cons 0 (List.cons 0 (List.cons 1 (List.cons 8 (List.cons 2 (List.cons 6 (List.cons 65 (List.cons 4 (List.cons 0 (List.cons 1 (List.cons 0 (List.cons 15 List.nil)))))))))))))))))))).toList) then
        Option.bind (session_Notify 6) fun v8 =>
        k7 ((v8.Body.length : Int) == 2)
      else
        k7 false
    else
      k7 false
  ) fun v6 =>
  some v6

def law32_SessionOpens (a0 : Open) (a1 : List Int) (a2 : Int) : Option Bool :=
  Option.bind (mill_New a1) fun v1 =>
  Option.bind (mill_Deck_ASN v1) fun (v3, v4) =>
  Option.bind (mill_Deck_Open v4 v3) fun (v6, v7) =>
  Option.bind (mill_Deck_Open v7 101) fun (v9, v10) =>
  Option.bind (mill_Deck_Open v10 4294967295) fun (v12, v13) =>
  joinP (τ := Unit) (fun k86 =>
    forR (σ := Unit) (fun _ =>
      k86 ()
    ) (fun next125 x122 i121 _ =>
      Option.bind (session_Encode x122) fun (v142, v143) =>
      Option.bind (ref32_Encode x122) fun (v145, v146) =>
      joinP (τ := Bool) (fun k153 =>
        Option.bind (session_Valid x122) fun v154 =>
        Option.bind (ref32_Valid x122) fun v156 =>
        if (!(v154 == v156)) then
          k153 true
        else
          if (v143 != v146) then
            k153 true
          else
            k153 (!((bs v142).toList == (bs v145).toList))
      ) fun v152 =>
      if v152 then
        some false
      else
        next125 ()
    ) ([a0, v6, v9, v12] : List Open) 0 ()
  ) fun _ =>
  joinP (τ := Bool) (fun k167 =>
    Option.bind (session_Notify a2) fun v168 =>
    Option.bind (ref32_Notify a2) fun v170 =>
    Option.bind (ref32_SameMessages ([v168] : List Message) ([v170] : List Message)) fun v172 =>
    if v172 then
      Option.bind (law32_awake) fun v174 =>
      k167 v174
    else
      k167 false
  ) fun v166 =>
  some v166

def session_reader_part (a0 : session_reader) (a1 : Int) : Option ((List UInt8) × session_reader) :=
  joinP (τ := Bool) (fun k2 =>
    if a0.bad then
      k2 true
    else
      k2 (decide (a1 > (a0.b.length : Int)))
  ) fun v1 =>
  if v1 then
    some ([], (⟨a0.b, true⟩ : session_reader))
  else
    Option.bind (part a0.b 0 a1) fun v3 =>
    Option.bind (part a0.b a1 (a0.b.length : Int)) fun v5 =>
    some (v3, (⟨v5, a0.bad⟩ : session_reader))

def session_reader_number (a0 : session_reader) (a1 : Int) : Option (Int × session_reader) :=
  Option.bind (session_reader_part a0 a1) fun (v1, v2) =>
  joinP (τ := Int) (fun k16 =>
    forR (σ := Int) (fun v22 =>
      k16 v22
    ) (fun next27 x24 i23 v22 =>
      next27 (i64w ((BitVec.ofInt 64 (i64w (v22 * (2 ^ (min (Int.toNat 8) 64)))) ||| BitVec.ofInt 64 (x24.toNat : Int)).toNat : Int))
    ) v1 0 0
  ) fun v15 =>
  some (v15, v2)

def session_reader_more (a0 : session_reader) : Option (Bool × session_reader) :=
  joinP (τ := Bool) (fun k2 =>
    if (!a0.bad) then
      k2 (decide ((a0.b.length : Int) > 0))
    else
      k2 false
  ) fun v1 =>
  some (v1, a0)

def session_lengths (a0 : Int) : Option Int :=
  if (a0 == 9) then
    some 1
  else
    if (a0 == 64) then
      some 2
    else
      if (a0 == 65) then
        some 4
      else
        some (-1)

def session_reader_capabilities (a0 : session_reader) (a1 : List (Int × Int)) : Option (session_reader × (List (Int × Int))) :=
  joinP (τ := session_reader × (List (Int × Int))) (fun k160 =>
    whileR (σ := session_reader × (List (Int × Int))) (fun next267 (v263, v264) =>
      Option.bind (session_reader_more v263) fun (v268, v269) =>
      if v268 then
        joinP (τ := session_reader × (List (Int × Int))) (fun k295 =>
          Option.bind (session_reader_number v269 1) fun (v296, v297) =>
          Option.bind (session_reader_number v297 1) fun (v299, v300) =>
          Option.bind (session_reader_part v300 v299) fun (v302, v303) =>
          Option.bind (session_lengths v296) fun v305 =>
          joinP (τ := Bool) (fun k308 =>
            if v303.bad then
              k308 true
            else
              k308 (decide (v305 < 0))
          ) fun v307 =>
          if v307 then
            k295 (v303, v264)
          else
            Option.bind (some (Option.getD (mget v264 v296) 0)) fun v309 =>
            Option.bind (some (Option.isSome (mget v264 v296))) fun v311 =>
            joinP (τ := Bool) (fun k314 =>
              if v311 then
                k314 true
              else
                k314 ((v302.length : Int) != v305)
            ) fun v313 =>
            if v313 then
              some ((⟨v303.b, true⟩ : session_reader), v264)
            else
              Option.bind (session_reader_number (⟨v302, false⟩ : session_reader) v305) fun (v315, v316) =>
              k295 (v303, (mset v264 v296 v315))
        ) fun (v293, v294) =>
        next267 (v293, v294)
      else
        k160 (v269, v264)
    ) fuel (a0, a1)
  ) fun (v158, v159) =>
  some (v158, v159)

def session_Decode (a0 : List UInt8) : Option (Open × Int) :=
  if (decide ((a0.length : Int) < 10)) then
    some ((⟨0, 0, 0, 0, 0, false⟩ : Open), 4)
  else
    Option.bind (geti a0 0) fun v19 =>
    if ((v19.toNat : Int) != 4) then
      some ((⟨0, 0, 0, 0, 0, false⟩ : Open), 36)
    else
      Option.bind (geti a0 9) fun v23 =>
      if ((v23.toNat : Int) != (i64w ((a0.length : Int) - 10))) then
        some ((⟨0, 0, 0, 0, 0, false⟩ : Open), 5)
      else
        Option.bind (part a0 1 9) fun v25 =>
        Option.bind (session_reader_number (⟨v25, false⟩ : session_reader) 2) fun (v27, v28) =>
        Option.bind (session_reader_number v28 2) fun (v30, v31) =>
        Option.bind (session_reader_number v31 4) fun (v33, v34) =>
        Option.bind (part a0 10 (a0.length : Int)) fun v36 =>
        joinP (τ := session_reader × (List (Int × Int))) (fun k140 =>
          whileR (σ := session_reader × (List (Int × Int))) (fun next209 (v205, v206) =>
            Option.bind (session_reader_more v205) fun (v210, v211) =>
            if v210 then
              Option.bind (session_reader_number v211 1) fun (v227, v228) =>
              Option.bind (session_reader_number v228 1) fun (v230, v231) =>
              Option.bind (session_reader_part v231 v230) fun (v233, v234) =>
              joinP (τ := Bool) (fun k237 =>
                if v234.bad then
                  k237 true
                else
                  k237 (v227 != 2)
              ) fun v236 =>
              if v236 then
                some ((⟨0, 0, 0, 0, 0, false⟩ : Open), 5)
              else
                Option.bind (session_reader_capabilities (⟨v233, false⟩ : session_reader) v206) fun (v238, v239) =>
                if v238.bad then
                  some ((⟨0, 0, 0, 0, 0, false⟩ : Open), 5)
                else
                  next209 (v234, v239)
            else
              k140 (v211, v206)
          ) fuel ((⟨v36, false⟩ : session_reader), [])
        ) fun (v138, v139) =>
        if v138.bad then
          some ((⟨0, 0, 0, 0, 0, false⟩ : Open), 5)
        else
          Option.bind (some (Option.getD (mget v139 65) 0)) fun v241 =>
          Option.bind (some (Option.isSome (mget v139 65))) fun v243 =>
          joinP (τ := Int) (fun k248 =>
            if v243 then
              joinP (τ := Bool) (fun k250 =>
                if (v27 != v241) then
                  if (v27 != 23456) then
                    k250 true
                  else
                    k250 (decide (v241 ≤ 65535))
                else
                  k250 false
              ) fun v249 =>
              if v249 then
                some ((⟨0, 0, 0, 0, 0, false⟩ : Open), 5)
              else
                k248 v241
            else
              k248 v27
          ) fun v247 =>
          Option.bind (some (Option.getD (mget v139 9) 0)) fun v251 =>
          Option.bind (some (Option.isSome (mget v139 9))) fun v253 =>
          joinP (τ := Int) (fun k256 =>
            if v253 then
              k256 v251
            else
              k256 (-1)
          ) fun v255 =>
          Option.bind (some (Option.getD (mget v139 64) 0)) fun v257 =>
          Option.bind (some (Option.isSome (mget v139 64))) fun v259 =>
          joinP (τ := Open) (fun k262 =>
            if v259 then
              k262 (⟨v247, v33, v30, v255, (i64w ((BitVec.ofInt 64 v257 &&& BitVec.ofInt 64 4095).toNat : Int)), ((Int.fdiv v257 (2 ^ (min (Int.toNat 15) 64))) == 1)⟩ : Open)
            else
              k262 (⟨v247, v33, v30, v255, 0, false⟩ : Open)
          ) fun v261 =>
          Option.bind (session_Valid v261) fun v263 =>
          if (!v263) then
            some ((⟨0, 0, 0, 0, 0, false⟩ : Open), 1)
          else
            some (v261, 0)

def ref32_value (a0 : List UInt8) : Option Int :=
  joinP (τ := Int) (fun k13 =>
    forR (σ := Int) (fun v19 =>
      k13 v19
    ) (fun next24 x21 i20 v19 =>
      next24 (i64w ((BitVec.ofInt 64 (i64w (v19 * (2 ^ (min (Int.toNat 8) 64)))) ||| BitVec.ofInt 64 (x21.toNat : Int)).toNat : Int))
    ) a0 0 0
  ) fun v12 =>
  some v12

def ref32_parts (a0 : List UInt8) : Option ((List UInt8) × (List (List UInt8)) × Bool) :=
  joinP (τ := (List UInt8) × (List (List UInt8))) (fun k132 =>
    whileR (σ := (List UInt8) × (List UInt8) × (List (List UInt8))) (fun next221 (v216, v217, v218) =>
      if (decide ((v216.length : Int) > 0)) then
        joinP (τ := Bool) (fun k245 =>
          if (decide ((v216.length : Int) < 2)) then
            k245 true
          else
            Option.bind (geti v216 1) fun v246 =>
            k245 (decide ((v216.length : Int) < (i64w (2 + (v246.toNat : Int)))))
        ) fun v244 =>
        if v244 then
          some ([], [], false)
        else
          Option.bind (geti v216 0) fun v248 =>
          Option.bind (apnd (α := UInt8) 1 v217 ([v248] : List UInt8)) fun v250 =>
          Option.bind (geti v216 1) fun v252 =>
          Option.bind (part v216 2 (i64w (2 + (v252.toNat : Int)))) fun v254 =>
          Option.bind (apnd (α := List UInt8) 24 v218 ([v254] : List (List UInt8))) fun v256 =>
          Option.bind (geti v216 1) fun v258 =>
          Option.bind (part v216 (i64w (2 + (v258.toNat : Int))) (v216.length : Int)) fun v260 =>
          next221 (v260, v250, v256)
      else
        k132 (v217, v218)
    ) fuel (a0, [], [])
  ) fun (v130, v131) =>
  some (v130, v131, true)

def ref32_capabilities (a0 : Open) (a1 : List UInt8) : Option (Bool × Bool × Open) :=
  Option.bind (ref32_parts a1) fun (v1, v2, v3) =>
  joinP (τ := Bool × Open × (List (UInt8 × Bool))) (fun k4801 =>
    whileR (σ := Bool × Int × Open × (List (UInt8 × Bool))) (fun next8000 (v7994, v7995, v7996, v7997) =>
      joinP (τ := Bool) (fun k8002 =>
        if (decide (v7995 < (v2.length : Int))) then
          k8002 v7994
        else
          k8002 false
      ) fun v8001 =>
      if v8001 then
        joinP (τ := Bool × Open × (List (UInt8 × Bool))) (fun k8800 =>
          Option.bind (geti v2 v7995) fun v8801 =>
          Option.bind (ref32_parts v8801) fun (v8803, v8804, v8805) =>
          joinP (τ := Bool) (fun k8810 =>
            if v8805 then
              Option.bind (geti v1 v7995) fun v8811 =>
              k8810 ((v8811.toNat : Int) == 2)
            else
              k8810 false
          ) fun v8809 =>
          joinP (τ := Bool × Open × (List (UInt8 × Bool))) (fun k9205 =>
            whileR (σ := Bool × Int × Open × (List (UInt8 × Bool))) (fun next9468 (v9462, v9463, v9464, v9465) =>
              joinP (τ := Bool) (fun k9470 =>
                if (decide (v9463 < (v8804.length : Int))) then
                  k9470 v9462
                else
                  k9470 false
              ) fun v9469 =>
              if v9469 then
                joinP (τ := Bool × Open × (List (UInt8 × Bool))) (fun k9534 =>
                  Option.bind (geti v8803 v9463) fun v9535 =>
                  Option.bind (some (Option.getD (mget (mset (mset (mset [] (9 : UInt8) 1) (64 : UInt8) 2) (65 : UInt8) 4) v9535) 0)) fun v9537 =>
                  if (v9537 == 0) then
                    k9534 (v9462, v9464, v9465)
                  else
                    joinP (τ := Bool) (fun k9550 =>
                      Option.bind (geti v8804 v9463) fun v9551 =>
                      if ((v9551.length : Int) == v9537) then
                        Option.bind (geti v8803 v9463) fun v9553 =>
                        Option.bind (some (Option.getD (mget v9465 v9553) false)) fun v9555 =>
                        k9550 (!v9555)
                      else
                        k9550 false
                    ) fun v9549 =>
                    Option.bind (geti v8803 v9463) fun v9559 =>
                    Option.bind (geti v8804 v9463) fun v9561 =>
                    Option.bind (ref32_value v9561) fun v9563 =>
                    Option.bind (geti v8803 v9463) fun v9565 =>
                    joinP (τ := Open) (fun k9588 =>
                      if ((v9565.toNat : Int) == 9) then
                        k9588 ({ v9464 with Role := v9563 })
                      else
                        joinP (τ := Open) (fun k9592 =>
                          if ((v9565.toNat : Int) == 64) then
                            k9592 ({ v9464 with Grace := (i64w ((BitVec.ofInt 64 v9563 &&& BitVec.ofInt 64 4095).toNat : Int)), Again := ((Int.fdiv v9563 (2 ^ (min (Int.toNat 15) 64))) == 1) })
                          else
                            joinP (τ := Int) (fun k9594 =>
                              if ((v9565.toNat : Int) == 65) then
                                k9594 v9563
                              else
                                k9594 v9464.ASN
                            ) fun v9593 =>
                            k9592 ({ v9464 with ASN := v9593 })
                        ) fun v9591 =>
                        k9588 v9591
                    ) fun v9587 =>
                    k9534 (v9549, v9587, (mset v9465 v9559 true))
                ) fun (v9531, v9532, v9533) =>
                next9468 (v9531, (i64w (v9463 + 1)), v9532, v9533)
              else
                k9205 (v9462, v9464, v9465)
            ) fuel (v8809, 0, v7996, v7997)
          ) fun (v9202, v9203, v9204) =>
          k8800 (v9202, v9203, v9204)
        ) fun (v8797, v8798, v8799) =>
        next8000 (v8797, (i64w (v7995 + 1)), v8798, v8799)
      else
        k4801 (v7994, v7996, v7997)
    ) fuel (v3, 0, a0, [])
  ) fun (v4798, v4799, v4800) =>
  Option.bind (some (Option.getD (mget v4800 (65 : UInt8)) false)) fun v9595 =>
  some (v4798, v9595, v4799)

def ref32_Decode (a0 : List UInt8) : Option (Open × Int) :=
  if (decide ((a0.length : Int) < 10)) then
    some ((⟨0, 0, 0, 0, 0, false⟩ : Open), 4)
  else
    Option.bind (geti a0 0) fun v19 =>
    if ((v19.toNat : Int) != 4) then
      some ((⟨0, 0, 0, 0, 0, false⟩ : Open), 36)
    else
      Option.bind (geti a0 9) fun v23 =>
      if ((v23.toNat : Int) != (i64w ((a0.length : Int) - 10))) then
        some ((⟨0, 0, 0, 0, 0, false⟩ : Open), 5)
      else
        Option.bind (part a0 1 3) fun v25 =>
        Option.bind (ref32_value v25) fun v27 =>
        Option.bind (part a0 3 5) fun v29 =>
        Option.bind (ref32_value v29) fun v31 =>
        Option.bind (part a0 5 9) fun v33 =>
        Option.bind (ref32_value v33) fun v35 =>
        Option.bind (part a0 10 (a0.length : Int)) fun v37 =>
        Option.bind (ref32_capabilities (⟨v27, v35, v31, (-1), 0, false⟩ : Open) v37) fun (v39, v40, v41) =>
        joinP (τ := Bool) (fun k44 =>
          if (!v39) then
            k44 true
          else
            if v40 then
              if (v27 != v41.ASN) then
                if (v27 != 23456) then
                  k44 true
                else
                  k44 (decide (v41.ASN ≤ 65535))
              else
                k44 false
            else
              k44 false
        ) fun v43 =>
        if v43 then
          some ((⟨0, 0, 0, 0, 0, false⟩ : Open), 5)
        else
          Option.bind (ref32_Valid v41) fun v45 =>
          if (!v45) then
            some ((⟨0, 0, 0, 0, 0, false⟩ : Open), 1)
          else
            some (v41, 0)

def law32_SessionReads (a0 : List UInt8) (a1 : List Int) (a2 : Int) (a3 : Int) : Option Bool :=
  if (decide ((a0.length : Int) > 600)) then
    Option.bind (law32_awake) fun v3 =>
    some v3
  else
    Option.bind (mill_New a1) fun v5 =>
    Option.bind (mill_Deck_Next v5 100000) fun (v7, v8) =>
    Option.bind (mill_Deck_Open v8 (i64w (1 + v7))) fun (v10, v11) =>
    Option.bind (ref32_Encode v10) fun (v13, v14) =>
    Option.bind (apnd (α := UInt8) 1 [] v13) fun _ =>
    joinP (τ := (List UInt8)) (fun k25 =>
      if (decide ((v13.length : Int) > 0)) then
        Option.bind (mill_Mod a2 (v13.length : Int)) fun v26 =>
        Option.bind (geti v13 v26) fun v28 =>
        Option.bind (seti v13 v26 (toU8 a3)) fun v30 =>
        k25 v30
      else
        k25 v13
    ) fun v24 =>
    Option.bind (apnd (α := UInt8) 1 [] v13) fun _ =>
    joinP (τ := (List UInt8)) (fun k91 =>
      if (decide ((v13.length : Int) > 12)) then
        Option.bind (mill_Mod a3 7) fun v92 =>
        Option.bind (geti ([([(2 : UInt8), (0 : UInt8)] : List UInt8), ([(9 : UInt8), (1 : UInt8), (4 : UInt8)] : List UInt8), ([(64 : UInt8), (2 : UInt8), (240 : UInt8), (7 : UInt8)] : List UInt8), ([(64 : UInt8), (2 : UInt8), (15 : UInt8), (255 : UInt8)] : List UInt8), ([(65 : UInt8), (4 : UInt8), (0 : UInt8), (0 : UInt8), (0 : UInt8), (9 : UInt8)] : List UInt8), ([(9 : UInt8), (2 : UInt8), (1 : UInt8), (1 : UInt8)] : List UInt8), ([(65 : UInt8), (4 : UInt8), (0 : UInt8), (1 : UInt8), (0 : UInt8), (0 : UInt8)] : List UInt8)] : List (List UInt8)) v92) fun v94 =>
        Option.bind (mill_Mod a2 2) fun v96 =>
        joinP (τ := (List UInt8)) (fun k123 =>
          if (v96 == 0) then
            Option.bind (apnd (α := UInt8) 1 v13 v94) fun v124 =>
            Option.bind (geti v124 9) fun v126 =>
            Option.bind (geti v124 9) fun v128 =>
            Option.bind (seti v124 9 (toU8 ((v126.toNat : Int) + ((toU8 (v94.length : Int)).toNat : Int)))) fun v130 =>
            Option.bind (geti v130 11) fun v132 =>
            Option.bind (geti v130 11) fun v134 =>
            Option.bind (seti v130 11 (toU8 ((v132.toNat : Int) + ((toU8 (v94.length : Int)).toNat : Int)))) fun v136 =>
            k123 v136
          else
            Option.bind (apnd (α := UInt8) 1 v13 ([(2 : UInt8), (toU8 (v94.length : Int))] : List UInt8)) fun v138 =>
            Option.bind (apnd (α := UInt8) 1 v138 v94) fun v140 =>
            Option.bind (geti v140 9) fun v142 =>
            Option.bind (geti v140 9) fun v144 =>
            Option.bind (seti v140 9 (toU8 ((v142.toNat : Int) + ((toU8 (i64w ((v94.length : Int) + 2))).toNat : Int)))) fun v146 =>
            k123 v146
        ) fun v122 =>
        k91 v122
      else
        k91 v13
    ) fun v90 =>
    Option.bind (mill_Mod a3 (i64w ((v13.length : Int) + 1))) fun v148 =>
    Option.bind (part v13 0 v148) fun v150 =>
    joinP (τ := Unit) (fun k191 =>
      forR (σ := Unit) (fun _ =>
        k191 ()
      ) (fun next214 x211 i210 _ =>
        Option.bind (session_Decode x211) fun (v223, v224) =>
        Option.bind (ref32_Decode x211) fun (v226, v227) =>
        joinP (τ := Bool) (fun k230 =>
          if (!(Open.eqd v223 v226)) then
            k230 true
          else
            k230 (v224 != v227)
        ) fun v229 =>
        if v229 then
          some false
        else
          next214 ()
      ) ([a0, v13, v24, v90, v150, ([(4 : UInt8), (toU8 a2), (toU8 a3), (0 : UInt8), (90 : UInt8), (0 : UInt8), (0 : UInt8), (0 : UInt8), (toU8 a2), (0 : UInt8)] : List UInt8)] : List (List UInt8)) 0 ()
    ) fun _ =>
    Option.bind (law32_awake) fun v231 =>
    some v231

def law32_SessionBack (a0 : List Int) (a1 : Int) : Option Bool :=
  Option.bind (mill_New a0) fun v1 =>
  Option.bind (mill_Mod a1 4294967295) fun v3 =>
  Option.bind (mill_Deck_Open v1 (i64w (1 + v3))) fun (v5, v6) =>
  Option.bind (session_Encode v5) fun (v8, v9) =>
  Option.bind (session_Decode v8) fun (v11, v12) =>
  joinP (τ := Bool) (fun k17 =>
    if (v9 == 0) then
      if (v12 == 0) then
        if (Open.eqd v11 v5) then
          if (decide ((v8.length : Int) ≤ 29)) then
            Option.bind (law32_awake) fun v18 =>
            k17 v18
          else
            k17 false
        else
          k17 false
      else
        k17 false
    else
      k17 false
  ) fun v16 =>
  some v16

def session_tick (a0 : Int) : Option Bool :=
  joinP (τ := Bool) (fun k2 =>
    if (decide (a0 ≥ 0)) then
      k2 (decide (a0 ≤ 1073741824))
    else
      k2 false
  ) fun v1 =>
  some v1

def session_Start (a0 : Session) (a1 : Int) : Option (Session × (List Message) × Int) :=
  Option.bind (session_Encode a0.Mine) fun (v1, v2) =>
  joinP (τ := Bool) (fun k7 =>
    if (v2 != 0) then
      k7 true
    else
      if (decide (a0.ASN < 1)) then
        k7 true
      else
        if (decide (a0.ASN > 4294967295)) then
          k7 true
        else
          Option.bind (session_tick a1) fun v8 =>
          k7 (!v8)
  ) fun v6 =>
  if v6 then
    some ((⟨0, (⟨0, 0, 0, 0, 0, false⟩ : Open), 0, (⟨0, 0, 0, 0, 0, false⟩ : Open), 0, 0⟩ : Session), [], 1)
  else
    if (a0.State != 0) then
      some ((⟨0, (⟨0, 0, 0, 0, 0, false⟩ : Open), 0, (⟨0, 0, 0, 0, 0, false⟩ : Open), 0, 0⟩ : Session), [], 31)
    else
      some ((⟨1, a0.Mine, a0.ASN, (⟨0, 0, 0, 0, 0, false⟩ : Open), a1, a1⟩ : Session), ([(⟨1, v1⟩ : Message)] : List Message), 0)

def ref32_Start (a0 : Session) (a1 : Int) : Option (Session × (List Message) × Int) :=
  joinP (τ := Bool) (fun k4 =>
    Option.bind (ref32_Valid a0.Mine) fun v5 =>
    if (!v5) then
      k4 true
    else
      if (decide (a0.ASN < 1)) then
        k4 true
      else
        if (decide (a0.ASN > 4294967295)) then
          k4 true
        else
          if (decide (a1 < 0)) then
            k4 true
          else
            k4 (decide (a1 > 1073741824))
  ) fun v3 =>
  if v3 then
    some ((⟨0, (⟨0, 0, 0, 0, 0, false⟩ : Open), 0, (⟨0, 0, 0, 0, 0, false⟩ : Open), 0, 0⟩ : Session), [], 1)
  else
    if (a0.State != 0) then
      some ((⟨0, (⟨0, 0, 0, 0, 0, false⟩ : Open), 0, (⟨0, 0, 0, 0, 0, false⟩ : Open), 0, 0⟩ : Session), [], 31)
    else
      Option.bind (ref32_Encode a0.Mine) fun (v7, v8) =>
      some ((⟨1, a0.Mine, a0.ASN, (⟨0, 0, 0, 0, 0, false⟩ : Open), a1, a1⟩ : Session), ([(⟨1, v7⟩ : Message)] : List Message), 0)

def session_ended (a0 : Session) (a1 : Int) : Option (Session × (List Message)) :=
  if (a1 == 0) then
    some ((⟨0, a0.Mine, a0.ASN, (⟨0, 0, 0, 0, 0, false⟩ : Open), 0, 0⟩ : Session), [])
  else
    Option.bind (session_Notify a1) fun v1 =>
    some ((⟨0, a0.Mine, a0.ASN, (⟨0, 0, 0, 0, 0, false⟩ : Open), 0, 0⟩ : Session), ([v1] : List Message))

def session_keepalive  : Option (List Message) :=
  some ([(⟨4, []⟩ : Message)] : List Message)

def role_inverse  : Option A5_Int :=
  some (⟨3, 2, 1, 0, 4⟩ : A5_Int)

def role_known (a0 : Int) : Option Bool :=
  joinP (τ := Bool) (fun k4 =>
    if (decide (a0 ≥ 0)) then
      Option.bind (role_inverse) fun v5 =>
      k4 (decide (a0 < 5))
    else
      k4 false
  ) fun v3 =>
  some v3

def role_Inverse (a0 : Int) : Option Int :=
  Option.bind (role_known a0) fun v1 =>
  if (!v1) then
    some (-1)
  else
    Option.bind (role_inverse) fun v3 =>
    Option.bind (geti [v3.e0, v3.e1, v3.e2, v3.e3, v3.e4] a0) fun v5 =>
    some v5

def role_Fits (a0 : Int) (a1 : Int) : Option Bool :=
  joinP (τ := Bool) (fun k6 =>
    Option.bind (role_known a0) fun v7 =>
    if v7 then
      Option.bind (role_Inverse a0) fun v9 =>
      k6 (a1 == v9)
    else
      k6 false
  ) fun v5 =>
  some v5

def session_opened (a0 : Session) (a1 : Message) (a2 : Int) : Option (Session × (List Message)) :=
  Option.bind (session_Decode a1.Body) fun (v1, v2) =>
  if (v2 != 0) then
    Option.bind (session_ended a0 1) fun (v7, v8) =>
    some (v7, v8)
  else
    joinP (τ := Bool) (fun k13 =>
      if (v1.ASN != a0.ASN) then
        k13 true
      else
        if (a0.Mine.Role != (-1)) then
          if (v1.Role != (-1)) then
            Option.bind (role_Fits a0.Mine.Role v1.Role) fun v14 =>
            k13 (!v14)
          else
            k13 false
        else
          k13 false
    ) fun v12 =>
    if v12 then
      Option.bind (session_ended a0 2) fun (v19, v20) =>
      some (v19, v20)
    else
      Option.bind (session_keepalive) fun v22 =>
      some ((⟨2, a0.Mine, a0.ASN, v1, a2, a0.Heard⟩ : Session), v22)

def session_receive (a0 : Session) (a1 : Message) (a2 : Int) : Option (Session × (List Message)) :=
  if (a1.Type_ == 3) then
    Option.bind (session_ended ({ a0 with Heard := a2 }) 0) fun (v154, v155) =>
    some (v154, v155)
  else
    joinP (τ := Bool) (fun k158 =>
      if (a0.State == 1) then
        k158 (a1.Type_ == 1)
      else
        k158 false
    ) fun v157 =>
    if v157 then
      Option.bind (session_opened ({ a0 with Heard := a2 }) a1 a2) fun (v182, v183) =>
      some (v182, v183)
    else
      joinP (τ := Bool) (fun k186 =>
        if (a0.State != 1) then
          if (a1.Type_ == 4) then
            k186 (decide ((a1.Body.length : Int) > 0))
          else
            k186 false
        else
          k186 false
      ) fun v185 =>
      if v185 then
        Option.bind (session_ended ({ a0 with Heard := a2 }) 1) fun (v196, v197) =>
        some (v196, v197)
      else
        joinP (τ := Bool) (fun k200 =>
          if (a0.State == 2) then
            k200 (a1.Type_ == 4)
          else
            k200 false
        ) fun v199 =>
        if v199 then
          some (({ a0 with State := 3, Heard := a2 }), [])
        else
          joinP (τ := Bool) (fun k204 =>
            if (a0.State == 3) then
              if (a1.Type_ == 4) then
                k204 true
              else
                if (a1.Type_ == 2) then
                  k204 true
                else
                  k204 (a1.Type_ == 5)
            else
              k204 false
          ) fun v203 =>
          if v203 then
            some (({ a0 with Heard := a2 }), [])
          else
            Option.bind (session_ended ({ a0 with Heard := a2 }) 5) fun (v205, v206) =>
            some (v205, v206)

def session_Receive (a0 : Session) (a1 : Message) (a2 : Int) : Option (Session × (List Message) × Int) :=
  joinP (τ := Bool) (fun k10 =>
    Option.bind (session_tick a2) fun v11 =>
    if (!v11) then
      k10 true
    else
      if (decide (a0.State < 0)) then
        k10 true
      else
        k10 (decide (a0.State > 3))
  ) fun v9 =>
  if v9 then
    some ((⟨0, (⟨0, 0, 0, 0, 0, false⟩ : Open), 0, (⟨0, 0, 0, 0, 0, false⟩ : Open), 0, 0⟩ : Session), [], 1)
  else
    if (a0.State == 0) then
      some ((⟨0, (⟨0, 0, 0, 0, 0, false⟩ : Open), 0, (⟨0, 0, 0, 0, 0, false⟩ : Open), 0, 0⟩ : Session), [], 31)
    else
      if (decide (a2 < a0.Heard)) then
        some ((⟨0, (⟨0, 0, 0, 0, 0, false⟩ : Open), 0, (⟨0, 0, 0, 0, 0, false⟩ : Open), 0, 0⟩ : Session), [], 37)
      else
        Option.bind (session_receive a0 a1 a2) fun (v13, v14) =>
        some (v13, v14, 0)

def ref32_ended (a0 : Session) : Option Session :=
  some (⟨0, a0.Mine, a0.ASN, (⟨0, 0, 0, 0, 0, false⟩ : Open), 0, 0⟩ : Session)

def ref23_Inverse (a0 : Int) : Option Int :=
  if (a0 == 0) then
    some 3
  else
    if (a0 == 3) then
      some 0
    else
      if (a0 == 1) then
        some 2
      else
        if (a0 == 2) then
          some 1
        else
          if (a0 == 4) then
            some 4
          else
            some (-1)

def ref23_Fits (a0 : Int) (a1 : Int) : Option Bool :=
  joinP (τ := Bool) (fun k6 =>
    Option.bind (ref23_Inverse a0) fun v7 =>
    if (v7 != (-1)) then
      Option.bind (ref23_Inverse a0) fun v9 =>
      k6 (a1 == v9)
    else
      k6 false
  ) fun v5 =>
  some v5

def ref32_Receive (a0 : Session) (a1 : Message) (a2 : Int) : Option (Session × (List Message) × Int) :=
  joinP (τ := Bool) (fun k4 =>
    if (decide (a2 < 0)) then
      k4 true
    else
      if (decide (a2 > 1073741824)) then
        k4 true
      else
        if (decide (a0.State < 0)) then
          k4 true
        else
          k4 (decide (a0.State > 3))
  ) fun v3 =>
  if v3 then
    some ((⟨0, (⟨0, 0, 0, 0, 0, false⟩ : Open), 0, (⟨0, 0, 0, 0, 0, false⟩ : Open), 0, 0⟩ : Session), [], 1)
  else
    if (a0.State == 0) then
      some ((⟨0, (⟨0, 0, 0, 0, 0, false⟩ : Open), 0, (⟨0, 0, 0, 0, 0, false⟩ : Open), 0, 0⟩ : Session), [], 31)
    else
      if (decide (a2 < a0.Heard)) then
        some ((⟨0, (⟨0, 0, 0, 0, 0, false⟩ : Open), 0, (⟨0, 0, 0, 0, 0, false⟩ : Open), 0, 0⟩ : Session), [], 37)
      else
        joinP (τ := Bool) (fun k6 =>
          if (a1.Type_ == 4) then
            k6 (decide (a0.State ≥ 2))
          else
            k6 false
        ) fun v5 =>
        joinP (τ := Int) (fun k100 =>
          if (a1.Type_ == 3) then
            Option.bind (ref32_ended ({ a0 with Heard := a2 })) fun v147 =>
            some (v147, [], 0)
          else
            joinP (τ := Bool) (fun k150 =>
              if (a0.State == 1) then
                k150 (a1.Type_ == 1)
              else
                k150 false
            ) fun v149 =>
            if v149 then
              Option.bind (ref32_Decode a1.Body) fun (v172, v173) =>
              if (v173 != 0) then
                k100 1
              else
                joinP (τ := Bool) (fun k178 =>
                  if (v172.ASN != a0.ASN) then
                    k178 true
                  else
                    if (a0.Mine.Role != (-1)) then
                      if (v172.Role != (-1)) then
                        Option.bind (ref23_Fits a0.Mine.Role v172.Role) fun v179 =>
                        k178 (!v179)
                      else
                        k178 false
                    else
                      k178 false
                ) fun v177 =>
                if v177 then
                  k100 2
                else
                  some ((⟨2, a0.Mine, a0.ASN, v172, a2, a2⟩ : Session), ([(⟨4, []⟩ : Message)] : List Message), 0)
            else
              joinP (τ := Bool) (fun k182 =>
                if v5 then
                  k182 (decide ((a1.Body.length : Int) > 0))
                else
                  k182 false
              ) fun v181 =>
              joinP (τ := Int) (fun k188 =>
                if v181 then
                  k188 1
                else
                  if v5 then
                    some (({ a0 with State := 3, Heard := a2 }), [], 0)
                  else
                    joinP (τ := Bool) (fun k192 =>
                      if (a0.State == 3) then
                        if (a1.Type_ == 2) then
                          k192 true
                        else
                          k192 (a1.Type_ == 5)
                      else
                        k192 false
                    ) fun v191 =>
                    if v191 then
                      some (({ a0 with Heard := a2 }), [], 0)
                    else
                      k188 5
              ) fun v187 =>
              k100 v187
        ) fun v99 =>
        Option.bind (ref32_ended ({ a0 with Heard := a2 })) fun v193 =>
        Option.bind (ref32_Notify v99) fun v195 =>
        some (v193, ([v195] : List Message), 0)

def session_Hold (a0 : Session) : Option Int :=
  joinP (τ := Bool) (fun k2 =>
    if (a0.Mine.Hold == 0) then
      k2 true
    else
      if (a0.Theirs.Hold != 0) then
        k2 (decide (a0.Theirs.Hold < a0.Mine.Hold))
      else
        k2 false
  ) fun v1 =>
  if v1 then
    some a0.Theirs.Hold
  else
    some a0.Mine.Hold

def ref32_Hold (a0 : Session) : Option Int :=
  joinP (τ := Bool) (fun k2 =>
    if (a0.Mine.Hold == 0) then
      k2 true
    else
      if (a0.Theirs.Hold != 0) then
        k2 (decide (a0.Theirs.Hold < a0.Mine.Hold))
      else
        k2 false
  ) fun v1 =>
  if v1 then
    some a0.Theirs.Hold
  else
    some a0.Mine.Hold

def law32_ref0 (a0 : Int) : Option Int :=
  Option.bind (mill_Mod a0 6) fun v1 =>
  Option.bind (geti ([3, 2, 1, 0, 4, (-1)] : List Int) v1) fun v3 =>
  some v3

def law32_message (a0 : Deck) (a1 : Session) : Option (Message × Deck) :=
  Option.bind (mill_Deck_Next a0 9) fun (v1, v2) =>
  joinP (τ := Bool) (fun k89 =>
    if (v1 == 0) then
      k89 (v1 == 0)
    else
      k89 (v1 == 1)
  ) fun v88 =>
  if v88 then
    Option.bind (mill_Deck_Open v2 a1.ASN) fun (v131, v132) =>
    Option.bind (mill_Deck_Next v132 4) fun (v134, v135) =>
    joinP (τ := Int) (fun k140 =>
      if (decide (v134 > 0)) then
        Option.bind (law32_ref0 a1.Mine.Role) fun v141 =>
        k140 v141
      else
        k140 v131.Role
    ) fun v139 =>
    Option.bind (ref32_Encode ({ v131 with Role := v139 })) fun (v143, v144) =>
    some ((⟨1, v143⟩ : Message), v135)
  else
    joinP (τ := Bool) (fun k149 =>
      if (v1 == 2) then
        k149 (v1 == 2)
      else
        joinP (τ := Bool) (fun k151 =>
          if (v1 == 3) then
            k151 (v1 == 3)
          else
            k151 (v1 == 4)
        ) fun v150 =>
        k149 v150
    ) fun v148 =>
    if v148 then
      Option.bind (mill_Deck_Next v2 5) fun (v162, v163) =>
      Option.bind (geti ([0, 0, 0, 0, 1] : List Int) v162) fun v165 =>
      Option.bind (chk (0 ≤ v165 ∧ v165 ≤ v165 ∧ v165 ≤ 1048576)) fun _ =>
      some ((⟨4, (List.replicate (Int.toNat v165) (0 : UInt8))⟩ : Message), v163)
    else
      joinP (τ := Bool) (fun k169 =>
        if (v1 == 5) then
          k169 (v1 == 5)
        else
          k169 (v1 == 6)
      ) fun v168 =>
      if v168 then
        Option.bind (chk (0 ≤ (4 : Int) ∧ (4 : Int) ≤ 4 ∧ (4 : Int) ≤ 1048576)) fun _ =>
        some ((⟨2, (List.replicate (Int.toNat 4) (0 : UInt8))⟩ : Message), v2)
      else
        if (v1 == 7) then
          some ((⟨5, []⟩ : Message), v2)
        else
          Option.bind (mill_Deck_Next v2 8) fun (v172, v173) =>
          Option.bind (mill_Deck_Next v173 9) fun (v175, v176) =>
          some ((⟨(i64w (v172 - 1)), ([(toU8 v175), (0 : UInt8)] : List UInt8)⟩ : Message), v176)

def session_Tick (a0 : Session) (a1 : Int) : Option (Session × (List Message)) :=
  Option.bind (session_Hold a0) fun v1 =>
  joinP (τ := Int) (fun k4 =>
    if (a0.State == 1) then
      k4 240
    else
      k4 v1
  ) fun v3 =>
  joinP (τ := Bool) (fun k76 =>
    if (a0.State == 0) then
      k76 true
    else
      if (v3 == 0) then
        k76 true
      else
        k76 (decide (a1 < a0.Heard))
  ) fun v75 =>
  if v75 then
    some (a0, [])
  else
    if (decide ((i64w (a1 - a0.Heard)) ≥ v3)) then
      Option.bind (session_ended a0 4) fun (v128, v129) =>
      some (v128, v129)
    else
      joinP (τ := Bool) (fun k136 =>
        if (a0.State == 2) then
          Option.bind (session_Hold a0) fun v137 =>
          k136 (decide ((i64w (a1 - a0.Sent)) ≥ (i64w (Int.tdiv v137 3))))
        else
          if (a0.State == 3) then
            Option.bind (session_Hold a0) fun v139 =>
            k136 (decide ((i64w (a1 - a0.Sent)) ≥ (i64w (Int.tdiv v139 3))))
          else
            k136 false
      ) fun v135 =>
      if v135 then
        Option.bind (session_keepalive) fun v143 =>
        some (({ a0 with Sent := a1 }), v143)
      else
        some (a0, [])

def ref32_Tick (a0 : Session) (a1 : Int) : Option (Session × (List Message)) :=
  Option.bind (ref32_Hold a0) fun v1 =>
  joinP (τ := Int) (fun k4 =>
    if (a0.State == 1) then
      k4 240
    else
      k4 v1
  ) fun v3 =>
  joinP (τ := Bool) (fun k6 =>
    if (a0.State == 0) then
      k6 true
    else
      if (v3 == 0) then
        k6 true
      else
        k6 (decide (a1 < a0.Heard))
  ) fun v5 =>
  if v5 then
    some (a0, [])
  else
    if (decide ((i64w (a1 - a0.Heard)) ≥ v3)) then
      Option.bind (ref32_ended a0) fun v11 =>
      Option.bind (ref32_Notify 4) fun v13 =>
      some (v11, ([v13] : List Message))
    else
      joinP (τ := Bool) (fun k18 =>
        if (decide (a0.State ≥ 2)) then
          Option.bind (ref32_Hold a0) fun v19 =>
          k18 (decide ((i64w (a1 - a0.Sent)) ≥ (i64w (Int.tdiv v19 3))))
        else
          k18 false
      ) fun v17 =>
      if v17 then
        some (({ a0 with Sent := a1 }), ([(⟨4, []⟩ : Message)] : List Message))
      else
        some (a0, [])

def law32_SessionRuns (a0 : Session) (a1 : Message) (a2 : Int) (a3 : List Int) : Option Bool :=
  if (decide ((a1.Body.length : Int) > 600)) then
    Option.bind (law32_awake) fun v3 =>
    some v3
  else
    Option.bind (mill_New a3) fun v5 =>
    Option.bind (mill_Deck_Open v5 101) fun (v7, v8) =>
    joinP (τ := Unit) (fun k161 =>
      forR (σ := Unit) (fun _ =>
        k161 ()
      ) (fun next240 x237 i236 _ =>
        Option.bind (session_Start x237 a2) fun (v277, v278, v279) =>
        Option.bind (ref32_Start x237 a2) fun (v281, v282, v283) =>
        joinP (τ := Bool) (fun k288 =>
          if (v279 != v283) then
            k288 true
          else
            if (!(Session.eqd v277 v281)) then
              k288 true
            else
              Option.bind (ref32_SameMessages v278 v282) fun v289 =>
              k288 (!v289)
        ) fun v287 =>
        if v287 then
          some false
        else
          Option.bind (session_Receive x237 a1 a2) fun (v291, v292, v293) =>
          Option.bind (ref32_Receive x237 a1 a2) fun (v295, v296, v297) =>
          joinP (τ := Bool) (fun k306 =>
            if (v293 != v297) then
              k306 true
            else
              if (!(Session.eqd v291 v295)) then
                k306 true
              else
                Option.bind (ref32_SameMessages v292 v296) fun v307 =>
                if (!v307) then
                  k306 true
                else
                  Option.bind (session_Hold x237) fun v309 =>
                  Option.bind (ref32_Hold x237) fun v311 =>
                  k306 (v309 != v311)
          ) fun v305 =>
          if v305 then
            some false
          else
            next240 ()
      ) ([a0, (⟨0, v7, 102, (⟨0, 0, 0, 0, 0, false⟩ : Open), 0, 0⟩ : Session)] : List Session) 0 ()
    ) fun _ =>
    Option.bind (mill_Deck_Open v8 101) fun (v313, v314) =>
    Option.bind (ref32_Start (⟨0, v313, 102, (⟨0, 0, 0, 0, 0, false⟩ : Open), 0, 0⟩ : Session) 5) fun (v316, v317, v318) =>
    joinP (τ := Unit) (fun k781 =>
      whileR (σ := Int × Int × Deck × Session) (fun next1092 (v1086, v1087, v1088, v1089) =>
        if (decide (v1087 < 16)) then
          Option.bind (mill_Deck_Next v1088 6) fun (v1168, v1169) =>
          Option.bind (geti ([0, 1, 3, 30, 240, 70000] : List Int) v1168) fun v1171 =>
          Option.bind (law32_message v1169 v1089) fun (v1173, v1174) =>
          Option.bind (session_Receive v1089 v1173 (i64w (v1086 + v1171))) fun (v1176, v1177, v1178) =>
          Option.bind (ref32_Receive v1089 v1173 (i64w (v1086 + v1171))) fun (v1180, v1181, v1182) =>
          joinP (τ := Bool) (fun k1191 =>
            if (v1178 != v1182) then
              k1191 true
            else
              if (!(Session.eqd v1176 v1180)) then
                k1191 true
              else
                Option.bind (ref32_SameMessages v1177 v1181) fun v1192 =>
                if (!v1192) then
                  k1191 true
                else
                  Option.bind (session_Hold v1089) fun v1194 =>
                  Option.bind (ref32_Hold v1089) fun v1196 =>
                  k1191 (v1194 != v1196)
          ) fun v1190 =>
          if v1190 then
            some false
          else
            joinP (τ := Session) (fun k1199 =>
              if (v1182 == 0) then
                k1199 v1180
              else
                k1199 v1089
            ) fun v1198 =>
            Option.bind (mill_Deck_Next v1174 5) fun (v1200, v1201) =>
            Option.bind (geti ([0, 1, 3, 30, 240] : List Int) v1200) fun v1203 =>
            Option.bind (session_Tick v1198 (i64w ((i64w (v1086 + v1171)) + v1203))) fun (v1205, v1206) =>
            Option.bind (ref32_Tick v1198 (i64w ((i64w (v1086 + v1171)) + v1203))) fun (v1208, v1209) =>
            joinP (τ := Bool) (fun k1214 =>
              if (!(Session.eqd v1205 v1208)) then
                k1214 true
              else
                Option.bind (ref32_SameMessages v1206 v1209) fun v1215 =>
                k1214 (!v1215)
            ) fun v1213 =>
            if v1213 then
              some false
            else
              joinP (τ := Bool × Deck) (fun k1222 =>
                if (v1208.State == 0) then
                  Option.bind (mill_Deck_Next v1201 2) fun (v1223, v1224) =>
                  k1222 ((v1223 == 0), v1224)
                else
                  k1222 (false, v1201)
              ) fun (v1220, v1221) =>
              joinP (τ := Deck × Session) (fun k1235 =>
                if v1220 then
                  Option.bind (mill_Deck_Open v1221 101) fun (v1236, v1237) =>
                  Option.bind (ref32_Start (⟨0, v1236, 102, (⟨0, 0, 0, 0, 0, false⟩ : Open), 0, 0⟩ : Session) (i64w ((i64w (v1086 + v1171)) + v1203))) fun (v1239, v1240, v1241) =>
                  k1235 (v1237, v1239)
                else
                  k1235 (v1221, v1208)
              ) fun (v1233, v1234) =>
              next1092 ((i64w ((i64w (v1086 + v1171)) + v1203)), (i64w (v1087 + 1)), v1233, v1234)
        else
          k781 ()
      ) fuel (5, 0, v314, v316)
    ) fun _ =>
    Option.bind (law32_awake) fun v1243 =>
    some v1243

def law32_SessionMeets (a0 : List Int) (a1 : Int) (a2 : Int) : Option Bool :=
  Option.bind (mill_New a0) fun v1 =>
  Option.bind (mill_Deck_Open v1 101) fun (v3, v4) =>
  Option.bind (mill_Deck_Open v4 102) fun (v6, v7) =>
  Option.bind (mill_Mod a1 6) fun v9 =>
  Option.bind (mill_Mod (i64w (v9 - 1)) 6) fun v11 =>
  Option.bind (law32_ref0 v11) fun v13 =>
  joinP (τ := Int) (fun k19 =>
    if ((i64w (v9 - 1)) == (-1)) then
      Option.bind (mill_Deck_Next v7 6) fun (v20, v21) =>
      k19 (i64w (v20 - 1))
    else
      k19 v13
  ) fun v18 =>
  Option.bind (session_Start (⟨0, ({ v3 with Role := (i64w (v9 - 1)) }), 102, (⟨0, 0, 0, 0, 0, false⟩ : Open), 0, 0⟩ : Session) 3) fun (v23, v24, v25) =>
  Option.bind (session_Start (⟨0, ({ v6 with Role := v18 }), 101, (⟨0, 0, 0, 0, 0, false⟩ : Open), 0, 0⟩ : Session) 3) fun (v27, v28, v29) =>
  joinP (τ := Bool) (fun k32 =>
    if (v25 != 0) then
      k32 true
    else
      k32 (v29 != 0)
  ) fun v31 =>
  if v31 then
    some false
  else
    joinP (τ := Unit) (fun k1401 =>
      whileR (σ := (List Message) × (List Message) × Int × Int × Session × Session) (fun next2318 (v2310, v2311, v2312, v2313, v2314, v2315) =>
        Option.bind (mill_Mod a2 40) fun v2319 =>
        if (decide (v2313 < (i64w (6 + v2319)))) then
          joinP (τ := Session × (List Message) × Session × (List Message)) (fun k2547 =>
            joinP (τ := Session × (List Message)) (fun k2599 =>
              forR (σ := Session × (List Message)) (fun (v2630, v2631) =>
                k2599 (v2630, v2631)
              ) (fun next2636 x2633 i2632 (v2630, v2631) =>
                Option.bind (session_Receive v2630 x2633 v2312) fun (v2643, v2644, v2645) =>
                if (v2645 != 0) then
                  some false
                else
                  Option.bind (apnd (α := Message) 32 v2631 v2644) fun v2647 =>
                  next2636 (v2643, v2647)
              ) v2310 0 (v2315, [])
            ) fun (v2597, v2598) =>
            joinP (τ := Session × (List Message)) (fun k2700 =>
              forR (σ := Session × (List Message)) (fun (v2731, v2732) =>
                k2700 (v2731, v2732)
              ) (fun next2737 x2734 i2733 (v2731, v2732) =>
                Option.bind (session_Receive v2731 x2734 v2312) fun (v2744, v2745, v2746) =>
                if (v2746 != 0) then
                  some false
                else
                  Option.bind (apnd (α := Message) 32 v2732 v2745) fun v2748 =>
                  next2737 (v2744, v2748)
              ) v2311 0 (v2314, [])
            ) fun (v2698, v2699) =>
            Option.bind (session_Tick v2698 (i64w (v2312 + 1))) fun (v2750, v2751) =>
            Option.bind (apnd (α := Message) 32 v2699 v2751) fun v2753 =>
            Option.bind (session_Tick v2597 (i64w (v2312 + 1))) fun (v2755, v2756) =>
            Option.bind (apnd (α := Message) 32 v2598 v2756) fun v2758 =>
            joinP (τ := Bool) (fun k2765 =>
              if (decide (v2313 ≥ 2)) then
                if (v2750.State != 3) then
                  k2765 true
                else
                  if (v2755.State != 3) then
                    k2765 true
                  else
                    Option.bind (session_Hold v2750) fun v2766 =>
                    Option.bind (session_Hold v2755) fun v2768 =>
                    k2765 (v2766 != v2768)
              else
                k2765 false
            ) fun v2764 =>
            if v2764 then
              some false
            else
              k2547 (v2750, v2753, v2755, v2758)
          ) fun (v2543, v2544, v2545, v2546) =>
          next2318 (v2544, v2546, (i64w (v2312 + 1)), (i64w (v2313 + 1)), v2543, v2545)
        else
          k1401 ()
      ) fuel (v24, v28, 3, 0, v23, v27)
    ) fun _ =>
    Option.bind (law32_awake) fun v2770 =>
    some v2770

def law32_SessionSilent (a0 : List Int) (a1 : Int) : Option Bool :=
  Option.bind (mill_New a0) fun v1 =>
  Option.bind (mill_Deck_Open v1 101) fun (v3, v4) =>
  Option.bind (mill_Deck_Open v4 102) fun (v6, v7) =>
  Option.bind (ref32_Encode v6) fun (v9, v10) =>
  Option.bind (session_Start (⟨0, ({ v3 with Role := (-1) }), 102, (⟨0, 0, 0, 0, 0, false⟩ : Open), 0, 0⟩ : Session) 0) fun (v12, v13, v14) =>
  Option.bind (session_Receive v12 (⟨1, v9⟩ : Message) 1) fun (v16, v17, v18) =>
  Option.bind (session_Receive v16 (⟨4, []⟩ : Message) 2) fun (v20, v21, v22) =>
  joinP (τ := Bool) (fun k25 =>
    if (v14 != 0) then
      k25 true
    else
      if (v18 != 0) then
        k25 true
      else
        if (v22 != 0) then
          k25 true
        else
          k25 (v20.State != 3)
  ) fun v24 =>
  if v24 then
    some false
  else
    Option.bind (session_Hold v20) fun v26 =>
    if (v26 == 0) then
      Option.bind (mill_Mod a1 100000) fun v39 =>
      Option.bind (session_Tick v20 (i64w (2 + v39))) fun (v41, v42) =>
      joinP (τ := Bool) (fun k47 =>
        if (v41.State == 3) then
          if ((v42.length : Int) == 0) then
            Option.bind (law32_awake) fun v48 =>
            k47 v48
          else
            k47 false
        else
          k47 false
      ) fun v46 =>
      some v46
    else
      Option.bind (mill_Mod a1 v26) fun v50 =>
      Option.bind (session_Tick v20 (i64w (2 + v50))) fun (v52, v53) =>
      Option.bind (mill_Mod a1 50) fun v55 =>
      Option.bind (session_Tick v20 (i64w ((i64w (2 + v26)) + v55))) fun (v57, v58) =>
      joinP (τ := Bool) (fun k71 =>
        if (v52.State == 3) then
          if (v57.State == 0) then
            if ((v58.length : Int) == 1) then
              Option.bind (geti v58 0) fun v72 =>
              if (v72.Type_ == 3) then
                Option.bind (geti v58 0) fun v74 =>
                if ((v74.Body.length : Int) == 2) then
                  Option.bind (geti v58 0) fun v76 =>
                  Option.bind (geti v76.Body 0) fun v78 =>
                  if ((v78.toNat : Int) == 4) then
                    Option.bind (law32_awake) fun v80 =>
                    k71 v80
                  else
                    k71 false
                else
                  k71 false
              else
                k71 false
            else
              k71 false
          else
            k71 false
        else
          k71 false
      ) fun v70 =>
      some v70
end Go.AX.Q32
