/-
  What the functions compute, as plain programs.
-/
import Derived.Test.YtneejmndnihaoaaGT
namespace Go.Proofs.Ytneejmndnihaoaa
open Go.Rv
set_option linter.unusedVariables false
set_option linter.unusedSimpArgs false

def bytes_Equal (a_1 : List UInt8) (b_2 : List UInt8) : Option (Bool) :=
  some ((a_1 == b_2))

def frame_Crc_b1 (c_451 : UInt32) (t_452 : Int) : Option ((UInt32 × Int) ⊕ (UInt32)) :=
  if (decide (t_452 < 4)) = true then
    lt1 (((shr32 c_451 ((1 : UInt64)).toNat) ^^^ ((3988292384 : UInt32) &&& (0 - (c_451 &&& (1 : UInt32)))))) fun (c_461 : UInt32) =>
    some (.inl ((c_461, (w64 (t_452 + 1)))))
  else
    some (.inr c_451)
def frame_Crc_b2 (t_310 : Int) (f_311 : Arr UInt32 16) : Option ((Int × Arr UInt32 16) ⊕ (Arr UInt32 16)) :=
  if (decide (t_310 < 16)) = true then
    (((loopO (fun (v : UInt32 × Int) => frame_Crc_b1 v.1 v.2) (((UInt32.ofInt t_310), 0))).bind fun c_455 =>
    some c_455 : Option (UInt32)).bind fun c_445 =>
    if InR t_310 16 then
      lt1 ((f_311.set t_310.toNat c_445)) fun (f_464 : Arr UInt32 16) =>
      some f_464
    else none : Option (Arr UInt32 16)).bind fun f_427 =>
    some (.inl (((w64 (t_310 + 1)), f_427)))
  else
    some (.inr f_311)
def frame_Crc_b3 (b_3 : List UInt8) (f_232 : Arr UInt32 16) (c_514 : UInt32) (t_515 : Int) : Option ((UInt32 × Int) ⊕ (UInt32)) :=
  if (decide (t_515 < (b_3.length : Int))) = true then
    if InR t_515 b_3.length then
      lt1 ((c_514 ^^^ (nth b_3 t_515.toNat).toUInt32)) fun (c_532 : UInt32) =>
      if InR (((c_532 &&& (15 : UInt32)).toNat : Int)) 16 then
        lt1 (((shr32 c_532 ((4 : UInt64)).toNat) ^^^ (f_232.get (((c_532 &&& (15 : UInt32))).toNat)))) fun (c_535 : UInt32) =>
        if InR (((c_535 &&& (15 : UInt32)).toNat : Int)) 16 then
          lt1 (((shr32 c_535 ((4 : UInt64)).toNat) ^^^ (f_232.get (((c_535 &&& (15 : UInt32))).toNat)))) fun (c_538 : UInt32) =>
          some (.inl ((c_538, (w64 (t_515 + 1)))))
        else none
      else none
    else none
  else
    some (.inr c_514)
def frame_Crc (b_3 : List UInt8) : Option (UInt32) :=
  ((loopO (fun (v : Int × Arr UInt32 16) => frame_Crc_b2 v.1 v.2) ((0, (Arr.rep 16 (0 : UInt32))))).bind fun f_386 =>
  some f_386 : Option (Arr UInt32 16)).bind fun f_232 =>
  ((loopO (fun (v : UInt32 × Int) => frame_Crc_b3 b_3 f_232 v.1 v.2) (((4294967295 : UInt32), 0))).bind fun c_525 =>
  some c_525 : Option (UInt32)).bind fun c_501 =>
  some ((~~~c_501))

def r10_Crc_b1 (c_1253 : UInt32) (k_1254 : Int) : Option ((UInt32 × Int) ⊕ (UInt32)) :=
  if (decide (k_1254 < 8)) = true then
    (lt1 (((c_1253 % (2 : UInt32)) == (1 : UInt32))) fun (odd_1288 : Bool) =>
    if odd_1288 = true then
      lt1 (((c_1253 / (2 : UInt32)) ^^^ (3988292384 : UInt32))) fun (c_1291 : UInt32) =>
      some c_1291
    else
      some ((c_1253 / (2 : UInt32))) : Option (UInt32)).bind fun c_1283 =>
    some (.inl ((c_1283, (w64 (k_1254 + 1)))))
  else
    some (.inr c_1253)
def r10_Crc_b2 (b_540 : List UInt8) (c_1041 : UInt32) (i_1042 : Int) : Option ((UInt32 × Int) ⊕ (UInt32)) :=
  if (decide (i_1042 < (b_540.length : Int))) = true then
    (if InR i_1042 b_540.length then
      lt1 ((c_1041 ^^^ (nth b_540 i_1042.toNat).toUInt32)) fun (c_1235 : UInt32) =>
      (loopO (fun (v : UInt32 × Int) => r10_Crc_b1 v.1 v.2) ((c_1235, 0))).bind fun c_1271 =>
      some c_1271
    else none : Option (UInt32)).bind fun c_1230 =>
    some (.inl ((c_1230, (w64 (i_1042 + 1)))))
  else
    some (.inr c_1041)
def r10_Crc (b_540 : List UInt8) : Option (UInt32) :=
  ((loopO (fun (v : UInt32 × Int) => r10_Crc_b2 b_540 v.1 v.2) (((4294967295 : UInt32), 0))).bind fun c_1165 =>
  some c_1165 : Option (UInt32)).bind fun c_915 =>
  some ((c_915 ^^^ (4294967295 : UInt32)))

def frame_seal (b_1293 : List UInt8) : Option (List UInt8) :=
  (frame_Crc b_1293).bind fun y_1294 =>
  lt1 (([((shr32 y_1294 ((24 : UInt64)).toNat)).toUInt8, ((shr32 y_1294 ((16 : UInt64)).toNat)).toUInt8, ((shr32 y_1294 ((8 : UInt64)).toNat)).toUInt8, y_1294.toUInt8] : List UInt8)) fun (l_1296 : List UInt8) =>
  some l_1296

def r10_Joined (a_1298 : List UInt8) (b_1299 : List UInt8) : Option (List UInt8) :=
  lt1 (([] : List UInt8)) fun (l_1308 : List UInt8) =>
  if Fits (l_1308.length + a_1298.length) 1 then
    lt1 ((l_1308 ++ a_1298)) fun (l_1311 : List UInt8) =>
    if Fits (l_1311.length + b_1299.length) 1 then
      lt1 ((l_1311 ++ b_1299)) fun (l_1314 : List UInt8) =>
      some l_1314
    else none
  else none

def r10_Wrapped_b1 (b_1316 : List UInt8) (i_1451 : Int) (l_1452 : List UInt8) : Option ((Int × List UInt8) ⊕ (List UInt8)) :=
  if (decide (i_1451 < (b_1316.length : Int))) = true then
    ((if InR i_1451 b_1316.length then
      if (nth b_1316 i_1451.toNat == (126 : UInt8)) = true then
        some true
      else
        if InR i_1451 b_1316.length then
          some ((nth b_1316 i_1451.toNat == (125 : UInt8)))
        else none
    else none : Option (Bool)).bind fun t_1506 =>
    if t_1506 = true then
      if InR i_1451 b_1316.length then
        if Fits (l_1452.length + 2) 1 then
          lt1 ((l_1452 ++ (([(125 : UInt8), (nth b_1316 i_1451.toNat ^^^ (32 : UInt8))] : List UInt8)))) fun (l_1513 : List UInt8) =>
          some l_1513
        else none
      else none
    else
      if InR i_1451 b_1316.length then
        if Fits (l_1452.length + 1) 1 then
          lt1 ((l_1452 ++ (([nth b_1316 i_1451.toNat] : List UInt8)))) fun (l_1517 : List UInt8) =>
          some l_1517
        else none
      else none : Option (List UInt8)).bind fun l_1502 =>
    some (.inl (((w64 (i_1451 + 1)), l_1502)))
  else
    some (.inr l_1452)
def r10_Wrapped (b_1316 : List UInt8) : Option (List UInt8) :=
  lt1 (([(126 : UInt8)] : List UInt8)) fun (l_1317 : List UInt8) =>
  ((loopO (fun (v : Int × List UInt8) => r10_Wrapped_b1 b_1316 v.1 v.2) ((0, l_1317))).bind fun l_1483 =>
  some l_1483 : Option (List UInt8)).bind fun l_1417 =>
  if Fits (l_1417.length + 1) 1 then
    lt1 ((l_1417 ++ (([(126 : UInt8)] : List UInt8)))) fun (l_1520 : List UInt8) =>
    some l_1520
  else none

def r10_Sealed (b_1522 : List UInt8) (c_1523 : UInt32) : Option (List UInt8) :=
  lt1 (([] : List UInt8)) fun (l_1524 : List UInt8) =>
  if Fits (l_1524.length + b_1522.length) 1 then
    lt1 ((l_1524 ++ b_1522)) fun (l_1527 : List UInt8) =>
    if Fits (l_1527.length + 4) 1 then
      lt1 ((l_1527 ++ (([((shr32 c_1523 ((24 : UInt64)).toNat)).toUInt8, ((shr32 c_1523 ((16 : UInt64)).toNat)).toUInt8, ((shr32 c_1523 ((8 : UInt64)).toNat)).toUInt8, c_1523.toUInt8] : List UInt8)))) fun (l_1530 : List UInt8) =>
      some l_1530
    else none
  else none

def frame_Make_b1 (l_2047 : List (List UInt8)) (t_2215 : Int) (t_2493 : Int) (l_2494 : List UInt8) : Option ((Int × List UInt8) ⊕ (List UInt8)) :=
  if (decide (t_2493 < ((nth l_2047 t_2215.toNat).length : Int))) = true then
    if InR t_2493 ((nth l_2047 t_2215.toNat).length) then
      lt1 (nth (nth l_2047 t_2215.toNat) t_2493.toNat) fun (x_2525 : UInt8) =>
      ((if (x_2525 == (126 : UInt8)) = true then
        some true
      else
        some ((x_2525 == (125 : UInt8))) : Option (Bool)).bind fun t_2538 =>
      if t_2538 = true then
        if Fits (l_2494.length + 1) 1 then
          lt1 ((l_2494 ++ (([(125 : UInt8)] : List UInt8)))) fun (l_2542 : List UInt8) =>
          some (((x_2525 ^^^ (32 : UInt8)), l_2542))
        else none
      else
        some ((x_2525, l_2494)) : Option (UInt8 × List UInt8)).bind fun (x_2533, l_2534) =>
      if Fits (l_2534.length + 1) 1 then
        lt1 ((l_2534 ++ (([x_2533] : List UInt8)))) fun (l_2545 : List UInt8) =>
        some (.inl (((w64 (t_2493 + 1)), l_2545)))
      else none
    else none
  else
    some (.inr l_2494)
def frame_Make_b2 (b_1532 : List UInt8) (y_2045 : List UInt8) (l_2047 : List (List UInt8)) (t_2215 : Int) (l_2216 : List UInt8) : Option ((Int × List UInt8) ⊕ (List UInt8)) :=
  lt1 ((decide (t_2215 < ((([b_1532, y_2045] : List (List UInt8))).length : Int)))) fun (t_2385 : Bool) =>
  if t_2385 = true then
    (if InR t_2215 l_2047.length then
      (loopO (fun (v : Int × List UInt8) => frame_Make_b1 l_2047 t_2215 v.1 v.2) ((0, l_2216))).bind fun l_2518 =>
      some l_2518
    else none : Option (List UInt8)).bind fun l_2465 =>
    some (.inl (((w64 (t_2215 + 1)), l_2465)))
  else
    some (.inr l_2216)
def frame_Make (b_1532 : List UInt8) : Option (List UInt8 × Int) :=
  if (decide ((b_1532.length : Int) > 8192)) = true then
    some (([], 2))
  else
    if Mk 1 ((w64 ((b_1532.length : Int) + 6))) 1 then
      lt1 ((List.replicate 1 ((0 : UInt8)))) fun (l_1534 : List UInt8) =>
      if InR 0 l_1534.length then
        lt1 ((l_1534.set 0 ((126 : UInt8)))) fun (l_1537 : List UInt8) =>
        ((frame_seal b_1532).bind fun y_2045 =>
        lt1 (([b_1532, y_2045] : List (List UInt8))) fun (l_2047 : List (List UInt8)) =>
        (loopO (fun (v : Int × List UInt8) => frame_Make_b2 b_1532 y_2045 l_2047 v.1 v.2) ((0, l_1537))).bind fun l_2379 =>
        some l_2379 : Option (List UInt8)).bind fun l_2041 =>
        if Fits (l_2041.length + 1) 1 then
          lt1 ((l_2041 ++ (([(126 : UInt8)] : List UInt8)))) fun (l_2548 : List UInt8) =>
          some ((l_2548, 0))
        else none
      else none
    else none

def r10_Make (b_2550 : List UInt8) : Option (List UInt8 × Int) :=
  if (decide ((b_2550.length : Int) > 8192)) = true then
    some (([], 2))
  else
    (r10_Crc b_2550).bind fun y_2551 =>
    (r10_Sealed b_2550 y_2551).bind fun y_2552 =>
    (r10_Wrapped y_2552).bind fun y_2553 =>
    some ((y_2553, 0))

def frame_content (d_2557 : Api_Deframer) : Option (List UInt8 × Bool) :=
  lt1 ((w64 ((d_2557.Rest.length : Int) - 4))) fun (n_2558 : Int) =>
  (if d_2557.Escape = true then
    some true
  else
    if d_2557.Bad = true then
      some true
    else
      if (decide (n_2558 < 0)) = true then
        some true
      else
        some ((decide (n_2558 > 8192))) : Option (Bool)).bind fun t_2560 =>
  if t_2560 = true then
    some (([], false))
  else
    if InB n_2558 d_2557.Rest.length then
      if InB n_2558 n_2558.toNat then
        if InB n_2558 d_2557.Rest.length then
          (frame_seal ((d_2557.Rest.take n_2558.toNat))).bind fun y_2565 =>
          if InB n_2558 d_2557.Rest.length then
            (bytes_Equal y_2565 (((d_2557.Rest.drop n_2558.toNat).take (d_2557.Rest.length - n_2558.toNat)))).bind fun y_2566 =>
            some (((d_2557.Rest.take n_2558.toNat), y_2566))
          else none
        else none
      else none
    else none

def r10_content (d_2573 : Api_Deframer) : Option (List UInt8 × Bool) :=
  lt1 ((w64 ((d_2573.Rest.length : Int) - 4))) fun (n_2574 : Int) =>
  (if d_2573.Escape = true then
    some true
  else
    if d_2573.Bad = true then
      some true
    else
      if (decide (n_2574 < 0)) = true then
        some true
      else
        some ((decide (n_2574 > 8192))) : Option (Bool)).bind fun t_2576 =>
  if t_2576 = true then
    some (([], false))
  else
    if InB n_2574 d_2573.Rest.length then
      if InB n_2574 d_2573.Rest.length then
        (r10_Crc ((d_2573.Rest.take n_2574.toNat))).bind fun y_2581 =>
        (r10_Sealed ((d_2573.Rest.take n_2574.toNat)) y_2581).bind fun y_2582 =>
        if (!(y_2582 == d_2573.Rest)) = true then
          some (([], false))
        else
          if InB n_2574 d_2573.Rest.length then
            some (((d_2573.Rest.take n_2574.toNat), true))
          else none
      else none
    else none

def r10_SameState (a_2588 : Api_Deframer) (b_2589 : Api_Deframer) : Option (Bool) :=
  (if (a_2588.In == b_2589.In) = true then
    if (a_2588.Escape == b_2589.Escape) = true then
      if (a_2588.Bad == b_2589.Bad) = true then
        some ((a_2588.Rest == b_2589.Rest))
      else
        some false
    else
      some false
  else
    some false : Option (Bool)).bind fun t_2590 =>
  some t_2590

def r10_Same_b1 (a_2595 : List (List UInt8)) (b_2596 : List (List UInt8)) (i_2622 : Int) : Option ((Int) ⊕ ((Unit) ⊕ ((Unit) ⊕ (Bool)))) :=
  if (decide (i_2622 < (a_2595.length : Int))) = true then
    if InR i_2622 a_2595.length then
      if InR i_2622 b_2596.length then
        if (!((nth a_2595 i_2622.toNat) == (nth b_2596 i_2622.toNat))) = true then
          ((some false).bind fun z_2634 => some (.inr z_2634)).bind fun z_2635 => some (.inr (.inr z_2635))
        else
          some (.inl ((w64 (i_2622 + 1))))
      else none
    else none
  else
    some (.inr (.inl (())))
def r10_Same (a_2595 : List (List UInt8)) (b_2596 : List (List UInt8)) : Option (Bool) :=
  if ((a_2595.length : Int) != (b_2596.length : Int)) = true then
    some false
  else
    ((loopO (fun (v : Int) => r10_Same_b1 a_2595 b_2596 v) 0).bind fun x => match x with
    | .inl () =>
      some (.inl (()))
    | .inr z => some z : Option ((Unit) ⊕ (Bool))).bind fun x => match x with
    | .inl () =>
      some true
    | .inr z => some z

def frame_Feed_b1 (b_2637 : List UInt8) (bad_3346 : Int) (t_3347 : Int) (f_3348 : Bool) (f_3349 : Bool) (f_3350 : Bool) (l_3351 : List (List UInt8)) (l_3352 : List UInt8) : Option ((Int × Int × Bool × Bool × Bool × List (List UInt8) × List UInt8) ⊕ (Int × Bool × Bool × Bool × List (List UInt8) × List UInt8)) :=
  if (decide (t_3347 < (b_2637.length : Int))) = true then
    (if InR t_3347 b_2637.length then
      (if (nth b_2637 t_3347.toNat == (126 : UInt8)) = true then
        ((if f_3348 = true then
          if (decide ((l_3352.length : Int) > 0)) = true then
            some true
          else
            if f_3349 = true then
              some true
            else
              some f_3350
        else
          some false : Option (Bool)).bind fun t_3678 =>
        if t_3678 = true then
          (frame_content (({ Rest := l_3352, In := f_3348, Escape := f_3349, Bad := f_3350 } : Api_Deframer))).bind fun y_3683 =>
          if y_3683.2 = true then
            if Fits (l_3351.length + 1) 24 then
              lt1 ((l_3351 ++ (([y_3683.1] : List (List UInt8))))) fun (l_3686 : List (List UInt8)) =>
              some ((bad_3346, l_3686))
            else none
          else
            some (((w64 (bad_3346 + 1)), l_3351))
        else
          some ((bad_3346, l_3351)) : Option (Int × List (List UInt8))).bind fun (bad_3673, l_3674) =>
        (some ((bad_3673, true, false, false, l_3674, []))).bind fun z_3688 => some (.inr z_3688)
      else
        (if (!f_3348) = true then
          some true
        else
          some f_3350 : Option (Bool)).bind fun t_3689 =>
        if t_3689 = true then
          (some ((bad_3346, f_3348, f_3349, f_3350, l_3351, l_3352))).bind fun z_3692 => some (.inr z_3692)
        else
          (if (nth b_2637 t_3347.toNat == (125 : UInt8)) = true then
            some ((!f_3349))
          else
            some false : Option (Bool)).bind fun t_3693 =>
          if t_3693 = true then
            (some ((bad_3346, f_3348, true, f_3350, l_3351, l_3352))).bind fun z_3696 => some (.inr z_3696)
          else
            if f_3349 = true then
              lt1 ((nth b_2637 t_3347.toNat ^^^ (32 : UInt8))) fun (c_3697 : UInt8) =>
              some (.inl c_3697)
            else
              some (.inl (nth b_2637 t_3347.toNat)) : Option ((UInt8) ⊕ (Int × Bool × Bool × Bool × List (List UInt8) × List UInt8))).bind fun x => match x with
      | .inl c_3659 =>
        if (decide ((l_3352.length : Int) ≥ 8196)) = true then
          some ((bad_3346, f_3348, false, true, l_3351, []))
        else
          if Fits (l_3352.length + 1) 1 then
            lt1 ((l_3352 ++ (([c_3659] : List UInt8)))) fun (l_3700 : List UInt8) =>
            some ((bad_3346, f_3348, false, f_3350, l_3351, l_3700))
          else none
      | .inr z => some z
    else none : Option (Int × Bool × Bool × Bool × List (List UInt8) × List UInt8)).bind fun (bad_3613, f_3614, f_3615, f_3616, l_3617, l_3618) =>
    some (.inl ((bad_3613, (w64 (t_3347 + 1)), f_3614, f_3615, f_3616, l_3617, l_3618)))
  else
    some (.inr ((bad_3346, f_3348, f_3349, f_3350, l_3351, l_3352)))
def frame_Feed (d_2636 : Api_Deframer) (b_2637 : List UInt8) : Option (Api_Deframer × List (List UInt8) × Int) :=
  if Mk ((d_2636.Rest.length : Int)) ((d_2636.Rest.length : Int)) 1 then
    lt1 ((List.replicate (((d_2636.Rest.length : Int)).toNat) ((0 : UInt8)))) fun (l_2639 : List UInt8) =>
    lt1 ((ovl l_2639 (d_2636.Rest.take (min d_2636.Rest.length l_2639.length)) 0)) fun (l_2641 : List UInt8) =>
    ((loopO (fun (v : Int × Int × Bool × Bool × Bool × List (List UInt8) × List UInt8) => frame_Feed_b1 b_2637 v.1 v.2.1 v.2.2.1 v.2.2.2.1 v.2.2.2.2.1 v.2.2.2.2.2.1 v.2.2.2.2.2.2) ((0, 0, d_2636.In, d_2636.Escape, d_2636.Bad, [], l_2641))).bind fun (bad_3522, f_3523, f_3524, f_3525, l_3526, l_3527) =>
    some ((bad_3522, f_3523, f_3524, f_3525, l_3526, l_3527)) : Option (Int × Bool × Bool × Bool × List (List UInt8) × List UInt8)).bind fun (bad_3168, f_3169, f_3170, f_3171, l_3172, l_3173) =>
    some ((({ Rest := l_3173, In := f_3169, Escape := f_3170, Bad := f_3171 } : Api_Deframer), l_3172, bad_3168))
  else none

def law10_receives (stream_3702 : List UInt8) (want_3703 : List (List UInt8)) (damaged_3704 : Int) : Option (Bool) :=
  (frame_Feed (({ Rest := [], In := false, Escape := false, Bad := false } : Api_Deframer)) stream_3702).bind fun y_3705 =>
  ((r10_SameState y_3705.1 (({ Rest := [], In := true, Escape := false, Bad := false } : Api_Deframer))).bind fun y_3707 =>
  if y_3707 = true then
    (r10_Same y_3705.2.1 want_3703).bind fun y_3708 =>
    if y_3708 = true then
      some ((y_3705.2.2 == damaged_3704))
    else
      some false
  else
    some false : Option (Bool)).bind fun t_3709 =>
  some t_3709

def law10_sane  : Option (Bool) :=
  lt1 (([(49 : UInt8), (50 : UInt8), (51 : UInt8), (52 : UInt8), (53 : UInt8), (54 : UInt8), (55 : UInt8), (56 : UInt8), (57 : UInt8)] : List UInt8)) fun (l_3715 : List UInt8) =>
  (frame_Make ([])).bind fun y_3717 =>
  (frame_Make l_3715).bind fun y_3719 =>
  (if (y_3717.2 != 0) = true then
    some true
  else
    if (y_3719.2 != 0) = true then
      some true
    else
      if (!(y_3717.1 == (([126, 0, 0, 0, 0, 126] : List UInt8)))) = true then
        some true
      else
        some ((!(y_3719.1 == (([126, 49, 50, 51, 52, 53, 54, 55, 56, 57, 203, 244, 57, 38, 126] : List UInt8))))) : Option (Bool)).bind fun t_3721 =>
  if t_3721 = true then
    some false
  else
    lt1 (([] : List (List UInt8))) fun (l_3726 : List (List UInt8)) =>
    lt1 (([([] : List UInt8)] : List (List UInt8))) fun (l_3728 : List (List UInt8)) =>
    ((frame_Crc ([])).bind fun y_3730 =>
    if (y_3730 != (0 : UInt32)) = true then
      some true
    else
      (frame_Crc l_3715).bind fun y_3731 =>
      some ((y_3731 != (3421780262 : UInt32))) : Option (Bool)).bind fun t_3732 =>
    if t_3732 = true then
      some false
    else
      ((law10_receives (([(126 : UInt8), (126 : UInt8), (0 : UInt8), (0 : UInt8), (0 : UInt8), (0 : UInt8), (126 : UInt8), (126 : UInt8)] : List UInt8)) l_3728 0).bind fun y_3737 =>
      if (!y_3737) = true then
        some true
      else
        (law10_receives (([(0 : UInt8), (0 : UInt8), (0 : UInt8), (0 : UInt8), (126 : UInt8)] : List UInt8)) l_3726 0).bind fun y_3738 =>
        if (!y_3738) = true then
          some true
        else
          (law10_receives (([(126 : UInt8), (125 : UInt8), (32 : UInt8), (0 : UInt8), (0 : UInt8), (0 : UInt8), (126 : UInt8)] : List UInt8)) l_3728 0).bind fun y_3739 =>
          some ((!y_3739)) : Option (Bool)).bind fun t_3740 =>
      if t_3740 = true then
        some false
      else
        ((law10_receives (([(126 : UInt8), (1 : UInt8), (2 : UInt8), (126 : UInt8)] : List UInt8)) l_3726 1).bind fun y_3747 =>
        if y_3747 = true then
          (law10_receives (([(126 : UInt8), (0 : UInt8), (0 : UInt8), (0 : UInt8), (125 : UInt8), (126 : UInt8)] : List UInt8)) l_3726 1).bind fun y_3748 =>
          if y_3748 = true then
            (law10_receives (([(126 : UInt8), (0 : UInt8), (0 : UInt8), (0 : UInt8), (1 : UInt8), (126 : UInt8)] : List UInt8)) l_3726 1).bind fun y_3749 =>
            some y_3749
          else
            some false
        else
          some false : Option (Bool)).bind fun t_3750 =>
        some t_3750

def law10_FrameMatchesReference (b_3757 : List UInt8) : Option (Bool) :=
  law10_sane.bind fun y_3758 =>
  if (!y_3758) = true then
    some false
  else
    (frame_Make b_3757).bind fun y_3760 =>
    (r10_Make b_3757).bind fun y_3762 =>
    ((frame_Crc b_3757).bind fun y_3764 =>
    (r10_Crc b_3757).bind fun y_3765 =>
    if (y_3764 == y_3765) = true then
      if (y_3760.2 == y_3762.2) = true then
        some ((y_3760.1 == y_3762.1))
      else
        some false
    else
      some false : Option (Bool)).bind fun t_3766 =>
    some t_3766

def r10_next (d_3772 : Api_Deframer) (c_3773 : UInt8) : Option (Api_Deframer ⊕ (Api_Deframer × List UInt8)) :=
  (if (!d_3772.In) = true then
    some true
  else
    some d_3772.Bad : Option (Bool)).bind fun t_3787 =>
  if t_3787 = true then
    some (.inl (({ Rest := d_3772.Rest, In := d_3772.In, Escape := d_3772.Escape, Bad := d_3772.Bad } : Api_Deframer)))
  else
    (if (c_3773 == (125 : UInt8)) = true then
      some ((!d_3772.Escape))
    else
      some false : Option (Bool)).bind fun t_3790 =>
    if t_3790 = true then
      some (.inl (({ Rest := d_3772.Rest, In := d_3772.In, Escape := true, Bad := d_3772.Bad } : Api_Deframer)))
    else
      (if d_3772.Escape = true then
        some ((c_3773 ^^^ (32 : UInt8)))
      else
        some c_3773 : Option (UInt8)).bind fun c_3793 =>
      if (decide ((d_3772.Rest.length : Int) ≥ 8196)) = true then
        some (.inr ((({ Rest := [], In := d_3772.In, Escape := false, Bad := true } : Api_Deframer), d_3772.Rest)))
      else
        if Fits (d_3772.Rest.length + 1) 1 then
          lt1 ((d_3772.Rest ++ (([c_3793] : List UInt8)))) fun (l_3798 : List UInt8) =>
          some (.inl (({ Rest := l_3798, In := d_3772.In, Escape := false, Bad := d_3772.Bad } : Api_Deframer)))
        else none
def r10_next_rv (r : Api_Deframer ⊕ (Api_Deframer × List UInt8)) : AV := match r with
  | .inl r => .agg [.bs false 0 (r.Rest.length) 0 (r.Rest.length), .bool r.In, .bool r.Escape, .bool r.Bad]
  | .inr r => .agg [.sl true (L cU8 ([])), .bool r.1.In, .bool r.1.Escape, .bool r.1.Bad]
attribute [go_sem] r10_next_rv
def r10_next_st (r : Api_Deframer ⊕ (Api_Deframer × List UInt8)) : Store := match r with
  | .inl r => [.buf 1 (L cU8 r.Rest) false]
  | .inr r => [.buf 1 (L cU8 r.2) false]
attribute [go_sem] r10_next_st

def r10_Feed_b1 (b_3801 : List UInt8) (bad_4160 : Int) (i_4161 : Int) (f_4162 : Bool) (f_4163 : Bool) (f_4164 : Bool) (l_4165 : List (List UInt8)) (l_4166 : List UInt8) : Option ((Int × Int × Bool × Bool × Bool × List (List UInt8) × List UInt8) ⊕ (Int × Bool × Bool × Bool × List (List UInt8) × List UInt8)) :=
  if (decide (i_4161 < (b_3801.length : Int))) = true then
    (if InR i_4161 b_3801.length then
      if (nth b_3801 i_4161.toNat != (126 : UInt8)) = true then
        (if InR i_4161 b_3801.length then
          (r10_next (({ Rest := l_4166, In := f_4162, Escape := f_4163, Bad := f_4164 } : Api_Deframer)) (nth b_3801 i_4161.toNat)).bind fun y_4305 =>
          match y_4305 with
          | .inl v_4306 =>
            some ((v_4306.In, v_4306.Escape, v_4306.Bad, v_4306.Rest))
          | .inr v_4307 =>
            some ((v_4307.1.In, v_4307.1.Escape, v_4307.1.Bad, []))
        else none : Option (Bool × Bool × Bool × List UInt8)).bind fun (f_4308, f_4309, f_4310, l_4311) =>
        some ((bad_4160, f_4308, f_4309, f_4310, l_4165, l_4311))
      else
        ((if f_4162 = true then
          if (decide ((l_4166.length : Int) > 0)) = true then
            some true
          else
            if f_4163 = true then
              some true
            else
              some f_4164
        else
          some false : Option (Bool)).bind fun t_4330 =>
        if t_4330 = true then
          (r10_content (({ Rest := l_4166, In := f_4162, Escape := f_4163, Bad := f_4164 } : Api_Deframer))).bind fun y_4335 =>
          if y_4335.2 = true then
            if Fits (l_4165.length + 1) 24 then
              lt1 ((l_4165 ++ (([y_4335.1] : List (List UInt8))))) fun (l_4338 : List (List UInt8)) =>
              some ((bad_4160, l_4338))
            else none
          else
            some (((w64 (bad_4160 + 1)), l_4165))
        else
          some ((bad_4160, l_4165)) : Option (Int × List (List UInt8))).bind fun (bad_4325, l_4326) =>
        some ((bad_4325, true, false, false, l_4326, []))
    else none : Option (Int × Bool × Bool × Bool × List (List UInt8) × List UInt8)).bind fun (bad_4295, f_4296, f_4297, f_4298, l_4299, l_4300) =>
    some (.inl ((bad_4295, (w64 (i_4161 + 1)), f_4296, f_4297, f_4298, l_4299, l_4300)))
  else
    some (.inr ((bad_4160, f_4162, f_4163, f_4164, l_4165, l_4166)))
def r10_Feed (d_3800 : Api_Deframer) (b_3801 : List UInt8) : Option (Api_Deframer × List (List UInt8) × Int) :=
  lt1 (([] : List UInt8)) fun (l_3802 : List UInt8) =>
  if Fits (l_3802.length + d_3800.Rest.length) 1 then
    lt1 ((l_3802 ++ d_3800.Rest)) fun (l_3805 : List UInt8) =>
    lt1 (([] : List (List UInt8))) fun (l_3807 : List (List UInt8)) =>
    ((loopO (fun (v : Int × Int × Bool × Bool × Bool × List (List UInt8) × List UInt8) => r10_Feed_b1 b_3801 v.1 v.2.1 v.2.2.1 v.2.2.2.1 v.2.2.2.2.1 v.2.2.2.2.2.1 v.2.2.2.2.2.2) ((0, 0, d_3800.In, d_3800.Escape, d_3800.Bad, l_3807, l_3805))).bind fun (bad_4248, f_4249, f_4250, f_4251, l_4252, l_4253) =>
    some ((bad_4248, f_4249, f_4250, f_4251, l_4252, l_4253)) : Option (Int × Bool × Bool × Bool × List (List UInt8) × List UInt8)).bind fun (bad_4070, f_4071, f_4072, f_4073, l_4074, l_4075) =>
    some ((({ Rest := l_4075, In := f_4071, Escape := f_4072, Bad := f_4073 } : Api_Deframer), l_4074, bad_4070))
  else none

def law10_FrameFeedMatchesReference (d_4340 : Api_Deframer) (b_4341 : List UInt8) : Option (Bool) :=
  law10_sane.bind fun y_4342 =>
  if (!y_4342) = true then
    some false
  else
    (frame_Feed d_4340 b_4341).bind fun y_4344 =>
    (r10_Feed d_4340 b_4341).bind fun y_4346 =>
    ((r10_SameState y_4344.1 y_4346.1).bind fun y_4348 =>
    if y_4348 = true then
      (r10_Same y_4344.2.1 y_4346.2.1).bind fun y_4349 =>
      if y_4349 = true then
        some ((y_4344.2.2 == y_4346.2.2))
      else
        some false
    else
      some false : Option (Bool)).bind fun t_4350 =>
    some t_4350

def law10_FrameDetects_b1 (b_4356 : List UInt8) (at_4357 : Int) (by_4358 : Arr UInt8 4) (i_4407 : Int) (l_4408 : List UInt8) : Option ((Int × List UInt8) ⊕ (List UInt8)) :=
  (if (decide (i_4407 < 4)) = true then
    some ((decide ((w64 (at_4357 + i_4407)) < (b_4356.length : Int))))
  else
    some false : Option (Bool)).bind fun t_4422 =>
  if t_4422 = true then
    if InR i_4407 4 then
      if InR ((w64 (at_4357 + i_4407))) l_4408.length then
        lt1 ((l_4408.set (((w64 (at_4357 + i_4407))).toNat) ((by_4358.get i_4407.toNat)))) fun (l_4427 : List UInt8) =>
        some (.inl (((w64 (i_4407 + 1)), l_4427)))
      else none
    else none
  else
    some (.inr l_4408)
def law10_FrameDetects (b_4356 : List UInt8) (at_4357 : Int) (by_4358 : Arr UInt8 4) : Option (Bool) :=
  law10_sane.bind fun y_4359 =>
  if (!y_4359) = true then
    some false
  else
    (if (decide ((b_4356.length : Int) > 8192)) = true then
      some true
    else
      if (decide (at_4357 < 0)) = true then
        some true
      else
        some ((decide (at_4357 ≥ (b_4356.length : Int)))) : Option (Bool)).bind fun t_4361 =>
    if t_4361 = true then
      some true
    else
      (r10_Joined b_4356 ([])).bind fun y_4365 =>
      ((loopO (fun (v : Int × List UInt8) => law10_FrameDetects_b1 b_4356 at_4357 by_4358 v.1 v.2) ((0, y_4365))).bind fun l_4416 =>
      some l_4416 : Option (List UInt8)).bind fun l_4396 =>
      if (l_4396 == b_4356) = true then
        (frame_Crc l_4396).bind fun y_4429 =>
        (frame_Crc b_4356).bind fun y_4430 =>
        some ((y_4429 == y_4430))
      else
        ((frame_Crc l_4396).bind fun y_4433 =>
        (frame_Crc b_4356).bind fun y_4434 =>
        if (y_4433 != y_4434) = true then
          (frame_Crc b_4356).bind fun y_4435 =>
          (r10_Sealed l_4396 y_4435).bind fun y_4436 =>
          (r10_Wrapped y_4436).bind fun y_4437 =>
          (law10_receives y_4437 (([] : List (List UInt8))) 1).bind fun y_4438 =>
          some y_4438
        else
          some false : Option (Bool)).bind fun t_4439 =>
        some t_4439

end Go.Proofs.Ytneejmndnihaoaa
