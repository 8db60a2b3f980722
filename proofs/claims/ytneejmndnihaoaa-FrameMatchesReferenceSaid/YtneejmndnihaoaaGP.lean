/-
  What the functions compute, as plain programs.
-/
import Derived.Test.YtneejmndnihaoaaGT
namespace Go.Proofs.Ytneejmndnihaoaa
open Go.Rv
set_option linter.unusedVariables false
set_option linter.unusedSimpArgs false

def bytes_Equal (a_1 : List UInt8) (b_2 : List UInt8) : Option (Bool) :=
  some ((a_1 == b_2))

def frame_Crc_b1 (c_451 : UInt32) (t_452 : Int) : Option ((UInt32 × Int) ⊕ (UInt32)) :=
  if (decide (t_452 < 4)) = true then
    lt1 (((shr32 c_451 ((1 : UInt64)).toNat) ^^^ ((3988292384 : UInt32) &&& (0 - (c_451 &&& (1 : UInt32)))))) fun (c_461 : UInt32) =>
    some (.inl ((c_461, (w64 (t_452 + 1)))))
  else
    some (.inr c_451)
def frame_Crc_b2 (t_310 : Int) (f_311 : Arr UInt32 16) : Option ((Int × Arr UInt32 16) ⊕ (Arr UInt32 16)) :=
  if (decide (t_310 < 16)) = true then
    (((loopO (fun (v : UInt32 × Int) => frame_Crc_b1 v.1 v.2) (((UInt32.ofInt t_310), 0))).bind fun c_455 =>
    some c_455 : Option (UInt32)).bind fun c_445 =>
    if InR t_310 16 then
      lt1 ((f_311.set t_310.toNat c_445)) fun (f_464 : Arr UInt32 16) =>
      some f_464
    else none : Option (Arr UInt32 16)).bind fun f_427 =>
    some (.inl (((w64 (t_310 + 1)), f_427)))
  else
    some (.inr f_311)
def frame_Crc_b3 (b_3 : List UInt8) (f_232 : Arr UInt32 16) (c_514 : UInt32) (t_515 : Int) : Option ((UInt32 × Int) ⊕ (UInt32)) :=
  if (decide (t_515 < (b_3.length : Int))) = true then
    if InR t_515 b_3.length then
      lt1 ((c_514 ^^^ (nth b_3 t_515.toNat).toUInt32)) fun (c_532 : UInt32) =>
      if InR (((c_532 &&& (15 : UInt32)).toNat : Int)) 16 then
        lt1 (((shr32 c_532 ((4 : UInt64)).toNat) ^^^ (f_232.get (((c_532 &&& (15 : UInt32))).toNat)))) fun (c_535 : UInt32) =>
        if InR (((c_535 &&& (15 : UInt32)).toNat : Int)) 16 then
          lt1 (((shr32 c_535 ((4 : UInt64)).toNat) ^^^ (f_232.get (((c_535 &&& (15 : UInt32))).toNat)))) fun (c_538 : UInt32) =>
          some (.inl ((c_538, (w64 (t_515 + 1)))))
        else none
      else none
    else none
  else
    some (.inr c_514)
def frame_Crc (b_3 : List UInt8) : Option (UInt32) :=
  ((loopO (fun (v : Int × Arr UInt32 16) => frame_Crc_b2 v.1 v.2) ((0, (Arr.rep 16 (0 : UInt32))))).bind fun f_386 =>
  some f_386 : Option (Arr UInt32 16)).bind fun f_232 =>
  ((loopO (fun (v : UInt32 × Int) => frame_Crc_b3 b_3 f_232 v.1 v.2) (((4294967295 : UInt32), 0))).bind fun c_525 =>
  some c_525 : Option (UInt32)).bind fun c_501 =>
  some ((~~~c_501))

def r10_Crc_b1 (c_1253 : UInt32) (k_1254 : Int) : Option ((UInt32 × Int) ⊕ (UInt32)) :=
  if (decide (k_1254 < 8)) = true then
    (lt1 (((c_1253 % (2 : UInt32)) == (1 : UInt32))) fun (odd_1288 : Bool) =>
    if odd_1288 = true then
      lt1 (((c_1253 / (2 : UInt32)) ^^^ (3988292384 : UInt32))) fun (c_1291 : UInt32) =>
      some c_1291
    else
      some ((c_1253 / (2 : UInt32))) : Option (UInt32)).bind fun c_1283 =>
    some (.inl ((c_1283, (w64 (k_1254 + 1)))))
  else
    some (.inr c_1253)
def r10_Crc_b2 (b_540 : List UInt8) (c_1041 : UInt32) (i_1042 : Int) : Option ((UInt32 × Int) ⊕ (UInt32)) :=
  if (decide (i_1042 < (b_540.length : Int))) = true then
    (if InR i_1042 b_540.length then
      lt1 ((c_1041 ^^^ (nth b_540 i_1042.toNat).toUInt32)) fun (c_1235 : UInt32) =>
      (loopO (fun (v : UInt32 × Int) => r10_Crc_b1 v.1 v.2) ((c_1235, 0))).bind fun c_1271 =>
      some c_1271
    else none : Option (UInt32)).bind fun c_1230 =>
    some (.inl ((c_1230, (w64 (i_1042 + 1)))))
  else
    some (.inr c_1041)
def r10_Crc (b_540 : List UInt8) : Option (UInt32) :=
  ((loopO (fun (v : UInt32 × Int) => r10_Crc_b2 b_540 v.1 v.2) (((4294967295 : UInt32), 0))).bind fun c_1165 =>
  some c_1165 : Option (UInt32)).bind fun c_915 =>
  some ((c_915 ^^^ (4294967295 : UInt32)))

def frame_seal (b_1293 : List UInt8) : Option (List UInt8) :=
  (frame_Crc b_1293).bind fun y_1294 =>
  lt1 (([((shr32 y_1294 ((24 : UInt64)).toNat)).toUInt8, ((shr32 y_1294 ((16 : UInt64)).toNat)).toUInt8, ((shr32 y_1294 ((8 : UInt64)).toNat)).toUInt8, y_1294.toUInt8] : List UInt8)) fun (l_1296 : List UInt8) =>
  some l_1296

def r10_Joined (a_1298 : List UInt8) (b_1299 : List UInt8) : Option (List UInt8) :=
  lt1 (([] : List UInt8)) fun (l_1300 : List UInt8) =>
  if Fits (l_1300.length + a_1298.length) 1 then
    lt1 ((l_1300 ++ a_1298)) fun (l_1303 : List UInt8) =>
    if Fits (l_1303.length + b_1299.length) 1 then
      lt1 ((l_1303 ++ b_1299)) fun (l_1306 : List UInt8) =>
      some l_1306
    else none
  else none

def r10_Wrapped_b1 (b_1308 : List UInt8) (i_1443 : Int) (l_1444 : List UInt8) : Option ((Int × List UInt8) ⊕ (List UInt8)) :=
  if (decide (i_1443 < (b_1308.length : Int))) = true then
    ((if InR i_1443 b_1308.length then
      if (nth b_1308 i_1443.toNat == (126 : UInt8)) = true then
        some true
      else
        if InR i_1443 b_1308.length then
          some ((nth b_1308 i_1443.toNat == (125 : UInt8)))
        else none
    else none : Option (Bool)).bind fun t_1498 =>
    if t_1498 = true then
      if InR i_1443 b_1308.length then
        if Fits (l_1444.length + 2) 1 then
          lt1 ((l_1444 ++ (([(125 : UInt8), (nth b_1308 i_1443.toNat ^^^ (32 : UInt8))] : List UInt8)))) fun (l_1505 : List UInt8) =>
          some l_1505
        else none
      else none
    else
      if InR i_1443 b_1308.length then
        if Fits (l_1444.length + 1) 1 then
          lt1 ((l_1444 ++ (([nth b_1308 i_1443.toNat] : List UInt8)))) fun (l_1509 : List UInt8) =>
          some l_1509
        else none
      else none : Option (List UInt8)).bind fun l_1494 =>
    some (.inl (((w64 (i_1443 + 1)), l_1494)))
  else
    some (.inr l_1444)
def r10_Wrapped (b_1308 : List UInt8) : Option (List UInt8) :=
  lt1 (([(126 : UInt8)] : List UInt8)) fun (l_1309 : List UInt8) =>
  ((loopO (fun (v : Int × List UInt8) => r10_Wrapped_b1 b_1308 v.1 v.2) ((0, l_1309))).bind fun l_1475 =>
  some l_1475 : Option (List UInt8)).bind fun l_1409 =>
  if Fits (l_1409.length + 1) 1 then
    lt1 ((l_1409 ++ (([(126 : UInt8)] : List UInt8)))) fun (l_1512 : List UInt8) =>
    some l_1512
  else none

def r10_Sealed (b_1514 : List UInt8) (c_1515 : UInt32) : Option (List UInt8) :=
  lt1 (([] : List UInt8)) fun (l_1516 : List UInt8) =>
  if Fits (l_1516.length + b_1514.length) 1 then
    lt1 ((l_1516 ++ b_1514)) fun (l_1519 : List UInt8) =>
    if Fits (l_1519.length + 4) 1 then
      lt1 ((l_1519 ++ (([((shr32 c_1515 ((24 : UInt64)).toNat)).toUInt8, ((shr32 c_1515 ((16 : UInt64)).toNat)).toUInt8, ((shr32 c_1515 ((8 : UInt64)).toNat)).toUInt8, c_1515.toUInt8] : List UInt8)))) fun (l_1522 : List UInt8) =>
      some l_1522
    else none
  else none

def frame_Make_b1 (l_2039 : List (List UInt8)) (t_2207 : Int) (t_2485 : Int) (l_2486 : List UInt8) : Option ((Int × List UInt8) ⊕ (List UInt8)) :=
  if (decide (t_2485 < ((nth l_2039 t_2207.toNat).length : Int))) = true then
    if InR t_2485 ((nth l_2039 t_2207.toNat).length) then
      lt1 (nth (nth l_2039 t_2207.toNat) t_2485.toNat) fun (x_2517 : UInt8) =>
      ((if (x_2517 == (126 : UInt8)) = true then
        some true
      else
        some ((x_2517 == (125 : UInt8))) : Option (Bool)).bind fun t_2530 =>
      if t_2530 = true then
        if Fits (l_2486.length + 1) 1 then
          lt1 ((l_2486 ++ (([(125 : UInt8)] : List UInt8)))) fun (l_2534 : List UInt8) =>
          some (((x_2517 ^^^ (32 : UInt8)), l_2534))
        else none
      else
        some ((x_2517, l_2486)) : Option (UInt8 × List UInt8)).bind fun (x_2525, l_2526) =>
      if Fits (l_2526.length + 1) 1 then
        lt1 ((l_2526 ++ (([x_2525] : List UInt8)))) fun (l_2537 : List UInt8) =>
        some (.inl (((w64 (t_2485 + 1)), l_2537)))
      else none
    else none
  else
    some (.inr l_2486)
def frame_Make_b2 (b_1524 : List UInt8) (y_2037 : List UInt8) (l_2039 : List (List UInt8)) (t_2207 : Int) (l_2208 : List UInt8) : Option ((Int × List UInt8) ⊕ (List UInt8)) :=
  lt1 ((decide (t_2207 < ((([b_1524, y_2037] : List (List UInt8))).length : Int)))) fun (t_2377 : Bool) =>
  if t_2377 = true then
    (if InR t_2207 l_2039.length then
      (loopO (fun (v : Int × List UInt8) => frame_Make_b1 l_2039 t_2207 v.1 v.2) ((0, l_2208))).bind fun l_2510 =>
      some l_2510
    else none : Option (List UInt8)).bind fun l_2457 =>
    some (.inl (((w64 (t_2207 + 1)), l_2457)))
  else
    some (.inr l_2208)
def frame_Make (b_1524 : List UInt8) : Option (List UInt8 × Int) :=
  if (decide ((b_1524.length : Int) > 8192)) = true then
    some (([], 2))
  else
    if Mk 1 ((w64 ((b_1524.length : Int) + 6))) 1 then
      lt1 ((List.replicate 1 ((0 : UInt8)))) fun (l_1526 : List UInt8) =>
      if InR 0 l_1526.length then
        lt1 ((l_1526.set 0 ((126 : UInt8)))) fun (l_1529 : List UInt8) =>
        ((frame_seal b_1524).bind fun y_2037 =>
        lt1 (([b_1524, y_2037] : List (List UInt8))) fun (l_2039 : List (List UInt8)) =>
        (loopO (fun (v : Int × List UInt8) => frame_Make_b2 b_1524 y_2037 l_2039 v.1 v.2) ((0, l_1529))).bind fun l_2371 =>
        some l_2371 : Option (List UInt8)).bind fun l_2033 =>
        if Fits (l_2033.length + 1) 1 then
          lt1 ((l_2033 ++ (([(126 : UInt8)] : List UInt8)))) fun (l_2540 : List UInt8) =>
          some ((l_2540, 0))
        else none
      else none
    else none

def r10_Make (b_2542 : List UInt8) : Option (List UInt8 × Int) :=
  if (decide ((b_2542.length : Int) > 8192)) = true then
    some (([], 2))
  else
    (r10_Crc b_2542).bind fun y_2543 =>
    (r10_Sealed b_2542 y_2543).bind fun y_2544 =>
    (r10_Wrapped y_2544).bind fun y_2545 =>
    some ((y_2545, 0))

def frame_content (d_2549 : Api_Deframer) : Option (List UInt8 × Bool) :=
  lt1 ((w64 ((d_2549.Rest.length : Int) - 4))) fun (n_2550 : Int) =>
  (if d_2549.Escape = true then
    some true
  else
    if d_2549.Bad = true then
      some true
    else
      if (decide (n_2550 < 0)) = true then
        some true
      else
        some ((decide (n_2550 > 8192))) : Option (Bool)).bind fun t_2552 =>
  if t_2552 = true then
    some (([], false))
  else
    if InB n_2550 d_2549.Rest.length then
      if InB n_2550 n_2550.toNat then
        if InB n_2550 d_2549.Rest.length then
          (frame_seal ((d_2549.Rest.take n_2550.toNat))).bind fun y_2557 =>
          if InB n_2550 d_2549.Rest.length then
            (bytes_Equal y_2557 (((d_2549.Rest.drop n_2550.toNat).take (d_2549.Rest.length - n_2550.toNat)))).bind fun y_2558 =>
            some (((d_2549.Rest.take n_2550.toNat), y_2558))
          else none
        else none
      else none
    else none

def r10_content (d_2565 : Api_Deframer) : Option (List UInt8 × Bool) :=
  lt1 ((w64 ((d_2565.Rest.length : Int) - 4))) fun (n_2566 : Int) =>
  (if d_2565.Escape = true then
    some true
  else
    if d_2565.Bad = true then
      some true
    else
      if (decide (n_2566 < 0)) = true then
        some true
      else
        some ((decide (n_2566 > 8192))) : Option (Bool)).bind fun t_2568 =>
  if t_2568 = true then
    some (([], false))
  else
    if InB n_2566 d_2565.Rest.length then
      if InB n_2566 d_2565.Rest.length then
        (r10_Crc ((d_2565.Rest.take n_2566.toNat))).bind fun y_2573 =>
        (r10_Sealed ((d_2565.Rest.take n_2566.toNat)) y_2573).bind fun y_2574 =>
        if (!(y_2574 == d_2565.Rest)) = true then
          some (([], false))
        else
          if InB n_2566 d_2565.Rest.length then
            some (((d_2565.Rest.take n_2566.toNat), true))
          else none
      else none
    else none

def r10_SameState (a_2592 : Api_Deframer) (b_2593 : Api_Deframer) : Option (Bool) :=
  (if (a_2592.In == b_2593.In) = true then
    if (a_2592.Escape == b_2593.Escape) = true then
      if (a_2592.Bad == b_2593.Bad) = true then
        some ((a_2592.Rest == b_2593.Rest))
      else
        some false
    else
      some false
  else
    some false : Option (Bool)).bind fun t_2594 =>
  some t_2594

def r10_Same_b1 (a_2599 : List (List UInt8)) (b_2600 : List (List UInt8)) (i_2626 : Int) : Option ((Int) ⊕ ((Unit) ⊕ ((Unit) ⊕ (Bool)))) :=
  if (decide (i_2626 < (a_2599.length : Int))) = true then
    if InR i_2626 a_2599.length then
      if InR i_2626 b_2600.length then
        if (!((nth a_2599 i_2626.toNat) == (nth b_2600 i_2626.toNat))) = true then
          ((some false).bind fun z_2638 => some (.inr z_2638)).bind fun z_2639 => some (.inr (.inr z_2639))
        else
          some (.inl ((w64 (i_2626 + 1))))
      else none
    else none
  else
    some (.inr (.inl (())))
def r10_Same (a_2599 : List (List UInt8)) (b_2600 : List (List UInt8)) : Option (Bool) :=
  if ((a_2599.length : Int) != (b_2600.length : Int)) = true then
    some false
  else
    ((loopO (fun (v : Int) => r10_Same_b1 a_2599 b_2600 v) 0).bind fun x => match x with
    | .inl () =>
      some (.inl (()))
    | .inr z => some z : Option ((Unit) ⊕ (Bool))).bind fun x => match x with
    | .inl () =>
      some true
    | .inr z => some z

def frame_Feed_b1 (b_2641 : List UInt8) (bad_3350 : Int) (t_3351 : Int) (f_3352 : Bool) (f_3353 : Bool) (f_3354 : Bool) (l_3355 : List (List UInt8)) (l_3356 : List UInt8) : Option ((Int × Int × Bool × Bool × Bool × List (List UInt8) × List UInt8) ⊕ (Int × Bool × Bool × Bool × List (List UInt8) × List UInt8)) :=
  if (decide (t_3351 < (b_2641.length : Int))) = true then
    (if InR t_3351 b_2641.length then
      (if (nth b_2641 t_3351.toNat == (126 : UInt8)) = true then
        ((if f_3352 = true then
          if (decide ((l_3356.length : Int) > 0)) = true then
            some true
          else
            if f_3353 = true then
              some true
            else
              some f_3354
        else
          some false : Option (Bool)).bind fun t_3682 =>
        if t_3682 = true then
          (frame_content (({ Rest := l_3356, In := f_3352, Escape := f_3353, Bad := f_3354 } : Api_Deframer))).bind fun y_3687 =>
          if y_3687.2 = true then
            if Fits (l_3355.length + 1) 24 then
              lt1 ((l_3355 ++ (([y_3687.1] : List (List UInt8))))) fun (l_3690 : List (List UInt8)) =>
              some ((bad_3350, l_3690))
            else none
          else
            some (((w64 (bad_3350 + 1)), l_3355))
        else
          some ((bad_3350, l_3355)) : Option (Int × List (List UInt8))).bind fun (bad_3677, l_3678) =>
        (some ((bad_3677, true, false, false, l_3678, []))).bind fun z_3692 => some (.inr z_3692)
      else
        (if (!f_3352) = true then
          some true
        else
          some f_3354 : Option (Bool)).bind fun t_3693 =>
        if t_3693 = true then
          (some ((bad_3350, f_3352, f_3353, f_3354, l_3355, l_3356))).bind fun z_3696 => some (.inr z_3696)
        else
          (if (nth b_2641 t_3351.toNat == (125 : UInt8)) = true then
            some ((!f_3353))
          else
            some false : Option (Bool)).bind fun t_3697 =>
          if t_3697 = true then
            (some ((bad_3350, f_3352, true, f_3354, l_3355, l_3356))).bind fun z_3700 => some (.inr z_3700)
          else
            if f_3353 = true then
              lt1 ((nth b_2641 t_3351.toNat ^^^ (32 : UInt8))) fun (c_3701 : UInt8) =>
              some (.inl c_3701)
            else
              some (.inl (nth b_2641 t_3351.toNat)) : Option ((UInt8) ⊕ (Int × Bool × Bool × Bool × List (List UInt8) × List UInt8))).bind fun x => match x with
      | .inl c_3663 =>
        if (decide ((l_3356.length : Int) ≥ 8196)) = true then
          some ((bad_3350, f_3352, false, true, l_3355, []))
        else
          if Fits (l_3356.length + 1) 1 then
            lt1 ((l_3356 ++ (([c_3663] : List UInt8)))) fun (l_3704 : List UInt8) =>
            some ((bad_3350, f_3352, false, f_3354, l_3355, l_3704))
          else none
      | .inr z => some z
    else none : Option (Int × Bool × Bool × Bool × List (List UInt8) × List UInt8)).bind fun (bad_3617, f_3618, f_3619, f_3620, l_3621, l_3622) =>
    some (.inl ((bad_3617, (w64 (t_3351 + 1)), f_3618, f_3619, f_3620, l_3621, l_3622)))
  else
    some (.inr ((bad_3350, f_3352, f_3353, f_3354, l_3355, l_3356)))
def frame_Feed (d_2640 : Api_Deframer) (b_2641 : List UInt8) : Option (Api_Deframer × List (List UInt8) × Int) :=
  if Mk ((d_2640.Rest.length : Int)) ((d_2640.Rest.length : Int)) 1 then
    lt1 ((List.replicate (((d_2640.Rest.length : Int)).toNat) ((0 : UInt8)))) fun (l_2643 : List UInt8) =>
    lt1 ((ovl l_2643 (d_2640.Rest.take (min d_2640.Rest.length l_2643.length)) 0)) fun (l_2645 : List UInt8) =>
    ((loopO (fun (v : Int × Int × Bool × Bool × Bool × List (List UInt8) × List UInt8) => frame_Feed_b1 b_2641 v.1 v.2.1 v.2.2.1 v.2.2.2.1 v.2.2.2.2.1 v.2.2.2.2.2.1 v.2.2.2.2.2.2) ((0, 0, d_2640.In, d_2640.Escape, d_2640.Bad, [], l_2645))).bind fun (bad_3526, f_3527, f_3528, f_3529, l_3530, l_3531) =>
    some ((bad_3526, f_3527, f_3528, f_3529, l_3530, l_3531)) : Option (Int × Bool × Bool × Bool × List (List UInt8) × List UInt8)).bind fun (bad_3172, f_3173, f_3174, f_3175, l_3176, l_3177) =>
    some ((({ Rest := l_3177, In := f_3173, Escape := f_3174, Bad := f_3175 } : Api_Deframer), l_3176, bad_3172))
  else none

def law10_receives (stream_3716 : List UInt8) (want_3717 : List (List UInt8)) (damaged_3718 : Int) : Option (Bool) :=
  (frame_Feed (({ Rest := [], In := false, Escape := false, Bad := false } : Api_Deframer)) stream_3716).bind fun y_3719 =>
  ((r10_SameState y_3719.1 (({ Rest := [], In := true, Escape := false, Bad := false } : Api_Deframer))).bind fun y_3721 =>
  if y_3721 = true then
    (r10_Same y_3719.2.1 want_3717).bind fun y_3722 =>
    if y_3722 = true then
      some ((y_3719.2.2 == damaged_3718))
    else
      some false
  else
    some false : Option (Bool)).bind fun t_3723 =>
  some t_3723

def law10_sane  : Option (Bool) :=
  lt1 (([(49 : UInt8), (50 : UInt8), (51 : UInt8), (52 : UInt8), (53 : UInt8), (54 : UInt8), (55 : UInt8), (56 : UInt8), (57 : UInt8)] : List UInt8)) fun (l_3729 : List UInt8) =>
  (frame_Make ([])).bind fun y_3731 =>
  (frame_Make l_3729).bind fun y_3733 =>
  (if (y_3731.2 != 0) = true then
    some true
  else
    if (y_3733.2 != 0) = true then
      some true
    else
      if (!(y_3731.1 == (([126, 0, 0, 0, 0, 126] : List UInt8)))) = true then
        some true
      else
        some ((!(y_3733.1 == (([126, 49, 50, 51, 52, 53, 54, 55, 56, 57, 203, 244, 57, 38, 126] : List UInt8))))) : Option (Bool)).bind fun t_3735 =>
  if t_3735 = true then
    some false
  else
    lt1 (([] : List (List UInt8))) fun (l_3740 : List (List UInt8)) =>
    lt1 (([([] : List UInt8)] : List (List UInt8))) fun (l_3742 : List (List UInt8)) =>
    ((frame_Crc ([])).bind fun y_3744 =>
    if (y_3744 != (0 : UInt32)) = true then
      some true
    else
      (frame_Crc l_3729).bind fun y_3745 =>
      some ((y_3745 != (3421780262 : UInt32))) : Option (Bool)).bind fun t_3746 =>
    if t_3746 = true then
      some false
    else
      ((law10_receives (([(126 : UInt8), (126 : UInt8), (0 : UInt8), (0 : UInt8), (0 : UInt8), (0 : UInt8), (126 : UInt8), (126 : UInt8)] : List UInt8)) l_3742 0).bind fun y_3751 =>
      if (!y_3751) = true then
        some true
      else
        (law10_receives (([(0 : UInt8), (0 : UInt8), (0 : UInt8), (0 : UInt8), (126 : UInt8)] : List UInt8)) l_3740 0).bind fun y_3752 =>
        if (!y_3752) = true then
          some true
        else
          (law10_receives (([(126 : UInt8), (125 : UInt8), (32 : UInt8), (0 : UInt8), (0 : UInt8), (0 : UInt8), (126 : UInt8)] : List UInt8)) l_3742 0).bind fun y_3753 =>
          some ((!y_3753)) : Option (Bool)).bind fun t_3754 =>
      if t_3754 = true then
        some false
      else
        ((law10_receives (([(126 : UInt8), (1 : UInt8), (2 : UInt8), (126 : UInt8)] : List UInt8)) l_3740 1).bind fun y_3761 =>
        if y_3761 = true then
          (law10_receives (([(126 : UInt8), (0 : UInt8), (0 : UInt8), (0 : UInt8), (125 : UInt8), (126 : UInt8)] : List UInt8)) l_3740 1).bind fun y_3762 =>
          if y_3762 = true then
            (law10_receives (([(126 : UInt8), (0 : UInt8), (0 : UInt8), (0 : UInt8), (1 : UInt8), (126 : UInt8)] : List UInt8)) l_3740 1).bind fun y_3763 =>
            some y_3763
          else
            some false
        else
          some false : Option (Bool)).bind fun t_3764 =>
        some t_3764

def law10_FrameMatchesReference (b_3771 : List UInt8) : Option (Bool) :=
  law10_sane.bind fun y_3772 =>
  if (!y_3772) = true then
    some false
  else
    (frame_Make b_3771).bind fun y_3774 =>
    (r10_Make b_3771).bind fun y_3776 =>
    ((frame_Crc b_3771).bind fun y_3778 =>
    (r10_Crc b_3771).bind fun y_3779 =>
    if (y_3778 == y_3779) = true then
      if (y_3774.2 == y_3776.2) = true then
        some ((y_3774.1 == y_3776.1))
      else
        some false
    else
      some false : Option (Bool)).bind fun t_3780 =>
    some t_3780

def law10_FrameRoundTrip_b1 (l_3792 : List (List UInt8)) (i_4059 : Int) (l_4060 : List UInt8) (l_4061 : List UInt8) (l_4062 : List (List UInt8)) : Option ((Int × List UInt8 × List UInt8 × List (List UInt8)) ⊕ ((List UInt8 × List UInt8 × List (List UInt8)) ⊕ ((List UInt8 × List UInt8 × List (List UInt8)) ⊕ (Bool)))) :=
  if (decide (i_4059 < (l_3792.length : Int))) = true then
    (if InR i_4059 l_3792.length then
      (frame_Make (nth l_3792 i_4059.toNat)).bind fun y_4164 =>
      if InR i_4059 l_3792.length then
        if (decide (((nth l_3792 i_4059.toNat).length : Int) > 8192)) = true then
          (if (y_4164.2 != 2) = true then
            some true
          else
            some ((decide ((y_4164.1.length : Int) > 0))) : Option (Bool)).bind fun t_4168 =>
          if t_4168 = true then
            (((some false).bind fun z_4171 => some (.inr z_4171)).bind fun z_4172 => some (.inr (.inr z_4172))).bind fun z_4173 => some (.inr z_4173)
          else
            some (.inl ((l_4060, l_4061, l_4062)))
        else
          (if (y_4164.2 != 0) = true then
            some true
          else
            some ((decide ((y_4164.1.length : Int) < 2))) : Option (Bool)).bind fun t_4174 =>
          if t_4174 = true then
            (((some false).bind fun z_4177 => some (.inr z_4177)).bind fun z_4178 => some (.inr (.inr z_4178))).bind fun z_4179 => some (.inr z_4179)
          else
            if Fits (l_4060.length + y_4164.1.length) 1 then
              lt1 ((l_4060 ++ y_4164.1)) fun (l_4181 : List UInt8) =>
              if InB 1 y_4164.1.length then
                if Fits (l_4061.length + (((y_4164.1.drop 1).take (y_4164.1.length - 1))).length) 1 then
                  lt1 ((l_4061 ++ (((y_4164.1.drop 1).take (y_4164.1.length - 1))))) fun (l_4185 : List UInt8) =>
                  if InR i_4059 l_3792.length then
                    if Fits (l_4062.length + 1) 24 then
                      lt1 ((l_4062 ++ (([nth l_3792 i_4059.toNat] : List (List UInt8))))) fun (l_4189 : List (List UInt8)) =>
                      some (.inl ((l_4181, l_4185, l_4189)))
                    else none
                  else none
                else none
              else none
            else none
      else none
    else none : Option ((List UInt8 × List UInt8 × List (List UInt8)) ⊕ ((Int × List UInt8 × List UInt8 × List (List UInt8)) ⊕ ((List UInt8 × List UInt8 × List (List UInt8)) ⊕ ((List UInt8 × List UInt8 × List (List UInt8)) ⊕ (Bool)))))).bind fun x => match x with
    | .inl (l_4158, l_4159, l_4160) =>
      some (.inl (((w64 (i_4059 + 1)), l_4158, l_4159, l_4160)))
    | .inr z => some z
  else
    some (.inr (.inl ((l_4060, l_4061, l_4062))))
def law10_FrameRoundTrip (l_3792 : List (List UInt8)) : Option (Bool) :=
  law10_sane.bind fun y_3793 =>
  if (!y_3793) = true then
    some false
  else
    lt1 (([] : List UInt8)) fun (l_3795 : List UInt8) =>
    lt1 (([(126 : UInt8)] : List UInt8)) fun (l_3797 : List UInt8) =>
    lt1 (([] : List (List UInt8))) fun (l_3799 : List (List UInt8)) =>
    ((loopO (fun (v : Int × List UInt8 × List UInt8 × List (List UInt8)) => law10_FrameRoundTrip_b1 l_3792 v.1 v.2.1 v.2.2.1 v.2.2.2) ((0, l_3795, l_3797, l_3799))).bind fun x => match x with
    | .inl (l_4123, l_4124, l_4125) =>
      some (.inl ((l_4123, l_4124, l_4125)))
    | .inr z => some z : Option ((List UInt8 × List UInt8 × List (List UInt8)) ⊕ (Bool))).bind fun x => match x with
    | .inl (l_3993, l_3994, l_3995) =>
      if ((l_3995.length : Int) == 0) = true then
        some true
      else
        ((law10_receives l_3993 l_3995 0).bind fun y_4191 =>
        if y_4191 = true then
          (law10_receives l_3994 l_3995 0).bind fun y_4192 =>
          some y_4192
        else
          some false : Option (Bool)).bind fun t_4193 =>
        some t_4193
    | .inr z => some z

def law10_FrameDivision (d_4198 : Api_Deframer) (a_4199 : List UInt8) (b_4200 : List UInt8) : Option (Bool) :=
  law10_sane.bind fun y_4201 =>
  if (!y_4201) = true then
    some false
  else
    (r10_Joined a_4199 b_4200).bind fun y_4203 =>
    (frame_Feed d_4198 y_4203).bind fun y_4204 =>
    (frame_Feed d_4198 a_4199).bind fun y_4207 =>
    (frame_Feed y_4207.1 b_4200).bind fun y_4209 =>
    lt1 (([] : List (List UInt8))) fun (l_4211 : List (List UInt8)) =>
    if Fits (l_4211.length + y_4207.2.1.length) 24 then
      lt1 ((l_4211 ++ y_4207.2.1)) fun (l_4214 : List (List UInt8)) =>
      if Fits (l_4214.length + y_4209.2.1.length) 24 then
        lt1 ((l_4214 ++ y_4209.2.1)) fun (l_4217 : List (List UInt8)) =>
        ((r10_SameState y_4204.1 y_4209.1).bind fun y_4219 =>
        if y_4219 = true then
          (r10_Same y_4204.2.1 l_4217).bind fun y_4220 =>
          if y_4220 = true then
            some ((y_4204.2.2 == (w64 (y_4207.2.2 + y_4209.2.2))))
          else
            some false
        else
          some false : Option (Bool)).bind fun t_4221 =>
        some t_4221
      else none
    else none

def law10_FrameResynchronizes (d_4227 : Api_Deframer) (before_4228 : List UInt8) (b_4229 : List UInt8) : Option (Bool) :=
  law10_sane.bind fun y_4230 =>
  if (!y_4230) = true then
    some false
  else
    (frame_Make b_4229).bind fun y_4232 =>
    if (y_4232.2 != 0) = true then
      (if (y_4232.2 == 2) = true then
        some ((decide ((b_4229.length : Int) > 8192)))
      else
        some false : Option (Bool)).bind fun t_4234 =>
      some t_4234
    else
      (r10_Joined before_4228 y_4232.1).bind fun y_4237 =>
      (frame_Feed d_4227 y_4237).bind fun y_4238 =>
      (r10_Joined before_4228 (([(126 : UInt8)] : List UInt8))).bind fun y_4241 =>
      (frame_Feed d_4227 y_4241).bind fun y_4242 =>
      (if ((y_4238.2.1.length : Int) != (w64 ((y_4242.2.1.length : Int) + 1))) = true then
        some true
      else
        if (y_4238.2.2 != y_4242.2.2) = true then
          some true
        else
          if InB ((y_4242.2.1.length : Int)) y_4238.2.1.length then
            (r10_Same ((y_4238.2.1.take (((y_4242.2.1.length : Int)).toNat))) y_4242.2.1).bind fun y_4245 =>
            some ((!y_4245))
          else none : Option (Bool)).bind fun t_4246 =>
      if t_4246 = true then
        some false
      else
        ((r10_SameState y_4238.1 (({ Rest := [], In := true, Escape := false, Bad := false } : Api_Deframer))).bind fun y_4252 =>
        if y_4252 = true then
          if InR ((y_4242.2.1.length : Int)) y_4238.2.1.length then
            some (((nth y_4238.2.1 (((y_4242.2.1.length : Int)).toNat)) == b_4229))
          else none
        else
          some false : Option (Bool)).bind fun t_4253 =>
        some t_4253

def law10_FrameTransparent_b1 (y_4261 : List UInt8 × Int) (flags_4302 : Int) (i_4303 : Int) : Option ((Int × Int) ⊕ (Int)) :=
  if (decide (i_4303 < (y_4261.1.length : Int))) = true then
    (if InR i_4303 y_4261.1.length then
      if (nth y_4261.1 i_4303.toNat == (126 : UInt8)) = true then
        some ((w64 (flags_4302 + 1)))
      else
        some flags_4302
    else none : Option (Int)).bind fun flags_4317 =>
    some (.inl ((flags_4317, (w64 (i_4303 + 1)))))
  else
    some (.inr flags_4302)
def law10_FrameTransparent (b_4258 : List UInt8) : Option (Bool) :=
  law10_sane.bind fun y_4259 =>
  if (!y_4259) = true then
    some false
  else
    (frame_Make b_4258).bind fun y_4261 =>
    if (y_4261.2 != 0) = true then
      (if (y_4261.2 == 2) = true then
        some ((decide ((b_4258.length : Int) > 8192)))
      else
        some false : Option (Bool)).bind fun t_4263 =>
      some t_4263
    else
      ((loopO (fun (v : Int × Int) => law10_FrameTransparent_b1 y_4261 v.1 v.2) ((0, 0))).bind fun flags_4310 =>
      some flags_4310 : Option (Int)).bind fun flags_4292 =>
      (if (decide ((y_4261.1.length : Int) ≥ (w64 ((b_4258.length : Int) + 6)))) = true then
        if (decide ((y_4261.1.length : Int) ≤ (w64 ((w64 (2 * (b_4258.length : Int))) + 10)))) = true then
          if (flags_4292 == 2) = true then
            if InR 0 y_4261.1.length then
              if (nth y_4261.1 0 == (126 : UInt8)) = true then
                if InR ((w64 ((y_4261.1.length : Int) - 1))) y_4261.1.length then
                  some ((nth y_4261.1 (((w64 ((y_4261.1.length : Int) - 1))).toNat) == (126 : UInt8)))
                else none
              else
                some false
            else none
          else
            some false
        else
          some false
      else
        some false : Option (Bool)).bind fun t_4322 =>
      some t_4322

end Go.Proofs.Ytneejmndnihaoaa
