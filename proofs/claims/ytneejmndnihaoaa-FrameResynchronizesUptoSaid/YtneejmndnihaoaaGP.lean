/-
  What the functions compute, as plain programs.
-/
import Derived.Test.YtneejmndnihaoaaGT
namespace Go.Proofs.Ytneejmndnihaoaa
open Go.Rv
set_option linter.unusedVariables false
set_option linter.unusedSimpArgs false

def bytes_Equal (a_1 : List UInt8) (b_2 : List UInt8) : Option (Bool) :=
  some ((a_1 == b_2))

def frame_Crc_b1 (c_451 : UInt32) (t_452 : Int) : Option ((UInt32 × Int) ⊕ (UInt32)) :=
  if (decide (t_452 < 4)) = true then
    lt1 (((shr32 c_451 ((1 : UInt64)).toNat) ^^^ ((3988292384 : UInt32) &&& (0 - (c_451 &&& (1 : UInt32)))))) fun (c_461 : UInt32) =>
    some (.inl ((c_461, (w64 (t_452 + 1)))))
  else
    some (.inr c_451)
def frame_Crc_b2 (t_310 : Int) (f_311 : Arr UInt32 16) : Option ((Int × Arr UInt32 16) ⊕ (Arr UInt32 16)) :=
  if (decide (t_310 < 16)) = true then
    (((loopO (fun (v : UInt32 × Int) => frame_Crc_b1 v.1 v.2) (((UInt32.ofInt t_310), 0))).bind fun c_455 =>
    some c_455 : Option (UInt32)).bind fun c_445 =>
    if InR t_310 16 then
      lt1 ((f_311.set t_310.toNat c_445)) fun (f_464 : Arr UInt32 16) =>
      some f_464
    else none : Option (Arr UInt32 16)).bind fun f_427 =>
    some (.inl (((w64 (t_310 + 1)), f_427)))
  else
    some (.inr f_311)
def frame_Crc_b3 (b_3 : List UInt8) (f_232 : Arr UInt32 16) (c_514 : UInt32) (t_515 : Int) : Option ((UInt32 × Int) ⊕ (UInt32)) :=
  if (decide (t_515 < (b_3.length : Int))) = true then
    if InR t_515 b_3.length then
      lt1 ((c_514 ^^^ (nth b_3 t_515.toNat).toUInt32)) fun (c_532 : UInt32) =>
      if InR (((c_532 &&& (15 : UInt32)).toNat : Int)) 16 then
        lt1 (((shr32 c_532 ((4 : UInt64)).toNat) ^^^ (f_232.get (((c_532 &&& (15 : UInt32))).toNat)))) fun (c_535 : UInt32) =>
        if InR (((c_535 &&& (15 : UInt32)).toNat : Int)) 16 then
          lt1 (((shr32 c_535 ((4 : UInt64)).toNat) ^^^ (f_232.get (((c_535 &&& (15 : UInt32))).toNat)))) fun (c_538 : UInt32) =>
          some (.inl ((c_538, (w64 (t_515 + 1)))))
        else none
      else none
    else none
  else
    some (.inr c_514)
def frame_Crc (b_3 : List UInt8) : Option (UInt32) :=
  ((loopO (fun (v : Int × Arr UInt32 16) => frame_Crc_b2 v.1 v.2) ((0, (Arr.rep 16 (0 : UInt32))))).bind fun f_386 =>
  some f_386 : Option (Arr UInt32 16)).bind fun f_232 =>
  ((loopO (fun (v : UInt32 × Int) => frame_Crc_b3 b_3 f_232 v.1 v.2) (((4294967295 : UInt32), 0))).bind fun c_525 =>
  some c_525 : Option (UInt32)).bind fun c_501 =>
  some ((~~~c_501))

def r10_Crc_b1 (c_1253 : UInt32) (k_1254 : Int) : Option ((UInt32 × Int) ⊕ (UInt32)) :=
  if (decide (k_1254 < 8)) = true then
    (lt1 (((c_1253 % (2 : UInt32)) == (1 : UInt32))) fun (odd_1288 : Bool) =>
    if odd_1288 = true then
      lt1 (((c_1253 / (2 : UInt32)) ^^^ (3988292384 : UInt32))) fun (c_1291 : UInt32) =>
      some c_1291
    else
      some ((c_1253 / (2 : UInt32))) : Option (UInt32)).bind fun c_1283 =>
    some (.inl ((c_1283, (w64 (k_1254 + 1)))))
  else
    some (.inr c_1253)
def r10_Crc_b2 (b_540 : List UInt8) (c_1041 : UInt32) (i_1042 : Int) : Option ((UInt32 × Int) ⊕ (UInt32)) :=
  if (decide (i_1042 < (b_540.length : Int))) = true then
    (if InR i_1042 b_540.length then
      lt1 ((c_1041 ^^^ (nth b_540 i_1042.toNat).toUInt32)) fun (c_1235 : UInt32) =>
      (loopO (fun (v : UInt32 × Int) => r10_Crc_b1 v.1 v.2) ((c_1235, 0))).bind fun c_1271 =>
      some c_1271
    else none : Option (UInt32)).bind fun c_1230 =>
    some (.inl ((c_1230, (w64 (i_1042 + 1)))))
  else
    some (.inr c_1041)
def r10_Crc (b_540 : List UInt8) : Option (UInt32) :=
  ((loopO (fun (v : UInt32 × Int) => r10_Crc_b2 b_540 v.1 v.2) (((4294967295 : UInt32), 0))).bind fun c_1165 =>
  some c_1165 : Option (UInt32)).bind fun c_915 =>
  some ((c_915 ^^^ (4294967295 : UInt32)))

def frame_seal (b_1293 : List UInt8) : Option (List UInt8) :=
  (frame_Crc b_1293).bind fun y_1294 =>
  lt1 (([((shr32 y_1294 ((24 : UInt64)).toNat)).toUInt8, ((shr32 y_1294 ((16 : UInt64)).toNat)).toUInt8, ((shr32 y_1294 ((8 : UInt64)).toNat)).toUInt8, y_1294.toUInt8] : List UInt8)) fun (l_1296 : List UInt8) =>
  some l_1296

def r10_Joined (a_1298 : List UInt8) (b_1299 : List UInt8) : Option (List UInt8) :=
  lt1 (([] : List UInt8)) fun (l_1300 : List UInt8) =>
  if Fits (l_1300.length + a_1298.length) 1 then
    lt1 ((l_1300 ++ a_1298)) fun (l_1303 : List UInt8) =>
    if Fits (l_1303.length + b_1299.length) 1 then
      lt1 ((l_1303 ++ b_1299)) fun (l_1306 : List UInt8) =>
      some l_1306
    else none
  else none

def r10_Wrapped_b1 (b_1308 : List UInt8) (i_1443 : Int) (l_1444 : List UInt8) : Option ((Int × List UInt8) ⊕ (List UInt8)) :=
  if (decide (i_1443 < (b_1308.length : Int))) = true then
    ((if InR i_1443 b_1308.length then
      if (nth b_1308 i_1443.toNat == (126 : UInt8)) = true then
        some true
      else
        if InR i_1443 b_1308.length then
          some ((nth b_1308 i_1443.toNat == (125 : UInt8)))
        else none
    else none : Option (Bool)).bind fun t_1498 =>
    if t_1498 = true then
      if InR i_1443 b_1308.length then
        if Fits (l_1444.length + 2) 1 then
          lt1 ((l_1444 ++ (([(125 : UInt8), (nth b_1308 i_1443.toNat ^^^ (32 : UInt8))] : List UInt8)))) fun (l_1505 : List UInt8) =>
          some l_1505
        else none
      else none
    else
      if InR i_1443 b_1308.length then
        if Fits (l_1444.length + 1) 1 then
          lt1 ((l_1444 ++ (([nth b_1308 i_1443.toNat] : List UInt8)))) fun (l_1509 : List UInt8) =>
          some l_1509
        else none
      else none : Option (List UInt8)).bind fun l_1494 =>
    some (.inl (((w64 (i_1443 + 1)), l_1494)))
  else
    some (.inr l_1444)
def r10_Wrapped (b_1308 : List UInt8) : Option (List UInt8) :=
  lt1 (([(126 : UInt8)] : List UInt8)) fun (l_1309 : List UInt8) =>
  ((loopO (fun (v : Int × List UInt8) => r10_Wrapped_b1 b_1308 v.1 v.2) ((0, l_1309))).bind fun l_1475 =>
  some l_1475 : Option (List UInt8)).bind fun l_1409 =>
  if Fits (l_1409.length + 1) 1 then
    lt1 ((l_1409 ++ (([(126 : UInt8)] : List UInt8)))) fun (l_1512 : List UInt8) =>
    some l_1512
  else none

def r10_Sealed (b_1514 : List UInt8) (c_1515 : UInt32) : Option (List UInt8) :=
  lt1 (([] : List UInt8)) fun (l_1516 : List UInt8) =>
  if Fits (l_1516.length + b_1514.length) 1 then
    lt1 ((l_1516 ++ b_1514)) fun (l_1519 : List UInt8) =>
    if Fits (l_1519.length + 4) 1 then
      lt1 ((l_1519 ++ (([((shr32 c_1515 ((24 : UInt64)).toNat)).toUInt8, ((shr32 c_1515 ((16 : UInt64)).toNat)).toUInt8, ((shr32 c_1515 ((8 : UInt64)).toNat)).toUInt8, c_1515.toUInt8] : List UInt8)))) fun (l_1522 : List UInt8) =>
      some l_1522
    else none
  else none

def frame_Make_b1 (l_2039 : List (List UInt8)) (t_2207 : Int) (t_2485 : Int) (l_2486 : List UInt8) : Option ((Int × List UInt8) ⊕ (List UInt8)) :=
  if (decide (t_2485 < ((nth l_2039 t_2207.toNat).length : Int))) = true then
    if InR t_2485 ((nth l_2039 t_2207.toNat).length) then
      lt1 (nth (nth l_2039 t_2207.toNat) t_2485.toNat) fun (x_2517 : UInt8) =>
      ((if (x_2517 == (126 : UInt8)) = true then
        some true
      else
        some ((x_2517 == (125 : UInt8))) : Option (Bool)).bind fun t_2530 =>
      if t_2530 = true then
        if Fits (l_2486.length + 1) 1 then
          lt1 ((l_2486 ++ (([(125 : UInt8)] : List UInt8)))) fun (l_2534 : List UInt8) =>
          some (((x_2517 ^^^ (32 : UInt8)), l_2534))
        else none
      else
        some ((x_2517, l_2486)) : Option (UInt8 × List UInt8)).bind fun (x_2525, l_2526) =>
      if Fits (l_2526.length + 1) 1 then
        lt1 ((l_2526 ++ (([x_2525] : List UInt8)))) fun (l_2537 : List UInt8) =>
        some (.inl (((w64 (t_2485 + 1)), l_2537)))
      else none
    else none
  else
    some (.inr l_2486)
def frame_Make_b2 (b_1524 : List UInt8) (y_2037 : List UInt8) (l_2039 : List (List UInt8)) (t_2207 : Int) (l_2208 : List UInt8) : Option ((Int × List UInt8) ⊕ (List UInt8)) :=
  lt1 ((decide (t_2207 < ((([b_1524, y_2037] : List (List UInt8))).length : Int)))) fun (t_2377 : Bool) =>
  if t_2377 = true then
    (if InR t_2207 l_2039.length then
      (loopO (fun (v : Int × List UInt8) => frame_Make_b1 l_2039 t_2207 v.1 v.2) ((0, l_2208))).bind fun l_2510 =>
      some l_2510
    else none : Option (List UInt8)).bind fun l_2457 =>
    some (.inl (((w64 (t_2207 + 1)), l_2457)))
  else
    some (.inr l_2208)
def frame_Make (b_1524 : List UInt8) : Option (List UInt8 × Int) :=
  if (decide ((b_1524.length : Int) > 8192)) = true then
    some (([], 2))
  else
    if Mk 1 ((w64 ((b_1524.length : Int) + 6))) 1 then
      lt1 ((List.replicate 1 ((0 : UInt8)))) fun (l_1526 : List UInt8) =>
      if InR 0 l_1526.length then
        lt1 ((l_1526.set 0 ((126 : UInt8)))) fun (l_1529 : List UInt8) =>
        ((frame_seal b_1524).bind fun y_2037 =>
        lt1 (([b_1524, y_2037] : List (List UInt8))) fun (l_2039 : List (List UInt8)) =>
        (loopO (fun (v : Int × List UInt8) => frame_Make_b2 b_1524 y_2037 l_2039 v.1 v.2) ((0, l_1529))).bind fun l_2371 =>
        some l_2371 : Option (List UInt8)).bind fun l_2033 =>
        if Fits (l_2033.length + 1) 1 then
          lt1 ((l_2033 ++ (([(126 : UInt8)] : List UInt8)))) fun (l_2540 : List UInt8) =>
          some ((l_2540, 0))
        else none
      else none
    else none

def r10_Make (b_2542 : List UInt8) : Option (List UInt8 × Int) :=
  if (decide ((b_2542.length : Int) > 8192)) = true then
    some (([], 2))
  else
    (r10_Crc b_2542).bind fun y_2543 =>
    (r10_Sealed b_2542 y_2543).bind fun y_2544 =>
    (r10_Wrapped y_2544).bind fun y_2545 =>
    some ((y_2545, 0))

def frame_content (d_2549 : Api_Deframer) : Option (List UInt8 × Bool) :=
  lt1 ((w64 ((d_2549.Rest.length : Int) - 4))) fun (n_2550 : Int) =>
  (if d_2549.Escape = true then
    some true
  else
    if d_2549.Bad = true then
      some true
    else
      if (decide (n_2550 < 0)) = true then
        some true
      else
        some ((decide (n_2550 > 8192))) : Option (Bool)).bind fun t_2552 =>
  if t_2552 = true then
    some (([], false))
  else
    if InB n_2550 d_2549.Rest.length then
      if InB n_2550 n_2550.toNat then
        if InB n_2550 d_2549.Rest.length then
          (frame_seal ((d_2549.Rest.take n_2550.toNat))).bind fun y_2557 =>
          if InB n_2550 d_2549.Rest.length then
            (bytes_Equal y_2557 (((d_2549.Rest.drop n_2550.toNat).take (d_2549.Rest.length - n_2550.toNat)))).bind fun y_2558 =>
            some (((d_2549.Rest.take n_2550.toNat), y_2558))
          else none
        else none
      else none
    else none

def r10_content (d_2565 : Api_Deframer) : Option (List UInt8 × Bool) :=
  lt1 ((w64 ((d_2565.Rest.length : Int) - 4))) fun (n_2566 : Int) =>
  (if d_2565.Escape = true then
    some true
  else
    if d_2565.Bad = true then
      some true
    else
      if (decide (n_2566 < 0)) = true then
        some true
      else
        some ((decide (n_2566 > 8192))) : Option (Bool)).bind fun t_2568 =>
  if t_2568 = true then
    some (([], false))
  else
    if InB n_2566 d_2565.Rest.length then
      if InB n_2566 d_2565.Rest.length then
        (r10_Crc ((d_2565.Rest.take n_2566.toNat))).bind fun y_2573 =>
        (r10_Sealed ((d_2565.Rest.take n_2566.toNat)) y_2573).bind fun y_2574 =>
        if (!(y_2574 == d_2565.Rest)) = true then
          some (([], false))
        else
          if InB n_2566 d_2565.Rest.length then
            some (((d_2565.Rest.take n_2566.toNat), true))
          else none
      else none
    else none

def r10_SameState (a_2580 : Api_Deframer) (b_2581 : Api_Deframer) : Option (Bool) :=
  (if (a_2580.In == b_2581.In) = true then
    if (a_2580.Escape == b_2581.Escape) = true then
      if (a_2580.Bad == b_2581.Bad) = true then
        some ((a_2580.Rest == b_2581.Rest))
      else
        some false
    else
      some false
  else
    some false : Option (Bool)).bind fun t_2582 =>
  some t_2582

def r10_Same_b1 (a_2587 : List (List UInt8)) (b_2588 : List (List UInt8)) (i_2614 : Int) : Option ((Int) ⊕ ((Unit) ⊕ ((Unit) ⊕ (Bool)))) :=
  if (decide (i_2614 < (a_2587.length : Int))) = true then
    if InR i_2614 a_2587.length then
      if InR i_2614 b_2588.length then
        if (!((nth a_2587 i_2614.toNat) == (nth b_2588 i_2614.toNat))) = true then
          ((some false).bind fun z_2626 => some (.inr z_2626)).bind fun z_2627 => some (.inr (.inr z_2627))
        else
          some (.inl ((w64 (i_2614 + 1))))
      else none
    else none
  else
    some (.inr (.inl (())))
def r10_Same (a_2587 : List (List UInt8)) (b_2588 : List (List UInt8)) : Option (Bool) :=
  if ((a_2587.length : Int) != (b_2588.length : Int)) = true then
    some false
  else
    ((loopO (fun (v : Int) => r10_Same_b1 a_2587 b_2588 v) 0).bind fun x => match x with
    | .inl () =>
      some (.inl (()))
    | .inr z => some z : Option ((Unit) ⊕ (Bool))).bind fun x => match x with
    | .inl () =>
      some true
    | .inr z => some z

def frame_Feed_b1 (b_2629 : List UInt8) (bad_3338 : Int) (t_3339 : Int) (f_3340 : Bool) (f_3341 : Bool) (f_3342 : Bool) (l_3343 : List (List UInt8)) (l_3344 : List UInt8) : Option ((Int × Int × Bool × Bool × Bool × List (List UInt8) × List UInt8) ⊕ (Int × Bool × Bool × Bool × List (List UInt8) × List UInt8)) :=
  if (decide (t_3339 < (b_2629.length : Int))) = true then
    (if InR t_3339 b_2629.length then
      (if (nth b_2629 t_3339.toNat == (126 : UInt8)) = true then
        ((if f_3340 = true then
          if (decide ((l_3344.length : Int) > 0)) = true then
            some true
          else
            if f_3341 = true then
              some true
            else
              some f_3342
        else
          some false : Option (Bool)).bind fun t_3670 =>
        if t_3670 = true then
          (frame_content (({ Rest := l_3344, In := f_3340, Escape := f_3341, Bad := f_3342 } : Api_Deframer))).bind fun y_3675 =>
          if y_3675.2 = true then
            if Fits (l_3343.length + 1) 24 then
              lt1 ((l_3343 ++ (([y_3675.1] : List (List UInt8))))) fun (l_3678 : List (List UInt8)) =>
              some ((bad_3338, l_3678))
            else none
          else
            some (((w64 (bad_3338 + 1)), l_3343))
        else
          some ((bad_3338, l_3343)) : Option (Int × List (List UInt8))).bind fun (bad_3665, l_3666) =>
        (some ((bad_3665, true, false, false, l_3666, []))).bind fun z_3680 => some (.inr z_3680)
      else
        (if (!f_3340) = true then
          some true
        else
          some f_3342 : Option (Bool)).bind fun t_3681 =>
        if t_3681 = true then
          (some ((bad_3338, f_3340, f_3341, f_3342, l_3343, l_3344))).bind fun z_3684 => some (.inr z_3684)
        else
          (if (nth b_2629 t_3339.toNat == (125 : UInt8)) = true then
            some ((!f_3341))
          else
            some false : Option (Bool)).bind fun t_3685 =>
          if t_3685 = true then
            (some ((bad_3338, f_3340, true, f_3342, l_3343, l_3344))).bind fun z_3688 => some (.inr z_3688)
          else
            if f_3341 = true then
              lt1 ((nth b_2629 t_3339.toNat ^^^ (32 : UInt8))) fun (c_3689 : UInt8) =>
              some (.inl c_3689)
            else
              some (.inl (nth b_2629 t_3339.toNat)) : Option ((UInt8) ⊕ (Int × Bool × Bool × Bool × List (List UInt8) × List UInt8))).bind fun x => match x with
      | .inl c_3651 =>
        if (decide ((l_3344.length : Int) ≥ 8196)) = true then
          some ((bad_3338, f_3340, false, true, l_3343, []))
        else
          if Fits (l_3344.length + 1) 1 then
            lt1 ((l_3344 ++ (([c_3651] : List UInt8)))) fun (l_3692 : List UInt8) =>
            some ((bad_3338, f_3340, false, f_3342, l_3343, l_3692))
          else none
      | .inr z => some z
    else none : Option (Int × Bool × Bool × Bool × List (List UInt8) × List UInt8)).bind fun (bad_3605, f_3606, f_3607, f_3608, l_3609, l_3610) =>
    some (.inl ((bad_3605, (w64 (t_3339 + 1)), f_3606, f_3607, f_3608, l_3609, l_3610)))
  else
    some (.inr ((bad_3338, f_3340, f_3341, f_3342, l_3343, l_3344)))
def frame_Feed (d_2628 : Api_Deframer) (b_2629 : List UInt8) : Option (Api_Deframer × List (List UInt8) × Int) :=
  if Mk ((d_2628.Rest.length : Int)) ((d_2628.Rest.length : Int)) 1 then
    lt1 ((List.replicate (((d_2628.Rest.length : Int)).toNat) ((0 : UInt8)))) fun (l_2631 : List UInt8) =>
    lt1 ((ovl l_2631 (d_2628.Rest.take (min d_2628.Rest.length l_2631.length)) 0)) fun (l_2633 : List UInt8) =>
    ((loopO (fun (v : Int × Int × Bool × Bool × Bool × List (List UInt8) × List UInt8) => frame_Feed_b1 b_2629 v.1 v.2.1 v.2.2.1 v.2.2.2.1 v.2.2.2.2.1 v.2.2.2.2.2.1 v.2.2.2.2.2.2) ((0, 0, d_2628.In, d_2628.Escape, d_2628.Bad, [], l_2633))).bind fun (bad_3514, f_3515, f_3516, f_3517, l_3518, l_3519) =>
    some ((bad_3514, f_3515, f_3516, f_3517, l_3518, l_3519)) : Option (Int × Bool × Bool × Bool × List (List UInt8) × List UInt8)).bind fun (bad_3160, f_3161, f_3162, f_3163, l_3164, l_3165) =>
    some ((({ Rest := l_3165, In := f_3161, Escape := f_3162, Bad := f_3163 } : Api_Deframer), l_3164, bad_3160))
  else none

def law10_receives (stream_3694 : List UInt8) (want_3695 : List (List UInt8)) (damaged_3696 : Int) : Option (Bool) :=
  (frame_Feed (({ Rest := [], In := false, Escape := false, Bad := false } : Api_Deframer)) stream_3694).bind fun y_3697 =>
  ((r10_SameState y_3697.1 (({ Rest := [], In := true, Escape := false, Bad := false } : Api_Deframer))).bind fun y_3699 =>
  if y_3699 = true then
    (r10_Same y_3697.2.1 want_3695).bind fun y_3700 =>
    if y_3700 = true then
      some ((y_3697.2.2 == damaged_3696))
    else
      some false
  else
    some false : Option (Bool)).bind fun t_3701 =>
  some t_3701

def law10_sane  : Option (Bool) :=
  lt1 (([(49 : UInt8), (50 : UInt8), (51 : UInt8), (52 : UInt8), (53 : UInt8), (54 : UInt8), (55 : UInt8), (56 : UInt8), (57 : UInt8)] : List UInt8)) fun (l_3707 : List UInt8) =>
  (frame_Make ([])).bind fun y_3709 =>
  (frame_Make l_3707).bind fun y_3711 =>
  (if (y_3709.2 != 0) = true then
    some true
  else
    if (y_3711.2 != 0) = true then
      some true
    else
      if (!(y_3709.1 == (([126, 0, 0, 0, 0, 126] : List UInt8)))) = true then
        some true
      else
        some ((!(y_3711.1 == (([126, 49, 50, 51, 52, 53, 54, 55, 56, 57, 203, 244, 57, 38, 126] : List UInt8))))) : Option (Bool)).bind fun t_3713 =>
  if t_3713 = true then
    some false
  else
    lt1 (([] : List (List UInt8))) fun (l_3718 : List (List UInt8)) =>
    lt1 (([([] : List UInt8)] : List (List UInt8))) fun (l_3720 : List (List UInt8)) =>
    ((frame_Crc ([])).bind fun y_3722 =>
    if (y_3722 != (0 : UInt32)) = true then
      some true
    else
      (frame_Crc l_3707).bind fun y_3723 =>
      some ((y_3723 != (3421780262 : UInt32))) : Option (Bool)).bind fun t_3724 =>
    if t_3724 = true then
      some false
    else
      ((law10_receives (([(126 : UInt8), (126 : UInt8), (0 : UInt8), (0 : UInt8), (0 : UInt8), (0 : UInt8), (126 : UInt8), (126 : UInt8)] : List UInt8)) l_3720 0).bind fun y_3729 =>
      if (!y_3729) = true then
        some true
      else
        (law10_receives (([(0 : UInt8), (0 : UInt8), (0 : UInt8), (0 : UInt8), (126 : UInt8)] : List UInt8)) l_3718 0).bind fun y_3730 =>
        if (!y_3730) = true then
          some true
        else
          (law10_receives (([(126 : UInt8), (125 : UInt8), (32 : UInt8), (0 : UInt8), (0 : UInt8), (0 : UInt8), (126 : UInt8)] : List UInt8)) l_3720 0).bind fun y_3731 =>
          some ((!y_3731)) : Option (Bool)).bind fun t_3732 =>
      if t_3732 = true then
        some false
      else
        ((law10_receives (([(126 : UInt8), (1 : UInt8), (2 : UInt8), (126 : UInt8)] : List UInt8)) l_3718 1).bind fun y_3739 =>
        if y_3739 = true then
          (law10_receives (([(126 : UInt8), (0 : UInt8), (0 : UInt8), (0 : UInt8), (125 : UInt8), (126 : UInt8)] : List UInt8)) l_3718 1).bind fun y_3740 =>
          if y_3740 = true then
            (law10_receives (([(126 : UInt8), (0 : UInt8), (0 : UInt8), (0 : UInt8), (1 : UInt8), (126 : UInt8)] : List UInt8)) l_3718 1).bind fun y_3741 =>
            some y_3741
          else
            some false
        else
          some false : Option (Bool)).bind fun t_3742 =>
        some t_3742

def law10_FrameMatchesReference (b_3749 : List UInt8) : Option (Bool) :=
  law10_sane.bind fun y_3750 =>
  if (!y_3750) = true then
    some false
  else
    (frame_Make b_3749).bind fun y_3752 =>
    (r10_Make b_3749).bind fun y_3754 =>
    ((frame_Crc b_3749).bind fun y_3756 =>
    (r10_Crc b_3749).bind fun y_3757 =>
    if (y_3756 == y_3757) = true then
      if (y_3752.2 == y_3754.2) = true then
        some ((y_3752.1 == y_3754.1))
      else
        some false
    else
      some false : Option (Bool)).bind fun t_3758 =>
    some t_3758

def law10_FrameTransparent_b1 (y_3767 : List UInt8 × Int) (flags_3808 : Int) (i_3809 : Int) : Option ((Int × Int) ⊕ (Int)) :=
  if (decide (i_3809 < (y_3767.1.length : Int))) = true then
    (if InR i_3809 y_3767.1.length then
      if (nth y_3767.1 i_3809.toNat == (126 : UInt8)) = true then
        some ((w64 (flags_3808 + 1)))
      else
        some flags_3808
    else none : Option (Int)).bind fun flags_3823 =>
    some (.inl ((flags_3823, (w64 (i_3809 + 1)))))
  else
    some (.inr flags_3808)
def law10_FrameTransparent (b_3764 : List UInt8) : Option (Bool) :=
  law10_sane.bind fun y_3765 =>
  if (!y_3765) = true then
    some false
  else
    (frame_Make b_3764).bind fun y_3767 =>
    if (y_3767.2 != 0) = true then
      (if (y_3767.2 == 2) = true then
        some ((decide ((b_3764.length : Int) > 8192)))
      else
        some false : Option (Bool)).bind fun t_3769 =>
      some t_3769
    else
      ((loopO (fun (v : Int × Int) => law10_FrameTransparent_b1 y_3767 v.1 v.2) ((0, 0))).bind fun flags_3816 =>
      some flags_3816 : Option (Int)).bind fun flags_3798 =>
      (if (decide ((y_3767.1.length : Int) ≥ (w64 ((b_3764.length : Int) + 6)))) = true then
        if (decide ((y_3767.1.length : Int) ≤ (w64 ((w64 (2 * (b_3764.length : Int))) + 10)))) = true then
          if (flags_3798 == 2) = true then
            if InR 0 y_3767.1.length then
              if (nth y_3767.1 0 == (126 : UInt8)) = true then
                if InR ((w64 ((y_3767.1.length : Int) - 1))) y_3767.1.length then
                  some ((nth y_3767.1 (((w64 ((y_3767.1.length : Int) - 1))).toNat) == (126 : UInt8)))
                else none
              else
                some false
            else none
          else
            some false
        else
          some false
      else
        some false : Option (Bool)).bind fun t_3828 =>
      some t_3828

def law10_FrameRoundTrip_b1 (l_3836 : List (List UInt8)) (i_4103 : Int) (l_4104 : List UInt8) (l_4105 : List UInt8) (l_4106 : List (List UInt8)) : Option ((Int × List UInt8 × List UInt8 × List (List UInt8)) ⊕ ((List UInt8 × List UInt8 × List (List UInt8)) ⊕ ((List UInt8 × List UInt8 × List (List UInt8)) ⊕ (Bool)))) :=
  if (decide (i_4103 < (l_3836.length : Int))) = true then
    (if InR i_4103 l_3836.length then
      (frame_Make (nth l_3836 i_4103.toNat)).bind fun y_4208 =>
      if InR i_4103 l_3836.length then
        if (decide (((nth l_3836 i_4103.toNat).length : Int) > 8192)) = true then
          (if (y_4208.2 != 2) = true then
            some true
          else
            some ((decide ((y_4208.1.length : Int) > 0))) : Option (Bool)).bind fun t_4212 =>
          if t_4212 = true then
            (((some false).bind fun z_4215 => some (.inr z_4215)).bind fun z_4216 => some (.inr (.inr z_4216))).bind fun z_4217 => some (.inr z_4217)
          else
            some (.inl ((l_4104, l_4105, l_4106)))
        else
          (if (y_4208.2 != 0) = true then
            some true
          else
            some ((decide ((y_4208.1.length : Int) < 2))) : Option (Bool)).bind fun t_4218 =>
          if t_4218 = true then
            (((some false).bind fun z_4221 => some (.inr z_4221)).bind fun z_4222 => some (.inr (.inr z_4222))).bind fun z_4223 => some (.inr z_4223)
          else
            if Fits (l_4104.length + y_4208.1.length) 1 then
              lt1 ((l_4104 ++ y_4208.1)) fun (l_4225 : List UInt8) =>
              if InB 1 y_4208.1.length then
                if Fits (l_4105.length + (((y_4208.1.drop 1).take (y_4208.1.length - 1))).length) 1 then
                  lt1 ((l_4105 ++ (((y_4208.1.drop 1).take (y_4208.1.length - 1))))) fun (l_4229 : List UInt8) =>
                  if InR i_4103 l_3836.length then
                    if Fits (l_4106.length + 1) 24 then
                      lt1 ((l_4106 ++ (([nth l_3836 i_4103.toNat] : List (List UInt8))))) fun (l_4233 : List (List UInt8)) =>
                      some (.inl ((l_4225, l_4229, l_4233)))
                    else none
                  else none
                else none
              else none
            else none
      else none
    else none : Option ((List UInt8 × List UInt8 × List (List UInt8)) ⊕ ((Int × List UInt8 × List UInt8 × List (List UInt8)) ⊕ ((List UInt8 × List UInt8 × List (List UInt8)) ⊕ ((List UInt8 × List UInt8 × List (List UInt8)) ⊕ (Bool)))))).bind fun x => match x with
    | .inl (l_4202, l_4203, l_4204) =>
      some (.inl (((w64 (i_4103 + 1)), l_4202, l_4203, l_4204)))
    | .inr z => some z
  else
    some (.inr (.inl ((l_4104, l_4105, l_4106))))
def law10_FrameRoundTrip (l_3836 : List (List UInt8)) : Option (Bool) :=
  law10_sane.bind fun y_3837 =>
  if (!y_3837) = true then
    some false
  else
    lt1 (([] : List UInt8)) fun (l_3839 : List UInt8) =>
    lt1 (([(126 : UInt8)] : List UInt8)) fun (l_3841 : List UInt8) =>
    lt1 (([] : List (List UInt8))) fun (l_3843 : List (List UInt8)) =>
    ((loopO (fun (v : Int × List UInt8 × List UInt8 × List (List UInt8)) => law10_FrameRoundTrip_b1 l_3836 v.1 v.2.1 v.2.2.1 v.2.2.2) ((0, l_3839, l_3841, l_3843))).bind fun x => match x with
    | .inl (l_4167, l_4168, l_4169) =>
      some (.inl ((l_4167, l_4168, l_4169)))
    | .inr z => some z : Option ((List UInt8 × List UInt8 × List (List UInt8)) ⊕ (Bool))).bind fun x => match x with
    | .inl (l_4037, l_4038, l_4039) =>
      if ((l_4039.length : Int) == 0) = true then
        some true
      else
        ((law10_receives l_4037 l_4039 0).bind fun y_4235 =>
        if y_4235 = true then
          (law10_receives l_4038 l_4039 0).bind fun y_4236 =>
          some y_4236
        else
          some false : Option (Bool)).bind fun t_4237 =>
        some t_4237
    | .inr z => some z

def law10_FrameDivision (d_4242 : Api_Deframer) (a_4243 : List UInt8) (b_4244 : List UInt8) : Option (Bool) :=
  law10_sane.bind fun y_4245 =>
  if (!y_4245) = true then
    some false
  else
    (r10_Joined a_4243 b_4244).bind fun y_4247 =>
    (frame_Feed d_4242 y_4247).bind fun y_4248 =>
    (frame_Feed d_4242 a_4243).bind fun y_4251 =>
    (frame_Feed y_4251.1 b_4244).bind fun y_4253 =>
    lt1 (([] : List (List UInt8))) fun (l_4255 : List (List UInt8)) =>
    if Fits (l_4255.length + y_4251.2.1.length) 24 then
      lt1 ((l_4255 ++ y_4251.2.1)) fun (l_4258 : List (List UInt8)) =>
      if Fits (l_4258.length + y_4253.2.1.length) 24 then
        lt1 ((l_4258 ++ y_4253.2.1)) fun (l_4261 : List (List UInt8)) =>
        ((r10_SameState y_4248.1 y_4253.1).bind fun y_4263 =>
        if y_4263 = true then
          (r10_Same y_4248.2.1 l_4261).bind fun y_4264 =>
          if y_4264 = true then
            some ((y_4248.2.2 == (w64 (y_4251.2.2 + y_4253.2.2))))
          else
            some false
        else
          some false : Option (Bool)).bind fun t_4265 =>
        some t_4265
      else none
    else none

def law10_FrameResynchronizes (d_4271 : Api_Deframer) (before_4272 : List UInt8) (b_4273 : List UInt8) : Option (Bool) :=
  law10_sane.bind fun y_4274 =>
  if (!y_4274) = true then
    some false
  else
    (frame_Make b_4273).bind fun y_4276 =>
    if (y_4276.2 != 0) = true then
      (if (y_4276.2 == 2) = true then
        some ((decide ((b_4273.length : Int) > 8192)))
      else
        some false : Option (Bool)).bind fun t_4278 =>
      some t_4278
    else
      (r10_Joined before_4272 y_4276.1).bind fun y_4281 =>
      (frame_Feed d_4271 y_4281).bind fun y_4282 =>
      (r10_Joined before_4272 (([(126 : UInt8)] : List UInt8))).bind fun y_4285 =>
      (frame_Feed d_4271 y_4285).bind fun y_4286 =>
      (if ((y_4282.2.1.length : Int) != (w64 ((y_4286.2.1.length : Int) + 1))) = true then
        some true
      else
        if (y_4282.2.2 != y_4286.2.2) = true then
          some true
        else
          if InB ((y_4286.2.1.length : Int)) y_4282.2.1.length then
            (r10_Same ((y_4282.2.1.take (((y_4286.2.1.length : Int)).toNat))) y_4286.2.1).bind fun y_4289 =>
            some ((!y_4289))
          else none : Option (Bool)).bind fun t_4290 =>
      if t_4290 = true then
        some false
      else
        ((r10_SameState y_4282.1 (({ Rest := [], In := true, Escape := false, Bad := false } : Api_Deframer))).bind fun y_4296 =>
        if y_4296 = true then
          if InR ((y_4286.2.1.length : Int)) y_4282.2.1.length then
            some (((nth y_4282.2.1 (((y_4286.2.1.length : Int)).toNat)) == b_4273))
          else none
        else
          some false : Option (Bool)).bind fun t_4297 =>
        some t_4297

end Go.Proofs.Ytneejmndnihaoaa
