/-
  What the functions compute, as plain programs.
-/
import Derived.Test.YtgdiabbgiiemcaaDoorDT
namespace Go.Proofs.YtgdiabbgiiemcaaDoor
open Go.Rv
set_option linter.unusedVariables false
set_option linter.unusedSimpArgs false
set_option maxRecDepth 20000

def bits_RotateLeft32 (x_1 : UInt32) (k_2 : Int) : Option (UInt32) :=
  lt1 (((UInt64.ofInt k_2) &&& (31 : UInt64))) fun (s_3 : UInt64) =>
  lt1 (((shl32 x_1 s_3.toNat) ||| (shr32 x_1 (((32 : UInt64) - s_3)).toNat))) fun (t_5 : UInt32) =>
  some t_5

def codec_appendInt_1_b1 (u_28 : UInt64) (k_29 : Int) : Option ((UInt64 × Int) ⊕ (Int)) :=
  if (decide (u_28 > (0 : UInt64))) = true then
    lt1 ((shr64 u_28 ((8 : UInt64)).toNat)) fun (u_38 : UInt64) =>
    some (.inl ((u_38, (w64 (k_29 + 1)))))
  else
    some (.inr k_29)
def codec_appendInt_1 (u_7 : UInt64) : Option (Int) :=
  ((loopO (fun (v : UInt64 × Int) => codec_appendInt_1_b1 v.1 v.2) ((u_7, 0))).bind fun k_32 =>
  some k_32 : Option (Int)).bind fun k_22 =>
  some k_22

def r02_rotr (x_40 : UInt32) (n_41 : Int) : Option (UInt32) :=
  if NotNeg n_41 then
    if NotNeg ((w64 (32 - n_41))) then
      lt1 (((shr32 x_40 n_41.toNat) ||| (shl32 x_40 (((w64 (32 - n_41))).toNat)))) fun (t_44 : UInt32) =>
      some t_44
    else none
  else none

def codec_appendInt_b1 (n_47 : Int) (k_120 : Int) (t_160 : Int) (l_161 : List UInt8) : Option ((Int × List UInt8) ⊕ (List UInt8)) :=
  if (decide (t_160 < k_120)) = true then
    if NotNeg ((w64 (8 * (w64 ((w64 (k_120 - 1)) - t_160))))) then
      if Fits (l_161.length + 1) 1 then
        lt1 ((l_161 ++ (([((shr64 ((UInt64.ofInt n_47)) (((w64 (8 * (w64 ((w64 (k_120 - 1)) - t_160))))).toNat))).toUInt8] : List UInt8)))) fun (l_174 : List UInt8) =>
        some (.inl (((w64 (t_160 + 1)), l_174)))
      else none
    else none
  else
    some (.inr l_161)
def codec_appendInt (b_46 : List UInt8) (n_47 : Int) : Option (List UInt8) :=
  (codec_appendInt_1 ((UInt64.ofInt n_47))).bind fun y_112 =>
  lt1 ((UInt8.ofInt ((w64 (32 + y_112))))) fun (tag_114 : UInt8) =>
  (if (decide (n_47 < 0)) = true then
    (codec_appendInt_1 ((~~~(UInt64.ofInt n_47)))).bind fun y_125 =>
    lt1 ((UInt8.ofInt ((w64 (31 - y_125))))) fun (tag_127 : UInt8) =>
    some ((y_125, tag_127))
  else
    some ((y_112, tag_114)) : Option (Int × UInt8)).bind fun (k_120, tag_121) =>
  if Fits (b_46.length + 1) 1 then
    lt1 ((b_46 ++ (([tag_121] : List UInt8)))) fun (l_130 : List UInt8) =>
    ((loopO (fun (v : Int × List UInt8) => codec_appendInt_b1 n_47 k_120 v.1 v.2) ((0, l_130))).bind fun l_166 =>
    some l_166 : Option (List UInt8)).bind fun l_152 =>
    some l_152
  else none

def codec_shape_b1 (v_176 : Api_Value) : Option ((Unit) ⊕ (Unit)) :=
  if (decide (0 < (v_176.L.length : Int))) = true then
    none
  else
    some (.inr (()))
def codec_shape (v_176 : Api_Value) : Option (Int × Bool) :=
  (if (v_176.Kind == 1) = true then
    (if ((v_176.B.length : Int) == 0) = true then
      some (((v_176.L.length : Int) == 0))
    else
      some false : Option (Bool)).bind fun ok_206 =>
    (some ((0, ok_206))).bind fun z_209 => some (.inr z_209)
  else
    if (v_176.Kind == 2) = true then
      (if (v_176.N == 0) = true then
        some (((v_176.L.length : Int) == 0))
      else
        some false : Option (Bool)).bind fun ok_210 =>
      (some ((0, ok_210))).bind fun z_213 => some (.inr z_213)
    else
      if (v_176.Kind == 3) = true then
        (if (v_176.N != 0) = true then
          some true
        else
          some (((v_176.B.length : Int) != 0)) : Option (Bool)).bind fun t_214 =>
        if t_214 = true then
          (some ((0, false))).bind fun z_217 => some (.inr z_217)
        else
          ((loopO (fun (_ : Unit) => codec_shape_b1 v_176 ) (())).bind fun () =>
          some (()) : Option (Unit)).bind fun () =>
          (some (((w64 (0 + 1)), true))).bind fun z_231 => some (.inr z_231)
      else
        some (.inl (())) : Option ((Unit) ⊕ (Int × Bool))).bind fun x => match x with
  | .inl () =>
    some ((0, false))
  | .inr z => some z

def codec_appendValue_b1 (v_233 : Api_Value) (t_763 : Int) (l_764 : List UInt8) : Option ((Int × List UInt8) ⊕ (List UInt8)) :=
  if (decide (t_763 < (v_233.B.length : Int))) = true then
    (if InR t_763 v_233.B.length then
      if Fits (l_764.length + 1) 1 then
        lt1 ((l_764 ++ (([nth v_233.B t_763.toNat] : List UInt8)))) fun (l_802 : List UInt8) =>
        if (nth v_233.B t_763.toNat == (0 : UInt8)) = true then
          if Fits (l_802.length + 1) 1 then
            lt1 ((l_802 ++ (([(255 : UInt8)] : List UInt8)))) fun (l_805 : List UInt8) =>
            some l_805
          else none
        else
          some l_802
      else none
    else none : Option (List UInt8)).bind fun l_796 =>
    some (.inl (((w64 (t_763 + 1)), l_796)))
  else
    some (.inr l_764)
def codec_appendValue_b2 (v_233 : Api_Value) : Option ((Unit) ⊕ (Unit)) :=
  if (decide (0 < (v_233.L.length : Int))) = true then
    none
  else
    some (.inr (()))
def codec_appendValue (b_232 : List UInt8) (v_233 : Api_Value) : Option (List UInt8) :=
  (if (v_233.Kind == 1) = true then
    (codec_appendInt b_232 v_233.N).bind fun y_673 =>
    (some y_673).bind fun z_675 => some (.inr z_675)
  else
    if (v_233.Kind == 2) = true then
      if Fits (b_232.length + 1) 1 then
        lt1 ((b_232 ++ (([(48 : UInt8)] : List UInt8)))) fun (l_677 : List UInt8) =>
        ((loopO (fun (v : Int × List UInt8) => codec_appendValue_b1 v_233 v.1 v.2) ((0, l_677))).bind fun l_783 =>
        some l_783 : Option (List UInt8)).bind fun l_741 =>
        if Fits (l_741.length + 2) 1 then
          lt1 ((l_741 ++ (([(0 : UInt8), (0 : UInt8)] : List UInt8)))) fun (l_808 : List UInt8) =>
          (some l_808).bind fun z_810 => some (.inr z_810)
        else none
      else none
    else
      some (.inl (())) : Option ((Unit) ⊕ (List UInt8))).bind fun x => match x with
  | .inl () =>
    if Fits (b_232.length + 1) 1 then
      lt1 ((b_232 ++ (([(64 : UInt8)] : List UInt8)))) fun (l_812 : List UInt8) =>
      ((loopO (fun (_ : Unit) => codec_appendValue_b2 v_233 ) (())).bind fun () =>
      some (()) : Option (Unit)).bind fun () =>
      if Fits (l_812.length + 1) 1 then
        lt1 ((l_812 ++ (([(0 : UInt8)] : List UInt8)))) fun (l_828 : List UInt8) =>
        some l_828
      else none
    else none
  | .inr z => some z

def codec_Encode (v_830 : Api_Value) : Option (List UInt8 × Int) :=
  (codec_shape v_830).bind fun y_831 =>
  if (!y_831.2) = true then
    some (([], 10))
  else
    if (decide (y_831.1 > 16)) = true then
      some (([], 2))
    else
      (codec_appendValue ([]) v_830).bind fun y_833 =>
      if (decide ((y_833.length : Int) > 65536)) = true then
        some (([], 2))
      else
        some ((y_833, 0))

def r02_constants  : Option (Arr UInt32 64) :=
  lt1 ((⟨[(1116352408 : UInt32), (1899447441 : UInt32), (3049323471 : UInt32), (3921009573 : UInt32), (961987163 : UInt32), (1508970993 : UInt32), (2453635748 : UInt32), (2870763221 : UInt32), (3624381080 : UInt32), (310598401 : UInt32), (607225278 : UInt32), (1426881987 : UInt32), (1925078388 : UInt32), (2162078206 : UInt32), (2614888103 : UInt32), (3248222580 : UInt32), (3835390401 : UInt32), (4022224774 : UInt32), (264347078 : UInt32), (604807628 : UInt32), (770255983 : UInt32), (1249150122 : UInt32), (1555081692 : UInt32), (1996064986 : UInt32), (2554220882 : UInt32), (2821834349 : UInt32), (2952996808 : UInt32), (3210313671 : UInt32), (3336571891 : UInt32), (3584528711 : UInt32), (113926993 : UInt32), (338241895 : UInt32), (666307205 : UInt32), (773529912 : UInt32), (1294757372 : UInt32), (1396182291 : UInt32), (1695183700 : UInt32), (1986661051 : UInt32), (2177026350 : UInt32), (2456956037 : UInt32), (2730485921 : UInt32), (2820302411 : UInt32), (3259730800 : UInt32), (3345764771 : UInt32), (3516065817 : UInt32), (3600352804 : UInt32), (4094571909 : UInt32), (275423344 : UInt32), (430227734 : UInt32), (506948616 : UInt32), (659060556 : UInt32), (883997877 : UInt32), (958139571 : UInt32), (1322822218 : UInt32), (1537002063 : UInt32), (1747873779 : UInt32), (1955562222 : UInt32), (2024104815 : UInt32), (2227730452 : UInt32), (2361852424 : UInt32), (2428436474 : UInt32), (2756734187 : UInt32), (3204031479 : UInt32), (3329325298 : UInt32)], rfl⟩ : Arr UInt32 64)) fun (f_835 : Arr UInt32 64) =>
  some f_835

def r02_schedule_b1 (b_837 : List UInt8) (i_880 : Int) (f_881 : Arr UInt32 64) : Option ((Int × Arr UInt32 64) ⊕ (Arr UInt32 64)) :=
  if (decide (i_880 < 16)) = true then
    if InR ((w64 (4 * i_880))) b_837.length then
      if InR ((w64 ((w64 (4 * i_880)) + 1))) b_837.length then
        if InR ((w64 ((w64 (4 * i_880)) + 2))) b_837.length then
          if InR ((w64 ((w64 (4 * i_880)) + 3))) b_837.length then
            if InR i_880 64 then
              lt1 ((f_881.set i_880.toNat (((((shl32 ((nth b_837 (((w64 (4 * i_880))).toNat)).toUInt32) ((24 : UInt64)).toNat) ||| (shl32 ((nth b_837 (((w64 ((w64 (4 * i_880)) + 1))).toNat)).toUInt32) ((16 : UInt64)).toNat)) ||| (shl32 ((nth b_837 (((w64 ((w64 (4 * i_880)) + 2))).toNat)).toUInt32) ((8 : UInt64)).toNat)) ||| (nth b_837 (((w64 ((w64 (4 * i_880)) + 3))).toNat)).toUInt32)))) fun (f_900 : Arr UInt32 64) =>
              some (.inl (((w64 (i_880 + 1)), f_900)))
            else none
          else none
        else none
      else none
    else none
  else
    some (.inr f_881)
def r02_schedule_b2 (i_1006 : Int) (f_1007 : Arr UInt32 64) : Option ((Int × Arr UInt32 64) ⊕ (Arr UInt32 64)) :=
  if (decide (i_1006 < 64)) = true then
    if InR ((w64 (i_1006 - 15))) 64 then
      (r02_rotr ((f_1007.get (((w64 (i_1006 - 15))).toNat))) 7).bind fun y_1037 =>
      if InR ((w64 (i_1006 - 15))) 64 then
        (r02_rotr ((f_1007.get (((w64 (i_1006 - 15))).toNat))) 18).bind fun y_1038 =>
        if InR ((w64 (i_1006 - 15))) 64 then
          lt1 (((y_1037 ^^^ y_1038) ^^^ (shr32 ((f_1007.get (((w64 (i_1006 - 15))).toNat))) ((3 : UInt64)).toNat))) fun (s0_1044 : UInt32) =>
          if InR ((w64 (i_1006 - 2))) 64 then
            (r02_rotr ((f_1007.get (((w64 (i_1006 - 2))).toNat))) 17).bind fun y_1046 =>
            if InR ((w64 (i_1006 - 2))) 64 then
              (r02_rotr ((f_1007.get (((w64 (i_1006 - 2))).toNat))) 19).bind fun y_1047 =>
              if InR ((w64 (i_1006 - 2))) 64 then
                lt1 (((y_1046 ^^^ y_1047) ^^^ (shr32 ((f_1007.get (((w64 (i_1006 - 2))).toNat))) ((10 : UInt64)).toNat))) fun (s1_1053 : UInt32) =>
                if InR ((w64 (i_1006 - 16))) 64 then
                  if InR ((w64 (i_1006 - 7))) 64 then
                    if InR i_1006 64 then
                      lt1 ((f_1007.set i_1006.toNat (((((f_1007.get (((w64 (i_1006 - 16))).toNat)) + s0_1044) + (f_1007.get (((w64 (i_1006 - 7))).toNat))) + s1_1053)))) fun (f_1058 : Arr UInt32 64) =>
                      some (.inl (((w64 (i_1006 + 1)), f_1058)))
                    else none
                  else none
                else none
              else none
            else none
          else none
        else none
      else none
    else none
  else
    some (.inr f_1007)
def r02_schedule (b_837 : List UInt8) : Option (Arr UInt32 64) :=
  lt1 ((⟨[(0 : UInt32), (0 : UInt32), (0 : UInt32), (0 : UInt32), (0 : UInt32), (0 : UInt32), (0 : UInt32), (0 : UInt32), (0 : UInt32), (0 : UInt32), (0 : UInt32), (0 : UInt32), (0 : UInt32), (0 : UInt32), (0 : UInt32), (0 : UInt32), (0 : UInt32), (0 : UInt32), (0 : UInt32), (0 : UInt32), (0 : UInt32), (0 : UInt32), (0 : UInt32), (0 : UInt32), (0 : UInt32), (0 : UInt32), (0 : UInt32), (0 : UInt32), (0 : UInt32), (0 : UInt32), (0 : UInt32), (0 : UInt32), (0 : UInt32), (0 : UInt32), (0 : UInt32), (0 : UInt32), (0 : UInt32), (0 : UInt32), (0 : UInt32), (0 : UInt32), (0 : UInt32), (0 : UInt32), (0 : UInt32), (0 : UInt32), (0 : UInt32), (0 : UInt32), (0 : UInt32), (0 : UInt32), (0 : UInt32), (0 : UInt32), (0 : UInt32), (0 : UInt32), (0 : UInt32), (0 : UInt32), (0 : UInt32), (0 : UInt32), (0 : UInt32), (0 : UInt32), (0 : UInt32), (0 : UInt32), (0 : UInt32), (0 : UInt32), (0 : UInt32), (0 : UInt32)], rfl⟩ : Arr UInt32 64)) fun (f_838 : Arr UInt32 64) =>
  ((loopO (fun (v : Int × Arr UInt32 64) => r02_schedule_b1 b_837 v.1 v.2) ((0, f_838))).bind fun f_889 =>
  some f_889 : Option (Arr UInt32 64)).bind fun f_869 =>
  ((loopO (fun (v : Int × Arr UInt32 64) => r02_schedule_b2 v.1 v.2) ((16, f_869))).bind fun f_1031 =>
  some f_1031 : Option (Arr UInt32 64)).bind fun f_979 =>
  some f_979

def r02_block_b1 (y_1062 : Arr UInt32 64) (y_1064 : Arr UInt32 64) (i_1278 : Int) (f_1279 : Arr UInt32 8) : Option ((Int × Arr UInt32 8) ⊕ (Arr UInt32 8)) :=
  if (decide (i_1278 < 64)) = true then
    (r02_rotr ((f_1279.get 4)) 6).bind fun y_1336 =>
    (r02_rotr ((f_1279.get 4)) 11).bind fun y_1337 =>
    (r02_rotr ((f_1279.get 4)) 25).bind fun y_1338 =>
    lt1 (((y_1336 ^^^ y_1337) ^^^ y_1338)) fun (s1_1345 : UInt32) =>
    lt1 ((((f_1279.get 4) &&& (f_1279.get 5)) ^^^ ((~~~(f_1279.get 4)) &&& (f_1279.get 6)))) fun (choice_1351 : UInt32) =>
    if InR i_1278 64 then
      if InR i_1278 64 then
        lt1 ((((((f_1279.get 7) + s1_1345) + choice_1351) + (y_1064.get i_1278.toNat)) + (y_1062.get i_1278.toNat))) fun (t1_1356 : UInt32) =>
        (r02_rotr ((f_1279.get 0)) 2).bind fun y_1358 =>
        (r02_rotr ((f_1279.get 0)) 13).bind fun y_1359 =>
        (r02_rotr ((f_1279.get 0)) 22).bind fun y_1360 =>
        lt1 (((y_1358 ^^^ y_1359) ^^^ y_1360)) fun (s0_1367 : UInt32) =>
        lt1 (((((f_1279.get 0) &&& (f_1279.get 1)) ^^^ ((f_1279.get 0) &&& (f_1279.get 2))) ^^^ ((f_1279.get 1) &&& (f_1279.get 2)))) fun (majority_1375 : UInt32) =>
        lt1 ((⟨[(t1_1356 + (s0_1367 + majority_1375)), (f_1279.get 0), (f_1279.get 1), (f_1279.get 2), ((f_1279.get 3) + t1_1356), (f_1279.get 4), (f_1279.get 5), (f_1279.get 6)], rfl⟩ : Arr UInt32 8)) fun (f_1384 : Arr UInt32 8) =>
        some (.inl (((w64 (i_1278 + 1)), f_1384)))
      else none
    else none
  else
    some (.inr f_1279)
def r02_block_b2 (f_1224 : Arr UInt32 8) (i_1418 : Int) (f_1419 : Arr UInt32 8) : Option ((Int × Arr UInt32 8) ⊕ (Arr UInt32 8)) :=
  if (decide (i_1418 < 8)) = true then
    if InR i_1418 8 then
      if InR i_1418 8 then
        if InR i_1418 8 then
          lt1 ((f_1419.set i_1418.toNat (((f_1419.get i_1418.toNat) + (f_1224.get i_1418.toNat))))) fun (f_1434 : Arr UInt32 8) =>
          some (.inl (((w64 (i_1418 + 1)), f_1434)))
        else none
      else none
    else none
  else
    some (.inr f_1419)
def r02_block (h_1060 : Arr UInt32 8) (b_1061 : List UInt8) : Option (Arr UInt32 8) :=
  (r02_schedule b_1061).bind fun y_1062 =>
  r02_constants.bind fun y_1064 =>
  ((loopO (fun (v : Int × Arr UInt32 8) => r02_block_b1 y_1062 y_1064 v.1 v.2) ((0, h_1060))).bind fun f_1330 =>
  some f_1330 : Option (Arr UInt32 8)).bind fun f_1224 =>
  ((loopO (fun (v : Int × Arr UInt32 8) => r02_block_b2 f_1224 v.1 v.2) ((0, h_1060))).bind fun f_1425 =>
  some f_1425 : Option (Arr UInt32 8)).bind fun f_1409 =>
  some f_1409

def digest_block_b1 (b_1437 : List UInt8) (t_1478 : Int) (f_1479 : Arr UInt32 64) : Option ((Int × Arr UInt32 64) ⊕ (Arr UInt32 64)) :=
  if (decide (t_1478 < 16)) = true then
    if InR ((w64 (4 * t_1478))) b_1437.length then
      if InR ((w64 ((w64 (4 * t_1478)) + 1))) b_1437.length then
        if InR ((w64 ((w64 (4 * t_1478)) + 2))) b_1437.length then
          if InR ((w64 ((w64 (4 * t_1478)) + 3))) b_1437.length then
            if InR t_1478 64 then
              lt1 ((f_1479.set t_1478.toNat (((((shl32 ((nth b_1437 (((w64 (4 * t_1478))).toNat)).toUInt32) ((24 : UInt64)).toNat) ||| (shl32 ((nth b_1437 (((w64 ((w64 (4 * t_1478)) + 1))).toNat)).toUInt32) ((16 : UInt64)).toNat)) ||| (shl32 ((nth b_1437 (((w64 ((w64 (4 * t_1478)) + 2))).toNat)).toUInt32) ((8 : UInt64)).toNat)) ||| (nth b_1437 (((w64 ((w64 (4 * t_1478)) + 3))).toNat)).toUInt32)))) fun (f_1498 : Arr UInt32 64) =>
              some (.inl (((w64 (t_1478 + 1)), f_1498)))
            else none
          else none
        else none
      else none
    else none
  else
    some (.inr f_1479)
def digest_block_b2 (i_1604 : Int) (f_1605 : Arr UInt32 64) : Option ((Int × Arr UInt32 64) ⊕ (Arr UInt32 64)) :=
  if (decide (i_1604 < 64)) = true then
    if InR ((w64 (i_1604 - 15))) 64 then
      if InR ((w64 (i_1604 - 2))) 64 then
        lt1 ((f_1605.get (((w64 (i_1604 - 15))).toNat))) fun (x_1637 : UInt32) =>
        lt1 ((f_1605.get (((w64 (i_1604 - 2))).toNat))) fun (y_1638 : UInt32) =>
        (bits_RotateLeft32 x_1637 ((-7))).bind fun y_1641 =>
        (bits_RotateLeft32 x_1637 ((-18))).bind fun y_1642 =>
        lt1 (((y_1641 ^^^ y_1642) ^^^ (shr32 x_1637 ((3 : UInt64)).toNat))) fun (s0_1645 : UInt32) =>
        (bits_RotateLeft32 y_1638 ((-17))).bind fun y_1647 =>
        (bits_RotateLeft32 y_1638 ((-19))).bind fun y_1648 =>
        lt1 (((y_1647 ^^^ y_1648) ^^^ (shr32 y_1638 ((10 : UInt64)).toNat))) fun (s1_1651 : UInt32) =>
        if InR ((w64 (i_1604 - 16))) 64 then
          if InR ((w64 (i_1604 - 7))) 64 then
            if InR i_1604 64 then
              lt1 ((f_1605.set i_1604.toNat (((((f_1605.get (((w64 (i_1604 - 16))).toNat)) + s0_1645) + (f_1605.get (((w64 (i_1604 - 7))).toNat))) + s1_1651)))) fun (f_1656 : Arr UInt32 64) =>
              some (.inl (((w64 (i_1604 + 1)), f_1656)))
            else none
          else none
        else none
      else none
    else none
  else
    some (.inr f_1605)
def digest_block_b3 (f_1577 : Arr UInt32 64) (t_1806 : Int) (f_1807 : Arr UInt32 8) : Option ((Int × Arr UInt32 8) ⊕ (Arr UInt32 8)) :=
  if (decide (t_1806 < 64)) = true then
    (bits_RotateLeft32 ((f_1807.get 4)) ((-6))).bind fun y_1850 =>
    (bits_RotateLeft32 ((f_1807.get 4)) ((-11))).bind fun y_1851 =>
    (bits_RotateLeft32 ((f_1807.get 4)) ((-25))).bind fun y_1852 =>
    if InR t_1806 64 then
      if InR t_1806 64 then
        lt1 ((((((f_1807.get 7) + ((y_1850 ^^^ y_1851) ^^^ y_1852)) + (((f_1807.get 4) &&& (f_1807.get 5)) ^^^ ((~~~(f_1807.get 4)) &&& (f_1807.get 6)))) + (glob0.get t_1806.toNat)) + (f_1577.get t_1806.toNat))) fun (t_1861 : UInt32) =>
        (bits_RotateLeft32 ((f_1807.get 0)) ((-2))).bind fun y_1863 =>
        (bits_RotateLeft32 ((f_1807.get 0)) ((-13))).bind fun y_1864 =>
        (bits_RotateLeft32 ((f_1807.get 0)) ((-22))).bind fun y_1865 =>
        lt1 ((((y_1863 ^^^ y_1864) ^^^ y_1865) + ((((f_1807.get 0) &&& (f_1807.get 1)) ^^^ ((f_1807.get 0) &&& (f_1807.get 2))) ^^^ ((f_1807.get 1) &&& (f_1807.get 2))))) fun (u_1873 : UInt32) =>
        lt1 ((⟨[(t_1861 + u_1873), (f_1807.get 0), (f_1807.get 1), (f_1807.get 2), ((f_1807.get 3) + t_1861), (f_1807.get 4), (f_1807.get 5), (f_1807.get 6)], rfl⟩ : Arr UInt32 8)) fun (f_1880 : Arr UInt32 8) =>
        some (.inl (((w64 (t_1806 + 1)), f_1880)))
      else none
    else none
  else
    some (.inr f_1807)
def digest_block_b4 (f_1768 : Arr UInt32 8) (t_1914 : Int) (f_1915 : Arr UInt32 8) : Option ((Int × Arr UInt32 8) ⊕ (Arr UInt32 8)) :=
  if (decide (t_1914 < 8)) = true then
    if InR t_1914 8 then
      if InR t_1914 8 then
        if InR t_1914 8 then
          lt1 ((f_1915.set t_1914.toNat (((f_1915.get t_1914.toNat) + (f_1768.get t_1914.toNat))))) fun (f_1930 : Arr UInt32 8) =>
          some (.inl (((w64 (t_1914 + 1)), f_1930)))
        else none
      else none
    else none
  else
    some (.inr f_1915)
def digest_block (h_1436 : Arr UInt32 8) (b_1437 : List UInt8) : Option (Arr UInt32 8) :=
  ((loopO (fun (v : Int × Arr UInt32 64) => digest_block_b1 b_1437 v.1 v.2) ((0, (Arr.rep 64 (0 : UInt32))))).bind fun f_1487 =>
  some f_1487 : Option (Arr UInt32 64)).bind fun f_1467 =>
  ((loopO (fun (v : Int × Arr UInt32 64) => digest_block_b2 v.1 v.2) ((16, f_1467))).bind fun f_1629 =>
  some f_1629 : Option (Arr UInt32 64)).bind fun f_1577 =>
  ((loopO (fun (v : Int × Arr UInt32 8) => digest_block_b3 f_1577 v.1 v.2) ((0, h_1436))).bind fun f_1842 =>
  some f_1842 : Option (Arr UInt32 8)).bind fun f_1768 =>
  ((loopO (fun (v : Int × Arr UInt32 8) => digest_block_b4 f_1768 v.1 v.2) ((0, h_1436))).bind fun f_1921 =>
  some f_1921 : Option (Arr UInt32 8)).bind fun f_1905 =>
  some f_1905

def r02_padded_b1 (l_1968 : List UInt8) : Option ((List UInt8) ⊕ (List UInt8)) :=
  if ((((l_1968.length : Int) : Int).tmod 64) != 56) = true then
    if Fits (l_1968.length + 1) 1 then
      lt1 ((l_1968 ++ (([(0 : UInt8)] : List UInt8)))) fun (l_1981 : List UInt8) =>
      some (.inl l_1981)
    else none
  else
    some (.inr l_1968)
def r02_padded_b2 (n_1983 : UInt64) (i_2013 : Int) (l_2014 : List UInt8) : Option ((Int × List UInt8) ⊕ (List UInt8)) :=
  if (decide (i_2013 < 8)) = true then
    if NotNeg ((w64 (56 - (w64 (8 * i_2013))))) then
      if Fits (l_2014.length + 1) 1 then
        lt1 ((l_2014 ++ (([((shr64 n_1983 (((w64 (56 - (w64 (8 * i_2013))))).toNat))).toUInt8] : List UInt8)))) fun (l_2027 : List UInt8) =>
        some (.inl (((w64 (i_2013 + 1)), l_2027)))
      else none
    else none
  else
    some (.inr l_2014)
def r02_padded (b_1932 : List UInt8) : Option (List UInt8) :=
  lt1 (([] : List UInt8)) fun (l_1933 : List UInt8) =>
  if Fits (l_1933.length + b_1932.length) 1 then
    lt1 ((l_1933 ++ b_1932)) fun (l_1936 : List UInt8) =>
    if Fits (l_1936.length + 1) 1 then
      lt1 ((l_1936 ++ (([(128 : UInt8)] : List UInt8)))) fun (l_1939 : List UInt8) =>
      ((loopO (fun (v : List UInt8) => r02_padded_b1 v) l_1939).bind fun l_1973 =>
      some l_1973 : Option (List UInt8)).bind fun l_1960 =>
      lt1 (((UInt64.ofInt ((b_1932.length : Int))) * (8 : UInt64))) fun (n_1983 : UInt64) =>
      ((loopO (fun (v : Int × List UInt8) => r02_padded_b2 n_1983 v.1 v.2) ((0, l_1960))).bind fun l_2019 =>
      some l_2019 : Option (List UInt8)).bind fun l_2005 =>
      some l_2005
    else none
  else none

def digest_sum_b1 (parts_2029 : List (List UInt8)) (t_2062 : Int) (l_2063 : List UInt8) : Option ((Int × List UInt8) ⊕ (List UInt8)) :=
  if (decide (t_2062 < (parts_2029.length : Int))) = true then
    if InR t_2062 parts_2029.length then
      lt1 (nth parts_2029 t_2062.toNat) fun (p_2077 : List UInt8) =>
      if Fits (l_2063.length + p_2077.length) 1 then
        lt1 ((l_2063 ++ p_2077)) fun (l_2080 : List UInt8) =>
        some (.inl (((w64 (t_2062 + 1)), l_2080)))
      else none
    else none
  else
    some (.inr l_2063)
def digest_sum_b2 (l_2114 : List UInt8) : Option ((List UInt8) ⊕ (List UInt8)) :=
  if ((((l_2114.length : Int) : Int).tmod 64) != 56) = true then
    if Fits (l_2114.length + 1) 1 then
      lt1 ((l_2114 ++ (([(0 : UInt8)] : List UInt8)))) fun (l_2127 : List UInt8) =>
      some (.inl l_2127)
    else none
  else
    some (.inr l_2114)
def digest_sum_b3 (n_2082 : UInt64) (i_2157 : Int) (l_2158 : List UInt8) : Option ((Int × List UInt8) ⊕ (List UInt8)) :=
  if (decide (i_2157 ≥ 0)) = true then
    if NotNeg i_2157 then
      if Fits (l_2158.length + 1) 1 then
        lt1 ((l_2158 ++ (([((shr64 n_2082 i_2157.toNat)).toUInt8] : List UInt8)))) fun (l_2171 : List UInt8) =>
        some (.inl (((w64 (i_2157 - 8)), l_2171)))
      else none
    else none
  else
    some (.inr l_2158)
def digest_sum_b4 (l_2149 : List UInt8) (m_2204 : Nat) (m_2205 : Nat) (f_2206 : Arr UInt32 8) : Option ((Nat × Nat × Arr UInt32 8) ⊕ (Arr UInt32 8)) :=
  if (decide ((m_2205 : Int) > 0)) = true then
    if InB 64 m_2205 then
      (digest_block f_2206 (((l_2149.drop m_2204).take 64))).bind fun y_2217 =>
      if InB 64 m_2205 then
        some (.inl (((m_2204 + 64), (m_2205 - 64), y_2217)))
      else none
    else none
  else
    some (.inr f_2206)
def digest_sum_b5 (f_2196 : Arr UInt32 8) (t_2261 : Int) (f_2262 : Arr UInt8 32) : Option ((Int × Arr UInt8 32) ⊕ (Arr UInt8 32)) :=
  if (decide (t_2261 < 32)) = true then
    if InR ((w64 ((t_2261 : Int).tdiv 4))) 8 then
      if NotNeg ((w64 (24 - (w64 (8 * ((t_2261 : Int).tmod 4)))))) then
        if InR t_2261 32 then
          lt1 ((f_2262.set t_2261.toNat (((shr32 ((f_2196.get (((w64 ((t_2261 : Int).tdiv 4))).toNat))) (((w64 (24 - (w64 (8 * ((t_2261 : Int).tmod 4)))))).toNat))).toUInt8))) fun (f_2281 : Arr UInt8 32) =>
          some (.inl (((w64 (t_2261 + 1)), f_2281)))
        else none
      else none
    else none
  else
    some (.inr f_2262)
def digest_sum (parts_2029 : List (List UInt8)) : Option (Arr UInt8 32) :=
  ((loopO (fun (v : Int × List UInt8) => digest_sum_b1 parts_2029 v.1 v.2) ((0, []))).bind fun l_2070 =>
  some l_2070 : Option (List UInt8)).bind fun l_2054 =>
  lt1 (((UInt64.ofInt ((l_2054.length : Int))) * (8 : UInt64))) fun (n_2082 : UInt64) =>
  if Fits (l_2054.length + 1) 1 then
    lt1 ((l_2054 ++ (([(128 : UInt8)] : List UInt8)))) fun (l_2085 : List UInt8) =>
    ((loopO (fun (v : List UInt8) => digest_sum_b2 v) l_2085).bind fun l_2119 =>
    some l_2119 : Option (List UInt8)).bind fun l_2106 =>
    ((loopO (fun (v : Int × List UInt8) => digest_sum_b3 n_2082 v.1 v.2) ((56, l_2106))).bind fun l_2163 =>
    some l_2163 : Option (List UInt8)).bind fun l_2149 =>
    lt1 ((⟨[(1779033703 : UInt32), (3144134277 : UInt32), (1013904242 : UInt32), (2773480762 : UInt32), (1359893119 : UInt32), (2600822924 : UInt32), (528734635 : UInt32), (1541459225 : UInt32)], rfl⟩ : Arr UInt32 8)) fun (f_2173 : Arr UInt32 8) =>
    ((loopO (fun (v : Nat × Nat × Arr UInt32 8) => digest_sum_b4 l_2149 v.1 v.2.1 v.2.2) ((0, l_2149.length, f_2173))).bind fun f_2211 =>
    some f_2211 : Option (Arr UInt32 8)).bind fun f_2196 =>
    ((loopO (fun (v : Int × Arr UInt8 32) => digest_sum_b5 f_2196 v.1 v.2) ((0, (Arr.rep 32 (0 : UInt8))))).bind fun f_2270 =>
    some f_2270 : Option (Arr UInt8 32)).bind fun f_2250 =>
    some f_2250
  else none

def digest_Sum (b_2283 : List UInt8) : Option (Arr UInt8 32) :=
  (digest_sum (([b_2283] : List (List UInt8)))).bind fun y_2284 =>
  some y_2284

def r02_Sum_b1 (y_2289 : List UInt8) (at_2319 : Int) (f_2320 : Arr UInt32 8) : Option ((Int × Arr UInt32 8) ⊕ (Arr UInt32 8)) :=
  if (decide (at_2319 < (y_2289.length : Int))) = true then
    if InB ((w64 (at_2319 + 64))) y_2289.length then
      if InB at_2319 (((w64 (at_2319 + 64))).toNat) then
        (r02_block f_2320 (((y_2289.drop at_2319.toNat).take (((w64 (at_2319 + 64))).toNat - at_2319.toNat)))).bind fun y_2331 =>
        some (.inl (((w64 (at_2319 + 64)), y_2331)))
      else none
    else none
  else
    some (.inr f_2320)
def r02_Sum_b2 (f_2311 : Arr UInt32 8) (i_2377 : Int) (f_2378 : Arr UInt8 32) : Option ((Int × Arr UInt8 32) ⊕ (Arr UInt8 32)) :=
  if (decide (i_2377 < 32)) = true then
    if InR ((w64 ((i_2377 : Int).tdiv 4))) 8 then
      if NotNeg ((w64 (24 - (w64 (8 * ((i_2377 : Int).tmod 4)))))) then
        if InR i_2377 32 then
          lt1 ((f_2378.set i_2377.toNat (((shr32 ((f_2311.get (((w64 ((i_2377 : Int).tdiv 4))).toNat))) (((w64 (24 - (w64 (8 * ((i_2377 : Int).tmod 4)))))).toNat))).toUInt8))) fun (f_2397 : Arr UInt8 32) =>
          some (.inl (((w64 (i_2377 + 1)), f_2397)))
        else none
      else none
    else none
  else
    some (.inr f_2378)
def r02_Sum (b_2286 : List UInt8) : Option (Arr UInt8 32) :=
  lt1 ((⟨[(1779033703 : UInt32), (3144134277 : UInt32), (1013904242 : UInt32), (2773480762 : UInt32), (1359893119 : UInt32), (2600822924 : UInt32), (528734635 : UInt32), (1541459225 : UInt32)], rfl⟩ : Arr UInt32 8)) fun (f_2287 : Arr UInt32 8) =>
  (r02_padded b_2286).bind fun y_2289 =>
  ((loopO (fun (v : Int × Arr UInt32 8) => r02_Sum_b1 y_2289 v.1 v.2) ((0, f_2287))).bind fun f_2325 =>
  some f_2325 : Option (Arr UInt32 8)).bind fun f_2311 =>
  lt1 ((⟨[(0 : UInt8), (0 : UInt8), (0 : UInt8), (0 : UInt8), (0 : UInt8), (0 : UInt8), (0 : UInt8), (0 : UInt8), (0 : UInt8), (0 : UInt8), (0 : UInt8), (0 : UInt8), (0 : UInt8), (0 : UInt8), (0 : UInt8), (0 : UInt8), (0 : UInt8), (0 : UInt8), (0 : UInt8), (0 : UInt8), (0 : UInt8), (0 : UInt8), (0 : UInt8), (0 : UInt8), (0 : UInt8), (0 : UInt8), (0 : UInt8), (0 : UInt8), (0 : UInt8), (0 : UInt8), (0 : UInt8), (0 : UInt8)], rfl⟩ : Arr UInt8 32)) fun (f_2335 : Arr UInt8 32) =>
  ((loopO (fun (v : Int × Arr UInt8 32) => r02_Sum_b2 f_2311 v.1 v.2) ((0, f_2335))).bind fun f_2386 =>
  some f_2386 : Option (Arr UInt8 32)).bind fun f_2366 =>
  some f_2366

def digest_Tagged (tag_2399 : List UInt8) (b_2400 : List UInt8) : Option (Arr UInt8 32) :=
  if InB ((mn64 ((tag_2399.length : Int)) 255)) tag_2399.length then
    lt1 ((tag_2399.take (((mn64 ((tag_2399.length : Int)) 255)).toNat))) fun (tag_2402 : List UInt8) =>
    (digest_sum (([([(UInt8.ofInt ((tag_2402.length : Int)))] : List UInt8), tag_2402, b_2400] : List (List UInt8)))).bind fun y_2404 =>
    some y_2404
  else none

def r02_Hashed (tag_2406 : List UInt8) (b_2407 : List UInt8) : Option (List UInt8) :=
  if InB ((mn64 ((tag_2406.length : Int)) 255)) tag_2406.length then
    lt1 ((tag_2406.take (((mn64 ((tag_2406.length : Int)) 255)).toNat))) fun (t_2409 : List UInt8) =>
    lt1 (([(UInt8.ofInt ((t_2409.length : Int)))] : List UInt8)) fun (l_2411 : List UInt8) =>
    if Fits (l_2411.length + t_2409.length) 1 then
      lt1 ((l_2411 ++ t_2409)) fun (l_2414 : List UInt8) =>
      if Fits (l_2414.length + b_2407.length) 1 then
        lt1 ((l_2414 ++ b_2407)) fun (l_2417 : List UInt8) =>
        some l_2417
      else none
    else none
  else none

def r02_Tagged (tag_2419 : List UInt8) (b_2420 : List UInt8) : Option (Arr UInt8 32) :=
  (r02_Hashed tag_2419 b_2420).bind fun y_2421 =>
  (r02_Sum y_2421).bind fun y_2422 =>
  some y_2422

def digest_Next (d_2425 : Arr UInt8 32) (b_2426 : List UInt8) : Option (Arr UInt8 32) :=
  (digest_sum (([([(4 : UInt8)] : List UInt8), ([(110 : UInt8), (101 : UInt8), (120 : UInt8), (116 : UInt8)] : List UInt8), d_2425.l, b_2426] : List (List UInt8)))).bind fun y_2427 =>
  some y_2427

def r02_Next (d_2429 : Arr UInt8 32) (b_2430 : List UInt8) : Option (Arr UInt8 32) :=
  lt1 (([] : List UInt8)) fun (l_2431 : List UInt8) =>
  if Fits (l_2431.length + d_2429.l.length) 1 then
    lt1 ((l_2431 ++ d_2429.l)) fun (l_2434 : List UInt8) =>
    if Fits (l_2434.length + b_2430.length) 1 then
      lt1 ((l_2434 ++ b_2430)) fun (l_2437 : List UInt8) =>
      (r02_Tagged (([110, 101, 120, 116] : List UInt8)) l_2437).bind fun y_2439 =>
      some y_2439
    else none
  else none

def digest_Number_b1 (d_2441 : Arr UInt8 32) (n_2472 : UInt64) (t_2473 : Int) : Option ((UInt64 × Int) ⊕ (UInt64)) :=
  if (decide (t_2473 < (((d_2441.l.take 8)).length : Int))) = true then
    if InR t_2473 (((d_2441.l.take 8)).length) then
      lt1 (nth ((d_2441.l.take 8)) t_2473.toNat) fun (b_2486 : UInt8) =>
      lt1 (((shl64 n_2472 ((8 : UInt64)).toNat) ||| b_2486.toUInt64)) fun (n_2488 : UInt64) =>
      some (.inl ((n_2488, (w64 (t_2473 + 1)))))
    else none
  else
    some (.inr n_2472)
def digest_Number (d_2441 : Arr UInt8 32) : Option (UInt64) :=
  ((loopO (fun (v : UInt64 × Int) => digest_Number_b1 d_2441 v.1 v.2) (((0 : UInt64), 0))).bind fun n_2479 =>
  some n_2479 : Option (UInt64)).bind fun n_2464 =>
  some n_2464

def r02_Number_b1 (d_2490 : Arr UInt8 32) (n_2515 : UInt64) (i_2516 : Int) : Option ((UInt64 × Int) ⊕ (UInt64)) :=
  if (decide (i_2516 < 8)) = true then
    if InR i_2516 32 then
      lt1 (((shl64 n_2515 ((8 : UInt64)).toNat) ||| ((d_2490.get i_2516.toNat)).toUInt64)) fun (n_2527 : UInt64) =>
      some (.inl ((n_2527, (w64 (i_2516 + 1)))))
    else none
  else
    some (.inr n_2515)
def r02_Number (d_2490 : Arr UInt8 32) : Option (UInt64) :=
  ((loopO (fun (v : UInt64 × Int) => r02_Number_b1 d_2490 v.1 v.2) (((0 : UInt64), 0))).bind fun n_2520 =>
  some n_2520 : Option (UInt64)).bind fun n_2508 =>
  some n_2508

def r02_Same (a_2529 : List UInt8) (b_2530 : List UInt8) : Option (Bool) :=
  some ((a_2529 == b_2530))

def digest_Value (tag_2531 : List UInt8) (v_2532 : Api_Value) : Option (Arr UInt8 32 × Int) :=
  (codec_Encode v_2532).bind fun y_2533 =>
  if (y_2533.2 != 0) = true then
    lt1 ((⟨[(0 : UInt8), (0 : UInt8), (0 : UInt8), (0 : UInt8), (0 : UInt8), (0 : UInt8), (0 : UInt8), (0 : UInt8), (0 : UInt8), (0 : UInt8), (0 : UInt8), (0 : UInt8), (0 : UInt8), (0 : UInt8), (0 : UInt8), (0 : UInt8), (0 : UInt8), (0 : UInt8), (0 : UInt8), (0 : UInt8), (0 : UInt8), (0 : UInt8), (0 : UInt8), (0 : UInt8), (0 : UInt8), (0 : UInt8), (0 : UInt8), (0 : UInt8), (0 : UInt8), (0 : UInt8), (0 : UInt8), (0 : UInt8)], rfl⟩ : Arr UInt8 32)) fun (f_2535 : Arr UInt8 32) =>
    some ((f_2535, y_2533.2))
  else
    (digest_Tagged tag_2531 y_2533.1).bind fun y_2537 =>
    some ((y_2537, 0))

def law02_vector (d_2539 : Arr UInt8 32) (a_2540 : UInt8) (b_2541 : UInt8) (c_2542 : UInt8) (e_2543 : UInt8) (last_2544 : UInt8) : Option (Bool) :=
  (if ((d_2539.get 0) == a_2540) = true then
    if ((d_2539.get 1) == b_2541) = true then
      if ((d_2539.get 2) == c_2542) = true then
        if ((d_2539.get 3) == e_2543) = true then
          some (((d_2539.get 31) == last_2544))
        else
          some false
      else
        some false
    else
      some false
  else
    some false : Option (Bool)).bind fun t_2545 =>
  some t_2545

def law02_sane  : Option (Bool) :=
  lt1 ((⟨[(0 : UInt8), (0 : UInt8), (0 : UInt8), (0 : UInt8), (0 : UInt8), (0 : UInt8), (0 : UInt8), (0 : UInt8), (0 : UInt8), (0 : UInt8), (0 : UInt8), (0 : UInt8), (0 : UInt8), (0 : UInt8), (0 : UInt8), (0 : UInt8), (0 : UInt8), (0 : UInt8), (0 : UInt8), (0 : UInt8), (0 : UInt8), (0 : UInt8), (0 : UInt8), (0 : UInt8), (0 : UInt8), (0 : UInt8), (0 : UInt8), (0 : UInt8), (0 : UInt8), (0 : UInt8), (0 : UInt8), (0 : UInt8)], rfl⟩ : Arr UInt8 32)) fun (f_2556 : Arr UInt8 32) =>
  lt1 ((⟨[(0 : UInt8), (0 : UInt8), (0 : UInt8), (0 : UInt8), (0 : UInt8), (0 : UInt8), (0 : UInt8), (0 : UInt8), (0 : UInt8), (0 : UInt8), (0 : UInt8), (0 : UInt8), (0 : UInt8), (0 : UInt8), (0 : UInt8), (0 : UInt8), (0 : UInt8), (0 : UInt8), (0 : UInt8), (0 : UInt8), (0 : UInt8), (0 : UInt8), (0 : UInt8), (0 : UInt8), (0 : UInt8), (0 : UInt8), (0 : UInt8), (0 : UInt8), (0 : UInt8), (0 : UInt8), (0 : UInt8), (0 : UInt8)], rfl⟩ : Arr UInt8 32)) fun (f_2558 : Arr UInt8 32) =>
  lt1 ((f_2558.set 6 ((1 : UInt8)))) fun (f_2561 : Arr UInt8 32) =>
  lt1 ((f_2561.set 7 ((2 : UInt8)))) fun (f_2564 : Arr UInt8 32) =>
  (digest_Value (([116] : List UInt8)) (({ Kind := 1, N := 0, B := [], L := [] } : Api_Value))).bind fun y_2566 =>
  (codec_Encode (({ Kind := 1, N := 0, B := [], L := [] } : Api_Value))).bind fun y_2568 =>
  (digest_Value (([116] : List UInt8)) (({ Kind := 0, N := 0, B := [], L := [] } : Api_Value))).bind fun y_2570 =>
  ((digest_Sum ([])).bind fun y_2572 =>
  (law02_vector y_2572 ((227 : UInt8)) ((176 : UInt8)) ((196 : UInt8)) ((66 : UInt8)) ((85 : UInt8))).bind fun y_2573 =>
  if y_2573 = true then
    (digest_Sum (([(97 : UInt8), (98 : UInt8), (99 : UInt8)] : List UInt8))).bind fun y_2574 =>
    (law02_vector y_2574 ((186 : UInt8)) ((120 : UInt8)) ((22 : UInt8)) ((191 : UInt8)) ((173 : UInt8))).bind fun y_2575 =>
    some y_2575
  else
    some false : Option (Bool)).bind fun sums_2576 =>
  ((digest_Tagged (([97] : List UInt8)) (([(98 : UInt8), (99 : UInt8)] : List UInt8))).bind fun y_2583 =>
  (digest_Sum (([(1 : UInt8), (97 : UInt8), (98 : UInt8), (99 : UInt8)] : List UInt8))).bind fun y_2584 =>
  if (y_2583 == y_2584) = true then
    (digest_Tagged (([] : List UInt8)) ([])).bind fun y_2585 =>
    (digest_Sum (([(0 : UInt8)] : List UInt8))).bind fun y_2586 =>
    some ((y_2585 == y_2586))
  else
    some false : Option (Bool)).bind fun tags_2587 =>
  ((digest_Next f_2556 ([])).bind fun y_2594 =>
  (digest_Tagged (([110, 101, 120, 116] : List UInt8)) f_2556.l).bind fun y_2595 =>
  if (y_2594 == y_2595) = true then
    (digest_Number f_2564).bind fun y_2596 =>
    some ((y_2596 == (258 : UInt64)))
  else
    some false : Option (Bool)).bind fun links_2597 =>
  (if sums_2576 = true then
    if tags_2587 = true then
      if links_2597 = true then
        if (y_2566.2 == 0) = true then
          if (y_2568.2 == 0) = true then
            (digest_Tagged (([116] : List UInt8)) y_2568.1).bind fun y_2603 =>
            if (y_2566.1 == y_2603) = true then
              some ((y_2570.2 == 10))
            else
              some false
          else
            some false
        else
          some false
      else
        some false
    else
      some false
  else
    some false : Option (Bool)).bind fun t_2604 =>
  some t_2604

def law02_long_b1 (l_2613 : List (List UInt8)) (i_2647 : Int) : Option ((Int) ⊕ ((Unit) ⊕ ((Unit) ⊕ (Bool)))) :=
  (if (decide (i_2647 < (l_2613.length : Int))) = true then
    some ((decide (i_2647 < 9)))
  else
    some false : Option (Bool)).bind fun t_2659 =>
  if t_2659 = true then
    if InR i_2647 l_2613.length then
      if (decide (((nth l_2613 i_2647.toNat).length : Int) > 200)) = true then
        ((some true).bind fun z_2663 => some (.inr z_2663)).bind fun z_2664 => some (.inr (.inr z_2664))
      else
        some (.inl ((w64 (i_2647 + 1))))
    else none
  else
    some (.inr (.inl (())))
def law02_long (l_2613 : List (List UInt8)) : Option (Bool) :=
  ((loopO (fun (v : Int) => law02_long_b1 l_2613 v) 0).bind fun x => match x with
  | .inl () =>
    some (.inl (()))
  | .inr z => some z : Option ((Unit) ⊕ (Bool))).bind fun x => match x with
  | .inl () =>
    some ((decide ((l_2613.length : Int) > 8)))
  | .inr z => some z

def law02_chain_b1 (l_2666 : List (List UInt8)) (i_2718 : Int) (f_2719 : Arr UInt8 32) (l_2720 : List (Arr UInt8 32)) : Option ((Int × Arr UInt8 32 × List (Arr UInt8 32)) ⊕ (List (Arr UInt8 32))) :=
  (if (decide (i_2718 < (l_2666.length : Int))) = true then
    some ((decide (i_2718 < 8)))
  else
    some false : Option (Bool)).bind fun t_2736 =>
  if t_2736 = true then
    if InR i_2718 l_2666.length then
      (digest_Next f_2719 (nth l_2666 i_2718.toNat)).bind fun y_2739 =>
      if Fits (l_2720.length + 1) 32 then
        lt1 ((l_2720 ++ (([y_2739] : List (Arr UInt8 32))))) fun (l_2743 : List (Arr UInt8 32)) =>
        some (.inl (((w64 (i_2718 + 1)), y_2739, l_2743)))
      else none
    else none
  else
    some (.inr l_2720)
def law02_chain (d_2665 : Arr UInt8 32) (l_2666 : List (List UInt8)) : Option (List (Arr UInt8 32)) :=
  lt1 (([d_2665] : List (Arr UInt8 32))) fun (l_2667 : List (Arr UInt8 32)) =>
  ((loopO (fun (v : Int × Arr UInt8 32 × List (Arr UInt8 32)) => law02_chain_b1 l_2666 v.1 v.2.1 v.2.2) ((0, d_2665, l_2667))).bind fun l_2730 =>
  some l_2730 : Option (List (Arr UInt8 32))).bind fun l_2705 =>
  some l_2705

def law02_DigestSumMatchesReference (b_2745 : List UInt8) : Option (Bool) :=
  law02_sane.bind fun y_2746 =>
  if (!y_2746) = true then
    some false
  else
    if (decide ((b_2745.length : Int) > 1000)) = true then
      some true
    else
      (digest_Sum b_2745).bind fun y_2748 =>
      (r02_Sum b_2745).bind fun y_2749 =>
      some ((y_2748 == y_2749))

def law02_DigestMatchesReference (tag_2752 : List UInt8) (b_2753 : List UInt8) (d_2754 : Arr UInt8 32) : Option (Bool) :=
  law02_sane.bind fun y_2755 =>
  if (!y_2755) = true then
    some false
  else
    (if (decide ((tag_2752.length : Int) > 600)) = true then
      some true
    else
      some ((decide ((b_2753.length : Int) > 600))) : Option (Bool)).bind fun t_2757 =>
    if t_2757 = true then
      some true
    else
      ((digest_Tagged tag_2752 b_2753).bind fun y_2760 =>
      (r02_Tagged tag_2752 b_2753).bind fun y_2761 =>
      if (y_2760 == y_2761) = true then
        (digest_Next d_2754 b_2753).bind fun y_2762 =>
        (r02_Next d_2754 b_2753).bind fun y_2763 =>
        if (y_2762 == y_2763) = true then
          (digest_Number d_2754).bind fun y_2764 =>
          (r02_Number d_2754).bind fun y_2765 =>
          some ((y_2764 == y_2765))
        else
          some false
      else
        some false : Option (Bool)).bind fun t_2766 =>
      some t_2766

def law02_DigestTaggedIsSum (tag_2776 : List UInt8) (b_2777 : List UInt8) (d_2778 : Arr UInt8 32) : Option (Bool) :=
  law02_sane.bind fun y_2779 =>
  if (!y_2779) = true then
    some false
  else
    (if (decide ((tag_2776.length : Int) > 600)) = true then
      some true
    else
      some ((decide ((b_2777.length : Int) > 600))) : Option (Bool)).bind fun t_2781 =>
    if t_2781 = true then
      some true
    else
      lt1 (([] : List UInt8)) fun (l_2784 : List UInt8) =>
      if Fits (l_2784.length + d_2778.l.length) 1 then
        lt1 ((l_2784 ++ d_2778.l)) fun (l_2787 : List UInt8) =>
        if Fits (l_2787.length + b_2777.length) 1 then
          lt1 ((l_2787 ++ b_2777)) fun (l_2790 : List UInt8) =>
          ((digest_Tagged tag_2776 b_2777).bind fun y_2792 =>
          (r02_Hashed tag_2776 b_2777).bind fun y_2793 =>
          (digest_Sum y_2793).bind fun y_2794 =>
          if (y_2792 == y_2794) = true then
            (digest_Next d_2778 b_2777).bind fun y_2795 =>
            (digest_Tagged (([110, 101, 120, 116] : List UInt8)) l_2790).bind fun y_2796 =>
            some ((y_2795 == y_2796))
          else
            some false : Option (Bool)).bind fun t_2797 =>
          some t_2797
        else none
      else none

def law02_DigestTagsSeparate (tag_2805 : List UInt8) (b_2806 : List UInt8) (other_2807 : List UInt8) (c_2808 : List UInt8) : Option (Bool) :=
  law02_sane.bind fun y_2809 =>
  if (!y_2809) = true then
    some false
  else
    (if (decide ((tag_2805.length : Int) > 400)) = true then
      some true
    else
      if (decide ((b_2806.length : Int) > 400)) = true then
        some true
      else
        if (decide ((other_2807.length : Int) > 400)) = true then
          some true
        else
          some ((decide ((c_2808.length : Int) > 400))) : Option (Bool)).bind fun t_2811 =>
    if t_2811 = true then
      some true
    else
      (r02_Hashed tag_2805 b_2806).bind fun y_2816 =>
      (r02_Hashed other_2807 c_2808).bind fun y_2818 =>
      (if InB ((mn64 ((tag_2805.length : Int)) 255)) tag_2805.length then
        if InB ((mn64 ((other_2807.length : Int)) 255)) other_2807.length then
          if (((tag_2805.take (((mn64 ((tag_2805.length : Int)) 255)).toNat))) == ((other_2807.take (((mn64 ((other_2807.length : Int)) 255)).toNat)))) = true then
            (r02_Same b_2806 c_2808).bind fun y_2820 =>
            some y_2820
          else
            some false
        else none
      else none : Option (Bool)).bind fun same_2821 =>
      (digest_Tagged tag_2805 b_2806).bind fun y_2827 =>
      (digest_Tagged other_2807 c_2808).bind fun y_2828 =>
      ((r02_Same y_2816 y_2818).bind fun y_2831 =>
      if (!(same_2821 == y_2831)) = true then
        some true
      else
        if same_2821 = true then
          some ((!(y_2827 == y_2828)))
        else
          some false : Option (Bool)).bind fun t_2832 =>
      if t_2832 = true then
        some false
      else
        (digest_Sum y_2816).bind fun y_2838 =>
        (digest_Sum y_2818).bind fun y_2839 =>
        some (((y_2827 == y_2828) == (y_2838 == y_2839)))

def law02_DigestChainBinds_b1 (l_2843 : List (List UInt8)) (m_2844 : List (List UInt8)) (i_2965 : Int) : Option ((Int) ⊕ ((Unit) ⊕ ((Unit) ⊕ ((Unit) ⊕ (Bool))))) :=
  if (decide (i_2965 < (l_2843.length : Int))) = true then
    if InR i_2965 l_2843.length then
      if InR i_2965 m_2844.length then
        (r02_Same (nth l_2843 i_2965.toNat) (nth m_2844 i_2965.toNat)).bind fun y_2978 =>
        if (!y_2978) = true then
          (((some true).bind fun z_2982 => some (.inr z_2982)).bind fun z_2983 => some (.inr z_2983)).bind fun z_2984 => some (.inr (.inr z_2984))
        else
          some (.inl ((w64 (i_2965 + 1))))
      else none
    else none
  else
    some (.inr (.inl (())))
def law02_DigestChainBinds_b2 (l_2843 : List (List UInt8)) (m_2844 : List (List UInt8)) (y_2855 : List (Arr UInt8 32)) (y_2857 : List (Arr UInt8 32)) (i_3139 : Int) : Option ((Int) ⊕ ((Unit) ⊕ ((Unit) ⊕ (Bool)))) :=
  if (decide (i_3139 ≥ 0)) = true then
    ((if InR i_3139 y_2855.length then
      if InR i_3139 y_2857.length then
        if (!(nth y_2855 i_3139.toNat == nth y_2857 i_3139.toNat)) = true then
          some true
        else
          if InR i_3139 l_2843.length then
            if InR i_3139 m_2844.length then
              (r02_Same (nth l_2843 i_3139.toNat) (nth m_2844 i_3139.toNat)).bind fun y_3199 =>
              some ((!y_3199))
            else none
          else none
      else none
    else none : Option (Bool)).bind fun t_3200 =>
    if t_3200 = true then
      if InR ((w64 (i_3139 + 1))) y_2855.length then
        if InR ((w64 (i_3139 + 1))) y_2857.length then
          lt1 ((nth y_2855 (((w64 (i_3139 + 1))).toNat) == nth y_2857 (((w64 (i_3139 + 1))).toNat))) fun (t_3210 : Bool) =>
          if t_3210 = true then
            (((some true).bind fun z_3212 => some (.inr z_3212)).bind fun z_3213 => some (.inr (.inr z_3213))).bind fun z_3214 => some (.inr z_3214)
          else
            some (.inl (()))
        else none
      else none
    else
      some (.inl (())) : Option ((Unit) ⊕ ((Int) ⊕ ((Unit) ⊕ ((Unit) ⊕ (Bool)))))).bind fun x => match x with
    | .inl () =>
      some (.inl ((w64 (i_3139 - 1))))
    | .inr z => some z
  else
    some (.inr (.inl (())))
def law02_DigestChainBinds_b3 (l_2843 : List (List UInt8)) (m_2844 : List (List UInt8)) (i_3248 : Int) : Option ((Int) ⊕ ((Unit) ⊕ ((Unit) ⊕ (Bool)))) :=
  if (decide (i_3248 < (l_2843.length : Int))) = true then
    if InR i_3248 l_2843.length then
      if InR i_3248 m_2844.length then
        (r02_Same (nth l_2843 i_3248.toNat) (nth m_2844 i_3248.toNat)).bind fun y_3260 =>
        if (!y_3260) = true then
          ((some false).bind fun z_3264 => some (.inr z_3264)).bind fun z_3265 => some (.inr (.inr z_3265))
        else
          some (.inl ((w64 (i_3248 + 1))))
      else none
    else none
  else
    some (.inr (.inl (())))
def law02_DigestChainBinds (d_2842 : Arr UInt8 32) (l_2843 : List (List UInt8)) (m_2844 : List (List UInt8)) : Option (Bool) :=
  law02_sane.bind fun y_2845 =>
  if (!y_2845) = true then
    some false
  else
    (if ((l_2843.length : Int) != (m_2844.length : Int)) = true then
      some true
    else
      (law02_long l_2843).bind fun y_2847 =>
      if y_2847 = true then
        some true
      else
        (law02_long m_2844).bind fun y_2848 =>
        some y_2848 : Option (Bool)).bind fun t_2849 =>
    if t_2849 = true then
      some true
    else
      (law02_chain d_2842 l_2843).bind fun y_2855 =>
      (law02_chain d_2842 m_2844).bind fun y_2857 =>
      (if InR ((l_2843.length : Int)) y_2855.length then
        if InR ((l_2843.length : Int)) y_2857.length then
          lt1 ((!(nth y_2855 (((l_2843.length : Int)).toNat) == nth y_2857 (((l_2843.length : Int)).toNat)))) fun (t_2926 : Bool) =>
          if t_2926 = true then
            ((loopO (fun (v : Int) => law02_DigestChainBinds_b1 l_2843 m_2844 v) 0).bind fun x => match x with
            | .inl () =>
              some (.inl (()))
            | .inr z => some z : Option ((Unit) ⊕ ((Unit) ⊕ (Bool)))).bind fun x => match x with
            | .inl () =>
              (some false).bind fun z_2985 => some (.inr z_2985)
            | .inr z => some z
          else
            some (.inl (()))
        else none
      else none : Option ((Unit) ⊕ (Bool))).bind fun x => match x with
      | .inl () =>
        (lt1 ((w64 ((l_2843.length : Int) - 1))) fun (i_3102 : Int) =>
        (loopO (fun (v : Int) => law02_DigestChainBinds_b2 l_2843 m_2844 y_2855 y_2857 v) i_3102).bind fun x => match x with
        | .inl () =>
          some (.inl (()))
        | .inr z => some z : Option ((Unit) ⊕ (Bool))).bind fun x => match x with
        | .inl () =>
          ((loopO (fun (v : Int) => law02_DigestChainBinds_b3 l_2843 m_2844 v) 0).bind fun x => match x with
          | .inl () =>
            some (.inl (()))
          | .inr z => some z : Option ((Unit) ⊕ (Bool))).bind fun x => match x with
          | .inl () =>
            some true
          | .inr z => some z
        | .inr z => some z
      | .inr z => some z

def law02_DigestNumbers_b1 (a_3266 : Arr UInt8 32) (y_3270 : UInt64) (i_3307 : Int) : Option ((Int) ⊕ ((Unit) ⊕ ((Unit) ⊕ (Bool)))) :=
  if (decide (i_3307 < 8)) = true then
    if NotNeg ((w64 (56 - (w64 (8 * i_3307))))) then
      if InR i_3307 32 then
        lt1 ((((shr64 y_3270 (((w64 (56 - (w64 (8 * i_3307))))).toNat))).toUInt8 != (a_3266.get i_3307.toNat))) fun (t_3321 : Bool) =>
        if t_3321 = true then
          ((some false).bind fun z_3323 => some (.inr z_3323)).bind fun z_3324 => some (.inr (.inr z_3324))
        else
          some (.inl ((w64 (i_3307 + 1))))
      else none
    else none
  else
    some (.inr (.inl (())))
def law02_DigestNumbers (a_3266 : Arr UInt8 32) (b_3267 : Arr UInt8 32) : Option (Bool) :=
  law02_sane.bind fun y_3268 =>
  if (!y_3268) = true then
    some false
  else
    (digest_Number a_3266).bind fun y_3270 =>
    (digest_Number b_3267).bind fun y_3272 =>
    ((loopO (fun (v : Int) => law02_DigestNumbers_b1 a_3266 y_3270 v) 0).bind fun x => match x with
    | .inl () =>
      some (.inl (()))
    | .inr z => some z : Option ((Unit) ⊕ (Bool))).bind fun x => match x with
    | .inl () =>
      lt1 (((decide (y_3270 < y_3272)) == (Op.bytesLess ((a_3266.l.take 8)) ((b_3267.l.take 8))))) fun (t_3327 : Bool) =>
      some t_3327
    | .inr z => some z

end Go.Proofs.YtgdiabbgiiemcaaDoor
