/- What the printed functions of the program are, and the plain law; conditions stand in each statement. -/
import Derived.Test.YtolhomapnlcadaaDoorQa
import Derived.Test.YtolhomapnlcadaaDoorQc
import Derived.IntWalk
import Derived.Test.YtolhomapnlcadaaDoorQb
import Derived.KernelRfl
section
namespace Go.PE
abbrev T_8464 : Ty := (.cons .ptr .nil)
abbrev D_8464 : Type := Unit × Unit
abbrev T_a556 : Ty := (.cons .str (.cons (.int .u64) .nil))
abbrev D_a556 : Type := (List Int) × Int × Unit
abbrev T_b101 : Ty := (.cons (.int .i64) (.cons (.slice (.int .u8)) .nil))
abbrev D_b101 : Type := Int × (List Int) × Unit
abbrev T_3393 : Ty := (.cons (.slice (.int .i64)) (.cons (.int .i64) .nil))
abbrev D_3393 : Type := (List Int) × Int × Unit
abbrev T_6649 : Ty := (.cons (.int .i64) (.cons (.arr 32 (.int .u8)) .nil))
abbrev D_6649 : Type := Int × (List Int) × Unit
abbrev T_b85e : Ty := (.cons (.arr 32 (.int .u8)) (.cons (.int .u32) .nil))
abbrev D_b85e : Type := (List Int) × Int × Unit
abbrev T_f0bb : Ty := (.cons .ptr (.cons .ptr (.cons .ptr (.cons .str .nil))))
abbrev D_f0bb : Type := Unit × Unit × Unit × (List Int) × Unit
abbrev T_07e8 : Ty := (.cons (.slice (.int .u8)) (.cons (.int .i64) (.cons (.int .i64) .nil)))
abbrev D_07e8 : Type := (List Int) × Int × Int × Unit
abbrev T_d60b : Ty := (.cons (.slice (.arr 32 (.int .u8))) (.cons (.slice (.arr 32 (.int .u8))) .nil))
abbrev D_d60b : Type := (List (List Int)) × (List (List Int)) × Unit
abbrev T_d9b8 : Ty := (.cons (.int .i64) (.cons (.int .i64) (.cons .bool (.cons (.int .u8) .nil))))
abbrev D_d9b8 : Type := Int × Int × Bool × Int × Unit
abbrev T_089d : Ty := (.cons T_b85e (.cons (.int .u32) (.cons (.slice (.slice (.int .u8))) .nil)))
abbrev D_089d : Type := D_b85e × Int × (List (List Int)) × Unit
abbrev T_2c9a : Ty := (.cons (.int .i64) (.cons (.int .i64) (.cons (.arr 32 (.int .u8)) (.cons (.slice T_6649) .nil))))
abbrev D_2c9a : Type := Int × Int × (List Int) × (List D_6649) × Unit
abbrev T_a496 : Ty := (.cons (.slice (.int .i64)) (.cons (.int .i64) (.cons (.slice (.int .i64)) (.cons T_3393 (.cons .bool .nil)))))
abbrev D_a496 : Type := (List Int) × Int × (List Int) × D_3393 × Bool × Unit
abbrev T_fbab : Ty := (.cons (.int .u64) (.cons (.int .u64) (.cons (.int .u32) (.cons (.int .u8) (.cons (.int .u8) (.cons (.int .u8) (.cons (.int .u8) (.cons .fn (.cons .ptr (.cons (.int .i32) (.cons (.int .i32) .nil)))))))))))
abbrev D_fbab : Type := Int × Int × Int × Int × Int × Int × Int × Unit × Unit × Int × Int × Unit
abbrev T_8f0a : Ty := (.cons (.int .u32) (.cons (.slice T_089d) (.cons (.slice T_b101) (.cons (.int .u32) .nil))))
abbrev D_8f0a : Type := Int × (List D_089d) × (List D_b101) × Int × Unit
def S_0d66ef : List Int := [0, 1, 2, 2, 3, 3, 3, 3, 4, 4, 4, 4, 4, 4, 4, 4, 5, 5, 5, 5, 5, 5, 5, 5, 5, 5, 5, 5, 5, 5, 5, 5, 6, 6, 6, 6, 6, 6, 6, 6, 6, 6, 6, 6, 6, 6, 6, 6, 6, 6, 6, 6, 6, 6, 6, 6, 6, 6, 6, 6, 6, 6, 6, 6, 7, 7, 7, 7, 7, 7, 7, 7, 7, 7, 7, 7, 7, 7, 7, 7, 7, 7, 7, 7, 7, 7, 7, 7, 7, 7, 7, 7, 7, 7, 7, 7, 7, 7, 7, 7, 7, 7, 7, 7, 7, 7, 7, 7, 7, 7, 7, 7, 7, 7, 7, 7, 7, 7, 7, 7, 7, 7, 7, 7, 7, 7, 7, 7, 8, 8, 8, 8, 8, 8, 8, 8, 8, 8, 8, 8, 8, 8, 8, 8, 8, 8, 8, 8, 8, 8, 8, 8, 8, 8, 8, 8, 8, 8, 8, 8, 8, 8, 8, 8, 8, 8, 8, 8, 8, 8, 8, 8, 8, 8, 8, 8, 8, 8, 8, 8, 8, 8, 8, 8, 8, 8, 8, 8, 8, 8, 8, 8, 8, 8, 8, 8, 8, 8, 8, 8, 8, 8, 8, 8, 8, 8, 8, 8, 8, 8, 8, 8, 8, 8, 8, 8, 8, 8, 8, 8, 8, 8, 8, 8, 8, 8, 8, 8, 8, 8, 8, 8, 8, 8, 8, 8, 8, 8, 8, 8, 8, 8, 8, 8, 8, 8, 8, 8, 8, 8, 8, 8, 8, 8, 8, 8]
def G_3e2daa : List Int := [1779033703, 3144134277, 1013904242, 2773480762, 1359893119, 2600822924, 528734635, 1541459225]
def G_c990df : List Int := [1116352408, 1899447441, 3049323471, 3921009573, 961987163, 1508970993, 2453635748, 2870763221, 3624381080, 310598401, 607225278, 1426881987, 1925078388, 2162078206, 2614888103, 3248222580, 3835390401, 4022224774, 264347078, 604807628, 770255983, 1249150122, 1555081692, 1996064986, 2554220882, 2821834349, 2952996808, 3210313671, 3336571891, 3584528711, 113926993, 338241895, 666307205, 773529912, 1294757372, 1396182291, 1695183700, 1986661051, 2177026350, 2456956037, 2730485921, 2820302411, 3259730800, 3345764771, 3516065817, 3600352804, 4094571909, 275423344, 430227734, 506948616, 659060556, 883997877, 958139571, 1322822218, 1537002063, 1747873779, 1955562222, 2024104815, 2227730452, 2361852424, 2428436474, 2756734187, 3204031479, 3329325298]
end Go.PE
end

section
set_option linter.unusedVariables false
noncomputable section
namespace Go.PE

def codec_put_uint32_L1 (c1 : Int) (c16 : Int) (v : (Unit × Int × Unit) × (List Int) × Unit) : Option (((Unit × Int × Unit) × (List Int) × Unit) ⊕ ((Unit × Unit) × (List Int) × Unit)) :=
  bif (decide (v.1.2.1 < c16)) then
    let x2003 := (IntKind.i64.wrap ((8 : Int) * v.1.2.1))
    bif (decide (x2003 < 0)) then
      none
    else
      let x2006 := ([(IntKind.u8.wrap ((shrI .u64 (IntKind.u64.wrap (c1)) x2003)))] : List Int)
      bif (decide ((List.length v.2.1) + (List.length x2006) ≤ lim)) then
        some (.inl (((), ((IntKind.i64.wrap (v.1.2.1 + (1 : Int))), ())), ((v.2.1 ++ x2006), ())))
      else
        none
  else
    some (.inr (((), ()), (v.2.1, ())))

/-- lightclient/codec.put[uint32] -/
def codec_put_uint32 (a0 : List Int) (a1 : Int) (a2 : Int) : Option ((Unit × Unit) × (List Int) × Unit) :=
  let x5 := (IntKind.i64.wrap ((((List.length a0) : Int)) + a2))
  bif (decide (0 ≤ (0 : Int)) && decide ((0 : Int) ≤ x5) && decide (x5 ≤ (lim : Int))) then
    let x6 := (List.replicate (0) (0 : Int))
    bif (decide ((List.length x6) + (List.length a0) ≤ lim)) then
      (loopV (codec_put_uint32_L1 a1 a2) (((), ((0 : Int), ())), ((x6 ++ a0), ()))).bind fun o8 =>
      some (((), ()), (o8.2.1, ()))
    else
      none
  else
    none

/-- lightclient/codec.AppendU32 -/
def codec_AppendU32 (a0 : List Int) (a1 : Int) : Option ((Unit × Unit) × (List Int) × Unit) :=
  (codec_put_uint32 a0 a1 (4 : Int)).bind fun r3 =>
  some (((), ()), (r3.2.1, ()))

def codec_put_uint8_L1 (c1 : Int) (c16 : Int) (v : (Unit × Int × Unit) × (List Int) × Unit) : Option (((Unit × Int × Unit) × (List Int) × Unit) ⊕ ((Unit × Unit) × (List Int) × Unit)) :=
  bif (decide (v.1.2.1 < c16)) then
    let x2003 := (IntKind.i64.wrap ((8 : Int) * v.1.2.1))
    bif (decide (x2003 < 0)) then
      none
    else
      let x2006 := ([(IntKind.u8.wrap ((shrI .u64 (IntKind.u64.wrap (c1)) x2003)))] : List Int)
      bif (decide ((List.length v.2.1) + (List.length x2006) ≤ lim)) then
        some (.inl (((), ((IntKind.i64.wrap (v.1.2.1 + (1 : Int))), ())), ((v.2.1 ++ x2006), ())))
      else
        none
  else
    some (.inr (((), ()), (v.2.1, ())))

/-- lightclient/codec.put[uint8] -/
def codec_put_uint8 (a0 : List Int) (a1 : Int) (a2 : Int) : Option ((Unit × Unit) × (List Int) × Unit) :=
  let x5 := (IntKind.i64.wrap ((((List.length a0) : Int)) + a2))
  bif (decide (0 ≤ (0 : Int)) && decide ((0 : Int) ≤ x5) && decide (x5 ≤ (lim : Int))) then
    let x6 := (List.replicate (0) (0 : Int))
    bif (decide ((List.length x6) + (List.length a0) ≤ lim)) then
      (loopV (codec_put_uint8_L1 a1 a2) (((), ((0 : Int), ())), ((x6 ++ a0), ()))).bind fun o8 =>
      some (((), ()), (o8.2.1, ()))
    else
      none
  else
    none

def codec_put_uint16_L1 (c1 : Int) (c16 : Int) (v : (Unit × Int × Unit) × (List Int) × Unit) : Option (((Unit × Int × Unit) × (List Int) × Unit) ⊕ ((Unit × Unit) × (List Int) × Unit)) :=
  bif (decide (v.1.2.1 < c16)) then
    let x2003 := (IntKind.i64.wrap ((8 : Int) * v.1.2.1))
    bif (decide (x2003 < 0)) then
      none
    else
      let x2006 := ([(IntKind.u8.wrap ((shrI .u64 (IntKind.u64.wrap (c1)) x2003)))] : List Int)
      bif (decide ((List.length v.2.1) + (List.length x2006) ≤ lim)) then
        some (.inl (((), ((IntKind.i64.wrap (v.1.2.1 + (1 : Int))), ())), ((v.2.1 ++ x2006), ())))
      else
        none
  else
    some (.inr (((), ()), (v.2.1, ())))

/-- lightclient/codec.put[uint16] -/
def codec_put_uint16 (a0 : List Int) (a1 : Int) (a2 : Int) : Option ((Unit × Unit) × (List Int) × Unit) :=
  let x5 := (IntKind.i64.wrap ((((List.length a0) : Int)) + a2))
  bif (decide (0 ≤ (0 : Int)) && decide ((0 : Int) ≤ x5) && decide (x5 ≤ (lim : Int))) then
    let x6 := (List.replicate (0) (0 : Int))
    bif (decide ((List.length x6) + (List.length a0) ≤ lim)) then
      (loopV (codec_put_uint16_L1 a1 a2) (((), ((0 : Int), ())), ((x6 ++ a0), ()))).bind fun o8 =>
      some (((), ()), (o8.2.1, ()))
    else
      none
  else
    none

def codec_put_uint64_L1 (c1 : Int) (c16 : Int) (v : (Unit × Int × Unit) × (List Int) × Unit) : Option (((Unit × Int × Unit) × (List Int) × Unit) ⊕ ((Unit × Unit) × (List Int) × Unit)) :=
  bif (decide (v.1.2.1 < c16)) then
    let x2002 := (IntKind.i64.wrap ((8 : Int) * v.1.2.1))
    bif (decide (x2002 < 0)) then
      none
    else
      let x2005 := ([(IntKind.u8.wrap ((shrI .u64 c1 x2002)))] : List Int)
      bif (decide ((List.length v.2.1) + (List.length x2005) ≤ lim)) then
        some (.inl (((), ((IntKind.i64.wrap (v.1.2.1 + (1 : Int))), ())), ((v.2.1 ++ x2005), ())))
      else
        none
  else
    some (.inr (((), ()), (v.2.1, ())))

/-- lightclient/codec.put[uint64] -/
def codec_put_uint64 (a0 : List Int) (a1 : Int) (a2 : Int) : Option ((Unit × Unit) × (List Int) × Unit) :=
  let x5 := (IntKind.i64.wrap ((((List.length a0) : Int)) + a2))
  bif (decide (0 ≤ (0 : Int)) && decide ((0 : Int) ≤ x5) && decide (x5 ≤ (lim : Int))) then
    let x6 := (List.replicate (0) (0 : Int))
    bif (decide ((List.length x6) + (List.length a0) ≤ lim)) then
      (loopV (codec_put_uint64_L1 a1 a2) (((), ((0 : Int), ())), ((x6 ++ a0), ()))).bind fun o8 =>
      some (((), ()), (o8.2.1, ()))
    else
      none
  else
    none

/-- lightclient/codec.AppendSize -/
def codec_AppendSize (a0 : List Int) (a1 : Int) : Option ((Unit × Unit) × (List Int) × Unit) :=
  bif (decide (a1 < (253 : Int))) then
    (codec_put_uint8 a0 (IntKind.u8.wrap (a1)) (1 : Int)).bind fun r5 =>
    some (((), ()), (r5.2.1, ()))
  else
    bif (decide (a1 < (65536 : Int))) then
      (codec_put_uint8 a0 (253 : Int) (1 : Int)).bind fun r7 =>
      (codec_put_uint16 r7.2.1 (IntKind.u16.wrap (a1)) (2 : Int)).bind fun r9 =>
      some (((), ()), (r9.2.1, ()))
    else
      bif (decide (a1 < (4294967296 : Int))) then
        (codec_put_uint8 a0 (254 : Int) (1 : Int)).bind fun r11 =>
        (codec_put_uint32 r11.2.1 (IntKind.u32.wrap (a1)) (4 : Int)).bind fun r13 =>
        some (((), ()), (r13.2.1, ()))
      else
        (codec_put_uint8 a0 (255 : Int) (1 : Int)).bind fun r14 =>
        (codec_put_uint64 r14.2.1 a1 (8 : Int)).bind fun r15 =>
        some (((), ()), (r15.2.1, ()))

/-- lightclient/codec.AppendHash -/
def codec_AppendHash (a0 : List Int) (a1 : List Int) : Option ((Unit × Unit) × (List Int) × Unit) :=
  let x4 := (IntKind.i64.wrap ((((List.length a0) : Int)) + (32 : Int)))
  bif (decide (0 ≤ (0 : Int)) && decide ((0 : Int) ≤ x4) && decide (x4 ≤ (lim : Int))) then
    let x5 := (List.replicate (0) (0 : Int))
    bif (decide ((List.length x5) + (List.length a0) ≤ lim)) then
      let x6 := (x5 ++ a0)
      bif (decide ((List.length x6) + (List.length (sub a1 (0) (32))) ≤ lim)) then
        some (((), ()), ((x6 ++ (sub a1 (0) (32))), ()))
      else
        none
    else
      none
  else
    none

/-- lightclient/codec.AppendU64 -/
def codec_AppendU64 (a0 : List Int) (a1 : Int) : Option ((Unit × Unit) × (List Int) × Unit) :=
  (codec_put_uint64 a0 a1 (8 : Int)).bind fun r3 =>
  some (((), ()), (r3.2.1, ()))

/-- lightclient/codec.AppendBytes -/
def codec_AppendBytes (a0 : List Int) (a1 : List Int) : Option ((Unit × Unit) × (List Int) × Unit) :=
  (codec_AppendSize a0 (IntKind.u64.wrap ((((List.length a1) : Int))))).bind fun r5 =>
  bif (decide ((List.length r5.2.1) + (List.length a1) ≤ lim)) then
    some (((), ()), ((r5.2.1 ++ a1), ()))
  else
    none

end Go.PE
end
end

section
set_option linter.unusedVariables false
noncomputable section
namespace Go.PE

/-- slices.Clone[[]int,int] -/
def slices_Clone_int_int (a0 : List Int) : Option ((Unit × Unit) × (List Int) × Unit) :=
  bif decide (List.length a0 ≤ lim) then some (((), ()), (a0, ())) else none

def math_bits_Len64_J1 (v : (Int × Int × Unit) × Unit) : Option ((Int × Int × Unit) × Unit) :=
  bif (decide ((4294967296 : Int) ≤ v.1.1)) then
    some (((shrI .u64 v.1.1 (32 : Int)), ((32 : Int), ())), ())
  else
    some ((v.1.1, (v.1.2.1, ())), ())

def math_bits_Len64_J2 (v : (Int × Int × Unit) × Unit) : Option ((Int × Int × Unit) × Unit) :=
  bif (decide ((65536 : Int) ≤ v.1.1)) then
    some (((shrI .u64 v.1.1 (16 : Int)), ((IntKind.i64.wrap (v.1.2.1 + (16 : Int))), ())), ())
  else
    some ((v.1.1, (v.1.2.1, ())), ())

def math_bits_Len64_J3 (v : (Int × Int × Unit) × Unit) : Option ((Int × Int × Unit) × Unit) :=
  bif (decide ((256 : Int) ≤ v.1.1)) then
    some (((shrI .u64 v.1.1 (8 : Int)), ((IntKind.i64.wrap (v.1.2.1 + (8 : Int))), ())), ())
  else
    some ((v.1.1, (v.1.2.1, ())), ())

/-- math/bits.Len64 -/
def math_bits_Len64 (a0 : Int) : Option ((Int × Unit) × Unit) :=
  (math_bits_Len64_J1 ((a0, ((0 : Int), ())), ())).bind fun o2 =>
  (math_bits_Len64_J2 ((o2.1.1, (o2.1.2.1, ())), ())).bind fun o3 =>
  (math_bits_Len64_J3 ((o3.1.1, (o3.1.2.1, ())), ())).bind fun o4 =>
  let x5 := (IntKind.u8.wrap (o4.1.1))
  bif (inb x5 (List.length S_0d66ef)) then
    some (((IntKind.i64.wrap (o4.1.2.1 + (IntKind.i64.wrap ((rd (.int .u8) S_0d66ef x5))))), ()), ())
  else
    none


/-- bytes.Compare -/
def bytes_Compare (a0 : List Int) (a1 : List Int) : Option ((Int × Unit) × Unit) :=
  (ext_compare a0 a1).bind fun r3 =>
  some ((r3.1.1, ()), ())

/-- cmp.isNaN[uint32] -/
def cmp_isNaN_uint32 (a0 : Int) : Option ((Bool × Unit) × Unit) :=
  some (((!decide (a0 = a0)), ()), ())

/-- cmp.Compare[uint32] -/
def cmp_Compare_uint32 (a0 : Int) (a1 : Int) : Option ((Int × Unit) × Unit) :=
  (cmp_isNaN_uint32 a0).bind fun r3 =>
  (cmp_isNaN_uint32 a1).bind fun r4 =>
  bif r3.1.1 then
    bif r4.1.1 then
      some (((0 : Int), ()), ())
    else
      some (((-1 : Int), ()), ())
  else
    bif r4.1.1 then
      some (((1 : Int), ()), ())
    else
      bif (decide (a0 < a1)) then
        some (((-1 : Int), ()), ())
      else
        bif (decide (a1 < a0)) then
          some (((1 : Int), ()), ())
        else
          some (((0 : Int), ()), ())

def cmp_Or_int_L1 (c3 : Int) (c6 : List Int) (c7 : Int) (v : (Int × Unit) × Unit) : Option (((Int × Unit) × Unit) ⊕ (((Int × Unit) × Unit) ⊕ ((Unit) × Unit))) :=
  bif (decide (v.1.1 < c7)) then
    bif (inb v.1.1 (List.length c6)) then
      let x2002 := (rd (.int .i64) c6 v.1.1)
      bif (!decide (x2002 = c3)) then
        some (.inr (.inl ((x2002, ()), ())))
      else
        some (.inl (((IntKind.i64.wrap (v.1.1 + (1 : Int))), ()), ()))
    else
      none
  else
    some (.inr (.inr ((), ())))

/-- cmp.Or[int] -/
def cmp_Or_int (a0 : List Int) : Option ((Int × Unit) × Unit) :=
  (loopV (cmp_Or_int_L1 (0 : Int) a0 (((List.length a0) : Int))) (((0 : Int), ()), ())).bind fun o3 =>
  match o3 with
  | .inl o4 =>
    some ((o4.1.1, ()), ())
  | .inr o5 =>
    some (((0 : Int), ()), ())

/-- math/bits.RotateLeft32 -/
def math_bits_RotateLeft32 (a0 : Int) (a1 : Int) : Option ((Int × Unit) × Unit) :=
  let x4 := (bitI .and .u64 (IntKind.u64.wrap (a1)) (31 : Int))
  some (((bitI .or .u32 (shlI .u32 a0 x4) (shrI .u32 a0 (IntKind.u64.wrap ((32 : Int) - x4)))), ()), ())

end Go.PE
end
end

section
set_option linter.unusedVariables false
noncomputable section
namespace Go.PE

def sha_Pad_L1 (c0 : Int) (v : (Unit × Int × Unit) × (List Int) × Unit) : Option (((Unit × Int × Unit) × (List Int) × Unit) ⊕ ((Unit × Unit) × (List Int) × Unit)) :=
  bif (decide ((0 : Int) ≤ v.1.2.1)) then
    bif (decide (v.1.2.1 < 0)) then
      none
    else
      let x2005 := ([(IntKind.u8.wrap ((shrI .u64 (IntKind.u64.wrap ((8 : Int) * c0)) v.1.2.1)))] : List Int)
      bif (decide ((List.length v.2.1) + (List.length x2005) ≤ lim)) then
        some (.inl (((), ((IntKind.i64.wrap (v.1.2.1 - (8 : Int))), ())), ((v.2.1 ++ x2005), ())))
      else
        none
  else
    some (.inr (((), ()), (v.2.1, ())))

/-- lightclient/sha.Pad -/
def sha_Pad (a0 : Int) : Option ((Unit × Unit) × (List Int) × Unit) :=
  let x6 := (IntKind.u64.wrap ((1 : Int) + (Int.tmod (IntKind.u64.wrap ((64 : Int) - (Int.tmod (IntKind.u64.wrap (a0 + (9 : Int))) (64 : Int)))) (64 : Int))))
  bif (decide (0 ≤ x6) && decide (x6 ≤ (72 : Int)) && decide ((72 : Int) ≤ (lim : Int))) then
    let x7 := (List.replicate (Int.toNat x6) (0 : Int))
    bif (inb (0 : Int) (List.length x7)) then
      (x7[(0)]?).bind fun e8 =>
      (loopV (sha_Pad_L1 a0) (((), ((56 : Int), ())), ((x7.set (0) (128 : Int)), ()))).bind fun o10 =>
      some (((), ()), (o10.2.1, ()))
    else
      none
  else
    none

/-- lightclient/sha.rotr -/
def sha_rotr (a0 : Int) (a1 : Int) : Option ((Int × Unit) × Unit) :=
  (math_bits_RotateLeft32 a0 (IntKind.i64.wrap (-a1))).bind fun r4 =>
  some ((r4.1.1, ()), ())

def sha_schedule_L1 (c9 : List Int) (v : (Unit × Unit × Int × Unit) × (List Int) × (List Int) × Unit) : Option (((Unit × Unit × Int × Unit) × (List Int) × (List Int) × Unit) ⊕ ((Unit × Unit × Unit) × (List Int) × (List Int) × Unit)) :=
  bif (decide (v.1.2.2.1 < (64 : Int))) then
    bif (inb v.1.2.2.1 (64)) then
      let x2003 := (IntKind.i64.wrap (Int.tdiv v.1.2.2.1 (4 : Int)))
      let x2004 := (IntKind.i64.wrap (Int.tdiv v.1.2.2.1 (4 : Int)))
      bif (inb x2004 (64)) then
        (v.2.2.1[(Int.toNat x2004)]?).bind fun e2005 =>
        bif (inb x2003 (64)) then
          (v.2.2.1[(Int.toNat x2003)]?).bind fun e2009 =>
          some (.inl (((), ((), ((IntKind.i64.wrap (v.1.2.2.1 + (1 : Int))), ()))), (v.2.1, ((v.2.2.1.set (Int.toNat x2003) (bitI .or .u32 (shlI .u32 e2005 (8 : Int)) (IntKind.u32.wrap ((rd (.int .u8) c9 v.1.2.2.1))))), ()))))
        else
          none
      else
        none
    else
      none
  else
    some (.inr (((), ((), ())), (v.2.1, (v.2.2.1, ()))))

def sha_schedule_L2 (v : (Unit × Unit × Int × Unit) × (List Int) × (List Int) × Unit) : Option (((Unit × Unit × Int × Unit) × (List Int) × (List Int) × Unit) ⊕ ((Unit × Unit × Unit) × (List Int) × (List Int) × Unit)) :=
  bif (decide (v.1.2.2.1 < (64 : Int))) then
    let x3002 := (IntKind.i64.wrap (v.1.2.2.1 - (15 : Int)))
    bif (inb x3002 (64)) then
      (v.2.2.1[(Int.toNat x3002)]?).bind fun e3003 =>
      (sha_rotr e3003 (7 : Int)).bind fun r3004 =>
      let x3005 := (IntKind.i64.wrap (v.1.2.2.1 - (15 : Int)))
      bif (inb x3005 (64)) then
        (v.2.2.1[(Int.toNat x3005)]?).bind fun e3006 =>
        (sha_rotr e3006 (18 : Int)).bind fun r3007 =>
        let x3009 := (IntKind.i64.wrap (v.1.2.2.1 - (15 : Int)))
        bif (inb x3009 (64)) then
          (v.2.2.1[(Int.toNat x3009)]?).bind fun e3010 =>
          let x3013 := (IntKind.i64.wrap (v.1.2.2.1 - (2 : Int)))
          bif (inb x3013 (64)) then
            (v.2.2.1[(Int.toNat x3013)]?).bind fun e3014 =>
            (sha_rotr e3014 (17 : Int)).bind fun r3015 =>
            let x3016 := (IntKind.i64.wrap (v.1.2.2.1 - (2 : Int)))
            bif (inb x3016 (64)) then
              (v.2.2.1[(Int.toNat x3016)]?).bind fun e3017 =>
              (sha_rotr e3017 (19 : Int)).bind fun r3018 =>
              let x3020 := (IntKind.i64.wrap (v.1.2.2.1 - (2 : Int)))
              bif (inb x3020 (64)) then
                (v.2.2.1[(Int.toNat x3020)]?).bind fun e3021 =>
                let x3024 := (IntKind.i64.wrap (v.1.2.2.1 - (16 : Int)))
                bif (inb x3024 (64)) then
                  (v.2.2.1[(Int.toNat x3024)]?).bind fun e3025 =>
                  let x3027 := (IntKind.i64.wrap (v.1.2.2.1 - (7 : Int)))
                  bif (inb x3027 (64)) then
                    (v.2.2.1[(Int.toNat x3027)]?).bind fun e3028 =>
                    bif (inb v.1.2.2.1 (64)) then
                      (v.2.2.1[(Int.toNat v.1.2.2.1)]?).bind fun e3031 =>
                      some (.inl (((), ((), ((IntKind.i64.wrap (v.1.2.2.1 + (1 : Int))), ()))), (v.2.1, ((v.2.2.1.set (Int.toNat v.1.2.2.1) (IntKind.u32.wrap ((IntKind.u32.wrap ((IntKind.u32.wrap (e3025 + (bitI .xor .u32 (bitI .xor .u32 r3004.1.1 r3007.1.1) (shrI .u32 e3010 (3 : Int))))) + e3028)) + (bitI .xor .u32 (bitI .xor .u32 r3015.1.1 r3018.1.1) (shrI .u32 e3021 (10 : Int)))))), ()))))
                    else
                      none
                  else
                    none
                else
                  none
              else
                none
            else
              none
          else
            none
        else
          none
      else
        none
    else
      none
  else
    some (.inr (((), ((), ())), (v.2.1, (v.2.2.1, ()))))

/-- lightclient/sha.schedule -/
def sha_schedule (a0 : List Int) : Option (((List Int) × Unit) × Unit) :=
  (loopV (sha_schedule_L1 a0) (((), ((), ((0 : Int), ()))), ((List.replicate 64 (0 : Int)), ((List.replicate 64 (0 : Int)), ())))).bind fun o2 =>
  (loopV (sha_schedule_L2) (((), ((), ((16 : Int), ()))), (o2.2.1, (o2.2.2.1, ())))).bind fun o3 =>
  some ((o3.2.2.1, ()), ())

def sha_Compress_L1 (c21 : List Int) (v : (Unit × Unit × Unit × Unit × Int × Unit) × (List Int) × (List Int) × (List Int) × (List Int) × Unit) : Option (((Unit × Unit × Unit × Unit × Int × Unit) × (List Int) × (List Int) × (List Int) × (List Int) × Unit) ⊕ ((Unit × Unit × Unit × Unit) × (List Int) × (List Int) × (List Int) × Unit)) :=
  bif (decide (v.1.2.2.2.2.1 < (64 : Int))) then
    bif (inb v.1.2.2.2.2.1 (64)) then
      bif (inb (0 : Int) (8)) then
        (v.2.2.2.2.1[(0)]?).bind fun e2003 =>
        bif (inb (1 : Int) (8)) then
          (v.2.2.2.2.1[(1)]?).bind fun e2004 =>
          bif (inb (2 : Int) (8)) then
            (v.2.2.2.2.1[(2)]?).bind fun e2005 =>
            bif (inb (4 : Int) (8)) then
              (v.2.2.2.2.1[(4)]?).bind fun e2006 =>
              bif (inb (5 : Int) (8)) then
                (v.2.2.2.2.1[(5)]?).bind fun e2007 =>
                bif (inb (6 : Int) (8)) then
                  (v.2.2.2.2.1[(6)]?).bind fun e2008 =>
                  bif (inb (7 : Int) (8)) then
                    (v.2.2.2.2.1[(7)]?).bind fun e2009 =>
                    (sha_rotr e2006 (6 : Int)).bind fun r2010 =>
                    (sha_rotr e2006 (11 : Int)).bind fun r2011 =>
                    (sha_rotr e2006 (25 : Int)).bind fun r2013 =>
                    bif (inb v.1.2.2.2.2.1 (64)) then
                      (v.2.2.2.1[(Int.toNat v.1.2.2.2.2.1)]?).bind fun e2022 =>
                      let x2023 := (IntKind.u32.wrap ((IntKind.u32.wrap ((IntKind.u32.wrap ((IntKind.u32.wrap (e2009 + (bitI .xor .u32 (bitI .xor .u32 r2010.1.1 r2011.1.1) r2013.1.1))) + (bitI .xor .u32 (bitI .and .u32 e2006 e2007) (bitI .and .u32 (bitI .xor .u32 (xorM .u32) e2006) e2008)))) + (rd (.int .u32) c21 v.1.2.2.2.2.1))) + e2022))
                      (sha_rotr e2003 (2 : Int)).bind fun r2024 =>
                      (sha_rotr e2003 (13 : Int)).bind fun r2025 =>
                      (sha_rotr e2003 (22 : Int)).bind fun r2027 =>
                      let x2035 := (IntKind.u32.wrap (x2023 + (IntKind.u32.wrap ((bitI .xor .u32 (bitI .xor .u32 r2024.1.1 r2025.1.1) r2027.1.1) + (bitI .xor .u32 (bitI .xor .u32 (bitI .and .u32 e2003 e2004) (bitI .and .u32 e2003 e2005)) (bitI .and .u32 e2004 e2005))))))
                      bif (inb (3 : Int) (8)) then
                        (v.2.2.2.2.1[(3)]?).bind fun e2036 =>
                        let x2037 := (IntKind.u32.wrap (e2036 + x2023))
                        ((List.replicate 8 (0 : Int))[(0)]?).bind fun e2038 =>
                        (((List.replicate 8 (0 : Int)).set (0) x2035)[(1)]?).bind fun e2039 =>
                        ((((List.replicate 8 (0 : Int)).set (0) x2035).set (1) e2003)[(2)]?).bind fun e2040 =>
                        (((((List.replicate 8 (0 : Int)).set (0) x2035).set (1) e2003).set (2) e2004)[(3)]?).bind fun e2041 =>
                        ((((((List.replicate 8 (0 : Int)).set (0) x2035).set (1) e2003).set (2) e2004).set (3) e2005)[(4)]?).bind fun e2042 =>
                        (((((((List.replicate 8 (0 : Int)).set (0) x2035).set (1) e2003).set (2) e2004).set (3) e2005).set (4) x2037)[(5)]?).bind fun e2043 =>
                        ((((((((List.replicate 8 (0 : Int)).set (0) x2035).set (1) e2003).set (2) e2004).set (3) e2005).set (4) x2037).set (5) e2006)[(6)]?).bind fun e2044 =>
                        (((((((((List.replicate 8 (0 : Int)).set (0) x2035).set (1) e2003).set (2) e2004).set (3) e2005).set (4) x2037).set (5) e2006).set (6) e2007)[(7)]?).bind fun e2045 =>
                        some (.inl (((), ((), ((), ((), ((IntKind.i64.wrap (v.1.2.2.2.2.1 + (1 : Int))), ()))))), (v.2.1, (v.2.2.1, (v.2.2.2.1, ((((((((((List.replicate 8 (0 : Int)).set (0) x2035).set (1) e2003).set (2) e2004).set (3) e2005).set (4) x2037).set (5) e2006).set (6) e2007).set (7) e2008), ()))))))
                      else
                        none
                    else
                      none
                  else
                    none
                else
                  none
              else
                none
            else
              none
          else
            none
        else
          none
      else
        none
    else
      none
  else
    some (.inr (((), ((), ((), ()))), (v.2.1, (v.2.2.1, (v.2.2.2.2.1, ())))))

def sha_Compress_L2 (v : (Unit × Unit × Unit × Int × Unit) × (List Int) × (List Int) × (List Int) × Unit) : Option (((Unit × Unit × Unit × Int × Unit) × (List Int) × (List Int) × (List Int) × Unit) ⊕ ((Unit × Unit × Unit) × (List Int) × (List Int) × Unit)) :=
  bif (decide (v.1.2.2.2.1 < (8 : Int))) then
    bif (inb v.1.2.2.2.1 (8)) then
      (v.2.2.2.1[(Int.toNat v.1.2.2.2.1)]?).bind fun e3002 =>
      bif (inb v.1.2.2.2.1 (8)) then
        (v.2.1[(Int.toNat v.1.2.2.2.1)]?).bind fun e3003 =>
        bif (inb v.1.2.2.2.1 (8)) then
          (v.2.2.2.1[(Int.toNat v.1.2.2.2.1)]?).bind fun e3005 =>
          some (.inl (((), ((), ((), ((IntKind.i64.wrap (v.1.2.2.2.1 + (1 : Int))), ())))), (v.2.1, (v.2.2.1, ((v.2.2.2.1.set (Int.toNat v.1.2.2.2.1) (IntKind.u32.wrap (e3002 + e3003))), ())))))
        else
          none
      else
        none
    else
      none
  else
    some (.inr (((), ((), ())), (v.2.2.1, (v.2.2.2.1, ()))))

/-- lightclient/sha.Compress -/
def sha_Compress (a0 : List Int) (a1 : List Int) : Option (((List Int) × Unit) × Unit) :=
  (sha_schedule a1).bind fun r3 =>
  (loopV (sha_Compress_L1 G_c990df) (((), ((), ((), ((), ((0 : Int), ()))))), (a0, ((List.replicate 8 (0 : Int)), (r3.1.1, (a0, ())))))).bind fun o4 =>
  (loopV (sha_Compress_L2) (((), ((), ((), ((0 : Int), ())))), (o4.2.1, (o4.2.2.1, (o4.2.2.2.1, ()))))).bind fun o5 =>
  some ((o5.2.2.1, ()), ())

def sha_Sum_L1 (v : (Unit × (List Int) × Unit × Unit) × (List Int) × (List Int) × Unit) : Option (((Unit × (List Int) × Unit × Unit) × (List Int) × (List Int) × Unit) ⊕ ((Unit × Unit × Unit) × (List Int) × (List Int) × Unit)) :=
  bif (decide ((0 : Int) < (((List.length v.1.2.1) : Int)))) then
    bif (decide (0 ≤ (64 : Int)) && decide ((64 : Int) ≤ ((List.length v.1.2.1) : Int))) then
      let x2003 := (sub v.1.2.1 (0) (64))
      bif (decide (64 ≤ (List.length x2003))) then
        (sha_Compress v.2.2.1 (List.take 64 x2003)).bind fun r2005 =>
        bif (decide (0 ≤ (64 : Int)) && decide ((64 : Int) ≤ ((List.length v.1.2.1) : Int))) then
          some (.inl (((), ((sub v.1.2.1 (64) ((List.length v.1.2.1) - (64))), ((), ()))), (v.2.1, (r2005.1.1, ()))))
        else
          none
      else
        none
    else
      none
  else
    some (.inr (((), ((), ())), (v.2.1, (v.2.2.1, ()))))

def sha_Sum_L2 (v : (Unit × Unit × Unit × Int × Unit) × (List Int) × (List Int) × (List Int) × Unit) : Option (((Unit × Unit × Unit × Int × Unit) × (List Int) × (List Int) × (List Int) × Unit) ⊕ ((Unit × Unit × Unit) × (List Int) × (List Int) × Unit)) :=
  bif (decide (v.1.2.2.2.1 < (32 : Int))) then
    let x3002 := (IntKind.i64.wrap (Int.tdiv v.1.2.2.2.1 (4 : Int)))
    bif (inb x3002 (8)) then
      (v.2.2.1[(Int.toNat x3002)]?).bind fun e3003 =>
      let x3006 := (IntKind.i64.wrap ((24 : Int) - (IntKind.i64.wrap ((8 : Int) * (Int.tmod v.1.2.2.2.1 (4 : Int))))))
      bif (decide (x3006 < 0)) then
        none
      else
        bif (inb v.1.2.2.2.1 (32)) then
          (v.2.2.2.1[(Int.toNat v.1.2.2.2.1)]?).bind fun e3009 =>
          some (.inl (((), ((), ((), ((IntKind.i64.wrap (v.1.2.2.2.1 + (1 : Int))), ())))), (v.2.1, (v.2.2.1, ((v.2.2.2.1.set (Int.toNat v.1.2.2.2.1) (IntKind.u8.wrap ((shrI .u32 e3003 x3006)))), ())))))
        else
          none
    else
      none
  else
    some (.inr (((), ((), ())), (v.2.1, (v.2.2.2.1, ()))))

/-- lightclient/sha.Sum -/
def sha_Sum (a0 : List Int) : Option (((List Int) × Unit) × Unit) :=
  let x3 := (IntKind.i64.wrap ((((List.length a0) : Int)) + (72 : Int)))
  bif (decide (0 ≤ (0 : Int)) && decide ((0 : Int) ≤ x3) && decide (x3 ≤ (lim : Int))) then
    let x4 := (List.replicate (0) (0 : Int))
    bif (decide ((List.length x4) + (List.length a0) ≤ lim)) then
      let x5 := (x4 ++ a0)
      (sha_Pad (IntKind.u64.wrap ((((List.length a0) : Int))))).bind fun r8 =>
      bif (decide ((List.length x5) + (List.length r8.2.1) ≤ lim)) then
        (loopV (sha_Sum_L1) (((), ((x5 ++ r8.2.1), ((), ()))), ((List.replicate 32 (0 : Int)), (G_3e2daa, ())))).bind fun o10 =>
        (loopV (sha_Sum_L2) (((), ((), ((), ((0 : Int), ())))), (o10.2.1, (o10.2.2.1, ((List.replicate 32 (0 : Int)), ()))))).bind fun o11 =>
        some ((o11.2.2.1, ()), ())
      else
        none
    else
      none
  else
    none

/-- lightclient/sha.Double -/
def sha_Double (a0 : List Int) : Option (((List Int) × Unit) × Unit) :=
  (sha_Sum a0).bind fun r2 =>
  (sha_Sum (sub r2.1.1 (0) (32))).bind fun r3 =>
  some ((r3.1.1, ()), ())

end Go.PE
end
end

section
set_option linter.unusedVariables false
noncomputable section
namespace Go.PE

/-- lightclient/filter.Header -/
def filter_Header (a0 : List Int) (a1 : List Int) : Option (((List Int) × Unit) × Unit) :=
  bif (decide ((List.length (sub a0 (0) (32))) + (List.length (sub a1 (0) (32))) ≤ lim)) then
    (sha_Double ((sub a0 (0) (32)) ++ (sub a1 (0) (32)))).bind fun r4 =>
    some ((r4.1.1, ()), ())
  else
    none

/-- lightclient/filter.Encode -/
def filter_Encode (a0 : D_b101) : Option ((Unit × Int × Unit) × (List Int) × Unit) :=
  bif (decide (a0.1 < (0 : Int))) then
    some (((), ((4 : Int), ())), (([] : List Int), ()))
  else
    bif (decide ((4096 : Int) < a0.1)) then
      some (((), ((4 : Int), ())), (([] : List Int), ()))
    else
      bif (decide ((200000 : Int) < (((List.length a0.2.1) : Int)))) then
        some (((), ((4 : Int), ())), (([] : List Int), ()))
      else
        (codec_AppendSize ([] : List Int) (IntKind.u64.wrap (a0.1))).bind fun r7 =>
        (codec_AppendBytes r7.2.1 a0.2.1).bind fun r8 =>
        some (((), ((0 : Int), ())), (r8.2.1, ()))

/-- lightclient/filter.Hash -/
def filter_Hash (a0 : D_b101) : Option (((List Int) × Unit) × Unit) :=
  (filter_Encode a0).bind fun r2 =>
  bif (!decide (r2.1.2.1 = (0 : Int))) then
    some (((List.replicate 32 (0 : Int)), ()), ())
  else
    (sha_Double r2.2.1).bind fun r5 =>
    some ((r5.1.1, ()), ())

end Go.PE
end
end

section
set_option linter.unusedVariables false
noncomputable section
namespace Go.PE

/-- lightclient/filterchain.Sound -/
def filterchain_Sound (a0 : D_d60b) : Option ((Bool × Unit) × Unit) :=
  bif (decide ((((List.length a0.1) : Int)) = (((List.length a0.2.1) : Int)))) then
    some (((decide ((((List.length a0.1) : Int)) ≤ (4096 : Int))), ()), ())
  else
    some ((false, ()), ())

/-- lightclient/filterchain.before -/
def filterchain_before (a0 : D_d60b) (a1 : Int) : Option (((List Int) × Unit) × Unit) :=
  bif (decide (a1 = (0 : Int))) then
    some (((List.replicate 32 (0 : Int)), ()), ())
  else
    let x5 := (IntKind.i64.wrap (a1 - (1 : Int)))
    bif (inb x5 (List.length a0.2.1)) then
      some (((rd (.arr 32 (.int .u8)) a0.2.1 x5), ()), ())
    else
      none

def filterchain_Batch_L1 (c11 : List (List Int)) (c12 : Int) (v : (Unit × Unit × Int × Unit) × (List Int) × (List (List Int)) × Unit) : Option (((Unit × Unit × Int × Unit) × (List Int) × (List (List Int)) × Unit) ⊕ ((Unit × Unit) × (List (List Int)) × Unit)) :=
  bif (decide (v.1.2.2.1 < c12)) then
    bif (inb v.1.2.2.1 (List.length c11)) then
      (filter_Header (rd (.arr 32 (.int .u8)) c11 v.1.2.2.1) v.2.1).bind fun r2003 =>
      bif (inb v.1.2.2.1 (List.length v.2.2.1)) then
        (v.2.2.1[(Int.toNat v.1.2.2.1)]?).bind fun e2004 =>
        some (.inl (((), ((), ((IntKind.i64.wrap (v.1.2.2.1 + (1 : Int))), ()))), (r2003.1.1, ((v.2.2.1.set (Int.toNat v.1.2.2.1) r2003.1.1), ()))))
      else
        none
    else
      none
  else
    some (.inr (((), ()), (v.2.2.1, ())))

/-- lightclient/filterchain.Batch -/
def filterchain_Batch (a0 : List Int) (a1 : List (List Int)) : Option ((Unit × Unit) × (List (List Int)) × Unit) :=
  let x3 := (((List.length a1) : Int))
  bif (decide (0 ≤ x3) && decide (x3 ≤ x3) && decide (x3 ≤ (lim : Int))) then
    (loopV (filterchain_Batch_L1 a1 (((List.length a1) : Int))) (((), ((), ((0 : Int), ()))), (a0, ((List.replicate (Int.toNat x3) (List.replicate 32 (0 : Int))), ())))).bind fun o6 =>
    some (((), ()), (o6.2.1, ()))
  else
    none

/-- lightclient/filterchain.grown[lightclient/api.Hash] -/
def filterchain_grown_api_Hash (a0 : List (List Int)) (a1 : List (List Int)) : Option ((Unit × Unit) × (List (List Int)) × Unit) :=
  let x5 := (IntKind.i64.wrap ((((List.length a0) : Int)) + (((List.length a1) : Int))))
  bif (decide (0 ≤ (0 : Int)) && decide ((0 : Int) ≤ x5) && decide (x5 ≤ (lim : Int))) then
    let x6 := (List.replicate (0) (List.replicate 32 (0 : Int)))
    bif (decide ((List.length x6) + (List.length a0) ≤ lim)) then
      let x7 := (x6 ++ a0)
      bif (decide ((List.length x7) + (List.length a1) ≤ lim)) then
        some (((), ()), ((x7 ++ a1), ()))
      else
        none
    else
      none
  else
    none

/-- lightclient/filterchain.Extend -/
def filterchain_Extend (a0 : D_d60b) (a1 : List (List Int)) (a2 : List (List Int)) : Option (((Unit × Unit × Unit) × Int × Unit) × (List (List Int)) × (List (List Int)) × Unit) :=
  (filterchain_Sound a0).bind fun r4 =>
  bif (!r4.1.1) then
    some ((((), ((), ())), ((6 : Int), ())), (([] : List (List Int)), (([] : List (List Int)), ())))
  else
    bif (!decide ((((List.length a1) : Int)) = (((List.length a2) : Int)))) then
      some ((((), ((), ())), ((8 : Int), ())), (([] : List (List Int)), (([] : List (List Int)), ())))
    else
      bif (decide ((4096 : Int) < (IntKind.i64.wrap ((((List.length a0.1) : Int)) + (((List.length a1) : Int)))))) then
        some ((((), ((), ())), ((4 : Int), ())), (([] : List (List Int)), (([] : List (List Int)), ())))
      else
        (filterchain_before a0 (((List.length a0.2.1) : Int))).bind fun r14 =>
        (filterchain_Batch r14.1.1 a2).bind fun r15 =>
        (filterchain_grown_api_Hash a0.1 a1).bind fun r16 =>
        (filterchain_grown_api_Hash a0.2.1 r15.2.1).bind fun r17 =>
        some ((((), ((), ())), ((0 : Int), ())), (r16.2.1, (r17.2.1, ())))

def filterchain_Differ_L1 (c0 : List (List Int)) (c1 : List (List Int)) (c10 : Int) (v : (Int × Unit) × Unit) : Option (((Int × Unit) × Unit) ⊕ (((Int × Unit) × Unit) ⊕ ((Unit) × Unit))) :=
  bif (decide (v.1.1 < c10)) then
    bif (decide ((((List.length c0) : Int)) ≤ v.1.1)) then
      some (.inr (.inl ((v.1.1, ()), ())))
    else
      bif (decide ((((List.length c1) : Int)) ≤ v.1.1)) then
        some (.inr (.inl ((v.1.1, ()), ())))
      else
        bif (inb v.1.1 (List.length c0)) then
          bif (inb v.1.1 (List.length c1)) then
            bif (!(Ty.eqb (.arr 32 (.int .u8)) (rd (.arr 32 (.int .u8)) c0 v.1.1) (rd (.arr 32 (.int .u8)) c1 v.1.1))) then
              some (.inr (.inl ((v.1.1, ()), ())))
            else
              some (.inl (((IntKind.i64.wrap (v.1.1 + (1 : Int))), ()), ()))
          else
            none
        else
          none
  else
    some (.inr (.inr ((), ())))

/-- lightclient/filterchain.Differ -/
def filterchain_Differ (a0 : List (List Int)) (a1 : List (List Int)) : Option ((Int × Unit) × Unit) :=
  (loopV (filterchain_Differ_L1 a0 a1 (max (((List.length a0) : Int)) (((List.length a1) : Int)))) (((0 : Int), ()), ())).bind fun o6 =>
  match o6 with
  | .inl o7 =>
    some ((o7.1.1, ()), ())
  | .inr o8 =>
    some (((-1 : Int), ()), ())

def filterchain_Checkpoints_L1 (c1 : Int) (v : (Unit × Unit × Int × Unit) × D_d60b × (List (List Int)) × Unit) : Option (((Unit × Unit × Int × Unit) × D_d60b × (List (List Int)) × Unit) ⊕ ((Unit × Unit) × (List (List Int)) × Unit)) :=
  bif (decide (v.1.2.2.1 < (((List.length v.2.1.2.1) : Int)))) then
    bif (inb v.1.2.2.1 (List.length v.2.1.2.1)) then
      let x2004 := ([(rd (.arr 32 (.int .u8)) v.2.1.2.1 v.1.2.2.1)] : List (List Int))
      bif (decide ((List.length v.2.2.1) + (List.length x2004) ≤ lim)) then
        some (.inl (((), ((), ((IntKind.i64.wrap (v.1.2.2.1 + c1)), ()))), (v.2.1, ((v.2.2.1 ++ x2004), ()))))
      else
        none
    else
      none
  else
    some (.inr (((), ()), (v.2.2.1, ())))

/-- lightclient/filterchain.Checkpoints -/
def filterchain_Checkpoints (a0 : D_d60b) (a1 : Int) : Option ((Unit × Unit) × (List (List Int)) × Unit) :=
  bif (decide (a1 ≤ (0 : Int))) then
    some (((), ()), (([] : List (List Int)), ()))
  else
    (filterchain_Sound a0).bind fun r4 =>
    bif (!r4.1.1) then
      some (((), ()), (([] : List (List Int)), ()))
    else
      (loopV (filterchain_Checkpoints_L1 a1) (((), ((), (a1, ()))), (a0, (([] : List (List Int)), ())))).bind fun o6 =>
      some (((), ()), (o6.2.1, ()))

/-- lightclient/filterchain.Rewind -/
def filterchain_Rewind (a0 : D_d60b) (a1 : Int) : Option (((Unit × Unit × Unit) × Int × Unit) × (List (List Int)) × (List (List Int)) × Unit) :=
  (filterchain_Sound a0).bind fun r3 =>
  bif (!r3.1.1) then
    some ((((), ((), ())), ((6 : Int), ())), (([] : List (List Int)), (([] : List (List Int)), ())))
  else
    bif (decide (a1 < (0 : Int))) then
      some ((((), ((), ())), ((5 : Int), ())), (([] : List (List Int)), (([] : List (List Int)), ())))
    else
      bif (decide ((((List.length a0.1) : Int)) < a1)) then
        some ((((), ((), ())), ((5 : Int), ())), (([] : List (List Int)), (([] : List (List Int)), ())))
      else
        bif (decide (0 ≤ a1) && decide (a1 ≤ ((List.length a0.1) : Int))) then
          (filterchain_grown_api_Hash (sub a0.1 (0) (Int.toNat a1)) ([] : List (List Int))).bind fun r9 =>
          bif (decide (0 ≤ a1) && decide (a1 ≤ ((List.length a0.2.1) : Int))) then
            (filterchain_grown_api_Hash (sub a0.2.1 (0) (Int.toNat a1)) ([] : List (List Int))).bind fun r11 =>
            some ((((), ((), ())), ((0 : Int), ())), (r9.2.1, (r11.2.1, ())))
          else
            none
        else
          none

/-- lightclient/filterchain.Common -/
def filterchain_Common (a0 : D_d60b) (a1 : List (List Int)) : Option ((Int × Unit) × Unit) :=
  (filterchain_Sound a0).bind fun r3 =>
  bif (!r3.1.1) then
    some (((0 : Int), ()), ())
  else
    (filterchain_Differ a0.1 a1).bind fun r5 =>
    bif (decide ((0 : Int) ≤ r5.1.1)) then
      some ((r5.1.1, ()), ())
    else
      some (((((List.length a1) : Int)), ()), ())

/-- lightclient/filterchain.Verify -/
def filterchain_Verify (a0 : D_d60b) (a1 : Int) (a2 : D_b101) : Option ((Int × Unit) × Unit) :=
  (filterchain_Sound a0).bind fun r4 =>
  bif (!r4.1.1) then
    some (((6 : Int), ()), ())
  else
    bif (decide (a1 < (0 : Int))) then
      some (((5 : Int), ()), ())
    else
      bif (decide ((((List.length a0.2.1) : Int)) ≤ a1)) then
        some (((5 : Int), ()), ())
      else
        (filter_Encode a2).bind fun r9 =>
        bif (!decide (r9.1.2.1 = (0 : Int))) then
          some ((r9.1.2.1, ()), ())
        else
          (filter_Hash a2).bind fun r11 =>
          (filterchain_before a0 a1).bind fun r12 =>
          (filter_Header r11.1.1 r12.1.1).bind fun r13 =>
          bif (inb a1 (List.length a0.2.1)) then
            bif (!(Ty.eqb (.arr 32 (.int .u8)) r13.1.1 (rd (.arr 32 (.int .u8)) a0.2.1 a1))) then
              some (((200 : Int), ()), ())
            else
              some (((0 : Int), ()), ())
          else
            none

end Go.PE
end
end

section
set_option linter.unusedVariables false
noncomputable section
namespace Go.PE

def ref07_SameHashes_L1 (c0 : List (List Int)) (c1 : List (List Int)) (c12 : Int) (v : (Int × Unit) × Unit) : Option (((Int × Unit) × Unit) ⊕ (((Bool × Unit) × Unit) ⊕ ((Unit) × Unit))) :=
  bif (decide (v.1.1 < c12)) then
    bif (inb v.1.1 (List.length c0)) then
      bif (inb v.1.1 (List.length c1)) then
        bif (!(Ty.eqb (.arr 32 (.int .u8)) (rd (.arr 32 (.int .u8)) c0 v.1.1) (rd (.arr 32 (.int .u8)) c1 v.1.1))) then
          some (.inr (.inl ((false, ()), ())))
        else
          some (.inl (((IntKind.i64.wrap (v.1.1 + (1 : Int))), ()), ()))
      else
        none
    else
      none
  else
    some (.inr (.inr ((), ())))

/-- lightclient/lightclientref07.SameHashes -/
def ref07_SameHashes (a0 : List (List Int)) (a1 : List (List Int)) : Option ((Bool × Unit) × Unit) :=
  bif (!decide ((((List.length a0) : Int)) = (((List.length a1) : Int)))) then
    some ((false, ()), ())
  else
    (loopV (ref07_SameHashes_L1 a0 a1 (((List.length a0) : Int))) (((0 : Int), ()), ())).bind fun o7 =>
    match o7 with
    | .inl o8 =>
      some ((o8.1.1, ()), ())
    | .inr o9 =>
      some ((true, ()), ())

end Go.PE
end
end

section
set_option linter.unusedVariables false
noncomputable section
namespace Go.PE

/-- lightclient/lightclientref01.joined -/
def ref01_joined (a0 : List Int) (a1 : List Int) : Option ((Unit × Unit) × (List Int) × Unit) :=
  let x5 := (IntKind.i64.wrap ((((List.length a0) : Int)) + (((List.length a1) : Int))))
  bif (decide (0 ≤ (0 : Int)) && decide ((0 : Int) ≤ x5) && decide (x5 ≤ (lim : Int))) then
    let x6 := (List.replicate (0) (0 : Int))
    bif (decide ((List.length x6) + (List.length a0) ≤ lim)) then
      let x7 := (x6 ++ a0)
      bif (decide ((List.length x7) + (List.length a1) ≤ lim)) then
        some (((), ()), ((x7 ++ a1), ()))
      else
        none
    else
      none
  else
    none

/-- lightclient/lightclientref01.AppendHash -/
def ref01_AppendHash (a0 : List Int) (a1 : List Int) : Option ((Unit × Unit) × (List Int) × Unit) :=
  (ref01_joined a0 (sub a1 (0) (32))).bind fun r3 =>
  some (((), ()), (r3.2.1, ()))

def ref01_little_L1 (c0 : Int) (c10 : Int) (v : (Unit × Int × Unit) × (List Int) × Unit) : Option (((Unit × Int × Unit) × (List Int) × Unit) ⊕ ((Unit × Unit) × (List Int) × Unit)) :=
  bif (decide (v.1.2.1 < c10)) then
    let x2002 := (IntKind.i64.wrap ((8 : Int) * v.1.2.1))
    bif (decide (x2002 < 0)) then
      none
    else
      bif (inb v.1.2.1 (List.length v.2.1)) then
        (v.2.1[(Int.toNat v.1.2.1)]?).bind fun e2005 =>
        some (.inl (((), ((IntKind.i64.wrap (v.1.2.1 + (1 : Int))), ())), ((v.2.1.set (Int.toNat v.1.2.1) (IntKind.u8.wrap ((shrI .u64 c0 x2002)))), ())))
      else
        none
  else
    some (.inr (((), ()), (v.2.1, ())))

/-- lightclient/lightclientref01.little -/
def ref01_little (a0 : Int) (a1 : Int) : Option ((Unit × Unit) × (List Int) × Unit) :=
  bif (decide (0 ≤ a1) && decide (a1 ≤ a1) && decide (a1 ≤ (lim : Int))) then
    let x3 := (List.replicate (Int.toNat a1) (0 : Int))
    (loopV (ref01_little_L1 a0 (((List.length x3) : Int))) (((), ((0 : Int), ())), (x3, ()))).bind fun o5 =>
    some (((), ()), (o5.2.1, ()))
  else
    none

/-- lightclient/lightclientref01.AppendU32 -/
def ref01_AppendU32 (a0 : List Int) (a1 : Int) : Option ((Unit × Unit) × (List Int) × Unit) :=
  (ref01_little (IntKind.u64.wrap (a1)) (4 : Int)).bind fun r4 =>
  (ref01_joined a0 r4.2.1).bind fun r5 =>
  some (((), ()), (r5.2.1, ()))

/-- lightclient/lightclientref01.Same -/
def ref01_Same (a0 : List Int) (a1 : List Int) : Option ((Bool × Unit) × Unit) :=
  some (((eqList (fun (x y : Int) => decide (x = y)) a0 a1), ()), ())

def ref01_Join_L1 (c6 : List (List Int)) (c7 : Int) (v : (Unit × Int × Unit) × (List Int) × Unit) : Option (((Unit × Int × Unit) × (List Int) × Unit) ⊕ ((Unit × Unit) × (List Int) × Unit)) :=
  bif (decide (v.1.2.1 < c7)) then
    bif (inb v.1.2.1 (List.length c6)) then
      (ref01_joined v.2.1 (rd (.slice (.int .u8)) c6 v.1.2.1)).bind fun r2003 =>
      some (.inl (((), ((IntKind.i64.wrap (v.1.2.1 + (1 : Int))), ())), (r2003.2.1, ())))
    else
      none
  else
    some (.inr (((), ()), (v.2.1, ())))

/-- lightclient/lightclientref01.Join -/
def ref01_Join (a0 : List (List Int)) : Option ((Unit × Unit) × (List Int) × Unit) :=
  (loopV (ref01_Join_L1 a0 (((List.length a0) : Int))) (((), ((0 : Int), ())), (([] : List Int), ()))).bind fun o3 =>
  some (((), ()), (o3.2.1, ()))

/-- lightclient/lightclientref01.AppendSize -/
def ref01_AppendSize (a0 : List Int) (a1 : Int) : Option ((Unit × Unit) × (List Int) × Unit) :=
  bif (decide (a1 < (253 : Int))) then
    (ref01_little a1 (1 : Int)).bind fun r4 =>
    (ref01_joined a0 r4.2.1).bind fun r5 =>
    some (((), ()), (r5.2.1, ()))
  else
    bif (decide (a1 < (65536 : Int))) then
      (ref01_little a1 (2 : Int)).bind fun r8 =>
      (ref01_joined ([(253 : Int)] : List Int) r8.2.1).bind fun r9 =>
      (ref01_joined a0 r9.2.1).bind fun r10 =>
      some (((), ()), (r10.2.1, ()))
    else
      bif (decide (a1 < (4294967296 : Int))) then
        (ref01_little a1 (4 : Int)).bind fun r13 =>
        (ref01_joined ([(254 : Int)] : List Int) r13.2.1).bind fun r14 =>
        (ref01_joined a0 r14.2.1).bind fun r15 =>
        some (((), ()), (r15.2.1, ()))
      else
        (ref01_little a1 (8 : Int)).bind fun r17 =>
        (ref01_joined ([(255 : Int)] : List Int) r17.2.1).bind fun r18 =>
        (ref01_joined a0 r18.2.1).bind fun r19 =>
        some (((), ()), (r19.2.1, ()))

/-- lightclient/lightclientref01.AppendBytes -/
def ref01_AppendBytes (a0 : List Int) (a1 : List Int) : Option ((Unit × Unit) × (List Int) × Unit) :=
  (ref01_AppendSize a0 (IntKind.u64.wrap ((((List.length a1) : Int))))).bind fun r5 =>
  (ref01_joined r5.2.1 a1).bind fun r6 =>
  some (((), ()), (r6.2.1, ()))

end Go.PE
end
end

section
set_option linter.unusedVariables false
noncomputable section
namespace Go.PE

def ref03_Pad_L1 (c0 : Int) (v : (Unit × Unit) × (List Int) × Unit) : Option (((Unit × Unit) × (List Int) × Unit) ⊕ ((Unit × Unit) × (List Int) × Unit)) :=
  bif (!decide ((Int.tmod (IntKind.u64.wrap ((IntKind.u64.wrap (c0 + (IntKind.u64.wrap ((((List.length v.2.1) : Int)))))) + (8 : Int))) (64 : Int)) = (0 : Int))) then
    let x2007 := ([(0 : Int)] : List Int)
    bif (decide ((List.length v.2.1) + (List.length x2007) ≤ lim)) then
      some (.inl (((), ()), ((v.2.1 ++ x2007), ())))
    else
      none
  else
    some (.inr (((), ()), (v.2.1, ())))

def ref03_Pad_L2 (c0 : Int) (v : (Unit × Int × Unit) × (List Int) × Unit) : Option (((Unit × Int × Unit) × (List Int) × Unit) ⊕ ((Unit × Unit) × (List Int) × Unit)) :=
  bif (decide ((0 : Int) ≤ v.1.2.1)) then
    let x3003 := (IntKind.i64.wrap ((8 : Int) * v.1.2.1))
    bif (decide (x3003 < 0)) then
      none
    else
      let x3006 := ([(IntKind.u8.wrap ((shrI .u64 (IntKind.u64.wrap ((8 : Int) * c0)) x3003)))] : List Int)
      bif (decide ((List.length v.2.1) + (List.length x3006) ≤ lim)) then
        some (.inl (((), ((IntKind.i64.wrap (v.1.2.1 - (1 : Int))), ())), ((v.2.1 ++ x3006), ())))
      else
        none
  else
    some (.inr (((), ()), (v.2.1, ())))

/-- lightclient/lightclientref03.Pad -/
def ref03_Pad (a0 : Int) : Option ((Unit × Unit) × (List Int) × Unit) :=
  (loopV (ref03_Pad_L1 a0) (((), ()), (([(128 : Int)] : List Int), ()))).bind fun o3 =>
  (loopV (ref03_Pad_L2 a0) (((), ((7 : Int), ())), (o3.2.1, ()))).bind fun o4 =>
  some (((), ()), (o4.2.1, ()))

/-- lightclient/lightclientref03.Initial -/
def ref03_Initial : Option (((List Int) × Unit) × Unit) :=
  ((List.replicate 8 (0 : Int))[(0)]?).bind fun e1 =>
  (((List.replicate 8 (0 : Int)).set (0) (1779033703 : Int))[(1)]?).bind fun e2 =>
  ((((List.replicate 8 (0 : Int)).set (0) (1779033703 : Int)).set (1) (3144134277 : Int))[(2)]?).bind fun e3 =>
  (((((List.replicate 8 (0 : Int)).set (0) (1779033703 : Int)).set (1) (3144134277 : Int)).set (2) (1013904242 : Int))[(3)]?).bind fun e4 =>
  ((((((List.replicate 8 (0 : Int)).set (0) (1779033703 : Int)).set (1) (3144134277 : Int)).set (2) (1013904242 : Int)).set (3) (2773480762 : Int))[(4)]?).bind fun e5 =>
  (((((((List.replicate 8 (0 : Int)).set (0) (1779033703 : Int)).set (1) (3144134277 : Int)).set (2) (1013904242 : Int)).set (3) (2773480762 : Int)).set (4) (1359893119 : Int))[(5)]?).bind fun e6 =>
  ((((((((List.replicate 8 (0 : Int)).set (0) (1779033703 : Int)).set (1) (3144134277 : Int)).set (2) (1013904242 : Int)).set (3) (2773480762 : Int)).set (4) (1359893119 : Int)).set (5) (2600822924 : Int))[(6)]?).bind fun e7 =>
  (((((((((List.replicate 8 (0 : Int)).set (0) (1779033703 : Int)).set (1) (3144134277 : Int)).set (2) (1013904242 : Int)).set (3) (2773480762 : Int)).set (4) (1359893119 : Int)).set (5) (2600822924 : Int)).set (6) (528734635 : Int))[(7)]?).bind fun e8 =>
  some (((((((((((List.replicate 8 (0 : Int)).set (0) (1779033703 : Int)).set (1) (3144134277 : Int)).set (2) (1013904242 : Int)).set (3) (2773480762 : Int)).set (4) (1359893119 : Int)).set (5) (2600822924 : Int)).set (6) (528734635 : Int)).set (7) (1541459225 : Int)), ()), ())

/-- lightclient/lightclientref03.rotr -/
def ref03_rotr (a0 : Int) (a1 : Int) : Option ((Int × Unit) × Unit) :=
  (math_bits_RotateLeft32 a0 (IntKind.i64.wrap (-a1))).bind fun r4 =>
  some ((r4.1.1, ()), ())

def ref03_schedule_L1 (v : (Unit × Unit × Unit × Int × Unit) × (List Int) × (List Int) × (List Int) × Unit) : Option (((Unit × Unit × Unit × Int × Unit) × (List Int) × (List Int) × (List Int) × Unit) ⊕ ((Unit × Unit × Unit) × (List Int) × (List Int) × Unit)) :=
  bif (decide (v.1.2.2.2.1 < (16 : Int))) then
    let x2002 := (IntKind.i64.wrap ((4 : Int) * v.1.2.2.2.1))
    bif (inb x2002 (64)) then
      (v.2.1[(Int.toNat x2002)]?).bind fun e2003 =>
      let x2007 := (IntKind.i64.wrap ((IntKind.i64.wrap ((4 : Int) * v.1.2.2.2.1)) + (1 : Int)))
      bif (inb x2007 (64)) then
        (v.2.1[(Int.toNat x2007)]?).bind fun e2008 =>
        let x2013 := (IntKind.i64.wrap ((IntKind.i64.wrap ((4 : Int) * v.1.2.2.2.1)) + (2 : Int)))
        bif (inb x2013 (64)) then
          (v.2.1[(Int.toNat x2013)]?).bind fun e2014 =>
          let x2019 := (IntKind.i64.wrap ((IntKind.i64.wrap ((4 : Int) * v.1.2.2.2.1)) + (3 : Int)))
          bif (inb x2019 (64)) then
            (v.2.1[(Int.toNat x2019)]?).bind fun e2020 =>
            bif (inb v.1.2.2.2.1 (64)) then
              (v.2.2.2.1[(Int.toNat v.1.2.2.2.1)]?).bind fun e2023 =>
              some (.inl (((), ((), ((), ((IntKind.i64.wrap (v.1.2.2.2.1 + (1 : Int))), ())))), (v.2.1, (v.2.2.1, ((v.2.2.2.1.set (Int.toNat v.1.2.2.2.1) (bitI .or .u32 (bitI .or .u32 (bitI .or .u32 (shlI .u32 (IntKind.u32.wrap (e2003)) (24 : Int)) (shlI .u32 (IntKind.u32.wrap (e2008)) (16 : Int))) (shlI .u32 (IntKind.u32.wrap (e2014)) (8 : Int))) (IntKind.u32.wrap (e2020)))), ())))))
            else
              none
          else
            none
        else
          none
      else
        none
    else
      none
  else
    some (.inr (((), ((), ())), (v.2.2.1, (v.2.2.2.1, ()))))

def ref03_schedule_L2 (v : (Unit × Unit × Int × Unit) × (List Int) × (List Int) × Unit) : Option (((Unit × Unit × Int × Unit) × (List Int) × (List Int) × Unit) ⊕ ((Unit × Unit × Unit) × (List Int) × (List Int) × Unit)) :=
  bif (decide (v.1.2.2.1 < (64 : Int))) then
    let x3002 := (IntKind.i64.wrap (v.1.2.2.1 - (15 : Int)))
    bif (inb x3002 (64)) then
      (v.2.2.1[(Int.toNat x3002)]?).bind fun e3003 =>
      (ref03_rotr e3003 (7 : Int)).bind fun r3004 =>
      let x3005 := (IntKind.i64.wrap (v.1.2.2.1 - (15 : Int)))
      bif (inb x3005 (64)) then
        (v.2.2.1[(Int.toNat x3005)]?).bind fun e3006 =>
        (ref03_rotr e3006 (18 : Int)).bind fun r3007 =>
        let x3009 := (IntKind.i64.wrap (v.1.2.2.1 - (15 : Int)))
        bif (inb x3009 (64)) then
          (v.2.2.1[(Int.toNat x3009)]?).bind fun e3010 =>
          let x3013 := (IntKind.i64.wrap (v.1.2.2.1 - (2 : Int)))
          bif (inb x3013 (64)) then
            (v.2.2.1[(Int.toNat x3013)]?).bind fun e3014 =>
            (ref03_rotr e3014 (17 : Int)).bind fun r3015 =>
            let x3016 := (IntKind.i64.wrap (v.1.2.2.1 - (2 : Int)))
            bif (inb x3016 (64)) then
              (v.2.2.1[(Int.toNat x3016)]?).bind fun e3017 =>
              (ref03_rotr e3017 (19 : Int)).bind fun r3018 =>
              let x3020 := (IntKind.i64.wrap (v.1.2.2.1 - (2 : Int)))
              bif (inb x3020 (64)) then
                (v.2.2.1[(Int.toNat x3020)]?).bind fun e3021 =>
                let x3024 := (IntKind.i64.wrap (v.1.2.2.1 - (16 : Int)))
                bif (inb x3024 (64)) then
                  (v.2.2.1[(Int.toNat x3024)]?).bind fun e3025 =>
                  let x3027 := (IntKind.i64.wrap (v.1.2.2.1 - (7 : Int)))
                  bif (inb x3027 (64)) then
                    (v.2.2.1[(Int.toNat x3027)]?).bind fun e3028 =>
                    bif (inb v.1.2.2.1 (64)) then
                      (v.2.2.1[(Int.toNat v.1.2.2.1)]?).bind fun e3031 =>
                      some (.inl (((), ((), ((IntKind.i64.wrap (v.1.2.2.1 + (1 : Int))), ()))), (v.2.1, ((v.2.2.1.set (Int.toNat v.1.2.2.1) (IntKind.u32.wrap ((IntKind.u32.wrap ((IntKind.u32.wrap (e3025 + (bitI .xor .u32 (bitI .xor .u32 r3004.1.1 r3007.1.1) (shrI .u32 e3010 (3 : Int))))) + e3028)) + (bitI .xor .u32 (bitI .xor .u32 r3015.1.1 r3018.1.1) (shrI .u32 e3021 (10 : Int)))))), ()))))
                    else
                      none
                  else
                    none
                else
                  none
              else
                none
            else
              none
          else
            none
        else
          none
      else
        none
    else
      none
  else
    some (.inr (((), ((), ())), (v.2.1, (v.2.2.1, ()))))

/-- lightclient/lightclientref03.schedule -/
def ref03_schedule (a0 : List Int) : Option (((List Int) × Unit) × Unit) :=
  (loopV (ref03_schedule_L1) (((), ((), ((), ((0 : Int), ())))), (a0, ((List.replicate 64 (0 : Int)), ((List.replicate 64 (0 : Int)), ()))))).bind fun o2 =>
  (loopV (ref03_schedule_L2) (((), ((), ((16 : Int), ()))), (o2.2.1, (o2.2.2.1, ())))).bind fun o3 =>
  some ((o3.2.2.1, ()), ())

/-- lightclient/lightclientref03.constants -/
def ref03_constants : Option (((List Int) × Unit) × Unit) :=
  ((List.replicate 64 (0 : Int))[(0)]?).bind fun e1 =>
  (((List.replicate 64 (0 : Int)).set (0) (1116352408 : Int))[(1)]?).bind fun e2 =>
  ((((List.replicate 64 (0 : Int)).set (0) (1116352408 : Int)).set (1) (1899447441 : Int))[(2)]?).bind fun e3 =>
  (((((List.replicate 64 (0 : Int)).set (0) (1116352408 : Int)).set (1) (1899447441 : Int)).set (2) (3049323471 : Int))[(3)]?).bind fun e4 =>
  ((((((List.replicate 64 (0 : Int)).set (0) (1116352408 : Int)).set (1) (1899447441 : Int)).set (2) (3049323471 : Int)).set (3) (3921009573 : Int))[(4)]?).bind fun e5 =>
  (((((((List.replicate 64 (0 : Int)).set (0) (1116352408 : Int)).set (1) (1899447441 : Int)).set (2) (3049323471 : Int)).set (3) (3921009573 : Int)).set (4) (961987163 : Int))[(5)]?).bind fun e6 =>
  ((((((((List.replicate 64 (0 : Int)).set (0) (1116352408 : Int)).set (1) (1899447441 : Int)).set (2) (3049323471 : Int)).set (3) (3921009573 : Int)).set (4) (961987163 : Int)).set (5) (1508970993 : Int))[(6)]?).bind fun e7 =>
  (((((((((List.replicate 64 (0 : Int)).set (0) (1116352408 : Int)).set (1) (1899447441 : Int)).set (2) (3049323471 : Int)).set (3) (3921009573 : Int)).set (4) (961987163 : Int)).set (5) (1508970993 : Int)).set (6) (2453635748 : Int))[(7)]?).bind fun e8 =>
  ((((((((((List.replicate 64 (0 : Int)).set (0) (1116352408 : Int)).set (1) (1899447441 : Int)).set (2) (3049323471 : Int)).set (3) (3921009573 : Int)).set (4) (961987163 : Int)).set (5) (1508970993 : Int)).set (6) (2453635748 : Int)).set (7) (2870763221 : Int))[(8)]?).bind fun e9 =>
  (((((((((((List.replicate 64 (0 : Int)).set (0) (1116352408 : Int)).set (1) (1899447441 : Int)).set (2) (3049323471 : Int)).set (3) (3921009573 : Int)).set (4) (961987163 : Int)).set (5) (1508970993 : Int)).set (6) (2453635748 : Int)).set (7) (2870763221 : Int)).set (8) (3624381080 : Int))[(9)]?).bind fun e10 =>
  ((((((((((((List.replicate 64 (0 : Int)).set (0) (1116352408 : Int)).set (1) (1899447441 : Int)).set (2) (3049323471 : Int)).set (3) (3921009573 : Int)).set (4) (961987163 : Int)).set (5) (1508970993 : Int)).set (6) (2453635748 : Int)).set (7) (2870763221 : Int)).set (8) (3624381080 : Int)).set (9) (310598401 : Int))[(10)]?).bind fun e11 =>
  (((((((((((((List.replicate 64 (0 : Int)).set (0) (1116352408 : Int)).set (1) (1899447441 : Int)).set (2) (3049323471 : Int)).set (3) (3921009573 : Int)).set (4) (961987163 : Int)).set (5) (1508970993 : Int)).set (6) (2453635748 : Int)).set (7) (2870763221 : Int)).set (8) (3624381080 : Int)).set (9) (310598401 : Int)).set (10) (607225278 : Int))[(11)]?).bind fun e12 =>
  ((((((((((((((List.replicate 64 (0 : Int)).set (0) (1116352408 : Int)).set (1) (1899447441 : Int)).set (2) (3049323471 : Int)).set (3) (3921009573 : Int)).set (4) (961987163 : Int)).set (5) (1508970993 : Int)).set (6) (2453635748 : Int)).set (7) (2870763221 : Int)).set (8) (3624381080 : Int)).set (9) (310598401 : Int)).set (10) (607225278 : Int)).set (11) (1426881987 : Int))[(12)]?).bind fun e13 =>
  (((((((((((((((List.replicate 64 (0 : Int)).set (0) (1116352408 : Int)).set (1) (1899447441 : Int)).set (2) (3049323471 : Int)).set (3) (3921009573 : Int)).set (4) (961987163 : Int)).set (5) (1508970993 : Int)).set (6) (2453635748 : Int)).set (7) (2870763221 : Int)).set (8) (3624381080 : Int)).set (9) (310598401 : Int)).set (10) (607225278 : Int)).set (11) (1426881987 : Int)).set (12) (1925078388 : Int))[(13)]?).bind fun e14 =>
  ((((((((((((((((List.replicate 64 (0 : Int)).set (0) (1116352408 : Int)).set (1) (1899447441 : Int)).set (2) (3049323471 : Int)).set (3) (3921009573 : Int)).set (4) (961987163 : Int)).set (5) (1508970993 : Int)).set (6) (2453635748 : Int)).set (7) (2870763221 : Int)).set (8) (3624381080 : Int)).set (9) (310598401 : Int)).set (10) (607225278 : Int)).set (11) (1426881987 : Int)).set (12) (1925078388 : Int)).set (13) (2162078206 : Int))[(14)]?).bind fun e15 =>
  (((((((((((((((((List.replicate 64 (0 : Int)).set (0) (1116352408 : Int)).set (1) (1899447441 : Int)).set (2) (3049323471 : Int)).set (3) (3921009573 : Int)).set (4) (961987163 : Int)).set (5) (1508970993 : Int)).set (6) (2453635748 : Int)).set (7) (2870763221 : Int)).set (8) (3624381080 : Int)).set (9) (310598401 : Int)).set (10) (607225278 : Int)).set (11) (1426881987 : Int)).set (12) (1925078388 : Int)).set (13) (2162078206 : Int)).set (14) (2614888103 : Int))[(15)]?).bind fun e16 =>
  ((((((((((((((((((List.replicate 64 (0 : Int)).set (0) (1116352408 : Int)).set (1) (1899447441 : Int)).set (2) (3049323471 : Int)).set (3) (3921009573 : Int)).set (4) (961987163 : Int)).set (5) (1508970993 : Int)).set (6) (2453635748 : Int)).set (7) (2870763221 : Int)).set (8) (3624381080 : Int)).set (9) (310598401 : Int)).set (10) (607225278 : Int)).set (11) (1426881987 : Int)).set (12) (1925078388 : Int)).set (13) (2162078206 : Int)).set (14) (2614888103 : Int)).set (15) (3248222580 : Int))[(16)]?).bind fun e17 =>
  (((((((((((((((((((List.replicate 64 (0 : Int)).set (0) (1116352408 : Int)).set (1) (1899447441 : Int)).set (2) (3049323471 : Int)).set (3) (3921009573 : Int)).set (4) (961987163 : Int)).set (5) (1508970993 : Int)).set (6) (2453635748 : Int)).set (7) (2870763221 : Int)).set (8) (3624381080 : Int)).set (9) (310598401 : Int)).set (10) (607225278 : Int)).set (11) (1426881987 : Int)).set (12) (1925078388 : Int)).set (13) (2162078206 : Int)).set (14) (2614888103 : Int)).set (15) (3248222580 : Int)).set (16) (3835390401 : Int))[(17)]?).bind fun e18 =>
  ((((((((((((((((((((List.replicate 64 (0 : Int)).set (0) (1116352408 : Int)).set (1) (1899447441 : Int)).set (2) (3049323471 : Int)).set (3) (3921009573 : Int)).set (4) (961987163 : Int)).set (5) (1508970993 : Int)).set (6) (2453635748 : Int)).set (7) (2870763221 : Int)).set (8) (3624381080 : Int)).set (9) (310598401 : Int)).set (10) (607225278 : Int)).set (11) (1426881987 : Int)).set (12) (1925078388 : Int)).set (13) (2162078206 : Int)).set (14) (2614888103 : Int)).set (15) (3248222580 : Int)).set (16) (3835390401 : Int)).set (17) (4022224774 : Int))[(18)]?).bind fun e19 =>
  (((((((((((((((((((((List.replicate 64 (0 : Int)).set (0) (1116352408 : Int)).set (1) (1899447441 : Int)).set (2) (3049323471 : Int)).set (3) (3921009573 : Int)).set (4) (961987163 : Int)).set (5) (1508970993 : Int)).set (6) (2453635748 : Int)).set (7) (2870763221 : Int)).set (8) (3624381080 : Int)).set (9) (310598401 : Int)).set (10) (607225278 : Int)).set (11) (1426881987 : Int)).set (12) (1925078388 : Int)).set (13) (2162078206 : Int)).set (14) (2614888103 : Int)).set (15) (3248222580 : Int)).set (16) (3835390401 : Int)).set (17) (4022224774 : Int)).set (18) (264347078 : Int))[(19)]?).bind fun e20 =>
  ((((((((((((((((((((((List.replicate 64 (0 : Int)).set (0) (1116352408 : Int)).set (1) (1899447441 : Int)).set (2) (3049323471 : Int)).set (3) (3921009573 : Int)).set (4) (961987163 : Int)).set (5) (1508970993 : Int)).set (6) (2453635748 : Int)).set (7) (2870763221 : Int)).set (8) (3624381080 : Int)).set (9) (310598401 : Int)).set (10) (607225278 : Int)).set (11) (1426881987 : Int)).set (12) (1925078388 : Int)).set (13) (2162078206 : Int)).set (14) (2614888103 : Int)).set (15) (3248222580 : Int)).set (16) (3835390401 : Int)).set (17) (4022224774 : Int)).set (18) (264347078 : Int)).set (19) (604807628 : Int))[(20)]?).bind fun e21 =>
  (((((((((((((((((((((((List.replicate 64 (0 : Int)).set (0) (1116352408 : Int)).set (1) (1899447441 : Int)).set (2) (3049323471 : Int)).set (3) (3921009573 : Int)).set (4) (961987163 : Int)).set (5) (1508970993 : Int)).set (6) (2453635748 : Int)).set (7) (2870763221 : Int)).set (8) (3624381080 : Int)).set (9) (310598401 : Int)).set (10) (607225278 : Int)).set (11) (1426881987 : Int)).set (12) (1925078388 : Int)).set (13) (2162078206 : Int)).set (14) (2614888103 : Int)).set (15) (3248222580 : Int)).set (16) (3835390401 : Int)).set (17) (4022224774 : Int)).set (18) (264347078 : Int)).set (19) (604807628 : Int)).set (20) (770255983 : Int))[(21)]?).bind fun e22 =>
  ((((((((((((((((((((((((List.replicate 64 (0 : Int)).set (0) (1116352408 : Int)).set (1) (1899447441 : Int)).set (2) (3049323471 : Int)).set (3) (3921009573 : Int)).set (4) (961987163 : Int)).set (5) (1508970993 : Int)).set (6) (2453635748 : Int)).set (7) (2870763221 : Int)).set (8) (3624381080 : Int)).set (9) (310598401 : Int)).set (10) (607225278 : Int)).set (11) (1426881987 : Int)).set (12) (1925078388 : Int)).set (13) (2162078206 : Int)).set (14) (2614888103 : Int)).set (15) (3248222580 : Int)).set (16) (3835390401 : Int)).set (17) (4022224774 : Int)).set (18) (264347078 : Int)).set (19) (604807628 : Int)).set (20) (770255983 : Int)).set (21) (1249150122 : Int))[(22)]?).bind fun e23 =>
  (((((((((((((((((((((((((List.replicate 64 (0 : Int)).set (0) (1116352408 : Int)).set (1) (1899447441 : Int)).set (2) (3049323471 : Int)).set (3) (3921009573 : Int)).set (4) (961987163 : Int)).set (5) (1508970993 : Int)).set (6) (2453635748 : Int)).set (7) (2870763221 : Int)).set (8) (3624381080 : Int)).set (9) (310598401 : Int)).set (10) (607225278 : Int)).set (11) (1426881987 : Int)).set (12) (1925078388 : Int)).set (13) (2162078206 : Int)).set (14) (2614888103 : Int)).set (15) (3248222580 : Int)).set (16) (3835390401 : Int)).set (17) (4022224774 : Int)).set (18) (264347078 : Int)).set (19) (604807628 : Int)).set (20) (770255983 : Int)).set (21) (1249150122 : Int)).set (22) (1555081692 : Int))[(23)]?).bind fun e24 =>
  ((((((((((((((((((((((((((List.replicate 64 (0 : Int)).set (0) (1116352408 : Int)).set (1) (1899447441 : Int)).set (2) (3049323471 : Int)).set (3) (3921009573 : Int)).set (4) (961987163 : Int)).set (5) (1508970993 : Int)).set (6) (2453635748 : Int)).set (7) (2870763221 : Int)).set (8) (3624381080 : Int)).set (9) (310598401 : Int)).set (10) (607225278 : Int)).set (11) (1426881987 : Int)).set (12) (1925078388 : Int)).set (13) (2162078206 : Int)).set (14) (2614888103 : Int)).set (15) (3248222580 : Int)).set (16) (3835390401 : Int)).set (17) (4022224774 : Int)).set (18) (264347078 : Int)).set (19) (604807628 : Int)).set (20) (770255983 : Int)).set (21) (1249150122 : Int)).set (22) (1555081692 : Int)).set (23) (1996064986 : Int))[(24)]?).bind fun e25 =>
  (((((((((((((((((((((((((((List.replicate 64 (0 : Int)).set (0) (1116352408 : Int)).set (1) (1899447441 : Int)).set (2) (3049323471 : Int)).set (3) (3921009573 : Int)).set (4) (961987163 : Int)).set (5) (1508970993 : Int)).set (6) (2453635748 : Int)).set (7) (2870763221 : Int)).set (8) (3624381080 : Int)).set (9) (310598401 : Int)).set (10) (607225278 : Int)).set (11) (1426881987 : Int)).set (12) (1925078388 : Int)).set (13) (2162078206 : Int)).set (14) (2614888103 : Int)).set (15) (3248222580 : Int)).set (16) (3835390401 : Int)).set (17) (4022224774 : Int)).set (18) (264347078 : Int)).set (19) (604807628 : Int)).set (20) (770255983 : Int)).set (21) (1249150122 : Int)).set (22) (1555081692 : Int)).set (23) (1996064986 : Int)).set (24) (2554220882 : Int))[(25)]?).bind fun e26 =>
  ((((((((((((((((((((((((((((List.replicate 64 (0 : Int)).set (0) (1116352408 : Int)).set (1) (1899447441 : Int)).set (2) (3049323471 : Int)).set (3) (3921009573 : Int)).set (4) (961987163 : Int)).set (5) (1508970993 : Int)).set (6) (2453635748 : Int)).set (7) (2870763221 : Int)).set (8) (3624381080 : Int)).set (9) (310598401 : Int)).set (10) (607225278 : Int)).set (11) (1426881987 : Int)).set (12) (1925078388 : Int)).set (13) (2162078206 : Int)).set (14) (2614888103 : Int)).set (15) (3248222580 : Int)).set (16) (3835390401 : Int)).set (17) (4022224774 : Int)).set (18) (264347078 : Int)).set (19) (604807628 : Int)).set (20) (770255983 : Int)).set (21) (1249150122 : Int)).set (22) (1555081692 : Int)).set (23) (1996064986 : Int)).set (24) (2554220882 : Int)).set (25) (2821834349 : Int))[(26)]?).bind fun e27 =>
  (((((((((((((((((((((((((((((List.replicate 64 (0 : Int)).set (0) (1116352408 : Int)).set (1) (1899447441 : Int)).set (2) (3049323471 : Int)).set (3) (3921009573 : Int)).set (4) (961987163 : Int)).set (5) (1508970993 : Int)).set (6) (2453635748 : Int)).set (7) (2870763221 : Int)).set (8) (3624381080 : Int)).set (9) (310598401 : Int)).set (10) (607225278 : Int)).set (11) (1426881987 : Int)).set (12) (1925078388 : Int)).set (13) (2162078206 : Int)).set (14) (2614888103 : Int)).set (15) (3248222580 : Int)).set (16) (3835390401 : Int)).set (17) (4022224774 : Int)).set (18) (264347078 : Int)).set (19) (604807628 : Int)).set (20) (770255983 : Int)).set (21) (1249150122 : Int)).set (22) (1555081692 : Int)).set (23) (1996064986 : Int)).set (24) (2554220882 : Int)).set (25) (2821834349 : Int)).set (26) (2952996808 : Int))[(27)]?).bind fun e28 =>
  ((((((((((((((((((((((((((((((List.replicate 64 (0 : Int)).set (0) (1116352408 : Int)).set (1) (1899447441 : Int)).set (2) (3049323471 : Int)).set (3) (3921009573 : Int)).set (4) (961987163 : Int)).set (5) (1508970993 : Int)).set (6) (2453635748 : Int)).set (7) (2870763221 : Int)).set (8) (3624381080 : Int)).set (9) (310598401 : Int)).set (10) (607225278 : Int)).set (11) (1426881987 : Int)).set (12) (1925078388 : Int)).set (13) (2162078206 : Int)).set (14) (2614888103 : Int)).set (15) (3248222580 : Int)).set (16) (3835390401 : Int)).set (17) (4022224774 : Int)).set (18) (264347078 : Int)).set (19) (604807628 : Int)).set (20) (770255983 : Int)).set (21) (1249150122 : Int)).set (22) (1555081692 : Int)).set (23) (1996064986 : Int)).set (24) (2554220882 : Int)).set (25) (2821834349 : Int)).set (26) (2952996808 : Int)).set (27) (3210313671 : Int))[(28)]?).bind fun e29 =>
  (((((((((((((((((((((((((((((((List.replicate 64 (0 : Int)).set (0) (1116352408 : Int)).set (1) (1899447441 : Int)).set (2) (3049323471 : Int)).set (3) (3921009573 : Int)).set (4) (961987163 : Int)).set (5) (1508970993 : Int)).set (6) (2453635748 : Int)).set (7) (2870763221 : Int)).set (8) (3624381080 : Int)).set (9) (310598401 : Int)).set (10) (607225278 : Int)).set (11) (1426881987 : Int)).set (12) (1925078388 : Int)).set (13) (2162078206 : Int)).set (14) (2614888103 : Int)).set (15) (3248222580 : Int)).set (16) (3835390401 : Int)).set (17) (4022224774 : Int)).set (18) (264347078 : Int)).set (19) (604807628 : Int)).set (20) (770255983 : Int)).set (21) (1249150122 : Int)).set (22) (1555081692 : Int)).set (23) (1996064986 : Int)).set (24) (2554220882 : Int)).set (25) (2821834349 : Int)).set (26) (2952996808 : Int)).set (27) (3210313671 : Int)).set (28) (3336571891 : Int))[(29)]?).bind fun e30 =>
  ((((((((((((((((((((((((((((((((List.replicate 64 (0 : Int)).set (0) (1116352408 : Int)).set (1) (1899447441 : Int)).set (2) (3049323471 : Int)).set (3) (3921009573 : Int)).set (4) (961987163 : Int)).set (5) (1508970993 : Int)).set (6) (2453635748 : Int)).set (7) (2870763221 : Int)).set (8) (3624381080 : Int)).set (9) (310598401 : Int)).set (10) (607225278 : Int)).set (11) (1426881987 : Int)).set (12) (1925078388 : Int)).set (13) (2162078206 : Int)).set (14) (2614888103 : Int)).set (15) (3248222580 : Int)).set (16) (3835390401 : Int)).set (17) (4022224774 : Int)).set (18) (264347078 : Int)).set (19) (604807628 : Int)).set (20) (770255983 : Int)).set (21) (1249150122 : Int)).set (22) (1555081692 : Int)).set (23) (1996064986 : Int)).set (24) (2554220882 : Int)).set (25) (2821834349 : Int)).set (26) (2952996808 : Int)).set (27) (3210313671 : Int)).set (28) (3336571891 : Int)).set (29) (3584528711 : Int))[(30)]?).bind fun e31 =>
  (((((((((((((((((((((((((((((((((List.replicate 64 (0 : Int)).set (0) (1116352408 : Int)).set (1) (1899447441 : Int)).set (2) (3049323471 : Int)).set (3) (3921009573 : Int)).set (4) (961987163 : Int)).set (5) (1508970993 : Int)).set (6) (2453635748 : Int)).set (7) (2870763221 : Int)).set (8) (3624381080 : Int)).set (9) (310598401 : Int)).set (10) (607225278 : Int)).set (11) (1426881987 : Int)).set (12) (1925078388 : Int)).set (13) (2162078206 : Int)).set (14) (2614888103 : Int)).set (15) (3248222580 : Int)).set (16) (3835390401 : Int)).set (17) (4022224774 : Int)).set (18) (264347078 : Int)).set (19) (604807628 : Int)).set (20) (770255983 : Int)).set (21) (1249150122 : Int)).set (22) (1555081692 : Int)).set (23) (1996064986 : Int)).set (24) (2554220882 : Int)).set (25) (2821834349 : Int)).set (26) (2952996808 : Int)).set (27) (3210313671 : Int)).set (28) (3336571891 : Int)).set (29) (3584528711 : Int)).set (30) (113926993 : Int))[(31)]?).bind fun e32 =>
  ((((((((((((((((((((((((((((((((((List.replicate 64 (0 : Int)).set (0) (1116352408 : Int)).set (1) (1899447441 : Int)).set (2) (3049323471 : Int)).set (3) (3921009573 : Int)).set (4) (961987163 : Int)).set (5) (1508970993 : Int)).set (6) (2453635748 : Int)).set (7) (2870763221 : Int)).set (8) (3624381080 : Int)).set (9) (310598401 : Int)).set (10) (607225278 : Int)).set (11) (1426881987 : Int)).set (12) (1925078388 : Int)).set (13) (2162078206 : Int)).set (14) (2614888103 : Int)).set (15) (3248222580 : Int)).set (16) (3835390401 : Int)).set (17) (4022224774 : Int)).set (18) (264347078 : Int)).set (19) (604807628 : Int)).set (20) (770255983 : Int)).set (21) (1249150122 : Int)).set (22) (1555081692 : Int)).set (23) (1996064986 : Int)).set (24) (2554220882 : Int)).set (25) (2821834349 : Int)).set (26) (2952996808 : Int)).set (27) (3210313671 : Int)).set (28) (3336571891 : Int)).set (29) (3584528711 : Int)).set (30) (113926993 : Int)).set (31) (338241895 : Int))[(32)]?).bind fun e33 =>
  (((((((((((((((((((((((((((((((((((List.replicate 64 (0 : Int)).set (0) (1116352408 : Int)).set (1) (1899447441 : Int)).set (2) (3049323471 : Int)).set (3) (3921009573 : Int)).set (4) (961987163 : Int)).set (5) (1508970993 : Int)).set (6) (2453635748 : Int)).set (7) (2870763221 : Int)).set (8) (3624381080 : Int)).set (9) (310598401 : Int)).set (10) (607225278 : Int)).set (11) (1426881987 : Int)).set (12) (1925078388 : Int)).set (13) (2162078206 : Int)).set (14) (2614888103 : Int)).set (15) (3248222580 : Int)).set (16) (3835390401 : Int)).set (17) (4022224774 : Int)).set (18) (264347078 : Int)).set (19) (604807628 : Int)).set (20) (770255983 : Int)).set (21) (1249150122 : Int)).set (22) (1555081692 : Int)).set (23) (1996064986 : Int)).set (24) (2554220882 : Int)).set (25) (2821834349 : Int)).set (26) (2952996808 : Int)).set (27) (3210313671 : Int)).set (28) (3336571891 : Int)).set (29) (3584528711 : Int)).set (30) (113926993 : Int)).set (31) (338241895 : Int)).set (32) (666307205 : Int))[(33)]?).bind fun e34 =>
  ((((((((((((((((((((((((((((((((((((List.replicate 64 (0 : Int)).set (0) (1116352408 : Int)).set (1) (1899447441 : Int)).set (2) (3049323471 : Int)).set (3) (3921009573 : Int)).set (4) (961987163 : Int)).set (5) (1508970993 : Int)).set (6) (2453635748 : Int)).set (7) (2870763221 : Int)).set (8) (3624381080 : Int)).set (9) (310598401 : Int)).set (10) (607225278 : Int)).set (11) (1426881987 : Int)).set (12) (1925078388 : Int)).set (13) (2162078206 : Int)).set (14) (2614888103 : Int)).set (15) (3248222580 : Int)).set (16) (3835390401 : Int)).set (17) (4022224774 : Int)).set (18) (264347078 : Int)).set (19) (604807628 : Int)).set (20) (770255983 : Int)).set (21) (1249150122 : Int)).set (22) (1555081692 : Int)).set (23) (1996064986 : Int)).set (24) (2554220882 : Int)).set (25) (2821834349 : Int)).set (26) (2952996808 : Int)).set (27) (3210313671 : Int)).set (28) (3336571891 : Int)).set (29) (3584528711 : Int)).set (30) (113926993 : Int)).set (31) (338241895 : Int)).set (32) (666307205 : Int)).set (33) (773529912 : Int))[(34)]?).bind fun e35 =>
  (((((((((((((((((((((((((((((((((((((List.replicate 64 (0 : Int)).set (0) (1116352408 : Int)).set (1) (1899447441 : Int)).set (2) (3049323471 : Int)).set (3) (3921009573 : Int)).set (4) (961987163 : Int)).set (5) (1508970993 : Int)).set (6) (2453635748 : Int)).set (7) (2870763221 : Int)).set (8) (3624381080 : Int)).set (9) (310598401 : Int)).set (10) (607225278 : Int)).set (11) (1426881987 : Int)).set (12) (1925078388 : Int)).set (13) (2162078206 : Int)).set (14) (2614888103 : Int)).set (15) (3248222580 : Int)).set (16) (3835390401 : Int)).set (17) (4022224774 : Int)).set (18) (264347078 : Int)).set (19) (604807628 : Int)).set (20) (770255983 : Int)).set (21) (1249150122 : Int)).set (22) (1555081692 : Int)).set (23) (1996064986 : Int)).set (24) (2554220882 : Int)).set (25) (2821834349 : Int)).set (26) (2952996808 : Int)).set (27) (3210313671 : Int)).set (28) (3336571891 : Int)).set (29) (3584528711 : Int)).set (30) (113926993 : Int)).set (31) (338241895 : Int)).set (32) (666307205 : Int)).set (33) (773529912 : Int)).set (34) (1294757372 : Int))[(35)]?).bind fun e36 =>
  ((((((((((((((((((((((((((((((((((((((List.replicate 64 (0 : Int)).set (0) (1116352408 : Int)).set (1) (1899447441 : Int)).set (2) (3049323471 : Int)).set (3) (3921009573 : Int)).set (4) (961987163 : Int)).set (5) (1508970993 : Int)).set (6) (2453635748 : Int)).set (7) (2870763221 : Int)).set (8) (3624381080 : Int)).set (9) (310598401 : Int)).set (10) (607225278 : Int)).set (11) (1426881987 : Int)).set (12) (1925078388 : Int)).set (13) (2162078206 : Int)).set (14) (2614888103 : Int)).set (15) (3248222580 : Int)).set (16) (3835390401 : Int)).set (17) (4022224774 : Int)).set (18) (264347078 : Int)).set (19) (604807628 : Int)).set (20) (770255983 : Int)).set (21) (1249150122 : Int)).set (22) (1555081692 : Int)).set (23) (1996064986 : Int)).set (24) (2554220882 : Int)).set (25) (2821834349 : Int)).set (26) (2952996808 : Int)).set (27) (3210313671 : Int)).set (28) (3336571891 : Int)).set (29) (3584528711 : Int)).set (30) (113926993 : Int)).set (31) (338241895 : Int)).set (32) (666307205 : Int)).set (33) (773529912 : Int)).set (34) (1294757372 : Int)).set (35) (1396182291 : Int))[(36)]?).bind fun e37 =>
  (((((((((((((((((((((((((((((((((((((((List.replicate 64 (0 : Int)).set (0) (1116352408 : Int)).set (1) (1899447441 : Int)).set (2) (3049323471 : Int)).set (3) (3921009573 : Int)).set (4) (961987163 : Int)).set (5) (1508970993 : Int)).set (6) (2453635748 : Int)).set (7) (2870763221 : Int)).set (8) (3624381080 : Int)).set (9) (310598401 : Int)).set (10) (607225278 : Int)).set (11) (1426881987 : Int)).set (12) (1925078388 : Int)).set (13) (2162078206 : Int)).set (14) (2614888103 : Int)).set (15) (3248222580 : Int)).set (16) (3835390401 : Int)).set (17) (4022224774 : Int)).set (18) (264347078 : Int)).set (19) (604807628 : Int)).set (20) (770255983 : Int)).set (21) (1249150122 : Int)).set (22) (1555081692 : Int)).set (23) (1996064986 : Int)).set (24) (2554220882 : Int)).set (25) (2821834349 : Int)).set (26) (2952996808 : Int)).set (27) (3210313671 : Int)).set (28) (3336571891 : Int)).set (29) (3584528711 : Int)).set (30) (113926993 : Int)).set (31) (338241895 : Int)).set (32) (666307205 : Int)).set (33) (773529912 : Int)).set (34) (1294757372 : Int)).set (35) (1396182291 : Int)).set (36) (1695183700 : Int))[(37)]?).bind fun e38 =>
  ((((((((((((((((((((((((((((((((((((((((List.replicate 64 (0 : Int)).set (0) (1116352408 : Int)).set (1) (1899447441 : Int)).set (2) (3049323471 : Int)).set (3) (3921009573 : Int)).set (4) (961987163 : Int)).set (5) (1508970993 : Int)).set (6) (2453635748 : Int)).set (7) (2870763221 : Int)).set (8) (3624381080 : Int)).set (9) (310598401 : Int)).set (10) (607225278 : Int)).set (11) (1426881987 : Int)).set (12) (1925078388 : Int)).set (13) (2162078206 : Int)).set (14) (2614888103 : Int)).set (15) (3248222580 : Int)).set (16) (3835390401 : Int)).set (17) (4022224774 : Int)).set (18) (264347078 : Int)).set (19) (604807628 : Int)).set (20) (770255983 : Int)).set (21) (1249150122 : Int)).set (22) (1555081692 : Int)).set (23) (1996064986 : Int)).set (24) (2554220882 : Int)).set (25) (2821834349 : Int)).set (26) (2952996808 : Int)).set (27) (3210313671 : Int)).set (28) (3336571891 : Int)).set (29) (3584528711 : Int)).set (30) (113926993 : Int)).set (31) (338241895 : Int)).set (32) (666307205 : Int)).set (33) (773529912 : Int)).set (34) (1294757372 : Int)).set (35) (1396182291 : Int)).set (36) (1695183700 : Int)).set (37) (1986661051 : Int))[(38)]?).bind fun e39 =>
  (((((((((((((((((((((((((((((((((((((((((List.replicate 64 (0 : Int)).set (0) (1116352408 : Int)).set (1) (1899447441 : Int)).set (2) (3049323471 : Int)).set (3) (3921009573 : Int)).set (4) (961987163 : Int)).set (5) (1508970993 : Int)).set (6) (2453635748 : Int)).set (7) (2870763221 : Int)).set (8) (3624381080 : Int)).set (9) (310598401 : Int)).set (10) (607225278 : Int)).set (11) (1426881987 : Int)).set (12) (1925078388 : Int)).set (13) (2162078206 : Int)).set (14) (2614888103 : Int)).set (15) (3248222580 : Int)).set (16) (3835390401 : Int)).set (17) (4022224774 : Int)).set (18) (264347078 : Int)).set (19) (604807628 : Int)).set (20) (770255983 : Int)).set (21) (1249150122 : Int)).set (22) (1555081692 : Int)).set (23) (1996064986 : Int)).set (24) (2554220882 : Int)).set (25) (2821834349 : Int)).set (26) (2952996808 : Int)).set (27) (3210313671 : Int)).set (28) (3336571891 : Int)).set (29) (3584528711 : Int)).set (30) (113926993 : Int)).set (31) (338241895 : Int)).set (32) (666307205 : Int)).set (33) (773529912 : Int)).set (34) (1294757372 : Int)).set (35) (1396182291 : Int)).set (36) (1695183700 : Int)).set (37) (1986661051 : Int)).set (38) (2177026350 : Int))[(39)]?).bind fun e40 =>
  ((((((((((((((((((((((((((((((((((((((((((List.replicate 64 (0 : Int)).set (0) (1116352408 : Int)).set (1) (1899447441 : Int)).set (2) (3049323471 : Int)).set (3) (3921009573 : Int)).set (4) (961987163 : Int)).set (5) (1508970993 : Int)).set (6) (2453635748 : Int)).set (7) (2870763221 : Int)).set (8) (3624381080 : Int)).set (9) (310598401 : Int)).set (10) (607225278 : Int)).set (11) (1426881987 : Int)).set (12) (1925078388 : Int)).set (13) (2162078206 : Int)).set (14) (2614888103 : Int)).set (15) (3248222580 : Int)).set (16) (3835390401 : Int)).set (17) (4022224774 : Int)).set (18) (264347078 : Int)).set (19) (604807628 : Int)).set (20) (770255983 : Int)).set (21) (1249150122 : Int)).set (22) (1555081692 : Int)).set (23) (1996064986 : Int)).set (24) (2554220882 : Int)).set (25) (2821834349 : Int)).set (26) (2952996808 : Int)).set (27) (3210313671 : Int)).set (28) (3336571891 : Int)).set (29) (3584528711 : Int)).set (30) (113926993 : Int)).set (31) (338241895 : Int)).set (32) (666307205 : Int)).set (33) (773529912 : Int)).set (34) (1294757372 : Int)).set (35) (1396182291 : Int)).set (36) (1695183700 : Int)).set (37) (1986661051 : Int)).set (38) (2177026350 : Int)).set (39) (2456956037 : Int))[(40)]?).bind fun e41 =>
  (((((((((((((((((((((((((((((((((((((((((((List.replicate 64 (0 : Int)).set (0) (1116352408 : Int)).set (1) (1899447441 : Int)).set (2) (3049323471 : Int)).set (3) (3921009573 : Int)).set (4) (961987163 : Int)).set (5) (1508970993 : Int)).set (6) (2453635748 : Int)).set (7) (2870763221 : Int)).set (8) (3624381080 : Int)).set (9) (310598401 : Int)).set (10) (607225278 : Int)).set (11) (1426881987 : Int)).set (12) (1925078388 : Int)).set (13) (2162078206 : Int)).set (14) (2614888103 : Int)).set (15) (3248222580 : Int)).set (16) (3835390401 : Int)).set (17) (4022224774 : Int)).set (18) (264347078 : Int)).set (19) (604807628 : Int)).set (20) (770255983 : Int)).set (21) (1249150122 : Int)).set (22) (1555081692 : Int)).set (23) (1996064986 : Int)).set (24) (2554220882 : Int)).set (25) (2821834349 : Int)).set (26) (2952996808 : Int)).set (27) (3210313671 : Int)).set (28) (3336571891 : Int)).set (29) (3584528711 : Int)).set (30) (113926993 : Int)).set (31) (338241895 : Int)).set (32) (666307205 : Int)).set (33) (773529912 : Int)).set (34) (1294757372 : Int)).set (35) (1396182291 : Int)).set (36) (1695183700 : Int)).set (37) (1986661051 : Int)).set (38) (2177026350 : Int)).set (39) (2456956037 : Int)).set (40) (2730485921 : Int))[(41)]?).bind fun e42 =>
  ((((((((((((((((((((((((((((((((((((((((((((List.replicate 64 (0 : Int)).set (0) (1116352408 : Int)).set (1) (1899447441 : Int)).set (2) (3049323471 : Int)).set (3) (3921009573 : Int)).set (4) (961987163 : Int)).set (5) (1508970993 : Int)).set (6) (2453635748 : Int)).set (7) (2870763221 : Int)).set (8) (3624381080 : Int)).set (9) (310598401 : Int)).set (10) (607225278 : Int)).set (11) (1426881987 : Int)).set (12) (1925078388 : Int)).set (13) (2162078206 : Int)).set (14) (2614888103 : Int)).set (15) (3248222580 : Int)).set (16) (3835390401 : Int)).set (17) (4022224774 : Int)).set (18) (264347078 : Int)).set (19) (604807628 : Int)).set (20) (770255983 : Int)).set (21) (1249150122 : Int)).set (22) (1555081692 : Int)).set (23) (1996064986 : Int)).set (24) (2554220882 : Int)).set (25) (2821834349 : Int)).set (26) (2952996808 : Int)).set (27) (3210313671 : Int)).set (28) (3336571891 : Int)).set (29) (3584528711 : Int)).set (30) (113926993 : Int)).set (31) (338241895 : Int)).set (32) (666307205 : Int)).set (33) (773529912 : Int)).set (34) (1294757372 : Int)).set (35) (1396182291 : Int)).set (36) (1695183700 : Int)).set (37) (1986661051 : Int)).set (38) (2177026350 : Int)).set (39) (2456956037 : Int)).set (40) (2730485921 : Int)).set (41) (2820302411 : Int))[(42)]?).bind fun e43 =>
  (((((((((((((((((((((((((((((((((((((((((((((List.replicate 64 (0 : Int)).set (0) (1116352408 : Int)).set (1) (1899447441 : Int)).set (2) (3049323471 : Int)).set (3) (3921009573 : Int)).set (4) (961987163 : Int)).set (5) (1508970993 : Int)).set (6) (2453635748 : Int)).set (7) (2870763221 : Int)).set (8) (3624381080 : Int)).set (9) (310598401 : Int)).set (10) (607225278 : Int)).set (11) (1426881987 : Int)).set (12) (1925078388 : Int)).set (13) (2162078206 : Int)).set (14) (2614888103 : Int)).set (15) (3248222580 : Int)).set (16) (3835390401 : Int)).set (17) (4022224774 : Int)).set (18) (264347078 : Int)).set (19) (604807628 : Int)).set (20) (770255983 : Int)).set (21) (1249150122 : Int)).set (22) (1555081692 : Int)).set (23) (1996064986 : Int)).set (24) (2554220882 : Int)).set (25) (2821834349 : Int)).set (26) (2952996808 : Int)).set (27) (3210313671 : Int)).set (28) (3336571891 : Int)).set (29) (3584528711 : Int)).set (30) (113926993 : Int)).set (31) (338241895 : Int)).set (32) (666307205 : Int)).set (33) (773529912 : Int)).set (34) (1294757372 : Int)).set (35) (1396182291 : Int)).set (36) (1695183700 : Int)).set (37) (1986661051 : Int)).set (38) (2177026350 : Int)).set (39) (2456956037 : Int)).set (40) (2730485921 : Int)).set (41) (2820302411 : Int)).set (42) (3259730800 : Int))[(43)]?).bind fun e44 =>
  ((((((((((((((((((((((((((((((((((((((((((((((List.replicate 64 (0 : Int)).set (0) (1116352408 : Int)).set (1) (1899447441 : Int)).set (2) (3049323471 : Int)).set (3) (3921009573 : Int)).set (4) (961987163 : Int)).set (5) (1508970993 : Int)).set (6) (2453635748 : Int)).set (7) (2870763221 : Int)).set (8) (3624381080 : Int)).set (9) (310598401 : Int)).set (10) (607225278 : Int)).set (11) (1426881987 : Int)).set (12) (1925078388 : Int)).set (13) (2162078206 : Int)).set (14) (2614888103 : Int)).set (15) (3248222580 : Int)).set (16) (3835390401 : Int)).set (17) (4022224774 : Int)).set (18) (264347078 : Int)).set (19) (604807628 : Int)).set (20) (770255983 : Int)).set (21) (1249150122 : Int)).set (22) (1555081692 : Int)).set (23) (1996064986 : Int)).set (24) (2554220882 : Int)).set (25) (2821834349 : Int)).set (26) (2952996808 : Int)).set (27) (3210313671 : Int)).set (28) (3336571891 : Int)).set (29) (3584528711 : Int)).set (30) (113926993 : Int)).set (31) (338241895 : Int)).set (32) (666307205 : Int)).set (33) (773529912 : Int)).set (34) (1294757372 : Int)).set (35) (1396182291 : Int)).set (36) (1695183700 : Int)).set (37) (1986661051 : Int)).set (38) (2177026350 : Int)).set (39) (2456956037 : Int)).set (40) (2730485921 : Int)).set (41) (2820302411 : Int)).set (42) (3259730800 : Int)).set (43) (3345764771 : Int))[(44)]?).bind fun e45 =>
  (((((((((((((((((((((((((((((((((((((((((((((((List.replicate 64 (0 : Int)).set (0) (1116352408 : Int)).set (1) (1899447441 : Int)).set (2) (3049323471 : Int)).set (3) (3921009573 : Int)).set (4) (961987163 : Int)).set (5) (1508970993 : Int)).set (6) (2453635748 : Int)).set (7) (2870763221 : Int)).set (8) (3624381080 : Int)).set (9) (310598401 : Int)).set (10) (607225278 : Int)).set (11) (1426881987 : Int)).set (12) (1925078388 : Int)).set (13) (2162078206 : Int)).set (14) (2614888103 : Int)).set (15) (3248222580 : Int)).set (16) (3835390401 : Int)).set (17) (4022224774 : Int)).set (18) (264347078 : Int)).set (19) (604807628 : Int)).set (20) (770255983 : Int)).set (21) (1249150122 : Int)).set (22) (1555081692 : Int)).set (23) (1996064986 : Int)).set (24) (2554220882 : Int)).set (25) (2821834349 : Int)).set (26) (2952996808 : Int)).set (27) (3210313671 : Int)).set (28) (3336571891 : Int)).set (29) (3584528711 : Int)).set (30) (113926993 : Int)).set (31) (338241895 : Int)).set (32) (666307205 : Int)).set (33) (773529912 : Int)).set (34) (1294757372 : Int)).set (35) (1396182291 : Int)).set (36) (1695183700 : Int)).set (37) (1986661051 : Int)).set (38) (2177026350 : Int)).set (39) (2456956037 : Int)).set (40) (2730485921 : Int)).set (41) (2820302411 : Int)).set (42) (3259730800 : Int)).set (43) (3345764771 : Int)).set (44) (3516065817 : Int))[(45)]?).bind fun e46 =>
  ((((((((((((((((((((((((((((((((((((((((((((((((List.replicate 64 (0 : Int)).set (0) (1116352408 : Int)).set (1) (1899447441 : Int)).set (2) (3049323471 : Int)).set (3) (3921009573 : Int)).set (4) (961987163 : Int)).set (5) (1508970993 : Int)).set (6) (2453635748 : Int)).set (7) (2870763221 : Int)).set (8) (3624381080 : Int)).set (9) (310598401 : Int)).set (10) (607225278 : Int)).set (11) (1426881987 : Int)).set (12) (1925078388 : Int)).set (13) (2162078206 : Int)).set (14) (2614888103 : Int)).set (15) (3248222580 : Int)).set (16) (3835390401 : Int)).set (17) (4022224774 : Int)).set (18) (264347078 : Int)).set (19) (604807628 : Int)).set (20) (770255983 : Int)).set (21) (1249150122 : Int)).set (22) (1555081692 : Int)).set (23) (1996064986 : Int)).set (24) (2554220882 : Int)).set (25) (2821834349 : Int)).set (26) (2952996808 : Int)).set (27) (3210313671 : Int)).set (28) (3336571891 : Int)).set (29) (3584528711 : Int)).set (30) (113926993 : Int)).set (31) (338241895 : Int)).set (32) (666307205 : Int)).set (33) (773529912 : Int)).set (34) (1294757372 : Int)).set (35) (1396182291 : Int)).set (36) (1695183700 : Int)).set (37) (1986661051 : Int)).set (38) (2177026350 : Int)).set (39) (2456956037 : Int)).set (40) (2730485921 : Int)).set (41) (2820302411 : Int)).set (42) (3259730800 : Int)).set (43) (3345764771 : Int)).set (44) (3516065817 : Int)).set (45) (3600352804 : Int))[(46)]?).bind fun e47 =>
  (((((((((((((((((((((((((((((((((((((((((((((((((List.replicate 64 (0 : Int)).set (0) (1116352408 : Int)).set (1) (1899447441 : Int)).set (2) (3049323471 : Int)).set (3) (3921009573 : Int)).set (4) (961987163 : Int)).set (5) (1508970993 : Int)).set (6) (2453635748 : Int)).set (7) (2870763221 : Int)).set (8) (3624381080 : Int)).set (9) (310598401 : Int)).set (10) (607225278 : Int)).set (11) (1426881987 : Int)).set (12) (1925078388 : Int)).set (13) (2162078206 : Int)).set (14) (2614888103 : Int)).set (15) (3248222580 : Int)).set (16) (3835390401 : Int)).set (17) (4022224774 : Int)).set (18) (264347078 : Int)).set (19) (604807628 : Int)).set (20) (770255983 : Int)).set (21) (1249150122 : Int)).set (22) (1555081692 : Int)).set (23) (1996064986 : Int)).set (24) (2554220882 : Int)).set (25) (2821834349 : Int)).set (26) (2952996808 : Int)).set (27) (3210313671 : Int)).set (28) (3336571891 : Int)).set (29) (3584528711 : Int)).set (30) (113926993 : Int)).set (31) (338241895 : Int)).set (32) (666307205 : Int)).set (33) (773529912 : Int)).set (34) (1294757372 : Int)).set (35) (1396182291 : Int)).set (36) (1695183700 : Int)).set (37) (1986661051 : Int)).set (38) (2177026350 : Int)).set (39) (2456956037 : Int)).set (40) (2730485921 : Int)).set (41) (2820302411 : Int)).set (42) (3259730800 : Int)).set (43) (3345764771 : Int)).set (44) (3516065817 : Int)).set (45) (3600352804 : Int)).set (46) (4094571909 : Int))[(47)]?).bind fun e48 =>
  ((((((((((((((((((((((((((((((((((((((((((((((((((List.replicate 64 (0 : Int)).set (0) (1116352408 : Int)).set (1) (1899447441 : Int)).set (2) (3049323471 : Int)).set (3) (3921009573 : Int)).set (4) (961987163 : Int)).set (5) (1508970993 : Int)).set (6) (2453635748 : Int)).set (7) (2870763221 : Int)).set (8) (3624381080 : Int)).set (9) (310598401 : Int)).set (10) (607225278 : Int)).set (11) (1426881987 : Int)).set (12) (1925078388 : Int)).set (13) (2162078206 : Int)).set (14) (2614888103 : Int)).set (15) (3248222580 : Int)).set (16) (3835390401 : Int)).set (17) (4022224774 : Int)).set (18) (264347078 : Int)).set (19) (604807628 : Int)).set (20) (770255983 : Int)).set (21) (1249150122 : Int)).set (22) (1555081692 : Int)).set (23) (1996064986 : Int)).set (24) (2554220882 : Int)).set (25) (2821834349 : Int)).set (26) (2952996808 : Int)).set (27) (3210313671 : Int)).set (28) (3336571891 : Int)).set (29) (3584528711 : Int)).set (30) (113926993 : Int)).set (31) (338241895 : Int)).set (32) (666307205 : Int)).set (33) (773529912 : Int)).set (34) (1294757372 : Int)).set (35) (1396182291 : Int)).set (36) (1695183700 : Int)).set (37) (1986661051 : Int)).set (38) (2177026350 : Int)).set (39) (2456956037 : Int)).set (40) (2730485921 : Int)).set (41) (2820302411 : Int)).set (42) (3259730800 : Int)).set (43) (3345764771 : Int)).set (44) (3516065817 : Int)).set (45) (3600352804 : Int)).set (46) (4094571909 : Int)).set (47) (275423344 : Int))[(48)]?).bind fun e49 =>
  (((((((((((((((((((((((((((((((((((((((((((((((((((List.replicate 64 (0 : Int)).set (0) (1116352408 : Int)).set (1) (1899447441 : Int)).set (2) (3049323471 : Int)).set (3) (3921009573 : Int)).set (4) (961987163 : Int)).set (5) (1508970993 : Int)).set (6) (2453635748 : Int)).set (7) (2870763221 : Int)).set (8) (3624381080 : Int)).set (9) (310598401 : Int)).set (10) (607225278 : Int)).set (11) (1426881987 : Int)).set (12) (1925078388 : Int)).set (13) (2162078206 : Int)).set (14) (2614888103 : Int)).set (15) (3248222580 : Int)).set (16) (3835390401 : Int)).set (17) (4022224774 : Int)).set (18) (264347078 : Int)).set (19) (604807628 : Int)).set (20) (770255983 : Int)).set (21) (1249150122 : Int)).set (22) (1555081692 : Int)).set (23) (1996064986 : Int)).set (24) (2554220882 : Int)).set (25) (2821834349 : Int)).set (26) (2952996808 : Int)).set (27) (3210313671 : Int)).set (28) (3336571891 : Int)).set (29) (3584528711 : Int)).set (30) (113926993 : Int)).set (31) (338241895 : Int)).set (32) (666307205 : Int)).set (33) (773529912 : Int)).set (34) (1294757372 : Int)).set (35) (1396182291 : Int)).set (36) (1695183700 : Int)).set (37) (1986661051 : Int)).set (38) (2177026350 : Int)).set (39) (2456956037 : Int)).set (40) (2730485921 : Int)).set (41) (2820302411 : Int)).set (42) (3259730800 : Int)).set (43) (3345764771 : Int)).set (44) (3516065817 : Int)).set (45) (3600352804 : Int)).set (46) (4094571909 : Int)).set (47) (275423344 : Int)).set (48) (430227734 : Int))[(49)]?).bind fun e50 =>
  ((((((((((((((((((((((((((((((((((((((((((((((((((((List.replicate 64 (0 : Int)).set (0) (1116352408 : Int)).set (1) (1899447441 : Int)).set (2) (3049323471 : Int)).set (3) (3921009573 : Int)).set (4) (961987163 : Int)).set (5) (1508970993 : Int)).set (6) (2453635748 : Int)).set (7) (2870763221 : Int)).set (8) (3624381080 : Int)).set (9) (310598401 : Int)).set (10) (607225278 : Int)).set (11) (1426881987 : Int)).set (12) (1925078388 : Int)).set (13) (2162078206 : Int)).set (14) (2614888103 : Int)).set (15) (3248222580 : Int)).set (16) (3835390401 : Int)).set (17) (4022224774 : Int)).set (18) (264347078 : Int)).set (19) (604807628 : Int)).set (20) (770255983 : Int)).set (21) (1249150122 : Int)).set (22) (1555081692 : Int)).set (23) (1996064986 : Int)).set (24) (2554220882 : Int)).set (25) (2821834349 : Int)).set (26) (2952996808 : Int)).set (27) (3210313671 : Int)).set (28) (3336571891 : Int)).set (29) (3584528711 : Int)).set (30) (113926993 : Int)).set (31) (338241895 : Int)).set (32) (666307205 : Int)).set (33) (773529912 : Int)).set (34) (1294757372 : Int)).set (35) (1396182291 : Int)).set (36) (1695183700 : Int)).set (37) (1986661051 : Int)).set (38) (2177026350 : Int)).set (39) (2456956037 : Int)).set (40) (2730485921 : Int)).set (41) (2820302411 : Int)).set (42) (3259730800 : Int)).set (43) (3345764771 : Int)).set (44) (3516065817 : Int)).set (45) (3600352804 : Int)).set (46) (4094571909 : Int)).set (47) (275423344 : Int)).set (48) (430227734 : Int)).set (49) (506948616 : Int))[(50)]?).bind fun e51 =>
  (((((((((((((((((((((((((((((((((((((((((((((((((((((List.replicate 64 (0 : Int)).set (0) (1116352408 : Int)).set (1) (1899447441 : Int)).set (2) (3049323471 : Int)).set (3) (3921009573 : Int)).set (4) (961987163 : Int)).set (5) (1508970993 : Int)).set (6) (2453635748 : Int)).set (7) (2870763221 : Int)).set (8) (3624381080 : Int)).set (9) (310598401 : Int)).set (10) (607225278 : Int)).set (11) (1426881987 : Int)).set (12) (1925078388 : Int)).set (13) (2162078206 : Int)).set (14) (2614888103 : Int)).set (15) (3248222580 : Int)).set (16) (3835390401 : Int)).set (17) (4022224774 : Int)).set (18) (264347078 : Int)).set (19) (604807628 : Int)).set (20) (770255983 : Int)).set (21) (1249150122 : Int)).set (22) (1555081692 : Int)).set (23) (1996064986 : Int)).set (24) (2554220882 : Int)).set (25) (2821834349 : Int)).set (26) (2952996808 : Int)).set (27) (3210313671 : Int)).set (28) (3336571891 : Int)).set (29) (3584528711 : Int)).set (30) (113926993 : Int)).set (31) (338241895 : Int)).set (32) (666307205 : Int)).set (33) (773529912 : Int)).set (34) (1294757372 : Int)).set (35) (1396182291 : Int)).set (36) (1695183700 : Int)).set (37) (1986661051 : Int)).set (38) (2177026350 : Int)).set (39) (2456956037 : Int)).set (40) (2730485921 : Int)).set (41) (2820302411 : Int)).set (42) (3259730800 : Int)).set (43) (3345764771 : Int)).set (44) (3516065817 : Int)).set (45) (3600352804 : Int)).set (46) (4094571909 : Int)).set (47) (275423344 : Int)).set (48) (430227734 : Int)).set (49) (506948616 : Int)).set (50) (659060556 : Int))[(51)]?).bind fun e52 =>
  ((((((((((((((((((((((((((((((((((((((((((((((((((((((List.replicate 64 (0 : Int)).set (0) (1116352408 : Int)).set (1) (1899447441 : Int)).set (2) (3049323471 : Int)).set (3) (3921009573 : Int)).set (4) (961987163 : Int)).set (5) (1508970993 : Int)).set (6) (2453635748 : Int)).set (7) (2870763221 : Int)).set (8) (3624381080 : Int)).set (9) (310598401 : Int)).set (10) (607225278 : Int)).set (11) (1426881987 : Int)).set (12) (1925078388 : Int)).set (13) (2162078206 : Int)).set (14) (2614888103 : Int)).set (15) (3248222580 : Int)).set (16) (3835390401 : Int)).set (17) (4022224774 : Int)).set (18) (264347078 : Int)).set (19) (604807628 : Int)).set (20) (770255983 : Int)).set (21) (1249150122 : Int)).set (22) (1555081692 : Int)).set (23) (1996064986 : Int)).set (24) (2554220882 : Int)).set (25) (2821834349 : Int)).set (26) (2952996808 : Int)).set (27) (3210313671 : Int)).set (28) (3336571891 : Int)).set (29) (3584528711 : Int)).set (30) (113926993 : Int)).set (31) (338241895 : Int)).set (32) (666307205 : Int)).set (33) (773529912 : Int)).set (34) (1294757372 : Int)).set (35) (1396182291 : Int)).set (36) (1695183700 : Int)).set (37) (1986661051 : Int)).set (38) (2177026350 : Int)).set (39) (2456956037 : Int)).set (40) (2730485921 : Int)).set (41) (2820302411 : Int)).set (42) (3259730800 : Int)).set (43) (3345764771 : Int)).set (44) (3516065817 : Int)).set (45) (3600352804 : Int)).set (46) (4094571909 : Int)).set (47) (275423344 : Int)).set (48) (430227734 : Int)).set (49) (506948616 : Int)).set (50) (659060556 : Int)).set (51) (883997877 : Int))[(52)]?).bind fun e53 =>
  (((((((((((((((((((((((((((((((((((((((((((((((((((((((List.replicate 64 (0 : Int)).set (0) (1116352408 : Int)).set (1) (1899447441 : Int)).set (2) (3049323471 : Int)).set (3) (3921009573 : Int)).set (4) (961987163 : Int)).set (5) (1508970993 : Int)).set (6) (2453635748 : Int)).set (7) (2870763221 : Int)).set (8) (3624381080 : Int)).set (9) (310598401 : Int)).set (10) (607225278 : Int)).set (11) (1426881987 : Int)).set (12) (1925078388 : Int)).set (13) (2162078206 : Int)).set (14) (2614888103 : Int)).set (15) (3248222580 : Int)).set (16) (3835390401 : Int)).set (17) (4022224774 : Int)).set (18) (264347078 : Int)).set (19) (604807628 : Int)).set (20) (770255983 : Int)).set (21) (1249150122 : Int)).set (22) (1555081692 : Int)).set (23) (1996064986 : Int)).set (24) (2554220882 : Int)).set (25) (2821834349 : Int)).set (26) (2952996808 : Int)).set (27) (3210313671 : Int)).set (28) (3336571891 : Int)).set (29) (3584528711 : Int)).set (30) (113926993 : Int)).set (31) (338241895 : Int)).set (32) (666307205 : Int)).set (33) (773529912 : Int)).set (34) (1294757372 : Int)).set (35) (1396182291 : Int)).set (36) (1695183700 : Int)).set (37) (1986661051 : Int)).set (38) (2177026350 : Int)).set (39) (2456956037 : Int)).set (40) (2730485921 : Int)).set (41) (2820302411 : Int)).set (42) (3259730800 : Int)).set (43) (3345764771 : Int)).set (44) (3516065817 : Int)).set (45) (3600352804 : Int)).set (46) (4094571909 : Int)).set (47) (275423344 : Int)).set (48) (430227734 : Int)).set (49) (506948616 : Int)).set (50) (659060556 : Int)).set (51) (883997877 : Int)).set (52) (958139571 : Int))[(53)]?).bind fun e54 =>
  ((((((((((((((((((((((((((((((((((((((((((((((((((((((((List.replicate 64 (0 : Int)).set (0) (1116352408 : Int)).set (1) (1899447441 : Int)).set (2) (3049323471 : Int)).set (3) (3921009573 : Int)).set (4) (961987163 : Int)).set (5) (1508970993 : Int)).set (6) (2453635748 : Int)).set (7) (2870763221 : Int)).set (8) (3624381080 : Int)).set (9) (310598401 : Int)).set (10) (607225278 : Int)).set (11) (1426881987 : Int)).set (12) (1925078388 : Int)).set (13) (2162078206 : Int)).set (14) (2614888103 : Int)).set (15) (3248222580 : Int)).set (16) (3835390401 : Int)).set (17) (4022224774 : Int)).set (18) (264347078 : Int)).set (19) (604807628 : Int)).set (20) (770255983 : Int)).set (21) (1249150122 : Int)).set (22) (1555081692 : Int)).set (23) (1996064986 : Int)).set (24) (2554220882 : Int)).set (25) (2821834349 : Int)).set (26) (2952996808 : Int)).set (27) (3210313671 : Int)).set (28) (3336571891 : Int)).set (29) (3584528711 : Int)).set (30) (113926993 : Int)).set (31) (338241895 : Int)).set (32) (666307205 : Int)).set (33) (773529912 : Int)).set (34) (1294757372 : Int)).set (35) (1396182291 : Int)).set (36) (1695183700 : Int)).set (37) (1986661051 : Int)).set (38) (2177026350 : Int)).set (39) (2456956037 : Int)).set (40) (2730485921 : Int)).set (41) (2820302411 : Int)).set (42) (3259730800 : Int)).set (43) (3345764771 : Int)).set (44) (3516065817 : Int)).set (45) (3600352804 : Int)).set (46) (4094571909 : Int)).set (47) (275423344 : Int)).set (48) (430227734 : Int)).set (49) (506948616 : Int)).set (50) (659060556 : Int)).set (51) (883997877 : Int)).set (52) (958139571 : Int)).set (53) (1322822218 : Int))[(54)]?).bind fun e55 =>
  (((((((((((((((((((((((((((((((((((((((((((((((((((((((((List.replicate 64 (0 : Int)).set (0) (1116352408 : Int)).set (1) (1899447441 : Int)).set (2) (3049323471 : Int)).set (3) (3921009573 : Int)).set (4) (961987163 : Int)).set (5) (1508970993 : Int)).set (6) (2453635748 : Int)).set (7) (2870763221 : Int)).set (8) (3624381080 : Int)).set (9) (310598401 : Int)).set (10) (607225278 : Int)).set (11) (1426881987 : Int)).set (12) (1925078388 : Int)).set (13) (2162078206 : Int)).set (14) (2614888103 : Int)).set (15) (3248222580 : Int)).set (16) (3835390401 : Int)).set (17) (4022224774 : Int)).set (18) (264347078 : Int)).set (19) (604807628 : Int)).set (20) (770255983 : Int)).set (21) (1249150122 : Int)).set (22) (1555081692 : Int)).set (23) (1996064986 : Int)).set (24) (2554220882 : Int)).set (25) (2821834349 : Int)).set (26) (2952996808 : Int)).set (27) (3210313671 : Int)).set (28) (3336571891 : Int)).set (29) (3584528711 : Int)).set (30) (113926993 : Int)).set (31) (338241895 : Int)).set (32) (666307205 : Int)).set (33) (773529912 : Int)).set (34) (1294757372 : Int)).set (35) (1396182291 : Int)).set (36) (1695183700 : Int)).set (37) (1986661051 : Int)).set (38) (2177026350 : Int)).set (39) (2456956037 : Int)).set (40) (2730485921 : Int)).set (41) (2820302411 : Int)).set (42) (3259730800 : Int)).set (43) (3345764771 : Int)).set (44) (3516065817 : Int)).set (45) (3600352804 : Int)).set (46) (4094571909 : Int)).set (47) (275423344 : Int)).set (48) (430227734 : Int)).set (49) (506948616 : Int)).set (50) (659060556 : Int)).set (51) (883997877 : Int)).set (52) (958139571 : Int)).set (53) (1322822218 : Int)).set (54) (1537002063 : Int))[(55)]?).bind fun e56 =>
  ((((((((((((((((((((((((((((((((((((((((((((((((((((((((((List.replicate 64 (0 : Int)).set (0) (1116352408 : Int)).set (1) (1899447441 : Int)).set (2) (3049323471 : Int)).set (3) (3921009573 : Int)).set (4) (961987163 : Int)).set (5) (1508970993 : Int)).set (6) (2453635748 : Int)).set (7) (2870763221 : Int)).set (8) (3624381080 : Int)).set (9) (310598401 : Int)).set (10) (607225278 : Int)).set (11) (1426881987 : Int)).set (12) (1925078388 : Int)).set (13) (2162078206 : Int)).set (14) (2614888103 : Int)).set (15) (3248222580 : Int)).set (16) (3835390401 : Int)).set (17) (4022224774 : Int)).set (18) (264347078 : Int)).set (19) (604807628 : Int)).set (20) (770255983 : Int)).set (21) (1249150122 : Int)).set (22) (1555081692 : Int)).set (23) (1996064986 : Int)).set (24) (2554220882 : Int)).set (25) (2821834349 : Int)).set (26) (2952996808 : Int)).set (27) (3210313671 : Int)).set (28) (3336571891 : Int)).set (29) (3584528711 : Int)).set (30) (113926993 : Int)).set (31) (338241895 : Int)).set (32) (666307205 : Int)).set (33) (773529912 : Int)).set (34) (1294757372 : Int)).set (35) (1396182291 : Int)).set (36) (1695183700 : Int)).set (37) (1986661051 : Int)).set (38) (2177026350 : Int)).set (39) (2456956037 : Int)).set (40) (2730485921 : Int)).set (41) (2820302411 : Int)).set (42) (3259730800 : Int)).set (43) (3345764771 : Int)).set (44) (3516065817 : Int)).set (45) (3600352804 : Int)).set (46) (4094571909 : Int)).set (47) (275423344 : Int)).set (48) (430227734 : Int)).set (49) (506948616 : Int)).set (50) (659060556 : Int)).set (51) (883997877 : Int)).set (52) (958139571 : Int)).set (53) (1322822218 : Int)).set (54) (1537002063 : Int)).set (55) (1747873779 : Int))[(56)]?).bind fun e57 =>
  (((((((((((((((((((((((((((((((((((((((((((((((((((((((((((List.replicate 64 (0 : Int)).set (0) (1116352408 : Int)).set (1) (1899447441 : Int)).set (2) (3049323471 : Int)).set (3) (3921009573 : Int)).set (4) (961987163 : Int)).set (5) (1508970993 : Int)).set (6) (2453635748 : Int)).set (7) (2870763221 : Int)).set (8) (3624381080 : Int)).set (9) (310598401 : Int)).set (10) (607225278 : Int)).set (11) (1426881987 : Int)).set (12) (1925078388 : Int)).set (13) (2162078206 : Int)).set (14) (2614888103 : Int)).set (15) (3248222580 : Int)).set (16) (3835390401 : Int)).set (17) (4022224774 : Int)).set (18) (264347078 : Int)).set (19) (604807628 : Int)).set (20) (770255983 : Int)).set (21) (1249150122 : Int)).set (22) (1555081692 : Int)).set (23) (1996064986 : Int)).set (24) (2554220882 : Int)).set (25) (2821834349 : Int)).set (26) (2952996808 : Int)).set (27) (3210313671 : Int)).set (28) (3336571891 : Int)).set (29) (3584528711 : Int)).set (30) (113926993 : Int)).set (31) (338241895 : Int)).set (32) (666307205 : Int)).set (33) (773529912 : Int)).set (34) (1294757372 : Int)).set (35) (1396182291 : Int)).set (36) (1695183700 : Int)).set (37) (1986661051 : Int)).set (38) (2177026350 : Int)).set (39) (2456956037 : Int)).set (40) (2730485921 : Int)).set (41) (2820302411 : Int)).set (42) (3259730800 : Int)).set (43) (3345764771 : Int)).set (44) (3516065817 : Int)).set (45) (3600352804 : Int)).set (46) (4094571909 : Int)).set (47) (275423344 : Int)).set (48) (430227734 : Int)).set (49) (506948616 : Int)).set (50) (659060556 : Int)).set (51) (883997877 : Int)).set (52) (958139571 : Int)).set (53) (1322822218 : Int)).set (54) (1537002063 : Int)).set (55) (1747873779 : Int)).set (56) (1955562222 : Int))[(57)]?).bind fun e58 =>
  ((((((((((((((((((((((((((((((((((((((((((((((((((((((((((((List.replicate 64 (0 : Int)).set (0) (1116352408 : Int)).set (1) (1899447441 : Int)).set (2) (3049323471 : Int)).set (3) (3921009573 : Int)).set (4) (961987163 : Int)).set (5) (1508970993 : Int)).set (6) (2453635748 : Int)).set (7) (2870763221 : Int)).set (8) (3624381080 : Int)).set (9) (310598401 : Int)).set (10) (607225278 : Int)).set (11) (1426881987 : Int)).set (12) (1925078388 : Int)).set (13) (2162078206 : Int)).set (14) (2614888103 : Int)).set (15) (3248222580 : Int)).set (16) (3835390401 : Int)).set (17) (4022224774 : Int)).set (18) (264347078 : Int)).set (19) (604807628 : Int)).set (20) (770255983 : Int)).set (21) (1249150122 : Int)).set (22) (1555081692 : Int)).set (23) (1996064986 : Int)).set (24) (2554220882 : Int)).set (25) (2821834349 : Int)).set (26) (2952996808 : Int)).set (27) (3210313671 : Int)).set (28) (3336571891 : Int)).set (29) (3584528711 : Int)).set (30) (113926993 : Int)).set (31) (338241895 : Int)).set (32) (666307205 : Int)).set (33) (773529912 : Int)).set (34) (1294757372 : Int)).set (35) (1396182291 : Int)).set (36) (1695183700 : Int)).set (37) (1986661051 : Int)).set (38) (2177026350 : Int)).set (39) (2456956037 : Int)).set (40) (2730485921 : Int)).set (41) (2820302411 : Int)).set (42) (3259730800 : Int)).set (43) (3345764771 : Int)).set (44) (3516065817 : Int)).set (45) (3600352804 : Int)).set (46) (4094571909 : Int)).set (47) (275423344 : Int)).set (48) (430227734 : Int)).set (49) (506948616 : Int)).set (50) (659060556 : Int)).set (51) (883997877 : Int)).set (52) (958139571 : Int)).set (53) (1322822218 : Int)).set (54) (1537002063 : Int)).set (55) (1747873779 : Int)).set (56) (1955562222 : Int)).set (57) (2024104815 : Int))[(58)]?).bind fun e59 =>
  (((((((((((((((((((((((((((((((((((((((((((((((((((((((((((((List.replicate 64 (0 : Int)).set (0) (1116352408 : Int)).set (1) (1899447441 : Int)).set (2) (3049323471 : Int)).set (3) (3921009573 : Int)).set (4) (961987163 : Int)).set (5) (1508970993 : Int)).set (6) (2453635748 : Int)).set (7) (2870763221 : Int)).set (8) (3624381080 : Int)).set (9) (310598401 : Int)).set (10) (607225278 : Int)).set (11) (1426881987 : Int)).set (12) (1925078388 : Int)).set (13) (2162078206 : Int)).set (14) (2614888103 : Int)).set (15) (3248222580 : Int)).set (16) (3835390401 : Int)).set (17) (4022224774 : Int)).set (18) (264347078 : Int)).set (19) (604807628 : Int)).set (20) (770255983 : Int)).set (21) (1249150122 : Int)).set (22) (1555081692 : Int)).set (23) (1996064986 : Int)).set (24) (2554220882 : Int)).set (25) (2821834349 : Int)).set (26) (2952996808 : Int)).set (27) (3210313671 : Int)).set (28) (3336571891 : Int)).set (29) (3584528711 : Int)).set (30) (113926993 : Int)).set (31) (338241895 : Int)).set (32) (666307205 : Int)).set (33) (773529912 : Int)).set (34) (1294757372 : Int)).set (35) (1396182291 : Int)).set (36) (1695183700 : Int)).set (37) (1986661051 : Int)).set (38) (2177026350 : Int)).set (39) (2456956037 : Int)).set (40) (2730485921 : Int)).set (41) (2820302411 : Int)).set (42) (3259730800 : Int)).set (43) (3345764771 : Int)).set (44) (3516065817 : Int)).set (45) (3600352804 : Int)).set (46) (4094571909 : Int)).set (47) (275423344 : Int)).set (48) (430227734 : Int)).set (49) (506948616 : Int)).set (50) (659060556 : Int)).set (51) (883997877 : Int)).set (52) (958139571 : Int)).set (53) (1322822218 : Int)).set (54) (1537002063 : Int)).set (55) (1747873779 : Int)).set (56) (1955562222 : Int)).set (57) (2024104815 : Int)).set (58) (2227730452 : Int))[(59)]?).bind fun e60 =>
  ((((((((((((((((((((((((((((((((((((((((((((((((((((((((((((((List.replicate 64 (0 : Int)).set (0) (1116352408 : Int)).set (1) (1899447441 : Int)).set (2) (3049323471 : Int)).set (3) (3921009573 : Int)).set (4) (961987163 : Int)).set (5) (1508970993 : Int)).set (6) (2453635748 : Int)).set (7) (2870763221 : Int)).set (8) (3624381080 : Int)).set (9) (310598401 : Int)).set (10) (607225278 : Int)).set (11) (1426881987 : Int)).set (12) (1925078388 : Int)).set (13) (2162078206 : Int)).set (14) (2614888103 : Int)).set (15) (3248222580 : Int)).set (16) (3835390401 : Int)).set (17) (4022224774 : Int)).set (18) (264347078 : Int)).set (19) (604807628 : Int)).set (20) (770255983 : Int)).set (21) (1249150122 : Int)).set (22) (1555081692 : Int)).set (23) (1996064986 : Int)).set (24) (2554220882 : Int)).set (25) (2821834349 : Int)).set (26) (2952996808 : Int)).set (27) (3210313671 : Int)).set (28) (3336571891 : Int)).set (29) (3584528711 : Int)).set (30) (113926993 : Int)).set (31) (338241895 : Int)).set (32) (666307205 : Int)).set (33) (773529912 : Int)).set (34) (1294757372 : Int)).set (35) (1396182291 : Int)).set (36) (1695183700 : Int)).set (37) (1986661051 : Int)).set (38) (2177026350 : Int)).set (39) (2456956037 : Int)).set (40) (2730485921 : Int)).set (41) (2820302411 : Int)).set (42) (3259730800 : Int)).set (43) (3345764771 : Int)).set (44) (3516065817 : Int)).set (45) (3600352804 : Int)).set (46) (4094571909 : Int)).set (47) (275423344 : Int)).set (48) (430227734 : Int)).set (49) (506948616 : Int)).set (50) (659060556 : Int)).set (51) (883997877 : Int)).set (52) (958139571 : Int)).set (53) (1322822218 : Int)).set (54) (1537002063 : Int)).set (55) (1747873779 : Int)).set (56) (1955562222 : Int)).set (57) (2024104815 : Int)).set (58) (2227730452 : Int)).set (59) (2361852424 : Int))[(60)]?).bind fun e61 =>
  (((((((((((((((((((((((((((((((((((((((((((((((((((((((((((((((List.replicate 64 (0 : Int)).set (0) (1116352408 : Int)).set (1) (1899447441 : Int)).set (2) (3049323471 : Int)).set (3) (3921009573 : Int)).set (4) (961987163 : Int)).set (5) (1508970993 : Int)).set (6) (2453635748 : Int)).set (7) (2870763221 : Int)).set (8) (3624381080 : Int)).set (9) (310598401 : Int)).set (10) (607225278 : Int)).set (11) (1426881987 : Int)).set (12) (1925078388 : Int)).set (13) (2162078206 : Int)).set (14) (2614888103 : Int)).set (15) (3248222580 : Int)).set (16) (3835390401 : Int)).set (17) (4022224774 : Int)).set (18) (264347078 : Int)).set (19) (604807628 : Int)).set (20) (770255983 : Int)).set (21) (1249150122 : Int)).set (22) (1555081692 : Int)).set (23) (1996064986 : Int)).set (24) (2554220882 : Int)).set (25) (2821834349 : Int)).set (26) (2952996808 : Int)).set (27) (3210313671 : Int)).set (28) (3336571891 : Int)).set (29) (3584528711 : Int)).set (30) (113926993 : Int)).set (31) (338241895 : Int)).set (32) (666307205 : Int)).set (33) (773529912 : Int)).set (34) (1294757372 : Int)).set (35) (1396182291 : Int)).set (36) (1695183700 : Int)).set (37) (1986661051 : Int)).set (38) (2177026350 : Int)).set (39) (2456956037 : Int)).set (40) (2730485921 : Int)).set (41) (2820302411 : Int)).set (42) (3259730800 : Int)).set (43) (3345764771 : Int)).set (44) (3516065817 : Int)).set (45) (3600352804 : Int)).set (46) (4094571909 : Int)).set (47) (275423344 : Int)).set (48) (430227734 : Int)).set (49) (506948616 : Int)).set (50) (659060556 : Int)).set (51) (883997877 : Int)).set (52) (958139571 : Int)).set (53) (1322822218 : Int)).set (54) (1537002063 : Int)).set (55) (1747873779 : Int)).set (56) (1955562222 : Int)).set (57) (2024104815 : Int)).set (58) (2227730452 : Int)).set (59) (2361852424 : Int)).set (60) (2428436474 : Int))[(61)]?).bind fun e62 =>
  ((((((((((((((((((((((((((((((((((((((((((((((((((((((((((((((((List.replicate 64 (0 : Int)).set (0) (1116352408 : Int)).set (1) (1899447441 : Int)).set (2) (3049323471 : Int)).set (3) (3921009573 : Int)).set (4) (961987163 : Int)).set (5) (1508970993 : Int)).set (6) (2453635748 : Int)).set (7) (2870763221 : Int)).set (8) (3624381080 : Int)).set (9) (310598401 : Int)).set (10) (607225278 : Int)).set (11) (1426881987 : Int)).set (12) (1925078388 : Int)).set (13) (2162078206 : Int)).set (14) (2614888103 : Int)).set (15) (3248222580 : Int)).set (16) (3835390401 : Int)).set (17) (4022224774 : Int)).set (18) (264347078 : Int)).set (19) (604807628 : Int)).set (20) (770255983 : Int)).set (21) (1249150122 : Int)).set (22) (1555081692 : Int)).set (23) (1996064986 : Int)).set (24) (2554220882 : Int)).set (25) (2821834349 : Int)).set (26) (2952996808 : Int)).set (27) (3210313671 : Int)).set (28) (3336571891 : Int)).set (29) (3584528711 : Int)).set (30) (113926993 : Int)).set (31) (338241895 : Int)).set (32) (666307205 : Int)).set (33) (773529912 : Int)).set (34) (1294757372 : Int)).set (35) (1396182291 : Int)).set (36) (1695183700 : Int)).set (37) (1986661051 : Int)).set (38) (2177026350 : Int)).set (39) (2456956037 : Int)).set (40) (2730485921 : Int)).set (41) (2820302411 : Int)).set (42) (3259730800 : Int)).set (43) (3345764771 : Int)).set (44) (3516065817 : Int)).set (45) (3600352804 : Int)).set (46) (4094571909 : Int)).set (47) (275423344 : Int)).set (48) (430227734 : Int)).set (49) (506948616 : Int)).set (50) (659060556 : Int)).set (51) (883997877 : Int)).set (52) (958139571 : Int)).set (53) (1322822218 : Int)).set (54) (1537002063 : Int)).set (55) (1747873779 : Int)).set (56) (1955562222 : Int)).set (57) (2024104815 : Int)).set (58) (2227730452 : Int)).set (59) (2361852424 : Int)).set (60) (2428436474 : Int)).set (61) (2756734187 : Int))[(62)]?).bind fun e63 =>
  (((((((((((((((((((((((((((((((((((((((((((((((((((((((((((((((((List.replicate 64 (0 : Int)).set (0) (1116352408 : Int)).set (1) (1899447441 : Int)).set (2) (3049323471 : Int)).set (3) (3921009573 : Int)).set (4) (961987163 : Int)).set (5) (1508970993 : Int)).set (6) (2453635748 : Int)).set (7) (2870763221 : Int)).set (8) (3624381080 : Int)).set (9) (310598401 : Int)).set (10) (607225278 : Int)).set (11) (1426881987 : Int)).set (12) (1925078388 : Int)).set (13) (2162078206 : Int)).set (14) (2614888103 : Int)).set (15) (3248222580 : Int)).set (16) (3835390401 : Int)).set (17) (4022224774 : Int)).set (18) (264347078 : Int)).set (19) (604807628 : Int)).set (20) (770255983 : Int)).set (21) (1249150122 : Int)).set (22) (1555081692 : Int)).set (23) (1996064986 : Int)).set (24) (2554220882 : Int)).set (25) (2821834349 : Int)).set (26) (2952996808 : Int)).set (27) (3210313671 : Int)).set (28) (3336571891 : Int)).set (29) (3584528711 : Int)).set (30) (113926993 : Int)).set (31) (338241895 : Int)).set (32) (666307205 : Int)).set (33) (773529912 : Int)).set (34) (1294757372 : Int)).set (35) (1396182291 : Int)).set (36) (1695183700 : Int)).set (37) (1986661051 : Int)).set (38) (2177026350 : Int)).set (39) (2456956037 : Int)).set (40) (2730485921 : Int)).set (41) (2820302411 : Int)).set (42) (3259730800 : Int)).set (43) (3345764771 : Int)).set (44) (3516065817 : Int)).set (45) (3600352804 : Int)).set (46) (4094571909 : Int)).set (47) (275423344 : Int)).set (48) (430227734 : Int)).set (49) (506948616 : Int)).set (50) (659060556 : Int)).set (51) (883997877 : Int)).set (52) (958139571 : Int)).set (53) (1322822218 : Int)).set (54) (1537002063 : Int)).set (55) (1747873779 : Int)).set (56) (1955562222 : Int)).set (57) (2024104815 : Int)).set (58) (2227730452 : Int)).set (59) (2361852424 : Int)).set (60) (2428436474 : Int)).set (61) (2756734187 : Int)).set (62) (3204031479 : Int))[(63)]?).bind fun e64 =>
  some (((((((((((((((((((((((((((((((((((((((((((((((((((((((((((((((((((List.replicate 64 (0 : Int)).set (0) (1116352408 : Int)).set (1) (1899447441 : Int)).set (2) (3049323471 : Int)).set (3) (3921009573 : Int)).set (4) (961987163 : Int)).set (5) (1508970993 : Int)).set (6) (2453635748 : Int)).set (7) (2870763221 : Int)).set (8) (3624381080 : Int)).set (9) (310598401 : Int)).set (10) (607225278 : Int)).set (11) (1426881987 : Int)).set (12) (1925078388 : Int)).set (13) (2162078206 : Int)).set (14) (2614888103 : Int)).set (15) (3248222580 : Int)).set (16) (3835390401 : Int)).set (17) (4022224774 : Int)).set (18) (264347078 : Int)).set (19) (604807628 : Int)).set (20) (770255983 : Int)).set (21) (1249150122 : Int)).set (22) (1555081692 : Int)).set (23) (1996064986 : Int)).set (24) (2554220882 : Int)).set (25) (2821834349 : Int)).set (26) (2952996808 : Int)).set (27) (3210313671 : Int)).set (28) (3336571891 : Int)).set (29) (3584528711 : Int)).set (30) (113926993 : Int)).set (31) (338241895 : Int)).set (32) (666307205 : Int)).set (33) (773529912 : Int)).set (34) (1294757372 : Int)).set (35) (1396182291 : Int)).set (36) (1695183700 : Int)).set (37) (1986661051 : Int)).set (38) (2177026350 : Int)).set (39) (2456956037 : Int)).set (40) (2730485921 : Int)).set (41) (2820302411 : Int)).set (42) (3259730800 : Int)).set (43) (3345764771 : Int)).set (44) (3516065817 : Int)).set (45) (3600352804 : Int)).set (46) (4094571909 : Int)).set (47) (275423344 : Int)).set (48) (430227734 : Int)).set (49) (506948616 : Int)).set (50) (659060556 : Int)).set (51) (883997877 : Int)).set (52) (958139571 : Int)).set (53) (1322822218 : Int)).set (54) (1537002063 : Int)).set (55) (1747873779 : Int)).set (56) (1955562222 : Int)).set (57) (2024104815 : Int)).set (58) (2227730452 : Int)).set (59) (2361852424 : Int)).set (60) (2428436474 : Int)).set (61) (2756734187 : Int)).set (62) (3204031479 : Int)).set (63) (3329325298 : Int)), ()), ())

def ref03_Compress_L1 (v : (Unit × Unit × Unit × Unit × Int × Int × Int × Int × Int × Int × Int × Int × Int × Unit) × (List Int) × (List Int) × (List Int) × (List Int) × Unit) : Option (((Unit × Unit × Unit × Unit × Int × Int × Int × Int × Int × Int × Int × Int × Int × Unit) × (List Int) × (List Int) × (List Int) × (List Int) × Unit) ⊕ ((Unit × Unit × Int × Int × Int × Int × Int × Int × Int × Int × Unit) × (List Int) × (List Int) × Unit)) :=
  bif (decide (v.1.2.2.2.2.2.2.2.2.2.2.2.2.1 < (64 : Int))) then
    (ref03_rotr v.1.2.2.2.2.2.2.2.2.1 (6 : Int)).bind fun r2002 =>
    (ref03_rotr v.1.2.2.2.2.2.2.2.2.1 (11 : Int)).bind fun r2003 =>
    (ref03_rotr v.1.2.2.2.2.2.2.2.2.1 (25 : Int)).bind fun r2005 =>
    bif (inb v.1.2.2.2.2.2.2.2.2.2.2.2.2.1 (64)) then
      (v.2.2.2.2.1[(Int.toNat v.1.2.2.2.2.2.2.2.2.2.2.2.2.1)]?).bind fun e2013 =>
      bif (inb v.1.2.2.2.2.2.2.2.2.2.2.2.2.1 (64)) then
        (v.2.2.2.1[(Int.toNat v.1.2.2.2.2.2.2.2.2.2.2.2.2.1)]?).bind fun e2015 =>
        let x2016 := (IntKind.u32.wrap ((IntKind.u32.wrap ((IntKind.u32.wrap ((IntKind.u32.wrap (v.1.2.2.2.2.2.2.2.2.2.2.2.1 + (bitI .xor .u32 (bitI .xor .u32 r2002.1.1 r2003.1.1) r2005.1.1))) + (bitI .xor .u32 (bitI .and .u32 v.1.2.2.2.2.2.2.2.2.1 v.1.2.2.2.2.2.2.2.2.2.1) (bitI .and .u32 (bitI .xor .u32 (xorM .u32) v.1.2.2.2.2.2.2.2.2.1) v.1.2.2.2.2.2.2.2.2.2.2.1)))) + e2013)) + e2015))
        (ref03_rotr v.1.2.2.2.2.1 (2 : Int)).bind fun r2017 =>
        (ref03_rotr v.1.2.2.2.2.1 (13 : Int)).bind fun r2018 =>
        (ref03_rotr v.1.2.2.2.2.1 (22 : Int)).bind fun r2020 =>
        some (.inl (((), ((), ((), ((), ((IntKind.u32.wrap (x2016 + (IntKind.u32.wrap ((bitI .xor .u32 (bitI .xor .u32 r2017.1.1 r2018.1.1) r2020.1.1) + (bitI .xor .u32 (bitI .xor .u32 (bitI .and .u32 v.1.2.2.2.2.1 v.1.2.2.2.2.2.1) (bitI .and .u32 v.1.2.2.2.2.1 v.1.2.2.2.2.2.2.1)) (bitI .and .u32 v.1.2.2.2.2.2.1 v.1.2.2.2.2.2.2.1)))))), (v.1.2.2.2.2.1, (v.1.2.2.2.2.2.1, (v.1.2.2.2.2.2.2.1, ((IntKind.u32.wrap (v.1.2.2.2.2.2.2.2.1 + x2016)), (v.1.2.2.2.2.2.2.2.2.1, (v.1.2.2.2.2.2.2.2.2.2.1, (v.1.2.2.2.2.2.2.2.2.2.2.1, ((IntKind.i64.wrap (v.1.2.2.2.2.2.2.2.2.2.2.2.2.1 + (1 : Int))), ()))))))))))))), (v.2.1, (v.2.2.1, (v.2.2.2.1, (v.2.2.2.2.1, ()))))))
      else
        none
    else
      none
  else
    some (.inr (((), ((), (v.1.2.2.2.2.1, (v.1.2.2.2.2.2.1, (v.1.2.2.2.2.2.2.1, (v.1.2.2.2.2.2.2.2.1, (v.1.2.2.2.2.2.2.2.2.1, (v.1.2.2.2.2.2.2.2.2.2.1, (v.1.2.2.2.2.2.2.2.2.2.2.1, (v.1.2.2.2.2.2.2.2.2.2.2.2.1, ())))))))))), (v.2.1, (v.2.2.1, ()))))

/-- lightclient/lightclientref03.Compress -/
def ref03_Compress (a0 : List Int) (a1 : List Int) : Option (((List Int) × Unit) × Unit) :=
  (ref03_schedule a1).bind fun r3 =>
  (ref03_constants).bind fun r4 =>
  bif (inb (0 : Int) (8)) then
    (a0[(0)]?).bind fun e5 =>
    bif (inb (1 : Int) (8)) then
      (a0[(1)]?).bind fun e6 =>
      bif (inb (2 : Int) (8)) then
        (a0[(2)]?).bind fun e7 =>
        bif (inb (3 : Int) (8)) then
          (a0[(3)]?).bind fun e8 =>
          bif (inb (4 : Int) (8)) then
            (a0[(4)]?).bind fun e9 =>
            bif (inb (5 : Int) (8)) then
              (a0[(5)]?).bind fun e10 =>
              bif (inb (6 : Int) (8)) then
                (a0[(6)]?).bind fun e11 =>
                bif (inb (7 : Int) (8)) then
                  (a0[(7)]?).bind fun e12 =>
                  (loopV (ref03_Compress_L1) (((), ((), ((), ((), (e5, (e6, (e7, (e8, (e9, (e10, (e11, (e12, ((0 : Int), ()))))))))))))), (a0, ((List.replicate 8 (0 : Int)), (r3.1.1, (r4.1.1, ())))))).bind fun o13 =>
                  bif (inb (0 : Int) (8)) then
                    (o13.2.1[(0)]?).bind fun e14 =>
                    let x15 := (IntKind.u32.wrap (e14 + o13.1.2.2.1))
                    bif (inb (1 : Int) (8)) then
                      (o13.2.1[(1)]?).bind fun e16 =>
                      let x17 := (IntKind.u32.wrap (e16 + o13.1.2.2.2.1))
                      bif (inb (2 : Int) (8)) then
                        (o13.2.1[(2)]?).bind fun e18 =>
                        let x19 := (IntKind.u32.wrap (e18 + o13.1.2.2.2.2.1))
                        bif (inb (3 : Int) (8)) then
                          (o13.2.1[(3)]?).bind fun e20 =>
                          let x21 := (IntKind.u32.wrap (e20 + o13.1.2.2.2.2.2.1))
                          bif (inb (4 : Int) (8)) then
                            (o13.2.1[(4)]?).bind fun e22 =>
                            let x23 := (IntKind.u32.wrap (e22 + o13.1.2.2.2.2.2.2.1))
                            bif (inb (5 : Int) (8)) then
                              (o13.2.1[(5)]?).bind fun e24 =>
                              let x25 := (IntKind.u32.wrap (e24 + o13.1.2.2.2.2.2.2.2.1))
                              bif (inb (6 : Int) (8)) then
                                (o13.2.1[(6)]?).bind fun e26 =>
                                let x27 := (IntKind.u32.wrap (e26 + o13.1.2.2.2.2.2.2.2.2.1))
                                bif (inb (7 : Int) (8)) then
                                  (o13.2.1[(7)]?).bind fun e28 =>
                                  ((List.replicate 8 (0 : Int))[(0)]?).bind fun e30 =>
                                  (((List.replicate 8 (0 : Int)).set (0) x15)[(1)]?).bind fun e31 =>
                                  ((((List.replicate 8 (0 : Int)).set (0) x15).set (1) x17)[(2)]?).bind fun e32 =>
                                  (((((List.replicate 8 (0 : Int)).set (0) x15).set (1) x17).set (2) x19)[(3)]?).bind fun e33 =>
                                  ((((((List.replicate 8 (0 : Int)).set (0) x15).set (1) x17).set (2) x19).set (3) x21)[(4)]?).bind fun e34 =>
                                  (((((((List.replicate 8 (0 : Int)).set (0) x15).set (1) x17).set (2) x19).set (3) x21).set (4) x23)[(5)]?).bind fun e35 =>
                                  ((((((((List.replicate 8 (0 : Int)).set (0) x15).set (1) x17).set (2) x19).set (3) x21).set (4) x23).set (5) x25)[(6)]?).bind fun e36 =>
                                  (((((((((List.replicate 8 (0 : Int)).set (0) x15).set (1) x17).set (2) x19).set (3) x21).set (4) x23).set (5) x25).set (6) x27)[(7)]?).bind fun e37 =>
                                  some (((((((((((List.replicate 8 (0 : Int)).set (0) x15).set (1) x17).set (2) x19).set (3) x21).set (4) x23).set (5) x25).set (6) x27).set (7) (IntKind.u32.wrap (e28 + o13.1.2.2.2.2.2.2.2.2.2.1))), ()), ())
                                else
                                  none
                              else
                                none
                            else
                              none
                          else
                            none
                        else
                          none
                      else
                        none
                    else
                      none
                  else
                    none
                else
                  none
              else
                none
            else
              none
          else
            none
        else
          none
      else
        none
    else
      none
  else
    none

def ref03_Sum_L1 (v : (Unit × Unit × Unit × Int × Unit) × (List Int) × (List Int) × (List Int) × Unit) : Option (((Unit × Unit × Unit × Int × Unit) × (List Int) × (List Int) × (List Int) × Unit) ⊕ ((Unit × Unit × Unit) × (List Int) × (List Int) × Unit)) :=
  bif (decide ((IntKind.i64.wrap (v.1.2.2.2.1 + (64 : Int))) ≤ (((List.length v.2.2.1) : Int)))) then
    bif (decide (0 ≤ v.1.2.2.2.1) && decide (v.1.2.2.2.1 ≤ ((List.length v.2.2.1) : Int))) then
      (ref03_Compress v.2.2.2.1 (List.take 64 (sub v.2.2.1 (Int.toNat v.1.2.2.2.1) ((List.length v.2.2.1) - (Int.toNat v.1.2.2.2.1))) ++ List.drop (List.length (sub v.2.2.1 (Int.toNat v.1.2.2.2.1) ((List.length v.2.2.1) - (Int.toNat v.1.2.2.2.1)))) (List.replicate 64 (0 : Int)))).bind fun r2006 =>
      some (.inl (((), ((), ((), ((IntKind.i64.wrap (v.1.2.2.2.1 + (64 : Int))), ())))), (v.2.1, (v.2.2.1, (r2006.1.1, ())))))
    else
      none
  else
    some (.inr (((), ((), ())), (v.2.1, (v.2.2.2.1, ()))))

def ref03_Sum_L2 (c33 : List Int) (v : (Unit × Unit × Int × Unit) × (List Int) × (List Int) × Unit) : Option (((Unit × Unit × Int × Unit) × (List Int) × (List Int) × Unit) ⊕ ((Unit × Unit × Unit) × (List Int) × (List Int) × Unit)) :=
  bif (decide (v.1.2.2.1 < (8 : Int))) then
    bif (inb v.1.2.2.1 (8)) then
      let x3002 := (rd (.int .u32) c33 v.1.2.2.1)
      let x3003 := (IntKind.i64.wrap ((4 : Int) * v.1.2.2.1))
      let x3005 := (IntKind.i64.wrap ((IntKind.i64.wrap ((4 : Int) * v.1.2.2.1)) + (1 : Int)))
      let x3007 := (IntKind.i64.wrap ((IntKind.i64.wrap ((4 : Int) * v.1.2.2.1)) + (2 : Int)))
      let x3009 := (IntKind.i64.wrap ((IntKind.i64.wrap ((4 : Int) * v.1.2.2.1)) + (3 : Int)))
      let x3011 := (IntKind.u8.wrap ((shrI .u32 x3002 (24 : Int))))
      let x3013 := (IntKind.u8.wrap ((shrI .u32 x3002 (16 : Int))))
      let x3015 := (IntKind.u8.wrap ((shrI .u32 x3002 (8 : Int))))
      bif (inb x3003 (32)) then
        (v.2.2.1[(Int.toNat x3003)]?).bind fun e3017 =>
        bif (inb x3005 (32)) then
          ((v.2.2.1.set (Int.toNat x3003) x3011)[(Int.toNat x3005)]?).bind fun e3018 =>
          bif (inb x3007 (32)) then
            (((v.2.2.1.set (Int.toNat x3003) x3011).set (Int.toNat x3005) x3013)[(Int.toNat x3007)]?).bind fun e3019 =>
            bif (inb x3009 (32)) then
              ((((v.2.2.1.set (Int.toNat x3003) x3011).set (Int.toNat x3005) x3013).set (Int.toNat x3007) x3015)[(Int.toNat x3009)]?).bind fun e3020 =>
              some (.inl (((), ((), ((IntKind.i64.wrap (v.1.2.2.1 + (1 : Int))), ()))), (v.2.1, (((((v.2.2.1.set (Int.toNat x3003) x3011).set (Int.toNat x3005) x3013).set (Int.toNat x3007) x3015).set (Int.toNat x3009) (IntKind.u8.wrap (x3002))), ()))))
            else
              none
          else
            none
        else
          none
      else
        none
    else
      none
  else
    some (.inr (((), ((), ())), (v.2.1, (v.2.2.1, ()))))

/-- lightclient/lightclientref03.Sum -/
def ref03_Sum (a0 : List Int) : Option (((List Int) × Unit) × Unit) :=
  bif (decide ((List.length a0) ≤ lim)) then
    (ref03_Pad (IntKind.u64.wrap ((((List.length a0) : Int))))).bind fun r4 =>
    bif (decide ((List.length a0) + (List.length r4.2.1) ≤ lim)) then
      (ref03_Initial).bind fun r6 =>
      (loopV (ref03_Sum_L1) (((), ((), ((), ((0 : Int), ())))), ((List.replicate 32 (0 : Int)), ((a0 ++ r4.2.1), (r6.1.1, ()))))).bind fun o7 =>
      (loopV (ref03_Sum_L2 o7.2.2.1) (((), ((), ((0 : Int), ()))), (o7.2.1, ((List.replicate 32 (0 : Int)), ())))).bind fun o8 =>
      some ((o8.2.2.1, ()), ())
    else
      none
  else
    none

/-- lightclient/lightclientref03.Double -/
def ref03_Double (a0 : List Int) : Option (((List Int) × Unit) × Unit) :=
  (ref03_Sum a0).bind fun r2 =>
  (ref03_Sum (sub r2.1.1 (0) (32))).bind fun r3 =>
  some ((r3.1.1, ()), ())

end Go.PE
end
end

section
set_option linter.unusedVariables false
noncomputable section
namespace Go.PE

/-- lightclient/lightclientref20.Header -/
def ref20_Header (a0 : List Int) (a1 : List Int) : Option (((List Int) × Unit) × Unit) :=
  (ref01_Join ([(sub a0 (0) (32)), (sub a1 (0) (32))] : List (List Int))).bind fun r4 =>
  (ref03_Double r4.2.1).bind fun r5 =>
  some ((r5.1.1, ()), ())

/-- lightclient/lightclientref20.Encode -/
def ref20_Encode (a0 : D_b101) : Option ((Unit × Int × Unit) × (List Int) × Unit) :=
  bif (decide (a0.1 < (0 : Int))) then
    some (((), ((4 : Int), ())), (([] : List Int), ()))
  else
    bif (decide ((4096 : Int) < a0.1)) then
      some (((), ((4 : Int), ())), (([] : List Int), ()))
    else
      bif (decide ((200000 : Int) < (((List.length a0.2.1) : Int)))) then
        some (((), ((4 : Int), ())), (([] : List Int), ()))
      else
        (ref01_AppendSize ([] : List Int) (IntKind.u64.wrap (a0.1))).bind fun r7 =>
        (ref01_AppendBytes r7.2.1 a0.2.1).bind fun r8 =>
        some (((), ((0 : Int), ())), (r8.2.1, ()))

/-- lightclient/lightclientref20.Hash -/
def ref20_Hash (a0 : D_b101) : Option (((List Int) × Unit) × Unit) :=
  (ref20_Encode a0).bind fun r2 =>
  bif (!decide (r2.1.2.1 = (0 : Int))) then
    some (((List.replicate 32 (0 : Int)), ()), ())
  else
    (ref03_Double r2.2.1).bind fun r5 =>
    some ((r5.1.1, ()), ())

end Go.PE
end
end

section
set_option linter.unusedVariables false
noncomputable section
namespace Go.PE

/-- lightclient/lightclientref21.Sound -/
def ref21_Sound (a0 : D_d60b) : Option ((Bool × Unit) × Unit) :=
  bif (decide ((((List.length a0.1) : Int)) = (((List.length a0.2.1) : Int)))) then
    some (((decide ((((List.length a0.1) : Int)) ≤ (4096 : Int))), ()), ())
  else
    some ((false, ()), ())

/-- lightclient/lightclientref21.copied -/
def ref21_copied (a0 : List (List Int)) : Option ((Unit × Unit) × (List (List Int)) × Unit) :=
  bif (decide ((List.length a0) ≤ lim)) then
    some (((), ()), (a0, ()))
  else
    none

def ref21_Batch_L1 (c8 : List (List Int)) (c9 : Int) (v : (Unit × Unit × Int × Unit) × (List Int) × (List (List Int)) × Unit) : Option (((Unit × Unit × Int × Unit) × (List Int) × (List (List Int)) × Unit) ⊕ ((Unit × Unit) × (List (List Int)) × Unit)) :=
  bif (decide (v.1.2.2.1 < c9)) then
    bif (inb v.1.2.2.1 (List.length c8)) then
      (ref20_Header (rd (.arr 32 (.int .u8)) c8 v.1.2.2.1) v.2.1).bind fun r2003 =>
      let x2004 := ([r2003.1.1] : List (List Int))
      bif (decide ((List.length v.2.2.1) + (List.length x2004) ≤ lim)) then
        some (.inl (((), ((), ((IntKind.i64.wrap (v.1.2.2.1 + (1 : Int))), ()))), (r2003.1.1, ((v.2.2.1 ++ x2004), ()))))
      else
        none
    else
      none
  else
    some (.inr (((), ()), (v.2.2.1, ())))

/-- lightclient/lightclientref21.Batch -/
def ref21_Batch (a0 : List Int) (a1 : List (List Int)) : Option ((Unit × Unit) × (List (List Int)) × Unit) :=
  (loopV (ref21_Batch_L1 a1 (((List.length a1) : Int))) (((), ((), ((0 : Int), ()))), (a0, (([] : List (List Int)), ())))).bind fun o4 =>
  some (((), ()), (o4.2.1, ()))

def ref21_Extend_J1 (v : (Unit × Unit × Unit × Unit) × D_d60b × (Unit × Unit × Unit) × (List Int) × Unit) : Option ((Unit × Unit × Unit × Unit) × D_d60b × (Unit × Unit × Unit) × (List Int) × Unit) :=
  let x2001 := (((List.length v.2.1.2.1) : Int))
  bif (decide ((0 : Int) < x2001)) then
    let x2003 := (IntKind.i64.wrap (x2001 - (1 : Int)))
    bif (inb x2003 (List.length v.2.1.2.1)) then
      some (((), ((), ((), ()))), (v.2.1, (((), ((), ())), ((rd (.arr 32 (.int .u8)) v.2.1.2.1 x2003), ()))))
    else
      none
  else
    some (((), ((), ((), ()))), (v.2.1, (((), ((), ())), (v.2.2.2.1, ()))))

/-- lightclient/lightclientref21.Extend -/
def ref21_Extend (a0 : D_d60b) (a1 : List (List Int)) (a2 : List (List Int)) : Option (((Unit × Unit × Unit) × Int × Unit) × (List (List Int)) × (List (List Int)) × Unit) :=
  (ref21_Sound a0).bind fun r4 =>
  bif (!r4.1.1) then
    some ((((), ((), ())), ((6 : Int), ())), (([] : List (List Int)), (([] : List (List Int)), ())))
  else
    bif (!decide ((((List.length a1) : Int)) = (((List.length a2) : Int)))) then
      some ((((), ((), ())), ((8 : Int), ())), (([] : List (List Int)), (([] : List (List Int)), ())))
    else
      bif (decide ((4096 : Int) < (IntKind.i64.wrap ((((List.length a0.1) : Int)) + (((List.length a1) : Int)))))) then
        some ((((), ((), ())), ((4 : Int), ())), (([] : List (List Int)), (([] : List (List Int)), ())))
      else
        (ref21_Extend_J1 (((), ((), ((), ()))), (a0, (((), ((), ())), ((List.replicate 32 (0 : Int)), ()))))).bind fun o13 =>
        (ref21_copied o13.2.1.1).bind fun r14 =>
        bif (decide ((List.length r14.2.1) + (List.length a1) ≤ lim)) then
          (ref21_copied o13.2.1.2.1).bind fun r16 =>
          (ref21_Batch o13.2.2.2.1 a2).bind fun r17 =>
          bif (decide ((List.length r16.2.1) + (List.length r17.2.1) ≤ lim)) then
            some ((((), ((), ())), ((0 : Int), ())), ((r14.2.1 ++ a1), ((r16.2.1 ++ r17.2.1), ())))
          else
            none
        else
          none

/-- lightclient/lightclientref21.Same -/
def ref21_Same (a0 : D_d60b) (a1 : D_d60b) : Option ((Bool × Unit) × Unit) :=
  (ref07_SameHashes a0.1 a1.1).bind fun r3 =>
  bif r3.1.1 then
    (ref07_SameHashes a0.2.1 a1.2.1).bind fun r4 =>
    some ((r4.1.1, ()), ())
  else
    some ((false, ()), ())

def ref21_Checkpoints_L1 (c1 : Int) (v : (Unit × Unit × Int × Unit) × D_d60b × (List (List Int)) × Unit) : Option (((Unit × Unit × Int × Unit) × D_d60b × (List (List Int)) × Unit) ⊕ ((Unit × Unit) × (List (List Int)) × Unit)) :=
  bif (decide (v.1.2.2.1 < (((List.length v.2.1.2.1) : Int)))) then
    bif (decide (c1 = 0)) then
      none
    else
      bif (decide ((Int.tmod v.1.2.2.1 c1) = (0 : Int))) then
        bif (inb v.1.2.2.1 (List.length v.2.1.2.1)) then
          let x2006 := ([(rd (.arr 32 (.int .u8)) v.2.1.2.1 v.1.2.2.1)] : List (List Int))
          bif (decide ((List.length v.2.2.1) + (List.length x2006) ≤ lim)) then
            some (.inl (((), ((), ((IntKind.i64.wrap (v.1.2.2.1 + (1 : Int))), ()))), (v.2.1, ((v.2.2.1 ++ x2006), ()))))
          else
            none
        else
          none
      else
        some (.inl (((), ((), ((IntKind.i64.wrap (v.1.2.2.1 + (1 : Int))), ()))), (v.2.1, (v.2.2.1, ()))))
  else
    some (.inr (((), ()), (v.2.2.1, ())))

/-- lightclient/lightclientref21.Checkpoints -/
def ref21_Checkpoints (a0 : D_d60b) (a1 : Int) : Option ((Unit × Unit) × (List (List Int)) × Unit) :=
  bif (decide (a1 ≤ (0 : Int))) then
    some (((), ()), (([] : List (List Int)), ()))
  else
    (ref21_Sound a0).bind fun r4 =>
    bif (!r4.1.1) then
      some (((), ()), (([] : List (List Int)), ()))
    else
      (loopV (ref21_Checkpoints_L1 a1) (((), ((), ((1 : Int), ()))), (a0, (([] : List (List Int)), ())))).bind fun o6 =>
      some (((), ()), (o6.2.1, ()))

def ref21_Differ_J2 (c0 : List (List Int)) (c1 : List (List Int)) (c5 : Int) (v : (Unit) × Unit) : Option (((Unit) × Unit) ⊕ ((Unit) × Unit)) :=
  bif (decide (c5 < (((List.length c0) : Int)))) then
    some (.inl ((), ()))
  else
    bif (decide (c5 < (((List.length c1) : Int)))) then
      some (.inl ((), ()))
    else
      some (.inr ((), ()))

def ref21_Differ_L1 (c0 : List (List Int)) (c1 : List (List Int)) (v : (Int × Unit) × Unit) : Option (((Int × Unit) × Unit) ⊕ (((Int × Unit) × Unit) ⊕ ((Unit) × Unit))) :=
  (ref21_Differ_J2 c0 c1 v.1.1 ((), ())).bind fun o2001 =>
  match o2001 with
  | .inl o2002 =>
    bif (decide ((((List.length c0) : Int)) ≤ v.1.1)) then
      some (.inr (.inl ((v.1.1, ()), ())))
    else
      bif (decide ((((List.length c1) : Int)) ≤ v.1.1)) then
        some (.inr (.inl ((v.1.1, ()), ())))
      else
        bif (inb v.1.1 (List.length c0)) then
          bif (inb v.1.1 (List.length c1)) then
            bif (!(Ty.eqb (.arr 32 (.int .u8)) (rd (.arr 32 (.int .u8)) c0 v.1.1) (rd (.arr 32 (.int .u8)) c1 v.1.1))) then
              some (.inr (.inl ((v.1.1, ()), ())))
            else
              some (.inl (((IntKind.i64.wrap (v.1.1 + (1 : Int))), ()), ()))
          else
            none
        else
          none
  | .inr o2003 =>
    some (.inr (.inr ((), ())))

/-- lightclient/lightclientref21.Differ -/
def ref21_Differ (a0 : List (List Int)) (a1 : List (List Int)) : Option ((Int × Unit) × Unit) :=
  (loopV (ref21_Differ_L1 a0 a1) (((0 : Int), ()), ())).bind fun o3 =>
  match o3 with
  | .inl o4 =>
    some ((o4.1.1, ()), ())
  | .inr o5 =>
    some (((-1 : Int), ()), ())

/-- lightclient/lightclientref21.Rewind -/
def ref21_Rewind (a0 : D_d60b) (a1 : Int) : Option (((Unit × Unit × Unit) × Int × Unit) × (List (List Int)) × (List (List Int)) × Unit) :=
  (ref21_Sound a0).bind fun r3 =>
  bif (!r3.1.1) then
    some ((((), ((), ())), ((6 : Int), ())), (([] : List (List Int)), (([] : List (List Int)), ())))
  else
    bif (decide (a1 < (0 : Int))) then
      some ((((), ((), ())), ((5 : Int), ())), (([] : List (List Int)), (([] : List (List Int)), ())))
    else
      bif (decide ((((List.length a0.1) : Int)) < a1)) then
        some ((((), ((), ())), ((5 : Int), ())), (([] : List (List Int)), (([] : List (List Int)), ())))
      else
        bif (decide (0 ≤ a1) && decide (a1 ≤ ((List.length a0.1) : Int))) then
          (ref21_copied (sub a0.1 (0) (Int.toNat a1))).bind fun r9 =>
          bif (decide (0 ≤ a1) && decide (a1 ≤ ((List.length a0.2.1) : Int))) then
            (ref21_copied (sub a0.2.1 (0) (Int.toNat a1))).bind fun r11 =>
            some ((((), ((), ())), ((0 : Int), ())), (r9.2.1, (r11.2.1, ())))
          else
            none
        else
          none

def ref21_Common_L1 (c1 : List (List Int)) (v : (Unit × Int × Unit) × D_d60b × Unit) : Option (((Unit × Int × Unit) × D_d60b × Unit) ⊕ ((Int × Unit) × Unit)) :=
  bif (decide (v.1.2.1 < (((List.length v.2.1.1) : Int)))) then
    bif (decide (v.1.2.1 < (((List.length c1) : Int)))) then
      bif (inb v.1.2.1 (List.length v.2.1.1)) then
        bif (inb v.1.2.1 (List.length c1)) then
          bif (Ty.eqb (.arr 32 (.int .u8)) (rd (.arr 32 (.int .u8)) v.2.1.1 v.1.2.1) (rd (.arr 32 (.int .u8)) c1 v.1.2.1)) then
            some (.inl (((), ((IntKind.i64.wrap (v.1.2.1 + (1 : Int))), ())), (v.2.1, ())))
          else
            some (.inr ((v.1.2.1, ()), ()))
        else
          none
      else
        none
    else
      some (.inr ((v.1.2.1, ()), ()))
  else
    some (.inr ((v.1.2.1, ()), ()))

/-- lightclient/lightclientref21.Common -/
def ref21_Common (a0 : D_d60b) (a1 : List (List Int)) : Option ((Int × Unit) × Unit) :=
  (ref21_Sound a0).bind fun r3 =>
  bif (!r3.1.1) then
    some (((0 : Int), ()), ())
  else
    (loopV (ref21_Common_L1 a1) (((), ((0 : Int), ())), (a0, ()))).bind fun o5 =>
    some ((o5.1.1, ()), ())

def ref21_Verify_J1 (c1 : Int) (v : (Unit × Unit × Unit × Unit) × D_d60b × D_b101 × (List Int) × Unit) : Option ((Unit × Unit × Unit × Unit) × D_d60b × D_b101 × (List Int) × Unit) :=
  bif (decide ((0 : Int) < c1)) then
    let x2002 := (IntKind.i64.wrap (c1 - (1 : Int)))
    bif (inb x2002 (List.length v.2.1.2.1)) then
      some (((), ((), ((), ()))), (v.2.1, (v.2.2.1, ((rd (.arr 32 (.int .u8)) v.2.1.2.1 x2002), ()))))
    else
      none
  else
    some (((), ((), ((), ()))), (v.2.1, (v.2.2.1, (v.2.2.2.1, ()))))

/-- lightclient/lightclientref21.Verify -/
def ref21_Verify (a0 : D_d60b) (a1 : Int) (a2 : D_b101) : Option ((Int × Unit) × Unit) :=
  (ref21_Sound a0).bind fun r4 =>
  bif (!r4.1.1) then
    some (((6 : Int), ()), ())
  else
    bif (decide (a1 < (0 : Int))) then
      some (((5 : Int), ()), ())
    else
      bif (decide ((((List.length a0.2.1) : Int)) ≤ a1)) then
        some (((5 : Int), ()), ())
      else
        (ref20_Encode a2).bind fun r9 =>
        bif (!decide (r9.1.2.1 = (0 : Int))) then
          some ((r9.1.2.1, ()), ())
        else
          (ref21_Verify_J1 a1 (((), ((), ((), ()))), (a0, (a2, ((List.replicate 32 (0 : Int)), ()))))).bind fun o11 =>
          (ref20_Hash o11.2.2.1).bind fun r12 =>
          (ref20_Header r12.1.1 o11.2.2.2.1).bind fun r13 =>
          bif (inb a1 (List.length o11.2.1.2.1)) then
            bif (!(Ty.eqb (.arr 32 (.int .u8)) r13.1.1 (rd (.arr 32 (.int .u8)) o11.2.1.2.1 a1))) then
              some (((200 : Int), ()), ())
            else
              some (((0 : Int), ()), ())
          else
            none

end Go.PE
end
end

section
set_option linter.unusedVariables false
noncomputable section
namespace Go.PE

/-- lightclient/lightclientlaw21.sane -/
def law21_sane : Option ((Bool × Unit) × Unit) :=
  ((List.replicate 32 (0 : Int))[(0)]?).bind fun e1 =>
  let x2 := ((List.replicate 32 (0 : Int)).set (0) (1 : Int))
  ((List.replicate 32 (0 : Int))[(0)]?).bind fun e3 =>
  let x4 := ((List.replicate 32 (0 : Int)).set (0) (2 : Int))
  (filterchain_Extend (([] : List (List Int)), (([] : List (List Int)), ())) ([x2] : List (List Int)) ([x4] : List (List Int))).bind fun r7 =>
  (filterchain_Differ ([x2, x4] : List (List Int)) ([x2] : List (List Int))).bind fun r10 =>
  bif (decide (r10.1.1 = (1 : Int))) then
    bif (decide (r7.1.2.1 = (0 : Int))) then
      bif (decide ((((List.length r7.2.2.1) : Int)) = (1 : Int))) then
        bif (inb (0 : Int) (List.length r7.2.2.1)) then
          (r7.2.2.1[(0)]?).bind fun e15 =>
          (filter_Header x4 (List.replicate 32 (0 : Int))).bind fun r17 =>
          some (((Ty.eqb (.arr 32 (.int .u8)) e15 r17.1.1), ()), ())
        else
          none
      else
        some ((false, ()), ())
    else
      some ((false, ()), ())
  else
    some ((false, ()), ())

/-- lightclient/lightclientlaw21.kept -/
def law21_kept (a0 : D_d60b) : Option ((Bool × Unit) × Unit) :=
  bif (decide ((((List.length a0.1) : Int)) ≤ (40 : Int))) then
    some (((decide ((((List.length a0.2.1) : Int)) ≤ (40 : Int))), ()), ())
  else
    some ((false, ()), ())

/-- lightclient/lightclientlaw21.few -/
def law21_few (a0 : List (List Int)) (a1 : List (List Int)) : Option ((Bool × Unit) × Unit) :=
  bif (decide ((((List.length a0) : Int)) ≤ (40 : Int))) then
    some (((decide ((((List.length a1) : Int)) ≤ (40 : Int))), ()), ())
  else
    some ((false, ()), ())

/-- lightclient/lightclientlaw21.FilterchainExtends -/
def law21_FilterchainExtends (a0 : D_d60b) (a1 : List (List Int)) (a2 : List (List Int)) (a3 : List Int) : Option ((Bool × Unit) × Unit) :=
  (law21_sane).bind fun r5 =>
  bif (!r5.1.1) then
    some ((false, ()), ())
  else
    (law21_kept a0).bind fun r7 =>
    bif (!r7.1.1) then
      some ((true, ()), ())
    else
      (law21_few a1 a2).bind fun r9 =>
      bif (!r9.1.1) then
        some ((true, ()), ())
      else
        (filterchain_Extend a0 a1 a2).bind fun r11 =>
        (ref21_Extend a0 a1 a2).bind fun r12 =>
        (filterchain_Sound a0).bind fun r13 =>
        (ref21_Sound a0).bind fun r14 =>
        bif (Ty.eqb .bool r13.1.1 r14.1.1) then
          (filterchain_Batch a3 a2).bind fun r16 =>
          (ref21_Batch a3 a2).bind fun r17 =>
          (ref07_SameHashes r16.2.1 r17.2.1).bind fun r18 =>
          bif r18.1.1 then
            bif (decide (r11.1.2.1 = r12.1.2.1)) then
              (ref21_Same (r11.2.1, (r11.2.2.1, ())) (r12.2.1, (r12.2.2.1, ()))).bind fun r20 =>
              some ((r20.1.1, ()), ())
            else
              some ((false, ()), ())
          else
            some ((false, ()), ())
        else
          some ((false, ()), ())

/-- lightclient/lightclientlaw21.FilterchainChecks -/
def law21_FilterchainChecks (a0 : D_d60b) (a1 : Int) (a2 : List (List Int)) (a3 : List (List Int)) : Option ((Bool × Unit) × Unit) :=
  (law21_sane).bind fun r5 =>
  bif (!r5.1.1) then
    some ((false, ()), ())
  else
    (law21_kept a0).bind fun r7 =>
    bif (!r7.1.1) then
      some ((true, ()), ())
    else
      (law21_few a2 a3).bind fun r9 =>
      bif (!r9.1.1) then
        some ((true, ()), ())
      else
        (filterchain_Checkpoints a0 a1).bind fun r11 =>
        (ref21_Checkpoints a0 a1).bind fun r12 =>
        (ref07_SameHashes r11.2.1 r12.2.1).bind fun r13 =>
        bif r13.1.1 then
          (filterchain_Differ a2 a3).bind fun r14 =>
          (ref21_Differ a2 a3).bind fun r15 =>
          bif (decide (r14.1.1 = r15.1.1)) then
            (filterchain_Differ a2 a2).bind fun r17 =>
            some (((decide (r17.1.1 = (-1 : Int))), ()), ())
          else
            some ((false, ()), ())
        else
          some ((false, ()), ())

/-- lightclient/lightclientlaw21.FilterchainRewinds -/
def law21_FilterchainRewinds (a0 : D_d60b) (a1 : Int) (a2 : List (List Int)) : Option ((Bool × Unit) × Unit) :=
  (law21_sane).bind fun r4 =>
  bif (!r4.1.1) then
    some ((false, ()), ())
  else
    (law21_kept a0).bind fun r6 =>
    bif (!r6.1.1) then
      some ((true, ()), ())
    else
      (law21_few a2 ([] : List (List Int))).bind fun r8 =>
      bif (!r8.1.1) then
        some ((true, ()), ())
      else
        (filterchain_Rewind a0 a1).bind fun r10 =>
        (ref21_Rewind a0 a1).bind fun r11 =>
        let x13 := (IntKind.i64.wrap (Int.tdiv (((List.length a0.1) : Int)) (2 : Int)))
        bif (decide (0 ≤ x13) && decide (x13 ≤ ((List.length a0.1) : Int))) then
          let x14 := (sub a0.1 (0) (Int.toNat x13))
          bif (decide ((List.length x14) ≤ lim)) then
            bif (decide ((List.length x14) + (List.length a2) ≤ lim)) then
              let x15 := (x14 ++ a2)
              bif (decide (r10.1.2.1 = r11.1.2.1)) then
                (ref21_Same (r10.2.1, (r10.2.2.1, ())) (r11.2.1, (r11.2.2.1, ()))).bind fun r17 =>
                bif r17.1.1 then
                  (filterchain_Common a0 a2).bind fun r18 =>
                  (ref21_Common a0 a2).bind fun r19 =>
                  bif (decide (r18.1.1 = r19.1.1)) then
                    (filterchain_Common a0 x15).bind fun r21 =>
                    (ref21_Common a0 x15).bind fun r22 =>
                    some (((decide (r21.1.1 = r22.1.1)), ()), ())
                  else
                    some ((false, ()), ())
                else
                  some ((false, ()), ())
              else
                some ((false, ()), ())
            else
              none
          else
            none
        else
          none

/-- lightclient/lightclientlaw21.FilterchainVerifies -/
def law21_FilterchainVerifies (a0 : D_d60b) (a1 : Int) (a2 : D_b101) : Option ((Bool × Unit) × Unit) :=
  (law21_sane).bind fun r4 =>
  bif (!r4.1.1) then
    some ((false, ()), ())
  else
    (law21_kept a0).bind fun r6 =>
    bif (!r6.1.1) then
      some ((true, ()), ())
    else
      bif (decide ((400 : Int) < (((List.length a2.2.1) : Int)))) then
        some ((true, ()), ())
      else
        (filterchain_Verify a0 a1 a2).bind fun r10 =>
        (ref21_Verify a0 a1 a2).bind fun r11 =>
        some (((decide (r10.1.1 = r11.1.1)), ()), ())

end Go.PE
end
end

section
namespace Go.PE
set_option linter.unusedSimpArgs false
/-! ### loops -/
section
variable {σ ω : Type} {step : σ → Option (σ ⊕ ω)}
theorem iter_mono {v : σ} {o : ω} : ∀ {n m : Nat}, n ≤ m → iter step n v = some o → iter step m v = some o := by
  intro n
  induction n generalizing v with
  | zero => intro m _ h; cases h
  | succ n ih =>
    intro m hm h
    cases m with
    | zero => omega
    | succ m =>
      simp only [iter] at h ⊢
      obtain ⟨x, h1, h2⟩ := Option.bind_eq_some_iff.1 h
      rw [h1]
      cases x with
      | inl v' => exact ih (by omega) h2
      | inr o' => exact h2
theorem loopV_of {v : σ} {o : ω} {n : Nat} (h : iter step n v = some o) : loopV step v = some o := by
  unfold loopV
  have hx : ∃ n o, iter step n v = some o := ⟨n, o, h⟩
  rw [dif_pos hx]
  have hc := hx.choose_spec.choose_spec
  have h1 := iter_mono (Nat.le_max_left hx.choose n) hc
  have h2 := iter_mono (Nat.le_max_right hx.choose n) h
  rw [h1] at h2
  exact h2
theorem loopV_next {v v' : σ} (h : step v = some (.inl v')) : loopV step v = loopV step v' := by
  unfold loopV
  have key : ∀ o, (∃ n, iter step n v = some o) ↔ ∃ n, iter step n v' = some o := by
    intro o
    constructor
    · rintro ⟨n, hn⟩
      cases n with
      | zero => cases hn
      | succ n => simp only [iter, h, Option.bind_some] at hn; exact ⟨n, hn⟩
    · rintro ⟨n, hn⟩
      exact ⟨n + 1, by simp only [iter, h, Option.bind_some]; exact hn⟩
  by_cases hx : ∃ n o, iter step n v = some o
  · obtain ⟨n, o, hn⟩ := hx
    obtain ⟨m, hm⟩ := (key o).1 ⟨n, hn⟩
    have e1 := loopV_of hn
    have e2 := loopV_of hm
    unfold loopV at e1 e2
    rw [e1, e2]
  · have hy : ¬ ∃ n o, iter step n v' = some o := by
      rintro ⟨n, o, hn⟩
      obtain ⟨m, hm⟩ := (key o).2 ⟨n, hn⟩
      exact hx ⟨m, o, hm⟩
    rw [dif_neg hx, dif_neg hy]
theorem loopV_done {v : σ} {o : ω} (h : step v = some (.inr o)) : loopV step v = some o :=
  loopV_of (n := 1) (by simp [iter, h])
/-- A loop with a counter: what holds at each round's head leads to the end. -/
theorem loopV_ind {v : σ} {o : ω} (f : Nat → σ) (n : Nat) (hv : v = f 0) (hs : ∀ i, i < n → step (f i) = some (.inl (f (i + 1)))) (he : step (f n) = some (.inr o)) : loopV step v = some o := by
  subst hv
  have : ∀ k, k ≤ n → loopV step (f 0) = loopV step (f k) := by
    intro k
    induction k with
    | zero => intro _; rfl
    | succ k ih => intro hk; rw [ih (by omega), loopV_next (hs k (by omega))]
  rw [this n (Nat.le_refl n), loopV_done he]
/-- A loop by a measure: an invariant that each round keeps, until an end at which Q holds. -/
theorem loopV_inv (I : σ → Prop) (m : σ → Nat) (Q : ω → Prop) {v : σ} (h0 : I v)
    (hs : ∀ v, I v → (∃ v', step v = some (.inl v') ∧ I v' ∧ m v' < m v) ∨ ∃ o, step v = some (.inr o) ∧ Q o) : ∃ o, loopV step v = some o ∧ Q o := by
  generalize hn : m v = n
  induction n using Nat.strongRecOn generalizing v with
  | _ n ih =>
    rcases hs v h0 with ⟨v', h1, h2, h3⟩ | ⟨o, h1, h2⟩
    · obtain ⟨o, h4, h5⟩ := ih (m v') (by omega) h2 rfl
      exact ⟨o, by rw [loopV_next h1]; exact h4, h5⟩
    · exact ⟨o, loopV_done h1, h2⟩
end
/-! ### tests -/
theorem bif_t {α : Type} {c : Bool} {a b : α} (h : c = true) : (bif c then a else b) = a := by rw [h]; rfl
theorem bif_f {α : Type} {c : Bool} {a b : α} (h : c = false) : (bif c then a else b) = b := by rw [h]; rfl
theorem bif_ite {α : Type} {c : Bool} {a b : α} : (bif c then a else b) = if c = true then a else b := by cases c <;> rfl
theorem inb_t {i : Int} {n : Nat} (h : 0 ≤ i ∧ i < n) : inb i n = true := by simp [inb, h]
theorem inb_f {i : Int} {n : Nat} (h : ¬ (0 ≤ i ∧ i < n)) : inb i n = false := by
  cases hb : inb i n with
  | false => rfl
  | true => simp [inb] at hb; exact (h hb).elim
/-! ### numbers -/
theorem tdiv_nn {a b : Int} (h : 0 ≤ a) : a.tdiv b = a / b := Int.tdiv_eq_ediv_of_nonneg h
theorem tmod_nn {a b : Int} (h : 0 ≤ a) : a.tmod b = a % b := Int.tmod_eq_emod_of_nonneg h
theorem ofInt_nat {w : Nat} {a : Int} (h0 : 0 ≤ a) (h1 : a < 2 ^ w) : (BitVec.ofInt w a).toNat = a.toNat := by
  rw [BitVec.toNat_ofInt, Int.emod_eq_of_lt h0 (by exact_mod_cast h1)]
theorem wrap_un {k : IntKind} (hk : k.signed = false) {n : Int} (h0 : 0 ≤ n) (h1 : n < 2 ^ k.bits) : k.wrap n = n := by
  cases k <;> first | (cases hk; done) | skip
  · exact IntWalk.u8_in n ⟨h0, by simp [IntKind.bits] at h1; omega⟩
  · exact IntWalk.u16_in n ⟨h0, by simp [IntKind.bits] at h1; omega⟩
  · exact IntWalk.u32_in n ⟨h0, by simp [IntKind.bits] at h1; omega⟩
  · exact IntWalk.u64_in n ⟨h0, by simp [IntKind.bits] at h1; omega⟩
theorem and_un {k : IntKind} (hk : k.signed = false) {a b : Int} (h0 : 0 ≤ a) (h1 : a < 2 ^ k.bits) (h2 : 0 ≤ b) (h3 : b < 2 ^ k.bits) : bitI .and k a b = ((a.toNat &&& b.toNat : Nat) : Int) := by
  show k.wrap (BitVec.ofInt k.bits a &&& BitVec.ofInt k.bits b).toNat = _
  rw [BitVec.toNat_and, ofInt_nat h0 h1, ofInt_nat h2 h3]
  apply wrap_un hk (by omega)
  have := Nat.and_lt_two_pow a.toNat (show b.toNat < 2 ^ k.bits by
    have : ((2 ^ k.bits : Nat) : Int) = 2 ^ k.bits := by simp
    omega)
  exact_mod_cast this
theorem or_un {k : IntKind} (hk : k.signed = false) {a b : Int} (h0 : 0 ≤ a) (h1 : a < 2 ^ k.bits) (h2 : 0 ≤ b) (h3 : b < 2 ^ k.bits) : bitI .or k a b = ((a.toNat ||| b.toNat : Nat) : Int) := by
  show k.wrap (BitVec.ofInt k.bits a ||| BitVec.ofInt k.bits b).toNat = _
  have e : ((2 ^ k.bits : Nat) : Int) = 2 ^ k.bits := by simp
  rw [BitVec.toNat_or, ofInt_nat h0 h1, ofInt_nat h2 h3]
  apply wrap_un hk (by omega)
  have := Nat.or_lt_two_pow (x := a.toNat) (y := b.toNat) (n := k.bits) (by omega) (by omega)
  exact_mod_cast this
theorem xor_un {k : IntKind} (hk : k.signed = false) {a b : Int} (h0 : 0 ≤ a) (h1 : a < 2 ^ k.bits) (h2 : 0 ≤ b) (h3 : b < 2 ^ k.bits) : bitI .xor k a b = ((a.toNat ^^^ b.toNat : Nat) : Int) := by
  show k.wrap (BitVec.ofInt k.bits a ^^^ BitVec.ofInt k.bits b).toNat = _
  have e : ((2 ^ k.bits : Nat) : Int) = 2 ^ k.bits := by simp
  rw [BitVec.toNat_xor, ofInt_nat h0 h1, ofInt_nat h2 h3]
  apply wrap_un hk (by omega)
  have := Nat.xor_lt_two_pow (x := a.toNat) (y := b.toNat) (n := k.bits) (by omega) (by omega)
  exact_mod_cast this
theorem shr_un {k : IntKind} {a b : Int} (h0 : 0 ≤ a) (h1 : a < 2 ^ k.bits) : shrI k a b = ((a.toNat >>> b.toNat : Nat) : Int) := by
  unfold shrI
  obtain ⟨x, rfl⟩ := Int.eq_ofNat_of_zero_le h0
  have e : ((2 : Int) ^ min b.toNat k.bits) = ((2 ^ min b.toNat k.bits : Nat) : Int) := by simp
  rw [e, Int.fdiv_eq_ediv_of_nonneg _ (Int.natCast_nonneg _), ← Int.natCast_ediv, Int.toNat_natCast, Nat.shiftRight_eq_div_pow]
  congr 1
  by_cases hb : b.toNat ≤ k.bits
  · rw [Nat.min_eq_left hb]
  · rw [Nat.min_eq_right (by omega)]
    have hx : x < 2 ^ k.bits := by exact_mod_cast h1
    rw [Nat.div_eq_of_lt hx, Nat.div_eq_of_lt (Nat.lt_of_lt_of_le hx (Nat.pow_le_pow_right (by omega) (by omega)))]
theorem wrap_un_mod {k : IntKind} (hk : k.signed = false) (n : Int) : k.wrap n = n % 2 ^ k.bits := by
  cases k <;> first | (cases hk; done) | (simp [IntKind.wrap, IntKind.signed, IntKind.bits])
theorem shl_un {k : IntKind} (hk : k.signed = false) {a b : Int} (h0 : 0 ≤ a) : shlI k a b = (((a.toNat <<< b.toNat) % 2 ^ k.bits : Nat) : Int) := by
  unfold shlI
  obtain ⟨x, rfl⟩ := Int.eq_ofNat_of_zero_le h0
  rw [wrap_un_mod hk, Int.toNat_natCast, Nat.shiftLeft_eq]
  have e : ((2 : Int) ^ min b.toNat k.bits) = ((2 ^ min b.toNat k.bits : Nat) : Int) := by simp
  have e2 : ((2 : Int) ^ k.bits) = ((2 ^ k.bits : Nat) : Int) := by simp
  rw [e, e2, ← Int.natCast_mul, ← Int.natCast_emod]
  congr 1
  by_cases hb : b.toNat ≤ k.bits
  · rw [Nat.min_eq_left hb]
  · rw [Nat.min_eq_right (by omega), Nat.mul_mod_left]
    obtain ⟨c, hc⟩ : ∃ c, b.toNat = k.bits + c := ⟨b.toNat - k.bits, by omega⟩
    rw [hc, Nat.pow_add, ← Nat.mul_assoc, Nat.mul_right_comm, Nat.mul_mod_left]
/-! ### lists -/
theorem rd_eq {t : Ty} {xs : List t.den} {i : Int} : rd t xs i = xs.getD i.toNat t.dflt := rfl
theorem eqList_iff {α : Type} {f : α → α → Bool} (hf : ∀ a b, f a b = true ↔ a = b) : ∀ {x y : List α}, eqList f x y = true ↔ x = y := by
  intro x
  induction x with
  | nil => intro y; cases y <;> simp [eqList]
  | cons a x ih => intro y; cases y with
    | nil => simp [eqList]
    | cons b y => simp [eqList, hf, ih]
theorem eqList_int {x y : List Int} : eqList (fun (x y : Int) => decide (x = y)) x y = decide (x = y) := by
  rw [Bool.eq_iff_iff, eqList_iff (by simp)]; simp
end Go.PE
end

section
namespace Go.PE
set_option linter.unusedSimpArgs false
theorem loopV_all {σ ω : Type} {step : σ → Option (σ ⊕ ω)} {v : σ} (f : Nat → σ) (n : Nat) (p : Nat → Bool) {bad good : ω} {b : Bool} (hv : v = f 0) (hb : b = true ↔ ∀ i, i < n → p i = true)
    (hs : ∀ i, i < n → step (f i) = some (bif p i then .inl (f (i + 1)) else .inr bad)) (he : step (f n) = some (.inr good)) : loopV step v = some (bif b then good else bad) := by
  subst hv
  have key : ∀ k i, i + k = n → ((∀ j, i ≤ j → j < n → p j = true) → loopV step (f i) = some good) ∧ ((∃ j, i ≤ j ∧ j < n ∧ p j = false) → loopV step (f i) = some bad) := by
    intro k
    induction k with
    | zero =>
      intro i hi
      have : i = n := by omega
      subst this
      exact ⟨fun _ => loopV_done he, fun ⟨j, h1, h2, _⟩ => by omega⟩
    | succ k ih =>
      intro i hi
      have h := hs i (by omega)
      obtain ⟨ih1, ih2⟩ := ih (i + 1) (by omega)
      cases hp : p i with
      | true =>
        rw [hp] at h
        rw [loopV_next h]
        refine ⟨fun ha => ih1 fun j h1 h2 => ha j (by omega) h2, fun ⟨j, h1, h2, h3⟩ => ih2 ⟨j, ?_, h2, h3⟩⟩
        rcases Nat.lt_or_ge i j with h4 | h4
        · exact h4
        · have : j = i := by omega
          subst this; rw [hp] at h3; cases h3
      | false =>
        rw [hp] at h
        rw [loopV_done h]
        exact ⟨fun ha => absurd (ha i (Nat.le_refl i) (by omega)) (by rw [hp]; simp), fun _ => rfl⟩
  obtain ⟨k1, k2⟩ := key n 0 (by omega)
  cases b with
  | true => exact k1 fun j _ h => hb.1 rfl j h
  | false =>
    refine k2 ?_
    apply Classical.byContradiction
    intro hn
    have : false = true := hb.2 fun i hi => by
      cases hp : p i with
      | true => rfl
      | false => exact (hn ⟨i, Nat.zero_le i, hi, hp⟩).elim
    cases this
theorem i64_up {i n : Nat} (h : i < n) (hn : n ≤ big) : IntKind.i64.wrap ((i : Int) + 1) = ((i + 1 : Nat) : Int) := by
  have : n ≤ 9223372036854775807 := hn
  rw [IntWalk.i64_in _ (by omega)]; simp
theorem inb_nat {i n : Nat} (h : i < n) : inb (i : Int) n = true := inb_t (by omega)
theorem rd_nat {t : Ty} {xs : List t.den} {i : Nat} : rd t xs (i : Int) = xs.getD i t.dflt := rfl
theorem rd_in {t : Ty} {xs : List t.den} {i : Nat} (h : i < xs.length) : rd t xs (i : Int) = xs[i] := by
  rw [rd_nat, List.getD_eq_getElem?_getD, List.getElem?_eq_getElem h]; rfl
end Go.PE
end

section
namespace Go.PE
set_option linter.unusedSimpArgs false
set_option linter.unusedVariables false
/-- A number's low bytes, the lowest first. -/
def le (v n : Nat) : List Int := (List.range n).map fun i => ((v / 256 ^ i % 256 : Nat) : Int)
theorem le_len {v n : Nat} : (le v n).length = n := by simp [le]
theorem le_up {v i : Nat} : le v (i + 1) = le v i ++ [((v / 256 ^ i % 256 : Nat) : Int)] := by simp [le, List.range_succ]
theorem le_byte {v i : Nat} (hv : v < 2 ^ 64) (hi : i < 8) : IntKind.u8.wrap (shrI .u64 (v : Int) ((8 * i : Nat) : Int)) = ((v / 256 ^ i % 256 : Nat) : Int) := by
  rw [shr_un (by omega) (by simp [IntKind.bits]; omega), wrap_un_mod rfl]
  simp only [Int.toNat_natCast, Nat.shiftRight_eq_div_pow, IntKind.bits, Nat.pow_mul]
  simp
theorem put_step {i : Nat} (hi : i < 8) : IntKind.i64.wrap ((8 : Int) * (i : Int)) = ((8 * i : Nat) : Int) := by
  rw [IntWalk.i64_in _ (by omega)]; simp
theorem lim_eq : lim = 1073741824 := rfl
section
variable {a : List Int} {v n : Nat}
theorem codec_put_uint64_eq (hv : v < 2 ^ 64) (hn : n ≤ 8) (hl : a.length + n ≤ lim) : codec_put_uint64 a (v : Int) (n : Int) = some (((), ()), (a ++ le v n, ())) := by
  unfold codec_put_uint64
  rw [lim_eq] at hl
  rw [IntWalk.i64_in _ (by omega)]
  have h1 : ((0 : Int) ≤ (a.length : Int) + (n : Int)) := by omega
  have h2 : ((a.length : Int) + (n : Int) ≤ ((lim : Nat) : Int)) := by rw [lim_eq]; omega
  have h3 : a.length ≤ lim := by rw [lim_eq]; omega
  simp only [Int.le_refl, h1, h2, decide_true, Bool.and_self, cond_true, List.replicate_zero, List.length_nil, Nat.zero_add, h3, List.nil_append]
  rw [loopV_ind (step := codec_put_uint64_L1 (v : Int) (n : Int)) (o := (((), ()), (a ++ le v n, ()))) (fun i => (((), ((i : Int), ())), (a ++ le v i, ()))) n ?_ ?_ ?_]
  · rfl
  · simp [le]
  · intro i hi
    unfold codec_put_uint64_L1
    have h4 : ((i : Int) < (n : Int)) := by omega
    have h5 : ¬ (((8 * i : Nat) : Int) < 0) := by omega
    have h6 : a.length + i + 1 ≤ lim := by rw [lim_eq]; omega
    have h7 := put_step (show i < 8 by omega)
    simp only [h4, decide_true, cond_true]
    simp only [h7, h5, decide_false, cond_false, le_byte hv (show i < 8 by omega), i64_up hi (show n ≤ big from Nat.le_trans hn (by decide)), List.length_append, le_len, List.length_singleton, h6, le_up, List.append_assoc, decide_true, cond_true]
  · simp [codec_put_uint64_L1]
end
theorem codec_put_uint8_eq {a : List Int} {v n : Nat} (hv : v < 2 ^ 8) (hn : n ≤ 8) (hl : a.length + n ≤ lim) : codec_put_uint8 a (v : Int) (n : Int) = some (((), ()), (a ++ le v n, ())) := by
  unfold codec_put_uint8
  have hv64 : v < 2 ^ 64 := by omega
  rw [lim_eq] at hl
  rw [IntWalk.i64_in _ (by omega)]
  have h1 : ((0 : Int) ≤ (a.length : Int) + (n : Int)) := by omega
  have h2 : ((a.length : Int) + (n : Int) ≤ ((lim : Nat) : Int)) := by rw [lim_eq]; omega
  have h3 : a.length ≤ lim := by rw [lim_eq]; omega
  have hw : IntKind.u64.wrap (v : Int) = (v : Int) := wrap_un rfl (by omega) (by simp [IntKind.bits]; omega)
  simp only [Int.le_refl, h1, h2, decide_true, Bool.and_self, cond_true, List.replicate_zero, List.length_nil, Nat.zero_add, h3, List.nil_append]
  rw [loopV_ind (step := codec_put_uint8_L1 (v : Int) (n : Int)) (o := (((), ()), (a ++ le v n, ()))) (fun i => (((), ((i : Int), ())), (a ++ le v i, ()))) n ?_ ?_ ?_]
  · rfl
  · simp [le]
  · intro i hi
    unfold codec_put_uint8_L1
    have h4 : ((i : Int) < (n : Int)) := by omega
    have h5 : ¬ (((8 * i : Nat) : Int) < 0) := by omega
    have h6 : a.length + i + 1 ≤ lim := by rw [lim_eq]; omega
    have h7 := put_step (show i < 8 by omega)
    simp only [h4, decide_true, cond_true]
    simp only [h7, h5, decide_false, cond_false, hw, le_byte hv64 (show i < 8 by omega), i64_up hi (show n ≤ big from Nat.le_trans hn (by decide)), List.length_append, le_len, List.length_singleton, h6, le_up, List.append_assoc, decide_true, cond_true]
  · simp [codec_put_uint8_L1]
theorem codec_put_uint16_eq {a : List Int} {v n : Nat} (hv : v < 2 ^ 16) (hn : n ≤ 8) (hl : a.length + n ≤ lim) : codec_put_uint16 a (v : Int) (n : Int) = some (((), ()), (a ++ le v n, ())) := by
  unfold codec_put_uint16
  have hv64 : v < 2 ^ 64 := by omega
  rw [lim_eq] at hl
  rw [IntWalk.i64_in _ (by omega)]
  have h1 : ((0 : Int) ≤ (a.length : Int) + (n : Int)) := by omega
  have h2 : ((a.length : Int) + (n : Int) ≤ ((lim : Nat) : Int)) := by rw [lim_eq]; omega
  have h3 : a.length ≤ lim := by rw [lim_eq]; omega
  have hw : IntKind.u64.wrap (v : Int) = (v : Int) := wrap_un rfl (by omega) (by simp [IntKind.bits]; omega)
  simp only [Int.le_refl, h1, h2, decide_true, Bool.and_self, cond_true, List.replicate_zero, List.length_nil, Nat.zero_add, h3, List.nil_append]
  rw [loopV_ind (step := codec_put_uint16_L1 (v : Int) (n : Int)) (o := (((), ()), (a ++ le v n, ()))) (fun i => (((), ((i : Int), ())), (a ++ le v i, ()))) n ?_ ?_ ?_]
  · rfl
  · simp [le]
  · intro i hi
    unfold codec_put_uint16_L1
    have h4 : ((i : Int) < (n : Int)) := by omega
    have h5 : ¬ (((8 * i : Nat) : Int) < 0) := by omega
    have h6 : a.length + i + 1 ≤ lim := by rw [lim_eq]; omega
    have h7 := put_step (show i < 8 by omega)
    simp only [h4, decide_true, cond_true]
    simp only [h7, h5, decide_false, cond_false, hw, le_byte hv64 (show i < 8 by omega), i64_up hi (show n ≤ big from Nat.le_trans hn (by decide)), List.length_append, le_len, List.length_singleton, h6, le_up, List.append_assoc, decide_true, cond_true]
  · simp [codec_put_uint16_L1]
theorem codec_put_uint32_eq {a : List Int} {v n : Nat} (hv : v < 2 ^ 32) (hn : n ≤ 8) (hl : a.length + n ≤ lim) : codec_put_uint32 a (v : Int) (n : Int) = some (((), ()), (a ++ le v n, ())) := by
  unfold codec_put_uint32
  have hv64 : v < 2 ^ 64 := by omega
  rw [lim_eq] at hl
  rw [IntWalk.i64_in _ (by omega)]
  have h1 : ((0 : Int) ≤ (a.length : Int) + (n : Int)) := by omega
  have h2 : ((a.length : Int) + (n : Int) ≤ ((lim : Nat) : Int)) := by rw [lim_eq]; omega
  have h3 : a.length ≤ lim := by rw [lim_eq]; omega
  have hw : IntKind.u64.wrap (v : Int) = (v : Int) := wrap_un rfl (by omega) (by simp [IntKind.bits]; omega)
  simp only [Int.le_refl, h1, h2, decide_true, Bool.and_self, cond_true, List.replicate_zero, List.length_nil, Nat.zero_add, h3, List.nil_append]
  rw [loopV_ind (step := codec_put_uint32_L1 (v : Int) (n : Int)) (o := (((), ()), (a ++ le v n, ()))) (fun i => (((), ((i : Int), ())), (a ++ le v i, ()))) n ?_ ?_ ?_]
  · rfl
  · simp [le]
  · intro i hi
    unfold codec_put_uint32_L1
    have h4 : ((i : Int) < (n : Int)) := by omega
    have h5 : ¬ (((8 * i : Nat) : Int) < 0) := by omega
    have h6 : a.length + i + 1 ≤ lim := by rw [lim_eq]; omega
    have h7 := put_step (show i < 8 by omega)
    simp only [h4, decide_true, cond_true]
    simp only [h7, h5, decide_false, cond_false, hw, le_byte hv64 (show i < 8 by omega), i64_up hi (show n ≤ big from Nat.le_trans hn (by decide)), List.length_append, le_len, List.length_singleton, h6, le_up, List.append_assoc, decide_true, cond_true]
  · simp [codec_put_uint32_L1]
/-- A length's text. -/
def sizeV (v : Nat) : List Int := if v < 253 then le v 1 else if v < 65536 then 253 :: le v 2 else if v < 4294967296 then 254 :: le v 4 else 255 :: le v 8
theorem sizeV_len {v : Nat} : 1 ≤ (sizeV v).length ∧ (sizeV v).length ≤ 9 := by
  unfold sizeV
  split
  · simp [le_len]
  · split
    · simp [le_len]
    · split <;> simp [le_len]
section
variable {a : List Int} {v : Nat}
theorem codec_AppendU32_eq (hv : v < 2 ^ 32) (hl : a.length + 4 ≤ lim) : codec_AppendU32 a (v : Int) = some (((), ()), (a ++ le v 4, ())) := by
  unfold codec_AppendU32
  rw [show (4 : Int) = ((4 : Nat) : Int) from rfl, codec_put_uint32_eq hv (by omega) hl]; rfl
theorem codec_AppendU64_eq (hv : v < 2 ^ 64) (hl : a.length + 8 ≤ lim) : codec_AppendU64 a (v : Int) = some (((), ()), (a ++ le v 8, ())) := by
  unfold codec_AppendU64
  rw [show (8 : Int) = ((8 : Nat) : Int) from rfl, codec_put_uint64_eq hv (by omega) hl]; rfl
theorem byte1 (hl : a.length + 9 ≤ lim) (c : Nat) (hc : c < 256) : codec_put_uint8 a (c : Int) 1 = some (((), ()), (a ++ [(c : Int)], ())) := by
  rw [show (1 : Int) = ((1 : Nat) : Int) from rfl, codec_put_uint8_eq (by omega) (by omega) (by omega)]
  rw [show le c 1 = [(c : Int)] by simp only [le, List.range_one, List.map_cons, List.map_nil, Nat.pow_zero, Nat.div_one, Nat.mod_eq_of_lt hc]]
theorem size1 (h : v < 253) (hl : a.length + 9 ≤ lim) : codec_put_uint8 a (IntKind.u8.wrap (v : Int)) 1 = some (((), ()), (a ++ le v 1, ())) := by
  rw [wrap_un rfl (by omega) (by simp only [IntKind.bits]; omega), show (1 : Int) = ((1 : Nat) : Int) from rfl, codec_put_uint8_eq (by omega) (by omega) (by omega)]
theorem size2 (h : v < 65536) (hl : a.length + 9 ≤ lim) : codec_put_uint16 (a ++ [253]) (IntKind.u16.wrap (v : Int)) 2 = some (((), ()), (a ++ 253 :: le v 2, ())) := by
  have h2 : (a ++ [(253 : Int)]).length + 2 ≤ lim := by rw [List.length_append, List.length_singleton]; omega
  rw [wrap_un rfl (by omega) (by simp only [IntKind.bits]; omega), show (2 : Int) = ((2 : Nat) : Int) from rfl, codec_put_uint16_eq (by omega) (by omega) h2, List.append_assoc]; rfl
theorem size4 (h : v < 4294967296) (hl : a.length + 9 ≤ lim) : codec_put_uint32 (a ++ [254]) (IntKind.u32.wrap (v : Int)) 4 = some (((), ()), (a ++ 254 :: le v 4, ())) := by
  have h2 : (a ++ [(254 : Int)]).length + 4 ≤ lim := by rw [List.length_append, List.length_singleton]; omega
  rw [wrap_un rfl (by omega) (by simp only [IntKind.bits]; omega), show (4 : Int) = ((4 : Nat) : Int) from rfl, codec_put_uint32_eq (by omega) (by omega) h2, List.append_assoc]; rfl
theorem size8 (h : v < 2 ^ 64) (hl : a.length + 9 ≤ lim) : codec_put_uint64 (a ++ [255]) (v : Int) 8 = some (((), ()), (a ++ 255 :: le v 8, ())) := by
  have h2 : (a ++ [(255 : Int)]).length + 8 ≤ lim := by rw [List.length_append, List.length_singleton]; omega
  rw [show (8 : Int) = ((8 : Nat) : Int) from rfl, codec_put_uint64_eq h (by omega) h2, List.append_assoc]; rfl
theorem lt_dec {v c : Nat} : decide ((v : Int) < (c : Int)) = decide (v < c) := by simp
theorem codec_AppendSize_eq (hv : v < 2 ^ 64) (hl : a.length + 9 ≤ lim) : codec_AppendSize a (v : Int) = some (((), ()), (a ++ sizeV v, ())) := by
  unfold codec_AppendSize sizeV
  rw [show (253 : Int) = ((253 : Nat) : Int) from rfl, show (254 : Int) = ((254 : Nat) : Int) from rfl, show (255 : Int) = ((255 : Nat) : Int) from rfl, show (65536 : Int) = ((65536 : Nat) : Int) from rfl, show (4294967296 : Int) = ((4294967296 : Nat) : Int) from rfl, lt_dec, lt_dec, lt_dec, byte1 hl 253 (by omega), byte1 hl 254 (by omega), byte1 hl 255 (by omega)]
  by_cases h1 : v < 253
  · rw [if_pos h1, bif_t (decide_eq_true h1), size1 h1 hl]; rfl
  · rw [if_neg h1, bif_f (decide_eq_false h1)]
    by_cases h2 : v < 65536
    · rw [if_pos h2, bif_t (decide_eq_true h2), Option.bind_some]
      rw [show (((253 : Nat) : Int)) = 253 from rfl, size2 h2 hl]; rfl
    · rw [if_neg h2, bif_f (decide_eq_false h2)]
      by_cases h3 : v < 4294967296
      · rw [if_pos h3, bif_t (decide_eq_true h3), Option.bind_some]
        rw [show (((254 : Nat) : Int)) = 254 from rfl, size4 h3 hl]; rfl
      · rw [if_neg h3, bif_f (decide_eq_false h3), Option.bind_some]
        rw [show (((255 : Nat) : Int)) = 255 from rfl, size8 hv hl]; rfl
theorem codec_AppendHash_eq {h : List Int} (hh : h.length = 32) (hl : a.length + 32 ≤ lim) : codec_AppendHash a h = some (((), ()), (a ++ h, ())) := by
  unfold codec_AppendHash
  have hl' := hl
  rw [lim_eq] at hl
  rw [IntWalk.i64_in _ (by omega)]
  have h1 : ((0 : Int) ≤ (a.length : Int) + 32) := by omega
  have h2 : ((a.length : Int) + 32 ≤ ((lim : Nat) : Int)) := by rw [lim_eq]; omega
  have h3 : a.length ≤ lim := by rw [lim_eq]; omega
  have h4 : sub h 0 32 = h := by unfold sub; rw [List.drop_zero, List.take_of_length_le (by omega)]
  have h5 : a.length + h.length ≤ lim := by rw [hh]; exact hl'
  simp only [Int.le_refl, h1, h2, decide_true, Bool.and_self, cond_true, List.replicate_zero, List.length_nil, Nat.zero_add, h3, List.nil_append, h4, h5]
theorem codec_AppendBytes_eq {b : List Int} (hl : a.length + 9 + b.length ≤ lim) : codec_AppendBytes a b = some (((), ()), (a ++ (sizeV b.length ++ b), ())) := by
  unfold codec_AppendBytes
  have hl' := hl
  rw [lim_eq] at hl
  rw [wrap_un rfl (by omega) (by simp [IntKind.bits]; omega), codec_AppendSize_eq (by omega) (by omega)]
  simp only [Option.bind_some]
  have := @sizeV_len b.length
  have h1 : (a ++ sizeV b.length).length + b.length ≤ lim := by rw [List.length_append, lim_eq]; omega
  simp only [h1, decide_true, cond_true, List.append_assoc]
end
end Go.PE
end

section
namespace Go.PE
set_option linter.unusedSimpArgs false
set_option linter.unusedVariables false
def rotV (x n : Int) : Int :=
  bitI .or .u32 (shlI .u32 x (bitI .and .u64 (IntKind.u64.wrap (IntKind.i64.wrap (-n))) 31)) (shrI .u32 x (IntKind.u64.wrap (32 - bitI .and .u64 (IntKind.u64.wrap (IntKind.i64.wrap (-n))) 31)))
theorem sha_rotr_eq {x n : Int} : sha_rotr x n = some ((rotV x n, ()), ()) := rfl
theorem get_some {l : List Int} {i : Nat} (h : i < l.length) : l[i]? = some (l.getD i 0) := by
  rw [List.getD_eq_getElem?_getD, List.getElem?_eq_getElem h]; rfl
/-- The schedule's first part. -/
def wA (c : List Int) : Nat → List Int
  | 0 => List.replicate 64 0
  | i + 1 => (wA c i).set (i / 4) (bitI .or .u32 (shlI .u32 ((wA c i).getD (i / 4) 0) 8) (IntKind.u32.wrap (c.getD i 0)))
theorem wA_len {c : List Int} : ∀ {i}, (wA c i).length = 64 := by
  intro i
  induction i with
  | zero => simp [wA]
  | succ i ih => simp [wA, ih]
def s0V (x : Int) : Int := bitI .xor .u32 (bitI .xor .u32 (rotV x 7) (rotV x 18)) (shrI .u32 x 3)
def s1V (x : Int) : Int := bitI .xor .u32 (bitI .xor .u32 (rotV x 17) (rotV x 19)) (shrI .u32 x 10)
def wS (w : List Int) (i : Nat) : Int :=
  IntKind.u32.wrap (IntKind.u32.wrap (IntKind.u32.wrap (w.getD (i - 16) 0 + s0V (w.getD (i - 15) 0)) + w.getD (i - 7) 0) + s1V (w.getD (i - 2) 0))
def wB (w : List Int) : Nat → List Int
  | 0 => w
  | n + 1 => (wB w n).set (16 + n) (wS (wB w n) (16 + n))
theorem wB_len {w : List Int} (h : w.length = 64) : ∀ {i}, (wB w i).length = 64 := by
  intro i
  induction i with
  | zero => exact h
  | succ i ih => simp [wB, ih]
def schedV (c : List Int) : List Int := wB (wA c 64) 48
theorem quarter {i : Nat} (h : i < 64) : IntKind.i64.wrap (Int.tdiv (i : Int) 4) = ((i / 4 : Nat) : Int) := by
  rw [tdiv_nn (by omega), IntWalk.i64_in _ (by omega)]; simp
theorem minus_nat {i k : Nat} (h : i < 64) (hk : k ≤ i) : IntKind.i64.wrap ((i : Int) - (k : Int)) = ((i - k : Nat) : Int) := by
  rw [IntWalk.i64_in _ (by omega)]; omega
theorem up_nat {i n : Nat} (h : i < n) (hn : n ≤ 64) : IntKind.i64.wrap ((i : Int) + 1) = ((i + 1 : Nat) : Int) := i64_up h (Nat.le_trans hn (by decide))
theorem sha_schedule_eq {c : List Int} : sha_schedule c = some ((schedV c, ()), ()) := by
  unfold sha_schedule
  rw [loopV_ind (step := sha_schedule_L1 c) (o := (((), ((), ())), (List.replicate 64 0, (wA c 64, ())))) (fun i => (((), ((), ((i : Int), ()))), (List.replicate 64 0, (wA c i, ())))) 64 ?_ ?_ ?_]
  · simp only [Option.bind_some]
    rw [loopV_ind (step := sha_schedule_L2) (o := (((), ((), ())), (List.replicate 64 0, (schedV c, ())))) (fun n => (((), ((), (((16 + n : Nat) : Int), ()))), (List.replicate 64 0, (wB (wA c 64) n, ())))) 48 ?_ ?_ ?_]
    · simp only [Option.bind_some]
    · simp only [wB, Nat.add_zero]; rfl
    · intro n hn
      have e : wB (wA c 64) (n + 1) = (wB (wA c 64) n).set (16 + n) (wS (wB (wA c 64) n) (16 + n)) := rfl
      rw [e]
      generalize hw : wB (wA c 64) n = W
      unfold sha_schedule_L2
      have hl : W.length = 64 := by rw [← hw]; exact wB_len wA_len
      have h1 : (((16 + n : Nat) : Int) < 64) := by omega
      have h15 : IntKind.i64.wrap (((16 + n : Nat) : Int) - 15) = ((16 + n - 15 : Nat) : Int) := minus_nat (k := 15) (by omega) (by omega)
      have h2 : IntKind.i64.wrap (((16 + n : Nat) : Int) - 2) = ((16 + n - 2 : Nat) : Int) := minus_nat (k := 2) (by omega) (by omega)
      have h16 : IntKind.i64.wrap (((16 + n : Nat) : Int) - 16) = ((16 + n - 16 : Nat) : Int) := minus_nat (k := 16) (by omega) (by omega)
      have h7 : IntKind.i64.wrap (((16 + n : Nat) : Int) - 7) = ((16 + n - 7 : Nat) : Int) := minus_nat (k := 7) (by omega) (by omega)
      have hup : IntKind.i64.wrap (((16 + n : Nat) : Int) + 1) = ((16 + (n + 1) : Nat) : Int) := up_nat (i := 16 + n) (n := 64) (by omega) (by omega)
      have b0 : inb ((16 + n : Nat) : Int) 64 = true := inb_nat (by omega)
      have b15 : inb ((16 + n - 15 : Nat) : Int) 64 = true := inb_nat (by omega)
      have b2 : inb ((16 + n - 2 : Nat) : Int) 64 = true := inb_nat (by omega)
      have b16 : inb ((16 + n - 16 : Nat) : Int) 64 = true := inb_nat (by omega)
      have b7 : inb ((16 + n - 7 : Nat) : Int) 64 = true := inb_nat (by omega)
      have g0 := get_some (l := W) (i := 16 + n) (by omega)
      have g15 := get_some (l := W) (i := 16 + n - 15) (by omega)
      have g2 := get_some (l := W) (i := 16 + n - 2) (by omega)
      have g16 := get_some (l := W) (i := 16 + n - 16) (by omega)
      have g7 := get_some (l := W) (i := 16 + n - 7) (by omega)
      simp only [h1, decide_true, cond_true, h15, h2, h16, h7, b0, b15, b2, b16, b7, Int.toNat_natCast, g0, g15, g2, g16, g7, Option.bind_some, sha_rotr_eq, hup, wS, s0V, s1V]
    · simp only [sha_schedule_L2, schedV]; rfl
  · simp only [wA]; rfl
  · intro i hi
    have e : wA c (i + 1) = (wA c i).set (i / 4) (bitI .or .u32 (shlI .u32 ((wA c i).getD (i / 4) 0) 8) (IntKind.u32.wrap (c.getD i 0))) := rfl
    rw [e]
    have hl : (wA c i).length = 64 := wA_len
    generalize wA c i = W at hl ⊢
    unfold sha_schedule_L1
    have h1 : ((i : Int) < 64) := by omega
    have b1 : inb (i : Int) 64 = true := inb_nat hi
    have b2 : inb ((i / 4 : Nat) : Int) 64 = true := inb_nat (by omega)
    have g := get_some (l := W) (i := i / 4) (by omega)
    have hup := up_nat hi (Nat.le_refl 64)
    simp only [h1, decide_true, cond_true, b1, quarter hi, b2, Int.toNat_natCast, g, Option.bind_some, hup, rd_nat]
    rfl
  · simp only [sha_schedule_L1]; rfl
/-- One round. -/
def t1V (s : List Int) (k w : Int) : Int :=
  IntKind.u32.wrap (IntKind.u32.wrap (IntKind.u32.wrap (IntKind.u32.wrap (s.getD 7 0 + bitI .xor .u32 (bitI .xor .u32 (rotV (s.getD 4 0) 6) (rotV (s.getD 4 0) 11)) (rotV (s.getD 4 0) 25)) +
    bitI .xor .u32 (bitI .and .u32 (s.getD 4 0) (s.getD 5 0)) (bitI .and .u32 (bitI .xor .u32 (xorM .u32) (s.getD 4 0)) (s.getD 6 0))) + k) + w)
def t2V (s : List Int) : Int :=
  IntKind.u32.wrap (bitI .xor .u32 (bitI .xor .u32 (rotV (s.getD 0 0) 2) (rotV (s.getD 0 0) 13)) (rotV (s.getD 0 0) 22) +
    bitI .xor .u32 (bitI .xor .u32 (bitI .and .u32 (s.getD 0 0) (s.getD 1 0)) (bitI .and .u32 (s.getD 0 0) (s.getD 2 0))) (bitI .and .u32 (s.getD 1 0) (s.getD 2 0)))
def rndV (s : List Int) (k w : Int) : List Int :=
  [IntKind.u32.wrap (t1V s k w + t2V s), s.getD 0 0, s.getD 1 0, s.getD 2 0, IntKind.u32.wrap (s.getD 3 0 + t1V s k w), s.getD 4 0, s.getD 5 0, s.getD 6 0]
def rA (s w : List Int) : Nat → List Int
  | 0 => s
  | i + 1 => rndV (rA s w i) (G_c990df.getD i 0) (w.getD i 0)
theorem rA_len {s w : List Int} (h : s.length = 8) : ∀ {i}, (rA s w i).length = 8 := by
  intro i
  cases i with
  | zero => exact h
  | succ i => rfl
def fA (s st : List Int) : Nat → List Int
  | 0 => s
  | i + 1 => (fA s st i).set i (IntKind.u32.wrap ((fA s st i).getD i 0 + st.getD i 0))
theorem fA_len {s st : List Int} (h : s.length = 8) : ∀ {i}, (fA s st i).length = 8 := by
  intro i
  induction i with
  | zero => exact h
  | succ i ih => simp [fA, ih]
def compV (st c : List Int) : List Int := fA (rA st (schedV c) 64) st 8
theorem compV_len {st c : List Int} (h : st.length = 8) : (compV st c).length = 8 := fA_len (rA_len h)
theorem schedV_len {c : List Int} : (schedV c).length = 64 := wB_len wA_len
theorem sha_Compress_eq {st c : List Int} (hst : st.length = 8) : sha_Compress st c = some ((compV st c, ()), ()) := by
  unfold sha_Compress
  rw [sha_schedule_eq]
  simp only [Option.bind_some]
  rw [loopV_ind (step := sha_Compress_L1 G_c990df) (o := (((), ((), ((), ()))), (st, (List.replicate 8 0, (rA st (schedV c) 64, ()))))) (fun i => (((), ((), ((), ((), ((i : Int), ()))))), (st, (List.replicate 8 0, (schedV c, (rA st (schedV c) i, ())))))) 64 ?_ ?_ ?_]
  · simp only [Option.bind_some]
    rw [loopV_ind (step := sha_Compress_L2) (o := (((), ((), ())), (List.replicate 8 0, (compV st c, ())))) (fun i => (((), ((), ((), ((i : Int), ())))), (st, (List.replicate 8 0, (fA (rA st (schedV c) 64) st i, ()))))) 8 ?_ ?_ ?_]
    · simp only [Option.bind_some]
    · simp only [fA]; rfl
    · intro i hi
      have e : fA (rA st (schedV c) 64) st (i + 1) = (fA (rA st (schedV c) 64) st i).set i (IntKind.u32.wrap ((fA (rA st (schedV c) 64) st i).getD i 0 + st.getD i 0)) := rfl
      rw [e]
      have hl : (fA (rA st (schedV c) 64) st i).length = 8 := fA_len (rA_len hst)
      generalize fA (rA st (schedV c) 64) st i = W at hl ⊢
      unfold sha_Compress_L2
      have h1 : ((i : Int) < 8) := by omega
      have b1 : inb (i : Int) 8 = true := inb_nat hi
      have g1 := get_some (l := W) (i := i) (by omega)
      have g2 := get_some (l := st) (i := i) (by omega)
      have hup := up_nat hi (by omega)
      simp only [h1, decide_true, cond_true, b1, Int.toNat_natCast, g1, g2, Option.bind_some, hup]
    · simp only [sha_Compress_L2, compV]; rfl
  · simp only [rA]; rfl
  · intro i hi
    have e : rA st (schedV c) (i + 1) = rndV (rA st (schedV c) i) (G_c990df.getD i 0) ((schedV c).getD i 0) := rfl
    rw [e]
    have hl : (rA st (schedV c) i).length = 8 := rA_len hst
    generalize rA st (schedV c) i = S at hl ⊢
    have hwl : (schedV c).length = 64 := schedV_len
    generalize schedV c = W at hwl ⊢
    unfold sha_Compress_L1
    have h1 : ((i : Int) < 64) := by omega
    have b1 : inb (i : Int) 64 = true := inb_nat hi
    have hup := up_nat hi (Nat.le_refl 64)
    have gw := get_some (l := W) (i := i) (by omega)
    have g := fun j (hj : j < 8) => get_some (l := S) (i := j) (by omega)
    have c0 : inb 0 8 = true := rfl
    have c1 : inb 1 8 = true := rfl
    have c2 : inb 2 8 = true := rfl
    have c3 : inb 3 8 = true := rfl
    have c4 : inb 4 8 = true := rfl
    have c5 : inb 5 8 = true := rfl
    have c6 : inb 6 8 = true := rfl
    have c7 : inb 7 8 = true := rfl
    simp only [h1, decide_true, cond_true, b1, Int.toNat_natCast, gw, hup, rd_nat, c0, c1, c2, c3, c4, c5, c6, c7, g 0 (by omega), g 1 (by omega), g 2 (by omega), g 3 (by omega), g 4 (by omega), g 5 (by omega), g 6 (by omega), g 7 (by omega), Option.bind_some, sha_rotr_eq]
    rfl
  · simp only [sha_Compress_L1]; rfl
end Go.PE
end

section
namespace Go.PE
set_option linter.unusedSimpArgs false
set_option linter.unusedVariables false
def padQ (n : Nat) : Nat := (64 - (n + 9) % 64) % 64
def beV (m : Int) (j : Nat) : List Int := (List.range j).map fun (t : Nat) => IntKind.u8.wrap (shrI .u64 m ((56 : Int) - 8 * (t : Int)))
theorem beV_up {m : Int} {j : Nat} : beV m (j + 1) = beV m j ++ [IntKind.u8.wrap (shrI .u64 m ((56 : Int) - 8 * (j : Int)))] := by simp [beV, List.range_succ]
theorem beV_len {m : Int} {j : Nat} : (beV m j).length = j := by simp [beV]
def padV (n : Nat) : List Int := (List.replicate (1 + padQ n) (0 : Int)).set 0 128 ++ beV (IntKind.u64.wrap (8 * (n : Int))) 8
theorem padV_len {n : Nat} : (padV n).length = 9 + padQ n := by simp [padV, beV_len]; omega
theorem sha_Pad_eq {n : Nat} (hn : n ≤ lim) : sha_Pad (n : Int) = some (((), ()), (padV n, ())) := by
  rw [lim_eq] at hn
  have hq : padQ n < 64 := by unfold padQ; omega
  unfold sha_Pad
  have e1 : IntKind.u64.wrap ((n : Int) + 9) = ((n + 9 : Nat) : Int) := by rw [wrap_un rfl (by omega) (by simp only [IntKind.bits]; omega)]; simp
  have e2 : Int.tmod ((n + 9 : Nat) : Int) 64 = (((n + 9) % 64 : Nat) : Int) := by rw [tmod_nn (by omega)]; simp
  have e3 : IntKind.u64.wrap ((64 : Int) - (((n + 9) % 64 : Nat) : Int)) = ((64 - (n + 9) % 64 : Nat) : Int) := by rw [wrap_un rfl (by omega) (by simp only [IntKind.bits]; omega)]; omega
  have e4 : Int.tmod ((64 - (n + 9) % 64 : Nat) : Int) 64 = ((padQ n : Nat) : Int) := by rw [tmod_nn (by omega)]; unfold padQ; omega
  have e5 : IntKind.u64.wrap ((1 : Int) + ((padQ n : Nat) : Int)) = ((1 + padQ n : Nat) : Int) := by rw [wrap_un rfl (by omega) (by simp only [IntKind.bits]; omega)]; omega
  simp only [e1, e2, e3, e4, e5]
  have c1 : (0 : Int) ≤ ((1 + padQ n : Nat) : Int) := by omega
  have c2 : ((1 + padQ n : Nat) : Int) ≤ 72 := by omega
  have c3 : (72 : Int) ≤ ((lim : Nat) : Int) := by rw [lim_eq]; omega
  have c4 : inb 0 (List.replicate (1 + padQ n) (0 : Int)).length = true := inb_t (by rw [List.length_replicate]; omega)
  have c5 : (List.replicate (1 + padQ n) (0 : Int))[0]? = some 0 := by rw [List.getElem?_replicate_of_lt (by omega)]
  simp only [c1, c2, c3, decide_true, Bool.and_self, cond_true, Int.toNat_natCast, c4, c5, Option.bind_some]
  rw [loopV_ind (step := sha_Pad_L1 (n : Int)) (o := (((), ()), (padV n, ()))) (fun t => (((), ((56 : Int) - 8 * (t : Int), ())), ((List.replicate (1 + padQ n) (0 : Int)).set 0 128 ++ beV (IntKind.u64.wrap (8 * (n : Int))) t, ()))) 8 ?_ ?_ ?_]
  · rfl
  · simp [beV]
  · intro t ht
    unfold sha_Pad_L1
    have h1 : (0 : Int) ≤ 56 - 8 * (t : Int) := by omega
    have h2 : ¬ (56 : Int) - 8 * (t : Int) < 0 := by omega
    have h3 : IntKind.i64.wrap ((56 : Int) - 8 * (t : Int) - 8) = (56 : Int) - 8 * ((t + 1 : Nat) : Int) := by rw [IntWalk.i64_in _ (by omega)]; omega
    have h4 : ((List.replicate (1 + padQ n) (0 : Int)).set 0 128 ++ beV (IntKind.u64.wrap (8 * (n : Int))) t).length + 1 ≤ lim := by
      simp only [List.length_append, List.length_set, List.length_replicate, beV_len, lim_eq]; omega
    simp only [h1, h2, decide_true, decide_false, cond_true, cond_false, h3, List.length_singleton, h4, beV_up, List.append_assoc]
  · have h1 : ¬ (0 : Int) ≤ 56 - 8 * ((8 : Nat) : Int) := by omega
    simp only [sha_Pad_L1, h1, decide_false, cond_false]; rfl
def sumV : Nat → List Int → List Int → List Int
  | 0, s, _ => s
  | k + 1, s, m => sumV k (compV s (m.take 64)) (m.drop 64)
theorem sumV_len : ∀ {k : Nat} {s m : List Int}, s.length = 8 → (sumV k s m).length = 8 := by
  intro k
  induction k with
  | zero => intro s m h; exact h
  | succ k ih => intro s m h; exact ih (compV_len h)
theorem sha_Sum_L1_eq : ∀ (k : Nat) (s m R : List Int), s.length = 8 → m.length = 64 * k →
    loopV sha_Sum_L1 (((), (m, ((), ()))), (R, (s, ()))) = some (((), ((), ())), (R, (sumV k s m, ()))) := by
  intro k
  induction k with
  | zero =>
    intro s m R hs hm
    refine loopV_done ?_
    have h1 : ¬ (0 : Int) < (m.length : Int) := by omega
    simp only [sha_Sum_L1, h1, decide_false, cond_false]; rfl
  | succ k ih =>
    intro s m R hs hm
    have h1 : (0 : Int) < (m.length : Int) := by omega
    have h2 : (64 : Int) ≤ (m.length : Int) := by omega
    have h3 : sub m 0 64 = m.take 64 := by simp [sub]
    have h4 : 64 ≤ (m.take 64).length := by rw [List.length_take]; omega
    have h5 : (m.take 64).take 64 = m.take 64 := by rw [List.take_take]; simp
    have h6 : sub m 64 (m.length - 64) = m.drop 64 := by unfold sub; rw [List.take_of_length_le (by rw [List.length_drop]; omega)]
    rw [loopV_next (v' := (((), (m.drop 64, ((), ()))), (R, (compV s (m.take 64), ()))))]
    · exact ih _ _ R (compV_len hs) (by rw [List.length_drop]; omega)
    · unfold sha_Sum_L1
      simp only [h1, h2, h3, h4, h5, h6, decide_true, Bool.and_self, cond_true, show ((0 : Int) ≤ 64) from by omega, sha_Compress_eq hs, Option.bind_some]
def hA (s : List Int) : Nat → List Int
  | 0 => List.replicate 32 0
  | i + 1 => (hA s i).set i (IntKind.u8.wrap (shrI .u32 (s.getD (i / 4) 0) ((24 - 8 * (i % 4) : Nat) : Int)))
theorem hA_len {s : List Int} : ∀ {i}, (hA s i).length = 32 := by
  intro i
  induction i with
  | zero => simp [hA]
  | succ i ih => simp [hA, ih]
theorem u8_range (x : Int) : 0 ≤ IntKind.u8.wrap x ∧ IntKind.u8.wrap x ≤ 255 := by
  rw [wrap_un_mod rfl]; simp only [IntKind.bits]; omega
theorem hA_bys {s : List Int} : ∀ {i}, ∀ x ∈ hA s i, 0 ≤ x ∧ x ≤ 255 := by
  intro i
  induction i with
  | zero => intro x hx; simp [hA] at hx; omega
  | succ i ih =>
    intro x hx
    rcases List.mem_or_eq_of_mem_set hx with h | h
    · exact ih x h
    · rw [h]; exact u8_range _
def blocks (n : Nat) : Nat := (n + 9 + padQ n) / 64
def shaV (b : List Int) : List Int := hA (sumV (blocks b.length) G_3e2daa (b ++ padV b.length)) 32
theorem shaV_len {b : List Int} : (shaV b).length = 32 := hA_len
theorem shaV_bys {b : List Int} : ∀ x ∈ shaV b, 0 ≤ x ∧ x ≤ 255 := hA_bys
theorem sha_Sum_eq {b : List Int} (hb : b.length + 72 ≤ lim) : sha_Sum b = some ((shaV b, ()), ()) := by
  have hq : padQ b.length < 64 := by unfold padQ; omega
  have hmod : (b.length + 9 + padQ b.length) % 64 = 0 := by unfold padQ; omega
  unfold sha_Sum
  rw [IntWalk.i64_in _ (by rw [lim_eq] at hb; omega), wrap_un rfl (by omega) (by rw [lim_eq] at hb; simp only [IntKind.bits]; omega)]
  have c1 : (0 : Int) ≤ (b.length : Int) + 72 := by omega
  have c2 : (b.length : Int) + 72 ≤ ((lim : Nat) : Int) := by omega
  have c3 : b.length ≤ lim := by omega
  have c4 : b.length + (padV b.length).length ≤ lim := by rw [padV_len]; omega
  simp only [Int.le_refl, c1, c2, decide_true, Bool.and_self, cond_true, List.replicate_zero, List.length_nil, Nat.zero_add, c3, List.nil_append, sha_Pad_eq c3, Option.bind_some, c4]
  rw [sha_Sum_L1_eq (blocks b.length) G_3e2daa (b ++ padV b.length) (List.replicate 32 0) (by decide) (by rw [List.length_append, padV_len]; unfold blocks; omega)]
  simp only [Option.bind_some]
  have hs : (sumV (blocks b.length) G_3e2daa (b ++ padV b.length)).length = 8 := sumV_len (by decide)
  unfold shaV
  generalize sumV (blocks b.length) G_3e2daa (b ++ padV b.length) = S at hs ⊢
  rw [loopV_ind (step := sha_Sum_L2) (o := (((), ((), ())), (List.replicate 32 0, (hA S 32, ())))) (fun i => (((), ((), ((), ((i : Int), ())))), (List.replicate 32 0, (S, (hA S i, ()))))) 32 ?_ ?_ ?_]
  · simp only [Option.bind_some]
  · simp only [hA]; rfl
  · intro i hi
    have e : hA S (i + 1) = (hA S i).set i (IntKind.u8.wrap (shrI .u32 (S.getD (i / 4) 0) ((24 - 8 * (i % 4) : Nat) : Int))) := rfl
    rw [e]
    have hl : (hA S i).length = 32 := hA_len (s := S) (i := i)
    generalize hA S i = W at hl ⊢
    unfold sha_Sum_L2
    have h1 : ((i : Int) < 32) := by omega
    have e1 := quarter (i := i) (by omega)
    have e2 : Int.tmod (i : Int) 4 = ((i % 4 : Nat) : Int) := by rw [tmod_nn (by omega)]; simp
    have e3 : IntKind.i64.wrap ((8 : Int) * ((i % 4 : Nat) : Int)) = ((8 * (i % 4) : Nat) : Int) := by rw [IntWalk.i64_in _ (by omega)]; simp
    have e4 : IntKind.i64.wrap ((24 : Int) - ((8 * (i % 4) : Nat) : Int)) = ((24 - 8 * (i % 4) : Nat) : Int) := by rw [IntWalk.i64_in _ (by omega)]; omega
    have e5 : ¬ ((24 - 8 * (i % 4) : Nat) : Int) < 0 := by omega
    have b1 : inb ((i / 4 : Nat) : Int) 8 = true := inb_nat (by omega)
    have b2 : inb (i : Int) 32 = true := inb_nat hi
    have g1 := get_some (l := S) (i := i / 4) (by omega)
    have g2 := get_some (l := W) (i := i) (by omega)
    have hup := up_nat hi (by omega)
    simp only [h1, decide_true, cond_true, e1, e2, b1, Int.toNat_natCast, g1, Option.bind_some]
    simp only [e3, e4, e5, decide_false, cond_false, b2, cond_true, g2, Option.bind_some, hup]
  · simp only [sha_Sum_L2]; rfl
def dblV (b : List Int) : List Int := shaV (shaV b)
theorem sha_Double_eq {b : List Int} (hb : b.length + 72 ≤ lim) : sha_Double b = some ((dblV b, ()), ()) := by
  unfold sha_Double
  rw [sha_Sum_eq hb]
  simp only [Option.bind_some]
  have e : sub (shaV b) 0 32 = shaV b := by unfold sub; rw [List.drop_zero, List.take_of_length_le (by rw [shaV_len]; omega)]
  rw [e, sha_Sum_eq (by rw [shaV_len, lim_eq]; omega)]
  simp only [Option.bind_some, dblV]
end Go.PE
end

section
namespace Go.PE
set_option linter.unusedSimpArgs false
set_option linter.unusedVariables false
theorem ref03_rotr_eq {x n : Int} : ref03_rotr x n = some ((rotV x n, ()), ()) := rfl
def BysL (c : List Int) : Prop := ∀ x ∈ c, 0 ≤ x ∧ x ≤ 255
theorem or32 {a b : Nat} (ha : a < 2 ^ 32) (hb : b < 2 ^ 32) : bitI .or .u32 (a : Int) (b : Int) = ((a ||| b : Nat) : Int) := by
  rw [or_un rfl (by omega) (by simp only [IntKind.bits]; omega) (by omega) (by simp only [IntKind.bits]; omega)]; simp
theorem shl32 {a k : Nat} (h : a <<< k < 2 ^ 32) : shlI .u32 (a : Int) (k : Int) = ((a <<< k : Nat) : Int) := by
  rw [shl_un rfl (by omega)]
  simp only [Int.toNat_natCast, IntKind.bits]
  rw [Nat.mod_eq_of_lt h]
theorem shlt {a k n : Nat} (h : a < 2 ^ n) : a <<< k < 2 ^ (n + k) := by
  rw [Nat.shiftLeft_eq, Nat.pow_add]; exact Nat.mul_lt_mul_of_pos_right h (Nat.two_pow_pos k)
theorem orlt {a b n : Nat} (ha : a < 2 ^ n) (hb : b < 2 ^ n) : a ||| b < 2 ^ n := Nat.or_lt_two_pow ha hb
/-- Four bytes as a word, as the reference writes it. -/
def wordV (a b c d : Int) : Int :=
  bitI .or .u32 (bitI .or .u32 (bitI .or .u32 (shlI .u32 (IntKind.u32.wrap a) 24) (shlI .u32 (IntKind.u32.wrap b) 16)) (shlI .u32 (IntKind.u32.wrap c) 8)) (IntKind.u32.wrap d)
def stepW (w c : Int) : Int := bitI .or .u32 (shlI .u32 w 8) (IntKind.u32.wrap c)
theorem word_eq {a b c d : Int} (ha : 0 ≤ a ∧ a ≤ 255) (hb : 0 ≤ b ∧ b ≤ 255) (hc : 0 ≤ c ∧ c ≤ 255) (hd : 0 ≤ d ∧ d ≤ 255) : stepW (stepW (stepW (stepW 0 a) b) c) d = wordV a b c d := by
  obtain ⟨a, rfl⟩ := Int.eq_ofNat_of_zero_le ha.1
  obtain ⟨b, rfl⟩ := Int.eq_ofNat_of_zero_le hb.1
  obtain ⟨c, rfl⟩ := Int.eq_ofNat_of_zero_le hc.1
  obtain ⟨d, rfl⟩ := Int.eq_ofNat_of_zero_le hd.1
  have a8 : a < 2 ^ 8 := by omega
  have b8 : b < 2 ^ 8 := by omega
  have c8 : c < 2 ^ 8 := by omega
  have d8 : d < 2 ^ 8 := by omega
  have w : ∀ x : Nat, x < 2 ^ 8 → IntKind.u32.wrap (x : Int) = (x : Int) := fun x hx => wrap_un rfl (by omega) (by simp only [IntKind.bits]; omega)
  have up : ∀ {x n m : Nat}, x < 2 ^ n → n ≤ m → x < 2 ^ m := fun h hm => Nat.lt_of_lt_of_le h (Nat.pow_le_pow_right (by omega) hm)
  have s1 : stepW 0 (a : Int) = ((a : Nat) : Int) := by
    unfold stepW
    rw [w a a8, show shlI .u32 0 8 = ((0 : Nat) : Int) from rfl, or32 (by omega) (by omega)]; simp
  have step : ∀ (x y n : Nat), x < 2 ^ n → 8 ≤ n + 8 → n + 8 ≤ 32 → y < 2 ^ 8 → stepW (x : Int) (y : Int) = ((x <<< 8 ||| y : Nat) : Int) ∧ x <<< 8 ||| y < 2 ^ (n + 8) := by
    intro x y n hx h8 h32 hy
    have h1 := shlt (k := 8) hx
    refine ⟨?_, orlt h1 (up hy h8)⟩
    unfold stepW
    rw [w y hy, show (8 : Int) = ((8 : Nat) : Int) from rfl, shl32 (up h1 h32), or32 (up h1 h32) (up hy (by omega))]
  obtain ⟨e2, l2⟩ := step a b 8 a8 (by omega) (by omega) b8
  obtain ⟨e3, l3⟩ := step _ c 16 l2 (by omega) (by omega) c8
  obtain ⟨e4, l4⟩ := step _ d 24 l3 (by omega) (by omega) d8
  show stepW (stepW (stepW (stepW 0 (a : Int)) (b : Int)) (c : Int)) (d : Int) = wordV (a : Int) (b : Int) (c : Int) (d : Int)
  rw [s1, e2, e3, e4]
  unfold wordV
  have ha24 := shlt (k := 24) a8
  have hb16 := shlt (k := 16) b8
  have hc8 := shlt (k := 8) c8
  rw [w a a8, w b b8, w c c8, w d d8, show (24 : Int) = ((24 : Nat) : Int) from rfl, show (16 : Int) = ((16 : Nat) : Int) from rfl, show (8 : Int) = ((8 : Nat) : Int) from rfl, shl32 ha24, shl32 (up hb16 (by omega)), shl32 (up hc8 (by omega)),
    or32 ha24 (up hb16 (by omega)), or32 (orlt ha24 (up hb16 (by omega))) (up hc8 (by omega)), or32 (orlt (orlt ha24 (up hb16 (by omega))) (up hc8 (by omega))) (up d8 (by omega))]
  congr 1
  simp only [Nat.shiftLeft_or_distrib, ← Nat.shiftLeft_add]
/-- The first sixteen words. -/
def words (c : List Int) (j : Nat) : List Int := (List.range j).map fun i => wordV (c.getD (4 * i) 0) (c.getD (4 * i + 1) 0) (c.getD (4 * i + 2) 0) (c.getD (4 * i + 3) 0)
theorem words_len {c : List Int} {j : Nat} : (words c j).length = j := by simp [words]
theorem words_up {c : List Int} {j : Nat} : words c (j + 1) = words c j ++ [wordV (c.getD (4 * j) 0) (c.getD (4 * j + 1) 0) (c.getD (4 * j + 2) 0) (c.getD (4 * j + 3) 0)] := by simp [words, List.range_succ]
theorem set_end {xs : List Int} {j n : Nat} {y v : Int} (hx : xs.length = j) : (xs ++ y :: List.replicate n 0).set j v = xs ++ v :: List.replicate n 0 := by
  rw [List.set_append_right (h := by omega), hx, Nat.sub_self, List.set_cons_zero]
theorem getD_end {xs ys : List Int} {j : Nat} {y : Int} (hx : xs.length = j) : (xs ++ y :: ys).getD j 0 = y := by
  rw [List.getD_eq_getElem?_getD, List.getElem?_append_right (by omega), hx, Nat.sub_self]; rfl
theorem getD_bys {c : List Int} (h : BysL c) {i : Nat} : 0 ≤ c.getD i 0 ∧ c.getD i 0 ≤ 255 := by
  rw [List.getD_eq_getElem?_getD]
  cases hc : c[i]? with
  | none => exact ⟨by decide, by decide⟩
  | some x => exact h x (List.mem_of_getElem? hc)
theorem wA_words {c : List Int} (h : BysL c) : ∀ j, j ≤ 16 → wA c (4 * j) = words c j ++ List.replicate (64 - j) 0 := by
  intro j
  induction j with
  | zero => intro _; rfl
  | succ j ih =>
    intro hj
    have h0 := ih (by omega)
    obtain ⟨n, hn⟩ : ∃ n, 64 - j = n + 1 := ⟨64 - j - 1, by omega⟩
    have hn2 : 64 - (j + 1) = n := by omega
    rw [hn, List.replicate_succ] at h0
    have q0 : (4 * j) / 4 = j := by omega
    have q1 : (4 * j + 1) / 4 = j := by omega
    have q2 : (4 * j + 2) / 4 = j := by omega
    have q3 : (4 * j + 3) / 4 = j := by omega
    have hl := words_len (c := c) (j := j)
    have st : ∀ (i : Nat) (w : Int), i / 4 = j → wA c i = words c j ++ w :: List.replicate n 0 → wA c (i + 1) = words c j ++ stepW w (c.getD i 0) :: List.replicate n 0 := by
      intro i w hi hw
      show (wA c i).set (i / 4) (bitI .or .u32 (shlI .u32 ((wA c i).getD (i / 4) 0) 8) (IntKind.u32.wrap (c.getD i 0))) = _
      rw [hi, hw, getD_end hl, set_end hl]; rfl
    have h1 := st _ _ q0 h0
    have h2 := st _ _ q1 h1
    have h3 := st _ _ q2 h2
    have h4 := st _ _ q3 h3
    rw [show 4 * (j + 1) = 4 * j + 3 + 1 by omega, h4, hn2, words_up, word_eq (getD_bys h) (getD_bys h) (getD_bys h) (getD_bys h), List.append_assoc]; rfl
theorem ref03_schedule_eq {c : List Int} (h : BysL c) (hc : c.length = 64) : ref03_schedule c = some ((schedV c, ()), ()) := by
  unfold ref03_schedule
  have hw : wA c 64 = words c 16 ++ List.replicate 48 0 := wA_words h 16 (Nat.le_refl 16)
  rw [loopV_ind (step := ref03_schedule_L1) (o := (((), ((), ())), (List.replicate 64 0, (wA c 64, ())))) (fun i => (((), ((), ((), ((i : Int), ())))), (c, (List.replicate 64 0, (words c i ++ List.replicate (64 - i) 0, ()))))) 16 ?_ ?_ ?_]
  · simp only [Option.bind_some]
    rw [loopV_ind (step := ref03_schedule_L2) (o := (((), ((), ())), (List.replicate 64 0, (schedV c, ())))) (fun n => (((), ((), (((16 + n : Nat) : Int), ()))), (List.replicate 64 0, (wB (wA c 64) n, ())))) 48 ?_ ?_ ?_]
    · simp only [Option.bind_some]
    · simp only [wB, Nat.add_zero]; rfl
    · intro n hn
      have e : wB (wA c 64) (n + 1) = (wB (wA c 64) n).set (16 + n) (wS (wB (wA c 64) n) (16 + n)) := rfl
      rw [e]
      generalize hw : wB (wA c 64) n = W
      unfold ref03_schedule_L2
      have hl : W.length = 64 := by rw [← hw]; exact wB_len wA_len
      have h1 : (((16 + n : Nat) : Int) < 64) := by omega
      have h15 : IntKind.i64.wrap (((16 + n : Nat) : Int) - 15) = ((16 + n - 15 : Nat) : Int) := minus_nat (k := 15) (by omega) (by omega)
      have h2 : IntKind.i64.wrap (((16 + n : Nat) : Int) - 2) = ((16 + n - 2 : Nat) : Int) := minus_nat (k := 2) (by omega) (by omega)
      have h16 : IntKind.i64.wrap (((16 + n : Nat) : Int) - 16) = ((16 + n - 16 : Nat) : Int) := minus_nat (k := 16) (by omega) (by omega)
      have h7 : IntKind.i64.wrap (((16 + n : Nat) : Int) - 7) = ((16 + n - 7 : Nat) : Int) := minus_nat (k := 7) (by omega) (by omega)
      have hup : IntKind.i64.wrap (((16 + n : Nat) : Int) + 1) = ((16 + (n + 1) : Nat) : Int) := up_nat (i := 16 + n) (n := 64) (by omega) (by omega)
      have b0 : inb ((16 + n : Nat) : Int) 64 = true := inb_nat (by omega)
      have b15 : inb ((16 + n - 15 : Nat) : Int) 64 = true := inb_nat (by omega)
      have b2 : inb ((16 + n - 2 : Nat) : Int) 64 = true := inb_nat (by omega)
      have b16 : inb ((16 + n - 16 : Nat) : Int) 64 = true := inb_nat (by omega)
      have b7 : inb ((16 + n - 7 : Nat) : Int) 64 = true := inb_nat (by omega)
      have g0 := get_some (l := W) (i := 16 + n) (by omega)
      have g15 := get_some (l := W) (i := 16 + n - 15) (by omega)
      have g2 := get_some (l := W) (i := 16 + n - 2) (by omega)
      have g16 := get_some (l := W) (i := 16 + n - 16) (by omega)
      have g7 := get_some (l := W) (i := 16 + n - 7) (by omega)
      simp only [h1, decide_true, cond_true, h15, h2, h16, h7, b0, b15, b2, b16, b7, Int.toNat_natCast, g0, g15, g2, g16, g7, Option.bind_some, ref03_rotr_eq, hup, wS, s0V, s1V]
    · simp only [ref03_schedule_L2, schedV]; rfl
  · rfl
  · intro i hi
    obtain ⟨n, hn⟩ : ∃ n, 64 - i = n + 1 := ⟨64 - i - 1, by omega⟩
    have hn2 : 64 - (i + 1) = n := by omega
    rw [hn, hn2, words_up, List.append_assoc, List.replicate_succ (n := n)]
    have hl := words_len (c := c) (j := i)
    generalize words c i = W at hl ⊢
    unfold ref03_schedule_L1
    have h1 : ((i : Int) < 16) := by omega
    have e0 : IntKind.i64.wrap ((4 : Int) * (i : Int)) = ((4 * i : Nat) : Int) := by rw [IntWalk.i64_in _ (by omega)]; simp
    have e1 : IntKind.i64.wrap (((4 * i : Nat) : Int) + 1) = ((4 * i + 1 : Nat) : Int) := by rw [IntWalk.i64_in _ (by omega)]; simp
    have e2 : IntKind.i64.wrap (((4 * i : Nat) : Int) + 2) = ((4 * i + 2 : Nat) : Int) := by rw [IntWalk.i64_in _ (by omega)]; simp
    have e3 : IntKind.i64.wrap (((4 * i : Nat) : Int) + 3) = ((4 * i + 3 : Nat) : Int) := by rw [IntWalk.i64_in _ (by omega)]; simp
    have b0 : inb ((4 * i : Nat) : Int) 64 = true := inb_nat (by omega)
    have b1 : inb ((4 * i + 1 : Nat) : Int) 64 = true := inb_nat (by omega)
    have b2 : inb ((4 * i + 2 : Nat) : Int) 64 = true := inb_nat (by omega)
    have b3 : inb ((4 * i + 3 : Nat) : Int) 64 = true := inb_nat (by omega)
    have bi : inb (i : Int) 64 = true := inb_nat (by omega)
    have g0 := get_some (l := c) (i := 4 * i) (by omega)
    have g1 := get_some (l := c) (i := 4 * i + 1) (by omega)
    have g2 := get_some (l := c) (i := 4 * i + 2) (by omega)
    have g3 := get_some (l := c) (i := 4 * i + 3) (by omega)
    have gi : (W ++ 0 :: List.replicate n (0 : Int))[i]? = some 0 := by rw [List.getElem?_append_right (by omega), hl, Nat.sub_self]; rfl
    have hup := up_nat (i := i) (n := 64) (by omega) (Nat.le_refl 64)
    simp only [h1, decide_true, cond_true]
    simp only [e0, e1, e2, e3, b0, b1, b2, b3, bi, cond_true, Int.toNat_natCast, g0, g1, g2, g3, gi, Option.bind_some, hup, set_end hl]
    rfl
  · rw [hw]; simp only [ref03_schedule_L1]; rfl
end Go.PE
end

section
namespace Go.PE
set_option linter.unusedSimpArgs false
set_option linter.unusedVariables false
set_option maxRecDepth 10000
theorem len8 {l : List Int} (h : l.length = 8) : ∃ a b c d e f g k, l = [a, b, c, d, e, f, g, k] := by
  match l, h with
  | [a, b, c, d, e, f, g, k], _ => exact ⟨a, b, c, d, e, f, g, k, rfl⟩
theorem ref03_constants_eq : ref03_constants = some ((G_c990df, ()), ()) := by kernel_rfl
theorem ref03_Initial_eq : ref03_Initial = some ((G_3e2daa, ()), ()) := by kernel_rfl
abbrev RegsT := Int × Int × Int × Int × Int × Int × Int × Int
theorem ref03_Compress_eq {st c : List Int} (hst : st.length = 8) (h : BysL c) (hc : c.length = 64) : ref03_Compress st c = some ((compV st c, ()), ()) := by
  unfold ref03_Compress
  rw [ref03_schedule_eq h hc, ref03_constants_eq]
  have g := fun j (hj : j < 8) => get_some (l := st) (i := j) (by omega)
  have c0 : inb 0 8 = true := rfl
  have c1 : inb 1 8 = true := rfl
  have c2 : inb 2 8 = true := rfl
  have c3 : inb 3 8 = true := rfl
  have c4 : inb 4 8 = true := rfl
  have c5 : inb 5 8 = true := rfl
  have c6 : inb 6 8 = true := rfl
  have c7 : inb 7 8 = true := rfl
  simp only [Option.bind_some, c0, c1, c2, c3, c4, c5, c6, c7, cond_true, g 0 (by omega), g 1 (by omega), g 2 (by omega), g 3 (by omega), g 4 (by omega), g 5 (by omega), g 6 (by omega), g 7 (by omega)]
  have hwl : (schedV c).length = 64 := schedV_len
  unfold compV
  generalize schedV c = W at hwl ⊢
  rw [loopV_ind (step := ref03_Compress_L1)
    (o := (((), ((), ((rA st W 64).getD 0 0, ((rA st W 64).getD 1 0, ((rA st W 64).getD 2 0, ((rA st W 64).getD 3 0, ((rA st W 64).getD 4 0, ((rA st W 64).getD 5 0, ((rA st W 64).getD 6 0, ((rA st W 64).getD 7 0, ())))))))))), (st, (List.replicate 8 0, ()))))
    (fun i => (((), ((), ((), ((), ((rA st W i).getD 0 0, ((rA st W i).getD 1 0, ((rA st W i).getD 2 0, ((rA st W i).getD 3 0, ((rA st W i).getD 4 0, ((rA st W i).getD 5 0, ((rA st W i).getD 6 0, ((rA st W i).getD 7 0, ((i : Int), ()))))))))))))), (st, (List.replicate 8 0, (W, (G_c990df, ())))))) 64 ?_ ?_ ?_]
  · have hrl : (rA st W 64).length = 8 := rA_len hst
    simp only [Option.bind_some]
    generalize rA st W 64 = S at hrl ⊢
    obtain ⟨s0, s1, s2, s3, s4, s5, s6, s7, rfl⟩ := len8 hrl
    obtain ⟨p0, p1, p2, p3, p4, p5, p6, p7, rfl⟩ := len8 hst
    show some (([IntKind.u32.wrap (p0 + s0), IntKind.u32.wrap (p1 + s1), IntKind.u32.wrap (p2 + s2), IntKind.u32.wrap (p3 + s3), IntKind.u32.wrap (p4 + s4), IntKind.u32.wrap (p5 + s5), IntKind.u32.wrap (p6 + s6), IntKind.u32.wrap (p7 + s7)], ()), ()) = some (([IntKind.u32.wrap (s0 + p0), IntKind.u32.wrap (s1 + p1), IntKind.u32.wrap (s2 + p2), IntKind.u32.wrap (s3 + p3), IntKind.u32.wrap (s4 + p4), IntKind.u32.wrap (s5 + p5), IntKind.u32.wrap (s6 + p6), IntKind.u32.wrap (s7 + p7)], ()), ())
    rw [Int.add_comm p0, Int.add_comm p1, Int.add_comm p2, Int.add_comm p3, Int.add_comm p4, Int.add_comm p5, Int.add_comm p6, Int.add_comm p7]
  · rfl
  · intro i hi
    have e : rA st W (i + 1) = rndV (rA st W i) (G_c990df.getD i 0) (W.getD i 0) := rfl
    rw [e]
    generalize rA st W i = S
    unfold ref03_Compress_L1
    have h1 : ((i : Int) < 64) := by omega
    have b1 : inb (i : Int) 64 = true := inb_nat hi
    have hup := up_nat hi (Nat.le_refl 64)
    have gw := get_some (l := W) (i := i) (by omega)
    have gk := get_some (l := G_c990df) (i := i) (by have : G_c990df.length = 64 := rfl; omega)
    simp only [h1, decide_true, cond_true, b1, Int.toNat_natCast, gw, gk, hup, Option.bind_some, ref03_rotr_eq]
    rfl
  · simp only [ref03_Compress_L1]; rfl
theorem ref03_Pad_eq {n : Nat} (hn : n ≤ lim) : ref03_Pad (n : Int) = some (((), ()), (padV n, ())) := by
  rw [lim_eq] at hn
  have hq : padQ n < 64 := by unfold padQ; omega
  unfold ref03_Pad
  rw [loopV_ind (step := ref03_Pad_L1 (n : Int)) (o := (((), ()), ((List.replicate (1 + padQ n) (0 : Int)).set 0 128, ()))) (fun k => (((), ()), ((128 : Int) :: List.replicate k 0, ()))) (padQ n) ?_ ?_ ?_]
  · simp only [Option.bind_some]
    rw [loopV_ind (step := ref03_Pad_L2 (n : Int)) (o := (((), ()), (padV n, ()))) (fun t => (((), ((7 : Int) - (t : Int), ())), ((List.replicate (1 + padQ n) (0 : Int)).set 0 128 ++ beV (IntKind.u64.wrap (8 * (n : Int))) t, ()))) 8 ?_ ?_ ?_]
    · rfl
    · simp [beV]
    · intro t ht
      unfold ref03_Pad_L2
      have h1 : (0 : Int) ≤ 7 - (t : Int) := by omega
      have e0 : IntKind.i64.wrap ((8 : Int) * (7 - (t : Int))) = (56 : Int) - 8 * (t : Int) := by rw [IntWalk.i64_in _ (by omega)]; omega
      have h2 : ¬ (56 : Int) - 8 * (t : Int) < 0 := by omega
      have h3 : IntKind.i64.wrap ((7 : Int) - (t : Int) - 1) = (7 : Int) - ((t + 1 : Nat) : Int) := by rw [IntWalk.i64_in _ (by omega)]; omega
      have h4 : ((List.replicate (1 + padQ n) (0 : Int)).set 0 128 ++ beV (IntKind.u64.wrap (8 * (n : Int))) t).length + 1 ≤ lim := by
        simp only [List.length_append, List.length_set, List.length_replicate, beV_len, lim_eq]; omega
      simp only [h1, decide_true, cond_true]
      simp only [e0, h2, decide_false, cond_false, h3, List.length_singleton, h4, decide_true, cond_true, beV_up, List.append_assoc]
    · have h1 : ¬ (0 : Int) ≤ 7 - ((8 : Nat) : Int) := by omega
      simp only [ref03_Pad_L2, h1, decide_false, cond_false]; rfl
  · rfl
  · intro k hk
    unfold ref03_Pad_L1
    have e1 : ((128 : Int) :: List.replicate k 0).length = k + 1 := by simp
    have e2 : IntKind.u64.wrap (((k + 1 : Nat) : Int)) = ((k + 1 : Nat) : Int) := wrap_un rfl (by omega) (by simp only [IntKind.bits]; omega)
    have e3 : IntKind.u64.wrap ((n : Int) + ((k + 1 : Nat) : Int)) = ((n + k + 1 : Nat) : Int) := by rw [wrap_un rfl (by omega) (by simp only [IntKind.bits]; omega)]; omega
    have e4 : IntKind.u64.wrap (((n + k + 1 : Nat) : Int) + 8) = ((n + k + 9 : Nat) : Int) := by rw [wrap_un rfl (by omega) (by simp only [IntKind.bits]; omega)]; omega
    have e5 : ¬ Int.tmod ((n + k + 9 : Nat) : Int) 64 = 0 := by rw [tmod_nn (by omega)]; unfold padQ at hk; omega
    have h4 : k + 1 + 1 ≤ lim := by rw [lim_eq]; omega
    simp only [e1, e2, e3, e4, e5, decide_false, Bool.not_false, cond_true, List.length_singleton, h4, decide_true]
    congr 4
    rw [List.cons_append, List.replicate_succ']
  · unfold ref03_Pad_L1
    have e1 : ((128 : Int) :: List.replicate (padQ n) 0).length = padQ n + 1 := by simp
    have e2 : IntKind.u64.wrap (((padQ n + 1 : Nat) : Int)) = ((padQ n + 1 : Nat) : Int) := wrap_un rfl (by omega) (by simp only [IntKind.bits]; omega)
    have e3 : IntKind.u64.wrap ((n : Int) + ((padQ n + 1 : Nat) : Int)) = ((n + padQ n + 1 : Nat) : Int) := by rw [wrap_un rfl (by omega) (by simp only [IntKind.bits]; omega)]; omega
    have e4 : IntKind.u64.wrap (((n + padQ n + 1 : Nat) : Int) + 8) = ((n + padQ n + 9 : Nat) : Int) := by rw [wrap_un rfl (by omega) (by simp only [IntKind.bits]; omega)]; omega
    have e5 : Int.tmod ((n + padQ n + 9 : Nat) : Int) 64 = 0 := by rw [tmod_nn (by omega)]; unfold padQ; omega
    have e6 : (List.replicate (1 + padQ n) (0 : Int)).set 0 128 = 128 :: List.replicate (padQ n) 0 := by rw [Nat.add_comm, List.replicate_succ]; rfl
    simp only [e1, e2, e3, e4, e5, decide_true, Bool.not_true, cond_false, e6]
end Go.PE
end

section
namespace Go.PE
set_option linter.unusedSimpArgs false
set_option linter.unusedVariables false
theorem bys_take {m : List Int} (h : BysL m) {n k : Nat} : BysL ((m.drop n).take k) := fun x hx => h x (List.mem_of_mem_drop (List.mem_of_mem_take hx))
theorem ref03_Sum_L1_eq {m R : List Int} (hb : BysL m) (hm : m.length ≤ lim) : ∀ (k j : Nat) (s : List Int), s.length = 8 → m.length = 64 * (j + k) →
    loopV ref03_Sum_L1 (((), ((), ((), (((64 * j : Nat) : Int), ())))), (R, (m, (s, ())))) = some (((), ((), ())), (R, (sumV k s (m.drop (64 * j)), ()))) := by
  rw [lim_eq] at hm
  intro k
  induction k with
  | zero =>
    intro j s hs hl
    refine loopV_done ?_
    unfold ref03_Sum_L1
    have e : IntKind.i64.wrap (((64 * j : Nat) : Int) + 64) = ((64 * j + 64 : Nat) : Int) := by rw [IntWalk.i64_in _ (by omega)]; simp
    have h1 : ¬ ((64 * j + 64 : Nat) : Int) ≤ (m.length : Int) := by omega
    simp only [e, h1, decide_false, cond_false]; rfl
  | succ k ih =>
    intro j s hs hl
    have e : IntKind.i64.wrap (((64 * j : Nat) : Int) + 64) = ((64 * j + 64 : Nat) : Int) := by rw [IntWalk.i64_in _ (by omega)]; simp
    have h1 : ((64 * j + 64 : Nat) : Int) ≤ (m.length : Int) := by omega
    have h2 : (0 : Int) ≤ ((64 * j : Nat) : Int) := by omega
    have h3 : ((64 * j : Nat) : Int) ≤ (m.length : Int) := by omega
    have h4 : sub m (64 * j) (m.length - 64 * j) = m.drop (64 * j) := by unfold sub; rw [List.take_of_length_le (by rw [List.length_drop]; omega)]
    have h5 : List.drop (m.drop (64 * j)).length (List.replicate 64 (0 : Int)) = [] := List.drop_eq_nil_of_le (by rw [List.length_replicate, List.length_drop]; omega)
    have h6 : ((m.drop (64 * j)).take 64).length = 64 := by rw [List.length_take, List.length_drop]; omega
    rw [loopV_next (v' := (((), ((), ((), (((64 * (j + 1) : Nat) : Int), ())))), (R, (m, (compV s ((m.drop (64 * j)).take 64), ())))))]
    · rw [ih (j + 1) _ (compV_len hs) (by omega)]
      show _ = some (((), ((), ())), (R, (sumV k (compV s ((m.drop (64 * j)).take 64)) ((m.drop (64 * j)).drop 64), ())))
      rw [List.drop_drop]; rfl
    · unfold ref03_Sum_L1
      simp only [e, h1, h2, h3, decide_true, Bool.and_self, cond_true, Int.toNat_natCast, h4, h5, List.append_nil, ref03_Compress_eq hs (bys_take hb) h6, Option.bind_some]
      rfl
theorem shr_zero {x : Int} : shrI .u32 x ((0 : Nat) : Int) = x := by simp [shrI]
theorem ref03_Sum_L2_eq {S : List Int} (hS : S.length = 8) : loopV (ref03_Sum_L2 S) (((), ((), ((0 : Int), ()))), (List.replicate 32 0, (List.replicate 32 0, ()))) = some (((), ((), ())), (List.replicate 32 0, (hA S 32, ()))) := by
  refine loopV_ind (fun i => (((), ((), ((i : Int), ()))), (List.replicate 32 0, (hA S (4 * i), ())))) 8 rfl ?_ (by simp only [ref03_Sum_L2]; rfl)
  intro i hi
  have step : ∀ t, t < 4 → hA S (4 * i + t + 1) = (hA S (4 * i + t)).set (4 * i + t) (IntKind.u8.wrap (shrI .u32 (S.getD i 0) ((24 - 8 * t : Nat) : Int))) := by
    intro t ht
    show (hA S (4 * i + t)).set (4 * i + t) (IntKind.u8.wrap (shrI .u32 (S.getD ((4 * i + t) / 4) 0) ((24 - 8 * ((4 * i + t) % 4) : Nat) : Int))) = _
    rw [show (4 * i + t) / 4 = i by omega, show (4 * i + t) % 4 = t by omega]
  have e4 : hA S (4 * (i + 1)) = ((((hA S (4 * i)).set (4 * i) (IntKind.u8.wrap (shrI .u32 (S.getD i 0) 24))).set (4 * i + 1) (IntKind.u8.wrap (shrI .u32 (S.getD i 0) 16))).set (4 * i + 2) (IntKind.u8.wrap (shrI .u32 (S.getD i 0) 8))).set (4 * i + 3) (IntKind.u8.wrap (S.getD i 0)) := by
    have s0 := step 0 (by omega)
    have s1 := step 1 (by omega)
    have s2 := step 2 (by omega)
    have s3 := step 3 (by omega)
    rw [show 4 * (i + 1) = 4 * i + 3 + 1 by omega, s3, show 4 * i + 3 = 4 * i + 2 + 1 by omega, s2, show 4 * i + 2 = 4 * i + 1 + 1 by omega, s1, show 4 * i + 1 = 4 * i + 0 + 1 by omega, s0]
    rw [show 24 - 8 * 3 = 0 by omega, shr_zero]
    rfl
  rw [e4]
  have hl : (hA S (4 * i)).length = 32 := hA_len
  generalize hA S (4 * i) = W at hl ⊢
  unfold ref03_Sum_L2
  have h1 : ((i : Int) < 8) := by omega
  have b : inb (i : Int) 8 = true := inb_nat hi
  have e0 : IntKind.i64.wrap ((4 : Int) * (i : Int)) = ((4 * i : Nat) : Int) := by rw [IntWalk.i64_in _ (by omega)]; simp
  have e1 : IntKind.i64.wrap (((4 * i : Nat) : Int) + 1) = ((4 * i + 1 : Nat) : Int) := by rw [IntWalk.i64_in _ (by omega)]; simp
  have e2 : IntKind.i64.wrap (((4 * i : Nat) : Int) + 2) = ((4 * i + 2 : Nat) : Int) := by rw [IntWalk.i64_in _ (by omega)]; simp
  have e3 : IntKind.i64.wrap (((4 * i : Nat) : Int) + 3) = ((4 * i + 3 : Nat) : Int) := by rw [IntWalk.i64_in _ (by omega)]; simp
  have b0 : inb ((4 * i : Nat) : Int) 32 = true := inb_nat (by omega)
  have b1 : inb ((4 * i + 1 : Nat) : Int) 32 = true := inb_nat (by omega)
  have b2 : inb ((4 * i + 2 : Nat) : Int) 32 = true := inb_nat (by omega)
  have b3 : inb ((4 * i + 3 : Nat) : Int) 32 = true := inb_nat (by omega)
  have g0 := get_some (l := W) (i := 4 * i) (by omega)
  have g1 : ∀ x, (W.set (4 * i) x)[4 * i + 1]? = some ((W.set (4 * i) x).getD (4 * i + 1) 0) := fun x => get_some (by rw [List.length_set]; omega)
  have g2 : ∀ x y, ((W.set (4 * i) x).set (4 * i + 1) y)[4 * i + 2]? = some (((W.set (4 * i) x).set (4 * i + 1) y).getD (4 * i + 2) 0) := fun x y => get_some (by rw [List.length_set, List.length_set]; omega)
  have g3 : ∀ x y z, (((W.set (4 * i) x).set (4 * i + 1) y).set (4 * i + 2) z)[4 * i + 3]? = some ((((W.set (4 * i) x).set (4 * i + 1) y).set (4 * i + 2) z).getD (4 * i + 3) 0) := fun x y z => get_some (by rw [List.length_set, List.length_set, List.length_set]; omega)
  have hup := up_nat hi (by omega)
  simp only [h1, decide_true, cond_true, b]
  simp only [e0, e1, e2, e3, b0, b1, b2, b3, cond_true, Int.toNat_natCast, g0, g1, g2, g3, Option.bind_some, hup]
  rfl
theorem padV_bys {n : Nat} : BysL (padV n) := by
  intro x hx
  rcases List.mem_append.1 hx with h | h
  · rcases List.mem_or_eq_of_mem_set h with h | h
    · have := (List.mem_replicate.1 h).2; omega
    · omega
  · obtain ⟨t, _, rfl⟩ := List.mem_map.1 h
    exact u8_range _
theorem ref03_Sum_eq {b : List Int} (h : BysL b) (hb : b.length + 72 ≤ lim) : ref03_Sum b = some ((shaV b, ()), ()) := by
  have hq : padQ b.length < 64 := by unfold padQ; omega
  have hmod : (b.length + 9 + padQ b.length) % 64 = 0 := by unfold padQ; omega
  unfold ref03_Sum
  have c3 : b.length ≤ lim := by omega
  have c4 : b.length + (padV b.length).length ≤ lim := by rw [padV_len]; omega
  have c5 : (b ++ padV b.length).length ≤ lim := by rw [List.length_append]; exact c4
  have hbm : BysL (b ++ padV b.length) := fun x hx => (List.mem_append.1 hx).elim (h x) (padV_bys x)
  rw [wrap_un rfl (by omega) (by rw [lim_eq] at hb; simp only [IntKind.bits]; omega)]
  simp only [c3, decide_true, cond_true, ref03_Pad_eq c3, Option.bind_some, c4, ref03_Initial_eq]
  have hS : G_3e2daa.length = 8 := rfl
  have e := ref03_Sum_L1_eq (R := List.replicate 32 0) hbm c5 (blocks b.length) 0 G_3e2daa hS (by rw [List.length_append, padV_len]; unfold blocks; omega)
  rw [show ((64 * 0 : Nat) : Int) = 0 from rfl, Nat.mul_zero, List.drop_zero] at e
  rw [e]
  simp only [Option.bind_some]
  rw [ref03_Sum_L2_eq (sumV_len hS)]
  simp only [Option.bind_some, shaV]
theorem ref03_Double_eq {b : List Int} (h : BysL b) (hb : b.length + 72 ≤ lim) : ref03_Double b = some ((dblV b, ()), ()) := by
  unfold ref03_Double
  rw [ref03_Sum_eq h hb]
  simp only [Option.bind_some]
  have e : sub (shaV b) 0 32 = shaV b := by unfold sub; rw [List.drop_zero, List.take_of_length_le (by rw [shaV_len]; omega)]
  rw [e, ref03_Sum_eq shaV_bys (by rw [shaV_len, lim_eq]; omega)]
  simp only [Option.bind_some, dblV]
end Go.PE
end

section
namespace Go.PE
set_option linter.unusedSimpArgs false
theorem ref01_joined_eq {a b : List Int} (h : a.length + b.length ≤ lim) : ref01_joined a b = some (((), ()), (a ++ b, ())) := by
  have h' := h
  unfold lim at h'
  simp only [ref01_joined, IntWalk.i64_in ((a.length : Int) + (b.length : Int)) (by omega)]
  rw [bif_t (by simp; constructor <;> omega), bif_t (by simp; omega), bif_t (by simp; omega)]
  simp
theorem flatten_take_succ {ls : List (List Int)} {i : Nat} (h : i < ls.length) : (ls.take (i + 1)).flatten = (ls.take i).flatten ++ ls[i] := by
  rw [List.take_succ_eq_append_getElem h, List.flatten_append, List.flatten_singleton]
theorem flatten_take_le {ls : List (List Int)} : ∀ {i : Nat}, (ls.take i).flatten.length ≤ ls.flatten.length := by
  induction ls with
  | nil => intro i; simp
  | cons a ls ih => intro i; cases i with
    | zero => simp
    | succ i => have := @ih i; simp only [List.take_succ_cons, List.flatten_cons, List.length_append]; omega
theorem ref01_Join_eq {ls : List (List Int)} (h : ls.flatten.length ≤ lim) (hn : ls.length ≤ big) : ref01_Join ls = some (((), ()), (ls.flatten, ())) := by
  unfold ref01_Join
  rw [loopV_ind (o := (((), ()), (ls.flatten, ()))) (fun i => (((), ((i : Int), ())), ((ls.take i).flatten, ()))) ls.length]
  · rfl
  · simp
  · intro i hi
    have h1 : (ls.take (i + 1)).flatten.length ≤ lim := Nat.le_trans flatten_take_le h
    rw [flatten_take_succ hi] at h1
    have hg : rd (.slice (.int .u8)) ls (i : Int) = ls[i] := by
      rw [rd_eq, Int.toNat_natCast, List.getD_eq_getElem?_getD, List.getElem?_eq_getElem hi]; rfl
    simp only [ref01_Join_L1, decide_eq_true (show (i : Int) < (ls.length : Int) by omega), cond_true, inb_t (show 0 ≤ (i : Int) ∧ (i : Int) < (ls.length : Int) by omega), hg]
    rw [ref01_joined_eq (by simpa using h1)]
    simp only [Option.bind_some]
    rw [IntWalk.i64_in _ (by unfold big at hn; omega), flatten_take_succ hi]
    rfl
  · simp [ref01_Join_L1]
theorem ref01_Same_eq {a b : List Int} : ref01_Same a b = some ((decide (a = b), ()), ()) := by
  simp [ref01_Same, eqList_int]
end Go.PE
end

section
namespace Go.PE
set_option linter.unusedSimpArgs false
set_option linter.unusedVariables false
theorem ref01_little_eq {v n : Nat} (hv : v < 2 ^ 64) (hn : n ≤ 8) : ref01_little (v : Int) (n : Int) = some (((), ()), (le v n, ())) := by
  unfold ref01_little
  have c1 : (0 : Int) ≤ (n : Int) := by omega
  have c2 : (n : Int) ≤ ((lim : Nat) : Int) := by rw [lim_eq]; omega
  simp only [c1, c2, Int.le_refl, decide_true, Bool.and_self, cond_true, Int.toNat_natCast, List.length_replicate]
  rw [loopV_ind (step := ref01_little_L1 (v : Int) (n : Int)) (o := (((), ()), (le v n, ()))) (fun i => (((), ((i : Int), ())), (le v i ++ List.replicate (n - i) 0, ()))) n ?_ ?_ ?_]
  · rfl
  · simp [le]
  · intro i hi
    unfold ref01_little_L1
    have h1 : ((i : Int) < (n : Int)) := by omega
    have h2 := put_step (show i < 8 by omega)
    have h3 : ¬ ((8 * i : Nat) : Int) < 0 := by omega
    have h4 : inb (i : Int) (le v i ++ List.replicate (n - i) (0 : Int)).length = true := inb_nat (by rw [List.length_append, le_len, List.length_replicate]; omega)
    have h5 : (le v i ++ List.replicate (n - i) (0 : Int))[i]? = some 0 := by
      rw [List.getElem?_append_right (by rw [le_len]; omega), le_len, List.getElem?_replicate_of_lt (by omega)]
    have h6 : (le v i ++ List.replicate (n - i) (0 : Int)).set i ((v / 256 ^ i % 256 : Nat) : Int) = le v (i + 1) ++ List.replicate (n - (i + 1)) 0 := by
      rw [List.set_append_right (h := by rw [le_len]; omega), le_len, le_up, Nat.sub_self]
      obtain ⟨k, hk⟩ : ∃ k, n - i = k + 1 := ⟨n - i - 1, by omega⟩
      have hk2 : n - (i + 1) = k := by omega
      rw [hk, hk2, List.replicate_succ, List.set_cons_zero, List.append_assoc]; rfl
    have hup := i64_up hi (show n ≤ big from Nat.le_trans hn (by decide))
    simp only [h1, decide_true, cond_true]
    simp only [h2, h3, decide_false, cond_false, h4, cond_true, Int.toNat_natCast, h5, Option.bind_some, hup, le_byte hv (show i < 8 by omega), h6]
  · have h1 : ¬ ((n : Int) < (n : Int)) := by omega
    simp [ref01_little_L1, h1]
theorem ref01_AppendU32_eq {a : List Int} {x : Int} (h : 0 ≤ x ∧ x ≤ 4294967295) (hl : a.length + 4 ≤ lim) : ref01_AppendU32 a x = some (((), ()), (a ++ le x.toNat 4, ())) := by
  unfold ref01_AppendU32
  have e : IntKind.u64.wrap x = ((x.toNat : Nat) : Int) := by rw [wrap_un rfl (by omega) (by simp only [IntKind.bits]; omega)]; omega
  have e2 := ref01_little_eq (v := x.toNat) (n := 4) (by omega) (by omega)
  rw [e, show (4 : Int) = ((4 : Nat) : Int) from rfl, e2]
  simp only [Option.bind_some]
  rw [ref01_joined_eq (by rw [le_len]; exact hl)]; rfl
theorem ref01_AppendHash_eq {a h : List Int} (hh : h.length = 32) (hl : a.length + 32 ≤ lim) : ref01_AppendHash a h = some (((), ()), (a ++ h, ())) := by
  unfold ref01_AppendHash
  have h4 : sub h 0 32 = h := by unfold sub; rw [List.drop_zero, List.take_of_length_le (by omega)]
  rw [h4, ref01_joined_eq (by rw [hh]; exact hl)]; rfl
end Go.PE
end
