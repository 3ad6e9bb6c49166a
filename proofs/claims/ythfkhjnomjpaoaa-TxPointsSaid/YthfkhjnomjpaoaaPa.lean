/- What the printed functions of the program are, and the plain law; conditions stand in each statement. -/
import Derived.Test.YthfkhjnomjpaoaaQa
import Derived.Test.YthfkhjnomjpaoaaQc
import Derived.IntWalk
import Derived.Test.YthfkhjnomjpaoaaQb
import Derived.KernelRfl
section
namespace Go.PE
abbrev T_8464 : Ty := (.cons .ptr .nil)
abbrev D_8464 : Type := Unit × Unit
abbrev T_a556 : Ty := (.cons .str (.cons (.int .u64) .nil))
abbrev D_a556 : Type := (List Int) × Int × Unit
abbrev T_b101 : Ty := (.cons (.int .i64) (.cons (.slice (.int .u8)) .nil))
abbrev D_b101 : Type := Int × (List Int) × Unit
abbrev T_3393 : Ty := (.cons (.slice (.int .i64)) (.cons (.int .i64) .nil))
abbrev D_3393 : Type := (List Int) × Int × Unit
abbrev T_6649 : Ty := (.cons (.int .i64) (.cons (.arr 32 (.int .u8)) .nil))
abbrev D_6649 : Type := Int × (List Int) × Unit
abbrev T_b85e : Ty := (.cons (.arr 32 (.int .u8)) (.cons (.int .u32) .nil))
abbrev D_b85e : Type := (List Int) × Int × Unit
abbrev T_f0bb : Ty := (.cons .ptr (.cons .ptr (.cons .ptr (.cons .str .nil))))
abbrev D_f0bb : Type := Unit × Unit × Unit × (List Int) × Unit
abbrev T_07e8 : Ty := (.cons (.slice (.int .u8)) (.cons (.int .i64) (.cons (.int .i64) .nil)))
abbrev D_07e8 : Type := (List Int) × Int × Int × Unit
abbrev T_d60b : Ty := (.cons (.slice (.arr 32 (.int .u8))) (.cons (.slice (.arr 32 (.int .u8))) .nil))
abbrev D_d60b : Type := (List (List Int)) × (List (List Int)) × Unit
abbrev T_d9b8 : Ty := (.cons (.int .i64) (.cons (.int .i64) (.cons .bool (.cons (.int .u8) .nil))))
abbrev D_d9b8 : Type := Int × Int × Bool × Int × Unit
abbrev T_089d : Ty := (.cons T_b85e (.cons (.int .u32) (.cons (.slice (.slice (.int .u8))) .nil)))
abbrev D_089d : Type := D_b85e × Int × (List (List Int)) × Unit
abbrev T_2c9a : Ty := (.cons (.int .i64) (.cons (.int .i64) (.cons (.arr 32 (.int .u8)) (.cons (.slice T_6649) .nil))))
abbrev D_2c9a : Type := Int × Int × (List Int) × (List D_6649) × Unit
abbrev T_a496 : Ty := (.cons (.slice (.int .i64)) (.cons (.int .i64) (.cons (.slice (.int .i64)) (.cons T_3393 (.cons .bool .nil)))))
abbrev D_a496 : Type := (List Int) × Int × (List Int) × D_3393 × Bool × Unit
abbrev T_fbab : Ty := (.cons (.int .u64) (.cons (.int .u64) (.cons (.int .u32) (.cons (.int .u8) (.cons (.int .u8) (.cons (.int .u8) (.cons (.int .u8) (.cons .fn (.cons .ptr (.cons (.int .i32) (.cons (.int .i32) .nil)))))))))))
abbrev D_fbab : Type := Int × Int × Int × Int × Int × Int × Int × Unit × Unit × Int × Int × Unit
abbrev T_8f0a : Ty := (.cons (.int .u32) (.cons (.slice T_089d) (.cons (.slice T_b101) (.cons (.int .u32) .nil))))
abbrev D_8f0a : Type := Int × (List D_089d) × (List D_b101) × Int × Unit
def S_0d66ef : List Int := [0, 1, 2, 2, 3, 3, 3, 3, 4, 4, 4, 4, 4, 4, 4, 4, 5, 5, 5, 5, 5, 5, 5, 5, 5, 5, 5, 5, 5, 5, 5, 5, 6, 6, 6, 6, 6, 6, 6, 6, 6, 6, 6, 6, 6, 6, 6, 6, 6, 6, 6, 6, 6, 6, 6, 6, 6, 6, 6, 6, 6, 6, 6, 6, 7, 7, 7, 7, 7, 7, 7, 7, 7, 7, 7, 7, 7, 7, 7, 7, 7, 7, 7, 7, 7, 7, 7, 7, 7, 7, 7, 7, 7, 7, 7, 7, 7, 7, 7, 7, 7, 7, 7, 7, 7, 7, 7, 7, 7, 7, 7, 7, 7, 7, 7, 7, 7, 7, 7, 7, 7, 7, 7, 7, 7, 7, 7, 7, 8, 8, 8, 8, 8, 8, 8, 8, 8, 8, 8, 8, 8, 8, 8, 8, 8, 8, 8, 8, 8, 8, 8, 8, 8, 8, 8, 8, 8, 8, 8, 8, 8, 8, 8, 8, 8, 8, 8, 8, 8, 8, 8, 8, 8, 8, 8, 8, 8, 8, 8, 8, 8, 8, 8, 8, 8, 8, 8, 8, 8, 8, 8, 8, 8, 8, 8, 8, 8, 8, 8, 8, 8, 8, 8, 8, 8, 8, 8, 8, 8, 8, 8, 8, 8, 8, 8, 8, 8, 8, 8, 8, 8, 8, 8, 8, 8, 8, 8, 8, 8, 8, 8, 8, 8, 8, 8, 8, 8, 8, 8, 8, 8, 8, 8, 8, 8, 8, 8, 8, 8, 8, 8, 8, 8, 8, 8, 8]
def G_3e2daa : List Int := [1779033703, 3144134277, 1013904242, 2773480762, 1359893119, 2600822924, 528734635, 1541459225]
def G_c990df : List Int := [1116352408, 1899447441, 3049323471, 3921009573, 961987163, 1508970993, 2453635748, 2870763221, 3624381080, 310598401, 607225278, 1426881987, 1925078388, 2162078206, 2614888103, 3248222580, 3835390401, 4022224774, 264347078, 604807628, 770255983, 1249150122, 1555081692, 1996064986, 2554220882, 2821834349, 2952996808, 3210313671, 3336571891, 3584528711, 113926993, 338241895, 666307205, 773529912, 1294757372, 1396182291, 1695183700, 1986661051, 2177026350, 2456956037, 2730485921, 2820302411, 3259730800, 3345764771, 3516065817, 3600352804, 4094571909, 275423344, 430227734, 506948616, 659060556, 883997877, 958139571, 1322822218, 1537002063, 1747873779, 1955562222, 2024104815, 2227730452, 2361852424, 2428436474, 2756734187, 3204031479, 3329325298]
end Go.PE
end

section
set_option linter.unusedVariables false
noncomputable section
namespace Go.PE

def keep_Items_L1 (c2 : Int) (c13 : List (List Int)) (c14 : Int) (v : (Int × Unit) × Unit) : Option (((Int × Unit) × Unit) ⊕ (((Bool × Unit) × Unit) ⊕ ((Unit) × Unit))) :=
  bif (decide (v.1.1 < c14)) then
    bif (inb v.1.1 (List.length c13)) then
      bif (decide (c2 < (((List.length (rd (.slice (.int .u8)) c13 v.1.1)) : Int)))) then
        some (.inr (.inl ((false, ()), ())))
      else
        some (.inl (((IntKind.i64.wrap (v.1.1 + (1 : Int))), ()), ()))
    else
      none
  else
    some (.inr (.inr ((), ())))

/-- lightclient/lightclientkeep.Items -/
def keep_Items (a0 : List (List Int)) (a1 : Int) (a2 : Int) : Option ((Bool × Unit) × Unit) :=
  bif (decide (a1 < (((List.length a0) : Int)))) then
    some ((false, ()), ())
  else
    (loopV (keep_Items_L1 a2 a0 (((List.length a0) : Int))) (((0 : Int), ()), ())).bind fun o7 =>
    match o7 with
    | .inl o8 =>
      some ((o8.1.1, ()), ())
    | .inr o9 =>
      some ((true, ()), ())

def keep_Tx_L1 (c18 : List D_089d) (c19 : Int) (v : (Unit × Int × Unit) × D_8f0a × Unit) : Option (((Unit × Int × Unit) × D_8f0a × Unit) ⊕ (((Bool × Unit) × Unit) ⊕ ((Unit × Unit) × D_8f0a × Unit))) :=
  bif (decide (v.1.2.1 < c19)) then
    bif (inb v.1.2.1 (List.length c18)) then
      (keep_Items (rd T_089d c18 v.1.2.1).2.2.1 (40 : Int) (600 : Int)).bind fun r2003 =>
      bif (!r2003.1.1) then
        some (.inr (.inl ((false, ()), ())))
      else
        some (.inl (((), ((IntKind.i64.wrap (v.1.2.1 + (1 : Int))), ())), (v.2.1, ())))
    else
      none
  else
    some (.inr (.inr (((), ()), (v.2.1, ()))))

def keep_Tx_L2 (c30 : List D_b101) (c31 : Int) (v : (Int × Unit) × Unit) : Option (((Int × Unit) × Unit) ⊕ (((Bool × Unit) × Unit) ⊕ ((Unit) × Unit))) :=
  bif (decide (v.1.1 < c31)) then
    bif (inb v.1.1 (List.length c30)) then
      bif (decide ((600 : Int) < (((List.length (rd T_b101 c30 v.1.1).2.1) : Int)))) then
        some (.inr (.inl ((false, ()), ())))
      else
        some (.inl (((IntKind.i64.wrap (v.1.1 + (1 : Int))), ()), ()))
    else
      none
  else
    some (.inr (.inr ((), ())))

/-- lightclient/lightclientkeep.Tx -/
def keep_Tx (a0 : D_8f0a) : Option ((Bool × Unit) × Unit) :=
  bif (decide ((70 : Int) < (((List.length a0.2.1) : Int)))) then
    some ((false, ()), ())
  else
    bif (decide ((70 : Int) < (((List.length a0.2.2.1) : Int)))) then
      some ((false, ()), ())
    else
      (loopV (keep_Tx_L1 a0.2.1 (((List.length a0.2.1) : Int))) (((), ((0 : Int), ())), (a0, ()))).bind fun o7 =>
      match o7 with
      | .inl o8 =>
        some ((o8.1.1, ()), ())
      | .inr o9 =>
        (loopV (keep_Tx_L2 o9.2.1.2.2.1 (((List.length o9.2.1.2.2.1) : Int))) (((0 : Int), ()), ())).bind fun o11 =>
        match o11 with
        | .inl o12 =>
          some ((o12.1.1, ()), ())
        | .inr o13 =>
          some ((true, ()), ())

end Go.PE
end
end

section
set_option linter.unusedVariables false
noncomputable section
namespace Go.PE

/-- lightclient/lightclientref01.joined -/
def ref01_joined (a0 : List Int) (a1 : List Int) : Option ((Unit × Unit) × (List Int) × Unit) :=
  let x5 := (IntKind.i64.wrap ((((List.length a0) : Int)) + (((List.length a1) : Int))))
  bif (decide (0 ≤ (0 : Int)) && decide ((0 : Int) ≤ x5) && decide (x5 ≤ (lim : Int))) then
    let x6 := (List.replicate (0) (0 : Int))
    bif (decide ((List.length x6) + (List.length a0) ≤ lim)) then
      let x7 := (x6 ++ a0)
      bif (decide ((List.length x7) + (List.length a1) ≤ lim)) then
        some (((), ()), ((x7 ++ a1), ()))
      else
        none
    else
      none
  else
    none

/-- lightclient/lightclientref01.AppendHash -/
def ref01_AppendHash (a0 : List Int) (a1 : List Int) : Option ((Unit × Unit) × (List Int) × Unit) :=
  (ref01_joined a0 (sub a1 (0) (32))).bind fun r3 =>
  some (((), ()), (r3.2.1, ()))

def ref01_little_L1 (c0 : Int) (c10 : Int) (v : (Unit × Int × Unit) × (List Int) × Unit) : Option (((Unit × Int × Unit) × (List Int) × Unit) ⊕ ((Unit × Unit) × (List Int) × Unit)) :=
  bif (decide (v.1.2.1 < c10)) then
    let x2002 := (IntKind.i64.wrap ((8 : Int) * v.1.2.1))
    bif (decide (x2002 < 0)) then
      none
    else
      bif (inb v.1.2.1 (List.length v.2.1)) then
        (v.2.1[(Int.toNat v.1.2.1)]?).bind fun e2005 =>
        some (.inl (((), ((IntKind.i64.wrap (v.1.2.1 + (1 : Int))), ())), ((v.2.1.set (Int.toNat v.1.2.1) (IntKind.u8.wrap ((shrI .u64 c0 x2002)))), ())))
      else
        none
  else
    some (.inr (((), ()), (v.2.1, ())))

/-- lightclient/lightclientref01.little -/
def ref01_little (a0 : Int) (a1 : Int) : Option ((Unit × Unit) × (List Int) × Unit) :=
  bif (decide (0 ≤ a1) && decide (a1 ≤ a1) && decide (a1 ≤ (lim : Int))) then
    let x3 := (List.replicate (Int.toNat a1) (0 : Int))
    (loopV (ref01_little_L1 a0 (((List.length x3) : Int))) (((), ((0 : Int), ())), (x3, ()))).bind fun o5 =>
    some (((), ()), (o5.2.1, ()))
  else
    none

/-- lightclient/lightclientref01.AppendU32 -/
def ref01_AppendU32 (a0 : List Int) (a1 : Int) : Option ((Unit × Unit) × (List Int) × Unit) :=
  (ref01_little (IntKind.u64.wrap (a1)) (4 : Int)).bind fun r4 =>
  (ref01_joined a0 r4.2.1).bind fun r5 =>
  some (((), ()), (r5.2.1, ()))

/-- lightclient/lightclientref01.Same -/
def ref01_Same (a0 : List Int) (a1 : List Int) : Option ((Bool × Unit) × Unit) :=
  some (((eqList (fun (x y : Int) => decide (x = y)) a0 a1), ()), ())

def ref01_Join_L1 (c6 : List (List Int)) (c7 : Int) (v : (Unit × Int × Unit) × (List Int) × Unit) : Option (((Unit × Int × Unit) × (List Int) × Unit) ⊕ ((Unit × Unit) × (List Int) × Unit)) :=
  bif (decide (v.1.2.1 < c7)) then
    bif (inb v.1.2.1 (List.length c6)) then
      (ref01_joined v.2.1 (rd (.slice (.int .u8)) c6 v.1.2.1)).bind fun r2003 =>
      some (.inl (((), ((IntKind.i64.wrap (v.1.2.1 + (1 : Int))), ())), (r2003.2.1, ())))
    else
      none
  else
    some (.inr (((), ()), (v.2.1, ())))

/-- lightclient/lightclientref01.Join -/
def ref01_Join (a0 : List (List Int)) : Option ((Unit × Unit) × (List Int) × Unit) :=
  (loopV (ref01_Join_L1 a0 (((List.length a0) : Int))) (((), ((0 : Int), ())), (([] : List Int), ()))).bind fun o3 =>
  some (((), ()), (o3.2.1, ()))

/-- lightclient/lightclientref01.AppendSize -/
def ref01_AppendSize (a0 : List Int) (a1 : Int) : Option ((Unit × Unit) × (List Int) × Unit) :=
  bif (decide (a1 < (253 : Int))) then
    (ref01_little a1 (1 : Int)).bind fun r4 =>
    (ref01_joined a0 r4.2.1).bind fun r5 =>
    some (((), ()), (r5.2.1, ()))
  else
    bif (decide (a1 < (65536 : Int))) then
      (ref01_little a1 (2 : Int)).bind fun r8 =>
      (ref01_joined ([(253 : Int)] : List Int) r8.2.1).bind fun r9 =>
      (ref01_joined a0 r9.2.1).bind fun r10 =>
      some (((), ()), (r10.2.1, ()))
    else
      bif (decide (a1 < (4294967296 : Int))) then
        (ref01_little a1 (4 : Int)).bind fun r13 =>
        (ref01_joined ([(254 : Int)] : List Int) r13.2.1).bind fun r14 =>
        (ref01_joined a0 r14.2.1).bind fun r15 =>
        some (((), ()), (r15.2.1, ()))
      else
        (ref01_little a1 (8 : Int)).bind fun r17 =>
        (ref01_joined ([(255 : Int)] : List Int) r17.2.1).bind fun r18 =>
        (ref01_joined a0 r18.2.1).bind fun r19 =>
        some (((), ()), (r19.2.1, ()))

/-- lightclient/lightclientref01.AppendBytes -/
def ref01_AppendBytes (a0 : List Int) (a1 : List Int) : Option ((Unit × Unit) × (List Int) × Unit) :=
  (ref01_AppendSize a0 (IntKind.u64.wrap ((((List.length a1) : Int))))).bind fun r5 =>
  (ref01_joined r5.2.1 a1).bind fun r6 =>
  some (((), ()), (r6.2.1, ()))

end Go.PE
end
end

section
set_option linter.unusedVariables false
noncomputable section
namespace Go.PE

def ref09_Compare_L1 (v : (Unit × Unit × Int × Unit) × D_b85e × D_b85e × Unit) : Option (((Unit × Unit × Int × Unit) × D_b85e × D_b85e × Unit) ⊕ (((Int × Unit) × Unit) ⊕ ((Unit × Unit × Unit) × D_b85e × D_b85e × Unit))) :=
  bif (decide (v.1.2.2.1 < (32 : Int))) then
    bif (inb v.1.2.2.1 (32)) then
      (v.2.1.1[(Int.toNat v.1.2.2.1)]?).bind fun e2002 =>
      bif (inb v.1.2.2.1 (32)) then
        (v.2.2.1.1[(Int.toNat v.1.2.2.1)]?).bind fun e2003 =>
        bif (decide (e2002 < e2003)) then
          some (.inr (.inl (((-1 : Int), ()), ())))
        else
          bif (inb v.1.2.2.1 (32)) then
            (v.2.1.1[(Int.toNat v.1.2.2.1)]?).bind fun e2005 =>
            bif (inb v.1.2.2.1 (32)) then
              (v.2.2.1.1[(Int.toNat v.1.2.2.1)]?).bind fun e2006 =>
              bif (decide (e2006 < e2005)) then
                some (.inr (.inl (((1 : Int), ()), ())))
              else
                some (.inl (((), ((), ((IntKind.i64.wrap (v.1.2.2.1 + (1 : Int))), ()))), (v.2.1, (v.2.2.1, ()))))
            else
              none
          else
            none
      else
        none
    else
      none
  else
    some (.inr (.inr (((), ((), ())), (v.2.1, (v.2.2.1, ())))))

/-- lightclient/lightclientref09.Compare -/
def ref09_Compare (a0 : D_b85e) (a1 : D_b85e) : Option ((Int × Unit) × Unit) :=
  (loopV (ref09_Compare_L1) (((), ((), ((0 : Int), ()))), (a0, (a1, ())))).bind fun o3 =>
  match o3 with
  | .inl o4 =>
    some ((o4.1.1, ()), ())
  | .inr o5 =>
    bif (decide (o5.2.1.2.1 < o5.2.2.1.2.1)) then
      some (((-1 : Int), ()), ())
    else
      bif (decide (o5.2.2.1.2.1 < o5.2.1.2.1)) then
        some (((1 : Int), ()), ())
      else
        some (((0 : Int), ()), ())

/-- lightclient/lightclientref09.Point -/
def ref09_Point (a0 : D_b85e) : Option ((Unit × Unit) × (List Int) × Unit) :=
  (ref01_AppendHash ([] : List Int) a0.1).bind fun r2 =>
  (ref01_AppendU32 r2.2.1 a0.2.1).bind fun r3 =>
  some (((), ()), (r3.2.1, ()))

end Go.PE
end
end

section
set_option linter.unusedVariables false
noncomputable section
namespace Go.PE

def codec_put_uint32_L1 (c1 : Int) (c16 : Int) (v : (Unit × Int × Unit) × (List Int) × Unit) : Option (((Unit × Int × Unit) × (List Int) × Unit) ⊕ ((Unit × Unit) × (List Int) × Unit)) :=
  bif (decide (v.1.2.1 < c16)) then
    let x2003 := (IntKind.i64.wrap ((8 : Int) * v.1.2.1))
    bif (decide (x2003 < 0)) then
      none
    else
      let x2006 := ([(IntKind.u8.wrap ((shrI .u64 (IntKind.u64.wrap (c1)) x2003)))] : List Int)
      bif (decide ((List.length v.2.1) + (List.length x2006) ≤ lim)) then
        some (.inl (((), ((IntKind.i64.wrap (v.1.2.1 + (1 : Int))), ())), ((v.2.1 ++ x2006), ())))
      else
        none
  else
    some (.inr (((), ()), (v.2.1, ())))

/-- lightclient/codec.put[uint32] -/
def codec_put_uint32 (a0 : List Int) (a1 : Int) (a2 : Int) : Option ((Unit × Unit) × (List Int) × Unit) :=
  let x5 := (IntKind.i64.wrap ((((List.length a0) : Int)) + a2))
  bif (decide (0 ≤ (0 : Int)) && decide ((0 : Int) ≤ x5) && decide (x5 ≤ (lim : Int))) then
    let x6 := (List.replicate (0) (0 : Int))
    bif (decide ((List.length x6) + (List.length a0) ≤ lim)) then
      (loopV (codec_put_uint32_L1 a1 a2) (((), ((0 : Int), ())), ((x6 ++ a0), ()))).bind fun o8 =>
      some (((), ()), (o8.2.1, ()))
    else
      none
  else
    none

/-- lightclient/codec.AppendU32 -/
def codec_AppendU32 (a0 : List Int) (a1 : Int) : Option ((Unit × Unit) × (List Int) × Unit) :=
  (codec_put_uint32 a0 a1 (4 : Int)).bind fun r3 =>
  some (((), ()), (r3.2.1, ()))

def codec_put_uint8_L1 (c1 : Int) (c16 : Int) (v : (Unit × Int × Unit) × (List Int) × Unit) : Option (((Unit × Int × Unit) × (List Int) × Unit) ⊕ ((Unit × Unit) × (List Int) × Unit)) :=
  bif (decide (v.1.2.1 < c16)) then
    let x2003 := (IntKind.i64.wrap ((8 : Int) * v.1.2.1))
    bif (decide (x2003 < 0)) then
      none
    else
      let x2006 := ([(IntKind.u8.wrap ((shrI .u64 (IntKind.u64.wrap (c1)) x2003)))] : List Int)
      bif (decide ((List.length v.2.1) + (List.length x2006) ≤ lim)) then
        some (.inl (((), ((IntKind.i64.wrap (v.1.2.1 + (1 : Int))), ())), ((v.2.1 ++ x2006), ())))
      else
        none
  else
    some (.inr (((), ()), (v.2.1, ())))

/-- lightclient/codec.put[uint8] -/
def codec_put_uint8 (a0 : List Int) (a1 : Int) (a2 : Int) : Option ((Unit × Unit) × (List Int) × Unit) :=
  let x5 := (IntKind.i64.wrap ((((List.length a0) : Int)) + a2))
  bif (decide (0 ≤ (0 : Int)) && decide ((0 : Int) ≤ x5) && decide (x5 ≤ (lim : Int))) then
    let x6 := (List.replicate (0) (0 : Int))
    bif (decide ((List.length x6) + (List.length a0) ≤ lim)) then
      (loopV (codec_put_uint8_L1 a1 a2) (((), ((0 : Int), ())), ((x6 ++ a0), ()))).bind fun o8 =>
      some (((), ()), (o8.2.1, ()))
    else
      none
  else
    none

def codec_put_uint16_L1 (c1 : Int) (c16 : Int) (v : (Unit × Int × Unit) × (List Int) × Unit) : Option (((Unit × Int × Unit) × (List Int) × Unit) ⊕ ((Unit × Unit) × (List Int) × Unit)) :=
  bif (decide (v.1.2.1 < c16)) then
    let x2003 := (IntKind.i64.wrap ((8 : Int) * v.1.2.1))
    bif (decide (x2003 < 0)) then
      none
    else
      let x2006 := ([(IntKind.u8.wrap ((shrI .u64 (IntKind.u64.wrap (c1)) x2003)))] : List Int)
      bif (decide ((List.length v.2.1) + (List.length x2006) ≤ lim)) then
        some (.inl (((), ((IntKind.i64.wrap (v.1.2.1 + (1 : Int))), ())), ((v.2.1 ++ x2006), ())))
      else
        none
  else
    some (.inr (((), ()), (v.2.1, ())))

/-- lightclient/codec.put[uint16] -/
def codec_put_uint16 (a0 : List Int) (a1 : Int) (a2 : Int) : Option ((Unit × Unit) × (List Int) × Unit) :=
  let x5 := (IntKind.i64.wrap ((((List.length a0) : Int)) + a2))
  bif (decide (0 ≤ (0 : Int)) && decide ((0 : Int) ≤ x5) && decide (x5 ≤ (lim : Int))) then
    let x6 := (List.replicate (0) (0 : Int))
    bif (decide ((List.length x6) + (List.length a0) ≤ lim)) then
      (loopV (codec_put_uint16_L1 a1 a2) (((), ((0 : Int), ())), ((x6 ++ a0), ()))).bind fun o8 =>
      some (((), ()), (o8.2.1, ()))
    else
      none
  else
    none

def codec_put_uint64_L1 (c1 : Int) (c16 : Int) (v : (Unit × Int × Unit) × (List Int) × Unit) : Option (((Unit × Int × Unit) × (List Int) × Unit) ⊕ ((Unit × Unit) × (List Int) × Unit)) :=
  bif (decide (v.1.2.1 < c16)) then
    let x2002 := (IntKind.i64.wrap ((8 : Int) * v.1.2.1))
    bif (decide (x2002 < 0)) then
      none
    else
      let x2005 := ([(IntKind.u8.wrap ((shrI .u64 c1 x2002)))] : List Int)
      bif (decide ((List.length v.2.1) + (List.length x2005) ≤ lim)) then
        some (.inl (((), ((IntKind.i64.wrap (v.1.2.1 + (1 : Int))), ())), ((v.2.1 ++ x2005), ())))
      else
        none
  else
    some (.inr (((), ()), (v.2.1, ())))

/-- lightclient/codec.put[uint64] -/
def codec_put_uint64 (a0 : List Int) (a1 : Int) (a2 : Int) : Option ((Unit × Unit) × (List Int) × Unit) :=
  let x5 := (IntKind.i64.wrap ((((List.length a0) : Int)) + a2))
  bif (decide (0 ≤ (0 : Int)) && decide ((0 : Int) ≤ x5) && decide (x5 ≤ (lim : Int))) then
    let x6 := (List.replicate (0) (0 : Int))
    bif (decide ((List.length x6) + (List.length a0) ≤ lim)) then
      (loopV (codec_put_uint64_L1 a1 a2) (((), ((0 : Int), ())), ((x6 ++ a0), ()))).bind fun o8 =>
      some (((), ()), (o8.2.1, ()))
    else
      none
  else
    none

/-- lightclient/codec.AppendSize -/
def codec_AppendSize (a0 : List Int) (a1 : Int) : Option ((Unit × Unit) × (List Int) × Unit) :=
  bif (decide (a1 < (253 : Int))) then
    (codec_put_uint8 a0 (IntKind.u8.wrap (a1)) (1 : Int)).bind fun r5 =>
    some (((), ()), (r5.2.1, ()))
  else
    bif (decide (a1 < (65536 : Int))) then
      (codec_put_uint8 a0 (253 : Int) (1 : Int)).bind fun r7 =>
      (codec_put_uint16 r7.2.1 (IntKind.u16.wrap (a1)) (2 : Int)).bind fun r9 =>
      some (((), ()), (r9.2.1, ()))
    else
      bif (decide (a1 < (4294967296 : Int))) then
        (codec_put_uint8 a0 (254 : Int) (1 : Int)).bind fun r11 =>
        (codec_put_uint32 r11.2.1 (IntKind.u32.wrap (a1)) (4 : Int)).bind fun r13 =>
        some (((), ()), (r13.2.1, ()))
      else
        (codec_put_uint8 a0 (255 : Int) (1 : Int)).bind fun r14 =>
        (codec_put_uint64 r14.2.1 a1 (8 : Int)).bind fun r15 =>
        some (((), ()), (r15.2.1, ()))

/-- lightclient/codec.AppendHash -/
def codec_AppendHash (a0 : List Int) (a1 : List Int) : Option ((Unit × Unit) × (List Int) × Unit) :=
  let x4 := (IntKind.i64.wrap ((((List.length a0) : Int)) + (32 : Int)))
  bif (decide (0 ≤ (0 : Int)) && decide ((0 : Int) ≤ x4) && decide (x4 ≤ (lim : Int))) then
    let x5 := (List.replicate (0) (0 : Int))
    bif (decide ((List.length x5) + (List.length a0) ≤ lim)) then
      let x6 := (x5 ++ a0)
      bif (decide ((List.length x6) + (List.length (sub a1 (0) (32))) ≤ lim)) then
        some (((), ()), ((x6 ++ (sub a1 (0) (32))), ()))
      else
        none
    else
      none
  else
    none

/-- lightclient/codec.AppendU64 -/
def codec_AppendU64 (a0 : List Int) (a1 : Int) : Option ((Unit × Unit) × (List Int) × Unit) :=
  (codec_put_uint64 a0 a1 (8 : Int)).bind fun r3 =>
  some (((), ()), (r3.2.1, ()))

/-- lightclient/codec.AppendBytes -/
def codec_AppendBytes (a0 : List Int) (a1 : List Int) : Option ((Unit × Unit) × (List Int) × Unit) :=
  (codec_AppendSize a0 (IntKind.u64.wrap ((((List.length a1) : Int))))).bind fun r5 =>
  bif (decide ((List.length r5.2.1) + (List.length a1) ≤ lim)) then
    some (((), ()), ((r5.2.1 ++ a1), ()))
  else
    none

end Go.PE
end
end

section
set_option linter.unusedVariables false
noncomputable section
namespace Go.PE

/-- slices.Clone[[]int,int] -/
def slices_Clone_int_int (a0 : List Int) : Option ((Unit × Unit) × (List Int) × Unit) :=
  bif decide (List.length a0 ≤ lim) then some (((), ()), (a0, ())) else none

def math_bits_Len64_J1 (v : (Int × Int × Unit) × Unit) : Option ((Int × Int × Unit) × Unit) :=
  bif (decide ((4294967296 : Int) ≤ v.1.1)) then
    some (((shrI .u64 v.1.1 (32 : Int)), ((32 : Int), ())), ())
  else
    some ((v.1.1, (v.1.2.1, ())), ())

def math_bits_Len64_J2 (v : (Int × Int × Unit) × Unit) : Option ((Int × Int × Unit) × Unit) :=
  bif (decide ((65536 : Int) ≤ v.1.1)) then
    some (((shrI .u64 v.1.1 (16 : Int)), ((IntKind.i64.wrap (v.1.2.1 + (16 : Int))), ())), ())
  else
    some ((v.1.1, (v.1.2.1, ())), ())

def math_bits_Len64_J3 (v : (Int × Int × Unit) × Unit) : Option ((Int × Int × Unit) × Unit) :=
  bif (decide ((256 : Int) ≤ v.1.1)) then
    some (((shrI .u64 v.1.1 (8 : Int)), ((IntKind.i64.wrap (v.1.2.1 + (8 : Int))), ())), ())
  else
    some ((v.1.1, (v.1.2.1, ())), ())

/-- math/bits.Len64 -/
def math_bits_Len64 (a0 : Int) : Option ((Int × Unit) × Unit) :=
  (math_bits_Len64_J1 ((a0, ((0 : Int), ())), ())).bind fun o2 =>
  (math_bits_Len64_J2 ((o2.1.1, (o2.1.2.1, ())), ())).bind fun o3 =>
  (math_bits_Len64_J3 ((o3.1.1, (o3.1.2.1, ())), ())).bind fun o4 =>
  let x5 := (IntKind.u8.wrap (o4.1.1))
  bif (inb x5 (List.length S_0d66ef)) then
    some (((IntKind.i64.wrap (o4.1.2.1 + (IntKind.i64.wrap ((rd (.int .u8) S_0d66ef x5))))), ()), ())
  else
    none


/-- bytes.Compare -/
def bytes_Compare (a0 : List Int) (a1 : List Int) : Option ((Int × Unit) × Unit) :=
  (ext_compare a0 a1).bind fun r3 =>
  some ((r3.1.1, ()), ())

/-- cmp.isNaN[uint32] -/
def cmp_isNaN_uint32 (a0 : Int) : Option ((Bool × Unit) × Unit) :=
  some (((!decide (a0 = a0)), ()), ())

/-- cmp.Compare[uint32] -/
def cmp_Compare_uint32 (a0 : Int) (a1 : Int) : Option ((Int × Unit) × Unit) :=
  (cmp_isNaN_uint32 a0).bind fun r3 =>
  (cmp_isNaN_uint32 a1).bind fun r4 =>
  bif r3.1.1 then
    bif r4.1.1 then
      some (((0 : Int), ()), ())
    else
      some (((-1 : Int), ()), ())
  else
    bif r4.1.1 then
      some (((1 : Int), ()), ())
    else
      bif (decide (a0 < a1)) then
        some (((-1 : Int), ()), ())
      else
        bif (decide (a1 < a0)) then
          some (((1 : Int), ()), ())
        else
          some (((0 : Int), ()), ())

def cmp_Or_int_L1 (c3 : Int) (c6 : List Int) (c7 : Int) (v : (Int × Unit) × Unit) : Option (((Int × Unit) × Unit) ⊕ (((Int × Unit) × Unit) ⊕ ((Unit) × Unit))) :=
  bif (decide (v.1.1 < c7)) then
    bif (inb v.1.1 (List.length c6)) then
      let x2002 := (rd (.int .i64) c6 v.1.1)
      bif (!decide (x2002 = c3)) then
        some (.inr (.inl ((x2002, ()), ())))
      else
        some (.inl (((IntKind.i64.wrap (v.1.1 + (1 : Int))), ()), ()))
    else
      none
  else
    some (.inr (.inr ((), ())))

/-- cmp.Or[int] -/
def cmp_Or_int (a0 : List Int) : Option ((Int × Unit) × Unit) :=
  (loopV (cmp_Or_int_L1 (0 : Int) a0 (((List.length a0) : Int))) (((0 : Int), ()), ())).bind fun o3 =>
  match o3 with
  | .inl o4 =>
    some ((o4.1.1, ()), ())
  | .inr o5 =>
    some (((0 : Int), ()), ())

/-- math/bits.RotateLeft32 -/
def math_bits_RotateLeft32 (a0 : Int) (a1 : Int) : Option ((Int × Unit) × Unit) :=
  let x4 := (bitI .and .u64 (IntKind.u64.wrap (a1)) (31 : Int))
  some (((bitI .or .u32 (shlI .u32 a0 x4) (shrI .u32 a0 (IntKind.u64.wrap ((32 : Int) - x4)))), ()), ())

end Go.PE
end
end

section
set_option linter.unusedVariables false
noncomputable section
namespace Go.PE

def sha_Pad_L1 (c0 : Int) (v : (Unit × Int × Unit) × (List Int) × Unit) : Option (((Unit × Int × Unit) × (List Int) × Unit) ⊕ ((Unit × Unit) × (List Int) × Unit)) :=
  bif (decide ((0 : Int) ≤ v.1.2.1)) then
    bif (decide (v.1.2.1 < 0)) then
      none
    else
      let x2005 := ([(IntKind.u8.wrap ((shrI .u64 (IntKind.u64.wrap ((8 : Int) * c0)) v.1.2.1)))] : List Int)
      bif (decide ((List.length v.2.1) + (List.length x2005) ≤ lim)) then
        some (.inl (((), ((IntKind.i64.wrap (v.1.2.1 - (8 : Int))), ())), ((v.2.1 ++ x2005), ())))
      else
        none
  else
    some (.inr (((), ()), (v.2.1, ())))

/-- lightclient/sha.Pad -/
def sha_Pad (a0 : Int) : Option ((Unit × Unit) × (List Int) × Unit) :=
  let x6 := (IntKind.u64.wrap ((1 : Int) + (Int.tmod (IntKind.u64.wrap ((64 : Int) - (Int.tmod (IntKind.u64.wrap (a0 + (9 : Int))) (64 : Int)))) (64 : Int))))
  bif (decide (0 ≤ x6) && decide (x6 ≤ (72 : Int)) && decide ((72 : Int) ≤ (lim : Int))) then
    let x7 := (List.replicate (Int.toNat x6) (0 : Int))
    bif (inb (0 : Int) (List.length x7)) then
      (x7[(0)]?).bind fun e8 =>
      (loopV (sha_Pad_L1 a0) (((), ((56 : Int), ())), ((x7.set (0) (128 : Int)), ()))).bind fun o10 =>
      some (((), ()), (o10.2.1, ()))
    else
      none
  else
    none

/-- lightclient/sha.rotr -/
def sha_rotr (a0 : Int) (a1 : Int) : Option ((Int × Unit) × Unit) :=
  (math_bits_RotateLeft32 a0 (IntKind.i64.wrap (-a1))).bind fun r4 =>
  some ((r4.1.1, ()), ())

def sha_schedule_L1 (c9 : List Int) (v : (Unit × Unit × Int × Unit) × (List Int) × (List Int) × Unit) : Option (((Unit × Unit × Int × Unit) × (List Int) × (List Int) × Unit) ⊕ ((Unit × Unit × Unit) × (List Int) × (List Int) × Unit)) :=
  bif (decide (v.1.2.2.1 < (64 : Int))) then
    bif (inb v.1.2.2.1 (64)) then
      let x2003 := (IntKind.i64.wrap (Int.tdiv v.1.2.2.1 (4 : Int)))
      let x2004 := (IntKind.i64.wrap (Int.tdiv v.1.2.2.1 (4 : Int)))
      bif (inb x2004 (64)) then
        (v.2.2.1[(Int.toNat x2004)]?).bind fun e2005 =>
        bif (inb x2003 (64)) then
          (v.2.2.1[(Int.toNat x2003)]?).bind fun e2009 =>
          some (.inl (((), ((), ((IntKind.i64.wrap (v.1.2.2.1 + (1 : Int))), ()))), (v.2.1, ((v.2.2.1.set (Int.toNat x2003) (bitI .or .u32 (shlI .u32 e2005 (8 : Int)) (IntKind.u32.wrap ((rd (.int .u8) c9 v.1.2.2.1))))), ()))))
        else
          none
      else
        none
    else
      none
  else
    some (.inr (((), ((), ())), (v.2.1, (v.2.2.1, ()))))

def sha_schedule_L2 (v : (Unit × Unit × Int × Unit) × (List Int) × (List Int) × Unit) : Option (((Unit × Unit × Int × Unit) × (List Int) × (List Int) × Unit) ⊕ ((Unit × Unit × Unit) × (List Int) × (List Int) × Unit)) :=
  bif (decide (v.1.2.2.1 < (64 : Int))) then
    let x3002 := (IntKind.i64.wrap (v.1.2.2.1 - (15 : Int)))
    bif (inb x3002 (64)) then
      (v.2.2.1[(Int.toNat x3002)]?).bind fun e3003 =>
      (sha_rotr e3003 (7 : Int)).bind fun r3004 =>
      let x3005 := (IntKind.i64.wrap (v.1.2.2.1 - (15 : Int)))
      bif (inb x3005 (64)) then
        (v.2.2.1[(Int.toNat x3005)]?).bind fun e3006 =>
        (sha_rotr e3006 (18 : Int)).bind fun r3007 =>
        let x3009 := (IntKind.i64.wrap (v.1.2.2.1 - (15 : Int)))
        bif (inb x3009 (64)) then
          (v.2.2.1[(Int.toNat x3009)]?).bind fun e3010 =>
          let x3013 := (IntKind.i64.wrap (v.1.2.2.1 - (2 : Int)))
          bif (inb x3013 (64)) then
            (v.2.2.1[(Int.toNat x3013)]?).bind fun e3014 =>
            (sha_rotr e3014 (17 : Int)).bind fun r3015 =>
            let x3016 := (IntKind.i64.wrap (v.1.2.2.1 - (2 : Int)))
            bif (inb x3016 (64)) then
              (v.2.2.1[(Int.toNat x3016)]?).bind fun e3017 =>
              (sha_rotr e3017 (19 : Int)).bind fun r3018 =>
              let x3020 := (IntKind.i64.wrap (v.1.2.2.1 - (2 : Int)))
              bif (inb x3020 (64)) then
                (v.2.2.1[(Int.toNat x3020)]?).bind fun e3021 =>
                let x3024 := (IntKind.i64.wrap (v.1.2.2.1 - (16 : Int)))
                bif (inb x3024 (64)) then
                  (v.2.2.1[(Int.toNat x3024)]?).bind fun e3025 =>
                  let x3027 := (IntKind.i64.wrap (v.1.2.2.1 - (7 : Int)))
                  bif (inb x3027 (64)) then
                    (v.2.2.1[(Int.toNat x3027)]?).bind fun e3028 =>
                    bif (inb v.1.2.2.1 (64)) then
                      (v.2.2.1[(Int.toNat v.1.2.2.1)]?).bind fun e3031 =>
                      some (.inl (((), ((), ((IntKind.i64.wrap (v.1.2.2.1 + (1 : Int))), ()))), (v.2.1, ((v.2.2.1.set (Int.toNat v.1.2.2.1) (IntKind.u32.wrap ((IntKind.u32.wrap ((IntKind.u32.wrap (e3025 + (bitI .xor .u32 (bitI .xor .u32 r3004.1.1 r3007.1.1) (shrI .u32 e3010 (3 : Int))))) + e3028)) + (bitI .xor .u32 (bitI .xor .u32 r3015.1.1 r3018.1.1) (shrI .u32 e3021 (10 : Int)))))), ()))))
                    else
                      none
                  else
                    none
                else
                  none
              else
                none
            else
              none
          else
            none
        else
          none
      else
        none
    else
      none
  else
    some (.inr (((), ((), ())), (v.2.1, (v.2.2.1, ()))))

/-- lightclient/sha.schedule -/
def sha_schedule (a0 : List Int) : Option (((List Int) × Unit) × Unit) :=
  (loopV (sha_schedule_L1 a0) (((), ((), ((0 : Int), ()))), ((List.replicate 64 (0 : Int)), ((List.replicate 64 (0 : Int)), ())))).bind fun o2 =>
  (loopV (sha_schedule_L2) (((), ((), ((16 : Int), ()))), (o2.2.1, (o2.2.2.1, ())))).bind fun o3 =>
  some ((o3.2.2.1, ()), ())

def sha_Compress_L1 (c21 : List Int) (v : (Unit × Unit × Unit × Unit × Int × Unit) × (List Int) × (List Int) × (List Int) × (List Int) × Unit) : Option (((Unit × Unit × Unit × Unit × Int × Unit) × (List Int) × (List Int) × (List Int) × (List Int) × Unit) ⊕ ((Unit × Unit × Unit × Unit) × (List Int) × (List Int) × (List Int) × Unit)) :=
  bif (decide (v.1.2.2.2.2.1 < (64 : Int))) then
    bif (inb v.1.2.2.2.2.1 (64)) then
      bif (inb (0 : Int) (8)) then
        (v.2.2.2.2.1[(0)]?).bind fun e2003 =>
        bif (inb (1 : Int) (8)) then
          (v.2.2.2.2.1[(1)]?).bind fun e2004 =>
          bif (inb (2 : Int) (8)) then
            (v.2.2.2.2.1[(2)]?).bind fun e2005 =>
            bif (inb (4 : Int) (8)) then
              (v.2.2.2.2.1[(4)]?).bind fun e2006 =>
              bif (inb (5 : Int) (8)) then
                (v.2.2.2.2.1[(5)]?).bind fun e2007 =>
                bif (inb (6 : Int) (8)) then
                  (v.2.2.2.2.1[(6)]?).bind fun e2008 =>
                  bif (inb (7 : Int) (8)) then
                    (v.2.2.2.2.1[(7)]?).bind fun e2009 =>
                    (sha_rotr e2006 (6 : Int)).bind fun r2010 =>
                    (sha_rotr e2006 (11 : Int)).bind fun r2011 =>
                    (sha_rotr e2006 (25 : Int)).bind fun r2013 =>
                    bif (inb v.1.2.2.2.2.1 (64)) then
                      (v.2.2.2.1[(Int.toNat v.1.2.2.2.2.1)]?).bind fun e2022 =>
                      let x2023 := (IntKind.u32.wrap ((IntKind.u32.wrap ((IntKind.u32.wrap ((IntKind.u32.wrap (e2009 + (bitI .xor .u32 (bitI .xor .u32 r2010.1.1 r2011.1.1) r2013.1.1))) + (bitI .xor .u32 (bitI .and .u32 e2006 e2007) (bitI .and .u32 (bitI .xor .u32 (xorM .u32) e2006) e2008)))) + (rd (.int .u32) c21 v.1.2.2.2.2.1))) + e2022))
                      (sha_rotr e2003 (2 : Int)).bind fun r2024 =>
                      (sha_rotr e2003 (13 : Int)).bind fun r2025 =>
                      (sha_rotr e2003 (22 : Int)).bind fun r2027 =>
                      let x2035 := (IntKind.u32.wrap (x2023 + (IntKind.u32.wrap ((bitI .xor .u32 (bitI .xor .u32 r2024.1.1 r2025.1.1) r2027.1.1) + (bitI .xor .u32 (bitI .xor .u32 (bitI .and .u32 e2003 e2004) (bitI .and .u32 e2003 e2005)) (bitI .and .u32 e2004 e2005))))))
                      bif (inb (3 : Int) (8)) then
                        (v.2.2.2.2.1[(3)]?).bind fun e2036 =>
                        let x2037 := (IntKind.u32.wrap (e2036 + x2023))
                        ((List.replicate 8 (0 : Int))[(0)]?).bind fun e2038 =>
                        (((List.replicate 8 (0 : Int)).set (0) x2035)[(1)]?).bind fun e2039 =>
                        ((((List.replicate 8 (0 : Int)).set (0) x2035).set (1) e2003)[(2)]?).bind fun e2040 =>
                        (((((List.replicate 8 (0 : Int)).set (0) x2035).set (1) e2003).set (2) e2004)[(3)]?).bind fun e2041 =>
                        ((((((List.replicate 8 (0 : Int)).set (0) x2035).set (1) e2003).set (2) e2004).set (3) e2005)[(4)]?).bind fun e2042 =>
                        (((((((List.replicate 8 (0 : Int)).set (0) x2035).set (1) e2003).set (2) e2004).set (3) e2005).set (4) x2037)[(5)]?).bind fun e2043 =>
                        ((((((((List.replicate 8 (0 : Int)).set (0) x2035).set (1) e2003).set (2) e2004).set (3) e2005).set (4) x2037).set (5) e2006)[(6)]?).bind fun e2044 =>
                        (((((((((List.replicate 8 (0 : Int)).set (0) x2035).set (1) e2003).set (2) e2004).set (3) e2005).set (4) x2037).set (5) e2006).set (6) e2007)[(7)]?).bind fun e2045 =>
                        some (.inl (((), ((), ((), ((), ((IntKind.i64.wrap (v.1.2.2.2.2.1 + (1 : Int))), ()))))), (v.2.1, (v.2.2.1, (v.2.2.2.1, ((((((((((List.replicate 8 (0 : Int)).set (0) x2035).set (1) e2003).set (2) e2004).set (3) e2005).set (4) x2037).set (5) e2006).set (6) e2007).set (7) e2008), ()))))))
                      else
                        none
                    else
                      none
                  else
                    none
                else
                  none
              else
                none
            else
              none
          else
            none
        else
          none
      else
        none
    else
      none
  else
    some (.inr (((), ((), ((), ()))), (v.2.1, (v.2.2.1, (v.2.2.2.2.1, ())))))

def sha_Compress_L2 (v : (Unit × Unit × Unit × Int × Unit) × (List Int) × (List Int) × (List Int) × Unit) : Option (((Unit × Unit × Unit × Int × Unit) × (List Int) × (List Int) × (List Int) × Unit) ⊕ ((Unit × Unit × Unit) × (List Int) × (List Int) × Unit)) :=
  bif (decide (v.1.2.2.2.1 < (8 : Int))) then
    bif (inb v.1.2.2.2.1 (8)) then
      (v.2.2.2.1[(Int.toNat v.1.2.2.2.1)]?).bind fun e3002 =>
      bif (inb v.1.2.2.2.1 (8)) then
        (v.2.1[(Int.toNat v.1.2.2.2.1)]?).bind fun e3003 =>
        bif (inb v.1.2.2.2.1 (8)) then
          (v.2.2.2.1[(Int.toNat v.1.2.2.2.1)]?).bind fun e3005 =>
          some (.inl (((), ((), ((), ((IntKind.i64.wrap (v.1.2.2.2.1 + (1 : Int))), ())))), (v.2.1, (v.2.2.1, ((v.2.2.2.1.set (Int.toNat v.1.2.2.2.1) (IntKind.u32.wrap (e3002 + e3003))), ())))))
        else
          none
      else
        none
    else
      none
  else
    some (.inr (((), ((), ())), (v.2.2.1, (v.2.2.2.1, ()))))

/-- lightclient/sha.Compress -/
def sha_Compress (a0 : List Int) (a1 : List Int) : Option (((List Int) × Unit) × Unit) :=
  (sha_schedule a1).bind fun r3 =>
  (loopV (sha_Compress_L1 G_c990df) (((), ((), ((), ((), ((0 : Int), ()))))), (a0, ((List.replicate 8 (0 : Int)), (r3.1.1, (a0, ())))))).bind fun o4 =>
  (loopV (sha_Compress_L2) (((), ((), ((), ((0 : Int), ())))), (o4.2.1, (o4.2.2.1, (o4.2.2.2.1, ()))))).bind fun o5 =>
  some ((o5.2.2.1, ()), ())

def sha_Sum_L1 (v : (Unit × (List Int) × Unit × Unit) × (List Int) × (List Int) × Unit) : Option (((Unit × (List Int) × Unit × Unit) × (List Int) × (List Int) × Unit) ⊕ ((Unit × Unit × Unit) × (List Int) × (List Int) × Unit)) :=
  bif (decide ((0 : Int) < (((List.length v.1.2.1) : Int)))) then
    bif (decide (0 ≤ (64 : Int)) && decide ((64 : Int) ≤ ((List.length v.1.2.1) : Int))) then
      let x2003 := (sub v.1.2.1 (0) (64))
      bif (decide (64 ≤ (List.length x2003))) then
        (sha_Compress v.2.2.1 (List.take 64 x2003)).bind fun r2005 =>
        bif (decide (0 ≤ (64 : Int)) && decide ((64 : Int) ≤ ((List.length v.1.2.1) : Int))) then
          some (.inl (((), ((sub v.1.2.1 (64) ((List.length v.1.2.1) - (64))), ((), ()))), (v.2.1, (r2005.1.1, ()))))
        else
          none
      else
        none
    else
      none
  else
    some (.inr (((), ((), ())), (v.2.1, (v.2.2.1, ()))))

def sha_Sum_L2 (v : (Unit × Unit × Unit × Int × Unit) × (List Int) × (List Int) × (List Int) × Unit) : Option (((Unit × Unit × Unit × Int × Unit) × (List Int) × (List Int) × (List Int) × Unit) ⊕ ((Unit × Unit × Unit) × (List Int) × (List Int) × Unit)) :=
  bif (decide (v.1.2.2.2.1 < (32 : Int))) then
    let x3002 := (IntKind.i64.wrap (Int.tdiv v.1.2.2.2.1 (4 : Int)))
    bif (inb x3002 (8)) then
      (v.2.2.1[(Int.toNat x3002)]?).bind fun e3003 =>
      let x3006 := (IntKind.i64.wrap ((24 : Int) - (IntKind.i64.wrap ((8 : Int) * (Int.tmod v.1.2.2.2.1 (4 : Int))))))
      bif (decide (x3006 < 0)) then
        none
      else
        bif (inb v.1.2.2.2.1 (32)) then
          (v.2.2.2.1[(Int.toNat v.1.2.2.2.1)]?).bind fun e3009 =>
          some (.inl (((), ((), ((), ((IntKind.i64.wrap (v.1.2.2.2.1 + (1 : Int))), ())))), (v.2.1, (v.2.2.1, ((v.2.2.2.1.set (Int.toNat v.1.2.2.2.1) (IntKind.u8.wrap ((shrI .u32 e3003 x3006)))), ())))))
        else
          none
    else
      none
  else
    some (.inr (((), ((), ())), (v.2.1, (v.2.2.2.1, ()))))

/-- lightclient/sha.Sum -/
def sha_Sum (a0 : List Int) : Option (((List Int) × Unit) × Unit) :=
  let x3 := (IntKind.i64.wrap ((((List.length a0) : Int)) + (72 : Int)))
  bif (decide (0 ≤ (0 : Int)) && decide ((0 : Int) ≤ x3) && decide (x3 ≤ (lim : Int))) then
    let x4 := (List.replicate (0) (0 : Int))
    bif (decide ((List.length x4) + (List.length a0) ≤ lim)) then
      let x5 := (x4 ++ a0)
      (sha_Pad (IntKind.u64.wrap ((((List.length a0) : Int))))).bind fun r8 =>
      bif (decide ((List.length x5) + (List.length r8.2.1) ≤ lim)) then
        (loopV (sha_Sum_L1) (((), ((x5 ++ r8.2.1), ((), ()))), ((List.replicate 32 (0 : Int)), (G_3e2daa, ())))).bind fun o10 =>
        (loopV (sha_Sum_L2) (((), ((), ((), ((0 : Int), ())))), (o10.2.1, (o10.2.2.1, ((List.replicate 32 (0 : Int)), ()))))).bind fun o11 =>
        some ((o11.2.2.1, ()), ())
      else
        none
    else
      none
  else
    none

/-- lightclient/sha.Double -/
def sha_Double (a0 : List Int) : Option (((List Int) × Unit) × Unit) :=
  (sha_Sum a0).bind fun r2 =>
  (sha_Sum (sub r2.1.1 (0) (32))).bind fun r3 =>
  some ((r3.1.1, ()), ())

end Go.PE
end
end

section
set_option linter.unusedVariables false
noncomputable section
namespace Go.PE

def tx_small_L1 (c20 : List D_b101) (c21 : Int) (v : (Unit × Int × Unit) × D_8f0a × Unit) : Option (((Unit × Int × Unit) × D_8f0a × Unit) ⊕ (((Bool × Unit) × Unit) ⊕ ((Unit × Unit) × D_8f0a × Unit))) :=
  bif (decide (v.1.2.1 < c21)) then
    bif (inb v.1.2.1 (List.length c20)) then
      let x2002 := (rd T_b101 c20 v.1.2.1)
      bif (decide (x2002.1 < (0 : Int))) then
        some (.inr (.inl ((false, ()), ())))
      else
        bif (decide ((520 : Int) < (((List.length x2002.2.1) : Int)))) then
          some (.inr (.inl ((false, ()), ())))
        else
          some (.inl (((), ((IntKind.i64.wrap (v.1.2.1 + (1 : Int))), ())), (v.2.1, ())))
    else
      none
  else
    some (.inr (.inr (((), ()), (v.2.1, ()))))

def tx_small_L3 (c48 : List (List Int)) (c49 : Int) (v : (Int × Unit) × Unit) : Option (((Int × Unit) × Unit) ⊕ (((Bool × Unit) × Unit) ⊕ ((Unit) × Unit))) :=
  bif (decide (v.1.1 < c49)) then
    bif (inb v.1.1 (List.length c48)) then
      bif (decide ((520 : Int) < (((List.length (rd (.slice (.int .u8)) c48 v.1.1)) : Int)))) then
        some (.inr (.inl ((false, ()), ())))
      else
        some (.inl (((IntKind.i64.wrap (v.1.1 + (1 : Int))), ()), ()))
    else
      none
  else
    some (.inr (.inr ((), ())))

def tx_small_L2 (c37 : List D_089d) (c38 : Int) (v : (Int × Unit) × Unit) : Option (((Int × Unit) × Unit) ⊕ (((Bool × Unit) × Unit) ⊕ ((Unit) × Unit))) :=
  bif (decide (v.1.1 < c38)) then
    bif (inb v.1.1 (List.length c37)) then
      let x3002 := (rd T_089d c37 v.1.1)
      bif (decide ((32 : Int) < (((List.length x3002.2.2.1) : Int)))) then
        some (.inr (.inl ((false, ()), ())))
      else
        (loopV (tx_small_L3 x3002.2.2.1 (((List.length x3002.2.2.1) : Int))) (((0 : Int), ()), ())).bind fun o3006 =>
        match o3006 with
        | .inl o3007 =>
          some (.inr (.inl ((o3007.1.1, ()), ())))
        | .inr o3008 =>
          some (.inl (((IntKind.i64.wrap (v.1.1 + (1 : Int))), ()), ()))
    else
      none
  else
    some (.inr (.inr ((), ())))

/-- lightclient/tx.small -/
def tx_small (a0 : D_8f0a) : Option ((Bool × Unit) × Unit) :=
  bif (decide ((64 : Int) < (((List.length a0.2.1) : Int)))) then
    some ((false, ()), ())
  else
    bif (decide ((64 : Int) < (((List.length a0.2.2.1) : Int)))) then
      some ((false, ()), ())
    else
      (loopV (tx_small_L1 a0.2.2.1 (((List.length a0.2.2.1) : Int))) (((), ((0 : Int), ())), (a0, ()))).bind fun o7 =>
      match o7 with
      | .inl o8 =>
        some ((o8.1.1, ()), ())
      | .inr o9 =>
        (loopV (tx_small_L2 o9.2.1.2.1 (((List.length o9.2.1.2.1) : Int))) (((0 : Int), ()), ())).bind fun o11 =>
        match o11 with
        | .inl o12 =>
          some ((o12.1.1, ()), ())
        | .inr o13 =>
          some ((true, ()), ())

/-- lightclient/tx.Point -/
def tx_Point (a0 : D_b85e) : Option ((Unit × Unit) × (List Int) × Unit) :=
  (codec_AppendHash ([] : List Int) a0.1).bind fun r2 =>
  (codec_AppendU32 r2.2.1 a0.2.1).bind fun r3 =>
  some (((), ()), (r3.2.1, ()))

def tx_encode_L1 (c24 : List D_089d) (c25 : Int) (v : (Unit × Unit × Int × Unit) × D_8f0a × (List Int) × Unit) : Option (((Unit × Unit × Int × Unit) × D_8f0a × (List Int) × Unit) ⊕ ((Unit × Unit × Unit) × D_8f0a × (List Int) × Unit)) :=
  bif (decide (v.1.2.2.1 < c25)) then
    bif (inb v.1.2.2.1 (List.length c24)) then
      let x2002 := (rd T_089d c24 v.1.2.2.1)
      (tx_Point x2002.1).bind fun r2003 =>
      bif (decide ((List.length v.2.2.1) + (List.length r2003.2.1) ≤ lim)) then
        (codec_AppendU32 (v.2.2.1 ++ r2003.2.1) x2002.2.1).bind fun r2005 =>
        some (.inl (((), ((), ((IntKind.i64.wrap (v.1.2.2.1 + (1 : Int))), ()))), (v.2.1, (r2005.2.1, ()))))
      else
        none
    else
      none
  else
    some (.inr (((), ((), ())), (v.2.1, (v.2.2.1, ()))))

def tx_encode_L2 (c47 : List D_b101) (c48 : Int) (v : (Unit × Unit × Int × Unit) × D_8f0a × (List Int) × Unit) : Option (((Unit × Unit × Int × Unit) × D_8f0a × (List Int) × Unit) ⊕ ((Unit × Unit × Unit) × D_8f0a × (List Int) × Unit)) :=
  bif (decide (v.1.2.2.1 < c48)) then
    bif (inb v.1.2.2.1 (List.length c47)) then
      let x3002 := (rd T_b101 c47 v.1.2.2.1)
      (codec_AppendU64 v.2.2.1 (IntKind.u64.wrap (x3002.1))).bind fun r3004 =>
      (codec_AppendBytes r3004.2.1 x3002.2.1).bind fun r3005 =>
      some (.inl (((), ((), ((IntKind.i64.wrap (v.1.2.2.1 + (1 : Int))), ()))), (v.2.1, (r3005.2.1, ()))))
    else
      none
  else
    some (.inr (((), ((), ())), (v.2.1, (v.2.2.1, ()))))

def tx_encode_L4 (c83 : List (List Int)) (c84 : Int) (v : (Unit × Int × Unit) × (List Int) × Unit) : Option (((Unit × Int × Unit) × (List Int) × Unit) ⊕ ((Unit × Unit) × (List Int) × Unit)) :=
  bif (decide (v.1.2.1 < c84)) then
    bif (inb v.1.2.1 (List.length c83)) then
      (codec_AppendBytes v.2.1 (rd (.slice (.int .u8)) c83 v.1.2.1)).bind fun r5003 =>
      some (.inl (((), ((IntKind.i64.wrap (v.1.2.1 + (1 : Int))), ())), (r5003.2.1, ())))
    else
      none
  else
    some (.inr (((), ()), (v.2.1, ())))

def tx_encode_L3 (c1 : Bool) (c68 : List D_089d) (c69 : Int) (v : (Unit × Int × Unit) × (List Int) × Unit) : Option (((Unit × Int × Unit) × (List Int) × Unit) ⊕ ((Unit × Unit) × (List Int) × Unit)) :=
  bif (decide (v.1.2.1 < c69)) then
    bif (inb v.1.2.1 (List.length c68)) then
      let x4002 := (rd T_089d c68 v.1.2.1)
      bif (!c1) then
        some (.inr (((), ()), (v.2.1, ())))
      else
        (codec_AppendSize v.2.1 (IntKind.u64.wrap ((((List.length x4002.2.2.1) : Int))))).bind fun r4006 =>
        (loopV (tx_encode_L4 x4002.2.2.1 (((List.length x4002.2.2.1) : Int))) (((), ((0 : Int), ())), (r4006.2.1, ()))).bind fun o4008 =>
        some (.inl (((), ((IntKind.i64.wrap (v.1.2.1 + (1 : Int))), ())), (o4008.2.1, ())))
    else
      none
  else
    some (.inr (((), ()), (v.2.1, ())))

/-- lightclient/tx.encode -/
def tx_encode (a0 : D_8f0a) (a1 : Bool) : Option ((Unit × Unit) × (List Int) × Unit) :=
  (codec_AppendU32 ([] : List Int) a0.1).bind fun r3 =>
  (codec_AppendSize r3.2.1 (IntKind.u64.wrap ((((List.length a0.2.1) : Int))))).bind fun r6 =>
  (loopV (tx_encode_L1 a0.2.1 (((List.length a0.2.1) : Int))) (((), ((), ((0 : Int), ()))), (a0, (r6.2.1, ())))).bind fun o8 =>
  (codec_AppendSize o8.2.2.1 (IntKind.u64.wrap ((((List.length o8.2.1.2.2.1) : Int))))).bind fun r11 =>
  (loopV (tx_encode_L2 o8.2.1.2.2.1 (((List.length o8.2.1.2.2.1) : Int))) (((), ((), ((0 : Int), ()))), (o8.2.1, (r11.2.1, ())))).bind fun o13 =>
  (codec_AppendU32 o13.2.2.1 o13.2.1.2.2.2.1).bind fun r14 =>
  (loopV (tx_encode_L3 a1 o13.2.1.2.1 (((List.length o13.2.1.2.1) : Int))) (((), ((0 : Int), ())), (r14.2.1, ()))).bind fun o16 =>
  some (((), ()), (o16.2.1, ()))

/-- lightclient/tx.Encode -/
def tx_Encode (a0 : D_8f0a) (a1 : Bool) : Option ((Unit × Int × Unit) × (List Int) × Unit) :=
  (tx_small a0).bind fun r3 =>
  bif (!r3.1.1) then
    some (((), ((4 : Int), ())), (([] : List Int), ()))
  else
    (tx_encode a0 true).bind fun r5 =>
    bif (decide ((20000 : Int) < (((List.length r5.2.1) : Int)))) then
      some (((), ((4 : Int), ())), (([] : List Int), ()))
    else
      bif a1 then
        some (((), ((0 : Int), ())), (r5.2.1, ()))
      else
        (tx_encode a0 false).bind fun r8 =>
        some (((), ((0 : Int), ())), (r8.2.1, ()))

/-- lightclient/tx.Weight -/
def tx_Weight (a0 : D_8f0a) : Option ((Int × Unit) × Unit) :=
  (tx_Encode a0 true).bind fun r2 =>
  bif (!decide (r2.1.2.1 = (0 : Int))) then
    some (((0 : Int), ()), ())
  else
    (tx_encode a0 false).bind fun r4 =>
    some (((IntKind.i64.wrap ((IntKind.i64.wrap ((3 : Int) * (((List.length r4.2.1) : Int)))) + (((List.length r2.2.1) : Int)))), ()), ())

def tx_money_L1 (c6 : List D_b101) (c7 : Int) (v : (Int × Int × Unit) × Unit) : Option (((Int × Int × Unit) × Unit) ⊕ (((Bool × Unit) × Unit) ⊕ ((Int × Unit) × Unit))) :=
  bif (decide (v.1.2.1 < c7)) then
    bif (inb v.1.2.1 (List.length c6)) then
      let x2002 := (rd T_b101 c6 v.1.2.1)
      bif (decide ((2100000000000000 : Int) < x2002.1)) then
        some (.inr (.inl ((false, ()), ())))
      else
        some (.inl (((IntKind.i64.wrap (v.1.1 + x2002.1)), ((IntKind.i64.wrap (v.1.2.1 + (1 : Int))), ())), ()))
    else
      none
  else
    some (.inr (.inr ((v.1.1, ()), ())))

/-- lightclient/tx.money -/
def tx_money (a0 : List D_b101) : Option ((Bool × Unit) × Unit) :=
  (loopV (tx_money_L1 a0 (((List.length a0) : Int))) (((0 : Int), ((0 : Int), ())), ())).bind fun o3 =>
  match o3 with
  | .inl o4 =>
    some ((o4.1.1, ()), ())
  | .inr o5 =>
    some (((decide (o5.1.1 ≤ (2100000000000000 : Int))), ()), ())

/-- lightclient/tx.null -/
def tx_null : Option ((D_b85e × Unit) × Unit) :=
  some ((((List.replicate 32 (0 : Int)), ((4294967295 : Int), ())), ()), ())

/-- lightclient/tx.Coinbase -/
def tx_Coinbase (a0 : D_8f0a) : Option ((Bool × Unit) × Unit) :=
  bif (decide ((((List.length a0.2.1) : Int)) = (1 : Int))) then
    bif (inb (0 : Int) (List.length a0.2.1)) then
      (tx_null).bind fun r5 =>
      some (((Ty.eqb T_b85e (rd T_089d a0.2.1 (0 : Int)).1 r5.1.1), ()), ())
    else
      none
  else
    some ((false, ()), ())

def tx_Check_L1 (c32 : List D_089d) (c33 : Int) (v : (Unit × Unit × Int × Unit) × D_8f0a × (List (D_b85e × Bool)) × Unit) : Option (((Unit × Unit × Int × Unit) × D_8f0a × (List (D_b85e × Bool)) × Unit) ⊕ (((Int × Unit) × Unit) ⊕ ((Unit × Unit × Unit) × D_8f0a × (List (D_b85e × Bool)) × Unit))) :=
  bif (decide (v.1.2.2.1 < c33)) then
    bif (inb v.1.2.2.1 (List.length c32)) then
      let x2002 := (rd T_089d c32 v.1.2.2.1)
      bif (Option.getD (mfind T_b85e .bool x2002.1 v.2.2.1) false) then
        some (.inr (.inl (((91 : Int), ()), ())))
      else
        some (.inl (((), ((), ((IntKind.i64.wrap (v.1.2.2.1 + (1 : Int))), ()))), (v.2.1, ((mset T_b85e .bool x2002.1 true v.2.2.1), ()))))
    else
      none
  else
    some (.inr (.inr (((), ((), ())), (v.2.1, (v.2.2.1, ())))))

/-- lightclient/tx.Check -/
def tx_Check (a0 : D_8f0a) : Option ((Int × Unit) × Unit) :=
  (tx_Encode a0 true).bind fun r2 =>
  bif (!decide (r2.1.2.1 = (0 : Int))) then
    some ((r2.1.2.1, ()), ())
  else
    bif (decide ((((List.length a0.2.1) : Int)) = (0 : Int))) then
      some (((93 : Int), ()), ())
    else
      bif (decide ((((List.length a0.2.2.1) : Int)) = (0 : Int))) then
        some (((93 : Int), ()), ())
      else
        (tx_money a0.2.2.1).bind fun r8 =>
        bif (!r8.1.1) then
          some (((90 : Int), ()), ())
        else
          (loopV (tx_Check_L1 a0.2.1 (((List.length a0.2.1) : Int))) (((), ((), ((0 : Int), ()))), (a0, (([]), ())))).bind fun o11 =>
          match o11 with
          | .inl o12 =>
            some ((o12.1.1, ()), ())
          | .inr o13 =>
            (tx_null).bind fun r14 =>
            bif (Option.getD (mfind T_b85e .bool r14.1.1 o13.2.2.1) false) then
              (tx_Coinbase o13.2.1).bind fun r17 =>
              bif (!r17.1.1) then
                some (((92 : Int), ()), ())
              else
                some (((0 : Int), ()), ())
            else
              some (((0 : Int), ()), ())

def tx_Final_J1 (c1 : Int) (v : (Unit × Unit) × D_8f0a × Unit) : Option (((Bool × Unit) × Unit) ⊕ ((Unit × Unit) × D_8f0a × Unit)) :=
  bif (decide ((0 : Int) ≤ c1)) then
    bif (decide ((IntKind.u64.wrap (v.2.1.2.2.2.1)) ≤ (IntKind.u64.wrap (c1)))) then
      some (.inl ((true, ()), ()))
    else
      some (.inr (((), ()), (v.2.1, ())))
  else
    some (.inr (((), ()), (v.2.1, ())))

def tx_Final_L2 (c18 : List D_089d) (c19 : Int) (v : (Int × Unit) × Unit) : Option (((Int × Unit) × Unit) ⊕ (((Bool × Unit) × Unit) ⊕ ((Unit) × Unit))) :=
  bif (decide (v.1.1 < c19)) then
    bif (inb v.1.1 (List.length c18)) then
      bif (!decide ((rd T_089d c18 v.1.1).2.1 = (4294967295 : Int))) then
        some (.inr (.inl ((false, ()), ())))
      else
        some (.inl (((IntKind.i64.wrap (v.1.1 + (1 : Int))), ()), ()))
    else
      none
  else
    some (.inr (.inr ((), ())))

/-- lightclient/tx.Final -/
def tx_Final (a0 : D_8f0a) (a1 : Int) : Option ((Bool × Unit) × Unit) :=
  (tx_Final_J1 a1 (((), ()), (a0, ()))).bind fun o3 =>
  match o3 with
  | .inl o4 =>
    some ((o4.1.1, ()), ())
  | .inr o5 =>
    (loopV (tx_Final_L2 o5.2.1.2.1 (((List.length o5.2.1.2.1) : Int))) (((0 : Int), ()), ())).bind fun o7 =>
    match o7 with
    | .inl o8 =>
      some ((o8.1.1, ()), ())
    | .inr o9 =>
      some ((true, ()), ())

/-- lightclient/tx.Compare -/
def tx_Compare (a0 : D_b85e) (a1 : D_b85e) : Option ((Int × Unit) × Unit) :=
  (bytes_Compare (sub a0.1 (0) (32)) (sub a1.1 (0) (32))).bind fun r3 =>
  (cmp_Compare_uint32 a0.2.1 a1.2.1).bind fun r4 =>
  (cmp_Or_int ([r3.1.1, r4.1.1] : List Int)).bind fun r6 =>
  some ((r6.1.1, ()), ())

/-- lightclient/tx.digest -/
def tx_digest (a0 : D_8f0a) (a1 : Bool) : Option (((List Int) × Unit) × Unit) :=
  (tx_Encode a0 a1).bind fun r3 =>
  bif (!decide (r3.1.2.1 = (0 : Int))) then
    some (((List.replicate 32 (0 : Int)), ()), ())
  else
    (sha_Double r3.2.1).bind fun r6 =>
    some ((r6.1.1, ()), ())

/-- lightclient/tx.ID -/
def tx_ID (a0 : D_8f0a) : Option (((List Int) × Unit) × Unit) :=
  (tx_digest a0 false).bind fun r2 =>
  some ((r2.1.1, ()), ())

end Go.PE
end
end

section
set_option linter.unusedVariables false
noncomputable section
namespace Go.PE

/-- lightclient/lightclientlaw09.sane -/
def law09_sane : Option ((Bool × Unit) × Unit) :=
  (tx_Encode ((0 : Int), (([] : List D_089d), (([] : List D_b101), ((0 : Int), ())))) false).bind fun r1 =>
  bif (decide (r1.1.2.1 = (0 : Int))) then
    bif (decide ((((List.length r1.2.1) : Int)) = (10 : Int))) then
      (tx_Weight ((0 : Int), (([] : List D_089d), (([] : List D_b101), ((0 : Int), ()))))).bind fun r7 =>
      bif (decide (r7.1.1 = (40 : Int))) then
        (tx_Check ((0 : Int), (([(((List.replicate 32 (0 : Int)), ((3 : Int), ())), ((0 : Int), (([] : List (List Int)), ()))), (((List.replicate 32 (0 : Int)), ((3 : Int), ())), ((0 : Int), (([] : List (List Int)), ())))] : List D_089d), (([((0 : Int), (([] : List Int), ()))] : List D_b101), ((0 : Int), ()))))).bind fun r9 =>
        some (((decide (r9.1.1 = (91 : Int))), ()), ())
      else
        some ((false, ()), ())
    else
      some ((false, ()), ())
  else
    some ((false, ()), ())

/-- lightclient/lightclientlaw09.TxLater -/
def law09_TxLater (a0 : D_8f0a) (a1 : Int) (a2 : Int) : Option ((Bool × Unit) × Unit) :=
  (law09_sane).bind fun r4 =>
  bif (!r4.1.1) then
    some ((false, ()), ())
  else
    (keep_Tx a0).bind fun r6 =>
    bif (!r6.1.1) then
      some ((true, ()), ())
    else
      (tx_Final a0 (IntKind.i64.wrap (a1))).bind fun r9 =>
      bif (!r9.1.1) then
        some ((true, ()), ())
      else
        (tx_Final a0 (IntKind.i64.wrap ((IntKind.i64.wrap (a1)) + (IntKind.i64.wrap (a2))))).bind fun r14 =>
        some ((r14.1.1, ()), ())

/-- lightclient/lightclientlaw09.TxPoints -/
def law09_TxPoints (a0 : D_b85e) (a1 : D_b85e) (a2 : D_b85e) : Option ((Bool × Unit) × Unit) :=
  (law09_sane).bind fun r4 =>
  bif (!r4.1.1) then
    some ((false, ()), ())
  else
    (tx_Compare a0 a1).bind fun r6 =>
    (ref09_Compare a0 a1).bind fun r7 =>
    bif (!decide (r6.1.1 = r7.1.1)) then
      some ((false, ()), ())
    else
      (tx_Compare a1 a0).bind fun r9 =>
      bif (!decide (r6.1.1 = (IntKind.i64.wrap (-r9.1.1)))) then
        some ((false, ()), ())
      else
        bif (!(Ty.eqb .bool (decide (r6.1.1 = (0 : Int))) (Ty.eqb T_b85e a0 a1))) then
          some ((false, ()), ())
        else
          (tx_Point a0).bind fun r15 =>
          (ref09_Point a0).bind fun r16 =>
          (ref01_Same r15.2.1 r16.2.1).bind fun r17 =>
          bif (!r17.1.1) then
            some ((false, ()), ())
          else
            bif (decide ((0 : Int) < r6.1.1)) then
              some ((true, ()), ())
            else
              (tx_Compare a1 a2).bind fun r20 =>
              bif (decide ((0 : Int) < r20.1.1)) then
                some ((true, ()), ())
              else
                (tx_Compare a0 a2).bind fun r22 =>
                some (((decide (r22.1.1 ≤ (0 : Int))), ()), ())

/-- lightclient/lightclientlaw09.TxWitnessFree -/
def law09_TxWitnessFree (a0 : D_8f0a) (a1 : List (List Int)) : Option ((Bool × Unit) × Unit) :=
  (law09_sane).bind fun r3 =>
  bif (!r3.1.1) then
    some ((false, ()), ())
  else
    (keep_Tx a0).bind fun r5 =>
    bif (!r5.1.1) then
      some ((true, ()), ())
    else
      (keep_Items a1 (10 : Int) (200 : Int)).bind fun r7 =>
      bif (!r7.1.1) then
        some ((true, ()), ())
      else
        bif (decide ((((List.length a0.2.1) : Int)) = (0 : Int))) then
          some ((true, ()), ())
        else
          bif (decide ((List.length a0.2.1) ≤ lim)) then
            bif (inb (0 : Int) (List.length a0.2.1)) then
              (a0.2.1[(0)]?).bind fun e11 =>
              let x12 := (a0.2.1.set (0) (e11.1, (e11.2.1, (a1, e11.2.2.2))))
              (tx_Encode a0 true).bind fun r13 =>
              (tx_Encode (a0.1, (x12, a0.2.2)) true).bind fun r14 =>
              bif (!decide (r13.1.2.1 = (0 : Int))) then
                some ((true, ()), ())
              else
                bif (!decide (r14.1.2.1 = (0 : Int))) then
                  some ((true, ()), ())
                else
                  (tx_ID a0).bind fun r17 =>
                  (tx_ID (a0.1, (x12, a0.2.2))).bind fun r18 =>
                  some (((Ty.eqb (.arr 32 (.int .u8)) r17.1.1 r18.1.1), ()), ())
            else
              none
          else
            none

end Go.PE
end
end

section
namespace Go.PE
set_option linter.unusedSimpArgs false
/-! ### loops -/
section
variable {σ ω : Type} {step : σ → Option (σ ⊕ ω)}
theorem iter_mono {v : σ} {o : ω} : ∀ {n m : Nat}, n ≤ m → iter step n v = some o → iter step m v = some o := by
  intro n
  induction n generalizing v with
  | zero => intro m _ h; cases h
  | succ n ih =>
    intro m hm h
    cases m with
    | zero => omega
    | succ m =>
      simp only [iter] at h ⊢
      obtain ⟨x, h1, h2⟩ := Option.bind_eq_some_iff.1 h
      rw [h1]
      cases x with
      | inl v' => exact ih (by omega) h2
      | inr o' => exact h2
theorem loopV_of {v : σ} {o : ω} {n : Nat} (h : iter step n v = some o) : loopV step v = some o := by
  unfold loopV
  have hx : ∃ n o, iter step n v = some o := ⟨n, o, h⟩
  rw [dif_pos hx]
  have hc := hx.choose_spec.choose_spec
  have h1 := iter_mono (Nat.le_max_left hx.choose n) hc
  have h2 := iter_mono (Nat.le_max_right hx.choose n) h
  rw [h1] at h2
  exact h2
theorem loopV_next {v v' : σ} (h : step v = some (.inl v')) : loopV step v = loopV step v' := by
  unfold loopV
  have key : ∀ o, (∃ n, iter step n v = some o) ↔ ∃ n, iter step n v' = some o := by
    intro o
    constructor
    · rintro ⟨n, hn⟩
      cases n with
      | zero => cases hn
      | succ n => simp only [iter, h, Option.bind_some] at hn; exact ⟨n, hn⟩
    · rintro ⟨n, hn⟩
      exact ⟨n + 1, by simp only [iter, h, Option.bind_some]; exact hn⟩
  by_cases hx : ∃ n o, iter step n v = some o
  · obtain ⟨n, o, hn⟩ := hx
    obtain ⟨m, hm⟩ := (key o).1 ⟨n, hn⟩
    have e1 := loopV_of hn
    have e2 := loopV_of hm
    unfold loopV at e1 e2
    rw [e1, e2]
  · have hy : ¬ ∃ n o, iter step n v' = some o := by
      rintro ⟨n, o, hn⟩
      obtain ⟨m, hm⟩ := (key o).2 ⟨n, hn⟩
      exact hx ⟨m, o, hm⟩
    rw [dif_neg hx, dif_neg hy]
theorem loopV_done {v : σ} {o : ω} (h : step v = some (.inr o)) : loopV step v = some o :=
  loopV_of (n := 1) (by simp [iter, h])
/-- A loop with a counter: what holds at each round's head leads to the end. -/
theorem loopV_ind {v : σ} {o : ω} (f : Nat → σ) (n : Nat) (hv : v = f 0) (hs : ∀ i, i < n → step (f i) = some (.inl (f (i + 1)))) (he : step (f n) = some (.inr o)) : loopV step v = some o := by
  subst hv
  have : ∀ k, k ≤ n → loopV step (f 0) = loopV step (f k) := by
    intro k
    induction k with
    | zero => intro _; rfl
    | succ k ih => intro hk; rw [ih (by omega), loopV_next (hs k (by omega))]
  rw [this n (Nat.le_refl n), loopV_done he]
/-- A loop by a measure: an invariant that each round keeps, until an end at which Q holds. -/
theorem loopV_inv (I : σ → Prop) (m : σ → Nat) (Q : ω → Prop) {v : σ} (h0 : I v)
    (hs : ∀ v, I v → (∃ v', step v = some (.inl v') ∧ I v' ∧ m v' < m v) ∨ ∃ o, step v = some (.inr o) ∧ Q o) : ∃ o, loopV step v = some o ∧ Q o := by
  generalize hn : m v = n
  induction n using Nat.strongRecOn generalizing v with
  | _ n ih =>
    rcases hs v h0 with ⟨v', h1, h2, h3⟩ | ⟨o, h1, h2⟩
    · obtain ⟨o, h4, h5⟩ := ih (m v') (by omega) h2 rfl
      exact ⟨o, by rw [loopV_next h1]; exact h4, h5⟩
    · exact ⟨o, loopV_done h1, h2⟩
end
/-! ### tests -/
theorem bif_t {α : Type} {c : Bool} {a b : α} (h : c = true) : (bif c then a else b) = a := by rw [h]; rfl
theorem bif_f {α : Type} {c : Bool} {a b : α} (h : c = false) : (bif c then a else b) = b := by rw [h]; rfl
theorem bif_ite {α : Type} {c : Bool} {a b : α} : (bif c then a else b) = if c = true then a else b := by cases c <;> rfl
theorem inb_t {i : Int} {n : Nat} (h : 0 ≤ i ∧ i < n) : inb i n = true := by simp [inb, h]
theorem inb_f {i : Int} {n : Nat} (h : ¬ (0 ≤ i ∧ i < n)) : inb i n = false := by
  cases hb : inb i n with
  | false => rfl
  | true => simp [inb] at hb; exact (h hb).elim
/-! ### numbers -/
theorem tdiv_nn {a b : Int} (h : 0 ≤ a) : a.tdiv b = a / b := Int.tdiv_eq_ediv_of_nonneg h
theorem tmod_nn {a b : Int} (h : 0 ≤ a) : a.tmod b = a % b := Int.tmod_eq_emod_of_nonneg h
theorem ofInt_nat {w : Nat} {a : Int} (h0 : 0 ≤ a) (h1 : a < 2 ^ w) : (BitVec.ofInt w a).toNat = a.toNat := by
  rw [BitVec.toNat_ofInt, Int.emod_eq_of_lt h0 (by exact_mod_cast h1)]
theorem wrap_un {k : IntKind} (hk : k.signed = false) {n : Int} (h0 : 0 ≤ n) (h1 : n < 2 ^ k.bits) : k.wrap n = n := by
  cases k <;> first | (cases hk; done) | skip
  · exact IntWalk.u8_in n ⟨h0, by simp [IntKind.bits] at h1; omega⟩
  · exact IntWalk.u16_in n ⟨h0, by simp [IntKind.bits] at h1; omega⟩
  · exact IntWalk.u32_in n ⟨h0, by simp [IntKind.bits] at h1; omega⟩
  · exact IntWalk.u64_in n ⟨h0, by simp [IntKind.bits] at h1; omega⟩
theorem and_un {k : IntKind} (hk : k.signed = false) {a b : Int} (h0 : 0 ≤ a) (h1 : a < 2 ^ k.bits) (h2 : 0 ≤ b) (h3 : b < 2 ^ k.bits) : bitI .and k a b = ((a.toNat &&& b.toNat : Nat) : Int) := by
  show k.wrap (BitVec.ofInt k.bits a &&& BitVec.ofInt k.bits b).toNat = _
  rw [BitVec.toNat_and, ofInt_nat h0 h1, ofInt_nat h2 h3]
  apply wrap_un hk (by omega)
  have := Nat.and_lt_two_pow a.toNat (show b.toNat < 2 ^ k.bits by
    have : ((2 ^ k.bits : Nat) : Int) = 2 ^ k.bits := by simp
    omega)
  exact_mod_cast this
theorem or_un {k : IntKind} (hk : k.signed = false) {a b : Int} (h0 : 0 ≤ a) (h1 : a < 2 ^ k.bits) (h2 : 0 ≤ b) (h3 : b < 2 ^ k.bits) : bitI .or k a b = ((a.toNat ||| b.toNat : Nat) : Int) := by
  show k.wrap (BitVec.ofInt k.bits a ||| BitVec.ofInt k.bits b).toNat = _
  have e : ((2 ^ k.bits : Nat) : Int) = 2 ^ k.bits := by simp
  rw [BitVec.toNat_or, ofInt_nat h0 h1, ofInt_nat h2 h3]
  apply wrap_un hk (by omega)
  have := Nat.or_lt_two_pow (x := a.toNat) (y := b.toNat) (n := k.bits) (by omega) (by omega)
  exact_mod_cast this
theorem xor_un {k : IntKind} (hk : k.signed = false) {a b : Int} (h0 : 0 ≤ a) (h1 : a < 2 ^ k.bits) (h2 : 0 ≤ b) (h3 : b < 2 ^ k.bits) : bitI .xor k a b = ((a.toNat ^^^ b.toNat : Nat) : Int) := by
  show k.wrap (BitVec.ofInt k.bits a ^^^ BitVec.ofInt k.bits b).toNat = _
  have e : ((2 ^ k.bits : Nat) : Int) = 2 ^ k.bits := by simp
  rw [BitVec.toNat_xor, ofInt_nat h0 h1, ofInt_nat h2 h3]
  apply wrap_un hk (by omega)
  have := Nat.xor_lt_two_pow (x := a.toNat) (y := b.toNat) (n := k.bits) (by omega) (by omega)
  exact_mod_cast this
theorem shr_un {k : IntKind} {a b : Int} (h0 : 0 ≤ a) (h1 : a < 2 ^ k.bits) : shrI k a b = ((a.toNat >>> b.toNat : Nat) : Int) := by
  unfold shrI
  obtain ⟨x, rfl⟩ := Int.eq_ofNat_of_zero_le h0
  have e : ((2 : Int) ^ min b.toNat k.bits) = ((2 ^ min b.toNat k.bits : Nat) : Int) := by simp
  rw [e, Int.fdiv_eq_ediv_of_nonneg _ (Int.natCast_nonneg _), ← Int.natCast_ediv, Int.toNat_natCast, Nat.shiftRight_eq_div_pow]
  congr 1
  by_cases hb : b.toNat ≤ k.bits
  · rw [Nat.min_eq_left hb]
  · rw [Nat.min_eq_right (by omega)]
    have hx : x < 2 ^ k.bits := by exact_mod_cast h1
    rw [Nat.div_eq_of_lt hx, Nat.div_eq_of_lt (Nat.lt_of_lt_of_le hx (Nat.pow_le_pow_right (by omega) (by omega)))]
theorem wrap_un_mod {k : IntKind} (hk : k.signed = false) (n : Int) : k.wrap n = n % 2 ^ k.bits := by
  cases k <;> first | (cases hk; done) | (simp [IntKind.wrap, IntKind.signed, IntKind.bits])
theorem shl_un {k : IntKind} (hk : k.signed = false) {a b : Int} (h0 : 0 ≤ a) : shlI k a b = (((a.toNat <<< b.toNat) % 2 ^ k.bits : Nat) : Int) := by
  unfold shlI
  obtain ⟨x, rfl⟩ := Int.eq_ofNat_of_zero_le h0
  rw [wrap_un_mod hk, Int.toNat_natCast, Nat.shiftLeft_eq]
  have e : ((2 : Int) ^ min b.toNat k.bits) = ((2 ^ min b.toNat k.bits : Nat) : Int) := by simp
  have e2 : ((2 : Int) ^ k.bits) = ((2 ^ k.bits : Nat) : Int) := by simp
  rw [e, e2, ← Int.natCast_mul, ← Int.natCast_emod]
  congr 1
  by_cases hb : b.toNat ≤ k.bits
  · rw [Nat.min_eq_left hb]
  · rw [Nat.min_eq_right (by omega), Nat.mul_mod_left]
    obtain ⟨c, hc⟩ : ∃ c, b.toNat = k.bits + c := ⟨b.toNat - k.bits, by omega⟩
    rw [hc, Nat.pow_add, ← Nat.mul_assoc, Nat.mul_right_comm, Nat.mul_mod_left]
/-! ### lists -/
theorem rd_eq {t : Ty} {xs : List t.den} {i : Int} : rd t xs i = xs.getD i.toNat t.dflt := rfl
theorem eqList_iff {α : Type} {f : α → α → Bool} (hf : ∀ a b, f a b = true ↔ a = b) : ∀ {x y : List α}, eqList f x y = true ↔ x = y := by
  intro x
  induction x with
  | nil => intro y; cases y <;> simp [eqList]
  | cons a x ih => intro y; cases y with
    | nil => simp [eqList]
    | cons b y => simp [eqList, hf, ih]
theorem eqList_int {x y : List Int} : eqList (fun (x y : Int) => decide (x = y)) x y = decide (x = y) := by
  rw [Bool.eq_iff_iff, eqList_iff (by simp)]; simp
end Go.PE
end

section
namespace Go.PE
set_option linter.unusedSimpArgs false
theorem loopV_all {σ ω : Type} {step : σ → Option (σ ⊕ ω)} {v : σ} (f : Nat → σ) (n : Nat) (p : Nat → Bool) {bad good : ω} {b : Bool} (hv : v = f 0) (hb : b = true ↔ ∀ i, i < n → p i = true)
    (hs : ∀ i, i < n → step (f i) = some (bif p i then .inl (f (i + 1)) else .inr bad)) (he : step (f n) = some (.inr good)) : loopV step v = some (bif b then good else bad) := by
  subst hv
  have key : ∀ k i, i + k = n → ((∀ j, i ≤ j → j < n → p j = true) → loopV step (f i) = some good) ∧ ((∃ j, i ≤ j ∧ j < n ∧ p j = false) → loopV step (f i) = some bad) := by
    intro k
    induction k with
    | zero =>
      intro i hi
      have : i = n := by omega
      subst this
      exact ⟨fun _ => loopV_done he, fun ⟨j, h1, h2, _⟩ => by omega⟩
    | succ k ih =>
      intro i hi
      have h := hs i (by omega)
      obtain ⟨ih1, ih2⟩ := ih (i + 1) (by omega)
      cases hp : p i with
      | true =>
        rw [hp] at h
        rw [loopV_next h]
        refine ⟨fun ha => ih1 fun j h1 h2 => ha j (by omega) h2, fun ⟨j, h1, h2, h3⟩ => ih2 ⟨j, ?_, h2, h3⟩⟩
        rcases Nat.lt_or_ge i j with h4 | h4
        · exact h4
        · have : j = i := by omega
          subst this; rw [hp] at h3; cases h3
      | false =>
        rw [hp] at h
        rw [loopV_done h]
        exact ⟨fun ha => absurd (ha i (Nat.le_refl i) (by omega)) (by rw [hp]; simp), fun _ => rfl⟩
  obtain ⟨k1, k2⟩ := key n 0 (by omega)
  cases b with
  | true => exact k1 fun j _ h => hb.1 rfl j h
  | false =>
    refine k2 ?_
    apply Classical.byContradiction
    intro hn
    have : false = true := hb.2 fun i hi => by
      cases hp : p i with
      | true => rfl
      | false => exact (hn ⟨i, Nat.zero_le i, hi, hp⟩).elim
    cases this
theorem i64_up {i n : Nat} (h : i < n) (hn : n ≤ big) : IntKind.i64.wrap ((i : Int) + 1) = ((i + 1 : Nat) : Int) := by
  have : n ≤ 9223372036854775807 := hn
  rw [IntWalk.i64_in _ (by omega)]; simp
theorem inb_nat {i n : Nat} (h : i < n) : inb (i : Int) n = true := inb_t (by omega)
theorem rd_nat {t : Ty} {xs : List t.den} {i : Nat} : rd t xs (i : Int) = xs.getD i t.dflt := rfl
theorem rd_in {t : Ty} {xs : List t.den} {i : Nat} (h : i < xs.length) : rd t xs (i : Int) = xs[i] := by
  rw [rd_nat, List.getD_eq_getElem?_getD, List.getElem?_eq_getElem h]; rfl
end Go.PE
end

section
namespace Go.PE
set_option linter.unusedSimpArgs false
set_option linter.unusedVariables false
/-- A number's low bytes, the lowest first. -/
def le (v n : Nat) : List Int := (List.range n).map fun i => ((v / 256 ^ i % 256 : Nat) : Int)
theorem le_len {v n : Nat} : (le v n).length = n := by simp [le]
theorem le_up {v i : Nat} : le v (i + 1) = le v i ++ [((v / 256 ^ i % 256 : Nat) : Int)] := by simp [le, List.range_succ]
theorem le_byte {v i : Nat} (hv : v < 2 ^ 64) (hi : i < 8) : IntKind.u8.wrap (shrI .u64 (v : Int) ((8 * i : Nat) : Int)) = ((v / 256 ^ i % 256 : Nat) : Int) := by
  rw [shr_un (by omega) (by simp [IntKind.bits]; omega), wrap_un_mod rfl]
  simp only [Int.toNat_natCast, Nat.shiftRight_eq_div_pow, IntKind.bits, Nat.pow_mul]
  simp
theorem put_step {i : Nat} (hi : i < 8) : IntKind.i64.wrap ((8 : Int) * (i : Int)) = ((8 * i : Nat) : Int) := by
  rw [IntWalk.i64_in _ (by omega)]; simp
theorem lim_eq : lim = 1073741824 := rfl
section
variable {a : List Int} {v n : Nat}
theorem codec_put_uint64_eq (hv : v < 2 ^ 64) (hn : n ≤ 8) (hl : a.length + n ≤ lim) : codec_put_uint64 a (v : Int) (n : Int) = some (((), ()), (a ++ le v n, ())) := by
  unfold codec_put_uint64
  rw [lim_eq] at hl
  rw [IntWalk.i64_in _ (by omega)]
  have h1 : ((0 : Int) ≤ (a.length : Int) + (n : Int)) := by omega
  have h2 : ((a.length : Int) + (n : Int) ≤ ((lim : Nat) : Int)) := by rw [lim_eq]; omega
  have h3 : a.length ≤ lim := by rw [lim_eq]; omega
  simp only [Int.le_refl, h1, h2, decide_true, Bool.and_self, cond_true, List.replicate_zero, List.length_nil, Nat.zero_add, h3, List.nil_append]
  rw [loopV_ind (step := codec_put_uint64_L1 (v : Int) (n : Int)) (o := (((), ()), (a ++ le v n, ()))) (fun i => (((), ((i : Int), ())), (a ++ le v i, ()))) n ?_ ?_ ?_]
  · rfl
  · simp [le]
  · intro i hi
    unfold codec_put_uint64_L1
    have h4 : ((i : Int) < (n : Int)) := by omega
    have h5 : ¬ (((8 * i : Nat) : Int) < 0) := by omega
    have h6 : a.length + i + 1 ≤ lim := by rw [lim_eq]; omega
    have h7 := put_step (show i < 8 by omega)
    simp only [h4, decide_true, cond_true]
    simp only [h7, h5, decide_false, cond_false, le_byte hv (show i < 8 by omega), i64_up hi (show n ≤ big from Nat.le_trans hn (by decide)), List.length_append, le_len, List.length_singleton, h6, le_up, List.append_assoc, decide_true, cond_true]
  · simp [codec_put_uint64_L1]
end
theorem codec_put_uint8_eq {a : List Int} {v n : Nat} (hv : v < 2 ^ 8) (hn : n ≤ 8) (hl : a.length + n ≤ lim) : codec_put_uint8 a (v : Int) (n : Int) = some (((), ()), (a ++ le v n, ())) := by
  unfold codec_put_uint8
  have hv64 : v < 2 ^ 64 := by omega
  rw [lim_eq] at hl
  rw [IntWalk.i64_in _ (by omega)]
  have h1 : ((0 : Int) ≤ (a.length : Int) + (n : Int)) := by omega
  have h2 : ((a.length : Int) + (n : Int) ≤ ((lim : Nat) : Int)) := by rw [lim_eq]; omega
  have h3 : a.length ≤ lim := by rw [lim_eq]; omega
  have hw : IntKind.u64.wrap (v : Int) = (v : Int) := wrap_un rfl (by omega) (by simp [IntKind.bits]; omega)
  simp only [Int.le_refl, h1, h2, decide_true, Bool.and_self, cond_true, List.replicate_zero, List.length_nil, Nat.zero_add, h3, List.nil_append]
  rw [loopV_ind (step := codec_put_uint8_L1 (v : Int) (n : Int)) (o := (((), ()), (a ++ le v n, ()))) (fun i => (((), ((i : Int), ())), (a ++ le v i, ()))) n ?_ ?_ ?_]
  · rfl
  · simp [le]
  · intro i hi
    unfold codec_put_uint8_L1
    have h4 : ((i : Int) < (n : Int)) := by omega
    have h5 : ¬ (((8 * i : Nat) : Int) < 0) := by omega
    have h6 : a.length + i + 1 ≤ lim := by rw [lim_eq]; omega
    have h7 := put_step (show i < 8 by omega)
    simp only [h4, decide_true, cond_true]
    simp only [h7, h5, decide_false, cond_false, hw, le_byte hv64 (show i < 8 by omega), i64_up hi (show n ≤ big from Nat.le_trans hn (by decide)), List.length_append, le_len, List.length_singleton, h6, le_up, List.append_assoc, decide_true, cond_true]
  · simp [codec_put_uint8_L1]
theorem codec_put_uint16_eq {a : List Int} {v n : Nat} (hv : v < 2 ^ 16) (hn : n ≤ 8) (hl : a.length + n ≤ lim) : codec_put_uint16 a (v : Int) (n : Int) = some (((), ()), (a ++ le v n, ())) := by
  unfold codec_put_uint16
  have hv64 : v < 2 ^ 64 := by omega
  rw [lim_eq] at hl
  rw [IntWalk.i64_in _ (by omega)]
  have h1 : ((0 : Int) ≤ (a.length : Int) + (n : Int)) := by omega
  have h2 : ((a.length : Int) + (n : Int) ≤ ((lim : Nat) : Int)) := by rw [lim_eq]; omega
  have h3 : a.length ≤ lim := by rw [lim_eq]; omega
  have hw : IntKind.u64.wrap (v : Int) = (v : Int) := wrap_un rfl (by omega) (by simp [IntKind.bits]; omega)
  simp only [Int.le_refl, h1, h2, decide_true, Bool.and_self, cond_true, List.replicate_zero, List.length_nil, Nat.zero_add, h3, List.nil_append]
  rw [loopV_ind (step := codec_put_uint16_L1 (v : Int) (n : Int)) (o := (((), ()), (a ++ le v n, ()))) (fun i => (((), ((i : Int), ())), (a ++ le v i, ()))) n ?_ ?_ ?_]
  · rfl
  · simp [le]
  · intro i hi
    unfold codec_put_uint16_L1
    have h4 : ((i : Int) < (n : Int)) := by omega
    have h5 : ¬ (((8 * i : Nat) : Int) < 0) := by omega
    have h6 : a.length + i + 1 ≤ lim := by rw [lim_eq]; omega
    have h7 := put_step (show i < 8 by omega)
    simp only [h4, decide_true, cond_true]
    simp only [h7, h5, decide_false, cond_false, hw, le_byte hv64 (show i < 8 by omega), i64_up hi (show n ≤ big from Nat.le_trans hn (by decide)), List.length_append, le_len, List.length_singleton, h6, le_up, List.append_assoc, decide_true, cond_true]
  · simp [codec_put_uint16_L1]
theorem codec_put_uint32_eq {a : List Int} {v n : Nat} (hv : v < 2 ^ 32) (hn : n ≤ 8) (hl : a.length + n ≤ lim) : codec_put_uint32 a (v : Int) (n : Int) = some (((), ()), (a ++ le v n, ())) := by
  unfold codec_put_uint32
  have hv64 : v < 2 ^ 64 := by omega
  rw [lim_eq] at hl
  rw [IntWalk.i64_in _ (by omega)]
  have h1 : ((0 : Int) ≤ (a.length : Int) + (n : Int)) := by omega
  have h2 : ((a.length : Int) + (n : Int) ≤ ((lim : Nat) : Int)) := by rw [lim_eq]; omega
  have h3 : a.length ≤ lim := by rw [lim_eq]; omega
  have hw : IntKind.u64.wrap (v : Int) = (v : Int) := wrap_un rfl (by omega) (by simp [IntKind.bits]; omega)
  simp only [Int.le_refl, h1, h2, decide_true, Bool.and_self, cond_true, List.replicate_zero, List.length_nil, Nat.zero_add, h3, List.nil_append]
  rw [loopV_ind (step := codec_put_uint32_L1 (v : Int) (n : Int)) (o := (((), ()), (a ++ le v n, ()))) (fun i => (((), ((i : Int), ())), (a ++ le v i, ()))) n ?_ ?_ ?_]
  · rfl
  · simp [le]
  · intro i hi
    unfold codec_put_uint32_L1
    have h4 : ((i : Int) < (n : Int)) := by omega
    have h5 : ¬ (((8 * i : Nat) : Int) < 0) := by omega
    have h6 : a.length + i + 1 ≤ lim := by rw [lim_eq]; omega
    have h7 := put_step (show i < 8 by omega)
    simp only [h4, decide_true, cond_true]
    simp only [h7, h5, decide_false, cond_false, hw, le_byte hv64 (show i < 8 by omega), i64_up hi (show n ≤ big from Nat.le_trans hn (by decide)), List.length_append, le_len, List.length_singleton, h6, le_up, List.append_assoc, decide_true, cond_true]
  · simp [codec_put_uint32_L1]
/-- A length's text. -/
def sizeV (v : Nat) : List Int := if v < 253 then le v 1 else if v < 65536 then 253 :: le v 2 else if v < 4294967296 then 254 :: le v 4 else 255 :: le v 8
theorem sizeV_len {v : Nat} : 1 ≤ (sizeV v).length ∧ (sizeV v).length ≤ 9 := by
  unfold sizeV
  split
  · simp [le_len]
  · split
    · simp [le_len]
    · split <;> simp [le_len]
section
variable {a : List Int} {v : Nat}
theorem codec_AppendU32_eq (hv : v < 2 ^ 32) (hl : a.length + 4 ≤ lim) : codec_AppendU32 a (v : Int) = some (((), ()), (a ++ le v 4, ())) := by
  unfold codec_AppendU32
  rw [show (4 : Int) = ((4 : Nat) : Int) from rfl, codec_put_uint32_eq hv (by omega) hl]; rfl
theorem codec_AppendU64_eq (hv : v < 2 ^ 64) (hl : a.length + 8 ≤ lim) : codec_AppendU64 a (v : Int) = some (((), ()), (a ++ le v 8, ())) := by
  unfold codec_AppendU64
  rw [show (8 : Int) = ((8 : Nat) : Int) from rfl, codec_put_uint64_eq hv (by omega) hl]; rfl
theorem byte1 (hl : a.length + 9 ≤ lim) (c : Nat) (hc : c < 256) : codec_put_uint8 a (c : Int) 1 = some (((), ()), (a ++ [(c : Int)], ())) := by
  rw [show (1 : Int) = ((1 : Nat) : Int) from rfl, codec_put_uint8_eq (by omega) (by omega) (by omega)]
  rw [show le c 1 = [(c : Int)] by simp only [le, List.range_one, List.map_cons, List.map_nil, Nat.pow_zero, Nat.div_one, Nat.mod_eq_of_lt hc]]
theorem size1 (h : v < 253) (hl : a.length + 9 ≤ lim) : codec_put_uint8 a (IntKind.u8.wrap (v : Int)) 1 = some (((), ()), (a ++ le v 1, ())) := by
  rw [wrap_un rfl (by omega) (by simp only [IntKind.bits]; omega), show (1 : Int) = ((1 : Nat) : Int) from rfl, codec_put_uint8_eq (by omega) (by omega) (by omega)]
theorem size2 (h : v < 65536) (hl : a.length + 9 ≤ lim) : codec_put_uint16 (a ++ [253]) (IntKind.u16.wrap (v : Int)) 2 = some (((), ()), (a ++ 253 :: le v 2, ())) := by
  have h2 : (a ++ [(253 : Int)]).length + 2 ≤ lim := by rw [List.length_append, List.length_singleton]; omega
  rw [wrap_un rfl (by omega) (by simp only [IntKind.bits]; omega), show (2 : Int) = ((2 : Nat) : Int) from rfl, codec_put_uint16_eq (by omega) (by omega) h2, List.append_assoc]; rfl
theorem size4 (h : v < 4294967296) (hl : a.length + 9 ≤ lim) : codec_put_uint32 (a ++ [254]) (IntKind.u32.wrap (v : Int)) 4 = some (((), ()), (a ++ 254 :: le v 4, ())) := by
  have h2 : (a ++ [(254 : Int)]).length + 4 ≤ lim := by rw [List.length_append, List.length_singleton]; omega
  rw [wrap_un rfl (by omega) (by simp only [IntKind.bits]; omega), show (4 : Int) = ((4 : Nat) : Int) from rfl, codec_put_uint32_eq (by omega) (by omega) h2, List.append_assoc]; rfl
theorem size8 (h : v < 2 ^ 64) (hl : a.length + 9 ≤ lim) : codec_put_uint64 (a ++ [255]) (v : Int) 8 = some (((), ()), (a ++ 255 :: le v 8, ())) := by
  have h2 : (a ++ [(255 : Int)]).length + 8 ≤ lim := by rw [List.length_append, List.length_singleton]; omega
  rw [show (8 : Int) = ((8 : Nat) : Int) from rfl, codec_put_uint64_eq h (by omega) h2, List.append_assoc]; rfl
theorem lt_dec {v c : Nat} : decide ((v : Int) < (c : Int)) = decide (v < c) := by simp
theorem codec_AppendSize_eq (hv : v < 2 ^ 64) (hl : a.length + 9 ≤ lim) : codec_AppendSize a (v : Int) = some (((), ()), (a ++ sizeV v, ())) := by
  unfold codec_AppendSize sizeV
  rw [show (253 : Int) = ((253 : Nat) : Int) from rfl, show (254 : Int) = ((254 : Nat) : Int) from rfl, show (255 : Int) = ((255 : Nat) : Int) from rfl, show (65536 : Int) = ((65536 : Nat) : Int) from rfl, show (4294967296 : Int) = ((4294967296 : Nat) : Int) from rfl, lt_dec, lt_dec, lt_dec, byte1 hl 253 (by omega), byte1 hl 254 (by omega), byte1 hl 255 (by omega)]
  by_cases h1 : v < 253
  · rw [if_pos h1, bif_t (decide_eq_true h1), size1 h1 hl]; rfl
  · rw [if_neg h1, bif_f (decide_eq_false h1)]
    by_cases h2 : v < 65536
    · rw [if_pos h2, bif_t (decide_eq_true h2), Option.bind_some]
      rw [show (((253 : Nat) : Int)) = 253 from rfl, size2 h2 hl]; rfl
    · rw [if_neg h2, bif_f (decide_eq_false h2)]
      by_cases h3 : v < 4294967296
      · rw [if_pos h3, bif_t (decide_eq_true h3), Option.bind_some]
        rw [show (((254 : Nat) : Int)) = 254 from rfl, size4 h3 hl]; rfl
      · rw [if_neg h3, bif_f (decide_eq_false h3), Option.bind_some]
        rw [show (((255 : Nat) : Int)) = 255 from rfl, size8 hv hl]; rfl
theorem codec_AppendHash_eq {h : List Int} (hh : h.length = 32) (hl : a.length + 32 ≤ lim) : codec_AppendHash a h = some (((), ()), (a ++ h, ())) := by
  unfold codec_AppendHash
  have hl' := hl
  rw [lim_eq] at hl
  rw [IntWalk.i64_in _ (by omega)]
  have h1 : ((0 : Int) ≤ (a.length : Int) + 32) := by omega
  have h2 : ((a.length : Int) + 32 ≤ ((lim : Nat) : Int)) := by rw [lim_eq]; omega
  have h3 : a.length ≤ lim := by rw [lim_eq]; omega
  have h4 : sub h 0 32 = h := by unfold sub; rw [List.drop_zero, List.take_of_length_le (by omega)]
  have h5 : a.length + h.length ≤ lim := by rw [hh]; exact hl'
  simp only [Int.le_refl, h1, h2, decide_true, Bool.and_self, cond_true, List.replicate_zero, List.length_nil, Nat.zero_add, h3, List.nil_append, h4, h5]
theorem codec_AppendBytes_eq {b : List Int} (hl : a.length + 9 + b.length ≤ lim) : codec_AppendBytes a b = some (((), ()), (a ++ (sizeV b.length ++ b), ())) := by
  unfold codec_AppendBytes
  have hl' := hl
  rw [lim_eq] at hl
  rw [wrap_un rfl (by omega) (by simp [IntKind.bits]; omega), codec_AppendSize_eq (by omega) (by omega)]
  simp only [Option.bind_some]
  have := @sizeV_len b.length
  have h1 : (a ++ sizeV b.length).length + b.length ≤ lim := by rw [List.length_append, lim_eq]; omega
  simp only [h1, decide_true, cond_true, List.append_assoc]
end
end Go.PE
end

section
namespace Go.PE
set_option linter.unusedSimpArgs false
set_option linter.unusedVariables false
theorem take_up' {α : Type} {xs : List α} {i : Nat} (h : i < xs.length) : xs.take (i + 1) = xs.take i ++ [xs[i]] := by simp
theorem all_rd {t : Ty} {xs : List t.den} {f : t.den → Bool} : xs.all f = true ↔ ∀ i, i < xs.length → f (rd t xs (i : Int)) = true := by
  rw [List.all_eq_true]
  constructor
  · intro h i hi; rw [rd_in hi]; exact h _ (List.getElem_mem hi)
  · intro h x hx; obtain ⟨i, hi, rfl⟩ := List.getElem_of_mem hx; rw [← rd_in hi]; exact h i hi
theorem loopV_app {σ ω α : Type} {step : σ → Option (σ ⊕ ω)} (xs : List α) (g : α → List Int) (mk : Nat → List Int → σ) (fin : List Int → ω) (acc : List Int) {v : σ} (hv : v = mk 0 acc)
    (hs : ∀ i (hi : i < xs.length), step (mk i (acc ++ (xs.take i).flatMap g)) = some (.inl (mk (i + 1) (acc ++ (xs.take i).flatMap g ++ g xs[i]))))
    (he : step (mk xs.length (acc ++ xs.flatMap g)) = some (.inr (fin (acc ++ xs.flatMap g)))) : loopV step v = some (fin (acc ++ xs.flatMap g)) := by
  refine loopV_ind (fun i => mk i (acc ++ (xs.take i).flatMap g)) xs.length (by simpa using hv) (fun i hi => ?_) (by simpa using he)
  rw [hs i hi, take_up' hi, List.flatMap_append]; simp [List.append_assoc]
theorem flat_len {α : Type} {g : α → List Int} {B : Nat} : ∀ {xs : List α}, (∀ x ∈ xs, (g x).length ≤ B) → (xs.flatMap g).length ≤ xs.length * B := by
  intro xs
  induction xs with
  | nil => intro _; simp
  | cons x xs ih =>
    intro h
    rw [List.flatMap_cons, List.length_append, List.length_cons, Nat.add_mul, Nat.one_mul]
    have := h x (by simp)
    have := ih fun y hy => h y (by simp [hy])
    omega
theorem flat_take {α : Type} {g : α → List Int} {B N i : Nat} {xs : List α} (hn : xs.length ≤ N) (h : ∀ x ∈ xs, (g x).length ≤ B) : ((xs.take i).flatMap g).length ≤ N * B := by
  refine Nat.le_trans (flat_len fun x hx => h x (List.mem_of_mem_take hx)) (Nat.mul_le_mul_right _ ?_)
  rw [List.length_take]; omega
theorem u32_nat {x : Int} (h : 0 ≤ x ∧ x ≤ 4294967295) : ((x.toNat : Nat) : Int) = x ∧ x.toNat < 2 ^ 32 := by omega
/-! ### what it writes -/
def inV (x : D_089d) : List Int := x.1.1 ++ (le x.1.2.1.toNat 4 ++ le x.2.1.toNat 4)
def outV (o : D_b101) : List Int := le o.1.toNat 8 ++ (sizeV o.2.1.length ++ o.2.1)
def itemV (b : List Int) : List Int := sizeV b.length ++ b
def witV (x : D_089d) : List Int := sizeV x.2.2.1.length ++ x.2.2.1.flatMap itemV
def bareV (t : D_8f0a) : List Int := le t.1.toNat 4 ++ (sizeV t.2.1.length ++ (t.2.1.flatMap inV ++ (sizeV t.2.2.1.length ++ (t.2.2.1.flatMap outV ++ le t.2.2.2.1.toNat 4))))
def encV (t : D_8f0a) (w : Bool) : List Int := bareV t ++ (if w = true then t.2.1.flatMap witV else [])
def outOk (o : D_b101) : Bool := !decide (o.1 < 0) && decide (o.2.1.length ≤ 520)
def itemOk (b : List Int) : Bool := decide (b.length ≤ 520)
def inOk (x : D_089d) : Bool := decide (x.2.2.1.length ≤ 32) && x.2.2.1.all itemOk
def smallB (t : D_8f0a) : Bool := decide (t.2.1.length ≤ 64) && (decide (t.2.2.1.length ≤ 64) && (t.2.2.1.all outOk && t.2.1.all inOk))
theorem big_le : (big : Nat) = 9223372036854775807 := rfl
theorem tx_small_L3_eq {xs : List (List Int)} (hl : xs.length ≤ 32) : loopV (tx_small_L3 xs (xs.length : Int)) (((0 : Int), ()), ()) = some (bif xs.all itemOk then .inr ((), ()) else .inl ((false, ()), ())) := by
  refine loopV_all (fun i => (((i : Int), ()), ())) xs.length (fun i => itemOk (rd (.slice (.int .u8)) xs (i : Int))) rfl (all_rd (t := .slice (.int .u8))) (fun i hi => ?_) (by simp [tx_small_L3])
  unfold tx_small_L3
  have h1 : ((i : Int) < (xs.length : Int)) := by omega
  simp only [h1, decide_true, cond_true, inb_nat hi, i64_up hi (show xs.length ≤ big by rw [big_le]; omega)]
  generalize hb : rd (.slice (.int .u8)) xs (i : Int) = b
  have hb : List Int := b
  by_cases hc : 520 < (List.length b : Int)
  · have : ¬ List.length b ≤ 520 := by omega
    simp [itemOk, hc, this]
  · have : List.length b ≤ 520 := by omega
    simp [itemOk, hc, this]
theorem tx_small_eq {t : D_8f0a} : tx_small t = some ((smallB t, ()), ()) := by
  unfold tx_small
  by_cases h1 : 64 < (t.2.1.length : Int)
  · have : ¬ t.2.1.length ≤ 64 := by omega
    simp [h1, smallB, this]
  · by_cases h2 : 64 < (t.2.2.1.length : Int)
    · have : ¬ t.2.2.1.length ≤ 64 := by omega
      simp [h1, h2, smallB, this]
    · have h1' : t.2.1.length ≤ 64 := by omega
      have h2' : t.2.2.1.length ≤ 64 := by omega
      simp only [h1, h2, decide_false, cond_false]
      rw [loopV_all (step := tx_small_L1 t.2.2.1 (t.2.2.1.length : Int)) (fun i => (((), ((i : Int), ())), (t, ()))) t.2.2.1.length (fun i => outOk (rd T_b101 t.2.2.1 (i : Int))) (bad := .inl ((false, ()), ())) (good := .inr (((), ()), (t, ()))) (b := t.2.2.1.all outOk) ?_ (all_rd (t := T_b101)) ?_ ?_]
      · cases ho : t.2.2.1.all outOk with
        | false => simp [smallB, ho]
        | true =>
          simp only [cond_true, Option.bind_some]
          rw [loopV_all (step := tx_small_L2 t.2.1 (t.2.1.length : Int)) (fun i => (((i : Int), ()), ())) t.2.1.length (fun i => inOk (rd T_089d t.2.1 (i : Int))) (bad := .inl ((false, ()), ())) (good := .inr ((), ())) (b := t.2.1.all inOk) ?_ (all_rd (t := T_089d)) ?_ ?_]
          · cases hi : t.2.1.all inOk <;> simp [smallB, ho, hi, h1', h2']
          · rfl
          · intro i hi
            unfold tx_small_L2
            have h1 : ((i : Int) < (t.2.1.length : Int)) := by omega
            simp only [h1, decide_true, cond_true, inb_nat hi, i64_up hi (show t.2.1.length ≤ big by rw [big_le]; omega)]
            generalize (rd T_089d t.2.1 (i : Int)) = x
            have hx : D_089d := x
            by_cases hc : 32 < (List.length x.2.2.1 : Int)
            · have : ¬ List.length x.2.2.1 ≤ 32 := by omega
              simp [inOk, hc, this]
            · have h32 : List.length x.2.2.1 ≤ 32 := by omega
              simp only [hc, decide_false, cond_false]
              rw [tx_small_L3_eq h32]
              cases ha : List.all x.2.2.1 itemOk <;> simp [inOk, h32, ha]
          · simp [tx_small_L2]
      · rfl
      · intro i hi
        unfold tx_small_L1
        have h1 : ((i : Int) < (t.2.2.1.length : Int)) := by omega
        simp only [h1, decide_true, cond_true, inb_nat hi, i64_up hi (show t.2.2.1.length ≤ big by rw [big_le]; omega)]
        generalize (rd T_b101 t.2.2.1 (i : Int)) = x
        by_cases hc : x.1 < (0 : Int)
        · simp [outOk, hc]
        · by_cases hd : 520 < (List.length x.2.1 : Int)
          · have : ¬ List.length x.2.1 ≤ 520 := by omega
            simp [outOk, hc, hd, this]
          · have : List.length x.2.1 ≤ 520 := by omega
            simp [outOk, hc, hd, this]
      · simp [tx_small_L1]
end Go.PE
end

section
namespace Go.PE
set_option linter.unusedSimpArgs false
set_option linter.unusedVariables false
theorem le_int {x : Int} {n : Nat} (h : 0 ≤ x) : ((x.toNat : Nat) : Int) = x := by omega
section
variable {a : List Int} {x : Int}
theorem AppendU32_int (h : 0 ≤ x ∧ x ≤ 4294967295) (hl : a.length + 4 ≤ lim) : codec_AppendU32 a x = some (((), ()), (a ++ le x.toNat 4, ())) := by
  have := codec_AppendU32_eq (a := a) (v := x.toNat) (by omega) hl
  rwa [(u32_nat h).1] at this
theorem AppendU64_int (h : 0 ≤ x ∧ x < 2 ^ 64) (hl : a.length + 8 ≤ lim) : codec_AppendU64 a x = some (((), ()), (a ++ le x.toNat 8, ())) := by
  have := codec_AppendU64_eq (a := a) (v := x.toNat) (by omega) hl
  rwa [show ((x.toNat : Nat) : Int) = x by omega] at this
theorem AppendSize_len {α : Type} {b : List α} (hb : b.length ≤ big) (hl : a.length + 9 ≤ lim) : codec_AppendSize a (IntKind.u64.wrap (b.length : Int)) = some (((), ()), (a ++ sizeV b.length, ())) := by
  rw [big_le] at hb
  rw [wrap_un rfl (by omega) (by simp only [IntKind.bits]; omega)]
  exact codec_AppendSize_eq (by omega) hl
end
theorem tx_Point_eq {p : D_b85e} (h1 : p.1.length = 32) (h2 : 0 ≤ p.2.1 ∧ p.2.1 ≤ 4294967295) : tx_Point p = some (((), ()), (p.1 ++ le p.2.1.toNat 4, ())) := by
  unfold tx_Point
  rw [codec_AppendHash_eq h1 (by simp [lim])]
  simp only [Option.bind_some, List.nil_append]
  rw [AppendU32_int h2 (by rw [h1, lim_eq]; omega)]; rfl
theorem inV_len {x : D_089d} (h : x.1.1.length = 32) : (inV x).length = 40 := by simp [inV, le_len, h]
theorem outV_len {o : D_b101} (h : outOk o = true) : (outV o).length ≤ 537 := by
  have := @sizeV_len o.2.1.length
  simp only [outOk, Bool.and_eq_true, decide_eq_true_eq] at h
  simp only [outV, List.length_append, le_len]; omega
theorem itemV_len {b : List Int} (h : itemOk b = true) : (itemV b).length ≤ 529 := by
  have := @sizeV_len b.length
  simp only [itemOk, decide_eq_true_eq] at h
  simp only [itemV, List.length_append]; omega
theorem witV_len {x : D_089d} (h : inOk x = true) : (witV x).length ≤ 16937 := by
  have := @sizeV_len x.2.2.1.length
  simp only [inOk, Bool.and_eq_true, decide_eq_true_eq, List.all_eq_true] at h
  have h1 := flat_len (g := itemV) (B := 529) (xs := x.2.2.1) fun b hb => itemV_len (h.2 b hb)
  have h2 : x.2.2.1.length * 529 ≤ 32 * 529 := Nat.mul_le_mul_right _ h.1
  have h3 : (witV x).length = (sizeV x.2.2.1.length).length + (x.2.2.1.flatMap itemV).length := by simp [witV]
  omega
/-- What a transaction of a claim keeps. -/
structure TxOk (t : D_8f0a) : Prop where
  ver : 0 ≤ t.1 ∧ t.1 ≤ 4294967295
  lock : 0 ≤ t.2.2.2.1 ∧ t.2.2.2.1 ≤ 4294967295
  ins : ∀ x ∈ t.2.1, x.1.1.length = 32 ∧ (0 ≤ x.1.2.1 ∧ x.1.2.1 ≤ 4294967295) ∧ 0 ≤ x.2.1 ∧ x.2.1 ≤ 4294967295
  outs : ∀ o ∈ t.2.2.1, o.1 ≤ 9223372036854775807
theorem txOk_of {t : D_8f0a} (h : Ty.Wf T_8f0a t) : TxOk t where
  ver := Wf.u32 h.1
  lock := Wf.u32 h.2.2.2.1
  ins := fun x hx => by
    have := h.2.1.2 x hx
    exact ⟨this.1.1.1, Wf.u32 this.1.2.1, Wf.u32 this.2.1⟩
  outs := fun o ho => (Wf.i64 (h.2.2.1.2 o ho).1).2
theorem smallB_iff {t : D_8f0a} : smallB t = true ↔ t.2.1.length ≤ 64 ∧ t.2.2.1.length ≤ 64 ∧ (∀ o ∈ t.2.2.1, outOk o = true) ∧ ∀ x ∈ t.2.1, inOk x = true := by
  simp only [smallB, Bool.and_eq_true, decide_eq_true_eq, List.all_eq_true]
theorem tx_encode_L4_eq {acc : List Int} {xs : List (List Int)} (hl : xs.length ≤ 32) (ho : ∀ b ∈ xs, itemOk b = true) (ha : acc.length + 20000 ≤ lim) :
    loopV (tx_encode_L4 xs (xs.length : Int)) (((), ((0 : Int), ())), (acc, ())) = some (((), ()), (acc ++ xs.flatMap itemV, ())) := by
  refine loopV_app xs itemV (fun i a => (((), ((i : Int), ())), (a, ()))) (fun a => (((), ()), (a, ()))) acc rfl (fun i hi => ?_) (by simp [tx_encode_L4])
  unfold tx_encode_L4
  have h1 : ((i : Int) < (xs.length : Int)) := by omega
  have hb := flat_take (i := i) (g := itemV) (B := 529) hl fun b hb => itemV_len (ho b hb)
  have hb2 : xs[i].length ≤ 520 := by have := ho _ (List.getElem_mem hi); simpa [itemOk] using this
  simp only [h1, decide_true, cond_true, inb_nat hi, i64_up hi (show xs.length ≤ big by rw [big_le]; omega), rd_in (t := .slice (.int .u8)) (xs := xs) hi]
  rw [codec_AppendBytes_eq (by rw [List.length_append]; omega)]
  rfl
theorem tx_encode_L3_eq {w : Bool} {acc : List Int} {xs : List D_089d} (hl : xs.length ≤ 64) (ho : ∀ x ∈ xs, inOk x = true) (ha : acc.length + 1200000 ≤ lim) :
    loopV (tx_encode_L3 w xs (xs.length : Int)) (((), ((0 : Int), ())), (acc, ())) = some (((), ()), (acc ++ (if w = true then xs.flatMap witV else []), ())) := by
  cases w with
  | false =>
    by_cases h0 : 0 < xs.length
    · refine loopV_done ?_
      have h1 : ((0 : Int) < (xs.length : Int)) := by omega
      have h2 : inb 0 xs.length = true := inb_t (by omega)
      simp [tx_encode_L3, h2, h0]
    · refine loopV_done ?_
      have h1 : ¬ ((0 : Int) < (xs.length : Int)) := by omega
      simp [tx_encode_L3, h0]
  | true =>
    simp only [if_true]
    refine loopV_app xs witV (fun i a => (((), ((i : Int), ())), (a, ()))) (fun a => (((), ()), (a, ()))) acc rfl (fun i hi => ?_) (by simp [tx_encode_L3])
    unfold tx_encode_L3
    have h1 : ((i : Int) < (xs.length : Int)) := by omega
    have hb := flat_take (i := i) (g := witV) (B := 16937) hl fun x hx => witV_len (ho x hx)
    have hx := ho _ (List.getElem_mem hi)
    simp only [inOk, Bool.and_eq_true, decide_eq_true_eq, List.all_eq_true] at hx
    have hs := @sizeV_len xs[i].2.2.1.length
    simp only [h1, decide_true, cond_true, Bool.not_true, cond_false, inb_nat hi, i64_up hi (show xs.length ≤ big by rw [big_le]; omega), rd_in (t := T_089d) (xs := xs) hi]
    rw [AppendSize_len (by rw [big_le]; omega) (by rw [List.length_append]; omega)]
    simp only [Option.bind_some]
    rw [tx_encode_L4_eq hx.1 hx.2 (by simp only [List.length_append]; omega)]
    simp [witV]
theorem tx_encode_eq {t : D_8f0a} {w : Bool} (hk : TxOk t) (hs : smallB t = true) : tx_encode t w = some (((), ()), (encV t w, ())) := by
  obtain ⟨h1, h2, h3, h4⟩ := smallB_iff.1 hs
  unfold tx_encode
  rw [AppendU32_int hk.ver (by simp [lim])]
  simp only [Option.bind_some, List.nil_append]
  have hz1 := @sizeV_len t.2.1.length
  have hz2 := @sizeV_len t.2.2.1.length
  have hi := flat_len (g := inV) (B := 40) (xs := t.2.1) fun x hx => Nat.le_of_eq (inV_len (hk.ins x hx).1)
  have hi' : t.2.1.length * 40 ≤ 64 * 40 := Nat.mul_le_mul_right _ h1
  have ho := flat_len (g := outV) (B := 537) (xs := t.2.2.1) fun x hx => outV_len (h3 x hx)
  have ho' : t.2.2.1.length * 537 ≤ 64 * 537 := Nat.mul_le_mul_right _ h2
  have hlim := lim_eq
  rw [AppendSize_len (by rw [big_le]; omega) (by rw [le_len]; omega)]
  simp only [Option.bind_some]
  rw [loopV_app (step := tx_encode_L1 t.2.1 (t.2.1.length : Int)) t.2.1 inV (fun i a => (((), ((), ((i : Int), ()))), (t, (a, ())))) (fun a => (((), ((), ())), (t, (a, ())))) (le t.1.toNat 4 ++ sizeV t.2.1.length) ?_ ?_ (by simp [tx_encode_L1])]
  · simp only [Option.bind_some]
    rw [AppendSize_len (by rw [big_le]; omega) (by simp only [List.length_append, le_len]; omega)]
    simp only [Option.bind_some]
    rw [loopV_app (step := tx_encode_L2 t.2.2.1 (t.2.2.1.length : Int)) t.2.2.1 outV (fun i a => (((), ((), ((i : Int), ()))), (t, (a, ())))) (fun a => (((), ((), ())), (t, (a, ())))) (le t.1.toNat 4 ++ sizeV t.2.1.length ++ t.2.1.flatMap inV ++ sizeV t.2.2.1.length) ?_ ?_ (by simp [tx_encode_L2])]
    · simp only [Option.bind_some]
      rw [AppendU32_int hk.lock (by simp only [List.length_append, le_len]; omega)]
      simp only [Option.bind_some]
      rw [tx_encode_L3_eq h1 h4 (by simp only [List.length_append, le_len]; omega)]
      simp [encV, bareV, List.append_assoc]
    · rfl
    · intro i hi
      unfold tx_encode_L2
      have h5 : ((i : Int) < (t.2.2.1.length : Int)) := by omega
      have hb := flat_take (i := i) (g := outV) (B := 537) h2 fun x hx => outV_len (h3 x hx)
      have ho1 := h3 _ (List.getElem_mem hi)
      have ho2 := hk.outs _ (List.getElem_mem hi)
      simp only [outOk, Bool.and_eq_true, Bool.not_eq_true', decide_eq_true_eq, decide_eq_false_iff_not] at ho1
      have hz3 := @sizeV_len t.2.2.1[i].2.1.length
      simp only [h5, decide_true, cond_true, inb_nat hi, i64_up hi (show t.2.2.1.length ≤ big by rw [big_le]; omega), rd_in (t := T_b101) (xs := t.2.2.1) hi]
      rw [wrap_un rfl (by omega) (by simp only [IntKind.bits]; omega), AppendU64_int (by omega) (by simp only [List.length_append, le_len]; omega)]
      simp only [Option.bind_some]
      rw [codec_AppendBytes_eq (by simp only [List.length_append, le_len]; omega)]
      simp [outV, List.append_assoc]
  · rfl
  · intro i hi
    unfold tx_encode_L1
    have h5 : ((i : Int) < (t.2.1.length : Int)) := by omega
    have hb := flat_take (i := i) (g := inV) (B := 40) h1 fun x hx => Nat.le_of_eq (inV_len (hk.ins x hx).1)
    obtain ⟨p1, p2, p3⟩ := hk.ins _ (List.getElem_mem hi)
    simp only [h5, decide_true, cond_true, inb_nat hi, i64_up hi (show t.2.1.length ≤ big by rw [big_le]; omega), rd_in (t := T_089d) (xs := t.2.1) hi]
    rw [tx_Point_eq p1 p2]
    have h6 : (le t.1.toNat 4 ++ sizeV t.2.1.length ++ (t.2.1.take i).flatMap inV).length + (t.2.1[i].1.1 ++ le t.2.1[i].1.2.1.toNat 4).length ≤ lim := by simp only [List.length_append, le_len]; omega
    simp only [Option.bind_some, h6, decide_true, cond_true]
    rw [AppendU32_int p3 (by simp only [List.length_append, le_len] at h6 ⊢; omega)]
    simp [inV, List.append_assoc]
end Go.PE
end

section
namespace Go.PE
set_option linter.unusedSimpArgs false
set_option linter.unusedVariables false
abbrev EncR := (Unit × Int × Unit) × (List Int) × Unit
def EncodeV (t : D_8f0a) (w : Bool) : EncR := if smallB t = true ∧ (encV t true).length ≤ 20000 then (((), ((0 : Int), ())), (encV t w, ())) else (((), ((4 : Int), ())), (([] : List Int), ()))
theorem tx_Encode_eq {t : D_8f0a} {w : Bool} (hk : TxOk t) : tx_Encode t w = some (EncodeV t w) := by
  unfold tx_Encode EncodeV
  rw [tx_small_eq]
  simp only [Option.bind_some]
  cases hs : smallB t with
  | false => simp
  | true =>
    simp only [Bool.not_true, cond_false]
    rw [tx_encode_eq hk hs, tx_encode_eq hk hs]
    simp only [Option.bind_some]
    by_cases hc : 20000 < ((encV t true).length : Int)
    · have : ¬ (encV t true).length ≤ 20000 := by omega
      simp [hc, this]
    · have : (encV t true).length ≤ 20000 := by omega
      cases w <;> simp [hc, this]
def finB (t : D_8f0a) (h : Int) : Bool := (decide (0 ≤ h) && decide (t.2.2.2.1 ≤ h)) || t.2.1.all fun x => decide (x.2.1 = 4294967295)
theorem tx_Final_eq {t : D_8f0a} {h : Int} (hl : t.2.1.length ≤ big) (hk : 0 ≤ t.2.2.2.1 ∧ t.2.2.2.1 ≤ 4294967295) (hh : h ≤ 9223372036854775807) : tx_Final t h = some ((finB t h, ()), ()) := by
  unfold tx_Final tx_Final_J1
  have loop : (loopV (tx_Final_L2 t.2.1 (t.2.1.length : Int)) (((0 : Int), ()), ())) = some (bif (t.2.1.all fun x => decide (x.2.1 = 4294967295)) then .inr ((), ()) else .inl ((false, ()), ())) := by
    refine loopV_all (fun i => (((i : Int), ()), ())) t.2.1.length (fun i => decide ((rd T_089d t.2.1 (i : Int)).2.1 = 4294967295)) rfl (all_rd (t := T_089d)) (fun i hi => ?_) (by simp [tx_Final_L2])
    unfold tx_Final_L2
    have h1 : ((i : Int) < (t.2.1.length : Int)) := by omega
    simp only [h1, decide_true, cond_true, inb_nat hi, i64_up hi hl]
    generalize decide ((rd T_089d t.2.1 (i : Int)).2.1 = (4294967295 : Int)) = b
    cases b <;> simp
  by_cases h0 : 0 ≤ h
  · rw [wrap_un (n := t.2.2.2.1) rfl (by omega) (by simp only [IntKind.bits]; omega), wrap_un (n := h) rfl (by omega) (by simp only [IntKind.bits]; omega)]
    by_cases h2 : t.2.2.2.1 ≤ h
    · simp [h0, h2, finB]
    · simp only [h0, h2, decide_true, decide_false, cond_true, cond_false, Option.bind_some, loop, finB]
      cases (t.2.1.all fun x => decide (x.2.1 = 4294967295)) <;> rfl
  · simp only [h0, decide_false, cond_false, Option.bind_some, loop, finB]
    cases (t.2.1.all fun x => decide (x.2.1 = 4294967295)) <;> rfl
def tA : D_8f0a := ((0 : Int), (([] : List D_089d), (([] : List D_b101), ((0 : Int), ()))))
def tB : D_8f0a := ((0 : Int), (([(((List.replicate 32 (0 : Int)), ((3 : Int), ())), ((0 : Int), (([] : List (List Int)), ()))), (((List.replicate 32 (0 : Int)), ((3 : Int), ())), ((0 : Int), (([] : List (List Int)), ())))] : List D_089d), (([((0 : Int), (([] : List Int), ()))] : List D_b101), ((0 : Int), ()))))
theorem tA_ok : TxOk tA := ⟨by decide, by decide, by decide, by decide⟩
theorem tB_ok : TxOk tB := ⟨by decide, by decide, by decide, by decide⟩
theorem tx_Weight_eq {t : D_8f0a} (hk : TxOk t) : tx_Weight t = some ((if smallB t = true ∧ (encV t true).length ≤ 20000 then 3 * ((encV t false).length : Int) + (encV t true).length else 0, ()), ()) := by
  unfold tx_Weight
  rw [tx_Encode_eq hk]
  simp only [Option.bind_some, EncodeV]
  by_cases hc : smallB t = true ∧ (encV t true).length ≤ 20000
  · rw [if_pos hc, if_pos hc, tx_encode_eq hk hc.1]
    have hle : (encV t false).length ≤ (encV t true).length := by simp [encV]
    simp only [Option.bind_some, decide_true, Bool.not_true, cond_false]
    rw [IntWalk.i64_in (3 * _) (by omega), IntWalk.i64_in _ (by omega)]
  · rw [if_neg hc, if_neg hc]; simp
theorem law09_sane_eq : law09_sane = some ((true, ()), ()) := by
  unfold law09_sane
  rw [show ((0 : Int), (([] : List D_089d), (([] : List D_b101), ((0 : Int), ())))) = tA from rfl]
  rw [tx_Encode_eq tA_ok, tx_Weight_eq tA_ok]
  have e : tx_Check tB = some ((91, ()), ()) := by
    unfold tx_Check
    rw [tx_Encode_eq tB_ok]
    unfold tx_money
    rw [loopV_of (step := tx_money_L1 tB.2.2.1 (tB.2.2.1.length : Int)) (n := 2) (o := .inr ((0, ()), ())) (by decide +kernel), loopV_of (step := tx_Check_L1 tB.2.1 (tB.2.1.length : Int)) (n := 3) (o := .inl ((91, ()), ())) (by kernel_rfl)]
    decide +kernel
  rw [show ((0 : Int), (([(((List.replicate 32 (0 : Int)), ((3 : Int), ())), ((0 : Int), (([] : List (List Int)), ()))), (((List.replicate 32 (0 : Int)), ((3 : Int), ())), ((0 : Int), (([] : List (List Int)), ())))] : List D_089d), (([((0 : Int), (([] : List Int), ()))] : List D_b101), ((0 : Int), ())))) = tB from rfl, e]
  decide +kernel
theorem keep_Items_some {xs : List (List Int)} : ∃ b, keep_Items xs 40 600 = some ((b, ()), ()) := by
  unfold keep_Items
  by_cases h : 40 < (xs.length : Int)
  · exact ⟨false, by simp [h]⟩
  · simp only [h, decide_false, cond_false]
    rw [loopV_all (step := keep_Items_L1 600 xs (xs.length : Int)) (fun i => (((i : Int), ()), ())) xs.length (fun i => !decide (600 < ((rd (.slice (.int .u8)) xs (i : Int)).length : Int))) (bad := .inl ((false, ()), ())) (good := .inr ((), ())) (b := (List.range xs.length).all fun i => !decide (600 < ((rd (.slice (.int .u8)) xs (i : Int)).length : Int))) ?_ (by simp) ?_ ?_]
    · cases ((List.range xs.length).all fun i => !decide (600 < ((rd (.slice (.int .u8)) xs (i : Int)).length : Int))) with
      | true => exact ⟨true, rfl⟩
      | false => exact ⟨false, rfl⟩
    · rfl
    · intro i hi
      unfold keep_Items_L1
      have h1 : ((i : Int) < (xs.length : Int)) := by omega
      simp only [h1, decide_true, cond_true, inb_nat hi, i64_up hi (show xs.length ≤ big by rw [big_le]; omega)]
      generalize decide (600 < ((rd (.slice (.int .u8)) xs (i : Int)).length : Int)) = b
      cases b <;> rfl
    · simp [keep_Items_L1]
theorem keep_Tx_some {t : D_8f0a} : ∃ b, keep_Tx t = some ((b, ()), ()) := by
  unfold keep_Tx
  by_cases h1 : 70 < (t.2.1.length : Int)
  · exact ⟨false, by simp [h1]⟩
  by_cases h2 : 70 < (t.2.2.1.length : Int)
  · exact ⟨false, by simp [h1, h2]⟩
  simp only [h1, h2, decide_false, cond_false]
  let f : Nat → Bool := fun i => (keep_Items_some (xs := (rd T_089d t.2.1 (i : Int)).2.2.1)).choose
  have hf : ∀ i : Nat, keep_Items (rd T_089d t.2.1 (i : Int)).2.2.1 40 600 = some ((f i, ()), ()) := fun i => (keep_Items_some (xs := (rd T_089d t.2.1 (i : Int)).2.2.1)).choose_spec
  rw [loopV_all (step := keep_Tx_L1 t.2.1 (t.2.1.length : Int)) (fun i => (((), ((i : Int), ())), (t, ()))) t.2.1.length f (bad := .inl ((false, ()), ())) (good := .inr (((), ()), (t, ()))) (b := (List.range t.2.1.length).all f) ?_ (by simp) ?_ ?_]
  · cases (List.range t.2.1.length).all f with
    | false => exact ⟨false, rfl⟩
    | true =>
      simp only [cond_true, Option.bind_some]
      rw [loopV_all (step := keep_Tx_L2 t.2.2.1 (t.2.2.1.length : Int)) (fun i => (((i : Int), ()), ())) t.2.2.1.length (fun i => !decide (600 < ((rd T_b101 t.2.2.1 (i : Int)).2.1.length : Int))) (bad := .inl ((false, ()), ())) (good := .inr ((), ())) (b := (List.range t.2.2.1.length).all fun i => !decide (600 < ((rd T_b101 t.2.2.1 (i : Int)).2.1.length : Int))) ?_ (by simp) ?_ ?_]
      · cases ((List.range t.2.2.1.length).all fun i => !decide (600 < ((rd T_b101 t.2.2.1 (i : Int)).2.1.length : Int))) with
        | true => exact ⟨true, rfl⟩
        | false => exact ⟨false, rfl⟩
      · rfl
      · intro i hi
        unfold keep_Tx_L2
        have h1 : ((i : Int) < (t.2.2.1.length : Int)) := by omega
        simp only [h1, decide_true, cond_true, inb_nat hi, i64_up hi (show t.2.2.1.length ≤ big by rw [big_le]; omega)]
        generalize decide (600 < ((rd T_b101 t.2.2.1 (i : Int)).2.1.length : Int)) = b
        cases b <;> rfl
      · simp [keep_Tx_L2]
  · rfl
  · intro i hi
    unfold keep_Tx_L1
    have h1 : ((i : Int) < (t.2.1.length : Int)) := by omega
    simp only [h1, decide_true, cond_true, inb_nat hi, i64_up hi (show t.2.1.length ≤ big by rw [big_le]; omega), hf i, Option.bind_some]
    cases f i <;> rfl
  · simp [keep_Tx_L1]
theorem txLater_eq {t : D_8f0a} {a b : Int} (hl : t.2.1.length ≤ big) (hk : 0 ≤ t.2.2.2.1 ∧ t.2.2.2.1 ≤ 4294967295) (ha1 : 0 ≤ a ∧ a ≤ 4294967295) (hb1 : 0 ≤ b ∧ b ≤ 4294967295) : law09_TxLater t a b = some ((true, ()), ()) := by
  unfold law09_TxLater
  rw [law09_sane_eq]
  obtain ⟨c, hc⟩ := @keep_Tx_some t
  simp only [Option.bind_some, Bool.not_true, cond_false, hc]
  cases c with
  | false => rfl
  | true =>
    rw [IntWalk.i64_in a (by omega), IntWalk.i64_in b (by omega), IntWalk.i64_in _ (by omega)]
    rw [tx_Final_eq hl hk (by omega), tx_Final_eq hl hk (by omega)]
    simp only [Option.bind_some, Bool.not_true, cond_false]
    cases hfin : finB t a with
    | false => rfl
    | true =>
      have : finB t (a + b) = true := by
        simp only [finB, Bool.or_eq_true, Bool.and_eq_true, decide_eq_true_eq] at hfin ⊢
        rcases hfin with h | h
        · exact .inl ⟨by omega, by omega⟩
        · exact .inr h
      rw [this]; rfl
theorem txLater_pure (xs : TT.dens (holes [T_8f0a, .int .u32, .int .u32])) (h : WfAll [T_8f0a, .int .u32, .int .u32] xs) : law09_TxLater xs.1 xs.2.1 xs.2.2.1 = some ((true, ()), ()) :=
  txLater_eq h.1.2.1.1 (Wf.u32 h.1.2.2.2.1) (Wf.u32 h.2.1) (Wf.u32 h.2.2.1)
end Go.PE
end

section
namespace Go.PE
set_option linter.unusedSimpArgs false
theorem ref01_joined_eq {a b : List Int} (h : a.length + b.length ≤ lim) : ref01_joined a b = some (((), ()), (a ++ b, ())) := by
  have h' := h
  unfold lim at h'
  simp only [ref01_joined, IntWalk.i64_in ((a.length : Int) + (b.length : Int)) (by omega)]
  rw [bif_t (by simp; constructor <;> omega), bif_t (by simp; omega), bif_t (by simp; omega)]
  simp
theorem flatten_take_succ {ls : List (List Int)} {i : Nat} (h : i < ls.length) : (ls.take (i + 1)).flatten = (ls.take i).flatten ++ ls[i] := by
  rw [List.take_succ_eq_append_getElem h, List.flatten_append, List.flatten_singleton]
theorem flatten_take_le {ls : List (List Int)} : ∀ {i : Nat}, (ls.take i).flatten.length ≤ ls.flatten.length := by
  induction ls with
  | nil => intro i; simp
  | cons a ls ih => intro i; cases i with
    | zero => simp
    | succ i => have := @ih i; simp only [List.take_succ_cons, List.flatten_cons, List.length_append]; omega
theorem ref01_Join_eq {ls : List (List Int)} (h : ls.flatten.length ≤ lim) (hn : ls.length ≤ big) : ref01_Join ls = some (((), ()), (ls.flatten, ())) := by
  unfold ref01_Join
  rw [loopV_ind (o := (((), ()), (ls.flatten, ()))) (fun i => (((), ((i : Int), ())), ((ls.take i).flatten, ()))) ls.length]
  · rfl
  · simp
  · intro i hi
    have h1 : (ls.take (i + 1)).flatten.length ≤ lim := Nat.le_trans flatten_take_le h
    rw [flatten_take_succ hi] at h1
    have hg : rd (.slice (.int .u8)) ls (i : Int) = ls[i] := by
      rw [rd_eq, Int.toNat_natCast, List.getD_eq_getElem?_getD, List.getElem?_eq_getElem hi]; rfl
    simp only [ref01_Join_L1, decide_eq_true (show (i : Int) < (ls.length : Int) by omega), cond_true, inb_t (show 0 ≤ (i : Int) ∧ (i : Int) < (ls.length : Int) by omega), hg]
    rw [ref01_joined_eq (by simpa using h1)]
    simp only [Option.bind_some]
    rw [IntWalk.i64_in _ (by unfold big at hn; omega), flatten_take_succ hi]
    rfl
  · simp [ref01_Join_L1]
theorem ref01_Same_eq {a b : List Int} : ref01_Same a b = some ((decide (a = b), ()), ()) := by
  simp [ref01_Same, eqList_int]
end Go.PE
end

section
namespace Go.PE
set_option linter.unusedSimpArgs false
set_option linter.unusedVariables false
theorem ref01_little_eq {v n : Nat} (hv : v < 2 ^ 64) (hn : n ≤ 8) : ref01_little (v : Int) (n : Int) = some (((), ()), (le v n, ())) := by
  unfold ref01_little
  have c1 : (0 : Int) ≤ (n : Int) := by omega
  have c2 : (n : Int) ≤ ((lim : Nat) : Int) := by rw [lim_eq]; omega
  simp only [c1, c2, Int.le_refl, decide_true, Bool.and_self, cond_true, Int.toNat_natCast, List.length_replicate]
  rw [loopV_ind (step := ref01_little_L1 (v : Int) (n : Int)) (o := (((), ()), (le v n, ()))) (fun i => (((), ((i : Int), ())), (le v i ++ List.replicate (n - i) 0, ()))) n ?_ ?_ ?_]
  · rfl
  · simp [le]
  · intro i hi
    unfold ref01_little_L1
    have h1 : ((i : Int) < (n : Int)) := by omega
    have h2 := put_step (show i < 8 by omega)
    have h3 : ¬ ((8 * i : Nat) : Int) < 0 := by omega
    have h4 : inb (i : Int) (le v i ++ List.replicate (n - i) (0 : Int)).length = true := inb_nat (by rw [List.length_append, le_len, List.length_replicate]; omega)
    have h5 : (le v i ++ List.replicate (n - i) (0 : Int))[i]? = some 0 := by
      rw [List.getElem?_append_right (by rw [le_len]; omega), le_len, List.getElem?_replicate_of_lt (by omega)]
    have h6 : (le v i ++ List.replicate (n - i) (0 : Int)).set i ((v / 256 ^ i % 256 : Nat) : Int) = le v (i + 1) ++ List.replicate (n - (i + 1)) 0 := by
      rw [List.set_append_right (h := by rw [le_len]; omega), le_len, le_up, Nat.sub_self]
      obtain ⟨k, hk⟩ : ∃ k, n - i = k + 1 := ⟨n - i - 1, by omega⟩
      have hk2 : n - (i + 1) = k := by omega
      rw [hk, hk2, List.replicate_succ, List.set_cons_zero, List.append_assoc]; rfl
    have hup := i64_up hi (show n ≤ big from Nat.le_trans hn (by decide))
    simp only [h1, decide_true, cond_true]
    simp only [h2, h3, decide_false, cond_false, h4, cond_true, Int.toNat_natCast, h5, Option.bind_some, hup, le_byte hv (show i < 8 by omega), h6]
  · have h1 : ¬ ((n : Int) < (n : Int)) := by omega
    simp [ref01_little_L1, h1]
theorem ref01_AppendU32_eq {a : List Int} {x : Int} (h : 0 ≤ x ∧ x ≤ 4294967295) (hl : a.length + 4 ≤ lim) : ref01_AppendU32 a x = some (((), ()), (a ++ le x.toNat 4, ())) := by
  unfold ref01_AppendU32
  have e : IntKind.u64.wrap x = ((x.toNat : Nat) : Int) := by rw [wrap_un rfl (by omega) (by simp only [IntKind.bits]; omega)]; omega
  have e2 := ref01_little_eq (v := x.toNat) (n := 4) (by omega) (by omega)
  rw [e, show (4 : Int) = ((4 : Nat) : Int) from rfl, e2]
  simp only [Option.bind_some]
  rw [ref01_joined_eq (by rw [le_len]; exact hl)]; rfl
theorem ref01_AppendHash_eq {a h : List Int} (hh : h.length = 32) (hl : a.length + 32 ≤ lim) : ref01_AppendHash a h = some (((), ()), (a ++ h, ())) := by
  unfold ref01_AppendHash
  have h4 : sub h 0 32 = h := by unfold sub; rw [List.drop_zero, List.take_of_length_le (by omega)]
  rw [h4, ref01_joined_eq (by rw [hh]; exact hl)]; rfl
end Go.PE
end

section
namespace Go.PE
set_option linter.unusedSimpArgs false
set_option linter.unusedVariables false
theorem cmpI_neg : ∀ (x y : List Int), cmpI y x = - cmpI x y := by
  intro x
  induction x with
  | nil => intro y; cases y <;> rfl
  | cons a x ih =>
    intro y
    cases y with
    | nil => rfl
    | cons b y =>
      simp only [cmpI]
      rcases Int.lt_trichotomy a b with h | h | h
      · have h2 : ¬ b < a := by omega
        simp [h, h2]
      · subst h; simp [ih y]
      · have h2 : ¬ a < b := by omega
        simp [h, h2]
theorem cmpI_zero : ∀ (x y : List Int), cmpI x y = 0 ↔ x = y := by
  intro x
  induction x with
  | nil => intro y; cases y <;> simp [cmpI]
  | cons a x ih =>
    intro y
    cases y with
    | nil => simp [cmpI]
    | cons b y =>
      simp only [cmpI]
      rcases Int.lt_trichotomy a b with h | h | h
      · have : ¬ a = b := by omega
        simp [h, this]
      · subst h; simp [ih y]
      · have h2 : ¬ a < b := by omega
        have : ¬ a = b := by omega
        simp [h, h2, this]
theorem cmpI_trans : ∀ (x y z : List Int), cmpI x y ≤ 0 → cmpI y z ≤ 0 → cmpI x z ≤ 0 := by
  intro x
  induction x with
  | nil => intro y z _ _; cases z <;> simp [cmpI]
  | cons a x ih =>
    intro y z h1 h2
    cases y with
    | nil => simp [cmpI] at h1
    | cons b y =>
      cases z with
      | nil => simp [cmpI] at h2
      | cons c z =>
        simp only [cmpI] at h1 h2 ⊢
        by_cases hab : a < b
        · by_cases hbc : b < c
          · have : a < c := by omega
            simp [this]
          · by_cases hcb : c < b
            · simp [hbc, hcb] at h2
            · have : a < c := by omega
              simp [this]
        · by_cases hba : b < a
          · simp [hab, hba] at h1
          · have : a = b := by omega
            subst this
            by_cases hbc : a < c
            · simp [hbc]
            · by_cases hcb : c < a
              · simp [hbc, hcb] at h2
              · simp [hbc, hcb] at h1 h2 ⊢
                exact ih y z h1 h2
theorem cmpI_append : ∀ {x y a b : List Int}, x.length = y.length → cmpI (x ++ a) (y ++ b) = if cmpI x y = 0 then cmpI a b else cmpI x y := by
  intro x
  induction x with
  | nil => intro y a b h; cases y with
    | nil => simp [cmpI]
    | cons _ _ => simp at h
  | cons c x ih =>
    intro y a b h
    cases y with
    | nil => simp at h
    | cons d y =>
      simp only [List.length_cons, Nat.add_right_cancel_iff] at h
      simp only [List.cons_append, cmpI]
      by_cases h1 : c < d
      · simp [h1]
      · by_cases h2 : d < c
        · simp [h1, h2]
        · simp [h1, h2, ih h]
theorem cmpI_range' : ∀ (x y : List Int), -1 ≤ cmpI x y ∧ cmpI x y ≤ 1 := by
  intro x
  induction x with
  | nil => intro y; cases y <;> simp [cmpI]
  | cons a x ih =>
    intro y
    cases y with
    | nil => simp [cmpI]
    | cons b y =>
      simp only [cmpI]
      cases decide (a < b) <;> cases decide (b < a) <;> simp [ih y]
def keyP (p : D_b85e) : List Int := p.1 ++ [p.2.1]
def pcmp (p q : D_b85e) : Int := cmpI (keyP p) (keyP q)
theorem pcmp_eq {p q : D_b85e} (h : p.1.length = q.1.length) : pcmp p q = if cmpI p.1 q.1 = 0 then cmpI [p.2.1] [q.2.1] else cmpI p.1 q.1 := cmpI_append h
theorem cmp_one {a b : Int} : cmpI [a] [b] = if a < b then -1 else if b < a then 1 else 0 := by
  simp only [cmpI]
  by_cases h1 : a < b
  · simp [h1]
  · by_cases h2 : b < a <;> simp [h1, h2]
theorem cmp_Or_two {a b : Int} : cmp_Or_int ([a, b] : List Int) = some ((if a = 0 then b else a, ()), ()) := by
  unfold cmp_Or_int
  by_cases ha : a = 0
  · by_cases hb : b = 0
    · rw [loopV_next (v' := (((1 : Int), ()), ())), loopV_next (v' := (((2 : Int), ()), ())), loopV_done (o := .inr ((), ()))]
      · simp [ha, hb]
      · rfl
      · subst hb; rfl
      · subst ha; rfl
    · rw [loopV_next (v' := (((1 : Int), ()), ())), loopV_done (o := .inl ((b, ()), ()))]
      · simp [ha]
      · show (bif !decide (b = 0) then _ else _) = _
        rw [decide_eq_false hb]; rfl
      · subst ha; rfl
  · rw [loopV_done (o := .inl ((a, ()), ()))]
    · simp [ha]
    · show (bif !decide (a = 0) then _ else _) = _
      rw [decide_eq_false ha]; rfl
theorem tx_Compare_eq {p q : D_b85e} (hp : p.1.length = 32) (hq : q.1.length = 32) : tx_Compare p q = some ((pcmp p q, ()), ()) := by
  unfold tx_Compare
  have e1 : sub p.1 0 32 = p.1 := by unfold sub; rw [List.drop_zero, List.take_of_length_le (by omega)]
  have e2 : sub q.1 0 32 = q.1 := by unfold sub; rw [List.drop_zero, List.take_of_length_le (by omega)]
  have e3 : cmp_Compare_uint32 p.2.1 q.2.1 = some ((cmpI [p.2.1] [q.2.1], ()), ()) := by
    unfold cmp_Compare_uint32 cmp_isNaN_uint32
    rw [cmp_one]
    simp only [decide_true, Bool.not_true, Option.bind_some, cond_false]
    by_cases h1 : p.2.1 < q.2.1
    · simp [h1]
    · by_cases h2 : q.2.1 < p.2.1 <;> simp [h1, h2]
  rw [e1, e2, e3]
  simp only [bytes_Compare, ext_compare, Option.bind_some, cmp_Or_two, pcmp_eq (hp.trans hq.symm)]
theorem ref09_L1_eq {p q : D_b85e} (hp : p.1.length = 32) (hq : q.1.length = 32) : ∀ k i : Nat, i + k = 32 →
    loopV ref09_Compare_L1 (((), ((), ((i : Int), ()))), (p, (q, ()))) = some (if cmpI (p.1.drop i) (q.1.drop i) = 0 then .inr (((), ((), ())), (p, (q, ()))) else .inl ((cmpI (p.1.drop i) (q.1.drop i), ()), ())) := by
  intro k
  induction k with
  | zero =>
    intro i hi
    have h1 : ¬ ((i : Int) < 32) := by omega
    have e1 : p.1.drop i = [] := List.drop_eq_nil_of_le (by omega)
    have e2 : q.1.drop i = [] := List.drop_eq_nil_of_le (by omega)
    rw [loopV_done (o := .inr (((), ((), ())), (p, (q, ()))))]
    · simp [e1, e2, cmpI]
    · simp only [ref09_Compare_L1, h1, decide_false, cond_false]
  | succ k ih =>
    intro i hi
    have h1 : ((i : Int) < 32) := by omega
    have b1 : inb (i : Int) 32 = true := inb_nat (by omega)
    have g1 : p.1[i]? = some p.1[i] := List.getElem?_eq_getElem (by omega)
    have g2 : q.1[i]? = some q.1[i] := List.getElem?_eq_getElem (by omega)
    rw [List.drop_eq_getElem_cons (show i < p.1.length by omega), List.drop_eq_getElem_cons (show i < q.1.length by omega)]
    simp only [cmpI]
    by_cases h2 : p.1[i] < q.1[i]
    · rw [loopV_done (o := .inl ((-1, ()), ()))]
      · simp [h2]
      · simp only [ref09_Compare_L1, h1, decide_true, cond_true, b1, Int.toNat_natCast, g1, g2, Option.bind_some, h2]
    · by_cases h3 : q.1[i] < p.1[i]
      · rw [loopV_done (o := .inl ((1, ()), ()))]
        · simp [h2, h3]
        · simp only [ref09_Compare_L1, h1, decide_true, decide_false, cond_true, cond_false, b1, Int.toNat_natCast, g1, g2, Option.bind_some, h2, h3]
      · have hup : IntKind.i64.wrap ((i : Int) + 1) = ((i + 1 : Nat) : Int) := i64_up (n := 32) (by omega) (by decide)
        rw [loopV_next (v' := (((), ((), (((i + 1 : Nat) : Int), ()))), (p, (q, ())))), ih (i + 1) (by omega)]
        · simp [h2, h3]
        · simp only [ref09_Compare_L1, h1, decide_true, decide_false, cond_true, cond_false, b1, Int.toNat_natCast, g1, g2, Option.bind_some, h2, h3, hup]
theorem ref09_Compare_eq {p q : D_b85e} (hp : p.1.length = 32) (hq : q.1.length = 32) : ref09_Compare p q = some ((pcmp p q, ()), ()) := by
  unfold ref09_Compare
  have h := ref09_L1_eq hp hq 32 0 (by omega)
  rw [show ((0 : Nat) : Int) = 0 from rfl, List.drop_zero, List.drop_zero] at h
  rw [h, pcmp_eq (hp.trans hq.symm), cmp_one]
  by_cases h0 : cmpI p.1 q.1 = 0
  · simp only [h0, if_true, Option.bind_some]
    by_cases h1 : p.2.1 < q.2.1
    · simp [h1]
    · by_cases h2 : q.2.1 < p.2.1 <;> simp [h1, h2]
  · simp [h0]
theorem keyP_inj {p q : D_b85e} (h : p.1.length = q.1.length) : keyP p = keyP q ↔ p = q := by
  constructor
  · intro he
    obtain ⟨e1, e2⟩ := List.append_inj he h
    obtain ⟨a, b, u⟩ := p
    obtain ⟨c, d, u'⟩ := q
    simp only [List.cons.injEq, and_true] at e1 e2
    have e1 : a = c := e1
    have e2 : b = d := e2
    subst e1; subst e2; rfl
  · intro he; rw [he]
theorem txPoints_eq {p q r : D_b85e} (hp : p.1.length = 32) (hq : q.1.length = 32) (hr : r.1.length = 32) (hi : 0 ≤ p.2.1 ∧ p.2.1 ≤ 4294967295) : law09_TxPoints p q r = some ((true, ()), ()) := by
  unfold law09_TxPoints
  rw [law09_sane_eq, tx_Compare_eq hp hq, ref09_Compare_eq hp hq, tx_Compare_eq hq hp, tx_Compare_eq hq hr, tx_Compare_eq hp hr, tx_Point_eq hp hi]
  have e1 : ref09_Point p = some (((), ()), (p.1 ++ le p.2.1.toNat 4, ())) := by
    unfold ref09_Point
    rw [ref01_AppendHash_eq hp (by simp [lim])]
    simp only [Option.bind_some, List.nil_append]
    rw [ref01_AppendU32_eq hi (by rw [hp, lim_eq]; omega)]; rfl
  have hneg : pcmp q p = - pcmp p q := cmpI_neg _ _
  have hrg := cmpI_range' (keyP p) (keyP q)
  have hw : IntKind.i64.wrap (-(-pcmp p q)) = pcmp p q := by rw [IntWalk.i64_in _ (by unfold pcmp; omega)]; omega
  have hz : (pcmp p q = 0) ↔ p = q := (cmpI_zero _ _).trans (keyP_inj (hp.trans hq.symm))
  have he : Ty.eqb .bool (decide (pcmp p q = 0)) (Ty.eqb T_b85e p q) = true := by
    by_cases h : p = q
    · have h2 := hz.2 h
      subst h
      rw [eqb_self (T := T_b85e) rfl, h2]; rfl
    · have h1 : Ty.eqb T_b85e p q = false := by
        cases hb : Ty.eqb T_b85e p q with
        | false => rfl
        | true => exact (h (eqb_eq (T := T_b85e) rfl hb)).elim
      have h2 : ¬ pcmp p q = 0 := fun h3 => h (hz.1 h3)
      rw [h1, decide_eq_false h2]; rfl
  simp only [Option.bind_some, Bool.not_true, cond_false, decide_true, hneg, hw, he, e1, ref01_Same_eq]
  by_cases h1 : 0 < pcmp p q
  · simp [h1]
  · by_cases h2 : 0 < pcmp q r
    · simp [h1, h2]
    · have h3 : pcmp p r ≤ 0 := cmpI_trans _ (keyP q) _ (by unfold pcmp at h1; omega) (by unfold pcmp at h2; omega)
      simp [h1, h2, h3]
theorem txPoints_pure (xs : TT.dens (holes [T_b85e, T_b85e, T_b85e])) (h : WfAll [T_b85e, T_b85e, T_b85e] xs) : law09_TxPoints xs.1 xs.2.1 xs.2.2.1 = some ((true, ()), ()) :=
  txPoints_eq h.1.1.1 h.2.1.1.1 h.2.2.1.1.1 (Wf.u32 h.1.2.1)
end Go.PE
end
