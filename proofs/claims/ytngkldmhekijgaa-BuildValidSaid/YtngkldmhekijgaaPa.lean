/- What the printed functions of the program are, and the plain law; conditions stand in each statement. -/
import Derived.Test.YtngkldmhekijgaaQa
import Derived.Test.YtngkldmhekijgaaQc
import Derived.IntWalk
section
namespace Go.PE
abbrev T_8464 : Ty := (.cons .ptr .nil)
abbrev D_8464 : Type := Unit × Unit
abbrev T_a556 : Ty := (.cons .str (.cons (.int .u64) .nil))
abbrev D_a556 : Type := (List Int) × Int × Unit
abbrev T_b101 : Ty := (.cons (.int .i64) (.cons (.slice (.int .u8)) .nil))
abbrev D_b101 : Type := Int × (List Int) × Unit
abbrev T_3393 : Ty := (.cons (.slice (.int .i64)) (.cons (.int .i64) .nil))
abbrev D_3393 : Type := (List Int) × Int × Unit
abbrev T_b85e : Ty := (.cons (.arr 32 (.int .u8)) (.cons (.int .u32) .nil))
abbrev D_b85e : Type := (List Int) × Int × Unit
abbrev T_f0bb : Ty := (.cons .ptr (.cons .ptr (.cons .ptr (.cons .str .nil))))
abbrev D_f0bb : Type := Unit × Unit × Unit × (List Int) × Unit
abbrev T_d9b8 : Ty := (.cons (.int .i64) (.cons (.int .i64) (.cons .bool (.cons (.int .u8) .nil))))
abbrev D_d9b8 : Type := Int × Int × Bool × Int × Unit
abbrev T_089d : Ty := (.cons T_b85e (.cons (.int .u32) (.cons (.slice (.slice (.int .u8))) .nil)))
abbrev D_089d : Type := D_b85e × Int × (List (List Int)) × Unit
abbrev T_a496 : Ty := (.cons (.slice (.int .i64)) (.cons (.int .i64) (.cons (.slice (.int .i64)) (.cons T_3393 (.cons .bool .nil)))))
abbrev D_a496 : Type := (List Int) × Int × (List Int) × D_3393 × Bool × Unit
abbrev T_6b85 : Ty := (.cons T_b85e (.cons T_b101 (.cons (.int .i64) (.cons .bool .nil))))
abbrev D_6b85 : Type := D_b85e × D_b101 × Int × Bool × Unit
abbrev T_c1fb : Ty := (.cons T_6b85 (.cons (.int .i64) .nil))
abbrev D_c1fb : Type := D_6b85 × Int × Unit
abbrev T_fbab : Ty := (.cons (.int .u64) (.cons (.int .u64) (.cons (.int .u32) (.cons (.int .u8) (.cons (.int .u8) (.cons (.int .u8) (.cons (.int .u8) (.cons .fn (.cons .ptr (.cons (.int .i32) (.cons (.int .i32) .nil)))))))))))
abbrev D_fbab : Type := Int × Int × Int × Int × Int × Int × Int × Unit × Unit × Int × Int × Unit
abbrev T_8f0a : Ty := (.cons (.int .u32) (.cons (.slice T_089d) (.cons (.slice T_b101) (.cons (.int .u32) .nil))))
abbrev D_8f0a : Type := Int × (List D_089d) × (List D_b101) × Int × Unit
abbrev T_94d8 : Ty := (.cons T_8f0a (.cons (.int .i64) .nil))
abbrev D_94d8 : Type := D_8f0a × Int × Unit
abbrev T_0798 : Ty := (.cons T_8f0a (.cons (.slice T_6b85) (.cons (.int .i64) (.cons (.int .i64) .nil))))
abbrev D_0798 : Type := D_8f0a × (List D_6b85) × Int × Int × Unit
def S_0d66ef : List Int := [0, 1, 2, 2, 3, 3, 3, 3, 4, 4, 4, 4, 4, 4, 4, 4, 5, 5, 5, 5, 5, 5, 5, 5, 5, 5, 5, 5, 5, 5, 5, 5, 6, 6, 6, 6, 6, 6, 6, 6, 6, 6, 6, 6, 6, 6, 6, 6, 6, 6, 6, 6, 6, 6, 6, 6, 6, 6, 6, 6, 6, 6, 6, 6, 7, 7, 7, 7, 7, 7, 7, 7, 7, 7, 7, 7, 7, 7, 7, 7, 7, 7, 7, 7, 7, 7, 7, 7, 7, 7, 7, 7, 7, 7, 7, 7, 7, 7, 7, 7, 7, 7, 7, 7, 7, 7, 7, 7, 7, 7, 7, 7, 7, 7, 7, 7, 7, 7, 7, 7, 7, 7, 7, 7, 7, 7, 7, 7, 8, 8, 8, 8, 8, 8, 8, 8, 8, 8, 8, 8, 8, 8, 8, 8, 8, 8, 8, 8, 8, 8, 8, 8, 8, 8, 8, 8, 8, 8, 8, 8, 8, 8, 8, 8, 8, 8, 8, 8, 8, 8, 8, 8, 8, 8, 8, 8, 8, 8, 8, 8, 8, 8, 8, 8, 8, 8, 8, 8, 8, 8, 8, 8, 8, 8, 8, 8, 8, 8, 8, 8, 8, 8, 8, 8, 8, 8, 8, 8, 8, 8, 8, 8, 8, 8, 8, 8, 8, 8, 8, 8, 8, 8, 8, 8, 8, 8, 8, 8, 8, 8, 8, 8, 8, 8, 8, 8, 8, 8, 8, 8, 8, 8, 8, 8, 8, 8, 8, 8, 8, 8, 8, 8, 8, 8, 8, 8]
def G_3e2daa : List Int := [1779033703, 3144134277, 1013904242, 2773480762, 1359893119, 2600822924, 528734635, 1541459225]
def G_c990df : List Int := [1116352408, 1899447441, 3049323471, 3921009573, 961987163, 1508970993, 2453635748, 2870763221, 3624381080, 310598401, 607225278, 1426881987, 1925078388, 2162078206, 2614888103, 3248222580, 3835390401, 4022224774, 264347078, 604807628, 770255983, 1249150122, 1555081692, 1996064986, 2554220882, 2821834349, 2952996808, 3210313671, 3336571891, 3584528711, 113926993, 338241895, 666307205, 773529912, 1294757372, 1396182291, 1695183700, 1986661051, 2177026350, 2456956037, 2730485921, 2820302411, 3259730800, 3345764771, 3516065817, 3600352804, 4094571909, 275423344, 430227734, 506948616, 659060556, 883997877, 958139571, 1322822218, 1537002063, 1747873779, 1955562222, 2024104815, 2227730452, 2361852424, 2428436474, 2756734187, 3204031479, 3329325298]
end Go.PE
end

section
set_option linter.unusedVariables false
noncomputable section
namespace Go.PE

/-- slices.Clone[[]int,int] -/
def slices_Clone_int_int (a0 : List Int) : Option ((Unit × Unit) × (List Int) × Unit) :=
  bif decide (List.length a0 ≤ lim) then some (((), ()), (a0, ())) else none

def slices_Index_int_int_L1 (c0 : List Int) (c1 : Int) (c7 : Int) (v : (Int × Unit) × Unit) : Option (((Int × Unit) × Unit) ⊕ (((Int × Unit) × Unit) ⊕ ((Unit) × Unit))) :=
  bif (decide (v.1.1 < c7)) then
    bif (inb v.1.1 (List.length c0)) then
      bif (decide (c1 = (rd (.int .i64) c0 v.1.1))) then
        some (.inr (.inl ((v.1.1, ()), ())))
      else
        some (.inl (((IntKind.i64.wrap (v.1.1 + (1 : Int))), ()), ()))
    else
      none
  else
    some (.inr (.inr ((), ())))

/-- slices.Index[[]int,int] -/
def slices_Index_int_int (a0 : List Int) (a1 : Int) : Option ((Int × Unit) × Unit) :=
  (loopV (slices_Index_int_int_L1 a0 a1 (((List.length a0) : Int))) (((0 : Int), ()), ())).bind fun o4 =>
  match o4 with
  | .inl o5 =>
    some ((o5.1.1, ()), ())
  | .inr o6 =>
    some (((-1 : Int), ()), ())

/-- slices.Contains[[]int,int] -/
def slices_Contains_int_int (a0 : List Int) (a1 : Int) : Option ((Bool × Unit) × Unit) :=
  (slices_Index_int_int a0 a1).bind fun r3 =>
  some (((decide ((0 : Int) ≤ r3.1.1)), ()), ())

def math_bits_Len64_J1 (v : (Int × Int × Unit) × Unit) : Option ((Int × Int × Unit) × Unit) :=
  bif (decide ((4294967296 : Int) ≤ v.1.1)) then
    some (((shrI .u64 v.1.1 (32 : Int)), ((32 : Int), ())), ())
  else
    some ((v.1.1, (v.1.2.1, ())), ())

def math_bits_Len64_J2 (v : (Int × Int × Unit) × Unit) : Option ((Int × Int × Unit) × Unit) :=
  bif (decide ((65536 : Int) ≤ v.1.1)) then
    some (((shrI .u64 v.1.1 (16 : Int)), ((IntKind.i64.wrap (v.1.2.1 + (16 : Int))), ())), ())
  else
    some ((v.1.1, (v.1.2.1, ())), ())

def math_bits_Len64_J3 (v : (Int × Int × Unit) × Unit) : Option ((Int × Int × Unit) × Unit) :=
  bif (decide ((256 : Int) ≤ v.1.1)) then
    some (((shrI .u64 v.1.1 (8 : Int)), ((IntKind.i64.wrap (v.1.2.1 + (8 : Int))), ())), ())
  else
    some ((v.1.1, (v.1.2.1, ())), ())

/-- math/bits.Len64 -/
def math_bits_Len64 (a0 : Int) : Option ((Int × Unit) × Unit) :=
  (math_bits_Len64_J1 ((a0, ((0 : Int), ())), ())).bind fun o2 =>
  (math_bits_Len64_J2 ((o2.1.1, (o2.1.2.1, ())), ())).bind fun o3 =>
  (math_bits_Len64_J3 ((o3.1.1, (o3.1.2.1, ())), ())).bind fun o4 =>
  let x5 := (IntKind.u8.wrap (o4.1.1))
  bif (inb x5 (List.length S_0d66ef)) then
    some (((IntKind.i64.wrap (o4.1.2.1 + (IntKind.i64.wrap ((rd (.int .u8) S_0d66ef x5))))), ()), ())
  else
    none

/-- math/bits.Len -/
def math_bits_Len (a0 : Int) : Option ((Int × Unit) × Unit) :=
  (math_bits_Len64 a0).bind fun r2 =>
  some ((r2.1.1, ()), ())

/-- cmp.isNaN[int] -/
def cmp_isNaN_int (a0 : Int) : Option ((Bool × Unit) × Unit) :=
  some (((!decide (a0 = a0)), ()), ())

/-- cmp.Less[int] -/
def cmp_Less_int (a0 : Int) (a1 : Int) : Option ((Bool × Unit) × Unit) :=
  (cmp_isNaN_int a0).bind fun r3 =>
  bif r3.1.1 then
    (cmp_isNaN_int a1).bind fun r4 =>
    bif (!r4.1.1) then
      some ((true, ()), ())
    else
      some (((decide (a0 < a1)), ()), ())
  else
    some (((decide (a0 < a1)), ()), ())

def slices_insertionSortOrdered_int_L2 (c1 : Int) (v : (Unit × Int × Unit) × (List Int) × Unit) : Option (((Unit × Int × Unit) × (List Int) × Unit) ⊕ ((Unit × Unit) × (List Int) × Unit)) :=
  bif (decide (c1 < v.1.2.1)) then
    bif (inb v.1.2.1 (List.length v.2.1)) then
      (v.2.1[(Int.toNat v.1.2.1)]?).bind fun e3002 =>
      let x3003 := (IntKind.i64.wrap (v.1.2.1 - (1 : Int)))
      bif (inb x3003 (List.length v.2.1)) then
        (v.2.1[(Int.toNat x3003)]?).bind fun e3004 =>
        (cmp_Less_int e3002 e3004).bind fun r3005 =>
        bif r3005.1.1 then
          let x3006 := (IntKind.i64.wrap (v.1.2.1 - (1 : Int)))
          let x3007 := (IntKind.i64.wrap (v.1.2.1 - (1 : Int)))
          bif (inb x3007 (List.length v.2.1)) then
            (v.2.1[(Int.toNat x3007)]?).bind fun e3008 =>
            bif (inb v.1.2.1 (List.length v.2.1)) then
              (v.2.1[(Int.toNat v.1.2.1)]?).bind fun e3009 =>
              bif (inb v.1.2.1 (List.length v.2.1)) then
                (v.2.1[(Int.toNat v.1.2.1)]?).bind fun e3010 =>
                let x3011 := (v.2.1.set (Int.toNat v.1.2.1) e3008)
                bif (inb x3006 (List.length x3011)) then
                  (x3011[(Int.toNat x3006)]?).bind fun e3012 =>
                  some (.inl (((), ((IntKind.i64.wrap (v.1.2.1 - (1 : Int))), ())), ((x3011.set (Int.toNat x3006) e3009), ())))
                else
                  none
              else
                none
            else
              none
          else
            none
        else
          some (.inr (((), ()), (v.2.1, ())))
      else
        none
    else
      none
  else
    some (.inr (((), ()), (v.2.1, ())))

def slices_insertionSortOrdered_int_L1 (c1 : Int) (c2 : Int) (v : (Unit × Int × Unit) × (List Int) × Unit) : Option (((Unit × Int × Unit) × (List Int) × Unit) ⊕ ((Unit) × (List Int) × Unit)) :=
  bif (decide (v.1.2.1 < c2)) then
    (loopV (slices_insertionSortOrdered_int_L2 c1) (((), (v.1.2.1, ())), (v.2.1, ()))).bind fun o2002 =>
    some (.inl (((), ((IntKind.i64.wrap (v.1.2.1 + (1 : Int))), ())), (o2002.2.1, ())))
  else
    some (.inr ((), (v.2.1, ())))

/-- slices.insertionSortOrdered[int] -/
def slices_insertionSortOrdered_int (a0 : Int) (a1 : Int) (a2 : List Int) : Option ((Unit) × (List Int) × Unit) :=
  (loopV (slices_insertionSortOrdered_int_L1 a0 a1) (((), ((IntKind.i64.wrap (a0 + (1 : Int))), ())), (a2, ()))).bind fun o5 =>
  some ((), (o5.2.1, ()))

def slices_siftDownOrdered_int_J2 (c2 : Int) (c3 : Int) (v : (Unit × Int × Unit) × (List Int) × Unit) : Option ((Unit × Int × Unit) × (List Int) × Unit) :=
  bif (decide ((IntKind.i64.wrap (v.1.2.1 + (1 : Int))) < c2)) then
    let x3003 := (IntKind.i64.wrap (c3 + v.1.2.1))
    bif (inb x3003 (List.length v.2.1)) then
      (v.2.1[(Int.toNat x3003)]?).bind fun e3004 =>
      let x3006 := (IntKind.i64.wrap ((IntKind.i64.wrap (c3 + v.1.2.1)) + (1 : Int)))
      bif (inb x3006 (List.length v.2.1)) then
        (v.2.1[(Int.toNat x3006)]?).bind fun e3007 =>
        (cmp_Less_int e3004 e3007).bind fun r3008 =>
        bif r3008.1.1 then
          some (((), ((IntKind.i64.wrap (v.1.2.1 + (1 : Int))), ())), (v.2.1, ()))
        else
          some (((), (v.1.2.1, ())), (v.2.1, ()))
      else
        none
    else
      none
  else
    some (((), (v.1.2.1, ())), (v.2.1, ()))

def slices_siftDownOrdered_int_L1 (c2 : Int) (c3 : Int) (v : (Unit × Int × Unit) × (List Int) × Unit) : Option (((Unit × Int × Unit) × (List Int) × Unit) ⊕ (((Unit) × (List Int) × Unit) ⊕ ((Unit) × (List Int) × Unit))) :=
  let x2002 := (IntKind.i64.wrap ((IntKind.i64.wrap ((2 : Int) * v.1.2.1)) + (1 : Int)))
  bif (decide (c2 ≤ x2002)) then
    some (.inr (.inl ((), (v.2.1, ()))))
  else
    (slices_siftDownOrdered_int_J2 c2 c3 (((), (x2002, ())), (v.2.1, ()))).bind fun o2004 =>
    let x2005 := (IntKind.i64.wrap (c3 + v.1.2.1))
    bif (inb x2005 (List.length o2004.2.1)) then
      (o2004.2.1[(Int.toNat x2005)]?).bind fun e2006 =>
      let x2007 := (IntKind.i64.wrap (c3 + o2004.1.2.1))
      bif (inb x2007 (List.length o2004.2.1)) then
        (o2004.2.1[(Int.toNat x2007)]?).bind fun e2008 =>
        (cmp_Less_int e2006 e2008).bind fun r2009 =>
        bif (!r2009.1.1) then
          some (.inr (.inr ((), (o2004.2.1, ()))))
        else
          let x2011 := (IntKind.i64.wrap (c3 + v.1.2.1))
          let x2012 := (IntKind.i64.wrap (c3 + o2004.1.2.1))
          let x2013 := (IntKind.i64.wrap (c3 + o2004.1.2.1))
          bif (inb x2013 (List.length o2004.2.1)) then
            (o2004.2.1[(Int.toNat x2013)]?).bind fun e2014 =>
            let x2015 := (IntKind.i64.wrap (c3 + v.1.2.1))
            bif (inb x2015 (List.length o2004.2.1)) then
              (o2004.2.1[(Int.toNat x2015)]?).bind fun e2016 =>
              bif (inb x2011 (List.length o2004.2.1)) then
                (o2004.2.1[(Int.toNat x2011)]?).bind fun e2017 =>
                let x2018 := (o2004.2.1.set (Int.toNat x2011) e2014)
                bif (inb x2012 (List.length x2018)) then
                  (x2018[(Int.toNat x2012)]?).bind fun e2019 =>
                  some (.inl (((), (o2004.1.2.1, ())), ((x2018.set (Int.toNat x2012) e2016), ())))
                else
                  none
              else
                none
            else
              none
          else
            none
      else
        none
    else
      none

/-- slices.siftDownOrdered[int] -/
def slices_siftDownOrdered_int (a0 : Int) (a1 : Int) (a2 : Int) (a3 : List Int) : Option ((Unit) × (List Int) × Unit) :=
  (loopV (slices_siftDownOrdered_int_L1 a1 a2) (((), (a0, ())), (a3, ()))).bind fun o5 =>
  match o5 with
  | .inl o6 =>
    some ((), (o6.2.1, ()))
  | .inr o7 =>
    some ((), (o7.2.1, ()))

def slices_heapSortOrdered_int_L1 (c6 : Int) (c8 : Int) (v : (Unit × Int × Unit) × (List Int) × Unit) : Option (((Unit × Int × Unit) × (List Int) × Unit) ⊕ ((Unit × Unit) × (List Int) × Unit)) :=
  bif (decide ((0 : Int) ≤ v.1.2.1)) then
    (slices_siftDownOrdered_int v.1.2.1 c8 c6 v.2.1).bind fun r2002 =>
    some (.inl (((), ((IntKind.i64.wrap (v.1.2.1 - (1 : Int))), ())), (r2002.2.1, ())))
  else
    some (.inr (((), ()), (v.2.1, ())))

def slices_heapSortOrdered_int_L2 (c6 : Int) (c7 : Int) (v : (Unit × Int × Unit) × (List Int) × Unit) : Option (((Unit × Int × Unit) × (List Int) × Unit) ⊕ ((Unit) × (List Int) × Unit)) :=
  bif (decide ((0 : Int) ≤ v.1.2.1)) then
    let x3002 := (IntKind.i64.wrap (c6 + v.1.2.1))
    let x3003 := (IntKind.i64.wrap (c6 + v.1.2.1))
    bif (inb x3003 (List.length v.2.1)) then
      (v.2.1[(Int.toNat x3003)]?).bind fun e3004 =>
      bif (inb c6 (List.length v.2.1)) then
        (v.2.1[(Int.toNat c6)]?).bind fun e3005 =>
        bif (inb c6 (List.length v.2.1)) then
          (v.2.1[(Int.toNat c6)]?).bind fun e3006 =>
          let x3007 := (v.2.1.set (Int.toNat c6) e3004)
          bif (inb x3002 (List.length x3007)) then
            (x3007[(Int.toNat x3002)]?).bind fun e3008 =>
            (slices_siftDownOrdered_int c7 v.1.2.1 c6 (x3007.set (Int.toNat x3002) e3005)).bind fun r3010 =>
            some (.inl (((), ((IntKind.i64.wrap (v.1.2.1 - (1 : Int))), ())), (r3010.2.1, ())))
          else
            none
        else
          none
      else
        none
    else
      none
  else
    some (.inr ((), (v.2.1, ())))

/-- slices.heapSortOrdered[int] -/
def slices_heapSortOrdered_int (a0 : Int) (a1 : Int) (a2 : List Int) : Option ((Unit) × (List Int) × Unit) :=
  let x4 := (IntKind.i64.wrap (a1 - a0))
  (loopV (slices_heapSortOrdered_int_L1 a0 x4) (((), ((IntKind.i64.wrap (Int.tdiv (IntKind.i64.wrap (x4 - (1 : Int))) (2 : Int))), ())), (a2, ()))).bind fun o7 =>
  (loopV (slices_heapSortOrdered_int_L2 a0 (0 : Int)) (((), ((IntKind.i64.wrap (x4 - (1 : Int))), ())), (o7.2.1, ()))).bind fun o9 =>
  some ((), (o9.2.1, ()))

/-- slices.nextPowerOfTwo -/
def slices_nextPowerOfTwo (a0 : Int) : Option ((Int × Unit) × Unit) :=
  (math_bits_Len (IntKind.u64.wrap (a0))).bind fun r3 =>
  bif (decide (r3.1.1 < 0)) then
    none
  else
    some (((shlI .u64 (1 : Int) r3.1.1), ()), ())

/-- (*slices.xorshift).Next -/
def slices_xorshift_Next (a0 : Int) : Option ((Int × Unit) × Int × Unit) :=
  let x3 := (bitI .xor .u64 a0 (shlI .u64 a0 (13 : Int)))
  let x5 := (bitI .xor .u64 x3 (shrI .u64 x3 (7 : Int)))
  let x7 := (bitI .xor .u64 x5 (shlI .u64 x5 (17 : Int)))
  some ((x7, ()), (x7, ()))

def slices_breakPatternsOrdered_int_J2 (c6 : Int) (v : (Unit × Unit × Int × Unit) × (List Int) × Int × Unit) : Option ((Unit × Unit × Int × Unit) × (List Int) × Int × Unit) :=
  bif (decide (c6 ≤ v.1.2.2.1)) then
    some (((), ((), ((IntKind.i64.wrap (v.1.2.2.1 - c6)), ()))), (v.2.1, (v.2.2.1, ())))
  else
    some (((), ((), (v.1.2.2.1, ()))), (v.2.1, (v.2.2.1, ())))

def slices_breakPatternsOrdered_int_L1 (c1 : Int) (c6 : Int) (c8 : Int) (v : (Unit × Unit × Int × Unit) × (List Int) × Int × Unit) : Option (((Unit × Unit × Int × Unit) × (List Int) × Int × Unit) ⊕ ((Unit) × (List Int) × Unit)) :=
  bif (decide (v.1.2.2.1 ≤ (IntKind.i64.wrap ((IntKind.i64.wrap (c1 + (IntKind.i64.wrap ((IntKind.i64.wrap (Int.tdiv c6 (4 : Int))) * (2 : Int))))) + (1 : Int))))) then
    (slices_xorshift_Next v.2.2.1).bind fun r2006 =>
    (slices_breakPatternsOrdered_int_J2 c6 (((), ((), ((IntKind.i64.wrap ((bitI .and .u64 r2006.1.1 (IntKind.u64.wrap (c8 - (1 : Int)))))), ()))), (v.2.1, (r2006.2.1, ())))).bind fun o2010 =>
    let x2011 := (IntKind.i64.wrap (c1 + o2010.1.2.2.1))
    let x2012 := (IntKind.i64.wrap (c1 + o2010.1.2.2.1))
    bif (inb x2012 (List.length o2010.2.1)) then
      (o2010.2.1[(Int.toNat x2012)]?).bind fun e2013 =>
      bif (inb v.1.2.2.1 (List.length o2010.2.1)) then
        (o2010.2.1[(Int.toNat v.1.2.2.1)]?).bind fun e2014 =>
        bif (inb v.1.2.2.1 (List.length o2010.2.1)) then
          (o2010.2.1[(Int.toNat v.1.2.2.1)]?).bind fun e2015 =>
          let x2016 := (o2010.2.1.set (Int.toNat v.1.2.2.1) e2013)
          bif (inb x2011 (List.length x2016)) then
            (x2016[(Int.toNat x2011)]?).bind fun e2017 =>
            some (.inl (((), ((), ((IntKind.i64.wrap (v.1.2.2.1 + (1 : Int))), ()))), ((x2016.set (Int.toNat x2011) e2014), (o2010.2.2.1, ()))))
          else
            none
        else
          none
      else
        none
    else
      none
  else
    some (.inr ((), (v.2.1, ())))

/-- slices.breakPatternsOrdered[int] -/
def slices_breakPatternsOrdered_int (a0 : Int) (a1 : Int) (a2 : List Int) : Option ((Unit) × (List Int) × Unit) :=
  let x4 := (IntKind.i64.wrap (a1 - a0))
  bif (decide ((8 : Int) ≤ x4)) then
    (slices_nextPowerOfTwo x4).bind fun r7 =>
    (loopV (slices_breakPatternsOrdered_int_L1 a0 x4 r7.1.1) (((), ((), ((IntKind.i64.wrap ((IntKind.i64.wrap (a0 + (IntKind.i64.wrap ((IntKind.i64.wrap (Int.tdiv x4 (4 : Int))) * (2 : Int))))) - (1 : Int))), ()))), (a2, ((IntKind.u64.wrap (x4)), ())))).bind fun o12 =>
    some ((), (o12.2.1, ()))
  else
    some ((), (a2, ()))

/-- slices.order2Ordered[int] -/
def slices_order2Ordered_int (a0 : List Int) (a1 : Int) (a2 : Int) (a3 : Int) : Option ((Int × Int × Unit) × Int × Unit) :=
  bif (inb a2 (List.length a0)) then
    bif (inb a1 (List.length a0)) then
      (cmp_Less_int (rd (.int .i64) a0 a2) (rd (.int .i64) a0 a1)).bind fun r7 =>
      bif r7.1.1 then
        some ((a2, (a1, ())), ((IntKind.i64.wrap (a3 + (1 : Int))), ()))
      else
        some ((a1, (a2, ())), (a3, ()))
    else
      none
  else
    none

/-- slices.medianOrdered[int] -/
def slices_medianOrdered_int (a0 : List Int) (a1 : Int) (a2 : Int) (a3 : Int) (a4 : Int) : Option ((Int × Unit) × Int × Unit) :=
  (slices_order2Ordered_int a0 a1 a2 a4).bind fun r6 =>
  (slices_order2Ordered_int a0 r6.1.2.1 a3 r6.2.1).bind fun r7 =>
  (slices_order2Ordered_int a0 r6.1.1 r7.1.1 r7.2.1).bind fun r8 =>
  some ((r8.1.2.1, ()), (r8.2.1, ()))

/-- slices.medianAdjacentOrdered[int] -/
def slices_medianAdjacentOrdered_int (a0 : List Int) (a1 : Int) (a2 : Int) : Option ((Int × Unit) × Int × Unit) :=
  (slices_medianOrdered_int a0 (IntKind.i64.wrap (a1 - (1 : Int))) a1 (IntKind.i64.wrap (a1 + (1 : Int))) a2).bind fun r6 =>
  some ((r6.1.1, ()), (r6.2.1, ()))

def slices_choosePivotOrdered_int_J2 (c0 : List Int) (c8 : Int) (v : (Unit × Int × Int × Int × Unit) × Int × Unit) : Option ((Unit × Int × Int × Int × Unit) × Int × Unit) :=
  bif (decide ((50 : Int) ≤ c8)) then
    (slices_medianAdjacentOrdered_int c0 v.1.2.1 v.2.1).bind fun r3002 =>
    (slices_medianAdjacentOrdered_int c0 v.1.2.2.1 r3002.2.1).bind fun r3003 =>
    (slices_medianAdjacentOrdered_int c0 v.1.2.2.2.1 r3003.2.1).bind fun r3004 =>
    some (((), (r3002.1.1, (r3003.1.1, (r3004.1.1, ())))), (r3004.2.1, ()))
  else
    some (((), (v.1.2.1, (v.1.2.2.1, (v.1.2.2.2.1, ())))), (v.2.1, ()))

def slices_choosePivotOrdered_int_J1 (c0 : List Int) (c8 : Int) (v : (Unit × Int × Int × Int × Unit) × Int × Unit) : Option ((Unit × Int × Unit) × Int × Unit) :=
  bif (decide ((8 : Int) ≤ c8)) then
    (slices_choosePivotOrdered_int_J2 c0 c8 (((), (v.1.2.1, (v.1.2.2.1, (v.1.2.2.2.1, ())))), (v.2.1, ()))).bind fun o2002 =>
    (slices_medianOrdered_int c0 o2002.1.2.1 o2002.1.2.2.1 o2002.1.2.2.2.1 o2002.2.1).bind fun r2003 =>
    some (((), (r2003.1.1, ())), (r2003.2.1, ()))
  else
    some (((), (v.1.2.2.1, ())), (v.2.1, ()))

/-- slices.choosePivotOrdered[int] -/
def slices_choosePivotOrdered_int (a0 : List Int) (a1 : Int) (a2 : Int) : Option ((Int × Int × Unit) × Unit) :=
  let x4 := (IntKind.i64.wrap (a2 - a1))
  (slices_choosePivotOrdered_int_J1 a0 x4 (((), ((IntKind.i64.wrap (a1 + (IntKind.i64.wrap ((IntKind.i64.wrap (Int.tdiv x4 (4 : Int))) * (1 : Int))))), ((IntKind.i64.wrap (a1 + (IntKind.i64.wrap ((IntKind.i64.wrap (Int.tdiv x4 (4 : Int))) * (2 : Int))))), ((IntKind.i64.wrap (a1 + (IntKind.i64.wrap ((IntKind.i64.wrap (Int.tdiv x4 (4 : Int))) * (3 : Int))))), ())))), ((0 : Int), ()))).bind fun o14 =>
  bif (decide (o14.2.1 = (0 : Int))) then
    some ((o14.1.2.1, ((1 : Int), ())), ())
  else
    bif (decide (o14.2.1 = (12 : Int))) then
      some ((o14.1.2.1, ((2 : Int), ())), ())
    else
      some ((o14.1.2.1, ((0 : Int), ())), ())

def slices_reverseRangeOrdered_int_L1 (v : (Unit × Int × Int × Unit) × (List Int) × Unit) : Option (((Unit × Int × Int × Unit) × (List Int) × Unit) ⊕ ((Unit) × (List Int) × Unit)) :=
  bif (decide (v.1.2.1 < v.1.2.2.1)) then
    bif (inb v.1.2.2.1 (List.length v.2.1)) then
      (v.2.1[(Int.toNat v.1.2.2.1)]?).bind fun e2002 =>
      bif (inb v.1.2.1 (List.length v.2.1)) then
        (v.2.1[(Int.toNat v.1.2.1)]?).bind fun e2003 =>
        bif (inb v.1.2.1 (List.length v.2.1)) then
          (v.2.1[(Int.toNat v.1.2.1)]?).bind fun e2004 =>
          let x2005 := (v.2.1.set (Int.toNat v.1.2.1) e2002)
          bif (inb v.1.2.2.1 (List.length x2005)) then
            (x2005[(Int.toNat v.1.2.2.1)]?).bind fun e2006 =>
            some (.inl (((), ((IntKind.i64.wrap (v.1.2.1 + (1 : Int))), ((IntKind.i64.wrap (v.1.2.2.1 - (1 : Int))), ()))), ((x2005.set (Int.toNat v.1.2.2.1) e2003), ())))
          else
            none
        else
          none
      else
        none
    else
      none
  else
    some (.inr ((), (v.2.1, ())))

/-- slices.reverseRangeOrdered[int] -/
def slices_reverseRangeOrdered_int (a0 : Int) (a1 : Int) (a2 : List Int) : Option ((Unit) × (List Int) × Unit) :=
  (loopV (slices_reverseRangeOrdered_int_L1) (((), (a0, ((IntKind.i64.wrap (a1 - (1 : Int))), ()))), (a2, ()))).bind fun o5 =>
  some ((), (o5.2.1, ()))

def slices_partialInsertionSortOrdered_int_L4 (v : (Unit × Int × Unit) × (List Int) × Unit) : Option (((Unit × Int × Unit) × (List Int) × Unit) ⊕ ((Unit × Unit) × (List Int) × Unit)) :=
  bif (decide ((1 : Int) ≤ v.1.2.1)) then
    bif (inb v.1.2.1 (List.length v.2.1)) then
      (v.2.1[(Int.toNat v.1.2.1)]?).bind fun e5002 =>
      let x5003 := (IntKind.i64.wrap (v.1.2.1 - (1 : Int)))
      bif (inb x5003 (List.length v.2.1)) then
        (v.2.1[(Int.toNat x5003)]?).bind fun e5004 =>
        (cmp_Less_int e5002 e5004).bind fun r5005 =>
        bif (!r5005.1.1) then
          some (.inr (((), ()), (v.2.1, ())))
        else
          let x5007 := (IntKind.i64.wrap (v.1.2.1 - (1 : Int)))
          let x5008 := (IntKind.i64.wrap (v.1.2.1 - (1 : Int)))
          bif (inb x5008 (List.length v.2.1)) then
            (v.2.1[(Int.toNat x5008)]?).bind fun e5009 =>
            bif (inb v.1.2.1 (List.length v.2.1)) then
              (v.2.1[(Int.toNat v.1.2.1)]?).bind fun e5010 =>
              bif (inb v.1.2.1 (List.length v.2.1)) then
                (v.2.1[(Int.toNat v.1.2.1)]?).bind fun e5011 =>
                let x5012 := (v.2.1.set (Int.toNat v.1.2.1) e5009)
                bif (inb x5007 (List.length x5012)) then
                  (x5012[(Int.toNat x5007)]?).bind fun e5013 =>
                  some (.inl (((), ((IntKind.i64.wrap (v.1.2.1 - (1 : Int))), ())), ((x5012.set (Int.toNat x5007) e5010), ())))
                else
                  none
              else
                none
            else
              none
          else
            none
      else
        none
    else
      none
  else
    some (.inr (((), ()), (v.2.1, ())))

def slices_partialInsertionSortOrdered_int_J3 (c1 : Int) (c7 : Int) (v : (Unit × Unit) × (List Int) × Unit) : Option ((Unit × Unit) × (List Int) × Unit) :=
  bif (decide ((2 : Int) ≤ (IntKind.i64.wrap (c7 - c1)))) then
    (loopV (slices_partialInsertionSortOrdered_int_L4) (((), ((IntKind.i64.wrap (c7 - (1 : Int))), ())), (v.2.1, ()))).bind fun o4004 =>
    some (((), ()), (o4004.2.1, ()))
  else
    some (((), ()), (v.2.1, ()))

def slices_partialInsertionSortOrdered_int_L2 (c2 : Int) (v : (Unit × Int × Unit) × (List Int) × Unit) : Option (((Unit × Int × Unit) × (List Int) × Unit) ⊕ ((Unit × Int × Unit) × (List Int) × Unit)) :=
  bif (decide (v.1.2.1 < c2)) then
    bif (inb v.1.2.1 (List.length v.2.1)) then
      (v.2.1[(Int.toNat v.1.2.1)]?).bind fun e3002 =>
      let x3003 := (IntKind.i64.wrap (v.1.2.1 - (1 : Int)))
      bif (inb x3003 (List.length v.2.1)) then
        (v.2.1[(Int.toNat x3003)]?).bind fun e3004 =>
        (cmp_Less_int e3002 e3004).bind fun r3005 =>
        bif (!r3005.1.1) then
          some (.inl (((), ((IntKind.i64.wrap (v.1.2.1 + (1 : Int))), ())), (v.2.1, ())))
        else
          some (.inr (((), (v.1.2.1, ())), (v.2.1, ())))
      else
        none
    else
      none
  else
    some (.inr (((), (v.1.2.1, ())), (v.2.1, ())))

def slices_partialInsertionSortOrdered_int_L5 (c2 : Int) (v : (Unit × Int × Unit) × (List Int) × Unit) : Option (((Unit × Int × Unit) × (List Int) × Unit) ⊕ ((Unit × Unit) × (List Int) × Unit)) :=
  bif (decide (v.1.2.1 < c2)) then
    bif (inb v.1.2.1 (List.length v.2.1)) then
      (v.2.1[(Int.toNat v.1.2.1)]?).bind fun e6002 =>
      let x6003 := (IntKind.i64.wrap (v.1.2.1 - (1 : Int)))
      bif (inb x6003 (List.length v.2.1)) then
        (v.2.1[(Int.toNat x6003)]?).bind fun e6004 =>
        (cmp_Less_int e6002 e6004).bind fun r6005 =>
        bif (!r6005.1.1) then
          some (.inr (((), ()), (v.2.1, ())))
        else
          let x6007 := (IntKind.i64.wrap (v.1.2.1 - (1 : Int)))
          let x6008 := (IntKind.i64.wrap (v.1.2.1 - (1 : Int)))
          bif (inb x6008 (List.length v.2.1)) then
            (v.2.1[(Int.toNat x6008)]?).bind fun e6009 =>
            bif (inb v.1.2.1 (List.length v.2.1)) then
              (v.2.1[(Int.toNat v.1.2.1)]?).bind fun e6010 =>
              bif (inb v.1.2.1 (List.length v.2.1)) then
                (v.2.1[(Int.toNat v.1.2.1)]?).bind fun e6011 =>
                let x6012 := (v.2.1.set (Int.toNat v.1.2.1) e6009)
                bif (inb x6007 (List.length x6012)) then
                  (x6012[(Int.toNat x6007)]?).bind fun e6013 =>
                  some (.inl (((), ((IntKind.i64.wrap (v.1.2.1 + (1 : Int))), ())), ((x6012.set (Int.toNat x6007) e6010), ())))
                else
                  none
              else
                none
            else
              none
          else
            none
      else
        none
    else
      none
  else
    some (.inr (((), ()), (v.2.1, ())))

def slices_partialInsertionSortOrdered_int_L1 (c1 : Int) (c2 : Int) (v : (Unit × Int × Int × Unit) × (List Int) × Unit) : Option (((Unit × Int × Int × Unit) × (List Int) × Unit) ⊕ (((Bool × Unit) × (List Int) × Unit) ⊕ ((Unit) × (List Int) × Unit))) :=
  bif (decide (v.1.2.2.1 < (5 : Int))) then
    (loopV (slices_partialInsertionSortOrdered_int_L2 c2) (((), (v.1.2.1, ())), (v.2.1, ()))).bind fun o2002 =>
    bif (decide (o2002.1.2.1 = c2)) then
      some (.inr (.inl ((true, ()), (o2002.2.1, ()))))
    else
      bif (decide ((IntKind.i64.wrap (c2 - c1)) < (50 : Int))) then
        some (.inr (.inl ((false, ()), (o2002.2.1, ()))))
      else
        let x2006 := (IntKind.i64.wrap (o2002.1.2.1 - (1 : Int)))
        let x2007 := (IntKind.i64.wrap (o2002.1.2.1 - (1 : Int)))
        bif (inb x2007 (List.length o2002.2.1)) then
          (o2002.2.1[(Int.toNat x2007)]?).bind fun e2008 =>
          bif (inb o2002.1.2.1 (List.length o2002.2.1)) then
            (o2002.2.1[(Int.toNat o2002.1.2.1)]?).bind fun e2009 =>
            bif (inb o2002.1.2.1 (List.length o2002.2.1)) then
              (o2002.2.1[(Int.toNat o2002.1.2.1)]?).bind fun e2010 =>
              let x2011 := (o2002.2.1.set (Int.toNat o2002.1.2.1) e2008)
              bif (inb x2006 (List.length x2011)) then
                (x2011[(Int.toNat x2006)]?).bind fun e2012 =>
                (slices_partialInsertionSortOrdered_int_J3 c1 o2002.1.2.1 (((), ()), ((x2011.set (Int.toNat x2006) e2009), ()))).bind fun o2014 =>
                bif (decide ((2 : Int) ≤ (IntKind.i64.wrap (c2 - o2002.1.2.1)))) then
                  (loopV (slices_partialInsertionSortOrdered_int_L5 c2) (((), ((IntKind.i64.wrap (o2002.1.2.1 + (1 : Int))), ())), (o2014.2.1, ()))).bind fun o2018 =>
                  some (.inl (((), (o2002.1.2.1, ((IntKind.i64.wrap (v.1.2.2.1 + (1 : Int))), ()))), (o2018.2.1, ())))
                else
                  some (.inl (((), (o2002.1.2.1, ((IntKind.i64.wrap (v.1.2.2.1 + (1 : Int))), ()))), (o2014.2.1, ())))
              else
                none
            else
              none
          else
            none
        else
          none
  else
    some (.inr (.inr ((), (v.2.1, ()))))

/-- slices.partialInsertionSortOrdered[int] -/
def slices_partialInsertionSortOrdered_int (a0 : Int) (a1 : Int) (a2 : List Int) : Option ((Bool × Unit) × (List Int) × Unit) :=
  (loopV (slices_partialInsertionSortOrdered_int_L1 a0 a1) (((), ((IntKind.i64.wrap (a0 + (1 : Int))), ((0 : Int), ()))), (a2, ()))).bind fun o5 =>
  match o5 with
  | .inl o6 =>
    some ((o6.1.1, ()), (o6.2.1, ()))
  | .inr o7 =>
    some ((false, ()), (o7.2.1, ()))

def slices_partitionEqualOrdered_int_L2 (c1 : Int) (c10 : Int) (v : (Unit × Int × Unit) × (List Int) × Unit) : Option (((Unit × Int × Unit) × (List Int) × Unit) ⊕ ((Unit × Int × Unit) × (List Int) × Unit)) :=
  bif (decide (v.1.2.1 ≤ c10)) then
    bif (inb c1 (List.length v.2.1)) then
      (v.2.1[(Int.toNat c1)]?).bind fun e3002 =>
      bif (inb v.1.2.1 (List.length v.2.1)) then
        (v.2.1[(Int.toNat v.1.2.1)]?).bind fun e3003 =>
        (cmp_Less_int e3002 e3003).bind fun r3004 =>
        bif (!r3004.1.1) then
          some (.inl (((), ((IntKind.i64.wrap (v.1.2.1 + (1 : Int))), ())), (v.2.1, ())))
        else
          some (.inr (((), (v.1.2.1, ())), (v.2.1, ())))
      else
        none
    else
      none
  else
    some (.inr (((), (v.1.2.1, ())), (v.2.1, ())))

def slices_partitionEqualOrdered_int_L3 (c1 : Int) (c9 : Int) (v : (Unit × Int × Unit) × (List Int) × Unit) : Option (((Unit × Int × Unit) × (List Int) × Unit) ⊕ ((Unit × Int × Unit) × (List Int) × Unit)) :=
  bif (decide (c9 ≤ v.1.2.1)) then
    bif (inb c1 (List.length v.2.1)) then
      (v.2.1[(Int.toNat c1)]?).bind fun e4002 =>
      bif (inb v.1.2.1 (List.length v.2.1)) then
        (v.2.1[(Int.toNat v.1.2.1)]?).bind fun e4003 =>
        (cmp_Less_int e4002 e4003).bind fun r4004 =>
        bif r4004.1.1 then
          some (.inl (((), ((IntKind.i64.wrap (v.1.2.1 - (1 : Int))), ())), (v.2.1, ())))
        else
          some (.inr (((), (v.1.2.1, ())), (v.2.1, ())))
      else
        none
    else
      none
  else
    some (.inr (((), (v.1.2.1, ())), (v.2.1, ())))

def slices_partitionEqualOrdered_int_L1 (c1 : Int) (v : (Unit × Int × Int × Unit) × (List Int) × Unit) : Option (((Unit × Int × Int × Unit) × (List Int) × Unit) ⊕ ((Int × Unit) × (List Int) × Unit)) :=
  (loopV (slices_partitionEqualOrdered_int_L2 c1 v.1.2.2.1) (((), (v.1.2.1, ())), (v.2.1, ()))).bind fun o2001 =>
  (loopV (slices_partitionEqualOrdered_int_L3 c1 o2001.1.2.1) (((), (v.1.2.2.1, ())), (o2001.2.1, ()))).bind fun o2002 =>
  bif (decide (o2002.1.2.1 < o2001.1.2.1)) then
    some (.inr ((o2001.1.2.1, ()), (o2002.2.1, ())))
  else
    bif (inb o2002.1.2.1 (List.length o2002.2.1)) then
      (o2002.2.1[(Int.toNat o2002.1.2.1)]?).bind fun e2004 =>
      bif (inb o2001.1.2.1 (List.length o2002.2.1)) then
        (o2002.2.1[(Int.toNat o2001.1.2.1)]?).bind fun e2005 =>
        bif (inb o2001.1.2.1 (List.length o2002.2.1)) then
          (o2002.2.1[(Int.toNat o2001.1.2.1)]?).bind fun e2006 =>
          let x2007 := (o2002.2.1.set (Int.toNat o2001.1.2.1) e2004)
          bif (inb o2002.1.2.1 (List.length x2007)) then
            (x2007[(Int.toNat o2002.1.2.1)]?).bind fun e2008 =>
            some (.inl (((), ((IntKind.i64.wrap (o2001.1.2.1 + (1 : Int))), ((IntKind.i64.wrap (o2002.1.2.1 - (1 : Int))), ()))), ((x2007.set (Int.toNat o2002.1.2.1) e2005), ())))
          else
            none
        else
          none
      else
        none
    else
      none

/-- slices.partitionEqualOrdered[int] -/
def slices_partitionEqualOrdered_int (a0 : Int) (a1 : Int) (a2 : Int) (a3 : List Int) : Option ((Int × Unit) × (List Int) × Unit) :=
  bif (inb a2 (List.length a3)) then
    (a3[(Int.toNat a2)]?).bind fun e5 =>
    bif (inb a0 (List.length a3)) then
      (a3[(Int.toNat a0)]?).bind fun e6 =>
      bif (inb a0 (List.length a3)) then
        (a3[(Int.toNat a0)]?).bind fun e7 =>
        let x8 := (a3.set (Int.toNat a0) e5)
        bif (inb a2 (List.length x8)) then
          (x8[(Int.toNat a2)]?).bind fun e9 =>
          (loopV (slices_partitionEqualOrdered_int_L1 a0) (((), ((IntKind.i64.wrap (a0 + (1 : Int))), ((IntKind.i64.wrap (a1 - (1 : Int))), ()))), ((x8.set (Int.toNat a2) e6), ()))).bind fun o13 =>
          some ((o13.1.1, ()), (o13.2.1, ()))
        else
          none
      else
        none
    else
      none
  else
    none

def slices_partitionOrdered_int_L1 (c1 : Int) (c11 : Int) (v : (Unit × Int × Unit) × (List Int) × Unit) : Option (((Unit × Int × Unit) × (List Int) × Unit) ⊕ ((Unit × Int × Unit) × (List Int) × Unit)) :=
  bif (decide (v.1.2.1 ≤ c11)) then
    bif (inb v.1.2.1 (List.length v.2.1)) then
      (v.2.1[(Int.toNat v.1.2.1)]?).bind fun e2002 =>
      bif (inb c1 (List.length v.2.1)) then
        (v.2.1[(Int.toNat c1)]?).bind fun e2003 =>
        (cmp_Less_int e2002 e2003).bind fun r2004 =>
        bif r2004.1.1 then
          some (.inl (((), ((IntKind.i64.wrap (v.1.2.1 + (1 : Int))), ())), (v.2.1, ())))
        else
          some (.inr (((), (v.1.2.1, ())), (v.2.1, ())))
      else
        none
    else
      none
  else
    some (.inr (((), (v.1.2.1, ())), (v.2.1, ())))

def slices_partitionOrdered_int_L2 (c1 : Int) (c10 : Int) (v : (Unit × Int × Unit) × (List Int) × Unit) : Option (((Unit × Int × Unit) × (List Int) × Unit) ⊕ ((Unit × Int × Unit) × (List Int) × Unit)) :=
  bif (decide (c10 ≤ v.1.2.1)) then
    bif (inb v.1.2.1 (List.length v.2.1)) then
      (v.2.1[(Int.toNat v.1.2.1)]?).bind fun e3002 =>
      bif (inb c1 (List.length v.2.1)) then
        (v.2.1[(Int.toNat c1)]?).bind fun e3003 =>
        (cmp_Less_int e3002 e3003).bind fun r3004 =>
        bif (!r3004.1.1) then
          some (.inl (((), ((IntKind.i64.wrap (v.1.2.1 - (1 : Int))), ())), (v.2.1, ())))
        else
          some (.inr (((), (v.1.2.1, ())), (v.2.1, ())))
      else
        none
    else
      none
  else
    some (.inr (((), (v.1.2.1, ())), (v.2.1, ())))

def slices_partitionOrdered_int_L4 (c1 : Int) (c11 : Int) (v : (Unit × Int × Unit) × (List Int) × Unit) : Option (((Unit × Int × Unit) × (List Int) × Unit) ⊕ ((Unit × Int × Unit) × (List Int) × Unit)) :=
  bif (decide (v.1.2.1 ≤ c11)) then
    bif (inb v.1.2.1 (List.length v.2.1)) then
      (v.2.1[(Int.toNat v.1.2.1)]?).bind fun e5002 =>
      bif (inb c1 (List.length v.2.1)) then
        (v.2.1[(Int.toNat c1)]?).bind fun e5003 =>
        (cmp_Less_int e5002 e5003).bind fun r5004 =>
        bif r5004.1.1 then
          some (.inl (((), ((IntKind.i64.wrap (v.1.2.1 + (1 : Int))), ())), (v.2.1, ())))
        else
          some (.inr (((), (v.1.2.1, ())), (v.2.1, ())))
      else
        none
    else
      none
  else
    some (.inr (((), (v.1.2.1, ())), (v.2.1, ())))

def slices_partitionOrdered_int_L5 (c1 : Int) (c10 : Int) (v : (Unit × Int × Unit) × (List Int) × Unit) : Option (((Unit × Int × Unit) × (List Int) × Unit) ⊕ ((Unit × Int × Unit) × (List Int) × Unit)) :=
  bif (decide (c10 ≤ v.1.2.1)) then
    bif (inb v.1.2.1 (List.length v.2.1)) then
      (v.2.1[(Int.toNat v.1.2.1)]?).bind fun e6002 =>
      bif (inb c1 (List.length v.2.1)) then
        (v.2.1[(Int.toNat c1)]?).bind fun e6003 =>
        (cmp_Less_int e6002 e6003).bind fun r6004 =>
        bif (!r6004.1.1) then
          some (.inl (((), ((IntKind.i64.wrap (v.1.2.1 - (1 : Int))), ())), (v.2.1, ())))
        else
          some (.inr (((), (v.1.2.1, ())), (v.2.1, ())))
      else
        none
    else
      none
  else
    some (.inr (((), (v.1.2.1, ())), (v.2.1, ())))

def slices_partitionOrdered_int_L3 (c1 : Int) (v : (Unit × Int × Int × Unit) × (List Int) × Unit) : Option (((Unit × Int × Int × Unit) × (List Int) × Unit) ⊕ ((Unit × Int × Unit) × (List Int) × Unit)) :=
  (loopV (slices_partitionOrdered_int_L4 c1 v.1.2.2.1) (((), (v.1.2.1, ())), (v.2.1, ()))).bind fun o4001 =>
  (loopV (slices_partitionOrdered_int_L5 c1 o4001.1.2.1) (((), (v.1.2.2.1, ())), (o4001.2.1, ()))).bind fun o4002 =>
  bif (decide (o4002.1.2.1 < o4001.1.2.1)) then
    some (.inr (((), (o4002.1.2.1, ())), (o4002.2.1, ())))
  else
    bif (inb o4002.1.2.1 (List.length o4002.2.1)) then
      (o4002.2.1[(Int.toNat o4002.1.2.1)]?).bind fun e4004 =>
      bif (inb o4001.1.2.1 (List.length o4002.2.1)) then
        (o4002.2.1[(Int.toNat o4001.1.2.1)]?).bind fun e4005 =>
        bif (inb o4001.1.2.1 (List.length o4002.2.1)) then
          (o4002.2.1[(Int.toNat o4001.1.2.1)]?).bind fun e4006 =>
          let x4007 := (o4002.2.1.set (Int.toNat o4001.1.2.1) e4004)
          bif (inb o4002.1.2.1 (List.length x4007)) then
            (x4007[(Int.toNat o4002.1.2.1)]?).bind fun e4008 =>
            some (.inl (((), ((IntKind.i64.wrap (o4001.1.2.1 + (1 : Int))), ((IntKind.i64.wrap (o4002.1.2.1 - (1 : Int))), ()))), ((x4007.set (Int.toNat o4002.1.2.1) e4005), ())))
          else
            none
        else
          none
      else
        none
    else
      none

/-- slices.partitionOrdered[int] -/
def slices_partitionOrdered_int (a0 : Int) (a1 : Int) (a2 : Int) (a3 : List Int) : Option ((Int × Bool × Unit) × (List Int) × Unit) :=
  bif (inb a2 (List.length a3)) then
    (a3[(Int.toNat a2)]?).bind fun e5 =>
    bif (inb a0 (List.length a3)) then
      (a3[(Int.toNat a0)]?).bind fun e6 =>
      bif (inb a0 (List.length a3)) then
        (a3[(Int.toNat a0)]?).bind fun e7 =>
        let x8 := (a3.set (Int.toNat a0) e5)
        bif (inb a2 (List.length x8)) then
          (x8[(Int.toNat a2)]?).bind fun e9 =>
          let x12 := (IntKind.i64.wrap (a1 - (1 : Int)))
          (loopV (slices_partitionOrdered_int_L1 a0 x12) (((), ((IntKind.i64.wrap (a0 + (1 : Int))), ())), ((x8.set (Int.toNat a2) e6), ()))).bind fun o13 =>
          (loopV (slices_partitionOrdered_int_L2 a0 o13.1.2.1) (((), (x12, ())), (o13.2.1, ()))).bind fun o14 =>
          bif (decide (o14.1.2.1 < o13.1.2.1)) then
            bif (inb a0 (List.length o14.2.1)) then
              (o14.2.1[(Int.toNat a0)]?).bind fun e16 =>
              bif (inb o14.1.2.1 (List.length o14.2.1)) then
                (o14.2.1[(Int.toNat o14.1.2.1)]?).bind fun e17 =>
                bif (inb o14.1.2.1 (List.length o14.2.1)) then
                  (o14.2.1[(Int.toNat o14.1.2.1)]?).bind fun e18 =>
                  let x19 := (o14.2.1.set (Int.toNat o14.1.2.1) e16)
                  bif (inb a0 (List.length x19)) then
                    (x19[(Int.toNat a0)]?).bind fun e20 =>
                    some ((o14.1.2.1, (true, ())), ((x19.set (Int.toNat a0) e17), ()))
                  else
                    none
                else
                  none
              else
                none
            else
              none
          else
            bif (inb o14.1.2.1 (List.length o14.2.1)) then
              (o14.2.1[(Int.toNat o14.1.2.1)]?).bind fun e22 =>
              bif (inb o13.1.2.1 (List.length o14.2.1)) then
                (o14.2.1[(Int.toNat o13.1.2.1)]?).bind fun e23 =>
                bif (inb o13.1.2.1 (List.length o14.2.1)) then
                  (o14.2.1[(Int.toNat o13.1.2.1)]?).bind fun e24 =>
                  let x25 := (o14.2.1.set (Int.toNat o13.1.2.1) e22)
                  bif (inb o14.1.2.1 (List.length x25)) then
                    (x25[(Int.toNat o14.1.2.1)]?).bind fun e26 =>
                    (loopV (slices_partitionOrdered_int_L3 a0) (((), ((IntKind.i64.wrap (o13.1.2.1 + (1 : Int))), ((IntKind.i64.wrap (o14.1.2.1 - (1 : Int))), ()))), ((x25.set (Int.toNat o14.1.2.1) e23), ()))).bind fun o30 =>
                    bif (inb a0 (List.length o30.2.1)) then
                      (o30.2.1[(Int.toNat a0)]?).bind fun e31 =>
                      bif (inb o30.1.2.1 (List.length o30.2.1)) then
                        (o30.2.1[(Int.toNat o30.1.2.1)]?).bind fun e32 =>
                        bif (inb o30.1.2.1 (List.length o30.2.1)) then
                          (o30.2.1[(Int.toNat o30.1.2.1)]?).bind fun e33 =>
                          let x34 := (o30.2.1.set (Int.toNat o30.1.2.1) e31)
                          bif (inb a0 (List.length x34)) then
                            (x34[(Int.toNat a0)]?).bind fun e35 =>
                            some ((o30.1.2.1, (false, ())), ((x34.set (Int.toNat a0) e32), ()))
                          else
                            none
                        else
                          none
                      else
                        none
                    else
                      none
                  else
                    none
                else
                  none
              else
                none
            else
              none
        else
          none
      else
        none
    else
      none
  else
    none

def slices_pdqsortOrdered_int_J2 (self : ((Unit × Int × Int × Int × Unit) × (List Int) × Unit) → Option ((Unit) × (List Int) × Unit)) (c1 : Int) (c2 : Int) (c8 : Bool) (v : (Unit × Int × Unit) × (List Int) × Unit) : Option ((Unit × Int × Unit) × (List Int) × Unit) :=
  bif (!c8) then
    (slices_breakPatternsOrdered_int c1 c2 v.2.1).bind fun r3002 =>
    some (((), ((IntKind.i64.wrap (v.1.2.1 - (1 : Int))), ())), (r3002.2.1, ()))
  else
    some (((), (v.1.2.1, ())), (v.2.1, ()))

def slices_pdqsortOrdered_int_J3 (self : ((Unit × Int × Int × Int × Unit) × (List Int) × Unit) → Option ((Unit) × (List Int) × Unit)) (c1 : Int) (c2 : Int) (v : (Unit × Int × Int × Unit) × (List Int) × Unit) : Option ((Unit × Int × Int × Unit) × (List Int) × Unit) :=
  bif (decide (v.1.2.2.1 = (2 : Int))) then
    (slices_reverseRangeOrdered_int c1 c2 v.2.1).bind fun r4002 =>
    some (((), ((IntKind.i64.wrap ((IntKind.i64.wrap (c2 - (1 : Int))) - (IntKind.i64.wrap (v.1.2.1 - c1)))), ((1 : Int), ()))), (r4002.2.1, ()))
  else
    some (((), (v.1.2.1, (v.1.2.2.1, ()))), (v.2.1, ()))

def slices_pdqsortOrdered_int_J4 (self : ((Unit × Int × Int × Int × Unit) × (List Int) × Unit) → Option ((Unit) × (List Int) × Unit)) (c1 : Int) (c2 : Int) (c8 : Bool) (c9 : Bool) (c12 : Int) (v : (Unit × Unit) × (List Int) × Unit) : Option (((Unit) × (List Int) × Unit) ⊕ ((Unit × Unit) × (List Int) × Unit)) :=
  bif c8 then
    bif c9 then
      bif (decide (c12 = (1 : Int))) then
        (slices_partialInsertionSortOrdered_int c1 c2 v.2.1).bind fun r5002 =>
        bif r5002.1.1 then
          some (.inl ((), (r5002.2.1, ())))
        else
          some (.inr (((), ()), (r5002.2.1, ())))
      else
        some (.inr (((), ()), (v.2.1, ())))
    else
      some (.inr (((), ()), (v.2.1, ())))
  else
    some (.inr (((), ()), (v.2.1, ())))

def slices_pdqsortOrdered_int_J5 (self : ((Unit × Int × Int × Int × Unit) × (List Int) × Unit) → Option ((Unit) × (List Int) × Unit)) (c2 : Int) (c11 : Int) (v : (Unit × Int × Unit) × (List Int) × Unit) : Option (((Unit × Int × Unit) × (List Int) × Unit) ⊕ ((Unit × Int × Unit) × (List Int) × Unit)) :=
  bif (decide ((0 : Int) < v.1.2.1)) then
    let x6002 := (IntKind.i64.wrap (v.1.2.1 - (1 : Int)))
    bif (inb x6002 (List.length v.2.1)) then
      (v.2.1[(Int.toNat x6002)]?).bind fun e6003 =>
      bif (inb c11 (List.length v.2.1)) then
        (v.2.1[(Int.toNat c11)]?).bind fun e6004 =>
        (cmp_Less_int e6003 e6004).bind fun r6005 =>
        bif (!r6005.1.1) then
          (slices_partitionEqualOrdered_int v.1.2.1 c2 c11 v.2.1).bind fun r6007 =>
          some (.inl (((), (r6007.1.1, ())), (r6007.2.1, ())))
        else
          some (.inr (((), (v.1.2.1, ())), (v.2.1, ())))
      else
        none
    else
      none
  else
    some (.inr (((), (v.1.2.1, ())), (v.2.1, ())))

def slices_pdqsortOrdered_int_L1 (self : ((Unit × Int × Int × Int × Unit) × (List Int) × Unit) → Option ((Unit) × (List Int) × Unit)) (v : (Unit × Int × Int × Int × Bool × Bool × Unit) × (List Int) × Unit) : Option (((Unit × Int × Int × Int × Bool × Bool × Unit) × (List Int) × Unit) ⊕ ((Unit) × (List Int) × Unit)) :=
  let x2001 := (IntKind.i64.wrap (v.1.2.2.1 - v.1.2.1))
  bif (decide (x2001 ≤ (12 : Int))) then
    (slices_insertionSortOrdered_int v.1.2.1 v.1.2.2.1 v.2.1).bind fun r2003 =>
    some (.inr ((), (r2003.2.1, ())))
  else
    bif (decide (v.1.2.2.2.1 = (0 : Int))) then
      (slices_heapSortOrdered_int v.1.2.1 v.1.2.2.1 v.2.1).bind fun r2005 =>
      some (.inr ((), (r2005.2.1, ())))
    else
      (slices_pdqsortOrdered_int_J2 self v.1.2.1 v.1.2.2.1 v.1.2.2.2.2.1 (((), (v.1.2.2.2.1, ())), (v.2.1, ()))).bind fun o2006 =>
      (slices_choosePivotOrdered_int o2006.2.1 v.1.2.1 v.1.2.2.1).bind fun r2007 =>
      (slices_pdqsortOrdered_int_J3 self v.1.2.1 v.1.2.2.1 (((), (r2007.1.1, (r2007.1.2.1, ()))), (o2006.2.1, ()))).bind fun o2008 =>
      (slices_pdqsortOrdered_int_J4 self v.1.2.1 v.1.2.2.1 v.1.2.2.2.2.1 v.1.2.2.2.2.2.1 o2008.1.2.2.1 (((), ()), (o2008.2.1, ()))).bind fun o2009 =>
      match o2009 with
      | .inl o2010 =>
        some (.inr ((), (o2010.2.1, ())))
      | .inr o2011 =>
        (slices_pdqsortOrdered_int_J5 self v.1.2.2.1 o2008.1.2.1 (((), (v.1.2.1, ())), (o2011.2.1, ()))).bind fun o2012 =>
        match o2012 with
        | .inl o2013 =>
          some (.inl (((), (o2013.1.2.1, (v.1.2.2.1, (o2006.1.2.1, (v.1.2.2.2.2.1, (v.1.2.2.2.2.2.1, ())))))), (o2013.2.1, ())))
        | .inr o2014 =>
          (slices_partitionOrdered_int o2014.1.2.1 v.1.2.2.1 o2008.1.2.1 o2014.2.1).bind fun r2015 =>
          let x2016 := (IntKind.i64.wrap (r2015.1.1 - o2014.1.2.1))
          let x2017 := (IntKind.i64.wrap (v.1.2.2.1 - r2015.1.1))
          let x2018 := (IntKind.i64.wrap (Int.tdiv x2001 (8 : Int)))
          bif (decide (x2016 < x2017)) then
            (self (((), (o2014.1.2.1, (r2015.1.1, (o2006.1.2.1, ())))), (r2015.2.1, ()))).bind fun r2021 =>
            some (.inl (((), ((IntKind.i64.wrap (r2015.1.1 + (1 : Int))), (v.1.2.2.1, (o2006.1.2.1, ((decide (x2018 ≤ x2016)), (r2015.1.2.1, ())))))), (r2021.2.1, ())))
          else
            (self (((), ((IntKind.i64.wrap (r2015.1.1 + (1 : Int))), (v.1.2.2.1, (o2006.1.2.1, ())))), (r2015.2.1, ()))).bind fun r2025 =>
            some (.inl (((), (o2014.1.2.1, (r2015.1.1, (o2006.1.2.1, ((decide (x2018 ≤ x2017)), (r2015.1.2.1, ())))))), (r2025.2.1, ())))

/-- slices.pdqsortOrdered[int]: one call -/
def slices_pdqsortOrdered_int_R (self : ((Unit × Int × Int × Int × Unit) × (List Int) × Unit) → Option ((Unit) × (List Int) × Unit)) (v : (Unit × Int × Int × Int × Unit) × (List Int) × Unit) : Option ((Unit) × (List Int) × Unit) :=
  (loopV (slices_pdqsortOrdered_int_L1 self) (((), (v.1.2.1, (v.1.2.2.1, (v.1.2.2.2.1, (true, (true, ())))))), (v.2.1, ()))).bind fun o5 =>
  some ((), (o5.2.1, ()))

/-- slices.pdqsortOrdered[int] -/
def slices_pdqsortOrdered_int (a0 : Int) (a1 : Int) (a2 : Int) (a3 : List Int) : Option ((Unit) × (List Int) × Unit) := fixN slices_pdqsortOrdered_int_R fuel (((), (a0, (a1, (a2, ())))), (a3, ()))

/-- slices.Sort[[]int,int] -/
def slices_Sort_int_int (a0 : List Int) : Option ((Unit) × (List Int) × Unit) :=
  let x2 := (((List.length a0) : Int))
  (math_bits_Len (IntKind.u64.wrap (x2))).bind fun r4 =>
  (slices_pdqsortOrdered_int (0 : Int) x2 r4.1.1 a0).bind fun r5 =>
  some ((), (r5.2.1, ()))

/-- math/bits.RotateLeft32 -/
def math_bits_RotateLeft32 (a0 : Int) (a1 : Int) : Option ((Int × Unit) × Unit) :=
  let x4 := (bitI .and .u64 (IntKind.u64.wrap (a1)) (31 : Int))
  some (((bitI .or .u32 (shlI .u32 a0 x4) (shrI .u32 a0 (IntKind.u64.wrap ((32 : Int) - x4)))), ()), ())

/-- slices.Clone[[]byte,byte] -/
def slices_Clone_byte_byte_a (a0 : List Int) : Option ((Unit × Unit) × (List Int) × Unit) :=
  bif decide (List.length a0 ≤ lim) then some (((), ()), (a0, ())) else none

/-- slices.Clone[[][]byte,[]byte] -/
def slices_Clone_byte_byte (a0 : List (List Int)) : Option ((Unit × Unit) × (List (List Int)) × Unit) :=
  bif decide (List.length a0 ≤ lim) then some (((), ()), (a0, ())) else none

end Go.PE
end
end

section
set_option linter.unusedVariables false
noncomputable section
namespace Go.PE

def selection_proper_L1 (c7 : List Int) (c8 : Int) (v : (Int × Unit) × Unit) : Option (((Int × Unit) × Unit) ⊕ (((Bool × Unit) × Unit) ⊕ ((Unit) × Unit))) :=
  bif (decide (v.1.1 < c8)) then
    bif (inb v.1.1 (List.length c7)) then
      let x2002 := (rd (.int .i64) c7 v.1.1)
      bif (decide (x2002 < (1 : Int))) then
        some (.inr (.inl ((false, ()), ())))
      else
        bif (decide ((2100000000000000 : Int) < x2002)) then
          some (.inr (.inl ((false, ()), ())))
        else
          some (.inl (((IntKind.i64.wrap (v.1.1 + (1 : Int))), ()), ()))
    else
      none
  else
    some (.inr (.inr ((), ())))

/-- lightclient/selection.proper -/
def selection_proper (a0 : List Int) (a1 : Int) : Option ((Bool × Unit) × Unit) :=
  (loopV (selection_proper_L1 a0 (((List.length a0) : Int))) (((0 : Int), ()), ())).bind fun o4 =>
  match o4 with
  | .inl o5 =>
    some ((o5.1.1, ()), ())
  | .inr o6 =>
    bif (decide ((1 : Int) ≤ a1)) then
      some (((decide (a1 ≤ (2100000000000000 : Int))), ()), ())
    else
      some ((false, ()), ())

def selection_total_L1 (c6 : List Int) (c7 : Int) (v : (Int × Int × Unit) × Unit) : Option (((Int × Int × Unit) × Unit) ⊕ ((Int × Unit) × Unit)) :=
  bif (decide (v.1.2.1 < c7)) then
    bif (inb v.1.2.1 (List.length c6)) then
      some (.inl (((IntKind.i64.wrap (v.1.1 + (rd (.int .i64) c6 v.1.2.1))), ((IntKind.i64.wrap (v.1.2.1 + (1 : Int))), ())), ()))
    else
      none
  else
    some (.inr ((v.1.1, ()), ()))

/-- lightclient/selection.total -/
def selection_total (a0 : List Int) : Option ((Int × Unit) × Unit) :=
  (loopV (selection_total_L1 a0 (((List.length a0) : Int))) (((0 : Int), ((0 : Int), ())), ())).bind fun o3 =>
  some ((o3.1.1, ()), ())

/-- lightclient/selection.fault -/
def selection_fault (a0 : List Int) (a1 : Int) : Option ((Int × Unit) × Unit) :=
  bif (decide ((16 : Int) < (((List.length a0) : Int)))) then
    some (((4 : Int), ()), ())
  else
    (selection_proper a0 a1).bind fun r5 =>
    bif (!r5.1.1) then
      some (((5 : Int), ()), ())
    else
      (selection_total a0).bind fun r7 =>
      bif (decide (r7.1.1 < a1)) then
        some (((320 : Int), ()), ())
      else
        some (((0 : Int), ()), ())

def selection_search_look_J1 (self : ((Unit × Int × Int × Int × Unit) × ((List Int) × Int × Unit × (Unit × Int × Unit) × Bool × Unit) × (List Int) × (List Int) × Unit) → Option ((Unit) × ((List Int) × Int × Unit × (Unit × Int × Unit) × Bool × Unit) × Unit × Unit × (List Int) × (List Int) × Unit)) (c2 : Int) (v : (Unit × Unit) × ((List Int) × Int × Unit × (Unit × Int × Unit) × Bool × Unit) × (List Int) × (List Int) × Unit) : Option ((Unit × Bool × Unit) × ((List Int) × Int × Unit × (Unit × Int × Unit) × Bool × Unit) × (List Int) × (List Int) × Unit) :=
  bif (!v.2.1.2.2.2.2.1) then
    some (((), (true, ())), ((v.2.1.1, (v.2.1.2.1, ((), (((), v.2.1.2.2.2.1.2), v.2.1.2.2.2.2)))), (v.2.2.1, (v.2.2.2.1, ()))))
  else
    some (((), ((decide (c2 < v.2.1.2.2.2.1.2.1)), ())), ((v.2.1.1, (v.2.1.2.1, ((), (((), v.2.1.2.2.2.1.2), v.2.1.2.2.2.2)))), (v.2.2.1, (v.2.2.2.1, ()))))

/-- (*lightclient/selection.search).look: one call -/
def selection_search_look_R (self : ((Unit × Int × Int × Int × Unit) × ((List Int) × Int × Unit × (Unit × Int × Unit) × Bool × Unit) × (List Int) × (List Int) × Unit) → Option ((Unit) × ((List Int) × Int × Unit × (Unit × Int × Unit) × Bool × Unit) × Unit × Unit × (List Int) × (List Int) × Unit)) (v : (Unit × Int × Int × Int × Unit) × ((List Int) × Int × Unit × (Unit × Int × Unit) × Bool × Unit) × (List Int) × (List Int) × Unit) : Option ((Unit) × ((List Int) × Int × Unit × (Unit × Int × Unit) × Bool × Unit) × Unit × Unit × (List Int) × (List Int) × Unit) :=
  bif (decide (v.2.1.2.1 ≤ v.1.2.2.1)) then
    (selection_search_look_J1 self v.1.2.2.1 (((), ()), ((v.2.1.1, (v.2.1.2.1, ((), (((), v.2.1.2.2.2.1.2), v.2.1.2.2.2.2)))), (v.2.2.1, (v.2.2.2.1, ()))))).bind fun o11 =>
    bif o11.1.2.1 then
      (slices_Clone_int_int o11.2.2.1).bind fun r12 =>
      some ((), ((o11.2.1.1, (o11.2.1.2.1, ((), (((), (v.1.2.2.1, ())), (true, o11.2.1.2.2.2.2.2))))), ((), ((), (o11.2.2.1, (r12.2.1, ()))))))
    else
      some ((), ((o11.2.1.1, (o11.2.1.2.1, ((), (((), o11.2.1.2.2.2.1.2), o11.2.1.2.2.2.2)))), ((), ((), (o11.2.2.1, (o11.2.2.2.1, ()))))))
  else
    bif (decide ((IntKind.i64.wrap (v.1.2.2.1 + v.1.2.2.2.1)) < v.2.1.2.1)) then
      some ((), ((v.2.1.1, (v.2.1.2.1, ((), (((), v.2.1.2.2.2.1.2), v.2.1.2.2.2.2)))), ((), ((), (v.2.2.1, (v.2.2.2.1, ()))))))
    else
      bif (inb v.1.2.1 (List.length v.2.1.1)) then
        let x15 := (rd (.int .i64) v.2.1.1 v.1.2.1)
        let x16 := ([v.1.2.1] : List Int)
        bif (decide ((List.length v.2.2.1) + (List.length x16) ≤ lim)) then
          (self (((), ((IntKind.i64.wrap (v.1.2.1 + (1 : Int))), ((IntKind.i64.wrap (v.1.2.2.1 + x15)), ((IntKind.i64.wrap (v.1.2.2.2.1 - x15)), ())))), ((v.2.1.1, (v.2.1.2.1, ((), (((), v.2.1.2.2.2.1.2), v.2.1.2.2.2.2)))), ((v.2.2.1 ++ x16), (v.2.2.2.1, ()))))).bind fun r21 =>
          let x23 := (IntKind.i64.wrap ((((List.length r21.2.2.2.2.1) : Int)) - (1 : Int)))
          bif (decide (0 ≤ x23) && decide (x23 ≤ ((List.length r21.2.2.2.2.1) : Int))) then
            bif (Nat.ble (((0) + (Int.toNat x23))) (List.length r21.2.2.2.2.1)) then
              (self (((), ((IntKind.i64.wrap (v.1.2.1 + (1 : Int))), (v.1.2.2.1, ((IntKind.i64.wrap (v.1.2.2.2.1 - x15)), ())))), ((r21.2.1.1, (r21.2.1.2.1, ((), (((), r21.2.1.2.2.2.1.2), r21.2.1.2.2.2.2)))), ((sub r21.2.2.2.2.1 (0) (Int.toNat x23)), (r21.2.2.2.2.2.1, ()))))).bind fun r26 =>
              some ((), ((r26.2.1.1, (r26.2.1.2.1, ((), (((), r26.2.1.2.2.2.1.2), r26.2.1.2.2.2.2)))), ((), ((), (r26.2.2.2.2.1, (r26.2.2.2.2.2.1, ()))))))
            else
              none
          else
            none
        else
          none
      else
        none

/-- (*lightclient/selection.search).look -/
def selection_search_look (a0 : Int) (a1 : Int) (a2 : Int) (a3 : List Int) (a4 : Int) (a5 : Int × Unit) (a6 : Bool × Unit) (a7 : List Int) (a8 : List Int) : Option ((Unit) × ((List Int) × Int × Unit × (Unit × Int × Unit) × Bool × Unit) × Unit × Unit × (List Int) × (List Int) × Unit) := fixN selection_search_look_R fuel (((), (a0, (a1, (a2, ())))), ((a3, (a4, ((), (((), a5), a6)))), (a7, (a8, ()))))

def selection_certify_J1 (self : ((Unit × (List Int) × Int × Int × Int × Int × Int × Unit) × (List Int) × Unit) → Option ((Unit × Unit) × Unit × (List Int) × Unit)) (c2 : Int) (c3 : Int) (c5 : Int) (c6 : Int) (v : (Unit × Unit) × (List Int) × Unit) : Option ((Unit × Bool × Unit) × (List Int) × Unit) :=
  bif (decide (c3 ≤ c5)) then
    some (((), (true, ())), (v.2.1, ()))
  else
    bif (decide ((IntKind.i64.wrap (c5 + c6)) < c2)) then
      some (((), (true, ())), (v.2.1, ()))
    else
      some (((), ((decide ((16384 : Int) < (((List.length v.2.1) : Int)))), ())), (v.2.1, ()))

/-- lightclient/selection.certify: one call -/
def selection_certify_R (self : ((Unit × (List Int) × Int × Int × Int × Int × Int × Unit) × (List Int) × Unit) → Option ((Unit × Unit) × Unit × (List Int) × Unit)) (v : (Unit × (List Int) × Int × Int × Int × Int × Int × Unit) × (List Int) × Unit) : Option ((Unit × Unit) × Unit × (List Int) × Unit) :=
  (selection_certify_J1 self v.1.2.2.1 v.1.2.2.2.1 v.1.2.2.2.2.2.1 v.1.2.2.2.2.2.2.1 (((), ()), (v.2.1, ()))).bind fun o8 =>
  bif o8.1.2.1 then
    let x9 := ([(2 : Int)] : List Int)
    bif (decide ((List.length o8.2.1) + (List.length x9) ≤ lim)) then
      some (((), ()), ((), ((o8.2.1 ++ x9), ())))
    else
      none
  else
    bif (inb v.1.2.2.2.2.1 (List.length v.1.2.1)) then
      let x11 := (rd (.int .i64) v.1.2.1 v.1.2.2.2.2.1)
      let x12 := ([(1 : Int)] : List Int)
      bif (decide ((List.length o8.2.1) + (List.length x12) ≤ lim)) then
        (self (((), (v.1.2.1, (v.1.2.2.1, (v.1.2.2.2.1, ((IntKind.i64.wrap (v.1.2.2.2.2.1 + (1 : Int))), ((IntKind.i64.wrap (v.1.2.2.2.2.2.1 + x11)), ((IntKind.i64.wrap (v.1.2.2.2.2.2.2.1 - x11)), ()))))))), ((o8.2.1 ++ x12), ()))).bind fun r17 =>
        (self (((), (v.1.2.1, (v.1.2.2.1, (v.1.2.2.2.1, ((IntKind.i64.wrap (v.1.2.2.2.2.1 + (1 : Int))), (v.1.2.2.2.2.2.1, ((IntKind.i64.wrap (v.1.2.2.2.2.2.2.1 - x11)), ()))))))), (r17.2.2.1, ()))).bind fun r20 =>
        some (((), ()), ((), (r20.2.2.1, ())))
      else
        none
    else
      none

/-- lightclient/selection.certify -/
def selection_certify (a0 : List Int) (a1 : Int) (a2 : Int) (a3 : Int) (a4 : Int) (a5 : Int) (a6 : List Int) : Option ((Unit × Unit) × Unit × (List Int) × Unit) := fixN selection_certify_R fuel (((), (a0, (a1, (a2, (a3, (a4, (a5, ()))))))), (a6, ()))

/-- lightclient/selection.Best -/
def selection_Best (a0 : List Int) (a1 : Int) : Option (((Unit × Int × Unit) × Unit × Int × Unit) × (List Int) × (List Int) × Unit) :=
  (selection_fault a0 a1).bind fun r3 =>
  bif (!decide (r3.1.1 = (0 : Int))) then
    some ((((), ((0 : Int), ())), ((), (r3.1.1, ()))), (([] : List Int), (([] : List Int), ())))
  else
    (selection_total a0).bind fun r5 =>
    (selection_search_look (0 : Int) (0 : Int) r5.1.1 a0 a1 ((0 : Int), ()) (false, ()) ([] : List Int) ([] : List Int)).bind fun r6 =>
    (selection_total a0).bind fun r7 =>
    (selection_certify a0 a1 r6.2.1.2.2.2.1.2.1 (0 : Int) (0 : Int) r7.1.1 ([] : List Int)).bind fun r8 =>
    bif (decide ((16384 : Int) < (((List.length r8.2.2.1) : Int)))) then
      some ((((), ((0 : Int), ())), ((), ((4 : Int), ()))), (([] : List Int), (([] : List Int), ())))
    else
      some ((((), r6.2.1.2.2.2.1.2), ((), ((0 : Int), ()))), (r6.2.2.2.2.2.1, (r8.2.2.1, ())))

def selection_check_J1 (self : (((List Int) × (List Int) × Int × Int × Int × Int × Int × Unit) × Unit) → Option (((List Int) × Int × Unit) × Unit)) (c2 : Int) (c3 : Int) (c5 : Int) (c6 : Int) (c16 : Int) (v : (Unit) × Unit) : Option ((Bool × Unit) × Unit) :=
  bif (decide (c16 = (2 : Int))) then
    bif (decide (c3 ≤ c5)) then
      some ((true, ()), ())
    else
      some (((decide ((IntKind.i64.wrap (c5 + c6)) < c2)), ()), ())
  else
    some ((false, ()), ())

/-- lightclient/selection.check: one call -/
def selection_check_R (self : (((List Int) × (List Int) × Int × Int × Int × Int × Int × Unit) × Unit) → Option (((List Int) × Int × Unit) × Unit)) (v : ((List Int) × (List Int) × Int × Int × Int × Int × Int × Unit) × Unit) : Option (((List Int) × Int × Unit) × Unit) :=
  bif (decide ((((List.length v.1.1) : Int)) = (0 : Int))) then
    some ((([] : List Int), ((321 : Int), ())), ())
  else
    bif (inb (0 : Int) (List.length v.1.1)) then
      let x10 := (rd (.int .u8) v.1.1 (0 : Int))
      bif (decide (0 ≤ (1 : Int)) && decide ((1 : Int) ≤ ((List.length v.1.1) : Int))) then
        let x11 := (sub v.1.1 (1) ((List.length v.1.1) - (1)))
        (selection_check_J1 self v.1.2.2.1 v.1.2.2.2.1 v.1.2.2.2.2.2.1 v.1.2.2.2.2.2.2.1 x10 ((), ())).bind fun o12 =>
        bif o12.1.1 then
          some ((x11, ((0 : Int), ())), ())
        else
          bif (!decide (x10 = (1 : Int))) then
            some ((([] : List Int), ((321 : Int), ())), ())
          else
            bif (decide ((((List.length v.1.2.1) : Int)) ≤ v.1.2.2.2.2.1)) then
              some ((([] : List Int), ((321 : Int), ())), ())
            else
              bif (inb v.1.2.2.2.2.1 (List.length v.1.2.1)) then
                let x16 := (rd (.int .i64) v.1.2.1 v.1.2.2.2.2.1)
                (self ((x11, (v.1.2.1, (v.1.2.2.1, (v.1.2.2.2.1, ((IntKind.i64.wrap (v.1.2.2.2.2.1 + (1 : Int))), ((IntKind.i64.wrap (v.1.2.2.2.2.2.1 + x16)), ((IntKind.i64.wrap (v.1.2.2.2.2.2.2.1 - x16)), ()))))))), ())).bind fun r20 =>
                bif (!decide (r20.1.2.1 = (0 : Int))) then
                  some ((([] : List Int), (r20.1.2.1, ())), ())
                else
                  (self ((r20.1.1, (v.1.2.1, (v.1.2.2.1, (v.1.2.2.2.1, ((IntKind.i64.wrap (v.1.2.2.2.2.1 + (1 : Int))), (v.1.2.2.2.2.2.1, ((IntKind.i64.wrap (v.1.2.2.2.2.2.2.1 - x16)), ()))))))), ())).bind fun r24 =>
                  some ((r24.1.1, (r24.1.2.1, ())), ())
              else
                none
      else
        none
    else
      none

/-- lightclient/selection.check -/
def selection_check (a0 : List Int) (a1 : List Int) (a2 : Int) (a3 : Int) (a4 : Int) (a5 : Int) (a6 : Int) : Option (((List Int) × Int × Unit) × Unit) := fixN selection_check_R fuel ((a0, (a1, (a2, (a3, (a4, (a5, (a6, ()))))))), ())

def selection_Check_J2 (c0 : List Int) (c10 : Int) (c11 : Int) (v : (Unit × Unit) × D_3393 × Unit) : Option (((Int × Unit) × Unit) ⊕ ((Unit × Unit) × D_3393 × Unit)) :=
  bif (decide (c11 < (0 : Int))) then
    some (.inl (((6 : Int), ()), ()))
  else
    bif (decide ((((List.length c0) : Int)) ≤ c11)) then
      some (.inl (((6 : Int), ()), ()))
    else
      bif (decide ((0 : Int) < c10)) then
        let x3005 := (IntKind.i64.wrap (c10 - (1 : Int)))
        bif (inb x3005 (List.length v.2.1.1)) then
          bif (decide (c11 ≤ (rd (.int .i64) v.2.1.1 x3005))) then
            some (.inl (((6 : Int), ()), ()))
          else
            some (.inr (((), ()), (v.2.1, ())))
        else
          none
      else
        some (.inr (((), ()), (v.2.1, ())))

def selection_Check_L1 (c0 : List Int) (c27 : List Int) (c28 : Int) (v : (Unit × Int × Int × Unit) × D_3393 × Unit) : Option (((Unit × Int × Int × Unit) × D_3393 × Unit) ⊕ (((Int × Unit) × Unit) ⊕ ((Unit × Int × Unit) × D_3393 × Unit))) :=
  bif (decide (v.1.2.2.1 < c28)) then
    bif (inb v.1.2.2.1 (List.length c27)) then
      let x2002 := (rd (.int .i64) c27 v.1.2.2.1)
      (selection_Check_J2 c0 v.1.2.2.1 x2002 (((), ()), (v.2.1, ()))).bind fun o2003 =>
      match o2003 with
      | .inl o2004 =>
        some (.inr (.inl ((o2004.1.1, ()), ())))
      | .inr o2005 =>
        bif (inb x2002 (List.length c0)) then
          some (.inl (((), ((IntKind.i64.wrap (v.1.2.1 + (rd (.int .i64) c0 x2002))), ((IntKind.i64.wrap (v.1.2.2.1 + (1 : Int))), ()))), (o2005.2.1, ())))
        else
          none
    else
      none
  else
    some (.inr (.inr (((), (v.1.2.1, ())), (v.2.1, ()))))

/-- lightclient/selection.Check -/
def selection_Check (a0 : List Int) (a1 : Int) (a2 : D_3393) (a3 : List Int) : Option ((Int × Unit) × Unit) :=
  bif (decide ((16 : Int) < (((List.length a0) : Int)))) then
    some (((4 : Int), ()), ())
  else
    bif (decide ((16384 : Int) < (((List.length a3) : Int)))) then
      some (((4 : Int), ()), ())
    else
      (selection_proper a0 a1).bind fun r9 =>
      bif (!r9.1.1) then
        some (((5 : Int), ()), ())
      else
        (loopV (selection_Check_L1 a0 a2.1 (((List.length a2.1) : Int))) (((), ((0 : Int), ((0 : Int), ()))), (a2, ()))).bind fun o12 =>
        match o12 with
        | .inl o13 =>
          some ((o13.1.1, ()), ())
        | .inr o14 =>
          bif (!decide (o14.1.2.1 = o14.2.1.2.1)) then
            some (((6 : Int), ()), ())
          else
            bif (decide (o14.1.2.1 < a1)) then
              some (((320 : Int), ()), ())
            else
              (selection_total a0).bind fun r17 =>
              (selection_check a3 a0 a1 o14.1.2.1 (0 : Int) (0 : Int) r17.1.1).bind fun r18 =>
              bif (decide (r18.1.2.1 = (0 : Int))) then
                bif (decide ((0 : Int) < (((List.length r18.1.1) : Int)))) then
                  some (((2 : Int), ()), ())
                else
                  some ((r18.1.2.1, ()), ())
              else
                some ((r18.1.2.1, ()), ())

def selection_Largest_J3 (c0 : List Int) (c22 : List Int) (c24 : Int) (v : (Unit × Unit × Int × Unit) × (Unit × Int × Unit) × (Unit × Int × Unit) × (List Int) × Unit) : Option ((Unit × Unit × Int × Unit) × (Unit × Int × Unit) × (Unit × Int × Unit) × (List Int) × Unit) :=
  bif (inb c24 (List.length c22)) then
    (slices_Contains_int_int v.2.2.2.1 c24).bind fun r4002 =>
    bif (!r4002.1.1) then
      bif (decide (v.1.2.2.1 < (0 : Int))) then
        some (((), ((), (c24, ()))), (((), v.2.1.2), (((), v.2.2.1.2), (v.2.2.2.1, ()))))
      else
        bif (inb v.1.2.2.1 (List.length c0)) then
          bif (decide ((rd (.int .i64) c0 v.1.2.2.1) < (rd (.int .i64) c22 c24))) then
            some (((), ((), (c24, ()))), (((), v.2.1.2), (((), v.2.2.1.2), (v.2.2.2.1, ()))))
          else
            some (((), ((), (v.1.2.2.1, ()))), (((), v.2.1.2), (((), v.2.2.1.2), (v.2.2.2.1, ()))))
        else
          none
    else
      some (((), ((), (v.1.2.2.1, ()))), (((), v.2.1.2), (((), v.2.2.1.2), (v.2.2.2.1, ()))))
  else
    none

def selection_Largest_L2 (c0 : List Int) (c22 : List Int) (c23 : Int) (v : (Unit × Unit × Int × Int × Unit) × (Unit × Int × Unit) × (Unit × Int × Unit) × (List Int) × Unit) : Option (((Unit × Unit × Int × Int × Unit) × (Unit × Int × Unit) × (Unit × Int × Unit) × (List Int) × Unit) ⊕ ((Unit × Unit × Int × Unit) × (Unit × Int × Unit) × (Unit × Int × Unit) × (List Int) × Unit)) :=
  bif (decide (v.1.2.2.2.1 < c23)) then
    (selection_Largest_J3 c0 c22 v.1.2.2.2.1 (((), ((), (v.1.2.2.1, ()))), (((), v.2.1.2), (((), v.2.2.1.2), (v.2.2.2.1, ()))))).bind fun o3002 =>
    some (.inl (((), ((), (o3002.1.2.2.1, ((IntKind.i64.wrap (v.1.2.2.2.1 + (1 : Int))), ())))), (((), o3002.2.1.2), (((), o3002.2.2.1.2), (o3002.2.2.2.1, ())))))
  else
    some (.inr (((), ((), (v.1.2.2.1, ()))), (((), v.2.1.2), (((), v.2.2.1.2), (v.2.2.2.1, ())))))

def selection_Largest_L1 (c0 : List Int) (c1 : Int) (v : (Unit × Unit × Unit) × (Unit × Int × Unit) × (Unit × Int × Unit) × (List Int) × Unit) : Option (((Unit × Unit × Unit) × (Unit × Int × Unit) × (Unit × Int × Unit) × (List Int) × Unit) ⊕ ((Unit × Unit × Unit) × (Unit × Int × Unit) × (Unit × Int × Unit) × (List Int) × Unit)) :=
  bif (decide (v.2.2.1.2.1 < c1)) then
    (loopV (selection_Largest_L2 c0 c0 (((List.length c0) : Int))) (((), ((), ((-1 : Int), ((0 : Int), ())))), (((), v.2.1.2), (((), v.2.2.1.2), (v.2.2.2.1, ()))))).bind fun o2003 =>
    let x2004 := ([o2003.1.2.2.1] : List Int)
    bif (decide ((List.length o2003.2.2.2.1) + (List.length x2004) ≤ lim)) then
      bif (inb o2003.1.2.2.1 (List.length c0)) then
        some (.inl (((), ((), ())), (((), o2003.2.1.2), (((), ((IntKind.i64.wrap (o2003.2.2.1.2.1 + (rd (.int .i64) c0 o2003.1.2.2.1))), o2003.2.2.1.2.2)), ((o2003.2.2.2.1 ++ x2004), ())))))
      else
        none
    else
      none
  else
    some (.inr (((), ((), ())), (((), v.2.1.2), (((), v.2.2.1.2), (v.2.2.2.1, ())))))

/-- lightclient/selection.Largest -/
def selection_Largest (a0 : List Int) (a1 : Int) : Option (((Unit × Int × Unit) × Int × Unit) × (List Int) × Unit) :=
  (selection_fault a0 a1).bind fun r3 =>
  bif (!decide (r3.1.1 = (0 : Int))) then
    some ((((), ((0 : Int), ())), (r3.1.1, ())), (([] : List Int), ()))
  else
    (loopV (selection_Largest_L1 a0 a1) (((), ((), ())), (((), ((0 : Int), ())), (((), ((0 : Int), ())), (([] : List Int), ()))))).bind fun o5 =>
    (slices_Sort_int_int o5.2.2.2.1).bind fun r6 =>
    some ((((), o5.2.2.1.2), ((0 : Int), ())), (r6.2.1, ()))

end Go.PE
end
end

section
set_option linter.unusedVariables false
noncomputable section
namespace Go.PE

/-- lightclient/build.Fee -/
def build_Fee (a0 : Int) (a1 : Int) : Option ((Int × Unit) × Unit) :=
  bif (decide (a0 < (0 : Int))) then
    some (((0 : Int), ()), ())
  else
    bif (decide ((80000 : Int) < a0)) then
      some (((0 : Int), ()), ())
    else
      bif (decide (a1 < (0 : Int))) then
        some (((0 : Int), ()), ())
      else
        bif (decide ((1048576 : Int) < a1)) then
          some (((0 : Int), ()), ())
        else
          some (((IntKind.i64.wrap (Int.tdiv (IntKind.i64.wrap ((IntKind.i64.wrap (a0 * a1)) + (999 : Int))) (1000 : Int))), ()), ())

/-- lightclient/build.InputWeight -/
def build_InputWeight (a0 : D_c1fb) : Option ((Int × Unit) × Unit) :=
  some (((IntKind.i64.wrap ((161 : Int) + a0.2.1)), ()), ())

/-- lightclient/build.Valid_1 -/
def build_Valid_1 (a0 : D_089d) : Option ((Bool × Unit) × Unit) :=
  some (((decide ((0 : Int) < (((List.length a0.2.2.1) : Int)))), ()), ())

/-- lightclient/build.fault_1 -/
def build_fault_1 (a0 : D_b101) : Option ((Bool × Unit) × Unit) :=
  some (((decide (a0.1 < (300 : Int))), ()), ())

def build_sum_L1 (c7 : List D_b101) (c8 : Int) (v : (Int × Int × Unit) × Unit) : Option (((Int × Int × Unit) × Unit) ⊕ (((Int × Bool × Unit) × Unit) ⊕ ((Int × Unit) × Unit))) :=
  bif (decide (v.1.2.1 < c8)) then
    bif (inb v.1.2.1 (List.length c7)) then
      let x2002 := (rd T_b101 c7 v.1.2.1)
      bif (decide (x2002.1 < (0 : Int))) then
        some (.inr (.inl (((0 : Int), (false, ())), ())))
      else
        bif (decide ((IntKind.i64.wrap ((2100000000000000 : Int) - v.1.1)) < x2002.1)) then
          some (.inr (.inl (((0 : Int), (false, ())), ())))
        else
          some (.inl (((IntKind.i64.wrap (v.1.1 + x2002.1)), ((IntKind.i64.wrap (v.1.2.1 + (1 : Int))), ())), ()))
    else
      none
  else
    some (.inr (.inr ((v.1.1, ()), ())))

/-- lightclient/build.sum -/
def build_sum (a0 : List D_b101) : Option ((Int × Bool × Unit) × Unit) :=
  (loopV (build_sum_L1 a0 (((List.length a0) : Int))) (((0 : Int), ((0 : Int), ())), ())).bind fun o3 =>
  match o3 with
  | .inl o4 =>
    some ((o4.1.1, (o4.1.2.1, ())), ())
  | .inr o5 =>
    some ((o5.1.1, (true, ())), ())

/-- lightclient/build.null -/
def build_null : Option ((D_b85e × Unit) × Unit) :=
  some ((((List.replicate 32 (0 : Int)), ((4294967295 : Int), ())), ()), ())

/-- lightclient/build.fault_2 -/
def build_fault_2 (a0 : D_c1fb) : Option ((Bool × Unit) × Unit) :=
  (build_null).bind fun r2 =>
  some (((Ty.eqb T_b85e a0.1.1 r2.1.1), ()), ())

def build_choose_L1 (c3 : Int) (c21 : List D_c1fb) (c22 : Int) (v : (Unit × Unit × Int × Unit) × (List D_c1fb) × (List Int) × Unit) : Option (((Unit × Unit × Int × Unit) × (List D_c1fb) × (List Int) × Unit) ⊕ ((Unit × Unit × Unit) × (List D_c1fb) × (List Int) × Unit)) :=
  bif (decide (v.1.2.2.1 < c22)) then
    bif (inb v.1.2.2.1 (List.length c21)) then
      let x2002 := (rd T_c1fb c21 v.1.2.2.1)
      (build_InputWeight x2002).bind fun r2003 =>
      (build_Fee r2003.1.1 c3).bind fun r2004 =>
      let x2005 := (IntKind.i64.wrap (x2002.1.2.1.1 - r2004.1.1))
      bif (decide ((1 : Int) ≤ x2005)) then
        let x2007 := ([x2002] : List D_c1fb)
        bif (decide ((List.length v.2.1) + (List.length x2007) ≤ lim)) then
          let x2009 := ([x2005] : List Int)
          bif (decide ((List.length v.2.2.1) + (List.length x2009) ≤ lim)) then
            some (.inl (((), ((), ((IntKind.i64.wrap (v.1.2.2.1 + (1 : Int))), ()))), ((v.2.1 ++ x2007), ((v.2.2.1 ++ x2009), ()))))
          else
            none
        else
          none
      else
        some (.inl (((), ((), ((IntKind.i64.wrap (v.1.2.2.1 + (1 : Int))), ()))), (v.2.1, (v.2.2.1, ()))))
    else
      none
  else
    some (.inr (((), ((), ())), (v.2.1, (v.2.2.1, ()))))

def build_choose_L2 (c63 : Int) (v : (Unit × Unit × Unit × Int × Unit) × (List D_c1fb) × (List D_c1fb) × (List Int) × Unit) : Option (((Unit × Unit × Unit × Int × Unit) × (List D_c1fb) × (List D_c1fb) × (List Int) × Unit) ⊕ ((Unit × Unit) × (List D_c1fb) × Unit)) :=
  bif (decide (v.1.2.2.2.1 < c63)) then
    bif (inb v.1.2.2.2.1 (List.length v.2.2.2.1)) then
      (v.2.2.2.1[(Int.toNat v.1.2.2.2.1)]?).bind fun e3002 =>
      bif (inb e3002 (List.length v.2.1)) then
        (v.2.1[(Int.toNat e3002)]?).bind fun e3003 =>
        let x3004 := ([e3003] : List D_c1fb)
        bif (decide ((List.length v.2.2.1) + (List.length x3004) ≤ lim)) then
          some (.inl (((), ((), ((), ((IntKind.i64.wrap (v.1.2.2.2.1 + (1 : Int))), ())))), (v.2.1, ((v.2.2.1 ++ x3004), (v.2.2.2.1, ())))))
        else
          none
      else
        none
    else
      none
  else
    some (.inr (((), ()), (v.2.2.1, ())))

/-- lightclient/build.choose -/
def build_choose (a0 : List D_c1fb) (a1 : Int) (a2 : Int) (a3 : Int) : Option ((Unit × Int × Unit) × (List D_c1fb) × Unit) :=
  (loopV (build_choose_L1 a3 a0 (((List.length a0) : Int))) (((), ((), ((0 : Int), ()))), (([] : List D_c1fb), (([] : List Int), ())))).bind fun o6 =>
  (build_Fee a2 a3).bind fun r7 =>
  (selection_Best o6.2.2.1 (IntKind.i64.wrap (a1 + r7.1.1))).bind fun r9 =>
  bif (!decide (r9.1.2.2.1 = (0 : Int))) then
    some (((), (r9.1.2.2.1, ())), (([] : List D_c1fb), ()))
  else
    (loopV (build_choose_L2 (((List.length r9.2.1) : Int))) (((), ((), ((), ((0 : Int), ())))), (o6.2.1, (([] : List D_c1fb), (r9.2.1, ()))))).bind fun o12 =>
    some (((), ((0 : Int), ())), (o12.2.1, ()))

end Go.PE
end
end

section
set_option linter.unusedVariables false
noncomputable section
namespace Go.PE

/-- lightclient/fees.Rate -/
def fees_Rate (a0 : Int) (a1 : Int) : Option ((Int × Unit) × Unit) :=
  bif (decide (a0 < (0 : Int))) then
    some (((0 : Int), ()), ())
  else
    bif (decide ((2100000000000000 : Int) < a0)) then
      some (((0 : Int), ()), ())
    else
      bif (decide (a1 < (1 : Int))) then
        some (((0 : Int), ()), ())
      else
        bif (decide ((80000 : Int) < a1)) then
          some (((0 : Int), ()), ())
        else
          bif (decide (a1 = 0)) then
            none
          else
            some (((min (IntKind.i64.wrap (Int.tdiv (IntKind.i64.wrap ((1000 : Int) * a0)) a1)) (1048576 : Int)), ()), ())

end Go.PE
end
end

section
set_option linter.unusedVariables false
noncomputable section
namespace Go.PE

def codec_put_uint32_L1 (c1 : Int) (c16 : Int) (v : (Unit × Int × Unit) × (List Int) × Unit) : Option (((Unit × Int × Unit) × (List Int) × Unit) ⊕ ((Unit × Unit) × (List Int) × Unit)) :=
  bif (decide (v.1.2.1 < c16)) then
    let x2003 := (IntKind.i64.wrap ((8 : Int) * v.1.2.1))
    bif (decide (x2003 < 0)) then
      none
    else
      let x2006 := ([(IntKind.u8.wrap ((shrI .u64 (IntKind.u64.wrap (c1)) x2003)))] : List Int)
      bif (decide ((List.length v.2.1) + (List.length x2006) ≤ lim)) then
        some (.inl (((), ((IntKind.i64.wrap (v.1.2.1 + (1 : Int))), ())), ((v.2.1 ++ x2006), ())))
      else
        none
  else
    some (.inr (((), ()), (v.2.1, ())))

/-- lightclient/codec.put[uint32] -/
def codec_put_uint32 (a0 : List Int) (a1 : Int) (a2 : Int) : Option ((Unit × Unit) × (List Int) × Unit) :=
  let x5 := (IntKind.i64.wrap ((((List.length a0) : Int)) + a2))
  bif (decide (0 ≤ (0 : Int)) && decide ((0 : Int) ≤ x5) && decide (x5 ≤ (lim : Int))) then
    let x6 := (List.replicate (0) (0 : Int))
    bif (decide ((List.length x6) + (List.length a0) ≤ lim)) then
      (loopV (codec_put_uint32_L1 a1 a2) (((), ((0 : Int), ())), ((x6 ++ a0), ()))).bind fun o8 =>
      some (((), ()), (o8.2.1, ()))
    else
      none
  else
    none

/-- lightclient/codec.AppendU32 -/
def codec_AppendU32 (a0 : List Int) (a1 : Int) : Option ((Unit × Unit) × (List Int) × Unit) :=
  (codec_put_uint32 a0 a1 (4 : Int)).bind fun r3 =>
  some (((), ()), (r3.2.1, ()))

def codec_put_uint8_L1 (c1 : Int) (c16 : Int) (v : (Unit × Int × Unit) × (List Int) × Unit) : Option (((Unit × Int × Unit) × (List Int) × Unit) ⊕ ((Unit × Unit) × (List Int) × Unit)) :=
  bif (decide (v.1.2.1 < c16)) then
    let x2003 := (IntKind.i64.wrap ((8 : Int) * v.1.2.1))
    bif (decide (x2003 < 0)) then
      none
    else
      let x2006 := ([(IntKind.u8.wrap ((shrI .u64 (IntKind.u64.wrap (c1)) x2003)))] : List Int)
      bif (decide ((List.length v.2.1) + (List.length x2006) ≤ lim)) then
        some (.inl (((), ((IntKind.i64.wrap (v.1.2.1 + (1 : Int))), ())), ((v.2.1 ++ x2006), ())))
      else
        none
  else
    some (.inr (((), ()), (v.2.1, ())))

/-- lightclient/codec.put[uint8] -/
def codec_put_uint8 (a0 : List Int) (a1 : Int) (a2 : Int) : Option ((Unit × Unit) × (List Int) × Unit) :=
  let x5 := (IntKind.i64.wrap ((((List.length a0) : Int)) + a2))
  bif (decide (0 ≤ (0 : Int)) && decide ((0 : Int) ≤ x5) && decide (x5 ≤ (lim : Int))) then
    let x6 := (List.replicate (0) (0 : Int))
    bif (decide ((List.length x6) + (List.length a0) ≤ lim)) then
      (loopV (codec_put_uint8_L1 a1 a2) (((), ((0 : Int), ())), ((x6 ++ a0), ()))).bind fun o8 =>
      some (((), ()), (o8.2.1, ()))
    else
      none
  else
    none

def codec_put_uint16_L1 (c1 : Int) (c16 : Int) (v : (Unit × Int × Unit) × (List Int) × Unit) : Option (((Unit × Int × Unit) × (List Int) × Unit) ⊕ ((Unit × Unit) × (List Int) × Unit)) :=
  bif (decide (v.1.2.1 < c16)) then
    let x2003 := (IntKind.i64.wrap ((8 : Int) * v.1.2.1))
    bif (decide (x2003 < 0)) then
      none
    else
      let x2006 := ([(IntKind.u8.wrap ((shrI .u64 (IntKind.u64.wrap (c1)) x2003)))] : List Int)
      bif (decide ((List.length v.2.1) + (List.length x2006) ≤ lim)) then
        some (.inl (((), ((IntKind.i64.wrap (v.1.2.1 + (1 : Int))), ())), ((v.2.1 ++ x2006), ())))
      else
        none
  else
    some (.inr (((), ()), (v.2.1, ())))

/-- lightclient/codec.put[uint16] -/
def codec_put_uint16 (a0 : List Int) (a1 : Int) (a2 : Int) : Option ((Unit × Unit) × (List Int) × Unit) :=
  let x5 := (IntKind.i64.wrap ((((List.length a0) : Int)) + a2))
  bif (decide (0 ≤ (0 : Int)) && decide ((0 : Int) ≤ x5) && decide (x5 ≤ (lim : Int))) then
    let x6 := (List.replicate (0) (0 : Int))
    bif (decide ((List.length x6) + (List.length a0) ≤ lim)) then
      (loopV (codec_put_uint16_L1 a1 a2) (((), ((0 : Int), ())), ((x6 ++ a0), ()))).bind fun o8 =>
      some (((), ()), (o8.2.1, ()))
    else
      none
  else
    none

def codec_put_uint64_L1 (c1 : Int) (c16 : Int) (v : (Unit × Int × Unit) × (List Int) × Unit) : Option (((Unit × Int × Unit) × (List Int) × Unit) ⊕ ((Unit × Unit) × (List Int) × Unit)) :=
  bif (decide (v.1.2.1 < c16)) then
    let x2002 := (IntKind.i64.wrap ((8 : Int) * v.1.2.1))
    bif (decide (x2002 < 0)) then
      none
    else
      let x2005 := ([(IntKind.u8.wrap ((shrI .u64 c1 x2002)))] : List Int)
      bif (decide ((List.length v.2.1) + (List.length x2005) ≤ lim)) then
        some (.inl (((), ((IntKind.i64.wrap (v.1.2.1 + (1 : Int))), ())), ((v.2.1 ++ x2005), ())))
      else
        none
  else
    some (.inr (((), ()), (v.2.1, ())))

/-- lightclient/codec.put[uint64] -/
def codec_put_uint64 (a0 : List Int) (a1 : Int) (a2 : Int) : Option ((Unit × Unit) × (List Int) × Unit) :=
  let x5 := (IntKind.i64.wrap ((((List.length a0) : Int)) + a2))
  bif (decide (0 ≤ (0 : Int)) && decide ((0 : Int) ≤ x5) && decide (x5 ≤ (lim : Int))) then
    let x6 := (List.replicate (0) (0 : Int))
    bif (decide ((List.length x6) + (List.length a0) ≤ lim)) then
      (loopV (codec_put_uint64_L1 a1 a2) (((), ((0 : Int), ())), ((x6 ++ a0), ()))).bind fun o8 =>
      some (((), ()), (o8.2.1, ()))
    else
      none
  else
    none

/-- lightclient/codec.AppendSize -/
def codec_AppendSize (a0 : List Int) (a1 : Int) : Option ((Unit × Unit) × (List Int) × Unit) :=
  bif (decide (a1 < (253 : Int))) then
    (codec_put_uint8 a0 (IntKind.u8.wrap (a1)) (1 : Int)).bind fun r5 =>
    some (((), ()), (r5.2.1, ()))
  else
    bif (decide (a1 < (65536 : Int))) then
      (codec_put_uint8 a0 (253 : Int) (1 : Int)).bind fun r7 =>
      (codec_put_uint16 r7.2.1 (IntKind.u16.wrap (a1)) (2 : Int)).bind fun r9 =>
      some (((), ()), (r9.2.1, ()))
    else
      bif (decide (a1 < (4294967296 : Int))) then
        (codec_put_uint8 a0 (254 : Int) (1 : Int)).bind fun r11 =>
        (codec_put_uint32 r11.2.1 (IntKind.u32.wrap (a1)) (4 : Int)).bind fun r13 =>
        some (((), ()), (r13.2.1, ()))
      else
        (codec_put_uint8 a0 (255 : Int) (1 : Int)).bind fun r14 =>
        (codec_put_uint64 r14.2.1 a1 (8 : Int)).bind fun r15 =>
        some (((), ()), (r15.2.1, ()))

/-- lightclient/codec.AppendHash -/
def codec_AppendHash (a0 : List Int) (a1 : List Int) : Option ((Unit × Unit) × (List Int) × Unit) :=
  let x4 := (IntKind.i64.wrap ((((List.length a0) : Int)) + (32 : Int)))
  bif (decide (0 ≤ (0 : Int)) && decide ((0 : Int) ≤ x4) && decide (x4 ≤ (lim : Int))) then
    let x5 := (List.replicate (0) (0 : Int))
    bif (decide ((List.length x5) + (List.length a0) ≤ lim)) then
      let x6 := (x5 ++ a0)
      bif (decide ((List.length x6) + (List.length (sub a1 (0) (32))) ≤ lim)) then
        some (((), ()), ((x6 ++ (sub a1 (0) (32))), ()))
      else
        none
    else
      none
  else
    none

/-- lightclient/codec.AppendU64 -/
def codec_AppendU64 (a0 : List Int) (a1 : Int) : Option ((Unit × Unit) × (List Int) × Unit) :=
  (codec_put_uint64 a0 a1 (8 : Int)).bind fun r3 =>
  some (((), ()), (r3.2.1, ()))

/-- lightclient/codec.AppendBytes -/
def codec_AppendBytes (a0 : List Int) (a1 : List Int) : Option ((Unit × Unit) × (List Int) × Unit) :=
  (codec_AppendSize a0 (IntKind.u64.wrap ((((List.length a1) : Int))))).bind fun r5 =>
  bif (decide ((List.length r5.2.1) + (List.length a1) ≤ lim)) then
    some (((), ()), ((r5.2.1 ++ a1), ()))
  else
    none

end Go.PE
end
end

section
set_option linter.unusedVariables false
noncomputable section
namespace Go.PE

def sha_Pad_L1 (c0 : Int) (v : (Unit × Int × Unit) × (List Int) × Unit) : Option (((Unit × Int × Unit) × (List Int) × Unit) ⊕ ((Unit × Unit) × (List Int) × Unit)) :=
  bif (decide ((0 : Int) ≤ v.1.2.1)) then
    bif (decide (v.1.2.1 < 0)) then
      none
    else
      let x2005 := ([(IntKind.u8.wrap ((shrI .u64 (IntKind.u64.wrap ((8 : Int) * c0)) v.1.2.1)))] : List Int)
      bif (decide ((List.length v.2.1) + (List.length x2005) ≤ lim)) then
        some (.inl (((), ((IntKind.i64.wrap (v.1.2.1 - (8 : Int))), ())), ((v.2.1 ++ x2005), ())))
      else
        none
  else
    some (.inr (((), ()), (v.2.1, ())))

/-- lightclient/sha.Pad -/
def sha_Pad (a0 : Int) : Option ((Unit × Unit) × (List Int) × Unit) :=
  let x6 := (IntKind.u64.wrap ((1 : Int) + (Int.tmod (IntKind.u64.wrap ((64 : Int) - (Int.tmod (IntKind.u64.wrap (a0 + (9 : Int))) (64 : Int)))) (64 : Int))))
  bif (decide (0 ≤ x6) && decide (x6 ≤ (72 : Int)) && decide ((72 : Int) ≤ (lim : Int))) then
    let x7 := (List.replicate (Int.toNat x6) (0 : Int))
    bif (inb (0 : Int) (List.length x7)) then
      (x7[(0)]?).bind fun e8 =>
      (loopV (sha_Pad_L1 a0) (((), ((56 : Int), ())), ((x7.set (0) (128 : Int)), ()))).bind fun o10 =>
      some (((), ()), (o10.2.1, ()))
    else
      none
  else
    none

/-- lightclient/sha.rotr -/
def sha_rotr (a0 : Int) (a1 : Int) : Option ((Int × Unit) × Unit) :=
  (math_bits_RotateLeft32 a0 (IntKind.i64.wrap (-a1))).bind fun r4 =>
  some ((r4.1.1, ()), ())

def sha_schedule_L1 (c9 : List Int) (v : (Unit × Unit × Int × Unit) × (List Int) × (List Int) × Unit) : Option (((Unit × Unit × Int × Unit) × (List Int) × (List Int) × Unit) ⊕ ((Unit × Unit × Unit) × (List Int) × (List Int) × Unit)) :=
  bif (decide (v.1.2.2.1 < (64 : Int))) then
    bif (inb v.1.2.2.1 (64)) then
      let x2003 := (IntKind.i64.wrap (Int.tdiv v.1.2.2.1 (4 : Int)))
      let x2004 := (IntKind.i64.wrap (Int.tdiv v.1.2.2.1 (4 : Int)))
      bif (inb x2004 (64)) then
        (v.2.2.1[(Int.toNat x2004)]?).bind fun e2005 =>
        bif (inb x2003 (64)) then
          (v.2.2.1[(Int.toNat x2003)]?).bind fun e2009 =>
          some (.inl (((), ((), ((IntKind.i64.wrap (v.1.2.2.1 + (1 : Int))), ()))), (v.2.1, ((v.2.2.1.set (Int.toNat x2003) (bitI .or .u32 (shlI .u32 e2005 (8 : Int)) (IntKind.u32.wrap ((rd (.int .u8) c9 v.1.2.2.1))))), ()))))
        else
          none
      else
        none
    else
      none
  else
    some (.inr (((), ((), ())), (v.2.1, (v.2.2.1, ()))))

def sha_schedule_L2 (v : (Unit × Unit × Int × Unit) × (List Int) × (List Int) × Unit) : Option (((Unit × Unit × Int × Unit) × (List Int) × (List Int) × Unit) ⊕ ((Unit × Unit × Unit) × (List Int) × (List Int) × Unit)) :=
  bif (decide (v.1.2.2.1 < (64 : Int))) then
    let x3002 := (IntKind.i64.wrap (v.1.2.2.1 - (15 : Int)))
    bif (inb x3002 (64)) then
      (v.2.2.1[(Int.toNat x3002)]?).bind fun e3003 =>
      (sha_rotr e3003 (7 : Int)).bind fun r3004 =>
      let x3005 := (IntKind.i64.wrap (v.1.2.2.1 - (15 : Int)))
      bif (inb x3005 (64)) then
        (v.2.2.1[(Int.toNat x3005)]?).bind fun e3006 =>
        (sha_rotr e3006 (18 : Int)).bind fun r3007 =>
        let x3009 := (IntKind.i64.wrap (v.1.2.2.1 - (15 : Int)))
        bif (inb x3009 (64)) then
          (v.2.2.1[(Int.toNat x3009)]?).bind fun e3010 =>
          let x3013 := (IntKind.i64.wrap (v.1.2.2.1 - (2 : Int)))
          bif (inb x3013 (64)) then
            (v.2.2.1[(Int.toNat x3013)]?).bind fun e3014 =>
            (sha_rotr e3014 (17 : Int)).bind fun r3015 =>
            let x3016 := (IntKind.i64.wrap (v.1.2.2.1 - (2 : Int)))
            bif (inb x3016 (64)) then
              (v.2.2.1[(Int.toNat x3016)]?).bind fun e3017 =>
              (sha_rotr e3017 (19 : Int)).bind fun r3018 =>
              let x3020 := (IntKind.i64.wrap (v.1.2.2.1 - (2 : Int)))
              bif (inb x3020 (64)) then
                (v.2.2.1[(Int.toNat x3020)]?).bind fun e3021 =>
                let x3024 := (IntKind.i64.wrap (v.1.2.2.1 - (16 : Int)))
                bif (inb x3024 (64)) then
                  (v.2.2.1[(Int.toNat x3024)]?).bind fun e3025 =>
                  let x3027 := (IntKind.i64.wrap (v.1.2.2.1 - (7 : Int)))
                  bif (inb x3027 (64)) then
                    (v.2.2.1[(Int.toNat x3027)]?).bind fun e3028 =>
                    bif (inb v.1.2.2.1 (64)) then
                      (v.2.2.1[(Int.toNat v.1.2.2.1)]?).bind fun e3031 =>
                      some (.inl (((), ((), ((IntKind.i64.wrap (v.1.2.2.1 + (1 : Int))), ()))), (v.2.1, ((v.2.2.1.set (Int.toNat v.1.2.2.1) (IntKind.u32.wrap ((IntKind.u32.wrap ((IntKind.u32.wrap (e3025 + (bitI .xor .u32 (bitI .xor .u32 r3004.1.1 r3007.1.1) (shrI .u32 e3010 (3 : Int))))) + e3028)) + (bitI .xor .u32 (bitI .xor .u32 r3015.1.1 r3018.1.1) (shrI .u32 e3021 (10 : Int)))))), ()))))
                    else
                      none
                  else
                    none
                else
                  none
              else
                none
            else
              none
          else
            none
        else
          none
      else
        none
    else
      none
  else
    some (.inr (((), ((), ())), (v.2.1, (v.2.2.1, ()))))

/-- lightclient/sha.schedule -/
def sha_schedule (a0 : List Int) : Option (((List Int) × Unit) × Unit) :=
  (loopV (sha_schedule_L1 a0) (((), ((), ((0 : Int), ()))), ((List.replicate 64 (0 : Int)), ((List.replicate 64 (0 : Int)), ())))).bind fun o2 =>
  (loopV (sha_schedule_L2) (((), ((), ((16 : Int), ()))), (o2.2.1, (o2.2.2.1, ())))).bind fun o3 =>
  some ((o3.2.2.1, ()), ())

def sha_Compress_L1 (c21 : List Int) (v : (Unit × Unit × Unit × Unit × Int × Unit) × (List Int) × (List Int) × (List Int) × (List Int) × Unit) : Option (((Unit × Unit × Unit × Unit × Int × Unit) × (List Int) × (List Int) × (List Int) × (List Int) × Unit) ⊕ ((Unit × Unit × Unit × Unit) × (List Int) × (List Int) × (List Int) × Unit)) :=
  bif (decide (v.1.2.2.2.2.1 < (64 : Int))) then
    bif (inb v.1.2.2.2.2.1 (64)) then
      bif (inb (0 : Int) (8)) then
        (v.2.2.2.2.1[(0)]?).bind fun e2003 =>
        bif (inb (1 : Int) (8)) then
          (v.2.2.2.2.1[(1)]?).bind fun e2004 =>
          bif (inb (2 : Int) (8)) then
            (v.2.2.2.2.1[(2)]?).bind fun e2005 =>
            bif (inb (4 : Int) (8)) then
              (v.2.2.2.2.1[(4)]?).bind fun e2006 =>
              bif (inb (5 : Int) (8)) then
                (v.2.2.2.2.1[(5)]?).bind fun e2007 =>
                bif (inb (6 : Int) (8)) then
                  (v.2.2.2.2.1[(6)]?).bind fun e2008 =>
                  bif (inb (7 : Int) (8)) then
                    (v.2.2.2.2.1[(7)]?).bind fun e2009 =>
                    (sha_rotr e2006 (6 : Int)).bind fun r2010 =>
                    (sha_rotr e2006 (11 : Int)).bind fun r2011 =>
                    (sha_rotr e2006 (25 : Int)).bind fun r2013 =>
                    bif (inb v.1.2.2.2.2.1 (64)) then
                      (v.2.2.2.1[(Int.toNat v.1.2.2.2.2.1)]?).bind fun e2022 =>
                      let x2023 := (IntKind.u32.wrap ((IntKind.u32.wrap ((IntKind.u32.wrap ((IntKind.u32.wrap (e2009 + (bitI .xor .u32 (bitI .xor .u32 r2010.1.1 r2011.1.1) r2013.1.1))) + (bitI .xor .u32 (bitI .and .u32 e2006 e2007) (bitI .and .u32 (bitI .xor .u32 (xorM .u32) e2006) e2008)))) + (rd (.int .u32) c21 v.1.2.2.2.2.1))) + e2022))
                      (sha_rotr e2003 (2 : Int)).bind fun r2024 =>
                      (sha_rotr e2003 (13 : Int)).bind fun r2025 =>
                      (sha_rotr e2003 (22 : Int)).bind fun r2027 =>
                      let x2035 := (IntKind.u32.wrap (x2023 + (IntKind.u32.wrap ((bitI .xor .u32 (bitI .xor .u32 r2024.1.1 r2025.1.1) r2027.1.1) + (bitI .xor .u32 (bitI .xor .u32 (bitI .and .u32 e2003 e2004) (bitI .and .u32 e2003 e2005)) (bitI .and .u32 e2004 e2005))))))
                      bif (inb (3 : Int) (8)) then
                        (v.2.2.2.2.1[(3)]?).bind fun e2036 =>
                        let x2037 := (IntKind.u32.wrap (e2036 + x2023))
                        ((List.replicate 8 (0 : Int))[(0)]?).bind fun e2038 =>
                        (((List.replicate 8 (0 : Int)).set (0) x2035)[(1)]?).bind fun e2039 =>
                        ((((List.replicate 8 (0 : Int)).set (0) x2035).set (1) e2003)[(2)]?).bind fun e2040 =>
                        (((((List.replicate 8 (0 : Int)).set (0) x2035).set (1) e2003).set (2) e2004)[(3)]?).bind fun e2041 =>
                        ((((((List.replicate 8 (0 : Int)).set (0) x2035).set (1) e2003).set (2) e2004).set (3) e2005)[(4)]?).bind fun e2042 =>
                        (((((((List.replicate 8 (0 : Int)).set (0) x2035).set (1) e2003).set (2) e2004).set (3) e2005).set (4) x2037)[(5)]?).bind fun e2043 =>
                        ((((((((List.replicate 8 (0 : Int)).set (0) x2035).set (1) e2003).set (2) e2004).set (3) e2005).set (4) x2037).set (5) e2006)[(6)]?).bind fun e2044 =>
                        (((((((((List.replicate 8 (0 : Int)).set (0) x2035).set (1) e2003).set (2) e2004).set (3) e2005).set (4) x2037).set (5) e2006).set (6) e2007)[(7)]?).bind fun e2045 =>
                        some (.inl (((), ((), ((), ((), ((IntKind.i64.wrap (v.1.2.2.2.2.1 + (1 : Int))), ()))))), (v.2.1, (v.2.2.1, (v.2.2.2.1, ((((((((((List.replicate 8 (0 : Int)).set (0) x2035).set (1) e2003).set (2) e2004).set (3) e2005).set (4) x2037).set (5) e2006).set (6) e2007).set (7) e2008), ()))))))
                      else
                        none
                    else
                      none
                  else
                    none
                else
                  none
              else
                none
            else
              none
          else
            none
        else
          none
      else
        none
    else
      none
  else
    some (.inr (((), ((), ((), ()))), (v.2.1, (v.2.2.1, (v.2.2.2.2.1, ())))))

def sha_Compress_L2 (v : (Unit × Unit × Unit × Int × Unit) × (List Int) × (List Int) × (List Int) × Unit) : Option (((Unit × Unit × Unit × Int × Unit) × (List Int) × (List Int) × (List Int) × Unit) ⊕ ((Unit × Unit × Unit) × (List Int) × (List Int) × Unit)) :=
  bif (decide (v.1.2.2.2.1 < (8 : Int))) then
    bif (inb v.1.2.2.2.1 (8)) then
      (v.2.2.2.1[(Int.toNat v.1.2.2.2.1)]?).bind fun e3002 =>
      bif (inb v.1.2.2.2.1 (8)) then
        (v.2.1[(Int.toNat v.1.2.2.2.1)]?).bind fun e3003 =>
        bif (inb v.1.2.2.2.1 (8)) then
          (v.2.2.2.1[(Int.toNat v.1.2.2.2.1)]?).bind fun e3005 =>
          some (.inl (((), ((), ((), ((IntKind.i64.wrap (v.1.2.2.2.1 + (1 : Int))), ())))), (v.2.1, (v.2.2.1, ((v.2.2.2.1.set (Int.toNat v.1.2.2.2.1) (IntKind.u32.wrap (e3002 + e3003))), ())))))
        else
          none
      else
        none
    else
      none
  else
    some (.inr (((), ((), ())), (v.2.2.1, (v.2.2.2.1, ()))))

/-- lightclient/sha.Compress -/
def sha_Compress (a0 : List Int) (a1 : List Int) : Option (((List Int) × Unit) × Unit) :=
  (sha_schedule a1).bind fun r3 =>
  (loopV (sha_Compress_L1 G_c990df) (((), ((), ((), ((), ((0 : Int), ()))))), (a0, ((List.replicate 8 (0 : Int)), (r3.1.1, (a0, ())))))).bind fun o4 =>
  (loopV (sha_Compress_L2) (((), ((), ((), ((0 : Int), ())))), (o4.2.1, (o4.2.2.1, (o4.2.2.2.1, ()))))).bind fun o5 =>
  some ((o5.2.2.1, ()), ())

def sha_Sum_L1 (v : (Unit × (List Int) × Unit × Unit) × (List Int) × (List Int) × Unit) : Option (((Unit × (List Int) × Unit × Unit) × (List Int) × (List Int) × Unit) ⊕ ((Unit × Unit × Unit) × (List Int) × (List Int) × Unit)) :=
  bif (decide ((0 : Int) < (((List.length v.1.2.1) : Int)))) then
    bif (decide (0 ≤ (64 : Int)) && decide ((64 : Int) ≤ ((List.length v.1.2.1) : Int))) then
      let x2003 := (sub v.1.2.1 (0) (64))
      bif (decide (64 ≤ (List.length x2003))) then
        (sha_Compress v.2.2.1 (List.take 64 x2003)).bind fun r2005 =>
        bif (decide (0 ≤ (64 : Int)) && decide ((64 : Int) ≤ ((List.length v.1.2.1) : Int))) then
          some (.inl (((), ((sub v.1.2.1 (64) ((List.length v.1.2.1) - (64))), ((), ()))), (v.2.1, (r2005.1.1, ()))))
        else
          none
      else
        none
    else
      none
  else
    some (.inr (((), ((), ())), (v.2.1, (v.2.2.1, ()))))

def sha_Sum_L2 (v : (Unit × Unit × Unit × Int × Unit) × (List Int) × (List Int) × (List Int) × Unit) : Option (((Unit × Unit × Unit × Int × Unit) × (List Int) × (List Int) × (List Int) × Unit) ⊕ ((Unit × Unit × Unit) × (List Int) × (List Int) × Unit)) :=
  bif (decide (v.1.2.2.2.1 < (32 : Int))) then
    let x3002 := (IntKind.i64.wrap (Int.tdiv v.1.2.2.2.1 (4 : Int)))
    bif (inb x3002 (8)) then
      (v.2.2.1[(Int.toNat x3002)]?).bind fun e3003 =>
      let x3006 := (IntKind.i64.wrap ((24 : Int) - (IntKind.i64.wrap ((8 : Int) * (Int.tmod v.1.2.2.2.1 (4 : Int))))))
      bif (decide (x3006 < 0)) then
        none
      else
        bif (inb v.1.2.2.2.1 (32)) then
          (v.2.2.2.1[(Int.toNat v.1.2.2.2.1)]?).bind fun e3009 =>
          some (.inl (((), ((), ((), ((IntKind.i64.wrap (v.1.2.2.2.1 + (1 : Int))), ())))), (v.2.1, (v.2.2.1, ((v.2.2.2.1.set (Int.toNat v.1.2.2.2.1) (IntKind.u8.wrap ((shrI .u32 e3003 x3006)))), ())))))
        else
          none
    else
      none
  else
    some (.inr (((), ((), ())), (v.2.1, (v.2.2.2.1, ()))))

/-- lightclient/sha.Sum -/
def sha_Sum (a0 : List Int) : Option (((List Int) × Unit) × Unit) :=
  let x3 := (IntKind.i64.wrap ((((List.length a0) : Int)) + (72 : Int)))
  bif (decide (0 ≤ (0 : Int)) && decide ((0 : Int) ≤ x3) && decide (x3 ≤ (lim : Int))) then
    let x4 := (List.replicate (0) (0 : Int))
    bif (decide ((List.length x4) + (List.length a0) ≤ lim)) then
      let x5 := (x4 ++ a0)
      (sha_Pad (IntKind.u64.wrap ((((List.length a0) : Int))))).bind fun r8 =>
      bif (decide ((List.length x5) + (List.length r8.2.1) ≤ lim)) then
        (loopV (sha_Sum_L1) (((), ((x5 ++ r8.2.1), ((), ()))), ((List.replicate 32 (0 : Int)), (G_3e2daa, ())))).bind fun o10 =>
        (loopV (sha_Sum_L2) (((), ((), ((), ((0 : Int), ())))), (o10.2.1, (o10.2.2.1, ((List.replicate 32 (0 : Int)), ()))))).bind fun o11 =>
        some ((o11.2.2.1, ()), ())
      else
        none
    else
      none
  else
    none

/-- lightclient/sha.Double -/
def sha_Double (a0 : List Int) : Option (((List Int) × Unit) × Unit) :=
  (sha_Sum a0).bind fun r2 =>
  (sha_Sum (sub r2.1.1 (0) (32))).bind fun r3 =>
  some ((r3.1.1, ()), ())

end Go.PE
end
end

section
set_option linter.unusedVariables false
noncomputable section
namespace Go.PE

def tx_small_L1 (c20 : List D_b101) (c21 : Int) (v : (Unit × Int × Unit) × D_8f0a × Unit) : Option (((Unit × Int × Unit) × D_8f0a × Unit) ⊕ (((Bool × Unit) × Unit) ⊕ ((Unit × Unit) × D_8f0a × Unit))) :=
  bif (decide (v.1.2.1 < c21)) then
    bif (inb v.1.2.1 (List.length c20)) then
      let x2002 := (rd T_b101 c20 v.1.2.1)
      bif (decide (x2002.1 < (0 : Int))) then
        some (.inr (.inl ((false, ()), ())))
      else
        bif (decide ((520 : Int) < (((List.length x2002.2.1) : Int)))) then
          some (.inr (.inl ((false, ()), ())))
        else
          some (.inl (((), ((IntKind.i64.wrap (v.1.2.1 + (1 : Int))), ())), (v.2.1, ())))
    else
      none
  else
    some (.inr (.inr (((), ()), (v.2.1, ()))))

def tx_small_L3 (c48 : List (List Int)) (c49 : Int) (v : (Int × Unit) × Unit) : Option (((Int × Unit) × Unit) ⊕ (((Bool × Unit) × Unit) ⊕ ((Unit) × Unit))) :=
  bif (decide (v.1.1 < c49)) then
    bif (inb v.1.1 (List.length c48)) then
      bif (decide ((520 : Int) < (((List.length (rd (.slice (.int .u8)) c48 v.1.1)) : Int)))) then
        some (.inr (.inl ((false, ()), ())))
      else
        some (.inl (((IntKind.i64.wrap (v.1.1 + (1 : Int))), ()), ()))
    else
      none
  else
    some (.inr (.inr ((), ())))

def tx_small_L2 (c37 : List D_089d) (c38 : Int) (v : (Int × Unit) × Unit) : Option (((Int × Unit) × Unit) ⊕ (((Bool × Unit) × Unit) ⊕ ((Unit) × Unit))) :=
  bif (decide (v.1.1 < c38)) then
    bif (inb v.1.1 (List.length c37)) then
      let x3002 := (rd T_089d c37 v.1.1)
      bif (decide ((32 : Int) < (((List.length x3002.2.2.1) : Int)))) then
        some (.inr (.inl ((false, ()), ())))
      else
        (loopV (tx_small_L3 x3002.2.2.1 (((List.length x3002.2.2.1) : Int))) (((0 : Int), ()), ())).bind fun o3006 =>
        match o3006 with
        | .inl o3007 =>
          some (.inr (.inl ((o3007.1.1, ()), ())))
        | .inr o3008 =>
          some (.inl (((IntKind.i64.wrap (v.1.1 + (1 : Int))), ()), ()))
    else
      none
  else
    some (.inr (.inr ((), ())))

/-- lightclient/tx.small -/
def tx_small (a0 : D_8f0a) : Option ((Bool × Unit) × Unit) :=
  bif (decide ((64 : Int) < (((List.length a0.2.1) : Int)))) then
    some ((false, ()), ())
  else
    bif (decide ((64 : Int) < (((List.length a0.2.2.1) : Int)))) then
      some ((false, ()), ())
    else
      (loopV (tx_small_L1 a0.2.2.1 (((List.length a0.2.2.1) : Int))) (((), ((0 : Int), ())), (a0, ()))).bind fun o7 =>
      match o7 with
      | .inl o8 =>
        some ((o8.1.1, ()), ())
      | .inr o9 =>
        (loopV (tx_small_L2 o9.2.1.2.1 (((List.length o9.2.1.2.1) : Int))) (((0 : Int), ()), ())).bind fun o11 =>
        match o11 with
        | .inl o12 =>
          some ((o12.1.1, ()), ())
        | .inr o13 =>
          some ((true, ()), ())

/-- lightclient/tx.Point -/
def tx_Point (a0 : D_b85e) : Option ((Unit × Unit) × (List Int) × Unit) :=
  (codec_AppendHash ([] : List Int) a0.1).bind fun r2 =>
  (codec_AppendU32 r2.2.1 a0.2.1).bind fun r3 =>
  some (((), ()), (r3.2.1, ()))

def tx_encode_L1 (c24 : List D_089d) (c25 : Int) (v : (Unit × Unit × Int × Unit) × D_8f0a × (List Int) × Unit) : Option (((Unit × Unit × Int × Unit) × D_8f0a × (List Int) × Unit) ⊕ ((Unit × Unit × Unit) × D_8f0a × (List Int) × Unit)) :=
  bif (decide (v.1.2.2.1 < c25)) then
    bif (inb v.1.2.2.1 (List.length c24)) then
      let x2002 := (rd T_089d c24 v.1.2.2.1)
      (tx_Point x2002.1).bind fun r2003 =>
      bif (decide ((List.length v.2.2.1) + (List.length r2003.2.1) ≤ lim)) then
        (codec_AppendU32 (v.2.2.1 ++ r2003.2.1) x2002.2.1).bind fun r2005 =>
        some (.inl (((), ((), ((IntKind.i64.wrap (v.1.2.2.1 + (1 : Int))), ()))), (v.2.1, (r2005.2.1, ()))))
      else
        none
    else
      none
  else
    some (.inr (((), ((), ())), (v.2.1, (v.2.2.1, ()))))

def tx_encode_L2 (c47 : List D_b101) (c48 : Int) (v : (Unit × Unit × Int × Unit) × D_8f0a × (List Int) × Unit) : Option (((Unit × Unit × Int × Unit) × D_8f0a × (List Int) × Unit) ⊕ ((Unit × Unit × Unit) × D_8f0a × (List Int) × Unit)) :=
  bif (decide (v.1.2.2.1 < c48)) then
    bif (inb v.1.2.2.1 (List.length c47)) then
      let x3002 := (rd T_b101 c47 v.1.2.2.1)
      (codec_AppendU64 v.2.2.1 (IntKind.u64.wrap (x3002.1))).bind fun r3004 =>
      (codec_AppendBytes r3004.2.1 x3002.2.1).bind fun r3005 =>
      some (.inl (((), ((), ((IntKind.i64.wrap (v.1.2.2.1 + (1 : Int))), ()))), (v.2.1, (r3005.2.1, ()))))
    else
      none
  else
    some (.inr (((), ((), ())), (v.2.1, (v.2.2.1, ()))))

def tx_encode_L4 (c83 : List (List Int)) (c84 : Int) (v : (Unit × Int × Unit) × (List Int) × Unit) : Option (((Unit × Int × Unit) × (List Int) × Unit) ⊕ ((Unit × Unit) × (List Int) × Unit)) :=
  bif (decide (v.1.2.1 < c84)) then
    bif (inb v.1.2.1 (List.length c83)) then
      (codec_AppendBytes v.2.1 (rd (.slice (.int .u8)) c83 v.1.2.1)).bind fun r5003 =>
      some (.inl (((), ((IntKind.i64.wrap (v.1.2.1 + (1 : Int))), ())), (r5003.2.1, ())))
    else
      none
  else
    some (.inr (((), ()), (v.2.1, ())))

def tx_encode_L3 (c1 : Bool) (c68 : List D_089d) (c69 : Int) (v : (Unit × Int × Unit) × (List Int) × Unit) : Option (((Unit × Int × Unit) × (List Int) × Unit) ⊕ ((Unit × Unit) × (List Int) × Unit)) :=
  bif (decide (v.1.2.1 < c69)) then
    bif (inb v.1.2.1 (List.length c68)) then
      let x4002 := (rd T_089d c68 v.1.2.1)
      bif (!c1) then
        some (.inr (((), ()), (v.2.1, ())))
      else
        (codec_AppendSize v.2.1 (IntKind.u64.wrap ((((List.length x4002.2.2.1) : Int))))).bind fun r4006 =>
        (loopV (tx_encode_L4 x4002.2.2.1 (((List.length x4002.2.2.1) : Int))) (((), ((0 : Int), ())), (r4006.2.1, ()))).bind fun o4008 =>
        some (.inl (((), ((IntKind.i64.wrap (v.1.2.1 + (1 : Int))), ())), (o4008.2.1, ())))
    else
      none
  else
    some (.inr (((), ()), (v.2.1, ())))

/-- lightclient/tx.encode -/
def tx_encode (a0 : D_8f0a) (a1 : Bool) : Option ((Unit × Unit) × (List Int) × Unit) :=
  (codec_AppendU32 ([] : List Int) a0.1).bind fun r3 =>
  (codec_AppendSize r3.2.1 (IntKind.u64.wrap ((((List.length a0.2.1) : Int))))).bind fun r6 =>
  (loopV (tx_encode_L1 a0.2.1 (((List.length a0.2.1) : Int))) (((), ((), ((0 : Int), ()))), (a0, (r6.2.1, ())))).bind fun o8 =>
  (codec_AppendSize o8.2.2.1 (IntKind.u64.wrap ((((List.length o8.2.1.2.2.1) : Int))))).bind fun r11 =>
  (loopV (tx_encode_L2 o8.2.1.2.2.1 (((List.length o8.2.1.2.2.1) : Int))) (((), ((), ((0 : Int), ()))), (o8.2.1, (r11.2.1, ())))).bind fun o13 =>
  (codec_AppendU32 o13.2.2.1 o13.2.1.2.2.2.1).bind fun r14 =>
  (loopV (tx_encode_L3 a1 o13.2.1.2.1 (((List.length o13.2.1.2.1) : Int))) (((), ((0 : Int), ())), (r14.2.1, ()))).bind fun o16 =>
  some (((), ()), (o16.2.1, ()))

/-- lightclient/tx.Encode -/
def tx_Encode (a0 : D_8f0a) (a1 : Bool) : Option ((Unit × Int × Unit) × (List Int) × Unit) :=
  (tx_small a0).bind fun r3 =>
  bif (!r3.1.1) then
    some (((), ((4 : Int), ())), (([] : List Int), ()))
  else
    (tx_encode a0 true).bind fun r5 =>
    bif (decide ((20000 : Int) < (((List.length r5.2.1) : Int)))) then
      some (((), ((4 : Int), ())), (([] : List Int), ()))
    else
      bif a1 then
        some (((), ((0 : Int), ())), (r5.2.1, ()))
      else
        (tx_encode a0 false).bind fun r8 =>
        some (((), ((0 : Int), ())), (r8.2.1, ()))

def tx_money_L1 (c6 : List D_b101) (c7 : Int) (v : (Int × Int × Unit) × Unit) : Option (((Int × Int × Unit) × Unit) ⊕ (((Bool × Unit) × Unit) ⊕ ((Int × Unit) × Unit))) :=
  bif (decide (v.1.2.1 < c7)) then
    bif (inb v.1.2.1 (List.length c6)) then
      let x2002 := (rd T_b101 c6 v.1.2.1)
      bif (decide ((2100000000000000 : Int) < x2002.1)) then
        some (.inr (.inl ((false, ()), ())))
      else
        some (.inl (((IntKind.i64.wrap (v.1.1 + x2002.1)), ((IntKind.i64.wrap (v.1.2.1 + (1 : Int))), ())), ()))
    else
      none
  else
    some (.inr (.inr ((v.1.1, ()), ())))

/-- lightclient/tx.money -/
def tx_money (a0 : List D_b101) : Option ((Bool × Unit) × Unit) :=
  (loopV (tx_money_L1 a0 (((List.length a0) : Int))) (((0 : Int), ((0 : Int), ())), ())).bind fun o3 =>
  match o3 with
  | .inl o4 =>
    some ((o4.1.1, ()), ())
  | .inr o5 =>
    some (((decide (o5.1.1 ≤ (2100000000000000 : Int))), ()), ())

/-- lightclient/tx.null -/
def tx_null : Option ((D_b85e × Unit) × Unit) :=
  some ((((List.replicate 32 (0 : Int)), ((4294967295 : Int), ())), ()), ())

/-- lightclient/tx.Coinbase -/
def tx_Coinbase (a0 : D_8f0a) : Option ((Bool × Unit) × Unit) :=
  bif (decide ((((List.length a0.2.1) : Int)) = (1 : Int))) then
    bif (inb (0 : Int) (List.length a0.2.1)) then
      (tx_null).bind fun r5 =>
      some (((Ty.eqb T_b85e (rd T_089d a0.2.1 (0 : Int)).1 r5.1.1), ()), ())
    else
      none
  else
    some ((false, ()), ())

def tx_Check_L1 (c32 : List D_089d) (c33 : Int) (v : (Unit × Unit × Int × Unit) × D_8f0a × (List (D_b85e × Bool)) × Unit) : Option (((Unit × Unit × Int × Unit) × D_8f0a × (List (D_b85e × Bool)) × Unit) ⊕ (((Int × Unit) × Unit) ⊕ ((Unit × Unit × Unit) × D_8f0a × (List (D_b85e × Bool)) × Unit))) :=
  bif (decide (v.1.2.2.1 < c33)) then
    bif (inb v.1.2.2.1 (List.length c32)) then
      let x2002 := (rd T_089d c32 v.1.2.2.1)
      bif (Option.getD (mfind T_b85e .bool x2002.1 v.2.2.1) false) then
        some (.inr (.inl (((91 : Int), ()), ())))
      else
        some (.inl (((), ((), ((IntKind.i64.wrap (v.1.2.2.1 + (1 : Int))), ()))), (v.2.1, ((mset T_b85e .bool x2002.1 true v.2.2.1), ()))))
    else
      none
  else
    some (.inr (.inr (((), ((), ())), (v.2.1, (v.2.2.1, ())))))

/-- lightclient/tx.Check -/
def tx_Check (a0 : D_8f0a) : Option ((Int × Unit) × Unit) :=
  (tx_Encode a0 true).bind fun r2 =>
  bif (!decide (r2.1.2.1 = (0 : Int))) then
    some ((r2.1.2.1, ()), ())
  else
    bif (decide ((((List.length a0.2.1) : Int)) = (0 : Int))) then
      some (((93 : Int), ()), ())
    else
      bif (decide ((((List.length a0.2.2.1) : Int)) = (0 : Int))) then
        some (((93 : Int), ()), ())
      else
        (tx_money a0.2.2.1).bind fun r8 =>
        bif (!r8.1.1) then
          some (((90 : Int), ()), ())
        else
          (loopV (tx_Check_L1 a0.2.1 (((List.length a0.2.1) : Int))) (((), ((), ((0 : Int), ()))), (a0, (([]), ())))).bind fun o11 =>
          match o11 with
          | .inl o12 =>
            some ((o12.1.1, ()), ())
          | .inr o13 =>
            (tx_null).bind fun r14 =>
            bif (Option.getD (mfind T_b85e .bool r14.1.1 o13.2.2.1) false) then
              (tx_Coinbase o13.2.1).bind fun r17 =>
              bif (!r17.1.1) then
                some (((92 : Int), ()), ())
              else
                some (((0 : Int), ()), ())
            else
              some (((0 : Int), ()), ())

/-- lightclient/tx.digest -/
def tx_digest (a0 : D_8f0a) (a1 : Bool) : Option (((List Int) × Unit) × Unit) :=
  (tx_Encode a0 a1).bind fun r3 =>
  bif (!decide (r3.1.2.1 = (0 : Int))) then
    some (((List.replicate 32 (0 : Int)), ()), ())
  else
    (sha_Double r3.2.1).bind fun r6 =>
    some ((r6.1.1, ()), ())

/-- lightclient/tx.ID -/
def tx_ID (a0 : D_8f0a) : Option (((List Int) × Unit) × Unit) :=
  (tx_digest a0 false).bind fun r2 =>
  some ((r2.1.1, ()), ())

/-- lightclient/tx.Weight -/
def tx_Weight (a0 : D_8f0a) : Option ((Int × Unit) × Unit) :=
  (tx_Encode a0 true).bind fun r2 =>
  bif (!decide (r2.1.2.1 = (0 : Int))) then
    some (((0 : Int), ()), ())
  else
    (tx_encode a0 false).bind fun r4 =>
    some (((IntKind.i64.wrap ((IntKind.i64.wrap ((3 : Int) * (((List.length r4.2.1) : Int)))) + (((List.length r2.2.1) : Int)))), ()), ())

end Go.PE
end
end

section
set_option linter.unusedVariables false
noncomputable section
namespace Go.PE

/-- lightclient/replace.Signals_1 -/
def replace_Signals_1 (a0 : D_089d) : Option ((Bool × Unit) × Unit) :=
  some (((decide (a0.2.1 < (4294967294 : Int))), ()), ())

def replace_Conflict_L2 (c17 : List D_089d) (c18 : Int) (v : (Unit × Unit × Int × Unit) × D_8f0a × D_089d × Unit) : Option (((Unit × Unit × Int × Unit) × D_8f0a × D_089d × Unit) ⊕ (((Bool × Unit) × Unit) ⊕ ((Unit × Unit) × D_8f0a × Unit))) :=
  bif (decide (v.1.2.2.1 < c18)) then
    bif (inb v.1.2.2.1 (List.length c17)) then
      bif (Ty.eqb T_b85e v.2.2.1.1 (rd T_089d c17 v.1.2.2.1).1) then
        some (.inr (.inl ((true, ()), ())))
      else
        some (.inl (((), ((), ((IntKind.i64.wrap (v.1.2.2.1 + (1 : Int))), ()))), (v.2.1, (v.2.2.1, ()))))
    else
      none
  else
    some (.inr (.inr (((), ()), (v.2.1, ()))))

def replace_Conflict_L1 (c10 : List D_089d) (c11 : Int) (v : (Unit × Int × Unit) × D_8f0a × Unit) : Option (((Unit × Int × Unit) × D_8f0a × Unit) ⊕ (((Bool × Unit) × Unit) ⊕ ((Unit) × Unit))) :=
  bif (decide (v.1.2.1 < c11)) then
    bif (inb v.1.2.1 (List.length c10)) then
      (loopV (replace_Conflict_L2 v.2.1.2.1 (((List.length v.2.1.2.1) : Int))) (((), ((), ((0 : Int), ()))), (v.2.1, ((rd T_089d c10 v.1.2.1), ())))).bind fun o2004 =>
      match o2004 with
      | .inl o2005 =>
        some (.inr (.inl ((o2005.1.1, ()), ())))
      | .inr o2006 =>
        some (.inl (((), ((IntKind.i64.wrap (v.1.2.1 + (1 : Int))), ())), (o2006.2.1, ())))
    else
      none
  else
    some (.inr (.inr ((), ())))

/-- lightclient/replace.Conflict -/
def replace_Conflict (a0 : D_8f0a) (a1 : D_8f0a) : Option ((Bool × Unit) × Unit) :=
  (loopV (replace_Conflict_L1 a0.2.1 (((List.length a0.2.1) : Int))) (((), ((0 : Int), ())), (a1, ()))).bind fun o4 =>
  match o4 with
  | .inl o5 =>
    some ((o5.1.1, ()), ())
  | .inr o6 =>
    some ((false, ()), ())

/-- lightclient/replace.amount -/
def replace_amount (a0 : Int) : Option ((Bool × Unit) × Unit) :=
  bif (decide ((0 : Int) ≤ a0)) then
    some (((decide (a0 ≤ (2100000000000000 : Int))), ()), ())
  else
    some ((false, ()), ())

/-- lightclient/replace.Accept_1 -/
def replace_Accept_1 (a0 : D_94d8) : Option ((Bool × Unit) × Unit) :=
  (replace_amount a0.2.1).bind fun r2 =>
  some (((!r2.1.1), ()), ())

/-- lightclient/replace.Accept_2 -/
def replace_Accept_2 (a0 : D_94d8) (a1 : D_8f0a) : Option ((Bool × Unit) × D_8f0a × Unit) :=
  (replace_Conflict a0.1 a1).bind fun r3 =>
  some (((!r3.1.1), ()), (a1, ()))

/-- lightclient/replace.Accept_4 -/
def replace_Accept_4 (a0 : D_089d) (a1 : List Int) : Option ((Bool × Unit) × (List Int) × Unit) :=
  some (((Ty.eqb (.arr 32 (.int .u8)) a0.1.1 a1), ()), (a1, ()))

def replace_low_L1 (c2 : Int) (c7 : Int) (c17 : List D_94d8) (c18 : Int) (v : (Int × Int × Unit) × Unit) : Option (((Int × Int × Unit) × Unit) ⊕ (((Bool × Unit) × Unit) ⊕ ((Int × Unit) × Unit))) :=
  bif (decide (v.1.2.1 < c18)) then
    bif (inb v.1.2.1 (List.length c17)) then
      let x2002 := (rd T_94d8 c17 v.1.2.1)
      let x2003 := (IntKind.i64.wrap (v.1.1 - x2002.2.1))
      bif (decide (x2003 < (0 : Int))) then
        some (.inr (.inl ((true, ()), ())))
      else
        (fees_Rate c2 c7).bind fun r2005 =>
        (tx_Weight x2002.1).bind fun r2006 =>
        (fees_Rate x2002.2.1 r2006.1.1).bind fun r2007 =>
        bif (decide (r2005.1.1 ≤ r2007.1.1)) then
          some (.inr (.inl ((true, ()), ())))
        else
          some (.inl ((x2003, ((IntKind.i64.wrap (v.1.2.1 + (1 : Int))), ())), ()))
    else
      none
  else
    some (.inr (.inr ((v.1.1, ()), ())))

/-- lightclient/replace.low -/
def replace_low (a0 : List D_94d8) (a1 : D_8f0a) (a2 : Int) : Option ((Bool × Unit) × Unit) :=
  (tx_Weight a1).bind fun r4 =>
  (build_Fee r4.1.1 (100 : Int)).bind fun r5 =>
  (loopV (replace_low_L1 a2 r4.1.1 a0 (((List.length a0) : Int))) (((IntKind.i64.wrap (a2 - r5.1.1)), ((0 : Int), ())), ())).bind fun o8 =>
  match o8 with
  | .inl o9 =>
    some ((o9.1.1, ()), ())
  | .inr o10 =>
    some (((decide (o10.1.1 < (0 : Int))), ()), ())

end Go.PE
end
end

section
set_option linter.unusedVariables false
noncomputable section
namespace Go.PE

def spend_Fee_L1 (c26 : List D_6b85) (c27 : Int) (v : (Unit × Int × Unit) × D_8f0a × Unit) : Option (((Unit × Int × Unit) × D_8f0a × Unit) ⊕ (((Int × Int × Unit) × Unit) ⊕ ((Unit × Unit) × D_8f0a × Unit))) :=
  bif (decide (v.1.2.1 < c27)) then
    bif (inb v.1.2.1 (List.length c26)) then
      bif (inb v.1.2.1 (List.length v.2.1.2.1)) then
        bif (!(Ty.eqb T_b85e (rd T_6b85 c26 v.1.2.1).1 (rd T_089d v.2.1.2.1 v.1.2.1).1)) then
          some (.inr (.inl (((0 : Int), ((101 : Int), ())), ())))
        else
          some (.inl (((), ((IntKind.i64.wrap (v.1.2.1 + (1 : Int))), ())), (v.2.1, ())))
      else
        none
    else
      none
  else
    some (.inr (.inr (((), ()), (v.2.1, ()))))

def spend_Fee_L2 (c43 : List D_6b85) (c44 : Int) (v : (Unit × Int × Int × Unit) × D_8f0a × Unit) : Option (((Unit × Int × Int × Unit) × D_8f0a × Unit) ⊕ (((Int × Int × Unit) × Unit) ⊕ ((Unit × Int × Unit) × D_8f0a × Unit))) :=
  bif (decide (v.1.2.2.1 < c44)) then
    bif (inb v.1.2.2.1 (List.length c43)) then
      let x3002 := (rd T_6b85 c43 v.1.2.2.1)
      bif (decide (x3002.2.1.1 < (0 : Int))) then
        some (.inr (.inl (((0 : Int), ((90 : Int), ())), ())))
      else
        bif (decide ((2100000000000000 : Int) < x3002.2.1.1)) then
          some (.inr (.inl (((0 : Int), ((90 : Int), ())), ())))
        else
          some (.inl (((), ((IntKind.i64.wrap (v.1.2.1 + x3002.2.1.1)), ((IntKind.i64.wrap (v.1.2.2.1 + (1 : Int))), ()))), (v.2.1, ())))
    else
      none
  else
    some (.inr (.inr (((), (v.1.2.1, ())), (v.2.1, ()))))

def spend_Fee_L3 (c68 : List D_b101) (c69 : Int) (v : (Int × Int × Unit) × Unit) : Option (((Int × Int × Unit) × Unit) ⊕ ((Int × Unit) × Unit)) :=
  bif (decide (v.1.2.1 < c69)) then
    bif (inb v.1.2.1 (List.length c68)) then
      some (.inl (((IntKind.i64.wrap (v.1.1 + (rd T_b101 c68 v.1.2.1).1)), ((IntKind.i64.wrap (v.1.2.1 + (1 : Int))), ())), ()))
    else
      none
  else
    some (.inr ((v.1.1, ()), ()))

/-- lightclient/spend.Fee -/
def spend_Fee (a0 : D_8f0a) (a1 : List D_6b85) : Option ((Int × Int × Unit) × Unit) :=
  (tx_Check a0).bind fun r3 =>
  bif (!decide (r3.1.1 = (0 : Int))) then
    some (((0 : Int), (r3.1.1, ())), ())
  else
    bif (!decide ((((List.length a1) : Int)) = (((List.length a0.2.1) : Int)))) then
      some (((0 : Int), ((8 : Int), ())), ())
    else
      (loopV (spend_Fee_L1 a1 (((List.length a1) : Int))) (((), ((0 : Int), ())), (a0, ()))).bind fun o9 =>
      match o9 with
      | .inl o10 =>
        some ((o10.1.1, (o10.1.2.1, ())), ())
      | .inr o11 =>
        (loopV (spend_Fee_L2 a1 (((List.length a1) : Int))) (((), ((0 : Int), ((0 : Int), ()))), (o11.2.1, ()))).bind fun o13 =>
        match o13 with
        | .inl o14 =>
          some ((o14.1.1, (o14.1.2.1, ())), ())
        | .inr o15 =>
          bif (decide ((2100000000000000 : Int) < o15.1.2.1)) then
            some (((0 : Int), ((90 : Int), ())), ())
          else
            (loopV (spend_Fee_L3 o15.2.1.2.2.1 (((List.length o15.2.1.2.2.1) : Int))) (((0 : Int), ((0 : Int), ())), ())).bind fun o18 =>
            bif (decide (o15.1.2.1 < o18.1.1)) then
              some (((0 : Int), ((100 : Int), ())), ())
            else
              some (((IntKind.i64.wrap (o15.1.2.1 - o18.1.1)), ((0 : Int), ())), ())

end Go.PE
end
end

section
set_option linter.unusedVariables false
noncomputable section
namespace Go.PE

def slices_IndexFunc_api_Input_api_Input_L1 (c0 : List D_089d) (c7 : Int) (v : (Unit × Int × Unit) × Unit) : Option (((Unit × Int × Unit) × Unit) ⊕ (((Int × Unit) × Unit) ⊕ ((Unit) × Unit))) :=
  bif (decide (v.1.2.1 < c7)) then
    bif (inb v.1.2.1 (List.length c0)) then
      (replace_Signals_1 (rd T_089d c0 v.1.2.1)).bind fun r2003 =>
      bif r2003.1.1 then
        some (.inr (.inl ((v.1.2.1, ()), ())))
      else
        some (.inl (((), ((IntKind.i64.wrap (v.1.2.1 + (1 : Int))), ())), ()))
    else
      none
  else
    some (.inr (.inr ((), ())))

/-- slices.IndexFunc[[]lightclient/api.Input,lightclient/api.Input] -/
def slices_IndexFunc_api_Input_api_Input (a0 : List D_089d) : Option ((Int × Unit) × Unit) :=
  (loopV (slices_IndexFunc_api_Input_api_Input_L1 a0 (((List.length a0) : Int))) (((), ((0 : Int), ())), ())).bind fun o3 =>
  match o3 with
  | .inl o4 =>
    some ((o4.1.1, ()), ())
  | .inr o5 =>
    some (((-1 : Int), ()), ())

/-- slices.ContainsFunc[[]lightclient/api.Input,lightclient/api.Input] -/
def slices_ContainsFunc_api_Input_api_Input (a0 : List D_089d) : Option ((Bool × Unit) × Unit) :=
  (slices_IndexFunc_api_Input_api_Input a0).bind fun r2 =>
  some (((decide ((0 : Int) ≤ r2.1.1)), ()), ())

/-- lightclient/replace.Signals -/
def replace_Signals (a0 : D_8f0a) : Option ((Bool × Unit) × Unit) :=
  (slices_ContainsFunc_api_Input_api_Input a0.2.1).bind fun r2 =>
  some ((r2.1.1, ()), ())

def slices_IndexFunc_api_Entry_api_Entry_L1 (c0 : List D_94d8) (c7 : Int) (v : (Unit × Int × Unit) × Unit) : Option (((Unit × Int × Unit) × Unit) ⊕ (((Int × Unit) × Unit) ⊕ ((Unit) × Unit))) :=
  bif (decide (v.1.2.1 < c7)) then
    bif (inb v.1.2.1 (List.length c0)) then
      (replace_Accept_1 (rd T_94d8 c0 v.1.2.1)).bind fun r2003 =>
      bif r2003.1.1 then
        some (.inr (.inl ((v.1.2.1, ()), ())))
      else
        some (.inl (((), ((IntKind.i64.wrap (v.1.2.1 + (1 : Int))), ())), ()))
    else
      none
  else
    some (.inr (.inr ((), ())))

/-- slices.IndexFunc[[]lightclient/api.Entry,lightclient/api.Entry] -/
def slices_IndexFunc_api_Entry_api_Entry (a0 : List D_94d8) : Option ((Int × Unit) × Unit) :=
  (loopV (slices_IndexFunc_api_Entry_api_Entry_L1 a0 (((List.length a0) : Int))) (((), ((0 : Int), ())), ())).bind fun o3 =>
  match o3 with
  | .inl o4 =>
    some ((o4.1.1, ()), ())
  | .inr o5 =>
    some (((-1 : Int), ()), ())

/-- slices.ContainsFunc[[]lightclient/api.Entry,lightclient/api.Entry] -/
def slices_ContainsFunc_api_Entry_api_Entry (a0 : List D_94d8) : Option ((Bool × Unit) × Unit) :=
  (slices_IndexFunc_api_Entry_api_Entry a0).bind fun r2 =>
  some (((decide ((0 : Int) ≤ r2.1.1)), ()), ())

def slices_IndexFunc_api_Entry_api_Entry_a_L1 (c0 : List D_94d8) (c7 : Int) (v : ((Unit × Unit) × Int × Unit) × D_8f0a × Unit) : Option ((((Unit × Unit) × Int × Unit) × D_8f0a × Unit) ⊕ (((Int × Unit) × D_8f0a × Unit) ⊕ ((Unit) × D_8f0a × Unit))) :=
  bif (decide (v.1.2.1 < c7)) then
    bif (inb v.1.2.1 (List.length c0)) then
      (replace_Accept_2 (rd T_94d8 c0 v.1.2.1) v.2.1).bind fun r2003 =>
      bif r2003.1.1 then
        some (.inr (.inl ((v.1.2.1, ()), (r2003.2.1, ()))))
      else
        some (.inl ((((), ()), ((IntKind.i64.wrap (v.1.2.1 + (1 : Int))), ())), (r2003.2.1, ())))
    else
      none
  else
    some (.inr (.inr ((), (v.2.1, ()))))

/-- slices.IndexFunc[[]lightclient/api.Entry,lightclient/api.Entry] -/
def slices_IndexFunc_api_Entry_api_Entry_a (a0 : List D_94d8) (a1 : D_8f0a) : Option ((Int × Unit) × D_8f0a × Unit) :=
  (loopV (slices_IndexFunc_api_Entry_api_Entry_a_L1 a0 (((List.length a0) : Int))) ((((), ()), ((0 : Int), ())), (a1, ()))).bind fun o4 =>
  match o4 with
  | .inl o5 =>
    some ((o5.1.1, ()), (o5.2.1, ()))
  | .inr o6 =>
    some (((-1 : Int), ()), (o6.2.1, ()))

/-- slices.ContainsFunc[[]lightclient/api.Entry,lightclient/api.Entry] -/
def slices_ContainsFunc_api_Entry_api_Entry_a (a0 : List D_94d8) (a1 : D_8f0a) : Option ((Bool × Unit) × D_8f0a × Unit) :=
  (slices_IndexFunc_api_Entry_api_Entry_a a0 a1).bind fun r3 =>
  some (((decide ((0 : Int) ≤ r3.1.1)), ()), (r3.2.1, ()))

/-- lightclient/replace.Accept_3 -/
def replace_Accept_3 (a0 : D_94d8) : Option ((Bool × Unit) × Unit) :=
  (replace_Signals a0.1).bind fun r2 =>
  some (((!r2.1.1), ()), ())

def slices_IndexFunc_api_Entry_api_Entry_b_L1 (c0 : List D_94d8) (c7 : Int) (v : (Unit × Int × Unit) × Unit) : Option (((Unit × Int × Unit) × Unit) ⊕ (((Int × Unit) × Unit) ⊕ ((Unit) × Unit))) :=
  bif (decide (v.1.2.1 < c7)) then
    bif (inb v.1.2.1 (List.length c0)) then
      (replace_Accept_3 (rd T_94d8 c0 v.1.2.1)).bind fun r2003 =>
      bif r2003.1.1 then
        some (.inr (.inl ((v.1.2.1, ()), ())))
      else
        some (.inl (((), ((IntKind.i64.wrap (v.1.2.1 + (1 : Int))), ())), ()))
    else
      none
  else
    some (.inr (.inr ((), ())))

/-- slices.IndexFunc[[]lightclient/api.Entry,lightclient/api.Entry] -/
def slices_IndexFunc_api_Entry_api_Entry_b (a0 : List D_94d8) : Option ((Int × Unit) × Unit) :=
  (loopV (slices_IndexFunc_api_Entry_api_Entry_b_L1 a0 (((List.length a0) : Int))) (((), ((0 : Int), ())), ())).bind fun o3 =>
  match o3 with
  | .inl o4 =>
    some ((o4.1.1, ()), ())
  | .inr o5 =>
    some (((-1 : Int), ()), ())

/-- slices.ContainsFunc[[]lightclient/api.Entry,lightclient/api.Entry] -/
def slices_ContainsFunc_api_Entry_api_Entry_b (a0 : List D_94d8) : Option ((Bool × Unit) × Unit) :=
  (slices_IndexFunc_api_Entry_api_Entry_b a0).bind fun r2 =>
  some (((decide ((0 : Int) ≤ r2.1.1)), ()), ())

def slices_IndexFunc_api_Input_api_Input_a_L1 (c0 : List D_089d) (c7 : Int) (v : ((Unit × Unit) × Int × Unit) × (List Int) × Unit) : Option ((((Unit × Unit) × Int × Unit) × (List Int) × Unit) ⊕ (((Int × Unit) × (List Int) × Unit) ⊕ ((Unit) × (List Int) × Unit))) :=
  bif (decide (v.1.2.1 < c7)) then
    bif (inb v.1.2.1 (List.length c0)) then
      (replace_Accept_4 (rd T_089d c0 v.1.2.1) v.2.1).bind fun r2003 =>
      bif r2003.1.1 then
        some (.inr (.inl ((v.1.2.1, ()), (r2003.2.1, ()))))
      else
        some (.inl ((((), ()), ((IntKind.i64.wrap (v.1.2.1 + (1 : Int))), ())), (r2003.2.1, ())))
    else
      none
  else
    some (.inr (.inr ((), (v.2.1, ()))))

/-- slices.IndexFunc[[]lightclient/api.Input,lightclient/api.Input] -/
def slices_IndexFunc_api_Input_api_Input_a (a0 : List D_089d) (a1 : List Int) : Option ((Int × Unit) × (List Int) × Unit) :=
  (loopV (slices_IndexFunc_api_Input_api_Input_a_L1 a0 (((List.length a0) : Int))) ((((), ()), ((0 : Int), ())), (a1, ()))).bind fun o4 =>
  match o4 with
  | .inl o5 =>
    some ((o5.1.1, ()), (o5.2.1, ()))
  | .inr o6 =>
    some (((-1 : Int), ()), (o6.2.1, ()))

/-- slices.ContainsFunc[[]lightclient/api.Input,lightclient/api.Input] -/
def slices_ContainsFunc_api_Input_api_Input_a (a0 : List D_089d) (a1 : List Int) : Option ((Bool × Unit) × (List Int) × Unit) :=
  (slices_IndexFunc_api_Input_api_Input_a a0 a1).bind fun r3 =>
  some (((decide ((0 : Int) ≤ r3.1.1)), ()), (r3.2.1, ()))

def replace_Accept_L1 (c30 : List D_94d8) (c31 : Int) (v : (Unit × Int × Unit) × D_8f0a × Unit) : Option (((Unit × Int × Unit) × D_8f0a × Unit) ⊕ (((Int × Unit) × Unit) ⊕ ((Unit × Unit) × D_8f0a × Unit))) :=
  bif (decide (v.1.2.1 < c31)) then
    bif (inb v.1.2.1 (List.length c30)) then
      (tx_ID (rd T_94d8 c30 v.1.2.1).1).bind fun r2003 =>
      (slices_ContainsFunc_api_Input_api_Input_a v.2.1.2.1 r2003.1.1).bind fun r2004 =>
      bif r2004.1.1 then
        some (.inr (.inl (((362 : Int), ()), ())))
      else
        some (.inl (((), ((IntKind.i64.wrap (v.1.2.1 + (1 : Int))), ())), (v.2.1, ())))
    else
      none
  else
    some (.inr (.inr (((), ()), (v.2.1, ()))))

/-- lightclient/replace.Accept -/
def replace_Accept (a0 : List D_94d8) (a1 : D_8f0a) (a2 : Int) : Option ((Int × Unit) × Unit) :=
  (tx_Check a1).bind fun r4 =>
  bif (!decide (r4.1.1 = (0 : Int))) then
    some ((r4.1.1, ()), ())
  else
    (tx_Coinbase a1).bind fun r6 =>
    bif r6.1.1 then
      some (((92 : Int), ()), ())
    else
      (replace_amount a2).bind fun r7 =>
      bif (!r7.1.1) then
        some (((90 : Int), ()), ())
      else
        (slices_ContainsFunc_api_Entry_api_Entry a0).bind fun r9 =>
        bif r9.1.1 then
          some (((90 : Int), ()), ())
        else
          (slices_ContainsFunc_api_Entry_api_Entry_a a0 a1).bind fun r10 =>
          bif r10.1.1 then
            some (((350 : Int), ()), ())
          else
            (slices_ContainsFunc_api_Entry_api_Entry_b a0).bind fun r11 =>
            bif r11.1.1 then
              some (((360 : Int), ()), ())
            else
              (loopV (replace_Accept_L1 a0 (((List.length a0) : Int))) (((), ((0 : Int), ())), (r10.2.1, ()))).bind fun o13 =>
              match o13 with
              | .inl o14 =>
                some ((o14.1.1, ()), ())
              | .inr o15 =>
                (replace_low a0 o15.2.1 a2).bind fun r16 =>
                bif r16.1.1 then
                  some (((361 : Int), ()), ())
                else
                  some (((0 : Int), ()), ())

def slices_IndexFunc_api_Input_api_Input_b_L1 (c0 : List D_089d) (c7 : Int) (v : (Unit × Int × Unit) × Unit) : Option (((Unit × Int × Unit) × Unit) ⊕ (((Int × Unit) × Unit) ⊕ ((Unit) × Unit))) :=
  bif (decide (v.1.2.1 < c7)) then
    bif (inb v.1.2.1 (List.length c0)) then
      (build_Valid_1 (rd T_089d c0 v.1.2.1)).bind fun r2003 =>
      bif r2003.1.1 then
        some (.inr (.inl ((v.1.2.1, ()), ())))
      else
        some (.inl (((), ((IntKind.i64.wrap (v.1.2.1 + (1 : Int))), ())), ()))
    else
      none
  else
    some (.inr (.inr ((), ())))

/-- slices.IndexFunc[[]lightclient/api.Input,lightclient/api.Input] -/
def slices_IndexFunc_api_Input_api_Input_b (a0 : List D_089d) : Option ((Int × Unit) × Unit) :=
  (loopV (slices_IndexFunc_api_Input_api_Input_b_L1 a0 (((List.length a0) : Int))) (((), ((0 : Int), ())), ())).bind fun o3 =>
  match o3 with
  | .inl o4 =>
    some ((o4.1.1, ()), ())
  | .inr o5 =>
    some (((-1 : Int), ()), ())

/-- slices.ContainsFunc[[]lightclient/api.Input,lightclient/api.Input] -/
def slices_ContainsFunc_api_Input_api_Input_b (a0 : List D_089d) : Option ((Bool × Unit) × Unit) :=
  (slices_IndexFunc_api_Input_api_Input_b a0).bind fun r2 =>
  some (((decide ((0 : Int) ≤ r2.1.1)), ()), ())

/-- lightclient/build.Valid -/
def build_Valid (a0 : D_0798) : Option ((Bool × Unit) × Unit) :=
  (tx_Check a0.1).bind fun r2 =>
  bif (!decide (r2.1.1 = (0 : Int))) then
    some ((false, ()), ())
  else
    (tx_Coinbase a0.1).bind fun r4 =>
    bif r4.1.1 then
      some ((false, ()), ())
    else
      bif (decide (a0.2.2.2.1 < (-1 : Int))) then
        some ((false, ()), ())
      else
        bif (decide ((((List.length a0.1.2.2.1) : Int)) ≤ a0.2.2.2.1)) then
          some ((false, ()), ())
        else
          (slices_ContainsFunc_api_Input_api_Input_b a0.1.2.1).bind fun r8 =>
          bif r8.1.1 then
            some ((false, ()), ())
          else
            (spend_Fee a0.1 a0.2.1).bind fun r9 =>
            bif (decide (r9.1.2.1 = (0 : Int))) then
              some (((decide (r9.1.1 = a0.2.2.1)), ()), ())
            else
              some ((false, ()), ())

def slices_IndexFunc_api_Output_api_Output_L1 (c0 : List D_b101) (c7 : Int) (v : (Unit × Int × Unit) × Unit) : Option (((Unit × Int × Unit) × Unit) ⊕ (((Int × Unit) × Unit) ⊕ ((Unit) × Unit))) :=
  bif (decide (v.1.2.1 < c7)) then
    bif (inb v.1.2.1 (List.length c0)) then
      (build_fault_1 (rd T_b101 c0 v.1.2.1)).bind fun r2003 =>
      bif r2003.1.1 then
        some (.inr (.inl ((v.1.2.1, ()), ())))
      else
        some (.inl (((), ((IntKind.i64.wrap (v.1.2.1 + (1 : Int))), ())), ()))
    else
      none
  else
    some (.inr (.inr ((), ())))

/-- slices.IndexFunc[[]lightclient/api.Output,lightclient/api.Output] -/
def slices_IndexFunc_api_Output_api_Output (a0 : List D_b101) : Option ((Int × Unit) × Unit) :=
  (loopV (slices_IndexFunc_api_Output_api_Output_L1 a0 (((List.length a0) : Int))) (((), ((0 : Int), ())), ())).bind fun o3 =>
  match o3 with
  | .inl o4 =>
    some ((o4.1.1, ()), ())
  | .inr o5 =>
    some (((-1 : Int), ()), ())

/-- slices.ContainsFunc[[]lightclient/api.Output,lightclient/api.Output] -/
def slices_ContainsFunc_api_Output_api_Output (a0 : List D_b101) : Option ((Bool × Unit) × Unit) :=
  (slices_IndexFunc_api_Output_api_Output a0).bind fun r2 =>
  some (((decide ((0 : Int) ≤ r2.1.1)), ()), ())

def slices_IndexFunc_api_Spendable_api_Spendable_L1 (c0 : List D_c1fb) (c7 : Int) (v : (Unit × Int × Unit) × Unit) : Option (((Unit × Int × Unit) × Unit) ⊕ (((Int × Unit) × Unit) ⊕ ((Unit) × Unit))) :=
  bif (decide (v.1.2.1 < c7)) then
    bif (inb v.1.2.1 (List.length c0)) then
      (build_fault_2 (rd T_c1fb c0 v.1.2.1)).bind fun r2003 =>
      bif r2003.1.1 then
        some (.inr (.inl ((v.1.2.1, ()), ())))
      else
        some (.inl (((), ((IntKind.i64.wrap (v.1.2.1 + (1 : Int))), ())), ()))
    else
      none
  else
    some (.inr (.inr ((), ())))

/-- slices.IndexFunc[[]lightclient/api.Spendable,lightclient/api.Spendable] -/
def slices_IndexFunc_api_Spendable_api_Spendable (a0 : List D_c1fb) : Option ((Int × Unit) × Unit) :=
  (loopV (slices_IndexFunc_api_Spendable_api_Spendable_L1 a0 (((List.length a0) : Int))) (((), ((0 : Int), ())), ())).bind fun o3 =>
  match o3 with
  | .inl o4 =>
    some ((o4.1.1, ()), ())
  | .inr o5 =>
    some (((-1 : Int), ()), ())

/-- slices.ContainsFunc[[]lightclient/api.Spendable,lightclient/api.Spendable] -/
def slices_ContainsFunc_api_Spendable_api_Spendable (a0 : List D_c1fb) : Option ((Bool × Unit) × Unit) :=
  (slices_IndexFunc_api_Spendable_api_Spendable a0).bind fun r2 =>
  some (((decide ((0 : Int) ≤ r2.1.1)), ()), ())

def build_fault_L1 (c23 : List D_c1fb) (c24 : Int) (v : (Int × Unit) × Unit) : Option (((Int × Unit) × Unit) ⊕ (((Int × Unit) × Unit) ⊕ ((Unit) × Unit))) :=
  bif (decide (v.1.1 < c24)) then
    bif (inb v.1.1 (List.length c23)) then
      let x2002 := (rd T_c1fb c23 v.1.1)
      bif (decide (x2002.1.2.1.1 < (0 : Int))) then
        some (.inr (.inl (((5 : Int), ()), ())))
      else
        bif (decide ((2100000000000000 : Int) < x2002.1.2.1.1)) then
          some (.inr (.inl (((5 : Int), ()), ())))
        else
          bif (decide (x2002.2.1 < (0 : Int))) then
            some (.inr (.inl (((5 : Int), ()), ())))
          else
            bif (decide ((4000 : Int) < x2002.2.1)) then
              some (.inr (.inl (((5 : Int), ()), ())))
            else
              some (.inl (((IntKind.i64.wrap (v.1.1 + (1 : Int))), ()), ()))
    else
      none
  else
    some (.inr (.inr ((), ())))

def build_fault_L2 (c73 : List D_c1fb) (c74 : Int) (v : (Unit × Int × Unit) × (List (D_b85e × Bool)) × Unit) : Option (((Unit × Int × Unit) × (List (D_b85e × Bool)) × Unit) ⊕ (((Int × Unit) × Unit) ⊕ ((Unit) × Unit))) :=
  bif (decide (v.1.2.1 < c74)) then
    bif (inb v.1.2.1 (List.length c73)) then
      let x3002 := (rd T_c1fb c73 v.1.2.1)
      bif (Option.getD (mfind T_b85e .bool x3002.1.1 v.2.1) false) then
        some (.inr (.inl (((91 : Int), ()), ())))
      else
        some (.inl (((), ((IntKind.i64.wrap (v.1.2.1 + (1 : Int))), ())), ((mset T_b85e .bool x3002.1.1 true v.2.1), ())))
    else
      none
  else
    some (.inr (.inr ((), ())))

/-- lightclient/build.fault -/
def build_fault (a0 : List D_c1fb) (a1 : List D_b101) (a2 : List Int) (a3 : Int) : Option ((Int × Unit) × Unit) :=
  bif (decide (a3 < (0 : Int))) then
    some (((5 : Int), ()), ())
  else
    bif (decide ((1048576 : Int) < a3)) then
      some (((5 : Int), ()), ())
    else
      (loopV (build_fault_L1 a0 (((List.length a0) : Int))) (((0 : Int), ()), ())).bind fun o8 =>
      match o8 with
      | .inl o9 =>
        some ((o9.1.1, ()), ())
      | .inr o10 =>
        bif (decide ((((List.length a1) : Int)) = (0 : Int))) then
          some (((93 : Int), ()), ())
        else
          (slices_ContainsFunc_api_Output_api_Output a1).bind fun r13 =>
          bif r13.1.1 then
            some (((340 : Int), ()), ())
          else
            bif (decide ((252 : Int) < (((List.length a2) : Int)))) then
              some (((4 : Int), ()), ())
            else
              bif (decide ((63 : Int) < (((List.length a1) : Int)))) then
                some (((4 : Int), ()), ())
              else
                (build_sum a1).bind fun r18 =>
                bif (!r18.1.2.1) then
                  some (((90 : Int), ()), ())
                else
                  (slices_ContainsFunc_api_Spendable_api_Spendable a0).bind fun r20 =>
                  bif r20.1.1 then
                    some (((92 : Int), ()), ())
                  else
                    (loopV (build_fault_L2 a0 (((List.length a0) : Int))) (((), ((0 : Int), ())), (([]), ()))).bind fun o22 =>
                    match o22 with
                    | .inl o23 =>
                      some ((o23.1.1, ()), ())
                    | .inr o24 =>
                      some (((0 : Int), ()), ())

/-- slices.Clone[[]lightclient/api.Output,lightclient/api.Output] -/
def slices_Clone_api_Output_api_Output (a0 : List D_b101) : Option ((Unit × Unit) × (List D_b101) × Unit) :=
  bif decide (List.length a0 ≤ lim) then some (((), ()), (a0, ())) else none

/-- slices.Clone[[]lightclient/api.Input,lightclient/api.Input] -/
def slices_Clone_api_Input_api_Input (a0 : List D_089d) : Option ((Unit × Unit) × (List D_089d) × Unit) :=
  bif decide (List.length a0 ≤ lim) then some (((), ()), (a0, ())) else none

end Go.PE
end
end

section
set_option linter.unusedVariables false
noncomputable section
namespace Go.PE

/-- lightclient/clone.Output -/
def clone_Output (a0 : D_b101) : Option (((Int × Unit × Unit) × Unit) × (List Int) × Unit) :=
  (slices_Clone_byte_byte_a a0.2.1).bind fun r2 =>
  some (((a0.1, ((), ())), ()), (r2.2.1, ()))

def clone_Each_api_Output_L1 (c11 : Int) (v : (Unit × Unit × Unit × Int × Unit) × (List D_b101) × Unit) : Option (((Unit × Unit × Unit × Int × Unit) × (List D_b101) × Unit) ⊕ ((Unit × Unit) × (List D_b101) × Unit)) :=
  bif (decide (v.1.2.2.2.1 < c11)) then
    bif (inb v.1.2.2.2.1 (List.length v.2.1)) then
      (v.2.1[(Int.toNat v.1.2.2.2.1)]?).bind fun e2002 =>
      (clone_Output e2002).bind fun r2003 =>
      bif (inb v.1.2.2.2.1 (List.length v.2.1)) then
        (v.2.1[(Int.toNat v.1.2.2.2.1)]?).bind fun e2004 =>
        some (.inl (((), ((), ((), ((IntKind.i64.wrap (v.1.2.2.2.1 + (1 : Int))), ())))), ((v.2.1.set (Int.toNat v.1.2.2.2.1) (r2003.1.1.1, (r2003.2.1, ()))), ())))
      else
        none
    else
      none
  else
    some (.inr (((), ()), (v.2.1, ())))

/-- lightclient/clone.Each[lightclient/api.Output] -/
def clone_Each_api_Output (a0 : List D_b101) : Option ((Unit × Unit) × (List D_b101) × Unit) :=
  (slices_Clone_api_Output_api_Output a0).bind fun r2 =>
  (loopV (clone_Each_api_Output_L1 (((List.length r2.2.1) : Int))) (((), ((), ((), ((0 : Int), ())))), (r2.2.1, ()))).bind fun o4 =>
  some (((), ()), (o4.2.1, ()))

/-- lightclient/clone.Coin -/
def clone_Coin (a0 : D_6b85) : Option (((D_b85e × (Int × Unit × Unit) × Int × Bool × Unit) × Unit) × (List Int) × Unit) :=
  (clone_Output a0.2.1).bind fun r2 =>
  some (((a0.1, ((r2.1.1.1, ((), ())), a0.2.2)), ()), (r2.2.1, ()))

def clone_Each_byte_L1 (c11 : Int) (v : (Unit × Unit × Unit × Int × Unit) × (List (List Int)) × Unit) : Option (((Unit × Unit × Unit × Int × Unit) × (List (List Int)) × Unit) ⊕ ((Unit × Unit) × (List (List Int)) × Unit)) :=
  bif (decide (v.1.2.2.2.1 < c11)) then
    bif (inb v.1.2.2.2.1 (List.length v.2.1)) then
      (v.2.1[(Int.toNat v.1.2.2.2.1)]?).bind fun e2002 =>
      (slices_Clone_byte_byte_a e2002).bind fun r2003 =>
      bif (inb v.1.2.2.2.1 (List.length v.2.1)) then
        (v.2.1[(Int.toNat v.1.2.2.2.1)]?).bind fun e2004 =>
        some (.inl (((), ((), ((), ((IntKind.i64.wrap (v.1.2.2.2.1 + (1 : Int))), ())))), ((v.2.1.set (Int.toNat v.1.2.2.2.1) r2003.2.1), ())))
      else
        none
    else
      none
  else
    some (.inr (((), ()), (v.2.1, ())))

/-- lightclient/clone.Each[[]byte] -/
def clone_Each_byte (a0 : List (List Int)) : Option ((Unit × Unit) × (List (List Int)) × Unit) :=
  (slices_Clone_byte_byte a0).bind fun r2 =>
  (loopV (clone_Each_byte_L1 (((List.length r2.2.1) : Int))) (((), ((), ((), ((0 : Int), ())))), (r2.2.1, ()))).bind fun o4 =>
  some (((), ()), (o4.2.1, ()))

/-- lightclient/clone.Items -/
def clone_Items (a0 : List (List Int)) : Option ((Unit × Unit) × (List (List Int)) × Unit) :=
  (clone_Each_byte a0).bind fun r2 =>
  some (((), ()), (r2.2.1, ()))

/-- lightclient/clone.Tx_1 -/
def clone_Tx_1 (a0 : D_089d) : Option (((D_b85e × Int × Unit × Unit) × Unit) × (List (List Int)) × Unit) :=
  (clone_Items a0.2.2.1).bind fun r2 =>
  some (((a0.1, (a0.2.1, ((), ()))), ()), (r2.2.1, ()))

def clone_Each_api_Input_L1 (c11 : Int) (v : (Unit × Unit × Unit × Int × Unit) × (List D_089d) × Unit) : Option (((Unit × Unit × Unit × Int × Unit) × (List D_089d) × Unit) ⊕ ((Unit × Unit) × (List D_089d) × Unit)) :=
  bif (decide (v.1.2.2.2.1 < c11)) then
    bif (inb v.1.2.2.2.1 (List.length v.2.1)) then
      (v.2.1[(Int.toNat v.1.2.2.2.1)]?).bind fun e2002 =>
      (clone_Tx_1 e2002).bind fun r2003 =>
      bif (inb v.1.2.2.2.1 (List.length v.2.1)) then
        (v.2.1[(Int.toNat v.1.2.2.2.1)]?).bind fun e2004 =>
        some (.inl (((), ((), ((), ((IntKind.i64.wrap (v.1.2.2.2.1 + (1 : Int))), ())))), ((v.2.1.set (Int.toNat v.1.2.2.2.1) (r2003.1.1.1, (r2003.1.1.2.1, (r2003.2.1, ())))), ())))
      else
        none
    else
      none
  else
    some (.inr (((), ()), (v.2.1, ())))

/-- lightclient/clone.Each[lightclient/api.Input] -/
def clone_Each_api_Input (a0 : List D_089d) : Option ((Unit × Unit) × (List D_089d) × Unit) :=
  (slices_Clone_api_Input_api_Input a0).bind fun r2 =>
  (loopV (clone_Each_api_Input_L1 (((List.length r2.2.1) : Int))) (((), ((), ((), ((0 : Int), ())))), (r2.2.1, ()))).bind fun o4 =>
  some (((), ()), (o4.2.1, ()))

/-- lightclient/clone.Tx -/
def clone_Tx (a0 : D_8f0a) : Option (((Int × Unit × Unit × Int × Unit) × Unit) × (List D_089d) × (List D_b101) × Unit) :=
  (clone_Each_api_Input a0.2.1).bind fun r2 =>
  (clone_Each_api_Output a0.2.2.1).bind fun r3 =>
  some (((a0.1, ((), ((), a0.2.2.2))), ()), (r2.2.1, (r3.2.1, ())))

def build_Weight_L1 (c13 : Int) (v : (Unit × Int × Unit) × (Int × Unit × Unit × Int × Unit) × (List D_089d) × (List D_b101) × Unit) : Option (((Unit × Int × Unit) × (Int × Unit × Unit × Int × Unit) × (List D_089d) × (List D_b101) × Unit) ⊕ ((Unit × Unit) × (Int × Unit × Unit × Int × Unit) × (List D_089d) × (List D_b101) × Unit)) :=
  bif (decide (v.1.2.1 < c13)) then
    bif (inb v.1.2.1 (List.length v.2.2.1)) then
      (v.2.2.1[(Int.toNat v.1.2.1)]?).bind fun e2002 =>
      some (.inl (((), ((IntKind.i64.wrap (v.1.2.1 + (1 : Int))), ())), ((v.2.1.1, ((), ((), v.2.1.2.2.2))), ((v.2.2.1.set (Int.toNat v.1.2.1) (e2002.1, (e2002.2.1, (([] : List (List Int)), e2002.2.2.2)))), (v.2.2.2.1, ())))))
    else
      none
  else
    some (.inr (((), ()), ((v.2.1.1, ((), ((), v.2.1.2.2.2))), (v.2.2.1, (v.2.2.2.1, ())))))

def build_Weight_L2 (c25 : List D_c1fb) (c26 : Int) (v : (Int × Int × Unit) × Unit) : Option (((Int × Int × Unit) × Unit) ⊕ ((Int × Unit) × Unit)) :=
  bif (decide (v.1.2.1 < c26)) then
    bif (inb v.1.2.1 (List.length c25)) then
      some (.inl (((IntKind.i64.wrap (v.1.1 + (rd T_c1fb c25 v.1.2.1).2.1)), ((IntKind.i64.wrap (v.1.2.1 + (1 : Int))), ())), ()))
    else
      none
  else
    some (.inr ((v.1.1, ()), ()))

/-- lightclient/build.Weight -/
def build_Weight (a0 : D_8f0a) (a1 : List D_c1fb) : Option ((Int × Unit) × Unit) :=
  (clone_Tx a0).bind fun r3 =>
  (loopV (build_Weight_L1 (((List.length r3.2.1) : Int))) (((), ((0 : Int), ())), ((r3.1.1.1, ((), ((), r3.1.1.2.2.2))), (r3.2.1, (r3.2.2.1, ()))))).bind fun o5 =>
  (tx_Weight (o5.2.1.1, (o5.2.2.1, (o5.2.2.2.1, o5.2.1.2.2.2)))).bind fun r6 =>
  (loopV (build_Weight_L2 a1 (((List.length a1) : Int))) ((r6.1.1, ((0 : Int), ())), ())).bind fun o8 =>
  some ((o8.1.1, ()), ())

def build_Make_J2 (c1 : List D_b101) (c2 : List Int) (c3 : Int) (c20 : Int) (c23 : Int) (c24 : Int) (v : (Unit × Int × Unit × Unit × Unit) × ((Int × Unit × Unit × Int × Unit) × Unit × Int × Int × Unit) × ((Int × Unit × Unit × Int × Unit) × Unit × Int × Int × Unit) × (List D_c1fb) × (List D_089d) × (List D_b101) × (List D_6b85) × Unit) : Option ((Unit × Int × Unit × Unit) × ((Int × Unit × Unit × Int × Unit) × Unit × Int × Int × Unit) × ((Int × Unit × Unit × Int × Unit) × Unit × Int × Int × Unit) × (List D_089d) × (List D_b101) × (List D_6b85) × Unit) :=
  bif (decide ((0 : Int) < (((List.length c2) : Int)))) then
    (build_Fee c24 c3).bind fun r3004 =>
    (build_Fee c23 c3).bind fun r3006 =>
    bif (decide ((300 : Int) ≤ (IntKind.i64.wrap ((IntKind.i64.wrap ((IntKind.i64.wrap (c20 - v.1.2.1)) - r3004.1.1)) - r3006.1.1)))) then
      let x3009 := (((List.length c1) : Int))
      (slices_Clone_byte_byte_a c2).bind fun r3010 =>
      let x3011 := ([((0 : Int), (r3010.2.1, ()))] : List D_b101)
      bif (decide ((List.length v.2.2.2.2.2.1) + (List.length x3011) ≤ lim)) then
        let x3012 := (v.2.2.2.2.2.1 ++ x3011)
        (build_Weight (v.2.2.1.1.1, (v.2.2.2.2.1, (x3012, v.2.2.1.1.2.2.2))) v.2.2.2.1).bind fun r3014 =>
        (build_Fee r3014.1.1 c3).bind fun r3015 =>
        let x3016 := (IntKind.i64.wrap ((IntKind.i64.wrap (c20 - v.1.2.1)) - r3015.1.1))
        bif (inb x3009 (List.length x3012)) then
          (x3012[(Int.toNat x3009)]?).bind fun e3017 =>
          some (((), ((IntKind.i64.wrap (v.1.2.1 + x3016)), ((), ()))), (((v.2.1.1.1, ((), ((), v.2.1.1.2.2.2))), ((), v.2.1.2.2)), (((v.2.2.1.1.1, ((), ((), v.2.2.1.1.2.2.2))), ((), (v.2.2.1.2.2.1, (x3009, v.2.2.1.2.2.2.2)))), (v.2.2.2.2.1, ((x3012.set (Int.toNat x3009) (x3016, e3017.2)), (v.2.2.2.2.2.2.1, ()))))))
        else
          none
      else
        none
    else
      some (((), (v.1.2.1, ((), ()))), (((v.2.1.1.1, ((), ((), v.2.1.1.2.2.2))), ((), v.2.1.2.2)), (((v.2.2.1.1.1, ((), ((), v.2.2.1.1.2.2.2))), ((), v.2.2.1.2.2)), (v.2.2.2.2.1, (v.2.2.2.2.2.1, (v.2.2.2.2.2.2.1, ()))))))
  else
    some (((), (v.1.2.1, ((), ()))), (((v.2.1.1.1, ((), ((), v.2.1.1.2.2.2))), ((), v.2.1.2.2)), (((v.2.2.1.1.1, ((), ((), v.2.2.1.1.2.2.2))), ((), v.2.2.1.2.2)), (v.2.2.2.2.1, (v.2.2.2.2.2.1, (v.2.2.2.2.2.2.1, ()))))))

def build_Make_L1 (c5 : Int) (c61 : Int) (v : (Unit × Unit × Unit × Int × Unit × Int × Unit) × ((Int × Unit × Unit × Int × Unit) × Unit × Int × Int × Unit) × ((Int × Unit × Unit × Int × Unit) × Unit × Int × Int × Unit) × (List D_c1fb) × (List D_089d) × (List D_b101) × (List D_6b85) × Unit) : Option (((Unit × Unit × Unit × Int × Unit × Int × Unit) × ((Int × Unit × Unit × Int × Unit) × Unit × Int × Int × Unit) × ((Int × Unit × Unit × Int × Unit) × Unit × Int × Int × Unit) × (List D_c1fb) × (List D_089d) × (List D_b101) × (List D_6b85) × Unit) ⊕ ((Unit × Unit × Unit × Int × Unit) × ((Int × Unit × Unit × Int × Unit) × Unit × Int × Int × Unit) × ((Int × Unit × Unit × Int × Unit) × Unit × Int × Int × Unit) × (List D_c1fb) × (List D_089d) × (List D_b101) × (List D_6b85) × Unit)) :=
  bif (decide (v.1.2.2.2.2.2.1 < c61)) then
    bif (inb v.1.2.2.2.2.2.1 (List.length v.2.2.2.1)) then
      (v.2.2.2.1[(Int.toNat v.1.2.2.2.2.2.1)]?).bind fun e2002 =>
      let x2003 := ([(e2002.1.1, (c5, (([] : List (List Int)), ())))] : List D_089d)
      bif (decide ((List.length v.2.2.2.2.1) + (List.length x2003) ≤ lim)) then
        (clone_Coin e2002.1).bind fun r2005 =>
        let x2006 := ([(r2005.1.1.1, ((r2005.1.1.2.1.1, (r2005.2.1, ())), r2005.1.1.2.2))] : List D_6b85)
        bif (decide ((List.length v.2.2.2.2.2.2.1) + (List.length x2006) ≤ lim)) then
          some (.inl (((), ((), ((), ((IntKind.i64.wrap (v.1.2.2.2.1 + e2002.1.2.1.1)), ((), ((IntKind.i64.wrap (v.1.2.2.2.2.2.1 + (1 : Int))), ())))))), (((v.2.1.1.1, ((), ((), v.2.1.1.2.2.2))), ((), v.2.1.2.2)), (((v.2.2.1.1.1, ((), ((), v.2.2.1.1.2.2.2))), ((), v.2.2.1.2.2)), (v.2.2.2.1, ((v.2.2.2.2.1 ++ x2003), (v.2.2.2.2.2.1, ((v.2.2.2.2.2.2.1 ++ x2006), ()))))))))
        else
          none
      else
        none
    else
      none
  else
    some (.inr (((), ((), ((), (v.1.2.2.2.1, ())))), (((v.2.1.1.1, ((), ((), v.2.1.1.2.2.2))), ((), v.2.1.2.2)), (((v.2.2.1.1.1, ((), ((), v.2.2.1.1.2.2.2))), ((), v.2.2.1.2.2)), (v.2.2.2.1, (v.2.2.2.2.1, (v.2.2.2.2.2.1, (v.2.2.2.2.2.2.1, ()))))))))

/-- lightclient/build.Make -/
def build_Make (a0 : List D_c1fb) (a1 : List D_b101) (a2 : List Int) (a3 : Int) (a4 : Int) (a5 : Int) : Option ((((Int × Unit × Unit × Int × Unit) × Unit × Int × Int × Unit) × Int × Unit) × (List D_089d) × (List D_b101) × (List D_6b85) × Unit) :=
  (build_fault a0 a1 a2 a3).bind fun r7 =>
  bif (!decide (r7.1.1 = (0 : Int))) then
    some (((((0 : Int), ((), ((), ((0 : Int), ())))), ((), ((0 : Int), ((0 : Int), ())))), (r7.1.1, ())), (([] : List D_089d), (([] : List D_b101), (([] : List D_6b85), ()))))
  else
    (build_sum a1).bind fun r9 =>
    (clone_Each_api_Output a1).bind fun r10 =>
    (tx_Weight ((1 : Int), (([] : List D_089d), (r10.2.1, (a4, ()))))).bind fun r11 =>
    (build_choose a0 r9.1.1 r11.1.1 a3).bind fun r12 =>
    bif (!decide (r12.1.2.1 = (0 : Int))) then
      some (((((0 : Int), ((), ((), ((0 : Int), ())))), ((), ((0 : Int), ((0 : Int), ())))), (r12.1.2.1, ())), (([] : List D_089d), (([] : List D_b101), (([] : List D_6b85), ()))))
    else
      (loopV (build_Make_L1 a5 (((List.length r12.2.1) : Int))) (((), ((), ((), ((0 : Int), ((), ((0 : Int), ())))))), ((((0 : Int), ((), ((), ((0 : Int), ())))), ((), ((0 : Int), ((0 : Int), ())))), ((((1 : Int), ((), ((), (a4, ())))), ((), ((0 : Int), ((-1 : Int), ())))), (r12.2.1, (([] : List D_089d), (r10.2.1, (([] : List D_6b85), ())))))))).bind fun o15 =>
      let x18 := (IntKind.i64.wrap ((4 : Int) * (IntKind.i64.wrap ((9 : Int) + (((List.length a2) : Int))))))
      (build_Weight (o15.2.2.1.1.1, (o15.2.2.2.2.1, (o15.2.2.2.2.2.1, o15.2.2.1.1.2.2.2))) o15.2.2.2.1).bind fun r19 =>
      bif (decide ((80000 : Int) < (IntKind.i64.wrap (r19.1.1 + x18)))) then
        some (((((0 : Int), ((), ((), ((0 : Int), ())))), ((), ((0 : Int), ((0 : Int), ())))), ((4 : Int), ())), (([] : List D_089d), (([] : List D_b101), (([] : List D_6b85), ()))))
      else
        (build_Make_J2 a1 a2 a3 o15.1.2.2.2.1 x18 r19.1.1 (((), (r9.1.1, ((), ((), ())))), (((o15.2.1.1.1, ((), ((), o15.2.1.1.2.2.2))), ((), o15.2.1.2.2)), (((o15.2.2.1.1.1, ((), ((), o15.2.2.1.1.2.2.2))), ((), o15.2.2.1.2.2)), (o15.2.2.2.1, (o15.2.2.2.2.1, (o15.2.2.2.2.2.1, (o15.2.2.2.2.2.2.1, ())))))))).bind fun o22 =>
        (tx_Check (o22.2.2.1.1.1, (o22.2.2.2.1, (o22.2.2.2.2.1, o22.2.2.1.1.2.2.2)))).bind fun r24 =>
        bif (!decide (r24.1.1 = (0 : Int))) then
          some (((((0 : Int), ((), ((), ((0 : Int), ())))), ((), ((0 : Int), ((0 : Int), ())))), (r24.1.1, ())), (([] : List D_089d), (([] : List D_b101), (([] : List D_6b85), ()))))
        else
          bif (decide ((2100000000000000 : Int) < o15.1.2.2.2.1)) then
            some (((((0 : Int), ((), ((), ((0 : Int), ())))), ((), ((0 : Int), ((0 : Int), ())))), ((90 : Int), ())), (([] : List D_089d), (([] : List D_b101), (([] : List D_6b85), ()))))
          else
            some ((((o22.2.2.1.1.1, ((), ((), o22.2.2.1.1.2.2.2))), ((), ((IntKind.i64.wrap (o15.1.2.2.2.1 - o22.1.2.1)), o22.2.2.1.2.2.2))), ((0 : Int), ())), (o22.2.2.2.1, (o22.2.2.2.2.1, (o22.2.2.2.2.2.1, ()))))

end Go.PE
end
end

section
set_option linter.unusedVariables false
noncomputable section
namespace Go.PE

/-- lightclient/lightclientmade.Script -/
def made_Script (a0 : Int) : Option ((Unit × Unit) × (List Int) × Unit) :=
  some (((), ()), (([(1 : Int), (1 : Int), (IntKind.u8.wrap ((1 : Int) + (Int.tmod a0 (6 : Int)))), (5 : Int)] : List Int), ()))

/-- lightclient/lightclientmade.Null -/
def made_Null : Option ((D_b85e × Unit) × Unit) :=
  some ((((List.replicate 32 (0 : Int)), ((4294967295 : Int), ())), ()), ())

end Go.PE
end
end

section
set_option linter.unusedVariables false
noncomputable section
namespace Go.PE

/-- lightclient/lightclientmill.New -/
def mill_New (a0 : List Int) : Option ((Unit × Unit) × D_3393 × Unit) :=
  some (((), ()), ((a0, ((0 : Int), ())), ()))

/-- (*lightclient/lightclientmill.Deck).Left -/
def mill_Deck_Left (a0 : D_3393) : Option ((Bool × Unit) × D_3393 × Unit) :=
  some (((decide (a0.2.1 < (((List.length a0.1) : Int)))), ()), (a0, ()))

/-- lightclient/lightclientmill.Mod -/
def mill_Mod (a0 : Int) (a1 : Int) : Option ((Int × Unit) × Unit) :=
  bif (decide (a1 = 0)) then
    none
  else
    let x3 := (Int.tmod a0 a1)
    bif (decide (x3 < (0 : Int))) then
      some (((IntKind.i64.wrap (x3 + a1)), ()), ())
    else
      some ((x3, ()), ())

/-- (*lightclient/lightclientmill.Deck).Next -/
def mill_Deck_Next (a0 : Int) (a1 : D_3393) : Option ((Int × Unit) × D_3393 × Unit) :=
  (mill_Deck_Left a1).bind fun r3 =>
  bif (!r3.1.1) then
    some (((0 : Int), ()), (r3.2.1, ()))
  else
    let x5 := (IntKind.i64.wrap (r3.2.1.2.1 + (1 : Int)))
    let x6 := (IntKind.i64.wrap (x5 - (1 : Int)))
    bif (inb x6 (List.length r3.2.1.1)) then
      (mill_Mod (rd (.int .i64) r3.2.1.1 x6) a0).bind fun r8 =>
      some ((r8.1.1, ()), ((r3.2.1.1, (x5, r3.2.1.2.2)), ()))
    else
      none

/-- (*lightclient/lightclientmill.Deck).Range -/
def mill_Deck_Range (a0 : Int) (a1 : Int) (a2 : D_3393) : Option ((Int × Unit) × D_3393 × Unit) :=
  (mill_Deck_Next (IntKind.i64.wrap ((IntKind.i64.wrap (a1 - a0)) + (1 : Int))) a2).bind fun r6 =>
  some (((IntKind.i64.wrap (a0 + r6.1.1)), ()), (r6.2.1, ()))

/-- lightclient/lightclientmill.Hash -/
def mill_Hash (a0 : D_3393) : Option (((List Int) × Unit) × D_3393 × Unit) :=
  (mill_Deck_Next (5 : Int) a0).bind fun r2 =>
  let x3 := (IntKind.u8.wrap (r2.1.1))
  (mill_Deck_Next (7 : Int) r2.2.1).bind fun r4 =>
  ((List.replicate 32 (0 : Int))[(0)]?).bind fun e6 =>
  (((List.replicate 32 (0 : Int)).set (0) x3)[(31)]?).bind fun e7 =>
  some (((((List.replicate 32 (0 : Int)).set (0) x3).set (31) (IntKind.u8.wrap (r4.1.1))), ()), (r4.2.1, ()))

def mill_Tx_J2 (v : (Unit × Unit × Unit × Unit × Unit) × D_3393 × (Int × Unit × Unit × Int × Unit) × (Int × Unit × Unit × Int × Unit) × (D_b85e × Int × Unit × Unit) × (List D_089d) × Unit) : Option ((Unit × Unit × Unit × Unit × Unit) × D_3393 × (Int × Unit × Unit × Int × Unit) × (Int × Unit × Unit × Int × Unit) × (D_b85e × Int × Unit × Unit) × (List D_089d) × (List (List Int)) × Unit) :=
  (mill_Deck_Next (2 : Int) v.2.1).bind fun r3001 =>
  bif (decide (r3001.1.1 = (0 : Int))) then
    (mill_Deck_Next (9 : Int) r3001.2.1).bind fun r3003 =>
    some (((), ((), ((), ((), ())))), (r3003.2.1, ((v.2.2.1.1, ((), ((), v.2.2.1.2.2.2))), ((v.2.2.2.1.1, ((), ((), v.2.2.2.1.2.2.2))), ((v.2.2.2.2.1.1, (v.2.2.2.2.1.2.1, ((), ()))), (v.2.2.2.2.2.1, (([([(IntKind.u8.wrap (r3003.1.1))] : List Int)] : List (List Int)), ())))))))
  else
    some (((), ((), ((), ((), ())))), (r3001.2.1, ((v.2.2.1.1, ((), ((), v.2.2.1.2.2.2))), ((v.2.2.2.1.1, ((), ((), v.2.2.2.1.2.2.2))), ((v.2.2.2.2.1.1, (v.2.2.2.2.1.2.1, ((), ()))), (v.2.2.2.2.2.1, (([] : List (List Int)), ())))))))

def mill_Tx_L1 (v : (Unit × Unit × Unit × Int × Unit) × D_3393 × (Int × Unit × Unit × Int × Unit) × (Int × Unit × Unit × Int × Unit) × (List D_089d) × Unit) : Option (((Unit × Unit × Unit × Int × Unit) × D_3393 × (Int × Unit × Unit × Int × Unit) × (Int × Unit × Unit × Int × Unit) × (List D_089d) × Unit) ⊕ ((Unit × Unit × Unit × Unit) × D_3393 × (Int × Unit × Unit × Int × Unit) × (Int × Unit × Unit × Int × Unit) × (List D_089d) × Unit)) :=
  bif (decide ((0 : Int) < v.1.2.2.2.1)) then
    (mill_Hash v.2.1).bind fun r2002 =>
    (mill_Deck_Next (3 : Int) r2002.2.1).bind fun r2003 =>
    let x2005 := ([(4294967295 : Int), (4294967294 : Int), (4294967293 : Int), (0 : Int)] : List Int)
    (mill_Deck_Next (4 : Int) r2003.2.1).bind fun r2006 =>
    bif (inb r2006.1.1 (List.length x2005)) then
      (x2005[(Int.toNat r2006.1.1)]?).bind fun e2007 =>
      (mill_Tx_J2 (((), ((), ((), ((), ())))), (r2006.2.1, ((v.2.2.1.1, ((), ((), v.2.2.1.2.2.2))), ((v.2.2.2.1.1, ((), ((), v.2.2.2.1.2.2.2))), (((r2002.1.1, ((IntKind.u32.wrap (r2003.1.1)), ())), (e2007, ((), ()))), (v.2.2.2.2.1, ()))))))).bind fun o2008 =>
      let x2009 := ([(o2008.2.2.2.2.1.1, (o2008.2.2.2.2.1.2.1, (o2008.2.2.2.2.2.2.1, ())))] : List D_089d)
      bif (decide ((List.length o2008.2.2.2.2.2.1) + (List.length x2009) ≤ lim)) then
        some (.inl (((), ((), ((), ((IntKind.i64.wrap (v.1.2.2.2.1 - (1 : Int))), ())))), (o2008.2.1, ((o2008.2.2.1.1, ((), ((), o2008.2.2.1.2.2.2))), ((o2008.2.2.2.1.1, ((), ((), o2008.2.2.2.1.2.2.2))), ((o2008.2.2.2.2.2.1 ++ x2009), ()))))))
      else
        none
    else
      none
  else
    some (.inr (((), ((), ((), ()))), (v.2.1, ((v.2.2.1.1, ((), ((), v.2.2.1.2.2.2))), ((v.2.2.2.1.1, ((), ((), v.2.2.2.1.2.2.2))), (v.2.2.2.2.1, ()))))))

def mill_Tx_L3 (v : (Unit × Unit × Unit × Int × Unit) × D_3393 × (Int × Unit × Unit × Int × Unit) × (Int × Unit × Unit × Int × Unit) × (List D_089d) × (List D_b101) × Unit) : Option (((Unit × Unit × Unit × Int × Unit) × D_3393 × (Int × Unit × Unit × Int × Unit) × (Int × Unit × Unit × Int × Unit) × (List D_089d) × (List D_b101) × Unit) ⊕ ((Unit × Unit × Unit) × D_3393 × (Int × Unit × Unit × Int × Unit) × (Int × Unit × Unit × Int × Unit) × (List D_089d) × (List D_b101) × Unit)) :=
  bif (decide ((0 : Int) < v.1.2.2.2.1)) then
    (mill_Deck_Next (5000 : Int) v.2.1).bind fun r4002 =>
    (mill_Deck_Next (6 : Int) r4002.2.1).bind fun r4003 =>
    (made_Script (IntKind.u8.wrap (r4003.1.1))).bind fun r4005 =>
    let x4006 := ([(r4002.1.1, (r4005.2.1, ()))] : List D_b101)
    bif (decide ((List.length v.2.2.2.2.2.1) + (List.length x4006) ≤ lim)) then
      some (.inl (((), ((), ((), ((IntKind.i64.wrap (v.1.2.2.2.1 - (1 : Int))), ())))), (r4003.2.1, ((v.2.2.1.1, ((), ((), v.2.2.1.2.2.2))), ((v.2.2.2.1.1, ((), ((), v.2.2.2.1.2.2.2))), (v.2.2.2.2.1, ((v.2.2.2.2.2.1 ++ x4006), ())))))))
    else
      none
  else
    some (.inr (((), ((), ())), (v.2.1, ((v.2.2.1.1, ((), ((), v.2.2.1.2.2.2))), ((v.2.2.2.1.1, ((), ((), v.2.2.2.1.2.2.2))), (v.2.2.2.2.1, (v.2.2.2.2.2.1, ())))))))

/-- lightclient/lightclientmill.Tx -/
def mill_Tx (a0 : D_3393) : Option (((Int × Unit × Unit × Int × Unit) × Unit) × D_3393 × (List D_089d) × (List D_b101) × Unit) :=
  (mill_Deck_Next (3 : Int) a0).bind fun r2 =>
  (mill_Deck_Next (9 : Int) r2.2.1).bind fun r4 =>
  (mill_Deck_Range (1 : Int) (3 : Int) r4.2.1).bind fun r6 =>
  (loopV (mill_Tx_L1) (((), ((), ((), (r6.1.1, ())))), (r6.2.1, (((0 : Int), ((), ((), ((0 : Int), ())))), (((IntKind.u32.wrap (r2.1.1)), ((), ((), ((IntKind.u32.wrap (r4.1.1)), ())))), (([] : List D_089d), ())))))).bind fun o7 =>
  (mill_Deck_Range (1 : Int) (3 : Int) o7.2.1).bind fun r8 =>
  (loopV (mill_Tx_L3) (((), ((), ((), (r8.1.1, ())))), (r8.2.1, ((o7.2.2.1.1, ((), ((), o7.2.2.1.2.2.2))), ((o7.2.2.2.1.1, ((), ((), o7.2.2.2.1.2.2.2))), (o7.2.2.2.2.1, (([] : List D_b101), ()))))))).bind fun o9 =>
  some (((o9.2.2.2.1.1, ((), ((), o9.2.2.2.1.2.2.2))), ()), (o9.2.1, (o9.2.2.2.2.1, (o9.2.2.2.2.2.1, ()))))

def mill_Plan_L1 (c15 : List (List Int)) (c16 : Int) (v : (Unit × Unit × Unit × Int × Int × Unit) × D_3393 × ((Int × Unit × Unit × Int × Unit) × Unit × Int × Int × Unit) × ((Int × Unit × Unit × Int × Unit) × Unit × Int × Int × Unit) × (List D_089d) × (List D_6b85) × Unit) : Option (((Unit × Unit × Unit × Int × Int × Unit) × D_3393 × ((Int × Unit × Unit × Int × Unit) × Unit × Int × Int × Unit) × ((Int × Unit × Unit × Int × Unit) × Unit × Int × Int × Unit) × (List D_089d) × (List D_6b85) × Unit) ⊕ ((Unit × Unit × Unit × Int × Unit) × D_3393 × ((Int × Unit × Unit × Int × Unit) × Unit × Int × Int × Unit) × ((Int × Unit × Unit × Int × Unit) × Unit × Int × Int × Unit) × (List D_089d) × (List D_6b85) × Unit)) :=
  bif (decide (v.1.2.2.2.2.1 < c16)) then
    bif (inb v.1.2.2.2.2.1 (List.length c15)) then
      ((List.replicate 32 (0 : Int))[(0)]?).bind fun e2004 =>
      (((List.replicate 32 (0 : Int)).set (0) (1 : Int))[(1)]?).bind fun e2005 =>
      let x2006 := (((List.replicate 32 (0 : Int)).set (0) (1 : Int)).set (1) (IntKind.u8.wrap (v.1.2.2.2.2.1)))
      let x2007 := (IntKind.u32.wrap (v.1.2.2.2.2.1))
      let x2008 := ([((x2006, (x2007, ())), (((10000 : Int), ((rd (.slice (.int .u8)) c15 v.1.2.2.2.2.1), ())), ((1 : Int), (false, ()))))] : List D_6b85)
      bif (decide ((List.length v.2.2.2.2.2.1) + (List.length x2008) ≤ lim)) then
        let x2010 := ([(4294967295 : Int), (0 : Int), (4294967293 : Int)] : List Int)
        (mill_Deck_Next (3 : Int) v.2.1).bind fun r2011 =>
        bif (inb r2011.1.1 (List.length x2010)) then
          (x2010[(Int.toNat r2011.1.1)]?).bind fun e2012 =>
          let x2013 := ([((x2006, (x2007, ())), (e2012, (([] : List (List Int)), ())))] : List D_089d)
          bif (decide ((List.length v.2.2.2.2.1) + (List.length x2013) ≤ lim)) then
            some (.inl (((), ((), ((), ((IntKind.i64.wrap (v.1.2.2.2.1 + (10000 : Int))), ((IntKind.i64.wrap (v.1.2.2.2.2.1 + (1 : Int))), ()))))), (r2011.2.1, (((v.2.2.1.1.1, ((), ((), v.2.2.1.1.2.2.2))), ((), v.2.2.1.2.2)), (((v.2.2.2.1.1.1, ((), ((), v.2.2.2.1.1.2.2.2))), ((), v.2.2.2.1.2.2)), ((v.2.2.2.2.1 ++ x2013), ((v.2.2.2.2.2.1 ++ x2008), ())))))))
          else
            none
        else
          none
      else
        none
    else
      none
  else
    some (.inr (((), ((), ((), (v.1.2.2.2.1, ())))), (v.2.1, (((v.2.2.1.1.1, ((), ((), v.2.2.1.1.2.2.2))), ((), v.2.2.1.2.2)), (((v.2.2.2.1.1.1, ((), ((), v.2.2.2.1.1.2.2.2))), ((), v.2.2.2.1.2.2)), (v.2.2.2.2.1, (v.2.2.2.2.2.1, ())))))))

/-- lightclient/lightclientmill.Plan -/
def mill_Plan (a0 : List (List Int)) (a1 : D_3393) : Option ((((Int × Unit × Unit × Int × Unit) × Unit × Int × Int × Unit) × Unit) × D_3393 × (List D_089d) × (List D_b101) × (List D_6b85) × Unit) :=
  (mill_Deck_Next (3 : Int) a1).bind fun r3 =>
  (loopV (mill_Plan_L1 a0 (((List.length a0) : Int))) (((), ((), ((), ((0 : Int), ((0 : Int), ()))))), (r3.2.1, ((((0 : Int), ((), ((), ((0 : Int), ())))), ((), ((0 : Int), ((0 : Int), ())))), ((((1 : Int), ((), ((), ((IntKind.u32.wrap (r3.1.1)), ())))), ((), ((0 : Int), ((0 : Int), ())))), (([] : List D_089d), (([] : List D_6b85), ()))))))).bind fun o6 =>
  (mill_Deck_Next (900 : Int) o6.2.1).bind fun r7 =>
  (made_Script (0 : Int)).bind fun r8 =>
  (made_Script (1 : Int)).bind fun r11 =>
  let x12 := ([((5000 : Int), (r8.2.1, ())), ((IntKind.i64.wrap ((IntKind.i64.wrap (o6.1.2.2.2.1 - (5000 : Int))) - r7.1.1)), (r11.2.1, ()))] : List D_b101)
  (mill_Deck_Next (4 : Int) r7.2.1).bind fun r13 =>
  bif (decide (r13.1.1 = (0 : Int))) then
    some ((((o6.2.2.2.1.1.1, ((), ((), o6.2.2.2.1.1.2.2.2))), ((), (r7.1.1, ((-1 : Int), o6.2.2.2.1.2.2.2.2)))), ()), (r13.2.1, (o6.2.2.2.2.1, (x12, (o6.2.2.2.2.2.1, ())))))
  else
    bif (decide (r13.1.1 = (1 : Int))) then
      bif (inb (1 : Int) (List.length x12)) then
        (x12[(1)]?).bind fun e16 =>
        (mill_Deck_Next (500 : Int) r13.2.1).bind fun r19 =>
        let x20 := (IntKind.i64.wrap ((IntKind.i64.wrap ((IntKind.i64.wrap (r7.1.1 + e16.1)) - (301 : Int))) - r19.1.1))
        bif (inb (1 : Int) (List.length x12)) then
          (x12[(1)]?).bind fun e23 =>
          some ((((o6.2.2.2.1.1.1, ((), ((), o6.2.2.2.1.1.2.2.2))), ((), (x20, ((1 : Int), o6.2.2.2.1.2.2.2.2)))), ()), (r19.2.1, (o6.2.2.2.2.1, ((x12.set (1) ((IntKind.i64.wrap ((IntKind.i64.wrap (o6.1.2.2.2.1 - (5000 : Int))) - x20)), e23.2)), (o6.2.2.2.2.2.1, ())))))
        else
          none
      else
        none
    else
      some ((((o6.2.2.2.1.1.1, ((), ((), o6.2.2.2.1.1.2.2.2))), ((), (r7.1.1, ((1 : Int), o6.2.2.2.1.2.2.2.2)))), ()), (r13.2.1, (o6.2.2.2.2.1, (x12, (o6.2.2.2.2.2.1, ())))))

def mill_Spendables_L1 (v : (Unit × Unit × Int × Unit) × D_3393 × (List D_c1fb) × Unit) : Option (((Unit × Unit × Int × Unit) × D_3393 × (List D_c1fb) × Unit) ⊕ ((Unit × Unit) × D_3393 × (List D_c1fb) × Unit)) :=
  bif (decide ((0 : Int) < v.1.2.2.1)) then
    ((List.replicate 32 (0 : Int))[(0)]?).bind fun e2003 =>
    (mill_Deck_Next (3 : Int) v.2.1).bind fun r2005 =>
    (mill_Deck_Next (4000 : Int) r2005.2.1).bind fun r2007 =>
    (mill_Deck_Next (6 : Int) r2007.2.1).bind fun r2008 =>
    (made_Script (IntKind.u8.wrap (r2008.1.1))).bind fun r2010 =>
    (mill_Deck_Range (1 : Int) (5 : Int) r2008.2.1).bind fun r2011 =>
    (mill_Deck_Next (70 : Int) r2011.2.1).bind fun r2012 =>
    let x2013 := ([(((((List.replicate 32 (0 : Int)).set (0) (IntKind.u8.wrap (v.1.2.2.1))), ((IntKind.u32.wrap (r2005.1.1)), ())), ((r2007.1.1, (r2010.2.1, ())), (r2011.1.1, (false, ())))), (r2012.1.1, ()))] : List D_c1fb)
    bif (decide ((List.length v.2.2.1) + (List.length x2013) ≤ lim)) then
      some (.inl (((), ((), ((IntKind.i64.wrap (v.1.2.2.1 - (1 : Int))), ()))), (r2012.2.1, ((v.2.2.1 ++ x2013), ()))))
    else
      none
  else
    some (.inr (((), ()), (v.2.1, (v.2.2.1, ()))))

/-- lightclient/lightclientmill.Spendables -/
def mill_Spendables (a0 : Int) (a1 : D_3393) : Option ((Unit × Unit) × D_3393 × (List D_c1fb) × Unit) :=
  (mill_Deck_Next (IntKind.i64.wrap (a0 + (1 : Int))) a1).bind fun r4 =>
  (loopV (mill_Spendables_L1) (((), ((), (r4.1.1, ()))), (r4.2.1, (([] : List D_c1fb), ())))).bind fun o5 =>
  some (((), ()), (o5.2.1, (o5.2.2.1, ())))

def mill_Outputs_L1 (v : (Unit × Unit × Int × Unit) × D_3393 × (List D_b101) × Unit) : Option (((Unit × Unit × Int × Unit) × D_3393 × (List D_b101) × Unit) ⊕ ((Unit × Unit) × D_3393 × (List D_b101) × Unit)) :=
  bif (decide ((0 : Int) < v.1.2.2.1)) then
    (mill_Deck_Next (2000 : Int) v.2.1).bind fun r2002 =>
    (mill_Deck_Next (6 : Int) r2002.2.1).bind fun r2004 =>
    (made_Script (IntKind.u8.wrap (r2004.1.1))).bind fun r2006 =>
    let x2007 := ([((IntKind.i64.wrap ((300 : Int) + r2002.1.1)), (r2006.2.1, ()))] : List D_b101)
    bif (decide ((List.length v.2.2.1) + (List.length x2007) ≤ lim)) then
      some (.inl (((), ((), ((IntKind.i64.wrap (v.1.2.2.1 - (1 : Int))), ()))), (r2004.2.1, ((v.2.2.1 ++ x2007), ()))))
    else
      none
  else
    some (.inr (((), ()), (v.2.1, (v.2.2.1, ()))))

/-- lightclient/lightclientmill.Outputs -/
def mill_Outputs (a0 : Int) (a1 : D_3393) : Option ((Unit × Unit) × D_3393 × (List D_b101) × Unit) :=
  (mill_Deck_Range (1 : Int) a0 a1).bind fun r3 =>
  (loopV (mill_Outputs_L1) (((), ((), (r3.1.1, ()))), (r3.2.1, (([] : List D_b101), ())))).bind fun o4 =>
  some (((), ()), (o4.2.1, (o4.2.2.1, ())))

end Go.PE
end
end

section
set_option linter.unusedVariables false
noncomputable section
namespace Go.PE

def ref01_little_L1 (c0 : Int) (c10 : Int) (v : (Unit × Int × Unit) × (List Int) × Unit) : Option (((Unit × Int × Unit) × (List Int) × Unit) ⊕ ((Unit × Unit) × (List Int) × Unit)) :=
  bif (decide (v.1.2.1 < c10)) then
    let x2002 := (IntKind.i64.wrap ((8 : Int) * v.1.2.1))
    bif (decide (x2002 < 0)) then
      none
    else
      bif (inb v.1.2.1 (List.length v.2.1)) then
        (v.2.1[(Int.toNat v.1.2.1)]?).bind fun e2005 =>
        some (.inl (((), ((IntKind.i64.wrap (v.1.2.1 + (1 : Int))), ())), ((v.2.1.set (Int.toNat v.1.2.1) (IntKind.u8.wrap ((shrI .u64 c0 x2002)))), ())))
      else
        none
  else
    some (.inr (((), ()), (v.2.1, ())))

/-- lightclient/lightclientref01.little -/
def ref01_little (a0 : Int) (a1 : Int) : Option ((Unit × Unit) × (List Int) × Unit) :=
  bif (decide (0 ≤ a1) && decide (a1 ≤ a1) && decide (a1 ≤ (lim : Int))) then
    let x3 := (List.replicate (Int.toNat a1) (0 : Int))
    (loopV (ref01_little_L1 a0 (((List.length x3) : Int))) (((), ((0 : Int), ())), (x3, ()))).bind fun o5 =>
    some (((), ()), (o5.2.1, ()))
  else
    none

/-- lightclient/lightclientref01.joined -/
def ref01_joined (a0 : List Int) (a1 : List Int) : Option ((Unit × Unit) × (List Int) × Unit) :=
  let x5 := (IntKind.i64.wrap ((((List.length a0) : Int)) + (((List.length a1) : Int))))
  bif (decide (0 ≤ (0 : Int)) && decide ((0 : Int) ≤ x5) && decide (x5 ≤ (lim : Int))) then
    let x6 := (List.replicate (0) (0 : Int))
    bif (decide ((List.length x6) + (List.length a0) ≤ lim)) then
      let x7 := (x6 ++ a0)
      bif (decide ((List.length x7) + (List.length a1) ≤ lim)) then
        some (((), ()), ((x7 ++ a1), ()))
      else
        none
    else
      none
  else
    none

/-- lightclient/lightclientref01.AppendU32 -/
def ref01_AppendU32 (a0 : List Int) (a1 : Int) : Option ((Unit × Unit) × (List Int) × Unit) :=
  (ref01_little (IntKind.u64.wrap (a1)) (4 : Int)).bind fun r4 =>
  (ref01_joined a0 r4.2.1).bind fun r5 =>
  some (((), ()), (r5.2.1, ()))

/-- lightclient/lightclientref01.AppendSize -/
def ref01_AppendSize (a0 : List Int) (a1 : Int) : Option ((Unit × Unit) × (List Int) × Unit) :=
  bif (decide (a1 < (253 : Int))) then
    (ref01_little a1 (1 : Int)).bind fun r4 =>
    (ref01_joined a0 r4.2.1).bind fun r5 =>
    some (((), ()), (r5.2.1, ()))
  else
    bif (decide (a1 < (65536 : Int))) then
      (ref01_little a1 (2 : Int)).bind fun r8 =>
      (ref01_joined ([(253 : Int)] : List Int) r8.2.1).bind fun r9 =>
      (ref01_joined a0 r9.2.1).bind fun r10 =>
      some (((), ()), (r10.2.1, ()))
    else
      bif (decide (a1 < (4294967296 : Int))) then
        (ref01_little a1 (4 : Int)).bind fun r13 =>
        (ref01_joined ([(254 : Int)] : List Int) r13.2.1).bind fun r14 =>
        (ref01_joined a0 r14.2.1).bind fun r15 =>
        some (((), ()), (r15.2.1, ()))
      else
        (ref01_little a1 (8 : Int)).bind fun r17 =>
        (ref01_joined ([(255 : Int)] : List Int) r17.2.1).bind fun r18 =>
        (ref01_joined a0 r18.2.1).bind fun r19 =>
        some (((), ()), (r19.2.1, ()))

/-- lightclient/lightclientref01.AppendHash -/
def ref01_AppendHash (a0 : List Int) (a1 : List Int) : Option ((Unit × Unit) × (List Int) × Unit) :=
  (ref01_joined a0 (sub a1 (0) (32))).bind fun r3 =>
  some (((), ()), (r3.2.1, ()))

/-- lightclient/lightclientref01.AppendU64 -/
def ref01_AppendU64 (a0 : List Int) (a1 : Int) : Option ((Unit × Unit) × (List Int) × Unit) :=
  (ref01_little a1 (8 : Int)).bind fun r3 =>
  (ref01_joined a0 r3.2.1).bind fun r4 =>
  some (((), ()), (r4.2.1, ()))

/-- lightclient/lightclientref01.AppendBytes -/
def ref01_AppendBytes (a0 : List Int) (a1 : List Int) : Option ((Unit × Unit) × (List Int) × Unit) :=
  (ref01_AppendSize a0 (IntKind.u64.wrap ((((List.length a1) : Int))))).bind fun r5 =>
  (ref01_joined r5.2.1 a1).bind fun r6 =>
  some (((), ()), (r6.2.1, ()))

/-- lightclient/lightclientref01.Same -/
def ref01_Same (a0 : List Int) (a1 : List Int) : Option ((Bool × Unit) × Unit) :=
  some (((eqList (fun (x y : Int) => decide (x = y)) a0 a1), ()), ())

end Go.PE
end
end

section
set_option linter.unusedVariables false
noncomputable section
namespace Go.PE

/-- lightclient/lightclientref09.Point -/
def ref09_Point (a0 : D_b85e) : Option ((Unit × Unit) × (List Int) × Unit) :=
  (ref01_AppendHash ([] : List Int) a0.1).bind fun r2 =>
  (ref01_AppendU32 r2.2.1 a0.2.1).bind fun r3 =>
  some (((), ()), (r3.2.1, ()))

/-- lightclient/lightclientref09.Out -/
def ref09_Out (a0 : D_b101) : Option ((Unit × Unit) × (List Int) × Unit) :=
  (ref01_AppendU64 ([] : List Int) (IntKind.u64.wrap (a0.1))).bind fun r3 =>
  (ref01_AppendBytes r3.2.1 a0.2.1).bind fun r4 =>
  some (((), ()), (r4.2.1, ()))

def ref09_encode_L1 (c24 : List D_089d) (c25 : Int) (v : (Unit × Unit × Int × Unit) × D_8f0a × (List Int) × Unit) : Option (((Unit × Unit × Int × Unit) × D_8f0a × (List Int) × Unit) ⊕ ((Unit × Unit × Unit) × D_8f0a × (List Int) × Unit)) :=
  bif (decide (v.1.2.2.1 < c25)) then
    bif (inb v.1.2.2.1 (List.length c24)) then
      let x2002 := (rd T_089d c24 v.1.2.2.1)
      (ref09_Point x2002.1).bind fun r2003 =>
      bif (decide ((List.length v.2.2.1) + (List.length r2003.2.1) ≤ lim)) then
        (ref01_AppendU32 (v.2.2.1 ++ r2003.2.1) x2002.2.1).bind fun r2005 =>
        some (.inl (((), ((), ((IntKind.i64.wrap (v.1.2.2.1 + (1 : Int))), ()))), (v.2.1, (r2005.2.1, ()))))
      else
        none
    else
      none
  else
    some (.inr (((), ((), ())), (v.2.1, (v.2.2.1, ()))))

def ref09_encode_L2 (c46 : List D_b101) (c47 : Int) (v : (Unit × Unit × Int × Unit) × D_8f0a × (List Int) × Unit) : Option (((Unit × Unit × Int × Unit) × D_8f0a × (List Int) × Unit) ⊕ ((Unit × Unit × Unit) × D_8f0a × (List Int) × Unit)) :=
  bif (decide (v.1.2.2.1 < c47)) then
    bif (inb v.1.2.2.1 (List.length c46)) then
      (ref09_Out (rd T_b101 c46 v.1.2.2.1)).bind fun r3003 =>
      bif (decide ((List.length v.2.2.1) + (List.length r3003.2.1) ≤ lim)) then
        some (.inl (((), ((), ((IntKind.i64.wrap (v.1.2.2.1 + (1 : Int))), ()))), (v.2.1, ((v.2.2.1 ++ r3003.2.1), ()))))
      else
        none
    else
      none
  else
    some (.inr (((), ((), ())), (v.2.1, (v.2.2.1, ()))))

def ref09_encode_L4 (c77 : List (List Int)) (c78 : Int) (v : (Unit × Int × Unit) × (List Int) × Unit) : Option (((Unit × Int × Unit) × (List Int) × Unit) ⊕ ((Unit × Unit) × (List Int) × Unit)) :=
  bif (decide (v.1.2.1 < c78)) then
    bif (inb v.1.2.1 (List.length c77)) then
      (ref01_AppendBytes v.2.1 (rd (.slice (.int .u8)) c77 v.1.2.1)).bind fun r5003 =>
      some (.inl (((), ((IntKind.i64.wrap (v.1.2.1 + (1 : Int))), ())), (r5003.2.1, ())))
    else
      none
  else
    some (.inr (((), ()), (v.2.1, ())))

def ref09_encode_L3 (c1 : Bool) (c62 : List D_089d) (c63 : Int) (v : (Unit × Int × Unit) × (List Int) × Unit) : Option (((Unit × Int × Unit) × (List Int) × Unit) ⊕ ((Unit × Unit) × (List Int) × Unit)) :=
  bif (decide (v.1.2.1 < c63)) then
    bif (inb v.1.2.1 (List.length c62)) then
      let x4002 := (rd T_089d c62 v.1.2.1)
      bif (!c1) then
        some (.inr (((), ()), (v.2.1, ())))
      else
        (ref01_AppendSize v.2.1 (IntKind.u64.wrap ((((List.length x4002.2.2.1) : Int))))).bind fun r4006 =>
        (loopV (ref09_encode_L4 x4002.2.2.1 (((List.length x4002.2.2.1) : Int))) (((), ((0 : Int), ())), (r4006.2.1, ()))).bind fun o4008 =>
        some (.inl (((), ((IntKind.i64.wrap (v.1.2.1 + (1 : Int))), ())), (o4008.2.1, ())))
    else
      none
  else
    some (.inr (((), ()), (v.2.1, ())))

/-- lightclient/lightclientref09.encode -/
def ref09_encode (a0 : D_8f0a) (a1 : Bool) : Option ((Unit × Unit) × (List Int) × Unit) :=
  (ref01_AppendU32 ([] : List Int) a0.1).bind fun r3 =>
  (ref01_AppendSize r3.2.1 (IntKind.u64.wrap ((((List.length a0.2.1) : Int))))).bind fun r6 =>
  (loopV (ref09_encode_L1 a0.2.1 (((List.length a0.2.1) : Int))) (((), ((), ((0 : Int), ()))), (a0, (r6.2.1, ())))).bind fun o8 =>
  (ref01_AppendSize o8.2.2.1 (IntKind.u64.wrap ((((List.length o8.2.1.2.2.1) : Int))))).bind fun r11 =>
  (loopV (ref09_encode_L2 o8.2.1.2.2.1 (((List.length o8.2.1.2.2.1) : Int))) (((), ((), ((0 : Int), ()))), (o8.2.1, (r11.2.1, ())))).bind fun o13 =>
  (ref01_AppendU32 o13.2.2.1 o13.2.1.2.2.2.1).bind fun r14 =>
  (loopV (ref09_encode_L3 a1 o13.2.1.2.1 (((List.length o13.2.1.2.1) : Int))) (((), ((0 : Int), ())), (r14.2.1, ()))).bind fun o16 =>
  some (((), ()), (o16.2.1, ()))

def ref09_Fits_L1 (c20 : List D_b101) (c21 : Int) (v : (Unit × Int × Unit) × D_8f0a × Unit) : Option (((Unit × Int × Unit) × D_8f0a × Unit) ⊕ (((Bool × Unit) × Unit) ⊕ ((Unit × Unit) × D_8f0a × Unit))) :=
  bif (decide (v.1.2.1 < c21)) then
    bif (inb v.1.2.1 (List.length c20)) then
      let x2002 := (rd T_b101 c20 v.1.2.1)
      bif (decide (x2002.1 < (0 : Int))) then
        some (.inr (.inl ((false, ()), ())))
      else
        bif (decide ((520 : Int) < (((List.length x2002.2.1) : Int)))) then
          some (.inr (.inl ((false, ()), ())))
        else
          some (.inl (((), ((IntKind.i64.wrap (v.1.2.1 + (1 : Int))), ())), (v.2.1, ())))
    else
      none
  else
    some (.inr (.inr (((), ()), (v.2.1, ()))))

def ref09_Fits_L3 (c48 : List (List Int)) (c49 : Int) (v : (Unit × Int × Unit) × D_8f0a × Unit) : Option (((Unit × Int × Unit) × D_8f0a × Unit) ⊕ (((Bool × Unit) × Unit) ⊕ ((Unit × Unit) × D_8f0a × Unit))) :=
  bif (decide (v.1.2.1 < c49)) then
    bif (inb v.1.2.1 (List.length c48)) then
      bif (decide ((520 : Int) < (((List.length (rd (.slice (.int .u8)) c48 v.1.2.1)) : Int)))) then
        some (.inr (.inl ((false, ()), ())))
      else
        some (.inl (((), ((IntKind.i64.wrap (v.1.2.1 + (1 : Int))), ())), (v.2.1, ())))
    else
      none
  else
    some (.inr (.inr (((), ()), (v.2.1, ()))))

def ref09_Fits_L2 (c37 : List D_089d) (c38 : Int) (v : (Unit × Int × Unit) × D_8f0a × Unit) : Option (((Unit × Int × Unit) × D_8f0a × Unit) ⊕ (((Bool × Unit) × Unit) ⊕ ((Unit × Unit) × D_8f0a × Unit))) :=
  bif (decide (v.1.2.1 < c38)) then
    bif (inb v.1.2.1 (List.length c37)) then
      let x3002 := (rd T_089d c37 v.1.2.1)
      bif (decide ((32 : Int) < (((List.length x3002.2.2.1) : Int)))) then
        some (.inr (.inl ((false, ()), ())))
      else
        (loopV (ref09_Fits_L3 x3002.2.2.1 (((List.length x3002.2.2.1) : Int))) (((), ((0 : Int), ())), (v.2.1, ()))).bind fun o3006 =>
        match o3006 with
        | .inl o3007 =>
          some (.inr (.inl ((o3007.1.1, ()), ())))
        | .inr o3008 =>
          some (.inl (((), ((IntKind.i64.wrap (v.1.2.1 + (1 : Int))), ())), (o3008.2.1, ())))
    else
      none
  else
    some (.inr (.inr (((), ()), (v.2.1, ()))))

/-- lightclient/lightclientref09.Fits -/
def ref09_Fits (a0 : D_8f0a) : Option ((Bool × Unit) × Unit) :=
  bif (decide ((64 : Int) < (((List.length a0.2.1) : Int)))) then
    some ((false, ()), ())
  else
    bif (decide ((64 : Int) < (((List.length a0.2.2.1) : Int)))) then
      some ((false, ()), ())
    else
      (loopV (ref09_Fits_L1 a0.2.2.1 (((List.length a0.2.2.1) : Int))) (((), ((0 : Int), ())), (a0, ()))).bind fun o7 =>
      match o7 with
      | .inl o8 =>
        some ((o8.1.1, ()), ())
      | .inr o9 =>
        (loopV (ref09_Fits_L2 o9.2.1.2.1 (((List.length o9.2.1.2.1) : Int))) (((), ((0 : Int), ())), (o9.2.1, ()))).bind fun o11 =>
        match o11 with
        | .inl o12 =>
          some ((o12.1.1, ()), ())
        | .inr o13 =>
          (ref09_encode o13.2.1 true).bind fun r14 =>
          some (((decide ((((List.length r14.2.1) : Int)) ≤ (20000 : Int))), ()), ())

/-- lightclient/lightclientref09.Null -/
def ref09_Null (a0 : D_b85e) : Option ((Bool × Unit) × Unit) :=
  some (((Ty.eqb T_b85e a0 ((List.replicate 32 (0 : Int)), ((4294967295 : Int), ()))), ()), ())

/-- lightclient/lightclientref09.Coinbase -/
def ref09_Coinbase (a0 : D_8f0a) : Option ((Bool × Unit) × Unit) :=
  bif (decide ((((List.length a0.2.1) : Int)) = (1 : Int))) then
    bif (inb (0 : Int) (List.length a0.2.1)) then
      (ref09_Null (rd T_089d a0.2.1 (0 : Int)).1).bind fun r5 =>
      some ((r5.1.1, ()), ())
    else
      none
  else
    some ((false, ()), ())

def ref09_Check_L1 (c24 : List D_b101) (c25 : Int) (v : (Unit × Int × Int × Unit) × D_8f0a × Unit) : Option (((Unit × Int × Int × Unit) × D_8f0a × Unit) ⊕ (((Int × Unit) × Unit) ⊕ ((Unit × Int × Unit) × D_8f0a × Unit))) :=
  bif (decide (v.1.2.2.1 < c25)) then
    bif (inb v.1.2.2.1 (List.length c24)) then
      let x2002 := (rd T_b101 c24 v.1.2.2.1)
      bif (decide ((2100000000000000 : Int) < x2002.1)) then
        some (.inr (.inl (((90 : Int), ()), ())))
      else
        some (.inl (((), ((IntKind.i64.wrap (v.1.2.1 + x2002.1)), ((IntKind.i64.wrap (v.1.2.2.1 + (1 : Int))), ()))), (v.2.1, ())))
    else
      none
  else
    some (.inr (.inr (((), (v.1.2.1, ())), (v.2.1, ()))))

def ref09_Check_L3 (c6 : Int) (v : (Unit × Int × Unit) × D_8f0a × Unit) : Option (((Unit × Int × Unit) × D_8f0a × Unit) ⊕ (((Int × Unit) × Unit) ⊕ ((Unit × Unit) × D_8f0a × Unit))) :=
  bif (decide (v.1.2.1 < c6)) then
    bif (inb c6 (List.length v.2.1.2.1)) then
      bif (inb v.1.2.1 (List.length v.2.1.2.1)) then
        bif (Ty.eqb T_b85e (rd T_089d v.2.1.2.1 c6).1 (rd T_089d v.2.1.2.1 v.1.2.1).1) then
          some (.inr (.inl (((91 : Int), ()), ())))
        else
          some (.inl (((), ((IntKind.i64.wrap (v.1.2.1 + (1 : Int))), ())), (v.2.1, ())))
      else
        none
    else
      none
  else
    some (.inr (.inr (((), ()), (v.2.1, ()))))

def ref09_Check_L2 (c42 : Int) (v : (Unit × Int × Unit) × D_8f0a × Unit) : Option (((Unit × Int × Unit) × D_8f0a × Unit) ⊕ (((Int × Unit) × Unit) ⊕ ((Unit × Unit) × D_8f0a × Unit))) :=
  bif (decide (v.1.2.1 < c42)) then
    (loopV (ref09_Check_L3 v.1.2.1) (((), ((0 : Int), ())), (v.2.1, ()))).bind fun o3002 =>
    match o3002 with
    | .inl o3003 =>
      some (.inr (.inl ((o3003.1.1, ()), ())))
    | .inr o3004 =>
      some (.inl (((), ((IntKind.i64.wrap (v.1.2.1 + (1 : Int))), ())), (o3004.2.1, ())))
  else
    some (.inr (.inr (((), ()), (v.2.1, ()))))

def ref09_Check_L4 (c66 : List D_089d) (c67 : Int) (v : (Unit × Int × Unit) × D_8f0a × Unit) : Option (((Unit × Int × Unit) × D_8f0a × Unit) ⊕ (((Int × Unit) × Unit) ⊕ ((Unit) × Unit))) :=
  bif (decide (v.1.2.1 < c67)) then
    bif (inb v.1.2.1 (List.length c66)) then
      (ref09_Null (rd T_089d c66 v.1.2.1).1).bind fun r5003 =>
      bif r5003.1.1 then
        (ref09_Coinbase v.2.1).bind fun r5004 =>
        bif (!r5004.1.1) then
          some (.inr (.inl (((92 : Int), ()), ())))
        else
          some (.inl (((), ((IntKind.i64.wrap (v.1.2.1 + (1 : Int))), ())), (v.2.1, ())))
      else
        some (.inl (((), ((IntKind.i64.wrap (v.1.2.1 + (1 : Int))), ())), (v.2.1, ())))
    else
      none
  else
    some (.inr (.inr ((), ())))

/-- lightclient/lightclientref09.Check -/
def ref09_Check (a0 : D_8f0a) : Option ((Int × Unit) × Unit) :=
  (ref09_Fits a0).bind fun r2 =>
  bif (!r2.1.1) then
    some (((4 : Int), ()), ())
  else
    bif (decide ((((List.length a0.2.1) : Int)) = (0 : Int))) then
      some (((93 : Int), ()), ())
    else
      bif (decide ((((List.length a0.2.2.1) : Int)) = (0 : Int))) then
        some (((93 : Int), ()), ())
      else
        (loopV (ref09_Check_L1 a0.2.2.1 (((List.length a0.2.2.1) : Int))) (((), ((0 : Int), ((0 : Int), ()))), (a0, ()))).bind fun o9 =>
        match o9 with
        | .inl o10 =>
          some ((o10.1.1, ()), ())
        | .inr o11 =>
          bif (decide ((2100000000000000 : Int) < o11.1.2.1)) then
            some (((90 : Int), ()), ())
          else
            (loopV (ref09_Check_L2 (((List.length o11.2.1.2.1) : Int))) (((), ((0 : Int), ())), (o11.2.1, ()))).bind fun o14 =>
            match o14 with
            | .inl o15 =>
              some ((o15.1.1, ()), ())
            | .inr o16 =>
              (loopV (ref09_Check_L4 o16.2.1.2.1 (((List.length o16.2.1.2.1) : Int))) (((), ((0 : Int), ())), (o16.2.1, ()))).bind fun o18 =>
              match o18 with
              | .inl o19 =>
                some ((o19.1.1, ()), ())
              | .inr o20 =>
                some (((0 : Int), ()), ())

/-- lightclient/lightclientref09.SameOut -/
def ref09_SameOut (a0 : D_b101) (a1 : D_b101) : Option ((Bool × Unit) × Unit) :=
  bif (decide (a0.1 = a1.1)) then
    (ref01_Same a0.2.1 a1.2.1).bind fun r4 =>
    some ((r4.1.1, ()), ())
  else
    some ((false, ()), ())

end Go.PE
end
end

section
set_option linter.unusedVariables false
noncomputable section
namespace Go.PE

def ref10_Fee_L1 (c1 : List D_6b85) (c25 : Int) (v : (Unit × Int × Unit) × D_8f0a × Unit) : Option (((Unit × Int × Unit) × D_8f0a × Unit) ⊕ (((Int × Int × Unit) × Unit) ⊕ ((Unit × Unit) × D_8f0a × Unit))) :=
  bif (decide (v.1.2.1 < c25)) then
    bif (inb v.1.2.1 (List.length c1)) then
      bif (inb v.1.2.1 (List.length v.2.1.2.1)) then
        bif (!(Ty.eqb T_b85e (rd T_6b85 c1 v.1.2.1).1 (rd T_089d v.2.1.2.1 v.1.2.1).1)) then
          some (.inr (.inl (((0 : Int), ((101 : Int), ())), ())))
        else
          some (.inl (((), ((IntKind.i64.wrap (v.1.2.1 + (1 : Int))), ())), (v.2.1, ())))
      else
        none
    else
      none
  else
    some (.inr (.inr (((), ()), (v.2.1, ()))))

def ref10_Fee_L2 (c42 : List D_6b85) (c43 : Int) (v : (Unit × Int × Int × Unit) × D_8f0a × Unit) : Option (((Unit × Int × Int × Unit) × D_8f0a × Unit) ⊕ (((Int × Int × Unit) × Unit) ⊕ ((Unit × Int × Unit) × D_8f0a × Unit))) :=
  bif (decide (v.1.2.2.1 < c43)) then
    bif (inb v.1.2.2.1 (List.length c42)) then
      let x3002 := (rd T_6b85 c42 v.1.2.2.1)
      bif (decide (x3002.2.1.1 < (0 : Int))) then
        some (.inr (.inl (((0 : Int), ((90 : Int), ())), ())))
      else
        bif (decide ((2100000000000000 : Int) < x3002.2.1.1)) then
          some (.inr (.inl (((0 : Int), ((90 : Int), ())), ())))
        else
          some (.inl (((), ((IntKind.i64.wrap (v.1.2.1 + x3002.2.1.1)), ((IntKind.i64.wrap (v.1.2.2.1 + (1 : Int))), ()))), (v.2.1, ())))
    else
      none
  else
    some (.inr (.inr (((), (v.1.2.1, ())), (v.2.1, ()))))

def ref10_Fee_L3 (c67 : List D_b101) (c68 : Int) (v : (Int × Int × Unit) × Unit) : Option (((Int × Int × Unit) × Unit) ⊕ ((Int × Unit) × Unit)) :=
  bif (decide (v.1.2.1 < c68)) then
    bif (inb v.1.2.1 (List.length c67)) then
      some (.inl (((IntKind.i64.wrap (v.1.1 - (rd T_b101 c67 v.1.2.1).1)), ((IntKind.i64.wrap (v.1.2.1 + (1 : Int))), ())), ()))
    else
      none
  else
    some (.inr ((v.1.1, ()), ()))

/-- lightclient/lightclientref10.Fee -/
def ref10_Fee (a0 : D_8f0a) (a1 : List D_6b85) : Option ((Int × Int × Unit) × Unit) :=
  (ref09_Check a0).bind fun r3 =>
  bif (!decide (r3.1.1 = (0 : Int))) then
    some (((0 : Int), (r3.1.1, ())), ())
  else
    bif (!decide ((((List.length a1) : Int)) = (((List.length a0.2.1) : Int)))) then
      some (((0 : Int), ((8 : Int), ())), ())
    else
      (loopV (ref10_Fee_L1 a1 (((List.length a1) : Int))) (((), ((0 : Int), ())), (a0, ()))).bind fun o9 =>
      match o9 with
      | .inl o10 =>
        some ((o10.1.1, (o10.1.2.1, ())), ())
      | .inr o11 =>
        (loopV (ref10_Fee_L2 a1 (((List.length a1) : Int))) (((), ((0 : Int), ((0 : Int), ()))), (o11.2.1, ()))).bind fun o13 =>
        match o13 with
        | .inl o14 =>
          some ((o14.1.1, (o14.1.2.1, ())), ())
        | .inr o15 =>
          bif (decide ((2100000000000000 : Int) < o15.1.2.1)) then
            some (((0 : Int), ((90 : Int), ())), ())
          else
            (loopV (ref10_Fee_L3 o15.2.1.2.2.1 (((List.length o15.2.1.2.2.1) : Int))) ((o15.1.2.1, ((0 : Int), ())), ())).bind fun o18 =>
            bif (decide (o18.1.1 < (0 : Int))) then
              some (((0 : Int), ((100 : Int), ())), ())
            else
              some ((o18.1.1, ((0 : Int), ())), ())

end Go.PE
end
end

section
set_option linter.unusedVariables false
noncomputable section
namespace Go.PE

/-- lightclient/lightclientref34.in -/
def ref34_in (a0 : Int) (a1 : Int) (a2 : Int) : Option ((Bool × Unit) × Unit) :=
  bif (decide (a1 ≤ a0)) then
    some (((decide (a0 ≤ a2)), ()), ())
  else
    some ((false, ()), ())

def ref34_Valid_L1 (v : (Unit × Int × Unit) × D_0798 × Unit) : Option (((Unit × Int × Unit) × D_0798 × Unit) ⊕ (((Bool × Unit) × Unit) ⊕ ((Unit × Unit) × D_0798 × Unit))) :=
  bif (decide (v.1.2.1 < (((List.length v.2.1.1.2.1) : Int)))) then
    bif (inb v.1.2.1 (List.length v.2.1.1.2.1)) then
      bif (decide ((0 : Int) < (((List.length (rd T_089d v.2.1.1.2.1 v.1.2.1).2.2.1) : Int)))) then
        some (.inr (.inl ((false, ()), ())))
      else
        some (.inl (((), ((IntKind.i64.wrap (v.1.2.1 + (1 : Int))), ())), (v.2.1, ())))
    else
      none
  else
    some (.inr (.inr (((), ()), (v.2.1, ()))))

/-- lightclient/lightclientref34.Valid -/
def ref34_Valid (a0 : D_0798) : Option ((Bool × Unit) × Unit) :=
  (ref09_Check a0.1).bind fun r2 =>
  bif (!decide (r2.1.1 = (0 : Int))) then
    some ((false, ()), ())
  else
    (ref09_Coinbase a0.1).bind fun r4 =>
    bif r4.1.1 then
      some ((false, ()), ())
    else
      (ref34_in a0.2.2.2.1 (-1 : Int) (IntKind.i64.wrap ((((List.length a0.1.2.2.1) : Int)) - (1 : Int)))).bind fun r7 =>
      bif (!r7.1.1) then
        some ((false, ()), ())
      else
        (loopV (ref34_Valid_L1) (((), ((0 : Int), ())), (a0, ()))).bind fun o9 =>
        match o9 with
        | .inl o10 =>
          some ((o10.1.1, ()), ())
        | .inr o11 =>
          (ref10_Fee o11.2.1.1 o11.2.1.2.1).bind fun r12 =>
          bif (decide (r12.1.2.1 = (0 : Int))) then
            some (((decide (r12.1.1 = o11.2.1.2.2.1)), ()), ())
          else
            some ((false, ()), ())

end Go.PE
end
end

section
set_option linter.unusedVariables false
noncomputable section
namespace Go.PE

/-- lightclient/lightclientlaw34.sane -/
def law34_sane : Option ((Bool × Unit) × Unit) :=
  (build_Fee (1001 : Int) (1000 : Int)).bind fun r1 =>
  bif (decide (r1.1.1 = (1001 : Int))) then
    (build_Fee (1 : Int) (1 : Int)).bind fun r3 =>
    bif (decide (r3.1.1 = (1 : Int))) then
      (build_InputWeight ((((List.replicate 32 (0 : Int)), ((0 : Int), ())), (((0 : Int), (([] : List Int), ())), ((0 : Int), (false, ())))), ((4 : Int), ()))).bind fun r5 =>
      some (((decide (r5.1.1 = (165 : Int))), ()), ())
    else
      some ((false, ()), ())
  else
    some ((false, ()), ())

def law34_BuildValid_J1 (c1 : Int) (c2 : Int) (v : (Unit × Unit × Unit) × ((Int × Unit × Unit × Int × Unit) × Unit × Int × Int × Unit) × ((Int × Unit × Unit × Int × Unit) × Unit × Int × Int × Unit) × (List D_089d) × (List D_b101) × (List D_6b85) × (List D_089d) × (List D_6b85) × Unit) : Option ((Unit × Unit × Unit) × ((Int × Unit × Unit × Int × Unit) × Unit × Int × Int × Unit) × ((Int × Unit × Unit × Int × Unit) × (List D_6b85) × Int × Int × Unit) × (List D_089d) × (List D_b101) × (List D_6b85) × (List D_089d) × Unit) :=
  (mill_Mod c1 (8 : Int)).bind fun r2001 =>
  bif (decide (r2001.1.1 = (0 : Int))) then
    (mill_Mod c2 (3 : Int)).bind fun r2003 =>
    some (((), ((), ())), (((v.2.1.1.1, ((), ((), v.2.1.1.2.2.2))), ((), v.2.1.2.2)), (((v.2.2.1.1.1, ((), ((), v.2.2.1.1.2.2.2))), (v.2.2.2.2.2.2.2.1, ((IntKind.i64.wrap ((IntKind.i64.wrap (v.2.2.1.2.2.1 + r2003.1.1)) - (1 : Int))), v.2.2.1.2.2.2))), (v.2.2.2.1, (v.2.2.2.2.1, (v.2.2.2.2.2.1, (v.2.2.2.2.2.2.1, ())))))))
  else
    bif (decide (r2001.1.1 = (1 : Int))) then
      (mill_Mod c2 (5 : Int)).bind fun r2007 =>
      some (((), ((), ())), (((v.2.1.1.1, ((), ((), v.2.1.1.2.2.2))), ((), v.2.1.2.2)), (((v.2.2.1.1.1, ((), ((), v.2.2.1.1.2.2.2))), (v.2.2.2.2.2.2.2.1, (v.2.2.1.2.2.1, ((IntKind.i64.wrap (r2007.1.1 - (2 : Int))), v.2.2.1.2.2.2.2)))), (v.2.2.2.1, (v.2.2.2.2.1, (v.2.2.2.2.2.1, (v.2.2.2.2.2.2.1, ())))))))
    else
      bif (decide (r2001.1.1 = (2 : Int))) then
        (mill_Mod c2 (2 : Int)).bind fun r2010 =>
        bif (inb r2010.1.1 (List.length v.2.2.2.2.2.2.1)) then
          (v.2.2.2.2.2.2.1[(Int.toNat r2010.1.1)]?).bind fun e2013 =>
          some (((), ((), ())), (((v.2.1.1.1, ((), ((), v.2.1.1.2.2.2))), ((), v.2.1.2.2)), (((v.2.2.1.1.1, ((), ((), v.2.2.1.1.2.2.2))), (v.2.2.2.2.2.2.2.1, v.2.2.1.2.2)), (v.2.2.2.1, (v.2.2.2.2.1, (v.2.2.2.2.2.1, ((v.2.2.2.2.2.2.1.set (Int.toNat r2010.1.1) (e2013.1, (e2013.2.1, (([([(1 : Int)] : List Int)] : List (List Int)), e2013.2.2.2)))), ())))))))
        else
          none
      else
        bif (decide (r2001.1.1 = (3 : Int))) then
          bif (decide (0 ≤ (1 : Int)) && decide ((1 : Int) ≤ ((List.length v.2.2.2.2.2.2.2.1) : Int))) then
            some (((), ((), ())), (((v.2.1.1.1, ((), ((), v.2.1.1.2.2.2))), ((), v.2.1.2.2)), (((v.2.2.1.1.1, ((), ((), v.2.2.1.1.2.2.2))), ((sub v.2.2.2.2.2.2.2.1 (1) ((List.length v.2.2.2.2.2.2.2.1) - (1))), v.2.2.1.2.2)), (v.2.2.2.1, (v.2.2.2.2.1, (v.2.2.2.2.2.1, (v.2.2.2.2.2.2.1, ())))))))
          else
            none
        else
          bif (decide (r2001.1.1 = (4 : Int))) then
            bif (inb (1 : Int) (List.length v.2.2.2.2.2.2.2.1)) then
              (v.2.2.2.2.2.2.2.1[(1)]?).bind fun e2017 =>
              bif (inb (0 : Int) (List.length v.2.2.2.2.2.2.2.1)) then
                (v.2.2.2.2.2.2.2.1[(0)]?).bind fun e2018 =>
                bif (inb (0 : Int) (List.length v.2.2.2.2.2.2.2.1)) then
                  (v.2.2.2.2.2.2.2.1[(0)]?).bind fun e2019 =>
                  let x2020 := (v.2.2.2.2.2.2.2.1.set (0) e2017)
                  bif (inb (1 : Int) (List.length x2020)) then
                    (x2020[(1)]?).bind fun e2021 =>
                    some (((), ((), ())), (((v.2.1.1.1, ((), ((), v.2.1.1.2.2.2))), ((), v.2.1.2.2)), (((v.2.2.1.1.1, ((), ((), v.2.2.1.1.2.2.2))), ((x2020.set (1) e2018), v.2.2.1.2.2)), (v.2.2.2.1, (v.2.2.2.2.1, (v.2.2.2.2.2.1, (v.2.2.2.2.2.2.1, ())))))))
                  else
                    none
                else
                  none
              else
                none
            else
              none
          else
            bif (decide (r2001.1.1 = (5 : Int))) then
              bif (inb (0 : Int) (List.length v.2.2.2.2.2.2.1)) then
                (v.2.2.2.2.2.2.1[(0)]?).bind fun e2024 =>
                bif (inb (1 : Int) (List.length v.2.2.2.2.2.2.1)) then
                  (v.2.2.2.2.2.2.1[(1)]?).bind fun e2025 =>
                  some (((), ((), ())), (((v.2.1.1.1, ((), ((), v.2.1.1.2.2.2))), ((), v.2.1.2.2)), (((v.2.2.1.1.1, ((), ((), v.2.2.1.1.2.2.2))), (v.2.2.2.2.2.2.2.1, v.2.2.1.2.2)), (v.2.2.2.1, (v.2.2.2.2.1, (v.2.2.2.2.2.1, ((v.2.2.2.2.2.2.1.set (1) e2024), ())))))))
                else
                  none
              else
                none
            else
              bif (decide (r2001.1.1 = (6 : Int))) then
                (made_Null).bind fun r2028 =>
                some (((), ((), ())), (((v.2.1.1.1, ((), ((), v.2.1.1.2.2.2))), ((), v.2.1.2.2)), (((v.2.2.1.1.1, ((), ((), v.2.2.1.1.2.2.2))), (v.2.2.2.2.2.2.2.1, v.2.2.1.2.2)), (v.2.2.2.1, (v.2.2.2.2.1, (v.2.2.2.2.2.1, (([(r2028.1.1, ((0 : Int), (([] : List (List Int)), ())))] : List D_089d), ())))))))
              else
                some (((), ((), ())), (((v.2.1.1.1, ((), ((), v.2.1.1.2.2.2))), ((), v.2.1.2.2)), (((v.2.2.1.1.1, ((), ((), v.2.2.1.1.2.2.2))), (v.2.2.2.2.2.2.2.1, v.2.2.1.2.2)), (v.2.2.2.1, (v.2.2.2.2.1, (v.2.2.2.2.2.1, (v.2.2.2.2.2.2.1, ())))))))

/-- lightclient/lightclientlaw34.BuildValid -/
def law34_BuildValid (a0 : List Int) (a1 : Int) (a2 : Int) : Option ((Bool × Unit) × Unit) :=
  (law34_sane).bind fun r4 =>
  bif (!r4.1.1) then
    some ((false, ()), ())
  else
    (mill_New a0).bind fun r6 =>
    (made_Script (0 : Int)).bind fun r7 =>
    (made_Script (1 : Int)).bind fun r8 =>
    (mill_Plan ([r7.2.1, r8.2.1] : List (List Int)) r6.2.1).bind fun r10 =>
    bif (decide ((List.length ([] : List D_089d)) + (List.length r10.2.2.1) ≤ lim)) then
      bif (decide ((List.length ([] : List D_6b85)) + (List.length r10.2.2.2.2.1) ≤ lim)) then
        (law34_BuildValid_J1 a1 a2 (((), ((), ())), (((r10.1.1.1.1, ((), ((), r10.1.1.1.2.2.2))), ((), r10.1.1.2.2)), (((r10.1.1.1.1, ((), ((), r10.1.1.1.2.2.2))), ((), r10.1.1.2.2)), (r10.2.2.1, (r10.2.2.2.1, (r10.2.2.2.2.1, ((([] : List D_089d) ++ r10.2.2.1), ((([] : List D_6b85) ++ r10.2.2.2.2.1), ()))))))))).bind fun o13 =>
        (build_Valid ((o13.2.1.1.1, (o13.2.2.2.1, (o13.2.2.2.2.1, o13.2.1.1.2.2.2))), (o13.2.2.2.2.2.1, o13.2.1.2.2))).bind fun r14 =>
        (ref34_Valid ((o13.2.1.1.1, (o13.2.2.2.1, (o13.2.2.2.2.1, o13.2.1.1.2.2.2))), (o13.2.2.2.2.2.1, o13.2.1.2.2))).bind fun r15 =>
        bif (Ty.eqb .bool r14.1.1 r15.1.1) then
          (build_Valid ((o13.2.2.1.1.1, (o13.2.2.2.2.2.2.1, (o13.2.2.2.2.1, o13.2.2.1.1.2.2.2))), o13.2.2.1.2)).bind fun r17 =>
          (ref34_Valid ((o13.2.2.1.1.1, (o13.2.2.2.2.2.2.1, (o13.2.2.2.2.1, o13.2.2.1.1.2.2.2))), o13.2.2.1.2)).bind fun r18 =>
          some (((Ty.eqb .bool r17.1.1 r18.1.1), ()), ())
        else
          some ((false, ()), ())
      else
        none
    else
      none

/-- lightclient/lightclientlaw34.change -/
def law34_change (a0 : Int) : Option ((Unit × Unit) × (List Int) × Unit) :=
  (mill_Mod a0 (3 : Int)).bind fun r2 =>
  bif (decide (r2.1.1 = (0 : Int))) then
    some (((), ()), (([] : List Int), ()))
  else
    (mill_Mod a0 (6 : Int)).bind fun r4 =>
    (made_Script (IntKind.u8.wrap (r4.1.1))).bind fun r6 =>
    some (((), ()), (r6.2.1, ()))

def law34_BuildBalances_L2 (c16 : Int) (c76 : List D_c1fb) (c77 : Int) (v : (Unit × Unit × Int × Unit) × ((Int × Unit × Unit × Int × Unit) × Unit × Int × Int × Unit) × (List D_c1fb) × (List D_089d) × (List D_b101) × (List D_6b85) × Unit) : Option (((Unit × Unit × Int × Unit) × ((Int × Unit × Unit × Int × Unit) × Unit × Int × Int × Unit) × (List D_c1fb) × (List D_089d) × (List D_b101) × (List D_6b85) × Unit) ⊕ ((Unit × Unit × Unit) × ((Int × Unit × Unit × Int × Unit) × Unit × Int × Int × Unit) × (List D_c1fb) × (List D_089d) × (List D_b101) × (List D_6b85) × Unit)) :=
  bif (decide (v.1.2.2.1 < c77)) then
    bif (inb v.1.2.2.1 (List.length c76)) then
      let x3002 := (rd T_c1fb c76 v.1.2.2.1)
      bif (inb c16 (List.length v.2.2.2.2.2.1)) then
        (v.2.2.2.2.2.1[(Int.toNat c16)]?).bind fun e3003 =>
        bif (Ty.eqb T_b85e x3002.1.1 e3003.1) then
          bif (inb c16 (List.length v.2.2.2.2.2.1)) then
            (v.2.2.2.2.2.1[(Int.toNat c16)]?).bind fun e3005 =>
            bif (decide (x3002.1.2.1.1 = e3005.2.1.1)) then
              let x3007 := ([x3002] : List D_c1fb)
              bif (decide ((List.length v.2.2.1) + (List.length x3007) ≤ lim)) then
                some (.inl (((), ((), ((IntKind.i64.wrap (v.1.2.2.1 + (1 : Int))), ()))), (((v.2.1.1.1, ((), ((), v.2.1.1.2.2.2))), ((), v.2.1.2.2)), ((v.2.2.1 ++ x3007), (v.2.2.2.1, (v.2.2.2.2.1, (v.2.2.2.2.2.1, ())))))))
              else
                none
            else
              some (.inl (((), ((), ((IntKind.i64.wrap (v.1.2.2.1 + (1 : Int))), ()))), (((v.2.1.1.1, ((), ((), v.2.1.1.2.2.2))), ((), v.2.1.2.2)), (v.2.2.1, (v.2.2.2.1, (v.2.2.2.2.1, (v.2.2.2.2.2.1, ())))))))
          else
            none
        else
          some (.inl (((), ((), ((IntKind.i64.wrap (v.1.2.2.1 + (1 : Int))), ()))), (((v.2.1.1.1, ((), ((), v.2.1.1.2.2.2))), ((), v.2.1.2.2)), (v.2.2.1, (v.2.2.2.1, (v.2.2.2.2.1, (v.2.2.2.2.2.1, ())))))))
      else
        none
    else
      none
  else
    some (.inr (((), ((), ())), (((v.2.1.1.1, ((), ((), v.2.1.1.2.2.2))), ((), v.2.1.2.2)), (v.2.2.1, (v.2.2.2.1, (v.2.2.2.2.1, (v.2.2.2.2.2.1, ())))))))

def law34_BuildBalances_L1 (c10 : List D_c1fb) (c72 : Int) (v : (Unit × Unit × Int × Unit) × ((Int × Unit × Unit × Int × Unit) × Unit × Int × Int × Unit) × (List D_c1fb) × (List D_089d) × (List D_b101) × (List D_6b85) × Unit) : Option (((Unit × Unit × Int × Unit) × ((Int × Unit × Unit × Int × Unit) × Unit × Int × Int × Unit) × (List D_c1fb) × (List D_089d) × (List D_b101) × (List D_6b85) × Unit) ⊕ ((Unit × Unit × Unit) × ((Int × Unit × Unit × Int × Unit) × Unit × Int × Int × Unit) × (List D_c1fb) × (List D_089d) × (List D_b101) × (List D_6b85) × Unit)) :=
  bif (decide (v.1.2.2.1 < c72)) then
    (loopV (law34_BuildBalances_L2 v.1.2.2.1 c10 (((List.length c10) : Int))) (((), ((), ((0 : Int), ()))), (((v.2.1.1.1, ((), ((), v.2.1.1.2.2.2))), ((), v.2.1.2.2)), (v.2.2.1, (v.2.2.2.1, (v.2.2.2.2.1, (v.2.2.2.2.2.1, ()))))))).bind fun o2003 =>
    some (.inl (((), ((), ((IntKind.i64.wrap (v.1.2.2.1 + (1 : Int))), ()))), (((o2003.2.1.1.1, ((), ((), o2003.2.1.1.2.2.2))), ((), o2003.2.1.2.2)), (o2003.2.2.1, (o2003.2.2.2.1, (o2003.2.2.2.2.1, (o2003.2.2.2.2.2.1, ())))))))
  else
    some (.inr (((), ((), ())), (((v.2.1.1.1, ((), ((), v.2.1.1.2.2.2))), ((), v.2.1.2.2)), (v.2.2.1, (v.2.2.2.1, (v.2.2.2.2.1, (v.2.2.2.2.2.1, ())))))))

def law34_BuildBalances_L3 (c11 : List D_b101) (c113 : Int) (v : (Unit × Unit × Int × Unit) × ((Int × Unit × Unit × Int × Unit) × Unit × Int × Int × Unit) × (List D_c1fb) × (List D_089d) × (List D_b101) × (List D_6b85) × Unit) : Option (((Unit × Unit × Int × Unit) × ((Int × Unit × Unit × Int × Unit) × Unit × Int × Int × Unit) × (List D_c1fb) × (List D_089d) × (List D_b101) × (List D_6b85) × Unit) ⊕ (((Bool × Unit) × Unit) ⊕ ((Unit × Unit × Unit) × ((Int × Unit × Unit × Int × Unit) × Unit × Int × Int × Unit) × (List D_c1fb) × (List D_089d) × (List D_b101) × (List D_6b85) × Unit))) :=
  bif (decide (v.1.2.2.1 < c113)) then
    bif (inb v.1.2.2.1 (List.length c11)) then
      bif (inb v.1.2.2.1 (List.length v.2.2.2.2.1)) then
        (v.2.2.2.2.1[(Int.toNat v.1.2.2.1)]?).bind fun e4003 =>
        (ref09_SameOut (rd T_b101 c11 v.1.2.2.1) e4003).bind fun r4004 =>
        bif (!r4004.1.1) then
          some (.inr (.inl ((false, ()), ())))
        else
          some (.inl (((), ((), ((IntKind.i64.wrap (v.1.2.2.1 + (1 : Int))), ()))), (((v.2.1.1.1, ((), ((), v.2.1.1.2.2.2))), ((), v.2.1.2.2)), (v.2.2.1, (v.2.2.2.1, (v.2.2.2.2.1, (v.2.2.2.2.2.1, ())))))))
      else
        none
    else
      none
  else
    some (.inr (.inr (((), ((), ())), (((v.2.1.1.1, ((), ((), v.2.1.1.2.2.2))), ((), v.2.1.2.2)), (v.2.2.1, (v.2.2.2.1, (v.2.2.2.2.1, (v.2.2.2.2.2.1, ()))))))))

/-- lightclient/lightclientlaw34.BuildBalances -/
def law34_BuildBalances (a0 : List Int) (a1 : Int) (a2 : Int) (a3 : Int) : Option ((Bool × Unit) × Unit) :=
  (law34_sane).bind fun r5 =>
  bif (!r5.1.1) then
    some ((false, ()), ())
  else
    (mill_New a0).bind fun r7 =>
    (mill_Spendables (8 : Int) r7.2.1).bind fun r8 =>
    (mill_Outputs (3 : Int) r8.2.1).bind fun r9 =>
    (mill_Mod a1 (3000 : Int)).bind fun r10 =>
    (law34_change a2).bind fun r11 =>
    (build_Make r8.2.2.1 r9.2.2.1 r11.2.1 r10.1.1 (0 : Int) a3).bind fun r12 =>
    bif (!decide (r12.1.2.1 = (0 : Int))) then
      some (((decide (r12.1.2.1 = (320 : Int))), ()), ())
    else
      (build_Valid ((r12.1.1.1.1, (r12.2.1, (r12.2.2.1, r12.1.1.1.2.2.2))), (r12.2.2.2.1, r12.1.1.2.2))).bind fun r15 =>
      bif (!r15.1.1) then
        some ((false, ()), ())
      else
        bif (decide ((((List.length r12.2.2.1) : Int)) < (((List.length r9.2.2.1) : Int)))) then
          some ((false, ()), ())
        else
          bif (!decide ((((List.length r12.2.2.2.1) : Int)) = (((List.length r12.2.1) : Int)))) then
            some ((false, ()), ())
          else
            (loopV (law34_BuildBalances_L1 r8.2.2.1 (((List.length r12.2.2.2.1) : Int))) (((), ((), ((0 : Int), ()))), (((r12.1.1.1.1, ((), ((), r12.1.1.1.2.2.2))), ((), r12.1.1.2.2)), (([] : List D_c1fb), (r12.2.1, (r12.2.2.1, (r12.2.2.2.1, ()))))))).bind fun o24 =>
            (loopV (law34_BuildBalances_L3 r9.2.2.1 (((List.length r9.2.2.1) : Int))) (((), ((), ((0 : Int), ()))), (((o24.2.1.1.1, ((), ((), o24.2.1.1.2.2.2))), ((), o24.2.1.2.2)), (o24.2.2.1, (o24.2.2.2.1, (o24.2.2.2.2.1, (o24.2.2.2.2.2.1, ()))))))).bind fun o26 =>
            match o26 with
            | .inl o27 =>
              some ((o27.1.1, ()), ())
            | .inr o28 =>
              (ref10_Fee (o28.2.1.1.1, (o28.2.2.2.1, (o28.2.2.2.2.1, o28.2.1.1.2.2.2))) o28.2.2.2.2.2.1).bind fun r29 =>
              bif (!decide (r29.1.2.1 = (0 : Int))) then
                some ((false, ()), ())
              else
                bif (!decide (r29.1.1 = o28.2.1.2.2.1)) then
                  some ((false, ()), ())
                else
                  bif (!decide ((((List.length o28.2.2.1) : Int)) = (((List.length o28.2.2.2.2.2.1) : Int)))) then
                    some ((false, ()), ())
                  else
                    (build_Weight (o28.2.1.1.1, (o28.2.2.2.1, (o28.2.2.2.2.1, o28.2.1.1.2.2.2))) o28.2.2.1).bind fun r35 =>
                    (build_Fee r35.1.1 r10.1.1).bind fun r36 =>
                    bif (decide ((0 : Int) ≤ o28.2.1.2.2.2.1)) then
                      bif (decide (o28.2.1.2.2.2.1 = (((List.length r9.2.2.1) : Int)))) then
                        bif (decide ((((List.length o28.2.2.2.2.1) : Int)) = (IntKind.i64.wrap ((((List.length r9.2.2.1) : Int)) + (1 : Int))))) then
                          bif (decide (o28.2.1.2.2.1 = r36.1.1)) then
                            bif (inb o28.2.1.2.2.2.1 (List.length o28.2.2.2.2.1)) then
                              (o28.2.2.2.2.1[(Int.toNat o28.2.1.2.2.2.1)]?).bind fun e45 =>
                              some (((decide ((300 : Int) ≤ e45.1)), ()), ())
                            else
                              none
                          else
                            some ((false, ()), ())
                        else
                          some ((false, ()), ())
                      else
                        some ((false, ()), ())
                    else
                      bif (!decide ((((List.length o28.2.2.2.2.1) : Int)) = (((List.length r9.2.2.1) : Int)))) then
                        some ((false, ()), ())
                      else
                        bif (decide (o28.2.1.2.2.1 < r36.1.1)) then
                          some ((false, ()), ())
                        else
                          bif (decide ((((List.length r11.2.1) : Int)) = (0 : Int))) then
                            some ((true, ()), ())
                          else
                            (build_Fee (IntKind.i64.wrap ((4 : Int) * (IntKind.i64.wrap ((9 : Int) + (((List.length r11.2.1) : Int)))))) r10.1.1).bind fun r57 =>
                            some (((decide (o28.2.1.2.2.1 < (IntKind.i64.wrap ((IntKind.i64.wrap (r36.1.1 + (300 : Int))) + r57.1.1)))), ()), ())

end Go.PE
end
end

section
namespace Go.PE
set_option linter.unusedSimpArgs false
/-! ### loops -/
section
variable {σ ω : Type} {step : σ → Option (σ ⊕ ω)}
theorem iter_mono {v : σ} {o : ω} : ∀ {n m : Nat}, n ≤ m → iter step n v = some o → iter step m v = some o := by
  intro n
  induction n generalizing v with
  | zero => intro m _ h; cases h
  | succ n ih =>
    intro m hm h
    cases m with
    | zero => omega
    | succ m =>
      simp only [iter] at h ⊢
      obtain ⟨x, h1, h2⟩ := Option.bind_eq_some_iff.1 h
      rw [h1]
      cases x with
      | inl v' => exact ih (by omega) h2
      | inr o' => exact h2
theorem loopV_of {v : σ} {o : ω} {n : Nat} (h : iter step n v = some o) : loopV step v = some o := by
  unfold loopV
  have hx : ∃ n o, iter step n v = some o := ⟨n, o, h⟩
  rw [dif_pos hx]
  have hc := hx.choose_spec.choose_spec
  have h1 := iter_mono (Nat.le_max_left hx.choose n) hc
  have h2 := iter_mono (Nat.le_max_right hx.choose n) h
  rw [h1] at h2
  exact h2
theorem loopV_next {v v' : σ} (h : step v = some (.inl v')) : loopV step v = loopV step v' := by
  unfold loopV
  have key : ∀ o, (∃ n, iter step n v = some o) ↔ ∃ n, iter step n v' = some o := by
    intro o
    constructor
    · rintro ⟨n, hn⟩
      cases n with
      | zero => cases hn
      | succ n => simp only [iter, h, Option.bind_some] at hn; exact ⟨n, hn⟩
    · rintro ⟨n, hn⟩
      exact ⟨n + 1, by simp only [iter, h, Option.bind_some]; exact hn⟩
  by_cases hx : ∃ n o, iter step n v = some o
  · obtain ⟨n, o, hn⟩ := hx
    obtain ⟨m, hm⟩ := (key o).1 ⟨n, hn⟩
    have e1 := loopV_of hn
    have e2 := loopV_of hm
    unfold loopV at e1 e2
    rw [e1, e2]
  · have hy : ¬ ∃ n o, iter step n v' = some o := by
      rintro ⟨n, o, hn⟩
      obtain ⟨m, hm⟩ := (key o).2 ⟨n, hn⟩
      exact hx ⟨m, o, hm⟩
    rw [dif_neg hx, dif_neg hy]
theorem loopV_done {v : σ} {o : ω} (h : step v = some (.inr o)) : loopV step v = some o :=
  loopV_of (n := 1) (by simp [iter, h])
/-- A loop with a counter: what holds at each round's head leads to the end. -/
theorem loopV_ind {v : σ} {o : ω} (f : Nat → σ) (n : Nat) (hv : v = f 0) (hs : ∀ i, i < n → step (f i) = some (.inl (f (i + 1)))) (he : step (f n) = some (.inr o)) : loopV step v = some o := by
  subst hv
  have : ∀ k, k ≤ n → loopV step (f 0) = loopV step (f k) := by
    intro k
    induction k with
    | zero => intro _; rfl
    | succ k ih => intro hk; rw [ih (by omega), loopV_next (hs k (by omega))]
  rw [this n (Nat.le_refl n), loopV_done he]
/-- A loop by a measure: an invariant that each round keeps, until an end at which Q holds. -/
theorem loopV_inv (I : σ → Prop) (m : σ → Nat) (Q : ω → Prop) {v : σ} (h0 : I v)
    (hs : ∀ v, I v → (∃ v', step v = some (.inl v') ∧ I v' ∧ m v' < m v) ∨ ∃ o, step v = some (.inr o) ∧ Q o) : ∃ o, loopV step v = some o ∧ Q o := by
  generalize hn : m v = n
  induction n using Nat.strongRecOn generalizing v with
  | _ n ih =>
    rcases hs v h0 with ⟨v', h1, h2, h3⟩ | ⟨o, h1, h2⟩
    · obtain ⟨o, h4, h5⟩ := ih (m v') (by omega) h2 rfl
      exact ⟨o, by rw [loopV_next h1]; exact h4, h5⟩
    · exact ⟨o, loopV_done h1, h2⟩
end
/-! ### tests -/
theorem bif_t {α : Type} {c : Bool} {a b : α} (h : c = true) : (bif c then a else b) = a := by rw [h]; rfl
theorem bif_f {α : Type} {c : Bool} {a b : α} (h : c = false) : (bif c then a else b) = b := by rw [h]; rfl
theorem bif_ite {α : Type} {c : Bool} {a b : α} : (bif c then a else b) = if c = true then a else b := by cases c <;> rfl
theorem inb_t {i : Int} {n : Nat} (h : 0 ≤ i ∧ i < n) : inb i n = true := by simp [inb, h]
theorem inb_f {i : Int} {n : Nat} (h : ¬ (0 ≤ i ∧ i < n)) : inb i n = false := by
  cases hb : inb i n with
  | false => rfl
  | true => simp [inb] at hb; exact (h hb).elim
/-! ### numbers -/
theorem tdiv_nn {a b : Int} (h : 0 ≤ a) : a.tdiv b = a / b := Int.tdiv_eq_ediv_of_nonneg h
theorem tmod_nn {a b : Int} (h : 0 ≤ a) : a.tmod b = a % b := Int.tmod_eq_emod_of_nonneg h
theorem ofInt_nat {w : Nat} {a : Int} (h0 : 0 ≤ a) (h1 : a < 2 ^ w) : (BitVec.ofInt w a).toNat = a.toNat := by
  rw [BitVec.toNat_ofInt, Int.emod_eq_of_lt h0 (by exact_mod_cast h1)]
theorem wrap_un {k : IntKind} (hk : k.signed = false) {n : Int} (h0 : 0 ≤ n) (h1 : n < 2 ^ k.bits) : k.wrap n = n := by
  cases k <;> first | (cases hk; done) | skip
  · exact IntWalk.u8_in n ⟨h0, by simp [IntKind.bits] at h1; omega⟩
  · exact IntWalk.u16_in n ⟨h0, by simp [IntKind.bits] at h1; omega⟩
  · exact IntWalk.u32_in n ⟨h0, by simp [IntKind.bits] at h1; omega⟩
  · exact IntWalk.u64_in n ⟨h0, by simp [IntKind.bits] at h1; omega⟩
theorem and_un {k : IntKind} (hk : k.signed = false) {a b : Int} (h0 : 0 ≤ a) (h1 : a < 2 ^ k.bits) (h2 : 0 ≤ b) (h3 : b < 2 ^ k.bits) : bitI .and k a b = ((a.toNat &&& b.toNat : Nat) : Int) := by
  show k.wrap (BitVec.ofInt k.bits a &&& BitVec.ofInt k.bits b).toNat = _
  rw [BitVec.toNat_and, ofInt_nat h0 h1, ofInt_nat h2 h3]
  apply wrap_un hk (by omega)
  have := Nat.and_lt_two_pow a.toNat (show b.toNat < 2 ^ k.bits by
    have : ((2 ^ k.bits : Nat) : Int) = 2 ^ k.bits := by simp
    omega)
  exact_mod_cast this
theorem or_un {k : IntKind} (hk : k.signed = false) {a b : Int} (h0 : 0 ≤ a) (h1 : a < 2 ^ k.bits) (h2 : 0 ≤ b) (h3 : b < 2 ^ k.bits) : bitI .or k a b = ((a.toNat ||| b.toNat : Nat) : Int) := by
  show k.wrap (BitVec.ofInt k.bits a ||| BitVec.ofInt k.bits b).toNat = _
  have e : ((2 ^ k.bits : Nat) : Int) = 2 ^ k.bits := by simp
  rw [BitVec.toNat_or, ofInt_nat h0 h1, ofInt_nat h2 h3]
  apply wrap_un hk (by omega)
  have := Nat.or_lt_two_pow (x := a.toNat) (y := b.toNat) (n := k.bits) (by omega) (by omega)
  exact_mod_cast this
theorem xor_un {k : IntKind} (hk : k.signed = false) {a b : Int} (h0 : 0 ≤ a) (h1 : a < 2 ^ k.bits) (h2 : 0 ≤ b) (h3 : b < 2 ^ k.bits) : bitI .xor k a b = ((a.toNat ^^^ b.toNat : Nat) : Int) := by
  show k.wrap (BitVec.ofInt k.bits a ^^^ BitVec.ofInt k.bits b).toNat = _
  have e : ((2 ^ k.bits : Nat) : Int) = 2 ^ k.bits := by simp
  rw [BitVec.toNat_xor, ofInt_nat h0 h1, ofInt_nat h2 h3]
  apply wrap_un hk (by omega)
  have := Nat.xor_lt_two_pow (x := a.toNat) (y := b.toNat) (n := k.bits) (by omega) (by omega)
  exact_mod_cast this
theorem shr_un {k : IntKind} {a b : Int} (h0 : 0 ≤ a) (h1 : a < 2 ^ k.bits) : shrI k a b = ((a.toNat >>> b.toNat : Nat) : Int) := by
  unfold shrI
  obtain ⟨x, rfl⟩ := Int.eq_ofNat_of_zero_le h0
  have e : ((2 : Int) ^ min b.toNat k.bits) = ((2 ^ min b.toNat k.bits : Nat) : Int) := by simp
  rw [e, Int.fdiv_eq_ediv_of_nonneg _ (Int.natCast_nonneg _), ← Int.natCast_ediv, Int.toNat_natCast, Nat.shiftRight_eq_div_pow]
  congr 1
  by_cases hb : b.toNat ≤ k.bits
  · rw [Nat.min_eq_left hb]
  · rw [Nat.min_eq_right (by omega)]
    have hx : x < 2 ^ k.bits := by exact_mod_cast h1
    rw [Nat.div_eq_of_lt hx, Nat.div_eq_of_lt (Nat.lt_of_lt_of_le hx (Nat.pow_le_pow_right (by omega) (by omega)))]
theorem wrap_un_mod {k : IntKind} (hk : k.signed = false) (n : Int) : k.wrap n = n % 2 ^ k.bits := by
  cases k <;> first | (cases hk; done) | (simp [IntKind.wrap, IntKind.signed, IntKind.bits])
theorem shl_un {k : IntKind} (hk : k.signed = false) {a b : Int} (h0 : 0 ≤ a) : shlI k a b = (((a.toNat <<< b.toNat) % 2 ^ k.bits : Nat) : Int) := by
  unfold shlI
  obtain ⟨x, rfl⟩ := Int.eq_ofNat_of_zero_le h0
  rw [wrap_un_mod hk, Int.toNat_natCast, Nat.shiftLeft_eq]
  have e : ((2 : Int) ^ min b.toNat k.bits) = ((2 ^ min b.toNat k.bits : Nat) : Int) := by simp
  have e2 : ((2 : Int) ^ k.bits) = ((2 ^ k.bits : Nat) : Int) := by simp
  rw [e, e2, ← Int.natCast_mul, ← Int.natCast_emod]
  congr 1
  by_cases hb : b.toNat ≤ k.bits
  · rw [Nat.min_eq_left hb]
  · rw [Nat.min_eq_right (by omega), Nat.mul_mod_left]
    obtain ⟨c, hc⟩ : ∃ c, b.toNat = k.bits + c := ⟨b.toNat - k.bits, by omega⟩
    rw [hc, Nat.pow_add, ← Nat.mul_assoc, Nat.mul_right_comm, Nat.mul_mod_left]
/-! ### lists -/
theorem rd_eq {t : Ty} {xs : List t.den} {i : Int} : rd t xs i = xs.getD i.toNat t.dflt := rfl
theorem eqList_iff {α : Type} {f : α → α → Bool} (hf : ∀ a b, f a b = true ↔ a = b) : ∀ {x y : List α}, eqList f x y = true ↔ x = y := by
  intro x
  induction x with
  | nil => intro y; cases y <;> simp [eqList]
  | cons a x ih => intro y; cases y with
    | nil => simp [eqList]
    | cons b y => simp [eqList, hf, ih]
theorem eqList_int {x y : List Int} : eqList (fun (x y : Int) => decide (x = y)) x y = decide (x = y) := by
  rw [Bool.eq_iff_iff, eqList_iff (by simp)]; simp
end Go.PE
end

section
namespace Go.PE
set_option linter.unusedSimpArgs false
theorem loopV_all {σ ω : Type} {step : σ → Option (σ ⊕ ω)} {v : σ} (f : Nat → σ) (n : Nat) (p : Nat → Bool) {bad good : ω} {b : Bool} (hv : v = f 0) (hb : b = true ↔ ∀ i, i < n → p i = true)
    (hs : ∀ i, i < n → step (f i) = some (bif p i then .inl (f (i + 1)) else .inr bad)) (he : step (f n) = some (.inr good)) : loopV step v = some (bif b then good else bad) := by
  subst hv
  have key : ∀ k i, i + k = n → ((∀ j, i ≤ j → j < n → p j = true) → loopV step (f i) = some good) ∧ ((∃ j, i ≤ j ∧ j < n ∧ p j = false) → loopV step (f i) = some bad) := by
    intro k
    induction k with
    | zero =>
      intro i hi
      have : i = n := by omega
      subst this
      exact ⟨fun _ => loopV_done he, fun ⟨j, h1, h2, _⟩ => by omega⟩
    | succ k ih =>
      intro i hi
      have h := hs i (by omega)
      obtain ⟨ih1, ih2⟩ := ih (i + 1) (by omega)
      cases hp : p i with
      | true =>
        rw [hp] at h
        rw [loopV_next h]
        refine ⟨fun ha => ih1 fun j h1 h2 => ha j (by omega) h2, fun ⟨j, h1, h2, h3⟩ => ih2 ⟨j, ?_, h2, h3⟩⟩
        rcases Nat.lt_or_ge i j with h4 | h4
        · exact h4
        · have : j = i := by omega
          subst this; rw [hp] at h3; cases h3
      | false =>
        rw [hp] at h
        rw [loopV_done h]
        exact ⟨fun ha => absurd (ha i (Nat.le_refl i) (by omega)) (by rw [hp]; simp), fun _ => rfl⟩
  obtain ⟨k1, k2⟩ := key n 0 (by omega)
  cases b with
  | true => exact k1 fun j _ h => hb.1 rfl j h
  | false =>
    refine k2 ?_
    apply Classical.byContradiction
    intro hn
    have : false = true := hb.2 fun i hi => by
      cases hp : p i with
      | true => rfl
      | false => exact (hn ⟨i, Nat.zero_le i, hi, hp⟩).elim
    cases this
theorem i64_up {i n : Nat} (h : i < n) (hn : n ≤ big) : IntKind.i64.wrap ((i : Int) + 1) = ((i + 1 : Nat) : Int) := by
  have : n ≤ 9223372036854775807 := hn
  rw [IntWalk.i64_in _ (by omega)]; simp
theorem inb_nat {i n : Nat} (h : i < n) : inb (i : Int) n = true := inb_t (by omega)
theorem rd_nat {t : Ty} {xs : List t.den} {i : Nat} : rd t xs (i : Int) = xs.getD i t.dflt := rfl
theorem rd_in {t : Ty} {xs : List t.den} {i : Nat} (h : i < xs.length) : rd t xs (i : Int) = xs[i] := by
  rw [rd_nat, List.getD_eq_getElem?_getD, List.getElem?_eq_getElem h]; rfl
end Go.PE
end

section
namespace Go.PE
set_option linter.unusedSimpArgs false
set_option linter.unusedVariables false
/-- A deck's numbers. -/
structure Deck (l : List Int) : Prop where
  len : l.length ≤ big
  num : ∀ x ∈ l, -9223372036854775808 ≤ x ∧ x ≤ 9223372036854775807
theorem Deck.of {l : List Int} (h : Ty.Wf (.slice (.int .i64)) l) : Deck l := ⟨h.1, fun x hx => Wf.i64 (h.2 x hx)⟩
theorem mill_Mod_some {v k : Int} (hk : 0 < k) (hk2 : k ≤ 4611686018427387904) (hv : -9223372036854775808 ≤ v ∧ v ≤ 9223372036854775807) : ∃ r, mill_Mod v k = some ((r, ()), ()) ∧ 0 ≤ r ∧ r < k := by
  have hk0 : ¬ k = 0 := by omega
  unfold mill_Mod
  have h1 := Int.tmod_lt_of_pos v hk
  have h2 : -k < Int.tmod v k := by
    have h3 := Int.tmod_lt_of_pos (-v) hk
    rw [Int.neg_tmod] at h3; omega
  by_cases hn : Int.tmod v k < 0
  · refine ⟨Int.tmod v k + k, ?_, by omega, by omega⟩
    simp only [hk0, hn, decide_false, decide_true, cond_false, cond_true]
    rw [IntWalk.i64_in _ (by omega)]
  · refine ⟨Int.tmod v k, ?_, by omega, by omega⟩
    simp only [hk0, hn, decide_false, cond_false]
section
variable {l : List Int} (hl : Deck l)
include hl
/-- What a deck draws. -/
theorem Deck.next {k : Int} (hk : 0 < k) (hk2 : k ≤ 4611686018427387904) {p : Nat} (hp : p ≤ l.length) :
    ∃ r : Int, ∃ q : Nat, mill_Deck_Next k (l, ((p : Int), ())) = some ((r, ()), ((l, ((q : Int), ())), ())) ∧ 0 ≤ r ∧ r < k ∧ q ≤ l.length := by
  have hlen := hl.len
  rw [show big = 9223372036854775807 from rfl] at hlen
  unfold mill_Deck_Next mill_Deck_Left
  by_cases h : (p : Int) < (l.length : Int)
  · have hpl : p < l.length := by omega
    have e1 : IntKind.i64.wrap ((p : Int) + 1) = ((p + 1 : Nat) : Int) := by rw [IntWalk.i64_in _ (by omega)]; simp
    have e2 : IntKind.i64.wrap (((p + 1 : Nat) : Int) - 1) = (p : Int) := by rw [IntWalk.i64_in _ (by omega)]; omega
    obtain ⟨r, hr, hr0, hrk⟩ := mill_Mod_some hk hk2 (hl.num _ (List.getElem_mem hpl))
    refine ⟨r, p + 1, ?_, hr0, hrk, by omega⟩
    simp only [h, decide_true, Option.bind_some, Bool.not_true, cond_false]
    simp only [e1, e2, inb_nat hpl, cond_true, rd_in (t := .int .i64) (xs := l) hpl, hr, Option.bind_some]
  · refine ⟨0, p, ?_, by omega, hk, hp⟩
    simp only [h, decide_false, Option.bind_some, Bool.not_false, cond_true]
theorem Deck.range {a b : Int} (hab : a ≤ b) (ha : 0 ≤ a) (hb : b ≤ 1000000) {p : Nat} (hp : p ≤ l.length) :
    ∃ r : Int, ∃ q : Nat, mill_Deck_Range a b (l, ((p : Int), ())) = some ((r, ()), ((l, ((q : Int), ())), ())) ∧ a ≤ r ∧ r ≤ b ∧ q ≤ l.length := by
  unfold mill_Deck_Range
  rw [IntWalk.i64_in (b - a) (by omega), IntWalk.i64_in _ (by omega)]
  obtain ⟨r, q, h1, h2, h3, h4⟩ := hl.next (k := b - a + 1) (by omega) (by omega) hp
  rw [h1]
  simp only [Option.bind_some]
  rw [IntWalk.i64_in _ (by omega)]
  exact ⟨_, q, rfl, by omega, by omega, h4⟩
theorem Deck.hash {p : Nat} (hp : p ≤ l.length) :
    ∃ h : List Int, ∃ q : Nat, mill_Hash (l, ((p : Int), ())) = some ((h, ()), ((l, ((q : Int), ())), ())) ∧ h.length = 32 ∧ (∀ x ∈ h, 0 ≤ x ∧ x ≤ 255) ∧ q ≤ l.length := by
  unfold mill_Hash
  obtain ⟨r, q, h1, h2, h3, h4⟩ := hl.next (k := 5) (by omega) (by omega) hp
  rw [h1]
  simp only [Option.bind_some]
  obtain ⟨r2, q2, g1, g2, g3, g4⟩ := hl.next (k := 7) (by omega) (by omega) h4
  rw [g1]
  simp only [Option.bind_some]
  rw [wrap_un (k := .u8) rfl (n := r) h2 (by simp only [IntKind.bits]; omega), wrap_un (k := .u8) rfl (n := r2) g2 (by simp only [IntKind.bits]; omega)]
  refine ⟨_, q2, rfl, by simp, fun x hx => ?_, g4⟩
  rcases List.mem_or_eq_of_mem_set hx with hx | rfl
  · rcases List.mem_or_eq_of_mem_set hx with hx | rfl
    · rw [List.mem_replicate] at hx; omega
    · omega
  · omega
end
/-- A script that is made. -/
def ScrOk (s : List Int) : Prop := ∃ b : Int, 0 ≤ b ∧ b ≤ 255 ∧ s = [1, 1, b, 5]
theorem made_Script_some {a : Int} (h : 0 ≤ a ∧ a ≤ 255) : ∃ s, made_Script a = some (((), ()), (s, ())) ∧ ScrOk s := by
  refine ⟨_, rfl, _, ?_, ?_, rfl⟩
  · have h1 : 0 ≤ Int.tmod a 6 := Int.tmod_nonneg _ h.1
    have h2 := Int.tmod_lt_of_pos a (show (0 : Int) < 6 by omega)
    rw [wrap_un (k := .u8) rfl (by omega) (by simp only [IntKind.bits]; omega)]; omega
  · have h1 : 0 ≤ Int.tmod a 6 := Int.tmod_nonneg _ h.1
    have h2 := Int.tmod_lt_of_pos a (show (0 : Int) < 6 by omega)
    rw [wrap_un (k := .u8) rfl (by omega) (by simp only [IntKind.bits]; omega)]; omega
structure MIn (x : D_089d) : Prop where
  hash : x.1.1.length = 32
  byte : ∀ y ∈ x.1.1, 0 ≤ y ∧ y ≤ 255
  idx : 0 ≤ x.1.2.1 ∧ x.1.2.1 ≤ 2
  seq : 0 ≤ x.2.1 ∧ x.2.1 ≤ 4294967295
  wit : x.2.2.1 = [] ∨ ∃ b : Int, 0 ≤ b ∧ b ≤ 8 ∧ x.2.2.1 = [[b]]
structure MOut (o : D_b101) : Prop where
  val : 0 ≤ o.1 ∧ o.1 < 5000
  scr : ScrOk o.2.1
section
variable {l : List Int} (hl : Deck l)
include hl
theorem Tx_L1 (X Y : Int × Unit × Unit × Int × Unit) : ∀ (k p : Nat) (ins : List D_089d), p ≤ l.length → ins.length + k ≤ 1000 → (∀ x ∈ ins, MIn x) →
    ∃ (q : Nat) (ins' : List D_089d), loopV mill_Tx_L1 (((), ((), ((), ((k : Int), ())))), ((l, ((p : Int), ())), (X, (Y, (ins, ()))))) = some (((), ((), ((), ()))), ((l, ((q : Int), ())), (X, (Y, (ins', ()))))) ∧
      q ≤ l.length ∧ ins'.length = ins.length + k ∧ ∀ x ∈ ins', MIn x := by
  intro k
  induction k with
  | zero => intro p ins hp _ hi; exact ⟨p, ins, loopV_done (by simp [mill_Tx_L1]), hp, rfl, hi⟩
  | succ k ih =>
    intro p ins hp hn hi
    have e0 : (0 : Int) < ((k + 1 : Nat) : Int) := by omega
    have e1 : IntKind.i64.wrap (((k + 1 : Nat) : Int) - 1) = (k : Int) := by rw [IntWalk.i64_in _ (by omega)]; omega
    obtain ⟨h, q1, f1, f2, f2', f3⟩ := hl.hash hp
    obtain ⟨r2, q2, g1, g2, g3, g4⟩ := hl.next (k := 3) (by omega) (by omega) f3
    obtain ⟨r3, q3, i1, i2, i3, i4⟩ := hl.next (k := 4) (by omega) (by omega) g4
    obtain ⟨r4, q4, j1, j2, j3, j4⟩ := hl.next (k := 2) (by omega) (by omega) i4
    obtain ⟨sq, hs1, hs2⟩ : ∃ sq : Int, ([4294967295, 4294967294, 4294967293, 0] : List Int)[r3.toNat]? = some sq ∧ (0 ≤ sq ∧ sq ≤ 4294967295) := by
      have : r3 = 0 ∨ r3 = 1 ∨ r3 = 2 ∨ r3 = 3 := by omega
      rcases this with rfl | rfl | rfl | rfl <;> exact ⟨_, rfl, by decide⟩
    have hin : inb r3 ([4294967295, 4294967294, 4294967293, 0] : List Int).length = true := inb_t (by simp; omega)
    have hidx : IntKind.u32.wrap r2 = r2 := wrap_un (k := .u32) rfl g2 (by simp only [IntKind.bits]; omega)
    -- the witness
    obtain ⟨w, q5, hJ, hw, hq5⟩ : ∃ (w : List (List Int)) (q5 : Nat), mill_Tx_J2 (((), ((), ((), ((), ())))), ((l, ((q3 : Int), ())), (X, (Y, (((h, (r2, ())), (sq, ((), ()))), (ins, ())))))) =
        some (((), ((), ((), ((), ())))), ((l, ((q5 : Int), ())), (X, (Y, (((h, (r2, ())), (sq, ((), ()))), (ins, (w, ()))))))) ∧ (w = [] ∨ ∃ b : Int, 0 ≤ b ∧ b ≤ 8 ∧ w = [[b]]) ∧ q5 ≤ l.length := by
      unfold mill_Tx_J2
      simp only [j1, Option.bind_some]
      by_cases hz : r4 = 0
      · obtain ⟨r5, q5, k1, k2, k3, k4⟩ := hl.next (k := 9) (by omega) (by omega) j4
        refine ⟨[[r5]], q5, ?_, .inr ⟨r5, k2, by omega, rfl⟩, k4⟩
        simp only [hz, decide_true, cond_true, k1, Option.bind_some]
        rw [wrap_un (k := .u8) rfl (n := r5) k2 (by simp only [IntKind.bits]; omega)]
      · refine ⟨[], q4, ?_, .inl rfl, j4⟩
        simp only [hz, decide_false, cond_false]
    obtain ⟨q', ins', h1, h2, h3, h4⟩ := ih q5 (ins ++ [((h, (r2, ())), (sq, (w, ())))]) hq5 (by rw [List.length_append, List.length_singleton]; omega) (fun x hx => by
      rcases List.mem_append.1 hx with hx | hx
      · exact hi x hx
      · rw [List.mem_singleton.1 hx]; exact ⟨f2, f2', ⟨g2, by show r2 ≤ 2; omega⟩, hs2, hw⟩)
    refine ⟨q', ins', ?_, h2, by rw [h3, List.length_append, List.length_singleton]; omega, h4⟩
    rw [← h1]
    refine loopV_next ?_
    have e3 : ins.length + 1 ≤ lim := by unfold lim; omega
    unfold mill_Tx_L1
    simp only [e0, decide_true, cond_true, f1, Option.bind_some, g1, i1, hin, hs1, hidx]
    have hJ' := hJ
    simp only [hJ, Option.bind_some, List.length_singleton, e3, decide_true, cond_true, e1]
theorem Tx_L3 (X Y : Int × Unit × Unit × Int × Unit) (ins : List D_089d) : ∀ (k p : Nat) (outs : List D_b101), p ≤ l.length → outs.length + k ≤ 1000 → (∀ x ∈ outs, MOut x) →
    ∃ (q : Nat) (outs' : List D_b101), loopV mill_Tx_L3 (((), ((), ((), ((k : Int), ())))), ((l, ((p : Int), ())), (X, (Y, (ins, (outs, ())))))) = some (((), ((), ())), ((l, ((q : Int), ())), (X, (Y, (ins, (outs', ())))))) ∧
      q ≤ l.length ∧ outs'.length = outs.length + k ∧ ∀ x ∈ outs', MOut x := by
  intro k
  induction k with
  | zero => intro p outs hp _ hi; exact ⟨p, outs, loopV_done (by simp [mill_Tx_L3]), hp, rfl, hi⟩
  | succ k ih =>
    intro p outs hp hn hi
    have e0 : (0 : Int) < ((k + 1 : Nat) : Int) := by omega
    have e1 : IntKind.i64.wrap (((k + 1 : Nat) : Int) - 1) = (k : Int) := by rw [IntWalk.i64_in _ (by omega)]; omega
    obtain ⟨r2, q2, g1, g2, g3, g4⟩ := hl.next (k := 5000) (by omega) (by omega) hp
    obtain ⟨r3, q3, i1, i2, i3, i4⟩ := hl.next (k := 6) (by omega) (by omega) g4
    have hw : IntKind.u8.wrap r3 = r3 := wrap_un (k := .u8) rfl i2 (by simp only [IntKind.bits]; omega)
    obtain ⟨s, s1, s2⟩ := made_Script_some (a := r3) (by omega)
    obtain ⟨q', outs', h1, h2, h3, h4⟩ := ih q3 (outs ++ [(r2, (s, ()))]) i4 (by rw [List.length_append, List.length_singleton]; omega) (fun x hx => by
      rcases List.mem_append.1 hx with hx | hx
      · exact hi x hx
      · rw [List.mem_singleton.1 hx]; exact ⟨⟨g2, g3⟩, s2⟩)
    refine ⟨q', outs', ?_, h2, by rw [h3, List.length_append, List.length_singleton]; omega, h4⟩
    rw [← h1]
    refine loopV_next ?_
    have e3 : outs.length + 1 ≤ lim := by unfold lim; omega
    unfold mill_Tx_L3
    simp only [e0, decide_true, cond_true, Option.bind_some, g1, i1, hw, s1, List.length_singleton, e3, e1]
/-- A transaction that is drawn. -/
structure MTx (t : D_8f0a) : Prop where
  ver : 0 ≤ t.1 ∧ t.1 < 3
  lock : 0 ≤ t.2.2.2.1 ∧ t.2.2.2.1 < 9
  nin : 1 ≤ t.2.1.length ∧ t.2.1.length ≤ 3
  ins : ∀ x ∈ t.2.1, MIn x
  nout : 1 ≤ t.2.2.1.length ∧ t.2.2.1.length ≤ 3
  outs : ∀ x ∈ t.2.2.1, MOut x
theorem Deck.tx {p : Nat} (hp : p ≤ l.length) : ∃ (X : Int × Unit × Unit × Int × Unit) (q : Nat) (ins : List D_089d) (outs : List D_b101),
    mill_Tx (l, ((p : Int), ())) = some ((X, ()), ((l, ((q : Int), ())), (ins, (outs, ())))) ∧ MTx (X.1, (ins, (outs, X.2.2.2))) ∧ q ≤ l.length := by
  unfold mill_Tx
  obtain ⟨r1, q1, a1, a2, a3, a4⟩ := hl.next (k := 3) (by omega) (by omega) hp
  obtain ⟨r2, q2, b1, b2, b3, b4⟩ := hl.next (k := 9) (by omega) (by omega) a4
  obtain ⟨r3, q3, c1, c2, c3, c4⟩ := hl.range (a := 1) (b := 3) (by omega) (by omega) (by omega) b4
  simp only [a1, b1, c1, Option.bind_some]
  obtain ⟨k, rfl⟩ := Int.eq_ofNat_of_zero_le (show 0 ≤ r3 by omega)
  obtain ⟨q4, ins, d1, d2, d3, d4⟩ := Tx_L1 hl ((0 : Int), ((), ((), ((0 : Int), ())))) ((IntKind.u32.wrap r1), ((), ((), ((IntKind.u32.wrap r2), ())))) k q3 [] c4 (by simp; omega) (fun x hx => by cases hx)
  rw [d1]
  simp only [Option.bind_some]
  obtain ⟨r4, q5, f1, f2, f3, f4⟩ := hl.range (a := 1) (b := 3) (by omega) (by omega) (by omega) d2
  simp only [f1, Option.bind_some]
  obtain ⟨k2, rfl⟩ := Int.eq_ofNat_of_zero_le (show 0 ≤ r4 by omega)
  obtain ⟨q6, outs, g1, g2, g3, g4⟩ := Tx_L3 hl ((0 : Int), ((), ((), ((0 : Int), ())))) ((IntKind.u32.wrap r1), ((), ((), ((IntKind.u32.wrap r2), ())))) ins k2 q5 [] f4 (by simp; omega) (fun x hx => by cases hx)
  rw [g1]
  simp only [Option.bind_some]
  rw [wrap_un (k := .u32) rfl (n := r1) a2 (by simp only [IntKind.bits]; omega), wrap_un (k := .u32) rfl (n := r2) b2 (by simp only [IntKind.bits]; omega)]
  refine ⟨_, q6, ins, outs, rfl, ⟨⟨a2, a3⟩, ⟨b2, b3⟩, ?_, d4, ?_, g4⟩, g2⟩
  · show 1 ≤ ins.length ∧ ins.length ≤ 3
    simp at d3; omega
  · show 1 ≤ outs.length ∧ outs.length ≤ 3
    simp at g3; omega
end
end Go.PE
end
