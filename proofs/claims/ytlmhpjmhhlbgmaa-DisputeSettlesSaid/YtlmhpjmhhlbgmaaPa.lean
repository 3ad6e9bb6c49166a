/- What the printed functions of the program are, and the plain law; conditions stand in each statement. -/
import Derived.Test.YtlmhpjmhhlbgmaaQa
import Derived.IntWalk
import Derived.Test.YtlmhpjmhhlbgmaaQb
import Derived.KernelRfl
import Derived.Test.YtlmhpjmhhlbgmaaQc
section
namespace Go.PE
abbrev T_8464 : Ty := (.cons .ptr .nil)
abbrev D_8464 : Type := Unit × Unit
abbrev T_a556 : Ty := (.cons .str (.cons (.int .u64) .nil))
abbrev D_a556 : Type := (List Int) × Int × Unit
abbrev T_b101 : Ty := (.cons (.int .i64) (.cons (.slice (.int .u8)) .nil))
abbrev D_b101 : Type := Int × (List Int) × Unit
abbrev T_3393 : Ty := (.cons (.slice (.int .i64)) (.cons (.int .i64) .nil))
abbrev D_3393 : Type := (List Int) × Int × Unit
abbrev T_6649 : Ty := (.cons (.int .i64) (.cons (.arr 32 (.int .u8)) .nil))
abbrev D_6649 : Type := Int × (List Int) × Unit
abbrev T_b85e : Ty := (.cons (.arr 32 (.int .u8)) (.cons (.int .u32) .nil))
abbrev D_b85e : Type := (List Int) × Int × Unit
abbrev T_f0bb : Ty := (.cons .ptr (.cons .ptr (.cons .ptr (.cons .str .nil))))
abbrev D_f0bb : Type := Unit × Unit × Unit × (List Int) × Unit
abbrev T_07e8 : Ty := (.cons (.slice (.int .u8)) (.cons (.int .i64) (.cons (.int .i64) .nil)))
abbrev D_07e8 : Type := (List Int) × Int × Int × Unit
abbrev T_d9b8 : Ty := (.cons (.int .i64) (.cons (.int .i64) (.cons .bool (.cons (.int .u8) .nil))))
abbrev D_d9b8 : Type := Int × Int × Bool × Int × Unit
abbrev T_089d : Ty := (.cons T_b85e (.cons (.int .u32) (.cons (.slice (.slice (.int .u8))) .nil)))
abbrev D_089d : Type := D_b85e × Int × (List (List Int)) × Unit
abbrev T_2c9a : Ty := (.cons (.int .i64) (.cons (.int .i64) (.cons (.arr 32 (.int .u8)) (.cons (.slice T_6649) .nil))))
abbrev D_2c9a : Type := Int × Int × (List Int) × (List D_6649) × Unit
abbrev T_a496 : Ty := (.cons (.slice (.int .i64)) (.cons (.int .i64) (.cons (.slice (.int .i64)) (.cons T_3393 (.cons .bool .nil)))))
abbrev D_a496 : Type := (List Int) × Int × (List Int) × D_3393 × Bool × Unit
abbrev T_fbab : Ty := (.cons (.int .u64) (.cons (.int .u64) (.cons (.int .u32) (.cons (.int .u8) (.cons (.int .u8) (.cons (.int .u8) (.cons (.int .u8) (.cons .fn (.cons .ptr (.cons (.int .i32) (.cons (.int .i32) .nil)))))))))))
abbrev D_fbab : Type := Int × Int × Int × Int × Int × Int × Int × Unit × Unit × Int × Int × Unit
abbrev T_8f0a : Ty := (.cons (.int .u32) (.cons (.slice T_089d) (.cons (.slice T_b101) (.cons (.int .u32) .nil))))
abbrev D_8f0a : Type := Int × (List D_089d) × (List D_b101) × Int × Unit
def S_0d66ef : List Int := [0, 1, 2, 2, 3, 3, 3, 3, 4, 4, 4, 4, 4, 4, 4, 4, 5, 5, 5, 5, 5, 5, 5, 5, 5, 5, 5, 5, 5, 5, 5, 5, 6, 6, 6, 6, 6, 6, 6, 6, 6, 6, 6, 6, 6, 6, 6, 6, 6, 6, 6, 6, 6, 6, 6, 6, 6, 6, 6, 6, 6, 6, 6, 6, 7, 7, 7, 7, 7, 7, 7, 7, 7, 7, 7, 7, 7, 7, 7, 7, 7, 7, 7, 7, 7, 7, 7, 7, 7, 7, 7, 7, 7, 7, 7, 7, 7, 7, 7, 7, 7, 7, 7, 7, 7, 7, 7, 7, 7, 7, 7, 7, 7, 7, 7, 7, 7, 7, 7, 7, 7, 7, 7, 7, 7, 7, 7, 7, 8, 8, 8, 8, 8, 8, 8, 8, 8, 8, 8, 8, 8, 8, 8, 8, 8, 8, 8, 8, 8, 8, 8, 8, 8, 8, 8, 8, 8, 8, 8, 8, 8, 8, 8, 8, 8, 8, 8, 8, 8, 8, 8, 8, 8, 8, 8, 8, 8, 8, 8, 8, 8, 8, 8, 8, 8, 8, 8, 8, 8, 8, 8, 8, 8, 8, 8, 8, 8, 8, 8, 8, 8, 8, 8, 8, 8, 8, 8, 8, 8, 8, 8, 8, 8, 8, 8, 8, 8, 8, 8, 8, 8, 8, 8, 8, 8, 8, 8, 8, 8, 8, 8, 8, 8, 8, 8, 8, 8, 8, 8, 8, 8, 8, 8, 8, 8, 8, 8, 8, 8, 8, 8, 8, 8, 8, 8, 8]
end Go.PE
end

section
set_option linter.unusedVariables false
noncomputable section
namespace Go.PE

/-- slices.Clone[[]int,int] -/
def slices_Clone_int_int (a0 : List Int) : Option ((Unit × Unit) × (List Int) × Unit) :=
  bif decide (List.length a0 ≤ lim) then some (((), ()), (a0, ())) else none

def slices_Index_int_int_L1 (c0 : List Int) (c1 : Int) (c7 : Int) (v : (Int × Unit) × Unit) : Option (((Int × Unit) × Unit) ⊕ (((Int × Unit) × Unit) ⊕ ((Unit) × Unit))) :=
  bif (decide (v.1.1 < c7)) then
    bif (inb v.1.1 (List.length c0)) then
      bif (decide (c1 = (rd (.int .i64) c0 v.1.1))) then
        some (.inr (.inl ((v.1.1, ()), ())))
      else
        some (.inl (((IntKind.i64.wrap (v.1.1 + (1 : Int))), ()), ()))
    else
      none
  else
    some (.inr (.inr ((), ())))

/-- slices.Index[[]int,int] -/
def slices_Index_int_int (a0 : List Int) (a1 : Int) : Option ((Int × Unit) × Unit) :=
  (loopV (slices_Index_int_int_L1 a0 a1 (((List.length a0) : Int))) (((0 : Int), ()), ())).bind fun o4 =>
  match o4 with
  | .inl o5 =>
    some ((o5.1.1, ()), ())
  | .inr o6 =>
    some (((-1 : Int), ()), ())

/-- slices.Contains[[]int,int] -/
def slices_Contains_int_int (a0 : List Int) (a1 : Int) : Option ((Bool × Unit) × Unit) :=
  (slices_Index_int_int a0 a1).bind fun r3 =>
  some (((decide ((0 : Int) ≤ r3.1.1)), ()), ())

def math_bits_Len64_J1 (v : (Int × Int × Unit) × Unit) : Option ((Int × Int × Unit) × Unit) :=
  bif (decide ((4294967296 : Int) ≤ v.1.1)) then
    some (((shrI .u64 v.1.1 (32 : Int)), ((32 : Int), ())), ())
  else
    some ((v.1.1, (v.1.2.1, ())), ())

def math_bits_Len64_J2 (v : (Int × Int × Unit) × Unit) : Option ((Int × Int × Unit) × Unit) :=
  bif (decide ((65536 : Int) ≤ v.1.1)) then
    some (((shrI .u64 v.1.1 (16 : Int)), ((IntKind.i64.wrap (v.1.2.1 + (16 : Int))), ())), ())
  else
    some ((v.1.1, (v.1.2.1, ())), ())

def math_bits_Len64_J3 (v : (Int × Int × Unit) × Unit) : Option ((Int × Int × Unit) × Unit) :=
  bif (decide ((256 : Int) ≤ v.1.1)) then
    some (((shrI .u64 v.1.1 (8 : Int)), ((IntKind.i64.wrap (v.1.2.1 + (8 : Int))), ())), ())
  else
    some ((v.1.1, (v.1.2.1, ())), ())

/-- math/bits.Len64 -/
def math_bits_Len64 (a0 : Int) : Option ((Int × Unit) × Unit) :=
  (math_bits_Len64_J1 ((a0, ((0 : Int), ())), ())).bind fun o2 =>
  (math_bits_Len64_J2 ((o2.1.1, (o2.1.2.1, ())), ())).bind fun o3 =>
  (math_bits_Len64_J3 ((o3.1.1, (o3.1.2.1, ())), ())).bind fun o4 =>
  let x5 := (IntKind.u8.wrap (o4.1.1))
  bif (inb x5 (List.length S_0d66ef)) then
    some (((IntKind.i64.wrap (o4.1.2.1 + (IntKind.i64.wrap ((rd (.int .u8) S_0d66ef x5))))), ()), ())
  else
    none

end Go.PE
end
end

section
set_option linter.unusedVariables false
noncomputable section
namespace Go.PE

def dispute_sound_L1 (c6 : List D_6649) (c7 : Int) (v : (Int × Int × Unit) × Unit) : Option (((Int × Int × Unit) × Unit) ⊕ (((Bool × Unit) × Unit) ⊕ ((Unit) × Unit))) :=
  bif (decide (v.1.2.1 < c7)) then
    bif (inb v.1.2.1 (List.length c6)) then
      let x2002 := (rd T_6649 c6 v.1.2.1)
      bif (decide (x2002.1 ≤ v.1.1)) then
        some (.inr (.inl ((false, ()), ())))
      else
        some (.inl ((x2002.1, ((IntKind.i64.wrap (v.1.2.1 + (1 : Int))), ())), ()))
    else
      none
  else
    some (.inr (.inr ((), ())))

/-- lightclient/dispute.sound -/
def dispute_sound (a0 : List D_6649) : Option ((Bool × Unit) × Unit) :=
  (loopV (dispute_sound_L1 a0 (((List.length a0) : Int))) (((-1 : Int), ((0 : Int), ())), ())).bind fun o3 =>
  match o3 with
  | .inl o4 =>
    some ((o4.1.1, ()), ())
  | .inr o5 =>
    some (((decide ((((List.length a0) : Int)) ≤ (64 : Int))), ()), ())

/-- lightclient/dispute.copied -/
def dispute_copied (a0 : List D_6649) : Option ((Unit × Unit) × (List D_6649) × Unit) :=
  bif (decide ((List.length ([] : List D_6649)) + (List.length a0) ≤ lim)) then
    some (((), ()), ((([] : List D_6649) ++ a0), ()))
  else
    none

def dispute_Begin_J1 (c0 : Int) (c2 : Int) (v : (Unit × Unit × Unit) × (List Int) × (Int × Int × (List Int) × Unit × Unit) × Unit) : Option ((Unit × Unit × Bool × Unit) × (List Int) × (Int × Int × (List Int) × Unit × Unit) × Unit) :=
  bif (decide (c0 < (0 : Int))) then
    some (((), ((), (true, ()))), (v.2.1, ((v.2.2.1.1, (v.2.2.1.2.1, (v.2.2.1.2.2.1, ((), ())))), ())))
  else
    bif (decide (c2 ≤ c0)) then
      some (((), ((), (true, ()))), (v.2.1, ((v.2.2.1.1, (v.2.2.1.2.1, (v.2.2.1.2.2.1, ((), ())))), ())))
    else
      some (((), ((), ((decide ((16777216 : Int) < c2)), ()))), (v.2.1, ((v.2.2.1.1, (v.2.2.1.2.1, (v.2.2.1.2.2.1, ((), ())))), ())))

/-- lightclient/dispute.Begin -/
def dispute_Begin (a0 : Int) (a1 : List Int) (a2 : Int) (a3 : List D_6649) : Option (((Int × Int × (List Int) × Unit × Unit) × Int × Unit) × (List D_6649) × Unit) :=
  (dispute_sound a3).bind fun r5 =>
  bif (!r5.1.1) then
    some ((((0 : Int), ((0 : Int), ((List.replicate 32 (0 : Int)), ((), ())))), ((6 : Int), ())), (([] : List D_6649), ()))
  else
    bif (decide ((((List.length a3) : Int)) = (0 : Int))) then
      some ((((0 : Int), ((0 : Int), ((List.replicate 32 (0 : Int)), ((), ())))), ((6 : Int), ())), (([] : List D_6649), ()))
    else
      (dispute_Begin_J1 a0 a2 (((), ((), ())), (a1, (((0 : Int), ((0 : Int), ((List.replicate 32 (0 : Int)), ((), ())))), ())))).bind fun o9 =>
      bif o9.1.2.2.1 then
        some ((((0 : Int), ((0 : Int), ((List.replicate 32 (0 : Int)), ((), ())))), ((5 : Int), ())), (([] : List D_6649), ()))
      else
        (dispute_copied a3).bind fun r10 =>
        some (((a0, (a2, (o9.2.1, ((), ())))), ((0 : Int), ())), (r10.2.1, ()))

/-- lightclient/dispute.whole -/
def dispute_whole (a0 : D_2c9a) : Option ((Bool × Unit) × Unit) :=
  bif (decide ((0 : Int) ≤ a0.1)) then
    bif (decide (a0.1 < a0.2.1)) then
      bif (decide (a0.2.1 ≤ (16777216 : Int))) then
        bif (decide ((0 : Int) < (((List.length a0.2.2.2.1) : Int)))) then
          (dispute_sound a0.2.2.2.1).bind fun r7 =>
          some ((r7.1.1, ()), ())
        else
          some ((false, ()), ())
      else
        some ((false, ()), ())
    else
      some ((false, ()), ())
  else
    some ((false, ()), ())

/-- lightclient/dispute.Ask -/
def dispute_Ask (a0 : D_2c9a) : Option ((Int × Bool × Unit) × Unit) :=
  (dispute_whole a0).bind fun r2 =>
  bif (!r2.1.1) then
    some (((0 : Int), (false, ())), ())
  else
    bif (decide ((1 : Int) < (IntKind.i64.wrap (a0.2.1 - a0.1)))) then
      some (((IntKind.i64.wrap (a0.1 + (IntKind.i64.wrap (Int.tdiv (IntKind.i64.wrap (a0.2.1 - a0.1)) (2 : Int))))), (false, ())), ())
    else
      some ((a0.2.1, (true, ())), ())

def dispute_merge_J3 (c1 : List D_6649) (v : (Unit × Unit × Unit × Unit × Unit) × (List D_6649) × (List D_6649) × (List Int) × D_6649 × Unit) : Option ((Unit × Unit × Unit × Unit × Bool × Unit) × (List D_6649) × (List D_6649) × (List Int) × D_6649 × Unit) :=
  bif (decide ((0 : Int) < (((List.length c1) : Int)))) then
    bif (inb (0 : Int) (List.length c1)) then
      some (((), ((), ((), ((), ((decide ((rd T_6649 c1 (0 : Int)).1 = v.2.2.2.2.1.1)), ()))))), (v.2.1, (v.2.2.1, (v.2.2.2.1, (v.2.2.2.2.1, ())))))
    else
      none
  else
    some (((), ((), ((), ((), (false, ()))))), (v.2.1, (v.2.2.1, (v.2.2.2.1, (v.2.2.2.2.1, ())))))

def dispute_merge_L2 (v : ((List D_6649) × Unit × Unit × Unit × Unit × Unit) × (List D_6649) × (List D_6649) × (List Int) × D_6649 × Unit) : Option ((((List D_6649) × Unit × Unit × Unit × Unit × Unit) × (List D_6649) × (List D_6649) × (List Int) × D_6649 × Unit) ⊕ (((List D_6649) × Unit × Unit × Unit × Unit × Unit) × (List D_6649) × (List D_6649) × (List Int) × D_6649 × Unit)) :=
  bif (decide ((0 : Int) < (((List.length v.1.1) : Int)))) then
    bif (inb (0 : Int) (List.length v.1.1)) then
      bif (decide ((rd T_6649 v.1.1 (0 : Int)).1 < v.2.2.2.2.1.1)) then
        bif (decide (0 ≤ (1 : Int)) && decide ((1 : Int) ≤ ((List.length v.1.1) : Int))) then
          some (.inl (((sub v.1.1 (1) ((List.length v.1.1) - (1))), ((), ((), ((), ((), ()))))), (v.2.1, (v.2.2.1, (v.2.2.2.1, (v.2.2.2.2.1, ()))))))
        else
          none
      else
        some (.inr ((v.1.1, ((), ((), ((), ((), ()))))), (v.2.1, (v.2.2.1, (v.2.2.2.1, (v.2.2.2.2.1, ()))))))
    else
      none
  else
    some (.inr ((v.1.1, ((), ((), ((), ((), ()))))), (v.2.1, (v.2.2.1, (v.2.2.2.1, (v.2.2.2.2.1, ()))))))

def dispute_merge_L1 (c9 : List D_6649) (c10 : Int) (v : ((List D_6649) × Unit × Unit × Unit × Int × Unit) × (List D_6649) × (List D_6649) × (List Int) × Unit) : Option ((((List D_6649) × Unit × Unit × Unit × Int × Unit) × (List D_6649) × (List D_6649) × (List Int) × Unit) ⊕ ((Unit × Unit × Unit × Unit) × (List D_6649) × (List D_6649) × (List Int) × Unit)) :=
  bif (decide (v.1.2.2.2.2.1 < c10)) then
    bif (inb v.1.2.2.2.2.1 (List.length c9)) then
      (loopV (dispute_merge_L2) ((v.1.1, ((), ((), ((), ((), ()))))), (v.2.1, (v.2.2.1, (v.2.2.2.1, ((rd T_6649 c9 v.1.2.2.2.2.1), ())))))).bind fun o2003 =>
      (dispute_merge_J3 o2003.1.1 (((), ((), ((), ((), ())))), (o2003.2.1, (o2003.2.2.1, (o2003.2.2.2.1, (o2003.2.2.2.2.1, ())))))).bind fun o2004 =>
      bif o2004.1.2.2.2.2.1 then
        let x2005 := ([o2004.2.2.2.2.1] : List D_6649)
        bif (decide ((List.length o2004.2.1) + (List.length x2005) ≤ lim)) then
          bif (inb (0 : Int) (List.length o2003.1.1)) then
            let x2008 := ([(rd T_6649 o2003.1.1 (0 : Int))] : List D_6649)
            bif (decide ((List.length o2004.2.2.1) + (List.length x2008) ≤ lim)) then
              some (.inl ((o2003.1.1, ((), ((), ((), ((IntKind.i64.wrap (v.1.2.2.2.2.1 + (1 : Int))), ()))))), ((o2004.2.1 ++ x2005), ((o2004.2.2.1 ++ x2008), (o2004.2.2.2.1, ())))))
            else
              none
          else
            none
        else
          none
      else
        let x2011 := ([o2004.2.2.2.2.1.1] : List Int)
        bif (decide ((List.length o2004.2.2.2.1) + (List.length x2011) ≤ lim)) then
          some (.inl ((o2003.1.1, ((), ((), ((), ((IntKind.i64.wrap (v.1.2.2.2.2.1 + (1 : Int))), ()))))), (o2004.2.1, (o2004.2.2.1, ((o2004.2.2.2.1 ++ x2011), ())))))
        else
          none
    else
      none
  else
    some (.inr (((), ((), ((), ()))), (v.2.1, (v.2.2.1, (v.2.2.2.1, ())))))

/-- lightclient/dispute.merge -/
def dispute_merge (a0 : List D_6649) (a1 : List D_6649) : Option ((Unit × Unit × Unit × Unit) × (List D_6649) × (List D_6649) × (List Int) × Unit) :=
  (loopV (dispute_merge_L1 a0 (((List.length a0) : Int))) ((a1, ((), ((), ((), ((0 : Int), ()))))), (([] : List D_6649), (([] : List D_6649), (([] : List Int), ()))))).bind fun o4 =>
  some (((), ((), ((), ()))), (o4.2.1, (o4.2.2.1, (o4.2.2.2.1, ()))))

def dispute_single_L1 (c0 : List D_6649) (c5 : List D_6649) (c6 : Int) (v : (Int × Unit) × Unit) : Option (((Int × Unit) × Unit) ⊕ (((Bool × Unit) × Unit) ⊕ ((Unit) × Unit))) :=
  bif (decide (v.1.1 < c6)) then
    bif (inb v.1.1 (List.length c5)) then
      bif (inb (0 : Int) (List.length c0)) then
        bif (!(Ty.eqb (.arr 32 (.int .u8)) (rd T_6649 c5 v.1.1).2.1 (rd T_6649 c0 (0 : Int)).2.1)) then
          some (.inr (.inl ((false, ()), ())))
        else
          some (.inl (((IntKind.i64.wrap (v.1.1 + (1 : Int))), ()), ()))
      else
        none
    else
      none
  else
    some (.inr (.inr ((), ())))

/-- lightclient/dispute.single -/
def dispute_single (a0 : List D_6649) : Option ((Bool × Unit) × Unit) :=
  (loopV (dispute_single_L1 a0 a0 (((List.length a0) : Int))) (((0 : Int), ()), ())).bind fun o3 =>
  match o3 with
  | .inl o4 =>
    some ((o4.1.1, ()), ())
  | .inr o5 =>
    some ((true, ()), ())

def dispute_Answer_J1 (c7 : Int) (v : (Unit × Unit × Unit × Unit × Unit × Unit) × D_2c9a × (Int × Int × (List Int) × Unit × Unit) × (List D_6649) × (List D_6649) × (List Int) × Unit) : Option ((Unit × Unit × Unit × Unit) × (Int × Int × (List Int) × Unit × Unit) × (Int × Int × (List Int) × Unit × Unit) × (List Int) × (List D_6649) × Unit) :=
  (dispute_single v.2.2.2.2.1).bind fun r2001 =>
  bif r2001.1.1 then
    bif (inb (0 : Int) (List.length v.2.2.2.2.1)) then
      (v.2.2.2.2.1[(0)]?).bind fun e2002 =>
      some (((), ((), ((), ()))), ((c7, (v.2.1.2.1, (e2002.2.1, ((), ())))), ((v.2.2.1.1, (v.2.2.1.2.1, (v.2.2.1.2.2.1, ((), ())))), (v.2.2.2.2.2.1, (v.2.2.2.1, ())))))
    else
      none
  else
    some (((), ((), ((), ()))), ((v.2.1.1, (c7, (v.2.1.2.2.1, ((), ())))), ((v.2.2.1.1, (v.2.2.1.2.1, (v.2.2.1.2.2.1, ((), ())))), (v.2.2.2.2.2.1, (v.2.2.2.2.1, ())))))

/-- lightclient/dispute.Answer -/
def dispute_Answer (a0 : D_2c9a) (a1 : List D_6649) : Option (((Int × Int × (List Int) × Unit × Unit) × Unit × Int × Unit) × (List D_6649) × (List Int) × Unit) :=
  (dispute_Ask a0).bind fun r3 =>
  (dispute_whole a0).bind fun r4 =>
  bif (!r4.1.1) then
    some ((((0 : Int), ((0 : Int), ((List.replicate 32 (0 : Int)), ((), ())))), ((), ((6 : Int), ()))), (([] : List D_6649), (([] : List Int), ())))
  else
    (dispute_sound a1).bind fun r6 =>
    bif (!r6.1.1) then
      some ((((0 : Int), ((0 : Int), ((List.replicate 32 (0 : Int)), ((), ())))), ((), ((6 : Int), ()))), (([] : List D_6649), (([] : List Int), ())))
    else
      bif r3.1.2.1 then
        some ((((0 : Int), ((0 : Int), ((List.replicate 32 (0 : Int)), ((), ())))), ((), ((171 : Int), ()))), (([] : List D_6649), (([] : List Int), ())))
      else
        (dispute_merge a0.2.2.2.1 a1).bind fun r8 =>
        bif (decide ((((List.length r8.2.2.1) : Int)) = (0 : Int))) then
          some ((((0 : Int), ((0 : Int), ((List.replicate 32 (0 : Int)), ((), ())))), ((), ((221 : Int), ()))), (([] : List D_6649), (([] : List Int), ())))
        else
          (dispute_Answer_J1 r3.1.1 (((), ((), ((), ((), ((), ()))))), (a0, (((0 : Int), ((0 : Int), ((List.replicate 32 (0 : Int)), ((), ())))), (r8.2.1, (r8.2.2.1, (r8.2.2.2.1, ()))))))).bind fun o11 =>
          some (((o11.2.1.1, (o11.2.1.2.1, (o11.2.1.2.2.1, ((), ())))), ((), ((0 : Int), ()))), (o11.2.2.2.2.1, (o11.2.2.2.1, ())))

/-- lightclient/dispute.Open -/
def dispute_Open (a0 : D_2c9a) : Option ((Bool × Unit) × Unit) :=
  (dispute_whole a0).bind fun r2 =>
  bif r2.1.1 then
    (dispute_single a0.2.2.2.1).bind fun r3 =>
    some (((!r3.1.1), ()), ())
  else
    some ((false, ()), ())

/-- lightclient/dispute.Rounds -/
def dispute_Rounds (a0 : Int) (a1 : Int) : Option ((Int × Unit) × Unit) :=
  bif (decide (a1 ≤ a0)) then
    some (((0 : Int), ()), ())
  else
    (math_bits_Len64 (IntKind.u64.wrap ((IntKind.u64.wrap ((IntKind.u64.wrap (a1)) - (IntKind.u64.wrap (a0)))) - (1 : Int)))).bind fun r8 =>
    some ((r8.1.1, ()), ())

def dispute_Settle_L1 (c25 : List D_6649) (c26 : Int) (v : (Unit × Unit × Unit × Unit × Unit × Int × Unit) × D_2c9a × (List Int) × (Int × Int × (List Int) × Unit × Unit) × (List D_6649) × (List Int) × Unit) : Option (((Unit × Unit × Unit × Unit × Unit × Int × Unit) × D_2c9a × (List Int) × (Int × Int × (List Int) × Unit × Unit) × (List D_6649) × (List Int) × Unit) ⊕ ((Unit × Unit × Unit × Unit × Unit) × D_2c9a × (Int × Int × (List Int) × Unit × Unit) × (List D_6649) × (List Int) × Unit)) :=
  bif (decide (v.1.2.2.2.2.2.1 < c26)) then
    bif (inb v.1.2.2.2.2.2.1 (List.length c25)) then
      let x2002 := (rd T_6649 c25 v.1.2.2.2.2.2.1)
      bif (Ty.eqb (.arr 32 (.int .u8)) x2002.2.1 v.2.2.1) then
        let x2004 := ([x2002] : List D_6649)
        bif (decide ((List.length v.2.2.2.2.1) + (List.length x2004) ≤ lim)) then
          some (.inl (((), ((), ((), ((), ((), ((IntKind.i64.wrap (v.1.2.2.2.2.2.1 + (1 : Int))), ())))))), (v.2.1, (v.2.2.1, ((v.2.2.2.1.1, (v.2.2.2.1.2.1, (v.2.2.2.1.2.2.1, ((), ())))), ((v.2.2.2.2.1 ++ x2004), (v.2.2.2.2.2.1, ())))))))
        else
          none
      else
        let x2007 := ([x2002.1] : List Int)
        bif (decide ((List.length v.2.2.2.2.2.1) + (List.length x2007) ≤ lim)) then
          some (.inl (((), ((), ((), ((), ((), ((IntKind.i64.wrap (v.1.2.2.2.2.2.1 + (1 : Int))), ())))))), (v.2.1, (v.2.2.1, ((v.2.2.2.1.1, (v.2.2.2.1.2.1, (v.2.2.2.1.2.2.1, ((), ())))), (v.2.2.2.2.1, ((v.2.2.2.2.2.1 ++ x2007), ())))))))
        else
          none
    else
      none
  else
    some (.inr (((), ((), ((), ((), ())))), (v.2.1, ((v.2.2.2.1.1, (v.2.2.2.1.2.1, (v.2.2.2.1.2.2.1, ((), ())))), (v.2.2.2.2.1, (v.2.2.2.2.2.1, ()))))))

/-- lightclient/dispute.Settle -/
def dispute_Settle (a0 : D_2c9a) (a1 : List Int) : Option (((Int × Int × (List Int) × Unit × Unit) × Unit × Int × Unit) × (List D_6649) × (List Int) × Unit) :=
  (dispute_whole a0).bind fun r3 =>
  bif (!r3.1.1) then
    some ((((0 : Int), ((0 : Int), ((List.replicate 32 (0 : Int)), ((), ())))), ((), ((6 : Int), ()))), (([] : List D_6649), (([] : List Int), ())))
  else
    bif (decide ((1 : Int) < (IntKind.i64.wrap (a0.2.1 - a0.1)))) then
      some ((((0 : Int), ((0 : Int), ((List.replicate 32 (0 : Int)), ((), ())))), ((), ((171 : Int), ()))), (([] : List D_6649), (([] : List Int), ())))
    else
      (loopV (dispute_Settle_L1 a0.2.2.2.1 (((List.length a0.2.2.2.1) : Int))) (((), ((), ((), ((), ((), ((0 : Int), ())))))), (a0, (a1, (((0 : Int), ((0 : Int), ((List.replicate 32 (0 : Int)), ((), ())))), (([] : List D_6649), (([] : List Int), ()))))))).bind fun o8 =>
      bif (decide ((((List.length o8.2.2.2.1) : Int)) = (0 : Int))) then
        some ((((0 : Int), ((0 : Int), ((List.replicate 32 (0 : Int)), ((), ())))), ((), ((221 : Int), ()))), (([] : List D_6649), (([] : List Int), ())))
      else
        some (((o8.2.1.1, (o8.2.1.2.1, (o8.2.1.2.2.1, ((), ())))), ((), ((0 : Int), ()))), (o8.2.2.2.1, (o8.2.2.2.2.1, ())))

end Go.PE
end
end

section
set_option linter.unusedVariables false
noncomputable section
namespace Go.PE

def ref16_SameInts_L1 (c0 : List Int) (c1 : List Int) (c12 : Int) (v : (Int × Unit) × Unit) : Option (((Int × Unit) × Unit) ⊕ (((Bool × Unit) × Unit) ⊕ ((Unit) × Unit))) :=
  bif (decide (v.1.1 < c12)) then
    bif (inb v.1.1 (List.length c0)) then
      bif (inb v.1.1 (List.length c1)) then
        bif (!decide ((rd (.int .i64) c0 v.1.1) = (rd (.int .i64) c1 v.1.1))) then
          some (.inr (.inl ((false, ()), ())))
        else
          some (.inl (((IntKind.i64.wrap (v.1.1 + (1 : Int))), ()), ()))
      else
        none
    else
      none
  else
    some (.inr (.inr ((), ())))

/-- lightclient/lightclientref16.SameInts -/
def ref16_SameInts (a0 : List Int) (a1 : List Int) : Option ((Bool × Unit) × Unit) :=
  bif (!decide ((((List.length a0) : Int)) = (((List.length a1) : Int)))) then
    some ((false, ()), ())
  else
    (loopV (ref16_SameInts_L1 a0 a1 (((List.length a0) : Int))) (((0 : Int), ()), ())).bind fun o7 =>
    match o7 with
    | .inl o8 =>
      some ((o8.1.1, ()), ())
    | .inr o9 =>
      some ((true, ()), ())

end Go.PE
end
end

section
set_option linter.unusedVariables false
noncomputable section
namespace Go.PE

/-- lightclient/lightclientref22.span -/
def ref22_span (a0 : Int) (a1 : Int) : Option ((Bool × Unit) × Unit) :=
  bif (decide ((0 : Int) ≤ a0)) then
    bif (decide (a0 < a1)) then
      some (((decide (a1 ≤ (16777216 : Int))), ()), ())
    else
      some ((false, ()), ())
  else
    some ((false, ()), ())

def ref22_claims_L1 (c0 : List D_6649) (c8 : Int) (v : (Int × Unit) × Unit) : Option (((Int × Unit) × Unit) ⊕ (((Bool × Unit) × Unit) ⊕ ((Unit) × Unit))) :=
  bif (decide (v.1.1 < c8)) then
    bif (inb v.1.1 (List.length c0)) then
      bif (decide ((rd T_6649 c0 v.1.1).1 < (0 : Int))) then
        some (.inr (.inl ((false, ()), ())))
      else
        bif (decide ((0 : Int) < v.1.1)) then
          let x2005 := (IntKind.i64.wrap (v.1.1 - (1 : Int)))
          bif (inb x2005 (List.length c0)) then
            bif (inb v.1.1 (List.length c0)) then
              bif (decide ((rd T_6649 c0 v.1.1).1 ≤ (rd T_6649 c0 x2005).1)) then
                some (.inr (.inl ((false, ()), ())))
              else
                some (.inl (((IntKind.i64.wrap (v.1.1 + (1 : Int))), ()), ()))
            else
              none
          else
            none
        else
          some (.inl (((IntKind.i64.wrap (v.1.1 + (1 : Int))), ()), ()))
    else
      none
  else
    some (.inr (.inr ((), ())))

/-- lightclient/lightclientref22.claims -/
def ref22_claims (a0 : List D_6649) : Option ((Bool × Unit) × Unit) :=
  bif (decide ((64 : Int) < (((List.length a0) : Int)))) then
    some ((false, ()), ())
  else
    (loopV (ref22_claims_L1 a0 (((List.length a0) : Int))) (((0 : Int), ()), ())).bind fun o5 =>
    match o5 with
    | .inl o6 =>
      some ((o6.1.1, ()), ())
    | .inr o7 =>
      some ((true, ()), ())

/-- lightclient/lightclientref22.Sound -/
def ref22_Sound (a0 : D_2c9a) : Option ((Bool × Unit) × Unit) :=
  (ref22_span a0.1 a0.2.1).bind fun r2 =>
  bif r2.1.1 then
    bif (decide ((0 : Int) < (((List.length a0.2.2.2.1) : Int)))) then
      (ref22_claims a0.2.2.2.1).bind fun r5 =>
      some ((r5.1.1, ()), ())
    else
      some ((false, ()), ())
  else
    some ((false, ()), ())

def ref22_Settle_L1 (c25 : List D_6649) (c26 : Int) (v : (Unit × Unit × Unit × Unit × Int × Unit) × (List Int) × (Int × Int × (List Int) × Unit × Unit) × (Int × Int × (List Int) × Unit × Unit) × (List Int) × (List D_6649) × Unit) : Option (((Unit × Unit × Unit × Unit × Int × Unit) × (List Int) × (Int × Int × (List Int) × Unit × Unit) × (Int × Int × (List Int) × Unit × Unit) × (List Int) × (List D_6649) × Unit) ⊕ ((Unit × Unit × Unit × Unit) × (Int × Int × (List Int) × Unit × Unit) × (Int × Int × (List Int) × Unit × Unit) × (List Int) × (List D_6649) × Unit)) :=
  bif (decide (v.1.2.2.2.2.1 < c26)) then
    bif (inb v.1.2.2.2.2.1 (List.length c25)) then
      let x2002 := (rd T_6649 c25 v.1.2.2.2.2.1)
      bif (Ty.eqb (.arr 32 (.int .u8)) x2002.2.1 v.2.1) then
        let x2004 := ([x2002] : List D_6649)
        bif (decide ((List.length v.2.2.2.2.2.1) + (List.length x2004) ≤ lim)) then
          some (.inl (((), ((), ((), ((), ((IntKind.i64.wrap (v.1.2.2.2.2.1 + (1 : Int))), ()))))), (v.2.1, ((v.2.2.1.1, (v.2.2.1.2.1, (v.2.2.1.2.2.1, ((), ())))), ((v.2.2.2.1.1, (v.2.2.2.1.2.1, (v.2.2.2.1.2.2.1, ((), ())))), (v.2.2.2.2.1, ((v.2.2.2.2.2.1 ++ x2004), ())))))))
        else
          none
      else
        let x2007 := ([x2002.1] : List Int)
        bif (decide ((List.length v.2.2.2.2.1) + (List.length x2007) ≤ lim)) then
          some (.inl (((), ((), ((), ((), ((IntKind.i64.wrap (v.1.2.2.2.2.1 + (1 : Int))), ()))))), (v.2.1, ((v.2.2.1.1, (v.2.2.1.2.1, (v.2.2.1.2.2.1, ((), ())))), ((v.2.2.2.1.1, (v.2.2.2.1.2.1, (v.2.2.2.1.2.2.1, ((), ())))), ((v.2.2.2.2.1 ++ x2007), (v.2.2.2.2.2.1, ())))))))
        else
          none
    else
      none
  else
    some (.inr (((), ((), ((), ()))), ((v.2.2.1.1, (v.2.2.1.2.1, (v.2.2.1.2.2.1, ((), ())))), ((v.2.2.2.1.1, (v.2.2.2.1.2.1, (v.2.2.2.1.2.2.1, ((), ())))), (v.2.2.2.2.1, (v.2.2.2.2.2.1, ()))))))

/-- lightclient/lightclientref22.Settle -/
def ref22_Settle (a0 : D_2c9a) (a1 : List Int) : Option (((Int × Int × (List Int) × Unit × Unit) × Unit × Int × Unit) × (List D_6649) × (List Int) × Unit) :=
  (ref22_Sound a0).bind fun r3 =>
  bif (!r3.1.1) then
    some ((((0 : Int), ((0 : Int), ((List.replicate 32 (0 : Int)), ((), ())))), ((), ((6 : Int), ()))), (([] : List D_6649), (([] : List Int), ())))
  else
    bif (decide ((1 : Int) < (IntKind.i64.wrap (a0.2.1 - a0.1)))) then
      some ((((0 : Int), ((0 : Int), ((List.replicate 32 (0 : Int)), ((), ())))), ((), ((171 : Int), ()))), (([] : List D_6649), (([] : List Int), ())))
    else
      (loopV (ref22_Settle_L1 a0.2.2.2.1 (((List.length a0.2.2.2.1) : Int))) (((), ((), ((), ((), ((0 : Int), ()))))), (a1, (((0 : Int), ((0 : Int), ((List.replicate 32 (0 : Int)), ((), ())))), ((a0.1, (a0.2.1, (a0.2.2.1, ((), ())))), (([] : List Int), (([] : List D_6649), ()))))))).bind fun o8 =>
      bif (decide ((((List.length o8.2.2.2.2.1) : Int)) = (0 : Int))) then
        some ((((0 : Int), ((0 : Int), ((List.replicate 32 (0 : Int)), ((), ())))), ((), ((221 : Int), ()))), (([] : List D_6649), (([] : List Int), ())))
      else
        some (((o8.2.2.1.1, (o8.2.2.1.2.1, (o8.2.2.1.2.2.1, ((), ())))), ((), ((0 : Int), ()))), (o8.2.2.2.2.1, (o8.2.2.2.1, ())))

def ref22_Same_L1 (c36 : Int) (v : (Unit × Unit × Int × Unit) × D_2c9a × D_2c9a × Unit) : Option (((Unit × Unit × Int × Unit) × D_2c9a × D_2c9a × Unit) ⊕ (((Bool × Unit) × Unit) ⊕ ((Unit) × Unit))) :=
  bif (decide (v.1.2.2.1 < c36)) then
    bif (inb v.1.2.2.1 (List.length v.2.1.2.2.2.1)) then
      bif (inb v.1.2.2.1 (List.length v.2.2.1.2.2.2.1)) then
        bif (!(Ty.eqb T_6649 (rd T_6649 v.2.1.2.2.2.1 v.1.2.2.1) (rd T_6649 v.2.2.1.2.2.2.1 v.1.2.2.1))) then
          some (.inr (.inl ((false, ()), ())))
        else
          some (.inl (((), ((), ((IntKind.i64.wrap (v.1.2.2.1 + (1 : Int))), ()))), (v.2.1, (v.2.2.1, ()))))
      else
        none
    else
      none
  else
    some (.inr (.inr ((), ())))

/-- lightclient/lightclientref22.Same -/
def ref22_Same (a0 : D_2c9a) (a1 : D_2c9a) : Option ((Bool × Unit) × Unit) :=
  bif (!decide (a0.1 = a1.1)) then
    some ((false, ()), ())
  else
    bif (!decide (a0.2.1 = a1.2.1)) then
      some ((false, ()), ())
    else
      bif (!(Ty.eqb (.arr 32 (.int .u8)) a0.2.2.1 a1.2.2.1)) then
        some ((false, ()), ())
      else
        bif (!decide ((((List.length a0.2.2.2.1) : Int)) = (((List.length a1.2.2.2.1) : Int)))) then
          some ((false, ()), ())
        else
          (loopV (ref22_Same_L1 (((List.length a0.2.2.2.1) : Int))) (((), ((), ((0 : Int), ()))), (a0, (a1, ())))).bind fun o10 =>
          match o10 with
          | .inl o11 =>
            some ((o11.1.1, ()), ())
          | .inr o12 =>
            some ((true, ()), ())

end Go.PE
end
end

section
set_option linter.unusedVariables false
noncomputable section
namespace Go.PE

/-- lightclient/lightclientlaw22.sane -/
def law22_sane : Option ((Bool × Unit) × Unit) :=
  ((List.replicate 32 (0 : Int))[(0)]?).bind fun e1 =>
  ((List.replicate 32 (0 : Int))[(0)]?).bind fun e3 =>
  let x5 := ([((1 : Int), (((List.replicate 32 (0 : Int)).set (0) (1 : Int)), ())), ((4 : Int), (((List.replicate 32 (0 : Int)).set (0) (2 : Int)), ()))] : List D_6649)
  (dispute_Begin (0 : Int) (List.replicate 32 (0 : Int)) (8 : Int) x5).bind fun r7 =>
  (dispute_Ask (r7.1.1.1, (r7.1.1.2.1, (r7.1.1.2.2.1, (r7.2.1, ()))))).bind fun r8 =>
  bif (inb (0 : Int) (List.length x5)) then
    (x5[(0)]?).bind fun e9 =>
    bif (inb (1 : Int) (List.length x5)) then
      (x5[(1)]?).bind fun e10 =>
      (dispute_Answer (r7.1.1.1, (r7.1.1.2.1, (r7.1.1.2.2.1, (r7.2.1, ())))) (x5.set (1) (e10.1, (e9.2.1, e10.2.2)))).bind fun r12 =>
      (dispute_Ask (r12.1.1.1, (r12.1.1.2.1, (r12.1.1.2.2.1, (r12.2.1, ()))))).bind fun r13 =>
      bif (decide (r7.1.2.1 = (0 : Int))) then
        bif (decide (r12.1.2.2.1 = (0 : Int))) then
          (dispute_Open (r7.1.1.1, (r7.1.1.2.1, (r7.1.1.2.2.1, (r7.2.1, ()))))).bind fun r16 =>
          bif r16.1.1 then
            bif (decide (r8.1.1 = (4 : Int))) then
              bif (!r8.1.2.1) then
                bif (decide ((((List.length r12.2.2.1) : Int)) = (0 : Int))) then
                  bif (decide (r13.1.1 = (6 : Int))) then
                    (dispute_Rounds (0 : Int) (8 : Int)).bind fun r22 =>
                    some (((decide (r22.1.1 = (3 : Int))), ()), ())
                  else
                    some ((false, ()), ())
                else
                  some ((false, ()), ())
              else
                some ((false, ()), ())
            else
              some ((false, ()), ())
          else
            some ((false, ()), ())
        else
          some ((false, ()), ())
      else
        some ((false, ()), ())
    else
      none
  else
    none

/-- lightclient/lightclientlaw22.kept -/
def law22_kept (a0 : List D_6649) : Option ((Bool × Unit) × Unit) :=
  some (((decide ((((List.length a0) : Int)) ≤ (70 : Int))), ()), ())

def law22_DisputeNarrows_J1 (c5 : Int) (v : (Unit × Unit × Unit × Unit) × D_2c9a × (Int × Int × (List Int) × Unit × Unit) × (List Int) × (List D_6649) × Unit) : Option ((Unit × Unit × Bool × Unit) × D_2c9a × (Int × Int × (List Int) × Unit × Unit) × (List D_6649) × Unit) :=
  bif (decide (v.2.2.1.1 = c5)) then
    bif (decide (v.2.2.1.2.1 = v.2.1.2.1)) then
      bif (!true) then
        some (((), ((), (true, ()))), (v.2.1, ((v.2.2.1.1, (v.2.2.1.2.1, (v.2.2.1.2.2.1, ((), ())))), (v.2.2.2.2.1, ()))))
      else
        some (((), ((), ((!decide ((IntKind.i64.wrap ((((List.length v.2.2.2.2.1) : Int)) + (((List.length v.2.2.2.1) : Int)))) = (((List.length v.2.1.2.2.2.1) : Int)))), ()))), (v.2.1, ((v.2.2.1.1, (v.2.2.1.2.1, (v.2.2.1.2.2.1, ((), ())))), (v.2.2.2.2.1, ()))))
    else
      bif (decide (v.2.2.1.1 = v.2.1.1)) then
        bif (decide (v.2.2.1.2.1 = c5)) then
          bif (!(Ty.eqb (.arr 32 (.int .u8)) v.2.2.1.2.2.1 v.2.1.2.2.1)) then
            some (((), ((), (true, ()))), (v.2.1, ((v.2.2.1.1, (v.2.2.1.2.1, (v.2.2.1.2.2.1, ((), ())))), (v.2.2.2.2.1, ()))))
          else
            some (((), ((), ((!decide ((IntKind.i64.wrap ((((List.length v.2.2.2.2.1) : Int)) + (((List.length v.2.2.2.1) : Int)))) = (((List.length v.2.1.2.2.2.1) : Int)))), ()))), (v.2.1, ((v.2.2.1.1, (v.2.2.1.2.1, (v.2.2.1.2.2.1, ((), ())))), (v.2.2.2.2.1, ()))))
        else
          bif (!false) then
            some (((), ((), (true, ()))), (v.2.1, ((v.2.2.1.1, (v.2.2.1.2.1, (v.2.2.1.2.2.1, ((), ())))), (v.2.2.2.2.1, ()))))
          else
            some (((), ((), ((!decide ((IntKind.i64.wrap ((((List.length v.2.2.2.2.1) : Int)) + (((List.length v.2.2.2.1) : Int)))) = (((List.length v.2.1.2.2.2.1) : Int)))), ()))), (v.2.1, ((v.2.2.1.1, (v.2.2.1.2.1, (v.2.2.1.2.2.1, ((), ())))), (v.2.2.2.2.1, ()))))
      else
        bif (!false) then
          some (((), ((), (true, ()))), (v.2.1, ((v.2.2.1.1, (v.2.2.1.2.1, (v.2.2.1.2.2.1, ((), ())))), (v.2.2.2.2.1, ()))))
        else
          some (((), ((), ((!decide ((IntKind.i64.wrap ((((List.length v.2.2.2.2.1) : Int)) + (((List.length v.2.2.2.1) : Int)))) = (((List.length v.2.1.2.2.2.1) : Int)))), ()))), (v.2.1, ((v.2.2.1.1, (v.2.2.1.2.1, (v.2.2.1.2.2.1, ((), ())))), (v.2.2.2.2.1, ()))))
  else
    bif (decide (v.2.2.1.1 = v.2.1.1)) then
      bif (decide (v.2.2.1.2.1 = c5)) then
        bif (!(Ty.eqb (.arr 32 (.int .u8)) v.2.2.1.2.2.1 v.2.1.2.2.1)) then
          some (((), ((), (true, ()))), (v.2.1, ((v.2.2.1.1, (v.2.2.1.2.1, (v.2.2.1.2.2.1, ((), ())))), (v.2.2.2.2.1, ()))))
        else
          some (((), ((), ((!decide ((IntKind.i64.wrap ((((List.length v.2.2.2.2.1) : Int)) + (((List.length v.2.2.2.1) : Int)))) = (((List.length v.2.1.2.2.2.1) : Int)))), ()))), (v.2.1, ((v.2.2.1.1, (v.2.2.1.2.1, (v.2.2.1.2.2.1, ((), ())))), (v.2.2.2.2.1, ()))))
      else
        bif (!false) then
          some (((), ((), (true, ()))), (v.2.1, ((v.2.2.1.1, (v.2.2.1.2.1, (v.2.2.1.2.2.1, ((), ())))), (v.2.2.2.2.1, ()))))
        else
          some (((), ((), ((!decide ((IntKind.i64.wrap ((((List.length v.2.2.2.2.1) : Int)) + (((List.length v.2.2.2.1) : Int)))) = (((List.length v.2.1.2.2.2.1) : Int)))), ()))), (v.2.1, ((v.2.2.1.1, (v.2.2.1.2.1, (v.2.2.1.2.2.1, ((), ())))), (v.2.2.2.2.1, ()))))
    else
      bif (!false) then
        some (((), ((), (true, ()))), (v.2.1, ((v.2.2.1.1, (v.2.2.1.2.1, (v.2.2.1.2.2.1, ((), ())))), (v.2.2.2.2.1, ()))))
      else
        some (((), ((), ((!decide ((IntKind.i64.wrap ((((List.length v.2.2.2.2.1) : Int)) + (((List.length v.2.2.2.1) : Int)))) = (((List.length v.2.1.2.2.2.1) : Int)))), ()))), (v.2.1, ((v.2.2.1.1, (v.2.2.1.2.1, (v.2.2.1.2.2.1, ((), ())))), (v.2.2.2.2.1, ()))))

def law22_DisputeNarrows_J2 (c5 : Int) (v : (Unit × Unit × Unit) × D_2c9a × (Int × Int × (List Int) × Unit × Unit) × (List D_6649) × Unit) : Option (((Bool × Unit) × Unit) ⊕ ((Unit × Unit × Unit) × D_2c9a × (Int × Int × (List Int) × Unit × Unit) × (List D_6649) × Unit)) :=
  bif (decide (v.2.2.1.2.1 = c5)) then
    (dispute_Open (v.2.2.1.1, (v.2.2.1.2.1, (v.2.2.1.2.2.1, (v.2.2.2.1, ()))))).bind fun r3002 =>
    bif (!r3002.1.1) then
      some (.inl ((false, ()), ()))
    else
      some (.inr (((), ((), ())), (v.2.1, ((v.2.2.1.1, (v.2.2.1.2.1, (v.2.2.1.2.2.1, ((), ())))), (v.2.2.2.1, ())))))
  else
    some (.inr (((), ((), ())), (v.2.1, ((v.2.2.1.1, (v.2.2.1.2.1, (v.2.2.1.2.2.1, ((), ())))), (v.2.2.2.1, ())))))

/-- lightclient/lightclientlaw22.DisputeNarrows -/
def law22_DisputeNarrows (a0 : D_2c9a) (a1 : List D_6649) : Option ((Bool × Unit) × Unit) :=
  (law22_sane).bind fun r3 =>
  bif (!r3.1.1) then
    some ((false, ()), ())
  else
    (law22_kept a1).bind fun r5 =>
    bif (!r5.1.1) then
      some ((true, ()), ())
    else
      (law22_kept a0.2.2.2.1).bind fun r7 =>
      bif (!r7.1.1) then
        some ((true, ()), ())
      else
        (dispute_Ask a0).bind fun r9 =>
        (dispute_Answer a0 a1).bind fun r10 =>
        bif (!decide (r10.1.2.2.1 = (0 : Int))) then
          bif (decide ((((List.length r10.2.1) : Int)) = (0 : Int))) then
            some (((decide ((((List.length r10.2.2.1) : Int)) = (0 : Int))), ()), ())
          else
            some ((false, ()), ())
        else
          (law22_DisputeNarrows_J1 r9.1.1 (((), ((), ((), ()))), (a0, ((r10.1.1.1, (r10.1.1.2.1, (r10.1.1.2.2.1, ((), ())))), (r10.2.2.1, (r10.2.1, ())))))).bind fun o16 =>
          bif o16.1.2.2.1 then
            some ((false, ()), ())
          else
            (law22_DisputeNarrows_J2 r9.1.1 (((), ((), ())), (o16.2.1, ((o16.2.2.1.1, (o16.2.2.1.2.1, (o16.2.2.1.2.2.1, ((), ())))), (o16.2.2.2.1, ()))))).bind fun o17 =>
            match o17 with
            | .inl o18 =>
              some ((o18.1.1, ()), ())
            | .inr o19 =>
              (dispute_Rounds o19.2.2.1.1 o19.2.2.1.2.1).bind fun r20 =>
              (dispute_Rounds o19.2.1.1 o19.2.1.2.1).bind fun r21 =>
              some (((decide (r20.1.1 < r21.1.1)), ()), ())

def law22_DisputeSettles_J1 (c2 : Int) (v : (Unit × Unit × Unit) × D_2c9a × (List Int) × Unit) : Option ((Unit × Unit × Unit) × D_2c9a × (List Int) × Unit) :=
  bif (decide ((0 : Int) < (((List.length v.2.1.2.2.2.1) : Int)))) then
    bif (decide ((0 : Int) < (Int.tmod c2 (3 : Int)))) then
      let x2006 := (((List.length v.2.1.2.2.2.1) : Int))
      bif (decide (x2006 = 0)) then
        none
      else
        let x2007 := (Int.tmod (IntKind.i64.wrap (c2)) x2006)
        bif (inb x2007 (List.length v.2.1.2.2.2.1)) then
          some (((), ((), ())), (v.2.1, ((rd T_6649 v.2.1.2.2.2.1 x2007).2.1, ())))
        else
          none
    else
      some (((), ((), ())), (v.2.1, (v.2.2.1, ())))
  else
    some (((), ((), ())), (v.2.1, (v.2.2.1, ())))

/-- lightclient/lightclientlaw22.DisputeSettles -/
def law22_DisputeSettles (a0 : D_2c9a) (a1 : List Int) (a2 : Int) : Option ((Bool × Unit) × Unit) :=
  (law22_sane).bind fun r4 =>
  bif (!r4.1.1) then
    some ((false, ()), ())
  else
    (law22_kept a0.2.2.2.1).bind fun r6 =>
    bif (!r6.1.1) then
      some ((true, ()), ())
    else
      (law22_DisputeSettles_J1 a2 (((), ((), ())), (a0, (a1, ())))).bind fun o8 =>
      (dispute_Settle o8.2.1 o8.2.2.1).bind fun r9 =>
      (ref22_Settle o8.2.1 o8.2.2.1).bind fun r10 =>
      bif (decide (r9.1.2.2.1 = r10.1.2.2.1)) then
        (ref22_Same (r9.1.1.1, (r9.1.1.2.1, (r9.1.1.2.2.1, (r9.2.1, ())))) (r10.1.1.1, (r10.1.1.2.1, (r10.1.1.2.2.1, (r10.2.1, ()))))).bind fun r12 =>
        bif r12.1.1 then
          (ref16_SameInts r9.2.2.1 r10.2.2.1).bind fun r13 =>
          some ((r13.1.1, ()), ())
        else
          some ((false, ()), ())
      else
        some ((false, ()), ())

end Go.PE
end
end

section
namespace Go.PE
set_option linter.unusedSimpArgs false
/-! ### loops -/
section
variable {σ ω : Type} {step : σ → Option (σ ⊕ ω)}
theorem iter_mono {v : σ} {o : ω} : ∀ {n m : Nat}, n ≤ m → iter step n v = some o → iter step m v = some o := by
  intro n
  induction n generalizing v with
  | zero => intro m _ h; cases h
  | succ n ih =>
    intro m hm h
    cases m with
    | zero => omega
    | succ m =>
      simp only [iter] at h ⊢
      obtain ⟨x, h1, h2⟩ := Option.bind_eq_some_iff.1 h
      rw [h1]
      cases x with
      | inl v' => exact ih (by omega) h2
      | inr o' => exact h2
theorem loopV_of {v : σ} {o : ω} {n : Nat} (h : iter step n v = some o) : loopV step v = some o := by
  unfold loopV
  have hx : ∃ n o, iter step n v = some o := ⟨n, o, h⟩
  rw [dif_pos hx]
  have hc := hx.choose_spec.choose_spec
  have h1 := iter_mono (Nat.le_max_left hx.choose n) hc
  have h2 := iter_mono (Nat.le_max_right hx.choose n) h
  rw [h1] at h2
  exact h2
theorem loopV_next {v v' : σ} (h : step v = some (.inl v')) : loopV step v = loopV step v' := by
  unfold loopV
  have key : ∀ o, (∃ n, iter step n v = some o) ↔ ∃ n, iter step n v' = some o := by
    intro o
    constructor
    · rintro ⟨n, hn⟩
      cases n with
      | zero => cases hn
      | succ n => simp only [iter, h, Option.bind_some] at hn; exact ⟨n, hn⟩
    · rintro ⟨n, hn⟩
      exact ⟨n + 1, by simp only [iter, h, Option.bind_some]; exact hn⟩
  by_cases hx : ∃ n o, iter step n v = some o
  · obtain ⟨n, o, hn⟩ := hx
    obtain ⟨m, hm⟩ := (key o).1 ⟨n, hn⟩
    have e1 := loopV_of hn
    have e2 := loopV_of hm
    unfold loopV at e1 e2
    rw [e1, e2]
  · have hy : ¬ ∃ n o, iter step n v' = some o := by
      rintro ⟨n, o, hn⟩
      obtain ⟨m, hm⟩ := (key o).2 ⟨n, hn⟩
      exact hx ⟨m, o, hm⟩
    rw [dif_neg hx, dif_neg hy]
theorem loopV_done {v : σ} {o : ω} (h : step v = some (.inr o)) : loopV step v = some o :=
  loopV_of (n := 1) (by simp [iter, h])
/-- A loop with a counter: what holds at each round's head leads to the end. -/
theorem loopV_ind {v : σ} {o : ω} (f : Nat → σ) (n : Nat) (hv : v = f 0) (hs : ∀ i, i < n → step (f i) = some (.inl (f (i + 1)))) (he : step (f n) = some (.inr o)) : loopV step v = some o := by
  subst hv
  have : ∀ k, k ≤ n → loopV step (f 0) = loopV step (f k) := by
    intro k
    induction k with
    | zero => intro _; rfl
    | succ k ih => intro hk; rw [ih (by omega), loopV_next (hs k (by omega))]
  rw [this n (Nat.le_refl n), loopV_done he]
/-- A loop by a measure: an invariant that each round keeps, until an end at which Q holds. -/
theorem loopV_inv (I : σ → Prop) (m : σ → Nat) (Q : ω → Prop) {v : σ} (h0 : I v)
    (hs : ∀ v, I v → (∃ v', step v = some (.inl v') ∧ I v' ∧ m v' < m v) ∨ ∃ o, step v = some (.inr o) ∧ Q o) : ∃ o, loopV step v = some o ∧ Q o := by
  generalize hn : m v = n
  induction n using Nat.strongRecOn generalizing v with
  | _ n ih =>
    rcases hs v h0 with ⟨v', h1, h2, h3⟩ | ⟨o, h1, h2⟩
    · obtain ⟨o, h4, h5⟩ := ih (m v') (by omega) h2 rfl
      exact ⟨o, by rw [loopV_next h1]; exact h4, h5⟩
    · exact ⟨o, loopV_done h1, h2⟩
end
/-! ### tests -/
theorem bif_t {α : Type} {c : Bool} {a b : α} (h : c = true) : (bif c then a else b) = a := by rw [h]; rfl
theorem bif_f {α : Type} {c : Bool} {a b : α} (h : c = false) : (bif c then a else b) = b := by rw [h]; rfl
theorem bif_ite {α : Type} {c : Bool} {a b : α} : (bif c then a else b) = if c = true then a else b := by cases c <;> rfl
theorem inb_t {i : Int} {n : Nat} (h : 0 ≤ i ∧ i < n) : inb i n = true := by simp [inb, h]
theorem inb_f {i : Int} {n : Nat} (h : ¬ (0 ≤ i ∧ i < n)) : inb i n = false := by
  cases hb : inb i n with
  | false => rfl
  | true => simp [inb] at hb; exact (h hb).elim
/-! ### numbers -/
theorem tdiv_nn {a b : Int} (h : 0 ≤ a) : a.tdiv b = a / b := Int.tdiv_eq_ediv_of_nonneg h
theorem tmod_nn {a b : Int} (h : 0 ≤ a) : a.tmod b = a % b := Int.tmod_eq_emod_of_nonneg h
theorem ofInt_nat {w : Nat} {a : Int} (h0 : 0 ≤ a) (h1 : a < 2 ^ w) : (BitVec.ofInt w a).toNat = a.toNat := by
  rw [BitVec.toNat_ofInt, Int.emod_eq_of_lt h0 (by exact_mod_cast h1)]
theorem wrap_un {k : IntKind} (hk : k.signed = false) {n : Int} (h0 : 0 ≤ n) (h1 : n < 2 ^ k.bits) : k.wrap n = n := by
  cases k <;> first | (cases hk; done) | skip
  · exact IntWalk.u8_in n ⟨h0, by simp [IntKind.bits] at h1; omega⟩
  · exact IntWalk.u16_in n ⟨h0, by simp [IntKind.bits] at h1; omega⟩
  · exact IntWalk.u32_in n ⟨h0, by simp [IntKind.bits] at h1; omega⟩
  · exact IntWalk.u64_in n ⟨h0, by simp [IntKind.bits] at h1; omega⟩
theorem and_un {k : IntKind} (hk : k.signed = false) {a b : Int} (h0 : 0 ≤ a) (h1 : a < 2 ^ k.bits) (h2 : 0 ≤ b) (h3 : b < 2 ^ k.bits) : bitI .and k a b = ((a.toNat &&& b.toNat : Nat) : Int) := by
  show k.wrap (BitVec.ofInt k.bits a &&& BitVec.ofInt k.bits b).toNat = _
  rw [BitVec.toNat_and, ofInt_nat h0 h1, ofInt_nat h2 h3]
  apply wrap_un hk (by omega)
  have := Nat.and_lt_two_pow a.toNat (show b.toNat < 2 ^ k.bits by
    have : ((2 ^ k.bits : Nat) : Int) = 2 ^ k.bits := by simp
    omega)
  exact_mod_cast this
theorem or_un {k : IntKind} (hk : k.signed = false) {a b : Int} (h0 : 0 ≤ a) (h1 : a < 2 ^ k.bits) (h2 : 0 ≤ b) (h3 : b < 2 ^ k.bits) : bitI .or k a b = ((a.toNat ||| b.toNat : Nat) : Int) := by
  show k.wrap (BitVec.ofInt k.bits a ||| BitVec.ofInt k.bits b).toNat = _
  have e : ((2 ^ k.bits : Nat) : Int) = 2 ^ k.bits := by simp
  rw [BitVec.toNat_or, ofInt_nat h0 h1, ofInt_nat h2 h3]
  apply wrap_un hk (by omega)
  have := Nat.or_lt_two_pow (x := a.toNat) (y := b.toNat) (n := k.bits) (by omega) (by omega)
  exact_mod_cast this
theorem xor_un {k : IntKind} (hk : k.signed = false) {a b : Int} (h0 : 0 ≤ a) (h1 : a < 2 ^ k.bits) (h2 : 0 ≤ b) (h3 : b < 2 ^ k.bits) : bitI .xor k a b = ((a.toNat ^^^ b.toNat : Nat) : Int) := by
  show k.wrap (BitVec.ofInt k.bits a ^^^ BitVec.ofInt k.bits b).toNat = _
  have e : ((2 ^ k.bits : Nat) : Int) = 2 ^ k.bits := by simp
  rw [BitVec.toNat_xor, ofInt_nat h0 h1, ofInt_nat h2 h3]
  apply wrap_un hk (by omega)
  have := Nat.xor_lt_two_pow (x := a.toNat) (y := b.toNat) (n := k.bits) (by omega) (by omega)
  exact_mod_cast this
theorem shr_un {k : IntKind} {a b : Int} (h0 : 0 ≤ a) (h1 : a < 2 ^ k.bits) : shrI k a b = ((a.toNat >>> b.toNat : Nat) : Int) := by
  unfold shrI
  obtain ⟨x, rfl⟩ := Int.eq_ofNat_of_zero_le h0
  have e : ((2 : Int) ^ min b.toNat k.bits) = ((2 ^ min b.toNat k.bits : Nat) : Int) := by simp
  rw [e, Int.fdiv_eq_ediv_of_nonneg _ (Int.natCast_nonneg _), ← Int.natCast_ediv, Int.toNat_natCast, Nat.shiftRight_eq_div_pow]
  congr 1
  by_cases hb : b.toNat ≤ k.bits
  · rw [Nat.min_eq_left hb]
  · rw [Nat.min_eq_right (by omega)]
    have hx : x < 2 ^ k.bits := by exact_mod_cast h1
    rw [Nat.div_eq_of_lt hx, Nat.div_eq_of_lt (Nat.lt_of_lt_of_le hx (Nat.pow_le_pow_right (by omega) (by omega)))]
theorem wrap_un_mod {k : IntKind} (hk : k.signed = false) (n : Int) : k.wrap n = n % 2 ^ k.bits := by
  cases k <;> first | (cases hk; done) | (simp [IntKind.wrap, IntKind.signed, IntKind.bits])
theorem shl_un {k : IntKind} (hk : k.signed = false) {a b : Int} (h0 : 0 ≤ a) : shlI k a b = (((a.toNat <<< b.toNat) % 2 ^ k.bits : Nat) : Int) := by
  unfold shlI
  obtain ⟨x, rfl⟩ := Int.eq_ofNat_of_zero_le h0
  rw [wrap_un_mod hk, Int.toNat_natCast, Nat.shiftLeft_eq]
  have e : ((2 : Int) ^ min b.toNat k.bits) = ((2 ^ min b.toNat k.bits : Nat) : Int) := by simp
  have e2 : ((2 : Int) ^ k.bits) = ((2 ^ k.bits : Nat) : Int) := by simp
  rw [e, e2, ← Int.natCast_mul, ← Int.natCast_emod]
  congr 1
  by_cases hb : b.toNat ≤ k.bits
  · rw [Nat.min_eq_left hb]
  · rw [Nat.min_eq_right (by omega), Nat.mul_mod_left]
    obtain ⟨c, hc⟩ : ∃ c, b.toNat = k.bits + c := ⟨b.toNat - k.bits, by omega⟩
    rw [hc, Nat.pow_add, ← Nat.mul_assoc, Nat.mul_right_comm, Nat.mul_mod_left]
/-! ### lists -/
theorem rd_eq {t : Ty} {xs : List t.den} {i : Int} : rd t xs i = xs.getD i.toNat t.dflt := rfl
theorem eqList_iff {α : Type} {f : α → α → Bool} (hf : ∀ a b, f a b = true ↔ a = b) : ∀ {x y : List α}, eqList f x y = true ↔ x = y := by
  intro x
  induction x with
  | nil => intro y; cases y <;> simp [eqList]
  | cons a x ih => intro y; cases y with
    | nil => simp [eqList]
    | cons b y => simp [eqList, hf, ih]
theorem eqList_int {x y : List Int} : eqList (fun (x y : Int) => decide (x = y)) x y = decide (x = y) := by
  rw [Bool.eq_iff_iff, eqList_iff (by simp)]; simp
end Go.PE
end

section
namespace Go.PE
set_option linter.unusedSimpArgs false
theorem loopV_all {σ ω : Type} {step : σ → Option (σ ⊕ ω)} {v : σ} (f : Nat → σ) (n : Nat) (p : Nat → Bool) {bad good : ω} {b : Bool} (hv : v = f 0) (hb : b = true ↔ ∀ i, i < n → p i = true)
    (hs : ∀ i, i < n → step (f i) = some (bif p i then .inl (f (i + 1)) else .inr bad)) (he : step (f n) = some (.inr good)) : loopV step v = some (bif b then good else bad) := by
  subst hv
  have key : ∀ k i, i + k = n → ((∀ j, i ≤ j → j < n → p j = true) → loopV step (f i) = some good) ∧ ((∃ j, i ≤ j ∧ j < n ∧ p j = false) → loopV step (f i) = some bad) := by
    intro k
    induction k with
    | zero =>
      intro i hi
      have : i = n := by omega
      subst this
      exact ⟨fun _ => loopV_done he, fun ⟨j, h1, h2, _⟩ => by omega⟩
    | succ k ih =>
      intro i hi
      have h := hs i (by omega)
      obtain ⟨ih1, ih2⟩ := ih (i + 1) (by omega)
      cases hp : p i with
      | true =>
        rw [hp] at h
        rw [loopV_next h]
        refine ⟨fun ha => ih1 fun j h1 h2 => ha j (by omega) h2, fun ⟨j, h1, h2, h3⟩ => ih2 ⟨j, ?_, h2, h3⟩⟩
        rcases Nat.lt_or_ge i j with h4 | h4
        · exact h4
        · have : j = i := by omega
          subst this; rw [hp] at h3; cases h3
      | false =>
        rw [hp] at h
        rw [loopV_done h]
        exact ⟨fun ha => absurd (ha i (Nat.le_refl i) (by omega)) (by rw [hp]; simp), fun _ => rfl⟩
  obtain ⟨k1, k2⟩ := key n 0 (by omega)
  cases b with
  | true => exact k1 fun j _ h => hb.1 rfl j h
  | false =>
    refine k2 ?_
    apply Classical.byContradiction
    intro hn
    have : false = true := hb.2 fun i hi => by
      cases hp : p i with
      | true => rfl
      | false => exact (hn ⟨i, Nat.zero_le i, hi, hp⟩).elim
    cases this
theorem i64_up {i n : Nat} (h : i < n) (hn : n ≤ big) : IntKind.i64.wrap ((i : Int) + 1) = ((i + 1 : Nat) : Int) := by
  have : n ≤ 9223372036854775807 := hn
  rw [IntWalk.i64_in _ (by omega)]; simp
theorem inb_nat {i n : Nat} (h : i < n) : inb (i : Int) n = true := inb_t (by omega)
theorem rd_nat {t : Ty} {xs : List t.den} {i : Nat} : rd t xs (i : Int) = xs.getD i t.dflt := rfl
theorem rd_in {t : Ty} {xs : List t.den} {i : Nat} (h : i < xs.length) : rd t xs (i : Int) = xs[i] := by
  rw [rd_nat, List.getD_eq_getElem?_getD, List.getElem?_eq_getElem h]; rfl
end Go.PE
end

section
namespace Go.PE
set_option linter.unusedSimpArgs false
set_option maxRecDepth 100000
/-- How many bits a number has. -/
def bl (n : Nat) : Nat := if n = 0 then 0 else n.log2 + 1
theorem bl_le {n k : Nat} : bl n ≤ k ↔ n < 2 ^ k := by
  unfold bl
  by_cases h : n = 0
  · simp [h, Nat.two_pow_pos]
  · rw [if_neg h, Nat.succ_le_iff, Nat.log2_lt h]
theorem bl_mono {m n : Nat} (h : m ≤ n) : bl m ≤ bl n := bl_le.2 (Nat.lt_of_le_of_lt h (bl_le.1 (Nat.le_refl _)))
theorem bl_half {n : Nat} (h : 0 < n) : bl n = bl (n / 2) + 1 := by
  apply Nat.le_antisymm
  · rw [bl_le, Nat.pow_succ]
    have := bl_le.1 (Nat.le_refl (bl (n / 2)))
    omega
  · have h1 : bl n ≠ 0 := by unfold bl; rw [if_neg (by omega)]; omega
    obtain ⟨k, hk⟩ : ∃ k, bl n = k + 1 := ⟨bl n - 1, by omega⟩
    rw [hk, Nat.add_le_add_iff_right, bl_le]
    have := bl_le.1 (Nat.le_of_eq hk)
    rw [Nat.pow_succ] at this
    omega
theorem bl_shift {n : Nat} (k : Nat) (h : 2 ^ k ≤ n) : bl n = bl (n / 2 ^ k) + k := by
  induction k generalizing n with
  | zero => simp
  | succ k ih =>
    rw [Nat.pow_succ] at h
    have hp := Nat.two_pow_pos k
    have e : n / 2 ^ k / 2 = n / 2 ^ (k + 1) := by rw [Nat.div_div_eq_div_mul]; rfl
    rw [ih (by omega), bl_half (n := n / 2 ^ k) (Nat.div_pos (by omega) hp), e]; omega
theorem len8_tab : ∀ i, i < 256 → S_0d66ef[i]? = some (bl i : Int) := by decide +kernel
theorem math_bits_Len64_eq {n : Nat} (h : n < 2 ^ 64) : math_bits_Len64 (n : Int) = some (((bl n : Int), ()), ()) := by
  unfold math_bits_Len64
  have e1 : ∃ m : Nat, ∃ a : Nat, math_bits_Len64_J1 (((n : Int), ((0 : Int), ())), ()) = some (((m : Int), ((a : Int), ())), ()) ∧ m < 2 ^ 32 ∧ a ≤ 32 ∧ bl n = bl m + a := by
    unfold math_bits_Len64_J1
    by_cases hc : (4294967296 : Int) ≤ n
    · refine ⟨n / 2 ^ 32, 32, ?_, by omega, by omega, bl_shift 32 (by omega)⟩
      simp only [hc, decide_true, cond_true]
      rw [shr_un (by omega) (by simp [IntKind.bits]; omega)]
      simp [Nat.shiftRight_eq_div_pow]
    · exact ⟨n, 0, by simp [hc], by omega, by omega, rfl⟩
  obtain ⟨m1, a1, r1, b1, c1, d1⟩ := e1
  rw [r1]
  simp only [Option.bind_some]
  have e2 : ∃ m : Nat, ∃ a : Nat, math_bits_Len64_J2 (((m1 : Int), ((a1 : Int), ())), ()) = some (((m : Int), ((a : Int), ())), ()) ∧ m < 2 ^ 16 ∧ a ≤ 48 ∧ bl n = bl m + a := by
    unfold math_bits_Len64_J2
    by_cases hc : (65536 : Int) ≤ m1
    · refine ⟨m1 / 2 ^ 16, a1 + 16, ?_, by omega, by omega, by rw [d1, bl_shift 16 (n := m1) (by omega)]; omega⟩
      simp only [hc, decide_true, cond_true]
      rw [shr_un (by omega) (by simp [IntKind.bits]; omega), IntWalk.i64_in _ (by omega)]
      simp [Nat.shiftRight_eq_div_pow]
    · exact ⟨m1, a1, by simp [hc], by omega, by omega, d1⟩
  obtain ⟨m2, a2, r2, b2, c2, d2⟩ := e2
  rw [r2]
  simp only [Option.bind_some]
  have e3 : ∃ m : Nat, ∃ a : Nat, math_bits_Len64_J3 (((m2 : Int), ((a2 : Int), ())), ()) = some (((m : Int), ((a : Int), ())), ()) ∧ m < 2 ^ 8 ∧ a ≤ 56 ∧ bl n = bl m + a := by
    unfold math_bits_Len64_J3
    by_cases hc : (256 : Int) ≤ m2
    · refine ⟨m2 / 2 ^ 8, a2 + 8, ?_, by omega, by omega, by rw [d2, bl_shift 8 (n := m2) (by omega)]; omega⟩
      simp only [hc, decide_true, cond_true]
      rw [shr_un (by omega) (by simp [IntKind.bits]; omega), IntWalk.i64_in _ (by omega)]
      simp [Nat.shiftRight_eq_div_pow]
    · exact ⟨m2, a2, by simp [hc], by omega, by omega, d2⟩
  obtain ⟨m3, a3, r3, b3, c3, d3⟩ := e3
  rw [r3]
  simp only [Option.bind_some]
  rw [wrap_un rfl (by omega) (by simp [IntKind.bits]; omega)]
  have hl : S_0d66ef.length = 256 := by decide +kernel
  have hb := bl_le.2 b3
  rw [hl, inb_nat b3, cond_true, rd_nat, List.getD_eq_getElem?_getD, len8_tab m3 b3, Option.getD_some, IntWalk.i64_in (bl m3) (by omega), IntWalk.i64_in _ (by omega), d3]
  simp [Int.add_comm]
end Go.PE
end

section
namespace Go.PE
set_option linter.unusedSimpArgs false
set_option linter.unusedVariables false
abbrev Cl := List D_6649
def cid (xs : Cl) (i : Nat) : Int := (rd T_6649 xs (i : Int)).1
def prv (xs : Cl) (i : Nat) : Int := if i = 0 then -1 else cid xs (i - 1)
def incr (xs : Cl) : Bool := (List.range xs.length).all fun i => decide (prv xs i < cid xs i)
theorem incr_iff {xs : Cl} : incr xs = true ↔ ∀ i, i < xs.length → prv xs i < cid xs i := by simp [incr]
def sndC (xs : Cl) : Bool := incr xs && decide (xs.length ≤ 64)
section
variable {xs : Cl} (hl : xs.length ≤ big)
include hl
theorem dispute_sound_eq : dispute_sound xs = some ((sndC xs, ()), ()) := by
  unfold dispute_sound
  rw [loopV_all (step := dispute_sound_L1 xs (xs.length : Int)) (fun i => ((prv xs i, ((i : Int), ())), ())) xs.length (fun i => decide (prv xs i < cid xs i)) (bad := .inl ((false, ()), ())) (good := .inr ((), ())) (b := incr xs) ?_ (by simp [incr]) ?_ ?_]
  · cases hb : incr xs
    · simp [sndC, hb]
    · have : ((xs.length : Int) ≤ 64) = (xs.length ≤ 64) := by apply propext; omega
      simp [sndC, hb, this]
  · rfl
  · intro i hi
    unfold dispute_sound_L1
    have h1 : ((i : Int) < (xs.length : Int)) := by omega
    simp only [h1, decide_true, cond_true, inb_nat hi, i64_up hi hl]
    simp only [show (rd T_6649 xs (i : Int)).1 = cid xs i from rfl]
    by_cases hp : prv xs i < cid xs i
    · have hp' : ¬ cid xs i ≤ prv xs i := by omega
      have hp2 : prv xs (i + 1) = cid xs i := by simp [prv]
      simp only [hp, hp', hp2, decide_true, decide_false, cond_true, cond_false]
    · have hp' : cid xs i ≤ prv xs i := by omega
      simp only [hp, hp', decide_true, decide_false, cond_true, cond_false]
  · simp [dispute_sound_L1]
theorem ref22_claims_eq : ref22_claims xs = some ((sndC xs, ()), ()) := by
  unfold ref22_claims
  by_cases h64 : (64 : Int) < xs.length
  · have : ¬ xs.length ≤ 64 := by omega
    simp [h64, sndC, this]
  · simp only [h64, decide_false, cond_false]
    have hle : xs.length ≤ 64 := by omega
    rw [loopV_all (step := ref22_claims_L1 xs (xs.length : Int)) (fun i => (((i : Int), ()), ())) xs.length (fun i => !decide (cid xs i < 0) && (decide (i = 0) || decide (prv xs i < cid xs i))) (bad := .inl ((false, ()), ())) (good := .inr ((), ())) (b := incr xs) ?_ ?_ ?_ ?_]
    · cases hb : incr xs
      · simp [sndC, hb]
      · simp [sndC, hb, hle]
    · rfl
    · rw [incr_iff]
      constructor
      · intro h i hi
        have key : ∀ j, j < xs.length → 0 ≤ cid xs j := by
          intro j
          induction j with
          | zero => intro hj; have := h 0 hj; simp [prv] at this; omega
          | succ j ih => intro hj; have := h (j + 1) hj; have := ih (by omega); simp [prv] at *; omega
        have h1 := key i hi
        have h2 := h i hi
        simp [h2]; omega
      · intro h i hi
        have := h i hi
        simp only [Bool.and_eq_true, Bool.or_eq_true, Bool.not_eq_true', decide_eq_true_eq, decide_eq_false_iff_not] at this
        obtain ⟨h1, h2 | h2⟩ := this
        · subst h2; simp [prv]; omega
        · exact h2
    · intro i hi
      unfold ref22_claims_L1
      have h1 : ((i : Int) < (xs.length : Int)) := by omega
      simp only [h1, decide_true, cond_true, inb_nat hi, i64_up hi hl]
      simp only [show (rd T_6649 xs (i : Int)).1 = cid xs i from rfl]
      by_cases hp : cid xs i < 0
      · simp [hp]
      · simp only [hp, decide_false, cond_false, Bool.not_false, Bool.true_and]
        by_cases hi0 : i = 0
        · simp [hi0]
        · have h2 : (0 : Int) < (i : Int) := by omega
          have h3 : IntKind.i64.wrap ((i : Int) - 1) = ((i - 1 : Nat) : Int) := by
            have : xs.length ≤ 9223372036854775807 := hl
            rw [IntWalk.i64_in _ (by omega)]; omega
          have h5 : prv xs i = cid xs (i - 1) := by simp [prv, hi0]
          simp only [h2, decide_true, cond_true, h3, inb_nat (show i - 1 < xs.length by omega), hi0, decide_false, Bool.false_or, h5, show (rd T_6649 xs ((i - 1 : Nat) : Int)).1 = cid xs (i - 1) from rfl]
          by_cases h4 : cid xs i ≤ cid xs (i - 1)
          · have : ¬ cid xs (i - 1) < cid xs i := by omega
            simp [h4, this]
          · have : cid xs (i - 1) < cid xs i := by omega
            simp [h4, this]
    · simp [ref22_claims_L1]
end
def wholeB (a : D_2c9a) : Bool := decide (0 ≤ a.1) && (decide (a.1 < a.2.1) && (decide (a.2.1 ≤ 16777216) && (decide (0 < (a.2.2.2.1.length : Int)) && sndC a.2.2.2.1)))
section
variable {a : D_2c9a} (hl : a.2.2.2.1.length ≤ big)
include hl
theorem dispute_whole_eq : dispute_whole a = some ((wholeB a, ()), ()) := by
  unfold dispute_whole
  rw [dispute_sound_eq hl]
  simp only [Option.bind_some, wholeB]
  cases decide (0 ≤ a.1) <;> cases decide (a.1 < a.2.1) <;> cases decide (a.2.1 ≤ 16777216) <;> cases decide (0 < (a.2.2.2.1.length : Int)) <;> rfl
theorem ref22_Sound_eq : ref22_Sound a = some ((wholeB a, ()), ()) := by
  unfold ref22_Sound ref22_span
  rw [ref22_claims_eq hl]
  simp only [Option.bind_some, wholeB]
  cases decide (0 ≤ a.1) <;> cases decide (a.1 < a.2.1) <;> cases decide (a.2.1 ≤ 16777216) <;> cases decide (0 < (a.2.2.2.1.length : Int)) <;> rfl
end
theorem wholeB_iff {a : D_2c9a} : wholeB a = true ↔ 0 ≤ a.1 ∧ a.1 < a.2.1 ∧ a.2.1 ≤ 16777216 ∧ 0 < a.2.2.2.1.length ∧ sndC a.2.2.2.1 = true := by
  simp [wholeB]
/-- Ask's answer. -/
def askV (a : D_2c9a) : Int × Bool := if wholeB a = true then (if 1 < a.2.1 - a.1 then (a.1 + (a.2.1 - a.1) / 2, false) else (a.2.1, true)) else (0, false)
theorem dispute_Ask_eq {a : D_2c9a} (hl : a.2.2.2.1.length ≤ big) : dispute_Ask a = some (((askV a).1, ((askV a).2, ())), ()) := by
  unfold dispute_Ask askV
  rw [dispute_whole_eq hl]
  simp only [Option.bind_some]
  cases hw : wholeB a with
  | false => simp
  | true =>
    obtain ⟨h1, h2, h3, _⟩ := wholeB_iff.1 hw
    simp only [Bool.not_true, cond_false, if_true]
    rw [IntWalk.i64_in (a.2.1 - a.1) (by omega), tdiv_nn (by omega), IntWalk.i64_in ((a.2.1 - a.1) / 2) (by omega), IntWalk.i64_in (a.1 + (a.2.1 - a.1) / 2) (by omega)]
    by_cases hc : 1 < a.2.1 - a.1
    · simp [hc]
    · simp [hc]
theorem ref16_SameInts_self {xs : List Int} (hl : xs.length ≤ big) : ref16_SameInts xs xs = some ((true, ()), ()) := by
  unfold ref16_SameInts
  simp only [decide_true, Bool.not_true, cond_false]
  rw [loopV_all (step := ref16_SameInts_L1 xs xs (xs.length : Int)) (fun i => (((i : Int), ()), ())) xs.length (fun i => true) (bad := .inl ((false, ()), ())) (good := .inr ((), ())) (b := true) ?_ (by simp) ?_ ?_]
  · simp
  · rfl
  · intro i hi
    unfold ref16_SameInts_L1
    have h1 : ((i : Int) < (xs.length : Int)) := by omega
    simp [h1, inb_nat hi, i64_up hi hl]
  · simp [ref16_SameInts_L1]
theorem ref22_Same_self {a : D_2c9a} (hl : a.2.2.2.1.length ≤ big) : ref22_Same a a = some ((true, ()), ()) := by
  unfold ref22_Same
  rw [eqb_self (T := .arr 32 (.int .u8)) rfl]
  simp only [decide_true, Bool.not_true, cond_false]
  rw [loopV_all (step := ref22_Same_L1 (a.2.2.2.1.length : Int)) (fun i => (((), ((), ((i : Int), ()))), (a, (a, ())))) a.2.2.2.1.length (fun i => true) (bad := .inl ((false, ()), ())) (good := .inr ((), ())) (b := true) ?_ (by simp) ?_ ?_]
  · simp
  · rfl
  · intro i hi
    unfold ref22_Same_L1
    have h1 : ((i : Int) < (a.2.2.2.1.length : Int)) := by omega
    simp only [h1, decide_true, cond_true, inb_nat hi, i64_up hi hl, eqb_self (T := T_6649) rfl]
    simp
  · simp [ref22_Same_L1]
end Go.PE
end

section
namespace Go.PE
set_option linter.unusedSimpArgs false
set_option linter.unusedVariables false
abbrev Nd0 : Int × Int × (List Int) × Unit × Unit := ((0 : Int), ((0 : Int), ((List.replicate 32 (0 : Int)), ((), ()))))
abbrev NdOf (a : D_2c9a) : Int × Int × (List Int) × Unit × Unit := (a.1, (a.2.1, (a.2.2.1, ((), ()))))
abbrev Ans := ((Int × Int × (List Int) × Unit × Unit) × Unit × Int × Unit) × (List D_6649) × (List Int) × Unit
def errA (e : Int) : Ans := ((Nd0, ((), (e, ()))), (([] : List D_6649), (([] : List Int), ())))
def isH (h : List Int) (x : D_6649) : Bool := Ty.eqb (.arr 32 (.int .u8)) x.2.1 h
def keptC (h : List Int) (xs : Cl) : Cl := xs.filter (isH h)
def dropC (h : List Int) (xs : Cl) : List Int := (xs.filter fun x => !isH h x).map (·.1)
theorem take_up {α : Type} {xs : List α} {i : Nat} (h : i < xs.length) : xs.take (i + 1) = xs.take i ++ [xs[i]] := by simp
theorem keptC_up {h : List Int} {xs : Cl} {i : Nat} (hi : i < xs.length) : keptC h (xs.take (i + 1)) = keptC h (xs.take i) ++ (if isH h xs[i] = true then [xs[i]] else []) := by
  unfold keptC; rw [take_up hi, List.filter_append]; cases hh : isH h xs[i] <;> simp [hh]
theorem dropC_up {h : List Int} {xs : Cl} {i : Nat} (hi : i < xs.length) : dropC h (xs.take (i + 1)) = dropC h (xs.take i) ++ (if isH h xs[i] = true then [] else [xs[i].1]) := by
  unfold dropC; rw [take_up hi, List.filter_append, List.map_append]; cases hh : isH h xs[i] <;> simp [hh]
theorem keptC_len {h : List Int} {xs : Cl} {i : Nat} : (keptC h (xs.take i)).length ≤ xs.length := by
  unfold keptC; exact Nat.le_trans (List.length_filter_le _ _) (by rw [List.length_take]; omega)
theorem dropC_len {h : List Int} {xs : Cl} {i : Nat} : (dropC h (xs.take i)).length ≤ xs.length := by
  unfold dropC; rw [List.length_map]; exact Nat.le_trans (List.length_filter_le _ _) (by rw [List.length_take]; omega)
def settleV (a : D_2c9a) (h : List Int) : Ans :=
  if wholeB a = true then (if 1 < a.2.1 - a.1 then errA 171 else if (keptC h a.2.2.2.1).length = 0 then errA 221 else ((NdOf a, ((), ((0 : Int), ()))), (keptC h a.2.2.2.1, (dropC h a.2.2.2.1, ())))) else errA 6
section
variable {a : D_2c9a} {h : List Int} (hl : a.2.2.2.1.length ≤ 70)
include hl
theorem len_big : a.2.2.2.1.length ≤ big := Nat.le_trans hl (by decide)
theorem dispute_Settle_eq : dispute_Settle a h = some (settleV a h) := by
  unfold dispute_Settle settleV
  rw [dispute_whole_eq (len_big hl)]
  simp only [Option.bind_some]
  cases hw : wholeB a with
  | false => rfl
  | true =>
    obtain ⟨h1, h2, h3, _⟩ := wholeB_iff.1 hw
    simp only [Bool.not_true, cond_false, if_true]
    rw [IntWalk.i64_in (a.2.1 - a.1) (by omega)]
    by_cases hc : 1 < a.2.1 - a.1
    · simp [hc, errA]
    · simp only [hc, decide_false, cond_false, if_false]
      rw [loopV_ind (step := dispute_Settle_L1 a.2.2.2.1 (a.2.2.2.1.length : Int)) (o := (((), ((), ((), ((), ())))), (a, (Nd0, (keptC h a.2.2.2.1, (dropC h a.2.2.2.1, ()))))))
        (fun i => (((), ((), ((), ((), ((), ((i : Int), ())))))), (a, (h, (Nd0, (keptC h (a.2.2.2.1.take i), (dropC h (a.2.2.2.1.take i), ()))))))) a.2.2.2.1.length ?_ ?_ ?_]
      · simp only [Option.bind_some]
        by_cases h0 : (keptC h a.2.2.2.1).length = 0
        · simp [h0, errA]
        · have : ¬ ((keptC h a.2.2.2.1).length : Int) = 0 := by omega
          simp [h0, this]
      · rfl
      · intro i hi
        unfold dispute_Settle_L1
        have h1 : ((i : Int) < (a.2.2.2.1.length : Int)) := by omega
        have e1 := @keptC_len h a.2.2.2.1 i
        have e2 := @dropC_len h a.2.2.2.1 i
        simp only [h1, decide_true, cond_true, inb_nat hi, i64_up hi (len_big hl), rd_in (t := T_6649) (xs := a.2.2.2.1) hi, keptC_up hi, dropC_up hi]
        cases hh : isH h a.2.2.2.1[i] with
        | true =>
          rw [show Ty.eqb (.arr 32 (.int .u8)) a.2.2.2.1[i].2.1 h = true from hh]
          have h3 : (keptC h (a.2.2.2.1.take i)).length + 1 ≤ lim := by unfold lim; omega
          simp [h3]
        | false =>
          rw [show Ty.eqb (.arr 32 (.int .u8)) a.2.2.2.1[i].2.1 h = false from hh]
          have h3 : (dropC h (a.2.2.2.1.take i)).length + 1 ≤ lim := by unfold lim; omega
          simp [h3]
      · simp [dispute_Settle_L1]
theorem ref22_Settle_eq : ref22_Settle a h = some (settleV a h) := by
  unfold ref22_Settle settleV
  rw [ref22_Sound_eq (len_big hl)]
  simp only [Option.bind_some]
  cases hw : wholeB a with
  | false => rfl
  | true =>
    obtain ⟨h1, h2, h3, _⟩ := wholeB_iff.1 hw
    simp only [Bool.not_true, cond_false, if_true]
    rw [IntWalk.i64_in (a.2.1 - a.1) (by omega)]
    by_cases hc : 1 < a.2.1 - a.1
    · simp [hc, errA]
    · simp only [hc, decide_false, cond_false, if_false]
      rw [loopV_ind (step := ref22_Settle_L1 a.2.2.2.1 (a.2.2.2.1.length : Int)) (o := (((), ((), ((), ()))), (Nd0, (NdOf a, (dropC h a.2.2.2.1, (keptC h a.2.2.2.1, ()))))))
        (fun i => (((), ((), ((), ((), ((i : Int), ()))))), (h, (Nd0, (NdOf a, (dropC h (a.2.2.2.1.take i), (keptC h (a.2.2.2.1.take i), ()))))))) a.2.2.2.1.length ?_ ?_ ?_]
      · simp only [Option.bind_some]
        by_cases h0 : (keptC h a.2.2.2.1).length = 0
        · simp [h0, errA]
        · have : ¬ ((keptC h a.2.2.2.1).length : Int) = 0 := by omega
          simp [h0, this]
      · rfl
      · intro i hi
        unfold ref22_Settle_L1
        have h1 : ((i : Int) < (a.2.2.2.1.length : Int)) := by omega
        have e1 := @keptC_len h a.2.2.2.1 i
        have e2 := @dropC_len h a.2.2.2.1 i
        simp only [h1, decide_true, cond_true, inb_nat hi, i64_up hi (len_big hl), rd_in (t := T_6649) (xs := a.2.2.2.1) hi, keptC_up hi, dropC_up hi]
        cases hh : isH h a.2.2.2.1[i] with
        | true =>
          rw [show Ty.eqb (.arr 32 (.int .u8)) a.2.2.2.1[i].2.1 h = true from hh]
          have h3 : (keptC h (a.2.2.2.1.take i)).length + 1 ≤ lim := by unfold lim; omega
          simp [h3]
        | false =>
          rw [show Ty.eqb (.arr 32 (.int .u8)) a.2.2.2.1[i].2.1 h = false from hh]
          have h3 : (dropC h (a.2.2.2.1.take i)).length + 1 ≤ lim := by unfold lim; omega
          simp [h3]
      · simp [ref22_Settle_L1]
end
/-! ### merge -/
def mergeV : Cl → Cl → Cl × Cl × List Int
  | [], _ => ([], [], [])
  | c :: cs, r =>
    match r.dropWhile fun x => decide (x.1 < c.1) with
    | [] => let m := mergeV cs []; (m.1, m.2.1, c.1 :: m.2.2)
    | x :: r' => let m := mergeV cs (x :: r'); if x.1 = c.1 then (c :: m.1, x :: m.2.1, m.2.2) else (m.1, m.2.1, c.1 :: m.2.2)
theorem merge_L2_eq {c : D_6649} {A B : Cl} {D : List Int} : ∀ r : Cl, loopV dispute_merge_L2 ((r, ((), ((), ((), ((), ()))))), (A, (B, (D, (c, ()))))) = some ((r.dropWhile fun x => decide (x.1 < c.1), ((), ((), ((), ((), ()))))), (A, (B, (D, (c, ()))))) := by
  intro r
  induction r with
  | nil => exact loopV_done (by simp [dispute_merge_L2])
  | cons x r ih =>
    have hx : rd T_6649 (x :: r) 0 = x := rfl
    have h0 : (0 : Int) < (List.length (x :: r) : Int) := by simp only [List.length_cons]; omega
    have h1 : (1 : Int) ≤ (List.length (x :: r) : Int) := by simp only [List.length_cons]; omega
    have hin : inb 0 (x :: r).length = true := inb_t (by simp only [List.length_cons]; omega)
    by_cases hc : x.1 < c.1
    · have hs : sub (x :: r) 1 ((x :: r).length - 1) = r := by simp [sub]
      rw [loopV_next (v' := ((r, ((), ((), ((), ((), ()))))), (A, (B, (D, (c, ())))))), ih]
      · simp [List.dropWhile_cons, hc]
      · unfold dispute_merge_L2
        simp only [h0, h1, hin, hx, hc, hs, decide_true, cond_true, Bool.and_self, show ((0:Int) ≤ 1) from by omega]
    · rw [loopV_done (o := ((x :: r, ((), ((), ((), ((), ()))))), (A, (B, (D, (c, ()))))))]
      · simp [List.dropWhile_cons, hc]
      · unfold dispute_merge_L2
        simp only [h0, h1, hin, hx, hc, decide_true, decide_false, cond_true, cond_false]
theorem merge_L1_eq {xs : Cl} (hl : xs.length ≤ 70) : ∀ k i (r A B : Cl) (D : List Int), i + k = xs.length → A.length ≤ i → B.length ≤ i → D.length ≤ i →
    loopV (dispute_merge_L1 xs (xs.length : Int)) ((r, ((), ((), ((), ((i : Int), ()))))), (A, (B, (D, ())))) =
      some (((), ((), ((), ()))), (A ++ (mergeV (xs.drop i) r).1, (B ++ (mergeV (xs.drop i) r).2.1, (D ++ (mergeV (xs.drop i) r).2.2, ())))) := by
  intro k
  induction k with
  | zero =>
    intro i r A B D hk hA hB hD
    have : xs.drop i = [] := List.drop_eq_nil_of_le (by omega)
    rw [this]
    refine loopV_done ?_
    have h1 : ¬ ((i : Int) < (xs.length : Int)) := by omega
    simp [dispute_merge_L1, mergeV, h1]
  | succ k ih =>
    intro i r A B D hk hA hB hD
    have hi : i < xs.length := by omega
    have h1 : ((i : Int) < (xs.length : Int)) := by omega
    rw [List.drop_eq_getElem_cons hi]
    have hAl : A.length + 1 ≤ lim := by unfold lim; omega
    have hBl : B.length + 1 ≤ lim := by unfold lim; omega
    have hDl : D.length + 1 ≤ lim := by unfold lim; omega
    have step : dispute_merge_L1 xs (xs.length : Int) ((r, ((), ((), ((), ((i : Int), ()))))), (A, (B, (D, ())))) =
        some (.inl (match r.dropWhile (fun x => decide (x.1 < xs[i].1)) with
          | [] => ((([] : Cl), ((), ((), ((), (((i + 1 : Nat) : Int), ()))))), (A, (B, (D ++ [xs[i].1], ()))))
          | x :: r' => if x.1 = xs[i].1 then ((x :: r', ((), ((), ((), (((i + 1 : Nat) : Int), ()))))), (A ++ [xs[i]], (B ++ [x], (D, ())))) else ((x :: r', ((), ((), ((), (((i + 1 : Nat) : Int), ()))))), (A, (B, (D ++ [xs[i].1], ())))))) := by
      unfold dispute_merge_L1
      simp only [h1, decide_true, cond_true, inb_nat hi, i64_up hi (Nat.le_trans hl (by decide)), rd_in (t := T_6649) (xs := xs) hi, merge_L2_eq, Option.bind_some]
      cases hdw : r.dropWhile (fun x => decide (x.1 < xs[i].1)) with
      | nil => simp [dispute_merge_J3, hDl]
      | cons x r' =>
        have hx : rd T_6649 (x :: r') 0 = x := rfl
        have h0 : (0 : Int) < (List.length (x :: r') : Int) := by simp only [List.length_cons]; omega
        have hin : inb 0 (x :: r').length = true := inb_t (by simp only [List.length_cons]; omega)
        unfold dispute_merge_J3
        simp only [h0, hin, hx, decide_true, cond_true, Option.bind_some]
        by_cases hc : x.1 = xs[i].1
        · simp [hc, hAl, hBl]
        · simp [hc, hDl]
    rw [loopV_next step]
    unfold mergeV
    cases hdw : r.dropWhile (fun x => decide (x.1 < xs[i].1)) with
    | nil =>
      simp only []
      rw [ih (i + 1) _ _ _ _ (by omega) (by omega) (by omega) (by simp; omega)]
      simp
    | cons x r' =>
      simp only []
      by_cases hc : x.1 = xs[i].1
      · simp only [hc, if_true]
        rw [ih (i + 1) _ _ _ _ (by omega) (by simp; omega) (by simp; omega) (by omega)]
        simp
      · simp only [hc, if_false]
        rw [ih (i + 1) _ _ _ _ (by omega) (by omega) (by omega) (by simp; omega)]
        simp
theorem dispute_merge_eq {xs r : Cl} (hl : xs.length ≤ 70) : dispute_merge xs r = some (((), ((), ((), ()))), ((mergeV xs r).1, ((mergeV xs r).2.1, ((mergeV xs r).2.2, ())))) := by
  unfold dispute_merge
  rw [show ((0 : Int)) = ((0 : Nat) : Int) from rfl, merge_L1_eq hl xs.length 0 r [] [] [] (by omega) (by simp) (by simp) (by simp)]
  simp
theorem mergeV_sub : ∀ {xs r : Cl}, (mergeV xs r).1.Sublist xs ∧ (mergeV xs r).2.1.map (·.1) = (mergeV xs r).1.map (·.1) ∧ (mergeV xs r).1.length + (mergeV xs r).2.2.length = xs.length := by
  intro xs
  induction xs with
  | nil => intro r; simp [mergeV]
  | cons c cs ih =>
    intro r
    unfold mergeV
    cases r.dropWhile (fun x => decide (x.1 < c.1)) with
    | nil => simp only []; obtain ⟨h1, h2, h3⟩ := @ih []; exact ⟨h1.cons _, h2, by simp only [List.length_cons]; omega⟩
    | cons x r' =>
      simp only []
      obtain ⟨h1, h2, h3⟩ := @ih (x :: r')
      by_cases hc : x.1 = c.1
      · simp only [hc, if_true]; exact ⟨h1.cons_cons _, by simp [h2, hc], by simp only [List.length_cons]; omega⟩
      · simp only [hc, if_false]; exact ⟨h1.cons _, h2, by simp only [List.length_cons]; omega⟩
end Go.PE
end

section
namespace Go.PE
set_option linter.unusedSimpArgs false
set_option linter.unusedVariables false
def sglB (xs : Cl) : Bool := (List.range xs.length).all fun i => Ty.eqb (.arr 32 (.int .u8)) (rd T_6649 xs (i : Int)).2.1 (rd T_6649 xs 0).2.1
theorem dispute_single_eq {xs : Cl} (hl : xs.length ≤ big) : dispute_single xs = some ((sglB xs, ()), ()) := by
  unfold dispute_single
  rw [loopV_all (step := dispute_single_L1 xs xs (xs.length : Int)) (fun i => (((i : Int), ()), ())) xs.length (fun i => Ty.eqb (.arr 32 (.int .u8)) (rd T_6649 xs (i : Int)).2.1 (rd T_6649 xs 0).2.1) (bad := .inl ((false, ()), ())) (good := .inr ((), ())) (b := sglB xs) ?_ (by simp [sglB]) ?_ ?_]
  · cases sglB xs <;> simp
  · rfl
  · intro i hi
    unfold dispute_single_L1
    have h1 : ((i : Int) < (xs.length : Int)) := by omega
    have h0 : inb 0 xs.length = true := inb_t (by omega)
    simp only [h1, decide_true, cond_true, inb_nat hi, i64_up hi hl, h0]
    cases Ty.eqb (.arr 32 (.int .u8)) (rd T_6649 xs (i : Int)).2.1 (rd T_6649 xs 0).2.1 <;> rfl
  · simp [dispute_single_L1]
theorem dispute_Open_eq {a : D_2c9a} (hl : a.2.2.2.1.length ≤ big) : dispute_Open a = some ((wholeB a && !sglB a.2.2.2.1, ()), ()) := by
  unfold dispute_Open
  rw [dispute_whole_eq hl, dispute_single_eq hl]
  cases wholeB a <;> simp
theorem dispute_Rounds_eq {l h : Int} (h0 : 0 ≤ l) (h1 : l < h) (h2 : h ≤ 16777216) : dispute_Rounds l h = some (((bl (h - l - 1).toNat : Int), ()), ()) := by
  unfold dispute_Rounds
  have hn : ¬ h ≤ l := by omega
  simp only [hn, decide_false, cond_false]
  rw [wrap_un (n := h) rfl (by omega) (by simp [IntKind.bits]; omega), wrap_un (n := l) rfl (by omega) (by simp [IntKind.bits]; omega), wrap_un (n := h - l) rfl (by omega) (by simp [IntKind.bits]; omega), wrap_un (n := h - l - 1) rfl (by omega) (by simp [IntKind.bits]; omega)]
  obtain ⟨n, hn⟩ := Int.eq_ofNat_of_zero_le (show 0 ≤ h - l - 1 by omega)
  rw [hn, math_bits_Len64_eq (by omega)]
  simp
/-- Answer's answer. -/
def ansV (a : D_2c9a) (xs : Cl) : Ans :=
  if wholeB a = true then (if sndC xs = true then (if (askV a).2 = true then errA 171 else
    (if (mergeV a.2.2.2.1 xs).2.1.length = 0 then errA 221 else
      (if sglB (mergeV a.2.2.2.1 xs).2.1 = true then ((((askV a).1, (a.2.1, (((mergeV a.2.2.2.1 xs).2.1.getD 0 (0, [], ())).2.1, ((), ())))), ((), ((0 : Int), ()))), ((mergeV a.2.2.2.1 xs).1, ((mergeV a.2.2.2.1 xs).2.2, ())))
        else (((a.1, ((askV a).1, (a.2.2.1, ((), ())))), ((), ((0 : Int), ()))), ((mergeV a.2.2.2.1 xs).2.1, ((mergeV a.2.2.2.1 xs).2.2, ()))))))
    else errA 6) else errA 6
theorem dispute_Answer_eq {a : D_2c9a} {xs : Cl} (hl : a.2.2.2.1.length ≤ 70) (hx : xs.length ≤ 70) : dispute_Answer a xs = some (ansV a xs) := by
  have hb : a.2.2.2.1.length ≤ big := Nat.le_trans hl (by decide)
  have hxb : xs.length ≤ big := Nat.le_trans hx (by decide)
  unfold dispute_Answer ansV
  rw [dispute_Ask_eq hb, dispute_whole_eq hb, dispute_sound_eq hxb]
  simp only [Option.bind_some]
  cases hw : wholeB a with
  | false => rfl
  | true =>
    simp only [Bool.not_true, cond_false, if_true]
    cases hs : sndC xs with
    | false => rfl
    | true =>
      simp only [Bool.not_true, cond_false, if_true]
      cases hd : (askV a).2 with
      | true => rfl
      | false =>
        simp only [cond_false, Bool.false_eq_true, if_false]
        rw [dispute_merge_eq hl]
        simp only [Option.bind_some]
        obtain ⟨m1, m2, m3⟩ := @mergeV_sub a.2.2.2.1 xs
        have hlen : (mergeV a.2.2.2.1 xs).2.1.length = (mergeV a.2.2.2.1 xs).1.length := by simpa using congrArg List.length m2
        have hl1 := m1.length_le
        by_cases h0 : (mergeV a.2.2.2.1 xs).2.1.length = 0
        · simp [h0, errA]
        · have h0' : ¬ ((mergeV a.2.2.2.1 xs).2.1.length : Int) = 0 := by omega
          have hin : inb 0 (mergeV a.2.2.2.1 xs).2.1.length = true := inb_t (by omega)
          simp only [h0, h0', decide_false, cond_false, if_false]
          unfold dispute_Answer_J1
          simp only []
          rw [dispute_single_eq (Nat.le_trans (by omega : _ ≤ 70) (by decide))]
          simp only [Option.bind_some]
          cases hg : sglB (mergeV a.2.2.2.1 xs).2.1 with
          | false => simp
          | true =>
            simp only [hin, cond_true, List.getD_eq_getElem?_getD]
            rw [List.getElem?_eq_getElem (by omega)]
            simp
theorem dispute_Begin_eq : dispute_Begin (0 : Int) (List.replicate 32 (0 : Int)) (8 : Int) ([((1 : Int), (((List.replicate 32 (0 : Int)).set (0) (1 : Int)), ())), ((4 : Int), (((List.replicate 32 (0 : Int)).set (0) (2 : Int)), ()))] : List D_6649) =
    some (((0, (8, (List.replicate 32 (0 : Int), ((), ())))), ((0 : Int), ())), (([((1 : Int), (((List.replicate 32 (0 : Int)).set (0) (1 : Int)), ())), ((4 : Int), (((List.replicate 32 (0 : Int)).set (0) (2 : Int)), ()))] : List D_6649), ())) := by
  unfold dispute_Begin
  rw [dispute_sound_eq (by decide)]
  rfl
theorem law22_sane_eq : law22_sane = some ((true, ()), ()) := by
  unfold law22_sane
  have e1 : (List.replicate 32 (0 : Int))[(0)]? = some 0 := rfl
  simp only [e1, Option.bind_some, dispute_Begin_eq]
  rw [dispute_Ask_eq (by decide)]
  simp only [Option.bind_some]
  rw [show inb (0 : Int) (List.length ([((1 : Int), (((List.replicate 32 (0 : Int)).set (0) (1 : Int)), ())), ((4 : Int), (((List.replicate 32 (0 : Int)).set (0) (2 : Int)), ()))] : List D_6649)) = true from rfl, show inb (1 : Int) (List.length ([((1 : Int), (((List.replicate 32 (0 : Int)).set (0) (1 : Int)), ())), ((4 : Int), (((List.replicate 32 (0 : Int)).set (0) (2 : Int)), ()))] : List D_6649)) = true from rfl]
  simp only [cond_true, List.getElem?_cons_zero, List.getElem?_cons_succ, Option.bind_some]
  rw [dispute_Answer_eq (by decide) (by decide)]
  simp only [Option.bind_some]
  rw [dispute_Ask_eq (by decide +kernel), dispute_Open_eq (by decide)]
  rw [dispute_Rounds_eq (by omega) (by omega) (by omega)]
  decide +kernel
theorem disputeSettles_eq {a : D_2c9a} {h : List Int} {n : Int} (hl : a.2.2.2.1.length ≤ big) (hn : Ty.Wf (.int .u8) n) : law22_DisputeSettles a h n = some ((true, ()), ()) := by
  have hn := Wf.u8 hn
  unfold law22_DisputeSettles
  rw [law22_sane_eq]
  simp only [Option.bind_some, Bool.not_true, cond_false, law22_kept]
  by_cases hk : (a.2.2.2.1.length : Int) ≤ 70
  · simp only [hk, decide_true, Bool.not_true, cond_false]
    have hl70 : a.2.2.2.1.length ≤ 70 := by omega
    have hj : ∃ h', law22_DisputeSettles_J1 n (((), ((), ())), (a, (h, ()))) = some (((), ((), ())), (a, (h', ()))) := by
      unfold law22_DisputeSettles_J1
      by_cases h0 : (0 : Int) < (a.2.2.2.1.length : Int)
      · by_cases h3 : 0 < n.tmod 3
        · have hp : 0 ≤ n := by
            rcases Int.lt_or_le n 0 with hneg | hp
            · have := Int.tmod_nonneg 3 (show 0 ≤ -n by omega)
              rw [Int.neg_tmod] at this; omega
            · exact hp
          have hw := IntWalk.i64_in n (by omega)
          have hm : inb (n.tmod (a.2.2.2.1.length : Int)) a.2.2.2.1.length = true := by
            rw [tmod_nn hp]
            exact inb_t ⟨Int.emod_nonneg _ (by omega), Int.emod_lt_of_pos _ h0⟩
          have hz : ¬ (a.2.2.2.1.length : Int) = 0 := by omega
          simp only [h0, h3, hw, hm, hz, decide_true, decide_false, cond_true, cond_false]
          exact ⟨_, rfl⟩
        · simp only [h0, h3, decide_true, decide_false, cond_true, cond_false]; exact ⟨_, rfl⟩
      · simp only [h0, decide_false, cond_false]; exact ⟨_, rfl⟩
    obtain ⟨h', hj⟩ := hj
    rw [hj]
    simp only [Option.bind_some, dispute_Settle_eq hl70, ref22_Settle_eq hl70, decide_true, cond_true]
    have hlen : (settleV a h').2.1.length ≤ 70 ∧ (settleV a h').2.2.1.length ≤ 70 := by
      unfold settleV
      have e1 := @keptC_len h' a.2.2.2.1 a.2.2.2.1.length
      have e2 := @dropC_len h' a.2.2.2.1 a.2.2.2.1.length
      rw [List.take_length] at e1 e2
      split
      · split
        · exact ⟨by simp [errA], by simp [errA]⟩
        · split
          · exact ⟨by simp [errA], by simp [errA]⟩
          · exact ⟨Nat.le_trans e1 hl70, Nat.le_trans e2 hl70⟩
      · exact ⟨by simp [errA], by simp [errA]⟩
    rw [ref22_Same_self (Nat.le_trans hlen.1 (by decide)), Option.bind_some, cond_true, ref16_SameInts_self (Nat.le_trans hlen.2 (by decide)), Option.bind_some]
  · simp [hk]
theorem disputeSettles_pure (xs : TT.dens (holes [T_2c9a, .arr 32 (.int .u8), .int .u8])) (h : WfAll [T_2c9a, .arr 32 (.int .u8), .int .u8] xs) : law22_DisputeSettles xs.1 xs.2.1 xs.2.2.1 = some ((true, ()), ()) :=
  disputeSettles_eq h.1.2.2.2.1.1 h.2.2.1
end Go.PE
end
