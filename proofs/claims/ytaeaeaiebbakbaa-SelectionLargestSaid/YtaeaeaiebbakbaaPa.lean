/- What the printed functions of the program are, and the plain law; conditions stand in each statement. -/
import Derived.Test.YtaeaeaiebbakbaaQa
import Derived.Test.YtaeaeaiebbakbaaQc
import Derived.IntWalk
section
namespace Go.PE
abbrev T_8464 : Ty := (.cons .ptr .nil)
abbrev D_8464 : Type := Unit × Unit
abbrev T_a556 : Ty := (.cons .str (.cons (.int .u64) .nil))
abbrev D_a556 : Type := (List Int) × Int × Unit
abbrev T_6bf9 : Ty := (.cons (.slice (.int .u8)) (.cons (.int .i64) .nil))
abbrev D_6bf9 : Type := (List Int) × Int × Unit
abbrev T_b101 : Ty := (.cons (.int .i64) (.cons (.slice (.int .u8)) .nil))
abbrev D_b101 : Type := Int × (List Int) × Unit
abbrev T_3393 : Ty := (.cons (.slice (.int .i64)) (.cons (.int .i64) .nil))
abbrev D_3393 : Type := (List Int) × Int × Unit
abbrev T_b85e : Ty := (.cons (.arr 32 (.int .u8)) (.cons (.int .u32) .nil))
abbrev D_b85e : Type := (List Int) × Int × Unit
abbrev T_f0bb : Ty := (.cons .ptr (.cons .ptr (.cons .ptr (.cons .str .nil))))
abbrev D_f0bb : Type := Unit × Unit × Unit × (List Int) × Unit
abbrev T_9634 : Ty := (.cons T_6bf9 .nil)
abbrev D_9634 : Type := D_6bf9 × Unit
abbrev T_d9b8 : Ty := (.cons (.int .i64) (.cons (.int .i64) (.cons .bool (.cons (.int .u8) .nil))))
abbrev D_d9b8 : Type := Int × Int × Bool × Int × Unit
abbrev T_641c : Ty := (.cons (.int .u64) (.cons (.int .u64) (.cons (.int .u64) (.cons (.int .u64) .nil))))
abbrev D_641c : Type := Int × Int × Int × Int × Unit
abbrev T_089d : Ty := (.cons T_b85e (.cons (.int .u32) (.cons (.slice (.slice (.int .u8))) .nil)))
abbrev D_089d : Type := D_b85e × Int × (List (List Int)) × Unit
abbrev T_a496 : Ty := (.cons (.slice (.int .i64)) (.cons (.int .i64) (.cons (.slice (.int .i64)) (.cons T_3393 (.cons .bool .nil)))))
abbrev D_a496 : Type := (List Int) × Int × (List Int) × D_3393 × Bool × Unit
abbrev T_6b85 : Ty := (.cons T_b85e (.cons T_b101 (.cons (.int .i64) (.cons .bool .nil))))
abbrev D_6b85 : Type := D_b85e × D_b101 × Int × Bool × Unit
abbrev T_c1fb : Ty := (.cons T_6b85 (.cons (.int .i64) .nil))
abbrev D_c1fb : Type := D_6b85 × Int × Unit
abbrev T_fbab : Ty := (.cons (.int .u64) (.cons (.int .u64) (.cons (.int .u32) (.cons (.int .u8) (.cons (.int .u8) (.cons (.int .u8) (.cons (.int .u8) (.cons .fn (.cons .ptr (.cons (.int .i32) (.cons (.int .i32) .nil)))))))))))
abbrev D_fbab : Type := Int × Int × Int × Int × Int × Int × Int × Unit × Unit × Int × Int × Unit
abbrev T_8f0a : Ty := (.cons (.int .u32) (.cons (.slice T_089d) (.cons (.slice T_b101) (.cons (.int .u32) .nil))))
abbrev D_8f0a : Type := Int × (List D_089d) × (List D_b101) × Int × Unit
abbrev T_94d8 : Ty := (.cons T_8f0a (.cons (.int .i64) .nil))
abbrev D_94d8 : Type := D_8f0a × Int × Unit
abbrev T_0798 : Ty := (.cons T_8f0a (.cons (.slice T_6b85) (.cons (.int .i64) (.cons (.int .i64) .nil))))
abbrev D_0798 : Type := D_8f0a × (List D_6b85) × Int × Int × Unit
def S_0d66ef : List Int := [0, 1, 2, 2, 3, 3, 3, 3, 4, 4, 4, 4, 4, 4, 4, 4, 5, 5, 5, 5, 5, 5, 5, 5, 5, 5, 5, 5, 5, 5, 5, 5, 6, 6, 6, 6, 6, 6, 6, 6, 6, 6, 6, 6, 6, 6, 6, 6, 6, 6, 6, 6, 6, 6, 6, 6, 6, 6, 6, 6, 6, 6, 6, 6, 7, 7, 7, 7, 7, 7, 7, 7, 7, 7, 7, 7, 7, 7, 7, 7, 7, 7, 7, 7, 7, 7, 7, 7, 7, 7, 7, 7, 7, 7, 7, 7, 7, 7, 7, 7, 7, 7, 7, 7, 7, 7, 7, 7, 7, 7, 7, 7, 7, 7, 7, 7, 7, 7, 7, 7, 7, 7, 7, 7, 7, 7, 7, 7, 8, 8, 8, 8, 8, 8, 8, 8, 8, 8, 8, 8, 8, 8, 8, 8, 8, 8, 8, 8, 8, 8, 8, 8, 8, 8, 8, 8, 8, 8, 8, 8, 8, 8, 8, 8, 8, 8, 8, 8, 8, 8, 8, 8, 8, 8, 8, 8, 8, 8, 8, 8, 8, 8, 8, 8, 8, 8, 8, 8, 8, 8, 8, 8, 8, 8, 8, 8, 8, 8, 8, 8, 8, 8, 8, 8, 8, 8, 8, 8, 8, 8, 8, 8, 8, 8, 8, 8, 8, 8, 8, 8, 8, 8, 8, 8, 8, 8, 8, 8, 8, 8, 8, 8, 8, 8, 8, 8, 8, 8, 8, 8, 8, 8, 8, 8, 8, 8, 8, 8, 8, 8, 8, 8, 8, 8, 8, 8]
def G_3e2daa : List Int := [1779033703, 3144134277, 1013904242, 2773480762, 1359893119, 2600822924, 528734635, 1541459225]
def G_c990df : List Int := [1116352408, 1899447441, 3049323471, 3921009573, 961987163, 1508970993, 2453635748, 2870763221, 3624381080, 310598401, 607225278, 1426881987, 1925078388, 2162078206, 2614888103, 3248222580, 3835390401, 4022224774, 264347078, 604807628, 770255983, 1249150122, 1555081692, 1996064986, 2554220882, 2821834349, 2952996808, 3210313671, 3336571891, 3584528711, 113926993, 338241895, 666307205, 773529912, 1294757372, 1396182291, 1695183700, 1986661051, 2177026350, 2456956037, 2730485921, 2820302411, 3259730800, 3345764771, 3516065817, 3600352804, 4094571909, 275423344, 430227734, 506948616, 659060556, 883997877, 958139571, 1322822218, 1537002063, 1747873779, 1955562222, 2024104815, 2227730452, 2361852424, 2428436474, 2756734187, 3204031479, 3329325298]
end Go.PE
end

section
set_option linter.unusedVariables false
noncomputable section
namespace Go.PE

/-- lightclient/lightclientmade.Script -/
def made_Script (a0 : Int) : Option ((Unit × Unit) × (List Int) × Unit) :=
  some (((), ()), (([(1 : Int), (1 : Int), (IntKind.u8.wrap ((1 : Int) + (Int.tmod a0 (6 : Int)))), (5 : Int)] : List Int), ()))

/-- lightclient/lightclientmade.Null -/
def made_Null : Option ((D_b85e × Unit) × Unit) :=
  some ((((List.replicate 32 (0 : Int)), ((4294967295 : Int), ())), ()), ())

end Go.PE
end
end

section
set_option linter.unusedVariables false
noncomputable section
namespace Go.PE

/-- lightclient/lightclientmill.New -/
def mill_New (a0 : List Int) : Option ((Unit × Unit) × D_3393 × Unit) :=
  some (((), ()), ((a0, ((0 : Int), ())), ()))

/-- (*lightclient/lightclientmill.Deck).Left -/
def mill_Deck_Left (a0 : D_3393) : Option ((Bool × Unit) × D_3393 × Unit) :=
  some (((decide (a0.2.1 < (((List.length a0.1) : Int)))), ()), (a0, ()))

/-- lightclient/lightclientmill.Mod -/
def mill_Mod (a0 : Int) (a1 : Int) : Option ((Int × Unit) × Unit) :=
  bif (decide (a1 = 0)) then
    none
  else
    let x3 := (Int.tmod a0 a1)
    bif (decide (x3 < (0 : Int))) then
      some (((IntKind.i64.wrap (x3 + a1)), ()), ())
    else
      some ((x3, ()), ())

/-- (*lightclient/lightclientmill.Deck).Next -/
def mill_Deck_Next (a0 : Int) (a1 : D_3393) : Option ((Int × Unit) × D_3393 × Unit) :=
  (mill_Deck_Left a1).bind fun r3 =>
  bif (!r3.1.1) then
    some (((0 : Int), ()), (r3.2.1, ()))
  else
    let x5 := (IntKind.i64.wrap (r3.2.1.2.1 + (1 : Int)))
    let x6 := (IntKind.i64.wrap (x5 - (1 : Int)))
    bif (inb x6 (List.length r3.2.1.1)) then
      (mill_Mod (rd (.int .i64) r3.2.1.1 x6) a0).bind fun r8 =>
      some ((r8.1.1, ()), ((r3.2.1.1, (x5, r3.2.1.2.2)), ()))
    else
      none

/-- (*lightclient/lightclientmill.Deck).Range -/
def mill_Deck_Range (a0 : Int) (a1 : Int) (a2 : D_3393) : Option ((Int × Unit) × D_3393 × Unit) :=
  (mill_Deck_Next (IntKind.i64.wrap ((IntKind.i64.wrap (a1 - a0)) + (1 : Int))) a2).bind fun r6 =>
  some (((IntKind.i64.wrap (a0 + r6.1.1)), ()), (r6.2.1, ()))

/-- lightclient/lightclientmill.Hash -/
def mill_Hash (a0 : D_3393) : Option (((List Int) × Unit) × D_3393 × Unit) :=
  (mill_Deck_Next (5 : Int) a0).bind fun r2 =>
  let x3 := (IntKind.u8.wrap (r2.1.1))
  (mill_Deck_Next (7 : Int) r2.2.1).bind fun r4 =>
  ((List.replicate 32 (0 : Int))[(0)]?).bind fun e6 =>
  (((List.replicate 32 (0 : Int)).set (0) x3)[(31)]?).bind fun e7 =>
  some (((((List.replicate 32 (0 : Int)).set (0) x3).set (31) (IntKind.u8.wrap (r4.1.1))), ()), (r4.2.1, ()))

def mill_Tx_J2 (v : (Unit × Unit × Unit × Unit × Unit) × D_3393 × (Int × Unit × Unit × Int × Unit) × (Int × Unit × Unit × Int × Unit) × (D_b85e × Int × Unit × Unit) × (List D_089d) × Unit) : Option ((Unit × Unit × Unit × Unit × Unit) × D_3393 × (Int × Unit × Unit × Int × Unit) × (Int × Unit × Unit × Int × Unit) × (D_b85e × Int × Unit × Unit) × (List D_089d) × (List (List Int)) × Unit) :=
  (mill_Deck_Next (2 : Int) v.2.1).bind fun r3001 =>
  bif (decide (r3001.1.1 = (0 : Int))) then
    (mill_Deck_Next (9 : Int) r3001.2.1).bind fun r3003 =>
    some (((), ((), ((), ((), ())))), (r3003.2.1, ((v.2.2.1.1, ((), ((), v.2.2.1.2.2.2))), ((v.2.2.2.1.1, ((), ((), v.2.2.2.1.2.2.2))), ((v.2.2.2.2.1.1, (v.2.2.2.2.1.2.1, ((), ()))), (v.2.2.2.2.2.1, (([([(IntKind.u8.wrap (r3003.1.1))] : List Int)] : List (List Int)), ())))))))
  else
    some (((), ((), ((), ((), ())))), (r3001.2.1, ((v.2.2.1.1, ((), ((), v.2.2.1.2.2.2))), ((v.2.2.2.1.1, ((), ((), v.2.2.2.1.2.2.2))), ((v.2.2.2.2.1.1, (v.2.2.2.2.1.2.1, ((), ()))), (v.2.2.2.2.2.1, (([] : List (List Int)), ())))))))

def mill_Tx_L1 (v : (Unit × Unit × Unit × Int × Unit) × D_3393 × (Int × Unit × Unit × Int × Unit) × (Int × Unit × Unit × Int × Unit) × (List D_089d) × Unit) : Option (((Unit × Unit × Unit × Int × Unit) × D_3393 × (Int × Unit × Unit × Int × Unit) × (Int × Unit × Unit × Int × Unit) × (List D_089d) × Unit) ⊕ ((Unit × Unit × Unit × Unit) × D_3393 × (Int × Unit × Unit × Int × Unit) × (Int × Unit × Unit × Int × Unit) × (List D_089d) × Unit)) :=
  bif (decide ((0 : Int) < v.1.2.2.2.1)) then
    (mill_Hash v.2.1).bind fun r2002 =>
    (mill_Deck_Next (3 : Int) r2002.2.1).bind fun r2003 =>
    let x2005 := ([(4294967295 : Int), (4294967294 : Int), (4294967293 : Int), (0 : Int)] : List Int)
    (mill_Deck_Next (4 : Int) r2003.2.1).bind fun r2006 =>
    bif (inb r2006.1.1 (List.length x2005)) then
      (x2005[(Int.toNat r2006.1.1)]?).bind fun e2007 =>
      (mill_Tx_J2 (((), ((), ((), ((), ())))), (r2006.2.1, ((v.2.2.1.1, ((), ((), v.2.2.1.2.2.2))), ((v.2.2.2.1.1, ((), ((), v.2.2.2.1.2.2.2))), (((r2002.1.1, ((IntKind.u32.wrap (r2003.1.1)), ())), (e2007, ((), ()))), (v.2.2.2.2.1, ()))))))).bind fun o2008 =>
      let x2009 := ([(o2008.2.2.2.2.1.1, (o2008.2.2.2.2.1.2.1, (o2008.2.2.2.2.2.2.1, ())))] : List D_089d)
      bif (decide ((List.length o2008.2.2.2.2.2.1) + (List.length x2009) ≤ lim)) then
        some (.inl (((), ((), ((), ((IntKind.i64.wrap (v.1.2.2.2.1 - (1 : Int))), ())))), (o2008.2.1, ((o2008.2.2.1.1, ((), ((), o2008.2.2.1.2.2.2))), ((o2008.2.2.2.1.1, ((), ((), o2008.2.2.2.1.2.2.2))), ((o2008.2.2.2.2.2.1 ++ x2009), ()))))))
      else
        none
    else
      none
  else
    some (.inr (((), ((), ((), ()))), (v.2.1, ((v.2.2.1.1, ((), ((), v.2.2.1.2.2.2))), ((v.2.2.2.1.1, ((), ((), v.2.2.2.1.2.2.2))), (v.2.2.2.2.1, ()))))))

def mill_Tx_L3 (v : (Unit × Unit × Unit × Int × Unit) × D_3393 × (Int × Unit × Unit × Int × Unit) × (Int × Unit × Unit × Int × Unit) × (List D_089d) × (List D_b101) × Unit) : Option (((Unit × Unit × Unit × Int × Unit) × D_3393 × (Int × Unit × Unit × Int × Unit) × (Int × Unit × Unit × Int × Unit) × (List D_089d) × (List D_b101) × Unit) ⊕ ((Unit × Unit × Unit) × D_3393 × (Int × Unit × Unit × Int × Unit) × (Int × Unit × Unit × Int × Unit) × (List D_089d) × (List D_b101) × Unit)) :=
  bif (decide ((0 : Int) < v.1.2.2.2.1)) then
    (mill_Deck_Next (5000 : Int) v.2.1).bind fun r4002 =>
    (mill_Deck_Next (6 : Int) r4002.2.1).bind fun r4003 =>
    (made_Script (IntKind.u8.wrap (r4003.1.1))).bind fun r4005 =>
    let x4006 := ([(r4002.1.1, (r4005.2.1, ()))] : List D_b101)
    bif (decide ((List.length v.2.2.2.2.2.1) + (List.length x4006) ≤ lim)) then
      some (.inl (((), ((), ((), ((IntKind.i64.wrap (v.1.2.2.2.1 - (1 : Int))), ())))), (r4003.2.1, ((v.2.2.1.1, ((), ((), v.2.2.1.2.2.2))), ((v.2.2.2.1.1, ((), ((), v.2.2.2.1.2.2.2))), (v.2.2.2.2.1, ((v.2.2.2.2.2.1 ++ x4006), ())))))))
    else
      none
  else
    some (.inr (((), ((), ())), (v.2.1, ((v.2.2.1.1, ((), ((), v.2.2.1.2.2.2))), ((v.2.2.2.1.1, ((), ((), v.2.2.2.1.2.2.2))), (v.2.2.2.2.1, (v.2.2.2.2.2.1, ())))))))

/-- lightclient/lightclientmill.Tx -/
def mill_Tx (a0 : D_3393) : Option (((Int × Unit × Unit × Int × Unit) × Unit) × D_3393 × (List D_089d) × (List D_b101) × Unit) :=
  (mill_Deck_Next (3 : Int) a0).bind fun r2 =>
  (mill_Deck_Next (9 : Int) r2.2.1).bind fun r4 =>
  (mill_Deck_Range (1 : Int) (3 : Int) r4.2.1).bind fun r6 =>
  (loopV (mill_Tx_L1) (((), ((), ((), (r6.1.1, ())))), (r6.2.1, (((0 : Int), ((), ((), ((0 : Int), ())))), (((IntKind.u32.wrap (r2.1.1)), ((), ((), ((IntKind.u32.wrap (r4.1.1)), ())))), (([] : List D_089d), ())))))).bind fun o7 =>
  (mill_Deck_Range (1 : Int) (3 : Int) o7.2.1).bind fun r8 =>
  (loopV (mill_Tx_L3) (((), ((), ((), (r8.1.1, ())))), (r8.2.1, ((o7.2.2.1.1, ((), ((), o7.2.2.1.2.2.2))), ((o7.2.2.2.1.1, ((), ((), o7.2.2.2.1.2.2.2))), (o7.2.2.2.2.1, (([] : List D_b101), ()))))))).bind fun o9 =>
  some (((o9.2.2.2.1.1, ((), ((), o9.2.2.2.1.2.2.2))), ()), (o9.2.1, (o9.2.2.2.2.1, (o9.2.2.2.2.2.1, ()))))

def mill_Plan_L1 (c15 : List (List Int)) (c16 : Int) (v : (Unit × Unit × Unit × Int × Int × Unit) × D_3393 × ((Int × Unit × Unit × Int × Unit) × Unit × Int × Int × Unit) × ((Int × Unit × Unit × Int × Unit) × Unit × Int × Int × Unit) × (List D_089d) × (List D_6b85) × Unit) : Option (((Unit × Unit × Unit × Int × Int × Unit) × D_3393 × ((Int × Unit × Unit × Int × Unit) × Unit × Int × Int × Unit) × ((Int × Unit × Unit × Int × Unit) × Unit × Int × Int × Unit) × (List D_089d) × (List D_6b85) × Unit) ⊕ ((Unit × Unit × Unit × Int × Unit) × D_3393 × ((Int × Unit × Unit × Int × Unit) × Unit × Int × Int × Unit) × ((Int × Unit × Unit × Int × Unit) × Unit × Int × Int × Unit) × (List D_089d) × (List D_6b85) × Unit)) :=
  bif (decide (v.1.2.2.2.2.1 < c16)) then
    bif (inb v.1.2.2.2.2.1 (List.length c15)) then
      ((List.replicate 32 (0 : Int))[(0)]?).bind fun e2004 =>
      (((List.replicate 32 (0 : Int)).set (0) (1 : Int))[(1)]?).bind fun e2005 =>
      let x2006 := (((List.replicate 32 (0 : Int)).set (0) (1 : Int)).set (1) (IntKind.u8.wrap (v.1.2.2.2.2.1)))
      let x2007 := (IntKind.u32.wrap (v.1.2.2.2.2.1))
      let x2008 := ([((x2006, (x2007, ())), (((10000 : Int), ((rd (.slice (.int .u8)) c15 v.1.2.2.2.2.1), ())), ((1 : Int), (false, ()))))] : List D_6b85)
      bif (decide ((List.length v.2.2.2.2.2.1) + (List.length x2008) ≤ lim)) then
        let x2010 := ([(4294967295 : Int), (0 : Int), (4294967293 : Int)] : List Int)
        (mill_Deck_Next (3 : Int) v.2.1).bind fun r2011 =>
        bif (inb r2011.1.1 (List.length x2010)) then
          (x2010[(Int.toNat r2011.1.1)]?).bind fun e2012 =>
          let x2013 := ([((x2006, (x2007, ())), (e2012, (([] : List (List Int)), ())))] : List D_089d)
          bif (decide ((List.length v.2.2.2.2.1) + (List.length x2013) ≤ lim)) then
            some (.inl (((), ((), ((), ((IntKind.i64.wrap (v.1.2.2.2.1 + (10000 : Int))), ((IntKind.i64.wrap (v.1.2.2.2.2.1 + (1 : Int))), ()))))), (r2011.2.1, (((v.2.2.1.1.1, ((), ((), v.2.2.1.1.2.2.2))), ((), v.2.2.1.2.2)), (((v.2.2.2.1.1.1, ((), ((), v.2.2.2.1.1.2.2.2))), ((), v.2.2.2.1.2.2)), ((v.2.2.2.2.1 ++ x2013), ((v.2.2.2.2.2.1 ++ x2008), ())))))))
          else
            none
        else
          none
      else
        none
    else
      none
  else
    some (.inr (((), ((), ((), (v.1.2.2.2.1, ())))), (v.2.1, (((v.2.2.1.1.1, ((), ((), v.2.2.1.1.2.2.2))), ((), v.2.2.1.2.2)), (((v.2.2.2.1.1.1, ((), ((), v.2.2.2.1.1.2.2.2))), ((), v.2.2.2.1.2.2)), (v.2.2.2.2.1, (v.2.2.2.2.2.1, ())))))))

/-- lightclient/lightclientmill.Plan -/
def mill_Plan (a0 : List (List Int)) (a1 : D_3393) : Option ((((Int × Unit × Unit × Int × Unit) × Unit × Int × Int × Unit) × Unit) × D_3393 × (List D_089d) × (List D_b101) × (List D_6b85) × Unit) :=
  (mill_Deck_Next (3 : Int) a1).bind fun r3 =>
  (loopV (mill_Plan_L1 a0 (((List.length a0) : Int))) (((), ((), ((), ((0 : Int), ((0 : Int), ()))))), (r3.2.1, ((((0 : Int), ((), ((), ((0 : Int), ())))), ((), ((0 : Int), ((0 : Int), ())))), ((((1 : Int), ((), ((), ((IntKind.u32.wrap (r3.1.1)), ())))), ((), ((0 : Int), ((0 : Int), ())))), (([] : List D_089d), (([] : List D_6b85), ()))))))).bind fun o6 =>
  (mill_Deck_Next (900 : Int) o6.2.1).bind fun r7 =>
  (made_Script (0 : Int)).bind fun r8 =>
  (made_Script (1 : Int)).bind fun r11 =>
  let x12 := ([((5000 : Int), (r8.2.1, ())), ((IntKind.i64.wrap ((IntKind.i64.wrap (o6.1.2.2.2.1 - (5000 : Int))) - r7.1.1)), (r11.2.1, ()))] : List D_b101)
  (mill_Deck_Next (4 : Int) r7.2.1).bind fun r13 =>
  bif (decide (r13.1.1 = (0 : Int))) then
    some ((((o6.2.2.2.1.1.1, ((), ((), o6.2.2.2.1.1.2.2.2))), ((), (r7.1.1, ((-1 : Int), o6.2.2.2.1.2.2.2.2)))), ()), (r13.2.1, (o6.2.2.2.2.1, (x12, (o6.2.2.2.2.2.1, ())))))
  else
    bif (decide (r13.1.1 = (1 : Int))) then
      bif (inb (1 : Int) (List.length x12)) then
        (x12[(1)]?).bind fun e16 =>
        (mill_Deck_Next (500 : Int) r13.2.1).bind fun r19 =>
        let x20 := (IntKind.i64.wrap ((IntKind.i64.wrap ((IntKind.i64.wrap (r7.1.1 + e16.1)) - (301 : Int))) - r19.1.1))
        bif (inb (1 : Int) (List.length x12)) then
          (x12[(1)]?).bind fun e23 =>
          some ((((o6.2.2.2.1.1.1, ((), ((), o6.2.2.2.1.1.2.2.2))), ((), (x20, ((1 : Int), o6.2.2.2.1.2.2.2.2)))), ()), (r19.2.1, (o6.2.2.2.2.1, ((x12.set (1) ((IntKind.i64.wrap ((IntKind.i64.wrap (o6.1.2.2.2.1 - (5000 : Int))) - x20)), e23.2)), (o6.2.2.2.2.2.1, ())))))
        else
          none
      else
        none
    else
      some ((((o6.2.2.2.1.1.1, ((), ((), o6.2.2.2.1.1.2.2.2))), ((), (r7.1.1, ((1 : Int), o6.2.2.2.1.2.2.2.2)))), ()), (r13.2.1, (o6.2.2.2.2.1, (x12, (o6.2.2.2.2.2.1, ())))))

def mill_Spendables_L1 (v : (Unit × Unit × Int × Unit) × D_3393 × (List D_c1fb) × Unit) : Option (((Unit × Unit × Int × Unit) × D_3393 × (List D_c1fb) × Unit) ⊕ ((Unit × Unit) × D_3393 × (List D_c1fb) × Unit)) :=
  bif (decide ((0 : Int) < v.1.2.2.1)) then
    ((List.replicate 32 (0 : Int))[(0)]?).bind fun e2003 =>
    (mill_Deck_Next (3 : Int) v.2.1).bind fun r2005 =>
    (mill_Deck_Next (4000 : Int) r2005.2.1).bind fun r2007 =>
    (mill_Deck_Next (6 : Int) r2007.2.1).bind fun r2008 =>
    (made_Script (IntKind.u8.wrap (r2008.1.1))).bind fun r2010 =>
    (mill_Deck_Range (1 : Int) (5 : Int) r2008.2.1).bind fun r2011 =>
    (mill_Deck_Next (70 : Int) r2011.2.1).bind fun r2012 =>
    let x2013 := ([(((((List.replicate 32 (0 : Int)).set (0) (IntKind.u8.wrap (v.1.2.2.1))), ((IntKind.u32.wrap (r2005.1.1)), ())), ((r2007.1.1, (r2010.2.1, ())), (r2011.1.1, (false, ())))), (r2012.1.1, ()))] : List D_c1fb)
    bif (decide ((List.length v.2.2.1) + (List.length x2013) ≤ lim)) then
      some (.inl (((), ((), ((IntKind.i64.wrap (v.1.2.2.1 - (1 : Int))), ()))), (r2012.2.1, ((v.2.2.1 ++ x2013), ()))))
    else
      none
  else
    some (.inr (((), ()), (v.2.1, (v.2.2.1, ()))))

/-- lightclient/lightclientmill.Spendables -/
def mill_Spendables (a0 : Int) (a1 : D_3393) : Option ((Unit × Unit) × D_3393 × (List D_c1fb) × Unit) :=
  (mill_Deck_Next (IntKind.i64.wrap (a0 + (1 : Int))) a1).bind fun r4 =>
  (loopV (mill_Spendables_L1) (((), ((), (r4.1.1, ()))), (r4.2.1, (([] : List D_c1fb), ())))).bind fun o5 =>
  some (((), ()), (o5.2.1, (o5.2.2.1, ())))

def mill_Outputs_L1 (v : (Unit × Unit × Int × Unit) × D_3393 × (List D_b101) × Unit) : Option (((Unit × Unit × Int × Unit) × D_3393 × (List D_b101) × Unit) ⊕ ((Unit × Unit) × D_3393 × (List D_b101) × Unit)) :=
  bif (decide ((0 : Int) < v.1.2.2.1)) then
    (mill_Deck_Next (2000 : Int) v.2.1).bind fun r2002 =>
    (mill_Deck_Next (6 : Int) r2002.2.1).bind fun r2004 =>
    (made_Script (IntKind.u8.wrap (r2004.1.1))).bind fun r2006 =>
    let x2007 := ([((IntKind.i64.wrap ((300 : Int) + r2002.1.1)), (r2006.2.1, ()))] : List D_b101)
    bif (decide ((List.length v.2.2.1) + (List.length x2007) ≤ lim)) then
      some (.inl (((), ((), ((IntKind.i64.wrap (v.1.2.2.1 - (1 : Int))), ()))), (r2004.2.1, ((v.2.2.1 ++ x2007), ()))))
    else
      none
  else
    some (.inr (((), ()), (v.2.1, (v.2.2.1, ()))))

/-- lightclient/lightclientmill.Outputs -/
def mill_Outputs (a0 : Int) (a1 : D_3393) : Option ((Unit × Unit) × D_3393 × (List D_b101) × Unit) :=
  (mill_Deck_Range (1 : Int) a0 a1).bind fun r3 =>
  (loopV (mill_Outputs_L1) (((), ((), (r3.1.1, ()))), (r3.2.1, (([] : List D_b101), ())))).bind fun o4 =>
  some (((), ()), (o4.2.1, (o4.2.2.1, ())))

end Go.PE
end
end

section
set_option linter.unusedVariables false
noncomputable section
namespace Go.PE

def ref32_proper_L1 (c0 : List Int) (v : (Int × Unit) × Unit) : Option (((Int × Unit) × Unit) ⊕ (((Int × Unit) × Unit) ⊕ ((Unit) × Unit))) :=
  bif (decide (v.1.1 < (((List.length c0) : Int)))) then
    bif (inb v.1.1 (List.length c0)) then
      bif (decide ((rd (.int .i64) c0 v.1.1) < (1 : Int))) then
        some (.inr (.inl (((5 : Int), ()), ())))
      else
        bif (inb v.1.1 (List.length c0)) then
          bif (decide ((2100000000000000 : Int) < (rd (.int .i64) c0 v.1.1))) then
            some (.inr (.inl (((5 : Int), ()), ())))
          else
            some (.inl (((IntKind.i64.wrap (v.1.1 + (1 : Int))), ()), ()))
        else
          none
    else
      none
  else
    some (.inr (.inr ((), ())))

/-- lightclient/lightclientref32.proper -/
def ref32_proper (a0 : List Int) (a1 : Int) : Option ((Int × Unit) × Unit) :=
  bif (decide ((16 : Int) < (((List.length a0) : Int)))) then
    some (((4 : Int), ()), ())
  else
    (loopV (ref32_proper_L1 a0) (((0 : Int), ()), ())).bind fun o5 =>
    match o5 with
    | .inl o6 =>
      some ((o6.1.1, ()), ())
    | .inr o7 =>
      bif (decide (a1 < (1 : Int))) then
        some (((5 : Int), ()), ())
      else
        bif (decide ((2100000000000000 : Int) < a1)) then
          some (((5 : Int), ()), ())
        else
          some (((0 : Int), ()), ())

def ref32_sum_L1 (c0 : List Int) (v : (Int × Int × Unit) × Unit) : Option (((Int × Int × Unit) × Unit) ⊕ ((Int × Unit) × Unit)) :=
  bif (decide (v.1.2.1 < (((List.length c0) : Int)))) then
    bif (inb v.1.2.1 (List.length c0)) then
      some (.inl (((IntKind.i64.wrap (v.1.1 + (rd (.int .i64) c0 v.1.2.1))), ((IntKind.i64.wrap (v.1.2.1 + (1 : Int))), ())), ()))
    else
      none
  else
    some (.inr ((v.1.1, ()), ()))

/-- lightclient/lightclientref32.sum -/
def ref32_sum (a0 : List Int) : Option ((Int × Unit) × Unit) :=
  (loopV (ref32_sum_L1 a0) (((0 : Int), ((0 : Int), ())), ())).bind fun o2 =>
  some ((o2.1.1, ()), ())

/-- lightclient/lightclientref32.least: one call -/
def ref32_least_R (self : (((List Int) × Int × Int × Int × Unit) × Unit) → Option ((Int × Unit) × Unit)) (v : ((List Int) × Int × Int × Int × Unit) × Unit) : Option ((Int × Unit) × Unit) :=
  bif (decide (v.1.2.1 ≤ v.1.2.2.1)) then
    some (((min v.1.2.2.1 v.1.2.2.2.1), ()), ())
  else
    bif (decide (v.1.2.2.2.1 ≤ v.1.2.2.1)) then
      some ((v.1.2.2.2.1, ()), ())
    else
      (ref32_sum v.1.1).bind fun r8 =>
      bif (decide ((IntKind.i64.wrap (v.1.2.2.1 + r8.1.1)) < v.1.2.1)) then
        some ((v.1.2.2.2.1, ()), ())
      else
        bif (decide (0 ≤ (1 : Int)) && decide ((1 : Int) ≤ ((List.length v.1.1) : Int))) then
          bif (inb (0 : Int) (List.length v.1.1)) then
            (self (((sub v.1.1 (1) ((List.length v.1.1) - (1))), (v.1.2.1, ((IntKind.i64.wrap (v.1.2.2.1 + (rd (.int .i64) v.1.1 (0 : Int)))), (v.1.2.2.2.1, ())))), ())).bind fun r14 =>
            bif (decide (0 ≤ (1 : Int)) && decide ((1 : Int) ≤ ((List.length v.1.1) : Int))) then
              (self (((sub v.1.1 (1) ((List.length v.1.1) - (1))), (v.1.2.1, (v.1.2.2.1, (r14.1.1, ())))), ())).bind fun r16 =>
              some ((r16.1.1, ()), ())
            else
              none
          else
            none
        else
          none

/-- lightclient/lightclientref32.least -/
def ref32_least (a0 : List Int) (a1 : Int) (a2 : Int) (a3 : Int) : Option ((Int × Unit) × Unit) := fixN ref32_least_R fuel ((a0, (a1, (a2, (a3, ())))), ())

/-- lightclient/lightclientref32.places: one call -/
def ref32_places_R (self : (((List Int) × Int × Int × Unit) × Unit) → Option (((List Int) × Bool × Unit) × Unit)) (v : ((List Int) × Int × Int × Unit) × Unit) : Option (((List Int) × Bool × Unit) × Unit) :=
  bif (decide (v.1.2.2.1 = (0 : Int))) then
    some ((([] : List Int), (true, ())), ())
  else
    bif (decide ((((List.length v.1.1) : Int)) ≤ v.1.2.1)) then
      some ((([] : List Int), (false, ())), ())
    else
      bif (decide (v.1.2.2.1 < (0 : Int))) then
        some ((([] : List Int), (false, ())), ())
      else
        bif (decide (0 ≤ v.1.2.1) && decide (v.1.2.1 ≤ ((List.length v.1.1) : Int))) then
          (ref32_sum (sub v.1.1 (Int.toNat v.1.2.1) ((List.length v.1.1) - (Int.toNat v.1.2.1)))).bind fun r9 =>
          bif (decide (r9.1.1 < v.1.2.2.1)) then
            some ((([] : List Int), (false, ())), ())
          else
            bif (inb v.1.2.1 (List.length v.1.1)) then
              (self ((v.1.1, ((IntKind.i64.wrap (v.1.2.1 + (1 : Int))), ((IntKind.i64.wrap (v.1.2.2.1 - (rd (.int .i64) v.1.1 v.1.2.1))), ()))), ())).bind fun r14 =>
              bif r14.1.2.1 then
                let x15 := ([v.1.2.1] : List Int)
                bif (decide ((List.length x15) + (List.length r14.1.1) ≤ lim)) then
                  some (((x15 ++ r14.1.1), (true, ())), ())
                else
                  none
              else
                (self ((v.1.1, ((IntKind.i64.wrap (v.1.2.1 + (1 : Int))), (v.1.2.2.1, ()))), ())).bind fun r18 =>
                some ((r18.1.1, (r18.1.2.1, ())), ())
            else
              none
        else
          none

/-- lightclient/lightclientref32.places -/
def ref32_places (a0 : List Int) (a1 : Int) (a2 : Int) : Option (((List Int) × Bool × Unit) × Unit) := fixN ref32_places_R fuel ((a0, (a1, (a2, ()))), ())

/-- lightclient/lightclientref32.ends -/
def ref32_ends (a0 : List Int) (a1 : Int) (a2 : Int) (a3 : Int) (a4 : Int) : Option ((Bool × Unit) × Unit) :=
  bif (decide (a4 ≤ a3)) then
    some ((true, ()), ())
  else
    bif (decide (0 ≤ a2) && decide (a2 ≤ ((List.length a0) : Int))) then
      (ref32_sum (sub a0 (Int.toNat a2) ((List.length a0) - (Int.toNat a2)))).bind fun r8 =>
      some (((decide ((IntKind.i64.wrap (a3 + r8.1.1)) < a1)), ()), ())
    else
      none

/-- lightclient/lightclientref32.trace: one call -/
def ref32_trace_R (self : (((List Int) × Int × Int × Int × Int × Unit × Unit) × (List Int) × Unit) → Option ((Unit × Unit) × Unit × (List Int) × Unit)) (v : ((List Int) × Int × Int × Int × Int × Unit × Unit) × (List Int) × Unit) : Option ((Unit × Unit) × Unit × (List Int) × Unit) :=
  bif (decide ((16384 : Int) < (((List.length v.2.1) : Int)))) then
    some (((), ()), ((), (v.2.1, ())))
  else
    (ref32_ends v.1.1 v.1.2.1 v.1.2.2.1 v.1.2.2.2.1 v.1.2.2.2.2.1).bind fun r9 =>
    bif r9.1.1 then
      let x10 := ([(2 : Int)] : List Int)
      bif (decide ((List.length v.2.1) + (List.length x10) ≤ lim)) then
        some (((), ()), ((), ((v.2.1 ++ x10), ())))
      else
        none
    else
      bif (inb v.1.2.2.1 (List.length v.1.1)) then
        let x15 := ([(1 : Int)] : List Int)
        bif (decide ((List.length v.2.1) + (List.length x15) ≤ lim)) then
          (self ((v.1.1, (v.1.2.1, ((IntKind.i64.wrap (v.1.2.2.1 + (1 : Int))), ((IntKind.i64.wrap (v.1.2.2.2.1 + (rd (.int .i64) v.1.1 v.1.2.2.1))), (v.1.2.2.2.2.1, ((), ())))))), ((v.2.1 ++ x15), ()))).bind fun r17 =>
          (self ((v.1.1, (v.1.2.1, ((IntKind.i64.wrap (v.1.2.2.1 + (1 : Int))), (v.1.2.2.2.1, (v.1.2.2.2.2.1, ((), ())))))), (r17.2.2.1, ()))).bind fun r19 =>
          some (((), ()), ((), (r19.2.2.1, ())))
        else
          none
      else
        none

/-- lightclient/lightclientref32.trace -/
def ref32_trace (a0 : List Int) (a1 : Int) (a2 : Int) (a3 : Int) (a4 : Int) (a5 : List Int) : Option ((Unit × Unit) × Unit × (List Int) × Unit) := fixN ref32_trace_R fuel ((a0, (a1, (a2, (a3, (a4, ((), ())))))), (a5, ()))

/-- lightclient/lightclientref32.Best -/
def ref32_Best (a0 : List Int) (a1 : Int) : Option ((D_3393 × Unit × Int × Unit) × (List Int) × Unit) :=
  (ref32_proper a0 a1).bind fun r3 =>
  bif (!decide (r3.1.1 = (0 : Int))) then
    some (((([] : List Int), ((0 : Int), ())), ((), (r3.1.1, ()))), (([] : List Int), ()))
  else
    (ref32_sum a0).bind fun r5 =>
    bif (decide (r5.1.1 < a1)) then
      some (((([] : List Int), ((0 : Int), ())), ((), ((320 : Int), ()))), (([] : List Int), ()))
    else
      (ref32_sum a0).bind fun r7 =>
      (ref32_least a0 a1 (0 : Int) r7.1.1).bind fun r8 =>
      (ref32_places a0 (0 : Int) r8.1.1).bind fun r9 =>
      (ref32_trace a0 a1 (0 : Int) (0 : Int) r8.1.1 ([] : List Int)).bind fun r10 =>
      bif (decide ((16384 : Int) < (((List.length r10.2.2.1) : Int)))) then
        some (((([] : List Int), ((0 : Int), ())), ((), ((4 : Int), ()))), (([] : List Int), ()))
      else
        some (((r9.1.1, (r8.1.1, ())), ((), ((0 : Int), ()))), (r10.2.2.1, ()))

def ref32_Same_L1 (v : (Unit × Unit × Int × Unit) × D_3393 × D_3393 × Unit) : Option (((Unit × Unit × Int × Unit) × D_3393 × D_3393 × Unit) ⊕ (((Bool × Unit) × Unit) ⊕ ((Unit) × Unit))) :=
  bif (decide (v.1.2.2.1 < (((List.length v.2.1.1) : Int)))) then
    bif (inb v.1.2.2.1 (List.length v.2.1.1)) then
      bif (inb v.1.2.2.1 (List.length v.2.2.1.1)) then
        bif (!decide ((rd (.int .i64) v.2.1.1 v.1.2.2.1) = (rd (.int .i64) v.2.2.1.1 v.1.2.2.1))) then
          some (.inr (.inl ((false, ()), ())))
        else
          some (.inl (((), ((), ((IntKind.i64.wrap (v.1.2.2.1 + (1 : Int))), ()))), (v.2.1, (v.2.2.1, ()))))
      else
        none
    else
      none
  else
    some (.inr (.inr ((), ())))

/-- lightclient/lightclientref32.Same -/
def ref32_Same (a0 : D_3393) (a1 : D_3393) : Option ((Bool × Unit) × Unit) :=
  bif (!decide (a0.2.1 = a1.2.1)) then
    some ((false, ()), ())
  else
    bif (!decide ((((List.length a0.1) : Int)) = (((List.length a1.1) : Int)))) then
      some ((false, ()), ())
    else
      (loopV (ref32_Same_L1) (((), ((), ((0 : Int), ()))), (a0, (a1, ())))).bind fun o7 =>
      match o7 with
      | .inl o8 =>
        some ((o8.1.1, ()), ())
      | .inr o9 =>
        some ((true, ()), ())

def ref32_Largest_J3 (c0 : List Int) (c10 : Int) (v : (Unit × Unit × Int × Unit) × (Unit × Int × Unit) × (List Bool) × Unit) : Option ((Unit × Unit × Int × Unit) × (Unit × Int × Unit) × (List Bool) × Unit) :=
  bif (inb c10 (List.length v.2.2.1)) then
    (v.2.2.1[(Int.toNat c10)]?).bind fun e4001 =>
    bif (!e4001) then
      bif (decide (v.1.2.2.1 < (0 : Int))) then
        some (((), ((), (c10, ()))), (((), v.2.1.2), (v.2.2.1, ())))
      else
        bif (inb c10 (List.length c0)) then
          bif (inb v.1.2.2.1 (List.length c0)) then
            bif (decide ((rd (.int .i64) c0 v.1.2.2.1) < (rd (.int .i64) c0 c10))) then
              some (((), ((), (c10, ()))), (((), v.2.1.2), (v.2.2.1, ())))
            else
              some (((), ((), (v.1.2.2.1, ()))), (((), v.2.1.2), (v.2.2.1, ())))
          else
            none
        else
          none
    else
      some (((), ((), (v.1.2.2.1, ()))), (((), v.2.1.2), (v.2.2.1, ())))
  else
    none

def ref32_Largest_L2 (c0 : List Int) (v : (Unit × Unit × Int × Int × Unit) × (Unit × Int × Unit) × (List Bool) × Unit) : Option (((Unit × Unit × Int × Int × Unit) × (Unit × Int × Unit) × (List Bool) × Unit) ⊕ ((Unit × Unit × Int × Unit) × (Unit × Int × Unit) × (List Bool) × Unit)) :=
  bif (decide (v.1.2.2.2.1 < (((List.length c0) : Int)))) then
    (ref32_Largest_J3 c0 v.1.2.2.2.1 (((), ((), (v.1.2.2.1, ()))), (((), v.2.1.2), (v.2.2.1, ())))).bind fun o3003 =>
    some (.inl (((), ((), (o3003.1.2.2.1, ((IntKind.i64.wrap (v.1.2.2.2.1 + (1 : Int))), ())))), (((), o3003.2.1.2), (o3003.2.2.1, ()))))
  else
    some (.inr (((), ((), (v.1.2.2.1, ()))), (((), v.2.1.2), (v.2.2.1, ()))))

def ref32_Largest_L1 (c0 : List Int) (c1 : Int) (v : (Unit × Unit × Int × Unit) × (Unit × Int × Unit) × (List Bool) × Unit) : Option (((Unit × Unit × Int × Unit) × (Unit × Int × Unit) × (List Bool) × Unit) ⊕ ((Unit × Unit × Int × Unit) × (Unit × Int × Unit) × (List Bool) × Unit)) :=
  bif (decide (v.1.2.2.1 < c1)) then
    (loopV (ref32_Largest_L2 c0) (((), ((), ((-1 : Int), ((0 : Int), ())))), (((), v.2.1.2), (v.2.2.1, ())))).bind fun o2002 =>
    bif (inb o2002.1.2.2.1 (List.length o2002.2.2.1)) then
      (o2002.2.2.1[(Int.toNat o2002.1.2.2.1)]?).bind fun e2003 =>
      bif (inb o2002.1.2.2.1 (List.length c0)) then
        some (.inl (((), ((), ((IntKind.i64.wrap (v.1.2.2.1 + (rd (.int .i64) c0 o2002.1.2.2.1))), ()))), (((), o2002.2.1.2), ((o2002.2.2.1.set (Int.toNat o2002.1.2.2.1) true), ()))))
      else
        none
    else
      none
  else
    some (.inr (((), ((), (v.1.2.2.1, ()))), (((), v.2.1.2), (v.2.2.1, ()))))

def ref32_Largest_L4 (c0 : List Int) (v : (Unit × Unit × Unit × Int × Unit) × (Unit × Int × Unit) × (List Bool) × (Unit × Int × Unit) × (List Int) × Unit) : Option (((Unit × Unit × Unit × Int × Unit) × (Unit × Int × Unit) × (List Bool) × (Unit × Int × Unit) × (List Int) × Unit) ⊕ ((Unit × Unit × Unit) × (Unit × Int × Unit) × (Unit × Int × Unit) × (List Int) × Unit)) :=
  bif (decide (v.1.2.2.2.1 < (((List.length c0) : Int)))) then
    bif (inb v.1.2.2.2.1 (List.length v.2.2.1)) then
      (v.2.2.1[(Int.toNat v.1.2.2.2.1)]?).bind fun e5003 =>
      bif e5003 then
        let x5004 := ([v.1.2.2.2.1] : List Int)
        bif (decide ((List.length v.2.2.2.2.1) + (List.length x5004) ≤ lim)) then
          some (.inl (((), ((), ((), ((IntKind.i64.wrap (v.1.2.2.2.1 + (1 : Int))), ())))), (((), v.2.1.2), (v.2.2.1, (((), v.2.2.2.1.2), ((v.2.2.2.2.1 ++ x5004), ()))))))
        else
          none
      else
        some (.inl (((), ((), ((), ((IntKind.i64.wrap (v.1.2.2.2.1 + (1 : Int))), ())))), (((), v.2.1.2), (v.2.2.1, (((), v.2.2.2.1.2), (v.2.2.2.2.1, ()))))))
    else
      none
  else
    some (.inr (((), ((), ())), (((), v.2.1.2), (((), v.2.2.2.1.2), (v.2.2.2.2.1, ())))))

/-- lightclient/lightclientref32.Largest -/
def ref32_Largest (a0 : List Int) (a1 : Int) : Option (((Unit × Int × Unit) × Int × Unit) × (List Int) × Unit) :=
  (ref32_proper a0 a1).bind fun r3 =>
  bif (!decide (r3.1.1 = (0 : Int))) then
    some ((((), ((0 : Int), ())), (r3.1.1, ())), (([] : List Int), ()))
  else
    (ref32_sum a0).bind fun r5 =>
    bif (decide (r5.1.1 < a1)) then
      some ((((), ((0 : Int), ())), ((320 : Int), ())), (([] : List Int), ()))
    else
      let x7 := (((List.length a0) : Int))
      bif (decide (0 ≤ x7) && decide (x7 ≤ x7) && decide (x7 ≤ (lim : Int))) then
        (loopV (ref32_Largest_L1 a0 a1) (((), ((), ((0 : Int), ()))), (((), ((0 : Int), ())), ((List.replicate (Int.toNat x7) false), ())))).bind fun o9 =>
        (loopV (ref32_Largest_L4 a0) (((), ((), ((), ((0 : Int), ())))), (((), o9.2.1.2), (o9.2.2.1, (((), (o9.1.2.2.1, ())), (([] : List Int), ())))))).bind fun o10 =>
        some ((((), o10.2.2.1.2), ((0 : Int), ())), (o10.2.2.2.1, ()))
      else
        none

end Go.PE
end
end

section
set_option linter.unusedVariables false
noncomputable section
namespace Go.PE

/-- slices.Clone[[]int,int] -/
def slices_Clone_int_int (a0 : List Int) : Option ((Unit × Unit) × (List Int) × Unit) :=
  bif decide (List.length a0 ≤ lim) then some (((), ()), (a0, ())) else none

def slices_Index_int_int_L1 (c0 : List Int) (c1 : Int) (c7 : Int) (v : (Int × Unit) × Unit) : Option (((Int × Unit) × Unit) ⊕ (((Int × Unit) × Unit) ⊕ ((Unit) × Unit))) :=
  bif (decide (v.1.1 < c7)) then
    bif (inb v.1.1 (List.length c0)) then
      bif (decide (c1 = (rd (.int .i64) c0 v.1.1))) then
        some (.inr (.inl ((v.1.1, ()), ())))
      else
        some (.inl (((IntKind.i64.wrap (v.1.1 + (1 : Int))), ()), ()))
    else
      none
  else
    some (.inr (.inr ((), ())))

/-- slices.Index[[]int,int] -/
def slices_Index_int_int (a0 : List Int) (a1 : Int) : Option ((Int × Unit) × Unit) :=
  (loopV (slices_Index_int_int_L1 a0 a1 (((List.length a0) : Int))) (((0 : Int), ()), ())).bind fun o4 =>
  match o4 with
  | .inl o5 =>
    some ((o5.1.1, ()), ())
  | .inr o6 =>
    some (((-1 : Int), ()), ())

/-- slices.Contains[[]int,int] -/
def slices_Contains_int_int (a0 : List Int) (a1 : Int) : Option ((Bool × Unit) × Unit) :=
  (slices_Index_int_int a0 a1).bind fun r3 =>
  some (((decide ((0 : Int) ≤ r3.1.1)), ()), ())

def math_bits_Len64_J1 (v : (Int × Int × Unit) × Unit) : Option ((Int × Int × Unit) × Unit) :=
  bif (decide ((4294967296 : Int) ≤ v.1.1)) then
    some (((shrI .u64 v.1.1 (32 : Int)), ((32 : Int), ())), ())
  else
    some ((v.1.1, (v.1.2.1, ())), ())

def math_bits_Len64_J2 (v : (Int × Int × Unit) × Unit) : Option ((Int × Int × Unit) × Unit) :=
  bif (decide ((65536 : Int) ≤ v.1.1)) then
    some (((shrI .u64 v.1.1 (16 : Int)), ((IntKind.i64.wrap (v.1.2.1 + (16 : Int))), ())), ())
  else
    some ((v.1.1, (v.1.2.1, ())), ())

def math_bits_Len64_J3 (v : (Int × Int × Unit) × Unit) : Option ((Int × Int × Unit) × Unit) :=
  bif (decide ((256 : Int) ≤ v.1.1)) then
    some (((shrI .u64 v.1.1 (8 : Int)), ((IntKind.i64.wrap (v.1.2.1 + (8 : Int))), ())), ())
  else
    some ((v.1.1, (v.1.2.1, ())), ())

/-- math/bits.Len64 -/
def math_bits_Len64 (a0 : Int) : Option ((Int × Unit) × Unit) :=
  (math_bits_Len64_J1 ((a0, ((0 : Int), ())), ())).bind fun o2 =>
  (math_bits_Len64_J2 ((o2.1.1, (o2.1.2.1, ())), ())).bind fun o3 =>
  (math_bits_Len64_J3 ((o3.1.1, (o3.1.2.1, ())), ())).bind fun o4 =>
  let x5 := (IntKind.u8.wrap (o4.1.1))
  bif (inb x5 (List.length S_0d66ef)) then
    some (((IntKind.i64.wrap (o4.1.2.1 + (IntKind.i64.wrap ((rd (.int .u8) S_0d66ef x5))))), ()), ())
  else
    none

/-- math/bits.Len -/
def math_bits_Len (a0 : Int) : Option ((Int × Unit) × Unit) :=
  (math_bits_Len64 a0).bind fun r2 =>
  some ((r2.1.1, ()), ())

/-- cmp.isNaN[int] -/
def cmp_isNaN_int (a0 : Int) : Option ((Bool × Unit) × Unit) :=
  some (((!decide (a0 = a0)), ()), ())

/-- cmp.Less[int] -/
def cmp_Less_int (a0 : Int) (a1 : Int) : Option ((Bool × Unit) × Unit) :=
  (cmp_isNaN_int a0).bind fun r3 =>
  bif r3.1.1 then
    (cmp_isNaN_int a1).bind fun r4 =>
    bif (!r4.1.1) then
      some ((true, ()), ())
    else
      some (((decide (a0 < a1)), ()), ())
  else
    some (((decide (a0 < a1)), ()), ())

def slices_insertionSortOrdered_int_L2 (c1 : Int) (v : (Unit × Int × Unit) × (List Int) × Unit) : Option (((Unit × Int × Unit) × (List Int) × Unit) ⊕ ((Unit × Unit) × (List Int) × Unit)) :=
  bif (decide (c1 < v.1.2.1)) then
    bif (inb v.1.2.1 (List.length v.2.1)) then
      (v.2.1[(Int.toNat v.1.2.1)]?).bind fun e3002 =>
      let x3003 := (IntKind.i64.wrap (v.1.2.1 - (1 : Int)))
      bif (inb x3003 (List.length v.2.1)) then
        (v.2.1[(Int.toNat x3003)]?).bind fun e3004 =>
        (cmp_Less_int e3002 e3004).bind fun r3005 =>
        bif r3005.1.1 then
          let x3006 := (IntKind.i64.wrap (v.1.2.1 - (1 : Int)))
          let x3007 := (IntKind.i64.wrap (v.1.2.1 - (1 : Int)))
          bif (inb x3007 (List.length v.2.1)) then
            (v.2.1[(Int.toNat x3007)]?).bind fun e3008 =>
            bif (inb v.1.2.1 (List.length v.2.1)) then
              (v.2.1[(Int.toNat v.1.2.1)]?).bind fun e3009 =>
              bif (inb v.1.2.1 (List.length v.2.1)) then
                (v.2.1[(Int.toNat v.1.2.1)]?).bind fun e3010 =>
                let x3011 := (v.2.1.set (Int.toNat v.1.2.1) e3008)
                bif (inb x3006 (List.length x3011)) then
                  (x3011[(Int.toNat x3006)]?).bind fun e3012 =>
                  some (.inl (((), ((IntKind.i64.wrap (v.1.2.1 - (1 : Int))), ())), ((x3011.set (Int.toNat x3006) e3009), ())))
                else
                  none
              else
                none
            else
              none
          else
            none
        else
          some (.inr (((), ()), (v.2.1, ())))
      else
        none
    else
      none
  else
    some (.inr (((), ()), (v.2.1, ())))

def slices_insertionSortOrdered_int_L1 (c1 : Int) (c2 : Int) (v : (Unit × Int × Unit) × (List Int) × Unit) : Option (((Unit × Int × Unit) × (List Int) × Unit) ⊕ ((Unit) × (List Int) × Unit)) :=
  bif (decide (v.1.2.1 < c2)) then
    (loopV (slices_insertionSortOrdered_int_L2 c1) (((), (v.1.2.1, ())), (v.2.1, ()))).bind fun o2002 =>
    some (.inl (((), ((IntKind.i64.wrap (v.1.2.1 + (1 : Int))), ())), (o2002.2.1, ())))
  else
    some (.inr ((), (v.2.1, ())))

/-- slices.insertionSortOrdered[int] -/
def slices_insertionSortOrdered_int (a0 : Int) (a1 : Int) (a2 : List Int) : Option ((Unit) × (List Int) × Unit) :=
  (loopV (slices_insertionSortOrdered_int_L1 a0 a1) (((), ((IntKind.i64.wrap (a0 + (1 : Int))), ())), (a2, ()))).bind fun o5 =>
  some ((), (o5.2.1, ()))

def slices_siftDownOrdered_int_J2 (c2 : Int) (c3 : Int) (v : (Unit × Int × Unit) × (List Int) × Unit) : Option ((Unit × Int × Unit) × (List Int) × Unit) :=
  bif (decide ((IntKind.i64.wrap (v.1.2.1 + (1 : Int))) < c2)) then
    let x3003 := (IntKind.i64.wrap (c3 + v.1.2.1))
    bif (inb x3003 (List.length v.2.1)) then
      (v.2.1[(Int.toNat x3003)]?).bind fun e3004 =>
      let x3006 := (IntKind.i64.wrap ((IntKind.i64.wrap (c3 + v.1.2.1)) + (1 : Int)))
      bif (inb x3006 (List.length v.2.1)) then
        (v.2.1[(Int.toNat x3006)]?).bind fun e3007 =>
        (cmp_Less_int e3004 e3007).bind fun r3008 =>
        bif r3008.1.1 then
          some (((), ((IntKind.i64.wrap (v.1.2.1 + (1 : Int))), ())), (v.2.1, ()))
        else
          some (((), (v.1.2.1, ())), (v.2.1, ()))
      else
        none
    else
      none
  else
    some (((), (v.1.2.1, ())), (v.2.1, ()))

def slices_siftDownOrdered_int_L1 (c2 : Int) (c3 : Int) (v : (Unit × Int × Unit) × (List Int) × Unit) : Option (((Unit × Int × Unit) × (List Int) × Unit) ⊕ (((Unit) × (List Int) × Unit) ⊕ ((Unit) × (List Int) × Unit))) :=
  let x2002 := (IntKind.i64.wrap ((IntKind.i64.wrap ((2 : Int) * v.1.2.1)) + (1 : Int)))
  bif (decide (c2 ≤ x2002)) then
    some (.inr (.inl ((), (v.2.1, ()))))
  else
    (slices_siftDownOrdered_int_J2 c2 c3 (((), (x2002, ())), (v.2.1, ()))).bind fun o2004 =>
    let x2005 := (IntKind.i64.wrap (c3 + v.1.2.1))
    bif (inb x2005 (List.length o2004.2.1)) then
      (o2004.2.1[(Int.toNat x2005)]?).bind fun e2006 =>
      let x2007 := (IntKind.i64.wrap (c3 + o2004.1.2.1))
      bif (inb x2007 (List.length o2004.2.1)) then
        (o2004.2.1[(Int.toNat x2007)]?).bind fun e2008 =>
        (cmp_Less_int e2006 e2008).bind fun r2009 =>
        bif (!r2009.1.1) then
          some (.inr (.inr ((), (o2004.2.1, ()))))
        else
          let x2011 := (IntKind.i64.wrap (c3 + v.1.2.1))
          let x2012 := (IntKind.i64.wrap (c3 + o2004.1.2.1))
          let x2013 := (IntKind.i64.wrap (c3 + o2004.1.2.1))
          bif (inb x2013 (List.length o2004.2.1)) then
            (o2004.2.1[(Int.toNat x2013)]?).bind fun e2014 =>
            let x2015 := (IntKind.i64.wrap (c3 + v.1.2.1))
            bif (inb x2015 (List.length o2004.2.1)) then
              (o2004.2.1[(Int.toNat x2015)]?).bind fun e2016 =>
              bif (inb x2011 (List.length o2004.2.1)) then
                (o2004.2.1[(Int.toNat x2011)]?).bind fun e2017 =>
                let x2018 := (o2004.2.1.set (Int.toNat x2011) e2014)
                bif (inb x2012 (List.length x2018)) then
                  (x2018[(Int.toNat x2012)]?).bind fun e2019 =>
                  some (.inl (((), (o2004.1.2.1, ())), ((x2018.set (Int.toNat x2012) e2016), ())))
                else
                  none
              else
                none
            else
              none
          else
            none
      else
        none
    else
      none

/-- slices.siftDownOrdered[int] -/
def slices_siftDownOrdered_int (a0 : Int) (a1 : Int) (a2 : Int) (a3 : List Int) : Option ((Unit) × (List Int) × Unit) :=
  (loopV (slices_siftDownOrdered_int_L1 a1 a2) (((), (a0, ())), (a3, ()))).bind fun o5 =>
  match o5 with
  | .inl o6 =>
    some ((), (o6.2.1, ()))
  | .inr o7 =>
    some ((), (o7.2.1, ()))

def slices_heapSortOrdered_int_L1 (c6 : Int) (c8 : Int) (v : (Unit × Int × Unit) × (List Int) × Unit) : Option (((Unit × Int × Unit) × (List Int) × Unit) ⊕ ((Unit × Unit) × (List Int) × Unit)) :=
  bif (decide ((0 : Int) ≤ v.1.2.1)) then
    (slices_siftDownOrdered_int v.1.2.1 c8 c6 v.2.1).bind fun r2002 =>
    some (.inl (((), ((IntKind.i64.wrap (v.1.2.1 - (1 : Int))), ())), (r2002.2.1, ())))
  else
    some (.inr (((), ()), (v.2.1, ())))

def slices_heapSortOrdered_int_L2 (c6 : Int) (c7 : Int) (v : (Unit × Int × Unit) × (List Int) × Unit) : Option (((Unit × Int × Unit) × (List Int) × Unit) ⊕ ((Unit) × (List Int) × Unit)) :=
  bif (decide ((0 : Int) ≤ v.1.2.1)) then
    let x3002 := (IntKind.i64.wrap (c6 + v.1.2.1))
    let x3003 := (IntKind.i64.wrap (c6 + v.1.2.1))
    bif (inb x3003 (List.length v.2.1)) then
      (v.2.1[(Int.toNat x3003)]?).bind fun e3004 =>
      bif (inb c6 (List.length v.2.1)) then
        (v.2.1[(Int.toNat c6)]?).bind fun e3005 =>
        bif (inb c6 (List.length v.2.1)) then
          (v.2.1[(Int.toNat c6)]?).bind fun e3006 =>
          let x3007 := (v.2.1.set (Int.toNat c6) e3004)
          bif (inb x3002 (List.length x3007)) then
            (x3007[(Int.toNat x3002)]?).bind fun e3008 =>
            (slices_siftDownOrdered_int c7 v.1.2.1 c6 (x3007.set (Int.toNat x3002) e3005)).bind fun r3010 =>
            some (.inl (((), ((IntKind.i64.wrap (v.1.2.1 - (1 : Int))), ())), (r3010.2.1, ())))
          else
            none
        else
          none
      else
        none
    else
      none
  else
    some (.inr ((), (v.2.1, ())))

/-- slices.heapSortOrdered[int] -/
def slices_heapSortOrdered_int (a0 : Int) (a1 : Int) (a2 : List Int) : Option ((Unit) × (List Int) × Unit) :=
  let x4 := (IntKind.i64.wrap (a1 - a0))
  (loopV (slices_heapSortOrdered_int_L1 a0 x4) (((), ((IntKind.i64.wrap (Int.tdiv (IntKind.i64.wrap (x4 - (1 : Int))) (2 : Int))), ())), (a2, ()))).bind fun o7 =>
  (loopV (slices_heapSortOrdered_int_L2 a0 (0 : Int)) (((), ((IntKind.i64.wrap (x4 - (1 : Int))), ())), (o7.2.1, ()))).bind fun o9 =>
  some ((), (o9.2.1, ()))

/-- slices.nextPowerOfTwo -/
def slices_nextPowerOfTwo (a0 : Int) : Option ((Int × Unit) × Unit) :=
  (math_bits_Len (IntKind.u64.wrap (a0))).bind fun r3 =>
  bif (decide (r3.1.1 < 0)) then
    none
  else
    some (((shlI .u64 (1 : Int) r3.1.1), ()), ())

/-- (*slices.xorshift).Next -/
def slices_xorshift_Next (a0 : Int) : Option ((Int × Unit) × Int × Unit) :=
  let x3 := (bitI .xor .u64 a0 (shlI .u64 a0 (13 : Int)))
  let x5 := (bitI .xor .u64 x3 (shrI .u64 x3 (7 : Int)))
  let x7 := (bitI .xor .u64 x5 (shlI .u64 x5 (17 : Int)))
  some ((x7, ()), (x7, ()))

def slices_breakPatternsOrdered_int_J2 (c6 : Int) (v : (Unit × Unit × Int × Unit) × (List Int) × Int × Unit) : Option ((Unit × Unit × Int × Unit) × (List Int) × Int × Unit) :=
  bif (decide (c6 ≤ v.1.2.2.1)) then
    some (((), ((), ((IntKind.i64.wrap (v.1.2.2.1 - c6)), ()))), (v.2.1, (v.2.2.1, ())))
  else
    some (((), ((), (v.1.2.2.1, ()))), (v.2.1, (v.2.2.1, ())))

def slices_breakPatternsOrdered_int_L1 (c1 : Int) (c6 : Int) (c8 : Int) (v : (Unit × Unit × Int × Unit) × (List Int) × Int × Unit) : Option (((Unit × Unit × Int × Unit) × (List Int) × Int × Unit) ⊕ ((Unit) × (List Int) × Unit)) :=
  bif (decide (v.1.2.2.1 ≤ (IntKind.i64.wrap ((IntKind.i64.wrap (c1 + (IntKind.i64.wrap ((IntKind.i64.wrap (Int.tdiv c6 (4 : Int))) * (2 : Int))))) + (1 : Int))))) then
    (slices_xorshift_Next v.2.2.1).bind fun r2006 =>
    (slices_breakPatternsOrdered_int_J2 c6 (((), ((), ((IntKind.i64.wrap ((bitI .and .u64 r2006.1.1 (IntKind.u64.wrap (c8 - (1 : Int)))))), ()))), (v.2.1, (r2006.2.1, ())))).bind fun o2010 =>
    let x2011 := (IntKind.i64.wrap (c1 + o2010.1.2.2.1))
    let x2012 := (IntKind.i64.wrap (c1 + o2010.1.2.2.1))
    bif (inb x2012 (List.length o2010.2.1)) then
      (o2010.2.1[(Int.toNat x2012)]?).bind fun e2013 =>
      bif (inb v.1.2.2.1 (List.length o2010.2.1)) then
        (o2010.2.1[(Int.toNat v.1.2.2.1)]?).bind fun e2014 =>
        bif (inb v.1.2.2.1 (List.length o2010.2.1)) then
          (o2010.2.1[(Int.toNat v.1.2.2.1)]?).bind fun e2015 =>
          let x2016 := (o2010.2.1.set (Int.toNat v.1.2.2.1) e2013)
          bif (inb x2011 (List.length x2016)) then
            (x2016[(Int.toNat x2011)]?).bind fun e2017 =>
            some (.inl (((), ((), ((IntKind.i64.wrap (v.1.2.2.1 + (1 : Int))), ()))), ((x2016.set (Int.toNat x2011) e2014), (o2010.2.2.1, ()))))
          else
            none
        else
          none
      else
        none
    else
      none
  else
    some (.inr ((), (v.2.1, ())))

/-- slices.breakPatternsOrdered[int] -/
def slices_breakPatternsOrdered_int (a0 : Int) (a1 : Int) (a2 : List Int) : Option ((Unit) × (List Int) × Unit) :=
  let x4 := (IntKind.i64.wrap (a1 - a0))
  bif (decide ((8 : Int) ≤ x4)) then
    (slices_nextPowerOfTwo x4).bind fun r7 =>
    (loopV (slices_breakPatternsOrdered_int_L1 a0 x4 r7.1.1) (((), ((), ((IntKind.i64.wrap ((IntKind.i64.wrap (a0 + (IntKind.i64.wrap ((IntKind.i64.wrap (Int.tdiv x4 (4 : Int))) * (2 : Int))))) - (1 : Int))), ()))), (a2, ((IntKind.u64.wrap (x4)), ())))).bind fun o12 =>
    some ((), (o12.2.1, ()))
  else
    some ((), (a2, ()))

/-- slices.order2Ordered[int] -/
def slices_order2Ordered_int (a0 : List Int) (a1 : Int) (a2 : Int) (a3 : Int) : Option ((Int × Int × Unit) × Int × Unit) :=
  bif (inb a2 (List.length a0)) then
    bif (inb a1 (List.length a0)) then
      (cmp_Less_int (rd (.int .i64) a0 a2) (rd (.int .i64) a0 a1)).bind fun r7 =>
      bif r7.1.1 then
        some ((a2, (a1, ())), ((IntKind.i64.wrap (a3 + (1 : Int))), ()))
      else
        some ((a1, (a2, ())), (a3, ()))
    else
      none
  else
    none

/-- slices.medianOrdered[int] -/
def slices_medianOrdered_int (a0 : List Int) (a1 : Int) (a2 : Int) (a3 : Int) (a4 : Int) : Option ((Int × Unit) × Int × Unit) :=
  (slices_order2Ordered_int a0 a1 a2 a4).bind fun r6 =>
  (slices_order2Ordered_int a0 r6.1.2.1 a3 r6.2.1).bind fun r7 =>
  (slices_order2Ordered_int a0 r6.1.1 r7.1.1 r7.2.1).bind fun r8 =>
  some ((r8.1.2.1, ()), (r8.2.1, ()))

/-- slices.medianAdjacentOrdered[int] -/
def slices_medianAdjacentOrdered_int (a0 : List Int) (a1 : Int) (a2 : Int) : Option ((Int × Unit) × Int × Unit) :=
  (slices_medianOrdered_int a0 (IntKind.i64.wrap (a1 - (1 : Int))) a1 (IntKind.i64.wrap (a1 + (1 : Int))) a2).bind fun r6 =>
  some ((r6.1.1, ()), (r6.2.1, ()))

def slices_choosePivotOrdered_int_J2 (c0 : List Int) (c8 : Int) (v : (Unit × Int × Int × Int × Unit) × Int × Unit) : Option ((Unit × Int × Int × Int × Unit) × Int × Unit) :=
  bif (decide ((50 : Int) ≤ c8)) then
    (slices_medianAdjacentOrdered_int c0 v.1.2.1 v.2.1).bind fun r3002 =>
    (slices_medianAdjacentOrdered_int c0 v.1.2.2.1 r3002.2.1).bind fun r3003 =>
    (slices_medianAdjacentOrdered_int c0 v.1.2.2.2.1 r3003.2.1).bind fun r3004 =>
    some (((), (r3002.1.1, (r3003.1.1, (r3004.1.1, ())))), (r3004.2.1, ()))
  else
    some (((), (v.1.2.1, (v.1.2.2.1, (v.1.2.2.2.1, ())))), (v.2.1, ()))

def slices_choosePivotOrdered_int_J1 (c0 : List Int) (c8 : Int) (v : (Unit × Int × Int × Int × Unit) × Int × Unit) : Option ((Unit × Int × Unit) × Int × Unit) :=
  bif (decide ((8 : Int) ≤ c8)) then
    (slices_choosePivotOrdered_int_J2 c0 c8 (((), (v.1.2.1, (v.1.2.2.1, (v.1.2.2.2.1, ())))), (v.2.1, ()))).bind fun o2002 =>
    (slices_medianOrdered_int c0 o2002.1.2.1 o2002.1.2.2.1 o2002.1.2.2.2.1 o2002.2.1).bind fun r2003 =>
    some (((), (r2003.1.1, ())), (r2003.2.1, ()))
  else
    some (((), (v.1.2.2.1, ())), (v.2.1, ()))

/-- slices.choosePivotOrdered[int] -/
def slices_choosePivotOrdered_int (a0 : List Int) (a1 : Int) (a2 : Int) : Option ((Int × Int × Unit) × Unit) :=
  let x4 := (IntKind.i64.wrap (a2 - a1))
  (slices_choosePivotOrdered_int_J1 a0 x4 (((), ((IntKind.i64.wrap (a1 + (IntKind.i64.wrap ((IntKind.i64.wrap (Int.tdiv x4 (4 : Int))) * (1 : Int))))), ((IntKind.i64.wrap (a1 + (IntKind.i64.wrap ((IntKind.i64.wrap (Int.tdiv x4 (4 : Int))) * (2 : Int))))), ((IntKind.i64.wrap (a1 + (IntKind.i64.wrap ((IntKind.i64.wrap (Int.tdiv x4 (4 : Int))) * (3 : Int))))), ())))), ((0 : Int), ()))).bind fun o14 =>
  bif (decide (o14.2.1 = (0 : Int))) then
    some ((o14.1.2.1, ((1 : Int), ())), ())
  else
    bif (decide (o14.2.1 = (12 : Int))) then
      some ((o14.1.2.1, ((2 : Int), ())), ())
    else
      some ((o14.1.2.1, ((0 : Int), ())), ())

def slices_reverseRangeOrdered_int_L1 (v : (Unit × Int × Int × Unit) × (List Int) × Unit) : Option (((Unit × Int × Int × Unit) × (List Int) × Unit) ⊕ ((Unit) × (List Int) × Unit)) :=
  bif (decide (v.1.2.1 < v.1.2.2.1)) then
    bif (inb v.1.2.2.1 (List.length v.2.1)) then
      (v.2.1[(Int.toNat v.1.2.2.1)]?).bind fun e2002 =>
      bif (inb v.1.2.1 (List.length v.2.1)) then
        (v.2.1[(Int.toNat v.1.2.1)]?).bind fun e2003 =>
        bif (inb v.1.2.1 (List.length v.2.1)) then
          (v.2.1[(Int.toNat v.1.2.1)]?).bind fun e2004 =>
          let x2005 := (v.2.1.set (Int.toNat v.1.2.1) e2002)
          bif (inb v.1.2.2.1 (List.length x2005)) then
            (x2005[(Int.toNat v.1.2.2.1)]?).bind fun e2006 =>
            some (.inl (((), ((IntKind.i64.wrap (v.1.2.1 + (1 : Int))), ((IntKind.i64.wrap (v.1.2.2.1 - (1 : Int))), ()))), ((x2005.set (Int.toNat v.1.2.2.1) e2003), ())))
          else
            none
        else
          none
      else
        none
    else
      none
  else
    some (.inr ((), (v.2.1, ())))

/-- slices.reverseRangeOrdered[int] -/
def slices_reverseRangeOrdered_int (a0 : Int) (a1 : Int) (a2 : List Int) : Option ((Unit) × (List Int) × Unit) :=
  (loopV (slices_reverseRangeOrdered_int_L1) (((), (a0, ((IntKind.i64.wrap (a1 - (1 : Int))), ()))), (a2, ()))).bind fun o5 =>
  some ((), (o5.2.1, ()))

def slices_partialInsertionSortOrdered_int_L4 (v : (Unit × Int × Unit) × (List Int) × Unit) : Option (((Unit × Int × Unit) × (List Int) × Unit) ⊕ ((Unit × Unit) × (List Int) × Unit)) :=
  bif (decide ((1 : Int) ≤ v.1.2.1)) then
    bif (inb v.1.2.1 (List.length v.2.1)) then
      (v.2.1[(Int.toNat v.1.2.1)]?).bind fun e5002 =>
      let x5003 := (IntKind.i64.wrap (v.1.2.1 - (1 : Int)))
      bif (inb x5003 (List.length v.2.1)) then
        (v.2.1[(Int.toNat x5003)]?).bind fun e5004 =>
        (cmp_Less_int e5002 e5004).bind fun r5005 =>
        bif (!r5005.1.1) then
          some (.inr (((), ()), (v.2.1, ())))
        else
          let x5007 := (IntKind.i64.wrap (v.1.2.1 - (1 : Int)))
          let x5008 := (IntKind.i64.wrap (v.1.2.1 - (1 : Int)))
          bif (inb x5008 (List.length v.2.1)) then
            (v.2.1[(Int.toNat x5008)]?).bind fun e5009 =>
            bif (inb v.1.2.1 (List.length v.2.1)) then
              (v.2.1[(Int.toNat v.1.2.1)]?).bind fun e5010 =>
              bif (inb v.1.2.1 (List.length v.2.1)) then
                (v.2.1[(Int.toNat v.1.2.1)]?).bind fun e5011 =>
                let x5012 := (v.2.1.set (Int.toNat v.1.2.1) e5009)
                bif (inb x5007 (List.length x5012)) then
                  (x5012[(Int.toNat x5007)]?).bind fun e5013 =>
                  some (.inl (((), ((IntKind.i64.wrap (v.1.2.1 - (1 : Int))), ())), ((x5012.set (Int.toNat x5007) e5010), ())))
                else
                  none
              else
                none
            else
              none
          else
            none
      else
        none
    else
      none
  else
    some (.inr (((), ()), (v.2.1, ())))

def slices_partialInsertionSortOrdered_int_J3 (c1 : Int) (c7 : Int) (v : (Unit × Unit) × (List Int) × Unit) : Option ((Unit × Unit) × (List Int) × Unit) :=
  bif (decide ((2 : Int) ≤ (IntKind.i64.wrap (c7 - c1)))) then
    (loopV (slices_partialInsertionSortOrdered_int_L4) (((), ((IntKind.i64.wrap (c7 - (1 : Int))), ())), (v.2.1, ()))).bind fun o4004 =>
    some (((), ()), (o4004.2.1, ()))
  else
    some (((), ()), (v.2.1, ()))

def slices_partialInsertionSortOrdered_int_L2 (c2 : Int) (v : (Unit × Int × Unit) × (List Int) × Unit) : Option (((Unit × Int × Unit) × (List Int) × Unit) ⊕ ((Unit × Int × Unit) × (List Int) × Unit)) :=
  bif (decide (v.1.2.1 < c2)) then
    bif (inb v.1.2.1 (List.length v.2.1)) then
      (v.2.1[(Int.toNat v.1.2.1)]?).bind fun e3002 =>
      let x3003 := (IntKind.i64.wrap (v.1.2.1 - (1 : Int)))
      bif (inb x3003 (List.length v.2.1)) then
        (v.2.1[(Int.toNat x3003)]?).bind fun e3004 =>
        (cmp_Less_int e3002 e3004).bind fun r3005 =>
        bif (!r3005.1.1) then
          some (.inl (((), ((IntKind.i64.wrap (v.1.2.1 + (1 : Int))), ())), (v.2.1, ())))
        else
          some (.inr (((), (v.1.2.1, ())), (v.2.1, ())))
      else
        none
    else
      none
  else
    some (.inr (((), (v.1.2.1, ())), (v.2.1, ())))

def slices_partialInsertionSortOrdered_int_L5 (c2 : Int) (v : (Unit × Int × Unit) × (List Int) × Unit) : Option (((Unit × Int × Unit) × (List Int) × Unit) ⊕ ((Unit × Unit) × (List Int) × Unit)) :=
  bif (decide (v.1.2.1 < c2)) then
    bif (inb v.1.2.1 (List.length v.2.1)) then
      (v.2.1[(Int.toNat v.1.2.1)]?).bind fun e6002 =>
      let x6003 := (IntKind.i64.wrap (v.1.2.1 - (1 : Int)))
      bif (inb x6003 (List.length v.2.1)) then
        (v.2.1[(Int.toNat x6003)]?).bind fun e6004 =>
        (cmp_Less_int e6002 e6004).bind fun r6005 =>
        bif (!r6005.1.1) then
          some (.inr (((), ()), (v.2.1, ())))
        else
          let x6007 := (IntKind.i64.wrap (v.1.2.1 - (1 : Int)))
          let x6008 := (IntKind.i64.wrap (v.1.2.1 - (1 : Int)))
          bif (inb x6008 (List.length v.2.1)) then
            (v.2.1[(Int.toNat x6008)]?).bind fun e6009 =>
            bif (inb v.1.2.1 (List.length v.2.1)) then
              (v.2.1[(Int.toNat v.1.2.1)]?).bind fun e6010 =>
              bif (inb v.1.2.1 (List.length v.2.1)) then
                (v.2.1[(Int.toNat v.1.2.1)]?).bind fun e6011 =>
                let x6012 := (v.2.1.set (Int.toNat v.1.2.1) e6009)
                bif (inb x6007 (List.length x6012)) then
                  (x6012[(Int.toNat x6007)]?).bind fun e6013 =>
                  some (.inl (((), ((IntKind.i64.wrap (v.1.2.1 + (1 : Int))), ())), ((x6012.set (Int.toNat x6007) e6010), ())))
                else
                  none
              else
                none
            else
              none
          else
            none
      else
        none
    else
      none
  else
    some (.inr (((), ()), (v.2.1, ())))

def slices_partialInsertionSortOrdered_int_L1 (c1 : Int) (c2 : Int) (v : (Unit × Int × Int × Unit) × (List Int) × Unit) : Option (((Unit × Int × Int × Unit) × (List Int) × Unit) ⊕ (((Bool × Unit) × (List Int) × Unit) ⊕ ((Unit) × (List Int) × Unit))) :=
  bif (decide (v.1.2.2.1 < (5 : Int))) then
    (loopV (slices_partialInsertionSortOrdered_int_L2 c2) (((), (v.1.2.1, ())), (v.2.1, ()))).bind fun o2002 =>
    bif (decide (o2002.1.2.1 = c2)) then
      some (.inr (.inl ((true, ()), (o2002.2.1, ()))))
    else
      bif (decide ((IntKind.i64.wrap (c2 - c1)) < (50 : Int))) then
        some (.inr (.inl ((false, ()), (o2002.2.1, ()))))
      else
        let x2006 := (IntKind.i64.wrap (o2002.1.2.1 - (1 : Int)))
        let x2007 := (IntKind.i64.wrap (o2002.1.2.1 - (1 : Int)))
        bif (inb x2007 (List.length o2002.2.1)) then
          (o2002.2.1[(Int.toNat x2007)]?).bind fun e2008 =>
          bif (inb o2002.1.2.1 (List.length o2002.2.1)) then
            (o2002.2.1[(Int.toNat o2002.1.2.1)]?).bind fun e2009 =>
            bif (inb o2002.1.2.1 (List.length o2002.2.1)) then
              (o2002.2.1[(Int.toNat o2002.1.2.1)]?).bind fun e2010 =>
              let x2011 := (o2002.2.1.set (Int.toNat o2002.1.2.1) e2008)
              bif (inb x2006 (List.length x2011)) then
                (x2011[(Int.toNat x2006)]?).bind fun e2012 =>
                (slices_partialInsertionSortOrdered_int_J3 c1 o2002.1.2.1 (((), ()), ((x2011.set (Int.toNat x2006) e2009), ()))).bind fun o2014 =>
                bif (decide ((2 : Int) ≤ (IntKind.i64.wrap (c2 - o2002.1.2.1)))) then
                  (loopV (slices_partialInsertionSortOrdered_int_L5 c2) (((), ((IntKind.i64.wrap (o2002.1.2.1 + (1 : Int))), ())), (o2014.2.1, ()))).bind fun o2018 =>
                  some (.inl (((), (o2002.1.2.1, ((IntKind.i64.wrap (v.1.2.2.1 + (1 : Int))), ()))), (o2018.2.1, ())))
                else
                  some (.inl (((), (o2002.1.2.1, ((IntKind.i64.wrap (v.1.2.2.1 + (1 : Int))), ()))), (o2014.2.1, ())))
              else
                none
            else
              none
          else
            none
        else
          none
  else
    some (.inr (.inr ((), (v.2.1, ()))))

/-- slices.partialInsertionSortOrdered[int] -/
def slices_partialInsertionSortOrdered_int (a0 : Int) (a1 : Int) (a2 : List Int) : Option ((Bool × Unit) × (List Int) × Unit) :=
  (loopV (slices_partialInsertionSortOrdered_int_L1 a0 a1) (((), ((IntKind.i64.wrap (a0 + (1 : Int))), ((0 : Int), ()))), (a2, ()))).bind fun o5 =>
  match o5 with
  | .inl o6 =>
    some ((o6.1.1, ()), (o6.2.1, ()))
  | .inr o7 =>
    some ((false, ()), (o7.2.1, ()))

def slices_partitionEqualOrdered_int_L2 (c1 : Int) (c10 : Int) (v : (Unit × Int × Unit) × (List Int) × Unit) : Option (((Unit × Int × Unit) × (List Int) × Unit) ⊕ ((Unit × Int × Unit) × (List Int) × Unit)) :=
  bif (decide (v.1.2.1 ≤ c10)) then
    bif (inb c1 (List.length v.2.1)) then
      (v.2.1[(Int.toNat c1)]?).bind fun e3002 =>
      bif (inb v.1.2.1 (List.length v.2.1)) then
        (v.2.1[(Int.toNat v.1.2.1)]?).bind fun e3003 =>
        (cmp_Less_int e3002 e3003).bind fun r3004 =>
        bif (!r3004.1.1) then
          some (.inl (((), ((IntKind.i64.wrap (v.1.2.1 + (1 : Int))), ())), (v.2.1, ())))
        else
          some (.inr (((), (v.1.2.1, ())), (v.2.1, ())))
      else
        none
    else
      none
  else
    some (.inr (((), (v.1.2.1, ())), (v.2.1, ())))

def slices_partitionEqualOrdered_int_L3 (c1 : Int) (c9 : Int) (v : (Unit × Int × Unit) × (List Int) × Unit) : Option (((Unit × Int × Unit) × (List Int) × Unit) ⊕ ((Unit × Int × Unit) × (List Int) × Unit)) :=
  bif (decide (c9 ≤ v.1.2.1)) then
    bif (inb c1 (List.length v.2.1)) then
      (v.2.1[(Int.toNat c1)]?).bind fun e4002 =>
      bif (inb v.1.2.1 (List.length v.2.1)) then
        (v.2.1[(Int.toNat v.1.2.1)]?).bind fun e4003 =>
        (cmp_Less_int e4002 e4003).bind fun r4004 =>
        bif r4004.1.1 then
          some (.inl (((), ((IntKind.i64.wrap (v.1.2.1 - (1 : Int))), ())), (v.2.1, ())))
        else
          some (.inr (((), (v.1.2.1, ())), (v.2.1, ())))
      else
        none
    else
      none
  else
    some (.inr (((), (v.1.2.1, ())), (v.2.1, ())))

def slices_partitionEqualOrdered_int_L1 (c1 : Int) (v : (Unit × Int × Int × Unit) × (List Int) × Unit) : Option (((Unit × Int × Int × Unit) × (List Int) × Unit) ⊕ ((Int × Unit) × (List Int) × Unit)) :=
  (loopV (slices_partitionEqualOrdered_int_L2 c1 v.1.2.2.1) (((), (v.1.2.1, ())), (v.2.1, ()))).bind fun o2001 =>
  (loopV (slices_partitionEqualOrdered_int_L3 c1 o2001.1.2.1) (((), (v.1.2.2.1, ())), (o2001.2.1, ()))).bind fun o2002 =>
  bif (decide (o2002.1.2.1 < o2001.1.2.1)) then
    some (.inr ((o2001.1.2.1, ()), (o2002.2.1, ())))
  else
    bif (inb o2002.1.2.1 (List.length o2002.2.1)) then
      (o2002.2.1[(Int.toNat o2002.1.2.1)]?).bind fun e2004 =>
      bif (inb o2001.1.2.1 (List.length o2002.2.1)) then
        (o2002.2.1[(Int.toNat o2001.1.2.1)]?).bind fun e2005 =>
        bif (inb o2001.1.2.1 (List.length o2002.2.1)) then
          (o2002.2.1[(Int.toNat o2001.1.2.1)]?).bind fun e2006 =>
          let x2007 := (o2002.2.1.set (Int.toNat o2001.1.2.1) e2004)
          bif (inb o2002.1.2.1 (List.length x2007)) then
            (x2007[(Int.toNat o2002.1.2.1)]?).bind fun e2008 =>
            some (.inl (((), ((IntKind.i64.wrap (o2001.1.2.1 + (1 : Int))), ((IntKind.i64.wrap (o2002.1.2.1 - (1 : Int))), ()))), ((x2007.set (Int.toNat o2002.1.2.1) e2005), ())))
          else
            none
        else
          none
      else
        none
    else
      none

/-- slices.partitionEqualOrdered[int] -/
def slices_partitionEqualOrdered_int (a0 : Int) (a1 : Int) (a2 : Int) (a3 : List Int) : Option ((Int × Unit) × (List Int) × Unit) :=
  bif (inb a2 (List.length a3)) then
    (a3[(Int.toNat a2)]?).bind fun e5 =>
    bif (inb a0 (List.length a3)) then
      (a3[(Int.toNat a0)]?).bind fun e6 =>
      bif (inb a0 (List.length a3)) then
        (a3[(Int.toNat a0)]?).bind fun e7 =>
        let x8 := (a3.set (Int.toNat a0) e5)
        bif (inb a2 (List.length x8)) then
          (x8[(Int.toNat a2)]?).bind fun e9 =>
          (loopV (slices_partitionEqualOrdered_int_L1 a0) (((), ((IntKind.i64.wrap (a0 + (1 : Int))), ((IntKind.i64.wrap (a1 - (1 : Int))), ()))), ((x8.set (Int.toNat a2) e6), ()))).bind fun o13 =>
          some ((o13.1.1, ()), (o13.2.1, ()))
        else
          none
      else
        none
    else
      none
  else
    none

def slices_partitionOrdered_int_L1 (c1 : Int) (c11 : Int) (v : (Unit × Int × Unit) × (List Int) × Unit) : Option (((Unit × Int × Unit) × (List Int) × Unit) ⊕ ((Unit × Int × Unit) × (List Int) × Unit)) :=
  bif (decide (v.1.2.1 ≤ c11)) then
    bif (inb v.1.2.1 (List.length v.2.1)) then
      (v.2.1[(Int.toNat v.1.2.1)]?).bind fun e2002 =>
      bif (inb c1 (List.length v.2.1)) then
        (v.2.1[(Int.toNat c1)]?).bind fun e2003 =>
        (cmp_Less_int e2002 e2003).bind fun r2004 =>
        bif r2004.1.1 then
          some (.inl (((), ((IntKind.i64.wrap (v.1.2.1 + (1 : Int))), ())), (v.2.1, ())))
        else
          some (.inr (((), (v.1.2.1, ())), (v.2.1, ())))
      else
        none
    else
      none
  else
    some (.inr (((), (v.1.2.1, ())), (v.2.1, ())))

def slices_partitionOrdered_int_L2 (c1 : Int) (c10 : Int) (v : (Unit × Int × Unit) × (List Int) × Unit) : Option (((Unit × Int × Unit) × (List Int) × Unit) ⊕ ((Unit × Int × Unit) × (List Int) × Unit)) :=
  bif (decide (c10 ≤ v.1.2.1)) then
    bif (inb v.1.2.1 (List.length v.2.1)) then
      (v.2.1[(Int.toNat v.1.2.1)]?).bind fun e3002 =>
      bif (inb c1 (List.length v.2.1)) then
        (v.2.1[(Int.toNat c1)]?).bind fun e3003 =>
        (cmp_Less_int e3002 e3003).bind fun r3004 =>
        bif (!r3004.1.1) then
          some (.inl (((), ((IntKind.i64.wrap (v.1.2.1 - (1 : Int))), ())), (v.2.1, ())))
        else
          some (.inr (((), (v.1.2.1, ())), (v.2.1, ())))
      else
        none
    else
      none
  else
    some (.inr (((), (v.1.2.1, ())), (v.2.1, ())))

def slices_partitionOrdered_int_L4 (c1 : Int) (c11 : Int) (v : (Unit × Int × Unit) × (List Int) × Unit) : Option (((Unit × Int × Unit) × (List Int) × Unit) ⊕ ((Unit × Int × Unit) × (List Int) × Unit)) :=
  bif (decide (v.1.2.1 ≤ c11)) then
    bif (inb v.1.2.1 (List.length v.2.1)) then
      (v.2.1[(Int.toNat v.1.2.1)]?).bind fun e5002 =>
      bif (inb c1 (List.length v.2.1)) then
        (v.2.1[(Int.toNat c1)]?).bind fun e5003 =>
        (cmp_Less_int e5002 e5003).bind fun r5004 =>
        bif r5004.1.1 then
          some (.inl (((), ((IntKind.i64.wrap (v.1.2.1 + (1 : Int))), ())), (v.2.1, ())))
        else
          some (.inr (((), (v.1.2.1, ())), (v.2.1, ())))
      else
        none
    else
      none
  else
    some (.inr (((), (v.1.2.1, ())), (v.2.1, ())))

def slices_partitionOrdered_int_L5 (c1 : Int) (c10 : Int) (v : (Unit × Int × Unit) × (List Int) × Unit) : Option (((Unit × Int × Unit) × (List Int) × Unit) ⊕ ((Unit × Int × Unit) × (List Int) × Unit)) :=
  bif (decide (c10 ≤ v.1.2.1)) then
    bif (inb v.1.2.1 (List.length v.2.1)) then
      (v.2.1[(Int.toNat v.1.2.1)]?).bind fun e6002 =>
      bif (inb c1 (List.length v.2.1)) then
        (v.2.1[(Int.toNat c1)]?).bind fun e6003 =>
        (cmp_Less_int e6002 e6003).bind fun r6004 =>
        bif (!r6004.1.1) then
          some (.inl (((), ((IntKind.i64.wrap (v.1.2.1 - (1 : Int))), ())), (v.2.1, ())))
        else
          some (.inr (((), (v.1.2.1, ())), (v.2.1, ())))
      else
        none
    else
      none
  else
    some (.inr (((), (v.1.2.1, ())), (v.2.1, ())))

def slices_partitionOrdered_int_L3 (c1 : Int) (v : (Unit × Int × Int × Unit) × (List Int) × Unit) : Option (((Unit × Int × Int × Unit) × (List Int) × Unit) ⊕ ((Unit × Int × Unit) × (List Int) × Unit)) :=
  (loopV (slices_partitionOrdered_int_L4 c1 v.1.2.2.1) (((), (v.1.2.1, ())), (v.2.1, ()))).bind fun o4001 =>
  (loopV (slices_partitionOrdered_int_L5 c1 o4001.1.2.1) (((), (v.1.2.2.1, ())), (o4001.2.1, ()))).bind fun o4002 =>
  bif (decide (o4002.1.2.1 < o4001.1.2.1)) then
    some (.inr (((), (o4002.1.2.1, ())), (o4002.2.1, ())))
  else
    bif (inb o4002.1.2.1 (List.length o4002.2.1)) then
      (o4002.2.1[(Int.toNat o4002.1.2.1)]?).bind fun e4004 =>
      bif (inb o4001.1.2.1 (List.length o4002.2.1)) then
        (o4002.2.1[(Int.toNat o4001.1.2.1)]?).bind fun e4005 =>
        bif (inb o4001.1.2.1 (List.length o4002.2.1)) then
          (o4002.2.1[(Int.toNat o4001.1.2.1)]?).bind fun e4006 =>
          let x4007 := (o4002.2.1.set (Int.toNat o4001.1.2.1) e4004)
          bif (inb o4002.1.2.1 (List.length x4007)) then
            (x4007[(Int.toNat o4002.1.2.1)]?).bind fun e4008 =>
            some (.inl (((), ((IntKind.i64.wrap (o4001.1.2.1 + (1 : Int))), ((IntKind.i64.wrap (o4002.1.2.1 - (1 : Int))), ()))), ((x4007.set (Int.toNat o4002.1.2.1) e4005), ())))
          else
            none
        else
          none
      else
        none
    else
      none

/-- slices.partitionOrdered[int] -/
def slices_partitionOrdered_int (a0 : Int) (a1 : Int) (a2 : Int) (a3 : List Int) : Option ((Int × Bool × Unit) × (List Int) × Unit) :=
  bif (inb a2 (List.length a3)) then
    (a3[(Int.toNat a2)]?).bind fun e5 =>
    bif (inb a0 (List.length a3)) then
      (a3[(Int.toNat a0)]?).bind fun e6 =>
      bif (inb a0 (List.length a3)) then
        (a3[(Int.toNat a0)]?).bind fun e7 =>
        let x8 := (a3.set (Int.toNat a0) e5)
        bif (inb a2 (List.length x8)) then
          (x8[(Int.toNat a2)]?).bind fun e9 =>
          let x12 := (IntKind.i64.wrap (a1 - (1 : Int)))
          (loopV (slices_partitionOrdered_int_L1 a0 x12) (((), ((IntKind.i64.wrap (a0 + (1 : Int))), ())), ((x8.set (Int.toNat a2) e6), ()))).bind fun o13 =>
          (loopV (slices_partitionOrdered_int_L2 a0 o13.1.2.1) (((), (x12, ())), (o13.2.1, ()))).bind fun o14 =>
          bif (decide (o14.1.2.1 < o13.1.2.1)) then
            bif (inb a0 (List.length o14.2.1)) then
              (o14.2.1[(Int.toNat a0)]?).bind fun e16 =>
              bif (inb o14.1.2.1 (List.length o14.2.1)) then
                (o14.2.1[(Int.toNat o14.1.2.1)]?).bind fun e17 =>
                bif (inb o14.1.2.1 (List.length o14.2.1)) then
                  (o14.2.1[(Int.toNat o14.1.2.1)]?).bind fun e18 =>
                  let x19 := (o14.2.1.set (Int.toNat o14.1.2.1) e16)
                  bif (inb a0 (List.length x19)) then
                    (x19[(Int.toNat a0)]?).bind fun e20 =>
                    some ((o14.1.2.1, (true, ())), ((x19.set (Int.toNat a0) e17), ()))
                  else
                    none
                else
                  none
              else
                none
            else
              none
          else
            bif (inb o14.1.2.1 (List.length o14.2.1)) then
              (o14.2.1[(Int.toNat o14.1.2.1)]?).bind fun e22 =>
              bif (inb o13.1.2.1 (List.length o14.2.1)) then
                (o14.2.1[(Int.toNat o13.1.2.1)]?).bind fun e23 =>
                bif (inb o13.1.2.1 (List.length o14.2.1)) then
                  (o14.2.1[(Int.toNat o13.1.2.1)]?).bind fun e24 =>
                  let x25 := (o14.2.1.set (Int.toNat o13.1.2.1) e22)
                  bif (inb o14.1.2.1 (List.length x25)) then
                    (x25[(Int.toNat o14.1.2.1)]?).bind fun e26 =>
                    (loopV (slices_partitionOrdered_int_L3 a0) (((), ((IntKind.i64.wrap (o13.1.2.1 + (1 : Int))), ((IntKind.i64.wrap (o14.1.2.1 - (1 : Int))), ()))), ((x25.set (Int.toNat o14.1.2.1) e23), ()))).bind fun o30 =>
                    bif (inb a0 (List.length o30.2.1)) then
                      (o30.2.1[(Int.toNat a0)]?).bind fun e31 =>
                      bif (inb o30.1.2.1 (List.length o30.2.1)) then
                        (o30.2.1[(Int.toNat o30.1.2.1)]?).bind fun e32 =>
                        bif (inb o30.1.2.1 (List.length o30.2.1)) then
                          (o30.2.1[(Int.toNat o30.1.2.1)]?).bind fun e33 =>
                          let x34 := (o30.2.1.set (Int.toNat o30.1.2.1) e31)
                          bif (inb a0 (List.length x34)) then
                            (x34[(Int.toNat a0)]?).bind fun e35 =>
                            some ((o30.1.2.1, (false, ())), ((x34.set (Int.toNat a0) e32), ()))
                          else
                            none
                        else
                          none
                      else
                        none
                    else
                      none
                  else
                    none
                else
                  none
              else
                none
            else
              none
        else
          none
      else
        none
    else
      none
  else
    none

def slices_pdqsortOrdered_int_J2 (self : ((Unit × Int × Int × Int × Unit) × (List Int) × Unit) → Option ((Unit) × (List Int) × Unit)) (c1 : Int) (c2 : Int) (c8 : Bool) (v : (Unit × Int × Unit) × (List Int) × Unit) : Option ((Unit × Int × Unit) × (List Int) × Unit) :=
  bif (!c8) then
    (slices_breakPatternsOrdered_int c1 c2 v.2.1).bind fun r3002 =>
    some (((), ((IntKind.i64.wrap (v.1.2.1 - (1 : Int))), ())), (r3002.2.1, ()))
  else
    some (((), (v.1.2.1, ())), (v.2.1, ()))

def slices_pdqsortOrdered_int_J3 (self : ((Unit × Int × Int × Int × Unit) × (List Int) × Unit) → Option ((Unit) × (List Int) × Unit)) (c1 : Int) (c2 : Int) (v : (Unit × Int × Int × Unit) × (List Int) × Unit) : Option ((Unit × Int × Int × Unit) × (List Int) × Unit) :=
  bif (decide (v.1.2.2.1 = (2 : Int))) then
    (slices_reverseRangeOrdered_int c1 c2 v.2.1).bind fun r4002 =>
    some (((), ((IntKind.i64.wrap ((IntKind.i64.wrap (c2 - (1 : Int))) - (IntKind.i64.wrap (v.1.2.1 - c1)))), ((1 : Int), ()))), (r4002.2.1, ()))
  else
    some (((), (v.1.2.1, (v.1.2.2.1, ()))), (v.2.1, ()))

def slices_pdqsortOrdered_int_J4 (self : ((Unit × Int × Int × Int × Unit) × (List Int) × Unit) → Option ((Unit) × (List Int) × Unit)) (c1 : Int) (c2 : Int) (c8 : Bool) (c9 : Bool) (c12 : Int) (v : (Unit × Unit) × (List Int) × Unit) : Option (((Unit) × (List Int) × Unit) ⊕ ((Unit × Unit) × (List Int) × Unit)) :=
  bif c8 then
    bif c9 then
      bif (decide (c12 = (1 : Int))) then
        (slices_partialInsertionSortOrdered_int c1 c2 v.2.1).bind fun r5002 =>
        bif r5002.1.1 then
          some (.inl ((), (r5002.2.1, ())))
        else
          some (.inr (((), ()), (r5002.2.1, ())))
      else
        some (.inr (((), ()), (v.2.1, ())))
    else
      some (.inr (((), ()), (v.2.1, ())))
  else
    some (.inr (((), ()), (v.2.1, ())))

def slices_pdqsortOrdered_int_J5 (self : ((Unit × Int × Int × Int × Unit) × (List Int) × Unit) → Option ((Unit) × (List Int) × Unit)) (c2 : Int) (c11 : Int) (v : (Unit × Int × Unit) × (List Int) × Unit) : Option (((Unit × Int × Unit) × (List Int) × Unit) ⊕ ((Unit × Int × Unit) × (List Int) × Unit)) :=
  bif (decide ((0 : Int) < v.1.2.1)) then
    let x6002 := (IntKind.i64.wrap (v.1.2.1 - (1 : Int)))
    bif (inb x6002 (List.length v.2.1)) then
      (v.2.1[(Int.toNat x6002)]?).bind fun e6003 =>
      bif (inb c11 (List.length v.2.1)) then
        (v.2.1[(Int.toNat c11)]?).bind fun e6004 =>
        (cmp_Less_int e6003 e6004).bind fun r6005 =>
        bif (!r6005.1.1) then
          (slices_partitionEqualOrdered_int v.1.2.1 c2 c11 v.2.1).bind fun r6007 =>
          some (.inl (((), (r6007.1.1, ())), (r6007.2.1, ())))
        else
          some (.inr (((), (v.1.2.1, ())), (v.2.1, ())))
      else
        none
    else
      none
  else
    some (.inr (((), (v.1.2.1, ())), (v.2.1, ())))

def slices_pdqsortOrdered_int_L1 (self : ((Unit × Int × Int × Int × Unit) × (List Int) × Unit) → Option ((Unit) × (List Int) × Unit)) (v : (Unit × Int × Int × Int × Bool × Bool × Unit) × (List Int) × Unit) : Option (((Unit × Int × Int × Int × Bool × Bool × Unit) × (List Int) × Unit) ⊕ ((Unit) × (List Int) × Unit)) :=
  let x2001 := (IntKind.i64.wrap (v.1.2.2.1 - v.1.2.1))
  bif (decide (x2001 ≤ (12 : Int))) then
    (slices_insertionSortOrdered_int v.1.2.1 v.1.2.2.1 v.2.1).bind fun r2003 =>
    some (.inr ((), (r2003.2.1, ())))
  else
    bif (decide (v.1.2.2.2.1 = (0 : Int))) then
      (slices_heapSortOrdered_int v.1.2.1 v.1.2.2.1 v.2.1).bind fun r2005 =>
      some (.inr ((), (r2005.2.1, ())))
    else
      (slices_pdqsortOrdered_int_J2 self v.1.2.1 v.1.2.2.1 v.1.2.2.2.2.1 (((), (v.1.2.2.2.1, ())), (v.2.1, ()))).bind fun o2006 =>
      (slices_choosePivotOrdered_int o2006.2.1 v.1.2.1 v.1.2.2.1).bind fun r2007 =>
      (slices_pdqsortOrdered_int_J3 self v.1.2.1 v.1.2.2.1 (((), (r2007.1.1, (r2007.1.2.1, ()))), (o2006.2.1, ()))).bind fun o2008 =>
      (slices_pdqsortOrdered_int_J4 self v.1.2.1 v.1.2.2.1 v.1.2.2.2.2.1 v.1.2.2.2.2.2.1 o2008.1.2.2.1 (((), ()), (o2008.2.1, ()))).bind fun o2009 =>
      match o2009 with
      | .inl o2010 =>
        some (.inr ((), (o2010.2.1, ())))
      | .inr o2011 =>
        (slices_pdqsortOrdered_int_J5 self v.1.2.2.1 o2008.1.2.1 (((), (v.1.2.1, ())), (o2011.2.1, ()))).bind fun o2012 =>
        match o2012 with
        | .inl o2013 =>
          some (.inl (((), (o2013.1.2.1, (v.1.2.2.1, (o2006.1.2.1, (v.1.2.2.2.2.1, (v.1.2.2.2.2.2.1, ())))))), (o2013.2.1, ())))
        | .inr o2014 =>
          (slices_partitionOrdered_int o2014.1.2.1 v.1.2.2.1 o2008.1.2.1 o2014.2.1).bind fun r2015 =>
          let x2016 := (IntKind.i64.wrap (r2015.1.1 - o2014.1.2.1))
          let x2017 := (IntKind.i64.wrap (v.1.2.2.1 - r2015.1.1))
          let x2018 := (IntKind.i64.wrap (Int.tdiv x2001 (8 : Int)))
          bif (decide (x2016 < x2017)) then
            (self (((), (o2014.1.2.1, (r2015.1.1, (o2006.1.2.1, ())))), (r2015.2.1, ()))).bind fun r2021 =>
            some (.inl (((), ((IntKind.i64.wrap (r2015.1.1 + (1 : Int))), (v.1.2.2.1, (o2006.1.2.1, ((decide (x2018 ≤ x2016)), (r2015.1.2.1, ())))))), (r2021.2.1, ())))
          else
            (self (((), ((IntKind.i64.wrap (r2015.1.1 + (1 : Int))), (v.1.2.2.1, (o2006.1.2.1, ())))), (r2015.2.1, ()))).bind fun r2025 =>
            some (.inl (((), (o2014.1.2.1, (r2015.1.1, (o2006.1.2.1, ((decide (x2018 ≤ x2017)), (r2015.1.2.1, ())))))), (r2025.2.1, ())))

/-- slices.pdqsortOrdered[int]: one call -/
def slices_pdqsortOrdered_int_R (self : ((Unit × Int × Int × Int × Unit) × (List Int) × Unit) → Option ((Unit) × (List Int) × Unit)) (v : (Unit × Int × Int × Int × Unit) × (List Int) × Unit) : Option ((Unit) × (List Int) × Unit) :=
  (loopV (slices_pdqsortOrdered_int_L1 self) (((), (v.1.2.1, (v.1.2.2.1, (v.1.2.2.2.1, (true, (true, ())))))), (v.2.1, ()))).bind fun o5 =>
  some ((), (o5.2.1, ()))

/-- slices.pdqsortOrdered[int] -/
def slices_pdqsortOrdered_int (a0 : Int) (a1 : Int) (a2 : Int) (a3 : List Int) : Option ((Unit) × (List Int) × Unit) := fixN slices_pdqsortOrdered_int_R fuel (((), (a0, (a1, (a2, ())))), (a3, ()))

/-- slices.Sort[[]int,int] -/
def slices_Sort_int_int (a0 : List Int) : Option ((Unit) × (List Int) × Unit) :=
  let x2 := (((List.length a0) : Int))
  (math_bits_Len (IntKind.u64.wrap (x2))).bind fun r4 =>
  (slices_pdqsortOrdered_int (0 : Int) x2 r4.1.1 a0).bind fun r5 =>
  some ((), (r5.2.1, ()))

/-- math/bits.RotateLeft32 -/
def math_bits_RotateLeft32 (a0 : Int) (a1 : Int) : Option ((Int × Unit) × Unit) :=
  let x4 := (bitI .and .u64 (IntKind.u64.wrap (a1)) (31 : Int))
  some (((bitI .or .u32 (shlI .u32 a0 x4) (shrI .u32 a0 (IntKind.u64.wrap ((32 : Int) - x4)))), ()), ())

/-- slices.Clone[[]byte,byte] -/
def slices_Clone_byte_byte_a (a0 : List Int) : Option ((Unit × Unit) × (List Int) × Unit) :=
  bif decide (List.length a0 ≤ lim) then some (((), ()), (a0, ())) else none

/-- slices.Clone[[][]byte,[]byte] -/
def slices_Clone_byte_byte (a0 : List (List Int)) : Option ((Unit × Unit) × (List (List Int)) × Unit) :=
  bif decide (List.length a0 ≤ lim) then some (((), ()), (a0, ())) else none

/-- cmp.isNaN[uint64] -/
def cmp_isNaN_uint64 (a0 : Int) : Option ((Bool × Unit) × Unit) :=
  some (((!decide (a0 = a0)), ()), ())

/-- cmp.Less[uint64] -/
def cmp_Less_uint64 (a0 : Int) (a1 : Int) : Option ((Bool × Unit) × Unit) :=
  (cmp_isNaN_uint64 a0).bind fun r3 =>
  bif r3.1.1 then
    (cmp_isNaN_uint64 a1).bind fun r4 =>
    bif (!r4.1.1) then
      some ((true, ()), ())
    else
      some (((decide (a0 < a1)), ()), ())
  else
    some (((decide (a0 < a1)), ()), ())

def slices_IsSorted_uint64_uint64_L1 (c0 : List Int) (v : (Int × Unit) × Unit) : Option (((Int × Unit) × Unit) ⊕ (((Bool × Unit) × Unit) ⊕ ((Unit) × Unit))) :=
  bif (decide ((0 : Int) < v.1.1)) then
    bif (inb v.1.1 (List.length c0)) then
      let x2003 := (IntKind.i64.wrap (v.1.1 - (1 : Int)))
      bif (inb x2003 (List.length c0)) then
        (cmp_Less_uint64 (rd (.int .u64) c0 v.1.1) (rd (.int .u64) c0 x2003)).bind fun r2005 =>
        bif r2005.1.1 then
          some (.inr (.inl ((false, ()), ())))
        else
          some (.inl (((IntKind.i64.wrap (v.1.1 - (1 : Int))), ()), ()))
      else
        none
    else
      none
  else
    some (.inr (.inr ((), ())))

/-- slices.IsSorted[[]uint64,uint64] -/
def slices_IsSorted_uint64_uint64 (a0 : List Int) : Option ((Bool × Unit) × Unit) :=
  (loopV (slices_IsSorted_uint64_uint64_L1 a0) (((IntKind.i64.wrap ((((List.length a0) : Int)) - (1 : Int))), ()), ())).bind fun o4 =>
  match o4 with
  | .inl o5 =>
    some ((o5.1.1, ()), ())
  | .inr o6 =>
    some ((true, ()), ())

/-- math/bits.RotateLeft64 -/
def math_bits_RotateLeft64 (a0 : Int) (a1 : Int) : Option ((Int × Unit) × Unit) :=
  let x4 := (bitI .and .u64 (IntKind.u64.wrap (a1)) (63 : Int))
  some (((bitI .or .u64 (shlI .u64 a0 x4) (shrI .u64 a0 (IntKind.u64.wrap ((64 : Int) - x4)))), ()), ())

/-- math/bits.Mul64 -/
def math_bits_Mul64 (a0 : Int) (a1 : Int) : Option ((Int × Int × Unit) × Unit) :=
  let x3 := (bitI .and .u64 a0 (4294967295 : Int))
  let x4 := (shrI .u64 a0 (32 : Int))
  let x5 := (bitI .and .u64 a1 (4294967295 : Int))
  let x6 := (shrI .u64 a1 (32 : Int))
  let x10 := (IntKind.u64.wrap ((IntKind.u64.wrap (x4 * x5)) + (shrI .u64 (IntKind.u64.wrap (x3 * x5)) (32 : Int))))
  some (((IntKind.u64.wrap ((IntKind.u64.wrap ((IntKind.u64.wrap (x4 * x6)) + (shrI .u64 x10 (32 : Int)))) + (shrI .u64 (IntKind.u64.wrap ((bitI .and .u64 x10 (4294967295 : Int)) + (IntKind.u64.wrap (x3 * x6)))) (32 : Int)))), ((IntKind.u64.wrap (a0 * a1)), ())), ())

def slices_insertionSortOrdered_uint64_L2 (c1 : Int) (v : (Unit × Int × Unit) × (List Int) × Unit) : Option (((Unit × Int × Unit) × (List Int) × Unit) ⊕ ((Unit × Unit) × (List Int) × Unit)) :=
  bif (decide (c1 < v.1.2.1)) then
    bif (inb v.1.2.1 (List.length v.2.1)) then
      (v.2.1[(Int.toNat v.1.2.1)]?).bind fun e3002 =>
      let x3003 := (IntKind.i64.wrap (v.1.2.1 - (1 : Int)))
      bif (inb x3003 (List.length v.2.1)) then
        (v.2.1[(Int.toNat x3003)]?).bind fun e3004 =>
        (cmp_Less_uint64 e3002 e3004).bind fun r3005 =>
        bif r3005.1.1 then
          let x3006 := (IntKind.i64.wrap (v.1.2.1 - (1 : Int)))
          let x3007 := (IntKind.i64.wrap (v.1.2.1 - (1 : Int)))
          bif (inb x3007 (List.length v.2.1)) then
            (v.2.1[(Int.toNat x3007)]?).bind fun e3008 =>
            bif (inb v.1.2.1 (List.length v.2.1)) then
              (v.2.1[(Int.toNat v.1.2.1)]?).bind fun e3009 =>
              bif (inb v.1.2.1 (List.length v.2.1)) then
                (v.2.1[(Int.toNat v.1.2.1)]?).bind fun e3010 =>
                let x3011 := (v.2.1.set (Int.toNat v.1.2.1) e3008)
                bif (inb x3006 (List.length x3011)) then
                  (x3011[(Int.toNat x3006)]?).bind fun e3012 =>
                  some (.inl (((), ((IntKind.i64.wrap (v.1.2.1 - (1 : Int))), ())), ((x3011.set (Int.toNat x3006) e3009), ())))
                else
                  none
              else
                none
            else
              none
          else
            none
        else
          some (.inr (((), ()), (v.2.1, ())))
      else
        none
    else
      none
  else
    some (.inr (((), ()), (v.2.1, ())))

def slices_insertionSortOrdered_uint64_L1 (c1 : Int) (c2 : Int) (v : (Unit × Int × Unit) × (List Int) × Unit) : Option (((Unit × Int × Unit) × (List Int) × Unit) ⊕ ((Unit) × (List Int) × Unit)) :=
  bif (decide (v.1.2.1 < c2)) then
    (loopV (slices_insertionSortOrdered_uint64_L2 c1) (((), (v.1.2.1, ())), (v.2.1, ()))).bind fun o2002 =>
    some (.inl (((), ((IntKind.i64.wrap (v.1.2.1 + (1 : Int))), ())), (o2002.2.1, ())))
  else
    some (.inr ((), (v.2.1, ())))

/-- slices.insertionSortOrdered[uint64] -/
def slices_insertionSortOrdered_uint64 (a0 : Int) (a1 : Int) (a2 : List Int) : Option ((Unit) × (List Int) × Unit) :=
  (loopV (slices_insertionSortOrdered_uint64_L1 a0 a1) (((), ((IntKind.i64.wrap (a0 + (1 : Int))), ())), (a2, ()))).bind fun o5 =>
  some ((), (o5.2.1, ()))

def slices_siftDownOrdered_uint64_J2 (c2 : Int) (c3 : Int) (v : (Unit × Int × Unit) × (List Int) × Unit) : Option ((Unit × Int × Unit) × (List Int) × Unit) :=
  bif (decide ((IntKind.i64.wrap (v.1.2.1 + (1 : Int))) < c2)) then
    let x3003 := (IntKind.i64.wrap (c3 + v.1.2.1))
    bif (inb x3003 (List.length v.2.1)) then
      (v.2.1[(Int.toNat x3003)]?).bind fun e3004 =>
      let x3006 := (IntKind.i64.wrap ((IntKind.i64.wrap (c3 + v.1.2.1)) + (1 : Int)))
      bif (inb x3006 (List.length v.2.1)) then
        (v.2.1[(Int.toNat x3006)]?).bind fun e3007 =>
        (cmp_Less_uint64 e3004 e3007).bind fun r3008 =>
        bif r3008.1.1 then
          some (((), ((IntKind.i64.wrap (v.1.2.1 + (1 : Int))), ())), (v.2.1, ()))
        else
          some (((), (v.1.2.1, ())), (v.2.1, ()))
      else
        none
    else
      none
  else
    some (((), (v.1.2.1, ())), (v.2.1, ()))

def slices_siftDownOrdered_uint64_L1 (c2 : Int) (c3 : Int) (v : (Unit × Int × Unit) × (List Int) × Unit) : Option (((Unit × Int × Unit) × (List Int) × Unit) ⊕ (((Unit) × (List Int) × Unit) ⊕ ((Unit) × (List Int) × Unit))) :=
  let x2002 := (IntKind.i64.wrap ((IntKind.i64.wrap ((2 : Int) * v.1.2.1)) + (1 : Int)))
  bif (decide (c2 ≤ x2002)) then
    some (.inr (.inl ((), (v.2.1, ()))))
  else
    (slices_siftDownOrdered_uint64_J2 c2 c3 (((), (x2002, ())), (v.2.1, ()))).bind fun o2004 =>
    let x2005 := (IntKind.i64.wrap (c3 + v.1.2.1))
    bif (inb x2005 (List.length o2004.2.1)) then
      (o2004.2.1[(Int.toNat x2005)]?).bind fun e2006 =>
      let x2007 := (IntKind.i64.wrap (c3 + o2004.1.2.1))
      bif (inb x2007 (List.length o2004.2.1)) then
        (o2004.2.1[(Int.toNat x2007)]?).bind fun e2008 =>
        (cmp_Less_uint64 e2006 e2008).bind fun r2009 =>
        bif (!r2009.1.1) then
          some (.inr (.inr ((), (o2004.2.1, ()))))
        else
          let x2011 := (IntKind.i64.wrap (c3 + v.1.2.1))
          let x2012 := (IntKind.i64.wrap (c3 + o2004.1.2.1))
          let x2013 := (IntKind.i64.wrap (c3 + o2004.1.2.1))
          bif (inb x2013 (List.length o2004.2.1)) then
            (o2004.2.1[(Int.toNat x2013)]?).bind fun e2014 =>
            let x2015 := (IntKind.i64.wrap (c3 + v.1.2.1))
            bif (inb x2015 (List.length o2004.2.1)) then
              (o2004.2.1[(Int.toNat x2015)]?).bind fun e2016 =>
              bif (inb x2011 (List.length o2004.2.1)) then
                (o2004.2.1[(Int.toNat x2011)]?).bind fun e2017 =>
                let x2018 := (o2004.2.1.set (Int.toNat x2011) e2014)
                bif (inb x2012 (List.length x2018)) then
                  (x2018[(Int.toNat x2012)]?).bind fun e2019 =>
                  some (.inl (((), (o2004.1.2.1, ())), ((x2018.set (Int.toNat x2012) e2016), ())))
                else
                  none
              else
                none
            else
              none
          else
            none
      else
        none
    else
      none

/-- slices.siftDownOrdered[uint64] -/
def slices_siftDownOrdered_uint64 (a0 : Int) (a1 : Int) (a2 : Int) (a3 : List Int) : Option ((Unit) × (List Int) × Unit) :=
  (loopV (slices_siftDownOrdered_uint64_L1 a1 a2) (((), (a0, ())), (a3, ()))).bind fun o5 =>
  match o5 with
  | .inl o6 =>
    some ((), (o6.2.1, ()))
  | .inr o7 =>
    some ((), (o7.2.1, ()))

def slices_heapSortOrdered_uint64_L1 (c6 : Int) (c8 : Int) (v : (Unit × Int × Unit) × (List Int) × Unit) : Option (((Unit × Int × Unit) × (List Int) × Unit) ⊕ ((Unit × Unit) × (List Int) × Unit)) :=
  bif (decide ((0 : Int) ≤ v.1.2.1)) then
    (slices_siftDownOrdered_uint64 v.1.2.1 c8 c6 v.2.1).bind fun r2002 =>
    some (.inl (((), ((IntKind.i64.wrap (v.1.2.1 - (1 : Int))), ())), (r2002.2.1, ())))
  else
    some (.inr (((), ()), (v.2.1, ())))

def slices_heapSortOrdered_uint64_L2 (c6 : Int) (c7 : Int) (v : (Unit × Int × Unit) × (List Int) × Unit) : Option (((Unit × Int × Unit) × (List Int) × Unit) ⊕ ((Unit) × (List Int) × Unit)) :=
  bif (decide ((0 : Int) ≤ v.1.2.1)) then
    let x3002 := (IntKind.i64.wrap (c6 + v.1.2.1))
    let x3003 := (IntKind.i64.wrap (c6 + v.1.2.1))
    bif (inb x3003 (List.length v.2.1)) then
      (v.2.1[(Int.toNat x3003)]?).bind fun e3004 =>
      bif (inb c6 (List.length v.2.1)) then
        (v.2.1[(Int.toNat c6)]?).bind fun e3005 =>
        bif (inb c6 (List.length v.2.1)) then
          (v.2.1[(Int.toNat c6)]?).bind fun e3006 =>
          let x3007 := (v.2.1.set (Int.toNat c6) e3004)
          bif (inb x3002 (List.length x3007)) then
            (x3007[(Int.toNat x3002)]?).bind fun e3008 =>
            (slices_siftDownOrdered_uint64 c7 v.1.2.1 c6 (x3007.set (Int.toNat x3002) e3005)).bind fun r3010 =>
            some (.inl (((), ((IntKind.i64.wrap (v.1.2.1 - (1 : Int))), ())), (r3010.2.1, ())))
          else
            none
        else
          none
      else
        none
    else
      none
  else
    some (.inr ((), (v.2.1, ())))

/-- slices.heapSortOrdered[uint64] -/
def slices_heapSortOrdered_uint64 (a0 : Int) (a1 : Int) (a2 : List Int) : Option ((Unit) × (List Int) × Unit) :=
  let x4 := (IntKind.i64.wrap (a1 - a0))
  (loopV (slices_heapSortOrdered_uint64_L1 a0 x4) (((), ((IntKind.i64.wrap (Int.tdiv (IntKind.i64.wrap (x4 - (1 : Int))) (2 : Int))), ())), (a2, ()))).bind fun o7 =>
  (loopV (slices_heapSortOrdered_uint64_L2 a0 (0 : Int)) (((), ((IntKind.i64.wrap (x4 - (1 : Int))), ())), (o7.2.1, ()))).bind fun o9 =>
  some ((), (o9.2.1, ()))

def slices_breakPatternsOrdered_uint64_J2 (c6 : Int) (v : (Unit × Unit × Int × Unit) × (List Int) × Int × Unit) : Option ((Unit × Unit × Int × Unit) × (List Int) × Int × Unit) :=
  bif (decide (c6 ≤ v.1.2.2.1)) then
    some (((), ((), ((IntKind.i64.wrap (v.1.2.2.1 - c6)), ()))), (v.2.1, (v.2.2.1, ())))
  else
    some (((), ((), (v.1.2.2.1, ()))), (v.2.1, (v.2.2.1, ())))

def slices_breakPatternsOrdered_uint64_L1 (c1 : Int) (c6 : Int) (c8 : Int) (v : (Unit × Unit × Int × Unit) × (List Int) × Int × Unit) : Option (((Unit × Unit × Int × Unit) × (List Int) × Int × Unit) ⊕ ((Unit) × (List Int) × Unit)) :=
  bif (decide (v.1.2.2.1 ≤ (IntKind.i64.wrap ((IntKind.i64.wrap (c1 + (IntKind.i64.wrap ((IntKind.i64.wrap (Int.tdiv c6 (4 : Int))) * (2 : Int))))) + (1 : Int))))) then
    (slices_xorshift_Next v.2.2.1).bind fun r2006 =>
    (slices_breakPatternsOrdered_uint64_J2 c6 (((), ((), ((IntKind.i64.wrap ((bitI .and .u64 r2006.1.1 (IntKind.u64.wrap (c8 - (1 : Int)))))), ()))), (v.2.1, (r2006.2.1, ())))).bind fun o2010 =>
    let x2011 := (IntKind.i64.wrap (c1 + o2010.1.2.2.1))
    let x2012 := (IntKind.i64.wrap (c1 + o2010.1.2.2.1))
    bif (inb x2012 (List.length o2010.2.1)) then
      (o2010.2.1[(Int.toNat x2012)]?).bind fun e2013 =>
      bif (inb v.1.2.2.1 (List.length o2010.2.1)) then
        (o2010.2.1[(Int.toNat v.1.2.2.1)]?).bind fun e2014 =>
        bif (inb v.1.2.2.1 (List.length o2010.2.1)) then
          (o2010.2.1[(Int.toNat v.1.2.2.1)]?).bind fun e2015 =>
          let x2016 := (o2010.2.1.set (Int.toNat v.1.2.2.1) e2013)
          bif (inb x2011 (List.length x2016)) then
            (x2016[(Int.toNat x2011)]?).bind fun e2017 =>
            some (.inl (((), ((), ((IntKind.i64.wrap (v.1.2.2.1 + (1 : Int))), ()))), ((x2016.set (Int.toNat x2011) e2014), (o2010.2.2.1, ()))))
          else
            none
        else
          none
      else
        none
    else
      none
  else
    some (.inr ((), (v.2.1, ())))

/-- slices.breakPatternsOrdered[uint64] -/
def slices_breakPatternsOrdered_uint64 (a0 : Int) (a1 : Int) (a2 : List Int) : Option ((Unit) × (List Int) × Unit) :=
  let x4 := (IntKind.i64.wrap (a1 - a0))
  bif (decide ((8 : Int) ≤ x4)) then
    (slices_nextPowerOfTwo x4).bind fun r7 =>
    (loopV (slices_breakPatternsOrdered_uint64_L1 a0 x4 r7.1.1) (((), ((), ((IntKind.i64.wrap ((IntKind.i64.wrap (a0 + (IntKind.i64.wrap ((IntKind.i64.wrap (Int.tdiv x4 (4 : Int))) * (2 : Int))))) - (1 : Int))), ()))), (a2, ((IntKind.u64.wrap (x4)), ())))).bind fun o12 =>
    some ((), (o12.2.1, ()))
  else
    some ((), (a2, ()))

/-- slices.order2Ordered[uint64] -/
def slices_order2Ordered_uint64 (a0 : List Int) (a1 : Int) (a2 : Int) (a3 : Int) : Option ((Int × Int × Unit) × Int × Unit) :=
  bif (inb a2 (List.length a0)) then
    bif (inb a1 (List.length a0)) then
      (cmp_Less_uint64 (rd (.int .u64) a0 a2) (rd (.int .u64) a0 a1)).bind fun r7 =>
      bif r7.1.1 then
        some ((a2, (a1, ())), ((IntKind.i64.wrap (a3 + (1 : Int))), ()))
      else
        some ((a1, (a2, ())), (a3, ()))
    else
      none
  else
    none

/-- slices.medianOrdered[uint64] -/
def slices_medianOrdered_uint64 (a0 : List Int) (a1 : Int) (a2 : Int) (a3 : Int) (a4 : Int) : Option ((Int × Unit) × Int × Unit) :=
  (slices_order2Ordered_uint64 a0 a1 a2 a4).bind fun r6 =>
  (slices_order2Ordered_uint64 a0 r6.1.2.1 a3 r6.2.1).bind fun r7 =>
  (slices_order2Ordered_uint64 a0 r6.1.1 r7.1.1 r7.2.1).bind fun r8 =>
  some ((r8.1.2.1, ()), (r8.2.1, ()))

/-- slices.medianAdjacentOrdered[uint64] -/
def slices_medianAdjacentOrdered_uint64 (a0 : List Int) (a1 : Int) (a2 : Int) : Option ((Int × Unit) × Int × Unit) :=
  (slices_medianOrdered_uint64 a0 (IntKind.i64.wrap (a1 - (1 : Int))) a1 (IntKind.i64.wrap (a1 + (1 : Int))) a2).bind fun r6 =>
  some ((r6.1.1, ()), (r6.2.1, ()))

def slices_choosePivotOrdered_uint64_J2 (c0 : List Int) (c8 : Int) (v : (Unit × Int × Int × Int × Unit) × Int × Unit) : Option ((Unit × Int × Int × Int × Unit) × Int × Unit) :=
  bif (decide ((50 : Int) ≤ c8)) then
    (slices_medianAdjacentOrdered_uint64 c0 v.1.2.1 v.2.1).bind fun r3002 =>
    (slices_medianAdjacentOrdered_uint64 c0 v.1.2.2.1 r3002.2.1).bind fun r3003 =>
    (slices_medianAdjacentOrdered_uint64 c0 v.1.2.2.2.1 r3003.2.1).bind fun r3004 =>
    some (((), (r3002.1.1, (r3003.1.1, (r3004.1.1, ())))), (r3004.2.1, ()))
  else
    some (((), (v.1.2.1, (v.1.2.2.1, (v.1.2.2.2.1, ())))), (v.2.1, ()))

def slices_choosePivotOrdered_uint64_J1 (c0 : List Int) (c8 : Int) (v : (Unit × Int × Int × Int × Unit) × Int × Unit) : Option ((Unit × Int × Unit) × Int × Unit) :=
  bif (decide ((8 : Int) ≤ c8)) then
    (slices_choosePivotOrdered_uint64_J2 c0 c8 (((), (v.1.2.1, (v.1.2.2.1, (v.1.2.2.2.1, ())))), (v.2.1, ()))).bind fun o2002 =>
    (slices_medianOrdered_uint64 c0 o2002.1.2.1 o2002.1.2.2.1 o2002.1.2.2.2.1 o2002.2.1).bind fun r2003 =>
    some (((), (r2003.1.1, ())), (r2003.2.1, ()))
  else
    some (((), (v.1.2.2.1, ())), (v.2.1, ()))

/-- slices.choosePivotOrdered[uint64] -/
def slices_choosePivotOrdered_uint64 (a0 : List Int) (a1 : Int) (a2 : Int) : Option ((Int × Int × Unit) × Unit) :=
  let x4 := (IntKind.i64.wrap (a2 - a1))
  (slices_choosePivotOrdered_uint64_J1 a0 x4 (((), ((IntKind.i64.wrap (a1 + (IntKind.i64.wrap ((IntKind.i64.wrap (Int.tdiv x4 (4 : Int))) * (1 : Int))))), ((IntKind.i64.wrap (a1 + (IntKind.i64.wrap ((IntKind.i64.wrap (Int.tdiv x4 (4 : Int))) * (2 : Int))))), ((IntKind.i64.wrap (a1 + (IntKind.i64.wrap ((IntKind.i64.wrap (Int.tdiv x4 (4 : Int))) * (3 : Int))))), ())))), ((0 : Int), ()))).bind fun o14 =>
  bif (decide (o14.2.1 = (0 : Int))) then
    some ((o14.1.2.1, ((1 : Int), ())), ())
  else
    bif (decide (o14.2.1 = (12 : Int))) then
      some ((o14.1.2.1, ((2 : Int), ())), ())
    else
      some ((o14.1.2.1, ((0 : Int), ())), ())

def slices_reverseRangeOrdered_uint64_L1 (v : (Unit × Int × Int × Unit) × (List Int) × Unit) : Option (((Unit × Int × Int × Unit) × (List Int) × Unit) ⊕ ((Unit) × (List Int) × Unit)) :=
  bif (decide (v.1.2.1 < v.1.2.2.1)) then
    bif (inb v.1.2.2.1 (List.length v.2.1)) then
      (v.2.1[(Int.toNat v.1.2.2.1)]?).bind fun e2002 =>
      bif (inb v.1.2.1 (List.length v.2.1)) then
        (v.2.1[(Int.toNat v.1.2.1)]?).bind fun e2003 =>
        bif (inb v.1.2.1 (List.length v.2.1)) then
          (v.2.1[(Int.toNat v.1.2.1)]?).bind fun e2004 =>
          let x2005 := (v.2.1.set (Int.toNat v.1.2.1) e2002)
          bif (inb v.1.2.2.1 (List.length x2005)) then
            (x2005[(Int.toNat v.1.2.2.1)]?).bind fun e2006 =>
            some (.inl (((), ((IntKind.i64.wrap (v.1.2.1 + (1 : Int))), ((IntKind.i64.wrap (v.1.2.2.1 - (1 : Int))), ()))), ((x2005.set (Int.toNat v.1.2.2.1) e2003), ())))
          else
            none
        else
          none
      else
        none
    else
      none
  else
    some (.inr ((), (v.2.1, ())))

/-- slices.reverseRangeOrdered[uint64] -/
def slices_reverseRangeOrdered_uint64 (a0 : Int) (a1 : Int) (a2 : List Int) : Option ((Unit) × (List Int) × Unit) :=
  (loopV (slices_reverseRangeOrdered_uint64_L1) (((), (a0, ((IntKind.i64.wrap (a1 - (1 : Int))), ()))), (a2, ()))).bind fun o5 =>
  some ((), (o5.2.1, ()))

def slices_partialInsertionSortOrdered_uint64_L4 (v : (Unit × Int × Unit) × (List Int) × Unit) : Option (((Unit × Int × Unit) × (List Int) × Unit) ⊕ ((Unit × Unit) × (List Int) × Unit)) :=
  bif (decide ((1 : Int) ≤ v.1.2.1)) then
    bif (inb v.1.2.1 (List.length v.2.1)) then
      (v.2.1[(Int.toNat v.1.2.1)]?).bind fun e5002 =>
      let x5003 := (IntKind.i64.wrap (v.1.2.1 - (1 : Int)))
      bif (inb x5003 (List.length v.2.1)) then
        (v.2.1[(Int.toNat x5003)]?).bind fun e5004 =>
        (cmp_Less_uint64 e5002 e5004).bind fun r5005 =>
        bif (!r5005.1.1) then
          some (.inr (((), ()), (v.2.1, ())))
        else
          let x5007 := (IntKind.i64.wrap (v.1.2.1 - (1 : Int)))
          let x5008 := (IntKind.i64.wrap (v.1.2.1 - (1 : Int)))
          bif (inb x5008 (List.length v.2.1)) then
            (v.2.1[(Int.toNat x5008)]?).bind fun e5009 =>
            bif (inb v.1.2.1 (List.length v.2.1)) then
              (v.2.1[(Int.toNat v.1.2.1)]?).bind fun e5010 =>
              bif (inb v.1.2.1 (List.length v.2.1)) then
                (v.2.1[(Int.toNat v.1.2.1)]?).bind fun e5011 =>
                let x5012 := (v.2.1.set (Int.toNat v.1.2.1) e5009)
                bif (inb x5007 (List.length x5012)) then
                  (x5012[(Int.toNat x5007)]?).bind fun e5013 =>
                  some (.inl (((), ((IntKind.i64.wrap (v.1.2.1 - (1 : Int))), ())), ((x5012.set (Int.toNat x5007) e5010), ())))
                else
                  none
              else
                none
            else
              none
          else
            none
      else
        none
    else
      none
  else
    some (.inr (((), ()), (v.2.1, ())))

def slices_partialInsertionSortOrdered_uint64_J3 (c1 : Int) (c7 : Int) (v : (Unit × Unit) × (List Int) × Unit) : Option ((Unit × Unit) × (List Int) × Unit) :=
  bif (decide ((2 : Int) ≤ (IntKind.i64.wrap (c7 - c1)))) then
    (loopV (slices_partialInsertionSortOrdered_uint64_L4) (((), ((IntKind.i64.wrap (c7 - (1 : Int))), ())), (v.2.1, ()))).bind fun o4004 =>
    some (((), ()), (o4004.2.1, ()))
  else
    some (((), ()), (v.2.1, ()))

def slices_partialInsertionSortOrdered_uint64_L2 (c2 : Int) (v : (Unit × Int × Unit) × (List Int) × Unit) : Option (((Unit × Int × Unit) × (List Int) × Unit) ⊕ ((Unit × Int × Unit) × (List Int) × Unit)) :=
  bif (decide (v.1.2.1 < c2)) then
    bif (inb v.1.2.1 (List.length v.2.1)) then
      (v.2.1[(Int.toNat v.1.2.1)]?).bind fun e3002 =>
      let x3003 := (IntKind.i64.wrap (v.1.2.1 - (1 : Int)))
      bif (inb x3003 (List.length v.2.1)) then
        (v.2.1[(Int.toNat x3003)]?).bind fun e3004 =>
        (cmp_Less_uint64 e3002 e3004).bind fun r3005 =>
        bif (!r3005.1.1) then
          some (.inl (((), ((IntKind.i64.wrap (v.1.2.1 + (1 : Int))), ())), (v.2.1, ())))
        else
          some (.inr (((), (v.1.2.1, ())), (v.2.1, ())))
      else
        none
    else
      none
  else
    some (.inr (((), (v.1.2.1, ())), (v.2.1, ())))

def slices_partialInsertionSortOrdered_uint64_L5 (c2 : Int) (v : (Unit × Int × Unit) × (List Int) × Unit) : Option (((Unit × Int × Unit) × (List Int) × Unit) ⊕ ((Unit × Unit) × (List Int) × Unit)) :=
  bif (decide (v.1.2.1 < c2)) then
    bif (inb v.1.2.1 (List.length v.2.1)) then
      (v.2.1[(Int.toNat v.1.2.1)]?).bind fun e6002 =>
      let x6003 := (IntKind.i64.wrap (v.1.2.1 - (1 : Int)))
      bif (inb x6003 (List.length v.2.1)) then
        (v.2.1[(Int.toNat x6003)]?).bind fun e6004 =>
        (cmp_Less_uint64 e6002 e6004).bind fun r6005 =>
        bif (!r6005.1.1) then
          some (.inr (((), ()), (v.2.1, ())))
        else
          let x6007 := (IntKind.i64.wrap (v.1.2.1 - (1 : Int)))
          let x6008 := (IntKind.i64.wrap (v.1.2.1 - (1 : Int)))
          bif (inb x6008 (List.length v.2.1)) then
            (v.2.1[(Int.toNat x6008)]?).bind fun e6009 =>
            bif (inb v.1.2.1 (List.length v.2.1)) then
              (v.2.1[(Int.toNat v.1.2.1)]?).bind fun e6010 =>
              bif (inb v.1.2.1 (List.length v.2.1)) then
                (v.2.1[(Int.toNat v.1.2.1)]?).bind fun e6011 =>
                let x6012 := (v.2.1.set (Int.toNat v.1.2.1) e6009)
                bif (inb x6007 (List.length x6012)) then
                  (x6012[(Int.toNat x6007)]?).bind fun e6013 =>
                  some (.inl (((), ((IntKind.i64.wrap (v.1.2.1 + (1 : Int))), ())), ((x6012.set (Int.toNat x6007) e6010), ())))
                else
                  none
              else
                none
            else
              none
          else
            none
      else
        none
    else
      none
  else
    some (.inr (((), ()), (v.2.1, ())))

def slices_partialInsertionSortOrdered_uint64_L1 (c1 : Int) (c2 : Int) (v : (Unit × Int × Int × Unit) × (List Int) × Unit) : Option (((Unit × Int × Int × Unit) × (List Int) × Unit) ⊕ (((Bool × Unit) × (List Int) × Unit) ⊕ ((Unit) × (List Int) × Unit))) :=
  bif (decide (v.1.2.2.1 < (5 : Int))) then
    (loopV (slices_partialInsertionSortOrdered_uint64_L2 c2) (((), (v.1.2.1, ())), (v.2.1, ()))).bind fun o2002 =>
    bif (decide (o2002.1.2.1 = c2)) then
      some (.inr (.inl ((true, ()), (o2002.2.1, ()))))
    else
      bif (decide ((IntKind.i64.wrap (c2 - c1)) < (50 : Int))) then
        some (.inr (.inl ((false, ()), (o2002.2.1, ()))))
      else
        let x2006 := (IntKind.i64.wrap (o2002.1.2.1 - (1 : Int)))
        let x2007 := (IntKind.i64.wrap (o2002.1.2.1 - (1 : Int)))
        bif (inb x2007 (List.length o2002.2.1)) then
          (o2002.2.1[(Int.toNat x2007)]?).bind fun e2008 =>
          bif (inb o2002.1.2.1 (List.length o2002.2.1)) then
            (o2002.2.1[(Int.toNat o2002.1.2.1)]?).bind fun e2009 =>
            bif (inb o2002.1.2.1 (List.length o2002.2.1)) then
              (o2002.2.1[(Int.toNat o2002.1.2.1)]?).bind fun e2010 =>
              let x2011 := (o2002.2.1.set (Int.toNat o2002.1.2.1) e2008)
              bif (inb x2006 (List.length x2011)) then
                (x2011[(Int.toNat x2006)]?).bind fun e2012 =>
                (slices_partialInsertionSortOrdered_uint64_J3 c1 o2002.1.2.1 (((), ()), ((x2011.set (Int.toNat x2006) e2009), ()))).bind fun o2014 =>
                bif (decide ((2 : Int) ≤ (IntKind.i64.wrap (c2 - o2002.1.2.1)))) then
                  (loopV (slices_partialInsertionSortOrdered_uint64_L5 c2) (((), ((IntKind.i64.wrap (o2002.1.2.1 + (1 : Int))), ())), (o2014.2.1, ()))).bind fun o2018 =>
                  some (.inl (((), (o2002.1.2.1, ((IntKind.i64.wrap (v.1.2.2.1 + (1 : Int))), ()))), (o2018.2.1, ())))
                else
                  some (.inl (((), (o2002.1.2.1, ((IntKind.i64.wrap (v.1.2.2.1 + (1 : Int))), ()))), (o2014.2.1, ())))
              else
                none
            else
              none
          else
            none
        else
          none
  else
    some (.inr (.inr ((), (v.2.1, ()))))

/-- slices.partialInsertionSortOrdered[uint64] -/
def slices_partialInsertionSortOrdered_uint64 (a0 : Int) (a1 : Int) (a2 : List Int) : Option ((Bool × Unit) × (List Int) × Unit) :=
  (loopV (slices_partialInsertionSortOrdered_uint64_L1 a0 a1) (((), ((IntKind.i64.wrap (a0 + (1 : Int))), ((0 : Int), ()))), (a2, ()))).bind fun o5 =>
  match o5 with
  | .inl o6 =>
    some ((o6.1.1, ()), (o6.2.1, ()))
  | .inr o7 =>
    some ((false, ()), (o7.2.1, ()))

def slices_partitionEqualOrdered_uint64_L2 (c1 : Int) (c10 : Int) (v : (Unit × Int × Unit) × (List Int) × Unit) : Option (((Unit × Int × Unit) × (List Int) × Unit) ⊕ ((Unit × Int × Unit) × (List Int) × Unit)) :=
  bif (decide (v.1.2.1 ≤ c10)) then
    bif (inb c1 (List.length v.2.1)) then
      (v.2.1[(Int.toNat c1)]?).bind fun e3002 =>
      bif (inb v.1.2.1 (List.length v.2.1)) then
        (v.2.1[(Int.toNat v.1.2.1)]?).bind fun e3003 =>
        (cmp_Less_uint64 e3002 e3003).bind fun r3004 =>
        bif (!r3004.1.1) then
          some (.inl (((), ((IntKind.i64.wrap (v.1.2.1 + (1 : Int))), ())), (v.2.1, ())))
        else
          some (.inr (((), (v.1.2.1, ())), (v.2.1, ())))
      else
        none
    else
      none
  else
    some (.inr (((), (v.1.2.1, ())), (v.2.1, ())))

def slices_partitionEqualOrdered_uint64_L3 (c1 : Int) (c9 : Int) (v : (Unit × Int × Unit) × (List Int) × Unit) : Option (((Unit × Int × Unit) × (List Int) × Unit) ⊕ ((Unit × Int × Unit) × (List Int) × Unit)) :=
  bif (decide (c9 ≤ v.1.2.1)) then
    bif (inb c1 (List.length v.2.1)) then
      (v.2.1[(Int.toNat c1)]?).bind fun e4002 =>
      bif (inb v.1.2.1 (List.length v.2.1)) then
        (v.2.1[(Int.toNat v.1.2.1)]?).bind fun e4003 =>
        (cmp_Less_uint64 e4002 e4003).bind fun r4004 =>
        bif r4004.1.1 then
          some (.inl (((), ((IntKind.i64.wrap (v.1.2.1 - (1 : Int))), ())), (v.2.1, ())))
        else
          some (.inr (((), (v.1.2.1, ())), (v.2.1, ())))
      else
        none
    else
      none
  else
    some (.inr (((), (v.1.2.1, ())), (v.2.1, ())))

def slices_partitionEqualOrdered_uint64_L1 (c1 : Int) (v : (Unit × Int × Int × Unit) × (List Int) × Unit) : Option (((Unit × Int × Int × Unit) × (List Int) × Unit) ⊕ ((Int × Unit) × (List Int) × Unit)) :=
  (loopV (slices_partitionEqualOrdered_uint64_L2 c1 v.1.2.2.1) (((), (v.1.2.1, ())), (v.2.1, ()))).bind fun o2001 =>
  (loopV (slices_partitionEqualOrdered_uint64_L3 c1 o2001.1.2.1) (((), (v.1.2.2.1, ())), (o2001.2.1, ()))).bind fun o2002 =>
  bif (decide (o2002.1.2.1 < o2001.1.2.1)) then
    some (.inr ((o2001.1.2.1, ()), (o2002.2.1, ())))
  else
    bif (inb o2002.1.2.1 (List.length o2002.2.1)) then
      (o2002.2.1[(Int.toNat o2002.1.2.1)]?).bind fun e2004 =>
      bif (inb o2001.1.2.1 (List.length o2002.2.1)) then
        (o2002.2.1[(Int.toNat o2001.1.2.1)]?).bind fun e2005 =>
        bif (inb o2001.1.2.1 (List.length o2002.2.1)) then
          (o2002.2.1[(Int.toNat o2001.1.2.1)]?).bind fun e2006 =>
          let x2007 := (o2002.2.1.set (Int.toNat o2001.1.2.1) e2004)
          bif (inb o2002.1.2.1 (List.length x2007)) then
            (x2007[(Int.toNat o2002.1.2.1)]?).bind fun e2008 =>
            some (.inl (((), ((IntKind.i64.wrap (o2001.1.2.1 + (1 : Int))), ((IntKind.i64.wrap (o2002.1.2.1 - (1 : Int))), ()))), ((x2007.set (Int.toNat o2002.1.2.1) e2005), ())))
          else
            none
        else
          none
      else
        none
    else
      none

/-- slices.partitionEqualOrdered[uint64] -/
def slices_partitionEqualOrdered_uint64 (a0 : Int) (a1 : Int) (a2 : Int) (a3 : List Int) : Option ((Int × Unit) × (List Int) × Unit) :=
  bif (inb a2 (List.length a3)) then
    (a3[(Int.toNat a2)]?).bind fun e5 =>
    bif (inb a0 (List.length a3)) then
      (a3[(Int.toNat a0)]?).bind fun e6 =>
      bif (inb a0 (List.length a3)) then
        (a3[(Int.toNat a0)]?).bind fun e7 =>
        let x8 := (a3.set (Int.toNat a0) e5)
        bif (inb a2 (List.length x8)) then
          (x8[(Int.toNat a2)]?).bind fun e9 =>
          (loopV (slices_partitionEqualOrdered_uint64_L1 a0) (((), ((IntKind.i64.wrap (a0 + (1 : Int))), ((IntKind.i64.wrap (a1 - (1 : Int))), ()))), ((x8.set (Int.toNat a2) e6), ()))).bind fun o13 =>
          some ((o13.1.1, ()), (o13.2.1, ()))
        else
          none
      else
        none
    else
      none
  else
    none

def slices_partitionOrdered_uint64_L1 (c1 : Int) (c11 : Int) (v : (Unit × Int × Unit) × (List Int) × Unit) : Option (((Unit × Int × Unit) × (List Int) × Unit) ⊕ ((Unit × Int × Unit) × (List Int) × Unit)) :=
  bif (decide (v.1.2.1 ≤ c11)) then
    bif (inb v.1.2.1 (List.length v.2.1)) then
      (v.2.1[(Int.toNat v.1.2.1)]?).bind fun e2002 =>
      bif (inb c1 (List.length v.2.1)) then
        (v.2.1[(Int.toNat c1)]?).bind fun e2003 =>
        (cmp_Less_uint64 e2002 e2003).bind fun r2004 =>
        bif r2004.1.1 then
          some (.inl (((), ((IntKind.i64.wrap (v.1.2.1 + (1 : Int))), ())), (v.2.1, ())))
        else
          some (.inr (((), (v.1.2.1, ())), (v.2.1, ())))
      else
        none
    else
      none
  else
    some (.inr (((), (v.1.2.1, ())), (v.2.1, ())))

def slices_partitionOrdered_uint64_L2 (c1 : Int) (c10 : Int) (v : (Unit × Int × Unit) × (List Int) × Unit) : Option (((Unit × Int × Unit) × (List Int) × Unit) ⊕ ((Unit × Int × Unit) × (List Int) × Unit)) :=
  bif (decide (c10 ≤ v.1.2.1)) then
    bif (inb v.1.2.1 (List.length v.2.1)) then
      (v.2.1[(Int.toNat v.1.2.1)]?).bind fun e3002 =>
      bif (inb c1 (List.length v.2.1)) then
        (v.2.1[(Int.toNat c1)]?).bind fun e3003 =>
        (cmp_Less_uint64 e3002 e3003).bind fun r3004 =>
        bif (!r3004.1.1) then
          some (.inl (((), ((IntKind.i64.wrap (v.1.2.1 - (1 : Int))), ())), (v.2.1, ())))
        else
          some (.inr (((), (v.1.2.1, ())), (v.2.1, ())))
      else
        none
    else
      none
  else
    some (.inr (((), (v.1.2.1, ())), (v.2.1, ())))

def slices_partitionOrdered_uint64_L4 (c1 : Int) (c11 : Int) (v : (Unit × Int × Unit) × (List Int) × Unit) : Option (((Unit × Int × Unit) × (List Int) × Unit) ⊕ ((Unit × Int × Unit) × (List Int) × Unit)) :=
  bif (decide (v.1.2.1 ≤ c11)) then
    bif (inb v.1.2.1 (List.length v.2.1)) then
      (v.2.1[(Int.toNat v.1.2.1)]?).bind fun e5002 =>
      bif (inb c1 (List.length v.2.1)) then
        (v.2.1[(Int.toNat c1)]?).bind fun e5003 =>
        (cmp_Less_uint64 e5002 e5003).bind fun r5004 =>
        bif r5004.1.1 then
          some (.inl (((), ((IntKind.i64.wrap (v.1.2.1 + (1 : Int))), ())), (v.2.1, ())))
        else
          some (.inr (((), (v.1.2.1, ())), (v.2.1, ())))
      else
        none
    else
      none
  else
    some (.inr (((), (v.1.2.1, ())), (v.2.1, ())))

def slices_partitionOrdered_uint64_L5 (c1 : Int) (c10 : Int) (v : (Unit × Int × Unit) × (List Int) × Unit) : Option (((Unit × Int × Unit) × (List Int) × Unit) ⊕ ((Unit × Int × Unit) × (List Int) × Unit)) :=
  bif (decide (c10 ≤ v.1.2.1)) then
    bif (inb v.1.2.1 (List.length v.2.1)) then
      (v.2.1[(Int.toNat v.1.2.1)]?).bind fun e6002 =>
      bif (inb c1 (List.length v.2.1)) then
        (v.2.1[(Int.toNat c1)]?).bind fun e6003 =>
        (cmp_Less_uint64 e6002 e6003).bind fun r6004 =>
        bif (!r6004.1.1) then
          some (.inl (((), ((IntKind.i64.wrap (v.1.2.1 - (1 : Int))), ())), (v.2.1, ())))
        else
          some (.inr (((), (v.1.2.1, ())), (v.2.1, ())))
      else
        none
    else
      none
  else
    some (.inr (((), (v.1.2.1, ())), (v.2.1, ())))

def slices_partitionOrdered_uint64_L3 (c1 : Int) (v : (Unit × Int × Int × Unit) × (List Int) × Unit) : Option (((Unit × Int × Int × Unit) × (List Int) × Unit) ⊕ ((Unit × Int × Unit) × (List Int) × Unit)) :=
  (loopV (slices_partitionOrdered_uint64_L4 c1 v.1.2.2.1) (((), (v.1.2.1, ())), (v.2.1, ()))).bind fun o4001 =>
  (loopV (slices_partitionOrdered_uint64_L5 c1 o4001.1.2.1) (((), (v.1.2.2.1, ())), (o4001.2.1, ()))).bind fun o4002 =>
  bif (decide (o4002.1.2.1 < o4001.1.2.1)) then
    some (.inr (((), (o4002.1.2.1, ())), (o4002.2.1, ())))
  else
    bif (inb o4002.1.2.1 (List.length o4002.2.1)) then
      (o4002.2.1[(Int.toNat o4002.1.2.1)]?).bind fun e4004 =>
      bif (inb o4001.1.2.1 (List.length o4002.2.1)) then
        (o4002.2.1[(Int.toNat o4001.1.2.1)]?).bind fun e4005 =>
        bif (inb o4001.1.2.1 (List.length o4002.2.1)) then
          (o4002.2.1[(Int.toNat o4001.1.2.1)]?).bind fun e4006 =>
          let x4007 := (o4002.2.1.set (Int.toNat o4001.1.2.1) e4004)
          bif (inb o4002.1.2.1 (List.length x4007)) then
            (x4007[(Int.toNat o4002.1.2.1)]?).bind fun e4008 =>
            some (.inl (((), ((IntKind.i64.wrap (o4001.1.2.1 + (1 : Int))), ((IntKind.i64.wrap (o4002.1.2.1 - (1 : Int))), ()))), ((x4007.set (Int.toNat o4002.1.2.1) e4005), ())))
          else
            none
        else
          none
      else
        none
    else
      none

/-- slices.partitionOrdered[uint64] -/
def slices_partitionOrdered_uint64 (a0 : Int) (a1 : Int) (a2 : Int) (a3 : List Int) : Option ((Int × Bool × Unit) × (List Int) × Unit) :=
  bif (inb a2 (List.length a3)) then
    (a3[(Int.toNat a2)]?).bind fun e5 =>
    bif (inb a0 (List.length a3)) then
      (a3[(Int.toNat a0)]?).bind fun e6 =>
      bif (inb a0 (List.length a3)) then
        (a3[(Int.toNat a0)]?).bind fun e7 =>
        let x8 := (a3.set (Int.toNat a0) e5)
        bif (inb a2 (List.length x8)) then
          (x8[(Int.toNat a2)]?).bind fun e9 =>
          let x12 := (IntKind.i64.wrap (a1 - (1 : Int)))
          (loopV (slices_partitionOrdered_uint64_L1 a0 x12) (((), ((IntKind.i64.wrap (a0 + (1 : Int))), ())), ((x8.set (Int.toNat a2) e6), ()))).bind fun o13 =>
          (loopV (slices_partitionOrdered_uint64_L2 a0 o13.1.2.1) (((), (x12, ())), (o13.2.1, ()))).bind fun o14 =>
          bif (decide (o14.1.2.1 < o13.1.2.1)) then
            bif (inb a0 (List.length o14.2.1)) then
              (o14.2.1[(Int.toNat a0)]?).bind fun e16 =>
              bif (inb o14.1.2.1 (List.length o14.2.1)) then
                (o14.2.1[(Int.toNat o14.1.2.1)]?).bind fun e17 =>
                bif (inb o14.1.2.1 (List.length o14.2.1)) then
                  (o14.2.1[(Int.toNat o14.1.2.1)]?).bind fun e18 =>
                  let x19 := (o14.2.1.set (Int.toNat o14.1.2.1) e16)
                  bif (inb a0 (List.length x19)) then
                    (x19[(Int.toNat a0)]?).bind fun e20 =>
                    some ((o14.1.2.1, (true, ())), ((x19.set (Int.toNat a0) e17), ()))
                  else
                    none
                else
                  none
              else
                none
            else
              none
          else
            bif (inb o14.1.2.1 (List.length o14.2.1)) then
              (o14.2.1[(Int.toNat o14.1.2.1)]?).bind fun e22 =>
              bif (inb o13.1.2.1 (List.length o14.2.1)) then
                (o14.2.1[(Int.toNat o13.1.2.1)]?).bind fun e23 =>
                bif (inb o13.1.2.1 (List.length o14.2.1)) then
                  (o14.2.1[(Int.toNat o13.1.2.1)]?).bind fun e24 =>
                  let x25 := (o14.2.1.set (Int.toNat o13.1.2.1) e22)
                  bif (inb o14.1.2.1 (List.length x25)) then
                    (x25[(Int.toNat o14.1.2.1)]?).bind fun e26 =>
                    (loopV (slices_partitionOrdered_uint64_L3 a0) (((), ((IntKind.i64.wrap (o13.1.2.1 + (1 : Int))), ((IntKind.i64.wrap (o14.1.2.1 - (1 : Int))), ()))), ((x25.set (Int.toNat o14.1.2.1) e23), ()))).bind fun o30 =>
                    bif (inb a0 (List.length o30.2.1)) then
                      (o30.2.1[(Int.toNat a0)]?).bind fun e31 =>
                      bif (inb o30.1.2.1 (List.length o30.2.1)) then
                        (o30.2.1[(Int.toNat o30.1.2.1)]?).bind fun e32 =>
                        bif (inb o30.1.2.1 (List.length o30.2.1)) then
                          (o30.2.1[(Int.toNat o30.1.2.1)]?).bind fun e33 =>
                          let x34 := (o30.2.1.set (Int.toNat o30.1.2.1) e31)
                          bif (inb a0 (List.length x34)) then
                            (x34[(Int.toNat a0)]?).bind fun e35 =>
                            some ((o30.1.2.1, (false, ())), ((x34.set (Int.toNat a0) e32), ()))
                          else
                            none
                        else
                          none
                      else
                        none
                    else
                      none
                  else
                    none
                else
                  none
              else
                none
            else
              none
        else
          none
      else
        none
    else
      none
  else
    none

def slices_pdqsortOrdered_uint64_J2 (self : ((Unit × Int × Int × Int × Unit) × (List Int) × Unit) → Option ((Unit) × (List Int) × Unit)) (c1 : Int) (c2 : Int) (c8 : Bool) (v : (Unit × Int × Unit) × (List Int) × Unit) : Option ((Unit × Int × Unit) × (List Int) × Unit) :=
  bif (!c8) then
    (slices_breakPatternsOrdered_uint64 c1 c2 v.2.1).bind fun r3002 =>
    some (((), ((IntKind.i64.wrap (v.1.2.1 - (1 : Int))), ())), (r3002.2.1, ()))
  else
    some (((), (v.1.2.1, ())), (v.2.1, ()))

def slices_pdqsortOrdered_uint64_J3 (self : ((Unit × Int × Int × Int × Unit) × (List Int) × Unit) → Option ((Unit) × (List Int) × Unit)) (c1 : Int) (c2 : Int) (v : (Unit × Int × Int × Unit) × (List Int) × Unit) : Option ((Unit × Int × Int × Unit) × (List Int) × Unit) :=
  bif (decide (v.1.2.2.1 = (2 : Int))) then
    (slices_reverseRangeOrdered_uint64 c1 c2 v.2.1).bind fun r4002 =>
    some (((), ((IntKind.i64.wrap ((IntKind.i64.wrap (c2 - (1 : Int))) - (IntKind.i64.wrap (v.1.2.1 - c1)))), ((1 : Int), ()))), (r4002.2.1, ()))
  else
    some (((), (v.1.2.1, (v.1.2.2.1, ()))), (v.2.1, ()))

def slices_pdqsortOrdered_uint64_J4 (self : ((Unit × Int × Int × Int × Unit) × (List Int) × Unit) → Option ((Unit) × (List Int) × Unit)) (c1 : Int) (c2 : Int) (c8 : Bool) (c9 : Bool) (c12 : Int) (v : (Unit × Unit) × (List Int) × Unit) : Option (((Unit) × (List Int) × Unit) ⊕ ((Unit × Unit) × (List Int) × Unit)) :=
  bif c8 then
    bif c9 then
      bif (decide (c12 = (1 : Int))) then
        (slices_partialInsertionSortOrdered_uint64 c1 c2 v.2.1).bind fun r5002 =>
        bif r5002.1.1 then
          some (.inl ((), (r5002.2.1, ())))
        else
          some (.inr (((), ()), (r5002.2.1, ())))
      else
        some (.inr (((), ()), (v.2.1, ())))
    else
      some (.inr (((), ()), (v.2.1, ())))
  else
    some (.inr (((), ()), (v.2.1, ())))

def slices_pdqsortOrdered_uint64_J5 (self : ((Unit × Int × Int × Int × Unit) × (List Int) × Unit) → Option ((Unit) × (List Int) × Unit)) (c2 : Int) (c11 : Int) (v : (Unit × Int × Unit) × (List Int) × Unit) : Option (((Unit × Int × Unit) × (List Int) × Unit) ⊕ ((Unit × Int × Unit) × (List Int) × Unit)) :=
  bif (decide ((0 : Int) < v.1.2.1)) then
    let x6002 := (IntKind.i64.wrap (v.1.2.1 - (1 : Int)))
    bif (inb x6002 (List.length v.2.1)) then
      (v.2.1[(Int.toNat x6002)]?).bind fun e6003 =>
      bif (inb c11 (List.length v.2.1)) then
        (v.2.1[(Int.toNat c11)]?).bind fun e6004 =>
        (cmp_Less_uint64 e6003 e6004).bind fun r6005 =>
        bif (!r6005.1.1) then
          (slices_partitionEqualOrdered_uint64 v.1.2.1 c2 c11 v.2.1).bind fun r6007 =>
          some (.inl (((), (r6007.1.1, ())), (r6007.2.1, ())))
        else
          some (.inr (((), (v.1.2.1, ())), (v.2.1, ())))
      else
        none
    else
      none
  else
    some (.inr (((), (v.1.2.1, ())), (v.2.1, ())))

def slices_pdqsortOrdered_uint64_L1 (self : ((Unit × Int × Int × Int × Unit) × (List Int) × Unit) → Option ((Unit) × (List Int) × Unit)) (v : (Unit × Int × Int × Int × Bool × Bool × Unit) × (List Int) × Unit) : Option (((Unit × Int × Int × Int × Bool × Bool × Unit) × (List Int) × Unit) ⊕ ((Unit) × (List Int) × Unit)) :=
  let x2001 := (IntKind.i64.wrap (v.1.2.2.1 - v.1.2.1))
  bif (decide (x2001 ≤ (12 : Int))) then
    (slices_insertionSortOrdered_uint64 v.1.2.1 v.1.2.2.1 v.2.1).bind fun r2003 =>
    some (.inr ((), (r2003.2.1, ())))
  else
    bif (decide (v.1.2.2.2.1 = (0 : Int))) then
      (slices_heapSortOrdered_uint64 v.1.2.1 v.1.2.2.1 v.2.1).bind fun r2005 =>
      some (.inr ((), (r2005.2.1, ())))
    else
      (slices_pdqsortOrdered_uint64_J2 self v.1.2.1 v.1.2.2.1 v.1.2.2.2.2.1 (((), (v.1.2.2.2.1, ())), (v.2.1, ()))).bind fun o2006 =>
      (slices_choosePivotOrdered_uint64 o2006.2.1 v.1.2.1 v.1.2.2.1).bind fun r2007 =>
      (slices_pdqsortOrdered_uint64_J3 self v.1.2.1 v.1.2.2.1 (((), (r2007.1.1, (r2007.1.2.1, ()))), (o2006.2.1, ()))).bind fun o2008 =>
      (slices_pdqsortOrdered_uint64_J4 self v.1.2.1 v.1.2.2.1 v.1.2.2.2.2.1 v.1.2.2.2.2.2.1 o2008.1.2.2.1 (((), ()), (o2008.2.1, ()))).bind fun o2009 =>
      match o2009 with
      | .inl o2010 =>
        some (.inr ((), (o2010.2.1, ())))
      | .inr o2011 =>
        (slices_pdqsortOrdered_uint64_J5 self v.1.2.2.1 o2008.1.2.1 (((), (v.1.2.1, ())), (o2011.2.1, ()))).bind fun o2012 =>
        match o2012 with
        | .inl o2013 =>
          some (.inl (((), (o2013.1.2.1, (v.1.2.2.1, (o2006.1.2.1, (v.1.2.2.2.2.1, (v.1.2.2.2.2.2.1, ())))))), (o2013.2.1, ())))
        | .inr o2014 =>
          (slices_partitionOrdered_uint64 o2014.1.2.1 v.1.2.2.1 o2008.1.2.1 o2014.2.1).bind fun r2015 =>
          let x2016 := (IntKind.i64.wrap (r2015.1.1 - o2014.1.2.1))
          let x2017 := (IntKind.i64.wrap (v.1.2.2.1 - r2015.1.1))
          let x2018 := (IntKind.i64.wrap (Int.tdiv x2001 (8 : Int)))
          bif (decide (x2016 < x2017)) then
            (self (((), (o2014.1.2.1, (r2015.1.1, (o2006.1.2.1, ())))), (r2015.2.1, ()))).bind fun r2021 =>
            some (.inl (((), ((IntKind.i64.wrap (r2015.1.1 + (1 : Int))), (v.1.2.2.1, (o2006.1.2.1, ((decide (x2018 ≤ x2016)), (r2015.1.2.1, ())))))), (r2021.2.1, ())))
          else
            (self (((), ((IntKind.i64.wrap (r2015.1.1 + (1 : Int))), (v.1.2.2.1, (o2006.1.2.1, ())))), (r2015.2.1, ()))).bind fun r2025 =>
            some (.inl (((), (o2014.1.2.1, (r2015.1.1, (o2006.1.2.1, ((decide (x2018 ≤ x2017)), (r2015.1.2.1, ())))))), (r2025.2.1, ())))

/-- slices.pdqsortOrdered[uint64]: one call -/
def slices_pdqsortOrdered_uint64_R (self : ((Unit × Int × Int × Int × Unit) × (List Int) × Unit) → Option ((Unit) × (List Int) × Unit)) (v : (Unit × Int × Int × Int × Unit) × (List Int) × Unit) : Option ((Unit) × (List Int) × Unit) :=
  (loopV (slices_pdqsortOrdered_uint64_L1 self) (((), (v.1.2.1, (v.1.2.2.1, (v.1.2.2.2.1, (true, (true, ())))))), (v.2.1, ()))).bind fun o5 =>
  some ((), (o5.2.1, ()))

/-- slices.pdqsortOrdered[uint64] -/
def slices_pdqsortOrdered_uint64 (a0 : Int) (a1 : Int) (a2 : Int) (a3 : List Int) : Option ((Unit) × (List Int) × Unit) := fixN slices_pdqsortOrdered_uint64_R fuel (((), (a0, (a1, (a2, ())))), (a3, ()))

/-- slices.Sort[[]uint64,uint64] -/
def slices_Sort_uint64_uint64 (a0 : List Int) : Option ((Unit) × (List Int) × Unit) :=
  let x2 := (((List.length a0) : Int))
  (math_bits_Len (IntKind.u64.wrap (x2))).bind fun r4 =>
  (slices_pdqsortOrdered_uint64 (0 : Int) x2 r4.1.1 a0).bind fun r5 =>
  some ((), (r5.2.1, ()))

end Go.PE
end
end

section
set_option linter.unusedVariables false
noncomputable section
namespace Go.PE

def selection_proper_L1 (c7 : List Int) (c8 : Int) (v : (Int × Unit) × Unit) : Option (((Int × Unit) × Unit) ⊕ (((Bool × Unit) × Unit) ⊕ ((Unit) × Unit))) :=
  bif (decide (v.1.1 < c8)) then
    bif (inb v.1.1 (List.length c7)) then
      let x2002 := (rd (.int .i64) c7 v.1.1)
      bif (decide (x2002 < (1 : Int))) then
        some (.inr (.inl ((false, ()), ())))
      else
        bif (decide ((2100000000000000 : Int) < x2002)) then
          some (.inr (.inl ((false, ()), ())))
        else
          some (.inl (((IntKind.i64.wrap (v.1.1 + (1 : Int))), ()), ()))
    else
      none
  else
    some (.inr (.inr ((), ())))

/-- lightclient/selection.proper -/
def selection_proper (a0 : List Int) (a1 : Int) : Option ((Bool × Unit) × Unit) :=
  (loopV (selection_proper_L1 a0 (((List.length a0) : Int))) (((0 : Int), ()), ())).bind fun o4 =>
  match o4 with
  | .inl o5 =>
    some ((o5.1.1, ()), ())
  | .inr o6 =>
    bif (decide ((1 : Int) ≤ a1)) then
      some (((decide (a1 ≤ (2100000000000000 : Int))), ()), ())
    else
      some ((false, ()), ())

def selection_total_L1 (c6 : List Int) (c7 : Int) (v : (Int × Int × Unit) × Unit) : Option (((Int × Int × Unit) × Unit) ⊕ ((Int × Unit) × Unit)) :=
  bif (decide (v.1.2.1 < c7)) then
    bif (inb v.1.2.1 (List.length c6)) then
      some (.inl (((IntKind.i64.wrap (v.1.1 + (rd (.int .i64) c6 v.1.2.1))), ((IntKind.i64.wrap (v.1.2.1 + (1 : Int))), ())), ()))
    else
      none
  else
    some (.inr ((v.1.1, ()), ()))

/-- lightclient/selection.total -/
def selection_total (a0 : List Int) : Option ((Int × Unit) × Unit) :=
  (loopV (selection_total_L1 a0 (((List.length a0) : Int))) (((0 : Int), ((0 : Int), ())), ())).bind fun o3 =>
  some ((o3.1.1, ()), ())

/-- lightclient/selection.fault -/
def selection_fault (a0 : List Int) (a1 : Int) : Option ((Int × Unit) × Unit) :=
  bif (decide ((16 : Int) < (((List.length a0) : Int)))) then
    some (((4 : Int), ()), ())
  else
    (selection_proper a0 a1).bind fun r5 =>
    bif (!r5.1.1) then
      some (((5 : Int), ()), ())
    else
      (selection_total a0).bind fun r7 =>
      bif (decide (r7.1.1 < a1)) then
        some (((320 : Int), ()), ())
      else
        some (((0 : Int), ()), ())

def selection_search_look_J1 (self : ((Unit × Int × Int × Int × Unit) × ((List Int) × Int × Unit × (Unit × Int × Unit) × Bool × Unit) × (List Int) × (List Int) × Unit) → Option ((Unit) × ((List Int) × Int × Unit × (Unit × Int × Unit) × Bool × Unit) × Unit × Unit × (List Int) × (List Int) × Unit)) (c2 : Int) (v : (Unit × Unit) × ((List Int) × Int × Unit × (Unit × Int × Unit) × Bool × Unit) × (List Int) × (List Int) × Unit) : Option ((Unit × Bool × Unit) × ((List Int) × Int × Unit × (Unit × Int × Unit) × Bool × Unit) × (List Int) × (List Int) × Unit) :=
  bif (!v.2.1.2.2.2.2.1) then
    some (((), (true, ())), ((v.2.1.1, (v.2.1.2.1, ((), (((), v.2.1.2.2.2.1.2), v.2.1.2.2.2.2)))), (v.2.2.1, (v.2.2.2.1, ()))))
  else
    some (((), ((decide (c2 < v.2.1.2.2.2.1.2.1)), ())), ((v.2.1.1, (v.2.1.2.1, ((), (((), v.2.1.2.2.2.1.2), v.2.1.2.2.2.2)))), (v.2.2.1, (v.2.2.2.1, ()))))

/-- (*lightclient/selection.search).look: one call -/
def selection_search_look_R (self : ((Unit × Int × Int × Int × Unit) × ((List Int) × Int × Unit × (Unit × Int × Unit) × Bool × Unit) × (List Int) × (List Int) × Unit) → Option ((Unit) × ((List Int) × Int × Unit × (Unit × Int × Unit) × Bool × Unit) × Unit × Unit × (List Int) × (List Int) × Unit)) (v : (Unit × Int × Int × Int × Unit) × ((List Int) × Int × Unit × (Unit × Int × Unit) × Bool × Unit) × (List Int) × (List Int) × Unit) : Option ((Unit) × ((List Int) × Int × Unit × (Unit × Int × Unit) × Bool × Unit) × Unit × Unit × (List Int) × (List Int) × Unit) :=
  bif (decide (v.2.1.2.1 ≤ v.1.2.2.1)) then
    (selection_search_look_J1 self v.1.2.2.1 (((), ()), ((v.2.1.1, (v.2.1.2.1, ((), (((), v.2.1.2.2.2.1.2), v.2.1.2.2.2.2)))), (v.2.2.1, (v.2.2.2.1, ()))))).bind fun o11 =>
    bif o11.1.2.1 then
      (slices_Clone_int_int o11.2.2.1).bind fun r12 =>
      some ((), ((o11.2.1.1, (o11.2.1.2.1, ((), (((), (v.1.2.2.1, ())), (true, o11.2.1.2.2.2.2.2))))), ((), ((), (o11.2.2.1, (r12.2.1, ()))))))
    else
      some ((), ((o11.2.1.1, (o11.2.1.2.1, ((), (((), o11.2.1.2.2.2.1.2), o11.2.1.2.2.2.2)))), ((), ((), (o11.2.2.1, (o11.2.2.2.1, ()))))))
  else
    bif (decide ((IntKind.i64.wrap (v.1.2.2.1 + v.1.2.2.2.1)) < v.2.1.2.1)) then
      some ((), ((v.2.1.1, (v.2.1.2.1, ((), (((), v.2.1.2.2.2.1.2), v.2.1.2.2.2.2)))), ((), ((), (v.2.2.1, (v.2.2.2.1, ()))))))
    else
      bif (inb v.1.2.1 (List.length v.2.1.1)) then
        let x15 := (rd (.int .i64) v.2.1.1 v.1.2.1)
        let x16 := ([v.1.2.1] : List Int)
        bif (decide ((List.length v.2.2.1) + (List.length x16) ≤ lim)) then
          (self (((), ((IntKind.i64.wrap (v.1.2.1 + (1 : Int))), ((IntKind.i64.wrap (v.1.2.2.1 + x15)), ((IntKind.i64.wrap (v.1.2.2.2.1 - x15)), ())))), ((v.2.1.1, (v.2.1.2.1, ((), (((), v.2.1.2.2.2.1.2), v.2.1.2.2.2.2)))), ((v.2.2.1 ++ x16), (v.2.2.2.1, ()))))).bind fun r21 =>
          let x23 := (IntKind.i64.wrap ((((List.length r21.2.2.2.2.1) : Int)) - (1 : Int)))
          bif (decide (0 ≤ x23) && decide (x23 ≤ ((List.length r21.2.2.2.2.1) : Int))) then
            bif (Nat.ble (((0) + (Int.toNat x23))) (List.length r21.2.2.2.2.1)) then
              (self (((), ((IntKind.i64.wrap (v.1.2.1 + (1 : Int))), (v.1.2.2.1, ((IntKind.i64.wrap (v.1.2.2.2.1 - x15)), ())))), ((r21.2.1.1, (r21.2.1.2.1, ((), (((), r21.2.1.2.2.2.1.2), r21.2.1.2.2.2.2)))), ((sub r21.2.2.2.2.1 (0) (Int.toNat x23)), (r21.2.2.2.2.2.1, ()))))).bind fun r26 =>
              some ((), ((r26.2.1.1, (r26.2.1.2.1, ((), (((), r26.2.1.2.2.2.1.2), r26.2.1.2.2.2.2)))), ((), ((), (r26.2.2.2.2.1, (r26.2.2.2.2.2.1, ()))))))
            else
              none
          else
            none
        else
          none
      else
        none

/-- (*lightclient/selection.search).look -/
def selection_search_look (a0 : Int) (a1 : Int) (a2 : Int) (a3 : List Int) (a4 : Int) (a5 : Int × Unit) (a6 : Bool × Unit) (a7 : List Int) (a8 : List Int) : Option ((Unit) × ((List Int) × Int × Unit × (Unit × Int × Unit) × Bool × Unit) × Unit × Unit × (List Int) × (List Int) × Unit) := fixN selection_search_look_R fuel (((), (a0, (a1, (a2, ())))), ((a3, (a4, ((), (((), a5), a6)))), (a7, (a8, ()))))

def selection_certify_J1 (self : ((Unit × (List Int) × Int × Int × Int × Int × Int × Unit) × (List Int) × Unit) → Option ((Unit × Unit) × Unit × (List Int) × Unit)) (c2 : Int) (c3 : Int) (c5 : Int) (c6 : Int) (v : (Unit × Unit) × (List Int) × Unit) : Option ((Unit × Bool × Unit) × (List Int) × Unit) :=
  bif (decide (c3 ≤ c5)) then
    some (((), (true, ())), (v.2.1, ()))
  else
    bif (decide ((IntKind.i64.wrap (c5 + c6)) < c2)) then
      some (((), (true, ())), (v.2.1, ()))
    else
      some (((), ((decide ((16384 : Int) < (((List.length v.2.1) : Int)))), ())), (v.2.1, ()))

/-- lightclient/selection.certify: one call -/
def selection_certify_R (self : ((Unit × (List Int) × Int × Int × Int × Int × Int × Unit) × (List Int) × Unit) → Option ((Unit × Unit) × Unit × (List Int) × Unit)) (v : (Unit × (List Int) × Int × Int × Int × Int × Int × Unit) × (List Int) × Unit) : Option ((Unit × Unit) × Unit × (List Int) × Unit) :=
  (selection_certify_J1 self v.1.2.2.1 v.1.2.2.2.1 v.1.2.2.2.2.2.1 v.1.2.2.2.2.2.2.1 (((), ()), (v.2.1, ()))).bind fun o8 =>
  bif o8.1.2.1 then
    let x9 := ([(2 : Int)] : List Int)
    bif (decide ((List.length o8.2.1) + (List.length x9) ≤ lim)) then
      some (((), ()), ((), ((o8.2.1 ++ x9), ())))
    else
      none
  else
    bif (inb v.1.2.2.2.2.1 (List.length v.1.2.1)) then
      let x11 := (rd (.int .i64) v.1.2.1 v.1.2.2.2.2.1)
      let x12 := ([(1 : Int)] : List Int)
      bif (decide ((List.length o8.2.1) + (List.length x12) ≤ lim)) then
        (self (((), (v.1.2.1, (v.1.2.2.1, (v.1.2.2.2.1, ((IntKind.i64.wrap (v.1.2.2.2.2.1 + (1 : Int))), ((IntKind.i64.wrap (v.1.2.2.2.2.2.1 + x11)), ((IntKind.i64.wrap (v.1.2.2.2.2.2.2.1 - x11)), ()))))))), ((o8.2.1 ++ x12), ()))).bind fun r17 =>
        (self (((), (v.1.2.1, (v.1.2.2.1, (v.1.2.2.2.1, ((IntKind.i64.wrap (v.1.2.2.2.2.1 + (1 : Int))), (v.1.2.2.2.2.2.1, ((IntKind.i64.wrap (v.1.2.2.2.2.2.2.1 - x11)), ()))))))), (r17.2.2.1, ()))).bind fun r20 =>
        some (((), ()), ((), (r20.2.2.1, ())))
      else
        none
    else
      none

/-- lightclient/selection.certify -/
def selection_certify (a0 : List Int) (a1 : Int) (a2 : Int) (a3 : Int) (a4 : Int) (a5 : Int) (a6 : List Int) : Option ((Unit × Unit) × Unit × (List Int) × Unit) := fixN selection_certify_R fuel (((), (a0, (a1, (a2, (a3, (a4, (a5, ()))))))), (a6, ()))

/-- lightclient/selection.Best -/
def selection_Best (a0 : List Int) (a1 : Int) : Option (((Unit × Int × Unit) × Unit × Int × Unit) × (List Int) × (List Int) × Unit) :=
  (selection_fault a0 a1).bind fun r3 =>
  bif (!decide (r3.1.1 = (0 : Int))) then
    some ((((), ((0 : Int), ())), ((), (r3.1.1, ()))), (([] : List Int), (([] : List Int), ())))
  else
    (selection_total a0).bind fun r5 =>
    (selection_search_look (0 : Int) (0 : Int) r5.1.1 a0 a1 ((0 : Int), ()) (false, ()) ([] : List Int) ([] : List Int)).bind fun r6 =>
    (selection_total a0).bind fun r7 =>
    (selection_certify a0 a1 r6.2.1.2.2.2.1.2.1 (0 : Int) (0 : Int) r7.1.1 ([] : List Int)).bind fun r8 =>
    bif (decide ((16384 : Int) < (((List.length r8.2.2.1) : Int)))) then
      some ((((), ((0 : Int), ())), ((), ((4 : Int), ()))), (([] : List Int), (([] : List Int), ())))
    else
      some ((((), r6.2.1.2.2.2.1.2), ((), ((0 : Int), ()))), (r6.2.2.2.2.2.1, (r8.2.2.1, ())))

def selection_check_J1 (self : (((List Int) × (List Int) × Int × Int × Int × Int × Int × Unit) × Unit) → Option (((List Int) × Int × Unit) × Unit)) (c2 : Int) (c3 : Int) (c5 : Int) (c6 : Int) (c16 : Int) (v : (Unit) × Unit) : Option ((Bool × Unit) × Unit) :=
  bif (decide (c16 = (2 : Int))) then
    bif (decide (c3 ≤ c5)) then
      some ((true, ()), ())
    else
      some (((decide ((IntKind.i64.wrap (c5 + c6)) < c2)), ()), ())
  else
    some ((false, ()), ())

/-- lightclient/selection.check: one call -/
def selection_check_R (self : (((List Int) × (List Int) × Int × Int × Int × Int × Int × Unit) × Unit) → Option (((List Int) × Int × Unit) × Unit)) (v : ((List Int) × (List Int) × Int × Int × Int × Int × Int × Unit) × Unit) : Option (((List Int) × Int × Unit) × Unit) :=
  bif (decide ((((List.length v.1.1) : Int)) = (0 : Int))) then
    some ((([] : List Int), ((321 : Int), ())), ())
  else
    bif (inb (0 : Int) (List.length v.1.1)) then
      let x10 := (rd (.int .u8) v.1.1 (0 : Int))
      bif (decide (0 ≤ (1 : Int)) && decide ((1 : Int) ≤ ((List.length v.1.1) : Int))) then
        let x11 := (sub v.1.1 (1) ((List.length v.1.1) - (1)))
        (selection_check_J1 self v.1.2.2.1 v.1.2.2.2.1 v.1.2.2.2.2.2.1 v.1.2.2.2.2.2.2.1 x10 ((), ())).bind fun o12 =>
        bif o12.1.1 then
          some ((x11, ((0 : Int), ())), ())
        else
          bif (!decide (x10 = (1 : Int))) then
            some ((([] : List Int), ((321 : Int), ())), ())
          else
            bif (decide ((((List.length v.1.2.1) : Int)) ≤ v.1.2.2.2.2.1)) then
              some ((([] : List Int), ((321 : Int), ())), ())
            else
              bif (inb v.1.2.2.2.2.1 (List.length v.1.2.1)) then
                let x16 := (rd (.int .i64) v.1.2.1 v.1.2.2.2.2.1)
                (self ((x11, (v.1.2.1, (v.1.2.2.1, (v.1.2.2.2.1, ((IntKind.i64.wrap (v.1.2.2.2.2.1 + (1 : Int))), ((IntKind.i64.wrap (v.1.2.2.2.2.2.1 + x16)), ((IntKind.i64.wrap (v.1.2.2.2.2.2.2.1 - x16)), ()))))))), ())).bind fun r20 =>
                bif (!decide (r20.1.2.1 = (0 : Int))) then
                  some ((([] : List Int), (r20.1.2.1, ())), ())
                else
                  (self ((r20.1.1, (v.1.2.1, (v.1.2.2.1, (v.1.2.2.2.1, ((IntKind.i64.wrap (v.1.2.2.2.2.1 + (1 : Int))), (v.1.2.2.2.2.2.1, ((IntKind.i64.wrap (v.1.2.2.2.2.2.2.1 - x16)), ()))))))), ())).bind fun r24 =>
                  some ((r24.1.1, (r24.1.2.1, ())), ())
              else
                none
      else
        none
    else
      none

/-- lightclient/selection.check -/
def selection_check (a0 : List Int) (a1 : List Int) (a2 : Int) (a3 : Int) (a4 : Int) (a5 : Int) (a6 : Int) : Option (((List Int) × Int × Unit) × Unit) := fixN selection_check_R fuel ((a0, (a1, (a2, (a3, (a4, (a5, (a6, ()))))))), ())

def selection_Check_J2 (c0 : List Int) (c10 : Int) (c11 : Int) (v : (Unit × Unit) × D_3393 × Unit) : Option (((Int × Unit) × Unit) ⊕ ((Unit × Unit) × D_3393 × Unit)) :=
  bif (decide (c11 < (0 : Int))) then
    some (.inl (((6 : Int), ()), ()))
  else
    bif (decide ((((List.length c0) : Int)) ≤ c11)) then
      some (.inl (((6 : Int), ()), ()))
    else
      bif (decide ((0 : Int) < c10)) then
        let x3005 := (IntKind.i64.wrap (c10 - (1 : Int)))
        bif (inb x3005 (List.length v.2.1.1)) then
          bif (decide (c11 ≤ (rd (.int .i64) v.2.1.1 x3005))) then
            some (.inl (((6 : Int), ()), ()))
          else
            some (.inr (((), ()), (v.2.1, ())))
        else
          none
      else
        some (.inr (((), ()), (v.2.1, ())))

def selection_Check_L1 (c0 : List Int) (c27 : List Int) (c28 : Int) (v : (Unit × Int × Int × Unit) × D_3393 × Unit) : Option (((Unit × Int × Int × Unit) × D_3393 × Unit) ⊕ (((Int × Unit) × Unit) ⊕ ((Unit × Int × Unit) × D_3393 × Unit))) :=
  bif (decide (v.1.2.2.1 < c28)) then
    bif (inb v.1.2.2.1 (List.length c27)) then
      let x2002 := (rd (.int .i64) c27 v.1.2.2.1)
      (selection_Check_J2 c0 v.1.2.2.1 x2002 (((), ()), (v.2.1, ()))).bind fun o2003 =>
      match o2003 with
      | .inl o2004 =>
        some (.inr (.inl ((o2004.1.1, ()), ())))
      | .inr o2005 =>
        bif (inb x2002 (List.length c0)) then
          some (.inl (((), ((IntKind.i64.wrap (v.1.2.1 + (rd (.int .i64) c0 x2002))), ((IntKind.i64.wrap (v.1.2.2.1 + (1 : Int))), ()))), (o2005.2.1, ())))
        else
          none
    else
      none
  else
    some (.inr (.inr (((), (v.1.2.1, ())), (v.2.1, ()))))

/-- lightclient/selection.Check -/
def selection_Check (a0 : List Int) (a1 : Int) (a2 : D_3393) (a3 : List Int) : Option ((Int × Unit) × Unit) :=
  bif (decide ((16 : Int) < (((List.length a0) : Int)))) then
    some (((4 : Int), ()), ())
  else
    bif (decide ((16384 : Int) < (((List.length a3) : Int)))) then
      some (((4 : Int), ()), ())
    else
      (selection_proper a0 a1).bind fun r9 =>
      bif (!r9.1.1) then
        some (((5 : Int), ()), ())
      else
        (loopV (selection_Check_L1 a0 a2.1 (((List.length a2.1) : Int))) (((), ((0 : Int), ((0 : Int), ()))), (a2, ()))).bind fun o12 =>
        match o12 with
        | .inl o13 =>
          some ((o13.1.1, ()), ())
        | .inr o14 =>
          bif (!decide (o14.1.2.1 = o14.2.1.2.1)) then
            some (((6 : Int), ()), ())
          else
            bif (decide (o14.1.2.1 < a1)) then
              some (((320 : Int), ()), ())
            else
              (selection_total a0).bind fun r17 =>
              (selection_check a3 a0 a1 o14.1.2.1 (0 : Int) (0 : Int) r17.1.1).bind fun r18 =>
              bif (decide (r18.1.2.1 = (0 : Int))) then
                bif (decide ((0 : Int) < (((List.length r18.1.1) : Int)))) then
                  some (((2 : Int), ()), ())
                else
                  some ((r18.1.2.1, ()), ())
              else
                some ((r18.1.2.1, ()), ())

def selection_Largest_J3 (c0 : List Int) (c22 : List Int) (c24 : Int) (v : (Unit × Unit × Int × Unit) × (Unit × Int × Unit) × (Unit × Int × Unit) × (List Int) × Unit) : Option ((Unit × Unit × Int × Unit) × (Unit × Int × Unit) × (Unit × Int × Unit) × (List Int) × Unit) :=
  bif (inb c24 (List.length c22)) then
    (slices_Contains_int_int v.2.2.2.1 c24).bind fun r4002 =>
    bif (!r4002.1.1) then
      bif (decide (v.1.2.2.1 < (0 : Int))) then
        some (((), ((), (c24, ()))), (((), v.2.1.2), (((), v.2.2.1.2), (v.2.2.2.1, ()))))
      else
        bif (inb v.1.2.2.1 (List.length c0)) then
          bif (decide ((rd (.int .i64) c0 v.1.2.2.1) < (rd (.int .i64) c22 c24))) then
            some (((), ((), (c24, ()))), (((), v.2.1.2), (((), v.2.2.1.2), (v.2.2.2.1, ()))))
          else
            some (((), ((), (v.1.2.2.1, ()))), (((), v.2.1.2), (((), v.2.2.1.2), (v.2.2.2.1, ()))))
        else
          none
    else
      some (((), ((), (v.1.2.2.1, ()))), (((), v.2.1.2), (((), v.2.2.1.2), (v.2.2.2.1, ()))))
  else
    none

def selection_Largest_L2 (c0 : List Int) (c22 : List Int) (c23 : Int) (v : (Unit × Unit × Int × Int × Unit) × (Unit × Int × Unit) × (Unit × Int × Unit) × (List Int) × Unit) : Option (((Unit × Unit × Int × Int × Unit) × (Unit × Int × Unit) × (Unit × Int × Unit) × (List Int) × Unit) ⊕ ((Unit × Unit × Int × Unit) × (Unit × Int × Unit) × (Unit × Int × Unit) × (List Int) × Unit)) :=
  bif (decide (v.1.2.2.2.1 < c23)) then
    (selection_Largest_J3 c0 c22 v.1.2.2.2.1 (((), ((), (v.1.2.2.1, ()))), (((), v.2.1.2), (((), v.2.2.1.2), (v.2.2.2.1, ()))))).bind fun o3002 =>
    some (.inl (((), ((), (o3002.1.2.2.1, ((IntKind.i64.wrap (v.1.2.2.2.1 + (1 : Int))), ())))), (((), o3002.2.1.2), (((), o3002.2.2.1.2), (o3002.2.2.2.1, ())))))
  else
    some (.inr (((), ((), (v.1.2.2.1, ()))), (((), v.2.1.2), (((), v.2.2.1.2), (v.2.2.2.1, ())))))

def selection_Largest_L1 (c0 : List Int) (c1 : Int) (v : (Unit × Unit × Unit) × (Unit × Int × Unit) × (Unit × Int × Unit) × (List Int) × Unit) : Option (((Unit × Unit × Unit) × (Unit × Int × Unit) × (Unit × Int × Unit) × (List Int) × Unit) ⊕ ((Unit × Unit × Unit) × (Unit × Int × Unit) × (Unit × Int × Unit) × (List Int) × Unit)) :=
  bif (decide (v.2.2.1.2.1 < c1)) then
    (loopV (selection_Largest_L2 c0 c0 (((List.length c0) : Int))) (((), ((), ((-1 : Int), ((0 : Int), ())))), (((), v.2.1.2), (((), v.2.2.1.2), (v.2.2.2.1, ()))))).bind fun o2003 =>
    let x2004 := ([o2003.1.2.2.1] : List Int)
    bif (decide ((List.length o2003.2.2.2.1) + (List.length x2004) ≤ lim)) then
      bif (inb o2003.1.2.2.1 (List.length c0)) then
        some (.inl (((), ((), ())), (((), o2003.2.1.2), (((), ((IntKind.i64.wrap (o2003.2.2.1.2.1 + (rd (.int .i64) c0 o2003.1.2.2.1))), o2003.2.2.1.2.2)), ((o2003.2.2.2.1 ++ x2004), ())))))
      else
        none
    else
      none
  else
    some (.inr (((), ((), ())), (((), v.2.1.2), (((), v.2.2.1.2), (v.2.2.2.1, ())))))

/-- lightclient/selection.Largest -/
def selection_Largest (a0 : List Int) (a1 : Int) : Option (((Unit × Int × Unit) × Int × Unit) × (List Int) × Unit) :=
  (selection_fault a0 a1).bind fun r3 =>
  bif (!decide (r3.1.1 = (0 : Int))) then
    some ((((), ((0 : Int), ())), (r3.1.1, ())), (([] : List Int), ()))
  else
    (loopV (selection_Largest_L1 a0 a1) (((), ((), ())), (((), ((0 : Int), ())), (((), ((0 : Int), ())), (([] : List Int), ()))))).bind fun o5 =>
    (slices_Sort_int_int o5.2.2.2.1).bind fun r6 =>
    some ((((), o5.2.2.1.2), ((0 : Int), ())), (r6.2.1, ()))

end Go.PE
end
end

section
set_option linter.unusedVariables false
noncomputable section
namespace Go.PE

/-- lightclient/lightclientlaw32.sane -/
def law32_sane : Option ((Bool × Unit) × Unit) :=
  (selection_Best ([(5 : Int), (3 : Int), (2 : Int)] : List Int) (5 : Int)).bind fun r2 =>
  (selection_Best ([(4 : Int), (4 : Int)] : List Int) (9 : Int)).bind fun r4 =>
  bif (decide (r2.1.2.2.1 = (0 : Int))) then
    bif (decide (r2.1.1.2.1 = (5 : Int))) then
      bif (decide ((((List.length r2.2.1) : Int)) = (1 : Int))) then
        bif (inb (0 : Int) (List.length r2.2.1)) then
          (r2.2.1[(0)]?).bind fun e9 =>
          bif (decide (e9 = (0 : Int))) then
            bif (eqList (fun (x y : Int) => decide (x = y)) r2.2.2.1 ([1, 2, 1, 1, 2, 2, 2] : List Int)) then
              some (((decide (r4.1.2.2.1 = (320 : Int))), ()), ())
            else
              some ((false, ()), ())
          else
            some ((false, ()), ())
        else
          none
      else
        some ((false, ()), ())
    else
      some ((false, ()), ())
  else
    some ((false, ()), ())

def law32_made_L1 (v : (Unit × Unit × Int × Unit) × D_3393 × (List Int) × Unit) : Option (((Unit × Unit × Int × Unit) × D_3393 × (List Int) × Unit) ⊕ ((Unit × Unit × Unit) × D_3393 × (List Int) × Unit)) :=
  bif (decide ((0 : Int) < v.1.2.2.1)) then
    (mill_Deck_Next (30 : Int) v.2.1).bind fun r2002 =>
    let x2004 := ([(IntKind.i64.wrap ((1 : Int) + r2002.1.1))] : List Int)
    bif (decide ((List.length v.2.2.1) + (List.length x2004) ≤ lim)) then
      some (.inl (((), ((), ((IntKind.i64.wrap (v.1.2.2.1 - (1 : Int))), ()))), (r2002.2.1, ((v.2.2.1 ++ x2004), ()))))
    else
      none
  else
    some (.inr (((), ((), ())), (v.2.1, (v.2.2.1, ()))))

/-- lightclient/lightclientlaw32.made -/
def law32_made (a0 : List Int) (a1 : Int) : Option ((Unit × Int × Unit) × (List Int) × Unit) :=
  (mill_New a0).bind fun r3 =>
  (mill_Deck_Next (IntKind.i64.wrap (a1 + (1 : Int))) r3.2.1).bind fun r5 =>
  (loopV (law32_made_L1) (((), ((), (r5.1.1, ()))), (r5.2.1, (([] : List Int), ())))).bind fun o6 =>
  (mill_Deck_Next (60 : Int) o6.2.1).bind fun r7 =>
  some (((), ((IntKind.i64.wrap ((1 : Int) + r7.1.1)), ())), (o6.2.2.1, ()))

def law32_SelectionBest_J1 (c1 : List Int) (v : (Unit) × Unit) : Option (((Bool × Unit) × Unit) ⊕ ((Unit) × Unit)) :=
  bif (decide ((12 : Int) < (((List.length c1) : Int)))) then
    bif (decide ((((List.length c1) : Int)) ≤ (16 : Int))) then
      some (.inl ((true, ()), ()))
    else
      some (.inr ((), ()))
  else
    some (.inr ((), ()))

def law32_SelectionBest_L3 (c10 : List Int) (c45 : Int) (v : (Unit × Unit × Int × Unit) × (List (List Int)) × (List Int) × Unit) : Option (((Unit × Unit × Int × Unit) × (List (List Int)) × (List Int) × Unit) ⊕ (((Bool × Unit) × Unit) ⊕ ((Unit × Unit) × (List (List Int)) × Unit))) :=
  bif (decide (v.1.2.2.1 < c45)) then
    bif (inb v.1.2.2.1 (List.length v.2.2.1)) then
      (v.2.2.1[(Int.toNat v.1.2.2.1)]?).bind fun e4002 =>
      (selection_Best c10 e4002).bind fun r4003 =>
      (ref32_Best c10 e4002).bind fun r4004 =>
      bif (!decide (r4003.1.2.2.1 = r4004.1.2.2.1)) then
        some (.inr (.inl ((false, ()), ())))
      else
        (ref32_Same (r4003.2.1, r4003.1.1.2) r4004.1.1).bind fun r4006 =>
        bif (!r4006.1.1) then
          some (.inr (.inl ((false, ()), ())))
        else
          bif (!(eqList (fun (x y : Int) => decide (x = y)) r4003.2.2.1 r4004.2.1)) then
            some (.inr (.inl ((false, ()), ())))
          else
            some (.inl (((), ((), ((IntKind.i64.wrap (v.1.2.2.1 + (1 : Int))), ()))), (v.2.1, (v.2.2.1, ()))))
    else
      none
  else
    some (.inr (.inr (((), ()), (v.2.1, ()))))

def law32_SelectionBest_L2 (c2 : Int) (c8 : Int) (c37 : Int) (v : (Unit × Int × Unit) × (List (List Int)) × Unit) : Option (((Unit × Int × Unit) × (List (List Int)) × Unit) ⊕ (((Bool × Unit) × Unit) ⊕ ((Unit) × Unit))) :=
  bif (decide (v.1.2.1 < c37)) then
    bif (inb v.1.2.1 (List.length v.2.1)) then
      (v.2.1[(Int.toNat v.1.2.1)]?).bind fun e3002 =>
      let x3003 := ([c8, c2] : List Int)
      (loopV (law32_SelectionBest_L3 e3002 (((List.length x3003) : Int))) (((), ((), ((0 : Int), ()))), (v.2.1, (x3003, ())))).bind fun o3005 =>
      match o3005 with
      | .inl o3006 =>
        some (.inr (.inl ((o3006.1.1, ()), ())))
      | .inr o3007 =>
        some (.inl (((), ((IntKind.i64.wrap (v.1.2.1 + (1 : Int))), ())), (o3007.2.1, ())))
    else
      none
  else
    some (.inr (.inr ((), ())))

/-- lightclient/lightclientlaw32.SelectionBest -/
def law32_SelectionBest (a0 : List Int) (a1 : List Int) (a2 : Int) : Option ((Bool × Unit) × Unit) :=
  (law32_sane).bind fun r4 =>
  bif (!r4.1.1) then
    some ((false, ()), ())
  else
    (law32_SelectionBest_J1 a1 ((), ())).bind fun o6 =>
    match o6 with
    | .inl o7 =>
      some ((o7.1.1, ()), ())
    | .inr o8 =>
      (law32_made a0 (9 : Int)).bind fun r9 =>
      let x10 := ([r9.2.1, a1] : List (List Int))
      (loopV (law32_SelectionBest_L2 a2 r9.1.2.1 (((List.length x10) : Int))) (((), ((0 : Int), ())), (x10, ()))).bind fun o12 =>
      match o12 with
      | .inl o13 =>
        some ((o13.1.1, ()), ())
      | .inr o14 =>
        some ((true, ()), ())

def law32_least_L3 (c0 : List Int) (c6 : Int) (c18 : Int) (v : (Int × Int × Unit) × Unit) : Option (((Int × Int × Unit) × Unit) ⊕ ((Int × Unit) × Unit)) :=
  bif (decide (v.1.2.1 < c18)) then
    bif (decide ((bitI .and .i64 (shrI .i64 c6 (IntKind.u64.wrap (v.1.2.1))) (1 : Int)) = (1 : Int))) then
      bif (inb v.1.2.1 (List.length c0)) then
        some (.inl (((IntKind.i64.wrap (v.1.1 + (rd (.int .i64) c0 v.1.2.1))), ((IntKind.i64.wrap (v.1.2.1 + (1 : Int))), ())), ()))
      else
        none
    else
      some (.inl ((v.1.1, ((IntKind.i64.wrap (v.1.2.1 + (1 : Int))), ())), ()))
  else
    some (.inr ((v.1.1, ()), ()))

def law32_least_J2 (c0 : List Int) (c1 : Int) (c6 : Int) (v : (Int × Unit) × Unit) : Option ((Int × Unit) × Unit) :=
  (loopV (law32_least_L3 c0 c6 (((List.length c0) : Int))) (((0 : Int), ((0 : Int), ())), ())).bind fun o3002 =>
  bif (decide (c1 ≤ o3002.1.1)) then
    bif (decide (v.1.1 < (0 : Int))) then
      some ((o3002.1.1, ()), ())
    else
      bif (decide (o3002.1.1 < v.1.1)) then
        some ((o3002.1.1, ()), ())
      else
        some ((v.1.1, ()), ())
  else
    some ((v.1.1, ()), ())

def law32_least_L1 (c0 : List Int) (c1 : Int) (v : (Int × Int × Unit) × Unit) : Option (((Int × Int × Unit) × Unit) ⊕ ((Int × Unit) × Unit)) :=
  bif (decide (v.1.2.1 < (shlI .i64 (1 : Int) (IntKind.u64.wrap ((((List.length c0) : Int))))))) then
    (law32_least_J2 c0 c1 v.1.2.1 ((v.1.1, ()), ())).bind fun o2005 =>
    some (.inl ((o2005.1.1, ((IntKind.i64.wrap (v.1.2.1 + (1 : Int))), ())), ()))
  else
    some (.inr ((v.1.1, ()), ()))

/-- lightclient/lightclientlaw32.least -/
def law32_least (a0 : List Int) (a1 : Int) : Option ((Int × Unit) × Unit) :=
  (loopV (law32_least_L1 a0 a1) (((-1 : Int), ((0 : Int), ())), ())).bind fun o3 =>
  some ((o3.1.1, ()), ())

def law32_SelectionProves_L2 (c10 : Int) (c38 : List Int) (c39 : Int) (v : (Unit × Unit × Int × Unit) × (List Int) × (Unit × Int × Unit) × (List Int) × Unit) : Option (((Unit × Unit × Int × Unit) × (List Int) × (Unit × Int × Unit) × (List Int) × Unit) ⊕ ((Unit × Unit × Unit) × (List Int) × (Unit × Int × Unit) × (List Int) × Unit)) :=
  bif (decide (v.1.2.2.1 < c39)) then
    bif (inb v.1.2.2.1 (List.length c38)) then
      (mill_Mod (rd (.int .i64) c38 v.1.2.2.1) (7 : Int)).bind fun r3003 =>
      bif (decide (r3003.1.1 = c10)) then
        bif (decide ((((List.length v.2.2.2.1) : Int)) = (0 : Int))) then
          let x3007 := ([c10] : List Int)
          bif (decide ((List.length v.2.2.2.1) + (List.length x3007) ≤ lim)) then
            bif (inb c10 (List.length v.2.1)) then
              (v.2.1[(Int.toNat c10)]?).bind fun e3009 =>
              some (.inl (((), ((), ((IntKind.i64.wrap (v.1.2.2.1 + (1 : Int))), ()))), (v.2.1, (((), ((IntKind.i64.wrap (v.2.2.1.2.1 + e3009)), v.2.2.1.2.2)), ((v.2.2.2.1 ++ x3007), ())))))
            else
              none
          else
            none
        else
          let x3013 := (IntKind.i64.wrap ((((List.length v.2.2.2.1) : Int)) - (1 : Int)))
          bif (inb x3013 (List.length v.2.2.2.1)) then
            (v.2.2.2.1[(Int.toNat x3013)]?).bind fun e3014 =>
            bif (!decide (e3014 = c10)) then
              let x3016 := ([c10] : List Int)
              bif (decide ((List.length v.2.2.2.1) + (List.length x3016) ≤ lim)) then
                bif (inb c10 (List.length v.2.1)) then
                  (v.2.1[(Int.toNat c10)]?).bind fun e3018 =>
                  some (.inl (((), ((), ((IntKind.i64.wrap (v.1.2.2.1 + (1 : Int))), ()))), (v.2.1, (((), ((IntKind.i64.wrap (v.2.2.1.2.1 + e3018)), v.2.2.1.2.2)), ((v.2.2.2.1 ++ x3016), ())))))
                else
                  none
              else
                none
            else
              some (.inl (((), ((), ((IntKind.i64.wrap (v.1.2.2.1 + (1 : Int))), ()))), (v.2.1, (((), v.2.2.1.2), (v.2.2.2.1, ())))))
          else
            none
      else
        some (.inl (((), ((), ((IntKind.i64.wrap (v.1.2.2.1 + (1 : Int))), ()))), (v.2.1, (((), v.2.2.1.2), (v.2.2.2.1, ())))))
    else
      none
  else
    some (.inr (((), ((), ())), (v.2.1, (((), v.2.2.1.2), (v.2.2.2.1, ())))))

def law32_SelectionProves_L1 (c2 : List Int) (c34 : Int) (v : (Unit × Unit × Int × Unit) × (List Int) × (Unit × Int × Unit) × (List Int) × Unit) : Option (((Unit × Unit × Int × Unit) × (List Int) × (Unit × Int × Unit) × (List Int) × Unit) ⊕ ((Unit × Unit × Unit) × (List Int) × (Unit × Int × Unit) × (List Int) × Unit)) :=
  bif (decide (v.1.2.2.1 < c34)) then
    (loopV (law32_SelectionProves_L2 v.1.2.2.1 c2 (((List.length c2) : Int))) (((), ((), ((0 : Int), ()))), (v.2.1, (((), v.2.2.1.2), (v.2.2.2.1, ()))))).bind fun o2003 =>
    some (.inl (((), ((), ((IntKind.i64.wrap (v.1.2.2.1 + (1 : Int))), ()))), (o2003.2.1, (((), o2003.2.2.1.2), (o2003.2.2.2.1, ())))))
  else
    some (.inr (((), ((), ())), (v.2.1, (((), v.2.2.1.2), (v.2.2.2.1, ())))))

def law32_SelectionProves_L3 (c7 : List Int) (c8 : Int) (c92 : Int) (v : (Unit × Unit × Int × Unit) × (Unit × Int × Unit) × (List (List Int)) × (List Int) × Unit) : Option (((Unit × Unit × Int × Unit) × (Unit × Int × Unit) × (List (List Int)) × (List Int) × Unit) ⊕ (((Bool × Unit) × Unit) ⊕ ((Unit) × Unit))) :=
  bif (decide (v.1.2.2.1 < c92)) then
    bif (inb v.1.2.2.1 (List.length v.2.2.1)) then
      (v.2.2.1[(Int.toNat v.1.2.2.1)]?).bind fun e4002 =>
      (selection_Check c7 c8 (v.2.2.2.1, v.2.1.2) e4002).bind fun r4003 =>
      bif (decide (r4003.1.1 = (0 : Int))) then
        (law32_least c7 c8).bind fun r4005 =>
        bif (!decide (v.2.1.2.1 = r4005.1.1)) then
          some (.inr (.inl ((false, ()), ())))
        else
          some (.inl (((), ((), ((IntKind.i64.wrap (v.1.2.2.1 + (1 : Int))), ()))), (((), v.2.1.2), (v.2.2.1, (v.2.2.2.1, ())))))
      else
        some (.inl (((), ((), ((IntKind.i64.wrap (v.1.2.2.1 + (1 : Int))), ()))), (((), v.2.1.2), (v.2.2.1, (v.2.2.2.1, ())))))
    else
      none
  else
    some (.inr (.inr ((), ())))

/-- lightclient/lightclientlaw32.SelectionProves -/
def law32_SelectionProves (a0 : List Int) (a1 : List Int) (a2 : List Int) : Option ((Bool × Unit) × Unit) :=
  (law32_sane).bind fun r4 =>
  bif (!r4.1.1) then
    some ((false, ()), ())
  else
    bif (decide ((100 : Int) < (((List.length a1) : Int)))) then
      some ((true, ()), ())
    else
      bif (decide ((8 : Int) < (((List.length a2) : Int)))) then
        some ((true, ()), ())
      else
        (law32_made a0 (6 : Int)).bind fun r10 =>
        (loopV (law32_SelectionProves_L1 a2 (((List.length r10.2.1) : Int))) (((), ((), ((0 : Int), ()))), (r10.2.1, (((), ((0 : Int), ())), (([] : List Int), ()))))).bind fun o12 =>
        (ref32_Best o12.2.1 r10.1.2.1).bind fun r13 =>
        let x14 := ([a1, r13.2.1] : List (List Int))
        (loopV (law32_SelectionProves_L3 o12.2.1 r10.1.2.1 (((List.length x14) : Int))) (((), ((), ((0 : Int), ()))), (((), o12.2.2.1.2), (x14, (o12.2.2.2.1, ()))))).bind fun o16 =>
        match o16 with
        | .inl o17 =>
          some ((o17.1.1, ()), ())
        | .inr o18 =>
          some ((true, ()), ())

/-- lightclient/lightclientlaw32.SelectionLargest -/
def law32_SelectionLargest (a0 : List Int) (a1 : List Int) (a2 : Int) : Option ((Bool × Unit) × Unit) :=
  (law32_sane).bind fun r4 =>
  bif (!r4.1.1) then
    some ((false, ()), ())
  else
    bif (decide ((20 : Int) < (((List.length a1) : Int)))) then
      some ((true, ()), ())
    else
      (law32_made a0 (12 : Int)).bind fun r8 =>
      (selection_Largest r8.2.1 r8.1.2.1).bind fun r9 =>
      (ref32_Largest r8.2.1 r8.1.2.1).bind fun r10 =>
      (selection_Largest a1 a2).bind fun r11 =>
      (ref32_Largest a1 a2).bind fun r12 =>
      bif (decide (r9.1.2.1 = r10.1.2.1)) then
        (ref32_Same (r9.2.1, r9.1.1.2) (r10.2.1, r10.1.1.2)).bind fun r14 =>
        bif r14.1.1 then
          bif (decide (r11.1.2.1 = r12.1.2.1)) then
            (ref32_Same (r11.2.1, r11.1.1.2) (r12.2.1, r12.1.1.2)).bind fun r16 =>
            some ((r16.1.1, ()), ())
          else
            some ((false, ()), ())
        else
          some ((false, ()), ())
      else
        some ((false, ()), ())

def law32_SelectionOptimal_J1 (c4 : Int) (c7 : Int) (c9 : Int) (c10 : Int) (v : (Unit × Unit × Unit × Unit × Unit) × (List Int) × (Unit × Int × Unit) × (List Int) × (Unit × Int × Unit) × (List Int) × (List Int) × Unit) : Option ((Unit × Unit × Bool × Unit) × (List Int) × (Unit × Int × Unit) × (List Int) × Unit) :=
  bif (!decide (c7 = (0 : Int))) then
    some (((), ((), (true, ()))), (v.2.1, (((), v.2.2.2.2.1.2), (v.2.2.2.2.2.2.1, ()))))
  else
    bif (!decide (c9 = (0 : Int))) then
      some (((), ((), (true, ()))), (v.2.1, (((), v.2.2.2.2.1.2), (v.2.2.2.2.2.2.1, ()))))
    else
      bif (!decide (v.2.2.1.2.1 = c10)) then
        some (((), ((), (true, ()))), (v.2.1, (((), v.2.2.2.2.1.2), (v.2.2.2.2.2.2.1, ()))))
      else
        (selection_Check v.2.1 c4 (v.2.2.2.2.2.1, v.2.2.1.2) v.2.2.2.1).bind fun r2004 =>
        bif (!decide (r2004.1.1 = (0 : Int))) then
          some (((), ((), (true, ()))), (v.2.1, (((), v.2.2.2.2.1.2), (v.2.2.2.2.2.2.1, ()))))
        else
          bif (decide (v.2.2.2.2.1.2.1 < c10)) then
            some (((), ((), (true, ()))), (v.2.1, (((), v.2.2.2.2.1.2), (v.2.2.2.2.2.2.1, ()))))
          else
            some (((), ((), ((decide ((((List.length v.2.2.2.2.2.2.1) : Int)) = (0 : Int))), ()))), (v.2.1, (((), v.2.2.2.2.1.2), (v.2.2.2.2.2.2.1, ()))))

def law32_SelectionOptimal_L2 (c79 : Int) (v : (Unit × Unit × Int × Unit × Int × Unit) × (List Int) × (Unit × Int × Unit) × (List Int) × Unit) : Option (((Unit × Unit × Int × Unit × Int × Unit) × (List Int) × (Unit × Int × Unit) × (List Int) × Unit) ⊕ (((Bool × Unit) × Unit) ⊕ ((Unit × Int × Unit) × (Unit × Int × Unit) × (List Int) × Unit))) :=
  bif (decide (v.1.2.2.2.2.1 < c79)) then
    bif (inb v.1.2.2.2.2.1 (List.length v.2.2.2.1)) then
      (v.2.2.2.1[(Int.toNat v.1.2.2.2.2.1)]?).bind fun e3002 =>
      bif (decide (e3002 < (0 : Int))) then
        some (.inr (.inl ((false, ()), ())))
      else
        bif (decide ((((List.length v.2.1) : Int)) ≤ e3002)) then
          some (.inr (.inl ((false, ()), ())))
        else
          bif (inb e3002 (List.length v.2.1)) then
            (v.2.1[(Int.toNat e3002)]?).bind fun e3006 =>
            some (.inl (((), ((), ((min v.1.2.2.1 e3006), ((), ((IntKind.i64.wrap (v.1.2.2.2.2.1 + (1 : Int))), ()))))), (v.2.1, (((), v.2.2.1.2), (v.2.2.2.1, ())))))
          else
            none
    else
      none
  else
    some (.inr (.inr (((), (v.1.2.2.1, ())), (((), v.2.2.1.2), (v.2.2.2.1, ())))))

/-- lightclient/lightclientlaw32.SelectionOptimal -/
def law32_SelectionOptimal (a0 : List Int) : Option ((Bool × Unit) × Unit) :=
  (law32_sane).bind fun r2 =>
  bif (!r2.1.1) then
    some ((false, ()), ())
  else
    (law32_made a0 (8 : Int)).bind fun r4 =>
    (selection_Best r4.2.1 r4.1.2.1).bind fun r5 =>
    (selection_Largest r4.2.1 r4.1.2.1).bind fun r6 =>
    (law32_least r4.2.1 r4.1.2.1).bind fun r7 =>
    bif (decide (r7.1.1 < (0 : Int))) then
      bif (decide (r5.1.2.2.1 = (320 : Int))) then
        some (((decide (r6.1.2.1 = (320 : Int))), ()), ())
      else
        some ((false, ()), ())
    else
      (law32_SelectionOptimal_J1 r4.1.2.1 r5.1.2.2.1 r6.1.2.1 r7.1.1 (((), ((), ((), ((), ())))), (r4.2.1, (((), r5.1.1.2), (r5.2.2.1, (((), r6.1.1.2), (r5.2.1, (r6.2.1, ())))))))).bind fun o11 =>
      bif o11.1.2.2.1 then
        some ((false, ()), ())
      else
        (loopV (law32_SelectionOptimal_L2 (((List.length o11.2.2.2.1) : Int))) (((), ((), ((2100000000000000 : Int), ((), ((0 : Int), ()))))), (o11.2.1, (((), o11.2.2.1.2), (o11.2.2.2.1, ()))))).bind fun o13 =>
        match o13 with
        | .inl o14 =>
          some ((o14.1.1, ()), ())
        | .inr o15 =>
          some (((decide (o15.2.1.2.1 < (IntKind.i64.wrap (r4.1.2.1 + o15.1.2.1)))), ()), ())

end Go.PE
end
end

section
namespace Go.PE
set_option linter.unusedSimpArgs false
/-! ### loops -/
section
variable {σ ω : Type} {step : σ → Option (σ ⊕ ω)}
theorem iter_mono {v : σ} {o : ω} : ∀ {n m : Nat}, n ≤ m → iter step n v = some o → iter step m v = some o := by
  intro n
  induction n generalizing v with
  | zero => intro m _ h; cases h
  | succ n ih =>
    intro m hm h
    cases m with
    | zero => omega
    | succ m =>
      simp only [iter] at h ⊢
      obtain ⟨x, h1, h2⟩ := Option.bind_eq_some_iff.1 h
      rw [h1]
      cases x with
      | inl v' => exact ih (by omega) h2
      | inr o' => exact h2
theorem loopV_of {v : σ} {o : ω} {n : Nat} (h : iter step n v = some o) : loopV step v = some o := by
  unfold loopV
  have hx : ∃ n o, iter step n v = some o := ⟨n, o, h⟩
  rw [dif_pos hx]
  have hc := hx.choose_spec.choose_spec
  have h1 := iter_mono (Nat.le_max_left hx.choose n) hc
  have h2 := iter_mono (Nat.le_max_right hx.choose n) h
  rw [h1] at h2
  exact h2
theorem loopV_next {v v' : σ} (h : step v = some (.inl v')) : loopV step v = loopV step v' := by
  unfold loopV
  have key : ∀ o, (∃ n, iter step n v = some o) ↔ ∃ n, iter step n v' = some o := by
    intro o
    constructor
    · rintro ⟨n, hn⟩
      cases n with
      | zero => cases hn
      | succ n => simp only [iter, h, Option.bind_some] at hn; exact ⟨n, hn⟩
    · rintro ⟨n, hn⟩
      exact ⟨n + 1, by simp only [iter, h, Option.bind_some]; exact hn⟩
  by_cases hx : ∃ n o, iter step n v = some o
  · obtain ⟨n, o, hn⟩ := hx
    obtain ⟨m, hm⟩ := (key o).1 ⟨n, hn⟩
    have e1 := loopV_of hn
    have e2 := loopV_of hm
    unfold loopV at e1 e2
    rw [e1, e2]
  · have hy : ¬ ∃ n o, iter step n v' = some o := by
      rintro ⟨n, o, hn⟩
      obtain ⟨m, hm⟩ := (key o).2 ⟨n, hn⟩
      exact hx ⟨m, o, hm⟩
    rw [dif_neg hx, dif_neg hy]
theorem loopV_done {v : σ} {o : ω} (h : step v = some (.inr o)) : loopV step v = some o :=
  loopV_of (n := 1) (by simp [iter, h])
/-- A loop with a counter: what holds at each round's head leads to the end. -/
theorem loopV_ind {v : σ} {o : ω} (f : Nat → σ) (n : Nat) (hv : v = f 0) (hs : ∀ i, i < n → step (f i) = some (.inl (f (i + 1)))) (he : step (f n) = some (.inr o)) : loopV step v = some o := by
  subst hv
  have : ∀ k, k ≤ n → loopV step (f 0) = loopV step (f k) := by
    intro k
    induction k with
    | zero => intro _; rfl
    | succ k ih => intro hk; rw [ih (by omega), loopV_next (hs k (by omega))]
  rw [this n (Nat.le_refl n), loopV_done he]
/-- A loop by a measure: an invariant that each round keeps, until an end at which Q holds. -/
theorem loopV_inv (I : σ → Prop) (m : σ → Nat) (Q : ω → Prop) {v : σ} (h0 : I v)
    (hs : ∀ v, I v → (∃ v', step v = some (.inl v') ∧ I v' ∧ m v' < m v) ∨ ∃ o, step v = some (.inr o) ∧ Q o) : ∃ o, loopV step v = some o ∧ Q o := by
  generalize hn : m v = n
  induction n using Nat.strongRecOn generalizing v with
  | _ n ih =>
    rcases hs v h0 with ⟨v', h1, h2, h3⟩ | ⟨o, h1, h2⟩
    · obtain ⟨o, h4, h5⟩ := ih (m v') (by omega) h2 rfl
      exact ⟨o, by rw [loopV_next h1]; exact h4, h5⟩
    · exact ⟨o, loopV_done h1, h2⟩
end
/-! ### tests -/
theorem bif_t {α : Type} {c : Bool} {a b : α} (h : c = true) : (bif c then a else b) = a := by rw [h]; rfl
theorem bif_f {α : Type} {c : Bool} {a b : α} (h : c = false) : (bif c then a else b) = b := by rw [h]; rfl
theorem bif_ite {α : Type} {c : Bool} {a b : α} : (bif c then a else b) = if c = true then a else b := by cases c <;> rfl
theorem inb_t {i : Int} {n : Nat} (h : 0 ≤ i ∧ i < n) : inb i n = true := by simp [inb, h]
theorem inb_f {i : Int} {n : Nat} (h : ¬ (0 ≤ i ∧ i < n)) : inb i n = false := by
  cases hb : inb i n with
  | false => rfl
  | true => simp [inb] at hb; exact (h hb).elim
/-! ### numbers -/
theorem tdiv_nn {a b : Int} (h : 0 ≤ a) : a.tdiv b = a / b := Int.tdiv_eq_ediv_of_nonneg h
theorem tmod_nn {a b : Int} (h : 0 ≤ a) : a.tmod b = a % b := Int.tmod_eq_emod_of_nonneg h
theorem ofInt_nat {w : Nat} {a : Int} (h0 : 0 ≤ a) (h1 : a < 2 ^ w) : (BitVec.ofInt w a).toNat = a.toNat := by
  rw [BitVec.toNat_ofInt, Int.emod_eq_of_lt h0 (by exact_mod_cast h1)]
theorem wrap_un {k : IntKind} (hk : k.signed = false) {n : Int} (h0 : 0 ≤ n) (h1 : n < 2 ^ k.bits) : k.wrap n = n := by
  cases k <;> first | (cases hk; done) | skip
  · exact IntWalk.u8_in n ⟨h0, by simp [IntKind.bits] at h1; omega⟩
  · exact IntWalk.u16_in n ⟨h0, by simp [IntKind.bits] at h1; omega⟩
  · exact IntWalk.u32_in n ⟨h0, by simp [IntKind.bits] at h1; omega⟩
  · exact IntWalk.u64_in n ⟨h0, by simp [IntKind.bits] at h1; omega⟩
theorem and_un {k : IntKind} (hk : k.signed = false) {a b : Int} (h0 : 0 ≤ a) (h1 : a < 2 ^ k.bits) (h2 : 0 ≤ b) (h3 : b < 2 ^ k.bits) : bitI .and k a b = ((a.toNat &&& b.toNat : Nat) : Int) := by
  show k.wrap (BitVec.ofInt k.bits a &&& BitVec.ofInt k.bits b).toNat = _
  rw [BitVec.toNat_and, ofInt_nat h0 h1, ofInt_nat h2 h3]
  apply wrap_un hk (by omega)
  have := Nat.and_lt_two_pow a.toNat (show b.toNat < 2 ^ k.bits by
    have : ((2 ^ k.bits : Nat) : Int) = 2 ^ k.bits := by simp
    omega)
  exact_mod_cast this
theorem or_un {k : IntKind} (hk : k.signed = false) {a b : Int} (h0 : 0 ≤ a) (h1 : a < 2 ^ k.bits) (h2 : 0 ≤ b) (h3 : b < 2 ^ k.bits) : bitI .or k a b = ((a.toNat ||| b.toNat : Nat) : Int) := by
  show k.wrap (BitVec.ofInt k.bits a ||| BitVec.ofInt k.bits b).toNat = _
  have e : ((2 ^ k.bits : Nat) : Int) = 2 ^ k.bits := by simp
  rw [BitVec.toNat_or, ofInt_nat h0 h1, ofInt_nat h2 h3]
  apply wrap_un hk (by omega)
  have := Nat.or_lt_two_pow (x := a.toNat) (y := b.toNat) (n := k.bits) (by omega) (by omega)
  exact_mod_cast this
theorem xor_un {k : IntKind} (hk : k.signed = false) {a b : Int} (h0 : 0 ≤ a) (h1 : a < 2 ^ k.bits) (h2 : 0 ≤ b) (h3 : b < 2 ^ k.bits) : bitI .xor k a b = ((a.toNat ^^^ b.toNat : Nat) : Int) := by
  show k.wrap (BitVec.ofInt k.bits a ^^^ BitVec.ofInt k.bits b).toNat = _
  have e : ((2 ^ k.bits : Nat) : Int) = 2 ^ k.bits := by simp
  rw [BitVec.toNat_xor, ofInt_nat h0 h1, ofInt_nat h2 h3]
  apply wrap_un hk (by omega)
  have := Nat.xor_lt_two_pow (x := a.toNat) (y := b.toNat) (n := k.bits) (by omega) (by omega)
  exact_mod_cast this
theorem shr_un {k : IntKind} {a b : Int} (h0 : 0 ≤ a) (h1 : a < 2 ^ k.bits) : shrI k a b = ((a.toNat >>> b.toNat : Nat) : Int) := by
  unfold shrI
  obtain ⟨x, rfl⟩ := Int.eq_ofNat_of_zero_le h0
  have e : ((2 : Int) ^ min b.toNat k.bits) = ((2 ^ min b.toNat k.bits : Nat) : Int) := by simp
  rw [e, Int.fdiv_eq_ediv_of_nonneg _ (Int.natCast_nonneg _), ← Int.natCast_ediv, Int.toNat_natCast, Nat.shiftRight_eq_div_pow]
  congr 1
  by_cases hb : b.toNat ≤ k.bits
  · rw [Nat.min_eq_left hb]
  · rw [Nat.min_eq_right (by omega)]
    have hx : x < 2 ^ k.bits := by exact_mod_cast h1
    rw [Nat.div_eq_of_lt hx, Nat.div_eq_of_lt (Nat.lt_of_lt_of_le hx (Nat.pow_le_pow_right (by omega) (by omega)))]
theorem wrap_un_mod {k : IntKind} (hk : k.signed = false) (n : Int) : k.wrap n = n % 2 ^ k.bits := by
  cases k <;> first | (cases hk; done) | (simp [IntKind.wrap, IntKind.signed, IntKind.bits])
theorem shl_un {k : IntKind} (hk : k.signed = false) {a b : Int} (h0 : 0 ≤ a) : shlI k a b = (((a.toNat <<< b.toNat) % 2 ^ k.bits : Nat) : Int) := by
  unfold shlI
  obtain ⟨x, rfl⟩ := Int.eq_ofNat_of_zero_le h0
  rw [wrap_un_mod hk, Int.toNat_natCast, Nat.shiftLeft_eq]
  have e : ((2 : Int) ^ min b.toNat k.bits) = ((2 ^ min b.toNat k.bits : Nat) : Int) := by simp
  have e2 : ((2 : Int) ^ k.bits) = ((2 ^ k.bits : Nat) : Int) := by simp
  rw [e, e2, ← Int.natCast_mul, ← Int.natCast_emod]
  congr 1
  by_cases hb : b.toNat ≤ k.bits
  · rw [Nat.min_eq_left hb]
  · rw [Nat.min_eq_right (by omega), Nat.mul_mod_left]
    obtain ⟨c, hc⟩ : ∃ c, b.toNat = k.bits + c := ⟨b.toNat - k.bits, by omega⟩
    rw [hc, Nat.pow_add, ← Nat.mul_assoc, Nat.mul_right_comm, Nat.mul_mod_left]
/-! ### lists -/
theorem rd_eq {t : Ty} {xs : List t.den} {i : Int} : rd t xs i = xs.getD i.toNat t.dflt := rfl
theorem eqList_iff {α : Type} {f : α → α → Bool} (hf : ∀ a b, f a b = true ↔ a = b) : ∀ {x y : List α}, eqList f x y = true ↔ x = y := by
  intro x
  induction x with
  | nil => intro y; cases y <;> simp [eqList]
  | cons a x ih => intro y; cases y with
    | nil => simp [eqList]
    | cons b y => simp [eqList, hf, ih]
theorem eqList_int {x y : List Int} : eqList (fun (x y : Int) => decide (x = y)) x y = decide (x = y) := by
  rw [Bool.eq_iff_iff, eqList_iff (by simp)]; simp
end Go.PE
end

section
namespace Go.PE
set_option linter.unusedSimpArgs false
theorem loopV_all {σ ω : Type} {step : σ → Option (σ ⊕ ω)} {v : σ} (f : Nat → σ) (n : Nat) (p : Nat → Bool) {bad good : ω} {b : Bool} (hv : v = f 0) (hb : b = true ↔ ∀ i, i < n → p i = true)
    (hs : ∀ i, i < n → step (f i) = some (bif p i then .inl (f (i + 1)) else .inr bad)) (he : step (f n) = some (.inr good)) : loopV step v = some (bif b then good else bad) := by
  subst hv
  have key : ∀ k i, i + k = n → ((∀ j, i ≤ j → j < n → p j = true) → loopV step (f i) = some good) ∧ ((∃ j, i ≤ j ∧ j < n ∧ p j = false) → loopV step (f i) = some bad) := by
    intro k
    induction k with
    | zero =>
      intro i hi
      have : i = n := by omega
      subst this
      exact ⟨fun _ => loopV_done he, fun ⟨j, h1, h2, _⟩ => by omega⟩
    | succ k ih =>
      intro i hi
      have h := hs i (by omega)
      obtain ⟨ih1, ih2⟩ := ih (i + 1) (by omega)
      cases hp : p i with
      | true =>
        rw [hp] at h
        rw [loopV_next h]
        refine ⟨fun ha => ih1 fun j h1 h2 => ha j (by omega) h2, fun ⟨j, h1, h2, h3⟩ => ih2 ⟨j, ?_, h2, h3⟩⟩
        rcases Nat.lt_or_ge i j with h4 | h4
        · exact h4
        · have : j = i := by omega
          subst this; rw [hp] at h3; cases h3
      | false =>
        rw [hp] at h
        rw [loopV_done h]
        exact ⟨fun ha => absurd (ha i (Nat.le_refl i) (by omega)) (by rw [hp]; simp), fun _ => rfl⟩
  obtain ⟨k1, k2⟩ := key n 0 (by omega)
  cases b with
  | true => exact k1 fun j _ h => hb.1 rfl j h
  | false =>
    refine k2 ?_
    apply Classical.byContradiction
    intro hn
    have : false = true := hb.2 fun i hi => by
      cases hp : p i with
      | true => rfl
      | false => exact (hn ⟨i, Nat.zero_le i, hi, hp⟩).elim
    cases this
theorem i64_up {i n : Nat} (h : i < n) (hn : n ≤ big) : IntKind.i64.wrap ((i : Int) + 1) = ((i + 1 : Nat) : Int) := by
  have : n ≤ 9223372036854775807 := hn
  rw [IntWalk.i64_in _ (by omega)]; simp
theorem inb_nat {i n : Nat} (h : i < n) : inb (i : Int) n = true := inb_t (by omega)
theorem rd_nat {t : Ty} {xs : List t.den} {i : Nat} : rd t xs (i : Int) = xs.getD i t.dflt := rfl
theorem rd_in {t : Ty} {xs : List t.den} {i : Nat} (h : i < xs.length) : rd t xs (i : Int) = xs[i] := by
  rw [rd_nat, List.getD_eq_getElem?_getD, List.getElem?_eq_getElem h]; rfl
end Go.PE
end

section
namespace Go.PE
set_option linter.unusedSimpArgs false
set_option linter.unusedVariables false
def Pos (l : List Int) : Prop := ∀ x ∈ l, 1 ≤ x
theorem sum_pos : ∀ {l : List Int}, Pos l → 0 ≤ l.sum := by
  intro l
  induction l with
  | nil => intro _; simp
  | cons v l ih => intro h; have := h v (by simp); have := ih fun x hx => h x (by simp [hx]); simp only [List.sum_cons]; omega
/-- The sets at which the search stops with enough, in its order: their sums, and which coins. -/
def leaves (T : Int) : List Int → Nat → Int → List Int → List (Int × List Int)
  | [], i, s, ch => if T ≤ s then [(s, ch)] else []
  | v :: l, i, s, ch => if T ≤ s then [(s, ch)] else if s + (v :: l).sum < T then [] else leaves T l (i + 1) (s + v) (ch ++ [(i : Int)]) ++ leaves T l (i + 1) s ch
theorem leaves_enough {T : Int} {l : List Int} {i : Nat} {s : Int} {ch : List Int} (h : T ≤ s) : leaves T l i s ch = [(s, ch)] := by
  cases l <;> simp [leaves, h]
theorem leaves_range {T : Int} : ∀ {l : List Int} {i : Nat} {s : Int} {ch : List Int}, Pos l → ∀ p ∈ leaves T l i s ch, T ≤ p.1 ∧ s ≤ p.1 ∧ p.1 ≤ s + l.sum := by
  intro l
  induction l with
  | nil =>
    intro i s ch _ p hp
    simp only [leaves] at hp
    split at hp
    · rw [List.mem_singleton.1 hp]; simp; assumption
    · cases hp
  | cons v l ih =>
    intro i s ch hl p hp
    have hv := hl v (by simp)
    have hl' : Pos l := fun x hx => hl x (by simp [hx])
    have h0 := sum_pos hl'
    simp only [leaves] at hp
    split at hp
    · rw [List.mem_singleton.1 hp]; simp only [List.sum_cons]; omega
    · split at hp
      · cases hp
      · simp only [List.sum_cons]
        rcases List.mem_append.1 hp with h | h
        · have := ih hl' p h; omega
        · have := ih hl' p h; omega
theorem leaves_some {T : Int} : ∀ {l : List Int} {i : Nat} {s : Int} {ch : List Int}, T ≤ s + l.sum → leaves T l i s ch ≠ [] := by
  intro l
  induction l with
  | nil => intro i s ch h; simp at h; simp [leaves, h]
  | cons v l ih =>
    intro i s ch h
    simp only [leaves]
    split
    · simp
    · rw [if_neg (by omega)]
      intro hn
      exact ih (i := i + 1) (s := s + v) (ch := ch ++ [(i : Int)]) (by simp only [List.sum_cons] at h; omega) (List.append_eq_nil_iff.1 hn).1
/-- The best so far: its sum, whether there is one, which coins. -/
abbrev Sta := Int × Bool × List Int
def upd (st : Sta) (p : Int × List Int) : Sta := if st.2.1 = false ∨ p.1 < st.1 then (p.1, true, p.2) else st
def srch (T : Int) (l : List Int) (i : Nat) (s : Int) (ch : List Int) (st : Sta) : Sta := (leaves T l i s ch).foldl upd st
/-- The least of a number and the sums. -/
def lst (b : Int) (ps : List (Int × List Int)) : Int := ps.foldl (fun b p => min p.1 b) b
theorem lst_le : ∀ {ps : List (Int × List Int)} {b : Int}, lst b ps ≤ b ∧ ∀ p ∈ ps, lst b ps ≤ p.1 := by
  intro ps
  induction ps with
  | nil => intro b; simp [lst]
  | cons q ps ih =>
    intro b
    have h := ih (b := min q.1 b)
    show lst (min q.1 b) ps ≤ b ∧ _
    refine ⟨by have := h.1; omega, fun p hp => ?_⟩
    show lst (min q.1 b) ps ≤ p.1
    rcases List.mem_cons.1 hp with e | e
    · rw [e]; have := h.1; omega
    · exact h.2 p e
theorem lst_mem : ∀ {ps : List (Int × List Int)} {b : Int}, lst b ps = b ∨ ∃ p ∈ ps, lst b ps = p.1 := by
  intro ps
  induction ps with
  | nil => intro b; exact .inl rfl
  | cons q ps ih =>
    intro b
    show lst (min q.1 b) ps = b ∨ _
    rcases ih (b := min q.1 b) with h | ⟨p, hp, h⟩
    · by_cases hq : q.1 ≤ b
      · exact .inr ⟨q, by simp, by show lst (min q.1 b) ps = q.1; omega⟩
      · exact .inl (by omega)
    · exact .inr ⟨p, by simp [hp], h⟩
theorem lst_stay {ps : List (Int × List Int)} {b : Int} (h : ∀ p ∈ ps, b ≤ p.1) : lst b ps = b := by
  rcases lst_mem (ps := ps) (b := b) with e | ⟨p, hp, e⟩
  · exact e
  · have h1 := h p hp
    have h2 := (lst_le (ps := ps) (b := b)).1
    omega
theorem lst_append {ps qs : List (Int × List Int)} {b : Int} : lst b (ps ++ qs) = lst (lst b ps) qs := List.foldl_append
/-- The first set whose sum is L. -/
def firstAt (L : Int) (ps : List (Int × List Int)) : Option (List Int) := (ps.find? fun p => decide (p.1 = L)).map (·.2)
/-- What the search keeps: the first set of the least sum. -/
theorem srch_first : ∀ {ps : List (Int × List Int)} {st : Sta} {L : Int}, (∀ p ∈ ps, L ≤ p.1) → (st.2.1 = true → L < st.1) → (∃ p ∈ ps, p.1 = L) →
    ∃ c, firstAt L ps = some c ∧ ps.foldl upd st = (L, true, c) := by
  intro ps
  have stay : ∀ (ps : List (Int × List Int)) (L : Int) (c : List Int), (∀ p ∈ ps, L ≤ p.1) → ps.foldl upd (L, true, c) = (L, true, c) := by
    intro ps
    induction ps with
    | nil => intro L c _; rfl
    | cons q ps ih =>
      intro L c h
      have hq := h q (by simp)
      have : upd (L, true, c) q = (L, true, c) := by unfold upd; rw [if_neg]; simp; omega
      rw [List.foldl_cons, this]
      exact ih L c fun p hp => h p (by simp [hp])
  induction ps with
  | nil => intro st L _ _ h; obtain ⟨p, hp, _⟩ := h; cases hp
  | cons q ps ih =>
    intro st L h hst hex
    by_cases hq : q.1 = L
    · refine ⟨q.2, by simp [firstAt, hq], ?_⟩
      have : upd st q = (L, true, q.2) := by
        unfold upd
        rw [if_pos]
        · rw [hq]
        · cases hb : st.2.1 with
          | false => exact .inl rfl
          | true => exact .inr (by have := hst hb; omega)
      rw [List.foldl_cons, this]
      exact stay ps L q.2 fun p hp => h p (by simp [hp])
    · have hex' : ∃ p ∈ ps, p.1 = L := by
        obtain ⟨p, hp, e⟩ := hex
        rcases List.mem_cons.1 hp with e2 | e2
        · rw [e2] at e; exact (hq e).elim
        · exact ⟨p, e2, e⟩
      have hLq : L < q.1 := by have := h q (by simp); omega
      obtain ⟨c, h1, h2⟩ := ih (st := upd st q) (L := L) (fun p hp => h p (by simp [hp])) (by
        unfold upd
        split
        · intro _; exact hLq
        · exact hst) hex'
      refine ⟨c, ?_, h2⟩
      simp only [firstAt, List.find?_cons, hq, decide_false] at h1 ⊢
      exact h1
end Go.PE
namespace Go.PE
/-- The places that make up what is left, taken first where it can be. -/
def plc : List Int → Nat → Int → Option (List Int)
  | l, i, left => if left = 0 then some [] else match l with
    | [] => none
    | v :: l' => if left < 0 then none else if (v :: l').sum < left then none else match plc l' (i + 1) (left - v) with
      | some r => some ((i : Int) :: r)
      | none => plc l' (i + 1) left
theorem find_append {α : Type} {p : α → Bool} {a b : List α} : (a ++ b).find? p = (a.find? p).or (b.find? p) := by
  induction a with
  | nil => simp
  | cons x a ih => rw [List.cons_append, List.find?_cons, List.find?_cons]; cases p x <;> simp [ih]
theorem firstAt_append {L : Int} {a b : List (Int × List Int)} : firstAt L (a ++ b) = (firstAt L a).or (firstAt L b) := by
  unfold firstAt; rw [find_append]; cases a.find? (fun p => decide (p.1 = L)) <;> rfl
theorem plc_first {T L : Int} (hTL : T ≤ L) : ∀ {l : List Int} {i : Nat} {s : Int} {ch : List Int}, Pos l → (∀ p ∈ leaves T l i s ch, L ≤ p.1) → firstAt L (leaves T l i s ch) = (plc l i (L - s)).map (ch ++ ·) := by
  intro l
  induction l with
  | nil =>
    intro i s ch _ h
    by_cases hT : T ≤ s
    · rw [leaves_enough hT] at h ⊢
      have := h _ (List.mem_singleton.2 rfl)
      by_cases e : s = L
      · subst e; simp [firstAt, plc]
      · have e2 : ¬ L - s = 0 := by omega
        simp [firstAt, plc, e, e2]
    · have e2 : ¬ L - s = 0 := by omega
      simp [leaves, hT, firstAt, plc, e2]
  | cons v l ih =>
    intro i s ch hl h
    have hv := hl v (by simp)
    have hl' : Pos l := fun x hx => hl x (by simp [hx])
    by_cases hT : T ≤ s
    · rw [leaves_enough hT] at h ⊢
      have := h _ (List.mem_singleton.2 rfl)
      by_cases e : s = L
      · subst e; simp [firstAt, plc]
      · have e2 : ¬ L - s = 0 := by omega
        have e3 : L - s < 0 := by simp at this; omega
        simp [firstAt, plc, e, e2, e3]
    · have e2 : ¬ L - s = 0 := by omega
      have e3 : ¬ L - s < 0 := by omega
      by_cases hr : s + (v :: l).sum < T
      · have e4 : (v :: l).sum < L - s := by omega
        have e5 : leaves T (v :: l) i s ch = [] := by simp only [leaves]; rw [if_neg hT, if_pos hr]
        rw [e5]
        unfold plc
        rw [if_neg e2]
        simp only []
        rw [if_neg e3, if_pos e4]
        rfl
      · have e5 : leaves T (v :: l) i s ch = leaves T l (i + 1) (s + v) (ch ++ [(i : Int)]) ++ leaves T l (i + 1) s ch := by simp only [leaves]; rw [if_neg hT, if_neg hr]
        have e4 : ¬ (v :: l).sum < L - s := by
          intro h4
          have hne := leaves_some (T := T) (l := v :: l) (i := i) (s := s) (ch := ch) (by omega)
          obtain ⟨p, hp⟩ := List.exists_mem_of_ne_nil _ hne
          have h1 := h p hp
          have h2 := (leaves_range hl p hp).2.2
          omega
        rw [e5] at h ⊢
        have i1 := ih (i := i + 1) (s := s + v) (ch := ch ++ [(i : Int)]) hl' fun p hp => h p (List.mem_append.2 (.inl hp))
        have i2 := ih (i := i + 1) (s := s) (ch := ch) hl' fun p hp => h p (List.mem_append.2 (.inr hp))
        rw [firstAt_append, i1, i2]
        conv => rhs; unfold plc
        rw [if_neg e2]
        simp only []
        rw [if_neg e3, if_neg e4, show L - (s + v) = L - s - v by omega]
        cases plc l (i + 1) (L - s - v) with
        | none => simp
        | some r => simp
/-! ### certificates -/
/-- The signs of a certificate. -/
def trc (T L : Int) : List Int → Int → List Int
  | [], _ => [2]
  | v :: l, s => if L ≤ s ∨ s + (v :: l).sum < T then [2] else 1 :: (trc T L l (s + v) ++ trc T L l s)
/-- The program's. -/
def certP (T L : Int) : List Int → Int → List Int → List Int
  | [], _, t => t ++ [2]
  | v :: l, s, t => if (L ≤ s ∨ s + (v :: l).sum < T) ∨ 16384 < t.length then t ++ [2] else certP T L l s (certP T L l (s + v) (t ++ [1]))
/-- The reference's. -/
def certR (T L : Int) : List Int → Int → List Int → List Int
  | [], _, t => if 16384 < t.length then t else t ++ [2]
  | v :: l, s, t => if 16384 < t.length then t else if L ≤ s ∨ s + (v :: l).sum < T then t ++ [2] else certR T L l s (certR T L l (s + v) (t ++ [1]))
theorem cert_same {T L : Int} : ∀ {l : List Int} {s : Int} {t : List Int}, (t ++ trc T L l s).length ≤ 16384 → certP T L l s t = t ++ trc T L l s ∧ certR T L l s t = t ++ trc T L l s := by
  intro l
  induction l with
  | nil => intro s t h; simp [trc] at h; simp only [certP, certR, trc]; rw [if_neg (by omega)]; exact ⟨trivial, rfl⟩
  | cons v l ih =>
    intro s t h
    by_cases he : L ≤ s ∨ s + (v :: l).sum < T
    · simp only [trc] at h ⊢
      rw [if_pos he] at h ⊢
      simp at h
      simp only [certP, certR]
      rw [if_pos (.inl he), if_neg (by omega), if_pos he]; exact ⟨rfl, rfl⟩
    · simp only [trc] at h ⊢
      rw [if_neg he] at h ⊢
      simp at h
      have h1 := ih (s := s + v) (t := t ++ [1]) (by simp; omega)
      have h2 := ih (s := s) (t := t ++ [1] ++ trc T L l (s + v)) (by simp; omega)
      simp only [certP, certR]
      rw [if_neg (by rintro (e | e); exact he e; omega), if_neg (by omega), if_neg he, h1.1, h1.2, h2.1, h2.2]
      simp
theorem cert_long {T L : Int} : ∀ {l : List Int} {s : Int} {t : List Int}, 16384 < (t ++ trc T L l s).length → 16384 < (certP T L l s t).length ∧ 16384 < (certR T L l s t).length := by
  intro l
  induction l with
  | nil =>
    intro s t h
    simp [trc] at h
    simp only [certP, certR]
    split <;> simp <;> omega
  | cons v l ih =>
    intro s t h
    by_cases ht : 16384 < t.length
    · simp only [certP, certR]
      rw [if_pos (.inr ht), if_pos ht]
      simp; omega
    · by_cases he : L ≤ s ∨ s + (v :: l).sum < T
      · simp only [trc] at h
        rw [if_pos he] at h
        simp at h
        simp only [certP, certR]
        rw [if_pos (.inl he), if_neg ht, if_pos he]
        simp; omega
      · simp only [trc] at h
        rw [if_neg he] at h
        simp at h
        simp only [certP, certR]
        rw [if_neg (by rintro (e | e); exact he e; exact ht e), if_neg ht, if_neg he]
        by_cases hm : (t ++ [1] ++ trc T L l (s + v)).length ≤ 16384
        · have h1 := cert_same hm
          rw [h1.1, h1.2]
          exact ih (by simp; omega)
        · have h1 := ih (s := s + v) (t := t ++ [1]) (by omega)
          exact ⟨(ih (by rw [List.length_append]; omega)).1, (ih (by rw [List.length_append]; omega)).2⟩
theorem certP_len {T L : Int} : ∀ {l : List Int} {s : Int} {t : List Int}, (certP T L l s t).length ≤ max (16385 + 2 * l.length) (t.length + 1) := by
  intro l
  induction l with
  | nil => intro s t; simp [certP]; omega
  | cons v l ih =>
    intro s t
    simp only [certP]
    split
    · simp; omega
    · rename_i h
      have ht : ¬ 16384 < t.length := fun e => h (.inr e)
      have h1 := ih (s := s + v) (t := t ++ [1])
      have h2 := ih (s := s) (t := certP T L l (s + v) (t ++ [1]))
      simp only [List.length_append, List.length_cons, List.length_nil] at h1 h2 ⊢
      omega
theorem certR_len {T L : Int} : ∀ {l : List Int} {s : Int} {t : List Int}, (certR T L l s t).length ≤ max 16385 t.length := by
  intro l
  induction l with
  | nil => intro s t; simp only [certR]; split <;> (try simp) <;> omega
  | cons v l ih =>
    intro s t
    simp only [certR]
    split
    · omega
    · split
      · simp; omega
      · rename_i ht _
        have h1 := ih (s := s + v) (t := t ++ [1])
        have h2 := ih (s := s) (t := certR T L l (s + v) (t ++ [1]))
        simp only [List.length_append, List.length_cons, List.length_nil] at h1 h2 ⊢
        omega
end Go.PE
end

section
namespace Go.PE
set_option linter.unusedSimpArgs false
set_option linter.unusedVariables false
def Bd (l : List Int) : Prop := ∀ x ∈ l, 1 ≤ x ∧ x ≤ 2100000000000000
theorem Bd.pos {l : List Int} (h : Bd l) : Pos l := fun x hx => (h x hx).1
theorem Bd.drop {l : List Int} (h : Bd l) {i : Nat} : Bd (l.drop i) := fun x hx => h x (List.mem_of_mem_drop hx)
theorem Bd.sum_le : ∀ {l : List Int}, Bd l → l.sum ≤ l.length * 2100000000000000 := by
  intro l
  induction l with
  | nil => intro _; simp
  | cons v l ih => intro h; have := h v (by simp); have := ih fun x hx => h x (by simp [hx]); simp only [List.sum_cons, List.length_cons]; omega
theorem Bd.sum16 {l : List Int} (h : Bd l) (hl : l.length ≤ 16) : 0 ≤ l.sum ∧ l.sum ≤ 33600000000000000 := by
  have h1 := sum_pos h.pos
  have h2 := h.sum_le
  omega
theorem sum_up {l : List Int} {i : Nat} (hi : i < l.length) : (l.take (i + 1)).sum = (l.take i).sum + l[i] := by
  rw [List.take_succ_eq_append_getElem hi, List.sum_append]; simp
theorem take_bd {l : List Int} (h : Bd l) {i : Nat} : Bd (l.take i) := fun x hx => h x (List.mem_of_mem_take hx)
section
variable {l : List Int} (hb : Bd l) (hl : l.length ≤ 16)
include hb hl
theorem selection_total_eq : selection_total l = some ((l.sum, ()), ()) := by
  unfold selection_total
  rw [loopV_ind (step := selection_total_L1 l (l.length : Int)) (o := ((l.sum, ()), ())) (fun i => (((l.take i).sum, ((i : Int), ())), ())) l.length ?_ ?_ ?_]
  · rfl
  · rfl
  · intro i hi
    have h1 : (i : Int) < (l.length : Int) := by omega
    have h2 := (take_bd hb (i := i + 1)).sum16 (by rw [List.length_take]; omega)
    rw [sum_up hi] at h2 ⊢
    simp only [selection_total_L1, h1, decide_true, cond_true, inb_nat hi, rd_in (t := .int .i64) (xs := l) hi, i64_up hi (show l.length ≤ big from Nat.le_trans hl (by decide))]
    rw [IntWalk.i64_in _ (by omega)]
  · have h1 : ¬ (l.length : Int) < (l.length : Int) := by omega
    simp only [selection_total_L1, h1, decide_false, cond_false, List.take_length]
theorem ref32_sum_eq : ref32_sum l = some ((l.sum, ()), ()) := by
  unfold ref32_sum
  rw [loopV_ind (step := ref32_sum_L1 l) (o := ((l.sum, ()), ())) (fun i => (((l.take i).sum, ((i : Int), ())), ())) l.length ?_ ?_ ?_]
  · rfl
  · rfl
  · intro i hi
    have h1 : (i : Int) < (l.length : Int) := by omega
    have h2 := (take_bd hb (i := i + 1)).sum16 (by rw [List.length_take]; omega)
    rw [sum_up hi] at h2 ⊢
    simp only [ref32_sum_L1, h1, decide_true, cond_true, inb_nat hi, rd_in (t := .int .i64) (xs := l) hi, i64_up hi (show l.length ≤ big from Nat.le_trans hl (by decide))]
    rw [IntWalk.i64_in _ (by omega)]
  · have h1 : ¬ (l.length : Int) < (l.length : Int) := by omega
    simp only [ref32_sum_L1, h1, decide_false, cond_false, List.take_length]
end
/-! ### the program's search -/
theorem srch_leaf {T : Int} {l : List Int} {i : Nat} {s : Int} {ch : List Int} {st : Sta} (h : T ≤ s) : srch T l i s ch st = upd st (s, ch) := by
  unfold srch; rw [leaves_enough h]; rfl
theorem look_eq {xs : List Int} {T : Int} (hb : Bd xs) (hl : xs.length ≤ 16) : ∀ (l : List Int) (i n : Nat) (s b : Int) (f : Bool) (ch kp : List Int), xs.drop i = l → l.length + 1 ≤ n → 0 ≤ s → s + l.sum ≤ 33600000000000000 → ch.length ≤ i → i ≤ xs.length →
    fixN selection_search_look_R n (((), ((i : Int), (s, (l.sum, ())))), ((xs, (T, ((), (((), (b, ())), (f, ()))))), (ch, (kp, ())))) =
      some ((), ((xs, (T, ((), (((), ((srch T l i s ch (b, f, kp)).1, ())), ((srch T l i s ch (b, f, kp)).2.1, ()))))), ((), ((), (ch, ((srch T l i s ch (b, f, kp)).2.2, ())))))) := by
  intro l
  induction l with
  | nil =>
    intro i n s b f ch kp hd hn hs hr hc hi
    obtain ⟨n, rfl⟩ : ∃ k, n = k + 1 := ⟨n - 1, by omega⟩
    show selection_search_look_R (fixN selection_search_look_R n) _ = _
    unfold selection_search_look_R
    by_cases hT : T ≤ s
    · rw [srch_leaf hT]
      have hcl : ch.length ≤ lim := by unfold lim; omega
      simp only [hT, decide_true, cond_true, selection_search_look_J1, slices_Clone_int_int, hcl, Option.bind_some, upd]
      cases f with
      | false => simp [hcl]
      | true =>
        by_cases hlt : s < b
        · simp [hlt, hcl]
        · simp [hlt, hcl]
    · have e : IntKind.i64.wrap (s + List.sum ([] : List Int)) = s := by rw [IntWalk.i64_in _ (by simp at hr ⊢; omega)]; simp
      have h2 : s < T := by omega
      have e2 : srch T [] i s ch (b, f, kp) = (b, f, kp) := by unfold srch leaves; rw [if_neg hT]; rfl
      simp only [hT, decide_false, cond_false, e, h2, decide_true, cond_true, e2]
  | cons v l ih =>
    intro i n s b f ch kp hd hn hs hr hc hi
    obtain ⟨n, rfl⟩ : ∃ k, n = k + 1 := ⟨n - 1, by omega⟩
    have hil : i < xs.length := by
      rcases Nat.lt_or_ge i xs.length with h | h
      · exact h
      · rw [List.drop_eq_nil_of_le h] at hd; cases hd
    rw [List.drop_eq_getElem_cons hil] at hd
    injection hd with hv hd'
    have hbv := hb _ (List.getElem_mem hil)
    rw [hv] at hbv
    have hlb : Bd l := by rw [← hd']; exact hb.drop
    have h0 := sum_pos hlb.pos
    simp only [List.sum_cons] at hr
    have ihn := fun i s b f ch kp => ih i n s b f ch kp
    show selection_search_look_R (fixN selection_search_look_R n) _ = _
    generalize fixN selection_search_look_R n = self at ihn ⊢
    unfold selection_search_look_R
    by_cases hT : T ≤ s
    · rw [srch_leaf hT]
      have hcl : ch.length ≤ lim := by unfold lim; omega
      simp only [hT, decide_true, cond_true, selection_search_look_J1, slices_Clone_int_int, hcl, Option.bind_some, upd]
      cases f with
      | false => simp [hcl]
      | true =>
        by_cases hlt : s < b
        · simp [hlt, hcl]
        · simp [hlt, hcl]
    · have e : IntKind.i64.wrap (s + (v :: l).sum) = s + (v :: l).sum := IntWalk.i64_in _ (by simp only [List.sum_cons]; omega)
      by_cases hp : s + (v :: l).sum < T
      · have e2 : srch T (v :: l) i s ch (b, f, kp) = (b, f, kp) := by unfold srch leaves; rw [if_neg hT, if_pos hp]; rfl
        simp only [hT, decide_false, cond_false, e, hp, decide_true, cond_true, e2]
      · have e2 : srch T (v :: l) i s ch (b, f, kp) = srch T l (i + 1) s ch (srch T l (i + 1) (s + v) (ch ++ [(i : Int)]) (b, f, kp)) := by
          unfold srch; simp only [leaves]; rw [if_neg hT, if_neg hp, List.foldl_append]
        have h3 : ch.length + 1 ≤ lim := by unfold lim; omega
        have w1 : IntKind.i64.wrap ((i : Int) + 1) = ((i + 1 : Nat) : Int) := i64_up (n := 16) (by omega) (by decide)
        have w2 : IntKind.i64.wrap (s + v) = s + v := IntWalk.i64_in _ (by omega)
        have w3 : IntKind.i64.wrap ((v :: l).sum - v) = l.sum := by rw [IntWalk.i64_in _ (by simp only [List.sum_cons]; omega)]; simp only [List.sum_cons]; omega
        have w4 : IntKind.i64.wrap ((((ch ++ [(i : Int)]).length : Nat) : Int) - 1) = (ch.length : Int) := by
          rw [IntWalk.i64_in _ (by rw [List.length_append, List.length_singleton]; omega), List.length_append, List.length_singleton]; omega
        have w5 : sub (ch ++ [(i : Int)]) 0 ch.length = ch := by unfold sub; simp
        have w6 : Nat.ble (0 + ch.length) (ch ++ [(i : Int)]).length = true := by rw [Nat.ble_eq]; simp
        have w7 : (ch.length : Int) ≤ ((ch ++ [(i : Int)]).length : Int) := by rw [List.length_append]; omega
        have w8 : (0 : Int) ≤ (ch.length : Int) := by omega
        have i1 := ihn (i + 1) (s + v) b f (ch ++ [(i : Int)]) kp hd' (by simp only [List.length_cons] at hn; omega) (by omega) (by omega) (by rw [List.length_append, List.length_singleton]; omega) (by omega)
        generalize srch T l (i + 1) (s + v) (ch ++ [(i : Int)]) (b, f, kp) = q at i1 e2
        obtain ⟨b1, f1, k1⟩ := q
        have i2 := ihn (i + 1) s b1 f1 ch k1 hd' (by simp only [List.length_cons] at hn; omega) hs (by omega) (by omega) (by omega)
        simp only [hT, decide_false, cond_false, e, hp, inb_nat hil, cond_true, rd_in (t := .int .i64) (xs := xs) hil, hv, List.length_singleton, h3, decide_true, w1, w2, w3, i1, Option.bind_some]
        simp only [w4, w8, w7, decide_true, Bool.and_self, cond_true, Int.toNat_natCast, w5, w6, i2, Option.bind_some, e2]
end Go.PE
end

section
namespace Go.PE
set_option linter.unusedSimpArgs false
set_option linter.unusedVariables false
/-- The sums of the leaves. -/
def sms (T : Int) : List Int → Int → List Int
  | [], s => if T ≤ s then [s] else []
  | v :: l, s => if T ≤ s then [s] else if s + (v :: l).sum < T then [] else sms T l (s + v) ++ sms T l s
theorem leaves_sms {T : Int} : ∀ {l : List Int} {i : Nat} {s : Int} {ch : List Int}, (leaves T l i s ch).map (·.1) = sms T l s := by
  intro l
  induction l with
  | nil => intro i s ch; simp only [leaves, sms]; split <;> rfl
  | cons v l ih =>
    intro i s ch
    simp only [leaves, sms]
    split
    · rfl
    · split
      · rfl
      · rw [List.map_append, ih, ih]
def Inv (T L : Int) (l : List Int) (s : Int) : Prop := ∀ x ∈ sms T l s, L ≤ x
theorem inv_leaf {T L s : Int} {l : List Int} (h : Inv T L l s) (hT : T ≤ s) : L ≤ s := by
  apply h; cases l <;> simp [sms, hT]
theorem inv_cons {T L s v : Int} {l : List Int} (h : Inv T L (v :: l) s) (hT : ¬ T ≤ s) (hr : ¬ s + (v :: l).sum < T) : Inv T L l (s + v) ∧ Inv T L l s := by
  have e : sms T (v :: l) s = sms T l (s + v) ++ sms T l s := by simp only [sms]; rw [if_neg hT, if_neg hr]
  unfold Inv at h
  rw [e] at h
  exact ⟨fun x hx => h x (List.mem_append.2 (.inl hx)), fun x hx => h x (List.mem_append.2 (.inr hx))⟩
theorem certify_eq {xs : List Int} {T L : Int} (hb : Bd xs) (hl : xs.length ≤ 16) : ∀ (l : List Int) (i n : Nat) (s : Int) (t : List Int), xs.drop i = l → l.length + 1 ≤ n → 0 ≤ s → s + l.sum ≤ 33600000000000000 → i ≤ xs.length → Inv T L l s → t.length ≤ 100000 →
    fixN selection_certify_R n (((), (xs, (T, (L, ((i : Int), (s, (l.sum, ()))))))), (t, ())) = some (((), ()), ((), (certP T L l s t, ()))) := by
  intro l
  induction l with
  | nil =>
    intro i n s t hd hn hs hr hi hinv ht
    obtain ⟨n, rfl⟩ : ∃ k, n = k + 1 := ⟨n - 1, by omega⟩
    show selection_certify_R (fixN selection_certify_R n) _ = _
    generalize fixN selection_certify_R n = self
    unfold selection_certify_R selection_certify_J1
    have e : IntKind.i64.wrap (s + List.sum ([] : List Int)) = s := by rw [IntWalk.i64_in _ (by simp at hr ⊢; omega)]; simp
    have h3 : t.length + 1 ≤ lim := by unfold lim; omega
    by_cases hL : L ≤ s
    · simp [hL, h3, certP]
    · have hT : s < T := by
        rcases Int.lt_or_le s T with h | h
        · exact h
        · exact (hL (inv_leaf hinv h)).elim
      simp only [hL, decide_false, cond_false, e, hT, decide_true, cond_true, Option.bind_some, List.length_singleton, h3, certP]
  | cons v l ih =>
    intro i n s t hd hn hs hr hi hinv ht
    obtain ⟨n, rfl⟩ : ∃ k, n = k + 1 := ⟨n - 1, by omega⟩
    have hil : i < xs.length := by
      rcases Nat.lt_or_ge i xs.length with h | h
      · exact h
      · rw [List.drop_eq_nil_of_le h] at hd; cases hd
    rw [List.drop_eq_getElem_cons hil] at hd
    injection hd with hv hd'
    have hbv := hb _ (List.getElem_mem hil)
    rw [hv] at hbv
    have hlb : Bd l := by rw [← hd']; exact hb.drop
    have h0 := sum_pos hlb.pos
    have hll : l.length ≤ 16 := by rw [← hd', List.length_drop]; omega
    simp only [List.sum_cons] at hr
    have ihn := fun i s t => ih i n s t
    show selection_certify_R (fixN selection_certify_R n) _ = _
    generalize fixN selection_certify_R n = self at ihn ⊢
    unfold selection_certify_R
    have e : IntKind.i64.wrap (s + (v :: l).sum) = s + (v :: l).sum := IntWalk.i64_in _ (by simp only [List.sum_cons]; omega)
    have h3 : t.length + 1 ≤ lim := by unfold lim; omega
    by_cases hf : (L ≤ s ∨ s + (v :: l).sum < T) ∨ 16384 < t.length
    · have hj : selection_certify_J1 self T L s (v :: l).sum (((), ()), (t, ())) = some (((), (true, ())), (t, ())) := by
        unfold selection_certify_J1
        by_cases hL : L ≤ s
        · simp [hL]
        · by_cases hT : s + (v :: l).sum < T
          · simp only [hL, decide_false, cond_false, e, hT, decide_true, cond_true]
          · have h4 : (16384 : Int) < (t.length : Int) := by
              rcases hf with (h | h) | h
              · exact (hL h).elim
              · exact (hT h).elim
              · omega
            simp only [hL, decide_false, cond_false, e, hT, h4, decide_true]
      rw [hj]
      simp only [Option.bind_some, cond_true, List.length_singleton, h3, decide_true, certP]
      rw [if_pos hf]
    · have hL : ¬ L ≤ s := fun h => hf (.inl (.inl h))
      have hT : ¬ s + (v :: l).sum < T := fun h => hf (.inl (.inr h))
      have hlen : ¬ 16384 < t.length := fun h => hf (.inr h)
      have hTs : ¬ T ≤ s := fun h => hL (inv_leaf hinv h)
      obtain ⟨v1, v2⟩ := inv_cons hinv hTs hT
      have hj : selection_certify_J1 self T L s (v :: l).sum (((), ()), (t, ())) = some (((), (false, ())), (t, ())) := by
        unfold selection_certify_J1
        have h4 : ¬ (16384 : Int) < (t.length : Int) := by omega
        simp only [hL, decide_false, cond_false, e, hT, h4]
      rw [hj]
      have w1 : IntKind.i64.wrap ((i : Int) + 1) = ((i + 1 : Nat) : Int) := i64_up (n := 16) (by omega) (by decide)
      have w2 : IntKind.i64.wrap (s + v) = s + v := IntWalk.i64_in _ (by omega)
      have w3 : IntKind.i64.wrap ((v :: l).sum - v) = l.sum := by rw [IntWalk.i64_in _ (by simp only [List.sum_cons]; omega)]; simp only [List.sum_cons]; omega
      have i1 := ihn (i + 1) (s + v) (t ++ [1]) hd' (by simp only [List.length_cons] at hn; omega) (by omega) (by omega) (by omega) v1 (by rw [List.length_append, List.length_singleton]; omega)
      have hcl := certP_len (T := T) (L := L) (l := l) (s := s + v) (t := t ++ [1])
      have i2 := ihn (i + 1) s (certP T L l (s + v) (t ++ [1])) hd' (by simp only [List.length_cons] at hn; omega) hs (by omega) (by omega) v2 (by rw [List.length_append, List.length_singleton] at hcl; omega)
      simp only [Option.bind_some, cond_false, inb_nat hil, cond_true, rd_in (t := .int .i64) (xs := xs) hil, hv, List.length_singleton, h3, decide_true, w1, w2, w3, i1, i2, certP]
      rw [if_neg hf]
end Go.PE
end

section
namespace Go.PE
set_option linter.unusedSimpArgs false
set_option linter.unusedVariables false
theorem sub_drop {xs : List Int} {i : Nat} : sub xs i (xs.length - i) = xs.drop i := by unfold sub; rw [List.take_of_length_le (by rw [List.length_drop]; omega)]
theorem ends_eq {xs : List Int} {T L s : Int} {i : Nat} (hb : Bd xs) (hl : xs.length ≤ 16) (hi : i ≤ xs.length) (hs : 0 ≤ s) (hr : s + (xs.drop i).sum ≤ 33600000000000000) :
    ref32_ends xs T (i : Int) s L = some ((decide (L ≤ s) || decide (s + (xs.drop i).sum < T), ()), ()) := by
  unfold ref32_ends
  by_cases hL : L ≤ s
  · simp [hL]
  · have h1 : (0 : Int) ≤ (i : Int) := by omega
    have h2 : (i : Int) ≤ (xs.length : Int) := by omega
    have hll : (xs.drop i).length ≤ 16 := by rw [List.length_drop]; omega
    have h0 := sum_pos (hb.drop (i := i)).pos
    have e : IntKind.i64.wrap (s + (xs.drop i).sum) = s + (xs.drop i).sum := IntWalk.i64_in _ (by omega)
    simp only [hL, decide_false, cond_false, h1, h2, decide_true, Bool.and_self, cond_true, Int.toNat_natCast, sub_drop, ref32_sum_eq hb.drop hll, Option.bind_some, e, Bool.false_or]
theorem trace_eq {xs : List Int} {T L : Int} (hb : Bd xs) (hl : xs.length ≤ 16) : ∀ (l : List Int) (i n : Nat) (s : Int) (t : List Int), xs.drop i = l → l.length + 1 ≤ n → 0 ≤ s → s + l.sum ≤ 33600000000000000 → i ≤ xs.length → Inv T L l s → t.length ≤ 100000 →
    fixN ref32_trace_R n ((xs, (T, ((i : Int), (s, (L, ((), ())))))), (t, ())) = some (((), ()), ((), (certR T L l s t, ()))) := by
  intro l
  induction l with
  | nil =>
    intro i n s t hd hn hs hr hi hinv ht
    obtain ⟨n, rfl⟩ : ∃ k, n = k + 1 := ⟨n - 1, by omega⟩
    have hends := ends_eq (T := T) (L := L) hb hl hi hs (by rw [hd]; exact hr)
    show ref32_trace_R (fixN ref32_trace_R n) _ = _
    generalize fixN ref32_trace_R n = self
    unfold ref32_trace_R
    have h3 : t.length + 1 ≤ lim := by unfold lim; omega
    by_cases h4 : 16384 < t.length
    · have h4' : (16384 : Int) < (t.length : Int) := by omega
      simp only [h4', decide_true, cond_true, certR]
      rw [if_pos h4]
    · have h4' : ¬ (16384 : Int) < (t.length : Int) := by omega
      have he : (decide (L ≤ s) || decide (s + (xs.drop i).sum < T)) = true := by
        rw [hd]
        by_cases hL : L ≤ s
        · simp [hL]
        · have hT : s < T := by
            rcases Int.lt_or_le s T with h | h
            · exact h
            · exact (hL (inv_leaf hinv h)).elim
          simp [hT]
      rw [he] at hends
      simp only [h4', decide_false, cond_false, hends, Option.bind_some, cond_true, List.length_singleton, h3, decide_true, certR]
      rw [if_neg h4]
  | cons v l ih =>
    intro i n s t hd hn hs hr hi hinv ht
    obtain ⟨n, rfl⟩ : ∃ k, n = k + 1 := ⟨n - 1, by omega⟩
    have hends := ends_eq (T := T) (L := L) hb hl hi hs (by rw [hd]; exact hr)
    rw [hd] at hends
    have hil : i < xs.length := by
      rcases Nat.lt_or_ge i xs.length with h | h
      · exact h
      · rw [List.drop_eq_nil_of_le h] at hd; cases hd
    rw [List.drop_eq_getElem_cons hil] at hd
    injection hd with hv hd'
    have hbv := hb _ (List.getElem_mem hil)
    rw [hv] at hbv
    have hlb : Bd l := by rw [← hd']; exact hb.drop
    have h0 := sum_pos hlb.pos
    have hll : l.length ≤ 16 := by rw [← hd', List.length_drop]; omega
    have ihn := fun i s t => ih i n s t
    show ref32_trace_R (fixN ref32_trace_R n) _ = _
    generalize fixN ref32_trace_R n = self at ihn ⊢
    unfold ref32_trace_R
    have h3 : t.length + 1 ≤ lim := by unfold lim; omega
    by_cases h4 : 16384 < t.length
    · have h4' : (16384 : Int) < (t.length : Int) := by omega
      simp only [h4', decide_true, cond_true, certR]
      rw [if_pos h4]
    · have h4' : ¬ (16384 : Int) < (t.length : Int) := by omega
      by_cases hf : L ≤ s ∨ s + (v :: l).sum < T
      · have he : (decide (L ≤ s) || decide (s + (v :: l).sum < T)) = true := by rw [Bool.or_eq_true, decide_eq_true_eq, decide_eq_true_eq]; exact hf
        rw [he] at hends
        simp only [h4', decide_false, cond_false, hends, Option.bind_some, cond_true, List.length_singleton, h3, decide_true, certR]
        rw [if_neg h4, if_pos hf]
      · have he : (decide (L ≤ s) || decide (s + (v :: l).sum < T)) = false := by
          have hL : ¬ L ≤ s := fun h => hf (.inl h)
          have hT : ¬ s + (v :: l).sum < T := fun h => hf (.inr h)
          rw [decide_eq_false hL, decide_eq_false hT]; rfl
        rw [he] at hends
        have hL : ¬ L ≤ s := fun h => hf (.inl h)
        have hT : ¬ s + (v :: l).sum < T := fun h => hf (.inr h)
        have hTs : ¬ T ≤ s := fun h => hL (inv_leaf hinv h)
        obtain ⟨v1, v2⟩ := inv_cons hinv hTs hT
        simp only [List.sum_cons] at hr
        have w1 : IntKind.i64.wrap ((i : Int) + 1) = ((i + 1 : Nat) : Int) := i64_up (n := 16) (by omega) (by decide)
        have w2 : IntKind.i64.wrap (s + v) = s + v := IntWalk.i64_in _ (by omega)
        have i1 := ihn (i + 1) (s + v) (t ++ [1]) hd' (by simp only [List.length_cons] at hn; omega) (by omega) (by omega) (by omega) v1 (by rw [List.length_append, List.length_singleton]; omega)
        have hcl := certR_len (T := T) (L := L) (l := l) (s := s + v) (t := t ++ [1])
        have i2 := ihn (i + 1) s (certR T L l (s + v) (t ++ [1])) hd' (by simp only [List.length_cons] at hn; omega) hs (by omega) (by omega) v2 (by rw [List.length_append, List.length_singleton] at hcl; omega)
        simp only [h4', decide_false, cond_false, hends, Option.bind_some, inb_nat hil, cond_true, rd_in (t := .int .i64) (xs := xs) hil, hv, List.length_singleton, h3, decide_true, w1, w2, i1, i2, certR]
        rw [if_neg h4, if_neg hf]
/-- The reference's least sum: the least of the best so far and the leaves' sums. -/
def lsm (b : Int) (xs : List Int) : Int := xs.foldl (fun b x => min x b) b
theorem lst_lsm {b : Int} {ps : List (Int × List Int)} : lst b ps = lsm b (ps.map (·.1)) := by
  unfold lst lsm; rw [List.foldl_map]
theorem lsm_append {b : Int} {xs ys : List Int} : lsm b (xs ++ ys) = lsm (lsm b xs) ys := List.foldl_append
theorem lsm_stay {b : Int} : ∀ {xs : List Int}, (∀ x ∈ xs, b ≤ x) → lsm b xs = b := by
  intro xs
  induction xs with
  | nil => intro _; rfl
  | cons x xs ih =>
    intro h
    show lsm (min x b) xs = b
    have := h x (by simp)
    rw [show min x b = b by omega]
    exact ih fun y hy => h y (by simp [hy])
theorem sms_ge {T : Int} {l : List Int} {s : Int} (hl : Pos l) : ∀ x ∈ sms T l s, s ≤ x := by
  intro x hx
  rw [← leaves_sms (i := 0) (ch := [])] at hx
  obtain ⟨p, hp, rfl⟩ := List.mem_map.1 hx
  exact (leaves_range hl p hp).2.1
theorem least_eq {T : Int} : ∀ (l : List Int) (n : Nat) (s b : Int), Bd l → l.length ≤ 16 → l.length + 1 ≤ n → 0 ≤ s → s + l.sum ≤ 33600000000000000 →
    fixN ref32_least_R n ((l, (T, (s, (b, ())))), ()) = some ((lsm b (sms T l s), ()), ()) := by
  intro l
  induction l with
  | nil =>
    intro n s b hb hl hn hs hr
    obtain ⟨n, rfl⟩ : ∃ k, n = k + 1 := ⟨n - 1, by omega⟩
    show ref32_least_R (fixN ref32_least_R n) _ = _
    generalize fixN ref32_least_R n = self
    unfold ref32_least_R
    by_cases hT : T ≤ s
    · simp [hT, sms, lsm]
    · by_cases hbs : b ≤ s
      · simp [hT, hbs, sms, lsm]
      · have e : IntKind.i64.wrap (s + List.sum ([] : List Int)) = s := by rw [IntWalk.i64_in _ (by simp at hr ⊢; omega)]; simp
        have h2 : s < T := by omega
        simp only [hT, hbs, decide_false, cond_false, ref32_sum_eq hb hl, Option.bind_some, e, h2, decide_true, cond_true, sms, if_false, lsm, List.foldl_nil]
  | cons v l ih =>
    intro n s b hb hl hn hs hr
    obtain ⟨n, rfl⟩ : ∃ k, n = k + 1 := ⟨n - 1, by omega⟩
    have hbv := hb v (by simp)
    have hlb : Bd l := fun x hx => hb x (by simp [hx])
    have h0 := sum_pos hlb.pos
    have ihn := fun s b => ih n s b hlb (by simp only [List.length_cons] at hl; omega) (by simp only [List.length_cons] at hn; omega)
    show ref32_least_R (fixN ref32_least_R n) _ = _
    generalize fixN ref32_least_R n = self at ihn ⊢
    unfold ref32_least_R
    by_cases hT : T ≤ s
    · simp [hT, sms, lsm]
    · by_cases hbs : b ≤ s
      · rw [lsm_stay fun x hx => by have := sms_ge hb.pos x hx; omega]
        simp [hT, hbs]
      · have e : IntKind.i64.wrap (s + (v :: l).sum) = s + (v :: l).sum := IntWalk.i64_in _ (by simp only [List.sum_cons] at hr ⊢; omega)
        by_cases hr2 : s + (v :: l).sum < T
        · have e2 : sms T (v :: l) s = [] := by simp only [sms]; rw [if_neg hT, if_pos hr2]
          simp only [hT, hbs, decide_false, cond_false, ref32_sum_eq hb hl, Option.bind_some, e, hr2, decide_true, cond_true, e2, lsm, List.foldl_nil]
        · have e2 : sms T (v :: l) s = sms T l (s + v) ++ sms T l s := by simp only [sms]; rw [if_neg hT, if_neg hr2]
          simp only [List.sum_cons] at hr
          have c1 : (1 : Int) ≤ ((v :: l).length : Int) := by simp only [List.length_cons]; omega
          have c2 : inb 0 (v :: l).length = true := inb_t (by simp only [List.length_cons]; omega)
          have c3 : rd (.int .i64) (v :: l) 0 = v := rfl
          have c4 : sub (v :: l) 1 ((v :: l).length - 1) = l := by simp [sub]
          have w2 : IntKind.i64.wrap (s + v) = s + v := IntWalk.i64_in _ (by omega)
          have i1 := ihn (s + v) b (by omega) (by omega)
          have i2 := ihn s (lsm b (sms T l (s + v))) hs (by omega)
          simp only [hT, hbs, decide_false, cond_false, ref32_sum_eq hb hl, Option.bind_some, e, hr2, c1, c2, c3, c4, w2, decide_true, Bool.and_self, cond_true, show ((0 : Int) ≤ 1) from by omega, i1, i2, e2, lsm_append]
end Go.PE
end

section
namespace Go.PE
set_option linter.unusedSimpArgs false
set_option linter.unusedVariables false
theorem plc_len : ∀ {l : List Int} {i : Nat} {left : Int} {r : List Int}, plc l i left = some r → r.length ≤ l.length := by
  intro l
  induction l with
  | nil => intro i left r h; unfold plc at h; split at h
           · cases h; simp
           · cases h
  | cons v l ih =>
    intro i left r h
    unfold plc at h
    split at h
    · cases h; simp
    · simp only [] at h
      split at h
      · cases h
      · split at h
        · cases h
        · cases hp : plc l (i + 1) (left - v) with
          | some q =>
            rw [hp] at h
            cases h
            have := ih hp
            simp only [List.length_cons]; omega
          | none =>
            rw [hp] at h
            have := ih h
            simp only [List.length_cons]; omega
def plR (o : Option (List Int)) : ((List Int) × Bool × Unit) × Unit := match o with
  | some r => ((r, (true, ())), ())
  | none => (([], (false, ())), ())
theorem places_eq {xs : List Int} (hb : Bd xs) (hl : xs.length ≤ 16) : ∀ (l : List Int) (i n : Nat) (left : Int), xs.drop i = l → l.length + 1 ≤ n → -2100000000000000 ≤ left → left ≤ 33600000000000000 → i ≤ xs.length →
    fixN ref32_places_R n ((xs, ((i : Int), (left, ()))), ()) = some (plR (plc l i left)) := by
  intro l
  induction l with
  | nil =>
    intro i n left hd hn h1 h2 hi
    obtain ⟨n, rfl⟩ : ∃ k, n = k + 1 := ⟨n - 1, by omega⟩
    have hil : xs.length ≤ i := by
      have := congrArg List.length hd
      rw [List.length_drop] at this; simp at this; omega
    have hil' : (xs.length : Int) ≤ (i : Int) := by omega
    show ref32_places_R (fixN ref32_places_R n) _ = _
    generalize fixN ref32_places_R n = self
    unfold ref32_places_R plc
    by_cases h0 : left = 0
    · simp [h0, plR]
    · simp [h0, hil', hil, plR]
  | cons v l ih =>
    intro i n left hd hn h1 h2 hi
    obtain ⟨n, rfl⟩ : ∃ k, n = k + 1 := ⟨n - 1, by omega⟩
    have hil : i < xs.length := by
      rcases Nat.lt_or_ge i xs.length with h | h
      · exact h
      · rw [List.drop_eq_nil_of_le h] at hd; cases hd
    have hdd := hd
    rw [List.drop_eq_getElem_cons hil] at hd
    injection hd with hv hd'
    have hbv := hb _ (List.getElem_mem hil)
    rw [hv] at hbv
    have hll : (v :: l).length ≤ 16 := by rw [← hdd, List.length_drop]; omega
    have hlb : Bd (v :: l) := by rw [← hdd]; exact hb.drop
    have ihn := fun i left => ih i n left
    show ref32_places_R (fixN ref32_places_R n) _ = _
    generalize fixN ref32_places_R n = self at ihn ⊢
    unfold ref32_places_R plc
    by_cases h0 : left = 0
    · simp [h0, plR]
    · have c1 : ¬ (xs.length : Int) ≤ (i : Int) := by omega
      rw [if_neg h0]
      simp only [h0, c1, decide_false, cond_false]
      by_cases hneg : left < 0
      · simp only [hneg, decide_true, cond_true, if_true, plR]
      · have c2 : (0 : Int) ≤ (i : Int) := by omega
        have c3 : (i : Int) ≤ (xs.length : Int) := by omega
        simp only [hneg, decide_false, cond_false, if_false, c2, c3, decide_true, Bool.and_self, cond_true, Int.toNat_natCast, sub_drop, hdd, ref32_sum_eq hlb hll, Option.bind_some]
        by_cases hs : (v :: l).sum < left
        · simp only [hs, decide_true, cond_true, if_true, plR]
        · have w1 : IntKind.i64.wrap ((i : Int) + 1) = ((i + 1 : Nat) : Int) := i64_up (n := 16) (by omega) (by decide)
          have w2 : IntKind.i64.wrap (left - v) = left - v := IntWalk.i64_in _ (by omega)
          have i1 := ihn (i + 1) (left - v) hd' (by simp only [List.length_cons] at hn; omega) (by omega) (by omega) (by omega)
          have i2 := ihn (i + 1) left hd' (by simp only [List.length_cons] at hn; omega) h1 h2 (by omega)
          simp only [hs, decide_false, cond_false, if_false, inb_nat hil, cond_true, rd_in (t := .int .i64) (xs := xs) hil, hv, w1, w2, i1, Option.bind_some]
          cases hp : plc l (i + 1) (left - v) with
          | some q =>
            have hq := plc_len hp
            have h5 : 1 + q.length ≤ lim := by simp only [List.length_cons] at hll; unfold lim; omega
            simp only [plR, cond_true, List.length_singleton, h5, decide_true, List.singleton_append]
          | none =>
            simp only [plR, cond_false, i2, Option.bind_some]
/-! ### faults -/
def okV (v : Int) : Bool := !decide (v < 1) && !decide (2100000000000000 < v)
section
variable {xs : List Int} {T : Int} (hl : xs.length ≤ 16)
include hl
theorem selection_proper_eq : selection_proper xs T = some ((xs.all okV && (decide (1 ≤ T) && decide (T ≤ 2100000000000000)), ()), ()) := by
  unfold selection_proper
  rw [loopV_all (step := selection_proper_L1 xs (xs.length : Int)) (fun i => (((i : Int), ()), ())) xs.length (fun i => okV (rd (.int .i64) xs (i : Int))) (bad := .inl ((false, ()), ())) (good := .inr ((), ())) (b := xs.all okV) ?_ ?_ ?_ ?_]
  · cases xs.all okV with
    | false => rfl
    | true =>
      simp only [cond_true, Option.bind_some, Bool.true_and]
      cases decide (1 ≤ T) <;> rfl
  · rfl
  · rw [List.all_eq_true]
    constructor
    · intro h i hi; rw [rd_in (t := .int .i64) (xs := xs) hi]; exact h _ (List.getElem_mem hi)
    · intro h x hx; obtain ⟨i, hi, rfl⟩ := List.getElem_of_mem hx; have := h i hi; rwa [rd_in (t := .int .i64) (xs := xs) hi] at this
  · intro i hi
    have h1 : (i : Int) < (xs.length : Int) := by omega
    simp only [selection_proper_L1, h1, decide_true, cond_true, inb_nat hi, i64_up hi (show xs.length ≤ big from Nat.le_trans hl (by decide)), okV]
    generalize decide (rd (.int .i64) xs (i : Int) < (1 : Int)) = p
    generalize decide ((2100000000000000 : Int) < rd (.int .i64) xs (i : Int)) = q
    cases p <;> cases q <;> rfl
  · simp [selection_proper_L1]
theorem ref32_proper_eq : ref32_proper xs T = some ((if (xs.all okV && (decide (1 ≤ T) && decide (T ≤ 2100000000000000))) = true then 0 else 5, ()), ()) := by
  unfold ref32_proper
  have h16 : ¬ (16 : Int) < (xs.length : Int) := by omega
  simp only [h16, decide_false, cond_false]
  rw [loopV_all (step := ref32_proper_L1 xs) (fun i => (((i : Int), ()), ())) xs.length (fun i => okV (rd (.int .i64) xs (i : Int))) (bad := .inl ((5, ()), ())) (good := .inr ((), ())) (b := xs.all okV) ?_ ?_ ?_ ?_]
  · cases xs.all okV with
    | false => rfl
    | true =>
      simp only [cond_true, Option.bind_some, Bool.true_and]
      by_cases h1 : T < 1
      · have h2 : ¬ 1 ≤ T := by omega
        simp [h1, h2]
      · by_cases h3 : 2100000000000000 < T
        · have h4 : ¬ T ≤ 2100000000000000 := by omega
          simp [h1, h3, h4]
        · have h2 : 1 ≤ T := by omega
          have h4 : T ≤ 2100000000000000 := by omega
          simp [h1, h3, h2, h4]
  · rfl
  · rw [List.all_eq_true]
    constructor
    · intro h i hi; rw [rd_in (t := .int .i64) (xs := xs) hi]; exact h _ (List.getElem_mem hi)
    · intro h x hx; obtain ⟨i, hi, rfl⟩ := List.getElem_of_mem hx; have := h i hi; rwa [rd_in (t := .int .i64) (xs := xs) hi] at this
  · intro i hi
    have h1 : (i : Int) < (xs.length : Int) := by omega
    simp only [ref32_proper_L1, h1, decide_true, cond_true, inb_nat hi, i64_up hi (show xs.length ≤ big from Nat.le_trans hl (by decide)), okV]
    generalize decide (rd (.int .i64) xs (i : Int) < (1 : Int)) = p
    generalize decide ((2100000000000000 : Int) < rd (.int .i64) xs (i : Int)) = q
    cases p <;> cases q <;> rfl
  · simp [ref32_proper_L1]
end
theorem bd_of {xs : List Int} (h : xs.all okV = true) : Bd xs := fun x hx => by
  have := List.all_eq_true.1 h x hx
  simp only [okV, Bool.and_eq_true, Bool.not_eq_true', decide_eq_false_iff_not] at this
  omega
/-- Both give one answer. -/
theorem best_same (xs : List Int) (T : Int) : ∃ (e b : Int) (c t : List Int), selection_Best xs T = some ((((), (b, ())), ((), (e, ()))), (c, (t, ()))) ∧ ref32_Best xs T = some (((c, (b, ())), ((), (e, ()))), (t, ())) ∧ c.length ≤ 16 := by
  by_cases hl : xs.length ≤ 16
  · have h16 : ¬ (16 : Int) < (xs.length : Int) := by omega
    cases hok : (xs.all okV && (decide (1 ≤ T) && decide (T ≤ 2100000000000000))) with
    | false =>
      refine ⟨5, 0, [], [], ?_, ?_, by simp⟩
      · unfold selection_Best selection_fault
        rw [selection_proper_eq hl, hok]
        simp only [h16, decide_false, cond_false, Option.bind_some, Bool.not_false, cond_true]
        rfl
      · unfold ref32_Best
        rw [ref32_proper_eq hl, hok]
        rfl
    | true =>
      simp only [Bool.and_eq_true, decide_eq_true_eq] at hok
      have hok2 : (xs.all okV && (decide (1 ≤ T) && decide (T ≤ 2100000000000000))) = true := by simp [hok.1, hok.2.1, hok.2.2]
      have hb := bd_of hok.1
      have hsum := hb.sum16 hl
      have e1 : selection_fault xs T = some ((if xs.sum < T then 320 else 0, ()), ()) := by
        unfold selection_fault
        rw [selection_proper_eq hl, hok2, selection_total_eq hb hl]
        simp only [h16, decide_false, cond_false, Option.bind_some, Bool.not_true]
        by_cases h : xs.sum < T <;> simp [h]
      have e2 : ref32_proper xs T = some ((0, ()), ()) := by rw [ref32_proper_eq hl, hok2]; rfl
      by_cases hlow : xs.sum < T
      · refine ⟨320, 0, [], [], ?_, ?_, by simp⟩
        · unfold selection_Best
          rw [e1, if_pos hlow]; rfl
        · unfold ref32_Best
          rw [e2, ref32_sum_eq hb hl]
          simp only [Option.bind_some, decide_true, Bool.not_true, cond_false, hlow, cond_true]
      · -- the least sum
        have hne : leaves T xs 0 0 [] ≠ [] := leaves_some (by omega)
        obtain ⟨L, hL⟩ : ∃ L, L = lst xs.sum (leaves T xs 0 0 []) := ⟨_, rfl⟩
        have hall : ∀ p ∈ leaves T xs 0 0 [], L ≤ p.1 := by rw [hL]; exact (lst_le (ps := leaves T xs 0 0 []) (b := xs.sum)).2
        have hex : ∃ p ∈ leaves T xs 0 0 [], p.1 = L := by
          rcases lst_mem (ps := leaves T xs 0 0 []) (b := xs.sum) with h | ⟨p, hp, h⟩
          · obtain ⟨p, hp⟩ := List.exists_mem_of_ne_nil _ hne
            refine ⟨p, hp, ?_⟩
            have h1 := hall p hp
            have h2 := (leaves_range hb.pos p hp).2.2
            rw [← hL] at h; omega
          · exact ⟨p, hp, by rw [hL, h]⟩
        obtain ⟨c, hc, hsr⟩ := srch_first (st := ((0, false, []) : Sta)) hall (by simp) hex
        have hTL : T ≤ L := by obtain ⟨p, hp, e⟩ := hex; have := (leaves_range hb.pos p hp).1; omega
        have hLs : L ≤ xs.sum := by rw [hL]; exact (lst_le (ps := leaves T xs 0 0 []) (b := xs.sum)).1
        have hpl := plc_first hTL (ch := []) hb.pos hall
        rw [hc, Int.sub_zero] at hpl
        have hplc : plc xs 0 L = some c := by
          cases hq : plc xs 0 L with
          | none => rw [hq] at hpl; cases hpl
          | some q => rw [hq] at hpl; simp at hpl; rw [hpl]
        have hcl : c.length ≤ 16 := Nat.le_trans (plc_len hplc) hl
        have hinv : Inv T L xs 0 := by
          intro x hx
          rw [← leaves_sms (i := 0) (ch := [])] at hx
          obtain ⟨p, hp, rfl⟩ := List.mem_map.1 hx
          exact hall p hp
        have hfu : xs.length + 1 ≤ fuel := by unfold fuel; omega
        have d0 : xs.drop 0 = xs := List.drop_zero
        have w1 := look_eq (T := T) hb hl xs 0 fuel 0 0 false [] [] d0 hfu (by omega) (by omega) (by simp) (by omega)
        have w2 := certify_eq (T := T) (L := L) hb hl xs 0 fuel 0 [] d0 hfu (by omega) (by omega) (by omega) hinv (by simp)
        have w3 := least_eq (T := T) xs fuel 0 xs.sum hb hl hfu (by omega) (by omega)
        have w4 := places_eq hb hl xs 0 fuel L d0 hfu (by omega) (by omega) (by omega)
        have w5 := trace_eq (T := T) (L := L) hb hl xs 0 fuel 0 [] d0 hfu (by omega) (by omega) (by omega) hinv (by simp)
        rw [show ((0 : Nat) : Int) = 0 from rfl] at w1 w2 w4 w5
        have hs1 : srch T xs 0 0 [] (0, false, []) = (L, true, c) := hsr
        rw [hs1] at w1
        have hls : lsm xs.sum (sms T xs 0) = L := by rw [hL, lst_lsm, leaves_sms]
        rw [hls] at w3
        rw [hplc] at w4
        have f1 : selection_Best xs T = (if 16384 < (certP T L xs 0 []).length then some ((((), ((0 : Int), ())), ((), ((4 : Int), ()))), (([] : List Int), (([] : List Int), ()))) else some ((((), (L, ())), ((), ((0 : Int), ()))), (c, (certP T L xs 0 [], ())))) := by
          unfold selection_Best selection_search_look selection_certify
          rw [e1, if_neg hlow, selection_total_eq hb hl]
          simp only [Option.bind_some, decide_true, Bool.not_true, cond_false]
          rw [w1]
          simp only [Option.bind_some]
          rw [w2]
          simp only [Option.bind_some]
          by_cases h : 16384 < (certP T L xs 0 []).length
          · have h' : (16384 : Int) < ((certP T L xs 0 []).length : Int) := by omega
            rw [if_pos h, decide_eq_true h']; rfl
          · have h' : ¬ (16384 : Int) < ((certP T L xs 0 []).length : Int) := by omega
            rw [if_neg h, decide_eq_false h']; rfl
        have f2 : ref32_Best xs T = (if 16384 < (certR T L xs 0 []).length then some (((([] : List Int), ((0 : Int), ())), ((), ((4 : Int), ()))), (([] : List Int), ())) else some (((c, (L, ())), ((), ((0 : Int), ()))), (certR T L xs 0 [], ()))) := by
          unfold ref32_Best ref32_least ref32_places ref32_trace
          rw [e2, ref32_sum_eq hb hl]
          simp only [Option.bind_some, decide_true, Bool.not_true, cond_false, hlow, decide_false]
          rw [w3]
          simp only [Option.bind_some]
          rw [w4]
          simp only [Option.bind_some, plR]
          rw [w5]
          simp only [Option.bind_some]
          by_cases h : 16384 < (certR T L xs 0 []).length
          · have h' : (16384 : Int) < ((certR T L xs 0 []).length : Int) := by omega
            rw [if_pos h, decide_eq_true h']; rfl
          · have h' : ¬ (16384 : Int) < ((certR T L xs 0 []).length : Int) := by omega
            rw [if_neg h, decide_eq_false h']; rfl
        by_cases hlen : ([] ++ trc T L xs 0).length ≤ 16384
        · obtain ⟨g1, g2⟩ := cert_same (T := T) (L := L) (l := xs) (s := 0) (t := []) hlen
          rw [g1, if_neg (by omega)] at f1
          rw [g2, if_neg (by omega)] at f2
          exact ⟨0, L, c, _, f1, f2, hcl⟩
        · obtain ⟨g1, g2⟩ := cert_long (T := T) (L := L) (l := xs) (s := 0) (t := []) (by omega)
          rw [if_pos g1] at f1
          rw [if_pos g2] at f2
          exact ⟨4, 0, [], [], f1, f2, by simp⟩
  · have h16 : (16 : Int) < (xs.length : Int) := by omega
    refine ⟨4, 0, [], [], ?_, ?_, by simp⟩
    · unfold selection_Best selection_fault
      simp only [h16, decide_true, cond_true]; rfl
    · unfold ref32_Best ref32_proper
      simp only [h16, decide_true, cond_true]; rfl
end Go.PE
end
