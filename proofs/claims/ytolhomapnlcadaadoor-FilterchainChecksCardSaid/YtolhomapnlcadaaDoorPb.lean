/- What the printed functions of the program are, and the plain law; conditions stand in each statement. -/
import Derived.Test.YtolhomapnlcadaaDoorPa
import Derived.Test.YtolhomapnlcadaaDoorQc
section
namespace Go.PE
set_option linter.unusedSimpArgs false
set_option linter.unusedVariables false
set_option linter.unusedSectionVars false
abbrev Hs := List (List Int)
def HH (h : List Int) : Prop := h.length = 32 ∧ BysL h
def HHs (l : Hs) : Prop := ∀ h ∈ l, HH h
theorem hh_of {h : List Int} (w : Ty.Wf (.arr 32 (.int .u8)) h) : HH h := ⟨w.1, fun x hx => Wf.u8 (w.2 x hx)⟩
theorem hhs_of {l : Hs} (w : Ty.Wf (.slice (.arr 32 (.int .u8))) l) : HHs l ∧ l.length ≤ big := ⟨fun h hh => hh_of (w.2 h hh), w.1⟩
abbrev z32 : List Int := List.replicate 32 0
theorem hh_zero : HH z32 := ⟨rfl, fun x hx => by have := (List.mem_replicate.1 hx).2; omega⟩
def headV (x p : List Int) : List Int := dblV (x ++ p)
theorem hh_sha {b : List Int} : HH (shaV b) := ⟨shaV_len (b := b), shaV_bys (b := b)⟩
theorem hh_head {x p : List Int} : HH (headV x p) := by unfold headV dblV; exact hh_sha
theorem sub32 {h : List Int} (hh : HH h) : sub h 0 32 = h := by unfold sub; rw [List.drop_zero, List.take_of_length_le (by rw [hh.1]; omega)]
theorem filter_Header_eq {x p : List Int} (hx : HH x) (hp : HH p) : filter_Header x p = some ((headV x p, ()), ()) := by
  unfold filter_Header
  have h1 : x.length + p.length ≤ lim := by rw [hx.1, hp.1, lim_eq]; omega
  simp only [sub32 hx, sub32 hp, h1, decide_true, cond_true]
  rw [sha_Double_eq (by rw [List.length_append, hx.1, hp.1, lim_eq]; omega)]
  simp only [Option.bind_some, headV]
theorem ref20_Header_eq {x p : List Int} (hx : HH x) (hp : HH p) : ref20_Header x p = some ((headV x p, ()), ()) := by
  unfold ref20_Header
  rw [sub32 hx, sub32 hp, ref01_Join_eq (by simp [hx.1, hp.1, lim]) (by simp [big])]
  simp only [Option.bind_some, List.flatten_cons, List.flatten_nil, List.append_nil]
  rw [ref03_Double_eq (fun y hy => (List.mem_append.1 hy).elim (hx.2 y) (hp.2 y)) (by rw [List.length_append, hx.1, hp.1, lim_eq]; omega)]
  simp only [Option.bind_some, headV]
def batchV : List Int → Hs → Hs
  | _, [] => []
  | p, x :: xs => headV x p :: batchV (headV x p) xs
theorem batchV_len : ∀ {p : List Int} {xs : Hs}, (batchV p xs).length = xs.length := by
  intro p xs
  induction xs generalizing p with
  | nil => rfl
  | cons x xs ih => simp [batchV, ih]
section
variable {xs : Hs} (hx : HHs xs) (hl : xs.length ≤ 40)
include hx hl
theorem fc_Batch_L1_eq : ∀ (k i : Nat) (p : List Int) (d : Hs), i + k = xs.length → d.length = i → HH p →
    loopV (filterchain_Batch_L1 xs (xs.length : Int)) (((), ((), ((i : Int), ()))), (p, (d ++ List.replicate k z32, ()))) = some (((), ()), (d ++ batchV p (xs.drop i), ())) := by
  intro k
  induction k with
  | zero =>
    intro i p d hk hd hp
    refine loopV_done ?_
    have h1 : ¬ (i : Int) < (xs.length : Int) := by omega
    rw [List.drop_eq_nil_of_le (by omega)]
    simp only [filterchain_Batch_L1, h1, decide_false, cond_false]; rfl
  | succ k ih =>
    intro i p d hk hd hp
    have hi : i < xs.length := by omega
    have h1 : (i : Int) < (xs.length : Int) := by omega
    have hxi := hx _ (List.getElem_mem hi)
    have h2 : inb (i : Int) (d ++ List.replicate (k + 1) z32).length = true := inb_nat (by rw [List.length_append, List.length_replicate]; omega)
    have h3 : (d ++ List.replicate (k + 1) z32)[i]? = some z32 := by rw [List.getElem?_append_right (by omega), hd, Nat.sub_self]; rfl
    have h4 : (d ++ List.replicate (k + 1) z32).set i (headV xs[i] p) = (d ++ [headV xs[i] p]) ++ List.replicate k z32 := by
      rw [List.set_append_right (h := by omega), hd, Nat.sub_self, List.replicate_succ, List.set_cons_zero, List.append_assoc]; rfl
    rw [loopV_next (v' := (((), ((), (((i + 1 : Nat) : Int), ()))), (headV xs[i] p, ((d ++ [headV xs[i] p]) ++ List.replicate k z32, ()))))]
    · rw [ih (i + 1) _ _ (by omega) (by rw [List.length_append, hd]; rfl) hh_head, List.drop_eq_getElem_cons hi, List.append_assoc]; rfl
    · unfold filterchain_Batch_L1
      simp only [h1, decide_true, cond_true, inb_nat hi, rd_in (t := .arr 32 (.int .u8)) (xs := xs) hi, filter_Header_eq hxi hp, Option.bind_some, h2, Int.toNat_natCast, h3, i64_up hi (show xs.length ≤ big from Nat.le_trans hl (by decide)), h4]
theorem fc_Batch_eq {p : List Int} (hp : HH p) : filterchain_Batch p xs = some (((), ()), (batchV p xs, ())) := by
  unfold filterchain_Batch
  have c1 : (0 : Int) ≤ (xs.length : Int) := by omega
  have c2 : (xs.length : Int) ≤ ((lim : Nat) : Int) := by rw [lim_eq]; omega
  simp only [c1, c2, Int.le_refl, decide_true, Bool.and_self, cond_true, Int.toNat_natCast]
  have e := fc_Batch_L1_eq hx hl xs.length 0 p [] (by omega) rfl hp
  rw [show ((0 : Nat) : Int) = 0 from rfl, List.nil_append] at e
  rw [e]; rfl
theorem ref21_Batch_L1_eq : ∀ (k i : Nat) (p : List Int) (d : Hs), i + k = xs.length → d.length = i → HH p →
    loopV (ref21_Batch_L1 xs (xs.length : Int)) (((), ((), ((i : Int), ()))), (p, (d, ()))) = some (((), ()), (d ++ batchV p (xs.drop i), ())) := by
  intro k
  induction k with
  | zero =>
    intro i p d hk hd hp
    refine loopV_done ?_
    have h1 : ¬ (i : Int) < (xs.length : Int) := by omega
    rw [List.drop_eq_nil_of_le (by omega)]
    simp only [ref21_Batch_L1, h1, decide_false, cond_false, batchV, List.append_nil]
  | succ k ih =>
    intro i p d hk hd hp
    have hi : i < xs.length := by omega
    have h1 : (i : Int) < (xs.length : Int) := by omega
    have hxi := hx _ (List.getElem_mem hi)
    have h2 : d.length + 1 ≤ lim := by rw [lim_eq]; omega
    rw [loopV_next (v' := (((), ((), (((i + 1 : Nat) : Int), ()))), (headV xs[i] p, (d ++ [headV xs[i] p], ()))))]
    · rw [ih (i + 1) _ _ (by omega) (by rw [List.length_append, hd]; rfl) hh_head, List.drop_eq_getElem_cons hi, List.append_assoc]; rfl
    · unfold ref21_Batch_L1
      simp only [h1, decide_true, cond_true, inb_nat hi, rd_in (t := .arr 32 (.int .u8)) (xs := xs) hi, ref20_Header_eq hxi hp, Option.bind_some, List.length_singleton, h2, i64_up hi (show xs.length ≤ big from Nat.le_trans hl (by decide))]
theorem ref21_Batch_eq {p : List Int} (hp : HH p) : ref21_Batch p xs = some (((), ()), (batchV p xs, ())) := by
  unfold ref21_Batch
  have e := ref21_Batch_L1_eq hx hl xs.length 0 p [] (by omega) rfl hp
  rw [show ((0 : Nat) : Int) = 0 from rfl] at e
  rw [e]; rfl
end
def soundB (a : D_d60b) : Bool := decide (a.1.length = a.2.1.length) && decide (a.1.length ≤ 4096)
theorem fc_Sound_eq {a : D_d60b} : filterchain_Sound a = some ((soundB a, ()), ()) := by
  unfold filterchain_Sound soundB
  by_cases h : a.1.length = a.2.1.length
  · have h1 : (a.1.length : Int) = (a.2.1.length : Int) := by omega
    have h2 : ((a.1.length : Int) ≤ 4096) = (a.1.length ≤ 4096) := by apply propext; omega
    simp only [h, h1, decide_true, cond_true, Bool.true_and]
    rw [← h]; simp only [h2]
  · have h1 : ¬ (a.1.length : Int) = (a.2.1.length : Int) := by omega
    simp [h, h1]
theorem ref21_Sound_eq {a : D_d60b} : ref21_Sound a = some ((soundB a, ()), ()) := fc_Sound_eq
theorem SameHashes_self {l : Hs} (hl : l.length ≤ big) : ref07_SameHashes l l = some ((true, ()), ()) := by
  unfold ref07_SameHashes
  simp only [decide_true, Bool.not_true, cond_false]
  rw [loopV_all (step := ref07_SameHashes_L1 l l (l.length : Int)) (fun i => (((i : Int), ()), ())) l.length (fun i => true) (bad := .inl ((false, ()), ())) (good := .inr ((), ())) (b := true) ?_ (by simp) ?_ ?_]
  · simp
  · rfl
  · intro i hi
    unfold ref07_SameHashes_L1
    have h1 : ((i : Int) < (l.length : Int)) := by omega
    simp only [h1, decide_true, cond_true, inb_nat hi, i64_up hi hl, eqb_self (T := .arr 32 (.int .u8)) rfl, Bool.not_true, cond_false]
  · simp [ref07_SameHashes_L1]
theorem ref21_Same_self {a : D_d60b} (h1 : a.1.length ≤ big) (h2 : a.2.1.length ≤ big) : ref21_Same a a = some ((true, ()), ()) := by
  unfold ref21_Same
  rw [SameHashes_self h1, SameHashes_self h2]; rfl
theorem fc_grown_eq {a b : Hs} (h : a.length + b.length ≤ lim) : filterchain_grown_api_Hash a b = some (((), ()), (a ++ b, ())) := by
  unfold filterchain_grown_api_Hash
  have h' := h
  rw [lim_eq] at h'
  rw [IntWalk.i64_in _ (by omega)]
  have c1 : (0 : Int) ≤ (a.length : Int) + (b.length : Int) := by omega
  have c2 : (a.length : Int) + (b.length : Int) ≤ ((lim : Nat) : Int) := by omega
  have c3 : a.length ≤ lim := by omega
  simp only [Int.le_refl, c1, c2, decide_true, Bool.and_self, cond_true, List.replicate_zero, List.length_nil, Nat.zero_add, c3, List.nil_append, h]
theorem ref21_copied_eq {a : Hs} (h : a.length ≤ lim) : ref21_copied a = some (((), ()), (a, ())) := by
  unfold ref21_copied; rw [decide_eq_true h]; rfl
def prevV (a : D_d60b) (i : Nat) : List Int := if i = 0 then z32 else rd (.arr 32 (.int .u8)) a.2.1 ((i - 1 : Nat) : Int)
theorem prev_hh {a : D_d60b} (h : HHs a.2.1) {i : Nat} (hi : i ≤ a.2.1.length) : HH (prevV a i) := by
  unfold prevV
  by_cases h0 : i = 0
  · rw [if_pos h0]; exact hh_zero
  · rw [if_neg h0, rd_in (t := .arr 32 (.int .u8)) (xs := a.2.1) (show i - 1 < a.2.1.length by omega)]
    exact h _ (List.getElem_mem _)
theorem fc_before_eq {a : D_d60b} {i : Nat} (hi : i ≤ a.2.1.length) (hl : a.2.1.length ≤ big) : filterchain_before a (i : Int) = some ((prevV a i, ()), ()) := by
  rw [show big = 9223372036854775807 from rfl] at hl
  unfold filterchain_before prevV
  by_cases h0 : i = 0
  · have h1 : (i : Int) = 0 := by omega
    simp only [h0, if_true, show ((0 : Nat) : Int) = 0 from rfl, decide_true, cond_true]
  · have h1 : ¬ (i : Int) = 0 := by omega
    have h2 : IntKind.i64.wrap ((i : Int) - 1) = ((i - 1 : Nat) : Int) := by rw [IntWalk.i64_in _ (by omega)]; omega
    have h3 : inb ((i - 1 : Nat) : Int) a.2.1.length = true := inb_nat (by omega)
    simp only [h1, h2, h3, decide_false, cond_false, cond_true, h0, if_false]
abbrev ExtR := ((Unit × Unit × Unit) × Int × Unit) × Hs × Hs × Unit
def errE (e : Int) : ExtR := ((((), ((), ())), (e, ())), (([] : Hs), (([] : Hs), ())))
def extV (a : D_d60b) (xs ys : Hs) : ExtR :=
  if soundB a = true then (if xs.length = ys.length then (if 4096 < a.1.length + xs.length then errE 4 else ((((), ((), ())), ((0 : Int), ())), (a.1 ++ xs, (a.2.1 ++ batchV (prevV a a.2.1.length) ys, ())))) else errE 8) else errE 6
section
variable {a : D_d60b} {xs ys : Hs} (h1 : a.1.length ≤ 40) (h2 : a.2.1.length ≤ 40) (h3 : xs.length ≤ 40) (h4 : ys.length ≤ 40) (ha : HHs a.2.1) (hy : HHs ys)
include h1 h2 h3 h4 ha hy
theorem fc_Extend_eq : filterchain_Extend a xs ys = some (extV a xs ys) := by
  unfold filterchain_Extend extV
  rw [fc_Sound_eq]
  simp only [Option.bind_some]
  cases hs : soundB a with
  | false => rfl
  | true =>
    simp only [Bool.not_true, cond_false, if_true]
    by_cases hl : xs.length = ys.length
    · have hl' : (xs.length : Int) = (ys.length : Int) := by omega
      have hw : IntKind.i64.wrap ((a.1.length : Int) + (ys.length : Int)) = (a.1.length : Int) + (ys.length : Int) := IntWalk.i64_in _ (by omega)
      simp only [hl, decide_true, Bool.not_true, cond_false, if_true, hw]
      have h5 : ¬ (4096 : Int) < (a.1.length : Int) + (ys.length : Int) := by omega
      have h6 : ¬ 4096 < a.1.length + ys.length := by omega
      simp only [h5, h6, decide_false, cond_false, if_false]
      rw [fc_before_eq (Nat.le_refl _) (Nat.le_trans h2 (by decide))]
      simp only [Option.bind_some]
      rw [fc_Batch_eq hy h4 (prev_hh ha (Nat.le_refl _)), fc_grown_eq (by rw [lim_eq]; omega)]
      simp only [Option.bind_some]
      rw [fc_grown_eq (by rw [batchV_len, lim_eq]; omega)]
      simp only [Option.bind_some]
    · have hl' : ¬ (xs.length : Int) = (ys.length : Int) := by omega
      simp only [hl, hl', decide_false, Bool.not_false, cond_true, if_false, errE]
theorem ref21_Extend_eq : ref21_Extend a xs ys = some (extV a xs ys) := by
  unfold ref21_Extend extV
  rw [ref21_Sound_eq]
  simp only [Option.bind_some]
  cases hs : soundB a with
  | false => rfl
  | true =>
    simp only [Bool.not_true, cond_false, if_true]
    by_cases hl : xs.length = ys.length
    · have hl' : (xs.length : Int) = (ys.length : Int) := by omega
      have hw : IntKind.i64.wrap ((a.1.length : Int) + (ys.length : Int)) = (a.1.length : Int) + (ys.length : Int) := IntWalk.i64_in _ (by omega)
      simp only [hl, decide_true, Bool.not_true, cond_false, if_true, hw]
      have h5 : ¬ (4096 : Int) < (a.1.length : Int) + (ys.length : Int) := by omega
      have h6 : ¬ 4096 < a.1.length + ys.length := by omega
      simp only [h5, h6, decide_false, cond_false, if_false]
      have hj : ref21_Extend_J1 (((), ((), ((), ()))), (a, (((), ((), ())), (z32, ())))) = some (((), ((), ((), ()))), (a, (((), ((), ())), (prevV a a.2.1.length, ())))) := by
        unfold ref21_Extend_J1 prevV
        by_cases h0 : a.2.1.length = 0
        · simp [h0]
        · have e1 : (0 : Int) < (a.2.1.length : Int) := by omega
          have e2 : IntKind.i64.wrap ((a.2.1.length : Int) - 1) = ((a.2.1.length - 1 : Nat) : Int) := by rw [IntWalk.i64_in _ (by omega)]; omega
          have e3 : inb ((a.2.1.length - 1 : Nat) : Int) a.2.1.length = true := inb_nat (by omega)
          simp only [e1, e2, e3, decide_true, cond_true, h0, if_false]
      rw [hj]
      simp only [Option.bind_some]
      rw [ref21_copied_eq (by rw [lim_eq]; omega), ref21_copied_eq (by rw [lim_eq]; omega), ref21_Batch_eq hy h4 (prev_hh ha (Nat.le_refl _))]
      have e1 : a.1.length + ys.length ≤ lim := by rw [lim_eq]; omega
      have e2 : a.2.1.length + (batchV (prevV a a.2.1.length) ys).length ≤ lim := by rw [batchV_len, lim_eq]; omega
      simp only [Option.bind_some, e1, e2, decide_true, cond_true]
    · have hl' : ¬ (xs.length : Int) = (ys.length : Int) := by omega
      simp only [hl, hl', decide_false, Bool.not_false, cond_true, if_false, errE]
end
end Go.PE
end

section
namespace Go.PE
set_option linter.unusedSimpArgs false
set_option linter.unusedVariables false
set_option linter.unusedSectionVars false
abbrev eqh (a b : List Int) : Bool := Ty.eqb (.arr 32 (.int .u8)) a b
/-- The first place, from i on, at which two lists part. -/
def diffO : Hs → Hs → Nat → Option Nat
  | [], [], _ => none
  | [], _ :: _, i => some i
  | _ :: _, [], i => some i
  | a :: x, b :: y, i => if eqh a b = true then diffO x y (i + 1) else some i
theorem diffO_self : ∀ (x : Hs) (i : Nat), diffO x x i = none := by
  intro x
  induction x with
  | nil => intro i; rfl
  | cons a x ih => intro i; simp only [diffO, eqb_self (T := .arr 32 (.int .u8)) rfl, if_true, ih]
def diffV (x y : Hs) : Int := match diffO x y 0 with
  | some i => (i : Int)
  | none => -1
abbrev DifO := ((Int × Unit) × Unit) ⊕ ((Unit) × Unit)
def difR : Option Nat → DifO
  | some i => .inl (((i : Int), ()), ())
  | none => .inr ((), ())
section
variable {x y : Hs} (hx : x.length ≤ 100) (hy : y.length ≤ 100)
include hx hy
theorem fc_Differ_L1_eq : ∀ (k i : Nat), i + k = max x.length y.length → loopV (filterchain_Differ_L1 x y (max (x.length : Int) (y.length : Int))) (((i : Int), ()), ()) = some (difR (diffO (x.drop i) (y.drop i) i)) := by
  intro k
  have hm : max (x.length : Int) (y.length : Int) = ((max x.length y.length : Nat) : Int) := by omega
  rw [hm]
  induction k with
  | zero =>
    intro i hi
    refine loopV_done ?_
    have h1 : ¬ (i : Int) < ((max x.length y.length : Nat) : Int) := by omega
    rw [List.drop_eq_nil_of_le (by omega), List.drop_eq_nil_of_le (by omega)]
    simp only [filterchain_Differ_L1, h1, decide_false, cond_false]; rfl
  | succ k ih =>
    intro i hi
    have h1 : (i : Int) < ((max x.length y.length : Nat) : Int) := by omega
    by_cases h2 : x.length ≤ i
    · refine loopV_done ?_
      have h2' : (x.length : Int) ≤ (i : Int) := by omega
      rw [List.drop_eq_nil_of_le h2, List.drop_eq_getElem_cons (show i < y.length by omega)]
      simp only [filterchain_Differ_L1, h1, h2', decide_true, cond_true]; rfl
    · by_cases h3 : y.length ≤ i
      · refine loopV_done ?_
        have h2' : ¬ (x.length : Int) ≤ (i : Int) := by omega
        have h3' : (y.length : Int) ≤ (i : Int) := by omega
        rw [List.drop_eq_nil_of_le h3, List.drop_eq_getElem_cons (show i < x.length by omega)]
        simp only [filterchain_Differ_L1, h1, h2', h3', decide_true, decide_false, cond_true, cond_false]; rfl
      · have hix : i < x.length := by omega
        have hiy : i < y.length := by omega
        have h2' : ¬ (x.length : Int) ≤ (i : Int) := by omega
        have h3' : ¬ (y.length : Int) ≤ (i : Int) := by omega
        rw [List.drop_eq_getElem_cons hix, List.drop_eq_getElem_cons hiy]
        cases he : eqh x[i] y[i] with
        | true =>
          rw [loopV_next (v' := ((((i + 1 : Nat) : Int), ()), ())), ih (i + 1) (by omega)]
          · simp only [diffO, he, if_true]
          · simp only [filterchain_Differ_L1, h1, h2', h3', decide_true, decide_false, cond_true, cond_false, inb_nat hix, inb_nat hiy, rd_in (t := .arr 32 (.int .u8)) (xs := x) hix, rd_in (t := .arr 32 (.int .u8)) (xs := y) hiy, he, Bool.not_true, i64_up hix (show x.length ≤ big from Nat.le_trans hx (by decide))]
        | false =>
          refine loopV_done ?_
          simp only [filterchain_Differ_L1, h1, h2', h3', decide_true, decide_false, cond_true, cond_false, inb_nat hix, inb_nat hiy, rd_in (t := .arr 32 (.int .u8)) (xs := x) hix, rd_in (t := .arr 32 (.int .u8)) (xs := y) hiy, he, Bool.not_false, diffO, Bool.false_eq_true, if_false, difR]
theorem fc_Differ_eq : filterchain_Differ x y = some ((diffV x y, ()), ()) := by
  unfold filterchain_Differ
  have e := fc_Differ_L1_eq hx hy (max x.length y.length) 0 (by omega)
  rw [show ((0 : Nat) : Int) = 0 from rfl, List.drop_zero, List.drop_zero] at e
  rw [e]
  unfold diffV
  cases diffO x y 0 <;> rfl
theorem ref21_J2 (i : Nat) : ref21_Differ_J2 x y (i : Int) ((), ()) = some (if i < max x.length y.length then .inl ((), ()) else .inr ((), ())) := by
  unfold ref21_Differ_J2
  by_cases h1 : i < x.length
  · have h1' : (i : Int) < (x.length : Int) := by omega
    have h3 : i < max x.length y.length := by omega
    simp only [h1', h3, decide_true, cond_true, if_true]
  · have h1' : ¬ (i : Int) < (x.length : Int) := by omega
    by_cases h2 : i < y.length
    · have h2' : (i : Int) < (y.length : Int) := by omega
      have h3 : i < max x.length y.length := by omega
      simp only [h1', h2', h3, decide_true, decide_false, cond_true, cond_false, if_true]
    · have h2' : ¬ (i : Int) < (y.length : Int) := by omega
      have h3 : ¬ i < max x.length y.length := by omega
      simp only [h1', h2', h3, decide_false, cond_false, if_false]
theorem ref21_Differ_L1_eq : ∀ (k i : Nat), i + k = max x.length y.length → loopV (ref21_Differ_L1 x y) (((i : Int), ()), ()) = some (difR (diffO (x.drop i) (y.drop i) i)) := by
  intro k
  induction k with
  | zero =>
    intro i hi
    refine loopV_done ?_
    have h1 : ¬ i < max x.length y.length := by omega
    rw [List.drop_eq_nil_of_le (by omega), List.drop_eq_nil_of_le (by omega)]
    simp only [ref21_Differ_L1, ref21_J2 hx hy i, h1, if_false, Option.bind_some]; rfl
  | succ k ih =>
    intro i hi
    have h1 : i < max x.length y.length := by omega
    by_cases h2 : x.length ≤ i
    · refine loopV_done ?_
      have h2' : (x.length : Int) ≤ (i : Int) := by omega
      rw [List.drop_eq_nil_of_le h2, List.drop_eq_getElem_cons (show i < y.length by omega)]
      simp only [ref21_Differ_L1, ref21_J2 hx hy i, h1, if_true, Option.bind_some, h2', decide_true, cond_true]; rfl
    · by_cases h3 : y.length ≤ i
      · refine loopV_done ?_
        have h2' : ¬ (x.length : Int) ≤ (i : Int) := by omega
        have h3' : (y.length : Int) ≤ (i : Int) := by omega
        rw [List.drop_eq_nil_of_le h3, List.drop_eq_getElem_cons (show i < x.length by omega)]
        simp only [ref21_Differ_L1, ref21_J2 hx hy i, h1, if_true, Option.bind_some, h2', h3', decide_true, decide_false, cond_true, cond_false]; rfl
      · have hix : i < x.length := by omega
        have hiy : i < y.length := by omega
        have h2' : ¬ (x.length : Int) ≤ (i : Int) := by omega
        have h3' : ¬ (y.length : Int) ≤ (i : Int) := by omega
        rw [List.drop_eq_getElem_cons hix, List.drop_eq_getElem_cons hiy]
        cases he : eqh x[i] y[i] with
        | true =>
          rw [loopV_next (v' := ((((i + 1 : Nat) : Int), ()), ())), ih (i + 1) (by omega)]
          · simp only [diffO, he, if_true]
          · simp only [ref21_Differ_L1, ref21_J2 hx hy i, h1, if_true, Option.bind_some, h2', h3', decide_true, decide_false, cond_true, cond_false, inb_nat hix, inb_nat hiy, rd_in (t := .arr 32 (.int .u8)) (xs := x) hix, rd_in (t := .arr 32 (.int .u8)) (xs := y) hiy, he, Bool.not_true, i64_up hix (show x.length ≤ big from Nat.le_trans hx (by decide))]
        | false =>
          refine loopV_done ?_
          simp only [ref21_Differ_L1, ref21_J2 hx hy i, h1, if_true, Option.bind_some, h2', h3', decide_true, decide_false, cond_true, cond_false, inb_nat hix, inb_nat hiy, rd_in (t := .arr 32 (.int .u8)) (xs := x) hix, rd_in (t := .arr 32 (.int .u8)) (xs := y) hiy, he, Bool.not_false, diffO, Bool.false_eq_true, if_false, difR]
theorem ref21_Differ_eq : ref21_Differ x y = some ((diffV x y, ()), ()) := by
  unfold ref21_Differ
  have e := ref21_Differ_L1_eq hx hy (max x.length y.length) 0 (by omega)
  rw [show ((0 : Nat) : Int) = 0 from rfl, List.drop_zero, List.drop_zero] at e
  rw [e]
  unfold diffV
  cases diffO x y 0 <;> rfl
end
def one32 : List Int := (List.replicate 32 (0 : Int)).set 0 1
def two32 : List Int := (List.replicate 32 (0 : Int)).set 0 2
theorem hh_one : HH one32 := ⟨rfl, by unfold BysL one32; decide⟩
theorem hh_two : HH two32 := ⟨rfl, by unfold BysL two32; decide⟩
theorem law21_sane_eq : law21_sane = some ((true, ()), ()) := by
  unfold law21_sane
  have e1 : (List.replicate 32 (0 : Int))[(0)]? = some 0 := rfl
  simp only [e1, Option.bind_some]
  rw [show (List.replicate 32 (0 : Int)).set 0 1 = one32 from rfl, show (List.replicate 32 (0 : Int)).set 0 2 = two32 from rfl]
  rw [fc_Extend_eq (by simp) (by simp) (by simp) (by simp) (fun h hh => by cases hh) (fun h hh => by rw [List.mem_singleton.1 hh]; exact hh_two)]
  rw [fc_Differ_eq (by simp) (by simp)]
  have e2 : diffV [one32, two32] [one32] = 1 := by decide +kernel
  have e3 : extV (([] : Hs), (([] : Hs), ())) [one32] [two32] = ((((), ((), ())), ((0 : Int), ())), ([one32], ([headV two32 z32], ()))) := rfl
  rw [e2, e3]
  simp only [Option.bind_some, decide_true, cond_true, List.length_singleton, List.getElem?_cons_zero]
  rw [show inb (0 : Int) 1 = true from rfl]
  simp only [cond_true]
  rw [show (List.replicate 32 (0 : Int)) = z32 from rfl, filter_Header_eq hh_two hh_zero]
  simp only [Option.bind_some, eqb_self (T := .arr 32 (.int .u8)) rfl]
  rfl
theorem kept_eq {a : D_d60b} : law21_kept a = some ((decide (a.1.length ≤ 40) && decide (a.2.1.length ≤ 40), ()), ()) := by
  unfold law21_kept
  have e1 : ((a.1.length : Int) ≤ 40) = (a.1.length ≤ 40) := by apply propext; omega
  have e2 : ((a.2.1.length : Int) ≤ 40) = (a.2.1.length ≤ 40) := by apply propext; omega
  simp only [e1, e2]
  cases decide (a.1.length ≤ 40) <;> rfl
theorem few_eq {x y : Hs} : law21_few x y = some ((decide (x.length ≤ 40) && decide (y.length ≤ 40), ()), ()) := by
  unfold law21_few
  have e1 : ((x.length : Int) ≤ 40) = (x.length ≤ 40) := by apply propext; omega
  have e2 : ((y.length : Int) ≤ 40) = (y.length ≤ 40) := by apply propext; omega
  simp only [e1, e2]
  cases decide (x.length ≤ 40) <;> rfl
theorem extends_eq {a : D_d60b} {xs ys : Hs} {p : List Int} (ha : HHs a.2.1) (hy : HHs ys) (hp : HH p) : law21_FilterchainExtends a xs ys p = some ((true, ()), ()) := by
  unfold law21_FilterchainExtends
  rw [law21_sane_eq, kept_eq, few_eq]
  simp only [Option.bind_some, Bool.not_true, cond_false]
  by_cases h1 : a.1.length ≤ 40
  · by_cases h2 : a.2.1.length ≤ 40
    · by_cases h3 : xs.length ≤ 40
      · by_cases h4 : ys.length ≤ 40
        · simp only [h1, h2, h3, h4, decide_true, Bool.and_self, Bool.not_true, cond_false]
          rw [fc_Extend_eq h1 h2 h3 h4 ha hy, ref21_Extend_eq h1 h2 h3 h4 ha hy, fc_Sound_eq, ref21_Sound_eq]
          simp only [Option.bind_some, eqb_self (T := .bool) rfl, cond_true]
          rw [fc_Batch_eq hy h4 hp, ref21_Batch_eq hy h4 hp]
          simp only [Option.bind_some]
          rw [SameHashes_self (by rw [batchV_len]; exact Nat.le_trans h4 (by decide))]
          simp only [Option.bind_some, cond_true, decide_true]
          have hb : (extV a xs ys).2.1.length ≤ 80 ∧ (extV a xs ys).2.2.1.length ≤ 80 := by
            unfold extV errE
            split
            · split
              · split
                · simp
                · simp only [List.length_append, batchV_len]; omega
              · simp
            · simp
          rw [ref21_Same_self (a := ((extV a xs ys).2.1, ((extV a xs ys).2.2.1, ()))) (Nat.le_trans hb.1 (by decide)) (Nat.le_trans hb.2 (by decide))]
          simp only [Option.bind_some]
        · simp [h1, h2, h3, h4]
      · simp [h1, h2, h3]
    · simp [h1, h2]
  · simp [h1]
theorem extends_pure (xs : TT.dens (holes [T_d60b, .slice (.arr 32 (.int .u8)), .slice (.arr 32 (.int .u8)), .arr 32 (.int .u8)])) (h : WfAll [T_d60b, .slice (.arr 32 (.int .u8)), .slice (.arr 32 (.int .u8)), .arr 32 (.int .u8)] xs) : law21_FilterchainExtends xs.1 xs.2.1 xs.2.2.1 xs.2.2.2.1 = some ((true, ()), ()) :=
  extends_eq (hhs_of h.1.2.1).1 (hhs_of h.2.2.1).1 (hh_of h.2.2.2.1)
end Go.PE
end

section
namespace Go.PE
set_option linter.unusedSimpArgs false
set_option linter.unusedVariables false
set_option linter.unusedSectionVars false
/-- What stands at the multiples of m among k places from i on. -/
def chk (l : Hs) (m : Nat) : Nat → Nat → Hs
  | 0, _ => []
  | k + 1, i => (if i % m = 0 then [rd (.arr 32 (.int .u8)) l (i : Int)] else []) ++ chk l m k (i + 1)
theorem chk_skip {l : Hs} {m : Nat} : ∀ (t k i : Nat), t ≤ k → (∀ j, i ≤ j → j < i + t → j % m ≠ 0) → chk l m k i = chk l m (k - t) (i + t) := by
  intro t
  induction t with
  | zero => intro k i _ _; rfl
  | succ t ih =>
    intro k i hk h
    obtain ⟨k', rfl⟩ : ∃ k', k = k' + 1 := ⟨k - 1, by omega⟩
    have h0 : ¬ i % m = 0 := h i (Nat.le_refl i) (by omega)
    show (if i % m = 0 then [rd (.arr 32 (.int .u8)) l (i : Int)] else []) ++ chk l m k' (i + 1) = _
    rw [if_neg h0, List.nil_append, ih k' (i + 1) (by omega) (fun j h1 h2 => h j (by omega) (by omega)), show k' + 1 - (t + 1) = k' - t by omega, show i + 1 + t = i + (t + 1) by omega]
theorem chk_len {l : Hs} {m : Nat} : ∀ (k i : Nat), (chk l m k i).length ≤ k := by
  intro k
  induction k with
  | zero => intro i; simp [chk]
  | succ k ih =>
    intro i
    have := ih (i + 1)
    simp only [chk, List.length_append]
    split <;> simp <;> omega
theorem no_mult {i m j : Nat} (hm : 0 < m) (hi : i % m = 0) (h1 : i < j) (h2 : j < i + m) : j % m ≠ 0 := by
  intro h
  obtain ⟨q, hq⟩ := Nat.dvd_of_mod_eq_zero hi
  obtain ⟨r, hr⟩ := Nat.dvd_of_mod_eq_zero h
  subst hq; subst hr
  have h3 : q < r := Nat.lt_of_mul_lt_mul_left (a := m) h1
  have h4 : m * (q + 1) ≤ m * r := Nat.mul_le_mul_left m h3
  rw [Nat.mul_add, Nat.mul_one] at h4
  omega
section
variable {a : D_d60b} {m : Nat} (h2 : a.2.1.length ≤ 40) (hm : 0 < m)
include h2 hm
theorem fc_Check_L1_eq : ∀ (n k i : Nat) (d : Hs), k ≤ n → i + k = a.2.1.length → i % m = 0 → m ≤ i → d.length + k ≤ 100 →
    loopV (filterchain_Checkpoints_L1 (m : Int)) (((), ((), ((i : Int), ()))), (a, (d, ()))) = some (((), ()), (d ++ chk a.2.1 m k i, ())) := by
  intro n
  induction n with
  | zero =>
    intro k i d hk hi hz hmi hd
    have hk0 : k = 0 := by omega
    subst hk0
    refine loopV_done ?_
    have h1 : ¬ (i : Int) < (a.2.1.length : Int) := by omega
    simp only [filterchain_Checkpoints_L1, h1, decide_false, cond_false, chk, List.append_nil]
  | succ n ih =>
    intro k i d hk hi hz hmi hd
    cases k with
    | zero =>
      refine loopV_done ?_
      have h1 : ¬ (i : Int) < (a.2.1.length : Int) := by omega
      simp only [filterchain_Checkpoints_L1, h1, decide_false, cond_false, chk, List.append_nil]
    | succ k =>
      have hil : i < a.2.1.length := by omega
      have h1 : (i : Int) < (a.2.1.length : Int) := by omega
      have h3 : d.length + 1 ≤ lim := by rw [lim_eq]; omega
      have h4 : IntKind.i64.wrap ((i : Int) + (m : Int)) = ((i + m : Nat) : Int) := by rw [IntWalk.i64_in _ (by omega)]; simp
      have e : chk a.2.1 m (k + 1) i = rd (.arr 32 (.int .u8)) a.2.1 (i : Int) :: chk a.2.1 m k (i + 1) := by
        show (if i % m = 0 then [rd (.arr 32 (.int .u8)) a.2.1 (i : Int)] else []) ++ chk a.2.1 m k (i + 1) = _
        rw [if_pos hz]; rfl
      rw [loopV_next (v' := (((), ((), (((i + m : Nat) : Int), ()))), (a, (d ++ [rd (.arr 32 (.int .u8)) a.2.1 (i : Int)], ())))), e]
      · by_cases hmk : m - 1 ≤ k
        · rw [ih (k - (m - 1)) (i + m) _ (by omega) (by omega) (by rw [Nat.add_mod_right]; exact hz) (by omega) (by rw [List.length_append, List.length_singleton]; omega)]
          rw [chk_skip (m - 1) k (i + 1) hmk (fun j g1 g2 => no_mult hm hz (by omega) (by omega)), show i + 1 + (m - 1) = i + m by omega, List.append_assoc]
          rfl
        · have e2 : chk a.2.1 m k (i + 1) = [] := by
            rw [chk_skip k k (i + 1) (Nat.le_refl k) (fun j g1 g2 => no_mult hm hz (by omega) (by omega)), Nat.sub_self]; rfl
          rw [e2]
          refine loopV_done ?_
          have h5 : ¬ ((i + m : Nat) : Int) < (a.2.1.length : Int) := by omega
          simp only [filterchain_Checkpoints_L1, h5, decide_false, cond_false]
      · simp only [filterchain_Checkpoints_L1, h1, decide_true, cond_true, inb_nat hil, List.length_singleton, h3, h4]
theorem ref21_Check_L1_eq : ∀ (k i : Nat) (d : Hs), (i + k = a.2.1.length ∨ (k = 0 ∧ a.2.1.length ≤ i)) → d.length + k ≤ 100 →
    loopV (ref21_Checkpoints_L1 (m : Int)) (((), ((), ((i : Int), ()))), (a, (d, ()))) = some (((), ()), (d ++ chk a.2.1 m k i, ())) := by
  intro k
  induction k with
  | zero =>
    intro i d hi hd
    refine loopV_done ?_
    have h1 : ¬ (i : Int) < (a.2.1.length : Int) := by omega
    simp only [ref21_Checkpoints_L1, h1, decide_false, cond_false, chk, List.append_nil]
  | succ k ih =>
    intro i d hi hd
    have hil : i < a.2.1.length := by omega
    have h1 : (i : Int) < (a.2.1.length : Int) := by omega
    have h3 : d.length + 1 ≤ lim := by rw [lim_eq]; omega
    have hup := i64_up hil (show a.2.1.length ≤ big from Nat.le_trans h2 (by decide))
    have hm0 : ¬ (m : Int) = 0 := by omega
    have ht : Int.tmod (i : Int) (m : Int) = ((i % m : Nat) : Int) := by rw [tmod_nn (by omega)]; simp
    by_cases hz : i % m = 0
    · have hz' : ((i % m : Nat) : Int) = 0 := by omega
      rw [loopV_next (v' := (((), ((), (((i + 1 : Nat) : Int), ()))), (a, (d ++ [rd (.arr 32 (.int .u8)) a.2.1 (i : Int)], ())))), ih (i + 1) _ (by omega) (by rw [List.length_append, List.length_singleton]; omega)]
      · simp only [chk, hz, if_true, List.append_assoc]
      · simp only [ref21_Checkpoints_L1, h1, decide_true, cond_true, hm0, decide_false, cond_false, ht, hz', inb_nat hil, List.length_singleton, h3, hup]
    · have hz' : ¬ ((i % m : Nat) : Int) = 0 := by omega
      rw [loopV_next (v' := (((), ((), (((i + 1 : Nat) : Int), ()))), (a, (d, ())))), ih (i + 1) _ (by omega) (by omega)]
      · simp only [chk, hz, if_false, List.nil_append]
      · simp only [ref21_Checkpoints_L1, h1, decide_true, cond_true, hm0, decide_false, cond_false, ht, hz', hup]
end
def chkV (a : D_d60b) (n : Int) : Hs := if n ≤ 0 then [] else if soundB a = true then chk a.2.1 n.toNat (a.2.1.length - 1) 1 else []
section
variable {a : D_d60b} {n : Int} (h2 : a.2.1.length ≤ 40)
include h2
theorem fc_Checkpoints_eq : filterchain_Checkpoints a n = some (((), ()), (chkV a n, ())) := by
  unfold filterchain_Checkpoints chkV
  rw [fc_Sound_eq]
  by_cases hn : n ≤ 0
  · simp only [hn, decide_true, cond_true, if_true]
  · simp only [hn, decide_false, cond_false, if_false, Option.bind_some]
    cases hs : soundB a with
    | false => rfl
    | true =>
      simp only [Bool.not_true, cond_false, if_true]
      obtain ⟨m, rfl⟩ : ∃ m : Nat, n = (m : Int) := ⟨n.toNat, by omega⟩
      have hm : 0 < m := by omega
      rw [Int.toNat_natCast]
      by_cases hml : m ≤ a.2.1.length
      · rw [fc_Check_L1_eq h2 hm (a.2.1.length - m) (a.2.1.length - m) m [] (Nat.le_refl _) (by omega) (Nat.mod_self m) (Nat.le_refl m) (by simp; omega)]
        simp only [Option.bind_some, List.nil_append]
        rw [chk_skip (m - 1) (a.2.1.length - 1) 1 (by omega) (fun j g1 g2 => no_mult (i := 0) hm (Nat.zero_mod m) (by omega) (by omega)), show 1 + (m - 1) = m by omega, show a.2.1.length - 1 - (m - 1) = a.2.1.length - m by omega]
      · rw [loopV_done (o := (((), ()), (([] : Hs), ())))]
        · simp only [Option.bind_some]
          rw [chk_skip (a.2.1.length - 1) (a.2.1.length - 1) 1 (Nat.le_refl _) (fun j g1 g2 => no_mult (i := 0) hm (Nat.zero_mod m) (by omega) (by omega)), Nat.sub_self]
          rfl
        · have h1 : ¬ (m : Int) < (a.2.1.length : Int) := by omega
          simp only [filterchain_Checkpoints_L1, h1, decide_false, cond_false]
theorem ref21_Checkpoints_eq : ref21_Checkpoints a n = some (((), ()), (chkV a n, ())) := by
  unfold ref21_Checkpoints chkV
  rw [ref21_Sound_eq]
  by_cases hn : n ≤ 0
  · simp only [hn, decide_true, cond_true, if_true]
  · simp only [hn, decide_false, cond_false, if_false, Option.bind_some]
    cases hs : soundB a with
    | false => rfl
    | true =>
      simp only [Bool.not_true, cond_false, if_true]
      obtain ⟨m, rfl⟩ : ∃ m : Nat, n = (m : Int) := ⟨n.toNat, by omega⟩
      have hm : 0 < m := by omega
      rw [Int.toNat_natCast]
      have e := ref21_Check_L1_eq h2 hm (a.2.1.length - 1) 1 [] (by omega) (by simp; omega)
      rw [show ((1 : Nat) : Int) = 1 from rfl] at e
      rw [e]
      simp only [Option.bind_some, List.nil_append]
end
theorem chkV_len {a : D_d60b} {n : Int} : (chkV a n).length ≤ a.2.1.length := by
  unfold chkV
  split
  · simp
  · split
    · have := chk_len (l := a.2.1) (m := n.toNat) (a.2.1.length - 1) 1; omega
    · simp
theorem checks_eq {a : D_d60b} {n : Int} {x y : Hs} : law21_FilterchainChecks a n x y = some ((true, ()), ()) := by
  unfold law21_FilterchainChecks
  rw [law21_sane_eq, kept_eq, few_eq]
  simp only [Option.bind_some, Bool.not_true, cond_false]
  by_cases h1 : a.1.length ≤ 40
  · by_cases h2 : a.2.1.length ≤ 40
    · by_cases h3 : x.length ≤ 40
      · by_cases h4 : y.length ≤ 40
        · simp only [h1, h2, h3, h4, decide_true, Bool.and_self, Bool.not_true, cond_false]
          rw [fc_Checkpoints_eq h2, ref21_Checkpoints_eq h2, fc_Differ_eq (x := x) (y := y) (by omega) (by omega), ref21_Differ_eq (x := x) (y := y) (by omega) (by omega), fc_Differ_eq (x := x) (y := x) (by omega) (by omega)]
          simp only [Option.bind_some]
          rw [SameHashes_self (Nat.le_trans chkV_len (Nat.le_trans h2 (by decide)))]
          have e : diffV x x = -1 := by unfold diffV; rw [diffO_self]
          simp only [Option.bind_some, cond_true, decide_true, e]
        · simp [h1, h2, h3, h4]
      · simp [h1, h2, h3]
    · simp [h1, h2]
  · simp [h1]
theorem checks_pure (xs : TT.dens (holes [T_d60b, .int .i64, .slice (.arr 32 (.int .u8)), .slice (.arr 32 (.int .u8))])) (h : WfAll [T_d60b, .int .i64, .slice (.arr 32 (.int .u8)), .slice (.arr 32 (.int .u8))] xs) : law21_FilterchainChecks xs.1 xs.2.1 xs.2.2.1 xs.2.2.2.1 = some ((true, ()), ()) := checks_eq
end Go.PE
end
