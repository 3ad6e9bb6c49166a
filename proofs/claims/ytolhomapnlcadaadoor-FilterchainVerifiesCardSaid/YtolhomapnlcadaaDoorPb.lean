/- What the printed functions of the program are, and the plain law; conditions stand in each statement. -/
import Derived.Test.YtolhomapnlcadaaDoorPa
import Derived.Test.YtolhomapnlcadaaDoorQc
section
namespace Go.PE
set_option linter.unusedSimpArgs false
set_option linter.unusedVariables false
set_option linter.unusedSectionVars false
abbrev Hs := List (List Int)
def HH (h : List Int) : Prop := h.length = 32 ∧ BysL h
def HHs (l : Hs) : Prop := ∀ h ∈ l, HH h
theorem hh_of {h : List Int} (w : Ty.Wf (.arr 32 (.int .u8)) h) : HH h := ⟨w.1, fun x hx => Wf.u8 (w.2 x hx)⟩
theorem hhs_of {l : Hs} (w : Ty.Wf (.slice (.arr 32 (.int .u8))) l) : HHs l ∧ l.length ≤ big := ⟨fun h hh => hh_of (w.2 h hh), w.1⟩
abbrev z32 : List Int := List.replicate 32 0
theorem hh_zero : HH z32 := ⟨rfl, fun x hx => by have := (List.mem_replicate.1 hx).2; omega⟩
def headV (x p : List Int) : List Int := dblV (x ++ p)
theorem hh_sha {b : List Int} : HH (shaV b) := ⟨shaV_len (b := b), shaV_bys (b := b)⟩
theorem hh_head {x p : List Int} : HH (headV x p) := by unfold headV dblV; exact hh_sha
theorem sub32 {h : List Int} (hh : HH h) : sub h 0 32 = h := by unfold sub; rw [List.drop_zero, List.take_of_length_le (by rw [hh.1]; omega)]
theorem filter_Header_eq {x p : List Int} (hx : HH x) (hp : HH p) : filter_Header x p = some ((headV x p, ()), ()) := by
  unfold filter_Header
  have h1 : x.length + p.length ≤ lim := by rw [hx.1, hp.1, lim_eq]; omega
  simp only [sub32 hx, sub32 hp, h1, decide_true, cond_true]
  rw [sha_Double_eq (by rw [List.length_append, hx.1, hp.1, lim_eq]; omega)]
  simp only [Option.bind_some, headV]
theorem ref20_Header_eq {x p : List Int} (hx : HH x) (hp : HH p) : ref20_Header x p = some ((headV x p, ()), ()) := by
  unfold ref20_Header
  rw [sub32 hx, sub32 hp, ref01_Join_eq (by simp [hx.1, hp.1, lim]) (by simp [big])]
  simp only [Option.bind_some, List.flatten_cons, List.flatten_nil, List.append_nil]
  rw [ref03_Double_eq (fun y hy => (List.mem_append.1 hy).elim (hx.2 y) (hp.2 y)) (by rw [List.length_append, hx.1, hp.1, lim_eq]; omega)]
  simp only [Option.bind_some, headV]
def batchV : List Int → Hs → Hs
  | _, [] => []
  | p, x :: xs => headV x p :: batchV (headV x p) xs
theorem batchV_len : ∀ {p : List Int} {xs : Hs}, (batchV p xs).length = xs.length := by
  intro p xs
  induction xs generalizing p with
  | nil => rfl
  | cons x xs ih => simp [batchV, ih]
section
variable {xs : Hs} (hx : HHs xs) (hl : xs.length ≤ 40)
include hx hl
theorem fc_Batch_L1_eq : ∀ (k i : Nat) (p : List Int) (d : Hs), i + k = xs.length → d.length = i → HH p →
    loopV (filterchain_Batch_L1 xs (xs.length : Int)) (((), ((), ((i : Int), ()))), (p, (d ++ List.replicate k z32, ()))) = some (((), ()), (d ++ batchV p (xs.drop i), ())) := by
  intro k
  induction k with
  | zero =>
    intro i p d hk hd hp
    refine loopV_done ?_
    have h1 : ¬ (i : Int) < (xs.length : Int) := by omega
    rw [List.drop_eq_nil_of_le (by omega)]
    simp only [filterchain_Batch_L1, h1, decide_false, cond_false]; rfl
  | succ k ih =>
    intro i p d hk hd hp
    have hi : i < xs.length := by omega
    have h1 : (i : Int) < (xs.length : Int) := by omega
    have hxi := hx _ (List.getElem_mem hi)
    have h2 : inb (i : Int) (d ++ List.replicate (k + 1) z32).length = true := inb_nat (by rw [List.length_append, List.length_replicate]; omega)
    have h3 : (d ++ List.replicate (k + 1) z32)[i]? = some z32 := by rw [List.getElem?_append_right (by omega), hd, Nat.sub_self]; rfl
    have h4 : (d ++ List.replicate (k + 1) z32).set i (headV xs[i] p) = (d ++ [headV xs[i] p]) ++ List.replicate k z32 := by
      rw [List.set_append_right (h := by omega), hd, Nat.sub_self, List.replicate_succ, List.set_cons_zero, List.append_assoc]; rfl
    rw [loopV_next (v' := (((), ((), (((i + 1 : Nat) : Int), ()))), (headV xs[i] p, ((d ++ [headV xs[i] p]) ++ List.replicate k z32, ()))))]
    · rw [ih (i + 1) _ _ (by omega) (by rw [List.length_append, hd]; rfl) hh_head, List.drop_eq_getElem_cons hi, List.append_assoc]; rfl
    · unfold filterchain_Batch_L1
      simp only [h1, decide_true, cond_true, inb_nat hi, rd_in (t := .arr 32 (.int .u8)) (xs := xs) hi, filter_Header_eq hxi hp, Option.bind_some, h2, Int.toNat_natCast, h3, i64_up hi (show xs.length ≤ big from Nat.le_trans hl (by decide)), h4]
theorem fc_Batch_eq {p : List Int} (hp : HH p) : filterchain_Batch p xs = some (((), ()), (batchV p xs, ())) := by
  unfold filterchain_Batch
  have c1 : (0 : Int) ≤ (xs.length : Int) := by omega
  have c2 : (xs.length : Int) ≤ ((lim : Nat) : Int) := by rw [lim_eq]; omega
  simp only [c1, c2, Int.le_refl, decide_true, Bool.and_self, cond_true, Int.toNat_natCast]
  have e := fc_Batch_L1_eq hx hl xs.length 0 p [] (by omega) rfl hp
  rw [show ((0 : Nat) : Int) = 0 from rfl, List.nil_append] at e
  rw [e]; rfl
theorem ref21_Batch_L1_eq : ∀ (k i : Nat) (p : List Int) (d : Hs), i + k = xs.length → d.length = i → HH p →
    loopV (ref21_Batch_L1 xs (xs.length : Int)) (((), ((), ((i : Int), ()))), (p, (d, ()))) = some (((), ()), (d ++ batchV p (xs.drop i), ())) := by
  intro k
  induction k with
  | zero =>
    intro i p d hk hd hp
    refine loopV_done ?_
    have h1 : ¬ (i : Int) < (xs.length : Int) := by omega
    rw [List.drop_eq_nil_of_le (by omega)]
    simp only [ref21_Batch_L1, h1, decide_false, cond_false, batchV, List.append_nil]
  | succ k ih =>
    intro i p d hk hd hp
    have hi : i < xs.length := by omega
    have h1 : (i : Int) < (xs.length : Int) := by omega
    have hxi := hx _ (List.getElem_mem hi)
    have h2 : d.length + 1 ≤ lim := by rw [lim_eq]; omega
    rw [loopV_next (v' := (((), ((), (((i + 1 : Nat) : Int), ()))), (headV xs[i] p, (d ++ [headV xs[i] p], ()))))]
    · rw [ih (i + 1) _ _ (by omega) (by rw [List.length_append, hd]; rfl) hh_head, List.drop_eq_getElem_cons hi, List.append_assoc]; rfl
    · unfold ref21_Batch_L1
      simp only [h1, decide_true, cond_true, inb_nat hi, rd_in (t := .arr 32 (.int .u8)) (xs := xs) hi, ref20_Header_eq hxi hp, Option.bind_some, List.length_singleton, h2, i64_up hi (show xs.length ≤ big from Nat.le_trans hl (by decide))]
theorem ref21_Batch_eq {p : List Int} (hp : HH p) : ref21_Batch p xs = some (((), ()), (batchV p xs, ())) := by
  unfold ref21_Batch
  have e := ref21_Batch_L1_eq hx hl xs.length 0 p [] (by omega) rfl hp
  rw [show ((0 : Nat) : Int) = 0 from rfl] at e
  rw [e]; rfl
end
def soundB (a : D_d60b) : Bool := decide (a.1.length = a.2.1.length) && decide (a.1.length ≤ 4096)
theorem fc_Sound_eq {a : D_d60b} : filterchain_Sound a = some ((soundB a, ()), ()) := by
  unfold filterchain_Sound soundB
  by_cases h : a.1.length = a.2.1.length
  · have h1 : (a.1.length : Int) = (a.2.1.length : Int) := by omega
    have h2 : ((a.1.length : Int) ≤ 4096) = (a.1.length ≤ 4096) := by apply propext; omega
    simp only [h, h1, decide_true, cond_true, Bool.true_and]
    rw [← h]; simp only [h2]
  · have h1 : ¬ (a.1.length : Int) = (a.2.1.length : Int) := by omega
    simp [h, h1]
theorem ref21_Sound_eq {a : D_d60b} : ref21_Sound a = some ((soundB a, ()), ()) := fc_Sound_eq
theorem SameHashes_self {l : Hs} (hl : l.length ≤ big) : ref07_SameHashes l l = some ((true, ()), ()) := by
  unfold ref07_SameHashes
  simp only [decide_true, Bool.not_true, cond_false]
  rw [loopV_all (step := ref07_SameHashes_L1 l l (l.length : Int)) (fun i => (((i : Int), ()), ())) l.length (fun i => true) (bad := .inl ((false, ()), ())) (good := .inr ((), ())) (b := true) ?_ (by simp) ?_ ?_]
  · simp
  · rfl
  · intro i hi
    unfold ref07_SameHashes_L1
    have h1 : ((i : Int) < (l.length : Int)) := by omega
    simp only [h1, decide_true, cond_true, inb_nat hi, i64_up hi hl, eqb_self (T := .arr 32 (.int .u8)) rfl, Bool.not_true, cond_false]
  · simp [ref07_SameHashes_L1]
theorem ref21_Same_self {a : D_d60b} (h1 : a.1.length ≤ big) (h2 : a.2.1.length ≤ big) : ref21_Same a a = some ((true, ()), ()) := by
  unfold ref21_Same
  rw [SameHashes_self h1, SameHashes_self h2]; rfl
theorem fc_grown_eq {a b : Hs} (h : a.length + b.length ≤ lim) : filterchain_grown_api_Hash a b = some (((), ()), (a ++ b, ())) := by
  unfold filterchain_grown_api_Hash
  have h' := h
  rw [lim_eq] at h'
  rw [IntWalk.i64_in _ (by omega)]
  have c1 : (0 : Int) ≤ (a.length : Int) + (b.length : Int) := by omega
  have c2 : (a.length : Int) + (b.length : Int) ≤ ((lim : Nat) : Int) := by omega
  have c3 : a.length ≤ lim := by omega
  simp only [Int.le_refl, c1, c2, decide_true, Bool.and_self, cond_true, List.replicate_zero, List.length_nil, Nat.zero_add, c3, List.nil_append, h]
theorem ref21_copied_eq {a : Hs} (h : a.length ≤ lim) : ref21_copied a = some (((), ()), (a, ())) := by
  unfold ref21_copied; rw [decide_eq_true h]; rfl
def prevV (a : D_d60b) (i : Nat) : List Int := if i = 0 then z32 else rd (.arr 32 (.int .u8)) a.2.1 ((i - 1 : Nat) : Int)
theorem prev_hh {a : D_d60b} (h : HHs a.2.1) {i : Nat} (hi : i ≤ a.2.1.length) : HH (prevV a i) := by
  unfold prevV
  by_cases h0 : i = 0
  · rw [if_pos h0]; exact hh_zero
  · rw [if_neg h0, rd_in (t := .arr 32 (.int .u8)) (xs := a.2.1) (show i - 1 < a.2.1.length by omega)]
    exact h _ (List.getElem_mem _)
theorem fc_before_eq {a : D_d60b} {i : Nat} (hi : i ≤ a.2.1.length) (hl : a.2.1.length ≤ big) : filterchain_before a (i : Int) = some ((prevV a i, ()), ()) := by
  rw [show big = 9223372036854775807 from rfl] at hl
  unfold filterchain_before prevV
  by_cases h0 : i = 0
  · have h1 : (i : Int) = 0 := by omega
    simp only [h0, if_true, show ((0 : Nat) : Int) = 0 from rfl, decide_true, cond_true]
  · have h1 : ¬ (i : Int) = 0 := by omega
    have h2 : IntKind.i64.wrap ((i : Int) - 1) = ((i - 1 : Nat) : Int) := by rw [IntWalk.i64_in _ (by omega)]; omega
    have h3 : inb ((i - 1 : Nat) : Int) a.2.1.length = true := inb_nat (by omega)
    simp only [h1, h2, h3, decide_false, cond_false, cond_true, h0, if_false]
abbrev ExtR := ((Unit × Unit × Unit) × Int × Unit) × Hs × Hs × Unit
def errE (e : Int) : ExtR := ((((), ((), ())), (e, ())), (([] : Hs), (([] : Hs), ())))
def extV (a : D_d60b) (xs ys : Hs) : ExtR :=
  if soundB a = true then (if xs.length = ys.length then (if 4096 < a.1.length + xs.length then errE 4 else ((((), ((), ())), ((0 : Int), ())), (a.1 ++ xs, (a.2.1 ++ batchV (prevV a a.2.1.length) ys, ())))) else errE 8) else errE 6
section
variable {a : D_d60b} {xs ys : Hs} (h1 : a.1.length ≤ 40) (h2 : a.2.1.length ≤ 40) (h3 : xs.length ≤ 40) (h4 : ys.length ≤ 40) (ha : HHs a.2.1) (hy : HHs ys)
include h1 h2 h3 h4 ha hy
theorem fc_Extend_eq : filterchain_Extend a xs ys = some (extV a xs ys) := by
  unfold filterchain_Extend extV
  rw [fc_Sound_eq]
  simp only [Option.bind_some]
  cases hs : soundB a with
  | false => rfl
  | true =>
    simp only [Bool.not_true, cond_false, if_true]
    by_cases hl : xs.length = ys.length
    · have hl' : (xs.length : Int) = (ys.length : Int) := by omega
      have hw : IntKind.i64.wrap ((a.1.length : Int) + (ys.length : Int)) = (a.1.length : Int) + (ys.length : Int) := IntWalk.i64_in _ (by omega)
      simp only [hl, decide_true, Bool.not_true, cond_false, if_true, hw]
      have h5 : ¬ (4096 : Int) < (a.1.length : Int) + (ys.length : Int) := by omega
      have h6 : ¬ 4096 < a.1.length + ys.length := by omega
      simp only [h5, h6, decide_false, cond_false, if_false]
      rw [fc_before_eq (Nat.le_refl _) (Nat.le_trans h2 (by decide))]
      simp only [Option.bind_some]
      rw [fc_Batch_eq hy h4 (prev_hh ha (Nat.le_refl _)), fc_grown_eq (by rw [lim_eq]; omega)]
      simp only [Option.bind_some]
      rw [fc_grown_eq (by rw [batchV_len, lim_eq]; omega)]
      simp only [Option.bind_some]
    · have hl' : ¬ (xs.length : Int) = (ys.length : Int) := by omega
      simp only [hl, hl', decide_false, Bool.not_false, cond_true, if_false, errE]
theorem ref21_Extend_eq : ref21_Extend a xs ys = some (extV a xs ys) := by
  unfold ref21_Extend extV
  rw [ref21_Sound_eq]
  simp only [Option.bind_some]
  cases hs : soundB a with
  | false => rfl
  | true =>
    simp only [Bool.not_true, cond_false, if_true]
    by_cases hl : xs.length = ys.length
    · have hl' : (xs.length : Int) = (ys.length : Int) := by omega
      have hw : IntKind.i64.wrap ((a.1.length : Int) + (ys.length : Int)) = (a.1.length : Int) + (ys.length : Int) := IntWalk.i64_in _ (by omega)
      simp only [hl, decide_true, Bool.not_true, cond_false, if_true, hw]
      have h5 : ¬ (4096 : Int) < (a.1.length : Int) + (ys.length : Int) := by omega
      have h6 : ¬ 4096 < a.1.length + ys.length := by omega
      simp only [h5, h6, decide_false, cond_false, if_false]
      have hj : ref21_Extend_J1 (((), ((), ((), ()))), (a, (((), ((), ())), (z32, ())))) = some (((), ((), ((), ()))), (a, (((), ((), ())), (prevV a a.2.1.length, ())))) := by
        unfold ref21_Extend_J1 prevV
        by_cases h0 : a.2.1.length = 0
        · simp [h0]
        · have e1 : (0 : Int) < (a.2.1.length : Int) := by omega
          have e2 : IntKind.i64.wrap ((a.2.1.length : Int) - 1) = ((a.2.1.length - 1 : Nat) : Int) := by rw [IntWalk.i64_in _ (by omega)]; omega
          have e3 : inb ((a.2.1.length - 1 : Nat) : Int) a.2.1.length = true := inb_nat (by omega)
          simp only [e1, e2, e3, decide_true, cond_true, h0, if_false]
      rw [hj]
      simp only [Option.bind_some]
      rw [ref21_copied_eq (by rw [lim_eq]; omega), ref21_copied_eq (by rw [lim_eq]; omega), ref21_Batch_eq hy h4 (prev_hh ha (Nat.le_refl _))]
      have e1 : a.1.length + ys.length ≤ lim := by rw [lim_eq]; omega
      have e2 : a.2.1.length + (batchV (prevV a a.2.1.length) ys).length ≤ lim := by rw [batchV_len, lim_eq]; omega
      simp only [Option.bind_some, e1, e2, decide_true, cond_true]
    · have hl' : ¬ (xs.length : Int) = (ys.length : Int) := by omega
      simp only [hl, hl', decide_false, Bool.not_false, cond_true, if_false, errE]
end
end Go.PE
end

section
namespace Go.PE
set_option linter.unusedSimpArgs false
set_option linter.unusedVariables false
set_option linter.unusedSectionVars false
abbrev eqh (a b : List Int) : Bool := Ty.eqb (.arr 32 (.int .u8)) a b
/-- The first place, from i on, at which two lists part. -/
def diffO : Hs → Hs → Nat → Option Nat
  | [], [], _ => none
  | [], _ :: _, i => some i
  | _ :: _, [], i => some i
  | a :: x, b :: y, i => if eqh a b = true then diffO x y (i + 1) else some i
theorem diffO_self : ∀ (x : Hs) (i : Nat), diffO x x i = none := by
  intro x
  induction x with
  | nil => intro i; rfl
  | cons a x ih => intro i; simp only [diffO, eqb_self (T := .arr 32 (.int .u8)) rfl, if_true, ih]
def diffV (x y : Hs) : Int := match diffO x y 0 with
  | some i => (i : Int)
  | none => -1
abbrev DifO := ((Int × Unit) × Unit) ⊕ ((Unit) × Unit)
def difR : Option Nat → DifO
  | some i => .inl (((i : Int), ()), ())
  | none => .inr ((), ())
section
variable {x y : Hs} (hx : x.length ≤ 100) (hy : y.length ≤ 100)
include hx hy
theorem fc_Differ_L1_eq : ∀ (k i : Nat), i + k = max x.length y.length → loopV (filterchain_Differ_L1 x y (max (x.length : Int) (y.length : Int))) (((i : Int), ()), ()) = some (difR (diffO (x.drop i) (y.drop i) i)) := by
  intro k
  have hm : max (x.length : Int) (y.length : Int) = ((max x.length y.length : Nat) : Int) := by omega
  rw [hm]
  induction k with
  | zero =>
    intro i hi
    refine loopV_done ?_
    have h1 : ¬ (i : Int) < ((max x.length y.length : Nat) : Int) := by omega
    rw [List.drop_eq_nil_of_le (by omega), List.drop_eq_nil_of_le (by omega)]
    simp only [filterchain_Differ_L1, h1, decide_false, cond_false]; rfl
  | succ k ih =>
    intro i hi
    have h1 : (i : Int) < ((max x.length y.length : Nat) : Int) := by omega
    by_cases h2 : x.length ≤ i
    · refine loopV_done ?_
      have h2' : (x.length : Int) ≤ (i : Int) := by omega
      rw [List.drop_eq_nil_of_le h2, List.drop_eq_getElem_cons (show i < y.length by omega)]
      simp only [filterchain_Differ_L1, h1, h2', decide_true, cond_true]; rfl
    · by_cases h3 : y.length ≤ i
      · refine loopV_done ?_
        have h2' : ¬ (x.length : Int) ≤ (i : Int) := by omega
        have h3' : (y.length : Int) ≤ (i : Int) := by omega
        rw [List.drop_eq_nil_of_le h3, List.drop_eq_getElem_cons (show i < x.length by omega)]
        simp only [filterchain_Differ_L1, h1, h2', h3', decide_true, decide_false, cond_true, cond_false]; rfl
      · have hix : i < x.length := by omega
        have hiy : i < y.length := by omega
        have h2' : ¬ (x.length : Int) ≤ (i : Int) := by omega
        have h3' : ¬ (y.length : Int) ≤ (i : Int) := by omega
        rw [List.drop_eq_getElem_cons hix, List.drop_eq_getElem_cons hiy]
        cases he : eqh x[i] y[i] with
        | true =>
          rw [loopV_next (v' := ((((i + 1 : Nat) : Int), ()), ())), ih (i + 1) (by omega)]
          · simp only [diffO, he, if_true]
          · simp only [filterchain_Differ_L1, h1, h2', h3', decide_true, decide_false, cond_true, cond_false, inb_nat hix, inb_nat hiy, rd_in (t := .arr 32 (.int .u8)) (xs := x) hix, rd_in (t := .arr 32 (.int .u8)) (xs := y) hiy, he, Bool.not_true, i64_up hix (show x.length ≤ big from Nat.le_trans hx (by decide))]
        | false =>
          refine loopV_done ?_
          simp only [filterchain_Differ_L1, h1, h2', h3', decide_true, decide_false, cond_true, cond_false, inb_nat hix, inb_nat hiy, rd_in (t := .arr 32 (.int .u8)) (xs := x) hix, rd_in (t := .arr 32 (.int .u8)) (xs := y) hiy, he, Bool.not_false, diffO, Bool.false_eq_true, if_false, difR]
theorem fc_Differ_eq : filterchain_Differ x y = some ((diffV x y, ()), ()) := by
  unfold filterchain_Differ
  have e := fc_Differ_L1_eq hx hy (max x.length y.length) 0 (by omega)
  rw [show ((0 : Nat) : Int) = 0 from rfl, List.drop_zero, List.drop_zero] at e
  rw [e]
  unfold diffV
  cases diffO x y 0 <;> rfl
theorem ref21_J2 (i : Nat) : ref21_Differ_J2 x y (i : Int) ((), ()) = some (if i < max x.length y.length then .inl ((), ()) else .inr ((), ())) := by
  unfold ref21_Differ_J2
  by_cases h1 : i < x.length
  · have h1' : (i : Int) < (x.length : Int) := by omega
    have h3 : i < max x.length y.length := by omega
    simp only [h1', h3, decide_true, cond_true, if_true]
  · have h1' : ¬ (i : Int) < (x.length : Int) := by omega
    by_cases h2 : i < y.length
    · have h2' : (i : Int) < (y.length : Int) := by omega
      have h3 : i < max x.length y.length := by omega
      simp only [h1', h2', h3, decide_true, decide_false, cond_true, cond_false, if_true]
    · have h2' : ¬ (i : Int) < (y.length : Int) := by omega
      have h3 : ¬ i < max x.length y.length := by omega
      simp only [h1', h2', h3, decide_false, cond_false, if_false]
theorem ref21_Differ_L1_eq : ∀ (k i : Nat), i + k = max x.length y.length → loopV (ref21_Differ_L1 x y) (((i : Int), ()), ()) = some (difR (diffO (x.drop i) (y.drop i) i)) := by
  intro k
  induction k with
  | zero =>
    intro i hi
    refine loopV_done ?_
    have h1 : ¬ i < max x.length y.length := by omega
    rw [List.drop_eq_nil_of_le (by omega), List.drop_eq_nil_of_le (by omega)]
    simp only [ref21_Differ_L1, ref21_J2 hx hy i, h1, if_false, Option.bind_some]; rfl
  | succ k ih =>
    intro i hi
    have h1 : i < max x.length y.length := by omega
    by_cases h2 : x.length ≤ i
    · refine loopV_done ?_
      have h2' : (x.length : Int) ≤ (i : Int) := by omega
      rw [List.drop_eq_nil_of_le h2, List.drop_eq_getElem_cons (show i < y.length by omega)]
      simp only [ref21_Differ_L1, ref21_J2 hx hy i, h1, if_true, Option.bind_some, h2', decide_true, cond_true]; rfl
    · by_cases h3 : y.length ≤ i
      · refine loopV_done ?_
        have h2' : ¬ (x.length : Int) ≤ (i : Int) := by omega
        have h3' : (y.length : Int) ≤ (i : Int) := by omega
        rw [List.drop_eq_nil_of_le h3, List.drop_eq_getElem_cons (show i < x.length by omega)]
        simp only [ref21_Differ_L1, ref21_J2 hx hy i, h1, if_true, Option.bind_some, h2', h3', decide_true, decide_false, cond_true, cond_false]; rfl
      · have hix : i < x.length := by omega
        have hiy : i < y.length := by omega
        have h2' : ¬ (x.length : Int) ≤ (i : Int) := by omega
        have h3' : ¬ (y.length : Int) ≤ (i : Int) := by omega
        rw [List.drop_eq_getElem_cons hix, List.drop_eq_getElem_cons hiy]
        cases he : eqh x[i] y[i] with
        | true =>
          rw [loopV_next (v' := ((((i + 1 : Nat) : Int), ()), ())), ih (i + 1) (by omega)]
          · simp only [diffO, he, if_true]
          · simp only [ref21_Differ_L1, ref21_J2 hx hy i, h1, if_true, Option.bind_some, h2', h3', decide_true, decide_false, cond_true, cond_false, inb_nat hix, inb_nat hiy, rd_in (t := .arr 32 (.int .u8)) (xs := x) hix, rd_in (t := .arr 32 (.int .u8)) (xs := y) hiy, he, Bool.not_true, i64_up hix (show x.length ≤ big from Nat.le_trans hx (by decide))]
        | false =>
          refine loopV_done ?_
          simp only [ref21_Differ_L1, ref21_J2 hx hy i, h1, if_true, Option.bind_some, h2', h3', decide_true, decide_false, cond_true, cond_false, inb_nat hix, inb_nat hiy, rd_in (t := .arr 32 (.int .u8)) (xs := x) hix, rd_in (t := .arr 32 (.int .u8)) (xs := y) hiy, he, Bool.not_false, diffO, Bool.false_eq_true, if_false, difR]
theorem ref21_Differ_eq : ref21_Differ x y = some ((diffV x y, ()), ()) := by
  unfold ref21_Differ
  have e := ref21_Differ_L1_eq hx hy (max x.length y.length) 0 (by omega)
  rw [show ((0 : Nat) : Int) = 0 from rfl, List.drop_zero, List.drop_zero] at e
  rw [e]
  unfold diffV
  cases diffO x y 0 <;> rfl
end
def one32 : List Int := (List.replicate 32 (0 : Int)).set 0 1
def two32 : List Int := (List.replicate 32 (0 : Int)).set 0 2
theorem hh_one : HH one32 := ⟨rfl, by unfold BysL one32; decide⟩
theorem hh_two : HH two32 := ⟨rfl, by unfold BysL two32; decide⟩
theorem law21_sane_eq : law21_sane = some ((true, ()), ()) := by
  unfold law21_sane
  have e1 : (List.replicate 32 (0 : Int))[(0)]? = some 0 := rfl
  simp only [e1, Option.bind_some]
  rw [show (List.replicate 32 (0 : Int)).set 0 1 = one32 from rfl, show (List.replicate 32 (0 : Int)).set 0 2 = two32 from rfl]
  rw [fc_Extend_eq (by simp) (by simp) (by simp) (by simp) (fun h hh => by cases hh) (fun h hh => by rw [List.mem_singleton.1 hh]; exact hh_two)]
  rw [fc_Differ_eq (by simp) (by simp)]
  have e2 : diffV [one32, two32] [one32] = 1 := by decide +kernel
  have e3 : extV (([] : Hs), (([] : Hs), ())) [one32] [two32] = ((((), ((), ())), ((0 : Int), ())), ([one32], ([headV two32 z32], ()))) := rfl
  rw [e2, e3]
  simp only [Option.bind_some, decide_true, cond_true, List.length_singleton, List.getElem?_cons_zero]
  rw [show inb (0 : Int) 1 = true from rfl]
  simp only [cond_true]
  rw [show (List.replicate 32 (0 : Int)) = z32 from rfl, filter_Header_eq hh_two hh_zero]
  simp only [Option.bind_some, eqb_self (T := .arr 32 (.int .u8)) rfl]
  rfl
theorem kept_eq {a : D_d60b} : law21_kept a = some ((decide (a.1.length ≤ 40) && decide (a.2.1.length ≤ 40), ()), ()) := by
  unfold law21_kept
  have e1 : ((a.1.length : Int) ≤ 40) = (a.1.length ≤ 40) := by apply propext; omega
  have e2 : ((a.2.1.length : Int) ≤ 40) = (a.2.1.length ≤ 40) := by apply propext; omega
  simp only [e1, e2]
  cases decide (a.1.length ≤ 40) <;> rfl
theorem few_eq {x y : Hs} : law21_few x y = some ((decide (x.length ≤ 40) && decide (y.length ≤ 40), ()), ()) := by
  unfold law21_few
  have e1 : ((x.length : Int) ≤ 40) = (x.length ≤ 40) := by apply propext; omega
  have e2 : ((y.length : Int) ≤ 40) = (y.length ≤ 40) := by apply propext; omega
  simp only [e1, e2]
  cases decide (x.length ≤ 40) <;> rfl
theorem extends_eq {a : D_d60b} {xs ys : Hs} {p : List Int} (ha : HHs a.2.1) (hy : HHs ys) (hp : HH p) : law21_FilterchainExtends a xs ys p = some ((true, ()), ()) := by
  unfold law21_FilterchainExtends
  rw [law21_sane_eq, kept_eq, few_eq]
  simp only [Option.bind_some, Bool.not_true, cond_false]
  by_cases h1 : a.1.length ≤ 40
  · by_cases h2 : a.2.1.length ≤ 40
    · by_cases h3 : xs.length ≤ 40
      · by_cases h4 : ys.length ≤ 40
        · simp only [h1, h2, h3, h4, decide_true, Bool.and_self, Bool.not_true, cond_false]
          rw [fc_Extend_eq h1 h2 h3 h4 ha hy, ref21_Extend_eq h1 h2 h3 h4 ha hy, fc_Sound_eq, ref21_Sound_eq]
          simp only [Option.bind_some, eqb_self (T := .bool) rfl, cond_true]
          rw [fc_Batch_eq hy h4 hp, ref21_Batch_eq hy h4 hp]
          simp only [Option.bind_some]
          rw [SameHashes_self (by rw [batchV_len]; exact Nat.le_trans h4 (by decide))]
          simp only [Option.bind_some, cond_true, decide_true]
          have hb : (extV a xs ys).2.1.length ≤ 80 ∧ (extV a xs ys).2.2.1.length ≤ 80 := by
            unfold extV errE
            split
            · split
              · split
                · simp
                · simp only [List.length_append, batchV_len]; omega
              · simp
            · simp
          rw [ref21_Same_self (a := ((extV a xs ys).2.1, ((extV a xs ys).2.2.1, ()))) (Nat.le_trans hb.1 (by decide)) (Nat.le_trans hb.2 (by decide))]
          simp only [Option.bind_some]
        · simp [h1, h2, h3, h4]
      · simp [h1, h2, h3]
    · simp [h1, h2]
  · simp [h1]
theorem extends_pure (xs : TT.dens (holes [T_d60b, .slice (.arr 32 (.int .u8)), .slice (.arr 32 (.int .u8)), .arr 32 (.int .u8)])) (h : WfAll [T_d60b, .slice (.arr 32 (.int .u8)), .slice (.arr 32 (.int .u8)), .arr 32 (.int .u8)] xs) : law21_FilterchainExtends xs.1 xs.2.1 xs.2.2.1 xs.2.2.2.1 = some ((true, ()), ()) :=
  extends_eq (hhs_of h.1.2.1).1 (hhs_of h.2.2.1).1 (hh_of h.2.2.2.1)
end Go.PE
end

section
namespace Go.PE
set_option linter.unusedSimpArgs false
set_option linter.unusedVariables false
set_option linter.unusedSectionVars false
theorem ref01_AppendSize_eq {a : List Int} {v : Nat} (hv : v < 2 ^ 64) (hl : a.length + 9 ≤ lim) : ref01_AppendSize a (v : Int) = some (((), ()), (a ++ sizeV v, ())) := by
  unfold ref01_AppendSize sizeV
  have l1 := ref01_little_eq (v := v) (n := 1) hv (by omega)
  have l2 := ref01_little_eq (v := v) (n := 2) hv (by omega)
  have l4 := ref01_little_eq (v := v) (n := 4) hv (by omega)
  have l8 := ref01_little_eq (v := v) (n := 8) hv (by omega)
  rw [show ((1 : Nat) : Int) = 1 from rfl] at l1
  rw [show ((2 : Nat) : Int) = 2 from rfl] at l2
  rw [show ((4 : Nat) : Int) = 4 from rfl] at l4
  rw [show ((8 : Nat) : Int) = 8 from rfl] at l8
  have j : ∀ (c : Int) (n : Nat), n ≤ 8 → ref01_joined ([c] : List Int) (le v n) = some (((), ()), (c :: le v n, ())) := fun c n hn => by
    rw [ref01_joined_eq (by rw [le_len, List.length_singleton, lim_eq]; omega)]; rfl
  have f1 : ref01_joined a (le v 1) = some (((), ()), (a ++ le v 1, ())) := ref01_joined_eq (by rw [le_len]; omega)
  have f2 : ref01_joined a (253 :: le v 2) = some (((), ()), (a ++ 253 :: le v 2, ())) := ref01_joined_eq (by rw [List.length_cons, le_len]; omega)
  have f4 : ref01_joined a (254 :: le v 4) = some (((), ()), (a ++ 254 :: le v 4, ())) := ref01_joined_eq (by rw [List.length_cons, le_len]; omega)
  have f8 : ref01_joined a (255 :: le v 8) = some (((), ()), (a ++ 255 :: le v 8, ())) := ref01_joined_eq (by rw [List.length_cons, le_len]; omega)
  rw [l1, l2, l4, l8]
  simp only [Option.bind_some]
  rw [j 253 2 (by omega), j 254 4 (by omega), j 255 8 (by omega)]
  simp only [Option.bind_some]
  rw [f1, f2, f4, f8]
  simp only [Option.bind_some]
  rw [show (253 : Int) = ((253 : Nat) : Int) from rfl, show (65536 : Int) = ((65536 : Nat) : Int) from rfl, show (4294967296 : Int) = ((4294967296 : Nat) : Int) from rfl, lt_dec, lt_dec, lt_dec]
  by_cases h1 : v < 253
  · rw [if_pos h1, bif_t (decide_eq_true h1)]
  · rw [if_neg h1, bif_f (decide_eq_false h1)]
    by_cases h2 : v < 65536
    · rw [if_pos h2, bif_t (decide_eq_true h2)]
    · rw [if_neg h2, bif_f (decide_eq_false h2)]
      by_cases h3 : v < 4294967296
      · rw [if_pos h3, bif_t (decide_eq_true h3)]
      · rw [if_neg h3, bif_f (decide_eq_false h3)]
theorem ref01_AppendBytes_eq {a b : List Int} (hl : a.length + 9 + b.length ≤ lim) : ref01_AppendBytes a b = some (((), ()), (a ++ (sizeV b.length ++ b), ())) := by
  unfold ref01_AppendBytes
  have hl' := hl
  rw [lim_eq] at hl
  rw [wrap_un rfl (by omega) (by simp only [IntKind.bits]; omega), ref01_AppendSize_eq (by omega) (by omega)]
  simp only [Option.bind_some]
  have := @sizeV_len b.length
  rw [ref01_joined_eq (by rw [List.length_append, lim_eq]; omega)]
  simp only [Option.bind_some, List.append_assoc]
abbrev FEnc := (Unit × Int × Unit) × (List Int) × Unit
def fencB (f : D_b101) : List Int := sizeV f.1.toNat ++ (sizeV f.2.1.length ++ f.2.1)
def fencV (f : D_b101) : FEnc := if f.1 < 0 then (((), ((4 : Int), ())), (([] : List Int), ())) else if 4096 < f.1 then (((), ((4 : Int), ())), (([] : List Int), ())) else
  if 200000 < (f.2.1.length : Int) then (((), ((4 : Int), ())), (([] : List Int), ())) else (((), ((0 : Int), ())), (fencB f, ()))
theorem filter_Encode_eq {f : D_b101} : filter_Encode f = some (fencV f) := by
  unfold filter_Encode fencV
  by_cases h1 : f.1 < 0
  · simp only [h1, decide_true, cond_true, if_true]
  · by_cases h2 : 4096 < f.1
    · simp only [h1, h2, decide_true, decide_false, cond_true, cond_false, if_true, if_false]
    · by_cases h3 : 200000 < (f.2.1.length : Int)
      · simp only [h1, h2, h3, decide_true, decide_false, cond_true, cond_false, if_true, if_false]
      · simp only [h1, h2, h3, decide_false, cond_false, if_false]
        have hz := @sizeV_len f.1.toNat
        have e : IntKind.u64.wrap f.1 = ((f.1.toNat : Nat) : Int) := by rw [wrap_un rfl (by omega) (by simp only [IntKind.bits]; omega)]; omega
        rw [e, codec_AppendSize_eq (by omega) (by simp [lim])]
        simp only [Option.bind_some, List.nil_append]
        rw [codec_AppendBytes_eq (by rw [lim_eq]; omega)]
        simp only [Option.bind_some, fencB]
theorem ref20_Encode_eq {f : D_b101} : ref20_Encode f = some (fencV f) := by
  unfold ref20_Encode fencV
  by_cases h1 : f.1 < 0
  · simp only [h1, decide_true, cond_true, if_true]
  · by_cases h2 : 4096 < f.1
    · simp only [h1, h2, decide_true, decide_false, cond_true, cond_false, if_true, if_false]
    · by_cases h3 : 200000 < (f.2.1.length : Int)
      · simp only [h1, h2, h3, decide_true, decide_false, cond_true, cond_false, if_true, if_false]
      · simp only [h1, h2, h3, decide_false, cond_false, if_false]
        have hz := @sizeV_len f.1.toNat
        have e : IntKind.u64.wrap f.1 = ((f.1.toNat : Nat) : Int) := by rw [wrap_un rfl (by omega) (by simp only [IntKind.bits]; omega)]; omega
        rw [e, ref01_AppendSize_eq (by omega) (by simp [lim])]
        simp only [Option.bind_some, List.nil_append]
        rw [ref01_AppendBytes_eq (by rw [lim_eq]; omega)]
        simp only [Option.bind_some, fencB]
theorem le_bys {v n : Nat} : BysL (le v n) := fun x hx => by
  obtain ⟨i, _, rfl⟩ := List.mem_map.1 hx
  have : v / 256 ^ i % 256 < 256 := Nat.mod_lt _ (by omega)
  omega
theorem sizeV_bys {v : Nat} : BysL (sizeV v) := by
  unfold sizeV
  have c : ∀ (a : Int) (n : Nat), 0 ≤ a ∧ a ≤ 255 → BysL (a :: le v n) := fun a n ha x hx => by
    rcases List.mem_cons.1 hx with h | h
    · rw [h]; exact ha
    · exact le_bys x h
  split
  · exact le_bys
  · split
    · exact c _ _ (by omega)
    · split
      · exact c _ _ (by omega)
      · exact c _ _ (by omega)
theorem fencB_bys {f : D_b101} (h : BysL f.2.1) : BysL (fencB f) := fun x hx => by
  rcases List.mem_append.1 hx with h1 | h1
  · exact sizeV_bys x h1
  · rcases List.mem_append.1 h1 with h2 | h2
    · exact sizeV_bys x h2
    · exact h x h2
theorem fencV_cases (f : D_b101) : fencV f = (((), ((4 : Int), ())), (([] : List Int), ())) ∨ fencV f = (((), ((0 : Int), ())), (fencB f, ())) ∧ (fencB f).length + 72 ≤ lim := by
  unfold fencV
  split
  · exact .inl rfl
  · split
    · exact .inl rfl
    · split
      · exact .inl rfl
      · refine .inr ⟨rfl, ?_⟩
        have h1 := @sizeV_len f.1.toNat
        have h2 := @sizeV_len f.2.1.length
        simp only [fencB, List.length_append, lim_eq]; omega
def verV (a : D_d60b) (n : Int) (f : D_b101) : Int :=
  if soundB a = true then (if n < 0 then 5 else if (a.2.1.length : Int) ≤ n then 5 else if (fencV f).1.2.1 = 0 then
    (if eqh (headV (dblV (fencB f)) (prevV a n.toNat)) (rd (.arr 32 (.int .u8)) a.2.1 n) = true then 0 else 200) else (fencV f).1.2.1) else 6
section
variable {a : D_d60b} {n : Int} {f : D_b101} (h2 : a.2.1.length ≤ 40) (ha : HHs a.2.1) (hf : BysL f.2.1)
include h2 ha hf
theorem fc_Verify_eq : filterchain_Verify a n f = some ((verV a n f, ()), ()) := by
  unfold filterchain_Verify verV
  rw [fc_Sound_eq, filter_Encode_eq]
  simp only [Option.bind_some]
  cases hs : soundB a with
  | false => rfl
  | true =>
    simp only [Bool.not_true, cond_false, if_true]
    by_cases hn : n < 0
    · simp only [hn, decide_true, cond_true, if_true]
    · by_cases hm : (a.2.1.length : Int) ≤ n
      · simp only [hn, hm, decide_true, decide_false, cond_true, cond_false, if_true, if_false]
      · simp only [hn, hm, decide_false, cond_false, if_false]
        rcases fencV_cases f with he | ⟨he, hl⟩
        · rw [he]; rfl
        · have e1 : filter_Hash f = some ((dblV (fencB f), ()), ()) := by
            unfold filter_Hash
            rw [filter_Encode_eq, he]
            simp only [Option.bind_some, decide_true, Bool.not_true, cond_false]
            rw [sha_Double_eq hl]; simp only [Option.bind_some]
          have e2 : n = ((n.toNat : Nat) : Int) := by omega
          have hnl : n.toNat < a.2.1.length := by omega
          have e3 := fc_before_eq (a := a) (i := n.toNat) (by omega) (Nat.le_trans h2 (by decide))
          rw [← e2] at e3
          have hh1 : HH (dblV (fencB f)) := by unfold dblV; exact hh_sha
          have hin : inb n a.2.1.length = true := inb_t (by omega)
          rw [he, e1]
          simp only [decide_true, Bool.not_true, cond_false, if_true, Option.bind_some]
          rw [e3]
          simp only [Option.bind_some]
          rw [filter_Header_eq hh1 (prev_hh ha (by omega))]
          simp only [Option.bind_some, hin, cond_true]
          generalize headV (dblV (fencB f)) (prevV a n.toNat) = X
          generalize rd (.arr 32 (.int .u8)) a.2.1 n = Y
          show (bif !(eqh X Y) then _ else _) = some ((if eqh X Y = true then (0 : Int) else 200, ()), ())
          generalize eqh X Y = q
          cases q <;> rfl
theorem ref21_Verify_eq : ref21_Verify a n f = some ((verV a n f, ()), ()) := by
  unfold ref21_Verify verV
  rw [ref21_Sound_eq, ref20_Encode_eq]
  simp only [Option.bind_some]
  cases hs : soundB a with
  | false => rfl
  | true =>
    simp only [Bool.not_true, cond_false, if_true]
    by_cases hn : n < 0
    · simp only [hn, decide_true, cond_true, if_true]
    · by_cases hm : (a.2.1.length : Int) ≤ n
      · simp only [hn, hm, decide_true, decide_false, cond_true, cond_false, if_true, if_false]
      · simp only [hn, hm, decide_false, cond_false, if_false]
        rcases fencV_cases f with he | ⟨he, hl⟩
        · rw [he]; rfl
        · have e1 : ref20_Hash f = some ((dblV (fencB f), ()), ()) := by
            unfold ref20_Hash
            rw [ref20_Encode_eq, he]
            simp only [Option.bind_some, decide_true, Bool.not_true, cond_false]
            rw [ref03_Double_eq (fencB_bys hf) hl]; simp only [Option.bind_some]
          have hnl : n.toNat < a.2.1.length := by omega
          have e3 : ref21_Verify_J1 n (((), ((), ((), ()))), (a, (f, (z32, ())))) = some (((), ((), ((), ()))), (a, (f, (prevV a n.toNat, ())))) := by
            unfold ref21_Verify_J1 prevV
            by_cases h0 : n.toNat = 0
            · have h0' : ¬ 0 < n := by omega
              simp only [h0, h0', decide_false, cond_false, if_true]
            · have h0' : 0 < n := by omega
              have e4 : IntKind.i64.wrap (n - 1) = ((n.toNat - 1 : Nat) : Int) := by rw [IntWalk.i64_in _ (by omega)]; omega
              have e5 : inb ((n.toNat - 1 : Nat) : Int) a.2.1.length = true := inb_nat (by omega)
              simp only [h0, h0', e4, e5, decide_true, cond_true, if_false]
          have hh1 : HH (dblV (fencB f)) := by unfold dblV; exact hh_sha
          have hin : inb n a.2.1.length = true := inb_t (by omega)
          rw [he]
          simp only [decide_true, Bool.not_true, cond_false, if_true, Option.bind_some]
          rw [e3]
          simp only [Option.bind_some, e1]
          rw [ref20_Header_eq hh1 (prev_hh ha (by omega))]
          simp only [Option.bind_some, hin, cond_true]
          generalize headV (dblV (fencB f)) (prevV a n.toNat) = X
          generalize rd (.arr 32 (.int .u8)) a.2.1 n = Y
          show (bif !(eqh X Y) then _ else _) = some ((if eqh X Y = true then (0 : Int) else 200, ()), ())
          generalize eqh X Y = q
          cases q <;> rfl
end
theorem verifies_eq {a : D_d60b} {n : Int} {f : D_b101} (ha : HHs a.2.1) (hf : BysL f.2.1) : law21_FilterchainVerifies a n f = some ((true, ()), ()) := by
  unfold law21_FilterchainVerifies
  rw [law21_sane_eq, kept_eq]
  simp only [Option.bind_some, Bool.not_true, cond_false]
  by_cases h1 : a.1.length ≤ 40
  · by_cases h2 : a.2.1.length ≤ 40
    · simp only [h1, h2, decide_true, Bool.and_self, Bool.not_true, cond_false]
      by_cases h3 : 400 < (f.2.1.length : Int)
      · simp only [h3, decide_true, cond_true]
      · simp only [h3, decide_false, cond_false]
        rw [fc_Verify_eq h2 ha hf, ref21_Verify_eq h2 ha hf]
        simp only [Option.bind_some, decide_true]
    · simp [h1, h2]
  · simp [h1]
theorem verifies_pure (xs : TT.dens (holes [T_d60b, .int .i64, T_b101])) (h : WfAll [T_d60b, .int .i64, T_b101] xs) : law21_FilterchainVerifies xs.1 xs.2.1 xs.2.2.1 = some ((true, ()), ()) :=
  verifies_eq (hhs_of h.1.2.1).1 (fun x hx => Wf.u8 (h.2.2.1.2.1.2 x hx))
end Go.PE
end
