/- What the printed functions of the program are, and the plain law; conditions stand in each statement. -/
import Derived.Test.YtaeaeaiebbakbaaPa
import Derived.Test.YtaeaeaiebbakbaaQc
import Derived.KernelRfl
section
namespace Go.PE
set_option linter.unusedSimpArgs false
set_option linter.unusedVariables false
theorem sel532 : ∃ r, selection_Best [5, 3, 2] 5 = some r ∧ r = ((((), ((5 : Int), ())), ((), ((0 : Int), ()))), (([0] : List Int), (([1, 2, 1, 1, 2, 2, 2] : List Int), ()))) := by
  refine ⟨_, ?_, rfl⟩
  unfold selection_Best selection_fault
  rw [selection_proper_eq (by decide), selection_total_eq (by unfold Bd; decide) (by decide)]
  kernel_rfl
theorem sel44 : ∃ r, selection_Best [4, 4] 9 = some r ∧ r = ((((), ((0 : Int), ())), ((), ((320 : Int), ()))), (([] : List Int), (([] : List Int), ()))) := by
  refine ⟨_, ?_, rfl⟩
  unfold selection_Best selection_fault
  rw [selection_proper_eq (by decide), selection_total_eq (by unfold Bd; decide) (by decide)]
  kernel_rfl
theorem law32_sane_eq : law32_sane = some ((true, ()), ()) := by
  unfold law32_sane
  obtain ⟨r1, h1, rfl⟩ := sel532
  obtain ⟨r2, h2, rfl⟩ := sel44
  rw [h1, h2]
  rfl
/-- What a deck draws. -/
theorem Next_some {k : Int} (hk : 0 < k) (hk2 : k ≤ 1000) {l : List Int} {p : Nat} (hp : p ≤ l.length) (hl : l.length ≤ big) (hw : ∀ x ∈ l, -9223372036854775808 ≤ x ∧ x ≤ 9223372036854775807) :
    ∃ r : Int, ∃ q : Nat, mill_Deck_Next k (l, ((p : Int), ())) = some ((r, ()), ((l, ((q : Int), ())), ())) ∧ 0 ≤ r ∧ r < k ∧ q ≤ l.length := by
  rw [show big = 9223372036854775807 from rfl] at hl
  unfold mill_Deck_Next mill_Deck_Left
  by_cases h : (p : Int) < (l.length : Int)
  · have hpl : p < l.length := by omega
    have e1 : IntKind.i64.wrap ((p : Int) + 1) = ((p + 1 : Nat) : Int) := by rw [IntWalk.i64_in _ (by omega)]; simp
    have e2 : IntKind.i64.wrap (((p + 1 : Nat) : Int) - 1) = (p : Int) := by rw [IntWalk.i64_in _ (by omega)]; omega
    have hx := hw _ (List.getElem_mem hpl)
    have hk0 : ¬ k = 0 := by omega
    obtain ⟨r, hr, hr0, hrk⟩ : ∃ r, mill_Mod l[p] k = some ((r, ()), ()) ∧ 0 ≤ r ∧ r < k := by
      unfold mill_Mod
      have h1 := Int.tmod_lt_of_pos l[p] hk
      have h2 : -k < Int.tmod l[p] k := by
        have h3 := Int.tmod_lt_of_pos (-l[p]) hk
        rw [Int.neg_tmod] at h3; omega
      by_cases hn : Int.tmod l[p] k < 0
      · refine ⟨Int.tmod l[p] k + k, ?_, by omega, by omega⟩
        simp only [hk0, hn, decide_false, decide_true, cond_false, cond_true]
        rw [IntWalk.i64_in _ (by omega)]
      · refine ⟨Int.tmod l[p] k, ?_, by omega, by omega⟩
        simp only [hk0, hn, decide_false, cond_false]
    refine ⟨r, p + 1, ?_, hr0, hrk, by omega⟩
    simp only [h, decide_true, Option.bind_some, Bool.not_true, cond_false]
    simp only [e1, e2, inb_nat hpl, cond_true, rd_in (t := .int .i64) (xs := l) hpl, hr, Option.bind_some]
  · refine ⟨0, p, ?_, by omega, hk, hp⟩
    simp only [h, decide_false, Option.bind_some, Bool.not_false, cond_true]
theorem made_some {l : List Int} (hl : l.length ≤ big) (hw : ∀ x ∈ l, -9223372036854775808 ≤ x ∧ x ≤ 9223372036854775807) : ∃ (t : Int) (ys : List Int), law32_made l 9 = some (((), (t, ())), (ys, ())) := by
  unfold law32_made mill_New
  simp only [Option.bind_some]
  rw [show IntKind.i64.wrap (9 + 1) = 10 from rfl]
  obtain ⟨r, q, h1, h2, h3, h4⟩ := Next_some (k := 10) (by omega) (by omega) (p := 0) (Nat.zero_le _) hl hw
  rw [show ((0 : Nat) : Int) = 0 from rfl] at h1
  rw [h1]
  simp only [Option.bind_some]
  have loop : ∀ (k : Nat) (q : Nat) (ys : List Int), q ≤ l.length → ys.length + k ≤ 1000 → ∃ q' : Nat, ∃ ys' : List Int, loopV law32_made_L1 (((), ((), ((k : Int), ()))), ((l, ((q : Int), ())), (ys, ()))) = some (((), ((), ())), ((l, ((q' : Int), ())), (ys', ()))) ∧ q' ≤ l.length := by
    intro k
    induction k with
    | zero => intro q ys hq _; exact ⟨q, ys, loopV_done (by simp [law32_made_L1]), hq⟩
    | succ k ih =>
      intro q ys hq hy
      obtain ⟨r, q2, g1, g2, g3, g4⟩ := Next_some (k := 30) (by omega) (by omega) hq hl hw
      obtain ⟨q', ys', g5, g6⟩ := ih q2 (ys ++ [1 + r]) g4 (by rw [List.length_append, List.length_singleton]; omega)
      refine ⟨q', ys', ?_, g6⟩
      rw [← g5]
      refine loopV_next ?_
      have e0 : (0 : Int) < ((k + 1 : Nat) : Int) := by omega
      have e1 : IntKind.i64.wrap (((k + 1 : Nat) : Int) - 1) = (k : Int) := by rw [IntWalk.i64_in _ (by omega)]; omega
      have e2 : IntKind.i64.wrap (1 + r) = 1 + r := IntWalk.i64_in _ (by omega)
      have e3 : ys.length + 1 ≤ lim := by unfold lim; omega
      unfold law32_made_L1
      simp only [e0, decide_true, cond_true, g1, Option.bind_some, List.length_singleton, e3, e1, e2]
  obtain ⟨k, rfl⟩ := Int.eq_ofNat_of_zero_le h2
  obtain ⟨q', ys', g5, g6⟩ := loop k q [] h4 (by simp; omega)
  rw [g5]
  simp only [Option.bind_some]
  obtain ⟨r2, q2, g7, _⟩ := Next_some (k := 60) (by omega) (by omega) g6 hl hw
  rw [g7]
  exact ⟨_, _, rfl⟩
theorem Same_self {c : List Int} {b : Int} (hc : c.length ≤ 16) : ref32_Same (c, (b, ())) (c, (b, ())) = some ((true, ()), ()) := by
  unfold ref32_Same
  simp only [decide_true, Bool.not_true, cond_false]
  rw [loopV_all (step := ref32_Same_L1) (fun i => (((), ((), ((i : Int), ()))), ((c, (b, ())), ((c, (b, ())), ())))) c.length (fun i => true) (bad := .inl ((false, ()), ())) (good := .inr ((), ())) (b := true) ?_ (by simp) ?_ ?_]
  · rfl
  · rfl
  · intro i hi
    have h1 : (i : Int) < (c.length : Int) := by omega
    simp only [ref32_Same_L1, h1, decide_true, cond_true, inb_nat hi, Bool.not_true, cond_false, i64_up hi (show c.length ≤ big from Nat.le_trans hc (by decide))]
  · simp [ref32_Same_L1]
theorem L3_eq {xs : List Int} {O : List (List Int)} {p q : Int} : loopV (law32_SelectionBest_L3 xs 2) (((), ((), ((0 : Int), ()))), (O, (([p, q] : List Int), ()))) = some (.inr (((), ()), (O, ()))) := by
  refine loopV_ind (fun i => (((), ((), ((i : Int), ()))), (O, (([p, q] : List Int), ())))) 2 rfl (fun i hi => ?_) (by simp [law32_SelectionBest_L3])
  have h1 : (i : Int) < 2 := by omega
  have hin : inb (i : Int) ([p, q] : List Int).length = true := inb_nat hi
  obtain ⟨x, hx⟩ : ∃ x, ([p, q] : List Int)[i]? = some x := ⟨_, List.getElem?_eq_getElem hi⟩
  obtain ⟨e, b, c, t, b1, b2, b3⟩ := best_same xs x
  have hup : IntKind.i64.wrap ((i : Int) + 1) = ((i + 1 : Nat) : Int) := i64_up (n := 2) hi (by decide)
  simp only [law32_SelectionBest_L3, h1, decide_true, cond_true, hin, Int.toNat_natCast, hx, Option.bind_some, b1, b2, Bool.not_true, cond_false, Same_self b3, eqList_int, hup]
theorem L2_eq {p q : Int} {xs ys : List Int} : loopV (law32_SelectionBest_L2 p q 2) (((), ((0 : Int), ())), (([xs, ys] : List (List Int)), ())) = some (.inr ((), ())) := by
  refine loopV_ind (fun i => (((), ((i : Int), ())), (([xs, ys] : List (List Int)), ()))) 2 rfl (fun i hi => ?_) (by simp [law32_SelectionBest_L2])
  have h1 : (i : Int) < 2 := by omega
  have hin : inb (i : Int) ([xs, ys] : List (List Int)).length = true := inb_nat hi
  obtain ⟨x, hx⟩ : ∃ x, ([xs, ys] : List (List Int))[i]? = some x := ⟨_, List.getElem?_eq_getElem hi⟩
  have hup : IntKind.i64.wrap ((i : Int) + 1) = ((i + 1 : Nat) : Int) := i64_up (n := 2) hi (by decide)
  have e2 : ((([q, p] : List Int).length : Nat) : Int) = 2 := rfl
  simp only [law32_SelectionBest_L2, h1, decide_true, cond_true, hin, Int.toNat_natCast, hx, Option.bind_some]
  rw [e2, L3_eq]
  simp only [Option.bind_some, hup]
theorem selectionBest_eq {d xs : List Int} {T : Int} (hl : d.length ≤ big) (hw : ∀ x ∈ d, -9223372036854775808 ≤ x ∧ x ≤ 9223372036854775807) : law32_SelectionBest d xs T = some ((true, ()), ()) := by
  unfold law32_SelectionBest
  rw [law32_sane_eq]
  simp only [Option.bind_some, Bool.not_true, cond_false]
  have hj : law32_SelectionBest_J1 xs ((), ()) = some (if 12 < xs.length ∧ xs.length ≤ 16 then .inl ((true, ()), ()) else .inr ((), ())) := by
    unfold law32_SelectionBest_J1
    by_cases h1 : 12 < xs.length
    · have h1' : (12 : Int) < (xs.length : Int) := by omega
      by_cases h2 : xs.length ≤ 16
      · have h2' : (xs.length : Int) ≤ 16 := by omega
        simp [h1, h1', h2, h2']
      · have h2' : ¬ (xs.length : Int) ≤ 16 := by omega
        simp [h1, h1', h2, h2']
    · have h1' : ¬ (12 : Int) < (xs.length : Int) := by omega
      simp [h1, h1']
  rw [hj]
  by_cases hc : 12 < xs.length ∧ xs.length ≤ 16
  · rw [if_pos hc]; rfl
  · rw [if_neg hc]
    simp only [Option.bind_some]
    obtain ⟨t, ys, hm⟩ := made_some hl hw
    rw [hm]
    simp only [Option.bind_some]
    rw [show ((([ys, xs] : List (List Int)).length : Nat) : Int) = 2 from rfl, L2_eq]
    rfl
theorem selectionBest_pure (xs : TT.dens (holes [.slice (.int .i64), .slice (.int .i64), .int .i64])) (h : WfAll [.slice (.int .i64), .slice (.int .i64), .int .i64] xs) : law32_SelectionBest xs.1 xs.2.1 xs.2.2.1 = some ((true, ()), ()) :=
  selectionBest_eq h.1.1 (fun x hx => Wf.i64 (h.1.2 x hx))
end Go.PE
end

section
namespace Go.PE
set_option linter.unusedSimpArgs false
set_option linter.unusedVariables false
/-- A deck's numbers. -/
structure Deck (l : List Int) : Prop where
  len : l.length ≤ big
  num : ∀ x ∈ l, -9223372036854775808 ≤ x ∧ x ≤ 9223372036854775807
theorem Deck.of {l : List Int} (h : Ty.Wf (.slice (.int .i64)) l) : Deck l := ⟨h.1, fun x hx => Wf.i64 (h.2 x hx)⟩
theorem mill_Mod_some {v k : Int} (hk : 0 < k) (hk2 : k ≤ 4611686018427387904) (hv : -9223372036854775808 ≤ v ∧ v ≤ 9223372036854775807) : ∃ r, mill_Mod v k = some ((r, ()), ()) ∧ 0 ≤ r ∧ r < k := by
  have hk0 : ¬ k = 0 := by omega
  unfold mill_Mod
  have h1 := Int.tmod_lt_of_pos v hk
  have h2 : -k < Int.tmod v k := by
    have h3 := Int.tmod_lt_of_pos (-v) hk
    rw [Int.neg_tmod] at h3; omega
  by_cases hn : Int.tmod v k < 0
  · refine ⟨Int.tmod v k + k, ?_, by omega, by omega⟩
    simp only [hk0, hn, decide_false, decide_true, cond_false, cond_true]
    rw [IntWalk.i64_in _ (by omega)]
  · refine ⟨Int.tmod v k, ?_, by omega, by omega⟩
    simp only [hk0, hn, decide_false, cond_false]
section
variable {l : List Int} (hl : Deck l)
include hl
/-- What a deck draws. -/
theorem Deck.next {k : Int} (hk : 0 < k) (hk2 : k ≤ 4611686018427387904) {p : Nat} (hp : p ≤ l.length) :
    ∃ r : Int, ∃ q : Nat, mill_Deck_Next k (l, ((p : Int), ())) = some ((r, ()), ((l, ((q : Int), ())), ())) ∧ 0 ≤ r ∧ r < k ∧ q ≤ l.length := by
  have hlen := hl.len
  rw [show big = 9223372036854775807 from rfl] at hlen
  unfold mill_Deck_Next mill_Deck_Left
  by_cases h : (p : Int) < (l.length : Int)
  · have hpl : p < l.length := by omega
    have e1 : IntKind.i64.wrap ((p : Int) + 1) = ((p + 1 : Nat) : Int) := by rw [IntWalk.i64_in _ (by omega)]; simp
    have e2 : IntKind.i64.wrap (((p + 1 : Nat) : Int) - 1) = (p : Int) := by rw [IntWalk.i64_in _ (by omega)]; omega
    obtain ⟨r, hr, hr0, hrk⟩ := mill_Mod_some hk hk2 (hl.num _ (List.getElem_mem hpl))
    refine ⟨r, p + 1, ?_, hr0, hrk, by omega⟩
    simp only [h, decide_true, Option.bind_some, Bool.not_true, cond_false]
    simp only [e1, e2, inb_nat hpl, cond_true, rd_in (t := .int .i64) (xs := l) hpl, hr, Option.bind_some]
  · refine ⟨0, p, ?_, by omega, hk, hp⟩
    simp only [h, decide_false, Option.bind_some, Bool.not_false, cond_true]
theorem Deck.range {a b : Int} (hab : a ≤ b) (ha : 0 ≤ a) (hb : b ≤ 1000000) {p : Nat} (hp : p ≤ l.length) :
    ∃ r : Int, ∃ q : Nat, mill_Deck_Range a b (l, ((p : Int), ())) = some ((r, ()), ((l, ((q : Int), ())), ())) ∧ a ≤ r ∧ r ≤ b ∧ q ≤ l.length := by
  unfold mill_Deck_Range
  rw [IntWalk.i64_in (b - a) (by omega), IntWalk.i64_in _ (by omega)]
  obtain ⟨r, q, h1, h2, h3, h4⟩ := hl.next (k := b - a + 1) (by omega) (by omega) hp
  rw [h1]
  simp only [Option.bind_some]
  rw [IntWalk.i64_in _ (by omega)]
  exact ⟨_, q, rfl, by omega, by omega, h4⟩
theorem Deck.hash {p : Nat} (hp : p ≤ l.length) :
    ∃ h : List Int, ∃ q : Nat, mill_Hash (l, ((p : Int), ())) = some ((h, ()), ((l, ((q : Int), ())), ())) ∧ h.length = 32 ∧ (∀ x ∈ h, 0 ≤ x ∧ x ≤ 255) ∧ q ≤ l.length := by
  unfold mill_Hash
  obtain ⟨r, q, h1, h2, h3, h4⟩ := hl.next (k := 5) (by omega) (by omega) hp
  rw [h1]
  simp only [Option.bind_some]
  obtain ⟨r2, q2, g1, g2, g3, g4⟩ := hl.next (k := 7) (by omega) (by omega) h4
  rw [g1]
  simp only [Option.bind_some]
  rw [wrap_un (k := .u8) rfl (n := r) h2 (by simp only [IntKind.bits]; omega), wrap_un (k := .u8) rfl (n := r2) g2 (by simp only [IntKind.bits]; omega)]
  refine ⟨_, q2, rfl, by simp, fun x hx => ?_, g4⟩
  rcases List.mem_or_eq_of_mem_set hx with hx | rfl
  · rcases List.mem_or_eq_of_mem_set hx with hx | rfl
    · rw [List.mem_replicate] at hx; omega
    · omega
  · omega
end
/-- A script that is made. -/
def ScrOk (s : List Int) : Prop := ∃ b : Int, 0 ≤ b ∧ b ≤ 255 ∧ s = [1, 1, b, 5]
theorem made_Script_some {a : Int} (h : 0 ≤ a ∧ a ≤ 255) : ∃ s, made_Script a = some (((), ()), (s, ())) ∧ ScrOk s := by
  refine ⟨_, rfl, _, ?_, ?_, rfl⟩
  · have h1 : 0 ≤ Int.tmod a 6 := Int.tmod_nonneg _ h.1
    have h2 := Int.tmod_lt_of_pos a (show (0 : Int) < 6 by omega)
    rw [wrap_un (k := .u8) rfl (by omega) (by simp only [IntKind.bits]; omega)]; omega
  · have h1 : 0 ≤ Int.tmod a 6 := Int.tmod_nonneg _ h.1
    have h2 := Int.tmod_lt_of_pos a (show (0 : Int) < 6 by omega)
    rw [wrap_un (k := .u8) rfl (by omega) (by simp only [IntKind.bits]; omega)]; omega
structure MIn (x : D_089d) : Prop where
  hash : x.1.1.length = 32
  byte : ∀ y ∈ x.1.1, 0 ≤ y ∧ y ≤ 255
  idx : 0 ≤ x.1.2.1 ∧ x.1.2.1 ≤ 2
  seq : 0 ≤ x.2.1 ∧ x.2.1 ≤ 4294967295
  wit : x.2.2.1 = [] ∨ ∃ b : Int, 0 ≤ b ∧ b ≤ 8 ∧ x.2.2.1 = [[b]]
structure MOut (o : D_b101) : Prop where
  val : 0 ≤ o.1 ∧ o.1 < 5000
  scr : ScrOk o.2.1
section
variable {l : List Int} (hl : Deck l)
include hl
theorem Tx_L1 (X Y : Int × Unit × Unit × Int × Unit) : ∀ (k p : Nat) (ins : List D_089d), p ≤ l.length → ins.length + k ≤ 1000 → (∀ x ∈ ins, MIn x) →
    ∃ (q : Nat) (ins' : List D_089d), loopV mill_Tx_L1 (((), ((), ((), ((k : Int), ())))), ((l, ((p : Int), ())), (X, (Y, (ins, ()))))) = some (((), ((), ((), ()))), ((l, ((q : Int), ())), (X, (Y, (ins', ()))))) ∧
      q ≤ l.length ∧ ins'.length = ins.length + k ∧ ∀ x ∈ ins', MIn x := by
  intro k
  induction k with
  | zero => intro p ins hp _ hi; exact ⟨p, ins, loopV_done (by simp [mill_Tx_L1]), hp, rfl, hi⟩
  | succ k ih =>
    intro p ins hp hn hi
    have e0 : (0 : Int) < ((k + 1 : Nat) : Int) := by omega
    have e1 : IntKind.i64.wrap (((k + 1 : Nat) : Int) - 1) = (k : Int) := by rw [IntWalk.i64_in _ (by omega)]; omega
    obtain ⟨h, q1, f1, f2, f2', f3⟩ := hl.hash hp
    obtain ⟨r2, q2, g1, g2, g3, g4⟩ := hl.next (k := 3) (by omega) (by omega) f3
    obtain ⟨r3, q3, i1, i2, i3, i4⟩ := hl.next (k := 4) (by omega) (by omega) g4
    obtain ⟨r4, q4, j1, j2, j3, j4⟩ := hl.next (k := 2) (by omega) (by omega) i4
    obtain ⟨sq, hs1, hs2⟩ : ∃ sq : Int, ([4294967295, 4294967294, 4294967293, 0] : List Int)[r3.toNat]? = some sq ∧ (0 ≤ sq ∧ sq ≤ 4294967295) := by
      have : r3 = 0 ∨ r3 = 1 ∨ r3 = 2 ∨ r3 = 3 := by omega
      rcases this with rfl | rfl | rfl | rfl <;> exact ⟨_, rfl, by decide⟩
    have hin : inb r3 ([4294967295, 4294967294, 4294967293, 0] : List Int).length = true := inb_t (by simp; omega)
    have hidx : IntKind.u32.wrap r2 = r2 := wrap_un (k := .u32) rfl g2 (by simp only [IntKind.bits]; omega)
    -- the witness
    obtain ⟨w, q5, hJ, hw, hq5⟩ : ∃ (w : List (List Int)) (q5 : Nat), mill_Tx_J2 (((), ((), ((), ((), ())))), ((l, ((q3 : Int), ())), (X, (Y, (((h, (r2, ())), (sq, ((), ()))), (ins, ())))))) =
        some (((), ((), ((), ((), ())))), ((l, ((q5 : Int), ())), (X, (Y, (((h, (r2, ())), (sq, ((), ()))), (ins, (w, ()))))))) ∧ (w = [] ∨ ∃ b : Int, 0 ≤ b ∧ b ≤ 8 ∧ w = [[b]]) ∧ q5 ≤ l.length := by
      unfold mill_Tx_J2
      simp only [j1, Option.bind_some]
      by_cases hz : r4 = 0
      · obtain ⟨r5, q5, k1, k2, k3, k4⟩ := hl.next (k := 9) (by omega) (by omega) j4
        refine ⟨[[r5]], q5, ?_, .inr ⟨r5, k2, by omega, rfl⟩, k4⟩
        simp only [hz, decide_true, cond_true, k1, Option.bind_some]
        rw [wrap_un (k := .u8) rfl (n := r5) k2 (by simp only [IntKind.bits]; omega)]
      · refine ⟨[], q4, ?_, .inl rfl, j4⟩
        simp only [hz, decide_false, cond_false]
    obtain ⟨q', ins', h1, h2, h3, h4⟩ := ih q5 (ins ++ [((h, (r2, ())), (sq, (w, ())))]) hq5 (by rw [List.length_append, List.length_singleton]; omega) (fun x hx => by
      rcases List.mem_append.1 hx with hx | hx
      · exact hi x hx
      · rw [List.mem_singleton.1 hx]; exact ⟨f2, f2', ⟨g2, by show r2 ≤ 2; omega⟩, hs2, hw⟩)
    refine ⟨q', ins', ?_, h2, by rw [h3, List.length_append, List.length_singleton]; omega, h4⟩
    rw [← h1]
    refine loopV_next ?_
    have e3 : ins.length + 1 ≤ lim := by unfold lim; omega
    unfold mill_Tx_L1
    simp only [e0, decide_true, cond_true, f1, Option.bind_some, g1, i1, hin, hs1, hidx]
    have hJ' := hJ
    simp only [hJ, Option.bind_some, List.length_singleton, e3, decide_true, cond_true, e1]
theorem Tx_L3 (X Y : Int × Unit × Unit × Int × Unit) (ins : List D_089d) : ∀ (k p : Nat) (outs : List D_b101), p ≤ l.length → outs.length + k ≤ 1000 → (∀ x ∈ outs, MOut x) →
    ∃ (q : Nat) (outs' : List D_b101), loopV mill_Tx_L3 (((), ((), ((), ((k : Int), ())))), ((l, ((p : Int), ())), (X, (Y, (ins, (outs, ())))))) = some (((), ((), ())), ((l, ((q : Int), ())), (X, (Y, (ins, (outs', ())))))) ∧
      q ≤ l.length ∧ outs'.length = outs.length + k ∧ ∀ x ∈ outs', MOut x := by
  intro k
  induction k with
  | zero => intro p outs hp _ hi; exact ⟨p, outs, loopV_done (by simp [mill_Tx_L3]), hp, rfl, hi⟩
  | succ k ih =>
    intro p outs hp hn hi
    have e0 : (0 : Int) < ((k + 1 : Nat) : Int) := by omega
    have e1 : IntKind.i64.wrap (((k + 1 : Nat) : Int) - 1) = (k : Int) := by rw [IntWalk.i64_in _ (by omega)]; omega
    obtain ⟨r2, q2, g1, g2, g3, g4⟩ := hl.next (k := 5000) (by omega) (by omega) hp
    obtain ⟨r3, q3, i1, i2, i3, i4⟩ := hl.next (k := 6) (by omega) (by omega) g4
    have hw : IntKind.u8.wrap r3 = r3 := wrap_un (k := .u8) rfl i2 (by simp only [IntKind.bits]; omega)
    obtain ⟨s, s1, s2⟩ := made_Script_some (a := r3) (by omega)
    obtain ⟨q', outs', h1, h2, h3, h4⟩ := ih q3 (outs ++ [(r2, (s, ()))]) i4 (by rw [List.length_append, List.length_singleton]; omega) (fun x hx => by
      rcases List.mem_append.1 hx with hx | hx
      · exact hi x hx
      · rw [List.mem_singleton.1 hx]; exact ⟨⟨g2, g3⟩, s2⟩)
    refine ⟨q', outs', ?_, h2, by rw [h3, List.length_append, List.length_singleton]; omega, h4⟩
    rw [← h1]
    refine loopV_next ?_
    have e3 : outs.length + 1 ≤ lim := by unfold lim; omega
    unfold mill_Tx_L3
    simp only [e0, decide_true, cond_true, Option.bind_some, g1, i1, hw, s1, List.length_singleton, e3, e1]
/-- A transaction that is drawn. -/
structure MTx (t : D_8f0a) : Prop where
  ver : 0 ≤ t.1 ∧ t.1 < 3
  lock : 0 ≤ t.2.2.2.1 ∧ t.2.2.2.1 < 9
  nin : 1 ≤ t.2.1.length ∧ t.2.1.length ≤ 3
  ins : ∀ x ∈ t.2.1, MIn x
  nout : 1 ≤ t.2.2.1.length ∧ t.2.2.1.length ≤ 3
  outs : ∀ x ∈ t.2.2.1, MOut x
theorem Deck.tx {p : Nat} (hp : p ≤ l.length) : ∃ (X : Int × Unit × Unit × Int × Unit) (q : Nat) (ins : List D_089d) (outs : List D_b101),
    mill_Tx (l, ((p : Int), ())) = some ((X, ()), ((l, ((q : Int), ())), (ins, (outs, ())))) ∧ MTx (X.1, (ins, (outs, X.2.2.2))) ∧ q ≤ l.length := by
  unfold mill_Tx
  obtain ⟨r1, q1, a1, a2, a3, a4⟩ := hl.next (k := 3) (by omega) (by omega) hp
  obtain ⟨r2, q2, b1, b2, b3, b4⟩ := hl.next (k := 9) (by omega) (by omega) a4
  obtain ⟨r3, q3, c1, c2, c3, c4⟩ := hl.range (a := 1) (b := 3) (by omega) (by omega) (by omega) b4
  simp only [a1, b1, c1, Option.bind_some]
  obtain ⟨k, rfl⟩ := Int.eq_ofNat_of_zero_le (show 0 ≤ r3 by omega)
  obtain ⟨q4, ins, d1, d2, d3, d4⟩ := Tx_L1 hl ((0 : Int), ((), ((), ((0 : Int), ())))) ((IntKind.u32.wrap r1), ((), ((), ((IntKind.u32.wrap r2), ())))) k q3 [] c4 (by simp; omega) (fun x hx => by cases hx)
  rw [d1]
  simp only [Option.bind_some]
  obtain ⟨r4, q5, f1, f2, f3, f4⟩ := hl.range (a := 1) (b := 3) (by omega) (by omega) (by omega) d2
  simp only [f1, Option.bind_some]
  obtain ⟨k2, rfl⟩ := Int.eq_ofNat_of_zero_le (show 0 ≤ r4 by omega)
  obtain ⟨q6, outs, g1, g2, g3, g4⟩ := Tx_L3 hl ((0 : Int), ((), ((), ((0 : Int), ())))) ((IntKind.u32.wrap r1), ((), ((), ((IntKind.u32.wrap r2), ())))) ins k2 q5 [] f4 (by simp; omega) (fun x hx => by cases hx)
  rw [g1]
  simp only [Option.bind_some]
  rw [wrap_un (k := .u32) rfl (n := r1) a2 (by simp only [IntKind.bits]; omega), wrap_un (k := .u32) rfl (n := r2) b2 (by simp only [IntKind.bits]; omega)]
  refine ⟨_, q6, ins, outs, rfl, ⟨⟨a2, a3⟩, ⟨b2, b3⟩, ?_, d4, ?_, g4⟩, g2⟩
  · show 1 ≤ ins.length ∧ ins.length ≤ 3
    simp at d3; omega
  · show 1 ≤ outs.length ∧ outs.length ≤ 3
    simp at g3; omega
end
end Go.PE
end

section
namespace Go.PE
set_option linter.unusedSimpArgs false
/-- A loop that looks for the first place where p holds. -/
theorem loopV_find {σ ω : Type} {step : σ → Option (σ ⊕ ω)} {v : σ} (f : Nat → σ) (n : Nat) (p : Nat → Bool) {bad : Nat → ω} {good : ω} (hv : v = f 0)
    (hs : ∀ i, i < n → step (f i) = some (bif p i then .inr (bad i) else .inl (f (i + 1)))) (he : step (f n) = some (.inr good)) :
    (∃ i, i < n ∧ p i = true ∧ (∀ j, j < i → p j = false) ∧ loopV step v = some (bad i)) ∨ ((∀ i, i < n → p i = false) ∧ loopV step v = some good) := by
  subst hv
  have key : ∀ k i, i + k = n → (∃ m, i ≤ m ∧ m < n ∧ p m = true ∧ (∀ j, i ≤ j → j < m → p j = false) ∧ loopV step (f i) = some (bad m)) ∨ ((∀ j, i ≤ j → j < n → p j = false) ∧ loopV step (f i) = some good) := by
    intro k
    induction k with
    | zero =>
      intro i hi
      have : i = n := by omega
      subst this
      exact .inr ⟨fun j h1 h2 => by omega, loopV_done he⟩
    | succ k ih =>
      intro i hi
      have h := hs i (by omega)
      cases hp : p i with
      | true =>
        rw [hp] at h
        exact .inl ⟨i, Nat.le_refl i, by omega, hp, fun j h1 h2 => by omega, loopV_done h⟩
      | false =>
        rw [hp] at h
        rw [loopV_next h]
        rcases ih (i + 1) (by omega) with ⟨m, h1, h2, h3, h4, h5⟩ | ⟨h1, h2⟩
        · refine .inl ⟨m, by omega, h2, h3, fun j g1 g2 => ?_, h5⟩
          rcases Nat.lt_or_ge i j with g3 | g3
          · exact h4 j (by omega) g2
          · have : j = i := by omega
            rw [this]; exact hp
        · refine .inr ⟨fun j g1 g2 => ?_, h2⟩
          rcases Nat.lt_or_ge i j with g3 | g3
          · exact h1 j (by omega) g2
          · have : j = i := by omega
            rw [this]; exact hp
  rcases key n 0 (by omega) with ⟨m, h1, h2, h3, h4, h5⟩ | ⟨h1, h2⟩
  · exact .inl ⟨m, h2, h3, fun j h => h4 j (Nat.zero_le j) h, h5⟩
  · exact .inr ⟨fun i h => h1 i (Nat.zero_le i) h, h2⟩
theorem any_rd {t : Ty} {xs : List t.den} {f : t.den → Bool} : xs.any f = true ↔ ∃ i, i < xs.length ∧ f (rd t xs (i : Int)) = true := by
  rw [List.any_eq_true]
  constructor
  · rintro ⟨x, hx, hf⟩
    obtain ⟨i, hi, rfl⟩ := List.mem_iff_getElem.1 hx
    exact ⟨i, hi, by rw [rd_in hi]; exact hf⟩
  · rintro ⟨i, hi, hf⟩
    rw [rd_in hi] at hf
    exact ⟨_, List.getElem_mem hi, hf⟩
/-- A loop that asks whether something holds anywhere. -/
theorem loopV_any {σ ω : Type} {step : σ → Option (σ ⊕ ω)} {v : σ} {t : Ty} (xs : List t.den) (g : t.den → Bool) (f : Nat → σ) {bad good : ω} (hv : v = f 0)
    (hs : ∀ i, i < xs.length → step (f i) = some (bif g (rd t xs (i : Int)) then .inr bad else .inl (f (i + 1)))) (he : step (f xs.length) = some (.inr good)) :
    loopV step v = some (bif xs.any g then bad else good) := by
  rcases loopV_find f xs.length (fun i => g (rd t xs (i : Int))) hv hs he with ⟨i, h1, h2, h3, h4⟩ | ⟨h1, h2⟩
  · rw [h4, show xs.any g = true from any_rd.2 ⟨i, h1, h2⟩]; rfl
  · have : xs.any g = false := by
      cases ha : xs.any g with
      | false => rfl
      | true =>
        obtain ⟨i, g1, g2⟩ := any_rd.1 ha
        rw [h1 i g1] at g2; cases g2
    rw [h2, this]; rfl
end Go.PE
end

section
namespace Go.PE
set_option linter.unusedSimpArgs false
set_option linter.unusedVariables false
/-- The sums of all selections. -/
def subs : List Int → List Int
  | [] => [0]
  | v :: l => subs l ++ (subs l).map (v + ·)
theorem subs_range : ∀ {l : List Int}, Pos l → ∀ u ∈ subs l, 0 ≤ u ∧ u ≤ l.sum := by
  intro l
  induction l with
  | nil => intro _ u hu; simp [subs] at hu; subst hu; simp
  | cons v l ih =>
    intro hp u hu
    have h1 := hp v (by simp)
    have ih := ih (fun x hx => hp x (by simp [hx]))
    simp only [subs, List.mem_append, List.mem_map] at hu
    simp only [List.sum_cons]
    rcases hu with hu | ⟨w, hw, rfl⟩
    · have := ih u hu; omega
    · have := ih w hw; omega
theorem zero_subs : ∀ {l : List Int}, 0 ∈ subs l := by
  intro l
  induction l with
  | nil => simp [subs]
  | cons v l ih => simp [subs, ih]
section
variable {vals : List Int} {T sum : Int} (hb : Bd vals) (hl : vals.length ≤ 16) (hT : 0 ≤ T ∧ T ≤ 33600000000000000) (hsum : T ≤ sum)
include hb hl
/-- The certificate's reader: where it accepts, no sum of what is left is enough and less. -/
theorem certif_ok : ∀ (n : Nat) (tr : List Int) (i : Nat) (s : Int), tr.length < n → i ≤ vals.length → 0 ≤ s → s + (vals.drop i).sum ≤ 33600000000000000 →
    ∃ rest e, fixN selection_check_R n ((tr, (vals, (T, (sum, ((i : Int), (s, ((vals.drop i).sum, ()))))))), ()) = some ((rest, (e, ())), ()) ∧ rest.length ≤ tr.length ∧
      (e = 0 → rest.length < tr.length ∧ ∀ u ∈ subs (vals.drop i), T ≤ s + u → sum ≤ s + u) := by
  intro n
  induction n with
  | zero => intro tr i s h; omega
  | succ n ih =>
    intro tr i s hn hi hs hsr
    show ∃ rest e, selection_check_R (fixN selection_check_R n) _ = _ ∧ _
    generalize fixN selection_check_R n = self at ih ⊢
    unfold selection_check_R
    cases tr with
    | nil => exact ⟨[], 321, rfl, Nat.le_refl _, fun h => by cases h⟩
    | cons c tr =>
      have hlen : ((c :: tr).length : Int) = (tr.length : Int) + 1 := by simp
      have h1 : ¬ ((c :: tr).length : Int) = 0 := by omega
      have h2 : inb 0 (c :: tr).length = true := inb_t (by constructor <;> omega)
      have h3 : (1 : Int) ≤ ((c :: tr).length : Int) := by omega
      have h4 : sub (c :: tr) 1 ((c :: tr).length - 1) = tr := by unfold sub; simp
      have hdp : Pos (vals.drop i) := hb.drop.pos
      simp only [h1, decide_false, cond_false, h2, cond_true, h3, decide_true, h4, Bool.and_self, show decide ((0 : Int) ≤ 1) = true from rfl, Bool.true_and]
      rw [show rd (.int .u8) (c :: tr) 0 = c from rfl]
      have hw : IntKind.i64.wrap (s + (vals.drop i).sum) = s + (vals.drop i).sum := IntWalk.i64_in _ (by have := sum_pos hdp; omega)
      have hJ : selection_check_J1 self T sum s (vals.drop i).sum c ((), ()) = some ((decide (c = 2) && (decide (sum ≤ s) || decide (s + (vals.drop i).sum < T)), ()), ()) := by
        unfold selection_check_J1
        rw [hw]
        by_cases k1 : c = 2
        · by_cases k2 : sum ≤ s
          · simp [k1, k2]
          · simp [k1, k2]
        · simp [k1]
      rw [hJ]
      simp only [Option.bind_some]
      by_cases k1 : c = 2 ∧ (sum ≤ s ∨ s + (vals.drop i).sum < T)
      · have k1' : (decide (c = 2) && (decide (sum ≤ s) || decide (s + (vals.drop i).sum < T))) = true := by simp [k1.1, k1.2]
        rw [k1']
        refine ⟨tr, 0, rfl, by simp, fun _ => ⟨by simp, fun u hu hTu => ?_⟩⟩
        have hur := subs_range hdp u hu
        rcases k1.2 with k2 | k2 <;> omega
      · have k1' : (decide (c = 2) && (decide (sum ≤ s) || decide (s + (vals.drop i).sum < T))) = false := by
          cases hh : (decide (c = 2) && (decide (sum ≤ s) || decide (s + (vals.drop i).sum < T))) with
          | false => rfl
          | true => simp at hh; exact (k1 hh).elim
        rw [k1']
        simp only [cond_false]
        by_cases k2 : c = 1
        · simp only [k2, decide_true, Bool.not_true, cond_false]
          by_cases k3 : (vals.length : Int) ≤ (i : Int)
          · rw [bif_t (decide_eq_true k3)]
            exact ⟨[], 321, rfl, Nat.zero_le _, fun h => by cases h⟩
          · rw [bif_f (decide_eq_false k3)]
            have hil : i < vals.length := by omega
            have hdrop := List.drop_eq_getElem_cons hil
            have hv := hb _ (List.getElem_mem hil)
            have hsumd : (vals.drop i).sum = vals[i] + (vals.drop (i + 1)).sum := by rw [hdrop, List.sum_cons]
            have hdp' : Pos (vals.drop (i + 1)) := hb.drop.pos
            have hnn := sum_pos hdp'
            simp only [inb_nat hil, cond_true, rd_in (t := .int .i64) (xs := vals) hil]
            have e1 : IntKind.i64.wrap ((i : Int) + 1) = ((i + 1 : Nat) : Int) := i64_up hil (Nat.le_trans hl (by decide))
            have e2 : IntKind.i64.wrap (s + vals[i]) = s + vals[i] := IntWalk.i64_in _ (by omega)
            have e3 : IntKind.i64.wrap ((vals.drop i).sum - vals[i]) = (vals.drop (i + 1)).sum := by rw [IntWalk.i64_in _ (by omega)]; omega
            rw [e1, e2, e3]
            have hn' : tr.length < n := by simp at hn; omega
            obtain ⟨r1, x1, f1, f2, f3⟩ := ih tr (i + 1) (s + vals[i]) hn' (by omega) (by omega) (by omega)
            rw [f1]
            simp only [Option.bind_some]
            by_cases k4 : x1 = 0
            · rw [bif_f (by simp [k4])]
              obtain ⟨f4, f5⟩ := f3 k4
              obtain ⟨r2, x2, g1, g2, g3⟩ := ih r1 (i + 1) s (by omega) (by omega) hs (by omega)
              rw [g1]
              refine ⟨r2, x2, rfl, by simp; omega, fun h0 => ?_⟩
              obtain ⟨g4, g5⟩ := g3 h0
              refine ⟨by simp; omega, fun u hu hTu => ?_⟩
              rw [hdrop] at hu
              simp only [subs, List.mem_append, List.mem_map] at hu
              rcases hu with hu | ⟨w, hw2, rfl⟩
              · exact g5 u hu hTu
              · have := f5 w hw2 (by omega); omega
            · rw [bif_t (by simp [k4])]
              exact ⟨[], x1, rfl, Nat.zero_le _, fun h => (k4 h).elim⟩
        · rw [bif_t (by simp [k2])]
          exact ⟨[], 321, rfl, Nat.zero_le _, fun h => by cases h⟩
omit hb hl in
/-- Ascending places from j on: their values' sum is a selection's. -/
theorem places_subs : ∀ (ps : List Nat) (j : Nat), (∀ p ∈ ps, j ≤ p ∧ p < vals.length) → ps.Pairwise (· < ·) → (ps.map fun p => vals.getD p 0).sum ∈ subs (vals.drop j) := by
  intro ps j
  induction hk : vals.length - j generalizing ps j with
  | zero =>
    intro h _
    cases ps with
    | nil => exact zero_subs
    | cons p ps => have := h p (by simp); omega
  | succ k ih =>
    intro h hp
    have hj : j < vals.length := by omega
    rw [List.drop_eq_getElem_cons hj]
    simp only [subs, List.mem_append, List.mem_map]
    cases ps with
    | nil => exact .inl zero_subs
    | cons p ps =>
      have hp' := List.pairwise_cons.1 hp
      by_cases hpj : p = j
      · subst hpj
        right
        refine ⟨(ps.map fun p => vals.getD p 0).sum, ih ps (p + 1) (by omega) (fun q hq => ⟨hp'.1 q hq, (h q (by simp [hq])).2⟩) hp'.2, ?_⟩
        simp [List.getD_eq_getElem?_getD, List.getElem?_eq_getElem hj]
      · left
        refine ih (p :: ps) (j + 1) (by omega) (fun q hq => ?_) hp
        have h0 := h q hq
        rcases List.mem_cons.1 hq with rfl | hq
        · omega
        · have := hp'.1 q hq; have := h p (by simp); omega
/-- What an accepted selection is. -/
theorem Check_ok {P : List Int} {S : Int} {tr : List Int} (hP : P.length ≤ big) (hT1 : 1 ≤ T) (hT2 : T ≤ 2100000000000000) :
    ∃ e, selection_Check vals T (P, (S, ())) tr = some ((e, ()), ()) ∧ (e = 0 → T ≤ S ∧ S ∈ subs vals ∧ ∀ u ∈ subs vals, T ≤ u → S ≤ u) := by
  unfold selection_Check
  have c1 : ¬ (16 : Int) < (vals.length : Int) := by omega
  rw [bif_f (decide_eq_false c1)]
  by_cases c2 : (16384 : Int) < (tr.length : Int)
  · rw [bif_t (decide_eq_true c2)]; exact ⟨4, rfl, fun h => by cases h⟩
  · rw [bif_f (decide_eq_false c2), selection_proper_eq hl]
    simp only [Option.bind_some]
    cases hprop : (vals.all okV && (decide (1 ≤ T) && decide (T ≤ 2100000000000000))) with
    | false => exact ⟨5, rfl, fun h => by cases h⟩
    | true =>
      simp only [Bool.not_true, cond_false]
      -- the places
      have loop : ∀ (k i : Nat) (ps : List Nat), i + k = P.length → P.take i = ps.map (fun (p : Nat) => (p : Int)) → ps.Pairwise (· < ·) → (∀ p ∈ ps, p < vals.length) →
          (∃ e, e ≠ 0 ∧ loopV (selection_Check_L1 vals P (P.length : Int)) (((), ((ps.map fun p => vals.getD p 0).sum, ((i : Int), ()))), ((P, (S, ())), ())) = some (.inl ((e, ()), ()))) ∨
          ∃ qs : List Nat, qs.Pairwise (· < ·) ∧ (∀ p ∈ qs, p < vals.length) ∧ loopV (selection_Check_L1 vals P (P.length : Int)) (((), ((ps.map fun p => vals.getD p 0).sum, ((i : Int), ()))), ((P, (S, ())), ())) = some (.inr (((), ((qs.map fun p => vals.getD p 0).sum, ())), ((P, (S, ())), ()))) := by
        intro k
        induction k with
        | zero =>
          intro i ps hi _ h1 h2
          have : i = P.length := by omega
          subst this
          exact .inr ⟨ps, h1, h2, loopV_done (by simp [selection_Check_L1])⟩
        | succ k ih =>
          intro i ps hi htk h1 h2
          have hil : i < P.length := by omega
          have e0 : (i : Int) < (P.length : Int) := by omega
          have hpl : ps.length = i := by
            have := congrArg List.length htk
            rw [List.length_take, List.length_map] at this; omega
          have hsub := places_subs (vals := vals) ps 0 (fun p hp => ⟨Nat.zero_le _, h2 p hp⟩) h1
          rw [List.drop_zero] at hsub
          have hsr := subs_range hb.pos _ hsub
          have hs16 := hb.sum16 hl
          have bad : selection_Check_J2 vals (i : Int) P[i] (((), ()), ((P, (S, ())), ())) = some (.inl ((6, ()), ())) →
              ∃ e, e ≠ 0 ∧ loopV (selection_Check_L1 vals P (P.length : Int)) (((), ((ps.map fun p => vals.getD p 0).sum, ((i : Int), ()))), ((P, (S, ())), ())) = some (.inl ((e, ()), ())) := by
            intro hJ
            refine ⟨6, by decide, loopV_done ?_⟩
            unfold selection_Check_L1
            simp only [e0, decide_true, cond_true, inb_nat hil, rd_in (t := .int .i64) (xs := P) hil]
            rw [hJ]; rfl
          by_cases k1 : P[i] < 0
          · exact .inl (bad (by unfold selection_Check_J2; rw [bif_t (decide_eq_true k1)]))
          · by_cases k2 : (vals.length : Int) ≤ P[i]
            · exact .inl (bad (by unfold selection_Check_J2; rw [bif_f (decide_eq_false k1), bif_t (decide_eq_true k2)]))
            · obtain ⟨p, hp⟩ := Int.eq_ofNat_of_zero_le (show 0 ≤ P[i] by omega)
              have hpv : p < vals.length := by omega
              -- it is behind the last one
              by_cases k3 : ∀ q ∈ ps, q < p
              · have hJ : selection_Check_J2 vals (i : Int) P[i] (((), ()), ((P, (S, ())), ())) = some (.inr (((), ()), ((P, (S, ())), ()))) := by
                  unfold selection_Check_J2
                  rw [bif_f (decide_eq_false k1), bif_f (decide_eq_false k2)]
                  by_cases k4 : (0 : Int) < (i : Int)
                  · rw [bif_t (decide_eq_true k4)]
                    have e1 : IntKind.i64.wrap ((i : Int) - 1) = ((i - 1 : Nat) : Int) := by
                      rw [(show big = 9223372036854775807 from rfl)] at hP
                      rw [IntWalk.i64_in _ (by omega)]; omega
                    have hi1 : i - 1 < P.length := by omega
                    simp only [e1, inb_nat hi1, cond_true, rd_in (t := .int .i64) (xs := P) hi1]
                    have hq : P[i - 1] = ((ps[i - 1]'(by omega) : Nat) : Int) := by
                      have h5 : (P.take i)[i - 1]? = some P[i - 1] := by rw [List.getElem?_take_of_lt (by omega), List.getElem?_eq_getElem hi1]
                      rw [htk, List.getElem?_map, List.getElem?_eq_getElem (by omega)] at h5
                      simpa using h5.symm
                    have := k3 _ (List.getElem_mem (show i - 1 < ps.length by omega))
                    have h6 : ¬ P[i] ≤ P[i - 1] := by rw [hq, hp]; omega
                    rw [bif_f (decide_eq_false h6)]
                  · rw [bif_f (decide_eq_false k4)]
                have hnext : selection_Check_L1 vals P (P.length : Int) (((), ((ps.map fun p => vals.getD p 0).sum, ((i : Int), ()))), ((P, (S, ())), ())) = some (.inl (((), (((ps ++ [p]).map fun p => vals.getD p 0).sum, (((i + 1 : Nat) : Int), ()))), ((P, (S, ())), ()))) := by
                  unfold selection_Check_L1
                  simp only [e0, decide_true, cond_true, inb_nat hil, rd_in (t := .int .i64) (xs := P) hil]
                  rw [hJ]
                  simp only [Option.bind_some]
                  rw [hp]
                  simp only [inb_nat hpv, cond_true, rd_in (t := .int .i64) (xs := vals) hpv, i64_up hil hP]
                  have hv := hb _ (List.getElem_mem hpv)
                  rw [IntWalk.i64_in _ (by omega), List.map_append, List.sum_append]
                  simp [List.getD_eq_getElem?_getD, List.getElem?_eq_getElem hpv]
                rw [loopV_next hnext]
                refine ih (i + 1) (ps ++ [p]) (by omega) ?_ ?_ (fun q hq => ?_)
                · rw [List.take_succ_eq_append_getElem hil, htk, List.map_append, hp]; rfl
                · rw [List.pairwise_append]
                  exact ⟨h1, by simp, fun a ha b hb' => by simp at hb'; subst hb'; exact k3 a ha⟩
                · rcases List.mem_append.1 hq with hq | hq
                  · exact h2 q hq
                  · simp at hq; omega
              · refine .inl (bad ?_)
                obtain ⟨q, hq1, hq2⟩ : ∃ q, q ∈ ps ∧ p ≤ q := by
                  apply Classical.byContradiction
                  intro hn
                  exact k3 fun q hq => by
                    apply Classical.byContradiction
                    intro hlt
                    exact hn ⟨q, hq, by omega⟩
                have hi0 : 0 < i := by
                  rcases Nat.eq_zero_or_pos i with h0 | h0
                  · rw [h0] at hpl; rw [List.eq_nil_of_length_eq_zero hpl] at hq1; cases hq1
                  · exact h0
                have k4 : (0 : Int) < (i : Int) := by omega
                unfold selection_Check_J2
                rw [bif_f (decide_eq_false k1), bif_f (decide_eq_false k2), bif_t (decide_eq_true k4)]
                have e1 : IntKind.i64.wrap ((i : Int) - 1) = ((i - 1 : Nat) : Int) := by
                  rw [(show big = 9223372036854775807 from rfl)] at hP
                  rw [IntWalk.i64_in _ (by omega)]; omega
                have hi1 : i - 1 < P.length := by omega
                simp only [e1, inb_nat hi1, cond_true, rd_in (t := .int .i64) (xs := P) hi1]
                have hq : P[i - 1] = ((ps[i - 1]'(by omega) : Nat) : Int) := by
                  have h5 : (P.take i)[i - 1]? = some P[i - 1] := by rw [List.getElem?_take_of_lt (by omega), List.getElem?_eq_getElem hi1]
                  rw [htk, List.getElem?_map, List.getElem?_eq_getElem (by omega)] at h5
                  simpa using h5.symm
                have hlast : q ≤ ps[i - 1]'(by omega) := by
                  obtain ⟨m, hm, rfl⟩ := List.mem_iff_getElem.1 hq1
                  rcases Nat.lt_or_ge m (i - 1) with h | h
                  · exact Nat.le_of_lt (List.pairwise_iff_getElem.1 h1 m (i - 1) hm (by omega) h)
                  · have : m = i - 1 := by omega
                    subst this; exact Nat.le_refl _
                have h6 : P[i] ≤ P[i - 1] := by rw [hq, hp]; omega
                rw [bif_t (decide_eq_true h6)]
      have := loop P.length 0 [] (by omega) (by simp) List.Pairwise.nil (fun p hp => by cases hp)
      rw [show (([] : List Nat).map fun p => vals.getD p 0).sum = 0 from rfl, show (((0 : Nat) : Int)) = 0 from rfl] at this
      rcases this with ⟨e, h1, h2⟩ | ⟨qs, h1, h2, h3⟩
      · rw [h2]; exact ⟨e, rfl, fun h => (h1 h).elim⟩
      · rw [h3]
        simp only [Option.bind_some]
        have hsub := places_subs (vals := vals) qs 0 (fun p hp => ⟨Nat.zero_le _, h2 p hp⟩) h1
        rw [List.drop_zero] at hsub
        generalize (qs.map fun p => vals.getD p 0).sum = Q at hsub ⊢
        by_cases k1 : Q = S
        · subst k1
          rw [bif_f (by simp)]
          by_cases k2 : Q < T
          · rw [bif_t (decide_eq_true k2)]; exact ⟨320, rfl, fun h => by cases h⟩
          · rw [bif_f (decide_eq_false k2), selection_total_eq hb hl]
            simp only [Option.bind_some]
            obtain ⟨rest, e, g1, g2, g3⟩ := certif_ok (T := T) (sum := Q) hb hl fuel tr 0 0 (by unfold fuel; omega) (Nat.zero_le _) (Int.le_refl 0) (by have := hb.sum16 hl; simp; omega)
            have g1' : selection_check tr vals T Q 0 0 vals.sum = some ((rest, (e, ())), ()) := g1
            rw [g1']
            simp only [Option.bind_some]
            by_cases k3 : e = 0
            · rw [bif_t (decide_eq_true k3)]
              have gg := g3 k3
              by_cases k4 : (0 : Int) < (rest.length : Int)
              · rw [bif_t (decide_eq_true k4)]; exact ⟨2, rfl, fun h => by cases h⟩
              · rw [bif_f (decide_eq_false k4)]
                refine ⟨e, rfl, fun _ => ⟨by omega, hsub, fun u hu hTu => ?_⟩⟩
                have := gg.2 u hu (by omega); omega
            · rw [bif_f (decide_eq_false k3)]
              exact ⟨e, rfl, fun h => (k3 h).elim⟩
        · rw [bif_t (by simp [k1])]; exact ⟨6, rfl, fun h => by cases h⟩
end
end Go.PE
end

section
namespace Go.PE
set_option linter.unusedSimpArgs false
set_option linter.unusedVariables false
/-- The sum of the values whose bits are set. -/
def maskS (v : List Int) (m : Nat) : Int := ((List.range v.length).map fun i => if m.testBit i then v.getD i 0 else 0).sum
def maskT (v : List Int) (m k : Nat) : Int := ((List.range k).map fun i => if m.testBit i then v.getD i 0 else 0).sum
theorem maskT_up {v : List Int} {m k : Nat} : maskT v m (k + 1) = maskT v m k + (if m.testBit k then v.getD k 0 else 0) := by
  unfold maskT; rw [List.range_succ, List.map_append, List.sum_append]; simp
theorem maskS_cons {x : Int} {v : List Int} {m : Nat} : maskS (x :: v) m = (if m.testBit 0 then x else 0) + maskS v (m / 2) := by
  unfold maskS
  rw [List.length_cons, List.range_succ_eq_map, List.map_cons, List.sum_cons, List.map_map]
  congr 1
  congr 1
  apply List.map_congr_left
  intro i _
  simp only [Function.comp, Nat.testBit_succ, Nat.succ_eq_add_one]
  rfl
theorem maskS_subs : ∀ {v : List Int} {m : Nat}, maskS v m ∈ subs v := by
  intro v
  induction v with
  | nil => intro m; simp [maskS, subs]
  | cons x v ih =>
    intro m
    rw [maskS_cons]
    simp only [subs, List.mem_append, List.mem_map]
    cases m.testBit 0 with
    | false => left; simpa using ih
    | true => right; exact ⟨maskS v (m / 2), ih, by simp⟩
theorem subs_maskS : ∀ {v : List Int} {u : Int}, u ∈ subs v → ∃ m, m < 2 ^ v.length ∧ maskS v m = u := by
  intro v
  induction v with
  | nil => intro u hu; simp [subs] at hu; exact ⟨0, by simp, by simp [maskS, hu]⟩
  | cons x v ih =>
    intro u hu
    simp only [subs, List.mem_append, List.mem_map] at hu
    rcases hu with hu | ⟨w, hw, rfl⟩
    · obtain ⟨m, h1, h2⟩ := ih hu
      refine ⟨2 * m, by rw [List.length_cons, Nat.pow_succ]; omega, ?_⟩
      rw [maskS_cons, show 2 * m / 2 = m by omega, h2]
      have : (2 * m).testBit 0 = false := by simp [Nat.testBit_zero]
      simp [this]
    · obtain ⟨m, h1, h2⟩ := ih hw
      refine ⟨2 * m + 1, by rw [List.length_cons, Nat.pow_succ]; omega, ?_⟩
      rw [maskS_cons, show (2 * m + 1) / 2 = m by omega, h2]
      have : (2 * m + 1).testBit 0 = true := by simp [Nat.testBit_zero]
      simp [this]
theorem bit_i64 {m i : Nat} (hm : m < 2 ^ 62) (hi : i < 64) : decide (bitI .and .i64 (shrI .i64 (m : Int) (IntKind.u64.wrap (i : Int))) 1 = 1) = m.testBit i := by
  have h0 : IntKind.u64.wrap (i : Int) = (i : Int) := wrap_un rfl (by omega) (by simp only [IntKind.bits]; omega)
  rw [h0, shr_un (by omega) (by simp only [IntKind.bits]; omega)]
  rw [Int.toNat_natCast, Int.toNat_natCast]
  have hle : m >>> i ≤ m := by rw [Nat.shiftRight_eq_div_pow]; exact Nat.div_le_self _ _
  have e : ∀ z : Nat, z < 2 ^ 62 → bitI .and .i64 (z : Int) 1 = ((z % 2 : Nat) : Int) := by
    intro z hz
    show IntKind.i64.wrap (BitVec.ofInt 64 (z : Int) &&& BitVec.ofInt 64 1).toNat = _
    have h1 : (BitVec.ofInt 64 (z : Int)).toNat = z := by
      rw [ofInt_nat (Int.natCast_nonneg z) (by omega)]; exact Int.toNat_natCast z
    have h2 : (BitVec.ofInt 64 1).toNat = 1 := rfl
    rw [BitVec.toNat_and, h1, h2, Nat.and_one_is_mod]
    exact IntWalk.i64_in _ (by omega)
  rw [e _ (by omega), Nat.testBit_eq_decide_div_mod_eq, Nat.shiftRight_eq_div_pow]
  have : (((m / 2 ^ i % 2 : Nat) : Int) = 1) ↔ m / 2 ^ i % 2 = 1 := by omega
  exact decide_eq_decide.2 this
section
variable {v : List Int} {T : Int} (hb : Bd v) (hl : v.length ≤ 16) (hT : 1 ≤ T)
include hb hl
omit hl in
theorem maskT_bd {m k : Nat} (hk : k ≤ v.length) : 0 ≤ maskT v m k ∧ maskT v m k ≤ k * 2100000000000000 := by
  induction k with
  | zero => simp [maskT]
  | succ k ih =>
    have := ih (by omega)
    rw [maskT_up]
    have hv := hb _ (List.getElem_mem (show k < v.length by omega))
    have hg : v.getD k 0 = v[k] := by rw [List.getD_eq_getElem?_getD, List.getElem?_eq_getElem (by omega)]; rfl
    rw [hg]
    have : ((k + 1 : Nat) : Int) * 2100000000000000 = k * 2100000000000000 + 2100000000000000 := by push_cast; omega
    split <;> omega
theorem least_L3 {m : Nat} (hm : m < 2 ^ 62) : loopV (law32_least_L3 v (m : Int) (v.length : Int)) (((0 : Int), ((0 : Int), ())), ()) = some ((maskS v m, ()), ()) := by
  refine loopV_ind (fun i => ((maskT v m i, ((i : Int), ())), ())) v.length rfl (fun i hi => ?_) (by simp [law32_least_L3]; rfl)
  have h0 : (i : Int) < (v.length : Int) := by omega
  have hbit := bit_i64 (m := m) (i := i) hm (by omega)
  unfold law32_least_L3
  simp only [h0, decide_true, cond_true, hbit, i64_up hi (Nat.le_trans hl (by decide))]
  have hbd := maskT_bd hb (m := m) (k := i) (by omega)
  have hmul : ((i : Nat) : Int) * 2100000000000000 ≤ 16 * 2100000000000000 := Int.mul_le_mul_of_nonneg_right (by omega) (by omega)
  cases hx : m.testBit i with
  | false =>
    rw [maskT_up, hx]
    simp
  | true =>
    have hv := hb _ (List.getElem_mem hi)
    rw [maskT_up, hx]
    simp only [cond_true, inb_nat hi, rd_in (t := .int .i64) (xs := v) hi, if_true]
    rw [IntWalk.i64_in _ (by omega), List.getD_eq_getElem?_getD, List.getElem?_eq_getElem hi]; rfl
def stepB (T b n : Int) : Int := if T ≤ n then (if b < 0 then n else if n < b then n else b) else b
theorem least_J2 {m : Nat} {b : Int} (hm : m < 2 ^ 62) : law32_least_J2 v T (m : Int) ((b, ()), ()) = some ((stepB T b (maskS v m), ()), ()) := by
  unfold law32_least_J2 stepB
  rw [least_L3 hb hl hm]
  simp only [Option.bind_some]
  by_cases h1 : T ≤ maskS v m
  · rw [bif_t (decide_eq_true h1), if_pos h1]
    by_cases h2 : b < 0
    · rw [bif_t (decide_eq_true h2), if_pos h2]
    · rw [bif_f (decide_eq_false h2), if_neg h2]
      by_cases h3 : maskS v m < b
      · rw [bif_t (decide_eq_true h3), if_pos h3]
      · rw [bif_f (decide_eq_false h3), if_neg h3]
  · rw [bif_f (decide_eq_false h1), if_neg h1]
omit hb hl in
theorem shl_one {n : Nat} (hn : n ≤ 16) : shlI .i64 1 (IntKind.u64.wrap (n : Int)) = ((2 ^ n : Nat) : Int) := by
  have h0 : IntKind.u64.wrap (n : Int) = (n : Int) := wrap_un rfl (by omega) (by simp only [IntKind.bits]; omega)
  rw [h0]
  have : n = 0 ∨ n = 1 ∨ n = 2 ∨ n = 3 ∨ n = 4 ∨ n = 5 ∨ n = 6 ∨ n = 7 ∨ n = 8 ∨ n = 9 ∨ n = 10 ∨ n = 11 ∨ n = 12 ∨ n = 13 ∨ n = 14 ∨ n = 15 ∨ n = 16 := by omega
  rcases this with rfl | rfl | rfl | rfl | rfl | rfl | rfl | rfl | rfl | rfl | rfl | rfl | rfl | rfl | rfl | rfl | rfl <;> rfl
include hT in
/-- What going through all of them finds. -/
theorem law_least : ∃ b, law32_least v T = some ((b, ()), ()) ∧ ((b = -1 ∧ ∀ u ∈ subs v, u < T) ∨ (T ≤ b ∧ b ∈ subs v ∧ ∀ u ∈ subs v, T ≤ u → b ≤ u)) := by
  unfold law32_least
  have hp : v.length ≤ 16 := hl
  have hpow : 2 ^ v.length ≤ 65536 := Nat.le_trans (Nat.pow_le_pow_right (by omega) hl) (by decide)
  have key : ∀ (k m : Nat) (b : Int), m + k = 2 ^ v.length → ((b = -1 ∧ ∀ j, j < m → maskS v j < T) ∨ (T ≤ b ∧ (∃ j, j < m ∧ maskS v j = b) ∧ ∀ j, j < m → T ≤ maskS v j → b ≤ maskS v j)) →
      ∃ b', loopV (law32_least_L1 v T) ((b, ((m : Int), ())), ()) = some ((b', ()), ()) ∧ ((b' = -1 ∧ ∀ j, j < 2 ^ v.length → maskS v j < T) ∨ (T ≤ b' ∧ (∃ j, j < 2 ^ v.length ∧ maskS v j = b') ∧ ∀ j, j < 2 ^ v.length → T ≤ maskS v j → b' ≤ maskS v j)) := by
    intro k
    induction k with
    | zero =>
      intro m b hm hI
      have hm' : m = 2 ^ v.length := by omega
      refine ⟨b, loopV_done ?_, by rw [← hm']; exact hI⟩
      unfold law32_least_L1
      rw [shl_one hl, ← hm']
      simp
    | succ k ih =>
      intro m b hm hI
      have h0 : (m : Int) < ((2 ^ v.length : Nat) : Int) := by omega
      have hstep : law32_least_L1 v T ((b, ((m : Int), ())), ()) = some (.inl ((stepB T b (maskS v m), (((m + 1 : Nat) : Int), ())), ())) := by
        unfold law32_least_L1
        rw [shl_one hl]
        simp only [h0, decide_true, cond_true]
        rw [least_J2 hb hl (by omega)]
        simp only [Option.bind_some]
        rw [IntWalk.i64_in _ (by omega)]; rfl
      rw [loopV_next hstep]
      refine ih (m + 1) _ (by omega) ?_
      unfold stepB
      by_cases h1 : T ≤ maskS v m
      · rw [if_pos h1]
        right
        rcases hI with ⟨hb1, hI⟩ | ⟨hb1, ⟨j0, hj0, hj0'⟩, hI⟩
        · rw [if_pos (by omega)]
          refine ⟨h1, ⟨m, by omega, rfl⟩, fun j hj hTj => ?_⟩
          rcases Nat.lt_or_ge j m with h | h
          · have := hI j h; omega
          · have : j = m := by omega
            subst this; exact Int.le_refl _
        · rw [if_neg (by omega)]
          by_cases h2 : maskS v m < b
          · rw [if_pos h2]
            refine ⟨h1, ⟨m, by omega, rfl⟩, fun j hj hTj => ?_⟩
            rcases Nat.lt_or_ge j m with h | h
            · have := hI j h hTj; omega
            · have : j = m := by omega
              subst this; exact Int.le_refl _
          · rw [if_neg h2]
            refine ⟨hb1, ⟨j0, by omega, hj0'⟩, fun j hj hTj => ?_⟩
            rcases Nat.lt_or_ge j m with h | h
            · exact hI j h hTj
            · have : j = m := by omega
              subst this; omega
      · rw [if_neg h1]
        rcases hI with ⟨hb1, hI⟩ | ⟨hb1, ⟨j0, hj0, hj0'⟩, hI⟩
        · refine .inl ⟨hb1, fun j hj => ?_⟩
          rcases Nat.lt_or_ge j m with h | h
          · exact hI j h
          · have : j = m := by omega
            subst this; omega
        · refine .inr ⟨hb1, ⟨j0, by omega, hj0'⟩, fun j hj hTj => ?_⟩
          rcases Nat.lt_or_ge j m with h | h
          · exact hI j h hTj
          · have : j = m := by omega
            subst this; omega
  obtain ⟨b', h1, h2⟩ := key (2 ^ v.length) 0 (-1) (by omega) (.inl ⟨rfl, fun j hj => by omega⟩)
  rw [show (((0 : Nat) : Int)) = 0 from rfl] at h1
  rw [h1]
  refine ⟨b', rfl, ?_⟩
  rcases h2 with ⟨h3, h4⟩ | ⟨h3, ⟨j, h4, h5⟩, h6⟩
  · refine .inl ⟨h3, fun u hu => ?_⟩
    obtain ⟨m, g1, g2⟩ := subs_maskS hu
    rw [← g2]; exact h4 m g1
  · refine .inr ⟨h3, h5 ▸ maskS_subs, fun u hu hTu => ?_⟩
    obtain ⟨m, g1, g2⟩ := subs_maskS hu
    rw [← g2] at hTu ⊢; exact h6 m g1 hTu
end
/-- The values and the target that are drawn. -/
theorem made_ok {l : List Int} (hl : Deck l) {n : Nat} (hn : n ≤ 100) : ∃ (t : Int) (ys : List Int), law32_made l (n : Int) = some (((), (t, ())), (ys, ())) ∧ 1 ≤ t ∧ t ≤ 60 ∧ ys.length ≤ n ∧ ∀ y ∈ ys, 1 ≤ y ∧ y ≤ 30 := by
  unfold law32_made mill_New
  simp only [Option.bind_some]
  rw [IntWalk.i64_in ((n : Int) + 1) (by omega)]
  obtain ⟨r, q, h1, h2, h3, h4⟩ := hl.next (k := (n : Int) + 1) (by omega) (by omega) (p := 0) (Nat.zero_le _)
  rw [show ((0 : Nat) : Int) = 0 from rfl] at h1
  rw [h1]
  simp only [Option.bind_some]
  have loop : ∀ (k : Nat) (q : Nat) (ys : List Int), q ≤ l.length → ys.length + k ≤ 1000 → (∀ y ∈ ys, 1 ≤ y ∧ y ≤ 30) → ∃ q' : Nat, ∃ ys' : List Int, loopV law32_made_L1 (((), ((), ((k : Int), ()))), ((l, ((q : Int), ())), (ys, ()))) = some (((), ((), ())), ((l, ((q' : Int), ())), (ys', ()))) ∧ q' ≤ l.length ∧ ys'.length = ys.length + k ∧ ∀ y ∈ ys', 1 ≤ y ∧ y ≤ 30 := by
    intro k
    induction k with
    | zero => intro q ys hq _ hy; exact ⟨q, ys, loopV_done (by simp [law32_made_L1]), hq, rfl, hy⟩
    | succ k ih =>
      intro q ys hq hy hyy
      obtain ⟨r, q2, g1, g2, g3, g4⟩ := hl.next (k := 30) (by omega) (by omega) hq
      obtain ⟨q', ys', g5, g6, g7, g8⟩ := ih q2 (ys ++ [1 + r]) g4 (by rw [List.length_append, List.length_singleton]; omega) (fun y h => by
        rcases List.mem_append.1 h with h | h
        · exact hyy y h
        · rw [List.mem_singleton.1 h]; omega)
      refine ⟨q', ys', ?_, g6, by rw [g7, List.length_append, List.length_singleton]; omega, g8⟩
      rw [← g5]
      refine loopV_next ?_
      have e0 : (0 : Int) < ((k + 1 : Nat) : Int) := by omega
      have e1 : IntKind.i64.wrap (((k + 1 : Nat) : Int) - 1) = (k : Int) := by rw [IntWalk.i64_in _ (by omega)]; omega
      have e2 : IntKind.i64.wrap (1 + r) = 1 + r := IntWalk.i64_in _ (by omega)
      have e3 : ys.length + 1 ≤ lim := by unfold lim; omega
      unfold law32_made_L1
      simp only [e0, decide_true, cond_true, g1, Option.bind_some, List.length_singleton, e3, e1, e2]
  obtain ⟨k, rfl⟩ := Int.eq_ofNat_of_zero_le h2
  obtain ⟨q', ys', g5, g6, g7, g8⟩ := loop k q [] h4 (by simp; omega) (fun y h => by cases h)
  rw [g5]
  simp only [Option.bind_some]
  obtain ⟨r2, q2, g9, g10, g11, _⟩ := hl.next (k := 60) (by omega) (by omega) g6
  rw [g9]
  simp only [Option.bind_some]
  rw [IntWalk.i64_in (1 + r2) (by omega)]
  exact ⟨_, _, rfl, by omega, by omega, by simp at g7; omega, g8⟩
end Go.PE
end

section
namespace Go.PE
set_option linter.unusedSimpArgs false
set_option linter.unusedVariables false
theorem trc_len {T L : Int} : ∀ {l : List Int} {s : Int}, (trc T L l s).length + 1 ≤ 2 ^ (l.length + 1) := by
  intro l
  induction l with
  | nil => intro s; simp [trc]
  | cons v l ih =>
    intro s
    have h1 := ih (s := s + v)
    have h2 := ih (s := s)
    have h3 : 2 ^ ((v :: l).length + 1) = 2 * 2 ^ (l.length + 1) := by rw [List.length_cons, Nat.pow_succ, Nat.mul_comm]
    simp only [trc]
    split
    · simp; omega
    · rw [List.length_cons, List.length_append]; omega
theorem best_more (xs : List Int) (T : Int) (hl8 : xs.length ≤ 8) (hb : Bd xs) (hT : 1 ≤ T ∧ T ≤ 2100000000000000) :
    (xs.sum < T ∧ selection_Best xs T = some ((((), ((0 : Int), ())), ((), ((320 : Int), ()))), (([] : List Int), (([] : List Int), ())))) ∨
    ∃ (L : Int) (c : List Int), T ≤ L ∧ L ≤ xs.sum ∧ (∀ p ∈ leaves T xs 0 0 [], L ≤ p.1) ∧ plc xs 0 L = some c ∧ c.length ≤ 16 ∧ Inv T L xs 0 ∧ (trc T L xs 0).length ≤ 511 ∧
      selection_Best xs T = some ((((), (L, ())), ((), ((0 : Int), ()))), (c, (trc T L xs 0, ()))) := by
  have hl : xs.length ≤ 16 := by omega
  have h16 : ¬ (16 : Int) < (xs.length : Int) := by omega
  have hok : (xs.all okV && (decide (1 ≤ T) && decide (T ≤ 2100000000000000))) = true := by
    have : xs.all okV = true := List.all_eq_true.2 fun x hx => by
      have := hb x hx
      simp only [okV, Bool.and_eq_true, Bool.not_eq_true', decide_eq_false_iff_not]
      omega
    simp [this, hT.1, hT.2]
  have hsum := hb.sum16 hl
  have e1 : selection_fault xs T = some ((if xs.sum < T then 320 else 0, ()), ()) := by
    unfold selection_fault
    rw [selection_proper_eq hl, hok, selection_total_eq hb hl]
    simp only [h16, decide_false, cond_false, Option.bind_some, Bool.not_true]
    by_cases h : xs.sum < T <;> simp [h]
  by_cases hlow : xs.sum < T
  · refine .inl ⟨hlow, ?_⟩
    unfold selection_Best
    rw [e1, if_pos hlow]; rfl
  · -- the least sum
    have hne : leaves T xs 0 0 [] ≠ [] := leaves_some (by omega)
    obtain ⟨L, hL⟩ : ∃ L, L = lst xs.sum (leaves T xs 0 0 []) := ⟨_, rfl⟩
    have hall : ∀ p ∈ leaves T xs 0 0 [], L ≤ p.1 := by rw [hL]; exact (lst_le (ps := leaves T xs 0 0 []) (b := xs.sum)).2
    have hex : ∃ p ∈ leaves T xs 0 0 [], p.1 = L := by
      rcases lst_mem (ps := leaves T xs 0 0 []) (b := xs.sum) with h | ⟨p, hp, h⟩
      · obtain ⟨p, hp⟩ := List.exists_mem_of_ne_nil _ hne
        refine ⟨p, hp, ?_⟩
        have h1 := hall p hp
        have h2 := (leaves_range hb.pos p hp).2.2
        rw [← hL] at h; omega
      · exact ⟨p, hp, by rw [hL, h]⟩
    obtain ⟨c, hc, hsr⟩ := srch_first (st := ((0, false, []) : Sta)) hall (by simp) hex
    have hTL : T ≤ L := by obtain ⟨p, hp, e⟩ := hex; have := (leaves_range hb.pos p hp).1; omega
    have hLs : L ≤ xs.sum := by rw [hL]; exact (lst_le (ps := leaves T xs 0 0 []) (b := xs.sum)).1
    have hpl := plc_first hTL (ch := []) hb.pos hall
    rw [hc, Int.sub_zero] at hpl
    have hplc : plc xs 0 L = some c := by
      cases hq : plc xs 0 L with
      | none => rw [hq] at hpl; cases hpl
      | some q => rw [hq] at hpl; simp at hpl; rw [hpl]
    have hcl : c.length ≤ 16 := Nat.le_trans (plc_len hplc) hl
    have hinv : Inv T L xs 0 := by
      intro x hx
      rw [← leaves_sms (i := 0) (ch := [])] at hx
      obtain ⟨p, hp, rfl⟩ := List.mem_map.1 hx
      exact hall p hp
    have hfu : xs.length + 1 ≤ fuel := by unfold fuel; omega
    have d0 : xs.drop 0 = xs := List.drop_zero
    have w1 := look_eq (T := T) hb hl xs 0 fuel 0 0 false [] [] d0 hfu (by omega) (by omega) (by simp) (by omega)
    have w2 := certify_eq (T := T) (L := L) hb hl xs 0 fuel 0 [] d0 hfu (by omega) (by omega) (by omega) hinv (by simp)
    rw [show ((0 : Nat) : Int) = 0 from rfl] at w1 w2
    have hs1 : srch T xs 0 0 [] (0, false, []) = (L, true, c) := hsr
    rw [hs1] at w1
    have f1 : selection_Best xs T = (if 16384 < (certP T L xs 0 []).length then some ((((), ((0 : Int), ())), ((), ((4 : Int), ()))), (([] : List Int), (([] : List Int), ()))) else some ((((), (L, ())), ((), ((0 : Int), ()))), (c, (certP T L xs 0 [], ())))) := by
      unfold selection_Best selection_search_look selection_certify
      rw [e1, if_neg hlow, selection_total_eq hb hl]
      simp only [Option.bind_some, decide_true, Bool.not_true, cond_false]
      rw [w1]
      simp only [Option.bind_some]
      rw [w2]
      simp only [Option.bind_some]
      by_cases h : 16384 < (certP T L xs 0 []).length
      · have h' : (16384 : Int) < ((certP T L xs 0 []).length : Int) := by omega
        rw [if_pos h, decide_eq_true h']; rfl
      · have h' : ¬ (16384 : Int) < ((certP T L xs 0 []).length : Int) := by omega
        rw [if_neg h, decide_eq_false h']; rfl
    have hlen : (trc T L xs 0).length ≤ 511 := by
      have := trc_len (T := T) (L := L) (l := xs) (s := 0)
      have h2 : 2 ^ (xs.length + 1) ≤ 2 ^ 9 := Nat.pow_le_pow_right (by omega) (by omega)
      omega
    obtain ⟨g1, g2⟩ := cert_same (T := T) (L := L) (l := xs) (s := 0) (t := []) (by simp; omega)
    rw [g1, if_neg (by simp; omega)] at f1
    exact .inr ⟨L, c, hTL, hLs, hall, hplc, hcl, hinv, hlen, f1⟩

/-- The places chosen ascend, and their values are the sum. -/
theorem plc_ok : ∀ {l : List Int} {xs : List Int} {i : Nat} {left : Int} {c : List Int}, xs.drop i = l → plc l i left = some c →
    ∃ ps : List Nat, c = ps.map (fun (p : Nat) => (p : Int)) ∧ (∀ p ∈ ps, i ≤ p ∧ p < xs.length) ∧ ps.Pairwise (· < ·) ∧ (ps.map fun p => xs.getD p 0).sum = left := by
  intro l
  induction l with
  | nil =>
    intro xs i left c hd h
    unfold plc at h
    by_cases h0 : left = 0
    · rw [if_pos h0] at h; cases h; exact ⟨[], rfl, by simp, .nil, by simp [h0]⟩
    · rw [if_neg h0] at h; cases h
  | cons v l ih =>
    intro xs i left c hd h
    unfold plc at h
    by_cases h0 : left = 0
    · rw [if_pos h0] at h; cases h; exact ⟨[], rfl, by simp, .nil, by simp [h0]⟩
    rw [if_neg h0] at h
    simp only [] at h
    by_cases h1 : left < 0
    · rw [if_pos h1] at h; cases h
    rw [if_neg h1] at h
    by_cases h2 : (v :: l).sum < left
    · rw [if_pos h2] at h; cases h
    rw [if_neg h2] at h
    have hi : i < xs.length := by
      apply Classical.byContradiction
      intro hn
      rw [List.drop_eq_nil_of_le (by omega)] at hd; cases hd
    rw [List.drop_eq_getElem_cons hi] at hd
    injection hd with hd1 hd2
    cases hq : plc l (i + 1) (left - v) with
    | some r =>
      rw [hq] at h
      cases h
      obtain ⟨ps, g1, g2, g3, g4⟩ := ih hd2 hq
      refine ⟨i :: ps, by rw [g1]; rfl, fun p hp => ?_, ?_, ?_⟩
      · rcases List.mem_cons.1 hp with rfl | hp
        · exact ⟨Nat.le_refl _, hi⟩
        · have := g2 p hp; omega
      · exact List.pairwise_cons.2 ⟨fun p hp => by have := g2 p hp; omega, g3⟩
      · rw [List.map_cons, List.sum_cons, g4, List.getD_eq_getElem?_getD, List.getElem?_eq_getElem hi, Option.getD_some, hd1]; omega
    | none =>
      rw [hq] at h
      obtain ⟨ps, g1, g2, g3, g4⟩ := ih hd2 h
      exact ⟨ps, g1, fun p hp => by have := g2 p hp; omega, g3, g4⟩
/-- Each sum that is enough lies at or above a leaf. -/
theorem leaf_below {T : Int} : ∀ {l : List Int} {i : Nat} {s : Int} {ch : List Int}, Pos l → ∀ u ∈ subs l, T ≤ s + u → ∃ p ∈ leaves T l i s ch, p.1 ≤ s + u := by
  intro l
  induction l with
  | nil =>
    intro i s ch _ u hu hT
    simp [subs] at hu
    subst hu
    refine ⟨(s, ch), ?_, by simp⟩
    rw [leaves_enough (by omega)]; simp
  | cons v l ih =>
    intro i s ch hp u hu hT
    have hr := subs_range hp u hu
    by_cases h1 : T ≤ s
    · exact ⟨(s, ch), by rw [leaves_enough h1]; simp, by simp only; omega⟩
    · have h2 : ¬ s + (v :: l).sum < T := by omega
      have e5 : leaves T (v :: l) i s ch = leaves T l (i + 1) (s + v) (ch ++ [(i : Int)]) ++ leaves T l (i + 1) s ch := by simp only [leaves]; rw [if_neg h1, if_neg h2]
      have hp' : Pos l := fun x hx => hp x (by simp [hx])
      simp only [subs, List.mem_append, List.mem_map] at hu
      rw [e5]
      rcases hu with hu | ⟨w, hw, rfl⟩
      · obtain ⟨p, g1, g2⟩ := ih (i := i + 1) (s := s) (ch := ch) hp' u hu hT
        exact ⟨p, List.mem_append.2 (.inr g1), g2⟩
      · obtain ⟨p, g1, g2⟩ := ih (i := i + 1) (s := s + v) (ch := ch ++ [(i : Int)]) hp' w hw (by omega)
        exact ⟨p, List.mem_append.2 (.inl g1), by omega⟩
/-- The reader accepts the certificate. -/
theorem trc_accept {vals : List Int} {T L : Int} (hb : Bd vals) (hl : vals.length ≤ 16) : ∀ (l : List Int) (i n : Nat) (s : Int) (rest : List Int), vals.drop i = l → (trc T L l s ++ rest).length < n → i ≤ vals.length → 0 ≤ s → s + l.sum ≤ 33600000000000000 → Inv T L l s →
    fixN selection_check_R n (((trc T L l s ++ rest), (vals, (T, (L, ((i : Int), (s, (l.sum, ()))))))), ()) = some ((rest, ((0 : Int), ())), ()) := by
  intro l
  have leaf : ∀ (self) (i : Nat) (s r : Int) (rest : List Int), IntKind.i64.wrap (s + r) = s + r → (L ≤ s ∨ s + r < T) →
      selection_check_R self ((([2] ++ rest), (vals, (T, (L, ((i : Int), (s, (r, ()))))))), ()) = some ((rest, ((0 : Int), ())), ()) := by
    intro self i s r rest hw h
    unfold selection_check_R
    have h1 : ¬ ((([2] : List Int) ++ rest).length : Int) = 0 := by simp; omega
    have h2 : inb 0 (([2] : List Int) ++ rest).length = true := inb_t (by constructor <;> simp <;> omega)
    have h3 : (1 : Int) ≤ ((([2] : List Int) ++ rest).length : Int) := by simp; omega
    have h4 : sub (([2] : List Int) ++ rest) 1 ((([2] : List Int) ++ rest).length - 1) = rest := by unfold sub; simp
    simp only [h1, decide_false, cond_false, h2, cond_true, h3, decide_true, h4, Bool.and_self, show decide ((0 : Int) ≤ 1) = true from rfl, Bool.true_and]
    rw [show rd (.int .u8) (([2] : List Int) ++ rest) 0 = 2 from rfl]
    have hJ : selection_check_J1 self T L s r 2 ((), ()) = some ((true, ()), ()) := by
      unfold selection_check_J1
      rw [hw, bif_t (by decide)]
      by_cases k : L ≤ s
      · rw [bif_t (decide_eq_true k)]
      · rw [bif_f (decide_eq_false k), decide_eq_true (show s + r < T by omega)]
    rw [hJ]
    rfl
  induction l with
  | nil =>
    intro i n s rest hd hn hi hs hr hinv
    obtain ⟨n, rfl⟩ : ∃ k, n = k + 1 := ⟨n - 1, by omega⟩
    show selection_check_R (fixN selection_check_R n) _ = _
    simp only [List.sum_nil] at hr
    refine leaf _ i s _ rest (by rw [IntWalk.i64_in _ (by simp; omega)]) ?_
    by_cases h : T ≤ s
    · exact .inl (inv_leaf hinv h)
    · right; simp; omega
  | cons v l ih =>
    intro i n s rest hd hn hi hs hr hinv
    obtain ⟨n, rfl⟩ : ∃ k, n = k + 1 := ⟨n - 1, by omega⟩
    have hil : i < vals.length := by
      apply Classical.byContradiction
      intro h
      rw [List.drop_eq_nil_of_le (by omega)] at hd; cases hd
    have hbl : Bd (v :: l) := hd ▸ hb.drop
    have hv := hbl v (by simp)
    have hbl' : Bd l := fun x hx => hbl x (by simp [hx])
    have hnn := sum_pos hbl'.pos
    have hsc : (v :: l).sum = v + l.sum := List.sum_cons
    have hd2 := hd
    rw [List.drop_eq_getElem_cons hil] at hd2
    injection hd2 with hd3 hd4
    show selection_check_R (fixN selection_check_R n) _ = _
    by_cases he : L ≤ s ∨ s + (v :: l).sum < T
    · simp only [trc]
      rw [if_pos he]
      exact leaf _ i s _ rest (IntWalk.i64_in _ (by omega)) he
    · have hT : ¬ T ≤ s := fun h => he (.inl (inv_leaf hinv h))
      obtain ⟨v1, v2⟩ := inv_cons hinv hT (fun h => he (.inr h))
      simp only [trc] at hn ⊢
      rw [if_neg he] at hn ⊢
      simp only [List.cons_append, List.append_assoc, List.length_cons, List.length_append] at hn ⊢
      generalize hA : trc T L l (s + v) = A at hn ⊢
      generalize hB : trc T L l s = B at hn ⊢
      have i1 := ih (i + 1) n (s + v) (B ++ rest) hd4 (by rw [hA]; simp; omega) (by omega) (by omega) (by omega) v1
      have i2 := ih (i + 1) n s rest hd4 (by rw [hB]; simp; omega) (by omega) hs (by omega) v2
      rw [hA] at i1
      rw [hB] at i2
      generalize fixN selection_check_R n = self at i1 i2 ⊢
      unfold selection_check_R
      have h1 : ¬ ((1 :: (A ++ (B ++ rest))).length : Int) = 0 := by simp; omega
      have h2 : inb 0 (1 :: (A ++ (B ++ rest)) : List Int).length = true := inb_t (by constructor <;> simp <;> omega)
      have h3 : (1 : Int) ≤ ((1 :: (A ++ (B ++ rest))).length : Int) := by simp; omega
      have h4 : sub (1 :: (A ++ (B ++ rest)) : List Int) 1 ((1 :: (A ++ (B ++ rest)) : List Int).length - 1) = A ++ (B ++ rest) := by
        unfold sub
        rw [List.drop_succ_cons, List.drop_zero]
        exact List.take_of_length_le (by simp)
      simp only [h1, decide_false, cond_false, h2, cond_true, h3, decide_true, h4, Bool.and_self, show decide ((0 : Int) ≤ 1) = true from rfl, Bool.true_and]
      rw [show rd (.int .u8) (1 :: (A ++ (B ++ rest)) : List Int) 0 = 1 from rfl]
      have hJ : selection_check_J1 self T L s (v :: l).sum 1 ((), ()) = some ((false, ()), ()) := by
        unfold selection_check_J1
        rw [bif_f (by decide)]
      rw [hJ]
      simp only [Option.bind_some, cond_false]
      rw [bif_f (by decide), bif_f (decide_eq_false (by omega)), bif_t (inb_nat hil), rd_in (t := .int .i64) (xs := vals) hil]
      have e1 : IntKind.i64.wrap ((i : Int) + 1) = ((i + 1 : Nat) : Int) := i64_up hil (Nat.le_trans hl (by decide))
      have e2 : IntKind.i64.wrap (s + vals[i]) = s + v := by rw [hd3]; exact IntWalk.i64_in _ (by omega)
      have e3 : IntKind.i64.wrap ((v :: l).sum - vals[i]) = l.sum := by rw [hd3, IntWalk.i64_in _ (by omega)]; omega
      rw [e1, e2, e3, i1]
      simp only [Option.bind_some]
      rw [bif_f (by simp), i2]
      rfl
/-- The whole check of what Best finds. -/
theorem check_accept {vals : List Int} {T L : Int} (hb : Bd vals) (hl : vals.length ≤ 16) (hT : 1 ≤ T ∧ T ≤ 2100000000000000) (hTL : T ≤ L) {c : List Int} (hp : plc vals 0 L = some c) (hc : c.length ≤ 16) (hinv : Inv T L vals 0) (ht : (trc T L vals 0).length ≤ 511) :
    selection_Check vals T (c, (L, ())) (trc T L vals 0) = some ((0, ()), ()) := by
  have hok : (vals.all okV && (decide (1 ≤ T) && decide (T ≤ 2100000000000000))) = true := by
    have : vals.all okV = true := List.all_eq_true.2 fun x hx => by
      have := hb x hx
      simp only [okV, Bool.and_eq_true, Bool.not_eq_true', decide_eq_false_iff_not]
      omega
    simp [this, hT.1, hT.2]
  obtain ⟨ps, rfl, hps, hpw, hsum⟩ := plc_ok (i := 0) (List.drop_zero) hp
  rw [List.length_map] at hc
  have hs16 := hb.sum16 hl
  have loop : loopV (selection_Check_L1 vals (ps.map fun (p : Nat) => (p : Int)) ((ps.map fun (p : Nat) => (p : Int)).length : Int)) (((), ((0 : Int), ((0 : Int), ()))), ((ps.map fun (p : Nat) => (p : Int), (L, ())), ())) = some (.inr (((), (L, ())), ((ps.map fun (p : Nat) => (p : Int), (L, ())), ()))) := by
    refine loopV_ind (fun i => (((), (((ps.take i).map fun p => vals.getD p 0).sum, ((i : Int), ()))), ((ps.map fun (p : Nat) => (p : Int), (L, ())), ()))) ps.length (by simp) ?_ ?_
    · intro i hi
      have hil : i < (ps.map fun (p : Nat) => (p : Int)).length := by simpa using hi
      have hpv := (hps ps[i] (List.getElem_mem hi)).2
      have eP : (ps.map fun (p : Nat) => (p : Int))[i] = ((ps[i] : Nat) : Int) := List.getElem_map ..
      simp only [selection_Check_L1]
      rw [bif_t (decide_eq_true (by omega)), bif_t (inb_nat hil), rd_in (t := .int .i64) (xs := ps.map fun (p : Nat) => (p : Int)) hil, eP]
      have hJ : selection_Check_J2 vals (i : Int) ((ps[i] : Nat) : Int) (((), ()), ((ps.map fun (p : Nat) => (p : Int), (L, ())), ())) = some (.inr (((), ()), ((ps.map fun (p : Nat) => (p : Int), (L, ())), ()))) := by
        unfold selection_Check_J2
        rw [bif_f (decide_eq_false (by omega)), bif_f (decide_eq_false (by omega))]
        by_cases k4 : (0 : Int) < (i : Int)
        · rw [bif_t (decide_eq_true k4)]
          have e1 : IntKind.i64.wrap ((i : Int) - 1) = ((i - 1 : Nat) : Int) := by rw [IntWalk.i64_in _ (by omega)]; omega
          have hi1 : i - 1 < (ps.map fun (p : Nat) => (p : Int)).length := by omega
          have eQ : (ps.map fun (p : Nat) => (p : Int))[i - 1] = ((ps[i - 1]'(by omega) : Nat) : Int) := List.getElem_map ..
          have hlt := List.pairwise_iff_getElem.1 hpw (i - 1) i (by omega) hi (by omega)
          simp only [e1, inb_nat hi1, cond_true, rd_in (t := .int .i64) (xs := ps.map fun (p : Nat) => (p : Int)) hi1, eQ]
          rw [bif_f (decide_eq_false (by omega))]
        · rw [bif_f (decide_eq_false k4)]
      rw [hJ]
      simp only [Option.bind_some]
      have hsub := places_subs (vals := vals) (ps.take i) 0 (fun p hp => hps p (List.mem_of_mem_take hp)) (hpw.sublist (List.take_sublist i ps))
      rw [List.drop_zero] at hsub
      have hsr := subs_range hb.pos _ hsub
      have hv := hb _ (List.getElem_mem hpv)
      rw [bif_t (inb_nat hpv), rd_in (t := .int .i64) (xs := vals) hpv, IntWalk.i64_in _ (by omega), IntWalk.i64_in _ (by omega), List.take_succ_eq_append_getElem hi, List.map_append, List.sum_append]
      simp [List.getD_eq_getElem?_getD, List.getElem?_eq_getElem hpv]
    · simp only [selection_Check_L1]
      rw [bif_f (by simp), List.take_length, hsum]
  unfold selection_Check
  rw [bif_f (decide_eq_false (by omega)), bif_f (decide_eq_false (by omega)), selection_proper_eq hl, hok]
  simp only [Option.bind_some]
  rw [bif_f (by rfl), loop]
  simp only [Option.bind_some]
  rw [bif_f (by simp), bif_f (decide_eq_false (by omega)), selection_total_eq hb hl]
  simp only [Option.bind_some]
  have ha := trc_accept (T := T) (L := L) hb hl vals 0 fuel 0 [] List.drop_zero (by unfold fuel; simp; omega) (Nat.zero_le _) (Int.le_refl 0) (by omega) hinv
  rw [List.append_nil] at ha
  have ha' : selection_check (trc T L vals 0) vals T L 0 0 vals.sum = some (([], (0, ())), ()) := ha
  rw [ha']
  rfl
end Go.PE
end

section
namespace Go.PE
set_option linter.unusedSimpArgs false
set_option maxRecDepth 100000
/-- How many bits a number has. -/
def bl (n : Nat) : Nat := if n = 0 then 0 else n.log2 + 1
theorem bl_le {n k : Nat} : bl n ≤ k ↔ n < 2 ^ k := by
  unfold bl
  by_cases h : n = 0
  · simp [h, Nat.two_pow_pos]
  · rw [if_neg h, Nat.succ_le_iff, Nat.log2_lt h]
theorem bl_mono {m n : Nat} (h : m ≤ n) : bl m ≤ bl n := bl_le.2 (Nat.lt_of_le_of_lt h (bl_le.1 (Nat.le_refl _)))
theorem bl_half {n : Nat} (h : 0 < n) : bl n = bl (n / 2) + 1 := by
  apply Nat.le_antisymm
  · rw [bl_le, Nat.pow_succ]
    have := bl_le.1 (Nat.le_refl (bl (n / 2)))
    omega
  · have h1 : bl n ≠ 0 := by unfold bl; rw [if_neg (by omega)]; omega
    obtain ⟨k, hk⟩ : ∃ k, bl n = k + 1 := ⟨bl n - 1, by omega⟩
    rw [hk, Nat.add_le_add_iff_right, bl_le]
    have := bl_le.1 (Nat.le_of_eq hk)
    rw [Nat.pow_succ] at this
    omega
theorem bl_shift {n : Nat} (k : Nat) (h : 2 ^ k ≤ n) : bl n = bl (n / 2 ^ k) + k := by
  induction k generalizing n with
  | zero => simp
  | succ k ih =>
    rw [Nat.pow_succ] at h
    have hp := Nat.two_pow_pos k
    have e : n / 2 ^ k / 2 = n / 2 ^ (k + 1) := by rw [Nat.div_div_eq_div_mul]; rfl
    rw [ih (by omega), bl_half (n := n / 2 ^ k) (Nat.div_pos (by omega) hp), e]; omega
theorem len8_tab : ∀ i, i < 256 → S_0d66ef[i]? = some (bl i : Int) := by decide +kernel
theorem math_bits_Len64_eq {n : Nat} (h : n < 2 ^ 64) : math_bits_Len64 (n : Int) = some (((bl n : Int), ()), ()) := by
  unfold math_bits_Len64
  have e1 : ∃ m : Nat, ∃ a : Nat, math_bits_Len64_J1 (((n : Int), ((0 : Int), ())), ()) = some (((m : Int), ((a : Int), ())), ()) ∧ m < 2 ^ 32 ∧ a ≤ 32 ∧ bl n = bl m + a := by
    unfold math_bits_Len64_J1
    by_cases hc : (4294967296 : Int) ≤ n
    · refine ⟨n / 2 ^ 32, 32, ?_, by omega, by omega, bl_shift 32 (by omega)⟩
      simp only [hc, decide_true, cond_true]
      rw [shr_un (by omega) (by simp [IntKind.bits]; omega)]
      simp [Nat.shiftRight_eq_div_pow]
    · exact ⟨n, 0, by simp [hc], by omega, by omega, rfl⟩
  obtain ⟨m1, a1, r1, b1, c1, d1⟩ := e1
  rw [r1]
  simp only [Option.bind_some]
  have e2 : ∃ m : Nat, ∃ a : Nat, math_bits_Len64_J2 (((m1 : Int), ((a1 : Int), ())), ()) = some (((m : Int), ((a : Int), ())), ()) ∧ m < 2 ^ 16 ∧ a ≤ 48 ∧ bl n = bl m + a := by
    unfold math_bits_Len64_J2
    by_cases hc : (65536 : Int) ≤ m1
    · refine ⟨m1 / 2 ^ 16, a1 + 16, ?_, by omega, by omega, by rw [d1, bl_shift 16 (n := m1) (by omega)]; omega⟩
      simp only [hc, decide_true, cond_true]
      rw [shr_un (by omega) (by simp [IntKind.bits]; omega), IntWalk.i64_in _ (by omega)]
      simp [Nat.shiftRight_eq_div_pow]
    · exact ⟨m1, a1, by simp [hc], by omega, by omega, d1⟩
  obtain ⟨m2, a2, r2, b2, c2, d2⟩ := e2
  rw [r2]
  simp only [Option.bind_some]
  have e3 : ∃ m : Nat, ∃ a : Nat, math_bits_Len64_J3 (((m2 : Int), ((a2 : Int), ())), ()) = some (((m : Int), ((a : Int), ())), ()) ∧ m < 2 ^ 8 ∧ a ≤ 56 ∧ bl n = bl m + a := by
    unfold math_bits_Len64_J3
    by_cases hc : (256 : Int) ≤ m2
    · refine ⟨m2 / 2 ^ 8, a2 + 8, ?_, by omega, by omega, by rw [d2, bl_shift 8 (n := m2) (by omega)]; omega⟩
      simp only [hc, decide_true, cond_true]
      rw [shr_un (by omega) (by simp [IntKind.bits]; omega), IntWalk.i64_in _ (by omega)]
      simp [Nat.shiftRight_eq_div_pow]
    · exact ⟨m2, a2, by simp [hc], by omega, by omega, d2⟩
  obtain ⟨m3, a3, r3, b3, c3, d3⟩ := e3
  rw [r3]
  simp only [Option.bind_some]
  rw [wrap_un rfl (by omega) (by simp [IntKind.bits]; omega)]
  have hl : S_0d66ef.length = 256 := by decide +kernel
  have hb := bl_le.2 b3
  rw [hl, inb_nat b3, cond_true, rd_nat, List.getD_eq_getElem?_getD, len8_tab m3 b3, Option.getD_some, IntWalk.i64_in (bl m3) (by omega), IntWalk.i64_in _ (by omega), d3]
  simp [Int.add_comm]
end Go.PE
end

section
namespace Go.PE
set_option linter.unusedSimpArgs false
set_option linter.unusedVariables false
/-- l' is l with places of [a, b) changed round. -/
structure Sw (a b : Nat) (l l' : List Int) : Prop where
  perm : l'.Perm l
  out : ∀ i, ¬ (a ≤ i ∧ i < b) → l'.getD i 0 = l.getD i 0
  inn : ∀ i, a ≤ i → i < b → ∃ j, a ≤ j ∧ j < b ∧ l'.getD i 0 = l.getD j 0
def SrtOn (a b : Nat) (l : List Int) : Prop := ∀ i j, a ≤ i → i < j → j < b → l.getD i 0 ≤ l.getD j 0
def sw (l : List Int) (i j : Nat) : List Int := (l.set i (l.getD j 0)).set j (l.getD i 0)
theorem getD_set {l : List Int} {i k : Nat} {x : Int} (h : i < l.length) : (l.set i x).getD k 0 = if k = i then x else l.getD k 0 := by
  rw [List.getD_eq_getElem?_getD, List.getElem?_set]
  by_cases h2 : k = i
  · rw [if_pos h2.symm, if_pos h2, if_pos (by omega)]; rfl
  · rw [if_neg (fun h3 => h2 h3.symm), if_neg h2, ← List.getD_eq_getElem?_getD]
theorem sw_length {l : List Int} {i j : Nat} : (sw l i j).length = l.length := by simp [sw]
theorem getD_sw {l : List Int} {i j k : Nat} (hi : i < l.length) (hj : j < l.length) : (sw l i j).getD k 0 = if k = j then l.getD i 0 else if k = i then l.getD j 0 else l.getD k 0 := by
  unfold sw
  rw [getD_set (by simpa using hj), getD_set hi]
theorem Sw.refl {a b : Nat} {l : List Int} : Sw a b l l := ⟨.refl _, fun _ _ => rfl, fun i h1 h2 => ⟨i, h1, h2, rfl⟩⟩
theorem Sw.trans {a b : Nat} {l m n : List Int} (h : Sw a b l m) (g : Sw a b m n) : Sw a b l n :=
  ⟨g.perm.trans h.perm, fun i hi => (g.out i hi).trans (h.out i hi), fun i h1 h2 => by
    obtain ⟨j, j1, j2, j3⟩ := g.inn i h1 h2
    obtain ⟨k, k1, k2, k3⟩ := h.inn j j1 j2
    exact ⟨k, k1, k2, j3.trans k3⟩⟩
theorem Sw.mono {a b c d : Nat} {l m : List Int} (h : Sw a b l m) (h1 : c ≤ a) (h2 : b ≤ d) : Sw c d l m :=
  ⟨h.perm, fun i hi => h.out i (by omega), fun i i1 i2 => by
    by_cases hi : a ≤ i ∧ i < b
    · obtain ⟨j, j1, j2, j3⟩ := h.inn i hi.1 hi.2
      exact ⟨j, by omega, by omega, j3⟩
    · exact ⟨i, i1, i2, h.out i hi⟩⟩
theorem Sw.length {a b : Nat} {l m : List Int} (h : Sw a b l m) : m.length = l.length := h.perm.length_eq
theorem Sw.sw {a b i j : Nat} {l : List Int} (hi : i < l.length) (hj : j < l.length) (h1 : a ≤ i) (h2 : i < b) (h3 : a ≤ j) (h4 : j < b) : Sw a b l (sw l i j) := by
  refine ⟨?_, fun k hk => ?_, fun k k1 k2 => ?_⟩
  · have e1 : l.getD j 0 = l[j] := by rw [List.getD_eq_getElem?_getD, List.getElem?_eq_getElem hj]; rfl
    have e2 : l.getD i 0 = l[i] := by rw [List.getD_eq_getElem?_getD, List.getElem?_eq_getElem hi]; rfl
    unfold Go.PE.sw
    rw [e1, e2]
    exact List.set_set_perm hi hj
  · rw [getD_sw hi hj, if_neg (by omega), if_neg (by omega)]
  · rw [getD_sw hi hj]
    by_cases c1 : k = j
    · exact ⟨i, h1, h2, by rw [if_pos c1]⟩
    · rw [if_neg c1]
      by_cases c2 : k = i
      · exact ⟨j, h3, h4, by rw [if_pos c2]⟩
      · exact ⟨k, k1, k2, by rw [if_neg c2]⟩
theorem get_some {l : List Int} {i : Nat} (h : i < l.length) : l[i]? = some (l.getD i 0) := by
  rw [List.getD_eq_getElem?_getD, List.getElem?_eq_getElem h]; rfl
theorem less_int {a b : Int} : cmp_Less_int a b = some ((decide (a < b), ()), ()) := by
  unfold cmp_Less_int cmp_isNaN_int
  by_cases h : a < b <;> simp [h]
theorem i64_dn {i : Nat} (h : 0 < i) (hn : i ≤ big) : IntKind.i64.wrap ((i : Int) - 1) = ((i - 1 : Nat) : Int) := by
  unfold big at hn
  rw [IntWalk.i64_in _ (by omega)]; omega
/-- In a heap of n from a on, no child of place k is larger. -/
def Kid (l : List Int) (a n k : Nat) : Prop := ∀ c, (c = 2 * k + 1 ∨ c = 2 * k + 2) → c < n → l.getD (a + c) 0 ≤ l.getD (a + k) 0
theorem kid_root {l : List Int} {a n : Nat} (h : ∀ k, Kid l a n k) : ∀ x, x < n → l.getD (a + x) 0 ≤ l.getD a 0 := by
  intro x
  induction x using Nat.strongRecOn with
  | _ x ih =>
    intro hx
    by_cases h0 : x = 0
    · rw [h0]; exact Int.le_refl _
    · exact Int.le_trans (h ((x - 1) / 2) x (by omega) hx) (ih ((x - 1) / 2) (by omega) (by omega))
theorem srt_adj {l : List Int} {a b : Nat} (h : ∀ k, a ≤ k → k + 1 < b → l.getD k 0 ≤ l.getD (k + 1) 0) : SrtOn a b l := by
  intro i j h1 h2 h3
  induction j with
  | zero => omega
  | succ j ih =>
    by_cases c : i = j
    · rw [c]; exact h j (by omega) h3
    · exact Int.le_trans (ih (by omega) (by omega)) (h j (by omega) h3)
theorem and_bd {a b : Int} (h0 : 0 ≤ b) (h1 : b < 2 ^ 64) : 0 ≤ bitI .and .u64 a b ∧ bitI .and .u64 a b ≤ b := by
  show 0 ≤ IntKind.u64.wrap (BitVec.ofInt 64 a &&& BitVec.ofInt 64 b).toNat ∧ IntKind.u64.wrap (BitVec.ofInt 64 a &&& BitVec.ofInt 64 b).toNat ≤ b
  have h2 : (BitVec.ofInt 64 b).toNat = b.toNat := ofInt_nat h0 h1
  have h3 : (BitVec.ofInt 64 a &&& BitVec.ofInt 64 b).toNat ≤ b.toNat := by
    rw [BitVec.toNat_and, h2]; exact Nat.and_le_right
  rw [wrap_un (k := .u64) rfl (by omega) (by simp only [IntKind.bits]; omega)]
  omega
/-! ### insertion sort -/
theorem ins_L2 {a k : Nat} : ∀ {j : Nat} {l : List Int}, a ≤ j → j ≤ k → k < l.length → l.length ≤ big →
    (∀ p q, a ≤ p → p < q → q ≤ k → p ≠ j → q ≠ j → l.getD p 0 ≤ l.getD q 0) → (∀ q, j < q → q ≤ k → l.getD j 0 ≤ l.getD q 0) →
    ∃ l', loopV (slices_insertionSortOrdered_int_L2 (a : Int)) (((), ((j : Int), ())), (l, ())) = some (((), ()), (l', ())) ∧ Sw a (k + 1) l l' ∧ SrtOn a (k + 1) l' := by
  intro j
  induction j with
  | zero =>
    intro l ha hj hk hl h1 h2
    refine ⟨l, loopV_done ?_, .refl, fun p q p1 p2 p3 => ?_⟩
    · simp only [slices_insertionSortOrdered_int_L2]
      rw [bif_f (decide_eq_false (by omega))]
    · by_cases c : p = 0
      · rw [c]; exact h2 q (by omega) (by omega)
      · exact h1 p q p1 p2 (by omega) c (by omega)
  | succ j ih =>
    intro l ha hj hk hl h1 h2
    have done : SrtOn a (k + 1) l ∨ (a ≤ j ∧ l.getD (j + 1) 0 < l.getD j 0) := by
      by_cases c : a ≤ j ∧ l.getD (j + 1) 0 < l.getD j 0
      · exact .inr c
      · left
        intro p q p1 p2 p3
        by_cases c1 : p = j + 1
        · rw [c1]; exact h2 q (by omega) (by omega)
        · by_cases c2 : q = j + 1
          · rw [c2]
            have hle : l.getD j 0 ≤ l.getD (j + 1) 0 := by omega
            by_cases c3 : p = j
            · rw [c3]; exact hle
            · exact Int.le_trans (h1 p j p1 (by omega) (by omega) c1 (by omega)) hle
          · exact h1 p q p1 p2 (by omega) c1 c2
    by_cases c : a ≤ j ∧ l.getD (j + 1) 0 < l.getD j 0
    · obtain ⟨l', g1, g2, g3⟩ := ih (l := sw l (j + 1) j) c.1 (by omega) (by rw [sw_length]; omega) (by rw [sw_length]; exact hl)
        (fun p q p1 p2 p3 p4 p5 => by
          rw [getD_sw (by omega) (by omega), getD_sw (by omega) (by omega), if_neg p4, if_neg p5]
          by_cases d1 : p = j + 1
          · rw [if_pos d1, if_neg (by omega)]
            exact h1 j q c.1 (by omega) p3 (by omega) (by omega)
          · rw [if_neg d1]
            by_cases d2 : q = j + 1
            · rw [if_pos d2]
              exact h1 p j p1 (by omega) (by omega) (by omega) (by omega)
            · rw [if_neg d2]; exact h1 p q p1 p2 p3 d1 d2)
        (fun q q1 q2 => by
          rw [getD_sw (by omega) (by omega), getD_sw (by omega) (by omega), if_pos rfl, if_neg (by omega)]
          by_cases d1 : q = j + 1
          · rw [if_pos d1]; omega
          · rw [if_neg d1]; exact h2 q (by omega) q2)
      refine ⟨l', ?_, (Sw.sw (by omega) (by omega) (by omega) (by omega) c.1 (by omega)).trans g2, g3⟩
      rw [← g1]
      refine loopV_next ?_
      have d1 : j + 1 < l.length := by omega
      have d2 : j < l.length := by omega
      have d3 : j < (l.set (j + 1) (l.getD j 0)).length := by simpa using d2
      simp only [slices_insertionSortOrdered_int_L2, decide_eq_true (show (a : Int) < ((j + 1 : Nat) : Int) by omega), cond_true, inb_nat d1, Int.toNat_natCast, get_some d1, Option.bind_some, i64_dn (i := j + 1) (by omega) (by omega), Nat.add_sub_cancel, inb_nat d2, get_some d2, less_int, decide_eq_true c.2, inb_nat d3, get_some d3]
      rfl
    · refine ⟨l, loopV_done ?_, .refl, ?_⟩
      · simp only [slices_insertionSortOrdered_int_L2]
        by_cases c1 : a ≤ j
        · have d1 : j + 1 < l.length := by omega
          have d2 : j < l.length := by omega
          simp only [decide_eq_true (show (a : Int) < ((j + 1 : Nat) : Int) by omega), cond_true, inb_nat d1, Int.toNat_natCast, get_some d1, Option.bind_some, i64_dn (i := j + 1) (by omega) (by omega), Nat.add_sub_cancel, inb_nat d2, get_some d2, less_int, decide_eq_false (show ¬ l.getD (j + 1) 0 < l.getD j 0 from fun h => c ⟨c1, h⟩), cond_false]
        · rw [bif_f (decide_eq_false (by omega))]
      · rcases done with h | h
        · exact h
        · exact absurd h c
theorem ins_eq {a b : Nat} {l : List Int} (hb : b ≤ l.length) (hab : a ≤ b) (hl : l.length < big) :
    ∃ l', slices_insertionSortOrdered_int (a : Int) (b : Int) l = some ((), (l', ())) ∧ Sw a b l l' ∧ SrtOn a b l' := by
  unfold slices_insertionSortOrdered_int
  have e : IntKind.i64.wrap ((a : Int) + 1) = ((a + 1 : Nat) : Int) := by unfold big at hl; rw [IntWalk.i64_in _ (by omega)]; omega
  rw [e]
  have key : ∀ (n k : Nat) (m : List Int), k + n = max b (a + 1) → a < k → m.length = l.length → SrtOn a k m → ∃ l', loopV (slices_insertionSortOrdered_int_L1 (a : Int) (b : Int)) (((), ((k : Int), ())), (m, ())) = some ((), (l', ())) ∧ Sw a b m l' ∧ SrtOn a b l' := by
    intro n
    induction n with
    | zero =>
      intro k m hk ha hm hs
      refine ⟨m, loopV_done ?_, .refl, fun p q p1 p2 p3 => hs p q p1 p2 (by omega)⟩
      simp only [slices_insertionSortOrdered_int_L1]
      rw [bif_f (decide_eq_false (by omega))]
    | succ n ih =>
      intro k m hk ha hm hs
      obtain ⟨m', g1, g2, g3⟩ := ins_L2 (a := a) (k := k) (j := k) (l := m) (by omega) (Nat.le_refl _) (by omega) (by omega) (fun p q p1 p2 p3 p4 p5 => hs p q p1 p2 (by omega)) (fun q q1 q2 => by omega)
      obtain ⟨l', f1, f2, f3⟩ := ih (k + 1) m' (by omega) (by omega) (by rw [g2.length]; exact hm) g3
      refine ⟨l', ?_, (g2.mono (Nat.le_refl _) (by omega)).trans f2, f3⟩
      rw [← f1]
      refine loopV_next ?_
      simp only [slices_insertionSortOrdered_int_L1]
      rw [bif_t (decide_eq_true (by omega)), g1]
      simp only [Option.bind_some]
      rw [i64_up (n := k + 1) (by omega) (by omega)]
  obtain ⟨l', g1, g2, g3⟩ := key (max b (a + 1) - (a + 1)) (a + 1) l (by omega) (by omega) rfl (fun p q p1 p2 p3 => by omega)
  rw [g1]
  exact ⟨l', rfl, g2, g3⟩
/-- Short slices: insertion sort. -/
theorem sort_short {l : List Int} (h : l.length ≤ 12) : ∃ l', slices_Sort_int_int l = some ((), (l', ())) ∧ l'.Perm l ∧ SrtOn 0 l.length l' := by
  obtain ⟨l', g1, g2, g3⟩ := ins_eq (a := 0) (b := l.length) (l := l) (Nat.le_refl _) (Nat.zero_le _) (by unfold big; omega)
  refine ⟨l', ?_, g2.perm, g3⟩
  unfold slices_Sort_int_int math_bits_Len
  simp only
  rw [wrap_un (k := .u64) rfl (by omega) (by simp only [IntKind.bits]; omega), math_bits_Len64_eq (by omega)]
  simp only [Option.bind_some]
  unfold slices_pdqsortOrdered_int
  rw [show fuel = 999999999 + 1 from rfl, fixN]
  generalize fixN slices_pdqsortOrdered_int_R 999999999 = self
  unfold slices_pdqsortOrdered_int_R
  rw [show ((0 : Nat) : Int) = 0 from rfl] at g1
  rw [loopV_done (o := ((), (l', ())))]
  · rfl
  · simp only [slices_pdqsortOrdered_int_L1]
    rw [IntWalk.i64_in _ (by omega), bif_t (decide_eq_true (by omega)), g1]
    rfl
end Go.PE
end

section
namespace Go.PE
set_option linter.unusedSimpArgs false
set_option linter.unusedVariables false
/-- The first of the largest among the first n that are not chosen. -/
def pk (xs : List Int) (ch : Nat → Bool) : Nat → Int
  | 0 => -1
  | n + 1 => if ch n = true then pk xs ch n else if pk xs ch n < 0 then n else if xs.getD (pk xs ch n).toNat 0 < xs.getD n 0 then n else pk xs ch n
theorem pk_spec {xs : List Int} {ch : Nat → Bool} : ∀ {n : Nat}, (pk xs ch n = -1 ∧ ∀ i, i < n → ch i = true) ∨ ∃ b : Nat, pk xs ch n = b ∧ b < n ∧ ch b = false ∧ ∀ i, i < n → ch i = false → xs.getD i 0 ≤ xs.getD b 0 := by
  intro n
  induction n with
  | zero => exact .inl ⟨rfl, fun i h => by omega⟩
  | succ n ih =>
    simp only [pk]
    by_cases h : ch n = true
    · rw [if_pos h]
      rcases ih with ⟨h1, h2⟩ | ⟨b, h1, h2, h3, h4⟩
      · refine .inl ⟨h1, fun i hi => ?_⟩
        by_cases c : i = n
        · rw [c]; exact h
        · exact h2 i (by omega)
      · refine .inr ⟨b, h1, by omega, h3, fun i hi hc => ?_⟩
        by_cases c : i = n
        · rw [c, h] at hc; cases hc
        · exact h4 i (by omega) hc
    · rw [if_neg h]
      have hn : ch n = false := by simpa using h
      rcases ih with ⟨h1, h2⟩ | ⟨b, h1, h2, h3, h4⟩
      · rw [h1, if_pos (by omega)]
        refine .inr ⟨n, rfl, by omega, hn, fun i hi hc => ?_⟩
        by_cases c : i = n
        · rw [c]; omega
        · rw [h2 i (by omega)] at hc; cases hc
      · rw [h1, if_neg (by omega), Int.toNat_natCast]
        by_cases hlt : xs.getD b 0 < xs.getD n 0
        · rw [if_pos hlt]
          refine .inr ⟨n, rfl, by omega, hn, fun i hi hc => ?_⟩
          by_cases c : i = n
          · rw [c]; omega
          · have := h4 i (by omega) hc; omega
        · rw [if_neg hlt]
          refine .inr ⟨b, rfl, by omega, h3, fun i hi hc => ?_⟩
          by_cases c : i = n
          · rw [c]; omega
          · exact h4 i (by omega) hc
theorem index_spec {P : List Int} {x : Int} (hP : P.length ≤ big) : ∃ r, slices_Index_int_int P x = some ((r, ()), ()) ∧ decide ((0 : Int) ≤ r) = decide (x ∈ P) := by
  unfold slices_Index_int_int
  have hmem : x ∈ P ↔ ∃ i, i < P.length ∧ decide (x = rd (.int .i64) P (i : Int)) = true := by
    constructor
    · intro h
      obtain ⟨i, hi, e⟩ := List.mem_iff_getElem.1 h
      exact ⟨i, hi, by rw [rd_in (t := .int .i64) (xs := P) hi, e]; exact decide_eq_true rfl⟩
    · rintro ⟨i, hi, e⟩
      rw [rd_in (t := .int .i64) (xs := P) hi] at e
      have := of_decide_eq_true e
      rw [this]; exact List.getElem_mem hi
  obtain ⟨o, ho, hQ⟩ := loopV_inv (step := slices_Index_int_int_L1 P x (P.length : Int)) (v := (((0 : Int), ()), ()))
    (fun v => 0 ≤ v.1.1 ∧ ∀ i : Nat, (i : Int) < v.1.1 → i < P.length → ¬ decide (x = rd (.int .i64) P (i : Int)) = true) (fun v => ((P.length : Int) - v.1.1).toNat)
    (fun o => match o with | .inl o => 0 ≤ o.1.1 ∧ x ∈ P | .inr o => ¬ x ∈ P) ⟨by simp, by intro i h; simp only at h; omega⟩ (by
      rintro ⟨⟨k, _⟩, _⟩ ⟨h1, h2⟩
      simp only at h1 h2
      simp only [slices_Index_int_int_L1]
      by_cases hk : k < P.length
      · obtain ⟨n, rfl⟩ := Int.eq_ofNat_of_zero_le h1
        rw [bif_t (decide_eq_true hk), bif_t (inb_t (by omega))]
        by_cases hx : decide (x = rd (.int .i64) P (n : Int)) = true
        · right
          rw [bif_t hx]
          exact ⟨_, rfl, h1, hmem.2 ⟨n, by omega, hx⟩⟩
        · left
          rw [bif_f (by simpa using hx), i64_up (n := P.length) (by omega) hP]
          refine ⟨_, rfl, ⟨by simp only; omega, fun i h3 h4 => ?_⟩, by simp only; omega⟩
          simp only at h3
          by_cases c : i = n
          · rw [c]; exact hx
          · exact h2 i (by omega) h4
      · right
        rw [bif_f (decide_eq_false hk)]
        refine ⟨_, rfl, fun h => ?_⟩
        obtain ⟨i, hi, e⟩ := hmem.1 h
        exact h2 i (by omega) hi e)
  rw [ho]
  simp only [Option.bind_some]
  cases o with
  | inl o => exact ⟨_, rfl, by rw [decide_eq_decide]; exact ⟨fun _ => hQ.2, fun _ => hQ.1⟩⟩
  | inr o => exact ⟨_, rfl, by rw [decide_eq_decide]; exact ⟨fun h => by omega, fun h => absurd h hQ⟩⟩
theorem contains_eq {P : List Int} {x : Int} (hP : P.length ≤ big) : slices_Contains_int_int P x = some ((decide (x ∈ P), ()), ()) := by
  unfold slices_Contains_int_int
  obtain ⟨r, h1, h2⟩ := index_spec (x := x) hP
  rw [h1]
  simp only [Option.bind_some]
  rw [← h2]
/-- Which places are chosen. -/
def inP (P : List Int) (i : Nat) : Bool := decide ((i : Int) ∈ P)
/-- The sum of the chosen values. -/
def selS (xs : List Int) (ch : Nat → Bool) : Nat → Int
  | 0 => 0
  | n + 1 => selS xs ch n + (if ch n = true then xs.getD n 0 else 0)
theorem selS_add {xs : List Int} {ch ch' : Nat → Bool} {b : Nat} (hb : ch b = false) (hc : ∀ i, ch' i = (ch i || decide (i = b))) : ∀ {n : Nat}, selS xs ch' n = selS xs ch n + (if b < n then xs.getD b 0 else 0) := by
  intro n
  induction n with
  | zero => simp [selS]
  | succ n ih =>
    simp only [selS]
    rw [ih, hc n]
    by_cases c : n = b
    · rw [c, hb]; simp
    · rw [decide_eq_false c, Bool.or_false]
      by_cases d : b < n
      · rw [if_pos d, if_pos (show b < n + 1 by omega)]; omega
      · rw [if_neg d, if_neg (show ¬ b < n + 1 by omega)]; omega
theorem selS_all {xs : List Int} {ch : Nat → Bool} : ∀ {n : Nat}, n ≤ xs.length → (∀ i, i < n → ch i = true) → selS xs ch n = (xs.take n).sum := by
  intro n
  induction n with
  | zero => intro _ _; simp [selS]
  | succ n ih =>
    intro h hc
    simp only [selS]
    rw [ih (by omega) (fun i hi => hc i (by omega)), if_pos (hc n (by omega)), sum_up (by omega), List.getD_eq_getElem?_getD, List.getElem?_eq_getElem (by omega)]; rfl
theorem selS_subs {xs : List Int} {ch : Nat → Bool} : selS xs ch xs.length ∈ subs xs := by
  have key : ∀ n, n ≤ xs.length → ∃ ps : List Nat, (∀ p ∈ ps, p < n) ∧ ps.Pairwise (· < ·) ∧ (ps.map fun p => xs.getD p 0).sum = selS xs ch n := by
    intro n
    induction n with
    | zero => intro _; exact ⟨[], by simp, .nil, rfl⟩
    | succ n ih =>
      intro h
      obtain ⟨ps, h1, h2, h3⟩ := ih (by omega)
      simp only [selS]
      by_cases c : ch n = true
      · rw [if_pos c]
        refine ⟨ps ++ [n], fun p hp => ?_, ?_, ?_⟩
        · rcases List.mem_append.1 hp with hp | hp
          · have := h1 p hp; omega
          · rw [List.mem_singleton.1 hp]; omega
        · rw [List.pairwise_append]
          exact ⟨h2, by simp, fun a ha b hb => by rw [List.mem_singleton.1 hb]; exact h1 a ha⟩
        · rw [List.map_append, List.sum_append, h3]; simp
      · rw [if_neg c]
        exact ⟨ps, fun p hp => by have := h1 p hp; omega, h2, by omega⟩
  obtain ⟨ps, h1, h2, h3⟩ := key xs.length (Nat.le_refl _)
  have := places_subs (vals := xs) ps 0 (fun p hp => ⟨Nat.zero_le _, h1 p hp⟩) h2
  rw [List.drop_zero, h3] at this
  exact this
section
variable {xs : List Int} {T : Int}
theorem largest_L2 {x : Unit × Int × Unit} {P : List Int} {s : Int} (hl : xs.length ≤ 16) (hP : P.length ≤ big) :
    loopV (selection_Largest_L2 xs xs (xs.length : Int)) (((), ((), ((-1 : Int), ((0 : Int), ())))), (x, (((), (s, ())), (P, ())))) = some (((), ((), (pk xs (inP P) xs.length, ()))), (((), x.2), (((), (s, ())), (P, ())))) := by
  obtain ⟨_, x, _⟩ := x
  refine loopV_ind (fun i => (((), ((), ((pk xs (inP P) i), ((i : Int), ())))), (((), (x, ())), (((), (s, ())), (P, ()))))) xs.length rfl ?_ ?_
  · intro i hi
    simp only [selection_Largest_L2]
    rw [bif_t (decide_eq_true (by omega))]
    have hJ : selection_Largest_J3 xs xs (i : Int) (((), ((), (pk xs (inP P) i, ()))), (((), (x, ())), (((), (s, ())), (P, ())))) = some (((), ((), (pk xs (inP P) (i + 1), ()))), (((), (x, ())), (((), (s, ())), (P, ())))) := by
      simp only [selection_Largest_J3]
      rw [bif_t (inb_nat hi), contains_eq hP]
      simp only [Option.bind_some, pk]
      show (bif (!inP P i) then _ else _) = _
      cases hc : inP P i with
      | true => rfl
      | false =>
        simp only [Bool.not_false, cond_true, Bool.false_eq_true, if_false]
        by_cases h0 : pk xs (inP P) i < 0
        · rw [bif_t (decide_eq_true h0), if_pos h0]
        · rw [bif_f (decide_eq_false h0), if_neg h0]
          rcases pk_spec (xs := xs) (ch := inP P) (n := i) with ⟨h1, _⟩ | ⟨b, h1, h2, _⟩
          · omega
          · rw [h1, bif_t (inb_nat (by omega)), Int.toNat_natCast]
            have e1 : rd (.int .i64) xs (b : Int) = xs.getD b 0 := rfl
            have e2 : rd (.int .i64) xs (i : Int) = xs.getD i 0 := rfl
            rw [e1, e2]
            by_cases hlt : xs.getD b 0 < xs.getD i 0
            · rw [bif_t (decide_eq_true hlt), if_pos hlt]
            · rw [bif_f (decide_eq_false hlt), if_neg hlt]
    rw [hJ]
    simp only [Option.bind_some]
    rw [i64_up hi (Nat.le_trans hl (by decide))]
  · simp only [selection_Largest_L2]
    rw [bif_f (by simp)]
/-- A run of largest-first choices. -/
structure Grd (xs : List Int) (P : List Int) (s : Int) : Prop where
  rng : ∀ p ∈ P, 0 ≤ p ∧ p < xs.length
  nod : P.Nodup
  sum : s = selS xs (inP P) xs.length
  top : ∀ p ∈ P, ∀ i : Nat, i < xs.length → inP P i = false → xs.getD i 0 ≤ xs.getD p.toNat 0
  len : (P.length : Int) = selS (List.replicate xs.length 1) (inP P) xs.length
theorem Grd.step {P : List Int} {s : Int} (h : Grd xs P s) (hT : s < xs.sum) : ∃ b : Nat, pk xs (inP P) xs.length = b ∧ b < xs.length ∧ Grd xs (P ++ [(b : Int)]) (s + xs.getD b 0) ∧ ∀ p ∈ P ++ [(b : Int)], xs.getD b 0 ≤ xs.getD p.toNat 0 := by
  rcases pk_spec (xs := xs) (ch := inP P) (n := xs.length) with ⟨_, h2⟩ | ⟨b, h1, h2, h3, h4⟩
  · have := h.sum
    rw [selS_all (Nat.le_refl _) h2, List.take_length] at this
    omega
  · have hnb : ¬ (b : Int) ∈ P := by simpa [inP] using h3
    have hc : ∀ i, inP (P ++ [(b : Int)]) i = (inP P i || decide (i = b)) := by
      intro i
      simp only [inP, List.mem_append, List.mem_singleton]
      have : ((i : Int) = (b : Int)) ↔ i = b := by omega
      rw [Bool.eq_iff_iff]
      simp [this]
    have hnd : (P ++ [(b : Int)]).Nodup := by
      rw [List.nodup_append]
      exact ⟨h.nod, by simp, fun a ha c hc e => by rw [List.mem_singleton.1 hc] at e; exact hnb (e ▸ ha)⟩
    have hrng : ∀ p ∈ P ++ [(b : Int)], 0 ≤ p ∧ p < xs.length := fun p hp => by
      rcases List.mem_append.1 hp with hp | hp
      · exact h.rng p hp
      · rw [List.mem_singleton.1 hp]; omega
    have hmin : ∀ p ∈ P ++ [(b : Int)], xs.getD b 0 ≤ xs.getD p.toNat 0 := fun p hp => by
      rcases List.mem_append.1 hp with hp | hp
      · exact h.top p hp b h2 h3
      · rw [List.mem_singleton.1 hp, Int.toNat_natCast]; omega
    refine ⟨b, h1, h2, ⟨hrng, hnd, ?_, fun p hp i hi hci => ?_, ?_⟩, hmin⟩
    · rw [selS_add h3 hc, if_pos h2, ← h.sum]
    · rw [hc, Bool.or_eq_false_iff] at hci
      exact Int.le_trans (h4 i hi hci.1) (hmin p hp)
    · rw [selS_add h3 hc, if_pos h2, ← h.len, List.length_append, List.getD_eq_getElem?_getD, List.getElem?_replicate, if_pos h2]
      simp
theorem ones_le {m : Nat} {ch : Nat → Bool} : ∀ {n : Nat}, selS (List.replicate m 1) ch n ≤ n := by
  intro n
  induction n with
  | zero => simp [selS]
  | succ n ih =>
    simp only [selS]
    have : (List.replicate m (1 : Int)).getD n 0 ≤ 1 := by
      rw [List.getD_eq_getElem?_getD, List.getElem?_replicate]
      split <;> simp
    split <;> omega
theorem Grd.le {P : List Int} {s : Int} (h : Grd xs P s) : P.length ≤ xs.length := by
  have h1 := h.len
  have h2 := ones_le (m := xs.length) (ch := inP P) (n := xs.length)
  omega
theorem Grd.nil : Grd xs [] 0 := by
  have h0 : ∀ (ys : List Int) (n : Nat), selS ys (inP []) n = 0 := by
    intro ys n
    induction n with
    | zero => rfl
    | succ n ih => simp [selS, ih, inP]
  exact ⟨(fun p hp => by cases hp), List.nodup_nil, (h0 _ _).symm, (fun p hp => by cases hp), (h0 _ _).symm⟩
/-- Choosing the largest until it is enough. -/
theorem largest_L1 {x : Unit × Int × Unit} (hb : Bd xs) (hl : xs.length ≤ 16) (hT : 1 ≤ T ∧ T ≤ 2100000000000000) (hs : T ≤ xs.sum) :
    ∃ (P : List Int) (b : Nat) (s : Int), loopV (selection_Largest_L1 xs T) (((), ((), ())), (x, (((), ((0 : Int), ())), (([] : List Int), ())))) = some (((), ((), ())), (((), x.2), (((), (s, ())), (P, ())))) ∧
      Grd xs P s ∧ T ≤ s ∧ b < xs.length ∧ (b : Int) ∈ P ∧ s < T + xs.getD b 0 ∧ ∀ p ∈ P, xs.getD b 0 ≤ xs.getD p.toNat 0 := by
  obtain ⟨_, x, _⟩ := x
  have key : ∀ (k : Nat) (P : List Int) (s : Int), P.length + k = xs.length → Grd xs P s → ((P = [] ∧ s = 0) ∨ s < T ∨ ∃ b : Nat, b < xs.length ∧ (b : Int) ∈ P ∧ s < T + xs.getD b 0 ∧ ∀ p ∈ P, xs.getD b 0 ≤ xs.getD p.toNat 0) →
      ∃ (P' : List Int) (b : Nat) (s' : Int), loopV (selection_Largest_L1 xs T) (((), ((), ())), (((), (x, ())), (((), (s, ())), (P, ())))) = some (((), ((), ())), (((), (x, ())), (((), (s', ())), (P', ())))) ∧
        Grd xs P' s' ∧ T ≤ s' ∧ b < xs.length ∧ (b : Int) ∈ P' ∧ s' < T + xs.getD b 0 ∧ ∀ p ∈ P', xs.getD b 0 ≤ xs.getD p.toNat 0 := by
    intro k
    induction k with
    | zero =>
      intro P s hk h hI
      by_cases hlt : s < T
      · obtain ⟨b, _, _, h3, _⟩ := h.step (by omega)
        have := h3.le
        rw [List.length_append, List.length_singleton] at this
        omega
      · rcases hI with ⟨_, h0⟩ | h0 | ⟨b, h1, h2, h3, h4⟩
        · omega
        · omega
        · refine ⟨P, b, s, loopV_done ?_, h, by omega, h1, h2, h3, h4⟩
          simp only [selection_Largest_L1]
          rw [bif_f (decide_eq_false hlt)]
    | succ k ih =>
      intro P s hk h hI
      by_cases hlt : s < T
      · obtain ⟨b, h1, h2, h3, h4⟩ := h.step (by omega)
        have hvb := hb _ (List.getElem_mem h2)
        have eb : xs.getD b 0 = xs[b] := by rw [List.getD_eq_getElem?_getD, List.getElem?_eq_getElem h2]; rfl
        have hs0 : 0 ≤ s := by
          rw [h.sum]
          exact (subs_range hb.pos _ selS_subs).1
        obtain ⟨P', b', s', g1, g2⟩ := ih (P ++ [(b : Int)]) (s + xs.getD b 0) (by rw [List.length_append, List.length_singleton]; omega) h3 (.inr (.inr ⟨b, h2, by simp, by omega, h4⟩))
        refine ⟨P', b', s', ?_, g2⟩
        rw [← g1]
        refine loopV_next ?_
        simp only [selection_Largest_L1]
        rw [bif_t (decide_eq_true hlt), largest_L2 hl (by unfold big; omega)]
        simp only [Option.bind_some]
        rw [h1, bif_t (by simp [lim]; omega), bif_t (inb_nat h2), rd_in (t := .int .i64) (xs := xs) h2, ← eb, IntWalk.i64_in _ (by omega)]
      · rcases hI with ⟨_, h0⟩ | h0 | ⟨b, h1, h2, h3, h4⟩
        · omega
        · omega
        · refine ⟨P, b, s, loopV_done ?_, h, by omega, h1, h2, h3, h4⟩
          simp only [selection_Largest_L1]
          rw [bif_f (decide_eq_false hlt)]
  exact key xs.length [] 0 (by simp) Grd.nil (.inl ⟨rfl, rfl⟩)
theorem fault_eq (hb : Bd xs) (hl : xs.length ≤ 16) (hT : 1 ≤ T ∧ T ≤ 2100000000000000) : selection_fault xs T = some ((if xs.sum < T then 320 else 0, ()), ()) := by
  have hok : (xs.all okV && (decide (1 ≤ T) && decide (T ≤ 2100000000000000))) = true := by
    have : xs.all okV = true := List.all_eq_true.2 fun x hx => by
      have := hb x hx
      simp only [okV, Bool.and_eq_true, Bool.not_eq_true', decide_eq_false_iff_not]
      omega
    simp [this, hT.1, hT.2]
  unfold selection_fault
  rw [bif_f (decide_eq_false (by omega)), selection_proper_eq hl, hok, selection_total_eq hb hl]
  simp only [Option.bind_some, Bool.not_true, cond_false]
  by_cases h : xs.sum < T <;> simp [h]
end
end Go.PE
end

section
namespace Go.PE
set_option linter.unusedSimpArgs false
set_option linter.unusedVariables false
theorem lessS_int {a b : Int} : cmp_Less_int a b = some ((decide (a < b), ()), ()) := by
  unfold cmp_Less_int cmp_isNaN_int
  by_cases h : a < b <;> simp [h]
/-! ### insertion sort -/
theorem ins_L2_int {a k : Nat} : ∀ {j : Nat} {l : List Int}, a ≤ j → j ≤ k → k < l.length → l.length ≤ 49 →
    (∀ p q, a ≤ p → p < q → q ≤ k → p ≠ j → q ≠ j → l.getD p 0 ≤ l.getD q 0) → (∀ q, j < q → q ≤ k → l.getD j 0 ≤ l.getD q 0) →
    ∃ l', loopV (slices_insertionSortOrdered_int_L2 (a : Int)) (((), ((j : Int), ())), (l, ())) = some (((), ()), (l', ())) ∧ Sw a (k + 1) l l' ∧ SrtOn a (k + 1) l' := by
  intro j
  induction j with
  | zero =>
    intro l ha hj hk hl h1 h2
    refine ⟨l, loopV_done ?_, .refl, fun p q p1 p2 p3 => ?_⟩
    · simp only [slices_insertionSortOrdered_int_L2]
      rw [bif_f (decide_eq_false (by omega))]
    · by_cases c : p = 0
      · rw [c]; exact h2 q (by omega) (by omega)
      · exact h1 p q p1 p2 (by omega) c (by omega)
  | succ j ih =>
    intro l ha hj hk hl h1 h2
    have hbig : l.length ≤ big := by unfold big; omega
    have done : SrtOn a (k + 1) l ∨ (a ≤ j ∧ l.getD (j + 1) 0 < l.getD j 0) := by
      by_cases c : a ≤ j ∧ l.getD (j + 1) 0 < l.getD j 0
      · exact .inr c
      · left
        intro p q p1 p2 p3
        by_cases c1 : p = j + 1
        · rw [c1]; exact h2 q (by omega) (by omega)
        · by_cases c2 : q = j + 1
          · rw [c2]
            have hle : l.getD j 0 ≤ l.getD (j + 1) 0 := by omega
            by_cases c3 : p = j
            · rw [c3]; exact hle
            · exact Int.le_trans (h1 p j p1 (by omega) (by omega) c1 (by omega)) hle
          · exact h1 p q p1 p2 (by omega) c1 c2
    by_cases c : a ≤ j ∧ l.getD (j + 1) 0 < l.getD j 0
    · obtain ⟨l', g1, g2, g3⟩ := ih (l := sw l (j + 1) j) c.1 (by omega) (by rw [sw_length]; omega) (by rw [sw_length]; exact hl)
        (fun p q p1 p2 p3 p4 p5 => by
          rw [getD_sw (by omega) (by omega), getD_sw (by omega) (by omega), if_neg p4, if_neg p5]
          by_cases d1 : p = j + 1
          · rw [if_pos d1, if_neg (by omega)]
            exact h1 j q c.1 (by omega) p3 (by omega) (by omega)
          · rw [if_neg d1]
            by_cases d2 : q = j + 1
            · rw [if_pos d2]
              exact h1 p j p1 (by omega) (by omega) (by omega) (by omega)
            · rw [if_neg d2]; exact h1 p q p1 p2 p3 d1 d2)
        (fun q q1 q2 => by
          rw [getD_sw (by omega) (by omega), getD_sw (by omega) (by omega), if_pos rfl, if_neg (by omega)]
          by_cases d1 : q = j + 1
          · rw [if_pos d1]; omega
          · rw [if_neg d1]; exact h2 q (by omega) q2)
      refine ⟨l', ?_, (Sw.sw (by omega) (by omega) (by omega) (by omega) c.1 (by omega)).trans g2, g3⟩
      rw [← g1]
      refine loopV_next ?_
      have d1 : j + 1 < l.length := by omega
      have d2 : j < l.length := by omega
      have d3 : j < (l.set (j + 1) (l.getD j 0)).length := by simpa using d2
      simp only [slices_insertionSortOrdered_int_L2, decide_eq_true (show (a : Int) < ((j + 1 : Nat) : Int) by omega), cond_true, inb_nat d1, Int.toNat_natCast, get_some d1, Option.bind_some, i64_dn (i := j + 1) (by omega) (by omega), Nat.add_sub_cancel, inb_nat d2, get_some d2, lessS_int, decide_eq_true c.2, inb_nat d3, get_some d3]
      rfl
    · refine ⟨l, loopV_done ?_, .refl, ?_⟩
      · simp only [slices_insertionSortOrdered_int_L2]
        by_cases c1 : a ≤ j
        · have d1 : j + 1 < l.length := by omega
          have d2 : j < l.length := by omega
          simp only [decide_eq_true (show (a : Int) < ((j + 1 : Nat) : Int) by omega), cond_true, inb_nat d1, Int.toNat_natCast, get_some d1, Option.bind_some, i64_dn (i := j + 1) (by omega) (by omega), Nat.add_sub_cancel, inb_nat d2, get_some d2, lessS_int, decide_eq_false (show ¬ l.getD (j + 1) 0 < l.getD j 0 from fun h => c ⟨c1, h⟩), cond_false]
        · rw [bif_f (decide_eq_false (by omega))]
      · rcases done with h | h
        · exact h
        · exact absurd h c
theorem ins_eq_int {a b : Nat} {l : List Int} (hb : b ≤ l.length) (hab : a ≤ b) (hl : l.length ≤ 49) :
    ∃ l', slices_insertionSortOrdered_int (a : Int) (b : Int) l = some ((), (l', ())) ∧ Sw a b l l' ∧ SrtOn a b l' := by
  unfold slices_insertionSortOrdered_int
  have e : IntKind.i64.wrap ((a : Int) + 1) = ((a + 1 : Nat) : Int) := by rw [IntWalk.i64_in _ (by omega)]; omega
  rw [e]
  have key : ∀ (n k : Nat) (m : List Int), k + n = max b (a + 1) → a < k → m.length = l.length → SrtOn a k m → ∃ l', loopV (slices_insertionSortOrdered_int_L1 (a : Int) (b : Int)) (((), ((k : Int), ())), (m, ())) = some ((), (l', ())) ∧ Sw a b m l' ∧ SrtOn a b l' := by
    intro n
    induction n with
    | zero =>
      intro k m hk ha hm hs
      refine ⟨m, loopV_done ?_, .refl, fun p q p1 p2 p3 => hs p q p1 p2 (by omega)⟩
      simp only [slices_insertionSortOrdered_int_L1]
      rw [bif_f (decide_eq_false (by omega))]
    | succ n ih =>
      intro k m hk ha hm hs
      obtain ⟨m', g1, g2, g3⟩ := ins_L2_int (a := a) (k := k) (j := k) (l := m) (by omega) (Nat.le_refl _) (by omega) (by omega) (fun p q p1 p2 p3 p4 p5 => hs p q p1 p2 (by omega)) (fun q q1 q2 => by omega)
      obtain ⟨l', f1, f2, f3⟩ := ih (k + 1) m' (by omega) (by omega) (by rw [g2.length]; exact hm) g3
      refine ⟨l', ?_, (g2.mono (Nat.le_refl _) (by omega)).trans f2, f3⟩
      rw [← f1]
      refine loopV_next ?_
      simp only [slices_insertionSortOrdered_int_L1]
      rw [bif_t (decide_eq_true (by omega)), g1]
      simp only [Option.bind_some]
      rw [i64_up (n := k + 1) (by omega) (by unfold big; omega)]
  obtain ⟨l', g1, g2, g3⟩ := key (max b (a + 1) - (a + 1)) (a + 1) l (by omega) (by omega) rfl (fun p q p1 p2 p3 => by omega)
  rw [g1]
  exact ⟨l', rfl, g2, g3⟩
/-! ### heap sort -/
theorem sift_int {a lo hi : Nat} {l : List Int} (hlo : lo ≤ 49) (hl : l.length ≤ 49) (hb : a + hi ≤ l.length) (hH : ∀ k, lo < k → Kid l a hi k) :
    ∃ l', slices_siftDownOrdered_int (lo : Int) (hi : Int) (a : Int) l = some ((), (l', ())) ∧ Sw (a + lo) (a + hi) l l' ∧ ∀ k, lo ≤ k → Kid l' a hi k := by
  have key : ∀ (n r : Nat) (m : List Int), hi ≤ r + n → lo ≤ r → r ≤ 49 → m.length = l.length → (∀ k, lo ≤ k → k ≠ r → Kid m a hi k) → (∀ k c, lo ≤ k → (r = 2 * k + 1 ∨ r = 2 * k + 2) → (c = 2 * r + 1 ∨ c = 2 * r + 2) → c < hi → m.getD (a + c) 0 ≤ m.getD (a + k) 0) →
      ∃ o l', loopV (slices_siftDownOrdered_int_L1 (hi : Int) (a : Int)) (((), ((r : Int), ())), (m, ())) = some o ∧ (o = .inl ((), (l', ())) ∨ o = .inr ((), (l', ()))) ∧ Sw (a + lo) (a + hi) m l' ∧ ∀ k, lo ≤ k → Kid l' a hi k := by
    intro n
    induction n with
    | zero =>
      intro r m hn hr hr2 hm h1 h2
      have e2 : IntKind.i64.wrap (IntKind.i64.wrap (2 * (r : Int)) + 1) = 2 * (r : Int) + 1 := by rw [IntWalk.i64_in (2 * (r : Int)) (by omega), IntWalk.i64_in _ (by omega)]
      refine ⟨_, m, loopV_done (o := .inl ((), (m, ()))) ?_, .inl rfl, .refl, fun k hk c hc hc2 => ?_⟩
      · simp only [slices_siftDownOrdered_int_L1]
        rw [e2, bif_t (decide_eq_true (by omega))]
      · by_cases hkr : k = r
        · omega
        · exact h1 k hk hkr c hc hc2
    | succ n ih =>
      intro r m hn hr hr2 hm h1 h2
      have e2 : IntKind.i64.wrap (IntKind.i64.wrap (2 * (r : Int)) + 1) = ((2 * r + 1 : Nat) : Int) := by rw [IntWalk.i64_in (2 * (r : Int)) (by omega), IntWalk.i64_in _ (by omega)]; omega
      by_cases c0 : hi ≤ 2 * r + 1
      · refine ⟨_, m, loopV_done (o := .inl ((), (m, ()))) ?_, .inl rfl, .refl, fun k hk c hc hc2 => ?_⟩
        · simp only [slices_siftDownOrdered_int_L1]
          rw [e2, bif_t (decide_eq_true (by omega))]
        · by_cases hkr : k = r
          · omega
          · exact h1 k hk hkr c hc hc2
      · obtain ⟨ch, hJ, hc1, hc2, hc3⟩ : ∃ ch : Nat, slices_siftDownOrdered_int_J2 (hi : Int) (a : Int) (((), (((2 * r + 1 : Nat) : Int), ())), (m, ())) = some (((), ((ch : Int), ())), (m, ())) ∧ (ch = 2 * r + 1 ∨ ch = 2 * r + 2) ∧ ch < hi ∧ ∀ c, (c = 2 * r + 1 ∨ c = 2 * r + 2) → c < hi → m.getD (a + c) 0 ≤ m.getD (a + ch) 0 := by
          simp only [slices_siftDownOrdered_int_J2]
          rw [IntWalk.i64_in (((2 * r + 1 : Nat) : Int) + 1) (by omega), IntWalk.i64_in ((a : Int) + ((2 * r + 1 : Nat) : Int)) (by omega), IntWalk.i64_in ((a : Int) + ((2 * r + 1 : Nat) : Int) + 1) (by omega)]
          by_cases c1 : 2 * r + 2 < hi
          · have d1 : a + (2 * r + 1) < m.length := by omega
            have d2 : a + (2 * r + 2) < m.length := by omega
            rw [bif_t (decide_eq_true (by omega)), show (a : Int) + ((2 * r + 1 : Nat) : Int) + 1 = ((a + (2 * r + 2) : Nat) : Int) by omega, show (a : Int) + ((2 * r + 1 : Nat) : Int) = ((a + (2 * r + 1) : Nat) : Int) by omega]
            simp only [inb_nat d1, inb_nat d2, cond_true, Int.toNat_natCast, get_some d1, get_some d2, Option.bind_some, lessS_int]
            by_cases c2 : m.getD (a + (2 * r + 1)) 0 < m.getD (a + (2 * r + 2)) 0
            · refine ⟨2 * r + 2, by rw [bif_t (decide_eq_true c2)]; rfl, .inr rfl, c1, fun c hc hc' => ?_⟩
              rcases hc with rfl | rfl <;> omega
            · refine ⟨2 * r + 1, by rw [bif_f (decide_eq_false c2)], .inl rfl, by omega, fun c hc hc' => ?_⟩
              rcases hc with rfl | rfl <;> omega
          · refine ⟨2 * r + 1, by rw [bif_f (decide_eq_false (by omega))], .inl rfl, by omega, fun c hc hc' => ?_⟩
            rcases hc with rfl | rfl
            · omega
            · omega
        have d1 : a + r < m.length := by omega
        have d2 : a + ch < m.length := by omega
        have d3 : a + ch < (m.set (a + r) (m.getD (a + ch) 0)).length := by simpa using d2
        have w1 : IntKind.i64.wrap ((a : Int) + (r : Int)) = ((a + r : Nat) : Int) := by rw [IntWalk.i64_in _ (by omega)]; omega
        have w2 : IntKind.i64.wrap ((a : Int) + (ch : Int)) = ((a + ch : Nat) : Int) := by rw [IntWalk.i64_in _ (by omega)]; omega
        by_cases c2 : m.getD (a + r) 0 < m.getD (a + ch) 0
        · obtain ⟨o, l', g1, go, g2, g3⟩ := ih ch (sw m (a + r) (a + ch)) (by omega) (by omega) (by omega) (by rw [sw_length]; exact hm)
            (fun k hk hkc c hc hc' => by
              rw [getD_sw d1 d2, getD_sw d1 d2]
              by_cases k1 : k = r
              · subst k1
                rw [if_neg (show ¬ a + k = a + ch by omega), if_pos (show a + k = a + k from rfl)]
                by_cases k2 : c = ch
                · rw [if_pos (by omega)]; omega
                · rw [if_neg (by omega), if_neg (by omega)]; exact hc3 c hc hc'
              · rw [if_neg (show ¬ a + c = a + ch by omega), if_neg (show ¬ a + k = a + ch by omega), if_neg (show ¬ a + k = a + r by omega)]
                by_cases k2 : c = r
                · rw [if_pos (by omega)]; exact h2 k ch hk (by omega) hc1 hc2
                · rw [if_neg (by omega)]; exact h1 k hk k1 c hc hc')
            (fun k c hk hkc hc hc' => by
              have : k = r := by omega
              subst this
              rw [getD_sw d1 d2, getD_sw d1 d2, if_neg (show ¬ a + c = a + ch by omega), if_neg (show ¬ a + c = a + k by omega), if_neg (show ¬ a + k = a + ch by omega), if_pos (show a + k = a + k from rfl)]
              exact h1 ch (by omega) (by omega) c hc hc')
          refine ⟨o, l', ?_, go, (Sw.sw d1 d2 (by omega) (by omega) (by omega) (by omega)).trans g2, g3⟩
          rw [← g1]
          refine loopV_next ?_
          simp only [slices_siftDownOrdered_int_L1]
          rw [e2, bif_f (decide_eq_false (by omega)), hJ]
          simp only [Option.bind_some, w1, w2, inb_nat d1, inb_nat d2, cond_true, Int.toNat_natCast, get_some d1, get_some d2, lessS_int, decide_eq_true c2, Bool.not_true, cond_false, inb_nat d3, get_some d3]
          rfl
        · refine ⟨_, m, loopV_done (o := .inr ((), (m, ()))) ?_, .inr rfl, .refl, fun k hk c hc hc' => ?_⟩
          · simp only [slices_siftDownOrdered_int_L1]
            rw [e2, bif_f (decide_eq_false (by omega)), hJ]
            simp only [Option.bind_some, w1, w2, inb_nat d1, inb_nat d2, cond_true, Int.toNat_natCast, get_some d1, get_some d2, lessS_int, decide_eq_false c2, Bool.not_false]
          · by_cases k1 : k = r
            · subst k1; exact Int.le_trans (hc3 c hc hc') (by omega)
            · exact h1 k hk k1 c hc hc'
  obtain ⟨o, l', g1, go, g2, g3⟩ := key hi lo l (by omega) (Nat.le_refl _) hlo rfl (fun k hk hkr => hH k (by omega)) (fun k c hk hkr => by omega)
  refine ⟨l', ?_, g2, g3⟩
  unfold slices_siftDownOrdered_int
  rw [g1]
  rcases go with rfl | rfl <;> rfl
theorem heap_eq_int {a b : Nat} {l : List Int} (hb : b ≤ l.length) (hab : a < b) (hl : l.length ≤ 49) :
    ∃ l', slices_heapSortOrdered_int (a : Int) (b : Int) l = some ((), (l', ())) ∧ Sw a b l l' ∧ SrtOn a b l' := by
  unfold slices_heapSortOrdered_int
  obtain ⟨hi, rfl⟩ : ∃ hi, b = a + hi := ⟨b - a, by omega⟩
  have e0 : IntKind.i64.wrap (((a + hi : Nat) : Int) - (a : Int)) = (hi : Int) := by rw [IntWalk.i64_in _ (by omega)]; omega
  simp only [e0]
  have e1 : IntKind.i64.wrap (Int.tdiv (IntKind.i64.wrap ((hi : Int) - 1)) 2) = ((((hi - 1) / 2 + 1 : Nat) : Int) - 1) := by
    rw [IntWalk.i64_in ((hi : Int) - 1) (by omega), tdiv_nn (by omega), IntWalk.i64_in _ (by omega)]; omega
  have e2 : IntKind.i64.wrap ((hi : Int) - 1) = (hi : Int) - 1 := IntWalk.i64_in _ (by omega)
  rw [e1, e2]
  have up : ∀ (n : Nat) (m : List Int), n ≤ 49 → m.length = l.length → (∀ k, n ≤ k → Kid m a hi k) →
      ∃ m', loopV (slices_heapSortOrdered_int_L1 (a : Int) (hi : Int)) (((), (((n : Int) - 1), ())), (m, ())) = some (((), ()), (m', ())) ∧ Sw a (a + hi) m m' ∧ ∀ k, Kid m' a hi k := by
    intro n
    induction n with
    | zero =>
      intro m _ hm h
      refine ⟨m, loopV_done ?_, .refl, fun k => h k (Nat.zero_le _)⟩
      simp only [slices_heapSortOrdered_int_L1]
      rw [bif_f (by simp)]
    | succ n ih =>
      intro m hn hm h
      obtain ⟨m1, f1, f2, f3⟩ := sift_int (a := a) (lo := n) (hi := hi) (l := m) (by omega) (by omega) (by omega) (fun k hk => h k hk)
      obtain ⟨m2, g1, g2, g3⟩ := ih m1 (by omega) (by rw [f2.length]; exact hm) f3
      refine ⟨m2, ?_, (f2.mono (by omega) (Nat.le_refl _)).trans g2, g3⟩
      rw [← g1]
      refine loopV_next ?_
      simp only [slices_heapSortOrdered_int_L1, show ((n + 1 : Nat) : Int) - 1 = (n : Int) by omega]
      rw [bif_t (decide_eq_true (by omega)), f1]
      simp only [Option.bind_some]
      rw [IntWalk.i64_in _ (by omega)]
  obtain ⟨m, u1, u2, u3⟩ := up ((hi - 1) / 2 + 1) l (by omega) rfl (fun k hk c hc hc' => by omega)
  rw [u1]
  simp only [Option.bind_some]
  have dn : ∀ (n : Nat) (m : List Int), n ≤ hi → m.length = l.length → (∀ k, Kid m a n k) → (∀ x y, x < n → n ≤ y → y < hi → m.getD (a + x) 0 ≤ m.getD (a + y) 0) → SrtOn (a + n) (a + hi) m →
      ∃ m', loopV (slices_heapSortOrdered_int_L2 (a : Int) 0) (((), (((n : Int) - 1), ())), (m, ())) = some ((), (m', ())) ∧ Sw a (a + hi) m m' ∧ SrtOn a (a + hi) m' := by
    intro n
    induction n with
    | zero =>
      intro m _ hm _ _ h
      refine ⟨m, loopV_done ?_, .refl, h⟩
      simp only [slices_heapSortOrdered_int_L2]
      rw [bif_f (by simp)]
    | succ n ih =>
      intro m hn hm hK hS hT
      have d0 : a < m.length := by omega
      have d1 : a + n < m.length := by omega
      have d3 : a + n < (m.set a (m.getD (a + n) 0)).length := by simpa using d1
      have root := kid_root (n := n + 1) hK
      have rt : ∀ x, x < n + 1 → m.getD (a + x) 0 ≤ m.getD a 0 := root
      obtain ⟨m2, f1, f2, f3⟩ := sift_int (a := a) (lo := 0) (hi := n) (l := sw m a (a + n)) (by omega) (by rw [sw_length]; omega) (by rw [sw_length]; omega) (fun k hk c hc hc' => by
        rw [getD_sw d0 d1, getD_sw d0 d1, if_neg (by omega), if_neg (by omega), if_neg (by omega), if_neg (by omega)]
        exact hK k c hc (by omega))
      rw [Nat.add_zero] at f2
      have hin : ∀ x, x < n → ∃ j, j < n + 1 ∧ m2.getD (a + x) 0 = m.getD (a + j) 0 := by
        intro x hx
        obtain ⟨j, j1, j2, j3⟩ := f2.inn (a + x) (by omega) (by omega)
        rw [getD_sw d0 d1, if_neg (by omega)] at j3
        by_cases c : j = a
        · rw [if_pos c] at j3; exact ⟨n, by omega, j3⟩
        · rw [if_neg c] at j3; exact ⟨j - a, by omega, by rw [j3]; congr 1; omega⟩
      have ho1 : m2.getD (a + n) 0 = m.getD a 0 := by
        rw [f2.out _ (by omega), getD_sw d0 d1, if_pos rfl]
      have ho2 : ∀ y, n < y → m2.getD (a + y) 0 = m.getD (a + y) 0 := by
        intro y hy
        rw [f2.out _ (by omega), getD_sw d0 d1, if_neg (by omega), if_neg (by omega)]
      obtain ⟨m3, g1, g2, g3⟩ := ih m2 (by omega) (by rw [f2.length, sw_length]; exact hm) (fun k => f3 k (Nat.zero_le _)) (fun x y hx hy hy2 => by
          obtain ⟨j, j1, j2⟩ := hin x hx
          rw [j2]
          by_cases c : y = n
          · rw [c, ho1]; exact rt j j1
          · rw [ho2 y (by omega)]; exact hS j y j1 (by omega) hy2) (fun p q p1 p2 p3 => by
          obtain ⟨q', rfl⟩ : ∃ q', q = a + q' := ⟨q - a, by omega⟩
          obtain ⟨p', rfl⟩ : ∃ p', p = a + p' := ⟨p - a, by omega⟩
          rw [ho2 q' (by omega)]
          by_cases c : p' = n
          · rw [c, ho1]
            have := hS 0 q' (by omega) (by omega) (by omega)
            exact this
          · rw [ho2 p' (by omega)]
            exact hT (a + p') (a + q') (by omega) p2 p3)
      refine ⟨m3, ?_, ((Sw.sw d0 d1 (Nat.le_refl _) (by omega) (by omega) (by omega)).trans (f2.mono (Nat.le_refl _) (by omega))).trans g2, g3⟩
      rw [← g1]
      refine loopV_next ?_
      have w1 : IntKind.i64.wrap ((a : Int) + (n : Int)) = ((a + n : Nat) : Int) := by rw [IntWalk.i64_in _ (by omega)]; omega
      have f1' : slices_siftDownOrdered_int 0 (n : Int) (a : Int) ((m.set a (m.getD (a + n) 0)).set (a + n) (m.getD a 0)) = some ((), (m2, ())) := f1
      simp only [slices_heapSortOrdered_int_L2, show ((n + 1 : Nat) : Int) - 1 = (n : Int) by omega, decide_eq_true (show (0 : Int) ≤ (n : Int) by omega), cond_true, w1, inb_nat d0, inb_nat d1, Int.toNat_natCast, get_some d0, get_some d1, Option.bind_some, inb_nat d3, get_some d3, f1']
      rw [IntWalk.i64_in _ (by omega)]
  obtain ⟨m3, g1, g2, g3⟩ := dn hi m (Nat.le_refl _) u2.length u3 (fun x y _ h1 h2 => by omega) (fun p q p1 p2 p3 => by omega)
  rw [g1]
  exact ⟨m3, rfl, u2.trans g2, g3⟩
/-! ### the pivot, patterns -/
theorem order2_int {l : List Int} {i j : Nat} {z : Int} (hi : i < l.length) (hj : j < l.length) :
    ∃ (x y : Nat) (z' : Int), slices_order2Ordered_int l (i : Int) (j : Int) z = some (((x : Int), ((y : Int), ())), (z', ())) ∧ ((x = i ∧ y = j) ∨ (x = j ∧ y = i)) := by
  unfold slices_order2Ordered_int
  rw [bif_t (inb_nat hj), bif_t (inb_nat hi), lessS_int]
  simp only [Option.bind_some]
  by_cases h : rd (.int .i64) l (j : Int) < rd (.int .i64) l (i : Int)
  · rw [bif_t (decide_eq_true h)]; exact ⟨j, i, _, rfl, .inr ⟨rfl, rfl⟩⟩
  · rw [bif_f (decide_eq_false h)]; exact ⟨i, j, _, rfl, .inl ⟨rfl, rfl⟩⟩
theorem median_int {l : List Int} {i j k : Nat} {z : Int} (hi : i < l.length) (hj : j < l.length) (hk : k < l.length) :
    ∃ (x : Nat) (z' : Int), slices_medianOrdered_int l (i : Int) (j : Int) (k : Int) z = some (((x : Int), ()), (z', ())) ∧ (x = i ∨ x = j ∨ x = k) := by
  unfold slices_medianOrdered_int
  obtain ⟨x1, y1, z1, h1, h2⟩ := order2_int (z := z) hi hj
  rw [h1]
  simp only [Option.bind_some]
  obtain ⟨x2, y2, z2, h3, h4⟩ := order2_int (l := l) (i := y1) (j := k) (z := z1) (by omega) hk
  rw [h3]
  simp only [Option.bind_some]
  obtain ⟨x3, y3, z3, h5, h6⟩ := order2_int (l := l) (i := x1) (j := x2) (z := z2) (by omega) (by omega)
  rw [h5]
  exact ⟨y3, z3, rfl, by omega⟩
theorem choose_int {a b : Nat} {l : List Int} (hb : b ≤ l.length) (hl : l.length ≤ 49) (h13 : a + 12 < b) :
    ∃ (p : Nat) (h : Int), slices_choosePivotOrdered_int l (a : Int) (b : Int) = some (((p : Int), (h, ())), ()) ∧ a ≤ p ∧ p < b := by
  unfold slices_choosePivotOrdered_int
  obtain ⟨n, rfl⟩ : ∃ n, b = a + n := ⟨b - a, by omega⟩
  have e0 : IntKind.i64.wrap (((a + n : Nat) : Int) - (a : Int)) = (n : Int) := by rw [IntWalk.i64_in _ (by omega)]; omega
  have e1 : IntKind.i64.wrap (Int.tdiv (n : Int) 4) = ((n / 4 : Nat) : Int) := by rw [tdiv_nn (by omega), IntWalk.i64_in _ (by omega)]; omega
  have e2 : ∀ m : Nat, m ≤ 3 → IntKind.i64.wrap ((a : Int) + IntKind.i64.wrap (((n / 4 : Nat) : Int) * (m : Int))) = ((a + n / 4 * m : Nat) : Int) := by
    intro m hm
    have : n / 4 * m ≤ 49 * 3 := Nat.mul_le_mul (by omega) hm
    have e : ((n / 4 : Nat) : Int) * (m : Int) = ((n / 4 * m : Nat) : Int) := by simp
    rw [e, IntWalk.i64_in ((n / 4 * m : Nat) : Int) (by omega), IntWalk.i64_in _ (by omega)]; omega
  have e21 := e2 1 (by omega)
  have e22 := e2 2 (by omega)
  have e23 := e2 3 (by omega)
  rw [show (((1 : Nat)) : Int) = 1 from rfl] at e21
  rw [show (((2 : Nat)) : Int) = 2 from rfl] at e22
  rw [show (((3 : Nat)) : Int) = 3 from rfl] at e23
  simp only [e0, e1, e21, e22, e23]
  obtain ⟨p, z, h1, h2⟩ := median_int (l := l) (i := a + n / 4 * 1) (j := a + n / 4 * 2) (k := a + n / 4 * 3) (z := 0) (by omega) (by omega) (by omega)
  have hJ : slices_choosePivotOrdered_int_J1 l (n : Int) (((), (((a + n / 4 * 1 : Nat) : Int), (((a + n / 4 * 2 : Nat) : Int), (((a + n / 4 * 3 : Nat) : Int), ())))), ((0 : Int), ())) = some (((), ((p : Int), ())), (z, ())) := by
    unfold slices_choosePivotOrdered_int_J1 slices_choosePivotOrdered_int_J2
    rw [bif_t (decide_eq_true (by omega)), bif_f (decide_eq_false (by omega))]
    simp only [Option.bind_some]
    rw [h1]
    rfl
  rw [hJ]
  simp only [Option.bind_some]
  refine ⟨p, if z = 0 then 1 else if z = 12 then 2 else 0, ?_, by omega, by omega⟩
  by_cases c1 : z = 0
  · rw [bif_t (decide_eq_true c1), if_pos c1]
  · rw [bif_f (decide_eq_false c1), if_neg c1]
    by_cases c2 : z = 12
    · rw [bif_t (decide_eq_true c2), if_pos c2]
    · rw [bif_f (decide_eq_false c2), if_neg c2]
theorem reverse_int {a b : Nat} {l : List Int} (hb : b ≤ l.length) (hl : l.length ≤ 49) (hab : a < b) :
    ∃ l', slices_reverseRangeOrdered_int (a : Int) (b : Int) l = some ((), (l', ())) ∧ Sw a b l l' := by
  unfold slices_reverseRangeOrdered_int
  rw [i64_dn (i := b) (by omega) (by unfold big; omega)]
  have key : ∀ (n i j : Nat) (m : List Int), j ≤ i + n → a ≤ i → i ≤ j + 1 → j < b → m.length = l.length → ∃ m', loopV slices_reverseRangeOrdered_int_L1 (((), ((i : Int), ((j : Int), ()))), (m, ())) = some ((), (m', ())) ∧ Sw a b m m' := by
    intro n
    induction n with
    | zero =>
      intro i j m h1 h2 h3 h4 hm
      refine ⟨m, loopV_done ?_, .refl⟩
      simp only [slices_reverseRangeOrdered_int_L1]
      rw [bif_f (decide_eq_false (by omega))]
    | succ n ih =>
      intro i j m h1 h2 h3 h4 hm
      by_cases c : i < j
      · have d1 : i < m.length := by omega
        have d2 : j < m.length := by omega
        have d3 : j < (m.set i (m.getD j 0)).length := by simpa using d2
        obtain ⟨m', g1, g2⟩ := ih (i + 1) (j - 1) (sw m i j) (by omega) (by omega) (by omega) (by omega) (by rw [sw_length]; exact hm)
        refine ⟨m', ?_, (Sw.sw d1 d2 h2 (by omega) (by omega) h4).trans g2⟩
        rw [← g1]
        refine loopV_next ?_
        simp only [slices_reverseRangeOrdered_int_L1, decide_eq_true (show (i : Int) < (j : Int) by omega), cond_true, inb_nat d1, inb_nat d2, Int.toNat_natCast, get_some d1, get_some d2, Option.bind_some, inb_nat d3, get_some d3, i64_dn (i := j) (by omega) (show j ≤ big by unfold big; omega), i64_up d1 (show m.length ≤ big by unfold big; omega)]
        rfl
      · refine ⟨m, loopV_done ?_, .refl⟩
        simp only [slices_reverseRangeOrdered_int_L1]
        rw [bif_f (decide_eq_false (by omega))]
  obtain ⟨m', g1, g2⟩ := key b a (b - 1) l (by omega) (Nat.le_refl _) (by omega) (by omega) rfl
  rw [g1]
  exact ⟨m', rfl, g2⟩
theorem partial_int {a b : Nat} {l : List Int} (hb : b ≤ l.length) (hl : l.length ≤ 49) (hab : a < b) :
    ∃ r, slices_partialInsertionSortOrdered_int (a : Int) (b : Int) l = some ((r, ()), (l, ())) ∧ (r = true → SrtOn a b l) := by
  unfold slices_partialInsertionSortOrdered_int
  rw [show IntKind.i64.wrap ((a : Int) + 1) = ((a + 1 : Nat) : Int) by rw [IntWalk.i64_in _ (by omega)]; omega]
  have scan : ∀ (n i : Nat), b ≤ i + n → a < i → i ≤ b → (∀ k, a ≤ k → k + 1 < i → l.getD k 0 ≤ l.getD (k + 1) 0) → ∃ j : Nat, loopV (slices_partialInsertionSortOrdered_int_L2 (b : Int)) (((), ((i : Int), ())), (l, ())) = some (((), ((j : Int), ())), (l, ())) ∧ j ≤ b ∧ (j = b → ∀ k, a ≤ k → k + 1 < b → l.getD k 0 ≤ l.getD (k + 1) 0) := by
    intro n
    induction n with
    | zero =>
      intro i h1 h2 h3 h4
      have : i = b := by omega
      subst this
      refine ⟨i, loopV_done ?_, Nat.le_refl _, fun _ => h4⟩
      simp only [slices_partialInsertionSortOrdered_int_L2]
      rw [bif_f (decide_eq_false (by omega))]
    | succ n ih =>
      intro i h1 h2 h3 h4
      by_cases c : i < b
      · have d1 : i < l.length := by omega
        have d2 : i - 1 < l.length := by omega
        by_cases c2 : l.getD i 0 < l.getD (i - 1) 0
        · refine ⟨i, loopV_done ?_, h3, fun h => by omega⟩
          simp only [slices_partialInsertionSortOrdered_int_L2, decide_eq_true (show (i : Int) < (b : Int) by omega), cond_true, inb_nat d1, Int.toNat_natCast, get_some d1, Option.bind_some, i64_dn (i := i) (by omega) (show i ≤ big by unfold big; omega), inb_nat d2, get_some d2, lessS_int, decide_eq_true c2, Bool.not_true, cond_false]
        · obtain ⟨j, g1, g2, g3⟩ := ih (i + 1) (by omega) (by omega) (by omega) (fun k k1 k2 => by
            by_cases k3 : k + 1 = i
            · have : k = i - 1 := by omega
              rw [this, show i - 1 + 1 = i by omega]; omega
            · exact h4 k k1 (by omega))
          refine ⟨j, ?_, g2, g3⟩
          rw [← g1]
          refine loopV_next ?_
          simp only [slices_partialInsertionSortOrdered_int_L2, decide_eq_true (show (i : Int) < (b : Int) by omega), cond_true, inb_nat d1, Int.toNat_natCast, get_some d1, Option.bind_some, i64_dn (i := i) (by omega) (show i ≤ big by unfold big; omega), inb_nat d2, get_some d2, lessS_int, decide_eq_false c2, Bool.not_false, i64_up d1 (show l.length ≤ big by unfold big; omega)]
      · have : i = b := by omega
        subst this
        refine ⟨i, loopV_done ?_, Nat.le_refl _, fun _ => h4⟩
        simp only [slices_partialInsertionSortOrdered_int_L2]
        rw [bif_f (decide_eq_false (by omega))]
  obtain ⟨j, g1, g2, g3⟩ := scan b (a + 1) (by omega) (by omega) (by omega) (fun k h1 h2 => by omega)
  by_cases c : j = b
  · have hL : loopV (slices_partialInsertionSortOrdered_int_L1 (a : Int) (b : Int)) (((), (((a + 1 : Nat) : Int), ((0 : Int), ()))), (l, ())) = some (.inl ((true, ()), (l, ()))) := by
      refine loopV_done ?_
      simp only [slices_partialInsertionSortOrdered_int_L1]
      rw [bif_t (show decide ((0 : Int) < 5) = true by decide), g1]
      simp only [Option.bind_some]
      rw [bif_t (decide_eq_true (by omega))]
    rw [hL]
    exact ⟨true, rfl, fun _ => srt_adj (g3 c)⟩
  · have hL : loopV (slices_partialInsertionSortOrdered_int_L1 (a : Int) (b : Int)) (((), (((a + 1 : Nat) : Int), ((0 : Int), ()))), (l, ())) = some (.inl ((false, ()), (l, ()))) := by
      refine loopV_done ?_
      simp only [slices_partialInsertionSortOrdered_int_L1]
      rw [bif_t (show decide ((0 : Int) < 5) = true by decide), g1]
      simp only [Option.bind_some]
      rw [bif_f (decide_eq_false (by omega)), IntWalk.i64_in _ (by omega), bif_t (decide_eq_true (by omega))]
    rw [hL]
    exact ⟨false, rfl, fun h => by cases h⟩
theorem break_int {a b : Nat} {l : List Int} (hb : b ≤ l.length) (hl : l.length ≤ 49) (h13 : a + 12 < b) :
    ∃ l', slices_breakPatternsOrdered_int (a : Int) (b : Int) l = some ((), (l', ())) ∧ Sw a b l l' := by
  unfold slices_breakPatternsOrdered_int
  obtain ⟨n, rfl⟩ : ∃ n, b = a + n := ⟨b - a, by omega⟩
  have e0 : IntKind.i64.wrap (((a + n : Nat) : Int) - (a : Int)) = (n : Int) := by rw [IntWalk.i64_in _ (by omega)]; omega
  have e1 : IntKind.i64.wrap (Int.tdiv (n : Int) 4) = ((n / 4 : Nat) : Int) := by rw [tdiv_nn (by omega), IntWalk.i64_in _ (by omega)]; omega
  have e2 : IntKind.i64.wrap ((a : Int) + IntKind.i64.wrap (((n / 4 : Nat) : Int) * 2)) = ((a + n / 4 * 2 : Nat) : Int) := by
    rw [IntWalk.i64_in (((n / 4 : Nat) : Int) * 2) (by omega), IntWalk.i64_in _ (by omega)]; omega
  simp only [e0, e1, e2]
  have hp : slices_nextPowerOfTwo (n : Int) = some ((((2 ^ bl n : Nat) : Int), ()), ()) := by
    unfold slices_nextPowerOfTwo math_bits_Len
    rw [wrap_un (k := .u64) rfl (by omega) (by simp only [IntKind.bits]; omega), math_bits_Len64_eq (by omega)]
    simp only [Option.bind_some]
    have hb6 : bl n ≤ 6 := bl_le.2 (by omega)
    rw [bif_f (decide_eq_false (by omega)), shl_un rfl (by omega), Int.toNat_natCast, Nat.shiftLeft_eq]
    have : 2 ^ bl n ≤ 2 ^ 6 := Nat.pow_le_pow_right (by omega) hb6
    rw [show (1 : Int).toNat = 1 from rfl, Nat.one_mul, Nat.mod_eq_of_lt (by simp only [IntKind.bits]; omega)]
  have hm1 : n < 2 ^ bl n := bl_le.1 (Nat.le_refl _)
  have hm2 : 2 ^ bl n ≤ 2 * n := by
    have h0 : bl n ≠ 0 := by unfold bl; rw [if_neg (by omega)]; omega
    obtain ⟨k, hk⟩ : ∃ k, bl n = k + 1 := ⟨bl n - 1, by omega⟩
    have : ¬ n < 2 ^ k := fun h => by have := bl_le.2 h; omega
    rw [hk, Nat.pow_succ]; omega
  rw [bif_t (decide_eq_true (by omega)), hp]
  simp only [Option.bind_some]
  generalize 2 ^ bl n = md at *
  obtain ⟨o, ho, l', rfl, hsw⟩ := loopV_inv (step := slices_breakPatternsOrdered_int_L1 (a : Int) (n : Int) (md : Int)) (v := (((), ((), ((IntKind.i64.wrap (((a + n / 4 * 2 : Nat) : Int) - 1), ())))), (l, ((IntKind.u64.wrap (n : Int)), ()))))
    (fun v => ∃ (i : Nat) (m : List Int) (z : Int), v = (((), ((), ((i : Int), ()))), (m, (z, ()))) ∧ a ≤ i ∧ Sw a (a + n) l m) (fun v => (1000 - v.1.2.2.1).toNat)
    (fun o => ∃ l', o = ((), (l', ())) ∧ Sw a (a + n) l l') ⟨a + n / 4 * 2 - 1, l, _, by rw [i64_dn (by omega) (by unfold big; omega)], by omega, .refl⟩ (by
      rintro _ ⟨i, m, z, rfl, hi, hsw⟩
      have hml := hsw.length
      simp only [slices_breakPatternsOrdered_int_L1, e1, e2]
      rw [IntWalk.i64_in (((a + n / 4 * 2 : Nat) : Int) + 1) (by omega)]
      by_cases c : i ≤ a + n / 4 * 2 + 1
      · left
        rw [bif_t (decide_eq_true (by omega))]
        unfold slices_xorshift_Next
        simp only [Option.bind_some]
        generalize bitI .xor .u64 (bitI .xor .u64 (bitI .xor .u64 z (shlI .u64 z 13)) (shrI .u64 (bitI .xor .u64 z (shlI .u64 z 13)) 7)) (shlI .u64 (bitI .xor .u64 (bitI .xor .u64 z (shlI .u64 z 13)) (shrI .u64 (bitI .xor .u64 z (shlI .u64 z 13)) 7)) 17) = w
        rw [wrap_un (k := .u64) (n := (md : Int) - 1) rfl (by omega) (by simp only [IntKind.bits]; omega)]
        have hand := and_bd (a := w) (b := (md : Int) - 1) (by omega) (by omega)
        generalize bitI .and .u64 w ((md : Int) - 1) = y at *
        obtain ⟨y, rfl⟩ := Int.eq_ofNat_of_zero_le hand.1
        rw [IntWalk.i64_in (y : Int) (by omega)]
        obtain ⟨q, hJ, hq⟩ : ∃ q : Nat, slices_breakPatternsOrdered_int_J2 (n : Int) (((), ((), ((y : Int), ()))), (m, (w, ()))) = some (((), ((), ((q : Int), ()))), (m, (w, ()))) ∧ q < n := by
          unfold slices_breakPatternsOrdered_int_J2
          by_cases c2 : n ≤ y
          · rw [bif_t (decide_eq_true (by simp only; omega))]
            exact ⟨y - n, by simp only; rw [IntWalk.i64_in _ (by omega), show (y : Int) - (n : Int) = ((y - n : Nat) : Int) by omega], by omega⟩
          · rw [bif_f (decide_eq_false (by simp only; omega))]
            exact ⟨y, rfl, by omega⟩
        rw [hJ]
        have d1 : i < m.length := by omega
        have d2 : a + q < m.length := by omega
        have d3 : a + q < (m.set i (m.getD (a + q) 0)).length := by simpa using d2
        have w1 : IntKind.i64.wrap ((a : Int) + (q : Int)) = ((a + q : Nat) : Int) := by rw [IntWalk.i64_in _ (by omega)]; omega
        simp only [Option.bind_some, w1, inb_nat d1, inb_nat d2, cond_true, Int.toNat_natCast, get_some d1, get_some d2, inb_nat d3, get_some d3, i64_up d1 (show m.length ≤ big by unfold big; omega)]
        exact ⟨_, rfl, ⟨i + 1, _, w, rfl, by omega, hsw.trans (Sw.sw d1 d2 hi (by omega) (by omega) (by omega))⟩, by simp only; omega⟩
      · right
        rw [bif_f (decide_eq_false (by omega))]
        exact ⟨_, rfl, m, rfl, hsw⟩)
  rw [ho]
  exact ⟨l', rfl, hsw⟩
/-! ### partitions -/
theorem pU1_int {a m : Nat} {l : List Int} (hl : l.length ≤ 49) (h3 : m ≤ l.length) : ∀ {n i : Nat}, m = i + n → a < i →
    ∃ i' : Nat, loopV (slices_partitionOrdered_int_L1 (a : Int) ((m : Int) - 1)) (((), ((i : Int), ())), (l, ())) = some (((), ((i' : Int), ())), (l, ())) ∧ i ≤ i' ∧ i' ≤ m ∧ (∀ k, i ≤ k → k < i' → l.getD k 0 < l.getD a 0) ∧ (i' < m → ¬ l.getD i' 0 < l.getD a 0) := by
  intro n
  induction n with
  | zero =>
    intro i h1 h2
    refine ⟨i, loopV_done ?_, Nat.le_refl _, by omega, fun k k1 k2 => by omega, fun h => by omega⟩
    simp only [slices_partitionOrdered_int_L1]
    rw [bif_f (decide_eq_false (by omega))]
  | succ n ih =>
    intro i h1 h2
    have d0 : a < l.length := by omega
    have d1 : i < l.length := by omega
    by_cases c2 : l.getD i 0 < l.getD a 0
    · obtain ⟨i', g1, g2, g3, g4, g5⟩ := @ih (i + 1) (by omega) (by omega)
      refine ⟨i', ?_, by omega, g3, fun k k1 k2 => ?_, g5⟩
      · rw [← g1]
        refine loopV_next ?_
        simp only [slices_partitionOrdered_int_L1, decide_eq_true (show (i : Int) ≤ (m : Int) - 1 by omega), cond_true, inb_nat d0, inb_nat d1, Int.toNat_natCast, get_some d0, get_some d1, Option.bind_some, lessS_int, decide_eq_true c2, cond_true, i64_up d1 (show l.length ≤ big by unfold big; omega)]
      · by_cases k3 : k = i
        · rw [k3]; exact c2
        · exact g4 k (by omega) k2
    · refine ⟨i, loopV_done ?_, Nat.le_refl _, by omega, fun k k1 k2 => by omega, fun _ => c2⟩
      simp only [slices_partitionOrdered_int_L1, decide_eq_true (show (i : Int) ≤ (m : Int) - 1 by omega), cond_true, inb_nat d0, inb_nat d1, Int.toNat_natCast, get_some d0, get_some d1, Option.bind_some, lessS_int, decide_eq_false c2, cond_false]
theorem pU4_int {a m : Nat} {l : List Int} (hl : l.length ≤ 49) (h3 : m ≤ l.length) : ∀ {n i : Nat}, m = i + n → a < i →
    ∃ i' : Nat, loopV (slices_partitionOrdered_int_L4 (a : Int) ((m : Int) - 1)) (((), ((i : Int), ())), (l, ())) = some (((), ((i' : Int), ())), (l, ())) ∧ i ≤ i' ∧ i' ≤ m ∧ (∀ k, i ≤ k → k < i' → l.getD k 0 < l.getD a 0) ∧ (i' < m → ¬ l.getD i' 0 < l.getD a 0) := by
  intro n
  induction n with
  | zero =>
    intro i h1 h2
    refine ⟨i, loopV_done ?_, Nat.le_refl _, by omega, fun k k1 k2 => by omega, fun h => by omega⟩
    simp only [slices_partitionOrdered_int_L4]
    rw [bif_f (decide_eq_false (by omega))]
  | succ n ih =>
    intro i h1 h2
    have d0 : a < l.length := by omega
    have d1 : i < l.length := by omega
    by_cases c2 : l.getD i 0 < l.getD a 0
    · obtain ⟨i', g1, g2, g3, g4, g5⟩ := @ih (i + 1) (by omega) (by omega)
      refine ⟨i', ?_, by omega, g3, fun k k1 k2 => ?_, g5⟩
      · rw [← g1]
        refine loopV_next ?_
        simp only [slices_partitionOrdered_int_L4, decide_eq_true (show (i : Int) ≤ (m : Int) - 1 by omega), cond_true, inb_nat d0, inb_nat d1, Int.toNat_natCast, get_some d0, get_some d1, Option.bind_some, lessS_int, decide_eq_true c2, cond_true, i64_up d1 (show l.length ≤ big by unfold big; omega)]
      · by_cases k3 : k = i
        · rw [k3]; exact c2
        · exact g4 k (by omega) k2
    · refine ⟨i, loopV_done ?_, Nat.le_refl _, by omega, fun k k1 k2 => by omega, fun _ => c2⟩
      simp only [slices_partitionOrdered_int_L4, decide_eq_true (show (i : Int) ≤ (m : Int) - 1 by omega), cond_true, inb_nat d0, inb_nat d1, Int.toNat_natCast, get_some d0, get_some d1, Option.bind_some, lessS_int, decide_eq_false c2, cond_false]
theorem qU2_int {a m : Nat} {l : List Int} (hl : l.length ≤ 49) (h3 : m ≤ l.length) : ∀ {n i : Nat}, m = i + n → a < i →
    ∃ i' : Nat, loopV (slices_partitionEqualOrdered_int_L2 (a : Int) ((m : Int) - 1)) (((), ((i : Int), ())), (l, ())) = some (((), ((i' : Int), ())), (l, ())) ∧ i ≤ i' ∧ i' ≤ m ∧ (∀ k, i ≤ k → k < i' → ¬ l.getD a 0 < l.getD k 0) ∧ (i' < m → ¬ ¬ l.getD a 0 < l.getD i' 0) := by
  intro n
  induction n with
  | zero =>
    intro i h1 h2
    refine ⟨i, loopV_done ?_, Nat.le_refl _, by omega, fun k k1 k2 => by omega, fun h => by omega⟩
    simp only [slices_partitionEqualOrdered_int_L2]
    rw [bif_f (decide_eq_false (by omega))]
  | succ n ih =>
    intro i h1 h2
    have d0 : a < l.length := by omega
    have d1 : i < l.length := by omega
    by_cases c2 : l.getD a 0 < l.getD i 0
    · refine ⟨i, loopV_done ?_, Nat.le_refl _, by omega, fun k k1 k2 => by omega, fun _ h => h c2⟩
      simp only [slices_partitionEqualOrdered_int_L2, decide_eq_true (show (i : Int) ≤ (m : Int) - 1 by omega), cond_true, inb_nat d0, inb_nat d1, Int.toNat_natCast, get_some d0, get_some d1, Option.bind_some, lessS_int, decide_eq_true c2, Bool.not_true, cond_false]
    · obtain ⟨i', g1, g2, g3, g4, g5⟩ := @ih (i + 1) (by omega) (by omega)
      refine ⟨i', ?_, by omega, g3, fun k k1 k2 => ?_, g5⟩
      · rw [← g1]
        refine loopV_next ?_
        simp only [slices_partitionEqualOrdered_int_L2, decide_eq_true (show (i : Int) ≤ (m : Int) - 1 by omega), cond_true, inb_nat d0, inb_nat d1, Int.toNat_natCast, get_some d0, get_some d1, Option.bind_some, lessS_int, decide_eq_false c2, Bool.not_false, cond_true, i64_up d1 (show l.length ≤ big by unfold big; omega)]
      · by_cases k3 : k = i
        · rw [k3]; exact c2
        · exact g4 k (by omega) k2
theorem pD2_int {a i : Nat} {l : List Int} (hl : l.length ≤ 49) (hai : a < i) : ∀ {n m : Nat}, m = i + n → m ≤ l.length →
    ∃ m' : Nat, loopV (slices_partitionOrdered_int_L2 (a : Int) (i : Int)) (((), (((m : Int) - 1), ())), (l, ())) = some (((), (((m' : Int) - 1), ())), (l, ())) ∧ i ≤ m' ∧ m' ≤ m ∧ (∀ k, m' ≤ k → k < m → ¬ l.getD k 0 < l.getD a 0) ∧ (i < m' → ¬ ¬ l.getD (m' - 1) 0 < l.getD a 0) := by
  intro n
  induction n with
  | zero =>
    intro m h1 h2
    refine ⟨m, loopV_done ?_, by omega, Nat.le_refl _, fun k k1 k2 => by omega, fun h => by omega⟩
    simp only [slices_partitionOrdered_int_L2]
    rw [bif_f (decide_eq_false (by omega))]
  | succ n ih =>
    intro m h1 h2
    have d0 : a < l.length := by omega
    have d1 : i + n < l.length := by omega
    have ej : (m : Int) - 1 = ((i + n : Nat) : Int) := by omega
    by_cases c2 : l.getD (i + n) 0 < l.getD a 0
    · refine ⟨m, loopV_done ?_, by omega, Nat.le_refl _, fun k k1 k2 => by omega, fun _ => ?_⟩
      · simp only [slices_partitionOrdered_int_L2, ej, decide_eq_true (show (i : Int) ≤ ((i + n : Nat) : Int) by omega), cond_true, inb_nat d0, inb_nat d1, Int.toNat_natCast, get_some d0, get_some d1, Option.bind_some, lessS_int, decide_eq_true c2, Bool.not_true, cond_false]
      · rw [show m - 1 = i + n by omega]; exact fun h => h c2
    · obtain ⟨m', g1, g2, g3, g4, g5⟩ := @ih (i + n) rfl (by omega)
      refine ⟨m', ?_, g2, by omega, fun k k1 k2 => ?_, g5⟩
      · rw [← g1]
        refine loopV_next ?_
        simp only [slices_partitionOrdered_int_L2, ej, decide_eq_true (show (i : Int) ≤ ((i + n : Nat) : Int) by omega), cond_true, inb_nat d0, inb_nat d1, Int.toNat_natCast, get_some d0, get_some d1, Option.bind_some, lessS_int, decide_eq_false c2, Bool.not_false, cond_true]
        rw [IntWalk.i64_in _ (by omega)]
      · by_cases k3 : k = i + n
        · rw [k3]; exact c2
        · exact g4 k k1 (by omega)
theorem pD5_int {a i : Nat} {l : List Int} (hl : l.length ≤ 49) (hai : a < i) : ∀ {n m : Nat}, m = i + n → m ≤ l.length →
    ∃ m' : Nat, loopV (slices_partitionOrdered_int_L5 (a : Int) (i : Int)) (((), (((m : Int) - 1), ())), (l, ())) = some (((), (((m' : Int) - 1), ())), (l, ())) ∧ i ≤ m' ∧ m' ≤ m ∧ (∀ k, m' ≤ k → k < m → ¬ l.getD k 0 < l.getD a 0) ∧ (i < m' → ¬ ¬ l.getD (m' - 1) 0 < l.getD a 0) := by
  intro n
  induction n with
  | zero =>
    intro m h1 h2
    refine ⟨m, loopV_done ?_, by omega, Nat.le_refl _, fun k k1 k2 => by omega, fun h => by omega⟩
    simp only [slices_partitionOrdered_int_L5]
    rw [bif_f (decide_eq_false (by omega))]
  | succ n ih =>
    intro m h1 h2
    have d0 : a < l.length := by omega
    have d1 : i + n < l.length := by omega
    have ej : (m : Int) - 1 = ((i + n : Nat) : Int) := by omega
    by_cases c2 : l.getD (i + n) 0 < l.getD a 0
    · refine ⟨m, loopV_done ?_, by omega, Nat.le_refl _, fun k k1 k2 => by omega, fun _ => ?_⟩
      · simp only [slices_partitionOrdered_int_L5, ej, decide_eq_true (show (i : Int) ≤ ((i + n : Nat) : Int) by omega), cond_true, inb_nat d0, inb_nat d1, Int.toNat_natCast, get_some d0, get_some d1, Option.bind_some, lessS_int, decide_eq_true c2, Bool.not_true, cond_false]
      · rw [show m - 1 = i + n by omega]; exact fun h => h c2
    · obtain ⟨m', g1, g2, g3, g4, g5⟩ := @ih (i + n) rfl (by omega)
      refine ⟨m', ?_, g2, by omega, fun k k1 k2 => ?_, g5⟩
      · rw [← g1]
        refine loopV_next ?_
        simp only [slices_partitionOrdered_int_L5, ej, decide_eq_true (show (i : Int) ≤ ((i + n : Nat) : Int) by omega), cond_true, inb_nat d0, inb_nat d1, Int.toNat_natCast, get_some d0, get_some d1, Option.bind_some, lessS_int, decide_eq_false c2, Bool.not_false, cond_true]
        rw [IntWalk.i64_in _ (by omega)]
      · by_cases k3 : k = i + n
        · rw [k3]; exact c2
        · exact g4 k k1 (by omega)
theorem qD3_int {a i : Nat} {l : List Int} (hl : l.length ≤ 49) (hai : a < i) : ∀ {n m : Nat}, m = i + n → m ≤ l.length →
    ∃ m' : Nat, loopV (slices_partitionEqualOrdered_int_L3 (a : Int) (i : Int)) (((), (((m : Int) - 1), ())), (l, ())) = some (((), (((m' : Int) - 1), ())), (l, ())) ∧ i ≤ m' ∧ m' ≤ m ∧ (∀ k, m' ≤ k → k < m → l.getD a 0 < l.getD k 0) ∧ (i < m' → ¬ l.getD a 0 < l.getD (m' - 1) 0) := by
  intro n
  induction n with
  | zero =>
    intro m h1 h2
    refine ⟨m, loopV_done ?_, by omega, Nat.le_refl _, fun k k1 k2 => by omega, fun h => by omega⟩
    simp only [slices_partitionEqualOrdered_int_L3]
    rw [bif_f (decide_eq_false (by omega))]
  | succ n ih =>
    intro m h1 h2
    have d0 : a < l.length := by omega
    have d1 : i + n < l.length := by omega
    have ej : (m : Int) - 1 = ((i + n : Nat) : Int) := by omega
    by_cases c2 : l.getD a 0 < l.getD (i + n) 0
    · obtain ⟨m', g1, g2, g3, g4, g5⟩ := @ih (i + n) rfl (by omega)
      refine ⟨m', ?_, g2, by omega, fun k k1 k2 => ?_, g5⟩
      · rw [← g1]
        refine loopV_next ?_
        simp only [slices_partitionEqualOrdered_int_L3, ej, decide_eq_true (show (i : Int) ≤ ((i + n : Nat) : Int) by omega), cond_true, inb_nat d0, inb_nat d1, Int.toNat_natCast, get_some d0, get_some d1, Option.bind_some, lessS_int, decide_eq_true c2, cond_true]
        rw [IntWalk.i64_in _ (by omega)]
      · by_cases k3 : k = i + n
        · rw [k3]; exact c2
        · exact g4 k k1 (by omega)
    · refine ⟨m, loopV_done ?_, by omega, Nat.le_refl _, fun k k1 k2 => by omega, fun _ => ?_⟩
      · simp only [slices_partitionEqualOrdered_int_L3, ej, decide_eq_true (show (i : Int) ≤ ((i + n : Nat) : Int) by omega), cond_true, inb_nat d0, inb_nat d1, Int.toNat_natCast, get_some d0, get_some d1, Option.bind_some, lessS_int, decide_eq_false c2, cond_false]
      · rw [show m - 1 = i + n by omega]; exact c2
theorem equal_int {a b pv : Nat} {l : List Int} (hb : b ≤ l.length) (hl : l.length ≤ 49) (h1 : a ≤ pv) (h2 : pv < b) :
    ∃ (mid : Nat) (l' : List Int), slices_partitionEqualOrdered_int (a : Int) (b : Int) (pv : Int) l = some (((mid : Int), ()), (l', ())) ∧ Sw a b l l' ∧ a < mid ∧ mid ≤ b ∧ (∀ k, a ≤ k → k < mid → l'.getD k 0 ≤ l.getD pv 0) ∧ (∀ k, mid ≤ k → k < b → l.getD pv 0 < l'.getD k 0) := by
  have key : ∀ (n i m : Nat) (l : List Int), m ≤ i + n → a < i → i ≤ m → m ≤ b → b ≤ l.length → l.length ≤ 49 → (∀ k, a ≤ k → k < i → ¬ l.getD a 0 < l.getD k 0) → (∀ k, m ≤ k → k < b → l.getD a 0 < l.getD k 0) →
      ∃ (mid : Nat) (l' : List Int), loopV (slices_partitionEqualOrdered_int_L1 (a : Int)) (((), ((i : Int), (((m : Int) - 1), ()))), (l, ())) = some (((mid : Int), ()), (l', ())) ∧ Sw a b l l' ∧ a < mid ∧ mid ≤ b ∧ l'.getD a 0 = l.getD a 0 ∧ (∀ k, a ≤ k → k < mid → ¬ l'.getD a 0 < l'.getD k 0) ∧ (∀ k, mid ≤ k → k < b → l'.getD a 0 < l'.getD k 0) := by
    intro n
    induction n with
    | zero =>
      intro i m l hn hi him hm hbl hl hL hR
      have him' : m = i := by omega
      subst him'
      obtain ⟨i', f1, f2, f3, _, _⟩ := qU2_int (a := a) (m := m) hl (by omega) (n := 0) (i := m) rfl hi
      have : i' = m := by omega
      subst this
      obtain ⟨m', g1, g2, g3, _, _⟩ := qD3_int (a := a) (i := i') hl hi (n := 0) (m := i') rfl (by omega)
      have : m' = i' := by omega
      subst this
      refine ⟨m', l, loopV_done ?_, .refl, hi, hm, rfl, hL, hR⟩
      simp only [slices_partitionEqualOrdered_int_L1]
      rw [f1]
      simp only [Option.bind_some]
      rw [g1]
      simp only [Option.bind_some]
      rw [bif_t (decide_eq_true (by omega))]
    | succ n ih =>
      intro i m l hn hi him hm hbl hl hL hR
      obtain ⟨i', f1, f2, f3, f4, f5⟩ := qU2_int (a := a) (m := m) hl (by omega) (n := m - i) (i := i) (by omega) hi
      obtain ⟨m', g1, g2, g3, g4, g5⟩ := qD3_int (a := a) (i := i') hl (by omega) (n := m - i') (m := m) (by omega) (by omega)
      have hL' : ∀ k, a ≤ k → k < i' → ¬ l.getD a 0 < l.getD k 0 := fun k k1 k2 => by
        by_cases c : k < i
        · exact hL k k1 c
        · exact f4 k (by omega) k2
      have hR' : ∀ k, m' ≤ k → k < b → l.getD a 0 < l.getD k 0 := fun k k1 k2 => by
        by_cases c : m ≤ k
        · exact hR k c k2
        · exact g4 k k1 (by omega)
      by_cases c : m' ≤ i'
      · have : m' = i' := by omega
        subst this
        refine ⟨m', l, loopV_done ?_, .refl, by omega, by omega, rfl, hL', hR'⟩
        simp only [slices_partitionEqualOrdered_int_L1]
        rw [f1]
        simp only [Option.bind_some]
        rw [g1]
        simp only [Option.bind_some]
        rw [bif_t (decide_eq_true (by omega))]
      · have k5 := f5 (by omega)
        have k6 := g5 (by omega)
        have k5' : l.getD a 0 < l.getD i' 0 := by omega
        have hne : i' ≠ m' - 1 := fun h => by rw [← h] at k6; exact k6 k5'
        have d1 : i' < l.length := by omega
        have d2 : m' - 1 < l.length := by omega
        have d3 : m' - 1 < (l.set i' (l.getD (m' - 1) 0)).length := by simpa using d2
        have ga : (sw l i' (m' - 1)).getD a 0 = l.getD a 0 := by rw [getD_sw d1 d2, if_neg (by omega), if_neg (by omega)]
        obtain ⟨mid, l', q1, q2, q3, q4, q5, q6, q7⟩ := ih (i' + 1) (m' - 1) (sw l i' (m' - 1)) (by omega) (by omega) (by omega) (by omega) (by rw [sw_length]; exact hbl) (by rw [sw_length]; exact hl)
          (fun k k1 k2 => by
            rw [ga, getD_sw d1 d2, if_neg (show ¬ k = m' - 1 by omega)]
            by_cases c2 : k = i'
            · rw [if_pos c2]; exact k6
            · rw [if_neg c2]; exact hL' k k1 (by omega))
          (fun k k1 k2 => by
            rw [ga, getD_sw d1 d2]
            by_cases c2 : k = m' - 1
            · rw [if_pos c2]; exact k5'
            · rw [if_neg c2, if_neg (by omega)]; exact hR' k (by omega) k2)
        refine ⟨mid, l', ?_, (Sw.sw d1 d2 (by omega) (by omega) (by omega) (by omega)).trans q2, q3, q4, by rw [q5, ga], q6, q7⟩
        rw [← q1]
        refine loopV_next ?_
        simp only [slices_partitionEqualOrdered_int_L1]
        rw [f1]
        simp only [Option.bind_some]
        rw [g1]
        simp only [Option.bind_some]
        rw [bif_f (decide_eq_false (by omega)), show (m' : Int) - 1 = ((m' - 1 : Nat) : Int) by omega]
        simp only [inb_nat d1, inb_nat d2, cond_true, Int.toNat_natCast, get_some d1, get_some d2, Option.bind_some, inb_nat d3, get_some d3, i64_up d1 (show l.length ≤ big by unfold big; omega)]
        rw [IntWalk.i64_in (((m' - 1 : Nat) : Int) - 1) (by omega)]
        rfl
  have d1 : a < l.length := by omega
  have d2 : pv < l.length := by omega
  have d3 : pv < (l.set a (l.getD pv 0)).length := by simpa using d2
  have ga : (sw l a pv).getD a 0 = l.getD pv 0 := by
    rw [getD_sw d1 d2]
    by_cases c : a = pv
    · rw [if_pos c, c]
    · rw [if_neg c, if_pos rfl]
  obtain ⟨mid, l', q1, q2, q3, q4, q5, q6, q7⟩ := key b (a + 1) b (sw l a pv) (by omega) (by omega) (by omega) (Nat.le_refl _) (by rw [sw_length]; exact hb) (by rw [sw_length]; exact hl)
    (fun k k1 k2 => by have : k = a := by omega
                       rw [this]; omega) (fun k k1 k2 => by omega)
  refine ⟨mid, l', ?_, (Sw.sw d1 d2 (Nat.le_refl _) (by omega) h1 h2).trans q2, q3, q4, fun k k1 k2 => ?_, fun k k1 k2 => ?_⟩
  · unfold slices_partitionEqualOrdered_int
    have q1' : loopV (slices_partitionEqualOrdered_int_L1 (a : Int)) (((), (((a + 1 : Nat) : Int), (((b : Int) - 1), ()))), ((l.set a (l.getD pv 0)).set pv (l.getD a 0), ())) = some (((mid : Int), ()), (l', ())) := q1
    simp only [inb_nat d1, inb_nat d2, cond_true, Int.toNat_natCast, get_some d1, get_some d2, Option.bind_some, inb_nat d3, get_some d3]
    rw [show IntKind.i64.wrap ((a : Int) + 1) = ((a + 1 : Nat) : Int) by rw [IntWalk.i64_in _ (by omega)]; omega, IntWalk.i64_in ((b : Int) - 1) (by omega), q1']
    rfl
  · have := q6 k k1 k2; rw [q5, ga] at this; omega
  · have := q7 k k1 k2; rw [q5, ga] at this; exact this
theorem part_int {a b pv : Nat} {l : List Int} (hb : b ≤ l.length) (hl : l.length ≤ 49) (h1 : a ≤ pv) (h2 : pv < b) :
    ∃ (mid : Nat) (f : Bool) (l' : List Int), slices_partitionOrdered_int (a : Int) (b : Int) (pv : Int) l = some (((mid : Int), (f, ())), (l', ())) ∧ Sw a b l l' ∧ a ≤ mid ∧ mid < b ∧ (∀ k, a ≤ k → k < mid → l'.getD k 0 ≤ l'.getD mid 0) ∧ (∀ k, mid < k → k < b → l'.getD mid 0 ≤ l'.getD k 0) := by
  have key : ∀ (n i m : Nat) (l : List Int), m ≤ i + n → a < i → i ≤ m → m ≤ b → b ≤ l.length → l.length ≤ 49 → (∀ k, a < k → k < i → l.getD k 0 < l.getD a 0) → (∀ k, m ≤ k → k < b → ¬ l.getD k 0 < l.getD a 0) →
      ∃ (mid : Nat) (l' : List Int), loopV (slices_partitionOrdered_int_L3 (a : Int)) (((), ((i : Int), (((m : Int) - 1), ()))), (l, ())) = some (((), (((mid : Int) - 1), ())), (l', ())) ∧ Sw a b l l' ∧ a < mid ∧ mid ≤ b ∧ (∀ k, a < k → k < mid → l'.getD k 0 < l'.getD a 0) ∧ (∀ k, mid ≤ k → k < b → ¬ l'.getD k 0 < l'.getD a 0) := by
    intro n
    induction n with
    | zero =>
      intro i m l hn hi him hm hbl hl hL hR
      have him' : m = i := by omega
      subst him'
      obtain ⟨i', f1, f2, f3, _, _⟩ := pU4_int (a := a) (m := m) hl (by omega) (n := 0) (i := m) rfl hi
      have : i' = m := by omega
      subst this
      obtain ⟨m', g1, g2, g3, _, _⟩ := pD5_int (a := a) (i := i') hl hi (n := 0) (m := i') rfl (by omega)
      have : m' = i' := by omega
      subst this
      refine ⟨m', l, loopV_done ?_, .refl, hi, hm, hL, hR⟩
      simp only [slices_partitionOrdered_int_L3]
      rw [f1]
      simp only [Option.bind_some]
      rw [g1]
      simp only [Option.bind_some]
      rw [bif_t (decide_eq_true (by omega))]
    | succ n ih =>
      intro i m l hn hi him hm hbl hl hL hR
      obtain ⟨i', f1, f2, f3, f4, f5⟩ := pU4_int (a := a) (m := m) hl (by omega) (n := m - i) (i := i) (by omega) hi
      obtain ⟨m', g1, g2, g3, g4, g5⟩ := pD5_int (a := a) (i := i') hl (by omega) (n := m - i') (m := m) (by omega) (by omega)
      have hL' : ∀ k, a < k → k < i' → l.getD k 0 < l.getD a 0 := fun k k1 k2 => by
        by_cases c : k < i
        · exact hL k k1 c
        · exact f4 k (by omega) k2
      have hR' : ∀ k, m' ≤ k → k < b → ¬ l.getD k 0 < l.getD a 0 := fun k k1 k2 => by
        by_cases c : m ≤ k
        · exact hR k c k2
        · exact g4 k k1 (by omega)
      by_cases c : m' ≤ i'
      · have : m' = i' := by omega
        subst this
        refine ⟨m', l, loopV_done ?_, .refl, by omega, by omega, hL', hR'⟩
        simp only [slices_partitionOrdered_int_L3]
        rw [f1]
        simp only [Option.bind_some]
        rw [g1]
        simp only [Option.bind_some]
        rw [bif_t (decide_eq_true (by omega))]
      · have k5 := f5 (by omega)
        have k6 := g5 (by omega)
        have k6' : l.getD (m' - 1) 0 < l.getD a 0 := by omega
        have hne : i' ≠ m' - 1 := fun h => by rw [← h] at k6'; exact k5 k6'
        have d1 : i' < l.length := by omega
        have d2 : m' - 1 < l.length := by omega
        have d3 : m' - 1 < (l.set i' (l.getD (m' - 1) 0)).length := by simpa using d2
        have ga : (sw l i' (m' - 1)).getD a 0 = l.getD a 0 := by rw [getD_sw d1 d2, if_neg (by omega), if_neg (by omega)]
        obtain ⟨mid, l', q1, q2, q3, q4, q6, q7⟩ := ih (i' + 1) (m' - 1) (sw l i' (m' - 1)) (by omega) (by omega) (by omega) (by omega) (by rw [sw_length]; exact hbl) (by rw [sw_length]; exact hl)
          (fun k k1 k2 => by
            rw [ga, getD_sw d1 d2, if_neg (show ¬ k = m' - 1 by omega)]
            by_cases c2 : k = i'
            · rw [if_pos c2]; exact k6'
            · rw [if_neg c2]; exact hL' k k1 (by omega))
          (fun k k1 k2 => by
            rw [ga, getD_sw d1 d2]
            by_cases c2 : k = m' - 1
            · rw [if_pos c2]; exact k5
            · rw [if_neg c2, if_neg (by omega)]; exact hR' k (by omega) k2)
        refine ⟨mid, l', ?_, (Sw.sw d1 d2 (by omega) (by omega) (by omega) (by omega)).trans q2, q3, q4, q6, q7⟩
        rw [← q1]
        refine loopV_next ?_
        simp only [slices_partitionOrdered_int_L3]
        rw [f1]
        simp only [Option.bind_some]
        rw [g1]
        simp only [Option.bind_some]
        rw [bif_f (decide_eq_false (by omega)), show (m' : Int) - 1 = ((m' - 1 : Nat) : Int) by omega]
        simp only [inb_nat d1, inb_nat d2, cond_true, Int.toNat_natCast, get_some d1, get_some d2, Option.bind_some, inb_nat d3, get_some d3, i64_up d1 (show l.length ≤ big by unfold big; omega)]
        rw [IntWalk.i64_in (((m' - 1 : Nat) : Int) - 1) (by omega)]
        rfl
  -- the pivot goes to its place
  have fin : ∀ (mid : Nat) (l : List Int), a < mid → mid ≤ b → b ≤ l.length → (∀ k, a < k → k < mid → l.getD k 0 < l.getD a 0) → (∀ k, mid ≤ k → k < b → ¬ l.getD k 0 < l.getD a 0) →
      Sw a b l (sw l (mid - 1) a) ∧ (∀ k, a ≤ k → k < mid - 1 → (sw l (mid - 1) a).getD k 0 ≤ (sw l (mid - 1) a).getD (mid - 1) 0) ∧ (∀ k, mid - 1 < k → k < b → (sw l (mid - 1) a).getD (mid - 1) 0 ≤ (sw l (mid - 1) a).getD k 0) := by
    intro mid l h1 h2 h3 hL hR
    have d1 : mid - 1 < l.length := by omega
    have d2 : a < l.length := by omega
    have gm : (sw l (mid - 1) a).getD (mid - 1) 0 = l.getD a 0 := by
      rw [getD_sw d1 d2]
      by_cases c : mid - 1 = a
      · rw [if_pos c, c]
      · rw [if_neg c, if_pos rfl]
    refine ⟨Sw.sw d1 d2 (by omega) (by omega) (Nat.le_refl _) (by omega), fun k k1 k2 => ?_, fun k k1 k2 => ?_⟩
    · rw [gm, getD_sw d1 d2]
      by_cases c : k = a
      · rw [if_pos c]
        have := hL (mid - 1) (by omega) (by omega); omega
      · rw [if_neg c, if_neg (by omega)]
        have := hL k (by omega) (by omega); omega
    · rw [gm, getD_sw d1 d2, if_neg (by omega), if_neg (by omega)]
      have := hR k (by omega) k2; omega
  have d1 : a < l.length := by omega
  have d2 : pv < l.length := by omega
  have d3 : pv < (l.set a (l.getD pv 0)).length := by simpa using d2
  have hsw0 := Sw.sw (l := l) (a := a) (b := b) d1 d2 (Nat.le_refl _) (by omega) h1 h2
  have hdef : (l.set a (l.getD pv 0)).set pv (l.getD a 0) = sw l a pv := rfl
  unfold slices_partitionOrdered_int
  simp only [inb_nat d1, inb_nat d2, cond_true, Int.toNat_natCast, get_some d1, get_some d2, Option.bind_some, inb_nat d3, get_some d3, hdef]
  have hlen : (sw l a pv).length = l.length := sw_length
  generalize sw l a pv = m at *
  rw [show IntKind.i64.wrap ((a : Int) + 1) = ((a + 1 : Nat) : Int) by rw [IntWalk.i64_in _ (by omega)]; omega, IntWalk.i64_in ((b : Int) - 1) (by omega)]
  obtain ⟨i', f1, f2, f3, f4, f5⟩ := pU1_int (a := a) (m := b) (l := m) (by omega) (by omega) (n := b - (a + 1)) (i := a + 1) (by omega) (by omega)
  obtain ⟨m', g1, g2, g3, g4, g5⟩ := pD2_int (a := a) (i := i') (l := m) (by omega) (by omega) (n := b - i') (m := b) (by omega) (by omega)
  rw [f1]
  simp only [Option.bind_some]
  rw [g1]
  simp only [Option.bind_some]
  have e0 : a < m.length := by omega
  have e1 : m' - 1 < m.length := by omega
  by_cases c : m' ≤ i'
  · have : m' = i' := by omega
    subst this
    obtain ⟨s1, s2, s3⟩ := fin m' m (by omega) (by omega) (by omega) (fun k k1 k2 => f4 k (by omega) k2) (fun k k1 k2 => g4 k k1 k2)
    have e3 : a < (m.set (m' - 1) (m.getD a 0)).length := by simpa using e0
    rw [bif_t (decide_eq_true (by omega)), show (m' : Int) - 1 = ((m' - 1 : Nat) : Int) by omega]
    simp only [inb_nat e0, inb_nat e1, cond_true, Int.toNat_natCast, get_some e0, get_some e1, Option.bind_some, inb_nat e3, get_some e3]
    exact ⟨m' - 1, true, sw m (m' - 1) a, rfl, hsw0.trans s1, by omega, by omega, s2, s3⟩
  · have k5 := f5 (by omega)
    have k6 := g5 (by omega)
    have k6' : m.getD (m' - 1) 0 < m.getD a 0 := by omega
    have hne : i' ≠ m' - 1 := fun h => by rw [← h] at k6'; exact k5 k6'
    have e2 : i' < m.length := by omega
    have e3 : m' - 1 < (m.set i' (m.getD (m' - 1) 0)).length := by simpa using e1
    have ga : (sw m i' (m' - 1)).getD a 0 = m.getD a 0 := by rw [getD_sw e2 e1, if_neg (by omega), if_neg (by omega)]
    obtain ⟨mid, l', q1, q2, q3, q4, q6, q7⟩ := key b (i' + 1) (m' - 1) (sw m i' (m' - 1)) (by omega) (by omega) (by omega) (by omega) (by rw [sw_length]; omega) (by rw [sw_length]; omega)
      (fun k k1 k2 => by
        rw [ga, getD_sw e2 e1, if_neg (show ¬ k = m' - 1 by omega)]
        by_cases c2 : k = i'
        · rw [if_pos c2]; exact k6'
        · rw [if_neg c2]; exact f4 k (by omega) (by omega))
      (fun k k1 k2 => by
        rw [ga, getD_sw e2 e1]
        by_cases c2 : k = m' - 1
        · rw [if_pos c2]; exact k5
        · rw [if_neg c2, if_neg (by omega)]; exact g4 k (by omega) k2)
    have hl' := q2.length
    rw [sw_length] at hl'
    have t0 : a < l'.length := by omega
    have t1 : mid - 1 < l'.length := by omega
    have t3 : a < (l'.set (mid - 1) (l'.getD a 0)).length := by simpa using t0
    obtain ⟨s1, s2, s3⟩ := fin mid l' q3 q4 (by omega) q6 q7
    have q1' : loopV (slices_partitionOrdered_int_L3 (a : Int)) (((), (((i' + 1 : Nat) : Int), ((((m' - 1 : Nat) : Int) - 1), ()))), ((m.set i' (m.getD (m' - 1) 0)).set (m' - 1) (m.getD i' 0), ())) = some (((), (((mid : Int) - 1), ())), (l', ())) := q1
    rw [bif_f (decide_eq_false (by omega)), show (m' : Int) - 1 = ((m' - 1 : Nat) : Int) by omega]
    simp only [inb_nat e2, inb_nat e1, cond_true, Int.toNat_natCast, get_some e2, get_some e1, Option.bind_some, inb_nat e3, get_some e3, i64_up e2 (show m.length ≤ big by unfold big; omega)]
    rw [IntWalk.i64_in (((m' - 1 : Nat) : Int) - 1) (by omega), q1', show (mid : Int) - 1 = ((mid - 1 : Nat) : Int) by omega]
    simp only [inb_nat t0, inb_nat t1, cond_true, Int.toNat_natCast, get_some t0, get_some t1, Option.bind_some, inb_nat t3, get_some t3]
    exact ⟨mid - 1, false, sw l' (mid - 1) a, rfl, (hsw0.trans ((Sw.sw e2 e1 (by omega) (by omega) (by omega) (by omega)).trans q2)).trans s1, by omega, by omega, s2, s3⟩
/-! ### the sort -/
theorem join_int {a mid b : Nat} {l m : List Int} (h1 : a ≤ mid) (h2 : mid < b) (hL : ∀ k, a ≤ k → k < mid → l.getD k 0 ≤ l.getD mid 0) (hR : ∀ k, mid < k → k < b → l.getD mid 0 ≤ l.getD k 0)
    {m1 : List Int} (s1 : Sw a mid l m1) (o1 : SrtOn a mid m1) (s2 : Sw (mid + 1) b m1 m) (o2 : SrtOn (mid + 1) b m) : Sw a b l m ∧ SrtOn a b m := by
  refine ⟨(s1.mono (Nat.le_refl _) (by omega)).trans (s2.mono (by omega) (Nat.le_refl _)), fun i j i1 i2 i3 => ?_⟩
  have em : m.getD mid 0 = l.getD mid 0 := by rw [s2.out mid (by omega), s1.out mid (by omega)]
  have lo : ∀ k, a ≤ k → k < mid → m.getD k 0 ≤ m.getD mid 0 := fun k k1 k2 => by
    rw [em, s2.out k (by omega)]
    obtain ⟨q, q1, q2, q3⟩ := s1.inn k k1 k2
    rw [q3]; exact hL q q1 q2
  have up : ∀ k, mid < k → k < b → m.getD mid 0 ≤ m.getD k 0 := fun k k1 k2 => by
    obtain ⟨q, q1, q2, q3⟩ := s2.inn k (by omega) k2
    rw [em, q3, s1.out q (by omega)]; exact hR q (by omega) q2
  by_cases c1 : j < mid
  · rw [s2.out i (by omega), s2.out j (by omega)]; exact o1 i j i1 i2 c1
  · by_cases c2 : mid < i
    · exact o2 i j (by omega) i2 i3
    · have a1 : m.getD i 0 ≤ m.getD mid 0 := by
        by_cases c3 : i = mid
        · rw [c3]; exact Int.le_refl _
        · exact lo i i1 (by omega)
      have a2 : m.getD mid 0 ≤ m.getD j 0 := by
        by_cases c3 : j = mid
        · rw [c3]; exact Int.le_refl _
        · exact up j (by omega) i3
      omega
theorem join2_int {a mid b : Nat} {l m : List Int} (h1 : a ≤ mid) (h2 : mid < b) (hL : ∀ k, a ≤ k → k < mid → l.getD k 0 ≤ l.getD mid 0) (hR : ∀ k, mid < k → k < b → l.getD mid 0 ≤ l.getD k 0)
    {m1 : List Int} (s1 : Sw (mid + 1) b l m1) (o1 : SrtOn (mid + 1) b m1) (s2 : Sw a mid m1 m) (o2 : SrtOn a mid m) : Sw a b l m ∧ SrtOn a b m := by
  refine ⟨(s1.mono (by omega) (Nat.le_refl _)).trans (s2.mono (Nat.le_refl _) (by omega)), fun i j i1 i2 i3 => ?_⟩
  have em : m.getD mid 0 = l.getD mid 0 := by rw [s2.out mid (by omega), s1.out mid (by omega)]
  have lo : ∀ k, a ≤ k → k < mid → m.getD k 0 ≤ m.getD mid 0 := fun k k1 k2 => by
    obtain ⟨q, q1, q2, q3⟩ := s2.inn k k1 k2
    rw [em, q3, s1.out q (by omega)]; exact hL q q1 q2
  have up : ∀ k, mid < k → k < b → m.getD mid 0 ≤ m.getD k 0 := fun k k1 k2 => by
    rw [em, s2.out k (by omega)]
    obtain ⟨q, q1, q2, q3⟩ := s1.inn k (by omega) k2
    rw [q3]; exact hR q (by omega) q2
  by_cases c1 : j < mid
  · exact o2 i j i1 i2 c1
  · by_cases c2 : mid < i
    · rw [s2.out i (by omega), s2.out j (by omega)]; exact o1 i j (by omega) i2 i3
    · have a1 : m.getD i 0 ≤ m.getD mid 0 := by
        by_cases c3 : i = mid
        · rw [c3]; exact Int.le_refl _
        · exact lo i i1 (by omega)
      have a2 : m.getD mid 0 ≤ m.getD j 0 := by
        by_cases c3 : j = mid
        · rw [c3]; exact Int.le_refl _
        · exact up j (by omega) i3
      omega
/-- What sorting part of a slice answers. -/
def Sorts_int (self : ((Unit × Int × Int × Int × Unit) × (List Int) × Unit) → Option ((Unit) × (List Int) × Unit)) (n : Nat) : Prop :=
  ∀ (a b : Nat) (lim : Int) (l : List Int), a ≤ b → b < a + n → b ≤ l.length → l.length ≤ 49 → (0 < a → ∀ k, a ≤ k → k < b → l.getD (a - 1) 0 ≤ l.getD k 0) →
    ∃ l', self (((), ((a : Int), ((b : Int), (lim, ())))), (l, ())) = some ((), (l', ())) ∧ Sw a b l l' ∧ SrtOn a b l'
theorem pdq_loop_int {self : ((Unit × Int × Int × Int × Unit) × (List Int) × Unit) → Option ((Unit) × (List Int) × Unit)} {N : Nat} (hs : Sorts_int self N) :
    ∀ (s a b : Nat) (lim : Int) (bal part : Bool) (l : List Int), b = a + s → s ≤ N → b ≤ l.length → l.length ≤ 49 → (0 < a → ∀ k, a ≤ k → k < b → l.getD (a - 1) 0 ≤ l.getD k 0) →
      ∃ l', loopV (slices_pdqsortOrdered_int_L1 self) (((), ((a : Int), ((b : Int), (lim, (bal, (part, ())))))), (l, ())) = some ((), (l', ())) ∧ Sw a b l l' ∧ SrtOn a b l' := by
  intro s
  induction s using Nat.strongRecOn with
  | _ s ih =>
    intro a b lim bal part l hb hN hbl hl hpre
    have e0 : IntKind.i64.wrap ((b : Int) - (a : Int)) = (s : Int) := by rw [IntWalk.i64_in _ (by omega)]; omega
    by_cases c1 : s ≤ 12
    · obtain ⟨l', g1, g2, g3⟩ := ins_eq_int (a := a) (b := b) (l := l) hbl (by omega) hl
      refine ⟨l', loopV_done ?_, g2, g3⟩
      simp only [slices_pdqsortOrdered_int_L1, e0]
      rw [bif_t (decide_eq_true (by omega)), g1]
      rfl
    by_cases c2 : lim = 0
    · obtain ⟨l', g1, g2, g3⟩ := heap_eq_int (a := a) (b := b) (l := l) hbl (by omega) hl
      refine ⟨l', loopV_done ?_, g2, g3⟩
      simp only [slices_pdqsortOrdered_int_L1, e0]
      rw [bif_f (decide_eq_false (by omega)), bif_t (decide_eq_true c2), g1]
      rfl
    -- patterns
    obtain ⟨lim2, l1, hJ2, w1⟩ : ∃ (lim2 : Int) (l1 : List Int), slices_pdqsortOrdered_int_J2 self (a : Int) (b : Int) bal (((), (lim, ())), (l, ())) = some (((), (lim2, ())), (l1, ())) ∧ Sw a b l l1 := by
      unfold slices_pdqsortOrdered_int_J2
      cases bal with
      | true => exact ⟨lim, l, rfl, .refl⟩
      | false =>
        obtain ⟨l1, g1, g2⟩ := break_int (a := a) (b := b) (l := l) hbl hl (by omega)
        simp only [Bool.not_false, cond_true]
        rw [g1]
        exact ⟨_, l1, rfl, g2⟩
    have n1 := w1.length
    obtain ⟨p, h, hC, p1, p2⟩ := choose_int (a := a) (b := b) (l := l1) (by omega) (by omega) (by omega)
    obtain ⟨p', h', l2, hJ3, w2, p3, p4⟩ : ∃ (p' : Nat) (h' : Int) (l2 : List Int), slices_pdqsortOrdered_int_J3 self (a : Int) (b : Int) (((), ((p : Int), (h, ()))), (l1, ())) = some (((), ((p' : Int), (h', ()))), (l2, ())) ∧ Sw a b l1 l2 ∧ a ≤ p' ∧ p' < b := by
      unfold slices_pdqsortOrdered_int_J3
      by_cases ch : h = 2
      · obtain ⟨l2, g1, g2⟩ := reverse_int (a := a) (b := b) (l := l1) (by omega) (by omega) (by omega)
        rw [bif_t (decide_eq_true ch)]
        simp only
        rw [g1]
        refine ⟨b - 1 - (p - a), 1, l2, ?_, g2, by omega, by omega⟩
        simp only [Option.bind_some]
        rw [IntWalk.i64_in ((b : Int) - 1) (by omega), IntWalk.i64_in ((p : Int) - (a : Int)) (by omega), IntWalk.i64_in ((b : Int) - 1 - ((p : Int) - (a : Int))) (by omega), show (b : Int) - 1 - ((p : Int) - (a : Int)) = ((b - 1 - (p - a) : Nat) : Int) by omega]
      · rw [bif_f (decide_eq_false ch)]
        exact ⟨p, h, l1, rfl, .refl, p1, p2⟩
    have n2 := w2.length
    have w12 := w1.trans w2
    -- nearly sorted
    have hJ4 : (slices_pdqsortOrdered_int_J4 self (a : Int) (b : Int) bal part h' (((), ()), (l2, ())) = some (.inl ((), (l2, ()))) ∧ SrtOn a b l2) ∨ slices_pdqsortOrdered_int_J4 self (a : Int) (b : Int) bal part h' (((), ()), (l2, ())) = some (.inr (((), ()), (l2, ()))) := by
      unfold slices_pdqsortOrdered_int_J4
      cases bal with
      | false => exact .inr rfl
      | true =>
        cases part with
        | false => exact .inr rfl
        | true =>
          simp only [cond_true]
          by_cases ch : h' = 1
          · obtain ⟨r, g1, g2⟩ := partial_int (a := a) (b := b) (l := l2) (by omega) (by omega) (by omega)
            rw [bif_t (decide_eq_true ch), g1]
            cases r with
            | true => exact .inl ⟨rfl, g2 rfl⟩
            | false => exact .inr rfl
          · rw [bif_f (decide_eq_false ch)]; exact .inr rfl
    have hpre2 : 0 < a → ∀ k, a ≤ k → k < b → l2.getD (a - 1) 0 ≤ l2.getD k 0 := fun h0 k k1 k2 => by
      obtain ⟨q, q1, q2, q3⟩ := w12.inn k k1 k2
      rw [w12.out (a - 1) (by omega), q3]; exact hpre h0 q q1 q2
    have head : ∀ v', slices_pdqsortOrdered_int_L1 self (((), ((a : Int), ((b : Int), (lim, (bal, (part, ())))))), (l, ())) = v' ↔
        ((slices_pdqsortOrdered_int_J4 self (a : Int) (b : Int) bal part h' (((), ()), (l2, ()))).bind fun o2009 =>
      match o2009 with
      | .inl o2010 =>
        some (.inr ((), (o2010.2.1, ())))
      | .inr o2011 =>
        (slices_pdqsortOrdered_int_J5 self (b : Int) (p' : Int) (((), ((a : Int), ())), (o2011.2.1, ()))).bind fun o2012 =>
        match o2012 with
        | .inl o2013 =>
          some (.inl (((), (o2013.1.2.1, ((b : Int), (lim2, (bal, (part, ())))))), (o2013.2.1, ())))
        | .inr o2014 =>
          (slices_partitionOrdered_int o2014.1.2.1 (b : Int) (p' : Int) o2014.2.1).bind fun r2015 =>
          bif (decide ((IntKind.i64.wrap (r2015.1.1 - o2014.1.2.1)) < (IntKind.i64.wrap ((b : Int) - r2015.1.1)))) then
            (self (((), (o2014.1.2.1, (r2015.1.1, (lim2, ())))), (r2015.2.1, ()))).bind fun r2021 =>
            some (.inl (((), ((IntKind.i64.wrap (r2015.1.1 + (1 : Int))), ((b : Int), (lim2, ((decide ((IntKind.i64.wrap (Int.tdiv (s : Int) (8 : Int))) ≤ (IntKind.i64.wrap (r2015.1.1 - o2014.1.2.1)))), (r2015.1.2.1, ())))))), (r2021.2.1, ())))
          else
            (self (((), ((IntKind.i64.wrap (r2015.1.1 + (1 : Int))), ((b : Int), (lim2, ())))), (r2015.2.1, ()))).bind fun r2025 =>
            some (.inl (((), (o2014.1.2.1, (r2015.1.1, (lim2, ((decide ((IntKind.i64.wrap (Int.tdiv (s : Int) (8 : Int))) ≤ (IntKind.i64.wrap ((b : Int) - r2015.1.1)))), (r2015.1.2.1, ())))))), (r2025.2.1, ())))) = v' := by
      intro v'
      simp only [slices_pdqsortOrdered_int_L1, e0]
      rw [bif_f (decide_eq_false (by omega)), bif_f (decide_eq_false c2), hJ2]
      simp only [Option.bind_some]
      rw [hC]
      simp only [Option.bind_some]
      rw [hJ3]
      simp only [Option.bind_some]
      exact Iff.rfl
    rcases hJ4 with ⟨hJ4, hsr⟩ | hJ4
    · refine ⟨l2, loopV_done ((head _).2 ?_), w12, hsr⟩
      rw [hJ4]
      rfl
    -- equal to the one ahead
    by_cases hEq : 0 < a ∧ ¬ l2.getD (a - 1) 0 < l2.getD p' 0
    · obtain ⟨mid, l3, g1, w3, g2, g3, g4, g5⟩ := equal_int (a := a) (b := b) (pv := p') (l := l2) (by omega) (by omega) p3 p4
      have n3 := w3.length
      have hpv : ∀ k, a ≤ k → k < b → l2.getD p' 0 ≤ l3.getD k 0 := fun k k1 k2 => by
        obtain ⟨q, q1, q2, q3⟩ := w3.inn k k1 k2
        have := hpre2 hEq.1 q q1 q2
        rw [q3]; omega
      obtain ⟨l', f1, f2, f3⟩ := ih (b - mid) (by omega) mid b lim2 bal part l3 (by omega) (by omega) (by omega) (by omega) (fun _ k k1 k2 => by
        have := g4 (mid - 1) (by omega) (by omega)
        have := g5 k k1 k2
        omega)
      refine ⟨l', ?_, (w12.trans w3).trans (f2.mono (by omega) (Nat.le_refl _)), fun i j i1 i2 i3 => ?_⟩
      · rw [← f1]
        refine loopV_next ((head _).2 ?_)
        rw [hJ4]
        simp only [Option.bind_some]
        have d1 : a - 1 < l2.length := by omega
        have d2 : p' < l2.length := by omega
        have hJ5 : slices_pdqsortOrdered_int_J5 self (b : Int) (p' : Int) (((), ((a : Int), ())), (l2, ())) = some (.inl (((), ((mid : Int), ())), (l3, ()))) := by
          unfold slices_pdqsortOrdered_int_J5
          simp only [decide_eq_true (show (0 : Int) < (a : Int) by omega), cond_true, i64_dn (i := a) (by omega) (show a ≤ big by unfold big; omega), inb_nat d1, inb_nat d2, Int.toNat_natCast, get_some d1, get_some d2, Option.bind_some, lessS_int, decide_eq_false hEq.2, Bool.not_false]
          rw [g1]
          rfl
        rw [hJ5]
        rfl
      · by_cases k1 : mid ≤ i
        · exact f3 i j k1 i2 i3
        · rw [f2.out i (by omega)]
          have a1 := g4 i i1 (by omega)
          by_cases k2 : mid ≤ j
          · obtain ⟨q, q1, q2, q3⟩ := f2.inn j k2 i3
            have := g5 q q1 q2
            rw [q3]; omega
          · rw [f2.out j (by omega)]
            have := hpv j (by omega) i3
            omega
    · have hJ5 : slices_pdqsortOrdered_int_J5 self (b : Int) (p' : Int) (((), ((a : Int), ())), (l2, ())) = some (.inr (((), ((a : Int), ())), (l2, ()))) := by
        unfold slices_pdqsortOrdered_int_J5
        by_cases k0 : 0 < a
        · have d1 : a - 1 < l2.length := by omega
          have d2 : p' < l2.length := by omega
          have k1 : l2.getD (a - 1) 0 < l2.getD p' 0 := by
            apply Classical.byContradiction
            intro hn
            exact hEq ⟨k0, hn⟩
          simp only [decide_eq_true (show (0 : Int) < (a : Int) by omega), cond_true, i64_dn (i := a) (by omega) (show a ≤ big by unfold big; omega), inb_nat d1, inb_nat d2, Int.toNat_natCast, get_some d1, get_some d2, Option.bind_some, lessS_int, decide_eq_true k1, Bool.not_true, cond_false]
        · rw [bif_f (decide_eq_false (by simp only; omega))]
      obtain ⟨mid, f, l3, g1, w3, m1, m2, g2, g3⟩ := part_int (a := a) (b := b) (pv := p') (l := l2) (by omega) (by omega) p3 p4
      have n3 := w3.length
      have w13 := w12.trans w3
      have hpre3 : 0 < a → ∀ k, a ≤ k → k < b → l3.getD (a - 1) 0 ≤ l3.getD k 0 := fun h0 k k1 k2 => by
        obtain ⟨q, q1, q2, q3⟩ := w3.inn k k1 k2
        rw [w3.out (a - 1) (by omega), q3]; exact hpre2 h0 q q1 q2
      have e5 : IntKind.i64.wrap ((mid : Int) - (a : Int)) = ((mid - a : Nat) : Int) := by rw [IntWalk.i64_in _ (by omega)]; omega
      have e6 : IntKind.i64.wrap ((b : Int) - (mid : Int)) = ((b - mid : Nat) : Int) := by rw [IntWalk.i64_in _ (by omega)]; omega
      have e7 : IntKind.i64.wrap ((mid : Int) + 1) = ((mid + 1 : Nat) : Int) := by rw [IntWalk.i64_in _ (by omega)]; omega
      by_cases c3 : mid - a < b - mid
      · obtain ⟨l4, q1, q2, q3⟩ := hs a mid lim2 l3 m1 (by omega) (by omega) (by omega) (fun h0 k k1 k2 => hpre3 h0 k k1 (by omega))
        have n4 := q2.length
        obtain ⟨l', f1, f2, f3⟩ := ih (b - (mid + 1)) (by omega) (mid + 1) b lim2 (decide ((IntKind.i64.wrap (Int.tdiv (s : Int) (8 : Int))) ≤ ((mid - a : Nat) : Int))) f l4 (by omega) (by omega) (by omega) (by omega) (fun _ k k1 k2 => by
          rw [Nat.add_sub_cancel, q2.out mid (by omega), q2.out k (by omega)]; exact g3 k (by omega) k2)
        obtain ⟨j1, j2⟩ := join_int m1 m2 g2 g3 q2 q3 f2 f3
        refine ⟨l', ?_, w13.trans j1, j2⟩
        rw [← f1]
        refine loopV_next ((head _).2 ?_)
        rw [hJ4]
        simp only [Option.bind_some]
        rw [hJ5]
        simp only [Option.bind_some]
        rw [g1]
        simp only [Option.bind_some, e5, e6, e7]
        rw [bif_t (decide_eq_true (by omega)), q1]
        rfl
      · obtain ⟨l4, q1, q2, q3⟩ := hs (mid + 1) b lim2 l3 (by omega) (by omega) (by omega) (by omega) (fun _ k k1 k2 => by
          rw [Nat.add_sub_cancel]; exact g3 k (by omega) k2)
        have n4 := q2.length
        obtain ⟨l', f1, f2, f3⟩ := ih (mid - a) (by omega) a mid lim2 (decide ((IntKind.i64.wrap (Int.tdiv (s : Int) (8 : Int))) ≤ ((b - mid : Nat) : Int))) f l4 (by omega) (by omega) (by omega) (by omega) (fun h0 k k1 k2 => by
          rw [q2.out (a - 1) (by omega), q2.out k (by omega)]; exact hpre3 h0 k k1 (by omega))
        obtain ⟨j1, j2⟩ := join2_int m1 m2 g2 g3 q2 q3 f2 f3
        refine ⟨l', ?_, w13.trans j1, j2⟩
        rw [← f1]
        refine loopV_next ((head _).2 ?_)
        rw [hJ4]
        simp only [Option.bind_some]
        rw [hJ5]
        simp only [Option.bind_some]
        rw [g1]
        simp only [Option.bind_some, e5, e6, e7]
        rw [bif_f (decide_eq_false (by omega)), q1]
        rfl
theorem pdq_int : ∀ n : Nat, Sorts_int (fixN slices_pdqsortOrdered_int_R n) n := by
  intro n
  induction n with
  | zero => intro a b lim l h1 h2; omega
  | succ n ih =>
    intro a b lim l h1 h2 h3 h4 h5
    obtain ⟨l', g1, g2, g3⟩ := pdq_loop_int ih (b - a) a b lim true true l (by omega) (by omega) h3 h4 h5
    refine ⟨l', ?_, g2, g3⟩
    show slices_pdqsortOrdered_int_R (fixN slices_pdqsortOrdered_int_R n) _ = _
    generalize fixN slices_pdqsortOrdered_int_R n = self at g1 ⊢
    unfold slices_pdqsortOrdered_int_R
    simp only
    rw [g1]
    rfl
/-- The library's Sort sorts. -/
theorem sort_int {l : List Int} (hl : l.length ≤ 49) : ∃ l', slices_Sort_int_int l = some ((), (l', ())) ∧ l'.Perm l ∧ SrtOn 0 l.length l' := by
  unfold slices_Sort_int_int math_bits_Len
  simp only
  rw [wrap_un (k := .u64) rfl (by omega) (by simp only [IntKind.bits]; omega), math_bits_Len64_eq (by omega)]
  simp only [Option.bind_some]
  unfold slices_pdqsortOrdered_int
  obtain ⟨l', g1, g2, g3⟩ := pdq_int fuel 0 l.length (bl l.length : Int) l (Nat.zero_le _) (by unfold fuel; omega) (Nat.le_refl _) hl (fun h => by omega)
  rw [show (((0 : Nat)) : Int) = 0 from rfl] at g1
  rw [g1]
  exact ⟨l', rfl, g2.perm, g3⟩
end Go.PE
end

section
namespace Go.PE
set_option linter.unusedSimpArgs false
/-- Two loops in step. -/
theorem loopV_rel {σ τ ω π : Type} {s1 : σ → Option (σ ⊕ ω)} {s2 : τ → Option (τ ⊕ π)} (R : σ → τ → Prop) (m : σ → Nat) (Q : ω → π → Prop) {v : σ} {w : τ} (h0 : R v w)
    (hs : ∀ v w, R v w → (∃ v' w', s1 v = some (.inl v') ∧ s2 w = some (.inl w') ∧ R v' w' ∧ m v' < m v) ∨ ∃ o p, s1 v = some (.inr o) ∧ s2 w = some (.inr p) ∧ Q o p) :
    ∃ o p, loopV s1 v = some o ∧ loopV s2 w = some p ∧ Q o p := by
  generalize hn : m v = n
  induction n using Nat.strongRecOn generalizing v w with
  | _ n ih =>
    rcases hs v w h0 with ⟨v', w', h1, h2, h3, h4⟩ | ⟨o, p, h1, h2, h3⟩
    · obtain ⟨o, p, h5, h6, h7⟩ := ih (m v') (by omega) h3 rfl
      exact ⟨o, p, by rw [loopV_next h1]; exact h5, by rw [loopV_next h2]; exact h6, h7⟩
    · exact ⟨o, p, loopV_done h1, loopV_done h2, h3⟩
end Go.PE
end

section
namespace Go.PE
set_option linter.unusedSimpArgs false
set_option linter.unusedVariables false
theorem asc_eq : ∀ {l m : List Int}, l.Pairwise (· < ·) → m.Pairwise (· < ·) → (∀ x, x ∈ l ↔ x ∈ m) → l = m := by
  intro l
  induction l with
  | nil =>
    intro m _ _ h
    cases m with
    | nil => rfl
    | cons y m => have := (h y).2 (by simp); cases this
  | cons x l ih =>
    intro m hl hm h
    cases m with
    | nil => have := (h x).1 (by simp); cases this
    | cons y m =>
      obtain ⟨l1, l2⟩ := List.pairwise_cons.1 hl
      obtain ⟨m1, m2⟩ := List.pairwise_cons.1 hm
      have e : x = y := by
        rcases List.mem_cons.1 ((h x).1 (by simp)) with h1 | h1
        · exact h1
        · rcases List.mem_cons.1 ((h y).2 (by simp)) with h2 | h2
          · exact h2.symm
          · have := m1 x h1; have := l1 y h2; omega
      subst e
      rw [ih l2 m2 fun z => ?_]
      constructor
      · intro hz
        rcases List.mem_cons.1 ((h z).1 (by simp [hz])) with h1 | h1
        · subst h1; have := l1 z hz; omega
        · exact h1
      · intro hz
        rcases List.mem_cons.1 ((h z).2 (by simp [hz])) with h1 | h1
        · subst h1; have := m1 z hz; omega
        · exact h1
theorem pk_congr {xs : List Int} {c d : Nat → Bool} : ∀ {n : Nat}, (∀ i, i < n → c i = d i) → pk xs c n = pk xs d n := by
  intro n
  induction n with
  | zero => intro _; rfl
  | succ n ih => intro h; simp only [pk]; rw [ih (fun i hi => h i (by omega)), h n (by omega)]
/-- The reference's marks. -/
def mk (bs : List Bool) (i : Nat) : Bool := bs.getD i false
section
variable {xs : List Int} {T : Int}
theorem ref_L2 {x : Unit × Int × Unit} {bs : List Bool} (hl : xs.length ≤ 16) (hb : bs.length = xs.length) :
    loopV (ref32_Largest_L2 xs) (((), ((), ((-1 : Int), ((0 : Int), ())))), (x, (bs, ()))) = some (((), ((), (pk xs (mk bs) xs.length, ()))), (((), x.2), (bs, ()))) := by
  obtain ⟨_, x, _⟩ := x
  refine loopV_ind (fun i => (((), ((), ((pk xs (mk bs) i), ((i : Int), ())))), (((), (x, ())), (bs, ())))) xs.length rfl ?_ ?_
  · intro i hi
    simp only [ref32_Largest_L2]
    rw [bif_t (decide_eq_true (by omega))]
    have hJ : ref32_Largest_J3 xs (i : Int) (((), ((), (pk xs (mk bs) i, ()))), (((), (x, ())), (bs, ()))) = some (((), ((), (pk xs (mk bs) (i + 1), ()))), (((), (x, ())), (bs, ()))) := by
      simp only [ref32_Largest_J3]
      have hib : i < bs.length := by omega
      have hg : bs[i]? = some (mk bs i) := by unfold mk; rw [List.getD_eq_getElem?_getD, List.getElem?_eq_getElem hib]; rfl
      rw [bif_t (inb_nat hib), Int.toNat_natCast, hg]
      simp only [Option.bind_some, pk]
      cases hc : mk bs i with
      | true => rfl
      | false =>
        simp only [Bool.not_false, cond_true, Bool.false_eq_true, if_false]
        by_cases h0 : pk xs (mk bs) i < 0
        · rw [bif_t (decide_eq_true h0), if_pos h0]
        · rw [bif_f (decide_eq_false h0), if_neg h0]
          rcases pk_spec (xs := xs) (ch := mk bs) (n := i) with ⟨h1, _⟩ | ⟨b, h1, h2, _⟩
          · omega
          · rw [h1, bif_t (inb_nat hi), bif_t (inb_nat (by omega)), Int.toNat_natCast]
            have e1 : rd (.int .i64) xs (b : Int) = xs.getD b 0 := rfl
            have e2 : rd (.int .i64) xs (i : Int) = xs.getD i 0 := rfl
            rw [e1, e2]
            by_cases hlt : xs.getD b 0 < xs.getD i 0
            · rw [bif_t (decide_eq_true hlt), if_pos hlt]
            · rw [bif_f (decide_eq_false hlt), if_neg hlt]
    rw [hJ]
    simp only [Option.bind_some]
    rw [i64_up hi (Nat.le_trans hl (by decide))]
  · simp only [ref32_Largest_L2]
    rw [bif_f (by simp)]
theorem greedy_rel (hb : Bd xs) (hl : xs.length ≤ 16) (hT : 1 ≤ T ∧ T ≤ 2100000000000000) (hs : T ≤ xs.sum) :
    ∃ (P : List Int) (s : Int) (bs : List Bool), loopV (selection_Largest_L1 xs T) (((), ((), ())), (((), ((0 : Int), ())), (((), ((0 : Int), ())), (([] : List Int), ())))) = some (((), ((), ())), (((), ((0 : Int), ())), (((), (s, ())), (P, ())))) ∧
      loopV (ref32_Largest_L1 xs T) (((), ((), ((0 : Int), ()))), (((), ((0 : Int), ())), ((List.replicate xs.length false), ()))) = some (((), ((), (s, ()))), (((), ((0 : Int), ())), (bs, ()))) ∧
      Grd xs P s ∧ bs.length = xs.length ∧ ∀ i, i < xs.length → mk bs i = inP P i := by
  obtain ⟨o, p, h1, h2, P, s, bs, rfl, rfl, h3, h4, h5⟩ := loopV_rel (s1 := selection_Largest_L1 xs T) (s2 := ref32_Largest_L1 xs T)
    (fun v w => ∃ (P : List Int) (s : Int) (bs : List Bool), v = (((), ((), ())), (((), ((0 : Int), ())), (((), (s, ())), (P, ())))) ∧ w = (((), ((), (s, ()))), (((), ((0 : Int), ())), (bs, ()))) ∧ Grd xs P s ∧ bs.length = xs.length ∧ ∀ i, i < xs.length → mk bs i = inP P i)
    (fun v => xs.length - v.2.2.2.1.length)
    (fun o p => ∃ (P : List Int) (s : Int) (bs : List Bool), o = (((), ((), ())), (((), ((0 : Int), ())), (((), (s, ())), (P, ())))) ∧ p = (((), ((), (s, ()))), (((), ((0 : Int), ())), (bs, ()))) ∧ Grd xs P s ∧ bs.length = xs.length ∧ ∀ i, i < xs.length → mk bs i = inP P i)
    (v := (((), ((), ())), (((), ((0 : Int), ())), (((), ((0 : Int), ())), (([] : List Int), ()))))) (w := (((), ((), ((0 : Int), ()))), (((), ((0 : Int), ())), ((List.replicate xs.length false), ()))))
    ⟨[], 0, _, rfl, rfl, Grd.nil, by simp, fun i hi => by
      unfold mk inP
      rw [List.getD_eq_getElem?_getD, List.getElem?_replicate, if_pos hi]; simp⟩ (by
      rintro _ _ ⟨P, s, bs, rfl, rfl, hg, hbs, hm⟩
      have hPl := hg.le
      simp only [selection_Largest_L1, ref32_Largest_L1]
      by_cases hlt : s < T
      · left
        obtain ⟨b, k1, k2, k3, _⟩ := hg.step (by omega)
        have hk3 := k3.le
        rw [List.length_append, List.length_singleton] at hk3
        have hvb := hb _ (List.getElem_mem k2)
        have eb : xs.getD b 0 = xs[b] := by rw [List.getD_eq_getElem?_getD, List.getElem?_eq_getElem k2]; rfl
        have hs0 : 0 ≤ s := by
          rw [hg.sum]
          exact (subs_range hb.pos _ selS_subs).1
        have hbb : b < bs.length := by omega
        have ek : pk xs (mk bs) xs.length = b := by rw [pk_congr hm]; exact k1
        rw [bif_t (decide_eq_true hlt), bif_t (decide_eq_true hlt), largest_L2 hl (by unfold big; omega), ref_L2 hl hbs]
        simp only [Option.bind_some]
        rw [k1, ek, bif_t (by simp [lim]; omega), bif_t (inb_nat k2), bif_t (inb_nat hbb), Int.toNat_natCast, List.getElem?_eq_getElem hbb]
        simp only [Option.bind_some]
        rw [bif_t (inb_nat k2), rd_in (t := .int .i64) (xs := xs) k2, IntWalk.i64_in _ (by omega), ← eb]
        refine ⟨_, _, rfl, rfl, ⟨P ++ [(b : Int)], s + xs.getD b 0, bs.set b true, rfl, rfl, k3, by simpa using hbs, fun i hi => ?_⟩, by simp only [List.length_append, List.length_singleton]; omega⟩
        unfold mk
        rw [List.getD_eq_getElem?_getD, List.getElem?_set]
        by_cases c : b = i
        · rw [if_pos c, if_pos hbb, ← c]
          unfold inP; simp
        · rw [if_neg c, ← List.getD_eq_getElem?_getD]
          have := hm i hi
          unfold mk at this
          rw [this]
          unfold inP
          rw [decide_eq_decide, List.mem_append, List.mem_singleton]
          constructor
          · exact .inl
          · rintro (h | h)
            · exact h
            · omega
      · right
        rw [bif_f (decide_eq_false hlt), bif_f (decide_eq_false hlt)]
        exact ⟨_, _, rfl, rfl, P, s, bs, rfl, rfl, hg, hbs, hm⟩)
  exact ⟨P, s, bs, h1, h2, h3, h4, h5⟩
/-- The marked places in their order. -/
def asc (bs : List Bool) : Nat → List Int
  | 0 => []
  | n + 1 => asc bs n ++ (if mk bs n = true then [(n : Int)] else [])
theorem asc_mem {bs : List Bool} : ∀ {n : Nat} {x : Int}, x ∈ asc bs n ↔ ∃ i : Nat, i < n ∧ x = i ∧ mk bs i = true := by
  intro n
  induction n with
  | zero => intro x; simp [asc]
  | succ n ih =>
    intro x
    simp only [asc, List.mem_append, ih]
    constructor
    · rintro (⟨i, h1, h2, h3⟩ | h)
      · exact ⟨i, by omega, h2, h3⟩
      · by_cases c : mk bs n = true
        · rw [if_pos c] at h
          exact ⟨n, by omega, List.mem_singleton.1 h, c⟩
        · rw [if_neg c] at h; cases h
    · rintro ⟨i, h1, h2, h3⟩
      by_cases c : i = n
      · right; rw [← c, if_pos h3, h2]; simp
      · exact .inl ⟨i, by omega, h2, h3⟩
theorem asc_pw {bs : List Bool} : ∀ {n : Nat}, (asc bs n).Pairwise (· < ·) := by
  intro n
  induction n with
  | zero => exact .nil
  | succ n ih =>
    simp only [asc]
    rw [List.pairwise_append]
    refine ⟨ih, ?_, fun a ha b hb => ?_⟩
    · split <;> simp
    · obtain ⟨i, h1, rfl, _⟩ := asc_mem.1 ha
      by_cases c : mk bs n = true
      · rw [if_pos c] at hb
        rw [List.mem_singleton.1 hb]; omega
      · rw [if_neg c] at hb; cases hb
theorem asc_len {bs : List Bool} : ∀ {n : Nat}, (asc bs n).length ≤ n := by
  intro n
  induction n with
  | zero => simp [asc]
  | succ n ih => simp only [asc, List.length_append]; split <;> simp <;> omega
theorem ref_L4 {x : Unit × Int × Unit} {s : Int} {bs : List Bool} (hl : xs.length ≤ 16) (hb : bs.length = xs.length) :
    loopV (ref32_Largest_L4 xs) (((), ((), ((), ((0 : Int), ())))), (x, (bs, (((), (s, ())), (([] : List Int), ()))))) = some (((), ((), ())), (((), x.2), (((), (s, ())), (asc bs xs.length, ())))) := by
  obtain ⟨_, x, _⟩ := x
  refine loopV_ind (fun i => (((), ((), ((), ((i : Int), ())))), (((), (x, ())), (bs, (((), (s, ())), (asc bs i, ())))))) xs.length rfl ?_ ?_
  · intro i hi
    have hib : i < bs.length := by omega
    have hg : bs[i]? = some (mk bs i) := by unfold mk; rw [List.getD_eq_getElem?_getD, List.getElem?_eq_getElem hib]; rfl
    have hal := @asc_len bs i
    simp only [ref32_Largest_L4]
    rw [bif_t (decide_eq_true (by omega)), bif_t (inb_nat hib), Int.toNat_natCast, hg]
    simp only [Option.bind_some, asc]
    cases hc : mk bs i with
    | true =>
      simp only [cond_true, if_true]
      rw [bif_t (by simp [lim]; omega), i64_up hi (Nat.le_trans hl (by decide))]
    | false =>
      simp only [cond_false, Bool.false_eq_true, if_false, List.append_nil]
      rw [i64_up hi (Nat.le_trans hl (by decide))]
  · simp only [ref32_Largest_L4]
    rw [bif_f (by simp)]
end
theorem largest_same (xs : List Int) (T : Int) : ∃ (e s : Int) (P : List Int), selection_Largest xs T = some ((((), (s, ())), (e, ())), (P, ())) ∧ ref32_Largest xs T = some ((((), (s, ())), (e, ())), (P, ())) ∧ P.length ≤ 16 := by
  by_cases hl : xs.length ≤ 16
  · cases hok : (xs.all okV && (decide (1 ≤ T) && decide (T ≤ 2100000000000000))) with
    | false =>
      refine ⟨5, 0, [], ?_, ?_, by simp⟩
      · unfold selection_Largest selection_fault
        rw [bif_f (decide_eq_false (show ¬ (16 : Int) < (xs.length : Int) by omega)), selection_proper_eq hl, hok]
        rfl
      · unfold ref32_Largest
        rw [ref32_proper_eq hl, hok]
        rfl
    | true =>
      have hok2 := hok
      simp only [Bool.and_eq_true, decide_eq_true_eq] at hok
      have hb := bd_of hok.1
      have hT : 1 ≤ T ∧ T ≤ 2100000000000000 := hok.2
      have e1 := fault_eq (T := T) hb hl hT
      have e2 : ref32_proper xs T = some ((0, ()), ()) := by rw [ref32_proper_eq hl, hok2]; rfl
      by_cases hlow : xs.sum < T
      · refine ⟨320, 0, [], ?_, ?_, by simp⟩
        · unfold selection_Largest
          rw [e1, if_pos hlow]; rfl
        · unfold ref32_Largest
          rw [e2, ref32_sum_eq hb hl]
          simp only [Option.bind_some]
          rw [bif_f (by decide), bif_t (decide_eq_true hlow)]
      · obtain ⟨P, s, bs, g1, g2, g3, g4, g5⟩ := greedy_rel (T := T) hb hl hT (by omega)
        have hPl := g3.le
        obtain ⟨P', f1, f2, f3⟩ := sort_int (l := P) (by omega)
        have hnd : P'.Nodup := f2.nodup_iff.2 g3.nod
        have hpw : P'.Pairwise (· < ·) := by
          rw [List.pairwise_iff_getElem]
          intro i j hi hj hij
          have hle := f3 i j (Nat.zero_le _) hij (by rw [← f2.length_eq]; exact hj)
          rw [List.getD_eq_getElem?_getD, List.getD_eq_getElem?_getD, List.getElem?_eq_getElem hi, List.getElem?_eq_getElem hj] at hle
          have hne : P'[i] ≠ P'[j] := List.pairwise_iff_getElem.1 hnd i j hi hj hij
          simp only [Option.getD_some] at hle
          omega
        have heq : P' = asc bs xs.length := by
          refine asc_eq hpw asc_pw fun x => ?_
          rw [f2.mem_iff, asc_mem]
          constructor
          · intro hx
            have hr := g3.rng x hx
            refine ⟨x.toNat, by omega, by omega, ?_⟩
            rw [g5 _ (by omega)]
            unfold inP
            rw [decide_eq_true_eq, show ((x.toNat : Nat) : Int) = x by omega]; exact hx
          · rintro ⟨i, h1, rfl, h3⟩
            rw [g5 i h1] at h3
            unfold inP at h3
            simpa using h3
        refine ⟨0, s, P', ?_, ?_, by rw [f2.length_eq]; omega⟩
        · unfold selection_Largest
          rw [e1, if_neg hlow]
          simp only [Option.bind_some]
          rw [bif_f (by decide), g1]
          simp only [Option.bind_some]
          rw [f1]
          rfl
        · unfold ref32_Largest
          rw [e2, ref32_sum_eq hb hl]
          simp only [Option.bind_some]
          rw [bif_f (by decide), bif_f (decide_eq_false hlow), bif_t (by simp only [Bool.and_eq_true, decide_eq_true_eq]; unfold lim; omega), Int.toNat_natCast, g2]
          simp only [Option.bind_some]
          rw [ref_L4 hl g4]
          simp only [Option.bind_some]
          rw [heq]
  · refine ⟨4, 0, [], ?_, ?_, by simp⟩
    · unfold selection_Largest selection_fault
      rw [bif_t (decide_eq_true (show (16 : Int) < (xs.length : Int) by omega))]
      rfl
    · unfold ref32_Largest ref32_proper
      rw [bif_t (decide_eq_true (show (16 : Int) < (xs.length : Int) by omega))]
      rfl
theorem selectionLargest_eq {d xs : List Int} {T : Int} (hd : Deck d) : law32_SelectionLargest d xs T = some ((true, ()), ()) := by
  unfold law32_SelectionLargest
  rw [law32_sane_eq, Option.bind_some, bif_f (by rfl)]
  by_cases c1 : (20 : Int) < (xs.length : Int)
  · rw [bif_t (decide_eq_true c1)]
  rw [bif_f (decide_eq_false c1)]
  obtain ⟨T0, v, hm, _⟩ := made_ok hd (n := 12) (by omega)
  rw [show ((12 : Nat) : Int) = 12 from rfl] at hm
  rw [hm, Option.bind_some]
  obtain ⟨e, s, P, h1, h2, h3⟩ := largest_same v T0
  obtain ⟨e', s', P', h4, h5, h6⟩ := largest_same xs T
  rw [h1, Option.bind_some, h2, Option.bind_some, h4, Option.bind_some, h5, Option.bind_some]
  simp only
  rw [bif_t (by simp), Same_self h3]
  simp only [Option.bind_some]
  rw [bif_t (by rfl), bif_t (by simp), Same_self h6]
  rfl
theorem selectionLargest_pure (xs : TT.dens (holes [.slice (.int .i64), .slice (.int .i64), .int .i64])) (h : WfAll [.slice (.int .i64), .slice (.int .i64), .int .i64] xs) : law32_SelectionLargest xs.1 xs.2.1 xs.2.2.1 = some ((true, ()), ()) :=
  selectionLargest_eq (Deck.of h.1)
end Go.PE
end
