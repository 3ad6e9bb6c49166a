/- What the printed functions of the program are, and the plain law; conditions stand in each statement. -/
import Derived.Test.YtaeaeaiebbakbaaPa
section
namespace Go.PE
set_option linter.unusedSimpArgs false
set_option linter.unusedVariables false
/-- The sum of the values whose bits are set. -/
def maskS (v : List Int) (m : Nat) : Int := ((List.range v.length).map fun i => if m.testBit i then v.getD i 0 else 0).sum
def maskT (v : List Int) (m k : Nat) : Int := ((List.range k).map fun i => if m.testBit i then v.getD i 0 else 0).sum
theorem maskT_up {v : List Int} {m k : Nat} : maskT v m (k + 1) = maskT v m k + (if m.testBit k then v.getD k 0 else 0) := by
  unfold maskT; rw [List.range_succ, List.map_append, List.sum_append]; simp
theorem maskS_cons {x : Int} {v : List Int} {m : Nat} : maskS (x :: v) m = (if m.testBit 0 then x else 0) + maskS v (m / 2) := by
  unfold maskS
  rw [List.length_cons, List.range_succ_eq_map, List.map_cons, List.sum_cons, List.map_map]
  congr 1
  congr 1
  apply List.map_congr_left
  intro i _
  simp only [Function.comp, Nat.testBit_succ, Nat.succ_eq_add_one]
  rfl
theorem maskS_subs : ∀ {v : List Int} {m : Nat}, maskS v m ∈ subs v := by
  intro v
  induction v with
  | nil => intro m; simp [maskS, subs]
  | cons x v ih =>
    intro m
    rw [maskS_cons]
    simp only [subs, List.mem_append, List.mem_map]
    cases m.testBit 0 with
    | false => left; simpa using ih
    | true => right; exact ⟨maskS v (m / 2), ih, by simp⟩
theorem subs_maskS : ∀ {v : List Int} {u : Int}, u ∈ subs v → ∃ m, m < 2 ^ v.length ∧ maskS v m = u := by
  intro v
  induction v with
  | nil => intro u hu; simp [subs] at hu; exact ⟨0, by simp, by simp [maskS, hu]⟩
  | cons x v ih =>
    intro u hu
    simp only [subs, List.mem_append, List.mem_map] at hu
    rcases hu with hu | ⟨w, hw, rfl⟩
    · obtain ⟨m, h1, h2⟩ := ih hu
      refine ⟨2 * m, by rw [List.length_cons, Nat.pow_succ]; omega, ?_⟩
      rw [maskS_cons, show 2 * m / 2 = m by omega, h2]
      have : (2 * m).testBit 0 = false := by simp [Nat.testBit_zero]
      simp [this]
    · obtain ⟨m, h1, h2⟩ := ih hw
      refine ⟨2 * m + 1, by rw [List.length_cons, Nat.pow_succ]; omega, ?_⟩
      rw [maskS_cons, show (2 * m + 1) / 2 = m by omega, h2]
      have : (2 * m + 1).testBit 0 = true := by simp [Nat.testBit_zero]
      simp [this]
theorem bit_i64 {m i : Nat} (hm : m < 2 ^ 62) (hi : i < 64) : decide (bitI .and .i64 (shrI .i64 (m : Int) (IntKind.u64.wrap (i : Int))) 1 = 1) = m.testBit i := by
  have h0 : IntKind.u64.wrap (i : Int) = (i : Int) := wrap_un rfl (by omega) (by simp only [IntKind.bits]; omega)
  rw [h0, shr_un (by omega) (by simp only [IntKind.bits]; omega)]
  rw [Int.toNat_natCast, Int.toNat_natCast]
  have hle : m >>> i ≤ m := by rw [Nat.shiftRight_eq_div_pow]; exact Nat.div_le_self _ _
  have e : ∀ z : Nat, z < 2 ^ 62 → bitI .and .i64 (z : Int) 1 = ((z % 2 : Nat) : Int) := by
    intro z hz
    show IntKind.i64.wrap (BitVec.ofInt 64 (z : Int) &&& BitVec.ofInt 64 1).toNat = _
    have h1 : (BitVec.ofInt 64 (z : Int)).toNat = z := by
      rw [ofInt_nat (Int.natCast_nonneg z) (by omega)]; exact Int.toNat_natCast z
    have h2 : (BitVec.ofInt 64 1).toNat = 1 := rfl
    rw [BitVec.toNat_and, h1, h2, Nat.and_one_is_mod]
    exact IntWalk.i64_in _ (by omega)
  rw [e _ (by omega), Nat.testBit_eq_decide_div_mod_eq, Nat.shiftRight_eq_div_pow]
  have : (((m / 2 ^ i % 2 : Nat) : Int) = 1) ↔ m / 2 ^ i % 2 = 1 := by omega
  exact decide_eq_decide.2 this
section
variable {v : List Int} {T : Int} (hb : Bd v) (hl : v.length ≤ 16) (hT : 1 ≤ T)
include hb hl
omit hl in
theorem maskT_bd {m k : Nat} (hk : k ≤ v.length) : 0 ≤ maskT v m k ∧ maskT v m k ≤ k * 2100000000000000 := by
  induction k with
  | zero => simp [maskT]
  | succ k ih =>
    have := ih (by omega)
    rw [maskT_up]
    have hv := hb _ (List.getElem_mem (show k < v.length by omega))
    have hg : v.getD k 0 = v[k] := by rw [List.getD_eq_getElem?_getD, List.getElem?_eq_getElem (by omega)]; rfl
    rw [hg]
    have : ((k + 1 : Nat) : Int) * 2100000000000000 = k * 2100000000000000 + 2100000000000000 := by push_cast; omega
    split <;> omega
theorem least_L3 {m : Nat} (hm : m < 2 ^ 62) : loopV (law32_least_L3 v (m : Int) (v.length : Int)) (((0 : Int), ((0 : Int), ())), ()) = some ((maskS v m, ()), ()) := by
  refine loopV_ind (fun i => ((maskT v m i, ((i : Int), ())), ())) v.length rfl (fun i hi => ?_) (by simp [law32_least_L3]; rfl)
  have h0 : (i : Int) < (v.length : Int) := by omega
  have hbit := bit_i64 (m := m) (i := i) hm (by omega)
  unfold law32_least_L3
  simp only [h0, decide_true, cond_true, hbit, i64_up hi (Nat.le_trans hl (by decide))]
  have hbd := maskT_bd hb (m := m) (k := i) (by omega)
  have hmul : ((i : Nat) : Int) * 2100000000000000 ≤ 16 * 2100000000000000 := Int.mul_le_mul_of_nonneg_right (by omega) (by omega)
  cases hx : m.testBit i with
  | false =>
    rw [maskT_up, hx]
    simp
  | true =>
    have hv := hb _ (List.getElem_mem hi)
    rw [maskT_up, hx]
    simp only [cond_true, inb_nat hi, rd_in (t := .int .i64) (xs := v) hi, if_true]
    rw [IntWalk.i64_in _ (by omega), List.getD_eq_getElem?_getD, List.getElem?_eq_getElem hi]; rfl
def stepB (T b n : Int) : Int := if T ≤ n then (if b < 0 then n else if n < b then n else b) else b
theorem least_J2 {m : Nat} {b : Int} (hm : m < 2 ^ 62) : law32_least_J2 v T (m : Int) ((b, ()), ()) = some ((stepB T b (maskS v m), ()), ()) := by
  unfold law32_least_J2 stepB
  rw [least_L3 hb hl hm]
  simp only [Option.bind_some]
  by_cases h1 : T ≤ maskS v m
  · rw [bif_t (decide_eq_true h1), if_pos h1]
    by_cases h2 : b < 0
    · rw [bif_t (decide_eq_true h2), if_pos h2]
    · rw [bif_f (decide_eq_false h2), if_neg h2]
      by_cases h3 : maskS v m < b
      · rw [bif_t (decide_eq_true h3), if_pos h3]
      · rw [bif_f (decide_eq_false h3), if_neg h3]
  · rw [bif_f (decide_eq_false h1), if_neg h1]
omit hb hl in
theorem shl_one {n : Nat} (hn : n ≤ 16) : shlI .i64 1 (IntKind.u64.wrap (n : Int)) = ((2 ^ n : Nat) : Int) := by
  have h0 : IntKind.u64.wrap (n : Int) = (n : Int) := wrap_un rfl (by omega) (by simp only [IntKind.bits]; omega)
  rw [h0]
  have : n = 0 ∨ n = 1 ∨ n = 2 ∨ n = 3 ∨ n = 4 ∨ n = 5 ∨ n = 6 ∨ n = 7 ∨ n = 8 ∨ n = 9 ∨ n = 10 ∨ n = 11 ∨ n = 12 ∨ n = 13 ∨ n = 14 ∨ n = 15 ∨ n = 16 := by omega
  rcases this with rfl | rfl | rfl | rfl | rfl | rfl | rfl | rfl | rfl | rfl | rfl | rfl | rfl | rfl | rfl | rfl | rfl <;> rfl
include hT in
/-- What going through all of them finds. -/
theorem law_least : ∃ b, law32_least v T = some ((b, ()), ()) ∧ ((b = -1 ∧ ∀ u ∈ subs v, u < T) ∨ (T ≤ b ∧ b ∈ subs v ∧ ∀ u ∈ subs v, T ≤ u → b ≤ u)) := by
  unfold law32_least
  have hp : v.length ≤ 16 := hl
  have hpow : 2 ^ v.length ≤ 65536 := Nat.le_trans (Nat.pow_le_pow_right (by omega) hl) (by decide)
  have key : ∀ (k m : Nat) (b : Int), m + k = 2 ^ v.length → ((b = -1 ∧ ∀ j, j < m → maskS v j < T) ∨ (T ≤ b ∧ (∃ j, j < m ∧ maskS v j = b) ∧ ∀ j, j < m → T ≤ maskS v j → b ≤ maskS v j)) →
      ∃ b', loopV (law32_least_L1 v T) ((b, ((m : Int), ())), ()) = some ((b', ()), ()) ∧ ((b' = -1 ∧ ∀ j, j < 2 ^ v.length → maskS v j < T) ∨ (T ≤ b' ∧ (∃ j, j < 2 ^ v.length ∧ maskS v j = b') ∧ ∀ j, j < 2 ^ v.length → T ≤ maskS v j → b' ≤ maskS v j)) := by
    intro k
    induction k with
    | zero =>
      intro m b hm hI
      have hm' : m = 2 ^ v.length := by omega
      refine ⟨b, loopV_done ?_, by rw [← hm']; exact hI⟩
      unfold law32_least_L1
      rw [shl_one hl, ← hm']
      simp
    | succ k ih =>
      intro m b hm hI
      have h0 : (m : Int) < ((2 ^ v.length : Nat) : Int) := by omega
      have hstep : law32_least_L1 v T ((b, ((m : Int), ())), ()) = some (.inl ((stepB T b (maskS v m), (((m + 1 : Nat) : Int), ())), ())) := by
        unfold law32_least_L1
        rw [shl_one hl]
        simp only [h0, decide_true, cond_true]
        rw [least_J2 hb hl (by omega)]
        simp only [Option.bind_some]
        rw [IntWalk.i64_in _ (by omega)]; rfl
      rw [loopV_next hstep]
      refine ih (m + 1) _ (by omega) ?_
      unfold stepB
      by_cases h1 : T ≤ maskS v m
      · rw [if_pos h1]
        right
        rcases hI with ⟨hb1, hI⟩ | ⟨hb1, ⟨j0, hj0, hj0'⟩, hI⟩
        · rw [if_pos (by omega)]
          refine ⟨h1, ⟨m, by omega, rfl⟩, fun j hj hTj => ?_⟩
          rcases Nat.lt_or_ge j m with h | h
          · have := hI j h; omega
          · have : j = m := by omega
            subst this; exact Int.le_refl _
        · rw [if_neg (by omega)]
          by_cases h2 : maskS v m < b
          · rw [if_pos h2]
            refine ⟨h1, ⟨m, by omega, rfl⟩, fun j hj hTj => ?_⟩
            rcases Nat.lt_or_ge j m with h | h
            · have := hI j h hTj; omega
            · have : j = m := by omega
              subst this; exact Int.le_refl _
          · rw [if_neg h2]
            refine ⟨hb1, ⟨j0, by omega, hj0'⟩, fun j hj hTj => ?_⟩
            rcases Nat.lt_or_ge j m with h | h
            · exact hI j h hTj
            · have : j = m := by omega
              subst this; omega
      · rw [if_neg h1]
        rcases hI with ⟨hb1, hI⟩ | ⟨hb1, ⟨j0, hj0, hj0'⟩, hI⟩
        · refine .inl ⟨hb1, fun j hj => ?_⟩
          rcases Nat.lt_or_ge j m with h | h
          · exact hI j h
          · have : j = m := by omega
            subst this; omega
        · refine .inr ⟨hb1, ⟨j0, by omega, hj0'⟩, fun j hj hTj => ?_⟩
          rcases Nat.lt_or_ge j m with h | h
          · exact hI j h hTj
          · have : j = m := by omega
            subst this; omega
  obtain ⟨b', h1, h2⟩ := key (2 ^ v.length) 0 (-1) (by omega) (.inl ⟨rfl, fun j hj => by omega⟩)
  rw [show (((0 : Nat) : Int)) = 0 from rfl] at h1
  rw [h1]
  refine ⟨b', rfl, ?_⟩
  rcases h2 with ⟨h3, h4⟩ | ⟨h3, ⟨j, h4, h5⟩, h6⟩
  · refine .inl ⟨h3, fun u hu => ?_⟩
    obtain ⟨m, g1, g2⟩ := subs_maskS hu
    rw [← g2]; exact h4 m g1
  · refine .inr ⟨h3, h5 ▸ maskS_subs, fun u hu hTu => ?_⟩
    obtain ⟨m, g1, g2⟩ := subs_maskS hu
    rw [← g2] at hTu ⊢; exact h6 m g1 hTu
end
/-- The values and the target that are drawn. -/
theorem made_ok {l : List Int} (hl : Deck l) {n : Nat} (hn : n ≤ 100) : ∃ (t : Int) (ys : List Int), law32_made l (n : Int) = some (((), (t, ())), (ys, ())) ∧ 1 ≤ t ∧ t ≤ 60 ∧ ys.length ≤ n ∧ ∀ y ∈ ys, 1 ≤ y ∧ y ≤ 30 := by
  unfold law32_made mill_New
  simp only [Option.bind_some]
  rw [IntWalk.i64_in ((n : Int) + 1) (by omega)]
  obtain ⟨r, q, h1, h2, h3, h4⟩ := hl.next (k := (n : Int) + 1) (by omega) (by omega) (p := 0) (Nat.zero_le _)
  rw [show ((0 : Nat) : Int) = 0 from rfl] at h1
  rw [h1]
  simp only [Option.bind_some]
  have loop : ∀ (k : Nat) (q : Nat) (ys : List Int), q ≤ l.length → ys.length + k ≤ 1000 → (∀ y ∈ ys, 1 ≤ y ∧ y ≤ 30) → ∃ q' : Nat, ∃ ys' : List Int, loopV law32_made_L1 (((), ((), ((k : Int), ()))), ((l, ((q : Int), ())), (ys, ()))) = some (((), ((), ())), ((l, ((q' : Int), ())), (ys', ()))) ∧ q' ≤ l.length ∧ ys'.length = ys.length + k ∧ ∀ y ∈ ys', 1 ≤ y ∧ y ≤ 30 := by
    intro k
    induction k with
    | zero => intro q ys hq _ hy; exact ⟨q, ys, loopV_done (by simp [law32_made_L1]), hq, rfl, hy⟩
    | succ k ih =>
      intro q ys hq hy hyy
      obtain ⟨r, q2, g1, g2, g3, g4⟩ := hl.next (k := 30) (by omega) (by omega) hq
      obtain ⟨q', ys', g5, g6, g7, g8⟩ := ih q2 (ys ++ [1 + r]) g4 (by rw [List.length_append, List.length_singleton]; omega) (fun y h => by
        rcases List.mem_append.1 h with h | h
        · exact hyy y h
        · rw [List.mem_singleton.1 h]; omega)
      refine ⟨q', ys', ?_, g6, by rw [g7, List.length_append, List.length_singleton]; omega, g8⟩
      rw [← g5]
      refine loopV_next ?_
      have e0 : (0 : Int) < ((k + 1 : Nat) : Int) := by omega
      have e1 : IntKind.i64.wrap (((k + 1 : Nat) : Int) - 1) = (k : Int) := by rw [IntWalk.i64_in _ (by omega)]; omega
      have e2 : IntKind.i64.wrap (1 + r) = 1 + r := IntWalk.i64_in _ (by omega)
      have e3 : ys.length + 1 ≤ lim := by unfold lim; omega
      unfold law32_made_L1
      simp only [e0, decide_true, cond_true, g1, Option.bind_some, List.length_singleton, e3, e1, e2]
  obtain ⟨k, rfl⟩ := Int.eq_ofNat_of_zero_le h2
  obtain ⟨q', ys', g5, g6, g7, g8⟩ := loop k q [] h4 (by simp; omega) (fun y h => by cases h)
  rw [g5]
  simp only [Option.bind_some]
  obtain ⟨r2, q2, g9, g10, g11, _⟩ := hl.next (k := 60) (by omega) (by omega) g6
  rw [g9]
  simp only [Option.bind_some]
  rw [IntWalk.i64_in (1 + r2) (by omega)]
  exact ⟨_, _, rfl, by omega, by omega, by simp at g7; omega, g8⟩
end Go.PE
end

section
namespace Go.PE
set_option linter.unusedSimpArgs false
set_option linter.unusedVariables false
section
variable {v : List Int} (hv : v.length ≤ 16)
include hv
omit hv in
theorem proves_L2 {pl : List Int} (hpl : ∀ x ∈ pl, -9223372036854775808 ≤ x ∧ x ≤ 9223372036854775807) (hn : pl.length ≤ 8) {c : Nat} (hc : c < v.length) :
    ∀ (k i : Nat) (s : Int) (P : List Int), i + k = pl.length → P.length + k ≤ 1000 → ∃ s' P', loopV (law32_SelectionProves_L2 (c : Int) pl (pl.length : Int)) (((), ((), ((i : Int), ()))), (v, (((), (s, ())), (P, ())))) =
      some (((), ((), ())), (v, (((), (s', ())), (P', ())))) ∧ P'.length ≤ P.length + k := by
  intro k
  induction k with
  | zero =>
    intro i s P hi _
    have : i = pl.length := by omega
    subst this
    exact ⟨s, P, loopV_done (by simp [law32_SelectionProves_L2]), Nat.le_refl _⟩
  | succ k ih =>
    intro i s P hi hP
    have hil : i < pl.length := by omega
    have e0 : (i : Int) < (pl.length : Int) := by omega
    obtain ⟨r, hr, hr0, hr1⟩ := mill_Mod_some (v := pl[i]) (k := 7) (by omega) (by omega) (hpl _ (List.getElem_mem hil))
    have e1 : P.length + 1 ≤ lim := by unfold lim; omega
    have e2 : v[c]? = some v[c] := List.getElem?_eq_getElem hc
    have up := i64_up hil (show pl.length ≤ big by rw [show big = 9223372036854775807 from rfl]; omega)
    -- one round
    have hstep : ∃ s' P', law32_SelectionProves_L2 (c : Int) pl (pl.length : Int) (((), ((), ((i : Int), ()))), (v, (((), (s, ())), (P, ())))) = some (.inl (((), ((), (((i + 1 : Nat) : Int), ()))), (v, (((), (s', ())), (P', ()))))) ∧ P'.length ≤ P.length + 1 := by
      unfold law32_SelectionProves_L2
      simp only [e0, decide_true, cond_true, inb_nat hil, rd_in (t := .int .i64) (xs := pl) hil, hr, Option.bind_some, up]
      by_cases h1 : r = (c : Int)
      · rw [bif_t (decide_eq_true h1)]
        by_cases h2 : (P.length : Int) = 0
        · rw [bif_t (decide_eq_true h2)]
          simp only [List.length_singleton, e1, decide_true, cond_true, inb_nat hc, Int.toNat_natCast, e2, Option.bind_some]
          exact ⟨_, _, rfl, by simp⟩
        · rw [bif_f (decide_eq_false h2)]
          have e3 : IntKind.i64.wrap ((P.length : Int) - 1) = ((P.length - 1 : Nat) : Int) := by rw [IntWalk.i64_in _ (by omega)]; omega
          have hp1 : P.length - 1 < P.length := by omega
          have e4 : P[P.length - 1]? = some P[P.length - 1] := List.getElem?_eq_getElem hp1
          simp only [e3, inb_nat hp1, cond_true, Int.toNat_natCast, e4, Option.bind_some]
          by_cases h3 : P[P.length - 1] = (c : Int)
          · rw [bif_f (by simp [h3])]
            exact ⟨_, _, rfl, by omega⟩
          · rw [bif_t (by simp [h3])]
            simp only [List.length_singleton, e1, decide_true, cond_true, inb_nat hc, Int.toNat_natCast, e2, Option.bind_some]
            exact ⟨_, _, rfl, by simp⟩
      · rw [bif_f (decide_eq_false h1)]
        exact ⟨_, _, rfl, by omega⟩
    obtain ⟨s1, P1, h1, h2⟩ := hstep
    obtain ⟨s2, P2, h3, h4⟩ := ih (i + 1) s1 P1 (by omega) (by omega)
    exact ⟨s2, P2, by rw [loopV_next h1]; exact h3, by omega⟩
theorem proves_L1 {pl : List Int} (hpl : ∀ x ∈ pl, -9223372036854775808 ≤ x ∧ x ≤ 9223372036854775807) (hn : pl.length ≤ 8) :
    ∀ (k i : Nat) (s : Int) (P : List Int), i + k = v.length → P.length + 8 * k ≤ 200 → ∃ s' P', loopV (law32_SelectionProves_L1 pl (v.length : Int)) (((), ((), ((i : Int), ()))), (v, (((), (s, ())), (P, ())))) =
      some (((), ((), ())), (v, (((), (s', ())), (P', ())))) ∧ P'.length ≤ 200 := by
  intro k
  induction k with
  | zero =>
    intro i s P hi hP
    have : i = v.length := by omega
    subst this
    exact ⟨s, P, loopV_done (by simp [law32_SelectionProves_L1]), by omega⟩
  | succ k ih =>
    intro i s P hi hP
    have hil : i < v.length := by omega
    have e0 : (i : Int) < (v.length : Int) := by omega
    obtain ⟨s1, P1, h1, h2⟩ := proves_L2 hpl hn hil pl.length 0 s P (by omega) (by omega)
    rw [show (((0 : Nat) : Int)) = 0 from rfl] at h1
    obtain ⟨s2, P2, h3, h4⟩ := ih (i + 1) s1 P1 (by omega) (by omega)
    refine ⟨s2, P2, ?_, h4⟩
    rw [← h3]
    refine loopV_next ?_
    unfold law32_SelectionProves_L1
    have up := i64_up hil (Nat.le_trans hv (by decide))
    simp only [e0, decide_true, cond_true]
    rw [h1]
    simp only [Option.bind_some, up]
end
theorem selectionProves_eq {d tr pl : List Int} (hl : Deck d) (hpl : ∀ x ∈ pl, -9223372036854775808 ≤ x ∧ x ≤ 9223372036854775807) : law32_SelectionProves d tr pl = some ((true, ()), ()) := by
  unfold law32_SelectionProves
  rw [law32_sane_eq, Option.bind_some, bif_f (by rfl)]
  by_cases c1 : (100 : Int) < (tr.length : Int)
  · rw [bif_t (decide_eq_true c1)]
  · rw [bif_f (decide_eq_false c1)]
    by_cases c2 : (8 : Int) < (pl.length : Int)
    · rw [bif_t (decide_eq_true c2)]
    · rw [bif_f (decide_eq_false c2)]
      obtain ⟨T, v, hm, hT1, hT2, hvl, hvb⟩ := made_ok hl (n := 6) (by omega)
      rw [show ((6 : Nat) : Int) = 6 from rfl] at hm
      rw [hm, Option.bind_some]
      have hv16 : v.length ≤ 16 := by omega
      have hb : Bd v := fun x hx => by have := hvb x hx; omega
      obtain ⟨S, P, h1, h2⟩ := proves_L1 hv16 hpl (by omega) v.length 0 0 [] (by omega) (by simp; omega)
      rw [show (((0 : Nat) : Int)) = 0 from rfl] at h1
      refine Eq.trans (congrArg (fun z => Option.bind z _) h1) ?_
      rw [Option.bind_some]
      obtain ⟨e, b, c, t, _, hbest, _⟩ := best_same v T
      refine Eq.trans (congrArg (fun z => Option.bind z _) hbest) ?_
      rw [Option.bind_some]
      -- both certificates
      have loop : ∀ (k i : Nat), i + k = 2 → loopV (law32_SelectionProves_L3 v T 2) (((), ((), ((i : Int), ()))), (((), (S, ())), (([tr, t] : List (List Int)), (P, ())))) = some (.inr ((), ())) := by
        intro k
        induction k with
        | zero =>
          intro i hi
          have : i = 2 := by omega
          subst this
          exact loopV_done (by simp [law32_SelectionProves_L3])
        | succ k ih =>
          intro i hi
          have hil : i < ([tr, t] : List (List Int)).length := by show i < 2; omega
          have e0 : (i : Int) < 2 := by omega
          have e2 : IntKind.i64.wrap ((i : Int) + 1) = ((i + 1 : Nat) : Int) := by rw [IntWalk.i64_in _ (by omega)]; omega
          rw [← ih (i + 1) (by omega)]
          refine loopV_next ?_
          unfold law32_SelectionProves_L3
          simp only [e0, decide_true, cond_true, inb_nat hil, Int.toNat_natCast, List.getElem?_eq_getElem hil, Option.bind_some]
          obtain ⟨e, g1, g2⟩ := Check_ok (S := S) (tr := ([tr, t] : List (List Int))[i]) hb hv16 (P := P) (Nat.le_trans h2 (by decide)) hT1 (by omega)
          refine Eq.trans (congrArg (fun z => Option.bind z _) g1) ?_
          rw [Option.bind_some]
          by_cases k1 : e = 0
          · rw [bif_t (decide_eq_true k1)]
            obtain ⟨f1, f2, f3⟩ := g2 k1
            obtain ⟨m, m1, m2⟩ := law_least hb hv16 hT1
            rw [m1, Option.bind_some]
            have : S = m := by
              rcases m2 with ⟨_, m3⟩ | ⟨m3, m4, m5⟩
              · have := m3 S f2; omega
              · have := f3 m m4 m3; have := m5 S f2 f1; omega
            rw [bif_f (by simp [this]), e2]
          · rw [bif_f (decide_eq_false k1), e2]
      have := loop 2 0 (by omega)
      rw [show (((0 : Nat) : Int)) = 0 from rfl] at this
      refine Eq.trans (congrArg (fun z => Option.bind z _) this) ?_
      rfl
theorem selectionProves_pure (xs : TT.dens (holes [.slice (.int .i64), .slice (.int .u8), .slice (.int .i64)])) (h : WfAll [.slice (.int .i64), .slice (.int .u8), .slice (.int .i64)] xs) : law32_SelectionProves xs.1 xs.2.1 xs.2.2.1 = some ((true, ()), ()) :=
  selectionProves_eq (Deck.of h.1) (fun x hx => Wf.i64 (h.2.2.1.2 x hx))
end Go.PE
end
