/- What the printed functions of the program are, and the plain law; conditions stand in each statement. -/
import Derived.Test.YtmhkkhdpcnehbaaPa
import Derived.Test.YtmhkkhdpcnehbaaQc
section
namespace Go.PE
set_option linter.unusedSimpArgs false
set_option linter.unusedVariables false
/-- Two loops in step. -/
theorem loopV_rel {σ τ ω π : Type} {s1 : σ → Option (σ ⊕ ω)} {s2 : τ → Option (τ ⊕ π)} (R : σ → τ → Prop) (m : σ → Nat) (Q : ω → π → Prop) {v : σ} {w : τ} (h0 : R v w)
    (hs : ∀ v w, R v w → (∃ v' w', s1 v = some (.inl v') ∧ s2 w = some (.inl w') ∧ R v' w' ∧ m v' < m v) ∨ ∃ o p, s1 v = some (.inr o) ∧ s2 w = some (.inr p) ∧ Q o p) :
    ∃ o p, loopV s1 v = some o ∧ loopV s2 w = some p ∧ Q o p := by
  generalize hn : m v = n
  induction n using Nat.strongRecOn generalizing v w with
  | _ n ih =>
    rcases hs v w h0 with ⟨v', w', h1, h2, h3, h4⟩ | ⟨o, p, h1, h2, h3⟩
    · obtain ⟨o, p, h5, h6, h7⟩ := ih (m v') (by omega) h3 rfl
      exact ⟨o, p, by rw [loopV_next h1]; exact h5, by rw [loopV_next h2]; exact h6, h7⟩
    · exact ⟨o, p, loopV_done h1, loopV_done h2, h3⟩
theorem wrapU (n : Int) : 0 ≤ IntKind.u64.wrap n ∧ IntKind.u64.wrap n < 2 ^ 64 := by
  rw [wrap_un_mod rfl]; simp only [IntKind.bits]; omega
theorem riceV_bys {d : List Int} {N v p : Int} (hd : Bys d) : Bys (riceV d N v p).2 ∧ (riceV d N v p).2.length ≤ big := by
  unfold riceV
  by_cases h1 : vldB d N = true
  · have hV : Vld d N := by simpa [vldB] using h1
    rw [if_neg (by simp [h1])]
    split
    · exact ⟨bys_nil', by simp⟩
    · split
      · exact ⟨bys_nil', by simp⟩
      · rename_i h2 h3
        obtain ⟨M, rfl⟩ := Int.eq_ofNat_of_zero_le hV.1
        obtain ⟨k, rfl⟩ := Int.eq_ofNat_of_zero_le (show 0 ≤ p by omega)
        refine ⟨pushes_Bys hd, ?_⟩
        show (pushes d M (riceBits v.toNat k)).length ≤ big
        rw [pushes_length hV.len]
        simp only [Int.toNat_natCast] at h3
        have : (riceBits v.toNat k).length = (v.toNat >>> k) + 1 + k := by simp [riceBits, lowBits_length]; omega
        rw [this]; unfold big; omega
  · rw [if_pos h1]; exact ⟨bys_nil', by simp⟩
where bys_nil' : Bys [] := fun _ h => by cases h
/-! ### sorted -/
def Srt (l : List Int) : Prop := ∀ i, i + 1 < l.length → l.getD i 0 ≤ l.getD (i + 1) 0
open Classical in
noncomputable def srtB (l : List Int) : Bool := decide (Srt l)
theorem less64 {a b : Int} : cmp_Less_uint64 a b = some ((decide (a < b), ()), ()) := by
  unfold cmp_Less_uint64 cmp_isNaN_uint64
  by_cases h : a < b <;> simp [h]
theorem isSorted_eq {l : List Int} (hl : l.length ≤ big) : slices_IsSorted_uint64_uint64 l = some ((srtB l, ()), ()) := by
  unfold slices_IsSorted_uint64_uint64 srtB
  unfold big at hl
  rw [IntWalk.i64_in ((l.length : Int) - 1) (by omega)]
  obtain ⟨o, ho, hQ⟩ := loopV_inv (step := slices_IsSorted_uint64_uint64_L1 l) (v := ((((l.length : Int) - 1), ()), ()))
    (fun v => -1 ≤ v.1.1 ∧ v.1.1 < l.length ∧ ∀ i : Nat, v.1.1 ≤ i → i + 1 < l.length → l.getD i 0 ≤ l.getD (i + 1) 0) (fun v => v.1.1.toNat)
    (fun o => match o with | .inl o => o = ((false, ()), ()) ∧ ¬ Srt l | .inr o => Srt l) ⟨by simp only; omega, by simp only; omega, by intro i h1 h2; simp only at h1; omega⟩ (by
      rintro ⟨⟨k, _⟩, _⟩ ⟨h1, h2, h3⟩
      simp only at h1 h2 h3
      simp only [slices_IsSorted_uint64_uint64_L1]
      by_cases hk : 0 < k
      · rw [bif_t (by simpa using hk), bif_t (inb_t (by omega)), IntWalk.i64_in (k - 1) (by omega), bif_t (inb_t (by omega))]
        obtain ⟨n, rfl⟩ := Int.eq_ofNat_of_zero_le (show 0 ≤ k by omega)
        rw [rd_eq, rd_eq, show ((n : Int) - 1).toNat = n - 1 by omega, Int.toNat_natCast]
        show (∃ v', ((cmp_Less_uint64 (l.getD n 0) (l.getD (n - 1) 0)).bind _) = _ ∧ _) ∨ ∃ o, ((cmp_Less_uint64 (l.getD n 0) (l.getD (n - 1) 0)).bind _) = _ ∧ _
        rw [less64]
        simp only [Option.bind_some]
        by_cases hc : l.getD n 0 < l.getD (n - 1) 0
        · right
          rw [bif_t (by simpa using hc)]
          refine ⟨_, rfl, rfl, fun hs => ?_⟩
          have := hs (n - 1) (by omega)
          rw [show n - 1 + 1 = n by omega] at this
          omega
        · left
          rw [bif_f (by simpa using hc)]
          refine ⟨_, rfl, ⟨by simp only; omega, by simp only; omega, fun i h4 h5 => ?_⟩, by simp only; omega⟩
          simp only at h4
          by_cases h6 : (n : Int) ≤ i
          · exact h3 i h6 h5
          · rw [show i = n - 1 by omega, show n - 1 + 1 = n by omega]; omega
      · right
        rw [bif_f (by simpa using hk)]
        exact ⟨_, rfl, fun i h4 => h3 i (by omega) h4⟩)
  rw [ho]
  simp only [Option.bind_some]
  cases o with
  | inl o => obtain ⟨rfl, hn⟩ := hQ; simp [hn]
  | inr o => simp only at hQ ⊢; simp [hQ]
theorem refSorted_eq {l : List Int} (hl : l.length ≤ big) : ∃ o, loopV (ref19_Encode_L1 l) (((), ((1 : Int), ())), (((0 : Int), ((), ())), ())) = some o ∧
    (match o with | .inl o => o = (((), ((6 : Int), ())), (((0 : Int), ((), ())), ())) ∧ srtB l = false | .inr o => o = (((), ()), (((0 : Int), ((), ())), ())) ∧ srtB l = true) := by
  unfold srtB
  unfold big at hl
  refine loopV_inv (step := ref19_Encode_L1 l)
    (fun v => v.2 = (((0 : Int), ((), ())), ()) ∧ 1 ≤ v.1.2.1 ∧ ∀ i : Nat, (i : Int) + 1 < v.1.2.1 → i + 1 < l.length → l.getD i 0 ≤ l.getD (i + 1) 0) (fun v => ((l.length : Int) - v.1.2.1).toNat) _ ⟨rfl, by simp, by intro i h1 h2; simp only at h1; omega⟩ ?_
  rintro ⟨⟨_, k, _⟩, x⟩ ⟨h1, h2, h3⟩
  simp only at h1 h2 h3
  subst h1
  simp only [ref19_Encode_L1]
  by_cases hk : k < l.length
  · rw [bif_t (by simpa using hk), IntWalk.i64_in (k - 1) (by omega), bif_t (inb_t (by omega)), bif_t (inb_t (by omega))]
    obtain ⟨n, rfl⟩ := Int.eq_ofNat_of_zero_le (show 0 ≤ k by omega)
    have e1 : rd (.int .u64) l (n : Int) = l.getD n 0 := by rw [rd_eq]; rfl
    have e2 : rd (.int .u64) l ((n : Int) - 1) = l.getD (n - 1) 0 := by rw [rd_eq, show ((n : Int) - 1).toNat = n - 1 by omega]; rfl
    rw [e1, e2]
    by_cases hc : l.getD n 0 < l.getD (n - 1) 0
    · right
      rw [bif_t (by simpa using hc)]
      refine ⟨_, rfl, rfl, ?_⟩
      have : ¬ Srt l := fun hs => by
        have := hs (n - 1) (by omega)
        rw [show n - 1 + 1 = n by omega] at this
        omega
      simp [this]
    · left
      rw [bif_f (by simpa using hc), IntWalk.i64_in ((n : Int) + 1) (by omega)]
      refine ⟨_, rfl, ⟨rfl, by simp only; omega, fun i h4 h5 => ?_⟩, by simp only; omega⟩
      simp only at h4
      by_cases h6 : (i : Int) + 1 < n
      · exact h3 i h6 h5
      · rw [show i = n - 1 by omega, show n - 1 + 1 = n by omega]; omega
  · right
    rw [bif_f (by simpa using hk)]
    refine ⟨_, rfl, rfl, ?_⟩
    have : Srt l := fun i h4 => h3 i (by omega) h4
    simp [this]
/-! ### Encode -/
theorem encode_loop {l : List Int} {p : Int} (hl : l.length ≤ big) : ∃ o, loopV (golomb_Encode_L1 p l (l.length : Int)) (((), ((), ((0 : Int), ((0 : Int), ())))), (((0 : Int), ((), ())), (((), ((0 : Int), ())), (([] : List Int), ())))) = some o ∧
    loopV (ref19_Encode_L2 p l (l.length : Int)) (((), ((), ((0 : Int), ((0 : Int), ())))), (((0 : Int), ((), ())), (((), ((0 : Int), ())), (([] : List Int), ())))) = some o ∧ ∀ o', o = .inl o' → o'.2 = (((0 : Int), ((), ())), ()) := by
  unfold big at hl
  obtain ⟨o, o', h1, h2, h3, h4⟩ := loopV_rel (s1 := golomb_Encode_L1 p l (l.length : Int)) (s2 := ref19_Encode_L2 p l (l.length : Int))
    (fun v w => v = w ∧ v.2.1 = ((0 : Int), ((), ())) ∧ 0 ≤ v.1.2.2.2.1 ∧ Bys v.2.2.2.1 ∧ v.2.2.2.1.length ≤ big) (fun v => ((l.length : Int) - v.1.2.2.2.1).toNat) (fun o o' => o = o' ∧ ∀ x, o = .inl x → x.2 = (((0 : Int), ((), ())), ()))
    (v := (((), ((), ((0 : Int), ((0 : Int), ())))), (((0 : Int), ((), ())), (((), ((0 : Int), ())), (([] : List Int), ()))))) ⟨rfl, rfl, by simp, (fun c h => by cases h), by simp⟩ (by
      rintro ⟨⟨_, _, s, k, _⟩, z, ⟨_, N, _⟩, d, _⟩ _ ⟨rfl, hz, h1, hd, hdl⟩
      simp only at hz h1 hd hdl
      subst hz
      simp only [golomb_Encode_L1, ref19_Encode_L2]
      by_cases hk : k < l.length
      · rw [bif_t (by simpa using hk), bif_t (inb_t (by omega)), bif_t (by simpa using hk), bif_t (inb_t (by omega))]
        have hw := wrapU (rd (.int .u64) l k - s)
        rw [bits_AppendRice_eq hd hdl hw.1 hw.2, ref18_AppendRice_eq hd hdl hw.1 hw.2]
        have hb := riceV_bys (N := N) (v := IntKind.u64.wrap (rd (.int .u64) l k - s)) (p := p) hd
        generalize riceV d N (IntKind.u64.wrap (rd (.int .u64) l k - s)) p = r at *
        simp only [Option.bind_some]
        by_cases he : r.1.2 = 0
        · left
          rw [bif_f (by simpa using he), IntWalk.i64_in (k + 1) (by omega)]
          exact ⟨_, _, rfl, rfl, ⟨rfl, rfl, by simp only; omega, hb.1, hb.2⟩, by simp only; omega⟩
        · right
          rw [bif_t (by simpa using he)]
          exact ⟨_, _, rfl, rfl, rfl, by intro x h; cases h; rfl⟩
      · right
        rw [bif_f (by simpa using hk), bif_f (by simpa using hk)]
        exact ⟨_, _, rfl, rfl, rfl, by intro x h; cases h⟩)
  subst h3
  exact ⟨o, h1, h2, h4⟩
theorem encode_ref {l : List Int} {p : Int} : ∃ r, golomb_Encode l p = some r ∧ ref19_Encode l p = some r := by
  unfold golomb_Encode ref19_Encode
  by_cases h1 : (4096 : Int) < l.length
  · simp only [decide_eq_true h1, cond_true]; exact ⟨_, rfl, rfl⟩
  simp only [decide_eq_false h1, cond_false]
  by_cases h2 : p < 0
  · simp only [decide_eq_true h2, cond_true]; exact ⟨_, rfl, rfl⟩
  simp only [decide_eq_false h2, cond_false]
  by_cases h3 : 32 < p
  · simp only [decide_eq_true h3, cond_true]; exact ⟨_, rfl, rfl⟩
  simp only [decide_eq_false h3, cond_false]
  have hl : l.length ≤ big := by unfold big; omega
  obtain ⟨o, ho, hQ⟩ := refSorted_eq hl
  rw [isSorted_eq hl, ho]
  simp only [Option.bind_some]
  cases o with
  | inl o =>
    obtain ⟨rfl, hs⟩ := hQ
    rw [bif_t (by simp [hs])]
    exact ⟨_, rfl, rfl⟩
  | inr o =>
    obtain ⟨rfl, hs⟩ := hQ
    rw [bif_f (by simp [hs])]
    obtain ⟨o, g1, g2, g3⟩ := encode_loop (p := p) hl
    simp only
    rw [g1, g2]
    simp only [Option.bind_some]
    cases o with
    | inl o => exact ⟨_, rfl, rfl⟩
    | inr o => exact ⟨_, rfl, rfl⟩
/-! ### Decode -/
theorem decode_ref {n p : Int} {d : List Int} (hd : Bys d) : ∃ r, golomb_Decode (n, (d, ())) p = some r ∧ ref19_Decode (n, (d, ())) p = some r ∧ r.2.1.length ≤ 4096 := by
  unfold golomb_Decode ref19_Decode
  simp only
  by_cases h1 : (4096 : Int) < n
  · simp only [decide_eq_true h1, cond_true]; exact ⟨_, rfl, rfl, by simp⟩
  simp only [decide_eq_false h1, cond_false]
  by_cases h2 : (200000 : Int) < d.length
  · simp only [decide_eq_true h2, cond_true]; exact ⟨_, rfl, rfl, by simp⟩
  simp only [decide_eq_false h2, cond_false]
  by_cases h3 : n < 0
  · simp only [decide_eq_true h3, cond_true]; exact ⟨_, rfl, rfl, by simp⟩
  simp only [decide_eq_false h3, cond_false]
  by_cases h4 : p < 0
  · simp only [decide_eq_true h4, cond_true]; exact ⟨_, rfl, rfl, by simp⟩
  simp only [decide_eq_false h4, cond_false]
  by_cases h5 : 32 < p
  · simp only [decide_eq_true h5, cond_true]; exact ⟨_, rfl, rfl, by simp⟩
  simp only [decide_eq_false h5, cond_false]
  have hdl : d.length ≤ big := by unfold big; omega
  rw [IntWalk.i64_in (8 * (d.length : Int)) (by omega)]
  generalize hN : 8 * (d.length : Int) = N
  obtain ⟨o, o', g1, g2, g3, g4⟩ := loopV_rel (s1 := golomb_Decode_L1 p n) (s2 := ref19_Decode_L1 p)
    (fun v w => ∃ (s a : Int) (vs : List Int), 0 ≤ s ∧ s < 2 ^ 64 ∧ vs.length ≤ n ∧ v = (((), ((), (s, (a, ((vs.length : Int), ()))))), ((d, (N, ())), (vs, ()))) ∧ w = (((), ((), ((), (a, (s, ()))))), ((n, (d, ())), ((d, (N, ())), (vs, ())))))
    (fun v => (n - v.1.2.2.2.2.1).toNat) (fun o o' => o = o' ∧ match o with | .inl _ => True | .inr o => o.2.1 = (d, (N, ())) ∧ o.2.2.1.length ≤ n)
    (v := (((), ((), ((0 : Int), ((0 : Int), ((0 : Int), ()))))), ((d, (N, ())), (([] : List Int), ()))))
    (w := (((), ((), ((), ((0 : Int), ((0 : Int), ()))))), ((n, (d, ())), ((d, (N, ())), (([] : List Int), ())))))
    ⟨0, 0, [], by omega, by omega, by simp; omega, rfl, rfl⟩ (by
      rintro _ _ ⟨s, a, vs, hs1, hs2, hv, rfl, rfl⟩
      simp only [golomb_Decode_L1, ref19_Decode_L1]
      by_cases hk : (vs.length : Int) < n
      · simp only [decide_eq_true hk, cond_true]
        rw [bits_ReadRice_eq hd hdl, ref18_ReadRice_eq hd hdl]
        generalize riceR d N a p = r
        simp only [Option.bind_some]
        by_cases he : r.2.2 = 0
        · simp only [decide_eq_true he, Bool.not_true, cond_false]
          have hw := wrapU (s + r.1)
          generalize IntKind.u64.wrap (s + r.1) = x at *
          by_cases hx : x < s
          · right
            simp only [decide_eq_true hx, cond_true]
            exact ⟨_, _, rfl, rfl, rfl, trivial⟩
          · left
            simp only [decide_eq_false hx, cond_false]
            rw [bif_t (by simp [lim]; omega), bif_t (by simp [lim]; omega), IntWalk.i64_in ((vs.length : Int) + 1) (by omega)]
            refine ⟨_, _, rfl, rfl, ⟨x, r.2.1, vs ++ [x], hw.1, hw.2, by simp; omega, by simp, rfl⟩, by simp only; omega⟩
        · right
          simp only [decide_eq_false he, Bool.not_false, cond_true]
          exact ⟨_, _, rfl, rfl, rfl, trivial⟩
      · right
        simp only [decide_eq_false hk, cond_false]
        exact ⟨_, _, rfl, rfl, rfl, rfl, hv⟩)
  subst g3
  rw [g1, g2]
  simp only [Option.bind_some]
  cases o with
  | inl o => exact ⟨_, rfl, rfl, by simp⟩
  | inr o =>
    obtain ⟨⟨_, _, b, _⟩, x, vs, _⟩ := o
    obtain ⟨g5, g6⟩ := g4
    simp only at g5 g6
    subst g5
    simp only
    by_cases h6 : (8 : Int) ≤ IntKind.i64.wrap (N - b)
    · simp only [decide_eq_true h6, cond_true]; exact ⟨_, rfl, rfl, by simp⟩
    simp only [decide_eq_false h6, cond_false]
    rw [bits_Read_eq hd hdl, ref18_Read_eq hd hdl]
    simp only [Option.bind_some]
    by_cases h7 : (readV d N b (IntKind.i64.wrap (N - b))).1 = 0
    · simp only [decide_eq_true h7, Bool.not_true, cond_false]; exact ⟨_, rfl, rfl, by simp only; omega⟩
    · simp only [decide_eq_false h7, Bool.not_false, cond_true]; exact ⟨_, rfl, rfl, by simp⟩
theorem same_eq {l : List Int} (hl : l.length ≤ big) : law19_same l l = some ((true, ()), ()) := by
  unfold law19_same
  have h : loopV (law19_same_L1 l l (l.length : Int)) (((0 : Int), ()), ()) = some (Sum.inr ((), ())) := by
    refine loopV_ind (fun i => (((i : Int), ()), ())) l.length rfl ?_ ?_
    · intro i hi
      simp only [law19_same_L1]
      rw [bif_t (by simp; omega), bif_t (inb_nat hi), bif_t (inb_nat hi), bif_f (by simp), i64_up hi hl]
    · simp [law19_same_L1]
  rw [bif_f (by simp), h]
  rfl
/-! ### law19.sane -/
theorem pdq_nil {f : Nat} {x : Int} : fixN slices_pdqsortOrdered_uint64_R (f + 1) (((), ((0 : Int), ((0 : Int), (x, ())))), (([] : List Int), ())) = some ((), ([], ())) := by
  rw [fixN]
  generalize fixN slices_pdqsortOrdered_uint64_R f = self
  unfold slices_pdqsortOrdered_uint64_R
  have h2 : loopV (slices_insertionSortOrdered_uint64_L1 (0 : Int) (0 : Int)) (((), ((1 : Int), ())), (([] : List Int), ())) = some ((), (([] : List Int), ())) := loopV_done rfl
  have h1 : slices_insertionSortOrdered_uint64 (0 : Int) (0 : Int) [] = some ((), ([], ())) := by
    unfold slices_insertionSortOrdered_uint64
    rw [show IntKind.i64.wrap (0 + 1) = 1 by decide, h2]
    rfl
  rw [loopV_done (o := ((), (([] : List Int), ())))]
  · rfl
  · simp only [slices_pdqsortOrdered_uint64_L1]
    rw [bif_t (show decide (IntKind.i64.wrap ((0 : Int) - 0) ≤ 12) = true by decide), h1]
    rfl
theorem sort_nil : slices_Sort_uint64_uint64 [] = some ((), ([], ())) := by
  unfold slices_Sort_uint64_uint64 math_bits_Len
  have h := math_bits_Len64_eq (n := 0) (by decide)
  simp only [List.length_nil]
  show ((math_bits_Len64 (IntKind.u64.wrap ((0 : Nat) : Int))).bind _).bind _ = _
  rw [wrap_un (k := .u64) rfl (by decide) (by decide), h]
  simp only [Option.bind_some]
  unfold slices_pdqsortOrdered_uint64
  rw [show fuel = 999999999 + 1 from rfl, show (((0 : Nat) : Int)) = 0 from rfl, pdq_nil]
  rfl
end Go.PE
end

section
namespace Go.PE
set_option linter.unusedSimpArgs false
set_option linter.unusedVariables false
theorem vld_nil : Vld [] 0 := ⟨by omega, by omega, by simp, fun i _ h => by simp at h⟩
theorem vldB_of {d : List Int} {N : Int} (h : Vld d N) : vldB d N = true := by simpa [vldB] using h
theorem bys_nil : Bys [] := fun _ h => by cases h
/-! ### Rice codes, back -/
theorem riceBits_length {v p : Nat} : (riceBits v p).length = (v >>> p) + 1 + p := by simp [riceBits, lowBits_length]; omega
theorem riceBits_get {v p i : Nat} (hi : i < (v >>> p) + 1 + p) : (riceBits v p).getD i false = if i < v >>> p then true else if i = v >>> p then false else v.testBit (p - 1 - (i - (v >>> p) - 1)) := by
  unfold riceBits
  rw [List.getD_eq_getElem?_getD, List.getElem?_append]
  simp only [List.length_replicate]
  by_cases h1 : i < v >>> p
  · rw [if_pos h1, if_pos h1, List.getElem?_replicate, if_pos h1]; rfl
  · rw [if_neg h1, if_neg h1]
    by_cases h2 : i = v >>> p
    · rw [if_pos h2, h2]; simp
    · rw [if_neg h2, show i - v >>> p = (i - v >>> p - 1) + 1 by omega]
      simp only [List.getElem?_cons_succ]
      rw [← List.getD_eq_getElem?_getD, lowBits_get (by omega)]
      congr 1
theorem numB_testBit {d : List Int} {a : Nat} : ∀ {n j : Nat}, j < n → (numB d a n).testBit (n - 1 - j) = gb d (a + j) := by
  intro n
  induction n with
  | zero => intro j h; omega
  | succ n ih =>
    intro j h
    rw [numB]
    by_cases hj : j = n
    · subst hj
      rw [show j + 1 - 1 - j = 0 by omega, Nat.testBit_zero]
      cases gb d (a + j) <;> simp <;> omega
    · rw [show n + 1 - 1 - j = (n - 1 - j) + 1 by omega, Nat.testBit_succ, ← ih (j := j) (by omega)]
      rw [show (2 * numB d a n + if gb d (a + n) = true then 1 else 0) / 2 = numB d a n by split <;> omega]
theorem riceV_ok {d : List Int} {N v p : Nat} (h : Vld d N) (hp : p ≤ 32) (hq : v >>> p ≤ 65536) (hN : N + (v >>> p) + 1 + p ≤ 1600000) :
    riceV d N v p = ((((N + (v >>> p) + 1 + p : Nat) : Int), 0), pushes d N (riceBits v p)) := by
  unfold riceV
  rw [vldB_of h, if_neg (by simp), if_neg (by omega), if_neg (by simp only [Int.toNat_natCast]; omega)]
  simp only [Int.toNat_natCast]
  rfl
theorem riceR_ok {d : List Int} {N v p a : Nat} (h : Vld d N) (hp : p ≤ 32) (hq : v >>> p ≤ 65536) (ha : a + (v >>> p) + 1 + p ≤ N) (hg : ∀ i, i < (v >>> p) + 1 + p → gb d (a + i) = (riceBits v p).getD i false) :
    riceR d N a p = ((v : Int), ((a + (v >>> p) + 1 + p : Nat) : Int), 0) := by
  have hlead : lead d (N - a) a = v >>> p := by
    refine lead_eq (by omega) (fun j hj => ?_) (.inr ?_)
    · rw [hg j (by omega), riceBits_get (by omega), if_pos hj]
    · rw [hg _ (by omega), riceBits_get (by omega), if_neg (by omega), if_pos rfl]
  have hnum : numB d (a + (v >>> p) + 1) p = v % 2 ^ p := by
    refine numB_low fun j hj => ?_
    rw [show a + (v >>> p) + 1 + j = a + ((v >>> p) + 1 + j) by omega, hg _ (by omega), riceBits_get (by omega), if_neg (by omega), if_neg (by omega)]
    congr 1
    omega
  unfold riceR
  simp only [show ((N : Int) - (a : Int)).toNat = N - a by omega, Int.toNat_natCast, hlead]
  rw [vldB_of h, if_neg (by simp), if_neg (by omega), if_neg (by omega), if_neg (by omega), hnum]
  have : v >>> p * 2 ^ p + v % 2 ^ p = v := by rw [Nat.shiftRight_eq_div_pow]; exact Nat.div_add_mod' v (2 ^ p)
  rw [this]
  simp

theorem riceR_back {d : List Int} {N a p : Nat} {r b : Int} (h : riceR d N a p = (r, b, 0)) :
    ∃ v : Nat, r = v ∧ v < 2 ^ 60 ∧ p ≤ 32 ∧ v >>> p ≤ 65536 ∧ b = ((a + ((v >>> p) + 1 + p) : Nat) : Int) ∧ a + ((v >>> p) + 1 + p) ≤ N ∧ ∀ i, i < (v >>> p) + 1 + p → gb d (a + i) = (riceBits v p).getD i false := by
  unfold riceR at h
  simp only [show ((N : Int) - (a : Int)).toNat = N - a by omega, Int.toNat_natCast] at h
  obtain ⟨g1, g2, g3⟩ := @lead_spec d (N - a) a
  generalize lead d (N - a) a = q at *
  by_cases c0 : ¬ vldB d N = true
  · rw [if_pos c0] at h; simp at h
  rw [if_neg c0] at h
  by_cases c1 : (p : Int) < 0 ∨ 32 < (p : Int) ∨ (a : Int) < 0 ∨ (N : Int) < a
  · rw [if_pos c1] at h; simp at h
  rw [if_neg c1] at h
  by_cases c2 : 65536 < q
  · rw [if_pos c2] at h; simp at h
  rw [if_neg c2] at h
  by_cases c3 : (a : Int) + q = N ∨ (N : Int) - (a + q) - 1 < p
  · rw [if_pos c3] at h; simp at h
  rw [if_neg c3] at h
  have hr := @numB_lt d (a + q + 1) p
  generalize hR : numB d (a + q + 1) p = s at *
  have hsh : (q * 2 ^ p + s) >>> p = q := by
    rw [Nat.shiftRight_eq_div_pow, Nat.mul_comm, Nat.mul_add_div (Nat.two_pow_pos p), Nat.div_eq_of_lt hr]; omega
  have hp2 : 2 ^ p ≤ 2 ^ 32 := Nat.pow_le_pow_right (by omega) (by omega)
  have hm : q * 2 ^ p ≤ 65536 * 2 ^ 32 := Nat.mul_le_mul (by omega) hp2
  simp only [Prod.mk.injEq] at h
  refine ⟨q * 2 ^ p + s, h.1.symm, by omega, by omega, by omega, ?_, by omega, ?_⟩
  · rw [hsh, ← h.2.1]; omega
  · intro i hi
    rw [hsh] at hi
    rw [riceBits_get (by omega), hsh]
    by_cases d1 : i < q
    · rw [if_pos d1, g2 i d1]
    · rw [if_neg d1]
      by_cases d2 : i = q
      · rw [if_pos d2, d2]
        rcases g3 with g3 | g3
        · omega
        · exact g3
      · rw [if_neg d2]
        have := numB_testBit (d := d) (a := a + q + 1) (n := p) (j := i - q - 1) (by omega)
        rw [hR, show a + q + 1 + (i - q - 1) = a + i by omega] at this
        rw [← this, Nat.mul_comm, Nat.testBit_two_pow_mul_add _ hr, if_pos (by omega)]
theorem numB_zero {d : List Int} {a : Nat} : ∀ {n : Nat}, (∀ j, j < n → gb d (a + j) = false) → numB d a n = 0 := by
  intro n
  induction n with
  | zero => intro _; rfl
  | succ n ih => intro h; rw [numB, ih (fun j hj => h j (by omega)), h n (by omega)]; rfl
theorem numB_zero' {d : List Int} {a : Nat} : ∀ {n : Nat}, numB d a n = 0 → ∀ j, j < n → gb d (a + j) = false := by
  intro n
  induction n with
  | zero => intro _ j h; omega
  | succ n ih =>
    intro h j hj
    rw [numB] at h
    by_cases h2 : gb d (a + n) = true
    · rw [if_pos h2] at h; omega
    · by_cases h3 : j = n
      · rw [h3]; simpa using h2
      · exact ih (by omega) j (by omega)
theorem bys_ext {d e : List Int} (hd : Bys d) (he : Bys e) (hl : d.length = e.length) (h : ∀ i, gb d i = gb e i) : d = e := by
  apply List.ext_getElem hl
  intro m h1 h2
  have b1 := hd.getD m
  have b2 := he.getD m
  have e1 : d.getD m 0 = d[m] := by rw [List.getD_eq_getElem?_getD, List.getElem?_eq_getElem h1]; rfl
  have e2 : e.getD m 0 = e[m] := by rw [List.getD_eq_getElem?_getD, List.getElem?_eq_getElem h2]; rfl
  rw [← e1, ← e2]
  have : (d.getD m 0).toNat = (e.getD m 0).toNat := by
    apply Nat.eq_of_testBit_eq
    intro j
    by_cases hj : j < 8
    · have := h (8 * m + (7 - j))
      unfold gb at this
      rw [show (8 * m + (7 - j)) / 8 = m by omega, show (8 * m + (7 - j)) % 8 = 7 - j by omega, show 7 - (7 - j) = j by omega] at this
      exact this
    · have h3 : 2 ^ 8 ≤ 2 ^ j := Nat.pow_le_pow_right (by omega) (by omega)
      rw [Nat.testBit_lt_two_pow (by omega), Nat.testBit_lt_two_pow (by omega)]
  omega
end Go.PE
end

section
namespace Go.PE
set_option linter.unusedSimpArgs false
set_option linter.unusedVariables false
/-- The number ahead of place i. -/
def prev (l : List Int) (i : Nat) : Int := if i = 0 then 0 else l.getD (i - 1) 0
/-- The codes of the first numbers. -/
def gc (k : Nat) (l : List Int) : Nat → List Bool
  | 0 => []
  | i + 1 => gc k l i ++ riceBits (l.getD i 0 - prev l i).toNat k
/-- Sorted numbers of 64 bits. -/
def Up (l : List Int) : Prop := Srt l ∧ ∀ c ∈ l, 0 ≤ c ∧ c < 2 ^ 64
theorem gc_mono {k : Nat} {l : List Int} {i j : Nat} (h : i ≤ j) : ∃ m, gc k l j = gc k l i ++ m := by
  induction j with
  | zero => have : i = 0 := by omega
            subst this; exact ⟨[], by simp⟩
  | succ j ih =>
    by_cases h2 : i ≤ j
    · obtain ⟨m, hm⟩ := ih h2
      exact ⟨m ++ riceBits (l.getD j 0 - prev l j).toNat k, by rw [gc, hm, List.append_assoc]⟩
    · have : i = j + 1 := by omega
      subst this; exact ⟨[], by simp⟩
theorem gc_len {k : Nat} {l : List Int} {i j : Nat} (h : i ≤ j) : (gc k l i).length ≤ (gc k l j).length := by
  obtain ⟨m, hm⟩ := @gc_mono k l i j h
  rw [hm]; simp
theorem prev_append {l m : List Int} {i : Nat} (h : i ≤ l.length) : prev (l ++ m) i = prev l i := by
  unfold prev
  split
  · rfl
  · rw [List.getD_eq_getElem?_getD, List.getD_eq_getElem?_getD, List.getElem?_append_left (by omega)]
theorem gc_append {k : Nat} {l m : List Int} : ∀ {i : Nat}, i ≤ l.length → gc k (l ++ m) i = gc k l i := by
  intro i
  induction i with
  | zero => intro _; rfl
  | succ i ih =>
    intro h
    rw [gc, gc, ih (by omega), prev_append (by omega), List.getD_eq_getElem?_getD, List.getD_eq_getElem?_getD, List.getElem?_append_left (by omega)]
theorem Up.get {l : List Int} (h : Up l) {i : Nat} (hi : i < l.length) : 0 ≤ l.getD i 0 ∧ l.getD i 0 < 2 ^ 64 := by
  rw [List.getD_eq_getElem?_getD, List.getElem?_eq_getElem hi]; exact h.2 _ (List.getElem_mem hi)
theorem Up.prev {l : List Int} (h : Up l) {i : Nat} (hi : i < l.length) : 0 ≤ prev l i ∧ prev l i ≤ l.getD i 0 := by
  unfold Go.PE.prev
  by_cases h0 : i = 0
  · rw [if_pos h0, h0]; exact ⟨by omega, (h.get (by omega)).1⟩
  · rw [if_neg h0]
    have := h.1 (i - 1) (by omega)
    rw [show i - 1 + 1 = i by omega] at this
    exact ⟨(h.get (by omega)).1, this⟩
theorem gc_step {k : Nat} {l : List Int} (hU : Up l) (hL : (gc k l l.length).length ≤ 65536) {i : Nat} (hi : i < l.length) :
    ∃ v : Nat, l.getD i 0 - prev l i = v ∧ (v : Int) < 2 ^ 64 ∧ gc k l (i + 1) = gc k l i ++ riceBits v k ∧ (gc k l i).length + ((v >>> k) + 1 + k) ≤ (gc k l l.length).length := by
  have h1 := hU.prev hi
  have h2 := hU.get hi
  obtain ⟨v, hv⟩ := Int.eq_ofNat_of_zero_le (show 0 ≤ l.getD i 0 - prev l i by omega)
  refine ⟨v, hv, by omega, by rw [gc, hv]; rfl, ?_⟩
  have := @gc_len k l (i + 1) l.length (by omega)
  rw [gc, hv, List.length_append, Int.toNat_natCast, riceBits_length] at this
  exact this
theorem encode_ok {k : Nat} {l : List Int} (hU : Up l) (hk : k ≤ 32) (hn : l.length ≤ 4096) (hL : (gc k l l.length).length ≤ 65536) :
    golomb_Encode l (k : Int) = some (((((l.length : Nat) : Int), ((), ())), ((0 : Int), ())), (pushes [] 0 (gc k l l.length), ())) := by
  unfold golomb_Encode
  rw [bif_f (by simp; omega), bif_f (by simp), bif_f (by simp; omega), isSorted_eq (by unfold big; omega)]
  simp only [Option.bind_some]
  have hs : srtB l = true := by simp only [srtB, decide_eq_true_eq]; exact hU.1
  rw [bif_f (by simp [hs])]
  have hloop : loopV (golomb_Encode_L1 (k : Int) l (l.length : Int)) (((), ((), ((0 : Int), ((0 : Int), ())))), (((0 : Int), ((), ())), (((), ((0 : Int), ())), (([] : List Int), ())))) =
      some (.inr (((), ((), ())), (((0 : Int), ((), ())), (((), ((((gc k l l.length).length : Nat) : Int), ())), (pushes [] 0 (gc k l l.length), ()))))) := by
    refine loopV_ind (fun i => (((), ((), ((prev l i), ((i : Int), ())))), (((0 : Int), ((), ())), (((), ((((gc k l i).length : Nat) : Int), ())), (pushes [] 0 (gc k l i), ()))))) l.length (by simp [gc, pushes, prev]) ?_ ?_
    · intro i hi
      obtain ⟨v, h1, h2, h3, h4⟩ := gc_step hU hL hi
      have h5 : (gc k l i).length ≤ 65536 := Nat.le_trans (gc_len (by omega)) hL
      simp only [golomb_Encode_L1]
      rw [bif_t (by simp; omega), bif_t (inb_nat hi)]
      have e1 : rd (.int .u64) l (i : Int) = l.getD i 0 := by rw [rd_eq]; rfl
      rw [e1, h1, wrap_un (k := .u64) rfl (by omega) (by simpa [IntKind.bits] using h2)]
      have hV := vld_nil.pushes (N := 0) (l := gc k l i) (by omega)
      rw [Nat.zero_add] at hV
      have hlen := hV.len
      rw [bits_AppendRice_eq (pushes_Bys bys_nil) (by unfold big; omega) (by omega) (by omega), riceV_ok hV hk (by omega) (by omega)]
      simp only [Option.bind_some]
      rw [bif_f (by simp), IntWalk.i64_in _ (by omega), h3, pushes_append, List.length_append, riceBits_length]
      have e2 : l.getD i 0 = prev l (i + 1) := by simp [prev]
      rw [e2]
      simp only [Nat.zero_add, ← Nat.add_assoc]
      rfl
    · simp only [golomb_Encode_L1]
      rw [bif_f (by simp)]
  rw [hloop]
  rfl
theorem law19_sane_eq : law19_sane = some ((true, ()), ()) := by
  have hU1 : Up [1, 3] := ⟨fun i h => by
      simp only [List.length_cons, List.length_nil] at h
      have : i = 0 := by omega
      subst this; decide, by decide⟩
  have hU0 : Up [] := ⟨fun i h => by simp at h, fun c h => by cases h⟩
  have e1 := encode_ok (k := 2) hU1 (by omega) (by decide) (by decide)
  have e0 := encode_ok (k := 2) hU0 (by omega) (by decide) (by decide)
  have hb : golomb_Build (List.replicate 2 (0 : Int)) ([] : List (List Int)) (2 : Int) (5 : Int) = some ((((0 : Int), ((), ())), ((0 : Int), ())), ([], ())) := by
    unfold golomb_Build
    rw [bif_f (by decide)]
    have hJ : golomb_Build_J1 2 5 (((), ((), ())), (List.replicate 2 (0 : Int), (((0 : Int), ((), ())), ()))) = some (((), ((), (false, ()))), (List.replicate 2 (0 : Int), (((0 : Int), ((), ())), ()))) := rfl
    rw [hJ]
    simp only [Option.bind_some]
    rw [bif_f rfl]
    have hL2 : loopV (golomb_Build_L2 [] ((([] : List (List Int)).length : Nat) : Int)) (((), ((), ((), ((), ((0 : Int), ()))))), (List.replicate 2 (0 : Int), (((0 : Int), ((), ())), (([]), (([] : List (List Int)), ()))))) =
      some (((), ((), ((), ()))), (List.replicate 2 (0 : Int), (((0 : Int), ((), ())), (([] : List (List Int)), ())))) := loopV_done rfl
    rw [hL2]
    simp only [Option.bind_some]
    have hV : golomb_values (List.replicate 2 (0 : Int)) [] ((([] : List (List Int)).length : Nat) : Int) 5 = some (((), ()), ([], ())) := by
      unfold golomb_values
      simp only
      have hL1 : loopV (golomb_values_L1 ((([] : List (List Int)).length : Nat) : Int) 5 [] ((([] : List (List Int)).length : Nat) : Int)) (((), ((), ((0 : Int), ()))), (List.replicate 2 (0 : Int), ((List.replicate 0 (0 : Int)), ()))) = some (((), ()), (([] : List Int), ())) := loopV_done rfl
      rw [bif_t (by decide), hL1]
      simp only [Option.bind_some]
      rw [sort_nil]
      rfl
    rw [hV]
    simp only [Option.bind_some]
    rw [show (2 : Int) = ((2 : Nat) : Int) from rfl, e0]
    rfl
  unfold law19_sane
  rw [hb, show (golomb_Encode ([(1 : Int), (3 : Int)] : List Int) (2 : Int)) = _ from e1]
  rfl
theorem law19_GolombEncodes_eq {l : List Int} {p : Int} : law19_GolombEncodes l p = some ((true, ()), ()) := by
  unfold law19_GolombEncodes
  rw [law19_sane_eq]
  simp only [Option.bind_some]
  rw [bif_f (by rfl)]
  by_cases h : (60 : Int) < l.length
  · rw [bif_t (by simpa using h)]
  rw [bif_f (by simpa using h)]
  obtain ⟨r, h1, h2⟩ := @encode_ref l p
  rw [h1, h2]
  simp only [Option.bind_some]
  rw [bif_t (by simp)]
  unfold ref19_Same
  rw [bif_t (by simp), ref01_Same_eq]
  simp
theorem law19_GolombDecodes_eq {d : List Int} {n p : Int} (hd : Bys d) : law19_GolombDecodes (n, (d, ())) p = some ((true, ()), ()) := by
  unfold law19_GolombDecodes
  rw [law19_sane_eq]
  simp only [Option.bind_some]
  rw [bif_f (by rfl)]
  by_cases h : (400 : Int) < d.length
  · rw [bif_t (by simpa using h)]
  rw [bif_f (by simpa using h)]
  obtain ⟨r, h1, h2, h3⟩ := @decode_ref n p d hd
  rw [h1, h2]
  simp only [Option.bind_some]
  rw [bif_t (by simp), same_eq (by unfold big; omega)]
  rfl
theorem bys_of {d : List Int} (h : Ty.Wf (.slice (.int .u8)) d) : Bys d ∧ d.length ≤ big := ⟨fun c hc => by have := Wf.u8 (h.2 c hc); omega, h.1⟩
theorem golombEncodes_pure (xs : TT.dens (holes [.slice (.int .u64), .int .i64])) (h : WfAll [.slice (.int .u64), .int .i64] xs) : law19_GolombEncodes xs.1 xs.2.1 = some ((true, ()), ()) :=
  law19_GolombEncodes_eq
theorem golombDecodes_pure (xs : TT.dens (holes [T_b101, .int .i64])) (h : WfAll [T_b101, .int .i64] xs) : law19_GolombDecodes xs.1 xs.2.1 = some ((true, ()), ()) :=
  law19_GolombDecodes_eq (bys_of h.1.2.1).1
end Go.PE
end

section
namespace Go.PE
set_option linter.unusedSimpArgs false
set_option linter.unusedVariables false
theorem readV_at {d : List Int} {N a n : Nat} (h : Vld d N) (hn : n ≤ 64) (ha : a + n ≤ N) : readV d N a n = (((numB d a n : Nat) : Int), ((a + n : Nat) : Int), 0) := by
  unfold readV
  rw [vldB_of h, if_neg (by simp), if_neg (by omega), if_neg (by omega)]
  simp
theorem vld_full {d : List Int} (h : d.length ≤ 200000) : Vld d ((8 * d.length : Nat) : Int) := ⟨by omega, by omega, by omega, fun i h1 h2 => by omega⟩
theorem gb_out {d : List Int} {i : Nat} (h : 8 * d.length ≤ i) : gb d i = false := by
  unfold gb
  rw [List.getD_eq_getElem?_getD, List.getElem?_eq_none (by omega)]
  simp
theorem getD_out {l : List Bool} {i : Nat} (h : l.length ≤ i) : l.getD i false = false := by
  rw [List.getD_eq_getElem?_getD, List.getElem?_eq_none h]; rfl
theorem getD_left {l m : List Bool} {i : Nat} (h : i < l.length) : (l ++ m).getD i false = l.getD i false := by
  rw [List.getD_eq_getElem?_getD, List.getD_eq_getElem?_getD, List.getElem?_append_left h]
theorem getD_right {l m : List Bool} {i : Nat} : (l ++ m).getD (l.length + i) false = m.getD i false := by
  rw [List.getD_eq_getElem?_getD, List.getD_eq_getElem?_getD, List.getElem?_append_right (by omega)]
  congr 2; omega
theorem gb_gc {l : List Bool} (h : l.length ≤ 65536) (i : Nat) : gb (pushes [] 0 l) i = l.getD i false := by
  have := gb_pushes (N := 0) (l := l) vld_nil (by omega) i
  rw [this, if_neg (by omega), Nat.sub_zero]
theorem Up.snoc {l : List Int} {x : Int} (h : Up l) (h1 : Go.PE.prev l l.length ≤ x) (h0 : 0 ≤ x) (h2 : x < 2 ^ 64) : Up (l ++ [x]) := by
  refine ⟨fun i hi => ?_, fun c hc => ?_⟩
  · rw [List.length_append, List.length_singleton] at hi
    by_cases h3 : i + 1 < l.length
    · rw [List.getD_eq_getElem?_getD, List.getD_eq_getElem?_getD, List.getElem?_append_left (by omega), List.getElem?_append_left h3, ← List.getD_eq_getElem?_getD, ← List.getD_eq_getElem?_getD]
      exact h.1 i h3
    · have e : i + 1 = l.length := by omega
      have e2 : (l ++ [x]).getD (i + 1) 0 = x := by rw [List.getD_eq_getElem?_getD, e]; simp
      have e3 : (l ++ [x]).getD i 0 = Go.PE.prev l l.length := by
        unfold Go.PE.prev
        rw [if_neg (by omega), ← e, List.getD_eq_getElem?_getD, List.getD_eq_getElem?_getD, List.getElem?_append_left (by omega)]
        rfl
      rw [e2, e3]; exact h1
  · rw [List.mem_append, List.mem_singleton] at hc
    rcases hc with hc | rfl
    · exact h.2 c hc
    · exact ⟨h0, h2⟩
theorem prev_snoc {l : List Int} {x : Int} : prev (l ++ [x]) (l.length + 1) = x := by
  unfold prev
  rw [if_neg (by omega), List.getD_eq_getElem?_getD]; simp
theorem gc_snoc {k : Nat} {l : List Int} {x : Int} : gc k (l ++ [x]) (l.length + 1) = gc k l l.length ++ riceBits (x - prev l l.length).toNat k := by
  rw [gc, gc_append (Nat.le_refl _), prev_append (Nat.le_refl _), List.getD_eq_getElem?_getD]; simp
theorem decode_ok {k : Nat} {l : List Int} (hU : Up l) (hk : k ≤ 32) (hn : l.length ≤ 4096) (hL : (gc k l l.length).length ≤ 65536) :
    golomb_Decode ((l.length : Int), (pushes [] 0 (gc k l l.length), ())) (k : Int) = some (((), ((0 : Int), ())), (l, ())) := by
  have hlen := pushes_length (d := []) (N := 0) (l := gc k l l.length) (by simp)
  have hd := pushes_Bys (l := gc k l l.length) (N := 0) bys_nil
  have hgb := gb_gc hL
  generalize pushes [] 0 (gc k l l.length) = d at *
  have hV := vld_full (d := d) (by omega)
  have hdl : d.length ≤ big := by unfold big; omega
  unfold golomb_Decode
  simp only
  rw [bif_f (by simp; omega), bif_f (by simp; omega), bif_f (by simp), bif_f (by simp), bif_f (by simp; omega)]
  rw [IntWalk.i64_in (8 * (d.length : Int)) (by omega), show 8 * (d.length : Int) = ((8 * d.length : Nat) : Int) by omega]
  have hloop : loopV (golomb_Decode_L1 (k : Int) (l.length : Int)) (((), ((), ((0 : Int), ((0 : Int), ((0 : Int), ()))))), ((d, (((8 * d.length : Nat) : Int), ())), (([] : List Int), ()))) =
      some (.inr (((), ((), ((((gc k l l.length).length : Nat) : Int), ()))), ((d, (((8 * d.length : Nat) : Int), ())), (l, ())))) := by
    refine loopV_ind (fun i => (((), ((), (prev l i, ((((gc k l i).length : Nat) : Int), ((i : Int), ()))))), ((d, (((8 * d.length : Nat) : Int), ())), (l.take i, ())))) l.length (by simp [gc, prev]) ?_ ?_
    · intro i hi
      obtain ⟨v, h1, h2, h3, h4⟩ := gc_step hU hL hi
      have h5 : (gc k l i).length ≤ 65536 := Nat.le_trans (gc_len (by omega)) hL
      have hp := hU.prev hi
      have hg := hU.get hi
      obtain ⟨m, hm⟩ := @gc_mono k l (i + 1) l.length (by omega)
      simp only [golomb_Decode_L1]
      rw [bif_t (by simp; omega), bits_ReadRice_eq hd hdl, riceR_ok (v := v) hV hk (by omega) (by omega) (fun j hj => by
        rw [hgb, hm, h3, List.append_assoc, getD_right, getD_left (by rw [riceBits_length]; omega)])]
      simp only [Option.bind_some]
      have e1 : IntKind.u64.wrap (prev l i + (v : Int)) = l.getD i 0 := by rw [← h1, show prev l i + (l.getD i 0 - prev l i) = l.getD i 0 by omega, wrap_un rfl hg.1 (by simpa [IntKind.bits] using hg.2)]
      have ht : (l.take i).length = i := by rw [List.length_take]; omega
      rw [bif_f (by simp), e1, bif_f (decide_eq_false (by omega)), bif_t (by rw [ht]; simp [lim]; omega), IntWalk.i64_in _ (by omega)]
      have e2 : l.getD i 0 = prev l (i + 1) := by simp [prev]
      have e3 : l.take i ++ [l.getD i 0] = l.take (i + 1) := by
        rw [List.take_succ_eq_append_getElem hi, List.getD_eq_getElem?_getD, List.getElem?_eq_getElem hi]; rfl
      rw [e3, e2, h3, List.length_append, riceBits_length]
      simp only [← Nat.add_assoc]
      rfl
    · simp only [golomb_Decode_L1]
      rw [bif_f (by simp), List.take_length]
  rw [hloop]
  simp only [Option.bind_some]
  generalize hLL : (gc k l l.length).length = L at *
  rw [IntWalk.i64_in _ (by omega), bif_f (by simp; omega)]
  rw [show ((8 * d.length : Nat) : Int) - (L : Int) = ((8 * d.length - L : Nat) : Int) by omega, bits_Read_eq hd hdl, readV_at hV (by omega) (by omega)]
  simp only [Option.bind_some]
  rw [numB_zero (fun j hj => by rw [hgb, getD_out (by omega)])]
  rfl
theorem decode_back {k : Nat} {n : Int} {d : List Int} (hd : Bys d) (hl : d.length ≤ 400) {r : (Unit × Int × Unit) × (List Int) × Unit} (hr : golomb_Decode (n, (d, ())) (k : Int) = some r) (he : r.1.2.1 = 0) :
    n = r.2.1.length ∧ r.2.1.length ≤ 4096 ∧ Up r.2.1 ∧ k ≤ 32 ∧ (gc k r.2.1 r.2.1.length).length ≤ 65536 ∧ d = pushes [] 0 (gc k r.2.1 r.2.1.length) := by
  have hV := vld_full (d := d) (by omega)
  have hdl : d.length ≤ big := by unfold big; omega
  unfold golomb_Decode at hr
  simp only at hr
  by_cases h1 : (4096 : Int) < n
  · rw [bif_t (by simpa using h1)] at hr; cases hr; cases he
  rw [bif_f (by simpa using h1)] at hr
  rw [bif_f (by simp; omega)] at hr
  by_cases h3 : n < 0
  · rw [bif_t (by simpa using h3)] at hr; cases hr; cases he
  rw [bif_f (by simpa using h3), bif_f (by simp)] at hr
  by_cases h5 : 32 < (k : Int)
  · rw [bif_t (by simpa using h5)] at hr; cases hr; cases he
  rw [bif_f (by simpa using h5)] at hr
  rw [IntWalk.i64_in (8 * (d.length : Int)) (by omega), show 8 * (d.length : Int) = ((8 * d.length : Nat) : Int) by omega] at hr
  obtain ⟨o, ho, hQ⟩ := loopV_inv (step := golomb_Decode_L1 (k : Int) n) (v := (((), ((), ((0 : Int), ((0 : Int), ((0 : Int), ()))))), ((d, (((8 * d.length : Nat) : Int), ())), (([] : List Int), ()))))
    (fun v => ∃ vs : List Int, v = (((), ((), (prev vs vs.length, ((((gc k vs vs.length).length : Nat) : Int), ((vs.length : Int), ()))))), ((d, (((8 * d.length : Nat) : Int), ())), (vs, ()))) ∧ vs.length ≤ n ∧ Up vs ∧ (gc k vs vs.length).length ≤ 8 * d.length ∧
      ∀ j, j < (gc k vs vs.length).length → gb d j = (gc k vs vs.length).getD j false)
    (fun v => (n - v.1.2.2.2.2.1).toNat)
    (fun o => match o with
      | .inl o => o.1.2.1 ≠ 0
      | .inr o => ∃ vs : List Int, o = (((), ((), ((((gc k vs vs.length).length : Nat) : Int), ()))), ((d, (((8 * d.length : Nat) : Int), ())), (vs, ()))) ∧ n = vs.length ∧ Up vs ∧ (gc k vs vs.length).length ≤ 8 * d.length ∧
        ∀ j, j < (gc k vs vs.length).length → gb d j = (gc k vs vs.length).getD j false)
    ⟨[], by simp [gc, prev], by simp; omega, ⟨fun i h => by simp at h, fun c h => by cases h⟩, by simp [gc], fun j h => by simp [gc] at h⟩ (by
      rintro _ ⟨vs, rfl, hvs, hU, hL, hb⟩
      simp only [golomb_Decode_L1]
      by_cases hk : (vs.length : Int) < n
      · rw [bif_t (by simpa using hk), bits_ReadRice_eq hd hdl]
        generalize hR : riceR d ((8 * d.length : Nat) : Int) (((gc k vs vs.length).length : Nat) : Int) (k : Int) = R
        obtain ⟨x, b, e⟩ := R
        simp only [Option.bind_some]
        by_cases he : e = 0
        · subst he
          obtain ⟨v, rfl, hv, _, hq, rfl, hb2, hg⟩ := riceR_back hR
          rw [bif_f (by simp)]
          have hp : 0 ≤ prev vs vs.length ∧ prev vs vs.length < 2 ^ 64 := by
            unfold prev
            by_cases h0 : vs.length = 0
            · rw [if_pos h0]; omega
            · rw [if_neg h0]; exact hU.get (by omega)
          have hw : IntKind.u64.wrap (prev vs vs.length + (v : Int)) = (prev vs vs.length + (v : Int)) % 2 ^ 64 := wrap_un_mod rfl _
          by_cases hx : IntKind.u64.wrap (prev vs vs.length + (v : Int)) < prev vs vs.length
          · right
            rw [bif_t (by simpa using hx)]
            refine ⟨_, rfl, ?_⟩
            simp only
            decide
          · left
            have e1 : IntKind.u64.wrap (prev vs vs.length + (v : Int)) = prev vs vs.length + (v : Int) := by omega
            rw [bif_f (by simpa using hx), bif_t (by simp [lim]; omega), IntWalk.i64_in _ (by omega), e1]
            have hv0 : (0 : Int) ≤ (v : Int) := Int.natCast_nonneg v
            have e2 : (prev vs vs.length + (v : Int) - prev vs vs.length).toNat = v := by omega
            have hS := gc_snoc (k := k) (l := vs) (x := prev vs vs.length + (v : Int))
            rw [e2] at hS
            have hS2 : (vs ++ [prev vs vs.length + (v : Int)]).length = vs.length + 1 := by simp
            have hS3 := riceBits_length (v := v) (p := k)
            refine ⟨_, rfl, ⟨vs ++ [prev vs vs.length + (v : Int)], ?_, ?_, hU.snoc (by omega) (by omega) (by omega), ?_, ?_⟩, by simp only; omega⟩
            · rw [hS2, hS, prev_snoc, List.length_append, hS3]; rfl
            · rw [hS2]; omega
            · rw [hS2, hS, List.length_append, hS3]; omega
            · rw [hS2, hS]
              intro j hj
              rw [List.length_append, hS3] at hj
              by_cases hj2 : j < (gc k vs vs.length).length
              · rw [getD_left hj2]; exact hb j hj2
              · rw [show j = (gc k vs vs.length).length + (j - (gc k vs vs.length).length) by omega, getD_right]
                exact hg _ (by omega)
        · right
          rw [bif_t (by simpa using he)]
          exact ⟨_, rfl, he⟩
      · right
        rw [bif_f (by simpa using hk)]
        exact ⟨_, rfl, vs, rfl, by omega, hU, hL, hb⟩)
  rw [ho] at hr
  simp only [Option.bind_some] at hr
  cases o with
  | inl o => cases hr; exact absurd he hQ
  | inr o =>
    obtain ⟨vs, rfl, rfl, hU, hL, hb⟩ := hQ
    simp only at hr
    rw [IntWalk.i64_in _ (by omega)] at hr
    by_cases h6 : (8 : Int) ≤ ((8 * d.length : Nat) : Int) - (((gc k vs vs.length).length : Nat) : Int)
    · rw [bif_t (by simpa using h6)] at hr; cases hr; cases he
    rw [bif_f (by simpa using h6), show ((8 * d.length : Nat) : Int) - (((gc k vs vs.length).length : Nat) : Int) = ((8 * d.length - (gc k vs vs.length).length : Nat) : Int) by omega, bits_Read_eq hd hdl, readV_at hV (by omega) (by omega)] at hr
    simp only [Option.bind_some] at hr
    by_cases h7 : numB d (gc k vs vs.length).length (8 * d.length - (gc k vs vs.length).length) = 0
    · rw [bif_f (by simp [h7])] at hr
      cases hr
      have hz := numB_zero' h7
      refine ⟨rfl, by simp only; omega, hU, by omega, by simp only; omega, ?_⟩
      simp only
      refine bys_ext hd (pushes_Bys bys_nil) ?_ ?_
      · rw [pushes_length (by simp)]; omega
      · intro i
        rw [gb_gc (by omega)]
        by_cases hi : i < (gc k vs vs.length).length
        · exact hb i hi
        · rw [getD_out (by omega)]
          by_cases hi2 : i < 8 * d.length
          · have := hz (i - (gc k vs vs.length).length) (by omega)
            rw [show (gc k vs vs.length).length + (i - (gc k vs vs.length).length) = i by omega] at this
            exact this
          · exact gb_out (by omega)
    · rw [bif_t (by simp; omega)] at hr; cases hr; cases he
theorem made_loop {a0 : List Int} {a1 : D_b101} (h0 : ∀ c ∈ a0, 0 ≤ c ∧ c ≤ 65535) (hn : a0.length ≤ 40) {k : Nat} (hk : k < 20) :
    ∃ vs : List Int, loopV (law19_GolombBack_L1 a0 (a0.length : Int)) (((), ((), ((0 : Int), ()))), (a1, (([] : List Int), ()))) = some (((), ((), ())), (a1, (vs, ()))) ∧ Up vs ∧ vs.length ≤ 40 ∧ (gc k vs vs.length).length ≤ 65536 := by
  obtain ⟨o, ho, vs, rfl, h1, h2, h3⟩ := loopV_inv (step := law19_GolombBack_L1 a0 (a0.length : Int)) (v := (((), ((), ((0 : Int), ()))), (a1, (([] : List Int), ()))))
    (fun v => ∃ vs : List Int, v = (((), ((), ((vs.length : Int), ()))), (a1, (vs, ()))) ∧ vs.length ≤ a0.length ∧ Up vs ∧ prev vs vs.length ≤ 500 * vs.length ∧ (gc k vs vs.length).length ≤ 520 * vs.length)
    (fun v => ((a0.length : Int) - v.1.2.2.1).toNat)
    (fun o => ∃ vs : List Int, o = (((), ((), ())), (a1, (vs, ()))) ∧ Up vs ∧ vs.length ≤ 40 ∧ (gc k vs vs.length).length ≤ 65536)
    ⟨[], rfl, by simp, ⟨fun i h => by simp at h, fun c h => by cases h⟩, by simp [prev], by simp [gc]⟩ (by
      rintro _ ⟨vs, rfl, hvs, hU, hp, hg⟩
      simp only [law19_GolombBack_L1]
      by_cases hi : vs.length < a0.length
      · left
        have hc := h0 _ (List.getElem_mem hi)
        have e1 : IntKind.u64.wrap (Int.tmod (rd (.int .u16) a0 (vs.length : Int)) 500) = ((a0[vs.length].toNat % 500 : Nat) : Int) := by
          rw [rd_in hi, tmod_nn hc.1, wrap_un rfl (by omega) (by simp only [IntKind.bits]; omega)]; omega
        rw [bif_t (by simp; omega), bif_t (inb_nat hi), e1]
        have hm : a0[vs.length].toNat % 500 < 500 := Nat.mod_lt _ (by omega)
        generalize a0[vs.length].toNat % 500 = m at *
        have hpp : 0 ≤ prev vs vs.length := by
          unfold prev
          by_cases h00 : vs.length = 0
          · rw [if_pos h00]; omega
          · rw [if_neg h00]; exact (hU.get (by omega)).1
        have key : ∀ x : Int, x = (m : Int) + prev vs vs.length → ∃ ws : List Int, (((), ((), (IntKind.i64.wrap ((vs.length : Int) + 1), ()))), (a1, (vs ++ [x], ()))) = ((((), ((), ((ws.length : Int), ()))), (a1, (ws, ()))) : (Unit × Unit × Int × Unit) × D_b101 × (List Int) × Unit) ∧ ws.length ≤ a0.length ∧ Up ws ∧ prev ws ws.length ≤ 500 * ws.length ∧ (gc k ws ws.length).length ≤ 520 * ws.length := by
          rintro x rfl
          have hm0 : (0 : Int) ≤ (m : Int) := Int.natCast_nonneg m
          have e2 : ((m : Int) + prev vs vs.length - prev vs vs.length).toNat = m := by omega
          have hS := gc_snoc (k := k) (l := vs) (x := (m : Int) + prev vs vs.length)
          rw [e2] at hS
          have hS2 : (vs ++ [(m : Int) + prev vs vs.length]).length = vs.length + 1 := by simp
          have hS3 := riceBits_length (v := m) (p := k)
          have hq : m >>> k ≤ m := by rw [Nat.shiftRight_eq_div_pow]; exact Nat.div_le_self _ _
          refine ⟨vs ++ [(m : Int) + prev vs vs.length], ?_, by rw [hS2]; omega, hU.snoc (by omega) (by omega) (by omega), ?_, ?_⟩
          · rw [hS2, IntWalk.i64_in _ (by omega)]; rfl
          · rw [hS2, prev_snoc]; omega
          · rw [hS2, hS, List.length_append, hS3]; omega
        by_cases h00 : vs.length = 0
        · rw [bif_f (by simp [h00]), bif_t (by simp [lim]; omega)]
          obtain ⟨ws, hw, hrest⟩ := key (m : Int) (by simp [prev, h00])
          rw [hw]
          refine ⟨_, rfl, ⟨ws, rfl, hrest⟩, ?_⟩
          have := congrArg (fun z => z.1.2.2.1) hw
          simp only [IntWalk.i64_in ((vs.length : Int) + 1) (by omega)] at this
          simp only
          omega
        · have e3 : vs[vs.length - 1]? = some (prev vs vs.length) := by
            unfold prev
            rw [if_neg h00, List.getD_eq_getElem?_getD, List.getElem?_eq_getElem (by omega)]; rfl
          rw [bif_t (by simp; omega), IntWalk.i64_in ((vs.length : Int) - 1) (by omega), bif_t (inb_t (by omega)), show ((vs.length : Int) - 1).toNat = vs.length - 1 by omega, e3]
          simp only [Option.bind_some]
          rw [wrap_un (k := .u64) rfl (by omega) (by simp only [IntKind.bits]; omega), bif_t (by simp [lim]; omega)]
          obtain ⟨ws, hw, hrest⟩ := key _ rfl
          rw [hw]
          refine ⟨_, rfl, ⟨ws, rfl, hrest⟩, ?_⟩
          have := congrArg (fun z => z.1.2.2.1) hw
          simp only [IntWalk.i64_in ((vs.length : Int) + 1) (by omega)] at this
          simp only
          omega
      · right
        rw [bif_f (by simp; omega)]
        exact ⟨_, rfl, vs, rfl, hU, by omega, by omega⟩)
  exact ⟨vs, ho, h1, h2, h3⟩
theorem decode_err {a0 : D_b101} {p : Int} {r : (Unit × Int × Unit) × (List Int) × Unit} (hr : golomb_Decode a0 p = some r) (he : ¬ r.1.2.1 = 0) : r.2.1 = [] := by
  unfold golomb_Decode at hr
  simp only [bif_ite] at hr
  split at hr
  · cases hr; rfl
  split at hr
  · cases hr; rfl
  split at hr
  · cases hr; rfl
  split at hr
  · cases hr; rfl
  split at hr
  · cases hr; rfl
  obtain ⟨o, _, hr⟩ := Option.bind_eq_some_iff.1 hr
  cases o with
  | inl o => cases hr; rfl
  | inr o =>
    simp only at hr
    split at hr
    · cases hr; rfl
    obtain ⟨r', _, hr⟩ := Option.bind_eq_some_iff.1 hr
    split at hr
    · cases hr; rfl
    · cases hr; exact absurd rfl he
theorem law19_GolombBack_eq {a0 : List Int} {n : Int} {d : List Int} {a2 : Int} (h0 : ∀ c ∈ a0, 0 ≤ c ∧ c ≤ 65535) (hd : Bys d) (h2 : 0 ≤ a2 ∧ a2 ≤ 255) : law19_GolombBack a0 (n, (d, ())) a2 = some ((true, ()), ()) := by
  unfold law19_GolombBack
  rw [law19_sane_eq]
  simp only [Option.bind_some]
  rw [bif_f (by rfl)]
  by_cases c1 : (40 : Int) < a0.length
  · rw [bif_t (by simpa using c1)]
  rw [bif_f (by simpa using c1)]
  by_cases c2 : (400 : Int) < d.length
  · rw [bif_t (by simpa using c2)]
  rw [bif_f (by simpa using c2), tmod_nn h2.1, IntWalk.i64_in (a2 % 20) (by omega)]
  obtain ⟨k, hk⟩ := Int.eq_ofNat_of_zero_le (show 0 ≤ a2 % 20 by omega)
  rw [hk]
  obtain ⟨vs, hvs, hU, hn, hL⟩ := made_loop (a1 := (n, (d, ()))) h0 (by omega) (k := k) (by omega)
  rw [hvs]
  simp only [Option.bind_some]
  rw [encode_ok hU (by omega) (by omega) hL]
  simp only [Option.bind_some]
  rw [decode_ok hU (by omega) (by omega) hL]
  simp only [Option.bind_some]
  rw [bif_f (by simp), bif_f (by simp), same_eq (by unfold big; omega)]
  simp only [Option.bind_some]
  rw [bif_f (by rfl)]
  obtain ⟨r, hr, _, _⟩ := @decode_ref n (k : Int) d hd
  rw [hr]
  simp only [Option.bind_some]
  by_cases he : r.1.2.1 = 0
  · obtain ⟨g1, g2, g3, g4, g5, g6⟩ := decode_back hd (by omega) hr he
    rw [bif_f (by simp [he]), encode_ok g3 (by omega) g2 g5]
    simp only [Option.bind_some]
    rw [bif_t (by simp)]
    unfold ref19_Same
    rw [bif_t (by simp [g1]), ref01_Same_eq, ← g6]
    simp
  · rw [bif_t (by simp [he])]
    have : r.2.1 = [] := decode_err hr he
    rw [this]
    rfl
theorem golombBack_pure (xs : TT.dens (holes [.slice (.int .u16), T_b101, .int .u8])) (h : WfAll [.slice (.int .u16), T_b101, .int .u8] xs) : law19_GolombBack xs.1 xs.2.1 xs.2.2.1 = some ((true, ()), ()) :=
  law19_GolombBack_eq (fun c hc => Wf.u16 (h.1.2 c hc)) (bys_of h.2.1.2.1).1 (Wf.u8 h.2.2.1)
end Go.PE
end
