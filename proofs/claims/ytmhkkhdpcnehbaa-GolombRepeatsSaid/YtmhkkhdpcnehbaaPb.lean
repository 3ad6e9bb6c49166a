/- What the printed functions of the program are, and the plain law; conditions stand in each statement. -/
import Derived.Test.YtmhkkhdpcnehbaaPa
import Derived.Test.YtmhkkhdpcnehbaaQc
section
namespace Go.PE
set_option linter.unusedSimpArgs false
set_option linter.unusedVariables false
theorem wrapU (n : Int) : 0 ≤ IntKind.u64.wrap n ∧ IntKind.u64.wrap n < 2 ^ 64 := by
  rw [wrap_un_mod rfl]; simp only [IntKind.bits]; omega
theorem riceV_bys {d : List Int} {N v p : Int} (hd : Bys d) : Bys (riceV d N v p).2 ∧ (riceV d N v p).2.length ≤ big := by
  unfold riceV
  by_cases h1 : vldB d N = true
  · have hV : Vld d N := by simpa [vldB] using h1
    rw [if_neg (by simp [h1])]
    split
    · exact ⟨bys_nil', by simp⟩
    · split
      · exact ⟨bys_nil', by simp⟩
      · rename_i h2 h3
        obtain ⟨M, rfl⟩ := Int.eq_ofNat_of_zero_le hV.1
        obtain ⟨k, rfl⟩ := Int.eq_ofNat_of_zero_le (show 0 ≤ p by omega)
        refine ⟨pushes_Bys hd, ?_⟩
        show (pushes d M (riceBits v.toNat k)).length ≤ big
        rw [pushes_length hV.len]
        simp only [Int.toNat_natCast] at h3
        have : (riceBits v.toNat k).length = (v.toNat >>> k) + 1 + k := by simp [riceBits, lowBits_length]; omega
        rw [this]; unfold big; omega
  · rw [if_pos h1]; exact ⟨bys_nil', by simp⟩
where bys_nil' : Bys [] := fun _ h => by cases h
/-! ### sorted -/
def Srt (l : List Int) : Prop := ∀ i, i + 1 < l.length → l.getD i 0 ≤ l.getD (i + 1) 0
open Classical in
noncomputable def srtB (l : List Int) : Bool := decide (Srt l)
theorem less64 {a b : Int} : cmp_Less_uint64 a b = some ((decide (a < b), ()), ()) := by
  unfold cmp_Less_uint64 cmp_isNaN_uint64
  by_cases h : a < b <;> simp [h]
theorem isSorted_eq {l : List Int} (hl : l.length ≤ big) : slices_IsSorted_uint64_uint64 l = some ((srtB l, ()), ()) := by
  unfold slices_IsSorted_uint64_uint64 srtB
  unfold big at hl
  rw [IntWalk.i64_in ((l.length : Int) - 1) (by omega)]
  obtain ⟨o, ho, hQ⟩ := loopV_inv (step := slices_IsSorted_uint64_uint64_L1 l) (v := ((((l.length : Int) - 1), ()), ()))
    (fun v => -1 ≤ v.1.1 ∧ v.1.1 < l.length ∧ ∀ i : Nat, v.1.1 ≤ i → i + 1 < l.length → l.getD i 0 ≤ l.getD (i + 1) 0) (fun v => v.1.1.toNat)
    (fun o => match o with | .inl o => o = ((false, ()), ()) ∧ ¬ Srt l | .inr o => Srt l) ⟨by simp only; omega, by simp only; omega, by intro i h1 h2; simp only at h1; omega⟩ (by
      rintro ⟨⟨k, _⟩, _⟩ ⟨h1, h2, h3⟩
      simp only at h1 h2 h3
      simp only [slices_IsSorted_uint64_uint64_L1]
      by_cases hk : 0 < k
      · rw [bif_t (by simpa using hk), bif_t (inb_t (by omega)), IntWalk.i64_in (k - 1) (by omega), bif_t (inb_t (by omega))]
        obtain ⟨n, rfl⟩ := Int.eq_ofNat_of_zero_le (show 0 ≤ k by omega)
        rw [rd_eq, rd_eq, show ((n : Int) - 1).toNat = n - 1 by omega, Int.toNat_natCast]
        show (∃ v', ((cmp_Less_uint64 (l.getD n 0) (l.getD (n - 1) 0)).bind _) = _ ∧ _) ∨ ∃ o, ((cmp_Less_uint64 (l.getD n 0) (l.getD (n - 1) 0)).bind _) = _ ∧ _
        rw [less64]
        simp only [Option.bind_some]
        by_cases hc : l.getD n 0 < l.getD (n - 1) 0
        · right
          rw [bif_t (by simpa using hc)]
          refine ⟨_, rfl, rfl, fun hs => ?_⟩
          have := hs (n - 1) (by omega)
          rw [show n - 1 + 1 = n by omega] at this
          omega
        · left
          rw [bif_f (by simpa using hc)]
          refine ⟨_, rfl, ⟨by simp only; omega, by simp only; omega, fun i h4 h5 => ?_⟩, by simp only; omega⟩
          simp only at h4
          by_cases h6 : (n : Int) ≤ i
          · exact h3 i h6 h5
          · rw [show i = n - 1 by omega, show n - 1 + 1 = n by omega]; omega
      · right
        rw [bif_f (by simpa using hk)]
        exact ⟨_, rfl, fun i h4 => h3 i (by omega) h4⟩)
  rw [ho]
  simp only [Option.bind_some]
  cases o with
  | inl o => obtain ⟨rfl, hn⟩ := hQ; simp [hn]
  | inr o => simp only at hQ ⊢; simp [hQ]
theorem refSorted_eq {l : List Int} (hl : l.length ≤ big) : ∃ o, loopV (ref19_Encode_L1 l) (((), ((1 : Int), ())), (((0 : Int), ((), ())), ())) = some o ∧
    (match o with | .inl o => o = (((), ((6 : Int), ())), (((0 : Int), ((), ())), ())) ∧ srtB l = false | .inr o => o = (((), ()), (((0 : Int), ((), ())), ())) ∧ srtB l = true) := by
  unfold srtB
  unfold big at hl
  refine loopV_inv (step := ref19_Encode_L1 l)
    (fun v => v.2 = (((0 : Int), ((), ())), ()) ∧ 1 ≤ v.1.2.1 ∧ ∀ i : Nat, (i : Int) + 1 < v.1.2.1 → i + 1 < l.length → l.getD i 0 ≤ l.getD (i + 1) 0) (fun v => ((l.length : Int) - v.1.2.1).toNat) _ ⟨rfl, by simp, by intro i h1 h2; simp only at h1; omega⟩ ?_
  rintro ⟨⟨_, k, _⟩, x⟩ ⟨h1, h2, h3⟩
  simp only at h1 h2 h3
  subst h1
  simp only [ref19_Encode_L1]
  by_cases hk : k < l.length
  · rw [bif_t (by simpa using hk), IntWalk.i64_in (k - 1) (by omega), bif_t (inb_t (by omega)), bif_t (inb_t (by omega))]
    obtain ⟨n, rfl⟩ := Int.eq_ofNat_of_zero_le (show 0 ≤ k by omega)
    have e1 : rd (.int .u64) l (n : Int) = l.getD n 0 := by rw [rd_eq]; rfl
    have e2 : rd (.int .u64) l ((n : Int) - 1) = l.getD (n - 1) 0 := by rw [rd_eq, show ((n : Int) - 1).toNat = n - 1 by omega]; rfl
    rw [e1, e2]
    by_cases hc : l.getD n 0 < l.getD (n - 1) 0
    · right
      rw [bif_t (by simpa using hc)]
      refine ⟨_, rfl, rfl, ?_⟩
      have : ¬ Srt l := fun hs => by
        have := hs (n - 1) (by omega)
        rw [show n - 1 + 1 = n by omega] at this
        omega
      simp [this]
    · left
      rw [bif_f (by simpa using hc), IntWalk.i64_in ((n : Int) + 1) (by omega)]
      refine ⟨_, rfl, ⟨rfl, by simp only; omega, fun i h4 h5 => ?_⟩, by simp only; omega⟩
      simp only at h4
      by_cases h6 : (i : Int) + 1 < n
      · exact h3 i h6 h5
      · rw [show i = n - 1 by omega, show n - 1 + 1 = n by omega]; omega
  · right
    rw [bif_f (by simpa using hk)]
    refine ⟨_, rfl, rfl, ?_⟩
    have : Srt l := fun i h4 => h3 i (by omega) h4
    simp [this]
/-! ### Encode -/
theorem encode_loop {l : List Int} {p : Int} (hl : l.length ≤ big) : ∃ o, loopV (golomb_Encode_L1 p l (l.length : Int)) (((), ((), ((0 : Int), ((0 : Int), ())))), (((0 : Int), ((), ())), (((), ((0 : Int), ())), (([] : List Int), ())))) = some o ∧
    loopV (ref19_Encode_L2 p l (l.length : Int)) (((), ((), ((0 : Int), ((0 : Int), ())))), (((0 : Int), ((), ())), (((), ((0 : Int), ())), (([] : List Int), ())))) = some o ∧ ∀ o', o = .inl o' → o'.2 = (((0 : Int), ((), ())), ()) := by
  unfold big at hl
  obtain ⟨o, o', h1, h2, h3, h4⟩ := loopV_rel (s1 := golomb_Encode_L1 p l (l.length : Int)) (s2 := ref19_Encode_L2 p l (l.length : Int))
    (fun v w => v = w ∧ v.2.1 = ((0 : Int), ((), ())) ∧ 0 ≤ v.1.2.2.2.1 ∧ Bys v.2.2.2.1 ∧ v.2.2.2.1.length ≤ big) (fun v => ((l.length : Int) - v.1.2.2.2.1).toNat) (fun o o' => o = o' ∧ ∀ x, o = .inl x → x.2 = (((0 : Int), ((), ())), ()))
    (v := (((), ((), ((0 : Int), ((0 : Int), ())))), (((0 : Int), ((), ())), (((), ((0 : Int), ())), (([] : List Int), ()))))) ⟨rfl, rfl, by simp, (fun c h => by cases h), by simp⟩ (by
      rintro ⟨⟨_, _, s, k, _⟩, z, ⟨_, N, _⟩, d, _⟩ _ ⟨rfl, hz, h1, hd, hdl⟩
      simp only at hz h1 hd hdl
      subst hz
      simp only [golomb_Encode_L1, ref19_Encode_L2]
      by_cases hk : k < l.length
      · rw [bif_t (by simpa using hk), bif_t (inb_t (by omega)), bif_t (by simpa using hk), bif_t (inb_t (by omega))]
        have hw := wrapU (rd (.int .u64) l k - s)
        rw [bits_AppendRice_eq hd hdl hw.1 hw.2, ref18_AppendRice_eq hd hdl hw.1 hw.2]
        have hb := riceV_bys (N := N) (v := IntKind.u64.wrap (rd (.int .u64) l k - s)) (p := p) hd
        generalize riceV d N (IntKind.u64.wrap (rd (.int .u64) l k - s)) p = r at *
        simp only [Option.bind_some]
        by_cases he : r.1.2 = 0
        · left
          rw [bif_f (by simpa using he), IntWalk.i64_in (k + 1) (by omega)]
          exact ⟨_, _, rfl, rfl, ⟨rfl, rfl, by simp only; omega, hb.1, hb.2⟩, by simp only; omega⟩
        · right
          rw [bif_t (by simpa using he)]
          exact ⟨_, _, rfl, rfl, rfl, by intro x h; cases h; rfl⟩
      · right
        rw [bif_f (by simpa using hk), bif_f (by simpa using hk)]
        exact ⟨_, _, rfl, rfl, rfl, by intro x h; cases h⟩)
  subst h3
  exact ⟨o, h1, h2, h4⟩
theorem encode_ref {l : List Int} {p : Int} : ∃ r, golomb_Encode l p = some r ∧ ref19_Encode l p = some r := by
  unfold golomb_Encode ref19_Encode
  by_cases h1 : (4096 : Int) < l.length
  · simp only [decide_eq_true h1, cond_true]; exact ⟨_, rfl, rfl⟩
  simp only [decide_eq_false h1, cond_false]
  by_cases h2 : p < 0
  · simp only [decide_eq_true h2, cond_true]; exact ⟨_, rfl, rfl⟩
  simp only [decide_eq_false h2, cond_false]
  by_cases h3 : 32 < p
  · simp only [decide_eq_true h3, cond_true]; exact ⟨_, rfl, rfl⟩
  simp only [decide_eq_false h3, cond_false]
  have hl : l.length ≤ big := by unfold big; omega
  obtain ⟨o, ho, hQ⟩ := refSorted_eq hl
  rw [isSorted_eq hl, ho]
  simp only [Option.bind_some]
  cases o with
  | inl o =>
    obtain ⟨rfl, hs⟩ := hQ
    rw [bif_t (by simp [hs])]
    exact ⟨_, rfl, rfl⟩
  | inr o =>
    obtain ⟨rfl, hs⟩ := hQ
    rw [bif_f (by simp [hs])]
    obtain ⟨o, g1, g2, g3⟩ := encode_loop (p := p) hl
    simp only
    rw [g1, g2]
    simp only [Option.bind_some]
    cases o with
    | inl o => exact ⟨_, rfl, rfl⟩
    | inr o => exact ⟨_, rfl, rfl⟩
/-! ### Decode -/
theorem decode_ref {n p : Int} {d : List Int} (hd : Bys d) : ∃ r, golomb_Decode (n, (d, ())) p = some r ∧ ref19_Decode (n, (d, ())) p = some r ∧ r.2.1.length ≤ 4096 := by
  unfold golomb_Decode ref19_Decode
  simp only
  by_cases h1 : (4096 : Int) < n
  · simp only [decide_eq_true h1, cond_true]; exact ⟨_, rfl, rfl, by simp⟩
  simp only [decide_eq_false h1, cond_false]
  by_cases h2 : (200000 : Int) < d.length
  · simp only [decide_eq_true h2, cond_true]; exact ⟨_, rfl, rfl, by simp⟩
  simp only [decide_eq_false h2, cond_false]
  by_cases h3 : n < 0
  · simp only [decide_eq_true h3, cond_true]; exact ⟨_, rfl, rfl, by simp⟩
  simp only [decide_eq_false h3, cond_false]
  by_cases h4 : p < 0
  · simp only [decide_eq_true h4, cond_true]; exact ⟨_, rfl, rfl, by simp⟩
  simp only [decide_eq_false h4, cond_false]
  by_cases h5 : 32 < p
  · simp only [decide_eq_true h5, cond_true]; exact ⟨_, rfl, rfl, by simp⟩
  simp only [decide_eq_false h5, cond_false]
  have hdl : d.length ≤ big := by unfold big; omega
  rw [IntWalk.i64_in (8 * (d.length : Int)) (by omega)]
  generalize hN : 8 * (d.length : Int) = N
  obtain ⟨o, o', g1, g2, g3, g4⟩ := loopV_rel (s1 := golomb_Decode_L1 p n) (s2 := ref19_Decode_L1 p)
    (fun v w => ∃ (s a : Int) (vs : List Int), 0 ≤ s ∧ s < 2 ^ 64 ∧ vs.length ≤ n ∧ v = (((), ((), (s, (a, ((vs.length : Int), ()))))), ((d, (N, ())), (vs, ()))) ∧ w = (((), ((), ((), (a, (s, ()))))), ((n, (d, ())), ((d, (N, ())), (vs, ())))))
    (fun v => (n - v.1.2.2.2.2.1).toNat) (fun o o' => o = o' ∧ match o with | .inl _ => True | .inr o => o.2.1 = (d, (N, ())) ∧ o.2.2.1.length ≤ n)
    (v := (((), ((), ((0 : Int), ((0 : Int), ((0 : Int), ()))))), ((d, (N, ())), (([] : List Int), ()))))
    (w := (((), ((), ((), ((0 : Int), ((0 : Int), ()))))), ((n, (d, ())), ((d, (N, ())), (([] : List Int), ())))))
    ⟨0, 0, [], by omega, by omega, by simp; omega, rfl, rfl⟩ (by
      rintro _ _ ⟨s, a, vs, hs1, hs2, hv, rfl, rfl⟩
      simp only [golomb_Decode_L1, ref19_Decode_L1]
      by_cases hk : (vs.length : Int) < n
      · simp only [decide_eq_true hk, cond_true]
        rw [bits_ReadRice_eq hd hdl, ref18_ReadRice_eq hd hdl]
        generalize riceR d N a p = r
        simp only [Option.bind_some]
        by_cases he : r.2.2 = 0
        · simp only [decide_eq_true he, Bool.not_true, cond_false]
          have hw := wrapU (s + r.1)
          generalize IntKind.u64.wrap (s + r.1) = x at *
          by_cases hx : x < s
          · right
            simp only [decide_eq_true hx, cond_true]
            exact ⟨_, _, rfl, rfl, rfl, trivial⟩
          · left
            simp only [decide_eq_false hx, cond_false]
            rw [bif_t (by simp [lim]; omega), bif_t (by simp [lim]; omega), IntWalk.i64_in ((vs.length : Int) + 1) (by omega)]
            refine ⟨_, _, rfl, rfl, ⟨x, r.2.1, vs ++ [x], hw.1, hw.2, by simp; omega, by simp, rfl⟩, by simp only; omega⟩
        · right
          simp only [decide_eq_false he, Bool.not_false, cond_true]
          exact ⟨_, _, rfl, rfl, rfl, trivial⟩
      · right
        simp only [decide_eq_false hk, cond_false]
        exact ⟨_, _, rfl, rfl, rfl, rfl, hv⟩)
  subst g3
  rw [g1, g2]
  simp only [Option.bind_some]
  cases o with
  | inl o => exact ⟨_, rfl, rfl, by simp⟩
  | inr o =>
    obtain ⟨⟨_, _, b, _⟩, x, vs, _⟩ := o
    obtain ⟨g5, g6⟩ := g4
    simp only at g5 g6
    subst g5
    simp only
    by_cases h6 : (8 : Int) ≤ IntKind.i64.wrap (N - b)
    · simp only [decide_eq_true h6, cond_true]; exact ⟨_, rfl, rfl, by simp⟩
    simp only [decide_eq_false h6, cond_false]
    rw [bits_Read_eq hd hdl, ref18_Read_eq hd hdl]
    simp only [Option.bind_some]
    by_cases h7 : (readV d N b (IntKind.i64.wrap (N - b))).1 = 0
    · simp only [decide_eq_true h7, Bool.not_true, cond_false]; exact ⟨_, rfl, rfl, by simp only; omega⟩
    · simp only [decide_eq_false h7, Bool.not_false, cond_true]; exact ⟨_, rfl, rfl, by simp⟩
theorem same_eq {l : List Int} (hl : l.length ≤ big) : law19_same l l = some ((true, ()), ()) := by
  unfold law19_same
  have h : loopV (law19_same_L1 l l (l.length : Int)) (((0 : Int), ()), ()) = some (Sum.inr ((), ())) := by
    refine loopV_ind (fun i => (((i : Int), ()), ())) l.length rfl ?_ ?_
    · intro i hi
      simp only [law19_same_L1]
      rw [bif_t (by simp; omega), bif_t (inb_nat hi), bif_t (inb_nat hi), bif_f (by simp), i64_up hi hl]
    · simp [law19_same_L1]
  rw [bif_f (by simp), h]
  rfl
/-! ### law19.sane -/
theorem pdq_nil {f : Nat} {x : Int} : fixN slices_pdqsortOrdered_uint64_R (f + 1) (((), ((0 : Int), ((0 : Int), (x, ())))), (([] : List Int), ())) = some ((), ([], ())) := by
  rw [fixN]
  generalize fixN slices_pdqsortOrdered_uint64_R f = self
  unfold slices_pdqsortOrdered_uint64_R
  have h2 : loopV (slices_insertionSortOrdered_uint64_L1 (0 : Int) (0 : Int)) (((), ((1 : Int), ())), (([] : List Int), ())) = some ((), (([] : List Int), ())) := loopV_done rfl
  have h1 : slices_insertionSortOrdered_uint64 (0 : Int) (0 : Int) [] = some ((), ([], ())) := by
    unfold slices_insertionSortOrdered_uint64
    rw [show IntKind.i64.wrap (0 + 1) = 1 by decide, h2]
    rfl
  rw [loopV_done (o := ((), (([] : List Int), ())))]
  · rfl
  · simp only [slices_pdqsortOrdered_uint64_L1]
    rw [bif_t (show decide (IntKind.i64.wrap ((0 : Int) - 0) ≤ 12) = true by decide), h1]
    rfl
theorem sort_nil : slices_Sort_uint64_uint64 [] = some ((), ([], ())) := by
  unfold slices_Sort_uint64_uint64 math_bits_Len
  have h := math_bits_Len64_eq (n := 0) (by decide)
  simp only [List.length_nil]
  show ((math_bits_Len64 (IntKind.u64.wrap ((0 : Nat) : Int))).bind _).bind _ = _
  rw [wrap_un (k := .u64) rfl (by decide) (by decide), h]
  simp only [Option.bind_some]
  unfold slices_pdqsortOrdered_uint64
  rw [show fuel = 999999999 + 1 from rfl, show (((0 : Nat) : Int)) = 0 from rfl, pdq_nil]
  rfl
end Go.PE
end

section
namespace Go.PE
set_option linter.unusedSimpArgs false
set_option linter.unusedVariables false
theorem vld_nil : Vld [] 0 := ⟨by omega, by omega, by simp, fun i _ h => by simp at h⟩
theorem vldB_of {d : List Int} {N : Int} (h : Vld d N) : vldB d N = true := by simpa [vldB] using h
theorem bys_nil : Bys [] := fun _ h => by cases h
/-! ### Rice codes, back -/
theorem riceBits_length {v p : Nat} : (riceBits v p).length = (v >>> p) + 1 + p := by simp [riceBits, lowBits_length]; omega
theorem riceBits_get {v p i : Nat} (hi : i < (v >>> p) + 1 + p) : (riceBits v p).getD i false = if i < v >>> p then true else if i = v >>> p then false else v.testBit (p - 1 - (i - (v >>> p) - 1)) := by
  unfold riceBits
  rw [List.getD_eq_getElem?_getD, List.getElem?_append]
  simp only [List.length_replicate]
  by_cases h1 : i < v >>> p
  · rw [if_pos h1, if_pos h1, List.getElem?_replicate, if_pos h1]; rfl
  · rw [if_neg h1, if_neg h1]
    by_cases h2 : i = v >>> p
    · rw [if_pos h2, h2]; simp
    · rw [if_neg h2, show i - v >>> p = (i - v >>> p - 1) + 1 by omega]
      simp only [List.getElem?_cons_succ]
      rw [← List.getD_eq_getElem?_getD, lowBits_get (by omega)]
      congr 1
theorem numB_testBit {d : List Int} {a : Nat} : ∀ {n j : Nat}, j < n → (numB d a n).testBit (n - 1 - j) = gb d (a + j) := by
  intro n
  induction n with
  | zero => intro j h; omega
  | succ n ih =>
    intro j h
    rw [numB]
    by_cases hj : j = n
    · subst hj
      rw [show j + 1 - 1 - j = 0 by omega, Nat.testBit_zero]
      cases gb d (a + j) <;> simp <;> omega
    · rw [show n + 1 - 1 - j = (n - 1 - j) + 1 by omega, Nat.testBit_succ, ← ih (j := j) (by omega)]
      rw [show (2 * numB d a n + if gb d (a + n) = true then 1 else 0) / 2 = numB d a n by split <;> omega]
theorem riceV_ok {d : List Int} {N v p : Nat} (h : Vld d N) (hp : p ≤ 32) (hq : v >>> p ≤ 65536) (hN : N + (v >>> p) + 1 + p ≤ 1600000) :
    riceV d N v p = ((((N + (v >>> p) + 1 + p : Nat) : Int), 0), pushes d N (riceBits v p)) := by
  unfold riceV
  rw [vldB_of h, if_neg (by simp), if_neg (by omega), if_neg (by simp only [Int.toNat_natCast]; omega)]
  simp only [Int.toNat_natCast]
  rfl
theorem riceR_ok {d : List Int} {N v p a : Nat} (h : Vld d N) (hp : p ≤ 32) (hq : v >>> p ≤ 65536) (ha : a + (v >>> p) + 1 + p ≤ N) (hg : ∀ i, i < (v >>> p) + 1 + p → gb d (a + i) = (riceBits v p).getD i false) :
    riceR d N a p = ((v : Int), ((a + (v >>> p) + 1 + p : Nat) : Int), 0) := by
  have hlead : lead d (N - a) a = v >>> p := by
    refine lead_eq (by omega) (fun j hj => ?_) (.inr ?_)
    · rw [hg j (by omega), riceBits_get (by omega), if_pos hj]
    · rw [hg _ (by omega), riceBits_get (by omega), if_neg (by omega), if_pos rfl]
  have hnum : numB d (a + (v >>> p) + 1) p = v % 2 ^ p := by
    refine numB_low fun j hj => ?_
    rw [show a + (v >>> p) + 1 + j = a + ((v >>> p) + 1 + j) by omega, hg _ (by omega), riceBits_get (by omega), if_neg (by omega), if_neg (by omega)]
    congr 1
    omega
  unfold riceR
  simp only [show ((N : Int) - (a : Int)).toNat = N - a by omega, Int.toNat_natCast, hlead]
  rw [vldB_of h, if_neg (by simp), if_neg (by omega), if_neg (by omega), if_neg (by omega), hnum]
  have : v >>> p * 2 ^ p + v % 2 ^ p = v := by rw [Nat.shiftRight_eq_div_pow]; exact Nat.div_add_mod' v (2 ^ p)
  rw [this]
  simp

theorem riceR_back {d : List Int} {N a p : Nat} {r b : Int} (h : riceR d N a p = (r, b, 0)) :
    ∃ v : Nat, r = v ∧ v < 2 ^ 60 ∧ p ≤ 32 ∧ v >>> p ≤ 65536 ∧ b = ((a + ((v >>> p) + 1 + p) : Nat) : Int) ∧ a + ((v >>> p) + 1 + p) ≤ N ∧ ∀ i, i < (v >>> p) + 1 + p → gb d (a + i) = (riceBits v p).getD i false := by
  unfold riceR at h
  simp only [show ((N : Int) - (a : Int)).toNat = N - a by omega, Int.toNat_natCast] at h
  obtain ⟨g1, g2, g3⟩ := @lead_spec d (N - a) a
  generalize lead d (N - a) a = q at *
  by_cases c0 : ¬ vldB d N = true
  · rw [if_pos c0] at h; simp at h
  rw [if_neg c0] at h
  by_cases c1 : (p : Int) < 0 ∨ 32 < (p : Int) ∨ (a : Int) < 0 ∨ (N : Int) < a
  · rw [if_pos c1] at h; simp at h
  rw [if_neg c1] at h
  by_cases c2 : 65536 < q
  · rw [if_pos c2] at h; simp at h
  rw [if_neg c2] at h
  by_cases c3 : (a : Int) + q = N ∨ (N : Int) - (a + q) - 1 < p
  · rw [if_pos c3] at h; simp at h
  rw [if_neg c3] at h
  have hr := @numB_lt d (a + q + 1) p
  generalize hR : numB d (a + q + 1) p = s at *
  have hsh : (q * 2 ^ p + s) >>> p = q := by
    rw [Nat.shiftRight_eq_div_pow, Nat.mul_comm, Nat.mul_add_div (Nat.two_pow_pos p), Nat.div_eq_of_lt hr]; omega
  have hp2 : 2 ^ p ≤ 2 ^ 32 := Nat.pow_le_pow_right (by omega) (by omega)
  have hm : q * 2 ^ p ≤ 65536 * 2 ^ 32 := Nat.mul_le_mul (by omega) hp2
  simp only [Prod.mk.injEq] at h
  refine ⟨q * 2 ^ p + s, h.1.symm, by omega, by omega, by omega, ?_, by omega, ?_⟩
  · rw [hsh, ← h.2.1]; omega
  · intro i hi
    rw [hsh] at hi
    rw [riceBits_get (by omega), hsh]
    by_cases d1 : i < q
    · rw [if_pos d1, g2 i d1]
    · rw [if_neg d1]
      by_cases d2 : i = q
      · rw [if_pos d2, d2]
        rcases g3 with g3 | g3
        · omega
        · exact g3
      · rw [if_neg d2]
        have := numB_testBit (d := d) (a := a + q + 1) (n := p) (j := i - q - 1) (by omega)
        rw [hR, show a + q + 1 + (i - q - 1) = a + i by omega] at this
        rw [← this, Nat.mul_comm, Nat.testBit_two_pow_mul_add _ hr, if_pos (by omega)]
theorem numB_zero {d : List Int} {a : Nat} : ∀ {n : Nat}, (∀ j, j < n → gb d (a + j) = false) → numB d a n = 0 := by
  intro n
  induction n with
  | zero => intro _; rfl
  | succ n ih => intro h; rw [numB, ih (fun j hj => h j (by omega)), h n (by omega)]; rfl
theorem numB_zero' {d : List Int} {a : Nat} : ∀ {n : Nat}, numB d a n = 0 → ∀ j, j < n → gb d (a + j) = false := by
  intro n
  induction n with
  | zero => intro _ j h; omega
  | succ n ih =>
    intro h j hj
    rw [numB] at h
    by_cases h2 : gb d (a + n) = true
    · rw [if_pos h2] at h; omega
    · by_cases h3 : j = n
      · rw [h3]; simpa using h2
      · exact ih (by omega) j (by omega)
theorem bys_ext {d e : List Int} (hd : Bys d) (he : Bys e) (hl : d.length = e.length) (h : ∀ i, gb d i = gb e i) : d = e := by
  apply List.ext_getElem hl
  intro m h1 h2
  have b1 := hd.getD m
  have b2 := he.getD m
  have e1 : d.getD m 0 = d[m] := by rw [List.getD_eq_getElem?_getD, List.getElem?_eq_getElem h1]; rfl
  have e2 : e.getD m 0 = e[m] := by rw [List.getD_eq_getElem?_getD, List.getElem?_eq_getElem h2]; rfl
  rw [← e1, ← e2]
  have : (d.getD m 0).toNat = (e.getD m 0).toNat := by
    apply Nat.eq_of_testBit_eq
    intro j
    by_cases hj : j < 8
    · have := h (8 * m + (7 - j))
      unfold gb at this
      rw [show (8 * m + (7 - j)) / 8 = m by omega, show (8 * m + (7 - j)) % 8 = 7 - j by omega, show 7 - (7 - j) = j by omega] at this
      exact this
    · have h3 : 2 ^ 8 ≤ 2 ^ j := Nat.pow_le_pow_right (by omega) (by omega)
      rw [Nat.testBit_lt_two_pow (by omega), Nat.testBit_lt_two_pow (by omega)]
  omega
end Go.PE
end

section
namespace Go.PE
set_option linter.unusedSimpArgs false
set_option linter.unusedVariables false
/-- The number ahead of place i. -/
def prev (l : List Int) (i : Nat) : Int := if i = 0 then 0 else l.getD (i - 1) 0
/-- The codes of the first numbers. -/
def gc (k : Nat) (l : List Int) : Nat → List Bool
  | 0 => []
  | i + 1 => gc k l i ++ riceBits (l.getD i 0 - prev l i).toNat k
/-- Sorted numbers of 64 bits. -/
def Up (l : List Int) : Prop := Srt l ∧ ∀ c ∈ l, 0 ≤ c ∧ c < 2 ^ 64
theorem gc_mono {k : Nat} {l : List Int} {i j : Nat} (h : i ≤ j) : ∃ m, gc k l j = gc k l i ++ m := by
  induction j with
  | zero => have : i = 0 := by omega
            subst this; exact ⟨[], by simp⟩
  | succ j ih =>
    by_cases h2 : i ≤ j
    · obtain ⟨m, hm⟩ := ih h2
      exact ⟨m ++ riceBits (l.getD j 0 - prev l j).toNat k, by rw [gc, hm, List.append_assoc]⟩
    · have : i = j + 1 := by omega
      subst this; exact ⟨[], by simp⟩
theorem gc_len {k : Nat} {l : List Int} {i j : Nat} (h : i ≤ j) : (gc k l i).length ≤ (gc k l j).length := by
  obtain ⟨m, hm⟩ := @gc_mono k l i j h
  rw [hm]; simp
theorem prev_append {l m : List Int} {i : Nat} (h : i ≤ l.length) : prev (l ++ m) i = prev l i := by
  unfold prev
  split
  · rfl
  · rw [List.getD_eq_getElem?_getD, List.getD_eq_getElem?_getD, List.getElem?_append_left (by omega)]
theorem gc_append {k : Nat} {l m : List Int} : ∀ {i : Nat}, i ≤ l.length → gc k (l ++ m) i = gc k l i := by
  intro i
  induction i with
  | zero => intro _; rfl
  | succ i ih =>
    intro h
    rw [gc, gc, ih (by omega), prev_append (by omega), List.getD_eq_getElem?_getD, List.getD_eq_getElem?_getD, List.getElem?_append_left (by omega)]
theorem Up.get {l : List Int} (h : Up l) {i : Nat} (hi : i < l.length) : 0 ≤ l.getD i 0 ∧ l.getD i 0 < 2 ^ 64 := by
  rw [List.getD_eq_getElem?_getD, List.getElem?_eq_getElem hi]; exact h.2 _ (List.getElem_mem hi)
theorem Up.prev {l : List Int} (h : Up l) {i : Nat} (hi : i < l.length) : 0 ≤ prev l i ∧ prev l i ≤ l.getD i 0 := by
  unfold Go.PE.prev
  by_cases h0 : i = 0
  · rw [if_pos h0, h0]; exact ⟨by omega, (h.get (by omega)).1⟩
  · rw [if_neg h0]
    have := h.1 (i - 1) (by omega)
    rw [show i - 1 + 1 = i by omega] at this
    exact ⟨(h.get (by omega)).1, this⟩
theorem gc_step {k : Nat} {l : List Int} (hU : Up l) (hL : (gc k l l.length).length ≤ 65536) {i : Nat} (hi : i < l.length) :
    ∃ v : Nat, l.getD i 0 - prev l i = v ∧ (v : Int) < 2 ^ 64 ∧ gc k l (i + 1) = gc k l i ++ riceBits v k ∧ (gc k l i).length + ((v >>> k) + 1 + k) ≤ (gc k l l.length).length := by
  have h1 := hU.prev hi
  have h2 := hU.get hi
  obtain ⟨v, hv⟩ := Int.eq_ofNat_of_zero_le (show 0 ≤ l.getD i 0 - prev l i by omega)
  refine ⟨v, hv, by omega, by rw [gc, hv]; rfl, ?_⟩
  have := @gc_len k l (i + 1) l.length (by omega)
  rw [gc, hv, List.length_append, Int.toNat_natCast, riceBits_length] at this
  exact this
theorem encode_ok {k : Nat} {l : List Int} (hU : Up l) (hk : k ≤ 32) (hn : l.length ≤ 4096) (hL : (gc k l l.length).length ≤ 65536) :
    golomb_Encode l (k : Int) = some (((((l.length : Nat) : Int), ((), ())), ((0 : Int), ())), (pushes [] 0 (gc k l l.length), ())) := by
  unfold golomb_Encode
  rw [bif_f (by simp; omega), bif_f (by simp), bif_f (by simp; omega), isSorted_eq (by unfold big; omega)]
  simp only [Option.bind_some]
  have hs : srtB l = true := by simp only [srtB, decide_eq_true_eq]; exact hU.1
  rw [bif_f (by simp [hs])]
  have hloop : loopV (golomb_Encode_L1 (k : Int) l (l.length : Int)) (((), ((), ((0 : Int), ((0 : Int), ())))), (((0 : Int), ((), ())), (((), ((0 : Int), ())), (([] : List Int), ())))) =
      some (.inr (((), ((), ())), (((0 : Int), ((), ())), (((), ((((gc k l l.length).length : Nat) : Int), ())), (pushes [] 0 (gc k l l.length), ()))))) := by
    refine loopV_ind (fun i => (((), ((), ((prev l i), ((i : Int), ())))), (((0 : Int), ((), ())), (((), ((((gc k l i).length : Nat) : Int), ())), (pushes [] 0 (gc k l i), ()))))) l.length (by simp [gc, pushes, prev]) ?_ ?_
    · intro i hi
      obtain ⟨v, h1, h2, h3, h4⟩ := gc_step hU hL hi
      have h5 : (gc k l i).length ≤ 65536 := Nat.le_trans (gc_len (by omega)) hL
      simp only [golomb_Encode_L1]
      rw [bif_t (by simp; omega), bif_t (inb_nat hi)]
      have e1 : rd (.int .u64) l (i : Int) = l.getD i 0 := by rw [rd_eq]; rfl
      rw [e1, h1, wrap_un (k := .u64) rfl (by omega) (by simpa [IntKind.bits] using h2)]
      have hV := vld_nil.pushes (N := 0) (l := gc k l i) (by omega)
      rw [Nat.zero_add] at hV
      have hlen := hV.len
      rw [bits_AppendRice_eq (pushes_Bys bys_nil) (by unfold big; omega) (by omega) (by omega), riceV_ok hV hk (by omega) (by omega)]
      simp only [Option.bind_some]
      rw [bif_f (by simp), IntWalk.i64_in _ (by omega), h3, pushes_append, List.length_append, riceBits_length]
      have e2 : l.getD i 0 = prev l (i + 1) := by simp [prev]
      rw [e2]
      simp only [Nat.zero_add, ← Nat.add_assoc]
      rfl
    · simp only [golomb_Encode_L1]
      rw [bif_f (by simp)]
  rw [hloop]
  rfl
theorem law19_sane_eq : law19_sane = some ((true, ()), ()) := by
  have hU1 : Up [1, 3] := ⟨fun i h => by
      simp only [List.length_cons, List.length_nil] at h
      have : i = 0 := by omega
      subst this; decide, by decide⟩
  have hU0 : Up [] := ⟨fun i h => by simp at h, fun c h => by cases h⟩
  have e1 := encode_ok (k := 2) hU1 (by omega) (by decide) (by decide)
  have e0 := encode_ok (k := 2) hU0 (by omega) (by decide) (by decide)
  have hb : golomb_Build (List.replicate 2 (0 : Int)) ([] : List (List Int)) (2 : Int) (5 : Int) = some ((((0 : Int), ((), ())), ((0 : Int), ())), ([], ())) := by
    unfold golomb_Build
    rw [bif_f (by decide)]
    have hJ : golomb_Build_J1 2 5 (((), ((), ())), (List.replicate 2 (0 : Int), (((0 : Int), ((), ())), ()))) = some (((), ((), (false, ()))), (List.replicate 2 (0 : Int), (((0 : Int), ((), ())), ()))) := rfl
    rw [hJ]
    simp only [Option.bind_some]
    rw [bif_f rfl]
    have hL2 : loopV (golomb_Build_L2 [] ((([] : List (List Int)).length : Nat) : Int)) (((), ((), ((), ((), ((0 : Int), ()))))), (List.replicate 2 (0 : Int), (((0 : Int), ((), ())), (([]), (([] : List (List Int)), ()))))) =
      some (((), ((), ((), ()))), (List.replicate 2 (0 : Int), (((0 : Int), ((), ())), (([] : List (List Int)), ())))) := loopV_done rfl
    rw [hL2]
    simp only [Option.bind_some]
    have hV : golomb_values (List.replicate 2 (0 : Int)) [] ((([] : List (List Int)).length : Nat) : Int) 5 = some (((), ()), ([], ())) := by
      unfold golomb_values
      simp only
      have hL1 : loopV (golomb_values_L1 ((([] : List (List Int)).length : Nat) : Int) 5 [] ((([] : List (List Int)).length : Nat) : Int)) (((), ((), ((0 : Int), ()))), (List.replicate 2 (0 : Int), ((List.replicate 0 (0 : Int)), ()))) = some (((), ()), (([] : List Int), ())) := loopV_done rfl
      rw [bif_t (by decide), hL1]
      simp only [Option.bind_some]
      rw [sort_nil]
      rfl
    rw [hV]
    simp only [Option.bind_some]
    rw [show (2 : Int) = ((2 : Nat) : Int) from rfl, e0]
    rfl
  unfold law19_sane
  rw [hb, show (golomb_Encode ([(1 : Int), (3 : Int)] : List Int) (2 : Int)) = _ from e1]
  rfl
theorem law19_GolombEncodes_eq {l : List Int} {p : Int} : law19_GolombEncodes l p = some ((true, ()), ()) := by
  unfold law19_GolombEncodes
  rw [law19_sane_eq]
  simp only [Option.bind_some]
  rw [bif_f (by rfl)]
  by_cases h : (60 : Int) < l.length
  · rw [bif_t (by simpa using h)]
  rw [bif_f (by simpa using h)]
  obtain ⟨r, h1, h2⟩ := @encode_ref l p
  rw [h1, h2]
  simp only [Option.bind_some]
  rw [bif_t (by simp)]
  unfold ref19_Same
  rw [bif_t (by simp), ref01_Same_eq]
  simp
theorem law19_GolombDecodes_eq {d : List Int} {n p : Int} (hd : Bys d) : law19_GolombDecodes (n, (d, ())) p = some ((true, ()), ()) := by
  unfold law19_GolombDecodes
  rw [law19_sane_eq]
  simp only [Option.bind_some]
  rw [bif_f (by rfl)]
  by_cases h : (400 : Int) < d.length
  · rw [bif_t (by simpa using h)]
  rw [bif_f (by simpa using h)]
  obtain ⟨r, h1, h2, h3⟩ := @decode_ref n p d hd
  rw [h1, h2]
  simp only [Option.bind_some]
  rw [bif_t (by simp), same_eq (by unfold big; omega)]
  rfl
theorem bys_of {d : List Int} (h : Ty.Wf (.slice (.int .u8)) d) : Bys d ∧ d.length ≤ big := ⟨fun c hc => by have := Wf.u8 (h.2 c hc); omega, h.1⟩
theorem golombEncodes_pure (xs : TT.dens (holes [.slice (.int .u64), .int .i64])) (h : WfAll [.slice (.int .u64), .int .i64] xs) : law19_GolombEncodes xs.1 xs.2.1 = some ((true, ()), ()) :=
  law19_GolombEncodes_eq
theorem golombDecodes_pure (xs : TT.dens (holes [T_b101, .int .i64])) (h : WfAll [T_b101, .int .i64] xs) : law19_GolombDecodes xs.1 xs.2.1 = some ((true, ()), ()) :=
  law19_GolombDecodes_eq (bys_of h.1.2.1).1
end Go.PE
end

section
namespace Go.PE
set_option linter.unusedSimpArgs false
set_option linter.unusedVariables false
/-- l' is l with places of [a, b) changed round. -/
structure Sw (a b : Nat) (l l' : List Int) : Prop where
  perm : l'.Perm l
  out : ∀ i, ¬ (a ≤ i ∧ i < b) → l'.getD i 0 = l.getD i 0
  inn : ∀ i, a ≤ i → i < b → ∃ j, a ≤ j ∧ j < b ∧ l'.getD i 0 = l.getD j 0
def SrtOn (a b : Nat) (l : List Int) : Prop := ∀ i j, a ≤ i → i < j → j < b → l.getD i 0 ≤ l.getD j 0
def sw (l : List Int) (i j : Nat) : List Int := (l.set i (l.getD j 0)).set j (l.getD i 0)
theorem getD_set {l : List Int} {i k : Nat} {x : Int} (h : i < l.length) : (l.set i x).getD k 0 = if k = i then x else l.getD k 0 := by
  rw [List.getD_eq_getElem?_getD, List.getElem?_set]
  by_cases h2 : k = i
  · rw [if_pos h2.symm, if_pos h2, if_pos (by omega)]; rfl
  · rw [if_neg (fun h3 => h2 h3.symm), if_neg h2, ← List.getD_eq_getElem?_getD]
theorem sw_length {l : List Int} {i j : Nat} : (sw l i j).length = l.length := by simp [sw]
theorem getD_sw {l : List Int} {i j k : Nat} (hi : i < l.length) (hj : j < l.length) : (sw l i j).getD k 0 = if k = j then l.getD i 0 else if k = i then l.getD j 0 else l.getD k 0 := by
  unfold sw
  rw [getD_set (by simpa using hj), getD_set hi]
theorem Sw.refl {a b : Nat} {l : List Int} : Sw a b l l := ⟨.refl _, fun _ _ => rfl, fun i h1 h2 => ⟨i, h1, h2, rfl⟩⟩
theorem Sw.trans {a b : Nat} {l m n : List Int} (h : Sw a b l m) (g : Sw a b m n) : Sw a b l n :=
  ⟨g.perm.trans h.perm, fun i hi => (g.out i hi).trans (h.out i hi), fun i h1 h2 => by
    obtain ⟨j, j1, j2, j3⟩ := g.inn i h1 h2
    obtain ⟨k, k1, k2, k3⟩ := h.inn j j1 j2
    exact ⟨k, k1, k2, j3.trans k3⟩⟩
theorem Sw.mono {a b c d : Nat} {l m : List Int} (h : Sw a b l m) (h1 : c ≤ a) (h2 : b ≤ d) : Sw c d l m :=
  ⟨h.perm, fun i hi => h.out i (by omega), fun i i1 i2 => by
    by_cases hi : a ≤ i ∧ i < b
    · obtain ⟨j, j1, j2, j3⟩ := h.inn i hi.1 hi.2
      exact ⟨j, by omega, by omega, j3⟩
    · exact ⟨i, i1, i2, h.out i hi⟩⟩
theorem Sw.length {a b : Nat} {l m : List Int} (h : Sw a b l m) : m.length = l.length := h.perm.length_eq
theorem Sw.sw {a b i j : Nat} {l : List Int} (hi : i < l.length) (hj : j < l.length) (h1 : a ≤ i) (h2 : i < b) (h3 : a ≤ j) (h4 : j < b) : Sw a b l (sw l i j) := by
  refine ⟨?_, fun k hk => ?_, fun k k1 k2 => ?_⟩
  · have e1 : l.getD j 0 = l[j] := by rw [List.getD_eq_getElem?_getD, List.getElem?_eq_getElem hj]; rfl
    have e2 : l.getD i 0 = l[i] := by rw [List.getD_eq_getElem?_getD, List.getElem?_eq_getElem hi]; rfl
    unfold Go.PE.sw
    rw [e1, e2]
    exact List.set_set_perm hi hj
  · rw [getD_sw hi hj, if_neg (by omega), if_neg (by omega)]
  · rw [getD_sw hi hj]
    by_cases c1 : k = j
    · exact ⟨i, h1, h2, by rw [if_pos c1]⟩
    · rw [if_neg c1]
      by_cases c2 : k = i
      · exact ⟨j, h3, h4, by rw [if_pos c2]⟩
      · exact ⟨k, k1, k2, by rw [if_neg c2]⟩
theorem get_some {l : List Int} {i : Nat} (h : i < l.length) : l[i]? = some (l.getD i 0) := by
  rw [List.getD_eq_getElem?_getD, List.getElem?_eq_getElem h]; rfl
theorem less_int {a b : Int} : cmp_Less_int a b = some ((decide (a < b), ()), ()) := by
  unfold cmp_Less_int cmp_isNaN_int
  by_cases h : a < b <;> simp [h]
theorem i64_dn {i : Nat} (h : 0 < i) (hn : i ≤ big) : IntKind.i64.wrap ((i : Int) - 1) = ((i - 1 : Nat) : Int) := by
  unfold big at hn
  rw [IntWalk.i64_in _ (by omega)]; omega
/-- In a heap of n from a on, no child of place k is larger. -/
def Kid (l : List Int) (a n k : Nat) : Prop := ∀ c, (c = 2 * k + 1 ∨ c = 2 * k + 2) → c < n → l.getD (a + c) 0 ≤ l.getD (a + k) 0
theorem kid_root {l : List Int} {a n : Nat} (h : ∀ k, Kid l a n k) : ∀ x, x < n → l.getD (a + x) 0 ≤ l.getD a 0 := by
  intro x
  induction x using Nat.strongRecOn with
  | _ x ih =>
    intro hx
    by_cases h0 : x = 0
    · rw [h0]; exact Int.le_refl _
    · exact Int.le_trans (h ((x - 1) / 2) x (by omega) hx) (ih ((x - 1) / 2) (by omega) (by omega))
theorem srt_adj {l : List Int} {a b : Nat} (h : ∀ k, a ≤ k → k + 1 < b → l.getD k 0 ≤ l.getD (k + 1) 0) : SrtOn a b l := by
  intro i j h1 h2 h3
  induction j with
  | zero => omega
  | succ j ih =>
    by_cases c : i = j
    · rw [c]; exact h j (by omega) h3
    · exact Int.le_trans (ih (by omega) (by omega)) (h j (by omega) h3)
theorem and_bd {a b : Int} (h0 : 0 ≤ b) (h1 : b < 2 ^ 64) : 0 ≤ bitI .and .u64 a b ∧ bitI .and .u64 a b ≤ b := by
  show 0 ≤ IntKind.u64.wrap (BitVec.ofInt 64 a &&& BitVec.ofInt 64 b).toNat ∧ IntKind.u64.wrap (BitVec.ofInt 64 a &&& BitVec.ofInt 64 b).toNat ≤ b
  have h2 : (BitVec.ofInt 64 b).toNat = b.toNat := ofInt_nat h0 h1
  have h3 : (BitVec.ofInt 64 a &&& BitVec.ofInt 64 b).toNat ≤ b.toNat := by
    rw [BitVec.toNat_and, h2]; exact Nat.and_le_right
  rw [wrap_un (k := .u64) rfl (by omega) (by simp only [IntKind.bits]; omega)]
  omega
/-! ### insertion sort -/
theorem ins_L2 {a k : Nat} : ∀ {j : Nat} {l : List Int}, a ≤ j → j ≤ k → k < l.length → l.length ≤ big →
    (∀ p q, a ≤ p → p < q → q ≤ k → p ≠ j → q ≠ j → l.getD p 0 ≤ l.getD q 0) → (∀ q, j < q → q ≤ k → l.getD j 0 ≤ l.getD q 0) →
    ∃ l', loopV (slices_insertionSortOrdered_int_L2 (a : Int)) (((), ((j : Int), ())), (l, ())) = some (((), ()), (l', ())) ∧ Sw a (k + 1) l l' ∧ SrtOn a (k + 1) l' := by
  intro j
  induction j with
  | zero =>
    intro l ha hj hk hl h1 h2
    refine ⟨l, loopV_done ?_, .refl, fun p q p1 p2 p3 => ?_⟩
    · simp only [slices_insertionSortOrdered_int_L2]
      rw [bif_f (decide_eq_false (by omega))]
    · by_cases c : p = 0
      · rw [c]; exact h2 q (by omega) (by omega)
      · exact h1 p q p1 p2 (by omega) c (by omega)
  | succ j ih =>
    intro l ha hj hk hl h1 h2
    have done : SrtOn a (k + 1) l ∨ (a ≤ j ∧ l.getD (j + 1) 0 < l.getD j 0) := by
      by_cases c : a ≤ j ∧ l.getD (j + 1) 0 < l.getD j 0
      · exact .inr c
      · left
        intro p q p1 p2 p3
        by_cases c1 : p = j + 1
        · rw [c1]; exact h2 q (by omega) (by omega)
        · by_cases c2 : q = j + 1
          · rw [c2]
            have hle : l.getD j 0 ≤ l.getD (j + 1) 0 := by omega
            by_cases c3 : p = j
            · rw [c3]; exact hle
            · exact Int.le_trans (h1 p j p1 (by omega) (by omega) c1 (by omega)) hle
          · exact h1 p q p1 p2 (by omega) c1 c2
    by_cases c : a ≤ j ∧ l.getD (j + 1) 0 < l.getD j 0
    · obtain ⟨l', g1, g2, g3⟩ := ih (l := sw l (j + 1) j) c.1 (by omega) (by rw [sw_length]; omega) (by rw [sw_length]; exact hl)
        (fun p q p1 p2 p3 p4 p5 => by
          rw [getD_sw (by omega) (by omega), getD_sw (by omega) (by omega), if_neg p4, if_neg p5]
          by_cases d1 : p = j + 1
          · rw [if_pos d1, if_neg (by omega)]
            exact h1 j q c.1 (by omega) p3 (by omega) (by omega)
          · rw [if_neg d1]
            by_cases d2 : q = j + 1
            · rw [if_pos d2]
              exact h1 p j p1 (by omega) (by omega) (by omega) (by omega)
            · rw [if_neg d2]; exact h1 p q p1 p2 p3 d1 d2)
        (fun q q1 q2 => by
          rw [getD_sw (by omega) (by omega), getD_sw (by omega) (by omega), if_pos rfl, if_neg (by omega)]
          by_cases d1 : q = j + 1
          · rw [if_pos d1]; omega
          · rw [if_neg d1]; exact h2 q (by omega) q2)
      refine ⟨l', ?_, (Sw.sw (by omega) (by omega) (by omega) (by omega) c.1 (by omega)).trans g2, g3⟩
      rw [← g1]
      refine loopV_next ?_
      have d1 : j + 1 < l.length := by omega
      have d2 : j < l.length := by omega
      have d3 : j < (l.set (j + 1) (l.getD j 0)).length := by simpa using d2
      simp only [slices_insertionSortOrdered_int_L2, decide_eq_true (show (a : Int) < ((j + 1 : Nat) : Int) by omega), cond_true, inb_nat d1, Int.toNat_natCast, get_some d1, Option.bind_some, i64_dn (i := j + 1) (by omega) (by omega), Nat.add_sub_cancel, inb_nat d2, get_some d2, less_int, decide_eq_true c.2, inb_nat d3, get_some d3]
      rfl
    · refine ⟨l, loopV_done ?_, .refl, ?_⟩
      · simp only [slices_insertionSortOrdered_int_L2]
        by_cases c1 : a ≤ j
        · have d1 : j + 1 < l.length := by omega
          have d2 : j < l.length := by omega
          simp only [decide_eq_true (show (a : Int) < ((j + 1 : Nat) : Int) by omega), cond_true, inb_nat d1, Int.toNat_natCast, get_some d1, Option.bind_some, i64_dn (i := j + 1) (by omega) (by omega), Nat.add_sub_cancel, inb_nat d2, get_some d2, less_int, decide_eq_false (show ¬ l.getD (j + 1) 0 < l.getD j 0 from fun h => c ⟨c1, h⟩), cond_false]
        · rw [bif_f (decide_eq_false (by omega))]
      · rcases done with h | h
        · exact h
        · exact absurd h c
theorem ins_eq {a b : Nat} {l : List Int} (hb : b ≤ l.length) (hab : a ≤ b) (hl : l.length < big) :
    ∃ l', slices_insertionSortOrdered_int (a : Int) (b : Int) l = some ((), (l', ())) ∧ Sw a b l l' ∧ SrtOn a b l' := by
  unfold slices_insertionSortOrdered_int
  have e : IntKind.i64.wrap ((a : Int) + 1) = ((a + 1 : Nat) : Int) := by unfold big at hl; rw [IntWalk.i64_in _ (by omega)]; omega
  rw [e]
  have key : ∀ (n k : Nat) (m : List Int), k + n = max b (a + 1) → a < k → m.length = l.length → SrtOn a k m → ∃ l', loopV (slices_insertionSortOrdered_int_L1 (a : Int) (b : Int)) (((), ((k : Int), ())), (m, ())) = some ((), (l', ())) ∧ Sw a b m l' ∧ SrtOn a b l' := by
    intro n
    induction n with
    | zero =>
      intro k m hk ha hm hs
      refine ⟨m, loopV_done ?_, .refl, fun p q p1 p2 p3 => hs p q p1 p2 (by omega)⟩
      simp only [slices_insertionSortOrdered_int_L1]
      rw [bif_f (decide_eq_false (by omega))]
    | succ n ih =>
      intro k m hk ha hm hs
      obtain ⟨m', g1, g2, g3⟩ := ins_L2 (a := a) (k := k) (j := k) (l := m) (by omega) (Nat.le_refl _) (by omega) (by omega) (fun p q p1 p2 p3 p4 p5 => hs p q p1 p2 (by omega)) (fun q q1 q2 => by omega)
      obtain ⟨l', f1, f2, f3⟩ := ih (k + 1) m' (by omega) (by omega) (by rw [g2.length]; exact hm) g3
      refine ⟨l', ?_, (g2.mono (Nat.le_refl _) (by omega)).trans f2, f3⟩
      rw [← f1]
      refine loopV_next ?_
      simp only [slices_insertionSortOrdered_int_L1]
      rw [bif_t (decide_eq_true (by omega)), g1]
      simp only [Option.bind_some]
      rw [i64_up (n := k + 1) (by omega) (by omega)]
  obtain ⟨l', g1, g2, g3⟩ := key (max b (a + 1) - (a + 1)) (a + 1) l (by omega) (by omega) rfl (fun p q p1 p2 p3 => by omega)
  rw [g1]
  exact ⟨l', rfl, g2, g3⟩
/-- Short slices: insertion sort. -/
theorem sort_short {l : List Int} (h : l.length ≤ 12) : ∃ l', slices_Sort_int_int l = some ((), (l', ())) ∧ l'.Perm l ∧ SrtOn 0 l.length l' := by
  obtain ⟨l', g1, g2, g3⟩ := ins_eq (a := 0) (b := l.length) (l := l) (Nat.le_refl _) (Nat.zero_le _) (by unfold big; omega)
  refine ⟨l', ?_, g2.perm, g3⟩
  unfold slices_Sort_int_int math_bits_Len
  simp only
  rw [wrap_un (k := .u64) rfl (by omega) (by simp only [IntKind.bits]; omega), math_bits_Len64_eq (by omega)]
  simp only [Option.bind_some]
  unfold slices_pdqsortOrdered_int
  rw [show fuel = 999999999 + 1 from rfl, fixN]
  generalize fixN slices_pdqsortOrdered_int_R 999999999 = self
  unfold slices_pdqsortOrdered_int_R
  rw [show ((0 : Nat) : Int) = 0 from rfl] at g1
  rw [loopV_done (o := ((), (l', ())))]
  · rfl
  · simp only [slices_pdqsortOrdered_int_L1]
    rw [IntWalk.i64_in _ (by omega), bif_t (decide_eq_true (by omega)), g1]
    rfl
end Go.PE
end

section
namespace Go.PE
set_option linter.unusedSimpArgs false
set_option linter.unusedVariables false
theorem lessS_uint64 {a b : Int} : cmp_Less_uint64 a b = some ((decide (a < b), ()), ()) := by
  unfold cmp_Less_uint64 cmp_isNaN_uint64
  by_cases h : a < b <;> simp [h]
/-! ### insertion sort -/
theorem ins_L2_uint64 {a k : Nat} : ∀ {j : Nat} {l : List Int}, a ≤ j → j ≤ k → k < l.length → l.length ≤ 49 →
    (∀ p q, a ≤ p → p < q → q ≤ k → p ≠ j → q ≠ j → l.getD p 0 ≤ l.getD q 0) → (∀ q, j < q → q ≤ k → l.getD j 0 ≤ l.getD q 0) →
    ∃ l', loopV (slices_insertionSortOrdered_uint64_L2 (a : Int)) (((), ((j : Int), ())), (l, ())) = some (((), ()), (l', ())) ∧ Sw a (k + 1) l l' ∧ SrtOn a (k + 1) l' := by
  intro j
  induction j with
  | zero =>
    intro l ha hj hk hl h1 h2
    refine ⟨l, loopV_done ?_, .refl, fun p q p1 p2 p3 => ?_⟩
    · simp only [slices_insertionSortOrdered_uint64_L2]
      rw [bif_f (decide_eq_false (by omega))]
    · by_cases c : p = 0
      · rw [c]; exact h2 q (by omega) (by omega)
      · exact h1 p q p1 p2 (by omega) c (by omega)
  | succ j ih =>
    intro l ha hj hk hl h1 h2
    have hbig : l.length ≤ big := by unfold big; omega
    have done : SrtOn a (k + 1) l ∨ (a ≤ j ∧ l.getD (j + 1) 0 < l.getD j 0) := by
      by_cases c : a ≤ j ∧ l.getD (j + 1) 0 < l.getD j 0
      · exact .inr c
      · left
        intro p q p1 p2 p3
        by_cases c1 : p = j + 1
        · rw [c1]; exact h2 q (by omega) (by omega)
        · by_cases c2 : q = j + 1
          · rw [c2]
            have hle : l.getD j 0 ≤ l.getD (j + 1) 0 := by omega
            by_cases c3 : p = j
            · rw [c3]; exact hle
            · exact Int.le_trans (h1 p j p1 (by omega) (by omega) c1 (by omega)) hle
          · exact h1 p q p1 p2 (by omega) c1 c2
    by_cases c : a ≤ j ∧ l.getD (j + 1) 0 < l.getD j 0
    · obtain ⟨l', g1, g2, g3⟩ := ih (l := sw l (j + 1) j) c.1 (by omega) (by rw [sw_length]; omega) (by rw [sw_length]; exact hl)
        (fun p q p1 p2 p3 p4 p5 => by
          rw [getD_sw (by omega) (by omega), getD_sw (by omega) (by omega), if_neg p4, if_neg p5]
          by_cases d1 : p = j + 1
          · rw [if_pos d1, if_neg (by omega)]
            exact h1 j q c.1 (by omega) p3 (by omega) (by omega)
          · rw [if_neg d1]
            by_cases d2 : q = j + 1
            · rw [if_pos d2]
              exact h1 p j p1 (by omega) (by omega) (by omega) (by omega)
            · rw [if_neg d2]; exact h1 p q p1 p2 p3 d1 d2)
        (fun q q1 q2 => by
          rw [getD_sw (by omega) (by omega), getD_sw (by omega) (by omega), if_pos rfl, if_neg (by omega)]
          by_cases d1 : q = j + 1
          · rw [if_pos d1]; omega
          · rw [if_neg d1]; exact h2 q (by omega) q2)
      refine ⟨l', ?_, (Sw.sw (by omega) (by omega) (by omega) (by omega) c.1 (by omega)).trans g2, g3⟩
      rw [← g1]
      refine loopV_next ?_
      have d1 : j + 1 < l.length := by omega
      have d2 : j < l.length := by omega
      have d3 : j < (l.set (j + 1) (l.getD j 0)).length := by simpa using d2
      simp only [slices_insertionSortOrdered_uint64_L2, decide_eq_true (show (a : Int) < ((j + 1 : Nat) : Int) by omega), cond_true, inb_nat d1, Int.toNat_natCast, get_some d1, Option.bind_some, i64_dn (i := j + 1) (by omega) (by omega), Nat.add_sub_cancel, inb_nat d2, get_some d2, lessS_uint64, decide_eq_true c.2, inb_nat d3, get_some d3]
      rfl
    · refine ⟨l, loopV_done ?_, .refl, ?_⟩
      · simp only [slices_insertionSortOrdered_uint64_L2]
        by_cases c1 : a ≤ j
        · have d1 : j + 1 < l.length := by omega
          have d2 : j < l.length := by omega
          simp only [decide_eq_true (show (a : Int) < ((j + 1 : Nat) : Int) by omega), cond_true, inb_nat d1, Int.toNat_natCast, get_some d1, Option.bind_some, i64_dn (i := j + 1) (by omega) (by omega), Nat.add_sub_cancel, inb_nat d2, get_some d2, lessS_uint64, decide_eq_false (show ¬ l.getD (j + 1) 0 < l.getD j 0 from fun h => c ⟨c1, h⟩), cond_false]
        · rw [bif_f (decide_eq_false (by omega))]
      · rcases done with h | h
        · exact h
        · exact absurd h c
theorem ins_eq_uint64 {a b : Nat} {l : List Int} (hb : b ≤ l.length) (hab : a ≤ b) (hl : l.length ≤ 49) :
    ∃ l', slices_insertionSortOrdered_uint64 (a : Int) (b : Int) l = some ((), (l', ())) ∧ Sw a b l l' ∧ SrtOn a b l' := by
  unfold slices_insertionSortOrdered_uint64
  have e : IntKind.i64.wrap ((a : Int) + 1) = ((a + 1 : Nat) : Int) := by rw [IntWalk.i64_in _ (by omega)]; omega
  rw [e]
  have key : ∀ (n k : Nat) (m : List Int), k + n = max b (a + 1) → a < k → m.length = l.length → SrtOn a k m → ∃ l', loopV (slices_insertionSortOrdered_uint64_L1 (a : Int) (b : Int)) (((), ((k : Int), ())), (m, ())) = some ((), (l', ())) ∧ Sw a b m l' ∧ SrtOn a b l' := by
    intro n
    induction n with
    | zero =>
      intro k m hk ha hm hs
      refine ⟨m, loopV_done ?_, .refl, fun p q p1 p2 p3 => hs p q p1 p2 (by omega)⟩
      simp only [slices_insertionSortOrdered_uint64_L1]
      rw [bif_f (decide_eq_false (by omega))]
    | succ n ih =>
      intro k m hk ha hm hs
      obtain ⟨m', g1, g2, g3⟩ := ins_L2_uint64 (a := a) (k := k) (j := k) (l := m) (by omega) (Nat.le_refl _) (by omega) (by omega) (fun p q p1 p2 p3 p4 p5 => hs p q p1 p2 (by omega)) (fun q q1 q2 => by omega)
      obtain ⟨l', f1, f2, f3⟩ := ih (k + 1) m' (by omega) (by omega) (by rw [g2.length]; exact hm) g3
      refine ⟨l', ?_, (g2.mono (Nat.le_refl _) (by omega)).trans f2, f3⟩
      rw [← f1]
      refine loopV_next ?_
      simp only [slices_insertionSortOrdered_uint64_L1]
      rw [bif_t (decide_eq_true (by omega)), g1]
      simp only [Option.bind_some]
      rw [i64_up (n := k + 1) (by omega) (by unfold big; omega)]
  obtain ⟨l', g1, g2, g3⟩ := key (max b (a + 1) - (a + 1)) (a + 1) l (by omega) (by omega) rfl (fun p q p1 p2 p3 => by omega)
  rw [g1]
  exact ⟨l', rfl, g2, g3⟩
/-! ### heap sort -/
theorem sift_uint64 {a lo hi : Nat} {l : List Int} (hlo : lo ≤ 49) (hl : l.length ≤ 49) (hb : a + hi ≤ l.length) (hH : ∀ k, lo < k → Kid l a hi k) :
    ∃ l', slices_siftDownOrdered_uint64 (lo : Int) (hi : Int) (a : Int) l = some ((), (l', ())) ∧ Sw (a + lo) (a + hi) l l' ∧ ∀ k, lo ≤ k → Kid l' a hi k := by
  have key : ∀ (n r : Nat) (m : List Int), hi ≤ r + n → lo ≤ r → r ≤ 49 → m.length = l.length → (∀ k, lo ≤ k → k ≠ r → Kid m a hi k) → (∀ k c, lo ≤ k → (r = 2 * k + 1 ∨ r = 2 * k + 2) → (c = 2 * r + 1 ∨ c = 2 * r + 2) → c < hi → m.getD (a + c) 0 ≤ m.getD (a + k) 0) →
      ∃ o l', loopV (slices_siftDownOrdered_uint64_L1 (hi : Int) (a : Int)) (((), ((r : Int), ())), (m, ())) = some o ∧ (o = .inl ((), (l', ())) ∨ o = .inr ((), (l', ()))) ∧ Sw (a + lo) (a + hi) m l' ∧ ∀ k, lo ≤ k → Kid l' a hi k := by
    intro n
    induction n with
    | zero =>
      intro r m hn hr hr2 hm h1 h2
      have e2 : IntKind.i64.wrap (IntKind.i64.wrap (2 * (r : Int)) + 1) = 2 * (r : Int) + 1 := by rw [IntWalk.i64_in (2 * (r : Int)) (by omega), IntWalk.i64_in _ (by omega)]
      refine ⟨_, m, loopV_done (o := .inl ((), (m, ()))) ?_, .inl rfl, .refl, fun k hk c hc hc2 => ?_⟩
      · simp only [slices_siftDownOrdered_uint64_L1]
        rw [e2, bif_t (decide_eq_true (by omega))]
      · by_cases hkr : k = r
        · omega
        · exact h1 k hk hkr c hc hc2
    | succ n ih =>
      intro r m hn hr hr2 hm h1 h2
      have e2 : IntKind.i64.wrap (IntKind.i64.wrap (2 * (r : Int)) + 1) = ((2 * r + 1 : Nat) : Int) := by rw [IntWalk.i64_in (2 * (r : Int)) (by omega), IntWalk.i64_in _ (by omega)]; omega
      by_cases c0 : hi ≤ 2 * r + 1
      · refine ⟨_, m, loopV_done (o := .inl ((), (m, ()))) ?_, .inl rfl, .refl, fun k hk c hc hc2 => ?_⟩
        · simp only [slices_siftDownOrdered_uint64_L1]
          rw [e2, bif_t (decide_eq_true (by omega))]
        · by_cases hkr : k = r
          · omega
          · exact h1 k hk hkr c hc hc2
      · obtain ⟨ch, hJ, hc1, hc2, hc3⟩ : ∃ ch : Nat, slices_siftDownOrdered_uint64_J2 (hi : Int) (a : Int) (((), (((2 * r + 1 : Nat) : Int), ())), (m, ())) = some (((), ((ch : Int), ())), (m, ())) ∧ (ch = 2 * r + 1 ∨ ch = 2 * r + 2) ∧ ch < hi ∧ ∀ c, (c = 2 * r + 1 ∨ c = 2 * r + 2) → c < hi → m.getD (a + c) 0 ≤ m.getD (a + ch) 0 := by
          simp only [slices_siftDownOrdered_uint64_J2]
          rw [IntWalk.i64_in (((2 * r + 1 : Nat) : Int) + 1) (by omega), IntWalk.i64_in ((a : Int) + ((2 * r + 1 : Nat) : Int)) (by omega), IntWalk.i64_in ((a : Int) + ((2 * r + 1 : Nat) : Int) + 1) (by omega)]
          by_cases c1 : 2 * r + 2 < hi
          · have d1 : a + (2 * r + 1) < m.length := by omega
            have d2 : a + (2 * r + 2) < m.length := by omega
            rw [bif_t (decide_eq_true (by omega)), show (a : Int) + ((2 * r + 1 : Nat) : Int) + 1 = ((a + (2 * r + 2) : Nat) : Int) by omega, show (a : Int) + ((2 * r + 1 : Nat) : Int) = ((a + (2 * r + 1) : Nat) : Int) by omega]
            simp only [inb_nat d1, inb_nat d2, cond_true, Int.toNat_natCast, get_some d1, get_some d2, Option.bind_some, lessS_uint64]
            by_cases c2 : m.getD (a + (2 * r + 1)) 0 < m.getD (a + (2 * r + 2)) 0
            · refine ⟨2 * r + 2, by rw [bif_t (decide_eq_true c2)]; rfl, .inr rfl, c1, fun c hc hc' => ?_⟩
              rcases hc with rfl | rfl <;> omega
            · refine ⟨2 * r + 1, by rw [bif_f (decide_eq_false c2)], .inl rfl, by omega, fun c hc hc' => ?_⟩
              rcases hc with rfl | rfl <;> omega
          · refine ⟨2 * r + 1, by rw [bif_f (decide_eq_false (by omega))], .inl rfl, by omega, fun c hc hc' => ?_⟩
            rcases hc with rfl | rfl
            · omega
            · omega
        have d1 : a + r < m.length := by omega
        have d2 : a + ch < m.length := by omega
        have d3 : a + ch < (m.set (a + r) (m.getD (a + ch) 0)).length := by simpa using d2
        have w1 : IntKind.i64.wrap ((a : Int) + (r : Int)) = ((a + r : Nat) : Int) := by rw [IntWalk.i64_in _ (by omega)]; omega
        have w2 : IntKind.i64.wrap ((a : Int) + (ch : Int)) = ((a + ch : Nat) : Int) := by rw [IntWalk.i64_in _ (by omega)]; omega
        by_cases c2 : m.getD (a + r) 0 < m.getD (a + ch) 0
        · obtain ⟨o, l', g1, go, g2, g3⟩ := ih ch (sw m (a + r) (a + ch)) (by omega) (by omega) (by omega) (by rw [sw_length]; exact hm)
            (fun k hk hkc c hc hc' => by
              rw [getD_sw d1 d2, getD_sw d1 d2]
              by_cases k1 : k = r
              · subst k1
                rw [if_neg (show ¬ a + k = a + ch by omega), if_pos (show a + k = a + k from rfl)]
                by_cases k2 : c = ch
                · rw [if_pos (by omega)]; omega
                · rw [if_neg (by omega), if_neg (by omega)]; exact hc3 c hc hc'
              · rw [if_neg (show ¬ a + c = a + ch by omega), if_neg (show ¬ a + k = a + ch by omega), if_neg (show ¬ a + k = a + r by omega)]
                by_cases k2 : c = r
                · rw [if_pos (by omega)]; exact h2 k ch hk (by omega) hc1 hc2
                · rw [if_neg (by omega)]; exact h1 k hk k1 c hc hc')
            (fun k c hk hkc hc hc' => by
              have : k = r := by omega
              subst this
              rw [getD_sw d1 d2, getD_sw d1 d2, if_neg (show ¬ a + c = a + ch by omega), if_neg (show ¬ a + c = a + k by omega), if_neg (show ¬ a + k = a + ch by omega), if_pos (show a + k = a + k from rfl)]
              exact h1 ch (by omega) (by omega) c hc hc')
          refine ⟨o, l', ?_, go, (Sw.sw d1 d2 (by omega) (by omega) (by omega) (by omega)).trans g2, g3⟩
          rw [← g1]
          refine loopV_next ?_
          simp only [slices_siftDownOrdered_uint64_L1]
          rw [e2, bif_f (decide_eq_false (by omega)), hJ]
          simp only [Option.bind_some, w1, w2, inb_nat d1, inb_nat d2, cond_true, Int.toNat_natCast, get_some d1, get_some d2, lessS_uint64, decide_eq_true c2, Bool.not_true, cond_false, inb_nat d3, get_some d3]
          rfl
        · refine ⟨_, m, loopV_done (o := .inr ((), (m, ()))) ?_, .inr rfl, .refl, fun k hk c hc hc' => ?_⟩
          · simp only [slices_siftDownOrdered_uint64_L1]
            rw [e2, bif_f (decide_eq_false (by omega)), hJ]
            simp only [Option.bind_some, w1, w2, inb_nat d1, inb_nat d2, cond_true, Int.toNat_natCast, get_some d1, get_some d2, lessS_uint64, decide_eq_false c2, Bool.not_false]
          · by_cases k1 : k = r
            · subst k1; exact Int.le_trans (hc3 c hc hc') (by omega)
            · exact h1 k hk k1 c hc hc'
  obtain ⟨o, l', g1, go, g2, g3⟩ := key hi lo l (by omega) (Nat.le_refl _) hlo rfl (fun k hk hkr => hH k (by omega)) (fun k c hk hkr => by omega)
  refine ⟨l', ?_, g2, g3⟩
  unfold slices_siftDownOrdered_uint64
  rw [g1]
  rcases go with rfl | rfl <;> rfl
theorem heap_eq_uint64 {a b : Nat} {l : List Int} (hb : b ≤ l.length) (hab : a < b) (hl : l.length ≤ 49) :
    ∃ l', slices_heapSortOrdered_uint64 (a : Int) (b : Int) l = some ((), (l', ())) ∧ Sw a b l l' ∧ SrtOn a b l' := by
  unfold slices_heapSortOrdered_uint64
  obtain ⟨hi, rfl⟩ : ∃ hi, b = a + hi := ⟨b - a, by omega⟩
  have e0 : IntKind.i64.wrap (((a + hi : Nat) : Int) - (a : Int)) = (hi : Int) := by rw [IntWalk.i64_in _ (by omega)]; omega
  simp only [e0]
  have e1 : IntKind.i64.wrap (Int.tdiv (IntKind.i64.wrap ((hi : Int) - 1)) 2) = ((((hi - 1) / 2 + 1 : Nat) : Int) - 1) := by
    rw [IntWalk.i64_in ((hi : Int) - 1) (by omega), tdiv_nn (by omega), IntWalk.i64_in _ (by omega)]; omega
  have e2 : IntKind.i64.wrap ((hi : Int) - 1) = (hi : Int) - 1 := IntWalk.i64_in _ (by omega)
  rw [e1, e2]
  have up : ∀ (n : Nat) (m : List Int), n ≤ 49 → m.length = l.length → (∀ k, n ≤ k → Kid m a hi k) →
      ∃ m', loopV (slices_heapSortOrdered_uint64_L1 (a : Int) (hi : Int)) (((), (((n : Int) - 1), ())), (m, ())) = some (((), ()), (m', ())) ∧ Sw a (a + hi) m m' ∧ ∀ k, Kid m' a hi k := by
    intro n
    induction n with
    | zero =>
      intro m _ hm h
      refine ⟨m, loopV_done ?_, .refl, fun k => h k (Nat.zero_le _)⟩
      simp only [slices_heapSortOrdered_uint64_L1]
      rw [bif_f (by simp)]
    | succ n ih =>
      intro m hn hm h
      obtain ⟨m1, f1, f2, f3⟩ := sift_uint64 (a := a) (lo := n) (hi := hi) (l := m) (by omega) (by omega) (by omega) (fun k hk => h k hk)
      obtain ⟨m2, g1, g2, g3⟩ := ih m1 (by omega) (by rw [f2.length]; exact hm) f3
      refine ⟨m2, ?_, (f2.mono (by omega) (Nat.le_refl _)).trans g2, g3⟩
      rw [← g1]
      refine loopV_next ?_
      simp only [slices_heapSortOrdered_uint64_L1, show ((n + 1 : Nat) : Int) - 1 = (n : Int) by omega]
      rw [bif_t (decide_eq_true (by omega)), f1]
      simp only [Option.bind_some]
      rw [IntWalk.i64_in _ (by omega)]
  obtain ⟨m, u1, u2, u3⟩ := up ((hi - 1) / 2 + 1) l (by omega) rfl (fun k hk c hc hc' => by omega)
  rw [u1]
  simp only [Option.bind_some]
  have dn : ∀ (n : Nat) (m : List Int), n ≤ hi → m.length = l.length → (∀ k, Kid m a n k) → (∀ x y, x < n → n ≤ y → y < hi → m.getD (a + x) 0 ≤ m.getD (a + y) 0) → SrtOn (a + n) (a + hi) m →
      ∃ m', loopV (slices_heapSortOrdered_uint64_L2 (a : Int) 0) (((), (((n : Int) - 1), ())), (m, ())) = some ((), (m', ())) ∧ Sw a (a + hi) m m' ∧ SrtOn a (a + hi) m' := by
    intro n
    induction n with
    | zero =>
      intro m _ hm _ _ h
      refine ⟨m, loopV_done ?_, .refl, h⟩
      simp only [slices_heapSortOrdered_uint64_L2]
      rw [bif_f (by simp)]
    | succ n ih =>
      intro m hn hm hK hS hT
      have d0 : a < m.length := by omega
      have d1 : a + n < m.length := by omega
      have d3 : a + n < (m.set a (m.getD (a + n) 0)).length := by simpa using d1
      have root := kid_root (n := n + 1) hK
      have rt : ∀ x, x < n + 1 → m.getD (a + x) 0 ≤ m.getD a 0 := root
      obtain ⟨m2, f1, f2, f3⟩ := sift_uint64 (a := a) (lo := 0) (hi := n) (l := sw m a (a + n)) (by omega) (by rw [sw_length]; omega) (by rw [sw_length]; omega) (fun k hk c hc hc' => by
        rw [getD_sw d0 d1, getD_sw d0 d1, if_neg (by omega), if_neg (by omega), if_neg (by omega), if_neg (by omega)]
        exact hK k c hc (by omega))
      rw [Nat.add_zero] at f2
      have hin : ∀ x, x < n → ∃ j, j < n + 1 ∧ m2.getD (a + x) 0 = m.getD (a + j) 0 := by
        intro x hx
        obtain ⟨j, j1, j2, j3⟩ := f2.inn (a + x) (by omega) (by omega)
        rw [getD_sw d0 d1, if_neg (by omega)] at j3
        by_cases c : j = a
        · rw [if_pos c] at j3; exact ⟨n, by omega, j3⟩
        · rw [if_neg c] at j3; exact ⟨j - a, by omega, by rw [j3]; congr 1; omega⟩
      have ho1 : m2.getD (a + n) 0 = m.getD a 0 := by
        rw [f2.out _ (by omega), getD_sw d0 d1, if_pos rfl]
      have ho2 : ∀ y, n < y → m2.getD (a + y) 0 = m.getD (a + y) 0 := by
        intro y hy
        rw [f2.out _ (by omega), getD_sw d0 d1, if_neg (by omega), if_neg (by omega)]
      obtain ⟨m3, g1, g2, g3⟩ := ih m2 (by omega) (by rw [f2.length, sw_length]; exact hm) (fun k => f3 k (Nat.zero_le _)) (fun x y hx hy hy2 => by
          obtain ⟨j, j1, j2⟩ := hin x hx
          rw [j2]
          by_cases c : y = n
          · rw [c, ho1]; exact rt j j1
          · rw [ho2 y (by omega)]; exact hS j y j1 (by omega) hy2) (fun p q p1 p2 p3 => by
          obtain ⟨q', rfl⟩ : ∃ q', q = a + q' := ⟨q - a, by omega⟩
          obtain ⟨p', rfl⟩ : ∃ p', p = a + p' := ⟨p - a, by omega⟩
          rw [ho2 q' (by omega)]
          by_cases c : p' = n
          · rw [c, ho1]
            have := hS 0 q' (by omega) (by omega) (by omega)
            exact this
          · rw [ho2 p' (by omega)]
            exact hT (a + p') (a + q') (by omega) p2 p3)
      refine ⟨m3, ?_, ((Sw.sw d0 d1 (Nat.le_refl _) (by omega) (by omega) (by omega)).trans (f2.mono (Nat.le_refl _) (by omega))).trans g2, g3⟩
      rw [← g1]
      refine loopV_next ?_
      have w1 : IntKind.i64.wrap ((a : Int) + (n : Int)) = ((a + n : Nat) : Int) := by rw [IntWalk.i64_in _ (by omega)]; omega
      have f1' : slices_siftDownOrdered_uint64 0 (n : Int) (a : Int) ((m.set a (m.getD (a + n) 0)).set (a + n) (m.getD a 0)) = some ((), (m2, ())) := f1
      simp only [slices_heapSortOrdered_uint64_L2, show ((n + 1 : Nat) : Int) - 1 = (n : Int) by omega, decide_eq_true (show (0 : Int) ≤ (n : Int) by omega), cond_true, w1, inb_nat d0, inb_nat d1, Int.toNat_natCast, get_some d0, get_some d1, Option.bind_some, inb_nat d3, get_some d3, f1']
      rw [IntWalk.i64_in _ (by omega)]
  obtain ⟨m3, g1, g2, g3⟩ := dn hi m (Nat.le_refl _) u2.length u3 (fun x y _ h1 h2 => by omega) (fun p q p1 p2 p3 => by omega)
  rw [g1]
  exact ⟨m3, rfl, u2.trans g2, g3⟩
/-! ### the pivot, patterns -/
theorem order2_uint64 {l : List Int} {i j : Nat} {z : Int} (hi : i < l.length) (hj : j < l.length) :
    ∃ (x y : Nat) (z' : Int), slices_order2Ordered_uint64 l (i : Int) (j : Int) z = some (((x : Int), ((y : Int), ())), (z', ())) ∧ ((x = i ∧ y = j) ∨ (x = j ∧ y = i)) := by
  unfold slices_order2Ordered_uint64
  rw [bif_t (inb_nat hj), bif_t (inb_nat hi), lessS_uint64]
  simp only [Option.bind_some]
  by_cases h : rd (.int .u64) l (j : Int) < rd (.int .u64) l (i : Int)
  · rw [bif_t (decide_eq_true h)]; exact ⟨j, i, _, rfl, .inr ⟨rfl, rfl⟩⟩
  · rw [bif_f (decide_eq_false h)]; exact ⟨i, j, _, rfl, .inl ⟨rfl, rfl⟩⟩
theorem median_uint64 {l : List Int} {i j k : Nat} {z : Int} (hi : i < l.length) (hj : j < l.length) (hk : k < l.length) :
    ∃ (x : Nat) (z' : Int), slices_medianOrdered_uint64 l (i : Int) (j : Int) (k : Int) z = some (((x : Int), ()), (z', ())) ∧ (x = i ∨ x = j ∨ x = k) := by
  unfold slices_medianOrdered_uint64
  obtain ⟨x1, y1, z1, h1, h2⟩ := order2_uint64 (z := z) hi hj
  rw [h1]
  simp only [Option.bind_some]
  obtain ⟨x2, y2, z2, h3, h4⟩ := order2_uint64 (l := l) (i := y1) (j := k) (z := z1) (by omega) hk
  rw [h3]
  simp only [Option.bind_some]
  obtain ⟨x3, y3, z3, h5, h6⟩ := order2_uint64 (l := l) (i := x1) (j := x2) (z := z2) (by omega) (by omega)
  rw [h5]
  exact ⟨y3, z3, rfl, by omega⟩
theorem choose_uint64 {a b : Nat} {l : List Int} (hb : b ≤ l.length) (hl : l.length ≤ 49) (h13 : a + 12 < b) :
    ∃ (p : Nat) (h : Int), slices_choosePivotOrdered_uint64 l (a : Int) (b : Int) = some (((p : Int), (h, ())), ()) ∧ a ≤ p ∧ p < b := by
  unfold slices_choosePivotOrdered_uint64
  obtain ⟨n, rfl⟩ : ∃ n, b = a + n := ⟨b - a, by omega⟩
  have e0 : IntKind.i64.wrap (((a + n : Nat) : Int) - (a : Int)) = (n : Int) := by rw [IntWalk.i64_in _ (by omega)]; omega
  have e1 : IntKind.i64.wrap (Int.tdiv (n : Int) 4) = ((n / 4 : Nat) : Int) := by rw [tdiv_nn (by omega), IntWalk.i64_in _ (by omega)]; omega
  have e2 : ∀ m : Nat, m ≤ 3 → IntKind.i64.wrap ((a : Int) + IntKind.i64.wrap (((n / 4 : Nat) : Int) * (m : Int))) = ((a + n / 4 * m : Nat) : Int) := by
    intro m hm
    have : n / 4 * m ≤ 49 * 3 := Nat.mul_le_mul (by omega) hm
    have e : ((n / 4 : Nat) : Int) * (m : Int) = ((n / 4 * m : Nat) : Int) := by simp
    rw [e, IntWalk.i64_in ((n / 4 * m : Nat) : Int) (by omega), IntWalk.i64_in _ (by omega)]; omega
  have e21 := e2 1 (by omega)
  have e22 := e2 2 (by omega)
  have e23 := e2 3 (by omega)
  rw [show (((1 : Nat)) : Int) = 1 from rfl] at e21
  rw [show (((2 : Nat)) : Int) = 2 from rfl] at e22
  rw [show (((3 : Nat)) : Int) = 3 from rfl] at e23
  simp only [e0, e1, e21, e22, e23]
  obtain ⟨p, z, h1, h2⟩ := median_uint64 (l := l) (i := a + n / 4 * 1) (j := a + n / 4 * 2) (k := a + n / 4 * 3) (z := 0) (by omega) (by omega) (by omega)
  have hJ : slices_choosePivotOrdered_uint64_J1 l (n : Int) (((), (((a + n / 4 * 1 : Nat) : Int), (((a + n / 4 * 2 : Nat) : Int), (((a + n / 4 * 3 : Nat) : Int), ())))), ((0 : Int), ())) = some (((), ((p : Int), ())), (z, ())) := by
    unfold slices_choosePivotOrdered_uint64_J1 slices_choosePivotOrdered_uint64_J2
    rw [bif_t (decide_eq_true (by omega)), bif_f (decide_eq_false (by omega))]
    simp only [Option.bind_some]
    rw [h1]
    rfl
  rw [hJ]
  simp only [Option.bind_some]
  refine ⟨p, if z = 0 then 1 else if z = 12 then 2 else 0, ?_, by omega, by omega⟩
  by_cases c1 : z = 0
  · rw [bif_t (decide_eq_true c1), if_pos c1]
  · rw [bif_f (decide_eq_false c1), if_neg c1]
    by_cases c2 : z = 12
    · rw [bif_t (decide_eq_true c2), if_pos c2]
    · rw [bif_f (decide_eq_false c2), if_neg c2]
theorem reverse_uint64 {a b : Nat} {l : List Int} (hb : b ≤ l.length) (hl : l.length ≤ 49) (hab : a < b) :
    ∃ l', slices_reverseRangeOrdered_uint64 (a : Int) (b : Int) l = some ((), (l', ())) ∧ Sw a b l l' := by
  unfold slices_reverseRangeOrdered_uint64
  rw [i64_dn (i := b) (by omega) (by unfold big; omega)]
  have key : ∀ (n i j : Nat) (m : List Int), j ≤ i + n → a ≤ i → i ≤ j + 1 → j < b → m.length = l.length → ∃ m', loopV slices_reverseRangeOrdered_uint64_L1 (((), ((i : Int), ((j : Int), ()))), (m, ())) = some ((), (m', ())) ∧ Sw a b m m' := by
    intro n
    induction n with
    | zero =>
      intro i j m h1 h2 h3 h4 hm
      refine ⟨m, loopV_done ?_, .refl⟩
      simp only [slices_reverseRangeOrdered_uint64_L1]
      rw [bif_f (decide_eq_false (by omega))]
    | succ n ih =>
      intro i j m h1 h2 h3 h4 hm
      by_cases c : i < j
      · have d1 : i < m.length := by omega
        have d2 : j < m.length := by omega
        have d3 : j < (m.set i (m.getD j 0)).length := by simpa using d2
        obtain ⟨m', g1, g2⟩ := ih (i + 1) (j - 1) (sw m i j) (by omega) (by omega) (by omega) (by omega) (by rw [sw_length]; exact hm)
        refine ⟨m', ?_, (Sw.sw d1 d2 h2 (by omega) (by omega) h4).trans g2⟩
        rw [← g1]
        refine loopV_next ?_
        simp only [slices_reverseRangeOrdered_uint64_L1, decide_eq_true (show (i : Int) < (j : Int) by omega), cond_true, inb_nat d1, inb_nat d2, Int.toNat_natCast, get_some d1, get_some d2, Option.bind_some, inb_nat d3, get_some d3, i64_dn (i := j) (by omega) (show j ≤ big by unfold big; omega), i64_up d1 (show m.length ≤ big by unfold big; omega)]
        rfl
      · refine ⟨m, loopV_done ?_, .refl⟩
        simp only [slices_reverseRangeOrdered_uint64_L1]
        rw [bif_f (decide_eq_false (by omega))]
  obtain ⟨m', g1, g2⟩ := key b a (b - 1) l (by omega) (Nat.le_refl _) (by omega) (by omega) rfl
  rw [g1]
  exact ⟨m', rfl, g2⟩
theorem partial_uint64 {a b : Nat} {l : List Int} (hb : b ≤ l.length) (hl : l.length ≤ 49) (hab : a < b) :
    ∃ r, slices_partialInsertionSortOrdered_uint64 (a : Int) (b : Int) l = some ((r, ()), (l, ())) ∧ (r = true → SrtOn a b l) := by
  unfold slices_partialInsertionSortOrdered_uint64
  rw [show IntKind.i64.wrap ((a : Int) + 1) = ((a + 1 : Nat) : Int) by rw [IntWalk.i64_in _ (by omega)]; omega]
  have scan : ∀ (n i : Nat), b ≤ i + n → a < i → i ≤ b → (∀ k, a ≤ k → k + 1 < i → l.getD k 0 ≤ l.getD (k + 1) 0) → ∃ j : Nat, loopV (slices_partialInsertionSortOrdered_uint64_L2 (b : Int)) (((), ((i : Int), ())), (l, ())) = some (((), ((j : Int), ())), (l, ())) ∧ j ≤ b ∧ (j = b → ∀ k, a ≤ k → k + 1 < b → l.getD k 0 ≤ l.getD (k + 1) 0) := by
    intro n
    induction n with
    | zero =>
      intro i h1 h2 h3 h4
      have : i = b := by omega
      subst this
      refine ⟨i, loopV_done ?_, Nat.le_refl _, fun _ => h4⟩
      simp only [slices_partialInsertionSortOrdered_uint64_L2]
      rw [bif_f (decide_eq_false (by omega))]
    | succ n ih =>
      intro i h1 h2 h3 h4
      by_cases c : i < b
      · have d1 : i < l.length := by omega
        have d2 : i - 1 < l.length := by omega
        by_cases c2 : l.getD i 0 < l.getD (i - 1) 0
        · refine ⟨i, loopV_done ?_, h3, fun h => by omega⟩
          simp only [slices_partialInsertionSortOrdered_uint64_L2, decide_eq_true (show (i : Int) < (b : Int) by omega), cond_true, inb_nat d1, Int.toNat_natCast, get_some d1, Option.bind_some, i64_dn (i := i) (by omega) (show i ≤ big by unfold big; omega), inb_nat d2, get_some d2, lessS_uint64, decide_eq_true c2, Bool.not_true, cond_false]
        · obtain ⟨j, g1, g2, g3⟩ := ih (i + 1) (by omega) (by omega) (by omega) (fun k k1 k2 => by
            by_cases k3 : k + 1 = i
            · have : k = i - 1 := by omega
              rw [this, show i - 1 + 1 = i by omega]; omega
            · exact h4 k k1 (by omega))
          refine ⟨j, ?_, g2, g3⟩
          rw [← g1]
          refine loopV_next ?_
          simp only [slices_partialInsertionSortOrdered_uint64_L2, decide_eq_true (show (i : Int) < (b : Int) by omega), cond_true, inb_nat d1, Int.toNat_natCast, get_some d1, Option.bind_some, i64_dn (i := i) (by omega) (show i ≤ big by unfold big; omega), inb_nat d2, get_some d2, lessS_uint64, decide_eq_false c2, Bool.not_false, i64_up d1 (show l.length ≤ big by unfold big; omega)]
      · have : i = b := by omega
        subst this
        refine ⟨i, loopV_done ?_, Nat.le_refl _, fun _ => h4⟩
        simp only [slices_partialInsertionSortOrdered_uint64_L2]
        rw [bif_f (decide_eq_false (by omega))]
  obtain ⟨j, g1, g2, g3⟩ := scan b (a + 1) (by omega) (by omega) (by omega) (fun k h1 h2 => by omega)
  by_cases c : j = b
  · have hL : loopV (slices_partialInsertionSortOrdered_uint64_L1 (a : Int) (b : Int)) (((), (((a + 1 : Nat) : Int), ((0 : Int), ()))), (l, ())) = some (.inl ((true, ()), (l, ()))) := by
      refine loopV_done ?_
      simp only [slices_partialInsertionSortOrdered_uint64_L1]
      rw [bif_t (show decide ((0 : Int) < 5) = true by decide), g1]
      simp only [Option.bind_some]
      rw [bif_t (decide_eq_true (by omega))]
    rw [hL]
    exact ⟨true, rfl, fun _ => srt_adj (g3 c)⟩
  · have hL : loopV (slices_partialInsertionSortOrdered_uint64_L1 (a : Int) (b : Int)) (((), (((a + 1 : Nat) : Int), ((0 : Int), ()))), (l, ())) = some (.inl ((false, ()), (l, ()))) := by
      refine loopV_done ?_
      simp only [slices_partialInsertionSortOrdered_uint64_L1]
      rw [bif_t (show decide ((0 : Int) < 5) = true by decide), g1]
      simp only [Option.bind_some]
      rw [bif_f (decide_eq_false (by omega)), IntWalk.i64_in _ (by omega), bif_t (decide_eq_true (by omega))]
    rw [hL]
    exact ⟨false, rfl, fun h => by cases h⟩
theorem break_uint64 {a b : Nat} {l : List Int} (hb : b ≤ l.length) (hl : l.length ≤ 49) (h13 : a + 12 < b) :
    ∃ l', slices_breakPatternsOrdered_uint64 (a : Int) (b : Int) l = some ((), (l', ())) ∧ Sw a b l l' := by
  unfold slices_breakPatternsOrdered_uint64
  obtain ⟨n, rfl⟩ : ∃ n, b = a + n := ⟨b - a, by omega⟩
  have e0 : IntKind.i64.wrap (((a + n : Nat) : Int) - (a : Int)) = (n : Int) := by rw [IntWalk.i64_in _ (by omega)]; omega
  have e1 : IntKind.i64.wrap (Int.tdiv (n : Int) 4) = ((n / 4 : Nat) : Int) := by rw [tdiv_nn (by omega), IntWalk.i64_in _ (by omega)]; omega
  have e2 : IntKind.i64.wrap ((a : Int) + IntKind.i64.wrap (((n / 4 : Nat) : Int) * 2)) = ((a + n / 4 * 2 : Nat) : Int) := by
    rw [IntWalk.i64_in (((n / 4 : Nat) : Int) * 2) (by omega), IntWalk.i64_in _ (by omega)]; omega
  simp only [e0, e1, e2]
  have hp : slices_nextPowerOfTwo (n : Int) = some ((((2 ^ bl n : Nat) : Int), ()), ()) := by
    unfold slices_nextPowerOfTwo math_bits_Len
    rw [wrap_un (k := .u64) rfl (by omega) (by simp only [IntKind.bits]; omega), math_bits_Len64_eq (by omega)]
    simp only [Option.bind_some]
    have hb6 : bl n ≤ 6 := bl_le.2 (by omega)
    rw [bif_f (decide_eq_false (by omega)), shl_un rfl (by omega), Int.toNat_natCast, Nat.shiftLeft_eq]
    have : 2 ^ bl n ≤ 2 ^ 6 := Nat.pow_le_pow_right (by omega) hb6
    rw [show (1 : Int).toNat = 1 from rfl, Nat.one_mul, Nat.mod_eq_of_lt (by simp only [IntKind.bits]; omega)]
  have hm1 : n < 2 ^ bl n := bl_le.1 (Nat.le_refl _)
  have hm2 : 2 ^ bl n ≤ 2 * n := by
    have h0 : bl n ≠ 0 := by unfold bl; rw [if_neg (by omega)]; omega
    obtain ⟨k, hk⟩ : ∃ k, bl n = k + 1 := ⟨bl n - 1, by omega⟩
    have : ¬ n < 2 ^ k := fun h => by have := bl_le.2 h; omega
    rw [hk, Nat.pow_succ]; omega
  rw [bif_t (decide_eq_true (by omega)), hp]
  simp only [Option.bind_some]
  generalize 2 ^ bl n = md at *
  obtain ⟨o, ho, l', rfl, hsw⟩ := loopV_inv (step := slices_breakPatternsOrdered_uint64_L1 (a : Int) (n : Int) (md : Int)) (v := (((), ((), ((IntKind.i64.wrap (((a + n / 4 * 2 : Nat) : Int) - 1), ())))), (l, ((IntKind.u64.wrap (n : Int)), ()))))
    (fun v => ∃ (i : Nat) (m : List Int) (z : Int), v = (((), ((), ((i : Int), ()))), (m, (z, ()))) ∧ a ≤ i ∧ Sw a (a + n) l m) (fun v => (1000 - v.1.2.2.1).toNat)
    (fun o => ∃ l', o = ((), (l', ())) ∧ Sw a (a + n) l l') ⟨a + n / 4 * 2 - 1, l, _, by rw [i64_dn (by omega) (by unfold big; omega)], by omega, .refl⟩ (by
      rintro _ ⟨i, m, z, rfl, hi, hsw⟩
      have hml := hsw.length
      simp only [slices_breakPatternsOrdered_uint64_L1, e1, e2]
      rw [IntWalk.i64_in (((a + n / 4 * 2 : Nat) : Int) + 1) (by omega)]
      by_cases c : i ≤ a + n / 4 * 2 + 1
      · left
        rw [bif_t (decide_eq_true (by omega))]
        unfold slices_xorshift_Next
        simp only [Option.bind_some]
        generalize bitI .xor .u64 (bitI .xor .u64 (bitI .xor .u64 z (shlI .u64 z 13)) (shrI .u64 (bitI .xor .u64 z (shlI .u64 z 13)) 7)) (shlI .u64 (bitI .xor .u64 (bitI .xor .u64 z (shlI .u64 z 13)) (shrI .u64 (bitI .xor .u64 z (shlI .u64 z 13)) 7)) 17) = w
        rw [wrap_un (k := .u64) (n := (md : Int) - 1) rfl (by omega) (by simp only [IntKind.bits]; omega)]
        have hand := and_bd (a := w) (b := (md : Int) - 1) (by omega) (by omega)
        generalize bitI .and .u64 w ((md : Int) - 1) = y at *
        obtain ⟨y, rfl⟩ := Int.eq_ofNat_of_zero_le hand.1
        rw [IntWalk.i64_in (y : Int) (by omega)]
        obtain ⟨q, hJ, hq⟩ : ∃ q : Nat, slices_breakPatternsOrdered_uint64_J2 (n : Int) (((), ((), ((y : Int), ()))), (m, (w, ()))) = some (((), ((), ((q : Int), ()))), (m, (w, ()))) ∧ q < n := by
          unfold slices_breakPatternsOrdered_uint64_J2
          by_cases c2 : n ≤ y
          · rw [bif_t (decide_eq_true (by simp only; omega))]
            exact ⟨y - n, by simp only; rw [IntWalk.i64_in _ (by omega), show (y : Int) - (n : Int) = ((y - n : Nat) : Int) by omega], by omega⟩
          · rw [bif_f (decide_eq_false (by simp only; omega))]
            exact ⟨y, rfl, by omega⟩
        rw [hJ]
        have d1 : i < m.length := by omega
        have d2 : a + q < m.length := by omega
        have d3 : a + q < (m.set i (m.getD (a + q) 0)).length := by simpa using d2
        have w1 : IntKind.i64.wrap ((a : Int) + (q : Int)) = ((a + q : Nat) : Int) := by rw [IntWalk.i64_in _ (by omega)]; omega
        simp only [Option.bind_some, w1, inb_nat d1, inb_nat d2, cond_true, Int.toNat_natCast, get_some d1, get_some d2, inb_nat d3, get_some d3, i64_up d1 (show m.length ≤ big by unfold big; omega)]
        exact ⟨_, rfl, ⟨i + 1, _, w, rfl, by omega, hsw.trans (Sw.sw d1 d2 hi (by omega) (by omega) (by omega))⟩, by simp only; omega⟩
      · right
        rw [bif_f (decide_eq_false (by omega))]
        exact ⟨_, rfl, m, rfl, hsw⟩)
  rw [ho]
  exact ⟨l', rfl, hsw⟩
/-! ### partitions -/
theorem pU1_uint64 {a m : Nat} {l : List Int} (hl : l.length ≤ 49) (h3 : m ≤ l.length) : ∀ {n i : Nat}, m = i + n → a < i →
    ∃ i' : Nat, loopV (slices_partitionOrdered_uint64_L1 (a : Int) ((m : Int) - 1)) (((), ((i : Int), ())), (l, ())) = some (((), ((i' : Int), ())), (l, ())) ∧ i ≤ i' ∧ i' ≤ m ∧ (∀ k, i ≤ k → k < i' → l.getD k 0 < l.getD a 0) ∧ (i' < m → ¬ l.getD i' 0 < l.getD a 0) := by
  intro n
  induction n with
  | zero =>
    intro i h1 h2
    refine ⟨i, loopV_done ?_, Nat.le_refl _, by omega, fun k k1 k2 => by omega, fun h => by omega⟩
    simp only [slices_partitionOrdered_uint64_L1]
    rw [bif_f (decide_eq_false (by omega))]
  | succ n ih =>
    intro i h1 h2
    have d0 : a < l.length := by omega
    have d1 : i < l.length := by omega
    by_cases c2 : l.getD i 0 < l.getD a 0
    · obtain ⟨i', g1, g2, g3, g4, g5⟩ := @ih (i + 1) (by omega) (by omega)
      refine ⟨i', ?_, by omega, g3, fun k k1 k2 => ?_, g5⟩
      · rw [← g1]
        refine loopV_next ?_
        simp only [slices_partitionOrdered_uint64_L1, decide_eq_true (show (i : Int) ≤ (m : Int) - 1 by omega), cond_true, inb_nat d0, inb_nat d1, Int.toNat_natCast, get_some d0, get_some d1, Option.bind_some, lessS_uint64, decide_eq_true c2, cond_true, i64_up d1 (show l.length ≤ big by unfold big; omega)]
      · by_cases k3 : k = i
        · rw [k3]; exact c2
        · exact g4 k (by omega) k2
    · refine ⟨i, loopV_done ?_, Nat.le_refl _, by omega, fun k k1 k2 => by omega, fun _ => c2⟩
      simp only [slices_partitionOrdered_uint64_L1, decide_eq_true (show (i : Int) ≤ (m : Int) - 1 by omega), cond_true, inb_nat d0, inb_nat d1, Int.toNat_natCast, get_some d0, get_some d1, Option.bind_some, lessS_uint64, decide_eq_false c2, cond_false]
theorem pU4_uint64 {a m : Nat} {l : List Int} (hl : l.length ≤ 49) (h3 : m ≤ l.length) : ∀ {n i : Nat}, m = i + n → a < i →
    ∃ i' : Nat, loopV (slices_partitionOrdered_uint64_L4 (a : Int) ((m : Int) - 1)) (((), ((i : Int), ())), (l, ())) = some (((), ((i' : Int), ())), (l, ())) ∧ i ≤ i' ∧ i' ≤ m ∧ (∀ k, i ≤ k → k < i' → l.getD k 0 < l.getD a 0) ∧ (i' < m → ¬ l.getD i' 0 < l.getD a 0) := by
  intro n
  induction n with
  | zero =>
    intro i h1 h2
    refine ⟨i, loopV_done ?_, Nat.le_refl _, by omega, fun k k1 k2 => by omega, fun h => by omega⟩
    simp only [slices_partitionOrdered_uint64_L4]
    rw [bif_f (decide_eq_false (by omega))]
  | succ n ih =>
    intro i h1 h2
    have d0 : a < l.length := by omega
    have d1 : i < l.length := by omega
    by_cases c2 : l.getD i 0 < l.getD a 0
    · obtain ⟨i', g1, g2, g3, g4, g5⟩ := @ih (i + 1) (by omega) (by omega)
      refine ⟨i', ?_, by omega, g3, fun k k1 k2 => ?_, g5⟩
      · rw [← g1]
        refine loopV_next ?_
        simp only [slices_partitionOrdered_uint64_L4, decide_eq_true (show (i : Int) ≤ (m : Int) - 1 by omega), cond_true, inb_nat d0, inb_nat d1, Int.toNat_natCast, get_some d0, get_some d1, Option.bind_some, lessS_uint64, decide_eq_true c2, cond_true, i64_up d1 (show l.length ≤ big by unfold big; omega)]
      · by_cases k3 : k = i
        · rw [k3]; exact c2
        · exact g4 k (by omega) k2
    · refine ⟨i, loopV_done ?_, Nat.le_refl _, by omega, fun k k1 k2 => by omega, fun _ => c2⟩
      simp only [slices_partitionOrdered_uint64_L4, decide_eq_true (show (i : Int) ≤ (m : Int) - 1 by omega), cond_true, inb_nat d0, inb_nat d1, Int.toNat_natCast, get_some d0, get_some d1, Option.bind_some, lessS_uint64, decide_eq_false c2, cond_false]
theorem qU2_uint64 {a m : Nat} {l : List Int} (hl : l.length ≤ 49) (h3 : m ≤ l.length) : ∀ {n i : Nat}, m = i + n → a < i →
    ∃ i' : Nat, loopV (slices_partitionEqualOrdered_uint64_L2 (a : Int) ((m : Int) - 1)) (((), ((i : Int), ())), (l, ())) = some (((), ((i' : Int), ())), (l, ())) ∧ i ≤ i' ∧ i' ≤ m ∧ (∀ k, i ≤ k → k < i' → ¬ l.getD a 0 < l.getD k 0) ∧ (i' < m → ¬ ¬ l.getD a 0 < l.getD i' 0) := by
  intro n
  induction n with
  | zero =>
    intro i h1 h2
    refine ⟨i, loopV_done ?_, Nat.le_refl _, by omega, fun k k1 k2 => by omega, fun h => by omega⟩
    simp only [slices_partitionEqualOrdered_uint64_L2]
    rw [bif_f (decide_eq_false (by omega))]
  | succ n ih =>
    intro i h1 h2
    have d0 : a < l.length := by omega
    have d1 : i < l.length := by omega
    by_cases c2 : l.getD a 0 < l.getD i 0
    · refine ⟨i, loopV_done ?_, Nat.le_refl _, by omega, fun k k1 k2 => by omega, fun _ h => h c2⟩
      simp only [slices_partitionEqualOrdered_uint64_L2, decide_eq_true (show (i : Int) ≤ (m : Int) - 1 by omega), cond_true, inb_nat d0, inb_nat d1, Int.toNat_natCast, get_some d0, get_some d1, Option.bind_some, lessS_uint64, decide_eq_true c2, Bool.not_true, cond_false]
    · obtain ⟨i', g1, g2, g3, g4, g5⟩ := @ih (i + 1) (by omega) (by omega)
      refine ⟨i', ?_, by omega, g3, fun k k1 k2 => ?_, g5⟩
      · rw [← g1]
        refine loopV_next ?_
        simp only [slices_partitionEqualOrdered_uint64_L2, decide_eq_true (show (i : Int) ≤ (m : Int) - 1 by omega), cond_true, inb_nat d0, inb_nat d1, Int.toNat_natCast, get_some d0, get_some d1, Option.bind_some, lessS_uint64, decide_eq_false c2, Bool.not_false, cond_true, i64_up d1 (show l.length ≤ big by unfold big; omega)]
      · by_cases k3 : k = i
        · rw [k3]; exact c2
        · exact g4 k (by omega) k2
theorem pD2_uint64 {a i : Nat} {l : List Int} (hl : l.length ≤ 49) (hai : a < i) : ∀ {n m : Nat}, m = i + n → m ≤ l.length →
    ∃ m' : Nat, loopV (slices_partitionOrdered_uint64_L2 (a : Int) (i : Int)) (((), (((m : Int) - 1), ())), (l, ())) = some (((), (((m' : Int) - 1), ())), (l, ())) ∧ i ≤ m' ∧ m' ≤ m ∧ (∀ k, m' ≤ k → k < m → ¬ l.getD k 0 < l.getD a 0) ∧ (i < m' → ¬ ¬ l.getD (m' - 1) 0 < l.getD a 0) := by
  intro n
  induction n with
  | zero =>
    intro m h1 h2
    refine ⟨m, loopV_done ?_, by omega, Nat.le_refl _, fun k k1 k2 => by omega, fun h => by omega⟩
    simp only [slices_partitionOrdered_uint64_L2]
    rw [bif_f (decide_eq_false (by omega))]
  | succ n ih =>
    intro m h1 h2
    have d0 : a < l.length := by omega
    have d1 : i + n < l.length := by omega
    have ej : (m : Int) - 1 = ((i + n : Nat) : Int) := by omega
    by_cases c2 : l.getD (i + n) 0 < l.getD a 0
    · refine ⟨m, loopV_done ?_, by omega, Nat.le_refl _, fun k k1 k2 => by omega, fun _ => ?_⟩
      · simp only [slices_partitionOrdered_uint64_L2, ej, decide_eq_true (show (i : Int) ≤ ((i + n : Nat) : Int) by omega), cond_true, inb_nat d0, inb_nat d1, Int.toNat_natCast, get_some d0, get_some d1, Option.bind_some, lessS_uint64, decide_eq_true c2, Bool.not_true, cond_false]
      · rw [show m - 1 = i + n by omega]; exact fun h => h c2
    · obtain ⟨m', g1, g2, g3, g4, g5⟩ := @ih (i + n) rfl (by omega)
      refine ⟨m', ?_, g2, by omega, fun k k1 k2 => ?_, g5⟩
      · rw [← g1]
        refine loopV_next ?_
        simp only [slices_partitionOrdered_uint64_L2, ej, decide_eq_true (show (i : Int) ≤ ((i + n : Nat) : Int) by omega), cond_true, inb_nat d0, inb_nat d1, Int.toNat_natCast, get_some d0, get_some d1, Option.bind_some, lessS_uint64, decide_eq_false c2, Bool.not_false, cond_true]
        rw [IntWalk.i64_in _ (by omega)]
      · by_cases k3 : k = i + n
        · rw [k3]; exact c2
        · exact g4 k k1 (by omega)
theorem pD5_uint64 {a i : Nat} {l : List Int} (hl : l.length ≤ 49) (hai : a < i) : ∀ {n m : Nat}, m = i + n → m ≤ l.length →
    ∃ m' : Nat, loopV (slices_partitionOrdered_uint64_L5 (a : Int) (i : Int)) (((), (((m : Int) - 1), ())), (l, ())) = some (((), (((m' : Int) - 1), ())), (l, ())) ∧ i ≤ m' ∧ m' ≤ m ∧ (∀ k, m' ≤ k → k < m → ¬ l.getD k 0 < l.getD a 0) ∧ (i < m' → ¬ ¬ l.getD (m' - 1) 0 < l.getD a 0) := by
  intro n
  induction n with
  | zero =>
    intro m h1 h2
    refine ⟨m, loopV_done ?_, by omega, Nat.le_refl _, fun k k1 k2 => by omega, fun h => by omega⟩
    simp only [slices_partitionOrdered_uint64_L5]
    rw [bif_f (decide_eq_false (by omega))]
  | succ n ih =>
    intro m h1 h2
    have d0 : a < l.length := by omega
    have d1 : i + n < l.length := by omega
    have ej : (m : Int) - 1 = ((i + n : Nat) : Int) := by omega
    by_cases c2 : l.getD (i + n) 0 < l.getD a 0
    · refine ⟨m, loopV_done ?_, by omega, Nat.le_refl _, fun k k1 k2 => by omega, fun _ => ?_⟩
      · simp only [slices_partitionOrdered_uint64_L5, ej, decide_eq_true (show (i : Int) ≤ ((i + n : Nat) : Int) by omega), cond_true, inb_nat d0, inb_nat d1, Int.toNat_natCast, get_some d0, get_some d1, Option.bind_some, lessS_uint64, decide_eq_true c2, Bool.not_true, cond_false]
      · rw [show m - 1 = i + n by omega]; exact fun h => h c2
    · obtain ⟨m', g1, g2, g3, g4, g5⟩ := @ih (i + n) rfl (by omega)
      refine ⟨m', ?_, g2, by omega, fun k k1 k2 => ?_, g5⟩
      · rw [← g1]
        refine loopV_next ?_
        simp only [slices_partitionOrdered_uint64_L5, ej, decide_eq_true (show (i : Int) ≤ ((i + n : Nat) : Int) by omega), cond_true, inb_nat d0, inb_nat d1, Int.toNat_natCast, get_some d0, get_some d1, Option.bind_some, lessS_uint64, decide_eq_false c2, Bool.not_false, cond_true]
        rw [IntWalk.i64_in _ (by omega)]
      · by_cases k3 : k = i + n
        · rw [k3]; exact c2
        · exact g4 k k1 (by omega)
theorem qD3_uint64 {a i : Nat} {l : List Int} (hl : l.length ≤ 49) (hai : a < i) : ∀ {n m : Nat}, m = i + n → m ≤ l.length →
    ∃ m' : Nat, loopV (slices_partitionEqualOrdered_uint64_L3 (a : Int) (i : Int)) (((), (((m : Int) - 1), ())), (l, ())) = some (((), (((m' : Int) - 1), ())), (l, ())) ∧ i ≤ m' ∧ m' ≤ m ∧ (∀ k, m' ≤ k → k < m → l.getD a 0 < l.getD k 0) ∧ (i < m' → ¬ l.getD a 0 < l.getD (m' - 1) 0) := by
  intro n
  induction n with
  | zero =>
    intro m h1 h2
    refine ⟨m, loopV_done ?_, by omega, Nat.le_refl _, fun k k1 k2 => by omega, fun h => by omega⟩
    simp only [slices_partitionEqualOrdered_uint64_L3]
    rw [bif_f (decide_eq_false (by omega))]
  | succ n ih =>
    intro m h1 h2
    have d0 : a < l.length := by omega
    have d1 : i + n < l.length := by omega
    have ej : (m : Int) - 1 = ((i + n : Nat) : Int) := by omega
    by_cases c2 : l.getD a 0 < l.getD (i + n) 0
    · obtain ⟨m', g1, g2, g3, g4, g5⟩ := @ih (i + n) rfl (by omega)
      refine ⟨m', ?_, g2, by omega, fun k k1 k2 => ?_, g5⟩
      · rw [← g1]
        refine loopV_next ?_
        simp only [slices_partitionEqualOrdered_uint64_L3, ej, decide_eq_true (show (i : Int) ≤ ((i + n : Nat) : Int) by omega), cond_true, inb_nat d0, inb_nat d1, Int.toNat_natCast, get_some d0, get_some d1, Option.bind_some, lessS_uint64, decide_eq_true c2, cond_true]
        rw [IntWalk.i64_in _ (by omega)]
      · by_cases k3 : k = i + n
        · rw [k3]; exact c2
        · exact g4 k k1 (by omega)
    · refine ⟨m, loopV_done ?_, by omega, Nat.le_refl _, fun k k1 k2 => by omega, fun _ => ?_⟩
      · simp only [slices_partitionEqualOrdered_uint64_L3, ej, decide_eq_true (show (i : Int) ≤ ((i + n : Nat) : Int) by omega), cond_true, inb_nat d0, inb_nat d1, Int.toNat_natCast, get_some d0, get_some d1, Option.bind_some, lessS_uint64, decide_eq_false c2, cond_false]
      · rw [show m - 1 = i + n by omega]; exact c2
theorem equal_uint64 {a b pv : Nat} {l : List Int} (hb : b ≤ l.length) (hl : l.length ≤ 49) (h1 : a ≤ pv) (h2 : pv < b) :
    ∃ (mid : Nat) (l' : List Int), slices_partitionEqualOrdered_uint64 (a : Int) (b : Int) (pv : Int) l = some (((mid : Int), ()), (l', ())) ∧ Sw a b l l' ∧ a < mid ∧ mid ≤ b ∧ (∀ k, a ≤ k → k < mid → l'.getD k 0 ≤ l.getD pv 0) ∧ (∀ k, mid ≤ k → k < b → l.getD pv 0 < l'.getD k 0) := by
  have key : ∀ (n i m : Nat) (l : List Int), m ≤ i + n → a < i → i ≤ m → m ≤ b → b ≤ l.length → l.length ≤ 49 → (∀ k, a ≤ k → k < i → ¬ l.getD a 0 < l.getD k 0) → (∀ k, m ≤ k → k < b → l.getD a 0 < l.getD k 0) →
      ∃ (mid : Nat) (l' : List Int), loopV (slices_partitionEqualOrdered_uint64_L1 (a : Int)) (((), ((i : Int), (((m : Int) - 1), ()))), (l, ())) = some (((mid : Int), ()), (l', ())) ∧ Sw a b l l' ∧ a < mid ∧ mid ≤ b ∧ l'.getD a 0 = l.getD a 0 ∧ (∀ k, a ≤ k → k < mid → ¬ l'.getD a 0 < l'.getD k 0) ∧ (∀ k, mid ≤ k → k < b → l'.getD a 0 < l'.getD k 0) := by
    intro n
    induction n with
    | zero =>
      intro i m l hn hi him hm hbl hl hL hR
      have him' : m = i := by omega
      subst him'
      obtain ⟨i', f1, f2, f3, _, _⟩ := qU2_uint64 (a := a) (m := m) hl (by omega) (n := 0) (i := m) rfl hi
      have : i' = m := by omega
      subst this
      obtain ⟨m', g1, g2, g3, _, _⟩ := qD3_uint64 (a := a) (i := i') hl hi (n := 0) (m := i') rfl (by omega)
      have : m' = i' := by omega
      subst this
      refine ⟨m', l, loopV_done ?_, .refl, hi, hm, rfl, hL, hR⟩
      simp only [slices_partitionEqualOrdered_uint64_L1]
      rw [f1]
      simp only [Option.bind_some]
      rw [g1]
      simp only [Option.bind_some]
      rw [bif_t (decide_eq_true (by omega))]
    | succ n ih =>
      intro i m l hn hi him hm hbl hl hL hR
      obtain ⟨i', f1, f2, f3, f4, f5⟩ := qU2_uint64 (a := a) (m := m) hl (by omega) (n := m - i) (i := i) (by omega) hi
      obtain ⟨m', g1, g2, g3, g4, g5⟩ := qD3_uint64 (a := a) (i := i') hl (by omega) (n := m - i') (m := m) (by omega) (by omega)
      have hL' : ∀ k, a ≤ k → k < i' → ¬ l.getD a 0 < l.getD k 0 := fun k k1 k2 => by
        by_cases c : k < i
        · exact hL k k1 c
        · exact f4 k (by omega) k2
      have hR' : ∀ k, m' ≤ k → k < b → l.getD a 0 < l.getD k 0 := fun k k1 k2 => by
        by_cases c : m ≤ k
        · exact hR k c k2
        · exact g4 k k1 (by omega)
      by_cases c : m' ≤ i'
      · have : m' = i' := by omega
        subst this
        refine ⟨m', l, loopV_done ?_, .refl, by omega, by omega, rfl, hL', hR'⟩
        simp only [slices_partitionEqualOrdered_uint64_L1]
        rw [f1]
        simp only [Option.bind_some]
        rw [g1]
        simp only [Option.bind_some]
        rw [bif_t (decide_eq_true (by omega))]
      · have k5 := f5 (by omega)
        have k6 := g5 (by omega)
        have k5' : l.getD a 0 < l.getD i' 0 := by omega
        have hne : i' ≠ m' - 1 := fun h => by rw [← h] at k6; exact k6 k5'
        have d1 : i' < l.length := by omega
        have d2 : m' - 1 < l.length := by omega
        have d3 : m' - 1 < (l.set i' (l.getD (m' - 1) 0)).length := by simpa using d2
        have ga : (sw l i' (m' - 1)).getD a 0 = l.getD a 0 := by rw [getD_sw d1 d2, if_neg (by omega), if_neg (by omega)]
        obtain ⟨mid, l', q1, q2, q3, q4, q5, q6, q7⟩ := ih (i' + 1) (m' - 1) (sw l i' (m' - 1)) (by omega) (by omega) (by omega) (by omega) (by rw [sw_length]; exact hbl) (by rw [sw_length]; exact hl)
          (fun k k1 k2 => by
            rw [ga, getD_sw d1 d2, if_neg (show ¬ k = m' - 1 by omega)]
            by_cases c2 : k = i'
            · rw [if_pos c2]; exact k6
            · rw [if_neg c2]; exact hL' k k1 (by omega))
          (fun k k1 k2 => by
            rw [ga, getD_sw d1 d2]
            by_cases c2 : k = m' - 1
            · rw [if_pos c2]; exact k5'
            · rw [if_neg c2, if_neg (by omega)]; exact hR' k (by omega) k2)
        refine ⟨mid, l', ?_, (Sw.sw d1 d2 (by omega) (by omega) (by omega) (by omega)).trans q2, q3, q4, by rw [q5, ga], q6, q7⟩
        rw [← q1]
        refine loopV_next ?_
        simp only [slices_partitionEqualOrdered_uint64_L1]
        rw [f1]
        simp only [Option.bind_some]
        rw [g1]
        simp only [Option.bind_some]
        rw [bif_f (decide_eq_false (by omega)), show (m' : Int) - 1 = ((m' - 1 : Nat) : Int) by omega]
        simp only [inb_nat d1, inb_nat d2, cond_true, Int.toNat_natCast, get_some d1, get_some d2, Option.bind_some, inb_nat d3, get_some d3, i64_up d1 (show l.length ≤ big by unfold big; omega)]
        rw [IntWalk.i64_in (((m' - 1 : Nat) : Int) - 1) (by omega)]
        rfl
  have d1 : a < l.length := by omega
  have d2 : pv < l.length := by omega
  have d3 : pv < (l.set a (l.getD pv 0)).length := by simpa using d2
  have ga : (sw l a pv).getD a 0 = l.getD pv 0 := by
    rw [getD_sw d1 d2]
    by_cases c : a = pv
    · rw [if_pos c, c]
    · rw [if_neg c, if_pos rfl]
  obtain ⟨mid, l', q1, q2, q3, q4, q5, q6, q7⟩ := key b (a + 1) b (sw l a pv) (by omega) (by omega) (by omega) (Nat.le_refl _) (by rw [sw_length]; exact hb) (by rw [sw_length]; exact hl)
    (fun k k1 k2 => by have : k = a := by omega
                       rw [this]; omega) (fun k k1 k2 => by omega)
  refine ⟨mid, l', ?_, (Sw.sw d1 d2 (Nat.le_refl _) (by omega) h1 h2).trans q2, q3, q4, fun k k1 k2 => ?_, fun k k1 k2 => ?_⟩
  · unfold slices_partitionEqualOrdered_uint64
    have q1' : loopV (slices_partitionEqualOrdered_uint64_L1 (a : Int)) (((), (((a + 1 : Nat) : Int), (((b : Int) - 1), ()))), ((l.set a (l.getD pv 0)).set pv (l.getD a 0), ())) = some (((mid : Int), ()), (l', ())) := q1
    simp only [inb_nat d1, inb_nat d2, cond_true, Int.toNat_natCast, get_some d1, get_some d2, Option.bind_some, inb_nat d3, get_some d3]
    rw [show IntKind.i64.wrap ((a : Int) + 1) = ((a + 1 : Nat) : Int) by rw [IntWalk.i64_in _ (by omega)]; omega, IntWalk.i64_in ((b : Int) - 1) (by omega), q1']
    rfl
  · have := q6 k k1 k2; rw [q5, ga] at this; omega
  · have := q7 k k1 k2; rw [q5, ga] at this; exact this
theorem part_uint64 {a b pv : Nat} {l : List Int} (hb : b ≤ l.length) (hl : l.length ≤ 49) (h1 : a ≤ pv) (h2 : pv < b) :
    ∃ (mid : Nat) (f : Bool) (l' : List Int), slices_partitionOrdered_uint64 (a : Int) (b : Int) (pv : Int) l = some (((mid : Int), (f, ())), (l', ())) ∧ Sw a b l l' ∧ a ≤ mid ∧ mid < b ∧ (∀ k, a ≤ k → k < mid → l'.getD k 0 ≤ l'.getD mid 0) ∧ (∀ k, mid < k → k < b → l'.getD mid 0 ≤ l'.getD k 0) := by
  have key : ∀ (n i m : Nat) (l : List Int), m ≤ i + n → a < i → i ≤ m → m ≤ b → b ≤ l.length → l.length ≤ 49 → (∀ k, a < k → k < i → l.getD k 0 < l.getD a 0) → (∀ k, m ≤ k → k < b → ¬ l.getD k 0 < l.getD a 0) →
      ∃ (mid : Nat) (l' : List Int), loopV (slices_partitionOrdered_uint64_L3 (a : Int)) (((), ((i : Int), (((m : Int) - 1), ()))), (l, ())) = some (((), (((mid : Int) - 1), ())), (l', ())) ∧ Sw a b l l' ∧ a < mid ∧ mid ≤ b ∧ (∀ k, a < k → k < mid → l'.getD k 0 < l'.getD a 0) ∧ (∀ k, mid ≤ k → k < b → ¬ l'.getD k 0 < l'.getD a 0) := by
    intro n
    induction n with
    | zero =>
      intro i m l hn hi him hm hbl hl hL hR
      have him' : m = i := by omega
      subst him'
      obtain ⟨i', f1, f2, f3, _, _⟩ := pU4_uint64 (a := a) (m := m) hl (by omega) (n := 0) (i := m) rfl hi
      have : i' = m := by omega
      subst this
      obtain ⟨m', g1, g2, g3, _, _⟩ := pD5_uint64 (a := a) (i := i') hl hi (n := 0) (m := i') rfl (by omega)
      have : m' = i' := by omega
      subst this
      refine ⟨m', l, loopV_done ?_, .refl, hi, hm, hL, hR⟩
      simp only [slices_partitionOrdered_uint64_L3]
      rw [f1]
      simp only [Option.bind_some]
      rw [g1]
      simp only [Option.bind_some]
      rw [bif_t (decide_eq_true (by omega))]
    | succ n ih =>
      intro i m l hn hi him hm hbl hl hL hR
      obtain ⟨i', f1, f2, f3, f4, f5⟩ := pU4_uint64 (a := a) (m := m) hl (by omega) (n := m - i) (i := i) (by omega) hi
      obtain ⟨m', g1, g2, g3, g4, g5⟩ := pD5_uint64 (a := a) (i := i') hl (by omega) (n := m - i') (m := m) (by omega) (by omega)
      have hL' : ∀ k, a < k → k < i' → l.getD k 0 < l.getD a 0 := fun k k1 k2 => by
        by_cases c : k < i
        · exact hL k k1 c
        · exact f4 k (by omega) k2
      have hR' : ∀ k, m' ≤ k → k < b → ¬ l.getD k 0 < l.getD a 0 := fun k k1 k2 => by
        by_cases c : m ≤ k
        · exact hR k c k2
        · exact g4 k k1 (by omega)
      by_cases c : m' ≤ i'
      · have : m' = i' := by omega
        subst this
        refine ⟨m', l, loopV_done ?_, .refl, by omega, by omega, hL', hR'⟩
        simp only [slices_partitionOrdered_uint64_L3]
        rw [f1]
        simp only [Option.bind_some]
        rw [g1]
        simp only [Option.bind_some]
        rw [bif_t (decide_eq_true (by omega))]
      · have k5 := f5 (by omega)
        have k6 := g5 (by omega)
        have k6' : l.getD (m' - 1) 0 < l.getD a 0 := by omega
        have hne : i' ≠ m' - 1 := fun h => by rw [← h] at k6'; exact k5 k6'
        have d1 : i' < l.length := by omega
        have d2 : m' - 1 < l.length := by omega
        have d3 : m' - 1 < (l.set i' (l.getD (m' - 1) 0)).length := by simpa using d2
        have ga : (sw l i' (m' - 1)).getD a 0 = l.getD a 0 := by rw [getD_sw d1 d2, if_neg (by omega), if_neg (by omega)]
        obtain ⟨mid, l', q1, q2, q3, q4, q6, q7⟩ := ih (i' + 1) (m' - 1) (sw l i' (m' - 1)) (by omega) (by omega) (by omega) (by omega) (by rw [sw_length]; exact hbl) (by rw [sw_length]; exact hl)
          (fun k k1 k2 => by
            rw [ga, getD_sw d1 d2, if_neg (show ¬ k = m' - 1 by omega)]
            by_cases c2 : k = i'
            · rw [if_pos c2]; exact k6'
            · rw [if_neg c2]; exact hL' k k1 (by omega))
          (fun k k1 k2 => by
            rw [ga, getD_sw d1 d2]
            by_cases c2 : k = m' - 1
            · rw [if_pos c2]; exact k5
            · rw [if_neg c2, if_neg (by omega)]; exact hR' k (by omega) k2)
        refine ⟨mid, l', ?_, (Sw.sw d1 d2 (by omega) (by omega) (by omega) (by omega)).trans q2, q3, q4, q6, q7⟩
        rw [← q1]
        refine loopV_next ?_
        simp only [slices_partitionOrdered_uint64_L3]
        rw [f1]
        simp only [Option.bind_some]
        rw [g1]
        simp only [Option.bind_some]
        rw [bif_f (decide_eq_false (by omega)), show (m' : Int) - 1 = ((m' - 1 : Nat) : Int) by omega]
        simp only [inb_nat d1, inb_nat d2, cond_true, Int.toNat_natCast, get_some d1, get_some d2, Option.bind_some, inb_nat d3, get_some d3, i64_up d1 (show l.length ≤ big by unfold big; omega)]
        rw [IntWalk.i64_in (((m' - 1 : Nat) : Int) - 1) (by omega)]
        rfl
  -- the pivot goes to its place
  have fin : ∀ (mid : Nat) (l : List Int), a < mid → mid ≤ b → b ≤ l.length → (∀ k, a < k → k < mid → l.getD k 0 < l.getD a 0) → (∀ k, mid ≤ k → k < b → ¬ l.getD k 0 < l.getD a 0) →
      Sw a b l (sw l (mid - 1) a) ∧ (∀ k, a ≤ k → k < mid - 1 → (sw l (mid - 1) a).getD k 0 ≤ (sw l (mid - 1) a).getD (mid - 1) 0) ∧ (∀ k, mid - 1 < k → k < b → (sw l (mid - 1) a).getD (mid - 1) 0 ≤ (sw l (mid - 1) a).getD k 0) := by
    intro mid l h1 h2 h3 hL hR
    have d1 : mid - 1 < l.length := by omega
    have d2 : a < l.length := by omega
    have gm : (sw l (mid - 1) a).getD (mid - 1) 0 = l.getD a 0 := by
      rw [getD_sw d1 d2]
      by_cases c : mid - 1 = a
      · rw [if_pos c, c]
      · rw [if_neg c, if_pos rfl]
    refine ⟨Sw.sw d1 d2 (by omega) (by omega) (Nat.le_refl _) (by omega), fun k k1 k2 => ?_, fun k k1 k2 => ?_⟩
    · rw [gm, getD_sw d1 d2]
      by_cases c : k = a
      · rw [if_pos c]
        have := hL (mid - 1) (by omega) (by omega); omega
      · rw [if_neg c, if_neg (by omega)]
        have := hL k (by omega) (by omega); omega
    · rw [gm, getD_sw d1 d2, if_neg (by omega), if_neg (by omega)]
      have := hR k (by omega) k2; omega
  have d1 : a < l.length := by omega
  have d2 : pv < l.length := by omega
  have d3 : pv < (l.set a (l.getD pv 0)).length := by simpa using d2
  have hsw0 := Sw.sw (l := l) (a := a) (b := b) d1 d2 (Nat.le_refl _) (by omega) h1 h2
  have hdef : (l.set a (l.getD pv 0)).set pv (l.getD a 0) = sw l a pv := rfl
  unfold slices_partitionOrdered_uint64
  simp only [inb_nat d1, inb_nat d2, cond_true, Int.toNat_natCast, get_some d1, get_some d2, Option.bind_some, inb_nat d3, get_some d3, hdef]
  have hlen : (sw l a pv).length = l.length := sw_length
  generalize sw l a pv = m at *
  rw [show IntKind.i64.wrap ((a : Int) + 1) = ((a + 1 : Nat) : Int) by rw [IntWalk.i64_in _ (by omega)]; omega, IntWalk.i64_in ((b : Int) - 1) (by omega)]
  obtain ⟨i', f1, f2, f3, f4, f5⟩ := pU1_uint64 (a := a) (m := b) (l := m) (by omega) (by omega) (n := b - (a + 1)) (i := a + 1) (by omega) (by omega)
  obtain ⟨m', g1, g2, g3, g4, g5⟩ := pD2_uint64 (a := a) (i := i') (l := m) (by omega) (by omega) (n := b - i') (m := b) (by omega) (by omega)
  rw [f1]
  simp only [Option.bind_some]
  rw [g1]
  simp only [Option.bind_some]
  have e0 : a < m.length := by omega
  have e1 : m' - 1 < m.length := by omega
  by_cases c : m' ≤ i'
  · have : m' = i' := by omega
    subst this
    obtain ⟨s1, s2, s3⟩ := fin m' m (by omega) (by omega) (by omega) (fun k k1 k2 => f4 k (by omega) k2) (fun k k1 k2 => g4 k k1 k2)
    have e3 : a < (m.set (m' - 1) (m.getD a 0)).length := by simpa using e0
    rw [bif_t (decide_eq_true (by omega)), show (m' : Int) - 1 = ((m' - 1 : Nat) : Int) by omega]
    simp only [inb_nat e0, inb_nat e1, cond_true, Int.toNat_natCast, get_some e0, get_some e1, Option.bind_some, inb_nat e3, get_some e3]
    exact ⟨m' - 1, true, sw m (m' - 1) a, rfl, hsw0.trans s1, by omega, by omega, s2, s3⟩
  · have k5 := f5 (by omega)
    have k6 := g5 (by omega)
    have k6' : m.getD (m' - 1) 0 < m.getD a 0 := by omega
    have hne : i' ≠ m' - 1 := fun h => by rw [← h] at k6'; exact k5 k6'
    have e2 : i' < m.length := by omega
    have e3 : m' - 1 < (m.set i' (m.getD (m' - 1) 0)).length := by simpa using e1
    have ga : (sw m i' (m' - 1)).getD a 0 = m.getD a 0 := by rw [getD_sw e2 e1, if_neg (by omega), if_neg (by omega)]
    obtain ⟨mid, l', q1, q2, q3, q4, q6, q7⟩ := key b (i' + 1) (m' - 1) (sw m i' (m' - 1)) (by omega) (by omega) (by omega) (by omega) (by rw [sw_length]; omega) (by rw [sw_length]; omega)
      (fun k k1 k2 => by
        rw [ga, getD_sw e2 e1, if_neg (show ¬ k = m' - 1 by omega)]
        by_cases c2 : k = i'
        · rw [if_pos c2]; exact k6'
        · rw [if_neg c2]; exact f4 k (by omega) (by omega))
      (fun k k1 k2 => by
        rw [ga, getD_sw e2 e1]
        by_cases c2 : k = m' - 1
        · rw [if_pos c2]; exact k5
        · rw [if_neg c2, if_neg (by omega)]; exact g4 k (by omega) k2)
    have hl' := q2.length
    rw [sw_length] at hl'
    have t0 : a < l'.length := by omega
    have t1 : mid - 1 < l'.length := by omega
    have t3 : a < (l'.set (mid - 1) (l'.getD a 0)).length := by simpa using t0
    obtain ⟨s1, s2, s3⟩ := fin mid l' q3 q4 (by omega) q6 q7
    have q1' : loopV (slices_partitionOrdered_uint64_L3 (a : Int)) (((), (((i' + 1 : Nat) : Int), ((((m' - 1 : Nat) : Int) - 1), ()))), ((m.set i' (m.getD (m' - 1) 0)).set (m' - 1) (m.getD i' 0), ())) = some (((), (((mid : Int) - 1), ())), (l', ())) := q1
    rw [bif_f (decide_eq_false (by omega)), show (m' : Int) - 1 = ((m' - 1 : Nat) : Int) by omega]
    simp only [inb_nat e2, inb_nat e1, cond_true, Int.toNat_natCast, get_some e2, get_some e1, Option.bind_some, inb_nat e3, get_some e3, i64_up e2 (show m.length ≤ big by unfold big; omega)]
    rw [IntWalk.i64_in (((m' - 1 : Nat) : Int) - 1) (by omega), q1', show (mid : Int) - 1 = ((mid - 1 : Nat) : Int) by omega]
    simp only [inb_nat t0, inb_nat t1, cond_true, Int.toNat_natCast, get_some t0, get_some t1, Option.bind_some, inb_nat t3, get_some t3]
    exact ⟨mid - 1, false, sw l' (mid - 1) a, rfl, (hsw0.trans ((Sw.sw e2 e1 (by omega) (by omega) (by omega) (by omega)).trans q2)).trans s1, by omega, by omega, s2, s3⟩
/-! ### the sort -/
theorem join_uint64 {a mid b : Nat} {l m : List Int} (h1 : a ≤ mid) (h2 : mid < b) (hL : ∀ k, a ≤ k → k < mid → l.getD k 0 ≤ l.getD mid 0) (hR : ∀ k, mid < k → k < b → l.getD mid 0 ≤ l.getD k 0)
    {m1 : List Int} (s1 : Sw a mid l m1) (o1 : SrtOn a mid m1) (s2 : Sw (mid + 1) b m1 m) (o2 : SrtOn (mid + 1) b m) : Sw a b l m ∧ SrtOn a b m := by
  refine ⟨(s1.mono (Nat.le_refl _) (by omega)).trans (s2.mono (by omega) (Nat.le_refl _)), fun i j i1 i2 i3 => ?_⟩
  have em : m.getD mid 0 = l.getD mid 0 := by rw [s2.out mid (by omega), s1.out mid (by omega)]
  have lo : ∀ k, a ≤ k → k < mid → m.getD k 0 ≤ m.getD mid 0 := fun k k1 k2 => by
    rw [em, s2.out k (by omega)]
    obtain ⟨q, q1, q2, q3⟩ := s1.inn k k1 k2
    rw [q3]; exact hL q q1 q2
  have up : ∀ k, mid < k → k < b → m.getD mid 0 ≤ m.getD k 0 := fun k k1 k2 => by
    obtain ⟨q, q1, q2, q3⟩ := s2.inn k (by omega) k2
    rw [em, q3, s1.out q (by omega)]; exact hR q (by omega) q2
  by_cases c1 : j < mid
  · rw [s2.out i (by omega), s2.out j (by omega)]; exact o1 i j i1 i2 c1
  · by_cases c2 : mid < i
    · exact o2 i j (by omega) i2 i3
    · have a1 : m.getD i 0 ≤ m.getD mid 0 := by
        by_cases c3 : i = mid
        · rw [c3]; exact Int.le_refl _
        · exact lo i i1 (by omega)
      have a2 : m.getD mid 0 ≤ m.getD j 0 := by
        by_cases c3 : j = mid
        · rw [c3]; exact Int.le_refl _
        · exact up j (by omega) i3
      omega
theorem join2_uint64 {a mid b : Nat} {l m : List Int} (h1 : a ≤ mid) (h2 : mid < b) (hL : ∀ k, a ≤ k → k < mid → l.getD k 0 ≤ l.getD mid 0) (hR : ∀ k, mid < k → k < b → l.getD mid 0 ≤ l.getD k 0)
    {m1 : List Int} (s1 : Sw (mid + 1) b l m1) (o1 : SrtOn (mid + 1) b m1) (s2 : Sw a mid m1 m) (o2 : SrtOn a mid m) : Sw a b l m ∧ SrtOn a b m := by
  refine ⟨(s1.mono (by omega) (Nat.le_refl _)).trans (s2.mono (Nat.le_refl _) (by omega)), fun i j i1 i2 i3 => ?_⟩
  have em : m.getD mid 0 = l.getD mid 0 := by rw [s2.out mid (by omega), s1.out mid (by omega)]
  have lo : ∀ k, a ≤ k → k < mid → m.getD k 0 ≤ m.getD mid 0 := fun k k1 k2 => by
    obtain ⟨q, q1, q2, q3⟩ := s2.inn k k1 k2
    rw [em, q3, s1.out q (by omega)]; exact hL q q1 q2
  have up : ∀ k, mid < k → k < b → m.getD mid 0 ≤ m.getD k 0 := fun k k1 k2 => by
    rw [em, s2.out k (by omega)]
    obtain ⟨q, q1, q2, q3⟩ := s1.inn k (by omega) k2
    rw [q3]; exact hR q (by omega) q2
  by_cases c1 : j < mid
  · exact o2 i j i1 i2 c1
  · by_cases c2 : mid < i
    · rw [s2.out i (by omega), s2.out j (by omega)]; exact o1 i j (by omega) i2 i3
    · have a1 : m.getD i 0 ≤ m.getD mid 0 := by
        by_cases c3 : i = mid
        · rw [c3]; exact Int.le_refl _
        · exact lo i i1 (by omega)
      have a2 : m.getD mid 0 ≤ m.getD j 0 := by
        by_cases c3 : j = mid
        · rw [c3]; exact Int.le_refl _
        · exact up j (by omega) i3
      omega
/-- What sorting part of a slice answers. -/
def Sorts_uint64 (self : ((Unit × Int × Int × Int × Unit) × (List Int) × Unit) → Option ((Unit) × (List Int) × Unit)) (n : Nat) : Prop :=
  ∀ (a b : Nat) (lim : Int) (l : List Int), a ≤ b → b < a + n → b ≤ l.length → l.length ≤ 49 → (0 < a → ∀ k, a ≤ k → k < b → l.getD (a - 1) 0 ≤ l.getD k 0) →
    ∃ l', self (((), ((a : Int), ((b : Int), (lim, ())))), (l, ())) = some ((), (l', ())) ∧ Sw a b l l' ∧ SrtOn a b l'
theorem pdq_loop_uint64 {self : ((Unit × Int × Int × Int × Unit) × (List Int) × Unit) → Option ((Unit) × (List Int) × Unit)} {N : Nat} (hs : Sorts_uint64 self N) :
    ∀ (s a b : Nat) (lim : Int) (bal part : Bool) (l : List Int), b = a + s → s ≤ N → b ≤ l.length → l.length ≤ 49 → (0 < a → ∀ k, a ≤ k → k < b → l.getD (a - 1) 0 ≤ l.getD k 0) →
      ∃ l', loopV (slices_pdqsortOrdered_uint64_L1 self) (((), ((a : Int), ((b : Int), (lim, (bal, (part, ())))))), (l, ())) = some ((), (l', ())) ∧ Sw a b l l' ∧ SrtOn a b l' := by
  intro s
  induction s using Nat.strongRecOn with
  | _ s ih =>
    intro a b lim bal part l hb hN hbl hl hpre
    have e0 : IntKind.i64.wrap ((b : Int) - (a : Int)) = (s : Int) := by rw [IntWalk.i64_in _ (by omega)]; omega
    by_cases c1 : s ≤ 12
    · obtain ⟨l', g1, g2, g3⟩ := ins_eq_uint64 (a := a) (b := b) (l := l) hbl (by omega) hl
      refine ⟨l', loopV_done ?_, g2, g3⟩
      simp only [slices_pdqsortOrdered_uint64_L1, e0]
      rw [bif_t (decide_eq_true (by omega)), g1]
      rfl
    by_cases c2 : lim = 0
    · obtain ⟨l', g1, g2, g3⟩ := heap_eq_uint64 (a := a) (b := b) (l := l) hbl (by omega) hl
      refine ⟨l', loopV_done ?_, g2, g3⟩
      simp only [slices_pdqsortOrdered_uint64_L1, e0]
      rw [bif_f (decide_eq_false (by omega)), bif_t (decide_eq_true c2), g1]
      rfl
    -- patterns
    obtain ⟨lim2, l1, hJ2, w1⟩ : ∃ (lim2 : Int) (l1 : List Int), slices_pdqsortOrdered_uint64_J2 self (a : Int) (b : Int) bal (((), (lim, ())), (l, ())) = some (((), (lim2, ())), (l1, ())) ∧ Sw a b l l1 := by
      unfold slices_pdqsortOrdered_uint64_J2
      cases bal with
      | true => exact ⟨lim, l, rfl, .refl⟩
      | false =>
        obtain ⟨l1, g1, g2⟩ := break_uint64 (a := a) (b := b) (l := l) hbl hl (by omega)
        simp only [Bool.not_false, cond_true]
        rw [g1]
        exact ⟨_, l1, rfl, g2⟩
    have n1 := w1.length
    obtain ⟨p, h, hC, p1, p2⟩ := choose_uint64 (a := a) (b := b) (l := l1) (by omega) (by omega) (by omega)
    obtain ⟨p', h', l2, hJ3, w2, p3, p4⟩ : ∃ (p' : Nat) (h' : Int) (l2 : List Int), slices_pdqsortOrdered_uint64_J3 self (a : Int) (b : Int) (((), ((p : Int), (h, ()))), (l1, ())) = some (((), ((p' : Int), (h', ()))), (l2, ())) ∧ Sw a b l1 l2 ∧ a ≤ p' ∧ p' < b := by
      unfold slices_pdqsortOrdered_uint64_J3
      by_cases ch : h = 2
      · obtain ⟨l2, g1, g2⟩ := reverse_uint64 (a := a) (b := b) (l := l1) (by omega) (by omega) (by omega)
        rw [bif_t (decide_eq_true ch)]
        simp only
        rw [g1]
        refine ⟨b - 1 - (p - a), 1, l2, ?_, g2, by omega, by omega⟩
        simp only [Option.bind_some]
        rw [IntWalk.i64_in ((b : Int) - 1) (by omega), IntWalk.i64_in ((p : Int) - (a : Int)) (by omega), IntWalk.i64_in ((b : Int) - 1 - ((p : Int) - (a : Int))) (by omega), show (b : Int) - 1 - ((p : Int) - (a : Int)) = ((b - 1 - (p - a) : Nat) : Int) by omega]
      · rw [bif_f (decide_eq_false ch)]
        exact ⟨p, h, l1, rfl, .refl, p1, p2⟩
    have n2 := w2.length
    have w12 := w1.trans w2
    -- nearly sorted
    have hJ4 : (slices_pdqsortOrdered_uint64_J4 self (a : Int) (b : Int) bal part h' (((), ()), (l2, ())) = some (.inl ((), (l2, ()))) ∧ SrtOn a b l2) ∨ slices_pdqsortOrdered_uint64_J4 self (a : Int) (b : Int) bal part h' (((), ()), (l2, ())) = some (.inr (((), ()), (l2, ()))) := by
      unfold slices_pdqsortOrdered_uint64_J4
      cases bal with
      | false => exact .inr rfl
      | true =>
        cases part with
        | false => exact .inr rfl
        | true =>
          simp only [cond_true]
          by_cases ch : h' = 1
          · obtain ⟨r, g1, g2⟩ := partial_uint64 (a := a) (b := b) (l := l2) (by omega) (by omega) (by omega)
            rw [bif_t (decide_eq_true ch), g1]
            cases r with
            | true => exact .inl ⟨rfl, g2 rfl⟩
            | false => exact .inr rfl
          · rw [bif_f (decide_eq_false ch)]; exact .inr rfl
    have hpre2 : 0 < a → ∀ k, a ≤ k → k < b → l2.getD (a - 1) 0 ≤ l2.getD k 0 := fun h0 k k1 k2 => by
      obtain ⟨q, q1, q2, q3⟩ := w12.inn k k1 k2
      rw [w12.out (a - 1) (by omega), q3]; exact hpre h0 q q1 q2
    have head : ∀ v', slices_pdqsortOrdered_uint64_L1 self (((), ((a : Int), ((b : Int), (lim, (bal, (part, ())))))), (l, ())) = v' ↔
        ((slices_pdqsortOrdered_uint64_J4 self (a : Int) (b : Int) bal part h' (((), ()), (l2, ()))).bind fun o2009 =>
      match o2009 with
      | .inl o2010 =>
        some (.inr ((), (o2010.2.1, ())))
      | .inr o2011 =>
        (slices_pdqsortOrdered_uint64_J5 self (b : Int) (p' : Int) (((), ((a : Int), ())), (o2011.2.1, ()))).bind fun o2012 =>
        match o2012 with
        | .inl o2013 =>
          some (.inl (((), (o2013.1.2.1, ((b : Int), (lim2, (bal, (part, ())))))), (o2013.2.1, ())))
        | .inr o2014 =>
          (slices_partitionOrdered_uint64 o2014.1.2.1 (b : Int) (p' : Int) o2014.2.1).bind fun r2015 =>
          bif (decide ((IntKind.i64.wrap (r2015.1.1 - o2014.1.2.1)) < (IntKind.i64.wrap ((b : Int) - r2015.1.1)))) then
            (self (((), (o2014.1.2.1, (r2015.1.1, (lim2, ())))), (r2015.2.1, ()))).bind fun r2021 =>
            some (.inl (((), ((IntKind.i64.wrap (r2015.1.1 + (1 : Int))), ((b : Int), (lim2, ((decide ((IntKind.i64.wrap (Int.tdiv (s : Int) (8 : Int))) ≤ (IntKind.i64.wrap (r2015.1.1 - o2014.1.2.1)))), (r2015.1.2.1, ())))))), (r2021.2.1, ())))
          else
            (self (((), ((IntKind.i64.wrap (r2015.1.1 + (1 : Int))), ((b : Int), (lim2, ())))), (r2015.2.1, ()))).bind fun r2025 =>
            some (.inl (((), (o2014.1.2.1, (r2015.1.1, (lim2, ((decide ((IntKind.i64.wrap (Int.tdiv (s : Int) (8 : Int))) ≤ (IntKind.i64.wrap ((b : Int) - r2015.1.1)))), (r2015.1.2.1, ())))))), (r2025.2.1, ())))) = v' := by
      intro v'
      simp only [slices_pdqsortOrdered_uint64_L1, e0]
      rw [bif_f (decide_eq_false (by omega)), bif_f (decide_eq_false c2), hJ2]
      simp only [Option.bind_some]
      rw [hC]
      simp only [Option.bind_some]
      rw [hJ3]
      simp only [Option.bind_some]
      exact Iff.rfl
    rcases hJ4 with ⟨hJ4, hsr⟩ | hJ4
    · refine ⟨l2, loopV_done ((head _).2 ?_), w12, hsr⟩
      rw [hJ4]
      rfl
    -- equal to the one ahead
    by_cases hEq : 0 < a ∧ ¬ l2.getD (a - 1) 0 < l2.getD p' 0
    · obtain ⟨mid, l3, g1, w3, g2, g3, g4, g5⟩ := equal_uint64 (a := a) (b := b) (pv := p') (l := l2) (by omega) (by omega) p3 p4
      have n3 := w3.length
      have hpv : ∀ k, a ≤ k → k < b → l2.getD p' 0 ≤ l3.getD k 0 := fun k k1 k2 => by
        obtain ⟨q, q1, q2, q3⟩ := w3.inn k k1 k2
        have := hpre2 hEq.1 q q1 q2
        rw [q3]; omega
      obtain ⟨l', f1, f2, f3⟩ := ih (b - mid) (by omega) mid b lim2 bal part l3 (by omega) (by omega) (by omega) (by omega) (fun _ k k1 k2 => by
        have := g4 (mid - 1) (by omega) (by omega)
        have := g5 k k1 k2
        omega)
      refine ⟨l', ?_, (w12.trans w3).trans (f2.mono (by omega) (Nat.le_refl _)), fun i j i1 i2 i3 => ?_⟩
      · rw [← f1]
        refine loopV_next ((head _).2 ?_)
        rw [hJ4]
        simp only [Option.bind_some]
        have d1 : a - 1 < l2.length := by omega
        have d2 : p' < l2.length := by omega
        have hJ5 : slices_pdqsortOrdered_uint64_J5 self (b : Int) (p' : Int) (((), ((a : Int), ())), (l2, ())) = some (.inl (((), ((mid : Int), ())), (l3, ()))) := by
          unfold slices_pdqsortOrdered_uint64_J5
          simp only [decide_eq_true (show (0 : Int) < (a : Int) by omega), cond_true, i64_dn (i := a) (by omega) (show a ≤ big by unfold big; omega), inb_nat d1, inb_nat d2, Int.toNat_natCast, get_some d1, get_some d2, Option.bind_some, lessS_uint64, decide_eq_false hEq.2, Bool.not_false]
          rw [g1]
          rfl
        rw [hJ5]
        rfl
      · by_cases k1 : mid ≤ i
        · exact f3 i j k1 i2 i3
        · rw [f2.out i (by omega)]
          have a1 := g4 i i1 (by omega)
          by_cases k2 : mid ≤ j
          · obtain ⟨q, q1, q2, q3⟩ := f2.inn j k2 i3
            have := g5 q q1 q2
            rw [q3]; omega
          · rw [f2.out j (by omega)]
            have := hpv j (by omega) i3
            omega
    · have hJ5 : slices_pdqsortOrdered_uint64_J5 self (b : Int) (p' : Int) (((), ((a : Int), ())), (l2, ())) = some (.inr (((), ((a : Int), ())), (l2, ()))) := by
        unfold slices_pdqsortOrdered_uint64_J5
        by_cases k0 : 0 < a
        · have d1 : a - 1 < l2.length := by omega
          have d2 : p' < l2.length := by omega
          have k1 : l2.getD (a - 1) 0 < l2.getD p' 0 := by
            apply Classical.byContradiction
            intro hn
            exact hEq ⟨k0, hn⟩
          simp only [decide_eq_true (show (0 : Int) < (a : Int) by omega), cond_true, i64_dn (i := a) (by omega) (show a ≤ big by unfold big; omega), inb_nat d1, inb_nat d2, Int.toNat_natCast, get_some d1, get_some d2, Option.bind_some, lessS_uint64, decide_eq_true k1, Bool.not_true, cond_false]
        · rw [bif_f (decide_eq_false (by simp only; omega))]
      obtain ⟨mid, f, l3, g1, w3, m1, m2, g2, g3⟩ := part_uint64 (a := a) (b := b) (pv := p') (l := l2) (by omega) (by omega) p3 p4
      have n3 := w3.length
      have w13 := w12.trans w3
      have hpre3 : 0 < a → ∀ k, a ≤ k → k < b → l3.getD (a - 1) 0 ≤ l3.getD k 0 := fun h0 k k1 k2 => by
        obtain ⟨q, q1, q2, q3⟩ := w3.inn k k1 k2
        rw [w3.out (a - 1) (by omega), q3]; exact hpre2 h0 q q1 q2
      have e5 : IntKind.i64.wrap ((mid : Int) - (a : Int)) = ((mid - a : Nat) : Int) := by rw [IntWalk.i64_in _ (by omega)]; omega
      have e6 : IntKind.i64.wrap ((b : Int) - (mid : Int)) = ((b - mid : Nat) : Int) := by rw [IntWalk.i64_in _ (by omega)]; omega
      have e7 : IntKind.i64.wrap ((mid : Int) + 1) = ((mid + 1 : Nat) : Int) := by rw [IntWalk.i64_in _ (by omega)]; omega
      by_cases c3 : mid - a < b - mid
      · obtain ⟨l4, q1, q2, q3⟩ := hs a mid lim2 l3 m1 (by omega) (by omega) (by omega) (fun h0 k k1 k2 => hpre3 h0 k k1 (by omega))
        have n4 := q2.length
        obtain ⟨l', f1, f2, f3⟩ := ih (b - (mid + 1)) (by omega) (mid + 1) b lim2 (decide ((IntKind.i64.wrap (Int.tdiv (s : Int) (8 : Int))) ≤ ((mid - a : Nat) : Int))) f l4 (by omega) (by omega) (by omega) (by omega) (fun _ k k1 k2 => by
          rw [Nat.add_sub_cancel, q2.out mid (by omega), q2.out k (by omega)]; exact g3 k (by omega) k2)
        obtain ⟨j1, j2⟩ := join_uint64 m1 m2 g2 g3 q2 q3 f2 f3
        refine ⟨l', ?_, w13.trans j1, j2⟩
        rw [← f1]
        refine loopV_next ((head _).2 ?_)
        rw [hJ4]
        simp only [Option.bind_some]
        rw [hJ5]
        simp only [Option.bind_some]
        rw [g1]
        simp only [Option.bind_some, e5, e6, e7]
        rw [bif_t (decide_eq_true (by omega)), q1]
        rfl
      · obtain ⟨l4, q1, q2, q3⟩ := hs (mid + 1) b lim2 l3 (by omega) (by omega) (by omega) (by omega) (fun _ k k1 k2 => by
          rw [Nat.add_sub_cancel]; exact g3 k (by omega) k2)
        have n4 := q2.length
        obtain ⟨l', f1, f2, f3⟩ := ih (mid - a) (by omega) a mid lim2 (decide ((IntKind.i64.wrap (Int.tdiv (s : Int) (8 : Int))) ≤ ((b - mid : Nat) : Int))) f l4 (by omega) (by omega) (by omega) (by omega) (fun h0 k k1 k2 => by
          rw [q2.out (a - 1) (by omega), q2.out k (by omega)]; exact hpre3 h0 k k1 (by omega))
        obtain ⟨j1, j2⟩ := join2_uint64 m1 m2 g2 g3 q2 q3 f2 f3
        refine ⟨l', ?_, w13.trans j1, j2⟩
        rw [← f1]
        refine loopV_next ((head _).2 ?_)
        rw [hJ4]
        simp only [Option.bind_some]
        rw [hJ5]
        simp only [Option.bind_some]
        rw [g1]
        simp only [Option.bind_some, e5, e6, e7]
        rw [bif_f (decide_eq_false (by omega)), q1]
        rfl
theorem pdq_uint64 : ∀ n : Nat, Sorts_uint64 (fixN slices_pdqsortOrdered_uint64_R n) n := by
  intro n
  induction n with
  | zero => intro a b lim l h1 h2; omega
  | succ n ih =>
    intro a b lim l h1 h2 h3 h4 h5
    obtain ⟨l', g1, g2, g3⟩ := pdq_loop_uint64 ih (b - a) a b lim true true l (by omega) (by omega) h3 h4 h5
    refine ⟨l', ?_, g2, g3⟩
    show slices_pdqsortOrdered_uint64_R (fixN slices_pdqsortOrdered_uint64_R n) _ = _
    generalize fixN slices_pdqsortOrdered_uint64_R n = self at g1 ⊢
    unfold slices_pdqsortOrdered_uint64_R
    simp only
    rw [g1]
    rfl
/-- The library's Sort sorts. -/
theorem sort_uint64 {l : List Int} (hl : l.length ≤ 49) : ∃ l', slices_Sort_uint64_uint64 l = some ((), (l', ())) ∧ l'.Perm l ∧ SrtOn 0 l.length l' := by
  unfold slices_Sort_uint64_uint64 math_bits_Len
  simp only
  rw [wrap_un (k := .u64) rfl (by omega) (by simp only [IntKind.bits]; omega), math_bits_Len64_eq (by omega)]
  simp only [Option.bind_some]
  unfold slices_pdqsortOrdered_uint64
  obtain ⟨l', g1, g2, g3⟩ := pdq_uint64 fuel 0 l.length (bl l.length : Int) l (Nat.zero_le _) (by unfold fuel; omega) (Nat.le_refl _) hl (fun h => by omega)
  rw [show (((0 : Nat)) : Int) = 0 from rfl] at g1
  rw [g1]
  exact ⟨l', rfl, g2.perm, g3⟩
end Go.PE
end

section
namespace Go.PE
set_option linter.unusedSimpArgs false
set_option linter.unusedVariables false
section
variable {k v : Ty} (he : ∀ a b : k.den, k.eqb a b = true ↔ a = b)
include he
theorem mfind_mset_same {x : k.den} {y : v.den} : ∀ {l : List (k.den × v.den)}, mfind k v x (mset k v x y l) = some y := by
  intro l
  have h0 : k.eqb x x = true := (he x x).2 rfl
  induction l with
  | nil => simp [mset, mfind, h0]
  | cons e l ih =>
    simp only [mset]
    cases h : k.eqb x e.1 with
    | true => simp [mfind, h0]
    | false => simp [mfind, h, ih]
theorem mfind_mset_ne {x z : k.den} {y : v.den} (hn : z ≠ x) : ∀ {l : List (k.den × v.den)}, mfind k v z (mset k v x y l) = mfind k v z l := by
  intro l
  have h0 : k.eqb z x = false := by
    cases h : k.eqb z x with
    | false => rfl
    | true => exact (hn ((he z x).1 h)).elim
  induction l with
  | nil => simp [mset, mfind, h0]
  | cons e l ih =>
    simp only [mset]
    cases h : k.eqb x e.1 with
    | true =>
      have hx := (he x e.1).1 h
      simp [mfind, h0, ← hx]
    | false => simp only [cond_false, mfind, ih]
/-- A map as a set: what stands in it. -/
def SetOf (k : Ty) (l : List k.den) (m : List (k.den × (Ty.bool).den)) : Prop := ∀ x, Option.getD (mfind k .bool x m) false = l.any fun y => k.eqb x y
omit he in
theorem SetOf.nil : SetOf k [] [] := fun x => by simp [mfind]
theorem SetOf.add {l : List k.den} {m : List (k.den × (Ty.bool).den)} (h : SetOf k l m) (x : k.den) : SetOf k (l ++ [x]) (mset k .bool x true m) := by
  intro z
  rw [List.any_append, ← h z]
  by_cases hz : z = x
  · subst hz
    rw [mfind_mset_same he, (he z z).2 rfl |> fun e => show ([z].any fun y => k.eqb z y) = true by simp [e]]; simp
  · rw [mfind_mset_ne he hz]
    have : k.eqb z x = false := by
      cases h : k.eqb z x with
      | false => rfl
      | true => exact (hz ((he z x).1 h)).elim
    simp [this]
end
theorem eqb_arr {t : Ty} {n : Nat} (he : ∀ a b : t.den, t.eqb a b = true ↔ a = b) : ∀ a b : (Ty.arr n t).den, (Ty.arr n t).eqb a b = true ↔ a = b := fun a b => eqList_iff he
theorem eqb_int {k : IntKind} : ∀ a b : (Ty.int k).den, (Ty.int k).eqb a b = true ↔ a = b := fun a b => by simp [Ty.eqb]
theorem eqb_cons {t ts : Ty} (h : ∀ a b : t.den, t.eqb a b = true ↔ a = b) (h' : ∀ a b : ts.den, ts.eqb a b = true ↔ a = b) : ∀ a b : (Ty.cons t ts).den, (Ty.cons t ts).eqb a b = true ↔ a = b := by
  intro a b
  simp only [Ty.eqb, Bool.and_eq_true, h, h']
  exact ⟨fun h => Prod.ext h.1 h.2, fun h => by rw [h]; exact ⟨rfl, rfl⟩⟩
theorem eqb_nil : ∀ a b : (Ty.nil).den, (Ty.nil).eqb a b = true ↔ a = b := fun a b => by simp [Ty.eqb]
theorem eqb_str : ∀ a b : (Ty.str).den, (Ty.str).eqb a b = true ↔ a = b := fun a b => eqList_iff (by simp)
end Go.PE
end

section
namespace Go.PE
set_option linter.unusedSimpArgs false
set_option linter.unusedVariables false
/-! ### the hash answers -/
theorem sip_round_some (s : D_641c) : ∃ r, sip_words_round s = some ((), (r, ())) := ⟨_, rfl⟩
theorem sip_take_some (x : Int) (s : D_641c) : ∃ r, sip_words_take x s = some ((), (r, ())) := by
  unfold sip_words_take
  obtain ⟨r1, h1⟩ := sip_round_some (s.1, (s.2.1, (s.2.2.1, ((bitI .xor .u64 s.2.2.2.1 x), s.2.2.2.2))))
  rw [h1]
  simp only [Option.bind_some]
  obtain ⟨r2, h2⟩ := sip_round_some r1
  rw [h2]
  exact ⟨_, rfl⟩
theorem sip_word_some {x : List Int} (h : x.length ≤ 1000) : ∃ w, sip_word x = some ((w, ()), ()) := by
  unfold sip_word
  obtain ⟨o, ho, w, rfl⟩ := loopV_inv (step := sip_word_L1 x (x.length : Int)) (v := (((0 : Int), ((0 : Int), ())), ()))
    (fun v => 0 ≤ v.1.2.1) (fun v => ((x.length : Int) - v.1.2.1).toNat) (fun o => ∃ w, o = ((w, ()), ())) (by simp) (by
      rintro ⟨⟨w, k, _⟩, _⟩ h0
      simp only at h0
      simp only [sip_word_L1]
      by_cases hk : k < x.length
      · left
        rw [bif_t (decide_eq_true hk), bif_t (inb_t (by omega)), IntWalk.i64_in (8 * k) (by omega), bif_f (decide_eq_false (by omega)), IntWalk.i64_in (k + 1) (by omega)]
        exact ⟨_, rfl, by simp only; omega, by simp only; omega⟩
      · right
        rw [bif_f (decide_eq_false hk)]
        exact ⟨_, rfl, w, rfl⟩)
  rw [ho]
  exact ⟨w, rfl⟩
theorem sip_Sum_some {key x : List Int} (hk : key.length = 2) (h : x.length ≤ 1000) : ∃ w, sip_Sum key x = some ((w, ()), ()) := by
  unfold sip_Sum
  have k0 : key[0]? = some (key[0]'(by omega)) := List.getElem?_eq_getElem (by omega)
  have k1 : key[1]? = some (key[1]'(by omega)) := List.getElem?_eq_getElem (by omega)
  rw [show inb (0 : Int) 2 = true from rfl, show inb (1 : Int) 2 = true from rfl, k0, k1]
  simp only [cond_true, Option.bind_some]
  obtain ⟨o, ho, l, s, rfl, hl⟩ := loopV_inv (step := sip_Sum_L1) (v := ((x, ((), ())), (((bitI .xor .u64 (key[0]'(by omega)) (8317987319222330741 : Int)), ((bitI .xor .u64 (key[1]'(by omega)) (7237128888997146477 : Int)), ((bitI .xor .u64 (key[0]'(by omega)) (7816392313619706465 : Int)), ((bitI .xor .u64 (key[1]'(by omega)) (8387220255154660723 : Int)), ())))), ())))
    (fun v => v.1.1.length ≤ 1000) (fun v => v.1.1.length) (fun o => ∃ (l : List Int) (s : D_641c), o = ((l, ((), ())), (s, ())) ∧ l.length ≤ 1000) h (by
      rintro ⟨⟨l, _, _⟩, s, _⟩ hl
      simp only at hl
      simp only [sip_Sum_L1]
      by_cases h8 : (8 : Int) ≤ (l.length : Int)
      · left
        obtain ⟨w, hw⟩ := sip_word_some (x := sub l 0 8) (by unfold sub; rw [List.length_take, List.length_drop]; omega)
        obtain ⟨r, hr⟩ := sip_take_some w s
        rw [bif_t (decide_eq_true h8), bif_t (by simpa using h8), hw]
        simp only [Option.bind_some]
        rw [hr]
        simp only [Option.bind_some]
        rw [bif_t (by simpa using h8)]
        refine ⟨_, rfl, ?_, ?_⟩
        · simp only; unfold sub; rw [List.length_take, List.length_drop]; omega
        · simp only; unfold sub; rw [List.length_take, List.length_drop]; omega
      · right
        rw [bif_f (decide_eq_false h8)]
        exact ⟨_, rfl, l, s, rfl, hl⟩)
  rw [ho]
  simp only [Option.bind_some]
  obtain ⟨w, hw⟩ := sip_word_some (x := l) hl
  rw [hw]
  simp only [Option.bind_some]
  obtain ⟨r, hr⟩ := sip_take_some (bitI .or .u64 w (shlI .u64 (IntKind.u64.wrap (((x.length : Int)))) (56 : Int))) s
  rw [hr]
  simp only [Option.bind_some]
  generalize ((r.1, (r.2.1, ((bitI .xor .u64 r.2.2.1 (255 : Int)), r.2.2.2))) : D_641c) = t
  obtain ⟨o, ho, t', rfl⟩ := loopV_inv (step := sip_Sum_L2) (v := (((), ((0 : Int), ())), (t, ())))
    (fun v => 0 ≤ v.1.2.1) (fun v => (4 - v.1.2.1).toNat) (fun o => ∃ t' : D_641c, o = (((), ()), (t', ()))) (by simp) (by
      rintro ⟨⟨_, k, _⟩, t, _⟩ h0
      simp only at h0
      simp only [sip_Sum_L2]
      by_cases hk : k < 4
      · left
        obtain ⟨r, hr⟩ := sip_round_some t
        rw [bif_t (decide_eq_true hk), hr]
        simp only [Option.bind_some]
        rw [IntWalk.i64_in (k + 1) (by omega)]
        exact ⟨_, rfl, by simp only; omega, by simp only; omega⟩
      · right
        rw [bif_f (decide_eq_false hk)]
        exact ⟨_, rfl, t, rfl⟩)
  rw [ho]
  exact ⟨_, rfl⟩
theorem sip_Scale_some (a b : Int) : ∃ w, sip_Scale a b = some ((w, ()), ()) := ⟨_, rfl⟩
/-- The value of an item. -/
noncomputable def itemV (key : List Int) (n m : Int) (x : List Int) : Int :=
  match sip_Sum key x with
  | some r => (match sip_Scale r.1.1 (IntKind.u64.wrap ((IntKind.u64.wrap n) * m)) with | some q => q.1.1 | none => 0)
  | none => 0
theorem values_eq {key : List Int} {n m : Int} {items : List (List Int)} (hk : key.length = 2) (hi : ∀ x ∈ items, x.length ≤ 1000) (hn : items.length ≤ 49) :
    ∃ srt : List Int, golomb_values key items n m = some (((), ()), (srt, ())) ∧ srt.Perm (items.map (itemV key n m)) ∧ SrtOn 0 items.length srt := by
  unfold golomb_values
  simp only
  have hloop : loopV (golomb_values_L1 n m items (items.length : Int)) (((), ((), ((0 : Int), ()))), (key, ((List.replicate 0 (0 : Int)), ()))) = some (((), ()), (items.map (itemV key n m), ())) := by
    refine loopV_ind (fun i => (((), ((), ((i : Int), ()))), (key, (((items.take i).map (itemV key n m)), ())))) items.length (by simp) ?_ ?_
    · intro i h
      simp only [golomb_values_L1]
      obtain ⟨w, hw⟩ := sip_Sum_some hk (hi _ (List.getElem_mem h))
      obtain ⟨q, hq⟩ := sip_Scale_some w (IntKind.u64.wrap ((IntKind.u64.wrap n) * m))
      have hv : itemV key n m items[i] = q := by unfold itemV; rw [hw]; simp only; rw [hq]
      rw [bif_t (decide_eq_true (by omega)), bif_t (inb_nat h), rd_in (t := .slice (.int .u8)) (xs := items) h, hw]
      simp only [Option.bind_some]
      rw [hq]
      simp only [Option.bind_some]
      rw [bif_t (by simp [lim]; omega), IntWalk.i64_in _ (by omega), List.take_succ_eq_append_getElem h, List.map_append]
      simp only [List.map_cons, List.map_nil, hv]
      rfl
    · simp only [golomb_values_L1]
      rw [bif_f (by simp), List.take_length]
  rw [bif_t (by simp only [Bool.and_eq_true, decide_eq_true_eq]; unfold lim; omega), hloop]
  simp only [Option.bind_some]
  obtain ⟨srt, h1, h2, h3⟩ := sort_uint64 (l := items.map (itemV key n m)) (by simpa using hn)
  rw [h1]
  exact ⟨srt, rfl, h2, by simpa using h3⟩
theorem build_eq {key : List Int} {p m : Int} {items : List (List Int)} (hk : key.length = 2) (hi : ∀ x ∈ items, x.length ≤ 1000) (hn : items.length ≤ 49) (hp : 0 ≤ p ∧ p ≤ 32) (hm : 1 ≤ m ∧ m ≤ 1099511627776) :
    ∃ (ds : List (List Int)) (srt : List Int), ds.Nodup ∧ (∀ x, x ∈ ds ↔ x ∈ items) ∧ srt.Perm (ds.map (itemV key (ds.length : Int) m)) ∧ SrtOn 0 ds.length srt ∧
      golomb_Build key items p m = (golomb_Encode srt p).bind fun r12 => some (((r12.1.1.1, ((), ())), (r12.1.2.1, ())), (r12.2.1, ())) := by
  unfold golomb_Build
  rw [bif_f (decide_eq_false (by omega))]
  have hJ : golomb_Build_J1 p m (((), ((), ())), (key, (((0 : Int), ((), ())), ()))) = some (((), ((), (false, ()))), (key, (((0 : Int), ((), ())), ()))) := by
    unfold golomb_Build_J1
    rw [bif_f (decide_eq_false (by omega)), bif_f (decide_eq_false (by omega)), bif_f (decide_eq_false (by omega)), decide_eq_false (show ¬ 32 < p by omega)]
  rw [hJ]
  simp only [Option.bind_some]
  rw [bif_f rfl]
  obtain ⟨o, ho, ds, rfl, h1, h2, h3⟩ := loopV_inv (step := golomb_Build_L2 items (items.length : Int)) (v := (((), ((), ((), ((), ((0 : Int), ()))))), (key, (((0 : Int), ((), ())), (([]), (([] : List (List Int)), ()))))))
    (fun v => ∃ (i : Nat) (mp : List ((List Int) × Bool)) (ds : List (List Int)), v = (((), ((), ((), ((), ((i : Int), ()))))), (key, (((0 : Int), ((), ())), (mp, (ds, ()))))) ∧ i ≤ items.length ∧ SetOf .str (items.take i) mp ∧ ds.Nodup ∧ (∀ x, x ∈ ds ↔ x ∈ items.take i) ∧ ds.length ≤ i)
    (fun v => ((items.length : Int) - v.1.2.2.2.2.1).toNat)
    (fun o => ∃ ds : List (List Int), o = (((), ((), ((), ()))), (key, (((0 : Int), ((), ())), (ds, ())))) ∧ ds.Nodup ∧ (∀ x, x ∈ ds ↔ x ∈ items) ∧ ds.length ≤ items.length)
    ⟨0, [], [], rfl, Nat.zero_le _, by rw [List.take_zero]; exact SetOf.nil, .nil, by simp, by simp⟩ (by
      rintro _ ⟨i, mp, ds, rfl, hil, hset, hnd, hmem, hlen⟩
      simp only [golomb_Build_L2]
      by_cases hlt : i < items.length
      · left
        have hrd : rd (.slice (.int .u8)) items (i : Int) = items[i] := rd_in (t := .slice (.int .u8)) (xs := items) hlt
        have htk : items.take (i + 1) = items.take i ++ [items[i]] := List.take_succ_eq_append_getElem hlt
        have hany : Option.getD (mfind .str .bool items[i] mp) false = decide (items[i] ∈ items.take i) := by
          rw [hset items[i], Bool.eq_iff_iff, List.any_eq_true, decide_eq_true_eq]
          constructor
          · rintro ⟨y, h1, h2⟩
            rw [(eqb_str _ _).1 h2]; exact h1
          · intro h; exact ⟨_, h, (eqb_str _ _).2 rfl⟩
        rw [bif_t (decide_eq_true (by omega)), bif_t (inb_nat hlt), hrd]
        have hset2 : items[i] ∈ items.take i → SetOf .str (items.take i ++ [items[i]]) mp := by
          intro hin z
          rw [hset z, List.any_append]
          cases hz : (items.take i).any (fun y => Ty.eqb .str z y) with
          | true => rfl
          | false =>
            cases hz2 : Ty.eqb .str z items[i] with
            | false => simp [hz2]
            | true =>
              have := (List.any_eq_true.2 ⟨items[i], hin, hz2⟩ : (items.take i).any (fun y => Ty.eqb .str z y) = true)
              rw [hz] at this; cases this
        by_cases hin : items[i] ∈ items.take i
        · rw [bif_f (by rw [hany]; simp [hin]), IntWalk.i64_in _ (by omega)]
          refine ⟨_, rfl, ⟨i + 1, mp, ds, rfl, by omega, by rw [htk]; exact hset2 hin, hnd, fun x => ?_, by omega⟩, by simp only; omega⟩
          rw [htk, List.mem_append, List.mem_singleton, hmem x]
          constructor
          · exact .inl
          · rintro (h | h)
            · exact h
            · rw [h]; exact hin
        · rw [bif_t (by rw [hany]; simp [hin]), bif_t (by simp [lim]; omega), IntWalk.i64_in _ (by omega)]
          refine ⟨_, rfl, ⟨i + 1, _, ds ++ [items[i]], rfl, by omega, by rw [htk]; exact hset.add eqb_str _, ?_, fun x => ?_, by simp; omega⟩, by simp only; omega⟩
          · rw [List.nodup_append]
            exact ⟨hnd, by simp, fun a ha b hb e => by rw [List.mem_singleton.1 hb] at e; exact hin ((hmem _).1 (e ▸ ha))⟩
          · rw [htk, List.mem_append, List.mem_append, hmem x]
      · right
        rw [bif_f (decide_eq_false (by omega))]
        have hi' : i = items.length := by omega
        rw [hi', List.take_length] at hmem
        exact ⟨_, rfl, ds, rfl, hnd, hmem, by omega⟩)
  rw [ho]
  simp only [Option.bind_some]
  obtain ⟨srt, g1, g2, g3⟩ := values_eq (key := key) (n := (ds.length : Int)) (m := m) (items := ds) hk (fun x hx => hi x ((h2 x).1 hx)) (by omega)
  rw [g1]
  exact ⟨ds, srt, h1, h2, g2, g3, rfl⟩
theorem srt_perm {l m : List Int} (h : l.Perm m) (h1 : SrtOn 0 l.length l) (h2 : SrtOn 0 m.length m) : l = m := by
  have pw : ∀ {l : List Int}, SrtOn 0 l.length l → l.Pairwise (· ≤ ·) := by
    intro l h
    rw [List.pairwise_iff_getElem]
    intro i j hi hj hij
    have := h i j (Nat.zero_le _) hij hj
    rw [List.getD_eq_getElem?_getD, List.getD_eq_getElem?_getD, List.getElem?_eq_getElem hi, List.getElem?_eq_getElem hj] at this
    exact this
  exact List.Perm.eq_of_pairwise (fun a b _ _ h3 h4 => Int.le_antisymm h3 h4) (pw h1) (pw h2) h
/-- The same items in another order, some of them again: the same set. -/
theorem build_same {key : List Int} {p m : Int} {items items' : List (List Int)} (hk : key.length = 2) (hi : ∀ x ∈ items, x.length ≤ 1000) (hn : items.length ≤ 49) (hn' : items'.length ≤ 49) (hmem : ∀ x, x ∈ items ↔ x ∈ items') (hp : 0 ≤ p ∧ p ≤ 32) (hm : 1 ≤ m ∧ m ≤ 1099511627776) :
    ∃ r, golomb_Build key items p m = some r ∧ golomb_Build key items' p m = some r := by
  obtain ⟨ds, srt, a1, a2, a3, a4, a5⟩ := build_eq (p := p) (m := m) hk hi hn hp hm
  obtain ⟨ds', srt', b1, b2, b3, b4, b5⟩ := build_eq (items := items') (p := p) (m := m) hk (fun x hx => hi x ((hmem x).2 hx)) hn' hp hm
  have hds : ds.Perm ds' := (List.perm_ext_iff_of_nodup a1 b1).2 fun x => by rw [a2, b2, hmem]
  have hlen := hds.length_eq
  have e : srt = srt' := by
    have l1 := a3.length_eq
    have l2 := b3.length_eq
    rw [List.length_map] at l1 l2
    refine srt_perm ?_ (by rw [l1]; exact a4) (by rw [l2]; exact b4)
    rw [hlen] at a3
    exact a3.trans ((hds.map _).trans b3.symm)
  subst e
  obtain ⟨r, h1, _⟩ := @encode_ref srt p
  rw [a5, b5, h1]
  exact ⟨_, rfl, rfl⟩
theorem items_some {xs : List (List Int)} (hl : xs.length ≤ big) : ∃ b, keep_Items xs 20 60 = some ((b, ()), ()) ∧ (b = true → xs.length ≤ 20 ∧ ∀ x ∈ xs, x.length ≤ 60) := by
  unfold keep_Items
  by_cases h : (20 : Int) < xs.length
  · rw [bif_t (decide_eq_true h)]; exact ⟨false, rfl, fun h => by cases h⟩
  rw [bif_f (decide_eq_false h)]
  obtain ⟨o, ho, hQ⟩ := loopV_inv (step := keep_Items_L1 60 xs (xs.length : Int)) (v := (((0 : Int), ()), ()))
    (fun v => 0 ≤ v.1.1 ∧ ∀ i : Nat, (h : i < xs.length) → (i : Int) < v.1.1 → (xs[i]'h).length ≤ 60) (fun v => ((xs.length : Int) - v.1.1).toNat)
    (fun o => match o with | .inl o => o = ((false, ()), ()) | .inr _ => ∀ i : Nat, (h : i < xs.length) → (xs[i]'h).length ≤ 60) ⟨by simp, by intro i _ h; simp only at h; omega⟩ (by
      rintro ⟨⟨k, _⟩, _⟩ ⟨h0, h1⟩
      simp only at h0 h1
      simp only [keep_Items_L1]
      by_cases hk : k < xs.length
      · obtain ⟨n, rfl⟩ := Int.eq_ofNat_of_zero_le h0
        have hn : n < xs.length := by omega
        rw [bif_t (decide_eq_true hk), bif_t (inb_nat hn), rd_in (t := .slice (.int .u8)) (xs := xs) hn]
        by_cases hc : (60 : Int) < (xs[n].length : Int)
        · right
          rw [bif_t (decide_eq_true hc)]
          exact ⟨_, rfl, rfl⟩
        · left
          rw [bif_f (decide_eq_false hc), i64_up hn hl]
          refine ⟨_, rfl, ⟨by simp only; omega, fun i hi h3 => ?_⟩, by simp only; omega⟩
          simp only at h3
          by_cases c : i = n
          · subst c; omega
          · exact h1 i hi (by omega)
      · right
        rw [bif_f (decide_eq_false hk)]
        exact ⟨_, rfl, fun i hi => h1 i hi (by omega)⟩)
  rw [ho]
  simp only [Option.bind_some]
  cases o with
  | inl o => simp only at hQ; subst hQ; exact ⟨false, rfl, fun h => by cases h⟩
  | inr o =>
    refine ⟨true, rfl, fun _ => ⟨by omega, fun x hx => ?_⟩⟩
    obtain ⟨i, hi, rfl⟩ := List.mem_iff_getElem.1 hx
    exact hQ i hi
theorem law19_GolombRepeats_eq {key : List Int} {items : List (List Int)} {a2 a3 a4 : Int} (hk : key.length = 2) (hl : items.length ≤ big) (h2 : 0 ≤ a2 ∧ a2 ≤ 255) (h3 : 0 ≤ a3 ∧ a3 ≤ 255) (h4 : 0 ≤ a4 ∧ a4 ≤ 65535) :
    law19_GolombRepeats key items a2 a3 a4 = some ((true, ()), ()) := by
  unfold law19_GolombRepeats
  rw [law19_sane_eq]
  simp only [Option.bind_some]
  rw [bif_f (by rfl)]
  obtain ⟨b, hb1, hb2⟩ := items_some hl
  rw [hb1]
  simp only [Option.bind_some]
  cases b with
  | false => rfl
  | true =>
    obtain ⟨hn, hx⟩ := hb2 rfl
    rw [bif_f (by rfl)]
    by_cases c0 : (items.length : Int) = 0
    · rw [bif_t (decide_eq_true c0)]
    rw [bif_f (decide_eq_false c0), bif_f (decide_eq_false c0)]
    have w1 : IntKind.i64.wrap (1 + IntKind.i64.wrap (Int.tmod a3 20)) = 1 + a3 % 20 := by
      rw [tmod_nn h3.1, IntWalk.i64_in (a3 % 20) (by omega), IntWalk.i64_in _ (by omega)]
    have w2 : IntKind.u64.wrap (1 + IntKind.u64.wrap a4) = 1 + a4 := by
      rw [wrap_un (k := .u64) (n := a4) rfl h4.1 (by simp only [IntKind.bits]; omega), wrap_un (k := .u64) rfl (by omega) (by simp only [IntKind.bits]; omega)]
    have w3 : Int.tmod (IntKind.i64.wrap a2) (items.length : Int) = ((a2.toNat % items.length : Nat) : Int) := by
      rw [IntWalk.i64_in a2 (by omega), tmod_nn h2.1]
      obtain ⟨n, rfl⟩ := Int.eq_ofNat_of_zero_le h2.1
      simp
    rw [w1, w2, w3]
    have hlt : a2.toNat % items.length < items.length := Nat.mod_lt _ (by omega)
    generalize a2.toNat % items.length = k at *
    have s1 : sub items k (items.length - k) = items.drop k := by unfold sub; rw [List.take_of_length_le (by rw [List.length_drop]; omega)]
    have s2 : sub items 0 k = items.take k := by unfold sub; simp
    have hc : (decide (0 ≤ (k : Int)) && decide ((k : Int) ≤ (items.length : Int))) = true := by simp only [Bool.and_eq_true, decide_eq_true_eq]; omega
    have hlen : (items.drop k ++ items ++ items.take k).length ≤ 49 := by simp only [List.length_append, List.length_drop, List.length_take]; omega
    obtain ⟨r, r1, r2⟩ := build_same (p := 1 + a3 % 20) (m := 1 + a4) (items' := items.drop k ++ items ++ items.take k) hk (fun x h => Nat.le_trans (hx x h) (by omega)) (by omega) hlen (fun x => by
      rw [List.mem_append, List.mem_append]
      constructor
      · exact fun h => .inl (.inr h)
      · rintro ((h | h) | h)
        · exact List.mem_of_mem_drop h
        · exact h
        · exact List.mem_of_mem_take h) (by omega) (by omega)
    rw [r1]
    simp only [Option.bind_some, hc, cond_true, Int.toNat_natCast, s1, s2]
    rw [bif_t (by rw [List.length_drop]; unfold lim; exact decide_eq_true (by omega)), bif_t (by rw [List.length_drop]; unfold lim; exact decide_eq_true (by omega)), bif_t (by rw [List.length_append, List.length_drop, List.length_take]; unfold lim; exact decide_eq_true (by omega)), r2]
    simp only [Option.bind_some]
    rw [bif_t (by simp)]
    unfold ref19_Same
    rw [bif_t (by simp), ref01_Same_eq]
    simp
theorem golombRepeats_pure (xs : TT.dens (holes [.arr 2 (.int .u64), .slice (.slice (.int .u8)), .int .u8, .int .u8, .int .u16])) (h : WfAll [.arr 2 (.int .u64), .slice (.slice (.int .u8)), .int .u8, .int .u8, .int .u16] xs) :
    law19_GolombRepeats xs.1 xs.2.1 xs.2.2.1 xs.2.2.2.1 xs.2.2.2.2.1 = some ((true, ()), ()) :=
  law19_GolombRepeats_eq h.1.1 h.2.1.1 (Wf.u8 h.2.2.1) (Wf.u8 h.2.2.2.1) (Wf.u16 h.2.2.2.2.1)
end Go.PE
end
