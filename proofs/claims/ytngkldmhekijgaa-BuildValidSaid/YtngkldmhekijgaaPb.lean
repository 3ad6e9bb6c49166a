/- What the printed functions of the program are, and the plain law; conditions stand in each statement. -/
import Derived.Test.YtngkldmhekijgaaPa
import Derived.Test.YtngkldmhekijgaaQc
import Derived.KernelRfl
section
namespace Go.PE
set_option linter.unusedSimpArgs false
set_option linter.unusedVariables false
/-- A number's low bytes, the lowest first. -/
def le (v n : Nat) : List Int := (List.range n).map fun i => ((v / 256 ^ i % 256 : Nat) : Int)
theorem le_len {v n : Nat} : (le v n).length = n := by simp [le]
theorem le_up {v i : Nat} : le v (i + 1) = le v i ++ [((v / 256 ^ i % 256 : Nat) : Int)] := by simp [le, List.range_succ]
theorem le_byte {v i : Nat} (hv : v < 2 ^ 64) (hi : i < 8) : IntKind.u8.wrap (shrI .u64 (v : Int) ((8 * i : Nat) : Int)) = ((v / 256 ^ i % 256 : Nat) : Int) := by
  rw [shr_un (by omega) (by simp [IntKind.bits]; omega), wrap_un_mod rfl]
  simp only [Int.toNat_natCast, Nat.shiftRight_eq_div_pow, IntKind.bits, Nat.pow_mul]
  simp
theorem put_step {i : Nat} (hi : i < 8) : IntKind.i64.wrap ((8 : Int) * (i : Int)) = ((8 * i : Nat) : Int) := by
  rw [IntWalk.i64_in _ (by omega)]; simp
theorem lim_eq : lim = 1073741824 := rfl
section
variable {a : List Int} {v n : Nat}
theorem codec_put_uint64_eq (hv : v < 2 ^ 64) (hn : n ≤ 8) (hl : a.length + n ≤ lim) : codec_put_uint64 a (v : Int) (n : Int) = some (((), ()), (a ++ le v n, ())) := by
  unfold codec_put_uint64
  rw [lim_eq] at hl
  rw [IntWalk.i64_in _ (by omega)]
  have h1 : ((0 : Int) ≤ (a.length : Int) + (n : Int)) := by omega
  have h2 : ((a.length : Int) + (n : Int) ≤ ((lim : Nat) : Int)) := by rw [lim_eq]; omega
  have h3 : a.length ≤ lim := by rw [lim_eq]; omega
  simp only [Int.le_refl, h1, h2, decide_true, Bool.and_self, cond_true, List.replicate_zero, List.length_nil, Nat.zero_add, h3, List.nil_append]
  rw [loopV_ind (step := codec_put_uint64_L1 (v : Int) (n : Int)) (o := (((), ()), (a ++ le v n, ()))) (fun i => (((), ((i : Int), ())), (a ++ le v i, ()))) n ?_ ?_ ?_]
  · rfl
  · simp [le]
  · intro i hi
    unfold codec_put_uint64_L1
    have h4 : ((i : Int) < (n : Int)) := by omega
    have h5 : ¬ (((8 * i : Nat) : Int) < 0) := by omega
    have h6 : a.length + i + 1 ≤ lim := by rw [lim_eq]; omega
    have h7 := put_step (show i < 8 by omega)
    simp only [h4, decide_true, cond_true]
    simp only [h7, h5, decide_false, cond_false, le_byte hv (show i < 8 by omega), i64_up hi (show n ≤ big from Nat.le_trans hn (by decide)), List.length_append, le_len, List.length_singleton, h6, le_up, List.append_assoc, decide_true, cond_true]
  · simp [codec_put_uint64_L1]
end
theorem codec_put_uint8_eq {a : List Int} {v n : Nat} (hv : v < 2 ^ 8) (hn : n ≤ 8) (hl : a.length + n ≤ lim) : codec_put_uint8 a (v : Int) (n : Int) = some (((), ()), (a ++ le v n, ())) := by
  unfold codec_put_uint8
  have hv64 : v < 2 ^ 64 := by omega
  rw [lim_eq] at hl
  rw [IntWalk.i64_in _ (by omega)]
  have h1 : ((0 : Int) ≤ (a.length : Int) + (n : Int)) := by omega
  have h2 : ((a.length : Int) + (n : Int) ≤ ((lim : Nat) : Int)) := by rw [lim_eq]; omega
  have h3 : a.length ≤ lim := by rw [lim_eq]; omega
  have hw : IntKind.u64.wrap (v : Int) = (v : Int) := wrap_un rfl (by omega) (by simp [IntKind.bits]; omega)
  simp only [Int.le_refl, h1, h2, decide_true, Bool.and_self, cond_true, List.replicate_zero, List.length_nil, Nat.zero_add, h3, List.nil_append]
  rw [loopV_ind (step := codec_put_uint8_L1 (v : Int) (n : Int)) (o := (((), ()), (a ++ le v n, ()))) (fun i => (((), ((i : Int), ())), (a ++ le v i, ()))) n ?_ ?_ ?_]
  · rfl
  · simp [le]
  · intro i hi
    unfold codec_put_uint8_L1
    have h4 : ((i : Int) < (n : Int)) := by omega
    have h5 : ¬ (((8 * i : Nat) : Int) < 0) := by omega
    have h6 : a.length + i + 1 ≤ lim := by rw [lim_eq]; omega
    have h7 := put_step (show i < 8 by omega)
    simp only [h4, decide_true, cond_true]
    simp only [h7, h5, decide_false, cond_false, hw, le_byte hv64 (show i < 8 by omega), i64_up hi (show n ≤ big from Nat.le_trans hn (by decide)), List.length_append, le_len, List.length_singleton, h6, le_up, List.append_assoc, decide_true, cond_true]
  · simp [codec_put_uint8_L1]
theorem codec_put_uint16_eq {a : List Int} {v n : Nat} (hv : v < 2 ^ 16) (hn : n ≤ 8) (hl : a.length + n ≤ lim) : codec_put_uint16 a (v : Int) (n : Int) = some (((), ()), (a ++ le v n, ())) := by
  unfold codec_put_uint16
  have hv64 : v < 2 ^ 64 := by omega
  rw [lim_eq] at hl
  rw [IntWalk.i64_in _ (by omega)]
  have h1 : ((0 : Int) ≤ (a.length : Int) + (n : Int)) := by omega
  have h2 : ((a.length : Int) + (n : Int) ≤ ((lim : Nat) : Int)) := by rw [lim_eq]; omega
  have h3 : a.length ≤ lim := by rw [lim_eq]; omega
  have hw : IntKind.u64.wrap (v : Int) = (v : Int) := wrap_un rfl (by omega) (by simp [IntKind.bits]; omega)
  simp only [Int.le_refl, h1, h2, decide_true, Bool.and_self, cond_true, List.replicate_zero, List.length_nil, Nat.zero_add, h3, List.nil_append]
  rw [loopV_ind (step := codec_put_uint16_L1 (v : Int) (n : Int)) (o := (((), ()), (a ++ le v n, ()))) (fun i => (((), ((i : Int), ())), (a ++ le v i, ()))) n ?_ ?_ ?_]
  · rfl
  · simp [le]
  · intro i hi
    unfold codec_put_uint16_L1
    have h4 : ((i : Int) < (n : Int)) := by omega
    have h5 : ¬ (((8 * i : Nat) : Int) < 0) := by omega
    have h6 : a.length + i + 1 ≤ lim := by rw [lim_eq]; omega
    have h7 := put_step (show i < 8 by omega)
    simp only [h4, decide_true, cond_true]
    simp only [h7, h5, decide_false, cond_false, hw, le_byte hv64 (show i < 8 by omega), i64_up hi (show n ≤ big from Nat.le_trans hn (by decide)), List.length_append, le_len, List.length_singleton, h6, le_up, List.append_assoc, decide_true, cond_true]
  · simp [codec_put_uint16_L1]
theorem codec_put_uint32_eq {a : List Int} {v n : Nat} (hv : v < 2 ^ 32) (hn : n ≤ 8) (hl : a.length + n ≤ lim) : codec_put_uint32 a (v : Int) (n : Int) = some (((), ()), (a ++ le v n, ())) := by
  unfold codec_put_uint32
  have hv64 : v < 2 ^ 64 := by omega
  rw [lim_eq] at hl
  rw [IntWalk.i64_in _ (by omega)]
  have h1 : ((0 : Int) ≤ (a.length : Int) + (n : Int)) := by omega
  have h2 : ((a.length : Int) + (n : Int) ≤ ((lim : Nat) : Int)) := by rw [lim_eq]; omega
  have h3 : a.length ≤ lim := by rw [lim_eq]; omega
  have hw : IntKind.u64.wrap (v : Int) = (v : Int) := wrap_un rfl (by omega) (by simp [IntKind.bits]; omega)
  simp only [Int.le_refl, h1, h2, decide_true, Bool.and_self, cond_true, List.replicate_zero, List.length_nil, Nat.zero_add, h3, List.nil_append]
  rw [loopV_ind (step := codec_put_uint32_L1 (v : Int) (n : Int)) (o := (((), ()), (a ++ le v n, ()))) (fun i => (((), ((i : Int), ())), (a ++ le v i, ()))) n ?_ ?_ ?_]
  · rfl
  · simp [le]
  · intro i hi
    unfold codec_put_uint32_L1
    have h4 : ((i : Int) < (n : Int)) := by omega
    have h5 : ¬ (((8 * i : Nat) : Int) < 0) := by omega
    have h6 : a.length + i + 1 ≤ lim := by rw [lim_eq]; omega
    have h7 := put_step (show i < 8 by omega)
    simp only [h4, decide_true, cond_true]
    simp only [h7, h5, decide_false, cond_false, hw, le_byte hv64 (show i < 8 by omega), i64_up hi (show n ≤ big from Nat.le_trans hn (by decide)), List.length_append, le_len, List.length_singleton, h6, le_up, List.append_assoc, decide_true, cond_true]
  · simp [codec_put_uint32_L1]
/-- A length's text. -/
def sizeV (v : Nat) : List Int := if v < 253 then le v 1 else if v < 65536 then 253 :: le v 2 else if v < 4294967296 then 254 :: le v 4 else 255 :: le v 8
theorem sizeV_len {v : Nat} : 1 ≤ (sizeV v).length ∧ (sizeV v).length ≤ 9 := by
  unfold sizeV
  split
  · simp [le_len]
  · split
    · simp [le_len]
    · split <;> simp [le_len]
section
variable {a : List Int} {v : Nat}
theorem codec_AppendU32_eq (hv : v < 2 ^ 32) (hl : a.length + 4 ≤ lim) : codec_AppendU32 a (v : Int) = some (((), ()), (a ++ le v 4, ())) := by
  unfold codec_AppendU32
  rw [show (4 : Int) = ((4 : Nat) : Int) from rfl, codec_put_uint32_eq hv (by omega) hl]; rfl
theorem codec_AppendU64_eq (hv : v < 2 ^ 64) (hl : a.length + 8 ≤ lim) : codec_AppendU64 a (v : Int) = some (((), ()), (a ++ le v 8, ())) := by
  unfold codec_AppendU64
  rw [show (8 : Int) = ((8 : Nat) : Int) from rfl, codec_put_uint64_eq hv (by omega) hl]; rfl
theorem byte1 (hl : a.length + 9 ≤ lim) (c : Nat) (hc : c < 256) : codec_put_uint8 a (c : Int) 1 = some (((), ()), (a ++ [(c : Int)], ())) := by
  rw [show (1 : Int) = ((1 : Nat) : Int) from rfl, codec_put_uint8_eq (by omega) (by omega) (by omega)]
  rw [show le c 1 = [(c : Int)] by simp only [le, List.range_one, List.map_cons, List.map_nil, Nat.pow_zero, Nat.div_one, Nat.mod_eq_of_lt hc]]
theorem size1 (h : v < 253) (hl : a.length + 9 ≤ lim) : codec_put_uint8 a (IntKind.u8.wrap (v : Int)) 1 = some (((), ()), (a ++ le v 1, ())) := by
  rw [wrap_un rfl (by omega) (by simp only [IntKind.bits]; omega), show (1 : Int) = ((1 : Nat) : Int) from rfl, codec_put_uint8_eq (by omega) (by omega) (by omega)]
theorem size2 (h : v < 65536) (hl : a.length + 9 ≤ lim) : codec_put_uint16 (a ++ [253]) (IntKind.u16.wrap (v : Int)) 2 = some (((), ()), (a ++ 253 :: le v 2, ())) := by
  have h2 : (a ++ [(253 : Int)]).length + 2 ≤ lim := by rw [List.length_append, List.length_singleton]; omega
  rw [wrap_un rfl (by omega) (by simp only [IntKind.bits]; omega), show (2 : Int) = ((2 : Nat) : Int) from rfl, codec_put_uint16_eq (by omega) (by omega) h2, List.append_assoc]; rfl
theorem size4 (h : v < 4294967296) (hl : a.length + 9 ≤ lim) : codec_put_uint32 (a ++ [254]) (IntKind.u32.wrap (v : Int)) 4 = some (((), ()), (a ++ 254 :: le v 4, ())) := by
  have h2 : (a ++ [(254 : Int)]).length + 4 ≤ lim := by rw [List.length_append, List.length_singleton]; omega
  rw [wrap_un rfl (by omega) (by simp only [IntKind.bits]; omega), show (4 : Int) = ((4 : Nat) : Int) from rfl, codec_put_uint32_eq (by omega) (by omega) h2, List.append_assoc]; rfl
theorem size8 (h : v < 2 ^ 64) (hl : a.length + 9 ≤ lim) : codec_put_uint64 (a ++ [255]) (v : Int) 8 = some (((), ()), (a ++ 255 :: le v 8, ())) := by
  have h2 : (a ++ [(255 : Int)]).length + 8 ≤ lim := by rw [List.length_append, List.length_singleton]; omega
  rw [show (8 : Int) = ((8 : Nat) : Int) from rfl, codec_put_uint64_eq h (by omega) h2, List.append_assoc]; rfl
theorem lt_dec {v c : Nat} : decide ((v : Int) < (c : Int)) = decide (v < c) := by simp
theorem codec_AppendSize_eq (hv : v < 2 ^ 64) (hl : a.length + 9 ≤ lim) : codec_AppendSize a (v : Int) = some (((), ()), (a ++ sizeV v, ())) := by
  unfold codec_AppendSize sizeV
  rw [show (253 : Int) = ((253 : Nat) : Int) from rfl, show (254 : Int) = ((254 : Nat) : Int) from rfl, show (255 : Int) = ((255 : Nat) : Int) from rfl, show (65536 : Int) = ((65536 : Nat) : Int) from rfl, show (4294967296 : Int) = ((4294967296 : Nat) : Int) from rfl, lt_dec, lt_dec, lt_dec, byte1 hl 253 (by omega), byte1 hl 254 (by omega), byte1 hl 255 (by omega)]
  by_cases h1 : v < 253
  · rw [if_pos h1, bif_t (decide_eq_true h1), size1 h1 hl]; rfl
  · rw [if_neg h1, bif_f (decide_eq_false h1)]
    by_cases h2 : v < 65536
    · rw [if_pos h2, bif_t (decide_eq_true h2), Option.bind_some]
      rw [show (((253 : Nat) : Int)) = 253 from rfl, size2 h2 hl]; rfl
    · rw [if_neg h2, bif_f (decide_eq_false h2)]
      by_cases h3 : v < 4294967296
      · rw [if_pos h3, bif_t (decide_eq_true h3), Option.bind_some]
        rw [show (((254 : Nat) : Int)) = 254 from rfl, size4 h3 hl]; rfl
      · rw [if_neg h3, bif_f (decide_eq_false h3), Option.bind_some]
        rw [show (((255 : Nat) : Int)) = 255 from rfl, size8 hv hl]; rfl
theorem codec_AppendHash_eq {h : List Int} (hh : h.length = 32) (hl : a.length + 32 ≤ lim) : codec_AppendHash a h = some (((), ()), (a ++ h, ())) := by
  unfold codec_AppendHash
  have hl' := hl
  rw [lim_eq] at hl
  rw [IntWalk.i64_in _ (by omega)]
  have h1 : ((0 : Int) ≤ (a.length : Int) + 32) := by omega
  have h2 : ((a.length : Int) + 32 ≤ ((lim : Nat) : Int)) := by rw [lim_eq]; omega
  have h3 : a.length ≤ lim := by rw [lim_eq]; omega
  have h4 : sub h 0 32 = h := by unfold sub; rw [List.drop_zero, List.take_of_length_le (by omega)]
  have h5 : a.length + h.length ≤ lim := by rw [hh]; exact hl'
  simp only [Int.le_refl, h1, h2, decide_true, Bool.and_self, cond_true, List.replicate_zero, List.length_nil, Nat.zero_add, h3, List.nil_append, h4, h5]
theorem codec_AppendBytes_eq {b : List Int} (hl : a.length + 9 + b.length ≤ lim) : codec_AppendBytes a b = some (((), ()), (a ++ (sizeV b.length ++ b), ())) := by
  unfold codec_AppendBytes
  have hl' := hl
  rw [lim_eq] at hl
  rw [wrap_un rfl (by omega) (by simp [IntKind.bits]; omega), codec_AppendSize_eq (by omega) (by omega)]
  simp only [Option.bind_some]
  have := @sizeV_len b.length
  have h1 : (a ++ sizeV b.length).length + b.length ≤ lim := by rw [List.length_append, lim_eq]; omega
  simp only [h1, decide_true, cond_true, List.append_assoc]
end
end Go.PE
end

section
namespace Go.PE
set_option linter.unusedSimpArgs false
set_option linter.unusedVariables false
theorem take_up' {α : Type} {xs : List α} {i : Nat} (h : i < xs.length) : xs.take (i + 1) = xs.take i ++ [xs[i]] := by simp
theorem all_rd {t : Ty} {xs : List t.den} {f : t.den → Bool} : xs.all f = true ↔ ∀ i, i < xs.length → f (rd t xs (i : Int)) = true := by
  rw [List.all_eq_true]
  constructor
  · intro h i hi; rw [rd_in hi]; exact h _ (List.getElem_mem hi)
  · intro h x hx; obtain ⟨i, hi, rfl⟩ := List.getElem_of_mem hx; rw [← rd_in hi]; exact h i hi
theorem loopV_app {σ ω α : Type} {step : σ → Option (σ ⊕ ω)} (xs : List α) (g : α → List Int) (mk : Nat → List Int → σ) (fin : List Int → ω) (acc : List Int) {v : σ} (hv : v = mk 0 acc)
    (hs : ∀ i (hi : i < xs.length), step (mk i (acc ++ (xs.take i).flatMap g)) = some (.inl (mk (i + 1) (acc ++ (xs.take i).flatMap g ++ g xs[i]))))
    (he : step (mk xs.length (acc ++ xs.flatMap g)) = some (.inr (fin (acc ++ xs.flatMap g)))) : loopV step v = some (fin (acc ++ xs.flatMap g)) := by
  refine loopV_ind (fun i => mk i (acc ++ (xs.take i).flatMap g)) xs.length (by simpa using hv) (fun i hi => ?_) (by simpa using he)
  rw [hs i hi, take_up' hi, List.flatMap_append]; simp [List.append_assoc]
theorem flat_len {α : Type} {g : α → List Int} {B : Nat} : ∀ {xs : List α}, (∀ x ∈ xs, (g x).length ≤ B) → (xs.flatMap g).length ≤ xs.length * B := by
  intro xs
  induction xs with
  | nil => intro _; simp
  | cons x xs ih =>
    intro h
    rw [List.flatMap_cons, List.length_append, List.length_cons, Nat.add_mul, Nat.one_mul]
    have := h x (by simp)
    have := ih fun y hy => h y (by simp [hy])
    omega
theorem flat_take {α : Type} {g : α → List Int} {B N i : Nat} {xs : List α} (hn : xs.length ≤ N) (h : ∀ x ∈ xs, (g x).length ≤ B) : ((xs.take i).flatMap g).length ≤ N * B := by
  refine Nat.le_trans (flat_len fun x hx => h x (List.mem_of_mem_take hx)) (Nat.mul_le_mul_right _ ?_)
  rw [List.length_take]; omega
theorem u32_nat {x : Int} (h : 0 ≤ x ∧ x ≤ 4294967295) : ((x.toNat : Nat) : Int) = x ∧ x.toNat < 2 ^ 32 := by omega
/-! ### what it writes -/
def inV (x : D_089d) : List Int := x.1.1 ++ (le x.1.2.1.toNat 4 ++ le x.2.1.toNat 4)
def outV (o : D_b101) : List Int := le o.1.toNat 8 ++ (sizeV o.2.1.length ++ o.2.1)
def itemV (b : List Int) : List Int := sizeV b.length ++ b
def witV (x : D_089d) : List Int := sizeV x.2.2.1.length ++ x.2.2.1.flatMap itemV
def bareV (t : D_8f0a) : List Int := le t.1.toNat 4 ++ (sizeV t.2.1.length ++ (t.2.1.flatMap inV ++ (sizeV t.2.2.1.length ++ (t.2.2.1.flatMap outV ++ le t.2.2.2.1.toNat 4))))
def encV (t : D_8f0a) (w : Bool) : List Int := bareV t ++ (if w = true then t.2.1.flatMap witV else [])
def outOk (o : D_b101) : Bool := !decide (o.1 < 0) && decide (o.2.1.length ≤ 520)
def itemOk (b : List Int) : Bool := decide (b.length ≤ 520)
def inOk (x : D_089d) : Bool := decide (x.2.2.1.length ≤ 32) && x.2.2.1.all itemOk
def smallB (t : D_8f0a) : Bool := decide (t.2.1.length ≤ 64) && (decide (t.2.2.1.length ≤ 64) && (t.2.2.1.all outOk && t.2.1.all inOk))
theorem big_le : (big : Nat) = 9223372036854775807 := rfl
theorem tx_small_L3_eq {xs : List (List Int)} (hl : xs.length ≤ 32) : loopV (tx_small_L3 xs (xs.length : Int)) (((0 : Int), ()), ()) = some (bif xs.all itemOk then .inr ((), ()) else .inl ((false, ()), ())) := by
  refine loopV_all (fun i => (((i : Int), ()), ())) xs.length (fun i => itemOk (rd (.slice (.int .u8)) xs (i : Int))) rfl (all_rd (t := .slice (.int .u8))) (fun i hi => ?_) (by simp [tx_small_L3])
  unfold tx_small_L3
  have h1 : ((i : Int) < (xs.length : Int)) := by omega
  simp only [h1, decide_true, cond_true, inb_nat hi, i64_up hi (show xs.length ≤ big by rw [big_le]; omega)]
  generalize hb : rd (.slice (.int .u8)) xs (i : Int) = b
  have hb : List Int := b
  by_cases hc : 520 < (List.length b : Int)
  · have : ¬ List.length b ≤ 520 := by omega
    simp [itemOk, hc, this]
  · have : List.length b ≤ 520 := by omega
    simp [itemOk, hc, this]
theorem tx_small_eq {t : D_8f0a} : tx_small t = some ((smallB t, ()), ()) := by
  unfold tx_small
  by_cases h1 : 64 < (t.2.1.length : Int)
  · have : ¬ t.2.1.length ≤ 64 := by omega
    simp [h1, smallB, this]
  · by_cases h2 : 64 < (t.2.2.1.length : Int)
    · have : ¬ t.2.2.1.length ≤ 64 := by omega
      simp [h1, h2, smallB, this]
    · have h1' : t.2.1.length ≤ 64 := by omega
      have h2' : t.2.2.1.length ≤ 64 := by omega
      simp only [h1, h2, decide_false, cond_false]
      rw [loopV_all (step := tx_small_L1 t.2.2.1 (t.2.2.1.length : Int)) (fun i => (((), ((i : Int), ())), (t, ()))) t.2.2.1.length (fun i => outOk (rd T_b101 t.2.2.1 (i : Int))) (bad := .inl ((false, ()), ())) (good := .inr (((), ()), (t, ()))) (b := t.2.2.1.all outOk) ?_ (all_rd (t := T_b101)) ?_ ?_]
      · cases ho : t.2.2.1.all outOk with
        | false => simp [smallB, ho]
        | true =>
          simp only [cond_true, Option.bind_some]
          rw [loopV_all (step := tx_small_L2 t.2.1 (t.2.1.length : Int)) (fun i => (((i : Int), ()), ())) t.2.1.length (fun i => inOk (rd T_089d t.2.1 (i : Int))) (bad := .inl ((false, ()), ())) (good := .inr ((), ())) (b := t.2.1.all inOk) ?_ (all_rd (t := T_089d)) ?_ ?_]
          · cases hi : t.2.1.all inOk <;> simp [smallB, ho, hi, h1', h2']
          · rfl
          · intro i hi
            unfold tx_small_L2
            have h1 : ((i : Int) < (t.2.1.length : Int)) := by omega
            simp only [h1, decide_true, cond_true, inb_nat hi, i64_up hi (show t.2.1.length ≤ big by rw [big_le]; omega)]
            generalize (rd T_089d t.2.1 (i : Int)) = x
            have hx : D_089d := x
            by_cases hc : 32 < (List.length x.2.2.1 : Int)
            · have : ¬ List.length x.2.2.1 ≤ 32 := by omega
              simp [inOk, hc, this]
            · have h32 : List.length x.2.2.1 ≤ 32 := by omega
              simp only [hc, decide_false, cond_false]
              rw [tx_small_L3_eq h32]
              cases ha : List.all x.2.2.1 itemOk <;> simp [inOk, h32, ha]
          · simp [tx_small_L2]
      · rfl
      · intro i hi
        unfold tx_small_L1
        have h1 : ((i : Int) < (t.2.2.1.length : Int)) := by omega
        simp only [h1, decide_true, cond_true, inb_nat hi, i64_up hi (show t.2.2.1.length ≤ big by rw [big_le]; omega)]
        generalize (rd T_b101 t.2.2.1 (i : Int)) = x
        by_cases hc : x.1 < (0 : Int)
        · simp [outOk, hc]
        · by_cases hd : 520 < (List.length x.2.1 : Int)
          · have : ¬ List.length x.2.1 ≤ 520 := by omega
            simp [outOk, hc, hd, this]
          · have : List.length x.2.1 ≤ 520 := by omega
            simp [outOk, hc, hd, this]
      · simp [tx_small_L1]
end Go.PE
end

section
namespace Go.PE
set_option linter.unusedSimpArgs false
set_option linter.unusedVariables false
theorem le_int {x : Int} {n : Nat} (h : 0 ≤ x) : ((x.toNat : Nat) : Int) = x := by omega
section
variable {a : List Int} {x : Int}
theorem AppendU32_int (h : 0 ≤ x ∧ x ≤ 4294967295) (hl : a.length + 4 ≤ lim) : codec_AppendU32 a x = some (((), ()), (a ++ le x.toNat 4, ())) := by
  have := codec_AppendU32_eq (a := a) (v := x.toNat) (by omega) hl
  rwa [(u32_nat h).1] at this
theorem AppendU64_int (h : 0 ≤ x ∧ x < 2 ^ 64) (hl : a.length + 8 ≤ lim) : codec_AppendU64 a x = some (((), ()), (a ++ le x.toNat 8, ())) := by
  have := codec_AppendU64_eq (a := a) (v := x.toNat) (by omega) hl
  rwa [show ((x.toNat : Nat) : Int) = x by omega] at this
theorem AppendSize_len {α : Type} {b : List α} (hb : b.length ≤ big) (hl : a.length + 9 ≤ lim) : codec_AppendSize a (IntKind.u64.wrap (b.length : Int)) = some (((), ()), (a ++ sizeV b.length, ())) := by
  rw [big_le] at hb
  rw [wrap_un rfl (by omega) (by simp only [IntKind.bits]; omega)]
  exact codec_AppendSize_eq (by omega) hl
end
theorem tx_Point_eq {p : D_b85e} (h1 : p.1.length = 32) (h2 : 0 ≤ p.2.1 ∧ p.2.1 ≤ 4294967295) : tx_Point p = some (((), ()), (p.1 ++ le p.2.1.toNat 4, ())) := by
  unfold tx_Point
  rw [codec_AppendHash_eq h1 (by simp [lim])]
  simp only [Option.bind_some, List.nil_append]
  rw [AppendU32_int h2 (by rw [h1, lim_eq]; omega)]; rfl
theorem inV_len {x : D_089d} (h : x.1.1.length = 32) : (inV x).length = 40 := by simp [inV, le_len, h]
theorem outV_len {o : D_b101} (h : outOk o = true) : (outV o).length ≤ 537 := by
  have := @sizeV_len o.2.1.length
  simp only [outOk, Bool.and_eq_true, decide_eq_true_eq] at h
  simp only [outV, List.length_append, le_len]; omega
theorem itemV_len {b : List Int} (h : itemOk b = true) : (itemV b).length ≤ 529 := by
  have := @sizeV_len b.length
  simp only [itemOk, decide_eq_true_eq] at h
  simp only [itemV, List.length_append]; omega
theorem witV_len {x : D_089d} (h : inOk x = true) : (witV x).length ≤ 16937 := by
  have := @sizeV_len x.2.2.1.length
  simp only [inOk, Bool.and_eq_true, decide_eq_true_eq, List.all_eq_true] at h
  have h1 := flat_len (g := itemV) (B := 529) (xs := x.2.2.1) fun b hb => itemV_len (h.2 b hb)
  have h2 : x.2.2.1.length * 529 ≤ 32 * 529 := Nat.mul_le_mul_right _ h.1
  have h3 : (witV x).length = (sizeV x.2.2.1.length).length + (x.2.2.1.flatMap itemV).length := by simp [witV]
  omega
/-- What a transaction of a claim keeps. -/
structure TxOk (t : D_8f0a) : Prop where
  ver : 0 ≤ t.1 ∧ t.1 ≤ 4294967295
  lock : 0 ≤ t.2.2.2.1 ∧ t.2.2.2.1 ≤ 4294967295
  ins : ∀ x ∈ t.2.1, x.1.1.length = 32 ∧ (0 ≤ x.1.2.1 ∧ x.1.2.1 ≤ 4294967295) ∧ 0 ≤ x.2.1 ∧ x.2.1 ≤ 4294967295
  outs : ∀ o ∈ t.2.2.1, o.1 ≤ 9223372036854775807
theorem txOk_of {t : D_8f0a} (h : Ty.Wf T_8f0a t) : TxOk t where
  ver := Wf.u32 h.1
  lock := Wf.u32 h.2.2.2.1
  ins := fun x hx => by
    have := h.2.1.2 x hx
    exact ⟨this.1.1.1, Wf.u32 this.1.2.1, Wf.u32 this.2.1⟩
  outs := fun o ho => (Wf.i64 (h.2.2.1.2 o ho).1).2
theorem smallB_iff {t : D_8f0a} : smallB t = true ↔ t.2.1.length ≤ 64 ∧ t.2.2.1.length ≤ 64 ∧ (∀ o ∈ t.2.2.1, outOk o = true) ∧ ∀ x ∈ t.2.1, inOk x = true := by
  simp only [smallB, Bool.and_eq_true, decide_eq_true_eq, List.all_eq_true]
theorem tx_encode_L4_eq {acc : List Int} {xs : List (List Int)} (hl : xs.length ≤ 32) (ho : ∀ b ∈ xs, itemOk b = true) (ha : acc.length + 20000 ≤ lim) :
    loopV (tx_encode_L4 xs (xs.length : Int)) (((), ((0 : Int), ())), (acc, ())) = some (((), ()), (acc ++ xs.flatMap itemV, ())) := by
  refine loopV_app xs itemV (fun i a => (((), ((i : Int), ())), (a, ()))) (fun a => (((), ()), (a, ()))) acc rfl (fun i hi => ?_) (by simp [tx_encode_L4])
  unfold tx_encode_L4
  have h1 : ((i : Int) < (xs.length : Int)) := by omega
  have hb := flat_take (i := i) (g := itemV) (B := 529) hl fun b hb => itemV_len (ho b hb)
  have hb2 : xs[i].length ≤ 520 := by have := ho _ (List.getElem_mem hi); simpa [itemOk] using this
  simp only [h1, decide_true, cond_true, inb_nat hi, i64_up hi (show xs.length ≤ big by rw [big_le]; omega), rd_in (t := .slice (.int .u8)) (xs := xs) hi]
  rw [codec_AppendBytes_eq (by rw [List.length_append]; omega)]
  rfl
theorem tx_encode_L3_eq {w : Bool} {acc : List Int} {xs : List D_089d} (hl : xs.length ≤ 64) (ho : ∀ x ∈ xs, inOk x = true) (ha : acc.length + 1200000 ≤ lim) :
    loopV (tx_encode_L3 w xs (xs.length : Int)) (((), ((0 : Int), ())), (acc, ())) = some (((), ()), (acc ++ (if w = true then xs.flatMap witV else []), ())) := by
  cases w with
  | false =>
    by_cases h0 : 0 < xs.length
    · refine loopV_done ?_
      have h1 : ((0 : Int) < (xs.length : Int)) := by omega
      have h2 : inb 0 xs.length = true := inb_t (by omega)
      simp [tx_encode_L3, h2, h0]
    · refine loopV_done ?_
      have h1 : ¬ ((0 : Int) < (xs.length : Int)) := by omega
      simp [tx_encode_L3, h0]
  | true =>
    simp only [if_true]
    refine loopV_app xs witV (fun i a => (((), ((i : Int), ())), (a, ()))) (fun a => (((), ()), (a, ()))) acc rfl (fun i hi => ?_) (by simp [tx_encode_L3])
    unfold tx_encode_L3
    have h1 : ((i : Int) < (xs.length : Int)) := by omega
    have hb := flat_take (i := i) (g := witV) (B := 16937) hl fun x hx => witV_len (ho x hx)
    have hx := ho _ (List.getElem_mem hi)
    simp only [inOk, Bool.and_eq_true, decide_eq_true_eq, List.all_eq_true] at hx
    have hs := @sizeV_len xs[i].2.2.1.length
    simp only [h1, decide_true, cond_true, Bool.not_true, cond_false, inb_nat hi, i64_up hi (show xs.length ≤ big by rw [big_le]; omega), rd_in (t := T_089d) (xs := xs) hi]
    rw [AppendSize_len (by rw [big_le]; omega) (by rw [List.length_append]; omega)]
    simp only [Option.bind_some]
    rw [tx_encode_L4_eq hx.1 hx.2 (by simp only [List.length_append]; omega)]
    simp [witV]
theorem tx_encode_eq {t : D_8f0a} {w : Bool} (hk : TxOk t) (hs : smallB t = true) : tx_encode t w = some (((), ()), (encV t w, ())) := by
  obtain ⟨h1, h2, h3, h4⟩ := smallB_iff.1 hs
  unfold tx_encode
  rw [AppendU32_int hk.ver (by simp [lim])]
  simp only [Option.bind_some, List.nil_append]
  have hz1 := @sizeV_len t.2.1.length
  have hz2 := @sizeV_len t.2.2.1.length
  have hi := flat_len (g := inV) (B := 40) (xs := t.2.1) fun x hx => Nat.le_of_eq (inV_len (hk.ins x hx).1)
  have hi' : t.2.1.length * 40 ≤ 64 * 40 := Nat.mul_le_mul_right _ h1
  have ho := flat_len (g := outV) (B := 537) (xs := t.2.2.1) fun x hx => outV_len (h3 x hx)
  have ho' : t.2.2.1.length * 537 ≤ 64 * 537 := Nat.mul_le_mul_right _ h2
  have hlim := lim_eq
  rw [AppendSize_len (by rw [big_le]; omega) (by rw [le_len]; omega)]
  simp only [Option.bind_some]
  rw [loopV_app (step := tx_encode_L1 t.2.1 (t.2.1.length : Int)) t.2.1 inV (fun i a => (((), ((), ((i : Int), ()))), (t, (a, ())))) (fun a => (((), ((), ())), (t, (a, ())))) (le t.1.toNat 4 ++ sizeV t.2.1.length) ?_ ?_ (by simp [tx_encode_L1])]
  · simp only [Option.bind_some]
    rw [AppendSize_len (by rw [big_le]; omega) (by simp only [List.length_append, le_len]; omega)]
    simp only [Option.bind_some]
    rw [loopV_app (step := tx_encode_L2 t.2.2.1 (t.2.2.1.length : Int)) t.2.2.1 outV (fun i a => (((), ((), ((i : Int), ()))), (t, (a, ())))) (fun a => (((), ((), ())), (t, (a, ())))) (le t.1.toNat 4 ++ sizeV t.2.1.length ++ t.2.1.flatMap inV ++ sizeV t.2.2.1.length) ?_ ?_ (by simp [tx_encode_L2])]
    · simp only [Option.bind_some]
      rw [AppendU32_int hk.lock (by simp only [List.length_append, le_len]; omega)]
      simp only [Option.bind_some]
      rw [tx_encode_L3_eq h1 h4 (by simp only [List.length_append, le_len]; omega)]
      simp [encV, bareV, List.append_assoc]
    · rfl
    · intro i hi
      unfold tx_encode_L2
      have h5 : ((i : Int) < (t.2.2.1.length : Int)) := by omega
      have hb := flat_take (i := i) (g := outV) (B := 537) h2 fun x hx => outV_len (h3 x hx)
      have ho1 := h3 _ (List.getElem_mem hi)
      have ho2 := hk.outs _ (List.getElem_mem hi)
      simp only [outOk, Bool.and_eq_true, Bool.not_eq_true', decide_eq_true_eq, decide_eq_false_iff_not] at ho1
      have hz3 := @sizeV_len t.2.2.1[i].2.1.length
      simp only [h5, decide_true, cond_true, inb_nat hi, i64_up hi (show t.2.2.1.length ≤ big by rw [big_le]; omega), rd_in (t := T_b101) (xs := t.2.2.1) hi]
      rw [wrap_un rfl (by omega) (by simp only [IntKind.bits]; omega), AppendU64_int (by omega) (by simp only [List.length_append, le_len]; omega)]
      simp only [Option.bind_some]
      rw [codec_AppendBytes_eq (by simp only [List.length_append, le_len]; omega)]
      simp [outV, List.append_assoc]
  · rfl
  · intro i hi
    unfold tx_encode_L1
    have h5 : ((i : Int) < (t.2.1.length : Int)) := by omega
    have hb := flat_take (i := i) (g := inV) (B := 40) h1 fun x hx => Nat.le_of_eq (inV_len (hk.ins x hx).1)
    obtain ⟨p1, p2, p3⟩ := hk.ins _ (List.getElem_mem hi)
    simp only [h5, decide_true, cond_true, inb_nat hi, i64_up hi (show t.2.1.length ≤ big by rw [big_le]; omega), rd_in (t := T_089d) (xs := t.2.1) hi]
    rw [tx_Point_eq p1 p2]
    have h6 : (le t.1.toNat 4 ++ sizeV t.2.1.length ++ (t.2.1.take i).flatMap inV).length + (t.2.1[i].1.1 ++ le t.2.1[i].1.2.1.toNat 4).length ≤ lim := by simp only [List.length_append, le_len]; omega
    simp only [Option.bind_some, h6, decide_true, cond_true]
    rw [AppendU32_int p3 (by simp only [List.length_append, le_len] at h6 ⊢; omega)]
    simp [inV, List.append_assoc]
end Go.PE
end

section
namespace Go.PE
set_option linter.unusedSimpArgs false
set_option linter.unusedVariables false
abbrev EncR := (Unit × Int × Unit) × (List Int) × Unit
def EncodeV (t : D_8f0a) (w : Bool) : EncR := if smallB t = true ∧ (encV t true).length ≤ 20000 then (((), ((0 : Int), ())), (encV t w, ())) else (((), ((4 : Int), ())), (([] : List Int), ()))
theorem tx_Encode_eq {t : D_8f0a} {w : Bool} (hk : TxOk t) : tx_Encode t w = some (EncodeV t w) := by
  unfold tx_Encode EncodeV
  rw [tx_small_eq]
  simp only [Option.bind_some]
  cases hs : smallB t with
  | false => simp
  | true =>
    simp only [Bool.not_true, cond_false]
    rw [tx_encode_eq hk hs, tx_encode_eq hk hs]
    simp only [Option.bind_some]
    by_cases hc : 20000 < ((encV t true).length : Int)
    · have : ¬ (encV t true).length ≤ 20000 := by omega
      simp [hc, this]
    · have : (encV t true).length ≤ 20000 := by omega
      cases w <;> simp [hc, this]
theorem tx_Weight_eq {t : D_8f0a} (hk : TxOk t) : tx_Weight t = some ((if smallB t = true ∧ (encV t true).length ≤ 20000 then 3 * ((encV t false).length : Int) + (encV t true).length else 0, ()), ()) := by
  unfold tx_Weight
  rw [tx_Encode_eq hk]
  simp only [Option.bind_some, EncodeV]
  by_cases hc : smallB t = true ∧ (encV t true).length ≤ 20000
  · rw [if_pos hc, if_pos hc, tx_encode_eq hk hc.1]
    have hle : (encV t false).length ≤ (encV t true).length := by simp [encV]
    simp only [Option.bind_some, decide_true, Bool.not_true, cond_false]
    rw [IntWalk.i64_in (3 * _) (by omega), IntWalk.i64_in _ (by omega)]
  · rw [if_neg hc, if_neg hc]; simp
end Go.PE
end

section
namespace Go.PE
set_option linter.unusedSimpArgs false
theorem ref01_joined_eq {a b : List Int} (h : a.length + b.length ≤ lim) : ref01_joined a b = some (((), ()), (a ++ b, ())) := by
  have h' := h
  unfold lim at h'
  simp only [ref01_joined, IntWalk.i64_in ((a.length : Int) + (b.length : Int)) (by omega)]
  rw [bif_t (by simp; constructor <;> omega), bif_t (by simp; omega), bif_t (by simp; omega)]
  simp
theorem flatten_take_succ {ls : List (List Int)} {i : Nat} (h : i < ls.length) : (ls.take (i + 1)).flatten = (ls.take i).flatten ++ ls[i] := by
  rw [List.take_succ_eq_append_getElem h, List.flatten_append, List.flatten_singleton]
theorem flatten_take_le {ls : List (List Int)} : ∀ {i : Nat}, (ls.take i).flatten.length ≤ ls.flatten.length := by
  induction ls with
  | nil => intro i; simp
  | cons a ls ih => intro i; cases i with
    | zero => simp
    | succ i => have := @ih i; simp only [List.take_succ_cons, List.flatten_cons, List.length_append]; omega
theorem ref01_Same_eq {a b : List Int} : ref01_Same a b = some ((decide (a = b), ()), ()) := by
  simp [ref01_Same, eqList_int]
end Go.PE
end

section
namespace Go.PE
set_option linter.unusedSimpArgs false
set_option linter.unusedVariables false
theorem ref01_little_eq {v n : Nat} (hv : v < 2 ^ 64) (hn : n ≤ 8) : ref01_little (v : Int) (n : Int) = some (((), ()), (le v n, ())) := by
  unfold ref01_little
  have c1 : (0 : Int) ≤ (n : Int) := by omega
  have c2 : (n : Int) ≤ ((lim : Nat) : Int) := by rw [lim_eq]; omega
  simp only [c1, c2, Int.le_refl, decide_true, Bool.and_self, cond_true, Int.toNat_natCast, List.length_replicate]
  rw [loopV_ind (step := ref01_little_L1 (v : Int) (n : Int)) (o := (((), ()), (le v n, ()))) (fun i => (((), ((i : Int), ())), (le v i ++ List.replicate (n - i) 0, ()))) n ?_ ?_ ?_]
  · rfl
  · simp [le]
  · intro i hi
    unfold ref01_little_L1
    have h1 : ((i : Int) < (n : Int)) := by omega
    have h2 := put_step (show i < 8 by omega)
    have h3 : ¬ ((8 * i : Nat) : Int) < 0 := by omega
    have h4 : inb (i : Int) (le v i ++ List.replicate (n - i) (0 : Int)).length = true := inb_nat (by rw [List.length_append, le_len, List.length_replicate]; omega)
    have h5 : (le v i ++ List.replicate (n - i) (0 : Int))[i]? = some 0 := by
      rw [List.getElem?_append_right (by rw [le_len]; omega), le_len, List.getElem?_replicate_of_lt (by omega)]
    have h6 : (le v i ++ List.replicate (n - i) (0 : Int)).set i ((v / 256 ^ i % 256 : Nat) : Int) = le v (i + 1) ++ List.replicate (n - (i + 1)) 0 := by
      rw [List.set_append_right (h := by rw [le_len]; omega), le_len, le_up, Nat.sub_self]
      obtain ⟨k, hk⟩ : ∃ k, n - i = k + 1 := ⟨n - i - 1, by omega⟩
      have hk2 : n - (i + 1) = k := by omega
      rw [hk, hk2, List.replicate_succ, List.set_cons_zero, List.append_assoc]; rfl
    have hup := i64_up hi (show n ≤ big from Nat.le_trans hn (by decide))
    simp only [h1, decide_true, cond_true]
    simp only [h2, h3, decide_false, cond_false, h4, cond_true, Int.toNat_natCast, h5, Option.bind_some, hup, le_byte hv (show i < 8 by omega), h6]
  · have h1 : ¬ ((n : Int) < (n : Int)) := by omega
    simp [ref01_little_L1, h1]
theorem ref01_AppendU32_eq {a : List Int} {x : Int} (h : 0 ≤ x ∧ x ≤ 4294967295) (hl : a.length + 4 ≤ lim) : ref01_AppendU32 a x = some (((), ()), (a ++ le x.toNat 4, ())) := by
  unfold ref01_AppendU32
  have e : IntKind.u64.wrap x = ((x.toNat : Nat) : Int) := by rw [wrap_un rfl (by omega) (by simp only [IntKind.bits]; omega)]; omega
  have e2 := ref01_little_eq (v := x.toNat) (n := 4) (by omega) (by omega)
  rw [e, show (4 : Int) = ((4 : Nat) : Int) from rfl, e2]
  simp only [Option.bind_some]
  rw [ref01_joined_eq (by rw [le_len]; exact hl)]; rfl
theorem ref01_AppendHash_eq {a h : List Int} (hh : h.length = 32) (hl : a.length + 32 ≤ lim) : ref01_AppendHash a h = some (((), ()), (a ++ h, ())) := by
  unfold ref01_AppendHash
  have h4 : sub h 0 32 = h := by unfold sub; rw [List.drop_zero, List.take_of_length_le (by omega)]
  rw [h4, ref01_joined_eq (by rw [hh]; exact hl)]; rfl
end Go.PE
end

section
namespace Go.PE
set_option linter.unusedSimpArgs false
set_option linter.unusedVariables false
section
variable {a : List Int}
theorem refU64 {x : Int} (h : 0 ≤ x ∧ x < 2 ^ 64) (hl : a.length + 8 ≤ lim) : ref01_AppendU64 a x = some (((), ()), (a ++ le x.toNat 8, ())) := by
  unfold ref01_AppendU64
  have e2 := ref01_little_eq (v := x.toNat) (n := 8) (by omega) (by omega)
  rw [show ((x.toNat : Nat) : Int) = x by omega] at e2
  rw [show (8 : Int) = ((8 : Nat) : Int) from rfl, e2]
  simp only [Option.bind_some]
  rw [ref01_joined_eq (by rw [le_len]; exact hl)]; rfl
theorem ref01_AppendSize_eq {v : Nat} (hv : v < 2 ^ 64) (hl : a.length + 9 ≤ lim) : ref01_AppendSize a (v : Int) = some (((), ()), (a ++ sizeV v, ())) := by
  unfold ref01_AppendSize sizeV
  have l1 := ref01_little_eq (v := v) (n := 1) hv (by omega)
  have l2 := ref01_little_eq (v := v) (n := 2) hv (by omega)
  have l4 := ref01_little_eq (v := v) (n := 4) hv (by omega)
  have l8 := ref01_little_eq (v := v) (n := 8) hv (by omega)
  rw [show ((1 : Nat) : Int) = 1 from rfl] at l1
  rw [show ((2 : Nat) : Int) = 2 from rfl] at l2
  rw [show ((4 : Nat) : Int) = 4 from rfl] at l4
  rw [show ((8 : Nat) : Int) = 8 from rfl] at l8
  have hlim := lim_eq
  by_cases h1 : v < 253
  · have h1' : (v : Int) < 253 := by omega
    rw [if_pos h1, bif_t (decide_eq_true h1'), l1]
    simp only [Option.bind_some]
    rw [ref01_joined_eq (by rw [le_len]; omega)]; rfl
  · have h1' : ¬ (v : Int) < 253 := by omega
    rw [if_neg h1, bif_f (decide_eq_false h1')]
    by_cases h2 : v < 65536
    · have h2' : (v : Int) < 65536 := by omega
      rw [if_pos h2, bif_t (decide_eq_true h2'), l2]
      simp only [Option.bind_some]
      rw [ref01_joined_eq (by rw [le_len]; simp; omega)]
      simp only [Option.bind_some]
      rw [ref01_joined_eq (by rw [List.length_append, le_len]; simp; omega)]; rfl
    · have h2' : ¬ (v : Int) < 65536 := by omega
      rw [if_neg h2, bif_f (decide_eq_false h2')]
      by_cases h3 : v < 4294967296
      · have h3' : (v : Int) < 4294967296 := by omega
        rw [if_pos h3, bif_t (decide_eq_true h3'), l4]
        simp only [Option.bind_some]
        rw [ref01_joined_eq (by rw [le_len]; simp; omega)]
        simp only [Option.bind_some]
        rw [ref01_joined_eq (by rw [List.length_append, le_len]; simp; omega)]; rfl
      · have h3' : ¬ (v : Int) < 4294967296 := by omega
        rw [if_neg h3, bif_f (decide_eq_false h3'), l8]
        simp only [Option.bind_some]
        rw [ref01_joined_eq (by rw [le_len]; simp; omega)]
        simp only [Option.bind_some]
        rw [ref01_joined_eq (by rw [List.length_append, le_len]; simp; omega)]; rfl
theorem refSize_len {α : Type} {b : List α} (hb : b.length ≤ big) (hl : a.length + 9 ≤ lim) : ref01_AppendSize a (IntKind.u64.wrap (b.length : Int)) = some (((), ()), (a ++ sizeV b.length, ())) := by
  rw [big_le] at hb
  rw [wrap_un rfl (by omega) (by simp only [IntKind.bits]; omega)]
  exact ref01_AppendSize_eq (by omega) hl
theorem ref01_AppendBytes_eq {b : List Int} (hl : a.length + 9 + b.length ≤ lim) : ref01_AppendBytes a b = some (((), ()), (a ++ (sizeV b.length ++ b), ())) := by
  unfold ref01_AppendBytes
  have hlim := lim_eq
  have := @sizeV_len b.length
  rw [refSize_len (by rw [big_le]; omega) (by omega)]
  simp only [Option.bind_some]
  rw [ref01_joined_eq (by rw [List.length_append]; omega), List.append_assoc]; rfl
end
theorem ref09_Point_eq {p : D_b85e} (h1 : p.1.length = 32) (h2 : 0 ≤ p.2.1 ∧ p.2.1 ≤ 4294967295) : ref09_Point p = some (((), ()), (p.1 ++ le p.2.1.toNat 4, ())) := by
  unfold ref09_Point
  rw [ref01_AppendHash_eq h1 (by simp [lim])]
  simp only [Option.bind_some, List.nil_append]
  rw [ref01_AppendU32_eq h2 (by rw [h1, lim_eq]; omega)]; rfl
theorem ref09_Out_eq {o : D_b101} (h1 : 0 ≤ o.1) (h2 : o.1 ≤ 9223372036854775807) (h3 : o.2.1.length ≤ 520) : ref09_Out o = some (((), ()), (outV o, ())) := by
  unfold ref09_Out
  have hlim := lim_eq
  rw [wrap_un rfl (by omega) (by simp only [IntKind.bits]; omega), refU64 (by omega) (by simp; omega)]
  simp only [Option.bind_some, List.nil_append]
  rw [ref01_AppendBytes_eq (by rw [le_len]; omega)]; rfl
theorem ref09_encode_L4_eq {acc : List Int} {xs : List (List Int)} (hl : xs.length ≤ 32) (ho : ∀ b ∈ xs, itemOk b = true) (ha : acc.length + 20000 ≤ lim) :
    loopV (ref09_encode_L4 xs (xs.length : Int)) (((), ((0 : Int), ())), (acc, ())) = some (((), ()), (acc ++ xs.flatMap itemV, ())) := by
  refine loopV_app xs itemV (fun i a => (((), ((i : Int), ())), (a, ()))) (fun a => (((), ()), (a, ()))) acc rfl (fun i hi => ?_) (by simp [ref09_encode_L4])
  unfold ref09_encode_L4
  have h1 : ((i : Int) < (xs.length : Int)) := by omega
  have hb := flat_take (i := i) (g := itemV) (B := 529) hl fun b hb => itemV_len (ho b hb)
  have hb2 : xs[i].length ≤ 520 := by have := ho _ (List.getElem_mem hi); simpa [itemOk] using this
  simp only [h1, decide_true, cond_true, inb_nat hi, i64_up hi (show xs.length ≤ big by rw [big_le]; omega), rd_in (t := .slice (.int .u8)) (xs := xs) hi]
  rw [ref01_AppendBytes_eq (by rw [List.length_append]; omega)]
  rfl
theorem ref09_encode_L3_eq {w : Bool} {acc : List Int} {xs : List D_089d} (hl : xs.length ≤ 64) (ho : ∀ x ∈ xs, inOk x = true) (ha : acc.length + 1200000 ≤ lim) :
    loopV (ref09_encode_L3 w xs (xs.length : Int)) (((), ((0 : Int), ())), (acc, ())) = some (((), ()), (acc ++ (if w = true then xs.flatMap witV else []), ())) := by
  cases w with
  | false =>
    by_cases h0 : 0 < xs.length
    · refine loopV_done ?_
      have h1 : ((0 : Int) < (xs.length : Int)) := by omega
      have h2 : inb 0 xs.length = true := inb_t (by omega)
      simp [ref09_encode_L3, h2, h0]
    · refine loopV_done ?_
      have h1 : ¬ ((0 : Int) < (xs.length : Int)) := by omega
      simp [ref09_encode_L3, h0]
  | true =>
    simp only [if_true]
    refine loopV_app xs witV (fun i a => (((), ((i : Int), ())), (a, ()))) (fun a => (((), ()), (a, ()))) acc rfl (fun i hi => ?_) (by simp [ref09_encode_L3])
    unfold ref09_encode_L3
    have h1 : ((i : Int) < (xs.length : Int)) := by omega
    have hb := flat_take (i := i) (g := witV) (B := 16937) hl fun x hx => witV_len (ho x hx)
    have hx := ho _ (List.getElem_mem hi)
    simp only [inOk, Bool.and_eq_true, decide_eq_true_eq, List.all_eq_true] at hx
    have hs := @sizeV_len xs[i].2.2.1.length
    simp only [h1, decide_true, cond_true, Bool.not_true, cond_false, inb_nat hi, i64_up hi (show xs.length ≤ big by rw [big_le]; omega), rd_in (t := T_089d) (xs := xs) hi]
    rw [refSize_len (by rw [big_le]; omega) (by rw [List.length_append]; omega)]
    simp only [Option.bind_some]
    rw [ref09_encode_L4_eq hx.1 hx.2 (by simp only [List.length_append]; omega)]
    simp [witV]
theorem ref09_encode_eq {t : D_8f0a} {w : Bool} (hk : TxOk t) (hs : smallB t = true) : ref09_encode t w = some (((), ()), (encV t w, ())) := by
  obtain ⟨h1, h2, h3, h4⟩ := smallB_iff.1 hs
  unfold ref09_encode
  rw [ref01_AppendU32_eq hk.ver (by simp [lim])]
  simp only [Option.bind_some, List.nil_append]
  have hz1 := @sizeV_len t.2.1.length
  have hz2 := @sizeV_len t.2.2.1.length
  have hi := flat_len (g := inV) (B := 40) (xs := t.2.1) fun x hx => Nat.le_of_eq (inV_len (hk.ins x hx).1)
  have hi' : t.2.1.length * 40 ≤ 64 * 40 := Nat.mul_le_mul_right _ h1
  have ho := flat_len (g := outV) (B := 537) (xs := t.2.2.1) fun x hx => outV_len (h3 x hx)
  have ho' : t.2.2.1.length * 537 ≤ 64 * 537 := Nat.mul_le_mul_right _ h2
  have hlim := lim_eq
  rw [refSize_len (by rw [big_le]; omega) (by rw [le_len]; omega)]
  simp only [Option.bind_some]
  rw [loopV_app (step := ref09_encode_L1 t.2.1 (t.2.1.length : Int)) t.2.1 inV (fun i a => (((), ((), ((i : Int), ()))), (t, (a, ())))) (fun a => (((), ((), ())), (t, (a, ())))) (le t.1.toNat 4 ++ sizeV t.2.1.length) ?_ ?_ (by simp [ref09_encode_L1])]
  · simp only [Option.bind_some]
    rw [refSize_len (by rw [big_le]; omega) (by simp only [List.length_append, le_len]; omega)]
    simp only [Option.bind_some]
    rw [loopV_app (step := ref09_encode_L2 t.2.2.1 (t.2.2.1.length : Int)) t.2.2.1 outV (fun i a => (((), ((), ((i : Int), ()))), (t, (a, ())))) (fun a => (((), ((), ())), (t, (a, ())))) (le t.1.toNat 4 ++ sizeV t.2.1.length ++ t.2.1.flatMap inV ++ sizeV t.2.2.1.length) ?_ ?_ (by simp [ref09_encode_L2])]
    · simp only [Option.bind_some]
      rw [ref01_AppendU32_eq hk.lock (by simp only [List.length_append, le_len]; omega)]
      simp only [Option.bind_some]
      rw [ref09_encode_L3_eq h1 h4 (by simp only [List.length_append, le_len]; omega)]
      simp [encV, bareV, List.append_assoc]
    · rfl
    · intro i hi
      unfold ref09_encode_L2
      have h5 : ((i : Int) < (t.2.2.1.length : Int)) := by omega
      have hb := flat_take (i := i) (g := outV) (B := 537) h2 fun x hx => outV_len (h3 x hx)
      have ho1 := h3 _ (List.getElem_mem hi)
      have ho2 := hk.outs _ (List.getElem_mem hi)
      simp only [outOk, Bool.and_eq_true, Bool.not_eq_true', decide_eq_true_eq, decide_eq_false_iff_not] at ho1
      have hz3 := @sizeV_len t.2.2.1[i].2.1.length
      simp only [h5, decide_true, cond_true, inb_nat hi, i64_up hi (show t.2.2.1.length ≤ big by rw [big_le]; omega), rd_in (t := T_b101) (xs := t.2.2.1) hi]
      rw [ref09_Out_eq (by omega) (by omega) (by omega)]
      have h7 : (le t.1.toNat 4 ++ sizeV t.2.1.length ++ t.2.1.flatMap inV ++ sizeV t.2.2.1.length ++ (t.2.2.1.take i).flatMap outV).length + (outV t.2.2.1[i]).length ≤ lim := by
        have := outV_len (h3 _ (List.getElem_mem hi))
        simp only [List.length_append, le_len]; omega
      simp only [Option.bind_some, h7, decide_true, cond_true]
  · rfl
  · intro i hi
    unfold ref09_encode_L1
    have h5 : ((i : Int) < (t.2.1.length : Int)) := by omega
    have hb := flat_take (i := i) (g := inV) (B := 40) h1 fun x hx => Nat.le_of_eq (inV_len (hk.ins x hx).1)
    obtain ⟨p1, p2, p3⟩ := hk.ins _ (List.getElem_mem hi)
    simp only [h5, decide_true, cond_true, inb_nat hi, i64_up hi (show t.2.1.length ≤ big by rw [big_le]; omega), rd_in (t := T_089d) (xs := t.2.1) hi]
    rw [ref09_Point_eq p1 p2]
    have h6 : (le t.1.toNat 4 ++ sizeV t.2.1.length ++ (t.2.1.take i).flatMap inV).length + (t.2.1[i].1.1 ++ le t.2.1[i].1.2.1.toNat 4).length ≤ lim := by simp only [List.length_append, le_len]; omega
    simp only [Option.bind_some, h6, decide_true, cond_true]
    rw [ref01_AppendU32_eq p3 (by simp only [List.length_append, le_len] at h6 ⊢; omega)]
    simp [inV, List.append_assoc]

theorem ref09_Fits_L3_eq {t : D_8f0a} {xs : List (List Int)} (hl : xs.length ≤ 32) : loopV (ref09_Fits_L3 xs (xs.length : Int)) (((), ((0 : Int), ())), (t, ())) = some (bif xs.all itemOk then .inr (((), ()), (t, ())) else .inl ((false, ()), ())) := by
  refine loopV_all (fun i => (((), ((i : Int), ())), (t, ()))) xs.length (fun i => itemOk (rd (.slice (.int .u8)) xs (i : Int))) rfl (all_rd (t := .slice (.int .u8))) (fun i hi => ?_) (by simp [ref09_Fits_L3])
  unfold ref09_Fits_L3
  have h1 : ((i : Int) < (xs.length : Int)) := by omega
  simp only [h1, decide_true, cond_true, inb_nat hi, i64_up hi (show xs.length ≤ big by rw [big_le]; omega), itemOk]
  generalize (rd (.slice (.int .u8)) xs (i : Int)) = b
  by_cases h2 : 520 < (b.length : Int)
  · have h3 : ¬ b.length ≤ 520 := by omega
    simp [h2, h3]
  · have h3 : b.length ≤ 520 := by omega
    simp [h2, h3]
def fitsB (t : D_8f0a) : Bool := smallB t && decide ((encV t true).length ≤ 20000)
theorem ref09_Fits_eq {t : D_8f0a} (hk : TxOk t) : ref09_Fits t = some ((fitsB t, ()), ()) := by
  unfold ref09_Fits fitsB
  by_cases h1 : t.2.1.length ≤ 64
  · have h1' : ¬ (64 : Int) < (t.2.1.length : Int) := by omega
    rw [bif_f (decide_eq_false h1')]
    by_cases h2 : t.2.2.1.length ≤ 64
    · have h2' : ¬ (64 : Int) < (t.2.2.1.length : Int) := by omega
      rw [bif_f (decide_eq_false h2')]
      rw [loopV_all (step := ref09_Fits_L1 t.2.2.1 (t.2.2.1.length : Int)) (fun i => (((), ((i : Int), ())), (t, ()))) t.2.2.1.length (fun i => outOk (rd T_b101 t.2.2.1 (i : Int))) (bad := .inl ((false, ()), ())) (good := .inr (((), ()), (t, ()))) (b := t.2.2.1.all outOk) ?_ (all_rd (t := T_b101)) ?_ (by simp [ref09_Fits_L1])]
      · cases ho : t.2.2.1.all outOk with
        | false => simp [smallB, ho]
        | true =>
          simp only [Option.bind_some, cond_true]
          rw [loopV_all (step := ref09_Fits_L2 t.2.1 (t.2.1.length : Int)) (fun i => (((), ((i : Int), ())), (t, ()))) t.2.1.length (fun i => inOk (rd T_089d t.2.1 (i : Int))) (bad := .inl ((false, ()), ())) (good := .inr (((), ()), (t, ()))) (b := t.2.1.all inOk) ?_ (all_rd (t := T_089d)) ?_ (by simp [ref09_Fits_L2])]
          · cases hi : t.2.1.all inOk with
            | false => simp [smallB, ho, hi]
            | true =>
              have hs : smallB t = true := by simp [smallB, h1, h2, ho, hi]
              simp only [Option.bind_some, cond_true]
              rw [ref09_encode_eq hk hs, hs]
              simp
              omega
          · rfl
          · intro i hi
            unfold ref09_Fits_L2
            have h3 : ((i : Int) < (t.2.1.length : Int)) := by omega
            simp only [h3, decide_true, cond_true, inb_nat hi, i64_up hi (show t.2.1.length ≤ big by rw [big_le]; omega), inOk]
            generalize (rd T_089d t.2.1 (i : Int)) = x
            by_cases h4 : x.2.2.1.length ≤ 32
            · have h4' : ¬ (32 : Int) < (x.2.2.1.length : Int) := by omega
              rw [bif_f (decide_eq_false h4'), ref09_Fits_L3_eq h4]
              cases x.2.2.1.all itemOk <;> simp [h4]
            · have h4' : (32 : Int) < (x.2.2.1.length : Int) := by omega
              rw [bif_t (decide_eq_true h4')]
              simp [h4]
      · rfl
      · intro i hi
        unfold ref09_Fits_L1
        have h3 : ((i : Int) < (t.2.2.1.length : Int)) := by omega
        simp only [h3, decide_true, cond_true, inb_nat hi, i64_up hi (show t.2.2.1.length ≤ big by rw [big_le]; omega), outOk]
        generalize (rd T_b101 t.2.2.1 (i : Int)) = x
        by_cases h4 : x.1 < 0
        · simp [h4]
        · by_cases h5 : x.2.1.length ≤ 520
          · have h5' : ¬ (520 : Int) < (x.2.1.length : Int) := by omega
            simp [h4, h5, h5']
          · have h5' : (520 : Int) < (x.2.1.length : Int) := by omega
            simp [h4, h5, h5']
    · have h2' : (64 : Int) < (t.2.2.1.length : Int) := by omega
      rw [bif_t (decide_eq_true h2')]
      simp [smallB, h2]
  · have h1' : (64 : Int) < (t.2.1.length : Int) := by omega
    rw [bif_t (decide_eq_true h1')]
    simp [smallB, h1]
end Go.PE
end

section
namespace Go.PE
set_option linter.unusedSimpArgs false
/-- A loop that looks for the first place where p holds. -/
theorem loopV_find {σ ω : Type} {step : σ → Option (σ ⊕ ω)} {v : σ} (f : Nat → σ) (n : Nat) (p : Nat → Bool) {bad : Nat → ω} {good : ω} (hv : v = f 0)
    (hs : ∀ i, i < n → step (f i) = some (bif p i then .inr (bad i) else .inl (f (i + 1)))) (he : step (f n) = some (.inr good)) :
    (∃ i, i < n ∧ p i = true ∧ (∀ j, j < i → p j = false) ∧ loopV step v = some (bad i)) ∨ ((∀ i, i < n → p i = false) ∧ loopV step v = some good) := by
  subst hv
  have key : ∀ k i, i + k = n → (∃ m, i ≤ m ∧ m < n ∧ p m = true ∧ (∀ j, i ≤ j → j < m → p j = false) ∧ loopV step (f i) = some (bad m)) ∨ ((∀ j, i ≤ j → j < n → p j = false) ∧ loopV step (f i) = some good) := by
    intro k
    induction k with
    | zero =>
      intro i hi
      have : i = n := by omega
      subst this
      exact .inr ⟨fun j h1 h2 => by omega, loopV_done he⟩
    | succ k ih =>
      intro i hi
      have h := hs i (by omega)
      cases hp : p i with
      | true =>
        rw [hp] at h
        exact .inl ⟨i, Nat.le_refl i, by omega, hp, fun j h1 h2 => by omega, loopV_done h⟩
      | false =>
        rw [hp] at h
        rw [loopV_next h]
        rcases ih (i + 1) (by omega) with ⟨m, h1, h2, h3, h4, h5⟩ | ⟨h1, h2⟩
        · refine .inl ⟨m, by omega, h2, h3, fun j g1 g2 => ?_, h5⟩
          rcases Nat.lt_or_ge i j with g3 | g3
          · exact h4 j (by omega) g2
          · have : j = i := by omega
            rw [this]; exact hp
        · refine .inr ⟨fun j g1 g2 => ?_, h2⟩
          rcases Nat.lt_or_ge i j with g3 | g3
          · exact h1 j (by omega) g2
          · have : j = i := by omega
            rw [this]; exact hp
  rcases key n 0 (by omega) with ⟨m, h1, h2, h3, h4, h5⟩ | ⟨h1, h2⟩
  · exact .inl ⟨m, h2, h3, fun j h => h4 j (Nat.zero_le j) h, h5⟩
  · exact .inr ⟨fun i h => h1 i (Nat.zero_le i) h, h2⟩
theorem any_rd {t : Ty} {xs : List t.den} {f : t.den → Bool} : xs.any f = true ↔ ∃ i, i < xs.length ∧ f (rd t xs (i : Int)) = true := by
  rw [List.any_eq_true]
  constructor
  · rintro ⟨x, hx, hf⟩
    obtain ⟨i, hi, rfl⟩ := List.mem_iff_getElem.1 hx
    exact ⟨i, hi, by rw [rd_in hi]; exact hf⟩
  · rintro ⟨i, hi, hf⟩
    rw [rd_in hi] at hf
    exact ⟨_, List.getElem_mem hi, hf⟩
/-- A loop that asks whether something holds anywhere. -/
theorem loopV_any {σ ω : Type} {step : σ → Option (σ ⊕ ω)} {v : σ} {t : Ty} (xs : List t.den) (g : t.den → Bool) (f : Nat → σ) {bad good : ω} (hv : v = f 0)
    (hs : ∀ i, i < xs.length → step (f i) = some (bif g (rd t xs (i : Int)) then .inr bad else .inl (f (i + 1)))) (he : step (f xs.length) = some (.inr good)) :
    loopV step v = some (bif xs.any g then bad else good) := by
  rcases loopV_find f xs.length (fun i => g (rd t xs (i : Int))) hv hs he with ⟨i, h1, h2, h3, h4⟩ | ⟨h1, h2⟩
  · rw [h4, show xs.any g = true from any_rd.2 ⟨i, h1, h2⟩]; rfl
  · have : xs.any g = false := by
      cases ha : xs.any g with
      | false => rfl
      | true =>
        obtain ⟨i, g1, g2⟩ := any_rd.1 ha
        rw [h1 i g1] at g2; cases g2
    rw [h2, this]; rfl
end Go.PE
end

section
namespace Go.PE
set_option linter.unusedSimpArgs false
set_option linter.unusedVariables false
section
variable {k v : Ty} (he : ∀ a b : k.den, k.eqb a b = true ↔ a = b)
include he
theorem mfind_mset_same {x : k.den} {y : v.den} : ∀ {l : List (k.den × v.den)}, mfind k v x (mset k v x y l) = some y := by
  intro l
  have h0 : k.eqb x x = true := (he x x).2 rfl
  induction l with
  | nil => simp [mset, mfind, h0]
  | cons e l ih =>
    simp only [mset]
    cases h : k.eqb x e.1 with
    | true => simp [mfind, h0]
    | false => simp [mfind, h, ih]
theorem mfind_mset_ne {x z : k.den} {y : v.den} (hn : z ≠ x) : ∀ {l : List (k.den × v.den)}, mfind k v z (mset k v x y l) = mfind k v z l := by
  intro l
  have h0 : k.eqb z x = false := by
    cases h : k.eqb z x with
    | false => rfl
    | true => exact (hn ((he z x).1 h)).elim
  induction l with
  | nil => simp [mset, mfind, h0]
  | cons e l ih =>
    simp only [mset]
    cases h : k.eqb x e.1 with
    | true =>
      have hx := (he x e.1).1 h
      simp [mfind, h0, ← hx]
    | false => simp only [cond_false, mfind, ih]
/-- A map as a set: what stands in it. -/
def SetOf (k : Ty) (l : List k.den) (m : List (k.den × (Ty.bool).den)) : Prop := ∀ x, Option.getD (mfind k .bool x m) false = l.any fun y => k.eqb x y
omit he in
theorem SetOf.nil : SetOf k [] [] := fun x => by simp [mfind]
theorem SetOf.add {l : List k.den} {m : List (k.den × (Ty.bool).den)} (h : SetOf k l m) (x : k.den) : SetOf k (l ++ [x]) (mset k .bool x true m) := by
  intro z
  rw [List.any_append, ← h z]
  by_cases hz : z = x
  · subst hz
    rw [mfind_mset_same he, (he z z).2 rfl |> fun e => show ([z].any fun y => k.eqb z y) = true by simp [e]]; simp
  · rw [mfind_mset_ne he hz]
    have : k.eqb z x = false := by
      cases h : k.eqb z x with
      | false => rfl
      | true => exact (hz ((he z x).1 h)).elim
    simp [this]
end
theorem eqb_arr {t : Ty} {n : Nat} (he : ∀ a b : t.den, t.eqb a b = true ↔ a = b) : ∀ a b : (Ty.arr n t).den, (Ty.arr n t).eqb a b = true ↔ a = b := fun a b => eqList_iff he
theorem eqb_int {k : IntKind} : ∀ a b : (Ty.int k).den, (Ty.int k).eqb a b = true ↔ a = b := fun a b => by simp [Ty.eqb]
theorem eqb_cons {t ts : Ty} (h : ∀ a b : t.den, t.eqb a b = true ↔ a = b) (h' : ∀ a b : ts.den, ts.eqb a b = true ↔ a = b) : ∀ a b : (Ty.cons t ts).den, (Ty.cons t ts).eqb a b = true ↔ a = b := by
  intro a b
  simp only [Ty.eqb, Bool.and_eq_true, h, h']
  exact ⟨fun h => Prod.ext h.1 h.2, fun h => by rw [h]; exact ⟨rfl, rfl⟩⟩
theorem eqb_nil : ∀ a b : (Ty.nil).den, (Ty.nil).eqb a b = true ↔ a = b := fun a b => by simp [Ty.eqb]
theorem eqb_str : ∀ a b : (Ty.str).den, (Ty.str).eqb a b = true ↔ a = b := fun a b => eqList_iff (by simp)
end Go.PE
end

section
namespace Go.PE
set_option linter.unusedSimpArgs false
set_option linter.unusedVariables false
theorem eqb_pt : ∀ a b : (T_b85e).den, (T_b85e).eqb a b = true ↔ a = b := eqb_cons (eqb_arr eqb_int) (eqb_cons eqb_int eqb_nil)
theorem eqb_pt_symm {a b : D_b85e} : Ty.eqb T_b85e a b = Ty.eqb T_b85e b a := by
  cases h : Ty.eqb T_b85e a b with
  | true => have := (eqb_pt a b).1 h; subst this; exact h.symm
  | false =>
    cases h' : Ty.eqb T_b85e b a with
    | false => rfl
    | true => have := (eqb_pt b a).1 h'; subst this; rw [h] at h'; cases h'
abbrev nullP : D_b85e := ((List.replicate 32 (0 : Int)), ((4294967295 : Int), ()))
def maxM : Int := 2100000000000000
def sumV (l : List D_b101) : Int := (l.map (·.1)).sum
theorem sumV_up {l : List D_b101} {i : Nat} (hi : i < l.length) : sumV (l.take (i + 1)) = sumV (l.take i) + l[i].1 := by
  unfold sumV; rw [List.take_succ_eq_append_getElem hi, List.map_append, List.sum_append, List.map_singleton, List.sum_singleton]
theorem sumV_bd {l : List D_b101} (h : ∀ o ∈ l, 0 ≤ o.1 ∧ o.1 ≤ 2100000000000000) : 0 ≤ sumV l ∧ sumV l ≤ l.length * 2100000000000000 := by
  unfold sumV
  induction l with
  | nil => simp
  | cons o l ih =>
    have h1 := h o (by simp)
    have h2 := ih (fun x hx => h x (by simp [hx]))
    simp only [List.map_cons, List.sum_cons, List.length_cons]
    have : ((l.length + 1 : Nat) : Int) * 2100000000000000 = l.length * 2100000000000000 + 2100000000000000 := by push_cast; omega
    omega
def smallV (o : D_b101) : Bool := decide (o.1 ≤ 2100000000000000)
/-- All values are amounts, and their sum is. -/
def moneyB (l : List D_b101) : Bool := l.all smallV && decide (sumV l ≤ 2100000000000000)
/-- A loop that adds values while they are amounts: both texts' loops have this form. -/
theorem money_loop {σ ω : Type} {step : σ → Option (σ ⊕ ω)} {l : List D_b101} (mk : Int → Nat → σ) {bad : ω} {fin : Int → ω} {v : σ} (hn : l.length ≤ 64) (h0 : ∀ o ∈ l, 0 ≤ o.1) (hv : v = mk 0 0)
    (hs : ∀ s i, (hi : i < l.length) → 0 ≤ s → s ≤ 140000000000000000 → step (mk s i) = some (bif smallV l[i] then .inl (mk (s + l[i].1) (i + 1)) else .inr bad))
    (he : ∀ s, step (mk s l.length) = some (.inr (fin s))) : loopV step v = some (bif l.all smallV then fin (sumV l) else bad) := by
  subst hv
  have key : ∀ k i, (hik : i + k = l.length) → (∀ j, (hj : j < i) → smallV (l[j]'(by omega)) = true) → loopV step (mk (sumV (l.take i)) i) = some (bif (l.drop i).all smallV then fin (sumV l) else bad) := by
    intro k
    induction k with
    | zero =>
      intro i hi _
      have : i = l.length := by omega
      subst this
      rw [List.take_length, List.drop_length, loopV_done (he _)]; rfl
    | succ k ih =>
      intro i hi hsm
      have hil : i < l.length := by omega
      have hbd := sumV_bd (l := l.take i) (fun o ho => by
        obtain ⟨j, hj, rfl⟩ := List.mem_iff_getElem.1 ho
        rw [List.length_take] at hj
        have h1 := hsm j (by omega)
        rw [List.getElem_take]
        exact ⟨h0 _ (List.getElem_mem _), by simpa [smallV] using h1⟩)
      have hlen : (l.take i).length ≤ 64 := by rw [List.length_take]; omega
      have h2 : ((l.take i).length : Int) * 2100000000000000 ≤ 64 * 2100000000000000 := Int.mul_le_mul_of_nonneg_right (by omega) (by omega)
      have hst := hs (sumV (l.take i)) i hil hbd.1 (by omega)
      rw [List.drop_eq_getElem_cons hil, List.all_cons]
      cases hx : smallV l[i] with
      | false => rw [hx] at hst; rw [loopV_done hst]; rfl
      | true =>
        rw [hx] at hst
        rw [loopV_next hst, ← sumV_up hil, ih (i + 1) (by omega) (fun j hj => by
          rcases Nat.lt_or_ge j i with h | h
          · exact hsm j h
          · have : j = i := by omega
            subst this; exact hx)]
        rfl
  have := key l.length 0 (by omega) (fun j hj => by omega)
  simpa [sumV] using this
theorem tx_money_eq {l : List D_b101} (hn : l.length ≤ 64) (h0 : ∀ o ∈ l, 0 ≤ o.1) : tx_money l = some ((moneyB l, ()), ()) := by
  unfold tx_money moneyB
  rw [money_loop (step := tx_money_L1 l (l.length : Int)) (fun s i => ((s, ((i : Int), ())), ())) (bad := .inl ((false, ()), ())) (fin := fun s => .inr ((s, ()), ())) hn h0 ?_ ?_ (fun s => by simp [tx_money_L1])]
  · cases l.all smallV <;> simp
  · rfl
  · intro s i hi hs0 hs1
    have h3 : (i : Int) < (l.length : Int) := by omega
    have h4 : 0 ≤ l[i].1 := h0 _ (List.getElem_mem hi)
    simp only [tx_money_L1, h3, decide_true, cond_true, inb_nat hi, i64_up hi (show l.length ≤ big by rw [big_le]; omega), rd_in (t := T_b101) (xs := l) hi, smallV]
    by_cases h5 : 2100000000000000 < l[i].1
    · have h6 : ¬ l[i].1 ≤ 2100000000000000 := by omega
      simp [h5, h6]
    · have h6 : l[i].1 ≤ 2100000000000000 := by omega
      rw [IntWalk.i64_in (s + l[i].1) (by omega)]
      simp [h5, h6]
/-- Some outpoint stands twice. -/
def dupAt (xs : List D_089d) (i : Nat) : Bool := ((xs.take i).map (·.1)).any fun y => Ty.eqb T_b85e (rd T_089d xs (i : Int)).1 y
def dupB (xs : List D_089d) : Bool := (List.range xs.length).any fun i => dupAt xs i
def nullB (xs : List D_089d) : Bool := (xs.map (·.1)).any fun y => Ty.eqb T_b85e nullP y
def coinB (xs : List D_089d) : Bool := decide (xs.length = 1) && Ty.eqb T_b85e (rd T_089d xs 0).1 nullP
def checkV (t : D_8f0a) : Int :=
  if fitsB t = false then 4 else if t.2.1 = [] ∨ t.2.2.1 = [] then 93 else if moneyB t.2.2.1 = false then 90 else if dupB t.2.1 = true then 91 else if nullB t.2.1 = true ∧ coinB t.2.1 = false then 92 else 0
theorem range_any {n : Nat} {f : Nat → Bool} : (List.range n).any f = true ↔ ∃ i, i < n ∧ f i = true := by
  rw [List.any_eq_true]
  exact ⟨fun ⟨i, h1, h2⟩ => ⟨i, List.mem_range.1 h1, h2⟩, fun ⟨i, h1, h2⟩ => ⟨i, List.mem_range.2 h1, h2⟩⟩
theorem tx_Coinbase_eq {t : D_8f0a} : tx_Coinbase t = some ((coinB t.2.1, ()), ()) := by
  unfold tx_Coinbase coinB tx_null
  by_cases h : t.2.1.length = 1
  · have h1 : ((t.2.1.length : Int)) = 1 := by omega
    have h2 : inb 0 t.2.1.length = true := inb_t (by omega)
    rw [show decide (t.2.1.length = 1) = true from decide_eq_true h]
    simp only [h1, h2, decide_true, cond_true, Option.bind_some, Bool.true_and]
  · have h1 : ¬ ((t.2.1.length : Int)) = 1 := by omega
    simp [h, h1]
theorem ref09_Coinbase_eq {t : D_8f0a} : ref09_Coinbase t = some ((coinB t.2.1, ()), ()) := by
  unfold ref09_Coinbase coinB ref09_Null
  by_cases h : t.2.1.length = 1
  · have h1 : ((t.2.1.length : Int)) = 1 := by omega
    have h2 : inb 0 t.2.1.length = true := inb_t (by omega)
    rw [show decide (t.2.1.length = 1) = true from decide_eq_true h]
    simp only [h1, h2, decide_true, cond_true, Option.bind_some, Bool.true_and]
  · have h1 : ¬ ((t.2.1.length : Int)) = 1 := by omega
    simp [h, h1]
theorem fits_small {t : D_8f0a} (h : fitsB t = true) : smallB t = true := by
  simp only [fitsB, Bool.and_eq_true] at h; exact h.1
theorem small_pos {t : D_8f0a} (h : smallB t = true) : ∀ o ∈ t.2.2.1, 0 ≤ o.1 := by
  intro o ho
  have := (smallB_iff.1 h).2.2.1 o ho
  simp only [outOk, Bool.and_eq_true, Bool.not_eq_true', decide_eq_false_iff_not] at this
  omega
/-- The map of seen outpoints finds a second one exactly where there is one. -/
theorem check_L1 {t : D_8f0a} (hl : t.2.1.length ≤ big) :
    (dupB t.2.1 = true ∧ loopV (tx_Check_L1 t.2.1 (t.2.1.length : Int)) (((), ((), ((0 : Int), ()))), (t, (([]), ()))) = some (.inl ((91, ()), ()))) ∨
    (dupB t.2.1 = false ∧ ∃ m, SetOf T_b85e (t.2.1.map (·.1)) m ∧ loopV (tx_Check_L1 t.2.1 (t.2.1.length : Int)) (((), ((), ((0 : Int), ()))), (t, (([]), ()))) = some (.inr (((), ((), ())), (t, (m, ()))))) := by
  have key : ∀ k i m, i + k = t.2.1.length → SetOf T_b85e ((t.2.1.take i).map (·.1)) m → (∀ j, j < i → dupAt t.2.1 j = false) →
      (dupB t.2.1 = true ∧ loopV (tx_Check_L1 t.2.1 (t.2.1.length : Int)) (((), ((), ((i : Int), ()))), (t, (m, ()))) = some (.inl ((91, ()), ()))) ∨
      (dupB t.2.1 = false ∧ ∃ m', SetOf T_b85e (t.2.1.map (·.1)) m' ∧ loopV (tx_Check_L1 t.2.1 (t.2.1.length : Int)) (((), ((), ((i : Int), ()))), (t, (m, ()))) = some (.inr (((), ((), ())), (t, (m', ()))))) := by
    intro k
    induction k with
    | zero =>
      intro i m hi hm hd
      have : i = t.2.1.length := by omega
      subst this
      rw [List.take_length] at hm
      refine .inr ⟨?_, m, hm, loopV_done (by simp [tx_Check_L1])⟩
      cases h : dupB t.2.1 with
      | false => rfl
      | true => obtain ⟨j, h1, h2⟩ := range_any.1 h; rw [hd j h1] at h2; cases h2
    | succ k ih =>
      intro i m hi hm hd
      have hil : i < t.2.1.length := by omega
      have h3 : (i : Int) < (t.2.1.length : Int) := by omega
      have hstep : tx_Check_L1 t.2.1 (t.2.1.length : Int) (((), ((), ((i : Int), ()))), (t, (m, ()))) = some (bif dupAt t.2.1 i then .inr (.inl ((91, ()), ())) else .inl (((), ((), (((i + 1 : Nat) : Int), ()))), (t, (mset T_b85e .bool (rd T_089d t.2.1 (i : Int)).1 true m, ())))) := by
        simp only [tx_Check_L1, h3, decide_true, cond_true, inb_nat hil, i64_up hil hl, hm _]
        unfold dupAt
        cases (((t.2.1.take i).map (·.1)).any fun y => Ty.eqb T_b85e (rd T_089d t.2.1 (i : Int)).1 y) <;> rfl
      cases hdi : dupAt t.2.1 i with
      | true =>
        rw [hdi] at hstep
        exact .inl ⟨range_any.2 ⟨i, hil, hdi⟩, loopV_done hstep⟩
      | false =>
        rw [hdi] at hstep
        rw [loopV_next hstep]
        refine ih (i + 1) _ (by omega) ?_ (fun j hj => ?_)
        · have := hm.add eqb_pt (rd T_089d t.2.1 (i : Int)).1
          have e := rd_in (t := T_089d) (xs := t.2.1) hil
          rw [List.take_succ_eq_append_getElem hil, List.map_append, List.map_singleton, ← e]
          exact this
        · rcases Nat.lt_or_ge j i with h | h
          · exact hd j h
          · have : j = i := by omega
            subst this; exact hdi
  exact key t.2.1.length 0 [] (by omega) (by simpa using SetOf.nil) (fun j hj => by omega)
theorem tx_Check_eq {t : D_8f0a} (hk : TxOk t) : tx_Check t = some ((checkV t, ()), ()) := by
  unfold tx_Check checkV
  rw [tx_Encode_eq hk]
  simp only [Option.bind_some, EncodeV]
  by_cases hf : fitsB t = true
  · have hc : smallB t = true ∧ (encV t true).length ≤ 20000 := by simpa [fitsB] using hf
    have hs := smallB_iff.1 hc.1
    rw [if_pos hc, if_neg (by simp [hf])]
    simp only [decide_true, Bool.not_true, cond_false]
    by_cases h1 : t.2.1 = []
    · rw [if_pos (.inl h1), h1]; simp
    · have h1' : ¬ ((t.2.1.length : Int)) = 0 := by
        intro h; exact h1 (List.eq_nil_of_length_eq_zero (by omega))
      rw [bif_f (decide_eq_false h1')]
      by_cases h2 : t.2.2.1 = []
      · rw [if_pos (.inr h2), h2]; simp
      · have h2' : ¬ ((t.2.2.1.length : Int)) = 0 := by
          intro h; exact h2 (List.eq_nil_of_length_eq_zero (by omega))
        rw [bif_f (decide_eq_false h2'), if_neg (by simp [h1, h2]), tx_money_eq hs.2.1 (small_pos hc.1)]
        simp only [Option.bind_some]
        cases hm : moneyB t.2.2.1 with
        | false => rfl
        | true =>
          simp only [Bool.not_true, cond_false]
          rw [if_neg (by simp)]
          rcases check_L1 (t := t) (Nat.le_trans hs.1 (by decide)) with ⟨hd, hloop⟩ | ⟨hd, m, hset, hloop⟩
          · rw [hloop, hd]; rfl
          · rw [hloop, hd]
            simp only [Option.bind_some]
            unfold tx_null
            simp only [Option.bind_some, hset nullP]
            rw [if_neg (by simp)]
            have e : ((t.2.1.map (·.1)).any fun y => Ty.eqb T_b85e nullP y) = nullB t.2.1 := rfl
            rw [e, tx_Coinbase_eq]
            cases nullB t.2.1 <;> cases coinB t.2.1 <;> rfl
  · have hc : ¬ (smallB t = true ∧ (encV t true).length ≤ 20000) := by simpa [fitsB] using hf
    rw [if_neg hc, if_pos (by simpa using hf)]
    rfl
theorem ref09_Check_eq {t : D_8f0a} (hk : TxOk t) : ref09_Check t = some ((checkV t, ()), ()) := by
  unfold ref09_Check checkV
  rw [ref09_Fits_eq hk]
  simp only [Option.bind_some]
  by_cases hf : fitsB t = true
  · have hc : smallB t = true ∧ (encV t true).length ≤ 20000 := by simpa [fitsB] using hf
    have hs := smallB_iff.1 hc.1
    have hbig : t.2.1.length ≤ big := Nat.le_trans hs.1 (by decide)
    rw [hf, if_neg (by simp)]
    simp only [Bool.not_true, cond_false]
    by_cases h1 : t.2.1 = []
    · rw [if_pos (.inl h1), h1]; simp
    · have h1' : ¬ ((t.2.1.length : Int)) = 0 := by
        intro h; exact h1 (List.eq_nil_of_length_eq_zero (by omega))
      rw [bif_f (decide_eq_false h1')]
      by_cases h2 : t.2.2.1 = []
      · rw [if_pos (.inr h2), h2]; simp
      · have h2' : ¬ ((t.2.2.1.length : Int)) = 0 := by
          intro h; exact h2 (List.eq_nil_of_length_eq_zero (by omega))
        rw [bif_f (decide_eq_false h2'), if_neg (by simp [h1, h2])]
        rw [money_loop (step := ref09_Check_L1 t.2.2.1 (t.2.2.1.length : Int)) (fun s i => (((), (s, ((i : Int), ()))), (t, ()))) (bad := .inl ((90, ()), ())) (fin := fun s => .inr (((), (s, ())), (t, ()))) hs.2.1 (small_pos hc.1) ?_ ?_ (fun s => by simp [ref09_Check_L1])]
        · have hm : moneyB t.2.2.1 = (t.2.2.1.all smallV && decide (sumV t.2.2.1 ≤ 2100000000000000)) := rfl
          cases ha : t.2.2.1.all smallV with
          | false =>
            rw [ha, Bool.false_and] at hm
            rw [if_pos hm]; rfl
          | true =>
            rw [ha, Bool.true_and] at hm
            simp only [Option.bind_some, cond_true]
            by_cases h3 : sumV t.2.2.1 ≤ 2100000000000000
            · have h3' : ¬ 2100000000000000 < sumV t.2.2.1 := by omega
              rw [bif_f (decide_eq_false h3'), if_neg (by rw [hm]; simp [h3])]
              rcases loopV_find (step := ref09_Check_L2 (t.2.1.length : Int)) (fun i => (((), ((i : Int), ())), (t, ()))) t.2.1.length (fun i => dupAt t.2.1 i) (bad := fun i => .inl ((91, ()), ())) (good := .inr (((), ()), (t, ()))) rfl (fun i hi => by
                have h4 : (i : Int) < (t.2.1.length : Int) := by omega
                simp only [ref09_Check_L2, h4, decide_true, cond_true, i64_up hi hbig]
                rcases loopV_find (step := ref09_Check_L3 (i : Int)) (fun j => (((), ((j : Int), ())), (t, ()))) i (fun j => Ty.eqb T_b85e (rd T_089d t.2.1 (i : Int)).1 (rd T_089d t.2.1 (j : Int)).1) (bad := fun i => .inl ((91, ()), ())) (good := .inr (((), ()), (t, ()))) rfl (fun j hj => by
                  have h5 : (j : Int) < (i : Int) := by omega
                  simp only [ref09_Check_L3, h5, decide_true, cond_true, inb_nat hi, inb_nat (show j < t.2.1.length by omega), i64_up hj (show i ≤ big by omega)]
                  cases Ty.eqb T_b85e (rd T_089d t.2.1 (i : Int)).1 (rd T_089d t.2.1 (j : Int)).1 <;> rfl) (by simp [ref09_Check_L3]) with ⟨j, g1, g2, g3, g4⟩ | ⟨g1, g2⟩
                · rw [show (((0 : Nat) : Int)) = 0 from rfl] at g4
                  rw [g4]
                  have : dupAt t.2.1 i = true := by
                    unfold dupAt
                    rw [List.any_eq_true]
                    refine ⟨(rd T_089d t.2.1 (j : Int)).1, List.mem_map.2 ⟨t.2.1[j], ?_, ?_⟩, g2⟩
                    · exact List.mem_take_iff_getElem.2 ⟨j, by omega, rfl⟩
                    · rw [rd_in (t := T_089d) (show j < t.2.1.length by omega)]
                  rw [this]; rfl
                · rw [show (((0 : Nat) : Int)) = 0 from rfl] at g2
                  rw [g2]
                  have : dupAt t.2.1 i = false := by
                    cases hh : dupAt t.2.1 i with
                    | false => rfl
                    | true =>
                      unfold dupAt at hh
                      obtain ⟨y, hy, hy2⟩ := List.any_eq_true.1 hh
                      obtain ⟨x, hx, rfl⟩ := List.mem_map.1 hy
                      obtain ⟨j, hj, rfl⟩ := List.mem_take_iff_getElem.1 hx
                      have := g1 j (by omega)
                      rw [rd_in (t := T_089d) (show j < t.2.1.length by omega)] at this
                      rw [this] at hy2; cases hy2
                  rw [this]; rfl) (by simp [ref09_Check_L2]) with ⟨i, g1, g2, g3, g4⟩ | ⟨g1, g2⟩
              · rw [show (((0 : Nat) : Int)) = 0 from rfl] at g4
                rw [g4, if_pos (show dupB t.2.1 = true from range_any.2 ⟨i, g1, g2⟩)]; rfl
              · rw [show (((0 : Nat) : Int)) = 0 from rfl] at g2
                have hd : dupB t.2.1 = false := by
                  cases h : dupB t.2.1 with
                  | false => rfl
                  | true => obtain ⟨j, k1, k2⟩ := range_any.1 h; rw [g1 j k1] at k2; cases k2
                rw [g2, hd, if_neg (by simp)]
                simp only [Option.bind_some]
                rw [loopV_any (step := ref09_Check_L4 t.2.1 (t.2.1.length : Int)) (t := T_089d) t.2.1 (fun x => Ty.eqb T_b85e x.1 nullP && !coinB t.2.1) (fun i => (((), ((i : Int), ())), (t, ()))) (bad := .inl ((92, ()), ())) (good := .inr ((), ())) ?_ (fun i hi => ?_) (by simp [ref09_Check_L4])]
                · have e : (t.2.1.any fun x => Ty.eqb T_b85e x.1 nullP && !coinB t.2.1) = (nullB t.2.1 && !coinB t.2.1) := by
                    unfold nullB
                    rw [List.any_map]
                    cases coinB t.2.1 with
                    | true => simp
                    | false =>
                      simp only [Bool.not_false, Bool.and_true]
                      congr 1
                      funext x
                      exact eqb_pt_symm
                  rw [e]
                  cases nullB t.2.1 <;> cases coinB t.2.1 <;> rfl
                · rfl
                · have h4 : (i : Int) < (t.2.1.length : Int) := by omega
                  simp only [ref09_Check_L4, ref09_Null, h4, decide_true, cond_true, inb_nat hi, i64_up hi hbig, Option.bind_some, ref09_Coinbase_eq]
                  cases Ty.eqb T_b85e (rd T_089d t.2.1 (i : Int)).1 nullP <;> cases coinB t.2.1 <;> rfl
            · have h3' : 2100000000000000 < sumV t.2.2.1 := by omega
              rw [bif_t (decide_eq_true h3'), if_pos (by rw [hm]; simp [h3])]
        · rfl
        · intro s i hi hs0 hs1
          have h3 : (i : Int) < (t.2.2.1.length : Int) := by omega
          have h4 : 0 ≤ t.2.2.1[i].1 := small_pos hc.1 _ (List.getElem_mem hi)
          simp only [ref09_Check_L1, h3, decide_true, cond_true, inb_nat hi, i64_up hi (show t.2.2.1.length ≤ big by rw [big_le]; omega), rd_in (t := T_b101) (xs := t.2.2.1) hi, smallV]
          by_cases h5 : 2100000000000000 < t.2.2.1[i].1
          · have h6 : ¬ t.2.2.1[i].1 ≤ 2100000000000000 := by omega
            simp [h5, h6]
          · have h6 : t.2.2.1[i].1 ≤ 2100000000000000 := by omega
            rw [IntWalk.i64_in (s + t.2.2.1[i].1) (by omega)]
            simp [h5, h6]
  · rw [show fitsB t = false by simpa using hf]; rfl
end Go.PE
end

section
namespace Go.PE
set_option linter.unusedSimpArgs false
set_option linter.unusedVariables false
section
variable {α : Type} (f : α → Int)
def sumF (l : List α) : Int := (l.map f).sum
theorem sumF_up {l : List α} {i : Nat} (hi : i < l.length) : sumF f (l.take (i + 1)) = sumF f (l.take i) + f l[i] := by
  unfold sumF; rw [List.take_succ_eq_append_getElem hi, List.map_append, List.sum_append, List.map_singleton, List.sum_singleton]
theorem sumF_bd {l : List α} (h : ∀ o ∈ l, 0 ≤ f o ∧ f o ≤ 2100000000000000) : 0 ≤ sumF f l ∧ sumF f l ≤ l.length * 2100000000000000 := by
  unfold sumF
  induction l with
  | nil => simp
  | cons o l ih =>
    have h1 := h o (by simp)
    have h2 := ih (fun x hx => h x (by simp [hx]))
    simp only [List.map_cons, List.sum_cons, List.length_cons]
    have : ((l.length + 1 : Nat) : Int) * 2100000000000000 = l.length * 2100000000000000 + 2100000000000000 := by push_cast; omega
    omega
/-- A loop that adds amounts up, as long as they are amounts. -/
theorem sum_loop {σ ω : Type} {step : σ → Option (σ ⊕ ω)} {l : List α} (ok : α → Bool) (mk : Int → Nat → σ) {bad : ω} {fin : Int → ω} {v : σ} (hn : l.length ≤ 64) (hok : ∀ x ∈ l, ok x = true → 0 ≤ f x ∧ f x ≤ 2100000000000000) (hv : v = mk 0 0)
    (hs : ∀ s i, (hi : i < l.length) → 0 ≤ s → s ≤ 140000000000000000 → step (mk s i) = some (bif ok l[i] then .inl (mk (s + f l[i]) (i + 1)) else .inr bad))
    (he : ∀ s, step (mk s l.length) = some (.inr (fin s))) : loopV step v = some (bif l.all ok then fin (sumF f l) else bad) := by
  subst hv
  have key : ∀ k i, (hik : i + k = l.length) → (∀ j, (hj : j < i) → ok (l[j]'(by omega)) = true) → loopV step (mk (sumF f (l.take i)) i) = some (bif (l.drop i).all ok then fin (sumF f l) else bad) := by
    intro k
    induction k with
    | zero =>
      intro i hi _
      have : i = l.length := by omega
      subst this
      rw [List.take_length, List.drop_length, loopV_done (he _)]; rfl
    | succ k ih =>
      intro i hi hsm
      have hil : i < l.length := by omega
      have hbd := sumF_bd f (l := l.take i) (fun o ho => by
        obtain ⟨j, hj, rfl⟩ := List.mem_iff_getElem.1 ho
        rw [List.length_take] at hj
        have h1 := hsm j (by omega)
        rw [List.getElem_take]
        exact hok _ (List.getElem_mem _) h1)
      have hlen : (l.take i).length ≤ 64 := by rw [List.length_take]; omega
      have h2 : ((l.take i).length : Int) * 2100000000000000 ≤ 64 * 2100000000000000 := Int.mul_le_mul_of_nonneg_right (by omega) (by omega)
      have hst := hs (sumF f (l.take i)) i hil hbd.1 (by omega)
      rw [List.drop_eq_getElem_cons hil, List.all_cons]
      cases hx : ok l[i] with
      | false => rw [hx] at hst; rw [loopV_done hst]; rfl
      | true =>
        rw [hx] at hst
        rw [loopV_next hst, ← sumF_up f hil, ih (i + 1) (by omega) (fun j hj => by
          rcases Nat.lt_or_ge j i with h | h
          · exact hsm j h
          · have : j = i := by omega
            subst this; exact hx)]
        rfl
  have := key l.length 0 (by omega) (fun j hj => by omega)
  simpa [sumF] using this
end
def coinV (c : D_6b85) : Int := c.2.1.1
def coinOk (c : D_6b85) : Bool := !decide (c.2.1.1 < 0) && !decide (2100000000000000 < c.2.1.1)
/-- Coins that are others than the inputs say. -/
def mixedB (t : D_8f0a) (cs : List D_6b85) : Bool := (List.range cs.length).any fun i => !(Ty.eqb T_b85e (rd T_6b85 cs (i : Int)).1 (rd T_089d t.2.1 (i : Int)).1)
abbrev outVal (o : D_b101) : Int := o.1
def feeV (t : D_8f0a) (cs : List D_6b85) : Int × Int × Unit :=
  if checkV t ≠ 0 then (0, (checkV t, ())) else if cs.length ≠ t.2.1.length then (0, (8, ())) else if mixedB t cs = true then (0, (101, ())) else if cs.all coinOk = false then (0, (90, ()))
  else if 2100000000000000 < sumF coinV cs then (0, (90, ())) else if sumF coinV cs < sumV t.2.2.1 then (0, (100, ())) else (sumF coinV cs - sumV t.2.2.1, (0, ()))
theorem checkV_zero {t : D_8f0a} (h : checkV t = 0) : fitsB t = true ∧ t.2.1 ≠ [] ∧ t.2.2.1 ≠ [] ∧ moneyB t.2.2.1 = true ∧ dupB t.2.1 = false := by
  unfold checkV at h
  split at h
  · cases h
  · rename_i h1
    split at h
    · cases h
    · rename_i h2
      split at h
      · cases h
      · rename_i h3
        split at h
        · cases h
        · rename_i h4
          exact ⟨by simpa using h1, fun e => h2 (.inl e), fun e => h2 (.inr e), by simpa using h3, by simpa using h4⟩
theorem coin_bd {cs : List D_6b85} : ∀ x ∈ cs, coinOk x = true → 0 ≤ coinV x ∧ coinV x ≤ 2100000000000000 := by
  intro x _ h
  simp only [coinOk, Bool.and_eq_true, Bool.not_eq_true', decide_eq_false_iff_not] at h
  unfold coinV; omega
theorem spend_Fee_eq {t : D_8f0a} {cs : List D_6b85} (hk : TxOk t) : spend_Fee t cs = some ((feeV t cs, ())) := by
  unfold spend_Fee feeV
  rw [tx_Check_eq hk]
  simp only [Option.bind_some]
  by_cases h0 : checkV t = 0
  · obtain ⟨hf, h1, h2, h3, _⟩ := checkV_zero h0
    have hs := smallB_iff.1 (fits_small hf)
    rw [if_neg (by simp [h0]), bif_f (by simp [h0])]
    by_cases hl : cs.length = t.2.1.length
    · have hl' : ((cs.length : Int)) = (t.2.1.length : Int) := by omega
      rw [if_neg (by simp [hl]), bif_f (by simp [hl'])]
      have hn : cs.length ≤ 64 := by rw [hl]; exact hs.1
      have hbig : cs.length ≤ big := by rw [big_le]; omega
      rcases loopV_find (step := spend_Fee_L1 cs (cs.length : Int)) (fun i => (((), ((i : Int), ())), (t, ()))) cs.length (fun i => !(Ty.eqb T_b85e (rd T_6b85 cs (i : Int)).1 (rd T_089d t.2.1 (i : Int)).1)) (bad := fun _ => .inl ((0, (101, ())), ())) (good := .inr (((), ()), (t, ()))) rfl (fun i hi => by
          have h4 : (i : Int) < (cs.length : Int) := by omega
          simp only [spend_Fee_L1, h4, decide_true, cond_true, inb_nat hi, inb_nat (show i < t.2.1.length by omega), i64_up hi hbig]
          cases Ty.eqb T_b85e (rd T_6b85 cs (i : Int)).1 (rd T_089d t.2.1 (i : Int)).1 <;> rfl) (by simp [spend_Fee_L1]) with ⟨i, g1, g2, g3, g4⟩ | ⟨g1, g2⟩
      · rw [show (((0 : Nat) : Int)) = 0 from rfl] at g4
        rw [g4, if_pos (show mixedB t cs = true from range_any.2 ⟨i, g1, g2⟩)]; rfl
      · rw [show (((0 : Nat) : Int)) = 0 from rfl] at g2
        have hmx : mixedB t cs = false := by
          cases h : mixedB t cs with
          | false => rfl
          | true => obtain ⟨j, k1, k2⟩ := range_any.1 h; rw [g1 j k1] at k2; cases k2
        rw [g2, hmx, if_neg (by simp)]
        simp only [Option.bind_some]
        rw [sum_loop coinV (step := spend_Fee_L2 cs (cs.length : Int)) coinOk (fun s i => (((), (s, ((i : Int), ()))), (t, ()))) (bad := .inl ((0, (90, ())), ())) (fin := fun s => .inr (((), (s, ())), (t, ()))) hn coin_bd ?_ ?_ (fun s => by simp [spend_Fee_L2])]
        · cases ha : cs.all coinOk with
          | false => rw [if_pos rfl]; rfl
          | true =>
            rw [if_neg (by simp)]
            simp only [Option.bind_some, cond_true]
            have hcb := sumF_bd coinV (l := cs) (fun x hx => coin_bd x hx (List.all_eq_true.1 ha x hx))
            have hcn : ((cs.length : Int)) * 2100000000000000 ≤ 64 * 2100000000000000 := Int.mul_le_mul_of_nonneg_right (by omega) (by omega)
            have hm2 : (t.2.2.1.all smallV && decide (sumV t.2.2.1 ≤ 2100000000000000)) = true := h3
            simp only [Bool.and_eq_true, decide_eq_true_eq, List.all_eq_true] at hm2
            have hob : ∀ o ∈ t.2.2.1, 0 ≤ o.1 ∧ o.1 ≤ 2100000000000000 := fun o ho => ⟨small_pos (fits_small hf) o ho, by simpa [smallV] using hm2.1 o ho⟩
            have hsb := sumV_bd hob
            by_cases h5 : 2100000000000000 < sumF coinV cs
            · rw [bif_t (decide_eq_true h5), if_pos h5]
            · rw [bif_f (decide_eq_false h5), if_neg h5]
              rw [sum_loop outVal (step := spend_Fee_L3 t.2.2.1 (t.2.2.1.length : Int)) (fun _ => true) (fun s i => ((s, ((i : Int), ())), ())) (bad := ((0, ()), ())) (fin := fun s => ((s, ()), ())) hs.2.1 (fun x hx _ => hob x hx) ?_ ?_ (fun s => by simp [spend_Fee_L3])]
              · rw [show (t.2.2.1.all fun _ => true) = true by simp]
                simp only [Option.bind_some, cond_true]
                rw [show sumF outVal t.2.2.1 = sumV t.2.2.1 from rfl]
                by_cases h6 : sumF coinV cs < sumV t.2.2.1
                · rw [bif_t (decide_eq_true h6), if_pos h6]
                · rw [bif_f (decide_eq_false h6), if_neg h6, IntWalk.i64_in _ (by omega)]
              · rfl
              · intro s i hi q1 q2
                have h4 : (i : Int) < (t.2.2.1.length : Int) := by omega
                have h7 := hob _ (List.getElem_mem hi)
                simp only [spend_Fee_L3, h4, decide_true, cond_true, inb_nat hi, i64_up hi (show t.2.2.1.length ≤ big by rw [big_le]; omega), rd_in (t := T_b101) (xs := t.2.2.1) hi]
                rw [IntWalk.i64_in (s + t.2.2.1[i].1) (by omega)]
        · rfl
        · intro s i hi q1 q2
          have h4 : (i : Int) < (cs.length : Int) := by omega
          simp only [spend_Fee_L2, h4, decide_true, cond_true, inb_nat hi, i64_up hi hbig, rd_in (t := T_6b85) (xs := cs) hi, coinOk, coinV]
          generalize cs[i] = c
          by_cases k1 : c.2.1.1 < 0
          · simp [k1]
          · by_cases k2 : 2100000000000000 < c.2.1.1
            · simp [k1, k2]
            · rw [IntWalk.i64_in (s + c.2.1.1) (by omega)]
              simp [k1, k2]
    · have hl' : ¬ ((cs.length : Int)) = (t.2.1.length : Int) := by omega
      rw [if_pos hl, bif_t (by simp [hl'])]
  · rw [if_pos h0, bif_t (by simp [h0])]
theorem ref10_Fee_eq {t : D_8f0a} {cs : List D_6b85} (hk : TxOk t) : ref10_Fee t cs = some ((feeV t cs, ())) := by
  unfold ref10_Fee feeV
  rw [ref09_Check_eq hk]
  simp only [Option.bind_some]
  by_cases h0 : checkV t = 0
  · obtain ⟨hf, h1, h2, h3, _⟩ := checkV_zero h0
    have hs := smallB_iff.1 (fits_small hf)
    rw [if_neg (by simp [h0]), bif_f (by simp [h0])]
    by_cases hl : cs.length = t.2.1.length
    · have hl' : ((cs.length : Int)) = (t.2.1.length : Int) := by omega
      rw [if_neg (by simp [hl]), bif_f (by simp [hl'])]
      have hn : cs.length ≤ 64 := by rw [hl]; exact hs.1
      have hbig : cs.length ≤ big := by rw [big_le]; omega
      rcases loopV_find (step := ref10_Fee_L1 cs (cs.length : Int)) (fun i => (((), ((i : Int), ())), (t, ()))) cs.length (fun i => !(Ty.eqb T_b85e (rd T_6b85 cs (i : Int)).1 (rd T_089d t.2.1 (i : Int)).1)) (bad := fun _ => .inl ((0, (101, ())), ())) (good := .inr (((), ()), (t, ()))) rfl (fun i hi => by
          have h4 : (i : Int) < (cs.length : Int) := by omega
          simp only [ref10_Fee_L1, h4, decide_true, cond_true, inb_nat hi, inb_nat (show i < t.2.1.length by omega), i64_up hi hbig]
          cases Ty.eqb T_b85e (rd T_6b85 cs (i : Int)).1 (rd T_089d t.2.1 (i : Int)).1 <;> rfl) (by simp [ref10_Fee_L1]) with ⟨i, g1, g2, g3, g4⟩ | ⟨g1, g2⟩
      · rw [show (((0 : Nat) : Int)) = 0 from rfl] at g4
        rw [g4, if_pos (show mixedB t cs = true from range_any.2 ⟨i, g1, g2⟩)]; rfl
      · rw [show (((0 : Nat) : Int)) = 0 from rfl] at g2
        have hmx : mixedB t cs = false := by
          cases h : mixedB t cs with
          | false => rfl
          | true => obtain ⟨j, k1, k2⟩ := range_any.1 h; rw [g1 j k1] at k2; cases k2
        rw [g2, hmx, if_neg (by simp)]
        simp only [Option.bind_some]
        rw [sum_loop coinV (step := ref10_Fee_L2 cs (cs.length : Int)) coinOk (fun s i => (((), (s, ((i : Int), ()))), (t, ()))) (bad := .inl ((0, (90, ())), ())) (fin := fun s => .inr (((), (s, ())), (t, ()))) hn coin_bd ?_ ?_ (fun s => by simp [ref10_Fee_L2])]
        · cases ha : cs.all coinOk with
          | false => rw [if_pos rfl]; rfl
          | true =>
            rw [if_neg (by simp)]
            simp only [Option.bind_some, cond_true]
            have hcb := sumF_bd coinV (l := cs) (fun x hx => coin_bd x hx (List.all_eq_true.1 ha x hx))
            have hcn : ((cs.length : Int)) * 2100000000000000 ≤ 64 * 2100000000000000 := Int.mul_le_mul_of_nonneg_right (by omega) (by omega)
            have hm2 : (t.2.2.1.all smallV && decide (sumV t.2.2.1 ≤ 2100000000000000)) = true := h3
            simp only [Bool.and_eq_true, decide_eq_true_eq, List.all_eq_true] at hm2
            have hob : ∀ o ∈ t.2.2.1, 0 ≤ o.1 ∧ o.1 ≤ 2100000000000000 := fun o ho => ⟨small_pos (fits_small hf) o ho, by simpa [smallV] using hm2.1 o ho⟩
            have hsb := sumV_bd hob
            by_cases h5 : 2100000000000000 < sumF coinV cs
            · rw [bif_t (decide_eq_true h5), if_pos h5]
            · rw [bif_f (decide_eq_false h5), if_neg h5]
              rw [sum_loop outVal (step := ref10_Fee_L3 t.2.2.1 (t.2.2.1.length : Int)) (fun _ => true) (fun s i => ((sumF coinV cs - s, ((i : Int), ())), ())) (bad := ((0, ()), ())) (fin := fun s => ((sumF coinV cs - s, ()), ())) hs.2.1 (fun x hx _ => hob x hx) ?_ ?_ (fun s => by simp [ref10_Fee_L3])]
              · rw [show (t.2.2.1.all fun _ => true) = true by simp]
                simp only [Option.bind_some, cond_true]
                rw [show sumF outVal t.2.2.1 = sumV t.2.2.1 from rfl]
                by_cases h6 : sumF coinV cs < sumV t.2.2.1
                · have h6' : sumF coinV cs - sumV t.2.2.1 < 0 := by omega
                  rw [bif_t (decide_eq_true h6'), if_pos h6]
                · have h6' : ¬ sumF coinV cs - sumV t.2.2.1 < 0 := by omega
                  rw [bif_f (decide_eq_false h6'), if_neg h6]
              · simp
              · intro s i hi q1 q2
                have h4 : (i : Int) < (t.2.2.1.length : Int) := by omega
                have h7 := hob _ (List.getElem_mem hi)
                simp only [ref10_Fee_L3, h4, decide_true, cond_true, inb_nat hi, i64_up hi (show t.2.2.1.length ≤ big by rw [big_le]; omega), rd_in (t := T_b101) (xs := t.2.2.1) hi]
                rw [IntWalk.i64_in (sumF coinV cs - s - t.2.2.1[i].1) (by omega), show sumF coinV cs - s - t.2.2.1[i].1 = sumF coinV cs - (s + outVal t.2.2.1[i]) by unfold outVal; omega]
        · rfl
        · intro s i hi q1 q2
          have h4 : (i : Int) < (cs.length : Int) := by omega
          simp only [ref10_Fee_L2, h4, decide_true, cond_true, inb_nat hi, i64_up hi hbig, rd_in (t := T_6b85) (xs := cs) hi, coinOk, coinV]
          generalize cs[i] = c
          by_cases k1 : c.2.1.1 < 0
          · simp [k1]
          · by_cases k2 : 2100000000000000 < c.2.1.1
            · simp [k1, k2]
            · rw [IntWalk.i64_in (s + c.2.1.1) (by omega)]
              simp [k1, k2]
    · have hl' : ¬ ((cs.length : Int)) = (t.2.1.length : Int) := by omega
      rw [if_pos hl, bif_t (by simp [hl'])]
  · rw [if_pos h0, bif_t (by simp [h0])]
end Go.PE
end

section
namespace Go.PE
set_option linter.unusedSimpArgs false
set_option linter.unusedVariables false
/-- The place of input j of a plan. -/
def ptI (j : Nat) : D_b85e := ((((List.replicate 32 (0 : Int)).set 0 1).set 1 (IntKind.u8.wrap (j : Int))), ((IntKind.u32.wrap (j : Int)), ()))
structure PIn (j : Nat) (x : D_089d) : Prop where
  pt : x.1 = ptI j
  seq : x.2.1 = 4294967295 ∨ x.2.1 = 0 ∨ x.2.1 = 4294967293
  wit : x.2.2.1 = []
structure PCoin (j : Nat) (s : List Int) (c : D_6b85) : Prop where
  pt : c.1 = ptI j
  val : c.2.1.1 = 10000
  scr : c.2.1.2.1 = s
theorem ptI_ok {j : Nat} (h : j < 256) : (ptI j).1.length = 32 ∧ 0 ≤ (ptI j).2.1 ∧ (ptI j).2.1 ≤ 4294967295 := by
  have e : (ptI j).2.1 = (j : Int) := wrap_un (k := .u32) rfl (n := (j : Int)) (by omega) (by simp only [IntKind.bits]; omega)
  rw [e]
  exact ⟨by simp [ptI], by omega, by omega⟩
section
variable {l : List Int} (hl : Deck l)
include hl
abbrev PSt := (Int × Unit × Unit × Int × Unit) × Unit × Int × Int × Unit
theorem Plan_L1 (sc : List (List Int)) (hsc : sc.length ≤ 8) (X Y : PSt) : ∀ (k i p : Nat) (ins : List D_089d) (coins : List D_6b85), i + k = sc.length → p ≤ l.length → ins.length = i → coins.length = i →
    (∀ j x, ins[j]? = some x → PIn j x) → (∀ j c, coins[j]? = some c → PCoin j (sc.getD j []) c) →
    ∃ (q : Nat) (ins' : List D_089d) (coins' : List D_6b85), loopV (mill_Plan_L1 sc (sc.length : Int)) (((), ((), ((), (((10000 * i : Nat) : Int), ((i : Int), ()))))), ((l, ((p : Int), ())), (X, (Y, (ins, (coins, ())))))) =
      some (((), ((), ((), (((10000 * sc.length : Nat) : Int), ())))), ((l, ((q : Int), ())), (X, (Y, (ins', (coins', ())))))) ∧
      q ≤ l.length ∧ ins'.length = sc.length ∧ coins'.length = sc.length ∧ (∀ j x, ins'[j]? = some x → PIn j x) ∧ (∀ j c, coins'[j]? = some c → PCoin j (sc.getD j []) c) := by
  intro k
  induction k with
  | zero =>
    intro i p ins coins hi hp h1 h2 h3 h4
    have : i = sc.length := by omega
    subst this
    exact ⟨p, ins, coins, loopV_done (by simp [mill_Plan_L1]), hp, h1, h2, h3, h4⟩
  | succ k ih =>
    intro i p ins coins hi hp h1 h2 h3 h4
    have hil : i < sc.length := by omega
    have e0 : (i : Int) < (sc.length : Int) := by omega
    obtain ⟨r, q1, g1, g2, g3, g4⟩ := hl.next (k := 3) (by omega) (by omega) hp
    obtain ⟨sq, hs1, hs2⟩ : ∃ sq : Int, ([4294967295, 0, 4294967293] : List Int)[r.toNat]? = some sq ∧ (sq = 4294967295 ∨ sq = 0 ∨ sq = 4294967293) := by
      have : r = 0 ∨ r = 1 ∨ r = 2 := by omega
      rcases this with rfl | rfl | rfl <;> exact ⟨_, rfl, by decide⟩
    have hin : inb r ([4294967295, 0, 4294967293] : List Int).length = true := inb_t (by simp; omega)
    obtain ⟨q', ins', coins', f1, f2, f3, f4, f5, f6⟩ := ih (i + 1) q1 (ins ++ [(ptI i, (sq, ([], ())))]) (coins ++ [(ptI i, ((10000, (rd (.slice (.int .u8)) sc (i : Int), ())), (1, (false, ()))))]) (by omega) g4 (by simp [h1]) (by simp [h2])
      (fun j x hx => by
        rcases Nat.lt_or_ge j ins.length with h | h
        · rw [List.getElem?_append_left h] at hx; exact h3 j x hx
        · rw [List.getElem?_append_right h] at hx
          have hj : j = i := by
            have := (List.getElem?_eq_some_iff.1 hx).1
            simp at this; omega
          subst hj
          rw [show j - ins.length = 0 by omega] at hx
          cases hx
          exact ⟨rfl, hs2, rfl⟩)
      (fun j c hc => by
        rcases Nat.lt_or_ge j coins.length with h | h
        · rw [List.getElem?_append_left h] at hc; exact h4 j c hc
        · rw [List.getElem?_append_right h] at hc
          have hj : j = i := by
            have := (List.getElem?_eq_some_iff.1 hc).1
            simp at this; omega
          subst hj
          rw [show j - coins.length = 0 by omega] at hc
          cases hc
          exact ⟨rfl, rfl, by rw [rd_nat]; rfl⟩)
    refine ⟨q', ins', coins', ?_, f2, f3, f4, f5, f6⟩
    rw [← f1]
    refine loopV_next ?_
    have e3 : ins.length + 1 ≤ lim := by unfold lim; omega
    have e4 : coins.length + 1 ≤ lim := by unfold lim; omega
    have e5 : IntKind.i64.wrap (((10000 * i : Nat) : Int) + 10000) = ((10000 * (i + 1) : Nat) : Int) := by rw [IntWalk.i64_in _ (by omega)]; omega
    have e6 : ((List.replicate 32 (0 : Int))[0]?) = some 0 := rfl
    have e7 : (((List.replicate 32 (0 : Int)).set 0 1)[1]?) = some 0 := rfl
    unfold mill_Plan_L1
    simp only [e0, decide_true, cond_true, inb_nat hil, e6, e7, Option.bind_some, List.length_singleton, e4, g1, hin, hs1, e3, e5, i64_up hil (show sc.length ≤ big by rw [big_le]; omega)]
    rfl
/-- A plan that is drawn. -/
structure MPlan (sc : List (List Int)) (ver lock fee change : Int) (ins : List D_089d) (outs : List D_b101) (coins : List D_6b85) : Prop where
  ver : ver = 1
  lock : 0 ≤ lock ∧ lock < 3
  nin : ins.length = sc.length
  ncoin : coins.length = sc.length
  ins : ∀ j x, ins[j]? = some x → PIn j x
  coins : ∀ j c, coins[j]? = some c → PCoin j (sc.getD j []) c
  outs : ∃ s0 s1, ScrOk s0 ∧ ScrOk s1 ∧ outs = [(5000, (s0, ())), (IntKind.i64.wrap (((10000 * sc.length : Nat) : Int) - 5000 - fee), (s1, ()))]
  fee : (0 ≤ fee ∧ fee < 900) ∨ (((10000 * sc.length : Nat) : Int) - 5000 - 301 - 500 < fee ∧ fee ≤ ((10000 * sc.length : Nat) : Int) - 5000 - 301)
  change : change = -1 ∨ change = 1
theorem Deck.plan {sc : List (List Int)} (h1 : 1 ≤ sc.length) (hsc : sc.length ≤ 8) {p : Nat} (hp : p ≤ l.length) : ∃ (X : PSt) (q : Nat) (ins : List D_089d) (outs : List D_b101) (coins : List D_6b85),
    mill_Plan sc (l, ((p : Int), ())) = some ((X, ()), ((l, ((q : Int), ())), (ins, (outs, (coins, ()))))) ∧ MPlan sc X.1.1 X.1.2.2.2.1 X.2.2.1 X.2.2.2.1 ins outs coins ∧ q ≤ l.length := by
  unfold mill_Plan
  obtain ⟨r1, q1, a1, a2, a3, a4⟩ := hl.next (k := 3) (by omega) (by omega) hp
  simp only [a1, Option.bind_some]
  obtain ⟨q2, ins, coins, b1, b2, b3, b4, b5, b6⟩ := Plan_L1 hl sc hsc (((0 : Int), ((), ((), ((0 : Int), ())))), ((), ((0 : Int), ((0 : Int), ())))) (((1 : Int), ((), ((), ((IntKind.u32.wrap r1), ())))), ((), ((0 : Int), ((0 : Int), ())))) sc.length 0 q1 [] [] (by omega) a4 rfl rfl (fun j x hx => by simp at hx) (fun j x hx => by simp at hx)
  simp only [Nat.mul_zero] at b1
  rw [show (((0 : Nat) : Int)) = 0 from rfl] at b1
  rw [b1]
  simp only [Option.bind_some]
  obtain ⟨r3, q3, c1, c2, c3, c4⟩ := hl.next (k := 900) (by omega) (by omega) b2
  simp only [c1, Option.bind_some]
  obtain ⟨s0, d1, d2⟩ := made_Script_some (a := 0) (by omega)
  obtain ⟨s1, d3, d4⟩ := made_Script_some (a := 1) (by omega)
  rw [d1, d3]
  simp only [Option.bind_some]
  obtain ⟨r4, q4, f1, f2, f3, f4⟩ := hl.next (k := 4) (by omega) (by omega) c4
  simp only [f1, Option.bind_some]
  have hr1 : IntKind.u32.wrap r1 = r1 := wrap_un (k := .u32) rfl a2 (by simp only [IntKind.bits]; omega)
  have hw5 : IntKind.i64.wrap (((10000 * sc.length : Nat) : Int) - 5000) = ((10000 * sc.length : Nat) : Int) - 5000 := IntWalk.i64_in _ (by omega)
  rw [hr1, hw5]
  by_cases hz : r4 = 0
  · rw [bif_t (decide_eq_true hz)]
    exact ⟨_, q4, ins, _, coins, rfl, ⟨rfl, ⟨a2, a3⟩, b3, b4, b5, b6, ⟨s0, s1, d2, d4, rfl⟩, .inl ⟨c2, c3⟩, .inl rfl⟩, f4⟩
  · rw [bif_f (decide_eq_false hz)]
    by_cases ho : r4 = 1
    · rw [bif_t (decide_eq_true ho)]
      obtain ⟨r5, q5, g1, g2, g3, g4⟩ := hl.next (k := 500) (by omega) (by omega) f4
      have hv : IntKind.i64.wrap (((10000 * sc.length : Nat) : Int) - 5000 - r3) = ((10000 * sc.length : Nat) : Int) - 5000 - r3 := IntWalk.i64_in _ (by omega)
      rw [hv]
      have hi1 : inb 1 ([((5000 : Int), (s0, ())), (((10000 * sc.length : Nat) : Int) - 5000 - r3, (s1, ()))] : List D_b101).length = true := rfl
      have hi2 : ([((5000 : Int), (s0, ())), (((10000 * sc.length : Nat) : Int) - 5000 - r3, (s1, ()))] : List D_b101)[1]? = some (((10000 * sc.length : Nat) : Int) - 5000 - r3, (s1, ())) := rfl
      simp only [hi1, cond_true, hi2, Option.bind_some, g1]
      have hx1 : IntKind.i64.wrap (r3 + (((10000 * sc.length : Nat) : Int) - 5000 - r3)) = ((10000 * sc.length : Nat) : Int) - 5000 := by rw [IntWalk.i64_in _ (by omega)]; omega
      have hx2 : IntKind.i64.wrap (((10000 * sc.length : Nat) : Int) - 5000 - 301) = ((10000 * sc.length : Nat) : Int) - 5000 - 301 := IntWalk.i64_in _ (by omega)
      have hx3 : IntKind.i64.wrap (((10000 * sc.length : Nat) : Int) - 5000 - 301 - r5) = ((10000 * sc.length : Nat) : Int) - 5000 - 301 - r5 := IntWalk.i64_in _ (by omega)
      rw [hx1, hx2, hx3]
      exact ⟨_, q5, ins, _, coins, rfl, ⟨rfl, ⟨a2, a3⟩, b3, b4, b5, b6, ⟨s0, s1, d2, d4, rfl⟩, .inr ⟨by show _ < _ - r5; omega, by show _ - r5 ≤ _; omega⟩, .inr rfl⟩, g4⟩
    · rw [bif_f (decide_eq_false ho)]
      exact ⟨_, q4, ins, _, coins, rfl, ⟨rfl, ⟨a2, a3⟩, b3, b4, b5, b6, ⟨s0, s1, d2, d4, rfl⟩, .inl ⟨c2, c3⟩, .inr rfl⟩, f4⟩
end
/-- Somebody could sign a plan. -/
def validB (p : D_0798) : Bool :=
  decide (checkV p.1 = 0) && (!coinB p.1.2.1 && (decide (-1 ≤ p.2.2.2.1) && (decide (p.2.2.2.1 < (p.1.2.2.1.length : Int)) && (!(p.1.2.1.any fun x => decide ((0 : Int) < (x.2.2.1.length : Int))) &&
    (decide ((feeV p.1 p.2.1).2.1 = 0) && decide ((feeV p.1 p.2.1).1 = p.2.2.1))))))
theorem contains_b {xs : List D_089d} (hl : xs.length ≤ big) : slices_ContainsFunc_api_Input_api_Input_b xs = some (((xs.any fun x => decide ((0 : Int) < (x.2.2.1.length : Int))), ()), ()) := by
  unfold slices_ContainsFunc_api_Input_api_Input_b slices_IndexFunc_api_Input_api_Input_b
  rcases loopV_find (step := slices_IndexFunc_api_Input_api_Input_b_L1 xs (xs.length : Int)) (fun i => (((), ((i : Int), ())), ())) xs.length (fun i => decide ((0 : Int) < ((rd T_089d xs (i : Int)).2.2.1.length : Int))) (bad := fun i => .inl (((i : Int), ()), ())) (good := .inr ((), ())) rfl (fun i hi => by
      have h5 : (i : Int) < (xs.length : Int) := by omega
      simp only [slices_IndexFunc_api_Input_api_Input_b_L1, build_Valid_1, h5, decide_true, cond_true, inb_nat hi, Option.bind_some, i64_up hi hl]
      cases decide ((0 : Int) < ((rd T_089d xs (i : Int)).2.2.1.length : Int)) <;> rfl) (by simp [slices_IndexFunc_api_Input_api_Input_b_L1]) with ⟨i, h1, h2, h3, h4⟩ | ⟨h1, h2⟩
  · rw [show (((0 : Nat) : Int)) = 0 from rfl] at h4
    rw [h4, show (xs.any fun x => decide ((0 : Int) < (x.2.2.1.length : Int))) = true from any_rd (t := T_089d) (xs := xs) |>.2 ⟨i, h1, h2⟩]
    have h0 : (0 : Int) ≤ (i : Int) := by omega
    simp [h0]
  · rw [show (((0 : Nat) : Int)) = 0 from rfl] at h2
    have : (xs.any fun x => decide ((0 : Int) < (x.2.2.1.length : Int))) = false := by
      cases ha : (xs.any fun x => decide ((0 : Int) < (x.2.2.1.length : Int))) with
      | false => rfl
      | true =>
        obtain ⟨i, g1, g2⟩ := any_rd (t := T_089d) (xs := xs) |>.1 ha
        rw [h1 i g1] at g2; cases g2
    rw [h2, this]; rfl
theorem build_Valid_eq {p : D_0798} (hk : TxOk p.1) : build_Valid p = some ((validB p, ()), ()) := by
  unfold build_Valid validB
  rw [tx_Check_eq hk]
  simp only [Option.bind_some]
  by_cases h0 : checkV p.1 = 0
  · obtain ⟨hf, h1, h2, h3, _⟩ := checkV_zero h0
    have hs := smallB_iff.1 (fits_small hf)
    rw [tx_Coinbase_eq, contains_b (Nat.le_trans hs.1 (by decide)), spend_Fee_eq hk]
    simp only [h0, decide_true, Bool.not_true, cond_false, Option.bind_some, Bool.true_and]
    cases coinB p.1.2.1
    · simp only [cond_false, Bool.not_false, Bool.true_and]
      by_cases g1 : p.2.2.2.1 < -1
      · have g1' : ¬ -1 ≤ p.2.2.2.1 := by omega
        simp [g1, g1']
      · have g1' : -1 ≤ p.2.2.2.1 := by omega
        by_cases g2 : (p.1.2.2.1.length : Int) ≤ p.2.2.2.1
        · have g2' : ¬ p.2.2.2.1 < (p.1.2.2.1.length : Int) := by omega
          simp [g1, g1', g2, g2']
        · have g2' : p.2.2.2.1 < (p.1.2.2.1.length : Int) := by omega
          simp only [g1, g1', g2, g2', decide_true, decide_false, cond_false, Bool.true_and]
          cases (p.1.2.1.any fun x => decide ((0 : Int) < (x.2.2.1.length : Int)))
          · simp only [cond_false, Bool.not_false, Bool.true_and]
            by_cases g3 : (feeV p.1 p.2.1).2.1 = 0
            · simp [g3]
            · simp [g3]
          · rfl
    · rfl
  · simp [h0]
theorem ref34_Valid_eq {p : D_0798} (hk : TxOk p.1) : ref34_Valid p = some ((validB p, ()), ()) := by
  unfold ref34_Valid validB ref34_in
  rw [ref09_Check_eq hk]
  simp only [Option.bind_some]
  by_cases h0 : checkV p.1 = 0
  · obtain ⟨hf, h1, h2, h3, _⟩ := checkV_zero h0
    have hs := smallB_iff.1 (fits_small hf)
    have hbig : p.1.2.1.length ≤ big := Nat.le_trans hs.1 (by decide)
    rw [ref09_Coinbase_eq]
    simp only [h0, decide_true, Bool.not_true, cond_false, Option.bind_some, Bool.true_and]
    cases coinB p.1.2.1
    · simp only [cond_false, Bool.not_false, Bool.true_and]
      rw [IntWalk.i64_in ((p.1.2.2.1.length : Int) - 1) (by omega)]
      by_cases g1 : -1 ≤ p.2.2.2.1
      · by_cases g2 : p.2.2.2.1 < (p.1.2.2.1.length : Int)
        · have g2' : p.2.2.2.1 ≤ (p.1.2.2.1.length : Int) - 1 := by omega
          simp only [g1, g2, g2', decide_true, cond_true, Option.bind_some, Bool.not_true, cond_false, Bool.true_and]
          rw [loopV_any (step := ref34_Valid_L1) (t := T_089d) p.1.2.1 (fun x => decide ((0 : Int) < (x.2.2.1.length : Int))) (fun i => (((), ((i : Int), ())), (p, ()))) (bad := .inl ((false, ()), ())) (good := .inr (((), ()), (p, ()))) ?_ (fun i hi => ?_) (by simp [ref34_Valid_L1])]
          · cases (p.1.2.1.any fun x => decide ((0 : Int) < (x.2.2.1.length : Int)))
            · simp only [cond_false, Bool.not_false, Bool.true_and, Option.bind_some]
              rw [ref10_Fee_eq hk]
              by_cases g3 : (feeV p.1 p.2.1).2.1 = 0
              · simp [g3]
              · simp [g3]
            · rfl
          · rfl
          · have h5 : (i : Int) < (p.1.2.1.length : Int) := by omega
            simp only [ref34_Valid_L1, h5, decide_true, cond_true, inb_nat hi, i64_up hi hbig]
            cases decide ((0 : Int) < ((rd T_089d p.1.2.1 (i : Int)).2.2.1.length : Int)) <;> rfl
        · have g2' : ¬ p.2.2.2.1 ≤ (p.1.2.2.1.length : Int) - 1 := by omega
          simp [g1, g2, g2']
      · simp [g1]
    · rfl
  · simp [h0]
end Go.PE
end

section
namespace Go.PE
set_option linter.unusedSimpArgs false
set_option linter.unusedVariables false
theorem law34_sane_eq : law34_sane = some ((true, ()), ()) := by kernel_rfl
theorem eqb_bool {b : Bool} : Ty.eqb .bool b b = true := by cases b <;> rfl
theorem plan_ok {sc : List (List Int)} {ver lock fee change : Int} {ins : List D_089d} {outs : List D_b101} {coins : List D_6b85} (hsc : sc.length ≤ 8) (h : MPlan sc ver lock fee change ins outs coins) : TxOk (ver, (ins, (outs, (lock, ())))) where
  ver := by have := h.ver; show 0 ≤ ver ∧ ver ≤ 4294967295; omega
  lock := by have := h.lock; show 0 ≤ lock ∧ lock ≤ 4294967295; omega
  ins := fun x hx => by
    obtain ⟨j, hj, rfl⟩ := List.mem_iff_getElem.1 hx
    have hl : j < ins.length := hj
    have hp := h.ins j _ (List.getElem?_eq_getElem hj)
    obtain ⟨g1, g2, g3⟩ := ptI_ok (j := j) (by have := h.nin; omega)
    have e : (ins[j]).1 = ptI j := hp.pt
    show (ins[j]).1.1.length = 32 ∧ (0 ≤ (ins[j]).1.2.1 ∧ (ins[j]).1.2.1 ≤ 4294967295) ∧ 0 ≤ (ins[j]).2.1 ∧ (ins[j]).2.1 ≤ 4294967295
    rw [e]
    refine ⟨g1, ⟨g2, g3⟩, ?_⟩
    rcases hp.seq with h | h | h <;> rw [h] <;> decide
  outs := fun o ho => by
    obtain ⟨s0, s1, _, _, rfl⟩ := h.outs
    have ho' : o = (5000, (s0, ())) ∨ o = (IntKind.i64.wrap (((10000 * sc.length : Nat) : Int) - 5000 - fee), (s1, ())) := by simpa using ho
    rcases ho' with rfl | rfl
    · show (5000 : Int) ≤ _; omega
    · exact (wrap_within .i64 _).2
theorem two_ok {a b : D_089d} {ver lock : Int} {outs : List D_b101} (h : TxOk (ver, ([a, b], (outs, (lock, ()))))) {ins : List D_089d} (hi : ∀ x ∈ ins, x.1.1.length = 32 ∧ (0 ≤ x.1.2.1 ∧ x.1.2.1 ≤ 4294967295) ∧ 0 ≤ x.2.1 ∧ x.2.1 ≤ 4294967295) : TxOk (ver, (ins, (outs, (lock, ())))) :=
  ⟨h.ver, h.lock, hi, h.outs⟩
theorem J1_some {c1 c2 : Int} (h1 : -9223372036854775808 ≤ c1 ∧ c1 ≤ 9223372036854775807) (h2 : -9223372036854775808 ≤ c2 ∧ c2 ≤ 9223372036854775807) {X : PSt} {a b : D_089d} {outs : List D_b101} {ca cb : D_6b85} {pc : List D_6b85} {pi : List D_089d}
    (hok : TxOk (X.1.1, ([a, b], (outs, (X.1.2.2.2.1, ()))))) :
    ∃ (Y : (Int × Unit × Unit × Int × Unit) × (List D_6b85) × Int × Int × Unit) (qi : List D_089d), law34_BuildValid_J1 c1 c2 (((), ((), ())), (X, (X, (pi, (outs, (pc, (([a, b] : List D_089d), (([ca, cb] : List D_6b85), ())))))))) =
      some (((), ((), ())), (X, (Y, (pi, (outs, (pc, (qi, ()))))))) ∧ Y.1 = X.1 ∧ TxOk (X.1.1, (qi, (outs, (X.1.2.2.2.1, ())))) := by
  unfold law34_BuildValid_J1
  obtain ⟨r, hr, hr0, hr1⟩ := mill_Mod_some (v := c1) (k := 8) (by omega) (by omega) h1
  rw [hr]
  simp only [Option.bind_some]
  have hin : ∀ x ∈ ([a, b] : List D_089d), x.1.1.length = 32 ∧ (0 ≤ x.1.2.1 ∧ x.1.2.1 ≤ 4294967295) ∧ 0 ≤ x.2.1 ∧ x.2.1 ≤ 4294967295 := hok.ins
  by_cases e0 : r = 0
  · rw [bif_t (decide_eq_true e0)]
    obtain ⟨r2, g1, _, _⟩ := mill_Mod_some (v := c2) (k := 3) (by omega) (by omega) h2
    rw [g1]
    exact ⟨_, _, rfl, rfl, hok⟩
  rw [bif_f (decide_eq_false e0)]
  by_cases e1 : r = 1
  · rw [bif_t (decide_eq_true e1)]
    obtain ⟨r2, g1, _, _⟩ := mill_Mod_some (v := c2) (k := 5) (by omega) (by omega) h2
    rw [g1]
    exact ⟨_, _, rfl, rfl, hok⟩
  rw [bif_f (decide_eq_false e1)]
  by_cases e2 : r = 2
  · rw [bif_t (decide_eq_true e2)]
    obtain ⟨r2, g1, g2, g3⟩ := mill_Mod_some (v := c2) (k := 2) (by omega) (by omega) h2
    rw [g1]
    have : r2 = 0 ∨ r2 = 1 := by omega
    have ha := hin a (by simp)
    have hb := hin b (by simp)
    rcases this with rfl | rfl
    · refine ⟨_, _, rfl, rfl, two_ok hok fun x hx => ?_⟩
      have hx' : x = (a.1, (a.2.1, (([([(1 : Int)] : List Int)] : List (List Int)), a.2.2.2))) ∨ x = b := by simpa using hx
      rcases hx' with rfl | rfl
      · exact ha
      · exact hb
    · refine ⟨_, _, rfl, rfl, two_ok hok fun x hx => ?_⟩
      have hx' : x = a ∨ x = (b.1, (b.2.1, (([([(1 : Int)] : List Int)] : List (List Int)), b.2.2.2))) := by simpa using hx
      rcases hx' with rfl | rfl
      · exact ha
      · exact hb
  rw [bif_f (decide_eq_false e2)]
  by_cases e3 : r = 3
  · rw [bif_t (decide_eq_true e3)]
    exact ⟨_, _, rfl, rfl, hok⟩
  rw [bif_f (decide_eq_false e3)]
  by_cases e4 : r = 4
  · rw [bif_t (decide_eq_true e4)]
    exact ⟨_, _, rfl, rfl, hok⟩
  rw [bif_f (decide_eq_false e4)]
  by_cases e5 : r = 5
  · rw [bif_t (decide_eq_true e5)]
    refine ⟨_, _, rfl, rfl, two_ok hok fun x hx => ?_⟩
    have ha := hin a (by simp)
    have hx' : x = a := by simpa using hx
    rw [hx']; exact ha
  rw [bif_f (decide_eq_false e5)]
  by_cases e6 : r = 6
  · rw [bif_t (decide_eq_true e6)]
    refine ⟨_, _, rfl, rfl, two_ok hok fun x hx => ?_⟩
    have hx' : x = (nullP, ((0 : Int), (([] : List (List Int)), ()))) := List.mem_singleton.1 hx
    rw [hx']; decide
  rw [bif_f (decide_eq_false e6)]
  exact ⟨_, _, rfl, rfl, hok⟩
theorem buildValid_eq {l : List Int} {c1 c2 : Int} (hl : Deck l) (h1 : -9223372036854775808 ≤ c1 ∧ c1 ≤ 9223372036854775807) (h2 : -9223372036854775808 ≤ c2 ∧ c2 ≤ 9223372036854775807) : law34_BuildValid l c1 c2 = some ((true, ()), ()) := by
  unfold law34_BuildValid mill_New
  rw [law34_sane_eq, Option.bind_some, bif_f (by rfl), Option.bind_some]
  obtain ⟨s0, d1, d2⟩ := made_Script_some (a := 0) (by omega)
  obtain ⟨s1, d3, d4⟩ := made_Script_some (a := 1) (by omega)
  rw [d1, Option.bind_some, d3, Option.bind_some]
  obtain ⟨X, q, ins, outs, coins, g1, g2, g3⟩ := hl.plan (sc := [s0, s1]) (by simp) (by simp) (p := 0) (Nat.zero_le _)
  rw [show ((0 : Nat) : Int) = 0 from rfl] at g1
  rw [g1, Option.bind_some]
  have hni := g2.nin
  have hnc := g2.ncoin
  have hok := plan_ok (by simp) g2
  match ins, hni with
  | [a, b], _ =>
  match coins, hnc with
  | [ca, cb], _ =>
  refine Eq.trans (bif_t (decide_eq_true (show 2 ≤ lim by decide))) ?_
  refine Eq.trans (bif_t (decide_eq_true (show 2 ≤ lim by decide))) ?_
  obtain ⟨Y, qi, f1, f2, f3⟩ := J1_some (outs := outs) (ca := ca) (cb := cb) (pc := [ca, cb]) (pi := [a, b]) (X := X) h1 h2 hok
  refine Eq.trans (congrArg (fun z => Option.bind z _) f1) ?_
  rw [Option.bind_some]
  refine Eq.trans (congrArg (fun z => Option.bind z _) (build_Valid_eq (p := ((X.1.1, ([a, b], (outs, X.1.2.2.2))), ([ca, cb], X.2.2))) hok)) ?_
  rw [Option.bind_some]
  refine Eq.trans (congrArg (fun z => Option.bind z _) (ref34_Valid_eq (p := ((X.1.1, ([a, b], (outs, X.1.2.2.2))), ([ca, cb], X.2.2))) hok)) ?_
  rw [Option.bind_some]
  refine Eq.trans (bif_t eqb_bool) ?_
  have hq : TxOk (Y.1.1, (qi, (outs, Y.1.2.2.2))) := by rw [f2]; exact f3
  refine Eq.trans (congrArg (fun z => Option.bind z _) (build_Valid_eq (p := ((Y.1.1, (qi, (outs, Y.1.2.2.2))), Y.2)) hq)) ?_
  rw [Option.bind_some]
  refine Eq.trans (congrArg (fun z => Option.bind z _) (ref34_Valid_eq (p := ((Y.1.1, (qi, (outs, Y.1.2.2.2))), Y.2)) hq)) ?_
  rw [Option.bind_some]
  exact congrArg (fun z => some ((z, ()), ())) eqb_bool
theorem buildValid_pure (xs : TT.dens (holes [.slice (.int .i64), .int .i64, .int .i64])) (h : WfAll [.slice (.int .i64), .int .i64, .int .i64] xs) : law34_BuildValid xs.1 xs.2.1 xs.2.2.1 = some ((true, ()), ()) :=
  buildValid_eq (Deck.of h.1) (Wf.i64 h.2.1) (Wf.i64 h.2.2.1)
end Go.PE
end
