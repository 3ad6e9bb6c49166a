/- An evaluator of pure values over pieces of Go is sound against the machine of the library; no condition. -/
import Derived.Test.YtmhkkhdpcnehbaaQa
import Derived.Laws.BytesString
import Derived.Lib.ConvBytes
import Derived.Great.BuildSlice
section
namespace Go.PE
set_option linter.unusedSimpArgs false
section
variable {P : Program} {μ : Mp} {w : World} {h hp : Heap}

theorem getElem_bytes {s : ByteArray} {i : Nat} (hi : i < s.size) : s[i]? = some s[i] ∧ (s.data.toList.map fun c => (c.toNat : Int))[i]? = some ((s[i].toNat : Nat) : Int) := by
  refine ⟨by simp [hi], ?_⟩
  have : i < s.data.toList.length := by rw [Array.length_toList]; exact hi
  rw [List.getElem?_map, List.getElem?_eq_getElem this]; rfl
theorem index_ok {T : Ty} {t : TypeId} (hT : fitTy P T (.id t) = true) {x r : TV} {k : IntKind} {i : Int} {v : Value} (hf : fitB T x = true) (hk : indexK x i some = some r)
    (hx : VR μ w x v) : Gives P μ w (Instr.index t v (.int k i)) r := by
  unfold indexK at hk
  split at hk
  · rename_i n u xs
    replace hk := bif_some hk; obtain ⟨hi, hk⟩ := hk
    obtain ⟨h0, h1⟩ := inb_facts hi
    cases hk
    have eT := fit_pv_eq hf
    subst eT
    obtain ⟨u', hu, hfu, hpos, _⟩ := arr_und hT
    rcases hx with ⟨_, cs, rfl, g1, g2, g3⟩ | ⟨hna, _⟩
    · obtain ⟨v', e, hv⟩ := run_part (μ := μ) hfu (x := .pv u (rd u xs i)) (cs := cs) (off := i.toNat * u.size) fit_pv (g3 i.toNat _ (rd_get h0 (by rw [g1]; exact h1)))
      refine ⟨v', ?_, hv⟩
      simp [Instr.index, asIntOf, run_underlying_of hu, h0, h1, run_sizeOf hfu, e]
    · simp [aggTV, Ty.isAgg] at hna
  · rename_i xs
    replace hk := bif_some hk; obtain ⟨hi, hk⟩ := hk
    obtain ⟨h0, h1⟩ := inb_facts hi
    cases hk
    have eT := fit_pv_eq hf
    subst eT
    obtain ⟨s, rfl, rfl, _⟩ := hx.str
    simp only [fitTy, Bool.and_eq_true] at hT
    obtain ⟨_, hT⟩ := hT
    have hl : i.toNat < s.size := by
      rw [List.length_map, Array.length_toList] at h1
      have : (s.data.size : Int) = (s.size : Int) := rfl
      omega
    obtain ⟨g1, g2⟩ := getElem_bytes hl
    have := rd_get (t := .int .u8) h0 h1
    rw [g2] at this
    cases hu : P.underlying t with
    | none => rw [hu] at hT; cases hT
    | some u =>
      rw [hu] at hT
      cases u <;> simp at hT
      refine ⟨.int .u8 (s[i.toNat].toNat : Nat), ?_, ?_⟩
      · simp [Instr.index, asIntOf, run_underlying_of hu, h0, g1]
      · have e : rd (.int .u8) (s.data.toList.map fun c => (c.toNat : Int)) i = ((s[i.toNat].toNat : Nat) : Int) := (Option.some.inj this).symm
        rw [e]
        refine VR.mk_int ⟨?_, ?_⟩
        · show (0 : Int) ≤ _; omega
        · have := s[i.toNat].toNat_lt
          show _ ≤ (255 : Int); omega
  · cases hk
theorem field_ok {T : Ty} {t : TypeId} (hT : fitTy P T (.id t) = true) {x r : TV} {f : Nat} {v : Value} (hf : fitB T x = true) (hk : fieldTV x f = some r)
    (hx : VR μ w x v) : Gives P μ w (Instr.field t v f) r := by
  have hagg : aggTV x = true ∧ ∃ a b, T = .cons a b := by
    cases x <;> (try simp [fieldTV] at hk)
    · rename_i u y
      have e := fit_pv_eq hf
      subst e
      cases u <;> first | exact ⟨rfl, _, _, rfl⟩ | (cases f <;> cases hk)
    · cases T <;> simp [fitB] at hf
      exact ⟨rfl, _, _, rfl⟩
  rcases hx with ⟨_, cs, rfl, hr⟩ | ⟨hna, _⟩
  · obtain ⟨k, U, g1, g2, g3, g4, _⟩ := field_part hk hf hr
    have ho : T.offs [f] = some (k, U) := by rw [g1, offs_nil]; simp
    obtain ⟨fs, fl, hu, h1, h2, h3, _⟩ := struct_und hT hagg.2 ho
    obtain ⟨v', e, hv⟩ := run_part (μ := μ) h3 (cs := cs) (off := k) g3 g2
    refine ⟨v', ?_, hv⟩
    simp [Instr.field, run_underlying_of hu, h1, asAgg, h2, e]
  · rw [hagg.1] at hna; cases hna
theorem tup_get : ∀ {l r : TV} {i : Nat} {vs : List Value}, R μ w l true vs → fieldTV l i = some r → ∃ v, vs[i]? = some v ∧ VR μ w r v := by
  intro l
  induction l with
  | pv t x =>
    intro r i vs hr hf
    obtain ⟨rfl, _⟩ := hr
    cases i <;> cases hf
  | ncons a as _ ih =>
    intro r i vs hr hf
    obtain ⟨v, vs', rfl, h1, h2⟩ := hr
    cases i with
    | zero => cases hf; exact ⟨v, rfl, h1⟩
    | succ i =>
      obtain ⟨u, g1, g2⟩ := ih h2 hf
      exact ⟨u, by simpa using g1, g2⟩
  | _ => intro r i vs hr hf; cases i <;> cases hf
theorem extract_ok {l r : TV} {f : Nat} {v : Value} (hk : fieldTV l f = some r) (hx : VR μ w (.tup l) v) : Gives P μ w (Instr.extract v f) r := by
  obtain ⟨vs, h1, h2⟩ := hx.scal rfl
  cases h1
  obtain ⟨u, g1, g2⟩ := tup_get h2 hk
  refine ⟨u, ?_, g2⟩
  have : vs[f]? = some u := by simpa using g1
  simp [Instr.extract, this]

/-! slices -/
/-- A bound's value. -/
def BV (μ : Mp) (w : World) : Option TV → Option Value → Prop
  | none, none => True
  | some x, some v => VR μ w x v
  | _, _ => False
theorem bound_ok {α : Type} {b : Option TV} {bv : Option Value} {d m : Nat} {K : Nat → Option α} {r : α} (hk : boundK b d m K = some r) (hb : BV μ w b bv) :
    ∃ n, K n = some r ∧ ((b = none ∧ bv = none ∧ n = d) ∨ (∃ k, bv = some (.int k (n : Int)) ∧ n ≤ m)) := by
  unfold boundK at hk
  split at hk
  · cases bv with
    | none => exact ⟨d, hk, .inl ⟨rfl, rfl, rfl⟩⟩
    | some v => exact hb.elim
  · rename_i k i
    replace hk := bif_some hk; obtain ⟨hi, hk⟩ := hk
    simp only [Bool.and_eq_true, decide_eq_true_eq] at hi
    cases bv with
    | none => exact hb.elim
    | some v =>
      obtain ⟨rfl, _⟩ := VR.int hb
      exact ⟨i.toNat, hk, .inr ⟨k, by rw [Int.toNat_of_nonneg hi.1], Int.toNat_le.2 hi.2⟩⟩
  · cases hk
theorem run_sliceBounds {isSlice : Bool} {len cap l r : Nat} {lo hi : Option Value} (hlc : len ≤ cap) (hr : (hi = none ∧ r = len) ∨ (∃ k, hi = some (.int k (r : Int)) ∧ r ≤ len))
    (hl : (lo = none ∧ l = 0) ∨ (∃ k, lo = some (.int k (l : Int)) ∧ l ≤ r)) : (Instr.sliceBounds isSlice len cap lo hi none).run P w = .ok (l, r, cap) w ∧ l ≤ r ∧ r ≤ len := by
  have hsb : ∀ (k : IntKind) (i y : Nat) (code : BoundsCode), i ≤ y → (Instr.sliceBound (.int k (i : Int)) y code).run P w = .ok i w := by
    intro k i y code hi
    have h1 : (0 : Int) ≤ (i : Int) := by omega
    have h2 : (i : Int) ≤ (y : Int) := by omega
    simp [Instr.sliceBound, asIntOf, h1, h2]
  rcases hr with ⟨rfl, rfl⟩ | ⟨k, rfl, hr⟩
  · rcases hl with ⟨rfl, rfl⟩ | ⟨k', rfl, hl⟩
    · exact ⟨by simp [Instr.sliceBounds], by omega, by omega⟩
    · exact ⟨by simp [Instr.sliceBounds, hsb _ _ _ _ hl], hl, by omega⟩
  · rcases hl with ⟨rfl, rfl⟩ | ⟨k', rfl, hl⟩
    · exact ⟨by simp [Instr.sliceBounds, hsb _ _ _ _ (Nat.le_trans hr hlc)], by omega, hr⟩
    · exact ⟨by simp [Instr.sliceBounds, hsb _ _ _ _ (Nat.le_trans hr hlc), hsb _ _ _ _ hl], hl, hr⟩
theorem bound_hi {b : Option TV} {bv : Option Value} {d n m : Nat} (hb : (b = none ∧ bv = none ∧ n = d) ∨ (∃ k, bv = some (.int k (n : Int)) ∧ n ≤ m)) : (bv = none ∧ n = d) ∨ (∃ k, bv = some (.int k (n : Int)) ∧ n ≤ m) := by
  rcases hb with ⟨_, h⟩ | h
  · exact .inl h
  · exact .inr h
theorem run_sliceAt_sl {U : Ty} {t : TypeId} (hT : fitTy P (.slice U) (.id t) = true) {a : Option Addr} {len cap l r : Nat} {lo hi : Option Value}
    (hb : (Instr.sliceBounds true len cap lo hi none).run P w = .ok (l, r, cap) w) :
    (Instr.sliceAt t (.slice a len cap) lo hi none).run P w = .ok (.slice (if cap = l then a else a.map (·.add (l * U.size))) (r - l) (cap - l)) w := by
  obtain ⟨u, hu, hfu, _⟩ := slice_und hT
  simp [Instr.sliceAt, Instr.slice, run_underlying_of hu, hb, run_sizeOf hfu]
theorem run_sliceAt_ar {U : Ty} {n : Nat} {t : TypeId} (hT : fitTy P (.arr n U) (.id t) = true) {b off l r : Nat} {lo hi : Option Value}
    (hb : (Instr.sliceBounds false n n lo hi none).run P w = .ok (l, r, n) w) :
    (Instr.sliceAt t (.pointer (some ⟨b, off, none⟩)) lo hi none).run P w = .ok (.slice (some (if n = l then ⟨b, off, none⟩ else ⟨b, off + l * U.size, none⟩)) (r - l) (n - l)) w := by
  obtain ⟨u, hu, hfu, _⟩ := arr_und hT
  simp [Instr.sliceAt, Instr.sureAddr, run_underlying_of hu, hb, run_sizeOf hfu, add_addr]
theorem slice_hdr {blk : Option Nat} {s sz lim' len c l r : Nat} {a : Option Addr} (hh : HdrAt blk s sz lim' len (.slice a len c)) (hlr : l ≤ r) (hr : r ≤ len) :
    HdrAt blk (s + l * sz) sz lim' (r - l) (.slice (if c = l then a else a.map (·.add (l * sz))) (r - l) (c - l)) := by
  unfold HdrAt at hh ⊢
  cases blk with
  | none =>
    obtain ⟨h1, h2⟩ := hh
    cases h1
    have : l = 0 := by omega
    subst this
    have : r = 0 := by omega
    subst this
    exact ⟨rfl, rfl⟩
  | some b =>
    obtain ⟨off, cap, h1, h2, h3, h4⟩ := hh
    cases h1
    by_cases hcl : c = l
    · subst hcl
      rw [if_pos rfl]
      refine ⟨off, 0, by simp, by omega, ?_, fun h => (h rfl).elim⟩
      omega
    · rw [if_neg hcl]
      have hoff : off = s := h4 (by omega)
      subst hoff
      refine ⟨off + l * sz, c - l, by simp [add_addr], by omega, ?_, fun _ => rfl⟩
      rw [Nat.add_assoc, ← Nat.add_mul, Nat.add_sub_cancel' (by omega)]; exact h3

theorem slice_ok (hh : HeapR μ w h) (hs : HSub hp h) {T : Ty} {t : TypeId} (hT : fitTy P T (.id t) = true) {x r : TV} {lo hi : Option TV} {lov hiv : Option Value} {v : Value}
    (hk : sliceK hp T x lo hi some = some r) (hx : VR μ w x v) (hlo : BV μ w lo lov) (hhi : BV μ w hi hiv) : Gives P μ w (Instr.sliceAt t v lov hiv none) r := by
  unfold sliceK at hk
  split at hk
  · rename_i xs
    replace hk := bif_some hk; obtain ⟨hb, hk⟩ := hk
    have eT := Ty.eq_of_beq hb
    subst eT
    replace hk := bound_ok hk hhi; obtain ⟨rr, hk, hr⟩ := hk
    replace hk := bound_ok hk hlo; obtain ⟨ll, hk, hl⟩ := hk
    cases hk
    obtain ⟨s, rfl, rfl, hbig⟩ := hx.str
    have hlen : (s.data.toList.map fun c => (c.toNat : Int)).length = s.size := by rw [List.length_map, Array.length_toList]; rfl
    rw [hlen] at hr
    obtain ⟨e, h1, h2⟩ := run_sliceBounds (P := P) (w := w) (isSlice := false) (Nat.le_refl s.size) (bound_hi hr) (bound_hi hl)
    simp only [fitTy, Bool.and_eq_true] at hT
    obtain ⟨_, hT⟩ := hT
    cases hu : P.underlying t with
    | none => rw [hu] at hT; cases hT
    | some u =>
      rw [hu] at hT
      cases u <;> simp at hT
      refine ⟨.string (s.extract ll rr), by simp [Instr.sliceAt, Instr.slice, run_underlying_of hu, e], ?_⟩
      have : sub (s.data.toList.map fun c => (c.toNat : Int)) ll (rr - ll) = (s.extract ll rr).data.toList.map fun c => (c.toNat : Int) := by
        unfold sub; simp
      rw [this]
      exact VR.mk_str (by rw [ByteArray.size_extract]; omega)
  · rename_i u xs
    replace hk := bif_some hk; obtain ⟨hb, hk⟩ := hk
    have eT := Ty.eq_of_beq hb
    subst eT
    replace hk := bound_ok hk hhi; obtain ⟨rr, hk, hr⟩ := hk
    replace hk := bound_ok hk hlo; obtain ⟨ll, hk, hl⟩ := hk
    cases hk
    obtain ⟨a, cap, g1, g2, g3, g4⟩ := hx.scal rfl
    cases g1
    obtain ⟨e, h1, h2⟩ := run_sliceBounds (P := P) (w := w) (isSlice := true) g2 (bound_hi hr) (bound_hi hl)
    refine ⟨_, run_sliceAt_sl hT e, .inr ⟨rfl, ?_⟩⟩
    have hsl : (sub xs ll (rr - ll)).length = rr - ll := sub_len (by omega)
    refine ⟨_, cap - ll, by rw [hsl], by omega, by omega, ?_⟩
    cases a with
    | none =>
      simp only [] at g4
      have : ll = 0 := by omega
      simp [g4, this]
    | some a =>
      by_cases hcl : cap = ll
      · rw [if_pos hcl]; intro hpos; omega
      · rw [if_neg hcl]
        simp only [Option.map_some]
        intro hpos
        obtain ⟨g5, g6, g7⟩ := g4 (by omega)
        have ha : a = ⟨a.block, a.off, none⟩ := by cases a; simp at g5; subst g5; rfl
        rw [ha, add_addr]
        refine ⟨rfl, g6, fun i x hx => ?_⟩
        obtain ⟨c, f1, f2⟩ := g7 (ll + i) x (sub_get hx)
        exact ⟨c, by rw [show a.off + ll * u.size + i * u.size = a.off + (ll + i) * u.size from by rw [Nat.add_mul]; omega]; exact f1, f2⟩
  · split at hk
    · rename_i u
      replace hk := bound_ok hk hhi; obtain ⟨rr, hk, hr⟩ := hk
      replace hk := bound_ok hk hlo; obtain ⟨ll, hk, hl⟩ := hk
      cases hk
      have hv : [v] = [Value.slice none 0 0] := hx.scal rfl
      cases hv
      obtain ⟨e, h1, h2⟩ := run_sliceBounds (P := P) (w := w) (isSlice := true) (Nat.le_refl 0) (bound_hi hr) (bound_hi hl)
      refine ⟨_, run_sliceAt_sl hT e, .inr ⟨rfl, ?_⟩⟩
      have h3 : ll = 0 := by omega
      have h4 : rr = 0 := by omega
      subst h3; subst h4
      rfl
    · cases hk
  · rename_i o
    replace hk := row_ok hh hs hk; obtain ⟨u, xs, hk, e0, k0, he, hrow, hvec, hblk⟩ := hk
    replace hk := bif_some hk; obtain ⟨hb, hk⟩ := hk
    have eT := Ty.eq_of_beq hb
    subst eT
    replace hk := bound_ok hk hhi; obtain ⟨rr, hk, hr⟩ := hk
    replace hk := bound_ok hk hlo; obtain ⟨ll, hk, hl⟩ := hk
    cases hk
    obtain ⟨a, m, c, g1, hu, g2⟩ := hx.scal rfl
    cases g1
    obtain ⟨g3, g4⟩ := g2 e0 he
    obtain ⟨f1, f2, f3, f4⟩ := hvec g3
    have hm : m = xs.length ∧ m ≤ c := by
      unfold HdrAt at g4
      cases hbk : e0.blk with
      | none => rw [hbk] at g4; obtain ⟨g4, g5⟩ := g4; cases g4; exact ⟨by omega, Nat.le_refl _⟩
      | some b => rw [hbk] at g4; obtain ⟨_, _, g4, g5, _⟩ := g4; cases g4; exact ⟨f2, by omega⟩
    obtain ⟨rfl, hmc⟩ := hm
    obtain ⟨e, h1, h2⟩ := run_sliceBounds (P := P) (w := w) (isSlice := true) hmc (bound_hi hr) (bound_hi hl)
    rw [f2] at g4
    have hlb : lim ≤ big := by decide
    refine ⟨_, run_sliceAt_sl hT e, .inr ⟨rfl, _, _, rfl, ?_, by omega, hu, fun e' he' => ?_⟩⟩
    · intro hnone
      by_cases hcl : c = ll
      · omega
      · rw [if_neg hcl] at hnone
        cases a with
        | none =>
          unfold HdrAt at g4
          cases hbk : e0.blk with
          | none => rw [hbk] at g4; omega
          | some b => rw [hbk] at g4; obtain ⟨_, _, g4, _⟩ := g4; cases g4
        | some a => cases hnone
    · rw [he] at he'; cases he'
      refine ⟨k0, u, xs.length, hrow, by omega, ?_⟩
      have := slice_hdr g4 h1 h2
      rw [f4, f3] at *
      exact this
  · rename_i o p off len
    replace hk := row_ok hh hs hk; obtain ⟨u, xs, hk, e0, k0, he, hrow, hvec, hblk⟩ := hk
    replace hk := bif_some hk; obtain ⟨hb, hk⟩ := hk
    have eT := Ty.eq_of_beq hb
    subst eT
    replace hk := bound_ok hk hhi; obtain ⟨rr, hk, hr⟩ := hk
    replace hk := bound_ok hk hlo; obtain ⟨ll, hk, hl⟩ := hk
    cases hk
    obtain ⟨a, c, g1, ga, gb, hu, g2⟩ := hx.scal rfl
    cases g1
    obtain ⟨k1, u1, n1, g3, g4, g5⟩ := g2 e0 he
    rw [hrow] at g3; cases g3
    have hmc : len ≤ c := by
      unfold HdrAt at g5
      cases hbk : e0.blk with
      | none => rw [hbk] at g5; omega
      | some b => rw [hbk] at g5; obtain ⟨_, _, g5, g6, _⟩ := g5; cases g5; exact g6
    obtain ⟨e, h1, h2⟩ := run_sliceBounds (P := P) (w := w) (isSlice := true) hmc (bound_hi hr) (bound_hi hl)
    refine ⟨_, run_sliceAt_sl hT e, .inr ⟨rfl, _, _, rfl, ?_, by omega, hu, fun e' he' => ?_⟩⟩
    · intro hnone
      by_cases hcl : c = ll
      · omega
      · rw [if_neg hcl] at hnone
        cases a with
        | none => have := ga rfl; omega
        | some a => cases hnone
    · rw [he] at he'; cases he'
      refine ⟨k0, u, xs.length, hrow, by omega, ?_⟩
      have := slice_hdr g5 h1 h2
      rw [show e0.start + k0 + (off + ll) * u.size = e0.start + k0 + off * u.size + ll * u.size from by rw [Nat.add_mul]; omega]
      exact this
  · rename_i o p
    split at hk
    · rename_i B c hq
      obtain ⟨e0, he, g1, g2, g0, b0, cs0, gblk, gown, gst, _⟩ := hh.ob _ _ (hs _ _ hq)
      split at hk
      · rename_i k0 n u hp'
        replace hk := bif_some hk; obtain ⟨hb, hk⟩ := hk
        have eT := Ty.eq_of_beq hb
        subst eT
        replace hk := row_ok hh hs hk; obtain ⟨u', xs', hk, e9, k9, he9, hrow9, _, hblk9⟩ := hk
        replace hk := bound_ok hk hhi; obtain ⟨rr, hk, hr⟩ := hk
        replace hk := bound_ok hk hlo; obtain ⟨ll, hk, hl⟩ := hk
        cases hk
        rw [he] at he9; cases he9
        obtain ⟨a, f1, hu, f2⟩ := hx.scal rfl
        cases f1
        obtain ⟨k1, f3, f4, f5⟩ := f2 e0 he
        have hoff : e0.off p = some k0 := by simp [Ent.off, g1, g2, hp']
        rw [hoff] at f3; cases f3
        obtain ⟨e, h1, h2⟩ := run_sliceBounds (P := P) (w := w) (isSlice := false) (Nat.le_refl n) (bound_hi hr) (bound_hi hl)
        obtain ⟨_, _, _, _, _, hn1, hn⟩ := arr_und hT
        refine ⟨_, by rw [f5]; exact run_sliceAt_ar hT e, .inr ⟨rfl, _, _, rfl, fun h => (by cases h), by unfold big; omega, hu, fun e' he' => ?_⟩⟩
        rw [he] at he'; cases he'
        refine ⟨k0, u, n, by simp [Ent.row, g1, g2, hp'], by omega, ?_⟩
        rw [f4]
        have hlim : e0.start + k0 + n * u.size ≤ e0.sz := by
          rw [gblk] at hblk9
          have hr9 : e0.row p = some (k0, u, n) := by simp [Ent.row, g1, g2, hp']
          rw [hr9] at hrow9
          cases hrow9
          exact hblk9.2.1
        by_cases hnl : n = ll
        · rw [if_pos hnl]
          exact ⟨e0.start + k0, n - ll, rfl, by omega, by rw [hnl, Nat.sub_self]; omega, fun h => by omega⟩
        · rw [if_neg hnl]
          refine ⟨_, n - ll, rfl, by omega, ?_, fun _ => rfl⟩
          rw [Nat.add_assoc, ← Nat.add_mul, Nat.add_sub_cancel' (by omega)]; exact hlim
      · cases hk
    · cases hk
  · rename_i n u xs
    replace hk := bif_some hk; obtain ⟨hb, hk⟩ := hk
    have eT := Ty.eq_of_beq hb
    subst eT
    replace hk := bound_ok hk hhi; obtain ⟨rr, hk, hr⟩ := hk
    replace hk := bound_ok hk hlo; obtain ⟨ll, hk, hl⟩ := hk
    cases hk
    obtain ⟨b, off, c, f1, f2, f3, f4, f5, f6⟩ := hx.scal rfl
    cases f1
    obtain ⟨e, h1, h2⟩ := run_sliceBounds (P := P) (w := w) (isSlice := false) (Nat.le_refl n) (bound_hi hr) (bound_hi hl)
    obtain ⟨_, _, _, _, _, hn1, hn⟩ := arr_und hT
    refine ⟨_, run_sliceAt_ar hT e, .inr ⟨rfl, ?_⟩⟩
    have hsl : (sub xs ll (rr - ll)).length = rr - ll := sub_len (by omega)
    refine ⟨_, n - ll, by rw [hsl], by omega, by rw [hsl]; unfold big; omega, ?_⟩
    intro hpos
    rw [hsl] at hpos
    rw [if_neg (by omega)]
    refine ⟨rfl, f2, fun i x hx => ⟨_, ?_, f6 (ll + i) x (sub_get hx)⟩⟩
    have := f3.part (k := (ll + i) * u.size) (n := u.size)
    rw [show off + ll * u.size + i * u.size = off + (ll + i) * u.size from by rw [Nat.add_mul]; omega]
    exact this
  · cases hk

theorem run_sliceBoundsM {isSlice : Bool} {len cap l r q : Nat} {lo : Option Value} {hv mv : Value} (hlc : len ≤ cap) (hm : ∃ k, mv = .int k (q : Int) ∧ q ≤ len) (hr : ∃ k, hv = .int k (r : Int) ∧ r ≤ q)
    (hl : (lo = none ∧ l = 0) ∨ (∃ k, lo = some (.int k (l : Int)) ∧ l ≤ r)) : (Instr.sliceBounds isSlice len cap lo (some hv) (some mv)).run P w = .ok (l, r, q) w ∧ l ≤ r ∧ r ≤ q := by
  have hsb : ∀ (k : IntKind) (i y : Nat) (code : BoundsCode), i ≤ y → (Instr.sliceBound (.int k (i : Int)) y code).run P w = .ok i w := by
    intro k i y code hi
    have h1 : (0 : Int) ≤ (i : Int) := by omega
    have h2 : (i : Int) ≤ (y : Int) := by omega
    simp [Instr.sliceBound, asIntOf, h1, h2]
  obtain ⟨km, rfl, hm⟩ := hm
  obtain ⟨kh, rfl, hr⟩ := hr
  rcases hl with ⟨rfl, rfl⟩ | ⟨k', rfl, hl⟩
  · exact ⟨by simp [Instr.sliceBounds, hsb _ _ _ _ (Nat.le_trans hm hlc), hsb _ _ _ _ hr], by omega, hr⟩
  · exact ⟨by simp [Instr.sliceBounds, hsb _ _ _ _ (Nat.le_trans hm hlc), hsb _ _ _ _ hr, hsb _ _ _ _ hl], hl, hr⟩
theorem run_sliceAt_slM {U : Ty} {t : TypeId} (hT : fitTy P (.slice U) (.id t) = true) {a : Option Addr} {len cap l r q : Nat} {lo hi mx : Option Value}
    (hb : (Instr.sliceBounds true len cap lo hi mx).run P w = .ok (l, r, q) w) :
    (Instr.sliceAt t (.slice a len cap) lo hi mx).run P w = .ok (.slice (if q = l then a else a.map (·.add (l * U.size))) (r - l) (q - l)) w := by
  obtain ⟨u, hu, hfu, _⟩ := slice_und hT
  simp [Instr.sliceAt, Instr.slice, run_underlying_of hu, hb, run_sizeOf hfu]
theorem slice_hdrM {blk : Option Nat} {s sz lim' len c l r q : Nat} {a : Option Addr} (hh : HdrAt blk s sz lim' len (.slice a len c)) (hlr : l ≤ r) (hr : r ≤ q) (hq : q ≤ len) :
    HdrAt blk (s + l * sz) sz lim' (r - l) (.slice (if q = l then a else a.map (·.add (l * sz))) (r - l) (q - l)) := by
  unfold HdrAt at hh ⊢
  cases blk with
  | none =>
    obtain ⟨h1, h2⟩ := hh
    cases h1
    have : l = 0 := by omega
    subst this
    have : r = 0 := by omega
    subst this
    have : q = 0 := by omega
    subst this
    exact ⟨rfl, rfl⟩
  | some b =>
    obtain ⟨off, cap, h1, h2, h3, h4⟩ := hh
    cases h1
    by_cases hcl : q = l
    · subst hcl
      rw [if_pos rfl]
      refine ⟨off, 0, by simp, by omega, ?_, fun h => (h rfl).elim⟩
      omega
    · rw [if_neg hcl]
      have hoff : off = s := h4 (by omega)
      subst hoff
      refine ⟨off + l * sz, q - l, by simp [add_addr], by omega, ?_, fun _ => rfl⟩
      rw [Nat.add_assoc, ← Nat.add_mul, Nat.add_sub_cancel' (by omega)]
      have : q * sz ≤ c * sz := Nat.mul_le_mul_right _ (by omega)
      omega
theorem bound_some {α : Type} {b : Option TV} {bv : Option Value} {d m : Nat} {K : Nat → Option α} {r : α} (hk : boundK b d m K = some r) (hb : BV μ w b bv) (hs : b.isSome = true) :
    ∃ n v, K n = some r ∧ bv = some v ∧ ∃ k, v = .int k (n : Int) ∧ n ≤ m := by
  obtain ⟨n, h1, h2⟩ := bound_ok hk hb
  rcases h2 with ⟨h2, _⟩ | ⟨k, h2, h3⟩
  · rw [h2] at hs; cases hs
  · exact ⟨n, _, h1, h2, k, rfl, h3⟩
theorem sliceMax_ok (hh : HeapR μ w h) (hs : HSub hp h) {T : Ty} {t : TypeId} (hT : fitTy P T (.id t) = true) {x r : TV} {lo hi m : Option TV} {lov hiv mv : Option Value} {v : Value}
    (hk : sliceMaxK hp T x lo hi m some = some r) (hx : VR μ w x v) (hlo : BV μ w lo lov) (hhi : BV μ w hi hiv) (hmv : BV μ w m mv) : Gives P μ w (Instr.sliceAt t v lov hiv mv) r := by
  unfold sliceMaxK at hk
  split at hk
  · rename_i u xs
    replace hk := bif_some hk; obtain ⟨hb, hk⟩ := hk
    simp only [Bool.and_eq_true] at hb
    obtain ⟨hb, hhs, hms⟩ := hb
    have eT := Ty.eq_of_beq hb
    subst eT
    replace hk := bound_some hk hmv hms; obtain ⟨qq, qv, hk, rfl, hq⟩ := hk
    replace hk := bound_some hk hhi hhs; obtain ⟨rr, rv, hk, rfl, hr⟩ := hk
    replace hk := bound_ok hk hlo; obtain ⟨ll, hk, hl⟩ := hk
    replace hk := bif_some hk; obtain ⟨hqr, hk⟩ := hk
    have hqr := natBeq_eq hqr
    cases hk
    obtain ⟨a, cap, g1, g2, g3, g4⟩ := hx.scal rfl
    cases g1
    obtain ⟨e, h1, h2⟩ := run_sliceBoundsM (P := P) (w := w) (isSlice := true) g2 hq hr (bound_hi hl)
    obtain ⟨_, _, hqn⟩ := hq
    have hsl : (sub xs ll (rr - ll)).length = rr - ll := sub_len (by omega)
    refine ⟨_, run_sliceAt_slM hT e, .inr ⟨rfl, _, by rw [hsl, hqr], ?_⟩⟩
    refine ⟨_, qq - ll, by rw [hsl], by omega, by omega, ?_⟩
    cases a with
    | none =>
      simp only [] at g4
      have : ll = 0 := by omega
      have : qq = 0 := by omega
      simp [this]
    | some a =>
      by_cases hcl : qq = ll
      · rw [if_pos hcl]; intro hpos; omega
      · rw [if_neg hcl]
        simp only [Option.map_some]
        intro hpos
        obtain ⟨g5, g6, g7⟩ := g4 (by omega)
        have ha : a = ⟨a.block, a.off, none⟩ := by cases a; simp at g5; subst g5; rfl
        rw [ha, add_addr]
        refine ⟨rfl, g6, fun i x hx => ?_⟩
        obtain ⟨c, f1, f2⟩ := g7 (ll + i) x (sub_get hx)
        exact ⟨c, by rw [show a.off + ll * u.size + i * u.size = a.off + (ll + i) * u.size from by rw [Nat.add_mul]; omega]; exact f1, f2⟩
  · split at hk
    · rename_i u
      replace hk := bif_some hk; obtain ⟨hb, hk⟩ := hk
      simp only [Bool.and_eq_true] at hb
      obtain ⟨hhs, hms⟩ := hb
      replace hk := bound_some hk hmv hms; obtain ⟨qq, qv, hk, rfl, hq⟩ := hk
      replace hk := bound_some hk hhi hhs; obtain ⟨rr, rv, hk, rfl, hr⟩ := hk
      replace hk := bound_ok hk hlo; obtain ⟨ll, hk, hl⟩ := hk
      cases hk
      have hv : [v] = [Value.slice none 0 0] := hx.scal rfl
      cases hv
      obtain ⟨e, h1, h2⟩ := run_sliceBoundsM (P := P) (w := w) (isSlice := true) (Nat.le_refl 0) hq hr (bound_hi hl)
      obtain ⟨_, _, hqn⟩ := hq
      refine ⟨_, run_sliceAt_slM hT e, .inr ⟨rfl, ?_⟩⟩
      have h3 : ll = 0 := by omega
      have h4 : rr = 0 := by omega
      have h5 : qq = 0 := by omega
      subst h3; subst h4; subst h5
      rfl
    · cases hk
  · rename_i o
    replace hk := row_ok hh hs hk; obtain ⟨u, xs, hk, e0, k0, he, hrow, hvec, hblk⟩ := hk
    replace hk := bif_some hk; obtain ⟨hb, hk⟩ := hk
    simp only [Bool.and_eq_true] at hb
    obtain ⟨hb, hhs, hms⟩ := hb
    have eT := Ty.eq_of_beq hb
    subst eT
    replace hk := bound_some hk hmv hms; obtain ⟨qq, qv, hk, rfl, hq⟩ := hk
    replace hk := bound_some hk hhi hhs; obtain ⟨rr, rv, hk, rfl, hr⟩ := hk
    replace hk := bound_ok hk hlo; obtain ⟨ll, hk, hl⟩ := hk
    cases hk
    obtain ⟨a, m, c, g1, hu, g2⟩ := hx.scal rfl
    cases g1
    obtain ⟨g3, g4⟩ := g2 e0 he
    obtain ⟨f1, f2, f3, f4⟩ := hvec g3
    have hm : m = xs.length ∧ m ≤ c := by
      unfold HdrAt at g4
      cases hbk : e0.blk with
      | none => rw [hbk] at g4; obtain ⟨g4, g5⟩ := g4; cases g4; exact ⟨by omega, Nat.le_refl _⟩
      | some b => rw [hbk] at g4; obtain ⟨_, _, g4, g5, _⟩ := g4; cases g4; exact ⟨f2, by omega⟩
    obtain ⟨rfl, hmc⟩ := hm
    obtain ⟨e, h1, h2⟩ := run_sliceBoundsM (P := P) (w := w) (isSlice := true) hmc hq hr (bound_hi hl)
    obtain ⟨_, _, hqn⟩ := hq
    rw [f2] at g4
    have hlb : lim ≤ big := by decide
    refine ⟨_, run_sliceAt_slM hT e, .inr ⟨rfl, _, _, rfl, ?_, by omega, hu, fun e' he' => ?_⟩⟩
    · intro hnone
      by_cases hcl : qq = ll
      · omega
      · rw [if_neg hcl] at hnone
        cases a with
        | none =>
          unfold HdrAt at g4
          cases hbk : e0.blk with
          | none => rw [hbk] at g4; omega
          | some b => rw [hbk] at g4; obtain ⟨_, _, g4, _⟩ := g4; cases g4
        | some a => cases hnone
    · rw [he] at he'; cases he'
      refine ⟨k0, u, xs.length, hrow, by omega, ?_⟩
      have := slice_hdrM g4 h1 h2 hqn
      rw [f4, f3] at *
      exact this
  · rename_i o p off len
    replace hk := row_ok hh hs hk; obtain ⟨u, xs, hk, e0, k0, he, hrow, hvec, hblk⟩ := hk
    replace hk := bif_some hk; obtain ⟨hb, hk⟩ := hk
    simp only [Bool.and_eq_true] at hb
    obtain ⟨hb, hhs, hms⟩ := hb
    have eT := Ty.eq_of_beq hb
    subst eT
    replace hk := bound_some hk hmv hms; obtain ⟨qq, qv, hk, rfl, hq⟩ := hk
    replace hk := bound_some hk hhi hhs; obtain ⟨rr, rv, hk, rfl, hr⟩ := hk
    replace hk := bound_ok hk hlo; obtain ⟨ll, hk, hl⟩ := hk
    cases hk
    obtain ⟨a, c, g1, ga, gb, hu, g2⟩ := hx.scal rfl
    cases g1
    obtain ⟨k1, u1, n1, g3, g4, g5⟩ := g2 e0 he
    rw [hrow] at g3; cases g3
    have hmc : len ≤ c := by
      unfold HdrAt at g5
      cases hbk : e0.blk with
      | none => rw [hbk] at g5; omega
      | some b => rw [hbk] at g5; obtain ⟨_, _, g5, g6, _⟩ := g5; cases g5; exact g6
    obtain ⟨e, h1, h2⟩ := run_sliceBoundsM (P := P) (w := w) (isSlice := true) hmc hq hr (bound_hi hl)
    obtain ⟨_, _, hqn⟩ := hq
    refine ⟨_, run_sliceAt_slM hT e, .inr ⟨rfl, _, _, rfl, ?_, by omega, hu, fun e' he' => ?_⟩⟩
    · intro hnone
      by_cases hcl : qq = ll
      · omega
      · rw [if_neg hcl] at hnone
        cases a with
        | none => have := ga rfl; omega
        | some a => cases hnone
    · rw [he] at he'; cases he'
      refine ⟨k0, u, xs.length, hrow, by omega, ?_⟩
      have := slice_hdrM g5 h1 h2 hqn
      rw [show e0.start + k0 + (off + ll) * u.size = e0.start + k0 + off * u.size + ll * u.size from by rw [Nat.add_mul]; omega]
      exact this
  · cases hk

theorem load_ok (hh : HeapR μ w h) (hs : HSub hp h) {T : Ty} {t : TypeId} (hT : fitTy P T (.id t) = true) {x r : TV} {v : Value} (hk : loadK hp T x some = some r)
    (hx : VR μ w x v) : Gives P μ w (Instr.loadAt t v) r ∧ fitB T r = true := by
  unfold loadK at hk
  split at hk
  · rename_i u y
    replace hk := bif_some hk; obtain ⟨hb, hk⟩ := hk
    obtain rfl := Ty.eq_of_beq hb
    cases hk
    obtain ⟨b, off, c, f1, f2, f3, f4⟩ := hx.scal rfl
    cases f1
    obtain ⟨v', e, hv⟩ := run_loadVar_at (μ := μ) (x := .pv u y) hT f3 f4 fit_pv
    exact ⟨⟨v', by simp [Instr.loadAt, Instr.sureAddr, e], hv⟩, fit_pv⟩
  · rename_i o p
    obtain ⟨a, f1, hu, f2⟩ := hx.scal rfl
    cases f1
    split at hk
    · rename_i B c hq
      obtain ⟨e, he, g1, g2, g0, b, cs, g3, g4, g5, g6, g7⟩ := hh.ob _ _ (hs _ _ hq)
      rw [tgetK_eq] at hk
      replace hk := Option.bind_eq_some_iff.1 hk; obtain ⟨y, hy, hk⟩ := hk
      replace hk := bif_some hk; obtain ⟨hf, hk⟩ := hk
      cases hk
      obtain ⟨k, U, q1, q2, q3, q4⟩ := get_part hy g0 g7
      obtain ⟨k1, f3, f4, f5⟩ := f2 e he
      have hoff : e.off p = some k := by simp [Ent.off, g1, g2, q1]
      rw [hoff] at f3; cases f3
      rw [g3] at f4; cases f4
      have hsz : U.size = T.size := by rw [← fit_size q3 q2, fit_size hf q2]
      obtain ⟨v', e', hv⟩ := run_loadVar_at (μ := μ) hT (g6.part (k := k) (n := U.size)) q2 hf
      exact ⟨⟨v', by rw [f5]; simp [Instr.loadAt, Instr.sureAddr, e'], hv⟩, hf⟩
    · rename_i u xs hq
      obtain ⟨e, he, g1, g2, g3, g4, g5⟩ := hh.ob _ _ (hs _ _ hq)
      cases p with
      | nil => cases hk
      | cons i p =>
        simp only [] at hk
        replace hk := Option.bind_eq_some_iff.1 hk; obtain ⟨y0, hy0, hk⟩ := hk
        rw [tgetK_eq] at hk
        replace hk := Option.bind_eq_some_iff.1 hk; obtain ⟨y, hy, hk⟩ := hk
        replace hk := bif_some hk; obtain ⟨hf, hk⟩ := hk
        cases hk
        obtain ⟨k1, f3, f4, f5⟩ := f2 e he
        rw [f4] at g5
        obtain ⟨_, _, g6⟩ := g5
        obtain ⟨c, c1, c2⟩ := g6 i y0 hy0
        obtain ⟨k, U, q1, q2, q3, q4⟩ := get_part (μ := μ) (T := u) hy fit_pv c2
        have hoff : e.off (i :: p) = some (i * u.size + k) := by simp [Ent.off, g1, g2, q1]
        rw [hoff] at f3; cases f3
        obtain ⟨v', e', hv⟩ := run_loadVar_at (μ := μ) hT (c1.part (k := k) (n := U.size)) q2 hf
        refine ⟨⟨v', ?_, hv⟩, hf⟩
        rw [f5]
        rw [Nat.add_assoc] at e'
        simp [Instr.loadAt, Instr.sureAddr, e']
    · cases hk
  · cases hk
end
end Go.PE
end

section
namespace Go.PE
set_option linter.unusedSimpArgs false
section
variable {P : Program} {μ : Mp} {w : World} {h hp : Heap}

/-- What an operation does. -/
def Sound (P : Program) (μ : Mp) (w : World) (h : Heap) (i : Nat) (m : Sem Value) (r : TV) (d : Delta) : Prop :=
  ∃ v w' μ', m.run P w = .ok v w' ∧ Step μ w μ' w' ∧ VR μ' w' r v ∧ HeapR μ' w' (h.puts d) ∧ ∀ o, μ'.used o → μ.used o ∨ o.1 = i
theorem Gives.sound {i : Nat} {m : Sem Value} {r : TV} (hh : HeapR μ w h) (hg : Gives P μ w m r) : Sound P μ w h i m r [] := by
  obtain ⟨v, e, hv⟩ := hg
  exact ⟨v, w, μ, e, Step.refl μ w, hv, hh, fun o ho => .inl ho⟩

def Mp.kills (μ : Mp) : List Oid → Mp
  | [] => μ
  | o :: l => (μ.kill o).kills l
theorem Heap.puts_append {h : Heap} : ∀ {d e : Delta}, h.puts (d ++ e) = (h.puts d).puts e := by
  intro d
  induction d generalizing h with
  | nil => intros; rfl
  | cons x d ih => intro e; exact ih
theorem kills_ent : ∀ {l : List Oid} {μ : Mp} {p : Oid}, (μ.kills l).ent p = if p ∈ l then none else μ.ent p := by
  intro l
  induction l with
  | nil => intro μ p; simp [Mp.kills]
  | cons o l ih =>
    intro μ p
    simp only [Mp.kills, ih, List.mem_cons]
    by_cases hpo : p = o
    · subst hpo; simp [Mp.kill_at]
    · rw [Mp.kill_ne hpo]; simp [hpo]
theorem kills_used : ∀ {l : List Oid} {μ : Mp}, (μ.kills l).used = μ.used := by
  intro l
  induction l with
  | nil => intros; rfl
  | cons o l ih => intro μ; rw [Mp.kills, ih]; rfl
theorem kills_hid : ∀ {l : List Oid} {μ : Mp}, (μ.kills l).hid = μ.hid := by
  intro l
  induction l with
  | nil => intros; rfl
  | cons o l ih => intro μ; rw [Mp.kills, ih]; rfl
theorem Step.kills : ∀ (l : List Oid) (μ : Mp) (w : World), Step μ w (μ.kills l) w := by
  intro l
  induction l with
  | nil => intro μ w; exact Step.refl μ w
  | cons o l ih => intro μ w; exact (Step.kill μ w o).trans (ih _ w)
theorem HeapR.kills : ∀ {l : List Oid} {μ : Mp} {h : Heap}, HeapR μ w h → HeapR (μ.kills l) w (h.puts (killAll l)) := by
  intro l
  induction l with
  | nil => intro μ h hh; exact hh
  | cons o l ih => intro μ h hh; exact ih (hh.kill o)
/-- What was one's own is as it is for ever, once it is given up. -/
theorem StM.kills {h : Heap} (hh : HeapR μ w h) {l : List Oid} {b : Nat} (hb : StM μ w l b) : St (μ.kills l) w b := by
  rcases hb with hb | ⟨o, e, h1, h2, h3⟩
  · exact (Step.kills l μ w).st b hb |>.1
  · refine ⟨hh.lt h2 h3, fun p e' hp hb' => ?_, by rw [kills_hid]; exact hh.nhid o e b h2 h3⟩
    rw [kills_ent] at hp
    split at hp
    · cases hp
    · rename_i hn
      have := hh.inj p o e' e b hp h2 hb' h3
      subst this
      exact hn h1

theorem fit_mkCons {t ts : Ty} {a as : TV} (h : fitB t a = true) (h' : fitB ts as = true) : fitB (.cons t ts) (mkCons a as) = true := by
  unfold mkCons
  split
  · have e := fit_pv_eq h
    have e' := fit_pv_eq h'
    subst e; subst e'
    exact fit_pv
  · show (fitB t a && fitB ts as) = true
    rw [h, h']; rfl
theorem fit_zero : ∀ {T : Ty}, fitB T (zeroTV T) = true := by
  intro T
  induction T with
  | cons t ts ih ih' => exact fit_mkCons ih ih'
  | slice t => rfl
  | ptr => rfl
  | fn => rfl
  | map k v => rfl
  | _ => exact fit_pv

/-- A new variable. -/
theorem newVar_ok (hh : HeapR μ w h) {T : Ty} {t : TypeId} {i : Nat} {x : TV} {v : Value} (hu : ¬ μ.used (i, 0)) (hf : fitB T x = true) (hr : R μ w x false v.cells.toList) :
    Sound P μ w h i (do pure (.pointer (some (← newVar t v)))) (.ptr (i, 0) []) [((i, 0), some (.box T x))] := by
  have hl : v.cells.size = T.size := by have := fit_size hf hr; simpa using this
  let e : Ent := ⟨false, T, some w.heap.size, 0, 0, T.size⟩
  have hst : Step μ w (μ.add (i, 0) e) (w.alloc (.cells v.cells t)) := Step.alloc hh.hlt hu _ (.inl rfl)
  refine ⟨.pointer (some ⟨w.heap.size, 0, none⟩), w.alloc (.cells v.cells t), μ.add (i, 0) e, by simp [newVar, newRow], hst, ?_, ?_, ?_⟩
  · refine .inr ⟨rfl, _, rfl, .inl rfl, fun e' he' => ?_⟩
    rw [Mp.add_at] at he'; cases he'
    exact ⟨0, by simp [Ent.off, e, offs_nil], rfl, rfl⟩
  · refine hh.add hst hu (fun p e' b hp hb => heap_alloc_ne (hh.lt hp hb)) (fun p e' b hp hb hb' => ?_) (fun b hb hb' => (by cases hb; exact Nat.lt_irrefl _ (hh.hlt _ hb'))) ?_
    · have := hh.lt hp hb
      have hb'' : some w.heap.size = some b := hb'
      cases hb''; omega
    · refine ⟨rfl, rfl, hf, w.heap.size, v.cells.toList, rfl, ?_, by show 0 + T.size ≤ T.size; omega, cellsAt_alloc _ _, hr.mono hst⟩
      have := owned_alloc (w := w) v.cells t
      rw [hl] at this; exact this
  · rintro o (rfl | ho)
    · exact .inr rfl
    · exact .inl ho
theorem alloc_ok (hh : HeapR μ w h) {T : Ty} {t : TypeId} (hT : fitTy P T (.id t) = true) {i : Nat} (hu : ¬ μ.used (i, 0)) :
    Sound P μ w h i (Instr.alloc t true (.tuple #[])) (.ptr (i, 0) []) [((i, 0), some (.box T (zeroTV T)))] := by
  obtain ⟨z, e, hz1, hz2, _⟩ := run_zeroValue (w := w) hT
  obtain ⟨v, w', μ', h1, h2⟩ := newVar_ok (P := P) (t := t) hh hu (fit_zero (T := T)) (hz2 μ w)
  refine ⟨v, w', μ', ?_, h2⟩
  rw [← h1]
  simp [Instr.alloc, e]
theorem box_ok (hh : HeapR μ w h) {T : Ty} {t : TypeId} {i : Nat} (hu : ¬ μ.used (i, 0)) {x : TV} {v : Value} (hf : fitB T x = true) (hx : VR μ w x v) :
    Sound P μ w h i (Instr.box t v) (.ptr (i, 0) []) [((i, 0), some (.box T x))] :=
  newVar_ok hh hu hf (VR.cells hf hx)

/-- A store. -/
theorem Wrote.step {w' : World} {o : Oid} {e : Ent} {b off : Nat} {vs : List Value} (hw : Wrote w w' b off vs) (hn : ¬ μ.hid b) (ho : μ.ent o = some e) (hb : e.blk = some b) : Step μ w μ w' := by
  refine ⟨hw.os, hw.tape, hw.output, Nat.le_of_eq hw.size.symm, fun k hk => ⟨⟨by rw [hw.size]; exact hk.1, hk.2⟩, hw.other k ?_⟩, fun _ h => h, fun _ _ _ h => h, rfl, fun k hk => hw.other k (fun hkb => hn (hkb ▸ hk))⟩
  intro hkb; subst hkb; exact hk.2.1 o e ho hb
theorem Wrote.keeps {w' : World} {b off s : Nat} {vs c : List Value} (hw : Wrote w w' b off vs) (hc : CellsAt w b s c) (ha : s + c.length ≤ off ∨ off + vs.length ≤ s) : CellsAt w' b s c := by
  intro j v hj
  have hjl := (List.getElem?_eq_some_iff.1 hj).1
  rw [hw.rest (s + j) (by omega)]; exact hc j v hj
theorem Wrote.splice {w' : World} {b s k : Nat} {vs c : List Value} (hw : Wrote w w' b (s + k) vs) (hc : CellsAt w b s c) (hl : k + vs.length ≤ c.length) :
    CellsAt w' b s (c.take k ++ vs ++ c.drop (k + vs.length)) := by
  intro j v hj
  rcases Nat.lt_or_ge j k with h1 | h1
  · rw [List.append_assoc, List.getElem?_append_left (by rw [List.length_take]; omega), List.getElem?_take_of_lt h1] at hj
    rw [hw.rest (s + j) (by omega)]; exact hc j v hj
  · have hk : (c.take k).length = k := by rw [List.length_take]; omega
    rcases Nat.lt_or_ge j (k + vs.length) with h2 | h2
    · rw [List.append_assoc, List.getElem?_append_right (by omega), List.getElem?_append_left (by omega), hk] at hj
      have := hw.cells _ v hj
      rw [show s + k + (j - k) = s + j from by omega] at this; exact this
    · rw [List.getElem?_append_right (by rw [List.length_append, hk]; omega), List.length_append, hk, List.getElem?_drop, show k + vs.length + (j - (k + vs.length)) = j from by omega] at hj
      rw [hw.rest (s + j) (by omega)]; exact hc j v hj

def SoundU (P : Program) (μ : Mp) (w : World) (h : Heap) (m : Sem Unit) (d : Delta) : Prop :=
  ∃ w' μ', m.run P w = .ok () w' ∧ Step μ w μ' w' ∧ HeapR μ' w' (h.puts d) ∧ ∀ o, μ'.used o → μ.used o
theorem Rep.any {w w' : World} {st st' : Nat → Prop} : ∀ {T : Ty} {x : T.den} {cs : List Value}, T.hasSlice = false → Rep w st T x cs → Rep w' st' T x cs := by
  intro T
  induction T with
  | slice t => intro x cs h; cases h
  | arr n t ih => intro x cs h hr; exact ⟨hr.1, hr.2.1, fun i y hy => ih h (hr.2.2 i y hy)⟩
  | cons t ts ih ih' =>
    intro x cs h hr
    simp only [Ty.hasSlice, Bool.or_eq_false_iff] at h
    obtain ⟨c, c', e, h1, h2⟩ := hr
    exact ⟨c, c', e, ih h.1 h1, ih' h.2 h2⟩
  | _ => intro x cs h hr; exact hr
/-- What is given up when a value is kept as a pure one. -/
def givenUp (T : Ty) (v : TV) : List Oid := bif T.hasSlice then tvIds v else []
theorem givenUp_kills {T : Ty} {v : TV} : (bif T.hasSlice then killAll (tvIds v) else []) = killAll (givenUp T v) := by
  unfold givenUp; cases T.hasSlice <;> rfl
theorem pure_kept (hh : HeapR μ w h) {T : Ty} {v : TV} {x : T.den} {cs : List Value} (hr : Rep w (StM μ w (tvIds v)) T x cs) : Rep w (St (μ.kills (givenUp T v)) w) T x cs := by
  unfold givenUp
  cases hs : T.hasSlice with
  | true => exact hr.mono (fun b hb => ⟨StM.kills hh hb, rfl⟩)
  | false => exact hr.any hs
theorem givenUp_mem {T : Ty} {v : TV} {o : Oid} (h : o ∈ givenUp T v) : o ∈ tvIds v := by
  unfold givenUp at h
  cases hs : T.hasSlice with
  | true => rw [hs] at h; exact h
  | false => rw [hs] at h; cases h
theorem oidMem_false {o : Oid} : ∀ {l : List Oid}, oidMem o l = false → o ∉ l := by
  intro l
  induction l with
  | nil => intro _ h; cases h
  | cons p l ih =>
    intro h hm
    simp only [oidMem, Bool.or_eq_false_iff] at h
    rcases List.mem_cons.1 hm with rfl | hm
    · rw [oidBeq_self] at h; cases h.1
    · exact ih h.2 hm
theorem puts_killAll {l : List Oid} {o : Oid} (ho : o ∉ l) : ∀ {h : Heap}, h.puts (killAll l) o = h o := by
  induction l with
  | nil => intro h; rfl
  | cons p l ih =>
    intro h
    simp only [killAll, Heap.puts]
    rw [ih (fun hm => ho (List.mem_cons_of_mem _ hm)), Heap.put_ne (fun e => ho (by simp [e]))]

theorem store_ok (hh : HeapR μ w h) (hs : HSub hp h) {T : Ty} {t : TypeId} (hT : fitTy P T (.id t) = true) {x y : TV} {d : Delta} {v u : Value} (hk : storeK hp T x y some = some d)
    (hx : VR μ w x v) (hy : VR μ w y u) : SoundU P μ w h (Instr.storeAt t v u) d := by
  unfold storeK at hk
  split at hk
  · rename_i o p
    obtain ⟨a, f1, hu, f2⟩ := hx.scal rfl
    cases f1
    split at hk
    · rename_i B c hq
      obtain ⟨e, he, g1, g2, g0, b, cs, g3, g4, g5, g6, g7⟩ := hh.ob _ _ (hs _ _ hq)
      split at hk
      · rename_i k T' hoff
        replace hk := bif_some hk; obtain ⟨hb, hk⟩ := hk
        simp only [Bool.and_eq_true] at hb
        obtain ⟨hb, hf⟩ := hb
        obtain rfl := Ty.eq_of_beq hb
        rw [tsetK_eq] at hk
        replace hk := Option.bind_eq_some_iff.1 hk; obtain ⟨c', hc', hk⟩ := hk
        replace hk := bif_some hk; obtain ⟨hfc, hk⟩ := hk
        cases hk
        obtain ⟨k1, f3, f4, f5⟩ := f2 e he
        have hoff' : e.off p = some k := by simp [Ent.off, g1, g2, hoff]
        rw [hoff'] at f3; cases f3
        have f4' : some b = some a.block := g3.symm.trans f4
        cases f4'
        have hcl : cs.length = B.size := fit_size g0 g7
        have hvc := VR.cells hf hy
        have hvl : u.cells.toList.length = T'.size := fit_size hf hvc
        obtain ⟨s1, s2⟩ := set_part hc' g0 hoff g7 hvc hvl
        obtain ⟨w', ew, hw⟩ := run_storeVar_own (P := P) (off := e.start + k) hT g4 (by omega) hy hf
        have hst := hw.step (μ := μ) (hh.nhid o e _ he g3) he g3
        refine ⟨w', μ, by rw [f5]; simp [Instr.storeAt, Instr.sureAddr, ew], hst, ?_, fun _ h => h⟩
        refine hh.write he g3 hst hw.other ⟨g1, g2, hfc, a.block, _, g3, hw.owned _ g4, g5, hw.splice g6 (by omega), ?_⟩
        rw [hvl]; exact s2.mono hst
      · cases hk
    · rename_i U xs hq
      obtain ⟨e, he, g1, g2, g3, g4, g5⟩ := hh.ob _ _ (hs _ _ hq)
      cases p with
      | nil => cases hk
      | cons i p =>
        simp only [] at hk
        split at hk
        · rename_i k T' hoff
          replace hk := bif_some hk; obtain ⟨hb, hk⟩ := hk
          simp only [Bool.and_eq_true] at hb
          obtain ⟨⟨hb, hni⟩, hf⟩ := hb
          obtain rfl := Ty.eq_of_beq hb
          have hvc := VR.cells hf hy
          have hvl : u.cells.toList.length = T'.size := fit_size hf hvc
          replace hk := pure_ok hh hs hk hvc; obtain ⟨z, hk, hz⟩ := hk
          replace hk := Option.bind_eq_some_iff.1 hk; obtain ⟨y0, hy0, hk⟩ := hk
          rw [tsetK_eq] at hk
          replace hk := Option.bind_eq_some_iff.1 hk; obtain ⟨c', hc', hk⟩ := hk
          unfold pvK at hk
          split at hk
          · rename_i t1 y1
            replace hk := castK_eq hk; obtain ⟨hb1, hk⟩ := hk
            obtain rfl := Ty.eq_of_beq hb1
            cases hk
            rw [givenUp_kills]
            have hol : o ∉ givenUp T' y := fun hm => oidMem_false (bnot_eq hni) (givenUp_mem hm)
            obtain ⟨k1, f3, f4, f5⟩ := f2 e he
            have hoff' : e.off (i :: p) = some (i * t1.size + k) := by simp [Ent.off, g1, g2, hoff]
            rw [hoff'] at f3; cases f3
            rw [f4] at g5
            obtain ⟨g5, g6, g7⟩ := g5
            obtain ⟨c0, q1, q2⟩ := g7 i y0 hy0
            have hil : i < xs.length := (List.getElem?_eq_some_iff.1 hy0).1
            have hc0 := Rep.length q2
            -- the objects that are given up
            have hks := Step.kills (givenUp T' y) μ w
            have hkh := hh.kills (l := givenUp T' y)
            have hz' := pure_kept hh hz
            have he' : (μ.kills (givenUp T' y)).ent o = some e := by rw [kills_ent, if_neg hol]; exact he
            obtain ⟨s1, s2⟩ := set_part (μ := μ.kills (givenUp T' y)) (w := w) (T := t1) hc' fit_pv hoff (hks.rep q2) (show R _ _ (.pv T' z) false _ from hz') hvl
            have hnl : ∀ j, j < xs.length → e.start + j * t1.size + t1.size ≤ e.sz := by
              intro j hj
              have : j * t1.size + t1.size ≤ xs.length * t1.size := by rw [← Nat.succ_mul]; exact Nat.mul_le_mul_right _ hj
              omega
            obtain ⟨w', ew, hw⟩ := run_storeVar_own (P := P) (off := e.start + (i * t1.size + k)) hT g5 (by have := hnl i hil; omega) hy hf
            have hst := hw.step (μ := μ.kills (givenUp T' y)) (hkh.nhid o e _ he' f4) he' f4
            refine ⟨w', μ.kills (givenUp T' y), ?_, hks.trans hst, ?_, fun o ho => by rw [kills_used] at ho; exact ho⟩
            · rw [f5]; simp [Instr.storeAt, Instr.sureAddr, ew]
            · rw [Heap.puts_append]
              refine hkh.write he' f4 hst hw.other ⟨g1, g2, by rw [List.length_set]; exact g3, by rw [List.length_set]; exact g4, ?_⟩
              rw [f4]
              refine ⟨hw.owned _ g5, by rw [List.length_set]; exact g6, fun j yj hj => ?_⟩
              by_cases hji : j = i
              · subst hji
                rw [List.getElem?_set_self hil] at hj
                cases hj
                rw [← Nat.add_assoc] at hw
                refine ⟨_, hw.splice q1 (by rw [hvl]; omega), ?_⟩
                rw [hvl]; exact hst.rep s2
              · rw [List.getElem?_set_ne (Ne.symm hji)] at hj
                obtain ⟨cj, r1, r2⟩ := g7 j yj hj
                have hcj := Rep.length r2
                refine ⟨cj, hw.keeps r1 ?_, (hks.trans hst).rep r2⟩
                rw [hvl, hcj]
                rcases Nat.lt_or_gt_of_ne hji with hlt | hgt
                · left
                  have : j * t1.size + t1.size ≤ i * t1.size := by rw [← Nat.succ_mul]; exact Nat.mul_le_mul_right _ hlt
                  omega
                · right
                  have : i * t1.size + t1.size ≤ j * t1.size := by rw [← Nat.succ_mul]; exact Nat.mul_le_mul_right _ hgt
                  omega
          · cases hk
        · cases hk
    · cases hk
  · cases hk
end
end Go.PE
end

section
namespace Go.PE
set_option linter.unusedSimpArgs false
section
variable {P : Program} {μ : Mp} {w : World} {h hp : Heap}

theorem set_step {l vs : List Value} {k : Nat} {v : Value} (h : k < l.length) : (l.set k v).take (k+1) ++ vs ++ (l.set k v).drop (k + 1 + vs.length) = l.take k ++ (v :: vs) ++ l.drop (k + (vs.length + 1)) := by
  have h1 : (l.set k v).take (k + 1) = l.take k ++ [v] := by
    rw [List.take_succ_eq_append_getElem (by simpa using h), List.getElem_set_self, List.take_set_of_le (Nat.le_refl k)]
  have h2 : (l.set k v).drop (k + 1 + vs.length) = l.drop (k + (vs.length + 1)) := by
    rw [List.drop_set_of_lt (by omega)]; congr 1; omega
  rw [h1, h2]; simp
theorem foldl_splice : ∀ (vs : List Value) (off k : Nat) (cells : Array Value), off + k + vs.length ≤ cells.size →
    ((vs.zipIdx k).foldl (fun (cs : Array Value) (p : Value × Nat) => cs.setIfInBounds (off + p.2) p.1) cells).toList = cells.toList.take (off + k) ++ vs ++ cells.toList.drop (off + k + vs.length) := by
  intro vs
  induction vs with
  | nil => intro off k cells _; simp
  | cons v vs ih =>
    intro off k cells hl
    simp only [List.length_cons] at hl
    rw [List.zipIdx_cons, List.foldl_cons, ih off (k + 1) _ (by simp; omega)]
    simp only [Array.toList_setIfInBounds, List.length_cons]
    have := set_step (l := cells.toList) (vs := vs) (k := off + k) (v := v) (by rw [Array.length_toList]; omega)
    rw [show off + (k + 1) = off + k + 1 from rfl]
    exact this
theorem fill_cons {place : Nat → Option (Nat × Nat)} {cells : Array Value} {i off size : Nat} {v : Value} {rest : List (Nat × Value)} (hp : place i = some (off, size)) (hs : v.cells.size = size)
    (hl : off + size ≤ cells.size) : Instr.fill place cells ((i, v) :: rest) = Instr.fill place (cells.toList.take off ++ v.cells.toList ++ cells.toList.drop (off + size)).toArray rest := by
  conv => lhs; unfold Instr.fill
  simp only [hp]
  rw [if_neg (by rw [hs]; simp; exact hl)]
  have : v.cells.zipIdx.foldl (fun (cs : Array Value) (x : Value × Nat) => match x with | (c, j) => cs.setIfInBounds (off + j) c) cells = (cells.toList.take off ++ v.cells.toList ++ cells.toList.drop (off + size)).toArray := by
    apply Array.ext'
    have := foldl_splice v.cells.toList off 0 cells (by rw [Array.length_toList]; omega)
    rw [Nat.add_zero, Array.length_toList, hs] at this
    rw [← this, ← Array.toList_zipIdx, Array.foldl_toList]
  rw [← this]
theorem build_fill {T : Ty} {place : Nat → Option (Nat × Nat)} (hpl : ∀ i k U c v, T.offs [i] = some (k, U) → fitB T c = true → (∃ c', tsetD [i] c v = some c') → place i = some (k, U.size)) :
    ∀ {l : List (Nat × TV)} {lv : List (Nat × Value)} {c r : TV} {cells : Array Value}, buildK T l c some = some r → fitB T c = true → R μ w c false cells.toList →
      lv.map (·.1) = l.map (·.1) → (∀ (j : Nat) (p : Nat × TV) (q : Nat × Value), l[j]? = some p → lv[j]? = some q → VR μ w p.2 q.2) →
      ∃ cells', Instr.fill place cells lv = some cells' ∧ fitB T r = true ∧ R μ w r false cells'.toList := by
  intro l
  induction l with
  | nil =>
    intro lv c r cells hk hf hr hm _
    cases hk
    cases lv with
    | nil => exact ⟨cells, rfl, hf, hr⟩
    | cons => cases hm
  | cons p l ih =>
    intro lv c r cells hk hf hr hm hv
    cases lv with
    | nil => cases hm
    | cons q lv =>
      obtain ⟨i, x⟩ := p
      obtain ⟨j, v⟩ := q
      simp only [List.map_cons, List.cons.injEq] at hm
      obtain ⟨hji, hm⟩ := hm
      have hji' : j = i := hji
      subst hji'
      simp only [buildK] at hk
      cases ho : T.offs [j] with
      | none => rw [ho] at hk; cases hk
      | some kU =>
        obtain ⟨k, U⟩ := kU
        rw [ho] at hk
        replace hk := bif_some hk; obtain ⟨hfx, hk⟩ := hk
        rw [tsetK_eq] at hk
        replace hk := Option.bind_eq_some_iff.1 hk; obtain ⟨c', hc', hk⟩ := hk
        replace hk := bif_some hk; obtain ⟨hfc, hk⟩ := hk
        have hvx : VR μ w x v := hv 0 _ _ rfl rfl
        have hcl := VR.cells hfx hvx
        have hsz := VR.size hfx hvx
        obtain ⟨s1, s2⟩ := set_part hc' hf ho hr hcl (by simpa using hsz)
        rw [fill_cons (hpl j k U c x ho hf ⟨c', hc'⟩) hsz (by simpa using s1)]
        exact ih hk hfc (by simpa using s2) hm (fun a p q hp hq => hv (a + 1) p q hp hq)
theorem struct_places : ∀ {T : Ty} {fs : List Field} {off : Nat}, fitTy P T (.flds fs off) = true →
    ∃ places, fs.mapM (fun f => (P.info? f.type).map fun i => (f.offset, i.size)) = some places ∧ ∀ i k U, T.offs [i] = some (k, U) → places[i]? = some (off + k, U.size) := by
  intro T
  induction T with
  | cons A As _ ih =>
    intro fs off hT
    cases fs with
    | nil => cases hT
    | cons f l =>
      simp only [fitTy, Bool.and_eq_true] at hT
      obtain ⟨⟨⟨⟨h1, h2⟩, hp⟩, hT1⟩, hT2⟩ := hT
      obtain ⟨pl, e, hpl⟩ := ih hT2
      obtain ⟨inf, z, hi, hsz, _⟩ := info_facts hT1
      refine ⟨(f.offset, inf.size) :: pl, by simp [hi, e], fun i k U ho => ?_⟩
      cases i with
      | zero =>
        have ho' : A.offs [] = some (k, U) := ho
        rw [offs_nil] at ho'; cases ho'
        have := natBeq_eq h1
        simp [hsz, this]
      | succ i =>
        have ho' : (match As.offs [i] with | some (o, u) => some (A.size + o, u) | none => none) = some (k, U) := ho
        cases hq : As.offs [i] with
        | none => rw [hq] at ho'; cases ho'
        | some x =>
          obtain ⟨k', U'⟩ := x
          rw [hq] at ho'; cases ho'
          have := hpl i k' _ hq
          simpa [Nat.add_assoc] using this
  | nil =>
    intro fs off hT
    cases fs with
    | nil => exact ⟨[], rfl, fun i k U ho => by cases i <;> cases ho⟩
    | cons => cases hT
  | _ => intro fs off hT; cases hT
theorem build_ok {T : Ty} {t : TypeId} (hT : fitTy P T (.id t) = true) (hag : T.isAgg = true) {l : List (Nat × TV)} {lv : Array (Nat × Value)} {r : TV}
    (hk : buildK T l (zeroTV T) some = some r) (hm : lv.toList.map (·.1) = l.map (·.1)) (hv : ∀ (j : Nat) (p : Nat × TV) (q : Nat × Value), l[j]? = some p → lv.toList[j]? = some q → VR μ w p.2 q.2) :
    Gives P μ w (Instr.build t lv) r ∧ fitB T r = true := by
  obtain ⟨inf, z, hi, hsz, hb1, hb2, hz, hzs, hzr⟩ := info_facts hT
  have hz0 := (hzr μ w).1
  have fin : ∀ place : Nat → Option (Nat × Nat), (∀ i k U c v, T.offs [i] = some (k, U) → fitB T c = true → (∃ c', tsetD [i] c v = some c') → place i = some (k, U.size)) →
      (∀ cells, Instr.fill place z.cells lv.toList = some cells → P.built t lv.toList = some cells) → Gives P μ w (Instr.build t lv) r ∧ fitB T r = true := by
    intro place h1 h2
    obtain ⟨cells, e, hf, hr⟩ := build_fill (μ := μ) (w := w) h1 hk fit_zero hz0 hm hv
    exact ⟨⟨.agg cells, run_build w t lv cells (h2 cells e), .inl ⟨(fit_agg hf).trans hag, cells, rfl, hr⟩⟩, hf⟩
  cases T <;> simp [Ty.isAgg] at hag
  · rename_i n U
    obtain ⟨u, hu, hfu, hpos, _⟩ := arr_und hT
    obtain ⟨iu, zu, hiu, hsu, _⟩ := info_facts hfu
    refine fin (fun i => some (i * iu.size, iu.size)) (fun i k V c v ho _ _ => ?_) (fun cells hc => ?_)
    · rw [offs_arr, offs_nil] at ho
      simp at ho
      obtain ⟨rfl, rfl⟩ := ho
      rw [hsu]
    · simp only [Program.built, hi, hu, hz, hiu]; exact hc
  · have hT' := hT
    simp only [fitTy, Bool.and_eq_true] at hT'
    obtain ⟨_, hT'⟩ := hT'
    cases hu : P.underlying t with
    | none => rw [hu] at hT'; cases hT'
    | some u =>
      rw [hu] at hT'
      cases u <;> simp only [Bool.and_eq_true] at hT' <;> try (cases hT'; done)
      rename_i fs
      refine fin ((#[] : Array (Nat × Nat))[·]?) (fun i k V c v ho _ _ => by cases i <;> cases ho) (fun cells hc => ?_)
      have hfs : fs.toList = [] := by
        have := natBeq_eq hT'.1
        rw [Array.size_eq_zero_iff] at this; rw [this]
      simp only [Program.built, hi, hu, hz, hfs]; exact hc
  · rename_i A As
    have hT' := hT
    simp only [fitTy, Bool.and_eq_true] at hT'
    obtain ⟨_, hT'⟩ := hT'
    cases hu : P.underlying t with
    | none => rw [hu] at hT'; cases hT'
    | some u =>
      rw [hu] at hT'
      cases u <;> simp only [Bool.and_eq_true] at hT' <;> try (cases hT'; done)
      rename_i fs
      have hF : fitTy P (.cons A As) (.flds fs.toList 0) = true := by
        cases hl : fs.toList with
        | nil => rw [hl] at hT'; cases hT'.1
        | cons f l =>
          rw [hl] at hT'
          simp only [Bool.and_eq_true] at hT'
          obtain ⟨⟨⟨⟨⟨h1, h2⟩, hp⟩, hT1⟩, hT2⟩, _⟩ := hT'
          simp only [fitTy, Bool.and_eq_true]
          exact ⟨⟨⟨⟨h1, h2⟩, hp⟩, hT1⟩, by rw [Nat.zero_add]; exact hT2⟩
      obtain ⟨places, e, hpl⟩ := struct_places hF
      refine fin (places.toArray[·]?) (fun i k V c v ho _ _ => ?_) (fun cells hc => ?_)
      · have := hpl i k V ho
        rw [Nat.zero_add] at this
        simpa using this
      · simp only [Program.built, hi, hu, hz, e]; exact hc

/-! ### rows of elements -/
/-- The cells of a row of elements. -/
def RowC (w : World) (st : Nat → Prop) (t : Ty) (xs : List t.den) (cs : List Value) : Prop :=
  cs.length = xs.length * t.size ∧ ∀ (i : Nat) (x : t.den), xs[i]? = some x → Rep w st t x ((cs.drop (i * t.size)).take t.size)
theorem RowC.at {st : Nat → Prop} {t : Ty} {xs : List t.den} {cs : List Value} {b s : Nat} (h : RowC w st t xs cs) (hc : CellsAt w b s cs) : RowAt w st b s t xs := by
  intro i x hx
  refine ⟨_, ?_, h.2 i x hx⟩
  exact hc.part
theorem RowC.mono {w' : World} {st st' : Nat → Prop} (hs : ∀ b, st b → st' b ∧ w'.heap[b]? = w.heap[b]?) {t : Ty} {xs : List t.den} {cs : List Value} (h : RowC w st t xs cs) : RowC w' st' t xs cs :=
  ⟨h.1, fun i x hx => (h.2 i x hx).mono hs⟩
theorem RowC.append {st : Nat → Prop} {t : Ty} {xs ys : List t.den} {cs ds : List Value} (h : RowC w st t xs cs) (k : RowC w st t ys ds) : RowC w st t (xs ++ ys) (cs ++ ds) := by
  refine ⟨by rw [List.length_append, List.length_append, h.1, k.1, Nat.add_mul], fun i x hx => ?_⟩
  rcases Nat.lt_or_ge i xs.length with hlt | hge
  · rw [List.getElem?_append_left hlt] at hx
    have hle : i * t.size + t.size ≤ xs.length * t.size := by rw [← Nat.succ_mul]; exact Nat.mul_le_mul_right _ hlt
    rw [List.drop_append_of_le_length (by rw [h.1]; omega), List.take_append_of_le_length (by rw [List.length_drop, h.1]; omega)]
    exact h.2 i x hx
  · rw [List.getElem?_append_right hge] at hx
    have hle : xs.length * t.size ≤ i * t.size := Nat.mul_le_mul_right _ hge
    rw [List.drop_append, List.drop_of_length_le (by rw [h.1]; omega), List.nil_append, h.1, ← Nat.sub_mul]
    exact k.2 _ x hx
theorem RowC.set {st : Nat → Prop} {t : Ty} {xs : List t.den} {cs vs : List Value} {i : Nat} {y : t.den} (h : RowC w st t xs cs) (hi : i < xs.length) (hy : Rep w st t y vs) :
    RowC w st t (xs.set i y) (cs.take (i * t.size) ++ vs ++ cs.drop (i * t.size + t.size)) := by
  have hvl := Rep.length hy
  have hle : ∀ j, j < xs.length → j * t.size + t.size ≤ xs.length * t.size := fun j hj => by rw [← Nat.succ_mul]; exact Nat.mul_le_mul_right _ hj
  have hil := hle i hi
  have hc := h.1
  refine ⟨by simp only [List.length_append, List.length_take, List.length_drop, List.length_set, hvl]; omega, fun j x hx => ?_⟩
  by_cases hji : j = i
  · subst hji
    rw [List.getElem?_set_self hi] at hx
    cases hx
    rw [List.append_assoc, List.drop_append, List.drop_of_length_le (l := cs.take _) (by rw [List.length_take]; omega), List.length_take, Nat.min_eq_left (by omega), Nat.sub_self, List.drop_zero, List.nil_append,
      List.take_append_of_le_length (by omega), List.take_of_length_le (by omega)]
    exact hy
  · rw [List.getElem?_set_ne (Ne.symm hji)] at hx
    have hj := (List.getElem?_eq_some_iff.1 hx).1
    have hjl := hle j hj
    suffices hh : ((cs.take (i * t.size) ++ vs ++ cs.drop (i * t.size + t.size)).drop (j * t.size)).take t.size = (cs.drop (j * t.size)).take t.size by rw [hh]; exact h.2 j x hx
    rcases Nat.lt_or_gt_of_ne hji with hlt | hgt
    · have hle : j * t.size + t.size ≤ i * t.size := by rw [← Nat.succ_mul]; exact Nat.mul_le_mul_right _ hlt
      rw [List.append_assoc, List.drop_append_of_le_length (by rw [List.length_take]; omega), List.take_append_of_le_length (by rw [List.length_drop, List.length_take]; omega),
        List.drop_take, List.take_take, Nat.min_eq_left (by omega)]
    · have hle : i * t.size + t.size ≤ j * t.size := by rw [← Nat.succ_mul]; exact Nat.mul_le_mul_right _ hgt
      rw [List.drop_append, List.drop_of_length_le (by simp only [List.length_append, List.length_take, hvl]; omega), List.nil_append]
      simp only [List.length_append, List.length_take, hvl]
      rw [Nat.min_eq_left (by omega), List.drop_drop]
      congr 2; omega
/-- The zero value's cells, as a pure value. -/
theorem zero_rep {T : Ty} {t : TypeId} (hT : fitTy P T (.id t) = true) (hp : T.plain = true) : ∃ i z, P.info? t = some i ∧ i.size = T.size ∧ i.bytes ≤ 24 * T.size ∧ T.size ≤ 4096 ∧ i.zero = some z ∧ z.cells.size = T.size ∧
    ∀ (w : World) (st : Nat → Prop), Rep w st T T.dflt z.cells.toList := by
  have hi := fit_info hT
  unfold infoOk at hi
  cases hq : P.info? t with
  | none => rw [hq] at hi; cases hi
  | some i =>
    rw [hq] at hi
    simp only [Bool.and_eq_true] at hi
    obtain ⟨⟨⟨h1, h2⟩, h3, h3'⟩, h4⟩ := hi
    cases hz : i.zero with
    | none => rw [hz] at h4; cases h4
    | some z =>
      rw [hz] at h4
      simp only [Bool.and_eq_true] at h4
      obtain ⟨⟨hsz, h4⟩, h5⟩ := h4
      cases hk : zeroOk T z.cells.toList with
      | none => rw [hk] at h4; cases h4
      | some r =>
        rw [hk] at h4
        cases r with
        | cons a b => cases h4
        | nil =>
          obtain ⟨c, e, hr⟩ := zeroOk_rep hk hp
          rw [List.append_nil] at e
          exact ⟨i, z, rfl, natBeq_eq h1, Nat.le_of_ble_eq_true h2, Nat.le_of_ble_eq_true h3, hz, natBeq_eq hsz, fun w st => by rw [e]; exact hr w st⟩
theorem mod_row {z : Array Value} {n k j : Nat} (hk : k < n) (hj : j < z.size) : ((Array.range (n * z.size)).map (fun i => z[i % z.size]!)).toList[k * z.size + j]? = z.toList[j]? := by
  have hlt : k * z.size + j < n * z.size := by
    have : k * z.size + z.size ≤ n * z.size := by rw [← Nat.succ_mul]; exact Nat.mul_le_mul_right _ hk
    omega
  have hm : (k * z.size + j) % z.size = j := by rw [Nat.mul_comm, Nat.mul_add_mod, Nat.mod_eq_of_lt hj]
  simp [hlt, hm, hj]
theorem zero_row {st : Nat → Prop} {T : Ty} {z : Array Value} {n : Nat} (hz : z.size = T.size) (hr : Rep w st T T.dflt z.toList) :
    RowC w st T (List.replicate n T.dflt) ((Array.range (n * z.size)).map (fun i => z[i % z.size]!)).toList := by
  refine ⟨by simp [hz], fun i x hx => ?_⟩
  rw [List.getElem?_replicate] at hx
  split at hx
  · rename_i hi
    cases hx
    have hzl : z.toList.length = z.size := by simp
    suffices hh : ((((Array.range (n * z.size)).map (fun i => z[i % z.size]!)).toList.drop (i * T.size)).take T.size) = z.toList by rw [hh]; exact hr
    apply List.ext_getElem?
    intro j
    rcases Nat.lt_or_ge j T.size with hj | hj
    · rw [List.getElem?_take_of_lt hj, List.getElem?_drop, ← hz]
      exact mod_row hi (by omega)
    · rw [List.getElem?_eq_none (by rw [List.length_take]; omega), List.getElem?_eq_none (by omega)]
  · cases hx
end
end Go.PE
end

section
namespace Go.PE
set_option linter.unusedSimpArgs false
section
variable {P : Program} {μ : Mp} {w : World} {h hp : Heap}

/-- Another world with the same blocks. -/
structure Same (w w' : World) : Prop where
  os : w'.os = w.os
  tape : w'.tape = w.tape
  output : w'.output = w.output
  heap : w'.heap = w.heap
theorem Same.step {w' : World} (h : Same w w') (μ : Mp) : Step μ w μ w' :=
  ⟨h.os, h.tape, h.output, by rw [h.heap]; exact Nat.le_refl _, fun b hb => ⟨⟨by rw [h.heap]; exact hb.1, hb.2⟩, by rw [h.heap]⟩, fun _ h => h, fun _ _ _ h => h, rfl, fun _ _ => by rw [h.heap]⟩
theorem HeapR.same {w' : World} (hh : HeapR μ w h) (hs : Same w w') : HeapR μ w' h :=
  ⟨fun o ob ho => (let ⟨e, h1, h2⟩ := hh.ob o ob ho; ⟨e, h1, h2.mono (hs.step μ) (fun _ _ => by rw [hs.heap])⟩), hh.dom, hh.inj, hh.used, hh.nhid, fun b hb => by rw [hs.heap]; exact hh.hlt b hb⟩
theorem same_drew (w : World) : Same w w.drew := ⟨rfl, rfl, rfl, rfl⟩

/-- A new slice of one's own. -/
theorem newVec {i : Nat} (hh : HeapR μ w h) (hu : ¬ μ.used (i, 0)) {t : Ty} {xs : List t.den} {cs rest : List Value} {C : Array Value} {e : TypeId} (hC : C.toList = cs ++ rest)
    (hr : RowC w (St μ w) t xs cs) (hl : xs.length ≤ lim) :
    ∃ μ', Step μ w μ' (w.alloc (.cells C e)) ∧ HeapR μ' (w.alloc (.cells C e)) (h.put (i, 0) (some (.vec t xs))) ∧ (∀ o, μ'.used o → μ.used o ∨ o.1 = i) ∧
      ∀ cap, xs.length ≤ cap → cap * t.size ≤ C.size → VR μ' (w.alloc (.cells C e)) (.own (i, 0)) (.slice (some ⟨w.heap.size, 0, none⟩) xs.length cap) := by
  let en : Ent := ⟨true, t, some w.heap.size, 0, xs.length, C.size⟩
  have hst : Step μ w (μ.add (i, 0) en) (w.alloc (.cells C e)) := Step.alloc hh.hlt hu _ (.inl rfl)
  have hCl : C.size = cs.length + rest.length := by rw [← Array.length_toList, hC, List.length_append]
  refine ⟨μ.add (i, 0) en, hst, ?_, ?_, fun cap h1 h2 => ?_⟩
  · refine hh.add hst hu (fun p e' b hp hb => heap_alloc_ne (hh.lt hp hb)) (fun p e' b hp hb hb' => ?_) (fun b hb hb' => (by cases hb; exact Nat.lt_irrefl _ (hh.hlt _ hb'))) ⟨rfl, rfl, rfl, hl, ?_⟩
    · have := hh.lt hp hb
      have hb'' : some w.heap.size = some b := hb'
      cases hb''; omega
    · refine ⟨owned_alloc C e, by show 0 + xs.length * t.size ≤ C.size; rw [hCl, hr.1]; omega, ?_⟩
      refine (hr.mono hst.st).at ?_
      have := cellsAt_alloc (w := w) C e
      rw [hC] at this
      intro j v hj
      exact this j v (by rw [List.getElem?_append_left ((List.getElem?_eq_some_iff.1 hj).1)]; exact hj)
  · rintro o (rfl | ho)
    · exact .inr rfl
    · exact .inl ho
  · refine .inr ⟨rfl, _, _, _, rfl, .inl rfl, fun e' he' => ?_⟩
    rw [Mp.add_at] at he'; cases he'
    exact ⟨rfl, 0, cap, rfl, h1, by show 0 + cap * t.size ≤ C.size; omega, fun _ => rfl⟩

/-- A pure value out of a temporary: its cells. -/
theorem pure_cells {α : Type} (hh : HeapR μ w h) (hs : HSub hp h) {x : TV} {T : Ty} {K : T.den → Option α} {r : α} {v : Value} (hk : pureK hp x T K = some r) (hx : VR μ w x v) :
    ∃ y, K y = some r ∧ Rep w (StM μ w (tvIds x)) T y v.cells.toList := by
  rcases hx with ⟨_, cs, rfl, hr⟩ | ⟨_, hr⟩
  · exact pure_ok hh hs hk hr
  · obtain ⟨y, h1, h2⟩ := pure_ok hh hs hk hr
    rw [cells_one (Rep.one h2 v (by simp))]
    exact ⟨y, h1, h2⟩
theorem StM.mono_ids {l m : List Oid} (hlm : ∀ o, o ∈ l → o ∈ m) {b : Nat} (hb : StM μ w l b) : StM μ w m b := by
  rcases hb with hb | ⟨o, e, h1, h2⟩
  · exact .inl hb
  · exact .inr ⟨o, e, hlm o h1, h2⟩
theorem buildSlice_row {α : Type} (hh : HeapR μ w h) (hs : HSub hp h) {T : Ty} {l0 : List Oid} : ∀ {l : List (Nat × TV)} {lv : List (Nat × Value)} {xs : List T.den} {K : List T.den → Option α} {r : α} {cells : Array Value},
    buildSliceK hp T l xs K = some r → (∀ p, p ∈ l → ∀ o, o ∈ tvIds p.2 → o ∈ l0) → lv.map (·.1) = l.map (·.1) → (∀ (j : Nat) (p : Nat × TV) (q : Nat × Value), l[j]? = some p → lv[j]? = some q → VR μ w p.2 q.2) →
    RowC w (StM μ w l0) T xs cells.toList →
    ∃ ys cells', K ys = some r ∧ ys.length = xs.length ∧ Instr.fill (fun i => some (i * T.size, T.size)) cells lv = some cells' ∧ RowC w (StM μ w l0) T ys cells'.toList := by
  intro l
  induction l with
  | nil =>
    intro lv xs K r cells hk _ hm _ hr
    cases lv with
    | nil => exact ⟨xs, cells, hk, rfl, rfl, hr⟩
    | cons => cases hm
  | cons p l ih =>
    intro lv xs K r cells hk hids hm hv hr
    cases lv with
    | nil => cases hm
    | cons q lv =>
      obtain ⟨i, x⟩ := p
      obtain ⟨j, v⟩ := q
      simp only [List.map_cons, List.cons.injEq] at hm
      obtain ⟨hji, hm⟩ := hm
      have hji' : j = i := hji
      subst hji'
      simp only [buildSliceK] at hk
      replace hk := bif_some hk; obtain ⟨hlt, hk⟩ := hk
      have hlt : j < xs.length := by simpa using hlt
      have hvx : VR μ w x v := hv 0 (j, x) (j, v) rfl rfl
      replace hk := pure_cells hh hs hk hvx; obtain ⟨y, hk, hy⟩ := hk
      have hy' : Rep w (StM μ w l0) T y v.cells.toList := hy.mono (fun b hb => ⟨StM.mono_ids (hids (j, x) (by simp)) hb, rfl⟩)
      have hvl := Rep.length hy
      rw [Array.length_toList] at hvl
      have hle : j * T.size + T.size ≤ cells.size := by
        have h1 := hr.1
        rw [Array.length_toList] at h1
        have : j * T.size + T.size ≤ xs.length * T.size := by rw [← Nat.succ_mul]; exact Nat.mul_le_mul_right _ hlt
        omega
      rw [fill_cons (off := j * T.size) (size := T.size) rfl hvl hle]
      obtain ⟨ys, cells', g1, g2, g3, g4⟩ := ih (cells := (cells.toList.take (j * T.size) ++ v.cells.toList ++ cells.toList.drop (j * T.size + T.size)).toArray) hk (fun p hp => hids p (List.mem_cons_of_mem _ hp)) hm
        (fun a p q hp hq => hv (a + 1) p q hp hq) (by simpa using hr.set hlt hy')
      exact ⟨ys, cells', g1, by rw [g2, List.length_set], g3, g4⟩
theorem partIds_mem {T : Ty} : ∀ {l : List (Nat × TV)} {p : Nat × TV}, p ∈ l → ∀ o, o ∈ tvIds p.2 → o ∈ partIds T l := by
  intro l
  induction l with
  | nil => intro p hp; cases hp
  | cons q l ih =>
    intro p hp o ho
    rcases List.mem_cons.1 hp with rfl | hp
    · exact List.mem_append_left _ ho
    · exact List.mem_append_right _ (ih hp o ho)
theorem kept_row (hh : HeapR μ w h) {T : Ty} {l : List Oid} {xs : List T.den} {cs : List Value} (hr : RowC w (StM μ w l) T xs cs) :
    RowC w (St (μ.kills (bif T.hasSlice then l else [])) w) T xs cs := by
  refine ⟨hr.1, fun i x hx => ?_⟩
  cases hs : T.hasSlice with
  | true => exact (hr.2 i x hx).mono (fun b hb => ⟨StM.kills hh hb, rfl⟩)
  | false => exact (hr.2 i x hx).any hs
theorem killAll_bif {c : Bool} {l : List Oid} : (bif c then killAll l else []) = killAll (bif c then l else []) := by cases c <;> rfl
theorem kills_not_used {l : List Oid} {o : Oid} (hu : ¬ μ.used o) : ¬ (μ.kills l).used o := by rw [kills_used]; exact hu
/-- What is behind the kills is behind all. -/
theorem Sound.kills {l : List Oid} {i : Nat} {m : Sem Value} {r : TV} {d : Delta} (hs : Sound P (μ.kills l) w (h.puts (killAll l)) i m r d) : Sound P μ w h i m r (killAll l ++ d) := by
  obtain ⟨v, w', μ', h1, h2, h3, h4, h5⟩ := hs
  refine ⟨v, w', μ', h1, (Step.kills l μ w).trans h2, h3, by rw [Heap.puts_append]; exact h4, fun o ho => ?_⟩
  have := h5 o ho
  rw [kills_used] at this; exact this

theorem range0 : Array.range 0 = #[] := rfl
theorem buildSlice_ok (hh : HeapR μ w h) (hs : HSub hp h) {T : Ty} {t : TypeId} (hT : fitTy P (.slice T) (.id t) = true) {i n : Nat} (hu : ¬ μ.used (i, 0)) (hn : n ≤ 1000) {l : List (Nat × TV)} {lv : Array (Nat × Value)}
    {r : TV} {d : Delta} (hk : (buildSliceK hp T l (List.replicate n T.dflt) fun xs => some (TV.own (i, 0), (bif T.hasSlice then killAll (partIds T l) else []) ++ [((i, 0), some (Ob.vec T xs))])) = some (r, d))
    (hm : lv.toList.map (·.1) = l.map (·.1)) (hv : ∀ (j : Nat) (p : Nat × TV) (q : Nat × Value), l[j]? = some p → lv.toList[j]? = some q → VR μ w p.2 q.2) :
    Sound P μ w h i (Instr.buildSlice t n lv) r d := by
  obtain ⟨u, hu', hfu, hpos, hpl⟩ := slice_und hT
  obtain ⟨inf, z, hi, hsz, _, h4096, hz, hzs, hzr⟩ := zero_rep hfu hpl
  have hz0 := zero_row (w := w) (st := StM μ w (partIds T l)) (n := n) hzs (hzr w _)
  rw [hzs] at hz0
  obtain ⟨ys, cells, g1, g2, g3, g4⟩ := buildSlice_row hh hs (l0 := partIds T l) hk (fun p hp o ho => partIds_mem hp o ho) hm hv hz0
  simp only [Option.some.injEq, Prod.mk.injEq] at g1
  obtain ⟨rfl, rfl⟩ := g1
  rw [List.length_replicate] at g2
  rw [killAll_bif]
  refine Sound.kills ?_
  have hkh := hh.kills (l := bif T.hasSlice then partIds T l else [])
  have g4' := kept_row hh g4
  obtain ⟨μ', q1, q2, q3, q4⟩ := newVec (e := u) (i := i) (C := cells) (rest := []) hkh (kills_not_used hu) (by simp) g4' (by rw [g2]; unfold lim; omega)
  have hcs : cells.size = n * T.size := by have := g4.1; rw [Array.length_toList, g2] at this; exact this
  refine ⟨.slice (some ⟨w.heap.size, 0, none⟩) n n, _, μ', ?_, q1, ?_, q2, q3⟩
  · have hsmall : ¬ n * T.size > 2 ^ 24 := by
      have : n * T.size ≤ 1000 * 4096 := Nat.mul_le_mul hn h4096
      omega
    rcases Nat.eq_zero_or_pos (n * T.size) with h0 | h0
    · have g3' : Instr.fill (fun i => some (i * T.size, T.size)) #[] lv.toList = some cells := by
        have := g3
        rw [h0, range0, Array.map_empty] at this
        exact this
      simp [Instr.buildSlice, run_underlying_of hu', run_sizeOf hfu, h0, range0, g3', newRow]
    · have g3' : Instr.fill (fun i => some (i * inf.size, inf.size)) ((Array.range (n * inf.size)).map (z.cells[· % z.cells.size]!)) lv.toList = some cells := by
        rw [hsz, hzs]; exact g3
      exact run_buildSlice w t u n lv cells inf z hu' hi hz (by rw [hsz]; exact hsmall) (by rw [hsz]; omega) g3'
  · have := q4 n (by omega) (by omega)
    rw [g2] at this; exact this
theorem makeSlice_ok (hh : HeapR μ w h) {T : Ty} {t : TypeId} (hT : fitTy P (.slice T) (.id t) = true) {i : Nat} (hu : ¬ μ.used (i, 0)) {k k' : IntKind} {l c : Int} (h0 : 0 ≤ l) (h1 : l ≤ c) (h2 : c ≤ (lim : Int)) :
    Sound P μ w h i (Instr.makeSlice t (.int k l) (.int k' c)) (.own (i, 0)) [((i, 0), some (.vec T (List.replicate l.toNat T.dflt)))] := by
  obtain ⟨u, hu', hfu, hpos, hpl⟩ := slice_und hT
  obtain ⟨inf, z, hi, hsz, hby, h4096, hz, hzs, hzr⟩ := zero_rep hfu hpl
  have hlim : lim = 1073741824 := rfl
  have hwl : IntKind.i64.wrap l = l := by rw [show IntKind.i64.wrap l = (let m := l % 18446744073709551616; if true && m ≥ 9223372036854775808 then m - 18446744073709551616 else m) from rfl]; simp; omega
  have hwc : IntKind.i64.wrap c = c := by rw [show IntKind.i64.wrap c = (let m := c % 18446744073709551616; if true && m ≥ 9223372036854775808 then m - 18446744073709551616 else m) from rfl]; simp; omega
  have hbc : ¬ ((inf.bytes : Int) * c > 2 ^ 48) := by
    have hb : (inf.bytes : Int) ≤ 98304 := by omega
    have : (inf.bytes : Int) * c ≤ 98304 * 1073741824 := by
      have h3 : (inf.bytes : Int) * c ≤ 98304 * c := Int.mul_le_mul_of_nonneg_right hb (by omega)
      have h4 : (98304 : Int) * c ≤ 98304 * 1073741824 := Int.mul_le_mul_of_nonneg_left (by omega) (by omega)
      omega
    omega
  have hz0 := zero_row (w := w) (st := St μ w) (n := c.toNat) hzs (hzr w _)
  let C : Array Value := (Array.range (c.toNat * z.cells.size)).map (fun i => z.cells[i % z.cells.size]!)
  have hCs : C.size = c.toNat * T.size := by simp [C, hzs]
  -- the first l of them
  have hrow : RowC w (St μ w) T (List.replicate l.toNat T.dflt) (C.toList.take (l.toNat * T.size)) := by
    refine ⟨by rw [List.length_take, Array.length_toList, hCs, List.length_replicate]; exact Nat.min_eq_left (Nat.mul_le_mul_right _ (by omega)), fun j x hx => ?_⟩
    rw [List.getElem?_replicate] at hx
    split at hx
    · rename_i hj
      cases hx
      have hjl : j * T.size + T.size ≤ l.toNat * T.size := by rw [← Nat.succ_mul]; exact Nat.mul_le_mul_right _ hj
      have := hz0.2 j T.dflt (by rw [List.getElem?_replicate, if_pos (by omega)])
      rw [List.drop_take, List.take_take, Nat.min_eq_left (by omega)]
      exact this
    · cases hx
  obtain ⟨μ', q1, q2, q3, q4⟩ := newVec (e := u) (i := i) (C := C) hh hu (List.take_append_drop (l.toNat * T.size) C.toList).symm hrow (by rw [List.length_replicate]; omega)
  refine ⟨.slice (some ⟨w.heap.size, 0, none⟩) l.toNat c.toNat, _, μ', ?_, q1, ?_, q2, q3⟩
  · have hnl : ¬ l < 0 := by omega
    have hnc : ¬ c < 0 := by omega
    have hlc : ¬ l > c := by omega
    simp only [Instr.makeSlice, Sem.run_bind, run_underlying_of hu', Result.andThen_ok, asInt, asIntOf, Sem.run_pure, typeInfo, run_program, hi]
    simp only [hwl, hwc]
    simp only [decide_eq_false hnc, decide_eq_false hbc, decide_eq_false hnl, decide_eq_false hlc, Bool.or_false, Bool.false_eq_true, if_false]
    simp only [Sem.run_bind, run_askRoom, Result.andThen_ok, run_sizeOf hfu, Sem.run_pure]
    rcases Nat.eq_zero_or_pos (c.toNat * T.size) with h0 | h0
    · rw [if_pos h0]
      have : C = (Array.range (c.toNat * T.size)).map (fun i => (#[] : Array Value)[i % 0]!) := by
        simp [C, hzs, h0]
      simp [h0, newRow, this]
    · rw [if_neg (by omega)]
      simp [zeroValue, typeInfo, hi, hz, newRow, C, hzs]
  · have := q4 c.toNat (by rw [List.length_replicate]; omega) (by rw [hCs]; exact Nat.le_refl _)
    rw [List.length_replicate] at this; exact this
end
end Go.PE
end

section
namespace Go.PE
set_option linter.unusedSimpArgs false
section
variable {P : Program} {μ : Mp} {w : World} {h hp : Heap}

theorem fit_und {T : Ty} {t : TypeId} (hT : fitTy P T (.id t) = true) : ∃ d, P.underlying t = some d := by
  obtain ⟨i, z, hi, _⟩ := info_facts hT
  cases hu : P.underlying t with
  | some d => exact ⟨d, rfl⟩
  | none =>
    cases T <;> simp only [fitTy, Bool.and_eq_true, hu] at hT <;> first | (cases hT; done) | (cases hT.2; done)
theorem int_und {k : IntKind} {t : TypeId} (hT : fitTy P (.int k) (.id t) = true) : P.underlying t = some (.int k) := by
  simp only [fitTy, Bool.and_eq_true] at hT
  obtain ⟨_, hT⟩ := hT
  cases hu : P.underlying t with
  | none => rw [hu] at hT; cases hT
  | some u => rw [hu] at hT; cases u <;> first | (rw [kind_of_beq hT]; done) | cases hT
theorem str_und {t : TypeId} (hT : fitTy P .str (.id t) = true) : P.underlying t = some .string := by
  simp only [fitTy, Bool.and_eq_true] at hT
  obtain ⟨_, hT⟩ := hT
  cases hu : P.underlying t with
  | none => rw [hu] at hT; cases hT
  | some u => rw [hu] at hT; cases u <;> first | rfl | cases hT
theorem fold_bytes : ∀ (ns : List Int) (s : ByteArray), (∀ n ∈ ns, 0 ≤ n ∧ n ≤ 255) →
    (ns.foldl (fun r n => r.push (UInt8.ofNat n.toNat)) s).data.toList.map (fun c => (c.toNat : Int)) = s.data.toList.map (fun c => (c.toNat : Int)) ++ ns := by
  intro ns
  induction ns with
  | nil => intro s _; simp
  | cons n ns ih =>
    intro s hn
    rw [List.foldl_cons, ih _ (fun m hm => hn m (by simp [hm]))]
    have h1 := hn n (by simp)
    simp [ByteArray.push]
    omega
theorem grownCap_ge (w : World) (n : Nat) (e : TypeId) (old : Nat) : n ≤ grownCap w n old e := by
  unfold grownCap
  simp only [Question.cut]
  omega
theorem bytes_row {st : Nat → Prop} (s : ByteArray) : RowC w st (.int .u8) (s.data.toList.map fun c => (c.toNat : Int)) ((s.data.map fun b => Value.int .u8 b.toNat).toList) := by
  refine ⟨by simp [Ty.size], fun i x hx => ?_⟩
  rw [List.getElem?_map] at hx
  obtain ⟨c, hc, rfl⟩ := Option.map_eq_some_iff.1 hx
  have hi := (List.getElem?_eq_some_iff.1 hc).1
  have : ((s.data.map fun b => Value.int .u8 b.toNat).toList.drop (i * (Ty.int .u8).size)).take (Ty.int .u8).size = [Value.int .u8 (c.toNat : Int)] := by
    show (List.drop (i * 1) _).take 1 = _
    rw [Nat.mul_one, Array.toList_map, List.drop_eq_getElem_cons (by simpa using hi)]
    simp
    have h2 : s.data[i]'(by simpa using hi) = c := by simpa using (List.getElem?_eq_some_iff.1 hc).2
    rw [h2]
  rw [this]
  refine ⟨rfl, ?_, ?_⟩
  · show (0 : Int) ≤ _; omega
  · have := c.toNat_lt
    show _ ≤ (255 : Int); omega

theorem conv_ok (hh : HeapR μ w h) (hs : HSub hp h) {S T : Ty} {s t : TypeId} (hS : fitTy P S (.id s) = true) (hT : fitTy P T (.id t) = true) {i : Nat} (hu : ¬ μ.used (i, 0)) {x r : TV} {d : Delta} {v : Value}
    (hf : fitB S x = true) (hk : (convK hp (i, 0) S T x fun v d => some (v, d)) = some (r, d)) (hx : VR μ w x v) : Sound P μ w h i (convert s t v) r d := by
  obtain ⟨us, hus⟩ := fit_und hS
  unfold convK at hk
  split at hk
  · rename_i k k' n
    cases hk
    obtain ⟨rfl, _⟩ := hx.int
    exact Gives.sound hh (Gives.int (by simp [convert, run_underlying_of hus, run_underlying_of (int_und hT), Conv.intToInt]) (wrap_within _ _))
  · rename_i xs
    cases hk
    obtain ⟨b, rfl, rfl, hb⟩ := hx.str
    exact Gives.sound hh ⟨.string b, by simp [convert, run_underlying_of hus, run_underlying_of (str_und hT)], VR.mk_str hb⟩
  · obtain ⟨u, hu', hfu, _⟩ := slice_und hS
    have hxr : R μ w x false [v] := by
      rcases hx with ⟨ha, _⟩ | ⟨_, hr⟩
      · rw [fit_agg hf] at ha; cases ha
      · exact hr
    replace hk := pure_ok hh hs hk hxr; obtain ⟨xs, hk, hr⟩ := hk
    cases hk
    obtain ⟨a, cap, e, h1, h2, h3⟩ := hr
    cases e
    refine Gives.sound hh ?_
    have hcv : ∀ b : ByteArray, (Conv.bytesToString (.slice a xs.length cap)).run P w = .ok (.string b) w → xs = b.data.toList.map (fun c => (c.toNat : Int)) → Gives P μ w (convert s t (.slice a xs.length cap)) (.pv .str xs) := by
      intro b hb hxs
      refine ⟨.string b, by rw [run_convert_bytes_string w s t u a _ _ hu' (int_und hfu) (str_und hT)]; exact hb, ?_⟩
      have hl : b.size ≤ big := by
        have : xs.length = b.size := by rw [hxs, List.length_map, Array.length_toList]; rfl
        omega
      rw [hxs]; exact VR.mk_str hl
    cases a with
    | none =>
      have h3' : cap = 0 := h3
      have : xs = [] := List.eq_nil_of_length_eq_zero (by omega)
      subst this
      exact hcv .empty (by simp [Conv.bytesToString]) (by simp)
    | some a =>
      have hrow : ∀ (j : Nat) (x : Int), xs[j]? = some x → w.cell? (a.add j) = some (.int .u8 x) ∧ 0 ≤ x ∧ x ≤ 255 := by
        intro j y hy
        have hjl := (List.getElem?_eq_some_iff.1 hy).1
        obtain ⟨g1, g2, g3⟩ := h3 (by omega)
        obtain ⟨c, q1, q2, q3, q4⟩ := g3 j y hy
        subst q2
        have ha : a = ⟨a.block, a.off, none⟩ := by cases a; simp at g1; subst g1; rfl
        refine ⟨?_, q3, q4⟩
        rw [ha, add_addr]
        have := q1 0 _ rfl
        rw [Nat.add_zero] at this
        have hsz : (Ty.int .u8).size = 1 := rfl
        rw [hsz, Nat.mul_one] at this
        exact this
      have hload : (loadCells a xs.length).run P w = .ok (xs.map (Value.int .u8)).toArray w := by
        have := run_loadCells_list (P := P) w a (xs.map (Value.int .u8)) (fun j v hj => by
          rw [List.getElem?_map] at hj
          obtain ⟨y, hy, rfl⟩ := Option.map_eq_some_iff.1 hj
          exact (hrow j y hy).1)
        rw [List.length_map] at this; exact this
      refine hcv _ (run_bytesToString w a xs.length cap xs hload) ?_
      rw [fold_bytes xs .empty (fun n hn => by
        obtain ⟨j, hj⟩ := List.mem_iff_getElem?.1 hn
        exact (hrow j n hj).2)]
      rfl
  · rename_i xs
    replace hk := bif_some hk; obtain ⟨hl, hk⟩ := hk
    cases hk
    obtain ⟨b, rfl, rfl, hb⟩ := hx.str
    obtain ⟨u, hu', hfu, _⟩ := slice_und hT
    have hlen : (b.data.toList.map fun c => (c.toNat : Int)).length = b.size := by rw [List.length_map, Array.length_toList]; rfl
    simp only [decide_eq_true_eq, hlen] at hl
    have hg := grownCap_ge w b.size u 0
    have hcs : (Lib.bytesCells w u b).size = grownCap w b.size 0 u := by
      unfold Lib.bytesCells
      simp
      have : b.data.size = b.size := rfl
      omega
    let e : Ent := ⟨true, .int .u8, some w.heap.size, 0, b.size, grownCap w b.size 0 u⟩
    have hst : Step μ w (μ.add (i, 0) e) (Lib.bytesWorld w u b) := by
      refine ⟨rfl, rfl, rfl, by rw [Lib.bytesWorld_size]; omega, fun k hk => ⟨⟨by rw [Lib.bytesWorld_size]; have := hk.1; omega, fun p e' hp => ?_, hk.2.2⟩, Lib.bytesWorld_at_old w u b k hk.1⟩, fun p hp => .inr hp, fun p e' hp he' => ?_, rfl, fun k hk => Lib.bytesWorld_at_old w u b k (hh.hlt k hk)⟩
      · by_cases hpo : p = (i, 0)
        · subst hpo; rw [Mp.add_at] at hp; cases hp
          intro hbb
          have hbb' : some w.heap.size = some k := hbb
          cases hbb'; exact Nat.lt_irrefl _ hk.1
        · rw [Mp.add_ne hpo] at hp; exact hk.2.1 p e' hp
      · by_cases hpo : p = (i, 0)
        · subst hpo; exact (hu hp).elim
        · rw [Mp.add_ne hpo] at he'; exact he'
    refine ⟨_, _, μ.add (i, 0) e, Lib.run_convert_string_bytes w s t u b hus hu' (int_und hfu), hst, ?_, ?_, ?_⟩
    · refine .inr ⟨rfl, _, _, _, rfl, .inl rfl, fun e' he' => ?_⟩
      rw [Mp.add_at] at he'; cases he'
      refine ⟨rfl, 0, _, rfl, hg, ?_, fun _ => rfl⟩
      show 0 + grownCap w b.size 0 u * 1 ≤ grownCap w b.size 0 u
      omega
    · refine hh.add hst hu (fun p e' k hp hk => Lib.bytesWorld_at_old w u b k (hh.lt hp hk)) (fun p e' k hp hk hb' => ?_) (fun b hb hb' => (by cases hb; exact Nat.lt_irrefl _ (hh.hlt _ hb'))) ⟨rfl, rfl, hlen.symm, by rw [hlen]; exact hl, ?_⟩
      · have := hh.lt hp hk
        have hb'' : some w.heap.size = some k := hb'
        cases hb''; omega
      · refine ⟨⟨_, u, _, Lib.bytesWorld_at_new w u b, hcs, fun off ho => ?_⟩, by rw [hlen]; show 0 + b.size * 1 ≤ grownCap w b.size 0 u; omega, ?_⟩
        · unfold World.frozen?
          rw [Lib.bytesWorld_at_new]
          have ho' : off < grownCap w b.size 0 u := ho
          simp; omega
        · refine ((bytes_row (w := Lib.bytesWorld w u b) b)).at ?_
          intro j y hj
          have hjl : j < b.size := by
            have := (List.getElem?_eq_some_iff.1 hj).1
            simpa using this
          rw [Nat.zero_add, Lib.bytesWorld_cell w u b j hjl]
          have hjl' : j < b.data.toList.length := by rw [Array.length_toList]; exact hjl
          rw [Array.toList_map, List.getElem?_map, List.getElem?_eq_getElem hjl'] at hj
          rw [List.getD_eq_getElem?_getD, List.getElem?_eq_getElem hjl']
          exact hj
    · rintro o (rfl | ho)
      · exact .inr rfl
      · exact .inl ho
  · cases hk

theorem max_if (a b : Int) : (if b > a then b else a) = max a b := by rw [Int.max_def]; split <;> split <;> omega
theorem min_if (a b : Int) : (if b < a then b else a) = min a b := by rw [Int.min_def]; split <;> split <;> omega
theorem minmax_ok {m : Bool} {l : List TV} {lv : Array Value} {ats : Array TypeId} {ty : TypeId} {r : TV} (hk : minMaxK m l some = some r) (hn : lv.toList.length = l.length)
    (hv : ∀ (j : Nat) (x : TV) (v : Value), l[j]? = some x → lv.toList[j]? = some v → VR μ w x v) :
    Gives P μ w (match m with | true => Builtin.max_ ats ty lv | false => Builtin.min_ ats ty lv) r := by
  have emx : ∀ a b : Int, (if (b : Int) > a then b else a) = max a b := max_if
  have emn : ∀ a b : Int, (if (b : Int) < a then b else a) = min a b := min_if
  have inx : ∀ {k : IntKind} {a b : Int}, k.min ≤ a ∧ a ≤ k.max → k.min ≤ b ∧ b ≤ k.max → k.min ≤ max a b ∧ max a b ≤ k.max := by
    intro k a b h1 h2; rw [← emx]; split <;> assumption
  have inn : ∀ {k : IntKind} {a b : Int}, k.min ≤ a ∧ a ≤ k.max → k.min ≤ b ∧ b ≤ k.max → k.min ≤ min a b ∧ min a b ≤ k.max := by
    intro k a b h1 h2; rw [← emn]; split <;> assumption
  have inv : (∃ k a k' b, l = [.pv (.int k) a, .pv (.int k') b] ∧ (bif kindBeq k k' then some (TV.pv (.int k) (cond m (max a b) (min a b))) else none) = some r) ∨
      (∃ k a k' b k'' c, l = [.pv (.int k) a, .pv (.int k') b, .pv (.int k'') c] ∧ (bif kindBeq k k' && kindBeq k k'' then some (TV.pv (.int k) (cond m (max (max a b) c) (min (min a b) c))) else none) = some r) := by
    cases m <;> unfold minMaxK at hk <;> split at hk <;> first | exact .inl ⟨_, _, _, _, rfl, hk⟩ | exact .inr ⟨_, _, _, _, _, _, rfl, hk⟩ | cases hk
  rcases inv with ⟨k, a, k', b, rfl, hk'⟩ | ⟨k, a, k', b, k'', c, rfl, hk'⟩
  · replace hk' := bif_some hk'; obtain ⟨hkb, hk'⟩ := hk'
    obtain rfl := kind_of_beq hkb
    cases hk'
    match hl : lv.toList, hn with
    | [v1, v2], _ =>
      obtain ⟨rfl, h1⟩ := VR.int (hv 0 _ v1 rfl (by rw [hl]; rfl))
      obtain ⟨rfl, h2⟩ := VR.int (hv 1 _ v2 rfl (by rw [hl]; rfl))
      cases m with
      | true =>
        refine Gives.int (n := max a b) ?_ (inx h1 h2)
        simp only [Builtin.max_, hl]
        simp [Builtin.max2, emx]
      | false =>
        refine Gives.int (n := min a b) ?_ (inn h1 h2)
        simp only [Builtin.min_, hl]
        simp [Builtin.min2, emn]
  · replace hk' := bif_some hk'; obtain ⟨hkb, hk'⟩ := hk'
    simp only [Bool.and_eq_true] at hkb
    obtain rfl := kind_of_beq hkb.1
    obtain rfl := kind_of_beq hkb.2
    cases hk'
    match hl : lv.toList, hn with
    | [v1, v2, v3], _ =>
      obtain ⟨rfl, h1⟩ := VR.int (hv 0 _ v1 rfl (by rw [hl]; rfl))
      obtain ⟨rfl, h2⟩ := VR.int (hv 1 _ v2 rfl (by rw [hl]; rfl))
      obtain ⟨rfl, h3⟩ := VR.int (hv 2 _ v3 rfl (by rw [hl]; rfl))
      cases m with
      | true =>
        refine Gives.int (n := max (max a b) c) ?_ (inx (inx h1 h2) h3)
        simp only [Builtin.max_, hl]
        simp [Builtin.max2, emx]
      | false =>
        refine Gives.int (n := min (min a b) c) ?_ (inn (inn h1 h2) h3)
        simp only [Builtin.min_, hl]
        simp [Builtin.min2, emn]
end
end Go.PE
end

section
namespace Go.PE
set_option linter.unusedSimpArgs false
section
variable {P : Program} {μ : Mp} {w : World} {h hp : Heap}

theorem VR.unfull {x : TV} {v : Value} (h : VR μ w x v) : VR μ w (unfull x) v := by
  cases x with
  | full t x =>
    rcases h with ⟨ha, _⟩ | ⟨_, a, e, hr⟩
    · cases ha
    · exact .inr ⟨rfl, hr⟩
  | _ => exact h
/-- A slice or string that is read: its elements. -/
structure SrcF (P : Program) (μ : Mp) (w : World) (t : Ty) (ys : List t.den) (v : Value) : Prop where
  len : ∀ W, (Builtin.lenOf v).run P W = .ok ys.length W
  big : ys.length ≤ big
  cells : ∀ n, n ≤ ys.length → ∃ c : Array Value, RowC w (St μ w) t (ys.take n) c.toList ∧ ∀ W, W.heap = w.heap → (Builtin.firstCells t.size n v).run P W = .ok c W
theorem cell_heap {w W : World} (h : W.heap = w.heap) (a : Addr) : W.cell? a = w.cell? a := by unfold World.cell?; rw [h]
theorem row_take {st : Nat → Prop} {t : Ty} {xs : List t.den} {cs : List Value} {n : Nat} (h : RowC w st t xs cs) (hn : n ≤ xs.length) : RowC w st t (xs.take n) (cs.take (n * t.size)) := by
  have h1 := h.1
  have hle : n * t.size ≤ xs.length * t.size := Nat.mul_le_mul_right _ hn
  refine ⟨by rw [List.length_take, List.length_take, Nat.min_eq_left (by omega), Nat.min_eq_left hn], fun i x hx => ?_⟩
  rw [List.getElem?_take] at hx
  split at hx
  · rename_i hi
    have hil : i * t.size + t.size ≤ n * t.size := by rw [← Nat.succ_mul]; exact Nat.mul_le_mul_right _ hi
    rw [List.drop_take, List.take_take, Nat.min_eq_left (by omega)]
    exact h.2 i x hx
  · cases hx
theorem src_of_row {t : Ty} {ys : List t.den} {b pos len cap off : Nat} (hlen : ys.length = len) (hb : len ≤ big) (hr : RowAt w (St μ w) b pos t ys) (ho : 0 < len → off = pos) :
    SrcF P μ w t ys (.slice (some ⟨b, off, none⟩) len cap) := by
  subst hlen
  refine ⟨fun W => by simp [Builtin.lenOf], hb, fun n hn => ?_⟩
  obtain ⟨c, h1, h2, h3⟩ := row_cells hr
  have hrow : RowC w (St μ w) t ys c := ⟨h1, h3⟩
  refine ⟨(c.take (n * t.size)).toArray, by simpa using row_take hrow hn, fun W hW => ?_⟩
  have hlc : (c.take (n * t.size)).length = n * t.size := by
    rw [List.length_take, h1]; exact Nat.min_eq_left (Nat.mul_le_mul_right _ hn)
  refine run_firstCells_some (P := P) W t.size n ⟨b, off, none⟩ ys.length cap _ hlc (fun j v hj => ?_)
  rw [cell_heap hW, add_addr]
  rcases Nat.eq_zero_or_pos ys.length with h0 | h0
  · have : c = [] := List.eq_nil_of_length_eq_zero (by rw [h1, h0, Nat.zero_mul])
    subst this; simp at hj
  · rw [ho h0]
    rw [List.getElem?_take] at hj
    split at hj
    · exact h2 j v hj
    · cases hj
theorem src_nil {t : Ty} {len cap : Nat} (hlen : len = 0) : SrcF P μ w t [] (.slice none len cap) := by
  subst hlen
  refine ⟨fun W => by simp [Builtin.lenOf], Nat.zero_le _, fun n hn => ⟨#[], ⟨by simp, fun i x hx => by simp at hx⟩, fun W _ => by simp [Builtin.firstCells]⟩⟩
theorem src_ok {α : Type} (hh : HeapR μ w h) (hs : HSub hp h) {x : TV} {t : Ty} {K : List t.den → Option α} {r : α} {v : Value} (hk : srcK hp x t K = some r) (hx : VR μ w x v) :
    ∃ ys, K ys = some r ∧ SrcF P μ w t ys v := by
  unfold srcK at hk
  split at hk
  · rename_i xs
    replace hk := castK_eq hk; obtain ⟨hb, hk⟩ := hk
    have := slice_cast hb
    subst this
    obtain ⟨s, rfl, rfl, hbig⟩ := hx.str
    have hlen : (s.data.toList.map fun c => (c.toNat : Int)).length = s.size := by rw [List.length_map, Array.length_toList]; rfl
    refine ⟨_, hk, ⟨fun W => by simp [Builtin.lenOf], by rw [hlen]; exact hbig, fun n hn => ?_⟩⟩
    have hn' : n ≤ s.size := by rw [← hlen]; exact hn
    have hrow := row_take (bytes_row (w := w) (st := St μ w) s) hn
    refine ⟨(s.extract 0 n).data.map fun b => Value.int .u8 b.toNat, ?_, fun W _ => by simp [Builtin.firstCells]⟩
    have e : ((s.extract 0 n).data.map fun b => Value.int .u8 b.toNat).toList = ((s.data.map fun b => Value.int .u8 b.toNat).toList).take (n * (Ty.int .u8).size) := by
      show _ = List.take (n * 1) _
      simp [List.map_take]
    rw [e]; exact hrow
  · cases x with
    | pv t' xs =>
      replace hk := castK_eq hk; obtain ⟨hb, hk⟩ := hk
      have e := Ty.eq_of_beq hb
      subst e
      obtain ⟨a, cap, g1, g2, g3, g4⟩ := hx.scal rfl
      cases g1
      refine ⟨xs, hk, ?_⟩
      cases a with
      | none =>
        have g4' : cap = 0 := g4
        have : xs = [] := List.eq_nil_of_length_eq_zero (by omega)
        subst this
        exact src_nil rfl
      | some a =>
        rcases Nat.eq_zero_or_pos xs.length with h0 | h0
        · have : xs = [] := List.eq_nil_of_length_eq_zero h0
          subst this
          refine ⟨fun W => by simp [Builtin.lenOf], Nat.zero_le _, fun n hn => ⟨#[], ⟨by simp, fun i x hx => by simp at hx⟩, fun W _ => ?_⟩⟩
          have : n = 0 := by simpa using hn
          subst this
          simp [Builtin.firstCells, loadCells, loadCellsFrom]
        · obtain ⟨g5, g6, g7⟩ := g4 h0
          have ha : a = ⟨a.block, a.off, none⟩ := by cases a; simp at g5; subst g5; rfl
          rw [ha]
          exact src_of_row rfl g3 g7 (fun _ => rfl)
    | full t' xs =>
      have hx := VR.unfull hx
      replace hx : VR μ w (.pv (.slice t') xs) v := hx
      replace hk := castK_eq hk; obtain ⟨hb, hk⟩ := hk
      have e := slice_cast hb
      subst e
      obtain ⟨a, cap, g1, g2, g3, g4⟩ := hx.scal rfl
      cases g1
      refine ⟨xs, hk, ?_⟩
      cases a with
      | none =>
        have g4' : cap = 0 := g4
        have : xs = [] := List.eq_nil_of_length_eq_zero (by omega)
        subst this
        exact src_nil rfl
      | some a =>
        rcases Nat.eq_zero_or_pos xs.length with h0 | h0
        · have : xs = [] := List.eq_nil_of_length_eq_zero h0
          subst this
          refine ⟨fun W => by simp [Builtin.lenOf], Nat.zero_le _, fun n hn => ⟨#[], ⟨by simp, fun i x hx => by simp at hx⟩, fun W _ => ?_⟩⟩
          have : n = 0 := by simpa using hn
          subst this
          simp [Builtin.firstCells, loadCells, loadCellsFrom]
        · obtain ⟨g5, g6, g7⟩ := g4 h0
          have ha : a = ⟨a.block, a.off, none⟩ := by cases a; simp at g5; subst g5; rfl
          rw [ha]
          exact src_of_row rfl g3 g7 (fun _ => rfl)
    | nils =>
      have h1 : [v] = [Value.slice none 0 0] := hx.scal rfl
      cases h1
      exact ⟨[], hk, src_nil rfl⟩
    | own o =>
      replace hk := row_ok hh hs hk; obtain ⟨t', xs, hk, e, k, he, hrow, hvec, hblk⟩ := hk
      replace hk := castK_eq hk; obtain ⟨hb, hk⟩ := hk
      have ee := slice_cast hb
      subst ee
      obtain ⟨a, n, c, h1, hu, h2⟩ := hx.scal rfl
      cases h1
      obtain ⟨g1, g2⟩ := h2 e he
      obtain ⟨f1, f2, f3, f4⟩ := hvec g1
      refine ⟨xs, hk, ?_⟩
      unfold HdrAt at g2
      cases hbk : e.blk with
      | none => rw [hbk] at g2 hblk; obtain ⟨g2, g3⟩ := g2; cases g2; simp only [] at hblk; subst hblk; exact src_nil rfl
      | some b =>
        rw [hbk] at g2 hblk
        obtain ⟨off, cap, g2, g3, g4, g5⟩ := g2
        cases g2
        rw [f4, Nat.add_zero] at hblk
        have hlb : lim ≤ big := by decide
        exact src_of_row f2.symm (by omega) hblk.2.2 (fun hp => g5 (by omega))
    | hdr o p off len =>
      replace hk := row_ok hh hs hk; obtain ⟨t', xs, hk, e, k, he, hrow, hvec, hblk⟩ := hk
      replace hk := castK_eq hk; obtain ⟨hb, hk⟩ := hk
      have ee := slice_cast hb
      subst ee
      obtain ⟨a, c, h1, ha, hbig, hu, h2⟩ := hx.scal rfl
      cases h1
      obtain ⟨k1, t1, n1, g1, g2, g3⟩ := h2 e he
      rw [hrow] at g1; cases g1
      refine ⟨sub xs off len, hk, ?_⟩
      have hlen := sub_len g2
      unfold HdrAt at g3
      cases hbk : e.blk with
      | none =>
        rw [hbk] at g3
        obtain ⟨g3, g4⟩ := g3
        cases g3
        have : sub xs off 0 = [] := List.eq_nil_of_length_eq_zero hlen
        rw [this]; exact src_nil rfl
      | some b =>
        rw [hbk] at g3 hblk
        obtain ⟨off', cap, g3, g4, g5, g6⟩ := g3
        cases g3
        exact src_of_row hlen hbig hblk.2.2.sub (fun hp => g6 (by omega))
    | _ => cases hk

/-- An object whose block another one takes over. -/
theorem HeapR.move {w' : World} {o i : Oid} {e e' : Ent} {b : Nat} {ob : Ob} (hh : HeapR μ w h) (ho : μ.ent o = some e) (hb : e.blk = some b) (hb' : e'.blk = some b) (hu : ¬ μ.used i)
    (hst : Step μ w ((μ.kill o).add i e') w') (hsame : ∀ k, k ≠ b → w'.heap[k]? = w.heap[k]?) (hob : ObR ((μ.kill o).add i e') w' e' ob) : HeapR ((μ.kill o).add i e') w' ((h.put o none).put i (some ob)) := by
  have hent : ∀ p, p ≠ i → p ≠ o → ((μ.kill o).add i e').ent p = μ.ent p := fun p h1 h2 => by rw [Mp.add_ne h1, Mp.kill_ne h2]
  have hno : ∀ p, p ≠ i → p = o → ((μ.kill o).add i e').ent p = none := fun p h1 h2 => by rw [Mp.add_ne h1, h2, Mp.kill_at]
  refine ⟨fun p ob' hp => ?_, fun p e1 hp => ?_, fun p p' e1 e2 b1 hp hp' hb1 hb2 => ?_, fun p e1 hp => ?_, fun p e1 b1 hp hb1 => ?_, fun b hb => Nat.lt_of_lt_of_le (hh.hlt b hb) hst.size⟩
  · by_cases h1 : p = i
    · subst h1; rw [Heap.put_at] at hp; cases hp; exact ⟨e', Mp.add_at, hob⟩
    · rw [Heap.put_ne h1] at hp
      by_cases h2 : p = o
      · subst h2; rw [Heap.put_at] at hp; cases hp
      · rw [Heap.put_ne h2] at hp
        obtain ⟨e1, g1, g2⟩ := hh.ob p ob' hp
        refine ⟨e1, by rw [hent p h1 h2]; exact g1, g2.mono hst (fun k hk => hsame k (fun hkb => h2 (hh.inj p o e1 e k g1 ho hk (hkb ▸ hb))))⟩
  · by_cases h1 : p = i
    · subst h1; exact ⟨ob, Heap.put_at⟩
    · by_cases h2 : p = o
      · rw [hno p h1 h2] at hp; cases hp
      · rw [hent p h1 h2] at hp; rw [Heap.put_ne h1, Heap.put_ne h2]; exact hh.dom p e1 hp
  · have key : ∀ p e1, p ≠ i → ((μ.kill o).add i e').ent p = some e1 → e1.blk ≠ some b := by
      intro p e1 h1 hp hk
      by_cases h2 : p = o
      · rw [hno p h1 h2] at hp; cases hp
      · rw [hent p h1 h2] at hp; exact h2 (hh.inj p o e1 e b hp ho hk hb)
    by_cases h1 : p = i
    · by_cases h2 : p' = i
      · rw [h1, h2]
      · rw [h1, Mp.add_at] at hp; cases hp
        rw [hb'] at hb1; cases hb1
        exact (key p' e2 h2 hp' hb2).elim
    · by_cases h2 : p' = i
      · rw [h2, Mp.add_at] at hp'; cases hp'
        rw [hb'] at hb2; cases hb2
        exact (key p e1 h1 hp hb1).elim
      · have e1' : ∀ p e1, p ≠ i → ((μ.kill o).add i e').ent p = some e1 → μ.ent p = some e1 := by
          intro p e1 h1 hp
          by_cases h3 : p = o
          · rw [hno p h1 h3] at hp; cases hp
          · rw [hent p h1 h3] at hp; exact hp
        exact hh.inj p p' e1 e2 b1 (e1' p e1 h1 hp) (e1' p' e2 h2 hp') hb1 hb2
  · by_cases h1 : p = i
    · exact .inl h1
    · by_cases h2 : p = o
      · rw [hno p h1 h2] at hp; cases hp
      · rw [hent p h1 h2] at hp; exact .inr (hh.used p e1 hp)
  · by_cases h1 : p = i
    · subst h1; rw [Mp.add_at] at hp; cases hp
      rw [hb'] at hb1; cases hb1
      exact hh.nhid o e b ho hb
    · by_cases h2 : p = o
      · rw [hno p h1 h2] at hp; cases hp
      · rw [hent p h1 h2] at hp; exact hh.nhid p e1 b1 hp hb1
/-- A nil slice of one's own. -/
theorem newNil {i : Nat} (hh : HeapR μ w h) (hu : ¬ μ.used (i, 0)) {t : Ty} : ∃ μ', Step μ w μ' w ∧ HeapR μ' w (h.put (i, 0) (some (.vec t []))) ∧ (∀ o, μ'.used o → μ.used o ∨ o.1 = i) ∧ VR μ' w (.own (i, 0)) (.slice none 0 0) := by
  let e : Ent := ⟨true, t, none, 0, 0, 0⟩
  have hst : Step μ w (μ.add (i, 0) e) w := by
    refine ⟨rfl, rfl, rfl, Nat.le_refl _, fun b hb => ⟨⟨hb.1, fun p e' hp => ?_, hb.2.2⟩, rfl⟩, fun p hp => .inr hp, fun p e' hp he' => ?_, rfl, fun _ _ => rfl⟩
    · by_cases hpo : p = (i, 0)
      · subst hpo; rw [Mp.add_at] at hp; cases hp; intro hbb; cases hbb
      · rw [Mp.add_ne hpo] at hp; exact hb.2.1 p e' hp
    · by_cases hpo : p = (i, 0)
      · subst hpo; exact (hu hp).elim
      · rw [Mp.add_ne hpo] at he'; exact he'
  refine ⟨μ.add (i, 0) e, hst, hh.add hst hu (fun _ _ _ _ _ => rfl) (fun p e' b hp hb hb' => by cases hb') (fun b hb => by cases hb) ⟨rfl, rfl, rfl, Nat.zero_le _, rfl⟩, ?_, ?_⟩
  · rintro o (rfl | ho)
    · exact .inr rfl
    · exact .inl ho
  · refine .inr ⟨rfl, _, _, _, rfl, .inl rfl, fun e' he' => ?_⟩
    rw [Mp.add_at] at he'; cases he'
    exact ⟨rfl, rfl, rfl⟩
theorem bytes_fit {t : Ty} {tid : TypeId} (hT : fitTy P t (.id tid) = true) (hp : t.plain = true) {need old : Nat} (h1 : old < need) (h2 : need ≤ lim) : ∃ i z, P.info? tid = some i ∧ i.size = t.size ∧ i.zero = some z ∧ z.cells.size = t.size ∧
    Builtin.nextslicecap need old * i.bytes ≤ 2 ^ 48 ∧ (∀ (w : World) (st : Nat → Prop), Rep w st t t.dflt z.cells.toList) := by
  obtain ⟨i, z, g1, g2, g3, g4, g5, g6, g7⟩ := zero_rep hT hp
  refine ⟨i, z, g1, g2, g5, g6, ?_, g7⟩
  have hn := nextslicecap_le h1
  have hb : i.bytes ≤ 98304 := by omega
  have hl : lim = 1073741824 := rfl
  have h3 : Builtin.nextslicecap need old ≤ 2147483648 := by omega
  calc Builtin.nextslicecap need old * i.bytes ≤ 2147483648 * 98304 := Nat.mul_le_mul h3 hb
    _ ≤ 2 ^ 48 := by decide

def isSrc (d : TypeDesc) : Prop := (∃ q, d = .slice q) ∨ d = .string
theorem run_append_room {u : TypeId} {sz n sLen sCap : Nat} {sT xT ty : TypeId} {du : TypeDesc} {x : Value} {base : Option Addr} {c : Array Value} {w' : World} (hs : P.underlying sT = some (.slice u)) (hsz : (sizeOf u).run P w = .ok sz w)
    (hx : P.underlying xT = some du) (hdu : isSrc du) (hn : (Builtin.lenOf x).run P w = .ok n w) (hfit : sLen + n ≤ sCap) (hc : (Builtin.firstCells sz n x).run P w = .ok c w)
    (hst : match base with | some a => (storeCells (a.add (sLen * sz)) c.toList).run P w = .ok () w' | none => w' = w) :
    (Builtin.append_ #[sT, xT] ty #[.slice base sLen sCap, x]).run P w = .ok (.slice base (sLen + n) sCap) w' := by
  cases base with
  | none =>
    simp only [] at hst
    subst hst
    rcases hdu with ⟨q, rfl⟩ | rfl <;> simp [Builtin.append_, run_underlying_of hs, hsz, run_underlying_of hx, hn, hfit, hc]
  | some a =>
    simp only [] at hst
    rcases hdu with ⟨q, rfl⟩ | rfl <;> simp [Builtin.append_, run_underlying_of hs, hsz, run_underlying_of hx, hn, hfit, hc, hst]
theorem run_append_more {u : TypeId} {iu : TypeInfo} {z : Value} {n sLen sCap : Nat} {sT xT ty : TypeId} {du : TypeDesc} {x : Value} {base : Option Addr} {c old : Array Value} (hs : P.underlying sT = some (.slice u)) (hi : P.info? u = some iu)
    (hz : iu.zero = some z) (hx : P.underlying xT = some du) (hdu : isSrc du) (hn : (Builtin.lenOf x).run P w = .ok n w) (hmore : sCap < sLen + n) (h63 : sLen + n ≤ lim) (h48 : Builtin.nextslicecap (sLen + n) sCap * iu.bytes ≤ 2 ^ 48)
    (hc : (Builtin.firstCells iu.size n x).run P w.drew = .ok c w.drew) (ho : (Builtin.firstCells iu.size sLen (.slice base sLen sCap)).run P w.drew = .ok old w.drew) :
    (Builtin.append_ #[sT, xT] ty #[.slice base sLen sCap, x]).run P w = .ok (.slice (some ⟨w.heap.size, 0, none⟩) (sLen + n) (grownCap w (sLen + n) sCap u))
      (w.drew.alloc (.cells (old ++ c ++ Builtin.zeroCells z.cells (grownCap w (sLen + n) sCap u - (sLen + n))) u)) := by
  have h1 : ¬ (sLen + n ≤ sCap) := by omega
  have hl : lim = 1073741824 := rfl
  have h2 : ¬ (9223372036854775807 < ((sLen : Int) + (n : Int))) := by omega
  have h3 : ¬ (281474976710656 < Builtin.nextslicecap (sLen + n) sCap * iu.bytes) := by
    have : (2 : Nat) ^ 48 = 281474976710656 := by decide
    omega
  rcases hdu with ⟨q, rfl⟩ | rfl <;> simp [Builtin.append_, run_underlying_of hs, sizeOf, typeInfo, zeroValue, hi, hz, run_underlying_of hx, hn, h1, h2, h3, Question.forced, hc, ho, newRow, grownCap]
theorem zeroCells_size {z : Array Value} {n : Nat} : (Builtin.zeroCells z n).size = n * z.size := by simp [Builtin.zeroCells]

/-- What append does, of a header over a row of one's own. -/
theorem append_core (hh : HeapR μ w h) {t : Ty} {sT xT u ty : TypeId} {du : TypeDesc} (hs : P.underlying sT = some (.slice u)) (hfu : fitTy P t (.id u) = true) (hpl : t.plain = true)
    (hx : P.underlying xT = some du) (hdu : isSrc du) {i : Nat} (hu : ¬ μ.used (i, 0)) {o : Oid} {e : Ent} (he : μ.ent o = some e) {pos : Nat} {xs ys : List t.den} {a : Option Addr} {len c : Nat} {vx : Value}
    (hv : HdrAt e.blk pos t.size e.sz len (.slice a len c)) (hxl : xs.length = len) (hrow : match e.blk with | none => True | some b => Owned w b e.sz ∧ RowAt w (St μ w) b pos t xs) (hsrc : SrcF P μ w t ys vx) (hl : xs.length + ys.length ≤ lim) :
    Sound P μ w h i (Builtin.append_ #[sT, xT] ty #[.slice a len c, vx]) (.own (i, 0)) [(o, none), ((i, 0), some (.vec t (xs ++ ys)))] := by
  have hsz := run_sizeOf (w := w) hfu
  obtain ⟨cy, hcy, hcyr⟩ := hsrc.cells ys.length (Nat.le_refl _)
  rw [List.take_length] at hcy
  have hkh := hh.kill o
  have hks := Step.kill μ w o
  have hku : ¬ (μ.kill o).used (i, 0) := hu
  subst hxl
  -- without a block
  by_cases hroom : xs.length + ys.length ≤ c
  · cases hbk : e.blk with
    | none =>
      rw [hbk] at hv
      obtain ⟨hv, hx0⟩ := hv
      have hx1 : xs = [] := List.eq_nil_of_length_eq_zero hx0
      subst hx1
      cases hv
      have hy1 : ys = [] := List.eq_nil_of_length_eq_zero (by simpa using hroom)
      subst hy1
      obtain ⟨μ', q1, q2, q3, q4⟩ := newNil (i := i) (t := t) hkh hku
      exact ⟨_, w, μ', run_append_room hs hsz hx hdu (hsrc.len w) hroom (hcyr w rfl) rfl, hks.trans q1, q4, q2, q3⟩
    | some b =>
      rw [hbk] at hv hrow
      obtain ⟨off, cap, hv, h1, h2, h3⟩ := hv
      cases hv
      obtain ⟨hO, hR⟩ := hrow
      have hcl : cy.toList.length = ys.length * t.size := hcy.1
      have hone : ∀ v ∈ cy.toList, v.oneCell' = true := by
        intro v hv
        obtain ⟨j, hj⟩ := List.mem_iff_getElem?.1 hv
        have hjl : j < ys.length * t.size := by rw [← hcl]; exact (List.getElem?_eq_some_iff.1 hj).1
        have hpos : 0 < t.size := by
          rcases Nat.eq_zero_or_pos t.size with h0 | h0
          · rw [h0] at hjl; omega
          · exact h0
        have hi : j / t.size < ys.length := Nat.div_lt_of_lt_mul (by rw [Nat.mul_comm]; exact hjl)
        refine Rep.one (hcy.2 _ _ (List.getElem?_eq_getElem hi)) v (List.mem_iff_getElem?.2 ⟨j % t.size, ?_⟩)
        rw [List.getElem?_take_of_lt (Nat.mod_lt _ hpos), List.getElem?_drop, show j / t.size * t.size + j % t.size = j from by rw [Nat.mul_comm]; exact Nat.div_add_mod j t.size]
        exact hj
      have hfit : off + xs.length * t.size + cy.toList.length ≤ e.sz := by
        rw [hcl, Nat.add_assoc, ← Nat.add_mul]
        have : (xs.length + ys.length) * t.size ≤ c * t.size := Nat.mul_le_mul_right _ hroom
        omega
      obtain ⟨w', ew, hw⟩ := run_storeCells_own (P := P) cy.toList 0 w (b := b) (off := off + xs.length * t.size) hO (by omega) hone
      rw [Nat.add_zero] at hw
      let e' : Ent := ⟨true, t, some b, off, (xs ++ ys).length, e.sz⟩
      have hst : Step μ w ((μ.kill o).add (i, 0) e') w' := by
        refine ⟨hw.os, hw.tape, hw.output, Nat.le_of_eq hw.size.symm, fun k hk => ?_, fun p hp => .inr hp, fun p e1 hp he1 => ?_, rfl, fun k hk => hw.other k (fun hkb => hh.nhid o e b he hbk (hkb ▸ hk))⟩
        · have hkb : k ≠ b := fun hkb => by subst hkb; exact hk.2.1 o e he hbk
          refine ⟨⟨by rw [hw.size]; exact hk.1, fun p e1 hp => ?_, hk.2.2⟩, hw.other k hkb⟩
          by_cases hpi : p = (i, 0)
          · subst hpi; rw [Mp.add_at] at hp; cases hp
            intro hbb
            have hbb' : some b = some k := hbb
            cases hbb'; exact hkb rfl
          · rw [Mp.add_ne hpi] at hp
            by_cases hpo : p = o
            · subst hpo; rw [Mp.kill_at] at hp; cases hp
            · rw [Mp.kill_ne hpo] at hp; exact hk.2.1 p e1 hp
        · by_cases hpi : p = (i, 0)
          · subst hpi; exact (hu hp).elim
          · rw [Mp.add_ne hpi] at he1
            by_cases hpo : p = o
            · subst hpo; rw [Mp.kill_at] at he1; cases he1
            · rw [Mp.kill_ne hpo] at he1; exact he1
      refine ⟨_, w', (μ.kill o).add (i, 0) e', run_append_room hs hsz hx hdu (hsrc.len w) hroom (hcyr w rfl) (by show (storeCells ((Addr.mk b off none).add _) _).run P w = _; rw [add_addr]; exact ew), hst, ?_, ?_, ?_⟩
      · refine .inr ⟨rfl, _, _, _, rfl, .inl rfl, fun e1 he1 => ?_⟩
        rw [Mp.add_at] at he1; cases he1
        refine ⟨rfl, off, c, by show _ = Value.slice _ (xs ++ ys).length _; rw [List.length_append], by show (xs ++ ys).length ≤ c; rw [List.length_append]; exact hroom, h2, fun _ => rfl⟩
      · refine hh.move he hbk rfl hu hst hw.other ⟨rfl, rfl, rfl, by rw [List.length_append]; exact hl, hw.owned _ hO, ?_, ?_⟩
        · show off + (xs ++ ys).length * t.size ≤ e.sz
          rw [List.length_append, Nat.add_mul]; omega
        · intro j y hj
          rcases Nat.lt_or_ge j xs.length with hlt | hge
          · rw [List.getElem?_append_left hlt] at hj
            have hoff : off = pos := h3 (by omega)
            obtain ⟨cj, r1, r2⟩ := hR j y hj
            have hcj := Rep.length r2
            refine ⟨cj, ?_, hst.rep r2⟩
            show CellsAt w' b (off + j * t.size) cj
            rw [hoff]
            rw [hoff] at hw
            refine hw.keeps r1 (.inl ?_)
            rw [hcj]
            have : j * t.size + t.size ≤ xs.length * t.size := by rw [← Nat.succ_mul]; exact Nat.mul_le_mul_right _ hlt
            omega
          · rw [List.getElem?_append_right hge] at hj
            refine ⟨_, ?_, hst.rep (hcy.2 _ y hj)⟩
            have := hw.cells.part (k := (j - xs.length) * t.size) (n := t.size)
            have e3 : off + xs.length * t.size + (j - xs.length) * t.size = off + j * t.size := by
              rw [Nat.add_assoc, ← Nat.add_mul, Nat.add_sub_cancel' hge]
            rw [e3] at this
            exact this
      · rintro p (rfl | hp)
        · exact .inr rfl
        · exact .inl hp
  · -- a new block
    have hmore : c < xs.length + ys.length := by omega
    obtain ⟨iu, z, g1, g2, g3, g4, g5, g6⟩ := bytes_fit hfu hpl hmore hl
    -- the old ones
    have hold : ∃ co : Array Value, RowC w (St μ w) t xs co.toList ∧ ∀ W, W.heap = w.heap → (Builtin.firstCells t.size xs.length (.slice a xs.length c)).run P W = .ok co W := by
      cases hbk : e.blk with
      | none =>
        rw [hbk] at hv
        obtain ⟨hv, hx0⟩ := hv
        have hx1 : xs = [] := List.eq_nil_of_length_eq_zero hx0
        subst hx1
        cases hv
        exact ⟨#[], ⟨by simp, fun i x hx => by simp at hx⟩, fun W _ => by simp [Builtin.firstCells]⟩
      | some b =>
        rw [hbk] at hv hrow
        obtain ⟨off, cap, hv, h1, h2, h3⟩ := hv
        cases hv
        have hlb : lim ≤ big := by decide
        obtain ⟨co, k1, k2⟩ := (src_of_row (P := P) (cap := c) rfl (by omega) hrow.2 (fun hp => h3 (by omega))).cells xs.length (Nat.le_refl _)
        rw [List.take_length] at k1
        exact ⟨co, k1, k2⟩
    obtain ⟨co, hco, hcor⟩ := hold
    have hsd := same_drew w
    have hrun := run_append_more (P := P) (w := w) (ty := ty) hs g1 g3 hx hdu (hsrc.len w) hmore hl g5 (by rw [g2]; exact hcyr _ rfl) (by rw [g2]; exact hcor _ rfl)
    have hrows : RowC w.drew (St (μ.kill o) w.drew) t (xs ++ ys) (co.toList ++ cy.toList) :=
      (hco.append hcy).mono (fun b hb => (hks.trans (hsd.step (μ.kill o))).st b hb)
    obtain ⟨μ', q1, q2, q3, q4⟩ := newVec (e := u) (i := i) (C := co ++ cy ++ Builtin.zeroCells z.cells (grownCap w (xs.length + ys.length) c u - (xs.length + ys.length)))
      (rest := (Builtin.zeroCells z.cells (grownCap w (xs.length + ys.length) c u - (xs.length + ys.length))).toList) (hkh.same hsd) hku (by simp) hrows (by rw [List.length_append]; exact hl)
    refine ⟨_, _, μ', hrun, (hks.trans (hsd.step _)).trans q1, ?_, q2, q3⟩
    have hcap := grownCap_ge w (xs.length + ys.length) u c
    have := q4 (grownCap w (xs.length + ys.length) c u) (by rw [List.length_append]; exact hcap) (by
      have e1 : co.size = xs.length * t.size := by have := hco.1; rw [Array.length_toList] at this; exact this
      have e2 : cy.size = ys.length * t.size := by have := hcy.1; rw [Array.length_toList] at this; exact this
      rw [Array.size_append, Array.size_append, zeroCells_size, g4, e1, e2, ← Nat.add_mul, ← Nat.add_mul, Nat.add_sub_cancel' hcap]
      exact Nat.le_refl _)
    rw [List.length_append] at this
    exact this
end
end Go.PE
end

section
namespace Go.PE
set_option linter.unusedSimpArgs false
section
variable {P : Program} {μ : Mp} {w : World} {h hp : Heap}

theorem append_ok (hh : HeapR μ w h) (hs : HSub hp h) {t : Ty} {sT xT ty : TypeId} {du : TypeDesc} (hT : fitTy P (.slice t) (.id sT) = true) (hxT : P.underlying xT = some du) (hdu : isSrc du)
    {i : Nat} (hu : ¬ μ.used (i, 0)) {s x r : TV} {d : Delta} {vs vx : Value} (hk : (appendK hp (i, 0) t s x fun v d => some (v, d)) = some (r, d)) (hvs : VR μ w s vs) (hvx : VR μ w x vx) :
    Sound P μ w h i (Builtin.append_ #[sT, xT] ty #[vs, vx]) r d := by
  obtain ⟨u, hus, hfu, hpos, hpl⟩ := slice_und hT
  unfold appendK at hk
  replace hk := src_ok (P := P) hh hs hk hvx; obtain ⟨ys, hk, hsrc⟩ := hk
  split at hk
  · replace hk := bif_some hk; obtain ⟨hl, hk⟩ := hk
    have hl : ys.length ≤ lim := by simpa using hl
    cases hk
    have h1 : [vs] = [Value.slice none 0 0] := hvs.scal rfl
    cases h1
    obtain ⟨cy, hcy, hcyr⟩ := hsrc.cells ys.length (Nat.le_refl _)
    rw [List.take_length] at hcy
    by_cases hroom : 0 + ys.length ≤ 0
    · have hy1 : ys = [] := List.eq_nil_of_length_eq_zero (by omega)
      subst hy1
      obtain ⟨μ', q1, q2, q3, q4⟩ := newNil (i := i) (t := t) hh hu
      exact ⟨_, w, μ', run_append_room hus (run_sizeOf hfu) hxT hdu (hsrc.len w) hroom (hcyr w rfl) rfl, q1, q4, q2, q3⟩
    · obtain ⟨iu, z, g1, g2, g3, g4, g5, g6⟩ := bytes_fit hfu hpl (need := 0 + ys.length) (old := 0) (by omega) (by omega)
      have hsd := same_drew w
      have hrun := run_append_more (P := P) (w := w) (ty := ty) (base := none) (old := #[]) hus g1 g3 hxT hdu (hsrc.len w) (by omega) (by omega) g5 (by rw [g2]; exact hcyr _ rfl) (by simp [Builtin.firstCells])
      have hrows : RowC w.drew (St μ w.drew) t ys cy.toList := hcy.mono (fun b hb => (hsd.step μ).st b hb)
      obtain ⟨μ', q1, q2, q3, q4⟩ := newVec (e := u) (i := i) (C := #[] ++ cy ++ Builtin.zeroCells z.cells (grownCap w (0 + ys.length) 0 u - (0 + ys.length)))
        (rest := (Builtin.zeroCells z.cells (grownCap w (0 + ys.length) 0 u - (0 + ys.length))).toList) (hh.same hsd) hu (by simp) hrows hl
      refine ⟨_, _, μ', hrun, (hsd.step _).trans q1, ?_, q2, q3⟩
      have hcap := grownCap_ge w (0 + ys.length) u 0
      have := q4 (grownCap w (0 + ys.length) 0 u) (by omega) (by
        have e2 : cy.size = (0 + ys.length) * t.size := by have := hcy.1; rw [Array.length_toList] at this; rw [Nat.zero_add]; exact this
        rw [Array.size_append, Array.size_append, zeroCells_size, g4, e2]
        show _ ≤ 0 + (0 + ys.length) * t.size + _
        rw [Nat.zero_add ((0 + ys.length) * t.size), ← Nat.add_mul, Nat.add_sub_cancel' hcap]
        exact Nat.le_refl _)
      have e0 : (0 + ys.length) = ys.length := Nat.zero_add _
      generalize hG : grownCap w (0 + ys.length) 0 u = G at *
      rw [e0]
      exact this
  · rename_i t' xs
    replace hk := castK_eq hk; obtain ⟨hb, hk⟩ := hk
    have ee := slice_cast hb
    subst ee
    replace hk := bif_some hk; obtain ⟨hl, hk⟩ := hk
    simp only [Bool.and_eq_true, decide_eq_true_eq] at hl
    obtain ⟨hy0, hl⟩ := hl
    replace hk : some (TV.own (i, 0), [((i, 0), some (Ob.vec t' (xs ++ ys)))]) = some (r, d) := hk
    cases hk
    obtain ⟨a, h1, h2⟩ := hvs.scal rfl
    cases h1
    obtain ⟨a', cap, e1, q1, q2, q3⟩ := h2
    cases e1
    obtain ⟨cy, hcy, hcyr⟩ := hsrc.cells ys.length (Nat.le_refl _)
    rw [List.take_length] at hcy
    have hmore : xs.length < xs.length + ys.length := by omega
    obtain ⟨iu, z, g1, g2, g3, g4, g5, g6⟩ := bytes_fit hfu hpl hmore hl
    have hold : ∃ co : Array Value, RowC w (St μ w) t' xs co.toList ∧ ∀ W, W.heap = w.heap → (Builtin.firstCells t'.size xs.length (.slice a xs.length xs.length)).run P W = .ok co W := by
      cases a with
      | none =>
        have q3' : xs.length = 0 := q3
        have hx1 : xs = [] := List.eq_nil_of_length_eq_zero q3'
        subst hx1
        exact ⟨#[], ⟨by simp, fun i x hx => by simp at hx⟩, fun W _ => by simp [Builtin.firstCells]⟩
      | some a =>
        rcases Nat.eq_zero_or_pos xs.length with h0 | h0
        · have hx1 : xs = [] := List.eq_nil_of_length_eq_zero h0
          subst hx1
          exact ⟨#[], ⟨by simp, fun i x hx => by simp at hx⟩, fun W _ => by
            have := run_firstCells_some (P := P) W t'.size 0 a 0 0 [] (by simp) (fun j v hj => by simp at hj)
            exact this⟩
        · obtain ⟨p1, p2, p3⟩ := q3 h0
          have ha : a = ⟨a.block, a.off, none⟩ := by cases a; simp at p1; subst p1; rfl
          obtain ⟨co, k1, k2⟩ := (src_of_row (P := P) (μ := μ) (w := w) (t := t') (ys := xs) (b := a.block) (pos := a.off) (off := a.off) (cap := xs.length) rfl q2 p3 (fun _ => rfl)).cells xs.length (Nat.le_refl _)
          rw [List.take_length] at k1
          exact ⟨co, k1, fun W hW => by rw [ha]; exact k2 W hW⟩
    obtain ⟨co, hco, hcor⟩ := hold
    have hsd := same_drew w
    have hrun := run_append_more (P := P) (w := w) (ty := ty) hus g1 g3 hxT hdu (hsrc.len w) hmore hl g5 (by rw [g2]; exact hcyr _ rfl) (by rw [g2]; exact hcor _ rfl)
    have hrows : RowC w.drew (St μ w.drew) t' (xs ++ ys) (co.toList ++ cy.toList) := (hco.append hcy).mono (fun b hb => (hsd.step μ).st b hb)
    obtain ⟨μ', r1, r2, r3, r4⟩ := newVec (e := u) (i := i) (C := co ++ cy ++ Builtin.zeroCells z.cells (grownCap w (xs.length + ys.length) xs.length u - (xs.length + ys.length)))
      (rest := (Builtin.zeroCells z.cells (grownCap w (xs.length + ys.length) xs.length u - (xs.length + ys.length))).toList) (hh.same hsd) hu (by simp) hrows (by rw [List.length_append]; exact hl)
    refine ⟨_, _, μ', hrun, (hsd.step _).trans r1, ?_, r2, r3⟩
    have hcap := grownCap_ge w (xs.length + ys.length) u xs.length
    have := r4 (grownCap w (xs.length + ys.length) xs.length u) (by rw [List.length_append]; exact hcap) (by
      have e1 : co.size = xs.length * t'.size := by have := hco.1; rw [Array.length_toList] at this; exact this
      have e2 : cy.size = ys.length * t'.size := by have := hcy.1; rw [Array.length_toList] at this; exact this
      rw [Array.size_append, Array.size_append, zeroCells_size, g4, e1, e2, ← Nat.add_mul, ← Nat.add_mul, Nat.add_sub_cancel' hcap]
      exact Nat.le_refl _)
    rw [List.length_append] at this
    exact this
  · rename_i o
    replace hk := row_ok hh hs hk; obtain ⟨t', xs, hk, e, k, he, hrow, hvec, hblk⟩ := hk
    replace hk := castK_eq hk; obtain ⟨hb, hk⟩ := hk
    have ee := slice_cast hb
    subst ee
    replace hk := bif_some hk; obtain ⟨hl, hk⟩ := hk
    cases hk
    obtain ⟨a, n, c, h1, hou, h2⟩ := hvs.scal rfl
    cases h1
    obtain ⟨g1, g2⟩ := h2 e he
    obtain ⟨f1, f2, f3, f4⟩ := hvec g1
    have hn : n = e.len := by
      unfold HdrAt at g2
      cases hbk : e.blk with
      | none => rw [hbk] at g2; obtain ⟨g2, g3⟩ := g2; cases g2; exact g3.symm
      | some b => rw [hbk] at g2; obtain ⟨_, _, g2, _⟩ := g2; cases g2; rfl
    subst hn
    refine append_core (xs := xs) hh hus hfu hpl hxT hdu hu he (pos := e.start) (by rw [f3] at g2; exact g2) f2.symm ?_ hsrc (by simpa using hl)
    cases hbk : e.blk with
    | none => trivial
    | some b => rw [hbk] at hblk; rw [f4, Nat.add_zero] at hblk; exact ⟨hblk.1, hblk.2.2⟩
  · rename_i o p off len
    replace hk := row_ok hh hs hk; obtain ⟨t', xs, hk, e, k, he, hrow, hvec, hblk⟩ := hk
    replace hk := castK_eq hk; obtain ⟨hb, hk⟩ := hk
    have ee := slice_cast hb
    subst ee
    replace hk := bif_some hk; obtain ⟨hl, hk⟩ := hk
    cases hk
    obtain ⟨a, c, h1, ha, hbig, hou, h2⟩ := hvs.scal rfl
    cases h1
    obtain ⟨k1, t1, n1, g1, g2, g3⟩ := h2 e he
    rw [hrow] at g1; cases g1
    refine append_core (xs := sub xs off len) hh hus hfu hpl hxT hdu hu he g3 (sub_len g2) ?_ hsrc (by simpa using hl)
    cases hbk : e.blk with
    | none => trivial
    | some b => rw [hbk] at hblk; exact ⟨hblk.1, hblk.2.2.sub⟩
  · cases hk

theorem RowC.one {st : Nat → Prop} {t : Ty} {ys : List t.den} {cs : List Value} (h : RowC w st t ys cs) : ∀ v ∈ cs, v.oneCell' = true := by
  intro v hv
  obtain ⟨j, hj⟩ := List.mem_iff_getElem?.1 hv
  have hjl : j < ys.length * t.size := by rw [← h.1]; exact (List.getElem?_eq_some_iff.1 hj).1
  have hpos : 0 < t.size := by
    rcases Nat.eq_zero_or_pos t.size with h0 | h0
    · rw [h0] at hjl; omega
    · exact h0
  have hi : j / t.size < ys.length := Nat.div_lt_of_lt_mul (by rw [Nat.mul_comm]; exact hjl)
  refine Rep.one (h.2 _ _ (List.getElem?_eq_getElem hi)) v (List.mem_iff_getElem?.2 ⟨j % t.size, ?_⟩)
  rw [List.getElem?_take_of_lt (Nat.mod_lt _ hpos), List.getElem?_drop, show j / t.size * t.size + j % t.size = j from by rw [Nat.mul_comm]; exact Nat.div_add_mod j t.size]
  exact hj
theorem copy_ok (hh : HeapR μ w h) (hs : HSub hp h) {t : Ty} {dT xT ty : TypeId} (hT : fitTy P (.slice t) (.id dT) = true) {i : Nat} {x y r : TV} {d : Delta} {vx vy : Value}
    (hk : (copyK hp t x y fun v d => some (v, d)) = some (r, d)) (hvx : VR μ w x vx) (hvy : VR μ w y vy) :
    Sound P μ w h i (Builtin.copy_ #[dT, xT] ty #[vx, vy]) r d := by
  obtain ⟨u, hus, hfu, hpos, hpl⟩ := slice_und hT
  have hsz := run_sizeOf (w := w) hfu
  unfold copyK at hk
  replace hk := src_ok (P := P) hh hs hk hvy; obtain ⟨ys, hk, hsrc⟩ := hk
  have h64 : ∀ m : Nat, m ≤ lim → IntKind.min .i64 ≤ (m : Int) ∧ (m : Int) ≤ IntKind.max .i64 := by
    intro m hm
    have h1 : IntKind.min .i64 = -9223372036854775808 := rfl
    have h2 : IntKind.max .i64 = 9223372036854775807 := rfl
    have h3 : lim = 1073741824 := rfl
    omega
  split at hk
  · rename_i o
    replace hk := row_ok hh hs hk; obtain ⟨t', xs, hk, e, k, he, hrow, hvec, hblk⟩ := hk
    replace hk := castK_eq hk; obtain ⟨hb, hk⟩ := hk
    have ee := slice_cast hb
    subst ee
    replace hk : some (TV.pv (.int .i64) ((min ys.length xs.length : Nat) : Int), [(o, some (Ob.vec t' (ys.take xs.length ++ xs.drop ys.length)))]) = some (r, d) := hk
    cases hk
    obtain ⟨a, n, c, h1, hou, h2⟩ := hvx.scal rfl
    cases h1
    obtain ⟨g1, g2⟩ := h2 e he
    obtain ⟨f1, f2, f3, f4⟩ := hvec g1
    obtain ⟨cy, hcy, hcyr⟩ := hsrc.cells (min ys.length xs.length) (Nat.min_le_left _ _)
    have hcl : cy.toList.length = min ys.length xs.length * t'.size := by rw [hcy.1, List.length_take, Nat.min_eq_left (Nat.min_le_left _ _)]
    have htl : (ys.take xs.length).length = min ys.length xs.length := by rw [List.length_take, Nat.min_comm]
    have hlen : (ys.take xs.length ++ xs.drop ys.length).length = xs.length := by rw [List.length_append, htl, List.length_drop]; omega
    have htk : ys.take (min ys.length xs.length) = ys.take xs.length := by
      rcases Nat.le_total ys.length xs.length with h | h
      · rw [Nat.min_eq_left h, List.take_length, List.take_of_length_le h]
      · rw [Nat.min_eq_right h]
    rw [htk] at hcy
    unfold HdrAt at g2
    cases hbk : e.blk with
    | none =>
      rw [hbk] at g2 hblk
      obtain ⟨g2, g3⟩ := g2
      cases g2
      simp only [] at hblk
      subst hblk
      refine ⟨.int .i64 0, w, μ, ?_, Step.refl μ w, ?_, ?_, fun o ho => .inl ho⟩
      · have hmin : Nat.min ys.length 0 = 0 := Nat.min_zero _
        have hc0 := hcyr w rfl
        simp only [List.length_nil, Nat.min_zero] at hc0
        simp [Builtin.copy_, run_underlying_of hus, hsrc.len w, hsz, hmin, hc0, goInt]
      · have e0 : ((min ys.length ([] : List t'.den).length : Nat) : Int) = 0 := by simp
        rw [e0]; exact VR.mk_int (h64 0 (Nat.zero_le _))
      · have e1 : ys.take ([] : List t'.den).length ++ ([] : List t'.den).drop ys.length = [] := by simp
        rw [e1]
        obtain ⟨ob, hob⟩ := hh.dom o e he
        have hobr := hh.ob o ob hob
        obtain ⟨e9, he9, hr9⟩ := hobr
        rw [he] at he9; cases he9
        have : ob = .vec t' [] := by
          cases ob with
          | box B c => obtain ⟨q1, _⟩ := hr9; rw [g1] at q1; cases q1
          | mp k v l => obtain ⟨b', _, _, q1, _⟩ := hr9; rw [hbk] at q1; cases q1
          | vec B zs =>
            obtain ⟨_, q2, _, _, q4⟩ := hr9
            rw [hbk] at q4
            simp only [] at q4
            rw [f3] at q2
            subst q2
            rw [q4]
        subst this
        have hput : h.put o (some (.vec t' [])) = h := by
          funext p
          by_cases hpo : p = o
          · subst hpo; rw [Heap.put_at, hob]
          · rw [Heap.put_ne hpo]
        show HeapR μ w (h.put o (some (.vec t' [])))
        rw [hput]; exact hh
    | some b =>
      rw [hbk] at g2 hblk
      obtain ⟨off, cap, g2, g3, g4, g5⟩ := g2
      cases g2
      rw [f4, Nat.add_zero] at hblk
      obtain ⟨hO, hsz2, hR⟩ := hblk
      rw [f3] at g4
      have hcyx : cy.toList.length ≤ xs.length * t'.size := by rw [hcl]; exact Nat.mul_le_mul_right _ (Nat.min_le_right _ _)
      have hoff : 0 < xs.length → off = e.start := fun hp => g5 (by omega)
      -- the store
      have hst : ∃ w', (storeCells ⟨b, off, none⟩ cy.toList).run P w = .ok () w' ∧ Wrote w w' b e.start cy.toList := by
        rcases Nat.eq_zero_or_pos xs.length with h0 | h0
        · have hc0 : cy.toList = [] := List.eq_nil_of_length_eq_zero (by rw [h0] at hcyx; omega)
          rw [hc0]
          exact ⟨w, rfl, rfl, rfl, rfl, rfl, fun _ _ => rfl, fun _ h => h, fun j v hj => by simp at hj, fun _ _ => rfl⟩
        · rw [hoff h0]
          exact run_storeCells_own cy.toList 0 w hO (by omega) hcy.one
      obtain ⟨w', ew, hw⟩ := hst
      have hstep := hw.step (μ := μ) (hh.nhid o e b he hbk) he hbk
      refine ⟨goInt (min ys.length xs.length : Nat), w', μ, ?_, hstep, ?_, ?_, fun o ho => .inl ho⟩
      · have hmin : Nat.min ys.length e.len = min ys.length xs.length := by rw [f2]
        simp [Builtin.copy_, run_underlying_of hus, hsrc.len w, hsz, hmin, hcyr w rfl, ew]
      · exact VR.mk_int (h64 _ (Nat.le_trans (Nat.min_le_right _ _) f1))
      · show HeapR μ w' (h.put o _)
        refine hh.write he hbk hstep hw.other ⟨g1, f3, by rw [hlen]; exact f2, by rw [hlen]; exact f1, ?_⟩
        rw [hbk]
        refine ⟨hw.owned _ hO, by rw [hlen]; exact hsz2, fun j z hj => ?_⟩
        rcases Nat.lt_or_ge j (ys.take xs.length).length with hlt | hge
        · rw [List.getElem?_append_left hlt] at hj
          exact ⟨_, hw.cells.part, hstep.rep (hcy.2 j z hj)⟩
        · rw [List.getElem?_append_right hge, List.getElem?_drop] at hj
          have hjl := (List.getElem?_eq_some_iff.1 hj).1
          rw [htl] at hge hj hjl
          have hj' : ys.length + (j - min ys.length xs.length) = j := by omega
          rw [hj'] at hj
          obtain ⟨cj, r1, r2⟩ := hR j z hj
          refine ⟨cj, hw.keeps r1 (.inr ?_), hstep.rep r2⟩
          rw [hcl]
          have : min ys.length xs.length * t'.size ≤ j * t'.size := Nat.mul_le_mul_right _ hge
          omega
  · rename_i o len
    split at hk
    · rename_i n u' T xs hq
      replace hk := castK_eq hk; obtain ⟨hb, hk⟩ := hk
      obtain rfl := Ty.eq_of_beq hb
      replace hk := bif_some hk; obtain ⟨hc, hk⟩ := hk
      simp only [Bool.and_eq_true] at hc
      obtain ⟨hut, hln, hn4⟩ := hc
      obtain rfl := Ty.eq_of_beq hut
      have hln := natBeq_eq hln
      have hn64 : n ≤ lim := Nat.le_trans (Nat.le_of_ble_eq_true hn4) (by decide)
      subst hln
      cases hk
      obtain ⟨e, he, g1, g2, g0, b, cs, g3, g4, g5, g6, g7⟩ := hh.ob _ _ (hs _ _ hq)
      have g7' : Rep w (St μ w) (.arr n u') xs cs := g7
      obtain ⟨r1, r2, r3⟩ := g7'
      obtain ⟨a, c, f1, fa, _, hou, f2⟩ := hvx.scal rfl
      cases f1
      obtain ⟨k, t1, n1, f3, f4, f5⟩ := f2 e he
      simp only [Ent.row, g1, g2, offs_nil, Option.some.injEq, Prod.mk.injEq] at f3
      obtain ⟨rfl, rfl, rfl⟩ := f3
      rw [g3] at f5
      obtain ⟨off, cap, f6, f7, f8, f9⟩ := f5
      cases f6
      have hoff : 0 < n → off = e.start := fun hp => by have := f9 (by omega); omega
      have hsz5 : e.start + n * u'.size ≤ e.sz := g5
      obtain ⟨cy, hcy, hcyr⟩ := hsrc.cells (min ys.length n) (Nat.min_le_left _ _)
      have hcl : cy.toList.length = min ys.length n * u'.size := by rw [hcy.1, List.length_take, Nat.min_eq_left (Nat.min_le_left _ _)]
      have hcyx : cy.toList.length ≤ n * u'.size := by rw [hcl]; exact Nat.mul_le_mul_right _ (Nat.min_le_right _ _)
      have hst : ∃ w', (storeCells ⟨b, off, none⟩ cy.toList).run P w = .ok () w' ∧ Wrote w w' b (e.start + 0) cy.toList := by
        rcases Nat.eq_zero_or_pos n with h0 | h0
        · have hc0 : cy.toList = [] := List.eq_nil_of_length_eq_zero (by rw [h0] at hcyx; omega)
          rw [hc0]
          exact ⟨w, rfl, rfl, rfl, rfl, rfl, fun _ _ => rfl, fun _ h => h, fun j v hj => by simp at hj, fun _ _ => rfl⟩
        · rw [hoff h0]
          exact run_storeCells_own cy.toList 0 w g4 (by omega) hcy.one
      obtain ⟨w', ew, hw⟩ := hst
      have hstep := hw.step (μ := μ) (hh.nhid o e b he g3) he g3
      refine ⟨goInt (min ys.length n : Nat), w', μ, ?_, hstep, ?_, ?_, fun o ho => .inl ho⟩
      · have hmin : Nat.min ys.length n = min ys.length n := rfl
        simp [Builtin.copy_, run_underlying_of hus, hsrc.len w, hsz, hmin, hcyr w rfl, ew]
      · exact VR.mk_int (h64 _ (Nat.le_trans (Nat.min_le_right _ _) hn64))
      · show HeapR μ w' (h.put o _)
        have hnew := hw.splice g6 (by omega)
        refine hh.write he g3 hstep hw.other ⟨g1, g2, fit_pv, b, _, g3, hw.owned _ g4, g5, hnew, ?_⟩
        have htl : (ys.take n).length = min ys.length n := by rw [List.length_take, Nat.min_comm]
        have hxl : xs.length = n := r1
        refine ⟨?_, ?_, fun j z hj => ?_⟩
        · show (ys.take n ++ xs.drop ys.length).length = n
          rw [List.length_append, htl, List.length_drop]; omega
        · show (cs.take 0 ++ cy.toList ++ cs.drop (0 + cy.toList.length)).length = n * u'.size
          rw [List.take_zero, List.nil_append, Nat.zero_add, List.length_append, List.length_drop, r2]; omega
        · show Rep w' (St μ w') u' z (((cs.take 0 ++ cy.toList ++ cs.drop (0 + cy.toList.length)).drop (j * u'.size)).take u'.size)
          rw [List.take_zero, List.nil_append, Nat.zero_add]
          have hj : (ys.take n ++ xs.drop ys.length)[j]? = some z := hj
          rcases Nat.lt_or_ge j (ys.take n).length with hlt | hge
          · rw [List.getElem?_append_left hlt] at hj
            rw [htl] at hlt
            have hb : (j + 1) * u'.size ≤ min ys.length n * u'.size := Nat.mul_le_mul_right _ hlt
            rw [Nat.add_mul, Nat.one_mul] at hb
            have hjn : (ys.take (min ys.length n))[j]? = some z := by
              rw [List.getElem?_take] at hj ⊢
              have hjn : j < n := by omega
              rw [if_pos hjn] at hj
              rw [if_pos hlt]; exact hj
            have hrep := hcy.2 j z hjn
            rw [List.drop_append_of_le_length (by omega), List.take_append_of_le_length (by rw [List.length_drop]; omega)]
            exact hstep.rep hrep
          · rw [List.getElem?_append_right hge, List.getElem?_drop] at hj
            rw [htl] at hge hj
            have hjl := (List.getElem?_eq_some_iff.1 hj).1
            have hj' : ys.length + (j - min ys.length n) = j := by omega
            rw [hj'] at hj
            have hb : min ys.length n * u'.size ≤ j * u'.size := Nat.mul_le_mul_right _ hge
            have hrep := r3 j z hj
            rw [List.drop_append, List.drop_drop]
            have e1 : cy.toList.drop (j * u'.size) = [] := List.drop_eq_nil_of_le (by omega)
            have e2 : cy.toList.length + (j * u'.size - cy.toList.length) = j * u'.size := by omega
            rw [e1, e2, List.nil_append]
            exact hstep.rep hrep
    · cases hk
  · cases hk
    have h1 : [vx] = [Value.slice none 0 0] := hvx.scal rfl
    cases h1
    obtain ⟨cy, hcy, hcyr⟩ := hsrc.cells 0 (Nat.zero_le _)
    refine ⟨.int .i64 0, w, μ, ?_, Step.refl μ w, VR.mk_int (h64 0 (Nat.zero_le _)), hh, fun o ho => .inl ho⟩
    have hmin : Nat.min ys.length 0 = 0 := Nat.min_zero _
    simp [Builtin.copy_, run_underlying_of hus, hsrc.len w, hsz, hmin, hcyr w rfl, goInt]
  · cases hk
theorem toArray_ok {n : Nat} {T : Ty} {t : TypeId} (hT : fitTy P (.arr n T) (.id t) = true) {xs : List T.den} {v : Value} (hn : n ≤ xs.length) (hx : VR μ w (.pv (.slice T) xs) v) :
    Gives P μ w (Instr.arrayAt t v) (.cptr (.arr n T) (xs.take n)) := by
  obtain ⟨u, hu, hfu, hpos, _, hn1, hn2⟩ := arr_und hT
  obtain ⟨a, cap, g1, g2, g3, g4⟩ := hx.scal rfl
  cases g1
  cases a with
  | none => have g4' : cap = 0 := g4; omega
  | some a =>
    obtain ⟨g5, g6, g7⟩ := g4 (by omega)
    have ha : a = ⟨a.block, a.off, none⟩ := by cases a; simp at g5; subst g5; rfl
    obtain ⟨c, h1, h2, h3⟩ := row_cells (show RowAt w (St μ w) a.block a.off T xs from g7)
    have hr := row_take (n := n) ⟨h1, h3⟩ hn
    refine ⟨.pointer (some a), ?_, .inr ⟨rfl, a.block, a.off, c.take (n * T.size), by rw [← ha], g6, ?_, ?_⟩⟩
    · have : ¬ xs.length < n := by omega
      simp [Instr.arrayAt, run_underlying_of hu, this]
    · intro j v hj
      rw [List.getElem?_take] at hj
      split at hj
      · exact h2 j v hj
      · cases hj
    · refine ⟨by rw [List.length_take]; omega, ?_, hr.2⟩
      rw [hr.1, List.length_take, Nat.min_eq_left hn]
end
end Go.PE
end

section
namespace Go.PE
set_option linter.unusedSimpArgs false
section
variable {μ μc : Mp} {w : World} {h hp : Heap}

structure Bind.le (b b' : Bind) : Prop where
  src : ∀ j, b.src j ≠ .none → b'.src j = b.src j
  snaps : ∀ o, o ∈ b.snaps → o ∈ b'.snaps
theorem Bind.le_refl (b : Bind) : b.le b := ⟨fun _ _ => rfl, fun _ h => h⟩
theorem Bind.le_trans {a b c : Bind} (h : a.le b) (k : b.le c) : a.le c :=
  ⟨fun j hj => by rw [k.src j (by rw [h.src j hj]; exact hj), h.src j hj], fun o ho => k.snaps o (h.snaps o ho)⟩
theorem Bind.le_snap {b : Bind} {l : List Oid} : b.le (b.snap l) := ⟨fun _ _ => rfl, fun _ h => List.mem_append_right _ h⟩
theorem Bind.set_at {b : Bind} {j : Nat} {s : Src} : (b.set j s).src j = s := by simp [Bind.set, Bind.src, srcAt]
theorem Bind.set_ne {b : Bind} {j : Nat} {i : Nat} {s : Src} (h : i ≠ j) : (b.set j s).src i = b.src i := by simp [Bind.set, Bind.src, srcAt, natBeq_of_ne h]
theorem Bind.le_set {b : Bind} {j : Nat} {s : Src} (h : b.src j = .none) : b.le (b.set j s) :=
  ⟨fun _ hi => Bind.set_ne (fun e => hi (e ▸ h)), fun _ h => h⟩

/-- The objects of a template as they lie: what they come of. -/
structure PC (μ μc : Mp) (w : World) (b : Bind) : Prop where
  used : ∀ j, b.src j ≠ .none → μc.used (j, 0)
  obj : ∀ j o, b.src j = .obj o → ∀ e, μc.ent (j, 0) = some e → μ.ent o = some e
  part : ∀ j o off len, b.src j = .part o off len → ∀ e', μc.ent (j, 0) = some e' → ∃ e, μ.ent o = some e ∧ e.vec = true ∧ e'.vec = true ∧ e'.ty = e.ty ∧ e'.blk = e.blk ∧ e'.start = e.start + off * e.ty.size ∧ e'.len = len ∧ e'.sz = e.sz
  fresh : ∀ j, b.src j = .fresh → ∀ e', μc.ent (j, 0) = some e' → e'.vec = true ∧ e'.blk = none ∧ e'.len = 0
  st : ∀ k, StM μ w b.snaps k → St μc w k

theorem pathBeq_eq : ∀ {p q : List Nat}, pathBeq p q = true → p = q := by
  intro p
  induction p with
  | nil => intro q h; cases q <;> first | rfl | cases h
  | cons a p ih =>
    intro q h
    cases q with
    | nil => cases h
    | cons b q => simp only [pathBeq, Bool.and_eq_true] at h; rw [natBeq_eq h.1, ih h.2]
theorem pure_agg {α : Type} : ∀ {v : TV} {T : Ty} {K : T.den → Option α} {r : α}, pureK hp v T K = some r → aggTV v = T.isAgg := by
  intro v
  cases v with
  | pv t x =>
    intro T K r hk
    obtain ⟨hb, _⟩ := castK_eq hk
    obtain rfl := Ty.eq_of_beq hb
    rfl
  | _ => intro T K r hk; cases T <;> first | rfl | cases hk
theorem aggTV_ncons {a as : TV} : aggTV (.ncons a as) = true := rfl

theorem match_ok {α : Type} (hh : HeapR μ w h) (hs : HSub hp h) : ∀ {T : TT} {v : TV} {b : Bind} {K : T.den → Bind → Option α} {r : α}, matchK hp T v b K = some r →
    ∃ x b', K x b' = some r ∧ b.le b' ∧ aggTV (T.fill ids0 x) = aggTV v ∧ ∀ bf μc, b'.le bf → PC μ μc w bf →
      (∀ cs, R μ w v false cs → R μc w (T.fill ids0 x) false cs) ∧ (T.isList = true → ∀ vs, R μ w v true vs → R μc w (T.fill ids0 x) true vs) := by
  intro T
  induction T with
  | hole t =>
    intro v b K r hk
    have hag := pure_agg hk
    -- what the value is does not hang on the cells: take it out first
    have key : ∃ x, K x (b.snap (tvIds v)) = some r ∧ ∀ cs, R μ w v false cs → Rep w (StM μ w (tvIds v)) t x cs := by
      have hp' : ∃ x, K x (b.snap (tvIds v)) = some r ∧ pureK hp v t (fun y => some y) = some x := by
        have := pureK_bind (h := hp) (v := v) (T := t) (M := fun y => some y) (K := fun x => K x (b.snap (tvIds v)))
        simp only [Option.bind_some] at this
        have hk' : (pureK hp v t fun y => some y).bind (fun x => K x (b.snap (tvIds v))) = some r := this.trans hk
        obtain ⟨x, h1, h2⟩ := Option.bind_eq_some_iff.1 hk'
        exact ⟨x, h2, h1⟩
      obtain ⟨x, h1, h2⟩ := hp'
      refine ⟨x, h1, fun cs hr => ?_⟩
      obtain ⟨y, h3, h4⟩ := pure_ok hh hs h2 hr
      cases h3; exact h4
    obtain ⟨x, h1, h2⟩ := key
    refine ⟨x, _, h1, Bind.le_snap, hag.symm, fun bf μc hle hpc => ⟨fun cs hr => ?_, fun hl => by cases hl⟩⟩
    exact (h2 cs hr).mono (fun k hk => ⟨hpc.st k (StM.mono_ids (fun o ho => hle.snaps o (List.mem_append_left _ ho)) hk), rfl⟩)
  | cptr t =>
    intro v b K r hk
    cases v with
    | cptr t' x =>
      simp only [matchK] at hk
      replace hk := castK_eq hk; obtain ⟨hb, hk⟩ := hk
      refine ⟨_, b, hk, Bind.le_refl b, rfl, fun bf μc hle hpc => ⟨fun cs hr => ?_, fun hl => by cases hl⟩⟩
      obtain ⟨bb, off, c, g1, g2, g3, g4⟩ := hr
      exact ⟨bb, off, c, g1, hpc.st _ (.inl g2), g3, Rep.cast hb (g4.mono (fun k hk => ⟨hpc.st k (.inl hk), rfl⟩))⟩
    | ptr o p =>
      simp only [matchK] at hk
      split at hk
      · rename_i B c hq
        obtain ⟨e, he, g1, g2, g0, bb, cs0, g3, g4, g5, g6, g7⟩ := hh.ob _ _ (hs _ _ hq)
        rw [tgetK_eq] at hk
        replace hk := Option.bind_eq_some_iff.1 hk; obtain ⟨v1, hv1, hk⟩ := hk
        obtain ⟨k, U, q1, q2, q3, q4⟩ := get_part hv1 g0 g7
        replace hk := pure_ok hh hs hk q2; obtain ⟨x, hk, hx⟩ := hk
        refine ⟨x, _, hk, Bind.le_snap, rfl, fun bf μc hle hpc => ⟨fun cs hr => ?_, fun hl => by cases hl⟩⟩
        obtain ⟨a, f1, hu, f2⟩ := hr
        obtain ⟨k1, f3, f4, f5⟩ := f2 e he
        have hoff : e.off p = some k := by simp [Ent.off, g1, g2, q1]
        rw [hoff] at f3; cases f3
        rw [g3] at f4; cases f4
        refine ⟨a.block, e.start + k, (cs0.drop k).take U.size, by rw [f1, f5], hpc.st _ (.inr ⟨o, e, hle.snaps o (List.mem_append_left _ (by simp)), he, g3⟩), g6.part, ?_⟩
        exact hx.mono (fun k hk => ⟨hpc.st k (StM.mono_ids (fun o ho => hle.snaps o (List.mem_append_left _ (by simp [ho]))) hk), rfl⟩)
      · cases hk
    | _ => cases hk
  | own j =>
    intro v b K r hk
    simp only [matchK] at hk
    split at hk
    · rename_i hsrc
      split at hk
      · rename_i o
        refine ⟨(), _, hk, Bind.le_set hsrc, rfl, fun bf μc hle hpc => ⟨fun cs hr => ?_, fun hl => by cases hl⟩⟩
        have hbf : bf.src j = .obj o := by rw [hle.src j (by rw [Bind.set_at]; simp), Bind.set_at]
        obtain ⟨a, n, c, g1, hu, g2⟩ := hr
        exact ⟨a, n, c, g1, hpc.used j (by rw [hbf]; simp), fun e he => g2 e (hpc.obj j o hbf e he)⟩
      · rename_i o off len
        refine ⟨(), _, hk, Bind.le_set hsrc, rfl, fun bf μc hle hpc => ⟨fun cs hr => ?_, fun hl => by cases hl⟩⟩
        have hbf : bf.src j = .part o off len := by rw [hle.src j (by rw [Bind.set_at]; simp), Bind.set_at]
        obtain ⟨a, c, g1, ga, gb, hu, g2⟩ := hr
        refine ⟨a, len, c, g1, hpc.used j (by rw [hbf]; simp), fun e' he' => ?_⟩
        obtain ⟨e, q1, q2, q3, q4, q5, q6, q7, q8⟩ := hpc.part j o off len hbf e' he'
        obtain ⟨k, t, n, r1, r2, r3⟩ := g2 e q1
        simp [Ent.row, q2] at r1
        obtain ⟨rfl, rfl, rfl⟩ := r1
        refine ⟨q3, ?_⟩
        rw [q4, q5, q6, q7, q8]
        exact r3
      · refine ⟨(), _, hk, Bind.le_set hsrc, rfl, fun bf μc hle hpc => ⟨fun cs hr => ?_, fun hl => by cases hl⟩⟩
        have hbf : bf.src j = .fresh := by rw [hle.src j (by rw [Bind.set_at]; simp), Bind.set_at]
        have hr' : cs = [.slice none 0 0] := hr
        refine ⟨none, 0, 0, hr', hpc.used j (by rw [hbf]; simp), fun e' he' => ?_⟩
        obtain ⟨q1, q2, q3⟩ := hpc.fresh j hbf e' he'
        refine ⟨q1, ?_⟩
        rw [q2, q3]; exact ⟨rfl, rfl⟩
      · cases hk
    · rename_i o' hsrc
      split at hk
      · rename_i o
        replace hk := bif_some hk; obtain ⟨hoo, hk⟩ := hk
        have := oidBeq_eq hoo
        subst this
        refine ⟨(), b, hk, Bind.le_refl b, rfl, fun bf μc hle hpc => ⟨fun cs hr => ?_, fun hl => by cases hl⟩⟩
        have hbf : bf.src j = .obj o := by rw [hle.src j (by rw [hsrc]; simp), hsrc]
        obtain ⟨a, n, c, g1, hu, g2⟩ := hr
        exact ⟨a, n, c, g1, hpc.used j (by rw [hbf]; simp), fun e he => g2 e (hpc.obj j o hbf e he)⟩
      · cases hk
    · cases hk
  | ptr j p =>
    intro v b K r hk
    simp only [matchK] at hk
    split at hk
    · rename_i o q
      replace hk := bif_some hk; obtain ⟨hpq, hk⟩ := hk
      have := pathBeq_eq hpq
      subst this
      have fin : ∀ b', b.le b' → b'.src j = .obj o → K () b' = some r → ∃ x b', K x b' = some r ∧ b.le b' ∧ aggTV ((TT.ptr j p).fill ids0 x) = aggTV (.ptr o p) ∧ ∀ bf μc, b'.le bf → PC μ μc w bf →
          (∀ cs, R μ w (.ptr o p) false cs → R μc w ((TT.ptr j p).fill ids0 x) false cs) ∧ ((TT.ptr j p).isList = true → ∀ vs, R μ w (.ptr o p) true vs → R μc w ((TT.ptr j p).fill ids0 x) true vs) := by
        intro b' hle' hb' hk'
        refine ⟨(), b', hk', hle', rfl, fun bf μc hle hpc => ⟨fun cs hr => ?_, fun hl => by cases hl⟩⟩
        have hbf : bf.src j = .obj o := by rw [hle.src j (by rw [hb']; simp), hb']
        obtain ⟨a, g1, hu, g2⟩ := hr
        exact ⟨a, g1, hpc.used j (by rw [hbf]; simp), fun e he => g2 e (hpc.obj j o hbf e he)⟩
      split at hk
      · rename_i hsrc
        exact fin _ (Bind.le_set hsrc) Bind.set_at hk
      · rename_i o' hsrc
        replace hk := bif_some hk; obtain ⟨hoo, hk⟩ := hk
        have := oidBeq_eq hoo
        subst this
        exact fin b (Bind.le_refl b) hsrc hk
      · cases hk
    · cases hk
  | nils =>
    intro v b K r hk
    cases v <;> try (cases hk; done)
    exact ⟨(), b, hk, Bind.le_refl b, rfl, fun bf μc _ _ => ⟨fun cs hr => hr, fun hl => by cases hl⟩⟩
  | nilp =>
    intro v b K r hk
    cases v <;> try (cases hk; done)
    exact ⟨(), b, hk, Bind.le_refl b, rfl, fun bf μc _ _ => ⟨fun cs hr => hr, fun hl => by cases hl⟩⟩
  | nilf =>
    intro v b K r hk
    cases v <;> try (cases hk; done)
    exact ⟨(), b, hk, Bind.le_refl b, rfl, fun bf μc _ _ => ⟨fun cs hr => hr, fun hl => by cases hl⟩⟩
  | nilm =>
    intro v b K r hk
    cases v <;> try (cases hk; done)
    exact ⟨(), b, hk, Bind.le_refl b, rfl, fun bf μc _ _ => ⟨fun cs hr => hr, fun hl => by cases hl⟩⟩
  | mref j =>
    intro v b K r hk
    simp only [matchK] at hk
    split at hk
    · rename_i o
      have fin : ∀ b', b.le b' → b'.src j = .obj o → K () b' = some r → ∃ x b', K x b' = some r ∧ b.le b' ∧ aggTV ((TT.mref j).fill ids0 x) = aggTV (.mref o) ∧ ∀ bf μc, b'.le bf → PC μ μc w bf →
          (∀ cs, R μ w (.mref o) false cs → R μc w ((TT.mref j).fill ids0 x) false cs) ∧ ((TT.mref j).isList = true → ∀ vs, R μ w (.mref o) true vs → R μc w ((TT.mref j).fill ids0 x) true vs) := by
        intro b' hle' hb' hk'
        refine ⟨(), b', hk', hle', rfl, fun bf μc hle hpc => ⟨fun cs hr => ?_, fun hl => by cases hl⟩⟩
        have hbf : bf.src j = .obj o := by rw [hle.src j (by rw [hb']; simp), hb']
        obtain ⟨a, g1, hu, g2⟩ := hr
        exact ⟨a, g1, hpc.used j (by rw [hbf]; simp), fun e he => g2 e (hpc.obj j o hbf e he)⟩
      split at hk
      · rename_i hsrc
        exact fin _ (Bind.le_set hsrc) Bind.set_at hk
      · rename_i o' hsrc
        replace hk := bif_some hk; obtain ⟨hoo, hk⟩ := hk
        have := oidBeq_eq hoo
        subst this
        exact fin b (Bind.le_refl b) hsrc hk
      · cases hk
    · cases hk
  | nnil =>
    intro v b K r hk
    obtain ⟨x, rfl, hk⟩ : ∃ x, v = .pv .nil x ∧ K () b = some r := by
      unfold matchK at hk
      split at hk <;> first | (cases hk; done) | skip
      all_goals (first | exact ⟨_, rfl, hk⟩ | simp_all)
    refine ⟨(), b, hk, Bind.le_refl b, rfl, fun bf μc _ _ => ⟨fun cs hr => hr, fun _ vs hr => hr⟩⟩
  | ncons A B ihA ihB =>
    intro v b K r hk
    cases v with
    | ncons a as =>
      replace hk := ihA hk; obtain ⟨x, b1, hk, l1, ag1, m1⟩ := hk
      replace hk := ihB hk; obtain ⟨y, b2, hk, l2, ag2, m2⟩ := hk
      refine ⟨(x, y), b2, hk, Bind.le_trans l1 l2, rfl, fun bf μc hle hpc => ⟨fun cs hr => ?_, fun hl vs hr => ?_⟩⟩
      · obtain ⟨c, c', rfl, h1, h2⟩ := hr
        exact ⟨c, c', rfl, (m1 bf μc (Bind.le_trans l2 hle) hpc).1 c h1, (m2 bf μc hle hpc).1 c' h2⟩
      · obtain ⟨v, vs', rfl, h1, h2⟩ := hr
        refine ⟨v, vs', rfl, ?_, (m2 bf μc hle hpc).2 hl vs' h2⟩
        rcases h1 with ⟨h3, cs, h4, h5⟩ | ⟨h3, h4⟩
        · exact .inl ⟨by rw [ag1]; exact h3, cs, h4, (m1 bf μc (Bind.le_trans l2 hle) hpc).1 _ h5⟩
        · exact .inr ⟨by rw [ag1]; exact h3, (m1 bf μc (Bind.le_trans l2 hle) hpc).1 _ h4⟩
    | pv t z =>
      cases t <;> try (cases hk; done)
      rename_i t ts
      replace hk := ihA hk; obtain ⟨x, b1, hk, l1, ag1, m1⟩ := hk
      replace hk := ihB hk; obtain ⟨y, b2, hk, l2, ag2, m2⟩ := hk
      refine ⟨(x, y), b2, hk, Bind.le_trans l1 l2, rfl, fun bf μc hle hpc => ⟨fun cs hr => ?_, fun hl vs hr => by cases hr.1⟩⟩
      obtain ⟨c, c', rfl, h1, h2⟩ := hr
      exact ⟨c, c', rfl, (m1 bf μc (Bind.le_trans l2 hle) hpc).1 c h1, (m2 bf μc hle hpc).1 c' h2⟩
    | _ => cases hk
  | fn f C ih =>
    intro v b K r hk
    cases v <;> try (cases hk; done)
    rename_i g c
    replace hk := bif_some hk; obtain ⟨hfg, hk⟩ := hk
    simp only [Bool.and_eq_true] at hfg
    have := natBeq_eq hfg.1
    subst this
    replace hk := ih hk; obtain ⟨x, b1, hk, l1, ag1, m1⟩ := hk
    refine ⟨x, b1, hk, l1, rfl, fun bf μc hle hpc => ⟨fun cs hr => ?_, fun hl => by cases hl⟩⟩
    obtain ⟨vs, h1, h2⟩ := hr
    exact ⟨vs, h1, (m1 bf μc hle hpc).2 hfg.2 _ h2⟩
end
end Go.PE
end

section
namespace Go.PE
set_option linter.unusedSimpArgs false
section
variable {μ μc : Mp} {w : World} {h hp : Heap}

def OT.live : OT → Bool
  | .dead => false
  | _ => true
def entS (μ : Mp) (T : OT) : Src → Option Ent
  | .none => none
  | .obj o => μ.ent o
  | .part o off len => (μ.ent o).bind fun e => if e.vec = true then some { e with start := e.start + off * e.ty.size, len := len } else none
  | .fresh => match T with
    | .vec t => some ⟨true, t, none, 0, 0, 0⟩
    | _ => none
def mpOf (μ : Mp) (b : Bind) (os : List OT) (X : Nat → Prop) : Mp where
  ent p := match os[p.1]? with
    | some T => if p.2 = 0 ∧ T.live = true then entS μ T (b.src p.1) else none
    | none => none
  used p := p.2 = 0 ∧ p.1 < os.length
  hid := X
def obAt (ids : Nat → Oid) : (os : List OT) → OT.dens os → Nat → Option Ob
  | [], _, _ => none
  | T :: _, y, 0 => T.fill ids y.1
  | _ :: l, y, i + 1 => obAt ids l y.2 i

theorem EntR.pc {μc : Mp} {b : Bind} (hpc : PC μ μc w b) {k v : Ty} : ∀ {l : List (k.den × v.den)} {ms : List MapEntry}, EntR μ w k v l ms → EntR μc w k v l ms := by
  have one : ∀ {t : Ty} {x : t.den} {u : Value}, VR μ w (.pv t x) u → VR μc w (.pv t x) u := by
    intro t x u hr
    have hm : ∀ {cs : List Value}, Rep w (St μ w) t x cs → Rep w (St μc w) t x cs := fun hr => hr.mono (fun k hk => ⟨hpc.st k (.inl hk), rfl⟩)
    rcases hr with ⟨h1, cs, h2, h3⟩ | ⟨h1, h2⟩
    · exact .inl ⟨h1, cs, h2, hm h3⟩
    · exact .inr ⟨h1, hm h2⟩
  intro l
  induction l with
  | nil => intro ms hr; cases ms with
    | nil => trivial
    | cons => exact hr.elim
  | cons e l ih => intro ms hr; cases ms with
    | nil => exact hr.elim
    | cons m ms => exact ⟨one hr.1, one hr.2.1, ih hr.2.2⟩
theorem objs_ok {α : Type} (hh : HeapR μ w h) (hs : HSub hp h) : ∀ {os : List OT} {j : Nat} {b : Bind} {K : OT.dens os → Bind → Option α} {r : α}, objsK hp os j b K = some r →
    ∃ y b', K y b' = some r ∧ b.le b' ∧ ∀ bf μc, b'.le bf → PC μ μc w bf → ∀ i T, os[i]? = some T →
      (T.live = false ∧ obAt ids0 os y i = none) ∨ (∃ ob e, obAt ids0 os y i = some ob ∧ entS μ T (bf.src (j + i)) = some e ∧ ObR μc w e ob) := by
  intro os
  induction os with
  | nil => intro j b K r hk; exact ⟨(), b, hk, Bind.le_refl b, fun bf μc _ _ i T hT => by simp at hT⟩
  | cons T l ih =>
    intro j b K r hk
    simp only [objsK] at hk
    -- the first object
    have one : ∀ {s : Src} {K' : T.den → Bind → Option α}, b.src j = s → objK hp T s b K' = some r → ∃ x b', K' x b' = some r ∧ b.le b' ∧ ∀ bf μc, b'.le bf → PC μ μc w bf →
        (T.live = false ∧ T.fill ids0 x = none) ∨ (∃ ob e, T.fill ids0 x = some ob ∧ entS μ T (bf.src j) = some e ∧ ObR μc w e ob) := by
      intro s K' hsj hk
      cases T with
      | dead => exact ⟨(), b, by cases s <;> exact hk, Bind.le_refl b, fun _ _ _ _ => .inl ⟨rfl, rfl⟩⟩
      | box t C =>
        cases s <;> try (cases hk; done)
        rename_i o
        simp only [objK] at hk
        split at hk
        · rename_i t' c hq
          replace hk := bif_some hk; obtain ⟨hb, hk⟩ := hk
          have := Ty.eq_of_beq hb; subst this
          replace hk := match_ok hh hs hk; obtain ⟨x, b1, hk, l1, ag, m1⟩ := hk
          replace hk := bif_some hk; obtain ⟨hfit, hk⟩ := hk
          refine ⟨x, b1, hk, l1, fun bf μc hle hpc => .inr ?_⟩
          obtain ⟨e, he, g1, g2, g0, bb, cs0, g3, g4, g5, g6, g7⟩ := hh.ob _ _ (hs _ _ hq)
          have hbf : bf.src j = .obj o := by rw [(Bind.le_trans l1 hle).src j (by rw [hsj]; simp), hsj]
          exact ⟨_, e, rfl, by rw [hbf]; exact he, g1, g2, hfit, bb, cs0, g3, g4, g5, g6, (m1 bf μc hle hpc).1 _ g7⟩
        · cases hk
      | mp k v =>
        cases s <;> try (cases hk; done)
        rename_i o
        simp only [objK] at hk
        split at hk
        · rename_i k' v' l hq
          unfold mapCastK at hk
          split at hk
          · rename_i hb
            split at hk
            · rename_i hb'
              have := Ty.eq_of_beq hb; subst this
              have := Ty.eq_of_beq hb'; subst this
              refine ⟨l, b, hk, Bind.le_refl b, fun bf μc hle hpc => .inr ?_⟩
              obtain ⟨e, he, bb, es, clk, g1, g2, g3⟩ := hh.ob _ _ (hs _ _ hq)
              have hbf : bf.src j = .obj o := by rw [hle.src j (by rw [hsj]; simp), hsj]
              exact ⟨_, e, rfl, by rw [hbf]; exact he, bb, es, clk, g1, g2, g3.pc hpc⟩
            · cases hk
          · cases hk
        · cases hk
      | vec t =>
        cases s with
        | none => cases hk
        | obj o =>
          simp only [objK] at hk
          split at hk
          · rename_i t' xs hq
            replace hk := castK_eq hk; obtain ⟨hb, hk⟩ := hk
            have := slice_cast hb; subst this
            refine ⟨xs, b, hk, Bind.le_refl b, fun bf μc hle hpc => .inr ?_⟩
            obtain ⟨e, he, g1, g2, g3, g3', g4⟩ := hh.ob _ _ (hs _ _ hq)
            have hbf : bf.src j = .obj o := by rw [hle.src j (by rw [hsj]; simp), hsj]
            refine ⟨_, e, rfl, by rw [hbf]; exact he, g1, g2, g3, g3', ?_⟩
            cases hek : e.blk with
            | none => rw [hek] at g4; exact g4
            | some bb =>
              rw [hek] at g4
              exact ⟨g4.1, g4.2.1, g4.2.2.mono (fun k hk => ⟨hpc.st k (.inl hk), rfl⟩) rfl⟩
          · cases hk
        | part o off len =>
          simp only [objK] at hk
          split at hk
          · rename_i t' xs hq
            replace hk := bif_some hk; obtain ⟨hlen, hk⟩ := hk
            have hlen := Nat.le_of_ble_eq_true hlen
            replace hk := castK_eq hk; obtain ⟨hb, hk⟩ := hk
            have := slice_cast hb; subst this
            refine ⟨sub xs off len, b, hk, Bind.le_refl b, fun bf μc hle hpc => .inr ?_⟩
            obtain ⟨e, he, g1, g2, g3, g3', g4⟩ := hh.ob _ _ (hs _ _ hq)
            have hbf : bf.src j = .part o off len := by rw [hle.src j (by rw [hsj]; simp), hsj]
            have hsl : (sub xs off len).length = len := sub_len hlen
            refine ⟨_, { e with start := e.start + off * e.ty.size, len := len }, rfl, by rw [hbf]; simp [entS, he, g1], g1, g2, hsl.symm, by omega, ?_⟩
            cases hek : e.blk with
            | none =>
              rw [hek] at g4
              simp only [] at g4 ⊢
              subst g4
              simp [sub]
            | some bb =>
              rw [hek] at g4
              refine ⟨g4.1, ?_, ?_⟩
              · show e.start + off * e.ty.size + (sub xs off len).length * t'.size ≤ e.sz
                have h1 : (off + len) * t'.size ≤ xs.length * t'.size := Nat.mul_le_mul_right _ hlen
                have h2 := g4.2.1
                rw [Nat.add_mul] at h1
                rw [hsl, g2]; omega
              · show RowAt w _ bb (e.start + off * e.ty.size) t' (sub xs off len)
                rw [g2]
                exact (g4.2.2.sub).mono (fun k hk => ⟨hpc.st k (.inl hk), rfl⟩) rfl
          · cases hk
        | fresh =>
          refine ⟨[], b, hk, Bind.le_refl b, fun bf μc hle hpc => .inr ?_⟩
          have hbf : bf.src j = .fresh := by rw [hle.src j (by rw [hsj]; simp), hsj]
          exact ⟨_, ⟨true, t, none, 0, 0, 0⟩, rfl, by rw [hbf]; rfl, rfl, rfl, rfl, Nat.zero_le _, rfl⟩
    replace hk := one rfl hk; obtain ⟨x, b1, hk, l1, m1⟩ := hk
    replace hk := ih hk; obtain ⟨y, b2, hk, l2, m2⟩ := hk
    refine ⟨(x, y), b2, hk, Bind.le_trans l1 l2, fun bf μc hle hpc i T' hT => ?_⟩
    cases i with
    | zero =>
      simp at hT; subst hT
      exact m1 bf μc (Bind.le_trans l2 hle) hpc
    | succ i =>
      have := m2 bf μc hle hpc i T' (by simpa using hT)
      rw [show j + (i + 1) = j + 1 + i by omega]
      exact this

def VRs (μ : Mp) (w : World) : List TV → List Value → Prop
  | [], [] => True
  | x :: l, v :: m => VR μ w x v ∧ VRs μ w l m
  | _, _ => False
theorem matches_ok {α : Type} (hh : HeapR μ w h) (hs : HSub hp h) : ∀ {ts : List TT} {vs : List TV} {b : Bind} {K : TT.dens ts → Bind → Option α} {r : α}, matchesK hp ts vs b K = some r →
    ∃ x b', K x b' = some r ∧ b.le b' ∧ ∀ bf μc, b'.le bf → PC μ μc w bf → ∀ us : List Value, VRs μ w vs us → VRs μc w (TT.fills ids0 ts x) us := by
  intro ts
  induction ts with
  | nil =>
    intro vs b K r hk
    cases vs with
    | nil => exact ⟨(), b, hk, Bind.le_refl b, fun _ _ _ _ us hus => by cases us with | nil => trivial | cons => exact hus.elim⟩
    | cons v vs => cases hk
  | cons T ts ih =>
    intro vs b K r hk
    cases vs with
    | nil => cases hk
    | cons v vs =>
      simp only [matchesK] at hk
      replace hk := match_ok hh hs hk; obtain ⟨x, b1, hk, l1, ag, m1⟩ := hk
      replace hk := ih hk; obtain ⟨y, b2, hk, l2, m2⟩ := hk
      refine ⟨(x, y), b2, hk, Bind.le_trans l1 l2, fun bf μc hle hpc us hus => ?_⟩
      cases us with
      | nil => exact hus.elim
      | cons u us =>
        obtain ⟨hv, hvs⟩ := hus
        refine ⟨?_, m2 bf μc hle hpc _ hvs⟩
        have hm := (m1 bf μc (Bind.le_trans l2 hle) hpc).1
        rcases hv with ⟨h1, cs, h2, h3⟩ | ⟨h1, h2⟩
        · exact .inl ⟨by rw [ag]; exact h1, cs, h2, hm _ h3⟩
        · exact .inr ⟨by rw [ag]; exact h1, hm _ h2⟩
end
end Go.PE
end

section
namespace Go.PE
set_option linter.unusedSimpArgs false

theorem oidMem_of {o : Oid} : ∀ {l : List Oid}, o ∈ l → oidMem o l = true := by
  intro l h
  cases hm : oidMem o l with
  | true => rfl
  | false => exact (oidMem_false hm h).elim
theorem oidsApart_spec : ∀ {l m : List Oid}, oidsApart l m = true → ∀ o, o ∈ l → o ∉ m := by
  intro l
  induction l with
  | nil => intro m _ o ho; cases ho
  | cons a l ih =>
    intro m h o ho hm
    simp only [oidsApart, Bool.and_eq_true, Bool.not_eq_true'] at h
    rcases List.mem_cons.1 ho with rfl | ho
    · exact oidMem_false h.1 hm
    · exact ih h.2 o ho hm
theorem oidsNodup_append : ∀ {l m : List Oid}, oidsNodup (l ++ m) = true → oidsNodup l = true ∧ ∀ o, o ∈ l → o ∉ m := by
  intro l
  induction l with
  | nil => intro m _; exact ⟨rfl, fun o ho => by cases ho⟩
  | cons a l ih =>
    intro m h
    simp only [List.cons_append, oidsNodup, Bool.and_eq_true, Bool.not_eq_true'] at h ⊢
    have h1 := oidMem_false h.1
    rw [List.mem_append] at h1
    refine ⟨⟨?_, (ih h.2).1⟩, fun o ho hm => ?_⟩
    · cases hm : oidMem a l with
      | false => rfl
      | true =>
        exfalso
        have : ∀ {l : List Oid}, oidMem a l = true → a ∈ l := by
          intro l
          induction l with
          | nil => intro h; cases h
          | cons b l ih =>
            intro h
            simp only [oidMem, Bool.or_eq_true] at h
            rcases h with h | h
            · rw [oidBeq_eq h]; exact List.mem_cons_self
            · exact List.mem_cons_of_mem _ (ih h)
        exact h1 (.inl (this hm))
    · rcases List.mem_cons.1 ho with rfl | ho
      · exact h1 (.inr hm)
      · exact (ih h.2).2 o ho hm
section
variable {μ μc : Mp} {w : World} {h hp : Heap}
theorem Bind.mapped_mem {b : Bind} {o : Oid} : ∀ {n j : Nat}, j < n → o ∈ (b.src j).ids → o ∈ b.mapped n := by
  intro n
  induction n with
  | zero => intro j hj; omega
  | succ n ih =>
    intro j hj ho
    simp only [Bind.mapped, List.mem_append]
    by_cases e : j = n
    · subst e; exact .inr ho
    · exact .inl (ih (by omega) ho)
theorem Bind.mapped_inj {b : Bind} {o : Oid} : ∀ {n : Nat}, oidsNodup (b.mapped n) = true → ∀ {i j : Nat}, i < n → j < n → o ∈ (b.src i).ids → o ∈ (b.src j).ids → i = j := by
  intro n
  induction n with
  | zero => intro _ i j hi; omega
  | succ n ih =>
    intro hd i j hi hj h1 h2
    have := oidsNodup_append hd
    by_cases e : i = n
    · by_cases e' : j = n
      · omega
      · subst e; exact (this.2 o (Bind.mapped_mem (by omega) h2) h1).elim
    · by_cases e' : j = n
      · subst e'; exact (this.2 o (Bind.mapped_mem (by omega) h1) h2).elim
      · exact ih this.1 (by omega) (by omega) h1 h2
theorem keysBelow_spec {n : Nat} : ∀ {l : List (Nat × Src)}, keysBelow n l = true → ∀ j, srcAt l j ≠ .none → j < n := by
  intro l
  induction l with
  | nil => intro _ j hj; exact (hj rfl).elim
  | cons p l ih =>
    intro h j hj
    obtain ⟨i, s⟩ := p
    simp only [keysBelow, Bool.and_eq_true] at h
    simp only [srcAt] at hj
    cases hb : Nat.beq j i with
    | true => rw [natBeq_eq hb]; exact Nat.le_of_ble_eq_true h.1
    | false => rw [hb] at hj; exact ih h.2 j hj
theorem Bind.ok_spec {b : Bind} {n : Nat} (h : b.ok n = true) :
    (∀ j, b.src j ≠ .none → j < n) ∧ (∀ i j o, o ∈ (b.src i).ids → o ∈ (b.src j).ids → i = j) ∧ (∀ o j, o ∈ b.snaps → o ∉ (b.src j).ids) := by
  simp only [Bind.ok, Bool.and_eq_true] at h
  have h1 : ∀ j, b.src j ≠ .none → j < n := keysBelow_spec h.1.1
  have h2 : ∀ j o, o ∈ (b.src j).ids → b.src j ≠ .none := fun j o ho he => by rw [he] at ho; cases ho
  exact ⟨h1, fun i j o hi hj => Bind.mapped_inj h.1.2 (h1 i (h2 i o hi)) (h1 j (h2 j o hj)) hi hj, fun o j ho hj => oidsApart_spec h.2 o ho (Bind.mapped_mem (h1 j (h2 j o hj)) hj)⟩

theorem obAt_some {ids : Nat → Oid} : ∀ {os : List OT} {y : OT.dens os} {i : Nat} {ob : Ob}, obAt ids os y i = some ob → i < os.length := by
  intro os
  induction os with
  | nil => intro y i ob h; cases h
  | cons T l ih =>
    intro y i ob h
    cases i with
    | zero => simp
    | succ i => have := ih h; simp; omega
theorem puts_other {ids : Nat → Oid} {p : Oid} : ∀ {os : List OT} {y : OT.dens os} {j : Nat} {h : Heap}, (∀ i, i < os.length → p ≠ ids (j + i)) →
    Heap.puts h (OT.fills ids os y j) p = h p := by
  intro os
  induction os with
  | nil => intros; rfl
  | cons T l ih =>
    intro y j h hp
    simp only [OT.fills, Heap.puts]
    rw [ih (fun i hi => by rw [show j + 1 + i = j + (i + 1) by omega]; exact hp (i + 1) (by simp; omega))]
    exact Heap.put_ne (hp 0 (by simp))
theorem puts_at {ids : Nat → Oid} : ∀ {os : List OT} {y : OT.dens os} {j i : Nat} {h : Heap}, i < os.length → (∀ a b, a < os.length → b < os.length → ids (j + a) = ids (j + b) → a = b) →
    Heap.puts h (OT.fills ids os y j) (ids (j + i)) = obAt ids os y i := by
  intro os
  induction os with
  | nil => intro y j i h hi; simp at hi
  | cons T l ih =>
    intro y j i h hi hinj
    simp only [OT.fills, Heap.puts]
    have hsh : ∀ i, j + 1 + i = j + (i + 1) := fun i => by omega
    cases i with
    | zero =>
      rw [puts_other (fun i hi he => by
        rw [hsh] at he
        have := hinj 0 (i + 1) (by simp) (by simp; omega) he
        omega)]
      exact Heap.put_at
    | succ i =>
      rw [← hsh i, ih (by simpa using hi) (fun a b ha hb he => by
        rw [hsh, hsh] at he
        have := hinj (a + 1) (b + 1) (by simp; omega) (by simp; omega) he
        omega)]
      rfl
theorem ids0_inj {a b : Nat} (h : ids0 a = ids0 b) : a = b := congrArg Prod.fst h
theorem puts0 {os : List OT} {y : OT.dens os} {p : Oid} : Heap.puts (fun _ => none) (OT.fills ids0 os y 0) p = if p.2 = 0 then obAt ids0 os y p.1 else none := by
  by_cases h : p.2 = 0
  · rw [if_pos h]
    have hp : p = ids0 p.1 := Prod.ext rfl h
    by_cases hl : p.1 < os.length
    · rw [hp]
      have := puts_at (ids := ids0) (os := os) (y := y) (j := 0) (i := p.1) (h := fun _ => none) hl (fun a b _ _ he => by rw [Nat.zero_add, Nat.zero_add] at he; exact ids0_inj he)
      rw [Nat.zero_add] at this
      exact this
    · rw [puts_other (fun i hi he => by rw [Nat.zero_add] at he; have := congrArg Prod.fst he; change p.1 = i at this; omega)]
      cases ho : obAt ids0 os y p.1 with
      | none => rfl
      | some ob => exact (hl (obAt_some ho)).elim
  · rw [if_neg h]
    exact puts_other (fun i hi he => h (congrArg Prod.snd he))

theorem mpOf_ent {b : Bind} {os : List OT} {X : Nat → Prop} {p : Oid} {e : Ent} (h : (mpOf μ b os X).ent p = some e) :
    ∃ T, os[p.1]? = some T ∧ T.live = true ∧ p = (p.1, 0) ∧ entS μ T (b.src p.1) = some e := by
  simp only [mpOf] at h
  split at h
  · rename_i T hT
    split at h
    · rename_i hl
      exact ⟨T, hT, hl.2, Prod.ext rfl hl.1, h⟩
    · cases h
  · cases h
theorem entS_blk {T : OT} {s : Src} {e : Ent} {k : Nat} (h : entS μ T s = some e) (hk : e.blk = some k) : ∃ o e', o ∈ s.ids ∧ μ.ent o = some e' ∧ e'.blk = some k := by
  cases s with
  | none => cases h
  | obj o => exact ⟨o, e, by simp [Src.ids], h, hk⟩
  | part o off len =>
    simp only [entS] at h
    obtain ⟨e', h1, h2⟩ := Option.bind_eq_some_iff.1 h
    split at h2
    · cases h2; exact ⟨o, e', by simp [Src.ids], h1, hk⟩
    · cases h2
  | fresh =>
    simp only [entS] at h
    split at h <;> cases h
    cases hk

structure Takes (μ : Mp) (w : World) (b : Bind) (os : List OT) (X : Nat → Prop) : Prop where
  lt : ∀ k, X k → k < w.heap.size
  own : ∀ k, X k → μ.hid k ∨ ∃ o e, μ.ent o = some e ∧ e.blk = some k ∧ o ∉ b.snaps
  apart : ∀ (j : Nat) (T : OT) (o : Oid), os[j]? = some T → T.live = true → o ∈ (b.src j).ids → ∀ e k, μ.ent o = some e → e.blk = some k → ¬ X k

theorem takes_pc (hh : HeapR μ w h) {b : Bind} {os : List OT} {X : Nat → Prop} (hok : b.ok os.length = true) (hx : Takes μ w b os X) : PC μ (mpOf μ b os X) w b := by
  obtain ⟨k1, k2, k3⟩ := Bind.ok_spec hok
  refine ⟨fun j hj => ⟨rfl, k1 j hj⟩, fun j o hj e he => ?_, fun j o off len hj e' he' => ?_, fun j hj e' he' => ?_, fun k hk => ?_⟩
  · obtain ⟨T, _, _, _, h4⟩ := mpOf_ent he
    simp only [hj] at h4; exact h4
  · obtain ⟨T, _, _, _, h4⟩ := mpOf_ent he'
    simp only [hj, entS] at h4
    obtain ⟨e, h5, h6⟩ := Option.bind_eq_some_iff.1 h4
    split at h6
    · rename_i hv; cases h6; exact ⟨e, h5, hv, hv, rfl, rfl, rfl, rfl, rfl⟩
    · cases h6
  · obtain ⟨T, _, _, _, h4⟩ := mpOf_ent he'
    simp only [hj, entS] at h4
    split at h4 <;> cases h4
    exact ⟨rfl, rfl, rfl⟩
  · have hlt : k < w.heap.size := by
      rcases hk with hk | ⟨o, e, _, h2, h3⟩
      · exact hk.1
      · exact hh.lt h2 h3
    refine ⟨hlt, fun p e hp hb => ?_, fun hxk => ?_⟩
    · obtain ⟨T, h1, h2, h3, h4⟩ := mpOf_ent hp
      obtain ⟨o, e', h5, h6, h7⟩ := entS_blk h4 hb
      rcases hk with hk | ⟨o', e'', g1, g2, g3⟩
      · exact hk.2.1 o e' h6 h7
      · have := hh.inj o o' e' e'' k h6 g2 h7 g3
        subst this
        exact k3 o _ g1 h5
    · rcases hk with hk | ⟨o', e'', g1, g2, g3⟩
      · rcases hx.own k hxk with h1 | ⟨o, e, h1, h2, _⟩
        · exact hk.2.2 h1
        · exact hk.2.1 o e h1 h2
      · rcases hx.own k hxk with h1 | ⟨o, e, h1, h2, h3⟩
        · exact hh.nhid o' e'' k g2 g3 h1
        · have := hh.inj o o' e e'' k h1 g2 h2 g3
          subst this
          exact h3 g1

theorem coerce_ok {α : Type} (hh : HeapR μ w h) (hs : HSub hp h) {ts : List TT} {os : List OT} {vs : List TV} {b₀ : Bind} {K : TT.dens ts × OT.dens os → Bind → Option α} {r : α}
    (hk : coerceK hp ts os vs b₀ K = some r) :
    ∃ v b, K v b = some r ∧ b₀.le b ∧ b.ok os.length = true ∧ ∀ X, Takes μ w b os X → PC μ (mpOf μ b os X) w b ∧
      HeapR (mpOf μ b os X) w (Heap.puts (fun _ => none) (OT.fills ids0 os v.2 0)) ∧ ∀ us, VRs μ w vs us → VRs (mpOf μ b os X) w (TT.fills ids0 ts v.1) us := by
  unfold coerceK at hk
  replace hk := matches_ok hh hs hk; obtain ⟨x, b1, hk, l1, m1⟩ := hk
  replace hk := objs_ok hh hs hk; obtain ⟨y, b2, hk, l2, m2⟩ := hk
  replace hk := bif_some hk; obtain ⟨hok, hk⟩ := hk
  refine ⟨(x, y), b2, hk, Bind.le_trans l1 l2, hok, fun X hx => ?_⟩
  have hpc := takes_pc hh hok hx
  obtain ⟨k1, k2, k3⟩ := Bind.ok_spec hok
  have hob : ∀ p T, os[p]? = some T → (T.live = false ∧ obAt ids0 os y p = none) ∨ (∃ ob e, obAt ids0 os y p = some ob ∧ entS μ T (b2.src p) = some e ∧ ObR (mpOf μ b2 os X) w e ob) := by
    intro p T hT
    have := m2 b2 _ (Bind.le_refl b2) hpc p T hT
    rw [Nat.zero_add] at this
    exact this
  refine ⟨hpc, ⟨fun p ob hp => ?_, fun p e hp => ?_, fun p p' e e' k hp hp' hb hb' => ?_, fun p e hp => ?_, fun p e k hp hb hx' => ?_, hx.lt⟩, fun us hus => m1 b2 _ l2 hpc us hus⟩
  · rw [puts0] at hp
    split at hp
    · rename_i h0
      have hl := obAt_some hp
      obtain ⟨T, hT⟩ : ∃ T, os[p.1]? = some T := ⟨_, List.getElem?_eq_getElem hl⟩
      rcases hob p.1 T hT with ⟨_, h1⟩ | ⟨ob', e, h1, h2, h3⟩
      · rw [h1] at hp; cases hp
      · rw [h1] at hp; cases hp
        refine ⟨e, ?_, h3⟩
        have hlv : T.live = true := by
          cases T with
          | dead => exfalso; revert h1; clear hob h2 h3 m1 m2 hpc
                    intro h1
                    have : ∀ {os : List OT} {y : OT.dens os} {i : Nat}, os[i]? = some OT.dead → obAt ids0 os y i = none := by
                      intro os
                      induction os with
                      | nil => intros; rfl
                      | cons T l ih =>
                        intro y i hi
                        cases i with
                        | zero => simp at hi; subst hi; rfl
                        | succ i => exact ih (by simpa using hi)
                    rw [this hT] at h1; cases h1
          | _ => rfl
        simp only [mpOf, hT, h0, hlv, and_self, if_true]
        exact h2
    · cases hp
  · obtain ⟨T, h1, h2, h3, h4⟩ := mpOf_ent hp
    rw [puts0, h3]
    simp only [if_true]
    rcases hob p.1 T h1 with ⟨g, _⟩ | ⟨ob, e', g1, _⟩
    · rw [h2] at g; cases g
    · exact ⟨ob, g1⟩
  · obtain ⟨T, h1, h2, h3, h4⟩ := mpOf_ent hp
    obtain ⟨T', h1', h2', h3', h4'⟩ := mpOf_ent hp'
    obtain ⟨o, e1, h5, h6, h7⟩ := entS_blk h4 hb
    obtain ⟨o', e1', h5', h6', h7'⟩ := entS_blk h4' hb'
    have := hh.inj o o' e1 e1' k h6 h6' h7 h7'
    subst this
    have := k2 _ _ o h5 h5'
    rw [h3, h3', this]
  · obtain ⟨T, h1, h2, h3, h4⟩ := mpOf_ent hp
    rw [h3]
    exact ⟨rfl, (List.getElem?_eq_some_iff.1 h1).1⟩
  · obtain ⟨T, h1, h2, h3, h4⟩ := mpOf_ent hp
    obtain ⟨o, e1, h5, h6, h7⟩ := entS_blk h4 hb
    exact hx.apart p.1 T o h1 h2 h5 e1 k h6 h7 hx'
end
end Go.PE
end

section
namespace Go.PE
set_option linter.unusedSimpArgs false
section
variable {P : Program} {μ μc : Mp} {w : World} {h hp : Heap}

theorem used_ids : ∀ {v : TV} {m : Bool} {cs : List Value}, R μ w v m cs → ∀ o, o ∈ tvIds v → μ.used o := by
  intro v
  induction v with
  | ptr o p => intro m cs hr o' ho; simp [tvIds] at ho; subst ho; obtain ⟨a, _, hu, _⟩ := hr; exact hu
  | own o => intro m cs hr o' ho; simp [tvIds] at ho; subst ho; obtain ⟨a, n, c, _, hu, _⟩ := hr; exact hu
  | mref o => intro m cs hr o' ho; simp [tvIds] at ho; subst ho; obtain ⟨a, _, hu, _⟩ := hr; exact hu
  | hdr o p off len => intro m cs hr o' ho; simp [tvIds] at ho; subst ho; obtain ⟨a, c, _, _, _, hu, _⟩ := hr; exact hu
  | ncons a as ih ih' =>
    intro m cs hr o ho
    simp only [tvIds, List.mem_append] at ho
    cases m with
    | false =>
      obtain ⟨c, c', _, h1, h2⟩ := hr
      rcases ho with ho | ho
      · exact ih h1 o ho
      · exact ih' h2 o ho
    | true =>
      obtain ⟨v, vs, _, h1, h2⟩ := hr
      rcases ho with ho | ho
      · rcases h1 with ⟨_, cs, _, h3⟩ | ⟨_, h3⟩
        · exact ih h3 o ho
        · exact ih h3 o ho
      · exact ih' h2 o ho
  | fn f c ih => intro m cs hr o ho; obtain ⟨vs, _, h2⟩ := hr; exact ih h2 o ho
  | tup l ih => intro m cs hr o ho; obtain ⟨vs, _, h2⟩ := hr; exact ih h2 o ho
  | _ => intro m cs _ o ho; simp [tvIds] at ho
theorem VR.used {v : TV} {u : Value} (hv : VR μ w v u) {o : Oid} (ho : o ∈ tvIds v) : μ.used o := by
  rcases hv with ⟨_, cs, _, h⟩ | ⟨_, h⟩
  · exact used_ids h o ho
  · exact used_ids h o ho
theorem VRs.used : ∀ {vs : List TV} {us : List Value}, VRs μ w vs us → ∀ v, v ∈ vs → ∀ o, o ∈ tvIds v → μ.used o := by
  intro vs
  induction vs with
  | nil => intro us _ v hv; cases hv
  | cons x vs ih =>
    intro us hus v hv o ho
    cases us with
    | nil => exact hus.elim
    | cons u us =>
      rcases List.mem_cons.1 hv with rfl | hv
      · exact hus.1.used ho
      · exact ih hus.2 v hv o ho
theorem HeapR.ids_used (hh : HeapR μ w h) {o o' : Oid} {t : Ty} {c : TV} (ho : h o = some (.box t c)) (hm : o' ∈ tvIds c) : μ.used o' := by
  obtain ⟨e, _, _, _, _, _, _, _, _, _, _, g7⟩ := hh.ob _ _ ho
  exact used_ids g7 o' hm

theorem pure_some {α : Type} {v : TV} {T : Ty} {K : T.den → Option α} {r : α} (hk : pureK hp v T K = some r) : ∃ x, K x = some r := by
  have := pureK_bind (h := hp) (v := v) (T := T) (M := fun y => some y) (K := K)
  simp only [Option.bind_some] at this
  obtain ⟨x, _, h2⟩ := Option.bind_eq_some_iff.1 (this.trans hk)
  exact ⟨x, h2⟩
theorem set_ids {b : Bind} {j : Nat} {s : Src} {l : List Oid} (hs : ∀ o, o ∈ s.ids → o ∈ l) : ∀ i o, o ∈ ((b.set j s).src i).ids → o ∈ (b.src i).ids ∨ o ∈ l := by
  intro i o ho
  by_cases e : i = j
  · subst e; rw [Bind.set_at] at ho; exact .inr (hs o ho)
  · rw [Bind.set_ne e] at ho; exact .inl ho

theorem match_used {α : Type} : ∀ {T : TT} {v : TV} {b : Bind} {K : T.den → Bind → Option α} {r : α}, matchK hp T v b K = some r →
    ∃ x b', K x b' = some r ∧ ∀ j o, o ∈ (b'.src j).ids → o ∈ (b.src j).ids ∨ o ∈ tvIds v := by
  intro T
  induction T with
  | hole t =>
    intro v b K r hk
    obtain ⟨x, hx⟩ := pure_some hk
    exact ⟨x, _, hx, fun j o ho => .inl ho⟩
  | cptr t =>
    intro v b K r hk
    cases v with
    | cptr t' x =>
      simp only [matchK] at hk
      replace hk := castK_eq hk; obtain ⟨hb, hk⟩ := hk
      exact ⟨_, b, hk, fun j o ho => .inl ho⟩
    | ptr o p =>
      simp only [matchK] at hk
      split at hk
      · rw [tgetK_eq] at hk
        replace hk := Option.bind_eq_some_iff.1 hk; obtain ⟨v1, hv1, hk⟩ := hk
        obtain ⟨x, hx⟩ := pure_some hk
        exact ⟨x, _, hx, fun j o ho => .inl ho⟩
      · cases hk
    | _ => cases hk
  | own j =>
    intro v b K r hk
    simp only [matchK] at hk
    split at hk
    · split at hk
      · exact ⟨(), _, hk, set_ids (fun o ho => ho)⟩
      · exact ⟨(), _, hk, set_ids (fun o ho => ho)⟩
      · exact ⟨(), _, hk, set_ids (fun o ho => by cases ho)⟩
      · cases hk
    · split at hk
      · replace hk := bif_some hk; obtain ⟨hoo, hk⟩ := hk
        exact ⟨(), b, hk, fun j o ho => .inl ho⟩
      · cases hk
    · cases hk
  | ptr j p =>
    intro v b K r hk
    simp only [matchK] at hk
    split at hk
    · replace hk := bif_some hk; obtain ⟨hpq, hk⟩ := hk
      split at hk
      · exact ⟨(), _, hk, set_ids (fun o ho => ho)⟩
      · replace hk := bif_some hk; obtain ⟨hoo, hk⟩ := hk
        exact ⟨(), b, hk, fun j o ho => .inl ho⟩
      · cases hk
    · cases hk
  | nils =>
    intro v b K r hk
    cases v <;> try (cases hk; done)
    exact ⟨(), b, hk, fun j o ho => .inl ho⟩
  | nilp =>
    intro v b K r hk
    cases v <;> try (cases hk; done)
    exact ⟨(), b, hk, fun j o ho => .inl ho⟩
  | nilf =>
    intro v b K r hk
    cases v <;> try (cases hk; done)
    exact ⟨(), b, hk, fun j o ho => .inl ho⟩
  | nilm =>
    intro v b K r hk
    cases v <;> try (cases hk; done)
    exact ⟨(), b, hk, fun j o ho => .inl ho⟩
  | mref j =>
    intro v b K r hk
    simp only [matchK] at hk
    split at hk
    · split at hk
      · exact ⟨(), _, hk, set_ids (fun o ho => ho)⟩
      · replace hk := bif_some hk; obtain ⟨hoo, hk⟩ := hk
        exact ⟨(), b, hk, fun j o ho => .inl ho⟩
      · cases hk
    · cases hk
  | nnil =>
    intro v b K r hk
    have hk' : K () b = some r := by
      unfold matchK at hk
      split at hk <;> first | (cases hk; done) | skip
      all_goals (first | exact hk | simp_all)
    exact ⟨(), b, hk', fun j o ho => .inl ho⟩
  | ncons A B ihA ihB =>
    intro v b K r hk
    cases v with
    | ncons a as =>
      replace hk := ihA hk; obtain ⟨x, b1, hk, m1⟩ := hk
      replace hk := ihB hk; obtain ⟨y, b2, hk, m2⟩ := hk
      refine ⟨(x, y), b2, hk, fun j o ho => ?_⟩
      simp only [tvIds, List.mem_append]
      rcases m2 j o ho with h1 | h1
      · rcases m1 j o h1 with h2 | h2
        · exact .inl h2
        · exact .inr (.inl h2)
      · exact .inr (.inr h1)
    | pv t z =>
      cases t <;> try (cases hk; done)
      rename_i t ts
      replace hk := ihA hk; obtain ⟨x, b1, hk, m1⟩ := hk
      replace hk := ihB hk; obtain ⟨y, b2, hk, m2⟩ := hk
      refine ⟨(x, y), b2, hk, fun j o ho => ?_⟩
      rcases m2 j o ho with h1 | h1
      · rcases m1 j o h1 with h2 | h2
        · exact .inl h2
        · cases h2
      · cases h1
    | _ => cases hk
  | fn f C ih =>
    intro v b K r hk
    cases v <;> try (cases hk; done)
    rename_i g c
    replace hk := bif_some hk; obtain ⟨hfg, hk⟩ := hk
    obtain ⟨x, b', h1, h2⟩ := ih hk
    exact ⟨x, b', h1, h2⟩
theorem matches_used {α : Type} : ∀ {ts : List TT} {vs : List TV} {b : Bind} {K : TT.dens ts → Bind → Option α} {r : α}, matchesK hp ts vs b K = some r →
    ∃ x b', K x b' = some r ∧ ∀ j o, o ∈ (b'.src j).ids → o ∈ (b.src j).ids ∨ ∃ v, v ∈ vs ∧ o ∈ tvIds v := by
  intro ts
  induction ts with
  | nil =>
    intro vs b K r hk
    cases vs with
    | nil => exact ⟨(), b, hk, fun j o ho => .inl ho⟩
    | cons v vs => cases hk
  | cons T ts ih =>
    intro vs b K r hk
    cases vs with
    | nil => cases hk
    | cons v vs =>
      simp only [matchesK] at hk
      replace hk := match_used hk; obtain ⟨x, b1, hk, m1⟩ := hk
      replace hk := ih hk; obtain ⟨y, b2, hk, m2⟩ := hk
      refine ⟨(x, y), b2, hk, fun j o ho => ?_⟩
      rcases m2 j o ho with h1 | ⟨u, h1, h2⟩
      · rcases m1 j o h1 with h2 | h2
        · exact .inl h2
        · exact .inr ⟨v, List.mem_cons_self, h2⟩
      · exact .inr ⟨u, List.mem_cons_of_mem _ h1, h2⟩
theorem objs_used {α : Type} : ∀ {os : List OT} {j : Nat} {b : Bind} {K : OT.dens os → Bind → Option α} {r : α}, objsK hp os j b K = some r →
    ∃ y b', K y b' = some r ∧ ∀ j o, o ∈ (b'.src j).ids → o ∈ (b.src j).ids ∨ ∃ q t c, hp q = some (.box t c) ∧ o ∈ tvIds c := by
  intro os
  induction os with
  | nil => intro j b K r hk; exact ⟨(), b, hk, fun j o ho => .inl ho⟩
  | cons T l ih =>
    intro j b K r hk
    simp only [objsK] at hk
    have one : ∀ {s : Src} {K' : T.den → Bind → Option α}, objK hp T s b K' = some r → ∃ x b', K' x b' = some r ∧ ∀ j o, o ∈ (b'.src j).ids → o ∈ (b.src j).ids ∨ ∃ q t c, hp q = some (.box t c) ∧ o ∈ tvIds c := by
      intro s K' hk
      cases T with
      | dead => exact ⟨(), b, by cases s <;> exact hk, fun j o ho => .inl ho⟩
      | box t C =>
        cases s <;> try (cases hk; done)
        rename_i o
        simp only [objK] at hk
        split at hk
        · rename_i t' c hq
          replace hk := bif_some hk; obtain ⟨hb, hk⟩ := hk
          replace hk := match_used hk; obtain ⟨x, b1, hk, m1⟩ := hk
          replace hk := bif_some hk; obtain ⟨hfit, hk⟩ := hk
          refine ⟨x, b1, hk, fun j o' ho => ?_⟩
          rcases m1 j o' ho with h1 | h1
          · exact .inl h1
          · exact .inr ⟨o, t', c, hq, h1⟩
        · cases hk
      | mp k v =>
        cases s <;> try (cases hk; done)
        simp only [objK] at hk
        split at hk
        · unfold mapCastK at hk
          split at hk
          · split at hk
            · exact ⟨_, b, hk, fun j o ho => .inl ho⟩
            · cases hk
          · cases hk
        · cases hk
      | vec t =>
        cases s with
        | none => cases hk
        | obj o =>
          simp only [objK] at hk
          split at hk
          · replace hk := castK_eq hk; obtain ⟨hb, hk⟩ := hk
            exact ⟨_, b, hk, fun j o ho => .inl ho⟩
          · cases hk
        | part o off len =>
          simp only [objK] at hk
          split at hk
          · replace hk := bif_some hk; obtain ⟨hlen, hk⟩ := hk
            replace hk := castK_eq hk; obtain ⟨hb, hk⟩ := hk
            exact ⟨_, b, hk, fun j o ho => .inl ho⟩
          · cases hk
        | fresh => exact ⟨[], b, hk, fun j o ho => .inl ho⟩
    replace hk := one hk; obtain ⟨x, b1, hk, m1⟩ := hk
    replace hk := ih hk; obtain ⟨y, b2, hk, m2⟩ := hk
    refine ⟨(x, y), b2, hk, fun j o ho => ?_⟩
    rcases m2 j o ho with h1 | h1
    · exact m1 j o h1
    · exact .inr h1
theorem coerce_used {α : Type} (hh : HeapR μ w h) (hs : HSub hp h) {ts : List TT} {os : List OT} {vs : List TV} {b₀ : Bind} {K : TT.dens ts × OT.dens os → Bind → Option α} {r : α}
    (hk : coerceK hp ts os vs b₀ K = some r) (hb : ∀ j o, o ∈ (b₀.src j).ids → μ.used o) {us : List Value} (hus : VRs μ w vs us) :
    ∃ v b, K v b = some r ∧ ∀ j o, o ∈ (b.src j).ids → μ.used o := by
  unfold coerceK at hk
  replace hk := matches_used hk; obtain ⟨x, b1, hk, m1⟩ := hk
  replace hk := objs_used hk; obtain ⟨y, b2, hk, m2⟩ := hk
  replace hk := bif_some hk; obtain ⟨hok, hk⟩ := hk
  refine ⟨(x, y), b2, hk, fun j o ho => ?_⟩
  rcases m2 j o ho with h1 | ⟨q, t, c, h1, h2⟩
  · rcases m1 j o h1 with h2 | ⟨v, h2, h3⟩
    · exact hb j o h2
    · exact hus.used v h2 o h3
  · exact hh.ids_used (hs _ _ h1) h2
theorem coerce_take {α : Type} (hh : HeapR μ w h) (hs : HSub hp h) {ts : List TT} {os : List OT} {vs : List TV} {b₀ : Bind} {K : TT.dens ts × OT.dens os → Bind → Option α} {r : α}
    (hk : coerceK hp ts os vs b₀ K = some r) (hb : ∀ j o, o ∈ (b₀.src j).ids → μ.used o) {us : List Value} (hus : VRs μ w vs us) :
    ∃ v b, K v b = some r ∧ b₀.le b ∧ b.ok os.length = true ∧ (∀ j o, o ∈ (b.src j).ids → μ.used o) ∧ ∀ X, Takes μ w b os X → PC μ (mpOf μ b os X) w b ∧
      HeapR (mpOf μ b os X) w (Heap.puts (fun _ => none) (OT.fills ids0 os v.2 0)) ∧ VRs (mpOf μ b os X) w (TT.fills ids0 ts v.1) us := by
  have hd : (coerceK hp ts os vs b₀ fun v b => some (v, b)).bind (fun p => K p.1 p.2) = some r := by
    rw [coerceK_bind]; exact hk
  obtain ⟨⟨v, b⟩, h1, h2⟩ := Option.bind_eq_some_iff.1 hd
  obtain ⟨v', b', e1, l1, ok1, m1⟩ := coerce_ok hh hs h1
  obtain ⟨v'', b'', e2, m2⟩ := coerce_used hh hs h1 hb hus
  cases e1; cases e2
  exact ⟨v, b, h2, l1, ok1, m2, fun X hx => ⟨(m1 X hx).1, (m1 X hx).2.1, (m1 X hx).2.2 us hus⟩⟩

/-! ### other numbers -/
theorem agg_fill {T : TT} {ids : Nat → Oid} {x : T.den} : aggTV (T.fill ids x) = aggTV (T.fill ids0 x) := by cases T <;> rfl
theorem fit_fill : ∀ {T : TT} {t : Ty} {ids : Nat → Oid} {x : T.den}, fitB t (T.fill ids x) = fitB t (T.fill ids0 x) := by
  intro T
  induction T with
  | ncons A B ihA ihB => intro t ids x; cases t <;> first | rfl | (simp only [TT.fill, fitB, ihA, ihB])
  | _ => intro t ids x; cases t <;> rfl
theorem R.ren {μ' : Mp} {ids : Nat → Oid} (hr : ∀ j, μ.used (j, 0) → μ'.used (ids j) ∧ ∀ e, μ'.ent (ids j) = some e → μ.ent (j, 0) = some e) :
    ∀ {T : TT} {x : T.den} {m : Bool} {cs : List Value}, (T.shares = true → ∀ k, St μ w k → St μ' w k) → R μ w (T.fill ids0 x) m cs → R μ' w (T.fill ids x) m cs := by
  intro T
  induction T with
  | hole t =>
    intro x m cs hst h
    cases m with
    | true => exact h
    | false =>
      cases hs : t.hasSlice with
      | false => exact Rep.any hs h
      | true => exact Rep.mono (fun k hk => ⟨hst hs k hk, rfl⟩) h
  | cptr t =>
    intro x m cs hst h
    obtain ⟨b, off, c, h1, h2, h3, h4⟩ := h
    exact ⟨b, off, c, h1, hst rfl b h2, h3, h4.mono (fun k hk => ⟨hst rfl k hk, rfl⟩)⟩
  | own j =>
    intro x m cs hst h
    obtain ⟨a, n, c, h1, hu, h2⟩ := h
    exact ⟨a, n, c, h1, (hr j hu).1, fun e he => h2 e ((hr j hu).2 e he)⟩
  | ptr j p =>
    intro x m cs hst h
    obtain ⟨a, h1, hu, h2⟩ := h
    exact ⟨a, h1, (hr j hu).1, fun e he => h2 e ((hr j hu).2 e he)⟩
  | mref j =>
    intro x m cs hst h
    obtain ⟨a, h1, hu, h2⟩ := h
    exact ⟨a, h1, (hr j hu).1, fun e he => h2 e ((hr j hu).2 e he)⟩
  | ncons A B ihA ihB =>
    intro x m cs hst h
    have hA : A.shares = true → ∀ k, St μ w k → St μ' w k := fun hs => hst (by simp [TT.shares, hs])
    have hB : B.shares = true → ∀ k, St μ w k → St μ' w k := fun hs => hst (by simp [TT.shares, hs])
    cases m with
    | false => obtain ⟨c, c', h0, h1, h2⟩ := h; exact ⟨c, c', h0, ihA hA h1, ihB hB h2⟩
    | true =>
      obtain ⟨v, vs, h0, h1, h2⟩ := h
      refine ⟨v, vs, h0, ?_, ihB hB h2⟩
      rcases h1 with ⟨h3, cs, h4, h5⟩ | ⟨h3, h4⟩
      · exact .inl ⟨by rw [agg_fill]; exact h3, cs, h4, ihA hA h5⟩
      · exact .inr ⟨by rw [agg_fill]; exact h3, ihA hA h4⟩
  | fn f C ih =>
    intro x m cs hst h
    obtain ⟨vs, h1, h2⟩ := h
    exact ⟨vs, h1, ih hst h2⟩
  | nnil => intro x m cs hst h; cases m <;> exact h
  | _ => intro x m cs hst h; exact h
theorem VR.ren {μ' : Mp} {ids : Nat → Oid} (hr : ∀ j, μ.used (j, 0) → μ'.used (ids j) ∧ ∀ e, μ'.ent (ids j) = some e → μ.ent (j, 0) = some e)
    {T : TT} {x : T.den} {u : Value} (hst : T.shares = true → ∀ k, St μ w k → St μ' w k) (h : VR μ w (T.fill ids0 x) u) : VR μ' w (T.fill ids x) u := by
  rcases h with ⟨h1, cs, h2, h3⟩ | ⟨h1, h2⟩
  · exact .inl ⟨by rw [agg_fill]; exact h1, cs, h2, R.ren hr hst h3⟩
  · exact .inr ⟨by rw [agg_fill]; exact h1, R.ren hr hst h2⟩
theorem VRs.ren {μ' : Mp} {ids : Nat → Oid} (hr : ∀ j, μ.used (j, 0) → μ'.used (ids j) ∧ ∀ e, μ'.ent (ids j) = some e → μ.ent (j, 0) = some e) :
    ∀ {ts : List TT} {x : TT.dens ts} {us : List Value}, (ts.any TT.shares = true → ∀ k, St μ w k → St μ' w k) → VRs μ w (TT.fills ids0 ts x) us → VRs μ' w (TT.fills ids ts x) us := by
  intro ts
  induction ts with
  | nil => intro x us _ h; cases us with
    | nil => trivial
    | cons => exact h.elim
  | cons T ts ih =>
    intro x us hst h
    cases us with
    | nil => exact h.elim
    | cons u us => exact ⟨VR.ren hr (fun hs => hst (by simp [hs])) h.1, ih (fun hs => hst (by rw [List.any_cons, hs, Bool.or_true])) h.2⟩
theorem VR.pst {μ' : Mp} {t : Ty} {x : t.den} {u : Value} (hst : t.hasSlice = true → ∀ k, St μ w k → St μ' w k) (h : VR μ w (.pv t x) u) : VR μ' w (.pv t x) u := by
  have hm : ∀ {cs : List Value}, Rep w (St μ w) t x cs → Rep w (St μ' w) t x cs := by
    intro cs h
    cases hs : t.hasSlice with
    | false => exact Rep.any hs h
    | true => exact h.mono (fun k hk => ⟨hst hs k hk, rfl⟩)
  rcases h with ⟨h1, cs, h2, h3⟩ | ⟨h1, h2⟩
  · exact .inl ⟨h1, cs, h2, hm h3⟩
  · exact .inr ⟨h1, hm h2⟩
theorem EntR.pst {μ' : Mp} {k v : Ty} (hst : (k.hasSlice || v.hasSlice) = true → ∀ b, St μ w b → St μ' w b) : ∀ {l : List (k.den × v.den)} {ms : List MapEntry}, EntR μ w k v l ms → EntR μ' w k v l ms := by
  intro l
  induction l with
  | nil => intro ms hr; cases ms with
    | nil => trivial
    | cons => exact hr.elim
  | cons e l ih => intro ms hr; cases ms with
    | nil => exact hr.elim
    | cons m ms => exact ⟨hr.1.pst (fun h => hst (by simp [h])), hr.2.1.pst (fun h => hst (by simp [h])), ih hr.2.2⟩
theorem ObR.ren {μ' : Mp} {ids : Nat → Oid} (hr : ∀ j, μ.used (j, 0) → μ'.used (ids j) ∧ ∀ e, μ'.ent (ids j) = some e → μ.ent (j, 0) = some e)
    {T : OT} {x : T.den} {e : Ent} {ob : Ob} (hst : T.shares = true → ∀ k, St μ w k → St μ' w k) (hx : T.fill ids0 x = some ob) (h : ObR μ w e ob) :
    ∃ ob', T.fill ids x = some ob' ∧ ObR μ' w e ob' := by
  cases T with
  | dead => cases hx
  | mp k v =>
    cases hx
    obtain ⟨b, es, clk, h1, h2, h3⟩ := h
    exact ⟨_, rfl, b, es, clk, h1, h2, h3.pst hst⟩
  | vec t =>
    cases hx
    refine ⟨_, rfl, ?_⟩
    obtain ⟨h1, h2, h3, h3', h4⟩ := h
    refine ⟨h1, h2, h3, h3', ?_⟩
    cases hk : e.blk with
    | none => rw [hk] at h4; exact h4
    | some b =>
      rw [hk] at h4
      refine ⟨h4.1, h4.2.1, fun i y hy => ?_⟩
      obtain ⟨c, h5, h6⟩ := h4.2.2 i y hy
      refine ⟨c, h5, ?_⟩
      cases hs : t.hasSlice with
      | false => exact Rep.any hs h6
      | true => exact h6.mono (fun k hk => ⟨hst hs k hk, rfl⟩)
  | box t C =>
    cases hx
    refine ⟨_, rfl, ?_⟩
    obtain ⟨h1, h2, h0, b, cs, h3, h4, h5, h6, h7⟩ := h
    exact ⟨h1, h2, by rw [fit_fill]; exact h0, b, cs, h3, h4, h5, h6, R.ren hr hst h7⟩
end
end Go.PE
end

section
namespace Go.PE
set_option linter.unusedSimpArgs false
open Classical
section
variable {P : Program} {μ μc : Mp} {w : World} {h hp : Heap}

def Out (μ : Mp) (w : World) (l : List TV) (u : Value) : Prop :=
  match l with
  | [x] => VR μ w x u
  | l => ∃ vs : Array Value, u = .tuple vs ∧ VRs μ w l vs.toList
theorem VRs.list : ∀ {l : List TV} {vs : List Value}, VRs μ w l vs → R μ w (tvList l) true vs := by
  intro l
  induction l with
  | nil => intro vs h; cases vs with
    | nil => exact ⟨rfl, rfl⟩
    | cons => exact h.elim
  | cons x l ih =>
    intro vs h
    cases vs with
    | nil => exact h.elim
    | cons v vs =>
      refine ⟨v, vs, rfl, ?_, ih h.2⟩
      rcases h.1 with ⟨h1, cs, h2, h3⟩ | ⟨h1, h2⟩
      · exact .inl ⟨h1, cs, h2, h3⟩
      · exact .inr ⟨h1, h2⟩
theorem Out.tup {l : List TV} {u : Value} (h : Out μ w l u) : VR μ w (tupOf l) u := by
  unfold Out at h
  unfold tupOf
  split at h
  · exact h
  · rename_i hn
    split
    · rename_i v; exact (hn v rfl).elim
    · obtain ⟨vs, h1, h2⟩ := h
      exact .inr ⟨rfl, vs, by rw [h1], h2.list⟩
theorem Out.ren {μ' : Mp} {ids : Nat → Oid} (hr : ∀ j, μ.used (j, 0) → μ'.used (ids j) ∧ ∀ e, μ'.ent (ids j) = some e → μ.ent (j, 0) = some e)
    {ts : List TT} {x : TT.dens ts} {u : Value} (hst : ts.any TT.shares = true → ∀ k, St μ w k → St μ' w k) (h : Out μ w (TT.fills ids0 ts x) u) : Out μ' w (TT.fills ids ts x) u := by
  match ts, x, h with
  | [], x, h =>
    obtain ⟨vs, h1, h2⟩ := h
    exact ⟨vs, h1, VRs.ren (ts := []) hr hst h2⟩
  | [T], x, h => exact VR.ren hr (fun hs => hst (by simp [hs])) h
  | T :: T' :: l, x, h =>
    obtain ⟨vs, h1, h2⟩ := h
    exact ⟨vs, h1, VRs.ren (ts := T :: T' :: l) (x := x) hr hst h2⟩

/-- The package's variables hold what is known of them. -/
def GlobR (γ : Gl) (μ : Mp) (w : World) : Prop := ∀ g v, γ g = some v → VR μ w (.cptr v.t v.x) (.pointer (some ⟨g, 0, none⟩))
theorem GlobR.mono {γ : Gl} {μ μ' : Mp} {w w' : World} (h : Step μ w μ' w') (hg : GlobR γ μ w) : GlobR γ μ' w' := fun g v hv => (hg g v hv).mono h
theorem GlobR.pc {γ : Gl} {μ μc : Mp} {w : World} {b : Bind} (hpc : PC μ μc w b) (hg : GlobR γ μ w) : GlobR γ μc w := by
  intro g v hv
  obtain ⟨bl, off, c, h1, h2, h3, h4⟩ := (hg g v hv).scal rfl
  exact .inr ⟨rfl, bl, off, c, h1, hpc.st _ (.inl h2), h3, h4.mono (fun k hk => ⟨hpc.st k (.inl hk), rfl⟩)⟩
/-- A call of some kind does what a contract says. -/
def SoundBy (Cl : Array Value → World → (Ending → World → Prop) → Prop) (γ : Gl) (g : Sig) : Prop :=
  g.inObs.length ≤ g.outObs.length ∧ ∀ v r, g.FK v some = some r → ∀ μ w us, HeapR μ w (Heap.puts (fun _ => none) (OT.fills ids0 g.inObs v.2 0)) →
    (∀ o, μ.used o → o.2 = 0 ∧ o.1 < g.inObs.length) → GlobR γ μ w → VRs μ w (TT.fills ids0 g.ins v.1) us →
    Cl us.toArray w fun e w' => ∃ u μ', e = .returned u ∧ Step μ w μ' w' ∧ Out μ' w' (TT.fills ids0 g.outs r.1) u ∧ HeapR μ' w' (Heap.puts (fun _ => none) (OT.fills ids0 g.outObs r.2 0))

/-- What is known of a function. -/
def FnSound (P : Program) (γ : Gl) (k : Nat) (g : Sig) : Prop := SoundBy (Calls P k) γ g
theorem puts_killAll_mem {o : Oid} : ∀ {l : List Oid} {h : Heap}, o ∈ l → h.puts (killAll l) o = none := by
  intro l
  induction l with
  | nil => intro h ho; cases ho
  | cons a l ih =>
    intro h ho
    simp only [killAll, Heap.puts]
    by_cases hl : o ∈ l
    · exact ih hl
    · rw [puts_killAll hl]
      rcases List.mem_cons.1 ho with rfl | h1
      · exact Heap.put_at
      · exact (hl h1).elim
theorem partOids_mem {b : Bind} {o : Oid} {off len : Nat} : ∀ {n j : Nat}, j < n → b.src j = .part o off len → o ∈ partOids b n := by
  intro n
  induction n with
  | zero => intro j hj; omega
  | succ n ih =>
    intro j hj hs
    simp only [partOids, List.mem_append]
    by_cases e : j = n
    · subst e; rw [hs]; exact .inl (by simp)
    · exact .inr (ih (by omega) hs)
theorem obAt_get {ids : Nat → Oid} : ∀ {os : List OT} {y : OT.dens os} {i : Nat} {ob : Ob}, obAt ids os y i = some ob → ∃ T x, os[i]? = some T ∧ T.fill ids x = some ob ∧ ∀ ids', obAt ids' os y i = T.fill ids' x := by
  intro os
  induction os with
  | nil => intro y i ob h; cases h
  | cons T l ih =>
    intro y i ob h
    cases i with
    | zero => exact ⟨T, y.1, rfl, h, fun _ => rfl⟩
    | succ i =>
      obtain ⟨T', x, h1, h2, h3⟩ := ih h
      exact ⟨T', x, by simpa using h1, h2, h3⟩

/-- The caller's map after a call. -/
noncomputable def backMp (μ μ' : Mp) (ids : Nat → Oid) (n : Nat) (kills : List Oid) (i : Nat) : Mp where
  ent p := if h : ∃ j, j < n ∧ p = ids j then μ'.ent (h.choose, 0) else if p ∈ kills then none else μ.ent p
  used p := μ.used p ∨ p.1 = i
  hid := μ.hid

theorem call_ok {α : Type} (hh : HeapR μ w h) (hs : HSub hp h) {Cl : Array Value → World → (Ending → World → Prop) → Prop} (hmono : ∀ {us : Array Value} {w : World} {p q : Ending → World → Prop}, Cl us w p → (∀ e w', p e w' → q e w') → Cl us w q) {γ : Gl} {g : Sig} (hg : SoundBy Cl γ g) (hgl : GlobR γ μ w) {i : Nat} (hi : ∀ j, ¬ μ.used (i, j)) {vs : List TV} {us : List Value}
    {K : TV → Delta → Option α} {r : α} (hk : callK g i vs hp K = some r) (hus : VRs μ w vs us) :
    ∃ rv d, K rv d = some r ∧ Cl us.toArray w fun e w' => ∃ u μ', e = .returned u ∧ Step μ w μ' w' ∧ VR μ' w' rv u ∧ HeapR μ' w' (h.puts d) ∧ ∀ o, μ'.used o → μ.used o ∨ o.1 = i := by
  unfold callK at hk
  replace hk := coerce_take hh hs hk (fun j o ho => by cases ho) hus
  obtain ⟨v, b, hk, _, hok, hbu, htake⟩ := hk
  rw [g.nat] at hk
  obtain ⟨rr, hfk, hk⟩ := Option.bind_eq_some_iff.1 hk
  simp only [] at hk
  refine ⟨_, _, hk, ?_⟩
  obtain ⟨hmn, hg⟩ := hg
  obtain ⟨k1, k2, k3⟩ := Bind.ok_spec hok
  -- what the callee does not see
  let live (o : Oid) : Prop := ∃ (j : Nat) (T : OT), g.inObs[j]? = some T ∧ T.live = true ∧ o ∈ (b.src j).ids
  let X (k : Nat) : Prop := μ.hid k ∨ ∃ o e, μ.ent o = some e ∧ e.blk = some k ∧ o ∉ b.snaps ∧ ¬ live o
  have hX : Takes μ w b g.inObs X := by
    refine ⟨fun k hk => ?_, fun k hk => ?_, fun j T o hT hl ho e k he hb hk => ?_⟩
    · rcases hk with hk | ⟨o, e, h1, h2, _⟩
      · exact hh.hlt k hk
      · exact hh.lt h1 h2
    · rcases hk with hk | ⟨o, e, h1, h2, h3, _⟩
      · exact .inl hk
      · exact .inr ⟨o, e, h1, h2, h3⟩
    · rcases hk with hk | ⟨o', e', h1, h2, h3, h4⟩
      · exact hh.nhid o e k he hb hk
      · have := hh.inj o o' e e' k he h1 hb h2
        subst this
        exact h4 ⟨j, T, hT, hl, ho⟩
  obtain ⟨hpc, hhc, hvc⟩ := htake X hX
  refine hmono (hg v rr hfk _ w us hhc (fun o ho => ho) (hgl.pc hpc) hvc) ?_
  rintro e w' ⟨u, μ'', rfl, hst, hout, hh''⟩
  generalize hids : backId b g.inObs.length i = ids
  generalize hkl : (bif g.outs.any TT.shares || g.outObs.any OT.shares then b.snaps else []) ++ partOids b g.inObs.length = kills
  -- the numbers
  have hidc : ∀ j, (ids j = (i, j) ∧ ∀ o, b.src j = .obj o → ¬ j < g.inObs.length) ∨ (∃ o, b.src j = .obj o ∧ j < g.inObs.length ∧ ids j = o) := by
    intro j
    rw [← hids]
    unfold backId
    split
    · rename_i o ho
      cases hb : Nat.blt j g.inObs.length with
      | true => exact .inr ⟨o, ho, Nat.le_of_ble_eq_true hb, rfl⟩
      | false => exact .inl ⟨rfl, fun o' _ hlt => by rw [show Nat.blt j g.inObs.length = true from Nat.ble_eq_true_of_le hlt] at hb; cases hb⟩
    · rename_i hn; exact .inl ⟨rfl, fun o ho => (hn o ho).elim⟩
  have hmem : ∀ {j o}, b.src j = .obj o → o ∈ (b.src j).ids := fun {j o} h => by rw [h]; simp [Src.ids]
  have hinj : ∀ j j', ids j = ids j' → j = j' := by
    intro j j' he
    rcases hidc j with ⟨h1, _⟩ | ⟨o, h1, h2, h3⟩
    · rcases hidc j' with ⟨h1', _⟩ | ⟨o', h1', h2', h3'⟩
      · rw [h1, h1'] at he; exact congrArg Prod.snd he
      · exfalso; rw [h1, h3'] at he; exact hi j (by rw [he]; exact hbu j' o' (hmem h1'))
    · rcases hidc j' with ⟨h1', _⟩ | ⟨o', h1', h2', h3'⟩
      · exfalso; rw [h3, h1'] at he; exact hi j' (by rw [← he]; exact hbu j o (hmem h1))
      · rw [h3, h3'] at he; subst he; exact k2 j j' o (hmem h1) (hmem h1')
  let μ3 := backMp μ μ'' ids g.outObs.length kills i
  have hat : ∀ j, j < g.outObs.length → μ3.ent (ids j) = μ''.ent (j, 0) := by
    intro j hj
    have hex : ∃ j', j' < g.outObs.length ∧ ids j = ids j' := ⟨j, hj, rfl⟩
    show (if h : _ then _ else _) = _
    rw [dif_pos hex]
    have := hinj _ _ hex.choose_spec.2
    rw [← this]
  have hoff : ∀ p, (¬ ∃ j, j < g.outObs.length ∧ p = ids j) → μ3.ent p = if p ∈ kills then none else μ.ent p := by
    intro p hp
    show (if h : _ then _ else _) = _
    rw [dif_neg hp]
  -- an object of the caller's that the callee has not had
  have hrest : ∀ p e k, (¬ ∃ j, j < g.outObs.length ∧ p = ids j) → p ∉ kills → μ.ent p = some e → e.blk = some k →
      w'.heap[k]? = w.heap[k]? ∧ ∀ q e', μ''.ent q = some e' → e'.blk ≠ some k := by
    intro p e k hp hpk he hb
    by_cases hsn : p ∈ b.snaps
    · have := hst.st k (hpc.st k (.inr ⟨p, e, hsn, he, hb⟩))
      exact ⟨this.2, fun q e' hq => this.1.2.1 q e' hq⟩
    · have hxk : X k := by
        refine .inr ⟨p, e, he, hb, hsn, fun ⟨j, T, hT, hl, ho⟩ => ?_⟩
        have hjm : j < g.inObs.length := (List.getElem?_eq_some_iff.1 hT).1
        cases hsj : b.src j with
        | none => rw [hsj] at ho; cases ho
        | fresh => rw [hsj] at ho; cases ho
        | obj o =>
          rw [hsj] at ho; simp [Src.ids] at ho; subst ho
          rcases hidc j with ⟨_, h2⟩ | ⟨o, h1, h2, h3⟩
          · exact h2 p hsj hjm
          · rw [hsj] at h1; cases h1; exact hp ⟨j, by omega, h3.symm⟩
        | part o off len =>
          rw [hsj] at ho; simp [Src.ids] at ho; subst ho
          exact hpk (by rw [← hkl]; exact List.mem_append_right _ (partOids_mem hjm hsj))
      refine ⟨hst.hids k hxk, fun q e' hq hb' => ?_⟩
      exact hh''.nhid q e' k hq hb' (by rw [hst.hid]; exact hxk)
  have hent : ∀ p e, μ3.ent p = some e → (∃ j, j < g.outObs.length ∧ p = ids j ∧ μ''.ent (j, 0) = some e) ∨ ((¬ ∃ j, j < g.outObs.length ∧ p = ids j) ∧ p ∉ kills ∧ μ.ent p = some e) := by
    intro p e he
    by_cases hp : ∃ j, j < g.outObs.length ∧ p = ids j
    · obtain ⟨j, h1, h2⟩ := hp
      rw [h2, hat j h1] at he
      exact .inl ⟨j, h1, h2, he⟩
    · rw [hoff p hp] at he
      split at he
      · cases he
      · rename_i hk; exact .inr ⟨hp, hk, he⟩
  have hst3 : Step μ w μ3 w' := by
    refine ⟨hst.os, hst.tape, hst.output, hst.size, fun k hk => ?_, fun o ho => .inl ho, fun o e ho he => ?_, rfl, fun k hk => hst.hids k (.inl hk)⟩
    · have := hst.st k (hpc.st k (.inl hk))
      refine ⟨⟨this.1.1, fun p e he hb => ?_, hk.2.2⟩, this.2⟩
      rcases hent p e he with ⟨j, _, _, h3⟩ | ⟨_, _, h3⟩
      · exact this.1.2.1 _ e h3 hb
      · exact hk.2.1 p e h3 hb
    · rcases hent o e he with ⟨j, h1, h2, h3⟩ | ⟨_, _, h3⟩
      · rcases hidc j with ⟨g1, _⟩ | ⟨o', g1, g2, g3⟩
        · exact (hi j (by rw [← g1, ← h2]; exact ho)).elim
        · have hc := hst.ent (j, 0) e ⟨rfl, g2⟩ h3
          obtain ⟨T, _, _, _, h5⟩ := mpOf_ent hc
          simp only [g1, entS] at h5
          rw [h2, g3]; exact h5
      · exact h3
  have hkst : (g.outs.any TT.shares || g.outObs.any OT.shares) = true → ∀ k, St μ'' w' k → St μ3 w' k := by
    intro hsh k hk
    refine ⟨hk.1, fun p e he hb => ?_, fun hx => hk.2.2 (by rw [hst.hid]; exact .inl hx)⟩
    rcases hent p e he with ⟨j, _, _, h3⟩ | ⟨h1, h2, h3⟩
    · exact hk.2.1 _ e h3 hb
    · have hsn : p ∉ b.snaps := fun hm => h2 (by rw [← hkl, hsh]; exact List.mem_append_left _ hm)
      refine hk.2.2 ?_
      rw [hst.hid]
      refine .inr ⟨p, e, h3, hb, hsn, fun ⟨j, T, hT, hl, ho⟩ => ?_⟩
      have hjm : j < g.inObs.length := (List.getElem?_eq_some_iff.1 hT).1
      cases hsj : b.src j with
      | none => rw [hsj] at ho; cases ho
      | fresh => rw [hsj] at ho; cases ho
      | obj o =>
        rw [hsj] at ho; simp [Src.ids] at ho; subst ho
        rcases hidc j with ⟨_, h2⟩ | ⟨o, g1, g2, g3⟩
        · exact h2 p hsj hjm
        · rw [hsj] at g1; cases g1; exact h1 ⟨j, by omega, g3.symm⟩
      | part o off len =>
        rw [hsj] at ho; simp [Src.ids] at ho; subst ho
        exact h2 (by rw [← hkl]; exact List.mem_append_right _ (partOids_mem hjm hsj))
  have hren : ∀ j, μ''.used (j, 0) → μ3.used (ids j) ∧ ∀ e, μ3.ent (ids j) = some e → μ''.ent (j, 0) = some e := by
    intro j _
    refine ⟨?_, fun e he => ?_⟩
    · rcases hidc j with ⟨g1, _⟩ | ⟨o', g1, g2, g3⟩
      · exact .inr (by rw [g1])
      · exact .inl (by rw [g3]; exact hbu j o' (hmem g1))
    · rcases hent _ e he with ⟨j', h1, h2, h3⟩ | ⟨h1, h2, h3⟩
      · rw [hinj _ _ h2]; exact h3
      · exfalso
        rcases hidc j with ⟨g1, _⟩ | ⟨o', g1, g2, g3⟩
        · exact hi j (by rw [← g1]; exact hh.used _ e h3)
        · exact h1 ⟨j, by omega, rfl⟩
  have hdel : ∀ p, (h.puts (killAll kills ++ OT.fills ids g.outObs rr.2 0)) p = (if ∃ j, j < g.outObs.length ∧ p = ids j then (h.puts (killAll kills ++ OT.fills ids g.outObs rr.2 0)) p else if p ∈ kills then none else h p) := by
    intro p
    split
    · rfl
    · rename_i hp
      rw [Heap.puts_append, puts_other (fun j hj he => hp ⟨j, hj, by rw [Nat.zero_add] at he; exact he⟩)]
      split
      · rename_i hm; exact puts_killAll_mem hm
      · rename_i hm; exact puts_killAll hm
  have hdat : ∀ j, j < g.outObs.length → (h.puts (killAll kills ++ OT.fills ids g.outObs rr.2 0)) (ids j) = obAt ids g.outObs rr.2 j := by
    intro j hj
    rw [Heap.puts_append]
    have := puts_at (ids := ids) (os := g.outObs) (y := rr.2) (j := 0) (i := j) (h := h.puts (killAll kills)) hj (fun a b _ _ he => by rw [Nat.zero_add, Nat.zero_add] at he; exact hinj _ _ he)
    rw [Nat.zero_add] at this
    exact this
  have h0 : ∀ j, Heap.puts (fun _ => none) (OT.fills ids0 g.outObs rr.2 0) (j, 0) = obAt ids0 g.outObs rr.2 j := by
    intro j; rw [puts0]; rfl
  have hob3 : ∀ p e ob, (¬ ∃ j, j < g.outObs.length ∧ p = ids j) → p ∉ kills → μ.ent p = some e → ObR μ w e ob → ObR μ3 w' e ob :=
    fun p e ob h1 h2 h3 h4 => h4.mono hst3 (fun k hk => (hrest p e k h1 h2 h3 hk).1)
  have hhr : HeapR μ3 w' (h.puts (killAll kills ++ OT.fills ids g.outObs rr.2 0)) := by
    refine ⟨fun p ob hp => ?_, fun p e he => ?_, fun p p' e e' k he he' hb hb' => ?_, fun p e he => ?_, fun p e k he hb hx => ?_, fun k hk => Nat.lt_of_lt_of_le (hh.hlt k hk) hst.size⟩
    · by_cases hj : ∃ j, j < g.outObs.length ∧ p = ids j
      · obtain ⟨j, h1, h2⟩ := hj
        rw [h2, hdat j h1] at hp
        obtain ⟨T, x, g1, g2, g3⟩ := obAt_get hp
        obtain ⟨ob0, hx0⟩ : ∃ ob0, T.fill ids0 x = some ob0 := by cases T <;> first | exact ⟨_, rfl⟩ | cases g2
        have hp0 : Heap.puts (fun _ => none) (OT.fills ids0 g.outObs rr.2 0) (j, 0) = some ob0 := by rw [h0, g3, hx0]
        obtain ⟨e, he, hobr⟩ := hh''.ob _ _ hp0
        obtain ⟨ob', q1, q2⟩ := ObR.ren hren (x := x) (fun hs => hkst (by
          rw [Bool.or_eq_true]; right
          exact List.any_eq_true.2 ⟨T, List.mem_of_getElem? g1, hs⟩)) hx0 hobr
        rw [g2] at q1; cases q1
        exact ⟨e, by rw [h2, hat j h1]; exact he, q2⟩
      · rw [hdel p, if_neg hj] at hp
        split at hp
        · cases hp
        · rename_i hm
          obtain ⟨e, he, hobr⟩ := hh.ob p ob hp
          exact ⟨e, by rw [hoff p hj, if_neg hm]; exact he, hob3 p e ob hj hm he hobr⟩
    · rcases hent p e he with ⟨j, h1, h2, h3⟩ | ⟨h1, h2, h3⟩
      · obtain ⟨ob0, q⟩ := hh''.dom _ e h3
        rw [h0] at q
        obtain ⟨T, x, g1, g2, g3⟩ := obAt_get q
        rw [h2, hdat j h1, g3]
        cases T <;> first | exact ⟨_, rfl⟩ | cases g2
      · rw [hdel p, if_neg h1, if_neg h2]
        exact hh.dom p e h3
    · rcases hent p e he with ⟨j, h1, h2, h3⟩ | ⟨h1, h2, h3⟩
      · rcases hent p' e' he' with ⟨j', h1', h2', h3'⟩ | ⟨h1', h2', h3'⟩
        · have := congrArg Prod.fst (hh''.inj _ _ e e' k h3 h3' hb hb')
          change j = j' at this
          rw [h2, h2', this]
        · exact ((hrest p' e' k h1' h2' h3' hb').2 _ e h3 hb).elim
      · rcases hent p' e' he' with ⟨j', h1', h2', h3'⟩ | ⟨h1', h2', h3'⟩
        · exact ((hrest p e k h1 h2 h3 hb).2 _ e' h3' hb').elim
        · exact hh.inj p p' e e' k h3 h3' hb hb'
    · rcases hent p e he with ⟨j, h1, h2, h3⟩ | ⟨h1, h2, h3⟩
      · rw [h2]; exact (hren j (hh''.used _ e h3)).1
      · exact .inl (hh.used p e h3)
    · rcases hent p e he with ⟨j, h1, h2, h3⟩ | ⟨h1, h2, h3⟩
      · exact hh''.nhid _ e k h3 hb (by rw [hst.hid]; exact .inl hx)
      · exact hh.nhid p e k h3 hb hx
  exact ⟨u, μ3, rfl, hst3, (Out.ren hren (fun hs => hkst (by rw [hs]; rfl)) hout).tup, hhr, fun o ho => ho⟩
end
end Go.PE
end

section
namespace Go.PE
set_option linter.unusedSimpArgs false
section
variable {P : Program} {μ : Mp} {w : World} {h hp : Heap}

def EnvR (μ : Mp) (w : World) (env : Env) (tmps : Array Value) : Prop := ∀ t, VR μ w (env t) (tmps.getD t Go.undef)
theorem EnvR.mono {μ' : Mp} {w' : World} {env : Env} {tmps : Array Value} (hst : Step μ w μ' w') (he : EnvR μ w env tmps) : EnvR μ' w' env tmps := fun t => (he t).mono hst
theorem VR.undef {v : Value} : VR μ w .undef v := .inr ⟨rfl, trivial⟩
theorem VR.hole : VR μ w .hole Go.undef := .inr ⟨rfl, rfl⟩
theorem VR.nils : VR μ w .nils (.slice none 0 0) := .inr ⟨rfl, rfl⟩
theorem kindIn_facts {k : IntKind} {n : Int} (h : kindIn k n = true) : k.min ≤ n ∧ n ≤ k.max := by
  simp only [kindIn, Bool.and_eq_true, decide_eq_true_eq] at h; exact h
theorem const_ok (v : Value) : VR μ w (constTV v) v := by
  unfold constTV
  split
  · exact VR.mk_bool
  · cases hk : kindIn _ _ with
    | true => exact VR.mk_int (kindIn_facts hk)
    | false => exact VR.undef
  · rename_i s
    cases hs : Nat.ble s.size 1000000 with
    | true => exact VR.mk_str (by have := Nat.le_of_ble_eq_true hs; unfold big; omega)
    | false => exact VR.undef
  · exact VR.nils
  · exact .inr ⟨rfl, rfl⟩
  · exact .inr ⟨rfl, rfl⟩
  · exact .inr ⟨rfl, rfl⟩
  · exact VR.undef
theorem eval_ok {env : Env} {a : Act} (he : EnvR μ w env a.tmps) (x : Operand) : VR μ w (evalTV env x) (a.eval x) := by
  cases x with
  | tmp t => exact he t
  | const v => exact const_ok v
  | func f => exact .inr ⟨rfl, #[], rfl, rfl, rfl⟩
  | global g => exact VR.undef
theorem evals_ok {env : Env} {a : Act} (he : EnvR μ w env a.tmps) : ∀ (l : List Operand), VRs μ w (l.map (evalTV env)) (l.map a.eval) := by
  intro l
  induction l with
  | nil => trivial
  | cons x l ih => exact ⟨eval_ok he x, ih⟩
theorem VRs.append : ∀ {l : List TV} {vs : List Value} {l' : List TV} {vs' : List Value}, VRs μ w l vs → VRs μ w l' vs' → VRs μ w (l ++ l') (vs ++ vs') := by
  intro l
  induction l with
  | nil => intro vs l' vs' h1 h2; cases vs with
    | nil => exact h2
    | cons => exact h1.elim
  | cons x l ih => intro vs l' vs' h1 h2; cases vs with
    | nil => exact h1.elim
    | cons v vs => exact ⟨h1.1, ih h1.2 h2⟩
theorem caps_ok {α : Type} : ∀ {c : TV} {K : List TV → Option α} {r : α} {vs : List Value}, capsK c K = some r → R μ w c true vs → ∃ l, K l = some r ∧ VRs μ w l vs := by
  intro c
  induction c with
  | ncons a as _ ih =>
    intro K r vs hk hr
    obtain ⟨v, vs', rfl, h1, h2⟩ := hr
    obtain ⟨l, h3, h4⟩ := ih hk h2
    refine ⟨a :: l, h3, ?_, h4⟩
    rcases h1 with ⟨g1, cs, g2, g3⟩ | ⟨g1, g2⟩
    · exact .inl ⟨g1, cs, g2, g3⟩
    · exact .inr ⟨g1, g2⟩
  | pv t x =>
    intro K r vs hk hr
    cases t <;> try (cases hk; done)
    exact ⟨[], hk, by rw [hr.2]; trivial⟩
  | _ => intro K r vs hk hr; cases hk

/-- What comes behind an operation. -/
def After (μ : Mp) (w : World) (h : Heap) (i : Nat) (a : Act) (dst : Option Nat) (r : TV) (d : Delta) (next : Act → World → Prop) : Prop :=
  ∀ v w' μ', Step μ w μ' w' → VR μ' w' r v → HeapR μ' w' (h.puts d) → (∀ o, μ'.used o → μ.used o ∨ o.1 = i) → next (a.put dst v) w'
variable {a : Act} {o : Oper} {next : Act → World → Prop} {Q : Exit → Act → World → Prop} {i : Nat} {r : TV} {d : Delta}
theorem wp_value {m : Sem Value} (hs : Sound P μ w h i m r d) (he : execOp a.eval o = (do pure (.value (← m)))) (ha : After μ w h i a o.dst r d next) : o.wp P a w next Q := by
  obtain ⟨v, w', μ', h1, h2, h3, h4, h5⟩ := hs
  unfold Oper.wp
  rw [he]
  simp only [Sem.run_bind, h1, Sem.run_pure]
  exact ha v w' μ' h2 h3 h4 h5
theorem wp_gives {m : Sem Value} (hh : HeapR μ w h) (hg : Gives P μ w m r) (he : execOp a.eval o = (do pure (.value (← m)))) (ha : After μ w h i a o.dst r [] next) : o.wp P a w next Q :=
  wp_value (hg.sound hh) he ha
theorem wp_pure {v : Value} (hh : HeapR μ w h) (hv : VR μ w r v) (he : execOp a.eval o = pure (.value v)) (ha : After μ w h i a o.dst r [] next) : o.wp P a w next Q := by
  unfold Oper.wp
  rw [he]
  exact ha v w μ (Step.refl μ w) hv hh (fun o ho => .inl ho)
theorem wp_unit {m : Sem Unit} (hs : SoundU P μ w h m d) (he : execOp a.eval o = (do m; pure .skip)) (ha : After μ w h i a o.dst .hole d next) : o.wp P a w next Q := by
  obtain ⟨w', μ', h1, h2, h3, h4⟩ := hs
  unfold Oper.wp
  rw [he]
  simp only [Sem.run_bind, h1, Sem.run_pure]
  exact ha _ w' μ' h2 VR.hole h3 (fun o ho => .inl (h4 o ho))
end
end Go.PE
end
