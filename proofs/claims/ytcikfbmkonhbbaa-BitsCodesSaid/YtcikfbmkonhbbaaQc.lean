/- An evaluator of pure values over pieces of Go is sound against the machine of the library; no condition. -/
import Derived.Test.YtcikfbmkonhbbaaQb
import Derived.LoopN
import Derived.DataReads
import Derived.ProofKit
import Derived.OpenShut
import Derived.ShutString
import Derived.ChangeOld
import Derived.SizedLaws
import Derived.Carry
section
namespace Go.PE
set_option linter.unusedSimpArgs false
set_option linter.unusedVariables false

/-- From one state to a later one, whatever has become of the numbers of the objects that are not the caller's. -/
structure StepM (m : Nat) (μ : Mp) (w : World) (μ' : Mp) (w' : World) : Prop where
  os : w'.os = w.os
  tape : w'.tape = w.tape
  output : w'.output = w.output
  size : w.heap.size ≤ w'.heap.size
  st : ∀ b, St μ w b → St μ' w' b ∧ w'.heap[b]? = w.heap[b]?
  used : ∀ j, j < m → μ.used (j, 0) → μ'.used (j, 0)
  ent : ∀ j e, j < m → μ.used (j, 0) → μ'.ent (j, 0) = some e → μ.ent (j, 0) = some e
  hid : μ'.hid = μ.hid
  hids : ∀ b, μ.hid b → w'.heap[b]? = w.heap[b]?
section
variable {m : Nat} {μ μ' μ'' : Mp} {w w' w'' : World}
theorem Step.toM (h : Step μ w μ' w') : StepM m μ w μ' w' :=
  ⟨h.os, h.tape, h.output, h.size, h.st, fun j _ => h.used _, fun j e _ => h.ent _ e, h.hid, h.hids⟩
theorem StepM.refl : StepM m μ w μ w := (Step.refl μ w).toM
theorem StepM.trans (h : StepM m μ w μ' w') (k : StepM m μ' w' μ'' w'') : StepM m μ w μ'' w'' :=
  ⟨k.os.trans h.os, k.tape.trans h.tape, k.output.trans h.output, Nat.le_trans h.size k.size,
   fun b hb => ⟨(k.st b (h.st b hb).1).1, ((k.st b (h.st b hb).1).2).trans (h.st b hb).2⟩, fun o hm ho => k.used o hm (h.used o hm ho),
   fun o e hm ho he => h.ent o e hm ho (k.ent o e hm (h.used o hm ho) he), k.hid.trans h.hid, fun b hb => (k.hids b (by rw [h.hid]; exact hb)).trans (h.hids b hb)⟩
end

def Ex.toExit : Ex → Exit
  | .normal => .normal
  | .exit i => .exit i
  | .ret => .ret
section
variable {P : Program} {C : Cx} {G : Nat → Option Blk}
/-- What comes behind a piece of code. -/
def Behind (C : Cx) (f : Nat → Value) (μ : Mp) (w : World) (ex : Ex) (s : S) (Q : Exit → Act → World → Prop) : Prop :=
  ∀ a w' μ', StepM C.own μ w μ' w' → SR C f μ' w' s a (· < s.next) → Q ex.toExit a w'
def CodeSound (P : Program) (C : Cx) (c : Code) (D : S → Option (Ex × S)) : Prop :=
  ∀ s ex s', D s = some (ex, s') → ∀ f μ w a Q, SR C f μ w s a (· < s.next) → Behind C f μ w ex s' Q → c.wp P Q a w
/-- The cuts of a piece of code are good. -/
def CutsOk (P : Program) (C : Cx) (G : Nat → Option Blk) : Code → Ann → Prop
  | c, .cut k => ∀ g, G k = some g → CodeSound P C c g.D
  | .seq a b, A => CutsOk P C G a A.l ∧ CutsOk P C G b A.r
  | .cond _ a b, A => CutsOk P C G a A.l ∧ CutsOk P C G b A.r
  | .block _ c, A => CutsOk P C G c A.l
  | _, _ => True

theorem Step.same {μ : Mp} {w w' : World} (hh : w'.heap = w.heap) (ho : w'.os = w.os) (ht : w'.tape = w.tape) (hu : w'.output = w.output) : Step μ w μ w' :=
  ⟨ho, ht, hu, by rw [hh]; exact Nat.le_refl _, fun b hb => ⟨⟨by rw [hh]; exact hb.1, hb.2⟩, by rw [hh]⟩, fun _ h => h, fun _ _ _ h => h, rfl, fun b _ => by rw [hh]⟩
theorem HeapR.sameH {μ : Mp} {w w' : World} {h : Heap} (hst : Step μ w μ w') (hh : w'.heap = w.heap) (hr : HeapR μ w h) : HeapR μ w' h :=
  ⟨fun o ob ho => by obtain ⟨e, h1, h2⟩ := hr.ob o ob ho; exact ⟨e, h1, h2.mono hst (fun b _ => by rw [hh])⟩, hr.dom, hr.inj, hr.used, hr.nhid, fun b hb => by rw [hh]; exact hr.hlt b hb⟩

variable {f : Nat → Value} {μ : Mp} {w : World} {a : Act} {Q : Exit → Act → World → Prop}
theorem region_ok (hC : CxOk P C) (hm : P.follows .mixedOrders = true) {id : Nat} {ops : Array Oper} {draw : Bool} {s s' : S} (hk : regionD C ops draw s = some s') (hr : SR C f μ w s a (· < s.next))
    (hQ : Behind C f μ w .normal s' Q) : (Code.region id ops draw).wp P Q a w := by
  unfold regionD at hk
  obtain ⟨s1, h1, h2⟩ := Option.map_eq_some_iff.1 hk
  cases draw with
  | false =>
    refine wp_region ?_
    have := ops_ok (Q := Q) hC ops.toList 0 μ w s s1 a rfl h1 hr (fun a' w' μ' hst hr' hn => by
      refine hQ a' w' μ' hst.toM ?_
      rw [← h2]
      refine ⟨hr'.heap, hr'.env, hr'.size, hr'.defers, fun o ho => ?_⟩
      have := hr'.used o ho
      rw [Nat.zero_add] at this
      simpa using this)
    rw [← List.range_eq_range'] at this
    simpa using this
  | true =>
    refine wp_region_any hm ?_
    have hst0 : Step μ w μ { w with drawn := w.drawn + 1 } := Step.same rfl rfl rfl rfl
    refine draw_ok hC h1 ⟨hr.heap.sameH hst0 rfl, hr.env.mono hst0, hr.size, hr.defers, hr.used⟩ (fun a' w' μ' hst hr' hn => ?_)
    refine hQ a' w' μ' (hst0.trans hst).toM ?_
    rw [← h2]
    refine ⟨hr'.heap, hr'.env, hr'.size, hr'.defers, fun o ho => ?_⟩
    have := hr'.used o ho
    show o.1 < s1.next + ops.size
    rw [hn]; exact this

theorem run_ok (hC : CxOk P C) (hm : P.follows .mixedOrders = true) : ∀ (c : Code) (A : Ann), CutsOk P C G c A → CodeSound P C c (runD C G c A) := by
  intro c
  have hcut : ∀ (c : Code) (k : Nat), CutsOk P C G c (.cut k) → (∀ s, runD C G c (.cut k) s = (G k).bind fun g => g.D s) → CodeSound P C c (runD C G c (.cut k)) := by
    intro c k hc he s ex s' hk
    rw [he] at hk
    obtain ⟨g, h1, h2⟩ := Option.bind_eq_some_iff.1 hk
    have : CodeSound P C c g.D := by
      cases c <;> exact hc g h1
    exact this s ex s' h2
  induction c with
  | skip =>
    intro A hA
    have h0 : CodeSound P C .skip (fun s => some (.normal, s)) := by
      intro s ex s' hk f μ w a Q hr hQ
      cases hk
      exact wp_skip (hQ a w μ StepM.refl hr)
    cases A <;> first | exact h0 | exact hcut _ _ hA (fun _ => rfl)
  | ret =>
    intro A hA
    have h0 : CodeSound P C .ret (fun s => some (.ret, s)) := by
      intro s ex s' hk f μ w a Q hr hQ
      cases hk
      exact wp_ret (hQ a w μ StepM.refl hr)
    cases A <;> first | exact h0 | exact hcut _ _ hA (fun _ => rfl)
  | exit id =>
    intro A hA
    have h0 : CodeSound P C (.exit id) (fun s => some (.exit id, s)) := by
      intro s ex s' hk f μ w a Q hr hQ
      cases hk
      exact wp_exit (hQ a w μ StepM.refl hr)
    cases A <;> first | exact h0 | exact hcut _ _ hA (fun _ => rfl)
  | region id ops draw =>
    intro A hA
    have h0 : CodeSound P C (.region id ops draw) (fun s => (regionD C ops draw s).map fun s => (.normal, s)) := by
      intro s ex s' hk f μ w a Q hr hQ
      obtain ⟨s1, h1, h2⟩ := Option.map_eq_some_iff.1 hk
      cases h2
      exact region_ok hC hm h1 hr hQ
    cases A <;> first | exact h0 | exact hcut _ _ hA (fun _ => rfl)
  | seq x y ihx ihy =>
    intro A hA
    have h0 : CutsOk P C G x A.l → CutsOk P C G y A.r → CodeSound P C (.seq x y) (fun s => (runD C G x A.l s).bind fun p => match p.1 with
        | .normal => runD C G y A.r p.2
        | e => some (e, p.2)) := by
      intro hx hy s ex s' hk f μ w a Q hr hQ
      obtain ⟨⟨e, s1⟩, h1, h2⟩ := Option.bind_eq_some_iff.1 hk
      refine wp_seq (ihx A.l hx s e s1 h1 f μ w a _ hr ?_)
      intro a1 w1 μ1 hst hr1
      cases e with
      | normal =>
        exact ihy A.r hy s1 ex s' h2 f μ1 w1 a1 Q hr1 (fun a2 w2 μ2 hst2 hr2 => hQ a2 w2 μ2 (hst.trans hst2) hr2)
      | exit j => cases h2; exact hQ a1 w1 μ1 hst hr1
      | ret => cases h2; exact hQ a1 w1 μ1 hst hr1
    cases A <;> first | exact h0 hA.1 hA.2 | exact hcut _ _ hA (fun _ => rfl)
  | cond c x y ihx ihy =>
    have h0 : ∀ A : Ann, CutsOk P C G x A.l → CutsOk P C G y A.r → CodeSound P C (.cond c x y) (fun s => match c with
        | .tmp t => match s.env t with
          | .pv .bool c => bif c then runD C G x A.l s else runD C G y A.r s
          | _ => none
        | _ => none) := by
      intro A hx hy s ex s' hk f μ w a Q hr hQ
      cases c with
      | tmp t =>
        simp only [] at hk
        split at hk
        · rename_i b hb
          have hv := hr.env t
          rw [hb] at hv
          have hv : a.eval (.tmp t) = .bool b := hv.bool
          refine wp_cond hv ?_
          cases b with
          | true => exact ihx A.l hx s ex s' hk f μ w a Q hr hQ
          | false => exact ihy A.r hy s ex s' hk f μ w a Q hr hQ
        · cases hk
      | _ => cases hk
    intro A hA
    cases A <;> first | exact h0 _ hA.1 hA.2 | exact hcut _ _ hA (fun _ => rfl)
  | block id x ih =>
    intro A hA
    have h0 : CutsOk P C G x A.l → CodeSound P C (.block id x) (fun s => (runD C G x A.l s).bind fun p => match p.1 with
        | .exit j => some (bif Nat.beq j id then .normal else .exit j, p.2)
        | e => some (e, p.2)) := by
      intro hx s ex s' hk f μ w a Q hr hQ
      obtain ⟨⟨e, s1⟩, h1, h2⟩ := Option.bind_eq_some_iff.1 hk
      refine wp_block (ih A.l hx s e s1 h1 f μ w a _ hr ?_)
      intro a1 w1 μ1 hst hr1
      cases e with
      | normal => cases h2; exact hQ a1 w1 μ1 hst hr1
      | ret => cases h2; exact hQ a1 w1 μ1 hst hr1
      | exit j =>
        cases h2
        show Exit.inBlock id Q (.exit j) a1 w1
        have := hQ a1 w1 μ1 hst hr1
        cases hb : Nat.beq j id with
        | true => rw [hb] at this; simp only [Exit.inBlock, natBeq_eq hb, if_true]; exact this
        | false => rw [hb] at this; simp only [Exit.inBlock, natBeq_ne hb, if_false]; exact this
    cases A <;> first | exact h0 hA | exact hcut _ _ hA (fun _ => rfl)
  | loop x ih =>
    intro A hA
    cases A with
    | cut k => exact hcut _ k hA (fun _ => rfl)
    | leaf => intro s ex s' hk; cases hk
    | one => intro s ex s' hk; cases hk
    | two => intro s ex s' hk; cases hk
  | _ =>
    intro A hA s ex s' hk
    cases A <;> cases hk
end
end Go.PE
end

section
namespace Go.PE
set_option linter.unusedSimpArgs false
set_option linter.unusedVariables false
section
variable {P : Program} {C : Cx} {G : Nat → Option Blk} {f : Nat → Value} {μ : Mp} {w : World} {a : Act} {Q : Exit → Act → World → Prop}

theorem preBind_low : ∀ {os : List OT} {j n : Nat} {b : Bind} {k : Nat}, k < j → (preBind os j n b).src k = b.src k := by
  intro os
  induction os with
  | nil => intro j n b k _; cases n <;> rfl
  | cons T l ih =>
    intro j n b k hk
    cases n with
    | zero => cases T <;> rfl
    | succ n =>
      have hset : (b.set j (.obj (j, 0))).src k = b.src k := Bind.set_ne (by omega)
      cases T with
      | dead => exact ih (by omega)
      | box t c => exact (ih (by omega)).trans hset
      | vec t => exact (ih (by omega)).trans hset
theorem preBind_src : ∀ {os : List OT} {j n : Nat} {b : Bind} {i : Nat} {T : OT}, i < n → os[i]? = some T → T.live = true → (preBind os j n b).src (j + i) = .obj (j + i, 0) := by
  intro os
  induction os with
  | nil => intro j n b i T _ h; simp at h
  | cons T0 l ih =>
    intro j n b i T hi hT hl
    cases n with
    | zero => omega
    | succ n =>
      cases i with
      | zero =>
        simp at hT; subst hT
        cases T0 with
        | dead => cases hl
        | box t c => show (preBind l (j + 1) n (b.set j (.obj (j, 0)))).src (j + 0) = _; rw [preBind_low (by omega)]; exact Bind.set_at
        | vec t => show (preBind l (j + 1) n (b.set j (.obj (j, 0)))).src (j + 0) = _; rw [preBind_low (by omega)]; exact Bind.set_at
      | succ i =>
        have hT' : l[i]? = some T := by simpa using hT
        rw [show j + (i + 1) = j + 1 + i by omega]
        cases T0 with
        | dead => exact ih (by omega) hT' hl
        | box t c => exact ih (by omega) hT' hl
        | vec t => exact ih (by omega) hT' hl

/-- What is one's own is taken over under new numbers. -/
theorem retake {α : Type} {m : Nat} {h : Heap} (hh : HeapR μ w h) {ts : List TT} {os : List OT} {vs : List TV} {K : TT.dens ts × OT.dens os → Bind → Option α} {r : α}
    (hk : coerceK h ts os vs (preBind os 0 m .empty) K = some r) (hm : m ≤ os.length) {us : List Value} (hus : VRs μ w vs us) :
    ∃ v b μ', K v b = some r ∧ StepM m μ w μ' w ∧ HeapR μ' w (Heap.puts (fun _ => none) (OT.fills ids0 os v.2 0)) ∧ VRs μ' w (TT.fills ids0 ts v.1) us ∧ ∀ o, μ'.used o → o.1 < os.length := by
  obtain ⟨v, b, hk, hle, hok, htake⟩ := coerce_ok hh (fun _ _ h => h) hk
  have hX : Takes μ w b os μ.hid := ⟨hh.hlt, fun k hk => .inl hk, fun j T o _ _ _ e k he hb hk => hh.nhid o e k he hb hk⟩
  obtain ⟨hpc, hhr, hv⟩ := htake μ.hid hX
  refine ⟨v, b, _, hk, ⟨rfl, rfl, rfl, Nat.le_refl _, fun k hk => ⟨hpc.st k (.inl hk), rfl⟩, fun j hj _ => ⟨rfl, by show j < os.length; omega⟩, fun j e hj _ he => ?_, rfl, fun _ _ => rfl⟩, hhr, hv us hus, fun o ho => ho.2⟩
  obtain ⟨T, h1, h2, _, h4⟩ := mpOf_ent he
  have hsrc := preBind_src (os := os) (j := 0) (n := m) (b := .empty) hj h1 h2
  rw [Nat.zero_add] at hsrc
  have : b.src j = .obj (j, 0) := by rw [hle.src j (by rw [hsrc]; simp), hsrc]
  simp only [this, entS] at h4
  exact h4
theorem envOf_ok {tmps : Array Value} : ∀ {l : List (Nat × TT)} {x : TT.dens (l.map (·.2))}, VRs μ w (TT.fills ids0 (l.map (·.2)) x) (l.map fun p => tmps.getD p.1 Go.undef) → EnvR μ w (envOf l x) tmps := by
  intro l
  induction l with
  | nil => intro x _ t; exact VR.undef
  | cons p l ih =>
    intro x h t
    obtain ⟨k, T⟩ := p
    show VR μ w (bif Nat.beq t k then T.fill ids0 x.1 else envOf l x.2 t) _
    cases hb : Nat.beq t k with
    | true => rw [natBeq_eq hb]; exact h.1
    | false => exact ih h.2 t
theorem env_vals {s : S} (he : EnvR μ w s.env a.tmps) : ∀ (l : List (Nat × TT)), VRs μ w (l.map fun p => s.env p.1) (l.map fun p => a.tmps.getD p.1 Go.undef) := by
  intro l
  induction l with
  | nil => trivial
  | cons p l ih => exact ⟨he p.1, ih⟩
theorem rematch_ok {α : Type} {T : Tm} {s : S} {K : T.den → Option α} {r : α} (hr : SR C f μ w s a (· < s.next)) (hk : T.matchK C.own s K = some r) :
    ∃ v μ', K v = some r ∧ StepM C.own μ w μ' w ∧ SR C f μ' w (T.fill v) a (· < (T.fill v).next) := by
  unfold Tm.matchK at hk
  replace hk := bif_some hk; obtain ⟨hm, hk⟩ := hk
  obtain ⟨v, b, μ', h1, h2, h3, h4, h5⟩ := retake hr.heap hk (Nat.le_of_ble_eq_true hm) (env_vals hr.env T.env)
  exact ⟨v, μ', h1, h2, ⟨h3, envOf_ok h4, hr.size, hr.defers, h5⟩⟩
theorem exBeq_eq {x e : Ex} (h : exBeq x e = true) : x = e := by
  cases x <;> cases e <;> first | rfl | (cases h; done) | (rw [natBeq_eq h])
theorem outs_ok {α : Type} : ∀ {U : Outs} {x : Ex} {s : S} {K : U.V → Option α} {r : α}, SR C f μ w s a (· < s.next) → U.matchK C.own x s K = some r →
    ∃ o s' μ', K o = some r ∧ (∀ (β : Type) (K' : Ex → S → Option β), U.fillK o K' = K' x s') ∧ StepM C.own μ w μ' w ∧ SR C f μ' w s' a (· < s'.next) := by
  intro U
  induction U with
  | one e T =>
    intro x s K r hr hk
    simp only [Outs.matchK] at hk
    replace hk := bif_some hk; obtain ⟨he, hk⟩ := hk
    obtain ⟨v, μ', h1, h2, h3⟩ := rematch_ok hr hk
    exact ⟨v, _, μ', h1, fun _ K' => by rw [exBeq_eq he]; rfl, h2, h3⟩
  | more e T l ih =>
    intro x s K r hr hk
    simp only [Outs.matchK] at hk
    cases he : exBeq x e with
    | true =>
      rw [he, cond_true] at hk
      obtain ⟨v, μ', h1, h2, h3⟩ := rematch_ok hr hk
      exact ⟨.inl v, _, μ', h1, fun _ K' => by rw [exBeq_eq he]; rfl, h2, h3⟩
    | false =>
      rw [he, cond_false] at hk
      obtain ⟨o, s', μ', h1, h2, h3, h4⟩ := ih hr hk
      exact ⟨.inr o, s', μ', h1, fun β K' => h2 β K', h3, h4⟩
theorem Behind.from {μ' : Mp} {w' : World} {ex : Ex} {s : S} (hst : StepM C.own μ w μ' w') (h : Behind C f μ w ex s Q) : Behind C f μ' w' ex s Q :=
  fun a2 w2 μ2 h2 hr2 => h a2 w2 μ2 (hst.trans h2) hr2

theorem loopV_iter {σ ω : Type} {step : σ → Option (σ ⊕ ω)} {v : σ} {o : ω} (h : loopV step v = some o) : ∃ n, iter step n v = some o := by
  unfold loopV at h
  split at h
  · rename_i hex
    cases h
    exact ⟨_, hex.choose_spec.choose_spec⟩
  · cases h
theorem consts_ok {α : Type} {env : Env} {tmps : Array Value} (he : EnvR μ w env tmps) : ∀ {l : List (Nat × Ty)} {K : KT.den l → Option α} {r : α}, constsK env l K = some r →
    ∃ k, K k = some r ∧ EnvR μ w (envK l k) tmps := by
  intro l
  induction l with
  | nil => intro K r hk; exact ⟨(), hk, fun t => VR.undef⟩
  | cons p l ih =>
    intro K r hk
    obtain ⟨t, T⟩ := p
    simp only [constsK] at hk
    unfold pvK at hk
    split at hk
    · rename_i t' x hx
      replace hk := castK_eq hk; obtain ⟨hb, hk⟩ := hk
      obtain ⟨k, h1, h2⟩ := ih hk
      refine ⟨(_, k), h1, fun u => ?_⟩
      show VR μ w (bif Nat.beq u t then _ else envK l k u) _
      cases hu : Nat.beq u t with
      | false => exact h2 u
      | true =>
        have hv := he t
        rw [hx] at hv
        rw [natBeq_eq hu]
        obtain rfl := Ty.eq_of_beq hb
        exact hv
    · cases hk
theorem orTV_ok {x y : TV} {v : Value} (hx : VR μ w x v) (hy : VR μ w y v) : VR μ w (orTV x y) v := by
  cases x <;> first | exact hy | exact hx
theorem R.keep {m : Nat} {μ' : Mp} {w' : World} (h : StepM m μ w μ' w') : ∀ {x : TV} {b : Bool} {cs : List Value}, tvIds x = [] → R μ w x b cs → R μ' w' x b cs := by
  intro x
  induction x with
  | pv t x => intro b cs _ hr; cases b with
    | false => exact Rep.mono h.st hr
    | true => exact hr
  | ptr o p => intro b cs hi; cases hi
  | own o => intro b cs hi; cases hi
  | hdr o p off len => intro b cs hi; cases hi
  | cptr t x =>
    intro b cs _ hr
    obtain ⟨bl, off, c, h1, h2, h3, h4⟩ := hr
    exact ⟨bl, off, c, h1, (h.st bl h2).1, h3.mono (h.st bl h2).2, Rep.mono h.st h4⟩
  | ncons a as ih ih' =>
    intro b cs hi hr
    simp only [tvIds, List.append_eq_nil_iff] at hi
    cases b with
    | false => obtain ⟨c, c', h1, h2, h3⟩ := hr; exact ⟨c, c', h1, ih hi.1 h2, ih' hi.2 h3⟩
    | true =>
      obtain ⟨v, vs, h1, h2, h3⟩ := hr
      refine ⟨v, vs, h1, ?_, ih' hi.2 h3⟩
      rcases h2 with ⟨h4, cs, h5, h6⟩ | ⟨h4, h5⟩
      · exact .inl ⟨h4, cs, h5, ih hi.1 h6⟩
      · exact .inr ⟨h4, ih hi.1 h5⟩
  | fn f c ih => intro b cs hi hr; obtain ⟨vs, h1, h2⟩ := hr; exact ⟨vs, h1, ih hi h2⟩
  | tup l ih => intro b cs hi hr; obtain ⟨vs, h1, h2⟩ := hr; exact ⟨vs, h1, ih hi h2⟩
  | _ => intro b cs _ hr; exact hr
theorem VR.keep {m : Nat} {μ' : Mp} {w' : World} (h : StepM m μ w μ' w') {x : TV} {v : Value} (hi : noIds x = true) (hr : VR μ w x v) : VR μ' w' x v := by
  have hi' : tvIds x = [] := by
    unfold noIds at hi
    split at hi
    · assumption
    · cases hi
  rcases hr with ⟨h1, cs, h2, h3⟩ | ⟨h1, h2⟩
  · exact .inl ⟨h1, cs, h2, h3.keep h hi'⟩
  · exact .inr ⟨h1, h2.keep h hi'⟩
theorem natMem_append {n : Nat} : ∀ {l l' : List Nat}, natMem n (l ++ l') = (natMem n l || natMem n l') := by
  intro l
  induction l with
  | nil => intro l'; rfl
  | cons a l ih => intro l'; simp only [List.cons_append, natMem, ih, Bool.or_assoc]
theorem CxOk.fr (hC : CxOk P C) (l : List Nat) : CxOk P (C.fr l) := ⟨hC.ty, hC.fns⟩
theorem envK_in {l : List Nat} : ∀ {T0 : List (Nat × Ty)} {k : KT.den T0} {t : Nat}, constsIn l T0 = true → envK T0 k t ≠ .undef → natMem t l = true ∧ noIds (envK T0 k t) = true := by
  intro T0
  induction T0 with
  | nil => intro k t _ h; exact (h rfl).elim
  | cons p T0 ih =>
    intro k t hl h
    obtain ⟨t', T⟩ := p
    simp only [constsIn, Bool.and_eq_true] at hl
    show natMem t l = true ∧ noIds (bif Nat.beq t t' then _ else envK T0 k.2 t) = true
    change (bif Nat.beq t t' then _ else envK T0 k.2 t) ≠ _ at h
    cases hb : Nat.beq t t' with
    | true => exact ⟨by rw [natBeq_eq hb]; exact hl.1, rfl⟩
    | false => rw [hb] at h; exact ih hl.2 h
/-- The state of a cut with its constants: they are there as long as the frame is. -/
theorem with_ok {l : List Nat} {T0 : List (Nat × Ty)} {k : KT.den T0} {μ0 : Mp} {w0 : World} {m : Nat} {s : S} {u : Nat → Prop} (hl : constsIn l T0 = true)
    (h0 : ∀ t, VR μ0 w0 (envK T0 k t) (f t)) (hst : StepM m μ0 w0 μ w) (hr : SR (C.fr l) f μ w s a u) : SR (C.fr l) f μ w (withK T0 k s) a u := by
  refine ⟨hr.heap, fun t => ?_, hr.size, hr.defers, hr.used⟩
  refine orTV_ok (hr.env t) ?_
  by_cases hn : envK T0 k t = .undef
  · rw [hn]; exact VR.undef
  · obtain ⟨h1, h2⟩ := envK_in hl hn
    rw [hr.defers.2 t (by show natMem t (l ++ C.fro) = true; rw [natMem_append, h1]; rfl)]
    exact (h0 t).keep hst h2
/-- A frame about a cut. -/
theorem frame_ok {l : List Nat} {s s' : S} {a' : Act} {μ' : Mp} {w' : World} {u u' : Nat → Prop} (hr : SR C f μ w s a u) (hst : StepM C.own μ w μ' w')
    (hr' : SR (C.fr l) (fun t => a.tmps.getD t Go.undef) μ' w' s' a' u') : SR C f μ' w' (frameS l s s') a' u' := by
  refine ⟨hr'.heap, fun t => ?_, hr'.size, ⟨hr'.defers.1, fun t ht => ?_⟩, hr'.used⟩
  · refine orTV_ok (hr'.env t) ?_
    cases hb : natMem t l && noIds (s.env t) with
    | false => exact VR.undef
    | true =>
      rw [Bool.and_eq_true] at hb
      rw [hr'.defers.2 t (by show natMem t (l ++ C.fro) = true; rw [natMem_append, hb.1]; rfl)]
      exact (hr.env t).keep hst hb.2
  · rw [hr'.defers.2 t (by show natMem t (l ++ C.fro) = true; rw [natMem_append, ht, Bool.or_true])]
    exact hr.defers.2 t ht

theorem loop_sound (hC : CxOk P C) (hm : P.follows .mixedOrders = true) {b : Code} {A : Ann} {l : List Nat} {T0 : List (Nat × Ty)} {T : Tm} {U : Outs} {step : KT.den T0 → T.den → Option (T.den ⊕ U.V)}
    (hl : constsIn l T0 = true) (hcuts : CutsOk P (C.fr l) G b A)
    (hstep : ∀ k v, step k v = bodyK (C.fr l) G b A T U (withK T0 k (T.fill v)) (fun v => some (.inl v)) (fun o => some (.inr o))) :
    CodeSound P C (.loop b) (frBlk C.own l T0 T U fun k => loopV (step k)).D := by
  intro s ex s' hk f μ w a Q hr hQ
  change (constsK s.env T0 fun k => T.matchK C.own s fun v => (loopV (step k) v).bind fun o => U.fillK o fun e s' => some (e, frameS l s s')) = some (ex, s') at hk
  obtain ⟨k, hk, hkv⟩ := consts_ok hr.env hk
  have hr' : SR (C.fr l) (fun t => a.tmps.getD t Go.undef) μ w s a (· < s.next) := ⟨hr.heap, hr.env, hr.size, ⟨hr.defers.1, fun _ _ => rfl⟩, hr.used⟩
  obtain ⟨v, μ1, hk, hst, hr1⟩ := rematch_ok (C := C.fr l) hr' hk
  obtain ⟨o, h1, h2⟩ := Option.bind_eq_some_iff.1 hk
  obtain ⟨n, hn⟩ := loopV_iter h1
  have rounds : ∀ (n : Nat) (v : T.den) (μ' : Mp) (w' : World) (a' : Act), iter (step k) n v = some o → StepM C.own μ w μ' w' →
      SR (C.fr l) (fun t => a.tmps.getD t Go.undef) μ' w' (T.fill v) a' (· < (T.fill v).next) → Code.rounds P b Q n a' w' := by
    intro n
    induction n with
    | zero => intro v μ' w' a' hn; cases hn
    | succ n ih =>
      intro v μ' w' a' hn hst hr2
      simp only [iter] at hn
      obtain ⟨x, g1, g2⟩ := Option.bind_eq_some_iff.1 hn
      rw [hstep] at g1
      unfold bodyK at g1
      rw [runK_eq] at g1
      obtain ⟨⟨e, s1⟩, g3, g4⟩ := Option.bind_eq_some_iff.1 g1
      rw [rounds_succ]
      refine run_ok (hC.fr l) hm b A hcuts _ e s1 g3 _ μ' w' a' _ (with_ok hl hkv hst hr2) ?_
      intro a1 w1 μ1 hst1 hr1
      have other : U.matchK C.own e s1 (fun o => some (.inr o)) = some x → Q e.toExit a1 w1 := by
        intro g4
        obtain ⟨o', s2, μ2, q1, q2, q3, q4⟩ := outs_ok (C := C.fr l) hr1 g4
        cases q1
        cases g2
        rw [q2] at h2
        cases h2
        exact hQ a1 w1 μ2 ((hst.trans hst1).trans q3) (frame_ok hr ((hst.trans hst1).trans q3) q4)
      cases e with
      | normal =>
        obtain ⟨v', μ2, q1, q2, q3⟩ := rematch_ok (C := C.fr l) hr1 g4
        cases q1
        exact ih v' μ2 w1 a1 g2 ((hst.trans hst1).trans q2) q3
      | exit j => exact other g4
      | ret => exact other g4
  exact wp_loop_rounds n (rounds n v μ1 w a hn hst hr1)
theorem join_sound (hC : CxOk P C) (hm : P.follows .mixedOrders = true) {c : Code} {A : Ann} {l : List Nat} {T0 : List (Nat × Ty)} {T : Tm} {U : Outs} {F : KT.den T0 → T.den → Option U.V}
    (hl : constsIn l T0 = true) (hcuts : CutsOk P (C.fr l) G c A)
    (hF : ∀ k v, F k v = joinK (C.fr l) G c A U (withK T0 k (T.fill v)) some) : CodeSound P C c (frBlk C.own l T0 T U F).D := by
  intro s ex s' hk f μ w a Q hr hQ
  change (constsK s.env T0 fun k => T.matchK C.own s fun v => (F k v).bind fun o => U.fillK o fun e s' => some (e, frameS l s s')) = some (ex, s') at hk
  obtain ⟨k, hk, hkv⟩ := consts_ok hr.env hk
  have hr' : SR (C.fr l) (fun t => a.tmps.getD t Go.undef) μ w s a (· < s.next) := ⟨hr.heap, hr.env, hr.size, ⟨hr.defers.1, fun _ _ => rfl⟩, hr.used⟩
  obtain ⟨v, μ1, hk, hst, hr1⟩ := rematch_ok (C := C.fr l) hr' hk
  obtain ⟨o, h1, h2⟩ := Option.bind_eq_some_iff.1 hk
  rw [hF] at h1
  unfold joinK at h1
  rw [runK_eq] at h1
  obtain ⟨⟨e, s1⟩, g3, g4⟩ := Option.bind_eq_some_iff.1 h1
  refine run_ok (hC.fr l) hm c A hcuts _ e s1 g3 _ μ1 w a Q (with_ok hl hkv hst hr1) ?_
  intro a1 w1 μ2 hst2 hr2
  obtain ⟨o', s2, μ3, q1, q2, q3, q4⟩ := outs_ok (C := C.fr l) hr2 g4
  cases q1
  rw [q2] at h2
  cases h2
  exact hQ a1 w1 μ3 ((hst.trans hst2).trans q3) (frame_ok hr ((hst.trans hst2).trans q3) q4)

/-! ### functions -/
theorem nth_ok : ∀ {l : List TV} {us : List Value}, VRs μ w l us → ∀ (k : Nat) (t : Nat), VR μ w (nthTV l t) ((us ++ List.replicate k Go.undef).toArray.getD t Go.undef) := by
  intro l
  induction l with
  | nil => intro us _ k t; exact VR.undef
  | cons v l ih =>
    intro us h k t
    cases us with
    | nil => exact h.elim
    | cons u us =>
      cases t with
      | zero => exact h.1
      | succ t =>
        have := ih h.2 k t
        show VR μ w (nthTV l t) _
        simpa [Array.getD_eq_getD_getElem?] using this
theorem VRs.length : ∀ {l : List TV} {us : List Value}, VRs μ w l us → us.length = l.length := by
  intro l
  induction l with
  | nil => intro us h; cases us with
    | nil => rfl
    | cons => exact h.elim
  | cons v l ih => intro us h; cases us with
    | nil => exact h.elim
    | cons u us => simp [ih h.2]
theorem fills_length {ids : Nat → Oid} : ∀ {ts : List TT} {x : TT.dens ts}, (TT.fills ids ts x).length = ts.length := by
  intro ts
  induction ts with
  | nil => intro x; rfl
  | cons T ts ih => intro x; simp [TT.fills, ih]
def resF (tmps : Array Value) : ResultVar → Sem Value
  | .tmp t => pure (tmps.getD t Go.undef)
  | .cell a t => do loadVar t (← asAddr (tmps.getD a Go.undef))
theorem res_ok {α : Type} (hC : CxOk P C) {s : S} (hh : HeapR μ w s.heap) (he : EnvR μ w s.env a.tmps) : ∀ {l : List ResultVar} {K : List TV → Option α} {r : α}, resK C s l K = some r →
    ∃ vs us, K vs = some r ∧ (l.mapM (resF a.tmps)).run P w = .ok us w ∧ VRs μ w vs us := by
  intro l
  induction l with
  | nil => intro K r hk; exact ⟨[], [], hk, by simp, trivial⟩
  | cons x l ih =>
    intro K r hk
    cases x with
    | tmp t =>
      obtain ⟨vs, us, h1, h2, h3⟩ := ih hk
      exact ⟨_, _ :: us, h1, by rw [List.mapM_cons, Sem.run_bind]; simp only [resF, Sem.run_pure, Result.andThen, Sem.run_bind, h2], he t, h3⟩
    | cell c t =>
      simp only [resK] at hk
      split at hk
      · rename_i T hT
        have hload := loadK_bind (h := s.heap) (T := T) (x := s.env c) (M := some) (K := fun v => resK C s l fun vs => K (v :: vs))
        obtain ⟨v, g1, g2⟩ := Option.bind_eq_some_iff.1 (hload.trans hk)
        obtain ⟨⟨u, e1, hv⟩, _⟩ := load_ok (P := P) hh (fun _ _ h => h) (hC.ty.fit _ _ hT) g1 (he c)
        obtain ⟨vs, us, h1, h2, h3⟩ := ih g2
        refine ⟨v :: vs, u :: us, h1, ?_, hv, h3⟩
        have hptr : ∃ ad, a.tmps.getD c Go.undef = .pointer (some ad) := by
          have hx := he c
          unfold loadK at g1
          split at g1
          · rename_i hq; rw [hq] at hx
            obtain ⟨b, off, cc, f1, _⟩ := hx.scal rfl
            simp only [List.cons.injEq, and_true] at f1
            exact ⟨_, f1⟩
          · rename_i hq; rw [hq] at hx
            obtain ⟨ad, f1, _⟩ := hx.scal rfl
            simp only [List.cons.injEq, and_true] at f1
            exact ⟨_, f1⟩
          · cases g1
        obtain ⟨ad, had⟩ := hptr
        rw [had] at e1
        simp [Instr.loadAt, Instr.sureAddr] at e1
        rw [List.mapM_cons, Sem.run_bind]
        simp only [resF, had, asAddr, pure_bind, e1, Sem.run_pure, Result.andThen, Sem.run_bind, h2]
      · cases hk

theorem fn_sound (hC : CxOk P C) (hm : P.follows .mixedOrders = true) {k : Nat} {fn : Func} {c : Code} {A : Ann} {g : Sig} (hf : P.funcs[k]? = some fn) (hb : fn.body = some c)
    (hsz : C.size = fn.ntmps) (hin : Nat.ble g.ins.length fn.ntmps = true) (hown : C.own = g.inObs.length) (hle : Nat.ble g.inObs.length g.outObs.length = true) (hcuts : CutsOk P C G c A)
    (hg : ∀ v, g.FK v some = fnK C G A c fn.results.toList g v some) : FnSound P k g := by
  refine ⟨Nat.le_of_ble_eq_true hle, fun v r hv μ w us hh hu hus => ?_⟩
  rw [hg] at hv
  unfold fnK at hv
  rw [runK_eq] at hv
  obtain ⟨⟨e, s1⟩, h1, h2⟩ := Option.bind_eq_some_iff.1 hv
  have hlen : us.length = g.ins.length := by rw [hus.length, fills_length]
  have hin' := Nat.le_of_ble_eq_true hin
  refine calls_of_wp hf hb ?_
  have htm : (us.toArray ++ Array.replicate (fn.ntmps - us.toArray.size) Go.undef) = (us ++ List.replicate (fn.ntmps - us.length) Go.undef).toArray := by
    apply Array.toList_inj.1; simp
  rw [htm]
  let tm := (us ++ List.replicate (fn.ntmps - us.length) Go.undef).toArray
  have hr : SR C (fun t => tm.getD t Go.undef) μ w (startS v) ⟨(us ++ List.replicate (fn.ntmps - us.length) Go.undef).toArray, []⟩ (· < (startS (ts := g.ins) (os := g.inObs) v).next) := by
    refine ⟨hh, fun t => nth_ok hus _ t, ?_, ⟨rfl, fun t _ => rfl⟩, fun o ho => (hu o ho).2⟩
    rw [hsz]; simp; omega
  refine run_ok hC hm c A hcuts _ e s1 h1 _ μ w _ _ hr ?_
  intro a1 w1 μ1 hst hr1
  have fin : finK C g fn.results.toList s1 some = some r → a1.defers = [] ∧ ∃ u, (results fn a1.tmps).run P w1 = .ok u w1 ∧
      ∃ u' μ', Ending.returned u = .returned u' ∧ Step μ w μ' w1 ∧ Out μ' w1 (TT.fills ids0 g.outs r.1) u' ∧ HeapR μ' w1 (Heap.puts (fun _ => none) (OT.fills ids0 g.outObs r.2 0)) := by
    intro hfin
    refine ⟨hr1.defers.1, ?_⟩
    unfold finK at hfin
    obtain ⟨vs, us', g1, g2, g3⟩ := res_ok hC hr1.heap hr1.env hfin
    obtain ⟨r', b, μ', q1, q2, q3, q4, q5⟩ := retake hr1.heap g1 (Nat.le_of_ble_eq_true hle) g3
    cases q1
    rw [hown] at hst
    have hst' := hst.trans q2
    have hs : Step μ w μ' w1 := by
      have hz : ∀ o, μ.used o → o = (o.1, 0) := fun o ho => Prod.ext rfl (hu o ho).1
      refine ⟨hst'.os, hst'.tape, hst'.output, hst'.size, hst'.st, fun o ho => ?_, fun o e ho he => ?_, hst'.hid, hst'.hids⟩
      · have := hst'.used o.1 (hu o ho).2 (by rw [← hz o ho]; exact ho)
        rw [← hz o ho] at this; exact this
      · have := hst'.ent o.1 e (hu o ho).2 (by rw [← hz o ho]; exact ho) (by rw [← hz o ho]; exact he)
        rw [← hz o ho] at this; exact this
    have hrun : (results fn a1.tmps).run P w1 = .ok (if h : us'.toArray.size = 1 then us'.toArray[0] else .tuple us'.toArray) w1 := by
      have e : results fn a1.tmps = (do let vs ← fn.results.mapM (resF a1.tmps); pure (if h : vs.size = 1 then vs[0] else .tuple vs)) := rfl
      rw [e, Array.mapM_eq_mapM_toList]
      simp only [Sem.run_bind, Sem.run_map, g2, Result.andThen, Sem.run_pure]
    refine ⟨_, hrun, _, μ', rfl, hs, ?_, q3⟩
    have hl := q4.length
    unfold Out
    split
    · rename_i x hx
      rw [hx] at hl q4
      match us', hl, q4 with
      | [u], _, q4 => exact q4.1
    · rename_i hn
      refine ⟨us'.toArray, ?_, q4⟩
      rw [dif_neg]
      intro h1
      have : (TT.fills ids0 g.outs r.1).length = 1 := by rw [← hl]; simpa using h1
      obtain ⟨x, hx⟩ := List.length_eq_one_iff.1 this
      exact hn x hx
  cases e with
  | normal => exact fin h2
  | ret => exact fin h2
  | exit j => cases h2
end
end Go.PE
end

section
namespace Go.PE
set_option linter.unusedSimpArgs false
set_option linter.unusedVariables false
section
variable {P : Program} {H : Type} {enc : TypeId × Value → H} {w : World} {spare : Nat → Bool} {held : Bool}

theorem add_none {a : Addr} (h : a.spot = none) (n : Nat) : a.add n = ⟨a.block, a.off + n, none⟩ := by
  obtain ⟨b, o, s⟩ := a
  simp only at h; subst h
  unfold Addr.add
  split
  · rename_i h; subst h; rfl
  · rfl
theorem cell_spot {a : Addr} {v : Value} (h : w.cell? a = some v) : a.spot = none ∧ a.block < w.heap.size := by
  unfold World.cell? at h
  split at h
  · rename_i c e f hb
    split at h
    · cases h
    · rename_i hs
      refine ⟨by simpa using hs, (Array.getElem?_eq_some_iff.1 hb).1⟩
  · cases h
theorem cells_at {a : Addr} {n : Nat} {c : List Value} (h : w.cells? 0 a n = some c) (hn : 0 < n) : a.spot = none ∧ a.block < w.heap.size ∧ c.length = n ∧ CellsAt w a.block a.off c := by
  unfold World.cells? at h
  rw [if_pos (Nat.zero_le _)] at h
  have hl : c.length = n := by simpa using mapM_some_length h
  have hg : ∀ i, i < n → w.cell? (a.add i) = c[i]? := fun i hi => mapM_some_get h i i (by simp [hi])
  have h0 : w.cell? a = some c[0] := by
    have := hg 0 hn
    rw [List.getElem?_eq_getElem (by omega)] at this
    exact this
  obtain ⟨hs, hb⟩ := cell_spot h0
  refine ⟨hs, hb, hl, fun j v hj => ?_⟩
  have hj' : j < n := by rw [← hl]; exact (List.getElem?_eq_some_iff.1 hj).1
  have := hg j hj'
  rw [add_none hs] at this
  rw [this]; exact hj
theorem choose_list {α : Type} {Pr : Nat → α → Prop} : ∀ {n : Nat}, (∀ i, i < n → ∃ x, Pr i x) → ∃ xs : List α, xs.length = n ∧ ∀ i x, xs[i]? = some x → Pr i x := by
  intro n
  induction n with
  | zero => intro _; exact ⟨[], rfl, fun i x h => by simp at h⟩
  | succ n ih =>
    intro h
    obtain ⟨xs, h1, h2⟩ := ih (fun i hi => h i (by omega))
    obtain ⟨y, hy⟩ := h n (by omega)
    refine ⟨xs ++ [y], by simp [h1], fun i x hx => ?_⟩
    by_cases hi : i < n
    · rw [List.getElem?_append_left (by omega)] at hx; exact h2 i x hx
    · rw [List.getElem?_append_right (by omega)] at hx
      have : i = n := by
        have := (List.getElem?_eq_some_iff.1 hx).1
        simp at this; omega
      subst this
      rw [h1] at hx; simp at hx; subst hx; exact hy
theorem cellsOf_fit {T : Ty} {t : TypeId} (h : fitTy P T (.id t) = true) : P.cellsOf t = T.size := by
  obtain ⟨i, z, hi, hs, _⟩ := info_facts h
  simp [Program.cellsOf, hi, hs]
theorem lit_range {k : IntKind} {n : Int} (h : (Lit.int k n).wf = true) : k.min ≤ n ∧ n ≤ k.max := by
  simpa [Lit.wf] using h

theorem trod_rep : ∀ {T : Ty}, T.plain = true →
    (∀ {t : TypeId} {fuel : Nat} {cs : List Value} {r : DataW H × List MemPlace}, fitTy P T (.id t) = true → DataW.trod enc P w 0 spare held fuel t cs = some r → ∃ x, Rep w (fun b => b < w.heap.size) T x cs) ∧
    (∀ {fs : List Field} {off fuel : Nat} {cs : List Value} {r : List (DataW H × List MemPlace)}, fitTy P T (.flds fs off) = true →
      (fs.mapM fun f => DataW.trod enc P w 0 spare held fuel f.type ((cs.drop f.offset).take (P.cellsOf f.type))) = some r → cs.length = off + T.size → ∃ x, Rep w (fun b => b < w.heap.size) T x (cs.drop off)) := by
  intro T
  induction T with
  | int k =>
    intro hp
    refine ⟨fun {t fuel cs r} hT h => ?_, fun {fs off fuel cs r} hT _ _ => by cases fs <;> cases hT⟩
    simp only [fitTy, Bool.and_eq_true] at hT
    cases fuel with
    | zero => cases h
    | succ fuel =>
      cases hu : P.underlying t with
      | none => rw [hu] at hT; simp at hT
      | some d =>
        rw [hu] at hT
        cases d <;> simp at hT
        rename_i k'
        have := kind_of_beq hT.2; subst this
        unfold DataW.trod at h
        rw [hu] at h
        split at h <;> rename_i he <;> (try cases he) <;> (try cases h)
        · split at h
          · rename_i hc
            obtain ⟨rfl, hw⟩ := hc
            exact ⟨_, rfl, lit_range hw⟩
          · cases h
  | bool =>
    intro hp
    refine ⟨fun {t fuel cs r} hT h => ?_, fun {fs off fuel cs r} hT _ _ => by cases fs <;> cases hT⟩
    simp only [fitTy, Bool.and_eq_true] at hT
    cases fuel with
    | zero => cases h
    | succ fuel =>
      cases hu : P.underlying t with
      | none => rw [hu] at hT; simp at hT
      | some d =>
        rw [hu] at hT
        cases d <;> simp at hT
        unfold DataW.trod at h
        rw [hu] at h
        split at h <;> rename_i he <;> (try cases he) <;> (try cases h)
        exact ⟨_, rfl⟩
  | str =>
    intro hp
    refine ⟨fun {t fuel cs r} hT h => ?_, fun {fs off fuel cs r} hT _ _ => by cases fs <;> cases hT⟩
    simp only [fitTy, Bool.and_eq_true] at hT
    cases fuel with
    | zero => cases h
    | succ fuel =>
      cases hu : P.underlying t with
      | none => rw [hu] at hT; simp at hT
      | some d =>
        rw [hu] at hT
        cases d <;> simp at hT
        unfold DataW.trod at h
        rw [hu] at h
        split at h <;> rename_i he <;> (try cases he) <;> (try cases h)
        rename_i b
        split at h
        · rename_i hb
          exact ⟨_, b, rfl, rfl, hb⟩
        · cases h
  | slice U ih =>
    intro hp
    refine ⟨fun {t fuel cs r} hT h => ?_, fun {fs off fuel cs r} hT _ _ => by cases fs <;> cases hT⟩
    obtain ⟨u, hu, hfu, hpos, hpl⟩ := slice_und hT
    cases fuel with
    | zero => cases h
    | succ fuel =>
      unfold DataW.trod at h
      rw [hu] at h
      split at h <;> rename_i he <;> (try cases he) <;> (try cases h)
      · rename_i e
        exact ⟨[], none, 0, rfl, Nat.le_refl _, Nat.zero_le _, rfl⟩
      · rename_i e a len cap
        simp only [] at h
        split at h
        · rename_i hb
          obtain ⟨_, hlc, hcm⟩ := hb
          obtain ⟨elems, h1, h2⟩ := Option.bind_eq_some_iff.1 h
          have hel : elems.length = len := by simpa using mapM_some_length h1
          have hcu : P.cellsOf u = U.size := cellsOf_fit hfu
          have key : ∀ i, i < len → ∃ x : U.den, (a.add (i * U.size)).spot = none ∧ a.block < w.heap.size ∧ ∃ c, CellsAt w a.block (a.add (i * U.size)).off c ∧ Rep w (fun b => b < w.heap.size) U x c := by
            intro i hi
            have hg := mapM_some_get h1 i i (by simp [hi])
            rw [List.getElem?_eq_getElem (by omega)] at hg
            obtain ⟨c, g1, g2⟩ := Option.bind_eq_some_iff.1 hg
            rw [hcu] at g1
            obtain ⟨q1, q2, q3, q4⟩ := cells_at g1 hpos
            obtain ⟨x, hx⟩ := (ih hpl).1 hfu g2
            have hblk : (a.add (i * U.size)).block = a.block := by unfold Addr.add; split <;> rfl
            rw [hblk] at q2 q4
            exact ⟨x, q1, q2, c, q4, hx⟩
          obtain ⟨xs, hxl, hxs⟩ := choose_list key
          refine ⟨xs, some a, cap, by rw [hxl], by omega, by rw [hxl]; exact Nat.le_trans hlc hcm, fun hpos' => ?_⟩
          have h0 := hxs 0 xs[0] (List.getElem?_eq_getElem hpos')
          have hsp : a.spot = none := by
            have := h0.1
            simpa [Addr.add] using this
          refine ⟨hsp, h0.2.1, fun i x hx => ?_⟩
          obtain ⟨_, _, c, g1, g2⟩ := hxs i x hx
          rw [add_none hsp] at g1
          exact ⟨c, g1, g2⟩
        · cases h
  | arr n U ih =>
    intro hp
    refine ⟨fun {t fuel cs r} hT h => ?_, fun {fs off fuel cs r} hT _ _ => by cases fs <;> cases hT⟩
    obtain ⟨u, hu, hfu, hpos, hpl, _, _⟩ := arr_und hT
    have hcells := cellsOf_fit hT
    cases fuel with
    | zero => cases h
    | succ fuel =>
      unfold DataW.trod at h
      rw [hu] at h
      dsimp only at h
      · split at h
        · rename_i hl
          obtain ⟨xs0, h1, h2⟩ := Option.map_eq_some_iff.1 h
          have hcu : P.cellsOf u = U.size := cellsOf_fit hfu
          have key : ∀ i, i < n → ∃ x : U.den, Rep w (fun b => b < w.heap.size) U x ((cs.drop (i * U.size)).take U.size) := by
            intro i hi
            have hg := mapM_some_get h1 i i (by simp [hi])
            have hlx : xs0.length = n := by simpa using mapM_some_length h1
            rw [List.getElem?_eq_getElem (by omega), hcu] at hg
            exact (ih hpl).1 hfu hg
          obtain ⟨xs, hxl, hxs⟩ := choose_list key
          exact ⟨xs, hxl, by rw [hl, hcells]; rfl, hxs⟩
        · cases h
  | nil =>
    intro hp
    refine ⟨fun {t fuel cs r} hT h => ?_, fun {fs off fuel cs r} hT h hl => ?_⟩
    · have hcells := cellsOf_fit hT
      simp only [fitTy, Bool.and_eq_true] at hT
      cases fuel with
      | zero => cases h
      | succ fuel =>
        cases hu : P.underlying t with
        | none => rw [hu] at hT; simp at hT
        | some d =>
          rw [hu] at hT
          cases d <;> simp at hT
          unfold DataW.trod at h
          rw [hu] at h
          dsimp only at h
          split at h
          · rename_i hl
            refine ⟨(), ?_⟩
            show cs = []
            rw [hcells] at hl
            exact List.eq_nil_of_length_eq_zero hl
          · cases h
    · cases fs with
      | nil =>
        refine ⟨(), ?_⟩
        show cs.drop off = []
        exact List.drop_eq_nil_of_le (by simp [Ty.size] at hl; omega)
      | cons => cases hT
  | cons A As ihA ihB =>
    intro hp
    simp only [Ty.plain, Bool.and_eq_true] at hp
    have flds : ∀ {f : Field} {fs : List Field} {off fuel : Nat} {cs : List Value} {r : List (DataW H × List MemPlace)}, f.offset = off → fitTy P A (.id f.type) = true → fitTy P As (.flds fs (off + A.size)) = true →
        ((f :: fs).mapM fun f => DataW.trod enc P w 0 spare held fuel f.type ((cs.drop f.offset).take (P.cellsOf f.type))) = some r → cs.length = off + (A.size + As.size) →
        ∃ x, Rep w (fun b => b < w.heap.size) (.cons A As) x (cs.drop off) := by
      intro f fs off fuel cs r ho hA hAs h hl
      rw [List.mapM_cons] at h
      obtain ⟨y, h1, h2⟩ := Option.bind_eq_some_iff.1 h
      obtain ⟨ys, h3, _⟩ := Option.bind_eq_some_iff.1 h2
      rw [ho, cellsOf_fit hA] at h1
      obtain ⟨x, hx⟩ := (ihA hp.1).1 hA h1
      obtain ⟨x', hx'⟩ := (ihB hp.2).2 hAs h3 (by omega)
      refine ⟨(x, x'), _, _, ?_, hx, hx'⟩
      rw [← List.drop_drop]
      exact (List.take_append_drop _ _).symm
    refine ⟨fun {t fuel cs r} hT h => ?_, fun {fs off fuel cs r} hT h hl => ?_⟩
    · have hcells := cellsOf_fit hT
      simp only [fitTy, Bool.and_eq_true] at hT
      cases fuel with
      | zero => cases h
      | succ fuel =>
        cases hu : P.underlying t with
        | none => rw [hu] at hT; simp at hT
        | some d =>
          rw [hu] at hT
          cases d <;> simp at hT
          rename_i fs
          unfold DataW.trod at h
          rw [hu] at h
          dsimp only at h
          split at h
          · rename_i hl
            obtain ⟨xs0, h1, h2⟩ := Option.map_eq_some_iff.1 h
            cases hf : fs.toList with
            | nil => rw [hf] at hT; simp at hT
            | cons f l =>
              rw [hf] at hT h1
              simp only [Bool.and_eq_true] at hT
              have hoff : f.offset = 0 := by have := hT.2.1.1.1.1.1; simpa using this
              obtain ⟨x, hx⟩ := flds hoff hT.2.1.1.2 (by simpa using hT.2.1.2) h1 (by rw [hl, hcells]; simp [Ty.size])
              exact ⟨x, by simpa using hx⟩
          · cases h
    · cases fs with
      | nil => cases hT
      | cons f fs =>
        simp only [fitTy, Bool.and_eq_true] at hT
        exact flds (by simpa using hT.1.1.1.1) hT.1.2 hT.2 h hl
  | _ => intro hp; cases hp
/-- An argument, as a claim reads it. -/
theorem Trod.rep {T : Ty} {t : TypeId} {v : Value} {d : DataW H} {ps : List MemPlace} (hp : T.plain = true) (hT : fitTy P T (.id t) = true) (h : DataW.Trod enc P w 0 spare held t v d ps) :
    ∃ x, Rep w (fun b => b < w.heap.size) T x v.cells.toList := by
  obtain ⟨fuel, h⟩ := h
  exact (trod_rep hp).1 hT h
end
end Go.PE
end

section
namespace Go.PE
set_option linter.unusedSimpArgs false
set_option linter.unusedVariables false
open Go.ChangeShapes Go.WideShapes Go.ChangeAt Go.RowKit
def mkSig (ins : List TT) (inObs : List OT) (outs : List TT) (outObs : List OT) (F : TT.dens ins × OT.dens inObs → Option (TT.dens outs × OT.dens outObs)) : Sig where
  ins := ins
  inObs := inObs
  outs := outs
  outObs := outObs
  FK v K := (F v).bind K
  nat v K := by simp
def Mp.no : Mp := ⟨fun _ => none, fun _ => False, fun _ => False⟩
section
variable {P : Program} {H : Type} {enc : TypeId × Value → H} {w : World} {spare : Nat → Bool} {held : Bool}
theorem St.no {b : Nat} : St Mp.no w b ↔ b < w.heap.size := ⟨fun h => h.1, fun h => ⟨h, (fun o e h => by cases h), fun h => h⟩⟩
theorem arg_ok {T : Ty} {t : TypeId} {v : Value} {d : DataW H} {ps : List MemPlace} {base : Nat} (hp : T.plain = true) (hT : fitTy P T (.id t) = true)
    (hv : Value.okWide P w .any base t v) (h : DataW.Trod enc P w 0 spare held t v d ps) : ∃ x, VR Mp.no w (.pv T x) v := by
  obtain ⟨x, hx⟩ := Trod.rep hp hT h
  refine ⟨x, ?_⟩
  have hx' : Rep w (St Mp.no w) T x v.cells.toList := hx.mono (fun b hb => ⟨St.no.2 hb, rfl⟩)
  have scal : T.isAgg = false → v.cells = #[v] → VR Mp.no w (.pv T x) v := fun ha hc => .inr ⟨ha, by rw [hc] at hx'; exact hx'⟩
  cases T with
  | int k =>
    simp only [fitTy, Bool.and_eq_true] at hT
    cases hu : P.underlying t with
    | none => rw [hu] at hT; simp at hT
    | some du =>
      rw [hu] at hT
      cases du <;> simp at hT
      obtain ⟨n, rfl⟩ := okWide_int hu hv
      exact scal rfl rfl
  | bool =>
    simp only [fitTy, Bool.and_eq_true] at hT
    cases hu : P.underlying t with
    | none => rw [hu] at hT; simp at hT
    | some du =>
      rw [hu] at hT
      cases du <;> simp at hT
      obtain ⟨n, rfl⟩ := okWide_bool hu hv
      exact scal rfl rfl
  | str =>
    simp only [fitTy, Bool.and_eq_true] at hT
    cases hu : P.underlying t with
    | none => rw [hu] at hT; simp at hT
    | some du =>
      rw [hu] at hT
      cases du <;> simp at hT
      obtain ⟨n, rfl⟩ := okWide_string hu hv
      exact scal rfl rfl
  | slice U =>
    obtain ⟨u, hu, _⟩ := slice_und hT
    obtain ⟨a, l, c, rfl⟩ := okWide_slice hu hv
    exact scal rfl rfl
  | arr n U =>
    obtain ⟨u, hu, _⟩ := arr_und hT
    simp only [Value.okWide, hu] at hv
    obtain ⟨cs, rfl, _⟩ := hv
    exact .inl ⟨rfl, cs, rfl, hx'⟩
  | nil =>
    simp only [fitTy, Bool.and_eq_true] at hT
    cases hu : P.underlying t with
    | none => rw [hu] at hT; simp at hT
    | some du =>
      rw [hu] at hT
      cases du <;> simp at hT
      simp only [Value.okWide, hu] at hv
      obtain ⟨cs, rfl, _⟩ := hv
      exact .inl ⟨rfl, cs, rfl, hx'⟩
  | cons A As =>
    simp only [fitTy, Bool.and_eq_true] at hT
    cases hu : P.underlying t with
    | none => rw [hu] at hT; simp at hT
    | some du =>
      rw [hu] at hT
      cases du <;> simp at hT
      simp only [Value.okWide, hu] at hv
      obtain ⟨cs, rfl, _⟩ := hv
      exact .inl ⟨rfl, cs, rfl, hx'⟩
  | _ => cases hp

def holes : List Ty → List TT
  | [] => []
  | t :: l => .hole t :: holes l
/-- A list of types stands for parameters. -/
def fitAll (P : Program) : List Ty → List TypeId → Bool
  | [], [] => true
  | T :: l, t :: m => T.plain && fitTy P T (.id t) && fitAll P l m
  | _, _ => false
theorem args_ok {base : Nat} : ∀ {Ts : List Ty} {ts : List TypeId} {vs : List Value} {ds : List (DataW H)} {ps : List MemPlace}, fitAll P Ts ts = true →
    (∀ (j : Nat) t v, ts[j]? = some t → vs[j]? = some v → Value.okWide P w .any base t v) → DataW.TrodAll enc P w 0 spare held ts vs ds ps → ∃ xs, VRs Mp.no w (TT.fills ids0 (holes Ts) xs) vs := by
  intro Ts
  induction Ts with
  | nil =>
    intro ts vs ds ps hf hv h
    cases ts with
    | nil => obtain ⟨rfl, _, _⟩ := trodAll_nil h; exact ⟨(), trivial⟩
    | cons => cases hf
  | cons T Ts ih =>
    intro ts vs ds ps hf hv h
    cases ts with
    | nil => cases hf
    | cons t ts =>
      simp only [fitAll, Bool.and_eq_true] at hf
      obtain ⟨v, vs', d, ds', p, q, rfl, rfl, rfl, h1, h2⟩ := trodAll_cons h
      obtain ⟨x, hx⟩ := arg_ok hf.1.1 hf.1.2 (hv 0 t v rfl rfl) h1
      obtain ⟨xs, hxs⟩ := ih hf.2 (fun j t v h h' => hv (j + 1) t v (by simpa using h) (by simpa using h')) h2
      exact ⟨(x, xs), hx, hxs⟩
theorem law_calls {k : Nat} {Ts : List Ty} {F : TT.dens (holes Ts) × Unit → Option ((Bool × Unit) × Unit)} (hs : FnSound P k (mkSig (holes Ts) [] [.hole .bool] [] F)) {vs : List Value}
    {xs : TT.dens (holes Ts)} (hx : VRs Mp.no w (TT.fills ids0 (holes Ts) xs) vs) (hF : F (xs, ()) = some ((true, ()), ())) :
    Calls P k vs.toArray w fun e w' => e = .returned (.bool true) ∧ Below w.heap.size w w' := by
  have h0 : HeapR Mp.no w (Heap.puts (fun _ => none) (OT.fills ids0 ([] : List OT) () 0)) :=
    ⟨(fun o ob h => by cases h), (fun o e h => by cases h), (fun o o' e e' b h => by cases h), (fun o e h => by cases h), (fun o e b h => by cases h), fun b (h : False) => h.elim⟩
  refine (hs.2 (xs, ()) ((true, ()), ()) (by show (F (xs, ())).bind some = _; rw [hF]; rfl) Mp.no w vs h0 (fun o (h : False) => h.elim) hx).mono ?_
  rintro e w' ⟨u, μ', rfl, hst, hout, _⟩
  have hu : VR μ' w' (.pv .bool true) u := hout
  refine ⟨by rw [hu.bool], hst.os, hst.tape, hst.output, hst.size, fun k hk => (hst.st k (St.no.2 hk)).2⟩
/-- Behind the call the arguments read as they did. -/
theorem args_back (hl : laidOutB P = true) : ∀ {ts : List TypeId} {vs : List Value} {ds : List (DataW H)} {ps : List MemPlace} {W W' : World}, (ts.all fun t => P.readableRec t && decide (t < P.types.size)) = true →
    DataW.TrodAll enc P W 0 (fun _ => true) true ts vs ds ps → Below W.heap.size W W' → DataW.TrodAll enc P W' 0 (fun b => decide (b < W.heap.size)) true ts vs ds ps := by
  intro ts
  induction ts with
  | nil => intro vs ds ps W W' _ h _; obtain ⟨rfl, rfl, rfl⟩ := trodAll_nil h; exact trodAll_mk0
  | cons t ts ih =>
    intro vs ds ps W W' hr h hb
    simp only [List.all_cons, Bool.and_eq_true, decide_eq_true_eq] at hr
    obtain ⟨v, vs', d, ds', p, q, rfl, rfl, rfl, h1, h2⟩ := trodAll_cons h
    have hlt : ∀ x ∈ p, x.block < W.heap.size := by obtain ⟨m, hm⟩ := h1; exact DataW.trod_lt m _ _ _ hm
    exact ⟨p, q, Below.trod hl hr.1.1 hr.1.2 h1 hb hlt, ih hr.2 h2 hb, rfl⟩
end
end Go.PE
end

section
namespace Go.PE
set_option linter.unusedSimpArgs false
set_option linter.unusedVariables false
def lk {α : Type _} : List (Nat × α) → Nat → Option α
  | [], _ => none
  | (m, a) :: l, n => bif Nat.beq n m then some a else lk l n
def bodyOf (f : Func) : Code := f.body.getD .skip
def subL : Code → Code
  | .seq a _ => a
  | .cond _ a _ => a
  | .block _ c => c
  | .loop c => c
  | c => c
def subR : Code → Code
  | .seq _ b => b
  | .cond _ _ b => b
  | c => c
def isLoop : Code → Bool
  | .loop _ => true
  | _ => false
section
variable {P : Program} {C : Cx} {G : Nat → Option Blk}
theorem CutsOk.leaf : ∀ (c : Code), CutsOk P C G c .leaf := by
  intro c
  induction c with
  | seq a b iha ihb => exact ⟨iha, ihb⟩
  | cond x a b iha ihb => exact ⟨iha, ihb⟩
  | block i c ih => exact ih
  | _ => trivial
theorem CutsOk.two {c : Code} {a b : Ann} (ha : CutsOk P C G (subL c) a) (hb : CutsOk P C G (subR c) b) : CutsOk P C G c (.two a b) := by
  cases c with
  | seq x y => exact ⟨ha, hb⟩
  | cond x y z => exact ⟨ha, hb⟩
  | block i c => exact ha
  | _ => trivial
theorem CutsOk.cut {c : Code} {k : Nat} {g : Blk} (hG : G k = some g) (h : CodeSound P C c g.D) : CutsOk P C G c (.cut k) := by
  have : ∀ g', G k = some g' → CodeSound P C c g'.D := by
    intro g' hg'; rw [hG] at hg'; cases hg'; exact h
  cases c <;> exact this
theorem TyOk.lk_nil (hd : 62 ≤ P.depth) : TyOk P (lk []) := ⟨(fun _ _ h => by cases h), hd⟩
theorem TyOk.lk_cons {t : Nat} {T : Ty} {l : List (Nat × Ty)} (h : fitTy P T (.id t) = true) (hl : TyOk P (lk l)) : TyOk P (lk ((t, T) :: l)) := by
  refine ⟨fun u U hu => ?_, hl.depth⟩
  simp only [lk] at hu
  cases hb : Nat.beq u t with
  | true => rw [hb] at hu; cases hu; rw [natBeq_eq hb]; exact h
  | false => rw [hb] at hu; exact hl.fit u U hu
theorem FnsOk.nil : FnsOk P (lk []) := by intro _ _ h; cases h
theorem FnsOk.cons {k : Nat} {g : Sig} {l : List (Nat × Sig)} (h0 : FnOk P k) (h : FnSound P k g) (hl : FnsOk P (lk l)) : FnsOk P (lk ((k, g) :: l)) := by
  intro u U hu
  simp only [lk] at hu
  cases hb : Nat.beq u k with
  | true => rw [hb] at hu; cases hu; rw [natBeq_eq hb]; exact ⟨h0, h⟩
  | false => rw [hb] at hu; exact hl u U hu
/-- A function as it is printed. -/
theorem fn_printed (hC : CxOk P C) (hm : P.follows .mixedOrders = true) {k : Nat} {fn : Func} {A : Ann} {ins : List TT} {inObs : List OT} {outs : List TT} {outObs : List OT}
    {F : TT.dens ins × OT.dens inObs → Option (TT.dens outs × OT.dens outObs)} (hf : P.funcs[k]? = some fn) (hb : fn.body.isSome = true)
    (hsz : Nat.beq C.size fn.ntmps = true) (hin : Nat.ble ins.length fn.ntmps = true) (hown : Nat.beq C.own inObs.length = true) (hle : Nat.ble inObs.length outObs.length = true) (hcuts : CutsOk P C G (bodyOf fn) A)
    (hg : ∀ v, F v = fnK C G A (bodyOf fn) fn.results.toList (mkSig ins inObs outs outObs F) v some) : FnSound P k (mkSig ins inObs outs outObs F) := by
  have hb' : fn.body = some (bodyOf fn) := by
    unfold bodyOf
    cases h : fn.body with
    | none => rw [h] at hb; cases hb
    | some c => rfl
  refine fn_sound hC hm hf hb' (natBeq_eq hsz) hin (natBeq_eq hown) hle hcuts ?_
  intro v
  show (F v).bind some = _
  rw [Option.bind_fun_some]
  exact hg v
theorem loop_printed (hC : CxOk P C) (hm : P.follows .mixedOrders = true) {c : Code} {A : Ann} {l : List Nat} {T0 : List (Nat × Ty)} {T : Tm} {U : Outs} {step : KT.den T0 → T.den → Option (T.den ⊕ U.V)}
    (hc : isLoop c = true) (hl : constsIn l T0 = true) (hcuts : CutsOk P (C.fr l) G (subL c) A)
    (hstep : ∀ k v, step k v = bodyK (C.fr l) G (subL c) A T U (withK T0 k (T.fill v)) (fun v => some (.inl v)) (fun o => some (.inr o))) :
    CodeSound P C c (frBlk C.own l T0 T U fun k => loopV (step k)).D := by
  cases c with
  | loop b => exact loop_sound hC hm hl hcuts hstep
  | _ => cases hc
end
end Go.PE
end

section
namespace Go.PE
set_option linter.unusedSimpArgs false
open Go.ChangeShapes Go.WideShapes Go.ChangeAt Go.RowKit
/-- A pure value as a claim hands it over: numbers within their kinds, lengths within their bound. -/
def Ty.Wf : (t : Ty) → t.den → Prop
  | .int k, n => k.min ≤ n ∧ n ≤ k.max
  | .str, xs => xs.length ≤ big ∧ ∀ c : Int, c ∈ xs → 0 ≤ c ∧ c ≤ 255
  | .slice t, xs => xs.length ≤ big ∧ ∀ x : t.den, x ∈ xs → Ty.Wf t x
  | .arr n t, xs => xs.length = n ∧ ∀ x : t.den, x ∈ xs → Ty.Wf t x
  | .cons t ts, x => Ty.Wf t x.1 ∧ Ty.Wf ts x.2
  | _, _ => True
theorem Rep.wf {w : World} {st : Nat → Prop} : ∀ {t : Ty} {x : t.den} {cs : List Value}, Rep w st t x cs → Ty.Wf t x := by
  intro t
  induction t with
  | int k => intro x cs h; exact h.2
  | str =>
    intro x cs h
    obtain ⟨s, _, rfl, h2⟩ := h
    refine ⟨by simpa using h2, fun c hc => ?_⟩
    obtain ⟨b, _, rfl⟩ := List.mem_map.1 hc
    have := b.toNat_lt
    omega
  | slice t ih =>
    intro x cs h
    obtain ⟨a, cap, _, h1, h2, h3⟩ := h
    refine ⟨h2, fun y hy => ?_⟩
    obtain ⟨i, hi⟩ := List.mem_iff_getElem?.1 hy
    cases a with
    | none =>
      have : cap = 0 := h3
      have hx : x.length = 0 := by omega
      have := List.length_eq_zero_iff.1 hx
      rw [this] at hi; simp at hi
    | some a =>
      have hpos : 0 < x.length := by
        have := (List.getElem?_eq_some_iff.1 hi).1
        omega
      obtain ⟨c, _, hr⟩ := (h3 hpos).2.2 i y hi
      exact ih hr
  | arr n t ih =>
    intro x cs h
    refine ⟨h.1, fun y hy => ?_⟩
    obtain ⟨i, hi⟩ := List.mem_iff_getElem?.1 hy
    exact ih (h.2.2 i y hi)
  | cons t ts ih ih' => intro x cs h; obtain ⟨c, c', _, h1, h2⟩ := h; exact ⟨ih h1, ih' h2⟩
  | _ => intro x cs _; trivial
def WfAll : (Ts : List Ty) → TT.dens (holes Ts) → Prop
  | [], _ => True
  | t :: l, x => Ty.Wf t x.1 ∧ WfAll l x.2
theorem VR.wf {w : World} {t : Ty} {x : t.den} {v : Value} (h : VR Mp.no w (.pv t x) v) : Ty.Wf t x := by
  rcases h with ⟨_, cs, _, h⟩ | ⟨_, h⟩
  · exact Rep.wf (t := t) h
  · exact Rep.wf (t := t) h
theorem VRs.wf {w : World} : ∀ {Ts : List Ty} {xs : TT.dens (holes Ts)} {vs : List Value}, VRs Mp.no w (TT.fills ids0 (holes Ts) xs) vs → WfAll Ts xs := by
  intro Ts
  induction Ts with
  | nil => intro xs vs _; trivial
  | cons t Ts ih => intro xs vs h; cases vs with
    | nil => exact h.elim
    | cons v vs => exact ⟨h.1.wf, ih h.2⟩
/-- A law's call, from its printed text's proof. -/
theorem law_walk {P : Program} {k : Nat} {Ts : List Ty} {F : TT.dens (holes Ts) × Unit → Option ((Bool × Unit) × Unit)} (hs : FnSound P k (mkSig (holes Ts) [] [.hole .bool] [] F))
    (hF : ∀ xs, WfAll Ts xs → F (xs, ()) = some ((true, ()), ())) {w : World} {vs : List Value} {xs : TT.dens (holes Ts)} (hx : VRs Mp.no w (TT.fills ids0 (holes Ts) xs) vs) :
    Calls P k vs.toArray w fun e w' => e = .returned (.bool true) ∧ Below w.heap.size w w' := law_calls hs hx (hF xs hx.wf)
theorem Wf.u8 {n : Int} (h : Ty.Wf (.int .u8) n) : 0 ≤ n ∧ n ≤ 255 := h
theorem Wf.u16 {n : Int} (h : Ty.Wf (.int .u16) n) : 0 ≤ n ∧ n ≤ 65535 := h
theorem Wf.u32 {n : Int} (h : Ty.Wf (.int .u32) n) : 0 ≤ n ∧ n ≤ 4294967295 := h
theorem Wf.u64 {n : Int} (h : Ty.Wf (.int .u64) n) : 0 ≤ n ∧ n ≤ 18446744073709551615 := h
theorem Wf.i8 {n : Int} (h : Ty.Wf (.int .i8) n) : -128 ≤ n ∧ n ≤ 127 := h
theorem Wf.i16 {n : Int} (h : Ty.Wf (.int .i16) n) : -32768 ≤ n ∧ n ≤ 32767 := h
theorem Wf.i32 {n : Int} (h : Ty.Wf (.int .i32) n) : -2147483648 ≤ n ∧ n ≤ 2147483647 := h
theorem Wf.i64 {n : Int} (h : Ty.Wf (.int .i64) n) : -9223372036854775808 ≤ n ∧ n ≤ 9223372036854775807 := h
end Go.PE
end
