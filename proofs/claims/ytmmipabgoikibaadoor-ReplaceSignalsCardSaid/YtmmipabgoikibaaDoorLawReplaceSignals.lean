/- The law ReplaceSignals holds: its function answers true at every input, and the input reads behind the call as it read before; no condition else. -/
import Derived.Test.YtmmipabgoikibaaDoorCards
import Derived.Test.YtmmipabgoikibaaDoorTie
import Derived.Test.YtmmipabgoikibaaDoorSa
import Derived.Test.YtmmipabgoikibaaDoorQc
import Derived.Test.YtmmipabgoikibaaDoorPa
import Derived.KernelRfl
import Derived.SevenTiedAt
import Derived.HandedFrom
import Derived.LaidMore
namespace Go.Proofs.YtmmipabgoikibaaDoor.replaceSignals
open Go.ChangeShapes Go.WideShapes Go.ChangeAt Go.RowKit
open Go.ChangeMaps (open_string shut_string)
set_option linter.unusedVariables false
set_option linter.unusedSimpArgs false
set_option maxRecDepth 100000
abbrev laid2 : List (String × DataW Unit) := [("lightclient/sha.constants", Rows.laid_lightclient_sha_constants), ("lightclient/sha.initial", Rows.laid_lightclient_sha_initial)]
theorem own : ownKnob Tryd.prog.godebug = none := by kernel_rfl
theorem laidOut : laidOutB Tryd.prog = true := by kernel_rfl
theorem door_met (os : Os) (args : Array Value) : laidMetH Tryd.prog laid2 ((World.doorLaid Tryd.prog 19 os).forCall (fun _ _ => 0) ⟨#[], args, []⟩).memory :=
  laidMetH_of_parts3 (fuel := 8) (laidMet_of_run' 8 (by kernel_rfl) (by kernel_rfl)) (by kernel_rfl) (by kernel_rfl)
theorem globs {W : World} (h : laidMetH Tryd.prog laid2 W) : Go.PE.GlobR Go.PE.YtmmipabgoikibaaDoor.gl Go.PE.Mp.no W := by
  rw [MakeChecks.laidMetH_plain _ _ _ (by kernel_rfl)] at h
  obtain ⟨ps, ⟨g0, t0, cs0, f0, a0, b0, hg0, ht0, hv0, hd0, ⟨g1, t1, cs1, f1, a1, b1, hg1, ht1, hv1, hd1, _, _⟩, _⟩, _, _⟩ := h
  obtain rfl := Option.some.inj ((show Tryd.prog.globalNamed "lightclient/sha.constants" = some 1 by kernel_rfl).symm.trans hg0)
  obtain rfl := Option.some.inj ((show (Tryd.prog.globals[1]?).map (·.type) = some 138 by kernel_rfl).symm.trans ht0)
  have d0 : (Rows.laid_lightclient_sha_constants : DataW Unit) = .agg (Go.PE.G_c990df.map fun x => .lit (.int .u32 x)) := by kernel_rfl
  rw [d0] at hd0
  have e0 := Go.PE.glob_arr hg0 hv0 (n := 64) (k := .u32) (te := 23) Tryd.underlying138 Tryd.underlying23 (by kernel_rfl) (by kernel_rfl) hd0
  obtain rfl := Option.some.inj ((show Tryd.prog.globalNamed "lightclient/sha.initial" = some 0 by kernel_rfl).symm.trans hg1)
  obtain rfl := Option.some.inj ((show (Tryd.prog.globals[0]?).map (·.type) = some 128 by kernel_rfl).symm.trans ht1)
  have d1 : (Rows.laid_lightclient_sha_initial : DataW Unit) = .agg (Go.PE.G_3e2daa.map fun x => .lit (.int .u32 x)) := by kernel_rfl
  rw [d1] at hd1
  have e1 := Go.PE.glob_arr hg1 hv1 (n := 8) (k := .u32) (te := 23) Tryd.underlying128 Tryd.underlying23 (by kernel_rfl) (by kernel_rfl) hd1
  intro g v hv
  cases g with
  | zero =>
    cases hv
    exact e1
  | succ g =>
    cases g with
    | zero =>
      cases hv
      exact e0
    | succ g =>
      cases hv
theorem lifted (os : Os) (started : os.Started) (H : Type) (enc : TypeId × Value → H) :
    ReturnsInHanded {} Tryd.checked os 3 .any (fun w args => (Rows.replaceSignalsSpec.pre enc Tryd.prog Tryd.f3 [] false w args ∧ laidMetH Tryd.prog laid2 w) ∧ sizedMet enc Tryd.prog Tryd.f3 (OpenSpec.ofChange Rows.replaceSignalsSpec) false w args)
      (Rows.replaceSignalsSpec.post enc Tryd.prog Tryd.f3 false true false false) := by
  refine returnsInHanded_of_change_and (C := Tryd.checked) (X := fun w _ => laidMetH Tryd.prog laid2 w) (fun _ _ _ hh h => h.of_heap hh) own started (by kernel_rfl) Tryd.func3
    (ChangeSpec.witness_shaped (enc := enc) (C := Tryd.checked) (os := os) (X := fun w _ => laidMetH Tryd.prog laid2 w) false (World.doorLaid Tryd.prog 19 os) #[.slice none 0 0, .int .u32 0, .int .u32 0] 8 rfl (World.shaped_of_RefB (by kernel_rfl) (by kernel_rfl)) (by kernel_rfl) (by kernel_rfl) (by kernel_rfl) (door_met os _)) ?_
  intro W base args ds gs before hval0 hW _ _ hL _
  have hval : ∀ (j : Nat) t v, Tryd.f3.params[j]? = some t → args[j]? = some v → Value.okWide Tryd.prog W .any base t v := hval0
  have hW' := hW
  obtain ⟨p, q, hA0, hV, rfl, hfz, hnd⟩ := hW
  have hA : DataW.TrodAll enc Tryd.prog W 0 (fun _ => true) true Tryd.f3.params.toList args.toList ds p := hA0
  rw [Tryd.params3] at hA hval
  have hA1 := hA
  obtain ⟨v0, vs0, d0, ds0, p0, q0, hargs, rfl, rfl, h0, r0⟩ := trodAll_cons hA
  obtain ⟨v1, vs1, d1, ds1, p1, q1, rfl, rfl, rfl, h1, r1⟩ := trodAll_cons r0
  obtain ⟨v2, vs2, d2, ds2, p2, q2, rfl, rfl, rfl, h2, r2⟩ := trodAll_cons r1
  obtain ⟨rfl, rfl, rfl⟩ := trodAll_nil r2
  obtain rfl : args = #[v0, v1, v2] := by cases args; simp_all
  obtain ⟨rfl, rfl⟩ := trodVars_none hV
  obtain ⟨xs, hxs⟩ := Go.PE.args_ok (Ts := [(.slice (.int .i64)), (.int .u32), (.int .u32)]) (by kernel_rfl) (fun j t v h h' => hval j t v (by simpa using h) (by simpa using h')) hA1
  refine (Go.PE.law_walk Go.PE.YtmmipabgoikibaaDoor.sd_law36_ReplaceSignals Go.PE.replaceSignals_pure (globs hL) hxs).mono fun e W' ⟨he, bel⟩ => ?_
  subst he
  exact ⟨_, rfl, _, _, _, [], _, [], hW', trodAll_mk1 (shut_bool Tryd.underlying4 _), Go.PE.args_back laidOut (by kernel_rfl) hA1 bel, rfl, bel.frame _, fun h => by cases h⟩
theorem row_holds : Rows.ReplaceSignalsSaid :=
  OpenClaim.holds_of_wide 3 Tryd.f3 rfl rfl rfl rfl rfl rfl rfl ⟨rfl, rfl, rfl, rfl, rfl⟩ rfl rfl rfl rfl rfl (by kernel_rfl) Tryd.func3 (by kernel_rfl)
    (of_decide_eq_true (by kernel_rfl)) (by unfold Func.isWrapper; first | (rw [if_pos (by decide +kernel)]; kernel_rfl) | (rw [if_neg (by decide +kernel)]; exact ⟨rfl, rfl⟩))
    (fun os started H enc _ => lifted os started H enc)
theorem holds : Rows.ReplaceSignalsCardSaid :=
  Claim7.holds_tied_plain_at .later [] [.data, .data] true (true, "1435a90e18df2331f88e6a44b4865a70cdd35d6fc5aeb760b8cb9f2cf750d2a1") false
    row_holds (fun _ h => by cases h) (by kernel_rfl) (fun _ h => by cases h) replaceSignals_row_tie rfl ⟨rfl, rfl⟩ (by kernel_rfl) rfl
    (fun f fn hf hfn => by
      obtain rfl : f = 3 := Option.some.inj ((show Tryd.prog.funcNamed "lightclient/lightclientlaw36.ReplaceSignals" = some 3 by kernel_rfl).symm.trans hf) |>.symm
      obtain rfl : fn = Tryd.f3 := (Option.some.inj (Tryd.func3.symm.trans hfn)).symm
      exact ⟨by kernel_rfl, fun j t ht => by
        rw [Tryd.params3] at ht
        have hm : t ∈ [22, 23, 23] := by simpa using Array.mem_of_getElem? ht
        have hall : ([22, 23, 23].all fun u => !Tryd.prog.wantsStandIn u) = true := by kernel_rfl
        exact (show Tryd.prog.wantsStandIn t = false by simpa using List.all_eq_true.1 hall t hm)⟩)
    (by kernel_rfl)
#print axioms holds
end Go.Proofs.YtmmipabgoikibaaDoor.replaceSignals
