/- The law FilterchainChecks holds: its function answers true at every input, and the input reads behind the call as it read before; no condition else. -/
import Derived.Test.YtolhomapnlcadaaDoorCards
import Derived.Test.YtolhomapnlcadaaDoorTie
import Derived.Test.YtolhomapnlcadaaDoorSa
import Derived.Test.YtolhomapnlcadaaDoorQc
import Derived.Test.YtolhomapnlcadaaDoorPb
import Derived.KernelRfl
import Derived.SevenTiedAt
import Derived.HandedFrom
import Derived.LaidMore
namespace Go.Proofs.YtolhomapnlcadaaDoor.filterchainChecks
open Go.ChangeShapes Go.WideShapes Go.ChangeAt Go.RowKit
open Go.ChangeMaps (open_string shut_string)
set_option linter.unusedVariables false
set_option linter.unusedSimpArgs false
set_option maxRecDepth 100000
abbrev laid2 : List (String × DataW Unit) := [("lightclient/sha.constants", Rows.laid_lightclient_sha_constants), ("lightclient/sha.initial", Rows.laid_lightclient_sha_initial)]
theorem own : ownKnob Tryd.prog.godebug = none := by kernel_rfl
theorem laidOut : laidOutB Tryd.prog = true := by kernel_rfl
theorem door_met (os : Os) (args : Array Value) : laidMetH Tryd.prog laid2 ((World.doorLaid Tryd.prog 19 os).forCall (fun _ _ => 0) ⟨#[], args, []⟩).memory :=
  laidMetH_of_parts3 (fuel := 8) (laidMet_of_run' 8 (by kernel_rfl) (by kernel_rfl)) (by kernel_rfl) (by kernel_rfl)
theorem globs {W : World} (h : laidMetH Tryd.prog laid2 W) : Go.PE.GlobR Go.PE.YtolhomapnlcadaaDoor.gl Go.PE.Mp.no W := by
  rw [MakeChecks.laidMetH_plain _ _ _ (by kernel_rfl)] at h
  obtain ⟨ps, ⟨g0, t0, cs0, f0, a0, b0, hg0, ht0, hv0, hd0, ⟨g1, t1, cs1, f1, a1, b1, hg1, ht1, hv1, hd1, _, _⟩, _⟩, _, _⟩ := h
  obtain rfl := Option.some.inj ((show Tryd.prog.globalNamed "lightclient/sha.constants" = some 1 by kernel_rfl).symm.trans hg0)
  obtain rfl := Option.some.inj ((show (Tryd.prog.globals[1]?).map (·.type) = some 73 by kernel_rfl).symm.trans ht0)
  have d0 : (Rows.laid_lightclient_sha_constants : DataW Unit) = .agg (Go.PE.G_c990df.map fun x => .lit (.int .u32 x)) := by kernel_rfl
  rw [d0] at hd0
  have e0 := Go.PE.glob_arr hg0 hv0 (n := 64) (k := .u32) (te := 64) Tryd.underlying73 Tryd.underlying64 (by kernel_rfl) (by kernel_rfl) hd0
  obtain rfl := Option.some.inj ((show Tryd.prog.globalNamed "lightclient/sha.initial" = some 0 by kernel_rfl).symm.trans hg1)
  obtain rfl := Option.some.inj ((show (Tryd.prog.globals[0]?).map (·.type) = some 68 by kernel_rfl).symm.trans ht1)
  have d1 : (Rows.laid_lightclient_sha_initial : DataW Unit) = .agg (Go.PE.G_3e2daa.map fun x => .lit (.int .u32 x)) := by kernel_rfl
  rw [d1] at hd1
  have e1 := Go.PE.glob_arr hg1 hv1 (n := 8) (k := .u32) (te := 64) Tryd.underlying68 Tryd.underlying64 (by kernel_rfl) (by kernel_rfl) hd1
  intro g v hv
  cases g with
  | zero =>
    cases hv
    exact e1
  | succ g =>
    cases g with
    | zero =>
      cases hv
      exact e0
    | succ g =>
      cases hv
theorem lifted (os : Os) (started : os.Started) (H : Type) (enc : TypeId × Value → H) :
    ReturnsInHanded {} Tryd.checked os 4 .any (fun w args => (Rows.filterchainChecksSpec.pre enc Tryd.prog Tryd.f4 [] false w args ∧ laidMetH Tryd.prog laid2 w) ∧ sizedMet enc Tryd.prog Tryd.f4 (OpenSpec.ofChange Rows.filterchainChecksSpec) false w args)
      (Rows.filterchainChecksSpec.post enc Tryd.prog Tryd.f4 false true false false) := by
  refine returnsInHanded_of_change_and (C := Tryd.checked) (X := fun w _ => laidMetH Tryd.prog laid2 w) (fun _ _ _ hh h => h.of_heap hh) own started (by kernel_rfl) Tryd.func4
    (ChangeSpec.witness_shaped (enc := enc) (C := Tryd.checked) (os := os) (X := fun w _ => laidMetH Tryd.prog laid2 w) false (World.doorLaid Tryd.prog 19 os) #[.agg #[.slice none 0 0, .slice none 0 0], .int .i64 0, .slice none 0 0, .slice none 0 0] 8 rfl (World.shaped_of_RefB (by kernel_rfl) (by kernel_rfl)) (by kernel_rfl) (by kernel_rfl) (by kernel_rfl) (door_met os _)) ?_
  intro W base args ds gs before hval0 hW _ _ hL _
  have hval : ∀ (j : Nat) t v, Tryd.f4.params[j]? = some t → args[j]? = some v → Value.okWide Tryd.prog W .any base t v := hval0
  have hW' := hW
  obtain ⟨p, q, hA0, hV, rfl, hfz, hnd⟩ := hW
  have hA : DataW.TrodAll enc Tryd.prog W 0 (fun _ => true) true Tryd.f4.params.toList args.toList ds p := hA0
  rw [Tryd.params4] at hA hval
  have hA1 := hA
  obtain ⟨v0, vs0, d0, ds0, p0, q0, hargs, rfl, rfl, h0, r0⟩ := trodAll_cons hA
  obtain ⟨v1, vs1, d1, ds1, p1, q1, rfl, rfl, rfl, h1, r1⟩ := trodAll_cons r0
  obtain ⟨v2, vs2, d2, ds2, p2, q2, rfl, rfl, rfl, h2, r2⟩ := trodAll_cons r1
  obtain ⟨v3, vs3, d3, ds3, p3, q3, rfl, rfl, rfl, h3, r3⟩ := trodAll_cons r2
  obtain ⟨rfl, rfl, rfl⟩ := trodAll_nil r3
  obtain rfl : args = #[v0, v1, v2, v3] := by cases args; simp_all
  obtain ⟨rfl, rfl⟩ := trodVars_none hV
  obtain ⟨xs, hxs⟩ := Go.PE.args_ok (Ts := [Go.PE.T_d60b, (.int .i64), (.slice (.arr 32 (.int .u8))), (.slice (.arr 32 (.int .u8)))]) (by kernel_rfl) (fun j t v h h' => hval j t v (by simpa using h) (by simpa using h')) hA1
  refine (Go.PE.law_walk Go.PE.YtolhomapnlcadaaDoor.sd_law21_FilterchainChecks Go.PE.checks_pure (globs hL) hxs).mono fun e W' ⟨he, bel⟩ => ?_
  subst he
  exact ⟨_, rfl, _, _, _, [], _, [], hW', trodAll_mk1 (shut_bool Tryd.underlying4 _), Go.PE.args_back laidOut (by kernel_rfl) hA1 bel, rfl, bel.frame _, fun h => by cases h⟩
theorem row_holds : Rows.FilterchainChecksSaid :=
  OpenClaim.holds_of_wide 4 Tryd.f4 rfl rfl rfl rfl rfl rfl rfl ⟨rfl, rfl, rfl, rfl, rfl⟩ rfl rfl rfl rfl rfl (by kernel_rfl) Tryd.func4 (by kernel_rfl)
    (of_decide_eq_true (by kernel_rfl)) (by unfold Func.isWrapper; first | (rw [if_pos (by decide +kernel)]; kernel_rfl) | (rw [if_neg (by decide +kernel)]; exact ⟨rfl, rfl⟩))
    (fun os started H enc _ => lifted os started H enc)
theorem holds : Rows.FilterchainChecksCardSaid :=
  Claim7.holds_tied_plain_at .later [] [.data, .data] true (true, "acef626fa9ac49717fb83273ccdabe45700d66235ae639aabce5b3734d395e8c") false
    row_holds (fun _ h => by cases h) (by kernel_rfl) (fun _ h => by cases h) filterchainChecks_row_tie rfl ⟨rfl, rfl⟩ (by kernel_rfl) rfl
    (fun f fn hf hfn => by
      obtain rfl : f = 4 := Option.some.inj ((show Tryd.prog.funcNamed "lightclient/lightclientlaw21.FilterchainChecks" = some 4 by kernel_rfl).symm.trans hf) |>.symm
      obtain rfl : fn = Tryd.f4 := (Option.some.inj (Tryd.func4.symm.trans hfn)).symm
      exact ⟨by kernel_rfl, fun j t ht => by
        rw [Tryd.params4] at ht
        have hm : t ∈ [24, 3, 22, 22] := by simpa using Array.mem_of_getElem? ht
        have hall : ([24, 3, 22, 22].all fun u => !Tryd.prog.wantsStandIn u) = true := by kernel_rfl
        exact (show Tryd.prog.wantsStandIn t = false by simpa using List.all_eq_true.1 hall t hm)⟩)
    (by kernel_rfl)
#print axioms holds
end Go.Proofs.YtolhomapnlcadaaDoor.filterchainChecks
