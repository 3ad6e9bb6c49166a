/- The functions of the program do what their printed texts say; no condition. -/
import Derived.Test.YtaeaeaiebbakbaaProg
import Derived.Test.YtaeaeaiebbakbaaQc
import Derived.Test.YtaeaeaiebbakbaaPa
import Derived.KernelRfl
section
set_option maxRecDepth 100000
noncomputable section
namespace Go.PE.Ytaeaeaiebbakbaa
open Go.PE Go.Proofs
def gl : Gl := fun _ => none
def tys : Nat → Option Ty := lk [(2, (.int .i64)), (3, (.int .i64)), (4, .bool), (5, (.int .u8)), (9, .str), (22, (.slice (.int .i64))), (23, (.slice (.int .i64))), (27, (.slice (.slice (.int .i64)))), (29, T_3393), (30, (.slice (.int .u8))), (31, (.int .i64)), (37, (.slice (.slice (.int .u8)))), (44, .ptr), (49, T_a496), (60, (.int .u64)), (65, T_3393), (66, .ptr), (84, (.int .u64))]
theorem follows : Try.prog.follows .mixedOrders = true := by kernel_rfl
theorem ty_2 : fitTy Try.prog (.int .i64) (.id 2) = true := by kernel_rfl
theorem ty_3 : fitTy Try.prog (.int .i64) (.id 3) = true := by kernel_rfl
theorem ty_4 : fitTy Try.prog .bool (.id 4) = true := by kernel_rfl
theorem ty_5 : fitTy Try.prog (.int .u8) (.id 5) = true := by kernel_rfl
theorem ty_9 : fitTy Try.prog .str (.id 9) = true := by kernel_rfl
theorem ty_22 : fitTy Try.prog (.slice (.int .i64)) (.id 22) = true := by kernel_rfl
theorem ty_23 : fitTy Try.prog (.slice (.int .i64)) (.id 23) = true := by kernel_rfl
theorem ty_27 : fitTy Try.prog (.slice (.slice (.int .i64))) (.id 27) = true := by kernel_rfl
theorem ty_29 : fitTy Try.prog T_3393 (.id 29) = true := by kernel_rfl
theorem ty_30 : fitTy Try.prog (.slice (.int .u8)) (.id 30) = true := by kernel_rfl
theorem ty_31 : fitTy Try.prog (.int .i64) (.id 31) = true := by kernel_rfl
theorem ty_37 : fitTy Try.prog (.slice (.slice (.int .u8))) (.id 37) = true := by kernel_rfl
theorem ty_44 : fitTy Try.prog .ptr (.id 44) = true := by kernel_rfl
theorem ty_49 : fitTy Try.prog T_a496 (.id 49) = true := by kernel_rfl
theorem ty_60 : fitTy Try.prog (.int .u64) (.id 60) = true := by kernel_rfl
theorem ty_65 : fitTy Try.prog T_3393 (.id 65) = true := by kernel_rfl
theorem ty_66 : fitTy Try.prog .ptr (.id 66) = true := by kernel_rfl
theorem ty_84 : fitTy Try.prog (.int .u64) (.id 84) = true := by kernel_rfl
theorem dep : Nat.ble 62 Try.prog.depth = true := by kernel_rfl
theorem tys_ok : TyOk Try.prog tys := TyOk.lk_cons ty_2 (TyOk.lk_cons ty_3 (TyOk.lk_cons ty_4 (TyOk.lk_cons ty_5 (TyOk.lk_cons ty_9 (TyOk.lk_cons ty_22 (TyOk.lk_cons ty_23 (TyOk.lk_cons ty_27 (TyOk.lk_cons ty_29 (TyOk.lk_cons ty_30 (TyOk.lk_cons ty_31 (TyOk.lk_cons ty_37 (TyOk.lk_cons ty_44 (TyOk.lk_cons ty_49 (TyOk.lk_cons ty_60 (TyOk.lk_cons ty_65 (TyOk.lk_cons ty_66 (TyOk.lk_cons ty_84 (TyOk.lk_nil (Nat.le_of_ble_eq_true dep)))))))))))))))))))
end Go.PE.Ytaeaeaiebbakbaa
end
end

section
set_option maxRecDepth 100000
set_option linter.unusedVariables false
noncomputable section
namespace Go.PE.Ytaeaeaiebbakbaa
open Go.PE Go.Proofs

def sg_mill_New : Sig := mkSig [(.hole (.slice (.int .i64)))] [] [(.ptr 0 [])] [(.box T_3393 (.hole T_3393))] (fun p => mill_New p.1.1)
theorem fk_mill_New : FnOk Try.prog 17 := ⟨Try.f17, Try.func17, by kernel_rfl, by kernel_rfl⟩
def cx_mill_New : Cx := ⟨tys, lk [], 6, 0, [], gl⟩
theorem cxo_mill_New : CxOk Try.prog (cx_mill_New) := ⟨tys_ok, FnsOk.nil⟩
def gs_mill_New : Nat → Option Blk := lk []
theorem sd_mill_New : FnSound Try.prog gl 17 sg_mill_New :=
  fn_printed (G := gs_mill_New) (A := .leaf) (cxo_mill_New) follows Try.func17 (by kernel_rfl) (by kernel_rfl) (by kernel_rfl) (by kernel_rfl) (by kernel_rfl) (CutsOk.leaf _) (by intro v; kernel_rfl)
def sg_mill_Deck_Left : Sig := mkSig [(.ptr 0 [])] [(.box T_3393 (.hole T_3393))] [(.hole .bool)] [(.box T_3393 (.hole T_3393))] (fun p => mill_Deck_Left p.2.1)
theorem fk_mill_Deck_Left : FnOk Try.prog 32 := ⟨Try.f32, Try.func32, by kernel_rfl, by kernel_rfl⟩
def cx_mill_Deck_Left : Cx := ⟨tys, lk [], 13, 1, [], gl⟩
theorem cxo_mill_Deck_Left : CxOk Try.prog (cx_mill_Deck_Left) := ⟨tys_ok, FnsOk.nil⟩
def gs_mill_Deck_Left : Nat → Option Blk := lk []
theorem sd_mill_Deck_Left : FnSound Try.prog gl 32 sg_mill_Deck_Left :=
  fn_printed (G := gs_mill_Deck_Left) (A := .leaf) (cxo_mill_Deck_Left) follows Try.func32 (by kernel_rfl) (by kernel_rfl) (by kernel_rfl) (by kernel_rfl) (by kernel_rfl) (CutsOk.leaf _) (by intro v; kernel_rfl)
def sg_mill_Mod : Sig := mkSig [(.hole (.int .i64)), (.hole (.int .i64))] [] [(.hole (.int .i64))] [] (fun p => mill_Mod p.1.1 p.1.2.1)
theorem fk_mill_Mod : FnOk Try.prog 12 := ⟨Try.f12, Try.func12, by kernel_rfl, by kernel_rfl⟩
def cx_mill_Mod : Cx := ⟨tys, lk [], 15, 0, [], gl⟩
theorem cxo_mill_Mod : CxOk Try.prog (cx_mill_Mod) := ⟨tys_ok, FnsOk.nil⟩
def gs_mill_Mod : Nat → Option Blk := lk []
theorem sd_mill_Mod : FnSound Try.prog gl 12 sg_mill_Mod :=
  fn_printed (G := gs_mill_Mod) (A := .leaf) (cxo_mill_Mod) follows Try.func12 (by kernel_rfl) (by kernel_rfl) (by kernel_rfl) (by kernel_rfl) (by kernel_rfl) (CutsOk.leaf _) (by intro v; kernel_rfl)
def sg_mill_Deck_Next : Sig := mkSig [(.ptr 0 []), (.hole (.int .i64))] [(.box T_3393 (.hole T_3393))] [(.hole (.int .i64))] [(.box T_3393 (.hole T_3393))] (fun p => mill_Deck_Next p.1.2.1 p.2.1)
theorem fk_mill_Deck_Next : FnOk Try.prog 18 := ⟨Try.f18, Try.func18, by kernel_rfl, by kernel_rfl⟩
def cx_mill_Deck_Next : Cx := ⟨tys, lk [(32, sg_mill_Deck_Left), (12, sg_mill_Mod)], 28, 1, [], gl⟩
theorem cxo_mill_Deck_Next : CxOk Try.prog (cx_mill_Deck_Next) := ⟨tys_ok, FnsOk.cons fk_mill_Deck_Left sd_mill_Deck_Left (FnsOk.cons fk_mill_Mod sd_mill_Mod (FnsOk.nil))⟩
def gs_mill_Deck_Next : Nat → Option Blk := lk []
theorem sd_mill_Deck_Next : FnSound Try.prog gl 18 sg_mill_Deck_Next :=
  fn_printed (G := gs_mill_Deck_Next) (A := .leaf) (cxo_mill_Deck_Next) follows Try.func18 (by kernel_rfl) (by kernel_rfl) (by kernel_rfl) (by kernel_rfl) (by kernel_rfl) (CutsOk.leaf _) (by intro v; kernel_rfl)
end Go.PE.Ytaeaeaiebbakbaa
end
end

section
set_option maxRecDepth 100000
set_option linter.unusedVariables false
noncomputable section
namespace Go.PE.Ytaeaeaiebbakbaa
open Go.PE Go.Proofs

def sg_ref32_proper : Sig := mkSig [(.hole (.slice (.int .i64))), (.hole (.int .i64))] [] [(.hole (.int .i64))] [] (fun p => ref32_proper p.1.1 p.1.2.1)
theorem fk_ref32_proper : FnOk Try.prog 23 := ⟨Try.f23, Try.func23, by kernel_rfl, by kernel_rfl⟩
def cx_ref32_proper : Cx := ⟨tys, lk [], 33, 0, [], gl⟩
theorem cxo_ref32_proper : CxOk Try.prog (cx_ref32_proper) := ⟨tys_ok, FnsOk.nil⟩
abbrev K0_ref32_proper_L1 : List (Nat × Ty) := [(0, (.slice (.int .i64)))]
abbrev TM_ref32_proper_L1 : Tm := ⟨[(5, (.hole (.int .i64)))], []⟩
abbrev UO_ref32_proper_L1 : Outs := (.more .ret ⟨[(4, (.hole (.int .i64)))], []⟩ (.one (.exit 0) ⟨[], []⟩))
def B_ref32_proper_L1 : Blk := frBlk 0 [0, 1] K0_ref32_proper_L1 TM_ref32_proper_L1 UO_ref32_proper_L1 (fun k => loopV (fun v => ref32_proper_L1 k.1 v))
def gs_ref32_proper : Nat → Option Blk := lk [(1, B_ref32_proper_L1)]
theorem ct_ref32_proper_L1 : CodeSound Try.prog (cx_ref32_proper) (subL (subR (subL (subR (subR (bodyOf Try.f23)))))) (B_ref32_proper_L1).D :=
  loop_printed (G := gs_ref32_proper) (A := .leaf) (T0 := K0_ref32_proper_L1) (T := TM_ref32_proper_L1) (U := UO_ref32_proper_L1) (step := (fun k v => ref32_proper_L1 k.1 v)) (cxo_ref32_proper) follows (by kernel_rfl) (by kernel_rfl) (CutsOk.leaf _) (by intro k v; kernel_rfl)
theorem sd_ref32_proper : FnSound Try.prog gl 23 sg_ref32_proper :=
  fn_printed (G := gs_ref32_proper) (A := (.two .leaf (.two .leaf (.two (.two .leaf (.two (.cut 1) .leaf)) .leaf)))) (cxo_ref32_proper) follows Try.func23 (by kernel_rfl) (by kernel_rfl) (by kernel_rfl) (by kernel_rfl) (by kernel_rfl) (CutsOk.two (CutsOk.leaf _) (CutsOk.two (CutsOk.leaf _) (CutsOk.two (CutsOk.two (CutsOk.leaf _) (CutsOk.two (CutsOk.cut (g := B_ref32_proper_L1) (by kernel_rfl) (ct_ref32_proper_L1)) (CutsOk.leaf _))) (CutsOk.leaf _)))) (by intro v; kernel_rfl)
def sg_ref32_sum : Sig := mkSig [(.hole (.slice (.int .i64)))] [] [(.hole (.int .i64))] [] (fun p => ref32_sum p.1.1)
theorem fk_ref32_sum : FnOk Try.prog 24 := ⟨Try.f24, Try.func24, by kernel_rfl, by kernel_rfl⟩
def cx_ref32_sum : Cx := ⟨tys, lk [], 18, 0, [], gl⟩
theorem cxo_ref32_sum : CxOk Try.prog (cx_ref32_sum) := ⟨tys_ok, FnsOk.nil⟩
abbrev K0_ref32_sum_L1 : List (Nat × Ty) := [(0, (.slice (.int .i64)))]
abbrev TM_ref32_sum_L1 : Tm := ⟨[(3, (.hole (.int .i64))), (4, (.hole (.int .i64)))], []⟩
abbrev UO_ref32_sum_L1 : Outs := (.one (.exit 0) ⟨[(3, (.hole (.int .i64)))], []⟩)
def B_ref32_sum_L1 : Blk := frBlk 0 [0, 2] K0_ref32_sum_L1 TM_ref32_sum_L1 UO_ref32_sum_L1 (fun k => loopV (fun v => ref32_sum_L1 k.1 v))
def gs_ref32_sum : Nat → Option Blk := lk [(1, B_ref32_sum_L1)]
theorem ct_ref32_sum_L1 : CodeSound Try.prog (cx_ref32_sum) (subL (subR (subL (subR (subR (bodyOf Try.f24)))))) (B_ref32_sum_L1).D :=
  loop_printed (G := gs_ref32_sum) (A := .leaf) (T0 := K0_ref32_sum_L1) (T := TM_ref32_sum_L1) (U := UO_ref32_sum_L1) (step := (fun k v => ref32_sum_L1 k.1 v)) (cxo_ref32_sum) follows (by kernel_rfl) (by kernel_rfl) (CutsOk.leaf _) (by intro k v; kernel_rfl)
theorem sd_ref32_sum : FnSound Try.prog gl 24 sg_ref32_sum :=
  fn_printed (G := gs_ref32_sum) (A := (.two .leaf (.two .leaf (.two (.two .leaf (.two (.cut 1) .leaf)) .leaf)))) (cxo_ref32_sum) follows Try.func24 (by kernel_rfl) (by kernel_rfl) (by kernel_rfl) (by kernel_rfl) (by kernel_rfl) (CutsOk.two (CutsOk.leaf _) (CutsOk.two (CutsOk.leaf _) (CutsOk.two (CutsOk.two (CutsOk.leaf _) (CutsOk.two (CutsOk.cut (g := B_ref32_sum_L1) (by kernel_rfl) (ct_ref32_sum_L1)) (CutsOk.leaf _))) (CutsOk.leaf _)))) (by intro v; kernel_rfl)
def sg_ref32_least : Sig := mkSig [(.hole (.slice (.int .i64))), (.hole (.int .i64)), (.hole (.int .i64)), (.hole (.int .i64))] [] [(.hole (.int .i64))] [] (fixN ref32_least_R fuel)
theorem fk_ref32_least : FnOk Try.prog 25 := ⟨Try.f25, Try.func25, by kernel_rfl, by kernel_rfl⟩
def cx_ref32_least (self : (((List Int) × Int × Int × Int × Unit) × Unit) → Option ((Int × Unit) × Unit)) : Cx := ⟨tys, lk [(24, sg_ref32_sum), (25, mkSig [(.hole (.slice (.int .i64))), (.hole (.int .i64)), (.hole (.int .i64)), (.hole (.int .i64))] [] [(.hole (.int .i64))] [] self)], 43, 0, [], gl⟩
theorem cxo_ref32_least (self : (((List Int) × Int × Int × Int × Unit) × Unit) → Option ((Int × Unit) × Unit)) (hself : FnSound Try.prog gl 25 (mkSig [(.hole (.slice (.int .i64))), (.hole (.int .i64)), (.hole (.int .i64)), (.hole (.int .i64))] [] [(.hole (.int .i64))] [] self)) : CxOk Try.prog (cx_ref32_least self) := ⟨tys_ok, FnsOk.cons fk_ref32_sum sd_ref32_sum (FnsOk.cons fk_ref32_least hself (FnsOk.nil))⟩
def gs_ref32_least (self : (((List Int) × Int × Int × Int × Unit) × Unit) → Option ((Int × Unit) × Unit)) : Nat → Option Blk := lk []
theorem st_ref32_least (self : (((List Int) × Int × Int × Int × Unit) × Unit) → Option ((Int × Unit) × Unit)) (hself : FnSound Try.prog gl 25 (mkSig [(.hole (.slice (.int .i64))), (.hole (.int .i64)), (.hole (.int .i64)), (.hole (.int .i64))] [] [(.hole (.int .i64))] [] self)) : FnSound Try.prog gl 25 (mkSig [(.hole (.slice (.int .i64))), (.hole (.int .i64)), (.hole (.int .i64)), (.hole (.int .i64))] [] [(.hole (.int .i64))] [] (ref32_least_R self)) :=
  fn_printed (G := gs_ref32_least self) (A := .leaf) (cxo_ref32_least self hself) follows Try.func25 (by kernel_rfl) (by kernel_rfl) (by kernel_rfl) (by kernel_rfl) (by kernel_rfl) (CutsOk.leaf _) (by intro v; kernel_rfl)
theorem sd_ref32_least : FnSound Try.prog gl 25 sg_ref32_least := fix_sound (ins := [(.hole (.slice (.int .i64))), (.hole (.int .i64)), (.hole (.int .i64)), (.hole (.int .i64))]) (inObs := []) (outs := [(.hole (.int .i64))]) (outObs := []) (R := ref32_least_R) (by kernel_rfl) st_ref32_least fuel
def sg_ref32_places : Sig := mkSig [(.hole (.slice (.int .i64))), (.hole (.int .i64)), (.hole (.int .i64))] [] [(.hole (.slice (.int .i64))), (.hole .bool)] [] (fixN ref32_places_R fuel)
theorem fk_ref32_places : FnOk Try.prog 26 := ⟨Try.f26, Try.func26, by kernel_rfl, by kernel_rfl⟩
def cx_ref32_places (self : (((List Int) × Int × Int × Unit) × Unit) → Option (((List Int) × Bool × Unit) × Unit)) : Cx := ⟨tys, lk [(24, sg_ref32_sum), (26, mkSig [(.hole (.slice (.int .i64))), (.hole (.int .i64)), (.hole (.int .i64))] [] [(.hole (.slice (.int .i64))), (.hole .bool)] [] self)], 53, 0, [], gl⟩
theorem cxo_ref32_places (self : (((List Int) × Int × Int × Unit) × Unit) → Option (((List Int) × Bool × Unit) × Unit)) (hself : FnSound Try.prog gl 26 (mkSig [(.hole (.slice (.int .i64))), (.hole (.int .i64)), (.hole (.int .i64))] [] [(.hole (.slice (.int .i64))), (.hole .bool)] [] self)) : CxOk Try.prog (cx_ref32_places self) := ⟨tys_ok, FnsOk.cons fk_ref32_sum sd_ref32_sum (FnsOk.cons fk_ref32_places hself (FnsOk.nil))⟩
def gs_ref32_places (self : (((List Int) × Int × Int × Unit) × Unit) → Option (((List Int) × Bool × Unit) × Unit)) : Nat → Option Blk := lk []
theorem st_ref32_places (self : (((List Int) × Int × Int × Unit) × Unit) → Option (((List Int) × Bool × Unit) × Unit)) (hself : FnSound Try.prog gl 26 (mkSig [(.hole (.slice (.int .i64))), (.hole (.int .i64)), (.hole (.int .i64))] [] [(.hole (.slice (.int .i64))), (.hole .bool)] [] self)) : FnSound Try.prog gl 26 (mkSig [(.hole (.slice (.int .i64))), (.hole (.int .i64)), (.hole (.int .i64))] [] [(.hole (.slice (.int .i64))), (.hole .bool)] [] (ref32_places_R self)) :=
  fn_printed (G := gs_ref32_places self) (A := .leaf) (cxo_ref32_places self hself) follows Try.func26 (by kernel_rfl) (by kernel_rfl) (by kernel_rfl) (by kernel_rfl) (by kernel_rfl) (CutsOk.leaf _) (by intro v; kernel_rfl)
theorem sd_ref32_places : FnSound Try.prog gl 26 sg_ref32_places := fix_sound (ins := [(.hole (.slice (.int .i64))), (.hole (.int .i64)), (.hole (.int .i64))]) (inObs := []) (outs := [(.hole (.slice (.int .i64))), (.hole .bool)]) (outObs := []) (R := ref32_places_R) (by kernel_rfl) st_ref32_places fuel
def sg_ref32_ends : Sig := mkSig [(.hole (.slice (.int .i64))), (.hole (.int .i64)), (.hole (.int .i64)), (.hole (.int .i64)), (.hole (.int .i64))] [] [(.hole .bool)] [] (fun p => ref32_ends p.1.1 p.1.2.1 p.1.2.2.1 p.1.2.2.2.1 p.1.2.2.2.2.1)
theorem fk_ref32_ends : FnOk Try.prog 34 := ⟨Try.f34, Try.func34, by kernel_rfl, by kernel_rfl⟩
def cx_ref32_ends : Cx := ⟨tys, lk [(24, sg_ref32_sum)], 24, 0, [], gl⟩
theorem cxo_ref32_ends : CxOk Try.prog (cx_ref32_ends) := ⟨tys_ok, FnsOk.cons fk_ref32_sum sd_ref32_sum (FnsOk.nil)⟩
def gs_ref32_ends : Nat → Option Blk := lk []
theorem sd_ref32_ends : FnSound Try.prog gl 34 sg_ref32_ends :=
  fn_printed (G := gs_ref32_ends) (A := .leaf) (cxo_ref32_ends) follows Try.func34 (by kernel_rfl) (by kernel_rfl) (by kernel_rfl) (by kernel_rfl) (by kernel_rfl) (CutsOk.leaf _) (by intro v; kernel_rfl)
def sg_ref32_trace : Sig := mkSig [(.hole (.slice (.int .i64))), (.hole (.int .i64)), (.hole (.int .i64)), (.hole (.int .i64)), (.hole (.int .i64)), (.own 0)] [(.vec (.int .u8))] [(.own 1)] [.dead, (.vec (.int .u8))] (fixN ref32_trace_R fuel)
theorem fk_ref32_trace : FnOk Try.prog 27 := ⟨Try.f27, Try.func27, by kernel_rfl, by kernel_rfl⟩
def cx_ref32_trace (self : (((List Int) × Int × Int × Int × Int × Unit × Unit) × (List Int) × Unit) → Option ((Unit × Unit) × Unit × (List Int) × Unit)) : Cx := ⟨tys, lk [(34, sg_ref32_ends), (27, mkSig [(.hole (.slice (.int .i64))), (.hole (.int .i64)), (.hole (.int .i64)), (.hole (.int .i64)), (.hole (.int .i64)), (.own 0)] [(.vec (.int .u8))] [(.own 1)] [.dead, (.vec (.int .u8))] self)], 49, 1, [], gl⟩
theorem cxo_ref32_trace (self : (((List Int) × Int × Int × Int × Int × Unit × Unit) × (List Int) × Unit) → Option ((Unit × Unit) × Unit × (List Int) × Unit)) (hself : FnSound Try.prog gl 27 (mkSig [(.hole (.slice (.int .i64))), (.hole (.int .i64)), (.hole (.int .i64)), (.hole (.int .i64)), (.hole (.int .i64)), (.own 0)] [(.vec (.int .u8))] [(.own 1)] [.dead, (.vec (.int .u8))] self)) : CxOk Try.prog (cx_ref32_trace self) := ⟨tys_ok, FnsOk.cons fk_ref32_ends sd_ref32_ends (FnsOk.cons fk_ref32_trace hself (FnsOk.nil))⟩
def gs_ref32_trace (self : (((List Int) × Int × Int × Int × Int × Unit × Unit) × (List Int) × Unit) → Option ((Unit × Unit) × Unit × (List Int) × Unit)) : Nat → Option Blk := lk []
theorem st_ref32_trace (self : (((List Int) × Int × Int × Int × Int × Unit × Unit) × (List Int) × Unit) → Option ((Unit × Unit) × Unit × (List Int) × Unit)) (hself : FnSound Try.prog gl 27 (mkSig [(.hole (.slice (.int .i64))), (.hole (.int .i64)), (.hole (.int .i64)), (.hole (.int .i64)), (.hole (.int .i64)), (.own 0)] [(.vec (.int .u8))] [(.own 1)] [.dead, (.vec (.int .u8))] self)) : FnSound Try.prog gl 27 (mkSig [(.hole (.slice (.int .i64))), (.hole (.int .i64)), (.hole (.int .i64)), (.hole (.int .i64)), (.hole (.int .i64)), (.own 0)] [(.vec (.int .u8))] [(.own 1)] [.dead, (.vec (.int .u8))] (ref32_trace_R self)) :=
  fn_printed (G := gs_ref32_trace self) (A := .leaf) (cxo_ref32_trace self hself) follows Try.func27 (by kernel_rfl) (by kernel_rfl) (by kernel_rfl) (by kernel_rfl) (by kernel_rfl) (CutsOk.leaf _) (by intro v; kernel_rfl)
theorem sd_ref32_trace : FnSound Try.prog gl 27 sg_ref32_trace := fix_sound (ins := [(.hole (.slice (.int .i64))), (.hole (.int .i64)), (.hole (.int .i64)), (.hole (.int .i64)), (.hole (.int .i64)), (.own 0)]) (inObs := [(.vec (.int .u8))]) (outs := [(.own 1)]) (outObs := [.dead, (.vec (.int .u8))]) (R := ref32_trace_R) (by kernel_rfl) st_ref32_trace fuel
def sg_ref32_Best : Sig := mkSig [(.hole (.slice (.int .i64))), (.hole (.int .i64))] [] [(.hole T_3393), (.own 0), (.hole (.int .i64))] [(.vec (.int .u8))] (fun p => ref32_Best p.1.1 p.1.2.1)
theorem fk_ref32_Best : FnOk Try.prog 10 := ⟨Try.f10, Try.func10, by kernel_rfl, by kernel_rfl⟩
def cx_ref32_Best : Cx := ⟨tys, lk [(25, sg_ref32_least), (26, sg_ref32_places), (23, sg_ref32_proper), (24, sg_ref32_sum), (27, sg_ref32_trace)], 47, 0, [], gl⟩
theorem cxo_ref32_Best : CxOk Try.prog (cx_ref32_Best) := ⟨tys_ok, FnsOk.cons fk_ref32_least sd_ref32_least (FnsOk.cons fk_ref32_places sd_ref32_places (FnsOk.cons fk_ref32_proper sd_ref32_proper (FnsOk.cons fk_ref32_sum sd_ref32_sum (FnsOk.cons fk_ref32_trace sd_ref32_trace (FnsOk.nil)))))⟩
def gs_ref32_Best : Nat → Option Blk := lk []
theorem sd_ref32_Best : FnSound Try.prog gl 10 sg_ref32_Best :=
  fn_printed (G := gs_ref32_Best) (A := .leaf) (cxo_ref32_Best) follows Try.func10 (by kernel_rfl) (by kernel_rfl) (by kernel_rfl) (by kernel_rfl) (by kernel_rfl) (CutsOk.leaf _) (by intro v; kernel_rfl)
def sg_ref32_Same : Sig := mkSig [(.hole T_3393), (.hole T_3393)] [] [(.hole .bool)] [] (fun p => ref32_Same p.1.1 p.1.2.1)
theorem fk_ref32_Same : FnOk Try.prog 11 := ⟨Try.f11, Try.func11, by kernel_rfl, by kernel_rfl⟩
def cx_ref32_Same : Cx := ⟨tys, lk [], 38, 0, [], gl⟩
theorem cxo_ref32_Same : CxOk Try.prog (cx_ref32_Same) := ⟨tys_ok, FnsOk.nil⟩
abbrev K0_ref32_Same_L1 : List (Nat × Ty) := []
abbrev TM_ref32_Same_L1 : Tm := ⟨[(2, (.ptr 0 [])), (3, (.ptr 1 [])), (5, (.hole (.int .i64)))], [(.box T_3393 (.hole T_3393)), (.box T_3393 (.hole T_3393))]⟩
abbrev UO_ref32_Same_L1 : Outs := (.more .ret ⟨[(4, (.hole .bool))], []⟩ (.one (.exit 0) ⟨[], []⟩))
def B_ref32_Same_L1 : Blk := frBlk 0 [] K0_ref32_Same_L1 TM_ref32_Same_L1 UO_ref32_Same_L1 (fun k => loopV (fun v => ref32_Same_L1 v))
def gs_ref32_Same : Nat → Option Blk := lk [(1, B_ref32_Same_L1)]
theorem ct_ref32_Same_L1 : CodeSound Try.prog (cx_ref32_Same) (subL (subR (subL (subR (subR (bodyOf Try.f11)))))) (B_ref32_Same_L1).D :=
  loop_printed (G := gs_ref32_Same) (A := .leaf) (T0 := K0_ref32_Same_L1) (T := TM_ref32_Same_L1) (U := UO_ref32_Same_L1) (step := (fun k v => ref32_Same_L1 v)) (cxo_ref32_Same) follows (by kernel_rfl) (by kernel_rfl) (CutsOk.leaf _) (by intro k v; kernel_rfl)
theorem sd_ref32_Same : FnSound Try.prog gl 11 sg_ref32_Same :=
  fn_printed (G := gs_ref32_Same) (A := (.two .leaf (.two .leaf (.two (.two .leaf (.two (.cut 1) .leaf)) .leaf)))) (cxo_ref32_Same) follows Try.func11 (by kernel_rfl) (by kernel_rfl) (by kernel_rfl) (by kernel_rfl) (by kernel_rfl) (CutsOk.two (CutsOk.leaf _) (CutsOk.two (CutsOk.leaf _) (CutsOk.two (CutsOk.two (CutsOk.leaf _) (CutsOk.two (CutsOk.cut (g := B_ref32_Same_L1) (by kernel_rfl) (ct_ref32_Same_L1)) (CutsOk.leaf _))) (CutsOk.leaf _)))) (by intro v; kernel_rfl)
end Go.PE.Ytaeaeaiebbakbaa
end
end

section
set_option maxRecDepth 100000
set_option linter.unusedVariables false
noncomputable section
namespace Go.PE.Ytaeaeaiebbakbaa
open Go.PE Go.Proofs

theorem fk_slices_Clone_int_int : FnOk Try.prog 33 := ⟨Try.f33, Try.func33, by kernel_rfl, by kernel_rfl⟩
def cx_slices_Clone_int_int : Cx := ⟨tys, lk [], 8, 0, [], gl⟩
def sg_slices_Clone_int_int : Sig := cloneSig (.int .i64)
theorem bd_slices_Clone_int_int : Try.f33.body = some (bodyOf Try.f33) := by kernel_rfl
theorem sd_slices_Clone_int_int : FnSound Try.prog gl 33 sg_slices_Clone_int_int :=
  clone_sound (C := cx_slices_Clone_int_int) (T := (.int .i64)) (st := 22) (st2 := 22) (b := (bodyOf Try.f33)) (c1 := (subL (bodyOf Try.f33))) (c2 := (subL (subL (subR (bodyOf Try.f33))))) (X := (subL (subR (subL (subR (bodyOf Try.f33)))))) (R := (subR (subR (bodyOf Try.f33)))) ⟨tys_ok, FnsOk.nil⟩ follows rfl rfl Try.func33 bd_slices_Clone_int_int (by kernel_rfl) (by kernel_rfl) (by kernel_rfl) (by kernel_rfl) (by kernel_rfl) (by kernel_rfl) (by kernel_rfl) (by kernel_rfl) (by kernel_rfl) (by kernel_rfl) (by kernel_rfl) ty_22 (by intro xs; kernel_rfl) (by kernel_rfl) (by intro xs; kernel_rfl)
end Go.PE.Ytaeaeaiebbakbaa
end
end

section
set_option maxRecDepth 100000
set_option linter.unusedVariables false
noncomputable section
namespace Go.PE.Ytaeaeaiebbakbaa
open Go.PE Go.Proofs

def sg_selection_proper : Sig := mkSig [(.hole (.slice (.int .i64))), (.hole (.int .i64))] [] [(.hole .bool)] [] (fun p => selection_proper p.1.1 p.1.2.1)
theorem fk_selection_proper : FnOk Try.prog 28 := ⟨Try.f28, Try.func28, by kernel_rfl, by kernel_rfl⟩
def cx_selection_proper : Cx := ⟨tys, lk [], 26, 0, [], gl⟩
theorem cxo_selection_proper : CxOk Try.prog (cx_selection_proper) := ⟨tys_ok, FnsOk.nil⟩
abbrev K0_selection_proper_L1 : List (Nat × Ty) := [(7, (.slice (.int .i64))), (8, (.int .i64))]
abbrev TM_selection_proper_L1 : Tm := ⟨[(9, (.hole (.int .i64)))], []⟩
abbrev UO_selection_proper_L1 : Outs := (.more .ret ⟨[(4, (.hole .bool))], []⟩ (.one (.exit 0) ⟨[], []⟩))
def B_selection_proper_L1 : Blk := frBlk 0 [1, 7, 8] K0_selection_proper_L1 TM_selection_proper_L1 UO_selection_proper_L1 (fun k => loopV (fun v => selection_proper_L1 k.1 k.2.1 v))
def gs_selection_proper : Nat → Option Blk := lk [(1, B_selection_proper_L1)]
theorem ct_selection_proper_L1 : CodeSound Try.prog (cx_selection_proper) (subL (subR (subL (subR (bodyOf Try.f28))))) (B_selection_proper_L1).D :=
  loop_printed (G := gs_selection_proper) (A := .leaf) (T0 := K0_selection_proper_L1) (T := TM_selection_proper_L1) (U := UO_selection_proper_L1) (step := (fun k v => selection_proper_L1 k.1 k.2.1 v)) (cxo_selection_proper) follows (by kernel_rfl) (by kernel_rfl) (CutsOk.leaf _) (by intro k v; kernel_rfl)
theorem sd_selection_proper : FnSound Try.prog gl 28 sg_selection_proper :=
  fn_printed (G := gs_selection_proper) (A := (.two .leaf (.two (.two .leaf (.two (.cut 1) .leaf)) .leaf))) (cxo_selection_proper) follows Try.func28 (by kernel_rfl) (by kernel_rfl) (by kernel_rfl) (by kernel_rfl) (by kernel_rfl) (CutsOk.two (CutsOk.leaf _) (CutsOk.two (CutsOk.two (CutsOk.leaf _) (CutsOk.two (CutsOk.cut (g := B_selection_proper_L1) (by kernel_rfl) (ct_selection_proper_L1)) (CutsOk.leaf _))) (CutsOk.leaf _))) (by intro v; kernel_rfl)
def sg_selection_total : Sig := mkSig [(.hole (.slice (.int .i64)))] [] [(.hole (.int .i64))] [] (fun p => selection_total p.1.1)
theorem fk_selection_total : FnOk Try.prog 21 := ⟨Try.f21, Try.func21, by kernel_rfl, by kernel_rfl⟩
def cx_selection_total : Cx := ⟨tys, lk [], 17, 0, [], gl⟩
theorem cxo_selection_total : CxOk Try.prog (cx_selection_total) := ⟨tys_ok, FnsOk.nil⟩
abbrev K0_selection_total_L1 : List (Nat × Ty) := [(6, (.slice (.int .i64))), (7, (.int .i64))]
abbrev TM_selection_total_L1 : Tm := ⟨[(3, (.hole (.int .i64))), (8, (.hole (.int .i64)))], []⟩
abbrev UO_selection_total_L1 : Outs := (.one (.exit 0) ⟨[(3, (.hole (.int .i64)))], []⟩)
def B_selection_total_L1 : Blk := frBlk 0 [2, 6, 7] K0_selection_total_L1 TM_selection_total_L1 UO_selection_total_L1 (fun k => loopV (fun v => selection_total_L1 k.1 k.2.1 v))
def gs_selection_total : Nat → Option Blk := lk [(1, B_selection_total_L1)]
theorem ct_selection_total_L1 : CodeSound Try.prog (cx_selection_total) (subL (subR (subL (subR (subR (bodyOf Try.f21)))))) (B_selection_total_L1).D :=
  loop_printed (G := gs_selection_total) (A := .leaf) (T0 := K0_selection_total_L1) (T := TM_selection_total_L1) (U := UO_selection_total_L1) (step := (fun k v => selection_total_L1 k.1 k.2.1 v)) (cxo_selection_total) follows (by kernel_rfl) (by kernel_rfl) (CutsOk.leaf _) (by intro k v; kernel_rfl)
theorem sd_selection_total : FnSound Try.prog gl 21 sg_selection_total :=
  fn_printed (G := gs_selection_total) (A := (.two .leaf (.two .leaf (.two (.two .leaf (.two (.cut 1) .leaf)) .leaf)))) (cxo_selection_total) follows Try.func21 (by kernel_rfl) (by kernel_rfl) (by kernel_rfl) (by kernel_rfl) (by kernel_rfl) (CutsOk.two (CutsOk.leaf _) (CutsOk.two (CutsOk.leaf _) (CutsOk.two (CutsOk.two (CutsOk.leaf _) (CutsOk.two (CutsOk.cut (g := B_selection_total_L1) (by kernel_rfl) (ct_selection_total_L1)) (CutsOk.leaf _))) (CutsOk.leaf _)))) (by intro v; kernel_rfl)
def sg_selection_fault : Sig := mkSig [(.hole (.slice (.int .i64))), (.hole (.int .i64))] [] [(.hole (.int .i64))] [] (fun p => selection_fault p.1.1 p.1.2.1)
theorem fk_selection_fault : FnOk Try.prog 19 := ⟨Try.f19, Try.func19, by kernel_rfl, by kernel_rfl⟩
def cx_selection_fault : Cx := ⟨tys, lk [(28, sg_selection_proper), (21, sg_selection_total)], 19, 0, [], gl⟩
theorem cxo_selection_fault : CxOk Try.prog (cx_selection_fault) := ⟨tys_ok, FnsOk.cons fk_selection_proper sd_selection_proper (FnsOk.cons fk_selection_total sd_selection_total (FnsOk.nil))⟩
def gs_selection_fault : Nat → Option Blk := lk []
theorem sd_selection_fault : FnSound Try.prog gl 19 sg_selection_fault :=
  fn_printed (G := gs_selection_fault) (A := .leaf) (cxo_selection_fault) follows Try.func19 (by kernel_rfl) (by kernel_rfl) (by kernel_rfl) (by kernel_rfl) (by kernel_rfl) (CutsOk.leaf _) (by intro v; kernel_rfl)
def sg_selection_search_look : Sig := mkSig [(.ptr 0 []), (.hole (.int .i64)), (.hole (.int .i64)), (.hole (.int .i64))] [(.box T_a496 (.ncons (.hole (.slice (.int .i64))) (.ncons (.hole (.int .i64)) (.ncons (.own 1) (.ncons (.ncons (.own 2) (.hole (.cons (.int .i64) .nil))) (.hole (.cons .bool .nil))))))), (.vec (.int .i64)), (.vec (.int .i64))] [] [(.box T_a496 (.ncons (.hole (.slice (.int .i64))) (.ncons (.hole (.int .i64)) (.ncons (.own 3) (.ncons (.ncons (.own 4) (.hole (.cons (.int .i64) .nil))) (.hole (.cons .bool .nil))))))), .dead, .dead, (.vec (.int .i64)), (.vec (.int .i64))] (fixN selection_search_look_R fuel)
theorem fk_selection_search_look : FnOk Try.prog 20 := ⟨Try.f20, Try.func20, by kernel_rfl, by kernel_rfl⟩
def cx_selection_search_look (self : ((Unit × Int × Int × Int × Unit) × ((List Int) × Int × Unit × (Unit × Int × Unit) × Bool × Unit) × (List Int) × (List Int) × Unit) → Option ((Unit) × ((List Int) × Int × Unit × (Unit × Int × Unit) × Bool × Unit) × Unit × Unit × (List Int) × (List Int) × Unit)) : Cx := ⟨tys, lk [(33, sg_slices_Clone_int_int), (20, mkSig [(.ptr 0 []), (.hole (.int .i64)), (.hole (.int .i64)), (.hole (.int .i64))] [(.box T_a496 (.ncons (.hole (.slice (.int .i64))) (.ncons (.hole (.int .i64)) (.ncons (.own 1) (.ncons (.ncons (.own 2) (.hole (.cons (.int .i64) .nil))) (.hole (.cons .bool .nil))))))), (.vec (.int .i64)), (.vec (.int .i64))] [] [(.box T_a496 (.ncons (.hole (.slice (.int .i64))) (.ncons (.hole (.int .i64)) (.ncons (.own 3) (.ncons (.ncons (.own 4) (.hole (.cons (.int .i64) .nil))) (.hole (.cons .bool .nil))))))), .dead, .dead, (.vec (.int .i64)), (.vec (.int .i64))] self)], 99, 3, [], gl⟩
theorem cxo_selection_search_look (self : ((Unit × Int × Int × Int × Unit) × ((List Int) × Int × Unit × (Unit × Int × Unit) × Bool × Unit) × (List Int) × (List Int) × Unit) → Option ((Unit) × ((List Int) × Int × Unit × (Unit × Int × Unit) × Bool × Unit) × Unit × Unit × (List Int) × (List Int) × Unit)) (hself : FnSound Try.prog gl 20 (mkSig [(.ptr 0 []), (.hole (.int .i64)), (.hole (.int .i64)), (.hole (.int .i64))] [(.box T_a496 (.ncons (.hole (.slice (.int .i64))) (.ncons (.hole (.int .i64)) (.ncons (.own 1) (.ncons (.ncons (.own 2) (.hole (.cons (.int .i64) .nil))) (.hole (.cons .bool .nil))))))), (.vec (.int .i64)), (.vec (.int .i64))] [] [(.box T_a496 (.ncons (.hole (.slice (.int .i64))) (.ncons (.hole (.int .i64)) (.ncons (.own 3) (.ncons (.ncons (.own 4) (.hole (.cons (.int .i64) .nil))) (.hole (.cons .bool .nil))))))), .dead, .dead, (.vec (.int .i64)), (.vec (.int .i64))] self)) : CxOk Try.prog (cx_selection_search_look self) := ⟨tys_ok, FnsOk.cons fk_slices_Clone_int_int sd_slices_Clone_int_int (FnsOk.cons fk_selection_search_look hself (FnsOk.nil))⟩
abbrev K0_selection_search_look_J1 : List (Nat × Ty) := [(2, (.int .i64))]
abbrev TM_selection_search_look_J1 : Tm := ⟨[(0, (.ptr 0 []))], [(.box T_a496 (.ncons (.hole (.slice (.int .i64))) (.ncons (.hole (.int .i64)) (.ncons (.own 3) (.ncons (.ncons (.own 4) (.hole (.cons (.int .i64) .nil))) (.hole (.cons .bool .nil))))))), .dead, .dead, (.vec (.int .i64)), (.vec (.int .i64))]⟩
abbrev UO_selection_search_look_J1 : Outs := (.one .normal ⟨[(0, (.ptr 0 [])), (28, (.hole .bool))], [(.box T_a496 (.ncons (.hole (.slice (.int .i64))) (.ncons (.hole (.int .i64)) (.ncons (.own 3) (.ncons (.ncons (.own 4) (.hole (.cons (.int .i64) .nil))) (.hole (.cons .bool .nil))))))), .dead, .dead, (.vec (.int .i64)), (.vec (.int .i64))]⟩)
def B_selection_search_look_J1 (self : ((Unit × Int × Int × Int × Unit) × ((List Int) × Int × Unit × (Unit × Int × Unit) × Bool × Unit) × (List Int) × (List Int) × Unit) → Option ((Unit) × ((List Int) × Int × Unit × (Unit × Int × Unit) × Bool × Unit) × Unit × Unit × (List Int) × (List Int) × Unit)) : Blk := frBlk 3 [2] K0_selection_search_look_J1 TM_selection_search_look_J1 UO_selection_search_look_J1 (fun k v => selection_search_look_J1 self k.1 v)
def gs_selection_search_look (self : ((Unit × Int × Int × Int × Unit) × ((List Int) × Int × Unit × (Unit × Int × Unit) × Bool × Unit) × (List Int) × (List Int) × Unit) → Option ((Unit) × ((List Int) × Int × Unit × (Unit × Int × Unit) × Bool × Unit) × Unit × Unit × (List Int) × (List Int) × Unit)) : Nat → Option Blk := lk [(1, B_selection_search_look_J1 self)]
theorem ct_selection_search_look_J1 (self : ((Unit × Int × Int × Int × Unit) × ((List Int) × Int × Unit × (Unit × Int × Unit) × Bool × Unit) × (List Int) × (List Int) × Unit) → Option ((Unit) × ((List Int) × Int × Unit × (Unit × Int × Unit) × Bool × Unit) × Unit × Unit × (List Int) × (List Int) × Unit)) (hself : FnSound Try.prog gl 20 (mkSig [(.ptr 0 []), (.hole (.int .i64)), (.hole (.int .i64)), (.hole (.int .i64))] [(.box T_a496 (.ncons (.hole (.slice (.int .i64))) (.ncons (.hole (.int .i64)) (.ncons (.own 1) (.ncons (.ncons (.own 2) (.hole (.cons (.int .i64) .nil))) (.hole (.cons .bool .nil))))))), (.vec (.int .i64)), (.vec (.int .i64))] [] [(.box T_a496 (.ncons (.hole (.slice (.int .i64))) (.ncons (.hole (.int .i64)) (.ncons (.own 3) (.ncons (.ncons (.own 4) (.hole (.cons (.int .i64) .nil))) (.hole (.cons .bool .nil))))))), .dead, .dead, (.vec (.int .i64)), (.vec (.int .i64))] self)) : CodeSound Try.prog (cx_selection_search_look self) (subL (subL (subL (subR (subL (bodyOf Try.f20)))))) (B_selection_search_look_J1 self).D :=
  join_sound (G := gs_selection_search_look self) (A := .leaf) (T0 := K0_selection_search_look_J1) (T := TM_selection_search_look_J1) (U := UO_selection_search_look_J1) (F := (fun k v => selection_search_look_J1 self k.1 v)) (cxo_selection_search_look self hself) follows (by kernel_rfl) (CutsOk.leaf _) (by intro k v; kernel_rfl)
theorem st_selection_search_look (self : ((Unit × Int × Int × Int × Unit) × ((List Int) × Int × Unit × (Unit × Int × Unit) × Bool × Unit) × (List Int) × (List Int) × Unit) → Option ((Unit) × ((List Int) × Int × Unit × (Unit × Int × Unit) × Bool × Unit) × Unit × Unit × (List Int) × (List Int) × Unit)) (hself : FnSound Try.prog gl 20 (mkSig [(.ptr 0 []), (.hole (.int .i64)), (.hole (.int .i64)), (.hole (.int .i64))] [(.box T_a496 (.ncons (.hole (.slice (.int .i64))) (.ncons (.hole (.int .i64)) (.ncons (.own 1) (.ncons (.ncons (.own 2) (.hole (.cons (.int .i64) .nil))) (.hole (.cons .bool .nil))))))), (.vec (.int .i64)), (.vec (.int .i64))] [] [(.box T_a496 (.ncons (.hole (.slice (.int .i64))) (.ncons (.hole (.int .i64)) (.ncons (.own 3) (.ncons (.ncons (.own 4) (.hole (.cons (.int .i64) .nil))) (.hole (.cons .bool .nil))))))), .dead, .dead, (.vec (.int .i64)), (.vec (.int .i64))] self)) : FnSound Try.prog gl 20 (mkSig [(.ptr 0 []), (.hole (.int .i64)), (.hole (.int .i64)), (.hole (.int .i64))] [(.box T_a496 (.ncons (.hole (.slice (.int .i64))) (.ncons (.hole (.int .i64)) (.ncons (.own 1) (.ncons (.ncons (.own 2) (.hole (.cons (.int .i64) .nil))) (.hole (.cons .bool .nil))))))), (.vec (.int .i64)), (.vec (.int .i64))] [] [(.box T_a496 (.ncons (.hole (.slice (.int .i64))) (.ncons (.hole (.int .i64)) (.ncons (.own 3) (.ncons (.ncons (.own 4) (.hole (.cons (.int .i64) .nil))) (.hole (.cons .bool .nil))))))), .dead, .dead, (.vec (.int .i64)), (.vec (.int .i64))] (selection_search_look_R self)) :=
  fn_printed (G := gs_selection_search_look self) (A := (.two (.two .leaf (.two (.two (.two (.cut 1) .leaf) .leaf) .leaf)) .leaf)) (cxo_selection_search_look self hself) follows Try.func20 (by kernel_rfl) (by kernel_rfl) (by kernel_rfl) (by kernel_rfl) (by kernel_rfl) (CutsOk.two (CutsOk.two (CutsOk.leaf _) (CutsOk.two (CutsOk.two (CutsOk.two (CutsOk.cut (g := B_selection_search_look_J1 self) (by kernel_rfl) (ct_selection_search_look_J1 self hself)) (CutsOk.leaf _)) (CutsOk.leaf _)) (CutsOk.leaf _))) (CutsOk.leaf _)) (by intro v; kernel_rfl)
theorem sd_selection_search_look : FnSound Try.prog gl 20 sg_selection_search_look := fix_sound (ins := [(.ptr 0 []), (.hole (.int .i64)), (.hole (.int .i64)), (.hole (.int .i64))]) (inObs := [(.box T_a496 (.ncons (.hole (.slice (.int .i64))) (.ncons (.hole (.int .i64)) (.ncons (.own 1) (.ncons (.ncons (.own 2) (.hole (.cons (.int .i64) .nil))) (.hole (.cons .bool .nil))))))), (.vec (.int .i64)), (.vec (.int .i64))]) (outs := []) (outObs := [(.box T_a496 (.ncons (.hole (.slice (.int .i64))) (.ncons (.hole (.int .i64)) (.ncons (.own 3) (.ncons (.ncons (.own 4) (.hole (.cons (.int .i64) .nil))) (.hole (.cons .bool .nil))))))), .dead, .dead, (.vec (.int .i64)), (.vec (.int .i64))]) (R := selection_search_look_R) (by kernel_rfl) st_selection_search_look fuel
def sg_selection_certify : Sig := mkSig [(.own 0), (.hole (.slice (.int .i64))), (.hole (.int .i64)), (.hole (.int .i64)), (.hole (.int .i64)), (.hole (.int .i64)), (.hole (.int .i64))] [(.vec (.int .u8))] [(.own 1)] [.dead, (.vec (.int .u8))] (fixN selection_certify_R fuel)
theorem fk_selection_certify : FnOk Try.prog 22 := ⟨Try.f22, Try.func22, by kernel_rfl, by kernel_rfl⟩
def cx_selection_certify (self : ((Unit × (List Int) × Int × Int × Int × Int × Int × Unit) × (List Int) × Unit) → Option ((Unit × Unit) × Unit × (List Int) × Unit)) : Cx := ⟨tys, lk [(22, mkSig [(.own 0), (.hole (.slice (.int .i64))), (.hole (.int .i64)), (.hole (.int .i64)), (.hole (.int .i64)), (.hole (.int .i64)), (.hole (.int .i64))] [(.vec (.int .u8))] [(.own 1)] [.dead, (.vec (.int .u8))] self)], 64, 1, [], gl⟩
theorem cxo_selection_certify (self : ((Unit × (List Int) × Int × Int × Int × Int × Int × Unit) × (List Int) × Unit) → Option ((Unit × Unit) × Unit × (List Int) × Unit)) (hself : FnSound Try.prog gl 22 (mkSig [(.own 0), (.hole (.slice (.int .i64))), (.hole (.int .i64)), (.hole (.int .i64)), (.hole (.int .i64)), (.hole (.int .i64)), (.hole (.int .i64))] [(.vec (.int .u8))] [(.own 1)] [.dead, (.vec (.int .u8))] self)) : CxOk Try.prog (cx_selection_certify self) := ⟨tys_ok, FnsOk.cons fk_selection_certify hself (FnsOk.nil)⟩
abbrev K0_selection_certify_J1 : List (Nat × Ty) := [(2, (.int .i64)), (3, (.int .i64)), (5, (.int .i64)), (6, (.int .i64))]
abbrev TM_selection_certify_J1 : Tm := ⟨[(0, (.own 1))], [.dead, (.vec (.int .u8))]⟩
abbrev UO_selection_certify_J1 : Outs := (.one .normal ⟨[(0, (.own 1)), (30, (.hole .bool))], [.dead, (.vec (.int .u8))]⟩)
def B_selection_certify_J1 (self : ((Unit × (List Int) × Int × Int × Int × Int × Int × Unit) × (List Int) × Unit) → Option ((Unit × Unit) × Unit × (List Int) × Unit)) : Blk := frBlk 1 [1, 2, 3, 4, 5, 6, 14] K0_selection_certify_J1 TM_selection_certify_J1 UO_selection_certify_J1 (fun k v => selection_certify_J1 self k.1 k.2.1 k.2.2.1 k.2.2.2.1 v)
def gs_selection_certify (self : ((Unit × (List Int) × Int × Int × Int × Int × Int × Unit) × (List Int) × Unit) → Option ((Unit × Unit) × Unit × (List Int) × Unit)) : Nat → Option Blk := lk [(1, B_selection_certify_J1 self)]
theorem ct_selection_certify_J1 (self : ((Unit × (List Int) × Int × Int × Int × Int × Int × Unit) × (List Int) × Unit) → Option ((Unit × Unit) × Unit × (List Int) × Unit)) (hself : FnSound Try.prog gl 22 (mkSig [(.own 0), (.hole (.slice (.int .i64))), (.hole (.int .i64)), (.hole (.int .i64)), (.hole (.int .i64)), (.hole (.int .i64)), (.hole (.int .i64))] [(.vec (.int .u8))] [(.own 1)] [.dead, (.vec (.int .u8))] self)) : CodeSound Try.prog (cx_selection_certify self) (subL (subL (subR (bodyOf Try.f22)))) (B_selection_certify_J1 self).D :=
  join_sound (G := gs_selection_certify self) (A := .leaf) (T0 := K0_selection_certify_J1) (T := TM_selection_certify_J1) (U := UO_selection_certify_J1) (F := (fun k v => selection_certify_J1 self k.1 k.2.1 k.2.2.1 k.2.2.2.1 v)) (cxo_selection_certify self hself) follows (by kernel_rfl) (CutsOk.leaf _) (by intro k v; kernel_rfl)
theorem st_selection_certify (self : ((Unit × (List Int) × Int × Int × Int × Int × Int × Unit) × (List Int) × Unit) → Option ((Unit × Unit) × Unit × (List Int) × Unit)) (hself : FnSound Try.prog gl 22 (mkSig [(.own 0), (.hole (.slice (.int .i64))), (.hole (.int .i64)), (.hole (.int .i64)), (.hole (.int .i64)), (.hole (.int .i64)), (.hole (.int .i64))] [(.vec (.int .u8))] [(.own 1)] [.dead, (.vec (.int .u8))] self)) : FnSound Try.prog gl 22 (mkSig [(.own 0), (.hole (.slice (.int .i64))), (.hole (.int .i64)), (.hole (.int .i64)), (.hole (.int .i64)), (.hole (.int .i64)), (.hole (.int .i64))] [(.vec (.int .u8))] [(.own 1)] [.dead, (.vec (.int .u8))] (selection_certify_R self)) :=
  fn_printed (G := gs_selection_certify self) (A := (.two .leaf (.two (.two (.cut 1) .leaf) .leaf))) (cxo_selection_certify self hself) follows Try.func22 (by kernel_rfl) (by kernel_rfl) (by kernel_rfl) (by kernel_rfl) (by kernel_rfl) (CutsOk.two (CutsOk.leaf _) (CutsOk.two (CutsOk.two (CutsOk.cut (g := B_selection_certify_J1 self) (by kernel_rfl) (ct_selection_certify_J1 self hself)) (CutsOk.leaf _)) (CutsOk.leaf _))) (by intro v; kernel_rfl)
theorem sd_selection_certify : FnSound Try.prog gl 22 sg_selection_certify := fix_sound (ins := [(.own 0), (.hole (.slice (.int .i64))), (.hole (.int .i64)), (.hole (.int .i64)), (.hole (.int .i64)), (.hole (.int .i64)), (.hole (.int .i64))]) (inObs := [(.vec (.int .u8))]) (outs := [(.own 1)]) (outObs := [.dead, (.vec (.int .u8))]) (R := selection_certify_R) (by kernel_rfl) st_selection_certify fuel
def sg_selection_Best : Sig := mkSig [(.hole (.slice (.int .i64))), (.hole (.int .i64))] [] [(.ncons (.own 0) (.hole (.cons (.int .i64) .nil))), (.own 1), (.hole (.int .i64))] [(.vec (.int .i64)), (.vec (.int .u8))] (fun p => selection_Best p.1.1 p.1.2.1)
theorem fk_selection_Best : FnOk Try.prog 9 := ⟨Try.f9, Try.func9, by kernel_rfl, by kernel_rfl⟩
def cx_selection_Best : Cx := ⟨tys, lk [(22, sg_selection_certify), (19, sg_selection_fault), (20, sg_selection_search_look), (21, sg_selection_total)], 38, 0, [], gl⟩
theorem cxo_selection_Best : CxOk Try.prog (cx_selection_Best) := ⟨tys_ok, FnsOk.cons fk_selection_certify sd_selection_certify (FnsOk.cons fk_selection_fault sd_selection_fault (FnsOk.cons fk_selection_search_look sd_selection_search_look (FnsOk.cons fk_selection_total sd_selection_total (FnsOk.nil))))⟩
def gs_selection_Best : Nat → Option Blk := lk []
theorem sd_selection_Best : FnSound Try.prog gl 9 sg_selection_Best :=
  fn_printed (G := gs_selection_Best) (A := .leaf) (cxo_selection_Best) follows Try.func9 (by kernel_rfl) (by kernel_rfl) (by kernel_rfl) (by kernel_rfl) (by kernel_rfl) (CutsOk.leaf _) (by intro v; kernel_rfl)
end Go.PE.Ytaeaeaiebbakbaa
end
end

section
set_option maxRecDepth 100000
set_option linter.unusedVariables false
noncomputable section
namespace Go.PE.Ytaeaeaiebbakbaa
open Go.PE Go.Proofs

def sg_law32_sane : Sig := mkSig [] [] [(.hole .bool)] [] (fun p => law32_sane)
theorem fk_law32_sane : FnOk Try.prog 7 := ⟨Try.f7, Try.func7, by kernel_rfl, by kernel_rfl⟩
def cx_law32_sane : Cx := ⟨tys, lk [(9, sg_selection_Best)], 48, 0, [], gl⟩
theorem cxo_law32_sane : CxOk Try.prog (cx_law32_sane) := ⟨tys_ok, FnsOk.cons fk_selection_Best sd_selection_Best (FnsOk.nil)⟩
def gs_law32_sane : Nat → Option Blk := lk []
theorem sd_law32_sane : FnSound Try.prog gl 7 sg_law32_sane :=
  fn_printed (G := gs_law32_sane) (A := .leaf) (cxo_law32_sane) follows Try.func7 (by kernel_rfl) (by kernel_rfl) (by kernel_rfl) (by kernel_rfl) (by kernel_rfl) (CutsOk.leaf _) (by intro v; kernel_rfl)
def sg_law32_made : Sig := mkSig [(.hole (.slice (.int .i64))), (.hole (.int .i64))] [] [(.own 0), (.hole (.int .i64))] [(.vec (.int .i64))] (fun p => law32_made p.1.1 p.1.2.1)
theorem fk_law32_made : FnOk Try.prog 8 := ⟨Try.f8, Try.func8, by kernel_rfl, by kernel_rfl⟩
def cx_law32_made : Cx := ⟨tys, lk [(18, sg_mill_Deck_Next), (17, sg_mill_New)], 29, 0, [], gl⟩
theorem cxo_law32_made : CxOk Try.prog (cx_law32_made) := ⟨tys_ok, FnsOk.cons fk_mill_Deck_Next sd_mill_Deck_Next (FnsOk.cons fk_mill_New sd_mill_New (FnsOk.nil))⟩
abbrev K0_law32_made_L1 : List (Nat × Ty) := []
abbrev TM_law32_made_L1 : Tm := ⟨[(6, (.ptr 0 [])), (7, (.own 1)), (8, (.hole (.int .i64)))], [(.box T_3393 (.hole T_3393)), (.vec (.int .i64))]⟩
abbrev UO_law32_made_L1 : Outs := (.one (.exit 0) ⟨[(6, (.ptr 0 [])), (7, (.own 1))], [(.box T_3393 (.hole T_3393)), (.vec (.int .i64))]⟩)
def B_law32_made_L1 : Blk := frBlk 0 [4, 5] K0_law32_made_L1 TM_law32_made_L1 UO_law32_made_L1 (fun k => loopV (fun v => law32_made_L1 v))
def gs_law32_made : Nat → Option Blk := lk [(1, B_law32_made_L1)]
theorem ct_law32_made_L1 : CodeSound Try.prog (cx_law32_made) (subL (subR (subL (subR (subR (subR (bodyOf Try.f8))))))) (B_law32_made_L1).D :=
  loop_printed (G := gs_law32_made) (A := .leaf) (T0 := K0_law32_made_L1) (T := TM_law32_made_L1) (U := UO_law32_made_L1) (step := (fun k v => law32_made_L1 v)) (cxo_law32_made) follows (by kernel_rfl) (by kernel_rfl) (CutsOk.leaf _) (by intro k v; kernel_rfl)
theorem sd_law32_made : FnSound Try.prog gl 8 sg_law32_made :=
  fn_printed (G := gs_law32_made) (A := (.two .leaf (.two .leaf (.two .leaf (.two (.two .leaf (.two (.cut 1) .leaf)) .leaf))))) (cxo_law32_made) follows Try.func8 (by kernel_rfl) (by kernel_rfl) (by kernel_rfl) (by kernel_rfl) (by kernel_rfl) (CutsOk.two (CutsOk.leaf _) (CutsOk.two (CutsOk.leaf _) (CutsOk.two (CutsOk.leaf _) (CutsOk.two (CutsOk.two (CutsOk.leaf _) (CutsOk.two (CutsOk.cut (g := B_law32_made_L1) (by kernel_rfl) (ct_law32_made_L1)) (CutsOk.leaf _))) (CutsOk.leaf _))))) (by intro v; kernel_rfl)
def sg_law32_SelectionBest : Sig := mkSig [(.hole (.slice (.int .i64))), (.hole (.slice (.int .i64))), (.hole (.int .i64))] [] [(.hole .bool)] [] (fun p => law32_SelectionBest p.1.1 p.1.2.1 p.1.2.2.1)
theorem fk_law32_SelectionBest : FnOk Try.prog 3 := ⟨Try.f3, Try.func3, by kernel_rfl, by kernel_rfl⟩
def cx_law32_SelectionBest : Cx := ⟨tys, lk [(8, sg_law32_made), (7, sg_law32_sane), (10, sg_ref32_Best), (11, sg_ref32_Same), (9, sg_selection_Best)], 82, 0, [], gl⟩
theorem cxo_law32_SelectionBest : CxOk Try.prog (cx_law32_SelectionBest) := ⟨tys_ok, FnsOk.cons fk_law32_made sd_law32_made (FnsOk.cons fk_law32_sane sd_law32_sane (FnsOk.cons fk_ref32_Best sd_ref32_Best (FnsOk.cons fk_ref32_Same sd_ref32_Same (FnsOk.cons fk_selection_Best sd_selection_Best (FnsOk.nil)))))⟩
abbrev K0_law32_SelectionBest_J1 : List (Nat × Ty) := [(1, (.slice (.int .i64)))]
abbrev TM_law32_SelectionBest_J1 : Tm := ⟨[], []⟩
abbrev UO_law32_SelectionBest_J1 : Outs := (.more .ret ⟨[(6, (.hole .bool))], []⟩ (.one .normal ⟨[], []⟩))
def B_law32_SelectionBest_J1 : Blk := frBlk 0 [0, 1, 2] K0_law32_SelectionBest_J1 TM_law32_SelectionBest_J1 UO_law32_SelectionBest_J1 (fun k v => law32_SelectionBest_J1 k.1 v)
abbrev K0_law32_SelectionBest_L3 : List (Nat × Ty) := [(10, (.slice (.int .i64))), (45, (.int .i64))]
abbrev TM_law32_SelectionBest_L3 : Tm := ⟨[(36, (.own 0)), (44, (.own 1)), (46, (.hole (.int .i64)))], [(.vec (.slice (.int .i64))), (.vec (.int .i64))]⟩
abbrev UO_law32_SelectionBest_L3 : Outs := (.more .ret ⟨[(6, (.hole .bool))], []⟩ (.one (.exit 2) ⟨[(36, (.own 0))], [(.vec (.slice (.int .i64)))]⟩))
def B_law32_SelectionBest_L3 : Blk := frBlk 0 [2, 8, 10, 37, 38, 45] K0_law32_SelectionBest_L3 TM_law32_SelectionBest_L3 UO_law32_SelectionBest_L3 (fun k => loopV (fun v => law32_SelectionBest_L3 k.1 k.2.1 v))
abbrev K0_law32_SelectionBest_L2 : List (Nat × Ty) := [(2, (.int .i64)), (8, (.int .i64)), (37, (.int .i64))]
abbrev TM_law32_SelectionBest_L2 : Tm := ⟨[(36, (.own 0)), (38, (.hole (.int .i64)))], [(.vec (.slice (.int .i64)))]⟩
abbrev UO_law32_SelectionBest_L2 : Outs := (.more .ret ⟨[(6, (.hole .bool))], []⟩ (.one (.exit 0) ⟨[], []⟩))
def B_law32_SelectionBest_L2 : Blk := frBlk 0 [2, 8, 37] K0_law32_SelectionBest_L2 TM_law32_SelectionBest_L2 UO_law32_SelectionBest_L2 (fun k => loopV (fun v => law32_SelectionBest_L2 k.1 k.2.1 k.2.2.1 v))
def gs_law32_SelectionBest : Nat → Option Blk := lk [(1, B_law32_SelectionBest_J1), (3, B_law32_SelectionBest_L3), (2, B_law32_SelectionBest_L2)]
theorem ct_law32_SelectionBest_L3 : CodeSound Try.prog ((cx_law32_SelectionBest).fr [2, 8, 37]) (subL (subR (subR (subL (subL (subR (subR (subL (subL (subR (subL (subR (subR (subR (subR (bodyOf Try.f3)))))))))))))))) (B_law32_SelectionBest_L3).D :=
  loop_printed (G := gs_law32_SelectionBest) (A := .leaf) (T0 := K0_law32_SelectionBest_L3) (T := TM_law32_SelectionBest_L3) (U := UO_law32_SelectionBest_L3) (step := (fun k v => law32_SelectionBest_L3 k.1 k.2.1 v)) ((cxo_law32_SelectionBest).fr [2, 8, 37]) follows (by kernel_rfl) (by kernel_rfl) (CutsOk.leaf _) (by intro k v; kernel_rfl)
theorem ct_law32_SelectionBest_L2 : CodeSound Try.prog (cx_law32_SelectionBest) (subL (subR (subL (subR (subR (subR (subR (bodyOf Try.f3)))))))) (B_law32_SelectionBest_L2).D :=
  loop_printed (G := gs_law32_SelectionBest) (A := (.two .leaf (.two .leaf (.two (.two (.two .leaf (.two .leaf (.two (.cut 3) .leaf))) .leaf) .leaf)))) (T0 := K0_law32_SelectionBest_L2) (T := TM_law32_SelectionBest_L2) (U := UO_law32_SelectionBest_L2) (step := (fun k v => law32_SelectionBest_L2 k.1 k.2.1 k.2.2.1 v)) (cxo_law32_SelectionBest) follows (by kernel_rfl) (by kernel_rfl) (CutsOk.two (CutsOk.leaf _) (CutsOk.two (CutsOk.leaf _) (CutsOk.two (CutsOk.two (CutsOk.two (CutsOk.leaf _) (CutsOk.two (CutsOk.leaf _) (CutsOk.two (CutsOk.cut (g := B_law32_SelectionBest_L3) (by kernel_rfl) (ct_law32_SelectionBest_L3)) (CutsOk.leaf _)))) (CutsOk.leaf _)) (CutsOk.leaf _)))) (by intro k v; kernel_rfl)
theorem ct_law32_SelectionBest_J1 : CodeSound Try.prog (cx_law32_SelectionBest) (subL (subR (subR (bodyOf Try.f3)))) (B_law32_SelectionBest_J1).D :=
  join_sound (G := gs_law32_SelectionBest) (A := .leaf) (T0 := K0_law32_SelectionBest_J1) (T := TM_law32_SelectionBest_J1) (U := UO_law32_SelectionBest_J1) (F := (fun k v => law32_SelectionBest_J1 k.1 v)) (cxo_law32_SelectionBest) follows (by kernel_rfl) (CutsOk.leaf _) (by intro k v; kernel_rfl)
theorem sd_law32_SelectionBest : FnSound Try.prog gl 3 sg_law32_SelectionBest :=
  fn_printed (G := gs_law32_SelectionBest) (A := (.two .leaf (.two .leaf (.two (.cut 1) (.two .leaf (.two (.two .leaf (.two (.cut 2) .leaf)) .leaf)))))) (cxo_law32_SelectionBest) follows Try.func3 (by kernel_rfl) (by kernel_rfl) (by kernel_rfl) (by kernel_rfl) (by kernel_rfl) (CutsOk.two (CutsOk.leaf _) (CutsOk.two (CutsOk.leaf _) (CutsOk.two (CutsOk.cut (g := B_law32_SelectionBest_J1) (by kernel_rfl) (ct_law32_SelectionBest_J1)) (CutsOk.two (CutsOk.leaf _) (CutsOk.two (CutsOk.two (CutsOk.leaf _) (CutsOk.two (CutsOk.cut (g := B_law32_SelectionBest_L2) (by kernel_rfl) (ct_law32_SelectionBest_L2)) (CutsOk.leaf _))) (CutsOk.leaf _)))))) (by intro v; kernel_rfl)
end Go.PE.Ytaeaeaiebbakbaa
end
end
