/- The functions of the program do what their printed texts say; no condition. -/
import Derived.Test.YtaeaeaiebbakbaaProg
import Derived.Test.YtaeaeaiebbakbaaQc
import Derived.Test.YtaeaeaiebbakbaaPa
import Derived.KernelRfl
section
set_option maxRecDepth 100000
noncomputable section
namespace Go.PE.Ytaeaeaiebbakbaa
open Go.PE Go.Proofs
def gl : Gl := fun _ => none
def tys : Nat → Option Ty := lk [(2, (.int .i64)), (3, (.int .i64)), (4, .bool), (5, (.int .u8)), (9, .str), (22, (.slice (.int .i64))), (23, (.slice (.int .i64))), (27, (.slice (.slice (.int .i64)))), (29, T_3393), (30, (.slice (.int .u8))), (31, (.int .i64)), (37, (.slice (.slice (.int .u8)))), (44, .ptr), (49, T_a496), (60, (.int .u64)), (63, (.slice .bool)), (65, T_3393), (66, .ptr), (73, (.int .i64)), (84, (.int .u64)), (85, (.int .u64)), (89, .ptr), (92, .ptr)]
theorem follows : Try.prog.follows .mixedOrders = true := by kernel_rfl
theorem ty_2 : fitTy Try.prog (.int .i64) (.id 2) = true := by kernel_rfl
theorem ty_3 : fitTy Try.prog (.int .i64) (.id 3) = true := by kernel_rfl
theorem ty_4 : fitTy Try.prog .bool (.id 4) = true := by kernel_rfl
theorem ty_5 : fitTy Try.prog (.int .u8) (.id 5) = true := by kernel_rfl
theorem ty_9 : fitTy Try.prog .str (.id 9) = true := by kernel_rfl
theorem ty_22 : fitTy Try.prog (.slice (.int .i64)) (.id 22) = true := by kernel_rfl
theorem ty_23 : fitTy Try.prog (.slice (.int .i64)) (.id 23) = true := by kernel_rfl
theorem ty_27 : fitTy Try.prog (.slice (.slice (.int .i64))) (.id 27) = true := by kernel_rfl
theorem ty_29 : fitTy Try.prog T_3393 (.id 29) = true := by kernel_rfl
theorem ty_30 : fitTy Try.prog (.slice (.int .u8)) (.id 30) = true := by kernel_rfl
theorem ty_31 : fitTy Try.prog (.int .i64) (.id 31) = true := by kernel_rfl
theorem ty_37 : fitTy Try.prog (.slice (.slice (.int .u8))) (.id 37) = true := by kernel_rfl
theorem ty_44 : fitTy Try.prog .ptr (.id 44) = true := by kernel_rfl
theorem ty_49 : fitTy Try.prog T_a496 (.id 49) = true := by kernel_rfl
theorem ty_60 : fitTy Try.prog (.int .u64) (.id 60) = true := by kernel_rfl
theorem ty_63 : fitTy Try.prog (.slice .bool) (.id 63) = true := by kernel_rfl
theorem ty_65 : fitTy Try.prog T_3393 (.id 65) = true := by kernel_rfl
theorem ty_66 : fitTy Try.prog .ptr (.id 66) = true := by kernel_rfl
theorem ty_73 : fitTy Try.prog (.int .i64) (.id 73) = true := by kernel_rfl
theorem ty_84 : fitTy Try.prog (.int .u64) (.id 84) = true := by kernel_rfl
theorem ty_85 : fitTy Try.prog (.int .u64) (.id 85) = true := by kernel_rfl
theorem ty_89 : fitTy Try.prog .ptr (.id 89) = true := by kernel_rfl
theorem ty_92 : fitTy Try.prog .ptr (.id 92) = true := by kernel_rfl
theorem dep : Nat.ble 62 Try.prog.depth = true := by kernel_rfl
theorem tys_ok : TyOk Try.prog tys := TyOk.lk_cons ty_2 (TyOk.lk_cons ty_3 (TyOk.lk_cons ty_4 (TyOk.lk_cons ty_5 (TyOk.lk_cons ty_9 (TyOk.lk_cons ty_22 (TyOk.lk_cons ty_23 (TyOk.lk_cons ty_27 (TyOk.lk_cons ty_29 (TyOk.lk_cons ty_30 (TyOk.lk_cons ty_31 (TyOk.lk_cons ty_37 (TyOk.lk_cons ty_44 (TyOk.lk_cons ty_49 (TyOk.lk_cons ty_60 (TyOk.lk_cons ty_63 (TyOk.lk_cons ty_65 (TyOk.lk_cons ty_66 (TyOk.lk_cons ty_73 (TyOk.lk_cons ty_84 (TyOk.lk_cons ty_85 (TyOk.lk_cons ty_89 (TyOk.lk_cons ty_92 (TyOk.lk_nil (Nat.le_of_ble_eq_true dep))))))))))))))))))))))))
end Go.PE.Ytaeaeaiebbakbaa
end
end

section
set_option maxRecDepth 100000
set_option linter.unusedVariables false
noncomputable section
namespace Go.PE.Ytaeaeaiebbakbaa
open Go.PE Go.Proofs

def sg_mill_New : Sig := mkSig [(.hole (.slice (.int .i64)))] [] [(.ptr 0 [])] [(.box T_3393 (.hole T_3393))] (fun p => mill_New p.1.1)
theorem fk_mill_New : FnOk Try.prog 17 := ⟨Try.f17, Try.func17, by kernel_rfl, by kernel_rfl⟩
def cx_mill_New : Cx := ⟨tys, lk [], 6, 0, [], gl, []⟩
theorem cxo_mill_New : CxOk Try.prog (cx_mill_New) := ⟨tys_ok, FnsAll.nil⟩
def gs_mill_New : Nat → Option Blk := lk []
theorem sd_mill_New : FnSound Try.prog gl 17 sg_mill_New :=
  fn_printed (G := gs_mill_New) (A := .leaf) (cxo_mill_New) follows Try.func17 (by kernel_rfl) (by kernel_rfl) (by kernel_rfl) (by kernel_rfl) (by kernel_rfl) (CutsOk.leaf _) (by intro v; kernel_rfl)
def sg_mill_Deck_Left : Sig := mkSig [(.ptr 0 [])] [(.box T_3393 (.hole T_3393))] [(.hole .bool)] [(.box T_3393 (.hole T_3393))] (fun p => mill_Deck_Left p.2.1)
theorem fk_mill_Deck_Left : FnOk Try.prog 32 := ⟨Try.f32, Try.func32, by kernel_rfl, by kernel_rfl⟩
def cx_mill_Deck_Left : Cx := ⟨tys, lk [], 13, 1, [], gl, []⟩
theorem cxo_mill_Deck_Left : CxOk Try.prog (cx_mill_Deck_Left) := ⟨tys_ok, FnsAll.nil⟩
def gs_mill_Deck_Left : Nat → Option Blk := lk []
theorem sd_mill_Deck_Left : FnSound Try.prog gl 32 sg_mill_Deck_Left :=
  fn_printed (G := gs_mill_Deck_Left) (A := .leaf) (cxo_mill_Deck_Left) follows Try.func32 (by kernel_rfl) (by kernel_rfl) (by kernel_rfl) (by kernel_rfl) (by kernel_rfl) (CutsOk.leaf _) (by intro v; kernel_rfl)
def sg_mill_Mod : Sig := mkSig [(.hole (.int .i64)), (.hole (.int .i64))] [] [(.hole (.int .i64))] [] (fun p => mill_Mod p.1.1 p.1.2.1)
theorem fk_mill_Mod : FnOk Try.prog 12 := ⟨Try.f12, Try.func12, by kernel_rfl, by kernel_rfl⟩
def cx_mill_Mod : Cx := ⟨tys, lk [], 15, 0, [], gl, []⟩
theorem cxo_mill_Mod : CxOk Try.prog (cx_mill_Mod) := ⟨tys_ok, FnsAll.nil⟩
def gs_mill_Mod : Nat → Option Blk := lk []
theorem sd_mill_Mod : FnSound Try.prog gl 12 sg_mill_Mod :=
  fn_printed (G := gs_mill_Mod) (A := .leaf) (cxo_mill_Mod) follows Try.func12 (by kernel_rfl) (by kernel_rfl) (by kernel_rfl) (by kernel_rfl) (by kernel_rfl) (CutsOk.leaf _) (by intro v; kernel_rfl)
def sg_mill_Deck_Next : Sig := mkSig [(.ptr 0 []), (.hole (.int .i64))] [(.box T_3393 (.hole T_3393))] [(.hole (.int .i64))] [(.box T_3393 (.hole T_3393))] (fun p => mill_Deck_Next p.1.2.1 p.2.1)
theorem fk_mill_Deck_Next : FnOk Try.prog 18 := ⟨Try.f18, Try.func18, by kernel_rfl, by kernel_rfl⟩
def cx_mill_Deck_Next : Cx := ⟨tys, lk [(32 + 100000 * 0, sg_mill_Deck_Left), (12 + 100000 * 0, sg_mill_Mod)], 28, 1, [], gl, []⟩
theorem cxo_mill_Deck_Next : CxOk Try.prog (cx_mill_Deck_Next) := ⟨tys_ok, FnsAll.cons 0 rfl fk_mill_Deck_Left sd_mill_Deck_Left (FnsAll.cons 0 rfl fk_mill_Mod sd_mill_Mod (FnsAll.nil))⟩
def gs_mill_Deck_Next : Nat → Option Blk := lk []
theorem sd_mill_Deck_Next : FnSound Try.prog gl 18 sg_mill_Deck_Next :=
  fn_printed (G := gs_mill_Deck_Next) (A := .leaf) (cxo_mill_Deck_Next) follows Try.func18 (by kernel_rfl) (by kernel_rfl) (by kernel_rfl) (by kernel_rfl) (by kernel_rfl) (CutsOk.leaf _) (by intro v; kernel_rfl)
end Go.PE.Ytaeaeaiebbakbaa
end
end

section
set_option maxRecDepth 100000
set_option linter.unusedVariables false
noncomputable section
namespace Go.PE.Ytaeaeaiebbakbaa
open Go.PE Go.Proofs

def sg_ref32_proper : Sig := mkSig [(.hole (.slice (.int .i64))), (.hole (.int .i64))] [] [(.hole (.int .i64))] [] (fun p => ref32_proper p.1.1 p.1.2.1)
theorem fk_ref32_proper : FnOk Try.prog 23 := ⟨Try.f23, Try.func23, by kernel_rfl, by kernel_rfl⟩
def cx_ref32_proper : Cx := ⟨tys, lk [], 33, 0, [], gl, []⟩
theorem cxo_ref32_proper : CxOk Try.prog (cx_ref32_proper) := ⟨tys_ok, FnsAll.nil⟩
abbrev K0_ref32_proper_L1 : List (Nat × Ty) := [(0, (.slice (.int .i64)))]
abbrev TM_ref32_proper_L1 : Tm := ⟨[(5, (.hole (.int .i64)))], []⟩
abbrev UO_ref32_proper_L1 : Outs := (.more .ret ⟨[(4, (.hole (.int .i64)))], []⟩ (.one (.exit 0) ⟨[], []⟩))
def B_ref32_proper_L1 : Blk := frBlk 0 [0, 1] K0_ref32_proper_L1 TM_ref32_proper_L1 UO_ref32_proper_L1 (fun k => loopV (fun v => ref32_proper_L1 k.1 v))
def gs_ref32_proper : Nat → Option Blk := lk [(1, B_ref32_proper_L1)]
theorem ct_ref32_proper_L1 : CodeSound Try.prog (cx_ref32_proper) (subL (subR (subL (subR (subR (bodyOf Try.f23)))))) (B_ref32_proper_L1).D :=
  loop_printed (G := gs_ref32_proper) (A := .leaf) (T0 := K0_ref32_proper_L1) (T := TM_ref32_proper_L1) (U := UO_ref32_proper_L1) (step := (fun k v => ref32_proper_L1 k.1 v)) (cxo_ref32_proper) follows (by kernel_rfl) (by kernel_rfl) (CutsOk.leaf _) (by intro k v; kernel_rfl)
theorem sd_ref32_proper : FnSound Try.prog gl 23 sg_ref32_proper :=
  fn_printed (G := gs_ref32_proper) (A := (.two .leaf (.two .leaf (.two (.two .leaf (.two (.cut 1) .leaf)) .leaf)))) (cxo_ref32_proper) follows Try.func23 (by kernel_rfl) (by kernel_rfl) (by kernel_rfl) (by kernel_rfl) (by kernel_rfl) (CutsOk.two (CutsOk.leaf _) (CutsOk.two (CutsOk.leaf _) (CutsOk.two (CutsOk.two (CutsOk.leaf _) (CutsOk.two (CutsOk.cut (g := B_ref32_proper_L1) (by kernel_rfl) (ct_ref32_proper_L1)) (CutsOk.leaf _))) (CutsOk.leaf _)))) (by intro v; kernel_rfl)
def sg_ref32_sum : Sig := mkSig [(.hole (.slice (.int .i64)))] [] [(.hole (.int .i64))] [] (fun p => ref32_sum p.1.1)
theorem fk_ref32_sum : FnOk Try.prog 24 := ⟨Try.f24, Try.func24, by kernel_rfl, by kernel_rfl⟩
def cx_ref32_sum : Cx := ⟨tys, lk [], 18, 0, [], gl, []⟩
theorem cxo_ref32_sum : CxOk Try.prog (cx_ref32_sum) := ⟨tys_ok, FnsAll.nil⟩
abbrev K0_ref32_sum_L1 : List (Nat × Ty) := [(0, (.slice (.int .i64)))]
abbrev TM_ref32_sum_L1 : Tm := ⟨[(3, (.hole (.int .i64))), (4, (.hole (.int .i64)))], []⟩
abbrev UO_ref32_sum_L1 : Outs := (.one (.exit 0) ⟨[(3, (.hole (.int .i64)))], []⟩)
def B_ref32_sum_L1 : Blk := frBlk 0 [0, 2] K0_ref32_sum_L1 TM_ref32_sum_L1 UO_ref32_sum_L1 (fun k => loopV (fun v => ref32_sum_L1 k.1 v))
def gs_ref32_sum : Nat → Option Blk := lk [(1, B_ref32_sum_L1)]
theorem ct_ref32_sum_L1 : CodeSound Try.prog (cx_ref32_sum) (subL (subR (subL (subR (subR (bodyOf Try.f24)))))) (B_ref32_sum_L1).D :=
  loop_printed (G := gs_ref32_sum) (A := .leaf) (T0 := K0_ref32_sum_L1) (T := TM_ref32_sum_L1) (U := UO_ref32_sum_L1) (step := (fun k v => ref32_sum_L1 k.1 v)) (cxo_ref32_sum) follows (by kernel_rfl) (by kernel_rfl) (CutsOk.leaf _) (by intro k v; kernel_rfl)
theorem sd_ref32_sum : FnSound Try.prog gl 24 sg_ref32_sum :=
  fn_printed (G := gs_ref32_sum) (A := (.two .leaf (.two .leaf (.two (.two .leaf (.two (.cut 1) .leaf)) .leaf)))) (cxo_ref32_sum) follows Try.func24 (by kernel_rfl) (by kernel_rfl) (by kernel_rfl) (by kernel_rfl) (by kernel_rfl) (CutsOk.two (CutsOk.leaf _) (CutsOk.two (CutsOk.leaf _) (CutsOk.two (CutsOk.two (CutsOk.leaf _) (CutsOk.two (CutsOk.cut (g := B_ref32_sum_L1) (by kernel_rfl) (ct_ref32_sum_L1)) (CutsOk.leaf _))) (CutsOk.leaf _)))) (by intro v; kernel_rfl)
def sg_ref32_least : Sig := mkSig [(.hole (.slice (.int .i64))), (.hole (.int .i64)), (.hole (.int .i64)), (.hole (.int .i64))] [] [(.hole (.int .i64))] [] (fixN ref32_least_R fuel)
theorem fk_ref32_least : FnOk Try.prog 25 := ⟨Try.f25, Try.func25, by kernel_rfl, by kernel_rfl⟩
def cx_ref32_least (self : (((List Int) × Int × Int × Int × Unit) × Unit) → Option ((Int × Unit) × Unit)) : Cx := ⟨tys, lk [(24 + 100000 * 0, sg_ref32_sum), (25 + 100000 * 0, mkSig [(.hole (.slice (.int .i64))), (.hole (.int .i64)), (.hole (.int .i64)), (.hole (.int .i64))] [] [(.hole (.int .i64))] [] self)], 43, 0, [], gl, []⟩
theorem cxo_ref32_least (self : (((List Int) × Int × Int × Int × Unit) × Unit) → Option ((Int × Unit) × Unit)) (hself : FnSound Try.prog gl 25 (mkSig [(.hole (.slice (.int .i64))), (.hole (.int .i64)), (.hole (.int .i64)), (.hole (.int .i64))] [] [(.hole (.int .i64))] [] self)) : CxOk Try.prog (cx_ref32_least self) := ⟨tys_ok, FnsAll.cons 0 rfl fk_ref32_sum sd_ref32_sum (FnsAll.cons 0 rfl fk_ref32_least hself (FnsAll.nil))⟩
def gs_ref32_least (self : (((List Int) × Int × Int × Int × Unit) × Unit) → Option ((Int × Unit) × Unit)) : Nat → Option Blk := lk []
theorem st_ref32_least (self : (((List Int) × Int × Int × Int × Unit) × Unit) → Option ((Int × Unit) × Unit)) (hself : FnSound Try.prog gl 25 (mkSig [(.hole (.slice (.int .i64))), (.hole (.int .i64)), (.hole (.int .i64)), (.hole (.int .i64))] [] [(.hole (.int .i64))] [] self)) : FnSound Try.prog gl 25 (mkSig [(.hole (.slice (.int .i64))), (.hole (.int .i64)), (.hole (.int .i64)), (.hole (.int .i64))] [] [(.hole (.int .i64))] [] (ref32_least_R self)) :=
  fn_printed (G := gs_ref32_least self) (A := .leaf) (cxo_ref32_least self hself) follows Try.func25 (by kernel_rfl) (by kernel_rfl) (by kernel_rfl) (by kernel_rfl) (by kernel_rfl) (CutsOk.leaf _) (by intro v; kernel_rfl)
theorem sd_ref32_least : FnSound Try.prog gl 25 sg_ref32_least := fix_sound (ins := [(.hole (.slice (.int .i64))), (.hole (.int .i64)), (.hole (.int .i64)), (.hole (.int .i64))]) (inObs := []) (outs := [(.hole (.int .i64))]) (outObs := []) (R := ref32_least_R) (by kernel_rfl) st_ref32_least fuel
def sg_ref32_places : Sig := mkSig [(.hole (.slice (.int .i64))), (.hole (.int .i64)), (.hole (.int .i64))] [] [(.hole (.slice (.int .i64))), (.hole .bool)] [] (fixN ref32_places_R fuel)
theorem fk_ref32_places : FnOk Try.prog 26 := ⟨Try.f26, Try.func26, by kernel_rfl, by kernel_rfl⟩
def cx_ref32_places (self : (((List Int) × Int × Int × Unit) × Unit) → Option (((List Int) × Bool × Unit) × Unit)) : Cx := ⟨tys, lk [(24 + 100000 * 0, sg_ref32_sum), (26 + 100000 * 0, mkSig [(.hole (.slice (.int .i64))), (.hole (.int .i64)), (.hole (.int .i64))] [] [(.hole (.slice (.int .i64))), (.hole .bool)] [] self)], 53, 0, [], gl, []⟩
theorem cxo_ref32_places (self : (((List Int) × Int × Int × Unit) × Unit) → Option (((List Int) × Bool × Unit) × Unit)) (hself : FnSound Try.prog gl 26 (mkSig [(.hole (.slice (.int .i64))), (.hole (.int .i64)), (.hole (.int .i64))] [] [(.hole (.slice (.int .i64))), (.hole .bool)] [] self)) : CxOk Try.prog (cx_ref32_places self) := ⟨tys_ok, FnsAll.cons 0 rfl fk_ref32_sum sd_ref32_sum (FnsAll.cons 0 rfl fk_ref32_places hself (FnsAll.nil))⟩
def gs_ref32_places (self : (((List Int) × Int × Int × Unit) × Unit) → Option (((List Int) × Bool × Unit) × Unit)) : Nat → Option Blk := lk []
theorem st_ref32_places (self : (((List Int) × Int × Int × Unit) × Unit) → Option (((List Int) × Bool × Unit) × Unit)) (hself : FnSound Try.prog gl 26 (mkSig [(.hole (.slice (.int .i64))), (.hole (.int .i64)), (.hole (.int .i64))] [] [(.hole (.slice (.int .i64))), (.hole .bool)] [] self)) : FnSound Try.prog gl 26 (mkSig [(.hole (.slice (.int .i64))), (.hole (.int .i64)), (.hole (.int .i64))] [] [(.hole (.slice (.int .i64))), (.hole .bool)] [] (ref32_places_R self)) :=
  fn_printed (G := gs_ref32_places self) (A := .leaf) (cxo_ref32_places self hself) follows Try.func26 (by kernel_rfl) (by kernel_rfl) (by kernel_rfl) (by kernel_rfl) (by kernel_rfl) (CutsOk.leaf _) (by intro v; kernel_rfl)
theorem sd_ref32_places : FnSound Try.prog gl 26 sg_ref32_places := fix_sound (ins := [(.hole (.slice (.int .i64))), (.hole (.int .i64)), (.hole (.int .i64))]) (inObs := []) (outs := [(.hole (.slice (.int .i64))), (.hole .bool)]) (outObs := []) (R := ref32_places_R) (by kernel_rfl) st_ref32_places fuel
def sg_ref32_ends : Sig := mkSig [(.hole (.slice (.int .i64))), (.hole (.int .i64)), (.hole (.int .i64)), (.hole (.int .i64)), (.hole (.int .i64))] [] [(.hole .bool)] [] (fun p => ref32_ends p.1.1 p.1.2.1 p.1.2.2.1 p.1.2.2.2.1 p.1.2.2.2.2.1)
theorem fk_ref32_ends : FnOk Try.prog 34 := ⟨Try.f34, Try.func34, by kernel_rfl, by kernel_rfl⟩
def cx_ref32_ends : Cx := ⟨tys, lk [(24 + 100000 * 0, sg_ref32_sum)], 24, 0, [], gl, []⟩
theorem cxo_ref32_ends : CxOk Try.prog (cx_ref32_ends) := ⟨tys_ok, FnsAll.cons 0 rfl fk_ref32_sum sd_ref32_sum (FnsAll.nil)⟩
def gs_ref32_ends : Nat → Option Blk := lk []
theorem sd_ref32_ends : FnSound Try.prog gl 34 sg_ref32_ends :=
  fn_printed (G := gs_ref32_ends) (A := .leaf) (cxo_ref32_ends) follows Try.func34 (by kernel_rfl) (by kernel_rfl) (by kernel_rfl) (by kernel_rfl) (by kernel_rfl) (CutsOk.leaf _) (by intro v; kernel_rfl)
def sg_ref32_trace : Sig := mkSig [(.hole (.slice (.int .i64))), (.hole (.int .i64)), (.hole (.int .i64)), (.hole (.int .i64)), (.hole (.int .i64)), (.own 0)] [(.vec (.int .u8))] [(.own 1)] [.dead, (.vec (.int .u8))] (fixN ref32_trace_R fuel)
theorem fk_ref32_trace : FnOk Try.prog 27 := ⟨Try.f27, Try.func27, by kernel_rfl, by kernel_rfl⟩
def cx_ref32_trace (self : (((List Int) × Int × Int × Int × Int × Unit × Unit) × (List Int) × Unit) → Option ((Unit × Unit) × Unit × (List Int) × Unit)) : Cx := ⟨tys, lk [(34 + 100000 * 0, sg_ref32_ends), (27 + 100000 * 0, mkSig [(.hole (.slice (.int .i64))), (.hole (.int .i64)), (.hole (.int .i64)), (.hole (.int .i64)), (.hole (.int .i64)), (.own 0)] [(.vec (.int .u8))] [(.own 1)] [.dead, (.vec (.int .u8))] self)], 49, 1, [], gl, []⟩
theorem cxo_ref32_trace (self : (((List Int) × Int × Int × Int × Int × Unit × Unit) × (List Int) × Unit) → Option ((Unit × Unit) × Unit × (List Int) × Unit)) (hself : FnSound Try.prog gl 27 (mkSig [(.hole (.slice (.int .i64))), (.hole (.int .i64)), (.hole (.int .i64)), (.hole (.int .i64)), (.hole (.int .i64)), (.own 0)] [(.vec (.int .u8))] [(.own 1)] [.dead, (.vec (.int .u8))] self)) : CxOk Try.prog (cx_ref32_trace self) := ⟨tys_ok, FnsAll.cons 0 rfl fk_ref32_ends sd_ref32_ends (FnsAll.cons 0 rfl fk_ref32_trace hself (FnsAll.nil))⟩
def gs_ref32_trace (self : (((List Int) × Int × Int × Int × Int × Unit × Unit) × (List Int) × Unit) → Option ((Unit × Unit) × Unit × (List Int) × Unit)) : Nat → Option Blk := lk []
theorem st_ref32_trace (self : (((List Int) × Int × Int × Int × Int × Unit × Unit) × (List Int) × Unit) → Option ((Unit × Unit) × Unit × (List Int) × Unit)) (hself : FnSound Try.prog gl 27 (mkSig [(.hole (.slice (.int .i64))), (.hole (.int .i64)), (.hole (.int .i64)), (.hole (.int .i64)), (.hole (.int .i64)), (.own 0)] [(.vec (.int .u8))] [(.own 1)] [.dead, (.vec (.int .u8))] self)) : FnSound Try.prog gl 27 (mkSig [(.hole (.slice (.int .i64))), (.hole (.int .i64)), (.hole (.int .i64)), (.hole (.int .i64)), (.hole (.int .i64)), (.own 0)] [(.vec (.int .u8))] [(.own 1)] [.dead, (.vec (.int .u8))] (ref32_trace_R self)) :=
  fn_printed (G := gs_ref32_trace self) (A := .leaf) (cxo_ref32_trace self hself) follows Try.func27 (by kernel_rfl) (by kernel_rfl) (by kernel_rfl) (by kernel_rfl) (by kernel_rfl) (CutsOk.leaf _) (by intro v; kernel_rfl)
theorem sd_ref32_trace : FnSound Try.prog gl 27 sg_ref32_trace := fix_sound (ins := [(.hole (.slice (.int .i64))), (.hole (.int .i64)), (.hole (.int .i64)), (.hole (.int .i64)), (.hole (.int .i64)), (.own 0)]) (inObs := [(.vec (.int .u8))]) (outs := [(.own 1)]) (outObs := [.dead, (.vec (.int .u8))]) (R := ref32_trace_R) (by kernel_rfl) st_ref32_trace fuel
def sg_ref32_Best : Sig := mkSig [(.hole (.slice (.int .i64))), (.hole (.int .i64))] [] [(.hole T_3393), (.own 0), (.hole (.int .i64))] [(.vec (.int .u8))] (fun p => ref32_Best p.1.1 p.1.2.1)
theorem fk_ref32_Best : FnOk Try.prog 10 := ⟨Try.f10, Try.func10, by kernel_rfl, by kernel_rfl⟩
def cx_ref32_Best : Cx := ⟨tys, lk [(25 + 100000 * 0, sg_ref32_least), (26 + 100000 * 0, sg_ref32_places), (23 + 100000 * 0, sg_ref32_proper), (24 + 100000 * 0, sg_ref32_sum), (27 + 100000 * 0, sg_ref32_trace)], 47, 0, [], gl, []⟩
theorem cxo_ref32_Best : CxOk Try.prog (cx_ref32_Best) := ⟨tys_ok, FnsAll.cons 0 rfl fk_ref32_least sd_ref32_least (FnsAll.cons 0 rfl fk_ref32_places sd_ref32_places (FnsAll.cons 0 rfl fk_ref32_proper sd_ref32_proper (FnsAll.cons 0 rfl fk_ref32_sum sd_ref32_sum (FnsAll.cons 0 rfl fk_ref32_trace sd_ref32_trace (FnsAll.nil)))))⟩
def gs_ref32_Best : Nat → Option Blk := lk []
theorem sd_ref32_Best : FnSound Try.prog gl 10 sg_ref32_Best :=
  fn_printed (G := gs_ref32_Best) (A := .leaf) (cxo_ref32_Best) follows Try.func10 (by kernel_rfl) (by kernel_rfl) (by kernel_rfl) (by kernel_rfl) (by kernel_rfl) (CutsOk.leaf _) (by intro v; kernel_rfl)
def sg_ref32_Same : Sig := mkSig [(.hole T_3393), (.hole T_3393)] [] [(.hole .bool)] [] (fun p => ref32_Same p.1.1 p.1.2.1)
theorem fk_ref32_Same : FnOk Try.prog 11 := ⟨Try.f11, Try.func11, by kernel_rfl, by kernel_rfl⟩
def cx_ref32_Same : Cx := ⟨tys, lk [], 38, 0, [], gl, []⟩
theorem cxo_ref32_Same : CxOk Try.prog (cx_ref32_Same) := ⟨tys_ok, FnsAll.nil⟩
abbrev K0_ref32_Same_L1 : List (Nat × Ty) := []
abbrev TM_ref32_Same_L1 : Tm := ⟨[(2, (.ptr 0 [])), (3, (.ptr 1 [])), (5, (.hole (.int .i64)))], [(.box T_3393 (.hole T_3393)), (.box T_3393 (.hole T_3393))]⟩
abbrev UO_ref32_Same_L1 : Outs := (.more .ret ⟨[(4, (.hole .bool))], []⟩ (.one (.exit 0) ⟨[], []⟩))
def B_ref32_Same_L1 : Blk := frBlk 0 [] K0_ref32_Same_L1 TM_ref32_Same_L1 UO_ref32_Same_L1 (fun k => loopV (fun v => ref32_Same_L1 v))
def gs_ref32_Same : Nat → Option Blk := lk [(1, B_ref32_Same_L1)]
theorem ct_ref32_Same_L1 : CodeSound Try.prog (cx_ref32_Same) (subL (subR (subL (subR (subR (bodyOf Try.f11)))))) (B_ref32_Same_L1).D :=
  loop_printed (G := gs_ref32_Same) (A := .leaf) (T0 := K0_ref32_Same_L1) (T := TM_ref32_Same_L1) (U := UO_ref32_Same_L1) (step := (fun k v => ref32_Same_L1 v)) (cxo_ref32_Same) follows (by kernel_rfl) (by kernel_rfl) (CutsOk.leaf _) (by intro k v; kernel_rfl)
theorem sd_ref32_Same : FnSound Try.prog gl 11 sg_ref32_Same :=
  fn_printed (G := gs_ref32_Same) (A := (.two .leaf (.two .leaf (.two (.two .leaf (.two (.cut 1) .leaf)) .leaf)))) (cxo_ref32_Same) follows Try.func11 (by kernel_rfl) (by kernel_rfl) (by kernel_rfl) (by kernel_rfl) (by kernel_rfl) (CutsOk.two (CutsOk.leaf _) (CutsOk.two (CutsOk.leaf _) (CutsOk.two (CutsOk.two (CutsOk.leaf _) (CutsOk.two (CutsOk.cut (g := B_ref32_Same_L1) (by kernel_rfl) (ct_ref32_Same_L1)) (CutsOk.leaf _))) (CutsOk.leaf _)))) (by intro v; kernel_rfl)
def sg_ref32_Largest : Sig := mkSig [(.hole (.slice (.int .i64))), (.hole (.int .i64))] [] [(.ncons (.own 0) (.hole (.cons (.int .i64) .nil))), (.hole (.int .i64))] [(.vec (.int .i64))] (fun p => ref32_Largest p.1.1 p.1.2.1)
theorem fk_ref32_Largest : FnOk Try.prog 16 := ⟨Try.f16, Try.func16, by kernel_rfl, by kernel_rfl⟩
def cx_ref32_Largest : Cx := ⟨tys, lk [(23 + 100000 * 0, sg_ref32_proper), (24 + 100000 * 0, sg_ref32_sum)], 86, 0, [], gl, []⟩
theorem cxo_ref32_Largest : CxOk Try.prog (cx_ref32_Largest) := ⟨tys_ok, FnsAll.cons 0 rfl fk_ref32_proper sd_ref32_proper (FnsAll.cons 0 rfl fk_ref32_sum sd_ref32_sum (FnsAll.nil))⟩
abbrev K0_ref32_Largest_J3 : List (Nat × Ty) := [(0, (.slice (.int .i64))), (10, (.int .i64))]
abbrev TM_ref32_Largest_J3 : Tm := ⟨[(4, (.ptr 0 [])), (7, (.own 1)), (9, (.hole (.int .i64)))], [(.box T_3393 (.ncons .nils (.hole (.cons (.int .i64) .nil)))), (.vec .bool)]⟩
abbrev UO_ref32_Largest_J3 : Outs := (.one .normal ⟨[(4, (.ptr 0 [])), (7, (.own 1)), (9, (.hole (.int .i64)))], [(.box T_3393 (.ncons .nils (.hole (.cons (.int .i64) .nil)))), (.vec .bool)]⟩)
def B_ref32_Largest_J3 : Blk := frBlk 0 [0, 10] K0_ref32_Largest_J3 TM_ref32_Largest_J3 UO_ref32_Largest_J3 (fun k v => ref32_Largest_J3 k.1 k.2.1 v)
abbrev K0_ref32_Largest_L2 : List (Nat × Ty) := [(0, (.slice (.int .i64)))]
abbrev TM_ref32_Largest_L2 : Tm := ⟨[(4, (.ptr 0 [])), (7, (.own 1)), (9, (.hole (.int .i64))), (10, (.hole (.int .i64)))], [(.box T_3393 (.ncons .nils (.hole (.cons (.int .i64) .nil)))), (.vec .bool)]⟩
abbrev UO_ref32_Largest_L2 : Outs := (.one (.exit 2) ⟨[(4, (.ptr 0 [])), (7, (.own 1)), (9, (.hole (.int .i64)))], [(.box T_3393 (.ncons .nils (.hole (.cons (.int .i64) .nil)))), (.vec .bool)]⟩)
def B_ref32_Largest_L2 : Blk := frBlk 0 [0, 1, 8] K0_ref32_Largest_L2 TM_ref32_Largest_L2 UO_ref32_Largest_L2 (fun k => loopV (fun v => ref32_Largest_L2 k.1 v))
abbrev K0_ref32_Largest_L1 : List (Nat × Ty) := [(0, (.slice (.int .i64))), (1, (.int .i64))]
abbrev TM_ref32_Largest_L1 : Tm := ⟨[(4, (.ptr 0 [])), (7, (.own 1)), (8, (.hole (.int .i64)))], [(.box T_3393 (.ncons .nils (.hole (.cons (.int .i64) .nil)))), (.vec .bool)]⟩
abbrev UO_ref32_Largest_L1 : Outs := (.one (.exit 0) ⟨[(4, (.ptr 0 [])), (7, (.own 1)), (8, (.hole (.int .i64)))], [(.box T_3393 (.ncons .nils (.hole (.cons (.int .i64) .nil)))), (.vec .bool)]⟩)
def B_ref32_Largest_L1 : Blk := frBlk 0 [0, 1, 5] K0_ref32_Largest_L1 TM_ref32_Largest_L1 UO_ref32_Largest_L1 (fun k => loopV (fun v => ref32_Largest_L1 k.1 k.2.1 v))
abbrev K0_ref32_Largest_L4 : List (Nat × Ty) := [(0, (.slice (.int .i64)))]
abbrev TM_ref32_Largest_L4 : Tm := ⟨[(4, (.ptr 0 [])), (7, (.own 1)), (11, (.ptr 2 [])), (12, (.hole (.int .i64)))], [(.box T_3393 (.ncons .nils (.hole (.cons (.int .i64) .nil)))), (.vec .bool), (.box T_3393 (.ncons (.own 3) (.hole (.cons (.int .i64) .nil)))), (.vec (.int .i64))]⟩
abbrev UO_ref32_Largest_L4 : Outs := (.one (.exit 4) ⟨[(4, (.ptr 0 [])), (11, (.ptr 1 []))], [(.box T_3393 (.ncons .nils (.hole (.cons (.int .i64) .nil)))), (.box T_3393 (.ncons (.own 2) (.hole (.cons (.int .i64) .nil)))), (.vec (.int .i64))]⟩)
def B_ref32_Largest_L4 : Blk := frBlk 0 [0, 5] K0_ref32_Largest_L4 TM_ref32_Largest_L4 UO_ref32_Largest_L4 (fun k => loopV (fun v => ref32_Largest_L4 k.1 v))
def gs_ref32_Largest : Nat → Option Blk := lk [(3, B_ref32_Largest_J3), (2, B_ref32_Largest_L2), (1, B_ref32_Largest_L1), (4, B_ref32_Largest_L4)]
theorem ct_ref32_Largest_J3 : CodeSound Try.prog (((cx_ref32_Largest).fr [0, 1, 5]).fr [0, 1, 8]) (subL (subR (subL (subL (subR (subL (subR (subL (subR (subL (subL (subL (subR (subR (subR (subR (subR (bodyOf Try.f16)))))))))))))))))) (B_ref32_Largest_J3).D :=
  join_sound (G := gs_ref32_Largest) (A := .leaf) (T0 := K0_ref32_Largest_J3) (T := TM_ref32_Largest_J3) (U := UO_ref32_Largest_J3) (F := (fun k v => ref32_Largest_J3 k.1 k.2.1 v)) (((cxo_ref32_Largest).fr [0, 1, 5]).fr [0, 1, 8]) follows (by kernel_rfl) (CutsOk.leaf _) (by intro k v; kernel_rfl)
theorem ct_ref32_Largest_L2 : CodeSound Try.prog ((cx_ref32_Largest).fr [0, 1, 5]) (subL (subR (subL (subR (subL (subR (subL (subL (subL (subR (subR (subR (subR (subR (bodyOf Try.f16))))))))))))))) (B_ref32_Largest_L2).D :=
  loop_printed (G := gs_ref32_Largest) (A := (.two .leaf (.two (.cut 3) .leaf))) (T0 := K0_ref32_Largest_L2) (T := TM_ref32_Largest_L2) (U := UO_ref32_Largest_L2) (step := (fun k v => ref32_Largest_L2 k.1 v)) ((cxo_ref32_Largest).fr [0, 1, 5]) follows (by kernel_rfl) (by kernel_rfl) (CutsOk.two (CutsOk.leaf _) (CutsOk.two (CutsOk.cut (g := B_ref32_Largest_J3) (by kernel_rfl) (ct_ref32_Largest_J3)) (CutsOk.leaf _))) (by intro k v; kernel_rfl)
theorem ct_ref32_Largest_L4 : CodeSound Try.prog (cx_ref32_Largest) (subL (subR (subL (subR (subR (subR (subR (subR (subR (subR (bodyOf Try.f16))))))))))) (B_ref32_Largest_L4).D :=
  loop_printed (G := gs_ref32_Largest) (A := .leaf) (T0 := K0_ref32_Largest_L4) (T := TM_ref32_Largest_L4) (U := UO_ref32_Largest_L4) (step := (fun k v => ref32_Largest_L4 k.1 v)) (cxo_ref32_Largest) follows (by kernel_rfl) (by kernel_rfl) (CutsOk.leaf _) (by intro k v; kernel_rfl)
theorem ct_ref32_Largest_L1 : CodeSound Try.prog (cx_ref32_Largest) (subL (subL (subR (subR (subR (subR (subR (bodyOf Try.f16)))))))) (B_ref32_Largest_L1).D :=
  loop_printed (G := gs_ref32_Largest) (A := (.two .leaf (.two (.two .leaf (.two (.two .leaf (.two (.cut 2) .leaf)) .leaf)) .leaf))) (T0 := K0_ref32_Largest_L1) (T := TM_ref32_Largest_L1) (U := UO_ref32_Largest_L1) (step := (fun k v => ref32_Largest_L1 k.1 k.2.1 v)) (cxo_ref32_Largest) follows (by kernel_rfl) (by kernel_rfl) (CutsOk.two (CutsOk.leaf _) (CutsOk.two (CutsOk.two (CutsOk.leaf _) (CutsOk.two (CutsOk.two (CutsOk.leaf _) (CutsOk.two (CutsOk.cut (g := B_ref32_Largest_L2) (by kernel_rfl) (ct_ref32_Largest_L2)) (CutsOk.leaf _))) (CutsOk.leaf _))) (CutsOk.leaf _))) (by intro k v; kernel_rfl)
theorem sd_ref32_Largest : FnSound Try.prog gl 16 sg_ref32_Largest :=
  fn_printed (G := gs_ref32_Largest) (A := (.two .leaf (.two .leaf (.two .leaf (.two .leaf (.two .leaf (.two (.two (.cut 1) .leaf) (.two .leaf (.two (.two .leaf (.two (.cut 4) .leaf)) .leaf))))))))) (cxo_ref32_Largest) follows Try.func16 (by kernel_rfl) (by kernel_rfl) (by kernel_rfl) (by kernel_rfl) (by kernel_rfl) (CutsOk.two (CutsOk.leaf _) (CutsOk.two (CutsOk.leaf _) (CutsOk.two (CutsOk.leaf _) (CutsOk.two (CutsOk.leaf _) (CutsOk.two (CutsOk.leaf _) (CutsOk.two (CutsOk.two (CutsOk.cut (g := B_ref32_Largest_L1) (by kernel_rfl) (ct_ref32_Largest_L1)) (CutsOk.leaf _)) (CutsOk.two (CutsOk.leaf _) (CutsOk.two (CutsOk.two (CutsOk.leaf _) (CutsOk.two (CutsOk.cut (g := B_ref32_Largest_L4) (by kernel_rfl) (ct_ref32_Largest_L4)) (CutsOk.leaf _))) (CutsOk.leaf _))))))))) (by intro v; kernel_rfl)
end Go.PE.Ytaeaeaiebbakbaa
end
end

section
set_option maxRecDepth 100000
set_option linter.unusedVariables false
noncomputable section
namespace Go.PE.Ytaeaeaiebbakbaa
open Go.PE Go.Proofs

theorem fk_slices_Clone_int_int : FnOk Try.prog 33 := ⟨Try.f33, Try.func33, by kernel_rfl, by kernel_rfl⟩
def cx_slices_Clone_int_int : Cx := ⟨tys, lk [], 8, 0, [], gl, []⟩
def sg_slices_Clone_int_int : Sig := cloneSig (.int .i64)
theorem bd_slices_Clone_int_int : Try.f33.body = some (bodyOf Try.f33) := by kernel_rfl
theorem sd_slices_Clone_int_int : FnSound Try.prog gl 33 sg_slices_Clone_int_int :=
  clone_sound (C := cx_slices_Clone_int_int) (T := (.int .i64)) (st := 22) (st2 := 22) (b := (bodyOf Try.f33)) (c1 := (subL (bodyOf Try.f33))) (c2 := (subL (subL (subR (bodyOf Try.f33))))) (X := (subL (subR (subL (subR (bodyOf Try.f33)))))) (R := (subR (subR (bodyOf Try.f33)))) ⟨tys_ok, FnsAll.nil⟩ follows rfl rfl Try.func33 bd_slices_Clone_int_int (by kernel_rfl) (by kernel_rfl) (by kernel_rfl) (by kernel_rfl) (by kernel_rfl) (by kernel_rfl) (by kernel_rfl) (by kernel_rfl) (by kernel_rfl) (by kernel_rfl) (by kernel_rfl) ty_22 (by intro xs; kernel_rfl) (by kernel_rfl) (by intro xs; kernel_rfl)
def sg_slices_Index_int_int : Sig := mkSig [(.hole (.slice (.int .i64))), (.hole (.int .i64))] [] [(.hole (.int .i64))] [] (fun p => slices_Index_int_int p.1.1 p.1.2.1)
theorem fk_slices_Index_int_int : FnOk Try.prog 35 := ⟨Try.f35, Try.func35, by kernel_rfl, by kernel_rfl⟩
def cx_slices_Index_int_int : Cx := ⟨tys, lk [], 19, 0, [], gl, []⟩
theorem cxo_slices_Index_int_int : CxOk Try.prog (cx_slices_Index_int_int) := ⟨tys_ok, FnsAll.nil⟩
abbrev K0_slices_Index_int_int_L1 : List (Nat × Ty) := [(0, (.slice (.int .i64))), (1, (.int .i64)), (7, (.int .i64))]
abbrev TM_slices_Index_int_int_L1 : Tm := ⟨[(8, (.hole (.int .i64)))], []⟩
abbrev UO_slices_Index_int_int_L1 : Outs := (.more .ret ⟨[(4, (.hole (.int .i64)))], []⟩ (.one (.exit 0) ⟨[], []⟩))
def B_slices_Index_int_int_L1 : Blk := frBlk 0 [0, 1, 7] K0_slices_Index_int_int_L1 TM_slices_Index_int_int_L1 UO_slices_Index_int_int_L1 (fun k => loopV (fun v => slices_Index_int_int_L1 k.1 k.2.1 k.2.2.1 v))
def gs_slices_Index_int_int : Nat → Option Blk := lk [(1, B_slices_Index_int_int_L1)]
theorem ct_slices_Index_int_int_L1 : CodeSound Try.prog (cx_slices_Index_int_int) (subL (subR (subL (subR (bodyOf Try.f35))))) (B_slices_Index_int_int_L1).D :=
  loop_printed (G := gs_slices_Index_int_int) (A := .leaf) (T0 := K0_slices_Index_int_int_L1) (T := TM_slices_Index_int_int_L1) (U := UO_slices_Index_int_int_L1) (step := (fun k v => slices_Index_int_int_L1 k.1 k.2.1 k.2.2.1 v)) (cxo_slices_Index_int_int) follows (by kernel_rfl) (by kernel_rfl) (CutsOk.leaf _) (by intro k v; kernel_rfl)
theorem sd_slices_Index_int_int : FnSound Try.prog gl 35 sg_slices_Index_int_int :=
  fn_printed (G := gs_slices_Index_int_int) (A := (.two .leaf (.two (.two .leaf (.two (.cut 1) .leaf)) .leaf))) (cxo_slices_Index_int_int) follows Try.func35 (by kernel_rfl) (by kernel_rfl) (by kernel_rfl) (by kernel_rfl) (by kernel_rfl) (CutsOk.two (CutsOk.leaf _) (CutsOk.two (CutsOk.two (CutsOk.leaf _) (CutsOk.two (CutsOk.cut (g := B_slices_Index_int_int_L1) (by kernel_rfl) (ct_slices_Index_int_int_L1)) (CutsOk.leaf _))) (CutsOk.leaf _))) (by intro v; kernel_rfl)
def sg_slices_Contains_int_int : Sig := mkSig [(.hole (.slice (.int .i64))), (.hole (.int .i64))] [] [(.hole .bool)] [] (fun p => slices_Contains_int_int p.1.1 p.1.2.1)
theorem fk_slices_Contains_int_int : FnOk Try.prog 30 := ⟨Try.f30, Try.func30, by kernel_rfl, by kernel_rfl⟩
def cx_slices_Contains_int_int : Cx := ⟨tys, lk [(35 + 100000 * 0, sg_slices_Index_int_int)], 9, 0, [], gl, []⟩
theorem cxo_slices_Contains_int_int : CxOk Try.prog (cx_slices_Contains_int_int) := ⟨tys_ok, FnsAll.cons 0 rfl fk_slices_Index_int_int sd_slices_Index_int_int (FnsAll.nil)⟩
def gs_slices_Contains_int_int : Nat → Option Blk := lk []
theorem sd_slices_Contains_int_int : FnSound Try.prog gl 30 sg_slices_Contains_int_int :=
  fn_printed (G := gs_slices_Contains_int_int) (A := .leaf) (cxo_slices_Contains_int_int) follows Try.func30 (by kernel_rfl) (by kernel_rfl) (by kernel_rfl) (by kernel_rfl) (by kernel_rfl) (CutsOk.leaf _) (by intro v; kernel_rfl)
def sg_math_bits_Len64 : Sig := mkSig [(.hole (.int .u64))] [] [(.hole (.int .i64))] [] (fun p => math_bits_Len64 p.1.1)
theorem fk_math_bits_Len64 : FnOk Try.prog 48 := ⟨Try.f48, Try.func48, by kernel_rfl, by kernel_rfl⟩
def cx_math_bits_Len64 : Cx := ⟨tys, lk [], 25, 0, [], gl, []⟩
theorem cxo_math_bits_Len64 : CxOk Try.prog (cx_math_bits_Len64) := ⟨tys_ok, FnsAll.nil⟩
abbrev K0_math_bits_Len64_J1 : List (Nat × Ty) := []
abbrev TM_math_bits_Len64_J1 : Tm := ⟨[(0, (.hole (.int .u64))), (2, (.hole (.int .i64)))], []⟩
abbrev UO_math_bits_Len64_J1 : Outs := (.one .normal ⟨[(0, (.hole (.int .u64))), (2, (.hole (.int .i64)))], []⟩)
def B_math_bits_Len64_J1 : Blk := frBlk 0 [] K0_math_bits_Len64_J1 TM_math_bits_Len64_J1 UO_math_bits_Len64_J1 (fun k v => math_bits_Len64_J1 v)
abbrev K0_math_bits_Len64_J2 : List (Nat × Ty) := []
abbrev TM_math_bits_Len64_J2 : Tm := ⟨[(0, (.hole (.int .u64))), (2, (.hole (.int .i64)))], []⟩
abbrev UO_math_bits_Len64_J2 : Outs := (.one .normal ⟨[(0, (.hole (.int .u64))), (2, (.hole (.int .i64)))], []⟩)
def B_math_bits_Len64_J2 : Blk := frBlk 0 [] K0_math_bits_Len64_J2 TM_math_bits_Len64_J2 UO_math_bits_Len64_J2 (fun k v => math_bits_Len64_J2 v)
abbrev K0_math_bits_Len64_J3 : List (Nat × Ty) := []
abbrev TM_math_bits_Len64_J3 : Tm := ⟨[(0, (.hole (.int .u64))), (2, (.hole (.int .i64)))], []⟩
abbrev UO_math_bits_Len64_J3 : Outs := (.one .normal ⟨[(0, (.hole (.int .u64))), (2, (.hole (.int .i64)))], []⟩)
def B_math_bits_Len64_J3 : Blk := frBlk 0 [] K0_math_bits_Len64_J3 TM_math_bits_Len64_J3 UO_math_bits_Len64_J3 (fun k v => math_bits_Len64_J3 v)
def gs_math_bits_Len64 : Nat → Option Blk := lk [(1, B_math_bits_Len64_J1), (2, B_math_bits_Len64_J2), (3, B_math_bits_Len64_J3)]
theorem ct_math_bits_Len64_J3 : CodeSound Try.prog (cx_math_bits_Len64) (subL (subR (subR (subR (bodyOf Try.f48))))) (B_math_bits_Len64_J3).D :=
  join_sound (G := gs_math_bits_Len64) (A := .leaf) (T0 := K0_math_bits_Len64_J3) (T := TM_math_bits_Len64_J3) (U := UO_math_bits_Len64_J3) (F := (fun k v => math_bits_Len64_J3 v)) (cxo_math_bits_Len64) follows (by kernel_rfl) (CutsOk.leaf _) (by intro k v; kernel_rfl)
theorem ct_math_bits_Len64_J2 : CodeSound Try.prog (cx_math_bits_Len64) (subL (subR (subR (bodyOf Try.f48)))) (B_math_bits_Len64_J2).D :=
  join_sound (G := gs_math_bits_Len64) (A := .leaf) (T0 := K0_math_bits_Len64_J2) (T := TM_math_bits_Len64_J2) (U := UO_math_bits_Len64_J2) (F := (fun k v => math_bits_Len64_J2 v)) (cxo_math_bits_Len64) follows (by kernel_rfl) (CutsOk.leaf _) (by intro k v; kernel_rfl)
theorem ct_math_bits_Len64_J1 : CodeSound Try.prog (cx_math_bits_Len64) (subL (subR (bodyOf Try.f48))) (B_math_bits_Len64_J1).D :=
  join_sound (G := gs_math_bits_Len64) (A := .leaf) (T0 := K0_math_bits_Len64_J1) (T := TM_math_bits_Len64_J1) (U := UO_math_bits_Len64_J1) (F := (fun k v => math_bits_Len64_J1 v)) (cxo_math_bits_Len64) follows (by kernel_rfl) (CutsOk.leaf _) (by intro k v; kernel_rfl)
theorem sd_math_bits_Len64 : FnSound Try.prog gl 48 sg_math_bits_Len64 :=
  fn_printed (G := gs_math_bits_Len64) (A := (.two .leaf (.two (.cut 1) (.two (.cut 2) (.two (.cut 3) .leaf))))) (cxo_math_bits_Len64) follows Try.func48 (by kernel_rfl) (by kernel_rfl) (by kernel_rfl) (by kernel_rfl) (by kernel_rfl) (CutsOk.two (CutsOk.leaf _) (CutsOk.two (CutsOk.cut (g := B_math_bits_Len64_J1) (by kernel_rfl) (ct_math_bits_Len64_J1)) (CutsOk.two (CutsOk.cut (g := B_math_bits_Len64_J2) (by kernel_rfl) (ct_math_bits_Len64_J2)) (CutsOk.two (CutsOk.cut (g := B_math_bits_Len64_J3) (by kernel_rfl) (ct_math_bits_Len64_J3)) (CutsOk.leaf _))))) (by intro v; kernel_rfl)
def sg_math_bits_Len : Sig := mkSig [(.hole (.int .u64))] [] [(.hole (.int .i64))] [] (fun p => math_bits_Len p.1.1)
theorem fk_math_bits_Len : FnOk Try.prog 37 := ⟨Try.f37, Try.func37, by kernel_rfl, by kernel_rfl⟩
def cx_math_bits_Len : Cx := ⟨tys, lk [(48 + 100000 * 0, sg_math_bits_Len64)], 8, 0, [], gl, []⟩
theorem cxo_math_bits_Len : CxOk Try.prog (cx_math_bits_Len) := ⟨tys_ok, FnsAll.cons 0 rfl fk_math_bits_Len64 sd_math_bits_Len64 (FnsAll.nil)⟩
def gs_math_bits_Len : Nat → Option Blk := lk []
theorem sd_math_bits_Len : FnSound Try.prog gl 37 sg_math_bits_Len :=
  fn_printed (G := gs_math_bits_Len) (A := .leaf) (cxo_math_bits_Len) follows Try.func37 (by kernel_rfl) (by kernel_rfl) (by kernel_rfl) (by kernel_rfl) (by kernel_rfl) (CutsOk.leaf _) (by intro v; kernel_rfl)
def sg_cmp_isNaN_int : Sig := mkSig [(.hole (.int .i64))] [] [(.hole .bool)] [] (fun p => cmp_isNaN_int p.1.1)
theorem fk_cmp_isNaN_int : FnOk Try.prog 54 := ⟨Try.f54, Try.func54, by kernel_rfl, by kernel_rfl⟩
def cx_cmp_isNaN_int : Cx := ⟨tys, lk [], 6, 0, [], gl, []⟩
theorem cxo_cmp_isNaN_int : CxOk Try.prog (cx_cmp_isNaN_int) := ⟨tys_ok, FnsAll.nil⟩
def gs_cmp_isNaN_int : Nat → Option Blk := lk []
theorem sd_cmp_isNaN_int : FnSound Try.prog gl 54 sg_cmp_isNaN_int :=
  fn_printed (G := gs_cmp_isNaN_int) (A := .leaf) (cxo_cmp_isNaN_int) follows Try.func54 (by kernel_rfl) (by kernel_rfl) (by kernel_rfl) (by kernel_rfl) (by kernel_rfl) (CutsOk.leaf _) (by intro v; kernel_rfl)
def sg_cmp_Less_int : Sig := mkSig [(.hole (.int .i64)), (.hole (.int .i64))] [] [(.hole .bool)] [] (fun p => cmp_Less_int p.1.1 p.1.2.1)
theorem fk_cmp_Less_int : FnOk Try.prog 44 := ⟨Try.f44, Try.func44, by kernel_rfl, by kernel_rfl⟩
def cx_cmp_Less_int : Cx := ⟨tys, lk [(54 + 100000 * 0, sg_cmp_isNaN_int)], 17, 0, [], gl, []⟩
theorem cxo_cmp_Less_int : CxOk Try.prog (cx_cmp_Less_int) := ⟨tys_ok, FnsAll.cons 0 rfl fk_cmp_isNaN_int sd_cmp_isNaN_int (FnsAll.nil)⟩
def gs_cmp_Less_int : Nat → Option Blk := lk []
theorem sd_cmp_Less_int : FnSound Try.prog gl 44 sg_cmp_Less_int :=
  fn_printed (G := gs_cmp_Less_int) (A := .leaf) (cxo_cmp_Less_int) follows Try.func44 (by kernel_rfl) (by kernel_rfl) (by kernel_rfl) (by kernel_rfl) (by kernel_rfl) (CutsOk.leaf _) (by intro v; kernel_rfl)
def sg_slices_insertionSortOrdered_int : Sig := mkSig [(.own 0), (.hole (.int .i64)), (.hole (.int .i64))] [(.vec (.int .i64))] [] [(.vec (.int .i64))] (fun p => slices_insertionSortOrdered_int p.1.2.1 p.1.2.2.1 p.2.1)
theorem fk_slices_insertionSortOrdered_int : FnOk Try.prog 38 := ⟨Try.f38, Try.func38, by kernel_rfl, by kernel_rfl⟩
def cx_slices_insertionSortOrdered_int : Cx := ⟨tys, lk [(44 + 100000 * 0, sg_cmp_Less_int)], 49, 1, [], gl, []⟩
theorem cxo_slices_insertionSortOrdered_int : CxOk Try.prog (cx_slices_insertionSortOrdered_int) := ⟨tys_ok, FnsAll.cons 0 rfl fk_cmp_Less_int sd_cmp_Less_int (FnsAll.nil)⟩
abbrev K0_slices_insertionSortOrdered_int_L2 : List (Nat × Ty) := [(1, (.int .i64))]
abbrev TM_slices_insertionSortOrdered_int_L2 : Tm := ⟨[(0, (.own 0)), (7, (.hole (.int .i64)))], [(.vec (.int .i64))]⟩
abbrev UO_slices_insertionSortOrdered_int_L2 : Outs := (.one (.exit 2) ⟨[(0, (.own 0))], [(.vec (.int .i64))]⟩)
def B_slices_insertionSortOrdered_int_L2 : Blk := frBlk 1 [1, 2, 6] K0_slices_insertionSortOrdered_int_L2 TM_slices_insertionSortOrdered_int_L2 UO_slices_insertionSortOrdered_int_L2 (fun k => loopV (fun v => slices_insertionSortOrdered_int_L2 k.1 v))
abbrev K0_slices_insertionSortOrdered_int_L1 : List (Nat × Ty) := [(1, (.int .i64)), (2, (.int .i64))]
abbrev TM_slices_insertionSortOrdered_int_L1 : Tm := ⟨[(0, (.own 0)), (6, (.hole (.int .i64)))], [(.vec (.int .i64))]⟩
abbrev UO_slices_insertionSortOrdered_int_L1 : Outs := (.one (.exit 0) ⟨[], [(.vec (.int .i64))]⟩)
def B_slices_insertionSortOrdered_int_L1 : Blk := frBlk 1 [1, 2] K0_slices_insertionSortOrdered_int_L1 TM_slices_insertionSortOrdered_int_L1 UO_slices_insertionSortOrdered_int_L1 (fun k => loopV (fun v => slices_insertionSortOrdered_int_L1 k.1 k.2.1 v))
def gs_slices_insertionSortOrdered_int : Nat → Option Blk := lk [(2, B_slices_insertionSortOrdered_int_L2), (1, B_slices_insertionSortOrdered_int_L1)]
theorem ct_slices_insertionSortOrdered_int_L2 : CodeSound Try.prog ((cx_slices_insertionSortOrdered_int).fr [1, 2]) (subL (subR (subL (subL (subR (subL (subL (subR (bodyOf Try.f38))))))))) (B_slices_insertionSortOrdered_int_L2).D :=
  loop_printed (G := gs_slices_insertionSortOrdered_int) (A := .leaf) (T0 := K0_slices_insertionSortOrdered_int_L2) (T := TM_slices_insertionSortOrdered_int_L2) (U := UO_slices_insertionSortOrdered_int_L2) (step := (fun k v => slices_insertionSortOrdered_int_L2 k.1 v)) ((cxo_slices_insertionSortOrdered_int).fr [1, 2]) follows (by kernel_rfl) (by kernel_rfl) (CutsOk.leaf _) (by intro k v; kernel_rfl)
theorem ct_slices_insertionSortOrdered_int_L1 : CodeSound Try.prog (cx_slices_insertionSortOrdered_int) (subL (subR (bodyOf Try.f38))) (B_slices_insertionSortOrdered_int_L1).D :=
  loop_printed (G := gs_slices_insertionSortOrdered_int) (A := (.two .leaf (.two (.two (.two .leaf (.two (.cut 2) .leaf)) .leaf) .leaf))) (T0 := K0_slices_insertionSortOrdered_int_L1) (T := TM_slices_insertionSortOrdered_int_L1) (U := UO_slices_insertionSortOrdered_int_L1) (step := (fun k v => slices_insertionSortOrdered_int_L1 k.1 k.2.1 v)) (cxo_slices_insertionSortOrdered_int) follows (by kernel_rfl) (by kernel_rfl) (CutsOk.two (CutsOk.leaf _) (CutsOk.two (CutsOk.two (CutsOk.two (CutsOk.leaf _) (CutsOk.two (CutsOk.cut (g := B_slices_insertionSortOrdered_int_L2) (by kernel_rfl) (ct_slices_insertionSortOrdered_int_L2)) (CutsOk.leaf _))) (CutsOk.leaf _)) (CutsOk.leaf _))) (by intro k v; kernel_rfl)
theorem sd_slices_insertionSortOrdered_int : FnSound Try.prog gl 38 sg_slices_insertionSortOrdered_int :=
  fn_printed (G := gs_slices_insertionSortOrdered_int) (A := (.two .leaf (.two (.cut 1) .leaf))) (cxo_slices_insertionSortOrdered_int) follows Try.func38 (by kernel_rfl) (by kernel_rfl) (by kernel_rfl) (by kernel_rfl) (by kernel_rfl) (CutsOk.two (CutsOk.leaf _) (CutsOk.two (CutsOk.cut (g := B_slices_insertionSortOrdered_int_L1) (by kernel_rfl) (ct_slices_insertionSortOrdered_int_L1)) (CutsOk.leaf _))) (by intro v; kernel_rfl)
def sg_slices_siftDownOrdered_int : Sig := mkSig [(.own 0), (.hole (.int .i64)), (.hole (.int .i64)), (.hole (.int .i64))] [(.vec (.int .i64))] [] [(.vec (.int .i64))] (fun p => slices_siftDownOrdered_int p.1.2.1 p.1.2.2.1 p.1.2.2.2.1 p.2.1)
theorem fk_slices_siftDownOrdered_int : FnOk Try.prog 49 := ⟨Try.f49, Try.func49, by kernel_rfl, by kernel_rfl⟩
def cx_slices_siftDownOrdered_int : Cx := ⟨tys, lk [(44 + 100000 * 0, sg_cmp_Less_int)], 76, 1, [], gl, []⟩
theorem cxo_slices_siftDownOrdered_int : CxOk Try.prog (cx_slices_siftDownOrdered_int) := ⟨tys_ok, FnsAll.cons 0 rfl fk_cmp_Less_int sd_cmp_Less_int (FnsAll.nil)⟩
abbrev K0_slices_siftDownOrdered_int_J2 : List (Nat × Ty) := [(2, (.int .i64)), (3, (.int .i64))]
abbrev TM_slices_siftDownOrdered_int_J2 : Tm := ⟨[(0, (.own 0)), (9, (.hole (.int .i64)))], [(.vec (.int .i64))]⟩
abbrev UO_slices_siftDownOrdered_int_J2 : Outs := (.one .normal ⟨[(0, (.own 0)), (9, (.hole (.int .i64)))], [(.vec (.int .i64))]⟩)
def B_slices_siftDownOrdered_int_J2 : Blk := frBlk 1 [2, 3, 8] K0_slices_siftDownOrdered_int_J2 TM_slices_siftDownOrdered_int_J2 UO_slices_siftDownOrdered_int_J2 (fun k v => slices_siftDownOrdered_int_J2 k.1 k.2.1 v)
abbrev K0_slices_siftDownOrdered_int_L1 : List (Nat × Ty) := [(2, (.int .i64)), (3, (.int .i64))]
abbrev TM_slices_siftDownOrdered_int_L1 : Tm := ⟨[(0, (.own 0)), (8, (.hole (.int .i64)))], [(.vec (.int .i64))]⟩
abbrev UO_slices_siftDownOrdered_int_L1 : Outs := (.more (.exit 0) ⟨[], [(.vec (.int .i64))]⟩ (.one .ret ⟨[], [(.vec (.int .i64))]⟩))
def B_slices_siftDownOrdered_int_L1 : Blk := frBlk 1 [2, 3] K0_slices_siftDownOrdered_int_L1 TM_slices_siftDownOrdered_int_L1 UO_slices_siftDownOrdered_int_L1 (fun k => loopV (fun v => slices_siftDownOrdered_int_L1 k.1 k.2.1 v))
def gs_slices_siftDownOrdered_int : Nat → Option Blk := lk [(2, B_slices_siftDownOrdered_int_J2), (1, B_slices_siftDownOrdered_int_L1)]
theorem ct_slices_siftDownOrdered_int_J2 : CodeSound Try.prog ((cx_slices_siftDownOrdered_int).fr [2, 3]) (subL (subR (subR (subL (subL (subL (subR (bodyOf Try.f49)))))))) (B_slices_siftDownOrdered_int_J2).D :=
  join_sound (G := gs_slices_siftDownOrdered_int) (A := .leaf) (T0 := K0_slices_siftDownOrdered_int_J2) (T := TM_slices_siftDownOrdered_int_J2) (U := UO_slices_siftDownOrdered_int_J2) (F := (fun k v => slices_siftDownOrdered_int_J2 k.1 k.2.1 v)) ((cxo_slices_siftDownOrdered_int).fr [2, 3]) follows (by kernel_rfl) (CutsOk.leaf _) (by intro k v; kernel_rfl)
theorem ct_slices_siftDownOrdered_int_L1 : CodeSound Try.prog (cx_slices_siftDownOrdered_int) (subL (subR (bodyOf Try.f49))) (B_slices_siftDownOrdered_int_L1).D :=
  loop_printed (G := gs_slices_siftDownOrdered_int) (A := (.two (.two .leaf (.two .leaf (.two (.cut 2) .leaf))) .leaf)) (T0 := K0_slices_siftDownOrdered_int_L1) (T := TM_slices_siftDownOrdered_int_L1) (U := UO_slices_siftDownOrdered_int_L1) (step := (fun k v => slices_siftDownOrdered_int_L1 k.1 k.2.1 v)) (cxo_slices_siftDownOrdered_int) follows (by kernel_rfl) (by kernel_rfl) (CutsOk.two (CutsOk.two (CutsOk.leaf _) (CutsOk.two (CutsOk.leaf _) (CutsOk.two (CutsOk.cut (g := B_slices_siftDownOrdered_int_J2) (by kernel_rfl) (ct_slices_siftDownOrdered_int_J2)) (CutsOk.leaf _)))) (CutsOk.leaf _)) (by intro k v; kernel_rfl)
theorem sd_slices_siftDownOrdered_int : FnSound Try.prog gl 49 sg_slices_siftDownOrdered_int :=
  fn_printed (G := gs_slices_siftDownOrdered_int) (A := (.two .leaf (.two (.cut 1) .leaf))) (cxo_slices_siftDownOrdered_int) follows Try.func49 (by kernel_rfl) (by kernel_rfl) (by kernel_rfl) (by kernel_rfl) (by kernel_rfl) (CutsOk.two (CutsOk.leaf _) (CutsOk.two (CutsOk.cut (g := B_slices_siftDownOrdered_int_L1) (by kernel_rfl) (ct_slices_siftDownOrdered_int_L1)) (CutsOk.leaf _))) (by intro v; kernel_rfl)
def sg_slices_heapSortOrdered_int : Sig := mkSig [(.own 0), (.hole (.int .i64)), (.hole (.int .i64))] [(.vec (.int .i64))] [] [(.vec (.int .i64))] (fun p => slices_heapSortOrdered_int p.1.2.1 p.1.2.2.1 p.2.1)
theorem fk_slices_heapSortOrdered_int : FnOk Try.prog 39 := ⟨Try.f39, Try.func39, by kernel_rfl, by kernel_rfl⟩
def cx_slices_heapSortOrdered_int : Cx := ⟨tys, lk [(49 + 100000 * 0, sg_slices_siftDownOrdered_int)], 56, 1, [], gl, []⟩
theorem cxo_slices_heapSortOrdered_int : CxOk Try.prog (cx_slices_heapSortOrdered_int) := ⟨tys_ok, FnsAll.cons 0 rfl fk_slices_siftDownOrdered_int sd_slices_siftDownOrdered_int (FnsAll.nil)⟩
abbrev K0_slices_heapSortOrdered_int_L1 : List (Nat × Ty) := [(6, (.int .i64)), (8, (.int .i64))]
abbrev TM_slices_heapSortOrdered_int_L1 : Tm := ⟨[(0, (.own 0)), (9, (.hole (.int .i64)))], [(.vec (.int .i64))]⟩
abbrev UO_slices_heapSortOrdered_int_L1 : Outs := (.one (.exit 0) ⟨[(0, (.own 0))], [(.vec (.int .i64))]⟩)
def B_slices_heapSortOrdered_int_L1 : Blk := frBlk 1 [6, 7, 8] K0_slices_heapSortOrdered_int_L1 TM_slices_heapSortOrdered_int_L1 UO_slices_heapSortOrdered_int_L1 (fun k => loopV (fun v => slices_heapSortOrdered_int_L1 k.1 k.2.1 v))
abbrev K0_slices_heapSortOrdered_int_L2 : List (Nat × Ty) := [(6, (.int .i64)), (7, (.int .i64))]
abbrev TM_slices_heapSortOrdered_int_L2 : Tm := ⟨[(0, (.own 0)), (10, (.hole (.int .i64)))], [(.vec (.int .i64))]⟩
abbrev UO_slices_heapSortOrdered_int_L2 : Outs := (.one (.exit 2) ⟨[], [(.vec (.int .i64))]⟩)
def B_slices_heapSortOrdered_int_L2 : Blk := frBlk 1 [6, 7] K0_slices_heapSortOrdered_int_L2 TM_slices_heapSortOrdered_int_L2 UO_slices_heapSortOrdered_int_L2 (fun k => loopV (fun v => slices_heapSortOrdered_int_L2 k.1 k.2.1 v))
def gs_slices_heapSortOrdered_int : Nat → Option Blk := lk [(1, B_slices_heapSortOrdered_int_L1), (2, B_slices_heapSortOrdered_int_L2)]
theorem ct_slices_heapSortOrdered_int_L1 : CodeSound Try.prog (cx_slices_heapSortOrdered_int) (subL (subR (subL (subR (subR (subR (bodyOf Try.f39))))))) (B_slices_heapSortOrdered_int_L1).D :=
  loop_printed (G := gs_slices_heapSortOrdered_int) (A := .leaf) (T0 := K0_slices_heapSortOrdered_int_L1) (T := TM_slices_heapSortOrdered_int_L1) (U := UO_slices_heapSortOrdered_int_L1) (step := (fun k v => slices_heapSortOrdered_int_L1 k.1 k.2.1 v)) (cxo_slices_heapSortOrdered_int) follows (by kernel_rfl) (by kernel_rfl) (CutsOk.leaf _) (by intro k v; kernel_rfl)
theorem ct_slices_heapSortOrdered_int_L2 : CodeSound Try.prog (cx_slices_heapSortOrdered_int) (subL (subR (subR (subR (subR (subR (bodyOf Try.f39))))))) (B_slices_heapSortOrdered_int_L2).D :=
  loop_printed (G := gs_slices_heapSortOrdered_int) (A := .leaf) (T0 := K0_slices_heapSortOrdered_int_L2) (T := TM_slices_heapSortOrdered_int_L2) (U := UO_slices_heapSortOrdered_int_L2) (step := (fun k v => slices_heapSortOrdered_int_L2 k.1 k.2.1 v)) (cxo_slices_heapSortOrdered_int) follows (by kernel_rfl) (by kernel_rfl) (CutsOk.leaf _) (by intro k v; kernel_rfl)
theorem sd_slices_heapSortOrdered_int : FnSound Try.prog gl 39 sg_slices_heapSortOrdered_int :=
  fn_printed (G := gs_slices_heapSortOrdered_int) (A := (.two .leaf (.two .leaf (.two .leaf (.two (.two .leaf (.two (.cut 1) .leaf)) (.two .leaf (.two (.cut 2) .leaf))))))) (cxo_slices_heapSortOrdered_int) follows Try.func39 (by kernel_rfl) (by kernel_rfl) (by kernel_rfl) (by kernel_rfl) (by kernel_rfl) (CutsOk.two (CutsOk.leaf _) (CutsOk.two (CutsOk.leaf _) (CutsOk.two (CutsOk.leaf _) (CutsOk.two (CutsOk.two (CutsOk.leaf _) (CutsOk.two (CutsOk.cut (g := B_slices_heapSortOrdered_int_L1) (by kernel_rfl) (ct_slices_heapSortOrdered_int_L1)) (CutsOk.leaf _))) (CutsOk.two (CutsOk.leaf _) (CutsOk.two (CutsOk.cut (g := B_slices_heapSortOrdered_int_L2) (by kernel_rfl) (ct_slices_heapSortOrdered_int_L2)) (CutsOk.leaf _))))))) (by intro v; kernel_rfl)
def sg_slices_nextPowerOfTwo : Sig := mkSig [(.hole (.int .i64))] [] [(.hole (.int .u64))] [] (fun p => slices_nextPowerOfTwo p.1.1)
theorem fk_slices_nextPowerOfTwo : FnOk Try.prog 50 := ⟨Try.f50, Try.func50, by kernel_rfl, by kernel_rfl⟩
def cx_slices_nextPowerOfTwo : Cx := ⟨tys, lk [(37 + 100000 * 0, sg_math_bits_Len)], 7, 0, [], gl, []⟩
theorem cxo_slices_nextPowerOfTwo : CxOk Try.prog (cx_slices_nextPowerOfTwo) := ⟨tys_ok, FnsAll.cons 0 rfl fk_math_bits_Len sd_math_bits_Len (FnsAll.nil)⟩
def gs_slices_nextPowerOfTwo : Nat → Option Blk := lk []
theorem sd_slices_nextPowerOfTwo : FnSound Try.prog gl 50 sg_slices_nextPowerOfTwo :=
  fn_printed (G := gs_slices_nextPowerOfTwo) (A := .leaf) (cxo_slices_nextPowerOfTwo) follows Try.func50 (by kernel_rfl) (by kernel_rfl) (by kernel_rfl) (by kernel_rfl) (by kernel_rfl) (CutsOk.leaf _) (by intro v; kernel_rfl)
def sg_slices_xorshift_Next : Sig := mkSig [(.ptr 0 [])] [(.box (.int .u64) (.hole (.int .u64)))] [(.hole (.int .u64))] [(.box (.int .u64) (.hole (.int .u64)))] (fun p => slices_xorshift_Next p.2.1)
theorem fk_slices_xorshift_Next : FnOk Try.prog 51 := ⟨Try.f51, Try.func51, by kernel_rfl, by kernel_rfl⟩
def cx_slices_xorshift_Next : Cx := ⟨tys, lk [], 33, 1, [], gl, []⟩
theorem cxo_slices_xorshift_Next : CxOk Try.prog (cx_slices_xorshift_Next) := ⟨tys_ok, FnsAll.nil⟩
def gs_slices_xorshift_Next : Nat → Option Blk := lk []
theorem sd_slices_xorshift_Next : FnSound Try.prog gl 51 sg_slices_xorshift_Next :=
  fn_printed (G := gs_slices_xorshift_Next) (A := .leaf) (cxo_slices_xorshift_Next) follows Try.func51 (by kernel_rfl) (by kernel_rfl) (by kernel_rfl) (by kernel_rfl) (by kernel_rfl) (CutsOk.leaf _) (by intro v; kernel_rfl)
def sg_slices_breakPatternsOrdered_int : Sig := mkSig [(.own 0), (.hole (.int .i64)), (.hole (.int .i64))] [(.vec (.int .i64))] [] [(.vec (.int .i64))] (fun p => slices_breakPatternsOrdered_int p.1.2.1 p.1.2.2.1 p.2.1)
theorem fk_slices_breakPatternsOrdered_int : FnOk Try.prog 40 := ⟨Try.f40, Try.func40, by kernel_rfl, by kernel_rfl⟩
def cx_slices_breakPatternsOrdered_int : Cx := ⟨tys, lk [(50 + 100000 * 0, sg_slices_nextPowerOfTwo), (51 + 100000 * 0, sg_slices_xorshift_Next)], 65, 1, [], gl, []⟩
theorem cxo_slices_breakPatternsOrdered_int : CxOk Try.prog (cx_slices_breakPatternsOrdered_int) := ⟨tys_ok, FnsAll.cons 0 rfl fk_slices_nextPowerOfTwo sd_slices_nextPowerOfTwo (FnsAll.cons 0 rfl fk_slices_xorshift_Next sd_slices_xorshift_Next (FnsAll.nil))⟩
abbrev K0_slices_breakPatternsOrdered_int_J2 : List (Nat × Ty) := [(6, (.int .i64))]
abbrev TM_slices_breakPatternsOrdered_int_J2 : Tm := ⟨[(0, (.own 0)), (7, (.ptr 1 [])), (10, (.hole (.int .i64)))], [(.vec (.int .i64)), (.box (.int .u64) (.hole (.int .u64)))]⟩
abbrev UO_slices_breakPatternsOrdered_int_J2 : Outs := (.one .normal ⟨[(0, (.own 0)), (7, (.ptr 1 [])), (10, (.hole (.int .i64)))], [(.vec (.int .i64)), (.box (.int .u64) (.hole (.int .u64)))]⟩)
def B_slices_breakPatternsOrdered_int_J2 : Blk := frBlk 1 [1, 6, 8, 9] K0_slices_breakPatternsOrdered_int_J2 TM_slices_breakPatternsOrdered_int_J2 UO_slices_breakPatternsOrdered_int_J2 (fun k v => slices_breakPatternsOrdered_int_J2 k.1 v)
abbrev K0_slices_breakPatternsOrdered_int_L1 : List (Nat × Ty) := [(1, (.int .i64)), (6, (.int .i64)), (8, (.int .u64))]
abbrev TM_slices_breakPatternsOrdered_int_L1 : Tm := ⟨[(0, (.own 0)), (7, (.ptr 1 [])), (9, (.hole (.int .i64)))], [(.vec (.int .i64)), (.box (.int .u64) (.hole (.int .u64)))]⟩
abbrev UO_slices_breakPatternsOrdered_int_L1 : Outs := (.one (.exit 0) ⟨[], [(.vec (.int .i64))]⟩)
def B_slices_breakPatternsOrdered_int_L1 : Blk := frBlk 1 [1, 6, 8] K0_slices_breakPatternsOrdered_int_L1 TM_slices_breakPatternsOrdered_int_L1 UO_slices_breakPatternsOrdered_int_L1 (fun k => loopV (fun v => slices_breakPatternsOrdered_int_L1 k.1 k.2.1 k.2.2.1 v))
def gs_slices_breakPatternsOrdered_int : Nat → Option Blk := lk [(2, B_slices_breakPatternsOrdered_int_J2), (1, B_slices_breakPatternsOrdered_int_L1)]
theorem ct_slices_breakPatternsOrdered_int_J2 : CodeSound Try.prog ((cx_slices_breakPatternsOrdered_int).fr [1, 6, 8]) (subL (subR (subL (subL (subR (subL (subL (subR (subR (subR (subL (subR (subR (bodyOf Try.f40)))))))))))))) (B_slices_breakPatternsOrdered_int_J2).D :=
  join_sound (G := gs_slices_breakPatternsOrdered_int) (A := .leaf) (T0 := K0_slices_breakPatternsOrdered_int_J2) (T := TM_slices_breakPatternsOrdered_int_J2) (U := UO_slices_breakPatternsOrdered_int_J2) (F := (fun k v => slices_breakPatternsOrdered_int_J2 k.1 v)) ((cxo_slices_breakPatternsOrdered_int).fr [1, 6, 8]) follows (by kernel_rfl) (CutsOk.leaf _) (by intro k v; kernel_rfl)
theorem ct_slices_breakPatternsOrdered_int_L1 : CodeSound Try.prog (cx_slices_breakPatternsOrdered_int) (subL (subR (subR (subR (subL (subR (subR (bodyOf Try.f40)))))))) (B_slices_breakPatternsOrdered_int_L1).D :=
  loop_printed (G := gs_slices_breakPatternsOrdered_int) (A := (.two .leaf (.two (.two (.two .leaf (.two (.cut 2) .leaf)) .leaf) .leaf))) (T0 := K0_slices_breakPatternsOrdered_int_L1) (T := TM_slices_breakPatternsOrdered_int_L1) (U := UO_slices_breakPatternsOrdered_int_L1) (step := (fun k v => slices_breakPatternsOrdered_int_L1 k.1 k.2.1 k.2.2.1 v)) (cxo_slices_breakPatternsOrdered_int) follows (by kernel_rfl) (by kernel_rfl) (CutsOk.two (CutsOk.leaf _) (CutsOk.two (CutsOk.two (CutsOk.two (CutsOk.leaf _) (CutsOk.two (CutsOk.cut (g := B_slices_breakPatternsOrdered_int_J2) (by kernel_rfl) (ct_slices_breakPatternsOrdered_int_J2)) (CutsOk.leaf _))) (CutsOk.leaf _)) (CutsOk.leaf _))) (by intro k v; kernel_rfl)
theorem sd_slices_breakPatternsOrdered_int : FnSound Try.prog gl 40 sg_slices_breakPatternsOrdered_int :=
  fn_printed (G := gs_slices_breakPatternsOrdered_int) (A := (.two .leaf (.two .leaf (.two (.two .leaf (.two .leaf (.two .leaf (.two (.cut 1) .leaf)))) .leaf)))) (cxo_slices_breakPatternsOrdered_int) follows Try.func40 (by kernel_rfl) (by kernel_rfl) (by kernel_rfl) (by kernel_rfl) (by kernel_rfl) (CutsOk.two (CutsOk.leaf _) (CutsOk.two (CutsOk.leaf _) (CutsOk.two (CutsOk.two (CutsOk.leaf _) (CutsOk.two (CutsOk.leaf _) (CutsOk.two (CutsOk.leaf _) (CutsOk.two (CutsOk.cut (g := B_slices_breakPatternsOrdered_int_L1) (by kernel_rfl) (ct_slices_breakPatternsOrdered_int_L1)) (CutsOk.leaf _))))) (CutsOk.leaf _)))) (by intro v; kernel_rfl)
def sg_slices_order2Ordered_int : Sig := mkSig [(.hole (.slice (.int .i64))), (.hole (.int .i64)), (.hole (.int .i64)), (.ptr 0 [])] [(.box (.int .i64) (.hole (.int .i64)))] [(.hole (.int .i64)), (.hole (.int .i64))] [(.box (.int .i64) (.hole (.int .i64)))] (fun p => slices_order2Ordered_int p.1.1 p.1.2.1 p.1.2.2.1 p.2.1)
theorem fk_slices_order2Ordered_int : FnOk Try.prog 55 := ⟨Try.f55, Try.func55, by kernel_rfl, by kernel_rfl⟩
def cx_slices_order2Ordered_int : Cx := ⟨tys, lk [(44 + 100000 * 0, sg_cmp_Less_int)], 28, 1, [], gl, []⟩
theorem cxo_slices_order2Ordered_int : CxOk Try.prog (cx_slices_order2Ordered_int) := ⟨tys_ok, FnsAll.cons 0 rfl fk_cmp_Less_int sd_cmp_Less_int (FnsAll.nil)⟩
def gs_slices_order2Ordered_int : Nat → Option Blk := lk []
theorem sd_slices_order2Ordered_int : FnSound Try.prog gl 55 sg_slices_order2Ordered_int :=
  fn_printed (G := gs_slices_order2Ordered_int) (A := .leaf) (cxo_slices_order2Ordered_int) follows Try.func55 (by kernel_rfl) (by kernel_rfl) (by kernel_rfl) (by kernel_rfl) (by kernel_rfl) (CutsOk.leaf _) (by intro v; kernel_rfl)
def sg_slices_medianOrdered_int : Sig := mkSig [(.hole (.slice (.int .i64))), (.hole (.int .i64)), (.hole (.int .i64)), (.hole (.int .i64)), (.ptr 0 [])] [(.box (.int .i64) (.hole (.int .i64)))] [(.hole (.int .i64))] [(.box (.int .i64) (.hole (.int .i64)))] (fun p => slices_medianOrdered_int p.1.1 p.1.2.1 p.1.2.2.1 p.1.2.2.2.1 p.2.1)
theorem fk_slices_medianOrdered_int : FnOk Try.prog 53 := ⟨Try.f53, Try.func53, by kernel_rfl, by kernel_rfl⟩
def cx_slices_medianOrdered_int : Cx := ⟨tys, lk [(55 + 100000 * 0, sg_slices_order2Ordered_int)], 36, 1, [], gl, []⟩
theorem cxo_slices_medianOrdered_int : CxOk Try.prog (cx_slices_medianOrdered_int) := ⟨tys_ok, FnsAll.cons 0 rfl fk_slices_order2Ordered_int sd_slices_order2Ordered_int (FnsAll.nil)⟩
def gs_slices_medianOrdered_int : Nat → Option Blk := lk []
theorem sd_slices_medianOrdered_int : FnSound Try.prog gl 53 sg_slices_medianOrdered_int :=
  fn_printed (G := gs_slices_medianOrdered_int) (A := .leaf) (cxo_slices_medianOrdered_int) follows Try.func53 (by kernel_rfl) (by kernel_rfl) (by kernel_rfl) (by kernel_rfl) (by kernel_rfl) (CutsOk.leaf _) (by intro v; kernel_rfl)
def sg_slices_medianAdjacentOrdered_int : Sig := mkSig [(.hole (.slice (.int .i64))), (.hole (.int .i64)), (.ptr 0 [])] [(.box (.int .i64) (.hole (.int .i64)))] [(.hole (.int .i64))] [(.box (.int .i64) (.hole (.int .i64)))] (fun p => slices_medianAdjacentOrdered_int p.1.1 p.1.2.1 p.2.1)
theorem fk_slices_medianAdjacentOrdered_int : FnOk Try.prog 52 := ⟨Try.f52, Try.func52, by kernel_rfl, by kernel_rfl⟩
def cx_slices_medianAdjacentOrdered_int : Cx := ⟨tys, lk [(53 + 100000 * 0, sg_slices_medianOrdered_int)], 15, 1, [], gl, []⟩
theorem cxo_slices_medianAdjacentOrdered_int : CxOk Try.prog (cx_slices_medianAdjacentOrdered_int) := ⟨tys_ok, FnsAll.cons 0 rfl fk_slices_medianOrdered_int sd_slices_medianOrdered_int (FnsAll.nil)⟩
def gs_slices_medianAdjacentOrdered_int : Nat → Option Blk := lk []
theorem sd_slices_medianAdjacentOrdered_int : FnSound Try.prog gl 52 sg_slices_medianAdjacentOrdered_int :=
  fn_printed (G := gs_slices_medianAdjacentOrdered_int) (A := .leaf) (cxo_slices_medianAdjacentOrdered_int) follows Try.func52 (by kernel_rfl) (by kernel_rfl) (by kernel_rfl) (by kernel_rfl) (by kernel_rfl) (CutsOk.leaf _) (by intro v; kernel_rfl)
def sg_slices_choosePivotOrdered_int : Sig := mkSig [(.hole (.slice (.int .i64))), (.hole (.int .i64)), (.hole (.int .i64))] [] [(.hole (.int .i64)), (.hole (.int .i64))] [] (fun p => slices_choosePivotOrdered_int p.1.1 p.1.2.1 p.1.2.2.1)
theorem fk_slices_choosePivotOrdered_int : FnOk Try.prog 41 := ⟨Try.f41, Try.func41, by kernel_rfl, by kernel_rfl⟩
def cx_slices_choosePivotOrdered_int : Cx := ⟨tys, lk [(52 + 100000 * 0, sg_slices_medianAdjacentOrdered_int), (53 + 100000 * 0, sg_slices_medianOrdered_int)], 57, 0, [], gl, []⟩
theorem cxo_slices_choosePivotOrdered_int : CxOk Try.prog (cx_slices_choosePivotOrdered_int) := ⟨tys_ok, FnsAll.cons 0 rfl fk_slices_medianAdjacentOrdered_int sd_slices_medianAdjacentOrdered_int (FnsAll.cons 0 rfl fk_slices_medianOrdered_int sd_slices_medianOrdered_int (FnsAll.nil))⟩
abbrev K0_slices_choosePivotOrdered_int_J2 : List (Nat × Ty) := [(0, (.slice (.int .i64))), (8, (.int .i64))]
abbrev TM_slices_choosePivotOrdered_int_J2 : Tm := ⟨[(9, (.ptr 0 [])), (10, (.hole (.int .i64))), (11, (.hole (.int .i64))), (12, (.hole (.int .i64)))], [(.box (.int .i64) (.hole (.int .i64)))]⟩
abbrev UO_slices_choosePivotOrdered_int_J2 : Outs := (.one .normal ⟨[(9, (.ptr 0 [])), (10, (.hole (.int .i64))), (11, (.hole (.int .i64))), (12, (.hole (.int .i64)))], [(.box (.int .i64) (.hole (.int .i64)))]⟩)
def B_slices_choosePivotOrdered_int_J2 : Blk := frBlk 0 [0, 8] K0_slices_choosePivotOrdered_int_J2 TM_slices_choosePivotOrdered_int_J2 UO_slices_choosePivotOrdered_int_J2 (fun k v => slices_choosePivotOrdered_int_J2 k.1 k.2.1 v)
abbrev K0_slices_choosePivotOrdered_int_J1 : List (Nat × Ty) := [(0, (.slice (.int .i64))), (8, (.int .i64))]
abbrev TM_slices_choosePivotOrdered_int_J1 : Tm := ⟨[(9, (.ptr 0 [])), (10, (.hole (.int .i64))), (11, (.hole (.int .i64))), (12, (.hole (.int .i64)))], [(.box (.int .i64) (.hole (.int .i64)))]⟩
abbrev UO_slices_choosePivotOrdered_int_J1 : Outs := (.one .normal ⟨[(9, (.ptr 0 [])), (11, (.hole (.int .i64)))], [(.box (.int .i64) (.hole (.int .i64)))]⟩)
def B_slices_choosePivotOrdered_int_J1 : Blk := frBlk 0 [0, 6, 7, 8] K0_slices_choosePivotOrdered_int_J1 TM_slices_choosePivotOrdered_int_J1 UO_slices_choosePivotOrdered_int_J1 (fun k v => slices_choosePivotOrdered_int_J1 k.1 k.2.1 v)
def gs_slices_choosePivotOrdered_int : Nat → Option Blk := lk [(2, B_slices_choosePivotOrdered_int_J2), (1, B_slices_choosePivotOrdered_int_J1)]
theorem ct_slices_choosePivotOrdered_int_J2 : CodeSound Try.prog ((cx_slices_choosePivotOrdered_int).fr [0, 6, 7, 8]) (subL (subL (subR (subL (subR (subR (subR (subR (subR (subR (bodyOf Try.f41))))))))))) (B_slices_choosePivotOrdered_int_J2).D :=
  join_sound (G := gs_slices_choosePivotOrdered_int) (A := .leaf) (T0 := K0_slices_choosePivotOrdered_int_J2) (T := TM_slices_choosePivotOrdered_int_J2) (U := UO_slices_choosePivotOrdered_int_J2) (F := (fun k v => slices_choosePivotOrdered_int_J2 k.1 k.2.1 v)) ((cxo_slices_choosePivotOrdered_int).fr [0, 6, 7, 8]) follows (by kernel_rfl) (CutsOk.leaf _) (by intro k v; kernel_rfl)
theorem ct_slices_choosePivotOrdered_int_J1 : CodeSound Try.prog (cx_slices_choosePivotOrdered_int) (subL (subR (subR (subR (subR (subR (subR (bodyOf Try.f41)))))))) (B_slices_choosePivotOrdered_int_J1).D :=
  join_sound (G := gs_slices_choosePivotOrdered_int) (A := (.two .leaf (.two (.two (.cut 2) .leaf) .leaf))) (T0 := K0_slices_choosePivotOrdered_int_J1) (T := TM_slices_choosePivotOrdered_int_J1) (U := UO_slices_choosePivotOrdered_int_J1) (F := (fun k v => slices_choosePivotOrdered_int_J1 k.1 k.2.1 v)) (cxo_slices_choosePivotOrdered_int) follows (by kernel_rfl) (CutsOk.two (CutsOk.leaf _) (CutsOk.two (CutsOk.two (CutsOk.cut (g := B_slices_choosePivotOrdered_int_J2) (by kernel_rfl) (ct_slices_choosePivotOrdered_int_J2)) (CutsOk.leaf _)) (CutsOk.leaf _))) (by intro k v; kernel_rfl)
theorem sd_slices_choosePivotOrdered_int : FnSound Try.prog gl 41 sg_slices_choosePivotOrdered_int :=
  fn_printed (G := gs_slices_choosePivotOrdered_int) (A := (.two .leaf (.two .leaf (.two .leaf (.two .leaf (.two .leaf (.two .leaf (.two (.cut 1) .leaf)))))))) (cxo_slices_choosePivotOrdered_int) follows Try.func41 (by kernel_rfl) (by kernel_rfl) (by kernel_rfl) (by kernel_rfl) (by kernel_rfl) (CutsOk.two (CutsOk.leaf _) (CutsOk.two (CutsOk.leaf _) (CutsOk.two (CutsOk.leaf _) (CutsOk.two (CutsOk.leaf _) (CutsOk.two (CutsOk.leaf _) (CutsOk.two (CutsOk.leaf _) (CutsOk.two (CutsOk.cut (g := B_slices_choosePivotOrdered_int_J1) (by kernel_rfl) (ct_slices_choosePivotOrdered_int_J1)) (CutsOk.leaf _)))))))) (by intro v; kernel_rfl)
def sg_slices_reverseRangeOrdered_int : Sig := mkSig [(.own 0), (.hole (.int .i64)), (.hole (.int .i64))] [(.vec (.int .i64))] [] [(.vec (.int .i64))] (fun p => slices_reverseRangeOrdered_int p.1.2.1 p.1.2.2.1 p.2.1)
theorem fk_slices_reverseRangeOrdered_int : FnOk Try.prog 42 := ⟨Try.f42, Try.func42, by kernel_rfl, by kernel_rfl⟩
def cx_slices_reverseRangeOrdered_int : Cx := ⟨tys, lk [], 32, 1, [], gl, []⟩
theorem cxo_slices_reverseRangeOrdered_int : CxOk Try.prog (cx_slices_reverseRangeOrdered_int) := ⟨tys_ok, FnsAll.nil⟩
abbrev K0_slices_reverseRangeOrdered_int_L1 : List (Nat × Ty) := []
abbrev TM_slices_reverseRangeOrdered_int_L1 : Tm := ⟨[(0, (.own 0)), (6, (.hole (.int .i64))), (7, (.hole (.int .i64)))], [(.vec (.int .i64))]⟩
abbrev UO_slices_reverseRangeOrdered_int_L1 : Outs := (.one (.exit 0) ⟨[], [(.vec (.int .i64))]⟩)
def B_slices_reverseRangeOrdered_int_L1 : Blk := frBlk 1 [] K0_slices_reverseRangeOrdered_int_L1 TM_slices_reverseRangeOrdered_int_L1 UO_slices_reverseRangeOrdered_int_L1 (fun k => loopV (fun v => slices_reverseRangeOrdered_int_L1 v))
def gs_slices_reverseRangeOrdered_int : Nat → Option Blk := lk [(1, B_slices_reverseRangeOrdered_int_L1)]
theorem ct_slices_reverseRangeOrdered_int_L1 : CodeSound Try.prog (cx_slices_reverseRangeOrdered_int) (subL (subR (subR (bodyOf Try.f42)))) (B_slices_reverseRangeOrdered_int_L1).D :=
  loop_printed (G := gs_slices_reverseRangeOrdered_int) (A := .leaf) (T0 := K0_slices_reverseRangeOrdered_int_L1) (T := TM_slices_reverseRangeOrdered_int_L1) (U := UO_slices_reverseRangeOrdered_int_L1) (step := (fun k v => slices_reverseRangeOrdered_int_L1 v)) (cxo_slices_reverseRangeOrdered_int) follows (by kernel_rfl) (by kernel_rfl) (CutsOk.leaf _) (by intro k v; kernel_rfl)
theorem sd_slices_reverseRangeOrdered_int : FnSound Try.prog gl 42 sg_slices_reverseRangeOrdered_int :=
  fn_printed (G := gs_slices_reverseRangeOrdered_int) (A := (.two .leaf (.two .leaf (.two (.cut 1) .leaf)))) (cxo_slices_reverseRangeOrdered_int) follows Try.func42 (by kernel_rfl) (by kernel_rfl) (by kernel_rfl) (by kernel_rfl) (by kernel_rfl) (CutsOk.two (CutsOk.leaf _) (CutsOk.two (CutsOk.leaf _) (CutsOk.two (CutsOk.cut (g := B_slices_reverseRangeOrdered_int_L1) (by kernel_rfl) (ct_slices_reverseRangeOrdered_int_L1)) (CutsOk.leaf _)))) (by intro v; kernel_rfl)
def sg_slices_partialInsertionSortOrdered_int : Sig := mkSig [(.own 0), (.hole (.int .i64)), (.hole (.int .i64))] [(.vec (.int .i64))] [(.hole .bool)] [(.vec (.int .i64))] (fun p => slices_partialInsertionSortOrdered_int p.1.2.1 p.1.2.2.1 p.2.1)
theorem fk_slices_partialInsertionSortOrdered_int : FnOk Try.prog 43 := ⟨Try.f43, Try.func43, by kernel_rfl, by kernel_rfl⟩
def cx_slices_partialInsertionSortOrdered_int : Cx := ⟨tys, lk [(44 + 100000 * 0, sg_cmp_Less_int)], 133, 1, [], gl, []⟩
theorem cxo_slices_partialInsertionSortOrdered_int : CxOk Try.prog (cx_slices_partialInsertionSortOrdered_int) := ⟨tys_ok, FnsAll.cons 0 rfl fk_cmp_Less_int sd_cmp_Less_int (FnsAll.nil)⟩
abbrev K0_slices_partialInsertionSortOrdered_int_L4 : List (Nat × Ty) := []
abbrev TM_slices_partialInsertionSortOrdered_int_L4 : Tm := ⟨[(0, (.own 0)), (9, (.hole (.int .i64)))], [(.vec (.int .i64))]⟩
abbrev UO_slices_partialInsertionSortOrdered_int_L4 : Outs := (.one (.exit 4) ⟨[(0, (.own 0))], [(.vec (.int .i64))]⟩)
def B_slices_partialInsertionSortOrdered_int_L4 : Blk := frBlk 1 [1, 7] K0_slices_partialInsertionSortOrdered_int_L4 TM_slices_partialInsertionSortOrdered_int_L4 UO_slices_partialInsertionSortOrdered_int_L4 (fun k => loopV (fun v => slices_partialInsertionSortOrdered_int_L4 v))
abbrev K0_slices_partialInsertionSortOrdered_int_J3 : List (Nat × Ty) := [(1, (.int .i64)), (7, (.int .i64))]
abbrev TM_slices_partialInsertionSortOrdered_int_J3 : Tm := ⟨[(0, (.own 0))], [(.vec (.int .i64))]⟩
abbrev UO_slices_partialInsertionSortOrdered_int_J3 : Outs := (.one .normal ⟨[(0, (.own 0))], [(.vec (.int .i64))]⟩)
def B_slices_partialInsertionSortOrdered_int_J3 : Blk := frBlk 1 [1, 2, 7, 8] K0_slices_partialInsertionSortOrdered_int_J3 TM_slices_partialInsertionSortOrdered_int_J3 UO_slices_partialInsertionSortOrdered_int_J3 (fun k v => slices_partialInsertionSortOrdered_int_J3 k.1 k.2.1 v)
abbrev K0_slices_partialInsertionSortOrdered_int_L2 : List (Nat × Ty) := [(2, (.int .i64))]
abbrev TM_slices_partialInsertionSortOrdered_int_L2 : Tm := ⟨[(0, (.own 0)), (7, (.hole (.int .i64)))], [(.vec (.int .i64))]⟩
abbrev UO_slices_partialInsertionSortOrdered_int_L2 : Outs := (.one (.exit 2) ⟨[(0, (.own 0)), (7, (.hole (.int .i64)))], [(.vec (.int .i64))]⟩)
def B_slices_partialInsertionSortOrdered_int_L2 : Blk := frBlk 1 [1, 2, 8] K0_slices_partialInsertionSortOrdered_int_L2 TM_slices_partialInsertionSortOrdered_int_L2 UO_slices_partialInsertionSortOrdered_int_L2 (fun k => loopV (fun v => slices_partialInsertionSortOrdered_int_L2 k.1 v))
abbrev K0_slices_partialInsertionSortOrdered_int_L5 : List (Nat × Ty) := [(2, (.int .i64))]
abbrev TM_slices_partialInsertionSortOrdered_int_L5 : Tm := ⟨[(0, (.own 0)), (10, (.hole (.int .i64)))], [(.vec (.int .i64))]⟩
abbrev UO_slices_partialInsertionSortOrdered_int_L5 : Outs := (.one (.exit 6) ⟨[(0, (.own 0))], [(.vec (.int .i64))]⟩)
def B_slices_partialInsertionSortOrdered_int_L5 : Blk := frBlk 1 [1, 2, 7, 8] K0_slices_partialInsertionSortOrdered_int_L5 TM_slices_partialInsertionSortOrdered_int_L5 UO_slices_partialInsertionSortOrdered_int_L5 (fun k => loopV (fun v => slices_partialInsertionSortOrdered_int_L5 k.1 v))
abbrev K0_slices_partialInsertionSortOrdered_int_L1 : List (Nat × Ty) := [(1, (.int .i64)), (2, (.int .i64))]
abbrev TM_slices_partialInsertionSortOrdered_int_L1 : Tm := ⟨[(0, (.own 0)), (7, (.hole (.int .i64))), (8, (.hole (.int .i64)))], [(.vec (.int .i64))]⟩
abbrev UO_slices_partialInsertionSortOrdered_int_L1 : Outs := (.more .ret ⟨[(6, (.hole .bool))], [(.vec (.int .i64))]⟩ (.one (.exit 0) ⟨[], [(.vec (.int .i64))]⟩))
def B_slices_partialInsertionSortOrdered_int_L1 : Blk := frBlk 1 [1, 2] K0_slices_partialInsertionSortOrdered_int_L1 TM_slices_partialInsertionSortOrdered_int_L1 UO_slices_partialInsertionSortOrdered_int_L1 (fun k => loopV (fun v => slices_partialInsertionSortOrdered_int_L1 k.1 k.2.1 v))
def gs_slices_partialInsertionSortOrdered_int : Nat → Option Blk := lk [(4, B_slices_partialInsertionSortOrdered_int_L4), (3, B_slices_partialInsertionSortOrdered_int_J3), (2, B_slices_partialInsertionSortOrdered_int_L2), (5, B_slices_partialInsertionSortOrdered_int_L5), (1, B_slices_partialInsertionSortOrdered_int_L1)]
theorem ct_slices_partialInsertionSortOrdered_int_L4 : CodeSound Try.prog (((cx_slices_partialInsertionSortOrdered_int).fr [1, 2]).fr [1, 2, 7, 8]) (subL (subR (subL (subR (subL (subR (subR (subR (subR (subL (subL (subR (subL (subL (subR (subL (subR (subR (bodyOf Try.f43))))))))))))))))))) (B_slices_partialInsertionSortOrdered_int_L4).D :=
  loop_printed (G := gs_slices_partialInsertionSortOrdered_int) (A := .leaf) (T0 := K0_slices_partialInsertionSortOrdered_int_L4) (T := TM_slices_partialInsertionSortOrdered_int_L4) (U := UO_slices_partialInsertionSortOrdered_int_L4) (step := (fun k v => slices_partialInsertionSortOrdered_int_L4 v)) (((cxo_slices_partialInsertionSortOrdered_int).fr [1, 2]).fr [1, 2, 7, 8]) follows (by kernel_rfl) (by kernel_rfl) (CutsOk.leaf _) (by intro k v; kernel_rfl)
theorem ct_slices_partialInsertionSortOrdered_int_L5 : CodeSound Try.prog ((cx_slices_partialInsertionSortOrdered_int).fr [1, 2]) (subL (subR (subL (subR (subR (subR (subR (subR (subR (subL (subL (subR (subL (subL (subR (subL (subR (subR (bodyOf Try.f43))))))))))))))))))) (B_slices_partialInsertionSortOrdered_int_L5).D :=
  loop_printed (G := gs_slices_partialInsertionSortOrdered_int) (A := .leaf) (T0 := K0_slices_partialInsertionSortOrdered_int_L5) (T := TM_slices_partialInsertionSortOrdered_int_L5) (U := UO_slices_partialInsertionSortOrdered_int_L5) (step := (fun k v => slices_partialInsertionSortOrdered_int_L5 k.1 v)) ((cxo_slices_partialInsertionSortOrdered_int).fr [1, 2]) follows (by kernel_rfl) (by kernel_rfl) (CutsOk.leaf _) (by intro k v; kernel_rfl)
theorem ct_slices_partialInsertionSortOrdered_int_J3 : CodeSound Try.prog ((cx_slices_partialInsertionSortOrdered_int).fr [1, 2]) (subL (subR (subR (subR (subR (subL (subL (subR (subL (subL (subR (subL (subR (subR (bodyOf Try.f43))))))))))))))) (B_slices_partialInsertionSortOrdered_int_J3).D :=
  join_sound (G := gs_slices_partialInsertionSortOrdered_int) (A := (.two .leaf (.two (.two .leaf (.two (.cut 4) .leaf)) .leaf))) (T0 := K0_slices_partialInsertionSortOrdered_int_J3) (T := TM_slices_partialInsertionSortOrdered_int_J3) (U := UO_slices_partialInsertionSortOrdered_int_J3) (F := (fun k v => slices_partialInsertionSortOrdered_int_J3 k.1 k.2.1 v)) ((cxo_slices_partialInsertionSortOrdered_int).fr [1, 2]) follows (by kernel_rfl) (CutsOk.two (CutsOk.leaf _) (CutsOk.two (CutsOk.two (CutsOk.leaf _) (CutsOk.two (CutsOk.cut (g := B_slices_partialInsertionSortOrdered_int_L4) (by kernel_rfl) (ct_slices_partialInsertionSortOrdered_int_L4)) (CutsOk.leaf _))) (CutsOk.leaf _))) (by intro k v; kernel_rfl)
theorem ct_slices_partialInsertionSortOrdered_int_L2 : CodeSound Try.prog ((cx_slices_partialInsertionSortOrdered_int).fr [1, 2]) (subL (subL (subL (subL (subR (subL (subL (subR (subL (subR (subR (bodyOf Try.f43)))))))))))) (B_slices_partialInsertionSortOrdered_int_L2).D :=
  loop_printed (G := gs_slices_partialInsertionSortOrdered_int) (A := .leaf) (T0 := K0_slices_partialInsertionSortOrdered_int_L2) (T := TM_slices_partialInsertionSortOrdered_int_L2) (U := UO_slices_partialInsertionSortOrdered_int_L2) (step := (fun k v => slices_partialInsertionSortOrdered_int_L2 k.1 v)) ((cxo_slices_partialInsertionSortOrdered_int).fr [1, 2]) follows (by kernel_rfl) (by kernel_rfl) (CutsOk.leaf _) (by intro k v; kernel_rfl)
theorem ct_slices_partialInsertionSortOrdered_int_L1 : CodeSound Try.prog (cx_slices_partialInsertionSortOrdered_int) (subL (subR (subL (subR (subR (bodyOf Try.f43)))))) (B_slices_partialInsertionSortOrdered_int_L1).D :=
  loop_printed (G := gs_slices_partialInsertionSortOrdered_int) (A := (.two .leaf (.two (.two (.two (.two (.cut 2) .leaf) (.two .leaf (.two .leaf (.two .leaf (.two (.cut 3) (.two .leaf (.two (.two .leaf (.two (.cut 5) .leaf)) .leaf))))))) .leaf) .leaf))) (T0 := K0_slices_partialInsertionSortOrdered_int_L1) (T := TM_slices_partialInsertionSortOrdered_int_L1) (U := UO_slices_partialInsertionSortOrdered_int_L1) (step := (fun k v => slices_partialInsertionSortOrdered_int_L1 k.1 k.2.1 v)) (cxo_slices_partialInsertionSortOrdered_int) follows (by kernel_rfl) (by kernel_rfl) (CutsOk.two (CutsOk.leaf _) (CutsOk.two (CutsOk.two (CutsOk.two (CutsOk.two (CutsOk.cut (g := B_slices_partialInsertionSortOrdered_int_L2) (by kernel_rfl) (ct_slices_partialInsertionSortOrdered_int_L2)) (CutsOk.leaf _)) (CutsOk.two (CutsOk.leaf _) (CutsOk.two (CutsOk.leaf _) (CutsOk.two (CutsOk.leaf _) (CutsOk.two (CutsOk.cut (g := B_slices_partialInsertionSortOrdered_int_J3) (by kernel_rfl) (ct_slices_partialInsertionSortOrdered_int_J3)) (CutsOk.two (CutsOk.leaf _) (CutsOk.two (CutsOk.two (CutsOk.leaf _) (CutsOk.two (CutsOk.cut (g := B_slices_partialInsertionSortOrdered_int_L5) (by kernel_rfl) (ct_slices_partialInsertionSortOrdered_int_L5)) (CutsOk.leaf _))) (CutsOk.leaf _)))))))) (CutsOk.leaf _)) (CutsOk.leaf _))) (by intro k v; kernel_rfl)
theorem sd_slices_partialInsertionSortOrdered_int : FnSound Try.prog gl 43 sg_slices_partialInsertionSortOrdered_int :=
  fn_printed (G := gs_slices_partialInsertionSortOrdered_int) (A := (.two .leaf (.two .leaf (.two (.two .leaf (.two (.cut 1) .leaf)) .leaf)))) (cxo_slices_partialInsertionSortOrdered_int) follows Try.func43 (by kernel_rfl) (by kernel_rfl) (by kernel_rfl) (by kernel_rfl) (by kernel_rfl) (CutsOk.two (CutsOk.leaf _) (CutsOk.two (CutsOk.leaf _) (CutsOk.two (CutsOk.two (CutsOk.leaf _) (CutsOk.two (CutsOk.cut (g := B_slices_partialInsertionSortOrdered_int_L1) (by kernel_rfl) (ct_slices_partialInsertionSortOrdered_int_L1)) (CutsOk.leaf _))) (CutsOk.leaf _)))) (by intro v; kernel_rfl)
def sg_slices_partitionEqualOrdered_int : Sig := mkSig [(.own 0), (.hole (.int .i64)), (.hole (.int .i64)), (.hole (.int .i64))] [(.vec (.int .i64))] [(.hole (.int .i64))] [(.vec (.int .i64))] (fun p => slices_partitionEqualOrdered_int p.1.2.1 p.1.2.2.1 p.1.2.2.2.1 p.2.1)
theorem fk_slices_partitionEqualOrdered_int : FnOk Try.prog 45 := ⟨Try.f45, Try.func45, by kernel_rfl, by kernel_rfl⟩
def cx_slices_partitionEqualOrdered_int : Cx := ⟨tys, lk [(44 + 100000 * 0, sg_cmp_Less_int)], 84, 1, [], gl, []⟩
theorem cxo_slices_partitionEqualOrdered_int : CxOk Try.prog (cx_slices_partitionEqualOrdered_int) := ⟨tys_ok, FnsAll.cons 0 rfl fk_cmp_Less_int sd_cmp_Less_int (FnsAll.nil)⟩
abbrev K0_slices_partitionEqualOrdered_int_L2 : List (Nat × Ty) := [(1, (.int .i64)), (10, (.int .i64))]
abbrev TM_slices_partitionEqualOrdered_int_L2 : Tm := ⟨[(0, (.own 0)), (9, (.hole (.int .i64)))], [(.vec (.int .i64))]⟩
abbrev UO_slices_partitionEqualOrdered_int_L2 : Outs := (.one (.exit 2) ⟨[(0, (.own 0)), (9, (.hole (.int .i64)))], [(.vec (.int .i64))]⟩)
def B_slices_partitionEqualOrdered_int_L2 : Blk := frBlk 1 [1, 10] K0_slices_partitionEqualOrdered_int_L2 TM_slices_partitionEqualOrdered_int_L2 UO_slices_partitionEqualOrdered_int_L2 (fun k => loopV (fun v => slices_partitionEqualOrdered_int_L2 k.1 k.2.1 v))
abbrev K0_slices_partitionEqualOrdered_int_L3 : List (Nat × Ty) := [(1, (.int .i64)), (9, (.int .i64))]
abbrev TM_slices_partitionEqualOrdered_int_L3 : Tm := ⟨[(0, (.own 0)), (10, (.hole (.int .i64)))], [(.vec (.int .i64))]⟩
abbrev UO_slices_partitionEqualOrdered_int_L3 : Outs := (.one (.exit 4) ⟨[(0, (.own 0)), (10, (.hole (.int .i64)))], [(.vec (.int .i64))]⟩)
def B_slices_partitionEqualOrdered_int_L3 : Blk := frBlk 1 [1, 9] K0_slices_partitionEqualOrdered_int_L3 TM_slices_partitionEqualOrdered_int_L3 UO_slices_partitionEqualOrdered_int_L3 (fun k => loopV (fun v => slices_partitionEqualOrdered_int_L3 k.1 k.2.1 v))
abbrev K0_slices_partitionEqualOrdered_int_L1 : List (Nat × Ty) := [(1, (.int .i64))]
abbrev TM_slices_partitionEqualOrdered_int_L1 : Tm := ⟨[(0, (.own 0)), (9, (.hole (.int .i64))), (10, (.hole (.int .i64)))], [(.vec (.int .i64))]⟩
abbrev UO_slices_partitionEqualOrdered_int_L1 : Outs := (.one (.exit 0) ⟨[(9, (.hole (.int .i64)))], [(.vec (.int .i64))]⟩)
def B_slices_partitionEqualOrdered_int_L1 : Blk := frBlk 1 [1, 8] K0_slices_partitionEqualOrdered_int_L1 TM_slices_partitionEqualOrdered_int_L1 UO_slices_partitionEqualOrdered_int_L1 (fun k => loopV (fun v => slices_partitionEqualOrdered_int_L1 k.1 v))
def gs_slices_partitionEqualOrdered_int : Nat → Option Blk := lk [(2, B_slices_partitionEqualOrdered_int_L2), (3, B_slices_partitionEqualOrdered_int_L3), (1, B_slices_partitionEqualOrdered_int_L1)]
theorem ct_slices_partitionEqualOrdered_int_L3 : CodeSound Try.prog ((cx_slices_partitionEqualOrdered_int).fr [1, 8]) (subL (subL (subR (subL (subL (subL (subL (subR (subR (subR (bodyOf Try.f45))))))))))) (B_slices_partitionEqualOrdered_int_L3).D :=
  loop_printed (G := gs_slices_partitionEqualOrdered_int) (A := .leaf) (T0 := K0_slices_partitionEqualOrdered_int_L3) (T := TM_slices_partitionEqualOrdered_int_L3) (U := UO_slices_partitionEqualOrdered_int_L3) (step := (fun k v => slices_partitionEqualOrdered_int_L3 k.1 k.2.1 v)) ((cxo_slices_partitionEqualOrdered_int).fr [1, 8]) follows (by kernel_rfl) (by kernel_rfl) (CutsOk.leaf _) (by intro k v; kernel_rfl)
theorem ct_slices_partitionEqualOrdered_int_L2 : CodeSound Try.prog ((cx_slices_partitionEqualOrdered_int).fr [1, 8]) (subL (subL (subL (subL (subL (subL (subR (subR (subR (bodyOf Try.f45)))))))))) (B_slices_partitionEqualOrdered_int_L2).D :=
  loop_printed (G := gs_slices_partitionEqualOrdered_int) (A := .leaf) (T0 := K0_slices_partitionEqualOrdered_int_L2) (T := TM_slices_partitionEqualOrdered_int_L2) (U := UO_slices_partitionEqualOrdered_int_L2) (step := (fun k v => slices_partitionEqualOrdered_int_L2 k.1 k.2.1 v)) ((cxo_slices_partitionEqualOrdered_int).fr [1, 8]) follows (by kernel_rfl) (by kernel_rfl) (CutsOk.leaf _) (by intro k v; kernel_rfl)
theorem ct_slices_partitionEqualOrdered_int_L1 : CodeSound Try.prog (cx_slices_partitionEqualOrdered_int) (subL (subL (subR (subR (subR (bodyOf Try.f45)))))) (B_slices_partitionEqualOrdered_int_L1).D :=
  loop_printed (G := gs_slices_partitionEqualOrdered_int) (A := (.two (.two (.two (.cut 2) .leaf) (.two (.two (.cut 3) .leaf) .leaf)) .leaf)) (T0 := K0_slices_partitionEqualOrdered_int_L1) (T := TM_slices_partitionEqualOrdered_int_L1) (U := UO_slices_partitionEqualOrdered_int_L1) (step := (fun k v => slices_partitionEqualOrdered_int_L1 k.1 v)) (cxo_slices_partitionEqualOrdered_int) follows (by kernel_rfl) (by kernel_rfl) (CutsOk.two (CutsOk.two (CutsOk.two (CutsOk.cut (g := B_slices_partitionEqualOrdered_int_L2) (by kernel_rfl) (ct_slices_partitionEqualOrdered_int_L2)) (CutsOk.leaf _)) (CutsOk.two (CutsOk.two (CutsOk.cut (g := B_slices_partitionEqualOrdered_int_L3) (by kernel_rfl) (ct_slices_partitionEqualOrdered_int_L3)) (CutsOk.leaf _)) (CutsOk.leaf _))) (CutsOk.leaf _)) (by intro k v; kernel_rfl)
theorem sd_slices_partitionEqualOrdered_int : FnSound Try.prog gl 45 sg_slices_partitionEqualOrdered_int :=
  fn_printed (G := gs_slices_partitionEqualOrdered_int) (A := (.two .leaf (.two .leaf (.two .leaf (.two (.two (.cut 1) .leaf) .leaf))))) (cxo_slices_partitionEqualOrdered_int) follows Try.func45 (by kernel_rfl) (by kernel_rfl) (by kernel_rfl) (by kernel_rfl) (by kernel_rfl) (CutsOk.two (CutsOk.leaf _) (CutsOk.two (CutsOk.leaf _) (CutsOk.two (CutsOk.leaf _) (CutsOk.two (CutsOk.two (CutsOk.cut (g := B_slices_partitionEqualOrdered_int_L1) (by kernel_rfl) (ct_slices_partitionEqualOrdered_int_L1)) (CutsOk.leaf _)) (CutsOk.leaf _))))) (by intro v; kernel_rfl)
def sg_slices_partitionOrdered_int : Sig := mkSig [(.own 0), (.hole (.int .i64)), (.hole (.int .i64)), (.hole (.int .i64))] [(.vec (.int .i64))] [(.hole (.int .i64)), (.hole .bool)] [(.vec (.int .i64))] (fun p => slices_partitionOrdered_int p.1.2.1 p.1.2.2.1 p.1.2.2.2.1 p.2.1)
theorem fk_slices_partitionOrdered_int : FnOk Try.prog 46 := ⟨Try.f46, Try.func46, by kernel_rfl, by kernel_rfl⟩
def cx_slices_partitionOrdered_int : Cx := ⟨tys, lk [(44 + 100000 * 0, sg_cmp_Less_int)], 168, 1, [], gl, []⟩
theorem cxo_slices_partitionOrdered_int : CxOk Try.prog (cx_slices_partitionOrdered_int) := ⟨tys_ok, FnsAll.cons 0 rfl fk_cmp_Less_int sd_cmp_Less_int (FnsAll.nil)⟩
abbrev K0_slices_partitionOrdered_int_L1 : List (Nat × Ty) := [(1, (.int .i64)), (11, (.int .i64))]
abbrev TM_slices_partitionOrdered_int_L1 : Tm := ⟨[(0, (.own 0)), (10, (.hole (.int .i64)))], [(.vec (.int .i64))]⟩
abbrev UO_slices_partitionOrdered_int_L1 : Outs := (.one (.exit 0) ⟨[(0, (.own 0)), (10, (.hole (.int .i64)))], [(.vec (.int .i64))]⟩)
def B_slices_partitionOrdered_int_L1 : Blk := frBlk 1 [1, 8, 9, 11] K0_slices_partitionOrdered_int_L1 TM_slices_partitionOrdered_int_L1 UO_slices_partitionOrdered_int_L1 (fun k => loopV (fun v => slices_partitionOrdered_int_L1 k.1 k.2.1 v))
abbrev K0_slices_partitionOrdered_int_L2 : List (Nat × Ty) := [(1, (.int .i64)), (10, (.int .i64))]
abbrev TM_slices_partitionOrdered_int_L2 : Tm := ⟨[(0, (.own 0)), (11, (.hole (.int .i64)))], [(.vec (.int .i64))]⟩
abbrev UO_slices_partitionOrdered_int_L2 : Outs := (.one (.exit 2) ⟨[(0, (.own 0)), (11, (.hole (.int .i64)))], [(.vec (.int .i64))]⟩)
def B_slices_partitionOrdered_int_L2 : Blk := frBlk 1 [1, 8, 9, 10] K0_slices_partitionOrdered_int_L2 TM_slices_partitionOrdered_int_L2 UO_slices_partitionOrdered_int_L2 (fun k => loopV (fun v => slices_partitionOrdered_int_L2 k.1 k.2.1 v))
abbrev K0_slices_partitionOrdered_int_L4 : List (Nat × Ty) := [(1, (.int .i64)), (11, (.int .i64))]
abbrev TM_slices_partitionOrdered_int_L4 : Tm := ⟨[(0, (.own 0)), (10, (.hole (.int .i64)))], [(.vec (.int .i64))]⟩
abbrev UO_slices_partitionOrdered_int_L4 : Outs := (.one (.exit 6) ⟨[(0, (.own 0)), (10, (.hole (.int .i64)))], [(.vec (.int .i64))]⟩)
def B_slices_partitionOrdered_int_L4 : Blk := frBlk 1 [1, 11] K0_slices_partitionOrdered_int_L4 TM_slices_partitionOrdered_int_L4 UO_slices_partitionOrdered_int_L4 (fun k => loopV (fun v => slices_partitionOrdered_int_L4 k.1 k.2.1 v))
abbrev K0_slices_partitionOrdered_int_L5 : List (Nat × Ty) := [(1, (.int .i64)), (10, (.int .i64))]
abbrev TM_slices_partitionOrdered_int_L5 : Tm := ⟨[(0, (.own 0)), (11, (.hole (.int .i64)))], [(.vec (.int .i64))]⟩
abbrev UO_slices_partitionOrdered_int_L5 : Outs := (.one (.exit 8) ⟨[(0, (.own 0)), (11, (.hole (.int .i64)))], [(.vec (.int .i64))]⟩)
def B_slices_partitionOrdered_int_L5 : Blk := frBlk 1 [1, 10] K0_slices_partitionOrdered_int_L5 TM_slices_partitionOrdered_int_L5 UO_slices_partitionOrdered_int_L5 (fun k => loopV (fun v => slices_partitionOrdered_int_L5 k.1 k.2.1 v))
abbrev K0_slices_partitionOrdered_int_L3 : List (Nat × Ty) := [(1, (.int .i64))]
abbrev TM_slices_partitionOrdered_int_L3 : Tm := ⟨[(0, (.own 0)), (10, (.hole (.int .i64))), (11, (.hole (.int .i64)))], [(.vec (.int .i64))]⟩
abbrev UO_slices_partitionOrdered_int_L3 : Outs := (.one (.exit 4) ⟨[(0, (.own 0)), (11, (.hole (.int .i64)))], [(.vec (.int .i64))]⟩)
def B_slices_partitionOrdered_int_L3 : Blk := frBlk 1 [1, 8, 9] K0_slices_partitionOrdered_int_L3 TM_slices_partitionOrdered_int_L3 UO_slices_partitionOrdered_int_L3 (fun k => loopV (fun v => slices_partitionOrdered_int_L3 k.1 v))
def gs_slices_partitionOrdered_int : Nat → Option Blk := lk [(1, B_slices_partitionOrdered_int_L1), (2, B_slices_partitionOrdered_int_L2), (4, B_slices_partitionOrdered_int_L4), (5, B_slices_partitionOrdered_int_L5), (3, B_slices_partitionOrdered_int_L3)]
theorem ct_slices_partitionOrdered_int_L5 : CodeSound Try.prog ((cx_slices_partitionOrdered_int).fr [1, 8, 9]) (subL (subL (subR (subL (subL (subL (subL (subR (subR (subR (subR (subR (subR (subR (subR (subR (bodyOf Try.f46))))))))))))))))) (B_slices_partitionOrdered_int_L5).D :=
  loop_printed (G := gs_slices_partitionOrdered_int) (A := .leaf) (T0 := K0_slices_partitionOrdered_int_L5) (T := TM_slices_partitionOrdered_int_L5) (U := UO_slices_partitionOrdered_int_L5) (step := (fun k v => slices_partitionOrdered_int_L5 k.1 k.2.1 v)) ((cxo_slices_partitionOrdered_int).fr [1, 8, 9]) follows (by kernel_rfl) (by kernel_rfl) (CutsOk.leaf _) (by intro k v; kernel_rfl)
theorem ct_slices_partitionOrdered_int_L4 : CodeSound Try.prog ((cx_slices_partitionOrdered_int).fr [1, 8, 9]) (subL (subL (subL (subL (subL (subL (subR (subR (subR (subR (subR (subR (subR (subR (subR (bodyOf Try.f46)))))))))))))))) (B_slices_partitionOrdered_int_L4).D :=
  loop_printed (G := gs_slices_partitionOrdered_int) (A := .leaf) (T0 := K0_slices_partitionOrdered_int_L4) (T := TM_slices_partitionOrdered_int_L4) (U := UO_slices_partitionOrdered_int_L4) (step := (fun k v => slices_partitionOrdered_int_L4 k.1 k.2.1 v)) ((cxo_slices_partitionOrdered_int).fr [1, 8, 9]) follows (by kernel_rfl) (by kernel_rfl) (CutsOk.leaf _) (by intro k v; kernel_rfl)
theorem ct_slices_partitionOrdered_int_L3 : CodeSound Try.prog (cx_slices_partitionOrdered_int) (subL (subL (subR (subR (subR (subR (subR (subR (subR (subR (subR (bodyOf Try.f46)))))))))))) (B_slices_partitionOrdered_int_L3).D :=
  loop_printed (G := gs_slices_partitionOrdered_int) (A := (.two (.two (.two (.cut 4) .leaf) (.two (.two (.cut 5) .leaf) .leaf)) .leaf)) (T0 := K0_slices_partitionOrdered_int_L3) (T := TM_slices_partitionOrdered_int_L3) (U := UO_slices_partitionOrdered_int_L3) (step := (fun k v => slices_partitionOrdered_int_L3 k.1 v)) (cxo_slices_partitionOrdered_int) follows (by kernel_rfl) (by kernel_rfl) (CutsOk.two (CutsOk.two (CutsOk.two (CutsOk.cut (g := B_slices_partitionOrdered_int_L4) (by kernel_rfl) (ct_slices_partitionOrdered_int_L4)) (CutsOk.leaf _)) (CutsOk.two (CutsOk.two (CutsOk.cut (g := B_slices_partitionOrdered_int_L5) (by kernel_rfl) (ct_slices_partitionOrdered_int_L5)) (CutsOk.leaf _)) (CutsOk.leaf _))) (CutsOk.leaf _)) (by intro k v; kernel_rfl)
theorem ct_slices_partitionOrdered_int_L2 : CodeSound Try.prog (cx_slices_partitionOrdered_int) (subL (subL (subR (subR (subR (subR (bodyOf Try.f46))))))) (B_slices_partitionOrdered_int_L2).D :=
  loop_printed (G := gs_slices_partitionOrdered_int) (A := .leaf) (T0 := K0_slices_partitionOrdered_int_L2) (T := TM_slices_partitionOrdered_int_L2) (U := UO_slices_partitionOrdered_int_L2) (step := (fun k v => slices_partitionOrdered_int_L2 k.1 k.2.1 v)) (cxo_slices_partitionOrdered_int) follows (by kernel_rfl) (by kernel_rfl) (CutsOk.leaf _) (by intro k v; kernel_rfl)
theorem ct_slices_partitionOrdered_int_L1 : CodeSound Try.prog (cx_slices_partitionOrdered_int) (subL (subL (subR (subR (subR (bodyOf Try.f46)))))) (B_slices_partitionOrdered_int_L1).D :=
  loop_printed (G := gs_slices_partitionOrdered_int) (A := .leaf) (T0 := K0_slices_partitionOrdered_int_L1) (T := TM_slices_partitionOrdered_int_L1) (U := UO_slices_partitionOrdered_int_L1) (step := (fun k v => slices_partitionOrdered_int_L1 k.1 k.2.1 v)) (cxo_slices_partitionOrdered_int) follows (by kernel_rfl) (by kernel_rfl) (CutsOk.leaf _) (by intro k v; kernel_rfl)
theorem sd_slices_partitionOrdered_int : FnSound Try.prog gl 46 sg_slices_partitionOrdered_int :=
  fn_printed (G := gs_slices_partitionOrdered_int) (A := (.two .leaf (.two .leaf (.two .leaf (.two (.two (.cut 1) .leaf) (.two (.two (.cut 2) .leaf) (.two .leaf (.two .leaf (.two .leaf (.two .leaf (.two (.two (.cut 3) .leaf) .leaf))))))))))) (cxo_slices_partitionOrdered_int) follows Try.func46 (by kernel_rfl) (by kernel_rfl) (by kernel_rfl) (by kernel_rfl) (by kernel_rfl) (CutsOk.two (CutsOk.leaf _) (CutsOk.two (CutsOk.leaf _) (CutsOk.two (CutsOk.leaf _) (CutsOk.two (CutsOk.two (CutsOk.cut (g := B_slices_partitionOrdered_int_L1) (by kernel_rfl) (ct_slices_partitionOrdered_int_L1)) (CutsOk.leaf _)) (CutsOk.two (CutsOk.two (CutsOk.cut (g := B_slices_partitionOrdered_int_L2) (by kernel_rfl) (ct_slices_partitionOrdered_int_L2)) (CutsOk.leaf _)) (CutsOk.two (CutsOk.leaf _) (CutsOk.two (CutsOk.leaf _) (CutsOk.two (CutsOk.leaf _) (CutsOk.two (CutsOk.leaf _) (CutsOk.two (CutsOk.two (CutsOk.cut (g := B_slices_partitionOrdered_int_L3) (by kernel_rfl) (ct_slices_partitionOrdered_int_L3)) (CutsOk.leaf _)) (CutsOk.leaf _))))))))))) (by intro v; kernel_rfl)
def sg_slices_pdqsortOrdered_int : Sig := mkSig [(.own 0), (.hole (.int .i64)), (.hole (.int .i64)), (.hole (.int .i64))] [(.vec (.int .i64))] [] [(.vec (.int .i64))] (fixN slices_pdqsortOrdered_int_R fuel)
theorem fk_slices_pdqsortOrdered_int : FnOk Try.prog 36 := ⟨Try.f36, Try.func36, by kernel_rfl, by kernel_rfl⟩
def cx_slices_pdqsortOrdered_int (self : ((Unit × Int × Int × Int × Unit) × (List Int) × Unit) → Option ((Unit) × (List Int) × Unit)) : Cx := ⟨tys, lk [(44 + 100000 * 0, sg_cmp_Less_int), (40 + 100000 * 0, sg_slices_breakPatternsOrdered_int), (41 + 100000 * 0, sg_slices_choosePivotOrdered_int), (39 + 100000 * 0, sg_slices_heapSortOrdered_int), (38 + 100000 * 0, sg_slices_insertionSortOrdered_int), (43 + 100000 * 0, sg_slices_partialInsertionSortOrdered_int), (45 + 100000 * 0, sg_slices_partitionEqualOrdered_int), (46 + 100000 * 0, sg_slices_partitionOrdered_int), (42 + 100000 * 0, sg_slices_reverseRangeOrdered_int), (36 + 100000 * 0, mkSig [(.own 0), (.hole (.int .i64)), (.hole (.int .i64)), (.hole (.int .i64))] [(.vec (.int .i64))] [] [(.vec (.int .i64))] self)], 134, 1, [], gl, []⟩
theorem cxo_slices_pdqsortOrdered_int (self : ((Unit × Int × Int × Int × Unit) × (List Int) × Unit) → Option ((Unit) × (List Int) × Unit)) (hself : FnSound Try.prog gl 36 (mkSig [(.own 0), (.hole (.int .i64)), (.hole (.int .i64)), (.hole (.int .i64))] [(.vec (.int .i64))] [] [(.vec (.int .i64))] self)) : CxOk Try.prog (cx_slices_pdqsortOrdered_int self) := ⟨tys_ok, FnsAll.cons 0 rfl fk_cmp_Less_int sd_cmp_Less_int (FnsAll.cons 0 rfl fk_slices_breakPatternsOrdered_int sd_slices_breakPatternsOrdered_int (FnsAll.cons 0 rfl fk_slices_choosePivotOrdered_int sd_slices_choosePivotOrdered_int (FnsAll.cons 0 rfl fk_slices_heapSortOrdered_int sd_slices_heapSortOrdered_int (FnsAll.cons 0 rfl fk_slices_insertionSortOrdered_int sd_slices_insertionSortOrdered_int (FnsAll.cons 0 rfl fk_slices_partialInsertionSortOrdered_int sd_slices_partialInsertionSortOrdered_int (FnsAll.cons 0 rfl fk_slices_partitionEqualOrdered_int sd_slices_partitionEqualOrdered_int (FnsAll.cons 0 rfl fk_slices_partitionOrdered_int sd_slices_partitionOrdered_int (FnsAll.cons 0 rfl fk_slices_reverseRangeOrdered_int sd_slices_reverseRangeOrdered_int (FnsAll.cons 0 rfl fk_slices_pdqsortOrdered_int hself (FnsAll.nil))))))))))⟩
abbrev K0_slices_pdqsortOrdered_int_J2 : List (Nat × Ty) := [(1, (.int .i64)), (2, (.int .i64)), (8, .bool)]
abbrev TM_slices_pdqsortOrdered_int_J2 : Tm := ⟨[(0, (.own 0)), (3, (.hole (.int .i64)))], [(.vec (.int .i64))]⟩
abbrev UO_slices_pdqsortOrdered_int_J2 : Outs := (.one .normal ⟨[(0, (.own 0)), (3, (.hole (.int .i64)))], [(.vec (.int .i64))]⟩)
def B_slices_pdqsortOrdered_int_J2 (self : ((Unit × Int × Int × Int × Unit) × (List Int) × Unit) → Option ((Unit) × (List Int) × Unit)) : Blk := frBlk 1 [1, 2, 8, 9, 10] K0_slices_pdqsortOrdered_int_J2 TM_slices_pdqsortOrdered_int_J2 UO_slices_pdqsortOrdered_int_J2 (fun k v => slices_pdqsortOrdered_int_J2 self k.1 k.2.1 k.2.2.1 v)
abbrev K0_slices_pdqsortOrdered_int_J3 : List (Nat × Ty) := [(1, (.int .i64)), (2, (.int .i64))]
abbrev TM_slices_pdqsortOrdered_int_J3 : Tm := ⟨[(0, (.own 0)), (11, (.hole (.int .i64))), (12, (.hole (.int .i64)))], [(.vec (.int .i64))]⟩
abbrev UO_slices_pdqsortOrdered_int_J3 : Outs := (.one .normal ⟨[(0, (.own 0)), (11, (.hole (.int .i64))), (12, (.hole (.int .i64)))], [(.vec (.int .i64))]⟩)
def B_slices_pdqsortOrdered_int_J3 (self : ((Unit × Int × Int × Int × Unit) × (List Int) × Unit) → Option ((Unit) × (List Int) × Unit)) : Blk := frBlk 1 [1, 2, 3, 8, 9, 10] K0_slices_pdqsortOrdered_int_J3 TM_slices_pdqsortOrdered_int_J3 UO_slices_pdqsortOrdered_int_J3 (fun k v => slices_pdqsortOrdered_int_J3 self k.1 k.2.1 v)
abbrev K0_slices_pdqsortOrdered_int_J4 : List (Nat × Ty) := [(1, (.int .i64)), (2, (.int .i64)), (8, .bool), (9, .bool), (12, (.int .i64))]
abbrev TM_slices_pdqsortOrdered_int_J4 : Tm := ⟨[(0, (.own 0))], [(.vec (.int .i64))]⟩
abbrev UO_slices_pdqsortOrdered_int_J4 : Outs := (.more .ret ⟨[], [(.vec (.int .i64))]⟩ (.one .normal ⟨[(0, (.own 0))], [(.vec (.int .i64))]⟩))
def B_slices_pdqsortOrdered_int_J4 (self : ((Unit × Int × Int × Int × Unit) × (List Int) × Unit) → Option ((Unit) × (List Int) × Unit)) : Blk := frBlk 1 [1, 2, 3, 8, 9, 10, 11, 12] K0_slices_pdqsortOrdered_int_J4 TM_slices_pdqsortOrdered_int_J4 UO_slices_pdqsortOrdered_int_J4 (fun k v => slices_pdqsortOrdered_int_J4 self k.1 k.2.1 k.2.2.1 k.2.2.2.1 k.2.2.2.2.1 v)
abbrev K0_slices_pdqsortOrdered_int_J5 : List (Nat × Ty) := [(2, (.int .i64)), (11, (.int .i64))]
abbrev TM_slices_pdqsortOrdered_int_J5 : Tm := ⟨[(0, (.own 0)), (1, (.hole (.int .i64)))], [(.vec (.int .i64))]⟩
abbrev UO_slices_pdqsortOrdered_int_J5 : Outs := (.more (.exit 1) ⟨[(0, (.own 0)), (1, (.hole (.int .i64)))], [(.vec (.int .i64))]⟩ (.one .normal ⟨[(0, (.own 0)), (1, (.hole (.int .i64)))], [(.vec (.int .i64))]⟩))
def B_slices_pdqsortOrdered_int_J5 (self : ((Unit × Int × Int × Int × Unit) × (List Int) × Unit) → Option ((Unit) × (List Int) × Unit)) : Blk := frBlk 1 [2, 3, 8, 9, 10, 11] K0_slices_pdqsortOrdered_int_J5 TM_slices_pdqsortOrdered_int_J5 UO_slices_pdqsortOrdered_int_J5 (fun k v => slices_pdqsortOrdered_int_J5 self k.1 k.2.1 v)
abbrev K0_slices_pdqsortOrdered_int_L1 : List (Nat × Ty) := []
abbrev TM_slices_pdqsortOrdered_int_L1 : Tm := ⟨[(0, (.own 0)), (1, (.hole (.int .i64))), (2, (.hole (.int .i64))), (3, (.hole (.int .i64))), (8, (.hole .bool)), (9, (.hole .bool))], [(.vec (.int .i64))]⟩
abbrev UO_slices_pdqsortOrdered_int_L1 : Outs := (.one .ret ⟨[], [(.vec (.int .i64))]⟩)
def B_slices_pdqsortOrdered_int_L1 (self : ((Unit × Int × Int × Int × Unit) × (List Int) × Unit) → Option ((Unit) × (List Int) × Unit)) : Blk := frBlk 1 [] K0_slices_pdqsortOrdered_int_L1 TM_slices_pdqsortOrdered_int_L1 UO_slices_pdqsortOrdered_int_L1 (fun k => loopV (fun v => slices_pdqsortOrdered_int_L1 self v))
def gs_slices_pdqsortOrdered_int (self : ((Unit × Int × Int × Int × Unit) × (List Int) × Unit) → Option ((Unit) × (List Int) × Unit)) : Nat → Option Blk := lk [(2, B_slices_pdqsortOrdered_int_J2 self), (3, B_slices_pdqsortOrdered_int_J3 self), (4, B_slices_pdqsortOrdered_int_J4 self), (5, B_slices_pdqsortOrdered_int_J5 self), (1, B_slices_pdqsortOrdered_int_L1 self)]
theorem ct_slices_pdqsortOrdered_int_J5 (self : ((Unit × Int × Int × Int × Unit) × (List Int) × Unit) → Option ((Unit) × (List Int) × Unit)) (hself : FnSound Try.prog gl 36 (mkSig [(.own 0), (.hole (.int .i64)), (.hole (.int .i64)), (.hole (.int .i64))] [(.vec (.int .i64))] [] [(.vec (.int .i64))] self)) : CodeSound Try.prog ((cx_slices_pdqsortOrdered_int self).fr []) (subL (subR (subR (subR (subR (subR (subR (subR (subL (subL (subL (subR (subR (bodyOf Try.f36)))))))))))))) (B_slices_pdqsortOrdered_int_J5 self).D :=
  join_sound (G := gs_slices_pdqsortOrdered_int self) (A := .leaf) (T0 := K0_slices_pdqsortOrdered_int_J5) (T := TM_slices_pdqsortOrdered_int_J5) (U := UO_slices_pdqsortOrdered_int_J5) (F := (fun k v => slices_pdqsortOrdered_int_J5 self k.1 k.2.1 v)) ((cxo_slices_pdqsortOrdered_int self hself).fr []) follows (by kernel_rfl) (CutsOk.leaf _) (by intro k v; kernel_rfl)
theorem ct_slices_pdqsortOrdered_int_J4 (self : ((Unit × Int × Int × Int × Unit) × (List Int) × Unit) → Option ((Unit) × (List Int) × Unit)) (hself : FnSound Try.prog gl 36 (mkSig [(.own 0), (.hole (.int .i64)), (.hole (.int .i64)), (.hole (.int .i64))] [(.vec (.int .i64))] [] [(.vec (.int .i64))] self)) : CodeSound Try.prog ((cx_slices_pdqsortOrdered_int self).fr []) (subL (subR (subR (subR (subR (subR (subR (subL (subL (subL (subR (subR (bodyOf Try.f36))))))))))))) (B_slices_pdqsortOrdered_int_J4 self).D :=
  join_sound (G := gs_slices_pdqsortOrdered_int self) (A := .leaf) (T0 := K0_slices_pdqsortOrdered_int_J4) (T := TM_slices_pdqsortOrdered_int_J4) (U := UO_slices_pdqsortOrdered_int_J4) (F := (fun k v => slices_pdqsortOrdered_int_J4 self k.1 k.2.1 k.2.2.1 k.2.2.2.1 k.2.2.2.2.1 v)) ((cxo_slices_pdqsortOrdered_int self hself).fr []) follows (by kernel_rfl) (CutsOk.leaf _) (by intro k v; kernel_rfl)
theorem ct_slices_pdqsortOrdered_int_J3 (self : ((Unit × Int × Int × Int × Unit) × (List Int) × Unit) → Option ((Unit) × (List Int) × Unit)) (hself : FnSound Try.prog gl 36 (mkSig [(.own 0), (.hole (.int .i64)), (.hole (.int .i64)), (.hole (.int .i64))] [(.vec (.int .i64))] [] [(.vec (.int .i64))] self)) : CodeSound Try.prog ((cx_slices_pdqsortOrdered_int self).fr []) (subL (subR (subR (subR (subR (subR (subL (subL (subL (subR (subR (bodyOf Try.f36)))))))))))) (B_slices_pdqsortOrdered_int_J3 self).D :=
  join_sound (G := gs_slices_pdqsortOrdered_int self) (A := .leaf) (T0 := K0_slices_pdqsortOrdered_int_J3) (T := TM_slices_pdqsortOrdered_int_J3) (U := UO_slices_pdqsortOrdered_int_J3) (F := (fun k v => slices_pdqsortOrdered_int_J3 self k.1 k.2.1 v)) ((cxo_slices_pdqsortOrdered_int self hself).fr []) follows (by kernel_rfl) (CutsOk.leaf _) (by intro k v; kernel_rfl)
theorem ct_slices_pdqsortOrdered_int_J2 (self : ((Unit × Int × Int × Int × Unit) × (List Int) × Unit) → Option ((Unit) × (List Int) × Unit)) (hself : FnSound Try.prog gl 36 (mkSig [(.own 0), (.hole (.int .i64)), (.hole (.int .i64)), (.hole (.int .i64))] [(.vec (.int .i64))] [] [(.vec (.int .i64))] self)) : CodeSound Try.prog ((cx_slices_pdqsortOrdered_int self).fr []) (subL (subR (subR (subR (subL (subL (subL (subR (subR (bodyOf Try.f36)))))))))) (B_slices_pdqsortOrdered_int_J2 self).D :=
  join_sound (G := gs_slices_pdqsortOrdered_int self) (A := .leaf) (T0 := K0_slices_pdqsortOrdered_int_J2) (T := TM_slices_pdqsortOrdered_int_J2) (U := UO_slices_pdqsortOrdered_int_J2) (F := (fun k v => slices_pdqsortOrdered_int_J2 self k.1 k.2.1 k.2.2.1 v)) ((cxo_slices_pdqsortOrdered_int self hself).fr []) follows (by kernel_rfl) (CutsOk.leaf _) (by intro k v; kernel_rfl)
theorem ct_slices_pdqsortOrdered_int_L1 (self : ((Unit × Int × Int × Int × Unit) × (List Int) × Unit) → Option ((Unit) × (List Int) × Unit)) (hself : FnSound Try.prog gl 36 (mkSig [(.own 0), (.hole (.int .i64)), (.hole (.int .i64)), (.hole (.int .i64))] [(.vec (.int .i64))] [] [(.vec (.int .i64))] self)) : CodeSound Try.prog (cx_slices_pdqsortOrdered_int self) (subL (subR (subR (bodyOf Try.f36)))) (B_slices_pdqsortOrdered_int_L1 self).D :=
  loop_printed (G := gs_slices_pdqsortOrdered_int self) (A := (.two (.two .leaf (.two .leaf (.two .leaf (.two (.cut 2) (.two .leaf (.two (.cut 3) (.two (.cut 4) (.two (.cut 5) .leaf)))))))) .leaf)) (T0 := K0_slices_pdqsortOrdered_int_L1) (T := TM_slices_pdqsortOrdered_int_L1) (U := UO_slices_pdqsortOrdered_int_L1) (step := (fun k v => slices_pdqsortOrdered_int_L1 self v)) (cxo_slices_pdqsortOrdered_int self hself) follows (by kernel_rfl) (by kernel_rfl) (CutsOk.two (CutsOk.two (CutsOk.leaf _) (CutsOk.two (CutsOk.leaf _) (CutsOk.two (CutsOk.leaf _) (CutsOk.two (CutsOk.cut (g := B_slices_pdqsortOrdered_int_J2 self) (by kernel_rfl) (ct_slices_pdqsortOrdered_int_J2 self hself)) (CutsOk.two (CutsOk.leaf _) (CutsOk.two (CutsOk.cut (g := B_slices_pdqsortOrdered_int_J3 self) (by kernel_rfl) (ct_slices_pdqsortOrdered_int_J3 self hself)) (CutsOk.two (CutsOk.cut (g := B_slices_pdqsortOrdered_int_J4 self) (by kernel_rfl) (ct_slices_pdqsortOrdered_int_J4 self hself)) (CutsOk.two (CutsOk.cut (g := B_slices_pdqsortOrdered_int_J5 self) (by kernel_rfl) (ct_slices_pdqsortOrdered_int_J5 self hself)) (CutsOk.leaf _))))))))) (CutsOk.leaf _)) (by intro k v; kernel_rfl)
theorem st_slices_pdqsortOrdered_int (self : ((Unit × Int × Int × Int × Unit) × (List Int) × Unit) → Option ((Unit) × (List Int) × Unit)) (hself : FnSound Try.prog gl 36 (mkSig [(.own 0), (.hole (.int .i64)), (.hole (.int .i64)), (.hole (.int .i64))] [(.vec (.int .i64))] [] [(.vec (.int .i64))] self)) : FnSound Try.prog gl 36 (mkSig [(.own 0), (.hole (.int .i64)), (.hole (.int .i64)), (.hole (.int .i64))] [(.vec (.int .i64))] [] [(.vec (.int .i64))] (slices_pdqsortOrdered_int_R self)) :=
  fn_printed (G := gs_slices_pdqsortOrdered_int self) (A := (.two .leaf (.two .leaf (.two (.cut 1) .leaf)))) (cxo_slices_pdqsortOrdered_int self hself) follows Try.func36 (by kernel_rfl) (by kernel_rfl) (by kernel_rfl) (by kernel_rfl) (by kernel_rfl) (CutsOk.two (CutsOk.leaf _) (CutsOk.two (CutsOk.leaf _) (CutsOk.two (CutsOk.cut (g := B_slices_pdqsortOrdered_int_L1 self) (by kernel_rfl) (ct_slices_pdqsortOrdered_int_L1 self hself)) (CutsOk.leaf _)))) (by intro v; kernel_rfl)
theorem sd_slices_pdqsortOrdered_int : FnSound Try.prog gl 36 sg_slices_pdqsortOrdered_int := fix_sound (ins := [(.own 0), (.hole (.int .i64)), (.hole (.int .i64)), (.hole (.int .i64))]) (inObs := [(.vec (.int .i64))]) (outs := []) (outObs := [(.vec (.int .i64))]) (R := slices_pdqsortOrdered_int_R) (by kernel_rfl) st_slices_pdqsortOrdered_int fuel
def sg_slices_Sort_int_int : Sig := mkSig [(.own 0)] [(.vec (.int .i64))] [] [(.vec (.int .i64))] (fun p => slices_Sort_int_int p.2.1)
theorem fk_slices_Sort_int_int : FnOk Try.prog 31 := ⟨Try.f31, Try.func31, by kernel_rfl, by kernel_rfl⟩
def cx_slices_Sort_int_int : Cx := ⟨tys, lk [(37 + 100000 * 0, sg_math_bits_Len), (36 + 100000 * 0, sg_slices_pdqsortOrdered_int)], 11, 1, [], gl, []⟩
theorem cxo_slices_Sort_int_int : CxOk Try.prog (cx_slices_Sort_int_int) := ⟨tys_ok, FnsAll.cons 0 rfl fk_math_bits_Len sd_math_bits_Len (FnsAll.cons 0 rfl fk_slices_pdqsortOrdered_int sd_slices_pdqsortOrdered_int (FnsAll.nil))⟩
def gs_slices_Sort_int_int : Nat → Option Blk := lk []
theorem sd_slices_Sort_int_int : FnSound Try.prog gl 31 sg_slices_Sort_int_int :=
  fn_printed (G := gs_slices_Sort_int_int) (A := .leaf) (cxo_slices_Sort_int_int) follows Try.func31 (by kernel_rfl) (by kernel_rfl) (by kernel_rfl) (by kernel_rfl) (by kernel_rfl) (CutsOk.leaf _) (by intro v; kernel_rfl)
end Go.PE.Ytaeaeaiebbakbaa
end
end

section
set_option maxRecDepth 100000
set_option linter.unusedVariables false
noncomputable section
namespace Go.PE.Ytaeaeaiebbakbaa
open Go.PE Go.Proofs

def sg_selection_proper : Sig := mkSig [(.hole (.slice (.int .i64))), (.hole (.int .i64))] [] [(.hole .bool)] [] (fun p => selection_proper p.1.1 p.1.2.1)
theorem fk_selection_proper : FnOk Try.prog 28 := ⟨Try.f28, Try.func28, by kernel_rfl, by kernel_rfl⟩
def cx_selection_proper : Cx := ⟨tys, lk [], 26, 0, [], gl, []⟩
theorem cxo_selection_proper : CxOk Try.prog (cx_selection_proper) := ⟨tys_ok, FnsAll.nil⟩
abbrev K0_selection_proper_L1 : List (Nat × Ty) := [(7, (.slice (.int .i64))), (8, (.int .i64))]
abbrev TM_selection_proper_L1 : Tm := ⟨[(9, (.hole (.int .i64)))], []⟩
abbrev UO_selection_proper_L1 : Outs := (.more .ret ⟨[(4, (.hole .bool))], []⟩ (.one (.exit 0) ⟨[], []⟩))
def B_selection_proper_L1 : Blk := frBlk 0 [1, 7, 8] K0_selection_proper_L1 TM_selection_proper_L1 UO_selection_proper_L1 (fun k => loopV (fun v => selection_proper_L1 k.1 k.2.1 v))
def gs_selection_proper : Nat → Option Blk := lk [(1, B_selection_proper_L1)]
theorem ct_selection_proper_L1 : CodeSound Try.prog (cx_selection_proper) (subL (subR (subL (subR (bodyOf Try.f28))))) (B_selection_proper_L1).D :=
  loop_printed (G := gs_selection_proper) (A := .leaf) (T0 := K0_selection_proper_L1) (T := TM_selection_proper_L1) (U := UO_selection_proper_L1) (step := (fun k v => selection_proper_L1 k.1 k.2.1 v)) (cxo_selection_proper) follows (by kernel_rfl) (by kernel_rfl) (CutsOk.leaf _) (by intro k v; kernel_rfl)
theorem sd_selection_proper : FnSound Try.prog gl 28 sg_selection_proper :=
  fn_printed (G := gs_selection_proper) (A := (.two .leaf (.two (.two .leaf (.two (.cut 1) .leaf)) .leaf))) (cxo_selection_proper) follows Try.func28 (by kernel_rfl) (by kernel_rfl) (by kernel_rfl) (by kernel_rfl) (by kernel_rfl) (CutsOk.two (CutsOk.leaf _) (CutsOk.two (CutsOk.two (CutsOk.leaf _) (CutsOk.two (CutsOk.cut (g := B_selection_proper_L1) (by kernel_rfl) (ct_selection_proper_L1)) (CutsOk.leaf _))) (CutsOk.leaf _))) (by intro v; kernel_rfl)
def sg_selection_total : Sig := mkSig [(.hole (.slice (.int .i64)))] [] [(.hole (.int .i64))] [] (fun p => selection_total p.1.1)
theorem fk_selection_total : FnOk Try.prog 21 := ⟨Try.f21, Try.func21, by kernel_rfl, by kernel_rfl⟩
def cx_selection_total : Cx := ⟨tys, lk [], 17, 0, [], gl, []⟩
theorem cxo_selection_total : CxOk Try.prog (cx_selection_total) := ⟨tys_ok, FnsAll.nil⟩
abbrev K0_selection_total_L1 : List (Nat × Ty) := [(6, (.slice (.int .i64))), (7, (.int .i64))]
abbrev TM_selection_total_L1 : Tm := ⟨[(3, (.hole (.int .i64))), (8, (.hole (.int .i64)))], []⟩
abbrev UO_selection_total_L1 : Outs := (.one (.exit 0) ⟨[(3, (.hole (.int .i64)))], []⟩)
def B_selection_total_L1 : Blk := frBlk 0 [2, 6, 7] K0_selection_total_L1 TM_selection_total_L1 UO_selection_total_L1 (fun k => loopV (fun v => selection_total_L1 k.1 k.2.1 v))
def gs_selection_total : Nat → Option Blk := lk [(1, B_selection_total_L1)]
theorem ct_selection_total_L1 : CodeSound Try.prog (cx_selection_total) (subL (subR (subL (subR (subR (bodyOf Try.f21)))))) (B_selection_total_L1).D :=
  loop_printed (G := gs_selection_total) (A := .leaf) (T0 := K0_selection_total_L1) (T := TM_selection_total_L1) (U := UO_selection_total_L1) (step := (fun k v => selection_total_L1 k.1 k.2.1 v)) (cxo_selection_total) follows (by kernel_rfl) (by kernel_rfl) (CutsOk.leaf _) (by intro k v; kernel_rfl)
theorem sd_selection_total : FnSound Try.prog gl 21 sg_selection_total :=
  fn_printed (G := gs_selection_total) (A := (.two .leaf (.two .leaf (.two (.two .leaf (.two (.cut 1) .leaf)) .leaf)))) (cxo_selection_total) follows Try.func21 (by kernel_rfl) (by kernel_rfl) (by kernel_rfl) (by kernel_rfl) (by kernel_rfl) (CutsOk.two (CutsOk.leaf _) (CutsOk.two (CutsOk.leaf _) (CutsOk.two (CutsOk.two (CutsOk.leaf _) (CutsOk.two (CutsOk.cut (g := B_selection_total_L1) (by kernel_rfl) (ct_selection_total_L1)) (CutsOk.leaf _))) (CutsOk.leaf _)))) (by intro v; kernel_rfl)
def sg_selection_fault : Sig := mkSig [(.hole (.slice (.int .i64))), (.hole (.int .i64))] [] [(.hole (.int .i64))] [] (fun p => selection_fault p.1.1 p.1.2.1)
theorem fk_selection_fault : FnOk Try.prog 19 := ⟨Try.f19, Try.func19, by kernel_rfl, by kernel_rfl⟩
def cx_selection_fault : Cx := ⟨tys, lk [(28 + 100000 * 0, sg_selection_proper), (21 + 100000 * 0, sg_selection_total)], 19, 0, [], gl, []⟩
theorem cxo_selection_fault : CxOk Try.prog (cx_selection_fault) := ⟨tys_ok, FnsAll.cons 0 rfl fk_selection_proper sd_selection_proper (FnsAll.cons 0 rfl fk_selection_total sd_selection_total (FnsAll.nil))⟩
def gs_selection_fault : Nat → Option Blk := lk []
theorem sd_selection_fault : FnSound Try.prog gl 19 sg_selection_fault :=
  fn_printed (G := gs_selection_fault) (A := .leaf) (cxo_selection_fault) follows Try.func19 (by kernel_rfl) (by kernel_rfl) (by kernel_rfl) (by kernel_rfl) (by kernel_rfl) (CutsOk.leaf _) (by intro v; kernel_rfl)
def sg_selection_search_look : Sig := mkSig [(.ptr 0 []), (.hole (.int .i64)), (.hole (.int .i64)), (.hole (.int .i64))] [(.box T_a496 (.ncons (.hole (.slice (.int .i64))) (.ncons (.hole (.int .i64)) (.ncons (.own 1) (.ncons (.ncons (.own 2) (.hole (.cons (.int .i64) .nil))) (.hole (.cons .bool .nil))))))), (.vec (.int .i64)), (.vec (.int .i64))] [] [(.box T_a496 (.ncons (.hole (.slice (.int .i64))) (.ncons (.hole (.int .i64)) (.ncons (.own 3) (.ncons (.ncons (.own 4) (.hole (.cons (.int .i64) .nil))) (.hole (.cons .bool .nil))))))), .dead, .dead, (.vec (.int .i64)), (.vec (.int .i64))] (fixN selection_search_look_R fuel)
theorem fk_selection_search_look : FnOk Try.prog 20 := ⟨Try.f20, Try.func20, by kernel_rfl, by kernel_rfl⟩
def cx_selection_search_look (self : ((Unit × Int × Int × Int × Unit) × ((List Int) × Int × Unit × (Unit × Int × Unit) × Bool × Unit) × (List Int) × (List Int) × Unit) → Option ((Unit) × ((List Int) × Int × Unit × (Unit × Int × Unit) × Bool × Unit) × Unit × Unit × (List Int) × (List Int) × Unit)) : Cx := ⟨tys, lk [(33 + 100000 * 0, sg_slices_Clone_int_int), (20 + 100000 * 0, mkSig [(.ptr 0 []), (.hole (.int .i64)), (.hole (.int .i64)), (.hole (.int .i64))] [(.box T_a496 (.ncons (.hole (.slice (.int .i64))) (.ncons (.hole (.int .i64)) (.ncons (.own 1) (.ncons (.ncons (.own 2) (.hole (.cons (.int .i64) .nil))) (.hole (.cons .bool .nil))))))), (.vec (.int .i64)), (.vec (.int .i64))] [] [(.box T_a496 (.ncons (.hole (.slice (.int .i64))) (.ncons (.hole (.int .i64)) (.ncons (.own 3) (.ncons (.ncons (.own 4) (.hole (.cons (.int .i64) .nil))) (.hole (.cons .bool .nil))))))), .dead, .dead, (.vec (.int .i64)), (.vec (.int .i64))] self)], 99, 3, [], gl, []⟩
theorem cxo_selection_search_look (self : ((Unit × Int × Int × Int × Unit) × ((List Int) × Int × Unit × (Unit × Int × Unit) × Bool × Unit) × (List Int) × (List Int) × Unit) → Option ((Unit) × ((List Int) × Int × Unit × (Unit × Int × Unit) × Bool × Unit) × Unit × Unit × (List Int) × (List Int) × Unit)) (hself : FnSound Try.prog gl 20 (mkSig [(.ptr 0 []), (.hole (.int .i64)), (.hole (.int .i64)), (.hole (.int .i64))] [(.box T_a496 (.ncons (.hole (.slice (.int .i64))) (.ncons (.hole (.int .i64)) (.ncons (.own 1) (.ncons (.ncons (.own 2) (.hole (.cons (.int .i64) .nil))) (.hole (.cons .bool .nil))))))), (.vec (.int .i64)), (.vec (.int .i64))] [] [(.box T_a496 (.ncons (.hole (.slice (.int .i64))) (.ncons (.hole (.int .i64)) (.ncons (.own 3) (.ncons (.ncons (.own 4) (.hole (.cons (.int .i64) .nil))) (.hole (.cons .bool .nil))))))), .dead, .dead, (.vec (.int .i64)), (.vec (.int .i64))] self)) : CxOk Try.prog (cx_selection_search_look self) := ⟨tys_ok, FnsAll.cons 0 rfl fk_slices_Clone_int_int sd_slices_Clone_int_int (FnsAll.cons 0 rfl fk_selection_search_look hself (FnsAll.nil))⟩
abbrev K0_selection_search_look_J1 : List (Nat × Ty) := [(2, (.int .i64))]
abbrev TM_selection_search_look_J1 : Tm := ⟨[(0, (.ptr 0 []))], [(.box T_a496 (.ncons (.hole (.slice (.int .i64))) (.ncons (.hole (.int .i64)) (.ncons (.own 1) (.ncons (.ncons (.own 2) (.hole (.cons (.int .i64) .nil))) (.hole (.cons .bool .nil))))))), (.vec (.int .i64)), (.vec (.int .i64))]⟩
abbrev UO_selection_search_look_J1 : Outs := (.one .normal ⟨[(0, (.ptr 0 [])), (28, (.hole .bool))], [(.box T_a496 (.ncons (.hole (.slice (.int .i64))) (.ncons (.hole (.int .i64)) (.ncons (.own 1) (.ncons (.ncons (.own 2) (.hole (.cons (.int .i64) .nil))) (.hole (.cons .bool .nil))))))), (.vec (.int .i64)), (.vec (.int .i64))]⟩)
def B_selection_search_look_J1 (self : ((Unit × Int × Int × Int × Unit) × ((List Int) × Int × Unit × (Unit × Int × Unit) × Bool × Unit) × (List Int) × (List Int) × Unit) → Option ((Unit) × ((List Int) × Int × Unit × (Unit × Int × Unit) × Bool × Unit) × Unit × Unit × (List Int) × (List Int) × Unit)) : Blk := frBlk 3 [2] K0_selection_search_look_J1 TM_selection_search_look_J1 UO_selection_search_look_J1 (fun k v => selection_search_look_J1 self k.1 v)
def gs_selection_search_look (self : ((Unit × Int × Int × Int × Unit) × ((List Int) × Int × Unit × (Unit × Int × Unit) × Bool × Unit) × (List Int) × (List Int) × Unit) → Option ((Unit) × ((List Int) × Int × Unit × (Unit × Int × Unit) × Bool × Unit) × Unit × Unit × (List Int) × (List Int) × Unit)) : Nat → Option Blk := lk [(1, B_selection_search_look_J1 self)]
theorem ct_selection_search_look_J1 (self : ((Unit × Int × Int × Int × Unit) × ((List Int) × Int × Unit × (Unit × Int × Unit) × Bool × Unit) × (List Int) × (List Int) × Unit) → Option ((Unit) × ((List Int) × Int × Unit × (Unit × Int × Unit) × Bool × Unit) × Unit × Unit × (List Int) × (List Int) × Unit)) (hself : FnSound Try.prog gl 20 (mkSig [(.ptr 0 []), (.hole (.int .i64)), (.hole (.int .i64)), (.hole (.int .i64))] [(.box T_a496 (.ncons (.hole (.slice (.int .i64))) (.ncons (.hole (.int .i64)) (.ncons (.own 1) (.ncons (.ncons (.own 2) (.hole (.cons (.int .i64) .nil))) (.hole (.cons .bool .nil))))))), (.vec (.int .i64)), (.vec (.int .i64))] [] [(.box T_a496 (.ncons (.hole (.slice (.int .i64))) (.ncons (.hole (.int .i64)) (.ncons (.own 3) (.ncons (.ncons (.own 4) (.hole (.cons (.int .i64) .nil))) (.hole (.cons .bool .nil))))))), .dead, .dead, (.vec (.int .i64)), (.vec (.int .i64))] self)) : CodeSound Try.prog (cx_selection_search_look self) (subL (subL (subL (subR (subL (bodyOf Try.f20)))))) (B_selection_search_look_J1 self).D :=
  join_sound (G := gs_selection_search_look self) (A := .leaf) (T0 := K0_selection_search_look_J1) (T := TM_selection_search_look_J1) (U := UO_selection_search_look_J1) (F := (fun k v => selection_search_look_J1 self k.1 v)) (cxo_selection_search_look self hself) follows (by kernel_rfl) (CutsOk.leaf _) (by intro k v; kernel_rfl)
theorem st_selection_search_look (self : ((Unit × Int × Int × Int × Unit) × ((List Int) × Int × Unit × (Unit × Int × Unit) × Bool × Unit) × (List Int) × (List Int) × Unit) → Option ((Unit) × ((List Int) × Int × Unit × (Unit × Int × Unit) × Bool × Unit) × Unit × Unit × (List Int) × (List Int) × Unit)) (hself : FnSound Try.prog gl 20 (mkSig [(.ptr 0 []), (.hole (.int .i64)), (.hole (.int .i64)), (.hole (.int .i64))] [(.box T_a496 (.ncons (.hole (.slice (.int .i64))) (.ncons (.hole (.int .i64)) (.ncons (.own 1) (.ncons (.ncons (.own 2) (.hole (.cons (.int .i64) .nil))) (.hole (.cons .bool .nil))))))), (.vec (.int .i64)), (.vec (.int .i64))] [] [(.box T_a496 (.ncons (.hole (.slice (.int .i64))) (.ncons (.hole (.int .i64)) (.ncons (.own 3) (.ncons (.ncons (.own 4) (.hole (.cons (.int .i64) .nil))) (.hole (.cons .bool .nil))))))), .dead, .dead, (.vec (.int .i64)), (.vec (.int .i64))] self)) : FnSound Try.prog gl 20 (mkSig [(.ptr 0 []), (.hole (.int .i64)), (.hole (.int .i64)), (.hole (.int .i64))] [(.box T_a496 (.ncons (.hole (.slice (.int .i64))) (.ncons (.hole (.int .i64)) (.ncons (.own 1) (.ncons (.ncons (.own 2) (.hole (.cons (.int .i64) .nil))) (.hole (.cons .bool .nil))))))), (.vec (.int .i64)), (.vec (.int .i64))] [] [(.box T_a496 (.ncons (.hole (.slice (.int .i64))) (.ncons (.hole (.int .i64)) (.ncons (.own 3) (.ncons (.ncons (.own 4) (.hole (.cons (.int .i64) .nil))) (.hole (.cons .bool .nil))))))), .dead, .dead, (.vec (.int .i64)), (.vec (.int .i64))] (selection_search_look_R self)) :=
  fn_printed (G := gs_selection_search_look self) (A := (.two (.two .leaf (.two (.two (.two (.cut 1) .leaf) .leaf) .leaf)) .leaf)) (cxo_selection_search_look self hself) follows Try.func20 (by kernel_rfl) (by kernel_rfl) (by kernel_rfl) (by kernel_rfl) (by kernel_rfl) (CutsOk.two (CutsOk.two (CutsOk.leaf _) (CutsOk.two (CutsOk.two (CutsOk.two (CutsOk.cut (g := B_selection_search_look_J1 self) (by kernel_rfl) (ct_selection_search_look_J1 self hself)) (CutsOk.leaf _)) (CutsOk.leaf _)) (CutsOk.leaf _))) (CutsOk.leaf _)) (by intro v; kernel_rfl)
theorem sd_selection_search_look : FnSound Try.prog gl 20 sg_selection_search_look := fix_sound (ins := [(.ptr 0 []), (.hole (.int .i64)), (.hole (.int .i64)), (.hole (.int .i64))]) (inObs := [(.box T_a496 (.ncons (.hole (.slice (.int .i64))) (.ncons (.hole (.int .i64)) (.ncons (.own 1) (.ncons (.ncons (.own 2) (.hole (.cons (.int .i64) .nil))) (.hole (.cons .bool .nil))))))), (.vec (.int .i64)), (.vec (.int .i64))]) (outs := []) (outObs := [(.box T_a496 (.ncons (.hole (.slice (.int .i64))) (.ncons (.hole (.int .i64)) (.ncons (.own 3) (.ncons (.ncons (.own 4) (.hole (.cons (.int .i64) .nil))) (.hole (.cons .bool .nil))))))), .dead, .dead, (.vec (.int .i64)), (.vec (.int .i64))]) (R := selection_search_look_R) (by kernel_rfl) st_selection_search_look fuel
def sg_selection_certify : Sig := mkSig [(.own 0), (.hole (.slice (.int .i64))), (.hole (.int .i64)), (.hole (.int .i64)), (.hole (.int .i64)), (.hole (.int .i64)), (.hole (.int .i64))] [(.vec (.int .u8))] [(.own 1)] [.dead, (.vec (.int .u8))] (fixN selection_certify_R fuel)
theorem fk_selection_certify : FnOk Try.prog 22 := ⟨Try.f22, Try.func22, by kernel_rfl, by kernel_rfl⟩
def cx_selection_certify (self : ((Unit × (List Int) × Int × Int × Int × Int × Int × Unit) × (List Int) × Unit) → Option ((Unit × Unit) × Unit × (List Int) × Unit)) : Cx := ⟨tys, lk [(22 + 100000 * 0, mkSig [(.own 0), (.hole (.slice (.int .i64))), (.hole (.int .i64)), (.hole (.int .i64)), (.hole (.int .i64)), (.hole (.int .i64)), (.hole (.int .i64))] [(.vec (.int .u8))] [(.own 1)] [.dead, (.vec (.int .u8))] self)], 64, 1, [], gl, []⟩
theorem cxo_selection_certify (self : ((Unit × (List Int) × Int × Int × Int × Int × Int × Unit) × (List Int) × Unit) → Option ((Unit × Unit) × Unit × (List Int) × Unit)) (hself : FnSound Try.prog gl 22 (mkSig [(.own 0), (.hole (.slice (.int .i64))), (.hole (.int .i64)), (.hole (.int .i64)), (.hole (.int .i64)), (.hole (.int .i64)), (.hole (.int .i64))] [(.vec (.int .u8))] [(.own 1)] [.dead, (.vec (.int .u8))] self)) : CxOk Try.prog (cx_selection_certify self) := ⟨tys_ok, FnsAll.cons 0 rfl fk_selection_certify hself (FnsAll.nil)⟩
abbrev K0_selection_certify_J1 : List (Nat × Ty) := [(2, (.int .i64)), (3, (.int .i64)), (5, (.int .i64)), (6, (.int .i64))]
abbrev TM_selection_certify_J1 : Tm := ⟨[(0, (.own 0))], [(.vec (.int .u8))]⟩
abbrev UO_selection_certify_J1 : Outs := (.one .normal ⟨[(0, (.own 0)), (30, (.hole .bool))], [(.vec (.int .u8))]⟩)
def B_selection_certify_J1 (self : ((Unit × (List Int) × Int × Int × Int × Int × Int × Unit) × (List Int) × Unit) → Option ((Unit × Unit) × Unit × (List Int) × Unit)) : Blk := frBlk 1 [1, 2, 3, 4, 5, 6, 14] K0_selection_certify_J1 TM_selection_certify_J1 UO_selection_certify_J1 (fun k v => selection_certify_J1 self k.1 k.2.1 k.2.2.1 k.2.2.2.1 v)
def gs_selection_certify (self : ((Unit × (List Int) × Int × Int × Int × Int × Int × Unit) × (List Int) × Unit) → Option ((Unit × Unit) × Unit × (List Int) × Unit)) : Nat → Option Blk := lk [(1, B_selection_certify_J1 self)]
theorem ct_selection_certify_J1 (self : ((Unit × (List Int) × Int × Int × Int × Int × Int × Unit) × (List Int) × Unit) → Option ((Unit × Unit) × Unit × (List Int) × Unit)) (hself : FnSound Try.prog gl 22 (mkSig [(.own 0), (.hole (.slice (.int .i64))), (.hole (.int .i64)), (.hole (.int .i64)), (.hole (.int .i64)), (.hole (.int .i64)), (.hole (.int .i64))] [(.vec (.int .u8))] [(.own 1)] [.dead, (.vec (.int .u8))] self)) : CodeSound Try.prog (cx_selection_certify self) (subL (subL (subR (bodyOf Try.f22)))) (B_selection_certify_J1 self).D :=
  join_sound (G := gs_selection_certify self) (A := .leaf) (T0 := K0_selection_certify_J1) (T := TM_selection_certify_J1) (U := UO_selection_certify_J1) (F := (fun k v => selection_certify_J1 self k.1 k.2.1 k.2.2.1 k.2.2.2.1 v)) (cxo_selection_certify self hself) follows (by kernel_rfl) (CutsOk.leaf _) (by intro k v; kernel_rfl)
theorem st_selection_certify (self : ((Unit × (List Int) × Int × Int × Int × Int × Int × Unit) × (List Int) × Unit) → Option ((Unit × Unit) × Unit × (List Int) × Unit)) (hself : FnSound Try.prog gl 22 (mkSig [(.own 0), (.hole (.slice (.int .i64))), (.hole (.int .i64)), (.hole (.int .i64)), (.hole (.int .i64)), (.hole (.int .i64)), (.hole (.int .i64))] [(.vec (.int .u8))] [(.own 1)] [.dead, (.vec (.int .u8))] self)) : FnSound Try.prog gl 22 (mkSig [(.own 0), (.hole (.slice (.int .i64))), (.hole (.int .i64)), (.hole (.int .i64)), (.hole (.int .i64)), (.hole (.int .i64)), (.hole (.int .i64))] [(.vec (.int .u8))] [(.own 1)] [.dead, (.vec (.int .u8))] (selection_certify_R self)) :=
  fn_printed (G := gs_selection_certify self) (A := (.two .leaf (.two (.two (.cut 1) .leaf) .leaf))) (cxo_selection_certify self hself) follows Try.func22 (by kernel_rfl) (by kernel_rfl) (by kernel_rfl) (by kernel_rfl) (by kernel_rfl) (CutsOk.two (CutsOk.leaf _) (CutsOk.two (CutsOk.two (CutsOk.cut (g := B_selection_certify_J1 self) (by kernel_rfl) (ct_selection_certify_J1 self hself)) (CutsOk.leaf _)) (CutsOk.leaf _))) (by intro v; kernel_rfl)
theorem sd_selection_certify : FnSound Try.prog gl 22 sg_selection_certify := fix_sound (ins := [(.own 0), (.hole (.slice (.int .i64))), (.hole (.int .i64)), (.hole (.int .i64)), (.hole (.int .i64)), (.hole (.int .i64)), (.hole (.int .i64))]) (inObs := [(.vec (.int .u8))]) (outs := [(.own 1)]) (outObs := [.dead, (.vec (.int .u8))]) (R := selection_certify_R) (by kernel_rfl) st_selection_certify fuel
def sg_selection_Best : Sig := mkSig [(.hole (.slice (.int .i64))), (.hole (.int .i64))] [] [(.ncons (.own 0) (.hole (.cons (.int .i64) .nil))), (.own 1), (.hole (.int .i64))] [(.vec (.int .i64)), (.vec (.int .u8))] (fun p => selection_Best p.1.1 p.1.2.1)
theorem fk_selection_Best : FnOk Try.prog 9 := ⟨Try.f9, Try.func9, by kernel_rfl, by kernel_rfl⟩
def cx_selection_Best : Cx := ⟨tys, lk [(22 + 100000 * 0, sg_selection_certify), (19 + 100000 * 0, sg_selection_fault), (20 + 100000 * 0, sg_selection_search_look), (21 + 100000 * 0, sg_selection_total)], 38, 0, [], gl, []⟩
theorem cxo_selection_Best : CxOk Try.prog (cx_selection_Best) := ⟨tys_ok, FnsAll.cons 0 rfl fk_selection_certify sd_selection_certify (FnsAll.cons 0 rfl fk_selection_fault sd_selection_fault (FnsAll.cons 0 rfl fk_selection_search_look sd_selection_search_look (FnsAll.cons 0 rfl fk_selection_total sd_selection_total (FnsAll.nil))))⟩
def gs_selection_Best : Nat → Option Blk := lk []
theorem sd_selection_Best : FnSound Try.prog gl 9 sg_selection_Best :=
  fn_printed (G := gs_selection_Best) (A := .leaf) (cxo_selection_Best) follows Try.func9 (by kernel_rfl) (by kernel_rfl) (by kernel_rfl) (by kernel_rfl) (by kernel_rfl) (CutsOk.leaf _) (by intro v; kernel_rfl)
def sg_selection_check : Sig := mkSig [(.hole (.slice (.int .u8))), (.hole (.slice (.int .i64))), (.hole (.int .i64)), (.hole (.int .i64)), (.hole (.int .i64)), (.hole (.int .i64)), (.hole (.int .i64))] [] [(.hole (.slice (.int .u8))), (.hole (.int .i64))] [] (fixN selection_check_R fuel)
theorem fk_selection_check : FnOk Try.prog 29 := ⟨Try.f29, Try.func29, by kernel_rfl, by kernel_rfl⟩
def cx_selection_check (self : (((List Int) × (List Int) × Int × Int × Int × Int × Int × Unit) × Unit) → Option (((List Int) × Int × Unit) × Unit)) : Cx := ⟨tys, lk [(29 + 100000 * 0, mkSig [(.hole (.slice (.int .u8))), (.hole (.slice (.int .i64))), (.hole (.int .i64)), (.hole (.int .i64)), (.hole (.int .i64)), (.hole (.int .i64)), (.hole (.int .i64))] [] [(.hole (.slice (.int .u8))), (.hole (.int .i64))] [] self)], 88, 0, [], gl, []⟩
theorem cxo_selection_check (self : (((List Int) × (List Int) × Int × Int × Int × Int × Int × Unit) × Unit) → Option (((List Int) × Int × Unit) × Unit)) (hself : FnSound Try.prog gl 29 (mkSig [(.hole (.slice (.int .u8))), (.hole (.slice (.int .i64))), (.hole (.int .i64)), (.hole (.int .i64)), (.hole (.int .i64)), (.hole (.int .i64)), (.hole (.int .i64))] [] [(.hole (.slice (.int .u8))), (.hole (.int .i64))] [] self)) : CxOk Try.prog (cx_selection_check self) := ⟨tys_ok, FnsAll.cons 0 rfl fk_selection_check hself (FnsAll.nil)⟩
abbrev K0_selection_check_J1 : List (Nat × Ty) := [(2, (.int .i64)), (3, (.int .i64)), (5, (.int .i64)), (6, (.int .i64)), (16, (.int .u8))]
abbrev TM_selection_check_J1 : Tm := ⟨[], []⟩
abbrev UO_selection_check_J1 : Outs := (.one .normal ⟨[(27, (.hole .bool))], []⟩)
def B_selection_check_J1 (self : (((List Int) × (List Int) × Int × Int × Int × Int × Int × Unit) × Unit) → Option (((List Int) × Int × Unit) × Unit)) : Blk := frBlk 0 [0, 1, 2, 3, 4, 5, 6, 14, 15, 16] K0_selection_check_J1 TM_selection_check_J1 UO_selection_check_J1 (fun k v => selection_check_J1 self k.1 k.2.1 k.2.2.1 k.2.2.2.1 k.2.2.2.2.1 v)
def gs_selection_check (self : (((List Int) × (List Int) × Int × Int × Int × Int × Int × Unit) × Unit) → Option (((List Int) × Int × Unit) × Unit)) : Nat → Option Blk := lk [(1, B_selection_check_J1 self)]
theorem ct_selection_check_J1 (self : (((List Int) × (List Int) × Int × Int × Int × Int × Int × Unit) × Unit) → Option (((List Int) × Int × Unit) × Unit)) (hself : FnSound Try.prog gl 29 (mkSig [(.hole (.slice (.int .u8))), (.hole (.slice (.int .i64))), (.hole (.int .i64)), (.hole (.int .i64)), (.hole (.int .i64)), (.hole (.int .i64)), (.hole (.int .i64))] [] [(.hole (.slice (.int .u8))), (.hole (.int .i64))] [] self)) : CodeSound Try.prog (cx_selection_check self) (subL (subL (subL (subR (subR (subR (bodyOf Try.f29))))))) (B_selection_check_J1 self).D :=
  join_sound (G := gs_selection_check self) (A := .leaf) (T0 := K0_selection_check_J1) (T := TM_selection_check_J1) (U := UO_selection_check_J1) (F := (fun k v => selection_check_J1 self k.1 k.2.1 k.2.2.1 k.2.2.2.1 k.2.2.2.2.1 v)) (cxo_selection_check self hself) follows (by kernel_rfl) (CutsOk.leaf _) (by intro k v; kernel_rfl)
theorem st_selection_check (self : (((List Int) × (List Int) × Int × Int × Int × Int × Int × Unit) × Unit) → Option (((List Int) × Int × Unit) × Unit)) (hself : FnSound Try.prog gl 29 (mkSig [(.hole (.slice (.int .u8))), (.hole (.slice (.int .i64))), (.hole (.int .i64)), (.hole (.int .i64)), (.hole (.int .i64)), (.hole (.int .i64)), (.hole (.int .i64))] [] [(.hole (.slice (.int .u8))), (.hole (.int .i64))] [] self)) : FnSound Try.prog gl 29 (mkSig [(.hole (.slice (.int .u8))), (.hole (.slice (.int .i64))), (.hole (.int .i64)), (.hole (.int .i64)), (.hole (.int .i64)), (.hole (.int .i64)), (.hole (.int .i64))] [] [(.hole (.slice (.int .u8))), (.hole (.int .i64))] [] (selection_check_R self)) :=
  fn_printed (G := gs_selection_check self) (A := (.two .leaf (.two .leaf (.two .leaf (.two (.two (.two (.cut 1) .leaf) .leaf) .leaf))))) (cxo_selection_check self hself) follows Try.func29 (by kernel_rfl) (by kernel_rfl) (by kernel_rfl) (by kernel_rfl) (by kernel_rfl) (CutsOk.two (CutsOk.leaf _) (CutsOk.two (CutsOk.leaf _) (CutsOk.two (CutsOk.leaf _) (CutsOk.two (CutsOk.two (CutsOk.two (CutsOk.cut (g := B_selection_check_J1 self) (by kernel_rfl) (ct_selection_check_J1 self hself)) (CutsOk.leaf _)) (CutsOk.leaf _)) (CutsOk.leaf _))))) (by intro v; kernel_rfl)
theorem sd_selection_check : FnSound Try.prog gl 29 sg_selection_check := fix_sound (ins := [(.hole (.slice (.int .u8))), (.hole (.slice (.int .i64))), (.hole (.int .i64)), (.hole (.int .i64)), (.hole (.int .i64)), (.hole (.int .i64)), (.hole (.int .i64))]) (inObs := []) (outs := [(.hole (.slice (.int .u8))), (.hole (.int .i64))]) (outObs := []) (R := selection_check_R) (by kernel_rfl) st_selection_check fuel
def sg_selection_Check : Sig := mkSig [(.hole (.slice (.int .i64))), (.hole (.int .i64)), (.hole T_3393), (.hole (.slice (.int .u8)))] [] [(.hole (.int .i64))] [] (fun p => selection_Check p.1.1 p.1.2.1 p.1.2.2.1 p.1.2.2.2.1)
theorem fk_selection_Check : FnOk Try.prog 13 := ⟨Try.f13, Try.func13, by kernel_rfl, by kernel_rfl⟩
def cx_selection_Check : Cx := ⟨tys, lk [(29 + 100000 * 0, sg_selection_check), (28 + 100000 * 0, sg_selection_proper), (21 + 100000 * 0, sg_selection_total)], 88, 0, [], gl, []⟩
theorem cxo_selection_Check : CxOk Try.prog (cx_selection_Check) := ⟨tys_ok, FnsAll.cons 0 rfl fk_selection_check sd_selection_check (FnsAll.cons 0 rfl fk_selection_proper sd_selection_proper (FnsAll.cons 0 rfl fk_selection_total sd_selection_total (FnsAll.nil)))⟩
abbrev K0_selection_Check_J2 : List (Nat × Ty) := [(0, (.slice (.int .i64))), (10, (.int .i64)), (11, (.int .i64))]
abbrev TM_selection_Check_J2 : Tm := ⟨[(6, (.ptr 0 []))], [(.box T_3393 (.hole T_3393))]⟩
abbrev UO_selection_Check_J2 : Outs := (.more .ret ⟨[(8, (.hole (.int .i64)))], []⟩ (.one .normal ⟨[(6, (.ptr 0 []))], [(.box T_3393 (.hole T_3393))]⟩))
def B_selection_Check_J2 : Blk := frBlk 0 [0, 9, 10, 11, 27, 28, 29] K0_selection_Check_J2 TM_selection_Check_J2 UO_selection_Check_J2 (fun k v => selection_Check_J2 k.1 k.2.1 k.2.2.1 v)
abbrev K0_selection_Check_L1 : List (Nat × Ty) := [(0, (.slice (.int .i64))), (27, (.slice (.int .i64))), (28, (.int .i64))]
abbrev TM_selection_Check_L1 : Tm := ⟨[(6, (.ptr 0 [])), (9, (.hole (.int .i64))), (29, (.hole (.int .i64)))], [(.box T_3393 (.hole T_3393))]⟩
abbrev UO_selection_Check_L1 : Outs := (.more .ret ⟨[(8, (.hole (.int .i64)))], []⟩ (.one (.exit 0) ⟨[(6, (.ptr 0 [])), (9, (.hole (.int .i64)))], [(.box T_3393 (.hole T_3393))]⟩))
def B_selection_Check_L1 : Blk := frBlk 0 [0, 1, 3, 27, 28] K0_selection_Check_L1 TM_selection_Check_L1 UO_selection_Check_L1 (fun k => loopV (fun v => selection_Check_L1 k.1 k.2.1 k.2.2.1 v))
def gs_selection_Check : Nat → Option Blk := lk [(2, B_selection_Check_J2), (1, B_selection_Check_L1)]
theorem ct_selection_Check_J2 : CodeSound Try.prog ((cx_selection_Check).fr [0, 1, 3, 27, 28]) (subL (subR (subL (subL (subR (subR (subL (subL (subR (subL (subR (subR (subR (subR (bodyOf Try.f13))))))))))))))) (B_selection_Check_J2).D :=
  join_sound (G := gs_selection_Check) (A := .leaf) (T0 := K0_selection_Check_J2) (T := TM_selection_Check_J2) (U := UO_selection_Check_J2) (F := (fun k v => selection_Check_J2 k.1 k.2.1 k.2.2.1 v)) ((cxo_selection_Check).fr [0, 1, 3, 27, 28]) follows (by kernel_rfl) (CutsOk.leaf _) (by intro k v; kernel_rfl)
theorem ct_selection_Check_L1 : CodeSound Try.prog (cx_selection_Check) (subL (subR (subL (subR (subR (subR (subR (bodyOf Try.f13)))))))) (B_selection_Check_L1).D :=
  loop_printed (G := gs_selection_Check) (A := (.two .leaf (.two .leaf (.two (.two (.two .leaf (.two (.cut 2) .leaf)) .leaf) .leaf)))) (T0 := K0_selection_Check_L1) (T := TM_selection_Check_L1) (U := UO_selection_Check_L1) (step := (fun k v => selection_Check_L1 k.1 k.2.1 k.2.2.1 v)) (cxo_selection_Check) follows (by kernel_rfl) (by kernel_rfl) (CutsOk.two (CutsOk.leaf _) (CutsOk.two (CutsOk.leaf _) (CutsOk.two (CutsOk.two (CutsOk.two (CutsOk.leaf _) (CutsOk.two (CutsOk.cut (g := B_selection_Check_J2) (by kernel_rfl) (ct_selection_Check_J2)) (CutsOk.leaf _))) (CutsOk.leaf _)) (CutsOk.leaf _)))) (by intro k v; kernel_rfl)
theorem sd_selection_Check : FnSound Try.prog gl 13 sg_selection_Check :=
  fn_printed (G := gs_selection_Check) (A := (.two .leaf (.two .leaf (.two .leaf (.two .leaf (.two (.two .leaf (.two (.cut 1) .leaf)) .leaf)))))) (cxo_selection_Check) follows Try.func13 (by kernel_rfl) (by kernel_rfl) (by kernel_rfl) (by kernel_rfl) (by kernel_rfl) (CutsOk.two (CutsOk.leaf _) (CutsOk.two (CutsOk.leaf _) (CutsOk.two (CutsOk.leaf _) (CutsOk.two (CutsOk.leaf _) (CutsOk.two (CutsOk.two (CutsOk.leaf _) (CutsOk.two (CutsOk.cut (g := B_selection_Check_L1) (by kernel_rfl) (ct_selection_Check_L1)) (CutsOk.leaf _))) (CutsOk.leaf _)))))) (by intro v; kernel_rfl)
def sg_selection_Largest : Sig := mkSig [(.hole (.slice (.int .i64))), (.hole (.int .i64))] [] [(.ncons (.own 0) (.hole (.cons (.int .i64) .nil))), (.hole (.int .i64))] [(.vec (.int .i64))] (fun p => selection_Largest p.1.1 p.1.2.1)
theorem fk_selection_Largest : FnOk Try.prog 15 := ⟨Try.f15, Try.func15, by kernel_rfl, by kernel_rfl⟩
def cx_selection_Largest : Cx := ⟨tys, lk [(19 + 100000 * 0, sg_selection_fault), (30 + 100000 * 0, sg_slices_Contains_int_int), (31 + 100000 * 0, sg_slices_Sort_int_int)], 66, 0, [], gl, []⟩
theorem cxo_selection_Largest : CxOk Try.prog (cx_selection_Largest) := ⟨tys_ok, FnsAll.cons 0 rfl fk_selection_fault sd_selection_fault (FnsAll.cons 0 rfl fk_slices_Contains_int_int sd_slices_Contains_int_int (FnsAll.cons 0 rfl fk_slices_Sort_int_int sd_slices_Sort_int_int (FnsAll.nil)))⟩
abbrev K0_selection_Largest_J3 : List (Nat × Ty) := [(0, (.slice (.int .i64))), (22, (.slice (.int .i64))), (24, (.int .i64))]
abbrev TM_selection_Largest_J3 : Tm := ⟨[(4, (.ptr 0 [])), (7, (.ptr 1 [])), (8, (.hole (.int .i64)))], [(.box T_3393 (.ncons .nils (.hole (.cons (.int .i64) .nil)))), (.box T_3393 (.ncons (.own 2) (.hole (.cons (.int .i64) .nil)))), (.vec (.int .i64))]⟩
abbrev UO_selection_Largest_J3 : Outs := (.one .normal ⟨[(4, (.ptr 0 [])), (7, (.ptr 1 [])), (8, (.hole (.int .i64)))], [(.box T_3393 (.ncons .nils (.hole (.cons (.int .i64) .nil)))), (.box T_3393 (.ncons (.own 2) (.hole (.cons (.int .i64) .nil)))), (.vec (.int .i64))]⟩)
def B_selection_Largest_J3 : Blk := frBlk 0 [0, 22, 23, 24] K0_selection_Largest_J3 TM_selection_Largest_J3 UO_selection_Largest_J3 (fun k v => selection_Largest_J3 k.1 k.2.1 k.2.2.1 v)
abbrev K0_selection_Largest_L2 : List (Nat × Ty) := [(0, (.slice (.int .i64))), (22, (.slice (.int .i64))), (23, (.int .i64))]
abbrev TM_selection_Largest_L2 : Tm := ⟨[(4, (.ptr 0 [])), (7, (.ptr 1 [])), (8, (.hole (.int .i64))), (24, (.hole (.int .i64)))], [(.box T_3393 (.ncons .nils (.hole (.cons (.int .i64) .nil)))), (.box T_3393 (.ncons (.own 2) (.hole (.cons (.int .i64) .nil)))), (.vec (.int .i64))]⟩
abbrev UO_selection_Largest_L2 : Outs := (.one (.exit 2) ⟨[(4, (.ptr 0 [])), (7, (.ptr 1 [])), (8, (.hole (.int .i64)))], [(.box T_3393 (.ncons .nils (.hole (.cons (.int .i64) .nil)))), (.box T_3393 (.ncons (.own 2) (.hole (.cons (.int .i64) .nil)))), (.vec (.int .i64))]⟩)
def B_selection_Largest_L2 : Blk := frBlk 0 [0, 1, 22, 23] K0_selection_Largest_L2 TM_selection_Largest_L2 UO_selection_Largest_L2 (fun k => loopV (fun v => selection_Largest_L2 k.1 k.2.1 k.2.2.1 v))
abbrev K0_selection_Largest_L1 : List (Nat × Ty) := [(0, (.slice (.int .i64))), (1, (.int .i64))]
abbrev TM_selection_Largest_L1 : Tm := ⟨[(4, (.ptr 0 [])), (7, (.ptr 1 []))], [(.box T_3393 (.ncons .nils (.hole (.cons (.int .i64) .nil)))), (.box T_3393 (.ncons (.own 2) (.hole (.cons (.int .i64) .nil)))), (.vec (.int .i64))]⟩
abbrev UO_selection_Largest_L1 : Outs := (.one (.exit 0) ⟨[(4, (.ptr 0 [])), (7, (.ptr 1 []))], [(.box T_3393 (.ncons .nils (.hole (.cons (.int .i64) .nil)))), (.box T_3393 (.ncons (.own 2) (.hole (.cons (.int .i64) .nil)))), (.vec (.int .i64))]⟩)
def B_selection_Largest_L1 : Blk := frBlk 0 [0, 1, 5] K0_selection_Largest_L1 TM_selection_Largest_L1 UO_selection_Largest_L1 (fun k => loopV (fun v => selection_Largest_L1 k.1 k.2.1 v))
def gs_selection_Largest : Nat → Option Blk := lk [(3, B_selection_Largest_J3), (2, B_selection_Largest_L2), (1, B_selection_Largest_L1)]
theorem ct_selection_Largest_J3 : CodeSound Try.prog (((cx_selection_Largest).fr [0, 1, 5]).fr [0, 1, 22, 23]) (subL (subR (subR (subL (subL (subR (subL (subR (subL (subR (subL (subL (subL (subR (subR (subR (bodyOf Try.f15))))))))))))))))) (B_selection_Largest_J3).D :=
  join_sound (G := gs_selection_Largest) (A := .leaf) (T0 := K0_selection_Largest_J3) (T := TM_selection_Largest_J3) (U := UO_selection_Largest_J3) (F := (fun k v => selection_Largest_J3 k.1 k.2.1 k.2.2.1 v)) (((cxo_selection_Largest).fr [0, 1, 5]).fr [0, 1, 22, 23]) follows (by kernel_rfl) (CutsOk.leaf _) (by intro k v; kernel_rfl)
theorem ct_selection_Largest_L2 : CodeSound Try.prog ((cx_selection_Largest).fr [0, 1, 5]) (subL (subR (subL (subR (subL (subR (subL (subL (subL (subR (subR (subR (bodyOf Try.f15))))))))))))) (B_selection_Largest_L2).D :=
  loop_printed (G := gs_selection_Largest) (A := (.two .leaf (.two .leaf (.two (.cut 3) .leaf)))) (T0 := K0_selection_Largest_L2) (T := TM_selection_Largest_L2) (U := UO_selection_Largest_L2) (step := (fun k v => selection_Largest_L2 k.1 k.2.1 k.2.2.1 v)) ((cxo_selection_Largest).fr [0, 1, 5]) follows (by kernel_rfl) (by kernel_rfl) (CutsOk.two (CutsOk.leaf _) (CutsOk.two (CutsOk.leaf _) (CutsOk.two (CutsOk.cut (g := B_selection_Largest_J3) (by kernel_rfl) (ct_selection_Largest_J3)) (CutsOk.leaf _)))) (by intro k v; kernel_rfl)
theorem ct_selection_Largest_L1 : CodeSound Try.prog (cx_selection_Largest) (subL (subL (subR (subR (subR (bodyOf Try.f15)))))) (B_selection_Largest_L1).D :=
  loop_printed (G := gs_selection_Largest) (A := (.two .leaf (.two (.two .leaf (.two (.two .leaf (.two (.cut 2) .leaf)) .leaf)) .leaf))) (T0 := K0_selection_Largest_L1) (T := TM_selection_Largest_L1) (U := UO_selection_Largest_L1) (step := (fun k v => selection_Largest_L1 k.1 k.2.1 v)) (cxo_selection_Largest) follows (by kernel_rfl) (by kernel_rfl) (CutsOk.two (CutsOk.leaf _) (CutsOk.two (CutsOk.two (CutsOk.leaf _) (CutsOk.two (CutsOk.two (CutsOk.leaf _) (CutsOk.two (CutsOk.cut (g := B_selection_Largest_L2) (by kernel_rfl) (ct_selection_Largest_L2)) (CutsOk.leaf _))) (CutsOk.leaf _))) (CutsOk.leaf _))) (by intro k v; kernel_rfl)
theorem sd_selection_Largest : FnSound Try.prog gl 15 sg_selection_Largest :=
  fn_printed (G := gs_selection_Largest) (A := (.two .leaf (.two .leaf (.two .leaf (.two (.two (.cut 1) .leaf) .leaf))))) (cxo_selection_Largest) follows Try.func15 (by kernel_rfl) (by kernel_rfl) (by kernel_rfl) (by kernel_rfl) (by kernel_rfl) (CutsOk.two (CutsOk.leaf _) (CutsOk.two (CutsOk.leaf _) (CutsOk.two (CutsOk.leaf _) (CutsOk.two (CutsOk.two (CutsOk.cut (g := B_selection_Largest_L1) (by kernel_rfl) (ct_selection_Largest_L1)) (CutsOk.leaf _)) (CutsOk.leaf _))))) (by intro v; kernel_rfl)
end Go.PE.Ytaeaeaiebbakbaa
end
end

section
set_option maxRecDepth 100000
set_option linter.unusedVariables false
noncomputable section
namespace Go.PE.Ytaeaeaiebbakbaa
open Go.PE Go.Proofs

def sg_law32_sane : Sig := mkSig [] [] [(.hole .bool)] [] (fun p => law32_sane)
theorem fk_law32_sane : FnOk Try.prog 7 := ⟨Try.f7, Try.func7, by kernel_rfl, by kernel_rfl⟩
def cx_law32_sane : Cx := ⟨tys, lk [(9 + 100000 * 0, sg_selection_Best)], 48, 0, [], gl, []⟩
theorem cxo_law32_sane : CxOk Try.prog (cx_law32_sane) := ⟨tys_ok, FnsAll.cons 0 rfl fk_selection_Best sd_selection_Best (FnsAll.nil)⟩
def gs_law32_sane : Nat → Option Blk := lk []
theorem sd_law32_sane : FnSound Try.prog gl 7 sg_law32_sane :=
  fn_printed (G := gs_law32_sane) (A := .leaf) (cxo_law32_sane) follows Try.func7 (by kernel_rfl) (by kernel_rfl) (by kernel_rfl) (by kernel_rfl) (by kernel_rfl) (CutsOk.leaf _) (by intro v; kernel_rfl)
def sg_law32_made : Sig := mkSig [(.hole (.slice (.int .i64))), (.hole (.int .i64))] [] [(.own 0), (.hole (.int .i64))] [(.vec (.int .i64))] (fun p => law32_made p.1.1 p.1.2.1)
theorem fk_law32_made : FnOk Try.prog 8 := ⟨Try.f8, Try.func8, by kernel_rfl, by kernel_rfl⟩
def cx_law32_made : Cx := ⟨tys, lk [(18 + 100000 * 0, sg_mill_Deck_Next), (17 + 100000 * 0, sg_mill_New)], 29, 0, [], gl, []⟩
theorem cxo_law32_made : CxOk Try.prog (cx_law32_made) := ⟨tys_ok, FnsAll.cons 0 rfl fk_mill_Deck_Next sd_mill_Deck_Next (FnsAll.cons 0 rfl fk_mill_New sd_mill_New (FnsAll.nil))⟩
abbrev K0_law32_made_L1 : List (Nat × Ty) := []
abbrev TM_law32_made_L1 : Tm := ⟨[(6, (.ptr 0 [])), (7, (.own 1)), (8, (.hole (.int .i64)))], [(.box T_3393 (.hole T_3393)), (.vec (.int .i64))]⟩
abbrev UO_law32_made_L1 : Outs := (.one (.exit 0) ⟨[(6, (.ptr 0 [])), (7, (.own 1))], [(.box T_3393 (.hole T_3393)), (.vec (.int .i64))]⟩)
def B_law32_made_L1 : Blk := frBlk 0 [4, 5] K0_law32_made_L1 TM_law32_made_L1 UO_law32_made_L1 (fun k => loopV (fun v => law32_made_L1 v))
def gs_law32_made : Nat → Option Blk := lk [(1, B_law32_made_L1)]
theorem ct_law32_made_L1 : CodeSound Try.prog (cx_law32_made) (subL (subR (subL (subR (subR (subR (bodyOf Try.f8))))))) (B_law32_made_L1).D :=
  loop_printed (G := gs_law32_made) (A := .leaf) (T0 := K0_law32_made_L1) (T := TM_law32_made_L1) (U := UO_law32_made_L1) (step := (fun k v => law32_made_L1 v)) (cxo_law32_made) follows (by kernel_rfl) (by kernel_rfl) (CutsOk.leaf _) (by intro k v; kernel_rfl)
theorem sd_law32_made : FnSound Try.prog gl 8 sg_law32_made :=
  fn_printed (G := gs_law32_made) (A := (.two .leaf (.two .leaf (.two .leaf (.two (.two .leaf (.two (.cut 1) .leaf)) .leaf))))) (cxo_law32_made) follows Try.func8 (by kernel_rfl) (by kernel_rfl) (by kernel_rfl) (by kernel_rfl) (by kernel_rfl) (CutsOk.two (CutsOk.leaf _) (CutsOk.two (CutsOk.leaf _) (CutsOk.two (CutsOk.leaf _) (CutsOk.two (CutsOk.two (CutsOk.leaf _) (CutsOk.two (CutsOk.cut (g := B_law32_made_L1) (by kernel_rfl) (ct_law32_made_L1)) (CutsOk.leaf _))) (CutsOk.leaf _))))) (by intro v; kernel_rfl)
def sg_law32_SelectionBest : Sig := mkSig [(.hole (.slice (.int .i64))), (.hole (.slice (.int .i64))), (.hole (.int .i64))] [] [(.hole .bool)] [] (fun p => law32_SelectionBest p.1.1 p.1.2.1 p.1.2.2.1)
theorem fk_law32_SelectionBest : FnOk Try.prog 3 := ⟨Try.f3, Try.func3, by kernel_rfl, by kernel_rfl⟩
def cx_law32_SelectionBest : Cx := ⟨tys, lk [(8 + 100000 * 0, sg_law32_made), (7 + 100000 * 0, sg_law32_sane), (10 + 100000 * 0, sg_ref32_Best), (11 + 100000 * 0, sg_ref32_Same), (9 + 100000 * 0, sg_selection_Best)], 82, 0, [], gl, []⟩
theorem cxo_law32_SelectionBest : CxOk Try.prog (cx_law32_SelectionBest) := ⟨tys_ok, FnsAll.cons 0 rfl fk_law32_made sd_law32_made (FnsAll.cons 0 rfl fk_law32_sane sd_law32_sane (FnsAll.cons 0 rfl fk_ref32_Best sd_ref32_Best (FnsAll.cons 0 rfl fk_ref32_Same sd_ref32_Same (FnsAll.cons 0 rfl fk_selection_Best sd_selection_Best (FnsAll.nil)))))⟩
abbrev K0_law32_SelectionBest_J1 : List (Nat × Ty) := [(1, (.slice (.int .i64)))]
abbrev TM_law32_SelectionBest_J1 : Tm := ⟨[], []⟩
abbrev UO_law32_SelectionBest_J1 : Outs := (.more .ret ⟨[(6, (.hole .bool))], []⟩ (.one .normal ⟨[], []⟩))
def B_law32_SelectionBest_J1 : Blk := frBlk 0 [0, 1, 2] K0_law32_SelectionBest_J1 TM_law32_SelectionBest_J1 UO_law32_SelectionBest_J1 (fun k v => law32_SelectionBest_J1 k.1 v)
abbrev K0_law32_SelectionBest_L3 : List (Nat × Ty) := [(10, (.slice (.int .i64))), (45, (.int .i64))]
abbrev TM_law32_SelectionBest_L3 : Tm := ⟨[(36, (.own 0)), (44, (.own 1)), (46, (.hole (.int .i64)))], [(.vec (.slice (.int .i64))), (.vec (.int .i64))]⟩
abbrev UO_law32_SelectionBest_L3 : Outs := (.more .ret ⟨[(6, (.hole .bool))], []⟩ (.one (.exit 2) ⟨[(36, (.own 0))], [(.vec (.slice (.int .i64)))]⟩))
def B_law32_SelectionBest_L3 : Blk := frBlk 0 [2, 8, 10, 37, 38, 45] K0_law32_SelectionBest_L3 TM_law32_SelectionBest_L3 UO_law32_SelectionBest_L3 (fun k => loopV (fun v => law32_SelectionBest_L3 k.1 k.2.1 v))
abbrev K0_law32_SelectionBest_L2 : List (Nat × Ty) := [(2, (.int .i64)), (8, (.int .i64)), (37, (.int .i64))]
abbrev TM_law32_SelectionBest_L2 : Tm := ⟨[(36, (.own 0)), (38, (.hole (.int .i64)))], [(.vec (.slice (.int .i64)))]⟩
abbrev UO_law32_SelectionBest_L2 : Outs := (.more .ret ⟨[(6, (.hole .bool))], []⟩ (.one (.exit 0) ⟨[], []⟩))
def B_law32_SelectionBest_L2 : Blk := frBlk 0 [2, 8, 37] K0_law32_SelectionBest_L2 TM_law32_SelectionBest_L2 UO_law32_SelectionBest_L2 (fun k => loopV (fun v => law32_SelectionBest_L2 k.1 k.2.1 k.2.2.1 v))
def gs_law32_SelectionBest : Nat → Option Blk := lk [(1, B_law32_SelectionBest_J1), (3, B_law32_SelectionBest_L3), (2, B_law32_SelectionBest_L2)]
theorem ct_law32_SelectionBest_L3 : CodeSound Try.prog ((cx_law32_SelectionBest).fr [2, 8, 37]) (subL (subR (subR (subL (subL (subR (subR (subL (subL (subR (subL (subR (subR (subR (subR (bodyOf Try.f3)))))))))))))))) (B_law32_SelectionBest_L3).D :=
  loop_printed (G := gs_law32_SelectionBest) (A := .leaf) (T0 := K0_law32_SelectionBest_L3) (T := TM_law32_SelectionBest_L3) (U := UO_law32_SelectionBest_L3) (step := (fun k v => law32_SelectionBest_L3 k.1 k.2.1 v)) ((cxo_law32_SelectionBest).fr [2, 8, 37]) follows (by kernel_rfl) (by kernel_rfl) (CutsOk.leaf _) (by intro k v; kernel_rfl)
theorem ct_law32_SelectionBest_L2 : CodeSound Try.prog (cx_law32_SelectionBest) (subL (subR (subL (subR (subR (subR (subR (bodyOf Try.f3)))))))) (B_law32_SelectionBest_L2).D :=
  loop_printed (G := gs_law32_SelectionBest) (A := (.two .leaf (.two .leaf (.two (.two (.two .leaf (.two .leaf (.two (.cut 3) .leaf))) .leaf) .leaf)))) (T0 := K0_law32_SelectionBest_L2) (T := TM_law32_SelectionBest_L2) (U := UO_law32_SelectionBest_L2) (step := (fun k v => law32_SelectionBest_L2 k.1 k.2.1 k.2.2.1 v)) (cxo_law32_SelectionBest) follows (by kernel_rfl) (by kernel_rfl) (CutsOk.two (CutsOk.leaf _) (CutsOk.two (CutsOk.leaf _) (CutsOk.two (CutsOk.two (CutsOk.two (CutsOk.leaf _) (CutsOk.two (CutsOk.leaf _) (CutsOk.two (CutsOk.cut (g := B_law32_SelectionBest_L3) (by kernel_rfl) (ct_law32_SelectionBest_L3)) (CutsOk.leaf _)))) (CutsOk.leaf _)) (CutsOk.leaf _)))) (by intro k v; kernel_rfl)
theorem ct_law32_SelectionBest_J1 : CodeSound Try.prog (cx_law32_SelectionBest) (subL (subR (subR (bodyOf Try.f3)))) (B_law32_SelectionBest_J1).D :=
  join_sound (G := gs_law32_SelectionBest) (A := .leaf) (T0 := K0_law32_SelectionBest_J1) (T := TM_law32_SelectionBest_J1) (U := UO_law32_SelectionBest_J1) (F := (fun k v => law32_SelectionBest_J1 k.1 v)) (cxo_law32_SelectionBest) follows (by kernel_rfl) (CutsOk.leaf _) (by intro k v; kernel_rfl)
theorem sd_law32_SelectionBest : FnSound Try.prog gl 3 sg_law32_SelectionBest :=
  fn_printed (G := gs_law32_SelectionBest) (A := (.two .leaf (.two .leaf (.two (.cut 1) (.two .leaf (.two (.two .leaf (.two (.cut 2) .leaf)) .leaf)))))) (cxo_law32_SelectionBest) follows Try.func3 (by kernel_rfl) (by kernel_rfl) (by kernel_rfl) (by kernel_rfl) (by kernel_rfl) (CutsOk.two (CutsOk.leaf _) (CutsOk.two (CutsOk.leaf _) (CutsOk.two (CutsOk.cut (g := B_law32_SelectionBest_J1) (by kernel_rfl) (ct_law32_SelectionBest_J1)) (CutsOk.two (CutsOk.leaf _) (CutsOk.two (CutsOk.two (CutsOk.leaf _) (CutsOk.two (CutsOk.cut (g := B_law32_SelectionBest_L2) (by kernel_rfl) (ct_law32_SelectionBest_L2)) (CutsOk.leaf _))) (CutsOk.leaf _)))))) (by intro v; kernel_rfl)
def sg_law32_least : Sig := mkSig [(.hole (.slice (.int .i64))), (.hole (.int .i64))] [] [(.hole (.int .i64))] [] (fun p => law32_least p.1.1 p.1.2.1)
theorem fk_law32_least : FnOk Try.prog 14 := ⟨Try.f14, Try.func14, by kernel_rfl, by kernel_rfl⟩
def cx_law32_least : Cx := ⟨tys, lk [], 49, 0, [], gl, []⟩
theorem cxo_law32_least : CxOk Try.prog (cx_law32_least) := ⟨tys_ok, FnsAll.nil⟩
abbrev K0_law32_least_L3 : List (Nat × Ty) := [(0, (.slice (.int .i64))), (6, (.int .i64)), (18, (.int .i64))]
abbrev TM_law32_least_L3 : Tm := ⟨[(7, (.hole (.int .i64))), (19, (.hole (.int .i64)))], []⟩
abbrev UO_law32_least_L3 : Outs := (.one (.exit 2) ⟨[(7, (.hole (.int .i64)))], []⟩)
def B_law32_least_L3 : Blk := frBlk 0 [0, 1, 5, 6, 18] K0_law32_least_L3 TM_law32_least_L3 UO_law32_least_L3 (fun k => loopV (fun v => law32_least_L3 k.1 k.2.1 k.2.2.1 v))
abbrev K0_law32_least_J2 : List (Nat × Ty) := [(0, (.slice (.int .i64))), (1, (.int .i64)), (6, (.int .i64))]
abbrev TM_law32_least_J2 : Tm := ⟨[(5, (.hole (.int .i64)))], []⟩
abbrev UO_law32_least_J2 : Outs := (.one .normal ⟨[(5, (.hole (.int .i64)))], []⟩)
def B_law32_least_J2 : Blk := frBlk 0 [0, 1, 6] K0_law32_least_J2 TM_law32_least_J2 UO_law32_least_J2 (fun k v => law32_least_J2 k.1 k.2.1 k.2.2.1 v)
abbrev K0_law32_least_L1 : List (Nat × Ty) := [(0, (.slice (.int .i64))), (1, (.int .i64))]
abbrev TM_law32_least_L1 : Tm := ⟨[(5, (.hole (.int .i64))), (6, (.hole (.int .i64)))], []⟩
abbrev UO_law32_least_L1 : Outs := (.one (.exit 0) ⟨[(5, (.hole (.int .i64)))], []⟩)
def B_law32_least_L1 : Blk := frBlk 0 [0, 1, 4] K0_law32_least_L1 TM_law32_least_L1 UO_law32_least_L1 (fun k => loopV (fun v => law32_least_L1 k.1 k.2.1 v))
def gs_law32_least : Nat → Option Blk := lk [(3, B_law32_least_L3), (2, B_law32_least_J2), (1, B_law32_least_L1)]
theorem ct_law32_least_L3 : CodeSound Try.prog (((cx_law32_least).fr [0, 1, 4]).fr [0, 1, 6]) (subL (subR (subL (subR (subL (subL (subR (subL (subL (subR (subL (subR (subR (bodyOf Try.f14)))))))))))))) (B_law32_least_L3).D :=
  loop_printed (G := gs_law32_least) (A := .leaf) (T0 := K0_law32_least_L3) (T := TM_law32_least_L3) (U := UO_law32_least_L3) (step := (fun k v => law32_least_L3 k.1 k.2.1 k.2.2.1 v)) (((cxo_law32_least).fr [0, 1, 4]).fr [0, 1, 6]) follows (by kernel_rfl) (by kernel_rfl) (CutsOk.leaf _) (by intro k v; kernel_rfl)
theorem ct_law32_least_J2 : CodeSound Try.prog ((cx_law32_least).fr [0, 1, 4]) (subL (subR (subL (subL (subR (subL (subR (subR (bodyOf Try.f14))))))))) (B_law32_least_J2).D :=
  join_sound (G := gs_law32_least) (A := (.two (.two .leaf (.two (.two .leaf (.two (.cut 3) .leaf)) .leaf)) .leaf)) (T0 := K0_law32_least_J2) (T := TM_law32_least_J2) (U := UO_law32_least_J2) (F := (fun k v => law32_least_J2 k.1 k.2.1 k.2.2.1 v)) ((cxo_law32_least).fr [0, 1, 4]) follows (by kernel_rfl) (CutsOk.two (CutsOk.two (CutsOk.leaf _) (CutsOk.two (CutsOk.two (CutsOk.leaf _) (CutsOk.two (CutsOk.cut (g := B_law32_least_L3) (by kernel_rfl) (ct_law32_least_L3)) (CutsOk.leaf _))) (CutsOk.leaf _))) (CutsOk.leaf _)) (by intro k v; kernel_rfl)
theorem ct_law32_least_L1 : CodeSound Try.prog (cx_law32_least) (subL (subR (subL (subR (subR (bodyOf Try.f14)))))) (B_law32_least_L1).D :=
  loop_printed (G := gs_law32_least) (A := (.two .leaf (.two (.cut 2) .leaf))) (T0 := K0_law32_least_L1) (T := TM_law32_least_L1) (U := UO_law32_least_L1) (step := (fun k v => law32_least_L1 k.1 k.2.1 v)) (cxo_law32_least) follows (by kernel_rfl) (by kernel_rfl) (CutsOk.two (CutsOk.leaf _) (CutsOk.two (CutsOk.cut (g := B_law32_least_J2) (by kernel_rfl) (ct_law32_least_J2)) (CutsOk.leaf _))) (by intro k v; kernel_rfl)
theorem sd_law32_least : FnSound Try.prog gl 14 sg_law32_least :=
  fn_printed (G := gs_law32_least) (A := (.two .leaf (.two .leaf (.two (.two .leaf (.two (.cut 1) .leaf)) .leaf)))) (cxo_law32_least) follows Try.func14 (by kernel_rfl) (by kernel_rfl) (by kernel_rfl) (by kernel_rfl) (by kernel_rfl) (CutsOk.two (CutsOk.leaf _) (CutsOk.two (CutsOk.leaf _) (CutsOk.two (CutsOk.two (CutsOk.leaf _) (CutsOk.two (CutsOk.cut (g := B_law32_least_L1) (by kernel_rfl) (ct_law32_least_L1)) (CutsOk.leaf _))) (CutsOk.leaf _)))) (by intro v; kernel_rfl)
def sg_law32_SelectionProves : Sig := mkSig [(.hole (.slice (.int .i64))), (.hole (.slice (.int .u8))), (.hole (.slice (.int .i64)))] [] [(.hole .bool)] [] (fun p => law32_SelectionProves p.1.1 p.1.2.1 p.1.2.2.1)
theorem fk_law32_SelectionProves : FnOk Try.prog 4 := ⟨Try.f4, Try.func4, by kernel_rfl, by kernel_rfl⟩
def cx_law32_SelectionProves : Cx := ⟨tys, lk [(14 + 100000 * 0, sg_law32_least), (8 + 100000 * 0, sg_law32_made), (7 + 100000 * 0, sg_law32_sane), (12 + 100000 * 0, sg_mill_Mod), (10 + 100000 * 0, sg_ref32_Best), (13 + 100000 * 0, sg_selection_Check)], 112, 0, [], gl, []⟩
theorem cxo_law32_SelectionProves : CxOk Try.prog (cx_law32_SelectionProves) := ⟨tys_ok, FnsAll.cons 0 rfl fk_law32_least sd_law32_least (FnsAll.cons 0 rfl fk_law32_made sd_law32_made (FnsAll.cons 0 rfl fk_law32_sane sd_law32_sane (FnsAll.cons 0 rfl fk_mill_Mod sd_mill_Mod (FnsAll.cons 0 rfl fk_ref32_Best sd_ref32_Best (FnsAll.cons 0 rfl fk_selection_Check sd_selection_Check (FnsAll.nil))))))⟩
abbrev K0_law32_SelectionProves_L2 : List (Nat × Ty) := [(10, (.int .i64)), (38, (.slice (.int .i64))), (39, (.int .i64))]
abbrev TM_law32_SelectionProves_L2 : Tm := ⟨[(7, (.own 0)), (9, (.ptr 1 [])), (40, (.hole (.int .i64)))], [(.vec (.int .i64)), (.box T_3393 (.ncons (.own 2) (.hole (.cons (.int .i64) .nil)))), (.vec (.int .i64))]⟩
abbrev UO_law32_SelectionProves_L2 : Outs := (.one (.exit 2) ⟨[(7, (.own 0)), (9, (.ptr 1 []))], [(.vec (.int .i64)), (.box T_3393 (.ncons (.own 2) (.hole (.cons (.int .i64) .nil)))), (.vec (.int .i64))]⟩)
def B_law32_SelectionProves_L2 : Blk := frBlk 0 [2, 10, 34, 35, 38, 39] K0_law32_SelectionProves_L2 TM_law32_SelectionProves_L2 UO_law32_SelectionProves_L2 (fun k => loopV (fun v => law32_SelectionProves_L2 k.1 k.2.1 k.2.2.1 v))
abbrev K0_law32_SelectionProves_L1 : List (Nat × Ty) := [(2, (.slice (.int .i64))), (34, (.int .i64))]
abbrev TM_law32_SelectionProves_L1 : Tm := ⟨[(7, (.own 0)), (9, (.ptr 1 [])), (35, (.hole (.int .i64)))], [(.vec (.int .i64)), (.box T_3393 (.ncons (.own 2) (.hole (.cons (.int .i64) .nil)))), (.vec (.int .i64))]⟩
abbrev UO_law32_SelectionProves_L1 : Outs := (.one (.exit 0) ⟨[(7, (.own 0)), (9, (.ptr 1 []))], [(.vec (.int .i64)), (.box T_3393 (.ncons (.own 2) (.hole (.cons (.int .i64) .nil)))), (.vec (.int .i64))]⟩)
def B_law32_SelectionProves_L1 : Blk := frBlk 0 [1, 2, 6, 8, 34] K0_law32_SelectionProves_L1 TM_law32_SelectionProves_L1 UO_law32_SelectionProves_L1 (fun k => loopV (fun v => law32_SelectionProves_L1 k.1 k.2.1 v))
abbrev K0_law32_SelectionProves_L3 : List (Nat × Ty) := [(7, (.slice (.int .i64))), (8, (.int .i64)), (92, (.int .i64))]
abbrev TM_law32_SelectionProves_L3 : Tm := ⟨[(9, (.ptr 0 [])), (91, (.own 1)), (93, (.hole (.int .i64)))], [(.box T_3393 (.ncons (.own 2) (.hole (.cons (.int .i64) .nil)))), (.vec (.slice (.int .u8))), (.vec (.int .i64))]⟩
abbrev UO_law32_SelectionProves_L3 : Outs := (.more .ret ⟨[(6, (.hole .bool))], []⟩ (.one (.exit 4) ⟨[], []⟩))
def B_law32_SelectionProves_L3 : Blk := frBlk 0 [7, 8, 92] K0_law32_SelectionProves_L3 TM_law32_SelectionProves_L3 UO_law32_SelectionProves_L3 (fun k => loopV (fun v => law32_SelectionProves_L3 k.1 k.2.1 k.2.2.1 v))
def gs_law32_SelectionProves : Nat → Option Blk := lk [(2, B_law32_SelectionProves_L2), (1, B_law32_SelectionProves_L1), (3, B_law32_SelectionProves_L3)]
theorem ct_law32_SelectionProves_L2 : CodeSound Try.prog ((cx_law32_SelectionProves).fr [1, 2, 6, 8, 34]) (subL (subR (subR (subL (subL (subR (subR (subL (subL (subR (subL (subR (subR (subR (subR (subR (bodyOf Try.f4))))))))))))))))) (B_law32_SelectionProves_L2).D :=
  loop_printed (G := gs_law32_SelectionProves) (A := .leaf) (T0 := K0_law32_SelectionProves_L2) (T := TM_law32_SelectionProves_L2) (U := UO_law32_SelectionProves_L2) (step := (fun k v => law32_SelectionProves_L2 k.1 k.2.1 k.2.2.1 v)) ((cxo_law32_SelectionProves).fr [1, 2, 6, 8, 34]) follows (by kernel_rfl) (by kernel_rfl) (CutsOk.leaf _) (by intro k v; kernel_rfl)
theorem ct_law32_SelectionProves_L3 : CodeSound Try.prog (cx_law32_SelectionProves) (subL (subR (subL (subR (subR (subR (subR (subR (subR (subR (bodyOf Try.f4))))))))))) (B_law32_SelectionProves_L3).D :=
  loop_printed (G := gs_law32_SelectionProves) (A := .leaf) (T0 := K0_law32_SelectionProves_L3) (T := TM_law32_SelectionProves_L3) (U := UO_law32_SelectionProves_L3) (step := (fun k v => law32_SelectionProves_L3 k.1 k.2.1 k.2.2.1 v)) (cxo_law32_SelectionProves) follows (by kernel_rfl) (by kernel_rfl) (CutsOk.leaf _) (by intro k v; kernel_rfl)
theorem ct_law32_SelectionProves_L1 : CodeSound Try.prog (cx_law32_SelectionProves) (subL (subR (subL (subR (subR (subR (subR (subR (bodyOf Try.f4))))))))) (B_law32_SelectionProves_L1).D :=
  loop_printed (G := gs_law32_SelectionProves) (A := (.two .leaf (.two .leaf (.two (.two (.two .leaf (.two .leaf (.two (.cut 2) .leaf))) .leaf) .leaf)))) (T0 := K0_law32_SelectionProves_L1) (T := TM_law32_SelectionProves_L1) (U := UO_law32_SelectionProves_L1) (step := (fun k v => law32_SelectionProves_L1 k.1 k.2.1 v)) (cxo_law32_SelectionProves) follows (by kernel_rfl) (by kernel_rfl) (CutsOk.two (CutsOk.leaf _) (CutsOk.two (CutsOk.leaf _) (CutsOk.two (CutsOk.two (CutsOk.two (CutsOk.leaf _) (CutsOk.two (CutsOk.leaf _) (CutsOk.two (CutsOk.cut (g := B_law32_SelectionProves_L2) (by kernel_rfl) (ct_law32_SelectionProves_L2)) (CutsOk.leaf _)))) (CutsOk.leaf _)) (CutsOk.leaf _)))) (by intro k v; kernel_rfl)
theorem sd_law32_SelectionProves : FnSound Try.prog gl 4 sg_law32_SelectionProves :=
  fn_printed (G := gs_law32_SelectionProves) (A := (.two .leaf (.two .leaf (.two .leaf (.two .leaf (.two .leaf (.two (.two .leaf (.two (.cut 1) .leaf)) (.two (.frz [7] []) (.two (.two .leaf (.two (.cut 3) .leaf)) .leaf))))))))) (cxo_law32_SelectionProves) follows Try.func4 (by kernel_rfl) (by kernel_rfl) (by kernel_rfl) (by kernel_rfl) (by kernel_rfl) (CutsOk.two (CutsOk.leaf _) (CutsOk.two (CutsOk.leaf _) (CutsOk.two (CutsOk.leaf _) (CutsOk.two (CutsOk.leaf _) (CutsOk.two (CutsOk.leaf _) (CutsOk.two (CutsOk.two (CutsOk.leaf _) (CutsOk.two (CutsOk.cut (g := B_law32_SelectionProves_L1) (by kernel_rfl) (ct_law32_SelectionProves_L1)) (CutsOk.leaf _))) (CutsOk.two (CutsOk.frz _ _ _) (CutsOk.two (CutsOk.two (CutsOk.leaf _) (CutsOk.two (CutsOk.cut (g := B_law32_SelectionProves_L3) (by kernel_rfl) (ct_law32_SelectionProves_L3)) (CutsOk.leaf _))) (CutsOk.leaf _))))))))) (by intro v; kernel_rfl)
def sg_law32_SelectionLargest : Sig := mkSig [(.hole (.slice (.int .i64))), (.hole (.slice (.int .i64))), (.hole (.int .i64))] [] [(.hole .bool)] [] (fun p => law32_SelectionLargest p.1.1 p.1.2.1 p.1.2.2.1)
theorem fk_law32_SelectionLargest : FnOk Try.prog 5 := ⟨Try.f5, Try.func5, by kernel_rfl, by kernel_rfl⟩
def cx_law32_SelectionLargest : Cx := ⟨tys, lk [(8 + 100000 * 0, sg_law32_made), (7 + 100000 * 0, sg_law32_sane), (16 + 100000 * 0, sg_ref32_Largest), (11 + 100000 * 0, sg_ref32_Same), (15 + 100000 * 0, sg_selection_Largest)], 69, 0, [], gl, []⟩
theorem cxo_law32_SelectionLargest : CxOk Try.prog (cx_law32_SelectionLargest) := ⟨tys_ok, FnsAll.cons 0 rfl fk_law32_made sd_law32_made (FnsAll.cons 0 rfl fk_law32_sane sd_law32_sane (FnsAll.cons 0 rfl fk_ref32_Largest sd_ref32_Largest (FnsAll.cons 0 rfl fk_ref32_Same sd_ref32_Same (FnsAll.cons 0 rfl fk_selection_Largest sd_selection_Largest (FnsAll.nil)))))⟩
def gs_law32_SelectionLargest : Nat → Option Blk := lk []
theorem sd_law32_SelectionLargest : FnSound Try.prog gl 5 sg_law32_SelectionLargest :=
  fn_printed (G := gs_law32_SelectionLargest) (A := .leaf) (cxo_law32_SelectionLargest) follows Try.func5 (by kernel_rfl) (by kernel_rfl) (by kernel_rfl) (by kernel_rfl) (by kernel_rfl) (CutsOk.leaf _) (by intro v; kernel_rfl)
def sg_law32_SelectionOptimal : Sig := mkSig [(.hole (.slice (.int .i64)))] [] [(.hole .bool)] [] (fun p => law32_SelectionOptimal p.1.1)
theorem fk_law32_SelectionOptimal : FnOk Try.prog 6 := ⟨Try.f6, Try.func6, by kernel_rfl, by kernel_rfl⟩
def cx_law32_SelectionOptimal : Cx := ⟨tys, lk [(14 + 100000 * 0, sg_law32_least), (8 + 100000 * 0, sg_law32_made), (7 + 100000 * 0, sg_law32_sane), (9 + 100000 * 0, sg_selection_Best), (13 + 100000 * 0, sg_selection_Check), (15 + 100000 * 0, sg_selection_Largest)], 105, 0, [], gl, []⟩
theorem cxo_law32_SelectionOptimal : CxOk Try.prog (cx_law32_SelectionOptimal) := ⟨tys_ok, FnsAll.cons 0 rfl fk_law32_least sd_law32_least (FnsAll.cons 0 rfl fk_law32_made sd_law32_made (FnsAll.cons 0 rfl fk_law32_sane sd_law32_sane (FnsAll.cons 0 rfl fk_selection_Best sd_selection_Best (FnsAll.cons 0 rfl fk_selection_Check sd_selection_Check (FnsAll.cons 0 rfl fk_selection_Largest sd_selection_Largest (FnsAll.nil))))))⟩
abbrev K0_law32_SelectionOptimal_J1 : List (Nat × Ty) := [(4, (.int .i64)), (7, (.int .i64)), (9, (.int .i64)), (10, (.int .i64))]
abbrev TM_law32_SelectionOptimal_J1 : Tm := ⟨[(3, (.own 0)), (5, (.ptr 1 [])), (6, (.own 2)), (8, (.ptr 3 []))], [(.vec (.int .i64)), (.box T_3393 (.ncons (.own 4) (.hole (.cons (.int .i64) .nil)))), (.vec (.int .u8)), (.box T_3393 (.ncons (.own 5) (.hole (.cons (.int .i64) .nil)))), (.vec (.int .i64)), (.vec (.int .i64))]⟩
abbrev UO_law32_SelectionOptimal_J1 : Outs := (.one .normal ⟨[(3, (.own 0)), (8, (.ptr 1 [])), (76, (.hole .bool))], [(.vec (.int .i64)), (.box T_3393 (.ncons (.own 2) (.hole (.cons (.int .i64) .nil)))), (.vec (.int .i64))]⟩)
def B_law32_SelectionOptimal_J1 : Blk := frBlk 0 [2, 4, 7, 9, 10] K0_law32_SelectionOptimal_J1 TM_law32_SelectionOptimal_J1 UO_law32_SelectionOptimal_J1 (fun k v => law32_SelectionOptimal_J1 k.1 k.2.1 k.2.2.1 k.2.2.2.1 v)
abbrev K0_law32_SelectionOptimal_L2 : List (Nat × Ty) := [(79, (.int .i64))]
abbrev TM_law32_SelectionOptimal_L2 : Tm := ⟨[(3, (.own 0)), (8, (.ptr 1 [])), (11, (.hole (.int .i64))), (78, (.own 2)), (80, (.hole (.int .i64)))], [(.vec (.int .i64)), (.box T_3393 (.ncons (.own 2) (.hole (.cons (.int .i64) .nil)))), (.vec (.int .i64))]⟩
abbrev UO_law32_SelectionOptimal_L2 : Outs := (.more .ret ⟨[(2, (.hole .bool))], []⟩ (.one (.exit 0) ⟨[(8, (.ptr 0 [])), (11, (.hole (.int .i64)))], [(.box T_3393 (.ncons (.own 1) (.hole (.cons (.int .i64) .nil)))), (.vec (.int .i64))]⟩))
def B_law32_SelectionOptimal_L2 : Blk := frBlk 0 [4, 79] K0_law32_SelectionOptimal_L2 TM_law32_SelectionOptimal_L2 UO_law32_SelectionOptimal_L2 (fun k => loopV (fun v => law32_SelectionOptimal_L2 k.1 v))
def gs_law32_SelectionOptimal : Nat → Option Blk := lk [(1, B_law32_SelectionOptimal_J1), (2, B_law32_SelectionOptimal_L2)]
theorem ct_law32_SelectionOptimal_L2 : CodeSound Try.prog (cx_law32_SelectionOptimal) (subL (subR (subL (subR (subR (subR (subR (subR (subR (subR (subR (subR (bodyOf Try.f6))))))))))))) (B_law32_SelectionOptimal_L2).D :=
  loop_printed (G := gs_law32_SelectionOptimal) (A := .leaf) (T0 := K0_law32_SelectionOptimal_L2) (T := TM_law32_SelectionOptimal_L2) (U := UO_law32_SelectionOptimal_L2) (step := (fun k v => law32_SelectionOptimal_L2 k.1 v)) (cxo_law32_SelectionOptimal) follows (by kernel_rfl) (by kernel_rfl) (CutsOk.leaf _) (by intro k v; kernel_rfl)
theorem ct_law32_SelectionOptimal_J1 : CodeSound Try.prog (cx_law32_SelectionOptimal) (subL (subL (subR (subR (subR (subR (subR (subR (subR (bodyOf Try.f6)))))))))) (B_law32_SelectionOptimal_J1).D :=
  join_sound (G := gs_law32_SelectionOptimal) (A := .leaf) (T0 := K0_law32_SelectionOptimal_J1) (T := TM_law32_SelectionOptimal_J1) (U := UO_law32_SelectionOptimal_J1) (F := (fun k v => law32_SelectionOptimal_J1 k.1 k.2.1 k.2.2.1 k.2.2.2.1 v)) (cxo_law32_SelectionOptimal) follows (by kernel_rfl) (CutsOk.leaf _) (by intro k v; kernel_rfl)
theorem sd_law32_SelectionOptimal : FnSound Try.prog gl 6 sg_law32_SelectionOptimal :=
  fn_printed (G := gs_law32_SelectionOptimal) (A := (.two .leaf (.two .leaf (.two .leaf (.two .leaf (.two .leaf (.two .leaf (.two .leaf (.two (.two (.cut 1) .leaf) (.two .leaf (.two (.two .leaf (.two (.cut 2) .leaf)) .leaf))))))))))) (cxo_law32_SelectionOptimal) follows Try.func6 (by kernel_rfl) (by kernel_rfl) (by kernel_rfl) (by kernel_rfl) (by kernel_rfl) (CutsOk.two (CutsOk.leaf _) (CutsOk.two (CutsOk.leaf _) (CutsOk.two (CutsOk.leaf _) (CutsOk.two (CutsOk.leaf _) (CutsOk.two (CutsOk.leaf _) (CutsOk.two (CutsOk.leaf _) (CutsOk.two (CutsOk.leaf _) (CutsOk.two (CutsOk.two (CutsOk.cut (g := B_law32_SelectionOptimal_J1) (by kernel_rfl) (ct_law32_SelectionOptimal_J1)) (CutsOk.leaf _)) (CutsOk.two (CutsOk.leaf _) (CutsOk.two (CutsOk.two (CutsOk.leaf _) (CutsOk.two (CutsOk.cut (g := B_law32_SelectionOptimal_L2) (by kernel_rfl) (ct_law32_SelectionOptimal_L2)) (CutsOk.leaf _))) (CutsOk.leaf _))))))))))) (by intro v; kernel_rfl)
end Go.PE.Ytaeaeaiebbakbaa
end
end
