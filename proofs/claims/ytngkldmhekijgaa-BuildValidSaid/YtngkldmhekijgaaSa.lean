/- The functions of the program do what their printed texts say; no condition. -/
import Derived.Test.YtngkldmhekijgaaProg
import Derived.Test.YtngkldmhekijgaaQc
import Derived.Test.YtngkldmhekijgaaPa
import Derived.KernelRfl
section
set_option maxRecDepth 100000
noncomputable section
namespace Go.PE.Ytngkldmhekijgaa
open Go.PE Go.Proofs
def gl : Gl := fun _ => none
def tys : Nat → Option Ty := lk [(2, (.int .i64)), (3, (.int .i64)), (4, .bool), (5, (.int .u8)), (9, .str), (22, (.slice (.int .i64))), (24, .ptr), (26, (.int .u32)), (27, (.slice T_089d)), (28, (.slice T_b101)), (30, T_8f0a), (31, (.slice T_6b85)), (33, T_0798), (35, (.slice (.int .u8))), (37, (.slice (.slice (.int .u8)))), (40, (.arr 32 (.int .u8))), (42, T_b85e), (44, T_089d), (46, T_b101), (48, T_6b85), (52, (.slice T_c1fb)), (56, (.int .i64)), (60, T_c1fb), (69, T_3393), (71, (.slice (.int .u32))), (75, .fn), (81, .fn), (86, .fn), (92, (.map T_b85e .bool)), (96, .fn), (98, .fn), (100, (.slice (.int .i64))), (102, T_3393), (108, .fn), (113, T_a496), (119, (.int .u64)), (126, .ptr), (131, (.int .u16))]
theorem follows : Try.prog.follows .mixedOrders = true := by kernel_rfl
theorem ty_2 : fitTy Try.prog (.int .i64) (.id 2) = true := by kernel_rfl
theorem ty_3 : fitTy Try.prog (.int .i64) (.id 3) = true := by kernel_rfl
theorem ty_4 : fitTy Try.prog .bool (.id 4) = true := by kernel_rfl
theorem ty_5 : fitTy Try.prog (.int .u8) (.id 5) = true := by kernel_rfl
theorem ty_9 : fitTy Try.prog .str (.id 9) = true := by kernel_rfl
theorem ty_22 : fitTy Try.prog (.slice (.int .i64)) (.id 22) = true := by kernel_rfl
theorem ty_24 : fitTy Try.prog .ptr (.id 24) = true := by kernel_rfl
theorem ty_26 : fitTy Try.prog (.int .u32) (.id 26) = true := by kernel_rfl
theorem ty_27 : fitTy Try.prog (.slice T_089d) (.id 27) = true := by kernel_rfl
theorem ty_28 : fitTy Try.prog (.slice T_b101) (.id 28) = true := by kernel_rfl
theorem ty_30 : fitTy Try.prog T_8f0a (.id 30) = true := by kernel_rfl
theorem ty_31 : fitTy Try.prog (.slice T_6b85) (.id 31) = true := by kernel_rfl
theorem ty_33 : fitTy Try.prog T_0798 (.id 33) = true := by kernel_rfl
theorem ty_35 : fitTy Try.prog (.slice (.int .u8)) (.id 35) = true := by kernel_rfl
theorem ty_37 : fitTy Try.prog (.slice (.slice (.int .u8))) (.id 37) = true := by kernel_rfl
theorem ty_40 : fitTy Try.prog (.arr 32 (.int .u8)) (.id 40) = true := by kernel_rfl
theorem ty_42 : fitTy Try.prog T_b85e (.id 42) = true := by kernel_rfl
theorem ty_44 : fitTy Try.prog T_089d (.id 44) = true := by kernel_rfl
theorem ty_46 : fitTy Try.prog T_b101 (.id 46) = true := by kernel_rfl
theorem ty_48 : fitTy Try.prog T_6b85 (.id 48) = true := by kernel_rfl
theorem ty_52 : fitTy Try.prog (.slice T_c1fb) (.id 52) = true := by kernel_rfl
theorem ty_56 : fitTy Try.prog (.int .i64) (.id 56) = true := by kernel_rfl
theorem ty_60 : fitTy Try.prog T_c1fb (.id 60) = true := by kernel_rfl
theorem ty_69 : fitTy Try.prog T_3393 (.id 69) = true := by kernel_rfl
theorem ty_71 : fitTy Try.prog (.slice (.int .u32)) (.id 71) = true := by kernel_rfl
theorem ty_75 : fitTy Try.prog .fn (.id 75) = true := by kernel_rfl
theorem ty_81 : fitTy Try.prog .fn (.id 81) = true := by kernel_rfl
theorem ty_86 : fitTy Try.prog .fn (.id 86) = true := by kernel_rfl
theorem ty_92 : fitTy Try.prog (.map T_b85e .bool) (.id 92) = true := by kernel_rfl
theorem ty_96 : fitTy Try.prog .fn (.id 96) = true := by kernel_rfl
theorem ty_98 : fitTy Try.prog .fn (.id 98) = true := by kernel_rfl
theorem ty_100 : fitTy Try.prog (.slice (.int .i64)) (.id 100) = true := by kernel_rfl
theorem ty_102 : fitTy Try.prog T_3393 (.id 102) = true := by kernel_rfl
theorem ty_108 : fitTy Try.prog .fn (.id 108) = true := by kernel_rfl
theorem ty_113 : fitTy Try.prog T_a496 (.id 113) = true := by kernel_rfl
theorem ty_119 : fitTy Try.prog (.int .u64) (.id 119) = true := by kernel_rfl
theorem ty_126 : fitTy Try.prog .ptr (.id 126) = true := by kernel_rfl
theorem ty_131 : fitTy Try.prog (.int .u16) (.id 131) = true := by kernel_rfl
theorem dep : Nat.ble 62 Try.prog.depth = true := by kernel_rfl
theorem tys_ok : TyOk Try.prog tys := TyOk.lk_cons ty_2 (TyOk.lk_cons ty_3 (TyOk.lk_cons ty_4 (TyOk.lk_cons ty_5 (TyOk.lk_cons ty_9 (TyOk.lk_cons ty_22 (TyOk.lk_cons ty_24 (TyOk.lk_cons ty_26 (TyOk.lk_cons ty_27 (TyOk.lk_cons ty_28 (TyOk.lk_cons ty_30 (TyOk.lk_cons ty_31 (TyOk.lk_cons ty_33 (TyOk.lk_cons ty_35 (TyOk.lk_cons ty_37 (TyOk.lk_cons ty_40 (TyOk.lk_cons ty_42 (TyOk.lk_cons ty_44 (TyOk.lk_cons ty_46 (TyOk.lk_cons ty_48 (TyOk.lk_cons ty_52 (TyOk.lk_cons ty_56 (TyOk.lk_cons ty_60 (TyOk.lk_cons ty_69 (TyOk.lk_cons ty_71 (TyOk.lk_cons ty_75 (TyOk.lk_cons ty_81 (TyOk.lk_cons ty_86 (TyOk.lk_cons ty_92 (TyOk.lk_cons ty_96 (TyOk.lk_cons ty_98 (TyOk.lk_cons ty_100 (TyOk.lk_cons ty_102 (TyOk.lk_cons ty_108 (TyOk.lk_cons ty_113 (TyOk.lk_cons ty_119 (TyOk.lk_cons ty_126 (TyOk.lk_cons ty_131 (TyOk.lk_nil (Nat.le_of_ble_eq_true dep)))))))))))))))))))))))))))))))))))))))
end Go.PE.Ytngkldmhekijgaa
end
end

section
set_option maxRecDepth 100000
set_option linter.unusedVariables false
noncomputable section
namespace Go.PE.Ytngkldmhekijgaa
open Go.PE Go.Proofs

theorem fk_slices_Clone_byte_byte_a : FnOk Try.prog 39 := ⟨Try.f39, Try.func39, by kernel_rfl, by kernel_rfl⟩
def cx_slices_Clone_byte_byte_a : Cx := ⟨tys, lk [], 8, 0, [], gl, []⟩
def sg_slices_Clone_byte_byte_a : Sig := cloneSig (.int .u8)
theorem bd_slices_Clone_byte_byte_a : Try.f39.body = some (bodyOf Try.f39) := by kernel_rfl
theorem sd_slices_Clone_byte_byte_a : FnSound Try.prog gl 39 sg_slices_Clone_byte_byte_a :=
  clone_sound (C := cx_slices_Clone_byte_byte_a) (T := (.int .u8)) (st := 35) (st2 := 35) (b := (bodyOf Try.f39)) (c1 := (subL (bodyOf Try.f39))) (c2 := (subL (subL (subR (bodyOf Try.f39))))) (X := (subL (subR (subL (subR (bodyOf Try.f39)))))) (R := (subR (subR (bodyOf Try.f39)))) ⟨tys_ok, FnsAll.nil⟩ follows rfl rfl Try.func39 bd_slices_Clone_byte_byte_a (by kernel_rfl) (by kernel_rfl) (by kernel_rfl) (by kernel_rfl) (by kernel_rfl) (by kernel_rfl) (by kernel_rfl) (by kernel_rfl) (by kernel_rfl) (by kernel_rfl) (by kernel_rfl) ty_35 (by intro xs; kernel_rfl) (by kernel_rfl) (by intro xs; kernel_rfl)
theorem fk_slices_Clone_int_int : FnOk Try.prog 81 := ⟨Try.f81, Try.func81, by kernel_rfl, by kernel_rfl⟩
def cx_slices_Clone_int_int : Cx := ⟨tys, lk [], 8, 0, [], gl, []⟩
def sg_slices_Clone_int_int : Sig := cloneSig (.int .i64)
theorem bd_slices_Clone_int_int : Try.f81.body = some (bodyOf Try.f81) := by kernel_rfl
theorem sd_slices_Clone_int_int : FnSound Try.prog gl 81 sg_slices_Clone_int_int :=
  clone_sound (C := cx_slices_Clone_int_int) (T := (.int .i64)) (st := 22) (st2 := 22) (b := (bodyOf Try.f81)) (c1 := (subL (bodyOf Try.f81))) (c2 := (subL (subL (subR (bodyOf Try.f81))))) (X := (subL (subR (subL (subR (bodyOf Try.f81)))))) (R := (subR (subR (bodyOf Try.f81)))) ⟨tys_ok, FnsAll.nil⟩ follows rfl rfl Try.func81 bd_slices_Clone_int_int (by kernel_rfl) (by kernel_rfl) (by kernel_rfl) (by kernel_rfl) (by kernel_rfl) (by kernel_rfl) (by kernel_rfl) (by kernel_rfl) (by kernel_rfl) (by kernel_rfl) (by kernel_rfl) ty_22 (by intro xs; kernel_rfl) (by kernel_rfl) (by intro xs; kernel_rfl)
theorem fk_slices_Clone_byte_byte : FnOk Try.prog 87 := ⟨Try.f87, Try.func87, by kernel_rfl, by kernel_rfl⟩
def cx_slices_Clone_byte_byte : Cx := ⟨tys, lk [], 8, 0, [], gl, []⟩
def sg_slices_Clone_byte_byte : Sig := cloneSig (.slice (.int .u8))
theorem bd_slices_Clone_byte_byte : Try.f87.body = some (bodyOf Try.f87) := by kernel_rfl
theorem sd_slices_Clone_byte_byte : FnSound Try.prog gl 87 sg_slices_Clone_byte_byte :=
  clone_sound (C := cx_slices_Clone_byte_byte) (T := (.slice (.int .u8))) (st := 37) (st2 := 37) (b := (bodyOf Try.f87)) (c1 := (subL (bodyOf Try.f87))) (c2 := (subL (subL (subR (bodyOf Try.f87))))) (X := (subL (subR (subL (subR (bodyOf Try.f87)))))) (R := (subR (subR (bodyOf Try.f87)))) ⟨tys_ok, FnsAll.nil⟩ follows rfl rfl Try.func87 bd_slices_Clone_byte_byte (by kernel_rfl) (by kernel_rfl) (by kernel_rfl) (by kernel_rfl) (by kernel_rfl) (by kernel_rfl) (by kernel_rfl) (by kernel_rfl) (by kernel_rfl) (by kernel_rfl) (by kernel_rfl) ty_37 (by intro xs; kernel_rfl) (by kernel_rfl) (by intro xs; kernel_rfl)
end Go.PE.Ytngkldmhekijgaa
end
end

section
set_option maxRecDepth 100000
set_option linter.unusedVariables false
noncomputable section
namespace Go.PE.Ytngkldmhekijgaa
open Go.PE Go.Proofs

def sg_selection_proper : Sig := mkSig [(.hole (.slice (.int .i64))), (.hole (.int .i64))] [] [(.hole .bool)] [] (fun p => selection_proper p.1.1 p.1.2.1)
theorem fk_selection_proper : FnOk Try.prog 80 := ⟨Try.f80, Try.func80, by kernel_rfl, by kernel_rfl⟩
def cx_selection_proper : Cx := ⟨tys, lk [], 26, 0, [], gl, []⟩
theorem cxo_selection_proper : CxOk Try.prog (cx_selection_proper) := ⟨tys_ok, FnsAll.nil⟩
abbrev K0_selection_proper_L1 : List (Nat × Ty) := [(7, (.slice (.int .i64))), (8, (.int .i64))]
abbrev TM_selection_proper_L1 : Tm := ⟨[(9, (.hole (.int .i64)))], []⟩
abbrev UO_selection_proper_L1 : Outs := (.more .ret ⟨[(4, (.hole .bool))], []⟩ (.one (.exit 0) ⟨[], []⟩))
def B_selection_proper_L1 : Blk := frBlk 0 [1, 7, 8] K0_selection_proper_L1 TM_selection_proper_L1 UO_selection_proper_L1 (fun k => loopV (fun v => selection_proper_L1 k.1 k.2.1 v))
def gs_selection_proper : Nat → Option Blk := lk [(1, B_selection_proper_L1)]
theorem ct_selection_proper_L1 : CodeSound Try.prog (cx_selection_proper) (subL (subR (subL (subR (bodyOf Try.f80))))) (B_selection_proper_L1).D :=
  loop_printed (G := gs_selection_proper) (A := .leaf) (T0 := K0_selection_proper_L1) (T := TM_selection_proper_L1) (U := UO_selection_proper_L1) (step := (fun k v => selection_proper_L1 k.1 k.2.1 v)) (cxo_selection_proper) follows (by kernel_rfl) (by kernel_rfl) (CutsOk.leaf _) (by intro k v; kernel_rfl)
theorem sd_selection_proper : FnSound Try.prog gl 80 sg_selection_proper :=
  fn_printed (G := gs_selection_proper) (A := (.two .leaf (.two (.two .leaf (.two (.cut 1) .leaf)) .leaf))) (cxo_selection_proper) follows Try.func80 (by kernel_rfl) (by kernel_rfl) (by kernel_rfl) (by kernel_rfl) (by kernel_rfl) (CutsOk.two (CutsOk.leaf _) (CutsOk.two (CutsOk.two (CutsOk.leaf _) (CutsOk.two (CutsOk.cut (g := B_selection_proper_L1) (by kernel_rfl) (ct_selection_proper_L1)) (CutsOk.leaf _))) (CutsOk.leaf _))) (by intro v; kernel_rfl)
def sg_selection_total : Sig := mkSig [(.hole (.slice (.int .i64)))] [] [(.hole (.int .i64))] [] (fun p => selection_total p.1.1)
theorem fk_selection_total : FnOk Try.prog 66 := ⟨Try.f66, Try.func66, by kernel_rfl, by kernel_rfl⟩
def cx_selection_total : Cx := ⟨tys, lk [], 17, 0, [], gl, []⟩
theorem cxo_selection_total : CxOk Try.prog (cx_selection_total) := ⟨tys_ok, FnsAll.nil⟩
abbrev K0_selection_total_L1 : List (Nat × Ty) := [(6, (.slice (.int .i64))), (7, (.int .i64))]
abbrev TM_selection_total_L1 : Tm := ⟨[(3, (.hole (.int .i64))), (8, (.hole (.int .i64)))], []⟩
abbrev UO_selection_total_L1 : Outs := (.one (.exit 0) ⟨[(3, (.hole (.int .i64)))], []⟩)
def B_selection_total_L1 : Blk := frBlk 0 [2, 6, 7] K0_selection_total_L1 TM_selection_total_L1 UO_selection_total_L1 (fun k => loopV (fun v => selection_total_L1 k.1 k.2.1 v))
def gs_selection_total : Nat → Option Blk := lk [(1, B_selection_total_L1)]
theorem ct_selection_total_L1 : CodeSound Try.prog (cx_selection_total) (subL (subR (subL (subR (subR (bodyOf Try.f66)))))) (B_selection_total_L1).D :=
  loop_printed (G := gs_selection_total) (A := .leaf) (T0 := K0_selection_total_L1) (T := TM_selection_total_L1) (U := UO_selection_total_L1) (step := (fun k v => selection_total_L1 k.1 k.2.1 v)) (cxo_selection_total) follows (by kernel_rfl) (by kernel_rfl) (CutsOk.leaf _) (by intro k v; kernel_rfl)
theorem sd_selection_total : FnSound Try.prog gl 66 sg_selection_total :=
  fn_printed (G := gs_selection_total) (A := (.two .leaf (.two .leaf (.two (.two .leaf (.two (.cut 1) .leaf)) .leaf)))) (cxo_selection_total) follows Try.func66 (by kernel_rfl) (by kernel_rfl) (by kernel_rfl) (by kernel_rfl) (by kernel_rfl) (CutsOk.two (CutsOk.leaf _) (CutsOk.two (CutsOk.leaf _) (CutsOk.two (CutsOk.two (CutsOk.leaf _) (CutsOk.two (CutsOk.cut (g := B_selection_total_L1) (by kernel_rfl) (ct_selection_total_L1)) (CutsOk.leaf _))) (CutsOk.leaf _)))) (by intro v; kernel_rfl)
def sg_selection_fault : Sig := mkSig [(.hole (.slice (.int .i64))), (.hole (.int .i64))] [] [(.hole (.int .i64))] [] (fun p => selection_fault p.1.1 p.1.2.1)
theorem fk_selection_fault : FnOk Try.prog 64 := ⟨Try.f64, Try.func64, by kernel_rfl, by kernel_rfl⟩
def cx_selection_fault : Cx := ⟨tys, lk [(80 + 100000 * 0, sg_selection_proper), (66 + 100000 * 0, sg_selection_total)], 19, 0, [], gl, []⟩
theorem cxo_selection_fault : CxOk Try.prog (cx_selection_fault) := ⟨tys_ok, FnsAll.cons 0 rfl fk_selection_proper sd_selection_proper (FnsAll.cons 0 rfl fk_selection_total sd_selection_total (FnsAll.nil))⟩
def gs_selection_fault : Nat → Option Blk := lk []
theorem sd_selection_fault : FnSound Try.prog gl 64 sg_selection_fault :=
  fn_printed (G := gs_selection_fault) (A := .leaf) (cxo_selection_fault) follows Try.func64 (by kernel_rfl) (by kernel_rfl) (by kernel_rfl) (by kernel_rfl) (by kernel_rfl) (CutsOk.leaf _) (by intro v; kernel_rfl)
def sg_selection_search_look : Sig := mkSig [(.ptr 0 []), (.hole (.int .i64)), (.hole (.int .i64)), (.hole (.int .i64))] [(.box T_a496 (.ncons (.hole (.slice (.int .i64))) (.ncons (.hole (.int .i64)) (.ncons (.own 1) (.ncons (.ncons (.own 2) (.hole (.cons (.int .i64) .nil))) (.hole (.cons .bool .nil))))))), (.vec (.int .i64)), (.vec (.int .i64))] [] [(.box T_a496 (.ncons (.hole (.slice (.int .i64))) (.ncons (.hole (.int .i64)) (.ncons (.own 3) (.ncons (.ncons (.own 4) (.hole (.cons (.int .i64) .nil))) (.hole (.cons .bool .nil))))))), .dead, .dead, (.vec (.int .i64)), (.vec (.int .i64))] (fixN selection_search_look_R fuel)
theorem fk_selection_search_look : FnOk Try.prog 65 := ⟨Try.f65, Try.func65, by kernel_rfl, by kernel_rfl⟩
def cx_selection_search_look (self : ((Unit × Int × Int × Int × Unit) × ((List Int) × Int × Unit × (Unit × Int × Unit) × Bool × Unit) × (List Int) × (List Int) × Unit) → Option ((Unit) × ((List Int) × Int × Unit × (Unit × Int × Unit) × Bool × Unit) × Unit × Unit × (List Int) × (List Int) × Unit)) : Cx := ⟨tys, lk [(81 + 100000 * 0, sg_slices_Clone_int_int), (65 + 100000 * 0, mkSig [(.ptr 0 []), (.hole (.int .i64)), (.hole (.int .i64)), (.hole (.int .i64))] [(.box T_a496 (.ncons (.hole (.slice (.int .i64))) (.ncons (.hole (.int .i64)) (.ncons (.own 1) (.ncons (.ncons (.own 2) (.hole (.cons (.int .i64) .nil))) (.hole (.cons .bool .nil))))))), (.vec (.int .i64)), (.vec (.int .i64))] [] [(.box T_a496 (.ncons (.hole (.slice (.int .i64))) (.ncons (.hole (.int .i64)) (.ncons (.own 3) (.ncons (.ncons (.own 4) (.hole (.cons (.int .i64) .nil))) (.hole (.cons .bool .nil))))))), .dead, .dead, (.vec (.int .i64)), (.vec (.int .i64))] self)], 99, 3, [], gl, []⟩
theorem cxo_selection_search_look (self : ((Unit × Int × Int × Int × Unit) × ((List Int) × Int × Unit × (Unit × Int × Unit) × Bool × Unit) × (List Int) × (List Int) × Unit) → Option ((Unit) × ((List Int) × Int × Unit × (Unit × Int × Unit) × Bool × Unit) × Unit × Unit × (List Int) × (List Int) × Unit)) (hself : FnSound Try.prog gl 65 (mkSig [(.ptr 0 []), (.hole (.int .i64)), (.hole (.int .i64)), (.hole (.int .i64))] [(.box T_a496 (.ncons (.hole (.slice (.int .i64))) (.ncons (.hole (.int .i64)) (.ncons (.own 1) (.ncons (.ncons (.own 2) (.hole (.cons (.int .i64) .nil))) (.hole (.cons .bool .nil))))))), (.vec (.int .i64)), (.vec (.int .i64))] [] [(.box T_a496 (.ncons (.hole (.slice (.int .i64))) (.ncons (.hole (.int .i64)) (.ncons (.own 3) (.ncons (.ncons (.own 4) (.hole (.cons (.int .i64) .nil))) (.hole (.cons .bool .nil))))))), .dead, .dead, (.vec (.int .i64)), (.vec (.int .i64))] self)) : CxOk Try.prog (cx_selection_search_look self) := ⟨tys_ok, FnsAll.cons 0 rfl fk_slices_Clone_int_int sd_slices_Clone_int_int (FnsAll.cons 0 rfl fk_selection_search_look hself (FnsAll.nil))⟩
abbrev K0_selection_search_look_J1 : List (Nat × Ty) := [(2, (.int .i64))]
abbrev TM_selection_search_look_J1 : Tm := ⟨[(0, (.ptr 0 []))], [(.box T_a496 (.ncons (.hole (.slice (.int .i64))) (.ncons (.hole (.int .i64)) (.ncons (.own 1) (.ncons (.ncons (.own 2) (.hole (.cons (.int .i64) .nil))) (.hole (.cons .bool .nil))))))), (.vec (.int .i64)), (.vec (.int .i64))]⟩
abbrev UO_selection_search_look_J1 : Outs := (.one .normal ⟨[(0, (.ptr 0 [])), (28, (.hole .bool))], [(.box T_a496 (.ncons (.hole (.slice (.int .i64))) (.ncons (.hole (.int .i64)) (.ncons (.own 1) (.ncons (.ncons (.own 2) (.hole (.cons (.int .i64) .nil))) (.hole (.cons .bool .nil))))))), (.vec (.int .i64)), (.vec (.int .i64))]⟩)
def B_selection_search_look_J1 (self : ((Unit × Int × Int × Int × Unit) × ((List Int) × Int × Unit × (Unit × Int × Unit) × Bool × Unit) × (List Int) × (List Int) × Unit) → Option ((Unit) × ((List Int) × Int × Unit × (Unit × Int × Unit) × Bool × Unit) × Unit × Unit × (List Int) × (List Int) × Unit)) : Blk := frBlk 3 [2] K0_selection_search_look_J1 TM_selection_search_look_J1 UO_selection_search_look_J1 (fun k v => selection_search_look_J1 self k.1 v)
def gs_selection_search_look (self : ((Unit × Int × Int × Int × Unit) × ((List Int) × Int × Unit × (Unit × Int × Unit) × Bool × Unit) × (List Int) × (List Int) × Unit) → Option ((Unit) × ((List Int) × Int × Unit × (Unit × Int × Unit) × Bool × Unit) × Unit × Unit × (List Int) × (List Int) × Unit)) : Nat → Option Blk := lk [(1, B_selection_search_look_J1 self)]
theorem ct_selection_search_look_J1 (self : ((Unit × Int × Int × Int × Unit) × ((List Int) × Int × Unit × (Unit × Int × Unit) × Bool × Unit) × (List Int) × (List Int) × Unit) → Option ((Unit) × ((List Int) × Int × Unit × (Unit × Int × Unit) × Bool × Unit) × Unit × Unit × (List Int) × (List Int) × Unit)) (hself : FnSound Try.prog gl 65 (mkSig [(.ptr 0 []), (.hole (.int .i64)), (.hole (.int .i64)), (.hole (.int .i64))] [(.box T_a496 (.ncons (.hole (.slice (.int .i64))) (.ncons (.hole (.int .i64)) (.ncons (.own 1) (.ncons (.ncons (.own 2) (.hole (.cons (.int .i64) .nil))) (.hole (.cons .bool .nil))))))), (.vec (.int .i64)), (.vec (.int .i64))] [] [(.box T_a496 (.ncons (.hole (.slice (.int .i64))) (.ncons (.hole (.int .i64)) (.ncons (.own 3) (.ncons (.ncons (.own 4) (.hole (.cons (.int .i64) .nil))) (.hole (.cons .bool .nil))))))), .dead, .dead, (.vec (.int .i64)), (.vec (.int .i64))] self)) : CodeSound Try.prog (cx_selection_search_look self) (subL (subL (subL (subR (subL (bodyOf Try.f65)))))) (B_selection_search_look_J1 self).D :=
  join_sound (G := gs_selection_search_look self) (A := .leaf) (T0 := K0_selection_search_look_J1) (T := TM_selection_search_look_J1) (U := UO_selection_search_look_J1) (F := (fun k v => selection_search_look_J1 self k.1 v)) (cxo_selection_search_look self hself) follows (by kernel_rfl) (CutsOk.leaf _) (by intro k v; kernel_rfl)
theorem st_selection_search_look (self : ((Unit × Int × Int × Int × Unit) × ((List Int) × Int × Unit × (Unit × Int × Unit) × Bool × Unit) × (List Int) × (List Int) × Unit) → Option ((Unit) × ((List Int) × Int × Unit × (Unit × Int × Unit) × Bool × Unit) × Unit × Unit × (List Int) × (List Int) × Unit)) (hself : FnSound Try.prog gl 65 (mkSig [(.ptr 0 []), (.hole (.int .i64)), (.hole (.int .i64)), (.hole (.int .i64))] [(.box T_a496 (.ncons (.hole (.slice (.int .i64))) (.ncons (.hole (.int .i64)) (.ncons (.own 1) (.ncons (.ncons (.own 2) (.hole (.cons (.int .i64) .nil))) (.hole (.cons .bool .nil))))))), (.vec (.int .i64)), (.vec (.int .i64))] [] [(.box T_a496 (.ncons (.hole (.slice (.int .i64))) (.ncons (.hole (.int .i64)) (.ncons (.own 3) (.ncons (.ncons (.own 4) (.hole (.cons (.int .i64) .nil))) (.hole (.cons .bool .nil))))))), .dead, .dead, (.vec (.int .i64)), (.vec (.int .i64))] self)) : FnSound Try.prog gl 65 (mkSig [(.ptr 0 []), (.hole (.int .i64)), (.hole (.int .i64)), (.hole (.int .i64))] [(.box T_a496 (.ncons (.hole (.slice (.int .i64))) (.ncons (.hole (.int .i64)) (.ncons (.own 1) (.ncons (.ncons (.own 2) (.hole (.cons (.int .i64) .nil))) (.hole (.cons .bool .nil))))))), (.vec (.int .i64)), (.vec (.int .i64))] [] [(.box T_a496 (.ncons (.hole (.slice (.int .i64))) (.ncons (.hole (.int .i64)) (.ncons (.own 3) (.ncons (.ncons (.own 4) (.hole (.cons (.int .i64) .nil))) (.hole (.cons .bool .nil))))))), .dead, .dead, (.vec (.int .i64)), (.vec (.int .i64))] (selection_search_look_R self)) :=
  fn_printed (G := gs_selection_search_look self) (A := (.two (.two .leaf (.two (.two (.two (.cut 1) .leaf) .leaf) .leaf)) .leaf)) (cxo_selection_search_look self hself) follows Try.func65 (by kernel_rfl) (by kernel_rfl) (by kernel_rfl) (by kernel_rfl) (by kernel_rfl) (CutsOk.two (CutsOk.two (CutsOk.leaf _) (CutsOk.two (CutsOk.two (CutsOk.two (CutsOk.cut (g := B_selection_search_look_J1 self) (by kernel_rfl) (ct_selection_search_look_J1 self hself)) (CutsOk.leaf _)) (CutsOk.leaf _)) (CutsOk.leaf _))) (CutsOk.leaf _)) (by intro v; kernel_rfl)
theorem sd_selection_search_look : FnSound Try.prog gl 65 sg_selection_search_look := fix_sound (ins := [(.ptr 0 []), (.hole (.int .i64)), (.hole (.int .i64)), (.hole (.int .i64))]) (inObs := [(.box T_a496 (.ncons (.hole (.slice (.int .i64))) (.ncons (.hole (.int .i64)) (.ncons (.own 1) (.ncons (.ncons (.own 2) (.hole (.cons (.int .i64) .nil))) (.hole (.cons .bool .nil))))))), (.vec (.int .i64)), (.vec (.int .i64))]) (outs := []) (outObs := [(.box T_a496 (.ncons (.hole (.slice (.int .i64))) (.ncons (.hole (.int .i64)) (.ncons (.own 3) (.ncons (.ncons (.own 4) (.hole (.cons (.int .i64) .nil))) (.hole (.cons .bool .nil))))))), .dead, .dead, (.vec (.int .i64)), (.vec (.int .i64))]) (R := selection_search_look_R) (by kernel_rfl) st_selection_search_look fuel
def sg_selection_certify : Sig := mkSig [(.own 0), (.hole (.slice (.int .i64))), (.hole (.int .i64)), (.hole (.int .i64)), (.hole (.int .i64)), (.hole (.int .i64)), (.hole (.int .i64))] [(.vec (.int .u8))] [(.own 1)] [.dead, (.vec (.int .u8))] (fixN selection_certify_R fuel)
theorem fk_selection_certify : FnOk Try.prog 67 := ⟨Try.f67, Try.func67, by kernel_rfl, by kernel_rfl⟩
def cx_selection_certify (self : ((Unit × (List Int) × Int × Int × Int × Int × Int × Unit) × (List Int) × Unit) → Option ((Unit × Unit) × Unit × (List Int) × Unit)) : Cx := ⟨tys, lk [(67 + 100000 * 0, mkSig [(.own 0), (.hole (.slice (.int .i64))), (.hole (.int .i64)), (.hole (.int .i64)), (.hole (.int .i64)), (.hole (.int .i64)), (.hole (.int .i64))] [(.vec (.int .u8))] [(.own 1)] [.dead, (.vec (.int .u8))] self)], 64, 1, [], gl, []⟩
theorem cxo_selection_certify (self : ((Unit × (List Int) × Int × Int × Int × Int × Int × Unit) × (List Int) × Unit) → Option ((Unit × Unit) × Unit × (List Int) × Unit)) (hself : FnSound Try.prog gl 67 (mkSig [(.own 0), (.hole (.slice (.int .i64))), (.hole (.int .i64)), (.hole (.int .i64)), (.hole (.int .i64)), (.hole (.int .i64)), (.hole (.int .i64))] [(.vec (.int .u8))] [(.own 1)] [.dead, (.vec (.int .u8))] self)) : CxOk Try.prog (cx_selection_certify self) := ⟨tys_ok, FnsAll.cons 0 rfl fk_selection_certify hself (FnsAll.nil)⟩
abbrev K0_selection_certify_J1 : List (Nat × Ty) := [(2, (.int .i64)), (3, (.int .i64)), (5, (.int .i64)), (6, (.int .i64))]
abbrev TM_selection_certify_J1 : Tm := ⟨[(0, (.own 0))], [(.vec (.int .u8))]⟩
abbrev UO_selection_certify_J1 : Outs := (.one .normal ⟨[(0, (.own 0)), (30, (.hole .bool))], [(.vec (.int .u8))]⟩)
def B_selection_certify_J1 (self : ((Unit × (List Int) × Int × Int × Int × Int × Int × Unit) × (List Int) × Unit) → Option ((Unit × Unit) × Unit × (List Int) × Unit)) : Blk := frBlk 1 [1, 2, 3, 4, 5, 6, 14] K0_selection_certify_J1 TM_selection_certify_J1 UO_selection_certify_J1 (fun k v => selection_certify_J1 self k.1 k.2.1 k.2.2.1 k.2.2.2.1 v)
def gs_selection_certify (self : ((Unit × (List Int) × Int × Int × Int × Int × Int × Unit) × (List Int) × Unit) → Option ((Unit × Unit) × Unit × (List Int) × Unit)) : Nat → Option Blk := lk [(1, B_selection_certify_J1 self)]
theorem ct_selection_certify_J1 (self : ((Unit × (List Int) × Int × Int × Int × Int × Int × Unit) × (List Int) × Unit) → Option ((Unit × Unit) × Unit × (List Int) × Unit)) (hself : FnSound Try.prog gl 67 (mkSig [(.own 0), (.hole (.slice (.int .i64))), (.hole (.int .i64)), (.hole (.int .i64)), (.hole (.int .i64)), (.hole (.int .i64)), (.hole (.int .i64))] [(.vec (.int .u8))] [(.own 1)] [.dead, (.vec (.int .u8))] self)) : CodeSound Try.prog (cx_selection_certify self) (subL (subL (subR (bodyOf Try.f67)))) (B_selection_certify_J1 self).D :=
  join_sound (G := gs_selection_certify self) (A := .leaf) (T0 := K0_selection_certify_J1) (T := TM_selection_certify_J1) (U := UO_selection_certify_J1) (F := (fun k v => selection_certify_J1 self k.1 k.2.1 k.2.2.1 k.2.2.2.1 v)) (cxo_selection_certify self hself) follows (by kernel_rfl) (CutsOk.leaf _) (by intro k v; kernel_rfl)
theorem st_selection_certify (self : ((Unit × (List Int) × Int × Int × Int × Int × Int × Unit) × (List Int) × Unit) → Option ((Unit × Unit) × Unit × (List Int) × Unit)) (hself : FnSound Try.prog gl 67 (mkSig [(.own 0), (.hole (.slice (.int .i64))), (.hole (.int .i64)), (.hole (.int .i64)), (.hole (.int .i64)), (.hole (.int .i64)), (.hole (.int .i64))] [(.vec (.int .u8))] [(.own 1)] [.dead, (.vec (.int .u8))] self)) : FnSound Try.prog gl 67 (mkSig [(.own 0), (.hole (.slice (.int .i64))), (.hole (.int .i64)), (.hole (.int .i64)), (.hole (.int .i64)), (.hole (.int .i64)), (.hole (.int .i64))] [(.vec (.int .u8))] [(.own 1)] [.dead, (.vec (.int .u8))] (selection_certify_R self)) :=
  fn_printed (G := gs_selection_certify self) (A := (.two .leaf (.two (.two (.cut 1) .leaf) .leaf))) (cxo_selection_certify self hself) follows Try.func67 (by kernel_rfl) (by kernel_rfl) (by kernel_rfl) (by kernel_rfl) (by kernel_rfl) (CutsOk.two (CutsOk.leaf _) (CutsOk.two (CutsOk.two (CutsOk.cut (g := B_selection_certify_J1 self) (by kernel_rfl) (ct_selection_certify_J1 self hself)) (CutsOk.leaf _)) (CutsOk.leaf _))) (by intro v; kernel_rfl)
theorem sd_selection_certify : FnSound Try.prog gl 67 sg_selection_certify := fix_sound (ins := [(.own 0), (.hole (.slice (.int .i64))), (.hole (.int .i64)), (.hole (.int .i64)), (.hole (.int .i64)), (.hole (.int .i64)), (.hole (.int .i64))]) (inObs := [(.vec (.int .u8))]) (outs := [(.own 1)]) (outObs := [.dead, (.vec (.int .u8))]) (R := selection_certify_R) (by kernel_rfl) st_selection_certify fuel
def sg_selection_Best : Sig := mkSig [(.hole (.slice (.int .i64))), (.hole (.int .i64))] [] [(.ncons (.own 0) (.hole (.cons (.int .i64) .nil))), (.own 1), (.hole (.int .i64))] [(.vec (.int .i64)), (.vec (.int .u8))] (fun p => selection_Best p.1.1 p.1.2.1)
theorem fk_selection_Best : FnOk Try.prog 55 := ⟨Try.f55, Try.func55, by kernel_rfl, by kernel_rfl⟩
def cx_selection_Best : Cx := ⟨tys, lk [(67 + 100000 * 0, sg_selection_certify), (64 + 100000 * 0, sg_selection_fault), (65 + 100000 * 0, sg_selection_search_look), (66 + 100000 * 0, sg_selection_total)], 38, 0, [], gl, []⟩
theorem cxo_selection_Best : CxOk Try.prog (cx_selection_Best) := ⟨tys_ok, FnsAll.cons 0 rfl fk_selection_certify sd_selection_certify (FnsAll.cons 0 rfl fk_selection_fault sd_selection_fault (FnsAll.cons 0 rfl fk_selection_search_look sd_selection_search_look (FnsAll.cons 0 rfl fk_selection_total sd_selection_total (FnsAll.nil))))⟩
def gs_selection_Best : Nat → Option Blk := lk []
theorem sd_selection_Best : FnSound Try.prog gl 55 sg_selection_Best :=
  fn_printed (G := gs_selection_Best) (A := .leaf) (cxo_selection_Best) follows Try.func55 (by kernel_rfl) (by kernel_rfl) (by kernel_rfl) (by kernel_rfl) (by kernel_rfl) (CutsOk.leaf _) (by intro v; kernel_rfl)
end Go.PE.Ytngkldmhekijgaa
end
end

section
set_option maxRecDepth 100000
set_option linter.unusedVariables false
noncomputable section
namespace Go.PE.Ytngkldmhekijgaa
open Go.PE Go.Proofs

def sg_build_Fee : Sig := mkSig [(.hole (.int .i64)), (.hole (.int .i64))] [] [(.hole (.int .i64))] [] (fun p => build_Fee p.1.1 p.1.2.1)
theorem fk_build_Fee : FnOk Try.prog 19 := ⟨Try.f19, Try.func19, by kernel_rfl, by kernel_rfl⟩
def cx_build_Fee : Cx := ⟨tys, lk [], 24, 0, [], gl, []⟩
theorem cxo_build_Fee : CxOk Try.prog (cx_build_Fee) := ⟨tys_ok, FnsAll.nil⟩
def gs_build_Fee : Nat → Option Blk := lk []
theorem sd_build_Fee : FnSound Try.prog gl 19 sg_build_Fee :=
  fn_printed (G := gs_build_Fee) (A := .leaf) (cxo_build_Fee) follows Try.func19 (by kernel_rfl) (by kernel_rfl) (by kernel_rfl) (by kernel_rfl) (by kernel_rfl) (CutsOk.leaf _) (by intro v; kernel_rfl)
def sg_build_InputWeight : Sig := mkSig [(.hole T_c1fb)] [] [(.hole (.int .i64))] [] (fun p => build_InputWeight p.1.1)
theorem fk_build_InputWeight : FnOk Try.prog 21 := ⟨Try.f21, Try.func21, by kernel_rfl, by kernel_rfl⟩
def cx_build_InputWeight : Cx := ⟨tys, lk [], 6, 0, [], gl, []⟩
theorem cxo_build_InputWeight : CxOk Try.prog (cx_build_InputWeight) := ⟨tys_ok, FnsAll.nil⟩
def gs_build_InputWeight : Nat → Option Blk := lk []
theorem sd_build_InputWeight : FnSound Try.prog gl 21 sg_build_InputWeight :=
  fn_printed (G := gs_build_InputWeight) (A := .leaf) (cxo_build_InputWeight) follows Try.func21 (by kernel_rfl) (by kernel_rfl) (by kernel_rfl) (by kernel_rfl) (by kernel_rfl) (CutsOk.leaf _) (by intro v; kernel_rfl)
def sg_build_Valid_1 : Sig := mkSig [(.hole T_089d)] [] [(.hole .bool)] [] (fun p => build_Valid_1 p.1.1)
theorem fk_build_Valid_1 : FnOk Try.prog 26 := ⟨Try.f26, Try.func26, by kernel_rfl, by kernel_rfl⟩
def cx_build_Valid_1 : Cx := ⟨tys, lk [], 7, 0, [], gl, []⟩
theorem cxo_build_Valid_1 : CxOk Try.prog (cx_build_Valid_1) := ⟨tys_ok, FnsAll.nil⟩
def gs_build_Valid_1 : Nat → Option Blk := lk []
theorem sd_build_Valid_1 : FnSound Try.prog gl 26 sg_build_Valid_1 :=
  fn_printed (G := gs_build_Valid_1) (A := .leaf) (cxo_build_Valid_1) follows Try.func26 (by kernel_rfl) (by kernel_rfl) (by kernel_rfl) (by kernel_rfl) (by kernel_rfl) (CutsOk.leaf _) (by intro v; kernel_rfl)
def sg_build_fault_1 : Sig := mkSig [(.hole T_b101)] [] [(.hole .bool)] [] (fun p => build_fault_1 p.1.1)
theorem fk_build_fault_1 : FnOk Try.prog 50 := ⟨Try.f50, Try.func50, by kernel_rfl, by kernel_rfl⟩
def cx_build_fault_1 : Cx := ⟨tys, lk [], 6, 0, [], gl, []⟩
theorem cxo_build_fault_1 : CxOk Try.prog (cx_build_fault_1) := ⟨tys_ok, FnsAll.nil⟩
def gs_build_fault_1 : Nat → Option Blk := lk []
theorem sd_build_fault_1 : FnSound Try.prog gl 50 sg_build_fault_1 :=
  fn_printed (G := gs_build_fault_1) (A := .leaf) (cxo_build_fault_1) follows Try.func50 (by kernel_rfl) (by kernel_rfl) (by kernel_rfl) (by kernel_rfl) (by kernel_rfl) (CutsOk.leaf _) (by intro v; kernel_rfl)
def sg_build_sum : Sig := mkSig [(.hole (.slice T_b101))] [] [(.hole (.int .i64)), (.hole .bool)] [] (fun p => build_sum p.1.1)
theorem fk_build_sum : FnOk Try.prog 33 := ⟨Try.f33, Try.func33, by kernel_rfl, by kernel_rfl⟩
def cx_build_sum : Cx := ⟨tys, lk [], 29, 0, [], gl, []⟩
theorem cxo_build_sum : CxOk Try.prog (cx_build_sum) := ⟨tys_ok, FnsAll.nil⟩
abbrev K0_build_sum_L1 : List (Nat × Ty) := [(7, (.slice T_b101)), (8, (.int .i64))]
abbrev TM_build_sum_L1 : Tm := ⟨[(4, (.hole (.int .i64))), (9, (.hole (.int .i64)))], []⟩
abbrev UO_build_sum_L1 : Outs := (.more .ret ⟨[(2, (.hole (.int .i64))), (3, (.hole .bool))], []⟩ (.one (.exit 0) ⟨[(4, (.hole (.int .i64)))], []⟩))
def B_build_sum_L1 : Blk := frBlk 0 [7, 8] K0_build_sum_L1 TM_build_sum_L1 UO_build_sum_L1 (fun k => loopV (fun v => build_sum_L1 k.1 k.2.1 v))
def gs_build_sum : Nat → Option Blk := lk [(1, B_build_sum_L1)]
theorem ct_build_sum_L1 : CodeSound Try.prog (cx_build_sum) (subL (subR (subL (subR (subR (bodyOf Try.f33)))))) (B_build_sum_L1).D :=
  loop_printed (G := gs_build_sum) (A := .leaf) (T0 := K0_build_sum_L1) (T := TM_build_sum_L1) (U := UO_build_sum_L1) (step := (fun k v => build_sum_L1 k.1 k.2.1 v)) (cxo_build_sum) follows (by kernel_rfl) (by kernel_rfl) (CutsOk.leaf _) (by intro k v; kernel_rfl)
theorem sd_build_sum : FnSound Try.prog gl 33 sg_build_sum :=
  fn_printed (G := gs_build_sum) (A := (.two .leaf (.two .leaf (.two (.two .leaf (.two (.cut 1) .leaf)) .leaf)))) (cxo_build_sum) follows Try.func33 (by kernel_rfl) (by kernel_rfl) (by kernel_rfl) (by kernel_rfl) (by kernel_rfl) (CutsOk.two (CutsOk.leaf _) (CutsOk.two (CutsOk.leaf _) (CutsOk.two (CutsOk.two (CutsOk.leaf _) (CutsOk.two (CutsOk.cut (g := B_build_sum_L1) (by kernel_rfl) (ct_build_sum_L1)) (CutsOk.leaf _))) (CutsOk.leaf _)))) (by intro v; kernel_rfl)
def sg_build_null : Sig := mkSig [] [] [(.hole T_b85e)] [] (fun p => build_null)
theorem fk_build_null : FnOk Try.prog 53 := ⟨Try.f53, Try.func53, by kernel_rfl, by kernel_rfl⟩
def cx_build_null : Cx := ⟨tys, lk [], 2, 0, [], gl, []⟩
theorem cxo_build_null : CxOk Try.prog (cx_build_null) := ⟨tys_ok, FnsAll.nil⟩
def gs_build_null : Nat → Option Blk := lk []
theorem sd_build_null : FnSound Try.prog gl 53 sg_build_null :=
  fn_printed (G := gs_build_null) (A := .leaf) (cxo_build_null) follows Try.func53 (by kernel_rfl) (by kernel_rfl) (by kernel_rfl) (by kernel_rfl) (by kernel_rfl) (CutsOk.leaf _) (by intro v; kernel_rfl)
def sg_build_fault_2 : Sig := mkSig [(.hole T_c1fb)] [] [(.hole .bool)] [] (fun p => build_fault_2 p.1.1)
theorem fk_build_fault_2 : FnOk Try.prog 52 := ⟨Try.f52, Try.func52, by kernel_rfl, by kernel_rfl⟩
def cx_build_fault_2 : Cx := ⟨tys, lk [(53 + 100000 * 0, sg_build_null)], 8, 0, [], gl, []⟩
theorem cxo_build_fault_2 : CxOk Try.prog (cx_build_fault_2) := ⟨tys_ok, FnsAll.cons 0 rfl fk_build_null sd_build_null (FnsAll.nil)⟩
def gs_build_fault_2 : Nat → Option Blk := lk []
theorem sd_build_fault_2 : FnSound Try.prog gl 52 sg_build_fault_2 :=
  fn_printed (G := gs_build_fault_2) (A := .leaf) (cxo_build_fault_2) follows Try.func52 (by kernel_rfl) (by kernel_rfl) (by kernel_rfl) (by kernel_rfl) (by kernel_rfl) (CutsOk.leaf _) (by intro v; kernel_rfl)
def sg_build_choose : Sig := mkSig [(.hole (.slice T_c1fb)), (.hole (.int .i64)), (.hole (.int .i64)), (.hole (.int .i64))] [] [(.own 0), (.hole (.int .i64))] [(.vec T_c1fb)] (fun p => build_choose p.1.1 p.1.2.1 p.1.2.2.1 p.1.2.2.2.1)
theorem fk_build_choose : FnOk Try.prog 36 := ⟨Try.f36, Try.func36, by kernel_rfl, by kernel_rfl⟩
def cx_build_choose : Cx := ⟨tys, lk [(19 + 100000 * 0, sg_build_Fee), (21 + 100000 * 0, sg_build_InputWeight), (55 + 100000 * 0, sg_selection_Best)], 77, 0, [], gl, []⟩
theorem cxo_build_choose : CxOk Try.prog (cx_build_choose) := ⟨tys_ok, FnsAll.cons 0 rfl fk_build_Fee sd_build_Fee (FnsAll.cons 0 rfl fk_build_InputWeight sd_build_InputWeight (FnsAll.cons 0 rfl fk_selection_Best sd_selection_Best (FnsAll.nil)))⟩
abbrev K0_build_choose_L1 : List (Nat × Ty) := [(3, (.int .i64)), (21, (.slice T_c1fb)), (22, (.int .i64))]
abbrev TM_build_choose_L1 : Tm := ⟨[(10, (.own 0)), (11, (.own 1)), (23, (.hole (.int .i64)))], [(.vec T_c1fb), (.vec (.int .i64))]⟩
abbrev UO_build_choose_L1 : Outs := (.one (.exit 0) ⟨[(10, (.own 0)), (11, (.own 1))], [(.vec T_c1fb), (.vec (.int .i64))]⟩)
def B_build_choose_L1 : Blk := frBlk 0 [1, 2, 3, 8, 9, 21, 22] K0_build_choose_L1 TM_build_choose_L1 UO_build_choose_L1 (fun k => loopV (fun v => build_choose_L1 k.1 k.2.1 k.2.2.1 v))
abbrev K0_build_choose_L2 : List (Nat × Ty) := [(63, (.int .i64))]
abbrev TM_build_choose_L2 : Tm := ⟨[(10, (.own 0)), (18, (.own 1)), (62, (.own 2)), (64, (.hole (.int .i64)))], [(.vec T_c1fb), (.vec T_c1fb), (.vec (.int .i64))]⟩
abbrev UO_build_choose_L2 : Outs := (.one (.exit 2) ⟨[(18, (.own 0))], [(.vec T_c1fb)]⟩)
def B_build_choose_L2 : Blk := frBlk 0 [8, 9, 63] K0_build_choose_L2 TM_build_choose_L2 UO_build_choose_L2 (fun k => loopV (fun v => build_choose_L2 k.1 v))
def gs_build_choose : Nat → Option Blk := lk [(1, B_build_choose_L1), (2, B_build_choose_L2)]
theorem ct_build_choose_L2 : CodeSound Try.prog (cx_build_choose) (subL (subR (subL (subR (subR (subR (subR (subR (subR (subR (bodyOf Try.f36))))))))))) (B_build_choose_L2).D :=
  loop_printed (G := gs_build_choose) (A := .leaf) (T0 := K0_build_choose_L2) (T := TM_build_choose_L2) (U := UO_build_choose_L2) (step := (fun k v => build_choose_L2 k.1 v)) (cxo_build_choose) follows (by kernel_rfl) (by kernel_rfl) (CutsOk.leaf _) (by intro k v; kernel_rfl)
theorem ct_build_choose_L1 : CodeSound Try.prog (cx_build_choose) (subL (subR (subL (subR (subR (subR (bodyOf Try.f36))))))) (B_build_choose_L1).D :=
  loop_printed (G := gs_build_choose) (A := .leaf) (T0 := K0_build_choose_L1) (T := TM_build_choose_L1) (U := UO_build_choose_L1) (step := (fun k v => build_choose_L1 k.1 k.2.1 k.2.2.1 v)) (cxo_build_choose) follows (by kernel_rfl) (by kernel_rfl) (CutsOk.leaf _) (by intro k v; kernel_rfl)
theorem sd_build_choose : FnSound Try.prog gl 36 sg_build_choose :=
  fn_printed (G := gs_build_choose) (A := (.two .leaf (.two .leaf (.two .leaf (.two (.two .leaf (.two (.cut 1) .leaf)) (.two .leaf (.two .leaf (.two .leaf (.two (.two .leaf (.two (.cut 2) .leaf)) .leaf))))))))) (cxo_build_choose) follows Try.func36 (by kernel_rfl) (by kernel_rfl) (by kernel_rfl) (by kernel_rfl) (by kernel_rfl) (CutsOk.two (CutsOk.leaf _) (CutsOk.two (CutsOk.leaf _) (CutsOk.two (CutsOk.leaf _) (CutsOk.two (CutsOk.two (CutsOk.leaf _) (CutsOk.two (CutsOk.cut (g := B_build_choose_L1) (by kernel_rfl) (ct_build_choose_L1)) (CutsOk.leaf _))) (CutsOk.two (CutsOk.leaf _) (CutsOk.two (CutsOk.leaf _) (CutsOk.two (CutsOk.leaf _) (CutsOk.two (CutsOk.two (CutsOk.leaf _) (CutsOk.two (CutsOk.cut (g := B_build_choose_L2) (by kernel_rfl) (ct_build_choose_L2)) (CutsOk.leaf _))) (CutsOk.leaf _))))))))) (by intro v; kernel_rfl)
end Go.PE.Ytngkldmhekijgaa
end
end

section
set_option maxRecDepth 100000
set_option linter.unusedVariables false
noncomputable section
namespace Go.PE.Ytngkldmhekijgaa
open Go.PE Go.Proofs

def sg_codec_put_uint32 : Sig := mkSig [(.hole (.slice (.int .u8))), (.hole (.int .u32)), (.hole (.int .i64))] [] [(.own 0)] [(.vec (.int .u8))] (fun p => codec_put_uint32 p.1.1 p.1.2.1 p.1.2.2.1)
theorem fk_codec_put_uint32 : FnOk Try.prog 82 := ⟨Try.f82, Try.func82, by kernel_rfl, by kernel_rfl⟩
def cx_codec_put_uint32 : Cx := ⟨tys, lk [], 31, 0, [], gl, []⟩
theorem cxo_codec_put_uint32 : CxOk Try.prog (cx_codec_put_uint32) := ⟨tys_ok, FnsAll.nil⟩
abbrev K0_codec_put_uint32_L1 : List (Nat × Ty) := [(1, (.int .u32)), (16, (.int .i64))]
abbrev TM_codec_put_uint32_L1 : Tm := ⟨[(7, (.own 0)), (17, (.hole (.int .i64)))], [(.vec (.int .u8))]⟩
abbrev UO_codec_put_uint32_L1 : Outs := (.one (.exit 0) ⟨[(7, (.own 0))], [(.vec (.int .u8))]⟩)
def B_codec_put_uint32_L1 : Blk := frBlk 0 [1, 6, 16] K0_codec_put_uint32_L1 TM_codec_put_uint32_L1 UO_codec_put_uint32_L1 (fun k => loopV (fun v => codec_put_uint32_L1 k.1 k.2.1 v))
def gs_codec_put_uint32 : Nat → Option Blk := lk [(1, B_codec_put_uint32_L1)]
theorem ct_codec_put_uint32_L1 : CodeSound Try.prog (cx_codec_put_uint32) (subL (subR (subL (subR (subR (bodyOf Try.f82)))))) (B_codec_put_uint32_L1).D :=
  loop_printed (G := gs_codec_put_uint32) (A := .leaf) (T0 := K0_codec_put_uint32_L1) (T := TM_codec_put_uint32_L1) (U := UO_codec_put_uint32_L1) (step := (fun k v => codec_put_uint32_L1 k.1 k.2.1 v)) (cxo_codec_put_uint32) follows (by kernel_rfl) (by kernel_rfl) (CutsOk.leaf _) (by intro k v; kernel_rfl)
theorem sd_codec_put_uint32 : FnSound Try.prog gl 82 sg_codec_put_uint32 :=
  fn_printed (G := gs_codec_put_uint32) (A := (.two .leaf (.two .leaf (.two (.two .leaf (.two (.cut 1) .leaf)) .leaf)))) (cxo_codec_put_uint32) follows Try.func82 (by kernel_rfl) (by kernel_rfl) (by kernel_rfl) (by kernel_rfl) (by kernel_rfl) (CutsOk.two (CutsOk.leaf _) (CutsOk.two (CutsOk.leaf _) (CutsOk.two (CutsOk.two (CutsOk.leaf _) (CutsOk.two (CutsOk.cut (g := B_codec_put_uint32_L1) (by kernel_rfl) (ct_codec_put_uint32_L1)) (CutsOk.leaf _))) (CutsOk.leaf _)))) (by intro v; kernel_rfl)
def sg_codec_AppendU32 : Sig := mkSig [(.hole (.slice (.int .u8))), (.hole (.int .u32))] [] [(.own 0)] [(.vec (.int .u8))] (fun p => codec_AppendU32 p.1.1 p.1.2.1)
theorem fk_codec_AppendU32 : FnOk Try.prog 68 := ⟨Try.f68, Try.func68, by kernel_rfl, by kernel_rfl⟩
def cx_codec_AppendU32 : Cx := ⟨tys, lk [(82 + 100000 * 0, sg_codec_put_uint32)], 8, 0, [], gl, []⟩
theorem cxo_codec_AppendU32 : CxOk Try.prog (cx_codec_AppendU32) := ⟨tys_ok, FnsAll.cons 0 rfl fk_codec_put_uint32 sd_codec_put_uint32 (FnsAll.nil)⟩
def gs_codec_AppendU32 : Nat → Option Blk := lk []
theorem sd_codec_AppendU32 : FnSound Try.prog gl 68 sg_codec_AppendU32 :=
  fn_printed (G := gs_codec_AppendU32) (A := .leaf) (cxo_codec_AppendU32) follows Try.func68 (by kernel_rfl) (by kernel_rfl) (by kernel_rfl) (by kernel_rfl) (by kernel_rfl) (CutsOk.leaf _) (by intro v; kernel_rfl)
def sg_codec_put_uint8 : Sig := mkSig [(.hole (.slice (.int .u8))), (.hole (.int .u8)), (.hole (.int .i64))] [] [(.own 0)] [(.vec (.int .u8))] (fun p => codec_put_uint8 p.1.1 p.1.2.1 p.1.2.2.1)
theorem fk_codec_put_uint8 : FnOk Try.prog 83 := ⟨Try.f83, Try.func83, by kernel_rfl, by kernel_rfl⟩
def cx_codec_put_uint8 : Cx := ⟨tys, lk [], 31, 0, [], gl, []⟩
theorem cxo_codec_put_uint8 : CxOk Try.prog (cx_codec_put_uint8) := ⟨tys_ok, FnsAll.nil⟩
abbrev K0_codec_put_uint8_L1 : List (Nat × Ty) := [(1, (.int .u8)), (16, (.int .i64))]
abbrev TM_codec_put_uint8_L1 : Tm := ⟨[(7, (.own 0)), (17, (.hole (.int .i64)))], [(.vec (.int .u8))]⟩
abbrev UO_codec_put_uint8_L1 : Outs := (.one (.exit 0) ⟨[(7, (.own 0))], [(.vec (.int .u8))]⟩)
def B_codec_put_uint8_L1 : Blk := frBlk 0 [1, 6, 16] K0_codec_put_uint8_L1 TM_codec_put_uint8_L1 UO_codec_put_uint8_L1 (fun k => loopV (fun v => codec_put_uint8_L1 k.1 k.2.1 v))
def gs_codec_put_uint8 : Nat → Option Blk := lk [(1, B_codec_put_uint8_L1)]
theorem ct_codec_put_uint8_L1 : CodeSound Try.prog (cx_codec_put_uint8) (subL (subR (subL (subR (subR (bodyOf Try.f83)))))) (B_codec_put_uint8_L1).D :=
  loop_printed (G := gs_codec_put_uint8) (A := .leaf) (T0 := K0_codec_put_uint8_L1) (T := TM_codec_put_uint8_L1) (U := UO_codec_put_uint8_L1) (step := (fun k v => codec_put_uint8_L1 k.1 k.2.1 v)) (cxo_codec_put_uint8) follows (by kernel_rfl) (by kernel_rfl) (CutsOk.leaf _) (by intro k v; kernel_rfl)
theorem sd_codec_put_uint8 : FnSound Try.prog gl 83 sg_codec_put_uint8 :=
  fn_printed (G := gs_codec_put_uint8) (A := (.two .leaf (.two .leaf (.two (.two .leaf (.two (.cut 1) .leaf)) .leaf)))) (cxo_codec_put_uint8) follows Try.func83 (by kernel_rfl) (by kernel_rfl) (by kernel_rfl) (by kernel_rfl) (by kernel_rfl) (CutsOk.two (CutsOk.leaf _) (CutsOk.two (CutsOk.leaf _) (CutsOk.two (CutsOk.two (CutsOk.leaf _) (CutsOk.two (CutsOk.cut (g := B_codec_put_uint8_L1) (by kernel_rfl) (ct_codec_put_uint8_L1)) (CutsOk.leaf _))) (CutsOk.leaf _)))) (by intro v; kernel_rfl)
def sg_codec_put_uint16 : Sig := mkSig [(.hole (.slice (.int .u8))), (.hole (.int .u16)), (.hole (.int .i64))] [] [(.own 0)] [(.vec (.int .u8))] (fun p => codec_put_uint16 p.1.1 p.1.2.1 p.1.2.2.1)
theorem fk_codec_put_uint16 : FnOk Try.prog 84 := ⟨Try.f84, Try.func84, by kernel_rfl, by kernel_rfl⟩
def cx_codec_put_uint16 : Cx := ⟨tys, lk [], 31, 0, [], gl, []⟩
theorem cxo_codec_put_uint16 : CxOk Try.prog (cx_codec_put_uint16) := ⟨tys_ok, FnsAll.nil⟩
abbrev K0_codec_put_uint16_L1 : List (Nat × Ty) := [(1, (.int .u16)), (16, (.int .i64))]
abbrev TM_codec_put_uint16_L1 : Tm := ⟨[(7, (.own 0)), (17, (.hole (.int .i64)))], [(.vec (.int .u8))]⟩
abbrev UO_codec_put_uint16_L1 : Outs := (.one (.exit 0) ⟨[(7, (.own 0))], [(.vec (.int .u8))]⟩)
def B_codec_put_uint16_L1 : Blk := frBlk 0 [1, 6, 16] K0_codec_put_uint16_L1 TM_codec_put_uint16_L1 UO_codec_put_uint16_L1 (fun k => loopV (fun v => codec_put_uint16_L1 k.1 k.2.1 v))
def gs_codec_put_uint16 : Nat → Option Blk := lk [(1, B_codec_put_uint16_L1)]
theorem ct_codec_put_uint16_L1 : CodeSound Try.prog (cx_codec_put_uint16) (subL (subR (subL (subR (subR (bodyOf Try.f84)))))) (B_codec_put_uint16_L1).D :=
  loop_printed (G := gs_codec_put_uint16) (A := .leaf) (T0 := K0_codec_put_uint16_L1) (T := TM_codec_put_uint16_L1) (U := UO_codec_put_uint16_L1) (step := (fun k v => codec_put_uint16_L1 k.1 k.2.1 v)) (cxo_codec_put_uint16) follows (by kernel_rfl) (by kernel_rfl) (CutsOk.leaf _) (by intro k v; kernel_rfl)
theorem sd_codec_put_uint16 : FnSound Try.prog gl 84 sg_codec_put_uint16 :=
  fn_printed (G := gs_codec_put_uint16) (A := (.two .leaf (.two .leaf (.two (.two .leaf (.two (.cut 1) .leaf)) .leaf)))) (cxo_codec_put_uint16) follows Try.func84 (by kernel_rfl) (by kernel_rfl) (by kernel_rfl) (by kernel_rfl) (by kernel_rfl) (CutsOk.two (CutsOk.leaf _) (CutsOk.two (CutsOk.leaf _) (CutsOk.two (CutsOk.two (CutsOk.leaf _) (CutsOk.two (CutsOk.cut (g := B_codec_put_uint16_L1) (by kernel_rfl) (ct_codec_put_uint16_L1)) (CutsOk.leaf _))) (CutsOk.leaf _)))) (by intro v; kernel_rfl)
def sg_codec_put_uint64 : Sig := mkSig [(.hole (.slice (.int .u8))), (.hole (.int .u64)), (.hole (.int .i64))] [] [(.own 0)] [(.vec (.int .u8))] (fun p => codec_put_uint64 p.1.1 p.1.2.1 p.1.2.2.1)
theorem fk_codec_put_uint64 : FnOk Try.prog 85 := ⟨Try.f85, Try.func85, by kernel_rfl, by kernel_rfl⟩
def cx_codec_put_uint64 : Cx := ⟨tys, lk [], 30, 0, [], gl, []⟩
theorem cxo_codec_put_uint64 : CxOk Try.prog (cx_codec_put_uint64) := ⟨tys_ok, FnsAll.nil⟩
abbrev K0_codec_put_uint64_L1 : List (Nat × Ty) := [(1, (.int .u64)), (16, (.int .i64))]
abbrev TM_codec_put_uint64_L1 : Tm := ⟨[(7, (.own 0)), (17, (.hole (.int .i64)))], [(.vec (.int .u8))]⟩
abbrev UO_codec_put_uint64_L1 : Outs := (.one (.exit 0) ⟨[(7, (.own 0))], [(.vec (.int .u8))]⟩)
def B_codec_put_uint64_L1 : Blk := frBlk 0 [1, 6, 16] K0_codec_put_uint64_L1 TM_codec_put_uint64_L1 UO_codec_put_uint64_L1 (fun k => loopV (fun v => codec_put_uint64_L1 k.1 k.2.1 v))
def gs_codec_put_uint64 : Nat → Option Blk := lk [(1, B_codec_put_uint64_L1)]
theorem ct_codec_put_uint64_L1 : CodeSound Try.prog (cx_codec_put_uint64) (subL (subR (subL (subR (subR (bodyOf Try.f85)))))) (B_codec_put_uint64_L1).D :=
  loop_printed (G := gs_codec_put_uint64) (A := .leaf) (T0 := K0_codec_put_uint64_L1) (T := TM_codec_put_uint64_L1) (U := UO_codec_put_uint64_L1) (step := (fun k v => codec_put_uint64_L1 k.1 k.2.1 v)) (cxo_codec_put_uint64) follows (by kernel_rfl) (by kernel_rfl) (CutsOk.leaf _) (by intro k v; kernel_rfl)
theorem sd_codec_put_uint64 : FnSound Try.prog gl 85 sg_codec_put_uint64 :=
  fn_printed (G := gs_codec_put_uint64) (A := (.two .leaf (.two .leaf (.two (.two .leaf (.two (.cut 1) .leaf)) .leaf)))) (cxo_codec_put_uint64) follows Try.func85 (by kernel_rfl) (by kernel_rfl) (by kernel_rfl) (by kernel_rfl) (by kernel_rfl) (CutsOk.two (CutsOk.leaf _) (CutsOk.two (CutsOk.leaf _) (CutsOk.two (CutsOk.two (CutsOk.leaf _) (CutsOk.two (CutsOk.cut (g := B_codec_put_uint64_L1) (by kernel_rfl) (ct_codec_put_uint64_L1)) (CutsOk.leaf _))) (CutsOk.leaf _)))) (by intro v; kernel_rfl)
def sg_codec_AppendSize : Sig := mkSig [(.hole (.slice (.int .u8))), (.hole (.int .u64))] [] [(.own 0)] [(.vec (.int .u8))] (fun p => codec_AppendSize p.1.1 p.1.2.1)
theorem fk_codec_AppendSize : FnOk Try.prog 69 := ⟨Try.f69, Try.func69, by kernel_rfl, by kernel_rfl⟩
def cx_codec_AppendSize : Cx := ⟨tys, lk [(84 + 100000 * 0, sg_codec_put_uint16), (82 + 100000 * 0, sg_codec_put_uint32), (85 + 100000 * 0, sg_codec_put_uint64), (83 + 100000 * 0, sg_codec_put_uint8)], 32, 0, [], gl, []⟩
theorem cxo_codec_AppendSize : CxOk Try.prog (cx_codec_AppendSize) := ⟨tys_ok, FnsAll.cons 0 rfl fk_codec_put_uint16 sd_codec_put_uint16 (FnsAll.cons 0 rfl fk_codec_put_uint32 sd_codec_put_uint32 (FnsAll.cons 0 rfl fk_codec_put_uint64 sd_codec_put_uint64 (FnsAll.cons 0 rfl fk_codec_put_uint8 sd_codec_put_uint8 (FnsAll.nil))))⟩
def gs_codec_AppendSize : Nat → Option Blk := lk []
theorem sd_codec_AppendSize : FnSound Try.prog gl 69 sg_codec_AppendSize :=
  fn_printed (G := gs_codec_AppendSize) (A := .leaf) (cxo_codec_AppendSize) follows Try.func69 (by kernel_rfl) (by kernel_rfl) (by kernel_rfl) (by kernel_rfl) (by kernel_rfl) (CutsOk.leaf _) (by intro v; kernel_rfl)
def sg_codec_AppendHash : Sig := mkSig [(.hole (.slice (.int .u8))), (.hole (.arr 32 (.int .u8)))] [] [(.own 0)] [(.vec (.int .u8))] (fun p => codec_AppendHash p.1.1 p.1.2.1)
theorem fk_codec_AppendHash : FnOk Try.prog 86 := ⟨Try.f86, Try.func86, by kernel_rfl, by kernel_rfl⟩
def cx_codec_AppendHash : Cx := ⟨tys, lk [], 15, 0, [], gl, []⟩
theorem cxo_codec_AppendHash : CxOk Try.prog (cx_codec_AppendHash) := ⟨tys_ok, FnsAll.nil⟩
def gs_codec_AppendHash : Nat → Option Blk := lk []
theorem sd_codec_AppendHash : FnSound Try.prog gl 86 sg_codec_AppendHash :=
  fn_printed (G := gs_codec_AppendHash) (A := .leaf) (cxo_codec_AppendHash) follows Try.func86 (by kernel_rfl) (by kernel_rfl) (by kernel_rfl) (by kernel_rfl) (by kernel_rfl) (CutsOk.leaf _) (by intro v; kernel_rfl)
def sg_codec_AppendU64 : Sig := mkSig [(.hole (.slice (.int .u8))), (.hole (.int .u64))] [] [(.own 0)] [(.vec (.int .u8))] (fun p => codec_AppendU64 p.1.1 p.1.2.1)
theorem fk_codec_AppendU64 : FnOk Try.prog 71 := ⟨Try.f71, Try.func71, by kernel_rfl, by kernel_rfl⟩
def cx_codec_AppendU64 : Cx := ⟨tys, lk [(85 + 100000 * 0, sg_codec_put_uint64)], 8, 0, [], gl, []⟩
theorem cxo_codec_AppendU64 : CxOk Try.prog (cx_codec_AppendU64) := ⟨tys_ok, FnsAll.cons 0 rfl fk_codec_put_uint64 sd_codec_put_uint64 (FnsAll.nil)⟩
def gs_codec_AppendU64 : Nat → Option Blk := lk []
theorem sd_codec_AppendU64 : FnSound Try.prog gl 71 sg_codec_AppendU64 :=
  fn_printed (G := gs_codec_AppendU64) (A := .leaf) (cxo_codec_AppendU64) follows Try.func71 (by kernel_rfl) (by kernel_rfl) (by kernel_rfl) (by kernel_rfl) (by kernel_rfl) (CutsOk.leaf _) (by intro v; kernel_rfl)
def sg_codec_AppendBytes : Sig := mkSig [(.hole (.slice (.int .u8))), (.hole (.slice (.int .u8)))] [] [(.own 0)] [(.vec (.int .u8))] (fun p => codec_AppendBytes p.1.1 p.1.2.1)
theorem fk_codec_AppendBytes : FnOk Try.prog 72 := ⟨Try.f72, Try.func72, by kernel_rfl, by kernel_rfl⟩
def cx_codec_AppendBytes : Cx := ⟨tys, lk [(69 + 100000 * 0, sg_codec_AppendSize)], 12, 0, [], gl, []⟩
theorem cxo_codec_AppendBytes : CxOk Try.prog (cx_codec_AppendBytes) := ⟨tys_ok, FnsAll.cons 0 rfl fk_codec_AppendSize sd_codec_AppendSize (FnsAll.nil)⟩
def gs_codec_AppendBytes : Nat → Option Blk := lk []
theorem sd_codec_AppendBytes : FnSound Try.prog gl 72 sg_codec_AppendBytes :=
  fn_printed (G := gs_codec_AppendBytes) (A := .leaf) (cxo_codec_AppendBytes) follows Try.func72 (by kernel_rfl) (by kernel_rfl) (by kernel_rfl) (by kernel_rfl) (by kernel_rfl) (CutsOk.leaf _) (by intro v; kernel_rfl)
end Go.PE.Ytngkldmhekijgaa
end
end

section
set_option maxRecDepth 100000
set_option linter.unusedVariables false
noncomputable section
namespace Go.PE.Ytngkldmhekijgaa
open Go.PE Go.Proofs

def sg_tx_small : Sig := mkSig [(.hole T_8f0a)] [] [(.hole .bool)] [] (fun p => tx_small p.1.1)
theorem fk_tx_small : FnOk Try.prog 60 := ⟨Try.f60, Try.func60, by kernel_rfl, by kernel_rfl⟩
def cx_tx_small : Cx := ⟨tys, lk [], 59, 0, [], gl, []⟩
theorem cxo_tx_small : CxOk Try.prog (cx_tx_small) := ⟨tys_ok, FnsAll.nil⟩
abbrev K0_tx_small_L1 : List (Nat × Ty) := [(20, (.slice T_b101)), (21, (.int .i64))]
abbrev TM_tx_small_L1 : Tm := ⟨[(1, (.ptr 0 [])), (22, (.hole (.int .i64)))], [(.box T_8f0a (.hole T_8f0a))]⟩
abbrev UO_tx_small_L1 : Outs := (.more .ret ⟨[(2, (.hole .bool))], []⟩ (.one (.exit 0) ⟨[(1, (.ptr 0 []))], [(.box T_8f0a (.hole T_8f0a))]⟩))
def B_tx_small_L1 : Blk := frBlk 0 [20, 21] K0_tx_small_L1 TM_tx_small_L1 UO_tx_small_L1 (fun k => loopV (fun v => tx_small_L1 k.1 k.2.1 v))
abbrev K0_tx_small_L3 : List (Nat × Ty) := [(48, (.slice (.slice (.int .u8)))), (49, (.int .i64))]
abbrev TM_tx_small_L3 : Tm := ⟨[(50, (.hole (.int .i64)))], []⟩
abbrev UO_tx_small_L3 : Outs := (.more .ret ⟨[(2, (.hole .bool))], []⟩ (.one (.exit 4) ⟨[], []⟩))
def B_tx_small_L3 : Blk := frBlk 0 [37, 38, 39, 48, 49] K0_tx_small_L3 TM_tx_small_L3 UO_tx_small_L3 (fun k => loopV (fun v => tx_small_L3 k.1 k.2.1 v))
abbrev K0_tx_small_L2 : List (Nat × Ty) := [(37, (.slice T_089d)), (38, (.int .i64))]
abbrev TM_tx_small_L2 : Tm := ⟨[(39, (.hole (.int .i64)))], []⟩
abbrev UO_tx_small_L2 : Outs := (.more .ret ⟨[(2, (.hole .bool))], []⟩ (.one (.exit 2) ⟨[], []⟩))
def B_tx_small_L2 : Blk := frBlk 0 [37, 38] K0_tx_small_L2 TM_tx_small_L2 UO_tx_small_L2 (fun k => loopV (fun v => tx_small_L2 k.1 k.2.1 v))
def gs_tx_small : Nat → Option Blk := lk [(1, B_tx_small_L1), (3, B_tx_small_L3), (2, B_tx_small_L2)]
theorem ct_tx_small_L3 : CodeSound Try.prog ((cx_tx_small).fr [37, 38]) (subL (subR (subR (subR (subL (subL (subR (subR (subL (subL (subR (subL (subR (subR (subR (bodyOf Try.f60)))))))))))))))) (B_tx_small_L3).D :=
  loop_printed (G := gs_tx_small) (A := .leaf) (T0 := K0_tx_small_L3) (T := TM_tx_small_L3) (U := UO_tx_small_L3) (step := (fun k v => tx_small_L3 k.1 k.2.1 v)) ((cxo_tx_small).fr [37, 38]) follows (by kernel_rfl) (by kernel_rfl) (CutsOk.leaf _) (by intro k v; kernel_rfl)
theorem ct_tx_small_L2 : CodeSound Try.prog (cx_tx_small) (subL (subR (subL (subR (subR (subR (bodyOf Try.f60))))))) (B_tx_small_L2).D :=
  loop_printed (G := gs_tx_small) (A := (.two .leaf (.two .leaf (.two (.two (.two .leaf (.two .leaf (.two .leaf (.two (.cut 3) .leaf)))) .leaf) .leaf)))) (T0 := K0_tx_small_L2) (T := TM_tx_small_L2) (U := UO_tx_small_L2) (step := (fun k v => tx_small_L2 k.1 k.2.1 v)) (cxo_tx_small) follows (by kernel_rfl) (by kernel_rfl) (CutsOk.two (CutsOk.leaf _) (CutsOk.two (CutsOk.leaf _) (CutsOk.two (CutsOk.two (CutsOk.two (CutsOk.leaf _) (CutsOk.two (CutsOk.leaf _) (CutsOk.two (CutsOk.leaf _) (CutsOk.two (CutsOk.cut (g := B_tx_small_L3) (by kernel_rfl) (ct_tx_small_L3)) (CutsOk.leaf _))))) (CutsOk.leaf _)) (CutsOk.leaf _)))) (by intro k v; kernel_rfl)
theorem ct_tx_small_L1 : CodeSound Try.prog (cx_tx_small) (subL (subR (subL (subR (subR (bodyOf Try.f60)))))) (B_tx_small_L1).D :=
  loop_printed (G := gs_tx_small) (A := .leaf) (T0 := K0_tx_small_L1) (T := TM_tx_small_L1) (U := UO_tx_small_L1) (step := (fun k v => tx_small_L1 k.1 k.2.1 v)) (cxo_tx_small) follows (by kernel_rfl) (by kernel_rfl) (CutsOk.leaf _) (by intro k v; kernel_rfl)
theorem sd_tx_small : FnSound Try.prog gl 60 sg_tx_small :=
  fn_printed (G := gs_tx_small) (A := (.two .leaf (.two .leaf (.two (.two .leaf (.two (.cut 1) .leaf)) (.two (.two .leaf (.two (.cut 2) .leaf)) .leaf))))) (cxo_tx_small) follows Try.func60 (by kernel_rfl) (by kernel_rfl) (by kernel_rfl) (by kernel_rfl) (by kernel_rfl) (CutsOk.two (CutsOk.leaf _) (CutsOk.two (CutsOk.leaf _) (CutsOk.two (CutsOk.two (CutsOk.leaf _) (CutsOk.two (CutsOk.cut (g := B_tx_small_L1) (by kernel_rfl) (ct_tx_small_L1)) (CutsOk.leaf _))) (CutsOk.two (CutsOk.two (CutsOk.leaf _) (CutsOk.two (CutsOk.cut (g := B_tx_small_L2) (by kernel_rfl) (ct_tx_small_L2)) (CutsOk.leaf _))) (CutsOk.leaf _))))) (by intro v; kernel_rfl)
def sg_tx_Point : Sig := mkSig [(.hole T_b85e)] [] [(.own 0)] [(.vec (.int .u8))] (fun p => tx_Point p.1.1)
theorem fk_tx_Point : FnOk Try.prog 70 := ⟨Try.f70, Try.func70, by kernel_rfl, by kernel_rfl⟩
def cx_tx_Point : Cx := ⟨tys, lk [(86 + 100000 * 0, sg_codec_AppendHash), (68 + 100000 * 0, sg_codec_AppendU32)], 9, 0, [], gl, []⟩
theorem cxo_tx_Point : CxOk Try.prog (cx_tx_Point) := ⟨tys_ok, FnsAll.cons 0 rfl fk_codec_AppendHash sd_codec_AppendHash (FnsAll.cons 0 rfl fk_codec_AppendU32 sd_codec_AppendU32 (FnsAll.nil))⟩
def gs_tx_Point : Nat → Option Blk := lk []
theorem sd_tx_Point : FnSound Try.prog gl 70 sg_tx_Point :=
  fn_printed (G := gs_tx_Point) (A := .leaf) (cxo_tx_Point) follows Try.func70 (by kernel_rfl) (by kernel_rfl) (by kernel_rfl) (by kernel_rfl) (by kernel_rfl) (CutsOk.leaf _) (by intro v; kernel_rfl)
def sg_tx_encode : Sig := mkSig [(.hole T_8f0a), (.hole .bool)] [] [(.own 0)] [(.vec (.int .u8))] (fun p => tx_encode p.1.1 p.1.2.1)
theorem fk_tx_encode : FnOk Try.prog 56 := ⟨Try.f56, Try.func56, by kernel_rfl, by kernel_rfl⟩
def cx_tx_encode : Cx := ⟨tys, lk [(72 + 100000 * 0, sg_codec_AppendBytes), (69 + 100000 * 0, sg_codec_AppendSize), (68 + 100000 * 0, sg_codec_AppendU32), (71 + 100000 * 0, sg_codec_AppendU64), (70 + 100000 * 0, sg_tx_Point)], 95, 0, [], gl, []⟩
theorem cxo_tx_encode : CxOk Try.prog (cx_tx_encode) := ⟨tys_ok, FnsAll.cons 0 rfl fk_codec_AppendBytes sd_codec_AppendBytes (FnsAll.cons 0 rfl fk_codec_AppendSize sd_codec_AppendSize (FnsAll.cons 0 rfl fk_codec_AppendU32 sd_codec_AppendU32 (FnsAll.cons 0 rfl fk_codec_AppendU64 sd_codec_AppendU64 (FnsAll.cons 0 rfl fk_tx_Point sd_tx_Point (FnsAll.nil)))))⟩
abbrev K0_tx_encode_L1 : List (Nat × Ty) := [(24, (.slice T_089d)), (25, (.int .i64))]
abbrev TM_tx_encode_L1 : Tm := ⟨[(2, (.ptr 0 [])), (5, (.own 1)), (26, (.hole (.int .i64)))], [(.box T_8f0a (.hole T_8f0a)), (.vec (.int .u8))]⟩
abbrev UO_tx_encode_L1 : Outs := (.one (.exit 0) ⟨[(2, (.ptr 0 [])), (5, (.own 1))], [(.box T_8f0a (.hole T_8f0a)), (.vec (.int .u8))]⟩)
def B_tx_encode_L1 : Blk := frBlk 0 [1, 4, 24, 25] K0_tx_encode_L1 TM_tx_encode_L1 UO_tx_encode_L1 (fun k => loopV (fun v => tx_encode_L1 k.1 k.2.1 v))
abbrev K0_tx_encode_L2 : List (Nat × Ty) := [(47, (.slice T_b101)), (48, (.int .i64))]
abbrev TM_tx_encode_L2 : Tm := ⟨[(2, (.ptr 0 [])), (5, (.own 1)), (49, (.hole (.int .i64)))], [(.box T_8f0a (.hole T_8f0a)), (.vec (.int .u8))]⟩
abbrev UO_tx_encode_L2 : Outs := (.one (.exit 2) ⟨[(2, (.ptr 0 [])), (5, (.own 1))], [(.box T_8f0a (.hole T_8f0a)), (.vec (.int .u8))]⟩)
def B_tx_encode_L2 : Blk := frBlk 0 [1, 4, 47, 48] K0_tx_encode_L2 TM_tx_encode_L2 UO_tx_encode_L2 (fun k => loopV (fun v => tx_encode_L2 k.1 k.2.1 v))
abbrev K0_tx_encode_L4 : List (Nat × Ty) := [(83, (.slice (.slice (.int .u8)))), (84, (.int .i64))]
abbrev TM_tx_encode_L4 : Tm := ⟨[(5, (.own 0)), (85, (.hole (.int .i64)))], [(.vec (.int .u8))]⟩
abbrev UO_tx_encode_L4 : Outs := (.one (.exit 6) ⟨[(5, (.own 0))], [(.vec (.int .u8))]⟩)
def B_tx_encode_L4 : Blk := frBlk 0 [1, 68, 69, 70, 83, 84] K0_tx_encode_L4 TM_tx_encode_L4 UO_tx_encode_L4 (fun k => loopV (fun v => tx_encode_L4 k.1 k.2.1 v))
abbrev K0_tx_encode_L3 : List (Nat × Ty) := [(1, .bool), (68, (.slice T_089d)), (69, (.int .i64))]
abbrev TM_tx_encode_L3 : Tm := ⟨[(5, (.own 0)), (70, (.hole (.int .i64)))], [(.vec (.int .u8))]⟩
abbrev UO_tx_encode_L3 : Outs := (.one (.exit 4) ⟨[(5, (.own 0))], [(.vec (.int .u8))]⟩)
def B_tx_encode_L3 : Blk := frBlk 0 [1, 4, 68, 69] K0_tx_encode_L3 TM_tx_encode_L3 UO_tx_encode_L3 (fun k => loopV (fun v => tx_encode_L3 k.1 k.2.1 k.2.2.1 v))
def gs_tx_encode : Nat → Option Blk := lk [(1, B_tx_encode_L1), (2, B_tx_encode_L2), (4, B_tx_encode_L4), (3, B_tx_encode_L3)]
theorem ct_tx_encode_L4 : CodeSound Try.prog ((cx_tx_encode).fr [1, 4, 68, 69]) (subL (subR (subR (subR (subR (subL (subL (subR (subR (subL (subL (subR (subL (subR (subR (subR (subR (subR (subR (subR (bodyOf Try.f56))))))))))))))))))))) (B_tx_encode_L4).D :=
  loop_printed (G := gs_tx_encode) (A := .leaf) (T0 := K0_tx_encode_L4) (T := TM_tx_encode_L4) (U := UO_tx_encode_L4) (step := (fun k v => tx_encode_L4 k.1 k.2.1 v)) ((cxo_tx_encode).fr [1, 4, 68, 69]) follows (by kernel_rfl) (by kernel_rfl) (CutsOk.leaf _) (by intro k v; kernel_rfl)
theorem ct_tx_encode_L3 : CodeSound Try.prog (cx_tx_encode) (subL (subR (subL (subR (subR (subR (subR (subR (subR (subR (bodyOf Try.f56))))))))))) (B_tx_encode_L3).D :=
  loop_printed (G := gs_tx_encode) (A := (.two .leaf (.two .leaf (.two (.two (.two .leaf (.two .leaf (.two .leaf (.two .leaf (.two (.cut 4) .leaf))))) .leaf) .leaf)))) (T0 := K0_tx_encode_L3) (T := TM_tx_encode_L3) (U := UO_tx_encode_L3) (step := (fun k v => tx_encode_L3 k.1 k.2.1 k.2.2.1 v)) (cxo_tx_encode) follows (by kernel_rfl) (by kernel_rfl) (CutsOk.two (CutsOk.leaf _) (CutsOk.two (CutsOk.leaf _) (CutsOk.two (CutsOk.two (CutsOk.two (CutsOk.leaf _) (CutsOk.two (CutsOk.leaf _) (CutsOk.two (CutsOk.leaf _) (CutsOk.two (CutsOk.leaf _) (CutsOk.two (CutsOk.cut (g := B_tx_encode_L4) (by kernel_rfl) (ct_tx_encode_L4)) (CutsOk.leaf _)))))) (CutsOk.leaf _)) (CutsOk.leaf _)))) (by intro k v; kernel_rfl)
theorem ct_tx_encode_L2 : CodeSound Try.prog (cx_tx_encode) (subL (subR (subL (subR (subR (subR (subR (subR (bodyOf Try.f56))))))))) (B_tx_encode_L2).D :=
  loop_printed (G := gs_tx_encode) (A := .leaf) (T0 := K0_tx_encode_L2) (T := TM_tx_encode_L2) (U := UO_tx_encode_L2) (step := (fun k v => tx_encode_L2 k.1 k.2.1 v)) (cxo_tx_encode) follows (by kernel_rfl) (by kernel_rfl) (CutsOk.leaf _) (by intro k v; kernel_rfl)
theorem ct_tx_encode_L1 : CodeSound Try.prog (cx_tx_encode) (subL (subR (subL (subR (subR (subR (bodyOf Try.f56))))))) (B_tx_encode_L1).D :=
  loop_printed (G := gs_tx_encode) (A := .leaf) (T0 := K0_tx_encode_L1) (T := TM_tx_encode_L1) (U := UO_tx_encode_L1) (step := (fun k v => tx_encode_L1 k.1 k.2.1 v)) (cxo_tx_encode) follows (by kernel_rfl) (by kernel_rfl) (CutsOk.leaf _) (by intro k v; kernel_rfl)
theorem sd_tx_encode : FnSound Try.prog gl 56 sg_tx_encode :=
  fn_printed (G := gs_tx_encode) (A := (.two .leaf (.two .leaf (.two .leaf (.two (.two .leaf (.two (.cut 1) .leaf)) (.two .leaf (.two (.two .leaf (.two (.cut 2) .leaf)) (.two .leaf (.two (.two .leaf (.two (.cut 3) .leaf)) .leaf))))))))) (cxo_tx_encode) follows Try.func56 (by kernel_rfl) (by kernel_rfl) (by kernel_rfl) (by kernel_rfl) (by kernel_rfl) (CutsOk.two (CutsOk.leaf _) (CutsOk.two (CutsOk.leaf _) (CutsOk.two (CutsOk.leaf _) (CutsOk.two (CutsOk.two (CutsOk.leaf _) (CutsOk.two (CutsOk.cut (g := B_tx_encode_L1) (by kernel_rfl) (ct_tx_encode_L1)) (CutsOk.leaf _))) (CutsOk.two (CutsOk.leaf _) (CutsOk.two (CutsOk.two (CutsOk.leaf _) (CutsOk.two (CutsOk.cut (g := B_tx_encode_L2) (by kernel_rfl) (ct_tx_encode_L2)) (CutsOk.leaf _))) (CutsOk.two (CutsOk.leaf _) (CutsOk.two (CutsOk.two (CutsOk.leaf _) (CutsOk.two (CutsOk.cut (g := B_tx_encode_L3) (by kernel_rfl) (ct_tx_encode_L3)) (CutsOk.leaf _))) (CutsOk.leaf _))))))))) (by intro v; kernel_rfl)
def sg_tx_Encode : Sig := mkSig [(.hole T_8f0a), (.hole .bool)] [] [(.own 0), (.hole (.int .i64))] [(.vec (.int .u8))] (fun p => tx_Encode p.1.1 p.1.2.1)
theorem fk_tx_Encode : FnOk Try.prog 43 := ⟨Try.f43, Try.func43, by kernel_rfl, by kernel_rfl⟩
def cx_tx_Encode : Cx := ⟨tys, lk [(56 + 100000 * 0, sg_tx_encode), (60 + 100000 * 0, sg_tx_small)], 21, 0, [], gl, []⟩
theorem cxo_tx_Encode : CxOk Try.prog (cx_tx_Encode) := ⟨tys_ok, FnsAll.cons 0 rfl fk_tx_encode sd_tx_encode (FnsAll.cons 0 rfl fk_tx_small sd_tx_small (FnsAll.nil))⟩
def gs_tx_Encode : Nat → Option Blk := lk []
theorem sd_tx_Encode : FnSound Try.prog gl 43 sg_tx_Encode :=
  fn_printed (G := gs_tx_Encode) (A := .leaf) (cxo_tx_Encode) follows Try.func43 (by kernel_rfl) (by kernel_rfl) (by kernel_rfl) (by kernel_rfl) (by kernel_rfl) (CutsOk.leaf _) (by intro v; kernel_rfl)
def sg_tx_money : Sig := mkSig [(.hole (.slice T_b101))] [] [(.hole .bool)] [] (fun p => tx_money p.1.1)
theorem fk_tx_money : FnOk Try.prog 44 := ⟨Try.f44, Try.func44, by kernel_rfl, by kernel_rfl⟩
def cx_tx_money : Cx := ⟨tys, lk [], 22, 0, [], gl, []⟩
theorem cxo_tx_money : CxOk Try.prog (cx_tx_money) := ⟨tys_ok, FnsAll.nil⟩
abbrev K0_tx_money_L1 : List (Nat × Ty) := [(6, (.slice T_b101)), (7, (.int .i64))]
abbrev TM_tx_money_L1 : Tm := ⟨[(3, (.hole (.int .i64))), (8, (.hole (.int .i64)))], []⟩
abbrev UO_tx_money_L1 : Outs := (.more .ret ⟨[(2, (.hole .bool))], []⟩ (.one (.exit 0) ⟨[(3, (.hole (.int .i64)))], []⟩))
def B_tx_money_L1 : Blk := frBlk 0 [6, 7] K0_tx_money_L1 TM_tx_money_L1 UO_tx_money_L1 (fun k => loopV (fun v => tx_money_L1 k.1 k.2.1 v))
def gs_tx_money : Nat → Option Blk := lk [(1, B_tx_money_L1)]
theorem ct_tx_money_L1 : CodeSound Try.prog (cx_tx_money) (subL (subR (subL (subR (subR (bodyOf Try.f44)))))) (B_tx_money_L1).D :=
  loop_printed (G := gs_tx_money) (A := .leaf) (T0 := K0_tx_money_L1) (T := TM_tx_money_L1) (U := UO_tx_money_L1) (step := (fun k v => tx_money_L1 k.1 k.2.1 v)) (cxo_tx_money) follows (by kernel_rfl) (by kernel_rfl) (CutsOk.leaf _) (by intro k v; kernel_rfl)
theorem sd_tx_money : FnSound Try.prog gl 44 sg_tx_money :=
  fn_printed (G := gs_tx_money) (A := (.two .leaf (.two .leaf (.two (.two .leaf (.two (.cut 1) .leaf)) .leaf)))) (cxo_tx_money) follows Try.func44 (by kernel_rfl) (by kernel_rfl) (by kernel_rfl) (by kernel_rfl) (by kernel_rfl) (CutsOk.two (CutsOk.leaf _) (CutsOk.two (CutsOk.leaf _) (CutsOk.two (CutsOk.two (CutsOk.leaf _) (CutsOk.two (CutsOk.cut (g := B_tx_money_L1) (by kernel_rfl) (ct_tx_money_L1)) (CutsOk.leaf _))) (CutsOk.leaf _)))) (by intro v; kernel_rfl)
def sg_tx_null : Sig := mkSig [] [] [(.hole T_b85e)] [] (fun p => tx_null)
theorem fk_tx_null : FnOk Try.prog 45 := ⟨Try.f45, Try.func45, by kernel_rfl, by kernel_rfl⟩
def cx_tx_null : Cx := ⟨tys, lk [], 2, 0, [], gl, []⟩
theorem cxo_tx_null : CxOk Try.prog (cx_tx_null) := ⟨tys_ok, FnsAll.nil⟩
def gs_tx_null : Nat → Option Blk := lk []
theorem sd_tx_null : FnSound Try.prog gl 45 sg_tx_null :=
  fn_printed (G := gs_tx_null) (A := .leaf) (cxo_tx_null) follows Try.func45 (by kernel_rfl) (by kernel_rfl) (by kernel_rfl) (by kernel_rfl) (by kernel_rfl) (CutsOk.leaf _) (by intro v; kernel_rfl)
def sg_tx_Coinbase : Sig := mkSig [(.hole T_8f0a)] [] [(.hole .bool)] [] (fun p => tx_Coinbase p.1.1)
theorem fk_tx_Coinbase : FnOk Try.prog 24 := ⟨Try.f24, Try.func24, by kernel_rfl, by kernel_rfl⟩
def cx_tx_Coinbase : Cx := ⟨tys, lk [(45 + 100000 * 0, sg_tx_null)], 16, 0, [], gl, []⟩
theorem cxo_tx_Coinbase : CxOk Try.prog (cx_tx_Coinbase) := ⟨tys_ok, FnsAll.cons 0 rfl fk_tx_null sd_tx_null (FnsAll.nil)⟩
def gs_tx_Coinbase : Nat → Option Blk := lk []
theorem sd_tx_Coinbase : FnSound Try.prog gl 24 sg_tx_Coinbase :=
  fn_printed (G := gs_tx_Coinbase) (A := .leaf) (cxo_tx_Coinbase) follows Try.func24 (by kernel_rfl) (by kernel_rfl) (by kernel_rfl) (by kernel_rfl) (by kernel_rfl) (CutsOk.leaf _) (by intro v; kernel_rfl)
def sg_tx_Check : Sig := mkSig [(.hole T_8f0a)] [] [(.hole (.int .i64))] [] (fun p => tx_Check p.1.1)
theorem fk_tx_Check : FnOk Try.prog 23 := ⟨Try.f23, Try.func23, by kernel_rfl, by kernel_rfl⟩
def cx_tx_Check : Cx := ⟨tys, lk [(24 + 100000 * 0, sg_tx_Coinbase), (43 + 100000 * 0, sg_tx_Encode), (44 + 100000 * 0, sg_tx_money), (45 + 100000 * 0, sg_tx_null)], 54, 0, [], gl, []⟩
theorem cxo_tx_Check : CxOk Try.prog (cx_tx_Check) := ⟨tys_ok, FnsAll.cons 0 rfl fk_tx_Coinbase sd_tx_Coinbase (FnsAll.cons 0 rfl fk_tx_Encode sd_tx_Encode (FnsAll.cons 0 rfl fk_tx_money sd_tx_money (FnsAll.cons 0 rfl fk_tx_null sd_tx_null (FnsAll.nil))))⟩
abbrev K0_tx_Check_L1 : List (Nat × Ty) := [(32, (.slice T_089d)), (33, (.int .i64))]
abbrev TM_tx_Check_L1 : Tm := ⟨[(1, (.ptr 0 [])), (5, (.mref 1)), (34, (.hole (.int .i64)))], [(.box T_8f0a (.hole T_8f0a)), (.mp T_b85e .bool)]⟩
abbrev UO_tx_Check_L1 : Outs := (.more .ret ⟨[(2, (.hole (.int .i64)))], []⟩ (.one (.exit 0) ⟨[(1, (.ptr 0 [])), (5, (.mref 1))], [(.box T_8f0a (.hole T_8f0a)), (.mp T_b85e .bool)]⟩))
def B_tx_Check_L1 : Blk := frBlk 0 [32, 33] K0_tx_Check_L1 TM_tx_Check_L1 UO_tx_Check_L1 (fun k => loopV (fun v => tx_Check_L1 k.1 k.2.1 v))
def gs_tx_Check : Nat → Option Blk := lk [(1, B_tx_Check_L1)]
theorem ct_tx_Check_L1 : CodeSound Try.prog (cx_tx_Check) (subL (subR (subL (subR (subR (subR (subR (subR (bodyOf Try.f23))))))))) (B_tx_Check_L1).D :=
  loop_printed (G := gs_tx_Check) (A := .leaf) (T0 := K0_tx_Check_L1) (T := TM_tx_Check_L1) (U := UO_tx_Check_L1) (step := (fun k v => tx_Check_L1 k.1 k.2.1 v)) (cxo_tx_Check) follows (by kernel_rfl) (by kernel_rfl) (CutsOk.leaf _) (by intro k v; kernel_rfl)
theorem sd_tx_Check : FnSound Try.prog gl 23 sg_tx_Check :=
  fn_printed (G := gs_tx_Check) (A := (.two .leaf (.two .leaf (.two .leaf (.two .leaf (.two .leaf (.two (.two .leaf (.two (.cut 1) .leaf)) .leaf))))))) (cxo_tx_Check) follows Try.func23 (by kernel_rfl) (by kernel_rfl) (by kernel_rfl) (by kernel_rfl) (by kernel_rfl) (CutsOk.two (CutsOk.leaf _) (CutsOk.two (CutsOk.leaf _) (CutsOk.two (CutsOk.leaf _) (CutsOk.two (CutsOk.leaf _) (CutsOk.two (CutsOk.leaf _) (CutsOk.two (CutsOk.two (CutsOk.leaf _) (CutsOk.two (CutsOk.cut (g := B_tx_Check_L1) (by kernel_rfl) (ct_tx_Check_L1)) (CutsOk.leaf _))) (CutsOk.leaf _))))))) (by intro v; kernel_rfl)
def sg_tx_Weight : Sig := mkSig [(.hole T_8f0a)] [] [(.hole (.int .i64))] [] (fun p => tx_Weight p.1.1)
theorem fk_tx_Weight : FnOk Try.prog 37 := ⟨Try.f37, Try.func37, by kernel_rfl, by kernel_rfl⟩
def cx_tx_Weight : Cx := ⟨tys, lk [(43 + 100000 * 0, sg_tx_Encode), (56 + 100000 * 0, sg_tx_encode)], 19, 0, [], gl, []⟩
theorem cxo_tx_Weight : CxOk Try.prog (cx_tx_Weight) := ⟨tys_ok, FnsAll.cons 0 rfl fk_tx_Encode sd_tx_Encode (FnsAll.cons 0 rfl fk_tx_encode sd_tx_encode (FnsAll.nil))⟩
def gs_tx_Weight : Nat → Option Blk := lk []
theorem sd_tx_Weight : FnSound Try.prog gl 37 sg_tx_Weight :=
  fn_printed (G := gs_tx_Weight) (A := .leaf) (cxo_tx_Weight) follows Try.func37 (by kernel_rfl) (by kernel_rfl) (by kernel_rfl) (by kernel_rfl) (by kernel_rfl) (CutsOk.leaf _) (by intro v; kernel_rfl)
end Go.PE.Ytngkldmhekijgaa
end
end

section
set_option maxRecDepth 100000
set_option linter.unusedVariables false
noncomputable section
namespace Go.PE.Ytngkldmhekijgaa
open Go.PE Go.Proofs

def sg_spend_Fee : Sig := mkSig [(.hole T_8f0a), (.hole (.slice T_6b85))] [] [(.hole (.int .i64)), (.hole (.int .i64))] [] (fun p => spend_Fee p.1.1 p.1.2.1)
theorem fk_spend_Fee : FnOk Try.prog 27 := ⟨Try.f27, Try.func27, by kernel_rfl, by kernel_rfl⟩
def cx_spend_Fee : Cx := ⟨tys, lk [(23 + 100000 * 0, sg_tx_Check)], 85, 0, [], gl, []⟩
theorem cxo_spend_Fee : CxOk Try.prog (cx_spend_Fee) := ⟨tys_ok, FnsAll.cons 0 rfl fk_tx_Check sd_tx_Check (FnsAll.nil)⟩
abbrev K0_spend_Fee_L1 : List (Nat × Ty) := [(26, (.slice T_6b85)), (27, (.int .i64))]
abbrev TM_spend_Fee_L1 : Tm := ⟨[(2, (.ptr 0 [])), (28, (.hole (.int .i64)))], [(.box T_8f0a (.hole T_8f0a))]⟩
abbrev UO_spend_Fee_L1 : Outs := (.more .ret ⟨[(4, (.hole (.int .i64))), (5, (.hole (.int .i64)))], []⟩ (.one (.exit 0) ⟨[(2, (.ptr 0 []))], [(.box T_8f0a (.hole T_8f0a))]⟩))
def B_spend_Fee_L1 : Blk := frBlk 0 [1, 26, 27] K0_spend_Fee_L1 TM_spend_Fee_L1 UO_spend_Fee_L1 (fun k => loopV (fun v => spend_Fee_L1 k.1 k.2.1 v))
abbrev K0_spend_Fee_L2 : List (Nat × Ty) := [(43, (.slice T_6b85)), (44, (.int .i64))]
abbrev TM_spend_Fee_L2 : Tm := ⟨[(2, (.ptr 0 [])), (9, (.hole (.int .i64))), (45, (.hole (.int .i64)))], [(.box T_8f0a (.hole T_8f0a))]⟩
abbrev UO_spend_Fee_L2 : Outs := (.more .ret ⟨[(4, (.hole (.int .i64))), (5, (.hole (.int .i64)))], []⟩ (.one (.exit 2) ⟨[(2, (.ptr 0 [])), (9, (.hole (.int .i64)))], [(.box T_8f0a (.hole T_8f0a))]⟩))
def B_spend_Fee_L2 : Blk := frBlk 0 [10, 43, 44] K0_spend_Fee_L2 TM_spend_Fee_L2 UO_spend_Fee_L2 (fun k => loopV (fun v => spend_Fee_L2 k.1 k.2.1 v))
abbrev K0_spend_Fee_L3 : List (Nat × Ty) := [(68, (.slice T_b101)), (69, (.int .i64))]
abbrev TM_spend_Fee_L3 : Tm := ⟨[(10, (.hole (.int .i64))), (70, (.hole (.int .i64)))], []⟩
abbrev UO_spend_Fee_L3 : Outs := (.one (.exit 4) ⟨[(10, (.hole (.int .i64)))], []⟩)
def B_spend_Fee_L3 : Blk := frBlk 0 [9, 68, 69] K0_spend_Fee_L3 TM_spend_Fee_L3 UO_spend_Fee_L3 (fun k => loopV (fun v => spend_Fee_L3 k.1 k.2.1 v))
def gs_spend_Fee : Nat → Option Blk := lk [(1, B_spend_Fee_L1), (2, B_spend_Fee_L2), (3, B_spend_Fee_L3)]
theorem ct_spend_Fee_L3 : CodeSound Try.prog (cx_spend_Fee) (subL (subR (subL (subR (subR (subR (subR (subR (subR (subR (bodyOf Try.f27))))))))))) (B_spend_Fee_L3).D :=
  loop_printed (G := gs_spend_Fee) (A := .leaf) (T0 := K0_spend_Fee_L3) (T := TM_spend_Fee_L3) (U := UO_spend_Fee_L3) (step := (fun k v => spend_Fee_L3 k.1 k.2.1 v)) (cxo_spend_Fee) follows (by kernel_rfl) (by kernel_rfl) (CutsOk.leaf _) (by intro k v; kernel_rfl)
theorem ct_spend_Fee_L2 : CodeSound Try.prog (cx_spend_Fee) (subL (subR (subL (subR (subR (subR (subR (subR (bodyOf Try.f27))))))))) (B_spend_Fee_L2).D :=
  loop_printed (G := gs_spend_Fee) (A := .leaf) (T0 := K0_spend_Fee_L2) (T := TM_spend_Fee_L2) (U := UO_spend_Fee_L2) (step := (fun k v => spend_Fee_L2 k.1 k.2.1 v)) (cxo_spend_Fee) follows (by kernel_rfl) (by kernel_rfl) (CutsOk.leaf _) (by intro k v; kernel_rfl)
theorem ct_spend_Fee_L1 : CodeSound Try.prog (cx_spend_Fee) (subL (subR (subL (subR (subR (subR (bodyOf Try.f27))))))) (B_spend_Fee_L1).D :=
  loop_printed (G := gs_spend_Fee) (A := .leaf) (T0 := K0_spend_Fee_L1) (T := TM_spend_Fee_L1) (U := UO_spend_Fee_L1) (step := (fun k v => spend_Fee_L1 k.1 k.2.1 v)) (cxo_spend_Fee) follows (by kernel_rfl) (by kernel_rfl) (CutsOk.leaf _) (by intro k v; kernel_rfl)
theorem sd_spend_Fee : FnSound Try.prog gl 27 sg_spend_Fee :=
  fn_printed (G := gs_spend_Fee) (A := (.two .leaf (.two .leaf (.two .leaf (.two (.two .leaf (.two (.cut 1) .leaf)) (.two .leaf (.two (.two .leaf (.two (.cut 2) .leaf)) (.two .leaf (.two (.two .leaf (.two (.cut 3) .leaf)) .leaf))))))))) (cxo_spend_Fee) follows Try.func27 (by kernel_rfl) (by kernel_rfl) (by kernel_rfl) (by kernel_rfl) (by kernel_rfl) (CutsOk.two (CutsOk.leaf _) (CutsOk.two (CutsOk.leaf _) (CutsOk.two (CutsOk.leaf _) (CutsOk.two (CutsOk.two (CutsOk.leaf _) (CutsOk.two (CutsOk.cut (g := B_spend_Fee_L1) (by kernel_rfl) (ct_spend_Fee_L1)) (CutsOk.leaf _))) (CutsOk.two (CutsOk.leaf _) (CutsOk.two (CutsOk.two (CutsOk.leaf _) (CutsOk.two (CutsOk.cut (g := B_spend_Fee_L2) (by kernel_rfl) (ct_spend_Fee_L2)) (CutsOk.leaf _))) (CutsOk.two (CutsOk.leaf _) (CutsOk.two (CutsOk.two (CutsOk.leaf _) (CutsOk.two (CutsOk.cut (g := B_spend_Fee_L3) (by kernel_rfl) (ct_spend_Fee_L3)) (CutsOk.leaf _))) (CutsOk.leaf _))))))))) (by intro v; kernel_rfl)
end Go.PE.Ytngkldmhekijgaa
end
end

section
set_option maxRecDepth 100000
set_option linter.unusedVariables false
noncomputable section
namespace Go.PE.Ytngkldmhekijgaa
open Go.PE Go.Proofs

def sg_slices_IndexFunc_api_Input_api_Input_b : Sig := mkSig [(.hole (.slice T_089d)), (.fn 26 .nnil)] [] [(.hole (.int .i64))] [] (fun p => slices_IndexFunc_api_Input_api_Input_b p.1.1)
theorem fk_slices_IndexFunc_api_Input_api_Input_b : FnOk Try.prog 46 := ⟨Try.f46, Try.func46, by kernel_rfl, by kernel_rfl⟩
def cx_slices_IndexFunc_api_Input_api_Input_b : Cx := ⟨tys, lk [(26 + 100000 * 0, sg_build_Valid_1)], 19, 0, [], gl, []⟩
theorem cxo_slices_IndexFunc_api_Input_api_Input_b : CxOk Try.prog (cx_slices_IndexFunc_api_Input_api_Input_b) := ⟨tys_ok, FnsAll.cons 0 rfl fk_build_Valid_1 sd_build_Valid_1 (FnsAll.nil)⟩
abbrev K0_slices_IndexFunc_api_Input_api_Input_b_L1 : List (Nat × Ty) := [(0, (.slice T_089d)), (7, (.int .i64))]
abbrev TM_slices_IndexFunc_api_Input_api_Input_b_L1 : Tm := ⟨[(1, (.fn 26 .nnil)), (8, (.hole (.int .i64)))], []⟩
abbrev UO_slices_IndexFunc_api_Input_api_Input_b_L1 : Outs := (.more .ret ⟨[(4, (.hole (.int .i64)))], []⟩ (.one (.exit 0) ⟨[], []⟩))
def B_slices_IndexFunc_api_Input_api_Input_b_L1 : Blk := frBlk 0 [0, 1, 7] K0_slices_IndexFunc_api_Input_api_Input_b_L1 TM_slices_IndexFunc_api_Input_api_Input_b_L1 UO_slices_IndexFunc_api_Input_api_Input_b_L1 (fun k => loopV (fun v => slices_IndexFunc_api_Input_api_Input_b_L1 k.1 k.2.1 v))
def gs_slices_IndexFunc_api_Input_api_Input_b : Nat → Option Blk := lk [(1, B_slices_IndexFunc_api_Input_api_Input_b_L1)]
theorem ct_slices_IndexFunc_api_Input_api_Input_b_L1 : CodeSound Try.prog (cx_slices_IndexFunc_api_Input_api_Input_b) (subL (subR (subL (subR (bodyOf Try.f46))))) (B_slices_IndexFunc_api_Input_api_Input_b_L1).D :=
  loop_printed (G := gs_slices_IndexFunc_api_Input_api_Input_b) (A := .leaf) (T0 := K0_slices_IndexFunc_api_Input_api_Input_b_L1) (T := TM_slices_IndexFunc_api_Input_api_Input_b_L1) (U := UO_slices_IndexFunc_api_Input_api_Input_b_L1) (step := (fun k v => slices_IndexFunc_api_Input_api_Input_b_L1 k.1 k.2.1 v)) (cxo_slices_IndexFunc_api_Input_api_Input_b) follows (by kernel_rfl) (by kernel_rfl) (CutsOk.leaf _) (by intro k v; kernel_rfl)
theorem sd_slices_IndexFunc_api_Input_api_Input_b : FnSound Try.prog gl 46 sg_slices_IndexFunc_api_Input_api_Input_b :=
  fn_printed (G := gs_slices_IndexFunc_api_Input_api_Input_b) (A := (.two .leaf (.two (.two .leaf (.two (.cut 1) .leaf)) .leaf))) (cxo_slices_IndexFunc_api_Input_api_Input_b) follows Try.func46 (by kernel_rfl) (by kernel_rfl) (by kernel_rfl) (by kernel_rfl) (by kernel_rfl) (CutsOk.two (CutsOk.leaf _) (CutsOk.two (CutsOk.two (CutsOk.leaf _) (CutsOk.two (CutsOk.cut (g := B_slices_IndexFunc_api_Input_api_Input_b_L1) (by kernel_rfl) (ct_slices_IndexFunc_api_Input_api_Input_b_L1)) (CutsOk.leaf _))) (CutsOk.leaf _))) (by intro v; kernel_rfl)
def sg_slices_ContainsFunc_api_Input_api_Input_b : Sig := mkSig [(.hole (.slice T_089d)), (.fn 26 .nnil)] [] [(.hole .bool)] [] (fun p => slices_ContainsFunc_api_Input_api_Input_b p.1.1)
theorem fk_slices_ContainsFunc_api_Input_api_Input_b : FnOk Try.prog 25 := ⟨Try.f25, Try.func25, by kernel_rfl, by kernel_rfl⟩
def cx_slices_ContainsFunc_api_Input_api_Input_b : Cx := ⟨tys, lk [(46 + 100000 * 0, sg_slices_IndexFunc_api_Input_api_Input_b)], 9, 0, [], gl, []⟩
theorem cxo_slices_ContainsFunc_api_Input_api_Input_b : CxOk Try.prog (cx_slices_ContainsFunc_api_Input_api_Input_b) := ⟨tys_ok, FnsAll.cons 0 rfl fk_slices_IndexFunc_api_Input_api_Input_b sd_slices_IndexFunc_api_Input_api_Input_b (FnsAll.nil)⟩
def gs_slices_ContainsFunc_api_Input_api_Input_b : Nat → Option Blk := lk []
theorem sd_slices_ContainsFunc_api_Input_api_Input_b : FnSound Try.prog gl 25 sg_slices_ContainsFunc_api_Input_api_Input_b :=
  fn_printed (G := gs_slices_ContainsFunc_api_Input_api_Input_b) (A := .leaf) (cxo_slices_ContainsFunc_api_Input_api_Input_b) follows Try.func25 (by kernel_rfl) (by kernel_rfl) (by kernel_rfl) (by kernel_rfl) (by kernel_rfl) (CutsOk.leaf _) (by intro v; kernel_rfl)
def sg_build_Valid : Sig := mkSig [(.hole T_0798)] [] [(.hole .bool)] [] (fun p => build_Valid p.1.1)
theorem fk_build_Valid : FnOk Try.prog 11 := ⟨Try.f11, Try.func11, by kernel_rfl, by kernel_rfl⟩
def cx_build_Valid : Cx := ⟨tys, lk [(25 + 100000 * 0, sg_slices_ContainsFunc_api_Input_api_Input_b), (27 + 100000 * 0, sg_spend_Fee), (23 + 100000 * 0, sg_tx_Check), (24 + 100000 * 0, sg_tx_Coinbase)], 48, 0, [], gl, []⟩
theorem cxo_build_Valid : CxOk Try.prog (cx_build_Valid) := ⟨tys_ok, FnsAll.cons 0 rfl fk_slices_ContainsFunc_api_Input_api_Input_b sd_slices_ContainsFunc_api_Input_api_Input_b (FnsAll.cons 0 rfl fk_spend_Fee sd_spend_Fee (FnsAll.cons 0 rfl fk_tx_Check sd_tx_Check (FnsAll.cons 0 rfl fk_tx_Coinbase sd_tx_Coinbase (FnsAll.nil))))⟩
def gs_build_Valid : Nat → Option Blk := lk []
theorem sd_build_Valid : FnSound Try.prog gl 11 sg_build_Valid :=
  fn_printed (G := gs_build_Valid) (A := .leaf) (cxo_build_Valid) follows Try.func11 (by kernel_rfl) (by kernel_rfl) (by kernel_rfl) (by kernel_rfl) (by kernel_rfl) (CutsOk.leaf _) (by intro v; kernel_rfl)
def sg_slices_IndexFunc_api_Output_api_Output : Sig := mkSig [(.hole (.slice T_b101)), (.fn 50 .nnil)] [] [(.hole (.int .i64))] [] (fun p => slices_IndexFunc_api_Output_api_Output p.1.1)
theorem fk_slices_IndexFunc_api_Output_api_Output : FnOk Try.prog 62 := ⟨Try.f62, Try.func62, by kernel_rfl, by kernel_rfl⟩
def cx_slices_IndexFunc_api_Output_api_Output : Cx := ⟨tys, lk [(50 + 100000 * 0, sg_build_fault_1)], 19, 0, [], gl, []⟩
theorem cxo_slices_IndexFunc_api_Output_api_Output : CxOk Try.prog (cx_slices_IndexFunc_api_Output_api_Output) := ⟨tys_ok, FnsAll.cons 0 rfl fk_build_fault_1 sd_build_fault_1 (FnsAll.nil)⟩
abbrev K0_slices_IndexFunc_api_Output_api_Output_L1 : List (Nat × Ty) := [(0, (.slice T_b101)), (7, (.int .i64))]
abbrev TM_slices_IndexFunc_api_Output_api_Output_L1 : Tm := ⟨[(1, (.fn 50 .nnil)), (8, (.hole (.int .i64)))], []⟩
abbrev UO_slices_IndexFunc_api_Output_api_Output_L1 : Outs := (.more .ret ⟨[(4, (.hole (.int .i64)))], []⟩ (.one (.exit 0) ⟨[], []⟩))
def B_slices_IndexFunc_api_Output_api_Output_L1 : Blk := frBlk 0 [0, 1, 7] K0_slices_IndexFunc_api_Output_api_Output_L1 TM_slices_IndexFunc_api_Output_api_Output_L1 UO_slices_IndexFunc_api_Output_api_Output_L1 (fun k => loopV (fun v => slices_IndexFunc_api_Output_api_Output_L1 k.1 k.2.1 v))
def gs_slices_IndexFunc_api_Output_api_Output : Nat → Option Blk := lk [(1, B_slices_IndexFunc_api_Output_api_Output_L1)]
theorem ct_slices_IndexFunc_api_Output_api_Output_L1 : CodeSound Try.prog (cx_slices_IndexFunc_api_Output_api_Output) (subL (subR (subL (subR (bodyOf Try.f62))))) (B_slices_IndexFunc_api_Output_api_Output_L1).D :=
  loop_printed (G := gs_slices_IndexFunc_api_Output_api_Output) (A := .leaf) (T0 := K0_slices_IndexFunc_api_Output_api_Output_L1) (T := TM_slices_IndexFunc_api_Output_api_Output_L1) (U := UO_slices_IndexFunc_api_Output_api_Output_L1) (step := (fun k v => slices_IndexFunc_api_Output_api_Output_L1 k.1 k.2.1 v)) (cxo_slices_IndexFunc_api_Output_api_Output) follows (by kernel_rfl) (by kernel_rfl) (CutsOk.leaf _) (by intro k v; kernel_rfl)
theorem sd_slices_IndexFunc_api_Output_api_Output : FnSound Try.prog gl 62 sg_slices_IndexFunc_api_Output_api_Output :=
  fn_printed (G := gs_slices_IndexFunc_api_Output_api_Output) (A := (.two .leaf (.two (.two .leaf (.two (.cut 1) .leaf)) .leaf))) (cxo_slices_IndexFunc_api_Output_api_Output) follows Try.func62 (by kernel_rfl) (by kernel_rfl) (by kernel_rfl) (by kernel_rfl) (by kernel_rfl) (CutsOk.two (CutsOk.leaf _) (CutsOk.two (CutsOk.two (CutsOk.leaf _) (CutsOk.two (CutsOk.cut (g := B_slices_IndexFunc_api_Output_api_Output_L1) (by kernel_rfl) (ct_slices_IndexFunc_api_Output_api_Output_L1)) (CutsOk.leaf _))) (CutsOk.leaf _))) (by intro v; kernel_rfl)
def sg_slices_ContainsFunc_api_Output_api_Output : Sig := mkSig [(.hole (.slice T_b101)), (.fn 50 .nnil)] [] [(.hole .bool)] [] (fun p => slices_ContainsFunc_api_Output_api_Output p.1.1)
theorem fk_slices_ContainsFunc_api_Output_api_Output : FnOk Try.prog 49 := ⟨Try.f49, Try.func49, by kernel_rfl, by kernel_rfl⟩
def cx_slices_ContainsFunc_api_Output_api_Output : Cx := ⟨tys, lk [(62 + 100000 * 0, sg_slices_IndexFunc_api_Output_api_Output)], 9, 0, [], gl, []⟩
theorem cxo_slices_ContainsFunc_api_Output_api_Output : CxOk Try.prog (cx_slices_ContainsFunc_api_Output_api_Output) := ⟨tys_ok, FnsAll.cons 0 rfl fk_slices_IndexFunc_api_Output_api_Output sd_slices_IndexFunc_api_Output_api_Output (FnsAll.nil)⟩
def gs_slices_ContainsFunc_api_Output_api_Output : Nat → Option Blk := lk []
theorem sd_slices_ContainsFunc_api_Output_api_Output : FnSound Try.prog gl 49 sg_slices_ContainsFunc_api_Output_api_Output :=
  fn_printed (G := gs_slices_ContainsFunc_api_Output_api_Output) (A := .leaf) (cxo_slices_ContainsFunc_api_Output_api_Output) follows Try.func49 (by kernel_rfl) (by kernel_rfl) (by kernel_rfl) (by kernel_rfl) (by kernel_rfl) (CutsOk.leaf _) (by intro v; kernel_rfl)
def sg_slices_IndexFunc_api_Spendable_api_Spendable : Sig := mkSig [(.hole (.slice T_c1fb)), (.fn 52 .nnil)] [] [(.hole (.int .i64))] [] (fun p => slices_IndexFunc_api_Spendable_api_Spendable p.1.1)
theorem fk_slices_IndexFunc_api_Spendable_api_Spendable : FnOk Try.prog 63 := ⟨Try.f63, Try.func63, by kernel_rfl, by kernel_rfl⟩
def cx_slices_IndexFunc_api_Spendable_api_Spendable : Cx := ⟨tys, lk [(52 + 100000 * 0, sg_build_fault_2)], 19, 0, [], gl, []⟩
theorem cxo_slices_IndexFunc_api_Spendable_api_Spendable : CxOk Try.prog (cx_slices_IndexFunc_api_Spendable_api_Spendable) := ⟨tys_ok, FnsAll.cons 0 rfl fk_build_fault_2 sd_build_fault_2 (FnsAll.nil)⟩
abbrev K0_slices_IndexFunc_api_Spendable_api_Spendable_L1 : List (Nat × Ty) := [(0, (.slice T_c1fb)), (7, (.int .i64))]
abbrev TM_slices_IndexFunc_api_Spendable_api_Spendable_L1 : Tm := ⟨[(1, (.fn 52 .nnil)), (8, (.hole (.int .i64)))], []⟩
abbrev UO_slices_IndexFunc_api_Spendable_api_Spendable_L1 : Outs := (.more .ret ⟨[(4, (.hole (.int .i64)))], []⟩ (.one (.exit 0) ⟨[], []⟩))
def B_slices_IndexFunc_api_Spendable_api_Spendable_L1 : Blk := frBlk 0 [0, 1, 7] K0_slices_IndexFunc_api_Spendable_api_Spendable_L1 TM_slices_IndexFunc_api_Spendable_api_Spendable_L1 UO_slices_IndexFunc_api_Spendable_api_Spendable_L1 (fun k => loopV (fun v => slices_IndexFunc_api_Spendable_api_Spendable_L1 k.1 k.2.1 v))
def gs_slices_IndexFunc_api_Spendable_api_Spendable : Nat → Option Blk := lk [(1, B_slices_IndexFunc_api_Spendable_api_Spendable_L1)]
theorem ct_slices_IndexFunc_api_Spendable_api_Spendable_L1 : CodeSound Try.prog (cx_slices_IndexFunc_api_Spendable_api_Spendable) (subL (subR (subL (subR (bodyOf Try.f63))))) (B_slices_IndexFunc_api_Spendable_api_Spendable_L1).D :=
  loop_printed (G := gs_slices_IndexFunc_api_Spendable_api_Spendable) (A := .leaf) (T0 := K0_slices_IndexFunc_api_Spendable_api_Spendable_L1) (T := TM_slices_IndexFunc_api_Spendable_api_Spendable_L1) (U := UO_slices_IndexFunc_api_Spendable_api_Spendable_L1) (step := (fun k v => slices_IndexFunc_api_Spendable_api_Spendable_L1 k.1 k.2.1 v)) (cxo_slices_IndexFunc_api_Spendable_api_Spendable) follows (by kernel_rfl) (by kernel_rfl) (CutsOk.leaf _) (by intro k v; kernel_rfl)
theorem sd_slices_IndexFunc_api_Spendable_api_Spendable : FnSound Try.prog gl 63 sg_slices_IndexFunc_api_Spendable_api_Spendable :=
  fn_printed (G := gs_slices_IndexFunc_api_Spendable_api_Spendable) (A := (.two .leaf (.two (.two .leaf (.two (.cut 1) .leaf)) .leaf))) (cxo_slices_IndexFunc_api_Spendable_api_Spendable) follows Try.func63 (by kernel_rfl) (by kernel_rfl) (by kernel_rfl) (by kernel_rfl) (by kernel_rfl) (CutsOk.two (CutsOk.leaf _) (CutsOk.two (CutsOk.two (CutsOk.leaf _) (CutsOk.two (CutsOk.cut (g := B_slices_IndexFunc_api_Spendable_api_Spendable_L1) (by kernel_rfl) (ct_slices_IndexFunc_api_Spendable_api_Spendable_L1)) (CutsOk.leaf _))) (CutsOk.leaf _))) (by intro v; kernel_rfl)
def sg_slices_ContainsFunc_api_Spendable_api_Spendable : Sig := mkSig [(.hole (.slice T_c1fb)), (.fn 52 .nnil)] [] [(.hole .bool)] [] (fun p => slices_ContainsFunc_api_Spendable_api_Spendable p.1.1)
theorem fk_slices_ContainsFunc_api_Spendable_api_Spendable : FnOk Try.prog 51 := ⟨Try.f51, Try.func51, by kernel_rfl, by kernel_rfl⟩
def cx_slices_ContainsFunc_api_Spendable_api_Spendable : Cx := ⟨tys, lk [(63 + 100000 * 0, sg_slices_IndexFunc_api_Spendable_api_Spendable)], 9, 0, [], gl, []⟩
theorem cxo_slices_ContainsFunc_api_Spendable_api_Spendable : CxOk Try.prog (cx_slices_ContainsFunc_api_Spendable_api_Spendable) := ⟨tys_ok, FnsAll.cons 0 rfl fk_slices_IndexFunc_api_Spendable_api_Spendable sd_slices_IndexFunc_api_Spendable_api_Spendable (FnsAll.nil)⟩
def gs_slices_ContainsFunc_api_Spendable_api_Spendable : Nat → Option Blk := lk []
theorem sd_slices_ContainsFunc_api_Spendable_api_Spendable : FnSound Try.prog gl 51 sg_slices_ContainsFunc_api_Spendable_api_Spendable :=
  fn_printed (G := gs_slices_ContainsFunc_api_Spendable_api_Spendable) (A := .leaf) (cxo_slices_ContainsFunc_api_Spendable_api_Spendable) follows Try.func51 (by kernel_rfl) (by kernel_rfl) (by kernel_rfl) (by kernel_rfl) (by kernel_rfl) (CutsOk.leaf _) (by intro v; kernel_rfl)
def sg_build_fault : Sig := mkSig [(.hole (.slice T_c1fb)), (.hole (.slice T_b101)), (.hole (.slice (.int .u8))), (.hole (.int .i64))] [] [(.hole (.int .i64))] [] (fun p => build_fault p.1.1 p.1.2.1 p.1.2.2.1 p.1.2.2.2.1)
theorem fk_build_fault : FnOk Try.prog 32 := ⟨Try.f32, Try.func32, by kernel_rfl, by kernel_rfl⟩
def cx_build_fault : Cx := ⟨tys, lk [(33 + 100000 * 0, sg_build_sum), (49 + 100000 * 0, sg_slices_ContainsFunc_api_Output_api_Output), (51 + 100000 * 0, sg_slices_ContainsFunc_api_Spendable_api_Spendable)], 89, 0, [], gl, []⟩
theorem cxo_build_fault : CxOk Try.prog (cx_build_fault) := ⟨tys_ok, FnsAll.cons 0 rfl fk_build_sum sd_build_sum (FnsAll.cons 0 rfl fk_slices_ContainsFunc_api_Output_api_Output sd_slices_ContainsFunc_api_Output_api_Output (FnsAll.cons 0 rfl fk_slices_ContainsFunc_api_Spendable_api_Spendable sd_slices_ContainsFunc_api_Spendable_api_Spendable (FnsAll.nil)))⟩
abbrev K0_build_fault_L1 : List (Nat × Ty) := [(23, (.slice T_c1fb)), (24, (.int .i64))]
abbrev TM_build_fault_L1 : Tm := ⟨[(25, (.hole (.int .i64)))], []⟩
abbrev UO_build_fault_L1 : Outs := (.more .ret ⟨[(8, (.hole (.int .i64)))], []⟩ (.one (.exit 0) ⟨[], []⟩))
def B_build_fault_L1 : Blk := frBlk 0 [0, 1, 2, 23, 24] K0_build_fault_L1 TM_build_fault_L1 UO_build_fault_L1 (fun k => loopV (fun v => build_fault_L1 k.1 k.2.1 v))
abbrev K0_build_fault_L2 : List (Nat × Ty) := [(73, (.slice T_c1fb)), (74, (.int .i64))]
abbrev TM_build_fault_L2 : Tm := ⟨[(14, (.mref 0)), (75, (.hole (.int .i64)))], [(.mp T_b85e .bool)]⟩
abbrev UO_build_fault_L2 : Outs := (.more .ret ⟨[(8, (.hole (.int .i64)))], []⟩ (.one (.exit 2) ⟨[], []⟩))
def B_build_fault_L2 : Blk := frBlk 0 [73, 74] K0_build_fault_L2 TM_build_fault_L2 UO_build_fault_L2 (fun k => loopV (fun v => build_fault_L2 k.1 k.2.1 v))
def gs_build_fault : Nat → Option Blk := lk [(1, B_build_fault_L1), (2, B_build_fault_L2)]
theorem ct_build_fault_L2 : CodeSound Try.prog (cx_build_fault) (subL (subR (subL (subR (subR (subR (subR (subR (subR (subR (subR (subR (bodyOf Try.f32))))))))))))) (B_build_fault_L2).D :=
  loop_printed (G := gs_build_fault) (A := .leaf) (T0 := K0_build_fault_L2) (T := TM_build_fault_L2) (U := UO_build_fault_L2) (step := (fun k v => build_fault_L2 k.1 k.2.1 v)) (cxo_build_fault) follows (by kernel_rfl) (by kernel_rfl) (CutsOk.leaf _) (by intro k v; kernel_rfl)
theorem ct_build_fault_L1 : CodeSound Try.prog (cx_build_fault) (subL (subR (subL (subR (subR (bodyOf Try.f32)))))) (B_build_fault_L1).D :=
  loop_printed (G := gs_build_fault) (A := .leaf) (T0 := K0_build_fault_L1) (T := TM_build_fault_L1) (U := UO_build_fault_L1) (step := (fun k v => build_fault_L1 k.1 k.2.1 v)) (cxo_build_fault) follows (by kernel_rfl) (by kernel_rfl) (CutsOk.leaf _) (by intro k v; kernel_rfl)
theorem sd_build_fault : FnSound Try.prog gl 32 sg_build_fault :=
  fn_printed (G := gs_build_fault) (A := (.two .leaf (.two .leaf (.two (.two .leaf (.two (.cut 1) .leaf)) (.two .leaf (.two .leaf (.two .leaf (.two .leaf (.two .leaf (.two .leaf (.two (.two .leaf (.two (.cut 2) .leaf)) .leaf))))))))))) (cxo_build_fault) follows Try.func32 (by kernel_rfl) (by kernel_rfl) (by kernel_rfl) (by kernel_rfl) (by kernel_rfl) (CutsOk.two (CutsOk.leaf _) (CutsOk.two (CutsOk.leaf _) (CutsOk.two (CutsOk.two (CutsOk.leaf _) (CutsOk.two (CutsOk.cut (g := B_build_fault_L1) (by kernel_rfl) (ct_build_fault_L1)) (CutsOk.leaf _))) (CutsOk.two (CutsOk.leaf _) (CutsOk.two (CutsOk.leaf _) (CutsOk.two (CutsOk.leaf _) (CutsOk.two (CutsOk.leaf _) (CutsOk.two (CutsOk.leaf _) (CutsOk.two (CutsOk.leaf _) (CutsOk.two (CutsOk.two (CutsOk.leaf _) (CutsOk.two (CutsOk.cut (g := B_build_fault_L2) (by kernel_rfl) (ct_build_fault_L2)) (CutsOk.leaf _))) (CutsOk.leaf _))))))))))) (by intro v; kernel_rfl)
theorem fk_slices_Clone_api_Output_api_Output : FnOk Try.prog 54 := ⟨Try.f54, Try.func54, by kernel_rfl, by kernel_rfl⟩
def cx_slices_Clone_api_Output_api_Output : Cx := ⟨tys, lk [], 8, 0, [], gl, []⟩
def sg_slices_Clone_api_Output_api_Output : Sig := cloneSig T_b101
theorem bd_slices_Clone_api_Output_api_Output : Try.f54.body = some (bodyOf Try.f54) := by kernel_rfl
theorem sd_slices_Clone_api_Output_api_Output : FnSound Try.prog gl 54 sg_slices_Clone_api_Output_api_Output :=
  clone_sound (C := cx_slices_Clone_api_Output_api_Output) (T := T_b101) (st := 28) (st2 := 28) (b := (bodyOf Try.f54)) (c1 := (subL (bodyOf Try.f54))) (c2 := (subL (subL (subR (bodyOf Try.f54))))) (X := (subL (subR (subL (subR (bodyOf Try.f54)))))) (R := (subR (subR (bodyOf Try.f54)))) ⟨tys_ok, FnsAll.nil⟩ follows rfl rfl Try.func54 bd_slices_Clone_api_Output_api_Output (by kernel_rfl) (by kernel_rfl) (by kernel_rfl) (by kernel_rfl) (by kernel_rfl) (by kernel_rfl) (by kernel_rfl) (by kernel_rfl) (by kernel_rfl) (by kernel_rfl) (by kernel_rfl) ty_28 (by intro xs; kernel_rfl) (by kernel_rfl) (by intro xs; kernel_rfl)
theorem fk_slices_Clone_api_Input_api_Input : FnOk Try.prog 73 := ⟨Try.f73, Try.func73, by kernel_rfl, by kernel_rfl⟩
def cx_slices_Clone_api_Input_api_Input : Cx := ⟨tys, lk [], 8, 0, [], gl, []⟩
def sg_slices_Clone_api_Input_api_Input : Sig := cloneSig T_089d
theorem bd_slices_Clone_api_Input_api_Input : Try.f73.body = some (bodyOf Try.f73) := by kernel_rfl
theorem sd_slices_Clone_api_Input_api_Input : FnSound Try.prog gl 73 sg_slices_Clone_api_Input_api_Input :=
  clone_sound (C := cx_slices_Clone_api_Input_api_Input) (T := T_089d) (st := 27) (st2 := 27) (b := (bodyOf Try.f73)) (c1 := (subL (bodyOf Try.f73))) (c2 := (subL (subL (subR (bodyOf Try.f73))))) (X := (subL (subR (subL (subR (bodyOf Try.f73)))))) (R := (subR (subR (bodyOf Try.f73)))) ⟨tys_ok, FnsAll.nil⟩ follows rfl rfl Try.func73 bd_slices_Clone_api_Input_api_Input (by kernel_rfl) (by kernel_rfl) (by kernel_rfl) (by kernel_rfl) (by kernel_rfl) (by kernel_rfl) (by kernel_rfl) (by kernel_rfl) (by kernel_rfl) (by kernel_rfl) (by kernel_rfl) ty_27 (by intro xs; kernel_rfl) (by kernel_rfl) (by intro xs; kernel_rfl)
end Go.PE.Ytngkldmhekijgaa
end
end

section
set_option maxRecDepth 100000
set_option linter.unusedVariables false
noncomputable section
namespace Go.PE.Ytngkldmhekijgaa
open Go.PE Go.Proofs

def sg_clone_Output : Sig := mkSig [(.hole T_b101)] [] [(.ncons (.hole (.int .i64)) (.ncons (.own 0) .nnil))] [(.vec (.int .u8))] (fun p => clone_Output p.1.1)
theorem fk_clone_Output : FnOk Try.prog 35 := ⟨Try.f35, Try.func35, by kernel_rfl, by kernel_rfl⟩
def cx_clone_Output : Cx := ⟨tys, lk [(39 + 100000 * 0, sg_slices_Clone_byte_byte_a)], 8, 0, [], gl, []⟩
theorem cxo_clone_Output : CxOk Try.prog (cx_clone_Output) := ⟨tys_ok, FnsAll.cons 0 rfl fk_slices_Clone_byte_byte_a sd_slices_Clone_byte_byte_a (FnsAll.nil)⟩
def gs_clone_Output : Nat → Option Blk := lk []
theorem sd_clone_Output : FnSound Try.prog gl 35 sg_clone_Output :=
  fn_printed (G := gs_clone_Output) (A := .leaf) (cxo_clone_Output) follows Try.func35 (by kernel_rfl) (by kernel_rfl) (by kernel_rfl) (by kernel_rfl) (by kernel_rfl) (CutsOk.leaf _) (by intro v; kernel_rfl)
def sg_clone_Each_api_Output : Sig := mkSig [(.hole (.slice T_b101)), (.fn 35 .nnil)] [] [(.own 0)] [(.vec T_b101)] (fun p => clone_Each_api_Output p.1.1)
theorem fk_clone_Each_api_Output : FnOk Try.prog 34 := ⟨Try.f34, Try.func34, by kernel_rfl, by kernel_rfl⟩
def cx_clone_Each_api_Output : Cx := ⟨tys, lk [(35 + 100000 * 0, sg_clone_Output), (54 + 100000 * 0, sg_slices_Clone_api_Output_api_Output)], 25, 0, [], gl, []⟩
theorem cxo_clone_Each_api_Output : CxOk Try.prog (cx_clone_Each_api_Output) := ⟨tys_ok, FnsAll.cons 0 rfl fk_clone_Output sd_clone_Output (FnsAll.cons 0 rfl fk_slices_Clone_api_Output_api_Output sd_slices_Clone_api_Output_api_Output (FnsAll.nil))⟩
abbrev K0_clone_Each_api_Output_L1 : List (Nat × Ty) := [(11, (.int .i64))]
abbrev TM_clone_Each_api_Output_L1 : Tm := ⟨[(1, (.fn 35 .nnil)), (5, (.own 0)), (10, (.own 0)), (12, (.hole (.int .i64)))], [(.vec T_b101)]⟩
abbrev UO_clone_Each_api_Output_L1 : Outs := (.one (.exit 0) ⟨[(5, (.own 0))], [(.vec T_b101)]⟩)
def B_clone_Each_api_Output_L1 : Blk := frBlk 0 [1, 4, 11] K0_clone_Each_api_Output_L1 TM_clone_Each_api_Output_L1 UO_clone_Each_api_Output_L1 (fun k => loopV (fun v => clone_Each_api_Output_L1 k.1 v))
def gs_clone_Each_api_Output : Nat → Option Blk := lk [(1, B_clone_Each_api_Output_L1)]
theorem ct_clone_Each_api_Output_L1 : CodeSound Try.prog (cx_clone_Each_api_Output) (subL (subR (subL (subR (subR (bodyOf Try.f34)))))) (B_clone_Each_api_Output_L1).D :=
  loop_printed (G := gs_clone_Each_api_Output) (A := .leaf) (T0 := K0_clone_Each_api_Output_L1) (T := TM_clone_Each_api_Output_L1) (U := UO_clone_Each_api_Output_L1) (step := (fun k v => clone_Each_api_Output_L1 k.1 v)) (cxo_clone_Each_api_Output) follows (by kernel_rfl) (by kernel_rfl) (CutsOk.leaf _) (by intro k v; kernel_rfl)
theorem sd_clone_Each_api_Output : FnSound Try.prog gl 34 sg_clone_Each_api_Output :=
  fn_printed (G := gs_clone_Each_api_Output) (A := (.two .leaf (.two .leaf (.two (.two .leaf (.two (.cut 1) .leaf)) .leaf)))) (cxo_clone_Each_api_Output) follows Try.func34 (by kernel_rfl) (by kernel_rfl) (by kernel_rfl) (by kernel_rfl) (by kernel_rfl) (CutsOk.two (CutsOk.leaf _) (CutsOk.two (CutsOk.leaf _) (CutsOk.two (CutsOk.two (CutsOk.leaf _) (CutsOk.two (CutsOk.cut (g := B_clone_Each_api_Output_L1) (by kernel_rfl) (ct_clone_Each_api_Output_L1)) (CutsOk.leaf _))) (CutsOk.leaf _)))) (by intro v; kernel_rfl)
def sg_clone_Coin : Sig := mkSig [(.hole T_6b85)] [] [(.ncons (.hole T_b85e) (.ncons (.ncons (.hole (.int .i64)) (.ncons (.own 0) .nnil)) (.hole (.cons (.int .i64) (.cons .bool .nil)))))] [(.vec (.int .u8))] (fun p => clone_Coin p.1.1)
theorem fk_clone_Coin : FnOk Try.prog 38 := ⟨Try.f38, Try.func38, by kernel_rfl, by kernel_rfl⟩
def cx_clone_Coin : Cx := ⟨tys, lk [(35 + 100000 * 0, sg_clone_Output)], 8, 0, [], gl, []⟩
theorem cxo_clone_Coin : CxOk Try.prog (cx_clone_Coin) := ⟨tys_ok, FnsAll.cons 0 rfl fk_clone_Output sd_clone_Output (FnsAll.nil)⟩
def gs_clone_Coin : Nat → Option Blk := lk []
theorem sd_clone_Coin : FnSound Try.prog gl 38 sg_clone_Coin :=
  fn_printed (G := gs_clone_Coin) (A := .leaf) (cxo_clone_Coin) follows Try.func38 (by kernel_rfl) (by kernel_rfl) (by kernel_rfl) (by kernel_rfl) (by kernel_rfl) (CutsOk.leaf _) (by intro v; kernel_rfl)
def sg_clone_Each_byte : Sig := mkSig [(.hole (.slice (.slice (.int .u8)))), (.fn 39 .nnil)] [] [(.own 0)] [(.vec (.slice (.int .u8)))] (fun p => clone_Each_byte p.1.1)
theorem fk_clone_Each_byte : FnOk Try.prog 74 := ⟨Try.f74, Try.func74, by kernel_rfl, by kernel_rfl⟩
def cx_clone_Each_byte : Cx := ⟨tys, lk [(87 + 100000 * 0, sg_slices_Clone_byte_byte), (39 + 100000 * 0, sg_slices_Clone_byte_byte_a)], 25, 0, [], gl, []⟩
theorem cxo_clone_Each_byte : CxOk Try.prog (cx_clone_Each_byte) := ⟨tys_ok, FnsAll.cons 0 rfl fk_slices_Clone_byte_byte sd_slices_Clone_byte_byte (FnsAll.cons 0 rfl fk_slices_Clone_byte_byte_a sd_slices_Clone_byte_byte_a (FnsAll.nil))⟩
abbrev K0_clone_Each_byte_L1 : List (Nat × Ty) := [(11, (.int .i64))]
abbrev TM_clone_Each_byte_L1 : Tm := ⟨[(1, (.fn 39 .nnil)), (5, (.own 0)), (10, (.own 0)), (12, (.hole (.int .i64)))], [(.vec (.slice (.int .u8)))]⟩
abbrev UO_clone_Each_byte_L1 : Outs := (.one (.exit 0) ⟨[(5, (.own 0))], [(.vec (.slice (.int .u8)))]⟩)
def B_clone_Each_byte_L1 : Blk := frBlk 0 [1, 4, 11] K0_clone_Each_byte_L1 TM_clone_Each_byte_L1 UO_clone_Each_byte_L1 (fun k => loopV (fun v => clone_Each_byte_L1 k.1 v))
def gs_clone_Each_byte : Nat → Option Blk := lk [(1, B_clone_Each_byte_L1)]
theorem ct_clone_Each_byte_L1 : CodeSound Try.prog (cx_clone_Each_byte) (subL (subR (subL (subR (subR (bodyOf Try.f74)))))) (B_clone_Each_byte_L1).D :=
  loop_printed (G := gs_clone_Each_byte) (A := .leaf) (T0 := K0_clone_Each_byte_L1) (T := TM_clone_Each_byte_L1) (U := UO_clone_Each_byte_L1) (step := (fun k v => clone_Each_byte_L1 k.1 v)) (cxo_clone_Each_byte) follows (by kernel_rfl) (by kernel_rfl) (CutsOk.leaf _) (by intro k v; kernel_rfl)
theorem sd_clone_Each_byte : FnSound Try.prog gl 74 sg_clone_Each_byte :=
  fn_printed (G := gs_clone_Each_byte) (A := (.two .leaf (.two .leaf (.two (.two .leaf (.two (.cut 1) .leaf)) .leaf)))) (cxo_clone_Each_byte) follows Try.func74 (by kernel_rfl) (by kernel_rfl) (by kernel_rfl) (by kernel_rfl) (by kernel_rfl) (CutsOk.two (CutsOk.leaf _) (CutsOk.two (CutsOk.leaf _) (CutsOk.two (CutsOk.two (CutsOk.leaf _) (CutsOk.two (CutsOk.cut (g := B_clone_Each_byte_L1) (by kernel_rfl) (ct_clone_Each_byte_L1)) (CutsOk.leaf _))) (CutsOk.leaf _)))) (by intro v; kernel_rfl)
def sg_clone_Items : Sig := mkSig [(.hole (.slice (.slice (.int .u8))))] [] [(.own 0)] [(.vec (.slice (.int .u8)))] (fun p => clone_Items p.1.1)
theorem fk_clone_Items : FnOk Try.prog 59 := ⟨Try.f59, Try.func59, by kernel_rfl, by kernel_rfl⟩
def cx_clone_Items : Cx := ⟨tys, lk [(74 + 100000 * 0, sg_clone_Each_byte)], 5, 0, [], gl, []⟩
theorem cxo_clone_Items : CxOk Try.prog (cx_clone_Items) := ⟨tys_ok, FnsAll.cons 0 rfl fk_clone_Each_byte sd_clone_Each_byte (FnsAll.nil)⟩
def gs_clone_Items : Nat → Option Blk := lk []
theorem sd_clone_Items : FnSound Try.prog gl 59 sg_clone_Items :=
  fn_printed (G := gs_clone_Items) (A := .leaf) (cxo_clone_Items) follows Try.func59 (by kernel_rfl) (by kernel_rfl) (by kernel_rfl) (by kernel_rfl) (by kernel_rfl) (CutsOk.leaf _) (by intro v; kernel_rfl)
def sg_clone_Tx_1 : Sig := mkSig [(.hole T_089d)] [] [(.ncons (.hole T_b85e) (.ncons (.hole (.int .u32)) (.ncons (.own 0) .nnil)))] [(.vec (.slice (.int .u8)))] (fun p => clone_Tx_1 p.1.1)
theorem fk_clone_Tx_1 : FnOk Try.prog 58 := ⟨Try.f58, Try.func58, by kernel_rfl, by kernel_rfl⟩
def cx_clone_Tx_1 : Cx := ⟨tys, lk [(59 + 100000 * 0, sg_clone_Items)], 8, 0, [], gl, []⟩
theorem cxo_clone_Tx_1 : CxOk Try.prog (cx_clone_Tx_1) := ⟨tys_ok, FnsAll.cons 0 rfl fk_clone_Items sd_clone_Items (FnsAll.nil)⟩
def gs_clone_Tx_1 : Nat → Option Blk := lk []
theorem sd_clone_Tx_1 : FnSound Try.prog gl 58 sg_clone_Tx_1 :=
  fn_printed (G := gs_clone_Tx_1) (A := .leaf) (cxo_clone_Tx_1) follows Try.func58 (by kernel_rfl) (by kernel_rfl) (by kernel_rfl) (by kernel_rfl) (by kernel_rfl) (CutsOk.leaf _) (by intro v; kernel_rfl)
def sg_clone_Each_api_Input : Sig := mkSig [(.hole (.slice T_089d)), (.fn 58 .nnil)] [] [(.own 0)] [(.vec T_089d)] (fun p => clone_Each_api_Input p.1.1)
theorem fk_clone_Each_api_Input : FnOk Try.prog 57 := ⟨Try.f57, Try.func57, by kernel_rfl, by kernel_rfl⟩
def cx_clone_Each_api_Input : Cx := ⟨tys, lk [(58 + 100000 * 0, sg_clone_Tx_1), (73 + 100000 * 0, sg_slices_Clone_api_Input_api_Input)], 25, 0, [], gl, []⟩
theorem cxo_clone_Each_api_Input : CxOk Try.prog (cx_clone_Each_api_Input) := ⟨tys_ok, FnsAll.cons 0 rfl fk_clone_Tx_1 sd_clone_Tx_1 (FnsAll.cons 0 rfl fk_slices_Clone_api_Input_api_Input sd_slices_Clone_api_Input_api_Input (FnsAll.nil))⟩
abbrev K0_clone_Each_api_Input_L1 : List (Nat × Ty) := [(11, (.int .i64))]
abbrev TM_clone_Each_api_Input_L1 : Tm := ⟨[(1, (.fn 58 .nnil)), (5, (.own 0)), (10, (.own 0)), (12, (.hole (.int .i64)))], [(.vec T_089d)]⟩
abbrev UO_clone_Each_api_Input_L1 : Outs := (.one (.exit 0) ⟨[(5, (.own 0))], [(.vec T_089d)]⟩)
def B_clone_Each_api_Input_L1 : Blk := frBlk 0 [1, 4, 11] K0_clone_Each_api_Input_L1 TM_clone_Each_api_Input_L1 UO_clone_Each_api_Input_L1 (fun k => loopV (fun v => clone_Each_api_Input_L1 k.1 v))
def gs_clone_Each_api_Input : Nat → Option Blk := lk [(1, B_clone_Each_api_Input_L1)]
theorem ct_clone_Each_api_Input_L1 : CodeSound Try.prog (cx_clone_Each_api_Input) (subL (subR (subL (subR (subR (bodyOf Try.f57)))))) (B_clone_Each_api_Input_L1).D :=
  loop_printed (G := gs_clone_Each_api_Input) (A := .leaf) (T0 := K0_clone_Each_api_Input_L1) (T := TM_clone_Each_api_Input_L1) (U := UO_clone_Each_api_Input_L1) (step := (fun k v => clone_Each_api_Input_L1 k.1 v)) (cxo_clone_Each_api_Input) follows (by kernel_rfl) (by kernel_rfl) (CutsOk.leaf _) (by intro k v; kernel_rfl)
theorem sd_clone_Each_api_Input : FnSound Try.prog gl 57 sg_clone_Each_api_Input :=
  fn_printed (G := gs_clone_Each_api_Input) (A := (.two .leaf (.two .leaf (.two (.two .leaf (.two (.cut 1) .leaf)) .leaf)))) (cxo_clone_Each_api_Input) follows Try.func57 (by kernel_rfl) (by kernel_rfl) (by kernel_rfl) (by kernel_rfl) (by kernel_rfl) (CutsOk.two (CutsOk.leaf _) (CutsOk.two (CutsOk.leaf _) (CutsOk.two (CutsOk.two (CutsOk.leaf _) (CutsOk.two (CutsOk.cut (g := B_clone_Each_api_Input_L1) (by kernel_rfl) (ct_clone_Each_api_Input_L1)) (CutsOk.leaf _))) (CutsOk.leaf _)))) (by intro v; kernel_rfl)
def sg_clone_Tx : Sig := mkSig [(.hole T_8f0a)] [] [(.ncons (.hole (.int .u32)) (.ncons (.own 0) (.ncons (.own 1) (.hole (.cons (.int .u32) .nil)))))] [(.vec T_089d), (.vec T_b101)] (fun p => clone_Tx p.1.1)
theorem fk_clone_Tx : FnOk Try.prog 41 := ⟨Try.f41, Try.func41, by kernel_rfl, by kernel_rfl⟩
def cx_clone_Tx : Cx := ⟨tys, lk [(57 + 100000 * 0, sg_clone_Each_api_Input), (34 + 100000 * 0, sg_clone_Each_api_Output)], 12, 0, [], gl, []⟩
theorem cxo_clone_Tx : CxOk Try.prog (cx_clone_Tx) := ⟨tys_ok, FnsAll.cons 0 rfl fk_clone_Each_api_Input sd_clone_Each_api_Input (FnsAll.cons 0 rfl fk_clone_Each_api_Output sd_clone_Each_api_Output (FnsAll.nil))⟩
def gs_clone_Tx : Nat → Option Blk := lk []
theorem sd_clone_Tx : FnSound Try.prog gl 41 sg_clone_Tx :=
  fn_printed (G := gs_clone_Tx) (A := .leaf) (cxo_clone_Tx) follows Try.func41 (by kernel_rfl) (by kernel_rfl) (by kernel_rfl) (by kernel_rfl) (by kernel_rfl) (CutsOk.leaf _) (by intro v; kernel_rfl)
def sg_build_Weight : Sig := mkSig [(.hole T_8f0a), (.hole (.slice T_c1fb))] [] [(.hole (.int .i64))] [] (fun p => build_Weight p.1.1 p.1.2.1)
theorem fk_build_Weight : FnOk Try.prog 20 := ⟨Try.f20, Try.func20, by kernel_rfl, by kernel_rfl⟩
def cx_build_Weight : Cx := ⟨tys, lk [(41 + 100000 * 0, sg_clone_Tx), (37 + 100000 * 0, sg_tx_Weight)], 37, 0, [], gl, []⟩
theorem cxo_build_Weight : CxOk Try.prog (cx_build_Weight) := ⟨tys_ok, FnsAll.cons 0 rfl fk_clone_Tx sd_clone_Tx (FnsAll.cons 0 rfl fk_tx_Weight sd_tx_Weight (FnsAll.nil))⟩
abbrev K0_build_Weight_L1 : List (Nat × Ty) := [(13, (.int .i64))]
abbrev TM_build_Weight_L1 : Tm := ⟨[(2, (.ptr 0 [])), (14, (.hole (.int .i64)))], [(.box T_8f0a (.ncons (.hole (.int .u32)) (.ncons (.own 1) (.ncons (.own 2) (.hole (.cons (.int .u32) .nil)))))), (.vec T_089d), (.vec T_b101)]⟩
abbrev UO_build_Weight_L1 : Outs := (.one (.exit 0) ⟨[(2, (.ptr 0 []))], [(.box T_8f0a (.ncons (.hole (.int .u32)) (.ncons (.own 1) (.ncons (.own 2) (.hole (.cons (.int .u32) .nil)))))), (.vec T_089d), (.vec T_b101)]⟩)
def B_build_Weight_L1 : Blk := frBlk 0 [1, 4, 13] K0_build_Weight_L1 TM_build_Weight_L1 UO_build_Weight_L1 (fun k => loopV (fun v => build_Weight_L1 k.1 v))
abbrev K0_build_Weight_L2 : List (Nat × Ty) := [(25, (.slice T_c1fb)), (26, (.int .i64))]
abbrev TM_build_Weight_L2 : Tm := ⟨[(6, (.hole (.int .i64))), (27, (.hole (.int .i64)))], []⟩
abbrev UO_build_Weight_L2 : Outs := (.one (.exit 2) ⟨[(6, (.hole (.int .i64)))], []⟩)
def B_build_Weight_L2 : Blk := frBlk 0 [4, 25, 26] K0_build_Weight_L2 TM_build_Weight_L2 UO_build_Weight_L2 (fun k => loopV (fun v => build_Weight_L2 k.1 k.2.1 v))
def gs_build_Weight : Nat → Option Blk := lk [(1, B_build_Weight_L1), (2, B_build_Weight_L2)]
theorem ct_build_Weight_L2 : CodeSound Try.prog (cx_build_Weight) (subL (subR (subL (subR (subR (subR (subR (bodyOf Try.f20)))))))) (B_build_Weight_L2).D :=
  loop_printed (G := gs_build_Weight) (A := .leaf) (T0 := K0_build_Weight_L2) (T := TM_build_Weight_L2) (U := UO_build_Weight_L2) (step := (fun k v => build_Weight_L2 k.1 k.2.1 v)) (cxo_build_Weight) follows (by kernel_rfl) (by kernel_rfl) (CutsOk.leaf _) (by intro k v; kernel_rfl)
theorem ct_build_Weight_L1 : CodeSound Try.prog (cx_build_Weight) (subL (subR (subL (subR (subR (bodyOf Try.f20)))))) (B_build_Weight_L1).D :=
  loop_printed (G := gs_build_Weight) (A := .leaf) (T0 := K0_build_Weight_L1) (T := TM_build_Weight_L1) (U := UO_build_Weight_L1) (step := (fun k v => build_Weight_L1 k.1 v)) (cxo_build_Weight) follows (by kernel_rfl) (by kernel_rfl) (CutsOk.leaf _) (by intro k v; kernel_rfl)
theorem sd_build_Weight : FnSound Try.prog gl 20 sg_build_Weight :=
  fn_printed (G := gs_build_Weight) (A := (.two .leaf (.two .leaf (.two (.two .leaf (.two (.cut 1) .leaf)) (.two .leaf (.two (.two .leaf (.two (.cut 2) .leaf)) .leaf)))))) (cxo_build_Weight) follows Try.func20 (by kernel_rfl) (by kernel_rfl) (by kernel_rfl) (by kernel_rfl) (by kernel_rfl) (CutsOk.two (CutsOk.leaf _) (CutsOk.two (CutsOk.leaf _) (CutsOk.two (CutsOk.two (CutsOk.leaf _) (CutsOk.two (CutsOk.cut (g := B_build_Weight_L1) (by kernel_rfl) (ct_build_Weight_L1)) (CutsOk.leaf _))) (CutsOk.two (CutsOk.leaf _) (CutsOk.two (CutsOk.two (CutsOk.leaf _) (CutsOk.two (CutsOk.cut (g := B_build_Weight_L2) (by kernel_rfl) (ct_build_Weight_L2)) (CutsOk.leaf _))) (CutsOk.leaf _)))))) (by intro v; kernel_rfl)
def sg_build_Make : Sig := mkSig [(.hole (.slice T_c1fb)), (.hole (.slice T_b101)), (.hole (.slice (.int .u8))), (.hole (.int .i64)), (.hole (.int .u32)), (.hole (.int .u32))] [] [(.ncons (.ncons (.hole (.int .u32)) (.ncons (.own 0) (.ncons (.own 1) (.hole (.cons (.int .u32) .nil))))) (.ncons (.own 2) (.hole (.cons (.int .i64) (.cons (.int .i64) .nil))))), (.hole (.int .i64))] [(.vec T_089d), (.vec T_b101), (.vec T_6b85)] (fun p => build_Make p.1.1 p.1.2.1 p.1.2.2.1 p.1.2.2.2.1 p.1.2.2.2.2.1 p.1.2.2.2.2.2.1)
theorem fk_build_Make : FnOk Try.prog 16 := ⟨Try.f16, Try.func16, by kernel_rfl, by kernel_rfl⟩
def cx_build_Make : Cx := ⟨tys, lk [(19 + 100000 * 0, sg_build_Fee), (20 + 100000 * 0, sg_build_Weight), (36 + 100000 * 0, sg_build_choose), (32 + 100000 * 0, sg_build_fault), (33 + 100000 * 0, sg_build_sum), (38 + 100000 * 0, sg_clone_Coin), (34 + 100000 * 0, sg_clone_Each_api_Output), (39 + 100000 * 0, sg_slices_Clone_byte_byte_a), (23 + 100000 * 0, sg_tx_Check), (37 + 100000 * 0, sg_tx_Weight)], 172, 0, [], gl, []⟩
theorem cxo_build_Make : CxOk Try.prog (cx_build_Make) := ⟨tys_ok, FnsAll.cons 0 rfl fk_build_Fee sd_build_Fee (FnsAll.cons 0 rfl fk_build_Weight sd_build_Weight (FnsAll.cons 0 rfl fk_build_choose sd_build_choose (FnsAll.cons 0 rfl fk_build_fault sd_build_fault (FnsAll.cons 0 rfl fk_build_sum sd_build_sum (FnsAll.cons 0 rfl fk_clone_Coin sd_clone_Coin (FnsAll.cons 0 rfl fk_clone_Each_api_Output sd_clone_Each_api_Output (FnsAll.cons 0 rfl fk_slices_Clone_byte_byte_a sd_slices_Clone_byte_byte_a (FnsAll.cons 0 rfl fk_tx_Check sd_tx_Check (FnsAll.cons 0 rfl fk_tx_Weight sd_tx_Weight (FnsAll.nil))))))))))⟩
abbrev K0_build_Make_J2 : List (Nat × Ty) := [(1, (.slice T_b101)), (2, (.slice (.int .u8))), (3, (.int .i64)), (20, (.int .i64)), (23, (.int .i64)), (24, (.int .i64))]
abbrev TM_build_Make_J2 : Tm := ⟨[(12, (.ptr 0 [])), (15, (.hole (.int .i64))), (17, (.ptr 1 [])), (18, (.own 2))], [(.box T_0798 (.ncons (.ncons (.hole (.int .u32)) (.ncons .nils (.ncons .nils (.hole (.cons (.int .u32) .nil))))) (.ncons .nils (.hole (.cons (.int .i64) (.cons (.int .i64) .nil)))))), (.box T_0798 (.ncons (.ncons (.hole (.int .u32)) (.ncons (.own 3) (.ncons (.own 4) (.hole (.cons (.int .u32) .nil))))) (.ncons (.own 5) (.hole (.cons (.int .i64) (.cons (.int .i64) .nil)))))), (.vec T_c1fb), (.vec T_089d), (.vec T_b101), (.vec T_6b85)]⟩
abbrev UO_build_Make_J2 : Outs := (.one .normal ⟨[(12, (.ptr 0 [])), (15, (.hole (.int .i64))), (17, (.ptr 1 []))], [(.box T_0798 (.ncons (.ncons (.hole (.int .u32)) (.ncons .nils (.ncons .nils (.hole (.cons (.int .u32) .nil))))) (.ncons .nils (.hole (.cons (.int .i64) (.cons (.int .i64) .nil)))))), (.box T_0798 (.ncons (.ncons (.hole (.int .u32)) (.ncons (.own 2) (.ncons (.own 3) (.hole (.cons (.int .u32) .nil))))) (.ncons (.own 4) (.hole (.cons (.int .i64) (.cons (.int .i64) .nil)))))), (.vec T_089d), (.vec T_b101), (.vec T_6b85)]⟩)
def B_build_Make_J2 : Blk := frBlk 0 [1, 2, 3, 13, 20, 23, 24] K0_build_Make_J2 TM_build_Make_J2 UO_build_Make_J2 (fun k v => build_Make_J2 k.1 k.2.1 k.2.2.1 k.2.2.2.1 k.2.2.2.2.1 k.2.2.2.2.2.1 v)
abbrev K0_build_Make_L1 : List (Nat × Ty) := [(5, (.int .u32)), (61, (.int .i64))]
abbrev TM_build_Make_L1 : Tm := ⟨[(12, (.ptr 0 [])), (17, (.ptr 1 [])), (18, (.own 2)), (20, (.hole (.int .i64))), (60, (.own 2)), (62, (.hole (.int .i64)))], [(.box T_0798 (.ncons (.ncons (.hole (.int .u32)) (.ncons .nils (.ncons .nils (.hole (.cons (.int .u32) .nil))))) (.ncons .nils (.hole (.cons (.int .i64) (.cons (.int .i64) .nil)))))), (.box T_0798 (.ncons (.ncons (.hole (.int .u32)) (.ncons (.own 3) (.ncons (.own 4) (.hole (.cons (.int .u32) .nil))))) (.ncons (.own 5) (.hole (.cons (.int .i64) (.cons (.int .i64) .nil)))))), (.vec T_c1fb), (.vec T_089d), (.vec T_b101), (.vec T_6b85)]⟩
abbrev UO_build_Make_L1 : Outs := (.one (.exit 0) ⟨[(12, (.ptr 0 [])), (17, (.ptr 1 [])), (18, (.own 2)), (20, (.hole (.int .i64)))], [(.box T_0798 (.ncons (.ncons (.hole (.int .u32)) (.ncons .nils (.ncons .nils (.hole (.cons (.int .u32) .nil))))) (.ncons .nils (.hole (.cons (.int .i64) (.cons (.int .i64) .nil)))))), (.box T_0798 (.ncons (.ncons (.hole (.int .u32)) (.ncons (.own 3) (.ncons (.own 4) (.hole (.cons (.int .u32) .nil))))) (.ncons (.own 5) (.hole (.cons (.int .i64) (.cons (.int .i64) .nil)))))), (.vec T_c1fb), (.vec T_089d), (.vec T_b101), (.vec T_6b85)]⟩)
def B_build_Make_L1 : Blk := frBlk 0 [1, 2, 3, 5, 13, 15, 61] K0_build_Make_L1 TM_build_Make_L1 UO_build_Make_L1 (fun k => loopV (fun v => build_Make_L1 k.1 k.2.1 v))
def gs_build_Make : Nat → Option Blk := lk [(2, B_build_Make_J2), (1, B_build_Make_L1)]
theorem ct_build_Make_J2 : CodeSound Try.prog (cx_build_Make) (subL (subR (subR (subR (subR (subR (subR (subR (subR (subR (subR (subR (bodyOf Try.f16))))))))))))) (B_build_Make_J2).D :=
  join_sound (G := gs_build_Make) (A := .leaf) (T0 := K0_build_Make_J2) (T := TM_build_Make_J2) (U := UO_build_Make_J2) (F := (fun k v => build_Make_J2 k.1 k.2.1 k.2.2.1 k.2.2.2.1 k.2.2.2.2.1 k.2.2.2.2.2.1 v)) (cxo_build_Make) follows (by kernel_rfl) (CutsOk.leaf _) (by intro k v; kernel_rfl)
theorem ct_build_Make_L1 : CodeSound Try.prog (cx_build_Make) (subL (subR (subL (subR (subR (subR (subR (subR (subR (subR (bodyOf Try.f16))))))))))) (B_build_Make_L1).D :=
  loop_printed (G := gs_build_Make) (A := .leaf) (T0 := K0_build_Make_L1) (T := TM_build_Make_L1) (U := UO_build_Make_L1) (step := (fun k v => build_Make_L1 k.1 k.2.1 v)) (cxo_build_Make) follows (by kernel_rfl) (by kernel_rfl) (CutsOk.leaf _) (by intro k v; kernel_rfl)
theorem sd_build_Make : FnSound Try.prog gl 16 sg_build_Make :=
  fn_printed (G := gs_build_Make) (A := (.two .leaf (.two .leaf (.two .leaf (.two .leaf (.two .leaf (.two .leaf (.two .leaf (.two (.two .leaf (.two (.cut 1) .leaf)) (.two .leaf (.two .leaf (.two .leaf (.two (.cut 2) .leaf))))))))))))) (cxo_build_Make) follows Try.func16 (by kernel_rfl) (by kernel_rfl) (by kernel_rfl) (by kernel_rfl) (by kernel_rfl) (CutsOk.two (CutsOk.leaf _) (CutsOk.two (CutsOk.leaf _) (CutsOk.two (CutsOk.leaf _) (CutsOk.two (CutsOk.leaf _) (CutsOk.two (CutsOk.leaf _) (CutsOk.two (CutsOk.leaf _) (CutsOk.two (CutsOk.leaf _) (CutsOk.two (CutsOk.two (CutsOk.leaf _) (CutsOk.two (CutsOk.cut (g := B_build_Make_L1) (by kernel_rfl) (ct_build_Make_L1)) (CutsOk.leaf _))) (CutsOk.two (CutsOk.leaf _) (CutsOk.two (CutsOk.leaf _) (CutsOk.two (CutsOk.leaf _) (CutsOk.two (CutsOk.cut (g := B_build_Make_J2) (by kernel_rfl) (ct_build_Make_J2)) (CutsOk.leaf _))))))))))))) (by intro v; kernel_rfl)
end Go.PE.Ytngkldmhekijgaa
end
end

section
set_option maxRecDepth 100000
set_option linter.unusedVariables false
noncomputable section
namespace Go.PE.Ytngkldmhekijgaa
open Go.PE Go.Proofs

def sg_made_Script : Sig := mkSig [(.hole (.int .u8))] [] [(.own 0)] [(.vec (.int .u8))] (fun p => made_Script p.1.1)
theorem fk_made_Script : FnOk Try.prog 8 := ⟨Try.f8, Try.func8, by kernel_rfl, by kernel_rfl⟩
def cx_made_Script : Cx := ⟨tys, lk [], 7, 0, [], gl, []⟩
theorem cxo_made_Script : CxOk Try.prog (cx_made_Script) := ⟨tys_ok, FnsAll.nil⟩
def gs_made_Script : Nat → Option Blk := lk []
theorem sd_made_Script : FnSound Try.prog gl 8 sg_made_Script :=
  fn_printed (G := gs_made_Script) (A := .leaf) (cxo_made_Script) follows Try.func8 (by kernel_rfl) (by kernel_rfl) (by kernel_rfl) (by kernel_rfl) (by kernel_rfl) (CutsOk.leaf _) (by intro v; kernel_rfl)
def sg_made_Null : Sig := mkSig [] [] [(.hole T_b85e)] [] (fun p => made_Null)
theorem fk_made_Null : FnOk Try.prog 10 := ⟨Try.f10, Try.func10, by kernel_rfl, by kernel_rfl⟩
def cx_made_Null : Cx := ⟨tys, lk [], 2, 0, [], gl, []⟩
theorem cxo_made_Null : CxOk Try.prog (cx_made_Null) := ⟨tys_ok, FnsAll.nil⟩
def gs_made_Null : Nat → Option Blk := lk []
theorem sd_made_Null : FnSound Try.prog gl 10 sg_made_Null :=
  fn_printed (G := gs_made_Null) (A := .leaf) (cxo_made_Null) follows Try.func10 (by kernel_rfl) (by kernel_rfl) (by kernel_rfl) (by kernel_rfl) (by kernel_rfl) (CutsOk.leaf _) (by intro v; kernel_rfl)
end Go.PE.Ytngkldmhekijgaa
end
end

section
set_option maxRecDepth 100000
set_option linter.unusedVariables false
noncomputable section
namespace Go.PE.Ytngkldmhekijgaa
open Go.PE Go.Proofs

def sg_mill_New : Sig := mkSig [(.hole (.slice (.int .i64)))] [] [(.ptr 0 [])] [(.box T_3393 (.hole T_3393))] (fun p => mill_New p.1.1)
theorem fk_mill_New : FnOk Try.prog 6 := ⟨Try.f6, Try.func6, by kernel_rfl, by kernel_rfl⟩
def cx_mill_New : Cx := ⟨tys, lk [], 6, 0, [], gl, []⟩
theorem cxo_mill_New : CxOk Try.prog (cx_mill_New) := ⟨tys_ok, FnsAll.nil⟩
def gs_mill_New : Nat → Option Blk := lk []
theorem sd_mill_New : FnSound Try.prog gl 6 sg_mill_New :=
  fn_printed (G := gs_mill_New) (A := .leaf) (cxo_mill_New) follows Try.func6 (by kernel_rfl) (by kernel_rfl) (by kernel_rfl) (by kernel_rfl) (by kernel_rfl) (CutsOk.leaf _) (by intro v; kernel_rfl)
def sg_mill_Deck_Left : Sig := mkSig [(.ptr 0 [])] [(.box T_3393 (.hole T_3393))] [(.hole .bool)] [(.box T_3393 (.hole T_3393))] (fun p => mill_Deck_Left p.2.1)
theorem fk_mill_Deck_Left : FnOk Try.prog 42 := ⟨Try.f42, Try.func42, by kernel_rfl, by kernel_rfl⟩
def cx_mill_Deck_Left : Cx := ⟨tys, lk [], 13, 1, [], gl, []⟩
theorem cxo_mill_Deck_Left : CxOk Try.prog (cx_mill_Deck_Left) := ⟨tys_ok, FnsAll.nil⟩
def gs_mill_Deck_Left : Nat → Option Blk := lk []
theorem sd_mill_Deck_Left : FnSound Try.prog gl 42 sg_mill_Deck_Left :=
  fn_printed (G := gs_mill_Deck_Left) (A := .leaf) (cxo_mill_Deck_Left) follows Try.func42 (by kernel_rfl) (by kernel_rfl) (by kernel_rfl) (by kernel_rfl) (by kernel_rfl) (CutsOk.leaf _) (by intro v; kernel_rfl)
def sg_mill_Mod : Sig := mkSig [(.hole (.int .i64)), (.hole (.int .i64))] [] [(.hole (.int .i64))] [] (fun p => mill_Mod p.1.1 p.1.2.1)
theorem fk_mill_Mod : FnOk Try.prog 9 := ⟨Try.f9, Try.func9, by kernel_rfl, by kernel_rfl⟩
def cx_mill_Mod : Cx := ⟨tys, lk [], 15, 0, [], gl, []⟩
theorem cxo_mill_Mod : CxOk Try.prog (cx_mill_Mod) := ⟨tys_ok, FnsAll.nil⟩
def gs_mill_Mod : Nat → Option Blk := lk []
theorem sd_mill_Mod : FnSound Try.prog gl 9 sg_mill_Mod :=
  fn_printed (G := gs_mill_Mod) (A := .leaf) (cxo_mill_Mod) follows Try.func9 (by kernel_rfl) (by kernel_rfl) (by kernel_rfl) (by kernel_rfl) (by kernel_rfl) (CutsOk.leaf _) (by intro v; kernel_rfl)
def sg_mill_Deck_Next : Sig := mkSig [(.ptr 0 []), (.hole (.int .i64))] [(.box T_3393 (.hole T_3393))] [(.hole (.int .i64))] [(.box T_3393 (.hole T_3393))] (fun p => mill_Deck_Next p.1.2.1 p.2.1)
theorem fk_mill_Deck_Next : FnOk Try.prog 22 := ⟨Try.f22, Try.func22, by kernel_rfl, by kernel_rfl⟩
def cx_mill_Deck_Next : Cx := ⟨tys, lk [(42 + 100000 * 0, sg_mill_Deck_Left), (9 + 100000 * 0, sg_mill_Mod)], 28, 1, [], gl, []⟩
theorem cxo_mill_Deck_Next : CxOk Try.prog (cx_mill_Deck_Next) := ⟨tys_ok, FnsAll.cons 0 rfl fk_mill_Deck_Left sd_mill_Deck_Left (FnsAll.cons 0 rfl fk_mill_Mod sd_mill_Mod (FnsAll.nil))⟩
def gs_mill_Deck_Next : Nat → Option Blk := lk []
theorem sd_mill_Deck_Next : FnSound Try.prog gl 22 sg_mill_Deck_Next :=
  fn_printed (G := gs_mill_Deck_Next) (A := .leaf) (cxo_mill_Deck_Next) follows Try.func22 (by kernel_rfl) (by kernel_rfl) (by kernel_rfl) (by kernel_rfl) (by kernel_rfl) (CutsOk.leaf _) (by intro v; kernel_rfl)
def sg_mill_Plan : Sig := mkSig [(.ptr 0 []), (.hole (.slice (.slice (.int .u8))))] [(.box T_3393 (.hole T_3393))] [(.ncons (.ncons (.hole (.int .u32)) (.ncons (.own 1) (.ncons (.own 2) (.hole (.cons (.int .u32) .nil))))) (.ncons (.own 3) (.hole (.cons (.int .i64) (.cons (.int .i64) .nil)))))] [(.box T_3393 (.hole T_3393)), (.vec T_089d), (.vec T_b101), (.vec T_6b85)] (fun p => mill_Plan p.1.2.1 p.2.1)
theorem fk_mill_Plan : FnOk Try.prog 7 := ⟨Try.f7, Try.func7, by kernel_rfl, by kernel_rfl⟩
def cx_mill_Plan : Cx := ⟨tys, lk [(8 + 100000 * 0, sg_made_Script), (22 + 100000 * 0, sg_mill_Deck_Next)], 103, 1, [], gl, []⟩
theorem cxo_mill_Plan : CxOk Try.prog (cx_mill_Plan) := ⟨tys_ok, FnsAll.cons 0 rfl fk_made_Script sd_made_Script (FnsAll.cons 0 rfl fk_mill_Deck_Next sd_mill_Deck_Next (FnsAll.nil))⟩
abbrev K0_mill_Plan_L1 : List (Nat × Ty) := [(15, (.slice (.slice (.int .u8)))), (16, (.int .i64))]
abbrev TM_mill_Plan_L1 : Tm := ⟨[(0, (.ptr 0 [])), (4, (.ptr 1 [])), (5, (.ptr 2 [])), (6, (.hole (.int .i64))), (17, (.hole (.int .i64)))], [(.box T_3393 (.hole T_3393)), (.box T_0798 (.ncons (.ncons (.hole (.int .u32)) (.ncons .nils (.ncons .nils (.hole (.cons (.int .u32) .nil))))) (.ncons .nils (.hole (.cons (.int .i64) (.cons (.int .i64) .nil)))))), (.box T_0798 (.ncons (.ncons (.hole (.int .u32)) (.ncons (.own 3) (.ncons .nils (.hole (.cons (.int .u32) .nil))))) (.ncons (.own 4) (.hole (.cons (.int .i64) (.cons (.int .i64) .nil)))))), (.vec T_089d), (.vec T_6b85)]⟩
abbrev UO_mill_Plan_L1 : Outs := (.one (.exit 0) ⟨[(0, (.ptr 0 [])), (4, (.ptr 1 [])), (5, (.ptr 2 [])), (6, (.hole (.int .i64)))], [(.box T_3393 (.hole T_3393)), (.box T_0798 (.ncons (.ncons (.hole (.int .u32)) (.ncons .nils (.ncons .nils (.hole (.cons (.int .u32) .nil))))) (.ncons .nils (.hole (.cons (.int .i64) (.cons (.int .i64) .nil)))))), (.box T_0798 (.ncons (.ncons (.hole (.int .u32)) (.ncons (.own 3) (.ncons .nils (.hole (.cons (.int .u32) .nil))))) (.ncons (.own 4) (.hole (.cons (.int .i64) (.cons (.int .i64) .nil)))))), (.vec T_089d), (.vec T_6b85)]⟩)
def B_mill_Plan_L1 : Blk := frBlk 1 [15, 16] K0_mill_Plan_L1 TM_mill_Plan_L1 UO_mill_Plan_L1 (fun k => loopV (fun v => mill_Plan_L1 k.1 k.2.1 v))
def gs_mill_Plan : Nat → Option Blk := lk [(1, B_mill_Plan_L1)]
theorem ct_mill_Plan_L1 : CodeSound Try.prog (cx_mill_Plan) (subL (subR (subL (subR (subR (subR (subR (bodyOf Try.f7)))))))) (B_mill_Plan_L1).D :=
  loop_printed (G := gs_mill_Plan) (A := .leaf) (T0 := K0_mill_Plan_L1) (T := TM_mill_Plan_L1) (U := UO_mill_Plan_L1) (step := (fun k v => mill_Plan_L1 k.1 k.2.1 v)) (cxo_mill_Plan) follows (by kernel_rfl) (by kernel_rfl) (CutsOk.leaf _) (by intro k v; kernel_rfl)
theorem sd_mill_Plan : FnSound Try.prog gl 7 sg_mill_Plan :=
  fn_printed (G := gs_mill_Plan) (A := (.two .leaf (.two .leaf (.two .leaf (.two .leaf (.two (.two .leaf (.two (.cut 1) .leaf)) .leaf)))))) (cxo_mill_Plan) follows Try.func7 (by kernel_rfl) (by kernel_rfl) (by kernel_rfl) (by kernel_rfl) (by kernel_rfl) (CutsOk.two (CutsOk.leaf _) (CutsOk.two (CutsOk.leaf _) (CutsOk.two (CutsOk.leaf _) (CutsOk.two (CutsOk.leaf _) (CutsOk.two (CutsOk.two (CutsOk.leaf _) (CutsOk.two (CutsOk.cut (g := B_mill_Plan_L1) (by kernel_rfl) (ct_mill_Plan_L1)) (CutsOk.leaf _))) (CutsOk.leaf _)))))) (by intro v; kernel_rfl)
def sg_mill_Deck_Range : Sig := mkSig [(.ptr 0 []), (.hole (.int .i64)), (.hole (.int .i64))] [(.box T_3393 (.hole T_3393))] [(.hole (.int .i64))] [(.box T_3393 (.hole T_3393))] (fun p => mill_Deck_Range p.1.2.1 p.1.2.2.1 p.2.1)
theorem fk_mill_Deck_Range : FnOk Try.prog 31 := ⟨Try.f31, Try.func31, by kernel_rfl, by kernel_rfl⟩
def cx_mill_Deck_Range : Cx := ⟨tys, lk [(22 + 100000 * 0, sg_mill_Deck_Next)], 15, 1, [], gl, []⟩
theorem cxo_mill_Deck_Range : CxOk Try.prog (cx_mill_Deck_Range) := ⟨tys_ok, FnsAll.cons 0 rfl fk_mill_Deck_Next sd_mill_Deck_Next (FnsAll.nil)⟩
def gs_mill_Deck_Range : Nat → Option Blk := lk []
theorem sd_mill_Deck_Range : FnSound Try.prog gl 31 sg_mill_Deck_Range :=
  fn_printed (G := gs_mill_Deck_Range) (A := .leaf) (cxo_mill_Deck_Range) follows Try.func31 (by kernel_rfl) (by kernel_rfl) (by kernel_rfl) (by kernel_rfl) (by kernel_rfl) (CutsOk.leaf _) (by intro v; kernel_rfl)
def sg_mill_Spendables : Sig := mkSig [(.ptr 0 []), (.hole (.int .i64))] [(.box T_3393 (.hole T_3393))] [(.own 1)] [(.box T_3393 (.hole T_3393)), (.vec T_c1fb)] (fun p => mill_Spendables p.1.2.1 p.2.1)
theorem fk_mill_Spendables : FnOk Try.prog 13 := ⟨Try.f13, Try.func13, by kernel_rfl, by kernel_rfl⟩
def cx_mill_Spendables : Cx := ⟨tys, lk [(8 + 100000 * 0, sg_made_Script), (22 + 100000 * 0, sg_mill_Deck_Next), (31 + 100000 * 0, sg_mill_Deck_Range)], 41, 1, [], gl, []⟩
theorem cxo_mill_Spendables : CxOk Try.prog (cx_mill_Spendables) := ⟨tys_ok, FnsAll.cons 0 rfl fk_made_Script sd_made_Script (FnsAll.cons 0 rfl fk_mill_Deck_Next sd_mill_Deck_Next (FnsAll.cons 0 rfl fk_mill_Deck_Range sd_mill_Deck_Range (FnsAll.nil)))⟩
abbrev K0_mill_Spendables_L1 : List (Nat × Ty) := []
abbrev TM_mill_Spendables_L1 : Tm := ⟨[(0, (.ptr 0 [])), (5, (.own 1)), (6, (.hole (.int .i64)))], [(.box T_3393 (.hole T_3393)), (.vec T_c1fb)]⟩
abbrev UO_mill_Spendables_L1 : Outs := (.one (.exit 0) ⟨[(5, (.own 1))], [(.box T_3393 (.hole T_3393)), (.vec T_c1fb)]⟩)
def B_mill_Spendables_L1 : Blk := frBlk 1 [4] K0_mill_Spendables_L1 TM_mill_Spendables_L1 UO_mill_Spendables_L1 (fun k => loopV (fun v => mill_Spendables_L1 v))
def gs_mill_Spendables : Nat → Option Blk := lk [(1, B_mill_Spendables_L1)]
theorem ct_mill_Spendables_L1 : CodeSound Try.prog (cx_mill_Spendables) (subL (subR (subL (subR (subR (bodyOf Try.f13)))))) (B_mill_Spendables_L1).D :=
  loop_printed (G := gs_mill_Spendables) (A := .leaf) (T0 := K0_mill_Spendables_L1) (T := TM_mill_Spendables_L1) (U := UO_mill_Spendables_L1) (step := (fun k v => mill_Spendables_L1 v)) (cxo_mill_Spendables) follows (by kernel_rfl) (by kernel_rfl) (CutsOk.leaf _) (by intro k v; kernel_rfl)
theorem sd_mill_Spendables : FnSound Try.prog gl 13 sg_mill_Spendables :=
  fn_printed (G := gs_mill_Spendables) (A := (.two .leaf (.two .leaf (.two (.two .leaf (.two (.cut 1) .leaf)) .leaf)))) (cxo_mill_Spendables) follows Try.func13 (by kernel_rfl) (by kernel_rfl) (by kernel_rfl) (by kernel_rfl) (by kernel_rfl) (CutsOk.two (CutsOk.leaf _) (CutsOk.two (CutsOk.leaf _) (CutsOk.two (CutsOk.two (CutsOk.leaf _) (CutsOk.two (CutsOk.cut (g := B_mill_Spendables_L1) (by kernel_rfl) (ct_mill_Spendables_L1)) (CutsOk.leaf _))) (CutsOk.leaf _)))) (by intro v; kernel_rfl)
def sg_mill_Outputs : Sig := mkSig [(.ptr 0 []), (.hole (.int .i64))] [(.box T_3393 (.hole T_3393))] [(.own 1)] [(.box T_3393 (.hole T_3393)), (.vec T_b101)] (fun p => mill_Outputs p.1.2.1 p.2.1)
theorem fk_mill_Outputs : FnOk Try.prog 14 := ⟨Try.f14, Try.func14, by kernel_rfl, by kernel_rfl⟩
def cx_mill_Outputs : Cx := ⟨tys, lk [(8 + 100000 * 0, sg_made_Script), (22 + 100000 * 0, sg_mill_Deck_Next), (31 + 100000 * 0, sg_mill_Deck_Range)], 26, 1, [], gl, []⟩
theorem cxo_mill_Outputs : CxOk Try.prog (cx_mill_Outputs) := ⟨tys_ok, FnsAll.cons 0 rfl fk_made_Script sd_made_Script (FnsAll.cons 0 rfl fk_mill_Deck_Next sd_mill_Deck_Next (FnsAll.cons 0 rfl fk_mill_Deck_Range sd_mill_Deck_Range (FnsAll.nil)))⟩
abbrev K0_mill_Outputs_L1 : List (Nat × Ty) := []
abbrev TM_mill_Outputs_L1 : Tm := ⟨[(0, (.ptr 0 [])), (5, (.own 1)), (6, (.hole (.int .i64)))], [(.box T_3393 (.hole T_3393)), (.vec T_b101)]⟩
abbrev UO_mill_Outputs_L1 : Outs := (.one (.exit 0) ⟨[(5, (.own 1))], [(.box T_3393 (.hole T_3393)), (.vec T_b101)]⟩)
def B_mill_Outputs_L1 : Blk := frBlk 1 [4] K0_mill_Outputs_L1 TM_mill_Outputs_L1 UO_mill_Outputs_L1 (fun k => loopV (fun v => mill_Outputs_L1 v))
def gs_mill_Outputs : Nat → Option Blk := lk [(1, B_mill_Outputs_L1)]
theorem ct_mill_Outputs_L1 : CodeSound Try.prog (cx_mill_Outputs) (subL (subR (subL (subR (subR (bodyOf Try.f14)))))) (B_mill_Outputs_L1).D :=
  loop_printed (G := gs_mill_Outputs) (A := .leaf) (T0 := K0_mill_Outputs_L1) (T := TM_mill_Outputs_L1) (U := UO_mill_Outputs_L1) (step := (fun k v => mill_Outputs_L1 v)) (cxo_mill_Outputs) follows (by kernel_rfl) (by kernel_rfl) (CutsOk.leaf _) (by intro k v; kernel_rfl)
theorem sd_mill_Outputs : FnSound Try.prog gl 14 sg_mill_Outputs :=
  fn_printed (G := gs_mill_Outputs) (A := (.two .leaf (.two .leaf (.two (.two .leaf (.two (.cut 1) .leaf)) .leaf)))) (cxo_mill_Outputs) follows Try.func14 (by kernel_rfl) (by kernel_rfl) (by kernel_rfl) (by kernel_rfl) (by kernel_rfl) (CutsOk.two (CutsOk.leaf _) (CutsOk.two (CutsOk.leaf _) (CutsOk.two (CutsOk.two (CutsOk.leaf _) (CutsOk.two (CutsOk.cut (g := B_mill_Outputs_L1) (by kernel_rfl) (ct_mill_Outputs_L1)) (CutsOk.leaf _))) (CutsOk.leaf _)))) (by intro v; kernel_rfl)
end Go.PE.Ytngkldmhekijgaa
end
end

section
set_option maxRecDepth 100000
set_option linter.unusedVariables false
noncomputable section
namespace Go.PE.Ytngkldmhekijgaa
open Go.PE Go.Proofs

def sg_ref01_little : Sig := mkSig [(.hole (.int .u64)), (.hole (.int .i64))] [] [(.own 0)] [(.vec (.int .u8))] (fun p => ref01_little p.1.1 p.1.2.1)
theorem fk_ref01_little : FnOk Try.prog 89 := ⟨Try.f89, Try.func89, by kernel_rfl, by kernel_rfl⟩
def cx_ref01_little : Cx := ⟨tys, lk [], 24, 0, [], gl, []⟩
theorem cxo_ref01_little : CxOk Try.prog (cx_ref01_little) := ⟨tys_ok, FnsAll.nil⟩
abbrev K0_ref01_little_L1 : List (Nat × Ty) := [(0, (.int .u64)), (10, (.int .i64))]
abbrev TM_ref01_little_L1 : Tm := ⟨[(5, (.own 0)), (11, (.hole (.int .i64)))], [(.vec (.int .u8))]⟩
abbrev UO_ref01_little_L1 : Outs := (.one (.exit 0) ⟨[(5, (.own 0))], [(.vec (.int .u8))]⟩)
def B_ref01_little_L1 : Blk := frBlk 0 [0, 4, 10] K0_ref01_little_L1 TM_ref01_little_L1 UO_ref01_little_L1 (fun k => loopV (fun v => ref01_little_L1 k.1 k.2.1 v))
def gs_ref01_little : Nat → Option Blk := lk [(1, B_ref01_little_L1)]
theorem ct_ref01_little_L1 : CodeSound Try.prog (cx_ref01_little) (subL (subR (subL (subR (subR (bodyOf Try.f89)))))) (B_ref01_little_L1).D :=
  loop_printed (G := gs_ref01_little) (A := .leaf) (T0 := K0_ref01_little_L1) (T := TM_ref01_little_L1) (U := UO_ref01_little_L1) (step := (fun k v => ref01_little_L1 k.1 k.2.1 v)) (cxo_ref01_little) follows (by kernel_rfl) (by kernel_rfl) (CutsOk.leaf _) (by intro k v; kernel_rfl)
theorem sd_ref01_little : FnSound Try.prog gl 89 sg_ref01_little :=
  fn_printed (G := gs_ref01_little) (A := (.two .leaf (.two .leaf (.two (.two .leaf (.two (.cut 1) .leaf)) .leaf)))) (cxo_ref01_little) follows Try.func89 (by kernel_rfl) (by kernel_rfl) (by kernel_rfl) (by kernel_rfl) (by kernel_rfl) (CutsOk.two (CutsOk.leaf _) (CutsOk.two (CutsOk.leaf _) (CutsOk.two (CutsOk.two (CutsOk.leaf _) (CutsOk.two (CutsOk.cut (g := B_ref01_little_L1) (by kernel_rfl) (ct_ref01_little_L1)) (CutsOk.leaf _))) (CutsOk.leaf _)))) (by intro v; kernel_rfl)
def sg_ref01_joined : Sig := mkSig [(.hole (.slice (.int .u8))), (.hole (.slice (.int .u8)))] [] [(.own 0)] [(.vec (.int .u8))] (fun p => ref01_joined p.1.1 p.1.2.1)
theorem fk_ref01_joined : FnOk Try.prog 88 := ⟨Try.f88, Try.func88, by kernel_rfl, by kernel_rfl⟩
def cx_ref01_joined : Cx := ⟨tys, lk [], 17, 0, [], gl, []⟩
theorem cxo_ref01_joined : CxOk Try.prog (cx_ref01_joined) := ⟨tys_ok, FnsAll.nil⟩
def gs_ref01_joined : Nat → Option Blk := lk []
theorem sd_ref01_joined : FnSound Try.prog gl 88 sg_ref01_joined :=
  fn_printed (G := gs_ref01_joined) (A := .leaf) (cxo_ref01_joined) follows Try.func88 (by kernel_rfl) (by kernel_rfl) (by kernel_rfl) (by kernel_rfl) (by kernel_rfl) (CutsOk.leaf _) (by intro v; kernel_rfl)
def sg_ref01_AppendU32 : Sig := mkSig [(.hole (.slice (.int .u8))), (.hole (.int .u32))] [] [(.own 0)] [(.vec (.int .u8))] (fun p => ref01_AppendU32 p.1.1 p.1.2.1)
theorem fk_ref01_AppendU32 : FnOk Try.prog 75 := ⟨Try.f75, Try.func75, by kernel_rfl, by kernel_rfl⟩
def cx_ref01_AppendU32 : Cx := ⟨tys, lk [(88 + 100000 * 0, sg_ref01_joined), (89 + 100000 * 0, sg_ref01_little)], 10, 0, [], gl, []⟩
theorem cxo_ref01_AppendU32 : CxOk Try.prog (cx_ref01_AppendU32) := ⟨tys_ok, FnsAll.cons 0 rfl fk_ref01_joined sd_ref01_joined (FnsAll.cons 0 rfl fk_ref01_little sd_ref01_little (FnsAll.nil))⟩
def gs_ref01_AppendU32 : Nat → Option Blk := lk []
theorem sd_ref01_AppendU32 : FnSound Try.prog gl 75 sg_ref01_AppendU32 :=
  fn_printed (G := gs_ref01_AppendU32) (A := .leaf) (cxo_ref01_AppendU32) follows Try.func75 (by kernel_rfl) (by kernel_rfl) (by kernel_rfl) (by kernel_rfl) (by kernel_rfl) (CutsOk.leaf _) (by intro v; kernel_rfl)
def sg_ref01_AppendSize : Sig := mkSig [(.hole (.slice (.int .u8))), (.hole (.int .u64))] [] [(.own 0)] [(.vec (.int .u8))] (fun p => ref01_AppendSize p.1.1 p.1.2.1)
theorem fk_ref01_AppendSize : FnOk Try.prog 76 := ⟨Try.f76, Try.func76, by kernel_rfl, by kernel_rfl⟩
def cx_ref01_AppendSize : Cx := ⟨tys, lk [(88 + 100000 * 0, sg_ref01_joined), (89 + 100000 * 0, sg_ref01_little)], 36, 0, [], gl, []⟩
theorem cxo_ref01_AppendSize : CxOk Try.prog (cx_ref01_AppendSize) := ⟨tys_ok, FnsAll.cons 0 rfl fk_ref01_joined sd_ref01_joined (FnsAll.cons 0 rfl fk_ref01_little sd_ref01_little (FnsAll.nil))⟩
def gs_ref01_AppendSize : Nat → Option Blk := lk []
theorem sd_ref01_AppendSize : FnSound Try.prog gl 76 sg_ref01_AppendSize :=
  fn_printed (G := gs_ref01_AppendSize) (A := .leaf) (cxo_ref01_AppendSize) follows Try.func76 (by kernel_rfl) (by kernel_rfl) (by kernel_rfl) (by kernel_rfl) (by kernel_rfl) (CutsOk.leaf _) (by intro v; kernel_rfl)
def sg_ref01_AppendHash : Sig := mkSig [(.hole (.slice (.int .u8))), (.hole (.arr 32 (.int .u8)))] [] [(.own 0)] [(.vec (.int .u8))] (fun p => ref01_AppendHash p.1.1 p.1.2.1)
theorem fk_ref01_AppendHash : FnOk Try.prog 90 := ⟨Try.f90, Try.func90, by kernel_rfl, by kernel_rfl⟩
def cx_ref01_AppendHash : Cx := ⟨tys, lk [(88 + 100000 * 0, sg_ref01_joined)], 8, 0, [], gl, []⟩
theorem cxo_ref01_AppendHash : CxOk Try.prog (cx_ref01_AppendHash) := ⟨tys_ok, FnsAll.cons 0 rfl fk_ref01_joined sd_ref01_joined (FnsAll.nil)⟩
def gs_ref01_AppendHash : Nat → Option Blk := lk []
theorem sd_ref01_AppendHash : FnSound Try.prog gl 90 sg_ref01_AppendHash :=
  fn_printed (G := gs_ref01_AppendHash) (A := .leaf) (cxo_ref01_AppendHash) follows Try.func90 (by kernel_rfl) (by kernel_rfl) (by kernel_rfl) (by kernel_rfl) (by kernel_rfl) (CutsOk.leaf _) (by intro v; kernel_rfl)
def sg_ref01_AppendU64 : Sig := mkSig [(.hole (.slice (.int .u8))), (.hole (.int .u64))] [] [(.own 0)] [(.vec (.int .u8))] (fun p => ref01_AppendU64 p.1.1 p.1.2.1)
theorem fk_ref01_AppendU64 : FnOk Try.prog 91 := ⟨Try.f91, Try.func91, by kernel_rfl, by kernel_rfl⟩
def cx_ref01_AppendU64 : Cx := ⟨tys, lk [(88 + 100000 * 0, sg_ref01_joined), (89 + 100000 * 0, sg_ref01_little)], 9, 0, [], gl, []⟩
theorem cxo_ref01_AppendU64 : CxOk Try.prog (cx_ref01_AppendU64) := ⟨tys_ok, FnsAll.cons 0 rfl fk_ref01_joined sd_ref01_joined (FnsAll.cons 0 rfl fk_ref01_little sd_ref01_little (FnsAll.nil))⟩
def gs_ref01_AppendU64 : Nat → Option Blk := lk []
theorem sd_ref01_AppendU64 : FnSound Try.prog gl 91 sg_ref01_AppendU64 :=
  fn_printed (G := gs_ref01_AppendU64) (A := .leaf) (cxo_ref01_AppendU64) follows Try.func91 (by kernel_rfl) (by kernel_rfl) (by kernel_rfl) (by kernel_rfl) (by kernel_rfl) (CutsOk.leaf _) (by intro v; kernel_rfl)
def sg_ref01_AppendBytes : Sig := mkSig [(.hole (.slice (.int .u8))), (.hole (.slice (.int .u8)))] [] [(.own 0)] [(.vec (.int .u8))] (fun p => ref01_AppendBytes p.1.1 p.1.2.1)
theorem fk_ref01_AppendBytes : FnOk Try.prog 79 := ⟨Try.f79, Try.func79, by kernel_rfl, by kernel_rfl⟩
def cx_ref01_AppendBytes : Cx := ⟨tys, lk [(76 + 100000 * 0, sg_ref01_AppendSize), (88 + 100000 * 0, sg_ref01_joined)], 12, 0, [], gl, []⟩
theorem cxo_ref01_AppendBytes : CxOk Try.prog (cx_ref01_AppendBytes) := ⟨tys_ok, FnsAll.cons 0 rfl fk_ref01_AppendSize sd_ref01_AppendSize (FnsAll.cons 0 rfl fk_ref01_joined sd_ref01_joined (FnsAll.nil))⟩
def gs_ref01_AppendBytes : Nat → Option Blk := lk []
theorem sd_ref01_AppendBytes : FnSound Try.prog gl 79 sg_ref01_AppendBytes :=
  fn_printed (G := gs_ref01_AppendBytes) (A := .leaf) (cxo_ref01_AppendBytes) follows Try.func79 (by kernel_rfl) (by kernel_rfl) (by kernel_rfl) (by kernel_rfl) (by kernel_rfl) (CutsOk.leaf _) (by intro v; kernel_rfl)
def sg_ref01_Same : Sig := mkSig [(.hole (.slice (.int .u8))), (.hole (.slice (.int .u8)))] [] [(.hole .bool)] [] (fun p => ref01_Same p.1.1 p.1.2.1)
theorem fk_ref01_Same : FnOk Try.prog 40 := ⟨Try.f40, Try.func40, by kernel_rfl, by kernel_rfl⟩
def cx_ref01_Same : Cx := ⟨tys, lk [], 10, 0, [], gl, []⟩
theorem cxo_ref01_Same : CxOk Try.prog (cx_ref01_Same) := ⟨tys_ok, FnsAll.nil⟩
def gs_ref01_Same : Nat → Option Blk := lk []
theorem sd_ref01_Same : FnSound Try.prog gl 40 sg_ref01_Same :=
  fn_printed (G := gs_ref01_Same) (A := .leaf) (cxo_ref01_Same) follows Try.func40 (by kernel_rfl) (by kernel_rfl) (by kernel_rfl) (by kernel_rfl) (by kernel_rfl) (CutsOk.leaf _) (by intro v; kernel_rfl)
end Go.PE.Ytngkldmhekijgaa
end
end

section
set_option maxRecDepth 100000
set_option linter.unusedVariables false
noncomputable section
namespace Go.PE.Ytngkldmhekijgaa
open Go.PE Go.Proofs

def sg_ref09_Point : Sig := mkSig [(.hole T_b85e)] [] [(.own 0)] [(.vec (.int .u8))] (fun p => ref09_Point p.1.1)
theorem fk_ref09_Point : FnOk Try.prog 77 := ⟨Try.f77, Try.func77, by kernel_rfl, by kernel_rfl⟩
def cx_ref09_Point : Cx := ⟨tys, lk [(90 + 100000 * 0, sg_ref01_AppendHash), (75 + 100000 * 0, sg_ref01_AppendU32)], 9, 0, [], gl, []⟩
theorem cxo_ref09_Point : CxOk Try.prog (cx_ref09_Point) := ⟨tys_ok, FnsAll.cons 0 rfl fk_ref01_AppendHash sd_ref01_AppendHash (FnsAll.cons 0 rfl fk_ref01_AppendU32 sd_ref01_AppendU32 (FnsAll.nil))⟩
def gs_ref09_Point : Nat → Option Blk := lk []
theorem sd_ref09_Point : FnSound Try.prog gl 77 sg_ref09_Point :=
  fn_printed (G := gs_ref09_Point) (A := .leaf) (cxo_ref09_Point) follows Try.func77 (by kernel_rfl) (by kernel_rfl) (by kernel_rfl) (by kernel_rfl) (by kernel_rfl) (CutsOk.leaf _) (by intro v; kernel_rfl)
def sg_ref09_Out : Sig := mkSig [(.hole T_b101)] [] [(.own 0)] [(.vec (.int .u8))] (fun p => ref09_Out p.1.1)
theorem fk_ref09_Out : FnOk Try.prog 78 := ⟨Try.f78, Try.func78, by kernel_rfl, by kernel_rfl⟩
def cx_ref09_Out : Cx := ⟨tys, lk [(79 + 100000 * 0, sg_ref01_AppendBytes), (91 + 100000 * 0, sg_ref01_AppendU64)], 10, 0, [], gl, []⟩
theorem cxo_ref09_Out : CxOk Try.prog (cx_ref09_Out) := ⟨tys_ok, FnsAll.cons 0 rfl fk_ref01_AppendBytes sd_ref01_AppendBytes (FnsAll.cons 0 rfl fk_ref01_AppendU64 sd_ref01_AppendU64 (FnsAll.nil))⟩
def gs_ref09_Out : Nat → Option Blk := lk []
theorem sd_ref09_Out : FnSound Try.prog gl 78 sg_ref09_Out :=
  fn_printed (G := gs_ref09_Out) (A := .leaf) (cxo_ref09_Out) follows Try.func78 (by kernel_rfl) (by kernel_rfl) (by kernel_rfl) (by kernel_rfl) (by kernel_rfl) (CutsOk.leaf _) (by intro v; kernel_rfl)
def sg_ref09_encode : Sig := mkSig [(.hole T_8f0a), (.hole .bool)] [] [(.own 0)] [(.vec (.int .u8))] (fun p => ref09_encode p.1.1 p.1.2.1)
theorem fk_ref09_encode : FnOk Try.prog 61 := ⟨Try.f61, Try.func61, by kernel_rfl, by kernel_rfl⟩
def cx_ref09_encode : Cx := ⟨tys, lk [(79 + 100000 * 0, sg_ref01_AppendBytes), (76 + 100000 * 0, sg_ref01_AppendSize), (75 + 100000 * 0, sg_ref01_AppendU32), (78 + 100000 * 0, sg_ref09_Out), (77 + 100000 * 0, sg_ref09_Point)], 89, 0, [], gl, []⟩
theorem cxo_ref09_encode : CxOk Try.prog (cx_ref09_encode) := ⟨tys_ok, FnsAll.cons 0 rfl fk_ref01_AppendBytes sd_ref01_AppendBytes (FnsAll.cons 0 rfl fk_ref01_AppendSize sd_ref01_AppendSize (FnsAll.cons 0 rfl fk_ref01_AppendU32 sd_ref01_AppendU32 (FnsAll.cons 0 rfl fk_ref09_Out sd_ref09_Out (FnsAll.cons 0 rfl fk_ref09_Point sd_ref09_Point (FnsAll.nil)))))⟩
abbrev K0_ref09_encode_L1 : List (Nat × Ty) := [(24, (.slice T_089d)), (25, (.int .i64))]
abbrev TM_ref09_encode_L1 : Tm := ⟨[(2, (.ptr 0 [])), (5, (.own 1)), (26, (.hole (.int .i64)))], [(.box T_8f0a (.hole T_8f0a)), (.vec (.int .u8))]⟩
abbrev UO_ref09_encode_L1 : Outs := (.one (.exit 0) ⟨[(2, (.ptr 0 [])), (5, (.own 1))], [(.box T_8f0a (.hole T_8f0a)), (.vec (.int .u8))]⟩)
def B_ref09_encode_L1 : Blk := frBlk 0 [1, 4, 24, 25] K0_ref09_encode_L1 TM_ref09_encode_L1 UO_ref09_encode_L1 (fun k => loopV (fun v => ref09_encode_L1 k.1 k.2.1 v))
abbrev K0_ref09_encode_L2 : List (Nat × Ty) := [(46, (.slice T_b101)), (47, (.int .i64))]
abbrev TM_ref09_encode_L2 : Tm := ⟨[(2, (.ptr 0 [])), (5, (.own 1)), (48, (.hole (.int .i64)))], [(.box T_8f0a (.hole T_8f0a)), (.vec (.int .u8))]⟩
abbrev UO_ref09_encode_L2 : Outs := (.one (.exit 2) ⟨[(2, (.ptr 0 [])), (5, (.own 1))], [(.box T_8f0a (.hole T_8f0a)), (.vec (.int .u8))]⟩)
def B_ref09_encode_L2 : Blk := frBlk 0 [1, 4, 46, 47] K0_ref09_encode_L2 TM_ref09_encode_L2 UO_ref09_encode_L2 (fun k => loopV (fun v => ref09_encode_L2 k.1 k.2.1 v))
abbrev K0_ref09_encode_L4 : List (Nat × Ty) := [(77, (.slice (.slice (.int .u8)))), (78, (.int .i64))]
abbrev TM_ref09_encode_L4 : Tm := ⟨[(5, (.own 0)), (79, (.hole (.int .i64)))], [(.vec (.int .u8))]⟩
abbrev UO_ref09_encode_L4 : Outs := (.one (.exit 6) ⟨[(5, (.own 0))], [(.vec (.int .u8))]⟩)
def B_ref09_encode_L4 : Blk := frBlk 0 [1, 62, 63, 64, 77, 78] K0_ref09_encode_L4 TM_ref09_encode_L4 UO_ref09_encode_L4 (fun k => loopV (fun v => ref09_encode_L4 k.1 k.2.1 v))
abbrev K0_ref09_encode_L3 : List (Nat × Ty) := [(1, .bool), (62, (.slice T_089d)), (63, (.int .i64))]
abbrev TM_ref09_encode_L3 : Tm := ⟨[(5, (.own 0)), (64, (.hole (.int .i64)))], [(.vec (.int .u8))]⟩
abbrev UO_ref09_encode_L3 : Outs := (.one (.exit 4) ⟨[(5, (.own 0))], [(.vec (.int .u8))]⟩)
def B_ref09_encode_L3 : Blk := frBlk 0 [1, 4, 62, 63] K0_ref09_encode_L3 TM_ref09_encode_L3 UO_ref09_encode_L3 (fun k => loopV (fun v => ref09_encode_L3 k.1 k.2.1 k.2.2.1 v))
def gs_ref09_encode : Nat → Option Blk := lk [(1, B_ref09_encode_L1), (2, B_ref09_encode_L2), (4, B_ref09_encode_L4), (3, B_ref09_encode_L3)]
theorem ct_ref09_encode_L4 : CodeSound Try.prog ((cx_ref09_encode).fr [1, 4, 62, 63]) (subL (subR (subR (subR (subR (subL (subL (subR (subR (subL (subL (subR (subL (subR (subR (subR (subR (subR (subR (subR (bodyOf Try.f61))))))))))))))))))))) (B_ref09_encode_L4).D :=
  loop_printed (G := gs_ref09_encode) (A := .leaf) (T0 := K0_ref09_encode_L4) (T := TM_ref09_encode_L4) (U := UO_ref09_encode_L4) (step := (fun k v => ref09_encode_L4 k.1 k.2.1 v)) ((cxo_ref09_encode).fr [1, 4, 62, 63]) follows (by kernel_rfl) (by kernel_rfl) (CutsOk.leaf _) (by intro k v; kernel_rfl)
theorem ct_ref09_encode_L3 : CodeSound Try.prog (cx_ref09_encode) (subL (subR (subL (subR (subR (subR (subR (subR (subR (subR (bodyOf Try.f61))))))))))) (B_ref09_encode_L3).D :=
  loop_printed (G := gs_ref09_encode) (A := (.two .leaf (.two .leaf (.two (.two (.two .leaf (.two .leaf (.two .leaf (.two .leaf (.two (.cut 4) .leaf))))) .leaf) .leaf)))) (T0 := K0_ref09_encode_L3) (T := TM_ref09_encode_L3) (U := UO_ref09_encode_L3) (step := (fun k v => ref09_encode_L3 k.1 k.2.1 k.2.2.1 v)) (cxo_ref09_encode) follows (by kernel_rfl) (by kernel_rfl) (CutsOk.two (CutsOk.leaf _) (CutsOk.two (CutsOk.leaf _) (CutsOk.two (CutsOk.two (CutsOk.two (CutsOk.leaf _) (CutsOk.two (CutsOk.leaf _) (CutsOk.two (CutsOk.leaf _) (CutsOk.two (CutsOk.leaf _) (CutsOk.two (CutsOk.cut (g := B_ref09_encode_L4) (by kernel_rfl) (ct_ref09_encode_L4)) (CutsOk.leaf _)))))) (CutsOk.leaf _)) (CutsOk.leaf _)))) (by intro k v; kernel_rfl)
theorem ct_ref09_encode_L2 : CodeSound Try.prog (cx_ref09_encode) (subL (subR (subL (subR (subR (subR (subR (subR (bodyOf Try.f61))))))))) (B_ref09_encode_L2).D :=
  loop_printed (G := gs_ref09_encode) (A := .leaf) (T0 := K0_ref09_encode_L2) (T := TM_ref09_encode_L2) (U := UO_ref09_encode_L2) (step := (fun k v => ref09_encode_L2 k.1 k.2.1 v)) (cxo_ref09_encode) follows (by kernel_rfl) (by kernel_rfl) (CutsOk.leaf _) (by intro k v; kernel_rfl)
theorem ct_ref09_encode_L1 : CodeSound Try.prog (cx_ref09_encode) (subL (subR (subL (subR (subR (subR (bodyOf Try.f61))))))) (B_ref09_encode_L1).D :=
  loop_printed (G := gs_ref09_encode) (A := .leaf) (T0 := K0_ref09_encode_L1) (T := TM_ref09_encode_L1) (U := UO_ref09_encode_L1) (step := (fun k v => ref09_encode_L1 k.1 k.2.1 v)) (cxo_ref09_encode) follows (by kernel_rfl) (by kernel_rfl) (CutsOk.leaf _) (by intro k v; kernel_rfl)
theorem sd_ref09_encode : FnSound Try.prog gl 61 sg_ref09_encode :=
  fn_printed (G := gs_ref09_encode) (A := (.two .leaf (.two .leaf (.two .leaf (.two (.two .leaf (.two (.cut 1) .leaf)) (.two .leaf (.two (.two .leaf (.two (.cut 2) .leaf)) (.two .leaf (.two (.two .leaf (.two (.cut 3) .leaf)) .leaf))))))))) (cxo_ref09_encode) follows Try.func61 (by kernel_rfl) (by kernel_rfl) (by kernel_rfl) (by kernel_rfl) (by kernel_rfl) (CutsOk.two (CutsOk.leaf _) (CutsOk.two (CutsOk.leaf _) (CutsOk.two (CutsOk.leaf _) (CutsOk.two (CutsOk.two (CutsOk.leaf _) (CutsOk.two (CutsOk.cut (g := B_ref09_encode_L1) (by kernel_rfl) (ct_ref09_encode_L1)) (CutsOk.leaf _))) (CutsOk.two (CutsOk.leaf _) (CutsOk.two (CutsOk.two (CutsOk.leaf _) (CutsOk.two (CutsOk.cut (g := B_ref09_encode_L2) (by kernel_rfl) (ct_ref09_encode_L2)) (CutsOk.leaf _))) (CutsOk.two (CutsOk.leaf _) (CutsOk.two (CutsOk.two (CutsOk.leaf _) (CutsOk.two (CutsOk.cut (g := B_ref09_encode_L3) (by kernel_rfl) (ct_ref09_encode_L3)) (CutsOk.leaf _))) (CutsOk.leaf _))))))))) (by intro v; kernel_rfl)
def sg_ref09_Fits : Sig := mkSig [(.hole T_8f0a)] [] [(.hole .bool)] [] (fun p => ref09_Fits p.1.1)
theorem fk_ref09_Fits : FnOk Try.prog 47 := ⟨Try.f47, Try.func47, by kernel_rfl, by kernel_rfl⟩
def cx_ref09_Fits : Cx := ⟨tys, lk [(61 + 100000 * 0, sg_ref09_encode)], 63, 0, [], gl, []⟩
theorem cxo_ref09_Fits : CxOk Try.prog (cx_ref09_Fits) := ⟨tys_ok, FnsAll.cons 0 rfl fk_ref09_encode sd_ref09_encode (FnsAll.nil)⟩
abbrev K0_ref09_Fits_L1 : List (Nat × Ty) := [(20, (.slice T_b101)), (21, (.int .i64))]
abbrev TM_ref09_Fits_L1 : Tm := ⟨[(1, (.ptr 0 [])), (22, (.hole (.int .i64)))], [(.box T_8f0a (.hole T_8f0a))]⟩
abbrev UO_ref09_Fits_L1 : Outs := (.more .ret ⟨[(2, (.hole .bool))], []⟩ (.one (.exit 0) ⟨[(1, (.ptr 0 []))], [(.box T_8f0a (.hole T_8f0a))]⟩))
def B_ref09_Fits_L1 : Blk := frBlk 0 [20, 21] K0_ref09_Fits_L1 TM_ref09_Fits_L1 UO_ref09_Fits_L1 (fun k => loopV (fun v => ref09_Fits_L1 k.1 k.2.1 v))
abbrev K0_ref09_Fits_L3 : List (Nat × Ty) := [(48, (.slice (.slice (.int .u8)))), (49, (.int .i64))]
abbrev TM_ref09_Fits_L3 : Tm := ⟨[(1, (.ptr 0 [])), (50, (.hole (.int .i64)))], [(.box T_8f0a (.hole T_8f0a))]⟩
abbrev UO_ref09_Fits_L3 : Outs := (.more .ret ⟨[(2, (.hole .bool))], []⟩ (.one (.exit 4) ⟨[(1, (.ptr 0 []))], [(.box T_8f0a (.hole T_8f0a))]⟩))
def B_ref09_Fits_L3 : Blk := frBlk 0 [37, 38, 39, 48, 49] K0_ref09_Fits_L3 TM_ref09_Fits_L3 UO_ref09_Fits_L3 (fun k => loopV (fun v => ref09_Fits_L3 k.1 k.2.1 v))
abbrev K0_ref09_Fits_L2 : List (Nat × Ty) := [(37, (.slice T_089d)), (38, (.int .i64))]
abbrev TM_ref09_Fits_L2 : Tm := ⟨[(1, (.ptr 0 [])), (39, (.hole (.int .i64)))], [(.box T_8f0a (.hole T_8f0a))]⟩
abbrev UO_ref09_Fits_L2 : Outs := (.more .ret ⟨[(2, (.hole .bool))], []⟩ (.one (.exit 2) ⟨[(1, (.ptr 0 []))], [(.box T_8f0a (.hole T_8f0a))]⟩))
def B_ref09_Fits_L2 : Blk := frBlk 0 [37, 38] K0_ref09_Fits_L2 TM_ref09_Fits_L2 UO_ref09_Fits_L2 (fun k => loopV (fun v => ref09_Fits_L2 k.1 k.2.1 v))
def gs_ref09_Fits : Nat → Option Blk := lk [(1, B_ref09_Fits_L1), (3, B_ref09_Fits_L3), (2, B_ref09_Fits_L2)]
theorem ct_ref09_Fits_L3 : CodeSound Try.prog ((cx_ref09_Fits).fr [37, 38]) (subL (subR (subR (subR (subL (subL (subR (subR (subL (subL (subR (subL (subR (subR (subR (bodyOf Try.f47)))))))))))))))) (B_ref09_Fits_L3).D :=
  loop_printed (G := gs_ref09_Fits) (A := .leaf) (T0 := K0_ref09_Fits_L3) (T := TM_ref09_Fits_L3) (U := UO_ref09_Fits_L3) (step := (fun k v => ref09_Fits_L3 k.1 k.2.1 v)) ((cxo_ref09_Fits).fr [37, 38]) follows (by kernel_rfl) (by kernel_rfl) (CutsOk.leaf _) (by intro k v; kernel_rfl)
theorem ct_ref09_Fits_L2 : CodeSound Try.prog (cx_ref09_Fits) (subL (subR (subL (subR (subR (subR (bodyOf Try.f47))))))) (B_ref09_Fits_L2).D :=
  loop_printed (G := gs_ref09_Fits) (A := (.two .leaf (.two .leaf (.two (.two (.two .leaf (.two .leaf (.two .leaf (.two (.cut 3) .leaf)))) .leaf) .leaf)))) (T0 := K0_ref09_Fits_L2) (T := TM_ref09_Fits_L2) (U := UO_ref09_Fits_L2) (step := (fun k v => ref09_Fits_L2 k.1 k.2.1 v)) (cxo_ref09_Fits) follows (by kernel_rfl) (by kernel_rfl) (CutsOk.two (CutsOk.leaf _) (CutsOk.two (CutsOk.leaf _) (CutsOk.two (CutsOk.two (CutsOk.two (CutsOk.leaf _) (CutsOk.two (CutsOk.leaf _) (CutsOk.two (CutsOk.leaf _) (CutsOk.two (CutsOk.cut (g := B_ref09_Fits_L3) (by kernel_rfl) (ct_ref09_Fits_L3)) (CutsOk.leaf _))))) (CutsOk.leaf _)) (CutsOk.leaf _)))) (by intro k v; kernel_rfl)
theorem ct_ref09_Fits_L1 : CodeSound Try.prog (cx_ref09_Fits) (subL (subR (subL (subR (subR (bodyOf Try.f47)))))) (B_ref09_Fits_L1).D :=
  loop_printed (G := gs_ref09_Fits) (A := .leaf) (T0 := K0_ref09_Fits_L1) (T := TM_ref09_Fits_L1) (U := UO_ref09_Fits_L1) (step := (fun k v => ref09_Fits_L1 k.1 k.2.1 v)) (cxo_ref09_Fits) follows (by kernel_rfl) (by kernel_rfl) (CutsOk.leaf _) (by intro k v; kernel_rfl)
theorem sd_ref09_Fits : FnSound Try.prog gl 47 sg_ref09_Fits :=
  fn_printed (G := gs_ref09_Fits) (A := (.two .leaf (.two .leaf (.two (.two .leaf (.two (.cut 1) .leaf)) (.two (.two .leaf (.two (.cut 2) .leaf)) .leaf))))) (cxo_ref09_Fits) follows Try.func47 (by kernel_rfl) (by kernel_rfl) (by kernel_rfl) (by kernel_rfl) (by kernel_rfl) (CutsOk.two (CutsOk.leaf _) (CutsOk.two (CutsOk.leaf _) (CutsOk.two (CutsOk.two (CutsOk.leaf _) (CutsOk.two (CutsOk.cut (g := B_ref09_Fits_L1) (by kernel_rfl) (ct_ref09_Fits_L1)) (CutsOk.leaf _))) (CutsOk.two (CutsOk.two (CutsOk.leaf _) (CutsOk.two (CutsOk.cut (g := B_ref09_Fits_L2) (by kernel_rfl) (ct_ref09_Fits_L2)) (CutsOk.leaf _))) (CutsOk.leaf _))))) (by intro v; kernel_rfl)
def sg_ref09_Null : Sig := mkSig [(.hole T_b85e)] [] [(.hole .bool)] [] (fun p => ref09_Null p.1.1)
theorem fk_ref09_Null : FnOk Try.prog 48 := ⟨Try.f48, Try.func48, by kernel_rfl, by kernel_rfl⟩
def cx_ref09_Null : Cx := ⟨tys, lk [], 6, 0, [], gl, []⟩
theorem cxo_ref09_Null : CxOk Try.prog (cx_ref09_Null) := ⟨tys_ok, FnsAll.nil⟩
def gs_ref09_Null : Nat → Option Blk := lk []
theorem sd_ref09_Null : FnSound Try.prog gl 48 sg_ref09_Null :=
  fn_printed (G := gs_ref09_Null) (A := .leaf) (cxo_ref09_Null) follows Try.func48 (by kernel_rfl) (by kernel_rfl) (by kernel_rfl) (by kernel_rfl) (by kernel_rfl) (CutsOk.leaf _) (by intro v; kernel_rfl)
def sg_ref09_Coinbase : Sig := mkSig [(.hole T_8f0a)] [] [(.hole .bool)] [] (fun p => ref09_Coinbase p.1.1)
theorem fk_ref09_Coinbase : FnOk Try.prog 29 := ⟨Try.f29, Try.func29, by kernel_rfl, by kernel_rfl⟩
def cx_ref09_Coinbase : Cx := ⟨tys, lk [(48 + 100000 * 0, sg_ref09_Null)], 15, 0, [], gl, []⟩
theorem cxo_ref09_Coinbase : CxOk Try.prog (cx_ref09_Coinbase) := ⟨tys_ok, FnsAll.cons 0 rfl fk_ref09_Null sd_ref09_Null (FnsAll.nil)⟩
def gs_ref09_Coinbase : Nat → Option Blk := lk []
theorem sd_ref09_Coinbase : FnSound Try.prog gl 29 sg_ref09_Coinbase :=
  fn_printed (G := gs_ref09_Coinbase) (A := .leaf) (cxo_ref09_Coinbase) follows Try.func29 (by kernel_rfl) (by kernel_rfl) (by kernel_rfl) (by kernel_rfl) (by kernel_rfl) (CutsOk.leaf _) (by intro v; kernel_rfl)
def sg_ref09_Check : Sig := mkSig [(.hole T_8f0a)] [] [(.hole (.int .i64))] [] (fun p => ref09_Check p.1.1)
theorem fk_ref09_Check : FnOk Try.prog 28 := ⟨Try.f28, Try.func28, by kernel_rfl, by kernel_rfl⟩
def cx_ref09_Check : Cx := ⟨tys, lk [(29 + 100000 * 0, sg_ref09_Coinbase), (47 + 100000 * 0, sg_ref09_Fits), (48 + 100000 * 0, sg_ref09_Null)], 81, 0, [], gl, []⟩
theorem cxo_ref09_Check : CxOk Try.prog (cx_ref09_Check) := ⟨tys_ok, FnsAll.cons 0 rfl fk_ref09_Coinbase sd_ref09_Coinbase (FnsAll.cons 0 rfl fk_ref09_Fits sd_ref09_Fits (FnsAll.cons 0 rfl fk_ref09_Null sd_ref09_Null (FnsAll.nil)))⟩
abbrev K0_ref09_Check_L1 : List (Nat × Ty) := [(24, (.slice T_b101)), (25, (.int .i64))]
abbrev TM_ref09_Check_L1 : Tm := ⟨[(1, (.ptr 0 [])), (3, (.hole (.int .i64))), (26, (.hole (.int .i64)))], [(.box T_8f0a (.hole T_8f0a))]⟩
abbrev UO_ref09_Check_L1 : Outs := (.more .ret ⟨[(2, (.hole (.int .i64)))], []⟩ (.one (.exit 0) ⟨[(1, (.ptr 0 [])), (3, (.hole (.int .i64)))], [(.box T_8f0a (.hole T_8f0a))]⟩))
def B_ref09_Check_L1 : Blk := frBlk 0 [24, 25] K0_ref09_Check_L1 TM_ref09_Check_L1 UO_ref09_Check_L1 (fun k => loopV (fun v => ref09_Check_L1 k.1 k.2.1 v))
abbrev K0_ref09_Check_L3 : List (Nat × Ty) := [(6, (.int .i64))]
abbrev TM_ref09_Check_L3 : Tm := ⟨[(1, (.ptr 0 [])), (7, (.hole (.int .i64)))], [(.box T_8f0a (.hole T_8f0a))]⟩
abbrev UO_ref09_Check_L3 : Outs := (.more .ret ⟨[(2, (.hole (.int .i64)))], []⟩ (.one (.exit 4) ⟨[(1, (.ptr 0 []))], [(.box T_8f0a (.hole T_8f0a))]⟩))
def B_ref09_Check_L3 : Blk := frBlk 0 [6, 42, 43] K0_ref09_Check_L3 TM_ref09_Check_L3 UO_ref09_Check_L3 (fun k => loopV (fun v => ref09_Check_L3 k.1 v))
abbrev K0_ref09_Check_L2 : List (Nat × Ty) := [(42, (.int .i64))]
abbrev TM_ref09_Check_L2 : Tm := ⟨[(1, (.ptr 0 [])), (43, (.hole (.int .i64)))], [(.box T_8f0a (.hole T_8f0a))]⟩
abbrev UO_ref09_Check_L2 : Outs := (.more .ret ⟨[(2, (.hole (.int .i64)))], []⟩ (.one (.exit 2) ⟨[(1, (.ptr 0 []))], [(.box T_8f0a (.hole T_8f0a))]⟩))
def B_ref09_Check_L2 : Blk := frBlk 0 [42] K0_ref09_Check_L2 TM_ref09_Check_L2 UO_ref09_Check_L2 (fun k => loopV (fun v => ref09_Check_L2 k.1 v))
abbrev K0_ref09_Check_L4 : List (Nat × Ty) := [(66, (.slice T_089d)), (67, (.int .i64))]
abbrev TM_ref09_Check_L4 : Tm := ⟨[(1, (.ptr 0 [])), (68, (.hole (.int .i64)))], [(.box T_8f0a (.hole T_8f0a))]⟩
abbrev UO_ref09_Check_L4 : Outs := (.more .ret ⟨[(2, (.hole (.int .i64)))], []⟩ (.one (.exit 6) ⟨[], []⟩))
def B_ref09_Check_L4 : Blk := frBlk 0 [66, 67] K0_ref09_Check_L4 TM_ref09_Check_L4 UO_ref09_Check_L4 (fun k => loopV (fun v => ref09_Check_L4 k.1 k.2.1 v))
def gs_ref09_Check : Nat → Option Blk := lk [(1, B_ref09_Check_L1), (3, B_ref09_Check_L3), (2, B_ref09_Check_L2), (4, B_ref09_Check_L4)]
theorem ct_ref09_Check_L3 : CodeSound Try.prog ((cx_ref09_Check).fr [42]) (subL (subR (subR (subL (subL (subR (subR (subL (subL (subR (subL (subR (subR (subR (subR (subR (subR (bodyOf Try.f28)))))))))))))))))) (B_ref09_Check_L3).D :=
  loop_printed (G := gs_ref09_Check) (A := .leaf) (T0 := K0_ref09_Check_L3) (T := TM_ref09_Check_L3) (U := UO_ref09_Check_L3) (step := (fun k v => ref09_Check_L3 k.1 v)) ((cxo_ref09_Check).fr [42]) follows (by kernel_rfl) (by kernel_rfl) (CutsOk.leaf _) (by intro k v; kernel_rfl)
theorem ct_ref09_Check_L4 : CodeSound Try.prog (cx_ref09_Check) (subL (subR (subL (subR (subR (subR (subR (subR (subR (subR (bodyOf Try.f28))))))))))) (B_ref09_Check_L4).D :=
  loop_printed (G := gs_ref09_Check) (A := .leaf) (T0 := K0_ref09_Check_L4) (T := TM_ref09_Check_L4) (U := UO_ref09_Check_L4) (step := (fun k v => ref09_Check_L4 k.1 k.2.1 v)) (cxo_ref09_Check) follows (by kernel_rfl) (by kernel_rfl) (CutsOk.leaf _) (by intro k v; kernel_rfl)
theorem ct_ref09_Check_L2 : CodeSound Try.prog (cx_ref09_Check) (subL (subR (subL (subR (subR (subR (subR (subR (subR (bodyOf Try.f28)))))))))) (B_ref09_Check_L2).D :=
  loop_printed (G := gs_ref09_Check) (A := (.two .leaf (.two .leaf (.two (.two (.two .leaf (.two .leaf (.two (.cut 3) .leaf))) .leaf) .leaf)))) (T0 := K0_ref09_Check_L2) (T := TM_ref09_Check_L2) (U := UO_ref09_Check_L2) (step := (fun k v => ref09_Check_L2 k.1 v)) (cxo_ref09_Check) follows (by kernel_rfl) (by kernel_rfl) (CutsOk.two (CutsOk.leaf _) (CutsOk.two (CutsOk.leaf _) (CutsOk.two (CutsOk.two (CutsOk.two (CutsOk.leaf _) (CutsOk.two (CutsOk.leaf _) (CutsOk.two (CutsOk.cut (g := B_ref09_Check_L3) (by kernel_rfl) (ct_ref09_Check_L3)) (CutsOk.leaf _)))) (CutsOk.leaf _)) (CutsOk.leaf _)))) (by intro k v; kernel_rfl)
theorem ct_ref09_Check_L1 : CodeSound Try.prog (cx_ref09_Check) (subL (subR (subL (subR (subR (subR (subR (bodyOf Try.f28)))))))) (B_ref09_Check_L1).D :=
  loop_printed (G := gs_ref09_Check) (A := .leaf) (T0 := K0_ref09_Check_L1) (T := TM_ref09_Check_L1) (U := UO_ref09_Check_L1) (step := (fun k v => ref09_Check_L1 k.1 k.2.1 v)) (cxo_ref09_Check) follows (by kernel_rfl) (by kernel_rfl) (CutsOk.leaf _) (by intro k v; kernel_rfl)
theorem sd_ref09_Check : FnSound Try.prog gl 28 sg_ref09_Check :=
  fn_printed (G := gs_ref09_Check) (A := (.two .leaf (.two .leaf (.two .leaf (.two .leaf (.two (.two .leaf (.two (.cut 1) .leaf)) (.two .leaf (.two (.two .leaf (.two (.cut 2) .leaf)) (.two (.two .leaf (.two (.cut 4) .leaf)) .leaf))))))))) (cxo_ref09_Check) follows Try.func28 (by kernel_rfl) (by kernel_rfl) (by kernel_rfl) (by kernel_rfl) (by kernel_rfl) (CutsOk.two (CutsOk.leaf _) (CutsOk.two (CutsOk.leaf _) (CutsOk.two (CutsOk.leaf _) (CutsOk.two (CutsOk.leaf _) (CutsOk.two (CutsOk.two (CutsOk.leaf _) (CutsOk.two (CutsOk.cut (g := B_ref09_Check_L1) (by kernel_rfl) (ct_ref09_Check_L1)) (CutsOk.leaf _))) (CutsOk.two (CutsOk.leaf _) (CutsOk.two (CutsOk.two (CutsOk.leaf _) (CutsOk.two (CutsOk.cut (g := B_ref09_Check_L2) (by kernel_rfl) (ct_ref09_Check_L2)) (CutsOk.leaf _))) (CutsOk.two (CutsOk.two (CutsOk.leaf _) (CutsOk.two (CutsOk.cut (g := B_ref09_Check_L4) (by kernel_rfl) (ct_ref09_Check_L4)) (CutsOk.leaf _))) (CutsOk.leaf _))))))))) (by intro v; kernel_rfl)
def sg_ref09_SameOut : Sig := mkSig [(.hole T_b101), (.hole T_b101)] [] [(.hole .bool)] [] (fun p => ref09_SameOut p.1.1 p.1.2.1)
theorem fk_ref09_SameOut : FnOk Try.prog 17 := ⟨Try.f17, Try.func17, by kernel_rfl, by kernel_rfl⟩
def cx_ref09_SameOut : Cx := ⟨tys, lk [(40 + 100000 * 0, sg_ref01_Same)], 17, 0, [], gl, []⟩
theorem cxo_ref09_SameOut : CxOk Try.prog (cx_ref09_SameOut) := ⟨tys_ok, FnsAll.cons 0 rfl fk_ref01_Same sd_ref01_Same (FnsAll.nil)⟩
def gs_ref09_SameOut : Nat → Option Blk := lk []
theorem sd_ref09_SameOut : FnSound Try.prog gl 17 sg_ref09_SameOut :=
  fn_printed (G := gs_ref09_SameOut) (A := .leaf) (cxo_ref09_SameOut) follows Try.func17 (by kernel_rfl) (by kernel_rfl) (by kernel_rfl) (by kernel_rfl) (by kernel_rfl) (CutsOk.leaf _) (by intro v; kernel_rfl)
end Go.PE.Ytngkldmhekijgaa
end
end

section
set_option maxRecDepth 100000
set_option linter.unusedVariables false
noncomputable section
namespace Go.PE.Ytngkldmhekijgaa
open Go.PE Go.Proofs

def sg_ref10_Fee : Sig := mkSig [(.hole T_8f0a), (.hole (.slice T_6b85))] [] [(.hole (.int .i64)), (.hole (.int .i64))] [] (fun p => ref10_Fee p.1.1 p.1.2.1)
theorem fk_ref10_Fee : FnOk Try.prog 18 := ⟨Try.f18, Try.func18, by kernel_rfl, by kernel_rfl⟩
def cx_ref10_Fee : Cx := ⟨tys, lk [(28 + 100000 * 0, sg_ref09_Check)], 81, 0, [], gl, []⟩
theorem cxo_ref10_Fee : CxOk Try.prog (cx_ref10_Fee) := ⟨tys_ok, FnsAll.cons 0 rfl fk_ref09_Check sd_ref09_Check (FnsAll.nil)⟩
abbrev K0_ref10_Fee_L1 : List (Nat × Ty) := [(1, (.slice T_6b85)), (25, (.int .i64))]
abbrev TM_ref10_Fee_L1 : Tm := ⟨[(2, (.ptr 0 [])), (26, (.hole (.int .i64)))], [(.box T_8f0a (.hole T_8f0a))]⟩
abbrev UO_ref10_Fee_L1 : Outs := (.more .ret ⟨[(4, (.hole (.int .i64))), (5, (.hole (.int .i64)))], []⟩ (.one (.exit 0) ⟨[(2, (.ptr 0 []))], [(.box T_8f0a (.hole T_8f0a))]⟩))
def B_ref10_Fee_L1 : Blk := frBlk 0 [1, 25] K0_ref10_Fee_L1 TM_ref10_Fee_L1 UO_ref10_Fee_L1 (fun k => loopV (fun v => ref10_Fee_L1 k.1 k.2.1 v))
abbrev K0_ref10_Fee_L2 : List (Nat × Ty) := [(42, (.slice T_6b85)), (43, (.int .i64))]
abbrev TM_ref10_Fee_L2 : Tm := ⟨[(2, (.ptr 0 [])), (8, (.hole (.int .i64))), (44, (.hole (.int .i64)))], [(.box T_8f0a (.hole T_8f0a))]⟩
abbrev UO_ref10_Fee_L2 : Outs := (.more .ret ⟨[(4, (.hole (.int .i64))), (5, (.hole (.int .i64)))], []⟩ (.one (.exit 2) ⟨[(2, (.ptr 0 [])), (8, (.hole (.int .i64)))], [(.box T_8f0a (.hole T_8f0a))]⟩))
def B_ref10_Fee_L2 : Blk := frBlk 0 [42, 43] K0_ref10_Fee_L2 TM_ref10_Fee_L2 UO_ref10_Fee_L2 (fun k => loopV (fun v => ref10_Fee_L2 k.1 k.2.1 v))
abbrev K0_ref10_Fee_L3 : List (Nat × Ty) := [(67, (.slice T_b101)), (68, (.int .i64))]
abbrev TM_ref10_Fee_L3 : Tm := ⟨[(8, (.hole (.int .i64))), (69, (.hole (.int .i64)))], []⟩
abbrev UO_ref10_Fee_L3 : Outs := (.one (.exit 4) ⟨[(8, (.hole (.int .i64)))], []⟩)
def B_ref10_Fee_L3 : Blk := frBlk 0 [67, 68] K0_ref10_Fee_L3 TM_ref10_Fee_L3 UO_ref10_Fee_L3 (fun k => loopV (fun v => ref10_Fee_L3 k.1 k.2.1 v))
def gs_ref10_Fee : Nat → Option Blk := lk [(1, B_ref10_Fee_L1), (2, B_ref10_Fee_L2), (3, B_ref10_Fee_L3)]
theorem ct_ref10_Fee_L3 : CodeSound Try.prog (cx_ref10_Fee) (subL (subR (subL (subR (subR (subR (subR (subR (subR (subR (bodyOf Try.f18))))))))))) (B_ref10_Fee_L3).D :=
  loop_printed (G := gs_ref10_Fee) (A := .leaf) (T0 := K0_ref10_Fee_L3) (T := TM_ref10_Fee_L3) (U := UO_ref10_Fee_L3) (step := (fun k v => ref10_Fee_L3 k.1 k.2.1 v)) (cxo_ref10_Fee) follows (by kernel_rfl) (by kernel_rfl) (CutsOk.leaf _) (by intro k v; kernel_rfl)
theorem ct_ref10_Fee_L2 : CodeSound Try.prog (cx_ref10_Fee) (subL (subR (subL (subR (subR (subR (subR (subR (bodyOf Try.f18))))))))) (B_ref10_Fee_L2).D :=
  loop_printed (G := gs_ref10_Fee) (A := .leaf) (T0 := K0_ref10_Fee_L2) (T := TM_ref10_Fee_L2) (U := UO_ref10_Fee_L2) (step := (fun k v => ref10_Fee_L2 k.1 k.2.1 v)) (cxo_ref10_Fee) follows (by kernel_rfl) (by kernel_rfl) (CutsOk.leaf _) (by intro k v; kernel_rfl)
theorem ct_ref10_Fee_L1 : CodeSound Try.prog (cx_ref10_Fee) (subL (subR (subL (subR (subR (subR (bodyOf Try.f18))))))) (B_ref10_Fee_L1).D :=
  loop_printed (G := gs_ref10_Fee) (A := .leaf) (T0 := K0_ref10_Fee_L1) (T := TM_ref10_Fee_L1) (U := UO_ref10_Fee_L1) (step := (fun k v => ref10_Fee_L1 k.1 k.2.1 v)) (cxo_ref10_Fee) follows (by kernel_rfl) (by kernel_rfl) (CutsOk.leaf _) (by intro k v; kernel_rfl)
theorem sd_ref10_Fee : FnSound Try.prog gl 18 sg_ref10_Fee :=
  fn_printed (G := gs_ref10_Fee) (A := (.two .leaf (.two .leaf (.two .leaf (.two (.two .leaf (.two (.cut 1) .leaf)) (.two .leaf (.two (.two .leaf (.two (.cut 2) .leaf)) (.two .leaf (.two (.two .leaf (.two (.cut 3) .leaf)) .leaf))))))))) (cxo_ref10_Fee) follows Try.func18 (by kernel_rfl) (by kernel_rfl) (by kernel_rfl) (by kernel_rfl) (by kernel_rfl) (CutsOk.two (CutsOk.leaf _) (CutsOk.two (CutsOk.leaf _) (CutsOk.two (CutsOk.leaf _) (CutsOk.two (CutsOk.two (CutsOk.leaf _) (CutsOk.two (CutsOk.cut (g := B_ref10_Fee_L1) (by kernel_rfl) (ct_ref10_Fee_L1)) (CutsOk.leaf _))) (CutsOk.two (CutsOk.leaf _) (CutsOk.two (CutsOk.two (CutsOk.leaf _) (CutsOk.two (CutsOk.cut (g := B_ref10_Fee_L2) (by kernel_rfl) (ct_ref10_Fee_L2)) (CutsOk.leaf _))) (CutsOk.two (CutsOk.leaf _) (CutsOk.two (CutsOk.two (CutsOk.leaf _) (CutsOk.two (CutsOk.cut (g := B_ref10_Fee_L3) (by kernel_rfl) (ct_ref10_Fee_L3)) (CutsOk.leaf _))) (CutsOk.leaf _))))))))) (by intro v; kernel_rfl)
end Go.PE.Ytngkldmhekijgaa
end
end

section
set_option maxRecDepth 100000
set_option linter.unusedVariables false
noncomputable section
namespace Go.PE.Ytngkldmhekijgaa
open Go.PE Go.Proofs

def sg_ref34_in : Sig := mkSig [(.hole (.int .i64)), (.hole (.int .i64)), (.hole (.int .i64))] [] [(.hole .bool)] [] (fun p => ref34_in p.1.1 p.1.2.1 p.1.2.2.1)
theorem fk_ref34_in : FnOk Try.prog 30 := ⟨Try.f30, Try.func30, by kernel_rfl, by kernel_rfl⟩
def cx_ref34_in : Cx := ⟨tys, lk [], 15, 0, [], gl, []⟩
theorem cxo_ref34_in : CxOk Try.prog (cx_ref34_in) := ⟨tys_ok, FnsAll.nil⟩
def gs_ref34_in : Nat → Option Blk := lk []
theorem sd_ref34_in : FnSound Try.prog gl 30 sg_ref34_in :=
  fn_printed (G := gs_ref34_in) (A := .leaf) (cxo_ref34_in) follows Try.func30 (by kernel_rfl) (by kernel_rfl) (by kernel_rfl) (by kernel_rfl) (by kernel_rfl) (CutsOk.leaf _) (by intro v; kernel_rfl)
def sg_ref34_Valid : Sig := mkSig [(.hole T_0798)] [] [(.hole .bool)] [] (fun p => ref34_Valid p.1.1)
theorem fk_ref34_Valid : FnOk Try.prog 12 := ⟨Try.f12, Try.func12, by kernel_rfl, by kernel_rfl⟩
def cx_ref34_Valid : Cx := ⟨tys, lk [(28 + 100000 * 0, sg_ref09_Check), (29 + 100000 * 0, sg_ref09_Coinbase), (18 + 100000 * 0, sg_ref10_Fee), (30 + 100000 * 0, sg_ref34_in)], 59, 0, [], gl, []⟩
theorem cxo_ref34_Valid : CxOk Try.prog (cx_ref34_Valid) := ⟨tys_ok, FnsAll.cons 0 rfl fk_ref09_Check sd_ref09_Check (FnsAll.cons 0 rfl fk_ref09_Coinbase sd_ref09_Coinbase (FnsAll.cons 0 rfl fk_ref10_Fee sd_ref10_Fee (FnsAll.cons 0 rfl fk_ref34_in sd_ref34_in (FnsAll.nil))))⟩
abbrev K0_ref34_Valid_L1 : List (Nat × Ty) := []
abbrev TM_ref34_Valid_L1 : Tm := ⟨[(1, (.ptr 0 [])), (3, (.hole (.int .i64)))], [(.box T_0798 (.hole T_0798))]⟩
abbrev UO_ref34_Valid_L1 : Outs := (.more .ret ⟨[(2, (.hole .bool))], []⟩ (.one (.exit 0) ⟨[(1, (.ptr 0 []))], [(.box T_0798 (.hole T_0798))]⟩))
def B_ref34_Valid_L1 : Blk := frBlk 0 [] K0_ref34_Valid_L1 TM_ref34_Valid_L1 UO_ref34_Valid_L1 (fun k => loopV (fun v => ref34_Valid_L1 v))
def gs_ref34_Valid : Nat → Option Blk := lk [(1, B_ref34_Valid_L1)]
theorem ct_ref34_Valid_L1 : CodeSound Try.prog (cx_ref34_Valid) (subL (subR (subL (subR (subR (bodyOf Try.f12)))))) (B_ref34_Valid_L1).D :=
  loop_printed (G := gs_ref34_Valid) (A := .leaf) (T0 := K0_ref34_Valid_L1) (T := TM_ref34_Valid_L1) (U := UO_ref34_Valid_L1) (step := (fun k v => ref34_Valid_L1 v)) (cxo_ref34_Valid) follows (by kernel_rfl) (by kernel_rfl) (CutsOk.leaf _) (by intro k v; kernel_rfl)
theorem sd_ref34_Valid : FnSound Try.prog gl 12 sg_ref34_Valid :=
  fn_printed (G := gs_ref34_Valid) (A := (.two .leaf (.two .leaf (.two (.two .leaf (.two (.cut 1) .leaf)) .leaf)))) (cxo_ref34_Valid) follows Try.func12 (by kernel_rfl) (by kernel_rfl) (by kernel_rfl) (by kernel_rfl) (by kernel_rfl) (CutsOk.two (CutsOk.leaf _) (CutsOk.two (CutsOk.leaf _) (CutsOk.two (CutsOk.two (CutsOk.leaf _) (CutsOk.two (CutsOk.cut (g := B_ref34_Valid_L1) (by kernel_rfl) (ct_ref34_Valid_L1)) (CutsOk.leaf _))) (CutsOk.leaf _)))) (by intro v; kernel_rfl)
end Go.PE.Ytngkldmhekijgaa
end
end

section
set_option maxRecDepth 100000
set_option linter.unusedVariables false
noncomputable section
namespace Go.PE.Ytngkldmhekijgaa
open Go.PE Go.Proofs

def sg_law34_sane : Sig := mkSig [] [] [(.hole .bool)] [] (fun p => law34_sane)
theorem fk_law34_sane : FnOk Try.prog 5 := ⟨Try.f5, Try.func5, by kernel_rfl, by kernel_rfl⟩
def cx_law34_sane : Cx := ⟨tys, lk [(19 + 100000 * 0, sg_build_Fee), (21 + 100000 * 0, sg_build_InputWeight)], 12, 0, [], gl, []⟩
theorem cxo_law34_sane : CxOk Try.prog (cx_law34_sane) := ⟨tys_ok, FnsAll.cons 0 rfl fk_build_Fee sd_build_Fee (FnsAll.cons 0 rfl fk_build_InputWeight sd_build_InputWeight (FnsAll.nil))⟩
def gs_law34_sane : Nat → Option Blk := lk []
theorem sd_law34_sane : FnSound Try.prog gl 5 sg_law34_sane :=
  fn_printed (G := gs_law34_sane) (A := .leaf) (cxo_law34_sane) follows Try.func5 (by kernel_rfl) (by kernel_rfl) (by kernel_rfl) (by kernel_rfl) (by kernel_rfl) (CutsOk.leaf _) (by intro v; kernel_rfl)
def sg_law34_BuildValid : Sig := mkSig [(.hole (.slice (.int .i64))), (.hole (.int .i64)), (.hole (.int .i64))] [] [(.hole .bool)] [] (fun p => law34_BuildValid p.1.1 p.1.2.1 p.1.2.2.1)
theorem fk_law34_BuildValid : FnOk Try.prog 3 := ⟨Try.f3, Try.func3, by kernel_rfl, by kernel_rfl⟩
def cx_law34_BuildValid : Cx := ⟨tys, lk [(11 + 100000 * 0, sg_build_Valid), (5 + 100000 * 0, sg_law34_sane), (10 + 100000 * 0, sg_made_Null), (8 + 100000 * 0, sg_made_Script), (9 + 100000 * 0, sg_mill_Mod), (6 + 100000 * 0, sg_mill_New), (7 + 100000 * 0, sg_mill_Plan), (12 + 100000 * 0, sg_ref34_Valid)], 112, 0, [], gl, []⟩
theorem cxo_law34_BuildValid : CxOk Try.prog (cx_law34_BuildValid) := ⟨tys_ok, FnsAll.cons 0 rfl fk_build_Valid sd_build_Valid (FnsAll.cons 0 rfl fk_law34_sane sd_law34_sane (FnsAll.cons 0 rfl fk_made_Null sd_made_Null (FnsAll.cons 0 rfl fk_made_Script sd_made_Script (FnsAll.cons 0 rfl fk_mill_Mod sd_mill_Mod (FnsAll.cons 0 rfl fk_mill_New sd_mill_New (FnsAll.cons 0 rfl fk_mill_Plan sd_mill_Plan (FnsAll.cons 0 rfl fk_ref34_Valid sd_ref34_Valid (FnsAll.nil))))))))⟩
abbrev K0_law34_BuildValid_J1 : List (Nat × Ty) := [(1, (.int .i64)), (2, (.int .i64))]
abbrev TM_law34_BuildValid_J1 : Tm := ⟨[(8, (.ptr 0 [])), (9, (.ptr 1 []))], [(.box T_0798 (.ncons (.ncons (.hole (.int .u32)) (.ncons (.own 2) (.ncons (.own 3) (.hole (.cons (.int .u32) .nil))))) (.ncons (.own 4) (.hole (.cons (.int .i64) (.cons (.int .i64) .nil)))))), (.box T_0798 (.ncons (.ncons (.hole (.int .u32)) (.ncons (.own 5) (.ncons (.own 3) (.hole (.cons (.int .u32) .nil))))) (.ncons (.own 6) (.hole (.cons (.int .i64) (.cons (.int .i64) .nil)))))), (.vec T_089d), (.vec T_b101), (.vec T_6b85), (.vec T_089d), (.vec T_6b85)]⟩
abbrev UO_law34_BuildValid_J1 : Outs := (.one .normal ⟨[(8, (.ptr 0 [])), (9, (.ptr 1 []))], [(.box T_0798 (.ncons (.ncons (.hole (.int .u32)) (.ncons (.own 2) (.ncons (.own 3) (.hole (.cons (.int .u32) .nil))))) (.ncons (.own 4) (.hole (.cons (.int .i64) (.cons (.int .i64) .nil)))))), (.box T_0798 (.ncons (.ncons (.hole (.int .u32)) (.ncons (.own 5) (.ncons (.own 3) (.hole (.cons (.int .u32) .nil))))) (.hole (.cons (.slice T_6b85) (.cons (.int .i64) (.cons (.int .i64) .nil)))))), (.vec T_089d), (.vec T_b101), (.vec T_6b85), (.vec T_089d)]⟩)
def B_law34_BuildValid_J1 : Blk := frBlk 0 [1, 2, 6] K0_law34_BuildValid_J1 TM_law34_BuildValid_J1 UO_law34_BuildValid_J1 (fun k v => law34_BuildValid_J1 k.1 k.2.1 v)
def gs_law34_BuildValid : Nat → Option Blk := lk [(1, B_law34_BuildValid_J1)]
theorem ct_law34_BuildValid_J1 : CodeSound Try.prog (cx_law34_BuildValid) (subL (subR (subR (subR (subR (subR (subR (subR (bodyOf Try.f3))))))))) (B_law34_BuildValid_J1).D :=
  join_sound (G := gs_law34_BuildValid) (A := .leaf) (T0 := K0_law34_BuildValid_J1) (T := TM_law34_BuildValid_J1) (U := UO_law34_BuildValid_J1) (F := (fun k v => law34_BuildValid_J1 k.1 k.2.1 v)) (cxo_law34_BuildValid) follows (by kernel_rfl) (CutsOk.leaf _) (by intro k v; kernel_rfl)
theorem sd_law34_BuildValid : FnSound Try.prog gl 3 sg_law34_BuildValid :=
  fn_printed (G := gs_law34_BuildValid) (A := (.two .leaf (.two .leaf (.two .leaf (.two .leaf (.two .leaf (.two .leaf (.two .leaf (.two (.cut 1) .leaf))))))))) (cxo_law34_BuildValid) follows Try.func3 (by kernel_rfl) (by kernel_rfl) (by kernel_rfl) (by kernel_rfl) (by kernel_rfl) (CutsOk.two (CutsOk.leaf _) (CutsOk.two (CutsOk.leaf _) (CutsOk.two (CutsOk.leaf _) (CutsOk.two (CutsOk.leaf _) (CutsOk.two (CutsOk.leaf _) (CutsOk.two (CutsOk.leaf _) (CutsOk.two (CutsOk.leaf _) (CutsOk.two (CutsOk.cut (g := B_law34_BuildValid_J1) (by kernel_rfl) (ct_law34_BuildValid_J1)) (CutsOk.leaf _))))))))) (by intro v; kernel_rfl)
def sg_law34_change : Sig := mkSig [(.hole (.int .i64))] [] [(.own 0)] [(.vec (.int .u8))] (fun p => law34_change p.1.1)
theorem fk_law34_change : FnOk Try.prog 15 := ⟨Try.f15, Try.func15, by kernel_rfl, by kernel_rfl⟩
def cx_law34_change : Cx := ⟨tys, lk [(8 + 100000 * 0, sg_made_Script), (9 + 100000 * 0, sg_mill_Mod)], 10, 0, [], gl, []⟩
theorem cxo_law34_change : CxOk Try.prog (cx_law34_change) := ⟨tys_ok, FnsAll.cons 0 rfl fk_made_Script sd_made_Script (FnsAll.cons 0 rfl fk_mill_Mod sd_mill_Mod (FnsAll.nil))⟩
def gs_law34_change : Nat → Option Blk := lk []
theorem sd_law34_change : FnSound Try.prog gl 15 sg_law34_change :=
  fn_printed (G := gs_law34_change) (A := .leaf) (cxo_law34_change) follows Try.func15 (by kernel_rfl) (by kernel_rfl) (by kernel_rfl) (by kernel_rfl) (by kernel_rfl) (CutsOk.leaf _) (by intro v; kernel_rfl)
def sg_law34_BuildBalances : Sig := mkSig [(.hole (.slice (.int .i64))), (.hole (.int .i64)), (.hole (.int .i64)), (.hole (.int .u32))] [] [(.hole .bool)] [] (fun p => law34_BuildBalances p.1.1 p.1.2.1 p.1.2.2.1 p.1.2.2.2.1)
theorem fk_law34_BuildBalances : FnOk Try.prog 4 := ⟨Try.f4, Try.func4, by kernel_rfl, by kernel_rfl⟩
def cx_law34_BuildBalances : Cx := ⟨tys, lk [(19 + 100000 * 0, sg_build_Fee), (16 + 100000 * 0, sg_build_Make), (11 + 100000 * 0, sg_build_Valid), (20 + 100000 * 0, sg_build_Weight), (15 + 100000 * 0, sg_law34_change), (5 + 100000 * 0, sg_law34_sane), (9 + 100000 * 0, sg_mill_Mod), (6 + 100000 * 0, sg_mill_New), (14 + 100000 * 0, sg_mill_Outputs), (13 + 100000 * 0, sg_mill_Spendables), (17 + 100000 * 0, sg_ref09_SameOut), (18 + 100000 * 0, sg_ref10_Fee)], 227, 0, [], gl, []⟩
theorem cxo_law34_BuildBalances : CxOk Try.prog (cx_law34_BuildBalances) := ⟨tys_ok, FnsAll.cons 0 rfl fk_build_Fee sd_build_Fee (FnsAll.cons 0 rfl fk_build_Make sd_build_Make (FnsAll.cons 0 rfl fk_build_Valid sd_build_Valid (FnsAll.cons 0 rfl fk_build_Weight sd_build_Weight (FnsAll.cons 0 rfl fk_law34_change sd_law34_change (FnsAll.cons 0 rfl fk_law34_sane sd_law34_sane (FnsAll.cons 0 rfl fk_mill_Mod sd_mill_Mod (FnsAll.cons 0 rfl fk_mill_New sd_mill_New (FnsAll.cons 0 rfl fk_mill_Outputs sd_mill_Outputs (FnsAll.cons 0 rfl fk_mill_Spendables sd_mill_Spendables (FnsAll.cons 0 rfl fk_ref09_SameOut sd_ref09_SameOut (FnsAll.cons 0 rfl fk_ref10_Fee sd_ref10_Fee (FnsAll.nil))))))))))))⟩
abbrev K0_law34_BuildBalances_L2 : List (Nat × Ty) := [(16, (.int .i64)), (76, (.slice T_c1fb)), (77, (.int .i64))]
abbrev TM_law34_BuildBalances_L2 : Tm := ⟨[(13, (.ptr 0 [])), (15, (.own 1)), (78, (.hole (.int .i64)))], [(.box T_0798 (.ncons (.ncons (.hole (.int .u32)) (.ncons (.own 2) (.ncons (.own 3) (.hole (.cons (.int .u32) .nil))))) (.ncons (.own 4) (.hole (.cons (.int .i64) (.cons (.int .i64) .nil)))))), (.vec T_c1fb), (.vec T_089d), (.vec T_b101), (.vec T_6b85)]⟩
abbrev UO_law34_BuildBalances_L2 : Outs := (.one (.exit 2) ⟨[(13, (.ptr 0 [])), (15, (.own 1))], [(.box T_0798 (.ncons (.ncons (.hole (.int .u32)) (.ncons (.own 2) (.ncons (.own 3) (.hole (.cons (.int .u32) .nil))))) (.ncons (.own 4) (.hole (.cons (.int .i64) (.cons (.int .i64) .nil)))))), (.vec T_c1fb), (.vec T_089d), (.vec T_b101), (.vec T_6b85)]⟩)
def B_law34_BuildBalances_L2 : Blk := frBlk 0 [10, 16, 72, 73, 76, 77] K0_law34_BuildBalances_L2 TM_law34_BuildBalances_L2 UO_law34_BuildBalances_L2 (fun k => loopV (fun v => law34_BuildBalances_L2 k.1 k.2.1 k.2.2.1 v))
abbrev K0_law34_BuildBalances_L1 : List (Nat × Ty) := [(10, (.slice T_c1fb)), (72, (.int .i64))]
abbrev TM_law34_BuildBalances_L1 : Tm := ⟨[(13, (.ptr 0 [])), (15, (.own 1)), (73, (.hole (.int .i64)))], [(.box T_0798 (.ncons (.ncons (.hole (.int .u32)) (.ncons (.own 2) (.ncons (.own 3) (.hole (.cons (.int .u32) .nil))))) (.ncons (.own 4) (.hole (.cons (.int .i64) (.cons (.int .i64) .nil)))))), (.vec T_c1fb), (.vec T_089d), (.vec T_b101), (.vec T_6b85)]⟩
abbrev UO_law34_BuildBalances_L1 : Outs := (.one (.exit 0) ⟨[(13, (.ptr 0 [])), (15, (.own 1))], [(.box T_0798 (.ncons (.ncons (.hole (.int .u32)) (.ncons (.own 2) (.ncons (.own 3) (.hole (.cons (.int .u32) .nil))))) (.ncons (.own 4) (.hole (.cons (.int .i64) (.cons (.int .i64) .nil)))))), (.vec T_c1fb), (.vec T_089d), (.vec T_b101), (.vec T_6b85)]⟩)
def B_law34_BuildBalances_L1 : Blk := frBlk 0 [1, 8, 10, 11, 12, 72] K0_law34_BuildBalances_L1 TM_law34_BuildBalances_L1 UO_law34_BuildBalances_L1 (fun k => loopV (fun v => law34_BuildBalances_L1 k.1 k.2.1 v))
abbrev K0_law34_BuildBalances_L3 : List (Nat × Ty) := [(11, (.slice T_b101)), (113, (.int .i64))]
abbrev TM_law34_BuildBalances_L3 : Tm := ⟨[(13, (.ptr 0 [])), (15, (.own 1)), (114, (.hole (.int .i64)))], [(.box T_0798 (.ncons (.ncons (.hole (.int .u32)) (.ncons (.own 2) (.ncons (.own 3) (.hole (.cons (.int .u32) .nil))))) (.ncons (.own 4) (.hole (.cons (.int .i64) (.cons (.int .i64) .nil)))))), (.vec T_c1fb), (.vec T_089d), (.vec T_b101), (.vec T_6b85)]⟩
abbrev UO_law34_BuildBalances_L3 : Outs := (.more .ret ⟨[(8, (.hole .bool))], []⟩ (.one (.exit 4) ⟨[(13, (.ptr 0 [])), (15, (.own 1))], [(.box T_0798 (.ncons (.ncons (.hole (.int .u32)) (.ncons (.own 2) (.ncons (.own 3) (.hole (.cons (.int .u32) .nil))))) (.ncons (.own 4) (.hole (.cons (.int .i64) (.cons (.int .i64) .nil)))))), (.vec T_c1fb), (.vec T_089d), (.vec T_b101), (.vec T_6b85)]⟩))
def B_law34_BuildBalances_L3 : Blk := frBlk 0 [1, 11, 12, 113] K0_law34_BuildBalances_L3 TM_law34_BuildBalances_L3 UO_law34_BuildBalances_L3 (fun k => loopV (fun v => law34_BuildBalances_L3 k.1 k.2.1 v))
def gs_law34_BuildBalances : Nat → Option Blk := lk [(2, B_law34_BuildBalances_L2), (1, B_law34_BuildBalances_L1), (3, B_law34_BuildBalances_L3)]
theorem ct_law34_BuildBalances_L2 : CodeSound Try.prog ((cx_law34_BuildBalances).fr [1, 8, 10, 11, 12, 72]) (subL (subR (subR (subL (subL (subR (subR (subL (subL (subR (subL (subR (subR (subR (subR (subR (subR (subR (subR (subR (subR (bodyOf Try.f4)))))))))))))))))))))) (B_law34_BuildBalances_L2).D :=
  loop_printed (G := gs_law34_BuildBalances) (A := .leaf) (T0 := K0_law34_BuildBalances_L2) (T := TM_law34_BuildBalances_L2) (U := UO_law34_BuildBalances_L2) (step := (fun k v => law34_BuildBalances_L2 k.1 k.2.1 k.2.2.1 v)) ((cxo_law34_BuildBalances).fr [1, 8, 10, 11, 12, 72]) follows (by kernel_rfl) (by kernel_rfl) (CutsOk.leaf _) (by intro k v; kernel_rfl)
theorem ct_law34_BuildBalances_L3 : CodeSound Try.prog (cx_law34_BuildBalances) (subL (subR (subL (subR (subR (subR (subR (subR (subR (subR (subR (subR (subR (subR (bodyOf Try.f4))))))))))))))) (B_law34_BuildBalances_L3).D :=
  loop_printed (G := gs_law34_BuildBalances) (A := .leaf) (T0 := K0_law34_BuildBalances_L3) (T := TM_law34_BuildBalances_L3) (U := UO_law34_BuildBalances_L3) (step := (fun k v => law34_BuildBalances_L3 k.1 k.2.1 v)) (cxo_law34_BuildBalances) follows (by kernel_rfl) (by kernel_rfl) (CutsOk.leaf _) (by intro k v; kernel_rfl)
theorem ct_law34_BuildBalances_L1 : CodeSound Try.prog (cx_law34_BuildBalances) (subL (subR (subL (subR (subR (subR (subR (subR (subR (subR (subR (subR (subR (bodyOf Try.f4)))))))))))))) (B_law34_BuildBalances_L1).D :=
  loop_printed (G := gs_law34_BuildBalances) (A := (.two .leaf (.two .leaf (.two (.two (.two .leaf (.two .leaf (.two (.cut 2) .leaf))) .leaf) .leaf)))) (T0 := K0_law34_BuildBalances_L1) (T := TM_law34_BuildBalances_L1) (U := UO_law34_BuildBalances_L1) (step := (fun k v => law34_BuildBalances_L1 k.1 k.2.1 v)) (cxo_law34_BuildBalances) follows (by kernel_rfl) (by kernel_rfl) (CutsOk.two (CutsOk.leaf _) (CutsOk.two (CutsOk.leaf _) (CutsOk.two (CutsOk.two (CutsOk.two (CutsOk.leaf _) (CutsOk.two (CutsOk.leaf _) (CutsOk.two (CutsOk.cut (g := B_law34_BuildBalances_L2) (by kernel_rfl) (ct_law34_BuildBalances_L2)) (CutsOk.leaf _)))) (CutsOk.leaf _)) (CutsOk.leaf _)))) (by intro k v; kernel_rfl)
theorem sd_law34_BuildBalances : FnSound Try.prog gl 4 sg_law34_BuildBalances :=
  fn_printed (G := gs_law34_BuildBalances) (A := (.two .leaf (.two .leaf (.two .leaf (.two .leaf (.two .leaf (.two .leaf (.two (.frz [10, 11, 12, 28, 30, 34] []) (.two .leaf (.two .leaf (.two .leaf (.two (.two .leaf (.two (.cut 1) .leaf)) (.two (.two .leaf (.two (.cut 3) .leaf)) .leaf))))))))))))) (cxo_law34_BuildBalances) follows Try.func4 (by kernel_rfl) (by kernel_rfl) (by kernel_rfl) (by kernel_rfl) (by kernel_rfl) (CutsOk.two (CutsOk.leaf _) (CutsOk.two (CutsOk.leaf _) (CutsOk.two (CutsOk.leaf _) (CutsOk.two (CutsOk.leaf _) (CutsOk.two (CutsOk.leaf _) (CutsOk.two (CutsOk.leaf _) (CutsOk.two (CutsOk.frz _ _ _) (CutsOk.two (CutsOk.leaf _) (CutsOk.two (CutsOk.leaf _) (CutsOk.two (CutsOk.leaf _) (CutsOk.two (CutsOk.two (CutsOk.leaf _) (CutsOk.two (CutsOk.cut (g := B_law34_BuildBalances_L1) (by kernel_rfl) (ct_law34_BuildBalances_L1)) (CutsOk.leaf _))) (CutsOk.two (CutsOk.two (CutsOk.leaf _) (CutsOk.two (CutsOk.cut (g := B_law34_BuildBalances_L3) (by kernel_rfl) (ct_law34_BuildBalances_L3)) (CutsOk.leaf _))) (CutsOk.leaf _))))))))))))) (by intro v; kernel_rfl)
end Go.PE.Ytngkldmhekijgaa
end
end
