/- The functions of the program do what their printed texts say; no condition. -/
import Derived.Test.YtmmipabgoikibaaDoorProg
import Derived.Test.YtmmipabgoikibaaDoorQc
import Derived.Test.YtmmipabgoikibaaDoorPa
import Derived.KernelRfl
section
set_option maxRecDepth 100000
noncomputable section
namespace Go.PE.YtmmipabgoikibaaDoor
open Go.PE Go.Proofs
def gl : Gl := fun g => bif Nat.beq g 0 then some ⟨(.arr 8 (.int .u32)), G_3e2daa⟩ else (bif Nat.beq g 1 then some ⟨(.arr 64 (.int .u32)), G_c990df⟩ else (none))
def tys : Nat → Option Ty := lk [(2, (.int .i64)), (3, (.int .i64)), (4, .bool), (5, (.int .u8)), (22, (.slice (.int .i64))), (23, (.int .u32)), (25, .ptr), (27, (.slice T_089d)), (28, (.slice T_b101)), (30, T_8f0a), (33, (.arr 32 (.int .u8))), (35, T_b85e), (36, (.slice (.slice (.int .u8)))), (38, T_089d), (42, (.slice T_94d8)), (46, T_94d8), (48, (.slice (.arr 32 (.int .u8)))), (49, (.int .i64)), (53, (.slice T_6b85)), (55, T_0798), (57, (.slice (.int .u8))), (66, T_b101), (70, T_3393), (72, (.slice (.int .u32))), (74, .fn), (83, T_6b85), (94, .fn), (98, (.map T_b85e .bool)), (102, .fn), (104, .fn), (112, (.int .u64)), (122, .fn), (128, (.arr 8 (.int .u32))), (130, (.arr 64 (.int .u8))), (132, (.int .u64)), (136, (.int .u16)), (138, (.arr 64 (.int .u32)))]
theorem follows : Tryd.prog.follows .mixedOrders = true := by kernel_rfl
theorem ty_2 : fitTy Tryd.prog (.int .i64) (.id 2) = true := by kernel_rfl
theorem ty_3 : fitTy Tryd.prog (.int .i64) (.id 3) = true := by kernel_rfl
theorem ty_4 : fitTy Tryd.prog .bool (.id 4) = true := by kernel_rfl
theorem ty_5 : fitTy Tryd.prog (.int .u8) (.id 5) = true := by kernel_rfl
theorem ty_22 : fitTy Tryd.prog (.slice (.int .i64)) (.id 22) = true := by kernel_rfl
theorem ty_23 : fitTy Tryd.prog (.int .u32) (.id 23) = true := by kernel_rfl
theorem ty_25 : fitTy Tryd.prog .ptr (.id 25) = true := by kernel_rfl
theorem ty_27 : fitTy Tryd.prog (.slice T_089d) (.id 27) = true := by kernel_rfl
theorem ty_28 : fitTy Tryd.prog (.slice T_b101) (.id 28) = true := by kernel_rfl
theorem ty_30 : fitTy Tryd.prog T_8f0a (.id 30) = true := by kernel_rfl
theorem ty_33 : fitTy Tryd.prog (.arr 32 (.int .u8)) (.id 33) = true := by kernel_rfl
theorem ty_35 : fitTy Tryd.prog T_b85e (.id 35) = true := by kernel_rfl
theorem ty_36 : fitTy Tryd.prog (.slice (.slice (.int .u8))) (.id 36) = true := by kernel_rfl
theorem ty_38 : fitTy Tryd.prog T_089d (.id 38) = true := by kernel_rfl
theorem ty_42 : fitTy Tryd.prog (.slice T_94d8) (.id 42) = true := by kernel_rfl
theorem ty_46 : fitTy Tryd.prog T_94d8 (.id 46) = true := by kernel_rfl
theorem ty_48 : fitTy Tryd.prog (.slice (.arr 32 (.int .u8))) (.id 48) = true := by kernel_rfl
theorem ty_49 : fitTy Tryd.prog (.int .i64) (.id 49) = true := by kernel_rfl
theorem ty_53 : fitTy Tryd.prog (.slice T_6b85) (.id 53) = true := by kernel_rfl
theorem ty_55 : fitTy Tryd.prog T_0798 (.id 55) = true := by kernel_rfl
theorem ty_57 : fitTy Tryd.prog (.slice (.int .u8)) (.id 57) = true := by kernel_rfl
theorem ty_66 : fitTy Tryd.prog T_b101 (.id 66) = true := by kernel_rfl
theorem ty_70 : fitTy Tryd.prog T_3393 (.id 70) = true := by kernel_rfl
theorem ty_72 : fitTy Tryd.prog (.slice (.int .u32)) (.id 72) = true := by kernel_rfl
theorem ty_74 : fitTy Tryd.prog .fn (.id 74) = true := by kernel_rfl
theorem ty_83 : fitTy Tryd.prog T_6b85 (.id 83) = true := by kernel_rfl
theorem ty_94 : fitTy Tryd.prog .fn (.id 94) = true := by kernel_rfl
theorem ty_98 : fitTy Tryd.prog (.map T_b85e .bool) (.id 98) = true := by kernel_rfl
theorem ty_102 : fitTy Tryd.prog .fn (.id 102) = true := by kernel_rfl
theorem ty_104 : fitTy Tryd.prog .fn (.id 104) = true := by kernel_rfl
theorem ty_112 : fitTy Tryd.prog (.int .u64) (.id 112) = true := by kernel_rfl
theorem ty_122 : fitTy Tryd.prog .fn (.id 122) = true := by kernel_rfl
theorem ty_128 : fitTy Tryd.prog (.arr 8 (.int .u32)) (.id 128) = true := by kernel_rfl
theorem ty_130 : fitTy Tryd.prog (.arr 64 (.int .u8)) (.id 130) = true := by kernel_rfl
theorem ty_132 : fitTy Tryd.prog (.int .u64) (.id 132) = true := by kernel_rfl
theorem ty_136 : fitTy Tryd.prog (.int .u16) (.id 136) = true := by kernel_rfl
theorem ty_138 : fitTy Tryd.prog (.arr 64 (.int .u32)) (.id 138) = true := by kernel_rfl
theorem dep : Nat.ble 62 Tryd.prog.depth = true := by kernel_rfl
theorem tys_ok : TyOk Tryd.prog tys := TyOk.lk_cons ty_2 (TyOk.lk_cons ty_3 (TyOk.lk_cons ty_4 (TyOk.lk_cons ty_5 (TyOk.lk_cons ty_22 (TyOk.lk_cons ty_23 (TyOk.lk_cons ty_25 (TyOk.lk_cons ty_27 (TyOk.lk_cons ty_28 (TyOk.lk_cons ty_30 (TyOk.lk_cons ty_33 (TyOk.lk_cons ty_35 (TyOk.lk_cons ty_36 (TyOk.lk_cons ty_38 (TyOk.lk_cons ty_42 (TyOk.lk_cons ty_46 (TyOk.lk_cons ty_48 (TyOk.lk_cons ty_49 (TyOk.lk_cons ty_53 (TyOk.lk_cons ty_55 (TyOk.lk_cons ty_57 (TyOk.lk_cons ty_66 (TyOk.lk_cons ty_70 (TyOk.lk_cons ty_72 (TyOk.lk_cons ty_74 (TyOk.lk_cons ty_83 (TyOk.lk_cons ty_94 (TyOk.lk_cons ty_98 (TyOk.lk_cons ty_102 (TyOk.lk_cons ty_104 (TyOk.lk_cons ty_112 (TyOk.lk_cons ty_122 (TyOk.lk_cons ty_128 (TyOk.lk_cons ty_130 (TyOk.lk_cons ty_132 (TyOk.lk_cons ty_136 (TyOk.lk_cons ty_138 (TyOk.lk_nil (Nat.le_of_ble_eq_true dep))))))))))))))))))))))))))))))))))))))
end Go.PE.YtmmipabgoikibaaDoor
end
end

section
set_option maxRecDepth 100000
set_option linter.unusedVariables false
noncomputable section
namespace Go.PE.YtmmipabgoikibaaDoor
open Go.PE Go.Proofs

def sg_build_Fee : Sig := mkSig [(.hole (.int .i64)), (.hole (.int .i64))] [] [(.hole (.int .i64))] [] (fun p => build_Fee p.1.1 p.1.2.1)
theorem fk_build_Fee : FnOk Tryd.prog 41 := ⟨Tryd.f41, Tryd.func41, by kernel_rfl, by kernel_rfl⟩
def cx_build_Fee : Cx := ⟨tys, lk [], 24, 0, [], gl, []⟩
theorem cxo_build_Fee : CxOk Tryd.prog (cx_build_Fee) := ⟨tys_ok, FnsAll.nil⟩
def gs_build_Fee : Nat → Option Blk := lk []
theorem sd_build_Fee : FnSound Tryd.prog gl 41 sg_build_Fee :=
  fn_printed (G := gs_build_Fee) (A := .leaf) (cxo_build_Fee) follows Tryd.func41 (by kernel_rfl) (by kernel_rfl) (by kernel_rfl) (by kernel_rfl) (by kernel_rfl) (CutsOk.leaf _) (by intro v; kernel_rfl)
end Go.PE.YtmmipabgoikibaaDoor
end
end

section
set_option maxRecDepth 100000
set_option linter.unusedVariables false
noncomputable section
namespace Go.PE.YtmmipabgoikibaaDoor
open Go.PE Go.Proofs

def sg_fees_Rate : Sig := mkSig [(.hole (.int .i64)), (.hole (.int .i64))] [] [(.hole (.int .i64))] [] (fun p => fees_Rate p.1.1 p.1.2.1)
theorem fk_fees_Rate : FnOk Tryd.prog 67 := ⟨Tryd.f67, Tryd.func67, by kernel_rfl, by kernel_rfl⟩
def cx_fees_Rate : Cx := ⟨tys, lk [], 24, 0, [], gl, []⟩
theorem cxo_fees_Rate : CxOk Tryd.prog (cx_fees_Rate) := ⟨tys_ok, FnsAll.nil⟩
def gs_fees_Rate : Nat → Option Blk := lk []
theorem sd_fees_Rate : FnSound Tryd.prog gl 67 sg_fees_Rate :=
  fn_printed (G := gs_fees_Rate) (A := .leaf) (cxo_fees_Rate) follows Tryd.func67 (by kernel_rfl) (by kernel_rfl) (by kernel_rfl) (by kernel_rfl) (by kernel_rfl) (CutsOk.leaf _) (by intro v; kernel_rfl)
end Go.PE.YtmmipabgoikibaaDoor
end
end

section
set_option maxRecDepth 100000
set_option linter.unusedVariables false
noncomputable section
namespace Go.PE.YtmmipabgoikibaaDoor
open Go.PE Go.Proofs

def sg_codec_put_uint32 : Sig := mkSig [(.hole (.slice (.int .u8))), (.hole (.int .u32)), (.hole (.int .i64))] [] [(.own 0)] [(.vec (.int .u8))] (fun p => codec_put_uint32 p.1.1 p.1.2.1 p.1.2.2.1)
theorem fk_codec_put_uint32 : FnOk Tryd.prog 105 := ⟨Tryd.f105, Tryd.func105, by kernel_rfl, by kernel_rfl⟩
def cx_codec_put_uint32 : Cx := ⟨tys, lk [], 31, 0, [], gl, []⟩
theorem cxo_codec_put_uint32 : CxOk Tryd.prog (cx_codec_put_uint32) := ⟨tys_ok, FnsAll.nil⟩
abbrev K0_codec_put_uint32_L1 : List (Nat × Ty) := [(1, (.int .u32)), (16, (.int .i64))]
abbrev TM_codec_put_uint32_L1 : Tm := ⟨[(7, (.own 0)), (17, (.hole (.int .i64)))], [(.vec (.int .u8))]⟩
abbrev UO_codec_put_uint32_L1 : Outs := (.one (.exit 0) ⟨[(7, (.own 0))], [(.vec (.int .u8))]⟩)
def B_codec_put_uint32_L1 : Blk := frBlk 0 [1, 6, 16] K0_codec_put_uint32_L1 TM_codec_put_uint32_L1 UO_codec_put_uint32_L1 (fun k => loopV (fun v => codec_put_uint32_L1 k.1 k.2.1 v))
def gs_codec_put_uint32 : Nat → Option Blk := lk [(1, B_codec_put_uint32_L1)]
theorem ct_codec_put_uint32_L1 : CodeSound Tryd.prog (cx_codec_put_uint32) (subL (subR (subL (subR (subR (bodyOf Tryd.f105)))))) (B_codec_put_uint32_L1).D :=
  loop_printed (G := gs_codec_put_uint32) (A := .leaf) (T0 := K0_codec_put_uint32_L1) (T := TM_codec_put_uint32_L1) (U := UO_codec_put_uint32_L1) (step := (fun k v => codec_put_uint32_L1 k.1 k.2.1 v)) (cxo_codec_put_uint32) follows (by kernel_rfl) (by kernel_rfl) (CutsOk.leaf _) (by intro k v; kernel_rfl)
theorem sd_codec_put_uint32 : FnSound Tryd.prog gl 105 sg_codec_put_uint32 :=
  fn_printed (G := gs_codec_put_uint32) (A := (.two .leaf (.two .leaf (.two (.two .leaf (.two (.cut 1) .leaf)) .leaf)))) (cxo_codec_put_uint32) follows Tryd.func105 (by kernel_rfl) (by kernel_rfl) (by kernel_rfl) (by kernel_rfl) (by kernel_rfl) (CutsOk.two (CutsOk.leaf _) (CutsOk.two (CutsOk.leaf _) (CutsOk.two (CutsOk.two (CutsOk.leaf _) (CutsOk.two (CutsOk.cut (g := B_codec_put_uint32_L1) (by kernel_rfl) (ct_codec_put_uint32_L1)) (CutsOk.leaf _))) (CutsOk.leaf _)))) (by intro v; kernel_rfl)
def sg_codec_AppendU32 : Sig := mkSig [(.hole (.slice (.int .u8))), (.hole (.int .u32))] [] [(.own 0)] [(.vec (.int .u8))] (fun p => codec_AppendU32 p.1.1 p.1.2.1)
theorem fk_codec_AppendU32 : FnOk Tryd.prog 90 := ⟨Tryd.f90, Tryd.func90, by kernel_rfl, by kernel_rfl⟩
def cx_codec_AppendU32 : Cx := ⟨tys, lk [(105 + 100000 * 0, sg_codec_put_uint32)], 8, 0, [], gl, []⟩
theorem cxo_codec_AppendU32 : CxOk Tryd.prog (cx_codec_AppendU32) := ⟨tys_ok, FnsAll.cons 0 rfl fk_codec_put_uint32 sd_codec_put_uint32 (FnsAll.nil)⟩
def gs_codec_AppendU32 : Nat → Option Blk := lk []
theorem sd_codec_AppendU32 : FnSound Tryd.prog gl 90 sg_codec_AppendU32 :=
  fn_printed (G := gs_codec_AppendU32) (A := .leaf) (cxo_codec_AppendU32) follows Tryd.func90 (by kernel_rfl) (by kernel_rfl) (by kernel_rfl) (by kernel_rfl) (by kernel_rfl) (CutsOk.leaf _) (by intro v; kernel_rfl)
def sg_codec_put_uint8 : Sig := mkSig [(.hole (.slice (.int .u8))), (.hole (.int .u8)), (.hole (.int .i64))] [] [(.own 0)] [(.vec (.int .u8))] (fun p => codec_put_uint8 p.1.1 p.1.2.1 p.1.2.2.1)
theorem fk_codec_put_uint8 : FnOk Tryd.prog 106 := ⟨Tryd.f106, Tryd.func106, by kernel_rfl, by kernel_rfl⟩
def cx_codec_put_uint8 : Cx := ⟨tys, lk [], 31, 0, [], gl, []⟩
theorem cxo_codec_put_uint8 : CxOk Tryd.prog (cx_codec_put_uint8) := ⟨tys_ok, FnsAll.nil⟩
abbrev K0_codec_put_uint8_L1 : List (Nat × Ty) := [(1, (.int .u8)), (16, (.int .i64))]
abbrev TM_codec_put_uint8_L1 : Tm := ⟨[(7, (.own 0)), (17, (.hole (.int .i64)))], [(.vec (.int .u8))]⟩
abbrev UO_codec_put_uint8_L1 : Outs := (.one (.exit 0) ⟨[(7, (.own 0))], [(.vec (.int .u8))]⟩)
def B_codec_put_uint8_L1 : Blk := frBlk 0 [1, 6, 16] K0_codec_put_uint8_L1 TM_codec_put_uint8_L1 UO_codec_put_uint8_L1 (fun k => loopV (fun v => codec_put_uint8_L1 k.1 k.2.1 v))
def gs_codec_put_uint8 : Nat → Option Blk := lk [(1, B_codec_put_uint8_L1)]
theorem ct_codec_put_uint8_L1 : CodeSound Tryd.prog (cx_codec_put_uint8) (subL (subR (subL (subR (subR (bodyOf Tryd.f106)))))) (B_codec_put_uint8_L1).D :=
  loop_printed (G := gs_codec_put_uint8) (A := .leaf) (T0 := K0_codec_put_uint8_L1) (T := TM_codec_put_uint8_L1) (U := UO_codec_put_uint8_L1) (step := (fun k v => codec_put_uint8_L1 k.1 k.2.1 v)) (cxo_codec_put_uint8) follows (by kernel_rfl) (by kernel_rfl) (CutsOk.leaf _) (by intro k v; kernel_rfl)
theorem sd_codec_put_uint8 : FnSound Tryd.prog gl 106 sg_codec_put_uint8 :=
  fn_printed (G := gs_codec_put_uint8) (A := (.two .leaf (.two .leaf (.two (.two .leaf (.two (.cut 1) .leaf)) .leaf)))) (cxo_codec_put_uint8) follows Tryd.func106 (by kernel_rfl) (by kernel_rfl) (by kernel_rfl) (by kernel_rfl) (by kernel_rfl) (CutsOk.two (CutsOk.leaf _) (CutsOk.two (CutsOk.leaf _) (CutsOk.two (CutsOk.two (CutsOk.leaf _) (CutsOk.two (CutsOk.cut (g := B_codec_put_uint8_L1) (by kernel_rfl) (ct_codec_put_uint8_L1)) (CutsOk.leaf _))) (CutsOk.leaf _)))) (by intro v; kernel_rfl)
def sg_codec_put_uint16 : Sig := mkSig [(.hole (.slice (.int .u8))), (.hole (.int .u16)), (.hole (.int .i64))] [] [(.own 0)] [(.vec (.int .u8))] (fun p => codec_put_uint16 p.1.1 p.1.2.1 p.1.2.2.1)
theorem fk_codec_put_uint16 : FnOk Tryd.prog 107 := ⟨Tryd.f107, Tryd.func107, by kernel_rfl, by kernel_rfl⟩
def cx_codec_put_uint16 : Cx := ⟨tys, lk [], 31, 0, [], gl, []⟩
theorem cxo_codec_put_uint16 : CxOk Tryd.prog (cx_codec_put_uint16) := ⟨tys_ok, FnsAll.nil⟩
abbrev K0_codec_put_uint16_L1 : List (Nat × Ty) := [(1, (.int .u16)), (16, (.int .i64))]
abbrev TM_codec_put_uint16_L1 : Tm := ⟨[(7, (.own 0)), (17, (.hole (.int .i64)))], [(.vec (.int .u8))]⟩
abbrev UO_codec_put_uint16_L1 : Outs := (.one (.exit 0) ⟨[(7, (.own 0))], [(.vec (.int .u8))]⟩)
def B_codec_put_uint16_L1 : Blk := frBlk 0 [1, 6, 16] K0_codec_put_uint16_L1 TM_codec_put_uint16_L1 UO_codec_put_uint16_L1 (fun k => loopV (fun v => codec_put_uint16_L1 k.1 k.2.1 v))
def gs_codec_put_uint16 : Nat → Option Blk := lk [(1, B_codec_put_uint16_L1)]
theorem ct_codec_put_uint16_L1 : CodeSound Tryd.prog (cx_codec_put_uint16) (subL (subR (subL (subR (subR (bodyOf Tryd.f107)))))) (B_codec_put_uint16_L1).D :=
  loop_printed (G := gs_codec_put_uint16) (A := .leaf) (T0 := K0_codec_put_uint16_L1) (T := TM_codec_put_uint16_L1) (U := UO_codec_put_uint16_L1) (step := (fun k v => codec_put_uint16_L1 k.1 k.2.1 v)) (cxo_codec_put_uint16) follows (by kernel_rfl) (by kernel_rfl) (CutsOk.leaf _) (by intro k v; kernel_rfl)
theorem sd_codec_put_uint16 : FnSound Tryd.prog gl 107 sg_codec_put_uint16 :=
  fn_printed (G := gs_codec_put_uint16) (A := (.two .leaf (.two .leaf (.two (.two .leaf (.two (.cut 1) .leaf)) .leaf)))) (cxo_codec_put_uint16) follows Tryd.func107 (by kernel_rfl) (by kernel_rfl) (by kernel_rfl) (by kernel_rfl) (by kernel_rfl) (CutsOk.two (CutsOk.leaf _) (CutsOk.two (CutsOk.leaf _) (CutsOk.two (CutsOk.two (CutsOk.leaf _) (CutsOk.two (CutsOk.cut (g := B_codec_put_uint16_L1) (by kernel_rfl) (ct_codec_put_uint16_L1)) (CutsOk.leaf _))) (CutsOk.leaf _)))) (by intro v; kernel_rfl)
def sg_codec_put_uint64 : Sig := mkSig [(.hole (.slice (.int .u8))), (.hole (.int .u64)), (.hole (.int .i64))] [] [(.own 0)] [(.vec (.int .u8))] (fun p => codec_put_uint64 p.1.1 p.1.2.1 p.1.2.2.1)
theorem fk_codec_put_uint64 : FnOk Tryd.prog 108 := ⟨Tryd.f108, Tryd.func108, by kernel_rfl, by kernel_rfl⟩
def cx_codec_put_uint64 : Cx := ⟨tys, lk [], 30, 0, [], gl, []⟩
theorem cxo_codec_put_uint64 : CxOk Tryd.prog (cx_codec_put_uint64) := ⟨tys_ok, FnsAll.nil⟩
abbrev K0_codec_put_uint64_L1 : List (Nat × Ty) := [(1, (.int .u64)), (16, (.int .i64))]
abbrev TM_codec_put_uint64_L1 : Tm := ⟨[(7, (.own 0)), (17, (.hole (.int .i64)))], [(.vec (.int .u8))]⟩
abbrev UO_codec_put_uint64_L1 : Outs := (.one (.exit 0) ⟨[(7, (.own 0))], [(.vec (.int .u8))]⟩)
def B_codec_put_uint64_L1 : Blk := frBlk 0 [1, 6, 16] K0_codec_put_uint64_L1 TM_codec_put_uint64_L1 UO_codec_put_uint64_L1 (fun k => loopV (fun v => codec_put_uint64_L1 k.1 k.2.1 v))
def gs_codec_put_uint64 : Nat → Option Blk := lk [(1, B_codec_put_uint64_L1)]
theorem ct_codec_put_uint64_L1 : CodeSound Tryd.prog (cx_codec_put_uint64) (subL (subR (subL (subR (subR (bodyOf Tryd.f108)))))) (B_codec_put_uint64_L1).D :=
  loop_printed (G := gs_codec_put_uint64) (A := .leaf) (T0 := K0_codec_put_uint64_L1) (T := TM_codec_put_uint64_L1) (U := UO_codec_put_uint64_L1) (step := (fun k v => codec_put_uint64_L1 k.1 k.2.1 v)) (cxo_codec_put_uint64) follows (by kernel_rfl) (by kernel_rfl) (CutsOk.leaf _) (by intro k v; kernel_rfl)
theorem sd_codec_put_uint64 : FnSound Tryd.prog gl 108 sg_codec_put_uint64 :=
  fn_printed (G := gs_codec_put_uint64) (A := (.two .leaf (.two .leaf (.two (.two .leaf (.two (.cut 1) .leaf)) .leaf)))) (cxo_codec_put_uint64) follows Tryd.func108 (by kernel_rfl) (by kernel_rfl) (by kernel_rfl) (by kernel_rfl) (by kernel_rfl) (CutsOk.two (CutsOk.leaf _) (CutsOk.two (CutsOk.leaf _) (CutsOk.two (CutsOk.two (CutsOk.leaf _) (CutsOk.two (CutsOk.cut (g := B_codec_put_uint64_L1) (by kernel_rfl) (ct_codec_put_uint64_L1)) (CutsOk.leaf _))) (CutsOk.leaf _)))) (by intro v; kernel_rfl)
def sg_codec_AppendSize : Sig := mkSig [(.hole (.slice (.int .u8))), (.hole (.int .u64))] [] [(.own 0)] [(.vec (.int .u8))] (fun p => codec_AppendSize p.1.1 p.1.2.1)
theorem fk_codec_AppendSize : FnOk Tryd.prog 91 := ⟨Tryd.f91, Tryd.func91, by kernel_rfl, by kernel_rfl⟩
def cx_codec_AppendSize : Cx := ⟨tys, lk [(107 + 100000 * 0, sg_codec_put_uint16), (105 + 100000 * 0, sg_codec_put_uint32), (108 + 100000 * 0, sg_codec_put_uint64), (106 + 100000 * 0, sg_codec_put_uint8)], 32, 0, [], gl, []⟩
theorem cxo_codec_AppendSize : CxOk Tryd.prog (cx_codec_AppendSize) := ⟨tys_ok, FnsAll.cons 0 rfl fk_codec_put_uint16 sd_codec_put_uint16 (FnsAll.cons 0 rfl fk_codec_put_uint32 sd_codec_put_uint32 (FnsAll.cons 0 rfl fk_codec_put_uint64 sd_codec_put_uint64 (FnsAll.cons 0 rfl fk_codec_put_uint8 sd_codec_put_uint8 (FnsAll.nil))))⟩
def gs_codec_AppendSize : Nat → Option Blk := lk []
theorem sd_codec_AppendSize : FnSound Tryd.prog gl 91 sg_codec_AppendSize :=
  fn_printed (G := gs_codec_AppendSize) (A := .leaf) (cxo_codec_AppendSize) follows Tryd.func91 (by kernel_rfl) (by kernel_rfl) (by kernel_rfl) (by kernel_rfl) (by kernel_rfl) (CutsOk.leaf _) (by intro v; kernel_rfl)
def sg_codec_AppendHash : Sig := mkSig [(.hole (.slice (.int .u8))), (.hole (.arr 32 (.int .u8)))] [] [(.own 0)] [(.vec (.int .u8))] (fun p => codec_AppendHash p.1.1 p.1.2.1)
theorem fk_codec_AppendHash : FnOk Tryd.prog 109 := ⟨Tryd.f109, Tryd.func109, by kernel_rfl, by kernel_rfl⟩
def cx_codec_AppendHash : Cx := ⟨tys, lk [], 15, 0, [], gl, []⟩
theorem cxo_codec_AppendHash : CxOk Tryd.prog (cx_codec_AppendHash) := ⟨tys_ok, FnsAll.nil⟩
def gs_codec_AppendHash : Nat → Option Blk := lk []
theorem sd_codec_AppendHash : FnSound Tryd.prog gl 109 sg_codec_AppendHash :=
  fn_printed (G := gs_codec_AppendHash) (A := .leaf) (cxo_codec_AppendHash) follows Tryd.func109 (by kernel_rfl) (by kernel_rfl) (by kernel_rfl) (by kernel_rfl) (by kernel_rfl) (CutsOk.leaf _) (by intro v; kernel_rfl)
def sg_codec_AppendU64 : Sig := mkSig [(.hole (.slice (.int .u8))), (.hole (.int .u64))] [] [(.own 0)] [(.vec (.int .u8))] (fun p => codec_AppendU64 p.1.1 p.1.2.1)
theorem fk_codec_AppendU64 : FnOk Tryd.prog 93 := ⟨Tryd.f93, Tryd.func93, by kernel_rfl, by kernel_rfl⟩
def cx_codec_AppendU64 : Cx := ⟨tys, lk [(108 + 100000 * 0, sg_codec_put_uint64)], 8, 0, [], gl, []⟩
theorem cxo_codec_AppendU64 : CxOk Tryd.prog (cx_codec_AppendU64) := ⟨tys_ok, FnsAll.cons 0 rfl fk_codec_put_uint64 sd_codec_put_uint64 (FnsAll.nil)⟩
def gs_codec_AppendU64 : Nat → Option Blk := lk []
theorem sd_codec_AppendU64 : FnSound Tryd.prog gl 93 sg_codec_AppendU64 :=
  fn_printed (G := gs_codec_AppendU64) (A := .leaf) (cxo_codec_AppendU64) follows Tryd.func93 (by kernel_rfl) (by kernel_rfl) (by kernel_rfl) (by kernel_rfl) (by kernel_rfl) (CutsOk.leaf _) (by intro v; kernel_rfl)
def sg_codec_AppendBytes : Sig := mkSig [(.hole (.slice (.int .u8))), (.hole (.slice (.int .u8)))] [] [(.own 0)] [(.vec (.int .u8))] (fun p => codec_AppendBytes p.1.1 p.1.2.1)
theorem fk_codec_AppendBytes : FnOk Tryd.prog 94 := ⟨Tryd.f94, Tryd.func94, by kernel_rfl, by kernel_rfl⟩
def cx_codec_AppendBytes : Cx := ⟨tys, lk [(91 + 100000 * 0, sg_codec_AppendSize)], 12, 0, [], gl, []⟩
theorem cxo_codec_AppendBytes : CxOk Tryd.prog (cx_codec_AppendBytes) := ⟨tys_ok, FnsAll.cons 0 rfl fk_codec_AppendSize sd_codec_AppendSize (FnsAll.nil)⟩
def gs_codec_AppendBytes : Nat → Option Blk := lk []
theorem sd_codec_AppendBytes : FnSound Tryd.prog gl 94 sg_codec_AppendBytes :=
  fn_printed (G := gs_codec_AppendBytes) (A := .leaf) (cxo_codec_AppendBytes) follows Tryd.func94 (by kernel_rfl) (by kernel_rfl) (by kernel_rfl) (by kernel_rfl) (by kernel_rfl) (CutsOk.leaf _) (by intro v; kernel_rfl)
end Go.PE.YtmmipabgoikibaaDoor
end
end

section
set_option maxRecDepth 100000
set_option linter.unusedVariables false
noncomputable section
namespace Go.PE.YtmmipabgoikibaaDoor
open Go.PE Go.Proofs

def sg_math_bits_RotateLeft32 : Sig := mkSig [(.hole (.int .u32)), (.hole (.int .i64))] [] [(.hole (.int .u32))] [] (fun p => math_bits_RotateLeft32 p.1.1 p.1.2.1)
theorem fk_math_bits_RotateLeft32 : FnOk Tryd.prog 115 := ⟨Tryd.f115, Tryd.func115, by kernel_rfl, by kernel_rfl⟩
def cx_math_bits_RotateLeft32 : Cx := ⟨tys, lk [], 17, 0, [], gl, []⟩
theorem cxo_math_bits_RotateLeft32 : CxOk Tryd.prog (cx_math_bits_RotateLeft32) := ⟨tys_ok, FnsAll.nil⟩
def gs_math_bits_RotateLeft32 : Nat → Option Blk := lk []
theorem sd_math_bits_RotateLeft32 : FnSound Tryd.prog gl 115 sg_math_bits_RotateLeft32 :=
  fn_printed (G := gs_math_bits_RotateLeft32) (A := .leaf) (cxo_math_bits_RotateLeft32) follows Tryd.func115 (by kernel_rfl) (by kernel_rfl) (by kernel_rfl) (by kernel_rfl) (by kernel_rfl) (CutsOk.leaf _) (by intro v; kernel_rfl)
end Go.PE.YtmmipabgoikibaaDoor
end
end

section
set_option maxRecDepth 100000
set_option linter.unusedVariables false
noncomputable section
namespace Go.PE.YtmmipabgoikibaaDoor
open Go.PE Go.Proofs

def sg_sha_Pad : Sig := mkSig [(.hole (.int .u64))] [] [(.own 0)] [(.vec (.int .u8))] (fun p => sha_Pad p.1.1)
theorem fk_sha_Pad : FnOk Tryd.prog 113 := ⟨Tryd.f113, Tryd.func113, by kernel_rfl, by kernel_rfl⟩
def cx_sha_Pad : Cx := ⟨tys, lk [], 27, 0, [], gl, []⟩
theorem cxo_sha_Pad : CxOk Tryd.prog (cx_sha_Pad) := ⟨tys_ok, FnsAll.nil⟩
abbrev K0_sha_Pad_L1 : List (Nat × Ty) := [(0, (.int .u64))]
abbrev TM_sha_Pad_L1 : Tm := ⟨[(3, (.own 0)), (4, (.hole (.int .i64)))], [(.vec (.int .u8))]⟩
abbrev UO_sha_Pad_L1 : Outs := (.one (.exit 0) ⟨[(3, (.own 0))], [(.vec (.int .u8))]⟩)
def B_sha_Pad_L1 : Blk := frBlk 0 [0, 2] K0_sha_Pad_L1 TM_sha_Pad_L1 UO_sha_Pad_L1 (fun k => loopV (fun v => sha_Pad_L1 k.1 v))
def gs_sha_Pad : Nat → Option Blk := lk [(1, B_sha_Pad_L1)]
theorem ct_sha_Pad_L1 : CodeSound Tryd.prog (cx_sha_Pad) (subL (subR (subL (subR (subR (subR (bodyOf Tryd.f113))))))) (B_sha_Pad_L1).D :=
  loop_printed (G := gs_sha_Pad) (A := .leaf) (T0 := K0_sha_Pad_L1) (T := TM_sha_Pad_L1) (U := UO_sha_Pad_L1) (step := (fun k v => sha_Pad_L1 k.1 v)) (cxo_sha_Pad) follows (by kernel_rfl) (by kernel_rfl) (CutsOk.leaf _) (by intro k v; kernel_rfl)
theorem sd_sha_Pad : FnSound Tryd.prog gl 113 sg_sha_Pad :=
  fn_printed (G := gs_sha_Pad) (A := (.two .leaf (.two .leaf (.two .leaf (.two (.two .leaf (.two (.cut 1) .leaf)) .leaf))))) (cxo_sha_Pad) follows Tryd.func113 (by kernel_rfl) (by kernel_rfl) (by kernel_rfl) (by kernel_rfl) (by kernel_rfl) (CutsOk.two (CutsOk.leaf _) (CutsOk.two (CutsOk.leaf _) (CutsOk.two (CutsOk.leaf _) (CutsOk.two (CutsOk.two (CutsOk.leaf _) (CutsOk.two (CutsOk.cut (g := B_sha_Pad_L1) (by kernel_rfl) (ct_sha_Pad_L1)) (CutsOk.leaf _))) (CutsOk.leaf _))))) (by intro v; kernel_rfl)
def sg_sha_rotr : Sig := mkSig [(.hole (.int .u32)), (.hole (.int .i64))] [] [(.hole (.int .u32))] [] (fun p => sha_rotr p.1.1 p.1.2.1)
theorem fk_sha_rotr : FnOk Tryd.prog 117 := ⟨Tryd.f117, Tryd.func117, by kernel_rfl, by kernel_rfl⟩
def cx_sha_rotr : Cx := ⟨tys, lk [(115 + 100000 * 0, sg_math_bits_RotateLeft32)], 9, 0, [], gl, []⟩
theorem cxo_sha_rotr : CxOk Tryd.prog (cx_sha_rotr) := ⟨tys_ok, FnsAll.cons 0 rfl fk_math_bits_RotateLeft32 sd_math_bits_RotateLeft32 (FnsAll.nil)⟩
def gs_sha_rotr : Nat → Option Blk := lk []
theorem sd_sha_rotr : FnSound Tryd.prog gl 117 sg_sha_rotr :=
  fn_printed (G := gs_sha_rotr) (A := .leaf) (cxo_sha_rotr) follows Tryd.func117 (by kernel_rfl) (by kernel_rfl) (by kernel_rfl) (by kernel_rfl) (by kernel_rfl) (CutsOk.leaf _) (by intro v; kernel_rfl)
def sg_sha_schedule : Sig := mkSig [(.hole (.arr 64 (.int .u8)))] [] [(.hole (.arr 64 (.int .u32)))] [] (fun p => sha_schedule p.1.1)
theorem fk_sha_schedule : FnOk Tryd.prog 116 := ⟨Tryd.f116, Tryd.func116, by kernel_rfl, by kernel_rfl⟩
def cx_sha_schedule : Cx := ⟨tys, lk [(117 + 100000 * 0, sg_sha_rotr)], 80, 0, [], gl, []⟩
theorem cxo_sha_schedule : CxOk Tryd.prog (cx_sha_schedule) := ⟨tys_ok, FnsAll.cons 0 rfl fk_sha_rotr sd_sha_rotr (FnsAll.nil)⟩
abbrev K0_sha_schedule_L1 : List (Nat × Ty) := [(9, (.arr 64 (.int .u8)))]
abbrev TM_sha_schedule_L1 : Tm := ⟨[(2, (.ptr 0 [])), (3, (.ptr 1 [])), (10, (.hole (.int .i64)))], [(.box (.arr 64 (.int .u32)) (.hole (.arr 64 (.int .u32)))), (.box (.arr 64 (.int .u32)) (.hole (.arr 64 (.int .u32))))]⟩
abbrev UO_sha_schedule_L1 : Outs := (.one (.exit 0) ⟨[(2, (.ptr 0 [])), (3, (.ptr 1 []))], [(.box (.arr 64 (.int .u32)) (.hole (.arr 64 (.int .u32)))), (.box (.arr 64 (.int .u32)) (.hole (.arr 64 (.int .u32))))]⟩)
def B_sha_schedule_L1 : Blk := frBlk 0 [9] K0_sha_schedule_L1 TM_sha_schedule_L1 UO_sha_schedule_L1 (fun k => loopV (fun v => sha_schedule_L1 k.1 v))
abbrev K0_sha_schedule_L2 : List (Nat × Ty) := []
abbrev TM_sha_schedule_L2 : Tm := ⟨[(2, (.ptr 0 [])), (3, (.ptr 1 [])), (6, (.hole (.int .i64)))], [(.box (.arr 64 (.int .u32)) (.hole (.arr 64 (.int .u32)))), (.box (.arr 64 (.int .u32)) (.hole (.arr 64 (.int .u32))))]⟩
abbrev UO_sha_schedule_L2 : Outs := (.one (.exit 2) ⟨[(2, (.ptr 0 [])), (3, (.ptr 1 []))], [(.box (.arr 64 (.int .u32)) (.hole (.arr 64 (.int .u32)))), (.box (.arr 64 (.int .u32)) (.hole (.arr 64 (.int .u32))))]⟩)
def B_sha_schedule_L2 : Blk := frBlk 0 [] K0_sha_schedule_L2 TM_sha_schedule_L2 UO_sha_schedule_L2 (fun k => loopV (fun v => sha_schedule_L2 v))
def gs_sha_schedule : Nat → Option Blk := lk [(1, B_sha_schedule_L1), (2, B_sha_schedule_L2)]
theorem ct_sha_schedule_L2 : CodeSound Tryd.prog (cx_sha_schedule) (subL (subR (subL (subR (subR (subR (bodyOf Tryd.f116))))))) (B_sha_schedule_L2).D :=
  loop_printed (G := gs_sha_schedule) (A := .leaf) (T0 := K0_sha_schedule_L2) (T := TM_sha_schedule_L2) (U := UO_sha_schedule_L2) (step := (fun k v => sha_schedule_L2 v)) (cxo_sha_schedule) follows (by kernel_rfl) (by kernel_rfl) (CutsOk.leaf _) (by intro k v; kernel_rfl)
theorem ct_sha_schedule_L1 : CodeSound Tryd.prog (cx_sha_schedule) (subL (subR (subL (subR (subR (bodyOf Tryd.f116)))))) (B_sha_schedule_L1).D :=
  loop_printed (G := gs_sha_schedule) (A := .leaf) (T0 := K0_sha_schedule_L1) (T := TM_sha_schedule_L1) (U := UO_sha_schedule_L1) (step := (fun k v => sha_schedule_L1 k.1 v)) (cxo_sha_schedule) follows (by kernel_rfl) (by kernel_rfl) (CutsOk.leaf _) (by intro k v; kernel_rfl)
theorem sd_sha_schedule : FnSound Tryd.prog gl 116 sg_sha_schedule :=
  fn_printed (G := gs_sha_schedule) (A := (.two .leaf (.two .leaf (.two (.two .leaf (.two (.cut 1) .leaf)) (.two (.two .leaf (.two (.cut 2) .leaf)) .leaf))))) (cxo_sha_schedule) follows Tryd.func116 (by kernel_rfl) (by kernel_rfl) (by kernel_rfl) (by kernel_rfl) (by kernel_rfl) (CutsOk.two (CutsOk.leaf _) (CutsOk.two (CutsOk.leaf _) (CutsOk.two (CutsOk.two (CutsOk.leaf _) (CutsOk.two (CutsOk.cut (g := B_sha_schedule_L1) (by kernel_rfl) (ct_sha_schedule_L1)) (CutsOk.leaf _))) (CutsOk.two (CutsOk.two (CutsOk.leaf _) (CutsOk.two (CutsOk.cut (g := B_sha_schedule_L2) (by kernel_rfl) (ct_sha_schedule_L2)) (CutsOk.leaf _))) (CutsOk.leaf _))))) (by intro v; kernel_rfl)
def sg_sha_Compress : Sig := mkSig [(.hole (.arr 8 (.int .u32))), (.hole (.arr 64 (.int .u8)))] [] [(.hole (.arr 8 (.int .u32)))] [] (fun p => sha_Compress p.1.1 p.1.2.1)
theorem fk_sha_Compress : FnOk Tryd.prog 114 := ⟨Tryd.f114, Tryd.func114, by kernel_rfl, by kernel_rfl⟩
def cx_sha_Compress : Cx := ⟨tys, lk [(117 + 100000 * 0, sg_sha_rotr), (116 + 100000 * 0, sg_sha_schedule)], 112, 0, [], gl, []⟩
theorem cxo_sha_Compress : CxOk Tryd.prog (cx_sha_Compress) := ⟨tys_ok, FnsAll.cons 0 rfl fk_sha_rotr sd_sha_rotr (FnsAll.cons 0 rfl fk_sha_schedule sd_sha_schedule (FnsAll.nil))⟩
abbrev K0_sha_Compress_L1 : List (Nat × Ty) := [(21, (.arr 64 (.int .u32)))]
abbrev TM_sha_Compress_L1 : Tm := ⟨[(2, (.ptr 0 [])), (4, (.ptr 1 [])), (5, (.ptr 2 [])), (6, (.ptr 3 [])), (22, (.hole (.int .i64)))], [(.box (.arr 8 (.int .u32)) (.hole (.arr 8 (.int .u32)))), (.box (.arr 8 (.int .u32)) (.hole (.arr 8 (.int .u32)))), (.box (.arr 64 (.int .u32)) (.hole (.arr 64 (.int .u32)))), (.box (.arr 8 (.int .u32)) (.hole (.arr 8 (.int .u32))))]⟩
abbrev UO_sha_Compress_L1 : Outs := (.one (.exit 0) ⟨[(2, (.ptr 0 [])), (4, (.ptr 1 [])), (6, (.ptr 2 []))], [(.box (.arr 8 (.int .u32)) (.hole (.arr 8 (.int .u32)))), (.box (.arr 8 (.int .u32)) (.hole (.arr 8 (.int .u32)))), (.box (.arr 8 (.int .u32)) (.hole (.arr 8 (.int .u32))))]⟩)
def B_sha_Compress_L1 : Blk := frBlk 0 [21] K0_sha_Compress_L1 TM_sha_Compress_L1 UO_sha_Compress_L1 (fun k => loopV (fun v => sha_Compress_L1 k.1 v))
abbrev K0_sha_Compress_L2 : List (Nat × Ty) := []
abbrev TM_sha_Compress_L2 : Tm := ⟨[(2, (.ptr 0 [])), (4, (.ptr 1 [])), (6, (.ptr 2 [])), (99, (.hole (.int .i64)))], [(.box (.arr 8 (.int .u32)) (.hole (.arr 8 (.int .u32)))), (.box (.arr 8 (.int .u32)) (.hole (.arr 8 (.int .u32)))), (.box (.arr 8 (.int .u32)) (.hole (.arr 8 (.int .u32))))]⟩
abbrev UO_sha_Compress_L2 : Outs := (.one (.exit 2) ⟨[(4, (.ptr 0 [])), (6, (.ptr 1 []))], [(.box (.arr 8 (.int .u32)) (.hole (.arr 8 (.int .u32)))), (.box (.arr 8 (.int .u32)) (.hole (.arr 8 (.int .u32))))]⟩)
def B_sha_Compress_L2 : Blk := frBlk 0 [] K0_sha_Compress_L2 TM_sha_Compress_L2 UO_sha_Compress_L2 (fun k => loopV (fun v => sha_Compress_L2 v))
def gs_sha_Compress : Nat → Option Blk := lk [(1, B_sha_Compress_L1), (2, B_sha_Compress_L2)]
theorem ct_sha_Compress_L2 : CodeSound Tryd.prog (cx_sha_Compress) (subL (subR (subL (subR (subR (subR (bodyOf Tryd.f114))))))) (B_sha_Compress_L2).D :=
  loop_printed (G := gs_sha_Compress) (A := .leaf) (T0 := K0_sha_Compress_L2) (T := TM_sha_Compress_L2) (U := UO_sha_Compress_L2) (step := (fun k v => sha_Compress_L2 v)) (cxo_sha_Compress) follows (by kernel_rfl) (by kernel_rfl) (CutsOk.leaf _) (by intro k v; kernel_rfl)
theorem ct_sha_Compress_L1 : CodeSound Tryd.prog (cx_sha_Compress) (subL (subR (subL (subR (subR (bodyOf Tryd.f114)))))) (B_sha_Compress_L1).D :=
  loop_printed (G := gs_sha_Compress) (A := .leaf) (T0 := K0_sha_Compress_L1) (T := TM_sha_Compress_L1) (U := UO_sha_Compress_L1) (step := (fun k v => sha_Compress_L1 k.1 v)) (cxo_sha_Compress) follows (by kernel_rfl) (by kernel_rfl) (CutsOk.leaf _) (by intro k v; kernel_rfl)
theorem sd_sha_Compress : FnSound Tryd.prog gl 114 sg_sha_Compress :=
  fn_printed (G := gs_sha_Compress) (A := (.two .leaf (.two .leaf (.two (.two .leaf (.two (.cut 1) .leaf)) (.two (.two .leaf (.two (.cut 2) .leaf)) .leaf))))) (cxo_sha_Compress) follows Tryd.func114 (by kernel_rfl) (by kernel_rfl) (by kernel_rfl) (by kernel_rfl) (by kernel_rfl) (CutsOk.two (CutsOk.leaf _) (CutsOk.two (CutsOk.leaf _) (CutsOk.two (CutsOk.two (CutsOk.leaf _) (CutsOk.two (CutsOk.cut (g := B_sha_Compress_L1) (by kernel_rfl) (ct_sha_Compress_L1)) (CutsOk.leaf _))) (CutsOk.two (CutsOk.two (CutsOk.leaf _) (CutsOk.two (CutsOk.cut (g := B_sha_Compress_L2) (by kernel_rfl) (ct_sha_Compress_L2)) (CutsOk.leaf _))) (CutsOk.leaf _))))) (by intro v; kernel_rfl)
def sg_sha_Sum : Sig := mkSig [(.hole (.slice (.int .u8)))] [] [(.hole (.arr 32 (.int .u8)))] [] (fun p => sha_Sum p.1.1)
theorem fk_sha_Sum : FnOk Tryd.prog 103 := ⟨Tryd.f103, Tryd.func103, by kernel_rfl, by kernel_rfl⟩
def cx_sha_Sum : Cx := ⟨tys, lk [(114 + 100000 * 0, sg_sha_Compress), (113 + 100000 * 0, sg_sha_Pad)], 47, 0, [], gl, []⟩
theorem cxo_sha_Sum : CxOk Tryd.prog (cx_sha_Sum) := ⟨tys_ok, FnsAll.cons 0 rfl fk_sha_Compress sd_sha_Compress (FnsAll.cons 0 rfl fk_sha_Pad sd_sha_Pad (FnsAll.nil))⟩
abbrev K0_sha_Sum_L1 : List (Nat × Ty) := []
abbrev TM_sha_Sum_L1 : Tm := ⟨[(2, (.ptr 0 [])), (3, (.hole (.slice (.int .u8)))), (4, (.ptr 1 []))], [(.box (.arr 32 (.int .u8)) (.hole (.arr 32 (.int .u8)))), (.box (.arr 8 (.int .u32)) (.hole (.arr 8 (.int .u32))))]⟩
abbrev UO_sha_Sum_L1 : Outs := (.one (.exit 0) ⟨[(2, (.ptr 0 [])), (4, (.ptr 1 []))], [(.box (.arr 32 (.int .u8)) (.hole (.arr 32 (.int .u8)))), (.box (.arr 8 (.int .u32)) (.hole (.arr 8 (.int .u32))))]⟩)
def B_sha_Sum_L1 : Blk := frBlk 0 [] K0_sha_Sum_L1 TM_sha_Sum_L1 UO_sha_Sum_L1 (fun k => loopV (fun v => sha_Sum_L1 v))
abbrev K0_sha_Sum_L2 : List (Nat × Ty) := []
abbrev TM_sha_Sum_L2 : Tm := ⟨[(2, (.ptr 0 [])), (4, (.ptr 1 [])), (5, (.ptr 2 [])), (30, (.hole (.int .i64)))], [(.box (.arr 32 (.int .u8)) (.hole (.arr 32 (.int .u8)))), (.box (.arr 8 (.int .u32)) (.hole (.arr 8 (.int .u32)))), (.box (.arr 32 (.int .u8)) (.hole (.arr 32 (.int .u8))))]⟩
abbrev UO_sha_Sum_L2 : Outs := (.one (.exit 2) ⟨[(2, (.ptr 0 [])), (5, (.ptr 1 []))], [(.box (.arr 32 (.int .u8)) (.hole (.arr 32 (.int .u8)))), (.box (.arr 32 (.int .u8)) (.hole (.arr 32 (.int .u8))))]⟩)
def B_sha_Sum_L2 : Blk := frBlk 0 [] K0_sha_Sum_L2 TM_sha_Sum_L2 UO_sha_Sum_L2 (fun k => loopV (fun v => sha_Sum_L2 v))
def gs_sha_Sum : Nat → Option Blk := lk [(1, B_sha_Sum_L1), (2, B_sha_Sum_L2)]
theorem ct_sha_Sum_L2 : CodeSound Tryd.prog (cx_sha_Sum) (subL (subR (subL (subR (subR (subR (subR (subR (bodyOf Tryd.f103))))))))) (B_sha_Sum_L2).D :=
  loop_printed (G := gs_sha_Sum) (A := .leaf) (T0 := K0_sha_Sum_L2) (T := TM_sha_Sum_L2) (U := UO_sha_Sum_L2) (step := (fun k v => sha_Sum_L2 v)) (cxo_sha_Sum) follows (by kernel_rfl) (by kernel_rfl) (CutsOk.leaf _) (by intro k v; kernel_rfl)
theorem ct_sha_Sum_L1 : CodeSound Tryd.prog (cx_sha_Sum) (subL (subL (subR (subR (subR (bodyOf Tryd.f103)))))) (B_sha_Sum_L1).D :=
  loop_printed (G := gs_sha_Sum) (A := .leaf) (T0 := K0_sha_Sum_L1) (T := TM_sha_Sum_L1) (U := UO_sha_Sum_L1) (step := (fun k v => sha_Sum_L1 v)) (cxo_sha_Sum) follows (by kernel_rfl) (by kernel_rfl) (CutsOk.leaf _) (by intro k v; kernel_rfl)
theorem sd_sha_Sum : FnSound Tryd.prog gl 103 sg_sha_Sum :=
  fn_printed (G := gs_sha_Sum) (A := (.two .leaf (.two .leaf (.two .leaf (.two (.two (.cut 1) .leaf) (.two .leaf (.two (.two .leaf (.two (.cut 2) .leaf)) .leaf))))))) (cxo_sha_Sum) follows Tryd.func103 (by kernel_rfl) (by kernel_rfl) (by kernel_rfl) (by kernel_rfl) (by kernel_rfl) (CutsOk.two (CutsOk.leaf _) (CutsOk.two (CutsOk.leaf _) (CutsOk.two (CutsOk.leaf _) (CutsOk.two (CutsOk.two (CutsOk.cut (g := B_sha_Sum_L1) (by kernel_rfl) (ct_sha_Sum_L1)) (CutsOk.leaf _)) (CutsOk.two (CutsOk.leaf _) (CutsOk.two (CutsOk.two (CutsOk.leaf _) (CutsOk.two (CutsOk.cut (g := B_sha_Sum_L2) (by kernel_rfl) (ct_sha_Sum_L2)) (CutsOk.leaf _))) (CutsOk.leaf _))))))) (by intro v; kernel_rfl)
def sg_sha_Double : Sig := mkSig [(.hole (.slice (.int .u8)))] [] [(.hole (.arr 32 (.int .u8)))] [] (fun p => sha_Double p.1.1)
theorem fk_sha_Double : FnOk Tryd.prog 84 := ⟨Tryd.f84, Tryd.func84, by kernel_rfl, by kernel_rfl⟩
def cx_sha_Double : Cx := ⟨tys, lk [(103 + 100000 * 0, sg_sha_Sum)], 8, 0, [], gl, []⟩
theorem cxo_sha_Double : CxOk Tryd.prog (cx_sha_Double) := ⟨tys_ok, FnsAll.cons 0 rfl fk_sha_Sum sd_sha_Sum (FnsAll.nil)⟩
def gs_sha_Double : Nat → Option Blk := lk []
theorem sd_sha_Double : FnSound Tryd.prog gl 84 sg_sha_Double :=
  fn_printed (G := gs_sha_Double) (A := .leaf) (cxo_sha_Double) follows Tryd.func84 (by kernel_rfl) (by kernel_rfl) (by kernel_rfl) (by kernel_rfl) (by kernel_rfl) (CutsOk.leaf _) (by intro v; kernel_rfl)
end Go.PE.YtmmipabgoikibaaDoor
end
end

section
set_option maxRecDepth 100000
set_option linter.unusedVariables false
noncomputable section
namespace Go.PE.YtmmipabgoikibaaDoor
open Go.PE Go.Proofs

def sg_tx_small : Sig := mkSig [(.hole T_8f0a)] [] [(.hole .bool)] [] (fun p => tx_small p.1.1)
theorem fk_tx_small : FnOk Tryd.prog 89 := ⟨Tryd.f89, Tryd.func89, by kernel_rfl, by kernel_rfl⟩
def cx_tx_small : Cx := ⟨tys, lk [], 59, 0, [], gl, []⟩
theorem cxo_tx_small : CxOk Tryd.prog (cx_tx_small) := ⟨tys_ok, FnsAll.nil⟩
abbrev K0_tx_small_L1 : List (Nat × Ty) := [(20, (.slice T_b101)), (21, (.int .i64))]
abbrev TM_tx_small_L1 : Tm := ⟨[(1, (.ptr 0 [])), (22, (.hole (.int .i64)))], [(.box T_8f0a (.hole T_8f0a))]⟩
abbrev UO_tx_small_L1 : Outs := (.more .ret ⟨[(2, (.hole .bool))], []⟩ (.one (.exit 0) ⟨[(1, (.ptr 0 []))], [(.box T_8f0a (.hole T_8f0a))]⟩))
def B_tx_small_L1 : Blk := frBlk 0 [20, 21] K0_tx_small_L1 TM_tx_small_L1 UO_tx_small_L1 (fun k => loopV (fun v => tx_small_L1 k.1 k.2.1 v))
abbrev K0_tx_small_L3 : List (Nat × Ty) := [(48, (.slice (.slice (.int .u8)))), (49, (.int .i64))]
abbrev TM_tx_small_L3 : Tm := ⟨[(50, (.hole (.int .i64)))], []⟩
abbrev UO_tx_small_L3 : Outs := (.more .ret ⟨[(2, (.hole .bool))], []⟩ (.one (.exit 4) ⟨[], []⟩))
def B_tx_small_L3 : Blk := frBlk 0 [37, 38, 39, 48, 49] K0_tx_small_L3 TM_tx_small_L3 UO_tx_small_L3 (fun k => loopV (fun v => tx_small_L3 k.1 k.2.1 v))
abbrev K0_tx_small_L2 : List (Nat × Ty) := [(37, (.slice T_089d)), (38, (.int .i64))]
abbrev TM_tx_small_L2 : Tm := ⟨[(39, (.hole (.int .i64)))], []⟩
abbrev UO_tx_small_L2 : Outs := (.more .ret ⟨[(2, (.hole .bool))], []⟩ (.one (.exit 2) ⟨[], []⟩))
def B_tx_small_L2 : Blk := frBlk 0 [37, 38] K0_tx_small_L2 TM_tx_small_L2 UO_tx_small_L2 (fun k => loopV (fun v => tx_small_L2 k.1 k.2.1 v))
def gs_tx_small : Nat → Option Blk := lk [(1, B_tx_small_L1), (3, B_tx_small_L3), (2, B_tx_small_L2)]
theorem ct_tx_small_L3 : CodeSound Tryd.prog ((cx_tx_small).fr [37, 38]) (subL (subR (subR (subR (subL (subL (subR (subR (subL (subL (subR (subL (subR (subR (subR (bodyOf Tryd.f89)))))))))))))))) (B_tx_small_L3).D :=
  loop_printed (G := gs_tx_small) (A := .leaf) (T0 := K0_tx_small_L3) (T := TM_tx_small_L3) (U := UO_tx_small_L3) (step := (fun k v => tx_small_L3 k.1 k.2.1 v)) ((cxo_tx_small).fr [37, 38]) follows (by kernel_rfl) (by kernel_rfl) (CutsOk.leaf _) (by intro k v; kernel_rfl)
theorem ct_tx_small_L2 : CodeSound Tryd.prog (cx_tx_small) (subL (subR (subL (subR (subR (subR (bodyOf Tryd.f89))))))) (B_tx_small_L2).D :=
  loop_printed (G := gs_tx_small) (A := (.two .leaf (.two .leaf (.two (.two (.two .leaf (.two .leaf (.two .leaf (.two (.cut 3) .leaf)))) .leaf) .leaf)))) (T0 := K0_tx_small_L2) (T := TM_tx_small_L2) (U := UO_tx_small_L2) (step := (fun k v => tx_small_L2 k.1 k.2.1 v)) (cxo_tx_small) follows (by kernel_rfl) (by kernel_rfl) (CutsOk.two (CutsOk.leaf _) (CutsOk.two (CutsOk.leaf _) (CutsOk.two (CutsOk.two (CutsOk.two (CutsOk.leaf _) (CutsOk.two (CutsOk.leaf _) (CutsOk.two (CutsOk.leaf _) (CutsOk.two (CutsOk.cut (g := B_tx_small_L3) (by kernel_rfl) (ct_tx_small_L3)) (CutsOk.leaf _))))) (CutsOk.leaf _)) (CutsOk.leaf _)))) (by intro k v; kernel_rfl)
theorem ct_tx_small_L1 : CodeSound Tryd.prog (cx_tx_small) (subL (subR (subL (subR (subR (bodyOf Tryd.f89)))))) (B_tx_small_L1).D :=
  loop_printed (G := gs_tx_small) (A := .leaf) (T0 := K0_tx_small_L1) (T := TM_tx_small_L1) (U := UO_tx_small_L1) (step := (fun k v => tx_small_L1 k.1 k.2.1 v)) (cxo_tx_small) follows (by kernel_rfl) (by kernel_rfl) (CutsOk.leaf _) (by intro k v; kernel_rfl)
theorem sd_tx_small : FnSound Tryd.prog gl 89 sg_tx_small :=
  fn_printed (G := gs_tx_small) (A := (.two .leaf (.two .leaf (.two (.two .leaf (.two (.cut 1) .leaf)) (.two (.two .leaf (.two (.cut 2) .leaf)) .leaf))))) (cxo_tx_small) follows Tryd.func89 (by kernel_rfl) (by kernel_rfl) (by kernel_rfl) (by kernel_rfl) (by kernel_rfl) (CutsOk.two (CutsOk.leaf _) (CutsOk.two (CutsOk.leaf _) (CutsOk.two (CutsOk.two (CutsOk.leaf _) (CutsOk.two (CutsOk.cut (g := B_tx_small_L1) (by kernel_rfl) (ct_tx_small_L1)) (CutsOk.leaf _))) (CutsOk.two (CutsOk.two (CutsOk.leaf _) (CutsOk.two (CutsOk.cut (g := B_tx_small_L2) (by kernel_rfl) (ct_tx_small_L2)) (CutsOk.leaf _))) (CutsOk.leaf _))))) (by intro v; kernel_rfl)
def sg_tx_Point : Sig := mkSig [(.hole T_b85e)] [] [(.own 0)] [(.vec (.int .u8))] (fun p => tx_Point p.1.1)
theorem fk_tx_Point : FnOk Tryd.prog 92 := ⟨Tryd.f92, Tryd.func92, by kernel_rfl, by kernel_rfl⟩
def cx_tx_Point : Cx := ⟨tys, lk [(109 + 100000 * 0, sg_codec_AppendHash), (90 + 100000 * 0, sg_codec_AppendU32)], 9, 0, [], gl, []⟩
theorem cxo_tx_Point : CxOk Tryd.prog (cx_tx_Point) := ⟨tys_ok, FnsAll.cons 0 rfl fk_codec_AppendHash sd_codec_AppendHash (FnsAll.cons 0 rfl fk_codec_AppendU32 sd_codec_AppendU32 (FnsAll.nil))⟩
def gs_tx_Point : Nat → Option Blk := lk []
theorem sd_tx_Point : FnSound Tryd.prog gl 92 sg_tx_Point :=
  fn_printed (G := gs_tx_Point) (A := .leaf) (cxo_tx_Point) follows Tryd.func92 (by kernel_rfl) (by kernel_rfl) (by kernel_rfl) (by kernel_rfl) (by kernel_rfl) (CutsOk.leaf _) (by intro v; kernel_rfl)
def sg_tx_encode : Sig := mkSig [(.hole T_8f0a), (.hole .bool)] [] [(.own 0)] [(.vec (.int .u8))] (fun p => tx_encode p.1.1 p.1.2.1)
theorem fk_tx_encode : FnOk Tryd.prog 71 := ⟨Tryd.f71, Tryd.func71, by kernel_rfl, by kernel_rfl⟩
def cx_tx_encode : Cx := ⟨tys, lk [(94 + 100000 * 0, sg_codec_AppendBytes), (91 + 100000 * 0, sg_codec_AppendSize), (90 + 100000 * 0, sg_codec_AppendU32), (93 + 100000 * 0, sg_codec_AppendU64), (92 + 100000 * 0, sg_tx_Point)], 95, 0, [], gl, []⟩
theorem cxo_tx_encode : CxOk Tryd.prog (cx_tx_encode) := ⟨tys_ok, FnsAll.cons 0 rfl fk_codec_AppendBytes sd_codec_AppendBytes (FnsAll.cons 0 rfl fk_codec_AppendSize sd_codec_AppendSize (FnsAll.cons 0 rfl fk_codec_AppendU32 sd_codec_AppendU32 (FnsAll.cons 0 rfl fk_codec_AppendU64 sd_codec_AppendU64 (FnsAll.cons 0 rfl fk_tx_Point sd_tx_Point (FnsAll.nil)))))⟩
abbrev K0_tx_encode_L1 : List (Nat × Ty) := [(24, (.slice T_089d)), (25, (.int .i64))]
abbrev TM_tx_encode_L1 : Tm := ⟨[(2, (.ptr 0 [])), (5, (.own 1)), (26, (.hole (.int .i64)))], [(.box T_8f0a (.hole T_8f0a)), (.vec (.int .u8))]⟩
abbrev UO_tx_encode_L1 : Outs := (.one (.exit 0) ⟨[(2, (.ptr 0 [])), (5, (.own 1))], [(.box T_8f0a (.hole T_8f0a)), (.vec (.int .u8))]⟩)
def B_tx_encode_L1 : Blk := frBlk 0 [1, 4, 24, 25] K0_tx_encode_L1 TM_tx_encode_L1 UO_tx_encode_L1 (fun k => loopV (fun v => tx_encode_L1 k.1 k.2.1 v))
abbrev K0_tx_encode_L2 : List (Nat × Ty) := [(47, (.slice T_b101)), (48, (.int .i64))]
abbrev TM_tx_encode_L2 : Tm := ⟨[(2, (.ptr 0 [])), (5, (.own 1)), (49, (.hole (.int .i64)))], [(.box T_8f0a (.hole T_8f0a)), (.vec (.int .u8))]⟩
abbrev UO_tx_encode_L2 : Outs := (.one (.exit 2) ⟨[(2, (.ptr 0 [])), (5, (.own 1))], [(.box T_8f0a (.hole T_8f0a)), (.vec (.int .u8))]⟩)
def B_tx_encode_L2 : Blk := frBlk 0 [1, 4, 47, 48] K0_tx_encode_L2 TM_tx_encode_L2 UO_tx_encode_L2 (fun k => loopV (fun v => tx_encode_L2 k.1 k.2.1 v))
abbrev K0_tx_encode_L4 : List (Nat × Ty) := [(83, (.slice (.slice (.int .u8)))), (84, (.int .i64))]
abbrev TM_tx_encode_L4 : Tm := ⟨[(5, (.own 0)), (85, (.hole (.int .i64)))], [(.vec (.int .u8))]⟩
abbrev UO_tx_encode_L4 : Outs := (.one (.exit 6) ⟨[(5, (.own 0))], [(.vec (.int .u8))]⟩)
def B_tx_encode_L4 : Blk := frBlk 0 [1, 68, 69, 70, 83, 84] K0_tx_encode_L4 TM_tx_encode_L4 UO_tx_encode_L4 (fun k => loopV (fun v => tx_encode_L4 k.1 k.2.1 v))
abbrev K0_tx_encode_L3 : List (Nat × Ty) := [(1, .bool), (68, (.slice T_089d)), (69, (.int .i64))]
abbrev TM_tx_encode_L3 : Tm := ⟨[(5, (.own 0)), (70, (.hole (.int .i64)))], [(.vec (.int .u8))]⟩
abbrev UO_tx_encode_L3 : Outs := (.one (.exit 4) ⟨[(5, (.own 0))], [(.vec (.int .u8))]⟩)
def B_tx_encode_L3 : Blk := frBlk 0 [1, 4, 68, 69] K0_tx_encode_L3 TM_tx_encode_L3 UO_tx_encode_L3 (fun k => loopV (fun v => tx_encode_L3 k.1 k.2.1 k.2.2.1 v))
def gs_tx_encode : Nat → Option Blk := lk [(1, B_tx_encode_L1), (2, B_tx_encode_L2), (4, B_tx_encode_L4), (3, B_tx_encode_L3)]
theorem ct_tx_encode_L4 : CodeSound Tryd.prog ((cx_tx_encode).fr [1, 4, 68, 69]) (subL (subR (subR (subR (subR (subL (subL (subR (subR (subL (subL (subR (subL (subR (subR (subR (subR (subR (subR (subR (bodyOf Tryd.f71))))))))))))))))))))) (B_tx_encode_L4).D :=
  loop_printed (G := gs_tx_encode) (A := .leaf) (T0 := K0_tx_encode_L4) (T := TM_tx_encode_L4) (U := UO_tx_encode_L4) (step := (fun k v => tx_encode_L4 k.1 k.2.1 v)) ((cxo_tx_encode).fr [1, 4, 68, 69]) follows (by kernel_rfl) (by kernel_rfl) (CutsOk.leaf _) (by intro k v; kernel_rfl)
theorem ct_tx_encode_L3 : CodeSound Tryd.prog (cx_tx_encode) (subL (subR (subL (subR (subR (subR (subR (subR (subR (subR (bodyOf Tryd.f71))))))))))) (B_tx_encode_L3).D :=
  loop_printed (G := gs_tx_encode) (A := (.two .leaf (.two .leaf (.two (.two (.two .leaf (.two .leaf (.two .leaf (.two .leaf (.two (.cut 4) .leaf))))) .leaf) .leaf)))) (T0 := K0_tx_encode_L3) (T := TM_tx_encode_L3) (U := UO_tx_encode_L3) (step := (fun k v => tx_encode_L3 k.1 k.2.1 k.2.2.1 v)) (cxo_tx_encode) follows (by kernel_rfl) (by kernel_rfl) (CutsOk.two (CutsOk.leaf _) (CutsOk.two (CutsOk.leaf _) (CutsOk.two (CutsOk.two (CutsOk.two (CutsOk.leaf _) (CutsOk.two (CutsOk.leaf _) (CutsOk.two (CutsOk.leaf _) (CutsOk.two (CutsOk.leaf _) (CutsOk.two (CutsOk.cut (g := B_tx_encode_L4) (by kernel_rfl) (ct_tx_encode_L4)) (CutsOk.leaf _)))))) (CutsOk.leaf _)) (CutsOk.leaf _)))) (by intro k v; kernel_rfl)
theorem ct_tx_encode_L2 : CodeSound Tryd.prog (cx_tx_encode) (subL (subR (subL (subR (subR (subR (subR (subR (bodyOf Tryd.f71))))))))) (B_tx_encode_L2).D :=
  loop_printed (G := gs_tx_encode) (A := .leaf) (T0 := K0_tx_encode_L2) (T := TM_tx_encode_L2) (U := UO_tx_encode_L2) (step := (fun k v => tx_encode_L2 k.1 k.2.1 v)) (cxo_tx_encode) follows (by kernel_rfl) (by kernel_rfl) (CutsOk.leaf _) (by intro k v; kernel_rfl)
theorem ct_tx_encode_L1 : CodeSound Tryd.prog (cx_tx_encode) (subL (subR (subL (subR (subR (subR (bodyOf Tryd.f71))))))) (B_tx_encode_L1).D :=
  loop_printed (G := gs_tx_encode) (A := .leaf) (T0 := K0_tx_encode_L1) (T := TM_tx_encode_L1) (U := UO_tx_encode_L1) (step := (fun k v => tx_encode_L1 k.1 k.2.1 v)) (cxo_tx_encode) follows (by kernel_rfl) (by kernel_rfl) (CutsOk.leaf _) (by intro k v; kernel_rfl)
theorem sd_tx_encode : FnSound Tryd.prog gl 71 sg_tx_encode :=
  fn_printed (G := gs_tx_encode) (A := (.two .leaf (.two .leaf (.two .leaf (.two (.two .leaf (.two (.cut 1) .leaf)) (.two .leaf (.two (.two .leaf (.two (.cut 2) .leaf)) (.two .leaf (.two (.two .leaf (.two (.cut 3) .leaf)) .leaf))))))))) (cxo_tx_encode) follows Tryd.func71 (by kernel_rfl) (by kernel_rfl) (by kernel_rfl) (by kernel_rfl) (by kernel_rfl) (CutsOk.two (CutsOk.leaf _) (CutsOk.two (CutsOk.leaf _) (CutsOk.two (CutsOk.leaf _) (CutsOk.two (CutsOk.two (CutsOk.leaf _) (CutsOk.two (CutsOk.cut (g := B_tx_encode_L1) (by kernel_rfl) (ct_tx_encode_L1)) (CutsOk.leaf _))) (CutsOk.two (CutsOk.leaf _) (CutsOk.two (CutsOk.two (CutsOk.leaf _) (CutsOk.two (CutsOk.cut (g := B_tx_encode_L2) (by kernel_rfl) (ct_tx_encode_L2)) (CutsOk.leaf _))) (CutsOk.two (CutsOk.leaf _) (CutsOk.two (CutsOk.two (CutsOk.leaf _) (CutsOk.two (CutsOk.cut (g := B_tx_encode_L3) (by kernel_rfl) (ct_tx_encode_L3)) (CutsOk.leaf _))) (CutsOk.leaf _))))))))) (by intro v; kernel_rfl)
def sg_tx_Encode : Sig := mkSig [(.hole T_8f0a), (.hole .bool)] [] [(.own 0), (.hole (.int .i64))] [(.vec (.int .u8))] (fun p => tx_Encode p.1.1 p.1.2.1)
theorem fk_tx_Encode : FnOk Tryd.prog 70 := ⟨Tryd.f70, Tryd.func70, by kernel_rfl, by kernel_rfl⟩
def cx_tx_Encode : Cx := ⟨tys, lk [(71 + 100000 * 0, sg_tx_encode), (89 + 100000 * 0, sg_tx_small)], 21, 0, [], gl, []⟩
theorem cxo_tx_Encode : CxOk Tryd.prog (cx_tx_Encode) := ⟨tys_ok, FnsAll.cons 0 rfl fk_tx_encode sd_tx_encode (FnsAll.cons 0 rfl fk_tx_small sd_tx_small (FnsAll.nil))⟩
def gs_tx_Encode : Nat → Option Blk := lk []
theorem sd_tx_Encode : FnSound Tryd.prog gl 70 sg_tx_Encode :=
  fn_printed (G := gs_tx_Encode) (A := .leaf) (cxo_tx_Encode) follows Tryd.func70 (by kernel_rfl) (by kernel_rfl) (by kernel_rfl) (by kernel_rfl) (by kernel_rfl) (CutsOk.leaf _) (by intro v; kernel_rfl)
def sg_tx_money : Sig := mkSig [(.hole (.slice T_b101))] [] [(.hole .bool)] [] (fun p => tx_money p.1.1)
theorem fk_tx_money : FnOk Tryd.prog 80 := ⟨Tryd.f80, Tryd.func80, by kernel_rfl, by kernel_rfl⟩
def cx_tx_money : Cx := ⟨tys, lk [], 22, 0, [], gl, []⟩
theorem cxo_tx_money : CxOk Tryd.prog (cx_tx_money) := ⟨tys_ok, FnsAll.nil⟩
abbrev K0_tx_money_L1 : List (Nat × Ty) := [(6, (.slice T_b101)), (7, (.int .i64))]
abbrev TM_tx_money_L1 : Tm := ⟨[(3, (.hole (.int .i64))), (8, (.hole (.int .i64)))], []⟩
abbrev UO_tx_money_L1 : Outs := (.more .ret ⟨[(2, (.hole .bool))], []⟩ (.one (.exit 0) ⟨[(3, (.hole (.int .i64)))], []⟩))
def B_tx_money_L1 : Blk := frBlk 0 [6, 7] K0_tx_money_L1 TM_tx_money_L1 UO_tx_money_L1 (fun k => loopV (fun v => tx_money_L1 k.1 k.2.1 v))
def gs_tx_money : Nat → Option Blk := lk [(1, B_tx_money_L1)]
theorem ct_tx_money_L1 : CodeSound Tryd.prog (cx_tx_money) (subL (subR (subL (subR (subR (bodyOf Tryd.f80)))))) (B_tx_money_L1).D :=
  loop_printed (G := gs_tx_money) (A := .leaf) (T0 := K0_tx_money_L1) (T := TM_tx_money_L1) (U := UO_tx_money_L1) (step := (fun k v => tx_money_L1 k.1 k.2.1 v)) (cxo_tx_money) follows (by kernel_rfl) (by kernel_rfl) (CutsOk.leaf _) (by intro k v; kernel_rfl)
theorem sd_tx_money : FnSound Tryd.prog gl 80 sg_tx_money :=
  fn_printed (G := gs_tx_money) (A := (.two .leaf (.two .leaf (.two (.two .leaf (.two (.cut 1) .leaf)) .leaf)))) (cxo_tx_money) follows Tryd.func80 (by kernel_rfl) (by kernel_rfl) (by kernel_rfl) (by kernel_rfl) (by kernel_rfl) (CutsOk.two (CutsOk.leaf _) (CutsOk.two (CutsOk.leaf _) (CutsOk.two (CutsOk.two (CutsOk.leaf _) (CutsOk.two (CutsOk.cut (g := B_tx_money_L1) (by kernel_rfl) (ct_tx_money_L1)) (CutsOk.leaf _))) (CutsOk.leaf _)))) (by intro v; kernel_rfl)
def sg_tx_null : Sig := mkSig [] [] [(.hole T_b85e)] [] (fun p => tx_null)
theorem fk_tx_null : FnOk Tryd.prog 81 := ⟨Tryd.f81, Tryd.func81, by kernel_rfl, by kernel_rfl⟩
def cx_tx_null : Cx := ⟨tys, lk [], 2, 0, [], gl, []⟩
theorem cxo_tx_null : CxOk Tryd.prog (cx_tx_null) := ⟨tys_ok, FnsAll.nil⟩
def gs_tx_null : Nat → Option Blk := lk []
theorem sd_tx_null : FnSound Tryd.prog gl 81 sg_tx_null :=
  fn_printed (G := gs_tx_null) (A := .leaf) (cxo_tx_null) follows Tryd.func81 (by kernel_rfl) (by kernel_rfl) (by kernel_rfl) (by kernel_rfl) (by kernel_rfl) (CutsOk.leaf _) (by intro v; kernel_rfl)
def sg_tx_Coinbase : Sig := mkSig [(.hole T_8f0a)] [] [(.hole .bool)] [] (fun p => tx_Coinbase p.1.1)
theorem fk_tx_Coinbase : FnOk Tryd.prog 51 := ⟨Tryd.f51, Tryd.func51, by kernel_rfl, by kernel_rfl⟩
def cx_tx_Coinbase : Cx := ⟨tys, lk [(81 + 100000 * 0, sg_tx_null)], 16, 0, [], gl, []⟩
theorem cxo_tx_Coinbase : CxOk Tryd.prog (cx_tx_Coinbase) := ⟨tys_ok, FnsAll.cons 0 rfl fk_tx_null sd_tx_null (FnsAll.nil)⟩
def gs_tx_Coinbase : Nat → Option Blk := lk []
theorem sd_tx_Coinbase : FnSound Tryd.prog gl 51 sg_tx_Coinbase :=
  fn_printed (G := gs_tx_Coinbase) (A := .leaf) (cxo_tx_Coinbase) follows Tryd.func51 (by kernel_rfl) (by kernel_rfl) (by kernel_rfl) (by kernel_rfl) (by kernel_rfl) (CutsOk.leaf _) (by intro v; kernel_rfl)
def sg_tx_Check : Sig := mkSig [(.hole T_8f0a)] [] [(.hole (.int .i64))] [] (fun p => tx_Check p.1.1)
theorem fk_tx_Check : FnOk Tryd.prog 50 := ⟨Tryd.f50, Tryd.func50, by kernel_rfl, by kernel_rfl⟩
def cx_tx_Check : Cx := ⟨tys, lk [(51 + 100000 * 0, sg_tx_Coinbase), (70 + 100000 * 0, sg_tx_Encode), (80 + 100000 * 0, sg_tx_money), (81 + 100000 * 0, sg_tx_null)], 54, 0, [], gl, []⟩
theorem cxo_tx_Check : CxOk Tryd.prog (cx_tx_Check) := ⟨tys_ok, FnsAll.cons 0 rfl fk_tx_Coinbase sd_tx_Coinbase (FnsAll.cons 0 rfl fk_tx_Encode sd_tx_Encode (FnsAll.cons 0 rfl fk_tx_money sd_tx_money (FnsAll.cons 0 rfl fk_tx_null sd_tx_null (FnsAll.nil))))⟩
abbrev K0_tx_Check_L1 : List (Nat × Ty) := [(32, (.slice T_089d)), (33, (.int .i64))]
abbrev TM_tx_Check_L1 : Tm := ⟨[(1, (.ptr 0 [])), (5, (.mref 1)), (34, (.hole (.int .i64)))], [(.box T_8f0a (.hole T_8f0a)), (.mp T_b85e .bool)]⟩
abbrev UO_tx_Check_L1 : Outs := (.more .ret ⟨[(2, (.hole (.int .i64)))], []⟩ (.one (.exit 0) ⟨[(1, (.ptr 0 [])), (5, (.mref 1))], [(.box T_8f0a (.hole T_8f0a)), (.mp T_b85e .bool)]⟩))
def B_tx_Check_L1 : Blk := frBlk 0 [32, 33] K0_tx_Check_L1 TM_tx_Check_L1 UO_tx_Check_L1 (fun k => loopV (fun v => tx_Check_L1 k.1 k.2.1 v))
def gs_tx_Check : Nat → Option Blk := lk [(1, B_tx_Check_L1)]
theorem ct_tx_Check_L1 : CodeSound Tryd.prog (cx_tx_Check) (subL (subR (subL (subR (subR (subR (subR (subR (bodyOf Tryd.f50))))))))) (B_tx_Check_L1).D :=
  loop_printed (G := gs_tx_Check) (A := .leaf) (T0 := K0_tx_Check_L1) (T := TM_tx_Check_L1) (U := UO_tx_Check_L1) (step := (fun k v => tx_Check_L1 k.1 k.2.1 v)) (cxo_tx_Check) follows (by kernel_rfl) (by kernel_rfl) (CutsOk.leaf _) (by intro k v; kernel_rfl)
theorem sd_tx_Check : FnSound Tryd.prog gl 50 sg_tx_Check :=
  fn_printed (G := gs_tx_Check) (A := (.two .leaf (.two .leaf (.two .leaf (.two .leaf (.two .leaf (.two (.two .leaf (.two (.cut 1) .leaf)) .leaf))))))) (cxo_tx_Check) follows Tryd.func50 (by kernel_rfl) (by kernel_rfl) (by kernel_rfl) (by kernel_rfl) (by kernel_rfl) (CutsOk.two (CutsOk.leaf _) (CutsOk.two (CutsOk.leaf _) (CutsOk.two (CutsOk.leaf _) (CutsOk.two (CutsOk.leaf _) (CutsOk.two (CutsOk.leaf _) (CutsOk.two (CutsOk.two (CutsOk.leaf _) (CutsOk.two (CutsOk.cut (g := B_tx_Check_L1) (by kernel_rfl) (ct_tx_Check_L1)) (CutsOk.leaf _))) (CutsOk.leaf _))))))) (by intro v; kernel_rfl)
def sg_tx_digest : Sig := mkSig [(.hole T_8f0a), (.hole .bool)] [] [(.hole (.arr 32 (.int .u8)))] [] (fun p => tx_digest p.1.1 p.1.2.1)
theorem fk_tx_digest : FnOk Tryd.prog 61 := ⟨Tryd.f61, Tryd.func61, by kernel_rfl, by kernel_rfl⟩
def cx_tx_digest : Cx := ⟨tys, lk [(84 + 100000 * 0, sg_sha_Double), (70 + 100000 * 0, sg_tx_Encode)], 18, 0, [], gl, []⟩
theorem cxo_tx_digest : CxOk Tryd.prog (cx_tx_digest) := ⟨tys_ok, FnsAll.cons 0 rfl fk_sha_Double sd_sha_Double (FnsAll.cons 0 rfl fk_tx_Encode sd_tx_Encode (FnsAll.nil))⟩
def gs_tx_digest : Nat → Option Blk := lk []
theorem sd_tx_digest : FnSound Tryd.prog gl 61 sg_tx_digest :=
  fn_printed (G := gs_tx_digest) (A := .leaf) (cxo_tx_digest) follows Tryd.func61 (by kernel_rfl) (by kernel_rfl) (by kernel_rfl) (by kernel_rfl) (by kernel_rfl) (CutsOk.leaf _) (by intro v; kernel_rfl)
def sg_tx_ID : Sig := mkSig [(.hole T_8f0a)] [] [(.hole (.arr 32 (.int .u8)))] [] (fun p => tx_ID p.1.1)
theorem fk_tx_ID : FnOk Tryd.prog 33 := ⟨Tryd.f33, Tryd.func33, by kernel_rfl, by kernel_rfl⟩
def cx_tx_ID : Cx := ⟨tys, lk [(61 + 100000 * 0, sg_tx_digest)], 5, 0, [], gl, []⟩
theorem cxo_tx_ID : CxOk Tryd.prog (cx_tx_ID) := ⟨tys_ok, FnsAll.cons 0 rfl fk_tx_digest sd_tx_digest (FnsAll.nil)⟩
def gs_tx_ID : Nat → Option Blk := lk []
theorem sd_tx_ID : FnSound Tryd.prog gl 33 sg_tx_ID :=
  fn_printed (G := gs_tx_ID) (A := .leaf) (cxo_tx_ID) follows Tryd.func33 (by kernel_rfl) (by kernel_rfl) (by kernel_rfl) (by kernel_rfl) (by kernel_rfl) (CutsOk.leaf _) (by intro v; kernel_rfl)
def sg_tx_Weight : Sig := mkSig [(.hole T_8f0a)] [] [(.hole (.int .i64))] [] (fun p => tx_Weight p.1.1)
theorem fk_tx_Weight : FnOk Tryd.prog 40 := ⟨Tryd.f40, Tryd.func40, by kernel_rfl, by kernel_rfl⟩
def cx_tx_Weight : Cx := ⟨tys, lk [(70 + 100000 * 0, sg_tx_Encode), (71 + 100000 * 0, sg_tx_encode)], 19, 0, [], gl, []⟩
theorem cxo_tx_Weight : CxOk Tryd.prog (cx_tx_Weight) := ⟨tys_ok, FnsAll.cons 0 rfl fk_tx_Encode sd_tx_Encode (FnsAll.cons 0 rfl fk_tx_encode sd_tx_encode (FnsAll.nil))⟩
def gs_tx_Weight : Nat → Option Blk := lk []
theorem sd_tx_Weight : FnSound Tryd.prog gl 40 sg_tx_Weight :=
  fn_printed (G := gs_tx_Weight) (A := .leaf) (cxo_tx_Weight) follows Tryd.func40 (by kernel_rfl) (by kernel_rfl) (by kernel_rfl) (by kernel_rfl) (by kernel_rfl) (CutsOk.leaf _) (by intro v; kernel_rfl)
end Go.PE.YtmmipabgoikibaaDoor
end
end

section
set_option maxRecDepth 100000
set_option linter.unusedVariables false
noncomputable section
namespace Go.PE.YtmmipabgoikibaaDoor
open Go.PE Go.Proofs

def sg_replace_Signals_1 : Sig := mkSig [(.hole T_089d)] [] [(.hole .bool)] [] (fun p => replace_Signals_1 p.1.1)
theorem fk_replace_Signals_1 : FnOk Tryd.prog 29 := ⟨Tryd.f29, Tryd.func29, by kernel_rfl, by kernel_rfl⟩
def cx_replace_Signals_1 : Cx := ⟨tys, lk [], 6, 0, [], gl, []⟩
theorem cxo_replace_Signals_1 : CxOk Tryd.prog (cx_replace_Signals_1) := ⟨tys_ok, FnsAll.nil⟩
def gs_replace_Signals_1 : Nat → Option Blk := lk []
theorem sd_replace_Signals_1 : FnSound Tryd.prog gl 29 sg_replace_Signals_1 :=
  fn_printed (G := gs_replace_Signals_1) (A := .leaf) (cxo_replace_Signals_1) follows Tryd.func29 (by kernel_rfl) (by kernel_rfl) (by kernel_rfl) (by kernel_rfl) (by kernel_rfl) (CutsOk.leaf _) (by intro v; kernel_rfl)
def sg_replace_Conflict : Sig := mkSig [(.hole T_8f0a), (.hole T_8f0a)] [] [(.hole .bool)] [] (fun p => replace_Conflict p.1.1 p.1.2.1)
theorem fk_replace_Conflict : FnOk Tryd.prog 11 := ⟨Tryd.f11, Tryd.func11, by kernel_rfl, by kernel_rfl⟩
def cx_replace_Conflict : Cx := ⟨tys, lk [], 30, 0, [], gl, []⟩
theorem cxo_replace_Conflict : CxOk Tryd.prog (cx_replace_Conflict) := ⟨tys_ok, FnsAll.nil⟩
abbrev K0_replace_Conflict_L2 : List (Nat × Ty) := [(17, (.slice T_089d)), (18, (.int .i64))]
abbrev TM_replace_Conflict_L2 : Tm := ⟨[(3, (.ptr 0 [])), (6, (.ptr 1 [])), (19, (.hole (.int .i64)))], [(.box T_8f0a (.hole T_8f0a)), (.box T_089d (.hole T_089d))]⟩
abbrev UO_replace_Conflict_L2 : Outs := (.more .ret ⟨[(4, (.hole .bool))], []⟩ (.one (.exit 2) ⟨[(3, (.ptr 0 []))], [(.box T_8f0a (.hole T_8f0a))]⟩))
def B_replace_Conflict_L2 : Blk := frBlk 0 [10, 11, 12, 17, 18] K0_replace_Conflict_L2 TM_replace_Conflict_L2 UO_replace_Conflict_L2 (fun k => loopV (fun v => replace_Conflict_L2 k.1 k.2.1 v))
abbrev K0_replace_Conflict_L1 : List (Nat × Ty) := [(10, (.slice T_089d)), (11, (.int .i64))]
abbrev TM_replace_Conflict_L1 : Tm := ⟨[(3, (.ptr 0 [])), (12, (.hole (.int .i64)))], [(.box T_8f0a (.hole T_8f0a))]⟩
abbrev UO_replace_Conflict_L1 : Outs := (.more .ret ⟨[(4, (.hole .bool))], []⟩ (.one (.exit 0) ⟨[], []⟩))
def B_replace_Conflict_L1 : Blk := frBlk 0 [10, 11] K0_replace_Conflict_L1 TM_replace_Conflict_L1 UO_replace_Conflict_L1 (fun k => loopV (fun v => replace_Conflict_L1 k.1 k.2.1 v))
def gs_replace_Conflict : Nat → Option Blk := lk [(2, B_replace_Conflict_L2), (1, B_replace_Conflict_L1)]
theorem ct_replace_Conflict_L2 : CodeSound Tryd.prog ((cx_replace_Conflict).fr [10, 11]) (subL (subR (subR (subL (subL (subR (subR (subL (subL (subR (subL (subR (bodyOf Tryd.f11))))))))))))) (B_replace_Conflict_L2).D :=
  loop_printed (G := gs_replace_Conflict) (A := .leaf) (T0 := K0_replace_Conflict_L2) (T := TM_replace_Conflict_L2) (U := UO_replace_Conflict_L2) (step := (fun k v => replace_Conflict_L2 k.1 k.2.1 v)) ((cxo_replace_Conflict).fr [10, 11]) follows (by kernel_rfl) (by kernel_rfl) (CutsOk.leaf _) (by intro k v; kernel_rfl)
theorem ct_replace_Conflict_L1 : CodeSound Tryd.prog (cx_replace_Conflict) (subL (subR (subL (subR (bodyOf Tryd.f11))))) (B_replace_Conflict_L1).D :=
  loop_printed (G := gs_replace_Conflict) (A := (.two .leaf (.two .leaf (.two (.two (.two .leaf (.two .leaf (.two (.cut 2) .leaf))) .leaf) .leaf)))) (T0 := K0_replace_Conflict_L1) (T := TM_replace_Conflict_L1) (U := UO_replace_Conflict_L1) (step := (fun k v => replace_Conflict_L1 k.1 k.2.1 v)) (cxo_replace_Conflict) follows (by kernel_rfl) (by kernel_rfl) (CutsOk.two (CutsOk.leaf _) (CutsOk.two (CutsOk.leaf _) (CutsOk.two (CutsOk.two (CutsOk.two (CutsOk.leaf _) (CutsOk.two (CutsOk.leaf _) (CutsOk.two (CutsOk.cut (g := B_replace_Conflict_L2) (by kernel_rfl) (ct_replace_Conflict_L2)) (CutsOk.leaf _)))) (CutsOk.leaf _)) (CutsOk.leaf _)))) (by intro k v; kernel_rfl)
theorem sd_replace_Conflict : FnSound Tryd.prog gl 11 sg_replace_Conflict :=
  fn_printed (G := gs_replace_Conflict) (A := (.two .leaf (.two (.two .leaf (.two (.cut 1) .leaf)) .leaf))) (cxo_replace_Conflict) follows Tryd.func11 (by kernel_rfl) (by kernel_rfl) (by kernel_rfl) (by kernel_rfl) (by kernel_rfl) (CutsOk.two (CutsOk.leaf _) (CutsOk.two (CutsOk.two (CutsOk.leaf _) (CutsOk.two (CutsOk.cut (g := B_replace_Conflict_L1) (by kernel_rfl) (ct_replace_Conflict_L1)) (CutsOk.leaf _))) (CutsOk.leaf _))) (by intro v; kernel_rfl)
def sg_replace_amount : Sig := mkSig [(.hole (.int .i64))] [] [(.hole .bool)] [] (fun p => replace_amount p.1.1)
theorem fk_replace_amount : FnOk Tryd.prog 52 := ⟨Tryd.f52, Tryd.func52, by kernel_rfl, by kernel_rfl⟩
def cx_replace_amount : Cx := ⟨tys, lk [], 9, 0, [], gl, []⟩
theorem cxo_replace_amount : CxOk Tryd.prog (cx_replace_amount) := ⟨tys_ok, FnsAll.nil⟩
def gs_replace_amount : Nat → Option Blk := lk []
theorem sd_replace_amount : FnSound Tryd.prog gl 52 sg_replace_amount :=
  fn_printed (G := gs_replace_amount) (A := .leaf) (cxo_replace_amount) follows Tryd.func52 (by kernel_rfl) (by kernel_rfl) (by kernel_rfl) (by kernel_rfl) (by kernel_rfl) (CutsOk.leaf _) (by intro v; kernel_rfl)
def sg_replace_Accept_1 : Sig := mkSig [(.hole T_94d8)] [] [(.hole .bool)] [] (fun p => replace_Accept_1 p.1.1)
theorem fk_replace_Accept_1 : FnOk Tryd.prog 54 := ⟨Tryd.f54, Tryd.func54, by kernel_rfl, by kernel_rfl⟩
def cx_replace_Accept_1 : Cx := ⟨tys, lk [(52 + 100000 * 0, sg_replace_amount)], 7, 0, [], gl, []⟩
theorem cxo_replace_Accept_1 : CxOk Tryd.prog (cx_replace_Accept_1) := ⟨tys_ok, FnsAll.cons 0 rfl fk_replace_amount sd_replace_amount (FnsAll.nil)⟩
def gs_replace_Accept_1 : Nat → Option Blk := lk []
theorem sd_replace_Accept_1 : FnSound Tryd.prog gl 54 sg_replace_Accept_1 :=
  fn_printed (G := gs_replace_Accept_1) (A := .leaf) (cxo_replace_Accept_1) follows Tryd.func54 (by kernel_rfl) (by kernel_rfl) (by kernel_rfl) (by kernel_rfl) (by kernel_rfl) (CutsOk.leaf _) (by intro v; kernel_rfl)
def sg_replace_Accept_2 : Sig := mkSig [(.hole T_94d8), (.ptr 0 [])] [(.box T_8f0a (.hole T_8f0a))] [(.hole .bool)] [(.box T_8f0a (.hole T_8f0a))] (fun p => replace_Accept_2 p.1.1 p.2.1)
theorem fk_replace_Accept_2 : FnOk Tryd.prog 55 := ⟨Tryd.f55, Tryd.func55, by kernel_rfl, by kernel_rfl⟩
def cx_replace_Accept_2 : Cx := ⟨tys, lk [(11 + 100000 * 0, sg_replace_Conflict)], 9, 1, [], gl, []⟩
theorem cxo_replace_Accept_2 : CxOk Tryd.prog (cx_replace_Accept_2) := ⟨tys_ok, FnsAll.cons 0 rfl fk_replace_Conflict sd_replace_Conflict (FnsAll.nil)⟩
def gs_replace_Accept_2 : Nat → Option Blk := lk []
theorem sd_replace_Accept_2 : FnSound Tryd.prog gl 55 sg_replace_Accept_2 :=
  fn_printed (G := gs_replace_Accept_2) (A := .leaf) (cxo_replace_Accept_2) follows Tryd.func55 (by kernel_rfl) (by kernel_rfl) (by kernel_rfl) (by kernel_rfl) (by kernel_rfl) (CutsOk.leaf _) (by intro v; kernel_rfl)
def sg_replace_Accept_4 : Sig := mkSig [(.hole T_089d), (.ptr 0 [])] [(.box (.arr 32 (.int .u8)) (.hole (.arr 32 (.int .u8))))] [(.hole .bool)] [(.box (.arr 32 (.int .u8)) (.hole (.arr 32 (.int .u8))))] (fun p => replace_Accept_4 p.1.1 p.2.1)
theorem fk_replace_Accept_4 : FnOk Tryd.prog 57 := ⟨Tryd.f57, Tryd.func57, by kernel_rfl, by kernel_rfl⟩
def cx_replace_Accept_4 : Cx := ⟨tys, lk [], 9, 1, [], gl, []⟩
theorem cxo_replace_Accept_4 : CxOk Tryd.prog (cx_replace_Accept_4) := ⟨tys_ok, FnsAll.nil⟩
def gs_replace_Accept_4 : Nat → Option Blk := lk []
theorem sd_replace_Accept_4 : FnSound Tryd.prog gl 57 sg_replace_Accept_4 :=
  fn_printed (G := gs_replace_Accept_4) (A := .leaf) (cxo_replace_Accept_4) follows Tryd.func57 (by kernel_rfl) (by kernel_rfl) (by kernel_rfl) (by kernel_rfl) (by kernel_rfl) (CutsOk.leaf _) (by intro v; kernel_rfl)
def sg_replace_low : Sig := mkSig [(.hole (.slice T_94d8)), (.hole T_8f0a), (.hole (.int .i64))] [] [(.hole .bool)] [] (fun p => replace_low p.1.1 p.1.2.1 p.1.2.2.1)
theorem fk_replace_low : FnOk Tryd.prog 58 := ⟨Tryd.f58, Tryd.func58, by kernel_rfl, by kernel_rfl⟩
def cx_replace_low : Cx := ⟨tys, lk [(41 + 100000 * 0, sg_build_Fee), (67 + 100000 * 0, sg_fees_Rate), (40 + 100000 * 0, sg_tx_Weight)], 44, 0, [], gl, []⟩
theorem cxo_replace_low : CxOk Tryd.prog (cx_replace_low) := ⟨tys_ok, FnsAll.cons 0 rfl fk_build_Fee sd_build_Fee (FnsAll.cons 0 rfl fk_fees_Rate sd_fees_Rate (FnsAll.cons 0 rfl fk_tx_Weight sd_tx_Weight (FnsAll.nil)))⟩
abbrev K0_replace_low_L1 : List (Nat × Ty) := [(2, (.int .i64)), (7, (.int .i64)), (17, (.slice T_94d8)), (18, (.int .i64))]
abbrev TM_replace_low_L1 : Tm := ⟨[(8, (.hole (.int .i64))), (19, (.hole (.int .i64)))], []⟩
abbrev UO_replace_low_L1 : Outs := (.more .ret ⟨[(6, (.hole .bool))], []⟩ (.one (.exit 0) ⟨[(8, (.hole (.int .i64)))], []⟩))
def B_replace_low_L1 : Blk := frBlk 0 [2, 7, 17, 18] K0_replace_low_L1 TM_replace_low_L1 UO_replace_low_L1 (fun k => loopV (fun v => replace_low_L1 k.1 k.2.1 k.2.2.1 k.2.2.2.1 v))
def gs_replace_low : Nat → Option Blk := lk [(1, B_replace_low_L1)]
theorem ct_replace_low_L1 : CodeSound Tryd.prog (cx_replace_low) (subL (subR (subL (subR (subR (subR (bodyOf Tryd.f58))))))) (B_replace_low_L1).D :=
  loop_printed (G := gs_replace_low) (A := .leaf) (T0 := K0_replace_low_L1) (T := TM_replace_low_L1) (U := UO_replace_low_L1) (step := (fun k v => replace_low_L1 k.1 k.2.1 k.2.2.1 k.2.2.2.1 v)) (cxo_replace_low) follows (by kernel_rfl) (by kernel_rfl) (CutsOk.leaf _) (by intro k v; kernel_rfl)
theorem sd_replace_low : FnSound Tryd.prog gl 58 sg_replace_low :=
  fn_printed (G := gs_replace_low) (A := (.two .leaf (.two .leaf (.two .leaf (.two (.two .leaf (.two (.cut 1) .leaf)) .leaf))))) (cxo_replace_low) follows Tryd.func58 (by kernel_rfl) (by kernel_rfl) (by kernel_rfl) (by kernel_rfl) (by kernel_rfl) (CutsOk.two (CutsOk.leaf _) (CutsOk.two (CutsOk.leaf _) (CutsOk.two (CutsOk.leaf _) (CutsOk.two (CutsOk.two (CutsOk.leaf _) (CutsOk.two (CutsOk.cut (g := B_replace_low_L1) (by kernel_rfl) (ct_replace_low_L1)) (CutsOk.leaf _))) (CutsOk.leaf _))))) (by intro v; kernel_rfl)
end Go.PE.YtmmipabgoikibaaDoor
end
end

section
set_option maxRecDepth 100000
set_option linter.unusedVariables false
noncomputable section
namespace Go.PE.YtmmipabgoikibaaDoor
open Go.PE Go.Proofs

def sg_slices_IndexFunc_api_Input_api_Input : Sig := mkSig [(.hole (.slice T_089d)), (.fn 29 .nnil)] [] [(.hole (.int .i64))] [] (fun p => slices_IndexFunc_api_Input_api_Input p.1.1)
theorem fk_slices_IndexFunc_api_Input_api_Input : FnOk Tryd.prog 59 := ⟨Tryd.f59, Tryd.func59, by kernel_rfl, by kernel_rfl⟩
def cx_slices_IndexFunc_api_Input_api_Input : Cx := ⟨tys, lk [(29 + 100000 * 0, sg_replace_Signals_1)], 19, 0, [], gl, []⟩
theorem cxo_slices_IndexFunc_api_Input_api_Input : CxOk Tryd.prog (cx_slices_IndexFunc_api_Input_api_Input) := ⟨tys_ok, FnsAll.cons 0 rfl fk_replace_Signals_1 sd_replace_Signals_1 (FnsAll.nil)⟩
abbrev K0_slices_IndexFunc_api_Input_api_Input_L1 : List (Nat × Ty) := [(0, (.slice T_089d)), (7, (.int .i64))]
abbrev TM_slices_IndexFunc_api_Input_api_Input_L1 : Tm := ⟨[(1, (.fn 29 .nnil)), (8, (.hole (.int .i64)))], []⟩
abbrev UO_slices_IndexFunc_api_Input_api_Input_L1 : Outs := (.more .ret ⟨[(4, (.hole (.int .i64)))], []⟩ (.one (.exit 0) ⟨[], []⟩))
def B_slices_IndexFunc_api_Input_api_Input_L1 : Blk := frBlk 0 [0, 1, 7] K0_slices_IndexFunc_api_Input_api_Input_L1 TM_slices_IndexFunc_api_Input_api_Input_L1 UO_slices_IndexFunc_api_Input_api_Input_L1 (fun k => loopV (fun v => slices_IndexFunc_api_Input_api_Input_L1 k.1 k.2.1 v))
def gs_slices_IndexFunc_api_Input_api_Input : Nat → Option Blk := lk [(1, B_slices_IndexFunc_api_Input_api_Input_L1)]
theorem ct_slices_IndexFunc_api_Input_api_Input_L1 : CodeSound Tryd.prog (cx_slices_IndexFunc_api_Input_api_Input) (subL (subR (subL (subR (bodyOf Tryd.f59))))) (B_slices_IndexFunc_api_Input_api_Input_L1).D :=
  loop_printed (G := gs_slices_IndexFunc_api_Input_api_Input) (A := .leaf) (T0 := K0_slices_IndexFunc_api_Input_api_Input_L1) (T := TM_slices_IndexFunc_api_Input_api_Input_L1) (U := UO_slices_IndexFunc_api_Input_api_Input_L1) (step := (fun k v => slices_IndexFunc_api_Input_api_Input_L1 k.1 k.2.1 v)) (cxo_slices_IndexFunc_api_Input_api_Input) follows (by kernel_rfl) (by kernel_rfl) (CutsOk.leaf _) (by intro k v; kernel_rfl)
theorem sd_slices_IndexFunc_api_Input_api_Input : FnSound Tryd.prog gl 59 sg_slices_IndexFunc_api_Input_api_Input :=
  fn_printed (G := gs_slices_IndexFunc_api_Input_api_Input) (A := (.two .leaf (.two (.two .leaf (.two (.cut 1) .leaf)) .leaf))) (cxo_slices_IndexFunc_api_Input_api_Input) follows Tryd.func59 (by kernel_rfl) (by kernel_rfl) (by kernel_rfl) (by kernel_rfl) (by kernel_rfl) (CutsOk.two (CutsOk.leaf _) (CutsOk.two (CutsOk.two (CutsOk.leaf _) (CutsOk.two (CutsOk.cut (g := B_slices_IndexFunc_api_Input_api_Input_L1) (by kernel_rfl) (ct_slices_IndexFunc_api_Input_api_Input_L1)) (CutsOk.leaf _))) (CutsOk.leaf _))) (by intro v; kernel_rfl)
def sg_slices_ContainsFunc_api_Input_api_Input : Sig := mkSig [(.hole (.slice T_089d)), (.fn 29 .nnil)] [] [(.hole .bool)] [] (fun p => slices_ContainsFunc_api_Input_api_Input p.1.1)
theorem fk_slices_ContainsFunc_api_Input_api_Input : FnOk Tryd.prog 28 := ⟨Tryd.f28, Tryd.func28, by kernel_rfl, by kernel_rfl⟩
def cx_slices_ContainsFunc_api_Input_api_Input : Cx := ⟨tys, lk [(59 + 100000 * 0, sg_slices_IndexFunc_api_Input_api_Input)], 9, 0, [], gl, []⟩
theorem cxo_slices_ContainsFunc_api_Input_api_Input : CxOk Tryd.prog (cx_slices_ContainsFunc_api_Input_api_Input) := ⟨tys_ok, FnsAll.cons 0 rfl fk_slices_IndexFunc_api_Input_api_Input sd_slices_IndexFunc_api_Input_api_Input (FnsAll.nil)⟩
def gs_slices_ContainsFunc_api_Input_api_Input : Nat → Option Blk := lk []
theorem sd_slices_ContainsFunc_api_Input_api_Input : FnSound Tryd.prog gl 28 sg_slices_ContainsFunc_api_Input_api_Input :=
  fn_printed (G := gs_slices_ContainsFunc_api_Input_api_Input) (A := .leaf) (cxo_slices_ContainsFunc_api_Input_api_Input) follows Tryd.func28 (by kernel_rfl) (by kernel_rfl) (by kernel_rfl) (by kernel_rfl) (by kernel_rfl) (CutsOk.leaf _) (by intro v; kernel_rfl)
def sg_replace_Signals : Sig := mkSig [(.hole T_8f0a)] [] [(.hole .bool)] [] (fun p => replace_Signals p.1.1)
theorem fk_replace_Signals : FnOk Tryd.prog 9 := ⟨Tryd.f9, Tryd.func9, by kernel_rfl, by kernel_rfl⟩
def cx_replace_Signals : Cx := ⟨tys, lk [(28 + 100000 * 0, sg_slices_ContainsFunc_api_Input_api_Input)], 6, 0, [], gl, []⟩
theorem cxo_replace_Signals : CxOk Tryd.prog (cx_replace_Signals) := ⟨tys_ok, FnsAll.cons 0 rfl fk_slices_ContainsFunc_api_Input_api_Input sd_slices_ContainsFunc_api_Input_api_Input (FnsAll.nil)⟩
def gs_replace_Signals : Nat → Option Blk := lk []
theorem sd_replace_Signals : FnSound Tryd.prog gl 9 sg_replace_Signals :=
  fn_printed (G := gs_replace_Signals) (A := .leaf) (cxo_replace_Signals) follows Tryd.func9 (by kernel_rfl) (by kernel_rfl) (by kernel_rfl) (by kernel_rfl) (by kernel_rfl) (CutsOk.leaf _) (by intro v; kernel_rfl)
def sg_slices_IndexFunc_api_Entry_api_Entry : Sig := mkSig [(.hole (.slice T_94d8)), (.fn 54 .nnil)] [] [(.hole (.int .i64))] [] (fun p => slices_IndexFunc_api_Entry_api_Entry p.1.1)
theorem fk_slices_IndexFunc_api_Entry_api_Entry : FnOk Tryd.prog 82 := ⟨Tryd.f82, Tryd.func82, by kernel_rfl, by kernel_rfl⟩
def cx_slices_IndexFunc_api_Entry_api_Entry : Cx := ⟨tys, lk [(54 + 100000 * 0, sg_replace_Accept_1)], 19, 0, [], gl, []⟩
theorem cxo_slices_IndexFunc_api_Entry_api_Entry : CxOk Tryd.prog (cx_slices_IndexFunc_api_Entry_api_Entry) := ⟨tys_ok, FnsAll.cons 0 rfl fk_replace_Accept_1 sd_replace_Accept_1 (FnsAll.nil)⟩
abbrev K0_slices_IndexFunc_api_Entry_api_Entry_L1 : List (Nat × Ty) := [(0, (.slice T_94d8)), (7, (.int .i64))]
abbrev TM_slices_IndexFunc_api_Entry_api_Entry_L1 : Tm := ⟨[(1, (.fn 54 .nnil)), (8, (.hole (.int .i64)))], []⟩
abbrev UO_slices_IndexFunc_api_Entry_api_Entry_L1 : Outs := (.more .ret ⟨[(4, (.hole (.int .i64)))], []⟩ (.one (.exit 0) ⟨[], []⟩))
def B_slices_IndexFunc_api_Entry_api_Entry_L1 : Blk := frBlk 0 [0, 1, 7] K0_slices_IndexFunc_api_Entry_api_Entry_L1 TM_slices_IndexFunc_api_Entry_api_Entry_L1 UO_slices_IndexFunc_api_Entry_api_Entry_L1 (fun k => loopV (fun v => slices_IndexFunc_api_Entry_api_Entry_L1 k.1 k.2.1 v))
def gs_slices_IndexFunc_api_Entry_api_Entry : Nat → Option Blk := lk [(1, B_slices_IndexFunc_api_Entry_api_Entry_L1)]
theorem ct_slices_IndexFunc_api_Entry_api_Entry_L1 : CodeSound Tryd.prog (cx_slices_IndexFunc_api_Entry_api_Entry) (subL (subR (subL (subR (bodyOf Tryd.f82))))) (B_slices_IndexFunc_api_Entry_api_Entry_L1).D :=
  loop_printed (G := gs_slices_IndexFunc_api_Entry_api_Entry) (A := .leaf) (T0 := K0_slices_IndexFunc_api_Entry_api_Entry_L1) (T := TM_slices_IndexFunc_api_Entry_api_Entry_L1) (U := UO_slices_IndexFunc_api_Entry_api_Entry_L1) (step := (fun k v => slices_IndexFunc_api_Entry_api_Entry_L1 k.1 k.2.1 v)) (cxo_slices_IndexFunc_api_Entry_api_Entry) follows (by kernel_rfl) (by kernel_rfl) (CutsOk.leaf _) (by intro k v; kernel_rfl)
theorem sd_slices_IndexFunc_api_Entry_api_Entry : FnSound Tryd.prog gl 82 sg_slices_IndexFunc_api_Entry_api_Entry :=
  fn_printed (G := gs_slices_IndexFunc_api_Entry_api_Entry) (A := (.two .leaf (.two (.two .leaf (.two (.cut 1) .leaf)) .leaf))) (cxo_slices_IndexFunc_api_Entry_api_Entry) follows Tryd.func82 (by kernel_rfl) (by kernel_rfl) (by kernel_rfl) (by kernel_rfl) (by kernel_rfl) (CutsOk.two (CutsOk.leaf _) (CutsOk.two (CutsOk.two (CutsOk.leaf _) (CutsOk.two (CutsOk.cut (g := B_slices_IndexFunc_api_Entry_api_Entry_L1) (by kernel_rfl) (ct_slices_IndexFunc_api_Entry_api_Entry_L1)) (CutsOk.leaf _))) (CutsOk.leaf _))) (by intro v; kernel_rfl)
def sg_slices_ContainsFunc_api_Entry_api_Entry : Sig := mkSig [(.hole (.slice T_94d8)), (.fn 54 .nnil)] [] [(.hole .bool)] [] (fun p => slices_ContainsFunc_api_Entry_api_Entry p.1.1)
theorem fk_slices_ContainsFunc_api_Entry_api_Entry : FnOk Tryd.prog 53 := ⟨Tryd.f53, Tryd.func53, by kernel_rfl, by kernel_rfl⟩
def cx_slices_ContainsFunc_api_Entry_api_Entry : Cx := ⟨tys, lk [(82 + 100000 * 0, sg_slices_IndexFunc_api_Entry_api_Entry)], 9, 0, [], gl, []⟩
theorem cxo_slices_ContainsFunc_api_Entry_api_Entry : CxOk Tryd.prog (cx_slices_ContainsFunc_api_Entry_api_Entry) := ⟨tys_ok, FnsAll.cons 0 rfl fk_slices_IndexFunc_api_Entry_api_Entry sd_slices_IndexFunc_api_Entry_api_Entry (FnsAll.nil)⟩
def gs_slices_ContainsFunc_api_Entry_api_Entry : Nat → Option Blk := lk []
theorem sd_slices_ContainsFunc_api_Entry_api_Entry : FnSound Tryd.prog gl 53 sg_slices_ContainsFunc_api_Entry_api_Entry :=
  fn_printed (G := gs_slices_ContainsFunc_api_Entry_api_Entry) (A := .leaf) (cxo_slices_ContainsFunc_api_Entry_api_Entry) follows Tryd.func53 (by kernel_rfl) (by kernel_rfl) (by kernel_rfl) (by kernel_rfl) (by kernel_rfl) (CutsOk.leaf _) (by intro v; kernel_rfl)
def sg_slices_IndexFunc_api_Entry_api_Entry_a : Sig := mkSig [(.hole (.slice T_94d8)), (.fn 55 (.ncons (.ptr 0 []) .nnil))] [(.box T_8f0a (.hole T_8f0a))] [(.hole (.int .i64))] [(.box T_8f0a (.hole T_8f0a))] (fun p => slices_IndexFunc_api_Entry_api_Entry_a p.1.1 p.2.1)
theorem fk_slices_IndexFunc_api_Entry_api_Entry_a : FnOk Tryd.prog 82 := ⟨Tryd.f82, Tryd.func82, by kernel_rfl, by kernel_rfl⟩
def cx_slices_IndexFunc_api_Entry_api_Entry_a : Cx := ⟨tys, lk [(55 + 100000 * 0, sg_replace_Accept_2)], 19, 1, [], gl, []⟩
theorem cxo_slices_IndexFunc_api_Entry_api_Entry_a : CxOk Tryd.prog (cx_slices_IndexFunc_api_Entry_api_Entry_a) := ⟨tys_ok, FnsAll.cons 0 rfl fk_replace_Accept_2 sd_replace_Accept_2 (FnsAll.nil)⟩
abbrev K0_slices_IndexFunc_api_Entry_api_Entry_a_L1 : List (Nat × Ty) := [(0, (.slice T_94d8)), (7, (.int .i64))]
abbrev TM_slices_IndexFunc_api_Entry_api_Entry_a_L1 : Tm := ⟨[(1, (.fn 55 (.ncons (.ptr 0 []) .nnil))), (8, (.hole (.int .i64)))], [(.box T_8f0a (.hole T_8f0a))]⟩
abbrev UO_slices_IndexFunc_api_Entry_api_Entry_a_L1 : Outs := (.more .ret ⟨[(4, (.hole (.int .i64)))], [(.box T_8f0a (.hole T_8f0a))]⟩ (.one (.exit 0) ⟨[], [(.box T_8f0a (.hole T_8f0a))]⟩))
def B_slices_IndexFunc_api_Entry_api_Entry_a_L1 : Blk := frBlk 1 [0, 7] K0_slices_IndexFunc_api_Entry_api_Entry_a_L1 TM_slices_IndexFunc_api_Entry_api_Entry_a_L1 UO_slices_IndexFunc_api_Entry_api_Entry_a_L1 (fun k => loopV (fun v => slices_IndexFunc_api_Entry_api_Entry_a_L1 k.1 k.2.1 v))
def gs_slices_IndexFunc_api_Entry_api_Entry_a : Nat → Option Blk := lk [(1, B_slices_IndexFunc_api_Entry_api_Entry_a_L1)]
theorem ct_slices_IndexFunc_api_Entry_api_Entry_a_L1 : CodeSound Tryd.prog (cx_slices_IndexFunc_api_Entry_api_Entry_a) (subL (subR (subL (subR (bodyOf Tryd.f82))))) (B_slices_IndexFunc_api_Entry_api_Entry_a_L1).D :=
  loop_printed (G := gs_slices_IndexFunc_api_Entry_api_Entry_a) (A := .leaf) (T0 := K0_slices_IndexFunc_api_Entry_api_Entry_a_L1) (T := TM_slices_IndexFunc_api_Entry_api_Entry_a_L1) (U := UO_slices_IndexFunc_api_Entry_api_Entry_a_L1) (step := (fun k v => slices_IndexFunc_api_Entry_api_Entry_a_L1 k.1 k.2.1 v)) (cxo_slices_IndexFunc_api_Entry_api_Entry_a) follows (by kernel_rfl) (by kernel_rfl) (CutsOk.leaf _) (by intro k v; kernel_rfl)
theorem sd_slices_IndexFunc_api_Entry_api_Entry_a : FnSound Tryd.prog gl 82 sg_slices_IndexFunc_api_Entry_api_Entry_a :=
  fn_printed (G := gs_slices_IndexFunc_api_Entry_api_Entry_a) (A := (.two .leaf (.two (.two .leaf (.two (.cut 1) .leaf)) .leaf))) (cxo_slices_IndexFunc_api_Entry_api_Entry_a) follows Tryd.func82 (by kernel_rfl) (by kernel_rfl) (by kernel_rfl) (by kernel_rfl) (by kernel_rfl) (CutsOk.two (CutsOk.leaf _) (CutsOk.two (CutsOk.two (CutsOk.leaf _) (CutsOk.two (CutsOk.cut (g := B_slices_IndexFunc_api_Entry_api_Entry_a_L1) (by kernel_rfl) (ct_slices_IndexFunc_api_Entry_api_Entry_a_L1)) (CutsOk.leaf _))) (CutsOk.leaf _))) (by intro v; kernel_rfl)
def sg_slices_ContainsFunc_api_Entry_api_Entry_a : Sig := mkSig [(.hole (.slice T_94d8)), (.fn 55 (.ncons (.ptr 0 []) .nnil))] [(.box T_8f0a (.hole T_8f0a))] [(.hole .bool)] [(.box T_8f0a (.hole T_8f0a))] (fun p => slices_ContainsFunc_api_Entry_api_Entry_a p.1.1 p.2.1)
theorem fk_slices_ContainsFunc_api_Entry_api_Entry_a : FnOk Tryd.prog 53 := ⟨Tryd.f53, Tryd.func53, by kernel_rfl, by kernel_rfl⟩
def cx_slices_ContainsFunc_api_Entry_api_Entry_a : Cx := ⟨tys, lk [(82 + 100000 * 0, sg_slices_IndexFunc_api_Entry_api_Entry_a)], 9, 1, [], gl, []⟩
theorem cxo_slices_ContainsFunc_api_Entry_api_Entry_a : CxOk Tryd.prog (cx_slices_ContainsFunc_api_Entry_api_Entry_a) := ⟨tys_ok, FnsAll.cons 0 rfl fk_slices_IndexFunc_api_Entry_api_Entry_a sd_slices_IndexFunc_api_Entry_api_Entry_a (FnsAll.nil)⟩
def gs_slices_ContainsFunc_api_Entry_api_Entry_a : Nat → Option Blk := lk []
theorem sd_slices_ContainsFunc_api_Entry_api_Entry_a : FnSound Tryd.prog gl 53 sg_slices_ContainsFunc_api_Entry_api_Entry_a :=
  fn_printed (G := gs_slices_ContainsFunc_api_Entry_api_Entry_a) (A := .leaf) (cxo_slices_ContainsFunc_api_Entry_api_Entry_a) follows Tryd.func53 (by kernel_rfl) (by kernel_rfl) (by kernel_rfl) (by kernel_rfl) (by kernel_rfl) (CutsOk.leaf _) (by intro v; kernel_rfl)
def sg_replace_Accept_3 : Sig := mkSig [(.hole T_94d8)] [] [(.hole .bool)] [] (fun p => replace_Accept_3 p.1.1)
theorem fk_replace_Accept_3 : FnOk Tryd.prog 56 := ⟨Tryd.f56, Tryd.func56, by kernel_rfl, by kernel_rfl⟩
def cx_replace_Accept_3 : Cx := ⟨tys, lk [(9 + 100000 * 0, sg_replace_Signals)], 7, 0, [], gl, []⟩
theorem cxo_replace_Accept_3 : CxOk Tryd.prog (cx_replace_Accept_3) := ⟨tys_ok, FnsAll.cons 0 rfl fk_replace_Signals sd_replace_Signals (FnsAll.nil)⟩
def gs_replace_Accept_3 : Nat → Option Blk := lk []
theorem sd_replace_Accept_3 : FnSound Tryd.prog gl 56 sg_replace_Accept_3 :=
  fn_printed (G := gs_replace_Accept_3) (A := .leaf) (cxo_replace_Accept_3) follows Tryd.func56 (by kernel_rfl) (by kernel_rfl) (by kernel_rfl) (by kernel_rfl) (by kernel_rfl) (CutsOk.leaf _) (by intro v; kernel_rfl)
def sg_slices_IndexFunc_api_Entry_api_Entry_b : Sig := mkSig [(.hole (.slice T_94d8)), (.fn 56 .nnil)] [] [(.hole (.int .i64))] [] (fun p => slices_IndexFunc_api_Entry_api_Entry_b p.1.1)
theorem fk_slices_IndexFunc_api_Entry_api_Entry_b : FnOk Tryd.prog 82 := ⟨Tryd.f82, Tryd.func82, by kernel_rfl, by kernel_rfl⟩
def cx_slices_IndexFunc_api_Entry_api_Entry_b : Cx := ⟨tys, lk [(56 + 100000 * 0, sg_replace_Accept_3)], 19, 0, [], gl, []⟩
theorem cxo_slices_IndexFunc_api_Entry_api_Entry_b : CxOk Tryd.prog (cx_slices_IndexFunc_api_Entry_api_Entry_b) := ⟨tys_ok, FnsAll.cons 0 rfl fk_replace_Accept_3 sd_replace_Accept_3 (FnsAll.nil)⟩
abbrev K0_slices_IndexFunc_api_Entry_api_Entry_b_L1 : List (Nat × Ty) := [(0, (.slice T_94d8)), (7, (.int .i64))]
abbrev TM_slices_IndexFunc_api_Entry_api_Entry_b_L1 : Tm := ⟨[(1, (.fn 56 .nnil)), (8, (.hole (.int .i64)))], []⟩
abbrev UO_slices_IndexFunc_api_Entry_api_Entry_b_L1 : Outs := (.more .ret ⟨[(4, (.hole (.int .i64)))], []⟩ (.one (.exit 0) ⟨[], []⟩))
def B_slices_IndexFunc_api_Entry_api_Entry_b_L1 : Blk := frBlk 0 [0, 1, 7] K0_slices_IndexFunc_api_Entry_api_Entry_b_L1 TM_slices_IndexFunc_api_Entry_api_Entry_b_L1 UO_slices_IndexFunc_api_Entry_api_Entry_b_L1 (fun k => loopV (fun v => slices_IndexFunc_api_Entry_api_Entry_b_L1 k.1 k.2.1 v))
def gs_slices_IndexFunc_api_Entry_api_Entry_b : Nat → Option Blk := lk [(1, B_slices_IndexFunc_api_Entry_api_Entry_b_L1)]
theorem ct_slices_IndexFunc_api_Entry_api_Entry_b_L1 : CodeSound Tryd.prog (cx_slices_IndexFunc_api_Entry_api_Entry_b) (subL (subR (subL (subR (bodyOf Tryd.f82))))) (B_slices_IndexFunc_api_Entry_api_Entry_b_L1).D :=
  loop_printed (G := gs_slices_IndexFunc_api_Entry_api_Entry_b) (A := .leaf) (T0 := K0_slices_IndexFunc_api_Entry_api_Entry_b_L1) (T := TM_slices_IndexFunc_api_Entry_api_Entry_b_L1) (U := UO_slices_IndexFunc_api_Entry_api_Entry_b_L1) (step := (fun k v => slices_IndexFunc_api_Entry_api_Entry_b_L1 k.1 k.2.1 v)) (cxo_slices_IndexFunc_api_Entry_api_Entry_b) follows (by kernel_rfl) (by kernel_rfl) (CutsOk.leaf _) (by intro k v; kernel_rfl)
theorem sd_slices_IndexFunc_api_Entry_api_Entry_b : FnSound Tryd.prog gl 82 sg_slices_IndexFunc_api_Entry_api_Entry_b :=
  fn_printed (G := gs_slices_IndexFunc_api_Entry_api_Entry_b) (A := (.two .leaf (.two (.two .leaf (.two (.cut 1) .leaf)) .leaf))) (cxo_slices_IndexFunc_api_Entry_api_Entry_b) follows Tryd.func82 (by kernel_rfl) (by kernel_rfl) (by kernel_rfl) (by kernel_rfl) (by kernel_rfl) (CutsOk.two (CutsOk.leaf _) (CutsOk.two (CutsOk.two (CutsOk.leaf _) (CutsOk.two (CutsOk.cut (g := B_slices_IndexFunc_api_Entry_api_Entry_b_L1) (by kernel_rfl) (ct_slices_IndexFunc_api_Entry_api_Entry_b_L1)) (CutsOk.leaf _))) (CutsOk.leaf _))) (by intro v; kernel_rfl)
def sg_slices_ContainsFunc_api_Entry_api_Entry_b : Sig := mkSig [(.hole (.slice T_94d8)), (.fn 56 .nnil)] [] [(.hole .bool)] [] (fun p => slices_ContainsFunc_api_Entry_api_Entry_b p.1.1)
theorem fk_slices_ContainsFunc_api_Entry_api_Entry_b : FnOk Tryd.prog 53 := ⟨Tryd.f53, Tryd.func53, by kernel_rfl, by kernel_rfl⟩
def cx_slices_ContainsFunc_api_Entry_api_Entry_b : Cx := ⟨tys, lk [(82 + 100000 * 0, sg_slices_IndexFunc_api_Entry_api_Entry_b)], 9, 0, [], gl, []⟩
theorem cxo_slices_ContainsFunc_api_Entry_api_Entry_b : CxOk Tryd.prog (cx_slices_ContainsFunc_api_Entry_api_Entry_b) := ⟨tys_ok, FnsAll.cons 0 rfl fk_slices_IndexFunc_api_Entry_api_Entry_b sd_slices_IndexFunc_api_Entry_api_Entry_b (FnsAll.nil)⟩
def gs_slices_ContainsFunc_api_Entry_api_Entry_b : Nat → Option Blk := lk []
theorem sd_slices_ContainsFunc_api_Entry_api_Entry_b : FnSound Tryd.prog gl 53 sg_slices_ContainsFunc_api_Entry_api_Entry_b :=
  fn_printed (G := gs_slices_ContainsFunc_api_Entry_api_Entry_b) (A := .leaf) (cxo_slices_ContainsFunc_api_Entry_api_Entry_b) follows Tryd.func53 (by kernel_rfl) (by kernel_rfl) (by kernel_rfl) (by kernel_rfl) (by kernel_rfl) (CutsOk.leaf _) (by intro v; kernel_rfl)
def sg_slices_IndexFunc_api_Input_api_Input_a : Sig := mkSig [(.hole (.slice T_089d)), (.fn 57 (.ncons (.ptr 0 []) .nnil))] [(.box (.arr 32 (.int .u8)) (.hole (.arr 32 (.int .u8))))] [(.hole (.int .i64))] [(.box (.arr 32 (.int .u8)) (.hole (.arr 32 (.int .u8))))] (fun p => slices_IndexFunc_api_Input_api_Input_a p.1.1 p.2.1)
theorem fk_slices_IndexFunc_api_Input_api_Input_a : FnOk Tryd.prog 59 := ⟨Tryd.f59, Tryd.func59, by kernel_rfl, by kernel_rfl⟩
def cx_slices_IndexFunc_api_Input_api_Input_a : Cx := ⟨tys, lk [(57 + 100000 * 0, sg_replace_Accept_4)], 19, 1, [], gl, []⟩
theorem cxo_slices_IndexFunc_api_Input_api_Input_a : CxOk Tryd.prog (cx_slices_IndexFunc_api_Input_api_Input_a) := ⟨tys_ok, FnsAll.cons 0 rfl fk_replace_Accept_4 sd_replace_Accept_4 (FnsAll.nil)⟩
abbrev K0_slices_IndexFunc_api_Input_api_Input_a_L1 : List (Nat × Ty) := [(0, (.slice T_089d)), (7, (.int .i64))]
abbrev TM_slices_IndexFunc_api_Input_api_Input_a_L1 : Tm := ⟨[(1, (.fn 57 (.ncons (.ptr 0 []) .nnil))), (8, (.hole (.int .i64)))], [(.box (.arr 32 (.int .u8)) (.hole (.arr 32 (.int .u8))))]⟩
abbrev UO_slices_IndexFunc_api_Input_api_Input_a_L1 : Outs := (.more .ret ⟨[(4, (.hole (.int .i64)))], [(.box (.arr 32 (.int .u8)) (.hole (.arr 32 (.int .u8))))]⟩ (.one (.exit 0) ⟨[], [(.box (.arr 32 (.int .u8)) (.hole (.arr 32 (.int .u8))))]⟩))
def B_slices_IndexFunc_api_Input_api_Input_a_L1 : Blk := frBlk 1 [0, 7] K0_slices_IndexFunc_api_Input_api_Input_a_L1 TM_slices_IndexFunc_api_Input_api_Input_a_L1 UO_slices_IndexFunc_api_Input_api_Input_a_L1 (fun k => loopV (fun v => slices_IndexFunc_api_Input_api_Input_a_L1 k.1 k.2.1 v))
def gs_slices_IndexFunc_api_Input_api_Input_a : Nat → Option Blk := lk [(1, B_slices_IndexFunc_api_Input_api_Input_a_L1)]
theorem ct_slices_IndexFunc_api_Input_api_Input_a_L1 : CodeSound Tryd.prog (cx_slices_IndexFunc_api_Input_api_Input_a) (subL (subR (subL (subR (bodyOf Tryd.f59))))) (B_slices_IndexFunc_api_Input_api_Input_a_L1).D :=
  loop_printed (G := gs_slices_IndexFunc_api_Input_api_Input_a) (A := .leaf) (T0 := K0_slices_IndexFunc_api_Input_api_Input_a_L1) (T := TM_slices_IndexFunc_api_Input_api_Input_a_L1) (U := UO_slices_IndexFunc_api_Input_api_Input_a_L1) (step := (fun k v => slices_IndexFunc_api_Input_api_Input_a_L1 k.1 k.2.1 v)) (cxo_slices_IndexFunc_api_Input_api_Input_a) follows (by kernel_rfl) (by kernel_rfl) (CutsOk.leaf _) (by intro k v; kernel_rfl)
theorem sd_slices_IndexFunc_api_Input_api_Input_a : FnSound Tryd.prog gl 59 sg_slices_IndexFunc_api_Input_api_Input_a :=
  fn_printed (G := gs_slices_IndexFunc_api_Input_api_Input_a) (A := (.two .leaf (.two (.two .leaf (.two (.cut 1) .leaf)) .leaf))) (cxo_slices_IndexFunc_api_Input_api_Input_a) follows Tryd.func59 (by kernel_rfl) (by kernel_rfl) (by kernel_rfl) (by kernel_rfl) (by kernel_rfl) (CutsOk.two (CutsOk.leaf _) (CutsOk.two (CutsOk.two (CutsOk.leaf _) (CutsOk.two (CutsOk.cut (g := B_slices_IndexFunc_api_Input_api_Input_a_L1) (by kernel_rfl) (ct_slices_IndexFunc_api_Input_api_Input_a_L1)) (CutsOk.leaf _))) (CutsOk.leaf _))) (by intro v; kernel_rfl)
def sg_slices_ContainsFunc_api_Input_api_Input_a : Sig := mkSig [(.hole (.slice T_089d)), (.fn 57 (.ncons (.ptr 0 []) .nnil))] [(.box (.arr 32 (.int .u8)) (.hole (.arr 32 (.int .u8))))] [(.hole .bool)] [(.box (.arr 32 (.int .u8)) (.hole (.arr 32 (.int .u8))))] (fun p => slices_ContainsFunc_api_Input_api_Input_a p.1.1 p.2.1)
theorem fk_slices_ContainsFunc_api_Input_api_Input_a : FnOk Tryd.prog 28 := ⟨Tryd.f28, Tryd.func28, by kernel_rfl, by kernel_rfl⟩
def cx_slices_ContainsFunc_api_Input_api_Input_a : Cx := ⟨tys, lk [(59 + 100000 * 0, sg_slices_IndexFunc_api_Input_api_Input_a)], 9, 1, [], gl, []⟩
theorem cxo_slices_ContainsFunc_api_Input_api_Input_a : CxOk Tryd.prog (cx_slices_ContainsFunc_api_Input_api_Input_a) := ⟨tys_ok, FnsAll.cons 0 rfl fk_slices_IndexFunc_api_Input_api_Input_a sd_slices_IndexFunc_api_Input_api_Input_a (FnsAll.nil)⟩
def gs_slices_ContainsFunc_api_Input_api_Input_a : Nat → Option Blk := lk []
theorem sd_slices_ContainsFunc_api_Input_api_Input_a : FnSound Tryd.prog gl 28 sg_slices_ContainsFunc_api_Input_api_Input_a :=
  fn_printed (G := gs_slices_ContainsFunc_api_Input_api_Input_a) (A := .leaf) (cxo_slices_ContainsFunc_api_Input_api_Input_a) follows Tryd.func28 (by kernel_rfl) (by kernel_rfl) (by kernel_rfl) (by kernel_rfl) (by kernel_rfl) (CutsOk.leaf _) (by intro v; kernel_rfl)
def sg_replace_Accept : Sig := mkSig [(.hole (.slice T_94d8)), (.hole T_8f0a), (.hole (.int .i64))] [] [(.hole (.int .i64))] [] (fun p => replace_Accept p.1.1 p.1.2.1 p.1.2.2.1)
theorem fk_replace_Accept : FnOk Tryd.prog 25 := ⟨Tryd.f25, Tryd.func25, by kernel_rfl, by kernel_rfl⟩
def cx_replace_Accept : Cx := ⟨tys, lk [(52 + 100000 * 0, sg_replace_amount), (58 + 100000 * 0, sg_replace_low), (53 + 100000 * 0, sg_slices_ContainsFunc_api_Entry_api_Entry), (53 + 100000 * 1, sg_slices_ContainsFunc_api_Entry_api_Entry_a), (53 + 100000 * 2, sg_slices_ContainsFunc_api_Entry_api_Entry_b), (28 + 100000 * 0, sg_slices_ContainsFunc_api_Input_api_Input_a), (50 + 100000 * 0, sg_tx_Check), (51 + 100000 * 0, sg_tx_Coinbase), (33 + 100000 * 0, sg_tx_ID)], 48, 0, [], gl, [(27, 1), (29, 2)]⟩
theorem cxo_replace_Accept : CxOk Tryd.prog (cx_replace_Accept) := ⟨tys_ok, FnsAll.cons 0 rfl fk_replace_amount sd_replace_amount (FnsAll.cons 0 rfl fk_replace_low sd_replace_low (FnsAll.cons 0 rfl fk_slices_ContainsFunc_api_Entry_api_Entry sd_slices_ContainsFunc_api_Entry_api_Entry (FnsAll.cons 1 rfl fk_slices_ContainsFunc_api_Entry_api_Entry_a sd_slices_ContainsFunc_api_Entry_api_Entry_a (FnsAll.cons 2 rfl fk_slices_ContainsFunc_api_Entry_api_Entry_b sd_slices_ContainsFunc_api_Entry_api_Entry_b (FnsAll.cons 0 rfl fk_slices_ContainsFunc_api_Input_api_Input_a sd_slices_ContainsFunc_api_Input_api_Input_a (FnsAll.cons 0 rfl fk_tx_Check sd_tx_Check (FnsAll.cons 0 rfl fk_tx_Coinbase sd_tx_Coinbase (FnsAll.cons 0 rfl fk_tx_ID sd_tx_ID (FnsAll.nil)))))))))⟩
abbrev K0_replace_Accept_L1 : List (Nat × Ty) := [(30, (.slice T_94d8)), (31, (.int .i64))]
abbrev TM_replace_Accept_L1 : Tm := ⟨[(4, (.ptr 0 [])), (32, (.hole (.int .i64)))], [(.box T_8f0a (.hole T_8f0a))]⟩
abbrev UO_replace_Accept_L1 : Outs := (.more .ret ⟨[(6, (.hole (.int .i64)))], []⟩ (.one (.exit 0) ⟨[(4, (.ptr 0 []))], [(.box T_8f0a (.hole T_8f0a))]⟩))
def B_replace_Accept_L1 : Blk := frBlk 0 [0, 2, 30, 31] K0_replace_Accept_L1 TM_replace_Accept_L1 UO_replace_Accept_L1 (fun k => loopV (fun v => replace_Accept_L1 k.1 k.2.1 v))
def gs_replace_Accept : Nat → Option Blk := lk [(1, B_replace_Accept_L1)]
theorem ct_replace_Accept_L1 : CodeSound Tryd.prog (cx_replace_Accept) (subL (subR (subL (subR (subR (subR (subR (subR (subR (bodyOf Tryd.f25)))))))))) (B_replace_Accept_L1).D :=
  loop_printed (G := gs_replace_Accept) (A := .leaf) (T0 := K0_replace_Accept_L1) (T := TM_replace_Accept_L1) (U := UO_replace_Accept_L1) (step := (fun k v => replace_Accept_L1 k.1 k.2.1 v)) (cxo_replace_Accept) follows (by kernel_rfl) (by kernel_rfl) (CutsOk.leaf _) (by intro k v; kernel_rfl)
theorem sd_replace_Accept : FnSound Tryd.prog gl 25 sg_replace_Accept :=
  fn_printed (G := gs_replace_Accept) (A := (.two .leaf (.two .leaf (.two .leaf (.two .leaf (.two .leaf (.two .leaf (.two (.two .leaf (.two (.cut 1) .leaf)) .leaf)))))))) (cxo_replace_Accept) follows Tryd.func25 (by kernel_rfl) (by kernel_rfl) (by kernel_rfl) (by kernel_rfl) (by kernel_rfl) (CutsOk.two (CutsOk.leaf _) (CutsOk.two (CutsOk.leaf _) (CutsOk.two (CutsOk.leaf _) (CutsOk.two (CutsOk.leaf _) (CutsOk.two (CutsOk.leaf _) (CutsOk.two (CutsOk.leaf _) (CutsOk.two (CutsOk.two (CutsOk.leaf _) (CutsOk.two (CutsOk.cut (g := B_replace_Accept_L1) (by kernel_rfl) (ct_replace_Accept_L1)) (CutsOk.leaf _))) (CutsOk.leaf _)))))))) (by intro v; kernel_rfl)
end Go.PE.YtmmipabgoikibaaDoor
end
end

section
set_option maxRecDepth 100000
set_option linter.unusedVariables false
noncomputable section
namespace Go.PE.YtmmipabgoikibaaDoor
open Go.PE Go.Proofs

def sg_made_Script : Sig := mkSig [(.hole (.int .u8))] [] [(.own 0)] [(.vec (.int .u8))] (fun p => made_Script p.1.1)
theorem fk_made_Script : FnOk Tryd.prog 19 := ⟨Tryd.f19, Tryd.func19, by kernel_rfl, by kernel_rfl⟩
def cx_made_Script : Cx := ⟨tys, lk [], 7, 0, [], gl, []⟩
theorem cxo_made_Script : CxOk Tryd.prog (cx_made_Script) := ⟨tys_ok, FnsAll.nil⟩
def gs_made_Script : Nat → Option Blk := lk []
theorem sd_made_Script : FnSound Tryd.prog gl 19 sg_made_Script :=
  fn_printed (G := gs_made_Script) (A := .leaf) (cxo_made_Script) follows Tryd.func19 (by kernel_rfl) (by kernel_rfl) (by kernel_rfl) (by kernel_rfl) (by kernel_rfl) (CutsOk.leaf _) (by intro v; kernel_rfl)
end Go.PE.YtmmipabgoikibaaDoor
end
end

section
set_option maxRecDepth 100000
set_option linter.unusedVariables false
noncomputable section
namespace Go.PE.YtmmipabgoikibaaDoor
open Go.PE Go.Proofs

def sg_mill_New : Sig := mkSig [(.hole (.slice (.int .i64)))] [] [(.ptr 0 [])] [(.box T_3393 (.hole T_3393))] (fun p => mill_New p.1.1)
theorem fk_mill_New : FnOk Tryd.prog 7 := ⟨Tryd.f7, Tryd.func7, by kernel_rfl, by kernel_rfl⟩
def cx_mill_New : Cx := ⟨tys, lk [], 6, 0, [], gl, []⟩
theorem cxo_mill_New : CxOk Tryd.prog (cx_mill_New) := ⟨tys_ok, FnsAll.nil⟩
def gs_mill_New : Nat → Option Blk := lk []
theorem sd_mill_New : FnSound Tryd.prog gl 7 sg_mill_New :=
  fn_printed (G := gs_mill_New) (A := .leaf) (cxo_mill_New) follows Tryd.func7 (by kernel_rfl) (by kernel_rfl) (by kernel_rfl) (by kernel_rfl) (by kernel_rfl) (CutsOk.leaf _) (by intro v; kernel_rfl)
def sg_mill_Deck_Left : Sig := mkSig [(.ptr 0 [])] [(.box T_3393 (.hole T_3393))] [(.hole .bool)] [(.box T_3393 (.hole T_3393))] (fun p => mill_Deck_Left p.2.1)
theorem fk_mill_Deck_Left : FnOk Tryd.prog 31 := ⟨Tryd.f31, Tryd.func31, by kernel_rfl, by kernel_rfl⟩
def cx_mill_Deck_Left : Cx := ⟨tys, lk [], 13, 1, [], gl, []⟩
theorem cxo_mill_Deck_Left : CxOk Tryd.prog (cx_mill_Deck_Left) := ⟨tys_ok, FnsAll.nil⟩
def gs_mill_Deck_Left : Nat → Option Blk := lk []
theorem sd_mill_Deck_Left : FnSound Tryd.prog gl 31 sg_mill_Deck_Left :=
  fn_printed (G := gs_mill_Deck_Left) (A := .leaf) (cxo_mill_Deck_Left) follows Tryd.func31 (by kernel_rfl) (by kernel_rfl) (by kernel_rfl) (by kernel_rfl) (by kernel_rfl) (CutsOk.leaf _) (by intro v; kernel_rfl)
def sg_mill_Mod : Sig := mkSig [(.hole (.int .i64)), (.hole (.int .i64))] [] [(.hole (.int .i64))] [] (fun p => mill_Mod p.1.1 p.1.2.1)
theorem fk_mill_Mod : FnOk Tryd.prog 22 := ⟨Tryd.f22, Tryd.func22, by kernel_rfl, by kernel_rfl⟩
def cx_mill_Mod : Cx := ⟨tys, lk [], 15, 0, [], gl, []⟩
theorem cxo_mill_Mod : CxOk Tryd.prog (cx_mill_Mod) := ⟨tys_ok, FnsAll.nil⟩
def gs_mill_Mod : Nat → Option Blk := lk []
theorem sd_mill_Mod : FnSound Tryd.prog gl 22 sg_mill_Mod :=
  fn_printed (G := gs_mill_Mod) (A := .leaf) (cxo_mill_Mod) follows Tryd.func22 (by kernel_rfl) (by kernel_rfl) (by kernel_rfl) (by kernel_rfl) (by kernel_rfl) (CutsOk.leaf _) (by intro v; kernel_rfl)
def sg_mill_Deck_Next : Sig := mkSig [(.ptr 0 []), (.hole (.int .i64))] [(.box T_3393 (.hole T_3393))] [(.hole (.int .i64))] [(.box T_3393 (.hole T_3393))] (fun p => mill_Deck_Next p.1.2.1 p.2.1)
theorem fk_mill_Deck_Next : FnOk Tryd.prog 15 := ⟨Tryd.f15, Tryd.func15, by kernel_rfl, by kernel_rfl⟩
def cx_mill_Deck_Next : Cx := ⟨tys, lk [(31 + 100000 * 0, sg_mill_Deck_Left), (22 + 100000 * 0, sg_mill_Mod)], 28, 1, [], gl, []⟩
theorem cxo_mill_Deck_Next : CxOk Tryd.prog (cx_mill_Deck_Next) := ⟨tys_ok, FnsAll.cons 0 rfl fk_mill_Deck_Left sd_mill_Deck_Left (FnsAll.cons 0 rfl fk_mill_Mod sd_mill_Mod (FnsAll.nil))⟩
def gs_mill_Deck_Next : Nat → Option Blk := lk []
theorem sd_mill_Deck_Next : FnSound Tryd.prog gl 15 sg_mill_Deck_Next :=
  fn_printed (G := gs_mill_Deck_Next) (A := .leaf) (cxo_mill_Deck_Next) follows Tryd.func15 (by kernel_rfl) (by kernel_rfl) (by kernel_rfl) (by kernel_rfl) (by kernel_rfl) (CutsOk.leaf _) (by intro v; kernel_rfl)
def sg_mill_Deck_Range : Sig := mkSig [(.ptr 0 []), (.hole (.int .i64)), (.hole (.int .i64))] [(.box T_3393 (.hole T_3393))] [(.hole (.int .i64))] [(.box T_3393 (.hole T_3393))] (fun p => mill_Deck_Range p.1.2.1 p.1.2.2.1 p.2.1)
theorem fk_mill_Deck_Range : FnOk Tryd.prog 26 := ⟨Tryd.f26, Tryd.func26, by kernel_rfl, by kernel_rfl⟩
def cx_mill_Deck_Range : Cx := ⟨tys, lk [(15 + 100000 * 0, sg_mill_Deck_Next)], 15, 1, [], gl, []⟩
theorem cxo_mill_Deck_Range : CxOk Tryd.prog (cx_mill_Deck_Range) := ⟨tys_ok, FnsAll.cons 0 rfl fk_mill_Deck_Next sd_mill_Deck_Next (FnsAll.nil)⟩
def gs_mill_Deck_Range : Nat → Option Blk := lk []
theorem sd_mill_Deck_Range : FnSound Tryd.prog gl 26 sg_mill_Deck_Range :=
  fn_printed (G := gs_mill_Deck_Range) (A := .leaf) (cxo_mill_Deck_Range) follows Tryd.func26 (by kernel_rfl) (by kernel_rfl) (by kernel_rfl) (by kernel_rfl) (by kernel_rfl) (CutsOk.leaf _) (by intro v; kernel_rfl)
def sg_mill_Hash : Sig := mkSig [(.ptr 0 [])] [(.box T_3393 (.hole T_3393))] [(.hole (.arr 32 (.int .u8)))] [(.box T_3393 (.hole T_3393))] (fun p => mill_Hash p.2.1)
theorem fk_mill_Hash : FnOk Tryd.prog 27 := ⟨Tryd.f27, Tryd.func27, by kernel_rfl, by kernel_rfl⟩
def cx_mill_Hash : Cx := ⟨tys, lk [(15 + 100000 * 0, sg_mill_Deck_Next)], 10, 1, [], gl, []⟩
theorem cxo_mill_Hash : CxOk Tryd.prog (cx_mill_Hash) := ⟨tys_ok, FnsAll.cons 0 rfl fk_mill_Deck_Next sd_mill_Deck_Next (FnsAll.nil)⟩
def gs_mill_Hash : Nat → Option Blk := lk []
theorem sd_mill_Hash : FnSound Tryd.prog gl 27 sg_mill_Hash :=
  fn_printed (G := gs_mill_Hash) (A := .leaf) (cxo_mill_Hash) follows Tryd.func27 (by kernel_rfl) (by kernel_rfl) (by kernel_rfl) (by kernel_rfl) (by kernel_rfl) (CutsOk.leaf _) (by intro v; kernel_rfl)
def sg_mill_Tx : Sig := mkSig [(.ptr 0 [])] [(.box T_3393 (.hole T_3393))] [(.ncons (.hole (.int .u32)) (.ncons (.own 1) (.ncons (.own 2) (.hole (.cons (.int .u32) .nil)))))] [(.box T_3393 (.hole T_3393)), (.vec T_089d), (.vec T_b101)] (fun p => mill_Tx p.2.1)
theorem fk_mill_Tx : FnOk Tryd.prog 8 := ⟨Tryd.f8, Tryd.func8, by kernel_rfl, by kernel_rfl⟩
def cx_mill_Tx : Cx := ⟨tys, lk [(19 + 100000 * 0, sg_made_Script), (15 + 100000 * 0, sg_mill_Deck_Next), (26 + 100000 * 0, sg_mill_Deck_Range), (27 + 100000 * 0, sg_mill_Hash)], 66, 1, [], gl, []⟩
theorem cxo_mill_Tx : CxOk Tryd.prog (cx_mill_Tx) := ⟨tys_ok, FnsAll.cons 0 rfl fk_made_Script sd_made_Script (FnsAll.cons 0 rfl fk_mill_Deck_Next sd_mill_Deck_Next (FnsAll.cons 0 rfl fk_mill_Deck_Range sd_mill_Deck_Range (FnsAll.cons 0 rfl fk_mill_Hash sd_mill_Hash (FnsAll.nil))))⟩
abbrev K0_mill_Tx_J2 : List (Nat × Ty) := []
abbrev TM_mill_Tx_J2 : Tm := ⟨[(0, (.ptr 0 [])), (2, (.ptr 1 [])), (3, (.ptr 2 [])), (5, (.ptr 3 []))], [(.box T_3393 (.hole T_3393)), (.box T_8f0a (.ncons (.hole (.int .u32)) (.ncons .nils (.ncons .nils (.hole (.cons (.int .u32) .nil)))))), (.box T_8f0a (.ncons (.hole (.int .u32)) (.ncons (.own 4) (.ncons .nils (.hole (.cons (.int .u32) .nil)))))), (.box T_089d (.ncons (.hole T_b85e) (.ncons (.hole (.int .u32)) (.ncons .nils .nnil)))), (.vec T_089d)]⟩
abbrev UO_mill_Tx_J2 : Outs := (.one .normal ⟨[(0, (.ptr 0 [])), (2, (.ptr 1 [])), (3, (.ptr 2 [])), (5, (.ptr 3 []))], [(.box T_3393 (.hole T_3393)), (.box T_8f0a (.ncons (.hole (.int .u32)) (.ncons .nils (.ncons .nils (.hole (.cons (.int .u32) .nil)))))), (.box T_8f0a (.ncons (.hole (.int .u32)) (.ncons (.own 4) (.ncons .nils (.hole (.cons (.int .u32) .nil)))))), (.box T_089d (.ncons (.hole T_b85e) (.ncons (.hole (.int .u32)) (.ncons (.own 5) .nnil)))), (.vec T_089d), (.vec (.slice (.int .u8)))]⟩)
def B_mill_Tx_J2 : Blk := frBlk 1 [4] K0_mill_Tx_J2 TM_mill_Tx_J2 UO_mill_Tx_J2 (fun k v => mill_Tx_J2 v)
abbrev K0_mill_Tx_L1 : List (Nat × Ty) := []
abbrev TM_mill_Tx_L1 : Tm := ⟨[(0, (.ptr 0 [])), (2, (.ptr 1 [])), (3, (.ptr 2 [])), (4, (.hole (.int .i64)))], [(.box T_3393 (.hole T_3393)), (.box T_8f0a (.ncons (.hole (.int .u32)) (.ncons .nils (.ncons .nils (.hole (.cons (.int .u32) .nil)))))), (.box T_8f0a (.ncons (.hole (.int .u32)) (.ncons (.own 3) (.ncons .nils (.hole (.cons (.int .u32) .nil)))))), (.vec T_089d)]⟩
abbrev UO_mill_Tx_L1 : Outs := (.one (.exit 0) ⟨[(0, (.ptr 0 [])), (2, (.ptr 1 [])), (3, (.ptr 2 []))], [(.box T_3393 (.hole T_3393)), (.box T_8f0a (.ncons (.hole (.int .u32)) (.ncons .nils (.ncons .nils (.hole (.cons (.int .u32) .nil)))))), (.box T_8f0a (.ncons (.hole (.int .u32)) (.ncons (.own 3) (.ncons .nils (.hole (.cons (.int .u32) .nil)))))), (.vec T_089d)]⟩)
def B_mill_Tx_L1 : Blk := frBlk 1 [] K0_mill_Tx_L1 TM_mill_Tx_L1 UO_mill_Tx_L1 (fun k => loopV (fun v => mill_Tx_L1 v))
abbrev K0_mill_Tx_L3 : List (Nat × Ty) := []
abbrev TM_mill_Tx_L3 : Tm := ⟨[(0, (.ptr 0 [])), (2, (.ptr 1 [])), (3, (.ptr 2 [])), (6, (.hole (.int .i64)))], [(.box T_3393 (.hole T_3393)), (.box T_8f0a (.ncons (.hole (.int .u32)) (.ncons .nils (.ncons .nils (.hole (.cons (.int .u32) .nil)))))), (.box T_8f0a (.ncons (.hole (.int .u32)) (.ncons (.own 3) (.ncons (.own 4) (.hole (.cons (.int .u32) .nil)))))), (.vec T_089d), (.vec T_b101)]⟩
abbrev UO_mill_Tx_L3 : Outs := (.one (.exit 2) ⟨[(2, (.ptr 1 [])), (3, (.ptr 2 []))], [(.box T_3393 (.hole T_3393)), (.box T_8f0a (.ncons (.hole (.int .u32)) (.ncons .nils (.ncons .nils (.hole (.cons (.int .u32) .nil)))))), (.box T_8f0a (.ncons (.hole (.int .u32)) (.ncons (.own 3) (.ncons (.own 4) (.hole (.cons (.int .u32) .nil)))))), (.vec T_089d), (.vec T_b101)]⟩)
def B_mill_Tx_L3 : Blk := frBlk 1 [] K0_mill_Tx_L3 TM_mill_Tx_L3 UO_mill_Tx_L3 (fun k => loopV (fun v => mill_Tx_L3 v))
def gs_mill_Tx : Nat → Option Blk := lk [(2, B_mill_Tx_J2), (1, B_mill_Tx_L1), (3, B_mill_Tx_L3)]
theorem ct_mill_Tx_J2 : CodeSound Tryd.prog ((cx_mill_Tx).fr []) (subL (subR (subL (subL (subR (subL (subL (subR (subL (subR (subR (bodyOf Tryd.f8)))))))))))) (B_mill_Tx_J2).D :=
  join_sound (G := gs_mill_Tx) (A := .leaf) (T0 := K0_mill_Tx_J2) (T := TM_mill_Tx_J2) (U := UO_mill_Tx_J2) (F := (fun k v => mill_Tx_J2 v)) ((cxo_mill_Tx).fr []) follows (by kernel_rfl) (CutsOk.leaf _) (by intro k v; kernel_rfl)
theorem ct_mill_Tx_L3 : CodeSound Tryd.prog (cx_mill_Tx) (subL (subR (subL (subR (subR (subR (bodyOf Tryd.f8))))))) (B_mill_Tx_L3).D :=
  loop_printed (G := gs_mill_Tx) (A := .leaf) (T0 := K0_mill_Tx_L3) (T := TM_mill_Tx_L3) (U := UO_mill_Tx_L3) (step := (fun k v => mill_Tx_L3 v)) (cxo_mill_Tx) follows (by kernel_rfl) (by kernel_rfl) (CutsOk.leaf _) (by intro k v; kernel_rfl)
theorem ct_mill_Tx_L1 : CodeSound Tryd.prog (cx_mill_Tx) (subL (subR (subL (subR (subR (bodyOf Tryd.f8)))))) (B_mill_Tx_L1).D :=
  loop_printed (G := gs_mill_Tx) (A := (.two .leaf (.two (.two (.two .leaf (.two (.cut 2) .leaf)) .leaf) .leaf))) (T0 := K0_mill_Tx_L1) (T := TM_mill_Tx_L1) (U := UO_mill_Tx_L1) (step := (fun k v => mill_Tx_L1 v)) (cxo_mill_Tx) follows (by kernel_rfl) (by kernel_rfl) (CutsOk.two (CutsOk.leaf _) (CutsOk.two (CutsOk.two (CutsOk.two (CutsOk.leaf _) (CutsOk.two (CutsOk.cut (g := B_mill_Tx_J2) (by kernel_rfl) (ct_mill_Tx_J2)) (CutsOk.leaf _))) (CutsOk.leaf _)) (CutsOk.leaf _))) (by intro k v; kernel_rfl)
theorem sd_mill_Tx : FnSound Tryd.prog gl 8 sg_mill_Tx :=
  fn_printed (G := gs_mill_Tx) (A := (.two .leaf (.two .leaf (.two (.two .leaf (.two (.cut 1) .leaf)) (.two (.two .leaf (.two (.cut 3) .leaf)) .leaf))))) (cxo_mill_Tx) follows Tryd.func8 (by kernel_rfl) (by kernel_rfl) (by kernel_rfl) (by kernel_rfl) (by kernel_rfl) (CutsOk.two (CutsOk.leaf _) (CutsOk.two (CutsOk.leaf _) (CutsOk.two (CutsOk.two (CutsOk.leaf _) (CutsOk.two (CutsOk.cut (g := B_mill_Tx_L1) (by kernel_rfl) (ct_mill_Tx_L1)) (CutsOk.leaf _))) (CutsOk.two (CutsOk.two (CutsOk.leaf _) (CutsOk.two (CutsOk.cut (g := B_mill_Tx_L3) (by kernel_rfl) (ct_mill_Tx_L3)) (CutsOk.leaf _))) (CutsOk.leaf _))))) (by intro v; kernel_rfl)
end Go.PE.YtmmipabgoikibaaDoor
end
end

section
set_option maxRecDepth 100000
set_option linter.unusedVariables false
noncomputable section
namespace Go.PE.YtmmipabgoikibaaDoor
open Go.PE Go.Proofs

def sg_ref36_Signals : Sig := mkSig [(.hole T_8f0a)] [] [(.hole .bool)] [] (fun p => ref36_Signals p.1.1)
theorem fk_ref36_Signals : FnOk Tryd.prog 10 := ⟨Tryd.f10, Tryd.func10, by kernel_rfl, by kernel_rfl⟩
def cx_ref36_Signals : Cx := ⟨tys, lk [], 18, 0, [], gl, []⟩
theorem cxo_ref36_Signals : CxOk Tryd.prog (cx_ref36_Signals) := ⟨tys_ok, FnsAll.nil⟩
abbrev K0_ref36_Signals_L1 : List (Nat × Ty) := []
abbrev TM_ref36_Signals_L1 : Tm := ⟨[(1, (.ptr 0 [])), (3, (.hole (.int .i64)))], [(.box T_8f0a (.hole T_8f0a))]⟩
abbrev UO_ref36_Signals_L1 : Outs := (.more .ret ⟨[(2, (.hole .bool))], []⟩ (.one (.exit 0) ⟨[], []⟩))
def B_ref36_Signals_L1 : Blk := frBlk 0 [] K0_ref36_Signals_L1 TM_ref36_Signals_L1 UO_ref36_Signals_L1 (fun k => loopV (fun v => ref36_Signals_L1 v))
def gs_ref36_Signals : Nat → Option Blk := lk [(1, B_ref36_Signals_L1)]
theorem ct_ref36_Signals_L1 : CodeSound Tryd.prog (cx_ref36_Signals) (subL (subR (subL (subR (bodyOf Tryd.f10))))) (B_ref36_Signals_L1).D :=
  loop_printed (G := gs_ref36_Signals) (A := .leaf) (T0 := K0_ref36_Signals_L1) (T := TM_ref36_Signals_L1) (U := UO_ref36_Signals_L1) (step := (fun k v => ref36_Signals_L1 v)) (cxo_ref36_Signals) follows (by kernel_rfl) (by kernel_rfl) (CutsOk.leaf _) (by intro k v; kernel_rfl)
theorem sd_ref36_Signals : FnSound Tryd.prog gl 10 sg_ref36_Signals :=
  fn_printed (G := gs_ref36_Signals) (A := (.two .leaf (.two (.two .leaf (.two (.cut 1) .leaf)) .leaf))) (cxo_ref36_Signals) follows Tryd.func10 (by kernel_rfl) (by kernel_rfl) (by kernel_rfl) (by kernel_rfl) (by kernel_rfl) (CutsOk.two (CutsOk.leaf _) (CutsOk.two (CutsOk.two (CutsOk.leaf _) (CutsOk.two (CutsOk.cut (g := B_ref36_Signals_L1) (by kernel_rfl) (ct_ref36_Signals_L1)) (CutsOk.leaf _))) (CutsOk.leaf _))) (by intro v; kernel_rfl)
def sg_ref36_Conflict : Sig := mkSig [(.hole T_8f0a), (.hole T_8f0a)] [] [(.hole .bool)] [] (fun p => ref36_Conflict p.1.1 p.1.2.1)
theorem fk_ref36_Conflict : FnOk Tryd.prog 12 := ⟨Tryd.f12, Tryd.func12, by kernel_rfl, by kernel_rfl⟩
def cx_ref36_Conflict : Cx := ⟨tys, lk [], 34, 0, [], gl, []⟩
theorem cxo_ref36_Conflict : CxOk Tryd.prog (cx_ref36_Conflict) := ⟨tys_ok, FnsAll.nil⟩
abbrev K0_ref36_Conflict_L2 : List (Nat × Ty) := [(5, (.int .i64))]
abbrev TM_ref36_Conflict_L2 : Tm := ⟨[(2, (.ptr 0 [])), (3, (.ptr 1 [])), (6, (.hole (.int .i64)))], [(.box T_8f0a (.hole T_8f0a)), (.box T_8f0a (.hole T_8f0a))]⟩
abbrev UO_ref36_Conflict_L2 : Outs := (.more .ret ⟨[(4, (.hole .bool))], []⟩ (.one (.exit 2) ⟨[(2, (.ptr 0 [])), (3, (.ptr 1 []))], [(.box T_8f0a (.hole T_8f0a)), (.box T_8f0a (.hole T_8f0a))]⟩))
def B_ref36_Conflict_L2 : Blk := frBlk 0 [5] K0_ref36_Conflict_L2 TM_ref36_Conflict_L2 UO_ref36_Conflict_L2 (fun k => loopV (fun v => ref36_Conflict_L2 k.1 v))
abbrev K0_ref36_Conflict_L1 : List (Nat × Ty) := []
abbrev TM_ref36_Conflict_L1 : Tm := ⟨[(2, (.ptr 0 [])), (3, (.ptr 1 [])), (5, (.hole (.int .i64)))], [(.box T_8f0a (.hole T_8f0a)), (.box T_8f0a (.hole T_8f0a))]⟩
abbrev UO_ref36_Conflict_L1 : Outs := (.more .ret ⟨[(4, (.hole .bool))], []⟩ (.one (.exit 0) ⟨[], []⟩))
def B_ref36_Conflict_L1 : Blk := frBlk 0 [] K0_ref36_Conflict_L1 TM_ref36_Conflict_L1 UO_ref36_Conflict_L1 (fun k => loopV (fun v => ref36_Conflict_L1 v))
def gs_ref36_Conflict : Nat → Option Blk := lk [(2, B_ref36_Conflict_L2), (1, B_ref36_Conflict_L1)]
theorem ct_ref36_Conflict_L2 : CodeSound Tryd.prog ((cx_ref36_Conflict).fr []) (subL (subR (subL (subL (subR (subL (subL (subR (subL (subR (bodyOf Tryd.f12))))))))))) (B_ref36_Conflict_L2).D :=
  loop_printed (G := gs_ref36_Conflict) (A := .leaf) (T0 := K0_ref36_Conflict_L2) (T := TM_ref36_Conflict_L2) (U := UO_ref36_Conflict_L2) (step := (fun k v => ref36_Conflict_L2 k.1 v)) ((cxo_ref36_Conflict).fr []) follows (by kernel_rfl) (by kernel_rfl) (CutsOk.leaf _) (by intro k v; kernel_rfl)
theorem ct_ref36_Conflict_L1 : CodeSound Tryd.prog (cx_ref36_Conflict) (subL (subR (subL (subR (bodyOf Tryd.f12))))) (B_ref36_Conflict_L1).D :=
  loop_printed (G := gs_ref36_Conflict) (A := (.two .leaf (.two (.two (.two .leaf (.two (.cut 2) .leaf)) .leaf) .leaf))) (T0 := K0_ref36_Conflict_L1) (T := TM_ref36_Conflict_L1) (U := UO_ref36_Conflict_L1) (step := (fun k v => ref36_Conflict_L1 v)) (cxo_ref36_Conflict) follows (by kernel_rfl) (by kernel_rfl) (CutsOk.two (CutsOk.leaf _) (CutsOk.two (CutsOk.two (CutsOk.two (CutsOk.leaf _) (CutsOk.two (CutsOk.cut (g := B_ref36_Conflict_L2) (by kernel_rfl) (ct_ref36_Conflict_L2)) (CutsOk.leaf _))) (CutsOk.leaf _)) (CutsOk.leaf _))) (by intro k v; kernel_rfl)
theorem sd_ref36_Conflict : FnSound Tryd.prog gl 12 sg_ref36_Conflict :=
  fn_printed (G := gs_ref36_Conflict) (A := (.two .leaf (.two (.two .leaf (.two (.cut 1) .leaf)) .leaf))) (cxo_ref36_Conflict) follows Tryd.func12 (by kernel_rfl) (by kernel_rfl) (by kernel_rfl) (by kernel_rfl) (by kernel_rfl) (CutsOk.two (CutsOk.leaf _) (CutsOk.two (CutsOk.two (CutsOk.leaf _) (CutsOk.two (CutsOk.cut (g := B_ref36_Conflict_L1) (by kernel_rfl) (ct_ref36_Conflict_L1)) (CutsOk.leaf _))) (CutsOk.leaf _))) (by intro v; kernel_rfl)
end Go.PE.YtmmipabgoikibaaDoor
end
end

section
set_option maxRecDepth 100000
set_option linter.unusedVariables false
noncomputable section
namespace Go.PE.YtmmipabgoikibaaDoor
open Go.PE Go.Proofs

def sg_law36_sane : Sig := mkSig [] [] [(.hole .bool)] [] (fun p => law36_sane)
theorem fk_law36_sane : FnOk Tryd.prog 6 := ⟨Tryd.f6, Tryd.func6, by kernel_rfl, by kernel_rfl⟩
def cx_law36_sane : Cx := ⟨tys, lk [(25 + 100000 * 0, sg_replace_Accept), (11 + 100000 * 0, sg_replace_Conflict), (9 + 100000 * 0, sg_replace_Signals)], 32, 0, [], gl, []⟩
theorem cxo_law36_sane : CxOk Tryd.prog (cx_law36_sane) := ⟨tys_ok, FnsAll.cons 0 rfl fk_replace_Accept sd_replace_Accept (FnsAll.cons 0 rfl fk_replace_Conflict sd_replace_Conflict (FnsAll.cons 0 rfl fk_replace_Signals sd_replace_Signals (FnsAll.nil)))⟩
def gs_law36_sane : Nat → Option Blk := lk []
theorem sd_law36_sane : FnSound Tryd.prog gl 6 sg_law36_sane :=
  fn_printed (G := gs_law36_sane) (A := (.two .leaf (.two .leaf (.two .leaf (.two .leaf (.two (.frz [4, 6, 7, 8, 10] [1, 2, 11]) .leaf)))))) (cxo_law36_sane) follows Tryd.func6 (by kernel_rfl) (by kernel_rfl) (by kernel_rfl) (by kernel_rfl) (by kernel_rfl) (CutsOk.two (CutsOk.leaf _) (CutsOk.two (CutsOk.leaf _) (CutsOk.two (CutsOk.leaf _) (CutsOk.two (CutsOk.leaf _) (CutsOk.two (CutsOk.frz _ _ _) (CutsOk.leaf _)))))) (by intro v; kernel_rfl)
def sg_law36_ReplaceSignals : Sig := mkSig [(.hole (.slice (.int .i64))), (.hole (.int .u32)), (.hole (.int .u32))] [] [(.hole .bool)] [] (fun p => law36_ReplaceSignals p.1.1 p.1.2.1 p.1.2.2.1)
theorem fk_law36_ReplaceSignals : FnOk Tryd.prog 3 := ⟨Tryd.f3, Tryd.func3, by kernel_rfl, by kernel_rfl⟩
def cx_law36_ReplaceSignals : Cx := ⟨tys, lk [(6 + 100000 * 0, sg_law36_sane), (7 + 100000 * 0, sg_mill_New), (8 + 100000 * 0, sg_mill_Tx), (12 + 100000 * 0, sg_ref36_Conflict), (10 + 100000 * 0, sg_ref36_Signals), (11 + 100000 * 0, sg_replace_Conflict), (9 + 100000 * 0, sg_replace_Signals)], 64, 0, [], gl, []⟩
theorem cxo_law36_ReplaceSignals : CxOk Tryd.prog (cx_law36_ReplaceSignals) := ⟨tys_ok, FnsAll.cons 0 rfl fk_law36_sane sd_law36_sane (FnsAll.cons 0 rfl fk_mill_New sd_mill_New (FnsAll.cons 0 rfl fk_mill_Tx sd_mill_Tx (FnsAll.cons 0 rfl fk_ref36_Conflict sd_ref36_Conflict (FnsAll.cons 0 rfl fk_ref36_Signals sd_ref36_Signals (FnsAll.cons 0 rfl fk_replace_Conflict sd_replace_Conflict (FnsAll.cons 0 rfl fk_replace_Signals sd_replace_Signals (FnsAll.nil)))))))⟩
def gs_law36_ReplaceSignals : Nat → Option Blk := lk []
theorem sd_law36_ReplaceSignals : FnSound Tryd.prog gl 3 sg_law36_ReplaceSignals :=
  fn_printed (G := gs_law36_ReplaceSignals) (A := .leaf) (cxo_law36_ReplaceSignals) follows Tryd.func3 (by kernel_rfl) (by kernel_rfl) (by kernel_rfl) (by kernel_rfl) (by kernel_rfl) (CutsOk.leaf _) (by intro v; kernel_rfl)
end Go.PE.YtmmipabgoikibaaDoor
end
end
