/- The functions of the program do what their printed texts say; no condition. -/
import Derived.Test.YthfkhjnomjpaoaaDoorProg
import Derived.Test.YthfkhjnomjpaoaaDoorQc
import Derived.Test.YthfkhjnomjpaoaaDoorPa
import Derived.KernelRfl
section
set_option maxRecDepth 100000
noncomputable section
namespace Go.PE.YthfkhjnomjpaoaaDoor
open Go.PE Go.Proofs
def gl : Gl := fun g => bif Nat.beq g 0 then some ⟨(.arr 8 (.int .u32)), G_3e2daa⟩ else (bif Nat.beq g 1 then some ⟨(.arr 64 (.int .u32)), G_c990df⟩ else (none))
def tys : Nat → Option Ty := lk [(2, (.int .i64)), (3, (.int .i64)), (4, .bool), (5, (.int .u8)), (22, (.int .u32)), (23, (.slice T_089d)), (24, (.slice T_b101)), (26, T_8f0a), (27, (.slice (.slice (.int .u8)))), (32, (.arr 32 (.int .u8))), (34, T_b85e), (36, T_089d), (37, (.slice (.int .u8))), (38, (.int .i64)), (44, T_b101), (50, (.map T_b85e .bool)), (54, (.int .u64)), (61, (.int .u16)), (65, (.arr 8 (.int .u32))), (67, (.arr 64 (.int .u8))), (68, (.arr 64 (.int .u32))), (71, (.int .u64))]
theorem follows : Tryd.prog.follows .mixedOrders = true := by kernel_rfl
theorem ty_2 : fitTy Tryd.prog (.int .i64) (.id 2) = true := by kernel_rfl
theorem ty_3 : fitTy Tryd.prog (.int .i64) (.id 3) = true := by kernel_rfl
theorem ty_4 : fitTy Tryd.prog .bool (.id 4) = true := by kernel_rfl
theorem ty_5 : fitTy Tryd.prog (.int .u8) (.id 5) = true := by kernel_rfl
theorem ty_22 : fitTy Tryd.prog (.int .u32) (.id 22) = true := by kernel_rfl
theorem ty_23 : fitTy Tryd.prog (.slice T_089d) (.id 23) = true := by kernel_rfl
theorem ty_24 : fitTy Tryd.prog (.slice T_b101) (.id 24) = true := by kernel_rfl
theorem ty_26 : fitTy Tryd.prog T_8f0a (.id 26) = true := by kernel_rfl
theorem ty_27 : fitTy Tryd.prog (.slice (.slice (.int .u8))) (.id 27) = true := by kernel_rfl
theorem ty_32 : fitTy Tryd.prog (.arr 32 (.int .u8)) (.id 32) = true := by kernel_rfl
theorem ty_34 : fitTy Tryd.prog T_b85e (.id 34) = true := by kernel_rfl
theorem ty_36 : fitTy Tryd.prog T_089d (.id 36) = true := by kernel_rfl
theorem ty_37 : fitTy Tryd.prog (.slice (.int .u8)) (.id 37) = true := by kernel_rfl
theorem ty_38 : fitTy Tryd.prog (.int .i64) (.id 38) = true := by kernel_rfl
theorem ty_44 : fitTy Tryd.prog T_b101 (.id 44) = true := by kernel_rfl
theorem ty_50 : fitTy Tryd.prog (.map T_b85e .bool) (.id 50) = true := by kernel_rfl
theorem ty_54 : fitTy Tryd.prog (.int .u64) (.id 54) = true := by kernel_rfl
theorem ty_61 : fitTy Tryd.prog (.int .u16) (.id 61) = true := by kernel_rfl
theorem ty_65 : fitTy Tryd.prog (.arr 8 (.int .u32)) (.id 65) = true := by kernel_rfl
theorem ty_67 : fitTy Tryd.prog (.arr 64 (.int .u8)) (.id 67) = true := by kernel_rfl
theorem ty_68 : fitTy Tryd.prog (.arr 64 (.int .u32)) (.id 68) = true := by kernel_rfl
theorem ty_71 : fitTy Tryd.prog (.int .u64) (.id 71) = true := by kernel_rfl
theorem dep : Nat.ble 62 Tryd.prog.depth = true := by kernel_rfl
theorem tys_ok : TyOk Tryd.prog tys := TyOk.lk_cons ty_2 (TyOk.lk_cons ty_3 (TyOk.lk_cons ty_4 (TyOk.lk_cons ty_5 (TyOk.lk_cons ty_22 (TyOk.lk_cons ty_23 (TyOk.lk_cons ty_24 (TyOk.lk_cons ty_26 (TyOk.lk_cons ty_27 (TyOk.lk_cons ty_32 (TyOk.lk_cons ty_34 (TyOk.lk_cons ty_36 (TyOk.lk_cons ty_37 (TyOk.lk_cons ty_38 (TyOk.lk_cons ty_44 (TyOk.lk_cons ty_50 (TyOk.lk_cons ty_54 (TyOk.lk_cons ty_61 (TyOk.lk_cons ty_65 (TyOk.lk_cons ty_67 (TyOk.lk_cons ty_68 (TyOk.lk_cons ty_71 (TyOk.lk_nil (Nat.le_of_ble_eq_true dep)))))))))))))))))))))))
end Go.PE.YthfkhjnomjpaoaaDoor
end
end

section
set_option maxRecDepth 100000
set_option linter.unusedVariables false
noncomputable section
namespace Go.PE.YthfkhjnomjpaoaaDoor
open Go.PE Go.Proofs

def sg_keep_Items : Sig := mkSig [(.hole (.slice (.slice (.int .u8)))), (.hole (.int .i64)), (.hole (.int .i64))] [] [(.hole .bool)] [] (fun p => keep_Items p.1.1 p.1.2.1 p.1.2.2.1)
theorem fk_keep_Items : FnOk Tryd.prog 6 := ⟨Tryd.f6, Tryd.func6, by kernel_rfl, by kernel_rfl⟩
def cx_keep_Items : Cx := ⟨tys, lk [], 24, 0, [], gl⟩
theorem cxo_keep_Items : CxOk Tryd.prog (cx_keep_Items) := ⟨tys_ok, FnsOk.nil⟩
abbrev K0_keep_Items_L1 : List (Nat × Ty) := [(2, (.int .i64)), (13, (.slice (.slice (.int .u8)))), (14, (.int .i64))]
abbrev TM_keep_Items_L1 : Tm := ⟨[(15, (.hole (.int .i64)))], []⟩
abbrev UO_keep_Items_L1 : Outs := (.more .ret ⟨[(6, (.hole .bool))], []⟩ (.one (.exit 0) ⟨[], []⟩))
def B_keep_Items_L1 : Blk := frBlk 0 [2, 13, 14] K0_keep_Items_L1 TM_keep_Items_L1 UO_keep_Items_L1 (fun k => loopV (fun v => keep_Items_L1 k.1 k.2.1 k.2.2.1 v))
def gs_keep_Items : Nat → Option Blk := lk [(1, B_keep_Items_L1)]
theorem ct_keep_Items_L1 : CodeSound Tryd.prog (cx_keep_Items) (subL (subR (subL (subR (subR (bodyOf Tryd.f6)))))) (B_keep_Items_L1).D :=
  loop_printed (G := gs_keep_Items) (A := .leaf) (T0 := K0_keep_Items_L1) (T := TM_keep_Items_L1) (U := UO_keep_Items_L1) (step := (fun k v => keep_Items_L1 k.1 k.2.1 k.2.2.1 v)) (cxo_keep_Items) follows (by kernel_rfl) (by kernel_rfl) (CutsOk.leaf _) (by intro k v; kernel_rfl)
theorem sd_keep_Items : FnSound Tryd.prog gl 6 sg_keep_Items :=
  fn_printed (G := gs_keep_Items) (A := (.two .leaf (.two .leaf (.two (.two .leaf (.two (.cut 1) .leaf)) .leaf)))) (cxo_keep_Items) follows Tryd.func6 (by kernel_rfl) (by kernel_rfl) (by kernel_rfl) (by kernel_rfl) (by kernel_rfl) (CutsOk.two (CutsOk.leaf _) (CutsOk.two (CutsOk.leaf _) (CutsOk.two (CutsOk.two (CutsOk.leaf _) (CutsOk.two (CutsOk.cut (g := B_keep_Items_L1) (by kernel_rfl) (ct_keep_Items_L1)) (CutsOk.leaf _))) (CutsOk.leaf _)))) (by intro v; kernel_rfl)
def sg_keep_Tx : Sig := mkSig [(.hole T_8f0a)] [] [(.hole .bool)] [] (fun p => keep_Tx p.1.1)
theorem fk_keep_Tx : FnOk Tryd.prog 5 := ⟨Tryd.f5, Tryd.func5, by kernel_rfl, by kernel_rfl⟩
def cx_keep_Tx : Cx := ⟨tys, lk [(6, sg_keep_Items)], 41, 0, [], gl⟩
theorem cxo_keep_Tx : CxOk Tryd.prog (cx_keep_Tx) := ⟨tys_ok, FnsOk.cons fk_keep_Items sd_keep_Items (FnsOk.nil)⟩
abbrev K0_keep_Tx_L1 : List (Nat × Ty) := [(18, (.slice T_089d)), (19, (.int .i64))]
abbrev TM_keep_Tx_L1 : Tm := ⟨[(1, (.ptr 0 [])), (20, (.hole (.int .i64)))], [(.box T_8f0a (.hole T_8f0a))]⟩
abbrev UO_keep_Tx_L1 : Outs := (.more .ret ⟨[(2, (.hole .bool))], []⟩ (.one (.exit 0) ⟨[(1, (.ptr 0 []))], [(.box T_8f0a (.hole T_8f0a))]⟩))
def B_keep_Tx_L1 : Blk := frBlk 0 [18, 19] K0_keep_Tx_L1 TM_keep_Tx_L1 UO_keep_Tx_L1 (fun k => loopV (fun v => keep_Tx_L1 k.1 k.2.1 v))
abbrev K0_keep_Tx_L2 : List (Nat × Ty) := [(30, (.slice T_b101)), (31, (.int .i64))]
abbrev TM_keep_Tx_L2 : Tm := ⟨[(32, (.hole (.int .i64)))], []⟩
abbrev UO_keep_Tx_L2 : Outs := (.more .ret ⟨[(2, (.hole .bool))], []⟩ (.one (.exit 2) ⟨[], []⟩))
def B_keep_Tx_L2 : Blk := frBlk 0 [30, 31] K0_keep_Tx_L2 TM_keep_Tx_L2 UO_keep_Tx_L2 (fun k => loopV (fun v => keep_Tx_L2 k.1 k.2.1 v))
def gs_keep_Tx : Nat → Option Blk := lk [(1, B_keep_Tx_L1), (2, B_keep_Tx_L2)]
theorem ct_keep_Tx_L2 : CodeSound Tryd.prog (cx_keep_Tx) (subL (subR (subL (subR (subR (subR (bodyOf Tryd.f5))))))) (B_keep_Tx_L2).D :=
  loop_printed (G := gs_keep_Tx) (A := .leaf) (T0 := K0_keep_Tx_L2) (T := TM_keep_Tx_L2) (U := UO_keep_Tx_L2) (step := (fun k v => keep_Tx_L2 k.1 k.2.1 v)) (cxo_keep_Tx) follows (by kernel_rfl) (by kernel_rfl) (CutsOk.leaf _) (by intro k v; kernel_rfl)
theorem ct_keep_Tx_L1 : CodeSound Tryd.prog (cx_keep_Tx) (subL (subR (subL (subR (subR (bodyOf Tryd.f5)))))) (B_keep_Tx_L1).D :=
  loop_printed (G := gs_keep_Tx) (A := .leaf) (T0 := K0_keep_Tx_L1) (T := TM_keep_Tx_L1) (U := UO_keep_Tx_L1) (step := (fun k v => keep_Tx_L1 k.1 k.2.1 v)) (cxo_keep_Tx) follows (by kernel_rfl) (by kernel_rfl) (CutsOk.leaf _) (by intro k v; kernel_rfl)
theorem sd_keep_Tx : FnSound Tryd.prog gl 5 sg_keep_Tx :=
  fn_printed (G := gs_keep_Tx) (A := (.two .leaf (.two .leaf (.two (.two .leaf (.two (.cut 1) .leaf)) (.two (.two .leaf (.two (.cut 2) .leaf)) .leaf))))) (cxo_keep_Tx) follows Tryd.func5 (by kernel_rfl) (by kernel_rfl) (by kernel_rfl) (by kernel_rfl) (by kernel_rfl) (CutsOk.two (CutsOk.leaf _) (CutsOk.two (CutsOk.leaf _) (CutsOk.two (CutsOk.two (CutsOk.leaf _) (CutsOk.two (CutsOk.cut (g := B_keep_Tx_L1) (by kernel_rfl) (ct_keep_Tx_L1)) (CutsOk.leaf _))) (CutsOk.two (CutsOk.two (CutsOk.leaf _) (CutsOk.two (CutsOk.cut (g := B_keep_Tx_L2) (by kernel_rfl) (ct_keep_Tx_L2)) (CutsOk.leaf _))) (CutsOk.leaf _))))) (by intro v; kernel_rfl)
end Go.PE.YthfkhjnomjpaoaaDoor
end
end

section
set_option maxRecDepth 100000
set_option linter.unusedVariables false
noncomputable section
namespace Go.PE.YthfkhjnomjpaoaaDoor
open Go.PE Go.Proofs

def sg_codec_put_uint32 : Sig := mkSig [(.hole (.slice (.int .u8))), (.hole (.int .u32)), (.hole (.int .i64))] [] [(.own 0)] [(.vec (.int .u8))] (fun p => codec_put_uint32 p.1.1 p.1.2.1 p.1.2.2.1)
theorem fk_codec_put_uint32 : FnOk Tryd.prog 23 := ⟨Tryd.f23, Tryd.func23, by kernel_rfl, by kernel_rfl⟩
def cx_codec_put_uint32 : Cx := ⟨tys, lk [], 31, 0, [], gl⟩
theorem cxo_codec_put_uint32 : CxOk Tryd.prog (cx_codec_put_uint32) := ⟨tys_ok, FnsOk.nil⟩
abbrev K0_codec_put_uint32_L1 : List (Nat × Ty) := [(1, (.int .u32)), (16, (.int .i64))]
abbrev TM_codec_put_uint32_L1 : Tm := ⟨[(7, (.own 0)), (17, (.hole (.int .i64)))], [(.vec (.int .u8))]⟩
abbrev UO_codec_put_uint32_L1 : Outs := (.one (.exit 0) ⟨[(7, (.own 0))], [(.vec (.int .u8))]⟩)
def B_codec_put_uint32_L1 : Blk := frBlk 0 [1, 6, 16] K0_codec_put_uint32_L1 TM_codec_put_uint32_L1 UO_codec_put_uint32_L1 (fun k => loopV (fun v => codec_put_uint32_L1 k.1 k.2.1 v))
def gs_codec_put_uint32 : Nat → Option Blk := lk [(1, B_codec_put_uint32_L1)]
theorem ct_codec_put_uint32_L1 : CodeSound Tryd.prog (cx_codec_put_uint32) (subL (subR (subL (subR (subR (bodyOf Tryd.f23)))))) (B_codec_put_uint32_L1).D :=
  loop_printed (G := gs_codec_put_uint32) (A := .leaf) (T0 := K0_codec_put_uint32_L1) (T := TM_codec_put_uint32_L1) (U := UO_codec_put_uint32_L1) (step := (fun k v => codec_put_uint32_L1 k.1 k.2.1 v)) (cxo_codec_put_uint32) follows (by kernel_rfl) (by kernel_rfl) (CutsOk.leaf _) (by intro k v; kernel_rfl)
theorem sd_codec_put_uint32 : FnSound Tryd.prog gl 23 sg_codec_put_uint32 :=
  fn_printed (G := gs_codec_put_uint32) (A := (.two .leaf (.two .leaf (.two (.two .leaf (.two (.cut 1) .leaf)) .leaf)))) (cxo_codec_put_uint32) follows Tryd.func23 (by kernel_rfl) (by kernel_rfl) (by kernel_rfl) (by kernel_rfl) (by kernel_rfl) (CutsOk.two (CutsOk.leaf _) (CutsOk.two (CutsOk.leaf _) (CutsOk.two (CutsOk.two (CutsOk.leaf _) (CutsOk.two (CutsOk.cut (g := B_codec_put_uint32_L1) (by kernel_rfl) (ct_codec_put_uint32_L1)) (CutsOk.leaf _))) (CutsOk.leaf _)))) (by intro v; kernel_rfl)
def sg_codec_AppendU32 : Sig := mkSig [(.hole (.slice (.int .u8))), (.hole (.int .u32))] [] [(.own 0)] [(.vec (.int .u8))] (fun p => codec_AppendU32 p.1.1 p.1.2.1)
theorem fk_codec_AppendU32 : FnOk Tryd.prog 17 := ⟨Tryd.f17, Tryd.func17, by kernel_rfl, by kernel_rfl⟩
def cx_codec_AppendU32 : Cx := ⟨tys, lk [(23, sg_codec_put_uint32)], 8, 0, [], gl⟩
theorem cxo_codec_AppendU32 : CxOk Tryd.prog (cx_codec_AppendU32) := ⟨tys_ok, FnsOk.cons fk_codec_put_uint32 sd_codec_put_uint32 (FnsOk.nil)⟩
def gs_codec_AppendU32 : Nat → Option Blk := lk []
theorem sd_codec_AppendU32 : FnSound Tryd.prog gl 17 sg_codec_AppendU32 :=
  fn_printed (G := gs_codec_AppendU32) (A := .leaf) (cxo_codec_AppendU32) follows Tryd.func17 (by kernel_rfl) (by kernel_rfl) (by kernel_rfl) (by kernel_rfl) (by kernel_rfl) (CutsOk.leaf _) (by intro v; kernel_rfl)
def sg_codec_put_uint8 : Sig := mkSig [(.hole (.slice (.int .u8))), (.hole (.int .u8)), (.hole (.int .i64))] [] [(.own 0)] [(.vec (.int .u8))] (fun p => codec_put_uint8 p.1.1 p.1.2.1 p.1.2.2.1)
theorem fk_codec_put_uint8 : FnOk Tryd.prog 24 := ⟨Tryd.f24, Tryd.func24, by kernel_rfl, by kernel_rfl⟩
def cx_codec_put_uint8 : Cx := ⟨tys, lk [], 31, 0, [], gl⟩
theorem cxo_codec_put_uint8 : CxOk Tryd.prog (cx_codec_put_uint8) := ⟨tys_ok, FnsOk.nil⟩
abbrev K0_codec_put_uint8_L1 : List (Nat × Ty) := [(1, (.int .u8)), (16, (.int .i64))]
abbrev TM_codec_put_uint8_L1 : Tm := ⟨[(7, (.own 0)), (17, (.hole (.int .i64)))], [(.vec (.int .u8))]⟩
abbrev UO_codec_put_uint8_L1 : Outs := (.one (.exit 0) ⟨[(7, (.own 0))], [(.vec (.int .u8))]⟩)
def B_codec_put_uint8_L1 : Blk := frBlk 0 [1, 6, 16] K0_codec_put_uint8_L1 TM_codec_put_uint8_L1 UO_codec_put_uint8_L1 (fun k => loopV (fun v => codec_put_uint8_L1 k.1 k.2.1 v))
def gs_codec_put_uint8 : Nat → Option Blk := lk [(1, B_codec_put_uint8_L1)]
theorem ct_codec_put_uint8_L1 : CodeSound Tryd.prog (cx_codec_put_uint8) (subL (subR (subL (subR (subR (bodyOf Tryd.f24)))))) (B_codec_put_uint8_L1).D :=
  loop_printed (G := gs_codec_put_uint8) (A := .leaf) (T0 := K0_codec_put_uint8_L1) (T := TM_codec_put_uint8_L1) (U := UO_codec_put_uint8_L1) (step := (fun k v => codec_put_uint8_L1 k.1 k.2.1 v)) (cxo_codec_put_uint8) follows (by kernel_rfl) (by kernel_rfl) (CutsOk.leaf _) (by intro k v; kernel_rfl)
theorem sd_codec_put_uint8 : FnSound Tryd.prog gl 24 sg_codec_put_uint8 :=
  fn_printed (G := gs_codec_put_uint8) (A := (.two .leaf (.two .leaf (.two (.two .leaf (.two (.cut 1) .leaf)) .leaf)))) (cxo_codec_put_uint8) follows Tryd.func24 (by kernel_rfl) (by kernel_rfl) (by kernel_rfl) (by kernel_rfl) (by kernel_rfl) (CutsOk.two (CutsOk.leaf _) (CutsOk.two (CutsOk.leaf _) (CutsOk.two (CutsOk.two (CutsOk.leaf _) (CutsOk.two (CutsOk.cut (g := B_codec_put_uint8_L1) (by kernel_rfl) (ct_codec_put_uint8_L1)) (CutsOk.leaf _))) (CutsOk.leaf _)))) (by intro v; kernel_rfl)
def sg_codec_put_uint16 : Sig := mkSig [(.hole (.slice (.int .u8))), (.hole (.int .u16)), (.hole (.int .i64))] [] [(.own 0)] [(.vec (.int .u8))] (fun p => codec_put_uint16 p.1.1 p.1.2.1 p.1.2.2.1)
theorem fk_codec_put_uint16 : FnOk Tryd.prog 25 := ⟨Tryd.f25, Tryd.func25, by kernel_rfl, by kernel_rfl⟩
def cx_codec_put_uint16 : Cx := ⟨tys, lk [], 31, 0, [], gl⟩
theorem cxo_codec_put_uint16 : CxOk Tryd.prog (cx_codec_put_uint16) := ⟨tys_ok, FnsOk.nil⟩
abbrev K0_codec_put_uint16_L1 : List (Nat × Ty) := [(1, (.int .u16)), (16, (.int .i64))]
abbrev TM_codec_put_uint16_L1 : Tm := ⟨[(7, (.own 0)), (17, (.hole (.int .i64)))], [(.vec (.int .u8))]⟩
abbrev UO_codec_put_uint16_L1 : Outs := (.one (.exit 0) ⟨[(7, (.own 0))], [(.vec (.int .u8))]⟩)
def B_codec_put_uint16_L1 : Blk := frBlk 0 [1, 6, 16] K0_codec_put_uint16_L1 TM_codec_put_uint16_L1 UO_codec_put_uint16_L1 (fun k => loopV (fun v => codec_put_uint16_L1 k.1 k.2.1 v))
def gs_codec_put_uint16 : Nat → Option Blk := lk [(1, B_codec_put_uint16_L1)]
theorem ct_codec_put_uint16_L1 : CodeSound Tryd.prog (cx_codec_put_uint16) (subL (subR (subL (subR (subR (bodyOf Tryd.f25)))))) (B_codec_put_uint16_L1).D :=
  loop_printed (G := gs_codec_put_uint16) (A := .leaf) (T0 := K0_codec_put_uint16_L1) (T := TM_codec_put_uint16_L1) (U := UO_codec_put_uint16_L1) (step := (fun k v => codec_put_uint16_L1 k.1 k.2.1 v)) (cxo_codec_put_uint16) follows (by kernel_rfl) (by kernel_rfl) (CutsOk.leaf _) (by intro k v; kernel_rfl)
theorem sd_codec_put_uint16 : FnSound Tryd.prog gl 25 sg_codec_put_uint16 :=
  fn_printed (G := gs_codec_put_uint16) (A := (.two .leaf (.two .leaf (.two (.two .leaf (.two (.cut 1) .leaf)) .leaf)))) (cxo_codec_put_uint16) follows Tryd.func25 (by kernel_rfl) (by kernel_rfl) (by kernel_rfl) (by kernel_rfl) (by kernel_rfl) (CutsOk.two (CutsOk.leaf _) (CutsOk.two (CutsOk.leaf _) (CutsOk.two (CutsOk.two (CutsOk.leaf _) (CutsOk.two (CutsOk.cut (g := B_codec_put_uint16_L1) (by kernel_rfl) (ct_codec_put_uint16_L1)) (CutsOk.leaf _))) (CutsOk.leaf _)))) (by intro v; kernel_rfl)
def sg_codec_put_uint64 : Sig := mkSig [(.hole (.slice (.int .u8))), (.hole (.int .u64)), (.hole (.int .i64))] [] [(.own 0)] [(.vec (.int .u8))] (fun p => codec_put_uint64 p.1.1 p.1.2.1 p.1.2.2.1)
theorem fk_codec_put_uint64 : FnOk Tryd.prog 26 := ⟨Tryd.f26, Tryd.func26, by kernel_rfl, by kernel_rfl⟩
def cx_codec_put_uint64 : Cx := ⟨tys, lk [], 30, 0, [], gl⟩
theorem cxo_codec_put_uint64 : CxOk Tryd.prog (cx_codec_put_uint64) := ⟨tys_ok, FnsOk.nil⟩
abbrev K0_codec_put_uint64_L1 : List (Nat × Ty) := [(1, (.int .u64)), (16, (.int .i64))]
abbrev TM_codec_put_uint64_L1 : Tm := ⟨[(7, (.own 0)), (17, (.hole (.int .i64)))], [(.vec (.int .u8))]⟩
abbrev UO_codec_put_uint64_L1 : Outs := (.one (.exit 0) ⟨[(7, (.own 0))], [(.vec (.int .u8))]⟩)
def B_codec_put_uint64_L1 : Blk := frBlk 0 [1, 6, 16] K0_codec_put_uint64_L1 TM_codec_put_uint64_L1 UO_codec_put_uint64_L1 (fun k => loopV (fun v => codec_put_uint64_L1 k.1 k.2.1 v))
def gs_codec_put_uint64 : Nat → Option Blk := lk [(1, B_codec_put_uint64_L1)]
theorem ct_codec_put_uint64_L1 : CodeSound Tryd.prog (cx_codec_put_uint64) (subL (subR (subL (subR (subR (bodyOf Tryd.f26)))))) (B_codec_put_uint64_L1).D :=
  loop_printed (G := gs_codec_put_uint64) (A := .leaf) (T0 := K0_codec_put_uint64_L1) (T := TM_codec_put_uint64_L1) (U := UO_codec_put_uint64_L1) (step := (fun k v => codec_put_uint64_L1 k.1 k.2.1 v)) (cxo_codec_put_uint64) follows (by kernel_rfl) (by kernel_rfl) (CutsOk.leaf _) (by intro k v; kernel_rfl)
theorem sd_codec_put_uint64 : FnSound Tryd.prog gl 26 sg_codec_put_uint64 :=
  fn_printed (G := gs_codec_put_uint64) (A := (.two .leaf (.two .leaf (.two (.two .leaf (.two (.cut 1) .leaf)) .leaf)))) (cxo_codec_put_uint64) follows Tryd.func26 (by kernel_rfl) (by kernel_rfl) (by kernel_rfl) (by kernel_rfl) (by kernel_rfl) (CutsOk.two (CutsOk.leaf _) (CutsOk.two (CutsOk.leaf _) (CutsOk.two (CutsOk.two (CutsOk.leaf _) (CutsOk.two (CutsOk.cut (g := B_codec_put_uint64_L1) (by kernel_rfl) (ct_codec_put_uint64_L1)) (CutsOk.leaf _))) (CutsOk.leaf _)))) (by intro v; kernel_rfl)
def sg_codec_AppendSize : Sig := mkSig [(.hole (.slice (.int .u8))), (.hole (.int .u64))] [] [(.own 0)] [(.vec (.int .u8))] (fun p => codec_AppendSize p.1.1 p.1.2.1)
theorem fk_codec_AppendSize : FnOk Tryd.prog 18 := ⟨Tryd.f18, Tryd.func18, by kernel_rfl, by kernel_rfl⟩
def cx_codec_AppendSize : Cx := ⟨tys, lk [(25, sg_codec_put_uint16), (23, sg_codec_put_uint32), (26, sg_codec_put_uint64), (24, sg_codec_put_uint8)], 32, 0, [], gl⟩
theorem cxo_codec_AppendSize : CxOk Tryd.prog (cx_codec_AppendSize) := ⟨tys_ok, FnsOk.cons fk_codec_put_uint16 sd_codec_put_uint16 (FnsOk.cons fk_codec_put_uint32 sd_codec_put_uint32 (FnsOk.cons fk_codec_put_uint64 sd_codec_put_uint64 (FnsOk.cons fk_codec_put_uint8 sd_codec_put_uint8 (FnsOk.nil))))⟩
def gs_codec_AppendSize : Nat → Option Blk := lk []
theorem sd_codec_AppendSize : FnSound Tryd.prog gl 18 sg_codec_AppendSize :=
  fn_printed (G := gs_codec_AppendSize) (A := .leaf) (cxo_codec_AppendSize) follows Tryd.func18 (by kernel_rfl) (by kernel_rfl) (by kernel_rfl) (by kernel_rfl) (by kernel_rfl) (CutsOk.leaf _) (by intro v; kernel_rfl)
def sg_codec_AppendHash : Sig := mkSig [(.hole (.slice (.int .u8))), (.hole (.arr 32 (.int .u8)))] [] [(.own 0)] [(.vec (.int .u8))] (fun p => codec_AppendHash p.1.1 p.1.2.1)
theorem fk_codec_AppendHash : FnOk Tryd.prog 27 := ⟨Tryd.f27, Tryd.func27, by kernel_rfl, by kernel_rfl⟩
def cx_codec_AppendHash : Cx := ⟨tys, lk [], 15, 0, [], gl⟩
theorem cxo_codec_AppendHash : CxOk Tryd.prog (cx_codec_AppendHash) := ⟨tys_ok, FnsOk.nil⟩
def gs_codec_AppendHash : Nat → Option Blk := lk []
theorem sd_codec_AppendHash : FnSound Tryd.prog gl 27 sg_codec_AppendHash :=
  fn_printed (G := gs_codec_AppendHash) (A := .leaf) (cxo_codec_AppendHash) follows Tryd.func27 (by kernel_rfl) (by kernel_rfl) (by kernel_rfl) (by kernel_rfl) (by kernel_rfl) (CutsOk.leaf _) (by intro v; kernel_rfl)
def sg_codec_AppendU64 : Sig := mkSig [(.hole (.slice (.int .u8))), (.hole (.int .u64))] [] [(.own 0)] [(.vec (.int .u8))] (fun p => codec_AppendU64 p.1.1 p.1.2.1)
theorem fk_codec_AppendU64 : FnOk Tryd.prog 20 := ⟨Tryd.f20, Tryd.func20, by kernel_rfl, by kernel_rfl⟩
def cx_codec_AppendU64 : Cx := ⟨tys, lk [(26, sg_codec_put_uint64)], 8, 0, [], gl⟩
theorem cxo_codec_AppendU64 : CxOk Tryd.prog (cx_codec_AppendU64) := ⟨tys_ok, FnsOk.cons fk_codec_put_uint64 sd_codec_put_uint64 (FnsOk.nil)⟩
def gs_codec_AppendU64 : Nat → Option Blk := lk []
theorem sd_codec_AppendU64 : FnSound Tryd.prog gl 20 sg_codec_AppendU64 :=
  fn_printed (G := gs_codec_AppendU64) (A := .leaf) (cxo_codec_AppendU64) follows Tryd.func20 (by kernel_rfl) (by kernel_rfl) (by kernel_rfl) (by kernel_rfl) (by kernel_rfl) (CutsOk.leaf _) (by intro v; kernel_rfl)
def sg_codec_AppendBytes : Sig := mkSig [(.hole (.slice (.int .u8))), (.hole (.slice (.int .u8)))] [] [(.own 0)] [(.vec (.int .u8))] (fun p => codec_AppendBytes p.1.1 p.1.2.1)
theorem fk_codec_AppendBytes : FnOk Tryd.prog 21 := ⟨Tryd.f21, Tryd.func21, by kernel_rfl, by kernel_rfl⟩
def cx_codec_AppendBytes : Cx := ⟨tys, lk [(18, sg_codec_AppendSize)], 12, 0, [], gl⟩
theorem cxo_codec_AppendBytes : CxOk Tryd.prog (cx_codec_AppendBytes) := ⟨tys_ok, FnsOk.cons fk_codec_AppendSize sd_codec_AppendSize (FnsOk.nil)⟩
def gs_codec_AppendBytes : Nat → Option Blk := lk []
theorem sd_codec_AppendBytes : FnSound Tryd.prog gl 21 sg_codec_AppendBytes :=
  fn_printed (G := gs_codec_AppendBytes) (A := .leaf) (cxo_codec_AppendBytes) follows Tryd.func21 (by kernel_rfl) (by kernel_rfl) (by kernel_rfl) (by kernel_rfl) (by kernel_rfl) (CutsOk.leaf _) (by intro v; kernel_rfl)
end Go.PE.YthfkhjnomjpaoaaDoor
end
end

section
set_option maxRecDepth 100000
set_option linter.unusedVariables false
noncomputable section
namespace Go.PE.YthfkhjnomjpaoaaDoor
open Go.PE Go.Proofs

def sg_math_bits_RotateLeft32 : Sig := mkSig [(.hole (.int .u32)), (.hole (.int .i64))] [] [(.hole (.int .u32))] [] (fun p => math_bits_RotateLeft32 p.1.1 p.1.2.1)
theorem fk_math_bits_RotateLeft32 : FnOk Tryd.prog 33 := ⟨Tryd.f33, Tryd.func33, by kernel_rfl, by kernel_rfl⟩
def cx_math_bits_RotateLeft32 : Cx := ⟨tys, lk [], 17, 0, [], gl⟩
theorem cxo_math_bits_RotateLeft32 : CxOk Tryd.prog (cx_math_bits_RotateLeft32) := ⟨tys_ok, FnsOk.nil⟩
def gs_math_bits_RotateLeft32 : Nat → Option Blk := lk []
theorem sd_math_bits_RotateLeft32 : FnSound Tryd.prog gl 33 sg_math_bits_RotateLeft32 :=
  fn_printed (G := gs_math_bits_RotateLeft32) (A := .leaf) (cxo_math_bits_RotateLeft32) follows Tryd.func33 (by kernel_rfl) (by kernel_rfl) (by kernel_rfl) (by kernel_rfl) (by kernel_rfl) (CutsOk.leaf _) (by intro v; kernel_rfl)
end Go.PE.YthfkhjnomjpaoaaDoor
end
end

section
set_option maxRecDepth 100000
set_option linter.unusedVariables false
noncomputable section
namespace Go.PE.YthfkhjnomjpaoaaDoor
open Go.PE Go.Proofs

def sg_sha_Pad : Sig := mkSig [(.hole (.int .u64))] [] [(.own 0)] [(.vec (.int .u8))] (fun p => sha_Pad p.1.1)
theorem fk_sha_Pad : FnOk Tryd.prog 29 := ⟨Tryd.f29, Tryd.func29, by kernel_rfl, by kernel_rfl⟩
def cx_sha_Pad : Cx := ⟨tys, lk [], 27, 0, [], gl⟩
theorem cxo_sha_Pad : CxOk Tryd.prog (cx_sha_Pad) := ⟨tys_ok, FnsOk.nil⟩
abbrev K0_sha_Pad_L1 : List (Nat × Ty) := [(0, (.int .u64))]
abbrev TM_sha_Pad_L1 : Tm := ⟨[(3, (.own 0)), (4, (.hole (.int .i64)))], [(.vec (.int .u8))]⟩
abbrev UO_sha_Pad_L1 : Outs := (.one (.exit 0) ⟨[(3, (.own 0))], [(.vec (.int .u8))]⟩)
def B_sha_Pad_L1 : Blk := frBlk 0 [0, 2] K0_sha_Pad_L1 TM_sha_Pad_L1 UO_sha_Pad_L1 (fun k => loopV (fun v => sha_Pad_L1 k.1 v))
def gs_sha_Pad : Nat → Option Blk := lk [(1, B_sha_Pad_L1)]
theorem ct_sha_Pad_L1 : CodeSound Tryd.prog (cx_sha_Pad) (subL (subR (subL (subR (subR (subR (bodyOf Tryd.f29))))))) (B_sha_Pad_L1).D :=
  loop_printed (G := gs_sha_Pad) (A := .leaf) (T0 := K0_sha_Pad_L1) (T := TM_sha_Pad_L1) (U := UO_sha_Pad_L1) (step := (fun k v => sha_Pad_L1 k.1 v)) (cxo_sha_Pad) follows (by kernel_rfl) (by kernel_rfl) (CutsOk.leaf _) (by intro k v; kernel_rfl)
theorem sd_sha_Pad : FnSound Tryd.prog gl 29 sg_sha_Pad :=
  fn_printed (G := gs_sha_Pad) (A := (.two .leaf (.two .leaf (.two .leaf (.two (.two .leaf (.two (.cut 1) .leaf)) .leaf))))) (cxo_sha_Pad) follows Tryd.func29 (by kernel_rfl) (by kernel_rfl) (by kernel_rfl) (by kernel_rfl) (by kernel_rfl) (CutsOk.two (CutsOk.leaf _) (CutsOk.two (CutsOk.leaf _) (CutsOk.two (CutsOk.leaf _) (CutsOk.two (CutsOk.two (CutsOk.leaf _) (CutsOk.two (CutsOk.cut (g := B_sha_Pad_L1) (by kernel_rfl) (ct_sha_Pad_L1)) (CutsOk.leaf _))) (CutsOk.leaf _))))) (by intro v; kernel_rfl)
def sg_sha_rotr : Sig := mkSig [(.hole (.int .u32)), (.hole (.int .i64))] [] [(.hole (.int .u32))] [] (fun p => sha_rotr p.1.1 p.1.2.1)
theorem fk_sha_rotr : FnOk Tryd.prog 32 := ⟨Tryd.f32, Tryd.func32, by kernel_rfl, by kernel_rfl⟩
def cx_sha_rotr : Cx := ⟨tys, lk [(33, sg_math_bits_RotateLeft32)], 9, 0, [], gl⟩
theorem cxo_sha_rotr : CxOk Tryd.prog (cx_sha_rotr) := ⟨tys_ok, FnsOk.cons fk_math_bits_RotateLeft32 sd_math_bits_RotateLeft32 (FnsOk.nil)⟩
def gs_sha_rotr : Nat → Option Blk := lk []
theorem sd_sha_rotr : FnSound Tryd.prog gl 32 sg_sha_rotr :=
  fn_printed (G := gs_sha_rotr) (A := .leaf) (cxo_sha_rotr) follows Tryd.func32 (by kernel_rfl) (by kernel_rfl) (by kernel_rfl) (by kernel_rfl) (by kernel_rfl) (CutsOk.leaf _) (by intro v; kernel_rfl)
def sg_sha_schedule : Sig := mkSig [(.hole (.arr 64 (.int .u8)))] [] [(.hole (.arr 64 (.int .u32)))] [] (fun p => sha_schedule p.1.1)
theorem fk_sha_schedule : FnOk Tryd.prog 31 := ⟨Tryd.f31, Tryd.func31, by kernel_rfl, by kernel_rfl⟩
def cx_sha_schedule : Cx := ⟨tys, lk [(32, sg_sha_rotr)], 80, 0, [], gl⟩
theorem cxo_sha_schedule : CxOk Tryd.prog (cx_sha_schedule) := ⟨tys_ok, FnsOk.cons fk_sha_rotr sd_sha_rotr (FnsOk.nil)⟩
abbrev K0_sha_schedule_L1 : List (Nat × Ty) := [(9, (.arr 64 (.int .u8)))]
abbrev TM_sha_schedule_L1 : Tm := ⟨[(2, (.ptr 0 [])), (3, (.ptr 1 [])), (10, (.hole (.int .i64)))], [(.box (.arr 64 (.int .u32)) (.hole (.arr 64 (.int .u32)))), (.box (.arr 64 (.int .u32)) (.hole (.arr 64 (.int .u32))))]⟩
abbrev UO_sha_schedule_L1 : Outs := (.one (.exit 0) ⟨[(2, (.ptr 0 [])), (3, (.ptr 1 []))], [(.box (.arr 64 (.int .u32)) (.hole (.arr 64 (.int .u32)))), (.box (.arr 64 (.int .u32)) (.hole (.arr 64 (.int .u32))))]⟩)
def B_sha_schedule_L1 : Blk := frBlk 0 [9] K0_sha_schedule_L1 TM_sha_schedule_L1 UO_sha_schedule_L1 (fun k => loopV (fun v => sha_schedule_L1 k.1 v))
abbrev K0_sha_schedule_L2 : List (Nat × Ty) := []
abbrev TM_sha_schedule_L2 : Tm := ⟨[(2, (.ptr 0 [])), (3, (.ptr 1 [])), (6, (.hole (.int .i64)))], [(.box (.arr 64 (.int .u32)) (.hole (.arr 64 (.int .u32)))), (.box (.arr 64 (.int .u32)) (.hole (.arr 64 (.int .u32))))]⟩
abbrev UO_sha_schedule_L2 : Outs := (.one (.exit 2) ⟨[(2, (.ptr 0 [])), (3, (.ptr 1 []))], [(.box (.arr 64 (.int .u32)) (.hole (.arr 64 (.int .u32)))), (.box (.arr 64 (.int .u32)) (.hole (.arr 64 (.int .u32))))]⟩)
def B_sha_schedule_L2 : Blk := frBlk 0 [] K0_sha_schedule_L2 TM_sha_schedule_L2 UO_sha_schedule_L2 (fun k => loopV (fun v => sha_schedule_L2 v))
def gs_sha_schedule : Nat → Option Blk := lk [(1, B_sha_schedule_L1), (2, B_sha_schedule_L2)]
theorem ct_sha_schedule_L2 : CodeSound Tryd.prog (cx_sha_schedule) (subL (subR (subL (subR (subR (subR (bodyOf Tryd.f31))))))) (B_sha_schedule_L2).D :=
  loop_printed (G := gs_sha_schedule) (A := .leaf) (T0 := K0_sha_schedule_L2) (T := TM_sha_schedule_L2) (U := UO_sha_schedule_L2) (step := (fun k v => sha_schedule_L2 v)) (cxo_sha_schedule) follows (by kernel_rfl) (by kernel_rfl) (CutsOk.leaf _) (by intro k v; kernel_rfl)
theorem ct_sha_schedule_L1 : CodeSound Tryd.prog (cx_sha_schedule) (subL (subR (subL (subR (subR (bodyOf Tryd.f31)))))) (B_sha_schedule_L1).D :=
  loop_printed (G := gs_sha_schedule) (A := .leaf) (T0 := K0_sha_schedule_L1) (T := TM_sha_schedule_L1) (U := UO_sha_schedule_L1) (step := (fun k v => sha_schedule_L1 k.1 v)) (cxo_sha_schedule) follows (by kernel_rfl) (by kernel_rfl) (CutsOk.leaf _) (by intro k v; kernel_rfl)
theorem sd_sha_schedule : FnSound Tryd.prog gl 31 sg_sha_schedule :=
  fn_printed (G := gs_sha_schedule) (A := (.two .leaf (.two .leaf (.two (.two .leaf (.two (.cut 1) .leaf)) (.two (.two .leaf (.two (.cut 2) .leaf)) .leaf))))) (cxo_sha_schedule) follows Tryd.func31 (by kernel_rfl) (by kernel_rfl) (by kernel_rfl) (by kernel_rfl) (by kernel_rfl) (CutsOk.two (CutsOk.leaf _) (CutsOk.two (CutsOk.leaf _) (CutsOk.two (CutsOk.two (CutsOk.leaf _) (CutsOk.two (CutsOk.cut (g := B_sha_schedule_L1) (by kernel_rfl) (ct_sha_schedule_L1)) (CutsOk.leaf _))) (CutsOk.two (CutsOk.two (CutsOk.leaf _) (CutsOk.two (CutsOk.cut (g := B_sha_schedule_L2) (by kernel_rfl) (ct_sha_schedule_L2)) (CutsOk.leaf _))) (CutsOk.leaf _))))) (by intro v; kernel_rfl)
def sg_sha_Compress : Sig := mkSig [(.hole (.arr 8 (.int .u32))), (.hole (.arr 64 (.int .u8)))] [] [(.hole (.arr 8 (.int .u32)))] [] (fun p => sha_Compress p.1.1 p.1.2.1)
theorem fk_sha_Compress : FnOk Tryd.prog 30 := ⟨Tryd.f30, Tryd.func30, by kernel_rfl, by kernel_rfl⟩
def cx_sha_Compress : Cx := ⟨tys, lk [(32, sg_sha_rotr), (31, sg_sha_schedule)], 112, 0, [], gl⟩
theorem cxo_sha_Compress : CxOk Tryd.prog (cx_sha_Compress) := ⟨tys_ok, FnsOk.cons fk_sha_rotr sd_sha_rotr (FnsOk.cons fk_sha_schedule sd_sha_schedule (FnsOk.nil))⟩
abbrev K0_sha_Compress_L1 : List (Nat × Ty) := [(21, (.arr 64 (.int .u32)))]
abbrev TM_sha_Compress_L1 : Tm := ⟨[(2, (.ptr 0 [])), (4, (.ptr 1 [])), (5, (.ptr 2 [])), (6, (.ptr 3 [])), (22, (.hole (.int .i64)))], [(.box (.arr 8 (.int .u32)) (.hole (.arr 8 (.int .u32)))), (.box (.arr 8 (.int .u32)) (.hole (.arr 8 (.int .u32)))), (.box (.arr 64 (.int .u32)) (.hole (.arr 64 (.int .u32)))), (.box (.arr 8 (.int .u32)) (.hole (.arr 8 (.int .u32))))]⟩
abbrev UO_sha_Compress_L1 : Outs := (.one (.exit 0) ⟨[(2, (.ptr 0 [])), (4, (.ptr 1 [])), (6, (.ptr 2 []))], [(.box (.arr 8 (.int .u32)) (.hole (.arr 8 (.int .u32)))), (.box (.arr 8 (.int .u32)) (.hole (.arr 8 (.int .u32)))), (.box (.arr 8 (.int .u32)) (.hole (.arr 8 (.int .u32))))]⟩)
def B_sha_Compress_L1 : Blk := frBlk 0 [21] K0_sha_Compress_L1 TM_sha_Compress_L1 UO_sha_Compress_L1 (fun k => loopV (fun v => sha_Compress_L1 k.1 v))
abbrev K0_sha_Compress_L2 : List (Nat × Ty) := []
abbrev TM_sha_Compress_L2 : Tm := ⟨[(2, (.ptr 0 [])), (4, (.ptr 1 [])), (6, (.ptr 2 [])), (99, (.hole (.int .i64)))], [(.box (.arr 8 (.int .u32)) (.hole (.arr 8 (.int .u32)))), (.box (.arr 8 (.int .u32)) (.hole (.arr 8 (.int .u32)))), (.box (.arr 8 (.int .u32)) (.hole (.arr 8 (.int .u32))))]⟩
abbrev UO_sha_Compress_L2 : Outs := (.one (.exit 2) ⟨[(4, (.ptr 0 [])), (6, (.ptr 1 []))], [(.box (.arr 8 (.int .u32)) (.hole (.arr 8 (.int .u32)))), (.box (.arr 8 (.int .u32)) (.hole (.arr 8 (.int .u32))))]⟩)
def B_sha_Compress_L2 : Blk := frBlk 0 [] K0_sha_Compress_L2 TM_sha_Compress_L2 UO_sha_Compress_L2 (fun k => loopV (fun v => sha_Compress_L2 v))
def gs_sha_Compress : Nat → Option Blk := lk [(1, B_sha_Compress_L1), (2, B_sha_Compress_L2)]
theorem ct_sha_Compress_L2 : CodeSound Tryd.prog (cx_sha_Compress) (subL (subR (subL (subR (subR (subR (bodyOf Tryd.f30))))))) (B_sha_Compress_L2).D :=
  loop_printed (G := gs_sha_Compress) (A := .leaf) (T0 := K0_sha_Compress_L2) (T := TM_sha_Compress_L2) (U := UO_sha_Compress_L2) (step := (fun k v => sha_Compress_L2 v)) (cxo_sha_Compress) follows (by kernel_rfl) (by kernel_rfl) (CutsOk.leaf _) (by intro k v; kernel_rfl)
theorem ct_sha_Compress_L1 : CodeSound Tryd.prog (cx_sha_Compress) (subL (subR (subL (subR (subR (bodyOf Tryd.f30)))))) (B_sha_Compress_L1).D :=
  loop_printed (G := gs_sha_Compress) (A := .leaf) (T0 := K0_sha_Compress_L1) (T := TM_sha_Compress_L1) (U := UO_sha_Compress_L1) (step := (fun k v => sha_Compress_L1 k.1 v)) (cxo_sha_Compress) follows (by kernel_rfl) (by kernel_rfl) (CutsOk.leaf _) (by intro k v; kernel_rfl)
theorem sd_sha_Compress : FnSound Tryd.prog gl 30 sg_sha_Compress :=
  fn_printed (G := gs_sha_Compress) (A := (.two .leaf (.two .leaf (.two (.two .leaf (.two (.cut 1) .leaf)) (.two (.two .leaf (.two (.cut 2) .leaf)) .leaf))))) (cxo_sha_Compress) follows Tryd.func30 (by kernel_rfl) (by kernel_rfl) (by kernel_rfl) (by kernel_rfl) (by kernel_rfl) (CutsOk.two (CutsOk.leaf _) (CutsOk.two (CutsOk.leaf _) (CutsOk.two (CutsOk.two (CutsOk.leaf _) (CutsOk.two (CutsOk.cut (g := B_sha_Compress_L1) (by kernel_rfl) (ct_sha_Compress_L1)) (CutsOk.leaf _))) (CutsOk.two (CutsOk.two (CutsOk.leaf _) (CutsOk.two (CutsOk.cut (g := B_sha_Compress_L2) (by kernel_rfl) (ct_sha_Compress_L2)) (CutsOk.leaf _))) (CutsOk.leaf _))))) (by intro v; kernel_rfl)
def sg_sha_Sum : Sig := mkSig [(.hole (.slice (.int .u8)))] [] [(.hole (.arr 32 (.int .u8)))] [] (fun p => sha_Sum p.1.1)
theorem fk_sha_Sum : FnOk Tryd.prog 28 := ⟨Tryd.f28, Tryd.func28, by kernel_rfl, by kernel_rfl⟩
def cx_sha_Sum : Cx := ⟨tys, lk [(30, sg_sha_Compress), (29, sg_sha_Pad)], 47, 0, [], gl⟩
theorem cxo_sha_Sum : CxOk Tryd.prog (cx_sha_Sum) := ⟨tys_ok, FnsOk.cons fk_sha_Compress sd_sha_Compress (FnsOk.cons fk_sha_Pad sd_sha_Pad (FnsOk.nil))⟩
abbrev K0_sha_Sum_L1 : List (Nat × Ty) := []
abbrev TM_sha_Sum_L1 : Tm := ⟨[(2, (.ptr 0 [])), (3, (.hole (.slice (.int .u8)))), (4, (.ptr 1 []))], [(.box (.arr 32 (.int .u8)) (.hole (.arr 32 (.int .u8)))), (.box (.arr 8 (.int .u32)) (.hole (.arr 8 (.int .u32))))]⟩
abbrev UO_sha_Sum_L1 : Outs := (.one (.exit 0) ⟨[(2, (.ptr 0 [])), (4, (.ptr 1 []))], [(.box (.arr 32 (.int .u8)) (.hole (.arr 32 (.int .u8)))), (.box (.arr 8 (.int .u32)) (.hole (.arr 8 (.int .u32))))]⟩)
def B_sha_Sum_L1 : Blk := frBlk 0 [] K0_sha_Sum_L1 TM_sha_Sum_L1 UO_sha_Sum_L1 (fun k => loopV (fun v => sha_Sum_L1 v))
abbrev K0_sha_Sum_L2 : List (Nat × Ty) := []
abbrev TM_sha_Sum_L2 : Tm := ⟨[(2, (.ptr 0 [])), (4, (.ptr 1 [])), (5, (.ptr 2 [])), (30, (.hole (.int .i64)))], [(.box (.arr 32 (.int .u8)) (.hole (.arr 32 (.int .u8)))), (.box (.arr 8 (.int .u32)) (.hole (.arr 8 (.int .u32)))), (.box (.arr 32 (.int .u8)) (.hole (.arr 32 (.int .u8))))]⟩
abbrev UO_sha_Sum_L2 : Outs := (.one (.exit 2) ⟨[(2, (.ptr 0 [])), (5, (.ptr 1 []))], [(.box (.arr 32 (.int .u8)) (.hole (.arr 32 (.int .u8)))), (.box (.arr 32 (.int .u8)) (.hole (.arr 32 (.int .u8))))]⟩)
def B_sha_Sum_L2 : Blk := frBlk 0 [] K0_sha_Sum_L2 TM_sha_Sum_L2 UO_sha_Sum_L2 (fun k => loopV (fun v => sha_Sum_L2 v))
def gs_sha_Sum : Nat → Option Blk := lk [(1, B_sha_Sum_L1), (2, B_sha_Sum_L2)]
theorem ct_sha_Sum_L2 : CodeSound Tryd.prog (cx_sha_Sum) (subL (subR (subL (subR (subR (subR (subR (subR (bodyOf Tryd.f28))))))))) (B_sha_Sum_L2).D :=
  loop_printed (G := gs_sha_Sum) (A := .leaf) (T0 := K0_sha_Sum_L2) (T := TM_sha_Sum_L2) (U := UO_sha_Sum_L2) (step := (fun k v => sha_Sum_L2 v)) (cxo_sha_Sum) follows (by kernel_rfl) (by kernel_rfl) (CutsOk.leaf _) (by intro k v; kernel_rfl)
theorem ct_sha_Sum_L1 : CodeSound Tryd.prog (cx_sha_Sum) (subL (subL (subR (subR (subR (bodyOf Tryd.f28)))))) (B_sha_Sum_L1).D :=
  loop_printed (G := gs_sha_Sum) (A := .leaf) (T0 := K0_sha_Sum_L1) (T := TM_sha_Sum_L1) (U := UO_sha_Sum_L1) (step := (fun k v => sha_Sum_L1 v)) (cxo_sha_Sum) follows (by kernel_rfl) (by kernel_rfl) (CutsOk.leaf _) (by intro k v; kernel_rfl)
theorem sd_sha_Sum : FnSound Tryd.prog gl 28 sg_sha_Sum :=
  fn_printed (G := gs_sha_Sum) (A := (.two .leaf (.two .leaf (.two .leaf (.two (.two (.cut 1) .leaf) (.two .leaf (.two (.two .leaf (.two (.cut 2) .leaf)) .leaf))))))) (cxo_sha_Sum) follows Tryd.func28 (by kernel_rfl) (by kernel_rfl) (by kernel_rfl) (by kernel_rfl) (by kernel_rfl) (CutsOk.two (CutsOk.leaf _) (CutsOk.two (CutsOk.leaf _) (CutsOk.two (CutsOk.leaf _) (CutsOk.two (CutsOk.two (CutsOk.cut (g := B_sha_Sum_L1) (by kernel_rfl) (ct_sha_Sum_L1)) (CutsOk.leaf _)) (CutsOk.two (CutsOk.leaf _) (CutsOk.two (CutsOk.two (CutsOk.leaf _) (CutsOk.two (CutsOk.cut (g := B_sha_Sum_L2) (by kernel_rfl) (ct_sha_Sum_L2)) (CutsOk.leaf _))) (CutsOk.leaf _))))))) (by intro v; kernel_rfl)
def sg_sha_Double : Sig := mkSig [(.hole (.slice (.int .u8)))] [] [(.hole (.arr 32 (.int .u8)))] [] (fun p => sha_Double p.1.1)
theorem fk_sha_Double : FnOk Tryd.prog 22 := ⟨Tryd.f22, Tryd.func22, by kernel_rfl, by kernel_rfl⟩
def cx_sha_Double : Cx := ⟨tys, lk [(28, sg_sha_Sum)], 8, 0, [], gl⟩
theorem cxo_sha_Double : CxOk Tryd.prog (cx_sha_Double) := ⟨tys_ok, FnsOk.cons fk_sha_Sum sd_sha_Sum (FnsOk.nil)⟩
def gs_sha_Double : Nat → Option Blk := lk []
theorem sd_sha_Double : FnSound Tryd.prog gl 22 sg_sha_Double :=
  fn_printed (G := gs_sha_Double) (A := .leaf) (cxo_sha_Double) follows Tryd.func22 (by kernel_rfl) (by kernel_rfl) (by kernel_rfl) (by kernel_rfl) (by kernel_rfl) (CutsOk.leaf _) (by intro v; kernel_rfl)
end Go.PE.YthfkhjnomjpaoaaDoor
end
end

section
set_option maxRecDepth 100000
set_option linter.unusedVariables false
noncomputable section
namespace Go.PE.YthfkhjnomjpaoaaDoor
open Go.PE Go.Proofs

def sg_tx_small : Sig := mkSig [(.hole T_8f0a)] [] [(.hole .bool)] [] (fun p => tx_small p.1.1)
theorem fk_tx_small : FnOk Tryd.prog 11 := ⟨Tryd.f11, Tryd.func11, by kernel_rfl, by kernel_rfl⟩
def cx_tx_small : Cx := ⟨tys, lk [], 59, 0, [], gl⟩
theorem cxo_tx_small : CxOk Tryd.prog (cx_tx_small) := ⟨tys_ok, FnsOk.nil⟩
abbrev K0_tx_small_L1 : List (Nat × Ty) := [(20, (.slice T_b101)), (21, (.int .i64))]
abbrev TM_tx_small_L1 : Tm := ⟨[(1, (.ptr 0 [])), (22, (.hole (.int .i64)))], [(.box T_8f0a (.hole T_8f0a))]⟩
abbrev UO_tx_small_L1 : Outs := (.more .ret ⟨[(2, (.hole .bool))], []⟩ (.one (.exit 0) ⟨[(1, (.ptr 0 []))], [(.box T_8f0a (.hole T_8f0a))]⟩))
def B_tx_small_L1 : Blk := frBlk 0 [20, 21] K0_tx_small_L1 TM_tx_small_L1 UO_tx_small_L1 (fun k => loopV (fun v => tx_small_L1 k.1 k.2.1 v))
abbrev K0_tx_small_L3 : List (Nat × Ty) := [(48, (.slice (.slice (.int .u8)))), (49, (.int .i64))]
abbrev TM_tx_small_L3 : Tm := ⟨[(50, (.hole (.int .i64)))], []⟩
abbrev UO_tx_small_L3 : Outs := (.more .ret ⟨[(2, (.hole .bool))], []⟩ (.one (.exit 4) ⟨[], []⟩))
def B_tx_small_L3 : Blk := frBlk 0 [37, 38, 39, 48, 49] K0_tx_small_L3 TM_tx_small_L3 UO_tx_small_L3 (fun k => loopV (fun v => tx_small_L3 k.1 k.2.1 v))
abbrev K0_tx_small_L2 : List (Nat × Ty) := [(37, (.slice T_089d)), (38, (.int .i64))]
abbrev TM_tx_small_L2 : Tm := ⟨[(39, (.hole (.int .i64)))], []⟩
abbrev UO_tx_small_L2 : Outs := (.more .ret ⟨[(2, (.hole .bool))], []⟩ (.one (.exit 2) ⟨[], []⟩))
def B_tx_small_L2 : Blk := frBlk 0 [37, 38] K0_tx_small_L2 TM_tx_small_L2 UO_tx_small_L2 (fun k => loopV (fun v => tx_small_L2 k.1 k.2.1 v))
def gs_tx_small : Nat → Option Blk := lk [(1, B_tx_small_L1), (3, B_tx_small_L3), (2, B_tx_small_L2)]
theorem ct_tx_small_L3 : CodeSound Tryd.prog ((cx_tx_small).fr [37, 38]) (subL (subR (subR (subR (subL (subL (subR (subR (subL (subL (subR (subL (subR (subR (subR (bodyOf Tryd.f11)))))))))))))))) (B_tx_small_L3).D :=
  loop_printed (G := gs_tx_small) (A := .leaf) (T0 := K0_tx_small_L3) (T := TM_tx_small_L3) (U := UO_tx_small_L3) (step := (fun k v => tx_small_L3 k.1 k.2.1 v)) ((cxo_tx_small).fr [37, 38]) follows (by kernel_rfl) (by kernel_rfl) (CutsOk.leaf _) (by intro k v; kernel_rfl)
theorem ct_tx_small_L2 : CodeSound Tryd.prog (cx_tx_small) (subL (subR (subL (subR (subR (subR (bodyOf Tryd.f11))))))) (B_tx_small_L2).D :=
  loop_printed (G := gs_tx_small) (A := (.two .leaf (.two .leaf (.two (.two (.two .leaf (.two .leaf (.two .leaf (.two (.cut 3) .leaf)))) .leaf) .leaf)))) (T0 := K0_tx_small_L2) (T := TM_tx_small_L2) (U := UO_tx_small_L2) (step := (fun k v => tx_small_L2 k.1 k.2.1 v)) (cxo_tx_small) follows (by kernel_rfl) (by kernel_rfl) (CutsOk.two (CutsOk.leaf _) (CutsOk.two (CutsOk.leaf _) (CutsOk.two (CutsOk.two (CutsOk.two (CutsOk.leaf _) (CutsOk.two (CutsOk.leaf _) (CutsOk.two (CutsOk.leaf _) (CutsOk.two (CutsOk.cut (g := B_tx_small_L3) (by kernel_rfl) (ct_tx_small_L3)) (CutsOk.leaf _))))) (CutsOk.leaf _)) (CutsOk.leaf _)))) (by intro k v; kernel_rfl)
theorem ct_tx_small_L1 : CodeSound Tryd.prog (cx_tx_small) (subL (subR (subL (subR (subR (bodyOf Tryd.f11)))))) (B_tx_small_L1).D :=
  loop_printed (G := gs_tx_small) (A := .leaf) (T0 := K0_tx_small_L1) (T := TM_tx_small_L1) (U := UO_tx_small_L1) (step := (fun k v => tx_small_L1 k.1 k.2.1 v)) (cxo_tx_small) follows (by kernel_rfl) (by kernel_rfl) (CutsOk.leaf _) (by intro k v; kernel_rfl)
theorem sd_tx_small : FnSound Tryd.prog gl 11 sg_tx_small :=
  fn_printed (G := gs_tx_small) (A := (.two .leaf (.two .leaf (.two (.two .leaf (.two (.cut 1) .leaf)) (.two (.two .leaf (.two (.cut 2) .leaf)) .leaf))))) (cxo_tx_small) follows Tryd.func11 (by kernel_rfl) (by kernel_rfl) (by kernel_rfl) (by kernel_rfl) (by kernel_rfl) (CutsOk.two (CutsOk.leaf _) (CutsOk.two (CutsOk.leaf _) (CutsOk.two (CutsOk.two (CutsOk.leaf _) (CutsOk.two (CutsOk.cut (g := B_tx_small_L1) (by kernel_rfl) (ct_tx_small_L1)) (CutsOk.leaf _))) (CutsOk.two (CutsOk.two (CutsOk.leaf _) (CutsOk.two (CutsOk.cut (g := B_tx_small_L2) (by kernel_rfl) (ct_tx_small_L2)) (CutsOk.leaf _))) (CutsOk.leaf _))))) (by intro v; kernel_rfl)
def sg_tx_Point : Sig := mkSig [(.hole T_b85e)] [] [(.own 0)] [(.vec (.int .u8))] (fun p => tx_Point p.1.1)
theorem fk_tx_Point : FnOk Tryd.prog 19 := ⟨Tryd.f19, Tryd.func19, by kernel_rfl, by kernel_rfl⟩
def cx_tx_Point : Cx := ⟨tys, lk [(27, sg_codec_AppendHash), (17, sg_codec_AppendU32)], 9, 0, [], gl⟩
theorem cxo_tx_Point : CxOk Tryd.prog (cx_tx_Point) := ⟨tys_ok, FnsOk.cons fk_codec_AppendHash sd_codec_AppendHash (FnsOk.cons fk_codec_AppendU32 sd_codec_AppendU32 (FnsOk.nil))⟩
def gs_tx_Point : Nat → Option Blk := lk []
theorem sd_tx_Point : FnSound Tryd.prog gl 19 sg_tx_Point :=
  fn_printed (G := gs_tx_Point) (A := .leaf) (cxo_tx_Point) follows Tryd.func19 (by kernel_rfl) (by kernel_rfl) (by kernel_rfl) (by kernel_rfl) (by kernel_rfl) (CutsOk.leaf _) (by intro v; kernel_rfl)
def sg_tx_encode : Sig := mkSig [(.hole T_8f0a), (.hole .bool)] [] [(.own 0)] [(.vec (.int .u8))] (fun p => tx_encode p.1.1 p.1.2.1)
theorem fk_tx_encode : FnOk Tryd.prog 12 := ⟨Tryd.f12, Tryd.func12, by kernel_rfl, by kernel_rfl⟩
def cx_tx_encode : Cx := ⟨tys, lk [(21, sg_codec_AppendBytes), (18, sg_codec_AppendSize), (17, sg_codec_AppendU32), (20, sg_codec_AppendU64), (19, sg_tx_Point)], 95, 0, [], gl⟩
theorem cxo_tx_encode : CxOk Tryd.prog (cx_tx_encode) := ⟨tys_ok, FnsOk.cons fk_codec_AppendBytes sd_codec_AppendBytes (FnsOk.cons fk_codec_AppendSize sd_codec_AppendSize (FnsOk.cons fk_codec_AppendU32 sd_codec_AppendU32 (FnsOk.cons fk_codec_AppendU64 sd_codec_AppendU64 (FnsOk.cons fk_tx_Point sd_tx_Point (FnsOk.nil)))))⟩
abbrev K0_tx_encode_L1 : List (Nat × Ty) := [(24, (.slice T_089d)), (25, (.int .i64))]
abbrev TM_tx_encode_L1 : Tm := ⟨[(2, (.ptr 0 [])), (5, (.own 1)), (26, (.hole (.int .i64)))], [(.box T_8f0a (.hole T_8f0a)), (.vec (.int .u8))]⟩
abbrev UO_tx_encode_L1 : Outs := (.one (.exit 0) ⟨[(2, (.ptr 0 [])), (5, (.own 1))], [(.box T_8f0a (.hole T_8f0a)), (.vec (.int .u8))]⟩)
def B_tx_encode_L1 : Blk := frBlk 0 [1, 4, 24, 25] K0_tx_encode_L1 TM_tx_encode_L1 UO_tx_encode_L1 (fun k => loopV (fun v => tx_encode_L1 k.1 k.2.1 v))
abbrev K0_tx_encode_L2 : List (Nat × Ty) := [(47, (.slice T_b101)), (48, (.int .i64))]
abbrev TM_tx_encode_L2 : Tm := ⟨[(2, (.ptr 0 [])), (5, (.own 1)), (49, (.hole (.int .i64)))], [(.box T_8f0a (.hole T_8f0a)), (.vec (.int .u8))]⟩
abbrev UO_tx_encode_L2 : Outs := (.one (.exit 2) ⟨[(2, (.ptr 0 [])), (5, (.own 1))], [(.box T_8f0a (.hole T_8f0a)), (.vec (.int .u8))]⟩)
def B_tx_encode_L2 : Blk := frBlk 0 [1, 4, 47, 48] K0_tx_encode_L2 TM_tx_encode_L2 UO_tx_encode_L2 (fun k => loopV (fun v => tx_encode_L2 k.1 k.2.1 v))
abbrev K0_tx_encode_L4 : List (Nat × Ty) := [(83, (.slice (.slice (.int .u8)))), (84, (.int .i64))]
abbrev TM_tx_encode_L4 : Tm := ⟨[(5, (.own 0)), (85, (.hole (.int .i64)))], [(.vec (.int .u8))]⟩
abbrev UO_tx_encode_L4 : Outs := (.one (.exit 6) ⟨[(5, (.own 0))], [(.vec (.int .u8))]⟩)
def B_tx_encode_L4 : Blk := frBlk 0 [1, 68, 69, 70, 83, 84] K0_tx_encode_L4 TM_tx_encode_L4 UO_tx_encode_L4 (fun k => loopV (fun v => tx_encode_L4 k.1 k.2.1 v))
abbrev K0_tx_encode_L3 : List (Nat × Ty) := [(1, .bool), (68, (.slice T_089d)), (69, (.int .i64))]
abbrev TM_tx_encode_L3 : Tm := ⟨[(5, (.own 0)), (70, (.hole (.int .i64)))], [(.vec (.int .u8))]⟩
abbrev UO_tx_encode_L3 : Outs := (.one (.exit 4) ⟨[(5, (.own 0))], [(.vec (.int .u8))]⟩)
def B_tx_encode_L3 : Blk := frBlk 0 [1, 4, 68, 69] K0_tx_encode_L3 TM_tx_encode_L3 UO_tx_encode_L3 (fun k => loopV (fun v => tx_encode_L3 k.1 k.2.1 k.2.2.1 v))
def gs_tx_encode : Nat → Option Blk := lk [(1, B_tx_encode_L1), (2, B_tx_encode_L2), (4, B_tx_encode_L4), (3, B_tx_encode_L3)]
theorem ct_tx_encode_L4 : CodeSound Tryd.prog ((cx_tx_encode).fr [1, 4, 68, 69]) (subL (subR (subR (subR (subR (subL (subL (subR (subR (subL (subL (subR (subL (subR (subR (subR (subR (subR (subR (subR (bodyOf Tryd.f12))))))))))))))))))))) (B_tx_encode_L4).D :=
  loop_printed (G := gs_tx_encode) (A := .leaf) (T0 := K0_tx_encode_L4) (T := TM_tx_encode_L4) (U := UO_tx_encode_L4) (step := (fun k v => tx_encode_L4 k.1 k.2.1 v)) ((cxo_tx_encode).fr [1, 4, 68, 69]) follows (by kernel_rfl) (by kernel_rfl) (CutsOk.leaf _) (by intro k v; kernel_rfl)
theorem ct_tx_encode_L3 : CodeSound Tryd.prog (cx_tx_encode) (subL (subR (subL (subR (subR (subR (subR (subR (subR (subR (bodyOf Tryd.f12))))))))))) (B_tx_encode_L3).D :=
  loop_printed (G := gs_tx_encode) (A := (.two .leaf (.two .leaf (.two (.two (.two .leaf (.two .leaf (.two .leaf (.two .leaf (.two (.cut 4) .leaf))))) .leaf) .leaf)))) (T0 := K0_tx_encode_L3) (T := TM_tx_encode_L3) (U := UO_tx_encode_L3) (step := (fun k v => tx_encode_L3 k.1 k.2.1 k.2.2.1 v)) (cxo_tx_encode) follows (by kernel_rfl) (by kernel_rfl) (CutsOk.two (CutsOk.leaf _) (CutsOk.two (CutsOk.leaf _) (CutsOk.two (CutsOk.two (CutsOk.two (CutsOk.leaf _) (CutsOk.two (CutsOk.leaf _) (CutsOk.two (CutsOk.leaf _) (CutsOk.two (CutsOk.leaf _) (CutsOk.two (CutsOk.cut (g := B_tx_encode_L4) (by kernel_rfl) (ct_tx_encode_L4)) (CutsOk.leaf _)))))) (CutsOk.leaf _)) (CutsOk.leaf _)))) (by intro k v; kernel_rfl)
theorem ct_tx_encode_L2 : CodeSound Tryd.prog (cx_tx_encode) (subL (subR (subL (subR (subR (subR (subR (subR (bodyOf Tryd.f12))))))))) (B_tx_encode_L2).D :=
  loop_printed (G := gs_tx_encode) (A := .leaf) (T0 := K0_tx_encode_L2) (T := TM_tx_encode_L2) (U := UO_tx_encode_L2) (step := (fun k v => tx_encode_L2 k.1 k.2.1 v)) (cxo_tx_encode) follows (by kernel_rfl) (by kernel_rfl) (CutsOk.leaf _) (by intro k v; kernel_rfl)
theorem ct_tx_encode_L1 : CodeSound Tryd.prog (cx_tx_encode) (subL (subR (subL (subR (subR (subR (bodyOf Tryd.f12))))))) (B_tx_encode_L1).D :=
  loop_printed (G := gs_tx_encode) (A := .leaf) (T0 := K0_tx_encode_L1) (T := TM_tx_encode_L1) (U := UO_tx_encode_L1) (step := (fun k v => tx_encode_L1 k.1 k.2.1 v)) (cxo_tx_encode) follows (by kernel_rfl) (by kernel_rfl) (CutsOk.leaf _) (by intro k v; kernel_rfl)
theorem sd_tx_encode : FnSound Tryd.prog gl 12 sg_tx_encode :=
  fn_printed (G := gs_tx_encode) (A := (.two .leaf (.two .leaf (.two .leaf (.two (.two .leaf (.two (.cut 1) .leaf)) (.two .leaf (.two (.two .leaf (.two (.cut 2) .leaf)) (.two .leaf (.two (.two .leaf (.two (.cut 3) .leaf)) .leaf))))))))) (cxo_tx_encode) follows Tryd.func12 (by kernel_rfl) (by kernel_rfl) (by kernel_rfl) (by kernel_rfl) (by kernel_rfl) (CutsOk.two (CutsOk.leaf _) (CutsOk.two (CutsOk.leaf _) (CutsOk.two (CutsOk.leaf _) (CutsOk.two (CutsOk.two (CutsOk.leaf _) (CutsOk.two (CutsOk.cut (g := B_tx_encode_L1) (by kernel_rfl) (ct_tx_encode_L1)) (CutsOk.leaf _))) (CutsOk.two (CutsOk.leaf _) (CutsOk.two (CutsOk.two (CutsOk.leaf _) (CutsOk.two (CutsOk.cut (g := B_tx_encode_L2) (by kernel_rfl) (ct_tx_encode_L2)) (CutsOk.leaf _))) (CutsOk.two (CutsOk.leaf _) (CutsOk.two (CutsOk.two (CutsOk.leaf _) (CutsOk.two (CutsOk.cut (g := B_tx_encode_L3) (by kernel_rfl) (ct_tx_encode_L3)) (CutsOk.leaf _))) (CutsOk.leaf _))))))))) (by intro v; kernel_rfl)
def sg_tx_Encode : Sig := mkSig [(.hole T_8f0a), (.hole .bool)] [] [(.own 0), (.hole (.int .i64))] [(.vec (.int .u8))] (fun p => tx_Encode p.1.1 p.1.2.1)
theorem fk_tx_Encode : FnOk Tryd.prog 7 := ⟨Tryd.f7, Tryd.func7, by kernel_rfl, by kernel_rfl⟩
def cx_tx_Encode : Cx := ⟨tys, lk [(12, sg_tx_encode), (11, sg_tx_small)], 21, 0, [], gl⟩
theorem cxo_tx_Encode : CxOk Tryd.prog (cx_tx_Encode) := ⟨tys_ok, FnsOk.cons fk_tx_encode sd_tx_encode (FnsOk.cons fk_tx_small sd_tx_small (FnsOk.nil))⟩
def gs_tx_Encode : Nat → Option Blk := lk []
theorem sd_tx_Encode : FnSound Tryd.prog gl 7 sg_tx_Encode :=
  fn_printed (G := gs_tx_Encode) (A := .leaf) (cxo_tx_Encode) follows Tryd.func7 (by kernel_rfl) (by kernel_rfl) (by kernel_rfl) (by kernel_rfl) (by kernel_rfl) (CutsOk.leaf _) (by intro v; kernel_rfl)
def sg_tx_Weight : Sig := mkSig [(.hole T_8f0a)] [] [(.hole (.int .i64))] [] (fun p => tx_Weight p.1.1)
theorem fk_tx_Weight : FnOk Tryd.prog 9 := ⟨Tryd.f9, Tryd.func9, by kernel_rfl, by kernel_rfl⟩
def cx_tx_Weight : Cx := ⟨tys, lk [(7, sg_tx_Encode), (12, sg_tx_encode)], 19, 0, [], gl⟩
theorem cxo_tx_Weight : CxOk Tryd.prog (cx_tx_Weight) := ⟨tys_ok, FnsOk.cons fk_tx_Encode sd_tx_Encode (FnsOk.cons fk_tx_encode sd_tx_encode (FnsOk.nil))⟩
def gs_tx_Weight : Nat → Option Blk := lk []
theorem sd_tx_Weight : FnSound Tryd.prog gl 9 sg_tx_Weight :=
  fn_printed (G := gs_tx_Weight) (A := .leaf) (cxo_tx_Weight) follows Tryd.func9 (by kernel_rfl) (by kernel_rfl) (by kernel_rfl) (by kernel_rfl) (by kernel_rfl) (CutsOk.leaf _) (by intro v; kernel_rfl)
def sg_tx_money : Sig := mkSig [(.hole (.slice T_b101))] [] [(.hole .bool)] [] (fun p => tx_money p.1.1)
theorem fk_tx_money : FnOk Tryd.prog 14 := ⟨Tryd.f14, Tryd.func14, by kernel_rfl, by kernel_rfl⟩
def cx_tx_money : Cx := ⟨tys, lk [], 22, 0, [], gl⟩
theorem cxo_tx_money : CxOk Tryd.prog (cx_tx_money) := ⟨tys_ok, FnsOk.nil⟩
abbrev K0_tx_money_L1 : List (Nat × Ty) := [(6, (.slice T_b101)), (7, (.int .i64))]
abbrev TM_tx_money_L1 : Tm := ⟨[(3, (.hole (.int .i64))), (8, (.hole (.int .i64)))], []⟩
abbrev UO_tx_money_L1 : Outs := (.more .ret ⟨[(2, (.hole .bool))], []⟩ (.one (.exit 0) ⟨[(3, (.hole (.int .i64)))], []⟩))
def B_tx_money_L1 : Blk := frBlk 0 [6, 7] K0_tx_money_L1 TM_tx_money_L1 UO_tx_money_L1 (fun k => loopV (fun v => tx_money_L1 k.1 k.2.1 v))
def gs_tx_money : Nat → Option Blk := lk [(1, B_tx_money_L1)]
theorem ct_tx_money_L1 : CodeSound Tryd.prog (cx_tx_money) (subL (subR (subL (subR (subR (bodyOf Tryd.f14)))))) (B_tx_money_L1).D :=
  loop_printed (G := gs_tx_money) (A := .leaf) (T0 := K0_tx_money_L1) (T := TM_tx_money_L1) (U := UO_tx_money_L1) (step := (fun k v => tx_money_L1 k.1 k.2.1 v)) (cxo_tx_money) follows (by kernel_rfl) (by kernel_rfl) (CutsOk.leaf _) (by intro k v; kernel_rfl)
theorem sd_tx_money : FnSound Tryd.prog gl 14 sg_tx_money :=
  fn_printed (G := gs_tx_money) (A := (.two .leaf (.two .leaf (.two (.two .leaf (.two (.cut 1) .leaf)) .leaf)))) (cxo_tx_money) follows Tryd.func14 (by kernel_rfl) (by kernel_rfl) (by kernel_rfl) (by kernel_rfl) (by kernel_rfl) (CutsOk.two (CutsOk.leaf _) (CutsOk.two (CutsOk.leaf _) (CutsOk.two (CutsOk.two (CutsOk.leaf _) (CutsOk.two (CutsOk.cut (g := B_tx_money_L1) (by kernel_rfl) (ct_tx_money_L1)) (CutsOk.leaf _))) (CutsOk.leaf _)))) (by intro v; kernel_rfl)
def sg_tx_null : Sig := mkSig [] [] [(.hole T_b85e)] [] (fun p => tx_null)
theorem fk_tx_null : FnOk Tryd.prog 15 := ⟨Tryd.f15, Tryd.func15, by kernel_rfl, by kernel_rfl⟩
def cx_tx_null : Cx := ⟨tys, lk [], 2, 0, [], gl⟩
theorem cxo_tx_null : CxOk Tryd.prog (cx_tx_null) := ⟨tys_ok, FnsOk.nil⟩
def gs_tx_null : Nat → Option Blk := lk []
theorem sd_tx_null : FnSound Tryd.prog gl 15 sg_tx_null :=
  fn_printed (G := gs_tx_null) (A := .leaf) (cxo_tx_null) follows Tryd.func15 (by kernel_rfl) (by kernel_rfl) (by kernel_rfl) (by kernel_rfl) (by kernel_rfl) (CutsOk.leaf _) (by intro v; kernel_rfl)
def sg_tx_Coinbase : Sig := mkSig [(.hole T_8f0a)] [] [(.hole .bool)] [] (fun p => tx_Coinbase p.1.1)
theorem fk_tx_Coinbase : FnOk Tryd.prog 16 := ⟨Tryd.f16, Tryd.func16, by kernel_rfl, by kernel_rfl⟩
def cx_tx_Coinbase : Cx := ⟨tys, lk [(15, sg_tx_null)], 16, 0, [], gl⟩
theorem cxo_tx_Coinbase : CxOk Tryd.prog (cx_tx_Coinbase) := ⟨tys_ok, FnsOk.cons fk_tx_null sd_tx_null (FnsOk.nil)⟩
def gs_tx_Coinbase : Nat → Option Blk := lk []
theorem sd_tx_Coinbase : FnSound Tryd.prog gl 16 sg_tx_Coinbase :=
  fn_printed (G := gs_tx_Coinbase) (A := .leaf) (cxo_tx_Coinbase) follows Tryd.func16 (by kernel_rfl) (by kernel_rfl) (by kernel_rfl) (by kernel_rfl) (by kernel_rfl) (CutsOk.leaf _) (by intro v; kernel_rfl)
def sg_tx_Check : Sig := mkSig [(.hole T_8f0a)] [] [(.hole (.int .i64))] [] (fun p => tx_Check p.1.1)
theorem fk_tx_Check : FnOk Tryd.prog 10 := ⟨Tryd.f10, Tryd.func10, by kernel_rfl, by kernel_rfl⟩
def cx_tx_Check : Cx := ⟨tys, lk [(16, sg_tx_Coinbase), (7, sg_tx_Encode), (14, sg_tx_money), (15, sg_tx_null)], 54, 0, [], gl⟩
theorem cxo_tx_Check : CxOk Tryd.prog (cx_tx_Check) := ⟨tys_ok, FnsOk.cons fk_tx_Coinbase sd_tx_Coinbase (FnsOk.cons fk_tx_Encode sd_tx_Encode (FnsOk.cons fk_tx_money sd_tx_money (FnsOk.cons fk_tx_null sd_tx_null (FnsOk.nil))))⟩
abbrev K0_tx_Check_L1 : List (Nat × Ty) := [(32, (.slice T_089d)), (33, (.int .i64))]
abbrev TM_tx_Check_L1 : Tm := ⟨[(1, (.ptr 0 [])), (5, (.mref 1)), (34, (.hole (.int .i64)))], [(.box T_8f0a (.hole T_8f0a)), (.mp T_b85e .bool)]⟩
abbrev UO_tx_Check_L1 : Outs := (.more .ret ⟨[(2, (.hole (.int .i64)))], []⟩ (.one (.exit 0) ⟨[(1, (.ptr 0 [])), (5, (.mref 1))], [(.box T_8f0a (.hole T_8f0a)), (.mp T_b85e .bool)]⟩))
def B_tx_Check_L1 : Blk := frBlk 0 [32, 33] K0_tx_Check_L1 TM_tx_Check_L1 UO_tx_Check_L1 (fun k => loopV (fun v => tx_Check_L1 k.1 k.2.1 v))
def gs_tx_Check : Nat → Option Blk := lk [(1, B_tx_Check_L1)]
theorem ct_tx_Check_L1 : CodeSound Tryd.prog (cx_tx_Check) (subL (subR (subL (subR (subR (subR (subR (subR (bodyOf Tryd.f10))))))))) (B_tx_Check_L1).D :=
  loop_printed (G := gs_tx_Check) (A := .leaf) (T0 := K0_tx_Check_L1) (T := TM_tx_Check_L1) (U := UO_tx_Check_L1) (step := (fun k v => tx_Check_L1 k.1 k.2.1 v)) (cxo_tx_Check) follows (by kernel_rfl) (by kernel_rfl) (CutsOk.leaf _) (by intro k v; kernel_rfl)
theorem sd_tx_Check : FnSound Tryd.prog gl 10 sg_tx_Check :=
  fn_printed (G := gs_tx_Check) (A := (.two .leaf (.two .leaf (.two .leaf (.two .leaf (.two .leaf (.two (.two .leaf (.two (.cut 1) .leaf)) .leaf))))))) (cxo_tx_Check) follows Tryd.func10 (by kernel_rfl) (by kernel_rfl) (by kernel_rfl) (by kernel_rfl) (by kernel_rfl) (CutsOk.two (CutsOk.leaf _) (CutsOk.two (CutsOk.leaf _) (CutsOk.two (CutsOk.leaf _) (CutsOk.two (CutsOk.leaf _) (CutsOk.two (CutsOk.leaf _) (CutsOk.two (CutsOk.two (CutsOk.leaf _) (CutsOk.two (CutsOk.cut (g := B_tx_Check_L1) (by kernel_rfl) (ct_tx_Check_L1)) (CutsOk.leaf _))) (CutsOk.leaf _))))))) (by intro v; kernel_rfl)
def sg_tx_digest : Sig := mkSig [(.hole T_8f0a), (.hole .bool)] [] [(.hole (.arr 32 (.int .u8)))] [] (fun p => tx_digest p.1.1 p.1.2.1)
theorem fk_tx_digest : FnOk Tryd.prog 13 := ⟨Tryd.f13, Tryd.func13, by kernel_rfl, by kernel_rfl⟩
def cx_tx_digest : Cx := ⟨tys, lk [(22, sg_sha_Double), (7, sg_tx_Encode)], 18, 0, [], gl⟩
theorem cxo_tx_digest : CxOk Tryd.prog (cx_tx_digest) := ⟨tys_ok, FnsOk.cons fk_sha_Double sd_sha_Double (FnsOk.cons fk_tx_Encode sd_tx_Encode (FnsOk.nil))⟩
def gs_tx_digest : Nat → Option Blk := lk []
theorem sd_tx_digest : FnSound Tryd.prog gl 13 sg_tx_digest :=
  fn_printed (G := gs_tx_digest) (A := .leaf) (cxo_tx_digest) follows Tryd.func13 (by kernel_rfl) (by kernel_rfl) (by kernel_rfl) (by kernel_rfl) (by kernel_rfl) (CutsOk.leaf _) (by intro v; kernel_rfl)
def sg_tx_ID : Sig := mkSig [(.hole T_8f0a)] [] [(.hole (.arr 32 (.int .u8)))] [] (fun p => tx_ID p.1.1)
theorem fk_tx_ID : FnOk Tryd.prog 8 := ⟨Tryd.f8, Tryd.func8, by kernel_rfl, by kernel_rfl⟩
def cx_tx_ID : Cx := ⟨tys, lk [(13, sg_tx_digest)], 5, 0, [], gl⟩
theorem cxo_tx_ID : CxOk Tryd.prog (cx_tx_ID) := ⟨tys_ok, FnsOk.cons fk_tx_digest sd_tx_digest (FnsOk.nil)⟩
def gs_tx_ID : Nat → Option Blk := lk []
theorem sd_tx_ID : FnSound Tryd.prog gl 8 sg_tx_ID :=
  fn_printed (G := gs_tx_ID) (A := .leaf) (cxo_tx_ID) follows Tryd.func8 (by kernel_rfl) (by kernel_rfl) (by kernel_rfl) (by kernel_rfl) (by kernel_rfl) (CutsOk.leaf _) (by intro v; kernel_rfl)
end Go.PE.YthfkhjnomjpaoaaDoor
end
end

section
set_option maxRecDepth 100000
set_option linter.unusedVariables false
noncomputable section
namespace Go.PE.YthfkhjnomjpaoaaDoor
open Go.PE Go.Proofs

def sg_law09_sane : Sig := mkSig [] [] [(.hole .bool)] [] (fun p => law09_sane)
theorem fk_law09_sane : FnOk Tryd.prog 4 := ⟨Tryd.f4, Tryd.func4, by kernel_rfl, by kernel_rfl⟩
def cx_law09_sane : Cx := ⟨tys, lk [(10, sg_tx_Check), (7, sg_tx_Encode), (9, sg_tx_Weight)], 36, 0, [], gl⟩
theorem cxo_law09_sane : CxOk Tryd.prog (cx_law09_sane) := ⟨tys_ok, FnsOk.cons fk_tx_Check sd_tx_Check (FnsOk.cons fk_tx_Encode sd_tx_Encode (FnsOk.cons fk_tx_Weight sd_tx_Weight (FnsOk.nil)))⟩
def gs_law09_sane : Nat → Option Blk := lk []
theorem sd_law09_sane : FnSound Tryd.prog gl 4 sg_law09_sane :=
  fn_printed (G := gs_law09_sane) (A := .leaf) (cxo_law09_sane) follows Tryd.func4 (by kernel_rfl) (by kernel_rfl) (by kernel_rfl) (by kernel_rfl) (by kernel_rfl) (CutsOk.leaf _) (by intro v; kernel_rfl)
def sg_law09_TxWitnessFree : Sig := mkSig [(.hole T_8f0a), (.hole (.slice (.slice (.int .u8))))] [] [(.hole .bool)] [] (fun p => law09_TxWitnessFree p.1.1 p.1.2.1)
theorem fk_law09_TxWitnessFree : FnOk Tryd.prog 3 := ⟨Tryd.f3, Tryd.func3, by kernel_rfl, by kernel_rfl⟩
def cx_law09_TxWitnessFree : Cx := ⟨tys, lk [(6, sg_keep_Items), (5, sg_keep_Tx), (4, sg_law09_sane), (7, sg_tx_Encode), (8, sg_tx_ID)], 59, 0, [], gl⟩
theorem cxo_law09_TxWitnessFree : CxOk Tryd.prog (cx_law09_TxWitnessFree) := ⟨tys_ok, FnsOk.cons fk_keep_Items sd_keep_Items (FnsOk.cons fk_keep_Tx sd_keep_Tx (FnsOk.cons fk_law09_sane sd_law09_sane (FnsOk.cons fk_tx_Encode sd_tx_Encode (FnsOk.cons fk_tx_ID sd_tx_ID (FnsOk.nil)))))⟩
def gs_law09_TxWitnessFree : Nat → Option Blk := lk []
theorem sd_law09_TxWitnessFree : FnSound Tryd.prog gl 3 sg_law09_TxWitnessFree :=
  fn_printed (G := gs_law09_TxWitnessFree) (A := .leaf) (cxo_law09_TxWitnessFree) follows Tryd.func3 (by kernel_rfl) (by kernel_rfl) (by kernel_rfl) (by kernel_rfl) (by kernel_rfl) (CutsOk.leaf _) (by intro v; kernel_rfl)
end Go.PE.YthfkhjnomjpaoaaDoor
end
end
