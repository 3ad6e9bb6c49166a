/- The functions of the program do what their printed texts say; no condition. -/
import Derived.Test.YtolhomapnlcadaaDoorProg
import Derived.Test.YtolhomapnlcadaaDoorQc
import Derived.Test.YtolhomapnlcadaaDoorPa
import Derived.KernelRfl
section
set_option maxRecDepth 100000
noncomputable section
namespace Go.PE.YtolhomapnlcadaaDoor
open Go.PE Go.Proofs
def gl : Gl := fun g => bif Nat.beq g 0 then some ⟨(.arr 8 (.int .u32)), G_3e2daa⟩ else (bif Nat.beq g 1 then some ⟨(.arr 64 (.int .u32)), G_c990df⟩ else (none))
def tys : Nat → Option Ty := lk [(3, (.int .i64)), (4, .bool), (5, (.int .u8)), (22, (.slice (.arr 32 (.int .u8)))), (24, T_d60b), (26, (.arr 32 (.int .u8))), (30, (.int .i64)), (42, (.slice (.int .u8))), (44, T_b101), (58, (.int .u64)), (59, (.slice (.slice (.int .u8)))), (62, (.int .u16)), (64, (.int .u32)), (68, (.arr 8 (.int .u32))), (70, (.arr 64 (.int .u8))), (72, (.int .u64)), (73, (.arr 64 (.int .u32)))]
theorem follows : Tryd.prog.follows .mixedOrders = true := by kernel_rfl
theorem ty_3 : fitTy Tryd.prog (.int .i64) (.id 3) = true := by kernel_rfl
theorem ty_4 : fitTy Tryd.prog .bool (.id 4) = true := by kernel_rfl
theorem ty_5 : fitTy Tryd.prog (.int .u8) (.id 5) = true := by kernel_rfl
theorem ty_22 : fitTy Tryd.prog (.slice (.arr 32 (.int .u8))) (.id 22) = true := by kernel_rfl
theorem ty_24 : fitTy Tryd.prog T_d60b (.id 24) = true := by kernel_rfl
theorem ty_26 : fitTy Tryd.prog (.arr 32 (.int .u8)) (.id 26) = true := by kernel_rfl
theorem ty_30 : fitTy Tryd.prog (.int .i64) (.id 30) = true := by kernel_rfl
theorem ty_42 : fitTy Tryd.prog (.slice (.int .u8)) (.id 42) = true := by kernel_rfl
theorem ty_44 : fitTy Tryd.prog T_b101 (.id 44) = true := by kernel_rfl
theorem ty_58 : fitTy Tryd.prog (.int .u64) (.id 58) = true := by kernel_rfl
theorem ty_59 : fitTy Tryd.prog (.slice (.slice (.int .u8))) (.id 59) = true := by kernel_rfl
theorem ty_62 : fitTy Tryd.prog (.int .u16) (.id 62) = true := by kernel_rfl
theorem ty_64 : fitTy Tryd.prog (.int .u32) (.id 64) = true := by kernel_rfl
theorem ty_68 : fitTy Tryd.prog (.arr 8 (.int .u32)) (.id 68) = true := by kernel_rfl
theorem ty_70 : fitTy Tryd.prog (.arr 64 (.int .u8)) (.id 70) = true := by kernel_rfl
theorem ty_72 : fitTy Tryd.prog (.int .u64) (.id 72) = true := by kernel_rfl
theorem ty_73 : fitTy Tryd.prog (.arr 64 (.int .u32)) (.id 73) = true := by kernel_rfl
theorem dep : Nat.ble 62 Tryd.prog.depth = true := by kernel_rfl
theorem tys_ok : TyOk Tryd.prog tys := TyOk.lk_cons ty_3 (TyOk.lk_cons ty_4 (TyOk.lk_cons ty_5 (TyOk.lk_cons ty_22 (TyOk.lk_cons ty_24 (TyOk.lk_cons ty_26 (TyOk.lk_cons ty_30 (TyOk.lk_cons ty_42 (TyOk.lk_cons ty_44 (TyOk.lk_cons ty_58 (TyOk.lk_cons ty_59 (TyOk.lk_cons ty_62 (TyOk.lk_cons ty_64 (TyOk.lk_cons ty_68 (TyOk.lk_cons ty_70 (TyOk.lk_cons ty_72 (TyOk.lk_cons ty_73 (TyOk.lk_nil (Nat.le_of_ble_eq_true dep))))))))))))))))))
end Go.PE.YtolhomapnlcadaaDoor
end
end

section
set_option maxRecDepth 100000
set_option linter.unusedVariables false
noncomputable section
namespace Go.PE.YtolhomapnlcadaaDoor
open Go.PE Go.Proofs

def sg_codec_put_uint8 : Sig := mkSig [(.hole (.slice (.int .u8))), (.hole (.int .u8)), (.hole (.int .i64))] [] [(.own 0)] [(.vec (.int .u8))] (fun p => codec_put_uint8 p.1.1 p.1.2.1 p.1.2.2.1)
theorem fk_codec_put_uint8 : FnOk Tryd.prog 47 := ⟨Tryd.f47, Tryd.func47, by kernel_rfl, by kernel_rfl⟩
def cx_codec_put_uint8 : Cx := ⟨tys, lk [], 31, 0, [], gl⟩
theorem cxo_codec_put_uint8 : CxOk Tryd.prog (cx_codec_put_uint8) := ⟨tys_ok, FnsOk.nil⟩
abbrev K0_codec_put_uint8_L1 : List (Nat × Ty) := [(1, (.int .u8)), (16, (.int .i64))]
abbrev TM_codec_put_uint8_L1 : Tm := ⟨[(7, (.own 0)), (17, (.hole (.int .i64)))], [(.vec (.int .u8))]⟩
abbrev UO_codec_put_uint8_L1 : Outs := (.one (.exit 0) ⟨[(7, (.own 0))], [(.vec (.int .u8))]⟩)
def B_codec_put_uint8_L1 : Blk := frBlk 0 [1, 6, 16] K0_codec_put_uint8_L1 TM_codec_put_uint8_L1 UO_codec_put_uint8_L1 (fun k => loopV (fun v => codec_put_uint8_L1 k.1 k.2.1 v))
def gs_codec_put_uint8 : Nat → Option Blk := lk [(1, B_codec_put_uint8_L1)]
theorem ct_codec_put_uint8_L1 : CodeSound Tryd.prog (cx_codec_put_uint8) (subL (subR (subL (subR (subR (bodyOf Tryd.f47)))))) (B_codec_put_uint8_L1).D :=
  loop_printed (G := gs_codec_put_uint8) (A := .leaf) (T0 := K0_codec_put_uint8_L1) (T := TM_codec_put_uint8_L1) (U := UO_codec_put_uint8_L1) (step := (fun k v => codec_put_uint8_L1 k.1 k.2.1 v)) (cxo_codec_put_uint8) follows (by kernel_rfl) (by kernel_rfl) (CutsOk.leaf _) (by intro k v; kernel_rfl)
theorem sd_codec_put_uint8 : FnSound Tryd.prog gl 47 sg_codec_put_uint8 :=
  fn_printed (G := gs_codec_put_uint8) (A := (.two .leaf (.two .leaf (.two (.two .leaf (.two (.cut 1) .leaf)) .leaf)))) (cxo_codec_put_uint8) follows Tryd.func47 (by kernel_rfl) (by kernel_rfl) (by kernel_rfl) (by kernel_rfl) (by kernel_rfl) (CutsOk.two (CutsOk.leaf _) (CutsOk.two (CutsOk.leaf _) (CutsOk.two (CutsOk.two (CutsOk.leaf _) (CutsOk.two (CutsOk.cut (g := B_codec_put_uint8_L1) (by kernel_rfl) (ct_codec_put_uint8_L1)) (CutsOk.leaf _))) (CutsOk.leaf _)))) (by intro v; kernel_rfl)
def sg_codec_put_uint16 : Sig := mkSig [(.hole (.slice (.int .u8))), (.hole (.int .u16)), (.hole (.int .i64))] [] [(.own 0)] [(.vec (.int .u8))] (fun p => codec_put_uint16 p.1.1 p.1.2.1 p.1.2.2.1)
theorem fk_codec_put_uint16 : FnOk Tryd.prog 48 := ⟨Tryd.f48, Tryd.func48, by kernel_rfl, by kernel_rfl⟩
def cx_codec_put_uint16 : Cx := ⟨tys, lk [], 31, 0, [], gl⟩
theorem cxo_codec_put_uint16 : CxOk Tryd.prog (cx_codec_put_uint16) := ⟨tys_ok, FnsOk.nil⟩
abbrev K0_codec_put_uint16_L1 : List (Nat × Ty) := [(1, (.int .u16)), (16, (.int .i64))]
abbrev TM_codec_put_uint16_L1 : Tm := ⟨[(7, (.own 0)), (17, (.hole (.int .i64)))], [(.vec (.int .u8))]⟩
abbrev UO_codec_put_uint16_L1 : Outs := (.one (.exit 0) ⟨[(7, (.own 0))], [(.vec (.int .u8))]⟩)
def B_codec_put_uint16_L1 : Blk := frBlk 0 [1, 6, 16] K0_codec_put_uint16_L1 TM_codec_put_uint16_L1 UO_codec_put_uint16_L1 (fun k => loopV (fun v => codec_put_uint16_L1 k.1 k.2.1 v))
def gs_codec_put_uint16 : Nat → Option Blk := lk [(1, B_codec_put_uint16_L1)]
theorem ct_codec_put_uint16_L1 : CodeSound Tryd.prog (cx_codec_put_uint16) (subL (subR (subL (subR (subR (bodyOf Tryd.f48)))))) (B_codec_put_uint16_L1).D :=
  loop_printed (G := gs_codec_put_uint16) (A := .leaf) (T0 := K0_codec_put_uint16_L1) (T := TM_codec_put_uint16_L1) (U := UO_codec_put_uint16_L1) (step := (fun k v => codec_put_uint16_L1 k.1 k.2.1 v)) (cxo_codec_put_uint16) follows (by kernel_rfl) (by kernel_rfl) (CutsOk.leaf _) (by intro k v; kernel_rfl)
theorem sd_codec_put_uint16 : FnSound Tryd.prog gl 48 sg_codec_put_uint16 :=
  fn_printed (G := gs_codec_put_uint16) (A := (.two .leaf (.two .leaf (.two (.two .leaf (.two (.cut 1) .leaf)) .leaf)))) (cxo_codec_put_uint16) follows Tryd.func48 (by kernel_rfl) (by kernel_rfl) (by kernel_rfl) (by kernel_rfl) (by kernel_rfl) (CutsOk.two (CutsOk.leaf _) (CutsOk.two (CutsOk.leaf _) (CutsOk.two (CutsOk.two (CutsOk.leaf _) (CutsOk.two (CutsOk.cut (g := B_codec_put_uint16_L1) (by kernel_rfl) (ct_codec_put_uint16_L1)) (CutsOk.leaf _))) (CutsOk.leaf _)))) (by intro v; kernel_rfl)
def sg_codec_put_uint32 : Sig := mkSig [(.hole (.slice (.int .u8))), (.hole (.int .u32)), (.hole (.int .i64))] [] [(.own 0)] [(.vec (.int .u8))] (fun p => codec_put_uint32 p.1.1 p.1.2.1 p.1.2.2.1)
theorem fk_codec_put_uint32 : FnOk Tryd.prog 49 := ⟨Tryd.f49, Tryd.func49, by kernel_rfl, by kernel_rfl⟩
def cx_codec_put_uint32 : Cx := ⟨tys, lk [], 31, 0, [], gl⟩
theorem cxo_codec_put_uint32 : CxOk Tryd.prog (cx_codec_put_uint32) := ⟨tys_ok, FnsOk.nil⟩
abbrev K0_codec_put_uint32_L1 : List (Nat × Ty) := [(1, (.int .u32)), (16, (.int .i64))]
abbrev TM_codec_put_uint32_L1 : Tm := ⟨[(7, (.own 0)), (17, (.hole (.int .i64)))], [(.vec (.int .u8))]⟩
abbrev UO_codec_put_uint32_L1 : Outs := (.one (.exit 0) ⟨[(7, (.own 0))], [(.vec (.int .u8))]⟩)
def B_codec_put_uint32_L1 : Blk := frBlk 0 [1, 6, 16] K0_codec_put_uint32_L1 TM_codec_put_uint32_L1 UO_codec_put_uint32_L1 (fun k => loopV (fun v => codec_put_uint32_L1 k.1 k.2.1 v))
def gs_codec_put_uint32 : Nat → Option Blk := lk [(1, B_codec_put_uint32_L1)]
theorem ct_codec_put_uint32_L1 : CodeSound Tryd.prog (cx_codec_put_uint32) (subL (subR (subL (subR (subR (bodyOf Tryd.f49)))))) (B_codec_put_uint32_L1).D :=
  loop_printed (G := gs_codec_put_uint32) (A := .leaf) (T0 := K0_codec_put_uint32_L1) (T := TM_codec_put_uint32_L1) (U := UO_codec_put_uint32_L1) (step := (fun k v => codec_put_uint32_L1 k.1 k.2.1 v)) (cxo_codec_put_uint32) follows (by kernel_rfl) (by kernel_rfl) (CutsOk.leaf _) (by intro k v; kernel_rfl)
theorem sd_codec_put_uint32 : FnSound Tryd.prog gl 49 sg_codec_put_uint32 :=
  fn_printed (G := gs_codec_put_uint32) (A := (.two .leaf (.two .leaf (.two (.two .leaf (.two (.cut 1) .leaf)) .leaf)))) (cxo_codec_put_uint32) follows Tryd.func49 (by kernel_rfl) (by kernel_rfl) (by kernel_rfl) (by kernel_rfl) (by kernel_rfl) (CutsOk.two (CutsOk.leaf _) (CutsOk.two (CutsOk.leaf _) (CutsOk.two (CutsOk.two (CutsOk.leaf _) (CutsOk.two (CutsOk.cut (g := B_codec_put_uint32_L1) (by kernel_rfl) (ct_codec_put_uint32_L1)) (CutsOk.leaf _))) (CutsOk.leaf _)))) (by intro v; kernel_rfl)
def sg_codec_put_uint64 : Sig := mkSig [(.hole (.slice (.int .u8))), (.hole (.int .u64)), (.hole (.int .i64))] [] [(.own 0)] [(.vec (.int .u8))] (fun p => codec_put_uint64 p.1.1 p.1.2.1 p.1.2.2.1)
theorem fk_codec_put_uint64 : FnOk Tryd.prog 50 := ⟨Tryd.f50, Tryd.func50, by kernel_rfl, by kernel_rfl⟩
def cx_codec_put_uint64 : Cx := ⟨tys, lk [], 30, 0, [], gl⟩
theorem cxo_codec_put_uint64 : CxOk Tryd.prog (cx_codec_put_uint64) := ⟨tys_ok, FnsOk.nil⟩
abbrev K0_codec_put_uint64_L1 : List (Nat × Ty) := [(1, (.int .u64)), (16, (.int .i64))]
abbrev TM_codec_put_uint64_L1 : Tm := ⟨[(7, (.own 0)), (17, (.hole (.int .i64)))], [(.vec (.int .u8))]⟩
abbrev UO_codec_put_uint64_L1 : Outs := (.one (.exit 0) ⟨[(7, (.own 0))], [(.vec (.int .u8))]⟩)
def B_codec_put_uint64_L1 : Blk := frBlk 0 [1, 6, 16] K0_codec_put_uint64_L1 TM_codec_put_uint64_L1 UO_codec_put_uint64_L1 (fun k => loopV (fun v => codec_put_uint64_L1 k.1 k.2.1 v))
def gs_codec_put_uint64 : Nat → Option Blk := lk [(1, B_codec_put_uint64_L1)]
theorem ct_codec_put_uint64_L1 : CodeSound Tryd.prog (cx_codec_put_uint64) (subL (subR (subL (subR (subR (bodyOf Tryd.f50)))))) (B_codec_put_uint64_L1).D :=
  loop_printed (G := gs_codec_put_uint64) (A := .leaf) (T0 := K0_codec_put_uint64_L1) (T := TM_codec_put_uint64_L1) (U := UO_codec_put_uint64_L1) (step := (fun k v => codec_put_uint64_L1 k.1 k.2.1 v)) (cxo_codec_put_uint64) follows (by kernel_rfl) (by kernel_rfl) (CutsOk.leaf _) (by intro k v; kernel_rfl)
theorem sd_codec_put_uint64 : FnSound Tryd.prog gl 50 sg_codec_put_uint64 :=
  fn_printed (G := gs_codec_put_uint64) (A := (.two .leaf (.two .leaf (.two (.two .leaf (.two (.cut 1) .leaf)) .leaf)))) (cxo_codec_put_uint64) follows Tryd.func50 (by kernel_rfl) (by kernel_rfl) (by kernel_rfl) (by kernel_rfl) (by kernel_rfl) (CutsOk.two (CutsOk.leaf _) (CutsOk.two (CutsOk.leaf _) (CutsOk.two (CutsOk.two (CutsOk.leaf _) (CutsOk.two (CutsOk.cut (g := B_codec_put_uint64_L1) (by kernel_rfl) (ct_codec_put_uint64_L1)) (CutsOk.leaf _))) (CutsOk.leaf _)))) (by intro v; kernel_rfl)
def sg_codec_AppendSize : Sig := mkSig [(.hole (.slice (.int .u8))), (.hole (.int .u64))] [] [(.own 0)] [(.vec (.int .u8))] (fun p => codec_AppendSize p.1.1 p.1.2.1)
theorem fk_codec_AppendSize : FnOk Tryd.prog 41 := ⟨Tryd.f41, Tryd.func41, by kernel_rfl, by kernel_rfl⟩
def cx_codec_AppendSize : Cx := ⟨tys, lk [(48, sg_codec_put_uint16), (49, sg_codec_put_uint32), (50, sg_codec_put_uint64), (47, sg_codec_put_uint8)], 32, 0, [], gl⟩
theorem cxo_codec_AppendSize : CxOk Tryd.prog (cx_codec_AppendSize) := ⟨tys_ok, FnsOk.cons fk_codec_put_uint16 sd_codec_put_uint16 (FnsOk.cons fk_codec_put_uint32 sd_codec_put_uint32 (FnsOk.cons fk_codec_put_uint64 sd_codec_put_uint64 (FnsOk.cons fk_codec_put_uint8 sd_codec_put_uint8 (FnsOk.nil))))⟩
def gs_codec_AppendSize : Nat → Option Blk := lk []
theorem sd_codec_AppendSize : FnSound Tryd.prog gl 41 sg_codec_AppendSize :=
  fn_printed (G := gs_codec_AppendSize) (A := .leaf) (cxo_codec_AppendSize) follows Tryd.func41 (by kernel_rfl) (by kernel_rfl) (by kernel_rfl) (by kernel_rfl) (by kernel_rfl) (CutsOk.leaf _) (by intro v; kernel_rfl)
def sg_codec_AppendBytes : Sig := mkSig [(.hole (.slice (.int .u8))), (.hole (.slice (.int .u8)))] [] [(.own 0)] [(.vec (.int .u8))] (fun p => codec_AppendBytes p.1.1 p.1.2.1)
theorem fk_codec_AppendBytes : FnOk Tryd.prog 40 := ⟨Tryd.f40, Tryd.func40, by kernel_rfl, by kernel_rfl⟩
def cx_codec_AppendBytes : Cx := ⟨tys, lk [(41, sg_codec_AppendSize)], 12, 0, [], gl⟩
theorem cxo_codec_AppendBytes : CxOk Tryd.prog (cx_codec_AppendBytes) := ⟨tys_ok, FnsOk.cons fk_codec_AppendSize sd_codec_AppendSize (FnsOk.nil)⟩
def gs_codec_AppendBytes : Nat → Option Blk := lk []
theorem sd_codec_AppendBytes : FnSound Tryd.prog gl 40 sg_codec_AppendBytes :=
  fn_printed (G := gs_codec_AppendBytes) (A := .leaf) (cxo_codec_AppendBytes) follows Tryd.func40 (by kernel_rfl) (by kernel_rfl) (by kernel_rfl) (by kernel_rfl) (by kernel_rfl) (CutsOk.leaf _) (by intro v; kernel_rfl)
end Go.PE.YtolhomapnlcadaaDoor
end
end

section
set_option maxRecDepth 100000
set_option linter.unusedVariables false
noncomputable section
namespace Go.PE.YtolhomapnlcadaaDoor
open Go.PE Go.Proofs

def sg_math_bits_RotateLeft32 : Sig := mkSig [(.hole (.int .u32)), (.hole (.int .i64))] [] [(.hole (.int .u32))] [] (fun p => math_bits_RotateLeft32 p.1.1 p.1.2.1)
theorem fk_math_bits_RotateLeft32 : FnOk Tryd.prog 62 := ⟨Tryd.f62, Tryd.func62, by kernel_rfl, by kernel_rfl⟩
def cx_math_bits_RotateLeft32 : Cx := ⟨tys, lk [], 17, 0, [], gl⟩
theorem cxo_math_bits_RotateLeft32 : CxOk Tryd.prog (cx_math_bits_RotateLeft32) := ⟨tys_ok, FnsOk.nil⟩
def gs_math_bits_RotateLeft32 : Nat → Option Blk := lk []
theorem sd_math_bits_RotateLeft32 : FnSound Tryd.prog gl 62 sg_math_bits_RotateLeft32 :=
  fn_printed (G := gs_math_bits_RotateLeft32) (A := .leaf) (cxo_math_bits_RotateLeft32) follows Tryd.func62 (by kernel_rfl) (by kernel_rfl) (by kernel_rfl) (by kernel_rfl) (by kernel_rfl) (CutsOk.leaf _) (by intro v; kernel_rfl)
end Go.PE.YtolhomapnlcadaaDoor
end
end

section
set_option maxRecDepth 100000
set_option linter.unusedVariables false
noncomputable section
namespace Go.PE.YtolhomapnlcadaaDoor
open Go.PE Go.Proofs

def sg_sha_Pad : Sig := mkSig [(.hole (.int .u64))] [] [(.own 0)] [(.vec (.int .u8))] (fun p => sha_Pad p.1.1)
theorem fk_sha_Pad : FnOk Tryd.prog 52 := ⟨Tryd.f52, Tryd.func52, by kernel_rfl, by kernel_rfl⟩
def cx_sha_Pad : Cx := ⟨tys, lk [], 27, 0, [], gl⟩
theorem cxo_sha_Pad : CxOk Tryd.prog (cx_sha_Pad) := ⟨tys_ok, FnsOk.nil⟩
abbrev K0_sha_Pad_L1 : List (Nat × Ty) := [(0, (.int .u64))]
abbrev TM_sha_Pad_L1 : Tm := ⟨[(3, (.own 0)), (4, (.hole (.int .i64)))], [(.vec (.int .u8))]⟩
abbrev UO_sha_Pad_L1 : Outs := (.one (.exit 0) ⟨[(3, (.own 0))], [(.vec (.int .u8))]⟩)
def B_sha_Pad_L1 : Blk := frBlk 0 [0, 2] K0_sha_Pad_L1 TM_sha_Pad_L1 UO_sha_Pad_L1 (fun k => loopV (fun v => sha_Pad_L1 k.1 v))
def gs_sha_Pad : Nat → Option Blk := lk [(1, B_sha_Pad_L1)]
theorem ct_sha_Pad_L1 : CodeSound Tryd.prog (cx_sha_Pad) (subL (subR (subL (subR (subR (subR (bodyOf Tryd.f52))))))) (B_sha_Pad_L1).D :=
  loop_printed (G := gs_sha_Pad) (A := .leaf) (T0 := K0_sha_Pad_L1) (T := TM_sha_Pad_L1) (U := UO_sha_Pad_L1) (step := (fun k v => sha_Pad_L1 k.1 v)) (cxo_sha_Pad) follows (by kernel_rfl) (by kernel_rfl) (CutsOk.leaf _) (by intro k v; kernel_rfl)
theorem sd_sha_Pad : FnSound Tryd.prog gl 52 sg_sha_Pad :=
  fn_printed (G := gs_sha_Pad) (A := (.two .leaf (.two .leaf (.two .leaf (.two (.two .leaf (.two (.cut 1) .leaf)) .leaf))))) (cxo_sha_Pad) follows Tryd.func52 (by kernel_rfl) (by kernel_rfl) (by kernel_rfl) (by kernel_rfl) (by kernel_rfl) (CutsOk.two (CutsOk.leaf _) (CutsOk.two (CutsOk.leaf _) (CutsOk.two (CutsOk.leaf _) (CutsOk.two (CutsOk.two (CutsOk.leaf _) (CutsOk.two (CutsOk.cut (g := B_sha_Pad_L1) (by kernel_rfl) (ct_sha_Pad_L1)) (CutsOk.leaf _))) (CutsOk.leaf _))))) (by intro v; kernel_rfl)
def sg_sha_rotr : Sig := mkSig [(.hole (.int .u32)), (.hole (.int .i64))] [] [(.hole (.int .u32))] [] (fun p => sha_rotr p.1.1 p.1.2.1)
theorem fk_sha_rotr : FnOk Tryd.prog 58 := ⟨Tryd.f58, Tryd.func58, by kernel_rfl, by kernel_rfl⟩
def cx_sha_rotr : Cx := ⟨tys, lk [(62, sg_math_bits_RotateLeft32)], 9, 0, [], gl⟩
theorem cxo_sha_rotr : CxOk Tryd.prog (cx_sha_rotr) := ⟨tys_ok, FnsOk.cons fk_math_bits_RotateLeft32 sd_math_bits_RotateLeft32 (FnsOk.nil)⟩
def gs_sha_rotr : Nat → Option Blk := lk []
theorem sd_sha_rotr : FnSound Tryd.prog gl 58 sg_sha_rotr :=
  fn_printed (G := gs_sha_rotr) (A := .leaf) (cxo_sha_rotr) follows Tryd.func58 (by kernel_rfl) (by kernel_rfl) (by kernel_rfl) (by kernel_rfl) (by kernel_rfl) (CutsOk.leaf _) (by intro v; kernel_rfl)
def sg_sha_schedule : Sig := mkSig [(.hole (.arr 64 (.int .u8)))] [] [(.hole (.arr 64 (.int .u32)))] [] (fun p => sha_schedule p.1.1)
theorem fk_sha_schedule : FnOk Tryd.prog 57 := ⟨Tryd.f57, Tryd.func57, by kernel_rfl, by kernel_rfl⟩
def cx_sha_schedule : Cx := ⟨tys, lk [(58, sg_sha_rotr)], 80, 0, [], gl⟩
theorem cxo_sha_schedule : CxOk Tryd.prog (cx_sha_schedule) := ⟨tys_ok, FnsOk.cons fk_sha_rotr sd_sha_rotr (FnsOk.nil)⟩
abbrev K0_sha_schedule_L1 : List (Nat × Ty) := [(9, (.arr 64 (.int .u8)))]
abbrev TM_sha_schedule_L1 : Tm := ⟨[(2, (.ptr 0 [])), (3, (.ptr 1 [])), (10, (.hole (.int .i64)))], [(.box (.arr 64 (.int .u32)) (.hole (.arr 64 (.int .u32)))), (.box (.arr 64 (.int .u32)) (.hole (.arr 64 (.int .u32))))]⟩
abbrev UO_sha_schedule_L1 : Outs := (.one (.exit 0) ⟨[(2, (.ptr 0 [])), (3, (.ptr 1 []))], [(.box (.arr 64 (.int .u32)) (.hole (.arr 64 (.int .u32)))), (.box (.arr 64 (.int .u32)) (.hole (.arr 64 (.int .u32))))]⟩)
def B_sha_schedule_L1 : Blk := frBlk 0 [9] K0_sha_schedule_L1 TM_sha_schedule_L1 UO_sha_schedule_L1 (fun k => loopV (fun v => sha_schedule_L1 k.1 v))
abbrev K0_sha_schedule_L2 : List (Nat × Ty) := []
abbrev TM_sha_schedule_L2 : Tm := ⟨[(2, (.ptr 0 [])), (3, (.ptr 1 [])), (6, (.hole (.int .i64)))], [(.box (.arr 64 (.int .u32)) (.hole (.arr 64 (.int .u32)))), (.box (.arr 64 (.int .u32)) (.hole (.arr 64 (.int .u32))))]⟩
abbrev UO_sha_schedule_L2 : Outs := (.one (.exit 2) ⟨[(2, (.ptr 0 [])), (3, (.ptr 1 []))], [(.box (.arr 64 (.int .u32)) (.hole (.arr 64 (.int .u32)))), (.box (.arr 64 (.int .u32)) (.hole (.arr 64 (.int .u32))))]⟩)
def B_sha_schedule_L2 : Blk := frBlk 0 [] K0_sha_schedule_L2 TM_sha_schedule_L2 UO_sha_schedule_L2 (fun k => loopV (fun v => sha_schedule_L2 v))
def gs_sha_schedule : Nat → Option Blk := lk [(1, B_sha_schedule_L1), (2, B_sha_schedule_L2)]
theorem ct_sha_schedule_L2 : CodeSound Tryd.prog (cx_sha_schedule) (subL (subR (subL (subR (subR (subR (bodyOf Tryd.f57))))))) (B_sha_schedule_L2).D :=
  loop_printed (G := gs_sha_schedule) (A := .leaf) (T0 := K0_sha_schedule_L2) (T := TM_sha_schedule_L2) (U := UO_sha_schedule_L2) (step := (fun k v => sha_schedule_L2 v)) (cxo_sha_schedule) follows (by kernel_rfl) (by kernel_rfl) (CutsOk.leaf _) (by intro k v; kernel_rfl)
theorem ct_sha_schedule_L1 : CodeSound Tryd.prog (cx_sha_schedule) (subL (subR (subL (subR (subR (bodyOf Tryd.f57)))))) (B_sha_schedule_L1).D :=
  loop_printed (G := gs_sha_schedule) (A := .leaf) (T0 := K0_sha_schedule_L1) (T := TM_sha_schedule_L1) (U := UO_sha_schedule_L1) (step := (fun k v => sha_schedule_L1 k.1 v)) (cxo_sha_schedule) follows (by kernel_rfl) (by kernel_rfl) (CutsOk.leaf _) (by intro k v; kernel_rfl)
theorem sd_sha_schedule : FnSound Tryd.prog gl 57 sg_sha_schedule :=
  fn_printed (G := gs_sha_schedule) (A := (.two .leaf (.two .leaf (.two (.two .leaf (.two (.cut 1) .leaf)) (.two (.two .leaf (.two (.cut 2) .leaf)) .leaf))))) (cxo_sha_schedule) follows Tryd.func57 (by kernel_rfl) (by kernel_rfl) (by kernel_rfl) (by kernel_rfl) (by kernel_rfl) (CutsOk.two (CutsOk.leaf _) (CutsOk.two (CutsOk.leaf _) (CutsOk.two (CutsOk.two (CutsOk.leaf _) (CutsOk.two (CutsOk.cut (g := B_sha_schedule_L1) (by kernel_rfl) (ct_sha_schedule_L1)) (CutsOk.leaf _))) (CutsOk.two (CutsOk.two (CutsOk.leaf _) (CutsOk.two (CutsOk.cut (g := B_sha_schedule_L2) (by kernel_rfl) (ct_sha_schedule_L2)) (CutsOk.leaf _))) (CutsOk.leaf _))))) (by intro v; kernel_rfl)
def sg_sha_Compress : Sig := mkSig [(.hole (.arr 8 (.int .u32))), (.hole (.arr 64 (.int .u8)))] [] [(.hole (.arr 8 (.int .u32)))] [] (fun p => sha_Compress p.1.1 p.1.2.1)
theorem fk_sha_Compress : FnOk Tryd.prog 53 := ⟨Tryd.f53, Tryd.func53, by kernel_rfl, by kernel_rfl⟩
def cx_sha_Compress : Cx := ⟨tys, lk [(58, sg_sha_rotr), (57, sg_sha_schedule)], 112, 0, [], gl⟩
theorem cxo_sha_Compress : CxOk Tryd.prog (cx_sha_Compress) := ⟨tys_ok, FnsOk.cons fk_sha_rotr sd_sha_rotr (FnsOk.cons fk_sha_schedule sd_sha_schedule (FnsOk.nil))⟩
abbrev K0_sha_Compress_L1 : List (Nat × Ty) := [(21, (.arr 64 (.int .u32)))]
abbrev TM_sha_Compress_L1 : Tm := ⟨[(2, (.ptr 0 [])), (4, (.ptr 1 [])), (5, (.ptr 2 [])), (6, (.ptr 3 [])), (22, (.hole (.int .i64)))], [(.box (.arr 8 (.int .u32)) (.hole (.arr 8 (.int .u32)))), (.box (.arr 8 (.int .u32)) (.hole (.arr 8 (.int .u32)))), (.box (.arr 64 (.int .u32)) (.hole (.arr 64 (.int .u32)))), (.box (.arr 8 (.int .u32)) (.hole (.arr 8 (.int .u32))))]⟩
abbrev UO_sha_Compress_L1 : Outs := (.one (.exit 0) ⟨[(2, (.ptr 0 [])), (4, (.ptr 1 [])), (6, (.ptr 2 []))], [(.box (.arr 8 (.int .u32)) (.hole (.arr 8 (.int .u32)))), (.box (.arr 8 (.int .u32)) (.hole (.arr 8 (.int .u32)))), (.box (.arr 8 (.int .u32)) (.hole (.arr 8 (.int .u32))))]⟩)
def B_sha_Compress_L1 : Blk := frBlk 0 [21] K0_sha_Compress_L1 TM_sha_Compress_L1 UO_sha_Compress_L1 (fun k => loopV (fun v => sha_Compress_L1 k.1 v))
abbrev K0_sha_Compress_L2 : List (Nat × Ty) := []
abbrev TM_sha_Compress_L2 : Tm := ⟨[(2, (.ptr 0 [])), (4, (.ptr 1 [])), (6, (.ptr 2 [])), (99, (.hole (.int .i64)))], [(.box (.arr 8 (.int .u32)) (.hole (.arr 8 (.int .u32)))), (.box (.arr 8 (.int .u32)) (.hole (.arr 8 (.int .u32)))), (.box (.arr 8 (.int .u32)) (.hole (.arr 8 (.int .u32))))]⟩
abbrev UO_sha_Compress_L2 : Outs := (.one (.exit 2) ⟨[(4, (.ptr 0 [])), (6, (.ptr 1 []))], [(.box (.arr 8 (.int .u32)) (.hole (.arr 8 (.int .u32)))), (.box (.arr 8 (.int .u32)) (.hole (.arr 8 (.int .u32))))]⟩)
def B_sha_Compress_L2 : Blk := frBlk 0 [] K0_sha_Compress_L2 TM_sha_Compress_L2 UO_sha_Compress_L2 (fun k => loopV (fun v => sha_Compress_L2 v))
def gs_sha_Compress : Nat → Option Blk := lk [(1, B_sha_Compress_L1), (2, B_sha_Compress_L2)]
theorem ct_sha_Compress_L2 : CodeSound Tryd.prog (cx_sha_Compress) (subL (subR (subL (subR (subR (subR (bodyOf Tryd.f53))))))) (B_sha_Compress_L2).D :=
  loop_printed (G := gs_sha_Compress) (A := .leaf) (T0 := K0_sha_Compress_L2) (T := TM_sha_Compress_L2) (U := UO_sha_Compress_L2) (step := (fun k v => sha_Compress_L2 v)) (cxo_sha_Compress) follows (by kernel_rfl) (by kernel_rfl) (CutsOk.leaf _) (by intro k v; kernel_rfl)
theorem ct_sha_Compress_L1 : CodeSound Tryd.prog (cx_sha_Compress) (subL (subR (subL (subR (subR (bodyOf Tryd.f53)))))) (B_sha_Compress_L1).D :=
  loop_printed (G := gs_sha_Compress) (A := .leaf) (T0 := K0_sha_Compress_L1) (T := TM_sha_Compress_L1) (U := UO_sha_Compress_L1) (step := (fun k v => sha_Compress_L1 k.1 v)) (cxo_sha_Compress) follows (by kernel_rfl) (by kernel_rfl) (CutsOk.leaf _) (by intro k v; kernel_rfl)
theorem sd_sha_Compress : FnSound Tryd.prog gl 53 sg_sha_Compress :=
  fn_printed (G := gs_sha_Compress) (A := (.two .leaf (.two .leaf (.two (.two .leaf (.two (.cut 1) .leaf)) (.two (.two .leaf (.two (.cut 2) .leaf)) .leaf))))) (cxo_sha_Compress) follows Tryd.func53 (by kernel_rfl) (by kernel_rfl) (by kernel_rfl) (by kernel_rfl) (by kernel_rfl) (CutsOk.two (CutsOk.leaf _) (CutsOk.two (CutsOk.leaf _) (CutsOk.two (CutsOk.two (CutsOk.leaf _) (CutsOk.two (CutsOk.cut (g := B_sha_Compress_L1) (by kernel_rfl) (ct_sha_Compress_L1)) (CutsOk.leaf _))) (CutsOk.two (CutsOk.two (CutsOk.leaf _) (CutsOk.two (CutsOk.cut (g := B_sha_Compress_L2) (by kernel_rfl) (ct_sha_Compress_L2)) (CutsOk.leaf _))) (CutsOk.leaf _))))) (by intro v; kernel_rfl)
def sg_sha_Sum : Sig := mkSig [(.hole (.slice (.int .u8)))] [] [(.hole (.arr 32 (.int .u8)))] [] (fun p => sha_Sum p.1.1)
theorem fk_sha_Sum : FnOk Tryd.prog 44 := ⟨Tryd.f44, Tryd.func44, by kernel_rfl, by kernel_rfl⟩
def cx_sha_Sum : Cx := ⟨tys, lk [(53, sg_sha_Compress), (52, sg_sha_Pad)], 47, 0, [], gl⟩
theorem cxo_sha_Sum : CxOk Tryd.prog (cx_sha_Sum) := ⟨tys_ok, FnsOk.cons fk_sha_Compress sd_sha_Compress (FnsOk.cons fk_sha_Pad sd_sha_Pad (FnsOk.nil))⟩
abbrev K0_sha_Sum_L1 : List (Nat × Ty) := []
abbrev TM_sha_Sum_L1 : Tm := ⟨[(2, (.ptr 0 [])), (3, (.hole (.slice (.int .u8)))), (4, (.ptr 1 []))], [(.box (.arr 32 (.int .u8)) (.hole (.arr 32 (.int .u8)))), (.box (.arr 8 (.int .u32)) (.hole (.arr 8 (.int .u32))))]⟩
abbrev UO_sha_Sum_L1 : Outs := (.one (.exit 0) ⟨[(2, (.ptr 0 [])), (4, (.ptr 1 []))], [(.box (.arr 32 (.int .u8)) (.hole (.arr 32 (.int .u8)))), (.box (.arr 8 (.int .u32)) (.hole (.arr 8 (.int .u32))))]⟩)
def B_sha_Sum_L1 : Blk := frBlk 0 [] K0_sha_Sum_L1 TM_sha_Sum_L1 UO_sha_Sum_L1 (fun k => loopV (fun v => sha_Sum_L1 v))
abbrev K0_sha_Sum_L2 : List (Nat × Ty) := []
abbrev TM_sha_Sum_L2 : Tm := ⟨[(2, (.ptr 0 [])), (4, (.ptr 1 [])), (5, (.ptr 2 [])), (30, (.hole (.int .i64)))], [(.box (.arr 32 (.int .u8)) (.hole (.arr 32 (.int .u8)))), (.box (.arr 8 (.int .u32)) (.hole (.arr 8 (.int .u32)))), (.box (.arr 32 (.int .u8)) (.hole (.arr 32 (.int .u8))))]⟩
abbrev UO_sha_Sum_L2 : Outs := (.one (.exit 2) ⟨[(2, (.ptr 0 [])), (5, (.ptr 1 []))], [(.box (.arr 32 (.int .u8)) (.hole (.arr 32 (.int .u8)))), (.box (.arr 32 (.int .u8)) (.hole (.arr 32 (.int .u8))))]⟩)
def B_sha_Sum_L2 : Blk := frBlk 0 [] K0_sha_Sum_L2 TM_sha_Sum_L2 UO_sha_Sum_L2 (fun k => loopV (fun v => sha_Sum_L2 v))
def gs_sha_Sum : Nat → Option Blk := lk [(1, B_sha_Sum_L1), (2, B_sha_Sum_L2)]
theorem ct_sha_Sum_L2 : CodeSound Tryd.prog (cx_sha_Sum) (subL (subR (subL (subR (subR (subR (subR (subR (bodyOf Tryd.f44))))))))) (B_sha_Sum_L2).D :=
  loop_printed (G := gs_sha_Sum) (A := .leaf) (T0 := K0_sha_Sum_L2) (T := TM_sha_Sum_L2) (U := UO_sha_Sum_L2) (step := (fun k v => sha_Sum_L2 v)) (cxo_sha_Sum) follows (by kernel_rfl) (by kernel_rfl) (CutsOk.leaf _) (by intro k v; kernel_rfl)
theorem ct_sha_Sum_L1 : CodeSound Tryd.prog (cx_sha_Sum) (subL (subL (subR (subR (subR (bodyOf Tryd.f44)))))) (B_sha_Sum_L1).D :=
  loop_printed (G := gs_sha_Sum) (A := .leaf) (T0 := K0_sha_Sum_L1) (T := TM_sha_Sum_L1) (U := UO_sha_Sum_L1) (step := (fun k v => sha_Sum_L1 v)) (cxo_sha_Sum) follows (by kernel_rfl) (by kernel_rfl) (CutsOk.leaf _) (by intro k v; kernel_rfl)
theorem sd_sha_Sum : FnSound Tryd.prog gl 44 sg_sha_Sum :=
  fn_printed (G := gs_sha_Sum) (A := (.two .leaf (.two .leaf (.two .leaf (.two (.two (.cut 1) .leaf) (.two .leaf (.two (.two .leaf (.two (.cut 2) .leaf)) .leaf))))))) (cxo_sha_Sum) follows Tryd.func44 (by kernel_rfl) (by kernel_rfl) (by kernel_rfl) (by kernel_rfl) (by kernel_rfl) (CutsOk.two (CutsOk.leaf _) (CutsOk.two (CutsOk.leaf _) (CutsOk.two (CutsOk.leaf _) (CutsOk.two (CutsOk.two (CutsOk.cut (g := B_sha_Sum_L1) (by kernel_rfl) (ct_sha_Sum_L1)) (CutsOk.leaf _)) (CutsOk.two (CutsOk.leaf _) (CutsOk.two (CutsOk.two (CutsOk.leaf _) (CutsOk.two (CutsOk.cut (g := B_sha_Sum_L2) (by kernel_rfl) (ct_sha_Sum_L2)) (CutsOk.leaf _))) (CutsOk.leaf _))))))) (by intro v; kernel_rfl)
def sg_sha_Double : Sig := mkSig [(.hole (.slice (.int .u8)))] [] [(.hole (.arr 32 (.int .u8)))] [] (fun p => sha_Double p.1.1)
theorem fk_sha_Double : FnOk Tryd.prog 37 := ⟨Tryd.f37, Tryd.func37, by kernel_rfl, by kernel_rfl⟩
def cx_sha_Double : Cx := ⟨tys, lk [(44, sg_sha_Sum)], 8, 0, [], gl⟩
theorem cxo_sha_Double : CxOk Tryd.prog (cx_sha_Double) := ⟨tys_ok, FnsOk.cons fk_sha_Sum sd_sha_Sum (FnsOk.nil)⟩
def gs_sha_Double : Nat → Option Blk := lk []
theorem sd_sha_Double : FnSound Tryd.prog gl 37 sg_sha_Double :=
  fn_printed (G := gs_sha_Double) (A := .leaf) (cxo_sha_Double) follows Tryd.func37 (by kernel_rfl) (by kernel_rfl) (by kernel_rfl) (by kernel_rfl) (by kernel_rfl) (CutsOk.leaf _) (by intro v; kernel_rfl)
end Go.PE.YtolhomapnlcadaaDoor
end
end

section
set_option maxRecDepth 100000
set_option linter.unusedVariables false
noncomputable section
namespace Go.PE.YtolhomapnlcadaaDoor
open Go.PE Go.Proofs

def sg_filter_Header : Sig := mkSig [(.hole (.arr 32 (.int .u8))), (.hole (.arr 32 (.int .u8)))] [] [(.hole (.arr 32 (.int .u8)))] [] (fun p => filter_Header p.1.1 p.1.2.1)
theorem fk_filter_Header : FnOk Tryd.prog 28 := ⟨Tryd.f28, Tryd.func28, by kernel_rfl, by kernel_rfl⟩
def cx_filter_Header : Cx := ⟨tys, lk [(37, sg_sha_Double)], 9, 0, [], gl⟩
theorem cxo_filter_Header : CxOk Tryd.prog (cx_filter_Header) := ⟨tys_ok, FnsOk.cons fk_sha_Double sd_sha_Double (FnsOk.nil)⟩
def gs_filter_Header : Nat → Option Blk := lk []
theorem sd_filter_Header : FnSound Tryd.prog gl 28 sg_filter_Header :=
  fn_printed (G := gs_filter_Header) (A := .leaf) (cxo_filter_Header) follows Tryd.func28 (by kernel_rfl) (by kernel_rfl) (by kernel_rfl) (by kernel_rfl) (by kernel_rfl) (CutsOk.leaf _) (by intro v; kernel_rfl)
def sg_filter_Encode : Sig := mkSig [(.hole T_b101)] [] [(.own 0), (.hole (.int .i64))] [(.vec (.int .u8))] (fun p => filter_Encode p.1.1)
theorem fk_filter_Encode : FnOk Tryd.prog 33 := ⟨Tryd.f33, Tryd.func33, by kernel_rfl, by kernel_rfl⟩
def cx_filter_Encode : Cx := ⟨tys, lk [(40, sg_codec_AppendBytes), (41, sg_codec_AppendSize)], 25, 0, [], gl⟩
theorem cxo_filter_Encode : CxOk Tryd.prog (cx_filter_Encode) := ⟨tys_ok, FnsOk.cons fk_codec_AppendBytes sd_codec_AppendBytes (FnsOk.cons fk_codec_AppendSize sd_codec_AppendSize (FnsOk.nil))⟩
def gs_filter_Encode : Nat → Option Blk := lk []
theorem sd_filter_Encode : FnSound Tryd.prog gl 33 sg_filter_Encode :=
  fn_printed (G := gs_filter_Encode) (A := .leaf) (cxo_filter_Encode) follows Tryd.func33 (by kernel_rfl) (by kernel_rfl) (by kernel_rfl) (by kernel_rfl) (by kernel_rfl) (CutsOk.leaf _) (by intro v; kernel_rfl)
def sg_filter_Hash : Sig := mkSig [(.hole T_b101)] [] [(.hole (.arr 32 (.int .u8)))] [] (fun p => filter_Hash p.1.1)
theorem fk_filter_Hash : FnOk Tryd.prog 34 := ⟨Tryd.f34, Tryd.func34, by kernel_rfl, by kernel_rfl⟩
def cx_filter_Hash : Cx := ⟨tys, lk [(33, sg_filter_Encode), (37, sg_sha_Double)], 15, 0, [], gl⟩
theorem cxo_filter_Hash : CxOk Tryd.prog (cx_filter_Hash) := ⟨tys_ok, FnsOk.cons fk_filter_Encode sd_filter_Encode (FnsOk.cons fk_sha_Double sd_sha_Double (FnsOk.nil))⟩
def gs_filter_Hash : Nat → Option Blk := lk []
theorem sd_filter_Hash : FnSound Tryd.prog gl 34 sg_filter_Hash :=
  fn_printed (G := gs_filter_Hash) (A := .leaf) (cxo_filter_Hash) follows Tryd.func34 (by kernel_rfl) (by kernel_rfl) (by kernel_rfl) (by kernel_rfl) (by kernel_rfl) (CutsOk.leaf _) (by intro v; kernel_rfl)
end Go.PE.YtolhomapnlcadaaDoor
end
end

section
set_option maxRecDepth 100000
set_option linter.unusedVariables false
noncomputable section
namespace Go.PE.YtolhomapnlcadaaDoor
open Go.PE Go.Proofs

def sg_filterchain_Sound : Sig := mkSig [(.hole T_d60b)] [] [(.hole .bool)] [] (fun p => filterchain_Sound p.1.1)
theorem fk_filterchain_Sound : FnOk Tryd.prog 12 := ⟨Tryd.f12, Tryd.func12, by kernel_rfl, by kernel_rfl⟩
def cx_filterchain_Sound : Cx := ⟨tys, lk [], 16, 0, [], gl⟩
theorem cxo_filterchain_Sound : CxOk Tryd.prog (cx_filterchain_Sound) := ⟨tys_ok, FnsOk.nil⟩
def gs_filterchain_Sound : Nat → Option Blk := lk []
theorem sd_filterchain_Sound : FnSound Tryd.prog gl 12 sg_filterchain_Sound :=
  fn_printed (G := gs_filterchain_Sound) (A := .leaf) (cxo_filterchain_Sound) follows Tryd.func12 (by kernel_rfl) (by kernel_rfl) (by kernel_rfl) (by kernel_rfl) (by kernel_rfl) (CutsOk.leaf _) (by intro v; kernel_rfl)
def sg_filterchain_before : Sig := mkSig [(.hole T_d60b), (.hole (.int .i64))] [] [(.hole (.arr 32 (.int .u8)))] [] (fun p => filterchain_before p.1.1 p.1.2.1)
theorem fk_filterchain_before : FnOk Tryd.prog 29 := ⟨Tryd.f29, Tryd.func29, by kernel_rfl, by kernel_rfl⟩
def cx_filterchain_before : Cx := ⟨tys, lk [], 14, 0, [], gl⟩
theorem cxo_filterchain_before : CxOk Tryd.prog (cx_filterchain_before) := ⟨tys_ok, FnsOk.nil⟩
def gs_filterchain_before : Nat → Option Blk := lk []
theorem sd_filterchain_before : FnSound Tryd.prog gl 29 sg_filterchain_before :=
  fn_printed (G := gs_filterchain_before) (A := .leaf) (cxo_filterchain_before) follows Tryd.func29 (by kernel_rfl) (by kernel_rfl) (by kernel_rfl) (by kernel_rfl) (by kernel_rfl) (CutsOk.leaf _) (by intro v; kernel_rfl)
def sg_filterchain_Batch : Sig := mkSig [(.hole (.arr 32 (.int .u8))), (.hole (.slice (.arr 32 (.int .u8))))] [] [(.own 0)] [(.vec (.arr 32 (.int .u8)))] (fun p => filterchain_Batch p.1.1 p.1.2.1)
theorem fk_filterchain_Batch : FnOk Tryd.prog 15 := ⟨Tryd.f15, Tryd.func15, by kernel_rfl, by kernel_rfl⟩
def cx_filterchain_Batch : Cx := ⟨tys, lk [(28, sg_filter_Header)], 27, 0, [], gl⟩
theorem cxo_filterchain_Batch : CxOk Tryd.prog (cx_filterchain_Batch) := ⟨tys_ok, FnsOk.cons fk_filter_Header sd_filter_Header (FnsOk.nil)⟩
abbrev K0_filterchain_Batch_L1 : List (Nat × Ty) := [(11, (.slice (.arr 32 (.int .u8)))), (12, (.int .i64))]
abbrev TM_filterchain_Batch_L1 : Tm := ⟨[(2, (.ptr 0 [])), (5, (.own 1)), (13, (.hole (.int .i64)))], [(.box (.arr 32 (.int .u8)) (.hole (.arr 32 (.int .u8)))), (.vec (.arr 32 (.int .u8)))]⟩
abbrev UO_filterchain_Batch_L1 : Outs := (.one (.exit 0) ⟨[(5, (.own 0))], [(.vec (.arr 32 (.int .u8)))]⟩)
def B_filterchain_Batch_L1 : Blk := frBlk 0 [4, 11, 12] K0_filterchain_Batch_L1 TM_filterchain_Batch_L1 UO_filterchain_Batch_L1 (fun k => loopV (fun v => filterchain_Batch_L1 k.1 k.2.1 v))
def gs_filterchain_Batch : Nat → Option Blk := lk [(1, B_filterchain_Batch_L1)]
theorem ct_filterchain_Batch_L1 : CodeSound Tryd.prog (cx_filterchain_Batch) (subL (subR (subL (subR (subR (bodyOf Tryd.f15)))))) (B_filterchain_Batch_L1).D :=
  loop_printed (G := gs_filterchain_Batch) (A := .leaf) (T0 := K0_filterchain_Batch_L1) (T := TM_filterchain_Batch_L1) (U := UO_filterchain_Batch_L1) (step := (fun k v => filterchain_Batch_L1 k.1 k.2.1 v)) (cxo_filterchain_Batch) follows (by kernel_rfl) (by kernel_rfl) (CutsOk.leaf _) (by intro k v; kernel_rfl)
theorem sd_filterchain_Batch : FnSound Tryd.prog gl 15 sg_filterchain_Batch :=
  fn_printed (G := gs_filterchain_Batch) (A := (.two .leaf (.two .leaf (.two (.two .leaf (.two (.cut 1) .leaf)) .leaf)))) (cxo_filterchain_Batch) follows Tryd.func15 (by kernel_rfl) (by kernel_rfl) (by kernel_rfl) (by kernel_rfl) (by kernel_rfl) (CutsOk.two (CutsOk.leaf _) (CutsOk.two (CutsOk.leaf _) (CutsOk.two (CutsOk.two (CutsOk.leaf _) (CutsOk.two (CutsOk.cut (g := B_filterchain_Batch_L1) (by kernel_rfl) (ct_filterchain_Batch_L1)) (CutsOk.leaf _))) (CutsOk.leaf _)))) (by intro v; kernel_rfl)
def sg_filterchain_grown_api_Hash : Sig := mkSig [(.hole (.slice (.arr 32 (.int .u8)))), (.hole (.slice (.arr 32 (.int .u8))))] [] [(.own 0)] [(.vec (.arr 32 (.int .u8)))] (fun p => filterchain_grown_api_Hash p.1.1 p.1.2.1)
theorem fk_filterchain_grown_api_Hash : FnOk Tryd.prog 30 := ⟨Tryd.f30, Tryd.func30, by kernel_rfl, by kernel_rfl⟩
def cx_filterchain_grown_api_Hash : Cx := ⟨tys, lk [], 15, 0, [], gl⟩
theorem cxo_filterchain_grown_api_Hash : CxOk Tryd.prog (cx_filterchain_grown_api_Hash) := ⟨tys_ok, FnsOk.nil⟩
def gs_filterchain_grown_api_Hash : Nat → Option Blk := lk []
theorem sd_filterchain_grown_api_Hash : FnSound Tryd.prog gl 30 sg_filterchain_grown_api_Hash :=
  fn_printed (G := gs_filterchain_grown_api_Hash) (A := .leaf) (cxo_filterchain_grown_api_Hash) follows Tryd.func30 (by kernel_rfl) (by kernel_rfl) (by kernel_rfl) (by kernel_rfl) (by kernel_rfl) (CutsOk.leaf _) (by intro v; kernel_rfl)
def sg_filterchain_Extend : Sig := mkSig [(.hole T_d60b), (.hole (.slice (.arr 32 (.int .u8)))), (.hole (.slice (.arr 32 (.int .u8))))] [] [(.ncons (.own 0) (.ncons (.own 1) .nnil)), (.hole (.int .i64))] [(.vec (.arr 32 (.int .u8))), (.vec (.arr 32 (.int .u8)))] (fun p => filterchain_Extend p.1.1 p.1.2.1 p.1.2.2.1)
theorem fk_filterchain_Extend : FnOk Tryd.prog 10 := ⟨Tryd.f10, Tryd.func10, by kernel_rfl, by kernel_rfl⟩
def cx_filterchain_Extend : Cx := ⟨tys, lk [(15, sg_filterchain_Batch), (12, sg_filterchain_Sound), (29, sg_filterchain_before), (30, sg_filterchain_grown_api_Hash)], 46, 0, [], gl⟩
theorem cxo_filterchain_Extend : CxOk Tryd.prog (cx_filterchain_Extend) := ⟨tys_ok, FnsOk.cons fk_filterchain_Batch sd_filterchain_Batch (FnsOk.cons fk_filterchain_Sound sd_filterchain_Sound (FnsOk.cons fk_filterchain_before sd_filterchain_before (FnsOk.cons fk_filterchain_grown_api_Hash sd_filterchain_grown_api_Hash (FnsOk.nil))))⟩
def gs_filterchain_Extend : Nat → Option Blk := lk []
theorem sd_filterchain_Extend : FnSound Tryd.prog gl 10 sg_filterchain_Extend :=
  fn_printed (G := gs_filterchain_Extend) (A := .leaf) (cxo_filterchain_Extend) follows Tryd.func10 (by kernel_rfl) (by kernel_rfl) (by kernel_rfl) (by kernel_rfl) (by kernel_rfl) (CutsOk.leaf _) (by intro v; kernel_rfl)
def sg_filterchain_Differ : Sig := mkSig [(.hole (.slice (.arr 32 (.int .u8)))), (.hole (.slice (.arr 32 (.int .u8))))] [] [(.hole (.int .i64))] [] (fun p => filterchain_Differ p.1.1 p.1.2.1)
theorem fk_filterchain_Differ : FnOk Tryd.prog 20 := ⟨Tryd.f20, Tryd.func20, by kernel_rfl, by kernel_rfl⟩
def cx_filterchain_Differ : Cx := ⟨tys, lk [], 37, 0, [], gl⟩
theorem cxo_filterchain_Differ : CxOk Tryd.prog (cx_filterchain_Differ) := ⟨tys_ok, FnsOk.nil⟩
abbrev K0_filterchain_Differ_L1 : List (Nat × Ty) := [(0, (.slice (.arr 32 (.int .u8)))), (1, (.slice (.arr 32 (.int .u8)))), (10, (.int .i64))]
abbrev TM_filterchain_Differ_L1 : Tm := ⟨[(11, (.hole (.int .i64)))], []⟩
abbrev UO_filterchain_Differ_L1 : Outs := (.more .ret ⟨[(4, (.hole (.int .i64)))], []⟩ (.one (.exit 0) ⟨[], []⟩))
def B_filterchain_Differ_L1 : Blk := frBlk 0 [0, 1, 10] K0_filterchain_Differ_L1 TM_filterchain_Differ_L1 UO_filterchain_Differ_L1 (fun k => loopV (fun v => filterchain_Differ_L1 k.1 k.2.1 k.2.2.1 v))
def gs_filterchain_Differ : Nat → Option Blk := lk [(1, B_filterchain_Differ_L1)]
theorem ct_filterchain_Differ_L1 : CodeSound Tryd.prog (cx_filterchain_Differ) (subL (subR (subL (subR (bodyOf Tryd.f20))))) (B_filterchain_Differ_L1).D :=
  loop_printed (G := gs_filterchain_Differ) (A := .leaf) (T0 := K0_filterchain_Differ_L1) (T := TM_filterchain_Differ_L1) (U := UO_filterchain_Differ_L1) (step := (fun k v => filterchain_Differ_L1 k.1 k.2.1 k.2.2.1 v)) (cxo_filterchain_Differ) follows (by kernel_rfl) (by kernel_rfl) (CutsOk.leaf _) (by intro k v; kernel_rfl)
theorem sd_filterchain_Differ : FnSound Tryd.prog gl 20 sg_filterchain_Differ :=
  fn_printed (G := gs_filterchain_Differ) (A := (.two .leaf (.two (.two .leaf (.two (.cut 1) .leaf)) .leaf))) (cxo_filterchain_Differ) follows Tryd.func20 (by kernel_rfl) (by kernel_rfl) (by kernel_rfl) (by kernel_rfl) (by kernel_rfl) (CutsOk.two (CutsOk.leaf _) (CutsOk.two (CutsOk.two (CutsOk.leaf _) (CutsOk.two (CutsOk.cut (g := B_filterchain_Differ_L1) (by kernel_rfl) (ct_filterchain_Differ_L1)) (CutsOk.leaf _))) (CutsOk.leaf _))) (by intro v; kernel_rfl)
def sg_filterchain_Checkpoints : Sig := mkSig [(.hole T_d60b), (.hole (.int .i64))] [] [(.own 0)] [(.vec (.arr 32 (.int .u8)))] (fun p => filterchain_Checkpoints p.1.1 p.1.2.1)
theorem fk_filterchain_Checkpoints : FnOk Tryd.prog 18 := ⟨Tryd.f18, Tryd.func18, by kernel_rfl, by kernel_rfl⟩
def cx_filterchain_Checkpoints : Cx := ⟨tys, lk [(12, sg_filterchain_Sound)], 32, 0, [], gl⟩
theorem cxo_filterchain_Checkpoints : CxOk Tryd.prog (cx_filterchain_Checkpoints) := ⟨tys_ok, FnsOk.cons fk_filterchain_Sound sd_filterchain_Sound (FnsOk.nil)⟩
abbrev K0_filterchain_Checkpoints_L1 : List (Nat × Ty) := [(1, (.int .i64))]
abbrev TM_filterchain_Checkpoints_L1 : Tm := ⟨[(2, (.ptr 0 [])), (5, (.own 1)), (6, (.hole (.int .i64)))], [(.box T_d60b (.hole T_d60b)), (.vec (.arr 32 (.int .u8)))]⟩
abbrev UO_filterchain_Checkpoints_L1 : Outs := (.one (.exit 0) ⟨[(5, (.own 0))], [(.vec (.arr 32 (.int .u8)))]⟩)
def B_filterchain_Checkpoints_L1 : Blk := frBlk 0 [1, 4] K0_filterchain_Checkpoints_L1 TM_filterchain_Checkpoints_L1 UO_filterchain_Checkpoints_L1 (fun k => loopV (fun v => filterchain_Checkpoints_L1 k.1 v))
def gs_filterchain_Checkpoints : Nat → Option Blk := lk [(1, B_filterchain_Checkpoints_L1)]
theorem ct_filterchain_Checkpoints_L1 : CodeSound Tryd.prog (cx_filterchain_Checkpoints) (subL (subR (subL (subR (subR (subR (bodyOf Tryd.f18))))))) (B_filterchain_Checkpoints_L1).D :=
  loop_printed (G := gs_filterchain_Checkpoints) (A := .leaf) (T0 := K0_filterchain_Checkpoints_L1) (T := TM_filterchain_Checkpoints_L1) (U := UO_filterchain_Checkpoints_L1) (step := (fun k v => filterchain_Checkpoints_L1 k.1 v)) (cxo_filterchain_Checkpoints) follows (by kernel_rfl) (by kernel_rfl) (CutsOk.leaf _) (by intro k v; kernel_rfl)
theorem sd_filterchain_Checkpoints : FnSound Tryd.prog gl 18 sg_filterchain_Checkpoints :=
  fn_printed (G := gs_filterchain_Checkpoints) (A := (.two .leaf (.two .leaf (.two .leaf (.two (.two .leaf (.two (.cut 1) .leaf)) .leaf))))) (cxo_filterchain_Checkpoints) follows Tryd.func18 (by kernel_rfl) (by kernel_rfl) (by kernel_rfl) (by kernel_rfl) (by kernel_rfl) (CutsOk.two (CutsOk.leaf _) (CutsOk.two (CutsOk.leaf _) (CutsOk.two (CutsOk.leaf _) (CutsOk.two (CutsOk.two (CutsOk.leaf _) (CutsOk.two (CutsOk.cut (g := B_filterchain_Checkpoints_L1) (by kernel_rfl) (ct_filterchain_Checkpoints_L1)) (CutsOk.leaf _))) (CutsOk.leaf _))))) (by intro v; kernel_rfl)
def sg_filterchain_Rewind : Sig := mkSig [(.hole T_d60b), (.hole (.int .i64))] [] [(.ncons (.own 0) (.ncons (.own 1) .nnil)), (.hole (.int .i64))] [(.vec (.arr 32 (.int .u8))), (.vec (.arr 32 (.int .u8)))] (fun p => filterchain_Rewind p.1.1 p.1.2.1)
theorem fk_filterchain_Rewind : FnOk Tryd.prog 22 := ⟨Tryd.f22, Tryd.func22, by kernel_rfl, by kernel_rfl⟩
def cx_filterchain_Rewind : Cx := ⟨tys, lk [(12, sg_filterchain_Sound), (30, sg_filterchain_grown_api_Hash)], 33, 0, [], gl⟩
theorem cxo_filterchain_Rewind : CxOk Tryd.prog (cx_filterchain_Rewind) := ⟨tys_ok, FnsOk.cons fk_filterchain_Sound sd_filterchain_Sound (FnsOk.cons fk_filterchain_grown_api_Hash sd_filterchain_grown_api_Hash (FnsOk.nil))⟩
def gs_filterchain_Rewind : Nat → Option Blk := lk []
theorem sd_filterchain_Rewind : FnSound Tryd.prog gl 22 sg_filterchain_Rewind :=
  fn_printed (G := gs_filterchain_Rewind) (A := .leaf) (cxo_filterchain_Rewind) follows Tryd.func22 (by kernel_rfl) (by kernel_rfl) (by kernel_rfl) (by kernel_rfl) (by kernel_rfl) (CutsOk.leaf _) (by intro v; kernel_rfl)
def sg_filterchain_Common : Sig := mkSig [(.hole T_d60b), (.hole (.slice (.arr 32 (.int .u8))))] [] [(.hole (.int .i64))] [] (fun p => filterchain_Common p.1.1 p.1.2.1)
theorem fk_filterchain_Common : FnOk Tryd.prog 24 := ⟨Tryd.f24, Tryd.func24, by kernel_rfl, by kernel_rfl⟩
def cx_filterchain_Common : Cx := ⟨tys, lk [(20, sg_filterchain_Differ), (12, sg_filterchain_Sound)], 18, 0, [], gl⟩
theorem cxo_filterchain_Common : CxOk Tryd.prog (cx_filterchain_Common) := ⟨tys_ok, FnsOk.cons fk_filterchain_Differ sd_filterchain_Differ (FnsOk.cons fk_filterchain_Sound sd_filterchain_Sound (FnsOk.nil))⟩
def gs_filterchain_Common : Nat → Option Blk := lk []
theorem sd_filterchain_Common : FnSound Tryd.prog gl 24 sg_filterchain_Common :=
  fn_printed (G := gs_filterchain_Common) (A := .leaf) (cxo_filterchain_Common) follows Tryd.func24 (by kernel_rfl) (by kernel_rfl) (by kernel_rfl) (by kernel_rfl) (by kernel_rfl) (CutsOk.leaf _) (by intro v; kernel_rfl)
def sg_filterchain_Verify : Sig := mkSig [(.hole T_d60b), (.hole (.int .i64)), (.hole T_b101)] [] [(.hole (.int .i64))] [] (fun p => filterchain_Verify p.1.1 p.1.2.1 p.1.2.2.1)
theorem fk_filterchain_Verify : FnOk Tryd.prog 26 := ⟨Tryd.f26, Tryd.func26, by kernel_rfl, by kernel_rfl⟩
def cx_filterchain_Verify : Cx := ⟨tys, lk [(33, sg_filter_Encode), (34, sg_filter_Hash), (28, sg_filter_Header), (12, sg_filterchain_Sound), (29, sg_filterchain_before)], 41, 0, [], gl⟩
theorem cxo_filterchain_Verify : CxOk Tryd.prog (cx_filterchain_Verify) := ⟨tys_ok, FnsOk.cons fk_filter_Encode sd_filter_Encode (FnsOk.cons fk_filter_Hash sd_filter_Hash (FnsOk.cons fk_filter_Header sd_filter_Header (FnsOk.cons fk_filterchain_Sound sd_filterchain_Sound (FnsOk.cons fk_filterchain_before sd_filterchain_before (FnsOk.nil)))))⟩
def gs_filterchain_Verify : Nat → Option Blk := lk []
theorem sd_filterchain_Verify : FnSound Tryd.prog gl 26 sg_filterchain_Verify :=
  fn_printed (G := gs_filterchain_Verify) (A := .leaf) (cxo_filterchain_Verify) follows Tryd.func26 (by kernel_rfl) (by kernel_rfl) (by kernel_rfl) (by kernel_rfl) (by kernel_rfl) (CutsOk.leaf _) (by intro v; kernel_rfl)
end Go.PE.YtolhomapnlcadaaDoor
end
end

section
set_option maxRecDepth 100000
set_option linter.unusedVariables false
noncomputable section
namespace Go.PE.YtolhomapnlcadaaDoor
open Go.PE Go.Proofs

def sg_ref07_SameHashes : Sig := mkSig [(.hole (.slice (.arr 32 (.int .u8)))), (.hole (.slice (.arr 32 (.int .u8))))] [] [(.hole .bool)] [] (fun p => ref07_SameHashes p.1.1 p.1.2.1)
theorem fk_ref07_SameHashes : FnOk Tryd.prog 14 := ⟨Tryd.f14, Tryd.func14, by kernel_rfl, by kernel_rfl⟩
def cx_ref07_SameHashes : Cx := ⟨tys, lk [], 26, 0, [], gl⟩
theorem cxo_ref07_SameHashes : CxOk Tryd.prog (cx_ref07_SameHashes) := ⟨tys_ok, FnsOk.nil⟩
abbrev K0_ref07_SameHashes_L1 : List (Nat × Ty) := [(0, (.slice (.arr 32 (.int .u8)))), (1, (.slice (.arr 32 (.int .u8)))), (12, (.int .i64))]
abbrev TM_ref07_SameHashes_L1 : Tm := ⟨[(13, (.hole (.int .i64)))], []⟩
abbrev UO_ref07_SameHashes_L1 : Outs := (.more .ret ⟨[(4, (.hole .bool))], []⟩ (.one (.exit 0) ⟨[], []⟩))
def B_ref07_SameHashes_L1 : Blk := frBlk 0 [0, 1, 12] K0_ref07_SameHashes_L1 TM_ref07_SameHashes_L1 UO_ref07_SameHashes_L1 (fun k => loopV (fun v => ref07_SameHashes_L1 k.1 k.2.1 k.2.2.1 v))
def gs_ref07_SameHashes : Nat → Option Blk := lk [(1, B_ref07_SameHashes_L1)]
theorem ct_ref07_SameHashes_L1 : CodeSound Tryd.prog (cx_ref07_SameHashes) (subL (subR (subL (subR (subR (bodyOf Tryd.f14)))))) (B_ref07_SameHashes_L1).D :=
  loop_printed (G := gs_ref07_SameHashes) (A := .leaf) (T0 := K0_ref07_SameHashes_L1) (T := TM_ref07_SameHashes_L1) (U := UO_ref07_SameHashes_L1) (step := (fun k v => ref07_SameHashes_L1 k.1 k.2.1 k.2.2.1 v)) (cxo_ref07_SameHashes) follows (by kernel_rfl) (by kernel_rfl) (CutsOk.leaf _) (by intro k v; kernel_rfl)
theorem sd_ref07_SameHashes : FnSound Tryd.prog gl 14 sg_ref07_SameHashes :=
  fn_printed (G := gs_ref07_SameHashes) (A := (.two .leaf (.two .leaf (.two (.two .leaf (.two (.cut 1) .leaf)) .leaf)))) (cxo_ref07_SameHashes) follows Tryd.func14 (by kernel_rfl) (by kernel_rfl) (by kernel_rfl) (by kernel_rfl) (by kernel_rfl) (CutsOk.two (CutsOk.leaf _) (CutsOk.two (CutsOk.leaf _) (CutsOk.two (CutsOk.two (CutsOk.leaf _) (CutsOk.two (CutsOk.cut (g := B_ref07_SameHashes_L1) (by kernel_rfl) (ct_ref07_SameHashes_L1)) (CutsOk.leaf _))) (CutsOk.leaf _)))) (by intro v; kernel_rfl)
end Go.PE.YtolhomapnlcadaaDoor
end
end

section
set_option maxRecDepth 100000
set_option linter.unusedVariables false
noncomputable section
namespace Go.PE.YtolhomapnlcadaaDoor
open Go.PE Go.Proofs

def sg_ref01_joined : Sig := mkSig [(.hole (.slice (.int .u8))), (.hole (.slice (.int .u8)))] [] [(.own 0)] [(.vec (.int .u8))] (fun p => ref01_joined p.1.1 p.1.2.1)
theorem fk_ref01_joined : FnOk Tryd.prog 46 := ⟨Tryd.f46, Tryd.func46, by kernel_rfl, by kernel_rfl⟩
def cx_ref01_joined : Cx := ⟨tys, lk [], 17, 0, [], gl⟩
theorem cxo_ref01_joined : CxOk Tryd.prog (cx_ref01_joined) := ⟨tys_ok, FnsOk.nil⟩
def gs_ref01_joined : Nat → Option Blk := lk []
theorem sd_ref01_joined : FnSound Tryd.prog gl 46 sg_ref01_joined :=
  fn_printed (G := gs_ref01_joined) (A := .leaf) (cxo_ref01_joined) follows Tryd.func46 (by kernel_rfl) (by kernel_rfl) (by kernel_rfl) (by kernel_rfl) (by kernel_rfl) (CutsOk.leaf _) (by intro v; kernel_rfl)
def sg_ref01_Join : Sig := mkSig [(.hole (.slice (.slice (.int .u8))))] [] [(.own 0)] [(.vec (.int .u8))] (fun p => ref01_Join p.1.1)
theorem fk_ref01_Join : FnOk Tryd.prog 39 := ⟨Tryd.f39, Tryd.func39, by kernel_rfl, by kernel_rfl⟩
def cx_ref01_Join : Cx := ⟨tys, lk [(46, sg_ref01_joined)], 17, 0, [], gl⟩
theorem cxo_ref01_Join : CxOk Tryd.prog (cx_ref01_Join) := ⟨tys_ok, FnsOk.cons fk_ref01_joined sd_ref01_joined (FnsOk.nil)⟩
abbrev K0_ref01_Join_L1 : List (Nat × Ty) := [(6, (.slice (.slice (.int .u8)))), (7, (.int .i64))]
abbrev TM_ref01_Join_L1 : Tm := ⟨[(3, (.own 0)), (8, (.hole (.int .i64)))], [(.vec (.int .u8))]⟩
abbrev UO_ref01_Join_L1 : Outs := (.one (.exit 0) ⟨[(3, (.own 0))], [(.vec (.int .u8))]⟩)
def B_ref01_Join_L1 : Blk := frBlk 0 [2, 6, 7] K0_ref01_Join_L1 TM_ref01_Join_L1 UO_ref01_Join_L1 (fun k => loopV (fun v => ref01_Join_L1 k.1 k.2.1 v))
def gs_ref01_Join : Nat → Option Blk := lk [(1, B_ref01_Join_L1)]
theorem ct_ref01_Join_L1 : CodeSound Tryd.prog (cx_ref01_Join) (subL (subR (subL (subR (subR (bodyOf Tryd.f39)))))) (B_ref01_Join_L1).D :=
  loop_printed (G := gs_ref01_Join) (A := .leaf) (T0 := K0_ref01_Join_L1) (T := TM_ref01_Join_L1) (U := UO_ref01_Join_L1) (step := (fun k v => ref01_Join_L1 k.1 k.2.1 v)) (cxo_ref01_Join) follows (by kernel_rfl) (by kernel_rfl) (CutsOk.leaf _) (by intro k v; kernel_rfl)
theorem sd_ref01_Join : FnSound Tryd.prog gl 39 sg_ref01_Join :=
  fn_printed (G := gs_ref01_Join) (A := (.two .leaf (.two .leaf (.two (.two .leaf (.two (.cut 1) .leaf)) .leaf)))) (cxo_ref01_Join) follows Tryd.func39 (by kernel_rfl) (by kernel_rfl) (by kernel_rfl) (by kernel_rfl) (by kernel_rfl) (CutsOk.two (CutsOk.leaf _) (CutsOk.two (CutsOk.leaf _) (CutsOk.two (CutsOk.two (CutsOk.leaf _) (CutsOk.two (CutsOk.cut (g := B_ref01_Join_L1) (by kernel_rfl) (ct_ref01_Join_L1)) (CutsOk.leaf _))) (CutsOk.leaf _)))) (by intro v; kernel_rfl)
def sg_ref01_little : Sig := mkSig [(.hole (.int .u64)), (.hole (.int .i64))] [] [(.own 0)] [(.vec (.int .u8))] (fun p => ref01_little p.1.1 p.1.2.1)
theorem fk_ref01_little : FnOk Tryd.prog 51 := ⟨Tryd.f51, Tryd.func51, by kernel_rfl, by kernel_rfl⟩
def cx_ref01_little : Cx := ⟨tys, lk [], 24, 0, [], gl⟩
theorem cxo_ref01_little : CxOk Tryd.prog (cx_ref01_little) := ⟨tys_ok, FnsOk.nil⟩
abbrev K0_ref01_little_L1 : List (Nat × Ty) := [(0, (.int .u64)), (10, (.int .i64))]
abbrev TM_ref01_little_L1 : Tm := ⟨[(5, (.own 0)), (11, (.hole (.int .i64)))], [(.vec (.int .u8))]⟩
abbrev UO_ref01_little_L1 : Outs := (.one (.exit 0) ⟨[(5, (.own 0))], [(.vec (.int .u8))]⟩)
def B_ref01_little_L1 : Blk := frBlk 0 [0, 4, 10] K0_ref01_little_L1 TM_ref01_little_L1 UO_ref01_little_L1 (fun k => loopV (fun v => ref01_little_L1 k.1 k.2.1 v))
def gs_ref01_little : Nat → Option Blk := lk [(1, B_ref01_little_L1)]
theorem ct_ref01_little_L1 : CodeSound Tryd.prog (cx_ref01_little) (subL (subR (subL (subR (subR (bodyOf Tryd.f51)))))) (B_ref01_little_L1).D :=
  loop_printed (G := gs_ref01_little) (A := .leaf) (T0 := K0_ref01_little_L1) (T := TM_ref01_little_L1) (U := UO_ref01_little_L1) (step := (fun k v => ref01_little_L1 k.1 k.2.1 v)) (cxo_ref01_little) follows (by kernel_rfl) (by kernel_rfl) (CutsOk.leaf _) (by intro k v; kernel_rfl)
theorem sd_ref01_little : FnSound Tryd.prog gl 51 sg_ref01_little :=
  fn_printed (G := gs_ref01_little) (A := (.two .leaf (.two .leaf (.two (.two .leaf (.two (.cut 1) .leaf)) .leaf)))) (cxo_ref01_little) follows Tryd.func51 (by kernel_rfl) (by kernel_rfl) (by kernel_rfl) (by kernel_rfl) (by kernel_rfl) (CutsOk.two (CutsOk.leaf _) (CutsOk.two (CutsOk.leaf _) (CutsOk.two (CutsOk.two (CutsOk.leaf _) (CutsOk.two (CutsOk.cut (g := B_ref01_little_L1) (by kernel_rfl) (ct_ref01_little_L1)) (CutsOk.leaf _))) (CutsOk.leaf _)))) (by intro v; kernel_rfl)
def sg_ref01_AppendSize : Sig := mkSig [(.hole (.slice (.int .u8))), (.hole (.int .u64))] [] [(.own 0)] [(.vec (.int .u8))] (fun p => ref01_AppendSize p.1.1 p.1.2.1)
theorem fk_ref01_AppendSize : FnOk Tryd.prog 43 := ⟨Tryd.f43, Tryd.func43, by kernel_rfl, by kernel_rfl⟩
def cx_ref01_AppendSize : Cx := ⟨tys, lk [(46, sg_ref01_joined), (51, sg_ref01_little)], 36, 0, [], gl⟩
theorem cxo_ref01_AppendSize : CxOk Tryd.prog (cx_ref01_AppendSize) := ⟨tys_ok, FnsOk.cons fk_ref01_joined sd_ref01_joined (FnsOk.cons fk_ref01_little sd_ref01_little (FnsOk.nil))⟩
def gs_ref01_AppendSize : Nat → Option Blk := lk []
theorem sd_ref01_AppendSize : FnSound Tryd.prog gl 43 sg_ref01_AppendSize :=
  fn_printed (G := gs_ref01_AppendSize) (A := .leaf) (cxo_ref01_AppendSize) follows Tryd.func43 (by kernel_rfl) (by kernel_rfl) (by kernel_rfl) (by kernel_rfl) (by kernel_rfl) (CutsOk.leaf _) (by intro v; kernel_rfl)
def sg_ref01_AppendBytes : Sig := mkSig [(.hole (.slice (.int .u8))), (.hole (.slice (.int .u8)))] [] [(.own 0)] [(.vec (.int .u8))] (fun p => ref01_AppendBytes p.1.1 p.1.2.1)
theorem fk_ref01_AppendBytes : FnOk Tryd.prog 42 := ⟨Tryd.f42, Tryd.func42, by kernel_rfl, by kernel_rfl⟩
def cx_ref01_AppendBytes : Cx := ⟨tys, lk [(43, sg_ref01_AppendSize), (46, sg_ref01_joined)], 12, 0, [], gl⟩
theorem cxo_ref01_AppendBytes : CxOk Tryd.prog (cx_ref01_AppendBytes) := ⟨tys_ok, FnsOk.cons fk_ref01_AppendSize sd_ref01_AppendSize (FnsOk.cons fk_ref01_joined sd_ref01_joined (FnsOk.nil))⟩
def gs_ref01_AppendBytes : Nat → Option Blk := lk []
theorem sd_ref01_AppendBytes : FnSound Tryd.prog gl 42 sg_ref01_AppendBytes :=
  fn_printed (G := gs_ref01_AppendBytes) (A := .leaf) (cxo_ref01_AppendBytes) follows Tryd.func42 (by kernel_rfl) (by kernel_rfl) (by kernel_rfl) (by kernel_rfl) (by kernel_rfl) (CutsOk.leaf _) (by intro v; kernel_rfl)
end Go.PE.YtolhomapnlcadaaDoor
end
end

section
set_option maxRecDepth 100000
set_option linter.unusedVariables false
noncomputable section
namespace Go.PE.YtolhomapnlcadaaDoor
open Go.PE Go.Proofs

def sg_ref03_Pad : Sig := mkSig [(.hole (.int .u64))] [] [(.own 0)] [(.vec (.int .u8))] (fun p => ref03_Pad p.1.1)
theorem fk_ref03_Pad : FnOk Tryd.prog 54 := ⟨Tryd.f54, Tryd.func54, by kernel_rfl, by kernel_rfl⟩
def cx_ref03_Pad : Cx := ⟨tys, lk [], 31, 0, [], gl⟩
theorem cxo_ref03_Pad : CxOk Tryd.prog (cx_ref03_Pad) := ⟨tys_ok, FnsOk.nil⟩
abbrev K0_ref03_Pad_L1 : List (Nat × Ty) := [(0, (.int .u64))]
abbrev TM_ref03_Pad_L1 : Tm := ⟨[(3, (.own 0))], [(.vec (.int .u8))]⟩
abbrev UO_ref03_Pad_L1 : Outs := (.one (.exit 0) ⟨[(3, (.own 0))], [(.vec (.int .u8))]⟩)
def B_ref03_Pad_L1 : Blk := frBlk 0 [0, 2] K0_ref03_Pad_L1 TM_ref03_Pad_L1 UO_ref03_Pad_L1 (fun k => loopV (fun v => ref03_Pad_L1 k.1 v))
abbrev K0_ref03_Pad_L2 : List (Nat × Ty) := [(0, (.int .u64))]
abbrev TM_ref03_Pad_L2 : Tm := ⟨[(3, (.own 0)), (4, (.hole (.int .i64)))], [(.vec (.int .u8))]⟩
abbrev UO_ref03_Pad_L2 : Outs := (.one (.exit 2) ⟨[(3, (.own 0))], [(.vec (.int .u8))]⟩)
def B_ref03_Pad_L2 : Blk := frBlk 0 [0, 2] K0_ref03_Pad_L2 TM_ref03_Pad_L2 UO_ref03_Pad_L2 (fun k => loopV (fun v => ref03_Pad_L2 k.1 v))
def gs_ref03_Pad : Nat → Option Blk := lk [(1, B_ref03_Pad_L1), (2, B_ref03_Pad_L2)]
theorem ct_ref03_Pad_L2 : CodeSound Tryd.prog (cx_ref03_Pad) (subL (subR (subL (subR (subR (subR (bodyOf Tryd.f54))))))) (B_ref03_Pad_L2).D :=
  loop_printed (G := gs_ref03_Pad) (A := .leaf) (T0 := K0_ref03_Pad_L2) (T := TM_ref03_Pad_L2) (U := UO_ref03_Pad_L2) (step := (fun k v => ref03_Pad_L2 k.1 v)) (cxo_ref03_Pad) follows (by kernel_rfl) (by kernel_rfl) (CutsOk.leaf _) (by intro k v; kernel_rfl)
theorem ct_ref03_Pad_L1 : CodeSound Tryd.prog (cx_ref03_Pad) (subL (subL (subR (subR (bodyOf Tryd.f54))))) (B_ref03_Pad_L1).D :=
  loop_printed (G := gs_ref03_Pad) (A := .leaf) (T0 := K0_ref03_Pad_L1) (T := TM_ref03_Pad_L1) (U := UO_ref03_Pad_L1) (step := (fun k v => ref03_Pad_L1 k.1 v)) (cxo_ref03_Pad) follows (by kernel_rfl) (by kernel_rfl) (CutsOk.leaf _) (by intro k v; kernel_rfl)
theorem sd_ref03_Pad : FnSound Tryd.prog gl 54 sg_ref03_Pad :=
  fn_printed (G := gs_ref03_Pad) (A := (.two .leaf (.two .leaf (.two (.two (.cut 1) .leaf) (.two (.two .leaf (.two (.cut 2) .leaf)) .leaf))))) (cxo_ref03_Pad) follows Tryd.func54 (by kernel_rfl) (by kernel_rfl) (by kernel_rfl) (by kernel_rfl) (by kernel_rfl) (CutsOk.two (CutsOk.leaf _) (CutsOk.two (CutsOk.leaf _) (CutsOk.two (CutsOk.two (CutsOk.cut (g := B_ref03_Pad_L1) (by kernel_rfl) (ct_ref03_Pad_L1)) (CutsOk.leaf _)) (CutsOk.two (CutsOk.two (CutsOk.leaf _) (CutsOk.two (CutsOk.cut (g := B_ref03_Pad_L2) (by kernel_rfl) (ct_ref03_Pad_L2)) (CutsOk.leaf _))) (CutsOk.leaf _))))) (by intro v; kernel_rfl)
def sg_ref03_Initial : Sig := mkSig [] [] [(.hole (.arr 8 (.int .u32)))] [] (fun p => ref03_Initial)
theorem fk_ref03_Initial : FnOk Tryd.prog 55 := ⟨Tryd.f55, Tryd.func55, by kernel_rfl, by kernel_rfl⟩
def cx_ref03_Initial : Cx := ⟨tys, lk [], 2, 0, [], gl⟩
theorem cxo_ref03_Initial : CxOk Tryd.prog (cx_ref03_Initial) := ⟨tys_ok, FnsOk.nil⟩
def gs_ref03_Initial : Nat → Option Blk := lk []
theorem sd_ref03_Initial : FnSound Tryd.prog gl 55 sg_ref03_Initial :=
  fn_printed (G := gs_ref03_Initial) (A := .leaf) (cxo_ref03_Initial) follows Tryd.func55 (by kernel_rfl) (by kernel_rfl) (by kernel_rfl) (by kernel_rfl) (by kernel_rfl) (CutsOk.leaf _) (by intro v; kernel_rfl)
def sg_ref03_rotr : Sig := mkSig [(.hole (.int .u32)), (.hole (.int .i64))] [] [(.hole (.int .u32))] [] (fun p => ref03_rotr p.1.1 p.1.2.1)
theorem fk_ref03_rotr : FnOk Tryd.prog 61 := ⟨Tryd.f61, Tryd.func61, by kernel_rfl, by kernel_rfl⟩
def cx_ref03_rotr : Cx := ⟨tys, lk [(62, sg_math_bits_RotateLeft32)], 9, 0, [], gl⟩
theorem cxo_ref03_rotr : CxOk Tryd.prog (cx_ref03_rotr) := ⟨tys_ok, FnsOk.cons fk_math_bits_RotateLeft32 sd_math_bits_RotateLeft32 (FnsOk.nil)⟩
def gs_ref03_rotr : Nat → Option Blk := lk []
theorem sd_ref03_rotr : FnSound Tryd.prog gl 61 sg_ref03_rotr :=
  fn_printed (G := gs_ref03_rotr) (A := .leaf) (cxo_ref03_rotr) follows Tryd.func61 (by kernel_rfl) (by kernel_rfl) (by kernel_rfl) (by kernel_rfl) (by kernel_rfl) (CutsOk.leaf _) (by intro v; kernel_rfl)
def sg_ref03_schedule : Sig := mkSig [(.hole (.arr 64 (.int .u8)))] [] [(.hole (.arr 64 (.int .u32)))] [] (fun p => ref03_schedule p.1.1)
theorem fk_ref03_schedule : FnOk Tryd.prog 59 := ⟨Tryd.f59, Tryd.func59, by kernel_rfl, by kernel_rfl⟩
def cx_ref03_schedule : Cx := ⟨tys, lk [(61, sg_ref03_rotr)], 97, 0, [], gl⟩
theorem cxo_ref03_schedule : CxOk Tryd.prog (cx_ref03_schedule) := ⟨tys_ok, FnsOk.cons fk_ref03_rotr sd_ref03_rotr (FnsOk.nil)⟩
abbrev K0_ref03_schedule_L1 : List (Nat × Ty) := []
abbrev TM_ref03_schedule_L1 : Tm := ⟨[(1, (.ptr 0 [])), (2, (.ptr 1 [])), (3, (.ptr 2 [])), (4, (.hole (.int .i64)))], [(.box (.arr 64 (.int .u8)) (.hole (.arr 64 (.int .u8)))), (.box (.arr 64 (.int .u32)) (.hole (.arr 64 (.int .u32)))), (.box (.arr 64 (.int .u32)) (.hole (.arr 64 (.int .u32))))]⟩
abbrev UO_ref03_schedule_L1 : Outs := (.one (.exit 0) ⟨[(2, (.ptr 0 [])), (3, (.ptr 1 []))], [(.box (.arr 64 (.int .u32)) (.hole (.arr 64 (.int .u32)))), (.box (.arr 64 (.int .u32)) (.hole (.arr 64 (.int .u32))))]⟩)
def B_ref03_schedule_L1 : Blk := frBlk 0 [] K0_ref03_schedule_L1 TM_ref03_schedule_L1 UO_ref03_schedule_L1 (fun k => loopV (fun v => ref03_schedule_L1 v))
abbrev K0_ref03_schedule_L2 : List (Nat × Ty) := []
abbrev TM_ref03_schedule_L2 : Tm := ⟨[(2, (.ptr 0 [])), (3, (.ptr 1 [])), (5, (.hole (.int .i64)))], [(.box (.arr 64 (.int .u32)) (.hole (.arr 64 (.int .u32)))), (.box (.arr 64 (.int .u32)) (.hole (.arr 64 (.int .u32))))]⟩
abbrev UO_ref03_schedule_L2 : Outs := (.one (.exit 2) ⟨[(2, (.ptr 0 [])), (3, (.ptr 1 []))], [(.box (.arr 64 (.int .u32)) (.hole (.arr 64 (.int .u32)))), (.box (.arr 64 (.int .u32)) (.hole (.arr 64 (.int .u32))))]⟩)
def B_ref03_schedule_L2 : Blk := frBlk 0 [] K0_ref03_schedule_L2 TM_ref03_schedule_L2 UO_ref03_schedule_L2 (fun k => loopV (fun v => ref03_schedule_L2 v))
def gs_ref03_schedule : Nat → Option Blk := lk [(1, B_ref03_schedule_L1), (2, B_ref03_schedule_L2)]
theorem ct_ref03_schedule_L2 : CodeSound Tryd.prog (cx_ref03_schedule) (subL (subR (subL (subR (subR (subR (bodyOf Tryd.f59))))))) (B_ref03_schedule_L2).D :=
  loop_printed (G := gs_ref03_schedule) (A := .leaf) (T0 := K0_ref03_schedule_L2) (T := TM_ref03_schedule_L2) (U := UO_ref03_schedule_L2) (step := (fun k v => ref03_schedule_L2 v)) (cxo_ref03_schedule) follows (by kernel_rfl) (by kernel_rfl) (CutsOk.leaf _) (by intro k v; kernel_rfl)
theorem ct_ref03_schedule_L1 : CodeSound Tryd.prog (cx_ref03_schedule) (subL (subR (subL (subR (subR (bodyOf Tryd.f59)))))) (B_ref03_schedule_L1).D :=
  loop_printed (G := gs_ref03_schedule) (A := .leaf) (T0 := K0_ref03_schedule_L1) (T := TM_ref03_schedule_L1) (U := UO_ref03_schedule_L1) (step := (fun k v => ref03_schedule_L1 v)) (cxo_ref03_schedule) follows (by kernel_rfl) (by kernel_rfl) (CutsOk.leaf _) (by intro k v; kernel_rfl)
theorem sd_ref03_schedule : FnSound Tryd.prog gl 59 sg_ref03_schedule :=
  fn_printed (G := gs_ref03_schedule) (A := (.two .leaf (.two .leaf (.two (.two .leaf (.two (.cut 1) .leaf)) (.two (.two .leaf (.two (.cut 2) .leaf)) .leaf))))) (cxo_ref03_schedule) follows Tryd.func59 (by kernel_rfl) (by kernel_rfl) (by kernel_rfl) (by kernel_rfl) (by kernel_rfl) (CutsOk.two (CutsOk.leaf _) (CutsOk.two (CutsOk.leaf _) (CutsOk.two (CutsOk.two (CutsOk.leaf _) (CutsOk.two (CutsOk.cut (g := B_ref03_schedule_L1) (by kernel_rfl) (ct_ref03_schedule_L1)) (CutsOk.leaf _))) (CutsOk.two (CutsOk.two (CutsOk.leaf _) (CutsOk.two (CutsOk.cut (g := B_ref03_schedule_L2) (by kernel_rfl) (ct_ref03_schedule_L2)) (CutsOk.leaf _))) (CutsOk.leaf _))))) (by intro v; kernel_rfl)
def sg_ref03_constants : Sig := mkSig [] [] [(.hole (.arr 64 (.int .u32)))] [] (fun p => ref03_constants)
theorem fk_ref03_constants : FnOk Tryd.prog 60 := ⟨Tryd.f60, Tryd.func60, by kernel_rfl, by kernel_rfl⟩
def cx_ref03_constants : Cx := ⟨tys, lk [], 2, 0, [], gl⟩
theorem cxo_ref03_constants : CxOk Tryd.prog (cx_ref03_constants) := ⟨tys_ok, FnsOk.nil⟩
def gs_ref03_constants : Nat → Option Blk := lk []
theorem sd_ref03_constants : FnSound Tryd.prog gl 60 sg_ref03_constants :=
  fn_printed (G := gs_ref03_constants) (A := .leaf) (cxo_ref03_constants) follows Tryd.func60 (by kernel_rfl) (by kernel_rfl) (by kernel_rfl) (by kernel_rfl) (by kernel_rfl) (CutsOk.leaf _) (by intro v; kernel_rfl)
def sg_ref03_Compress : Sig := mkSig [(.hole (.arr 8 (.int .u32))), (.hole (.arr 64 (.int .u8)))] [] [(.hole (.arr 8 (.int .u32)))] [] (fun p => ref03_Compress p.1.1 p.1.2.1)
theorem fk_ref03_Compress : FnOk Tryd.prog 56 := ⟨Tryd.f56, Tryd.func56, by kernel_rfl, by kernel_rfl⟩
def cx_ref03_Compress : Cx := ⟨tys, lk [(60, sg_ref03_constants), (61, sg_ref03_rotr), (59, sg_ref03_schedule)], 133, 0, [], gl⟩
theorem cxo_ref03_Compress : CxOk Tryd.prog (cx_ref03_Compress) := ⟨tys_ok, FnsOk.cons fk_ref03_constants sd_ref03_constants (FnsOk.cons fk_ref03_rotr sd_ref03_rotr (FnsOk.cons fk_ref03_schedule sd_ref03_schedule (FnsOk.nil)))⟩
abbrev K0_ref03_Compress_L1 : List (Nat × Ty) := []
abbrev TM_ref03_Compress_L1 : Tm := ⟨[(2, (.ptr 0 [])), (4, (.ptr 1 [])), (5, (.ptr 2 [])), (6, (.ptr 3 [])), (7, (.hole (.int .u32))), (8, (.hole (.int .u32))), (9, (.hole (.int .u32))), (10, (.hole (.int .u32))), (11, (.hole (.int .u32))), (12, (.hole (.int .u32))), (13, (.hole (.int .u32))), (14, (.hole (.int .u32))), (15, (.hole (.int .i64)))], [(.box (.arr 8 (.int .u32)) (.hole (.arr 8 (.int .u32)))), (.box (.arr 8 (.int .u32)) (.hole (.arr 8 (.int .u32)))), (.box (.arr 64 (.int .u32)) (.hole (.arr 64 (.int .u32)))), (.box (.arr 64 (.int .u32)) (.hole (.arr 64 (.int .u32))))]⟩
abbrev UO_ref03_Compress_L1 : Outs := (.one (.exit 0) ⟨[(2, (.ptr 0 [])), (4, (.ptr 1 [])), (7, (.hole (.int .u32))), (8, (.hole (.int .u32))), (9, (.hole (.int .u32))), (10, (.hole (.int .u32))), (11, (.hole (.int .u32))), (12, (.hole (.int .u32))), (13, (.hole (.int .u32))), (14, (.hole (.int .u32)))], [(.box (.arr 8 (.int .u32)) (.hole (.arr 8 (.int .u32)))), (.box (.arr 8 (.int .u32)) (.hole (.arr 8 (.int .u32))))]⟩)
def B_ref03_Compress_L1 : Blk := frBlk 0 [] K0_ref03_Compress_L1 TM_ref03_Compress_L1 UO_ref03_Compress_L1 (fun k => loopV (fun v => ref03_Compress_L1 v))
def gs_ref03_Compress : Nat → Option Blk := lk [(1, B_ref03_Compress_L1)]
theorem ct_ref03_Compress_L1 : CodeSound Tryd.prog (cx_ref03_Compress) (subL (subR (subL (subR (subR (subR (bodyOf Tryd.f56))))))) (B_ref03_Compress_L1).D :=
  loop_printed (G := gs_ref03_Compress) (A := .leaf) (T0 := K0_ref03_Compress_L1) (T := TM_ref03_Compress_L1) (U := UO_ref03_Compress_L1) (step := (fun k v => ref03_Compress_L1 v)) (cxo_ref03_Compress) follows (by kernel_rfl) (by kernel_rfl) (CutsOk.leaf _) (by intro k v; kernel_rfl)
theorem sd_ref03_Compress : FnSound Tryd.prog gl 56 sg_ref03_Compress :=
  fn_printed (G := gs_ref03_Compress) (A := (.two .leaf (.two .leaf (.two .leaf (.two (.two .leaf (.two (.cut 1) .leaf)) .leaf))))) (cxo_ref03_Compress) follows Tryd.func56 (by kernel_rfl) (by kernel_rfl) (by kernel_rfl) (by kernel_rfl) (by kernel_rfl) (CutsOk.two (CutsOk.leaf _) (CutsOk.two (CutsOk.leaf _) (CutsOk.two (CutsOk.leaf _) (CutsOk.two (CutsOk.two (CutsOk.leaf _) (CutsOk.two (CutsOk.cut (g := B_ref03_Compress_L1) (by kernel_rfl) (ct_ref03_Compress_L1)) (CutsOk.leaf _))) (CutsOk.leaf _))))) (by intro v; kernel_rfl)
def sg_ref03_Sum : Sig := mkSig [(.hole (.slice (.int .u8)))] [] [(.hole (.arr 32 (.int .u8)))] [] (fun p => ref03_Sum p.1.1)
theorem fk_ref03_Sum : FnOk Tryd.prog 45 := ⟨Tryd.f45, Tryd.func45, by kernel_rfl, by kernel_rfl⟩
def cx_ref03_Sum : Cx := ⟨tys, lk [(56, sg_ref03_Compress), (55, sg_ref03_Initial), (54, sg_ref03_Pad)], 66, 0, [], gl⟩
theorem cxo_ref03_Sum : CxOk Tryd.prog (cx_ref03_Sum) := ⟨tys_ok, FnsOk.cons fk_ref03_Compress sd_ref03_Compress (FnsOk.cons fk_ref03_Initial sd_ref03_Initial (FnsOk.cons fk_ref03_Pad sd_ref03_Pad (FnsOk.nil)))⟩
abbrev K0_ref03_Sum_L1 : List (Nat × Ty) := []
abbrev TM_ref03_Sum_L1 : Tm := ⟨[(2, (.ptr 0 [])), (3, (.own 1)), (4, (.ptr 2 [])), (5, (.hole (.int .i64)))], [(.box (.arr 32 (.int .u8)) (.hole (.arr 32 (.int .u8)))), (.vec (.int .u8)), (.box (.arr 8 (.int .u32)) (.hole (.arr 8 (.int .u32))))]⟩
abbrev UO_ref03_Sum_L1 : Outs := (.one (.exit 0) ⟨[(2, (.ptr 0 [])), (4, (.ptr 1 []))], [(.box (.arr 32 (.int .u8)) (.hole (.arr 32 (.int .u8)))), (.box (.arr 8 (.int .u32)) (.hole (.arr 8 (.int .u32))))]⟩)
def B_ref03_Sum_L1 : Blk := frBlk 0 [] K0_ref03_Sum_L1 TM_ref03_Sum_L1 UO_ref03_Sum_L1 (fun k => loopV (fun v => ref03_Sum_L1 v))
abbrev K0_ref03_Sum_L2 : List (Nat × Ty) := [(33, (.arr 8 (.int .u32)))]
abbrev TM_ref03_Sum_L2 : Tm := ⟨[(2, (.ptr 0 [])), (7, (.ptr 1 [])), (34, (.hole (.int .i64)))], [(.box (.arr 32 (.int .u8)) (.hole (.arr 32 (.int .u8)))), (.box (.arr 32 (.int .u8)) (.hole (.arr 32 (.int .u8))))]⟩
abbrev UO_ref03_Sum_L2 : Outs := (.one (.exit 2) ⟨[(2, (.ptr 0 [])), (7, (.ptr 1 []))], [(.box (.arr 32 (.int .u8)) (.hole (.arr 32 (.int .u8)))), (.box (.arr 32 (.int .u8)) (.hole (.arr 32 (.int .u8))))]⟩)
def B_ref03_Sum_L2 : Blk := frBlk 0 [33] K0_ref03_Sum_L2 TM_ref03_Sum_L2 UO_ref03_Sum_L2 (fun k => loopV (fun v => ref03_Sum_L2 k.1 v))
def gs_ref03_Sum : Nat → Option Blk := lk [(1, B_ref03_Sum_L1), (2, B_ref03_Sum_L2)]
theorem ct_ref03_Sum_L2 : CodeSound Tryd.prog (cx_ref03_Sum) (subL (subR (subL (subR (subR (subR (subR (subR (bodyOf Tryd.f45))))))))) (B_ref03_Sum_L2).D :=
  loop_printed (G := gs_ref03_Sum) (A := .leaf) (T0 := K0_ref03_Sum_L2) (T := TM_ref03_Sum_L2) (U := UO_ref03_Sum_L2) (step := (fun k v => ref03_Sum_L2 k.1 v)) (cxo_ref03_Sum) follows (by kernel_rfl) (by kernel_rfl) (CutsOk.leaf _) (by intro k v; kernel_rfl)
theorem ct_ref03_Sum_L1 : CodeSound Tryd.prog (cx_ref03_Sum) (subL (subR (subL (subR (subR (subR (bodyOf Tryd.f45))))))) (B_ref03_Sum_L1).D :=
  loop_printed (G := gs_ref03_Sum) (A := .leaf) (T0 := K0_ref03_Sum_L1) (T := TM_ref03_Sum_L1) (U := UO_ref03_Sum_L1) (step := (fun k v => ref03_Sum_L1 v)) (cxo_ref03_Sum) follows (by kernel_rfl) (by kernel_rfl) (CutsOk.leaf _) (by intro k v; kernel_rfl)
theorem sd_ref03_Sum : FnSound Tryd.prog gl 45 sg_ref03_Sum :=
  fn_printed (G := gs_ref03_Sum) (A := (.two .leaf (.two .leaf (.two .leaf (.two (.two .leaf (.two (.cut 1) .leaf)) (.two .leaf (.two (.two .leaf (.two (.cut 2) .leaf)) .leaf))))))) (cxo_ref03_Sum) follows Tryd.func45 (by kernel_rfl) (by kernel_rfl) (by kernel_rfl) (by kernel_rfl) (by kernel_rfl) (CutsOk.two (CutsOk.leaf _) (CutsOk.two (CutsOk.leaf _) (CutsOk.two (CutsOk.leaf _) (CutsOk.two (CutsOk.two (CutsOk.leaf _) (CutsOk.two (CutsOk.cut (g := B_ref03_Sum_L1) (by kernel_rfl) (ct_ref03_Sum_L1)) (CutsOk.leaf _))) (CutsOk.two (CutsOk.leaf _) (CutsOk.two (CutsOk.two (CutsOk.leaf _) (CutsOk.two (CutsOk.cut (g := B_ref03_Sum_L2) (by kernel_rfl) (ct_ref03_Sum_L2)) (CutsOk.leaf _))) (CutsOk.leaf _))))))) (by intro v; kernel_rfl)
def sg_ref03_Double : Sig := mkSig [(.hole (.slice (.int .u8)))] [] [(.hole (.arr 32 (.int .u8)))] [] (fun p => ref03_Double p.1.1)
theorem fk_ref03_Double : FnOk Tryd.prog 38 := ⟨Tryd.f38, Tryd.func38, by kernel_rfl, by kernel_rfl⟩
def cx_ref03_Double : Cx := ⟨tys, lk [(45, sg_ref03_Sum)], 8, 0, [], gl⟩
theorem cxo_ref03_Double : CxOk Tryd.prog (cx_ref03_Double) := ⟨tys_ok, FnsOk.cons fk_ref03_Sum sd_ref03_Sum (FnsOk.nil)⟩
def gs_ref03_Double : Nat → Option Blk := lk []
theorem sd_ref03_Double : FnSound Tryd.prog gl 38 sg_ref03_Double :=
  fn_printed (G := gs_ref03_Double) (A := .leaf) (cxo_ref03_Double) follows Tryd.func38 (by kernel_rfl) (by kernel_rfl) (by kernel_rfl) (by kernel_rfl) (by kernel_rfl) (CutsOk.leaf _) (by intro v; kernel_rfl)
end Go.PE.YtolhomapnlcadaaDoor
end
end

section
set_option maxRecDepth 100000
set_option linter.unusedVariables false
noncomputable section
namespace Go.PE.YtolhomapnlcadaaDoor
open Go.PE Go.Proofs

def sg_ref20_Header : Sig := mkSig [(.hole (.arr 32 (.int .u8))), (.hole (.arr 32 (.int .u8)))] [] [(.hole (.arr 32 (.int .u8)))] [] (fun p => ref20_Header p.1.1 p.1.2.1)
theorem fk_ref20_Header : FnOk Tryd.prog 32 := ⟨Tryd.f32, Tryd.func32, by kernel_rfl, by kernel_rfl⟩
def cx_ref20_Header : Cx := ⟨tys, lk [(39, sg_ref01_Join), (38, sg_ref03_Double)], 10, 0, [], gl⟩
theorem cxo_ref20_Header : CxOk Tryd.prog (cx_ref20_Header) := ⟨tys_ok, FnsOk.cons fk_ref01_Join sd_ref01_Join (FnsOk.cons fk_ref03_Double sd_ref03_Double (FnsOk.nil))⟩
def gs_ref20_Header : Nat → Option Blk := lk []
theorem sd_ref20_Header : FnSound Tryd.prog gl 32 sg_ref20_Header :=
  fn_printed (G := gs_ref20_Header) (A := .leaf) (cxo_ref20_Header) follows Tryd.func32 (by kernel_rfl) (by kernel_rfl) (by kernel_rfl) (by kernel_rfl) (by kernel_rfl) (CutsOk.leaf _) (by intro v; kernel_rfl)
def sg_ref20_Encode : Sig := mkSig [(.hole T_b101)] [] [(.own 0), (.hole (.int .i64))] [(.vec (.int .u8))] (fun p => ref20_Encode p.1.1)
theorem fk_ref20_Encode : FnOk Tryd.prog 35 := ⟨Tryd.f35, Tryd.func35, by kernel_rfl, by kernel_rfl⟩
def cx_ref20_Encode : Cx := ⟨tys, lk [(42, sg_ref01_AppendBytes), (43, sg_ref01_AppendSize)], 25, 0, [], gl⟩
theorem cxo_ref20_Encode : CxOk Tryd.prog (cx_ref20_Encode) := ⟨tys_ok, FnsOk.cons fk_ref01_AppendBytes sd_ref01_AppendBytes (FnsOk.cons fk_ref01_AppendSize sd_ref01_AppendSize (FnsOk.nil))⟩
def gs_ref20_Encode : Nat → Option Blk := lk []
theorem sd_ref20_Encode : FnSound Tryd.prog gl 35 sg_ref20_Encode :=
  fn_printed (G := gs_ref20_Encode) (A := .leaf) (cxo_ref20_Encode) follows Tryd.func35 (by kernel_rfl) (by kernel_rfl) (by kernel_rfl) (by kernel_rfl) (by kernel_rfl) (CutsOk.leaf _) (by intro v; kernel_rfl)
def sg_ref20_Hash : Sig := mkSig [(.hole T_b101)] [] [(.hole (.arr 32 (.int .u8)))] [] (fun p => ref20_Hash p.1.1)
theorem fk_ref20_Hash : FnOk Tryd.prog 36 := ⟨Tryd.f36, Tryd.func36, by kernel_rfl, by kernel_rfl⟩
def cx_ref20_Hash : Cx := ⟨tys, lk [(38, sg_ref03_Double), (35, sg_ref20_Encode)], 15, 0, [], gl⟩
theorem cxo_ref20_Hash : CxOk Tryd.prog (cx_ref20_Hash) := ⟨tys_ok, FnsOk.cons fk_ref03_Double sd_ref03_Double (FnsOk.cons fk_ref20_Encode sd_ref20_Encode (FnsOk.nil))⟩
def gs_ref20_Hash : Nat → Option Blk := lk []
theorem sd_ref20_Hash : FnSound Tryd.prog gl 36 sg_ref20_Hash :=
  fn_printed (G := gs_ref20_Hash) (A := .leaf) (cxo_ref20_Hash) follows Tryd.func36 (by kernel_rfl) (by kernel_rfl) (by kernel_rfl) (by kernel_rfl) (by kernel_rfl) (CutsOk.leaf _) (by intro v; kernel_rfl)
end Go.PE.YtolhomapnlcadaaDoor
end
end

section
set_option maxRecDepth 100000
set_option linter.unusedVariables false
noncomputable section
namespace Go.PE.YtolhomapnlcadaaDoor
open Go.PE Go.Proofs

def sg_ref21_Sound : Sig := mkSig [(.hole T_d60b)] [] [(.hole .bool)] [] (fun p => ref21_Sound p.1.1)
theorem fk_ref21_Sound : FnOk Tryd.prog 13 := ⟨Tryd.f13, Tryd.func13, by kernel_rfl, by kernel_rfl⟩
def cx_ref21_Sound : Cx := ⟨tys, lk [], 16, 0, [], gl⟩
theorem cxo_ref21_Sound : CxOk Tryd.prog (cx_ref21_Sound) := ⟨tys_ok, FnsOk.nil⟩
def gs_ref21_Sound : Nat → Option Blk := lk []
theorem sd_ref21_Sound : FnSound Tryd.prog gl 13 sg_ref21_Sound :=
  fn_printed (G := gs_ref21_Sound) (A := .leaf) (cxo_ref21_Sound) follows Tryd.func13 (by kernel_rfl) (by kernel_rfl) (by kernel_rfl) (by kernel_rfl) (by kernel_rfl) (CutsOk.leaf _) (by intro v; kernel_rfl)
def sg_ref21_copied : Sig := mkSig [(.hole (.slice (.arr 32 (.int .u8))))] [] [(.own 0)] [(.vec (.arr 32 (.int .u8)))] (fun p => ref21_copied p.1.1)
theorem fk_ref21_copied : FnOk Tryd.prog 31 := ⟨Tryd.f31, Tryd.func31, by kernel_rfl, by kernel_rfl⟩
def cx_ref21_copied : Cx := ⟨tys, lk [], 5, 0, [], gl⟩
theorem cxo_ref21_copied : CxOk Tryd.prog (cx_ref21_copied) := ⟨tys_ok, FnsOk.nil⟩
def gs_ref21_copied : Nat → Option Blk := lk []
theorem sd_ref21_copied : FnSound Tryd.prog gl 31 sg_ref21_copied :=
  fn_printed (G := gs_ref21_copied) (A := .leaf) (cxo_ref21_copied) follows Tryd.func31 (by kernel_rfl) (by kernel_rfl) (by kernel_rfl) (by kernel_rfl) (by kernel_rfl) (CutsOk.leaf _) (by intro v; kernel_rfl)
def sg_ref21_Batch : Sig := mkSig [(.hole (.arr 32 (.int .u8))), (.hole (.slice (.arr 32 (.int .u8))))] [] [(.own 0)] [(.vec (.arr 32 (.int .u8)))] (fun p => ref21_Batch p.1.1 p.1.2.1)
theorem fk_ref21_Batch : FnOk Tryd.prog 16 := ⟨Tryd.f16, Tryd.func16, by kernel_rfl, by kernel_rfl⟩
def cx_ref21_Batch : Cx := ⟨tys, lk [(32, sg_ref20_Header)], 23, 0, [], gl⟩
theorem cxo_ref21_Batch : CxOk Tryd.prog (cx_ref21_Batch) := ⟨tys_ok, FnsOk.cons fk_ref20_Header sd_ref20_Header (FnsOk.nil)⟩
abbrev K0_ref21_Batch_L1 : List (Nat × Ty) := [(8, (.slice (.arr 32 (.int .u8)))), (9, (.int .i64))]
abbrev TM_ref21_Batch_L1 : Tm := ⟨[(2, (.ptr 0 [])), (5, (.own 1)), (10, (.hole (.int .i64)))], [(.box (.arr 32 (.int .u8)) (.hole (.arr 32 (.int .u8)))), (.vec (.arr 32 (.int .u8)))]⟩
abbrev UO_ref21_Batch_L1 : Outs := (.one (.exit 0) ⟨[(5, (.own 0))], [(.vec (.arr 32 (.int .u8)))]⟩)
def B_ref21_Batch_L1 : Blk := frBlk 0 [4, 8, 9] K0_ref21_Batch_L1 TM_ref21_Batch_L1 UO_ref21_Batch_L1 (fun k => loopV (fun v => ref21_Batch_L1 k.1 k.2.1 v))
def gs_ref21_Batch : Nat → Option Blk := lk [(1, B_ref21_Batch_L1)]
theorem ct_ref21_Batch_L1 : CodeSound Tryd.prog (cx_ref21_Batch) (subL (subR (subL (subR (subR (bodyOf Tryd.f16)))))) (B_ref21_Batch_L1).D :=
  loop_printed (G := gs_ref21_Batch) (A := .leaf) (T0 := K0_ref21_Batch_L1) (T := TM_ref21_Batch_L1) (U := UO_ref21_Batch_L1) (step := (fun k v => ref21_Batch_L1 k.1 k.2.1 v)) (cxo_ref21_Batch) follows (by kernel_rfl) (by kernel_rfl) (CutsOk.leaf _) (by intro k v; kernel_rfl)
theorem sd_ref21_Batch : FnSound Tryd.prog gl 16 sg_ref21_Batch :=
  fn_printed (G := gs_ref21_Batch) (A := (.two .leaf (.two .leaf (.two (.two .leaf (.two (.cut 1) .leaf)) .leaf)))) (cxo_ref21_Batch) follows Tryd.func16 (by kernel_rfl) (by kernel_rfl) (by kernel_rfl) (by kernel_rfl) (by kernel_rfl) (CutsOk.two (CutsOk.leaf _) (CutsOk.two (CutsOk.leaf _) (CutsOk.two (CutsOk.two (CutsOk.leaf _) (CutsOk.two (CutsOk.cut (g := B_ref21_Batch_L1) (by kernel_rfl) (ct_ref21_Batch_L1)) (CutsOk.leaf _))) (CutsOk.leaf _)))) (by intro v; kernel_rfl)
def sg_ref21_Extend : Sig := mkSig [(.hole T_d60b), (.hole (.slice (.arr 32 (.int .u8)))), (.hole (.slice (.arr 32 (.int .u8))))] [] [(.ncons (.own 0) (.ncons (.own 1) .nnil)), (.hole (.int .i64))] [(.vec (.arr 32 (.int .u8))), (.vec (.arr 32 (.int .u8)))] (fun p => ref21_Extend p.1.1 p.1.2.1 p.1.2.2.1)
theorem fk_ref21_Extend : FnOk Tryd.prog 11 := ⟨Tryd.f11, Tryd.func11, by kernel_rfl, by kernel_rfl⟩
def cx_ref21_Extend : Cx := ⟨tys, lk [(16, sg_ref21_Batch), (13, sg_ref21_Sound), (31, sg_ref21_copied)], 55, 0, [], gl⟩
theorem cxo_ref21_Extend : CxOk Tryd.prog (cx_ref21_Extend) := ⟨tys_ok, FnsOk.cons fk_ref21_Batch sd_ref21_Batch (FnsOk.cons fk_ref21_Sound sd_ref21_Sound (FnsOk.cons fk_ref21_copied sd_ref21_copied (FnsOk.nil)))⟩
abbrev K0_ref21_Extend_J1 : List (Nat × Ty) := []
abbrev TM_ref21_Extend_J1 : Tm := ⟨[(3, (.ptr 0 [])), (6, (.ptr 1 [])), (8, (.ptr 2 []))], [(.box T_d60b (.hole T_d60b)), (.box T_d60b (.ncons .nils (.ncons .nils .nnil))), (.box (.arr 32 (.int .u8)) (.hole (.arr 32 (.int .u8))))]⟩
abbrev UO_ref21_Extend_J1 : Outs := (.one .normal ⟨[(3, (.ptr 0 [])), (6, (.ptr 1 [])), (8, (.ptr 2 []))], [(.box T_d60b (.hole T_d60b)), (.box T_d60b (.ncons .nils (.ncons .nils .nnil))), (.box (.arr 32 (.int .u8)) (.hole (.arr 32 (.int .u8))))]⟩)
def B_ref21_Extend_J1 : Blk := frBlk 0 [1, 2, 7] K0_ref21_Extend_J1 TM_ref21_Extend_J1 UO_ref21_Extend_J1 (fun k v => ref21_Extend_J1 v)
def gs_ref21_Extend : Nat → Option Blk := lk [(1, B_ref21_Extend_J1)]
theorem ct_ref21_Extend_J1 : CodeSound Tryd.prog (cx_ref21_Extend) (subL (subR (subR (subR (bodyOf Tryd.f11))))) (B_ref21_Extend_J1).D :=
  join_sound (G := gs_ref21_Extend) (A := .leaf) (T0 := K0_ref21_Extend_J1) (T := TM_ref21_Extend_J1) (U := UO_ref21_Extend_J1) (F := (fun k v => ref21_Extend_J1 v)) (cxo_ref21_Extend) follows (by kernel_rfl) (CutsOk.leaf _) (by intro k v; kernel_rfl)
theorem sd_ref21_Extend : FnSound Tryd.prog gl 11 sg_ref21_Extend :=
  fn_printed (G := gs_ref21_Extend) (A := (.two .leaf (.two .leaf (.two .leaf (.two (.cut 1) .leaf))))) (cxo_ref21_Extend) follows Tryd.func11 (by kernel_rfl) (by kernel_rfl) (by kernel_rfl) (by kernel_rfl) (by kernel_rfl) (CutsOk.two (CutsOk.leaf _) (CutsOk.two (CutsOk.leaf _) (CutsOk.two (CutsOk.leaf _) (CutsOk.two (CutsOk.cut (g := B_ref21_Extend_J1) (by kernel_rfl) (ct_ref21_Extend_J1)) (CutsOk.leaf _))))) (by intro v; kernel_rfl)
def sg_ref21_Same : Sig := mkSig [(.hole T_d60b), (.hole T_d60b)] [] [(.hole .bool)] [] (fun p => ref21_Same p.1.1 p.1.2.1)
theorem fk_ref21_Same : FnOk Tryd.prog 17 := ⟨Tryd.f17, Tryd.func17, by kernel_rfl, by kernel_rfl⟩
def cx_ref21_Same : Cx := ⟨tys, lk [(14, sg_ref07_SameHashes)], 17, 0, [], gl⟩
theorem cxo_ref21_Same : CxOk Tryd.prog (cx_ref21_Same) := ⟨tys_ok, FnsOk.cons fk_ref07_SameHashes sd_ref07_SameHashes (FnsOk.nil)⟩
def gs_ref21_Same : Nat → Option Blk := lk []
theorem sd_ref21_Same : FnSound Tryd.prog gl 17 sg_ref21_Same :=
  fn_printed (G := gs_ref21_Same) (A := .leaf) (cxo_ref21_Same) follows Tryd.func17 (by kernel_rfl) (by kernel_rfl) (by kernel_rfl) (by kernel_rfl) (by kernel_rfl) (CutsOk.leaf _) (by intro v; kernel_rfl)
def sg_ref21_Checkpoints : Sig := mkSig [(.hole T_d60b), (.hole (.int .i64))] [] [(.own 0)] [(.vec (.arr 32 (.int .u8)))] (fun p => ref21_Checkpoints p.1.1 p.1.2.1)
theorem fk_ref21_Checkpoints : FnOk Tryd.prog 19 := ⟨Tryd.f19, Tryd.func19, by kernel_rfl, by kernel_rfl⟩
def cx_ref21_Checkpoints : Cx := ⟨tys, lk [(13, sg_ref21_Sound)], 35, 0, [], gl⟩
theorem cxo_ref21_Checkpoints : CxOk Tryd.prog (cx_ref21_Checkpoints) := ⟨tys_ok, FnsOk.cons fk_ref21_Sound sd_ref21_Sound (FnsOk.nil)⟩
abbrev K0_ref21_Checkpoints_L1 : List (Nat × Ty) := [(1, (.int .i64))]
abbrev TM_ref21_Checkpoints_L1 : Tm := ⟨[(2, (.ptr 0 [])), (5, (.own 1)), (6, (.hole (.int .i64)))], [(.box T_d60b (.hole T_d60b)), (.vec (.arr 32 (.int .u8)))]⟩
abbrev UO_ref21_Checkpoints_L1 : Outs := (.one (.exit 0) ⟨[(5, (.own 0))], [(.vec (.arr 32 (.int .u8)))]⟩)
def B_ref21_Checkpoints_L1 : Blk := frBlk 0 [1, 4] K0_ref21_Checkpoints_L1 TM_ref21_Checkpoints_L1 UO_ref21_Checkpoints_L1 (fun k => loopV (fun v => ref21_Checkpoints_L1 k.1 v))
def gs_ref21_Checkpoints : Nat → Option Blk := lk [(1, B_ref21_Checkpoints_L1)]
theorem ct_ref21_Checkpoints_L1 : CodeSound Tryd.prog (cx_ref21_Checkpoints) (subL (subR (subL (subR (subR (subR (bodyOf Tryd.f19))))))) (B_ref21_Checkpoints_L1).D :=
  loop_printed (G := gs_ref21_Checkpoints) (A := .leaf) (T0 := K0_ref21_Checkpoints_L1) (T := TM_ref21_Checkpoints_L1) (U := UO_ref21_Checkpoints_L1) (step := (fun k v => ref21_Checkpoints_L1 k.1 v)) (cxo_ref21_Checkpoints) follows (by kernel_rfl) (by kernel_rfl) (CutsOk.leaf _) (by intro k v; kernel_rfl)
theorem sd_ref21_Checkpoints : FnSound Tryd.prog gl 19 sg_ref21_Checkpoints :=
  fn_printed (G := gs_ref21_Checkpoints) (A := (.two .leaf (.two .leaf (.two .leaf (.two (.two .leaf (.two (.cut 1) .leaf)) .leaf))))) (cxo_ref21_Checkpoints) follows Tryd.func19 (by kernel_rfl) (by kernel_rfl) (by kernel_rfl) (by kernel_rfl) (by kernel_rfl) (CutsOk.two (CutsOk.leaf _) (CutsOk.two (CutsOk.leaf _) (CutsOk.two (CutsOk.leaf _) (CutsOk.two (CutsOk.two (CutsOk.leaf _) (CutsOk.two (CutsOk.cut (g := B_ref21_Checkpoints_L1) (by kernel_rfl) (ct_ref21_Checkpoints_L1)) (CutsOk.leaf _))) (CutsOk.leaf _))))) (by intro v; kernel_rfl)
def sg_ref21_Differ : Sig := mkSig [(.hole (.slice (.arr 32 (.int .u8)))), (.hole (.slice (.arr 32 (.int .u8))))] [] [(.hole (.int .i64))] [] (fun p => ref21_Differ p.1.1 p.1.2.1)
theorem fk_ref21_Differ : FnOk Tryd.prog 21 := ⟨Tryd.f21, Tryd.func21, by kernel_rfl, by kernel_rfl⟩
def cx_ref21_Differ : Cx := ⟨tys, lk [], 40, 0, [], gl⟩
theorem cxo_ref21_Differ : CxOk Tryd.prog (cx_ref21_Differ) := ⟨tys_ok, FnsOk.nil⟩
abbrev K0_ref21_Differ_J2 : List (Nat × Ty) := [(0, (.slice (.arr 32 (.int .u8)))), (1, (.slice (.arr 32 (.int .u8)))), (5, (.int .i64))]
abbrev TM_ref21_Differ_J2 : Tm := ⟨[], []⟩
abbrev UO_ref21_Differ_J2 : Outs := (.more .normal ⟨[], []⟩ (.one (.exit 0) ⟨[], []⟩))
def B_ref21_Differ_J2 : Blk := frBlk 0 [0, 1, 5] K0_ref21_Differ_J2 TM_ref21_Differ_J2 UO_ref21_Differ_J2 (fun k v => ref21_Differ_J2 k.1 k.2.1 k.2.2.1 v)
abbrev K0_ref21_Differ_L1 : List (Nat × Ty) := [(0, (.slice (.arr 32 (.int .u8)))), (1, (.slice (.arr 32 (.int .u8))))]
abbrev TM_ref21_Differ_L1 : Tm := ⟨[(5, (.hole (.int .i64)))], []⟩
abbrev UO_ref21_Differ_L1 : Outs := (.more .ret ⟨[(4, (.hole (.int .i64)))], []⟩ (.one (.exit 0) ⟨[], []⟩))
def B_ref21_Differ_L1 : Blk := frBlk 0 [0, 1] K0_ref21_Differ_L1 TM_ref21_Differ_L1 UO_ref21_Differ_L1 (fun k => loopV (fun v => ref21_Differ_L1 k.1 k.2.1 v))
def gs_ref21_Differ : Nat → Option Blk := lk [(2, B_ref21_Differ_J2), (1, B_ref21_Differ_L1)]
theorem ct_ref21_Differ_J2 : CodeSound Tryd.prog ((cx_ref21_Differ).fr [0, 1]) (subL (subL (subL (subR (subL (subR (bodyOf Tryd.f21))))))) (B_ref21_Differ_J2).D :=
  join_sound (G := gs_ref21_Differ) (A := .leaf) (T0 := K0_ref21_Differ_J2) (T := TM_ref21_Differ_J2) (U := UO_ref21_Differ_J2) (F := (fun k v => ref21_Differ_J2 k.1 k.2.1 k.2.2.1 v)) ((cxo_ref21_Differ).fr [0, 1]) follows (by kernel_rfl) (CutsOk.leaf _) (by intro k v; kernel_rfl)
theorem ct_ref21_Differ_L1 : CodeSound Tryd.prog (cx_ref21_Differ) (subL (subR (subL (subR (bodyOf Tryd.f21))))) (B_ref21_Differ_L1).D :=
  loop_printed (G := gs_ref21_Differ) (A := (.two (.cut 2) .leaf)) (T0 := K0_ref21_Differ_L1) (T := TM_ref21_Differ_L1) (U := UO_ref21_Differ_L1) (step := (fun k v => ref21_Differ_L1 k.1 k.2.1 v)) (cxo_ref21_Differ) follows (by kernel_rfl) (by kernel_rfl) (CutsOk.two (CutsOk.cut (g := B_ref21_Differ_J2) (by kernel_rfl) (ct_ref21_Differ_J2)) (CutsOk.leaf _)) (by intro k v; kernel_rfl)
theorem sd_ref21_Differ : FnSound Tryd.prog gl 21 sg_ref21_Differ :=
  fn_printed (G := gs_ref21_Differ) (A := (.two .leaf (.two (.two .leaf (.two (.cut 1) .leaf)) .leaf))) (cxo_ref21_Differ) follows Tryd.func21 (by kernel_rfl) (by kernel_rfl) (by kernel_rfl) (by kernel_rfl) (by kernel_rfl) (CutsOk.two (CutsOk.leaf _) (CutsOk.two (CutsOk.two (CutsOk.leaf _) (CutsOk.two (CutsOk.cut (g := B_ref21_Differ_L1) (by kernel_rfl) (ct_ref21_Differ_L1)) (CutsOk.leaf _))) (CutsOk.leaf _))) (by intro v; kernel_rfl)
def sg_ref21_Rewind : Sig := mkSig [(.hole T_d60b), (.hole (.int .i64))] [] [(.ncons (.own 0) (.ncons (.own 1) .nnil)), (.hole (.int .i64))] [(.vec (.arr 32 (.int .u8))), (.vec (.arr 32 (.int .u8)))] (fun p => ref21_Rewind p.1.1 p.1.2.1)
theorem fk_ref21_Rewind : FnOk Tryd.prog 23 := ⟨Tryd.f23, Tryd.func23, by kernel_rfl, by kernel_rfl⟩
def cx_ref21_Rewind : Cx := ⟨tys, lk [(13, sg_ref21_Sound), (31, sg_ref21_copied)], 31, 0, [], gl⟩
theorem cxo_ref21_Rewind : CxOk Tryd.prog (cx_ref21_Rewind) := ⟨tys_ok, FnsOk.cons fk_ref21_Sound sd_ref21_Sound (FnsOk.cons fk_ref21_copied sd_ref21_copied (FnsOk.nil))⟩
def gs_ref21_Rewind : Nat → Option Blk := lk []
theorem sd_ref21_Rewind : FnSound Tryd.prog gl 23 sg_ref21_Rewind :=
  fn_printed (G := gs_ref21_Rewind) (A := .leaf) (cxo_ref21_Rewind) follows Tryd.func23 (by kernel_rfl) (by kernel_rfl) (by kernel_rfl) (by kernel_rfl) (by kernel_rfl) (CutsOk.leaf _) (by intro v; kernel_rfl)
def sg_ref21_Common : Sig := mkSig [(.hole T_d60b), (.hole (.slice (.arr 32 (.int .u8))))] [] [(.hole (.int .i64))] [] (fun p => ref21_Common p.1.1 p.1.2.1)
theorem fk_ref21_Common : FnOk Tryd.prog 25 := ⟨Tryd.f25, Tryd.func25, by kernel_rfl, by kernel_rfl⟩
def cx_ref21_Common : Cx := ⟨tys, lk [(13, sg_ref21_Sound)], 35, 0, [], gl⟩
theorem cxo_ref21_Common : CxOk Tryd.prog (cx_ref21_Common) := ⟨tys_ok, FnsOk.cons fk_ref21_Sound sd_ref21_Sound (FnsOk.nil)⟩
abbrev K0_ref21_Common_L1 : List (Nat × Ty) := [(1, (.slice (.arr 32 (.int .u8))))]
abbrev TM_ref21_Common_L1 : Tm := ⟨[(2, (.ptr 0 [])), (5, (.hole (.int .i64)))], [(.box T_d60b (.hole T_d60b))]⟩
abbrev UO_ref21_Common_L1 : Outs := (.one (.exit 0) ⟨[(5, (.hole (.int .i64)))], []⟩)
def B_ref21_Common_L1 : Blk := frBlk 0 [1, 4] K0_ref21_Common_L1 TM_ref21_Common_L1 UO_ref21_Common_L1 (fun k => loopV (fun v => ref21_Common_L1 k.1 v))
def gs_ref21_Common : Nat → Option Blk := lk [(1, B_ref21_Common_L1)]
theorem ct_ref21_Common_L1 : CodeSound Tryd.prog (cx_ref21_Common) (subL (subL (subR (subR (subR (bodyOf Tryd.f25)))))) (B_ref21_Common_L1).D :=
  loop_printed (G := gs_ref21_Common) (A := .leaf) (T0 := K0_ref21_Common_L1) (T := TM_ref21_Common_L1) (U := UO_ref21_Common_L1) (step := (fun k v => ref21_Common_L1 k.1 v)) (cxo_ref21_Common) follows (by kernel_rfl) (by kernel_rfl) (CutsOk.leaf _) (by intro k v; kernel_rfl)
theorem sd_ref21_Common : FnSound Tryd.prog gl 25 sg_ref21_Common :=
  fn_printed (G := gs_ref21_Common) (A := (.two .leaf (.two .leaf (.two .leaf (.two (.two (.cut 1) .leaf) .leaf))))) (cxo_ref21_Common) follows Tryd.func25 (by kernel_rfl) (by kernel_rfl) (by kernel_rfl) (by kernel_rfl) (by kernel_rfl) (CutsOk.two (CutsOk.leaf _) (CutsOk.two (CutsOk.leaf _) (CutsOk.two (CutsOk.leaf _) (CutsOk.two (CutsOk.two (CutsOk.cut (g := B_ref21_Common_L1) (by kernel_rfl) (ct_ref21_Common_L1)) (CutsOk.leaf _)) (CutsOk.leaf _))))) (by intro v; kernel_rfl)
def sg_ref21_Verify : Sig := mkSig [(.hole T_d60b), (.hole (.int .i64)), (.hole T_b101)] [] [(.hole (.int .i64))] [] (fun p => ref21_Verify p.1.1 p.1.2.1 p.1.2.2.1)
theorem fk_ref21_Verify : FnOk Tryd.prog 27 := ⟨Tryd.f27, Tryd.func27, by kernel_rfl, by kernel_rfl⟩
def cx_ref21_Verify : Cx := ⟨tys, lk [(35, sg_ref20_Encode), (36, sg_ref20_Hash), (32, sg_ref20_Header), (13, sg_ref21_Sound)], 48, 0, [], gl⟩
theorem cxo_ref21_Verify : CxOk Tryd.prog (cx_ref21_Verify) := ⟨tys_ok, FnsOk.cons fk_ref20_Encode sd_ref20_Encode (FnsOk.cons fk_ref20_Hash sd_ref20_Hash (FnsOk.cons fk_ref20_Header sd_ref20_Header (FnsOk.cons fk_ref21_Sound sd_ref21_Sound (FnsOk.nil))))⟩
abbrev K0_ref21_Verify_J1 : List (Nat × Ty) := [(1, (.int .i64))]
abbrev TM_ref21_Verify_J1 : Tm := ⟨[(3, (.ptr 0 [])), (5, (.ptr 1 [])), (9, (.ptr 2 []))], [(.box T_d60b (.hole T_d60b)), (.box T_b101 (.hole T_b101)), (.box (.arr 32 (.int .u8)) (.hole (.arr 32 (.int .u8))))]⟩
abbrev UO_ref21_Verify_J1 : Outs := (.one .normal ⟨[(3, (.ptr 0 [])), (5, (.ptr 1 [])), (9, (.ptr 2 []))], [(.box T_d60b (.hole T_d60b)), (.box T_b101 (.hole T_b101)), (.box (.arr 32 (.int .u8)) (.hole (.arr 32 (.int .u8))))]⟩)
def B_ref21_Verify_J1 : Blk := frBlk 0 [1, 6] K0_ref21_Verify_J1 TM_ref21_Verify_J1 UO_ref21_Verify_J1 (fun k v => ref21_Verify_J1 k.1 v)
def gs_ref21_Verify : Nat → Option Blk := lk [(1, B_ref21_Verify_J1)]
theorem ct_ref21_Verify_J1 : CodeSound Tryd.prog (cx_ref21_Verify) (subL (subR (subR (subR (subR (subR (bodyOf Tryd.f27))))))) (B_ref21_Verify_J1).D :=
  join_sound (G := gs_ref21_Verify) (A := .leaf) (T0 := K0_ref21_Verify_J1) (T := TM_ref21_Verify_J1) (U := UO_ref21_Verify_J1) (F := (fun k v => ref21_Verify_J1 k.1 v)) (cxo_ref21_Verify) follows (by kernel_rfl) (CutsOk.leaf _) (by intro k v; kernel_rfl)
theorem sd_ref21_Verify : FnSound Tryd.prog gl 27 sg_ref21_Verify :=
  fn_printed (G := gs_ref21_Verify) (A := (.two .leaf (.two .leaf (.two .leaf (.two .leaf (.two .leaf (.two (.cut 1) .leaf))))))) (cxo_ref21_Verify) follows Tryd.func27 (by kernel_rfl) (by kernel_rfl) (by kernel_rfl) (by kernel_rfl) (by kernel_rfl) (CutsOk.two (CutsOk.leaf _) (CutsOk.two (CutsOk.leaf _) (CutsOk.two (CutsOk.leaf _) (CutsOk.two (CutsOk.leaf _) (CutsOk.two (CutsOk.leaf _) (CutsOk.two (CutsOk.cut (g := B_ref21_Verify_J1) (by kernel_rfl) (ct_ref21_Verify_J1)) (CutsOk.leaf _))))))) (by intro v; kernel_rfl)
end Go.PE.YtolhomapnlcadaaDoor
end
end

section
set_option maxRecDepth 100000
set_option linter.unusedVariables false
noncomputable section
namespace Go.PE.YtolhomapnlcadaaDoor
open Go.PE Go.Proofs

def sg_law21_sane : Sig := mkSig [] [] [(.hole .bool)] [] (fun p => law21_sane)
theorem fk_law21_sane : FnOk Tryd.prog 7 := ⟨Tryd.f7, Tryd.func7, by kernel_rfl, by kernel_rfl⟩
def cx_law21_sane : Cx := ⟨tys, lk [(28, sg_filter_Header), (20, sg_filterchain_Differ), (10, sg_filterchain_Extend)], 43, 0, [], gl⟩
theorem cxo_law21_sane : CxOk Tryd.prog (cx_law21_sane) := ⟨tys_ok, FnsOk.cons fk_filter_Header sd_filter_Header (FnsOk.cons fk_filterchain_Differ sd_filterchain_Differ (FnsOk.cons fk_filterchain_Extend sd_filterchain_Extend (FnsOk.nil)))⟩
def gs_law21_sane : Nat → Option Blk := lk []
theorem sd_law21_sane : FnSound Tryd.prog gl 7 sg_law21_sane :=
  fn_printed (G := gs_law21_sane) (A := .leaf) (cxo_law21_sane) follows Tryd.func7 (by kernel_rfl) (by kernel_rfl) (by kernel_rfl) (by kernel_rfl) (by kernel_rfl) (CutsOk.leaf _) (by intro v; kernel_rfl)
def sg_law21_kept : Sig := mkSig [(.hole T_d60b)] [] [(.hole .bool)] [] (fun p => law21_kept p.1.1)
theorem fk_law21_kept : FnOk Tryd.prog 8 := ⟨Tryd.f8, Tryd.func8, by kernel_rfl, by kernel_rfl⟩
def cx_law21_kept : Cx := ⟨tys, lk [], 13, 0, [], gl⟩
theorem cxo_law21_kept : CxOk Tryd.prog (cx_law21_kept) := ⟨tys_ok, FnsOk.nil⟩
def gs_law21_kept : Nat → Option Blk := lk []
theorem sd_law21_kept : FnSound Tryd.prog gl 8 sg_law21_kept :=
  fn_printed (G := gs_law21_kept) (A := .leaf) (cxo_law21_kept) follows Tryd.func8 (by kernel_rfl) (by kernel_rfl) (by kernel_rfl) (by kernel_rfl) (by kernel_rfl) (CutsOk.leaf _) (by intro v; kernel_rfl)
def sg_law21_few : Sig := mkSig [(.hole (.slice (.arr 32 (.int .u8)))), (.hole (.slice (.arr 32 (.int .u8))))] [] [(.hole .bool)] [] (fun p => law21_few p.1.1 p.1.2.1)
theorem fk_law21_few : FnOk Tryd.prog 9 := ⟨Tryd.f9, Tryd.func9, by kernel_rfl, by kernel_rfl⟩
def cx_law21_few : Cx := ⟨tys, lk [], 13, 0, [], gl⟩
theorem cxo_law21_few : CxOk Tryd.prog (cx_law21_few) := ⟨tys_ok, FnsOk.nil⟩
def gs_law21_few : Nat → Option Blk := lk []
theorem sd_law21_few : FnSound Tryd.prog gl 9 sg_law21_few :=
  fn_printed (G := gs_law21_few) (A := .leaf) (cxo_law21_few) follows Tryd.func9 (by kernel_rfl) (by kernel_rfl) (by kernel_rfl) (by kernel_rfl) (by kernel_rfl) (CutsOk.leaf _) (by intro v; kernel_rfl)
def sg_law21_FilterchainExtends : Sig := mkSig [(.hole T_d60b), (.hole (.slice (.arr 32 (.int .u8)))), (.hole (.slice (.arr 32 (.int .u8)))), (.hole (.arr 32 (.int .u8)))] [] [(.hole .bool)] [] (fun p => law21_FilterchainExtends p.1.1 p.1.2.1 p.1.2.2.1 p.1.2.2.2.1)
theorem fk_law21_FilterchainExtends : FnOk Tryd.prog 3 := ⟨Tryd.f3, Tryd.func3, by kernel_rfl, by kernel_rfl⟩
def cx_law21_FilterchainExtends : Cx := ⟨tys, lk [(15, sg_filterchain_Batch), (10, sg_filterchain_Extend), (12, sg_filterchain_Sound), (9, sg_law21_few), (8, sg_law21_kept), (7, sg_law21_sane), (14, sg_ref07_SameHashes), (16, sg_ref21_Batch), (11, sg_ref21_Extend), (17, sg_ref21_Same), (13, sg_ref21_Sound)], 62, 0, [], gl⟩
theorem cxo_law21_FilterchainExtends : CxOk Tryd.prog (cx_law21_FilterchainExtends) := ⟨tys_ok, FnsOk.cons fk_filterchain_Batch sd_filterchain_Batch (FnsOk.cons fk_filterchain_Extend sd_filterchain_Extend (FnsOk.cons fk_filterchain_Sound sd_filterchain_Sound (FnsOk.cons fk_law21_few sd_law21_few (FnsOk.cons fk_law21_kept sd_law21_kept (FnsOk.cons fk_law21_sane sd_law21_sane (FnsOk.cons fk_ref07_SameHashes sd_ref07_SameHashes (FnsOk.cons fk_ref21_Batch sd_ref21_Batch (FnsOk.cons fk_ref21_Extend sd_ref21_Extend (FnsOk.cons fk_ref21_Same sd_ref21_Same (FnsOk.cons fk_ref21_Sound sd_ref21_Sound (FnsOk.nil)))))))))))⟩
def gs_law21_FilterchainExtends : Nat → Option Blk := lk []
theorem sd_law21_FilterchainExtends : FnSound Tryd.prog gl 3 sg_law21_FilterchainExtends :=
  fn_printed (G := gs_law21_FilterchainExtends) (A := .leaf) (cxo_law21_FilterchainExtends) follows Tryd.func3 (by kernel_rfl) (by kernel_rfl) (by kernel_rfl) (by kernel_rfl) (by kernel_rfl) (CutsOk.leaf _) (by intro v; kernel_rfl)
def sg_law21_FilterchainChecks : Sig := mkSig [(.hole T_d60b), (.hole (.int .i64)), (.hole (.slice (.arr 32 (.int .u8)))), (.hole (.slice (.arr 32 (.int .u8))))] [] [(.hole .bool)] [] (fun p => law21_FilterchainChecks p.1.1 p.1.2.1 p.1.2.2.1 p.1.2.2.2.1)
theorem fk_law21_FilterchainChecks : FnOk Tryd.prog 4 := ⟨Tryd.f4, Tryd.func4, by kernel_rfl, by kernel_rfl⟩
def cx_law21_FilterchainChecks : Cx := ⟨tys, lk [(18, sg_filterchain_Checkpoints), (20, sg_filterchain_Differ), (9, sg_law21_few), (8, sg_law21_kept), (7, sg_law21_sane), (14, sg_ref07_SameHashes), (19, sg_ref21_Checkpoints), (21, sg_ref21_Differ)], 42, 0, [], gl⟩
theorem cxo_law21_FilterchainChecks : CxOk Tryd.prog (cx_law21_FilterchainChecks) := ⟨tys_ok, FnsOk.cons fk_filterchain_Checkpoints sd_filterchain_Checkpoints (FnsOk.cons fk_filterchain_Differ sd_filterchain_Differ (FnsOk.cons fk_law21_few sd_law21_few (FnsOk.cons fk_law21_kept sd_law21_kept (FnsOk.cons fk_law21_sane sd_law21_sane (FnsOk.cons fk_ref07_SameHashes sd_ref07_SameHashes (FnsOk.cons fk_ref21_Checkpoints sd_ref21_Checkpoints (FnsOk.cons fk_ref21_Differ sd_ref21_Differ (FnsOk.nil))))))))⟩
def gs_law21_FilterchainChecks : Nat → Option Blk := lk []
theorem sd_law21_FilterchainChecks : FnSound Tryd.prog gl 4 sg_law21_FilterchainChecks :=
  fn_printed (G := gs_law21_FilterchainChecks) (A := .leaf) (cxo_law21_FilterchainChecks) follows Tryd.func4 (by kernel_rfl) (by kernel_rfl) (by kernel_rfl) (by kernel_rfl) (by kernel_rfl) (CutsOk.leaf _) (by intro v; kernel_rfl)
def sg_law21_FilterchainRewinds : Sig := mkSig [(.hole T_d60b), (.hole (.int .i64)), (.hole (.slice (.arr 32 (.int .u8))))] [] [(.hole .bool)] [] (fun p => law21_FilterchainRewinds p.1.1 p.1.2.1 p.1.2.2.1)
theorem fk_law21_FilterchainRewinds : FnOk Tryd.prog 5 := ⟨Tryd.f5, Tryd.func5, by kernel_rfl, by kernel_rfl⟩
def cx_law21_FilterchainRewinds : Cx := ⟨tys, lk [(24, sg_filterchain_Common), (22, sg_filterchain_Rewind), (9, sg_law21_few), (8, sg_law21_kept), (7, sg_law21_sane), (25, sg_ref21_Common), (23, sg_ref21_Rewind), (17, sg_ref21_Same)], 70, 0, [], gl⟩
theorem cxo_law21_FilterchainRewinds : CxOk Tryd.prog (cx_law21_FilterchainRewinds) := ⟨tys_ok, FnsOk.cons fk_filterchain_Common sd_filterchain_Common (FnsOk.cons fk_filterchain_Rewind sd_filterchain_Rewind (FnsOk.cons fk_law21_few sd_law21_few (FnsOk.cons fk_law21_kept sd_law21_kept (FnsOk.cons fk_law21_sane sd_law21_sane (FnsOk.cons fk_ref21_Common sd_ref21_Common (FnsOk.cons fk_ref21_Rewind sd_ref21_Rewind (FnsOk.cons fk_ref21_Same sd_ref21_Same (FnsOk.nil))))))))⟩
def gs_law21_FilterchainRewinds : Nat → Option Blk := lk []
theorem sd_law21_FilterchainRewinds : FnSound Tryd.prog gl 5 sg_law21_FilterchainRewinds :=
  fn_printed (G := gs_law21_FilterchainRewinds) (A := .leaf) (cxo_law21_FilterchainRewinds) follows Tryd.func5 (by kernel_rfl) (by kernel_rfl) (by kernel_rfl) (by kernel_rfl) (by kernel_rfl) (CutsOk.leaf _) (by intro v; kernel_rfl)
def sg_law21_FilterchainVerifies : Sig := mkSig [(.hole T_d60b), (.hole (.int .i64)), (.hole T_b101)] [] [(.hole .bool)] [] (fun p => law21_FilterchainVerifies p.1.1 p.1.2.1 p.1.2.2.1)
theorem fk_law21_FilterchainVerifies : FnOk Tryd.prog 6 := ⟨Tryd.f6, Tryd.func6, by kernel_rfl, by kernel_rfl⟩
def cx_law21_FilterchainVerifies : Cx := ⟨tys, lk [(26, sg_filterchain_Verify), (8, sg_law21_kept), (7, sg_law21_sane), (27, sg_ref21_Verify)], 27, 0, [], gl⟩
theorem cxo_law21_FilterchainVerifies : CxOk Tryd.prog (cx_law21_FilterchainVerifies) := ⟨tys_ok, FnsOk.cons fk_filterchain_Verify sd_filterchain_Verify (FnsOk.cons fk_law21_kept sd_law21_kept (FnsOk.cons fk_law21_sane sd_law21_sane (FnsOk.cons fk_ref21_Verify sd_ref21_Verify (FnsOk.nil))))⟩
def gs_law21_FilterchainVerifies : Nat → Option Blk := lk []
theorem sd_law21_FilterchainVerifies : FnSound Tryd.prog gl 6 sg_law21_FilterchainVerifies :=
  fn_printed (G := gs_law21_FilterchainVerifies) (A := .leaf) (cxo_law21_FilterchainVerifies) follows Tryd.func6 (by kernel_rfl) (by kernel_rfl) (by kernel_rfl) (by kernel_rfl) (by kernel_rfl) (CutsOk.leaf _) (by intro v; kernel_rfl)
end Go.PE.YtolhomapnlcadaaDoor
end
end
