/- The functions of the program do what their printed texts say; no condition. -/
import Derived.Test.YtcikfbmkonhbbaaProg
import Derived.Test.YtcikfbmkonhbbaaQc
import Derived.Test.YtcikfbmkonhbbaaPa
import Derived.KernelRfl
section
set_option maxRecDepth 100000
noncomputable section
namespace Go.PE.Ytcikfbmkonhbbaa
open Go.PE Go.Proofs
def tys : Nat → Option Ty := lk [(3, (.int .i64)), (4, .bool), (5, (.int .u8)), (9, .str), (22, (.slice (.int .u8))), (24, T_6bf9), (25, (.int .u64)), (28, (.int .i64)), (37, (.slice (.int .u16))), (38, (.int .u16)), (41, .ptr), (45, T_9634), (54, (.slice (.slice (.int .u8))))]
theorem follows : Try.prog.follows .mixedOrders = true := by kernel_rfl
theorem ty_3 : fitTy Try.prog (.int .i64) (.id 3) = true := by kernel_rfl
theorem ty_4 : fitTy Try.prog .bool (.id 4) = true := by kernel_rfl
theorem ty_5 : fitTy Try.prog (.int .u8) (.id 5) = true := by kernel_rfl
theorem ty_9 : fitTy Try.prog .str (.id 9) = true := by kernel_rfl
theorem ty_22 : fitTy Try.prog (.slice (.int .u8)) (.id 22) = true := by kernel_rfl
theorem ty_24 : fitTy Try.prog T_6bf9 (.id 24) = true := by kernel_rfl
theorem ty_25 : fitTy Try.prog (.int .u64) (.id 25) = true := by kernel_rfl
theorem ty_28 : fitTy Try.prog (.int .i64) (.id 28) = true := by kernel_rfl
theorem ty_37 : fitTy Try.prog (.slice (.int .u16)) (.id 37) = true := by kernel_rfl
theorem ty_38 : fitTy Try.prog (.int .u16) (.id 38) = true := by kernel_rfl
theorem ty_41 : fitTy Try.prog .ptr (.id 41) = true := by kernel_rfl
theorem ty_45 : fitTy Try.prog T_9634 (.id 45) = true := by kernel_rfl
theorem ty_54 : fitTy Try.prog (.slice (.slice (.int .u8))) (.id 54) = true := by kernel_rfl
theorem dep : Nat.ble 62 Try.prog.depth = true := by kernel_rfl
theorem tys_ok : TyOk Try.prog tys := TyOk.lk_cons ty_3 (TyOk.lk_cons ty_4 (TyOk.lk_cons ty_5 (TyOk.lk_cons ty_9 (TyOk.lk_cons ty_22 (TyOk.lk_cons ty_24 (TyOk.lk_cons ty_25 (TyOk.lk_cons ty_28 (TyOk.lk_cons ty_37 (TyOk.lk_cons ty_38 (TyOk.lk_cons ty_41 (TyOk.lk_cons ty_45 (TyOk.lk_cons ty_54 (TyOk.lk_nil (Nat.le_of_ble_eq_true dep))))))))))))))
end Go.PE.Ytcikfbmkonhbbaa
end
end

section
set_option maxRecDepth 100000
set_option linter.unusedVariables false
noncomputable section
namespace Go.PE.Ytcikfbmkonhbbaa
open Go.PE Go.Proofs

def sg_bits_Valid : Sig := mkSig [(.hole T_6bf9)] [] [(.hole .bool)] [] (fun p => bits_Valid p.1.1)
def cx_bits_Valid : Cx := ⟨tys, lk [], 41, 0, []⟩
theorem cxo_bits_Valid : CxOk Try.prog cx_bits_Valid := ⟨tys_ok, FnsOk.nil⟩
def gs_bits_Valid : Nat → Option Blk := lk []
theorem fk_bits_Valid : FnOk Try.prog 12 := ⟨Try.f12, Try.func12, by kernel_rfl, by kernel_rfl⟩
theorem sd_bits_Valid : FnSound Try.prog 12 sg_bits_Valid :=
  fn_printed (G := gs_bits_Valid) (A := .leaf) cxo_bits_Valid follows Try.func12 (by kernel_rfl) (by kernel_rfl) (by kernel_rfl) (by kernel_rfl) (by kernel_rfl) (CutsOk.leaf _) (by intro v; kernel_rfl)
def sg_bits_begin : Sig := mkSig [(.hole T_6bf9), (.hole (.int .i64))] [] [(.ptr 0 [])] [(.box T_9634 (.ncons (.ncons (.own 1) (.hole (.cons (.int .i64) .nil))) .nnil)), (.vec (.int .u8))] (fun p => bits_begin p.1.1 p.1.2.1)
def cx_bits_begin : Cx := ⟨tys, lk [], 26, 0, []⟩
theorem cxo_bits_begin : CxOk Try.prog cx_bits_begin := ⟨tys_ok, FnsOk.nil⟩
def gs_bits_begin : Nat → Option Blk := lk []
theorem fk_bits_begin : FnOk Try.prog 19 := ⟨Try.f19, Try.func19, by kernel_rfl, by kernel_rfl⟩
theorem sd_bits_begin : FnSound Try.prog 19 sg_bits_begin :=
  fn_printed (G := gs_bits_begin) (A := .leaf) cxo_bits_begin follows Try.func19 (by kernel_rfl) (by kernel_rfl) (by kernel_rfl) (by kernel_rfl) (by kernel_rfl) (CutsOk.leaf _) (by intro v; kernel_rfl)
def sg_bits_writer_bit : Sig := mkSig [(.ptr 0 []), (.hole (.int .u64))] [(.box T_9634 (.ncons (.ncons (.own 1) (.hole (.cons (.int .i64) .nil))) .nnil)), (.vec (.int .u8))] [] [(.box T_9634 (.ncons (.ncons (.own 2) (.hole (.cons (.int .i64) .nil))) .nnil)), .dead, (.vec (.int .u8))] (fun p => bits_writer_bit p.1.2.1 p.2.1.1.2 p.2.2.1)
def cx_bits_writer_bit : Cx := ⟨tys, lk [], 57, 2, []⟩
theorem cxo_bits_writer_bit : CxOk Try.prog cx_bits_writer_bit := ⟨tys_ok, FnsOk.nil⟩
abbrev K0_bits_writer_bit_J1 : List (Nat × Ty) := []
abbrev TM_bits_writer_bit_J1 : Tm := ⟨[(0, (.ptr 0 []))], [(.box T_9634 (.ncons (.ncons (.own 2) (.hole (.cons (.int .i64) .nil))) .nnil)), .dead, (.vec (.int .u8))]⟩
abbrev UO_bits_writer_bit_J1 : Outs := (.one .normal ⟨[(0, (.ptr 0 []))], [(.box T_9634 (.ncons (.ncons (.own 2) (.hole (.cons (.int .i64) .nil))) .nnil)), .dead, (.vec (.int .u8))]⟩)
def B_bits_writer_bit_J1 : Blk := frBlk 2 [1] K0_bits_writer_bit_J1 TM_bits_writer_bit_J1 UO_bits_writer_bit_J1 (fun k v => bits_writer_bit_J1 v)
def gs_bits_writer_bit : Nat → Option Blk := lk [(1, B_bits_writer_bit_J1)]
theorem ct_bits_writer_bit_J1 : CodeSound Try.prog cx_bits_writer_bit (subL (bodyOf Try.f27)) B_bits_writer_bit_J1.D :=
  join_sound (G := gs_bits_writer_bit) (A := .leaf) (T0 := K0_bits_writer_bit_J1) (T := TM_bits_writer_bit_J1) (U := UO_bits_writer_bit_J1) (F := (fun k v => bits_writer_bit_J1 v)) cxo_bits_writer_bit follows (by kernel_rfl) (CutsOk.leaf _) (by intro k v; kernel_rfl)
theorem fk_bits_writer_bit : FnOk Try.prog 27 := ⟨Try.f27, Try.func27, by kernel_rfl, by kernel_rfl⟩
theorem sd_bits_writer_bit : FnSound Try.prog 27 sg_bits_writer_bit :=
  fn_printed (G := gs_bits_writer_bit) (A := (.two (.cut 1) .leaf)) cxo_bits_writer_bit follows Try.func27 (by kernel_rfl) (by kernel_rfl) (by kernel_rfl) (by kernel_rfl) (by kernel_rfl) (CutsOk.two (CutsOk.cut (g := B_bits_writer_bit_J1) (by kernel_rfl) ct_bits_writer_bit_J1) (CutsOk.leaf _)) (by intro v; kernel_rfl)
def sg_bits_writer_low : Sig := mkSig [(.ptr 0 []), (.hole (.int .u64)), (.hole (.int .i64))] [(.box T_9634 (.ncons (.ncons (.own 1) (.hole (.cons (.int .i64) .nil))) .nnil)), (.vec (.int .u8))] [] [(.box T_9634 (.ncons (.ncons (.own 2) (.hole (.cons (.int .i64) .nil))) .nnil)), .dead, (.vec (.int .u8))] (fun p => bits_writer_low p.1.2.1 p.1.2.2.1 p.2.1.1.2 p.2.2.1)
def cx_bits_writer_low : Cx := ⟨tys, lk [(27, sg_bits_writer_bit)], 17, 2, []⟩
theorem cxo_bits_writer_low : CxOk Try.prog cx_bits_writer_low := ⟨tys_ok, FnsOk.cons fk_bits_writer_bit sd_bits_writer_bit (FnsOk.nil)⟩
abbrev K0_bits_writer_low_L1 : List (Nat × Ty) := [(1, (.int .u64))]
abbrev TM_bits_writer_low_L1 : Tm := ⟨[(0, (.ptr 0 [])), (2, (.hole (.int .i64)))], [(.box T_9634 (.ncons (.ncons (.own 2) (.hole (.cons (.int .i64) .nil))) .nnil)), .dead, (.vec (.int .u8))]⟩
abbrev UO_bits_writer_low_L1 : Outs := (.one (.exit 0) ⟨[], [(.box T_9634 (.ncons (.ncons (.own 2) (.hole (.cons (.int .i64) .nil))) .nnil)), .dead, (.vec (.int .u8))]⟩)
def B_bits_writer_low_L1 : Blk := frBlk 2 [1] K0_bits_writer_low_L1 TM_bits_writer_low_L1 UO_bits_writer_low_L1 (fun k => loopV (fun v => bits_writer_low_L1 k.1 v))
def gs_bits_writer_low : Nat → Option Blk := lk [(1, B_bits_writer_low_L1)]
theorem ct_bits_writer_low_L1 : CodeSound Try.prog cx_bits_writer_low (subL (subR (bodyOf Try.f20))) B_bits_writer_low_L1.D :=
  loop_printed (G := gs_bits_writer_low) (A := .leaf) (T0 := K0_bits_writer_low_L1) (T := TM_bits_writer_low_L1) (U := UO_bits_writer_low_L1) (step := (fun k v => bits_writer_low_L1 k.1 v)) cxo_bits_writer_low follows (by kernel_rfl) (by kernel_rfl) (CutsOk.leaf _) (by intro k v; kernel_rfl)
theorem fk_bits_writer_low : FnOk Try.prog 20 := ⟨Try.f20, Try.func20, by kernel_rfl, by kernel_rfl⟩
theorem sd_bits_writer_low : FnSound Try.prog 20 sg_bits_writer_low :=
  fn_printed (G := gs_bits_writer_low) (A := (.two .leaf (.two (.cut 1) .leaf))) cxo_bits_writer_low follows Try.func20 (by kernel_rfl) (by kernel_rfl) (by kernel_rfl) (by kernel_rfl) (by kernel_rfl) (CutsOk.two (CutsOk.leaf _) (CutsOk.two (CutsOk.cut (g := B_bits_writer_low_L1) (by kernel_rfl) ct_bits_writer_low_L1) (CutsOk.leaf _))) (by intro v; kernel_rfl)
def sg_bits_Append : Sig := mkSig [(.hole T_6bf9), (.hole (.int .u64)), (.hole (.int .i64))] [] [(.ncons (.own 0) (.hole (.cons (.int .i64) .nil))), (.hole (.int .i64))] [(.vec (.int .u8))] (fun p => bits_Append p.1.1 p.1.2.1 p.1.2.2.1)
def cx_bits_Append : Cx := ⟨tys, lk [(12, sg_bits_Valid), (19, sg_bits_begin), (20, sg_bits_writer_low)], 40, 0, []⟩
theorem cxo_bits_Append : CxOk Try.prog cx_bits_Append := ⟨tys_ok, FnsOk.cons fk_bits_Valid sd_bits_Valid (FnsOk.cons fk_bits_begin sd_bits_begin (FnsOk.cons fk_bits_writer_low sd_bits_writer_low (FnsOk.nil)))⟩
def gs_bits_Append : Nat → Option Blk := lk []
theorem fk_bits_Append : FnOk Try.prog 10 := ⟨Try.f10, Try.func10, by kernel_rfl, by kernel_rfl⟩
theorem sd_bits_Append : FnSound Try.prog 10 sg_bits_Append :=
  fn_printed (G := gs_bits_Append) (A := .leaf) cxo_bits_Append follows Try.func10 (by kernel_rfl) (by kernel_rfl) (by kernel_rfl) (by kernel_rfl) (by kernel_rfl) (CutsOk.leaf _) (by intro v; kernel_rfl)
def sg_bits_AppendRice : Sig := mkSig [(.hole T_6bf9), (.hole (.int .u64)), (.hole (.int .i64))] [] [(.ncons (.own 0) (.hole (.cons (.int .i64) .nil))), (.hole (.int .i64))] [(.vec (.int .u8))] (fun p => bits_AppendRice p.1.1 p.1.2.1 p.1.2.2.1)
def cx_bits_AppendRice : Cx := ⟨tys, lk [(12, sg_bits_Valid), (19, sg_bits_begin), (27, sg_bits_writer_bit), (20, sg_bits_writer_low)], 68, 0, []⟩
theorem cxo_bits_AppendRice : CxOk Try.prog cx_bits_AppendRice := ⟨tys_ok, FnsOk.cons fk_bits_Valid sd_bits_Valid (FnsOk.cons fk_bits_begin sd_bits_begin (FnsOk.cons fk_bits_writer_bit sd_bits_writer_bit (FnsOk.cons fk_bits_writer_low sd_bits_writer_low (FnsOk.nil))))⟩
abbrev K0_bits_AppendRice_L1 : List (Nat × Ty) := [(52, (.int .u64))]
abbrev TM_bits_AppendRice_L1 : Tm := ⟨[(6, (.ptr 0 [])), (8, (.ptr 1 [])), (53, (.hole (.int .u64)))], [(.box T_6bf9 (.hole T_6bf9)), (.box T_9634 (.ncons (.ncons (.own 2) (.hole (.cons (.int .i64) .nil))) .nnil)), (.vec (.int .u8))]⟩
abbrev UO_bits_AppendRice_L1 : Outs := (.one (.exit 1) ⟨[(6, (.ptr 0 [])), (8, (.ptr 1 []))], [(.box T_6bf9 (.hole T_6bf9)), (.box T_9634 (.ncons (.ncons (.own 2) (.hole (.cons (.int .i64) .nil))) .nnil)), (.vec (.int .u8))]⟩)
def B_bits_AppendRice_L1 : Blk := frBlk 0 [1, 2, 7, 52] K0_bits_AppendRice_L1 TM_bits_AppendRice_L1 UO_bits_AppendRice_L1 (fun k => loopV (fun v => bits_AppendRice_L1 k.1 v))
def gs_bits_AppendRice : Nat → Option Blk := lk [(1, B_bits_AppendRice_L1)]
theorem ct_bits_AppendRice_L1 : CodeSound Try.prog cx_bits_AppendRice (subL (subR (subL (subR (subR (subR (bodyOf Try.f17))))))) B_bits_AppendRice_L1.D :=
  loop_printed (G := gs_bits_AppendRice) (A := .leaf) (T0 := K0_bits_AppendRice_L1) (T := TM_bits_AppendRice_L1) (U := UO_bits_AppendRice_L1) (step := (fun k v => bits_AppendRice_L1 k.1 v)) cxo_bits_AppendRice follows (by kernel_rfl) (by kernel_rfl) (CutsOk.leaf _) (by intro k v; kernel_rfl)
theorem fk_bits_AppendRice : FnOk Try.prog 17 := ⟨Try.f17, Try.func17, by kernel_rfl, by kernel_rfl⟩
theorem sd_bits_AppendRice : FnSound Try.prog 17 sg_bits_AppendRice :=
  fn_printed (G := gs_bits_AppendRice) (A := (.two .leaf (.two .leaf (.two .leaf (.two (.two .leaf (.two (.cut 1) .leaf)) .leaf))))) cxo_bits_AppendRice follows Try.func17 (by kernel_rfl) (by kernel_rfl) (by kernel_rfl) (by kernel_rfl) (by kernel_rfl) (CutsOk.two (CutsOk.leaf _) (CutsOk.two (CutsOk.leaf _) (CutsOk.two (CutsOk.leaf _) (CutsOk.two (CutsOk.two (CutsOk.leaf _) (CutsOk.two (CutsOk.cut (g := B_bits_AppendRice_L1) (by kernel_rfl) ct_bits_AppendRice_L1) (CutsOk.leaf _))) (CutsOk.leaf _))))) (by intro v; kernel_rfl)
def sg_bits_get : Sig := mkSig [(.hole T_6bf9), (.hole (.int .i64))] [] [(.hole (.int .u64))] [] (fun p => bits_get p.1.1 p.1.2.1)
def cx_bits_get : Cx := ⟨tys, lk [], 17, 0, []⟩
theorem cxo_bits_get : CxOk Try.prog cx_bits_get := ⟨tys_ok, FnsOk.nil⟩
def gs_bits_get : Nat → Option Blk := lk []
theorem fk_bits_get : FnOk Try.prog 25 := ⟨Try.f25, Try.func25, by kernel_rfl, by kernel_rfl⟩
theorem sd_bits_get : FnSound Try.prog 25 sg_bits_get :=
  fn_printed (G := gs_bits_get) (A := .leaf) cxo_bits_get follows Try.func25 (by kernel_rfl) (by kernel_rfl) (by kernel_rfl) (by kernel_rfl) (by kernel_rfl) (CutsOk.leaf _) (by intro v; kernel_rfl)
def sg_bits_Read : Sig := mkSig [(.hole T_6bf9), (.hole (.int .i64)), (.hole (.int .i64))] [] [(.hole (.int .u64)), (.hole (.int .i64)), (.hole (.int .i64))] [] (fun p => bits_Read p.1.1 p.1.2.1 p.1.2.2.1)
def cx_bits_Read : Cx := ⟨tys, lk [(12, sg_bits_Valid), (25, sg_bits_get)], 56, 0, []⟩
theorem cxo_bits_Read : CxOk Try.prog cx_bits_Read := ⟨tys_ok, FnsOk.cons fk_bits_Valid sd_bits_Valid (FnsOk.cons fk_bits_get sd_bits_get (FnsOk.nil))⟩
abbrev K0_bits_Read_J1 : List (Nat × Ty) := [(1, (.int .i64)), (2, (.int .i64))]
abbrev TM_bits_Read_J1 : Tm := ⟨[(3, (.ptr 0 []))], [(.box T_6bf9 (.hole T_6bf9))]⟩
abbrev UO_bits_Read_J1 : Outs := (.one .normal ⟨[(3, (.ptr 0 [])), (15, (.hole .bool))], [(.box T_6bf9 (.hole T_6bf9))]⟩)
def B_bits_Read_J1 : Blk := frBlk 0 [1, 2, 6, 7, 8] K0_bits_Read_J1 TM_bits_Read_J1 UO_bits_Read_J1 (fun k v => bits_Read_J1 k.1 k.2.1 v)
abbrev K0_bits_Read_L2 : List (Nat × Ty) := [(1, (.int .i64)), (39, (.int .i64))]
abbrev TM_bits_Read_L2 : Tm := ⟨[(3, (.ptr 0 [])), (9, (.hole (.int .u64))), (40, (.hole (.int .i64)))], [(.box T_6bf9 (.hole T_6bf9))]⟩
abbrev UO_bits_Read_L2 : Outs := (.one (.exit 1) ⟨[(9, (.hole (.int .u64)))], []⟩)
def B_bits_Read_L2 : Blk := frBlk 0 [1, 2, 6, 7, 8, 39] K0_bits_Read_L2 TM_bits_Read_L2 UO_bits_Read_L2 (fun k => loopV (fun v => bits_Read_L2 k.1 k.2.1 v))
def gs_bits_Read : Nat → Option Blk := lk [(1, B_bits_Read_J1), (2, B_bits_Read_L2)]
theorem ct_bits_Read_J1 : CodeSound Try.prog cx_bits_Read (subL (subR (subR (subL (subL (subR (bodyOf Try.f15))))))) B_bits_Read_J1.D :=
  join_sound (G := gs_bits_Read) (A := .leaf) (T0 := K0_bits_Read_J1) (T := TM_bits_Read_J1) (U := UO_bits_Read_J1) (F := (fun k v => bits_Read_J1 k.1 k.2.1 v)) cxo_bits_Read follows (by kernel_rfl) (CutsOk.leaf _) (by intro k v; kernel_rfl)
theorem ct_bits_Read_L2 : CodeSound Try.prog cx_bits_Read (subL (subR (subL (subR (subR (subR (bodyOf Try.f15))))))) B_bits_Read_L2.D :=
  loop_printed (G := gs_bits_Read) (A := .leaf) (T0 := K0_bits_Read_L2) (T := TM_bits_Read_L2) (U := UO_bits_Read_L2) (step := (fun k v => bits_Read_L2 k.1 k.2.1 v)) cxo_bits_Read follows (by kernel_rfl) (by kernel_rfl) (CutsOk.leaf _) (by intro k v; kernel_rfl)
theorem fk_bits_Read : FnOk Try.prog 15 := ⟨Try.f15, Try.func15, by kernel_rfl, by kernel_rfl⟩
theorem sd_bits_Read : FnSound Try.prog 15 sg_bits_Read :=
  fn_printed (G := gs_bits_Read) (A := (.two .leaf (.two (.two (.two .leaf (.two .leaf (.two (.cut 1) .leaf))) .leaf) (.two .leaf (.two (.two .leaf (.two (.cut 2) .leaf)) .leaf))))) cxo_bits_Read follows Try.func15 (by kernel_rfl) (by kernel_rfl) (by kernel_rfl) (by kernel_rfl) (by kernel_rfl) (CutsOk.two (CutsOk.leaf _) (CutsOk.two (CutsOk.two (CutsOk.two (CutsOk.leaf _) (CutsOk.two (CutsOk.leaf _) (CutsOk.two (CutsOk.cut (g := B_bits_Read_J1) (by kernel_rfl) ct_bits_Read_J1) (CutsOk.leaf _)))) (CutsOk.leaf _)) (CutsOk.two (CutsOk.leaf _) (CutsOk.two (CutsOk.two (CutsOk.leaf _) (CutsOk.two (CutsOk.cut (g := B_bits_Read_L2) (by kernel_rfl) ct_bits_Read_L2) (CutsOk.leaf _))) (CutsOk.leaf _))))) (by intro v; kernel_rfl)
def sg_bits_ReadRice : Sig := mkSig [(.hole T_6bf9), (.hole (.int .i64)), (.hole (.int .i64))] [] [(.hole (.int .u64)), (.hole (.int .i64)), (.hole (.int .i64))] [] (fun p => bits_ReadRice p.1.1 p.1.2.1 p.1.2.2.1)
def cx_bits_ReadRice : Cx := ⟨tys, lk [(15, sg_bits_Read), (12, sg_bits_Valid), (25, sg_bits_get)], 76, 0, []⟩
theorem cxo_bits_ReadRice : CxOk Try.prog cx_bits_ReadRice := ⟨tys_ok, FnsOk.cons fk_bits_Read sd_bits_Read (FnsOk.cons fk_bits_Valid sd_bits_Valid (FnsOk.cons fk_bits_get sd_bits_get (FnsOk.nil)))⟩
abbrev K0_bits_ReadRice_J1 : List (Nat × Ty) := [(1, (.int .i64)), (2, (.int .i64))]
abbrev TM_bits_ReadRice_J1 : Tm := ⟨[(3, (.ptr 0 []))], [(.box T_6bf9 (.hole T_6bf9))]⟩
abbrev UO_bits_ReadRice_J1 : Outs := (.one .normal ⟨[(3, (.ptr 0 [])), (31, (.hole .bool))], [(.box T_6bf9 (.hole T_6bf9))]⟩)
def B_bits_ReadRice_J1 : Blk := frBlk 0 [1, 2, 6, 7, 8] K0_bits_ReadRice_J1 TM_bits_ReadRice_J1 UO_bits_ReadRice_J1 (fun k v => bits_ReadRice_J1 k.1 k.2.1 v)
abbrev K0_bits_ReadRice_L2 : List (Nat × Ty) := []
abbrev TM_bits_ReadRice_L2 : Tm := ⟨[(1, (.hole (.int .i64))), (3, (.ptr 0 [])), (9, (.hole (.int .u64)))], [(.box T_6bf9 (.hole T_6bf9))]⟩
abbrev UO_bits_ReadRice_L2 : Outs := (.more .ret ⟨[(6, (.hole (.int .u64))), (7, (.hole (.int .i64))), (8, (.hole (.int .i64)))], []⟩ (.one (.exit 0) ⟨[(1, (.hole (.int .i64))), (3, (.ptr 0 [])), (9, (.hole (.int .u64)))], [(.box T_6bf9 (.hole T_6bf9))]⟩))
def B_bits_ReadRice_L2 : Blk := frBlk 0 [2] K0_bits_ReadRice_L2 TM_bits_ReadRice_L2 UO_bits_ReadRice_L2 (fun k => loopV (fun v => bits_ReadRice_L2 v))
def gs_bits_ReadRice : Nat → Option Blk := lk [(1, B_bits_ReadRice_J1), (2, B_bits_ReadRice_L2)]
theorem ct_bits_ReadRice_L2 : CodeSound Try.prog cx_bits_ReadRice (subL (subL (subR (subR (subR (subR (bodyOf Try.f18))))))) B_bits_ReadRice_L2.D :=
  loop_printed (G := gs_bits_ReadRice) (A := .leaf) (T0 := K0_bits_ReadRice_L2) (T := TM_bits_ReadRice_L2) (U := UO_bits_ReadRice_L2) (step := (fun k v => bits_ReadRice_L2 v)) cxo_bits_ReadRice follows (by kernel_rfl) (by kernel_rfl) (CutsOk.leaf _) (by intro k v; kernel_rfl)
theorem ct_bits_ReadRice_J1 : CodeSound Try.prog cx_bits_ReadRice (subL (subL (subR (subR (bodyOf Try.f18))))) B_bits_ReadRice_J1.D :=
  join_sound (G := gs_bits_ReadRice) (A := .leaf) (T0 := K0_bits_ReadRice_J1) (T := TM_bits_ReadRice_J1) (U := UO_bits_ReadRice_J1) (F := (fun k v => bits_ReadRice_J1 k.1 k.2.1 v)) cxo_bits_ReadRice follows (by kernel_rfl) (CutsOk.leaf _) (by intro k v; kernel_rfl)
theorem fk_bits_ReadRice : FnOk Try.prog 18 := ⟨Try.f18, Try.func18, by kernel_rfl, by kernel_rfl⟩
theorem sd_bits_ReadRice : FnSound Try.prog 18 sg_bits_ReadRice :=
  fn_printed (G := gs_bits_ReadRice) (A := (.two .leaf (.two .leaf (.two (.two (.cut 1) .leaf) (.two .leaf (.two (.two (.cut 2) .leaf) .leaf)))))) cxo_bits_ReadRice follows Try.func18 (by kernel_rfl) (by kernel_rfl) (by kernel_rfl) (by kernel_rfl) (by kernel_rfl) (CutsOk.two (CutsOk.leaf _) (CutsOk.two (CutsOk.leaf _) (CutsOk.two (CutsOk.two (CutsOk.cut (g := B_bits_ReadRice_J1) (by kernel_rfl) ct_bits_ReadRice_J1) (CutsOk.leaf _)) (CutsOk.two (CutsOk.leaf _) (CutsOk.two (CutsOk.two (CutsOk.cut (g := B_bits_ReadRice_L2) (by kernel_rfl) ct_bits_ReadRice_L2) (CutsOk.leaf _)) (CutsOk.leaf _)))))) (by intro v; kernel_rfl)
end Go.PE.Ytcikfbmkonhbbaa
end
end

section
set_option maxRecDepth 100000
set_option linter.unusedVariables false
noncomputable section
namespace Go.PE.Ytcikfbmkonhbbaa
open Go.PE Go.Proofs

def sg_ref01_joined : Sig := mkSig [(.hole (.slice (.int .u8))), (.hole (.slice (.int .u8)))] [] [(.own 0)] [(.vec (.int .u8))] (fun p => ref01_joined p.1.1 p.1.2.1)
def cx_ref01_joined : Cx := ⟨tys, lk [], 17, 0, []⟩
theorem cxo_ref01_joined : CxOk Try.prog cx_ref01_joined := ⟨tys_ok, FnsOk.nil⟩
def gs_ref01_joined : Nat → Option Blk := lk []
theorem fk_ref01_joined : FnOk Try.prog 28 := ⟨Try.f28, Try.func28, by kernel_rfl, by kernel_rfl⟩
theorem sd_ref01_joined : FnSound Try.prog 28 sg_ref01_joined :=
  fn_printed (G := gs_ref01_joined) (A := .leaf) cxo_ref01_joined follows Try.func28 (by kernel_rfl) (by kernel_rfl) (by kernel_rfl) (by kernel_rfl) (by kernel_rfl) (CutsOk.leaf _) (by intro v; kernel_rfl)
def sg_ref01_Join : Sig := mkSig [(.hole (.slice (.slice (.int .u8))))] [] [(.own 0)] [(.vec (.int .u8))] (fun p => ref01_Join p.1.1)
def cx_ref01_Join : Cx := ⟨tys, lk [(28, sg_ref01_joined)], 17, 0, []⟩
theorem cxo_ref01_Join : CxOk Try.prog cx_ref01_Join := ⟨tys_ok, FnsOk.cons fk_ref01_joined sd_ref01_joined (FnsOk.nil)⟩
abbrev K0_ref01_Join_L1 : List (Nat × Ty) := [(6, (.slice (.slice (.int .u8)))), (7, (.int .i64))]
abbrev TM_ref01_Join_L1 : Tm := ⟨[(3, (.own 0)), (8, (.hole (.int .i64)))], [(.vec (.int .u8))]⟩
abbrev UO_ref01_Join_L1 : Outs := (.one (.exit 0) ⟨[(3, (.own 0))], [(.vec (.int .u8))]⟩)
def B_ref01_Join_L1 : Blk := frBlk 0 [2, 6, 7] K0_ref01_Join_L1 TM_ref01_Join_L1 UO_ref01_Join_L1 (fun k => loopV (fun v => ref01_Join_L1 k.1 k.2.1 v))
def gs_ref01_Join : Nat → Option Blk := lk [(1, B_ref01_Join_L1)]
theorem ct_ref01_Join_L1 : CodeSound Try.prog cx_ref01_Join (subL (subR (subL (subR (subR (bodyOf Try.f21)))))) B_ref01_Join_L1.D :=
  loop_printed (G := gs_ref01_Join) (A := .leaf) (T0 := K0_ref01_Join_L1) (T := TM_ref01_Join_L1) (U := UO_ref01_Join_L1) (step := (fun k v => ref01_Join_L1 k.1 k.2.1 v)) cxo_ref01_Join follows (by kernel_rfl) (by kernel_rfl) (CutsOk.leaf _) (by intro k v; kernel_rfl)
theorem fk_ref01_Join : FnOk Try.prog 21 := ⟨Try.f21, Try.func21, by kernel_rfl, by kernel_rfl⟩
theorem sd_ref01_Join : FnSound Try.prog 21 sg_ref01_Join :=
  fn_printed (G := gs_ref01_Join) (A := (.two .leaf (.two .leaf (.two (.two .leaf (.two (.cut 1) .leaf)) .leaf)))) cxo_ref01_Join follows Try.func21 (by kernel_rfl) (by kernel_rfl) (by kernel_rfl) (by kernel_rfl) (by kernel_rfl) (CutsOk.two (CutsOk.leaf _) (CutsOk.two (CutsOk.leaf _) (CutsOk.two (CutsOk.two (CutsOk.leaf _) (CutsOk.two (CutsOk.cut (g := B_ref01_Join_L1) (by kernel_rfl) ct_ref01_Join_L1) (CutsOk.leaf _))) (CutsOk.leaf _)))) (by intro v; kernel_rfl)
def sg_ref01_Same : Sig := mkSig [(.hole (.slice (.int .u8))), (.hole (.slice (.int .u8)))] [] [(.hole .bool)] [] (fun p => ref01_Same p.1.1 p.1.2.1)
def cx_ref01_Same : Cx := ⟨tys, lk [], 10, 0, []⟩
theorem cxo_ref01_Same : CxOk Try.prog cx_ref01_Same := ⟨tys_ok, FnsOk.nil⟩
def gs_ref01_Same : Nat → Option Blk := lk []
theorem fk_ref01_Same : FnOk Try.prog 24 := ⟨Try.f24, Try.func24, by kernel_rfl, by kernel_rfl⟩
theorem sd_ref01_Same : FnSound Try.prog 24 sg_ref01_Same :=
  fn_printed (G := gs_ref01_Same) (A := .leaf) cxo_ref01_Same follows Try.func24 (by kernel_rfl) (by kernel_rfl) (by kernel_rfl) (by kernel_rfl) (by kernel_rfl) (CutsOk.leaf _) (by intro v; kernel_rfl)
end Go.PE.Ytcikfbmkonhbbaa
end
end

section
set_option maxRecDepth 100000
set_option linter.unusedVariables false
noncomputable section
namespace Go.PE.Ytcikfbmkonhbbaa
open Go.PE Go.Proofs

def sg_ref18_bit : Sig := mkSig [(.hole T_6bf9), (.hole (.int .i64))] [] [(.hole .bool)] [] (fun p => ref18_bit p.1.1 p.1.2.1)
def cx_ref18_bit : Cx := ⟨tys, lk [], 17, 0, []⟩
theorem cxo_ref18_bit : CxOk Try.prog cx_ref18_bit := ⟨tys_ok, FnsOk.nil⟩
def gs_ref18_bit : Nat → Option Blk := lk []
theorem fk_ref18_bit : FnOk Try.prog 23 := ⟨Try.f23, Try.func23, by kernel_rfl, by kernel_rfl⟩
theorem sd_ref18_bit : FnSound Try.prog 23 sg_ref18_bit :=
  fn_printed (G := gs_ref18_bit) (A := .leaf) cxo_ref18_bit follows Try.func23 (by kernel_rfl) (by kernel_rfl) (by kernel_rfl) (by kernel_rfl) (by kernel_rfl) (CutsOk.leaf _) (by intro v; kernel_rfl)
def sg_ref18_Valid : Sig := mkSig [(.hole T_6bf9)] [] [(.hole .bool)] [] (fun p => ref18_Valid p.1.1)
def cx_ref18_Valid : Cx := ⟨tys, lk [(23, sg_ref18_bit)], 35, 0, []⟩
theorem cxo_ref18_Valid : CxOk Try.prog cx_ref18_Valid := ⟨tys_ok, FnsOk.cons fk_ref18_bit sd_ref18_bit (FnsOk.nil)⟩
abbrev K0_ref18_Valid_L1 : List (Nat × Ty) := []
abbrev TM_ref18_Valid_L1 : Tm := ⟨[(1, (.ptr 0 [])), (3, (.hole (.int .i64)))], [(.box T_6bf9 (.hole T_6bf9))]⟩
abbrev UO_ref18_Valid_L1 : Outs := (.more .ret ⟨[(2, (.hole .bool))], []⟩ (.one (.exit 0) ⟨[], []⟩))
def B_ref18_Valid_L1 : Blk := frBlk 0 [] K0_ref18_Valid_L1 TM_ref18_Valid_L1 UO_ref18_Valid_L1 (fun k => loopV (fun v => ref18_Valid_L1 v))
def gs_ref18_Valid : Nat → Option Blk := lk [(1, B_ref18_Valid_L1)]
theorem ct_ref18_Valid_L1 : CodeSound Try.prog cx_ref18_Valid (subL (subR (subL (subR (subR (bodyOf Try.f13)))))) B_ref18_Valid_L1.D :=
  loop_printed (G := gs_ref18_Valid) (A := .leaf) (T0 := K0_ref18_Valid_L1) (T := TM_ref18_Valid_L1) (U := UO_ref18_Valid_L1) (step := (fun k v => ref18_Valid_L1 v)) cxo_ref18_Valid follows (by kernel_rfl) (by kernel_rfl) (CutsOk.leaf _) (by intro k v; kernel_rfl)
theorem fk_ref18_Valid : FnOk Try.prog 13 := ⟨Try.f13, Try.func13, by kernel_rfl, by kernel_rfl⟩
theorem sd_ref18_Valid : FnSound Try.prog 13 sg_ref18_Valid :=
  fn_printed (G := gs_ref18_Valid) (A := (.two .leaf (.two .leaf (.two (.two .leaf (.two (.cut 1) .leaf)) .leaf)))) cxo_ref18_Valid follows Try.func13 (by kernel_rfl) (by kernel_rfl) (by kernel_rfl) (by kernel_rfl) (by kernel_rfl) (CutsOk.two (CutsOk.leaf _) (CutsOk.two (CutsOk.leaf _) (CutsOk.two (CutsOk.two (CutsOk.leaf _) (CutsOk.two (CutsOk.cut (g := B_ref18_Valid_L1) (by kernel_rfl) ct_ref18_Valid_L1) (CutsOk.leaf _))) (CutsOk.leaf _)))) (by intro v; kernel_rfl)
def sg_ref18_put : Sig := mkSig [(.ncons (.own 0) (.hole (.cons (.int .i64) .nil))), (.hole .bool)] [(.vec (.int .u8))] [(.ncons (.own 1) (.hole (.cons (.int .i64) .nil)))] [.dead, (.vec (.int .u8))] (fun p => ref18_put p.1.1.2 p.1.2.1 p.2.1)
def cx_ref18_put : Cx := ⟨tys, lk [], 34, 1, []⟩
theorem cxo_ref18_put : CxOk Try.prog cx_ref18_put := ⟨tys_ok, FnsOk.nil⟩
abbrev K0_ref18_put_J1 : List (Nat × Ty) := []
abbrev TM_ref18_put_J1 : Tm := ⟨[(2, (.ptr 1 [])), (4, (.ptr 2 []))], [.dead, (.box T_6bf9 (.ncons (.own 3) (.hole (.cons (.int .i64) .nil)))), (.box T_6bf9 (.hole T_6bf9)), (.vec (.int .u8))]⟩
abbrev UO_ref18_put_J1 : Outs := (.one .normal ⟨[(2, (.ptr 1 [])), (4, (.ptr 2 []))], [.dead, (.box T_6bf9 (.ncons (.own 3) (.hole (.cons (.int .i64) .nil)))), (.box T_6bf9 (.hole T_6bf9)), (.vec (.int .u8))]⟩)
def B_ref18_put_J1 : Blk := frBlk 1 [1] K0_ref18_put_J1 TM_ref18_put_J1 UO_ref18_put_J1 (fun k v => ref18_put_J1 v)
abbrev K0_ref18_put_J2 : List (Nat × Ty) := [(1, .bool)]
abbrev TM_ref18_put_J2 : Tm := ⟨[(2, (.ptr 1 [])), (4, (.ptr 2 []))], [.dead, (.box T_6bf9 (.ncons (.own 3) (.hole (.cons (.int .i64) .nil)))), (.box T_6bf9 (.hole T_6bf9)), (.vec (.int .u8))]⟩
abbrev UO_ref18_put_J2 : Outs := (.one .normal ⟨[(2, (.ptr 1 [])), (4, (.ptr 2 []))], [.dead, (.box T_6bf9 (.ncons (.own 3) (.hole (.cons (.int .i64) .nil)))), (.box T_6bf9 (.hole T_6bf9)), (.vec (.int .u8))]⟩)
def B_ref18_put_J2 : Blk := frBlk 1 [1] K0_ref18_put_J2 TM_ref18_put_J2 UO_ref18_put_J2 (fun k v => ref18_put_J2 k.1 v)
def gs_ref18_put : Nat → Option Blk := lk [(1, B_ref18_put_J1), (2, B_ref18_put_J2)]
theorem ct_ref18_put_J2 : CodeSound Try.prog cx_ref18_put (subL (subR (subR (bodyOf Try.f22)))) B_ref18_put_J2.D :=
  join_sound (G := gs_ref18_put) (A := .leaf) (T0 := K0_ref18_put_J2) (T := TM_ref18_put_J2) (U := UO_ref18_put_J2) (F := (fun k v => ref18_put_J2 k.1 v)) cxo_ref18_put follows (by kernel_rfl) (CutsOk.leaf _) (by intro k v; kernel_rfl)
theorem ct_ref18_put_J1 : CodeSound Try.prog cx_ref18_put (subL (subR (bodyOf Try.f22))) B_ref18_put_J1.D :=
  join_sound (G := gs_ref18_put) (A := .leaf) (T0 := K0_ref18_put_J1) (T := TM_ref18_put_J1) (U := UO_ref18_put_J1) (F := (fun k v => ref18_put_J1 v)) cxo_ref18_put follows (by kernel_rfl) (CutsOk.leaf _) (by intro k v; kernel_rfl)
theorem fk_ref18_put : FnOk Try.prog 22 := ⟨Try.f22, Try.func22, by kernel_rfl, by kernel_rfl⟩
theorem sd_ref18_put : FnSound Try.prog 22 sg_ref18_put :=
  fn_printed (G := gs_ref18_put) (A := (.two .leaf (.two (.cut 1) (.two (.cut 2) .leaf)))) cxo_ref18_put follows Try.func22 (by kernel_rfl) (by kernel_rfl) (by kernel_rfl) (by kernel_rfl) (by kernel_rfl) (CutsOk.two (CutsOk.leaf _) (CutsOk.two (CutsOk.cut (g := B_ref18_put_J1) (by kernel_rfl) ct_ref18_put_J1) (CutsOk.two (CutsOk.cut (g := B_ref18_put_J2) (by kernel_rfl) ct_ref18_put_J2) (CutsOk.leaf _)))) (by intro v; kernel_rfl)
def sg_ref18_Append : Sig := mkSig [(.hole T_6bf9), (.hole (.int .u64)), (.hole (.int .i64))] [] [(.ncons (.own 0) (.hole (.cons (.int .i64) .nil))), (.hole (.int .i64))] [(.vec (.int .u8))] (fun p => ref18_Append p.1.1 p.1.2.1 p.1.2.2.1)
def cx_ref18_Append : Cx := ⟨tys, lk [(21, sg_ref01_Join), (13, sg_ref18_Valid), (22, sg_ref18_put)], 51, 0, []⟩
theorem cxo_ref18_Append : CxOk Try.prog cx_ref18_Append := ⟨tys_ok, FnsOk.cons fk_ref01_Join sd_ref01_Join (FnsOk.cons fk_ref18_Valid sd_ref18_Valid (FnsOk.cons fk_ref18_put sd_ref18_put (FnsOk.nil)))⟩
abbrev K0_ref18_Append_L1 : List (Nat × Ty) := [(1, (.int .u64))]
abbrev TM_ref18_Append_L1 : Tm := ⟨[(6, (.ptr 0 [])), (8, (.ptr 1 [])), (9, (.hole (.int .i64)))], [(.box T_6bf9 (.hole T_6bf9)), (.box T_6bf9 (.ncons (.own 2) (.hole (.cons (.int .i64) .nil)))), (.vec (.int .u8))]⟩
abbrev UO_ref18_Append_L1 : Outs := (.one (.exit 1) ⟨[(6, (.ptr 0 [])), (8, (.ptr 1 []))], [(.box T_6bf9 (.hole T_6bf9)), (.box T_6bf9 (.ncons (.own 2) (.hole (.cons (.int .i64) .nil)))), (.vec (.int .u8))]⟩)
def B_ref18_Append_L1 : Blk := frBlk 0 [1, 7] K0_ref18_Append_L1 TM_ref18_Append_L1 UO_ref18_Append_L1 (fun k => loopV (fun v => ref18_Append_L1 k.1 v))
def gs_ref18_Append : Nat → Option Blk := lk [(1, B_ref18_Append_L1)]
theorem ct_ref18_Append_L1 : CodeSound Try.prog cx_ref18_Append (subL (subR (subL (subR (subR (subR (bodyOf Try.f11))))))) B_ref18_Append_L1.D :=
  loop_printed (G := gs_ref18_Append) (A := .leaf) (T0 := K0_ref18_Append_L1) (T := TM_ref18_Append_L1) (U := UO_ref18_Append_L1) (step := (fun k v => ref18_Append_L1 k.1 v)) cxo_ref18_Append follows (by kernel_rfl) (by kernel_rfl) (CutsOk.leaf _) (by intro k v; kernel_rfl)
theorem fk_ref18_Append : FnOk Try.prog 11 := ⟨Try.f11, Try.func11, by kernel_rfl, by kernel_rfl⟩
theorem sd_ref18_Append : FnSound Try.prog 11 sg_ref18_Append :=
  fn_printed (G := gs_ref18_Append) (A := (.two .leaf (.two .leaf (.two .leaf (.two (.two .leaf (.two (.cut 1) .leaf)) .leaf))))) cxo_ref18_Append follows Try.func11 (by kernel_rfl) (by kernel_rfl) (by kernel_rfl) (by kernel_rfl) (by kernel_rfl) (CutsOk.two (CutsOk.leaf _) (CutsOk.two (CutsOk.leaf _) (CutsOk.two (CutsOk.leaf _) (CutsOk.two (CutsOk.two (CutsOk.leaf _) (CutsOk.two (CutsOk.cut (g := B_ref18_Append_L1) (by kernel_rfl) ct_ref18_Append_L1) (CutsOk.leaf _))) (CutsOk.leaf _))))) (by intro v; kernel_rfl)
def sg_ref18_Same : Sig := mkSig [(.hole T_6bf9), (.hole T_6bf9)] [] [(.hole .bool)] [] (fun p => ref18_Same p.1.1 p.1.2.1)
def cx_ref18_Same : Cx := ⟨tys, lk [(24, sg_ref01_Same)], 17, 0, []⟩
theorem cxo_ref18_Same : CxOk Try.prog cx_ref18_Same := ⟨tys_ok, FnsOk.cons fk_ref01_Same sd_ref01_Same (FnsOk.nil)⟩
def gs_ref18_Same : Nat → Option Blk := lk []
theorem fk_ref18_Same : FnOk Try.prog 14 := ⟨Try.f14, Try.func14, by kernel_rfl, by kernel_rfl⟩
theorem sd_ref18_Same : FnSound Try.prog 14 sg_ref18_Same :=
  fn_printed (G := gs_ref18_Same) (A := .leaf) cxo_ref18_Same follows Try.func14 (by kernel_rfl) (by kernel_rfl) (by kernel_rfl) (by kernel_rfl) (by kernel_rfl) (CutsOk.leaf _) (by intro v; kernel_rfl)
def sg_ref18_number : Sig := mkSig [(.hole T_6bf9), (.hole (.int .i64)), (.hole (.int .i64))] [] [(.hole (.int .u64))] [] (fun p => ref18_number p.1.1 p.1.2.1 p.1.2.2.1)
def cx_ref18_number : Cx := ⟨tys, lk [(23, sg_ref18_bit)], 25, 0, []⟩
theorem cxo_ref18_number : CxOk Try.prog cx_ref18_number := ⟨tys_ok, FnsOk.cons fk_ref18_bit sd_ref18_bit (FnsOk.nil)⟩
abbrev K0_ref18_number_L1 : List (Nat × Ty) := [(1, (.int .i64)), (2, (.int .i64))]
abbrev TM_ref18_number_L1 : Tm := ⟨[(3, (.ptr 0 [])), (7, (.hole (.int .u64))), (8, (.hole (.int .i64)))], [(.box T_6bf9 (.hole T_6bf9))]⟩
abbrev UO_ref18_number_L1 : Outs := (.one (.exit 0) ⟨[(7, (.hole (.int .u64)))], []⟩)
def B_ref18_number_L1 : Blk := frBlk 0 [1, 2, 6] K0_ref18_number_L1 TM_ref18_number_L1 UO_ref18_number_L1 (fun k => loopV (fun v => ref18_number_L1 k.1 k.2.1 v))
def gs_ref18_number : Nat → Option Blk := lk [(1, B_ref18_number_L1)]
theorem ct_ref18_number_L1 : CodeSound Try.prog cx_ref18_number (subL (subR (subL (subR (subR (bodyOf Try.f26)))))) B_ref18_number_L1.D :=
  loop_printed (G := gs_ref18_number) (A := .leaf) (T0 := K0_ref18_number_L1) (T := TM_ref18_number_L1) (U := UO_ref18_number_L1) (step := (fun k v => ref18_number_L1 k.1 k.2.1 v)) cxo_ref18_number follows (by kernel_rfl) (by kernel_rfl) (CutsOk.leaf _) (by intro k v; kernel_rfl)
theorem fk_ref18_number : FnOk Try.prog 26 := ⟨Try.f26, Try.func26, by kernel_rfl, by kernel_rfl⟩
theorem sd_ref18_number : FnSound Try.prog 26 sg_ref18_number :=
  fn_printed (G := gs_ref18_number) (A := (.two .leaf (.two .leaf (.two (.two .leaf (.two (.cut 1) .leaf)) .leaf)))) cxo_ref18_number follows Try.func26 (by kernel_rfl) (by kernel_rfl) (by kernel_rfl) (by kernel_rfl) (by kernel_rfl) (CutsOk.two (CutsOk.leaf _) (CutsOk.two (CutsOk.leaf _) (CutsOk.two (CutsOk.two (CutsOk.leaf _) (CutsOk.two (CutsOk.cut (g := B_ref18_number_L1) (by kernel_rfl) ct_ref18_number_L1) (CutsOk.leaf _))) (CutsOk.leaf _)))) (by intro v; kernel_rfl)
def sg_ref18_Read : Sig := mkSig [(.hole T_6bf9), (.hole (.int .i64)), (.hole (.int .i64))] [] [(.hole (.int .u64)), (.hole (.int .i64)), (.hole (.int .i64))] [] (fun p => ref18_Read p.1.1 p.1.2.1 p.1.2.2.1)
def cx_ref18_Read : Cx := ⟨tys, lk [(13, sg_ref18_Valid), (26, sg_ref18_number)], 44, 0, []⟩
theorem cxo_ref18_Read : CxOk Try.prog cx_ref18_Read := ⟨tys_ok, FnsOk.cons fk_ref18_Valid sd_ref18_Valid (FnsOk.cons fk_ref18_number sd_ref18_number (FnsOk.nil))⟩
abbrev K0_ref18_Read_J1 : List (Nat × Ty) := [(1, (.int .i64)), (2, (.int .i64))]
abbrev TM_ref18_Read_J1 : Tm := ⟨[(3, (.ptr 0 []))], [(.box T_6bf9 (.hole T_6bf9))]⟩
abbrev UO_ref18_Read_J1 : Outs := (.one .normal ⟨[(3, (.ptr 0 [])), (13, (.hole .bool))], [(.box T_6bf9 (.hole T_6bf9))]⟩)
def B_ref18_Read_J1 : Blk := frBlk 0 [1, 2, 6, 7, 8] K0_ref18_Read_J1 TM_ref18_Read_J1 UO_ref18_Read_J1 (fun k v => ref18_Read_J1 k.1 k.2.1 v)
def gs_ref18_Read : Nat → Option Blk := lk [(1, B_ref18_Read_J1)]
theorem ct_ref18_Read_J1 : CodeSound Try.prog cx_ref18_Read (subL (subR (subR (subL (subL (subR (bodyOf Try.f16))))))) B_ref18_Read_J1.D :=
  join_sound (G := gs_ref18_Read) (A := .leaf) (T0 := K0_ref18_Read_J1) (T := TM_ref18_Read_J1) (U := UO_ref18_Read_J1) (F := (fun k v => ref18_Read_J1 k.1 k.2.1 v)) cxo_ref18_Read follows (by kernel_rfl) (CutsOk.leaf _) (by intro k v; kernel_rfl)
theorem fk_ref18_Read : FnOk Try.prog 16 := ⟨Try.f16, Try.func16, by kernel_rfl, by kernel_rfl⟩
theorem sd_ref18_Read : FnSound Try.prog 16 sg_ref18_Read :=
  fn_printed (G := gs_ref18_Read) (A := (.two .leaf (.two (.two (.two .leaf (.two .leaf (.two (.cut 1) .leaf))) .leaf) .leaf))) cxo_ref18_Read follows Try.func16 (by kernel_rfl) (by kernel_rfl) (by kernel_rfl) (by kernel_rfl) (by kernel_rfl) (CutsOk.two (CutsOk.leaf _) (CutsOk.two (CutsOk.two (CutsOk.two (CutsOk.leaf _) (CutsOk.two (CutsOk.leaf _) (CutsOk.two (CutsOk.cut (g := B_ref18_Read_J1) (by kernel_rfl) ct_ref18_Read_J1) (CutsOk.leaf _)))) (CutsOk.leaf _)) (CutsOk.leaf _))) (by intro v; kernel_rfl)
end Go.PE.Ytcikfbmkonhbbaa
end
end

section
set_option maxRecDepth 100000
set_option linter.unusedVariables false
noncomputable section
namespace Go.PE.Ytcikfbmkonhbbaa
open Go.PE Go.Proofs

def sg_law18_sane : Sig := mkSig [] [] [(.hole .bool)] [] (fun p => law18_sane)
def cx_law18_sane : Cx := ⟨tys, lk [(10, sg_bits_Append), (17, sg_bits_AppendRice)], 57, 0, []⟩
theorem cxo_law18_sane : CxOk Try.prog cx_law18_sane := ⟨tys_ok, FnsOk.cons fk_bits_Append sd_bits_Append (FnsOk.cons fk_bits_AppendRice sd_bits_AppendRice (FnsOk.nil))⟩
def gs_law18_sane : Nat → Option Blk := lk []
theorem fk_law18_sane : FnOk Try.prog 8 := ⟨Try.f8, Try.func8, by kernel_rfl, by kernel_rfl⟩
theorem sd_law18_sane : FnSound Try.prog 8 sg_law18_sane :=
  fn_printed (G := gs_law18_sane) (A := .leaf) cxo_law18_sane follows Try.func8 (by kernel_rfl) (by kernel_rfl) (by kernel_rfl) (by kernel_rfl) (by kernel_rfl) (CutsOk.leaf _) (by intro v; kernel_rfl)
def sg_law18_kept : Sig := mkSig [(.hole T_6bf9)] [] [(.hole .bool)] [] (fun p => law18_kept p.1.1)
def cx_law18_kept : Cx := ⟨tys, lk [], 7, 0, []⟩
theorem cxo_law18_kept : CxOk Try.prog cx_law18_kept := ⟨tys_ok, FnsOk.nil⟩
def gs_law18_kept : Nat → Option Blk := lk []
theorem fk_law18_kept : FnOk Try.prog 9 := ⟨Try.f9, Try.func9, by kernel_rfl, by kernel_rfl⟩
theorem sd_law18_kept : FnSound Try.prog 9 sg_law18_kept :=
  fn_printed (G := gs_law18_kept) (A := .leaf) cxo_law18_kept follows Try.func9 (by kernel_rfl) (by kernel_rfl) (by kernel_rfl) (by kernel_rfl) (by kernel_rfl) (CutsOk.leaf _) (by intro v; kernel_rfl)
def sg_law18_BitsAppends : Sig := mkSig [(.hole T_6bf9), (.hole (.int .u64)), (.hole (.int .i64))] [] [(.hole .bool)] [] (fun p => law18_BitsAppends p.1.1 p.1.2.1 p.1.2.2.1)
def cx_law18_BitsAppends : Cx := ⟨tys, lk [(10, sg_bits_Append), (12, sg_bits_Valid), (9, sg_law18_kept), (8, sg_law18_sane), (11, sg_ref18_Append), (14, sg_ref18_Same), (13, sg_ref18_Valid)], 45, 0, []⟩
theorem cxo_law18_BitsAppends : CxOk Try.prog cx_law18_BitsAppends := ⟨tys_ok, FnsOk.cons fk_bits_Append sd_bits_Append (FnsOk.cons fk_bits_Valid sd_bits_Valid (FnsOk.cons fk_law18_kept sd_law18_kept (FnsOk.cons fk_law18_sane sd_law18_sane (FnsOk.cons fk_ref18_Append sd_ref18_Append (FnsOk.cons fk_ref18_Same sd_ref18_Same (FnsOk.cons fk_ref18_Valid sd_ref18_Valid (FnsOk.nil)))))))⟩
def gs_law18_BitsAppends : Nat → Option Blk := lk []
theorem fk_law18_BitsAppends : FnOk Try.prog 3 := ⟨Try.f3, Try.func3, by kernel_rfl, by kernel_rfl⟩
theorem sd_law18_BitsAppends : FnSound Try.prog 3 sg_law18_BitsAppends :=
  fn_printed (G := gs_law18_BitsAppends) (A := .leaf) cxo_law18_BitsAppends follows Try.func3 (by kernel_rfl) (by kernel_rfl) (by kernel_rfl) (by kernel_rfl) (by kernel_rfl) (CutsOk.leaf _) (by intro v; kernel_rfl)
def sg_law18_BitsReads : Sig := mkSig [(.hole T_6bf9), (.hole (.int .i64)), (.hole (.int .i64))] [] [(.hole .bool)] [] (fun p => law18_BitsReads p.1.1 p.1.2.1 p.1.2.2.1)
def cx_law18_BitsReads : Cx := ⟨tys, lk [(15, sg_bits_Read), (9, sg_law18_kept), (8, sg_law18_sane), (16, sg_ref18_Read)], 47, 0, []⟩
theorem cxo_law18_BitsReads : CxOk Try.prog cx_law18_BitsReads := ⟨tys_ok, FnsOk.cons fk_bits_Read sd_bits_Read (FnsOk.cons fk_law18_kept sd_law18_kept (FnsOk.cons fk_law18_sane sd_law18_sane (FnsOk.cons fk_ref18_Read sd_ref18_Read (FnsOk.nil))))⟩
def gs_law18_BitsReads : Nat → Option Blk := lk []
theorem fk_law18_BitsReads : FnOk Try.prog 4 := ⟨Try.f4, Try.func4, by kernel_rfl, by kernel_rfl⟩
theorem sd_law18_BitsReads : FnSound Try.prog 4 sg_law18_BitsReads :=
  fn_printed (G := gs_law18_BitsReads) (A := .leaf) cxo_law18_BitsReads follows Try.func4 (by kernel_rfl) (by kernel_rfl) (by kernel_rfl) (by kernel_rfl) (by kernel_rfl) (CutsOk.leaf _) (by intro v; kernel_rfl)
def sg_law18_BitsBack : Sig := mkSig [(.hole T_6bf9), (.hole (.int .u64)), (.hole (.int .u8))] [] [(.hole .bool)] [] (fun p => law18_BitsBack p.1.1 p.1.2.1 p.1.2.2.1)
def cx_law18_BitsBack : Cx := ⟨tys, lk [(10, sg_bits_Append), (15, sg_bits_Read), (12, sg_bits_Valid), (9, sg_law18_kept), (8, sg_law18_sane)], 126, 0, []⟩
theorem cxo_law18_BitsBack : CxOk Try.prog cx_law18_BitsBack := ⟨tys_ok, FnsOk.cons fk_bits_Append sd_bits_Append (FnsOk.cons fk_bits_Read sd_bits_Read (FnsOk.cons fk_bits_Valid sd_bits_Valid (FnsOk.cons fk_law18_kept sd_law18_kept (FnsOk.cons fk_law18_sane sd_law18_sane (FnsOk.nil)))))⟩
abbrev K0_law18_BitsBack_J1 : List (Nat × Ty) := [(7, (.int .i64))]
abbrev TM_law18_BitsBack_J1 : Tm := ⟨[(1, (.hole (.int .u64))), (3, (.ptr 0 [])), (8, (.ptr 1 []))], [(.box T_6bf9 (.hole T_6bf9)), (.box T_6bf9 (.ncons (.own 2) (.hole (.cons (.int .i64) .nil)))), (.vec (.int .u8))]⟩
abbrev UO_law18_BitsBack_J1 : Outs := (.one .normal ⟨[(1, (.hole (.int .u64))), (3, (.ptr 0 [])), (8, (.ptr 1 []))], [(.box T_6bf9 (.hole T_6bf9)), (.box T_6bf9 (.ncons (.own 2) (.hole (.cons (.int .i64) .nil)))), (.vec (.int .u8))]⟩)
def B_law18_BitsBack_J1 : Blk := frBlk 0 [6, 7, 9, 10, 11, 12] K0_law18_BitsBack_J1 TM_law18_BitsBack_J1 UO_law18_BitsBack_J1 (fun k v => law18_BitsBack_J1 k.1 v)
abbrev K0_law18_BitsBack_J2 : List (Nat × Ty) := [(1, (.int .u64)), (7, (.int .i64)), (9, (.int .i64)), (10, (.int .u64)), (11, (.int .i64)), (12, (.int .i64))]
abbrev TM_law18_BitsBack_J2 : Tm := ⟨[(3, (.ptr 0 [])), (8, (.ptr 1 []))], [(.box T_6bf9 (.hole T_6bf9)), (.box T_6bf9 (.ncons (.own 2) (.hole (.cons (.int .i64) .nil)))), (.vec (.int .u8))]⟩
abbrev UO_law18_BitsBack_J2 : Outs := (.one .normal ⟨[(3, (.ptr 0 [])), (8, (.ptr 1 [])), (87, (.hole .bool))], [(.box T_6bf9 (.hole T_6bf9)), (.box T_6bf9 (.ncons (.own 2) (.hole (.cons (.int .i64) .nil)))), (.vec (.int .u8))]⟩)
def B_law18_BitsBack_J2 : Blk := frBlk 0 [1, 6, 7, 9, 10, 11, 12] K0_law18_BitsBack_J2 TM_law18_BitsBack_J2 UO_law18_BitsBack_J2 (fun k v => law18_BitsBack_J2 k.1 k.2.1 k.2.2.1 k.2.2.2.1 k.2.2.2.2.1 k.2.2.2.2.2.1 v)
abbrev K0_law18_BitsBack_L3 : List (Nat × Ty) := []
abbrev TM_law18_BitsBack_L3 : Tm := ⟨[(3, (.ptr 0 [])), (8, (.ptr 1 [])), (13, (.hole (.int .i64)))], [(.box T_6bf9 (.hole T_6bf9)), (.box T_6bf9 (.ncons (.own 2) (.hole (.cons (.int .i64) .nil)))), (.vec (.int .u8))]⟩
abbrev UO_law18_BitsBack_L3 : Outs := (.more .ret ⟨[(6, (.hole .bool))], []⟩ (.one (.exit 0) ⟨[], []⟩))
def B_law18_BitsBack_L3 : Blk := frBlk 0 [] K0_law18_BitsBack_L3 TM_law18_BitsBack_L3 UO_law18_BitsBack_L3 (fun k => loopV (fun v => law18_BitsBack_L3 v))
def gs_law18_BitsBack : Nat → Option Blk := lk [(1, B_law18_BitsBack_J1), (2, B_law18_BitsBack_J2), (3, B_law18_BitsBack_L3)]
theorem ct_law18_BitsBack_L3 : CodeSound Try.prog cx_law18_BitsBack (subL (subR (subL (subR (subR (subR (subR (subR (subR (subR (subR (bodyOf Try.f5)))))))))))) B_law18_BitsBack_L3.D :=
  loop_printed (G := gs_law18_BitsBack) (A := .leaf) (T0 := K0_law18_BitsBack_L3) (T := TM_law18_BitsBack_L3) (U := UO_law18_BitsBack_L3) (step := (fun k v => law18_BitsBack_L3 v)) cxo_law18_BitsBack follows (by kernel_rfl) (by kernel_rfl) (CutsOk.leaf _) (by intro k v; kernel_rfl)
theorem ct_law18_BitsBack_J2 : CodeSound Try.prog cx_law18_BitsBack (subL (subL (subR (subR (subR (subR (subR (subR (subR (bodyOf Try.f5)))))))))) B_law18_BitsBack_J2.D :=
  join_sound (G := gs_law18_BitsBack) (A := .leaf) (T0 := K0_law18_BitsBack_J2) (T := TM_law18_BitsBack_J2) (U := UO_law18_BitsBack_J2) (F := (fun k v => law18_BitsBack_J2 k.1 k.2.1 k.2.2.1 k.2.2.2.1 k.2.2.2.2.1 k.2.2.2.2.2.1 v)) cxo_law18_BitsBack follows (by kernel_rfl) (CutsOk.leaf _) (by intro k v; kernel_rfl)
theorem ct_law18_BitsBack_J1 : CodeSound Try.prog cx_law18_BitsBack (subL (subR (subR (subR (subR (subR (subR (bodyOf Try.f5)))))))) B_law18_BitsBack_J1.D :=
  join_sound (G := gs_law18_BitsBack) (A := .leaf) (T0 := K0_law18_BitsBack_J1) (T := TM_law18_BitsBack_J1) (U := UO_law18_BitsBack_J1) (F := (fun k v => law18_BitsBack_J1 k.1 v)) cxo_law18_BitsBack follows (by kernel_rfl) (CutsOk.leaf _) (by intro k v; kernel_rfl)
theorem fk_law18_BitsBack : FnOk Try.prog 5 := ⟨Try.f5, Try.func5, by kernel_rfl, by kernel_rfl⟩
theorem sd_law18_BitsBack : FnSound Try.prog 5 sg_law18_BitsBack :=
  fn_printed (G := gs_law18_BitsBack) (A := (.two .leaf (.two .leaf (.two .leaf (.two .leaf (.two .leaf (.two .leaf (.two (.cut 1) (.two (.two (.cut 2) .leaf) (.two (.two .leaf (.two (.cut 3) .leaf)) .leaf)))))))))) cxo_law18_BitsBack follows Try.func5 (by kernel_rfl) (by kernel_rfl) (by kernel_rfl) (by kernel_rfl) (by kernel_rfl) (CutsOk.two (CutsOk.leaf _) (CutsOk.two (CutsOk.leaf _) (CutsOk.two (CutsOk.leaf _) (CutsOk.two (CutsOk.leaf _) (CutsOk.two (CutsOk.leaf _) (CutsOk.two (CutsOk.leaf _) (CutsOk.two (CutsOk.cut (g := B_law18_BitsBack_J1) (by kernel_rfl) ct_law18_BitsBack_J1) (CutsOk.two (CutsOk.two (CutsOk.cut (g := B_law18_BitsBack_J2) (by kernel_rfl) ct_law18_BitsBack_J2) (CutsOk.leaf _)) (CutsOk.two (CutsOk.two (CutsOk.leaf _) (CutsOk.two (CutsOk.cut (g := B_law18_BitsBack_L3) (by kernel_rfl) ct_law18_BitsBack_L3) (CutsOk.leaf _))) (CutsOk.leaf _)))))))))) (by intro v; kernel_rfl)
def sg_law18_BitsRiceBack : Sig := mkSig [(.hole (.slice (.int .u16))), (.hole (.int .u8))] [] [(.hole .bool)] [] (fun p => law18_BitsRiceBack p.1.1 p.1.2.1)
def cx_law18_BitsRiceBack : Cx := ⟨tys, lk [(17, sg_bits_AppendRice), (18, sg_bits_ReadRice), (12, sg_bits_Valid), (8, sg_law18_sane)], 94, 0, []⟩
theorem cxo_law18_BitsRiceBack : CxOk Try.prog cx_law18_BitsRiceBack := ⟨tys_ok, FnsOk.cons fk_bits_AppendRice sd_bits_AppendRice (FnsOk.cons fk_bits_ReadRice sd_bits_ReadRice (FnsOk.cons fk_bits_Valid sd_bits_Valid (FnsOk.cons fk_law18_sane sd_law18_sane (FnsOk.nil))))⟩
abbrev K0_law18_BitsRiceBack_L1 : List (Nat × Ty) := [(5, (.int .i64)), (25, (.slice (.int .u16))), (26, (.int .i64))]
abbrev TM_law18_BitsRiceBack_L1 : Tm := ⟨[(6, (.ptr 0 [])), (27, (.hole (.int .i64)))], [(.box T_6bf9 (.ncons (.own 1) (.hole (.cons (.int .i64) .nil)))), (.vec (.int .u8))]⟩
abbrev UO_law18_BitsRiceBack_L1 : Outs := (.more .ret ⟨[(4, (.hole .bool))], []⟩ (.one (.exit 0) ⟨[(6, (.ptr 0 []))], [(.box T_6bf9 (.ncons (.own 1) (.hole (.cons (.int .i64) .nil)))), (.vec (.int .u8))]⟩))
def B_law18_BitsRiceBack_L1 : Blk := frBlk 0 [0, 5, 25, 26] K0_law18_BitsRiceBack_L1 TM_law18_BitsRiceBack_L1 UO_law18_BitsRiceBack_L1 (fun k => loopV (fun v => law18_BitsRiceBack_L1 k.1 k.2.1 k.2.2.1 v))
abbrev K0_law18_BitsRiceBack_L2 : List (Nat × Ty) := [(5, (.int .i64)), (61, (.slice (.int .u16))), (62, (.int .i64))]
abbrev TM_law18_BitsRiceBack_L2 : Tm := ⟨[(6, (.ptr 0 [])), (11, (.hole (.int .i64))), (63, (.hole (.int .i64)))], [(.box T_6bf9 (.ncons (.own 1) (.hole (.cons (.int .i64) .nil)))), (.vec (.int .u8))]⟩
abbrev UO_law18_BitsRiceBack_L2 : Outs := (.more .ret ⟨[(4, (.hole .bool))], []⟩ (.one (.exit 2) ⟨[(6, (.ptr 0 [])), (11, (.hole (.int .i64)))], [(.box T_6bf9 (.ncons (.own 1) (.hole (.cons (.int .i64) .nil)))), (.vec (.int .u8))]⟩))
def B_law18_BitsRiceBack_L2 : Blk := frBlk 0 [5, 61, 62] K0_law18_BitsRiceBack_L2 TM_law18_BitsRiceBack_L2 UO_law18_BitsRiceBack_L2 (fun k => loopV (fun v => law18_BitsRiceBack_L2 k.1 k.2.1 k.2.2.1 v))
def gs_law18_BitsRiceBack : Nat → Option Blk := lk [(1, B_law18_BitsRiceBack_L1), (2, B_law18_BitsRiceBack_L2)]
theorem ct_law18_BitsRiceBack_L2 : CodeSound Try.prog cx_law18_BitsRiceBack (subL (subR (subL (subR (subR (subR (subR (subR (subR (subR (bodyOf Try.f6))))))))))) B_law18_BitsRiceBack_L2.D :=
  loop_printed (G := gs_law18_BitsRiceBack) (A := .leaf) (T0 := K0_law18_BitsRiceBack_L2) (T := TM_law18_BitsRiceBack_L2) (U := UO_law18_BitsRiceBack_L2) (step := (fun k v => law18_BitsRiceBack_L2 k.1 k.2.1 k.2.2.1 v)) cxo_law18_BitsRiceBack follows (by kernel_rfl) (by kernel_rfl) (CutsOk.leaf _) (by intro k v; kernel_rfl)
theorem ct_law18_BitsRiceBack_L1 : CodeSound Try.prog cx_law18_BitsRiceBack (subL (subR (subL (subR (subR (subR (subR (subR (bodyOf Try.f6))))))))) B_law18_BitsRiceBack_L1.D :=
  loop_printed (G := gs_law18_BitsRiceBack) (A := .leaf) (T0 := K0_law18_BitsRiceBack_L1) (T := TM_law18_BitsRiceBack_L1) (U := UO_law18_BitsRiceBack_L1) (step := (fun k v => law18_BitsRiceBack_L1 k.1 k.2.1 k.2.2.1 v)) cxo_law18_BitsRiceBack follows (by kernel_rfl) (by kernel_rfl) (CutsOk.leaf _) (by intro k v; kernel_rfl)
theorem fk_law18_BitsRiceBack : FnOk Try.prog 6 := ⟨Try.f6, Try.func6, by kernel_rfl, by kernel_rfl⟩
theorem sd_law18_BitsRiceBack : FnSound Try.prog 6 sg_law18_BitsRiceBack :=
  fn_printed (G := gs_law18_BitsRiceBack) (A := (.two .leaf (.two .leaf (.two .leaf (.two .leaf (.two .leaf (.two (.two .leaf (.two (.cut 1) .leaf)) (.two .leaf (.two (.two .leaf (.two (.cut 2) .leaf)) .leaf))))))))) cxo_law18_BitsRiceBack follows Try.func6 (by kernel_rfl) (by kernel_rfl) (by kernel_rfl) (by kernel_rfl) (by kernel_rfl) (CutsOk.two (CutsOk.leaf _) (CutsOk.two (CutsOk.leaf _) (CutsOk.two (CutsOk.leaf _) (CutsOk.two (CutsOk.leaf _) (CutsOk.two (CutsOk.leaf _) (CutsOk.two (CutsOk.two (CutsOk.leaf _) (CutsOk.two (CutsOk.cut (g := B_law18_BitsRiceBack_L1) (by kernel_rfl) ct_law18_BitsRiceBack_L1) (CutsOk.leaf _))) (CutsOk.two (CutsOk.leaf _) (CutsOk.two (CutsOk.two (CutsOk.leaf _) (CutsOk.two (CutsOk.cut (g := B_law18_BitsRiceBack_L2) (by kernel_rfl) ct_law18_BitsRiceBack_L2) (CutsOk.leaf _))) (CutsOk.leaf _))))))))) (by intro v; kernel_rfl)
def sg_law18_BitsCodes : Sig := mkSig [(.hole T_6bf9), (.hole (.int .u8)), (.hole (.int .u8))] [] [(.hole .bool)] [] (fun p => law18_BitsCodes p.1.1 p.1.2.1 p.1.2.2.1)
def cx_law18_BitsCodes : Cx := ⟨tys, lk [(17, sg_bits_AppendRice), (15, sg_bits_Read), (18, sg_bits_ReadRice), (12, sg_bits_Valid), (9, sg_law18_kept), (8, sg_law18_sane)], 102, 0, []⟩
theorem cxo_law18_BitsCodes : CxOk Try.prog cx_law18_BitsCodes := ⟨tys_ok, FnsOk.cons fk_bits_AppendRice sd_bits_AppendRice (FnsOk.cons fk_bits_Read sd_bits_Read (FnsOk.cons fk_bits_ReadRice sd_bits_ReadRice (FnsOk.cons fk_bits_Valid sd_bits_Valid (FnsOk.cons fk_law18_kept sd_law18_kept (FnsOk.cons fk_law18_sane sd_law18_sane (FnsOk.nil))))))⟩
abbrev K0_law18_BitsCodes_L1 : List (Nat × Ty) := [(1, (.int .u8))]
abbrev TM_law18_BitsCodes_L1 : Tm := ⟨[(3, (.ptr 0 [])), (11, (.ptr 1 [])), (13, (.hole (.int .i64)))], [(.box T_6bf9 (.hole T_6bf9)), (.box T_6bf9 (.ncons (.own 2) (.hole (.cons (.int .i64) .nil)))), (.vec (.int .u8))]⟩
abbrev UO_law18_BitsCodes_L1 : Outs := (.more .ret ⟨[(6, (.hole .bool))], []⟩ (.one (.exit 0) ⟨[], []⟩))
def B_law18_BitsCodes_L1 : Blk := frBlk 0 [1] K0_law18_BitsCodes_L1 TM_law18_BitsCodes_L1 UO_law18_BitsCodes_L1 (fun k => loopV (fun v => law18_BitsCodes_L1 k.1 v))
def gs_law18_BitsCodes : Nat → Option Blk := lk [(1, B_law18_BitsCodes_L1)]
theorem ct_law18_BitsCodes_L1 : CodeSound Try.prog cx_law18_BitsCodes (subL (subR (subL (subR (subR (subR (subR (subR (subR (subR (subR (bodyOf Try.f7)))))))))))) B_law18_BitsCodes_L1.D :=
  loop_printed (G := gs_law18_BitsCodes) (A := .leaf) (T0 := K0_law18_BitsCodes_L1) (T := TM_law18_BitsCodes_L1) (U := UO_law18_BitsCodes_L1) (step := (fun k v => law18_BitsCodes_L1 k.1 v)) cxo_law18_BitsCodes follows (by kernel_rfl) (by kernel_rfl) (CutsOk.leaf _) (by intro k v; kernel_rfl)
theorem fk_law18_BitsCodes : FnOk Try.prog 7 := ⟨Try.f7, Try.func7, by kernel_rfl, by kernel_rfl⟩
theorem sd_law18_BitsCodes : FnSound Try.prog 7 sg_law18_BitsCodes :=
  fn_printed (G := gs_law18_BitsCodes) (A := (.two .leaf (.two .leaf (.two .leaf (.two .leaf (.two .leaf (.two .leaf (.two .leaf (.two .leaf (.two (.two .leaf (.two (.cut 1) .leaf)) .leaf)))))))))) cxo_law18_BitsCodes follows Try.func7 (by kernel_rfl) (by kernel_rfl) (by kernel_rfl) (by kernel_rfl) (by kernel_rfl) (CutsOk.two (CutsOk.leaf _) (CutsOk.two (CutsOk.leaf _) (CutsOk.two (CutsOk.leaf _) (CutsOk.two (CutsOk.leaf _) (CutsOk.two (CutsOk.leaf _) (CutsOk.two (CutsOk.leaf _) (CutsOk.two (CutsOk.leaf _) (CutsOk.two (CutsOk.leaf _) (CutsOk.two (CutsOk.two (CutsOk.leaf _) (CutsOk.two (CutsOk.cut (g := B_law18_BitsCodes_L1) (by kernel_rfl) ct_law18_BitsCodes_L1) (CutsOk.leaf _))) (CutsOk.leaf _)))))))))) (by intro v; kernel_rfl)
end Go.PE.Ytcikfbmkonhbbaa
end
end
