/- The functions of the program do what their printed texts say; no condition. -/
import Derived.Test.YtmhkkhdpcnehbaaProg
import Derived.Test.YtmhkkhdpcnehbaaQc
import Derived.Test.YtmhkkhdpcnehbaaPa
import Derived.KernelRfl
section
set_option maxRecDepth 100000
noncomputable section
namespace Go.PE.Ytmhkkhdpcnehbaa
open Go.PE Go.Proofs
def gl : Gl := fun _ => none
def tys : Nat → Option Ty := lk [(3, (.int .i64)), (4, .bool), (5, (.int .u8)), (9, .str), (22, (.slice (.int .u64))), (24, (.slice (.int .u8))), (26, T_b101), (27, (.int .i64)), (32, (.int .u64)), (34, (.arr 2 (.int .u64))), (35, (.slice (.slice (.int .u8)))), (36, (.int .u16)), (44, (.slice (.int .u16))), (46, (.slice (.slice (.slice (.int .u8))))), (52, T_6bf9), (56, (.map .str .bool)), (63, .ptr), (68, T_9634), (75, (.int .u64)), (84, T_641c), (88, .ptr), (91, (.int .i64)), (101, (.int .u64)), (105, .ptr), (107, .ptr)]
theorem follows : Try.prog.follows .mixedOrders = true := by kernel_rfl
theorem ty_3 : fitTy Try.prog (.int .i64) (.id 3) = true := by kernel_rfl
theorem ty_4 : fitTy Try.prog .bool (.id 4) = true := by kernel_rfl
theorem ty_5 : fitTy Try.prog (.int .u8) (.id 5) = true := by kernel_rfl
theorem ty_9 : fitTy Try.prog .str (.id 9) = true := by kernel_rfl
theorem ty_22 : fitTy Try.prog (.slice (.int .u64)) (.id 22) = true := by kernel_rfl
theorem ty_24 : fitTy Try.prog (.slice (.int .u8)) (.id 24) = true := by kernel_rfl
theorem ty_26 : fitTy Try.prog T_b101 (.id 26) = true := by kernel_rfl
theorem ty_27 : fitTy Try.prog (.int .i64) (.id 27) = true := by kernel_rfl
theorem ty_32 : fitTy Try.prog (.int .u64) (.id 32) = true := by kernel_rfl
theorem ty_34 : fitTy Try.prog (.arr 2 (.int .u64)) (.id 34) = true := by kernel_rfl
theorem ty_35 : fitTy Try.prog (.slice (.slice (.int .u8))) (.id 35) = true := by kernel_rfl
theorem ty_36 : fitTy Try.prog (.int .u16) (.id 36) = true := by kernel_rfl
theorem ty_44 : fitTy Try.prog (.slice (.int .u16)) (.id 44) = true := by kernel_rfl
theorem ty_46 : fitTy Try.prog (.slice (.slice (.slice (.int .u8)))) (.id 46) = true := by kernel_rfl
theorem ty_52 : fitTy Try.prog T_6bf9 (.id 52) = true := by kernel_rfl
theorem ty_56 : fitTy Try.prog (.map .str .bool) (.id 56) = true := by kernel_rfl
theorem ty_63 : fitTy Try.prog .ptr (.id 63) = true := by kernel_rfl
theorem ty_68 : fitTy Try.prog T_9634 (.id 68) = true := by kernel_rfl
theorem ty_75 : fitTy Try.prog (.int .u64) (.id 75) = true := by kernel_rfl
theorem ty_84 : fitTy Try.prog T_641c (.id 84) = true := by kernel_rfl
theorem ty_88 : fitTy Try.prog .ptr (.id 88) = true := by kernel_rfl
theorem ty_91 : fitTy Try.prog (.int .i64) (.id 91) = true := by kernel_rfl
theorem ty_101 : fitTy Try.prog (.int .u64) (.id 101) = true := by kernel_rfl
theorem ty_105 : fitTy Try.prog .ptr (.id 105) = true := by kernel_rfl
theorem ty_107 : fitTy Try.prog .ptr (.id 107) = true := by kernel_rfl
theorem dep : Nat.ble 62 Try.prog.depth = true := by kernel_rfl
theorem tys_ok : TyOk Try.prog tys := TyOk.lk_cons ty_3 (TyOk.lk_cons ty_4 (TyOk.lk_cons ty_5 (TyOk.lk_cons ty_9 (TyOk.lk_cons ty_22 (TyOk.lk_cons ty_24 (TyOk.lk_cons ty_26 (TyOk.lk_cons ty_27 (TyOk.lk_cons ty_32 (TyOk.lk_cons ty_34 (TyOk.lk_cons ty_35 (TyOk.lk_cons ty_36 (TyOk.lk_cons ty_44 (TyOk.lk_cons ty_46 (TyOk.lk_cons ty_52 (TyOk.lk_cons ty_56 (TyOk.lk_cons ty_63 (TyOk.lk_cons ty_68 (TyOk.lk_cons ty_75 (TyOk.lk_cons ty_84 (TyOk.lk_cons ty_88 (TyOk.lk_cons ty_91 (TyOk.lk_cons ty_101 (TyOk.lk_cons ty_105 (TyOk.lk_cons ty_107 (TyOk.lk_nil (Nat.le_of_ble_eq_true dep))))))))))))))))))))))))))
end Go.PE.Ytmhkkhdpcnehbaa
end
end

section
set_option maxRecDepth 100000
set_option linter.unusedVariables false
noncomputable section
namespace Go.PE.Ytmhkkhdpcnehbaa
open Go.PE Go.Proofs

def sg_bits_Valid : Sig := mkSig [(.hole T_6bf9)] [] [(.hole .bool)] [] (fun p => bits_Valid p.1.1)
theorem fk_bits_Valid : FnOk Try.prog 30 := ⟨Try.f30, Try.func30, by kernel_rfl, by kernel_rfl⟩
def cx_bits_Valid : Cx := ⟨tys, lk [], 41, 0, [], gl, []⟩
theorem cxo_bits_Valid : CxOk Try.prog (cx_bits_Valid) := ⟨tys_ok, FnsAll.nil⟩
def gs_bits_Valid : Nat → Option Blk := lk []
theorem sd_bits_Valid : FnSound Try.prog gl 30 sg_bits_Valid :=
  fn_printed (G := gs_bits_Valid) (A := .leaf) (cxo_bits_Valid) follows Try.func30 (by kernel_rfl) (by kernel_rfl) (by kernel_rfl) (by kernel_rfl) (by kernel_rfl) (CutsOk.leaf _) (by intro v; kernel_rfl)
def sg_bits_begin : Sig := mkSig [(.hole T_6bf9), (.hole (.int .i64))] [] [(.ptr 0 [])] [(.box T_9634 (.ncons (.ncons (.own 1) (.hole (.cons (.int .i64) .nil))) .nnil)), (.vec (.int .u8))] (fun p => bits_begin p.1.1 p.1.2.1)
theorem fk_bits_begin : FnOk Try.prog 31 := ⟨Try.f31, Try.func31, by kernel_rfl, by kernel_rfl⟩
def cx_bits_begin : Cx := ⟨tys, lk [], 26, 0, [], gl, []⟩
theorem cxo_bits_begin : CxOk Try.prog (cx_bits_begin) := ⟨tys_ok, FnsAll.nil⟩
def gs_bits_begin : Nat → Option Blk := lk []
theorem sd_bits_begin : FnSound Try.prog gl 31 sg_bits_begin :=
  fn_printed (G := gs_bits_begin) (A := .leaf) (cxo_bits_begin) follows Try.func31 (by kernel_rfl) (by kernel_rfl) (by kernel_rfl) (by kernel_rfl) (by kernel_rfl) (CutsOk.leaf _) (by intro v; kernel_rfl)
def sg_bits_writer_bit : Sig := mkSig [(.ptr 0 []), (.hole (.int .u64))] [(.box T_9634 (.ncons (.ncons (.own 1) (.hole (.cons (.int .i64) .nil))) .nnil)), (.vec (.int .u8))] [] [(.box T_9634 (.ncons (.ncons (.own 2) (.hole (.cons (.int .i64) .nil))) .nnil)), .dead, (.vec (.int .u8))] (fun p => bits_writer_bit p.1.2.1 p.2.1.1.2 p.2.2.1)
theorem fk_bits_writer_bit : FnOk Try.prog 32 := ⟨Try.f32, Try.func32, by kernel_rfl, by kernel_rfl⟩
def cx_bits_writer_bit : Cx := ⟨tys, lk [], 57, 2, [], gl, []⟩
theorem cxo_bits_writer_bit : CxOk Try.prog (cx_bits_writer_bit) := ⟨tys_ok, FnsAll.nil⟩
abbrev K0_bits_writer_bit_J1 : List (Nat × Ty) := []
abbrev TM_bits_writer_bit_J1 : Tm := ⟨[(0, (.ptr 0 []))], [(.box T_9634 (.ncons (.ncons (.own 1) (.hole (.cons (.int .i64) .nil))) .nnil)), (.vec (.int .u8))]⟩
abbrev UO_bits_writer_bit_J1 : Outs := (.one .normal ⟨[(0, (.ptr 0 []))], [(.box T_9634 (.ncons (.ncons (.own 2) (.hole (.cons (.int .i64) .nil))) .nnil)), .dead, (.vec (.int .u8))]⟩)
def B_bits_writer_bit_J1 : Blk := frBlk 2 [1] K0_bits_writer_bit_J1 TM_bits_writer_bit_J1 UO_bits_writer_bit_J1 (fun k v => bits_writer_bit_J1 v)
def gs_bits_writer_bit : Nat → Option Blk := lk [(1, B_bits_writer_bit_J1)]
theorem ct_bits_writer_bit_J1 : CodeSound Try.prog (cx_bits_writer_bit) (subL (bodyOf Try.f32)) (B_bits_writer_bit_J1).D :=
  join_sound (G := gs_bits_writer_bit) (A := .leaf) (T0 := K0_bits_writer_bit_J1) (T := TM_bits_writer_bit_J1) (U := UO_bits_writer_bit_J1) (F := (fun k v => bits_writer_bit_J1 v)) (cxo_bits_writer_bit) follows (by kernel_rfl) (CutsOk.leaf _) (by intro k v; kernel_rfl)
theorem sd_bits_writer_bit : FnSound Try.prog gl 32 sg_bits_writer_bit :=
  fn_printed (G := gs_bits_writer_bit) (A := (.two (.cut 1) .leaf)) (cxo_bits_writer_bit) follows Try.func32 (by kernel_rfl) (by kernel_rfl) (by kernel_rfl) (by kernel_rfl) (by kernel_rfl) (CutsOk.two (CutsOk.cut (g := B_bits_writer_bit_J1) (by kernel_rfl) (ct_bits_writer_bit_J1)) (CutsOk.leaf _)) (by intro v; kernel_rfl)
def sg_bits_writer_low : Sig := mkSig [(.ptr 0 []), (.hole (.int .u64)), (.hole (.int .i64))] [(.box T_9634 (.ncons (.ncons (.own 1) (.hole (.cons (.int .i64) .nil))) .nnil)), (.vec (.int .u8))] [] [(.box T_9634 (.ncons (.ncons (.own 2) (.hole (.cons (.int .i64) .nil))) .nnil)), .dead, (.vec (.int .u8))] (fun p => bits_writer_low p.1.2.1 p.1.2.2.1 p.2.1.1.2 p.2.2.1)
theorem fk_bits_writer_low : FnOk Try.prog 33 := ⟨Try.f33, Try.func33, by kernel_rfl, by kernel_rfl⟩
def cx_bits_writer_low : Cx := ⟨tys, lk [(32 + 100000 * 0, sg_bits_writer_bit)], 17, 2, [], gl, []⟩
theorem cxo_bits_writer_low : CxOk Try.prog (cx_bits_writer_low) := ⟨tys_ok, FnsAll.cons 0 rfl fk_bits_writer_bit sd_bits_writer_bit (FnsAll.nil)⟩
abbrev K0_bits_writer_low_L1 : List (Nat × Ty) := [(1, (.int .u64))]
abbrev TM_bits_writer_low_L1 : Tm := ⟨[(0, (.ptr 0 [])), (2, (.hole (.int .i64)))], [(.box T_9634 (.ncons (.ncons (.own 2) (.hole (.cons (.int .i64) .nil))) .nnil)), .dead, (.vec (.int .u8))]⟩
abbrev UO_bits_writer_low_L1 : Outs := (.one (.exit 0) ⟨[], [(.box T_9634 (.ncons (.ncons (.own 2) (.hole (.cons (.int .i64) .nil))) .nnil)), .dead, (.vec (.int .u8))]⟩)
def B_bits_writer_low_L1 : Blk := frBlk 2 [1] K0_bits_writer_low_L1 TM_bits_writer_low_L1 UO_bits_writer_low_L1 (fun k => loopV (fun v => bits_writer_low_L1 k.1 v))
def gs_bits_writer_low : Nat → Option Blk := lk [(1, B_bits_writer_low_L1)]
theorem ct_bits_writer_low_L1 : CodeSound Try.prog (cx_bits_writer_low) (subL (subR (bodyOf Try.f33))) (B_bits_writer_low_L1).D :=
  loop_printed (G := gs_bits_writer_low) (A := .leaf) (T0 := K0_bits_writer_low_L1) (T := TM_bits_writer_low_L1) (U := UO_bits_writer_low_L1) (step := (fun k v => bits_writer_low_L1 k.1 v)) (cxo_bits_writer_low) follows (by kernel_rfl) (by kernel_rfl) (CutsOk.leaf _) (by intro k v; kernel_rfl)
theorem sd_bits_writer_low : FnSound Try.prog gl 33 sg_bits_writer_low :=
  fn_printed (G := gs_bits_writer_low) (A := (.two .leaf (.two (.cut 1) .leaf))) (cxo_bits_writer_low) follows Try.func33 (by kernel_rfl) (by kernel_rfl) (by kernel_rfl) (by kernel_rfl) (by kernel_rfl) (CutsOk.two (CutsOk.leaf _) (CutsOk.two (CutsOk.cut (g := B_bits_writer_low_L1) (by kernel_rfl) (ct_bits_writer_low_L1)) (CutsOk.leaf _))) (by intro v; kernel_rfl)
def sg_bits_AppendRice : Sig := mkSig [(.hole T_6bf9), (.hole (.int .u64)), (.hole (.int .i64))] [] [(.ncons (.own 0) (.hole (.cons (.int .i64) .nil))), (.hole (.int .i64))] [(.vec (.int .u8))] (fun p => bits_AppendRice p.1.1 p.1.2.1 p.1.2.2.1)
theorem fk_bits_AppendRice : FnOk Try.prog 20 := ⟨Try.f20, Try.func20, by kernel_rfl, by kernel_rfl⟩
def cx_bits_AppendRice : Cx := ⟨tys, lk [(30 + 100000 * 0, sg_bits_Valid), (31 + 100000 * 0, sg_bits_begin), (32 + 100000 * 0, sg_bits_writer_bit), (33 + 100000 * 0, sg_bits_writer_low)], 68, 0, [], gl, []⟩
theorem cxo_bits_AppendRice : CxOk Try.prog (cx_bits_AppendRice) := ⟨tys_ok, FnsAll.cons 0 rfl fk_bits_Valid sd_bits_Valid (FnsAll.cons 0 rfl fk_bits_begin sd_bits_begin (FnsAll.cons 0 rfl fk_bits_writer_bit sd_bits_writer_bit (FnsAll.cons 0 rfl fk_bits_writer_low sd_bits_writer_low (FnsAll.nil))))⟩
abbrev K0_bits_AppendRice_L1 : List (Nat × Ty) := [(52, (.int .u64))]
abbrev TM_bits_AppendRice_L1 : Tm := ⟨[(6, (.ptr 0 [])), (8, (.ptr 1 [])), (53, (.hole (.int .u64)))], [(.box T_6bf9 (.ncons .nils (.hole (.cons (.int .i64) .nil)))), (.box T_9634 (.ncons (.ncons (.own 2) (.hole (.cons (.int .i64) .nil))) .nnil)), (.vec (.int .u8))]⟩
abbrev UO_bits_AppendRice_L1 : Outs := (.one (.exit 1) ⟨[(6, (.ptr 0 [])), (8, (.ptr 1 []))], [(.box T_6bf9 (.ncons .nils (.hole (.cons (.int .i64) .nil)))), (.box T_9634 (.ncons (.ncons (.own 2) (.hole (.cons (.int .i64) .nil))) .nnil)), (.vec (.int .u8))]⟩)
def B_bits_AppendRice_L1 : Blk := frBlk 0 [1, 2, 7, 52] K0_bits_AppendRice_L1 TM_bits_AppendRice_L1 UO_bits_AppendRice_L1 (fun k => loopV (fun v => bits_AppendRice_L1 k.1 v))
def gs_bits_AppendRice : Nat → Option Blk := lk [(1, B_bits_AppendRice_L1)]
theorem ct_bits_AppendRice_L1 : CodeSound Try.prog (cx_bits_AppendRice) (subL (subR (subL (subR (subR (subR (bodyOf Try.f20))))))) (B_bits_AppendRice_L1).D :=
  loop_printed (G := gs_bits_AppendRice) (A := .leaf) (T0 := K0_bits_AppendRice_L1) (T := TM_bits_AppendRice_L1) (U := UO_bits_AppendRice_L1) (step := (fun k v => bits_AppendRice_L1 k.1 v)) (cxo_bits_AppendRice) follows (by kernel_rfl) (by kernel_rfl) (CutsOk.leaf _) (by intro k v; kernel_rfl)
theorem sd_bits_AppendRice : FnSound Try.prog gl 20 sg_bits_AppendRice :=
  fn_printed (G := gs_bits_AppendRice) (A := (.two .leaf (.two .leaf (.two .leaf (.two (.two .leaf (.two (.cut 1) .leaf)) .leaf))))) (cxo_bits_AppendRice) follows Try.func20 (by kernel_rfl) (by kernel_rfl) (by kernel_rfl) (by kernel_rfl) (by kernel_rfl) (CutsOk.two (CutsOk.leaf _) (CutsOk.two (CutsOk.leaf _) (CutsOk.two (CutsOk.leaf _) (CutsOk.two (CutsOk.two (CutsOk.leaf _) (CutsOk.two (CutsOk.cut (g := B_bits_AppendRice_L1) (by kernel_rfl) (ct_bits_AppendRice_L1)) (CutsOk.leaf _))) (CutsOk.leaf _))))) (by intro v; kernel_rfl)
def sg_bits_get : Sig := mkSig [(.hole T_6bf9), (.hole (.int .i64))] [] [(.hole (.int .u64))] [] (fun p => bits_get p.1.1 p.1.2.1)
theorem fk_bits_get : FnOk Try.prog 40 := ⟨Try.f40, Try.func40, by kernel_rfl, by kernel_rfl⟩
def cx_bits_get : Cx := ⟨tys, lk [], 17, 0, [], gl, []⟩
theorem cxo_bits_get : CxOk Try.prog (cx_bits_get) := ⟨tys_ok, FnsAll.nil⟩
def gs_bits_get : Nat → Option Blk := lk []
theorem sd_bits_get : FnSound Try.prog gl 40 sg_bits_get :=
  fn_printed (G := gs_bits_get) (A := .leaf) (cxo_bits_get) follows Try.func40 (by kernel_rfl) (by kernel_rfl) (by kernel_rfl) (by kernel_rfl) (by kernel_rfl) (CutsOk.leaf _) (by intro v; kernel_rfl)
def sg_bits_Read : Sig := mkSig [(.hole T_6bf9), (.hole (.int .i64)), (.hole (.int .i64))] [] [(.hole (.int .u64)), (.hole (.int .i64)), (.hole (.int .i64))] [] (fun p => bits_Read p.1.1 p.1.2.1 p.1.2.2.1)
theorem fk_bits_Read : FnOk Try.prog 25 := ⟨Try.f25, Try.func25, by kernel_rfl, by kernel_rfl⟩
def cx_bits_Read : Cx := ⟨tys, lk [(30 + 100000 * 0, sg_bits_Valid), (40 + 100000 * 0, sg_bits_get)], 56, 0, [], gl, []⟩
theorem cxo_bits_Read : CxOk Try.prog (cx_bits_Read) := ⟨tys_ok, FnsAll.cons 0 rfl fk_bits_Valid sd_bits_Valid (FnsAll.cons 0 rfl fk_bits_get sd_bits_get (FnsAll.nil))⟩
abbrev K0_bits_Read_J1 : List (Nat × Ty) := [(1, (.int .i64)), (2, (.int .i64))]
abbrev TM_bits_Read_J1 : Tm := ⟨[(3, (.ptr 0 []))], [(.box T_6bf9 (.hole T_6bf9))]⟩
abbrev UO_bits_Read_J1 : Outs := (.one .normal ⟨[(3, (.ptr 0 [])), (15, (.hole .bool))], [(.box T_6bf9 (.hole T_6bf9))]⟩)
def B_bits_Read_J1 : Blk := frBlk 0 [1, 2, 6, 7, 8] K0_bits_Read_J1 TM_bits_Read_J1 UO_bits_Read_J1 (fun k v => bits_Read_J1 k.1 k.2.1 v)
abbrev K0_bits_Read_L2 : List (Nat × Ty) := [(1, (.int .i64)), (39, (.int .i64))]
abbrev TM_bits_Read_L2 : Tm := ⟨[(3, (.ptr 0 [])), (9, (.hole (.int .u64))), (40, (.hole (.int .i64)))], [(.box T_6bf9 (.hole T_6bf9))]⟩
abbrev UO_bits_Read_L2 : Outs := (.one (.exit 1) ⟨[(9, (.hole (.int .u64)))], []⟩)
def B_bits_Read_L2 : Blk := frBlk 0 [1, 2, 6, 7, 8, 39] K0_bits_Read_L2 TM_bits_Read_L2 UO_bits_Read_L2 (fun k => loopV (fun v => bits_Read_L2 k.1 k.2.1 v))
def gs_bits_Read : Nat → Option Blk := lk [(1, B_bits_Read_J1), (2, B_bits_Read_L2)]
theorem ct_bits_Read_J1 : CodeSound Try.prog (cx_bits_Read) (subL (subR (subR (subL (subL (subR (bodyOf Try.f25))))))) (B_bits_Read_J1).D :=
  join_sound (G := gs_bits_Read) (A := .leaf) (T0 := K0_bits_Read_J1) (T := TM_bits_Read_J1) (U := UO_bits_Read_J1) (F := (fun k v => bits_Read_J1 k.1 k.2.1 v)) (cxo_bits_Read) follows (by kernel_rfl) (CutsOk.leaf _) (by intro k v; kernel_rfl)
theorem ct_bits_Read_L2 : CodeSound Try.prog (cx_bits_Read) (subL (subR (subL (subR (subR (subR (bodyOf Try.f25))))))) (B_bits_Read_L2).D :=
  loop_printed (G := gs_bits_Read) (A := .leaf) (T0 := K0_bits_Read_L2) (T := TM_bits_Read_L2) (U := UO_bits_Read_L2) (step := (fun k v => bits_Read_L2 k.1 k.2.1 v)) (cxo_bits_Read) follows (by kernel_rfl) (by kernel_rfl) (CutsOk.leaf _) (by intro k v; kernel_rfl)
theorem sd_bits_Read : FnSound Try.prog gl 25 sg_bits_Read :=
  fn_printed (G := gs_bits_Read) (A := (.two .leaf (.two (.two (.two .leaf (.two .leaf (.two (.cut 1) .leaf))) .leaf) (.two .leaf (.two (.two .leaf (.two (.cut 2) .leaf)) .leaf))))) (cxo_bits_Read) follows Try.func25 (by kernel_rfl) (by kernel_rfl) (by kernel_rfl) (by kernel_rfl) (by kernel_rfl) (CutsOk.two (CutsOk.leaf _) (CutsOk.two (CutsOk.two (CutsOk.two (CutsOk.leaf _) (CutsOk.two (CutsOk.leaf _) (CutsOk.two (CutsOk.cut (g := B_bits_Read_J1) (by kernel_rfl) (ct_bits_Read_J1)) (CutsOk.leaf _)))) (CutsOk.leaf _)) (CutsOk.two (CutsOk.leaf _) (CutsOk.two (CutsOk.two (CutsOk.leaf _) (CutsOk.two (CutsOk.cut (g := B_bits_Read_L2) (by kernel_rfl) (ct_bits_Read_L2)) (CutsOk.leaf _))) (CutsOk.leaf _))))) (by intro v; kernel_rfl)
def sg_bits_ReadRice : Sig := mkSig [(.hole T_6bf9), (.hole (.int .i64)), (.hole (.int .i64))] [] [(.hole (.int .u64)), (.hole (.int .i64)), (.hole (.int .i64))] [] (fun p => bits_ReadRice p.1.1 p.1.2.1 p.1.2.2.1)
theorem fk_bits_ReadRice : FnOk Try.prog 24 := ⟨Try.f24, Try.func24, by kernel_rfl, by kernel_rfl⟩
def cx_bits_ReadRice : Cx := ⟨tys, lk [(25 + 100000 * 0, sg_bits_Read), (30 + 100000 * 0, sg_bits_Valid), (40 + 100000 * 0, sg_bits_get)], 76, 0, [], gl, []⟩
theorem cxo_bits_ReadRice : CxOk Try.prog (cx_bits_ReadRice) := ⟨tys_ok, FnsAll.cons 0 rfl fk_bits_Read sd_bits_Read (FnsAll.cons 0 rfl fk_bits_Valid sd_bits_Valid (FnsAll.cons 0 rfl fk_bits_get sd_bits_get (FnsAll.nil)))⟩
abbrev K0_bits_ReadRice_J1 : List (Nat × Ty) := [(1, (.int .i64)), (2, (.int .i64))]
abbrev TM_bits_ReadRice_J1 : Tm := ⟨[(3, (.ptr 0 []))], [(.box T_6bf9 (.hole T_6bf9))]⟩
abbrev UO_bits_ReadRice_J1 : Outs := (.one .normal ⟨[(3, (.ptr 0 [])), (31, (.hole .bool))], [(.box T_6bf9 (.hole T_6bf9))]⟩)
def B_bits_ReadRice_J1 : Blk := frBlk 0 [1, 2, 6, 7, 8] K0_bits_ReadRice_J1 TM_bits_ReadRice_J1 UO_bits_ReadRice_J1 (fun k v => bits_ReadRice_J1 k.1 k.2.1 v)
abbrev K0_bits_ReadRice_L2 : List (Nat × Ty) := []
abbrev TM_bits_ReadRice_L2 : Tm := ⟨[(1, (.hole (.int .i64))), (3, (.ptr 0 [])), (9, (.hole (.int .u64)))], [(.box T_6bf9 (.hole T_6bf9))]⟩
abbrev UO_bits_ReadRice_L2 : Outs := (.more .ret ⟨[(6, (.hole (.int .u64))), (7, (.hole (.int .i64))), (8, (.hole (.int .i64)))], []⟩ (.one (.exit 0) ⟨[(1, (.hole (.int .i64))), (3, (.ptr 0 [])), (9, (.hole (.int .u64)))], [(.box T_6bf9 (.hole T_6bf9))]⟩))
def B_bits_ReadRice_L2 : Blk := frBlk 0 [2] K0_bits_ReadRice_L2 TM_bits_ReadRice_L2 UO_bits_ReadRice_L2 (fun k => loopV (fun v => bits_ReadRice_L2 v))
def gs_bits_ReadRice : Nat → Option Blk := lk [(1, B_bits_ReadRice_J1), (2, B_bits_ReadRice_L2)]
theorem ct_bits_ReadRice_L2 : CodeSound Try.prog (cx_bits_ReadRice) (subL (subL (subR (subR (subR (subR (bodyOf Try.f24))))))) (B_bits_ReadRice_L2).D :=
  loop_printed (G := gs_bits_ReadRice) (A := .leaf) (T0 := K0_bits_ReadRice_L2) (T := TM_bits_ReadRice_L2) (U := UO_bits_ReadRice_L2) (step := (fun k v => bits_ReadRice_L2 v)) (cxo_bits_ReadRice) follows (by kernel_rfl) (by kernel_rfl) (CutsOk.leaf _) (by intro k v; kernel_rfl)
theorem ct_bits_ReadRice_J1 : CodeSound Try.prog (cx_bits_ReadRice) (subL (subL (subR (subR (bodyOf Try.f24))))) (B_bits_ReadRice_J1).D :=
  join_sound (G := gs_bits_ReadRice) (A := .leaf) (T0 := K0_bits_ReadRice_J1) (T := TM_bits_ReadRice_J1) (U := UO_bits_ReadRice_J1) (F := (fun k v => bits_ReadRice_J1 k.1 k.2.1 v)) (cxo_bits_ReadRice) follows (by kernel_rfl) (CutsOk.leaf _) (by intro k v; kernel_rfl)
theorem sd_bits_ReadRice : FnSound Try.prog gl 24 sg_bits_ReadRice :=
  fn_printed (G := gs_bits_ReadRice) (A := (.two .leaf (.two .leaf (.two (.two (.cut 1) .leaf) (.two .leaf (.two (.two (.cut 2) .leaf) .leaf)))))) (cxo_bits_ReadRice) follows Try.func24 (by kernel_rfl) (by kernel_rfl) (by kernel_rfl) (by kernel_rfl) (by kernel_rfl) (CutsOk.two (CutsOk.leaf _) (CutsOk.two (CutsOk.leaf _) (CutsOk.two (CutsOk.two (CutsOk.cut (g := B_bits_ReadRice_J1) (by kernel_rfl) (ct_bits_ReadRice_J1)) (CutsOk.leaf _)) (CutsOk.two (CutsOk.leaf _) (CutsOk.two (CutsOk.two (CutsOk.cut (g := B_bits_ReadRice_L2) (by kernel_rfl) (ct_bits_ReadRice_L2)) (CutsOk.leaf _)) (CutsOk.leaf _)))))) (by intro v; kernel_rfl)
end Go.PE.Ytmhkkhdpcnehbaa
end
end

section
set_option maxRecDepth 100000
set_option linter.unusedVariables false
noncomputable section
namespace Go.PE.Ytmhkkhdpcnehbaa
open Go.PE Go.Proofs

def sg_cmp_isNaN_uint64 : Sig := mkSig [(.hole (.int .u64))] [] [(.hole .bool)] [] (fun p => cmp_isNaN_uint64 p.1.1)
theorem fk_cmp_isNaN_uint64 : FnOk Try.prog 44 := ⟨Try.f44, Try.func44, by kernel_rfl, by kernel_rfl⟩
def cx_cmp_isNaN_uint64 : Cx := ⟨tys, lk [], 6, 0, [], gl, []⟩
theorem cxo_cmp_isNaN_uint64 : CxOk Try.prog (cx_cmp_isNaN_uint64) := ⟨tys_ok, FnsAll.nil⟩
def gs_cmp_isNaN_uint64 : Nat → Option Blk := lk []
theorem sd_cmp_isNaN_uint64 : FnSound Try.prog gl 44 sg_cmp_isNaN_uint64 :=
  fn_printed (G := gs_cmp_isNaN_uint64) (A := .leaf) (cxo_cmp_isNaN_uint64) follows Try.func44 (by kernel_rfl) (by kernel_rfl) (by kernel_rfl) (by kernel_rfl) (by kernel_rfl) (CutsOk.leaf _) (by intro v; kernel_rfl)
def sg_cmp_Less_uint64 : Sig := mkSig [(.hole (.int .u64)), (.hole (.int .u64))] [] [(.hole .bool)] [] (fun p => cmp_Less_uint64 p.1.1 p.1.2.1)
theorem fk_cmp_Less_uint64 : FnOk Try.prog 29 := ⟨Try.f29, Try.func29, by kernel_rfl, by kernel_rfl⟩
def cx_cmp_Less_uint64 : Cx := ⟨tys, lk [(44 + 100000 * 0, sg_cmp_isNaN_uint64)], 17, 0, [], gl, []⟩
theorem cxo_cmp_Less_uint64 : CxOk Try.prog (cx_cmp_Less_uint64) := ⟨tys_ok, FnsAll.cons 0 rfl fk_cmp_isNaN_uint64 sd_cmp_isNaN_uint64 (FnsAll.nil)⟩
def gs_cmp_Less_uint64 : Nat → Option Blk := lk []
theorem sd_cmp_Less_uint64 : FnSound Try.prog gl 29 sg_cmp_Less_uint64 :=
  fn_printed (G := gs_cmp_Less_uint64) (A := .leaf) (cxo_cmp_Less_uint64) follows Try.func29 (by kernel_rfl) (by kernel_rfl) (by kernel_rfl) (by kernel_rfl) (by kernel_rfl) (CutsOk.leaf _) (by intro v; kernel_rfl)
def sg_slices_IsSorted_uint64_uint64 : Sig := mkSig [(.hole (.slice (.int .u64)))] [] [(.hole .bool)] [] (fun p => slices_IsSorted_uint64_uint64 p.1.1)
theorem fk_slices_IsSorted_uint64_uint64 : FnOk Try.prog 19 := ⟨Try.f19, Try.func19, by kernel_rfl, by kernel_rfl⟩
def cx_slices_IsSorted_uint64_uint64 : Cx := ⟨tys, lk [(29 + 100000 * 0, sg_cmp_Less_uint64)], 21, 0, [], gl, []⟩
theorem cxo_slices_IsSorted_uint64_uint64 : CxOk Try.prog (cx_slices_IsSorted_uint64_uint64) := ⟨tys_ok, FnsAll.cons 0 rfl fk_cmp_Less_uint64 sd_cmp_Less_uint64 (FnsAll.nil)⟩
abbrev K0_slices_IsSorted_uint64_uint64_L1 : List (Nat × Ty) := [(0, (.slice (.int .u64)))]
abbrev TM_slices_IsSorted_uint64_uint64_L1 : Tm := ⟨[(3, (.hole (.int .i64)))], []⟩
abbrev UO_slices_IsSorted_uint64_uint64_L1 : Outs := (.more .ret ⟨[(2, (.hole .bool))], []⟩ (.one (.exit 0) ⟨[], []⟩))
def B_slices_IsSorted_uint64_uint64_L1 : Blk := frBlk 0 [0] K0_slices_IsSorted_uint64_uint64_L1 TM_slices_IsSorted_uint64_uint64_L1 UO_slices_IsSorted_uint64_uint64_L1 (fun k => loopV (fun v => slices_IsSorted_uint64_uint64_L1 k.1 v))
def gs_slices_IsSorted_uint64_uint64 : Nat → Option Blk := lk [(1, B_slices_IsSorted_uint64_uint64_L1)]
theorem ct_slices_IsSorted_uint64_uint64_L1 : CodeSound Try.prog (cx_slices_IsSorted_uint64_uint64) (subL (subR (subL (subR (bodyOf Try.f19))))) (B_slices_IsSorted_uint64_uint64_L1).D :=
  loop_printed (G := gs_slices_IsSorted_uint64_uint64) (A := .leaf) (T0 := K0_slices_IsSorted_uint64_uint64_L1) (T := TM_slices_IsSorted_uint64_uint64_L1) (U := UO_slices_IsSorted_uint64_uint64_L1) (step := (fun k v => slices_IsSorted_uint64_uint64_L1 k.1 v)) (cxo_slices_IsSorted_uint64_uint64) follows (by kernel_rfl) (by kernel_rfl) (CutsOk.leaf _) (by intro k v; kernel_rfl)
theorem sd_slices_IsSorted_uint64_uint64 : FnSound Try.prog gl 19 sg_slices_IsSorted_uint64_uint64 :=
  fn_printed (G := gs_slices_IsSorted_uint64_uint64) (A := (.two .leaf (.two (.two .leaf (.two (.cut 1) .leaf)) .leaf))) (cxo_slices_IsSorted_uint64_uint64) follows Try.func19 (by kernel_rfl) (by kernel_rfl) (by kernel_rfl) (by kernel_rfl) (by kernel_rfl) (CutsOk.two (CutsOk.leaf _) (CutsOk.two (CutsOk.two (CutsOk.leaf _) (CutsOk.two (CutsOk.cut (g := B_slices_IsSorted_uint64_uint64_L1) (by kernel_rfl) (ct_slices_IsSorted_uint64_uint64_L1)) (CutsOk.leaf _))) (CutsOk.leaf _))) (by intro v; kernel_rfl)
def sg_math_bits_RotateLeft64 : Sig := mkSig [(.hole (.int .u64)), (.hole (.int .i64))] [] [(.hole (.int .u64))] [] (fun p => math_bits_RotateLeft64 p.1.1 p.1.2.1)
theorem fk_math_bits_RotateLeft64 : FnOk Try.prog 52 := ⟨Try.f52, Try.func52, by kernel_rfl, by kernel_rfl⟩
def cx_math_bits_RotateLeft64 : Cx := ⟨tys, lk [], 17, 0, [], gl, []⟩
theorem cxo_math_bits_RotateLeft64 : CxOk Try.prog (cx_math_bits_RotateLeft64) := ⟨tys_ok, FnsAll.nil⟩
def gs_math_bits_RotateLeft64 : Nat → Option Blk := lk []
theorem sd_math_bits_RotateLeft64 : FnSound Try.prog gl 52 sg_math_bits_RotateLeft64 :=
  fn_printed (G := gs_math_bits_RotateLeft64) (A := .leaf) (cxo_math_bits_RotateLeft64) follows Try.func52 (by kernel_rfl) (by kernel_rfl) (by kernel_rfl) (by kernel_rfl) (by kernel_rfl) (CutsOk.leaf _) (by intro v; kernel_rfl)
def sg_math_bits_Mul64 : Sig := mkSig [(.hole (.int .u64)), (.hole (.int .u64))] [] [(.hole (.int .u64)), (.hole (.int .u64))] [] (fun p => math_bits_Mul64 p.1.1 p.1.2.1)
theorem fk_math_bits_Mul64 : FnOk Try.prog 46 := ⟨Try.f46, Try.func46, by kernel_rfl, by kernel_rfl⟩
def cx_math_bits_Mul64 : Cx := ⟨tys, lk [], 51, 0, [], gl, []⟩
theorem cxo_math_bits_Mul64 : CxOk Try.prog (cx_math_bits_Mul64) := ⟨tys_ok, FnsAll.nil⟩
def gs_math_bits_Mul64 : Nat → Option Blk := lk []
theorem sd_math_bits_Mul64 : FnSound Try.prog gl 46 sg_math_bits_Mul64 :=
  fn_printed (G := gs_math_bits_Mul64) (A := .leaf) (cxo_math_bits_Mul64) follows Try.func46 (by kernel_rfl) (by kernel_rfl) (by kernel_rfl) (by kernel_rfl) (by kernel_rfl) (CutsOk.leaf _) (by intro v; kernel_rfl)
def sg_math_bits_Len64 : Sig := mkSig [(.hole (.int .u64))] [] [(.hole (.int .i64))] [] (fun p => math_bits_Len64 p.1.1)
theorem fk_math_bits_Len64 : FnOk Try.prog 62 := ⟨Try.f62, Try.func62, by kernel_rfl, by kernel_rfl⟩
def cx_math_bits_Len64 : Cx := ⟨tys, lk [], 25, 0, [], gl, []⟩
theorem cxo_math_bits_Len64 : CxOk Try.prog (cx_math_bits_Len64) := ⟨tys_ok, FnsAll.nil⟩
abbrev K0_math_bits_Len64_J1 : List (Nat × Ty) := []
abbrev TM_math_bits_Len64_J1 : Tm := ⟨[(0, (.hole (.int .u64))), (2, (.hole (.int .i64)))], []⟩
abbrev UO_math_bits_Len64_J1 : Outs := (.one .normal ⟨[(0, (.hole (.int .u64))), (2, (.hole (.int .i64)))], []⟩)
def B_math_bits_Len64_J1 : Blk := frBlk 0 [] K0_math_bits_Len64_J1 TM_math_bits_Len64_J1 UO_math_bits_Len64_J1 (fun k v => math_bits_Len64_J1 v)
abbrev K0_math_bits_Len64_J2 : List (Nat × Ty) := []
abbrev TM_math_bits_Len64_J2 : Tm := ⟨[(0, (.hole (.int .u64))), (2, (.hole (.int .i64)))], []⟩
abbrev UO_math_bits_Len64_J2 : Outs := (.one .normal ⟨[(0, (.hole (.int .u64))), (2, (.hole (.int .i64)))], []⟩)
def B_math_bits_Len64_J2 : Blk := frBlk 0 [] K0_math_bits_Len64_J2 TM_math_bits_Len64_J2 UO_math_bits_Len64_J2 (fun k v => math_bits_Len64_J2 v)
abbrev K0_math_bits_Len64_J3 : List (Nat × Ty) := []
abbrev TM_math_bits_Len64_J3 : Tm := ⟨[(0, (.hole (.int .u64))), (2, (.hole (.int .i64)))], []⟩
abbrev UO_math_bits_Len64_J3 : Outs := (.one .normal ⟨[(0, (.hole (.int .u64))), (2, (.hole (.int .i64)))], []⟩)
def B_math_bits_Len64_J3 : Blk := frBlk 0 [] K0_math_bits_Len64_J3 TM_math_bits_Len64_J3 UO_math_bits_Len64_J3 (fun k v => math_bits_Len64_J3 v)
def gs_math_bits_Len64 : Nat → Option Blk := lk [(1, B_math_bits_Len64_J1), (2, B_math_bits_Len64_J2), (3, B_math_bits_Len64_J3)]
theorem ct_math_bits_Len64_J3 : CodeSound Try.prog (cx_math_bits_Len64) (subL (subR (subR (subR (bodyOf Try.f62))))) (B_math_bits_Len64_J3).D :=
  join_sound (G := gs_math_bits_Len64) (A := .leaf) (T0 := K0_math_bits_Len64_J3) (T := TM_math_bits_Len64_J3) (U := UO_math_bits_Len64_J3) (F := (fun k v => math_bits_Len64_J3 v)) (cxo_math_bits_Len64) follows (by kernel_rfl) (CutsOk.leaf _) (by intro k v; kernel_rfl)
theorem ct_math_bits_Len64_J2 : CodeSound Try.prog (cx_math_bits_Len64) (subL (subR (subR (bodyOf Try.f62)))) (B_math_bits_Len64_J2).D :=
  join_sound (G := gs_math_bits_Len64) (A := .leaf) (T0 := K0_math_bits_Len64_J2) (T := TM_math_bits_Len64_J2) (U := UO_math_bits_Len64_J2) (F := (fun k v => math_bits_Len64_J2 v)) (cxo_math_bits_Len64) follows (by kernel_rfl) (CutsOk.leaf _) (by intro k v; kernel_rfl)
theorem ct_math_bits_Len64_J1 : CodeSound Try.prog (cx_math_bits_Len64) (subL (subR (bodyOf Try.f62))) (B_math_bits_Len64_J1).D :=
  join_sound (G := gs_math_bits_Len64) (A := .leaf) (T0 := K0_math_bits_Len64_J1) (T := TM_math_bits_Len64_J1) (U := UO_math_bits_Len64_J1) (F := (fun k v => math_bits_Len64_J1 v)) (cxo_math_bits_Len64) follows (by kernel_rfl) (CutsOk.leaf _) (by intro k v; kernel_rfl)
theorem sd_math_bits_Len64 : FnSound Try.prog gl 62 sg_math_bits_Len64 :=
  fn_printed (G := gs_math_bits_Len64) (A := (.two .leaf (.two (.cut 1) (.two (.cut 2) (.two (.cut 3) .leaf))))) (cxo_math_bits_Len64) follows Try.func62 (by kernel_rfl) (by kernel_rfl) (by kernel_rfl) (by kernel_rfl) (by kernel_rfl) (CutsOk.two (CutsOk.leaf _) (CutsOk.two (CutsOk.cut (g := B_math_bits_Len64_J1) (by kernel_rfl) (ct_math_bits_Len64_J1)) (CutsOk.two (CutsOk.cut (g := B_math_bits_Len64_J2) (by kernel_rfl) (ct_math_bits_Len64_J2)) (CutsOk.two (CutsOk.cut (g := B_math_bits_Len64_J3) (by kernel_rfl) (ct_math_bits_Len64_J3)) (CutsOk.leaf _))))) (by intro v; kernel_rfl)
def sg_math_bits_Len : Sig := mkSig [(.hole (.int .u64))] [] [(.hole (.int .i64))] [] (fun p => math_bits_Len p.1.1)
theorem fk_math_bits_Len : FnOk Try.prog 51 := ⟨Try.f51, Try.func51, by kernel_rfl, by kernel_rfl⟩
def cx_math_bits_Len : Cx := ⟨tys, lk [(62 + 100000 * 0, sg_math_bits_Len64)], 8, 0, [], gl, []⟩
theorem cxo_math_bits_Len : CxOk Try.prog (cx_math_bits_Len) := ⟨tys_ok, FnsAll.cons 0 rfl fk_math_bits_Len64 sd_math_bits_Len64 (FnsAll.nil)⟩
def gs_math_bits_Len : Nat → Option Blk := lk []
theorem sd_math_bits_Len : FnSound Try.prog gl 51 sg_math_bits_Len :=
  fn_printed (G := gs_math_bits_Len) (A := .leaf) (cxo_math_bits_Len) follows Try.func51 (by kernel_rfl) (by kernel_rfl) (by kernel_rfl) (by kernel_rfl) (by kernel_rfl) (CutsOk.leaf _) (by intro v; kernel_rfl)
def sg_slices_insertionSortOrdered_uint64 : Sig := mkSig [(.own 0), (.hole (.int .i64)), (.hole (.int .i64))] [(.vec (.int .u64))] [] [(.vec (.int .u64))] (fun p => slices_insertionSortOrdered_uint64 p.1.2.1 p.1.2.2.1 p.2.1)
theorem fk_slices_insertionSortOrdered_uint64 : FnOk Try.prog 53 := ⟨Try.f53, Try.func53, by kernel_rfl, by kernel_rfl⟩
def cx_slices_insertionSortOrdered_uint64 : Cx := ⟨tys, lk [(29 + 100000 * 0, sg_cmp_Less_uint64)], 49, 1, [], gl, []⟩
theorem cxo_slices_insertionSortOrdered_uint64 : CxOk Try.prog (cx_slices_insertionSortOrdered_uint64) := ⟨tys_ok, FnsAll.cons 0 rfl fk_cmp_Less_uint64 sd_cmp_Less_uint64 (FnsAll.nil)⟩
abbrev K0_slices_insertionSortOrdered_uint64_L2 : List (Nat × Ty) := [(1, (.int .i64))]
abbrev TM_slices_insertionSortOrdered_uint64_L2 : Tm := ⟨[(0, (.own 0)), (7, (.hole (.int .i64)))], [(.vec (.int .u64))]⟩
abbrev UO_slices_insertionSortOrdered_uint64_L2 : Outs := (.one (.exit 2) ⟨[(0, (.own 0))], [(.vec (.int .u64))]⟩)
def B_slices_insertionSortOrdered_uint64_L2 : Blk := frBlk 1 [1, 2, 6] K0_slices_insertionSortOrdered_uint64_L2 TM_slices_insertionSortOrdered_uint64_L2 UO_slices_insertionSortOrdered_uint64_L2 (fun k => loopV (fun v => slices_insertionSortOrdered_uint64_L2 k.1 v))
abbrev K0_slices_insertionSortOrdered_uint64_L1 : List (Nat × Ty) := [(1, (.int .i64)), (2, (.int .i64))]
abbrev TM_slices_insertionSortOrdered_uint64_L1 : Tm := ⟨[(0, (.own 0)), (6, (.hole (.int .i64)))], [(.vec (.int .u64))]⟩
abbrev UO_slices_insertionSortOrdered_uint64_L1 : Outs := (.one (.exit 0) ⟨[], [(.vec (.int .u64))]⟩)
def B_slices_insertionSortOrdered_uint64_L1 : Blk := frBlk 1 [1, 2] K0_slices_insertionSortOrdered_uint64_L1 TM_slices_insertionSortOrdered_uint64_L1 UO_slices_insertionSortOrdered_uint64_L1 (fun k => loopV (fun v => slices_insertionSortOrdered_uint64_L1 k.1 k.2.1 v))
def gs_slices_insertionSortOrdered_uint64 : Nat → Option Blk := lk [(2, B_slices_insertionSortOrdered_uint64_L2), (1, B_slices_insertionSortOrdered_uint64_L1)]
theorem ct_slices_insertionSortOrdered_uint64_L2 : CodeSound Try.prog ((cx_slices_insertionSortOrdered_uint64).fr [1, 2]) (subL (subR (subL (subL (subR (subL (subL (subR (bodyOf Try.f53))))))))) (B_slices_insertionSortOrdered_uint64_L2).D :=
  loop_printed (G := gs_slices_insertionSortOrdered_uint64) (A := .leaf) (T0 := K0_slices_insertionSortOrdered_uint64_L2) (T := TM_slices_insertionSortOrdered_uint64_L2) (U := UO_slices_insertionSortOrdered_uint64_L2) (step := (fun k v => slices_insertionSortOrdered_uint64_L2 k.1 v)) ((cxo_slices_insertionSortOrdered_uint64).fr [1, 2]) follows (by kernel_rfl) (by kernel_rfl) (CutsOk.leaf _) (by intro k v; kernel_rfl)
theorem ct_slices_insertionSortOrdered_uint64_L1 : CodeSound Try.prog (cx_slices_insertionSortOrdered_uint64) (subL (subR (bodyOf Try.f53))) (B_slices_insertionSortOrdered_uint64_L1).D :=
  loop_printed (G := gs_slices_insertionSortOrdered_uint64) (A := (.two .leaf (.two (.two (.two .leaf (.two (.cut 2) .leaf)) .leaf) .leaf))) (T0 := K0_slices_insertionSortOrdered_uint64_L1) (T := TM_slices_insertionSortOrdered_uint64_L1) (U := UO_slices_insertionSortOrdered_uint64_L1) (step := (fun k v => slices_insertionSortOrdered_uint64_L1 k.1 k.2.1 v)) (cxo_slices_insertionSortOrdered_uint64) follows (by kernel_rfl) (by kernel_rfl) (CutsOk.two (CutsOk.leaf _) (CutsOk.two (CutsOk.two (CutsOk.two (CutsOk.leaf _) (CutsOk.two (CutsOk.cut (g := B_slices_insertionSortOrdered_uint64_L2) (by kernel_rfl) (ct_slices_insertionSortOrdered_uint64_L2)) (CutsOk.leaf _))) (CutsOk.leaf _)) (CutsOk.leaf _))) (by intro k v; kernel_rfl)
theorem sd_slices_insertionSortOrdered_uint64 : FnSound Try.prog gl 53 sg_slices_insertionSortOrdered_uint64 :=
  fn_printed (G := gs_slices_insertionSortOrdered_uint64) (A := (.two .leaf (.two (.cut 1) .leaf))) (cxo_slices_insertionSortOrdered_uint64) follows Try.func53 (by kernel_rfl) (by kernel_rfl) (by kernel_rfl) (by kernel_rfl) (by kernel_rfl) (CutsOk.two (CutsOk.leaf _) (CutsOk.two (CutsOk.cut (g := B_slices_insertionSortOrdered_uint64_L1) (by kernel_rfl) (ct_slices_insertionSortOrdered_uint64_L1)) (CutsOk.leaf _))) (by intro v; kernel_rfl)
def sg_slices_siftDownOrdered_uint64 : Sig := mkSig [(.own 0), (.hole (.int .i64)), (.hole (.int .i64)), (.hole (.int .i64))] [(.vec (.int .u64))] [] [(.vec (.int .u64))] (fun p => slices_siftDownOrdered_uint64 p.1.2.1 p.1.2.2.1 p.1.2.2.2.1 p.2.1)
theorem fk_slices_siftDownOrdered_uint64 : FnOk Try.prog 63 := ⟨Try.f63, Try.func63, by kernel_rfl, by kernel_rfl⟩
def cx_slices_siftDownOrdered_uint64 : Cx := ⟨tys, lk [(29 + 100000 * 0, sg_cmp_Less_uint64)], 76, 1, [], gl, []⟩
theorem cxo_slices_siftDownOrdered_uint64 : CxOk Try.prog (cx_slices_siftDownOrdered_uint64) := ⟨tys_ok, FnsAll.cons 0 rfl fk_cmp_Less_uint64 sd_cmp_Less_uint64 (FnsAll.nil)⟩
abbrev K0_slices_siftDownOrdered_uint64_J2 : List (Nat × Ty) := [(2, (.int .i64)), (3, (.int .i64))]
abbrev TM_slices_siftDownOrdered_uint64_J2 : Tm := ⟨[(0, (.own 0)), (9, (.hole (.int .i64)))], [(.vec (.int .u64))]⟩
abbrev UO_slices_siftDownOrdered_uint64_J2 : Outs := (.one .normal ⟨[(0, (.own 0)), (9, (.hole (.int .i64)))], [(.vec (.int .u64))]⟩)
def B_slices_siftDownOrdered_uint64_J2 : Blk := frBlk 1 [2, 3, 8] K0_slices_siftDownOrdered_uint64_J2 TM_slices_siftDownOrdered_uint64_J2 UO_slices_siftDownOrdered_uint64_J2 (fun k v => slices_siftDownOrdered_uint64_J2 k.1 k.2.1 v)
abbrev K0_slices_siftDownOrdered_uint64_L1 : List (Nat × Ty) := [(2, (.int .i64)), (3, (.int .i64))]
abbrev TM_slices_siftDownOrdered_uint64_L1 : Tm := ⟨[(0, (.own 0)), (8, (.hole (.int .i64)))], [(.vec (.int .u64))]⟩
abbrev UO_slices_siftDownOrdered_uint64_L1 : Outs := (.more (.exit 0) ⟨[], [(.vec (.int .u64))]⟩ (.one .ret ⟨[], [(.vec (.int .u64))]⟩))
def B_slices_siftDownOrdered_uint64_L1 : Blk := frBlk 1 [2, 3] K0_slices_siftDownOrdered_uint64_L1 TM_slices_siftDownOrdered_uint64_L1 UO_slices_siftDownOrdered_uint64_L1 (fun k => loopV (fun v => slices_siftDownOrdered_uint64_L1 k.1 k.2.1 v))
def gs_slices_siftDownOrdered_uint64 : Nat → Option Blk := lk [(2, B_slices_siftDownOrdered_uint64_J2), (1, B_slices_siftDownOrdered_uint64_L1)]
theorem ct_slices_siftDownOrdered_uint64_J2 : CodeSound Try.prog ((cx_slices_siftDownOrdered_uint64).fr [2, 3]) (subL (subR (subR (subL (subL (subL (subR (bodyOf Try.f63)))))))) (B_slices_siftDownOrdered_uint64_J2).D :=
  join_sound (G := gs_slices_siftDownOrdered_uint64) (A := .leaf) (T0 := K0_slices_siftDownOrdered_uint64_J2) (T := TM_slices_siftDownOrdered_uint64_J2) (U := UO_slices_siftDownOrdered_uint64_J2) (F := (fun k v => slices_siftDownOrdered_uint64_J2 k.1 k.2.1 v)) ((cxo_slices_siftDownOrdered_uint64).fr [2, 3]) follows (by kernel_rfl) (CutsOk.leaf _) (by intro k v; kernel_rfl)
theorem ct_slices_siftDownOrdered_uint64_L1 : CodeSound Try.prog (cx_slices_siftDownOrdered_uint64) (subL (subR (bodyOf Try.f63))) (B_slices_siftDownOrdered_uint64_L1).D :=
  loop_printed (G := gs_slices_siftDownOrdered_uint64) (A := (.two (.two .leaf (.two .leaf (.two (.cut 2) .leaf))) .leaf)) (T0 := K0_slices_siftDownOrdered_uint64_L1) (T := TM_slices_siftDownOrdered_uint64_L1) (U := UO_slices_siftDownOrdered_uint64_L1) (step := (fun k v => slices_siftDownOrdered_uint64_L1 k.1 k.2.1 v)) (cxo_slices_siftDownOrdered_uint64) follows (by kernel_rfl) (by kernel_rfl) (CutsOk.two (CutsOk.two (CutsOk.leaf _) (CutsOk.two (CutsOk.leaf _) (CutsOk.two (CutsOk.cut (g := B_slices_siftDownOrdered_uint64_J2) (by kernel_rfl) (ct_slices_siftDownOrdered_uint64_J2)) (CutsOk.leaf _)))) (CutsOk.leaf _)) (by intro k v; kernel_rfl)
theorem sd_slices_siftDownOrdered_uint64 : FnSound Try.prog gl 63 sg_slices_siftDownOrdered_uint64 :=
  fn_printed (G := gs_slices_siftDownOrdered_uint64) (A := (.two .leaf (.two (.cut 1) .leaf))) (cxo_slices_siftDownOrdered_uint64) follows Try.func63 (by kernel_rfl) (by kernel_rfl) (by kernel_rfl) (by kernel_rfl) (by kernel_rfl) (CutsOk.two (CutsOk.leaf _) (CutsOk.two (CutsOk.cut (g := B_slices_siftDownOrdered_uint64_L1) (by kernel_rfl) (ct_slices_siftDownOrdered_uint64_L1)) (CutsOk.leaf _))) (by intro v; kernel_rfl)
def sg_slices_heapSortOrdered_uint64 : Sig := mkSig [(.own 0), (.hole (.int .i64)), (.hole (.int .i64))] [(.vec (.int .u64))] [] [(.vec (.int .u64))] (fun p => slices_heapSortOrdered_uint64 p.1.2.1 p.1.2.2.1 p.2.1)
theorem fk_slices_heapSortOrdered_uint64 : FnOk Try.prog 54 := ⟨Try.f54, Try.func54, by kernel_rfl, by kernel_rfl⟩
def cx_slices_heapSortOrdered_uint64 : Cx := ⟨tys, lk [(63 + 100000 * 0, sg_slices_siftDownOrdered_uint64)], 56, 1, [], gl, []⟩
theorem cxo_slices_heapSortOrdered_uint64 : CxOk Try.prog (cx_slices_heapSortOrdered_uint64) := ⟨tys_ok, FnsAll.cons 0 rfl fk_slices_siftDownOrdered_uint64 sd_slices_siftDownOrdered_uint64 (FnsAll.nil)⟩
abbrev K0_slices_heapSortOrdered_uint64_L1 : List (Nat × Ty) := [(6, (.int .i64)), (8, (.int .i64))]
abbrev TM_slices_heapSortOrdered_uint64_L1 : Tm := ⟨[(0, (.own 0)), (9, (.hole (.int .i64)))], [(.vec (.int .u64))]⟩
abbrev UO_slices_heapSortOrdered_uint64_L1 : Outs := (.one (.exit 0) ⟨[(0, (.own 0))], [(.vec (.int .u64))]⟩)
def B_slices_heapSortOrdered_uint64_L1 : Blk := frBlk 1 [6, 7, 8] K0_slices_heapSortOrdered_uint64_L1 TM_slices_heapSortOrdered_uint64_L1 UO_slices_heapSortOrdered_uint64_L1 (fun k => loopV (fun v => slices_heapSortOrdered_uint64_L1 k.1 k.2.1 v))
abbrev K0_slices_heapSortOrdered_uint64_L2 : List (Nat × Ty) := [(6, (.int .i64)), (7, (.int .i64))]
abbrev TM_slices_heapSortOrdered_uint64_L2 : Tm := ⟨[(0, (.own 0)), (10, (.hole (.int .i64)))], [(.vec (.int .u64))]⟩
abbrev UO_slices_heapSortOrdered_uint64_L2 : Outs := (.one (.exit 2) ⟨[], [(.vec (.int .u64))]⟩)
def B_slices_heapSortOrdered_uint64_L2 : Blk := frBlk 1 [6, 7] K0_slices_heapSortOrdered_uint64_L2 TM_slices_heapSortOrdered_uint64_L2 UO_slices_heapSortOrdered_uint64_L2 (fun k => loopV (fun v => slices_heapSortOrdered_uint64_L2 k.1 k.2.1 v))
def gs_slices_heapSortOrdered_uint64 : Nat → Option Blk := lk [(1, B_slices_heapSortOrdered_uint64_L1), (2, B_slices_heapSortOrdered_uint64_L2)]
theorem ct_slices_heapSortOrdered_uint64_L1 : CodeSound Try.prog (cx_slices_heapSortOrdered_uint64) (subL (subR (subL (subR (subR (subR (bodyOf Try.f54))))))) (B_slices_heapSortOrdered_uint64_L1).D :=
  loop_printed (G := gs_slices_heapSortOrdered_uint64) (A := .leaf) (T0 := K0_slices_heapSortOrdered_uint64_L1) (T := TM_slices_heapSortOrdered_uint64_L1) (U := UO_slices_heapSortOrdered_uint64_L1) (step := (fun k v => slices_heapSortOrdered_uint64_L1 k.1 k.2.1 v)) (cxo_slices_heapSortOrdered_uint64) follows (by kernel_rfl) (by kernel_rfl) (CutsOk.leaf _) (by intro k v; kernel_rfl)
theorem ct_slices_heapSortOrdered_uint64_L2 : CodeSound Try.prog (cx_slices_heapSortOrdered_uint64) (subL (subR (subR (subR (subR (subR (bodyOf Try.f54))))))) (B_slices_heapSortOrdered_uint64_L2).D :=
  loop_printed (G := gs_slices_heapSortOrdered_uint64) (A := .leaf) (T0 := K0_slices_heapSortOrdered_uint64_L2) (T := TM_slices_heapSortOrdered_uint64_L2) (U := UO_slices_heapSortOrdered_uint64_L2) (step := (fun k v => slices_heapSortOrdered_uint64_L2 k.1 k.2.1 v)) (cxo_slices_heapSortOrdered_uint64) follows (by kernel_rfl) (by kernel_rfl) (CutsOk.leaf _) (by intro k v; kernel_rfl)
theorem sd_slices_heapSortOrdered_uint64 : FnSound Try.prog gl 54 sg_slices_heapSortOrdered_uint64 :=
  fn_printed (G := gs_slices_heapSortOrdered_uint64) (A := (.two .leaf (.two .leaf (.two .leaf (.two (.two .leaf (.two (.cut 1) .leaf)) (.two .leaf (.two (.cut 2) .leaf))))))) (cxo_slices_heapSortOrdered_uint64) follows Try.func54 (by kernel_rfl) (by kernel_rfl) (by kernel_rfl) (by kernel_rfl) (by kernel_rfl) (CutsOk.two (CutsOk.leaf _) (CutsOk.two (CutsOk.leaf _) (CutsOk.two (CutsOk.leaf _) (CutsOk.two (CutsOk.two (CutsOk.leaf _) (CutsOk.two (CutsOk.cut (g := B_slices_heapSortOrdered_uint64_L1) (by kernel_rfl) (ct_slices_heapSortOrdered_uint64_L1)) (CutsOk.leaf _))) (CutsOk.two (CutsOk.leaf _) (CutsOk.two (CutsOk.cut (g := B_slices_heapSortOrdered_uint64_L2) (by kernel_rfl) (ct_slices_heapSortOrdered_uint64_L2)) (CutsOk.leaf _))))))) (by intro v; kernel_rfl)
def sg_slices_nextPowerOfTwo : Sig := mkSig [(.hole (.int .i64))] [] [(.hole (.int .u64))] [] (fun p => slices_nextPowerOfTwo p.1.1)
theorem fk_slices_nextPowerOfTwo : FnOk Try.prog 64 := ⟨Try.f64, Try.func64, by kernel_rfl, by kernel_rfl⟩
def cx_slices_nextPowerOfTwo : Cx := ⟨tys, lk [(51 + 100000 * 0, sg_math_bits_Len)], 7, 0, [], gl, []⟩
theorem cxo_slices_nextPowerOfTwo : CxOk Try.prog (cx_slices_nextPowerOfTwo) := ⟨tys_ok, FnsAll.cons 0 rfl fk_math_bits_Len sd_math_bits_Len (FnsAll.nil)⟩
def gs_slices_nextPowerOfTwo : Nat → Option Blk := lk []
theorem sd_slices_nextPowerOfTwo : FnSound Try.prog gl 64 sg_slices_nextPowerOfTwo :=
  fn_printed (G := gs_slices_nextPowerOfTwo) (A := .leaf) (cxo_slices_nextPowerOfTwo) follows Try.func64 (by kernel_rfl) (by kernel_rfl) (by kernel_rfl) (by kernel_rfl) (by kernel_rfl) (CutsOk.leaf _) (by intro v; kernel_rfl)
def sg_slices_xorshift_Next : Sig := mkSig [(.ptr 0 [])] [(.box (.int .u64) (.hole (.int .u64)))] [(.hole (.int .u64))] [(.box (.int .u64) (.hole (.int .u64)))] (fun p => slices_xorshift_Next p.2.1)
theorem fk_slices_xorshift_Next : FnOk Try.prog 65 := ⟨Try.f65, Try.func65, by kernel_rfl, by kernel_rfl⟩
def cx_slices_xorshift_Next : Cx := ⟨tys, lk [], 33, 1, [], gl, []⟩
theorem cxo_slices_xorshift_Next : CxOk Try.prog (cx_slices_xorshift_Next) := ⟨tys_ok, FnsAll.nil⟩
def gs_slices_xorshift_Next : Nat → Option Blk := lk []
theorem sd_slices_xorshift_Next : FnSound Try.prog gl 65 sg_slices_xorshift_Next :=
  fn_printed (G := gs_slices_xorshift_Next) (A := .leaf) (cxo_slices_xorshift_Next) follows Try.func65 (by kernel_rfl) (by kernel_rfl) (by kernel_rfl) (by kernel_rfl) (by kernel_rfl) (CutsOk.leaf _) (by intro v; kernel_rfl)
def sg_slices_breakPatternsOrdered_uint64 : Sig := mkSig [(.own 0), (.hole (.int .i64)), (.hole (.int .i64))] [(.vec (.int .u64))] [] [(.vec (.int .u64))] (fun p => slices_breakPatternsOrdered_uint64 p.1.2.1 p.1.2.2.1 p.2.1)
theorem fk_slices_breakPatternsOrdered_uint64 : FnOk Try.prog 55 := ⟨Try.f55, Try.func55, by kernel_rfl, by kernel_rfl⟩
def cx_slices_breakPatternsOrdered_uint64 : Cx := ⟨tys, lk [(64 + 100000 * 0, sg_slices_nextPowerOfTwo), (65 + 100000 * 0, sg_slices_xorshift_Next)], 65, 1, [], gl, []⟩
theorem cxo_slices_breakPatternsOrdered_uint64 : CxOk Try.prog (cx_slices_breakPatternsOrdered_uint64) := ⟨tys_ok, FnsAll.cons 0 rfl fk_slices_nextPowerOfTwo sd_slices_nextPowerOfTwo (FnsAll.cons 0 rfl fk_slices_xorshift_Next sd_slices_xorshift_Next (FnsAll.nil))⟩
abbrev K0_slices_breakPatternsOrdered_uint64_J2 : List (Nat × Ty) := [(6, (.int .i64))]
abbrev TM_slices_breakPatternsOrdered_uint64_J2 : Tm := ⟨[(0, (.own 0)), (7, (.ptr 1 [])), (10, (.hole (.int .i64)))], [(.vec (.int .u64)), (.box (.int .u64) (.hole (.int .u64)))]⟩
abbrev UO_slices_breakPatternsOrdered_uint64_J2 : Outs := (.one .normal ⟨[(0, (.own 0)), (7, (.ptr 1 [])), (10, (.hole (.int .i64)))], [(.vec (.int .u64)), (.box (.int .u64) (.hole (.int .u64)))]⟩)
def B_slices_breakPatternsOrdered_uint64_J2 : Blk := frBlk 1 [1, 6, 8, 9] K0_slices_breakPatternsOrdered_uint64_J2 TM_slices_breakPatternsOrdered_uint64_J2 UO_slices_breakPatternsOrdered_uint64_J2 (fun k v => slices_breakPatternsOrdered_uint64_J2 k.1 v)
abbrev K0_slices_breakPatternsOrdered_uint64_L1 : List (Nat × Ty) := [(1, (.int .i64)), (6, (.int .i64)), (8, (.int .u64))]
abbrev TM_slices_breakPatternsOrdered_uint64_L1 : Tm := ⟨[(0, (.own 0)), (7, (.ptr 1 [])), (9, (.hole (.int .i64)))], [(.vec (.int .u64)), (.box (.int .u64) (.hole (.int .u64)))]⟩
abbrev UO_slices_breakPatternsOrdered_uint64_L1 : Outs := (.one (.exit 0) ⟨[], [(.vec (.int .u64))]⟩)
def B_slices_breakPatternsOrdered_uint64_L1 : Blk := frBlk 1 [1, 6, 8] K0_slices_breakPatternsOrdered_uint64_L1 TM_slices_breakPatternsOrdered_uint64_L1 UO_slices_breakPatternsOrdered_uint64_L1 (fun k => loopV (fun v => slices_breakPatternsOrdered_uint64_L1 k.1 k.2.1 k.2.2.1 v))
def gs_slices_breakPatternsOrdered_uint64 : Nat → Option Blk := lk [(2, B_slices_breakPatternsOrdered_uint64_J2), (1, B_slices_breakPatternsOrdered_uint64_L1)]
theorem ct_slices_breakPatternsOrdered_uint64_J2 : CodeSound Try.prog ((cx_slices_breakPatternsOrdered_uint64).fr [1, 6, 8]) (subL (subR (subL (subL (subR (subL (subL (subR (subR (subR (subL (subR (subR (bodyOf Try.f55)))))))))))))) (B_slices_breakPatternsOrdered_uint64_J2).D :=
  join_sound (G := gs_slices_breakPatternsOrdered_uint64) (A := .leaf) (T0 := K0_slices_breakPatternsOrdered_uint64_J2) (T := TM_slices_breakPatternsOrdered_uint64_J2) (U := UO_slices_breakPatternsOrdered_uint64_J2) (F := (fun k v => slices_breakPatternsOrdered_uint64_J2 k.1 v)) ((cxo_slices_breakPatternsOrdered_uint64).fr [1, 6, 8]) follows (by kernel_rfl) (CutsOk.leaf _) (by intro k v; kernel_rfl)
theorem ct_slices_breakPatternsOrdered_uint64_L1 : CodeSound Try.prog (cx_slices_breakPatternsOrdered_uint64) (subL (subR (subR (subR (subL (subR (subR (bodyOf Try.f55)))))))) (B_slices_breakPatternsOrdered_uint64_L1).D :=
  loop_printed (G := gs_slices_breakPatternsOrdered_uint64) (A := (.two .leaf (.two (.two (.two .leaf (.two (.cut 2) .leaf)) .leaf) .leaf))) (T0 := K0_slices_breakPatternsOrdered_uint64_L1) (T := TM_slices_breakPatternsOrdered_uint64_L1) (U := UO_slices_breakPatternsOrdered_uint64_L1) (step := (fun k v => slices_breakPatternsOrdered_uint64_L1 k.1 k.2.1 k.2.2.1 v)) (cxo_slices_breakPatternsOrdered_uint64) follows (by kernel_rfl) (by kernel_rfl) (CutsOk.two (CutsOk.leaf _) (CutsOk.two (CutsOk.two (CutsOk.two (CutsOk.leaf _) (CutsOk.two (CutsOk.cut (g := B_slices_breakPatternsOrdered_uint64_J2) (by kernel_rfl) (ct_slices_breakPatternsOrdered_uint64_J2)) (CutsOk.leaf _))) (CutsOk.leaf _)) (CutsOk.leaf _))) (by intro k v; kernel_rfl)
theorem sd_slices_breakPatternsOrdered_uint64 : FnSound Try.prog gl 55 sg_slices_breakPatternsOrdered_uint64 :=
  fn_printed (G := gs_slices_breakPatternsOrdered_uint64) (A := (.two .leaf (.two .leaf (.two (.two .leaf (.two .leaf (.two .leaf (.two (.cut 1) .leaf)))) .leaf)))) (cxo_slices_breakPatternsOrdered_uint64) follows Try.func55 (by kernel_rfl) (by kernel_rfl) (by kernel_rfl) (by kernel_rfl) (by kernel_rfl) (CutsOk.two (CutsOk.leaf _) (CutsOk.two (CutsOk.leaf _) (CutsOk.two (CutsOk.two (CutsOk.leaf _) (CutsOk.two (CutsOk.leaf _) (CutsOk.two (CutsOk.leaf _) (CutsOk.two (CutsOk.cut (g := B_slices_breakPatternsOrdered_uint64_L1) (by kernel_rfl) (ct_slices_breakPatternsOrdered_uint64_L1)) (CutsOk.leaf _))))) (CutsOk.leaf _)))) (by intro v; kernel_rfl)
def sg_slices_order2Ordered_uint64 : Sig := mkSig [(.hole (.slice (.int .u64))), (.hole (.int .i64)), (.hole (.int .i64)), (.ptr 0 [])] [(.box (.int .i64) (.hole (.int .i64)))] [(.hole (.int .i64)), (.hole (.int .i64))] [(.box (.int .i64) (.hole (.int .i64)))] (fun p => slices_order2Ordered_uint64 p.1.1 p.1.2.1 p.1.2.2.1 p.2.1)
theorem fk_slices_order2Ordered_uint64 : FnOk Try.prog 68 := ⟨Try.f68, Try.func68, by kernel_rfl, by kernel_rfl⟩
def cx_slices_order2Ordered_uint64 : Cx := ⟨tys, lk [(29 + 100000 * 0, sg_cmp_Less_uint64)], 28, 1, [], gl, []⟩
theorem cxo_slices_order2Ordered_uint64 : CxOk Try.prog (cx_slices_order2Ordered_uint64) := ⟨tys_ok, FnsAll.cons 0 rfl fk_cmp_Less_uint64 sd_cmp_Less_uint64 (FnsAll.nil)⟩
def gs_slices_order2Ordered_uint64 : Nat → Option Blk := lk []
theorem sd_slices_order2Ordered_uint64 : FnSound Try.prog gl 68 sg_slices_order2Ordered_uint64 :=
  fn_printed (G := gs_slices_order2Ordered_uint64) (A := .leaf) (cxo_slices_order2Ordered_uint64) follows Try.func68 (by kernel_rfl) (by kernel_rfl) (by kernel_rfl) (by kernel_rfl) (by kernel_rfl) (CutsOk.leaf _) (by intro v; kernel_rfl)
def sg_slices_medianOrdered_uint64 : Sig := mkSig [(.hole (.slice (.int .u64))), (.hole (.int .i64)), (.hole (.int .i64)), (.hole (.int .i64)), (.ptr 0 [])] [(.box (.int .i64) (.hole (.int .i64)))] [(.hole (.int .i64))] [(.box (.int .i64) (.hole (.int .i64)))] (fun p => slices_medianOrdered_uint64 p.1.1 p.1.2.1 p.1.2.2.1 p.1.2.2.2.1 p.2.1)
theorem fk_slices_medianOrdered_uint64 : FnOk Try.prog 67 := ⟨Try.f67, Try.func67, by kernel_rfl, by kernel_rfl⟩
def cx_slices_medianOrdered_uint64 : Cx := ⟨tys, lk [(68 + 100000 * 0, sg_slices_order2Ordered_uint64)], 36, 1, [], gl, []⟩
theorem cxo_slices_medianOrdered_uint64 : CxOk Try.prog (cx_slices_medianOrdered_uint64) := ⟨tys_ok, FnsAll.cons 0 rfl fk_slices_order2Ordered_uint64 sd_slices_order2Ordered_uint64 (FnsAll.nil)⟩
def gs_slices_medianOrdered_uint64 : Nat → Option Blk := lk []
theorem sd_slices_medianOrdered_uint64 : FnSound Try.prog gl 67 sg_slices_medianOrdered_uint64 :=
  fn_printed (G := gs_slices_medianOrdered_uint64) (A := .leaf) (cxo_slices_medianOrdered_uint64) follows Try.func67 (by kernel_rfl) (by kernel_rfl) (by kernel_rfl) (by kernel_rfl) (by kernel_rfl) (CutsOk.leaf _) (by intro v; kernel_rfl)
def sg_slices_medianAdjacentOrdered_uint64 : Sig := mkSig [(.hole (.slice (.int .u64))), (.hole (.int .i64)), (.ptr 0 [])] [(.box (.int .i64) (.hole (.int .i64)))] [(.hole (.int .i64))] [(.box (.int .i64) (.hole (.int .i64)))] (fun p => slices_medianAdjacentOrdered_uint64 p.1.1 p.1.2.1 p.2.1)
theorem fk_slices_medianAdjacentOrdered_uint64 : FnOk Try.prog 66 := ⟨Try.f66, Try.func66, by kernel_rfl, by kernel_rfl⟩
def cx_slices_medianAdjacentOrdered_uint64 : Cx := ⟨tys, lk [(67 + 100000 * 0, sg_slices_medianOrdered_uint64)], 15, 1, [], gl, []⟩
theorem cxo_slices_medianAdjacentOrdered_uint64 : CxOk Try.prog (cx_slices_medianAdjacentOrdered_uint64) := ⟨tys_ok, FnsAll.cons 0 rfl fk_slices_medianOrdered_uint64 sd_slices_medianOrdered_uint64 (FnsAll.nil)⟩
def gs_slices_medianAdjacentOrdered_uint64 : Nat → Option Blk := lk []
theorem sd_slices_medianAdjacentOrdered_uint64 : FnSound Try.prog gl 66 sg_slices_medianAdjacentOrdered_uint64 :=
  fn_printed (G := gs_slices_medianAdjacentOrdered_uint64) (A := .leaf) (cxo_slices_medianAdjacentOrdered_uint64) follows Try.func66 (by kernel_rfl) (by kernel_rfl) (by kernel_rfl) (by kernel_rfl) (by kernel_rfl) (CutsOk.leaf _) (by intro v; kernel_rfl)
def sg_slices_choosePivotOrdered_uint64 : Sig := mkSig [(.hole (.slice (.int .u64))), (.hole (.int .i64)), (.hole (.int .i64))] [] [(.hole (.int .i64)), (.hole (.int .i64))] [] (fun p => slices_choosePivotOrdered_uint64 p.1.1 p.1.2.1 p.1.2.2.1)
theorem fk_slices_choosePivotOrdered_uint64 : FnOk Try.prog 56 := ⟨Try.f56, Try.func56, by kernel_rfl, by kernel_rfl⟩
def cx_slices_choosePivotOrdered_uint64 : Cx := ⟨tys, lk [(66 + 100000 * 0, sg_slices_medianAdjacentOrdered_uint64), (67 + 100000 * 0, sg_slices_medianOrdered_uint64)], 57, 0, [], gl, []⟩
theorem cxo_slices_choosePivotOrdered_uint64 : CxOk Try.prog (cx_slices_choosePivotOrdered_uint64) := ⟨tys_ok, FnsAll.cons 0 rfl fk_slices_medianAdjacentOrdered_uint64 sd_slices_medianAdjacentOrdered_uint64 (FnsAll.cons 0 rfl fk_slices_medianOrdered_uint64 sd_slices_medianOrdered_uint64 (FnsAll.nil))⟩
abbrev K0_slices_choosePivotOrdered_uint64_J2 : List (Nat × Ty) := [(0, (.slice (.int .u64))), (8, (.int .i64))]
abbrev TM_slices_choosePivotOrdered_uint64_J2 : Tm := ⟨[(9, (.ptr 0 [])), (10, (.hole (.int .i64))), (11, (.hole (.int .i64))), (12, (.hole (.int .i64)))], [(.box (.int .i64) (.hole (.int .i64)))]⟩
abbrev UO_slices_choosePivotOrdered_uint64_J2 : Outs := (.one .normal ⟨[(9, (.ptr 0 [])), (10, (.hole (.int .i64))), (11, (.hole (.int .i64))), (12, (.hole (.int .i64)))], [(.box (.int .i64) (.hole (.int .i64)))]⟩)
def B_slices_choosePivotOrdered_uint64_J2 : Blk := frBlk 0 [0, 8] K0_slices_choosePivotOrdered_uint64_J2 TM_slices_choosePivotOrdered_uint64_J2 UO_slices_choosePivotOrdered_uint64_J2 (fun k v => slices_choosePivotOrdered_uint64_J2 k.1 k.2.1 v)
abbrev K0_slices_choosePivotOrdered_uint64_J1 : List (Nat × Ty) := [(0, (.slice (.int .u64))), (8, (.int .i64))]
abbrev TM_slices_choosePivotOrdered_uint64_J1 : Tm := ⟨[(9, (.ptr 0 [])), (10, (.hole (.int .i64))), (11, (.hole (.int .i64))), (12, (.hole (.int .i64)))], [(.box (.int .i64) (.hole (.int .i64)))]⟩
abbrev UO_slices_choosePivotOrdered_uint64_J1 : Outs := (.one .normal ⟨[(9, (.ptr 0 [])), (11, (.hole (.int .i64)))], [(.box (.int .i64) (.hole (.int .i64)))]⟩)
def B_slices_choosePivotOrdered_uint64_J1 : Blk := frBlk 0 [0, 6, 7, 8] K0_slices_choosePivotOrdered_uint64_J1 TM_slices_choosePivotOrdered_uint64_J1 UO_slices_choosePivotOrdered_uint64_J1 (fun k v => slices_choosePivotOrdered_uint64_J1 k.1 k.2.1 v)
def gs_slices_choosePivotOrdered_uint64 : Nat → Option Blk := lk [(2, B_slices_choosePivotOrdered_uint64_J2), (1, B_slices_choosePivotOrdered_uint64_J1)]
theorem ct_slices_choosePivotOrdered_uint64_J2 : CodeSound Try.prog ((cx_slices_choosePivotOrdered_uint64).fr [0, 6, 7, 8]) (subL (subL (subR (subL (subR (subR (subR (subR (subR (subR (bodyOf Try.f56))))))))))) (B_slices_choosePivotOrdered_uint64_J2).D :=
  join_sound (G := gs_slices_choosePivotOrdered_uint64) (A := .leaf) (T0 := K0_slices_choosePivotOrdered_uint64_J2) (T := TM_slices_choosePivotOrdered_uint64_J2) (U := UO_slices_choosePivotOrdered_uint64_J2) (F := (fun k v => slices_choosePivotOrdered_uint64_J2 k.1 k.2.1 v)) ((cxo_slices_choosePivotOrdered_uint64).fr [0, 6, 7, 8]) follows (by kernel_rfl) (CutsOk.leaf _) (by intro k v; kernel_rfl)
theorem ct_slices_choosePivotOrdered_uint64_J1 : CodeSound Try.prog (cx_slices_choosePivotOrdered_uint64) (subL (subR (subR (subR (subR (subR (subR (bodyOf Try.f56)))))))) (B_slices_choosePivotOrdered_uint64_J1).D :=
  join_sound (G := gs_slices_choosePivotOrdered_uint64) (A := (.two .leaf (.two (.two (.cut 2) .leaf) .leaf))) (T0 := K0_slices_choosePivotOrdered_uint64_J1) (T := TM_slices_choosePivotOrdered_uint64_J1) (U := UO_slices_choosePivotOrdered_uint64_J1) (F := (fun k v => slices_choosePivotOrdered_uint64_J1 k.1 k.2.1 v)) (cxo_slices_choosePivotOrdered_uint64) follows (by kernel_rfl) (CutsOk.two (CutsOk.leaf _) (CutsOk.two (CutsOk.two (CutsOk.cut (g := B_slices_choosePivotOrdered_uint64_J2) (by kernel_rfl) (ct_slices_choosePivotOrdered_uint64_J2)) (CutsOk.leaf _)) (CutsOk.leaf _))) (by intro k v; kernel_rfl)
theorem sd_slices_choosePivotOrdered_uint64 : FnSound Try.prog gl 56 sg_slices_choosePivotOrdered_uint64 :=
  fn_printed (G := gs_slices_choosePivotOrdered_uint64) (A := (.two .leaf (.two .leaf (.two .leaf (.two .leaf (.two .leaf (.two .leaf (.two (.cut 1) .leaf)))))))) (cxo_slices_choosePivotOrdered_uint64) follows Try.func56 (by kernel_rfl) (by kernel_rfl) (by kernel_rfl) (by kernel_rfl) (by kernel_rfl) (CutsOk.two (CutsOk.leaf _) (CutsOk.two (CutsOk.leaf _) (CutsOk.two (CutsOk.leaf _) (CutsOk.two (CutsOk.leaf _) (CutsOk.two (CutsOk.leaf _) (CutsOk.two (CutsOk.leaf _) (CutsOk.two (CutsOk.cut (g := B_slices_choosePivotOrdered_uint64_J1) (by kernel_rfl) (ct_slices_choosePivotOrdered_uint64_J1)) (CutsOk.leaf _)))))))) (by intro v; kernel_rfl)
def sg_slices_reverseRangeOrdered_uint64 : Sig := mkSig [(.own 0), (.hole (.int .i64)), (.hole (.int .i64))] [(.vec (.int .u64))] [] [(.vec (.int .u64))] (fun p => slices_reverseRangeOrdered_uint64 p.1.2.1 p.1.2.2.1 p.2.1)
theorem fk_slices_reverseRangeOrdered_uint64 : FnOk Try.prog 57 := ⟨Try.f57, Try.func57, by kernel_rfl, by kernel_rfl⟩
def cx_slices_reverseRangeOrdered_uint64 : Cx := ⟨tys, lk [], 32, 1, [], gl, []⟩
theorem cxo_slices_reverseRangeOrdered_uint64 : CxOk Try.prog (cx_slices_reverseRangeOrdered_uint64) := ⟨tys_ok, FnsAll.nil⟩
abbrev K0_slices_reverseRangeOrdered_uint64_L1 : List (Nat × Ty) := []
abbrev TM_slices_reverseRangeOrdered_uint64_L1 : Tm := ⟨[(0, (.own 0)), (6, (.hole (.int .i64))), (7, (.hole (.int .i64)))], [(.vec (.int .u64))]⟩
abbrev UO_slices_reverseRangeOrdered_uint64_L1 : Outs := (.one (.exit 0) ⟨[], [(.vec (.int .u64))]⟩)
def B_slices_reverseRangeOrdered_uint64_L1 : Blk := frBlk 1 [] K0_slices_reverseRangeOrdered_uint64_L1 TM_slices_reverseRangeOrdered_uint64_L1 UO_slices_reverseRangeOrdered_uint64_L1 (fun k => loopV (fun v => slices_reverseRangeOrdered_uint64_L1 v))
def gs_slices_reverseRangeOrdered_uint64 : Nat → Option Blk := lk [(1, B_slices_reverseRangeOrdered_uint64_L1)]
theorem ct_slices_reverseRangeOrdered_uint64_L1 : CodeSound Try.prog (cx_slices_reverseRangeOrdered_uint64) (subL (subR (subR (bodyOf Try.f57)))) (B_slices_reverseRangeOrdered_uint64_L1).D :=
  loop_printed (G := gs_slices_reverseRangeOrdered_uint64) (A := .leaf) (T0 := K0_slices_reverseRangeOrdered_uint64_L1) (T := TM_slices_reverseRangeOrdered_uint64_L1) (U := UO_slices_reverseRangeOrdered_uint64_L1) (step := (fun k v => slices_reverseRangeOrdered_uint64_L1 v)) (cxo_slices_reverseRangeOrdered_uint64) follows (by kernel_rfl) (by kernel_rfl) (CutsOk.leaf _) (by intro k v; kernel_rfl)
theorem sd_slices_reverseRangeOrdered_uint64 : FnSound Try.prog gl 57 sg_slices_reverseRangeOrdered_uint64 :=
  fn_printed (G := gs_slices_reverseRangeOrdered_uint64) (A := (.two .leaf (.two .leaf (.two (.cut 1) .leaf)))) (cxo_slices_reverseRangeOrdered_uint64) follows Try.func57 (by kernel_rfl) (by kernel_rfl) (by kernel_rfl) (by kernel_rfl) (by kernel_rfl) (CutsOk.two (CutsOk.leaf _) (CutsOk.two (CutsOk.leaf _) (CutsOk.two (CutsOk.cut (g := B_slices_reverseRangeOrdered_uint64_L1) (by kernel_rfl) (ct_slices_reverseRangeOrdered_uint64_L1)) (CutsOk.leaf _)))) (by intro v; kernel_rfl)
def sg_slices_partialInsertionSortOrdered_uint64 : Sig := mkSig [(.own 0), (.hole (.int .i64)), (.hole (.int .i64))] [(.vec (.int .u64))] [(.hole .bool)] [(.vec (.int .u64))] (fun p => slices_partialInsertionSortOrdered_uint64 p.1.2.1 p.1.2.2.1 p.2.1)
theorem fk_slices_partialInsertionSortOrdered_uint64 : FnOk Try.prog 58 := ⟨Try.f58, Try.func58, by kernel_rfl, by kernel_rfl⟩
def cx_slices_partialInsertionSortOrdered_uint64 : Cx := ⟨tys, lk [(29 + 100000 * 0, sg_cmp_Less_uint64)], 133, 1, [], gl, []⟩
theorem cxo_slices_partialInsertionSortOrdered_uint64 : CxOk Try.prog (cx_slices_partialInsertionSortOrdered_uint64) := ⟨tys_ok, FnsAll.cons 0 rfl fk_cmp_Less_uint64 sd_cmp_Less_uint64 (FnsAll.nil)⟩
abbrev K0_slices_partialInsertionSortOrdered_uint64_L4 : List (Nat × Ty) := []
abbrev TM_slices_partialInsertionSortOrdered_uint64_L4 : Tm := ⟨[(0, (.own 0)), (9, (.hole (.int .i64)))], [(.vec (.int .u64))]⟩
abbrev UO_slices_partialInsertionSortOrdered_uint64_L4 : Outs := (.one (.exit 4) ⟨[(0, (.own 0))], [(.vec (.int .u64))]⟩)
def B_slices_partialInsertionSortOrdered_uint64_L4 : Blk := frBlk 1 [1, 7] K0_slices_partialInsertionSortOrdered_uint64_L4 TM_slices_partialInsertionSortOrdered_uint64_L4 UO_slices_partialInsertionSortOrdered_uint64_L4 (fun k => loopV (fun v => slices_partialInsertionSortOrdered_uint64_L4 v))
abbrev K0_slices_partialInsertionSortOrdered_uint64_J3 : List (Nat × Ty) := [(1, (.int .i64)), (7, (.int .i64))]
abbrev TM_slices_partialInsertionSortOrdered_uint64_J3 : Tm := ⟨[(0, (.own 0))], [(.vec (.int .u64))]⟩
abbrev UO_slices_partialInsertionSortOrdered_uint64_J3 : Outs := (.one .normal ⟨[(0, (.own 0))], [(.vec (.int .u64))]⟩)
def B_slices_partialInsertionSortOrdered_uint64_J3 : Blk := frBlk 1 [1, 2, 7, 8] K0_slices_partialInsertionSortOrdered_uint64_J3 TM_slices_partialInsertionSortOrdered_uint64_J3 UO_slices_partialInsertionSortOrdered_uint64_J3 (fun k v => slices_partialInsertionSortOrdered_uint64_J3 k.1 k.2.1 v)
abbrev K0_slices_partialInsertionSortOrdered_uint64_L2 : List (Nat × Ty) := [(2, (.int .i64))]
abbrev TM_slices_partialInsertionSortOrdered_uint64_L2 : Tm := ⟨[(0, (.own 0)), (7, (.hole (.int .i64)))], [(.vec (.int .u64))]⟩
abbrev UO_slices_partialInsertionSortOrdered_uint64_L2 : Outs := (.one (.exit 2) ⟨[(0, (.own 0)), (7, (.hole (.int .i64)))], [(.vec (.int .u64))]⟩)
def B_slices_partialInsertionSortOrdered_uint64_L2 : Blk := frBlk 1 [1, 2, 8] K0_slices_partialInsertionSortOrdered_uint64_L2 TM_slices_partialInsertionSortOrdered_uint64_L2 UO_slices_partialInsertionSortOrdered_uint64_L2 (fun k => loopV (fun v => slices_partialInsertionSortOrdered_uint64_L2 k.1 v))
abbrev K0_slices_partialInsertionSortOrdered_uint64_L5 : List (Nat × Ty) := [(2, (.int .i64))]
abbrev TM_slices_partialInsertionSortOrdered_uint64_L5 : Tm := ⟨[(0, (.own 0)), (10, (.hole (.int .i64)))], [(.vec (.int .u64))]⟩
abbrev UO_slices_partialInsertionSortOrdered_uint64_L5 : Outs := (.one (.exit 6) ⟨[(0, (.own 0))], [(.vec (.int .u64))]⟩)
def B_slices_partialInsertionSortOrdered_uint64_L5 : Blk := frBlk 1 [1, 2, 7, 8] K0_slices_partialInsertionSortOrdered_uint64_L5 TM_slices_partialInsertionSortOrdered_uint64_L5 UO_slices_partialInsertionSortOrdered_uint64_L5 (fun k => loopV (fun v => slices_partialInsertionSortOrdered_uint64_L5 k.1 v))
abbrev K0_slices_partialInsertionSortOrdered_uint64_L1 : List (Nat × Ty) := [(1, (.int .i64)), (2, (.int .i64))]
abbrev TM_slices_partialInsertionSortOrdered_uint64_L1 : Tm := ⟨[(0, (.own 0)), (7, (.hole (.int .i64))), (8, (.hole (.int .i64)))], [(.vec (.int .u64))]⟩
abbrev UO_slices_partialInsertionSortOrdered_uint64_L1 : Outs := (.more .ret ⟨[(6, (.hole .bool))], [(.vec (.int .u64))]⟩ (.one (.exit 0) ⟨[], [(.vec (.int .u64))]⟩))
def B_slices_partialInsertionSortOrdered_uint64_L1 : Blk := frBlk 1 [1, 2] K0_slices_partialInsertionSortOrdered_uint64_L1 TM_slices_partialInsertionSortOrdered_uint64_L1 UO_slices_partialInsertionSortOrdered_uint64_L1 (fun k => loopV (fun v => slices_partialInsertionSortOrdered_uint64_L1 k.1 k.2.1 v))
def gs_slices_partialInsertionSortOrdered_uint64 : Nat → Option Blk := lk [(4, B_slices_partialInsertionSortOrdered_uint64_L4), (3, B_slices_partialInsertionSortOrdered_uint64_J3), (2, B_slices_partialInsertionSortOrdered_uint64_L2), (5, B_slices_partialInsertionSortOrdered_uint64_L5), (1, B_slices_partialInsertionSortOrdered_uint64_L1)]
theorem ct_slices_partialInsertionSortOrdered_uint64_L4 : CodeSound Try.prog (((cx_slices_partialInsertionSortOrdered_uint64).fr [1, 2]).fr [1, 2, 7, 8]) (subL (subR (subL (subR (subL (subR (subR (subR (subR (subL (subL (subR (subL (subL (subR (subL (subR (subR (bodyOf Try.f58))))))))))))))))))) (B_slices_partialInsertionSortOrdered_uint64_L4).D :=
  loop_printed (G := gs_slices_partialInsertionSortOrdered_uint64) (A := .leaf) (T0 := K0_slices_partialInsertionSortOrdered_uint64_L4) (T := TM_slices_partialInsertionSortOrdered_uint64_L4) (U := UO_slices_partialInsertionSortOrdered_uint64_L4) (step := (fun k v => slices_partialInsertionSortOrdered_uint64_L4 v)) (((cxo_slices_partialInsertionSortOrdered_uint64).fr [1, 2]).fr [1, 2, 7, 8]) follows (by kernel_rfl) (by kernel_rfl) (CutsOk.leaf _) (by intro k v; kernel_rfl)
theorem ct_slices_partialInsertionSortOrdered_uint64_L5 : CodeSound Try.prog ((cx_slices_partialInsertionSortOrdered_uint64).fr [1, 2]) (subL (subR (subL (subR (subR (subR (subR (subR (subR (subL (subL (subR (subL (subL (subR (subL (subR (subR (bodyOf Try.f58))))))))))))))))))) (B_slices_partialInsertionSortOrdered_uint64_L5).D :=
  loop_printed (G := gs_slices_partialInsertionSortOrdered_uint64) (A := .leaf) (T0 := K0_slices_partialInsertionSortOrdered_uint64_L5) (T := TM_slices_partialInsertionSortOrdered_uint64_L5) (U := UO_slices_partialInsertionSortOrdered_uint64_L5) (step := (fun k v => slices_partialInsertionSortOrdered_uint64_L5 k.1 v)) ((cxo_slices_partialInsertionSortOrdered_uint64).fr [1, 2]) follows (by kernel_rfl) (by kernel_rfl) (CutsOk.leaf _) (by intro k v; kernel_rfl)
theorem ct_slices_partialInsertionSortOrdered_uint64_J3 : CodeSound Try.prog ((cx_slices_partialInsertionSortOrdered_uint64).fr [1, 2]) (subL (subR (subR (subR (subR (subL (subL (subR (subL (subL (subR (subL (subR (subR (bodyOf Try.f58))))))))))))))) (B_slices_partialInsertionSortOrdered_uint64_J3).D :=
  join_sound (G := gs_slices_partialInsertionSortOrdered_uint64) (A := (.two .leaf (.two (.two .leaf (.two (.cut 4) .leaf)) .leaf))) (T0 := K0_slices_partialInsertionSortOrdered_uint64_J3) (T := TM_slices_partialInsertionSortOrdered_uint64_J3) (U := UO_slices_partialInsertionSortOrdered_uint64_J3) (F := (fun k v => slices_partialInsertionSortOrdered_uint64_J3 k.1 k.2.1 v)) ((cxo_slices_partialInsertionSortOrdered_uint64).fr [1, 2]) follows (by kernel_rfl) (CutsOk.two (CutsOk.leaf _) (CutsOk.two (CutsOk.two (CutsOk.leaf _) (CutsOk.two (CutsOk.cut (g := B_slices_partialInsertionSortOrdered_uint64_L4) (by kernel_rfl) (ct_slices_partialInsertionSortOrdered_uint64_L4)) (CutsOk.leaf _))) (CutsOk.leaf _))) (by intro k v; kernel_rfl)
theorem ct_slices_partialInsertionSortOrdered_uint64_L2 : CodeSound Try.prog ((cx_slices_partialInsertionSortOrdered_uint64).fr [1, 2]) (subL (subL (subL (subL (subR (subL (subL (subR (subL (subR (subR (bodyOf Try.f58)))))))))))) (B_slices_partialInsertionSortOrdered_uint64_L2).D :=
  loop_printed (G := gs_slices_partialInsertionSortOrdered_uint64) (A := .leaf) (T0 := K0_slices_partialInsertionSortOrdered_uint64_L2) (T := TM_slices_partialInsertionSortOrdered_uint64_L2) (U := UO_slices_partialInsertionSortOrdered_uint64_L2) (step := (fun k v => slices_partialInsertionSortOrdered_uint64_L2 k.1 v)) ((cxo_slices_partialInsertionSortOrdered_uint64).fr [1, 2]) follows (by kernel_rfl) (by kernel_rfl) (CutsOk.leaf _) (by intro k v; kernel_rfl)
theorem ct_slices_partialInsertionSortOrdered_uint64_L1 : CodeSound Try.prog (cx_slices_partialInsertionSortOrdered_uint64) (subL (subR (subL (subR (subR (bodyOf Try.f58)))))) (B_slices_partialInsertionSortOrdered_uint64_L1).D :=
  loop_printed (G := gs_slices_partialInsertionSortOrdered_uint64) (A := (.two .leaf (.two (.two (.two (.two (.cut 2) .leaf) (.two .leaf (.two .leaf (.two .leaf (.two (.cut 3) (.two .leaf (.two (.two .leaf (.two (.cut 5) .leaf)) .leaf))))))) .leaf) .leaf))) (T0 := K0_slices_partialInsertionSortOrdered_uint64_L1) (T := TM_slices_partialInsertionSortOrdered_uint64_L1) (U := UO_slices_partialInsertionSortOrdered_uint64_L1) (step := (fun k v => slices_partialInsertionSortOrdered_uint64_L1 k.1 k.2.1 v)) (cxo_slices_partialInsertionSortOrdered_uint64) follows (by kernel_rfl) (by kernel_rfl) (CutsOk.two (CutsOk.leaf _) (CutsOk.two (CutsOk.two (CutsOk.two (CutsOk.two (CutsOk.cut (g := B_slices_partialInsertionSortOrdered_uint64_L2) (by kernel_rfl) (ct_slices_partialInsertionSortOrdered_uint64_L2)) (CutsOk.leaf _)) (CutsOk.two (CutsOk.leaf _) (CutsOk.two (CutsOk.leaf _) (CutsOk.two (CutsOk.leaf _) (CutsOk.two (CutsOk.cut (g := B_slices_partialInsertionSortOrdered_uint64_J3) (by kernel_rfl) (ct_slices_partialInsertionSortOrdered_uint64_J3)) (CutsOk.two (CutsOk.leaf _) (CutsOk.two (CutsOk.two (CutsOk.leaf _) (CutsOk.two (CutsOk.cut (g := B_slices_partialInsertionSortOrdered_uint64_L5) (by kernel_rfl) (ct_slices_partialInsertionSortOrdered_uint64_L5)) (CutsOk.leaf _))) (CutsOk.leaf _)))))))) (CutsOk.leaf _)) (CutsOk.leaf _))) (by intro k v; kernel_rfl)
theorem sd_slices_partialInsertionSortOrdered_uint64 : FnSound Try.prog gl 58 sg_slices_partialInsertionSortOrdered_uint64 :=
  fn_printed (G := gs_slices_partialInsertionSortOrdered_uint64) (A := (.two .leaf (.two .leaf (.two (.two .leaf (.two (.cut 1) .leaf)) .leaf)))) (cxo_slices_partialInsertionSortOrdered_uint64) follows Try.func58 (by kernel_rfl) (by kernel_rfl) (by kernel_rfl) (by kernel_rfl) (by kernel_rfl) (CutsOk.two (CutsOk.leaf _) (CutsOk.two (CutsOk.leaf _) (CutsOk.two (CutsOk.two (CutsOk.leaf _) (CutsOk.two (CutsOk.cut (g := B_slices_partialInsertionSortOrdered_uint64_L1) (by kernel_rfl) (ct_slices_partialInsertionSortOrdered_uint64_L1)) (CutsOk.leaf _))) (CutsOk.leaf _)))) (by intro v; kernel_rfl)
def sg_slices_partitionEqualOrdered_uint64 : Sig := mkSig [(.own 0), (.hole (.int .i64)), (.hole (.int .i64)), (.hole (.int .i64))] [(.vec (.int .u64))] [(.hole (.int .i64))] [(.vec (.int .u64))] (fun p => slices_partitionEqualOrdered_uint64 p.1.2.1 p.1.2.2.1 p.1.2.2.2.1 p.2.1)
theorem fk_slices_partitionEqualOrdered_uint64 : FnOk Try.prog 59 := ⟨Try.f59, Try.func59, by kernel_rfl, by kernel_rfl⟩
def cx_slices_partitionEqualOrdered_uint64 : Cx := ⟨tys, lk [(29 + 100000 * 0, sg_cmp_Less_uint64)], 84, 1, [], gl, []⟩
theorem cxo_slices_partitionEqualOrdered_uint64 : CxOk Try.prog (cx_slices_partitionEqualOrdered_uint64) := ⟨tys_ok, FnsAll.cons 0 rfl fk_cmp_Less_uint64 sd_cmp_Less_uint64 (FnsAll.nil)⟩
abbrev K0_slices_partitionEqualOrdered_uint64_L2 : List (Nat × Ty) := [(1, (.int .i64)), (10, (.int .i64))]
abbrev TM_slices_partitionEqualOrdered_uint64_L2 : Tm := ⟨[(0, (.own 0)), (9, (.hole (.int .i64)))], [(.vec (.int .u64))]⟩
abbrev UO_slices_partitionEqualOrdered_uint64_L2 : Outs := (.one (.exit 2) ⟨[(0, (.own 0)), (9, (.hole (.int .i64)))], [(.vec (.int .u64))]⟩)
def B_slices_partitionEqualOrdered_uint64_L2 : Blk := frBlk 1 [1, 10] K0_slices_partitionEqualOrdered_uint64_L2 TM_slices_partitionEqualOrdered_uint64_L2 UO_slices_partitionEqualOrdered_uint64_L2 (fun k => loopV (fun v => slices_partitionEqualOrdered_uint64_L2 k.1 k.2.1 v))
abbrev K0_slices_partitionEqualOrdered_uint64_L3 : List (Nat × Ty) := [(1, (.int .i64)), (9, (.int .i64))]
abbrev TM_slices_partitionEqualOrdered_uint64_L3 : Tm := ⟨[(0, (.own 0)), (10, (.hole (.int .i64)))], [(.vec (.int .u64))]⟩
abbrev UO_slices_partitionEqualOrdered_uint64_L3 : Outs := (.one (.exit 4) ⟨[(0, (.own 0)), (10, (.hole (.int .i64)))], [(.vec (.int .u64))]⟩)
def B_slices_partitionEqualOrdered_uint64_L3 : Blk := frBlk 1 [1, 9] K0_slices_partitionEqualOrdered_uint64_L3 TM_slices_partitionEqualOrdered_uint64_L3 UO_slices_partitionEqualOrdered_uint64_L3 (fun k => loopV (fun v => slices_partitionEqualOrdered_uint64_L3 k.1 k.2.1 v))
abbrev K0_slices_partitionEqualOrdered_uint64_L1 : List (Nat × Ty) := [(1, (.int .i64))]
abbrev TM_slices_partitionEqualOrdered_uint64_L1 : Tm := ⟨[(0, (.own 0)), (9, (.hole (.int .i64))), (10, (.hole (.int .i64)))], [(.vec (.int .u64))]⟩
abbrev UO_slices_partitionEqualOrdered_uint64_L1 : Outs := (.one (.exit 0) ⟨[(9, (.hole (.int .i64)))], [(.vec (.int .u64))]⟩)
def B_slices_partitionEqualOrdered_uint64_L1 : Blk := frBlk 1 [1, 8] K0_slices_partitionEqualOrdered_uint64_L1 TM_slices_partitionEqualOrdered_uint64_L1 UO_slices_partitionEqualOrdered_uint64_L1 (fun k => loopV (fun v => slices_partitionEqualOrdered_uint64_L1 k.1 v))
def gs_slices_partitionEqualOrdered_uint64 : Nat → Option Blk := lk [(2, B_slices_partitionEqualOrdered_uint64_L2), (3, B_slices_partitionEqualOrdered_uint64_L3), (1, B_slices_partitionEqualOrdered_uint64_L1)]
theorem ct_slices_partitionEqualOrdered_uint64_L3 : CodeSound Try.prog ((cx_slices_partitionEqualOrdered_uint64).fr [1, 8]) (subL (subL (subR (subL (subL (subL (subL (subR (subR (subR (bodyOf Try.f59))))))))))) (B_slices_partitionEqualOrdered_uint64_L3).D :=
  loop_printed (G := gs_slices_partitionEqualOrdered_uint64) (A := .leaf) (T0 := K0_slices_partitionEqualOrdered_uint64_L3) (T := TM_slices_partitionEqualOrdered_uint64_L3) (U := UO_slices_partitionEqualOrdered_uint64_L3) (step := (fun k v => slices_partitionEqualOrdered_uint64_L3 k.1 k.2.1 v)) ((cxo_slices_partitionEqualOrdered_uint64).fr [1, 8]) follows (by kernel_rfl) (by kernel_rfl) (CutsOk.leaf _) (by intro k v; kernel_rfl)
theorem ct_slices_partitionEqualOrdered_uint64_L2 : CodeSound Try.prog ((cx_slices_partitionEqualOrdered_uint64).fr [1, 8]) (subL (subL (subL (subL (subL (subL (subR (subR (subR (bodyOf Try.f59)))))))))) (B_slices_partitionEqualOrdered_uint64_L2).D :=
  loop_printed (G := gs_slices_partitionEqualOrdered_uint64) (A := .leaf) (T0 := K0_slices_partitionEqualOrdered_uint64_L2) (T := TM_slices_partitionEqualOrdered_uint64_L2) (U := UO_slices_partitionEqualOrdered_uint64_L2) (step := (fun k v => slices_partitionEqualOrdered_uint64_L2 k.1 k.2.1 v)) ((cxo_slices_partitionEqualOrdered_uint64).fr [1, 8]) follows (by kernel_rfl) (by kernel_rfl) (CutsOk.leaf _) (by intro k v; kernel_rfl)
theorem ct_slices_partitionEqualOrdered_uint64_L1 : CodeSound Try.prog (cx_slices_partitionEqualOrdered_uint64) (subL (subL (subR (subR (subR (bodyOf Try.f59)))))) (B_slices_partitionEqualOrdered_uint64_L1).D :=
  loop_printed (G := gs_slices_partitionEqualOrdered_uint64) (A := (.two (.two (.two (.cut 2) .leaf) (.two (.two (.cut 3) .leaf) .leaf)) .leaf)) (T0 := K0_slices_partitionEqualOrdered_uint64_L1) (T := TM_slices_partitionEqualOrdered_uint64_L1) (U := UO_slices_partitionEqualOrdered_uint64_L1) (step := (fun k v => slices_partitionEqualOrdered_uint64_L1 k.1 v)) (cxo_slices_partitionEqualOrdered_uint64) follows (by kernel_rfl) (by kernel_rfl) (CutsOk.two (CutsOk.two (CutsOk.two (CutsOk.cut (g := B_slices_partitionEqualOrdered_uint64_L2) (by kernel_rfl) (ct_slices_partitionEqualOrdered_uint64_L2)) (CutsOk.leaf _)) (CutsOk.two (CutsOk.two (CutsOk.cut (g := B_slices_partitionEqualOrdered_uint64_L3) (by kernel_rfl) (ct_slices_partitionEqualOrdered_uint64_L3)) (CutsOk.leaf _)) (CutsOk.leaf _))) (CutsOk.leaf _)) (by intro k v; kernel_rfl)
theorem sd_slices_partitionEqualOrdered_uint64 : FnSound Try.prog gl 59 sg_slices_partitionEqualOrdered_uint64 :=
  fn_printed (G := gs_slices_partitionEqualOrdered_uint64) (A := (.two .leaf (.two .leaf (.two .leaf (.two (.two (.cut 1) .leaf) .leaf))))) (cxo_slices_partitionEqualOrdered_uint64) follows Try.func59 (by kernel_rfl) (by kernel_rfl) (by kernel_rfl) (by kernel_rfl) (by kernel_rfl) (CutsOk.two (CutsOk.leaf _) (CutsOk.two (CutsOk.leaf _) (CutsOk.two (CutsOk.leaf _) (CutsOk.two (CutsOk.two (CutsOk.cut (g := B_slices_partitionEqualOrdered_uint64_L1) (by kernel_rfl) (ct_slices_partitionEqualOrdered_uint64_L1)) (CutsOk.leaf _)) (CutsOk.leaf _))))) (by intro v; kernel_rfl)
def sg_slices_partitionOrdered_uint64 : Sig := mkSig [(.own 0), (.hole (.int .i64)), (.hole (.int .i64)), (.hole (.int .i64))] [(.vec (.int .u64))] [(.hole (.int .i64)), (.hole .bool)] [(.vec (.int .u64))] (fun p => slices_partitionOrdered_uint64 p.1.2.1 p.1.2.2.1 p.1.2.2.2.1 p.2.1)
theorem fk_slices_partitionOrdered_uint64 : FnOk Try.prog 60 := ⟨Try.f60, Try.func60, by kernel_rfl, by kernel_rfl⟩
def cx_slices_partitionOrdered_uint64 : Cx := ⟨tys, lk [(29 + 100000 * 0, sg_cmp_Less_uint64)], 168, 1, [], gl, []⟩
theorem cxo_slices_partitionOrdered_uint64 : CxOk Try.prog (cx_slices_partitionOrdered_uint64) := ⟨tys_ok, FnsAll.cons 0 rfl fk_cmp_Less_uint64 sd_cmp_Less_uint64 (FnsAll.nil)⟩
abbrev K0_slices_partitionOrdered_uint64_L1 : List (Nat × Ty) := [(1, (.int .i64)), (11, (.int .i64))]
abbrev TM_slices_partitionOrdered_uint64_L1 : Tm := ⟨[(0, (.own 0)), (10, (.hole (.int .i64)))], [(.vec (.int .u64))]⟩
abbrev UO_slices_partitionOrdered_uint64_L1 : Outs := (.one (.exit 0) ⟨[(0, (.own 0)), (10, (.hole (.int .i64)))], [(.vec (.int .u64))]⟩)
def B_slices_partitionOrdered_uint64_L1 : Blk := frBlk 1 [1, 8, 9, 11] K0_slices_partitionOrdered_uint64_L1 TM_slices_partitionOrdered_uint64_L1 UO_slices_partitionOrdered_uint64_L1 (fun k => loopV (fun v => slices_partitionOrdered_uint64_L1 k.1 k.2.1 v))
abbrev K0_slices_partitionOrdered_uint64_L2 : List (Nat × Ty) := [(1, (.int .i64)), (10, (.int .i64))]
abbrev TM_slices_partitionOrdered_uint64_L2 : Tm := ⟨[(0, (.own 0)), (11, (.hole (.int .i64)))], [(.vec (.int .u64))]⟩
abbrev UO_slices_partitionOrdered_uint64_L2 : Outs := (.one (.exit 2) ⟨[(0, (.own 0)), (11, (.hole (.int .i64)))], [(.vec (.int .u64))]⟩)
def B_slices_partitionOrdered_uint64_L2 : Blk := frBlk 1 [1, 8, 9, 10] K0_slices_partitionOrdered_uint64_L2 TM_slices_partitionOrdered_uint64_L2 UO_slices_partitionOrdered_uint64_L2 (fun k => loopV (fun v => slices_partitionOrdered_uint64_L2 k.1 k.2.1 v))
abbrev K0_slices_partitionOrdered_uint64_L4 : List (Nat × Ty) := [(1, (.int .i64)), (11, (.int .i64))]
abbrev TM_slices_partitionOrdered_uint64_L4 : Tm := ⟨[(0, (.own 0)), (10, (.hole (.int .i64)))], [(.vec (.int .u64))]⟩
abbrev UO_slices_partitionOrdered_uint64_L4 : Outs := (.one (.exit 6) ⟨[(0, (.own 0)), (10, (.hole (.int .i64)))], [(.vec (.int .u64))]⟩)
def B_slices_partitionOrdered_uint64_L4 : Blk := frBlk 1 [1, 11] K0_slices_partitionOrdered_uint64_L4 TM_slices_partitionOrdered_uint64_L4 UO_slices_partitionOrdered_uint64_L4 (fun k => loopV (fun v => slices_partitionOrdered_uint64_L4 k.1 k.2.1 v))
abbrev K0_slices_partitionOrdered_uint64_L5 : List (Nat × Ty) := [(1, (.int .i64)), (10, (.int .i64))]
abbrev TM_slices_partitionOrdered_uint64_L5 : Tm := ⟨[(0, (.own 0)), (11, (.hole (.int .i64)))], [(.vec (.int .u64))]⟩
abbrev UO_slices_partitionOrdered_uint64_L5 : Outs := (.one (.exit 8) ⟨[(0, (.own 0)), (11, (.hole (.int .i64)))], [(.vec (.int .u64))]⟩)
def B_slices_partitionOrdered_uint64_L5 : Blk := frBlk 1 [1, 10] K0_slices_partitionOrdered_uint64_L5 TM_slices_partitionOrdered_uint64_L5 UO_slices_partitionOrdered_uint64_L5 (fun k => loopV (fun v => slices_partitionOrdered_uint64_L5 k.1 k.2.1 v))
abbrev K0_slices_partitionOrdered_uint64_L3 : List (Nat × Ty) := [(1, (.int .i64))]
abbrev TM_slices_partitionOrdered_uint64_L3 : Tm := ⟨[(0, (.own 0)), (10, (.hole (.int .i64))), (11, (.hole (.int .i64)))], [(.vec (.int .u64))]⟩
abbrev UO_slices_partitionOrdered_uint64_L3 : Outs := (.one (.exit 4) ⟨[(0, (.own 0)), (11, (.hole (.int .i64)))], [(.vec (.int .u64))]⟩)
def B_slices_partitionOrdered_uint64_L3 : Blk := frBlk 1 [1, 8, 9] K0_slices_partitionOrdered_uint64_L3 TM_slices_partitionOrdered_uint64_L3 UO_slices_partitionOrdered_uint64_L3 (fun k => loopV (fun v => slices_partitionOrdered_uint64_L3 k.1 v))
def gs_slices_partitionOrdered_uint64 : Nat → Option Blk := lk [(1, B_slices_partitionOrdered_uint64_L1), (2, B_slices_partitionOrdered_uint64_L2), (4, B_slices_partitionOrdered_uint64_L4), (5, B_slices_partitionOrdered_uint64_L5), (3, B_slices_partitionOrdered_uint64_L3)]
theorem ct_slices_partitionOrdered_uint64_L5 : CodeSound Try.prog ((cx_slices_partitionOrdered_uint64).fr [1, 8, 9]) (subL (subL (subR (subL (subL (subL (subL (subR (subR (subR (subR (subR (subR (subR (subR (subR (bodyOf Try.f60))))))))))))))))) (B_slices_partitionOrdered_uint64_L5).D :=
  loop_printed (G := gs_slices_partitionOrdered_uint64) (A := .leaf) (T0 := K0_slices_partitionOrdered_uint64_L5) (T := TM_slices_partitionOrdered_uint64_L5) (U := UO_slices_partitionOrdered_uint64_L5) (step := (fun k v => slices_partitionOrdered_uint64_L5 k.1 k.2.1 v)) ((cxo_slices_partitionOrdered_uint64).fr [1, 8, 9]) follows (by kernel_rfl) (by kernel_rfl) (CutsOk.leaf _) (by intro k v; kernel_rfl)
theorem ct_slices_partitionOrdered_uint64_L4 : CodeSound Try.prog ((cx_slices_partitionOrdered_uint64).fr [1, 8, 9]) (subL (subL (subL (subL (subL (subL (subR (subR (subR (subR (subR (subR (subR (subR (subR (bodyOf Try.f60)))))))))))))))) (B_slices_partitionOrdered_uint64_L4).D :=
  loop_printed (G := gs_slices_partitionOrdered_uint64) (A := .leaf) (T0 := K0_slices_partitionOrdered_uint64_L4) (T := TM_slices_partitionOrdered_uint64_L4) (U := UO_slices_partitionOrdered_uint64_L4) (step := (fun k v => slices_partitionOrdered_uint64_L4 k.1 k.2.1 v)) ((cxo_slices_partitionOrdered_uint64).fr [1, 8, 9]) follows (by kernel_rfl) (by kernel_rfl) (CutsOk.leaf _) (by intro k v; kernel_rfl)
theorem ct_slices_partitionOrdered_uint64_L3 : CodeSound Try.prog (cx_slices_partitionOrdered_uint64) (subL (subL (subR (subR (subR (subR (subR (subR (subR (subR (subR (bodyOf Try.f60)))))))))))) (B_slices_partitionOrdered_uint64_L3).D :=
  loop_printed (G := gs_slices_partitionOrdered_uint64) (A := (.two (.two (.two (.cut 4) .leaf) (.two (.two (.cut 5) .leaf) .leaf)) .leaf)) (T0 := K0_slices_partitionOrdered_uint64_L3) (T := TM_slices_partitionOrdered_uint64_L3) (U := UO_slices_partitionOrdered_uint64_L3) (step := (fun k v => slices_partitionOrdered_uint64_L3 k.1 v)) (cxo_slices_partitionOrdered_uint64) follows (by kernel_rfl) (by kernel_rfl) (CutsOk.two (CutsOk.two (CutsOk.two (CutsOk.cut (g := B_slices_partitionOrdered_uint64_L4) (by kernel_rfl) (ct_slices_partitionOrdered_uint64_L4)) (CutsOk.leaf _)) (CutsOk.two (CutsOk.two (CutsOk.cut (g := B_slices_partitionOrdered_uint64_L5) (by kernel_rfl) (ct_slices_partitionOrdered_uint64_L5)) (CutsOk.leaf _)) (CutsOk.leaf _))) (CutsOk.leaf _)) (by intro k v; kernel_rfl)
theorem ct_slices_partitionOrdered_uint64_L2 : CodeSound Try.prog (cx_slices_partitionOrdered_uint64) (subL (subL (subR (subR (subR (subR (bodyOf Try.f60))))))) (B_slices_partitionOrdered_uint64_L2).D :=
  loop_printed (G := gs_slices_partitionOrdered_uint64) (A := .leaf) (T0 := K0_slices_partitionOrdered_uint64_L2) (T := TM_slices_partitionOrdered_uint64_L2) (U := UO_slices_partitionOrdered_uint64_L2) (step := (fun k v => slices_partitionOrdered_uint64_L2 k.1 k.2.1 v)) (cxo_slices_partitionOrdered_uint64) follows (by kernel_rfl) (by kernel_rfl) (CutsOk.leaf _) (by intro k v; kernel_rfl)
theorem ct_slices_partitionOrdered_uint64_L1 : CodeSound Try.prog (cx_slices_partitionOrdered_uint64) (subL (subL (subR (subR (subR (bodyOf Try.f60)))))) (B_slices_partitionOrdered_uint64_L1).D :=
  loop_printed (G := gs_slices_partitionOrdered_uint64) (A := .leaf) (T0 := K0_slices_partitionOrdered_uint64_L1) (T := TM_slices_partitionOrdered_uint64_L1) (U := UO_slices_partitionOrdered_uint64_L1) (step := (fun k v => slices_partitionOrdered_uint64_L1 k.1 k.2.1 v)) (cxo_slices_partitionOrdered_uint64) follows (by kernel_rfl) (by kernel_rfl) (CutsOk.leaf _) (by intro k v; kernel_rfl)
theorem sd_slices_partitionOrdered_uint64 : FnSound Try.prog gl 60 sg_slices_partitionOrdered_uint64 :=
  fn_printed (G := gs_slices_partitionOrdered_uint64) (A := (.two .leaf (.two .leaf (.two .leaf (.two (.two (.cut 1) .leaf) (.two (.two (.cut 2) .leaf) (.two .leaf (.two .leaf (.two .leaf (.two .leaf (.two (.two (.cut 3) .leaf) .leaf))))))))))) (cxo_slices_partitionOrdered_uint64) follows Try.func60 (by kernel_rfl) (by kernel_rfl) (by kernel_rfl) (by kernel_rfl) (by kernel_rfl) (CutsOk.two (CutsOk.leaf _) (CutsOk.two (CutsOk.leaf _) (CutsOk.two (CutsOk.leaf _) (CutsOk.two (CutsOk.two (CutsOk.cut (g := B_slices_partitionOrdered_uint64_L1) (by kernel_rfl) (ct_slices_partitionOrdered_uint64_L1)) (CutsOk.leaf _)) (CutsOk.two (CutsOk.two (CutsOk.cut (g := B_slices_partitionOrdered_uint64_L2) (by kernel_rfl) (ct_slices_partitionOrdered_uint64_L2)) (CutsOk.leaf _)) (CutsOk.two (CutsOk.leaf _) (CutsOk.two (CutsOk.leaf _) (CutsOk.two (CutsOk.leaf _) (CutsOk.two (CutsOk.leaf _) (CutsOk.two (CutsOk.two (CutsOk.cut (g := B_slices_partitionOrdered_uint64_L3) (by kernel_rfl) (ct_slices_partitionOrdered_uint64_L3)) (CutsOk.leaf _)) (CutsOk.leaf _))))))))))) (by intro v; kernel_rfl)
def sg_slices_pdqsortOrdered_uint64 : Sig := mkSig [(.own 0), (.hole (.int .i64)), (.hole (.int .i64)), (.hole (.int .i64))] [(.vec (.int .u64))] [] [(.vec (.int .u64))] (fixN slices_pdqsortOrdered_uint64_R fuel)
theorem fk_slices_pdqsortOrdered_uint64 : FnOk Try.prog 50 := ⟨Try.f50, Try.func50, by kernel_rfl, by kernel_rfl⟩
def cx_slices_pdqsortOrdered_uint64 (self : ((Unit × Int × Int × Int × Unit) × (List Int) × Unit) → Option ((Unit) × (List Int) × Unit)) : Cx := ⟨tys, lk [(29 + 100000 * 0, sg_cmp_Less_uint64), (55 + 100000 * 0, sg_slices_breakPatternsOrdered_uint64), (56 + 100000 * 0, sg_slices_choosePivotOrdered_uint64), (54 + 100000 * 0, sg_slices_heapSortOrdered_uint64), (53 + 100000 * 0, sg_slices_insertionSortOrdered_uint64), (58 + 100000 * 0, sg_slices_partialInsertionSortOrdered_uint64), (59 + 100000 * 0, sg_slices_partitionEqualOrdered_uint64), (60 + 100000 * 0, sg_slices_partitionOrdered_uint64), (57 + 100000 * 0, sg_slices_reverseRangeOrdered_uint64), (50 + 100000 * 0, mkSig [(.own 0), (.hole (.int .i64)), (.hole (.int .i64)), (.hole (.int .i64))] [(.vec (.int .u64))] [] [(.vec (.int .u64))] self)], 134, 1, [], gl, []⟩
theorem cxo_slices_pdqsortOrdered_uint64 (self : ((Unit × Int × Int × Int × Unit) × (List Int) × Unit) → Option ((Unit) × (List Int) × Unit)) (hself : FnSound Try.prog gl 50 (mkSig [(.own 0), (.hole (.int .i64)), (.hole (.int .i64)), (.hole (.int .i64))] [(.vec (.int .u64))] [] [(.vec (.int .u64))] self)) : CxOk Try.prog (cx_slices_pdqsortOrdered_uint64 self) := ⟨tys_ok, FnsAll.cons 0 rfl fk_cmp_Less_uint64 sd_cmp_Less_uint64 (FnsAll.cons 0 rfl fk_slices_breakPatternsOrdered_uint64 sd_slices_breakPatternsOrdered_uint64 (FnsAll.cons 0 rfl fk_slices_choosePivotOrdered_uint64 sd_slices_choosePivotOrdered_uint64 (FnsAll.cons 0 rfl fk_slices_heapSortOrdered_uint64 sd_slices_heapSortOrdered_uint64 (FnsAll.cons 0 rfl fk_slices_insertionSortOrdered_uint64 sd_slices_insertionSortOrdered_uint64 (FnsAll.cons 0 rfl fk_slices_partialInsertionSortOrdered_uint64 sd_slices_partialInsertionSortOrdered_uint64 (FnsAll.cons 0 rfl fk_slices_partitionEqualOrdered_uint64 sd_slices_partitionEqualOrdered_uint64 (FnsAll.cons 0 rfl fk_slices_partitionOrdered_uint64 sd_slices_partitionOrdered_uint64 (FnsAll.cons 0 rfl fk_slices_reverseRangeOrdered_uint64 sd_slices_reverseRangeOrdered_uint64 (FnsAll.cons 0 rfl fk_slices_pdqsortOrdered_uint64 hself (FnsAll.nil))))))))))⟩
abbrev K0_slices_pdqsortOrdered_uint64_J2 : List (Nat × Ty) := [(1, (.int .i64)), (2, (.int .i64)), (8, .bool)]
abbrev TM_slices_pdqsortOrdered_uint64_J2 : Tm := ⟨[(0, (.own 0)), (3, (.hole (.int .i64)))], [(.vec (.int .u64))]⟩
abbrev UO_slices_pdqsortOrdered_uint64_J2 : Outs := (.one .normal ⟨[(0, (.own 0)), (3, (.hole (.int .i64)))], [(.vec (.int .u64))]⟩)
def B_slices_pdqsortOrdered_uint64_J2 (self : ((Unit × Int × Int × Int × Unit) × (List Int) × Unit) → Option ((Unit) × (List Int) × Unit)) : Blk := frBlk 1 [1, 2, 8, 9, 10] K0_slices_pdqsortOrdered_uint64_J2 TM_slices_pdqsortOrdered_uint64_J2 UO_slices_pdqsortOrdered_uint64_J2 (fun k v => slices_pdqsortOrdered_uint64_J2 self k.1 k.2.1 k.2.2.1 v)
abbrev K0_slices_pdqsortOrdered_uint64_J3 : List (Nat × Ty) := [(1, (.int .i64)), (2, (.int .i64))]
abbrev TM_slices_pdqsortOrdered_uint64_J3 : Tm := ⟨[(0, (.own 0)), (11, (.hole (.int .i64))), (12, (.hole (.int .i64)))], [(.vec (.int .u64))]⟩
abbrev UO_slices_pdqsortOrdered_uint64_J3 : Outs := (.one .normal ⟨[(0, (.own 0)), (11, (.hole (.int .i64))), (12, (.hole (.int .i64)))], [(.vec (.int .u64))]⟩)
def B_slices_pdqsortOrdered_uint64_J3 (self : ((Unit × Int × Int × Int × Unit) × (List Int) × Unit) → Option ((Unit) × (List Int) × Unit)) : Blk := frBlk 1 [1, 2, 3, 8, 9, 10] K0_slices_pdqsortOrdered_uint64_J3 TM_slices_pdqsortOrdered_uint64_J3 UO_slices_pdqsortOrdered_uint64_J3 (fun k v => slices_pdqsortOrdered_uint64_J3 self k.1 k.2.1 v)
abbrev K0_slices_pdqsortOrdered_uint64_J4 : List (Nat × Ty) := [(1, (.int .i64)), (2, (.int .i64)), (8, .bool), (9, .bool), (12, (.int .i64))]
abbrev TM_slices_pdqsortOrdered_uint64_J4 : Tm := ⟨[(0, (.own 0))], [(.vec (.int .u64))]⟩
abbrev UO_slices_pdqsortOrdered_uint64_J4 : Outs := (.more .ret ⟨[], [(.vec (.int .u64))]⟩ (.one .normal ⟨[(0, (.own 0))], [(.vec (.int .u64))]⟩))
def B_slices_pdqsortOrdered_uint64_J4 (self : ((Unit × Int × Int × Int × Unit) × (List Int) × Unit) → Option ((Unit) × (List Int) × Unit)) : Blk := frBlk 1 [1, 2, 3, 8, 9, 10, 11, 12] K0_slices_pdqsortOrdered_uint64_J4 TM_slices_pdqsortOrdered_uint64_J4 UO_slices_pdqsortOrdered_uint64_J4 (fun k v => slices_pdqsortOrdered_uint64_J4 self k.1 k.2.1 k.2.2.1 k.2.2.2.1 k.2.2.2.2.1 v)
abbrev K0_slices_pdqsortOrdered_uint64_J5 : List (Nat × Ty) := [(2, (.int .i64)), (11, (.int .i64))]
abbrev TM_slices_pdqsortOrdered_uint64_J5 : Tm := ⟨[(0, (.own 0)), (1, (.hole (.int .i64)))], [(.vec (.int .u64))]⟩
abbrev UO_slices_pdqsortOrdered_uint64_J5 : Outs := (.more (.exit 1) ⟨[(0, (.own 0)), (1, (.hole (.int .i64)))], [(.vec (.int .u64))]⟩ (.one .normal ⟨[(0, (.own 0)), (1, (.hole (.int .i64)))], [(.vec (.int .u64))]⟩))
def B_slices_pdqsortOrdered_uint64_J5 (self : ((Unit × Int × Int × Int × Unit) × (List Int) × Unit) → Option ((Unit) × (List Int) × Unit)) : Blk := frBlk 1 [2, 3, 8, 9, 10, 11] K0_slices_pdqsortOrdered_uint64_J5 TM_slices_pdqsortOrdered_uint64_J5 UO_slices_pdqsortOrdered_uint64_J5 (fun k v => slices_pdqsortOrdered_uint64_J5 self k.1 k.2.1 v)
abbrev K0_slices_pdqsortOrdered_uint64_L1 : List (Nat × Ty) := []
abbrev TM_slices_pdqsortOrdered_uint64_L1 : Tm := ⟨[(0, (.own 0)), (1, (.hole (.int .i64))), (2, (.hole (.int .i64))), (3, (.hole (.int .i64))), (8, (.hole .bool)), (9, (.hole .bool))], [(.vec (.int .u64))]⟩
abbrev UO_slices_pdqsortOrdered_uint64_L1 : Outs := (.one .ret ⟨[], [(.vec (.int .u64))]⟩)
def B_slices_pdqsortOrdered_uint64_L1 (self : ((Unit × Int × Int × Int × Unit) × (List Int) × Unit) → Option ((Unit) × (List Int) × Unit)) : Blk := frBlk 1 [] K0_slices_pdqsortOrdered_uint64_L1 TM_slices_pdqsortOrdered_uint64_L1 UO_slices_pdqsortOrdered_uint64_L1 (fun k => loopV (fun v => slices_pdqsortOrdered_uint64_L1 self v))
def gs_slices_pdqsortOrdered_uint64 (self : ((Unit × Int × Int × Int × Unit) × (List Int) × Unit) → Option ((Unit) × (List Int) × Unit)) : Nat → Option Blk := lk [(2, B_slices_pdqsortOrdered_uint64_J2 self), (3, B_slices_pdqsortOrdered_uint64_J3 self), (4, B_slices_pdqsortOrdered_uint64_J4 self), (5, B_slices_pdqsortOrdered_uint64_J5 self), (1, B_slices_pdqsortOrdered_uint64_L1 self)]
theorem ct_slices_pdqsortOrdered_uint64_J5 (self : ((Unit × Int × Int × Int × Unit) × (List Int) × Unit) → Option ((Unit) × (List Int) × Unit)) (hself : FnSound Try.prog gl 50 (mkSig [(.own 0), (.hole (.int .i64)), (.hole (.int .i64)), (.hole (.int .i64))] [(.vec (.int .u64))] [] [(.vec (.int .u64))] self)) : CodeSound Try.prog ((cx_slices_pdqsortOrdered_uint64 self).fr []) (subL (subR (subR (subR (subR (subR (subR (subR (subL (subL (subL (subR (subR (bodyOf Try.f50)))))))))))))) (B_slices_pdqsortOrdered_uint64_J5 self).D :=
  join_sound (G := gs_slices_pdqsortOrdered_uint64 self) (A := .leaf) (T0 := K0_slices_pdqsortOrdered_uint64_J5) (T := TM_slices_pdqsortOrdered_uint64_J5) (U := UO_slices_pdqsortOrdered_uint64_J5) (F := (fun k v => slices_pdqsortOrdered_uint64_J5 self k.1 k.2.1 v)) ((cxo_slices_pdqsortOrdered_uint64 self hself).fr []) follows (by kernel_rfl) (CutsOk.leaf _) (by intro k v; kernel_rfl)
theorem ct_slices_pdqsortOrdered_uint64_J4 (self : ((Unit × Int × Int × Int × Unit) × (List Int) × Unit) → Option ((Unit) × (List Int) × Unit)) (hself : FnSound Try.prog gl 50 (mkSig [(.own 0), (.hole (.int .i64)), (.hole (.int .i64)), (.hole (.int .i64))] [(.vec (.int .u64))] [] [(.vec (.int .u64))] self)) : CodeSound Try.prog ((cx_slices_pdqsortOrdered_uint64 self).fr []) (subL (subR (subR (subR (subR (subR (subR (subL (subL (subL (subR (subR (bodyOf Try.f50))))))))))))) (B_slices_pdqsortOrdered_uint64_J4 self).D :=
  join_sound (G := gs_slices_pdqsortOrdered_uint64 self) (A := .leaf) (T0 := K0_slices_pdqsortOrdered_uint64_J4) (T := TM_slices_pdqsortOrdered_uint64_J4) (U := UO_slices_pdqsortOrdered_uint64_J4) (F := (fun k v => slices_pdqsortOrdered_uint64_J4 self k.1 k.2.1 k.2.2.1 k.2.2.2.1 k.2.2.2.2.1 v)) ((cxo_slices_pdqsortOrdered_uint64 self hself).fr []) follows (by kernel_rfl) (CutsOk.leaf _) (by intro k v; kernel_rfl)
theorem ct_slices_pdqsortOrdered_uint64_J3 (self : ((Unit × Int × Int × Int × Unit) × (List Int) × Unit) → Option ((Unit) × (List Int) × Unit)) (hself : FnSound Try.prog gl 50 (mkSig [(.own 0), (.hole (.int .i64)), (.hole (.int .i64)), (.hole (.int .i64))] [(.vec (.int .u64))] [] [(.vec (.int .u64))] self)) : CodeSound Try.prog ((cx_slices_pdqsortOrdered_uint64 self).fr []) (subL (subR (subR (subR (subR (subR (subL (subL (subL (subR (subR (bodyOf Try.f50)))))))))))) (B_slices_pdqsortOrdered_uint64_J3 self).D :=
  join_sound (G := gs_slices_pdqsortOrdered_uint64 self) (A := .leaf) (T0 := K0_slices_pdqsortOrdered_uint64_J3) (T := TM_slices_pdqsortOrdered_uint64_J3) (U := UO_slices_pdqsortOrdered_uint64_J3) (F := (fun k v => slices_pdqsortOrdered_uint64_J3 self k.1 k.2.1 v)) ((cxo_slices_pdqsortOrdered_uint64 self hself).fr []) follows (by kernel_rfl) (CutsOk.leaf _) (by intro k v; kernel_rfl)
theorem ct_slices_pdqsortOrdered_uint64_J2 (self : ((Unit × Int × Int × Int × Unit) × (List Int) × Unit) → Option ((Unit) × (List Int) × Unit)) (hself : FnSound Try.prog gl 50 (mkSig [(.own 0), (.hole (.int .i64)), (.hole (.int .i64)), (.hole (.int .i64))] [(.vec (.int .u64))] [] [(.vec (.int .u64))] self)) : CodeSound Try.prog ((cx_slices_pdqsortOrdered_uint64 self).fr []) (subL (subR (subR (subR (subL (subL (subL (subR (subR (bodyOf Try.f50)))))))))) (B_slices_pdqsortOrdered_uint64_J2 self).D :=
  join_sound (G := gs_slices_pdqsortOrdered_uint64 self) (A := .leaf) (T0 := K0_slices_pdqsortOrdered_uint64_J2) (T := TM_slices_pdqsortOrdered_uint64_J2) (U := UO_slices_pdqsortOrdered_uint64_J2) (F := (fun k v => slices_pdqsortOrdered_uint64_J2 self k.1 k.2.1 k.2.2.1 v)) ((cxo_slices_pdqsortOrdered_uint64 self hself).fr []) follows (by kernel_rfl) (CutsOk.leaf _) (by intro k v; kernel_rfl)
theorem ct_slices_pdqsortOrdered_uint64_L1 (self : ((Unit × Int × Int × Int × Unit) × (List Int) × Unit) → Option ((Unit) × (List Int) × Unit)) (hself : FnSound Try.prog gl 50 (mkSig [(.own 0), (.hole (.int .i64)), (.hole (.int .i64)), (.hole (.int .i64))] [(.vec (.int .u64))] [] [(.vec (.int .u64))] self)) : CodeSound Try.prog (cx_slices_pdqsortOrdered_uint64 self) (subL (subR (subR (bodyOf Try.f50)))) (B_slices_pdqsortOrdered_uint64_L1 self).D :=
  loop_printed (G := gs_slices_pdqsortOrdered_uint64 self) (A := (.two (.two .leaf (.two .leaf (.two .leaf (.two (.cut 2) (.two .leaf (.two (.cut 3) (.two (.cut 4) (.two (.cut 5) .leaf)))))))) .leaf)) (T0 := K0_slices_pdqsortOrdered_uint64_L1) (T := TM_slices_pdqsortOrdered_uint64_L1) (U := UO_slices_pdqsortOrdered_uint64_L1) (step := (fun k v => slices_pdqsortOrdered_uint64_L1 self v)) (cxo_slices_pdqsortOrdered_uint64 self hself) follows (by kernel_rfl) (by kernel_rfl) (CutsOk.two (CutsOk.two (CutsOk.leaf _) (CutsOk.two (CutsOk.leaf _) (CutsOk.two (CutsOk.leaf _) (CutsOk.two (CutsOk.cut (g := B_slices_pdqsortOrdered_uint64_J2 self) (by kernel_rfl) (ct_slices_pdqsortOrdered_uint64_J2 self hself)) (CutsOk.two (CutsOk.leaf _) (CutsOk.two (CutsOk.cut (g := B_slices_pdqsortOrdered_uint64_J3 self) (by kernel_rfl) (ct_slices_pdqsortOrdered_uint64_J3 self hself)) (CutsOk.two (CutsOk.cut (g := B_slices_pdqsortOrdered_uint64_J4 self) (by kernel_rfl) (ct_slices_pdqsortOrdered_uint64_J4 self hself)) (CutsOk.two (CutsOk.cut (g := B_slices_pdqsortOrdered_uint64_J5 self) (by kernel_rfl) (ct_slices_pdqsortOrdered_uint64_J5 self hself)) (CutsOk.leaf _))))))))) (CutsOk.leaf _)) (by intro k v; kernel_rfl)
theorem st_slices_pdqsortOrdered_uint64 (self : ((Unit × Int × Int × Int × Unit) × (List Int) × Unit) → Option ((Unit) × (List Int) × Unit)) (hself : FnSound Try.prog gl 50 (mkSig [(.own 0), (.hole (.int .i64)), (.hole (.int .i64)), (.hole (.int .i64))] [(.vec (.int .u64))] [] [(.vec (.int .u64))] self)) : FnSound Try.prog gl 50 (mkSig [(.own 0), (.hole (.int .i64)), (.hole (.int .i64)), (.hole (.int .i64))] [(.vec (.int .u64))] [] [(.vec (.int .u64))] (slices_pdqsortOrdered_uint64_R self)) :=
  fn_printed (G := gs_slices_pdqsortOrdered_uint64 self) (A := (.two .leaf (.two .leaf (.two (.cut 1) .leaf)))) (cxo_slices_pdqsortOrdered_uint64 self hself) follows Try.func50 (by kernel_rfl) (by kernel_rfl) (by kernel_rfl) (by kernel_rfl) (by kernel_rfl) (CutsOk.two (CutsOk.leaf _) (CutsOk.two (CutsOk.leaf _) (CutsOk.two (CutsOk.cut (g := B_slices_pdqsortOrdered_uint64_L1 self) (by kernel_rfl) (ct_slices_pdqsortOrdered_uint64_L1 self hself)) (CutsOk.leaf _)))) (by intro v; kernel_rfl)
theorem sd_slices_pdqsortOrdered_uint64 : FnSound Try.prog gl 50 sg_slices_pdqsortOrdered_uint64 := fix_sound (ins := [(.own 0), (.hole (.int .i64)), (.hole (.int .i64)), (.hole (.int .i64))]) (inObs := [(.vec (.int .u64))]) (outs := []) (outObs := [(.vec (.int .u64))]) (R := slices_pdqsortOrdered_uint64_R) (by kernel_rfl) st_slices_pdqsortOrdered_uint64 fuel
def sg_slices_Sort_uint64_uint64 : Sig := mkSig [(.own 0)] [(.vec (.int .u64))] [] [(.vec (.int .u64))] (fun p => slices_Sort_uint64_uint64 p.2.1)
theorem fk_slices_Sort_uint64_uint64 : FnOk Try.prog 39 := ⟨Try.f39, Try.func39, by kernel_rfl, by kernel_rfl⟩
def cx_slices_Sort_uint64_uint64 : Cx := ⟨tys, lk [(51 + 100000 * 0, sg_math_bits_Len), (50 + 100000 * 0, sg_slices_pdqsortOrdered_uint64)], 11, 1, [], gl, []⟩
theorem cxo_slices_Sort_uint64_uint64 : CxOk Try.prog (cx_slices_Sort_uint64_uint64) := ⟨tys_ok, FnsAll.cons 0 rfl fk_math_bits_Len sd_math_bits_Len (FnsAll.cons 0 rfl fk_slices_pdqsortOrdered_uint64 sd_slices_pdqsortOrdered_uint64 (FnsAll.nil))⟩
def gs_slices_Sort_uint64_uint64 : Nat → Option Blk := lk []
theorem sd_slices_Sort_uint64_uint64 : FnSound Try.prog gl 39 sg_slices_Sort_uint64_uint64 :=
  fn_printed (G := gs_slices_Sort_uint64_uint64) (A := .leaf) (cxo_slices_Sort_uint64_uint64) follows Try.func39 (by kernel_rfl) (by kernel_rfl) (by kernel_rfl) (by kernel_rfl) (by kernel_rfl) (CutsOk.leaf _) (by intro v; kernel_rfl)
end Go.PE.Ytmhkkhdpcnehbaa
end
end

section
set_option maxRecDepth 100000
set_option linter.unusedVariables false
noncomputable section
namespace Go.PE.Ytmhkkhdpcnehbaa
open Go.PE Go.Proofs

def sg_sip_word : Sig := mkSig [(.hole (.slice (.int .u8)))] [] [(.hole (.int .u64))] [] (fun p => sip_word p.1.1)
theorem fk_sip_word : FnOk Try.prog 48 := ⟨Try.f48, Try.func48, by kernel_rfl, by kernel_rfl⟩
def cx_sip_word : Cx := ⟨tys, lk [], 22, 0, [], gl, []⟩
theorem cxo_sip_word : CxOk Try.prog (cx_sip_word) := ⟨tys_ok, FnsAll.nil⟩
abbrev K0_sip_word_L1 : List (Nat × Ty) := [(6, (.slice (.int .u8))), (7, (.int .i64))]
abbrev TM_sip_word_L1 : Tm := ⟨[(3, (.hole (.int .u64))), (8, (.hole (.int .i64)))], []⟩
abbrev UO_sip_word_L1 : Outs := (.one (.exit 0) ⟨[(3, (.hole (.int .u64)))], []⟩)
def B_sip_word_L1 : Blk := frBlk 0 [2, 6, 7] K0_sip_word_L1 TM_sip_word_L1 UO_sip_word_L1 (fun k => loopV (fun v => sip_word_L1 k.1 k.2.1 v))
def gs_sip_word : Nat → Option Blk := lk [(1, B_sip_word_L1)]
theorem ct_sip_word_L1 : CodeSound Try.prog (cx_sip_word) (subL (subR (subL (subR (subR (bodyOf Try.f48)))))) (B_sip_word_L1).D :=
  loop_printed (G := gs_sip_word) (A := .leaf) (T0 := K0_sip_word_L1) (T := TM_sip_word_L1) (U := UO_sip_word_L1) (step := (fun k v => sip_word_L1 k.1 k.2.1 v)) (cxo_sip_word) follows (by kernel_rfl) (by kernel_rfl) (CutsOk.leaf _) (by intro k v; kernel_rfl)
theorem sd_sip_word : FnSound Try.prog gl 48 sg_sip_word :=
  fn_printed (G := gs_sip_word) (A := (.two .leaf (.two .leaf (.two (.two .leaf (.two (.cut 1) .leaf)) .leaf)))) (cxo_sip_word) follows Try.func48 (by kernel_rfl) (by kernel_rfl) (by kernel_rfl) (by kernel_rfl) (by kernel_rfl) (CutsOk.two (CutsOk.leaf _) (CutsOk.two (CutsOk.leaf _) (CutsOk.two (CutsOk.two (CutsOk.leaf _) (CutsOk.two (CutsOk.cut (g := B_sip_word_L1) (by kernel_rfl) (ct_sip_word_L1)) (CutsOk.leaf _))) (CutsOk.leaf _)))) (by intro v; kernel_rfl)
def sg_sip_words_round : Sig := mkSig [(.ptr 0 [])] [(.box T_641c (.hole T_641c))] [] [(.box T_641c (.hole T_641c))] (fun p => sip_words_round p.2.1)
theorem fk_sip_words_round : FnOk Try.prog 49 := ⟨Try.f49, Try.func49, by kernel_rfl, by kernel_rfl⟩
def cx_sip_words_round : Cx := ⟨tys, lk [(52 + 100000 * 0, sg_math_bits_RotateLeft64)], 114, 1, [], gl, []⟩
theorem cxo_sip_words_round : CxOk Try.prog (cx_sip_words_round) := ⟨tys_ok, FnsAll.cons 0 rfl fk_math_bits_RotateLeft64 sd_math_bits_RotateLeft64 (FnsAll.nil)⟩
def gs_sip_words_round : Nat → Option Blk := lk []
theorem sd_sip_words_round : FnSound Try.prog gl 49 sg_sip_words_round :=
  fn_printed (G := gs_sip_words_round) (A := .leaf) (cxo_sip_words_round) follows Try.func49 (by kernel_rfl) (by kernel_rfl) (by kernel_rfl) (by kernel_rfl) (by kernel_rfl) (CutsOk.leaf _) (by intro v; kernel_rfl)
def sg_sip_words_take : Sig := mkSig [(.ptr 0 []), (.hole (.int .u64))] [(.box T_641c (.hole T_641c))] [] [(.box T_641c (.hole T_641c))] (fun p => sip_words_take p.1.2.1 p.2.1)
theorem fk_sip_words_take : FnOk Try.prog 47 := ⟨Try.f47, Try.func47, by kernel_rfl, by kernel_rfl⟩
def cx_sip_words_take : Cx := ⟨tys, lk [(49 + 100000 * 0, sg_sip_words_round)], 24, 1, [], gl, []⟩
theorem cxo_sip_words_take : CxOk Try.prog (cx_sip_words_take) := ⟨tys_ok, FnsAll.cons 0 rfl fk_sip_words_round sd_sip_words_round (FnsAll.nil)⟩
def gs_sip_words_take : Nat → Option Blk := lk []
theorem sd_sip_words_take : FnSound Try.prog gl 47 sg_sip_words_take :=
  fn_printed (G := gs_sip_words_take) (A := .leaf) (cxo_sip_words_take) follows Try.func47 (by kernel_rfl) (by kernel_rfl) (by kernel_rfl) (by kernel_rfl) (by kernel_rfl) (CutsOk.leaf _) (by intro v; kernel_rfl)
def sg_sip_Sum : Sig := mkSig [(.hole (.arr 2 (.int .u64))), (.hole (.slice (.int .u8)))] [] [(.hole (.int .u64))] [] (fun p => sip_Sum p.1.1 p.1.2.1)
theorem fk_sip_Sum : FnOk Try.prog 38 := ⟨Try.f38, Try.func38, by kernel_rfl, by kernel_rfl⟩
def cx_sip_Sum : Cx := ⟨tys, lk [(48 + 100000 * 0, sg_sip_word), (49 + 100000 * 0, sg_sip_words_round), (47 + 100000 * 0, sg_sip_words_take)], 57, 0, [], gl, []⟩
theorem cxo_sip_Sum : CxOk Try.prog (cx_sip_Sum) := ⟨tys_ok, FnsAll.cons 0 rfl fk_sip_word sd_sip_word (FnsAll.cons 0 rfl fk_sip_words_round sd_sip_words_round (FnsAll.cons 0 rfl fk_sip_words_take sd_sip_words_take (FnsAll.nil)))⟩
abbrev K0_sip_Sum_L1 : List (Nat × Ty) := []
abbrev TM_sip_Sum_L1 : Tm := ⟨[(1, (.hole (.slice (.int .u8)))), (5, (.ptr 0 []))], [(.box T_641c (.hole T_641c))]⟩
abbrev UO_sip_Sum_L1 : Outs := (.one (.exit 0) ⟨[(1, (.hole (.slice (.int .u8)))), (5, (.ptr 0 []))], [(.box T_641c (.hole T_641c))]⟩)
def B_sip_Sum_L1 : Blk := frBlk 0 [4, 6] K0_sip_Sum_L1 TM_sip_Sum_L1 UO_sip_Sum_L1 (fun k => loopV (fun v => sip_Sum_L1 v))
abbrev K0_sip_Sum_L2 : List (Nat × Ty) := []
abbrev TM_sip_Sum_L2 : Tm := ⟨[(5, (.ptr 0 [])), (42, (.hole (.int .i64)))], [(.box T_641c (.hole T_641c))]⟩
abbrev UO_sip_Sum_L2 : Outs := (.one (.exit 2) ⟨[(5, (.ptr 0 []))], [(.box T_641c (.hole T_641c))]⟩)
def B_sip_Sum_L2 : Blk := frBlk 0 [4] K0_sip_Sum_L2 TM_sip_Sum_L2 UO_sip_Sum_L2 (fun k => loopV (fun v => sip_Sum_L2 v))
def gs_sip_Sum : Nat → Option Blk := lk [(1, B_sip_Sum_L1), (2, B_sip_Sum_L2)]
theorem ct_sip_Sum_L2 : CodeSound Try.prog (cx_sip_Sum) (subL (subR (subL (subR (subR (subR (subR (subR (subR (bodyOf Try.f38)))))))))) (B_sip_Sum_L2).D :=
  loop_printed (G := gs_sip_Sum) (A := .leaf) (T0 := K0_sip_Sum_L2) (T := TM_sip_Sum_L2) (U := UO_sip_Sum_L2) (step := (fun k v => sip_Sum_L2 v)) (cxo_sip_Sum) follows (by kernel_rfl) (by kernel_rfl) (CutsOk.leaf _) (by intro k v; kernel_rfl)
theorem ct_sip_Sum_L1 : CodeSound Try.prog (cx_sip_Sum) (subL (subL (subR (subR (subR (bodyOf Try.f38)))))) (B_sip_Sum_L1).D :=
  loop_printed (G := gs_sip_Sum) (A := .leaf) (T0 := K0_sip_Sum_L1) (T := TM_sip_Sum_L1) (U := UO_sip_Sum_L1) (step := (fun k v => sip_Sum_L1 v)) (cxo_sip_Sum) follows (by kernel_rfl) (by kernel_rfl) (CutsOk.leaf _) (by intro k v; kernel_rfl)
theorem sd_sip_Sum : FnSound Try.prog gl 38 sg_sip_Sum :=
  fn_printed (G := gs_sip_Sum) (A := (.two .leaf (.two .leaf (.two .leaf (.two (.two (.cut 1) .leaf) (.two .leaf (.two .leaf (.two (.two .leaf (.two (.cut 2) .leaf)) .leaf)))))))) (cxo_sip_Sum) follows Try.func38 (by kernel_rfl) (by kernel_rfl) (by kernel_rfl) (by kernel_rfl) (by kernel_rfl) (CutsOk.two (CutsOk.leaf _) (CutsOk.two (CutsOk.leaf _) (CutsOk.two (CutsOk.leaf _) (CutsOk.two (CutsOk.two (CutsOk.cut (g := B_sip_Sum_L1) (by kernel_rfl) (ct_sip_Sum_L1)) (CutsOk.leaf _)) (CutsOk.two (CutsOk.leaf _) (CutsOk.two (CutsOk.leaf _) (CutsOk.two (CutsOk.two (CutsOk.leaf _) (CutsOk.two (CutsOk.cut (g := B_sip_Sum_L2) (by kernel_rfl) (ct_sip_Sum_L2)) (CutsOk.leaf _))) (CutsOk.leaf _)))))))) (by intro v; kernel_rfl)
def sg_sip_Scale : Sig := mkSig [(.hole (.int .u64)), (.hole (.int .u64))] [] [(.hole (.int .u64))] [] (fun p => sip_Scale p.1.1 p.1.2.1)
theorem fk_sip_Scale : FnOk Try.prog 37 := ⟨Try.f37, Try.func37, by kernel_rfl, by kernel_rfl⟩
def cx_sip_Scale : Cx := ⟨tys, lk [(46 + 100000 * 0, sg_math_bits_Mul64)], 14, 0, [], gl, []⟩
theorem cxo_sip_Scale : CxOk Try.prog (cx_sip_Scale) := ⟨tys_ok, FnsAll.cons 0 rfl fk_math_bits_Mul64 sd_math_bits_Mul64 (FnsAll.nil)⟩
def gs_sip_Scale : Nat → Option Blk := lk []
theorem sd_sip_Scale : FnSound Try.prog gl 37 sg_sip_Scale :=
  fn_printed (G := gs_sip_Scale) (A := .leaf) (cxo_sip_Scale) follows Try.func37 (by kernel_rfl) (by kernel_rfl) (by kernel_rfl) (by kernel_rfl) (by kernel_rfl) (CutsOk.leaf _) (by intro v; kernel_rfl)
end Go.PE.Ytmhkkhdpcnehbaa
end
end

section
set_option maxRecDepth 100000
set_option linter.unusedVariables false
noncomputable section
namespace Go.PE.Ytmhkkhdpcnehbaa
open Go.PE Go.Proofs

def sg_golomb_Encode : Sig := mkSig [(.hole (.slice (.int .u64))), (.hole (.int .i64))] [] [(.ncons (.hole (.int .i64)) (.ncons (.own 0) .nnil)), (.hole (.int .i64))] [(.vec (.int .u8))] (fun p => golomb_Encode p.1.1 p.1.2.1)
theorem fk_golomb_Encode : FnOk Try.prog 10 := ⟨Try.f10, Try.func10, by kernel_rfl, by kernel_rfl⟩
def cx_golomb_Encode : Cx := ⟨tys, lk [(20 + 100000 * 0, sg_bits_AppendRice), (19 + 100000 * 0, sg_slices_IsSorted_uint64_uint64)], 55, 0, [], gl, []⟩
theorem cxo_golomb_Encode : CxOk Try.prog (cx_golomb_Encode) := ⟨tys_ok, FnsAll.cons 0 rfl fk_bits_AppendRice sd_bits_AppendRice (FnsAll.cons 0 rfl fk_slices_IsSorted_uint64_uint64 sd_slices_IsSorted_uint64_uint64 (FnsAll.nil))⟩
abbrev K0_golomb_Encode_L1 : List (Nat × Ty) := [(1, (.int .i64)), (29, (.slice (.int .u64))), (30, (.int .i64))]
abbrev TM_golomb_Encode_L1 : Tm := ⟨[(4, (.ptr 0 [])), (6, (.ptr 1 [])), (7, (.hole (.int .u64))), (31, (.hole (.int .i64)))], [(.box T_b101 (.ncons (.hole (.int .i64)) (.ncons .nils .nnil))), (.box T_6bf9 (.ncons (.own 2) (.hole (.cons (.int .i64) .nil)))), (.vec (.int .u8))]⟩
abbrev UO_golomb_Encode_L1 : Outs := (.more .ret ⟨[(4, (.ptr 0 [])), (5, (.hole (.int .i64)))], [(.box T_b101 (.ncons (.hole (.int .i64)) (.ncons .nils .nnil)))]⟩ (.one (.exit 1) ⟨[(4, (.ptr 0 [])), (6, (.ptr 1 []))], [(.box T_b101 (.ncons (.hole (.int .i64)) (.ncons .nils .nnil))), (.box T_6bf9 (.ncons (.own 2) (.hole (.cons (.int .i64) .nil)))), (.vec (.int .u8))]⟩))
def B_golomb_Encode_L1 : Blk := frBlk 0 [0, 1, 29, 30] K0_golomb_Encode_L1 TM_golomb_Encode_L1 UO_golomb_Encode_L1 (fun k => loopV (fun v => golomb_Encode_L1 k.1 k.2.1 k.2.2.1 v))
def gs_golomb_Encode : Nat → Option Blk := lk [(1, B_golomb_Encode_L1)]
theorem ct_golomb_Encode_L1 : CodeSound Try.prog (cx_golomb_Encode) (subL (subR (subL (subR (subR (subR (subR (bodyOf Try.f10)))))))) (B_golomb_Encode_L1).D :=
  loop_printed (G := gs_golomb_Encode) (A := .leaf) (T0 := K0_golomb_Encode_L1) (T := TM_golomb_Encode_L1) (U := UO_golomb_Encode_L1) (step := (fun k v => golomb_Encode_L1 k.1 k.2.1 k.2.2.1 v)) (cxo_golomb_Encode) follows (by kernel_rfl) (by kernel_rfl) (CutsOk.leaf _) (by intro k v; kernel_rfl)
theorem sd_golomb_Encode : FnSound Try.prog gl 10 sg_golomb_Encode :=
  fn_printed (G := gs_golomb_Encode) (A := (.two .leaf (.two .leaf (.two .leaf (.two .leaf (.two (.two .leaf (.two (.cut 1) .leaf)) .leaf)))))) (cxo_golomb_Encode) follows Try.func10 (by kernel_rfl) (by kernel_rfl) (by kernel_rfl) (by kernel_rfl) (by kernel_rfl) (CutsOk.two (CutsOk.leaf _) (CutsOk.two (CutsOk.leaf _) (CutsOk.two (CutsOk.leaf _) (CutsOk.two (CutsOk.leaf _) (CutsOk.two (CutsOk.two (CutsOk.leaf _) (CutsOk.two (CutsOk.cut (g := B_golomb_Encode_L1) (by kernel_rfl) (ct_golomb_Encode_L1)) (CutsOk.leaf _))) (CutsOk.leaf _)))))) (by intro v; kernel_rfl)
def sg_golomb_values : Sig := mkSig [(.hole (.arr 2 (.int .u64))), (.hole (.slice (.slice (.int .u8)))), (.hole (.int .i64)), (.hole (.int .u64))] [] [(.own 0)] [(.vec (.int .u64))] (fun p => golomb_values p.1.1 p.1.2.1 p.1.2.2.1 p.1.2.2.2.1)
theorem fk_golomb_values : FnOk Try.prog 23 := ⟨Try.f23, Try.func23, by kernel_rfl, by kernel_rfl⟩
def cx_golomb_values : Cx := ⟨tys, lk [(37 + 100000 * 0, sg_sip_Scale), (38 + 100000 * 0, sg_sip_Sum), (39 + 100000 * 0, sg_slices_Sort_uint64_uint64)], 36, 0, [], gl, []⟩
theorem cxo_golomb_values : CxOk Try.prog (cx_golomb_values) := ⟨tys_ok, FnsAll.cons 0 rfl fk_sip_Scale sd_sip_Scale (FnsAll.cons 0 rfl fk_sip_Sum sd_sip_Sum (FnsAll.cons 0 rfl fk_slices_Sort_uint64_uint64 sd_slices_Sort_uint64_uint64 (FnsAll.nil)))⟩
abbrev K0_golomb_values_L1 : List (Nat × Ty) := [(2, (.int .i64)), (3, (.int .u64)), (15, (.slice (.slice (.int .u8)))), (16, (.int .i64))]
abbrev TM_golomb_values_L1 : Tm := ⟨[(4, (.ptr 0 [])), (9, (.own 1)), (17, (.hole (.int .i64)))], [(.box (.arr 2 (.int .u64)) (.hole (.arr 2 (.int .u64)))), (.vec (.int .u64))]⟩
abbrev UO_golomb_values_L1 : Outs := (.one (.exit 0) ⟨[(9, (.own 0))], [(.vec (.int .u64))]⟩)
def B_golomb_values_L1 : Blk := frBlk 0 [2, 3, 8, 15, 16] K0_golomb_values_L1 TM_golomb_values_L1 UO_golomb_values_L1 (fun k => loopV (fun v => golomb_values_L1 k.1 k.2.1 k.2.2.1 k.2.2.2.1 v))
def gs_golomb_values : Nat → Option Blk := lk [(1, B_golomb_values_L1)]
theorem ct_golomb_values_L1 : CodeSound Try.prog (cx_golomb_values) (subL (subR (subL (subR (subR (bodyOf Try.f23)))))) (B_golomb_values_L1).D :=
  loop_printed (G := gs_golomb_values) (A := .leaf) (T0 := K0_golomb_values_L1) (T := TM_golomb_values_L1) (U := UO_golomb_values_L1) (step := (fun k v => golomb_values_L1 k.1 k.2.1 k.2.2.1 k.2.2.2.1 v)) (cxo_golomb_values) follows (by kernel_rfl) (by kernel_rfl) (CutsOk.leaf _) (by intro k v; kernel_rfl)
theorem sd_golomb_values : FnSound Try.prog gl 23 sg_golomb_values :=
  fn_printed (G := gs_golomb_values) (A := (.two .leaf (.two .leaf (.two (.two .leaf (.two (.cut 1) .leaf)) .leaf)))) (cxo_golomb_values) follows Try.func23 (by kernel_rfl) (by kernel_rfl) (by kernel_rfl) (by kernel_rfl) (by kernel_rfl) (CutsOk.two (CutsOk.leaf _) (CutsOk.two (CutsOk.leaf _) (CutsOk.two (CutsOk.two (CutsOk.leaf _) (CutsOk.two (CutsOk.cut (g := B_golomb_values_L1) (by kernel_rfl) (ct_golomb_values_L1)) (CutsOk.leaf _))) (CutsOk.leaf _)))) (by intro v; kernel_rfl)
def sg_golomb_Build : Sig := mkSig [(.hole (.arr 2 (.int .u64))), (.hole (.slice (.slice (.int .u8)))), (.hole (.int .i64)), (.hole (.int .u64))] [] [(.ncons (.hole (.int .i64)) (.ncons (.own 0) .nnil)), (.hole (.int .i64))] [(.vec (.int .u8))] (fun p => golomb_Build p.1.1 p.1.2.1 p.1.2.2.1 p.1.2.2.2.1)
theorem fk_golomb_Build : FnOk Try.prog 14 := ⟨Try.f14, Try.func14, by kernel_rfl, by kernel_rfl⟩
def cx_golomb_Build : Cx := ⟨tys, lk [(10 + 100000 * 0, sg_golomb_Encode), (23 + 100000 * 0, sg_golomb_values)], 65, 0, [], gl, []⟩
theorem cxo_golomb_Build : CxOk Try.prog (cx_golomb_Build) := ⟨tys_ok, FnsAll.cons 0 rfl fk_golomb_Encode sd_golomb_Encode (FnsAll.cons 0 rfl fk_golomb_values sd_golomb_values (FnsAll.nil))⟩
abbrev K0_golomb_Build_J1 : List (Nat × Ty) := [(2, (.int .i64)), (3, (.int .u64))]
abbrev TM_golomb_Build_J1 : Tm := ⟨[(4, (.ptr 0 [])), (8, (.ptr 1 []))], [(.box (.arr 2 (.int .u64)) (.hole (.arr 2 (.int .u64)))), (.box T_b101 (.ncons (.hole (.int .i64)) (.ncons .nils .nnil)))]⟩
abbrev UO_golomb_Build_J1 : Outs := (.one .normal ⟨[(4, (.ptr 0 [])), (8, (.ptr 1 [])), (19, (.hole .bool))], [(.box (.arr 2 (.int .u64)) (.hole (.arr 2 (.int .u64)))), (.box T_b101 (.ncons (.hole (.int .i64)) (.ncons .nils .nnil)))]⟩)
def B_golomb_Build_J1 : Blk := frBlk 0 [1, 2, 3, 9] K0_golomb_Build_J1 TM_golomb_Build_J1 UO_golomb_Build_J1 (fun k v => golomb_Build_J1 k.1 k.2.1 v)
abbrev K0_golomb_Build_L2 : List (Nat × Ty) := [(36, (.slice (.slice (.int .u8)))), (37, (.int .i64))]
abbrev TM_golomb_Build_L2 : Tm := ⟨[(4, (.ptr 0 [])), (8, (.ptr 1 [])), (10, (.mref 2)), (11, (.own 3)), (38, (.hole (.int .i64)))], [(.box (.arr 2 (.int .u64)) (.hole (.arr 2 (.int .u64)))), (.box T_b101 (.ncons (.hole (.int .i64)) (.ncons .nils .nnil))), (.mp .str .bool), (.vec (.slice (.int .u8)))]⟩
abbrev UO_golomb_Build_L2 : Outs := (.one (.exit 1) ⟨[(4, (.ptr 0 [])), (8, (.ptr 1 [])), (11, (.own 2))], [(.box (.arr 2 (.int .u64)) (.hole (.arr 2 (.int .u64)))), (.box T_b101 (.ncons (.hole (.int .i64)) (.ncons .nils .nnil))), (.vec (.slice (.int .u8)))]⟩)
def B_golomb_Build_L2 : Blk := frBlk 0 [2, 3, 9, 36, 37] K0_golomb_Build_L2 TM_golomb_Build_L2 UO_golomb_Build_L2 (fun k => loopV (fun v => golomb_Build_L2 k.1 k.2.1 v))
def gs_golomb_Build : Nat → Option Blk := lk [(1, B_golomb_Build_J1), (2, B_golomb_Build_L2)]
theorem ct_golomb_Build_L2 : CodeSound Try.prog (cx_golomb_Build) (subL (subR (subL (subR (subR (subR (subR (bodyOf Try.f14)))))))) (B_golomb_Build_L2).D :=
  loop_printed (G := gs_golomb_Build) (A := .leaf) (T0 := K0_golomb_Build_L2) (T := TM_golomb_Build_L2) (U := UO_golomb_Build_L2) (step := (fun k v => golomb_Build_L2 k.1 k.2.1 v)) (cxo_golomb_Build) follows (by kernel_rfl) (by kernel_rfl) (CutsOk.leaf _) (by intro k v; kernel_rfl)
theorem ct_golomb_Build_J1 : CodeSound Try.prog (cx_golomb_Build) (subL (subR (subR (subL (subL (subR (bodyOf Try.f14))))))) (B_golomb_Build_J1).D :=
  join_sound (G := gs_golomb_Build) (A := .leaf) (T0 := K0_golomb_Build_J1) (T := TM_golomb_Build_J1) (U := UO_golomb_Build_J1) (F := (fun k v => golomb_Build_J1 k.1 k.2.1 v)) (cxo_golomb_Build) follows (by kernel_rfl) (CutsOk.leaf _) (by intro k v; kernel_rfl)
theorem sd_golomb_Build : FnSound Try.prog gl 14 sg_golomb_Build :=
  fn_printed (G := gs_golomb_Build) (A := (.two .leaf (.two (.two (.two .leaf (.two .leaf (.two (.cut 1) .leaf))) .leaf) (.two .leaf (.two .leaf (.two (.two .leaf (.two (.cut 2) .leaf)) .leaf)))))) (cxo_golomb_Build) follows Try.func14 (by kernel_rfl) (by kernel_rfl) (by kernel_rfl) (by kernel_rfl) (by kernel_rfl) (CutsOk.two (CutsOk.leaf _) (CutsOk.two (CutsOk.two (CutsOk.two (CutsOk.leaf _) (CutsOk.two (CutsOk.leaf _) (CutsOk.two (CutsOk.cut (g := B_golomb_Build_J1) (by kernel_rfl) (ct_golomb_Build_J1)) (CutsOk.leaf _)))) (CutsOk.leaf _)) (CutsOk.two (CutsOk.leaf _) (CutsOk.two (CutsOk.leaf _) (CutsOk.two (CutsOk.two (CutsOk.leaf _) (CutsOk.two (CutsOk.cut (g := B_golomb_Build_L2) (by kernel_rfl) (ct_golomb_Build_L2)) (CutsOk.leaf _))) (CutsOk.leaf _)))))) (by intro v; kernel_rfl)
def sg_golomb_Decode : Sig := mkSig [(.hole T_b101), (.hole (.int .i64))] [] [(.own 0), (.hole (.int .i64))] [(.vec (.int .u64))] (fun p => golomb_Decode p.1.1 p.1.2.1)
theorem fk_golomb_Decode : FnOk Try.prog 15 := ⟨Try.f15, Try.func15, by kernel_rfl, by kernel_rfl⟩
def cx_golomb_Decode : Cx := ⟨tys, lk [(25 + 100000 * 0, sg_bits_Read), (24 + 100000 * 0, sg_bits_ReadRice)], 91, 0, [], gl, []⟩
theorem cxo_golomb_Decode : CxOk Try.prog (cx_golomb_Decode) := ⟨tys_ok, FnsAll.cons 0 rfl fk_bits_Read sd_bits_Read (FnsAll.cons 0 rfl fk_bits_ReadRice sd_bits_ReadRice (FnsAll.nil))⟩
abbrev K0_golomb_Decode_L1 : List (Nat × Ty) := [(1, (.int .i64)), (44, (.int .i64))]
abbrev TM_golomb_Decode_L1 : Tm := ⟨[(6, (.ptr 0 [])), (7, (.own 1)), (8, (.hole (.int .u64))), (9, (.hole (.int .i64))), (45, (.hole (.int .i64)))], [(.box T_6bf9 (.hole T_6bf9)), (.vec (.int .u64))]⟩
abbrev UO_golomb_Decode_L1 : Outs := (.more .ret ⟨[(4, .nils), (5, (.hole (.int .i64)))], []⟩ (.one (.exit 0) ⟨[(6, (.ptr 0 [])), (7, (.own 1)), (9, (.hole (.int .i64)))], [(.box T_6bf9 (.hole T_6bf9)), (.vec (.int .u64))]⟩))
def B_golomb_Decode_L1 : Blk := frBlk 0 [1, 44] K0_golomb_Decode_L1 TM_golomb_Decode_L1 UO_golomb_Decode_L1 (fun k => loopV (fun v => golomb_Decode_L1 k.1 k.2.1 v))
def gs_golomb_Decode : Nat → Option Blk := lk [(1, B_golomb_Decode_L1)]
theorem ct_golomb_Decode_L1 : CodeSound Try.prog (cx_golomb_Decode) (subL (subR (subL (subR (subR (subR (subR (subR (subR (subR (bodyOf Try.f15))))))))))) (B_golomb_Decode_L1).D :=
  loop_printed (G := gs_golomb_Decode) (A := .leaf) (T0 := K0_golomb_Decode_L1) (T := TM_golomb_Decode_L1) (U := UO_golomb_Decode_L1) (step := (fun k v => golomb_Decode_L1 k.1 k.2.1 v)) (cxo_golomb_Decode) follows (by kernel_rfl) (by kernel_rfl) (CutsOk.leaf _) (by intro k v; kernel_rfl)
theorem sd_golomb_Decode : FnSound Try.prog gl 15 sg_golomb_Decode :=
  fn_printed (G := gs_golomb_Decode) (A := (.two .leaf (.two .leaf (.two .leaf (.two .leaf (.two .leaf (.two .leaf (.two .leaf (.two (.two .leaf (.two (.cut 1) .leaf)) .leaf))))))))) (cxo_golomb_Decode) follows Try.func15 (by kernel_rfl) (by kernel_rfl) (by kernel_rfl) (by kernel_rfl) (by kernel_rfl) (CutsOk.two (CutsOk.leaf _) (CutsOk.two (CutsOk.leaf _) (CutsOk.two (CutsOk.leaf _) (CutsOk.two (CutsOk.leaf _) (CutsOk.two (CutsOk.leaf _) (CutsOk.two (CutsOk.leaf _) (CutsOk.two (CutsOk.leaf _) (CutsOk.two (CutsOk.two (CutsOk.leaf _) (CutsOk.two (CutsOk.cut (g := B_golomb_Decode_L1) (by kernel_rfl) (ct_golomb_Decode_L1)) (CutsOk.leaf _))) (CutsOk.leaf _))))))))) (by intro v; kernel_rfl)
end Go.PE.Ytmhkkhdpcnehbaa
end
end

section
set_option maxRecDepth 100000
set_option linter.unusedVariables false
noncomputable section
namespace Go.PE.Ytmhkkhdpcnehbaa
open Go.PE Go.Proofs

def sg_keep_Items : Sig := mkSig [(.hole (.slice (.slice (.int .u8)))), (.hole (.int .i64)), (.hole (.int .i64))] [] [(.hole .bool)] [] (fun p => keep_Items p.1.1 p.1.2.1 p.1.2.2.1)
theorem fk_keep_Items : FnOk Try.prog 13 := ⟨Try.f13, Try.func13, by kernel_rfl, by kernel_rfl⟩
def cx_keep_Items : Cx := ⟨tys, lk [], 24, 0, [], gl, []⟩
theorem cxo_keep_Items : CxOk Try.prog (cx_keep_Items) := ⟨tys_ok, FnsAll.nil⟩
abbrev K0_keep_Items_L1 : List (Nat × Ty) := [(2, (.int .i64)), (13, (.slice (.slice (.int .u8)))), (14, (.int .i64))]
abbrev TM_keep_Items_L1 : Tm := ⟨[(15, (.hole (.int .i64)))], []⟩
abbrev UO_keep_Items_L1 : Outs := (.more .ret ⟨[(6, (.hole .bool))], []⟩ (.one (.exit 0) ⟨[], []⟩))
def B_keep_Items_L1 : Blk := frBlk 0 [2, 13, 14] K0_keep_Items_L1 TM_keep_Items_L1 UO_keep_Items_L1 (fun k => loopV (fun v => keep_Items_L1 k.1 k.2.1 k.2.2.1 v))
def gs_keep_Items : Nat → Option Blk := lk [(1, B_keep_Items_L1)]
theorem ct_keep_Items_L1 : CodeSound Try.prog (cx_keep_Items) (subL (subR (subL (subR (subR (bodyOf Try.f13)))))) (B_keep_Items_L1).D :=
  loop_printed (G := gs_keep_Items) (A := .leaf) (T0 := K0_keep_Items_L1) (T := TM_keep_Items_L1) (U := UO_keep_Items_L1) (step := (fun k v => keep_Items_L1 k.1 k.2.1 k.2.2.1 v)) (cxo_keep_Items) follows (by kernel_rfl) (by kernel_rfl) (CutsOk.leaf _) (by intro k v; kernel_rfl)
theorem sd_keep_Items : FnSound Try.prog gl 13 sg_keep_Items :=
  fn_printed (G := gs_keep_Items) (A := (.two .leaf (.two .leaf (.two (.two .leaf (.two (.cut 1) .leaf)) .leaf)))) (cxo_keep_Items) follows Try.func13 (by kernel_rfl) (by kernel_rfl) (by kernel_rfl) (by kernel_rfl) (by kernel_rfl) (CutsOk.two (CutsOk.leaf _) (CutsOk.two (CutsOk.leaf _) (CutsOk.two (CutsOk.two (CutsOk.leaf _) (CutsOk.two (CutsOk.cut (g := B_keep_Items_L1) (by kernel_rfl) (ct_keep_Items_L1)) (CutsOk.leaf _))) (CutsOk.leaf _)))) (by intro v; kernel_rfl)
end Go.PE.Ytmhkkhdpcnehbaa
end
end

section
set_option maxRecDepth 100000
set_option linter.unusedVariables false
noncomputable section
namespace Go.PE.Ytmhkkhdpcnehbaa
open Go.PE Go.Proofs

def sg_ref01_joined : Sig := mkSig [(.hole (.slice (.int .u8))), (.hole (.slice (.int .u8)))] [] [(.own 0)] [(.vec (.int .u8))] (fun p => ref01_joined p.1.1 p.1.2.1)
theorem fk_ref01_joined : FnOk Try.prog 45 := ⟨Try.f45, Try.func45, by kernel_rfl, by kernel_rfl⟩
def cx_ref01_joined : Cx := ⟨tys, lk [], 17, 0, [], gl, []⟩
theorem cxo_ref01_joined : CxOk Try.prog (cx_ref01_joined) := ⟨tys_ok, FnsAll.nil⟩
def gs_ref01_joined : Nat → Option Blk := lk []
theorem sd_ref01_joined : FnSound Try.prog gl 45 sg_ref01_joined :=
  fn_printed (G := gs_ref01_joined) (A := .leaf) (cxo_ref01_joined) follows Try.func45 (by kernel_rfl) (by kernel_rfl) (by kernel_rfl) (by kernel_rfl) (by kernel_rfl) (CutsOk.leaf _) (by intro v; kernel_rfl)
def sg_ref01_Join : Sig := mkSig [(.hole (.slice (.slice (.int .u8))))] [] [(.own 0)] [(.vec (.int .u8))] (fun p => ref01_Join p.1.1)
theorem fk_ref01_Join : FnOk Try.prog 35 := ⟨Try.f35, Try.func35, by kernel_rfl, by kernel_rfl⟩
def cx_ref01_Join : Cx := ⟨tys, lk [(45 + 100000 * 0, sg_ref01_joined)], 17, 0, [], gl, []⟩
theorem cxo_ref01_Join : CxOk Try.prog (cx_ref01_Join) := ⟨tys_ok, FnsAll.cons 0 rfl fk_ref01_joined sd_ref01_joined (FnsAll.nil)⟩
abbrev K0_ref01_Join_L1 : List (Nat × Ty) := [(6, (.slice (.slice (.int .u8)))), (7, (.int .i64))]
abbrev TM_ref01_Join_L1 : Tm := ⟨[(3, (.own 0)), (8, (.hole (.int .i64)))], [(.vec (.int .u8))]⟩
abbrev UO_ref01_Join_L1 : Outs := (.one (.exit 0) ⟨[(3, (.own 0))], [(.vec (.int .u8))]⟩)
def B_ref01_Join_L1 : Blk := frBlk 0 [2, 6, 7] K0_ref01_Join_L1 TM_ref01_Join_L1 UO_ref01_Join_L1 (fun k => loopV (fun v => ref01_Join_L1 k.1 k.2.1 v))
def gs_ref01_Join : Nat → Option Blk := lk [(1, B_ref01_Join_L1)]
theorem ct_ref01_Join_L1 : CodeSound Try.prog (cx_ref01_Join) (subL (subR (subL (subR (subR (bodyOf Try.f35)))))) (B_ref01_Join_L1).D :=
  loop_printed (G := gs_ref01_Join) (A := .leaf) (T0 := K0_ref01_Join_L1) (T := TM_ref01_Join_L1) (U := UO_ref01_Join_L1) (step := (fun k v => ref01_Join_L1 k.1 k.2.1 v)) (cxo_ref01_Join) follows (by kernel_rfl) (by kernel_rfl) (CutsOk.leaf _) (by intro k v; kernel_rfl)
theorem sd_ref01_Join : FnSound Try.prog gl 35 sg_ref01_Join :=
  fn_printed (G := gs_ref01_Join) (A := (.two .leaf (.two .leaf (.two (.two .leaf (.two (.cut 1) .leaf)) .leaf)))) (cxo_ref01_Join) follows Try.func35 (by kernel_rfl) (by kernel_rfl) (by kernel_rfl) (by kernel_rfl) (by kernel_rfl) (CutsOk.two (CutsOk.leaf _) (CutsOk.two (CutsOk.leaf _) (CutsOk.two (CutsOk.two (CutsOk.leaf _) (CutsOk.two (CutsOk.cut (g := B_ref01_Join_L1) (by kernel_rfl) (ct_ref01_Join_L1)) (CutsOk.leaf _))) (CutsOk.leaf _)))) (by intro v; kernel_rfl)
def sg_ref01_Same : Sig := mkSig [(.hole (.slice (.int .u8))), (.hole (.slice (.int .u8)))] [] [(.hole .bool)] [] (fun p => ref01_Same p.1.1 p.1.2.1)
theorem fk_ref01_Same : FnOk Try.prog 22 := ⟨Try.f22, Try.func22, by kernel_rfl, by kernel_rfl⟩
def cx_ref01_Same : Cx := ⟨tys, lk [], 10, 0, [], gl, []⟩
theorem cxo_ref01_Same : CxOk Try.prog (cx_ref01_Same) := ⟨tys_ok, FnsAll.nil⟩
def gs_ref01_Same : Nat → Option Blk := lk []
theorem sd_ref01_Same : FnSound Try.prog gl 22 sg_ref01_Same :=
  fn_printed (G := gs_ref01_Same) (A := .leaf) (cxo_ref01_Same) follows Try.func22 (by kernel_rfl) (by kernel_rfl) (by kernel_rfl) (by kernel_rfl) (by kernel_rfl) (CutsOk.leaf _) (by intro v; kernel_rfl)
end Go.PE.Ytmhkkhdpcnehbaa
end
end

section
set_option maxRecDepth 100000
set_option linter.unusedVariables false
noncomputable section
namespace Go.PE.Ytmhkkhdpcnehbaa
open Go.PE Go.Proofs

def sg_ref18_bit : Sig := mkSig [(.hole T_6bf9), (.hole (.int .i64))] [] [(.hole .bool)] [] (fun p => ref18_bit p.1.1 p.1.2.1)
theorem fk_ref18_bit : FnOk Try.prog 41 := ⟨Try.f41, Try.func41, by kernel_rfl, by kernel_rfl⟩
def cx_ref18_bit : Cx := ⟨tys, lk [], 17, 0, [], gl, []⟩
theorem cxo_ref18_bit : CxOk Try.prog (cx_ref18_bit) := ⟨tys_ok, FnsAll.nil⟩
def gs_ref18_bit : Nat → Option Blk := lk []
theorem sd_ref18_bit : FnSound Try.prog gl 41 sg_ref18_bit :=
  fn_printed (G := gs_ref18_bit) (A := .leaf) (cxo_ref18_bit) follows Try.func41 (by kernel_rfl) (by kernel_rfl) (by kernel_rfl) (by kernel_rfl) (by kernel_rfl) (CutsOk.leaf _) (by intro v; kernel_rfl)
def sg_ref18_Valid : Sig := mkSig [(.hole T_6bf9)] [] [(.hole .bool)] [] (fun p => ref18_Valid p.1.1)
theorem fk_ref18_Valid : FnOk Try.prog 34 := ⟨Try.f34, Try.func34, by kernel_rfl, by kernel_rfl⟩
def cx_ref18_Valid : Cx := ⟨tys, lk [(41 + 100000 * 0, sg_ref18_bit)], 35, 0, [], gl, []⟩
theorem cxo_ref18_Valid : CxOk Try.prog (cx_ref18_Valid) := ⟨tys_ok, FnsAll.cons 0 rfl fk_ref18_bit sd_ref18_bit (FnsAll.nil)⟩
abbrev K0_ref18_Valid_L1 : List (Nat × Ty) := []
abbrev TM_ref18_Valid_L1 : Tm := ⟨[(1, (.ptr 0 [])), (3, (.hole (.int .i64)))], [(.box T_6bf9 (.hole T_6bf9))]⟩
abbrev UO_ref18_Valid_L1 : Outs := (.more .ret ⟨[(2, (.hole .bool))], []⟩ (.one (.exit 0) ⟨[], []⟩))
def B_ref18_Valid_L1 : Blk := frBlk 0 [] K0_ref18_Valid_L1 TM_ref18_Valid_L1 UO_ref18_Valid_L1 (fun k => loopV (fun v => ref18_Valid_L1 v))
def gs_ref18_Valid : Nat → Option Blk := lk [(1, B_ref18_Valid_L1)]
theorem ct_ref18_Valid_L1 : CodeSound Try.prog (cx_ref18_Valid) (subL (subR (subL (subR (subR (bodyOf Try.f34)))))) (B_ref18_Valid_L1).D :=
  loop_printed (G := gs_ref18_Valid) (A := .leaf) (T0 := K0_ref18_Valid_L1) (T := TM_ref18_Valid_L1) (U := UO_ref18_Valid_L1) (step := (fun k v => ref18_Valid_L1 v)) (cxo_ref18_Valid) follows (by kernel_rfl) (by kernel_rfl) (CutsOk.leaf _) (by intro k v; kernel_rfl)
theorem sd_ref18_Valid : FnSound Try.prog gl 34 sg_ref18_Valid :=
  fn_printed (G := gs_ref18_Valid) (A := (.two .leaf (.two .leaf (.two (.two .leaf (.two (.cut 1) .leaf)) .leaf)))) (cxo_ref18_Valid) follows Try.func34 (by kernel_rfl) (by kernel_rfl) (by kernel_rfl) (by kernel_rfl) (by kernel_rfl) (CutsOk.two (CutsOk.leaf _) (CutsOk.two (CutsOk.leaf _) (CutsOk.two (CutsOk.two (CutsOk.leaf _) (CutsOk.two (CutsOk.cut (g := B_ref18_Valid_L1) (by kernel_rfl) (ct_ref18_Valid_L1)) (CutsOk.leaf _))) (CutsOk.leaf _)))) (by intro v; kernel_rfl)
def sg_ref18_put : Sig := mkSig [(.ncons (.own 0) (.hole (.cons (.int .i64) .nil))), (.hole .bool)] [(.vec (.int .u8))] [(.ncons (.own 1) (.hole (.cons (.int .i64) .nil)))] [.dead, (.vec (.int .u8))] (fun p => ref18_put p.1.1.2 p.1.2.1 p.2.1)
theorem fk_ref18_put : FnOk Try.prog 36 := ⟨Try.f36, Try.func36, by kernel_rfl, by kernel_rfl⟩
def cx_ref18_put : Cx := ⟨tys, lk [], 34, 1, [], gl, []⟩
theorem cxo_ref18_put : CxOk Try.prog (cx_ref18_put) := ⟨tys_ok, FnsAll.nil⟩
abbrev K0_ref18_put_J1 : List (Nat × Ty) := []
abbrev TM_ref18_put_J1 : Tm := ⟨[(2, (.ptr 1 [])), (4, (.ptr 2 []))], [(.vec (.int .u8)), (.box T_6bf9 (.ncons (.own 0) (.hole (.cons (.int .i64) .nil)))), (.box T_6bf9 (.ncons .nils (.hole (.cons (.int .i64) .nil))))]⟩
abbrev UO_ref18_put_J1 : Outs := (.one .normal ⟨[(2, (.ptr 1 [])), (4, (.ptr 2 []))], [.dead, (.box T_6bf9 (.ncons (.own 3) (.hole (.cons (.int .i64) .nil)))), (.box T_6bf9 (.ncons .nils (.hole (.cons (.int .i64) .nil)))), (.vec (.int .u8))]⟩)
def B_ref18_put_J1 : Blk := frBlk 1 [1] K0_ref18_put_J1 TM_ref18_put_J1 UO_ref18_put_J1 (fun k v => ref18_put_J1 v)
abbrev K0_ref18_put_J2 : List (Nat × Ty) := [(1, .bool)]
abbrev TM_ref18_put_J2 : Tm := ⟨[(2, (.ptr 1 [])), (4, (.ptr 2 []))], [.dead, (.box T_6bf9 (.ncons (.own 3) (.hole (.cons (.int .i64) .nil)))), (.box T_6bf9 (.ncons .nils (.hole (.cons (.int .i64) .nil)))), (.vec (.int .u8))]⟩
abbrev UO_ref18_put_J2 : Outs := (.one .normal ⟨[(2, (.ptr 1 [])), (4, (.ptr 2 []))], [.dead, (.box T_6bf9 (.ncons (.own 3) (.hole (.cons (.int .i64) .nil)))), (.box T_6bf9 (.ncons .nils (.hole (.cons (.int .i64) .nil)))), (.vec (.int .u8))]⟩)
def B_ref18_put_J2 : Blk := frBlk 1 [1] K0_ref18_put_J2 TM_ref18_put_J2 UO_ref18_put_J2 (fun k v => ref18_put_J2 k.1 v)
def gs_ref18_put : Nat → Option Blk := lk [(1, B_ref18_put_J1), (2, B_ref18_put_J2)]
theorem ct_ref18_put_J2 : CodeSound Try.prog (cx_ref18_put) (subL (subR (subR (bodyOf Try.f36)))) (B_ref18_put_J2).D :=
  join_sound (G := gs_ref18_put) (A := .leaf) (T0 := K0_ref18_put_J2) (T := TM_ref18_put_J2) (U := UO_ref18_put_J2) (F := (fun k v => ref18_put_J2 k.1 v)) (cxo_ref18_put) follows (by kernel_rfl) (CutsOk.leaf _) (by intro k v; kernel_rfl)
theorem ct_ref18_put_J1 : CodeSound Try.prog (cx_ref18_put) (subL (subR (bodyOf Try.f36))) (B_ref18_put_J1).D :=
  join_sound (G := gs_ref18_put) (A := .leaf) (T0 := K0_ref18_put_J1) (T := TM_ref18_put_J1) (U := UO_ref18_put_J1) (F := (fun k v => ref18_put_J1 v)) (cxo_ref18_put) follows (by kernel_rfl) (CutsOk.leaf _) (by intro k v; kernel_rfl)
theorem sd_ref18_put : FnSound Try.prog gl 36 sg_ref18_put :=
  fn_printed (G := gs_ref18_put) (A := (.two .leaf (.two (.cut 1) (.two (.cut 2) .leaf)))) (cxo_ref18_put) follows Try.func36 (by kernel_rfl) (by kernel_rfl) (by kernel_rfl) (by kernel_rfl) (by kernel_rfl) (CutsOk.two (CutsOk.leaf _) (CutsOk.two (CutsOk.cut (g := B_ref18_put_J1) (by kernel_rfl) (ct_ref18_put_J1)) (CutsOk.two (CutsOk.cut (g := B_ref18_put_J2) (by kernel_rfl) (ct_ref18_put_J2)) (CutsOk.leaf _)))) (by intro v; kernel_rfl)
def sg_ref18_AppendRice : Sig := mkSig [(.hole T_6bf9), (.hole (.int .u64)), (.hole (.int .i64))] [] [(.ncons (.own 0) (.hole (.cons (.int .i64) .nil))), (.hole (.int .i64))] [(.vec (.int .u8))] (fun p => ref18_AppendRice p.1.1 p.1.2.1 p.1.2.2.1)
theorem fk_ref18_AppendRice : FnOk Try.prog 21 := ⟨Try.f21, Try.func21, by kernel_rfl, by kernel_rfl⟩
def cx_ref18_AppendRice : Cx := ⟨tys, lk [(35 + 100000 * 0, sg_ref01_Join), (34 + 100000 * 0, sg_ref18_Valid), (36 + 100000 * 0, sg_ref18_put)], 75, 0, [], gl, []⟩
theorem cxo_ref18_AppendRice : CxOk Try.prog (cx_ref18_AppendRice) := ⟨tys_ok, FnsAll.cons 0 rfl fk_ref01_Join sd_ref01_Join (FnsAll.cons 0 rfl fk_ref18_Valid sd_ref18_Valid (FnsAll.cons 0 rfl fk_ref18_put sd_ref18_put (FnsAll.nil)))⟩
abbrev K0_ref18_AppendRice_L1 : List (Nat × Ty) := []
abbrev TM_ref18_AppendRice_L1 : Tm := ⟨[(6, (.ptr 0 [])), (8, (.ptr 1 [])), (9, (.hole (.int .u64)))], [(.box T_6bf9 (.ncons .nils (.hole (.cons (.int .i64) .nil)))), (.box T_6bf9 (.ncons (.own 2) (.hole (.cons (.int .i64) .nil)))), (.vec (.int .u8))]⟩
abbrev UO_ref18_AppendRice_L1 : Outs := (.one (.exit 1) ⟨[(6, (.ptr 0 [])), (8, (.ptr 1 []))], [(.box T_6bf9 (.ncons .nils (.hole (.cons (.int .i64) .nil)))), (.box T_6bf9 (.ncons (.own 2) (.hole (.cons (.int .i64) .nil)))), (.vec (.int .u8))]⟩)
def B_ref18_AppendRice_L1 : Blk := frBlk 0 [1, 2, 7] K0_ref18_AppendRice_L1 TM_ref18_AppendRice_L1 UO_ref18_AppendRice_L1 (fun k => loopV (fun v => ref18_AppendRice_L1 v))
abbrev K0_ref18_AppendRice_L2 : List (Nat × Ty) := [(1, (.int .u64))]
abbrev TM_ref18_AppendRice_L2 : Tm := ⟨[(6, (.ptr 0 [])), (8, (.ptr 1 [])), (10, (.hole (.int .i64)))], [(.box T_6bf9 (.ncons .nils (.hole (.cons (.int .i64) .nil)))), (.box T_6bf9 (.ncons (.own 2) (.hole (.cons (.int .i64) .nil)))), (.vec (.int .u8))]⟩
abbrev UO_ref18_AppendRice_L2 : Outs := (.one (.exit 3) ⟨[(6, (.ptr 0 [])), (8, (.ptr 1 []))], [(.box T_6bf9 (.ncons .nils (.hole (.cons (.int .i64) .nil)))), (.box T_6bf9 (.ncons (.own 2) (.hole (.cons (.int .i64) .nil)))), (.vec (.int .u8))]⟩)
def B_ref18_AppendRice_L2 : Blk := frBlk 0 [1, 7] K0_ref18_AppendRice_L2 TM_ref18_AppendRice_L2 UO_ref18_AppendRice_L2 (fun k => loopV (fun v => ref18_AppendRice_L2 k.1 v))
def gs_ref18_AppendRice : Nat → Option Blk := lk [(1, B_ref18_AppendRice_L1), (2, B_ref18_AppendRice_L2)]
theorem ct_ref18_AppendRice_L2 : CodeSound Try.prog (cx_ref18_AppendRice) (subL (subR (subL (subR (subR (subR (subR (subR (bodyOf Try.f21))))))))) (B_ref18_AppendRice_L2).D :=
  loop_printed (G := gs_ref18_AppendRice) (A := .leaf) (T0 := K0_ref18_AppendRice_L2) (T := TM_ref18_AppendRice_L2) (U := UO_ref18_AppendRice_L2) (step := (fun k v => ref18_AppendRice_L2 k.1 v)) (cxo_ref18_AppendRice) follows (by kernel_rfl) (by kernel_rfl) (CutsOk.leaf _) (by intro k v; kernel_rfl)
theorem ct_ref18_AppendRice_L1 : CodeSound Try.prog (cx_ref18_AppendRice) (subL (subR (subL (subR (subR (subR (bodyOf Try.f21))))))) (B_ref18_AppendRice_L1).D :=
  loop_printed (G := gs_ref18_AppendRice) (A := .leaf) (T0 := K0_ref18_AppendRice_L1) (T := TM_ref18_AppendRice_L1) (U := UO_ref18_AppendRice_L1) (step := (fun k v => ref18_AppendRice_L1 v)) (cxo_ref18_AppendRice) follows (by kernel_rfl) (by kernel_rfl) (CutsOk.leaf _) (by intro k v; kernel_rfl)
theorem sd_ref18_AppendRice : FnSound Try.prog gl 21 sg_ref18_AppendRice :=
  fn_printed (G := gs_ref18_AppendRice) (A := (.two .leaf (.two .leaf (.two .leaf (.two (.two .leaf (.two (.cut 1) .leaf)) (.two .leaf (.two (.two .leaf (.two (.cut 2) .leaf)) .leaf))))))) (cxo_ref18_AppendRice) follows Try.func21 (by kernel_rfl) (by kernel_rfl) (by kernel_rfl) (by kernel_rfl) (by kernel_rfl) (CutsOk.two (CutsOk.leaf _) (CutsOk.two (CutsOk.leaf _) (CutsOk.two (CutsOk.leaf _) (CutsOk.two (CutsOk.two (CutsOk.leaf _) (CutsOk.two (CutsOk.cut (g := B_ref18_AppendRice_L1) (by kernel_rfl) (ct_ref18_AppendRice_L1)) (CutsOk.leaf _))) (CutsOk.two (CutsOk.leaf _) (CutsOk.two (CutsOk.two (CutsOk.leaf _) (CutsOk.two (CutsOk.cut (g := B_ref18_AppendRice_L2) (by kernel_rfl) (ct_ref18_AppendRice_L2)) (CutsOk.leaf _))) (CutsOk.leaf _))))))) (by intro v; kernel_rfl)
def sg_ref18_number : Sig := mkSig [(.hole T_6bf9), (.hole (.int .i64)), (.hole (.int .i64))] [] [(.hole (.int .u64))] [] (fun p => ref18_number p.1.1 p.1.2.1 p.1.2.2.1)
theorem fk_ref18_number : FnOk Try.prog 42 := ⟨Try.f42, Try.func42, by kernel_rfl, by kernel_rfl⟩
def cx_ref18_number : Cx := ⟨tys, lk [(41 + 100000 * 0, sg_ref18_bit)], 25, 0, [], gl, []⟩
theorem cxo_ref18_number : CxOk Try.prog (cx_ref18_number) := ⟨tys_ok, FnsAll.cons 0 rfl fk_ref18_bit sd_ref18_bit (FnsAll.nil)⟩
abbrev K0_ref18_number_L1 : List (Nat × Ty) := [(1, (.int .i64)), (2, (.int .i64))]
abbrev TM_ref18_number_L1 : Tm := ⟨[(3, (.ptr 0 [])), (7, (.hole (.int .u64))), (8, (.hole (.int .i64)))], [(.box T_6bf9 (.hole T_6bf9))]⟩
abbrev UO_ref18_number_L1 : Outs := (.one (.exit 0) ⟨[(7, (.hole (.int .u64)))], []⟩)
def B_ref18_number_L1 : Blk := frBlk 0 [1, 2, 6] K0_ref18_number_L1 TM_ref18_number_L1 UO_ref18_number_L1 (fun k => loopV (fun v => ref18_number_L1 k.1 k.2.1 v))
def gs_ref18_number : Nat → Option Blk := lk [(1, B_ref18_number_L1)]
theorem ct_ref18_number_L1 : CodeSound Try.prog (cx_ref18_number) (subL (subR (subL (subR (subR (bodyOf Try.f42)))))) (B_ref18_number_L1).D :=
  loop_printed (G := gs_ref18_number) (A := .leaf) (T0 := K0_ref18_number_L1) (T := TM_ref18_number_L1) (U := UO_ref18_number_L1) (step := (fun k v => ref18_number_L1 k.1 k.2.1 v)) (cxo_ref18_number) follows (by kernel_rfl) (by kernel_rfl) (CutsOk.leaf _) (by intro k v; kernel_rfl)
theorem sd_ref18_number : FnSound Try.prog gl 42 sg_ref18_number :=
  fn_printed (G := gs_ref18_number) (A := (.two .leaf (.two .leaf (.two (.two .leaf (.two (.cut 1) .leaf)) .leaf)))) (cxo_ref18_number) follows Try.func42 (by kernel_rfl) (by kernel_rfl) (by kernel_rfl) (by kernel_rfl) (by kernel_rfl) (CutsOk.two (CutsOk.leaf _) (CutsOk.two (CutsOk.leaf _) (CutsOk.two (CutsOk.two (CutsOk.leaf _) (CutsOk.two (CutsOk.cut (g := B_ref18_number_L1) (by kernel_rfl) (ct_ref18_number_L1)) (CutsOk.leaf _))) (CutsOk.leaf _)))) (by intro v; kernel_rfl)
def sg_ref18_ReadRice : Sig := mkSig [(.hole T_6bf9), (.hole (.int .i64)), (.hole (.int .i64))] [] [(.hole (.int .u64)), (.hole (.int .i64)), (.hole (.int .i64))] [] (fun p => ref18_ReadRice p.1.1 p.1.2.1 p.1.2.2.1)
theorem fk_ref18_ReadRice : FnOk Try.prog 26 := ⟨Try.f26, Try.func26, by kernel_rfl, by kernel_rfl⟩
def cx_ref18_ReadRice : Cx := ⟨tys, lk [(34 + 100000 * 0, sg_ref18_Valid), (41 + 100000 * 0, sg_ref18_bit), (42 + 100000 * 0, sg_ref18_number)], 73, 0, [], gl, []⟩
theorem cxo_ref18_ReadRice : CxOk Try.prog (cx_ref18_ReadRice) := ⟨tys_ok, FnsAll.cons 0 rfl fk_ref18_Valid sd_ref18_Valid (FnsAll.cons 0 rfl fk_ref18_bit sd_ref18_bit (FnsAll.cons 0 rfl fk_ref18_number sd_ref18_number (FnsAll.nil)))⟩
abbrev K0_ref18_ReadRice_J1 : List (Nat × Ty) := [(1, (.int .i64)), (2, (.int .i64))]
abbrev TM_ref18_ReadRice_J1 : Tm := ⟨[(3, (.ptr 0 []))], [(.box T_6bf9 (.hole T_6bf9))]⟩
abbrev UO_ref18_ReadRice_J1 : Outs := (.one .normal ⟨[(3, (.ptr 0 [])), (28, (.hole .bool))], [(.box T_6bf9 (.hole T_6bf9))]⟩)
def B_ref18_ReadRice_J1 : Blk := frBlk 0 [1, 2, 6, 7, 8] K0_ref18_ReadRice_J1 TM_ref18_ReadRice_J1 UO_ref18_ReadRice_J1 (fun k v => ref18_ReadRice_J1 k.1 k.2.1 v)
abbrev K0_ref18_ReadRice_L2 : List (Nat × Ty) := [(1, (.int .i64))]
abbrev TM_ref18_ReadRice_L2 : Tm := ⟨[(3, (.ptr 0 [])), (9, (.hole (.int .i64)))], [(.box T_6bf9 (.hole T_6bf9))]⟩
abbrev UO_ref18_ReadRice_L2 : Outs := (.more .ret ⟨[(6, (.hole (.int .u64))), (7, (.hole (.int .i64))), (8, (.hole (.int .i64)))], []⟩ (.one (.exit 0) ⟨[(3, (.ptr 0 [])), (9, (.hole (.int .i64)))], [(.box T_6bf9 (.hole T_6bf9))]⟩))
def B_ref18_ReadRice_L2 : Blk := frBlk 0 [1, 2] K0_ref18_ReadRice_L2 TM_ref18_ReadRice_L2 UO_ref18_ReadRice_L2 (fun k => loopV (fun v => ref18_ReadRice_L2 k.1 v))
def gs_ref18_ReadRice : Nat → Option Blk := lk [(1, B_ref18_ReadRice_J1), (2, B_ref18_ReadRice_L2)]
theorem ct_ref18_ReadRice_L2 : CodeSound Try.prog (cx_ref18_ReadRice) (subL (subL (subR (subR (subR (subR (bodyOf Try.f26))))))) (B_ref18_ReadRice_L2).D :=
  loop_printed (G := gs_ref18_ReadRice) (A := .leaf) (T0 := K0_ref18_ReadRice_L2) (T := TM_ref18_ReadRice_L2) (U := UO_ref18_ReadRice_L2) (step := (fun k v => ref18_ReadRice_L2 k.1 v)) (cxo_ref18_ReadRice) follows (by kernel_rfl) (by kernel_rfl) (CutsOk.leaf _) (by intro k v; kernel_rfl)
theorem ct_ref18_ReadRice_J1 : CodeSound Try.prog (cx_ref18_ReadRice) (subL (subL (subR (subR (bodyOf Try.f26))))) (B_ref18_ReadRice_J1).D :=
  join_sound (G := gs_ref18_ReadRice) (A := .leaf) (T0 := K0_ref18_ReadRice_J1) (T := TM_ref18_ReadRice_J1) (U := UO_ref18_ReadRice_J1) (F := (fun k v => ref18_ReadRice_J1 k.1 k.2.1 v)) (cxo_ref18_ReadRice) follows (by kernel_rfl) (CutsOk.leaf _) (by intro k v; kernel_rfl)
theorem sd_ref18_ReadRice : FnSound Try.prog gl 26 sg_ref18_ReadRice :=
  fn_printed (G := gs_ref18_ReadRice) (A := (.two .leaf (.two .leaf (.two (.two (.cut 1) .leaf) (.two .leaf (.two (.two (.cut 2) .leaf) .leaf)))))) (cxo_ref18_ReadRice) follows Try.func26 (by kernel_rfl) (by kernel_rfl) (by kernel_rfl) (by kernel_rfl) (by kernel_rfl) (CutsOk.two (CutsOk.leaf _) (CutsOk.two (CutsOk.leaf _) (CutsOk.two (CutsOk.two (CutsOk.cut (g := B_ref18_ReadRice_J1) (by kernel_rfl) (ct_ref18_ReadRice_J1)) (CutsOk.leaf _)) (CutsOk.two (CutsOk.leaf _) (CutsOk.two (CutsOk.two (CutsOk.cut (g := B_ref18_ReadRice_L2) (by kernel_rfl) (ct_ref18_ReadRice_L2)) (CutsOk.leaf _)) (CutsOk.leaf _)))))) (by intro v; kernel_rfl)
def sg_ref18_Read : Sig := mkSig [(.hole T_6bf9), (.hole (.int .i64)), (.hole (.int .i64))] [] [(.hole (.int .u64)), (.hole (.int .i64)), (.hole (.int .i64))] [] (fun p => ref18_Read p.1.1 p.1.2.1 p.1.2.2.1)
theorem fk_ref18_Read : FnOk Try.prog 27 := ⟨Try.f27, Try.func27, by kernel_rfl, by kernel_rfl⟩
def cx_ref18_Read : Cx := ⟨tys, lk [(34 + 100000 * 0, sg_ref18_Valid), (42 + 100000 * 0, sg_ref18_number)], 44, 0, [], gl, []⟩
theorem cxo_ref18_Read : CxOk Try.prog (cx_ref18_Read) := ⟨tys_ok, FnsAll.cons 0 rfl fk_ref18_Valid sd_ref18_Valid (FnsAll.cons 0 rfl fk_ref18_number sd_ref18_number (FnsAll.nil))⟩
abbrev K0_ref18_Read_J1 : List (Nat × Ty) := [(1, (.int .i64)), (2, (.int .i64))]
abbrev TM_ref18_Read_J1 : Tm := ⟨[(3, (.ptr 0 []))], [(.box T_6bf9 (.hole T_6bf9))]⟩
abbrev UO_ref18_Read_J1 : Outs := (.one .normal ⟨[(3, (.ptr 0 [])), (13, (.hole .bool))], [(.box T_6bf9 (.hole T_6bf9))]⟩)
def B_ref18_Read_J1 : Blk := frBlk 0 [1, 2, 6, 7, 8] K0_ref18_Read_J1 TM_ref18_Read_J1 UO_ref18_Read_J1 (fun k v => ref18_Read_J1 k.1 k.2.1 v)
def gs_ref18_Read : Nat → Option Blk := lk [(1, B_ref18_Read_J1)]
theorem ct_ref18_Read_J1 : CodeSound Try.prog (cx_ref18_Read) (subL (subR (subR (subL (subL (subR (bodyOf Try.f27))))))) (B_ref18_Read_J1).D :=
  join_sound (G := gs_ref18_Read) (A := .leaf) (T0 := K0_ref18_Read_J1) (T := TM_ref18_Read_J1) (U := UO_ref18_Read_J1) (F := (fun k v => ref18_Read_J1 k.1 k.2.1 v)) (cxo_ref18_Read) follows (by kernel_rfl) (CutsOk.leaf _) (by intro k v; kernel_rfl)
theorem sd_ref18_Read : FnSound Try.prog gl 27 sg_ref18_Read :=
  fn_printed (G := gs_ref18_Read) (A := (.two .leaf (.two (.two (.two .leaf (.two .leaf (.two (.cut 1) .leaf))) .leaf) .leaf))) (cxo_ref18_Read) follows Try.func27 (by kernel_rfl) (by kernel_rfl) (by kernel_rfl) (by kernel_rfl) (by kernel_rfl) (CutsOk.two (CutsOk.leaf _) (CutsOk.two (CutsOk.two (CutsOk.two (CutsOk.leaf _) (CutsOk.two (CutsOk.leaf _) (CutsOk.two (CutsOk.cut (g := B_ref18_Read_J1) (by kernel_rfl) (ct_ref18_Read_J1)) (CutsOk.leaf _)))) (CutsOk.leaf _)) (CutsOk.leaf _))) (by intro v; kernel_rfl)
end Go.PE.Ytmhkkhdpcnehbaa
end
end

section
set_option maxRecDepth 100000
set_option linter.unusedVariables false
noncomputable section
namespace Go.PE.Ytmhkkhdpcnehbaa
open Go.PE Go.Proofs

def sg_ref19_Encode : Sig := mkSig [(.hole (.slice (.int .u64))), (.hole (.int .i64))] [] [(.ncons (.hole (.int .i64)) (.ncons (.own 0) .nnil)), (.hole (.int .i64))] [(.vec (.int .u8))] (fun p => ref19_Encode p.1.1 p.1.2.1)
theorem fk_ref19_Encode : FnOk Try.prog 11 := ⟨Try.f11, Try.func11, by kernel_rfl, by kernel_rfl⟩
def cx_ref19_Encode : Cx := ⟨tys, lk [(21 + 100000 * 0, sg_ref18_AppendRice)], 68, 0, [], gl, []⟩
theorem cxo_ref19_Encode : CxOk Try.prog (cx_ref19_Encode) := ⟨tys_ok, FnsAll.cons 0 rfl fk_ref18_AppendRice sd_ref18_AppendRice (FnsAll.nil)⟩
abbrev K0_ref19_Encode_L1 : List (Nat × Ty) := [(0, (.slice (.int .u64)))]
abbrev TM_ref19_Encode_L1 : Tm := ⟨[(4, (.ptr 0 [])), (6, (.hole (.int .i64)))], [(.box T_b101 (.ncons (.hole (.int .i64)) (.ncons .nils .nnil)))]⟩
abbrev UO_ref19_Encode_L1 : Outs := (.more .ret ⟨[(4, (.ptr 0 [])), (5, (.hole (.int .i64)))], [(.box T_b101 (.ncons (.hole (.int .i64)) (.ncons .nils .nnil)))]⟩ (.one (.exit 0) ⟨[(4, (.ptr 0 []))], [(.box T_b101 (.ncons (.hole (.int .i64)) (.ncons .nils .nnil)))]⟩))
def B_ref19_Encode_L1 : Blk := frBlk 0 [0, 1] K0_ref19_Encode_L1 TM_ref19_Encode_L1 UO_ref19_Encode_L1 (fun k => loopV (fun v => ref19_Encode_L1 k.1 v))
abbrev K0_ref19_Encode_L2 : List (Nat × Ty) := [(1, (.int .i64)), (41, (.slice (.int .u64))), (42, (.int .i64))]
abbrev TM_ref19_Encode_L2 : Tm := ⟨[(4, (.ptr 0 [])), (7, (.ptr 1 [])), (8, (.hole (.int .u64))), (43, (.hole (.int .i64)))], [(.box T_b101 (.ncons (.hole (.int .i64)) (.ncons .nils .nnil))), (.box T_6bf9 (.ncons (.own 2) (.hole (.cons (.int .i64) .nil)))), (.vec (.int .u8))]⟩
abbrev UO_ref19_Encode_L2 : Outs := (.more .ret ⟨[(4, (.ptr 0 [])), (5, (.hole (.int .i64)))], [(.box T_b101 (.ncons (.hole (.int .i64)) (.ncons .nils .nnil)))]⟩ (.one (.exit 2) ⟨[(4, (.ptr 0 [])), (7, (.ptr 1 []))], [(.box T_b101 (.ncons (.hole (.int .i64)) (.ncons .nils .nnil))), (.box T_6bf9 (.ncons (.own 2) (.hole (.cons (.int .i64) .nil)))), (.vec (.int .u8))]⟩))
def B_ref19_Encode_L2 : Blk := frBlk 0 [0, 1, 41, 42] K0_ref19_Encode_L2 TM_ref19_Encode_L2 UO_ref19_Encode_L2 (fun k => loopV (fun v => ref19_Encode_L2 k.1 k.2.1 k.2.2.1 v))
def gs_ref19_Encode : Nat → Option Blk := lk [(1, B_ref19_Encode_L1), (2, B_ref19_Encode_L2)]
theorem ct_ref19_Encode_L2 : CodeSound Try.prog (cx_ref19_Encode) (subL (subR (subL (subR (subR (subR (subR (subR (subR (bodyOf Try.f11)))))))))) (B_ref19_Encode_L2).D :=
  loop_printed (G := gs_ref19_Encode) (A := .leaf) (T0 := K0_ref19_Encode_L2) (T := TM_ref19_Encode_L2) (U := UO_ref19_Encode_L2) (step := (fun k v => ref19_Encode_L2 k.1 k.2.1 k.2.2.1 v)) (cxo_ref19_Encode) follows (by kernel_rfl) (by kernel_rfl) (CutsOk.leaf _) (by intro k v; kernel_rfl)
theorem ct_ref19_Encode_L1 : CodeSound Try.prog (cx_ref19_Encode) (subL (subR (subL (subR (subR (subR (bodyOf Try.f11))))))) (B_ref19_Encode_L1).D :=
  loop_printed (G := gs_ref19_Encode) (A := .leaf) (T0 := K0_ref19_Encode_L1) (T := TM_ref19_Encode_L1) (U := UO_ref19_Encode_L1) (step := (fun k v => ref19_Encode_L1 k.1 v)) (cxo_ref19_Encode) follows (by kernel_rfl) (by kernel_rfl) (CutsOk.leaf _) (by intro k v; kernel_rfl)
theorem sd_ref19_Encode : FnSound Try.prog gl 11 sg_ref19_Encode :=
  fn_printed (G := gs_ref19_Encode) (A := (.two .leaf (.two .leaf (.two .leaf (.two (.two .leaf (.two (.cut 1) .leaf)) (.two .leaf (.two .leaf (.two (.two .leaf (.two (.cut 2) .leaf)) .leaf)))))))) (cxo_ref19_Encode) follows Try.func11 (by kernel_rfl) (by kernel_rfl) (by kernel_rfl) (by kernel_rfl) (by kernel_rfl) (CutsOk.two (CutsOk.leaf _) (CutsOk.two (CutsOk.leaf _) (CutsOk.two (CutsOk.leaf _) (CutsOk.two (CutsOk.two (CutsOk.leaf _) (CutsOk.two (CutsOk.cut (g := B_ref19_Encode_L1) (by kernel_rfl) (ct_ref19_Encode_L1)) (CutsOk.leaf _))) (CutsOk.two (CutsOk.leaf _) (CutsOk.two (CutsOk.leaf _) (CutsOk.two (CutsOk.two (CutsOk.leaf _) (CutsOk.two (CutsOk.cut (g := B_ref19_Encode_L2) (by kernel_rfl) (ct_ref19_Encode_L2)) (CutsOk.leaf _))) (CutsOk.leaf _)))))))) (by intro v; kernel_rfl)
def sg_ref19_Same : Sig := mkSig [(.hole T_b101), (.hole T_b101)] [] [(.hole .bool)] [] (fun p => ref19_Same p.1.1 p.1.2.1)
theorem fk_ref19_Same : FnOk Try.prog 12 := ⟨Try.f12, Try.func12, by kernel_rfl, by kernel_rfl⟩
def cx_ref19_Same : Cx := ⟨tys, lk [(22 + 100000 * 0, sg_ref01_Same)], 17, 0, [], gl, []⟩
theorem cxo_ref19_Same : CxOk Try.prog (cx_ref19_Same) := ⟨tys_ok, FnsAll.cons 0 rfl fk_ref01_Same sd_ref01_Same (FnsAll.nil)⟩
def gs_ref19_Same : Nat → Option Blk := lk []
theorem sd_ref19_Same : FnSound Try.prog gl 12 sg_ref19_Same :=
  fn_printed (G := gs_ref19_Same) (A := .leaf) (cxo_ref19_Same) follows Try.func12 (by kernel_rfl) (by kernel_rfl) (by kernel_rfl) (by kernel_rfl) (by kernel_rfl) (CutsOk.leaf _) (by intro v; kernel_rfl)
def sg_ref19_Decode : Sig := mkSig [(.hole T_b101), (.hole (.int .i64))] [] [(.own 0), (.hole (.int .i64))] [(.vec (.int .u64))] (fun p => ref19_Decode p.1.1 p.1.2.1)
theorem fk_ref19_Decode : FnOk Try.prog 16 := ⟨Try.f16, Try.func16, by kernel_rfl, by kernel_rfl⟩
def cx_ref19_Decode : Cx := ⟨tys, lk [(27 + 100000 * 0, sg_ref18_Read), (26 + 100000 * 0, sg_ref18_ReadRice)], 91, 0, [], gl, []⟩
theorem cxo_ref19_Decode : CxOk Try.prog (cx_ref19_Decode) := ⟨tys_ok, FnsAll.cons 0 rfl fk_ref18_Read sd_ref18_Read (FnsAll.cons 0 rfl fk_ref18_ReadRice sd_ref18_ReadRice (FnsAll.nil))⟩
abbrev K0_ref19_Decode_L1 : List (Nat × Ty) := [(1, (.int .i64))]
abbrev TM_ref19_Decode_L1 : Tm := ⟨[(2, (.ptr 0 [])), (6, (.ptr 1 [])), (7, (.own 2)), (8, (.hole (.int .i64))), (9, (.hole (.int .u64)))], [(.box T_b101 (.hole T_b101)), (.box T_6bf9 (.hole T_6bf9)), (.vec (.int .u64))]⟩
abbrev UO_ref19_Decode_L1 : Outs := (.more .ret ⟨[(4, .nils), (5, (.hole (.int .i64)))], []⟩ (.one (.exit 0) ⟨[(6, (.ptr 0 [])), (7, (.own 1)), (8, (.hole (.int .i64)))], [(.box T_6bf9 (.hole T_6bf9)), (.vec (.int .u64))]⟩))
def B_ref19_Decode_L1 : Blk := frBlk 0 [1] K0_ref19_Decode_L1 TM_ref19_Decode_L1 UO_ref19_Decode_L1 (fun k => loopV (fun v => ref19_Decode_L1 k.1 v))
def gs_ref19_Decode : Nat → Option Blk := lk [(1, B_ref19_Decode_L1)]
theorem ct_ref19_Decode_L1 : CodeSound Try.prog (cx_ref19_Decode) (subL (subL (subR (subR (subR (subR (subR (subR (bodyOf Try.f16))))))))) (B_ref19_Decode_L1).D :=
  loop_printed (G := gs_ref19_Decode) (A := .leaf) (T0 := K0_ref19_Decode_L1) (T := TM_ref19_Decode_L1) (U := UO_ref19_Decode_L1) (step := (fun k v => ref19_Decode_L1 k.1 v)) (cxo_ref19_Decode) follows (by kernel_rfl) (by kernel_rfl) (CutsOk.leaf _) (by intro k v; kernel_rfl)
theorem sd_ref19_Decode : FnSound Try.prog gl 16 sg_ref19_Decode :=
  fn_printed (G := gs_ref19_Decode) (A := (.two .leaf (.two .leaf (.two .leaf (.two .leaf (.two .leaf (.two .leaf (.two (.two (.cut 1) .leaf) .leaf)))))))) (cxo_ref19_Decode) follows Try.func16 (by kernel_rfl) (by kernel_rfl) (by kernel_rfl) (by kernel_rfl) (by kernel_rfl) (CutsOk.two (CutsOk.leaf _) (CutsOk.two (CutsOk.leaf _) (CutsOk.two (CutsOk.leaf _) (CutsOk.two (CutsOk.leaf _) (CutsOk.two (CutsOk.leaf _) (CutsOk.two (CutsOk.leaf _) (CutsOk.two (CutsOk.two (CutsOk.cut (g := B_ref19_Decode_L1) (by kernel_rfl) (ct_ref19_Decode_L1)) (CutsOk.leaf _)) (CutsOk.leaf _)))))))) (by intro v; kernel_rfl)
end Go.PE.Ytmhkkhdpcnehbaa
end
end

section
set_option maxRecDepth 100000
set_option linter.unusedVariables false
noncomputable section
namespace Go.PE.Ytmhkkhdpcnehbaa
open Go.PE Go.Proofs

def sg_law19_sane : Sig := mkSig [] [] [(.hole .bool)] [] (fun p => law19_sane)
theorem fk_law19_sane : FnOk Try.prog 9 := ⟨Try.f9, Try.func9, by kernel_rfl, by kernel_rfl⟩
def cx_law19_sane : Cx := ⟨tys, lk [(14 + 100000 * 0, sg_golomb_Build), (10 + 100000 * 0, sg_golomb_Encode)], 50, 0, [], gl, []⟩
theorem cxo_law19_sane : CxOk Try.prog (cx_law19_sane) := ⟨tys_ok, FnsAll.cons 0 rfl fk_golomb_Build sd_golomb_Build (FnsAll.cons 0 rfl fk_golomb_Encode sd_golomb_Encode (FnsAll.nil))⟩
def gs_law19_sane : Nat → Option Blk := lk []
theorem sd_law19_sane : FnSound Try.prog gl 9 sg_law19_sane :=
  fn_printed (G := gs_law19_sane) (A := .leaf) (cxo_law19_sane) follows Try.func9 (by kernel_rfl) (by kernel_rfl) (by kernel_rfl) (by kernel_rfl) (by kernel_rfl) (CutsOk.leaf _) (by intro v; kernel_rfl)
def sg_law19_GolombEncodes : Sig := mkSig [(.hole (.slice (.int .u64))), (.hole (.int .i64))] [] [(.hole .bool)] [] (fun p => law19_GolombEncodes p.1.1 p.1.2.1)
theorem fk_law19_GolombEncodes : FnOk Try.prog 3 := ⟨Try.f3, Try.func3, by kernel_rfl, by kernel_rfl⟩
def cx_law19_GolombEncodes : Cx := ⟨tys, lk [(10 + 100000 * 0, sg_golomb_Encode), (9 + 100000 * 0, sg_law19_sane), (11 + 100000 * 0, sg_ref19_Encode), (12 + 100000 * 0, sg_ref19_Same)], 34, 0, [], gl, []⟩
theorem cxo_law19_GolombEncodes : CxOk Try.prog (cx_law19_GolombEncodes) := ⟨tys_ok, FnsAll.cons 0 rfl fk_golomb_Encode sd_golomb_Encode (FnsAll.cons 0 rfl fk_law19_sane sd_law19_sane (FnsAll.cons 0 rfl fk_ref19_Encode sd_ref19_Encode (FnsAll.cons 0 rfl fk_ref19_Same sd_ref19_Same (FnsAll.nil))))⟩
def gs_law19_GolombEncodes : Nat → Option Blk := lk []
theorem sd_law19_GolombEncodes : FnSound Try.prog gl 3 sg_law19_GolombEncodes :=
  fn_printed (G := gs_law19_GolombEncodes) (A := .leaf) (cxo_law19_GolombEncodes) follows Try.func3 (by kernel_rfl) (by kernel_rfl) (by kernel_rfl) (by kernel_rfl) (by kernel_rfl) (CutsOk.leaf _) (by intro v; kernel_rfl)
def sg_law19_GolombRepeats : Sig := mkSig [(.hole (.arr 2 (.int .u64))), (.hole (.slice (.slice (.int .u8)))), (.hole (.int .u8)), (.hole (.int .u8)), (.hole (.int .u16))] [] [(.hole .bool)] [] (fun p => law19_GolombRepeats p.1.1 p.1.2.1 p.1.2.2.1 p.1.2.2.2.1 p.1.2.2.2.2.1)
theorem fk_law19_GolombRepeats : FnOk Try.prog 4 := ⟨Try.f4, Try.func4, by kernel_rfl, by kernel_rfl⟩
def cx_law19_GolombRepeats : Cx := ⟨tys, lk [(14 + 100000 * 0, sg_golomb_Build), (13 + 100000 * 0, sg_keep_Items), (9 + 100000 * 0, sg_law19_sane), (12 + 100000 * 0, sg_ref19_Same)], 73, 0, [], gl, []⟩
theorem cxo_law19_GolombRepeats : CxOk Try.prog (cx_law19_GolombRepeats) := ⟨tys_ok, FnsAll.cons 0 rfl fk_golomb_Build sd_golomb_Build (FnsAll.cons 0 rfl fk_keep_Items sd_keep_Items (FnsAll.cons 0 rfl fk_law19_sane sd_law19_sane (FnsAll.cons 0 rfl fk_ref19_Same sd_ref19_Same (FnsAll.nil))))⟩
def gs_law19_GolombRepeats : Nat → Option Blk := lk []
theorem sd_law19_GolombRepeats : FnSound Try.prog gl 4 sg_law19_GolombRepeats :=
  fn_printed (G := gs_law19_GolombRepeats) (A := .leaf) (cxo_law19_GolombRepeats) follows Try.func4 (by kernel_rfl) (by kernel_rfl) (by kernel_rfl) (by kernel_rfl) (by kernel_rfl) (CutsOk.leaf _) (by intro v; kernel_rfl)
def sg_law19_same : Sig := mkSig [(.hole (.slice (.int .u64))), (.hole (.slice (.int .u64)))] [] [(.hole .bool)] [] (fun p => law19_same p.1.1 p.1.2.1)
theorem fk_law19_same : FnOk Try.prog 17 := ⟨Try.f17, Try.func17, by kernel_rfl, by kernel_rfl⟩
def cx_law19_same : Cx := ⟨tys, lk [], 26, 0, [], gl, []⟩
theorem cxo_law19_same : CxOk Try.prog (cx_law19_same) := ⟨tys_ok, FnsAll.nil⟩
abbrev K0_law19_same_L1 : List (Nat × Ty) := [(0, (.slice (.int .u64))), (1, (.slice (.int .u64))), (12, (.int .i64))]
abbrev TM_law19_same_L1 : Tm := ⟨[(13, (.hole (.int .i64)))], []⟩
abbrev UO_law19_same_L1 : Outs := (.more .ret ⟨[(4, (.hole .bool))], []⟩ (.one (.exit 0) ⟨[], []⟩))
def B_law19_same_L1 : Blk := frBlk 0 [0, 1, 12] K0_law19_same_L1 TM_law19_same_L1 UO_law19_same_L1 (fun k => loopV (fun v => law19_same_L1 k.1 k.2.1 k.2.2.1 v))
def gs_law19_same : Nat → Option Blk := lk [(1, B_law19_same_L1)]
theorem ct_law19_same_L1 : CodeSound Try.prog (cx_law19_same) (subL (subR (subL (subR (subR (bodyOf Try.f17)))))) (B_law19_same_L1).D :=
  loop_printed (G := gs_law19_same) (A := .leaf) (T0 := K0_law19_same_L1) (T := TM_law19_same_L1) (U := UO_law19_same_L1) (step := (fun k v => law19_same_L1 k.1 k.2.1 k.2.2.1 v)) (cxo_law19_same) follows (by kernel_rfl) (by kernel_rfl) (CutsOk.leaf _) (by intro k v; kernel_rfl)
theorem sd_law19_same : FnSound Try.prog gl 17 sg_law19_same :=
  fn_printed (G := gs_law19_same) (A := (.two .leaf (.two .leaf (.two (.two .leaf (.two (.cut 1) .leaf)) .leaf)))) (cxo_law19_same) follows Try.func17 (by kernel_rfl) (by kernel_rfl) (by kernel_rfl) (by kernel_rfl) (by kernel_rfl) (CutsOk.two (CutsOk.leaf _) (CutsOk.two (CutsOk.leaf _) (CutsOk.two (CutsOk.two (CutsOk.leaf _) (CutsOk.two (CutsOk.cut (g := B_law19_same_L1) (by kernel_rfl) (ct_law19_same_L1)) (CutsOk.leaf _))) (CutsOk.leaf _)))) (by intro v; kernel_rfl)
def sg_law19_GolombDecodes : Sig := mkSig [(.hole T_b101), (.hole (.int .i64))] [] [(.hole .bool)] [] (fun p => law19_GolombDecodes p.1.1 p.1.2.1)
theorem fk_law19_GolombDecodes : FnOk Try.prog 5 := ⟨Try.f5, Try.func5, by kernel_rfl, by kernel_rfl⟩
def cx_law19_GolombDecodes : Cx := ⟨tys, lk [(15 + 100000 * 0, sg_golomb_Decode), (17 + 100000 * 0, sg_law19_same), (9 + 100000 * 0, sg_law19_sane), (16 + 100000 * 0, sg_ref19_Decode)], 35, 0, [], gl, []⟩
theorem cxo_law19_GolombDecodes : CxOk Try.prog (cx_law19_GolombDecodes) := ⟨tys_ok, FnsAll.cons 0 rfl fk_golomb_Decode sd_golomb_Decode (FnsAll.cons 0 rfl fk_law19_same sd_law19_same (FnsAll.cons 0 rfl fk_law19_sane sd_law19_sane (FnsAll.cons 0 rfl fk_ref19_Decode sd_ref19_Decode (FnsAll.nil))))⟩
def gs_law19_GolombDecodes : Nat → Option Blk := lk []
theorem sd_law19_GolombDecodes : FnSound Try.prog gl 5 sg_law19_GolombDecodes :=
  fn_printed (G := gs_law19_GolombDecodes) (A := .leaf) (cxo_law19_GolombDecodes) follows Try.func5 (by kernel_rfl) (by kernel_rfl) (by kernel_rfl) (by kernel_rfl) (by kernel_rfl) (CutsOk.leaf _) (by intro v; kernel_rfl)
def sg_law19_GolombBack : Sig := mkSig [(.hole (.slice (.int .u16))), (.hole T_b101), (.hole (.int .u8))] [] [(.hole .bool)] [] (fun p => law19_GolombBack p.1.1 p.1.2.1 p.1.2.2.1)
theorem fk_law19_GolombBack : FnOk Try.prog 6 := ⟨Try.f6, Try.func6, by kernel_rfl, by kernel_rfl⟩
def cx_law19_GolombBack : Cx := ⟨tys, lk [(15 + 100000 * 0, sg_golomb_Decode), (10 + 100000 * 0, sg_golomb_Encode), (17 + 100000 * 0, sg_law19_same), (9 + 100000 * 0, sg_law19_sane), (12 + 100000 * 0, sg_ref19_Same)], 102, 0, [], gl, []⟩
theorem cxo_law19_GolombBack : CxOk Try.prog (cx_law19_GolombBack) := ⟨tys_ok, FnsAll.cons 0 rfl fk_golomb_Decode sd_golomb_Decode (FnsAll.cons 0 rfl fk_golomb_Encode sd_golomb_Encode (FnsAll.cons 0 rfl fk_law19_same sd_law19_same (FnsAll.cons 0 rfl fk_law19_sane sd_law19_sane (FnsAll.cons 0 rfl fk_ref19_Same sd_ref19_Same (FnsAll.nil)))))⟩
abbrev K0_law19_GolombBack_L1 : List (Nat × Ty) := [(30, (.slice (.int .u16))), (31, (.int .i64))]
abbrev TM_law19_GolombBack_L1 : Tm := ⟨[(4, (.ptr 0 [])), (8, (.own 1)), (32, (.hole (.int .i64)))], [(.box T_b101 (.hole T_b101)), (.vec (.int .u64))]⟩
abbrev UO_law19_GolombBack_L1 : Outs := (.one (.exit 0) ⟨[(4, (.ptr 0 [])), (8, (.own 1))], [(.box T_b101 (.hole T_b101)), (.vec (.int .u64))]⟩)
def B_law19_GolombBack_L1 : Blk := frBlk 0 [6, 7, 30, 31] K0_law19_GolombBack_L1 TM_law19_GolombBack_L1 UO_law19_GolombBack_L1 (fun k => loopV (fun v => law19_GolombBack_L1 k.1 k.2.1 v))
def gs_law19_GolombBack : Nat → Option Blk := lk [(1, B_law19_GolombBack_L1)]
theorem ct_law19_GolombBack_L1 : CodeSound Try.prog (cx_law19_GolombBack) (subL (subR (subL (subR (subR (subR (subR (subR (bodyOf Try.f6))))))))) (B_law19_GolombBack_L1).D :=
  loop_printed (G := gs_law19_GolombBack) (A := .leaf) (T0 := K0_law19_GolombBack_L1) (T := TM_law19_GolombBack_L1) (U := UO_law19_GolombBack_L1) (step := (fun k v => law19_GolombBack_L1 k.1 k.2.1 v)) (cxo_law19_GolombBack) follows (by kernel_rfl) (by kernel_rfl) (CutsOk.leaf _) (by intro k v; kernel_rfl)
theorem sd_law19_GolombBack : FnSound Try.prog gl 6 sg_law19_GolombBack :=
  fn_printed (G := gs_law19_GolombBack) (A := (.two .leaf (.two .leaf (.two .leaf (.two .leaf (.two .leaf (.two (.two .leaf (.two (.cut 1) .leaf)) .leaf))))))) (cxo_law19_GolombBack) follows Try.func6 (by kernel_rfl) (by kernel_rfl) (by kernel_rfl) (by kernel_rfl) (by kernel_rfl) (CutsOk.two (CutsOk.leaf _) (CutsOk.two (CutsOk.leaf _) (CutsOk.two (CutsOk.leaf _) (CutsOk.two (CutsOk.leaf _) (CutsOk.two (CutsOk.leaf _) (CutsOk.two (CutsOk.two (CutsOk.leaf _) (CutsOk.two (CutsOk.cut (g := B_law19_GolombBack_L1) (by kernel_rfl) (ct_law19_GolombBack_L1)) (CutsOk.leaf _))) (CutsOk.leaf _))))))) (by intro v; kernel_rfl)
end Go.PE.Ytmhkkhdpcnehbaa
end
end
