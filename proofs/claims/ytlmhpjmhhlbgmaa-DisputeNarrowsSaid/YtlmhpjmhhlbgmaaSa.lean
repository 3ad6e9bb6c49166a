/- The functions of the program do what their printed texts say; no condition. -/
import Derived.Test.YtlmhpjmhhlbgmaaProg
import Derived.Test.YtlmhpjmhhlbgmaaQc
import Derived.Test.YtlmhpjmhhlbgmaaPa
import Derived.KernelRfl
section
set_option maxRecDepth 100000
noncomputable section
namespace Go.PE.Ytlmhpjmhhlbgmaa
open Go.PE Go.Proofs
def gl : Gl := fun _ => none
def tys : Nat → Option Ty := lk [(3, (.int .i64)), (4, .bool), (5, (.int .u8)), (9, .str), (23, (.arr 32 (.int .u8))), (24, (.slice T_6649)), (26, T_2c9a), (31, (.slice (.int .i64))), (32, (.int .i64)), (39, T_6649), (49, (.int .u64))]
theorem follows : Try.prog.follows .mixedOrders = true := by kernel_rfl
theorem ty_3 : fitTy Try.prog (.int .i64) (.id 3) = true := by kernel_rfl
theorem ty_4 : fitTy Try.prog .bool (.id 4) = true := by kernel_rfl
theorem ty_5 : fitTy Try.prog (.int .u8) (.id 5) = true := by kernel_rfl
theorem ty_9 : fitTy Try.prog .str (.id 9) = true := by kernel_rfl
theorem ty_23 : fitTy Try.prog (.arr 32 (.int .u8)) (.id 23) = true := by kernel_rfl
theorem ty_24 : fitTy Try.prog (.slice T_6649) (.id 24) = true := by kernel_rfl
theorem ty_26 : fitTy Try.prog T_2c9a (.id 26) = true := by kernel_rfl
theorem ty_31 : fitTy Try.prog (.slice (.int .i64)) (.id 31) = true := by kernel_rfl
theorem ty_32 : fitTy Try.prog (.int .i64) (.id 32) = true := by kernel_rfl
theorem ty_39 : fitTy Try.prog T_6649 (.id 39) = true := by kernel_rfl
theorem ty_49 : fitTy Try.prog (.int .u64) (.id 49) = true := by kernel_rfl
theorem dep : Nat.ble 62 Try.prog.depth = true := by kernel_rfl
theorem tys_ok : TyOk Try.prog tys := TyOk.lk_cons ty_3 (TyOk.lk_cons ty_4 (TyOk.lk_cons ty_5 (TyOk.lk_cons ty_9 (TyOk.lk_cons ty_23 (TyOk.lk_cons ty_24 (TyOk.lk_cons ty_26 (TyOk.lk_cons ty_31 (TyOk.lk_cons ty_32 (TyOk.lk_cons ty_39 (TyOk.lk_cons ty_49 (TyOk.lk_nil (Nat.le_of_ble_eq_true dep))))))))))))
end Go.PE.Ytlmhpjmhhlbgmaa
end
end

section
set_option maxRecDepth 100000
set_option linter.unusedVariables false
noncomputable section
namespace Go.PE.Ytlmhpjmhhlbgmaa
open Go.PE Go.Proofs

def sg_math_bits_Len64 : Sig := mkSig [(.hole (.int .u64))] [] [(.hole (.int .i64))] [] (fun p => math_bits_Len64 p.1.1)
theorem fk_math_bits_Len64 : FnOk Try.prog 20 := ⟨Try.f20, Try.func20, by kernel_rfl, by kernel_rfl⟩
def cx_math_bits_Len64 : Cx := ⟨tys, lk [], 25, 0, [], gl⟩
theorem cxo_math_bits_Len64 : CxOk Try.prog (cx_math_bits_Len64) := ⟨tys_ok, FnsOk.nil⟩
abbrev K0_math_bits_Len64_J1 : List (Nat × Ty) := []
abbrev TM_math_bits_Len64_J1 : Tm := ⟨[(0, (.hole (.int .u64))), (2, (.hole (.int .i64)))], []⟩
abbrev UO_math_bits_Len64_J1 : Outs := (.one .normal ⟨[(0, (.hole (.int .u64))), (2, (.hole (.int .i64)))], []⟩)
def B_math_bits_Len64_J1 : Blk := frBlk 0 [] K0_math_bits_Len64_J1 TM_math_bits_Len64_J1 UO_math_bits_Len64_J1 (fun k v => math_bits_Len64_J1 v)
abbrev K0_math_bits_Len64_J2 : List (Nat × Ty) := []
abbrev TM_math_bits_Len64_J2 : Tm := ⟨[(0, (.hole (.int .u64))), (2, (.hole (.int .i64)))], []⟩
abbrev UO_math_bits_Len64_J2 : Outs := (.one .normal ⟨[(0, (.hole (.int .u64))), (2, (.hole (.int .i64)))], []⟩)
def B_math_bits_Len64_J2 : Blk := frBlk 0 [] K0_math_bits_Len64_J2 TM_math_bits_Len64_J2 UO_math_bits_Len64_J2 (fun k v => math_bits_Len64_J2 v)
abbrev K0_math_bits_Len64_J3 : List (Nat × Ty) := []
abbrev TM_math_bits_Len64_J3 : Tm := ⟨[(0, (.hole (.int .u64))), (2, (.hole (.int .i64)))], []⟩
abbrev UO_math_bits_Len64_J3 : Outs := (.one .normal ⟨[(0, (.hole (.int .u64))), (2, (.hole (.int .i64)))], []⟩)
def B_math_bits_Len64_J3 : Blk := frBlk 0 [] K0_math_bits_Len64_J3 TM_math_bits_Len64_J3 UO_math_bits_Len64_J3 (fun k v => math_bits_Len64_J3 v)
def gs_math_bits_Len64 : Nat → Option Blk := lk [(1, B_math_bits_Len64_J1), (2, B_math_bits_Len64_J2), (3, B_math_bits_Len64_J3)]
theorem ct_math_bits_Len64_J3 : CodeSound Try.prog (cx_math_bits_Len64) (subL (subR (subR (subR (bodyOf Try.f20))))) (B_math_bits_Len64_J3).D :=
  join_sound (G := gs_math_bits_Len64) (A := .leaf) (T0 := K0_math_bits_Len64_J3) (T := TM_math_bits_Len64_J3) (U := UO_math_bits_Len64_J3) (F := (fun k v => math_bits_Len64_J3 v)) (cxo_math_bits_Len64) follows (by kernel_rfl) (CutsOk.leaf _) (by intro k v; kernel_rfl)
theorem ct_math_bits_Len64_J2 : CodeSound Try.prog (cx_math_bits_Len64) (subL (subR (subR (bodyOf Try.f20)))) (B_math_bits_Len64_J2).D :=
  join_sound (G := gs_math_bits_Len64) (A := .leaf) (T0 := K0_math_bits_Len64_J2) (T := TM_math_bits_Len64_J2) (U := UO_math_bits_Len64_J2) (F := (fun k v => math_bits_Len64_J2 v)) (cxo_math_bits_Len64) follows (by kernel_rfl) (CutsOk.leaf _) (by intro k v; kernel_rfl)
theorem ct_math_bits_Len64_J1 : CodeSound Try.prog (cx_math_bits_Len64) (subL (subR (bodyOf Try.f20))) (B_math_bits_Len64_J1).D :=
  join_sound (G := gs_math_bits_Len64) (A := .leaf) (T0 := K0_math_bits_Len64_J1) (T := TM_math_bits_Len64_J1) (U := UO_math_bits_Len64_J1) (F := (fun k v => math_bits_Len64_J1 v)) (cxo_math_bits_Len64) follows (by kernel_rfl) (CutsOk.leaf _) (by intro k v; kernel_rfl)
theorem sd_math_bits_Len64 : FnSound Try.prog gl 20 sg_math_bits_Len64 :=
  fn_printed (G := gs_math_bits_Len64) (A := (.two .leaf (.two (.cut 1) (.two (.cut 2) (.two (.cut 3) .leaf))))) (cxo_math_bits_Len64) follows Try.func20 (by kernel_rfl) (by kernel_rfl) (by kernel_rfl) (by kernel_rfl) (by kernel_rfl) (CutsOk.two (CutsOk.leaf _) (CutsOk.two (CutsOk.cut (g := B_math_bits_Len64_J1) (by kernel_rfl) (ct_math_bits_Len64_J1)) (CutsOk.two (CutsOk.cut (g := B_math_bits_Len64_J2) (by kernel_rfl) (ct_math_bits_Len64_J2)) (CutsOk.two (CutsOk.cut (g := B_math_bits_Len64_J3) (by kernel_rfl) (ct_math_bits_Len64_J3)) (CutsOk.leaf _))))) (by intro v; kernel_rfl)
end Go.PE.Ytlmhpjmhhlbgmaa
end
end

section
set_option maxRecDepth 100000
set_option linter.unusedVariables false
noncomputable section
namespace Go.PE.Ytlmhpjmhhlbgmaa
open Go.PE Go.Proofs

def sg_dispute_sound : Sig := mkSig [(.hole (.slice T_6649))] [] [(.hole .bool)] [] (fun p => dispute_sound p.1.1)
theorem fk_dispute_sound : FnOk Try.prog 17 := ⟨Try.f17, Try.func17, by kernel_rfl, by kernel_rfl⟩
def cx_dispute_sound : Cx := ⟨tys, lk [], 22, 0, [], gl⟩
theorem cxo_dispute_sound : CxOk Try.prog (cx_dispute_sound) := ⟨tys_ok, FnsOk.nil⟩
abbrev K0_dispute_sound_L1 : List (Nat × Ty) := [(6, (.slice T_6649)), (7, (.int .i64))]
abbrev TM_dispute_sound_L1 : Tm := ⟨[(3, (.hole (.int .i64))), (8, (.hole (.int .i64)))], []⟩
abbrev UO_dispute_sound_L1 : Outs := (.more .ret ⟨[(2, (.hole .bool))], []⟩ (.one (.exit 0) ⟨[], []⟩))
def B_dispute_sound_L1 : Blk := frBlk 0 [0, 6, 7] K0_dispute_sound_L1 TM_dispute_sound_L1 UO_dispute_sound_L1 (fun k => loopV (fun v => dispute_sound_L1 k.1 k.2.1 v))
def gs_dispute_sound : Nat → Option Blk := lk [(1, B_dispute_sound_L1)]
theorem ct_dispute_sound_L1 : CodeSound Try.prog (cx_dispute_sound) (subL (subR (subL (subR (subR (bodyOf Try.f17)))))) (B_dispute_sound_L1).D :=
  loop_printed (G := gs_dispute_sound) (A := .leaf) (T0 := K0_dispute_sound_L1) (T := TM_dispute_sound_L1) (U := UO_dispute_sound_L1) (step := (fun k v => dispute_sound_L1 k.1 k.2.1 v)) (cxo_dispute_sound) follows (by kernel_rfl) (by kernel_rfl) (CutsOk.leaf _) (by intro k v; kernel_rfl)
theorem sd_dispute_sound : FnSound Try.prog gl 17 sg_dispute_sound :=
  fn_printed (G := gs_dispute_sound) (A := (.two .leaf (.two .leaf (.two (.two .leaf (.two (.cut 1) .leaf)) .leaf)))) (cxo_dispute_sound) follows Try.func17 (by kernel_rfl) (by kernel_rfl) (by kernel_rfl) (by kernel_rfl) (by kernel_rfl) (CutsOk.two (CutsOk.leaf _) (CutsOk.two (CutsOk.leaf _) (CutsOk.two (CutsOk.two (CutsOk.leaf _) (CutsOk.two (CutsOk.cut (g := B_dispute_sound_L1) (by kernel_rfl) (ct_dispute_sound_L1)) (CutsOk.leaf _))) (CutsOk.leaf _)))) (by intro v; kernel_rfl)
def sg_dispute_copied : Sig := mkSig [(.hole (.slice T_6649))] [] [(.own 0)] [(.vec T_6649)] (fun p => dispute_copied p.1.1)
theorem fk_dispute_copied : FnOk Try.prog 22 := ⟨Try.f22, Try.func22, by kernel_rfl, by kernel_rfl⟩
def cx_dispute_copied : Cx := ⟨tys, lk [], 6, 0, [], gl⟩
theorem cxo_dispute_copied : CxOk Try.prog (cx_dispute_copied) := ⟨tys_ok, FnsOk.nil⟩
def gs_dispute_copied : Nat → Option Blk := lk []
theorem sd_dispute_copied : FnSound Try.prog gl 22 sg_dispute_copied :=
  fn_printed (G := gs_dispute_copied) (A := .leaf) (cxo_dispute_copied) follows Try.func22 (by kernel_rfl) (by kernel_rfl) (by kernel_rfl) (by kernel_rfl) (by kernel_rfl) (CutsOk.leaf _) (by intro v; kernel_rfl)
def sg_dispute_Begin : Sig := mkSig [(.hole (.int .i64)), (.hole (.arr 32 (.int .u8))), (.hole (.int .i64)), (.hole (.slice T_6649))] [] [(.ncons (.hole (.int .i64)) (.ncons (.hole (.int .i64)) (.ncons (.hole (.arr 32 (.int .u8))) (.ncons (.own 0) .nnil)))), (.hole (.int .i64))] [(.vec T_6649)] (fun p => dispute_Begin p.1.1 p.1.2.1 p.1.2.2.1 p.1.2.2.2.1)
theorem fk_dispute_Begin : FnOk Try.prog 15 := ⟨Try.f15, Try.func15, by kernel_rfl, by kernel_rfl⟩
def cx_dispute_Begin : Cx := ⟨tys, lk [(22, sg_dispute_copied), (17, sg_dispute_sound)], 37, 0, [], gl⟩
theorem cxo_dispute_Begin : CxOk Try.prog (cx_dispute_Begin) := ⟨tys_ok, FnsOk.cons fk_dispute_copied sd_dispute_copied (FnsOk.cons fk_dispute_sound sd_dispute_sound (FnsOk.nil))⟩
abbrev K0_dispute_Begin_J1 : List (Nat × Ty) := [(0, (.int .i64)), (2, (.int .i64))]
abbrev TM_dispute_Begin_J1 : Tm := ⟨[(5, (.ptr 0 [])), (8, (.ptr 1 []))], [(.box (.arr 32 (.int .u8)) (.hole (.arr 32 (.int .u8)))), (.box T_2c9a (.ncons (.hole (.int .i64)) (.ncons (.hole (.int .i64)) (.ncons (.hole (.arr 32 (.int .u8))) (.ncons .nils .nnil)))))]⟩
abbrev UO_dispute_Begin_J1 : Outs := (.one .normal ⟨[(5, (.ptr 0 [])), (8, (.ptr 1 [])), (29, (.hole .bool))], [(.box (.arr 32 (.int .u8)) (.hole (.arr 32 (.int .u8)))), (.box T_2c9a (.ncons (.hole (.int .i64)) (.ncons (.hole (.int .i64)) (.ncons (.hole (.arr 32 (.int .u8))) (.ncons .nils .nnil)))))]⟩)
def B_dispute_Begin_J1 : Blk := frBlk 0 [0, 2, 3, 9] K0_dispute_Begin_J1 TM_dispute_Begin_J1 UO_dispute_Begin_J1 (fun k v => dispute_Begin_J1 k.1 k.2.1 v)
def gs_dispute_Begin : Nat → Option Blk := lk [(1, B_dispute_Begin_J1)]
theorem ct_dispute_Begin_J1 : CodeSound Try.prog (cx_dispute_Begin) (subL (subL (subR (subR (bodyOf Try.f15))))) (B_dispute_Begin_J1).D :=
  join_sound (G := gs_dispute_Begin) (A := .leaf) (T0 := K0_dispute_Begin_J1) (T := TM_dispute_Begin_J1) (U := UO_dispute_Begin_J1) (F := (fun k v => dispute_Begin_J1 k.1 k.2.1 v)) (cxo_dispute_Begin) follows (by kernel_rfl) (CutsOk.leaf _) (by intro k v; kernel_rfl)
theorem sd_dispute_Begin : FnSound Try.prog gl 15 sg_dispute_Begin :=
  fn_printed (G := gs_dispute_Begin) (A := (.two .leaf (.two .leaf (.two (.two (.cut 1) .leaf) .leaf)))) (cxo_dispute_Begin) follows Try.func15 (by kernel_rfl) (by kernel_rfl) (by kernel_rfl) (by kernel_rfl) (by kernel_rfl) (CutsOk.two (CutsOk.leaf _) (CutsOk.two (CutsOk.leaf _) (CutsOk.two (CutsOk.two (CutsOk.cut (g := B_dispute_Begin_J1) (by kernel_rfl) (ct_dispute_Begin_J1)) (CutsOk.leaf _)) (CutsOk.leaf _)))) (by intro v; kernel_rfl)
def sg_dispute_whole : Sig := mkSig [(.hole T_2c9a)] [] [(.hole .bool)] [] (fun p => dispute_whole p.1.1)
theorem fk_dispute_whole : FnOk Try.prog 16 := ⟨Try.f16, Try.func16, by kernel_rfl, by kernel_rfl⟩
def cx_dispute_whole : Cx := ⟨tys, lk [(17, sg_dispute_sound)], 29, 0, [], gl⟩
theorem cxo_dispute_whole : CxOk Try.prog (cx_dispute_whole) := ⟨tys_ok, FnsOk.cons fk_dispute_sound sd_dispute_sound (FnsOk.nil)⟩
def gs_dispute_whole : Nat → Option Blk := lk []
theorem sd_dispute_whole : FnSound Try.prog gl 16 sg_dispute_whole :=
  fn_printed (G := gs_dispute_whole) (A := .leaf) (cxo_dispute_whole) follows Try.func16 (by kernel_rfl) (by kernel_rfl) (by kernel_rfl) (by kernel_rfl) (by kernel_rfl) (CutsOk.leaf _) (by intro v; kernel_rfl)
def sg_dispute_Ask : Sig := mkSig [(.hole T_2c9a)] [] [(.hole (.int .i64)), (.hole .bool)] [] (fun p => dispute_Ask p.1.1)
theorem fk_dispute_Ask : FnOk Try.prog 7 := ⟨Try.f7, Try.func7, by kernel_rfl, by kernel_rfl⟩
def cx_dispute_Ask : Cx := ⟨tys, lk [(16, sg_dispute_whole)], 26, 0, [], gl⟩
theorem cxo_dispute_Ask : CxOk Try.prog (cx_dispute_Ask) := ⟨tys_ok, FnsOk.cons fk_dispute_whole sd_dispute_whole (FnsOk.nil)⟩
def gs_dispute_Ask : Nat → Option Blk := lk []
theorem sd_dispute_Ask : FnSound Try.prog gl 7 sg_dispute_Ask :=
  fn_printed (G := gs_dispute_Ask) (A := .leaf) (cxo_dispute_Ask) follows Try.func7 (by kernel_rfl) (by kernel_rfl) (by kernel_rfl) (by kernel_rfl) (by kernel_rfl) (CutsOk.leaf _) (by intro v; kernel_rfl)
def sg_dispute_merge : Sig := mkSig [(.hole (.slice T_6649)), (.hole (.slice T_6649))] [] [(.own 0), (.own 1), (.own 2)] [(.vec T_6649), (.vec T_6649), (.vec (.int .i64))] (fun p => dispute_merge p.1.1 p.1.2.1)
theorem fk_dispute_merge : FnOk Try.prog 18 := ⟨Try.f18, Try.func18, by kernel_rfl, by kernel_rfl⟩
def cx_dispute_merge : Cx := ⟨tys, lk [], 60, 0, [], gl⟩
theorem cxo_dispute_merge : CxOk Try.prog (cx_dispute_merge) := ⟨tys_ok, FnsOk.nil⟩
abbrev K0_dispute_merge_J3 : List (Nat × Ty) := [(1, (.slice T_6649))]
abbrev TM_dispute_merge_J3 : Tm := ⟨[(4, (.own 0)), (5, (.own 1)), (6, (.own 2)), (8, (.ptr 3 []))], [(.vec T_6649), (.vec T_6649), (.vec (.int .i64)), (.box T_6649 (.hole T_6649))]⟩
abbrev UO_dispute_merge_J3 : Outs := (.one .normal ⟨[(4, (.own 0)), (5, (.own 1)), (6, (.own 2)), (8, (.ptr 3 [])), (40, (.hole .bool))], [(.vec T_6649), (.vec T_6649), (.vec (.int .i64)), (.box T_6649 (.hole T_6649))]⟩)
def B_dispute_merge_J3 : Blk := frBlk 0 [1, 9, 10, 11] K0_dispute_merge_J3 TM_dispute_merge_J3 UO_dispute_merge_J3 (fun k v => dispute_merge_J3 k.1 v)
abbrev K0_dispute_merge_L2 : List (Nat × Ty) := []
abbrev TM_dispute_merge_L2 : Tm := ⟨[(1, (.hole (.slice T_6649))), (4, (.own 0)), (5, (.own 1)), (6, (.own 2)), (8, (.ptr 3 []))], [(.vec T_6649), (.vec T_6649), (.vec (.int .i64)), (.box T_6649 (.hole T_6649))]⟩
abbrev UO_dispute_merge_L2 : Outs := (.one (.exit 2) ⟨[(1, (.hole (.slice T_6649))), (4, (.own 0)), (5, (.own 1)), (6, (.own 2)), (8, (.ptr 3 []))], [(.vec T_6649), (.vec T_6649), (.vec (.int .i64)), (.box T_6649 (.hole T_6649))]⟩)
def B_dispute_merge_L2 : Blk := frBlk 0 [9, 10, 11] K0_dispute_merge_L2 TM_dispute_merge_L2 UO_dispute_merge_L2 (fun k => loopV (fun v => dispute_merge_L2 v))
abbrev K0_dispute_merge_L1 : List (Nat × Ty) := [(9, (.slice T_6649)), (10, (.int .i64))]
abbrev TM_dispute_merge_L1 : Tm := ⟨[(1, (.hole (.slice T_6649))), (4, (.own 0)), (5, (.own 1)), (6, (.own 2)), (11, (.hole (.int .i64)))], [(.vec T_6649), (.vec T_6649), (.vec (.int .i64))]⟩
abbrev UO_dispute_merge_L1 : Outs := (.one (.exit 0) ⟨[(4, (.own 0)), (5, (.own 1)), (6, (.own 2))], [(.vec T_6649), (.vec T_6649), (.vec (.int .i64))]⟩)
def B_dispute_merge_L1 : Blk := frBlk 0 [9, 10] K0_dispute_merge_L1 TM_dispute_merge_L1 UO_dispute_merge_L1 (fun k => loopV (fun v => dispute_merge_L1 k.1 k.2.1 v))
def gs_dispute_merge : Nat → Option Blk := lk [(3, B_dispute_merge_J3), (2, B_dispute_merge_L2), (1, B_dispute_merge_L1)]
theorem ct_dispute_merge_J3 : CodeSound Try.prog ((cx_dispute_merge).fr [9, 10]) (subL (subR (subR (subL (subL (subR (subR (subL (subL (subR (subL (subR (bodyOf Try.f18))))))))))))) (B_dispute_merge_J3).D :=
  join_sound (G := gs_dispute_merge) (A := .leaf) (T0 := K0_dispute_merge_J3) (T := TM_dispute_merge_J3) (U := UO_dispute_merge_J3) (F := (fun k v => dispute_merge_J3 k.1 v)) ((cxo_dispute_merge).fr [9, 10]) follows (by kernel_rfl) (CutsOk.leaf _) (by intro k v; kernel_rfl)
theorem ct_dispute_merge_L2 : CodeSound Try.prog ((cx_dispute_merge).fr [9, 10]) (subL (subL (subR (subL (subL (subR (subR (subL (subL (subR (subL (subR (bodyOf Try.f18))))))))))))) (B_dispute_merge_L2).D :=
  loop_printed (G := gs_dispute_merge) (A := .leaf) (T0 := K0_dispute_merge_L2) (T := TM_dispute_merge_L2) (U := UO_dispute_merge_L2) (step := (fun k v => dispute_merge_L2 v)) ((cxo_dispute_merge).fr [9, 10]) follows (by kernel_rfl) (by kernel_rfl) (CutsOk.leaf _) (by intro k v; kernel_rfl)
theorem ct_dispute_merge_L1 : CodeSound Try.prog (cx_dispute_merge) (subL (subR (subL (subR (bodyOf Try.f18))))) (B_dispute_merge_L1).D :=
  loop_printed (G := gs_dispute_merge) (A := (.two .leaf (.two .leaf (.two (.two (.two .leaf (.two (.two (.cut 2) .leaf) (.two (.cut 3) .leaf))) .leaf) .leaf)))) (T0 := K0_dispute_merge_L1) (T := TM_dispute_merge_L1) (U := UO_dispute_merge_L1) (step := (fun k v => dispute_merge_L1 k.1 k.2.1 v)) (cxo_dispute_merge) follows (by kernel_rfl) (by kernel_rfl) (CutsOk.two (CutsOk.leaf _) (CutsOk.two (CutsOk.leaf _) (CutsOk.two (CutsOk.two (CutsOk.two (CutsOk.leaf _) (CutsOk.two (CutsOk.two (CutsOk.cut (g := B_dispute_merge_L2) (by kernel_rfl) (ct_dispute_merge_L2)) (CutsOk.leaf _)) (CutsOk.two (CutsOk.cut (g := B_dispute_merge_J3) (by kernel_rfl) (ct_dispute_merge_J3)) (CutsOk.leaf _)))) (CutsOk.leaf _)) (CutsOk.leaf _)))) (by intro k v; kernel_rfl)
theorem sd_dispute_merge : FnSound Try.prog gl 18 sg_dispute_merge :=
  fn_printed (G := gs_dispute_merge) (A := (.two .leaf (.two (.two .leaf (.two (.cut 1) .leaf)) .leaf))) (cxo_dispute_merge) follows Try.func18 (by kernel_rfl) (by kernel_rfl) (by kernel_rfl) (by kernel_rfl) (by kernel_rfl) (CutsOk.two (CutsOk.leaf _) (CutsOk.two (CutsOk.two (CutsOk.leaf _) (CutsOk.two (CutsOk.cut (g := B_dispute_merge_L1) (by kernel_rfl) (ct_dispute_merge_L1)) (CutsOk.leaf _))) (CutsOk.leaf _))) (by intro v; kernel_rfl)
def sg_dispute_single : Sig := mkSig [(.hole (.slice T_6649))] [] [(.hole .bool)] [] (fun p => dispute_single p.1.1)
theorem fk_dispute_single : FnOk Try.prog 19 := ⟨Try.f19, Try.func19, by kernel_rfl, by kernel_rfl⟩
def cx_dispute_single : Cx := ⟨tys, lk [], 19, 0, [], gl⟩
theorem cxo_dispute_single : CxOk Try.prog (cx_dispute_single) := ⟨tys_ok, FnsOk.nil⟩
abbrev K0_dispute_single_L1 : List (Nat × Ty) := [(0, (.slice T_6649)), (5, (.slice T_6649)), (6, (.int .i64))]
abbrev TM_dispute_single_L1 : Tm := ⟨[(7, (.hole (.int .i64)))], []⟩
abbrev UO_dispute_single_L1 : Outs := (.more .ret ⟨[(2, (.hole .bool))], []⟩ (.one (.exit 0) ⟨[], []⟩))
def B_dispute_single_L1 : Blk := frBlk 0 [0, 5, 6] K0_dispute_single_L1 TM_dispute_single_L1 UO_dispute_single_L1 (fun k => loopV (fun v => dispute_single_L1 k.1 k.2.1 k.2.2.1 v))
def gs_dispute_single : Nat → Option Blk := lk [(1, B_dispute_single_L1)]
theorem ct_dispute_single_L1 : CodeSound Try.prog (cx_dispute_single) (subL (subR (subL (subR (bodyOf Try.f19))))) (B_dispute_single_L1).D :=
  loop_printed (G := gs_dispute_single) (A := .leaf) (T0 := K0_dispute_single_L1) (T := TM_dispute_single_L1) (U := UO_dispute_single_L1) (step := (fun k v => dispute_single_L1 k.1 k.2.1 k.2.2.1 v)) (cxo_dispute_single) follows (by kernel_rfl) (by kernel_rfl) (CutsOk.leaf _) (by intro k v; kernel_rfl)
theorem sd_dispute_single : FnSound Try.prog gl 19 sg_dispute_single :=
  fn_printed (G := gs_dispute_single) (A := (.two .leaf (.two (.two .leaf (.two (.cut 1) .leaf)) .leaf))) (cxo_dispute_single) follows Try.func19 (by kernel_rfl) (by kernel_rfl) (by kernel_rfl) (by kernel_rfl) (by kernel_rfl) (CutsOk.two (CutsOk.leaf _) (CutsOk.two (CutsOk.two (CutsOk.leaf _) (CutsOk.two (CutsOk.cut (g := B_dispute_single_L1) (by kernel_rfl) (ct_dispute_single_L1)) (CutsOk.leaf _))) (CutsOk.leaf _))) (by intro v; kernel_rfl)
def sg_dispute_Answer : Sig := mkSig [(.hole T_2c9a), (.hole (.slice T_6649))] [] [(.ncons (.hole (.int .i64)) (.ncons (.hole (.int .i64)) (.ncons (.hole (.arr 32 (.int .u8))) (.ncons (.own 0) .nnil)))), (.own 1), (.hole (.int .i64))] [(.vec T_6649), (.vec (.int .i64))] (fun p => dispute_Answer p.1.1 p.1.2.1)
theorem fk_dispute_Answer : FnOk Try.prog 8 := ⟨Try.f8, Try.func8, by kernel_rfl, by kernel_rfl⟩
def cx_dispute_Answer : Cx := ⟨tys, lk [(7, sg_dispute_Ask), (18, sg_dispute_merge), (19, sg_dispute_single), (17, sg_dispute_sound), (16, sg_dispute_whole)], 59, 0, [], gl⟩
theorem cxo_dispute_Answer : CxOk Try.prog (cx_dispute_Answer) := ⟨tys_ok, FnsOk.cons fk_dispute_Ask sd_dispute_Ask (FnsOk.cons fk_dispute_merge sd_dispute_merge (FnsOk.cons fk_dispute_single sd_dispute_single (FnsOk.cons fk_dispute_sound sd_dispute_sound (FnsOk.cons fk_dispute_whole sd_dispute_whole (FnsOk.nil)))))⟩
abbrev K0_dispute_Answer_J1 : List (Nat × Ty) := [(7, (.int .i64))]
abbrev TM_dispute_Answer_J1 : Tm := ⟨[(2, (.ptr 0 [])), (4, (.ptr 1 [])), (9, (.own 2)), (10, (.own 3)), (11, (.own 4))], [(.box T_2c9a (.hole T_2c9a)), (.box T_2c9a (.ncons (.hole (.int .i64)) (.ncons (.hole (.int .i64)) (.ncons (.hole (.arr 32 (.int .u8))) (.ncons .nils .nnil))))), (.vec T_6649), (.vec T_6649), (.vec (.int .i64))]⟩
abbrev UO_dispute_Answer_J1 : Outs := (.one .normal ⟨[(2, (.ptr 0 [])), (4, (.ptr 1 [])), (11, (.own 2))], [(.box T_2c9a (.ncons (.hole (.int .i64)) (.ncons (.hole (.int .i64)) (.ncons (.hole (.arr 32 (.int .u8))) (.ncons (.own 3) .nnil))))), (.box T_2c9a (.ncons (.hole (.int .i64)) (.ncons (.hole (.int .i64)) (.ncons (.hole (.arr 32 (.int .u8))) (.ncons .nils .nnil))))), (.vec (.int .i64)), (.vec T_6649)]⟩)
def B_dispute_Answer_J1 : Blk := frBlk 0 [5, 6, 7] K0_dispute_Answer_J1 TM_dispute_Answer_J1 UO_dispute_Answer_J1 (fun k v => dispute_Answer_J1 k.1 v)
def gs_dispute_Answer : Nat → Option Blk := lk [(1, B_dispute_Answer_J1)]
theorem ct_dispute_Answer_J1 : CodeSound Try.prog (cx_dispute_Answer) (subL (subR (subR (subR (subR (subR (bodyOf Try.f8))))))) (B_dispute_Answer_J1).D :=
  join_sound (G := gs_dispute_Answer) (A := .leaf) (T0 := K0_dispute_Answer_J1) (T := TM_dispute_Answer_J1) (U := UO_dispute_Answer_J1) (F := (fun k v => dispute_Answer_J1 k.1 v)) (cxo_dispute_Answer) follows (by kernel_rfl) (CutsOk.leaf _) (by intro k v; kernel_rfl)
theorem sd_dispute_Answer : FnSound Try.prog gl 8 sg_dispute_Answer :=
  fn_printed (G := gs_dispute_Answer) (A := (.two .leaf (.two .leaf (.two .leaf (.two .leaf (.two .leaf (.two (.cut 1) .leaf))))))) (cxo_dispute_Answer) follows Try.func8 (by kernel_rfl) (by kernel_rfl) (by kernel_rfl) (by kernel_rfl) (by kernel_rfl) (CutsOk.two (CutsOk.leaf _) (CutsOk.two (CutsOk.leaf _) (CutsOk.two (CutsOk.leaf _) (CutsOk.two (CutsOk.leaf _) (CutsOk.two (CutsOk.leaf _) (CutsOk.two (CutsOk.cut (g := B_dispute_Answer_J1) (by kernel_rfl) (ct_dispute_Answer_J1)) (CutsOk.leaf _))))))) (by intro v; kernel_rfl)
def sg_dispute_Open : Sig := mkSig [(.hole T_2c9a)] [] [(.hole .bool)] [] (fun p => dispute_Open p.1.1)
theorem fk_dispute_Open : FnOk Try.prog 9 := ⟨Try.f9, Try.func9, by kernel_rfl, by kernel_rfl⟩
def cx_dispute_Open : Cx := ⟨tys, lk [(19, sg_dispute_single), (16, sg_dispute_whole)], 11, 0, [], gl⟩
theorem cxo_dispute_Open : CxOk Try.prog (cx_dispute_Open) := ⟨tys_ok, FnsOk.cons fk_dispute_single sd_dispute_single (FnsOk.cons fk_dispute_whole sd_dispute_whole (FnsOk.nil))⟩
def gs_dispute_Open : Nat → Option Blk := lk []
theorem sd_dispute_Open : FnSound Try.prog gl 9 sg_dispute_Open :=
  fn_printed (G := gs_dispute_Open) (A := .leaf) (cxo_dispute_Open) follows Try.func9 (by kernel_rfl) (by kernel_rfl) (by kernel_rfl) (by kernel_rfl) (by kernel_rfl) (CutsOk.leaf _) (by intro v; kernel_rfl)
def sg_dispute_Rounds : Sig := mkSig [(.hole (.int .i64)), (.hole (.int .i64))] [] [(.hole (.int .i64))] [] (fun p => dispute_Rounds p.1.1 p.1.2.1)
theorem fk_dispute_Rounds : FnOk Try.prog 10 := ⟨Try.f10, Try.func10, by kernel_rfl, by kernel_rfl⟩
def cx_dispute_Rounds : Cx := ⟨tys, lk [(20, sg_math_bits_Len64)], 15, 0, [], gl⟩
theorem cxo_dispute_Rounds : CxOk Try.prog (cx_dispute_Rounds) := ⟨tys_ok, FnsOk.cons fk_math_bits_Len64 sd_math_bits_Len64 (FnsOk.nil)⟩
def gs_dispute_Rounds : Nat → Option Blk := lk []
theorem sd_dispute_Rounds : FnSound Try.prog gl 10 sg_dispute_Rounds :=
  fn_printed (G := gs_dispute_Rounds) (A := .leaf) (cxo_dispute_Rounds) follows Try.func10 (by kernel_rfl) (by kernel_rfl) (by kernel_rfl) (by kernel_rfl) (by kernel_rfl) (CutsOk.leaf _) (by intro v; kernel_rfl)
def sg_dispute_Settle : Sig := mkSig [(.hole T_2c9a), (.hole (.arr 32 (.int .u8)))] [] [(.ncons (.hole (.int .i64)) (.ncons (.hole (.int .i64)) (.ncons (.hole (.arr 32 (.int .u8))) (.ncons (.own 0) .nnil)))), (.own 1), (.hole (.int .i64))] [(.vec T_6649), (.vec (.int .i64))] (fun p => dispute_Settle p.1.1 p.1.2.1)
theorem fk_dispute_Settle : FnOk Try.prog 11 := ⟨Try.f11, Try.func11, by kernel_rfl, by kernel_rfl⟩
def cx_dispute_Settle : Cx := ⟨tys, lk [(16, sg_dispute_whole)], 53, 0, [], gl⟩
theorem cxo_dispute_Settle : CxOk Try.prog (cx_dispute_Settle) := ⟨tys_ok, FnsOk.cons fk_dispute_whole sd_dispute_whole (FnsOk.nil)⟩
abbrev K0_dispute_Settle_L1 : List (Nat × Ty) := [(25, (.slice T_6649)), (26, (.int .i64))]
abbrev TM_dispute_Settle_L1 : Tm := ⟨[(2, (.ptr 0 [])), (3, (.ptr 1 [])), (4, (.ptr 2 [])), (7, (.own 3)), (8, (.own 4)), (27, (.hole (.int .i64)))], [(.box T_2c9a (.hole T_2c9a)), (.box (.arr 32 (.int .u8)) (.hole (.arr 32 (.int .u8)))), (.box T_2c9a (.ncons (.hole (.int .i64)) (.ncons (.hole (.int .i64)) (.ncons (.hole (.arr 32 (.int .u8))) (.ncons .nils .nnil))))), (.vec T_6649), (.vec (.int .i64))]⟩
abbrev UO_dispute_Settle_L1 : Outs := (.one (.exit 1) ⟨[(2, (.ptr 0 [])), (4, (.ptr 1 [])), (7, (.own 2)), (8, (.own 3))], [(.box T_2c9a (.hole T_2c9a)), (.box T_2c9a (.ncons (.hole (.int .i64)) (.ncons (.hole (.int .i64)) (.ncons (.hole (.arr 32 (.int .u8))) (.ncons .nils .nnil))))), (.vec T_6649), (.vec (.int .i64))]⟩)
def B_dispute_Settle_L1 : Blk := frBlk 0 [5, 6, 25, 26] K0_dispute_Settle_L1 TM_dispute_Settle_L1 UO_dispute_Settle_L1 (fun k => loopV (fun v => dispute_Settle_L1 k.1 k.2.1 v))
def gs_dispute_Settle : Nat → Option Blk := lk [(1, B_dispute_Settle_L1)]
theorem ct_dispute_Settle_L1 : CodeSound Try.prog (cx_dispute_Settle) (subL (subR (subL (subR (subR (subR (subR (bodyOf Try.f11)))))))) (B_dispute_Settle_L1).D :=
  loop_printed (G := gs_dispute_Settle) (A := .leaf) (T0 := K0_dispute_Settle_L1) (T := TM_dispute_Settle_L1) (U := UO_dispute_Settle_L1) (step := (fun k v => dispute_Settle_L1 k.1 k.2.1 v)) (cxo_dispute_Settle) follows (by kernel_rfl) (by kernel_rfl) (CutsOk.leaf _) (by intro k v; kernel_rfl)
theorem sd_dispute_Settle : FnSound Try.prog gl 11 sg_dispute_Settle :=
  fn_printed (G := gs_dispute_Settle) (A := (.two .leaf (.two .leaf (.two .leaf (.two .leaf (.two (.two .leaf (.two (.cut 1) .leaf)) .leaf)))))) (cxo_dispute_Settle) follows Try.func11 (by kernel_rfl) (by kernel_rfl) (by kernel_rfl) (by kernel_rfl) (by kernel_rfl) (CutsOk.two (CutsOk.leaf _) (CutsOk.two (CutsOk.leaf _) (CutsOk.two (CutsOk.leaf _) (CutsOk.two (CutsOk.leaf _) (CutsOk.two (CutsOk.two (CutsOk.leaf _) (CutsOk.two (CutsOk.cut (g := B_dispute_Settle_L1) (by kernel_rfl) (ct_dispute_Settle_L1)) (CutsOk.leaf _))) (CutsOk.leaf _)))))) (by intro v; kernel_rfl)
end Go.PE.Ytlmhpjmhhlbgmaa
end
end

section
set_option maxRecDepth 100000
set_option linter.unusedVariables false
noncomputable section
namespace Go.PE.Ytlmhpjmhhlbgmaa
open Go.PE Go.Proofs

def sg_ref16_SameInts : Sig := mkSig [(.hole (.slice (.int .i64))), (.hole (.slice (.int .i64)))] [] [(.hole .bool)] [] (fun p => ref16_SameInts p.1.1 p.1.2.1)
theorem fk_ref16_SameInts : FnOk Try.prog 14 := ⟨Try.f14, Try.func14, by kernel_rfl, by kernel_rfl⟩
def cx_ref16_SameInts : Cx := ⟨tys, lk [], 26, 0, [], gl⟩
theorem cxo_ref16_SameInts : CxOk Try.prog (cx_ref16_SameInts) := ⟨tys_ok, FnsOk.nil⟩
abbrev K0_ref16_SameInts_L1 : List (Nat × Ty) := [(0, (.slice (.int .i64))), (1, (.slice (.int .i64))), (12, (.int .i64))]
abbrev TM_ref16_SameInts_L1 : Tm := ⟨[(13, (.hole (.int .i64)))], []⟩
abbrev UO_ref16_SameInts_L1 : Outs := (.more .ret ⟨[(4, (.hole .bool))], []⟩ (.one (.exit 0) ⟨[], []⟩))
def B_ref16_SameInts_L1 : Blk := frBlk 0 [0, 1, 12] K0_ref16_SameInts_L1 TM_ref16_SameInts_L1 UO_ref16_SameInts_L1 (fun k => loopV (fun v => ref16_SameInts_L1 k.1 k.2.1 k.2.2.1 v))
def gs_ref16_SameInts : Nat → Option Blk := lk [(1, B_ref16_SameInts_L1)]
theorem ct_ref16_SameInts_L1 : CodeSound Try.prog (cx_ref16_SameInts) (subL (subR (subL (subR (subR (bodyOf Try.f14)))))) (B_ref16_SameInts_L1).D :=
  loop_printed (G := gs_ref16_SameInts) (A := .leaf) (T0 := K0_ref16_SameInts_L1) (T := TM_ref16_SameInts_L1) (U := UO_ref16_SameInts_L1) (step := (fun k v => ref16_SameInts_L1 k.1 k.2.1 k.2.2.1 v)) (cxo_ref16_SameInts) follows (by kernel_rfl) (by kernel_rfl) (CutsOk.leaf _) (by intro k v; kernel_rfl)
theorem sd_ref16_SameInts : FnSound Try.prog gl 14 sg_ref16_SameInts :=
  fn_printed (G := gs_ref16_SameInts) (A := (.two .leaf (.two .leaf (.two (.two .leaf (.two (.cut 1) .leaf)) .leaf)))) (cxo_ref16_SameInts) follows Try.func14 (by kernel_rfl) (by kernel_rfl) (by kernel_rfl) (by kernel_rfl) (by kernel_rfl) (CutsOk.two (CutsOk.leaf _) (CutsOk.two (CutsOk.leaf _) (CutsOk.two (CutsOk.two (CutsOk.leaf _) (CutsOk.two (CutsOk.cut (g := B_ref16_SameInts_L1) (by kernel_rfl) (ct_ref16_SameInts_L1)) (CutsOk.leaf _))) (CutsOk.leaf _)))) (by intro v; kernel_rfl)
end Go.PE.Ytlmhpjmhhlbgmaa
end
end

section
set_option maxRecDepth 100000
set_option linter.unusedVariables false
noncomputable section
namespace Go.PE.Ytlmhpjmhhlbgmaa
open Go.PE Go.Proofs

def sg_ref22_span : Sig := mkSig [(.hole (.int .i64)), (.hole (.int .i64))] [] [(.hole .bool)] [] (fun p => ref22_span p.1.1 p.1.2.1)
theorem fk_ref22_span : FnOk Try.prog 23 := ⟨Try.f23, Try.func23, by kernel_rfl, by kernel_rfl⟩
def cx_ref22_span : Cx := ⟨tys, lk [], 16, 0, [], gl⟩
theorem cxo_ref22_span : CxOk Try.prog (cx_ref22_span) := ⟨tys_ok, FnsOk.nil⟩
def gs_ref22_span : Nat → Option Blk := lk []
theorem sd_ref22_span : FnSound Try.prog gl 23 sg_ref22_span :=
  fn_printed (G := gs_ref22_span) (A := .leaf) (cxo_ref22_span) follows Try.func23 (by kernel_rfl) (by kernel_rfl) (by kernel_rfl) (by kernel_rfl) (by kernel_rfl) (CutsOk.leaf _) (by intro v; kernel_rfl)
def sg_ref22_claims : Sig := mkSig [(.hole (.slice T_6649))] [] [(.hole .bool)] [] (fun p => ref22_claims p.1.1)
theorem fk_ref22_claims : FnOk Try.prog 24 := ⟨Try.f24, Try.func24, by kernel_rfl, by kernel_rfl⟩
def cx_ref22_claims : Cx := ⟨tys, lk [], 37, 0, [], gl⟩
theorem cxo_ref22_claims : CxOk Try.prog (cx_ref22_claims) := ⟨tys_ok, FnsOk.nil⟩
abbrev K0_ref22_claims_L1 : List (Nat × Ty) := [(0, (.slice T_6649)), (8, (.int .i64))]
abbrev TM_ref22_claims_L1 : Tm := ⟨[(9, (.hole (.int .i64)))], []⟩
abbrev UO_ref22_claims_L1 : Outs := (.more .ret ⟨[(2, (.hole .bool))], []⟩ (.one (.exit 0) ⟨[], []⟩))
def B_ref22_claims_L1 : Blk := frBlk 0 [0, 8] K0_ref22_claims_L1 TM_ref22_claims_L1 UO_ref22_claims_L1 (fun k => loopV (fun v => ref22_claims_L1 k.1 k.2.1 v))
def gs_ref22_claims : Nat → Option Blk := lk [(1, B_ref22_claims_L1)]
theorem ct_ref22_claims_L1 : CodeSound Try.prog (cx_ref22_claims) (subL (subR (subL (subR (subR (bodyOf Try.f24)))))) (B_ref22_claims_L1).D :=
  loop_printed (G := gs_ref22_claims) (A := .leaf) (T0 := K0_ref22_claims_L1) (T := TM_ref22_claims_L1) (U := UO_ref22_claims_L1) (step := (fun k v => ref22_claims_L1 k.1 k.2.1 v)) (cxo_ref22_claims) follows (by kernel_rfl) (by kernel_rfl) (CutsOk.leaf _) (by intro k v; kernel_rfl)
theorem sd_ref22_claims : FnSound Try.prog gl 24 sg_ref22_claims :=
  fn_printed (G := gs_ref22_claims) (A := (.two .leaf (.two .leaf (.two (.two .leaf (.two (.cut 1) .leaf)) .leaf)))) (cxo_ref22_claims) follows Try.func24 (by kernel_rfl) (by kernel_rfl) (by kernel_rfl) (by kernel_rfl) (by kernel_rfl) (CutsOk.two (CutsOk.leaf _) (CutsOk.two (CutsOk.leaf _) (CutsOk.two (CutsOk.two (CutsOk.leaf _) (CutsOk.two (CutsOk.cut (g := B_ref22_claims_L1) (by kernel_rfl) (ct_ref22_claims_L1)) (CutsOk.leaf _))) (CutsOk.leaf _)))) (by intro v; kernel_rfl)
def sg_ref22_Sound : Sig := mkSig [(.hole T_2c9a)] [] [(.hole .bool)] [] (fun p => ref22_Sound p.1.1)
theorem fk_ref22_Sound : FnOk Try.prog 21 := ⟨Try.f21, Try.func21, by kernel_rfl, by kernel_rfl⟩
def cx_ref22_Sound : Cx := ⟨tys, lk [(24, sg_ref22_claims), (23, sg_ref22_span)], 19, 0, [], gl⟩
theorem cxo_ref22_Sound : CxOk Try.prog (cx_ref22_Sound) := ⟨tys_ok, FnsOk.cons fk_ref22_claims sd_ref22_claims (FnsOk.cons fk_ref22_span sd_ref22_span (FnsOk.nil))⟩
def gs_ref22_Sound : Nat → Option Blk := lk []
theorem sd_ref22_Sound : FnSound Try.prog gl 21 sg_ref22_Sound :=
  fn_printed (G := gs_ref22_Sound) (A := .leaf) (cxo_ref22_Sound) follows Try.func21 (by kernel_rfl) (by kernel_rfl) (by kernel_rfl) (by kernel_rfl) (by kernel_rfl) (CutsOk.leaf _) (by intro v; kernel_rfl)
def sg_ref22_Settle : Sig := mkSig [(.hole T_2c9a), (.hole (.arr 32 (.int .u8)))] [] [(.ncons (.hole (.int .i64)) (.ncons (.hole (.int .i64)) (.ncons (.hole (.arr 32 (.int .u8))) (.ncons (.own 0) .nnil)))), (.own 1), (.hole (.int .i64))] [(.vec T_6649), (.vec (.int .i64))] (fun p => ref22_Settle p.1.1 p.1.2.1)
theorem fk_ref22_Settle : FnOk Try.prog 12 := ⟨Try.f12, Try.func12, by kernel_rfl, by kernel_rfl⟩
def cx_ref22_Settle : Cx := ⟨tys, lk [(21, sg_ref22_Sound)], 54, 0, [], gl⟩
theorem cxo_ref22_Settle : CxOk Try.prog (cx_ref22_Settle) := ⟨tys_ok, FnsOk.cons fk_ref22_Sound sd_ref22_Sound (FnsOk.nil)⟩
abbrev K0_ref22_Settle_L1 : List (Nat × Ty) := [(25, (.slice T_6649)), (26, (.int .i64))]
abbrev TM_ref22_Settle_L1 : Tm := ⟨[(3, (.ptr 0 [])), (4, (.ptr 1 [])), (7, (.ptr 2 [])), (8, (.own 3)), (27, (.hole (.int .i64)))], [(.box (.arr 32 (.int .u8)) (.hole (.arr 32 (.int .u8)))), (.box T_2c9a (.ncons (.hole (.int .i64)) (.ncons (.hole (.int .i64)) (.ncons (.hole (.arr 32 (.int .u8))) (.ncons .nils .nnil))))), (.box T_2c9a (.ncons (.hole (.int .i64)) (.ncons (.hole (.int .i64)) (.ncons (.hole (.arr 32 (.int .u8))) (.ncons (.own 4) .nnil))))), (.vec (.int .i64)), (.vec T_6649)]⟩
abbrev UO_ref22_Settle_L1 : Outs := (.one (.exit 0) ⟨[(4, (.ptr 0 [])), (7, (.ptr 1 [])), (8, (.own 2))], [(.box T_2c9a (.ncons (.hole (.int .i64)) (.ncons (.hole (.int .i64)) (.ncons (.hole (.arr 32 (.int .u8))) (.ncons .nils .nnil))))), (.box T_2c9a (.ncons (.hole (.int .i64)) (.ncons (.hole (.int .i64)) (.ncons (.hole (.arr 32 (.int .u8))) (.ncons (.own 3) .nnil))))), (.vec (.int .i64)), (.vec T_6649)]⟩)
def B_ref22_Settle_L1 : Blk := frBlk 0 [5, 6, 25, 26] K0_ref22_Settle_L1 TM_ref22_Settle_L1 UO_ref22_Settle_L1 (fun k => loopV (fun v => ref22_Settle_L1 k.1 k.2.1 v))
def gs_ref22_Settle : Nat → Option Blk := lk [(1, B_ref22_Settle_L1)]
theorem ct_ref22_Settle_L1 : CodeSound Try.prog (cx_ref22_Settle) (subL (subR (subL (subR (subR (subR (subR (subR (subR (bodyOf Try.f12)))))))))) (B_ref22_Settle_L1).D :=
  loop_printed (G := gs_ref22_Settle) (A := .leaf) (T0 := K0_ref22_Settle_L1) (T := TM_ref22_Settle_L1) (U := UO_ref22_Settle_L1) (step := (fun k v => ref22_Settle_L1 k.1 k.2.1 v)) (cxo_ref22_Settle) follows (by kernel_rfl) (by kernel_rfl) (CutsOk.leaf _) (by intro k v; kernel_rfl)
theorem sd_ref22_Settle : FnSound Try.prog gl 12 sg_ref22_Settle :=
  fn_printed (G := gs_ref22_Settle) (A := (.two .leaf (.two .leaf (.two .leaf (.two .leaf (.two .leaf (.two .leaf (.two (.two .leaf (.two (.cut 1) .leaf)) .leaf)))))))) (cxo_ref22_Settle) follows Try.func12 (by kernel_rfl) (by kernel_rfl) (by kernel_rfl) (by kernel_rfl) (by kernel_rfl) (CutsOk.two (CutsOk.leaf _) (CutsOk.two (CutsOk.leaf _) (CutsOk.two (CutsOk.leaf _) (CutsOk.two (CutsOk.leaf _) (CutsOk.two (CutsOk.leaf _) (CutsOk.two (CutsOk.leaf _) (CutsOk.two (CutsOk.two (CutsOk.leaf _) (CutsOk.two (CutsOk.cut (g := B_ref22_Settle_L1) (by kernel_rfl) (ct_ref22_Settle_L1)) (CutsOk.leaf _))) (CutsOk.leaf _)))))))) (by intro v; kernel_rfl)
def sg_ref22_Same : Sig := mkSig [(.hole T_2c9a), (.hole T_2c9a)] [] [(.hole .bool)] [] (fun p => ref22_Same p.1.1 p.1.2.1)
theorem fk_ref22_Same : FnOk Try.prog 13 := ⟨Try.f13, Try.func13, by kernel_rfl, by kernel_rfl⟩
def cx_ref22_Same : Cx := ⟨tys, lk [], 52, 0, [], gl⟩
theorem cxo_ref22_Same : CxOk Try.prog (cx_ref22_Same) := ⟨tys_ok, FnsOk.nil⟩
abbrev K0_ref22_Same_L1 : List (Nat × Ty) := [(36, (.int .i64))]
abbrev TM_ref22_Same_L1 : Tm := ⟨[(2, (.ptr 0 [])), (3, (.ptr 1 [])), (37, (.hole (.int .i64)))], [(.box T_2c9a (.hole T_2c9a)), (.box T_2c9a (.hole T_2c9a))]⟩
abbrev UO_ref22_Same_L1 : Outs := (.more .ret ⟨[(4, (.hole .bool))], []⟩ (.one (.exit 0) ⟨[], []⟩))
def B_ref22_Same_L1 : Blk := frBlk 0 [36] K0_ref22_Same_L1 TM_ref22_Same_L1 UO_ref22_Same_L1 (fun k => loopV (fun v => ref22_Same_L1 k.1 v))
def gs_ref22_Same : Nat → Option Blk := lk [(1, B_ref22_Same_L1)]
theorem ct_ref22_Same_L1 : CodeSound Try.prog (cx_ref22_Same) (subL (subR (subL (subR (subR (bodyOf Try.f13)))))) (B_ref22_Same_L1).D :=
  loop_printed (G := gs_ref22_Same) (A := .leaf) (T0 := K0_ref22_Same_L1) (T := TM_ref22_Same_L1) (U := UO_ref22_Same_L1) (step := (fun k v => ref22_Same_L1 k.1 v)) (cxo_ref22_Same) follows (by kernel_rfl) (by kernel_rfl) (CutsOk.leaf _) (by intro k v; kernel_rfl)
theorem sd_ref22_Same : FnSound Try.prog gl 13 sg_ref22_Same :=
  fn_printed (G := gs_ref22_Same) (A := (.two .leaf (.two .leaf (.two (.two .leaf (.two (.cut 1) .leaf)) .leaf)))) (cxo_ref22_Same) follows Try.func13 (by kernel_rfl) (by kernel_rfl) (by kernel_rfl) (by kernel_rfl) (by kernel_rfl) (CutsOk.two (CutsOk.leaf _) (CutsOk.two (CutsOk.leaf _) (CutsOk.two (CutsOk.two (CutsOk.leaf _) (CutsOk.two (CutsOk.cut (g := B_ref22_Same_L1) (by kernel_rfl) (ct_ref22_Same_L1)) (CutsOk.leaf _))) (CutsOk.leaf _)))) (by intro v; kernel_rfl)
end Go.PE.Ytlmhpjmhhlbgmaa
end
end

section
set_option maxRecDepth 100000
set_option linter.unusedVariables false
noncomputable section
namespace Go.PE.Ytlmhpjmhhlbgmaa
open Go.PE Go.Proofs

def sg_law22_sane : Sig := mkSig [] [] [(.hole .bool)] [] (fun p => law22_sane)
theorem fk_law22_sane : FnOk Try.prog 5 := ⟨Try.f5, Try.func5, by kernel_rfl, by kernel_rfl⟩
def cx_law22_sane : Cx := ⟨tys, lk [(8, sg_dispute_Answer), (7, sg_dispute_Ask), (15, sg_dispute_Begin), (9, sg_dispute_Open), (10, sg_dispute_Rounds)], 77, 0, [], gl⟩
theorem cxo_law22_sane : CxOk Try.prog (cx_law22_sane) := ⟨tys_ok, FnsOk.cons fk_dispute_Answer sd_dispute_Answer (FnsOk.cons fk_dispute_Ask sd_dispute_Ask (FnsOk.cons fk_dispute_Begin sd_dispute_Begin (FnsOk.cons fk_dispute_Open sd_dispute_Open (FnsOk.cons fk_dispute_Rounds sd_dispute_Rounds (FnsOk.nil)))))⟩
def gs_law22_sane : Nat → Option Blk := lk []
theorem sd_law22_sane : FnSound Try.prog gl 5 sg_law22_sane :=
  fn_printed (G := gs_law22_sane) (A := .leaf) (cxo_law22_sane) follows Try.func5 (by kernel_rfl) (by kernel_rfl) (by kernel_rfl) (by kernel_rfl) (by kernel_rfl) (CutsOk.leaf _) (by intro v; kernel_rfl)
def sg_law22_kept : Sig := mkSig [(.hole (.slice T_6649))] [] [(.hole .bool)] [] (fun p => law22_kept p.1.1)
theorem fk_law22_kept : FnOk Try.prog 6 := ⟨Try.f6, Try.func6, by kernel_rfl, by kernel_rfl⟩
def cx_law22_kept : Cx := ⟨tys, lk [], 6, 0, [], gl⟩
theorem cxo_law22_kept : CxOk Try.prog (cx_law22_kept) := ⟨tys_ok, FnsOk.nil⟩
def gs_law22_kept : Nat → Option Blk := lk []
theorem sd_law22_kept : FnSound Try.prog gl 6 sg_law22_kept :=
  fn_printed (G := gs_law22_kept) (A := .leaf) (cxo_law22_kept) follows Try.func6 (by kernel_rfl) (by kernel_rfl) (by kernel_rfl) (by kernel_rfl) (by kernel_rfl) (CutsOk.leaf _) (by intro v; kernel_rfl)
def sg_law22_DisputeNarrows : Sig := mkSig [(.hole T_2c9a), (.hole (.slice T_6649))] [] [(.hole .bool)] [] (fun p => law22_DisputeNarrows p.1.1 p.1.2.1)
theorem fk_law22_DisputeNarrows : FnOk Try.prog 3 := ⟨Try.f3, Try.func3, by kernel_rfl, by kernel_rfl⟩
def cx_law22_DisputeNarrows : Cx := ⟨tys, lk [(8, sg_dispute_Answer), (7, sg_dispute_Ask), (9, sg_dispute_Open), (10, sg_dispute_Rounds), (6, sg_law22_kept), (5, sg_law22_sane)], 108, 0, [], gl⟩
theorem cxo_law22_DisputeNarrows : CxOk Try.prog (cx_law22_DisputeNarrows) := ⟨tys_ok, FnsOk.cons fk_dispute_Answer sd_dispute_Answer (FnsOk.cons fk_dispute_Ask sd_dispute_Ask (FnsOk.cons fk_dispute_Open sd_dispute_Open (FnsOk.cons fk_dispute_Rounds sd_dispute_Rounds (FnsOk.cons fk_law22_kept sd_law22_kept (FnsOk.cons fk_law22_sane sd_law22_sane (FnsOk.nil))))))⟩
abbrev K0_law22_DisputeNarrows_J1 : List (Nat × Ty) := [(5, (.int .i64))]
abbrev TM_law22_DisputeNarrows_J1 : Tm := ⟨[(2, (.ptr 0 [])), (7, (.ptr 1 [])), (8, (.own 2))], [(.box T_2c9a (.hole T_2c9a)), (.box T_2c9a (.ncons (.hole (.int .i64)) (.ncons (.hole (.int .i64)) (.ncons (.hole (.arr 32 (.int .u8))) (.ncons (.own 3) .nnil))))), (.vec (.int .i64)), (.vec T_6649)]⟩
abbrev UO_law22_DisputeNarrows_J1 : Outs := (.one .normal ⟨[(2, (.ptr 0 [])), (7, (.ptr 1 [])), (87, (.hole .bool))], [(.box T_2c9a (.hole T_2c9a)), (.box T_2c9a (.ncons (.hole (.int .i64)) (.ncons (.hole (.int .i64)) (.ncons (.hole (.arr 32 (.int .u8))) (.ncons (.own 2) .nnil))))), (.vec T_6649)]⟩)
def B_law22_DisputeNarrows_J1 : Blk := frBlk 0 [4, 5] K0_law22_DisputeNarrows_J1 TM_law22_DisputeNarrows_J1 UO_law22_DisputeNarrows_J1 (fun k v => law22_DisputeNarrows_J1 k.1 v)
abbrev K0_law22_DisputeNarrows_J2 : List (Nat × Ty) := [(5, (.int .i64))]
abbrev TM_law22_DisputeNarrows_J2 : Tm := ⟨[(2, (.ptr 0 [])), (7, (.ptr 1 []))], [(.box T_2c9a (.hole T_2c9a)), (.box T_2c9a (.ncons (.hole (.int .i64)) (.ncons (.hole (.int .i64)) (.ncons (.hole (.arr 32 (.int .u8))) (.ncons (.own 2) .nnil))))), (.vec T_6649)]⟩
abbrev UO_law22_DisputeNarrows_J2 : Outs := (.more .ret ⟨[(4, (.hole .bool))], []⟩ (.one .normal ⟨[(2, (.ptr 0 [])), (7, (.ptr 1 []))], [(.box T_2c9a (.hole T_2c9a)), (.box T_2c9a (.ncons (.hole (.int .i64)) (.ncons (.hole (.int .i64)) (.ncons (.hole (.arr 32 (.int .u8))) (.ncons (.own 2) .nnil))))), (.vec T_6649)]⟩))
def B_law22_DisputeNarrows_J2 : Blk := frBlk 0 [5] K0_law22_DisputeNarrows_J2 TM_law22_DisputeNarrows_J2 UO_law22_DisputeNarrows_J2 (fun k v => law22_DisputeNarrows_J2 k.1 v)
def gs_law22_DisputeNarrows : Nat → Option Blk := lk [(1, B_law22_DisputeNarrows_J1), (2, B_law22_DisputeNarrows_J2)]
theorem ct_law22_DisputeNarrows_J1 : CodeSound Try.prog (cx_law22_DisputeNarrows) (subL (subL (subR (subR (subR (subR (subR (subR (bodyOf Try.f3))))))))) (B_law22_DisputeNarrows_J1).D :=
  join_sound (G := gs_law22_DisputeNarrows) (A := .leaf) (T0 := K0_law22_DisputeNarrows_J1) (T := TM_law22_DisputeNarrows_J1) (U := UO_law22_DisputeNarrows_J1) (F := (fun k v => law22_DisputeNarrows_J1 k.1 v)) (cxo_law22_DisputeNarrows) follows (by kernel_rfl) (CutsOk.leaf _) (by intro k v; kernel_rfl)
theorem ct_law22_DisputeNarrows_J2 : CodeSound Try.prog (cx_law22_DisputeNarrows) (subL (subR (subR (subR (subR (subR (subR (subR (bodyOf Try.f3))))))))) (B_law22_DisputeNarrows_J2).D :=
  join_sound (G := gs_law22_DisputeNarrows) (A := .leaf) (T0 := K0_law22_DisputeNarrows_J2) (T := TM_law22_DisputeNarrows_J2) (U := UO_law22_DisputeNarrows_J2) (F := (fun k v => law22_DisputeNarrows_J2 k.1 v)) (cxo_law22_DisputeNarrows) follows (by kernel_rfl) (CutsOk.leaf _) (by intro k v; kernel_rfl)
theorem sd_law22_DisputeNarrows : FnSound Try.prog gl 3 sg_law22_DisputeNarrows :=
  fn_printed (G := gs_law22_DisputeNarrows) (A := (.two .leaf (.two .leaf (.two .leaf (.two .leaf (.two .leaf (.two .leaf (.two (.two (.cut 1) .leaf) (.two (.cut 2) .leaf))))))))) (cxo_law22_DisputeNarrows) follows Try.func3 (by kernel_rfl) (by kernel_rfl) (by kernel_rfl) (by kernel_rfl) (by kernel_rfl) (CutsOk.two (CutsOk.leaf _) (CutsOk.two (CutsOk.leaf _) (CutsOk.two (CutsOk.leaf _) (CutsOk.two (CutsOk.leaf _) (CutsOk.two (CutsOk.leaf _) (CutsOk.two (CutsOk.leaf _) (CutsOk.two (CutsOk.two (CutsOk.cut (g := B_law22_DisputeNarrows_J1) (by kernel_rfl) (ct_law22_DisputeNarrows_J1)) (CutsOk.leaf _)) (CutsOk.two (CutsOk.cut (g := B_law22_DisputeNarrows_J2) (by kernel_rfl) (ct_law22_DisputeNarrows_J2)) (CutsOk.leaf _))))))))) (by intro v; kernel_rfl)
def sg_law22_DisputeSettles : Sig := mkSig [(.hole T_2c9a), (.hole (.arr 32 (.int .u8))), (.hole (.int .u8))] [] [(.hole .bool)] [] (fun p => law22_DisputeSettles p.1.1 p.1.2.1 p.1.2.2.1)
theorem fk_law22_DisputeSettles : FnOk Try.prog 4 := ⟨Try.f4, Try.func4, by kernel_rfl, by kernel_rfl⟩
def cx_law22_DisputeSettles : Cx := ⟨tys, lk [(11, sg_dispute_Settle), (6, sg_law22_kept), (5, sg_law22_sane), (14, sg_ref16_SameInts), (13, sg_ref22_Same), (12, sg_ref22_Settle)], 66, 0, [], gl⟩
theorem cxo_law22_DisputeSettles : CxOk Try.prog (cx_law22_DisputeSettles) := ⟨tys_ok, FnsOk.cons fk_dispute_Settle sd_dispute_Settle (FnsOk.cons fk_law22_kept sd_law22_kept (FnsOk.cons fk_law22_sane sd_law22_sane (FnsOk.cons fk_ref16_SameInts sd_ref16_SameInts (FnsOk.cons fk_ref22_Same sd_ref22_Same (FnsOk.cons fk_ref22_Settle sd_ref22_Settle (FnsOk.nil))))))⟩
abbrev K0_law22_DisputeSettles_J1 : List (Nat × Ty) := [(2, (.int .u8))]
abbrev TM_law22_DisputeSettles_J1 : Tm := ⟨[(3, (.ptr 0 [])), (4, (.ptr 1 []))], [(.box T_2c9a (.hole T_2c9a)), (.box (.arr 32 (.int .u8)) (.hole (.arr 32 (.int .u8))))]⟩
abbrev UO_law22_DisputeSettles_J1 : Outs := (.one .normal ⟨[(3, (.ptr 0 [])), (4, (.ptr 1 []))], [(.box T_2c9a (.hole T_2c9a)), (.box (.arr 32 (.int .u8)) (.hole (.arr 32 (.int .u8))))]⟩)
def B_law22_DisputeSettles_J1 : Blk := frBlk 0 [2, 6] K0_law22_DisputeSettles_J1 TM_law22_DisputeSettles_J1 UO_law22_DisputeSettles_J1 (fun k v => law22_DisputeSettles_J1 k.1 v)
def gs_law22_DisputeSettles : Nat → Option Blk := lk [(1, B_law22_DisputeSettles_J1)]
theorem ct_law22_DisputeSettles_J1 : CodeSound Try.prog (cx_law22_DisputeSettles) (subL (subR (subR (subR (bodyOf Try.f4))))) (B_law22_DisputeSettles_J1).D :=
  join_sound (G := gs_law22_DisputeSettles) (A := .leaf) (T0 := K0_law22_DisputeSettles_J1) (T := TM_law22_DisputeSettles_J1) (U := UO_law22_DisputeSettles_J1) (F := (fun k v => law22_DisputeSettles_J1 k.1 v)) (cxo_law22_DisputeSettles) follows (by kernel_rfl) (CutsOk.leaf _) (by intro k v; kernel_rfl)
theorem sd_law22_DisputeSettles : FnSound Try.prog gl 4 sg_law22_DisputeSettles :=
  fn_printed (G := gs_law22_DisputeSettles) (A := (.two .leaf (.two .leaf (.two .leaf (.two (.cut 1) .leaf))))) (cxo_law22_DisputeSettles) follows Try.func4 (by kernel_rfl) (by kernel_rfl) (by kernel_rfl) (by kernel_rfl) (by kernel_rfl) (CutsOk.two (CutsOk.leaf _) (CutsOk.two (CutsOk.leaf _) (CutsOk.two (CutsOk.leaf _) (CutsOk.two (CutsOk.cut (g := B_law22_DisputeSettles_J1) (by kernel_rfl) (ct_law22_DisputeSettles_J1)) (CutsOk.leaf _))))) (by intro v; kernel_rfl)
end Go.PE.Ytlmhpjmhhlbgmaa
end
end
