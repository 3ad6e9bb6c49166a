/- The functions of the program do what their printed texts say; no condition. -/
import Derived.Test.YthfkhjnomjpaoaaProg
import Derived.Test.YthfkhjnomjpaoaaQc
import Derived.Test.YthfkhjnomjpaoaaPa
import Derived.KernelRfl
section
set_option maxRecDepth 100000
noncomputable section
namespace Go.PE.Ythfkhjnomjpaoaa
open Go.PE Go.Proofs
def gl : Gl := fun _ => none
def tys : Nat → Option Ty := lk [(2, (.int .i64)), (3, (.int .i64)), (4, .bool), (5, (.int .u8)), (9, .str), (22, (.int .u32)), (23, (.slice T_089d)), (24, (.slice T_b101)), (26, T_8f0a), (32, (.arr 32 (.int .u8))), (34, T_b85e), (37, (.slice (.int .u8))), (40, (.int .i64)), (47, (.slice (.slice (.int .u8)))), (49, T_089d), (51, T_b101), (55, (.int .u64)), (67, (.map T_b85e .bool)), (69, (.slice (.int .i64))), (75, .ptr), (77, T_07e8), (81, (.int .u16)), (91, .fn), (95, .fn), (99, .fn), (104, .fn)]
theorem follows : Try.prog.follows .mixedOrders = true := by kernel_rfl
theorem ty_2 : fitTy Try.prog (.int .i64) (.id 2) = true := by kernel_rfl
theorem ty_3 : fitTy Try.prog (.int .i64) (.id 3) = true := by kernel_rfl
theorem ty_4 : fitTy Try.prog .bool (.id 4) = true := by kernel_rfl
theorem ty_5 : fitTy Try.prog (.int .u8) (.id 5) = true := by kernel_rfl
theorem ty_9 : fitTy Try.prog .str (.id 9) = true := by kernel_rfl
theorem ty_22 : fitTy Try.prog (.int .u32) (.id 22) = true := by kernel_rfl
theorem ty_23 : fitTy Try.prog (.slice T_089d) (.id 23) = true := by kernel_rfl
theorem ty_24 : fitTy Try.prog (.slice T_b101) (.id 24) = true := by kernel_rfl
theorem ty_26 : fitTy Try.prog T_8f0a (.id 26) = true := by kernel_rfl
theorem ty_32 : fitTy Try.prog (.arr 32 (.int .u8)) (.id 32) = true := by kernel_rfl
theorem ty_34 : fitTy Try.prog T_b85e (.id 34) = true := by kernel_rfl
theorem ty_37 : fitTy Try.prog (.slice (.int .u8)) (.id 37) = true := by kernel_rfl
theorem ty_40 : fitTy Try.prog (.int .i64) (.id 40) = true := by kernel_rfl
theorem ty_47 : fitTy Try.prog (.slice (.slice (.int .u8))) (.id 47) = true := by kernel_rfl
theorem ty_49 : fitTy Try.prog T_089d (.id 49) = true := by kernel_rfl
theorem ty_51 : fitTy Try.prog T_b101 (.id 51) = true := by kernel_rfl
theorem ty_55 : fitTy Try.prog (.int .u64) (.id 55) = true := by kernel_rfl
theorem ty_67 : fitTy Try.prog (.map T_b85e .bool) (.id 67) = true := by kernel_rfl
theorem ty_69 : fitTy Try.prog (.slice (.int .i64)) (.id 69) = true := by kernel_rfl
theorem ty_75 : fitTy Try.prog .ptr (.id 75) = true := by kernel_rfl
theorem ty_77 : fitTy Try.prog T_07e8 (.id 77) = true := by kernel_rfl
theorem ty_81 : fitTy Try.prog (.int .u16) (.id 81) = true := by kernel_rfl
theorem ty_91 : fitTy Try.prog .fn (.id 91) = true := by kernel_rfl
theorem ty_95 : fitTy Try.prog .fn (.id 95) = true := by kernel_rfl
theorem ty_99 : fitTy Try.prog .fn (.id 99) = true := by kernel_rfl
theorem ty_104 : fitTy Try.prog .fn (.id 104) = true := by kernel_rfl
theorem dep : Nat.ble 62 Try.prog.depth = true := by kernel_rfl
theorem tys_ok : TyOk Try.prog tys := TyOk.lk_cons ty_2 (TyOk.lk_cons ty_3 (TyOk.lk_cons ty_4 (TyOk.lk_cons ty_5 (TyOk.lk_cons ty_9 (TyOk.lk_cons ty_22 (TyOk.lk_cons ty_23 (TyOk.lk_cons ty_24 (TyOk.lk_cons ty_26 (TyOk.lk_cons ty_32 (TyOk.lk_cons ty_34 (TyOk.lk_cons ty_37 (TyOk.lk_cons ty_40 (TyOk.lk_cons ty_47 (TyOk.lk_cons ty_49 (TyOk.lk_cons ty_51 (TyOk.lk_cons ty_55 (TyOk.lk_cons ty_67 (TyOk.lk_cons ty_69 (TyOk.lk_cons ty_75 (TyOk.lk_cons ty_77 (TyOk.lk_cons ty_81 (TyOk.lk_cons ty_91 (TyOk.lk_cons ty_95 (TyOk.lk_cons ty_99 (TyOk.lk_cons ty_104 (TyOk.lk_nil (Nat.le_of_ble_eq_true dep)))))))))))))))))))))))))))
end Go.PE.Ythfkhjnomjpaoaa
end
end

section
set_option maxRecDepth 100000
set_option linter.unusedVariables false
noncomputable section
namespace Go.PE.Ythfkhjnomjpaoaa
open Go.PE Go.Proofs

def sg_keep_Items : Sig := mkSig [(.hole (.slice (.slice (.int .u8)))), (.hole (.int .i64)), (.hole (.int .i64))] [] [(.hole .bool)] [] (fun p => keep_Items p.1.1 p.1.2.1 p.1.2.2.1)
theorem fk_keep_Items : FnOk Try.prog 19 := ⟨Try.f19, Try.func19, by kernel_rfl, by kernel_rfl⟩
def cx_keep_Items : Cx := ⟨tys, lk [], 24, 0, [], gl⟩
theorem cxo_keep_Items : CxOk Try.prog (cx_keep_Items) := ⟨tys_ok, FnsOk.nil⟩
abbrev K0_keep_Items_L1 : List (Nat × Ty) := [(2, (.int .i64)), (13, (.slice (.slice (.int .u8)))), (14, (.int .i64))]
abbrev TM_keep_Items_L1 : Tm := ⟨[(15, (.hole (.int .i64)))], []⟩
abbrev UO_keep_Items_L1 : Outs := (.more .ret ⟨[(6, (.hole .bool))], []⟩ (.one (.exit 0) ⟨[], []⟩))
def B_keep_Items_L1 : Blk := frBlk 0 [2, 13, 14] K0_keep_Items_L1 TM_keep_Items_L1 UO_keep_Items_L1 (fun k => loopV (fun v => keep_Items_L1 k.1 k.2.1 k.2.2.1 v))
def gs_keep_Items : Nat → Option Blk := lk [(1, B_keep_Items_L1)]
theorem ct_keep_Items_L1 : CodeSound Try.prog (cx_keep_Items) (subL (subR (subL (subR (subR (bodyOf Try.f19)))))) (B_keep_Items_L1).D :=
  loop_printed (G := gs_keep_Items) (A := .leaf) (T0 := K0_keep_Items_L1) (T := TM_keep_Items_L1) (U := UO_keep_Items_L1) (step := (fun k v => keep_Items_L1 k.1 k.2.1 k.2.2.1 v)) (cxo_keep_Items) follows (by kernel_rfl) (by kernel_rfl) (CutsOk.leaf _) (by intro k v; kernel_rfl)
theorem sd_keep_Items : FnSound Try.prog gl 19 sg_keep_Items :=
  fn_printed (G := gs_keep_Items) (A := (.two .leaf (.two .leaf (.two (.two .leaf (.two (.cut 1) .leaf)) .leaf)))) (cxo_keep_Items) follows Try.func19 (by kernel_rfl) (by kernel_rfl) (by kernel_rfl) (by kernel_rfl) (by kernel_rfl) (CutsOk.two (CutsOk.leaf _) (CutsOk.two (CutsOk.leaf _) (CutsOk.two (CutsOk.two (CutsOk.leaf _) (CutsOk.two (CutsOk.cut (g := B_keep_Items_L1) (by kernel_rfl) (ct_keep_Items_L1)) (CutsOk.leaf _))) (CutsOk.leaf _)))) (by intro v; kernel_rfl)
def sg_keep_Tx : Sig := mkSig [(.hole T_8f0a)] [] [(.hole .bool)] [] (fun p => keep_Tx p.1.1)
theorem fk_keep_Tx : FnOk Try.prog 7 := ⟨Try.f7, Try.func7, by kernel_rfl, by kernel_rfl⟩
def cx_keep_Tx : Cx := ⟨tys, lk [(19, sg_keep_Items)], 41, 0, [], gl⟩
theorem cxo_keep_Tx : CxOk Try.prog (cx_keep_Tx) := ⟨tys_ok, FnsOk.cons fk_keep_Items sd_keep_Items (FnsOk.nil)⟩
abbrev K0_keep_Tx_L1 : List (Nat × Ty) := [(18, (.slice T_089d)), (19, (.int .i64))]
abbrev TM_keep_Tx_L1 : Tm := ⟨[(1, (.ptr 0 [])), (20, (.hole (.int .i64)))], [(.box T_8f0a (.hole T_8f0a))]⟩
abbrev UO_keep_Tx_L1 : Outs := (.more .ret ⟨[(2, (.hole .bool))], []⟩ (.one (.exit 0) ⟨[(1, (.ptr 0 []))], [(.box T_8f0a (.hole T_8f0a))]⟩))
def B_keep_Tx_L1 : Blk := frBlk 0 [18, 19] K0_keep_Tx_L1 TM_keep_Tx_L1 UO_keep_Tx_L1 (fun k => loopV (fun v => keep_Tx_L1 k.1 k.2.1 v))
abbrev K0_keep_Tx_L2 : List (Nat × Ty) := [(30, (.slice T_b101)), (31, (.int .i64))]
abbrev TM_keep_Tx_L2 : Tm := ⟨[(32, (.hole (.int .i64)))], []⟩
abbrev UO_keep_Tx_L2 : Outs := (.more .ret ⟨[(2, (.hole .bool))], []⟩ (.one (.exit 2) ⟨[], []⟩))
def B_keep_Tx_L2 : Blk := frBlk 0 [30, 31] K0_keep_Tx_L2 TM_keep_Tx_L2 UO_keep_Tx_L2 (fun k => loopV (fun v => keep_Tx_L2 k.1 k.2.1 v))
def gs_keep_Tx : Nat → Option Blk := lk [(1, B_keep_Tx_L1), (2, B_keep_Tx_L2)]
theorem ct_keep_Tx_L2 : CodeSound Try.prog (cx_keep_Tx) (subL (subR (subL (subR (subR (subR (bodyOf Try.f7))))))) (B_keep_Tx_L2).D :=
  loop_printed (G := gs_keep_Tx) (A := .leaf) (T0 := K0_keep_Tx_L2) (T := TM_keep_Tx_L2) (U := UO_keep_Tx_L2) (step := (fun k v => keep_Tx_L2 k.1 k.2.1 v)) (cxo_keep_Tx) follows (by kernel_rfl) (by kernel_rfl) (CutsOk.leaf _) (by intro k v; kernel_rfl)
theorem ct_keep_Tx_L1 : CodeSound Try.prog (cx_keep_Tx) (subL (subR (subL (subR (subR (bodyOf Try.f7)))))) (B_keep_Tx_L1).D :=
  loop_printed (G := gs_keep_Tx) (A := .leaf) (T0 := K0_keep_Tx_L1) (T := TM_keep_Tx_L1) (U := UO_keep_Tx_L1) (step := (fun k v => keep_Tx_L1 k.1 k.2.1 v)) (cxo_keep_Tx) follows (by kernel_rfl) (by kernel_rfl) (CutsOk.leaf _) (by intro k v; kernel_rfl)
theorem sd_keep_Tx : FnSound Try.prog gl 7 sg_keep_Tx :=
  fn_printed (G := gs_keep_Tx) (A := (.two .leaf (.two .leaf (.two (.two .leaf (.two (.cut 1) .leaf)) (.two (.two .leaf (.two (.cut 2) .leaf)) .leaf))))) (cxo_keep_Tx) follows Try.func7 (by kernel_rfl) (by kernel_rfl) (by kernel_rfl) (by kernel_rfl) (by kernel_rfl) (CutsOk.two (CutsOk.leaf _) (CutsOk.two (CutsOk.leaf _) (CutsOk.two (CutsOk.two (CutsOk.leaf _) (CutsOk.two (CutsOk.cut (g := B_keep_Tx_L1) (by kernel_rfl) (ct_keep_Tx_L1)) (CutsOk.leaf _))) (CutsOk.two (CutsOk.two (CutsOk.leaf _) (CutsOk.two (CutsOk.cut (g := B_keep_Tx_L2) (by kernel_rfl) (ct_keep_Tx_L2)) (CutsOk.leaf _))) (CutsOk.leaf _))))) (by intro v; kernel_rfl)
end Go.PE.Ythfkhjnomjpaoaa
end
end

section
set_option maxRecDepth 100000
set_option linter.unusedVariables false
noncomputable section
namespace Go.PE.Ythfkhjnomjpaoaa
open Go.PE Go.Proofs

def sg_ref01_joined : Sig := mkSig [(.hole (.slice (.int .u8))), (.hole (.slice (.int .u8)))] [] [(.own 0)] [(.vec (.int .u8))] (fun p => ref01_joined p.1.1 p.1.2.1)
theorem fk_ref01_joined : FnOk Try.prog 38 := ⟨Try.f38, Try.func38, by kernel_rfl, by kernel_rfl⟩
def cx_ref01_joined : Cx := ⟨tys, lk [], 17, 0, [], gl⟩
theorem cxo_ref01_joined : CxOk Try.prog (cx_ref01_joined) := ⟨tys_ok, FnsOk.nil⟩
def gs_ref01_joined : Nat → Option Blk := lk []
theorem sd_ref01_joined : FnSound Try.prog gl 38 sg_ref01_joined :=
  fn_printed (G := gs_ref01_joined) (A := .leaf) (cxo_ref01_joined) follows Try.func38 (by kernel_rfl) (by kernel_rfl) (by kernel_rfl) (by kernel_rfl) (by kernel_rfl) (CutsOk.leaf _) (by intro v; kernel_rfl)
def sg_ref01_AppendHash : Sig := mkSig [(.hole (.slice (.int .u8))), (.hole (.arr 32 (.int .u8)))] [] [(.own 0)] [(.vec (.int .u8))] (fun p => ref01_AppendHash p.1.1 p.1.2.1)
theorem fk_ref01_AppendHash : FnOk Try.prog 26 := ⟨Try.f26, Try.func26, by kernel_rfl, by kernel_rfl⟩
def cx_ref01_AppendHash : Cx := ⟨tys, lk [(38, sg_ref01_joined)], 8, 0, [], gl⟩
theorem cxo_ref01_AppendHash : CxOk Try.prog (cx_ref01_AppendHash) := ⟨tys_ok, FnsOk.cons fk_ref01_joined sd_ref01_joined (FnsOk.nil)⟩
def gs_ref01_AppendHash : Nat → Option Blk := lk []
theorem sd_ref01_AppendHash : FnSound Try.prog gl 26 sg_ref01_AppendHash :=
  fn_printed (G := gs_ref01_AppendHash) (A := .leaf) (cxo_ref01_AppendHash) follows Try.func26 (by kernel_rfl) (by kernel_rfl) (by kernel_rfl) (by kernel_rfl) (by kernel_rfl) (CutsOk.leaf _) (by intro v; kernel_rfl)
def sg_ref01_little : Sig := mkSig [(.hole (.int .u64)), (.hole (.int .i64))] [] [(.own 0)] [(.vec (.int .u8))] (fun p => ref01_little p.1.1 p.1.2.1)
theorem fk_ref01_little : FnOk Try.prog 39 := ⟨Try.f39, Try.func39, by kernel_rfl, by kernel_rfl⟩
def cx_ref01_little : Cx := ⟨tys, lk [], 24, 0, [], gl⟩
theorem cxo_ref01_little : CxOk Try.prog (cx_ref01_little) := ⟨tys_ok, FnsOk.nil⟩
abbrev K0_ref01_little_L1 : List (Nat × Ty) := [(0, (.int .u64)), (10, (.int .i64))]
abbrev TM_ref01_little_L1 : Tm := ⟨[(5, (.own 0)), (11, (.hole (.int .i64)))], [(.vec (.int .u8))]⟩
abbrev UO_ref01_little_L1 : Outs := (.one (.exit 0) ⟨[(5, (.own 0))], [(.vec (.int .u8))]⟩)
def B_ref01_little_L1 : Blk := frBlk 0 [0, 4, 10] K0_ref01_little_L1 TM_ref01_little_L1 UO_ref01_little_L1 (fun k => loopV (fun v => ref01_little_L1 k.1 k.2.1 v))
def gs_ref01_little : Nat → Option Blk := lk [(1, B_ref01_little_L1)]
theorem ct_ref01_little_L1 : CodeSound Try.prog (cx_ref01_little) (subL (subR (subL (subR (subR (bodyOf Try.f39)))))) (B_ref01_little_L1).D :=
  loop_printed (G := gs_ref01_little) (A := .leaf) (T0 := K0_ref01_little_L1) (T := TM_ref01_little_L1) (U := UO_ref01_little_L1) (step := (fun k v => ref01_little_L1 k.1 k.2.1 v)) (cxo_ref01_little) follows (by kernel_rfl) (by kernel_rfl) (CutsOk.leaf _) (by intro k v; kernel_rfl)
theorem sd_ref01_little : FnSound Try.prog gl 39 sg_ref01_little :=
  fn_printed (G := gs_ref01_little) (A := (.two .leaf (.two .leaf (.two (.two .leaf (.two (.cut 1) .leaf)) .leaf)))) (cxo_ref01_little) follows Try.func39 (by kernel_rfl) (by kernel_rfl) (by kernel_rfl) (by kernel_rfl) (by kernel_rfl) (CutsOk.two (CutsOk.leaf _) (CutsOk.two (CutsOk.leaf _) (CutsOk.two (CutsOk.two (CutsOk.leaf _) (CutsOk.two (CutsOk.cut (g := B_ref01_little_L1) (by kernel_rfl) (ct_ref01_little_L1)) (CutsOk.leaf _))) (CutsOk.leaf _)))) (by intro v; kernel_rfl)
def sg_ref01_AppendU32 : Sig := mkSig [(.hole (.slice (.int .u8))), (.hole (.int .u32))] [] [(.own 0)] [(.vec (.int .u8))] (fun p => ref01_AppendU32 p.1.1 p.1.2.1)
theorem fk_ref01_AppendU32 : FnOk Try.prog 25 := ⟨Try.f25, Try.func25, by kernel_rfl, by kernel_rfl⟩
def cx_ref01_AppendU32 : Cx := ⟨tys, lk [(38, sg_ref01_joined), (39, sg_ref01_little)], 10, 0, [], gl⟩
theorem cxo_ref01_AppendU32 : CxOk Try.prog (cx_ref01_AppendU32) := ⟨tys_ok, FnsOk.cons fk_ref01_joined sd_ref01_joined (FnsOk.cons fk_ref01_little sd_ref01_little (FnsOk.nil))⟩
def gs_ref01_AppendU32 : Nat → Option Blk := lk []
theorem sd_ref01_AppendU32 : FnSound Try.prog gl 25 sg_ref01_AppendU32 :=
  fn_printed (G := gs_ref01_AppendU32) (A := .leaf) (cxo_ref01_AppendU32) follows Try.func25 (by kernel_rfl) (by kernel_rfl) (by kernel_rfl) (by kernel_rfl) (by kernel_rfl) (CutsOk.leaf _) (by intro v; kernel_rfl)
def sg_ref01_Same : Sig := mkSig [(.hole (.slice (.int .u8))), (.hole (.slice (.int .u8)))] [] [(.hole .bool)] [] (fun p => ref01_Same p.1.1 p.1.2.1)
theorem fk_ref01_Same : FnOk Try.prog 11 := ⟨Try.f11, Try.func11, by kernel_rfl, by kernel_rfl⟩
def cx_ref01_Same : Cx := ⟨tys, lk [], 10, 0, [], gl⟩
theorem cxo_ref01_Same : CxOk Try.prog (cx_ref01_Same) := ⟨tys_ok, FnsOk.nil⟩
def gs_ref01_Same : Nat → Option Blk := lk []
theorem sd_ref01_Same : FnSound Try.prog gl 11 sg_ref01_Same :=
  fn_printed (G := gs_ref01_Same) (A := .leaf) (cxo_ref01_Same) follows Try.func11 (by kernel_rfl) (by kernel_rfl) (by kernel_rfl) (by kernel_rfl) (by kernel_rfl) (CutsOk.leaf _) (by intro v; kernel_rfl)
end Go.PE.Ythfkhjnomjpaoaa
end
end

section
set_option maxRecDepth 100000
set_option linter.unusedVariables false
noncomputable section
namespace Go.PE.Ythfkhjnomjpaoaa
open Go.PE Go.Proofs

def sg_ref09_Compare : Sig := mkSig [(.hole T_b85e), (.hole T_b85e)] [] [(.hole (.int .i64))] [] (fun p => ref09_Compare p.1.1 p.1.2.1)
theorem fk_ref09_Compare : FnOk Try.prog 10 := ⟨Try.f10, Try.func10, by kernel_rfl, by kernel_rfl⟩
def cx_ref09_Compare : Cx := ⟨tys, lk [], 40, 0, [], gl⟩
theorem cxo_ref09_Compare : CxOk Try.prog (cx_ref09_Compare) := ⟨tys_ok, FnsOk.nil⟩
abbrev K0_ref09_Compare_L1 : List (Nat × Ty) := []
abbrev TM_ref09_Compare_L1 : Tm := ⟨[(2, (.ptr 0 [])), (3, (.ptr 1 [])), (6, (.hole (.int .i64)))], [(.box T_b85e (.hole T_b85e)), (.box T_b85e (.hole T_b85e))]⟩
abbrev UO_ref09_Compare_L1 : Outs := (.more .ret ⟨[(4, (.hole (.int .i64)))], []⟩ (.one (.exit 0) ⟨[(2, (.ptr 0 [])), (3, (.ptr 1 []))], [(.box T_b85e (.hole T_b85e)), (.box T_b85e (.hole T_b85e))]⟩))
def B_ref09_Compare_L1 : Blk := frBlk 0 [] K0_ref09_Compare_L1 TM_ref09_Compare_L1 UO_ref09_Compare_L1 (fun k => loopV (fun v => ref09_Compare_L1 v))
def gs_ref09_Compare : Nat → Option Blk := lk [(1, B_ref09_Compare_L1)]
theorem ct_ref09_Compare_L1 : CodeSound Try.prog (cx_ref09_Compare) (subL (subR (subL (subR (bodyOf Try.f10))))) (B_ref09_Compare_L1).D :=
  loop_printed (G := gs_ref09_Compare) (A := .leaf) (T0 := K0_ref09_Compare_L1) (T := TM_ref09_Compare_L1) (U := UO_ref09_Compare_L1) (step := (fun k v => ref09_Compare_L1 v)) (cxo_ref09_Compare) follows (by kernel_rfl) (by kernel_rfl) (CutsOk.leaf _) (by intro k v; kernel_rfl)
theorem sd_ref09_Compare : FnSound Try.prog gl 10 sg_ref09_Compare :=
  fn_printed (G := gs_ref09_Compare) (A := (.two .leaf (.two (.two .leaf (.two (.cut 1) .leaf)) .leaf))) (cxo_ref09_Compare) follows Try.func10 (by kernel_rfl) (by kernel_rfl) (by kernel_rfl) (by kernel_rfl) (by kernel_rfl) (CutsOk.two (CutsOk.leaf _) (CutsOk.two (CutsOk.two (CutsOk.leaf _) (CutsOk.two (CutsOk.cut (g := B_ref09_Compare_L1) (by kernel_rfl) (ct_ref09_Compare_L1)) (CutsOk.leaf _))) (CutsOk.leaf _))) (by intro v; kernel_rfl)
def sg_ref09_Point : Sig := mkSig [(.hole T_b85e)] [] [(.own 0)] [(.vec (.int .u8))] (fun p => ref09_Point p.1.1)
theorem fk_ref09_Point : FnOk Try.prog 13 := ⟨Try.f13, Try.func13, by kernel_rfl, by kernel_rfl⟩
def cx_ref09_Point : Cx := ⟨tys, lk [(26, sg_ref01_AppendHash), (25, sg_ref01_AppendU32)], 9, 0, [], gl⟩
theorem cxo_ref09_Point : CxOk Try.prog (cx_ref09_Point) := ⟨tys_ok, FnsOk.cons fk_ref01_AppendHash sd_ref01_AppendHash (FnsOk.cons fk_ref01_AppendU32 sd_ref01_AppendU32 (FnsOk.nil))⟩
def gs_ref09_Point : Nat → Option Blk := lk []
theorem sd_ref09_Point : FnSound Try.prog gl 13 sg_ref09_Point :=
  fn_printed (G := gs_ref09_Point) (A := .leaf) (cxo_ref09_Point) follows Try.func13 (by kernel_rfl) (by kernel_rfl) (by kernel_rfl) (by kernel_rfl) (by kernel_rfl) (CutsOk.leaf _) (by intro v; kernel_rfl)
end Go.PE.Ythfkhjnomjpaoaa
end
end

section
set_option maxRecDepth 100000
set_option linter.unusedVariables false
noncomputable section
namespace Go.PE.Ythfkhjnomjpaoaa
open Go.PE Go.Proofs

def sg_codec_put_uint32 : Sig := mkSig [(.hole (.slice (.int .u8))), (.hole (.int .u32)), (.hole (.int .i64))] [] [(.own 0)] [(.vec (.int .u8))] (fun p => codec_put_uint32 p.1.1 p.1.2.1 p.1.2.2.1)
theorem fk_codec_put_uint32 : FnOk Try.prog 37 := ⟨Try.f37, Try.func37, by kernel_rfl, by kernel_rfl⟩
def cx_codec_put_uint32 : Cx := ⟨tys, lk [], 31, 0, [], gl⟩
theorem cxo_codec_put_uint32 : CxOk Try.prog (cx_codec_put_uint32) := ⟨tys_ok, FnsOk.nil⟩
abbrev K0_codec_put_uint32_L1 : List (Nat × Ty) := [(1, (.int .u32)), (16, (.int .i64))]
abbrev TM_codec_put_uint32_L1 : Tm := ⟨[(7, (.own 0)), (17, (.hole (.int .i64)))], [(.vec (.int .u8))]⟩
abbrev UO_codec_put_uint32_L1 : Outs := (.one (.exit 0) ⟨[(7, (.own 0))], [(.vec (.int .u8))]⟩)
def B_codec_put_uint32_L1 : Blk := frBlk 0 [1, 6, 16] K0_codec_put_uint32_L1 TM_codec_put_uint32_L1 UO_codec_put_uint32_L1 (fun k => loopV (fun v => codec_put_uint32_L1 k.1 k.2.1 v))
def gs_codec_put_uint32 : Nat → Option Blk := lk [(1, B_codec_put_uint32_L1)]
theorem ct_codec_put_uint32_L1 : CodeSound Try.prog (cx_codec_put_uint32) (subL (subR (subL (subR (subR (bodyOf Try.f37)))))) (B_codec_put_uint32_L1).D :=
  loop_printed (G := gs_codec_put_uint32) (A := .leaf) (T0 := K0_codec_put_uint32_L1) (T := TM_codec_put_uint32_L1) (U := UO_codec_put_uint32_L1) (step := (fun k v => codec_put_uint32_L1 k.1 k.2.1 v)) (cxo_codec_put_uint32) follows (by kernel_rfl) (by kernel_rfl) (CutsOk.leaf _) (by intro k v; kernel_rfl)
theorem sd_codec_put_uint32 : FnSound Try.prog gl 37 sg_codec_put_uint32 :=
  fn_printed (G := gs_codec_put_uint32) (A := (.two .leaf (.two .leaf (.two (.two .leaf (.two (.cut 1) .leaf)) .leaf)))) (cxo_codec_put_uint32) follows Try.func37 (by kernel_rfl) (by kernel_rfl) (by kernel_rfl) (by kernel_rfl) (by kernel_rfl) (CutsOk.two (CutsOk.leaf _) (CutsOk.two (CutsOk.leaf _) (CutsOk.two (CutsOk.two (CutsOk.leaf _) (CutsOk.two (CutsOk.cut (g := B_codec_put_uint32_L1) (by kernel_rfl) (ct_codec_put_uint32_L1)) (CutsOk.leaf _))) (CutsOk.leaf _)))) (by intro v; kernel_rfl)
def sg_codec_AppendU32 : Sig := mkSig [(.hole (.slice (.int .u8))), (.hole (.int .u32))] [] [(.own 0)] [(.vec (.int .u8))] (fun p => codec_AppendU32 p.1.1 p.1.2.1)
theorem fk_codec_AppendU32 : FnOk Try.prog 23 := ⟨Try.f23, Try.func23, by kernel_rfl, by kernel_rfl⟩
def cx_codec_AppendU32 : Cx := ⟨tys, lk [(37, sg_codec_put_uint32)], 8, 0, [], gl⟩
theorem cxo_codec_AppendU32 : CxOk Try.prog (cx_codec_AppendU32) := ⟨tys_ok, FnsOk.cons fk_codec_put_uint32 sd_codec_put_uint32 (FnsOk.nil)⟩
def gs_codec_AppendU32 : Nat → Option Blk := lk []
theorem sd_codec_AppendU32 : FnSound Try.prog gl 23 sg_codec_AppendU32 :=
  fn_printed (G := gs_codec_AppendU32) (A := .leaf) (cxo_codec_AppendU32) follows Try.func23 (by kernel_rfl) (by kernel_rfl) (by kernel_rfl) (by kernel_rfl) (by kernel_rfl) (CutsOk.leaf _) (by intro v; kernel_rfl)
def sg_codec_put_uint8 : Sig := mkSig [(.hole (.slice (.int .u8))), (.hole (.int .u8)), (.hole (.int .i64))] [] [(.own 0)] [(.vec (.int .u8))] (fun p => codec_put_uint8 p.1.1 p.1.2.1 p.1.2.2.1)
theorem fk_codec_put_uint8 : FnOk Try.prog 44 := ⟨Try.f44, Try.func44, by kernel_rfl, by kernel_rfl⟩
def cx_codec_put_uint8 : Cx := ⟨tys, lk [], 31, 0, [], gl⟩
theorem cxo_codec_put_uint8 : CxOk Try.prog (cx_codec_put_uint8) := ⟨tys_ok, FnsOk.nil⟩
abbrev K0_codec_put_uint8_L1 : List (Nat × Ty) := [(1, (.int .u8)), (16, (.int .i64))]
abbrev TM_codec_put_uint8_L1 : Tm := ⟨[(7, (.own 0)), (17, (.hole (.int .i64)))], [(.vec (.int .u8))]⟩
abbrev UO_codec_put_uint8_L1 : Outs := (.one (.exit 0) ⟨[(7, (.own 0))], [(.vec (.int .u8))]⟩)
def B_codec_put_uint8_L1 : Blk := frBlk 0 [1, 6, 16] K0_codec_put_uint8_L1 TM_codec_put_uint8_L1 UO_codec_put_uint8_L1 (fun k => loopV (fun v => codec_put_uint8_L1 k.1 k.2.1 v))
def gs_codec_put_uint8 : Nat → Option Blk := lk [(1, B_codec_put_uint8_L1)]
theorem ct_codec_put_uint8_L1 : CodeSound Try.prog (cx_codec_put_uint8) (subL (subR (subL (subR (subR (bodyOf Try.f44)))))) (B_codec_put_uint8_L1).D :=
  loop_printed (G := gs_codec_put_uint8) (A := .leaf) (T0 := K0_codec_put_uint8_L1) (T := TM_codec_put_uint8_L1) (U := UO_codec_put_uint8_L1) (step := (fun k v => codec_put_uint8_L1 k.1 k.2.1 v)) (cxo_codec_put_uint8) follows (by kernel_rfl) (by kernel_rfl) (CutsOk.leaf _) (by intro k v; kernel_rfl)
theorem sd_codec_put_uint8 : FnSound Try.prog gl 44 sg_codec_put_uint8 :=
  fn_printed (G := gs_codec_put_uint8) (A := (.two .leaf (.two .leaf (.two (.two .leaf (.two (.cut 1) .leaf)) .leaf)))) (cxo_codec_put_uint8) follows Try.func44 (by kernel_rfl) (by kernel_rfl) (by kernel_rfl) (by kernel_rfl) (by kernel_rfl) (CutsOk.two (CutsOk.leaf _) (CutsOk.two (CutsOk.leaf _) (CutsOk.two (CutsOk.two (CutsOk.leaf _) (CutsOk.two (CutsOk.cut (g := B_codec_put_uint8_L1) (by kernel_rfl) (ct_codec_put_uint8_L1)) (CutsOk.leaf _))) (CutsOk.leaf _)))) (by intro v; kernel_rfl)
def sg_codec_put_uint16 : Sig := mkSig [(.hole (.slice (.int .u8))), (.hole (.int .u16)), (.hole (.int .i64))] [] [(.own 0)] [(.vec (.int .u8))] (fun p => codec_put_uint16 p.1.1 p.1.2.1 p.1.2.2.1)
theorem fk_codec_put_uint16 : FnOk Try.prog 45 := ⟨Try.f45, Try.func45, by kernel_rfl, by kernel_rfl⟩
def cx_codec_put_uint16 : Cx := ⟨tys, lk [], 31, 0, [], gl⟩
theorem cxo_codec_put_uint16 : CxOk Try.prog (cx_codec_put_uint16) := ⟨tys_ok, FnsOk.nil⟩
abbrev K0_codec_put_uint16_L1 : List (Nat × Ty) := [(1, (.int .u16)), (16, (.int .i64))]
abbrev TM_codec_put_uint16_L1 : Tm := ⟨[(7, (.own 0)), (17, (.hole (.int .i64)))], [(.vec (.int .u8))]⟩
abbrev UO_codec_put_uint16_L1 : Outs := (.one (.exit 0) ⟨[(7, (.own 0))], [(.vec (.int .u8))]⟩)
def B_codec_put_uint16_L1 : Blk := frBlk 0 [1, 6, 16] K0_codec_put_uint16_L1 TM_codec_put_uint16_L1 UO_codec_put_uint16_L1 (fun k => loopV (fun v => codec_put_uint16_L1 k.1 k.2.1 v))
def gs_codec_put_uint16 : Nat → Option Blk := lk [(1, B_codec_put_uint16_L1)]
theorem ct_codec_put_uint16_L1 : CodeSound Try.prog (cx_codec_put_uint16) (subL (subR (subL (subR (subR (bodyOf Try.f45)))))) (B_codec_put_uint16_L1).D :=
  loop_printed (G := gs_codec_put_uint16) (A := .leaf) (T0 := K0_codec_put_uint16_L1) (T := TM_codec_put_uint16_L1) (U := UO_codec_put_uint16_L1) (step := (fun k v => codec_put_uint16_L1 k.1 k.2.1 v)) (cxo_codec_put_uint16) follows (by kernel_rfl) (by kernel_rfl) (CutsOk.leaf _) (by intro k v; kernel_rfl)
theorem sd_codec_put_uint16 : FnSound Try.prog gl 45 sg_codec_put_uint16 :=
  fn_printed (G := gs_codec_put_uint16) (A := (.two .leaf (.two .leaf (.two (.two .leaf (.two (.cut 1) .leaf)) .leaf)))) (cxo_codec_put_uint16) follows Try.func45 (by kernel_rfl) (by kernel_rfl) (by kernel_rfl) (by kernel_rfl) (by kernel_rfl) (CutsOk.two (CutsOk.leaf _) (CutsOk.two (CutsOk.leaf _) (CutsOk.two (CutsOk.two (CutsOk.leaf _) (CutsOk.two (CutsOk.cut (g := B_codec_put_uint16_L1) (by kernel_rfl) (ct_codec_put_uint16_L1)) (CutsOk.leaf _))) (CutsOk.leaf _)))) (by intro v; kernel_rfl)
def sg_codec_put_uint64 : Sig := mkSig [(.hole (.slice (.int .u8))), (.hole (.int .u64)), (.hole (.int .i64))] [] [(.own 0)] [(.vec (.int .u8))] (fun p => codec_put_uint64 p.1.1 p.1.2.1 p.1.2.2.1)
theorem fk_codec_put_uint64 : FnOk Try.prog 46 := ⟨Try.f46, Try.func46, by kernel_rfl, by kernel_rfl⟩
def cx_codec_put_uint64 : Cx := ⟨tys, lk [], 30, 0, [], gl⟩
theorem cxo_codec_put_uint64 : CxOk Try.prog (cx_codec_put_uint64) := ⟨tys_ok, FnsOk.nil⟩
abbrev K0_codec_put_uint64_L1 : List (Nat × Ty) := [(1, (.int .u64)), (16, (.int .i64))]
abbrev TM_codec_put_uint64_L1 : Tm := ⟨[(7, (.own 0)), (17, (.hole (.int .i64)))], [(.vec (.int .u8))]⟩
abbrev UO_codec_put_uint64_L1 : Outs := (.one (.exit 0) ⟨[(7, (.own 0))], [(.vec (.int .u8))]⟩)
def B_codec_put_uint64_L1 : Blk := frBlk 0 [1, 6, 16] K0_codec_put_uint64_L1 TM_codec_put_uint64_L1 UO_codec_put_uint64_L1 (fun k => loopV (fun v => codec_put_uint64_L1 k.1 k.2.1 v))
def gs_codec_put_uint64 : Nat → Option Blk := lk [(1, B_codec_put_uint64_L1)]
theorem ct_codec_put_uint64_L1 : CodeSound Try.prog (cx_codec_put_uint64) (subL (subR (subL (subR (subR (bodyOf Try.f46)))))) (B_codec_put_uint64_L1).D :=
  loop_printed (G := gs_codec_put_uint64) (A := .leaf) (T0 := K0_codec_put_uint64_L1) (T := TM_codec_put_uint64_L1) (U := UO_codec_put_uint64_L1) (step := (fun k v => codec_put_uint64_L1 k.1 k.2.1 v)) (cxo_codec_put_uint64) follows (by kernel_rfl) (by kernel_rfl) (CutsOk.leaf _) (by intro k v; kernel_rfl)
theorem sd_codec_put_uint64 : FnSound Try.prog gl 46 sg_codec_put_uint64 :=
  fn_printed (G := gs_codec_put_uint64) (A := (.two .leaf (.two .leaf (.two (.two .leaf (.two (.cut 1) .leaf)) .leaf)))) (cxo_codec_put_uint64) follows Try.func46 (by kernel_rfl) (by kernel_rfl) (by kernel_rfl) (by kernel_rfl) (by kernel_rfl) (CutsOk.two (CutsOk.leaf _) (CutsOk.two (CutsOk.leaf _) (CutsOk.two (CutsOk.two (CutsOk.leaf _) (CutsOk.two (CutsOk.cut (g := B_codec_put_uint64_L1) (by kernel_rfl) (ct_codec_put_uint64_L1)) (CutsOk.leaf _))) (CutsOk.leaf _)))) (by intro v; kernel_rfl)
def sg_codec_AppendSize : Sig := mkSig [(.hole (.slice (.int .u8))), (.hole (.int .u64))] [] [(.own 0)] [(.vec (.int .u8))] (fun p => codec_AppendSize p.1.1 p.1.2.1)
theorem fk_codec_AppendSize : FnOk Try.prog 40 := ⟨Try.f40, Try.func40, by kernel_rfl, by kernel_rfl⟩
def cx_codec_AppendSize : Cx := ⟨tys, lk [(45, sg_codec_put_uint16), (37, sg_codec_put_uint32), (46, sg_codec_put_uint64), (44, sg_codec_put_uint8)], 32, 0, [], gl⟩
theorem cxo_codec_AppendSize : CxOk Try.prog (cx_codec_AppendSize) := ⟨tys_ok, FnsOk.cons fk_codec_put_uint16 sd_codec_put_uint16 (FnsOk.cons fk_codec_put_uint32 sd_codec_put_uint32 (FnsOk.cons fk_codec_put_uint64 sd_codec_put_uint64 (FnsOk.cons fk_codec_put_uint8 sd_codec_put_uint8 (FnsOk.nil))))⟩
def gs_codec_AppendSize : Nat → Option Blk := lk []
theorem sd_codec_AppendSize : FnSound Try.prog gl 40 sg_codec_AppendSize :=
  fn_printed (G := gs_codec_AppendSize) (A := .leaf) (cxo_codec_AppendSize) follows Try.func40 (by kernel_rfl) (by kernel_rfl) (by kernel_rfl) (by kernel_rfl) (by kernel_rfl) (CutsOk.leaf _) (by intro v; kernel_rfl)
def sg_codec_AppendHash : Sig := mkSig [(.hole (.slice (.int .u8))), (.hole (.arr 32 (.int .u8)))] [] [(.own 0)] [(.vec (.int .u8))] (fun p => codec_AppendHash p.1.1 p.1.2.1)
theorem fk_codec_AppendHash : FnOk Try.prog 24 := ⟨Try.f24, Try.func24, by kernel_rfl, by kernel_rfl⟩
def cx_codec_AppendHash : Cx := ⟨tys, lk [], 15, 0, [], gl⟩
theorem cxo_codec_AppendHash : CxOk Try.prog (cx_codec_AppendHash) := ⟨tys_ok, FnsOk.nil⟩
def gs_codec_AppendHash : Nat → Option Blk := lk []
theorem sd_codec_AppendHash : FnSound Try.prog gl 24 sg_codec_AppendHash :=
  fn_printed (G := gs_codec_AppendHash) (A := .leaf) (cxo_codec_AppendHash) follows Try.func24 (by kernel_rfl) (by kernel_rfl) (by kernel_rfl) (by kernel_rfl) (by kernel_rfl) (CutsOk.leaf _) (by intro v; kernel_rfl)
def sg_codec_AppendU64 : Sig := mkSig [(.hole (.slice (.int .u8))), (.hole (.int .u64))] [] [(.own 0)] [(.vec (.int .u8))] (fun p => codec_AppendU64 p.1.1 p.1.2.1)
theorem fk_codec_AppendU64 : FnOk Try.prog 41 := ⟨Try.f41, Try.func41, by kernel_rfl, by kernel_rfl⟩
def cx_codec_AppendU64 : Cx := ⟨tys, lk [(46, sg_codec_put_uint64)], 8, 0, [], gl⟩
theorem cxo_codec_AppendU64 : CxOk Try.prog (cx_codec_AppendU64) := ⟨tys_ok, FnsOk.cons fk_codec_put_uint64 sd_codec_put_uint64 (FnsOk.nil)⟩
def gs_codec_AppendU64 : Nat → Option Blk := lk []
theorem sd_codec_AppendU64 : FnSound Try.prog gl 41 sg_codec_AppendU64 :=
  fn_printed (G := gs_codec_AppendU64) (A := .leaf) (cxo_codec_AppendU64) follows Try.func41 (by kernel_rfl) (by kernel_rfl) (by kernel_rfl) (by kernel_rfl) (by kernel_rfl) (CutsOk.leaf _) (by intro v; kernel_rfl)
def sg_codec_AppendBytes : Sig := mkSig [(.hole (.slice (.int .u8))), (.hole (.slice (.int .u8)))] [] [(.own 0)] [(.vec (.int .u8))] (fun p => codec_AppendBytes p.1.1 p.1.2.1)
theorem fk_codec_AppendBytes : FnOk Try.prog 42 := ⟨Try.f42, Try.func42, by kernel_rfl, by kernel_rfl⟩
def cx_codec_AppendBytes : Cx := ⟨tys, lk [(40, sg_codec_AppendSize)], 12, 0, [], gl⟩
theorem cxo_codec_AppendBytes : CxOk Try.prog (cx_codec_AppendBytes) := ⟨tys_ok, FnsOk.cons fk_codec_AppendSize sd_codec_AppendSize (FnsOk.nil)⟩
def gs_codec_AppendBytes : Nat → Option Blk := lk []
theorem sd_codec_AppendBytes : FnSound Try.prog gl 42 sg_codec_AppendBytes :=
  fn_printed (G := gs_codec_AppendBytes) (A := .leaf) (cxo_codec_AppendBytes) follows Try.func42 (by kernel_rfl) (by kernel_rfl) (by kernel_rfl) (by kernel_rfl) (by kernel_rfl) (CutsOk.leaf _) (by intro v; kernel_rfl)
end Go.PE.Ythfkhjnomjpaoaa
end
end

section
set_option maxRecDepth 100000
set_option linter.unusedVariables false
noncomputable section
namespace Go.PE.Ythfkhjnomjpaoaa
open Go.PE Go.Proofs

def sg_ext_compare : Sig := sigXc
theorem sx_ext_compare : SoundBy (ExtCl Try.prog 35) gl sg_ext_compare := compare_sound Try.func35 (by kernel_rfl) (by kernel_rfl) (by kernel_rfl) (by kernel_rfl)
def sg_bytes_Compare : Sig := mkSig [(.hole (.slice (.int .u8))), (.hole (.slice (.int .u8)))] [] [(.hole (.int .i64))] [] (fun p => bytes_Compare p.1.1 p.1.2.1)
theorem fk_bytes_Compare : FnOk Try.prog 21 := ⟨Try.f21, Try.func21, by kernel_rfl, by kernel_rfl⟩
def cx_bytes_Compare : Cx := ⟨tys, lk [(35, sg_ext_compare)], 8, 0, [], gl⟩
theorem cxo_bytes_Compare : CxOk Try.prog (cx_bytes_Compare) := ⟨tys_ok, FnsOk.consX sx_ext_compare (FnsOk.nil)⟩
def gs_bytes_Compare : Nat → Option Blk := lk []
theorem sd_bytes_Compare : FnSound Try.prog gl 21 sg_bytes_Compare :=
  fn_printed (G := gs_bytes_Compare) (A := .leaf) (cxo_bytes_Compare) follows Try.func21 (by kernel_rfl) (by kernel_rfl) (by kernel_rfl) (by kernel_rfl) (by kernel_rfl) (CutsOk.leaf _) (by intro v; kernel_rfl)
def sg_cmp_isNaN_uint32 : Sig := mkSig [(.hole (.int .u32))] [] [(.hole .bool)] [] (fun p => cmp_isNaN_uint32 p.1.1)
theorem fk_cmp_isNaN_uint32 : FnOk Try.prog 36 := ⟨Try.f36, Try.func36, by kernel_rfl, by kernel_rfl⟩
def cx_cmp_isNaN_uint32 : Cx := ⟨tys, lk [], 6, 0, [], gl⟩
theorem cxo_cmp_isNaN_uint32 : CxOk Try.prog (cx_cmp_isNaN_uint32) := ⟨tys_ok, FnsOk.nil⟩
def gs_cmp_isNaN_uint32 : Nat → Option Blk := lk []
theorem sd_cmp_isNaN_uint32 : FnSound Try.prog gl 36 sg_cmp_isNaN_uint32 :=
  fn_printed (G := gs_cmp_isNaN_uint32) (A := .leaf) (cxo_cmp_isNaN_uint32) follows Try.func36 (by kernel_rfl) (by kernel_rfl) (by kernel_rfl) (by kernel_rfl) (by kernel_rfl) (CutsOk.leaf _) (by intro v; kernel_rfl)
def sg_cmp_Compare_uint32 : Sig := mkSig [(.hole (.int .u32)), (.hole (.int .u32))] [] [(.hole (.int .i64))] [] (fun p => cmp_Compare_uint32 p.1.1 p.1.2.1)
theorem fk_cmp_Compare_uint32 : FnOk Try.prog 22 := ⟨Try.f22, Try.func22, by kernel_rfl, by kernel_rfl⟩
def cx_cmp_Compare_uint32 : Cx := ⟨tys, lk [(36, sg_cmp_isNaN_uint32)], 20, 0, [], gl⟩
theorem cxo_cmp_Compare_uint32 : CxOk Try.prog (cx_cmp_Compare_uint32) := ⟨tys_ok, FnsOk.cons fk_cmp_isNaN_uint32 sd_cmp_isNaN_uint32 (FnsOk.nil)⟩
def gs_cmp_Compare_uint32 : Nat → Option Blk := lk []
theorem sd_cmp_Compare_uint32 : FnSound Try.prog gl 22 sg_cmp_Compare_uint32 :=
  fn_printed (G := gs_cmp_Compare_uint32) (A := .leaf) (cxo_cmp_Compare_uint32) follows Try.func22 (by kernel_rfl) (by kernel_rfl) (by kernel_rfl) (by kernel_rfl) (by kernel_rfl) (CutsOk.leaf _) (by intro v; kernel_rfl)
def sg_cmp_Or_int : Sig := mkSig [(.hole (.slice (.int .i64)))] [] [(.hole (.int .i64))] [] (fun p => cmp_Or_int p.1.1)
theorem fk_cmp_Or_int : FnOk Try.prog 20 := ⟨Try.f20, Try.func20, by kernel_rfl, by kernel_rfl⟩
def cx_cmp_Or_int : Cx := ⟨tys, lk [], 18, 0, [], gl⟩
theorem cxo_cmp_Or_int : CxOk Try.prog (cx_cmp_Or_int) := ⟨tys_ok, FnsOk.nil⟩
abbrev K0_cmp_Or_int_L1 : List (Nat × Ty) := [(3, (.int .i64)), (6, (.slice (.int .i64))), (7, (.int .i64))]
abbrev TM_cmp_Or_int_L1 : Tm := ⟨[(8, (.hole (.int .i64)))], []⟩
abbrev UO_cmp_Or_int_L1 : Outs := (.more .ret ⟨[(2, (.hole (.int .i64)))], []⟩ (.one (.exit 0) ⟨[], []⟩))
def B_cmp_Or_int_L1 : Blk := frBlk 0 [3, 6, 7] K0_cmp_Or_int_L1 TM_cmp_Or_int_L1 UO_cmp_Or_int_L1 (fun k => loopV (fun v => cmp_Or_int_L1 k.1 k.2.1 k.2.2.1 v))
def gs_cmp_Or_int : Nat → Option Blk := lk [(1, B_cmp_Or_int_L1)]
theorem ct_cmp_Or_int_L1 : CodeSound Try.prog (cx_cmp_Or_int) (subL (subR (subL (subR (subR (bodyOf Try.f20)))))) (B_cmp_Or_int_L1).D :=
  loop_printed (G := gs_cmp_Or_int) (A := .leaf) (T0 := K0_cmp_Or_int_L1) (T := TM_cmp_Or_int_L1) (U := UO_cmp_Or_int_L1) (step := (fun k v => cmp_Or_int_L1 k.1 k.2.1 k.2.2.1 v)) (cxo_cmp_Or_int) follows (by kernel_rfl) (by kernel_rfl) (CutsOk.leaf _) (by intro k v; kernel_rfl)
theorem sd_cmp_Or_int : FnSound Try.prog gl 20 sg_cmp_Or_int :=
  fn_printed (G := gs_cmp_Or_int) (A := (.two .leaf (.two .leaf (.two (.two .leaf (.two (.cut 1) .leaf)) .leaf)))) (cxo_cmp_Or_int) follows Try.func20 (by kernel_rfl) (by kernel_rfl) (by kernel_rfl) (by kernel_rfl) (by kernel_rfl) (CutsOk.two (CutsOk.leaf _) (CutsOk.two (CutsOk.leaf _) (CutsOk.two (CutsOk.two (CutsOk.leaf _) (CutsOk.two (CutsOk.cut (g := B_cmp_Or_int_L1) (by kernel_rfl) (ct_cmp_Or_int_L1)) (CutsOk.leaf _))) (CutsOk.leaf _)))) (by intro v; kernel_rfl)
end Go.PE.Ythfkhjnomjpaoaa
end
end

section
set_option maxRecDepth 100000
set_option linter.unusedVariables false
noncomputable section
namespace Go.PE.Ythfkhjnomjpaoaa
open Go.PE Go.Proofs

def sg_tx_small : Sig := mkSig [(.hole T_8f0a)] [] [(.hole .bool)] [] (fun p => tx_small p.1.1)
theorem fk_tx_small : FnOk Try.prog 27 := ⟨Try.f27, Try.func27, by kernel_rfl, by kernel_rfl⟩
def cx_tx_small : Cx := ⟨tys, lk [], 59, 0, [], gl⟩
theorem cxo_tx_small : CxOk Try.prog (cx_tx_small) := ⟨tys_ok, FnsOk.nil⟩
abbrev K0_tx_small_L1 : List (Nat × Ty) := [(20, (.slice T_b101)), (21, (.int .i64))]
abbrev TM_tx_small_L1 : Tm := ⟨[(1, (.ptr 0 [])), (22, (.hole (.int .i64)))], [(.box T_8f0a (.hole T_8f0a))]⟩
abbrev UO_tx_small_L1 : Outs := (.more .ret ⟨[(2, (.hole .bool))], []⟩ (.one (.exit 0) ⟨[(1, (.ptr 0 []))], [(.box T_8f0a (.hole T_8f0a))]⟩))
def B_tx_small_L1 : Blk := frBlk 0 [20, 21] K0_tx_small_L1 TM_tx_small_L1 UO_tx_small_L1 (fun k => loopV (fun v => tx_small_L1 k.1 k.2.1 v))
abbrev K0_tx_small_L3 : List (Nat × Ty) := [(48, (.slice (.slice (.int .u8)))), (49, (.int .i64))]
abbrev TM_tx_small_L3 : Tm := ⟨[(50, (.hole (.int .i64)))], []⟩
abbrev UO_tx_small_L3 : Outs := (.more .ret ⟨[(2, (.hole .bool))], []⟩ (.one (.exit 4) ⟨[], []⟩))
def B_tx_small_L3 : Blk := frBlk 0 [37, 38, 39, 48, 49] K0_tx_small_L3 TM_tx_small_L3 UO_tx_small_L3 (fun k => loopV (fun v => tx_small_L3 k.1 k.2.1 v))
abbrev K0_tx_small_L2 : List (Nat × Ty) := [(37, (.slice T_089d)), (38, (.int .i64))]
abbrev TM_tx_small_L2 : Tm := ⟨[(39, (.hole (.int .i64)))], []⟩
abbrev UO_tx_small_L2 : Outs := (.more .ret ⟨[(2, (.hole .bool))], []⟩ (.one (.exit 2) ⟨[], []⟩))
def B_tx_small_L2 : Blk := frBlk 0 [37, 38] K0_tx_small_L2 TM_tx_small_L2 UO_tx_small_L2 (fun k => loopV (fun v => tx_small_L2 k.1 k.2.1 v))
def gs_tx_small : Nat → Option Blk := lk [(1, B_tx_small_L1), (3, B_tx_small_L3), (2, B_tx_small_L2)]
theorem ct_tx_small_L3 : CodeSound Try.prog ((cx_tx_small).fr [37, 38]) (subL (subR (subR (subR (subL (subL (subR (subR (subL (subL (subR (subL (subR (subR (subR (bodyOf Try.f27)))))))))))))))) (B_tx_small_L3).D :=
  loop_printed (G := gs_tx_small) (A := .leaf) (T0 := K0_tx_small_L3) (T := TM_tx_small_L3) (U := UO_tx_small_L3) (step := (fun k v => tx_small_L3 k.1 k.2.1 v)) ((cxo_tx_small).fr [37, 38]) follows (by kernel_rfl) (by kernel_rfl) (CutsOk.leaf _) (by intro k v; kernel_rfl)
theorem ct_tx_small_L2 : CodeSound Try.prog (cx_tx_small) (subL (subR (subL (subR (subR (subR (bodyOf Try.f27))))))) (B_tx_small_L2).D :=
  loop_printed (G := gs_tx_small) (A := (.two .leaf (.two .leaf (.two (.two (.two .leaf (.two .leaf (.two .leaf (.two (.cut 3) .leaf)))) .leaf) .leaf)))) (T0 := K0_tx_small_L2) (T := TM_tx_small_L2) (U := UO_tx_small_L2) (step := (fun k v => tx_small_L2 k.1 k.2.1 v)) (cxo_tx_small) follows (by kernel_rfl) (by kernel_rfl) (CutsOk.two (CutsOk.leaf _) (CutsOk.two (CutsOk.leaf _) (CutsOk.two (CutsOk.two (CutsOk.two (CutsOk.leaf _) (CutsOk.two (CutsOk.leaf _) (CutsOk.two (CutsOk.leaf _) (CutsOk.two (CutsOk.cut (g := B_tx_small_L3) (by kernel_rfl) (ct_tx_small_L3)) (CutsOk.leaf _))))) (CutsOk.leaf _)) (CutsOk.leaf _)))) (by intro k v; kernel_rfl)
theorem ct_tx_small_L1 : CodeSound Try.prog (cx_tx_small) (subL (subR (subL (subR (subR (bodyOf Try.f27)))))) (B_tx_small_L1).D :=
  loop_printed (G := gs_tx_small) (A := .leaf) (T0 := K0_tx_small_L1) (T := TM_tx_small_L1) (U := UO_tx_small_L1) (step := (fun k v => tx_small_L1 k.1 k.2.1 v)) (cxo_tx_small) follows (by kernel_rfl) (by kernel_rfl) (CutsOk.leaf _) (by intro k v; kernel_rfl)
theorem sd_tx_small : FnSound Try.prog gl 27 sg_tx_small :=
  fn_printed (G := gs_tx_small) (A := (.two .leaf (.two .leaf (.two (.two .leaf (.two (.cut 1) .leaf)) (.two (.two .leaf (.two (.cut 2) .leaf)) .leaf))))) (cxo_tx_small) follows Try.func27 (by kernel_rfl) (by kernel_rfl) (by kernel_rfl) (by kernel_rfl) (by kernel_rfl) (CutsOk.two (CutsOk.leaf _) (CutsOk.two (CutsOk.leaf _) (CutsOk.two (CutsOk.two (CutsOk.leaf _) (CutsOk.two (CutsOk.cut (g := B_tx_small_L1) (by kernel_rfl) (ct_tx_small_L1)) (CutsOk.leaf _))) (CutsOk.two (CutsOk.two (CutsOk.leaf _) (CutsOk.two (CutsOk.cut (g := B_tx_small_L2) (by kernel_rfl) (ct_tx_small_L2)) (CutsOk.leaf _))) (CutsOk.leaf _))))) (by intro v; kernel_rfl)
def sg_tx_Point : Sig := mkSig [(.hole T_b85e)] [] [(.own 0)] [(.vec (.int .u8))] (fun p => tx_Point p.1.1)
theorem fk_tx_Point : FnOk Try.prog 12 := ⟨Try.f12, Try.func12, by kernel_rfl, by kernel_rfl⟩
def cx_tx_Point : Cx := ⟨tys, lk [(24, sg_codec_AppendHash), (23, sg_codec_AppendU32)], 9, 0, [], gl⟩
theorem cxo_tx_Point : CxOk Try.prog (cx_tx_Point) := ⟨tys_ok, FnsOk.cons fk_codec_AppendHash sd_codec_AppendHash (FnsOk.cons fk_codec_AppendU32 sd_codec_AppendU32 (FnsOk.nil))⟩
def gs_tx_Point : Nat → Option Blk := lk []
theorem sd_tx_Point : FnSound Try.prog gl 12 sg_tx_Point :=
  fn_printed (G := gs_tx_Point) (A := .leaf) (cxo_tx_Point) follows Try.func12 (by kernel_rfl) (by kernel_rfl) (by kernel_rfl) (by kernel_rfl) (by kernel_rfl) (CutsOk.leaf _) (by intro v; kernel_rfl)
def sg_tx_encode : Sig := mkSig [(.hole T_8f0a), (.hole .bool)] [] [(.own 0)] [(.vec (.int .u8))] (fun p => tx_encode p.1.1 p.1.2.1)
theorem fk_tx_encode : FnOk Try.prog 28 := ⟨Try.f28, Try.func28, by kernel_rfl, by kernel_rfl⟩
def cx_tx_encode : Cx := ⟨tys, lk [(42, sg_codec_AppendBytes), (40, sg_codec_AppendSize), (23, sg_codec_AppendU32), (41, sg_codec_AppendU64), (12, sg_tx_Point)], 95, 0, [], gl⟩
theorem cxo_tx_encode : CxOk Try.prog (cx_tx_encode) := ⟨tys_ok, FnsOk.cons fk_codec_AppendBytes sd_codec_AppendBytes (FnsOk.cons fk_codec_AppendSize sd_codec_AppendSize (FnsOk.cons fk_codec_AppendU32 sd_codec_AppendU32 (FnsOk.cons fk_codec_AppendU64 sd_codec_AppendU64 (FnsOk.cons fk_tx_Point sd_tx_Point (FnsOk.nil)))))⟩
abbrev K0_tx_encode_L1 : List (Nat × Ty) := [(24, (.slice T_089d)), (25, (.int .i64))]
abbrev TM_tx_encode_L1 : Tm := ⟨[(2, (.ptr 0 [])), (5, (.own 1)), (26, (.hole (.int .i64)))], [(.box T_8f0a (.hole T_8f0a)), (.vec (.int .u8))]⟩
abbrev UO_tx_encode_L1 : Outs := (.one (.exit 0) ⟨[(2, (.ptr 0 [])), (5, (.own 1))], [(.box T_8f0a (.hole T_8f0a)), (.vec (.int .u8))]⟩)
def B_tx_encode_L1 : Blk := frBlk 0 [1, 4, 24, 25] K0_tx_encode_L1 TM_tx_encode_L1 UO_tx_encode_L1 (fun k => loopV (fun v => tx_encode_L1 k.1 k.2.1 v))
abbrev K0_tx_encode_L2 : List (Nat × Ty) := [(47, (.slice T_b101)), (48, (.int .i64))]
abbrev TM_tx_encode_L2 : Tm := ⟨[(2, (.ptr 0 [])), (5, (.own 1)), (49, (.hole (.int .i64)))], [(.box T_8f0a (.hole T_8f0a)), (.vec (.int .u8))]⟩
abbrev UO_tx_encode_L2 : Outs := (.one (.exit 2) ⟨[(2, (.ptr 0 [])), (5, (.own 1))], [(.box T_8f0a (.hole T_8f0a)), (.vec (.int .u8))]⟩)
def B_tx_encode_L2 : Blk := frBlk 0 [1, 4, 47, 48] K0_tx_encode_L2 TM_tx_encode_L2 UO_tx_encode_L2 (fun k => loopV (fun v => tx_encode_L2 k.1 k.2.1 v))
abbrev K0_tx_encode_L4 : List (Nat × Ty) := [(83, (.slice (.slice (.int .u8)))), (84, (.int .i64))]
abbrev TM_tx_encode_L4 : Tm := ⟨[(5, (.own 0)), (85, (.hole (.int .i64)))], [(.vec (.int .u8))]⟩
abbrev UO_tx_encode_L4 : Outs := (.one (.exit 6) ⟨[(5, (.own 0))], [(.vec (.int .u8))]⟩)
def B_tx_encode_L4 : Blk := frBlk 0 [1, 68, 69, 70, 83, 84] K0_tx_encode_L4 TM_tx_encode_L4 UO_tx_encode_L4 (fun k => loopV (fun v => tx_encode_L4 k.1 k.2.1 v))
abbrev K0_tx_encode_L3 : List (Nat × Ty) := [(1, .bool), (68, (.slice T_089d)), (69, (.int .i64))]
abbrev TM_tx_encode_L3 : Tm := ⟨[(5, (.own 0)), (70, (.hole (.int .i64)))], [(.vec (.int .u8))]⟩
abbrev UO_tx_encode_L3 : Outs := (.one (.exit 4) ⟨[(5, (.own 0))], [(.vec (.int .u8))]⟩)
def B_tx_encode_L3 : Blk := frBlk 0 [1, 4, 68, 69] K0_tx_encode_L3 TM_tx_encode_L3 UO_tx_encode_L3 (fun k => loopV (fun v => tx_encode_L3 k.1 k.2.1 k.2.2.1 v))
def gs_tx_encode : Nat → Option Blk := lk [(1, B_tx_encode_L1), (2, B_tx_encode_L2), (4, B_tx_encode_L4), (3, B_tx_encode_L3)]
theorem ct_tx_encode_L4 : CodeSound Try.prog ((cx_tx_encode).fr [1, 4, 68, 69]) (subL (subR (subR (subR (subR (subL (subL (subR (subR (subL (subL (subR (subL (subR (subR (subR (subR (subR (subR (subR (bodyOf Try.f28))))))))))))))))))))) (B_tx_encode_L4).D :=
  loop_printed (G := gs_tx_encode) (A := .leaf) (T0 := K0_tx_encode_L4) (T := TM_tx_encode_L4) (U := UO_tx_encode_L4) (step := (fun k v => tx_encode_L4 k.1 k.2.1 v)) ((cxo_tx_encode).fr [1, 4, 68, 69]) follows (by kernel_rfl) (by kernel_rfl) (CutsOk.leaf _) (by intro k v; kernel_rfl)
theorem ct_tx_encode_L3 : CodeSound Try.prog (cx_tx_encode) (subL (subR (subL (subR (subR (subR (subR (subR (subR (subR (bodyOf Try.f28))))))))))) (B_tx_encode_L3).D :=
  loop_printed (G := gs_tx_encode) (A := (.two .leaf (.two .leaf (.two (.two (.two .leaf (.two .leaf (.two .leaf (.two .leaf (.two (.cut 4) .leaf))))) .leaf) .leaf)))) (T0 := K0_tx_encode_L3) (T := TM_tx_encode_L3) (U := UO_tx_encode_L3) (step := (fun k v => tx_encode_L3 k.1 k.2.1 k.2.2.1 v)) (cxo_tx_encode) follows (by kernel_rfl) (by kernel_rfl) (CutsOk.two (CutsOk.leaf _) (CutsOk.two (CutsOk.leaf _) (CutsOk.two (CutsOk.two (CutsOk.two (CutsOk.leaf _) (CutsOk.two (CutsOk.leaf _) (CutsOk.two (CutsOk.leaf _) (CutsOk.two (CutsOk.leaf _) (CutsOk.two (CutsOk.cut (g := B_tx_encode_L4) (by kernel_rfl) (ct_tx_encode_L4)) (CutsOk.leaf _)))))) (CutsOk.leaf _)) (CutsOk.leaf _)))) (by intro k v; kernel_rfl)
theorem ct_tx_encode_L2 : CodeSound Try.prog (cx_tx_encode) (subL (subR (subL (subR (subR (subR (subR (subR (bodyOf Try.f28))))))))) (B_tx_encode_L2).D :=
  loop_printed (G := gs_tx_encode) (A := .leaf) (T0 := K0_tx_encode_L2) (T := TM_tx_encode_L2) (U := UO_tx_encode_L2) (step := (fun k v => tx_encode_L2 k.1 k.2.1 v)) (cxo_tx_encode) follows (by kernel_rfl) (by kernel_rfl) (CutsOk.leaf _) (by intro k v; kernel_rfl)
theorem ct_tx_encode_L1 : CodeSound Try.prog (cx_tx_encode) (subL (subR (subL (subR (subR (subR (bodyOf Try.f28))))))) (B_tx_encode_L1).D :=
  loop_printed (G := gs_tx_encode) (A := .leaf) (T0 := K0_tx_encode_L1) (T := TM_tx_encode_L1) (U := UO_tx_encode_L1) (step := (fun k v => tx_encode_L1 k.1 k.2.1 v)) (cxo_tx_encode) follows (by kernel_rfl) (by kernel_rfl) (CutsOk.leaf _) (by intro k v; kernel_rfl)
theorem sd_tx_encode : FnSound Try.prog gl 28 sg_tx_encode :=
  fn_printed (G := gs_tx_encode) (A := (.two .leaf (.two .leaf (.two .leaf (.two (.two .leaf (.two (.cut 1) .leaf)) (.two .leaf (.two (.two .leaf (.two (.cut 2) .leaf)) (.two .leaf (.two (.two .leaf (.two (.cut 3) .leaf)) .leaf))))))))) (cxo_tx_encode) follows Try.func28 (by kernel_rfl) (by kernel_rfl) (by kernel_rfl) (by kernel_rfl) (by kernel_rfl) (CutsOk.two (CutsOk.leaf _) (CutsOk.two (CutsOk.leaf _) (CutsOk.two (CutsOk.leaf _) (CutsOk.two (CutsOk.two (CutsOk.leaf _) (CutsOk.two (CutsOk.cut (g := B_tx_encode_L1) (by kernel_rfl) (ct_tx_encode_L1)) (CutsOk.leaf _))) (CutsOk.two (CutsOk.leaf _) (CutsOk.two (CutsOk.two (CutsOk.leaf _) (CutsOk.two (CutsOk.cut (g := B_tx_encode_L2) (by kernel_rfl) (ct_tx_encode_L2)) (CutsOk.leaf _))) (CutsOk.two (CutsOk.leaf _) (CutsOk.two (CutsOk.two (CutsOk.leaf _) (CutsOk.two (CutsOk.cut (g := B_tx_encode_L3) (by kernel_rfl) (ct_tx_encode_L3)) (CutsOk.leaf _))) (CutsOk.leaf _))))))))) (by intro v; kernel_rfl)
def sg_tx_Encode : Sig := mkSig [(.hole T_8f0a), (.hole .bool)] [] [(.own 0), (.hole (.int .i64))] [(.vec (.int .u8))] (fun p => tx_Encode p.1.1 p.1.2.1)
theorem fk_tx_Encode : FnOk Try.prog 14 := ⟨Try.f14, Try.func14, by kernel_rfl, by kernel_rfl⟩
def cx_tx_Encode : Cx := ⟨tys, lk [(28, sg_tx_encode), (27, sg_tx_small)], 21, 0, [], gl⟩
theorem cxo_tx_Encode : CxOk Try.prog (cx_tx_Encode) := ⟨tys_ok, FnsOk.cons fk_tx_encode sd_tx_encode (FnsOk.cons fk_tx_small sd_tx_small (FnsOk.nil))⟩
def gs_tx_Encode : Nat → Option Blk := lk []
theorem sd_tx_Encode : FnSound Try.prog gl 14 sg_tx_Encode :=
  fn_printed (G := gs_tx_Encode) (A := .leaf) (cxo_tx_Encode) follows Try.func14 (by kernel_rfl) (by kernel_rfl) (by kernel_rfl) (by kernel_rfl) (by kernel_rfl) (CutsOk.leaf _) (by intro v; kernel_rfl)
def sg_tx_Weight : Sig := mkSig [(.hole T_8f0a)] [] [(.hole (.int .i64))] [] (fun p => tx_Weight p.1.1)
theorem fk_tx_Weight : FnOk Try.prog 17 := ⟨Try.f17, Try.func17, by kernel_rfl, by kernel_rfl⟩
def cx_tx_Weight : Cx := ⟨tys, lk [(14, sg_tx_Encode), (28, sg_tx_encode)], 19, 0, [], gl⟩
theorem cxo_tx_Weight : CxOk Try.prog (cx_tx_Weight) := ⟨tys_ok, FnsOk.cons fk_tx_Encode sd_tx_Encode (FnsOk.cons fk_tx_encode sd_tx_encode (FnsOk.nil))⟩
def gs_tx_Weight : Nat → Option Blk := lk []
theorem sd_tx_Weight : FnSound Try.prog gl 17 sg_tx_Weight :=
  fn_printed (G := gs_tx_Weight) (A := .leaf) (cxo_tx_Weight) follows Try.func17 (by kernel_rfl) (by kernel_rfl) (by kernel_rfl) (by kernel_rfl) (by kernel_rfl) (CutsOk.leaf _) (by intro v; kernel_rfl)
def sg_tx_money : Sig := mkSig [(.hole (.slice T_b101))] [] [(.hole .bool)] [] (fun p => tx_money p.1.1)
theorem fk_tx_money : FnOk Try.prog 32 := ⟨Try.f32, Try.func32, by kernel_rfl, by kernel_rfl⟩
def cx_tx_money : Cx := ⟨tys, lk [], 22, 0, [], gl⟩
theorem cxo_tx_money : CxOk Try.prog (cx_tx_money) := ⟨tys_ok, FnsOk.nil⟩
abbrev K0_tx_money_L1 : List (Nat × Ty) := [(6, (.slice T_b101)), (7, (.int .i64))]
abbrev TM_tx_money_L1 : Tm := ⟨[(3, (.hole (.int .i64))), (8, (.hole (.int .i64)))], []⟩
abbrev UO_tx_money_L1 : Outs := (.more .ret ⟨[(2, (.hole .bool))], []⟩ (.one (.exit 0) ⟨[(3, (.hole (.int .i64)))], []⟩))
def B_tx_money_L1 : Blk := frBlk 0 [6, 7] K0_tx_money_L1 TM_tx_money_L1 UO_tx_money_L1 (fun k => loopV (fun v => tx_money_L1 k.1 k.2.1 v))
def gs_tx_money : Nat → Option Blk := lk [(1, B_tx_money_L1)]
theorem ct_tx_money_L1 : CodeSound Try.prog (cx_tx_money) (subL (subR (subL (subR (subR (bodyOf Try.f32)))))) (B_tx_money_L1).D :=
  loop_printed (G := gs_tx_money) (A := .leaf) (T0 := K0_tx_money_L1) (T := TM_tx_money_L1) (U := UO_tx_money_L1) (step := (fun k v => tx_money_L1 k.1 k.2.1 v)) (cxo_tx_money) follows (by kernel_rfl) (by kernel_rfl) (CutsOk.leaf _) (by intro k v; kernel_rfl)
theorem sd_tx_money : FnSound Try.prog gl 32 sg_tx_money :=
  fn_printed (G := gs_tx_money) (A := (.two .leaf (.two .leaf (.two (.two .leaf (.two (.cut 1) .leaf)) .leaf)))) (cxo_tx_money) follows Try.func32 (by kernel_rfl) (by kernel_rfl) (by kernel_rfl) (by kernel_rfl) (by kernel_rfl) (CutsOk.two (CutsOk.leaf _) (CutsOk.two (CutsOk.leaf _) (CutsOk.two (CutsOk.two (CutsOk.leaf _) (CutsOk.two (CutsOk.cut (g := B_tx_money_L1) (by kernel_rfl) (ct_tx_money_L1)) (CutsOk.leaf _))) (CutsOk.leaf _)))) (by intro v; kernel_rfl)
def sg_tx_null : Sig := mkSig [] [] [(.hole T_b85e)] [] (fun p => tx_null)
theorem fk_tx_null : FnOk Try.prog 33 := ⟨Try.f33, Try.func33, by kernel_rfl, by kernel_rfl⟩
def cx_tx_null : Cx := ⟨tys, lk [], 2, 0, [], gl⟩
theorem cxo_tx_null : CxOk Try.prog (cx_tx_null) := ⟨tys_ok, FnsOk.nil⟩
def gs_tx_null : Nat → Option Blk := lk []
theorem sd_tx_null : FnSound Try.prog gl 33 sg_tx_null :=
  fn_printed (G := gs_tx_null) (A := .leaf) (cxo_tx_null) follows Try.func33 (by kernel_rfl) (by kernel_rfl) (by kernel_rfl) (by kernel_rfl) (by kernel_rfl) (CutsOk.leaf _) (by intro v; kernel_rfl)
def sg_tx_Coinbase : Sig := mkSig [(.hole T_8f0a)] [] [(.hole .bool)] [] (fun p => tx_Coinbase p.1.1)
theorem fk_tx_Coinbase : FnOk Try.prog 34 := ⟨Try.f34, Try.func34, by kernel_rfl, by kernel_rfl⟩
def cx_tx_Coinbase : Cx := ⟨tys, lk [(33, sg_tx_null)], 16, 0, [], gl⟩
theorem cxo_tx_Coinbase : CxOk Try.prog (cx_tx_Coinbase) := ⟨tys_ok, FnsOk.cons fk_tx_null sd_tx_null (FnsOk.nil)⟩
def gs_tx_Coinbase : Nat → Option Blk := lk []
theorem sd_tx_Coinbase : FnSound Try.prog gl 34 sg_tx_Coinbase :=
  fn_printed (G := gs_tx_Coinbase) (A := .leaf) (cxo_tx_Coinbase) follows Try.func34 (by kernel_rfl) (by kernel_rfl) (by kernel_rfl) (by kernel_rfl) (by kernel_rfl) (CutsOk.leaf _) (by intro v; kernel_rfl)
def sg_tx_Check : Sig := mkSig [(.hole T_8f0a)] [] [(.hole (.int .i64))] [] (fun p => tx_Check p.1.1)
theorem fk_tx_Check : FnOk Try.prog 18 := ⟨Try.f18, Try.func18, by kernel_rfl, by kernel_rfl⟩
def cx_tx_Check : Cx := ⟨tys, lk [(34, sg_tx_Coinbase), (14, sg_tx_Encode), (32, sg_tx_money), (33, sg_tx_null)], 54, 0, [], gl⟩
theorem cxo_tx_Check : CxOk Try.prog (cx_tx_Check) := ⟨tys_ok, FnsOk.cons fk_tx_Coinbase sd_tx_Coinbase (FnsOk.cons fk_tx_Encode sd_tx_Encode (FnsOk.cons fk_tx_money sd_tx_money (FnsOk.cons fk_tx_null sd_tx_null (FnsOk.nil))))⟩
abbrev K0_tx_Check_L1 : List (Nat × Ty) := [(32, (.slice T_089d)), (33, (.int .i64))]
abbrev TM_tx_Check_L1 : Tm := ⟨[(1, (.ptr 0 [])), (5, (.mref 1)), (34, (.hole (.int .i64)))], [(.box T_8f0a (.hole T_8f0a)), (.mp T_b85e .bool)]⟩
abbrev UO_tx_Check_L1 : Outs := (.more .ret ⟨[(2, (.hole (.int .i64)))], []⟩ (.one (.exit 0) ⟨[(1, (.ptr 0 [])), (5, (.mref 1))], [(.box T_8f0a (.hole T_8f0a)), (.mp T_b85e .bool)]⟩))
def B_tx_Check_L1 : Blk := frBlk 0 [32, 33] K0_tx_Check_L1 TM_tx_Check_L1 UO_tx_Check_L1 (fun k => loopV (fun v => tx_Check_L1 k.1 k.2.1 v))
def gs_tx_Check : Nat → Option Blk := lk [(1, B_tx_Check_L1)]
theorem ct_tx_Check_L1 : CodeSound Try.prog (cx_tx_Check) (subL (subR (subL (subR (subR (subR (subR (subR (bodyOf Try.f18))))))))) (B_tx_Check_L1).D :=
  loop_printed (G := gs_tx_Check) (A := .leaf) (T0 := K0_tx_Check_L1) (T := TM_tx_Check_L1) (U := UO_tx_Check_L1) (step := (fun k v => tx_Check_L1 k.1 k.2.1 v)) (cxo_tx_Check) follows (by kernel_rfl) (by kernel_rfl) (CutsOk.leaf _) (by intro k v; kernel_rfl)
theorem sd_tx_Check : FnSound Try.prog gl 18 sg_tx_Check :=
  fn_printed (G := gs_tx_Check) (A := (.two .leaf (.two .leaf (.two .leaf (.two .leaf (.two .leaf (.two (.two .leaf (.two (.cut 1) .leaf)) .leaf))))))) (cxo_tx_Check) follows Try.func18 (by kernel_rfl) (by kernel_rfl) (by kernel_rfl) (by kernel_rfl) (by kernel_rfl) (CutsOk.two (CutsOk.leaf _) (CutsOk.two (CutsOk.leaf _) (CutsOk.two (CutsOk.leaf _) (CutsOk.two (CutsOk.leaf _) (CutsOk.two (CutsOk.leaf _) (CutsOk.two (CutsOk.two (CutsOk.leaf _) (CutsOk.two (CutsOk.cut (g := B_tx_Check_L1) (by kernel_rfl) (ct_tx_Check_L1)) (CutsOk.leaf _))) (CutsOk.leaf _))))))) (by intro v; kernel_rfl)
def sg_tx_Final : Sig := mkSig [(.hole T_8f0a), (.hole (.int .i64))] [] [(.hole .bool)] [] (fun p => tx_Final p.1.1 p.1.2.1)
theorem fk_tx_Final : FnOk Try.prog 8 := ⟨Try.f8, Try.func8, by kernel_rfl, by kernel_rfl⟩
def cx_tx_Final : Cx := ⟨tys, lk [], 28, 0, [], gl⟩
theorem cxo_tx_Final : CxOk Try.prog (cx_tx_Final) := ⟨tys_ok, FnsOk.nil⟩
abbrev K0_tx_Final_J1 : List (Nat × Ty) := [(1, (.int .i64))]
abbrev TM_tx_Final_J1 : Tm := ⟨[(2, (.ptr 0 []))], [(.box T_8f0a (.hole T_8f0a))]⟩
abbrev UO_tx_Final_J1 : Outs := (.more .ret ⟨[(4, (.hole .bool))], []⟩ (.one .normal ⟨[(2, (.ptr 0 []))], [(.box T_8f0a (.hole T_8f0a))]⟩))
def B_tx_Final_J1 : Blk := frBlk 0 [1] K0_tx_Final_J1 TM_tx_Final_J1 UO_tx_Final_J1 (fun k v => tx_Final_J1 k.1 v)
abbrev K0_tx_Final_L2 : List (Nat × Ty) := [(18, (.slice T_089d)), (19, (.int .i64))]
abbrev TM_tx_Final_L2 : Tm := ⟨[(20, (.hole (.int .i64)))], []⟩
abbrev UO_tx_Final_L2 : Outs := (.more .ret ⟨[(4, (.hole .bool))], []⟩ (.one (.exit 0) ⟨[], []⟩))
def B_tx_Final_L2 : Blk := frBlk 0 [18, 19] K0_tx_Final_L2 TM_tx_Final_L2 UO_tx_Final_L2 (fun k => loopV (fun v => tx_Final_L2 k.1 k.2.1 v))
def gs_tx_Final : Nat → Option Blk := lk [(1, B_tx_Final_J1), (2, B_tx_Final_L2)]
theorem ct_tx_Final_L2 : CodeSound Try.prog (cx_tx_Final) (subL (subR (subL (subR (subR (bodyOf Try.f8)))))) (B_tx_Final_L2).D :=
  loop_printed (G := gs_tx_Final) (A := .leaf) (T0 := K0_tx_Final_L2) (T := TM_tx_Final_L2) (U := UO_tx_Final_L2) (step := (fun k v => tx_Final_L2 k.1 k.2.1 v)) (cxo_tx_Final) follows (by kernel_rfl) (by kernel_rfl) (CutsOk.leaf _) (by intro k v; kernel_rfl)
theorem ct_tx_Final_J1 : CodeSound Try.prog (cx_tx_Final) (subL (subR (bodyOf Try.f8))) (B_tx_Final_J1).D :=
  join_sound (G := gs_tx_Final) (A := .leaf) (T0 := K0_tx_Final_J1) (T := TM_tx_Final_J1) (U := UO_tx_Final_J1) (F := (fun k v => tx_Final_J1 k.1 v)) (cxo_tx_Final) follows (by kernel_rfl) (CutsOk.leaf _) (by intro k v; kernel_rfl)
theorem sd_tx_Final : FnSound Try.prog gl 8 sg_tx_Final :=
  fn_printed (G := gs_tx_Final) (A := (.two .leaf (.two (.cut 1) (.two (.two .leaf (.two (.cut 2) .leaf)) .leaf)))) (cxo_tx_Final) follows Try.func8 (by kernel_rfl) (by kernel_rfl) (by kernel_rfl) (by kernel_rfl) (by kernel_rfl) (CutsOk.two (CutsOk.leaf _) (CutsOk.two (CutsOk.cut (g := B_tx_Final_J1) (by kernel_rfl) (ct_tx_Final_J1)) (CutsOk.two (CutsOk.two (CutsOk.leaf _) (CutsOk.two (CutsOk.cut (g := B_tx_Final_L2) (by kernel_rfl) (ct_tx_Final_L2)) (CutsOk.leaf _))) (CutsOk.leaf _)))) (by intro v; kernel_rfl)
def sg_tx_Compare : Sig := mkSig [(.hole T_b85e), (.hole T_b85e)] [] [(.hole (.int .i64))] [] (fun p => tx_Compare p.1.1 p.1.2.1)
theorem fk_tx_Compare : FnOk Try.prog 9 := ⟨Try.f9, Try.func9, by kernel_rfl, by kernel_rfl⟩
def cx_tx_Compare : Cx := ⟨tys, lk [(21, sg_bytes_Compare), (22, sg_cmp_Compare_uint32), (20, sg_cmp_Or_int)], 17, 0, [], gl⟩
theorem cxo_tx_Compare : CxOk Try.prog (cx_tx_Compare) := ⟨tys_ok, FnsOk.cons fk_bytes_Compare sd_bytes_Compare (FnsOk.cons fk_cmp_Compare_uint32 sd_cmp_Compare_uint32 (FnsOk.cons fk_cmp_Or_int sd_cmp_Or_int (FnsOk.nil)))⟩
def gs_tx_Compare : Nat → Option Blk := lk []
theorem sd_tx_Compare : FnSound Try.prog gl 9 sg_tx_Compare :=
  fn_printed (G := gs_tx_Compare) (A := .leaf) (cxo_tx_Compare) follows Try.func9 (by kernel_rfl) (by kernel_rfl) (by kernel_rfl) (by kernel_rfl) (by kernel_rfl) (CutsOk.leaf _) (by intro v; kernel_rfl)
end Go.PE.Ythfkhjnomjpaoaa
end
end

section
set_option maxRecDepth 100000
set_option linter.unusedVariables false
noncomputable section
namespace Go.PE.Ythfkhjnomjpaoaa
open Go.PE Go.Proofs

def sg_law09_sane : Sig := mkSig [] [] [(.hole .bool)] [] (fun p => law09_sane)
theorem fk_law09_sane : FnOk Try.prog 6 := ⟨Try.f6, Try.func6, by kernel_rfl, by kernel_rfl⟩
def cx_law09_sane : Cx := ⟨tys, lk [(18, sg_tx_Check), (14, sg_tx_Encode), (17, sg_tx_Weight)], 36, 0, [], gl⟩
theorem cxo_law09_sane : CxOk Try.prog (cx_law09_sane) := ⟨tys_ok, FnsOk.cons fk_tx_Check sd_tx_Check (FnsOk.cons fk_tx_Encode sd_tx_Encode (FnsOk.cons fk_tx_Weight sd_tx_Weight (FnsOk.nil)))⟩
def gs_law09_sane : Nat → Option Blk := lk []
theorem sd_law09_sane : FnSound Try.prog gl 6 sg_law09_sane :=
  fn_printed (G := gs_law09_sane) (A := .leaf) (cxo_law09_sane) follows Try.func6 (by kernel_rfl) (by kernel_rfl) (by kernel_rfl) (by kernel_rfl) (by kernel_rfl) (CutsOk.leaf _) (by intro v; kernel_rfl)
def sg_law09_TxLater : Sig := mkSig [(.hole T_8f0a), (.hole (.int .u32)), (.hole (.int .u32))] [] [(.hole .bool)] [] (fun p => law09_TxLater p.1.1 p.1.2.1 p.1.2.2.1)
theorem fk_law09_TxLater : FnOk Try.prog 3 := ⟨Try.f3, Try.func3, by kernel_rfl, by kernel_rfl⟩
def cx_law09_TxLater : Cx := ⟨tys, lk [(7, sg_keep_Tx), (6, sg_law09_sane), (8, sg_tx_Final)], 28, 0, [], gl⟩
theorem cxo_law09_TxLater : CxOk Try.prog (cx_law09_TxLater) := ⟨tys_ok, FnsOk.cons fk_keep_Tx sd_keep_Tx (FnsOk.cons fk_law09_sane sd_law09_sane (FnsOk.cons fk_tx_Final sd_tx_Final (FnsOk.nil)))⟩
def gs_law09_TxLater : Nat → Option Blk := lk []
theorem sd_law09_TxLater : FnSound Try.prog gl 3 sg_law09_TxLater :=
  fn_printed (G := gs_law09_TxLater) (A := .leaf) (cxo_law09_TxLater) follows Try.func3 (by kernel_rfl) (by kernel_rfl) (by kernel_rfl) (by kernel_rfl) (by kernel_rfl) (CutsOk.leaf _) (by intro v; kernel_rfl)
def sg_law09_TxPoints : Sig := mkSig [(.hole T_b85e), (.hole T_b85e), (.hole T_b85e)] [] [(.hole .bool)] [] (fun p => law09_TxPoints p.1.1 p.1.2.1 p.1.2.2.1)
theorem fk_law09_TxPoints : FnOk Try.prog 4 := ⟨Try.f4, Try.func4, by kernel_rfl, by kernel_rfl⟩
def cx_law09_TxPoints : Cx := ⟨tys, lk [(6, sg_law09_sane), (11, sg_ref01_Same), (10, sg_ref09_Compare), (13, sg_ref09_Point), (9, sg_tx_Compare), (12, sg_tx_Point)], 56, 0, [], gl⟩
theorem cxo_law09_TxPoints : CxOk Try.prog (cx_law09_TxPoints) := ⟨tys_ok, FnsOk.cons fk_law09_sane sd_law09_sane (FnsOk.cons fk_ref01_Same sd_ref01_Same (FnsOk.cons fk_ref09_Compare sd_ref09_Compare (FnsOk.cons fk_ref09_Point sd_ref09_Point (FnsOk.cons fk_tx_Compare sd_tx_Compare (FnsOk.cons fk_tx_Point sd_tx_Point (FnsOk.nil))))))⟩
def gs_law09_TxPoints : Nat → Option Blk := lk []
theorem sd_law09_TxPoints : FnSound Try.prog gl 4 sg_law09_TxPoints :=
  fn_printed (G := gs_law09_TxPoints) (A := .leaf) (cxo_law09_TxPoints) follows Try.func4 (by kernel_rfl) (by kernel_rfl) (by kernel_rfl) (by kernel_rfl) (by kernel_rfl) (CutsOk.leaf _) (by intro v; kernel_rfl)
end Go.PE.Ythfkhjnomjpaoaa
end
end
