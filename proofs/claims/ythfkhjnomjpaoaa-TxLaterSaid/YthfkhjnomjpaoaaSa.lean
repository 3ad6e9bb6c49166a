/- The functions of the program do what their printed texts say; no condition. -/
import Derived.Test.YthfkhjnomjpaoaaProg
import Derived.Test.YthfkhjnomjpaoaaQc
import Derived.Test.YthfkhjnomjpaoaaPa
import Derived.KernelRfl
section
set_option maxRecDepth 100000
noncomputable section
namespace Go.PE.Ythfkhjnomjpaoaa
open Go.PE Go.Proofs
def gl : Gl := fun _ => none
def tys : Nat → Option Ty := lk [(2, (.int .i64)), (3, (.int .i64)), (4, .bool), (5, (.int .u8)), (22, (.int .u32)), (23, (.slice T_089d)), (24, (.slice T_b101)), (26, T_8f0a), (32, (.arr 32 (.int .u8))), (34, T_b85e), (37, (.slice (.int .u8))), (40, (.int .i64)), (47, (.slice (.slice (.int .u8)))), (49, T_089d), (51, T_b101), (55, (.int .u64)), (67, (.map T_b85e .bool)), (75, .ptr), (77, T_07e8), (81, (.int .u16)), (91, .fn), (95, .fn), (99, .fn)]
theorem follows : Try.prog.follows .mixedOrders = true := by kernel_rfl
theorem ty_2 : fitTy Try.prog (.int .i64) (.id 2) = true := by kernel_rfl
theorem ty_3 : fitTy Try.prog (.int .i64) (.id 3) = true := by kernel_rfl
theorem ty_4 : fitTy Try.prog .bool (.id 4) = true := by kernel_rfl
theorem ty_5 : fitTy Try.prog (.int .u8) (.id 5) = true := by kernel_rfl
theorem ty_22 : fitTy Try.prog (.int .u32) (.id 22) = true := by kernel_rfl
theorem ty_23 : fitTy Try.prog (.slice T_089d) (.id 23) = true := by kernel_rfl
theorem ty_24 : fitTy Try.prog (.slice T_b101) (.id 24) = true := by kernel_rfl
theorem ty_26 : fitTy Try.prog T_8f0a (.id 26) = true := by kernel_rfl
theorem ty_32 : fitTy Try.prog (.arr 32 (.int .u8)) (.id 32) = true := by kernel_rfl
theorem ty_34 : fitTy Try.prog T_b85e (.id 34) = true := by kernel_rfl
theorem ty_37 : fitTy Try.prog (.slice (.int .u8)) (.id 37) = true := by kernel_rfl
theorem ty_40 : fitTy Try.prog (.int .i64) (.id 40) = true := by kernel_rfl
theorem ty_47 : fitTy Try.prog (.slice (.slice (.int .u8))) (.id 47) = true := by kernel_rfl
theorem ty_49 : fitTy Try.prog T_089d (.id 49) = true := by kernel_rfl
theorem ty_51 : fitTy Try.prog T_b101 (.id 51) = true := by kernel_rfl
theorem ty_55 : fitTy Try.prog (.int .u64) (.id 55) = true := by kernel_rfl
theorem ty_67 : fitTy Try.prog (.map T_b85e .bool) (.id 67) = true := by kernel_rfl
theorem ty_75 : fitTy Try.prog .ptr (.id 75) = true := by kernel_rfl
theorem ty_77 : fitTy Try.prog T_07e8 (.id 77) = true := by kernel_rfl
theorem ty_81 : fitTy Try.prog (.int .u16) (.id 81) = true := by kernel_rfl
theorem ty_91 : fitTy Try.prog .fn (.id 91) = true := by kernel_rfl
theorem ty_95 : fitTy Try.prog .fn (.id 95) = true := by kernel_rfl
theorem ty_99 : fitTy Try.prog .fn (.id 99) = true := by kernel_rfl
theorem dep : Nat.ble 62 Try.prog.depth = true := by kernel_rfl
theorem tys_ok : TyOk Try.prog tys := TyOk.lk_cons ty_2 (TyOk.lk_cons ty_3 (TyOk.lk_cons ty_4 (TyOk.lk_cons ty_5 (TyOk.lk_cons ty_22 (TyOk.lk_cons ty_23 (TyOk.lk_cons ty_24 (TyOk.lk_cons ty_26 (TyOk.lk_cons ty_32 (TyOk.lk_cons ty_34 (TyOk.lk_cons ty_37 (TyOk.lk_cons ty_40 (TyOk.lk_cons ty_47 (TyOk.lk_cons ty_49 (TyOk.lk_cons ty_51 (TyOk.lk_cons ty_55 (TyOk.lk_cons ty_67 (TyOk.lk_cons ty_75 (TyOk.lk_cons ty_77 (TyOk.lk_cons ty_81 (TyOk.lk_cons ty_91 (TyOk.lk_cons ty_95 (TyOk.lk_cons ty_99 (TyOk.lk_nil (Nat.le_of_ble_eq_true dep))))))))))))))))))))))))
end Go.PE.Ythfkhjnomjpaoaa
end
end

section
set_option maxRecDepth 100000
set_option linter.unusedVariables false
noncomputable section
namespace Go.PE.Ythfkhjnomjpaoaa
open Go.PE Go.Proofs

def sg_keep_Items : Sig := mkSig [(.hole (.slice (.slice (.int .u8)))), (.hole (.int .i64)), (.hole (.int .i64))] [] [(.hole .bool)] [] (fun p => keep_Items p.1.1 p.1.2.1 p.1.2.2.1)
theorem fk_keep_Items : FnOk Try.prog 19 := ⟨Try.f19, Try.func19, by kernel_rfl, by kernel_rfl⟩
def cx_keep_Items : Cx := ⟨tys, lk [], 24, 0, [], gl⟩
theorem cxo_keep_Items : CxOk Try.prog (cx_keep_Items) := ⟨tys_ok, FnsOk.nil⟩
abbrev K0_keep_Items_L1 : List (Nat × Ty) := [(2, (.int .i64)), (13, (.slice (.slice (.int .u8)))), (14, (.int .i64))]
abbrev TM_keep_Items_L1 : Tm := ⟨[(15, (.hole (.int .i64)))], []⟩
abbrev UO_keep_Items_L1 : Outs := (.more .ret ⟨[(6, (.hole .bool))], []⟩ (.one (.exit 0) ⟨[], []⟩))
def B_keep_Items_L1 : Blk := frBlk 0 [2, 13, 14] K0_keep_Items_L1 TM_keep_Items_L1 UO_keep_Items_L1 (fun k => loopV (fun v => keep_Items_L1 k.1 k.2.1 k.2.2.1 v))
def gs_keep_Items : Nat → Option Blk := lk [(1, B_keep_Items_L1)]
theorem ct_keep_Items_L1 : CodeSound Try.prog (cx_keep_Items) (subL (subR (subL (subR (subR (bodyOf Try.f19)))))) (B_keep_Items_L1).D :=
  loop_printed (G := gs_keep_Items) (A := .leaf) (T0 := K0_keep_Items_L1) (T := TM_keep_Items_L1) (U := UO_keep_Items_L1) (step := (fun k v => keep_Items_L1 k.1 k.2.1 k.2.2.1 v)) (cxo_keep_Items) follows (by kernel_rfl) (by kernel_rfl) (CutsOk.leaf _) (by intro k v; kernel_rfl)
theorem sd_keep_Items : FnSound Try.prog gl 19 sg_keep_Items :=
  fn_printed (G := gs_keep_Items) (A := (.two .leaf (.two .leaf (.two (.two .leaf (.two (.cut 1) .leaf)) .leaf)))) (cxo_keep_Items) follows Try.func19 (by kernel_rfl) (by kernel_rfl) (by kernel_rfl) (by kernel_rfl) (by kernel_rfl) (CutsOk.two (CutsOk.leaf _) (CutsOk.two (CutsOk.leaf _) (CutsOk.two (CutsOk.two (CutsOk.leaf _) (CutsOk.two (CutsOk.cut (g := B_keep_Items_L1) (by kernel_rfl) (ct_keep_Items_L1)) (CutsOk.leaf _))) (CutsOk.leaf _)))) (by intro v; kernel_rfl)
def sg_keep_Tx : Sig := mkSig [(.hole T_8f0a)] [] [(.hole .bool)] [] (fun p => keep_Tx p.1.1)
theorem fk_keep_Tx : FnOk Try.prog 7 := ⟨Try.f7, Try.func7, by kernel_rfl, by kernel_rfl⟩
def cx_keep_Tx : Cx := ⟨tys, lk [(19, sg_keep_Items)], 41, 0, [], gl⟩
theorem cxo_keep_Tx : CxOk Try.prog (cx_keep_Tx) := ⟨tys_ok, FnsOk.cons fk_keep_Items sd_keep_Items (FnsOk.nil)⟩
abbrev K0_keep_Tx_L1 : List (Nat × Ty) := [(18, (.slice T_089d)), (19, (.int .i64))]
abbrev TM_keep_Tx_L1 : Tm := ⟨[(1, (.ptr 0 [])), (20, (.hole (.int .i64)))], [(.box T_8f0a (.hole T_8f0a))]⟩
abbrev UO_keep_Tx_L1 : Outs := (.more .ret ⟨[(2, (.hole .bool))], []⟩ (.one (.exit 0) ⟨[(1, (.ptr 0 []))], [(.box T_8f0a (.hole T_8f0a))]⟩))
def B_keep_Tx_L1 : Blk := frBlk 0 [18, 19] K0_keep_Tx_L1 TM_keep_Tx_L1 UO_keep_Tx_L1 (fun k => loopV (fun v => keep_Tx_L1 k.1 k.2.1 v))
abbrev K0_keep_Tx_L2 : List (Nat × Ty) := [(30, (.slice T_b101)), (31, (.int .i64))]
abbrev TM_keep_Tx_L2 : Tm := ⟨[(32, (.hole (.int .i64)))], []⟩
abbrev UO_keep_Tx_L2 : Outs := (.more .ret ⟨[(2, (.hole .bool))], []⟩ (.one (.exit 2) ⟨[], []⟩))
def B_keep_Tx_L2 : Blk := frBlk 0 [30, 31] K0_keep_Tx_L2 TM_keep_Tx_L2 UO_keep_Tx_L2 (fun k => loopV (fun v => keep_Tx_L2 k.1 k.2.1 v))
def gs_keep_Tx : Nat → Option Blk := lk [(1, B_keep_Tx_L1), (2, B_keep_Tx_L2)]
theorem ct_keep_Tx_L2 : CodeSound Try.prog (cx_keep_Tx) (subL (subR (subL (subR (subR (subR (bodyOf Try.f7))))))) (B_keep_Tx_L2).D :=
  loop_printed (G := gs_keep_Tx) (A := .leaf) (T0 := K0_keep_Tx_L2) (T := TM_keep_Tx_L2) (U := UO_keep_Tx_L2) (step := (fun k v => keep_Tx_L2 k.1 k.2.1 v)) (cxo_keep_Tx) follows (by kernel_rfl) (by kernel_rfl) (CutsOk.leaf _) (by intro k v; kernel_rfl)
theorem ct_keep_Tx_L1 : CodeSound Try.prog (cx_keep_Tx) (subL (subR (subL (subR (subR (bodyOf Try.f7)))))) (B_keep_Tx_L1).D :=
  loop_printed (G := gs_keep_Tx) (A := .leaf) (T0 := K0_keep_Tx_L1) (T := TM_keep_Tx_L1) (U := UO_keep_Tx_L1) (step := (fun k v => keep_Tx_L1 k.1 k.2.1 v)) (cxo_keep_Tx) follows (by kernel_rfl) (by kernel_rfl) (CutsOk.leaf _) (by intro k v; kernel_rfl)
theorem sd_keep_Tx : FnSound Try.prog gl 7 sg_keep_Tx :=
  fn_printed (G := gs_keep_Tx) (A := (.two .leaf (.two .leaf (.two (.two .leaf (.two (.cut 1) .leaf)) (.two (.two .leaf (.two (.cut 2) .leaf)) .leaf))))) (cxo_keep_Tx) follows Try.func7 (by kernel_rfl) (by kernel_rfl) (by kernel_rfl) (by kernel_rfl) (by kernel_rfl) (CutsOk.two (CutsOk.leaf _) (CutsOk.two (CutsOk.leaf _) (CutsOk.two (CutsOk.two (CutsOk.leaf _) (CutsOk.two (CutsOk.cut (g := B_keep_Tx_L1) (by kernel_rfl) (ct_keep_Tx_L1)) (CutsOk.leaf _))) (CutsOk.two (CutsOk.two (CutsOk.leaf _) (CutsOk.two (CutsOk.cut (g := B_keep_Tx_L2) (by kernel_rfl) (ct_keep_Tx_L2)) (CutsOk.leaf _))) (CutsOk.leaf _))))) (by intro v; kernel_rfl)
end Go.PE.Ythfkhjnomjpaoaa
end
end

section
set_option maxRecDepth 100000
set_option linter.unusedVariables false
noncomputable section
namespace Go.PE.Ythfkhjnomjpaoaa
open Go.PE Go.Proofs

def sg_codec_put_uint32 : Sig := mkSig [(.hole (.slice (.int .u8))), (.hole (.int .u32)), (.hole (.int .i64))] [] [(.own 0)] [(.vec (.int .u8))] (fun p => codec_put_uint32 p.1.1 p.1.2.1 p.1.2.2.1)
theorem fk_codec_put_uint32 : FnOk Try.prog 37 := ⟨Try.f37, Try.func37, by kernel_rfl, by kernel_rfl⟩
def cx_codec_put_uint32 : Cx := ⟨tys, lk [], 31, 0, [], gl⟩
theorem cxo_codec_put_uint32 : CxOk Try.prog (cx_codec_put_uint32) := ⟨tys_ok, FnsOk.nil⟩
abbrev K0_codec_put_uint32_L1 : List (Nat × Ty) := [(1, (.int .u32)), (16, (.int .i64))]
abbrev TM_codec_put_uint32_L1 : Tm := ⟨[(7, (.own 0)), (17, (.hole (.int .i64)))], [(.vec (.int .u8))]⟩
abbrev UO_codec_put_uint32_L1 : Outs := (.one (.exit 0) ⟨[(7, (.own 0))], [(.vec (.int .u8))]⟩)
def B_codec_put_uint32_L1 : Blk := frBlk 0 [1, 6, 16] K0_codec_put_uint32_L1 TM_codec_put_uint32_L1 UO_codec_put_uint32_L1 (fun k => loopV (fun v => codec_put_uint32_L1 k.1 k.2.1 v))
def gs_codec_put_uint32 : Nat → Option Blk := lk [(1, B_codec_put_uint32_L1)]
theorem ct_codec_put_uint32_L1 : CodeSound Try.prog (cx_codec_put_uint32) (subL (subR (subL (subR (subR (bodyOf Try.f37)))))) (B_codec_put_uint32_L1).D :=
  loop_printed (G := gs_codec_put_uint32) (A := .leaf) (T0 := K0_codec_put_uint32_L1) (T := TM_codec_put_uint32_L1) (U := UO_codec_put_uint32_L1) (step := (fun k v => codec_put_uint32_L1 k.1 k.2.1 v)) (cxo_codec_put_uint32) follows (by kernel_rfl) (by kernel_rfl) (CutsOk.leaf _) (by intro k v; kernel_rfl)
theorem sd_codec_put_uint32 : FnSound Try.prog gl 37 sg_codec_put_uint32 :=
  fn_printed (G := gs_codec_put_uint32) (A := (.two .leaf (.two .leaf (.two (.two .leaf (.two (.cut 1) .leaf)) .leaf)))) (cxo_codec_put_uint32) follows Try.func37 (by kernel_rfl) (by kernel_rfl) (by kernel_rfl) (by kernel_rfl) (by kernel_rfl) (CutsOk.two (CutsOk.leaf _) (CutsOk.two (CutsOk.leaf _) (CutsOk.two (CutsOk.two (CutsOk.leaf _) (CutsOk.two (CutsOk.cut (g := B_codec_put_uint32_L1) (by kernel_rfl) (ct_codec_put_uint32_L1)) (CutsOk.leaf _))) (CutsOk.leaf _)))) (by intro v; kernel_rfl)
def sg_codec_AppendU32 : Sig := mkSig [(.hole (.slice (.int .u8))), (.hole (.int .u32))] [] [(.own 0)] [(.vec (.int .u8))] (fun p => codec_AppendU32 p.1.1 p.1.2.1)
theorem fk_codec_AppendU32 : FnOk Try.prog 23 := ⟨Try.f23, Try.func23, by kernel_rfl, by kernel_rfl⟩
def cx_codec_AppendU32 : Cx := ⟨tys, lk [(37, sg_codec_put_uint32)], 8, 0, [], gl⟩
theorem cxo_codec_AppendU32 : CxOk Try.prog (cx_codec_AppendU32) := ⟨tys_ok, FnsOk.cons fk_codec_put_uint32 sd_codec_put_uint32 (FnsOk.nil)⟩
def gs_codec_AppendU32 : Nat → Option Blk := lk []
theorem sd_codec_AppendU32 : FnSound Try.prog gl 23 sg_codec_AppendU32 :=
  fn_printed (G := gs_codec_AppendU32) (A := .leaf) (cxo_codec_AppendU32) follows Try.func23 (by kernel_rfl) (by kernel_rfl) (by kernel_rfl) (by kernel_rfl) (by kernel_rfl) (CutsOk.leaf _) (by intro v; kernel_rfl)
def sg_codec_put_uint8 : Sig := mkSig [(.hole (.slice (.int .u8))), (.hole (.int .u8)), (.hole (.int .i64))] [] [(.own 0)] [(.vec (.int .u8))] (fun p => codec_put_uint8 p.1.1 p.1.2.1 p.1.2.2.1)
theorem fk_codec_put_uint8 : FnOk Try.prog 44 := ⟨Try.f44, Try.func44, by kernel_rfl, by kernel_rfl⟩
def cx_codec_put_uint8 : Cx := ⟨tys, lk [], 31, 0, [], gl⟩
theorem cxo_codec_put_uint8 : CxOk Try.prog (cx_codec_put_uint8) := ⟨tys_ok, FnsOk.nil⟩
abbrev K0_codec_put_uint8_L1 : List (Nat × Ty) := [(1, (.int .u8)), (16, (.int .i64))]
abbrev TM_codec_put_uint8_L1 : Tm := ⟨[(7, (.own 0)), (17, (.hole (.int .i64)))], [(.vec (.int .u8))]⟩
abbrev UO_codec_put_uint8_L1 : Outs := (.one (.exit 0) ⟨[(7, (.own 0))], [(.vec (.int .u8))]⟩)
def B_codec_put_uint8_L1 : Blk := frBlk 0 [1, 6, 16] K0_codec_put_uint8_L1 TM_codec_put_uint8_L1 UO_codec_put_uint8_L1 (fun k => loopV (fun v => codec_put_uint8_L1 k.1 k.2.1 v))
def gs_codec_put_uint8 : Nat → Option Blk := lk [(1, B_codec_put_uint8_L1)]
theorem ct_codec_put_uint8_L1 : CodeSound Try.prog (cx_codec_put_uint8) (subL (subR (subL (subR (subR (bodyOf Try.f44)))))) (B_codec_put_uint8_L1).D :=
  loop_printed (G := gs_codec_put_uint8) (A := .leaf) (T0 := K0_codec_put_uint8_L1) (T := TM_codec_put_uint8_L1) (U := UO_codec_put_uint8_L1) (step := (fun k v => codec_put_uint8_L1 k.1 k.2.1 v)) (cxo_codec_put_uint8) follows (by kernel_rfl) (by kernel_rfl) (CutsOk.leaf _) (by intro k v; kernel_rfl)
theorem sd_codec_put_uint8 : FnSound Try.prog gl 44 sg_codec_put_uint8 :=
  fn_printed (G := gs_codec_put_uint8) (A := (.two .leaf (.two .leaf (.two (.two .leaf (.two (.cut 1) .leaf)) .leaf)))) (cxo_codec_put_uint8) follows Try.func44 (by kernel_rfl) (by kernel_rfl) (by kernel_rfl) (by kernel_rfl) (by kernel_rfl) (CutsOk.two (CutsOk.leaf _) (CutsOk.two (CutsOk.leaf _) (CutsOk.two (CutsOk.two (CutsOk.leaf _) (CutsOk.two (CutsOk.cut (g := B_codec_put_uint8_L1) (by kernel_rfl) (ct_codec_put_uint8_L1)) (CutsOk.leaf _))) (CutsOk.leaf _)))) (by intro v; kernel_rfl)
def sg_codec_put_uint16 : Sig := mkSig [(.hole (.slice (.int .u8))), (.hole (.int .u16)), (.hole (.int .i64))] [] [(.own 0)] [(.vec (.int .u8))] (fun p => codec_put_uint16 p.1.1 p.1.2.1 p.1.2.2.1)
theorem fk_codec_put_uint16 : FnOk Try.prog 45 := ⟨Try.f45, Try.func45, by kernel_rfl, by kernel_rfl⟩
def cx_codec_put_uint16 : Cx := ⟨tys, lk [], 31, 0, [], gl⟩
theorem cxo_codec_put_uint16 : CxOk Try.prog (cx_codec_put_uint16) := ⟨tys_ok, FnsOk.nil⟩
abbrev K0_codec_put_uint16_L1 : List (Nat × Ty) := [(1, (.int .u16)), (16, (.int .i64))]
abbrev TM_codec_put_uint16_L1 : Tm := ⟨[(7, (.own 0)), (17, (.hole (.int .i64)))], [(.vec (.int .u8))]⟩
abbrev UO_codec_put_uint16_L1 : Outs := (.one (.exit 0) ⟨[(7, (.own 0))], [(.vec (.int .u8))]⟩)
def B_codec_put_uint16_L1 : Blk := frBlk 0 [1, 6, 16] K0_codec_put_uint16_L1 TM_codec_put_uint16_L1 UO_codec_put_uint16_L1 (fun k => loopV (fun v => codec_put_uint16_L1 k.1 k.2.1 v))
def gs_codec_put_uint16 : Nat → Option Blk := lk [(1, B_codec_put_uint16_L1)]
theorem ct_codec_put_uint16_L1 : CodeSound Try.prog (cx_codec_put_uint16) (subL (subR (subL (subR (subR (bodyOf Try.f45)))))) (B_codec_put_uint16_L1).D :=
  loop_printed (G := gs_codec_put_uint16) (A := .leaf) (T0 := K0_codec_put_uint16_L1) (T := TM_codec_put_uint16_L1) (U := UO_codec_put_uint16_L1) (step := (fun k v => codec_put_uint16_L1 k.1 k.2.1 v)) (cxo_codec_put_uint16) follows (by kernel_rfl) (by kernel_rfl) (CutsOk.leaf _) (by intro k v; kernel_rfl)
theorem sd_codec_put_uint16 : FnSound Try.prog gl 45 sg_codec_put_uint16 :=
  fn_printed (G := gs_codec_put_uint16) (A := (.two .leaf (.two .leaf (.two (.two .leaf (.two (.cut 1) .leaf)) .leaf)))) (cxo_codec_put_uint16) follows Try.func45 (by kernel_rfl) (by kernel_rfl) (by kernel_rfl) (by kernel_rfl) (by kernel_rfl) (CutsOk.two (CutsOk.leaf _) (CutsOk.two (CutsOk.leaf _) (CutsOk.two (CutsOk.two (CutsOk.leaf _) (CutsOk.two (CutsOk.cut (g := B_codec_put_uint16_L1) (by kernel_rfl) (ct_codec_put_uint16_L1)) (CutsOk.leaf _))) (CutsOk.leaf _)))) (by intro v; kernel_rfl)
def sg_codec_put_uint64 : Sig := mkSig [(.hole (.slice (.int .u8))), (.hole (.int .u64)), (.hole (.int .i64))] [] [(.own 0)] [(.vec (.int .u8))] (fun p => codec_put_uint64 p.1.1 p.1.2.1 p.1.2.2.1)
theorem fk_codec_put_uint64 : FnOk Try.prog 46 := ⟨Try.f46, Try.func46, by kernel_rfl, by kernel_rfl⟩
def cx_codec_put_uint64 : Cx := ⟨tys, lk [], 30, 0, [], gl⟩
theorem cxo_codec_put_uint64 : CxOk Try.prog (cx_codec_put_uint64) := ⟨tys_ok, FnsOk.nil⟩
abbrev K0_codec_put_uint64_L1 : List (Nat × Ty) := [(1, (.int .u64)), (16, (.int .i64))]
abbrev TM_codec_put_uint64_L1 : Tm := ⟨[(7, (.own 0)), (17, (.hole (.int .i64)))], [(.vec (.int .u8))]⟩
abbrev UO_codec_put_uint64_L1 : Outs := (.one (.exit 0) ⟨[(7, (.own 0))], [(.vec (.int .u8))]⟩)
def B_codec_put_uint64_L1 : Blk := frBlk 0 [1, 6, 16] K0_codec_put_uint64_L1 TM_codec_put_uint64_L1 UO_codec_put_uint64_L1 (fun k => loopV (fun v => codec_put_uint64_L1 k.1 k.2.1 v))
def gs_codec_put_uint64 : Nat → Option Blk := lk [(1, B_codec_put_uint64_L1)]
theorem ct_codec_put_uint64_L1 : CodeSound Try.prog (cx_codec_put_uint64) (subL (subR (subL (subR (subR (bodyOf Try.f46)))))) (B_codec_put_uint64_L1).D :=
  loop_printed (G := gs_codec_put_uint64) (A := .leaf) (T0 := K0_codec_put_uint64_L1) (T := TM_codec_put_uint64_L1) (U := UO_codec_put_uint64_L1) (step := (fun k v => codec_put_uint64_L1 k.1 k.2.1 v)) (cxo_codec_put_uint64) follows (by kernel_rfl) (by kernel_rfl) (CutsOk.leaf _) (by intro k v; kernel_rfl)
theorem sd_codec_put_uint64 : FnSound Try.prog gl 46 sg_codec_put_uint64 :=
  fn_printed (G := gs_codec_put_uint64) (A := (.two .leaf (.two .leaf (.two (.two .leaf (.two (.cut 1) .leaf)) .leaf)))) (cxo_codec_put_uint64) follows Try.func46 (by kernel_rfl) (by kernel_rfl) (by kernel_rfl) (by kernel_rfl) (by kernel_rfl) (CutsOk.two (CutsOk.leaf _) (CutsOk.two (CutsOk.leaf _) (CutsOk.two (CutsOk.two (CutsOk.leaf _) (CutsOk.two (CutsOk.cut (g := B_codec_put_uint64_L1) (by kernel_rfl) (ct_codec_put_uint64_L1)) (CutsOk.leaf _))) (CutsOk.leaf _)))) (by intro v; kernel_rfl)
def sg_codec_AppendSize : Sig := mkSig [(.hole (.slice (.int .u8))), (.hole (.int .u64))] [] [(.own 0)] [(.vec (.int .u8))] (fun p => codec_AppendSize p.1.1 p.1.2.1)
theorem fk_codec_AppendSize : FnOk Try.prog 40 := ⟨Try.f40, Try.func40, by kernel_rfl, by kernel_rfl⟩
def cx_codec_AppendSize : Cx := ⟨tys, lk [(45, sg_codec_put_uint16), (37, sg_codec_put_uint32), (46, sg_codec_put_uint64), (44, sg_codec_put_uint8)], 32, 0, [], gl⟩
theorem cxo_codec_AppendSize : CxOk Try.prog (cx_codec_AppendSize) := ⟨tys_ok, FnsOk.cons fk_codec_put_uint16 sd_codec_put_uint16 (FnsOk.cons fk_codec_put_uint32 sd_codec_put_uint32 (FnsOk.cons fk_codec_put_uint64 sd_codec_put_uint64 (FnsOk.cons fk_codec_put_uint8 sd_codec_put_uint8 (FnsOk.nil))))⟩
def gs_codec_AppendSize : Nat → Option Blk := lk []
theorem sd_codec_AppendSize : FnSound Try.prog gl 40 sg_codec_AppendSize :=
  fn_printed (G := gs_codec_AppendSize) (A := .leaf) (cxo_codec_AppendSize) follows Try.func40 (by kernel_rfl) (by kernel_rfl) (by kernel_rfl) (by kernel_rfl) (by kernel_rfl) (CutsOk.leaf _) (by intro v; kernel_rfl)
def sg_codec_AppendHash : Sig := mkSig [(.hole (.slice (.int .u8))), (.hole (.arr 32 (.int .u8)))] [] [(.own 0)] [(.vec (.int .u8))] (fun p => codec_AppendHash p.1.1 p.1.2.1)
theorem fk_codec_AppendHash : FnOk Try.prog 24 := ⟨Try.f24, Try.func24, by kernel_rfl, by kernel_rfl⟩
def cx_codec_AppendHash : Cx := ⟨tys, lk [], 15, 0, [], gl⟩
theorem cxo_codec_AppendHash : CxOk Try.prog (cx_codec_AppendHash) := ⟨tys_ok, FnsOk.nil⟩
def gs_codec_AppendHash : Nat → Option Blk := lk []
theorem sd_codec_AppendHash : FnSound Try.prog gl 24 sg_codec_AppendHash :=
  fn_printed (G := gs_codec_AppendHash) (A := .leaf) (cxo_codec_AppendHash) follows Try.func24 (by kernel_rfl) (by kernel_rfl) (by kernel_rfl) (by kernel_rfl) (by kernel_rfl) (CutsOk.leaf _) (by intro v; kernel_rfl)
def sg_codec_AppendU64 : Sig := mkSig [(.hole (.slice (.int .u8))), (.hole (.int .u64))] [] [(.own 0)] [(.vec (.int .u8))] (fun p => codec_AppendU64 p.1.1 p.1.2.1)
theorem fk_codec_AppendU64 : FnOk Try.prog 41 := ⟨Try.f41, Try.func41, by kernel_rfl, by kernel_rfl⟩
def cx_codec_AppendU64 : Cx := ⟨tys, lk [(46, sg_codec_put_uint64)], 8, 0, [], gl⟩
theorem cxo_codec_AppendU64 : CxOk Try.prog (cx_codec_AppendU64) := ⟨tys_ok, FnsOk.cons fk_codec_put_uint64 sd_codec_put_uint64 (FnsOk.nil)⟩
def gs_codec_AppendU64 : Nat → Option Blk := lk []
theorem sd_codec_AppendU64 : FnSound Try.prog gl 41 sg_codec_AppendU64 :=
  fn_printed (G := gs_codec_AppendU64) (A := .leaf) (cxo_codec_AppendU64) follows Try.func41 (by kernel_rfl) (by kernel_rfl) (by kernel_rfl) (by kernel_rfl) (by kernel_rfl) (CutsOk.leaf _) (by intro v; kernel_rfl)
def sg_codec_AppendBytes : Sig := mkSig [(.hole (.slice (.int .u8))), (.hole (.slice (.int .u8)))] [] [(.own 0)] [(.vec (.int .u8))] (fun p => codec_AppendBytes p.1.1 p.1.2.1)
theorem fk_codec_AppendBytes : FnOk Try.prog 42 := ⟨Try.f42, Try.func42, by kernel_rfl, by kernel_rfl⟩
def cx_codec_AppendBytes : Cx := ⟨tys, lk [(40, sg_codec_AppendSize)], 12, 0, [], gl⟩
theorem cxo_codec_AppendBytes : CxOk Try.prog (cx_codec_AppendBytes) := ⟨tys_ok, FnsOk.cons fk_codec_AppendSize sd_codec_AppendSize (FnsOk.nil)⟩
def gs_codec_AppendBytes : Nat → Option Blk := lk []
theorem sd_codec_AppendBytes : FnSound Try.prog gl 42 sg_codec_AppendBytes :=
  fn_printed (G := gs_codec_AppendBytes) (A := .leaf) (cxo_codec_AppendBytes) follows Try.func42 (by kernel_rfl) (by kernel_rfl) (by kernel_rfl) (by kernel_rfl) (by kernel_rfl) (CutsOk.leaf _) (by intro v; kernel_rfl)
def sg_codec_get_uint32 : Sig := mkSig [(.hole (.slice (.int .u8))), (.hole (.int .i64)), (.hole (.int .i64))] [] [(.hole (.int .u32)), (.hole (.int .i64)), (.hole (.int .i64))] [] (fun p => codec_get_uint32 p.1.1 p.1.2.1 p.1.2.2.1)
theorem fk_codec_get_uint32 : FnOk Try.prog 66 := ⟨Try.f66, Try.func66, by kernel_rfl, by kernel_rfl⟩
def cx_codec_get_uint32 : Cx := ⟨tys, lk [], 47, 0, [], gl⟩
theorem cxo_codec_get_uint32 : CxOk Try.prog (cx_codec_get_uint32) := ⟨tys_ok, FnsOk.nil⟩
abbrev K0_codec_get_uint32_L1 : List (Nat × Ty) := [(0, (.slice (.int .u8))), (1, (.int .i64)), (25, (.int .i64))]
abbrev TM_codec_get_uint32_L1 : Tm := ⟨[(9, (.hole (.int .u64))), (26, (.hole (.int .i64)))], []⟩
abbrev UO_codec_get_uint32_L1 : Outs := (.one (.exit 0) ⟨[(9, (.hole (.int .u64)))], []⟩)
def B_codec_get_uint32_L1 : Blk := frBlk 0 [0, 1, 2, 6, 7, 8, 25] K0_codec_get_uint32_L1 TM_codec_get_uint32_L1 UO_codec_get_uint32_L1 (fun k => loopV (fun v => codec_get_uint32_L1 k.1 k.2.1 k.2.2.1 v))
def gs_codec_get_uint32 : Nat → Option Blk := lk [(1, B_codec_get_uint32_L1)]
theorem ct_codec_get_uint32_L1 : CodeSound Try.prog (cx_codec_get_uint32) (subL (subR (subL (subR (subR (subR (subR (bodyOf Try.f66)))))))) (B_codec_get_uint32_L1).D :=
  loop_printed (G := gs_codec_get_uint32) (A := .leaf) (T0 := K0_codec_get_uint32_L1) (T := TM_codec_get_uint32_L1) (U := UO_codec_get_uint32_L1) (step := (fun k v => codec_get_uint32_L1 k.1 k.2.1 k.2.2.1 v)) (cxo_codec_get_uint32) follows (by kernel_rfl) (by kernel_rfl) (CutsOk.leaf _) (by intro k v; kernel_rfl)
theorem sd_codec_get_uint32 : FnSound Try.prog gl 66 sg_codec_get_uint32 :=
  fn_printed (G := gs_codec_get_uint32) (A := (.two .leaf (.two .leaf (.two .leaf (.two .leaf (.two (.two .leaf (.two (.cut 1) .leaf)) .leaf)))))) (cxo_codec_get_uint32) follows Try.func66 (by kernel_rfl) (by kernel_rfl) (by kernel_rfl) (by kernel_rfl) (by kernel_rfl) (CutsOk.two (CutsOk.leaf _) (CutsOk.two (CutsOk.leaf _) (CutsOk.two (CutsOk.leaf _) (CutsOk.two (CutsOk.leaf _) (CutsOk.two (CutsOk.two (CutsOk.leaf _) (CutsOk.two (CutsOk.cut (g := B_codec_get_uint32_L1) (by kernel_rfl) (ct_codec_get_uint32_L1)) (CutsOk.leaf _))) (CutsOk.leaf _)))))) (by intro v; kernel_rfl)
def sg_codec_U32 : Sig := mkSig [(.hole (.slice (.int .u8))), (.hole (.int .i64))] [] [(.hole (.int .u32)), (.hole (.int .i64)), (.hole (.int .i64))] [] (fun p => codec_U32 p.1.1 p.1.2.1)
theorem fk_codec_U32 : FnOk Try.prog 54 := ⟨Try.f54, Try.func54, by kernel_rfl, by kernel_rfl⟩
def cx_codec_U32 : Cx := ⟨tys, lk [(66, sg_codec_get_uint32)], 13, 0, [], gl⟩
theorem cxo_codec_U32 : CxOk Try.prog (cx_codec_U32) := ⟨tys_ok, FnsOk.cons fk_codec_get_uint32 sd_codec_get_uint32 (FnsOk.nil)⟩
def gs_codec_U32 : Nat → Option Blk := lk []
theorem sd_codec_U32 : FnSound Try.prog gl 54 sg_codec_U32 :=
  fn_printed (G := gs_codec_U32) (A := .leaf) (cxo_codec_U32) follows Try.func54 (by kernel_rfl) (by kernel_rfl) (by kernel_rfl) (by kernel_rfl) (by kernel_rfl) (CutsOk.leaf _) (by intro v; kernel_rfl)
def sg_codec_get_uint8 : Sig := mkSig [(.hole (.slice (.int .u8))), (.hole (.int .i64)), (.hole (.int .i64))] [] [(.hole (.int .u8)), (.hole (.int .i64)), (.hole (.int .i64))] [] (fun p => codec_get_uint8 p.1.1 p.1.2.1 p.1.2.2.1)
theorem fk_codec_get_uint8 : FnOk Try.prog 67 := ⟨Try.f67, Try.func67, by kernel_rfl, by kernel_rfl⟩
def cx_codec_get_uint8 : Cx := ⟨tys, lk [], 47, 0, [], gl⟩
theorem cxo_codec_get_uint8 : CxOk Try.prog (cx_codec_get_uint8) := ⟨tys_ok, FnsOk.nil⟩
abbrev K0_codec_get_uint8_L1 : List (Nat × Ty) := [(0, (.slice (.int .u8))), (1, (.int .i64)), (25, (.int .i64))]
abbrev TM_codec_get_uint8_L1 : Tm := ⟨[(9, (.hole (.int .u64))), (26, (.hole (.int .i64)))], []⟩
abbrev UO_codec_get_uint8_L1 : Outs := (.one (.exit 0) ⟨[(9, (.hole (.int .u64)))], []⟩)
def B_codec_get_uint8_L1 : Blk := frBlk 0 [0, 1, 2, 6, 7, 8, 25] K0_codec_get_uint8_L1 TM_codec_get_uint8_L1 UO_codec_get_uint8_L1 (fun k => loopV (fun v => codec_get_uint8_L1 k.1 k.2.1 k.2.2.1 v))
def gs_codec_get_uint8 : Nat → Option Blk := lk [(1, B_codec_get_uint8_L1)]
theorem ct_codec_get_uint8_L1 : CodeSound Try.prog (cx_codec_get_uint8) (subL (subR (subL (subR (subR (subR (subR (bodyOf Try.f67)))))))) (B_codec_get_uint8_L1).D :=
  loop_printed (G := gs_codec_get_uint8) (A := .leaf) (T0 := K0_codec_get_uint8_L1) (T := TM_codec_get_uint8_L1) (U := UO_codec_get_uint8_L1) (step := (fun k v => codec_get_uint8_L1 k.1 k.2.1 k.2.2.1 v)) (cxo_codec_get_uint8) follows (by kernel_rfl) (by kernel_rfl) (CutsOk.leaf _) (by intro k v; kernel_rfl)
theorem sd_codec_get_uint8 : FnSound Try.prog gl 67 sg_codec_get_uint8 :=
  fn_printed (G := gs_codec_get_uint8) (A := (.two .leaf (.two .leaf (.two .leaf (.two .leaf (.two (.two .leaf (.two (.cut 1) .leaf)) .leaf)))))) (cxo_codec_get_uint8) follows Try.func67 (by kernel_rfl) (by kernel_rfl) (by kernel_rfl) (by kernel_rfl) (by kernel_rfl) (CutsOk.two (CutsOk.leaf _) (CutsOk.two (CutsOk.leaf _) (CutsOk.two (CutsOk.leaf _) (CutsOk.two (CutsOk.leaf _) (CutsOk.two (CutsOk.two (CutsOk.leaf _) (CutsOk.two (CutsOk.cut (g := B_codec_get_uint8_L1) (by kernel_rfl) (ct_codec_get_uint8_L1)) (CutsOk.leaf _))) (CutsOk.leaf _)))))) (by intro v; kernel_rfl)
def sg_codec_get_uint64 : Sig := mkSig [(.hole (.slice (.int .u8))), (.hole (.int .i64)), (.hole (.int .i64))] [] [(.hole (.int .u64)), (.hole (.int .i64)), (.hole (.int .i64))] [] (fun p => codec_get_uint64 p.1.1 p.1.2.1 p.1.2.2.1)
theorem fk_codec_get_uint64 : FnOk Try.prog 68 := ⟨Try.f68, Try.func68, by kernel_rfl, by kernel_rfl⟩
def cx_codec_get_uint64 : Cx := ⟨tys, lk [], 46, 0, [], gl⟩
theorem cxo_codec_get_uint64 : CxOk Try.prog (cx_codec_get_uint64) := ⟨tys_ok, FnsOk.nil⟩
abbrev K0_codec_get_uint64_L1 : List (Nat × Ty) := [(0, (.slice (.int .u8))), (1, (.int .i64)), (25, (.int .i64))]
abbrev TM_codec_get_uint64_L1 : Tm := ⟨[(9, (.hole (.int .u64))), (26, (.hole (.int .i64)))], []⟩
abbrev UO_codec_get_uint64_L1 : Outs := (.one (.exit 0) ⟨[(9, (.hole (.int .u64)))], []⟩)
def B_codec_get_uint64_L1 : Blk := frBlk 0 [0, 1, 2, 6, 7, 8, 25] K0_codec_get_uint64_L1 TM_codec_get_uint64_L1 UO_codec_get_uint64_L1 (fun k => loopV (fun v => codec_get_uint64_L1 k.1 k.2.1 k.2.2.1 v))
def gs_codec_get_uint64 : Nat → Option Blk := lk [(1, B_codec_get_uint64_L1)]
theorem ct_codec_get_uint64_L1 : CodeSound Try.prog (cx_codec_get_uint64) (subL (subR (subL (subR (subR (subR (subR (bodyOf Try.f68)))))))) (B_codec_get_uint64_L1).D :=
  loop_printed (G := gs_codec_get_uint64) (A := .leaf) (T0 := K0_codec_get_uint64_L1) (T := TM_codec_get_uint64_L1) (U := UO_codec_get_uint64_L1) (step := (fun k v => codec_get_uint64_L1 k.1 k.2.1 k.2.2.1 v)) (cxo_codec_get_uint64) follows (by kernel_rfl) (by kernel_rfl) (CutsOk.leaf _) (by intro k v; kernel_rfl)
theorem sd_codec_get_uint64 : FnSound Try.prog gl 68 sg_codec_get_uint64 :=
  fn_printed (G := gs_codec_get_uint64) (A := (.two .leaf (.two .leaf (.two .leaf (.two .leaf (.two (.two .leaf (.two (.cut 1) .leaf)) .leaf)))))) (cxo_codec_get_uint64) follows Try.func68 (by kernel_rfl) (by kernel_rfl) (by kernel_rfl) (by kernel_rfl) (by kernel_rfl) (CutsOk.two (CutsOk.leaf _) (CutsOk.two (CutsOk.leaf _) (CutsOk.two (CutsOk.leaf _) (CutsOk.two (CutsOk.leaf _) (CutsOk.two (CutsOk.two (CutsOk.leaf _) (CutsOk.two (CutsOk.cut (g := B_codec_get_uint64_L1) (by kernel_rfl) (ct_codec_get_uint64_L1)) (CutsOk.leaf _))) (CutsOk.leaf _)))))) (by intro v; kernel_rfl)
def sg_codec_Size : Sig := mkSig [(.hole (.slice (.int .u8))), (.hole (.int .i64)), (.hole (.int .u64))] [] [(.hole (.int .u64)), (.hole (.int .i64)), (.hole (.int .i64))] [] (fun p => codec_Size p.1.1 p.1.2.1 p.1.2.2.1)
theorem fk_codec_Size : FnOk Try.prog 57 := ⟨Try.f57, Try.func57, by kernel_rfl, by kernel_rfl⟩
def cx_codec_Size : Cx := ⟨tys, lk [(68, sg_codec_get_uint64), (67, sg_codec_get_uint8)], 68, 0, [], gl⟩
theorem cxo_codec_Size : CxOk Try.prog (cx_codec_Size) := ⟨tys_ok, FnsOk.cons fk_codec_get_uint64 sd_codec_get_uint64 (FnsOk.cons fk_codec_get_uint8 sd_codec_get_uint8 (FnsOk.nil))⟩
abbrev K0_codec_Size_J1 : List (Nat × Ty) := [(0, (.slice (.int .u8))), (9, (.int .u8))]
abbrev TM_codec_Size_J1 : Tm := ⟨[(10, (.hole (.int .i64))), (11, (.hole (.int .i64))), (12, (.hole (.int .u64))), (13, (.hole (.int .u64)))], []⟩
abbrev UO_codec_Size_J1 : Outs := (.one .normal ⟨[(10, (.hole (.int .i64))), (11, (.hole (.int .i64))), (12, (.hole (.int .u64))), (13, (.hole (.int .u64)))], []⟩)
def B_codec_Size_J1 : Blk := frBlk 0 [0, 2, 6, 7, 8, 9] K0_codec_Size_J1 TM_codec_Size_J1 UO_codec_Size_J1 (fun k v => codec_Size_J1 k.1 k.2.1 v)
def gs_codec_Size : Nat → Option Blk := lk [(1, B_codec_Size_J1)]
theorem ct_codec_Size_J1 : CodeSound Try.prog (cx_codec_Size) (subL (subR (subR (subR (subR (bodyOf Try.f57)))))) (B_codec_Size_J1).D :=
  join_sound (G := gs_codec_Size) (A := .leaf) (T0 := K0_codec_Size_J1) (T := TM_codec_Size_J1) (U := UO_codec_Size_J1) (F := (fun k v => codec_Size_J1 k.1 k.2.1 v)) (cxo_codec_Size) follows (by kernel_rfl) (CutsOk.leaf _) (by intro k v; kernel_rfl)
theorem sd_codec_Size : FnSound Try.prog gl 57 sg_codec_Size :=
  fn_printed (G := gs_codec_Size) (A := (.two .leaf (.two .leaf (.two .leaf (.two .leaf (.two (.cut 1) .leaf)))))) (cxo_codec_Size) follows Try.func57 (by kernel_rfl) (by kernel_rfl) (by kernel_rfl) (by kernel_rfl) (by kernel_rfl) (CutsOk.two (CutsOk.leaf _) (CutsOk.two (CutsOk.leaf _) (CutsOk.two (CutsOk.leaf _) (CutsOk.two (CutsOk.leaf _) (CutsOk.two (CutsOk.cut (g := B_codec_Size_J1) (by kernel_rfl) (ct_codec_Size_J1)) (CutsOk.leaf _)))))) (by intro v; kernel_rfl)
end Go.PE.Ythfkhjnomjpaoaa
end
end

section
set_option maxRecDepth 100000
set_option linter.unusedVariables false
noncomputable section
namespace Go.PE.Ythfkhjnomjpaoaa
open Go.PE Go.Proofs

def sg_tx_small : Sig := mkSig [(.hole T_8f0a)] [] [(.hole .bool)] [] (fun p => tx_small p.1.1)
theorem fk_tx_small : FnOk Try.prog 27 := ⟨Try.f27, Try.func27, by kernel_rfl, by kernel_rfl⟩
def cx_tx_small : Cx := ⟨tys, lk [], 59, 0, [], gl⟩
theorem cxo_tx_small : CxOk Try.prog (cx_tx_small) := ⟨tys_ok, FnsOk.nil⟩
abbrev K0_tx_small_L1 : List (Nat × Ty) := [(20, (.slice T_b101)), (21, (.int .i64))]
abbrev TM_tx_small_L1 : Tm := ⟨[(1, (.ptr 0 [])), (22, (.hole (.int .i64)))], [(.box T_8f0a (.hole T_8f0a))]⟩
abbrev UO_tx_small_L1 : Outs := (.more .ret ⟨[(2, (.hole .bool))], []⟩ (.one (.exit 0) ⟨[(1, (.ptr 0 []))], [(.box T_8f0a (.hole T_8f0a))]⟩))
def B_tx_small_L1 : Blk := frBlk 0 [20, 21] K0_tx_small_L1 TM_tx_small_L1 UO_tx_small_L1 (fun k => loopV (fun v => tx_small_L1 k.1 k.2.1 v))
abbrev K0_tx_small_L3 : List (Nat × Ty) := [(48, (.slice (.slice (.int .u8)))), (49, (.int .i64))]
abbrev TM_tx_small_L3 : Tm := ⟨[(50, (.hole (.int .i64)))], []⟩
abbrev UO_tx_small_L3 : Outs := (.more .ret ⟨[(2, (.hole .bool))], []⟩ (.one (.exit 4) ⟨[], []⟩))
def B_tx_small_L3 : Blk := frBlk 0 [37, 38, 39, 48, 49] K0_tx_small_L3 TM_tx_small_L3 UO_tx_small_L3 (fun k => loopV (fun v => tx_small_L3 k.1 k.2.1 v))
abbrev K0_tx_small_L2 : List (Nat × Ty) := [(37, (.slice T_089d)), (38, (.int .i64))]
abbrev TM_tx_small_L2 : Tm := ⟨[(39, (.hole (.int .i64)))], []⟩
abbrev UO_tx_small_L2 : Outs := (.more .ret ⟨[(2, (.hole .bool))], []⟩ (.one (.exit 2) ⟨[], []⟩))
def B_tx_small_L2 : Blk := frBlk 0 [37, 38] K0_tx_small_L2 TM_tx_small_L2 UO_tx_small_L2 (fun k => loopV (fun v => tx_small_L2 k.1 k.2.1 v))
def gs_tx_small : Nat → Option Blk := lk [(1, B_tx_small_L1), (3, B_tx_small_L3), (2, B_tx_small_L2)]
theorem ct_tx_small_L3 : CodeSound Try.prog ((cx_tx_small).fr [37, 38]) (subL (subR (subR (subR (subL (subL (subR (subR (subL (subL (subR (subL (subR (subR (subR (bodyOf Try.f27)))))))))))))))) (B_tx_small_L3).D :=
  loop_printed (G := gs_tx_small) (A := .leaf) (T0 := K0_tx_small_L3) (T := TM_tx_small_L3) (U := UO_tx_small_L3) (step := (fun k v => tx_small_L3 k.1 k.2.1 v)) ((cxo_tx_small).fr [37, 38]) follows (by kernel_rfl) (by kernel_rfl) (CutsOk.leaf _) (by intro k v; kernel_rfl)
theorem ct_tx_small_L2 : CodeSound Try.prog (cx_tx_small) (subL (subR (subL (subR (subR (subR (bodyOf Try.f27))))))) (B_tx_small_L2).D :=
  loop_printed (G := gs_tx_small) (A := (.two .leaf (.two .leaf (.two (.two (.two .leaf (.two .leaf (.two .leaf (.two (.cut 3) .leaf)))) .leaf) .leaf)))) (T0 := K0_tx_small_L2) (T := TM_tx_small_L2) (U := UO_tx_small_L2) (step := (fun k v => tx_small_L2 k.1 k.2.1 v)) (cxo_tx_small) follows (by kernel_rfl) (by kernel_rfl) (CutsOk.two (CutsOk.leaf _) (CutsOk.two (CutsOk.leaf _) (CutsOk.two (CutsOk.two (CutsOk.two (CutsOk.leaf _) (CutsOk.two (CutsOk.leaf _) (CutsOk.two (CutsOk.leaf _) (CutsOk.two (CutsOk.cut (g := B_tx_small_L3) (by kernel_rfl) (ct_tx_small_L3)) (CutsOk.leaf _))))) (CutsOk.leaf _)) (CutsOk.leaf _)))) (by intro k v; kernel_rfl)
theorem ct_tx_small_L1 : CodeSound Try.prog (cx_tx_small) (subL (subR (subL (subR (subR (bodyOf Try.f27)))))) (B_tx_small_L1).D :=
  loop_printed (G := gs_tx_small) (A := .leaf) (T0 := K0_tx_small_L1) (T := TM_tx_small_L1) (U := UO_tx_small_L1) (step := (fun k v => tx_small_L1 k.1 k.2.1 v)) (cxo_tx_small) follows (by kernel_rfl) (by kernel_rfl) (CutsOk.leaf _) (by intro k v; kernel_rfl)
theorem sd_tx_small : FnSound Try.prog gl 27 sg_tx_small :=
  fn_printed (G := gs_tx_small) (A := (.two .leaf (.two .leaf (.two (.two .leaf (.two (.cut 1) .leaf)) (.two (.two .leaf (.two (.cut 2) .leaf)) .leaf))))) (cxo_tx_small) follows Try.func27 (by kernel_rfl) (by kernel_rfl) (by kernel_rfl) (by kernel_rfl) (by kernel_rfl) (CutsOk.two (CutsOk.leaf _) (CutsOk.two (CutsOk.leaf _) (CutsOk.two (CutsOk.two (CutsOk.leaf _) (CutsOk.two (CutsOk.cut (g := B_tx_small_L1) (by kernel_rfl) (ct_tx_small_L1)) (CutsOk.leaf _))) (CutsOk.two (CutsOk.two (CutsOk.leaf _) (CutsOk.two (CutsOk.cut (g := B_tx_small_L2) (by kernel_rfl) (ct_tx_small_L2)) (CutsOk.leaf _))) (CutsOk.leaf _))))) (by intro v; kernel_rfl)
def sg_tx_Point : Sig := mkSig [(.hole T_b85e)] [] [(.own 0)] [(.vec (.int .u8))] (fun p => tx_Point p.1.1)
theorem fk_tx_Point : FnOk Try.prog 12 := ⟨Try.f12, Try.func12, by kernel_rfl, by kernel_rfl⟩
def cx_tx_Point : Cx := ⟨tys, lk [(24, sg_codec_AppendHash), (23, sg_codec_AppendU32)], 9, 0, [], gl⟩
theorem cxo_tx_Point : CxOk Try.prog (cx_tx_Point) := ⟨tys_ok, FnsOk.cons fk_codec_AppendHash sd_codec_AppendHash (FnsOk.cons fk_codec_AppendU32 sd_codec_AppendU32 (FnsOk.nil))⟩
def gs_tx_Point : Nat → Option Blk := lk []
theorem sd_tx_Point : FnSound Try.prog gl 12 sg_tx_Point :=
  fn_printed (G := gs_tx_Point) (A := .leaf) (cxo_tx_Point) follows Try.func12 (by kernel_rfl) (by kernel_rfl) (by kernel_rfl) (by kernel_rfl) (by kernel_rfl) (CutsOk.leaf _) (by intro v; kernel_rfl)
def sg_tx_encode : Sig := mkSig [(.hole T_8f0a), (.hole .bool)] [] [(.own 0)] [(.vec (.int .u8))] (fun p => tx_encode p.1.1 p.1.2.1)
theorem fk_tx_encode : FnOk Try.prog 28 := ⟨Try.f28, Try.func28, by kernel_rfl, by kernel_rfl⟩
def cx_tx_encode : Cx := ⟨tys, lk [(42, sg_codec_AppendBytes), (40, sg_codec_AppendSize), (23, sg_codec_AppendU32), (41, sg_codec_AppendU64), (12, sg_tx_Point)], 95, 0, [], gl⟩
theorem cxo_tx_encode : CxOk Try.prog (cx_tx_encode) := ⟨tys_ok, FnsOk.cons fk_codec_AppendBytes sd_codec_AppendBytes (FnsOk.cons fk_codec_AppendSize sd_codec_AppendSize (FnsOk.cons fk_codec_AppendU32 sd_codec_AppendU32 (FnsOk.cons fk_codec_AppendU64 sd_codec_AppendU64 (FnsOk.cons fk_tx_Point sd_tx_Point (FnsOk.nil)))))⟩
abbrev K0_tx_encode_L1 : List (Nat × Ty) := [(24, (.slice T_089d)), (25, (.int .i64))]
abbrev TM_tx_encode_L1 : Tm := ⟨[(2, (.ptr 0 [])), (5, (.own 1)), (26, (.hole (.int .i64)))], [(.box T_8f0a (.hole T_8f0a)), (.vec (.int .u8))]⟩
abbrev UO_tx_encode_L1 : Outs := (.one (.exit 0) ⟨[(2, (.ptr 0 [])), (5, (.own 1))], [(.box T_8f0a (.hole T_8f0a)), (.vec (.int .u8))]⟩)
def B_tx_encode_L1 : Blk := frBlk 0 [1, 4, 24, 25] K0_tx_encode_L1 TM_tx_encode_L1 UO_tx_encode_L1 (fun k => loopV (fun v => tx_encode_L1 k.1 k.2.1 v))
abbrev K0_tx_encode_L2 : List (Nat × Ty) := [(47, (.slice T_b101)), (48, (.int .i64))]
abbrev TM_tx_encode_L2 : Tm := ⟨[(2, (.ptr 0 [])), (5, (.own 1)), (49, (.hole (.int .i64)))], [(.box T_8f0a (.hole T_8f0a)), (.vec (.int .u8))]⟩
abbrev UO_tx_encode_L2 : Outs := (.one (.exit 2) ⟨[(2, (.ptr 0 [])), (5, (.own 1))], [(.box T_8f0a (.hole T_8f0a)), (.vec (.int .u8))]⟩)
def B_tx_encode_L2 : Blk := frBlk 0 [1, 4, 47, 48] K0_tx_encode_L2 TM_tx_encode_L2 UO_tx_encode_L2 (fun k => loopV (fun v => tx_encode_L2 k.1 k.2.1 v))
abbrev K0_tx_encode_L4 : List (Nat × Ty) := [(83, (.slice (.slice (.int .u8)))), (84, (.int .i64))]
abbrev TM_tx_encode_L4 : Tm := ⟨[(5, (.own 0)), (85, (.hole (.int .i64)))], [(.vec (.int .u8))]⟩
abbrev UO_tx_encode_L4 : Outs := (.one (.exit 6) ⟨[(5, (.own 0))], [(.vec (.int .u8))]⟩)
def B_tx_encode_L4 : Blk := frBlk 0 [1, 68, 69, 70, 83, 84] K0_tx_encode_L4 TM_tx_encode_L4 UO_tx_encode_L4 (fun k => loopV (fun v => tx_encode_L4 k.1 k.2.1 v))
abbrev K0_tx_encode_L3 : List (Nat × Ty) := [(1, .bool), (68, (.slice T_089d)), (69, (.int .i64))]
abbrev TM_tx_encode_L3 : Tm := ⟨[(5, (.own 0)), (70, (.hole (.int .i64)))], [(.vec (.int .u8))]⟩
abbrev UO_tx_encode_L3 : Outs := (.one (.exit 4) ⟨[(5, (.own 0))], [(.vec (.int .u8))]⟩)
def B_tx_encode_L3 : Blk := frBlk 0 [1, 4, 68, 69] K0_tx_encode_L3 TM_tx_encode_L3 UO_tx_encode_L3 (fun k => loopV (fun v => tx_encode_L3 k.1 k.2.1 k.2.2.1 v))
def gs_tx_encode : Nat → Option Blk := lk [(1, B_tx_encode_L1), (2, B_tx_encode_L2), (4, B_tx_encode_L4), (3, B_tx_encode_L3)]
theorem ct_tx_encode_L4 : CodeSound Try.prog ((cx_tx_encode).fr [1, 4, 68, 69]) (subL (subR (subR (subR (subR (subL (subL (subR (subR (subL (subL (subR (subL (subR (subR (subR (subR (subR (subR (subR (bodyOf Try.f28))))))))))))))))))))) (B_tx_encode_L4).D :=
  loop_printed (G := gs_tx_encode) (A := .leaf) (T0 := K0_tx_encode_L4) (T := TM_tx_encode_L4) (U := UO_tx_encode_L4) (step := (fun k v => tx_encode_L4 k.1 k.2.1 v)) ((cxo_tx_encode).fr [1, 4, 68, 69]) follows (by kernel_rfl) (by kernel_rfl) (CutsOk.leaf _) (by intro k v; kernel_rfl)
theorem ct_tx_encode_L3 : CodeSound Try.prog (cx_tx_encode) (subL (subR (subL (subR (subR (subR (subR (subR (subR (subR (bodyOf Try.f28))))))))))) (B_tx_encode_L3).D :=
  loop_printed (G := gs_tx_encode) (A := (.two .leaf (.two .leaf (.two (.two (.two .leaf (.two .leaf (.two .leaf (.two .leaf (.two (.cut 4) .leaf))))) .leaf) .leaf)))) (T0 := K0_tx_encode_L3) (T := TM_tx_encode_L3) (U := UO_tx_encode_L3) (step := (fun k v => tx_encode_L3 k.1 k.2.1 k.2.2.1 v)) (cxo_tx_encode) follows (by kernel_rfl) (by kernel_rfl) (CutsOk.two (CutsOk.leaf _) (CutsOk.two (CutsOk.leaf _) (CutsOk.two (CutsOk.two (CutsOk.two (CutsOk.leaf _) (CutsOk.two (CutsOk.leaf _) (CutsOk.two (CutsOk.leaf _) (CutsOk.two (CutsOk.leaf _) (CutsOk.two (CutsOk.cut (g := B_tx_encode_L4) (by kernel_rfl) (ct_tx_encode_L4)) (CutsOk.leaf _)))))) (CutsOk.leaf _)) (CutsOk.leaf _)))) (by intro k v; kernel_rfl)
theorem ct_tx_encode_L2 : CodeSound Try.prog (cx_tx_encode) (subL (subR (subL (subR (subR (subR (subR (subR (bodyOf Try.f28))))))))) (B_tx_encode_L2).D :=
  loop_printed (G := gs_tx_encode) (A := .leaf) (T0 := K0_tx_encode_L2) (T := TM_tx_encode_L2) (U := UO_tx_encode_L2) (step := (fun k v => tx_encode_L2 k.1 k.2.1 v)) (cxo_tx_encode) follows (by kernel_rfl) (by kernel_rfl) (CutsOk.leaf _) (by intro k v; kernel_rfl)
theorem ct_tx_encode_L1 : CodeSound Try.prog (cx_tx_encode) (subL (subR (subL (subR (subR (subR (bodyOf Try.f28))))))) (B_tx_encode_L1).D :=
  loop_printed (G := gs_tx_encode) (A := .leaf) (T0 := K0_tx_encode_L1) (T := TM_tx_encode_L1) (U := UO_tx_encode_L1) (step := (fun k v => tx_encode_L1 k.1 k.2.1 v)) (cxo_tx_encode) follows (by kernel_rfl) (by kernel_rfl) (CutsOk.leaf _) (by intro k v; kernel_rfl)
theorem sd_tx_encode : FnSound Try.prog gl 28 sg_tx_encode :=
  fn_printed (G := gs_tx_encode) (A := (.two .leaf (.two .leaf (.two .leaf (.two (.two .leaf (.two (.cut 1) .leaf)) (.two .leaf (.two (.two .leaf (.two (.cut 2) .leaf)) (.two .leaf (.two (.two .leaf (.two (.cut 3) .leaf)) .leaf))))))))) (cxo_tx_encode) follows Try.func28 (by kernel_rfl) (by kernel_rfl) (by kernel_rfl) (by kernel_rfl) (by kernel_rfl) (CutsOk.two (CutsOk.leaf _) (CutsOk.two (CutsOk.leaf _) (CutsOk.two (CutsOk.leaf _) (CutsOk.two (CutsOk.two (CutsOk.leaf _) (CutsOk.two (CutsOk.cut (g := B_tx_encode_L1) (by kernel_rfl) (ct_tx_encode_L1)) (CutsOk.leaf _))) (CutsOk.two (CutsOk.leaf _) (CutsOk.two (CutsOk.two (CutsOk.leaf _) (CutsOk.two (CutsOk.cut (g := B_tx_encode_L2) (by kernel_rfl) (ct_tx_encode_L2)) (CutsOk.leaf _))) (CutsOk.two (CutsOk.leaf _) (CutsOk.two (CutsOk.two (CutsOk.leaf _) (CutsOk.two (CutsOk.cut (g := B_tx_encode_L3) (by kernel_rfl) (ct_tx_encode_L3)) (CutsOk.leaf _))) (CutsOk.leaf _))))))))) (by intro v; kernel_rfl)
def sg_tx_Encode : Sig := mkSig [(.hole T_8f0a), (.hole .bool)] [] [(.own 0), (.hole (.int .i64))] [(.vec (.int .u8))] (fun p => tx_Encode p.1.1 p.1.2.1)
theorem fk_tx_Encode : FnOk Try.prog 14 := ⟨Try.f14, Try.func14, by kernel_rfl, by kernel_rfl⟩
def cx_tx_Encode : Cx := ⟨tys, lk [(28, sg_tx_encode), (27, sg_tx_small)], 21, 0, [], gl⟩
theorem cxo_tx_Encode : CxOk Try.prog (cx_tx_Encode) := ⟨tys_ok, FnsOk.cons fk_tx_encode sd_tx_encode (FnsOk.cons fk_tx_small sd_tx_small (FnsOk.nil))⟩
def gs_tx_Encode : Nat → Option Blk := lk []
theorem sd_tx_Encode : FnSound Try.prog gl 14 sg_tx_Encode :=
  fn_printed (G := gs_tx_Encode) (A := .leaf) (cxo_tx_Encode) follows Try.func14 (by kernel_rfl) (by kernel_rfl) (by kernel_rfl) (by kernel_rfl) (by kernel_rfl) (CutsOk.leaf _) (by intro v; kernel_rfl)
def sg_tx_Weight : Sig := mkSig [(.hole T_8f0a)] [] [(.hole (.int .i64))] [] (fun p => tx_Weight p.1.1)
theorem fk_tx_Weight : FnOk Try.prog 17 := ⟨Try.f17, Try.func17, by kernel_rfl, by kernel_rfl⟩
def cx_tx_Weight : Cx := ⟨tys, lk [(14, sg_tx_Encode), (28, sg_tx_encode)], 19, 0, [], gl⟩
theorem cxo_tx_Weight : CxOk Try.prog (cx_tx_Weight) := ⟨tys_ok, FnsOk.cons fk_tx_Encode sd_tx_Encode (FnsOk.cons fk_tx_encode sd_tx_encode (FnsOk.nil))⟩
def gs_tx_Weight : Nat → Option Blk := lk []
theorem sd_tx_Weight : FnSound Try.prog gl 17 sg_tx_Weight :=
  fn_printed (G := gs_tx_Weight) (A := .leaf) (cxo_tx_Weight) follows Try.func17 (by kernel_rfl) (by kernel_rfl) (by kernel_rfl) (by kernel_rfl) (by kernel_rfl) (CutsOk.leaf _) (by intro v; kernel_rfl)
def sg_tx_money : Sig := mkSig [(.hole (.slice T_b101))] [] [(.hole .bool)] [] (fun p => tx_money p.1.1)
theorem fk_tx_money : FnOk Try.prog 32 := ⟨Try.f32, Try.func32, by kernel_rfl, by kernel_rfl⟩
def cx_tx_money : Cx := ⟨tys, lk [], 22, 0, [], gl⟩
theorem cxo_tx_money : CxOk Try.prog (cx_tx_money) := ⟨tys_ok, FnsOk.nil⟩
abbrev K0_tx_money_L1 : List (Nat × Ty) := [(6, (.slice T_b101)), (7, (.int .i64))]
abbrev TM_tx_money_L1 : Tm := ⟨[(3, (.hole (.int .i64))), (8, (.hole (.int .i64)))], []⟩
abbrev UO_tx_money_L1 : Outs := (.more .ret ⟨[(2, (.hole .bool))], []⟩ (.one (.exit 0) ⟨[(3, (.hole (.int .i64)))], []⟩))
def B_tx_money_L1 : Blk := frBlk 0 [6, 7] K0_tx_money_L1 TM_tx_money_L1 UO_tx_money_L1 (fun k => loopV (fun v => tx_money_L1 k.1 k.2.1 v))
def gs_tx_money : Nat → Option Blk := lk [(1, B_tx_money_L1)]
theorem ct_tx_money_L1 : CodeSound Try.prog (cx_tx_money) (subL (subR (subL (subR (subR (bodyOf Try.f32)))))) (B_tx_money_L1).D :=
  loop_printed (G := gs_tx_money) (A := .leaf) (T0 := K0_tx_money_L1) (T := TM_tx_money_L1) (U := UO_tx_money_L1) (step := (fun k v => tx_money_L1 k.1 k.2.1 v)) (cxo_tx_money) follows (by kernel_rfl) (by kernel_rfl) (CutsOk.leaf _) (by intro k v; kernel_rfl)
theorem sd_tx_money : FnSound Try.prog gl 32 sg_tx_money :=
  fn_printed (G := gs_tx_money) (A := (.two .leaf (.two .leaf (.two (.two .leaf (.two (.cut 1) .leaf)) .leaf)))) (cxo_tx_money) follows Try.func32 (by kernel_rfl) (by kernel_rfl) (by kernel_rfl) (by kernel_rfl) (by kernel_rfl) (CutsOk.two (CutsOk.leaf _) (CutsOk.two (CutsOk.leaf _) (CutsOk.two (CutsOk.two (CutsOk.leaf _) (CutsOk.two (CutsOk.cut (g := B_tx_money_L1) (by kernel_rfl) (ct_tx_money_L1)) (CutsOk.leaf _))) (CutsOk.leaf _)))) (by intro v; kernel_rfl)
def sg_tx_null : Sig := mkSig [] [] [(.hole T_b85e)] [] (fun p => tx_null)
theorem fk_tx_null : FnOk Try.prog 33 := ⟨Try.f33, Try.func33, by kernel_rfl, by kernel_rfl⟩
def cx_tx_null : Cx := ⟨tys, lk [], 2, 0, [], gl⟩
theorem cxo_tx_null : CxOk Try.prog (cx_tx_null) := ⟨tys_ok, FnsOk.nil⟩
def gs_tx_null : Nat → Option Blk := lk []
theorem sd_tx_null : FnSound Try.prog gl 33 sg_tx_null :=
  fn_printed (G := gs_tx_null) (A := .leaf) (cxo_tx_null) follows Try.func33 (by kernel_rfl) (by kernel_rfl) (by kernel_rfl) (by kernel_rfl) (by kernel_rfl) (CutsOk.leaf _) (by intro v; kernel_rfl)
def sg_tx_Coinbase : Sig := mkSig [(.hole T_8f0a)] [] [(.hole .bool)] [] (fun p => tx_Coinbase p.1.1)
theorem fk_tx_Coinbase : FnOk Try.prog 34 := ⟨Try.f34, Try.func34, by kernel_rfl, by kernel_rfl⟩
def cx_tx_Coinbase : Cx := ⟨tys, lk [(33, sg_tx_null)], 16, 0, [], gl⟩
theorem cxo_tx_Coinbase : CxOk Try.prog (cx_tx_Coinbase) := ⟨tys_ok, FnsOk.cons fk_tx_null sd_tx_null (FnsOk.nil)⟩
def gs_tx_Coinbase : Nat → Option Blk := lk []
theorem sd_tx_Coinbase : FnSound Try.prog gl 34 sg_tx_Coinbase :=
  fn_printed (G := gs_tx_Coinbase) (A := .leaf) (cxo_tx_Coinbase) follows Try.func34 (by kernel_rfl) (by kernel_rfl) (by kernel_rfl) (by kernel_rfl) (by kernel_rfl) (CutsOk.leaf _) (by intro v; kernel_rfl)
def sg_tx_Check : Sig := mkSig [(.hole T_8f0a)] [] [(.hole (.int .i64))] [] (fun p => tx_Check p.1.1)
theorem fk_tx_Check : FnOk Try.prog 18 := ⟨Try.f18, Try.func18, by kernel_rfl, by kernel_rfl⟩
def cx_tx_Check : Cx := ⟨tys, lk [(34, sg_tx_Coinbase), (14, sg_tx_Encode), (32, sg_tx_money), (33, sg_tx_null)], 54, 0, [], gl⟩
theorem cxo_tx_Check : CxOk Try.prog (cx_tx_Check) := ⟨tys_ok, FnsOk.cons fk_tx_Coinbase sd_tx_Coinbase (FnsOk.cons fk_tx_Encode sd_tx_Encode (FnsOk.cons fk_tx_money sd_tx_money (FnsOk.cons fk_tx_null sd_tx_null (FnsOk.nil))))⟩
abbrev K0_tx_Check_L1 : List (Nat × Ty) := [(32, (.slice T_089d)), (33, (.int .i64))]
abbrev TM_tx_Check_L1 : Tm := ⟨[(1, (.ptr 0 [])), (5, (.mref 1)), (34, (.hole (.int .i64)))], [(.box T_8f0a (.hole T_8f0a)), (.mp T_b85e .bool)]⟩
abbrev UO_tx_Check_L1 : Outs := (.more .ret ⟨[(2, (.hole (.int .i64)))], []⟩ (.one (.exit 0) ⟨[(1, (.ptr 0 [])), (5, (.mref 1))], [(.box T_8f0a (.hole T_8f0a)), (.mp T_b85e .bool)]⟩))
def B_tx_Check_L1 : Blk := frBlk 0 [32, 33] K0_tx_Check_L1 TM_tx_Check_L1 UO_tx_Check_L1 (fun k => loopV (fun v => tx_Check_L1 k.1 k.2.1 v))
def gs_tx_Check : Nat → Option Blk := lk [(1, B_tx_Check_L1)]
theorem ct_tx_Check_L1 : CodeSound Try.prog (cx_tx_Check) (subL (subR (subL (subR (subR (subR (subR (subR (bodyOf Try.f18))))))))) (B_tx_Check_L1).D :=
  loop_printed (G := gs_tx_Check) (A := .leaf) (T0 := K0_tx_Check_L1) (T := TM_tx_Check_L1) (U := UO_tx_Check_L1) (step := (fun k v => tx_Check_L1 k.1 k.2.1 v)) (cxo_tx_Check) follows (by kernel_rfl) (by kernel_rfl) (CutsOk.leaf _) (by intro k v; kernel_rfl)
theorem sd_tx_Check : FnSound Try.prog gl 18 sg_tx_Check :=
  fn_printed (G := gs_tx_Check) (A := (.two .leaf (.two .leaf (.two .leaf (.two .leaf (.two .leaf (.two (.two .leaf (.two (.cut 1) .leaf)) .leaf))))))) (cxo_tx_Check) follows Try.func18 (by kernel_rfl) (by kernel_rfl) (by kernel_rfl) (by kernel_rfl) (by kernel_rfl) (CutsOk.two (CutsOk.leaf _) (CutsOk.two (CutsOk.leaf _) (CutsOk.two (CutsOk.leaf _) (CutsOk.two (CutsOk.leaf _) (CutsOk.two (CutsOk.leaf _) (CutsOk.two (CutsOk.two (CutsOk.leaf _) (CutsOk.two (CutsOk.cut (g := B_tx_Check_L1) (by kernel_rfl) (ct_tx_Check_L1)) (CutsOk.leaf _))) (CutsOk.leaf _))))))) (by intro v; kernel_rfl)
def sg_tx_Final : Sig := mkSig [(.hole T_8f0a), (.hole (.int .i64))] [] [(.hole .bool)] [] (fun p => tx_Final p.1.1 p.1.2.1)
theorem fk_tx_Final : FnOk Try.prog 8 := ⟨Try.f8, Try.func8, by kernel_rfl, by kernel_rfl⟩
def cx_tx_Final : Cx := ⟨tys, lk [], 28, 0, [], gl⟩
theorem cxo_tx_Final : CxOk Try.prog (cx_tx_Final) := ⟨tys_ok, FnsOk.nil⟩
abbrev K0_tx_Final_J1 : List (Nat × Ty) := [(1, (.int .i64))]
abbrev TM_tx_Final_J1 : Tm := ⟨[(2, (.ptr 0 []))], [(.box T_8f0a (.hole T_8f0a))]⟩
abbrev UO_tx_Final_J1 : Outs := (.more .ret ⟨[(4, (.hole .bool))], []⟩ (.one .normal ⟨[(2, (.ptr 0 []))], [(.box T_8f0a (.hole T_8f0a))]⟩))
def B_tx_Final_J1 : Blk := frBlk 0 [1] K0_tx_Final_J1 TM_tx_Final_J1 UO_tx_Final_J1 (fun k v => tx_Final_J1 k.1 v)
abbrev K0_tx_Final_L2 : List (Nat × Ty) := [(18, (.slice T_089d)), (19, (.int .i64))]
abbrev TM_tx_Final_L2 : Tm := ⟨[(20, (.hole (.int .i64)))], []⟩
abbrev UO_tx_Final_L2 : Outs := (.more .ret ⟨[(4, (.hole .bool))], []⟩ (.one (.exit 0) ⟨[], []⟩))
def B_tx_Final_L2 : Blk := frBlk 0 [18, 19] K0_tx_Final_L2 TM_tx_Final_L2 UO_tx_Final_L2 (fun k => loopV (fun v => tx_Final_L2 k.1 k.2.1 v))
def gs_tx_Final : Nat → Option Blk := lk [(1, B_tx_Final_J1), (2, B_tx_Final_L2)]
theorem ct_tx_Final_L2 : CodeSound Try.prog (cx_tx_Final) (subL (subR (subL (subR (subR (bodyOf Try.f8)))))) (B_tx_Final_L2).D :=
  loop_printed (G := gs_tx_Final) (A := .leaf) (T0 := K0_tx_Final_L2) (T := TM_tx_Final_L2) (U := UO_tx_Final_L2) (step := (fun k v => tx_Final_L2 k.1 k.2.1 v)) (cxo_tx_Final) follows (by kernel_rfl) (by kernel_rfl) (CutsOk.leaf _) (by intro k v; kernel_rfl)
theorem ct_tx_Final_J1 : CodeSound Try.prog (cx_tx_Final) (subL (subR (bodyOf Try.f8))) (B_tx_Final_J1).D :=
  join_sound (G := gs_tx_Final) (A := .leaf) (T0 := K0_tx_Final_J1) (T := TM_tx_Final_J1) (U := UO_tx_Final_J1) (F := (fun k v => tx_Final_J1 k.1 v)) (cxo_tx_Final) follows (by kernel_rfl) (CutsOk.leaf _) (by intro k v; kernel_rfl)
theorem sd_tx_Final : FnSound Try.prog gl 8 sg_tx_Final :=
  fn_printed (G := gs_tx_Final) (A := (.two .leaf (.two (.cut 1) (.two (.two .leaf (.two (.cut 2) .leaf)) .leaf)))) (cxo_tx_Final) follows Try.func8 (by kernel_rfl) (by kernel_rfl) (by kernel_rfl) (by kernel_rfl) (by kernel_rfl) (CutsOk.two (CutsOk.leaf _) (CutsOk.two (CutsOk.cut (g := B_tx_Final_J1) (by kernel_rfl) (ct_tx_Final_J1)) (CutsOk.two (CutsOk.two (CutsOk.leaf _) (CutsOk.two (CutsOk.cut (g := B_tx_Final_L2) (by kernel_rfl) (ct_tx_Final_L2)) (CutsOk.leaf _))) (CutsOk.leaf _)))) (by intro v; kernel_rfl)
def sg_tx_cursor_u32_1 : Sig := mkSig [(.ptr 0 [])] [(.box .ptr (.ptr 1 [])), (.box T_07e8 (.hole T_07e8))] [(.hole (.int .u32)), (.hole (.int .i64)), (.hole (.int .i64))] [(.box .ptr (.ptr 1 [])), (.box T_07e8 (.hole T_07e8))] (fun p => tx_cursor_u32_1 p.2.2.1)
theorem fk_tx_cursor_u32_1 : FnOk Try.prog 53 := ⟨Try.f53, Try.func53, by kernel_rfl, by kernel_rfl⟩
def cx_tx_cursor_u32_1 : Cx := ⟨tys, lk [(54, sg_codec_U32)], 16, 2, [], gl⟩
theorem cxo_tx_cursor_u32_1 : CxOk Try.prog (cx_tx_cursor_u32_1) := ⟨tys_ok, FnsOk.cons fk_codec_U32 sd_codec_U32 (FnsOk.nil)⟩
def gs_tx_cursor_u32_1 : Nat → Option Blk := lk []
theorem sd_tx_cursor_u32_1 : FnSound Try.prog gl 53 sg_tx_cursor_u32_1 :=
  fn_printed (G := gs_tx_cursor_u32_1) (A := .leaf) (cxo_tx_cursor_u32_1) follows Try.func53 (by kernel_rfl) (by kernel_rfl) (by kernel_rfl) (by kernel_rfl) (by kernel_rfl) (CutsOk.leaf _) (by intro v; kernel_rfl)
def sg_tx_read_uint32 : Sig := mkSig [(.ptr 0 []), (.fn 53 (.ncons (.ptr 1 []) .nnil))] [(.box T_07e8 (.hole T_07e8)), (.box .ptr (.ptr 0 []))] [(.hole (.int .u32))] [(.box T_07e8 (.hole T_07e8)), (.box .ptr (.ptr 0 []))] (fun p => tx_read_uint32 p.2.1)
theorem fk_tx_read_uint32 : FnOk Try.prog 52 := ⟨Try.f52, Try.func52, by kernel_rfl, by kernel_rfl⟩
def cx_tx_read_uint32 : Cx := ⟨tys, lk [(53, sg_tx_cursor_u32_1)], 33, 2, [], gl⟩
theorem cxo_tx_read_uint32 : CxOk Try.prog (cx_tx_read_uint32) := ⟨tys_ok, FnsOk.cons fk_tx_cursor_u32_1 sd_tx_cursor_u32_1 (FnsOk.nil)⟩
def gs_tx_read_uint32 : Nat → Option Blk := lk []
theorem sd_tx_read_uint32 : FnSound Try.prog gl 52 sg_tx_read_uint32 :=
  fn_printed (G := gs_tx_read_uint32) (A := .leaf) (cxo_tx_read_uint32) follows Try.func52 (by kernel_rfl) (by kernel_rfl) (by kernel_rfl) (by kernel_rfl) (by kernel_rfl) (CutsOk.leaf _) (by intro v; kernel_rfl)
def sg_tx_cursor_u32 : Sig := mkSig [(.ptr 0 [])] [(.box T_07e8 (.hole T_07e8))] [(.hole (.int .u32))] [(.box T_07e8 (.hole T_07e8))] (fun p => tx_cursor_u32 p.2.1)
theorem fk_tx_cursor_u32 : FnOk Try.prog 47 := ⟨Try.f47, Try.func47, by kernel_rfl, by kernel_rfl⟩
def cx_tx_cursor_u32 : Cx := ⟨tys, lk [(52, sg_tx_read_uint32)], 6, 1, [], gl⟩
theorem cxo_tx_cursor_u32 : CxOk Try.prog (cx_tx_cursor_u32) := ⟨tys_ok, FnsOk.cons fk_tx_read_uint32 sd_tx_read_uint32 (FnsOk.nil)⟩
def gs_tx_cursor_u32 : Nat → Option Blk := lk []
theorem sd_tx_cursor_u32 : FnSound Try.prog gl 47 sg_tx_cursor_u32 :=
  fn_printed (G := gs_tx_cursor_u32) (A := .leaf) (cxo_tx_cursor_u32) follows Try.func47 (by kernel_rfl) (by kernel_rfl) (by kernel_rfl) (by kernel_rfl) (by kernel_rfl) (CutsOk.leaf _) (by intro v; kernel_rfl)
def sg_tx_cursor_size_1 : Sig := mkSig [(.ptr 0 []), (.ptr 2 [])] [(.box .ptr (.ptr 1 [])), (.box T_07e8 (.hole T_07e8)), (.box (.int .i64) (.hole (.int .i64)))] [(.hole (.int .u64)), (.hole (.int .i64)), (.hole (.int .i64))] [(.box .ptr (.ptr 1 [])), (.box T_07e8 (.hole T_07e8)), (.box (.int .i64) (.hole (.int .i64)))] (fun p => tx_cursor_size_1 p.2.2.1 p.2.2.2.1)
theorem fk_tx_cursor_size_1 : FnOk Try.prog 56 := ⟨Try.f56, Try.func56, by kernel_rfl, by kernel_rfl⟩
def cx_tx_cursor_size_1 : Cx := ⟨tys, lk [(57, sg_codec_Size)], 19, 3, [], gl⟩
theorem cxo_tx_cursor_size_1 : CxOk Try.prog (cx_tx_cursor_size_1) := ⟨tys_ok, FnsOk.cons fk_codec_Size sd_codec_Size (FnsOk.nil)⟩
def gs_tx_cursor_size_1 : Nat → Option Blk := lk []
theorem sd_tx_cursor_size_1 : FnSound Try.prog gl 56 sg_tx_cursor_size_1 :=
  fn_printed (G := gs_tx_cursor_size_1) (A := .leaf) (cxo_tx_cursor_size_1) follows Try.func56 (by kernel_rfl) (by kernel_rfl) (by kernel_rfl) (by kernel_rfl) (by kernel_rfl) (CutsOk.leaf _) (by intro v; kernel_rfl)
def sg_tx_read_uint64 : Sig := mkSig [(.ptr 0 []), (.fn 56 (.ncons (.ptr 1 []) (.ncons (.ptr 2 []) .nnil)))] [(.box T_07e8 (.hole T_07e8)), (.box .ptr (.ptr 0 [])), (.box (.int .i64) (.hole (.int .i64)))] [(.hole (.int .u64))] [(.box T_07e8 (.hole T_07e8)), (.box .ptr (.ptr 0 [])), (.box (.int .i64) (.hole (.int .i64)))] (fun p => tx_read_uint64 p.2.1 p.2.2.2.1)
theorem fk_tx_read_uint64 : FnOk Try.prog 55 := ⟨Try.f55, Try.func55, by kernel_rfl, by kernel_rfl⟩
def cx_tx_read_uint64 : Cx := ⟨tys, lk [(56, sg_tx_cursor_size_1)], 33, 3, [], gl⟩
theorem cxo_tx_read_uint64 : CxOk Try.prog (cx_tx_read_uint64) := ⟨tys_ok, FnsOk.cons fk_tx_cursor_size_1 sd_tx_cursor_size_1 (FnsOk.nil)⟩
def gs_tx_read_uint64 : Nat → Option Blk := lk []
theorem sd_tx_read_uint64 : FnSound Try.prog gl 55 sg_tx_read_uint64 :=
  fn_printed (G := gs_tx_read_uint64) (A := .leaf) (cxo_tx_read_uint64) follows Try.func55 (by kernel_rfl) (by kernel_rfl) (by kernel_rfl) (by kernel_rfl) (by kernel_rfl) (CutsOk.leaf _) (by intro v; kernel_rfl)
def sg_tx_cursor_size : Sig := mkSig [(.ptr 0 []), (.hole (.int .i64))] [(.box T_07e8 (.hole T_07e8))] [(.hole (.int .i64))] [(.box T_07e8 (.hole T_07e8))] (fun p => tx_cursor_size p.1.2.1 p.2.1)
theorem fk_tx_cursor_size : FnOk Try.prog 48 := ⟨Try.f48, Try.func48, by kernel_rfl, by kernel_rfl⟩
def cx_tx_cursor_size : Cx := ⟨tys, lk [(55, sg_tx_read_uint64)], 9, 1, [], gl⟩
theorem cxo_tx_cursor_size : CxOk Try.prog (cx_tx_cursor_size) := ⟨tys_ok, FnsOk.cons fk_tx_read_uint64 sd_tx_read_uint64 (FnsOk.nil)⟩
def gs_tx_cursor_size : Nat → Option Blk := lk []
theorem sd_tx_cursor_size : FnSound Try.prog gl 48 sg_tx_cursor_size :=
  fn_printed (G := gs_tx_cursor_size) (A := .leaf) (cxo_tx_cursor_size) follows Try.func48 (by kernel_rfl) (by kernel_rfl) (by kernel_rfl) (by kernel_rfl) (by kernel_rfl) (CutsOk.leaf _) (by intro v; kernel_rfl)
def sg_tx_cursor_u32_1_a : Sig := mkSig [(.ptr 0 [])] [(.box .ptr (.ptr 1 [])), (.box T_07e8 (.ncons (.own 2) (.hole (.cons (.int .i64) (.cons (.int .i64) .nil))))), (.vec (.int .u8))] [(.hole (.int .u32)), (.hole (.int .i64)), (.hole (.int .i64))] [(.box .ptr (.ptr 1 [])), (.box T_07e8 (.ncons (.own 3) (.hole (.cons (.int .i64) (.cons (.int .i64) .nil))))), .dead, (.vec (.int .u8))] (fun p => tx_cursor_u32_1_a p.2.2.1.2 p.2.2.2.1)
theorem fk_tx_cursor_u32_1_a : FnOk Try.prog 53 := ⟨Try.f53, Try.func53, by kernel_rfl, by kernel_rfl⟩
def cx_tx_cursor_u32_1_a : Cx := ⟨tys, lk [(54, sg_codec_U32)], 16, 3, [], gl⟩
theorem cxo_tx_cursor_u32_1_a : CxOk Try.prog (cx_tx_cursor_u32_1_a) := ⟨tys_ok, FnsOk.cons fk_codec_U32 sd_codec_U32 (FnsOk.nil)⟩
def gs_tx_cursor_u32_1_a : Nat → Option Blk := lk []
theorem sd_tx_cursor_u32_1_a : FnSound Try.prog gl 53 sg_tx_cursor_u32_1_a :=
  fn_printed (G := gs_tx_cursor_u32_1_a) (A := .leaf) (cxo_tx_cursor_u32_1_a) follows Try.func53 (by kernel_rfl) (by kernel_rfl) (by kernel_rfl) (by kernel_rfl) (by kernel_rfl) (CutsOk.leaf _) (by intro v; kernel_rfl)
def sg_tx_read_uint32_a : Sig := mkSig [(.ptr 0 []), (.fn 53 (.ncons (.ptr 2 []) .nnil))] [(.box T_07e8 (.ncons (.own 1) (.hole (.cons (.int .i64) (.cons (.int .i64) .nil))))), (.vec (.int .u8)), (.box .ptr (.ptr 0 []))] [(.hole (.int .u32))] [(.box T_07e8 (.ncons (.own 3) (.hole (.cons (.int .i64) (.cons (.int .i64) .nil))))), .dead, (.box .ptr (.ptr 0 [])), (.vec (.int .u8))] (fun p => tx_read_uint32_a p.2.1.2 p.2.2.1)
theorem fk_tx_read_uint32_a : FnOk Try.prog 52 := ⟨Try.f52, Try.func52, by kernel_rfl, by kernel_rfl⟩
def cx_tx_read_uint32_a : Cx := ⟨tys, lk [(53, sg_tx_cursor_u32_1_a)], 33, 3, [], gl⟩
theorem cxo_tx_read_uint32_a : CxOk Try.prog (cx_tx_read_uint32_a) := ⟨tys_ok, FnsOk.cons fk_tx_cursor_u32_1_a sd_tx_cursor_u32_1_a (FnsOk.nil)⟩
def gs_tx_read_uint32_a : Nat → Option Blk := lk []
theorem sd_tx_read_uint32_a : FnSound Try.prog gl 52 sg_tx_read_uint32_a :=
  fn_printed (G := gs_tx_read_uint32_a) (A := .leaf) (cxo_tx_read_uint32_a) follows Try.func52 (by kernel_rfl) (by kernel_rfl) (by kernel_rfl) (by kernel_rfl) (by kernel_rfl) (CutsOk.leaf _) (by intro v; kernel_rfl)
def sg_tx_cursor_u32_a : Sig := mkSig [(.ptr 0 [])] [(.box T_07e8 (.ncons (.own 1) (.hole (.cons (.int .i64) (.cons (.int .i64) .nil))))), (.vec (.int .u8))] [(.hole (.int .u32))] [(.box T_07e8 (.ncons (.own 2) (.hole (.cons (.int .i64) (.cons (.int .i64) .nil))))), .dead, (.vec (.int .u8))] (fun p => tx_cursor_u32_a p.2.1.2 p.2.2.1)
theorem fk_tx_cursor_u32_a : FnOk Try.prog 47 := ⟨Try.f47, Try.func47, by kernel_rfl, by kernel_rfl⟩
def cx_tx_cursor_u32_a : Cx := ⟨tys, lk [(52, sg_tx_read_uint32_a)], 6, 2, [], gl⟩
theorem cxo_tx_cursor_u32_a : CxOk Try.prog (cx_tx_cursor_u32_a) := ⟨tys_ok, FnsOk.cons fk_tx_read_uint32_a sd_tx_read_uint32_a (FnsOk.nil)⟩
def gs_tx_cursor_u32_a : Nat → Option Blk := lk []
theorem sd_tx_cursor_u32_a : FnSound Try.prog gl 47 sg_tx_cursor_u32_a :=
  fn_printed (G := gs_tx_cursor_u32_a) (A := .leaf) (cxo_tx_cursor_u32_a) follows Try.func47 (by kernel_rfl) (by kernel_rfl) (by kernel_rfl) (by kernel_rfl) (by kernel_rfl) (CutsOk.leaf _) (by intro v; kernel_rfl)
def sg_tx_cursor_size_1_a : Sig := mkSig [(.ptr 0 []), (.ptr 3 [])] [(.box .ptr (.ptr 1 [])), (.box T_07e8 (.ncons (.own 2) (.hole (.cons (.int .i64) (.cons (.int .i64) .nil))))), (.vec (.int .u8)), (.box (.int .i64) (.hole (.int .i64)))] [(.hole (.int .u64)), (.hole (.int .i64)), (.hole (.int .i64))] [(.box .ptr (.ptr 1 [])), (.box T_07e8 (.ncons (.own 4) (.hole (.cons (.int .i64) (.cons (.int .i64) .nil))))), .dead, (.box (.int .i64) (.hole (.int .i64))), (.vec (.int .u8))] (fun p => tx_cursor_size_1_a p.2.2.1.2 p.2.2.2.1 p.2.2.2.2.1)
theorem fk_tx_cursor_size_1_a : FnOk Try.prog 56 := ⟨Try.f56, Try.func56, by kernel_rfl, by kernel_rfl⟩
def cx_tx_cursor_size_1_a : Cx := ⟨tys, lk [(57, sg_codec_Size)], 19, 4, [], gl⟩
theorem cxo_tx_cursor_size_1_a : CxOk Try.prog (cx_tx_cursor_size_1_a) := ⟨tys_ok, FnsOk.cons fk_codec_Size sd_codec_Size (FnsOk.nil)⟩
def gs_tx_cursor_size_1_a : Nat → Option Blk := lk []
theorem sd_tx_cursor_size_1_a : FnSound Try.prog gl 56 sg_tx_cursor_size_1_a :=
  fn_printed (G := gs_tx_cursor_size_1_a) (A := .leaf) (cxo_tx_cursor_size_1_a) follows Try.func56 (by kernel_rfl) (by kernel_rfl) (by kernel_rfl) (by kernel_rfl) (by kernel_rfl) (CutsOk.leaf _) (by intro v; kernel_rfl)
def sg_tx_read_uint64_a : Sig := mkSig [(.ptr 0 []), (.fn 56 (.ncons (.ptr 2 []) (.ncons (.ptr 3 []) .nnil)))] [(.box T_07e8 (.ncons (.own 1) (.hole (.cons (.int .i64) (.cons (.int .i64) .nil))))), (.vec (.int .u8)), (.box .ptr (.ptr 0 [])), (.box (.int .i64) (.hole (.int .i64)))] [(.hole (.int .u64))] [(.box T_07e8 (.ncons (.own 4) (.hole (.cons (.int .i64) (.cons (.int .i64) .nil))))), .dead, (.box .ptr (.ptr 0 [])), (.box (.int .i64) (.hole (.int .i64))), (.vec (.int .u8))] (fun p => tx_read_uint64_a p.2.1.2 p.2.2.1 p.2.2.2.2.1)
theorem fk_tx_read_uint64_a : FnOk Try.prog 55 := ⟨Try.f55, Try.func55, by kernel_rfl, by kernel_rfl⟩
def cx_tx_read_uint64_a : Cx := ⟨tys, lk [(56, sg_tx_cursor_size_1_a)], 33, 4, [], gl⟩
theorem cxo_tx_read_uint64_a : CxOk Try.prog (cx_tx_read_uint64_a) := ⟨tys_ok, FnsOk.cons fk_tx_cursor_size_1_a sd_tx_cursor_size_1_a (FnsOk.nil)⟩
def gs_tx_read_uint64_a : Nat → Option Blk := lk []
theorem sd_tx_read_uint64_a : FnSound Try.prog gl 55 sg_tx_read_uint64_a :=
  fn_printed (G := gs_tx_read_uint64_a) (A := .leaf) (cxo_tx_read_uint64_a) follows Try.func55 (by kernel_rfl) (by kernel_rfl) (by kernel_rfl) (by kernel_rfl) (by kernel_rfl) (CutsOk.leaf _) (by intro v; kernel_rfl)
def sg_tx_cursor_size_a : Sig := mkSig [(.ptr 0 []), (.hole (.int .i64))] [(.box T_07e8 (.ncons (.own 1) (.hole (.cons (.int .i64) (.cons (.int .i64) .nil))))), (.vec (.int .u8))] [(.hole (.int .i64))] [(.box T_07e8 (.ncons (.own 2) (.hole (.cons (.int .i64) (.cons (.int .i64) .nil))))), .dead, (.vec (.int .u8))] (fun p => tx_cursor_size_a p.1.2.1 p.2.1.2 p.2.2.1)
theorem fk_tx_cursor_size_a : FnOk Try.prog 48 := ⟨Try.f48, Try.func48, by kernel_rfl, by kernel_rfl⟩
def cx_tx_cursor_size_a : Cx := ⟨tys, lk [(55, sg_tx_read_uint64_a)], 9, 2, [], gl⟩
theorem cxo_tx_cursor_size_a : CxOk Try.prog (cx_tx_cursor_size_a) := ⟨tys_ok, FnsOk.cons fk_tx_read_uint64_a sd_tx_read_uint64_a (FnsOk.nil)⟩
def gs_tx_cursor_size_a : Nat → Option Blk := lk []
theorem sd_tx_cursor_size_a : FnSound Try.prog gl 48 sg_tx_cursor_size_a :=
  fn_printed (G := gs_tx_cursor_size_a) (A := .leaf) (cxo_tx_cursor_size_a) follows Try.func48 (by kernel_rfl) (by kernel_rfl) (by kernel_rfl) (by kernel_rfl) (by kernel_rfl) (CutsOk.leaf _) (by intro v; kernel_rfl)
end Go.PE.Ythfkhjnomjpaoaa
end
end

section
set_option maxRecDepth 100000
set_option linter.unusedVariables false
noncomputable section
namespace Go.PE.Ythfkhjnomjpaoaa
open Go.PE Go.Proofs

def sg_law09_sane : Sig := mkSig [] [] [(.hole .bool)] [] (fun p => law09_sane)
theorem fk_law09_sane : FnOk Try.prog 6 := ⟨Try.f6, Try.func6, by kernel_rfl, by kernel_rfl⟩
def cx_law09_sane : Cx := ⟨tys, lk [(18, sg_tx_Check), (14, sg_tx_Encode), (17, sg_tx_Weight)], 36, 0, [], gl⟩
theorem cxo_law09_sane : CxOk Try.prog (cx_law09_sane) := ⟨tys_ok, FnsOk.cons fk_tx_Check sd_tx_Check (FnsOk.cons fk_tx_Encode sd_tx_Encode (FnsOk.cons fk_tx_Weight sd_tx_Weight (FnsOk.nil)))⟩
def gs_law09_sane : Nat → Option Blk := lk []
theorem sd_law09_sane : FnSound Try.prog gl 6 sg_law09_sane :=
  fn_printed (G := gs_law09_sane) (A := .leaf) (cxo_law09_sane) follows Try.func6 (by kernel_rfl) (by kernel_rfl) (by kernel_rfl) (by kernel_rfl) (by kernel_rfl) (CutsOk.leaf _) (by intro v; kernel_rfl)
def sg_law09_TxLater : Sig := mkSig [(.hole T_8f0a), (.hole (.int .u32)), (.hole (.int .u32))] [] [(.hole .bool)] [] (fun p => law09_TxLater p.1.1 p.1.2.1 p.1.2.2.1)
theorem fk_law09_TxLater : FnOk Try.prog 3 := ⟨Try.f3, Try.func3, by kernel_rfl, by kernel_rfl⟩
def cx_law09_TxLater : Cx := ⟨tys, lk [(7, sg_keep_Tx), (6, sg_law09_sane), (8, sg_tx_Final)], 28, 0, [], gl⟩
theorem cxo_law09_TxLater : CxOk Try.prog (cx_law09_TxLater) := ⟨tys_ok, FnsOk.cons fk_keep_Tx sd_keep_Tx (FnsOk.cons fk_law09_sane sd_law09_sane (FnsOk.cons fk_tx_Final sd_tx_Final (FnsOk.nil)))⟩
def gs_law09_TxLater : Nat → Option Blk := lk []
theorem sd_law09_TxLater : FnSound Try.prog gl 3 sg_law09_TxLater :=
  fn_printed (G := gs_law09_TxLater) (A := .leaf) (cxo_law09_TxLater) follows Try.func3 (by kernel_rfl) (by kernel_rfl) (by kernel_rfl) (by kernel_rfl) (by kernel_rfl) (CutsOk.leaf _) (by intro v; kernel_rfl)
end Go.PE.Ythfkhjnomjpaoaa
end
end
