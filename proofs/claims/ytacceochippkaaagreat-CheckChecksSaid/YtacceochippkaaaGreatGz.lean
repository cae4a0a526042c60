/- Printed by a program of the prover: the functions that the law reaches, as functions in Lean, and that the model does what they say. No condition. -/
import Derived.Test.YtacceochippkaaaGreatGfa
import Derived.Test.YtacceochippkaaaGreatGfb
import Derived.Test.YtacceochippkaaaGreatGfc
import Derived.Test.YtacceochippkaaaGreatGfd
set_option linter.all false
set_option maxRecDepth 100000
set_option maxHeartbeats 8000000
namespace Go.RX
open Go.Proofs
theorem e4_0 : CallOK Tryz.prog 4 (E4 (TT 0)) := ents_cons (fun _ _ => False.elim) ents_nil
theorem e4_s (k : Nat) (hC : HC (TT k)) : CallOK Tryz.prog 4 (E4 (TT (k + 1))) := ents_cons (c_check_Check (TT k) hC) ents_nil
theorem e8_0 : CallOK Tryz.prog 8 (E8 (TT 0)) := ents_cons (fun _ _ => False.elim) ents_nil
theorem e8_s (k : Nat) (hC : HC (TT k)) : CallOK Tryz.prog 8 (E8 (TT (k + 1))) := ents_cons (c_check_begun (TT k) hC) ents_nil
theorem e21_0 : CallOK Tryz.prog 21 (E21 (TT 0)) := ents_cons (fun _ _ => False.elim) ents_nil
theorem e21_s (k : Nat) (hC : HC (TT k)) : CallOK Tryz.prog 21 (E21 (TT (k + 1))) := ents_cons (c_catalog_Right (TT k) hC) ents_nil
theorem e47_0 : CallOK Tryz.prog 47 (E47 (TT 0)) := ents_cons (fun _ _ => False.elim) ents_nil
theorem e47_s (k : Nat) (hC : HC (TT k)) : CallOK Tryz.prog 47 (E47 (TT (k + 1))) := ents_cons (c_catalog_met (TT k) hC) ents_nil
theorem e48_0 : CallOK Tryz.prog 48 (E48 (TT 0)) := ents_cons (fun _ _ => False.elim) ents_nil
theorem e48_s (k : Nat) (hC : HC (TT k)) : CallOK Tryz.prog 48 (E48 (TT (k + 1))) := ents_cons (c_catalog_mayTable (TT k) hC) ents_nil
theorem e81_0 : CallOK Tryz.prog 81 (E81 (TT 0)) := ents_cons (fun _ _ => False.elim) ents_nil
theorem e81_s (k : Nat) (hC : HC (TT k)) : CallOK Tryz.prog 81 (E81 (TT (k + 1))) := ents_cons (c_catalog_named (TT k) hC) ents_nil
theorem e102_0 : CallOK Tryz.prog 102 (E102 (TT 0)) := ents_cons (fun _ _ => False.elim) ents_nil
theorem e102_s (k : Nat) (hC : HC (TT k)) : CallOK Tryz.prog 102 (E102 (TT (k + 1))) := ents_cons (c_strings_CF (TT k) hC) ents_nil
theorem e111_0 : CallOK Tryz.prog 111 (E111 (TT 0)) := ents_cons (fun _ _ => False.elim) ents_nil
theorem e111_s (k : Nat) (hC : HC (TT k)) : CallOK Tryz.prog 111 (E111 (TT (k + 1))) := ents_cons (c_strings_IF (TT k) hC) ents_nil
theorem e116_0 : CallOK Tryz.prog 116 (E116 (TT 0)) := ents_cons (fun _ _ => False.elim) ents_nil
theorem e116_s (k : Nat) (hC : HC (TT k)) : CallOK Tryz.prog 116 (E116 (TT (k + 1))) := ents_cons (c_strings_indexFunc (TT k) hC) ents_nil
theorem e103_0 : CallOK Tryz.prog 103 (E103 (TT 0)) := ents_cons (fun _ _ => False.elim) ents_nil
theorem e103_s (k : Nat) (hC : HC (TT k)) : CallOK Tryz.prog 103 (E103 (TT (k + 1))) := ents_cons (c_catalog_named_1 (TT k) hC) ents_nil
theorem e80_0 : CallOK Tryz.prog 80 (E80 (TT 0)) := ents_cons (fun _ _ => False.elim) ents_nil
theorem e80_s (k : Nat) (hC : HC (TT k)) : CallOK Tryz.prog 80 (E80 (TT (k + 1))) := ents_cons (c_catalog_met_1 (TT k) hC) ents_nil
theorem e82_0 : CallOK Tryz.prog 82 (E82 (TT 0)) := ents_cons (fun _ _ => False.elim) ents_nil
theorem e82_s (k : Nat) (hC : HC (TT k)) : CallOK Tryz.prog 82 (E82 (TT (k + 1))) := ents_cons (c_catalog_typed (TT k) hC) ents_nil
theorem e83_0 : CallOK Tryz.prog 83 (E83 (TT 0)) := ents_cons (fun _ _ => False.elim) ents_nil
theorem e83_s (k : Nat) (hC : HC (TT k)) : CallOK Tryz.prog 83 (E83 (TT (k + 1))) := ents_cons (c_catalog_places (TT k) hC) ents_nil
theorem e84_0 : CallOK Tryz.prog 84 (E84 (TT 0)) := ents_cons (fun _ _ => False.elim) ents_nil
theorem e84_s (k : Nat) (hC : HC (TT k)) : CallOK Tryz.prog 84 (E84 (TT (k + 1))) := ents_cons (c_sl_Contains_int_int (TT k) hC) ents_nil
theorem e104_0 : CallOK Tryz.prog 104 (E104 (TT 0)) := ents_cons (fun _ _ => False.elim) ents_nil
theorem e104_s (k : Nat) (hC : HC (TT k)) : CallOK Tryz.prog 104 (E104 (TT (k + 1))) := ents_cons (c_sl_Index_int_int (TT k) hC) ents_nil
theorem e49_0 : CallOK Tryz.prog 49 (E49 (TT 0)) := ents_cons (fun _ _ => False.elim) ents_nil
theorem e49_s (k : Nat) (hC : HC (TT k)) : CallOK Tryz.prog 49 (E49 (TT (k + 1))) := ents_cons (c_catalog_mayProc (TT k) hC) ents_nil
theorem e85_0 : CallOK Tryz.prog 85 (E85 (TT 0)) := ents_cons (fun _ _ => False.elim) ents_nil
theorem e85_s (k : Nat) (hC : HC (TT k)) : CallOK Tryz.prog 85 (E85 (TT (k + 1))) := ents_cons (c_sl_CF_string_string (TT k) hC) ents_nil
theorem e105_0 : CallOK Tryz.prog 105 (E105 (TT 0)) := ents_cons (fun _ _ => False.elim) ents_nil
theorem e105_s (k : Nat) (hC : HC (TT k)) : CallOK Tryz.prog 105 (E105 (TT (k + 1))) := ents_cons (c_sl_IF_string_string (TT k) hC) ents_nil
theorem e86_0 : CallOK Tryz.prog 86 (E86 (TT 0)) := ents_cons (fun _ _ => False.elim) ents_nil
theorem e86_s (k : Nat) (hC : HC (TT k)) : CallOK Tryz.prog 86 (E86 (TT (k + 1))) := ents_cons (c_catalog_mayProc_1 (TT k) hC) ents_nil
theorem e22_0 : CallOK Tryz.prog 22 (E22 (TT 0)) := ents_cons (fun _ _ => False.elim) ents_nil
theorem e22_s (k : Nat) (hC : HC (TT k)) : CallOK Tryz.prog 22 (E22 (TT (k + 1))) := ents_cons (c_check_rightParams (TT k) hC) ents_nil
theorem e23_0 : CallOK Tryz.prog 23 (E23 (TT 0)) := ents_cons (fun _ _ => False.elim) ents_nil
theorem e23_s (k : Nat) (hC : HC (TT k)) : CallOK Tryz.prog 23 (E23 (TT (k + 1))) := ents_cons (c_lex_IsName (TT k) hC) ents_nil
theorem e50_0 : CallOK Tryz.prog 50 (E50 (TT 0)) := ents_cons (fun _ _ => False.elim) ents_nil
theorem e50_s (k : Nat) (hC : HC (TT k)) : CallOK Tryz.prog 50 (E50 (TT (k + 1))) := ents_cons (c_lex_classOf (TT k) hC) ents_nil
theorem e87_0 : CallOK Tryz.prog 87 (E87 (TT 0)) := ents_cons (fun _ _ => False.elim) ents_nil
theorem e87_s (k : Nat) (hC : HC (TT k)) : CallOK Tryz.prog 87 (E87 (TT (k + 1))) := ents_cons (c_strings_IndexByte (TT k) hC) ents_nil
theorem e106_0 : CallOK Tryz.prog 106 (E106 (TT 0)) := ents_cons (fun _ _ => False.elim) ents_nil
theorem e106_s (k : Nat) (hC : HC (TT k)) : CallOK Tryz.prog 106 (E106 (TT (k + 1))) := ents_cons (c_internal_stringslite_IndexByte (TT k) hC) ents_nil
theorem c_internal_bytealg_IndexByteString (T : Tab) (hC : HC T) : RunOK Tryz.prog 112 ⟨_, P_internal_bytealg_IndexByteString, H_internal_bytealg_IndexByteString (F_internal_bytealg_IndexByteString T)⟩ := fun p K h => (idx_ok fn112 (by kernel_rfl) (by kernel_rfl) (by kernel_rfl)) (P_internal_bytealg_IndexByteString.put p).1 (P_internal_bytealg_IndexByteString.put p).2 K h
theorem e112_0 : CallOK Tryz.prog 112 (E112 (TT 0)) := ents_cons (fun _ _ => False.elim) ents_nil
theorem e112_s (k : Nat) (hC : HC (TT k)) : CallOK Tryz.prog 112 (E112 (TT (k + 1))) := ents_cons (c_internal_bytealg_IndexByteString (TT k) hC) ents_nil
theorem e9_0 : CallOK Tryz.prog 9 (E9 (TT 0)) := ents_cons (fun _ _ => False.elim) ents_nil
theorem e9_s (k : Nat) (hC : HC (TT k)) : CallOK Tryz.prog 9 (E9 (TT (k + 1))) := ents_cons (c_syntax_Right (TT k) hC) ents_nil
theorem e24_0 : CallOK Tryz.prog 24 (E24 (TT 0)) := ents_cons (fun _ _ => False.elim) ents_nil
theorem e24_s (k : Nat) (hC : HC (TT k)) : CallOK Tryz.prog 24 (E24 (TT (k + 1))) := ents_cons (c_syntax_rights (TT k) hC) ents_nil
theorem e51_0 : CallOK Tryz.prog 51 (E51 (TT 0)) := ents_cons (fun _ _ => False.elim) (ents_cons (fun _ _ => False.elim) ents_nil)
theorem e51_s (k : Nat) (hC : HC (TT k)) : CallOK Tryz.prog 51 (E51 (TT (k + 1))) := ents_cons (c_sl_CF_i_Expr_i_Expr (TT k) hC) (ents_cons (c_sl_CF_i_Expr_i_Expr_v1 (TT k) hC) ents_nil)
theorem e88_0 : CallOK Tryz.prog 88 (E88 (TT 0)) := ents_cons (fun _ _ => False.elim) (ents_cons (fun _ _ => False.elim) ents_nil)
theorem e88_s (k : Nat) (hC : HC (TT k)) : CallOK Tryz.prog 88 (E88 (TT (k + 1))) := ents_cons (c_sl_IF_i_Expr_i_Expr (TT k) hC) (ents_cons (c_sl_IF_i_Expr_i_Expr_v1 (TT k) hC) ents_nil)
theorem e52_0 : CallOK Tryz.prog 52 (E52 (TT 0)) := ents_cons (fun _ _ => False.elim) ents_nil
theorem e52_s (k : Nat) (hC : HC (TT k)) : CallOK Tryz.prog 52 (E52 (TT (k + 1))) := ents_cons (c_syntax_rights_1 (TT k) hC) ents_nil
theorem e53_0 : CallOK Tryz.prog 53 (E53 (TT 0)) := ents_cons (fun _ _ => False.elim) ents_nil
theorem e53_s (k : Nat) (hC : HC (TT k)) : CallOK Tryz.prog 53 (E53 (TT (k + 1))) := ents_cons (c_syntax_rightExpr (TT k) hC) ents_nil
theorem e89_0 : CallOK Tryz.prog 89 (E89 (TT 0)) := ents_cons (fun _ _ => False.elim) ents_nil
theorem e89_s (k : Nat) (hC : HC (TT k)) : CallOK Tryz.prog 89 (E89 (TT (k + 1))) := ents_cons (c_syntax_shape (TT k) hC) ents_nil
theorem e90_0 : CallOK Tryz.prog 90 (E90 (TT 0)) := ents_cons (fun _ _ => False.elim) ents_nil
theorem e90_s (k : Nat) (hC : HC (TT k)) : CallOK Tryz.prog 90 (E90 (TT (k + 1))) := ents_cons (c_syntax_fields (TT k) hC) ents_nil
theorem e107_0 : CallOK Tryz.prog 107 (E107 (TT 0)) := ents_cons (fun _ _ => False.elim) ents_nil
theorem e107_s (k : Nat) (hC : HC (TT k)) : CallOK Tryz.prog 107 (E107 (TT (k + 1))) := ents_cons (c_value_Right (TT k) hC) ents_nil
theorem e91_0 : CallOK Tryz.prog 91 (E91 (TT 0)) := ents_cons (fun _ _ => False.elim) ents_nil
theorem e91_s (k : Nat) (hC : HC (TT k)) : CallOK Tryz.prog 91 (E91 (TT (k + 1))) := ents_cons (c_syntax_rightExpr_1 (TT k) hC) ents_nil
theorem e25_0 : CallOK Tryz.prog 25 (E25 (TT 0)) := ents_cons (fun _ _ => False.elim) ents_nil
theorem e25_s (k : Nat) (hC : HC (TT k)) : CallOK Tryz.prog 25 (E25 (TT (k + 1))) := ents_cons (c_syntax_rightSelect (TT k) hC) ents_nil
theorem e54_0 : CallOK Tryz.prog 54 (E54 (TT 0)) := ents_cons (fun _ _ => False.elim) ents_nil
theorem e54_s (k : Nat) (hC : HC (TT k)) : CallOK Tryz.prog 54 (E54 (TT (k + 1))) := ents_cons (c_syntax_rightItem (TT k) hC) ents_nil
theorem e55_0 : CallOK Tryz.prog 55 (E55 (TT 0)) := ents_cons (fun _ _ => False.elim) ents_nil
theorem e55_s (k : Nat) (hC : HC (TT k)) : CallOK Tryz.prog 55 (E55 (TT (k + 1))) := ents_cons (c_syntax_within (TT k) hC) ents_nil
theorem e56_0 : CallOK Tryz.prog 56 (E56 (TT 0)) := ents_cons (fun _ _ => False.elim) ents_nil
theorem e56_s (k : Nat) (hC : HC (TT k)) : CallOK Tryz.prog 56 (E56 (TT (k + 1))) := ents_cons (c_sl_CF_int_int (TT k) hC) ents_nil
theorem e92_0 : CallOK Tryz.prog 92 (E92 (TT 0)) := ents_cons (fun _ _ => False.elim) ents_nil
theorem e92_s (k : Nat) (hC : HC (TT k)) : CallOK Tryz.prog 92 (E92 (TT (k + 1))) := ents_cons (c_sl_IF_int_int (TT k) hC) ents_nil
theorem e57_0 : CallOK Tryz.prog 57 (E57 (TT 0)) := ents_cons (fun _ _ => False.elim) ents_nil
theorem e57_s (k : Nat) (hC : HC (TT k)) : CallOK Tryz.prog 57 (E57 (TT (k + 1))) := ents_cons (c_syntax_rightSelect_1 (TT k) hC) ents_nil
theorem e26_0 : CallOK Tryz.prog 26 (E26 (TT 0)) := ents_cons (fun _ _ => False.elim) ents_nil
theorem e26_s (k : Nat) (hC : HC (TT k)) : CallOK Tryz.prog 26 (E26 (TT (k + 1))) := ents_cons (c_syntax_rightSets (TT k) hC) ents_nil
theorem e58_0 : CallOK Tryz.prog 58 (E58 (TT 0)) := ents_cons (fun _ _ => False.elim) ents_nil
theorem e58_s (k : Nat) (hC : HC (TT k)) : CallOK Tryz.prog 58 (E58 (TT (k + 1))) := ents_cons (c_sl_CF_i_Set_i_Set (TT k) hC) ents_nil
theorem e93_0 : CallOK Tryz.prog 93 (E93 (TT 0)) := ents_cons (fun _ _ => False.elim) ents_nil
theorem e93_s (k : Nat) (hC : HC (TT k)) : CallOK Tryz.prog 93 (E93 (TT (k + 1))) := ents_cons (c_sl_IF_i_Set_i_Set (TT k) hC) ents_nil
theorem e59_0 : CallOK Tryz.prog 59 (E59 (TT 0)) := ents_cons (fun _ _ => False.elim) ents_nil
theorem e59_s (k : Nat) (hC : HC (TT k)) : CallOK Tryz.prog 59 (E59 (TT (k + 1))) := ents_cons (c_syntax_rightSets_1 (TT k) hC) ents_nil
theorem e10_0 : CallOK Tryz.prog 10 (E10 (TT 0)) := ents_cons (fun _ _ => False.elim) ents_nil
theorem e10_s (k : Nat) (hC : HC (TT k)) : CallOK Tryz.prog 10 (E10 (TT (k + 1))) := ents_cons (c_cc_statement (TT k) hC) ents_nil
theorem e27_0 : CallOK Tryz.prog 27 (E27 (TT 0)) := ents_cons (fun _ _ => False.elim) ents_nil
theorem e27_s (k : Nat) (hC : HC (TT k)) : CallOK Tryz.prog 27 (E27 (TT (k + 1))) := ents_cons (c_cc_names (TT k) hC) ents_nil
theorem e60_0 : CallOK Tryz.prog 60 (E60 (TT 0)) := ents_cons (fun _ _ => False.elim) ents_nil
theorem e60_s (k : Nat) (hC : HC (TT k)) : CallOK Tryz.prog 60 (E60 (TT (k + 1))) := ents_cons (c_check_tableOf (TT k) hC) ents_nil
theorem e61_0 : CallOK Tryz.prog 61 (E61 (TT 0)) := ents_cons (fun _ _ => False.elim) ents_nil
theorem e61_s (k : Nat) (hC : HC (TT k)) : CallOK Tryz.prog 61 (E61 (TT (k + 1))) := ents_cons (c_cc_fails (TT k) hC) ents_nil
theorem e28_0 : CallOK Tryz.prog 28 (E28 (TT 0)) := ents_cons (fun _ _ => False.elim) ents_nil
theorem e28_s (k : Nat) (hC : HC (TT k)) : CallOK Tryz.prog 28 (E28 (TT (k + 1))) := ents_cons (c_cc_open (TT k) hC) ents_nil
theorem e29_0 : CallOK Tryz.prog 29 (E29 (TT 0)) := ents_cons (fun _ _ => False.elim) ents_nil
theorem e29_s (k : Nat) (hC : HC (TT k)) : CallOK Tryz.prog 29 (E29 (TT (k + 1))) := ents_cons (c_cc_truths (TT k) hC) ents_nil
theorem e62_0 : CallOK Tryz.prog 62 (E62 (TT 0)) := ents_cons (fun _ _ => False.elim) ents_nil
theorem e62_s (k : Nat) (hC : HC (TT k)) : CallOK Tryz.prog 62 (E62 (TT (k + 1))) := ents_cons (c_cc_of (TT k) hC) ents_nil
theorem e94_0 : CallOK Tryz.prog 94 (E94 (TT 0)) := ents_cons (fun _ _ => False.elim) ents_nil
theorem e94_s (k : Nat) (hC : HC (TT k)) : CallOK Tryz.prog 94 (E94 (TT (k + 1))) := ents_cons (c_cc_of_1 (TT k) hC) ents_nil
theorem e95_0 : CallOK Tryz.prog 95 (E95 (TT 0)) := ents_cons (fun _ _ => False.elim) ents_nil
theorem e95_s (k : Nat) (hC : HC (TT k)) : CallOK Tryz.prog 95 (E95 (TT (k + 1))) := ents_cons (c_cc_term (TT k) hC) ents_nil
theorem e108_0 : CallOK Tryz.prog 108 (E108 (TT 0)) := ents_cons (fun _ _ => False.elim) ents_nil
theorem e108_s (k : Nat) (hC : HC (TT k)) : CallOK Tryz.prog 108 (E108 (TT (k + 1))) := ents_cons (c_check_wanted (TT k) hC) ents_nil
theorem e113_0 : CallOK Tryz.prog 113 (E113 (TT 0)) := ents_cons (fun _ _ => False.elim) ents_nil
theorem e113_s (k : Nat) (hC : HC (TT k)) : CallOK Tryz.prog 113 (E113 (TT (k + 1))) := ents_cons (c_check_wanted_1 (TT k) hC) ents_nil
theorem e114_0 : CallOK Tryz.prog 114 (E114 (TT 0)) := ents_cons (fun _ _ => False.elim) ents_nil
theorem e114_s (k : Nat) (hC : HC (TT k)) : CallOK Tryz.prog 114 (E114 (TT (k + 1))) := ents_cons (c_check_wanted_1_1 (TT k) hC) ents_nil
theorem e109_0 : CallOK Tryz.prog 109 (E109 (TT 0)) := ents_cons (fun _ _ => False.elim) ents_nil
theorem e109_s (k : Nat) (hC : HC (TT k)) : CallOK Tryz.prog 109 (E109 (TT (k + 1))) := ents_cons (c_check_unlike (TT k) hC) ents_nil
theorem e110_0 : CallOK Tryz.prog 110 (E110 (TT 0)) := ents_cons (fun _ _ => False.elim) ents_nil
theorem e110_s (k : Nat) (hC : HC (TT k)) : CallOK Tryz.prog 110 (E110 (TT (k + 1))) := ents_cons (c_check_typeOf (TT k) hC) ents_nil
theorem e115_0 : CallOK Tryz.prog 115 (E115 (TT 0)) := ents_cons (fun _ _ => False.elim) ents_nil
theorem e115_s (k : Nat) (hC : HC (TT k)) : CallOK Tryz.prog 115 (E115 (TT (k + 1))) := ents_cons (c_check_wanted_2 (TT k) hC) ents_nil
theorem e30_0 : CallOK Tryz.prog 30 (E30 (TT 0)) := ents_cons (fun _ _ => False.elim) ents_nil
theorem e30_s (k : Nat) (hC : HC (TT k)) : CallOK Tryz.prog 30 (E30 (TT (k + 1))) := ents_cons (c_cc_insert (TT k) hC) ents_nil
theorem e31_0 : CallOK Tryz.prog 31 (E31 (TT 0)) := ents_cons (fun _ _ => False.elim) ents_nil
theorem e31_s (k : Nat) (hC : HC (TT k)) : CallOK Tryz.prog 31 (E31 (TT (k + 1))) := ents_cons (c_cc_update (TT k) hC) ents_nil
theorem e63_0 : CallOK Tryz.prog 63 (E63 (TT 0)) := ents_cons (fun _ _ => False.elim) ents_nil
theorem e63_s (k : Nat) (hC : HC (TT k)) : CallOK Tryz.prog 63 (E63 (TT (k + 1))) := ents_cons (c_check_columnOf (TT k) hC) ents_nil
theorem e32_0 : CallOK Tryz.prog 32 (E32 (TT 0)) := ents_cons (fun _ _ => False.elim) ents_nil
theorem e32_s (k : Nat) (hC : HC (TT k)) : CallOK Tryz.prog 32 (E32 (TT (k + 1))) := ents_cons (c_cc_choose (TT k) hC) ents_nil
theorem e64_0 : CallOK Tryz.prog 64 (E64 (TT 0)) := ents_cons (fun _ _ => False.elim) ents_nil
theorem e64_s (k : Nat) (hC : HC (TT k)) : CallOK Tryz.prog 64 (E64 (TT (k + 1))) := ents_cons (c_cc_groups (TT k) hC) ents_nil
theorem e65_0 : CallOK Tryz.prog 65 (E65 (TT 0)) := ents_cons (fun _ _ => False.elim) ents_nil
theorem e65_s (k : Nat) (hC : HC (TT k)) : CallOK Tryz.prog 65 (E65 (TT (k + 1))) := ents_cons (c_cc_star (TT k) hC) ents_nil
theorem e66_0 : CallOK Tryz.prog 66 (E66 (TT 0)) := ents_cons (fun _ _ => False.elim) ents_nil
theorem e66_s (k : Nat) (hC : HC (TT k)) : CallOK Tryz.prog 66 (E66 (TT (k + 1))) := ents_cons (c_cc_items (TT k) hC) ents_nil
theorem e96_0 : CallOK Tryz.prog 96 (E96 (TT 0)) := ents_cons (fun _ _ => False.elim) ents_nil
theorem e96_s (k : Nat) (hC : HC (TT k)) : CallOK Tryz.prog 96 (E96 (TT (k + 1))) := ents_cons (c_check_aggregate (TT k) hC) ents_nil
theorem e5_0 : CallOK Tryz.prog 5 (E5 (TT 0)) := ents_cons (fun _ _ => False.elim) ents_nil
theorem e5_s (k : Nat) (hC : HC (TT k)) : CallOK Tryz.prog 5 (E5 (TT (k + 1))) := ents_cons (c_ref13_Check (TT k) hC) ents_nil
theorem e11_0 : CallOK Tryz.prog 11 (E11 (TT 0)) := ents_cons (fun _ _ => False.elim) ents_nil
theorem e11_s (k : Nat) (hC : HC (TT k)) : CallOK Tryz.prog 11 (E11 (TT (k + 1))) := ents_cons (c_ref08_Right (TT k) hC) ents_nil
theorem e33_0 : CallOK Tryz.prog 33 (E33 (TT 0)) := ents_cons (fun _ _ => False.elim) ents_nil
theorem e33_s (k : Nat) (hC : HC (TT k)) : CallOK Tryz.prog 33 (E33 (TT (k + 1))) := ents_cons (c_ref08_MayTable (TT k) hC) ents_nil
theorem e67_0 : CallOK Tryz.prog 67 (E67 (TT 0)) := ents_cons (fun _ _ => False.elim) ents_nil
theorem e67_s (k : Nat) (hC : HC (TT k)) : CallOK Tryz.prog 67 (E67 (TT (k + 1))) := ents_cons (c_ref08_Name (TT k) hC) ents_nil
theorem e35_0 : CallOK Tryz.prog 35 (E35 (TT 0)) := ents_cons (fun _ _ => False.elim) ents_nil
theorem e35_s (k : Nat) (hC : HC (TT k)) : CallOK Tryz.prog 35 (E35 (TT (k + 1))) := ents_cons (c_ref08_names (TT k) hC) ents_nil
theorem e68_0 : CallOK Tryz.prog 68 (E68 (TT 0)) := ents_cons (fun _ _ => False.elim) ents_nil
theorem e68_s (k : Nat) (hC : HC (TT k)) : CallOK Tryz.prog 68 (E68 (TT (k + 1))) := ents_cons (c_ref08_places (TT k) hC) ents_nil
theorem e34_0 : CallOK Tryz.prog 34 (E34 (TT 0)) := ents_cons (fun _ _ => False.elim) ents_nil
theorem e34_s (k : Nat) (hC : HC (TT k)) : CallOK Tryz.prog 34 (E34 (TT (k + 1))) := ents_cons (c_ref08_MayProc (TT k) hC) ents_nil
theorem e69_0 : CallOK Tryz.prog 69 (E69 (TT 0)) := ents_cons (fun _ _ => False.elim) ents_nil
theorem e69_s (k : Nat) (hC : HC (TT k)) : CallOK Tryz.prog 69 (E69 (TT (k + 1))) := ents_cons (c_ref08_in (TT k) hC) ents_nil
theorem e12_0 : CallOK Tryz.prog 12 (E12 (TT 0)) := ents_cons (fun _ _ => False.elim) ents_nil
theorem e12_s (k : Nat) (hC : HC (TT k)) : CallOK Tryz.prog 12 (E12 (TT (k + 1))) := ents_cons (c_ref13_Params (TT k) hC) ents_nil
theorem e36_0 : CallOK Tryz.prog 36 (E36 (TT 0)) := ents_cons (fun _ _ => False.elim) ents_nil
theorem e36_s (k : Nat) (hC : HC (TT k)) : CallOK Tryz.prog 36 (E36 (TT (k + 1))) := ents_cons (c_ref10_IsName (TT k) hC) ents_nil
theorem e70_0 : CallOK Tryz.prog 70 (E70 (TT 0)) := ents_cons (fun _ _ => False.elim) ents_nil
theorem e70_s (k : Nat) (hC : HC (TT k)) : CallOK Tryz.prog 70 (E70 (TT (k + 1))) := ents_cons (c_ref10_small (TT k) hC) ents_nil
theorem e71_0 : CallOK Tryz.prog 71 (E71 (TT 0)) := ents_cons (fun _ _ => False.elim) ents_nil
theorem e71_s (k : Nat) (hC : HC (TT k)) : CallOK Tryz.prog 71 (E71 (TT (k + 1))) := ents_cons (c_ref10_digit (TT k) hC) ents_nil
theorem e13_0 : CallOK Tryz.prog 13 (E13 (TT 0)) := ents_cons (fun _ _ => False.elim) ents_nil
theorem e13_s (k : Nat) (hC : HC (TT k)) : CallOK Tryz.prog 13 (E13 (TT (k + 1))) := ents_cons (c_ref11_Right (TT k) hC) ents_nil
theorem e37_0 : CallOK Tryz.prog 37 (E37 (TT 0)) := ents_cons (fun _ _ => False.elim) ents_nil
theorem e37_s (k : Nat) (hC : HC (TT k)) : CallOK Tryz.prog 37 (E37 (TT (k + 1))) := ents_cons (c_ref11_rights (TT k) hC) ents_nil
theorem e39_0 : CallOK Tryz.prog 39 (E39 (TT 0)) := ents_cons (fun _ _ => False.elim) ents_nil
theorem e39_s (k : Nat) (hC : HC (TT k)) : CallOK Tryz.prog 39 (E39 (TT (k + 1))) := ents_cons (c_ref11_RightExpr (TT k) hC) ents_nil
theorem e73_0 : CallOK Tryz.prog 73 (E73 (TT 0)) := ents_cons (fun _ _ => False.elim) ents_nil
theorem e73_s (k : Nat) (hC : HC (TT k)) : CallOK Tryz.prog 73 (E73 (TT (k + 1))) := ents_cons (c_ref11_kids (TT k) hC) ents_nil
theorem e74_0 : CallOK Tryz.prog 74 (E74 (TT 0)) := ents_cons (fun _ _ => False.elim) ents_nil
theorem e74_s (k : Nat) (hC : HC (TT k)) : CallOK Tryz.prog 74 (E74 (TT (k + 1))) := ents_cons (c_ref11_fields (TT k) hC) ents_nil
theorem e97_0 : CallOK Tryz.prog 97 (E97 (TT 0)) := ents_cons (fun _ _ => False.elim) ents_nil
theorem e97_s (k : Nat) (hC : HC (TT k)) : CallOK Tryz.prog 97 (E97 (TT (k + 1))) := ents_cons (c_ref01_Right (TT k) hC) ents_nil
theorem e38_0 : CallOK Tryz.prog 38 (E38 (TT 0)) := ents_cons (fun _ _ => False.elim) ents_nil
theorem e38_s (k : Nat) (hC : HC (TT k)) : CallOK Tryz.prog 38 (E38 (TT (k + 1))) := ents_cons (c_ref11_rightSelect (TT k) hC) ents_nil
theorem e72_0 : CallOK Tryz.prog 72 (E72 (TT 0)) := ents_cons (fun _ _ => False.elim) ents_nil
theorem e72_s (k : Nat) (hC : HC (TT k)) : CallOK Tryz.prog 72 (E72 (TT (k + 1))) := ents_cons (c_ref11_rightItem (TT k) hC) ents_nil
theorem e14_0 : CallOK Tryz.prog 14 (E14 (TT 0)) := ents_cons (fun _ _ => False.elim) ents_nil
theorem e14_s (k : Nat) (hC : HC (TT k)) : CallOK Tryz.prog 14 (E14 (TT (k + 1))) := ents_cons (c_ra_names (TT k) hC) ents_nil
theorem e40_0 : CallOK Tryz.prog 40 (E40 (TT 0)) := ents_cons (fun _ _ => False.elim) ents_nil
theorem e40_s (k : Nat) (hC : HC (TT k)) : CallOK Tryz.prog 40 (E40 (TT (k + 1))) := ents_cons (c_ref13_table (TT k) hC) ents_nil
theorem e41_0 : CallOK Tryz.prog 41 (E41 (TT 0)) := ents_cons (fun _ _ => False.elim) (ents_cons (fun _ _ => False.elim) ents_nil)
theorem e41_s (k : Nat) (hC : HC (TT k)) : CallOK Tryz.prog 41 (E41 (TT (k + 1))) := ents_cons (c_ra_fails (TT k) hC) (ents_cons (c_ra_fails_v1 (TT k) hC) ents_nil)
theorem e15_0 : CallOK Tryz.prog 15 (E15 (TT 0)) := ents_cons (fun _ _ => False.elim) ents_nil
theorem e15_s (k : Nat) (hC : HC (TT k)) : CallOK Tryz.prog 15 (E15 (TT (k + 1))) := ents_cons (c_ra_truths (TT k) hC) ents_nil
theorem e42_0 : CallOK Tryz.prog 42 (E42 (TT 0)) := ents_cons (fun _ _ => False.elim) ents_nil
theorem e42_s (k : Nat) (hC : HC (TT k)) : CallOK Tryz.prog 42 (E42 (TT (k + 1))) := ents_cons (c_ra_of (TT k) hC) ents_nil
theorem e75_0 : CallOK Tryz.prog 75 (E75 (TT 0)) := ents_cons (fun _ _ => False.elim) ents_nil
theorem e75_s (k : Nat) (hC : HC (TT k)) : CallOK Tryz.prog 75 (E75 (TT (k + 1))) := ents_cons (c_ra_asks (TT k) hC) ents_nil
theorem e76_0 : CallOK Tryz.prog 76 (E76 (TT 0)) := ents_cons (fun _ _ => False.elim) ents_nil
theorem e76_s (k : Nat) (hC : HC (TT k)) : CallOK Tryz.prog 76 (E76 (TT (k + 1))) := ents_cons (c_ra_bad (TT k) hC) ents_nil
theorem e98_0 : CallOK Tryz.prog 98 (E98 (TT 0)) := ents_cons (fun _ _ => False.elim) ents_nil
theorem e98_s (k : Nat) (hC : HC (TT k)) : CallOK Tryz.prog 98 (E98 (TT (k + 1))) := ents_cons (c_ra_param (TT k) hC) ents_nil
theorem e99_0 : CallOK Tryz.prog 99 (E99 (TT 0)) := ents_cons (fun _ _ => False.elim) ents_nil
theorem e99_s (k : Nat) (hC : HC (TT k)) : CallOK Tryz.prog 99 (E99 (TT (k + 1))) := ents_cons (c_ra_column (TT k) hC) ents_nil
theorem e43_0 : CallOK Tryz.prog 43 (E43 (TT 0)) := ents_cons (fun _ _ => False.elim) ents_nil
theorem e43_s (k : Nat) (hC : HC (TT k)) : CallOK Tryz.prog 43 (E43 (TT (k + 1))) := ents_cons (c_ref13_columnOf (TT k) hC) ents_nil
theorem e78_0 : CallOK Tryz.prog 78 (E78 (TT 0)) := ents_cons (fun _ _ => False.elim) ents_nil
theorem e78_s (k : Nat) (hC : HC (TT k)) : CallOK Tryz.prog 78 (E78 (TT (k + 1))) := ents_cons (c_ref13_Long (TT k) hC) ents_nil
theorem e100_0 : CallOK Tryz.prog 100 (E100 (TT 0)) := ents_cons (fun _ _ => False.elim) ents_nil
theorem e100_s (k : Nat) (hC : HC (TT k)) : CallOK Tryz.prog 100 (E100 (TT (k + 1))) := ents_cons (c_ref13_want (TT k) hC) ents_nil
theorem e101_0 : CallOK Tryz.prog 101 (E101 (TT 0)) := ents_cons (fun _ _ => False.elim) ents_nil
theorem e101_s (k : Nat) (hC : HC (TT k)) : CallOK Tryz.prog 101 (E101 (TT (k + 1))) := ents_cons (c_ref13_typeOf (TT k) hC) ents_nil
theorem e16_0 : CallOK Tryz.prog 16 (E16 (TT 0)) := ents_cons (fun _ _ => False.elim) ents_nil
theorem e16_s (k : Nat) (hC : HC (TT k)) : CallOK Tryz.prog 16 (E16 (TT (k + 1))) := ents_cons (c_ra_insert (TT k) hC) ents_nil
theorem e17_0 : CallOK Tryz.prog 17 (E17 (TT 0)) := ents_cons (fun _ _ => False.elim) ents_nil
theorem e17_s (k : Nat) (hC : HC (TT k)) : CallOK Tryz.prog 17 (E17 (TT (k + 1))) := ents_cons (c_ra_update (TT k) hC) ents_nil
theorem e18_0 : CallOK Tryz.prog 18 (E18 (TT 0)) := ents_cons (fun _ _ => False.elim) ents_nil
theorem e18_s (k : Nat) (hC : HC (TT k)) : CallOK Tryz.prog 18 (E18 (TT (k + 1))) := ents_cons (c_ra_choose (TT k) hC) ents_nil
theorem e44_0 : CallOK Tryz.prog 44 (E44 (TT 0)) := ents_cons (fun _ _ => False.elim) ents_nil
theorem e44_s (k : Nat) (hC : HC (TT k)) : CallOK Tryz.prog 44 (E44 (TT (k + 1))) := ents_cons (c_ra_groups (TT k) hC) ents_nil
theorem e77_0 : CallOK Tryz.prog 77 (E77 (TT 0)) := ents_cons (fun _ _ => False.elim) (ents_cons (fun _ _ => False.elim) ents_nil)
theorem e77_s (k : Nat) (hC : HC (TT k)) : CallOK Tryz.prog 77 (E77 (TT (k + 1))) := ents_cons (c_ref13_among_v1 (TT k) hC) (ents_cons (c_ref13_among (TT k) hC) ents_nil)
theorem e45_0 : CallOK Tryz.prog 45 (E45 (TT 0)) := ents_cons (fun _ _ => False.elim) ents_nil
theorem e45_s (k : Nat) (hC : HC (TT k)) : CallOK Tryz.prog 45 (E45 (TT (k + 1))) := ents_cons (c_ra_star (TT k) hC) ents_nil
theorem e46_0 : CallOK Tryz.prog 46 (E46 (TT 0)) := ents_cons (fun _ _ => False.elim) ents_nil
theorem e46_s (k : Nat) (hC : HC (TT k)) : CallOK Tryz.prog 46 (E46 (TT (k + 1))) := ents_cons (c_ra_items (TT k) hC) ents_nil
theorem e79_0 : CallOK Tryz.prog 79 (E79 (TT 0)) := ents_cons (fun _ _ => False.elim) ents_nil
theorem e79_s (k : Nat) (hC : HC (TT k)) : CallOK Tryz.prog 79 (E79 (TT (k + 1))) := ents_cons (c_ref13_aggregate (TT k) hC) ents_nil
theorem e6_0 : CallOK Tryz.prog 6 (E6 (TT 0)) := ents_cons (fun _ _ => False.elim) ents_nil
theorem e6_s (k : Nat) (hC : HC (TT k)) : CallOK Tryz.prog 6 (E6 (TT (k + 1))) := ents_cons (c_law13_same (TT k) hC) ents_nil
theorem e19_0 : CallOK Tryz.prog 19 (E19 (TT 0)) := ents_cons (fun _ _ => False.elim) ents_nil
theorem e19_s (k : Nat) (hC : HC (TT k)) : CallOK Tryz.prog 19 (E19 (TT (k + 1))) := ents_cons (c_law13_sameTerms (TT k) hC) ents_nil
theorem e20_0 : CallOK Tryz.prog 20 (E20 (TT 0)) := ents_cons (fun _ _ => False.elim) ents_nil
theorem e20_s (k : Nat) (hC : HC (TT k)) : CallOK Tryz.prog 20 (E20 (TT (k + 1))) := ents_cons (c_law13_ints (TT k) hC) ents_nil
theorem allOK : ∀ k, HC (TT k)
  | 0 => tab_cons e4_0 (tab_cons e5_0 (tab_cons e6_0 (tab_cons e8_0 (tab_cons e9_0 (tab_cons e10_0 (tab_cons e11_0 (tab_cons e12_0 (tab_cons e13_0 (tab_cons e14_0 (tab_cons e15_0 (tab_cons e16_0 (tab_cons e17_0 (tab_cons e18_0 (tab_cons e19_0 (tab_cons e20_0 (tab_cons e21_0 (tab_cons e22_0 (tab_cons e23_0 (tab_cons e24_0 (tab_cons e25_0 (tab_cons e26_0 (tab_cons e27_0 (tab_cons e28_0 (tab_cons e29_0 (tab_cons e30_0 (tab_cons e31_0 (tab_cons e32_0 (tab_cons e33_0 (tab_cons e34_0 (tab_cons e35_0 (tab_cons e36_0 (tab_cons e37_0 (tab_cons e38_0 (tab_cons e39_0 (tab_cons e40_0 (tab_cons e41_0 (tab_cons e42_0 (tab_cons e43_0 (tab_cons e44_0 (tab_cons e45_0 (tab_cons e46_0 (tab_cons e47_0 (tab_cons e48_0 (tab_cons e49_0 (tab_cons e50_0 (tab_cons e51_0 (tab_cons e52_0 (tab_cons e53_0 (tab_cons e54_0 (tab_cons e55_0 (tab_cons e56_0 (tab_cons e57_0 (tab_cons e58_0 (tab_cons e59_0 (tab_cons e60_0 (tab_cons e61_0 (tab_cons e62_0 (tab_cons e63_0 (tab_cons e64_0 (tab_cons e65_0 (tab_cons e66_0 (tab_cons e67_0 (tab_cons e68_0 (tab_cons e69_0 (tab_cons e70_0 (tab_cons e71_0 (tab_cons e72_0 (tab_cons e73_0 (tab_cons e74_0 (tab_cons e75_0 (tab_cons e76_0 (tab_cons e77_0 (tab_cons e78_0 (tab_cons e79_0 (tab_cons e80_0 (tab_cons e81_0 (tab_cons e82_0 (tab_cons e83_0 (tab_cons e84_0 (tab_cons e85_0 (tab_cons e86_0 (tab_cons e87_0 (tab_cons e88_0 (tab_cons e89_0 (tab_cons e90_0 (tab_cons e91_0 (tab_cons e92_0 (tab_cons e93_0 (tab_cons e94_0 (tab_cons e95_0 (tab_cons e96_0 (tab_cons e97_0 (tab_cons e98_0 (tab_cons e99_0 (tab_cons e100_0 (tab_cons e101_0 (tab_cons e102_0 (tab_cons e103_0 (tab_cons e104_0 (tab_cons e105_0 (tab_cons e106_0 (tab_cons e107_0 (tab_cons e108_0 (tab_cons e109_0 (tab_cons e110_0 (tab_cons e111_0 (tab_cons e112_0 (tab_cons e113_0 (tab_cons e114_0 (tab_cons e115_0 (tab_cons e116_0 (noCall_ok _))))))))))))))))))))))))))))))))))))))))))))))))))))))))))))))))))))))))))))))))))))))))))))))))))))))))))))))))
  | k + 1 => tab_cons (e4_s k (allOK k)) (tab_cons (e5_s k (allOK k)) (tab_cons (e6_s k (allOK k)) (tab_cons (e8_s k (allOK k)) (tab_cons (e9_s k (allOK k)) (tab_cons (e10_s k (allOK k)) (tab_cons (e11_s k (allOK k)) (tab_cons (e12_s k (allOK k)) (tab_cons (e13_s k (allOK k)) (tab_cons (e14_s k (allOK k)) (tab_cons (e15_s k (allOK k)) (tab_cons (e16_s k (allOK k)) (tab_cons (e17_s k (allOK k)) (tab_cons (e18_s k (allOK k)) (tab_cons (e19_s k (allOK k)) (tab_cons (e20_s k (allOK k)) (tab_cons (e21_s k (allOK k)) (tab_cons (e22_s k (allOK k)) (tab_cons (e23_s k (allOK k)) (tab_cons (e24_s k (allOK k)) (tab_cons (e25_s k (allOK k)) (tab_cons (e26_s k (allOK k)) (tab_cons (e27_s k (allOK k)) (tab_cons (e28_s k (allOK k)) (tab_cons (e29_s k (allOK k)) (tab_cons (e30_s k (allOK k)) (tab_cons (e31_s k (allOK k)) (tab_cons (e32_s k (allOK k)) (tab_cons (e33_s k (allOK k)) (tab_cons (e34_s k (allOK k)) (tab_cons (e35_s k (allOK k)) (tab_cons (e36_s k (allOK k)) (tab_cons (e37_s k (allOK k)) (tab_cons (e38_s k (allOK k)) (tab_cons (e39_s k (allOK k)) (tab_cons (e40_s k (allOK k)) (tab_cons (e41_s k (allOK k)) (tab_cons (e42_s k (allOK k)) (tab_cons (e43_s k (allOK k)) (tab_cons (e44_s k (allOK k)) (tab_cons (e45_s k (allOK k)) (tab_cons (e46_s k (allOK k)) (tab_cons (e47_s k (allOK k)) (tab_cons (e48_s k (allOK k)) (tab_cons (e49_s k (allOK k)) (tab_cons (e50_s k (allOK k)) (tab_cons (e51_s k (allOK k)) (tab_cons (e52_s k (allOK k)) (tab_cons (e53_s k (allOK k)) (tab_cons (e54_s k (allOK k)) (tab_cons (e55_s k (allOK k)) (tab_cons (e56_s k (allOK k)) (tab_cons (e57_s k (allOK k)) (tab_cons (e58_s k (allOK k)) (tab_cons (e59_s k (allOK k)) (tab_cons (e60_s k (allOK k)) (tab_cons (e61_s k (allOK k)) (tab_cons (e62_s k (allOK k)) (tab_cons (e63_s k (allOK k)) (tab_cons (e64_s k (allOK k)) (tab_cons (e65_s k (allOK k)) (tab_cons (e66_s k (allOK k)) (tab_cons (e67_s k (allOK k)) (tab_cons (e68_s k (allOK k)) (tab_cons (e69_s k (allOK k)) (tab_cons (e70_s k (allOK k)) (tab_cons (e71_s k (allOK k)) (tab_cons (e72_s k (allOK k)) (tab_cons (e73_s k (allOK k)) (tab_cons (e74_s k (allOK k)) (tab_cons (e75_s k (allOK k)) (tab_cons (e76_s k (allOK k)) (tab_cons (e77_s k (allOK k)) (tab_cons (e78_s k (allOK k)) (tab_cons (e79_s k (allOK k)) (tab_cons (e80_s k (allOK k)) (tab_cons (e81_s k (allOK k)) (tab_cons (e82_s k (allOK k)) (tab_cons (e83_s k (allOK k)) (tab_cons (e84_s k (allOK k)) (tab_cons (e85_s k (allOK k)) (tab_cons (e86_s k (allOK k)) (tab_cons (e87_s k (allOK k)) (tab_cons (e88_s k (allOK k)) (tab_cons (e89_s k (allOK k)) (tab_cons (e90_s k (allOK k)) (tab_cons (e91_s k (allOK k)) (tab_cons (e92_s k (allOK k)) (tab_cons (e93_s k (allOK k)) (tab_cons (e94_s k (allOK k)) (tab_cons (e95_s k (allOK k)) (tab_cons (e96_s k (allOK k)) (tab_cons (e97_s k (allOK k)) (tab_cons (e98_s k (allOK k)) (tab_cons (e99_s k (allOK k)) (tab_cons (e100_s k (allOK k)) (tab_cons (e101_s k (allOK k)) (tab_cons (e102_s k (allOK k)) (tab_cons (e103_s k (allOK k)) (tab_cons (e104_s k (allOK k)) (tab_cons (e105_s k (allOK k)) (tab_cons (e106_s k (allOK k)) (tab_cons (e107_s k (allOK k)) (tab_cons (e108_s k (allOK k)) (tab_cons (e109_s k (allOK k)) (tab_cons (e110_s k (allOK k)) (tab_cons (e111_s k (allOK k)) (tab_cons (e112_s k (allOK k)) (tab_cons (e113_s k (allOK k)) (tab_cons (e114_s k (allOK k)) (tab_cons (e115_s k (allOK k)) (tab_cons (e116_s k (allOK k)) (noCall_ok _))))))))))))))))))))))))))))))))))))))))))))))))))))))))))))))))))))))))))))))))))))))))))))))))))))))))))))))))
end Go.RX
