/- Printed by a program of the prover: the functions that the law reaches, as functions in Lean, and that the model does what they say. No condition. -/
import Derived.Test.YtacceochippkaaaGreatDoorGfa
import Derived.Test.YtacceochippkaaaGreatDoorGfb
import Derived.Test.YtacceochippkaaaGreatDoorGfc
import Derived.Test.YtacceochippkaaaGreatDoorAg
set_option linter.all false
set_option maxRecDepth 100000
set_option maxHeartbeats 8000000
namespace Go.RX
open Go.Proofs
theorem e5_0 : CallOK Tryz.prog 5 (E5 (TT 0)) := ents_cons (fun p K h => (h : False).elim) ents_nil
theorem e5_s (k : Nat) (hC : HC (TT k)) : CallOK Tryz.prog 5 (E5 (TT (k + 1))) := ents_cons (c_law13_CheckRenames (TT k) hC) ents_nil
theorem c_law13_awake (T : Tab) (hC : HC T) : RunOK Tryz.prog 7 ⟨_, P_law13_awake, H_law13_awake (F_law13_awake T)⟩ := fun p K h => awake_ok (P_law13_awake.put p).1 (P_law13_awake.put p).2 K h
theorem e7_0 : CallOK Tryz.prog 7 (E7 (TT 0)) := ents_cons (fun p K h => (h : False).elim) ents_nil
theorem e7_s (k : Nat) (hC : HC (TT k)) : CallOK Tryz.prog 7 (E7 (TT (k + 1))) := ents_cons (c_law13_awake (TT k) hC) ents_nil
theorem e11_0 : CallOK Tryz.prog 11 (E11 (TT 0)) := ents_cons (fun p K h => (h : False).elim) ents_nil
theorem e11_s (k : Nat) (hC : HC (TT k)) : CallOK Tryz.prog 11 (E11 (TT (k + 1))) := ents_cons (c_check_Check (TT k) hC) ents_nil
theorem e17_0 : CallOK Tryz.prog 17 (E17 (TT 0)) := ents_cons (fun p K h => (h : False).elim) ents_nil
theorem e17_s (k : Nat) (hC : HC (TT k)) : CallOK Tryz.prog 17 (E17 (TT (k + 1))) := ents_cons (c_check_begun (TT k) hC) ents_nil
theorem e46_0 : CallOK Tryz.prog 46 (E46 (TT 0)) := ents_cons (fun p K h => (h : False).elim) ents_nil
theorem e46_s (k : Nat) (hC : HC (TT k)) : CallOK Tryz.prog 46 (E46 (TT (k + 1))) := ents_cons (c_catalog_Right (TT k) hC) ents_nil
theorem e101_0 : CallOK Tryz.prog 101 (E101 (TT 0)) := ents_cons (fun p K h => (h : False).elim) ents_nil
theorem e101_s (k : Nat) (hC : HC (TT k)) : CallOK Tryz.prog 101 (E101 (TT (k + 1))) := ents_cons (c_catalog_met (TT k) hC) ents_nil
theorem e102_0 : CallOK Tryz.prog 102 (E102 (TT 0)) := ents_cons (fun p K h => (h : False).elim) ents_nil
theorem e102_s (k : Nat) (hC : HC (TT k)) : CallOK Tryz.prog 102 (E102 (TT (k + 1))) := ents_cons (c_catalog_mayTable (TT k) hC) ents_nil
theorem e158_0 : CallOK Tryz.prog 158 (E158 (TT 0)) := ents_cons (fun p K h => (h : False).elim) ents_nil
theorem e158_s (k : Nat) (hC : HC (TT k)) : CallOK Tryz.prog 158 (E158 (TT (k + 1))) := ents_cons (c_catalog_named (TT k) hC) ents_nil
theorem e185_0 : CallOK Tryz.prog 185 (E185 (TT 0)) := ents_cons (fun p K h => (h : False).elim) ents_nil
theorem e185_s (k : Nat) (hC : HC (TT k)) : CallOK Tryz.prog 185 (E185 (TT (k + 1))) := ents_cons (c_strings_ContainsFunc (TT k) hC) ents_nil
theorem e208_0 : CallOK Tryz.prog 208 (E208 (TT 0)) := ents_cons (fun p K h => (h : False).elim) ents_nil
theorem e208_s (k : Nat) (hC : HC (TT k)) : CallOK Tryz.prog 208 (E208 (TT (k + 1))) := ents_cons (c_strings_IndexFunc (TT k) hC) ents_nil
theorem e228_0 : CallOK Tryz.prog 228 (E228 (TT 0)) := ents_cons (fun p K h => (h : False).elim) ents_nil
theorem e228_s (k : Nat) (hC : HC (TT k)) : CallOK Tryz.prog 228 (E228 (TT (k + 1))) := ents_cons (c_strings_indexFunc (TT k) hC) ents_nil
theorem e186_0 : CallOK Tryz.prog 186 (E186 (TT 0)) := ents_cons (fun p K h => (h : False).elim) ents_nil
theorem e186_s (k : Nat) (hC : HC (TT k)) : CallOK Tryz.prog 186 (E186 (TT (k + 1))) := ents_cons (c_catalog_named_1 (TT k) hC) ents_nil
theorem e157_0 : CallOK Tryz.prog 157 (E157 (TT 0)) := ents_cons (fun p K h => (h : False).elim) ents_nil
theorem e157_s (k : Nat) (hC : HC (TT k)) : CallOK Tryz.prog 157 (E157 (TT (k + 1))) := ents_cons (c_catalog_met_1 (TT k) hC) ents_nil
theorem e159_0 : CallOK Tryz.prog 159 (E159 (TT 0)) := ents_cons (fun p K h => (h : False).elim) ents_nil
theorem e159_s (k : Nat) (hC : HC (TT k)) : CallOK Tryz.prog 159 (E159 (TT (k + 1))) := ents_cons (c_catalog_typed (TT k) hC) ents_nil
theorem e160_0 : CallOK Tryz.prog 160 (E160 (TT 0)) := ents_cons (fun p K h => (h : False).elim) ents_nil
theorem e160_s (k : Nat) (hC : HC (TT k)) : CallOK Tryz.prog 160 (E160 (TT (k + 1))) := ents_cons (c_catalog_places (TT k) hC) ents_nil
theorem e161_0 : CallOK Tryz.prog 161 (E161 (TT 0)) := ents_cons (fun p K h => (h : False).elim) ents_nil
theorem e161_s (k : Nat) (hC : HC (TT k)) : CallOK Tryz.prog 161 (E161 (TT (k + 1))) := ents_cons (c_slices_Contains_int_int (TT k) hC) ents_nil
theorem e187_0 : CallOK Tryz.prog 187 (E187 (TT 0)) := ents_cons (fun p K h => (h : False).elim) ents_nil
theorem e187_s (k : Nat) (hC : HC (TT k)) : CallOK Tryz.prog 187 (E187 (TT (k + 1))) := ents_cons (c_slices_Index_int_int (TT k) hC) ents_nil
theorem e103_0 : CallOK Tryz.prog 103 (E103 (TT 0)) := ents_cons (fun p K h => (h : False).elim) ents_nil
theorem e103_s (k : Nat) (hC : HC (TT k)) : CallOK Tryz.prog 103 (E103 (TT (k + 1))) := ents_cons (c_catalog_mayProc (TT k) hC) ents_nil
theorem e162_0 : CallOK Tryz.prog 162 (E162 (TT 0)) := ents_cons (fun p K h => (h : False).elim) ents_nil
theorem e162_s (k : Nat) (hC : HC (TT k)) : CallOK Tryz.prog 162 (E162 (TT (k + 1))) := ents_cons (c_slices_ContainsFunc_string_string (TT k) hC) ents_nil
theorem e125_0 : CallOK Tryz.prog 125 (E125 (TT 0)) := ents_cons (fun p K h => (h : False).elim) ents_nil
theorem e125_s (k : Nat) (hC : HC (TT k)) : CallOK Tryz.prog 125 (E125 (TT (k + 1))) := ents_cons (c_slices_IndexFunc_string_string (TT k) hC) ents_nil
theorem e163_0 : CallOK Tryz.prog 163 (E163 (TT 0)) := ents_cons (fun p K h => (h : False).elim) ents_nil
theorem e163_s (k : Nat) (hC : HC (TT k)) : CallOK Tryz.prog 163 (E163 (TT (k + 1))) := ents_cons (c_catalog_mayProc_1 (TT k) hC) ents_nil
theorem e47_0 : CallOK Tryz.prog 47 (E47 (TT 0)) := ents_cons (fun p K h => (h : False).elim) ents_nil
theorem e47_s (k : Nat) (hC : HC (TT k)) : CallOK Tryz.prog 47 (E47 (TT (k + 1))) := ents_cons (c_check_rightParams (TT k) hC) ents_nil
theorem e84_0 : CallOK Tryz.prog 84 (E84 (TT 0)) := ents_cons (fun p K h => (h : False).elim) ents_nil
theorem e84_s (k : Nat) (hC : HC (TT k)) : CallOK Tryz.prog 84 (E84 (TT (k + 1))) := ents_cons (c_lex_IsName (TT k) hC) ents_nil
theorem e66_0 : CallOK Tryz.prog 66 (E66 (TT 0)) := ents_cons (fun p K h => (h : False).elim) ents_nil
theorem e66_s (k : Nat) (hC : HC (TT k)) : CallOK Tryz.prog 66 (E66 (TT (k + 1))) := ents_cons (c_lex_classOf (TT k) hC) ents_nil
theorem e68_0 : CallOK Tryz.prog 68 (E68 (TT 0)) := ents_cons (fun p K h => (h : False).elim) ents_nil
theorem e68_s (k : Nat) (hC : HC (TT k)) : CallOK Tryz.prog 68 (E68 (TT (k + 1))) := ents_cons (c_strings_IndexByte (TT k) hC) ents_nil
theorem e118_0 : CallOK Tryz.prog 118 (E118 (TT 0)) := ents_cons (fun p K h => (h : False).elim) ents_nil
theorem e118_s (k : Nat) (hC : HC (TT k)) : CallOK Tryz.prog 118 (E118 (TT (k + 1))) := ents_cons (c_internal_stringslite_IndexByte (TT k) hC) ents_nil
theorem c_internal_bytealg_IndexByteString (T : Tab) (hC : HC T) : RunOK Tryz.prog 166 ⟨_, P_internal_bytealg_IndexByteString, H_internal_bytealg_IndexByteString (F_internal_bytealg_IndexByteString T)⟩ := fun p K h => (idx_ok fn166 (by kernel_rfl) (by kernel_rfl) (by kernel_rfl)) (P_internal_bytealg_IndexByteString.put p).1 (P_internal_bytealg_IndexByteString.put p).2 K h
theorem e166_0 : CallOK Tryz.prog 166 (E166 (TT 0)) := ents_cons (fun p K h => (h : False).elim) ents_nil
theorem e166_s (k : Nat) (hC : HC (TT k)) : CallOK Tryz.prog 166 (E166 (TT (k + 1))) := ents_cons (c_internal_bytealg_IndexByteString (TT k) hC) ents_nil
theorem e35_0 : CallOK Tryz.prog 35 (E35 (TT 0)) := ents_cons (fun p K h => (h : False).elim) ents_nil
theorem e35_s (k : Nat) (hC : HC (TT k)) : CallOK Tryz.prog 35 (E35 (TT (k + 1))) := ents_cons (c_syntax_Right (TT k) hC) ents_nil
theorem e85_0 : CallOK Tryz.prog 85 (E85 (TT 0)) := ents_cons (fun p K h => (h : False).elim) ents_nil
theorem e85_s (k : Nat) (hC : HC (TT k)) : CallOK Tryz.prog 85 (E85 (TT (k + 1))) := ents_cons (c_syntax_rights (TT k) hC) ents_nil
theorem e31_0 : CallOK Tryz.prog 31 (E31 (TT 0)) := ents_cons (fun p K h => (h : False).elim) (ents_cons (fun p K h => (h : False).elim) ents_nil)
theorem e31_s (k : Nat) (hC : HC (TT k)) : CallOK Tryz.prog 31 (E31 (TT (k + 1))) := ents_cons (c_slices_ContainsFunc_api_Expr_api_Expr (TT k) hC) (ents_cons (c_slices_ContainsFunc_api_Expr_api_Expr_v1 (TT k) hC) ents_nil)
theorem e82_0 : CallOK Tryz.prog 82 (E82 (TT 0)) := ents_cons (fun p K h => (h : False).elim) (ents_cons (fun p K h => (h : False).elim) ents_nil)
theorem e82_s (k : Nat) (hC : HC (TT k)) : CallOK Tryz.prog 82 (E82 (TT (k + 1))) := ents_cons (c_slices_IndexFunc_api_Expr_api_Expr (TT k) hC) (ents_cons (c_slices_IndexFunc_api_Expr_api_Expr_v1 (TT k) hC) ents_nil)
theorem e137_0 : CallOK Tryz.prog 137 (E137 (TT 0)) := ents_cons (fun p K h => (h : False).elim) ents_nil
theorem e137_s (k : Nat) (hC : HC (TT k)) : CallOK Tryz.prog 137 (E137 (TT (k + 1))) := ents_cons (c_syntax_rights_1 (TT k) hC) ents_nil
theorem e138_0 : CallOK Tryz.prog 138 (E138 (TT 0)) := ents_cons (fun p K h => (h : False).elim) ents_nil
theorem e138_s (k : Nat) (hC : HC (TT k)) : CallOK Tryz.prog 138 (E138 (TT (k + 1))) := ents_cons (c_syntax_rightExpr (TT k) hC) ents_nil
theorem e172_0 : CallOK Tryz.prog 172 (E172 (TT 0)) := ents_cons (fun p K h => (h : False).elim) ents_nil
theorem e172_s (k : Nat) (hC : HC (TT k)) : CallOK Tryz.prog 172 (E172 (TT (k + 1))) := ents_cons (c_syntax_shape (TT k) hC) ents_nil
theorem e173_0 : CallOK Tryz.prog 173 (E173 (TT 0)) := ents_cons (fun p K h => (h : False).elim) ents_nil
theorem e173_s (k : Nat) (hC : HC (TT k)) : CallOK Tryz.prog 173 (E173 (TT (k + 1))) := ents_cons (c_syntax_fields (TT k) hC) ents_nil
theorem e152_0 : CallOK Tryz.prog 152 (E152 (TT 0)) := ents_cons (fun p K h => (h : False).elim) ents_nil
theorem e152_s (k : Nat) (hC : HC (TT k)) : CallOK Tryz.prog 152 (E152 (TT (k + 1))) := ents_cons (c_value_Right (TT k) hC) ents_nil
theorem e174_0 : CallOK Tryz.prog 174 (E174 (TT 0)) := ents_cons (fun p K h => (h : False).elim) ents_nil
theorem e174_s (k : Nat) (hC : HC (TT k)) : CallOK Tryz.prog 174 (E174 (TT (k + 1))) := ents_cons (c_syntax_rightExpr_1 (TT k) hC) ents_nil
theorem e86_0 : CallOK Tryz.prog 86 (E86 (TT 0)) := ents_cons (fun p K h => (h : False).elim) ents_nil
theorem e86_s (k : Nat) (hC : HC (TT k)) : CallOK Tryz.prog 86 (E86 (TT (k + 1))) := ents_cons (c_syntax_rightSelect (TT k) hC) ents_nil
theorem e139_0 : CallOK Tryz.prog 139 (E139 (TT 0)) := ents_cons (fun p K h => (h : False).elim) ents_nil
theorem e139_s (k : Nat) (hC : HC (TT k)) : CallOK Tryz.prog 139 (E139 (TT (k + 1))) := ents_cons (c_syntax_rightItem (TT k) hC) ents_nil
theorem e140_0 : CallOK Tryz.prog 140 (E140 (TT 0)) := ents_cons (fun p K h => (h : False).elim) ents_nil
theorem e140_s (k : Nat) (hC : HC (TT k)) : CallOK Tryz.prog 140 (E140 (TT (k + 1))) := ents_cons (c_syntax_within (TT k) hC) ents_nil
theorem e104_0 : CallOK Tryz.prog 104 (E104 (TT 0)) := ents_cons (fun p K h => (h : False).elim) ents_nil
theorem e104_s (k : Nat) (hC : HC (TT k)) : CallOK Tryz.prog 104 (E104 (TT (k + 1))) := ents_cons (c_slices_ContainsFunc_int_int (TT k) hC) ents_nil
theorem e164_0 : CallOK Tryz.prog 164 (E164 (TT 0)) := ents_cons (fun p K h => (h : False).elim) ents_nil
theorem e164_s (k : Nat) (hC : HC (TT k)) : CallOK Tryz.prog 164 (E164 (TT (k + 1))) := ents_cons (c_slices_IndexFunc_int_int (TT k) hC) ents_nil
theorem e141_0 : CallOK Tryz.prog 141 (E141 (TT 0)) := ents_cons (fun p K h => (h : False).elim) ents_nil
theorem e141_s (k : Nat) (hC : HC (TT k)) : CallOK Tryz.prog 141 (E141 (TT (k + 1))) := ents_cons (c_syntax_rightSelect_1 (TT k) hC) ents_nil
theorem e87_0 : CallOK Tryz.prog 87 (E87 (TT 0)) := ents_cons (fun p K h => (h : False).elim) ents_nil
theorem e87_s (k : Nat) (hC : HC (TT k)) : CallOK Tryz.prog 87 (E87 (TT (k + 1))) := ents_cons (c_syntax_rightSets (TT k) hC) ents_nil
theorem e142_0 : CallOK Tryz.prog 142 (E142 (TT 0)) := ents_cons (fun p K h => (h : False).elim) ents_nil
theorem e142_s (k : Nat) (hC : HC (TT k)) : CallOK Tryz.prog 142 (E142 (TT (k + 1))) := ents_cons (c_slices_ContainsFunc_api_Set_api_Set (TT k) hC) ents_nil
theorem e175_0 : CallOK Tryz.prog 175 (E175 (TT 0)) := ents_cons (fun p K h => (h : False).elim) ents_nil
theorem e175_s (k : Nat) (hC : HC (TT k)) : CallOK Tryz.prog 175 (E175 (TT (k + 1))) := ents_cons (c_slices_IndexFunc_api_Set_api_Set (TT k) hC) ents_nil
theorem e143_0 : CallOK Tryz.prog 143 (E143 (TT 0)) := ents_cons (fun p K h => (h : False).elim) ents_nil
theorem e143_s (k : Nat) (hC : HC (TT k)) : CallOK Tryz.prog 143 (E143 (TT (k + 1))) := ents_cons (c_syntax_rightSets_1 (TT k) hC) ents_nil
theorem e36_0 : CallOK Tryz.prog 36 (E36 (TT 0)) := ents_cons (fun p K h => (h : False).elim) ents_nil
theorem e36_s (k : Nat) (hC : HC (TT k)) : CallOK Tryz.prog 36 (E36 (TT (k + 1))) := ents_cons (c_check_checker_statement (TT k) hC) ents_nil
theorem e88_0 : CallOK Tryz.prog 88 (E88 (TT 0)) := ents_cons (fun p K h => (h : False).elim) ents_nil
theorem e88_s (k : Nat) (hC : HC (TT k)) : CallOK Tryz.prog 88 (E88 (TT (k + 1))) := ents_cons (c_check_checker_names (TT k) hC) ents_nil
theorem e144_0 : CallOK Tryz.prog 144 (E144 (TT 0)) := ents_cons (fun p K h => (h : False).elim) ents_nil
theorem e144_s (k : Nat) (hC : HC (TT k)) : CallOK Tryz.prog 144 (E144 (TT (k + 1))) := ents_cons (c_check_tableOf (TT k) hC) ents_nil
theorem e145_0 : CallOK Tryz.prog 145 (E145 (TT 0)) := ents_cons (fun p K h => (h : False).elim) ents_nil
theorem e145_s (k : Nat) (hC : HC (TT k)) : CallOK Tryz.prog 145 (E145 (TT (k + 1))) := ents_cons (c_check_checker_fails (TT k) hC) ents_nil
theorem e89_0 : CallOK Tryz.prog 89 (E89 (TT 0)) := ents_cons (fun p K h => (h : False).elim) ents_nil
theorem e89_s (k : Nat) (hC : HC (TT k)) : CallOK Tryz.prog 89 (E89 (TT (k + 1))) := ents_cons (c_check_checker_open (TT k) hC) ents_nil
theorem e90_0 : CallOK Tryz.prog 90 (E90 (TT 0)) := ents_cons (fun p K h => (h : False).elim) ents_nil
theorem e90_s (k : Nat) (hC : HC (TT k)) : CallOK Tryz.prog 90 (E90 (TT (k + 1))) := ents_cons (c_check_checker_truths (TT k) hC) ents_nil
theorem e146_0 : CallOK Tryz.prog 146 (E146 (TT 0)) := ents_cons (fun p K h => (h : False).elim) ents_nil
theorem e146_s (k : Nat) (hC : HC (TT k)) : CallOK Tryz.prog 146 (E146 (TT (k + 1))) := ents_cons (c_check_checker_of (TT k) hC) ents_nil
theorem e176_0 : CallOK Tryz.prog 176 (E176 (TT 0)) := ents_cons (fun p K h => (h : False).elim) ents_nil
theorem e176_s (k : Nat) (hC : HC (TT k)) : CallOK Tryz.prog 176 (E176 (TT (k + 1))) := ents_cons (c_check_checker_of_1 (TT k) hC) ents_nil
theorem e177_0 : CallOK Tryz.prog 177 (E177 (TT 0)) := ents_cons (fun p K h => (h : False).elim) ents_nil
theorem e177_s (k : Nat) (hC : HC (TT k)) : CallOK Tryz.prog 177 (E177 (TT (k + 1))) := ents_cons (c_check_checker_term (TT k) hC) ents_nil
theorem e195_0 : CallOK Tryz.prog 195 (E195 (TT 0)) := ents_cons (fun p K h => (h : False).elim) ents_nil
theorem e195_s (k : Nat) (hC : HC (TT k)) : CallOK Tryz.prog 195 (E195 (TT (k + 1))) := ents_cons (c_check_wanted (TT k) hC) ents_nil
theorem e216_0 : CallOK Tryz.prog 216 (E216 (TT 0)) := ents_cons (fun p K h => (h : False).elim) ents_nil
theorem e216_s (k : Nat) (hC : HC (TT k)) : CallOK Tryz.prog 216 (E216 (TT (k + 1))) := ents_cons (c_check_wanted_1 (TT k) hC) ents_nil
theorem e217_0 : CallOK Tryz.prog 217 (E217 (TT 0)) := ents_cons (fun p K h => (h : False).elim) ents_nil
theorem e217_s (k : Nat) (hC : HC (TT k)) : CallOK Tryz.prog 217 (E217 (TT (k + 1))) := ents_cons (c_check_wanted_1_1 (TT k) hC) ents_nil
theorem e196_0 : CallOK Tryz.prog 196 (E196 (TT 0)) := ents_cons (fun p K h => (h : False).elim) ents_nil
theorem e196_s (k : Nat) (hC : HC (TT k)) : CallOK Tryz.prog 196 (E196 (TT (k + 1))) := ents_cons (c_check_unlike (TT k) hC) ents_nil
theorem e197_0 : CallOK Tryz.prog 197 (E197 (TT 0)) := ents_cons (fun p K h => (h : False).elim) ents_nil
theorem e197_s (k : Nat) (hC : HC (TT k)) : CallOK Tryz.prog 197 (E197 (TT (k + 1))) := ents_cons (c_check_typeOf (TT k) hC) ents_nil
theorem e218_0 : CallOK Tryz.prog 218 (E218 (TT 0)) := ents_cons (fun p K h => (h : False).elim) ents_nil
theorem e218_s (k : Nat) (hC : HC (TT k)) : CallOK Tryz.prog 218 (E218 (TT (k + 1))) := ents_cons (c_check_wanted_2 (TT k) hC) ents_nil
theorem e91_0 : CallOK Tryz.prog 91 (E91 (TT 0)) := ents_cons (fun p K h => (h : False).elim) ents_nil
theorem e91_s (k : Nat) (hC : HC (TT k)) : CallOK Tryz.prog 91 (E91 (TT (k + 1))) := ents_cons (c_check_checker_insert (TT k) hC) ents_nil
theorem e92_0 : CallOK Tryz.prog 92 (E92 (TT 0)) := ents_cons (fun p K h => (h : False).elim) ents_nil
theorem e92_s (k : Nat) (hC : HC (TT k)) : CallOK Tryz.prog 92 (E92 (TT (k + 1))) := ents_cons (c_check_checker_update (TT k) hC) ents_nil
theorem e147_0 : CallOK Tryz.prog 147 (E147 (TT 0)) := ents_cons (fun p K h => (h : False).elim) ents_nil
theorem e147_s (k : Nat) (hC : HC (TT k)) : CallOK Tryz.prog 147 (E147 (TT (k + 1))) := ents_cons (c_check_columnOf (TT k) hC) ents_nil
theorem e93_0 : CallOK Tryz.prog 93 (E93 (TT 0)) := ents_cons (fun p K h => (h : False).elim) ents_nil
theorem e93_s (k : Nat) (hC : HC (TT k)) : CallOK Tryz.prog 93 (E93 (TT (k + 1))) := ents_cons (c_check_checker_choose (TT k) hC) ents_nil
theorem e148_0 : CallOK Tryz.prog 148 (E148 (TT 0)) := ents_cons (fun p K h => (h : False).elim) ents_nil
theorem e148_s (k : Nat) (hC : HC (TT k)) : CallOK Tryz.prog 148 (E148 (TT (k + 1))) := ents_cons (c_check_checker_groups (TT k) hC) ents_nil
theorem e149_0 : CallOK Tryz.prog 149 (E149 (TT 0)) := ents_cons (fun p K h => (h : False).elim) ents_nil
theorem e149_s (k : Nat) (hC : HC (TT k)) : CallOK Tryz.prog 149 (E149 (TT (k + 1))) := ents_cons (c_check_checker_star (TT k) hC) ents_nil
theorem e150_0 : CallOK Tryz.prog 150 (E150 (TT 0)) := ents_cons (fun p K h => (h : False).elim) ents_nil
theorem e150_s (k : Nat) (hC : HC (TT k)) : CallOK Tryz.prog 150 (E150 (TT (k + 1))) := ents_cons (c_check_checker_items (TT k) hC) ents_nil
theorem e178_0 : CallOK Tryz.prog 178 (E178 (TT 0)) := ents_cons (fun p K h => (h : False).elim) ents_nil
theorem e178_s (k : Nat) (hC : HC (TT k)) : CallOK Tryz.prog 178 (E178 (TT (k + 1))) := ents_cons (c_check_aggregate (TT k) hC) ents_nil
theorem e12_0 : CallOK Tryz.prog 12 (E12 (TT 0)) := ents_cons (fun p K h => (h : False).elim) ents_nil
theorem e12_s (k : Nat) (hC : HC (TT k)) : CallOK Tryz.prog 12 (E12 (TT (k + 1))) := ents_cons (c_law13_renamed (TT k) hC) ents_nil
theorem e37_0 : CallOK Tryz.prog 37 (E37 (TT 0)) := ents_cons (fun p K h => (h : False).elim) ents_nil
theorem e37_s (k : Nat) (hC : HC (TT k)) : CallOK Tryz.prog 37 (E37 (TT (k + 1))) := ents_cons (c_law13_others (TT k) hC) ents_nil
theorem e13_0 : CallOK Tryz.prog 13 (E13 (TT 0)) := ents_cons (fun p K h => (h : False).elim) ents_nil
theorem e13_s (k : Nat) (hC : HC (TT k)) : CallOK Tryz.prog 13 (E13 (TT (k + 1))) := ents_cons (c_law13_same (TT k) hC) ents_nil
theorem e38_0 : CallOK Tryz.prog 38 (E38 (TT 0)) := ents_cons (fun p K h => (h : False).elim) ents_nil
theorem e38_s (k : Nat) (hC : HC (TT k)) : CallOK Tryz.prog 38 (E38 (TT (k + 1))) := ents_cons (c_law13_sameTerms (TT k) hC) ents_nil
theorem e16_0 : CallOK Tryz.prog 16 (E16 (TT 0)) := ents_cons (fun p K h => (h : False).elim) ents_nil
theorem e16_s (k : Nat) (hC : HC (TT k)) : CallOK Tryz.prog 16 (E16 (TT (k + 1))) := ents_cons (c_law13_ints (TT k) hC) ents_nil
theorem allOK : ∀ k, HC (TT k)
  | 0 => tab_cons e5_0 (tab_cons e7_0 (tab_cons e11_0 (tab_cons e12_0 (tab_cons e13_0 (tab_cons e16_0 (tab_cons e17_0 (tab_cons e31_0 (tab_cons e35_0 (tab_cons e36_0 (tab_cons e37_0 (tab_cons e38_0 (tab_cons e46_0 (tab_cons e47_0 (tab_cons e66_0 (tab_cons e68_0 (tab_cons e82_0 (tab_cons e84_0 (tab_cons e85_0 (tab_cons e86_0 (tab_cons e87_0 (tab_cons e88_0 (tab_cons e89_0 (tab_cons e90_0 (tab_cons e91_0 (tab_cons e92_0 (tab_cons e93_0 (tab_cons e101_0 (tab_cons e102_0 (tab_cons e103_0 (tab_cons e104_0 (tab_cons e118_0 (tab_cons e125_0 (tab_cons e137_0 (tab_cons e138_0 (tab_cons e139_0 (tab_cons e140_0 (tab_cons e141_0 (tab_cons e142_0 (tab_cons e143_0 (tab_cons e144_0 (tab_cons e145_0 (tab_cons e146_0 (tab_cons e147_0 (tab_cons e148_0 (tab_cons e149_0 (tab_cons e150_0 (tab_cons e152_0 (tab_cons e157_0 (tab_cons e158_0 (tab_cons e159_0 (tab_cons e160_0 (tab_cons e161_0 (tab_cons e162_0 (tab_cons e163_0 (tab_cons e164_0 (tab_cons e166_0 (tab_cons e172_0 (tab_cons e173_0 (tab_cons e174_0 (tab_cons e175_0 (tab_cons e176_0 (tab_cons e177_0 (tab_cons e178_0 (tab_cons e185_0 (tab_cons e186_0 (tab_cons e187_0 (tab_cons e195_0 (tab_cons e196_0 (tab_cons e197_0 (tab_cons e208_0 (tab_cons e216_0 (tab_cons e217_0 (tab_cons e218_0 (tab_cons e228_0 (noCall_ok _)))))))))))))))))))))))))))))))))))))))))))))))))))))))))))))))))))))))))))
  | k + 1 => tab_cons (e5_s k (allOK k)) (tab_cons (e7_s k (allOK k)) (tab_cons (e11_s k (allOK k)) (tab_cons (e12_s k (allOK k)) (tab_cons (e13_s k (allOK k)) (tab_cons (e16_s k (allOK k)) (tab_cons (e17_s k (allOK k)) (tab_cons (e31_s k (allOK k)) (tab_cons (e35_s k (allOK k)) (tab_cons (e36_s k (allOK k)) (tab_cons (e37_s k (allOK k)) (tab_cons (e38_s k (allOK k)) (tab_cons (e46_s k (allOK k)) (tab_cons (e47_s k (allOK k)) (tab_cons (e66_s k (allOK k)) (tab_cons (e68_s k (allOK k)) (tab_cons (e82_s k (allOK k)) (tab_cons (e84_s k (allOK k)) (tab_cons (e85_s k (allOK k)) (tab_cons (e86_s k (allOK k)) (tab_cons (e87_s k (allOK k)) (tab_cons (e88_s k (allOK k)) (tab_cons (e89_s k (allOK k)) (tab_cons (e90_s k (allOK k)) (tab_cons (e91_s k (allOK k)) (tab_cons (e92_s k (allOK k)) (tab_cons (e93_s k (allOK k)) (tab_cons (e101_s k (allOK k)) (tab_cons (e102_s k (allOK k)) (tab_cons (e103_s k (allOK k)) (tab_cons (e104_s k (allOK k)) (tab_cons (e118_s k (allOK k)) (tab_cons (e125_s k (allOK k)) (tab_cons (e137_s k (allOK k)) (tab_cons (e138_s k (allOK k)) (tab_cons (e139_s k (allOK k)) (tab_cons (e140_s k (allOK k)) (tab_cons (e141_s k (allOK k)) (tab_cons (e142_s k (allOK k)) (tab_cons (e143_s k (allOK k)) (tab_cons (e144_s k (allOK k)) (tab_cons (e145_s k (allOK k)) (tab_cons (e146_s k (allOK k)) (tab_cons (e147_s k (allOK k)) (tab_cons (e148_s k (allOK k)) (tab_cons (e149_s k (allOK k)) (tab_cons (e150_s k (allOK k)) (tab_cons (e152_s k (allOK k)) (tab_cons (e157_s k (allOK k)) (tab_cons (e158_s k (allOK k)) (tab_cons (e159_s k (allOK k)) (tab_cons (e160_s k (allOK k)) (tab_cons (e161_s k (allOK k)) (tab_cons (e162_s k (allOK k)) (tab_cons (e163_s k (allOK k)) (tab_cons (e164_s k (allOK k)) (tab_cons (e166_s k (allOK k)) (tab_cons (e172_s k (allOK k)) (tab_cons (e173_s k (allOK k)) (tab_cons (e174_s k (allOK k)) (tab_cons (e175_s k (allOK k)) (tab_cons (e176_s k (allOK k)) (tab_cons (e177_s k (allOK k)) (tab_cons (e178_s k (allOK k)) (tab_cons (e185_s k (allOK k)) (tab_cons (e186_s k (allOK k)) (tab_cons (e187_s k (allOK k)) (tab_cons (e195_s k (allOK k)) (tab_cons (e196_s k (allOK k)) (tab_cons (e197_s k (allOK k)) (tab_cons (e208_s k (allOK k)) (tab_cons (e216_s k (allOK k)) (tab_cons (e217_s k (allOK k)) (tab_cons (e218_s k (allOK k)) (tab_cons (e228_s k (allOK k)) (noCall_ok _)))))))))))))))))))))))))))))))))))))))))))))))))))))))))))))))))))))))))))
end Go.RX
