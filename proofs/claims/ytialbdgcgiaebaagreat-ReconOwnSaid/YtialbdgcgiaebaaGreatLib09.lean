import Derived.Test.YtialbdgcgiaebaaGreatLib08
set_option linter.all false
section
namespace Hud
open Go
def h_cmp_isNaN_int : HFun := ⟨6, [(2, none)],
  .seq (.seq (.reg [⟨some 2, .mov (.const (.bool false)), none⟩]) (.kill [2])) (.seq (.seq (.reg [⟨some 3, .mov (.tmp 0), none⟩, ⟨some 4, .mov (.tmp 0), none⟩, ⟨some 5, .bin .neq (.tmp 3) (.tmp 4), none⟩, ⟨some 2, .mov (.tmp 5), none⟩]) (.kill [0, 5, 4, 3])) .ret)⟩
theorem h_cmp_isNaN_int_ok : compFunH Go.Proofs.Tryz.prog n_cmp_isNaN_int [] = some h_cmp_isNaN_int := by kernel_rfl
end Hud
end
section
namespace Hud
open Go
def h_r01_Around : HFun := ⟨13, [(4, none)],
  .seq (.seq (.reg [⟨some 4, .mov (.const (.int .i64 0)), none⟩]) (.kill [4])) (.seq (.seq (.seq (.reg [⟨some 5, .mov (.tmp 0), none⟩, ⟨some 6, .bin .lss (.tmp 5) (.const (.int .i64 0)), none⟩]) (.kill [5])) (.cond (.tmp 6) (.seq (.kill [6]) (.seq (.reg [⟨some 7, .mov (.tmp 0), none⟩, ⟨some 8, .bin .add (.tmp 7) (.const (.int .i64 1)), none⟩, ⟨some 9, .un .neg (.tmp 8), none⟩, ⟨some 0, .mov (.tmp 9), none⟩]) (.kill [9, 8, 7]))) (.seq (.kill [6]) .skip))) (.seq (.seq (.reg [⟨some 10, .mov (.tmp 0), none⟩, ⟨some 11, .mov (.tmp 1), none⟩, ⟨some 12, .bin .rem (.tmp 10) (.tmp 11), none⟩, ⟨some 4, .mov (.tmp 12), none⟩]) (.kill [0, 1, 12, 11, 10])) .ret))⟩
theorem h_r01_Around_ok : compFunH Go.Proofs.Tryz.prog n_r01_Around [] = some h_r01_Around := by kernel_rfl
def h_field_Mul : HFun := ⟨21, [(4, none)],
  .seq (.seq (.reg [⟨some 4, .mov (.const (.int .u64 0)), none⟩]) (.kill [4])) (.seq (.seq (.reg [⟨some 8, .mov (.tmp 0), none⟩, ⟨some 9, .call (.func n_field_Num) [.tmp 8], none⟩, ⟨some 10, .mov (.tmp 1), none⟩, ⟨some 11, .call (.func n_field_Num) [.tmp 10], none⟩, ⟨some 12, .call (.func n_math_bits_Mul64) [.tmp 9, .tmp 11], none⟩, ⟨some 7, .mov (.tmp 12), none⟩, ⟨some 13, .ext (.tmp 7) 0, none⟩, ⟨some 14, .ext (.tmp 7) 1, none⟩, ⟨some 5, .mov (.tmp 13), none⟩, ⟨some 6, .mov (.tmp 14), none⟩]) (.kill [0, 1, 14, 13, 7, 12, 11, 10, 9, 8])) (.seq (.seq (.reg [⟨some 15, .mov (.tmp 6), none⟩, ⟨some 16, .call (.func n_field_Num) [.tmp 15], none⟩, ⟨some 17, .mov (.tmp 5), none⟩, ⟨some 18, .bin .shl (.tmp 17) (.const (.int .u64 3)), none⟩, ⟨some 19, .bin .add (.tmp 16) (.tmp 18), none⟩, ⟨some 20, .call (.func n_field_Num) [.tmp 19], none⟩, ⟨some 4, .mov (.tmp 20), none⟩]) (.kill [6, 5, 20, 19, 18, 17, 16, 15])) .ret))⟩
theorem h_field_Mul_ok : compFunH Go.Proofs.Tryz.prog n_field_Mul [] = some h_field_Mul := by kernel_rfl
def h_field_Sub : HFun := ⟨12, [(4, none)],
  .seq (.seq (.reg [⟨some 4, .mov (.const (.int .u64 0)), none⟩]) (.kill [4])) (.seq (.seq (.reg [⟨some 5, .mov (.tmp 0), none⟩, ⟨some 6, .call (.func n_field_Num) [.tmp 5], none⟩, ⟨some 7, .bin .add (.tmp 6) (.const (.int .u64 2305843009213693951)), none⟩, ⟨some 8, .mov (.tmp 1), none⟩, ⟨some 9, .call (.func n_field_Num) [.tmp 8], none⟩, ⟨some 10, .bin .sub (.tmp 7) (.tmp 9), none⟩, ⟨some 11, .call (.func n_field_Num) [.tmp 10], none⟩, ⟨some 4, .mov (.tmp 11), none⟩]) (.kill [0, 1, 11, 10, 9, 8, 7, 6, 5])) .ret)⟩
theorem h_field_Sub_ok : compFunH Go.Proofs.Tryz.prog n_field_Sub [] = some h_field_Sub := by kernel_rfl
def h_hash_Of : HFun := ⟨40, [(4, none)],
  .seq (.reg [⟨some 4, .mov (.const (.int .u64 0)), none⟩]) (.seq (.seq (.reg [⟨some 9, .mov (.tmp 0), none⟩, ⟨some 10, .lenS (.tmp 9), none⟩, ⟨some 11, .conv .u64 (.tmp 10), none⟩, ⟨some 12, .bld [.int .u64 0, .int .u64 0] [(0, (1, .tmp 11))], none⟩, ⟨some 5, .alloc [.int .u64 0, .int .u64 0], none⟩, ⟨none, .st 2 (.tmp 5) (.tmp 12), none⟩]) (.kill [12, 11, 10, 9])) (.seq (.seq (.seq (.reg [⟨some 13, .mov (.tmp 0), none⟩, ⟨some 14, .s2b (.tmp 13), none⟩, ⟨some 15, .call (.func n_hash_words) [.tmp 14], none⟩]) (.kill [0, 14, 13])) (.block 0 (.rng (.tmp 15) [16] [5] (.seq (.reg [⟨some 6, .mov (.tmp 16), none⟩]) (.kill [16])) (.block 1 (.seq (.reg [⟨some 17, .mov (.tmp 6), none⟩, ⟨some 18, .bsl 1 [.int .u64 0] [(0, (1, .tmp 17))] 1, none⟩, ⟨some 19, .call (.func n_hash_state_take) [.tmp 5, .tmp 18], none⟩]) (.kill [6, 5, 19, 18, 17])))))) (.seq (.seq (.reg [⟨some 20, .mov (.tmp 1), none⟩, ⟨some 21, .lenL (.tmp 20), none⟩, ⟨some 22, .conv .u64 (.tmp 21), none⟩, ⟨some 23, .bsl 1 [.int .u64 0] [(0, (1, .tmp 22))] 1, none⟩, ⟨some 24, .call (.func n_hash_state_take) [.tmp 5, .tmp 23], none⟩]) (.kill [24, 23, 22, 21, 20])) (.seq (.seq (.seq (.reg [⟨some 25, .mov (.tmp 1), none⟩, ⟨some 26, .lenL (.tmp 25), none⟩, ⟨some 27, .mov (.const (.int .i64 0)), none⟩]) (.kill [1])) (.block 2 (.loop [] (.seq (.reg [⟨some 28, .bin .lss (.tmp 27) (.tmp 26), none⟩]) (.seq (.cond (.tmp 28) (.seq (.kill [28]) .skip) (.seq (.kill [25, 27, 26, 28]) (.exit 2))) (.seq (.block 3 (.seq (.seq (.reg [⟨some 29, .iad (.tmp 25) (.tmp 27) 1, none⟩, ⟨some 30, .ld none (.tmp 29), none⟩, ⟨some 8, .mov (.tmp 30), none⟩]) (.kill [30, 29])) (.seq (.reg [⟨some 31, .mov (.tmp 8), none⟩, ⟨some 32, .call (.func n_field_Num) [.tmp 31], none⟩, ⟨some 33, .bsl 1 [.int .u64 0] [(0, (1, .tmp 32))] 1, none⟩, ⟨some 34, .call (.func n_hash_state_take) [.tmp 5, .tmp 33], none⟩]) (.kill [8, 34, 33, 32, 31])))) (.seq (.reg [⟨some 35, .bin .add (.tmp 27) (.const (.int .i64 1)), none⟩, ⟨some 27, .mov (.tmp 35), none⟩]) (.kill [35])))))))) (.seq (.seq (.reg [⟨some 36, .bsl 1 [.int .u64 0] [(0, (1, .const (.int .u64 0)))] 1, none⟩, ⟨some 37, .call (.func n_hash_state_take) [.tmp 5, .tmp 36], none⟩]) (.kill [37, 36])) (.seq (.seq (.reg [⟨some 38, .fad (.tmp 5) 0, none⟩, ⟨some 39, .ld none (.tmp 38), none⟩, ⟨some 4, .mov (.tmp 39), none⟩]) (.kill [5, 39, 38])) .ret))))))⟩
theorem h_hash_Of_ok : compFunH Go.Proofs.Tryz.prog n_hash_Of [] = some h_hash_Of := by kernel_rfl
def h_math_bits_Len : HFun := ⟨8, [(2, none)],
  .seq (.seq (.reg [⟨some 2, .mov (.const (.int .i64 0)), none⟩]) (.kill [2])) (.seq (.cond (.const (.bool false)) (.seq (.seq (.reg [⟨some 3, .mov (.tmp 0), none⟩, ⟨some 4, .conv .u32 (.tmp 3), none⟩, ⟨some 5, .call (.func n_math_bits_Len32) [.tmp 4], none⟩, ⟨some 2, .mov (.tmp 5), none⟩]) (.kill [0, 5, 4, 3])) .ret) .skip) (.seq (.seq (.reg [⟨some 6, .mov (.tmp 0), none⟩, ⟨some 7, .call (.func n_math_bits_Len64) [.tmp 6], none⟩, ⟨some 2, .mov (.tmp 7), none⟩]) (.kill [0, 7, 6])) .ret))⟩
theorem h_math_bits_Len_ok : compFunH Go.Proofs.Tryz.prog n_math_bits_Len [] = some h_math_bits_Len := by kernel_rfl
def h_field_Neg : HFun := ⟨5, [(2, none)],
  .seq (.seq (.reg [⟨some 2, .mov (.const (.int .u64 0)), none⟩]) (.kill [2])) (.seq (.seq (.reg [⟨some 3, .mov (.tmp 0), none⟩, ⟨some 4, .call (.func n_field_Sub) [.const (.int .u64 0), .tmp 3], none⟩, ⟨some 2, .mov (.tmp 4), none⟩]) (.kill [0, 4, 3])) .ret)⟩
theorem h_field_Neg_ok : compFunH Go.Proofs.Tryz.prog n_field_Neg [] = some h_field_Neg := by kernel_rfl
def h_field_Add : HFun := ⟨11, [(4, none)],
  .seq (.seq (.reg [⟨some 4, .mov (.const (.int .u64 0)), none⟩]) (.kill [4])) (.seq (.seq (.reg [⟨some 5, .mov (.tmp 0), none⟩, ⟨some 6, .call (.func n_field_Num) [.tmp 5], none⟩, ⟨some 7, .mov (.tmp 1), none⟩, ⟨some 8, .call (.func n_field_Num) [.tmp 7], none⟩, ⟨some 9, .bin .add (.tmp 6) (.tmp 8), none⟩, ⟨some 10, .call (.func n_field_Num) [.tmp 9], none⟩, ⟨some 4, .mov (.tmp 10), none⟩]) (.kill [0, 1, 10, 9, 8, 7, 6, 5])) .ret)⟩
theorem h_field_Add_ok : compFunH Go.Proofs.Tryz.prog n_field_Add [] = some h_field_Add := by kernel_rfl
def h_field_Inv : HFun := ⟨5, [(2, none)],
  .seq (.seq (.reg [⟨some 2, .mov (.const (.int .u64 0)), none⟩]) (.kill [2])) (.seq (.seq (.reg [⟨some 3, .mov (.tmp 0), none⟩, ⟨some 4, .call (.func n_field_Pow) [.tmp 3, .const (.int .u64 2305843009213693949)], none⟩, ⟨some 2, .mov (.tmp 4), none⟩]) (.kill [0, 4, 3])) .ret)⟩
theorem h_field_Inv_ok : compFunH Go.Proofs.Tryz.prog n_field_Inv [] = some h_field_Inv := by kernel_rfl
def h_math_bits_Mul64 : HFun := ⟨51, [(4, none), (5, none)],
  .seq (.seq (.reg [⟨some 4, .mov (.const (.int .u64 0)), none⟩, ⟨some 5, .mov (.const (.int .u64 0)), none⟩]) (.kill [5, 4])) (.seq (.seq (.reg [⟨some 14, .mov (.tmp 0), none⟩, ⟨some 15, .bin .and (.tmp 14) (.const (.int .u64 4294967295)), none⟩, ⟨some 6, .mov (.tmp 15), none⟩]) (.kill [15, 14])) (.seq (.seq (.reg [⟨some 16, .mov (.tmp 0), none⟩, ⟨some 17, .bin .shr (.tmp 16) (.const (.int .u64 32)), none⟩, ⟨some 7, .mov (.tmp 17), none⟩]) (.kill [17, 16])) (.seq (.seq (.reg [⟨some 18, .mov (.tmp 1), none⟩, ⟨some 19, .bin .and (.tmp 18) (.const (.int .u64 4294967295)), none⟩, ⟨some 8, .mov (.tmp 19), none⟩]) (.kill [19, 18])) (.seq (.seq (.reg [⟨some 20, .mov (.tmp 1), none⟩, ⟨some 21, .bin .shr (.tmp 20) (.const (.int .u64 32)), none⟩, ⟨some 9, .mov (.tmp 21), none⟩]) (.kill [21, 20])) (.seq (.seq (.reg [⟨some 22, .mov (.tmp 6), none⟩, ⟨some 23, .mov (.tmp 8), none⟩, ⟨some 24, .bin .mul (.tmp 22) (.tmp 23), none⟩, ⟨some 10, .mov (.tmp 24), none⟩]) (.kill [24, 23, 22])) (.seq (.seq (.reg [⟨some 25, .mov (.tmp 7), none⟩, ⟨some 26, .mov (.tmp 8), none⟩, ⟨some 27, .bin .mul (.tmp 25) (.tmp 26), none⟩, ⟨some 28, .mov (.tmp 10), none⟩, ⟨some 29, .bin .shr (.tmp 28) (.const (.int .u64 32)), none⟩, ⟨some 30, .bin .add (.tmp 27) (.tmp 29), none⟩, ⟨some 11, .mov (.tmp 30), none⟩]) (.kill [8, 10, 30, 29, 28, 27, 26, 25])) (.seq (.seq (.reg [⟨some 31, .mov (.tmp 11), none⟩, ⟨some 32, .bin .and (.tmp 31) (.const (.int .u64 4294967295)), none⟩, ⟨some 12, .mov (.tmp 32), none⟩]) (.kill [32, 31])) (.seq (.seq (.reg [⟨some 33, .mov (.tmp 11), none⟩, ⟨some 34, .bin .shr (.tmp 33) (.const (.int .u64 32)), none⟩, ⟨some 13, .mov (.tmp 34), none⟩]) (.kill [11, 34, 33])) (.seq (.seq (.reg [⟨some 35, .mov (.tmp 12), none⟩, ⟨some 36, .mov (.tmp 6), none⟩, ⟨some 37, .mov (.tmp 9), none⟩, ⟨some 38, .bin .mul (.tmp 36) (.tmp 37), none⟩, ⟨some 39, .bin .add (.tmp 35) (.tmp 38), none⟩, ⟨some 12, .mov (.tmp 39), none⟩]) (.kill [6, 39, 38, 37, 36, 35])) (.seq (.seq (.reg [⟨some 40, .mov (.tmp 7), none⟩, ⟨some 41, .mov (.tmp 9), none⟩, ⟨some 42, .bin .mul (.tmp 40) (.tmp 41), none⟩, ⟨some 43, .mov (.tmp 13), none⟩, ⟨some 44, .bin .add (.tmp 42) (.tmp 43), none⟩, ⟨some 45, .mov (.tmp 12), none⟩, ⟨some 46, .bin .shr (.tmp 45) (.const (.int .u64 32)), none⟩, ⟨some 47, .bin .add (.tmp 44) (.tmp 46), none⟩, ⟨some 4, .mov (.tmp 47), none⟩]) (.kill [7, 9, 13, 12, 47, 46, 45, 44, 43, 42, 41, 40])) (.seq (.seq (.reg [⟨some 48, .mov (.tmp 0), none⟩, ⟨some 49, .mov (.tmp 1), none⟩, ⟨some 50, .bin .mul (.tmp 48) (.tmp 49), none⟩, ⟨some 5, .mov (.tmp 50), none⟩]) (.kill [0, 1, 50, 49, 48])) .ret)))))))))))⟩
theorem h_math_bits_Mul64_ok : compFunH Go.Proofs.Tryz.prog n_math_bits_Mul64 [] = some h_math_bits_Mul64 := by kernel_rfl
def h_field_Num : HFun := ⟨13, [(2, none)],
  .seq (.seq (.reg [⟨some 2, .mov (.const (.int .u64 0)), none⟩]) (.kill [2])) (.seq (.seq (.reg [⟨some 3, .mov (.tmp 0), none⟩, ⟨some 4, .bin .and (.tmp 3) (.const (.int .u64 2305843009213693951)), none⟩, ⟨some 5, .mov (.tmp 0), none⟩, ⟨some 6, .bin .shr (.tmp 5) (.const (.int .u64 61)), none⟩, ⟨some 7, .bin .add (.tmp 4) (.tmp 6), none⟩, ⟨some 0, .mov (.tmp 7), none⟩]) (.kill [7, 6, 5, 4, 3])) (.seq (.seq (.seq (.reg [⟨some 8, .mov (.tmp 0), none⟩, ⟨some 9, .bin .geq (.tmp 8) (.const (.int .u64 2305843009213693951)), none⟩]) (.kill [8])) (.cond (.tmp 9) (.seq (.kill [9]) (.seq (.reg [⟨some 10, .mov (.tmp 0), none⟩, ⟨some 11, .bin .sub (.tmp 10) (.const (.int .u64 2305843009213693951)), none⟩, ⟨some 0, .mov (.tmp 11), none⟩]) (.kill [11, 10]))) (.seq (.kill [9]) .skip))) (.seq (.seq (.reg [⟨some 12, .mov (.tmp 0), none⟩, ⟨some 2, .mov (.tmp 12), none⟩]) (.kill [0, 12])) .ret)))⟩
theorem h_field_Num_ok : compFunH Go.Proofs.Tryz.prog n_field_Num [] = some h_field_Num := by kernel_rfl
def h_hash_words : HFun := ⟨4, [(2, none)],
  .seq (.seq (.reg [⟨some 1, .box (.tmp 0), none⟩, ⟨some 2, .mov (.const .nilFunc), none⟩]) (.kill [0, 2])) (.seq (.seq (.reg [⟨some 3, .clo n_hash_words_1 [.tmp 1], none⟩, ⟨some 2, .mov (.tmp 3), none⟩]) (.kill [1, 3])) .ret)⟩
theorem h_hash_words_ok : compFunH Go.Proofs.Tryz.prog n_hash_words [] = some h_hash_words := by kernel_rfl
def h_hash_state_take : HFun := ⟨37, [],
  .seq (.seq (.reg [⟨some 6, .mov (.tmp 1), none⟩, ⟨some 7, .lenL (.tmp 6), none⟩, ⟨some 8, .mov (.const (.int .i64 0)), none⟩]) (.kill [1])) (.block 0 (.loop [] (.seq (.reg [⟨some 9, .bin .lss (.tmp 8) (.tmp 7), none⟩]) (.seq (.cond (.tmp 9) (.seq (.kill [9]) .skip) (.seq (.kill [6, 8, 7, 0, 9]) (.exit 0))) (.seq (.block 1 (.seq (.seq (.reg [⟨some 10, .iad (.tmp 6) (.tmp 8) 1, none⟩, ⟨some 11, .ld none (.tmp 10), none⟩, ⟨some 5, .mov (.tmp 11), none⟩]) (.kill [11, 10])) (.seq (.seq (.reg [⟨some 12, .mov (.tmp 0), none⟩, ⟨some 13, .nilc (.tmp 12), none⟩, ⟨some 14, .fad (.tmp 13) 1, none⟩, ⟨some 15, .ld none (.tmp 14), none⟩, ⟨some 16, .bin .add (.tmp 15) (.const (.int .u64 1)), none⟩, ⟨some 17, .nilc (.tmp 12), none⟩, ⟨some 18, .fad (.tmp 17) 1, none⟩, ⟨none, .st 1 (.tmp 18) (.tmp 16), none⟩]) (.kill [18, 17, 16, 15, 14, 13, 12])) (.seq (.regd (.q ⟨some 19, .mov (.tmp 0), none⟩ (.q ⟨some 20, .mov (.tmp 0), none⟩ (.q ⟨some 21, .nilc (.tmp 20), none⟩ (.q ⟨some 22, .fad (.tmp 21) 0, none⟩ (.q ⟨some 23, .ld none (.tmp 22), none⟩ (.q ⟨some 25, .mov (.tmp 5), none⟩ (.q ⟨some 26, .mov (.tmp 0), none⟩ (.q ⟨some 27, .nilc (.tmp 26), none⟩ (.q ⟨some 28, .fad (.tmp 27) 1, none⟩ (.q ⟨some 29, .ld none (.tmp 28), none⟩ (.q ⟨some 30, .bin .add (.tmp 25) (.tmp 29), none⟩ (.alt ⟨some 24, .call (.func n_field_Mul) [.const (.int .u64 37), .tmp 23], none⟩ [⟨some 30, .bin .add (.tmp 25) (.tmp 29), none⟩, ⟨some 29, .ld none (.tmp 28), none⟩, ⟨some 28, .fad (.tmp 27) 1, none⟩, ⟨some 27, .nilc (.tmp 26), none⟩, ⟨some 26, .mov (.tmp 0), none⟩, ⟨some 25, .mov (.tmp 5), none⟩, ⟨some 19, .mov (.tmp 0), none⟩] (.alt ⟨some 31, .call (.func n_field_Num) [.tmp 30], none⟩ [⟨some 19, .mov (.tmp 0), none⟩] (.alt ⟨some 32, .call (.func n_field_Add) [.tmp 24, .tmp 31], none⟩ [⟨some 19, .mov (.tmp 0), none⟩] (.alt ⟨some 33, .call (.func n_field_Pow) [.tmp 32, .const (.int .u64 17)], none⟩ [⟨some 19, .mov (.tmp 0), none⟩] (.q ⟨some 34, .nilc (.tmp 19), none⟩ (.q ⟨some 35, .fad (.tmp 34) 0, none⟩ (.alt ⟨none, .st 1 (.tmp 35) (.tmp 33), none⟩ [] (.done false) .no))) .no) .no) .no) .no))))))))))))) (.kill [5, 35, 34, 33, 32, 31, 30, 29, 28, 27, 26, 25, 24, 23, 22, 21, 20, 19]))))) (.seq (.reg [⟨some 36, .bin .add (.tmp 8) (.const (.int .i64 1)), none⟩, ⟨some 8, .mov (.tmp 36), none⟩]) (.kill [36])))))))⟩
theorem h_hash_state_take_ok : compFunH Go.Proofs.Tryz.prog n_hash_state_take [] = some h_hash_state_take := by kernel_rfl
def h_math_bits_Len64 : HFun := ⟨25, [(2, none)],
  .seq (.reg [⟨some 2, .mov (.const (.int .i64 0)), none⟩]) (.seq (.seq (.seq (.reg [⟨some 3, .mov (.tmp 0), none⟩, ⟨some 4, .bin .geq (.tmp 3) (.const (.int .u64 4294967296)), none⟩]) (.kill [3])) (.cond (.tmp 4) (.seq (.kill [2, 4]) (.seq (.seq (.reg [⟨some 5, .mov (.tmp 0), none⟩, ⟨some 6, .bin .shr (.tmp 5) (.const (.int .u64 32)), none⟩, ⟨some 0, .mov (.tmp 6), none⟩]) (.kill [6, 5])) (.reg [⟨some 2, .mov (.const (.int .i64 32)), none⟩]))) (.seq (.kill [4]) .skip))) (.seq (.seq (.seq (.reg [⟨some 7, .mov (.tmp 0), none⟩, ⟨some 8, .bin .geq (.tmp 7) (.const (.int .u64 65536)), none⟩]) (.kill [7])) (.cond (.tmp 8) (.seq (.kill [8]) (.seq (.seq (.reg [⟨some 9, .mov (.tmp 0), none⟩, ⟨some 10, .bin .shr (.tmp 9) (.const (.int .u64 16)), none⟩, ⟨some 0, .mov (.tmp 10), none⟩]) (.kill [10, 9])) (.seq (.reg [⟨some 11, .mov (.tmp 2), none⟩, ⟨some 12, .bin .add (.tmp 11) (.const (.int .i64 16)), none⟩, ⟨some 2, .mov (.tmp 12), none⟩]) (.kill [12, 11])))) (.seq (.kill [8]) .skip))) (.seq (.seq (.seq (.reg [⟨some 13, .mov (.tmp 0), none⟩, ⟨some 14, .bin .geq (.tmp 13) (.const (.int .u64 256)), none⟩]) (.kill [13])) (.cond (.tmp 14) (.seq (.kill [14]) (.seq (.seq (.reg [⟨some 15, .mov (.tmp 0), none⟩, ⟨some 16, .bin .shr (.tmp 15) (.const (.int .u64 8)), none⟩, ⟨some 0, .mov (.tmp 16), none⟩]) (.kill [16, 15])) (.seq (.reg [⟨some 17, .mov (.tmp 2), none⟩, ⟨some 18, .bin .add (.tmp 17) (.const (.int .i64 8)), none⟩, ⟨some 2, .mov (.tmp 18), none⟩]) (.kill [18, 17])))) (.seq (.kill [14]) .skip))) (.seq (.seq (.reg [⟨some 19, .mov (.tmp 2), none⟩, ⟨some 20, .mov (.tmp 0), none⟩, ⟨some 21, .conv .u8 (.tmp 20), none⟩, ⟨some 22, .ixS (.const (.string (Hud.bs [0, 1, 2, 2, 3, 3, 3, 3, 4, 4, 4, 4, 4, 4, 4, 4, 5, 5, 5, 5, 5, 5, 5, 5, 5, 5, 5, 5, 5, 5, 5, 5, 6, 6, 6, 6, 6, 6, 6, 6, 6, 6, 6, 6, 6, 6, 6, 6, 6, 6, 6, 6, 6, 6, 6, 6, 6, 6, 6, 6, 6, 6, 6, 6, 7, 7, 7, 7, 7, 7, 7, 7, 7, 7, 7, 7, 7, 7, 7, 7, 7, 7, 7, 7, 7, 7, 7, 7, 7, 7, 7, 7, 7, 7, 7, 7, 7, 7, 7, 7, 7, 7, 7, 7, 7, 7, 7, 7, 7, 7, 7, 7, 7, 7, 7, 7, 7, 7, 7, 7, 7, 7, 7, 7, 7, 7, 7, 7, 8, 8, 8, 8, 8, 8, 8, 8, 8, 8, 8, 8, 8, 8, 8, 8, 8, 8, 8, 8, 8, 8, 8, 8, 8, 8, 8, 8, 8, 8, 8, 8, 8, 8, 8, 8, 8, 8, 8, 8, 8, 8, 8, 8, 8, 8, 8, 8, 8, 8, 8, 8, 8, 8, 8, 8, 8, 8, 8, 8, 8, 8, 8, 8, 8, 8, 8, 8, 8, 8, 8, 8, 8, 8, 8, 8, 8, 8, 8, 8, 8, 8, 8, 8, 8, 8, 8, 8, 8, 8, 8, 8, 8, 8, 8, 8, 8, 8, 8, 8, 8, 8, 8, 8, 8, 8, 8, 8, 8, 8, 8, 8, 8, 8, 8, 8, 8, 8, 8, 8, 8, 8, 8, 8, 8, 8, 8, 8]))) (.tmp 21), none⟩, ⟨some 23, .conv .i64 (.tmp 22), none⟩, ⟨some 24, .bin .add (.tmp 19) (.tmp 23), none⟩, ⟨some 2, .mov (.tmp 24), none⟩]) (.kill [0, 24, 23, 22, 21, 20, 19])) .ret))))⟩
theorem h_math_bits_Len64_ok : compFunH Go.Proofs.Tryz.prog n_math_bits_Len64 [] = some h_math_bits_Len64 := by kernel_rfl
def h_field_Pow : HFun := ⟨18, [(4, none)],
  .seq (.reg [⟨some 4, .mov (.const (.int .u64 0)), none⟩]) (.seq (.reg [⟨some 5, .alloc [.int .u64 0], none⟩, ⟨none, .st 1 (.tmp 5) (.const (.int .u64 1)), none⟩]) (.seq (.seq (.seq (.reg [⟨some 8, .mov (.tmp 0), none⟩, ⟨some 9, .mov (.tmp 1), none⟩, ⟨some 10, .call (.func n_field_squares) [.tmp 8, .tmp 9], none⟩]) (.kill [0, 1, 9, 8])) (.block 0 (.rng (.tmp 10) [11, 12] [5] (.seq (.seq (.reg [⟨some 6, .mov (.tmp 11), none⟩]) (.kill [11])) (.seq (.reg [⟨some 7, .mov (.tmp 12), none⟩]) (.kill [12]))) (.block 1 (.seq (.seq (.reg [⟨some 13, .mov (.tmp 7), none⟩]) (.kill [7])) (.cond (.tmp 13) (.seq (.kill [13]) (.seq (.reg [⟨some 14, .ld none (.tmp 5), none⟩, ⟨some 15, .mov (.tmp 6), none⟩, ⟨some 16, .call (.func n_field_Mul) [.tmp 14, .tmp 15], none⟩, ⟨none, .st 1 (.tmp 5) (.tmp 16), none⟩]) (.kill [5, 6, 16, 15, 14]))) (.seq (.kill [5, 6, 13]) .skip))))))) (.seq (.seq (.reg [⟨some 17, .ld none (.tmp 5), none⟩, ⟨some 4, .mov (.tmp 17), none⟩]) (.kill [5, 17])) .ret)))⟩
theorem h_field_Pow_ok : compFunH Go.Proofs.Tryz.prog n_field_Pow [] = some h_field_Pow := by kernel_rfl
def h_hash_words_1 : HFun := ⟨29, [],
  .seq (.seq (.reg [⟨some 2, .box (.tmp 0), none⟩]) (.kill [0])) (.seq (.seq (.reg [⟨some 7, .ld none (.tmp 1), none⟩, ⟨some 8, .call (.func n_slices_Chunk_Lbyte_byte) [.tmp 7, .const (.int .i64 7)], none⟩]) (.kill [1, 7])) (.block 0 (.rng (.tmp 8) [9] [2] (.seq (.reg [⟨some 3, .mov (.tmp 9), none⟩]) (.kill [9])) (.block 1 (.seq (.reg [⟨some 4, .mov (.const (.int .u64 0)), none⟩]) (.seq (.seq (.seq (.reg [⟨some 10, .mov (.tmp 3), none⟩, ⟨some 11, .lenL (.tmp 10), none⟩, ⟨some 12, .mov (.const (.int .i64 0)), none⟩]) (.kill [3])) (.block 2 (.loop [] (.seq (.reg [⟨some 13, .bin .lss (.tmp 12) (.tmp 11), none⟩]) (.seq (.cond (.tmp 13) (.seq (.kill [13]) .skip) (.seq (.kill [12, 10, 11, 13]) (.exit 2))) (.seq (.block 3 (.seq (.seq (.reg [⟨some 14, .mov (.tmp 12), none⟩, ⟨some 15, .iad (.tmp 10) (.tmp 12) 1, none⟩, ⟨some 16, .ld none (.tmp 15), none⟩, ⟨some 5, .mov (.tmp 14), none⟩, ⟨some 6, .mov (.tmp 16), none⟩]) (.kill [16, 15, 14])) (.seq (.reg [⟨some 17, .mov (.tmp 4), none⟩, ⟨some 18, .mov (.tmp 6), none⟩, ⟨some 19, .conv .u64 (.tmp 18), none⟩, ⟨some 20, .mov (.tmp 5), none⟩, ⟨some 21, .bin .mul (.const (.int .i64 8)) (.tmp 20), none⟩, ⟨some 22, .bin .shl (.tmp 19) (.tmp 21), none⟩, ⟨some 23, .bin .or (.tmp 17) (.tmp 22), none⟩, ⟨some 4, .mov (.tmp 23), none⟩]) (.kill [6, 5, 23, 22, 21, 20, 19, 18, 17])))) (.seq (.reg [⟨some 24, .bin .add (.tmp 12) (.const (.int .i64 1)), none⟩, ⟨some 12, .mov (.tmp 24), none⟩]) (.kill [24])))))))) (.seq (.seq (.reg [⟨some 25, .ld none (.tmp 2), none⟩, ⟨some 26, .mov (.tmp 4), none⟩, ⟨some 27, .call (.tmp 25) [.tmp 26], none⟩, ⟨some 28, .un .not (.tmp 27), none⟩]) (.kill [2, 4, 27, 26, 25])) (.cond (.tmp 28) (.seq (.kill [28]) .ret) (.seq (.kill [28]) .skip)))))))))⟩
theorem h_hash_words_1_ok : compFunH Go.Proofs.Tryz.prog n_hash_words_1 [] = some h_hash_words_1 := by kernel_rfl
def h_slices_Chunk_Lbyte_byte : HFun := ⟨9, [(4, none)],
  .seq (.seq (.reg [⟨some 2, .box (.tmp 0), none⟩, ⟨some 3, .box (.tmp 1), none⟩, ⟨some 4, .mov (.const .nilFunc), none⟩]) (.kill [0, 1, 4])) (.seq (.seq (.seq (.reg [⟨some 5, .ld none (.tmp 3), none⟩, ⟨some 6, .bin .lss (.tmp 5) (.const (.int .i64 1)), none⟩]) (.kill [5])) (.cond (.tmp 6) (.seq (.kill [6]) (.seq (.reg [⟨some 7, .bad, none⟩, ⟨none, .bad, none⟩]) (.kill [7]))) (.seq (.kill [6]) .skip))) (.seq (.seq (.reg [⟨some 8, .clo n_slices_Chunk_Lbyte_byte_1 [.tmp 2, .tmp 3], none⟩, ⟨some 4, .mov (.tmp 8), none⟩]) (.kill [2, 3, 8])) .ret))⟩
theorem h_slices_Chunk_Lbyte_byte_ok : compFunH Go.Proofs.Tryz.prog n_slices_Chunk_Lbyte_byte [] = some h_slices_Chunk_Lbyte_byte := by kernel_rfl
def h_field_squares : HFun := ⟨6, [(4, none)],
  .seq (.seq (.reg [⟨some 2, .box (.tmp 0), none⟩, ⟨some 3, .box (.tmp 1), none⟩, ⟨some 4, .mov (.const .nilFunc), none⟩]) (.kill [0, 1, 4])) (.seq (.seq (.reg [⟨some 5, .clo n_field_squares_1 [.tmp 2, .tmp 3], none⟩, ⟨some 4, .mov (.tmp 5), none⟩]) (.kill [2, 3, 5])) .ret)⟩
theorem h_field_squares_ok : compFunH Go.Proofs.Tryz.prog n_field_squares [] = some h_field_squares := by kernel_rfl
def h_slices_Chunk_Lbyte_byte_1 : HFun := ⟨31, [],
  .seq (.reg [⟨some 4, .mov (.const (.int .i64 0)), none⟩]) (.block 0 (.loop [] (.seq (.seq (.seq (.reg [⟨some 6, .mov (.tmp 4), none⟩, ⟨some 7, .ld none (.tmp 1), none⟩, ⟨some 8, .lenL (.tmp 7), none⟩, ⟨some 9, .bin .lss (.tmp 6) (.tmp 8), none⟩]) (.kill [8, 7, 6])) (.cond (.tmp 9) (.seq (.kill [9]) .skip) (.seq (.kill [2, 1, 4, 0, 9]) (.exit 0)))) (.seq (.block 1 (.seq (.seq (.regd (.q ⟨some 13, .ld none (.tmp 2), none⟩ (.q ⟨some 14, .ld none (.tmp 1), none⟩ (.q ⟨some 15, .mov (.tmp 4), none⟩ (.q ⟨some 16, .slc (.tmp 14) (some (.tmp 15)) none 1, none⟩ (.q ⟨some 17, .lenL (.tmp 16), none⟩ (.q ⟨some 18, .mm false (.tmp 13) (.tmp 17), none⟩ (.q ⟨some 5, .mov (.tmp 18), none⟩ (.done false))))))))) (.kill [18, 17, 16, 15, 14, 13])) (.seq (.seq (.reg [⟨some 19, .mov (.tmp 0), none⟩, ⟨some 20, .ld none (.tmp 1), none⟩, ⟨some 21, .mov (.tmp 4), none⟩, ⟨some 22, .mov (.tmp 4), none⟩, ⟨some 23, .mov (.tmp 5), none⟩, ⟨some 24, .bin .add (.tmp 22) (.tmp 23), none⟩, ⟨some 25, .mov (.tmp 4), none⟩, ⟨some 26, .mov (.tmp 5), none⟩, ⟨some 27, .bin .add (.tmp 25) (.tmp 26), none⟩, ⟨some 28, .slx (.tmp 20) (some (.tmp 21)) (.tmp 24) (.tmp 27) 1, none⟩, ⟨some 29, .call (.tmp 19) [.tmp 28], none⟩, ⟨some 30, .un .not (.tmp 29), none⟩]) (.kill [5, 29, 28, 27, 26, 25, 24, 23, 22, 21, 20, 19])) (.cond (.tmp 30) (.seq (.kill [4, 2, 0, 1, 30]) .ret) (.seq (.kill [30]) .skip))))) (.seq (.reg [⟨some 10, .mov (.tmp 4), none⟩, ⟨some 11, .ld none (.tmp 2), none⟩, ⟨some 12, .bin .add (.tmp 10) (.tmp 11), none⟩, ⟨some 4, .mov (.tmp 12), none⟩]) (.kill [12, 11, 10]))))))⟩
theorem h_slices_Chunk_Lbyte_byte_1_ok : compFunH Go.Proofs.Tryz.prog n_slices_Chunk_Lbyte_byte_1 [] = some h_slices_Chunk_Lbyte_byte_1 := by kernel_rfl
def h_field_squares_1 : HFun := ⟨22, [],
  .seq (.seq (.reg [⟨some 5, .ld none (.tmp 1), none⟩, ⟨some 6, .call (.func n_field_Num) [.tmp 5], none⟩, ⟨some 4, .mov (.tmp 6), none⟩]) (.kill [1, 6, 5])) (.block 0 (.loop [] (.seq (.seq (.seq (.reg [⟨some 7, .ld none (.tmp 2), none⟩, ⟨some 8, .bin .gtr (.tmp 7) (.const (.int .u64 0)), none⟩, ⟨some 9, .mov (.tmp 8), none⟩, ⟨some 10, .mov (.tmp 0), some (9, true)⟩, ⟨some 11, .mov (.tmp 4), some (9, true)⟩, ⟨some 12, .ld none (.tmp 2), some (9, true)⟩, ⟨some 13, .bin .and (.tmp 12) (.const (.int .u64 1)), some (9, true)⟩, ⟨some 14, .bin .eql (.tmp 13) (.const (.int .u64 1)), some (9, true)⟩, ⟨some 15, .call (.tmp 10) [.tmp 11, .tmp 14], some (9, true)⟩, ⟨some 16, .pick (.tmp 9) (.tmp 15) (.const (.bool false)), none⟩]) (.kill [15, 14, 13, 12, 11, 10, 9, 8, 7])) (.cond (.tmp 16) (.seq (.kill [16]) .skip) (.seq (.kill [4, 0, 2, 16]) (.exit 0)))) (.seq (.block 1 (.seq (.reg [⟨some 19, .mov (.tmp 4), none⟩, ⟨some 20, .mov (.tmp 4), none⟩, ⟨some 21, .call (.func n_field_Mul) [.tmp 19, .tmp 20], none⟩, ⟨some 4, .mov (.tmp 21), none⟩]) (.kill [21, 20, 19]))) (.seq (.reg [⟨some 17, .ld none (.tmp 2), none⟩, ⟨some 18, .bin .shr (.tmp 17) (.const (.int .u64 1)), none⟩, ⟨none, .st 1 (.tmp 2) (.tmp 18), none⟩]) (.kill [18, 17]))))))⟩
theorem h_field_squares_1_ok : compFunH Go.Proofs.Tryz.prog n_field_squares_1 [] = some h_field_squares_1 := by kernel_rfl
end Hud
end
section
namespace Hud
def pwm (m : Nat) : Nat → Nat → Nat → Nat → Nat
  | 0, _, _, acc => acc
  | f + 1, b, e, acc => if e = 0 then acc else pwm m f (b * b % m) (e / 2) (if e % 2 = 1 then acc * b % m else acc)
theorem pwm_ok (m : Nat) : ∀ (f b e acc : Nat), e < 2 ^ f → pwm m f b e acc % m = acc * b ^ e % m
  | 0, b, e, acc, h => by
    have : e = 0 := by simp at h; omega
    subst this; simp [pwm]
  | f + 1, b, e, acc, h => by
    simp only [pwm]
    split
    · rename_i h0; subst h0; simp
    · rw [pwm_ok m f _ (e / 2) _ (by rw [Nat.pow_succ] at h; omega)]
      have h2 : b ^ e = (b * b) ^ (e / 2) * b ^ (e % 2) := by
        rw [← Nat.pow_two, ← Nat.pow_mul, ← Nat.pow_add]
        congr 1; omega
      rw [Nat.mul_mod, Nat.pow_mod, Nat.mod_mod, ← Nat.pow_mod, ← Nat.mul_mod, h2]
      rcases Nat.mod_two_eq_zero_or_one e with h3 | h3
      · rw [h3]; simp
      · rw [h3]
        simp only [if_true, Nat.pow_one]
        rw [Nat.mul_mod, Nat.mod_mod, ← Nat.mul_mod]
        congr 1
        rw [Nat.mul_assoc, Nat.mul_comm b]
def PP : Nat := 2305843009213693951
def NN : Nat := 2305843009213693950
def facs : List Nat := [2, 3, 5, 7, 11, 13, 31, 41, 61, 151, 331, 1321]
theorem g_one : 37 ^ NN % PP = 1 := by
  have := pwm_ok PP 61 37 NN 1 (by decide)
  rw [Nat.one_mul] at this
  rw [← this]
  decide +kernel
theorem g_not : ∀ r ∈ facs, 37 ^ (NN / r) % PP ≠ 1 := by
  intro r hr
  have key : ∀ r ∈ facs, pwm PP 61 37 (NN / r) 1 % PP ≠ 1 := by decide +kernel
  have := pwm_ok PP 61 37 (NN / r) 1 (Nat.lt_of_le_of_lt (Nat.div_le_self _ _) (by decide))
  rw [Nat.one_mul] at this
  rw [← this]
  exact key r hr
theorem facs_prime : ∀ r ∈ facs, 1 < r ∧ ∀ d, d ∣ r → d = 1 ∨ d = r := by
  have key : ∀ r ∈ facs, 1 < r ∧ ∀ d, d < r → 1 < d → r % d ≠ 0 := by decide +kernel
  intro r hr
  obtain ⟨h1, h2⟩ := key r hr
  refine ⟨h1, fun d hd => ?_⟩
  have hle := Nat.le_of_dvd (by omega) hd
  have h0 : d ≠ 0 := fun e => by subst e; rw [Nat.zero_dvd] at hd; omega
  by_cases h : d = 1
  · exact .inl h
  · by_cases h' : d = r
    · exact .inr h'
    · exact absurd (Nat.mod_eq_zero_of_dvd hd) (h2 d (by omega) (by omega))
theorem NN_facs : NN = 2 * (3 ^ 2 * (5 ^ 2 * (7 * (11 * (13 * (31 * (41 * (61 * (151 * (331 * 1321)))))))))) := by decide
theorem cop_or {r m : Nat} (hr : ∀ d, d ∣ r → d = 1 ∨ d = r) : Nat.Coprime m r ∨ r ∣ m := by
  rcases hr (Nat.gcd m r) (Nat.gcd_dvd_right m r) with h | h
  · exact .inl h
  · exact .inr (h ▸ Nat.gcd_dvd_left m r)
theorem some_fac {e : Nat} (hd : e ∣ NN) (hlt : e < NN) : ∃ r ∈ facs, e ∣ NN / r := by
  obtain ⟨m, hm⟩ := hd
  have hm1 : m ≠ 1 := fun h => by subst h; omega
  have hex : ∃ r ∈ facs, r ∣ m := by
    refine Classical.byContradiction fun hno => hm1 ?_
    have hc : ∀ r ∈ facs, Nat.Coprime m r := fun r hr => (cop_or (facs_prime r hr).2).resolve_right fun h => hno ⟨r, hr, h⟩
    have hcop : Nat.Coprime m NN := by
      rw [NN_facs]
      exact Nat.Coprime.mul_right (hc 2 (by decide)) <| Nat.Coprime.mul_right (Nat.Coprime.pow_right _ (hc 3 (by decide))) <| Nat.Coprime.mul_right (Nat.Coprime.pow_right _ (hc 5 (by decide))) <|
        Nat.Coprime.mul_right (hc 7 (by decide)) <| Nat.Coprime.mul_right (hc 11 (by decide)) <| Nat.Coprime.mul_right (hc 13 (by decide)) <| Nat.Coprime.mul_right (hc 31 (by decide)) <|
        Nat.Coprime.mul_right (hc 41 (by decide)) <| Nat.Coprime.mul_right (hc 61 (by decide)) <| Nat.Coprime.mul_right (hc 151 (by decide)) <| Nat.Coprime.mul_right (hc 331 (by decide)) (hc 1321 (by decide))
    have : Nat.gcd m NN = m := Nat.gcd_eq_left ⟨e, by rw [Nat.mul_comm]; exact hm⟩
    rw [← this]; exact hcop
  obtain ⟨r, hr, k, hk⟩ := hex
  refine ⟨r, hr, k, ?_⟩
  have hr0 : 0 < r := by have := (facs_prime r hr).1; omega
  rw [hm, hk, Nat.mul_left_comm, Nat.mul_div_cancel_left _ hr0]
theorem pow_gcd_one {g m : Nat} (hm : 1 < m) : ∀ (a b : Nat), g ^ a % m = 1 → g ^ b % m = 1 → g ^ Nat.gcd a b % m = 1 := by
  intro a b
  induction a, b using Nat.gcd.induction with
  | H0 n => intro _ h; simpa using h
  | H1 a b ha ih =>
    intro h1 h2
    rw [Nat.gcd_rec]
    refine ih ?_ h1
    have hb : b = a * (b / a) + b % a := (Nat.div_add_mod b a).symm
    rw [hb, Nat.pow_add, Nat.pow_mul, Nat.mul_mod, Nat.pow_mod, h1, Nat.one_pow, Nat.mod_eq_of_lt hm, Nat.one_mul, Nat.mod_mod] at h2
    exact h2
theorem ord_37 {d : Nat} (h0 : 0 < d) (hlt : d < NN) : 37 ^ d % PP ≠ 1 := by
  intro h
  have hg := pow_gcd_one (g := 37) (m := PP) (by decide) d NN h g_one
  have hdvd := Nat.gcd_dvd_right d NN
  have hle : Nat.gcd d NN ≤ d := Nat.le_of_dvd h0 (Nat.gcd_dvd_left d NN)
  obtain ⟨r, hr, k, hk⟩ := some_fac hdvd (by omega)
  refine g_not r hr ?_
  rw [hk, Nat.pow_mul, Nat.pow_mod, hg, Nat.one_pow]
  decide
theorem cop_37 (i : Nat) : Nat.Coprime (37 ^ i) PP := Nat.Coprime.pow_left i (by decide)
theorem inj_37 {i j : Nat} (hij : i < j) (hj : j < NN) : 37 ^ i % PP ≠ 37 ^ j % PP := by
  intro h
  have hd : PP ∣ 37 ^ j - 37 ^ i := Nat.dvd_of_mod_eq_zero (Nat.sub_mod_eq_zero_of_mod_eq h.symm)
  have e : 37 ^ j - 37 ^ i = 37 ^ i * (37 ^ (j - i) - 1) := by
    rw [Nat.mul_sub, ← Nat.pow_add, Nat.mul_one]
    congr 2; omega
  rw [e] at hd
  have hd2 := Nat.Coprime.dvd_of_dvd_mul_left (cop_37 i).symm hd
  refine ord_37 (d := j - i) (by omega) (by omega) ?_
  have h1 : 1 ≤ 37 ^ (j - i) := Nat.one_le_pow _ _ (by decide)
  obtain ⟨k, hk⟩ := hd2
  have e1 : 37 ^ (j - i) = 1 + PP * k := by omega
  rw [e1, Nat.add_mul_mod_self_left]
  decide
theorem pigeon : ∀ (n : Nat) (l : List Nat), l.Nodup → (∀ x ∈ l, x < n) → l.length ≤ n
  | 0, l, _, h => by
    cases l with
    | nil => simp
    | cons x l => have := h x (by simp); omega
  | n + 1, l, hn, h => by
    have h1 := pigeon n (l.filter (· ≠ n)) (hn.filter _) (fun x hx => by
      simp only [List.mem_filter, decide_eq_true_eq] at hx
      have := h x hx.1
      have := hx.2
      omega)
    have h2 : l.length ≤ (l.filter (· ≠ n)).length + 1 := by
      clear h h1
      induction l with
      | nil => simp
      | cons x l ih =>
        obtain ⟨hx, hn'⟩ := List.nodup_cons.1 hn
        by_cases hxn : x = n
        · subst hxn
          have : l.filter (· ≠ x) = l := List.filter_eq_self.2 fun y hy => by
            simp only [ne_eq, decide_not, Bool.not_eq_true', decide_eq_false_iff_not]
            exact fun e => hx (e ▸ hy)
          rw [List.filter_cons_of_neg (by simp), this]
          simp
        · have := ih hn'
          simp only [List.filter_cons, ne_eq, hxn, not_false_eq_true, decide_true, if_true, List.length_cons]
          simpa using this
    omega
theorem pw_nodup : ∀ n, n ≤ NN → ((List.range n).map fun i => 37 ^ i % PP).Nodup := by
  intro n hn
  rw [List.nodup_iff_pairwise_ne, List.pairwise_map]
  refine List.Pairwise.imp_of_mem ?_ (List.pairwise_lt_range (n := n))
  intro a b ha hb hab
  rw [List.mem_range] at ha hb
  exact inj_37 hab (by omega)
theorem pigeon_all {L : List Nat} {n : Nat} (hl : L.length + 1 = n) (hn : L.Nodup) (hz : 0 ∉ L) (hlt : ∀ y ∈ L, y < n) {x : Nat} (h0 : 0 < x) (hx : x < n) : x ∈ L := by
  refine Classical.byContradiction fun hno => ?_
  have := pigeon n (0 :: x :: L) (by
    rw [List.nodup_cons, List.nodup_cons]
    refine ⟨fun h => ?_, hno, hn⟩
    rcases List.mem_cons.1 h with h | h
    · omega
    · exact hz h) (by
    intro y hy
    rcases List.mem_cons.1 hy with rfl | hy
    · omega
    · rcases List.mem_cons.1 hy with rfl | hy
      · exact hx
      · exact hlt y hy)
  simp only [List.length_cons] at this
  omega
theorem pw_zero (n : Nat) : 0 ∉ ((List.range n).map fun i => 37 ^ i % PP) := by
  intro h
  obtain ⟨i, _, hi⟩ := List.mem_map.1 h
  have : PP ∣ 37 ^ i := Nat.dvd_of_mod_eq_zero hi
  have h1 : Nat.gcd (37 ^ i) PP = PP := Nat.gcd_eq_right this
  rw [cop_37 i] at h1
  exact absurd h1 (by decide)
theorem PP_pos : 0 < PP := by decide
theorem NN_PP : NN + 1 = PP := by decide
theorem pw_all (n : Nat) (hn : n + 1 = PP) (hN : n ≤ NN) {x : Nat} (h0 : 0 < x) (hlt : x < PP) : ∃ i, x = 37 ^ i % PP := by
  have := pigeon_all (L := (List.range n).map fun i => 37 ^ i % PP) (n := PP) (by rw [List.length_map, List.length_range]; exact hn) (pw_nodup n hN) (pw_zero n) (fun y hy => by
    obtain ⟨i, _, rfl⟩ := List.mem_map.1 hy
    exact Nat.mod_lt _ PP_pos) h0 hlt
  obtain ⟨i, _, hi⟩ := List.mem_map.1 this
  exact ⟨i, hi.symm⟩
theorem all_pow {x : Nat} (h0 : 0 < x) (hlt : x < PP) : ∃ i, x = 37 ^ i % PP := pw_all NN NN_PP (Nat.le_refl _) h0 hlt
theorem fermat {x : Nat} (h : x % PP ≠ 0) : x ^ NN % PP = 1 := by
  obtain ⟨i, hi⟩ := all_pow (x := x % PP) (by omega) (Nat.mod_lt _ (by decide))
  rw [Nat.pow_mod, hi, ← Nat.pow_mod, ← Nat.pow_mul, Nat.mul_comm, Nat.pow_mul, Nat.pow_mod, g_one, Nat.one_pow]
  decide
theorem no_zero {x y : Nat} (h : x * y % PP = 0) : x % PP = 0 ∨ y % PP = 0 := by
  by_cases hx : x % PP = 0
  · exact .inl hx
  · refine .inr ?_
    have h1 := fermat hx
    have e : x ^ NN = x ^ (NN - 1) * x := by rw [← Nat.pow_succ]; rfl
    have : x ^ NN * y % PP = 0 := by
      rw [e, Nat.mul_assoc, Nat.mul_mod, h, Nat.mul_zero, Nat.zero_mod]
    rw [Nat.mul_mod, h1, Nat.one_mul, Nat.mod_mod] at this
    exact this
end Hud
end
section
namespace Hud
instance : NeZero PP := ⟨by decide⟩
abbrev Fq := Fin PP
theorem fq_zero {a b : Fq} (h : a * b = 0) : a = 0 ∨ b = 0 := by
  have h1 : (a * b).val = 0 := by rw [h]; rfl
  rw [Fin.val_mul] at h1
  rcases no_zero h1 with h2 | h2
  · left
    apply Fin.ext
    rw [Nat.mod_eq_of_lt a.isLt] at h2
    simpa using h2
  · right
    apply Fin.ext
    rw [Nat.mod_eq_of_lt b.isLt] at h2
    simpa using h2
theorem fq_pow (a : Fq) (n : Nat) : (a ^ n).val = a.val ^ n % PP := by
  induction n with
  | zero =>
    have : (a ^ 0 : Fq) = 1 := by grind
    rw [this]
    rfl
  | succ n ih =>
    have : a ^ (n + 1) = a ^ n * a := by grind
    rw [this, Fin.val_mul, ih, Nat.pow_succ, Nat.mod_mul_mod]
theorem fq_fermat {a : Fq} (h : a ≠ 0) : a ^ NN = 1 := by
  apply Fin.ext
  rw [fq_pow, fermat]
  · rfl
  · rw [Nat.mod_eq_of_lt a.isLt]
    intro h0
    exact h (Fin.ext (by simpa using h0))
theorem fq_frob (a : Fq) : a ^ PP = a := by
  have e0 : ∀ n m : Nat, n = m + 1 → a ^ n = a ^ m * a := by
    rintro n m rfl
    grind
  have e := e0 PP NN NN_PP.symm
  by_cases h : a = 0
  · rw [e, h]; grind
  · rw [e, fq_fermat h]; grind
def inv (a : Fq) : Fq := a ^ (NN - 1)
theorem inv_mul {a : Fq} (h : a ≠ 0) : a * inv a = 1 := by
  have e0 : ∀ n m : Nat, n = m + 1 → a ^ n = a ^ m * a := by
    rintro n m rfl
    grind
  have e := e0 NN (NN - 1) (by decide)
  rw [inv, ← fq_fermat h, e]
  generalize a ^ (NN - 1) = b
  grind
theorem f_mz (a : Fq) : a * 0 = 0 := Fin.mul_zero a
theorem f_zm (a : Fq) : 0 * a = 0 := Fin.zero_mul a
theorem f_za (a : Fq) : 0 + a = a := Fin.zero_add a
theorem f_az (a : Fq) : a + 0 = a := Fin.add_zero a
theorem fq10 : (1 : Fq) ≠ 0 := by decide
def ev : List Fq → Fq → Fq
  | [], _ => 0
  | c :: l, t => c + t * ev l t
def zp (l : List Fq) : Prop := ∀ c ∈ l, c = 0
theorem ev_zp {l : List Fq} (h : zp l) (t : Fq) : ev l t = 0 := by
  induction l with
  | nil => rfl
  | cons c l ih =>
    have h1 := h c (by simp)
    have h2 := ih fun d hd => h d (by simp [hd])
    simp only [ev, h1, h2, f_mz, f_za]
def sd (z : Fq) : List Fq → List Fq
  | [] => []
  | [_] => []
  | _ :: d :: l => ev (d :: l) z :: sd z (d :: l)
theorem sd_len (z : Fq) : ∀ l, (sd z l).length = l.length - 1
  | [] => rfl
  | [_] => rfl
  | _ :: d :: l => by
    have := sd_len z (d :: l)
    simp only [sd, List.length_cons] at this ⊢
    omega
theorem sd_ev (z t : Fq) : ∀ l, ev l t = (t - z) * ev (sd z l) t + ev l z
  | [] => by simp only [ev, sd, f_mz, f_za]
  | [c] => by simp only [ev, sd]; grind
  | c :: d :: l => by
    have := sd_ev z t (d :: l)
    have e1 : ev (c :: d :: l) t = c + t * ev (d :: l) t := rfl
    have e2 : ev (c :: d :: l) z = c + z * ev (d :: l) z := rfl
    have e3 : ev (sd z (c :: d :: l)) t = ev (d :: l) z + t * ev (sd z (d :: l)) t := rfl
    rw [e1, e2, e3, this]
    generalize ev (d :: l) z = r
    generalize ev (sd z (d :: l)) t = q
    grind
theorem sd_zp {z : Fq} : ∀ {l}, ev l z = 0 → zp (sd z l) → zp l
  | [], _, _ => by simp [zp]
  | [c], h, _ => by
    simp only [ev] at h
    have hc : c = 0 := by grind
    intro x hx
    rw [List.mem_singleton.1 hx, hc]
  | c :: d :: l, h, hs => by
    simp only [sd] at hs
    have h1 := hs _ (List.mem_cons_self)
    have h2 := sd_zp h1 fun x hx => hs x (List.mem_cons_of_mem _ hx)
    have e2 : ev (c :: d :: l) z = c + z * ev (d :: l) z := rfl
    rw [e2, h1] at h
    have hc : c = 0 := by grind
    intro x hx
    rcases List.mem_cons.1 hx with rfl | hx
    · exact hc
    · exact h2 x hx
theorem roots_lt : ∀ (n : Nat) {l : List Fq} {R : List Fq}, l.length ≤ n → ¬ zp l → R.Nodup → (∀ z ∈ R, ev l z = 0) → R.length < n
  | 0, l, R, hl, hz, _, _ => by
    have : l = [] := List.eq_nil_of_length_eq_zero (by omega)
    subst this
    exact absurd (by simp [zp]) hz
  | n + 1, l, [], _, _, _, _ => by simp
  | n + 1, l, z :: R, hl, hz, hn, hr => by
    obtain ⟨h1, h2⟩ := List.nodup_cons.1 hn
    have hz0 := hr z (by simp)
    have := roots_lt n (l := sd z l) (R := R) (by rw [sd_len]; omega) (fun h => hz (sd_zp hz0 h)) h2 fun y hy => by
      have e := sd_ev z y l
      rw [hr y (by simp [hy]), hz0] at e
      have e2 : (y - z) * ev (sd z l) y = 0 := by grind
      rcases fq_zero e2 with h | h
      · have : y = z := by grind
        exact absurd (this ▸ hy) h1
      · exact h
    simp only [List.length_cons]
    omega
theorem zp_of_roots {l R : List Fq} (hl : l.length ≤ R.length) (hn : R.Nodup) (hr : ∀ z ∈ R, ev l z = 0) : zp l := by
  refine Classical.byContradiction fun hz => ?_
  have := roots_lt l.length (Nat.le_refl _) hz hn hr
  omega
def pa : List Fq → List Fq → List Fq
  | [], q => q
  | p, [] => p
  | c :: p, d :: q => (c + d) :: pa p q
theorem pa_ev (t : Fq) : ∀ p q, ev (pa p q) t = ev p t + ev q t
  | [], q => by simp only [pa, ev]; grind
  | c :: p, [] => by simp only [pa, ev]; grind
  | c :: p, d :: q => by
    have := pa_ev t p q
    simp only [pa, ev, this]
    grind
theorem pa_len : ∀ p q, (pa p q).length = max p.length q.length
  | [], q => by simp [pa]
  | c :: p, [] => by simp [pa]
  | c :: p, d :: q => by simp only [pa, List.length_cons, pa_len p q]; omega
def ps (c : Fq) (p : List Fq) : List Fq := p.map (c * ·)
theorem ps_ev (c t : Fq) (p : List Fq) : ev (ps c p) t = c * ev p t := by
  induction p with
  | nil => simp only [ps, List.map_nil, ev]; grind
  | cons d p ih =>
    simp only [ps, List.map_cons, ev] at ih ⊢
    rw [ih]
    grind
def pm : List Fq → List Fq → List Fq
  | [], _ => []
  | c :: p, q => pa (ps c q) (0 :: pm p q)
theorem pm_ev (t : Fq) (q : List Fq) : ∀ p, ev (pm p q) t = ev p t * ev q t
  | [] => by simp only [pm, ev]; grind
  | c :: p => by
    simp only [pm, pa_ev, ps_ev, ev, pm_ev t q p]
    grind
def mon (d : Nat) (l : List Fq) : Prop := ∃ f, l = f ++ [1] ∧ f.length = d
theorem mon_len {d : Nat} {l : List Fq} (h : mon d l) : l.length = d + 1 := by obtain ⟨f, rfl, rfl⟩ := h; simp
theorem mon_nz {d : Nat} {l : List Fq} (h : mon d l) : ¬ zp l := by
  obtain ⟨f, rfl, _⟩ := h
  intro hz
  exact fq10 (hz 1 (by simp))
theorem pa_mon {d : Nat} : ∀ {p q : List Fq}, mon d p → q.length ≤ d → mon d (pa p q)
  | p, [], h, _ => by
    cases p <;> exact h
  | [], d' :: q, h, hl => by
    obtain ⟨f, hf, _⟩ := h
    simp at hf
  | c :: p, e :: q, ⟨f, hf, hd⟩, hl => by
    cases f with
    | nil => simp at hd; subst hd; simp at hl
    | cons x f =>
      simp only [List.cons_append, List.cons.injEq] at hf
      obtain ⟨rfl, rfl⟩ := hf
      obtain ⟨g, hg, hgl⟩ := pa_mon (d := f.length) (p := f ++ [1]) (q := q) ⟨f, rfl, rfl⟩ (by simp at hd hl; omega)
      exact ⟨(c + e) :: g, by simp only [pa, hg, List.cons_append], by simp at hd ⊢; omega⟩
theorem pa_mon' {d : Nat} : ∀ {p q : List Fq}, mon d q → p.length ≤ d → mon d (pa p q)
  | [], q, h, _ => h
  | c :: p, [], ⟨f, hf, _⟩, hl => by simp at hf
  | c :: p, e :: q, ⟨f, hf, hd⟩, hl => by
    cases f with
    | nil => simp at hd; subst hd; simp at hl
    | cons x f =>
      simp only [List.cons_append, List.cons.injEq] at hf
      obtain ⟨rfl, rfl⟩ := hf
      obtain ⟨g, hg, hgl⟩ := pa_mon' (d := f.length) (p := p) (q := f ++ [1]) ⟨f, rfl, rfl⟩ (by simp at hd hl; omega)
      exact ⟨(c + e) :: g, by simp only [pa, hg, List.cons_append], by simp at hd ⊢; omega⟩
theorem pm_len (q : List Fq) : ∀ p, (pm p q).length ≤ p.length + q.length
  | [] => by simp [pm]
  | c :: p => by
    have := pm_len q p
    simp only [pm, pa_len, ps, List.length_map, List.length_cons]
    omega
theorem pm_mon {e : Nat} {q : List Fq} (hq : mon e q) : ∀ {d : Nat} {p : List Fq}, mon d p → mon (d + e) (pm p q)
  | d, [], ⟨f, hf, _⟩ => by simp at hf
  | d, c :: p, ⟨f, hf, hd⟩ => by
    cases f with
    | nil =>
      simp only [List.nil_append, List.cons.injEq] at hf
      obtain ⟨rfl, rfl⟩ := hf
      simp at hd
      subst hd
      have h1 : ps 1 q = q := by
        unfold ps
        conv => rhs; rw [← List.map_id q]
        apply List.map_congr_left
        intro x _
        simp only [id]
        grind
      simp only [pm, h1, Nat.zero_add]
      obtain ⟨g, rfl, hg⟩ := hq
      cases g with
      | nil =>
        simp at hg
        subst hg
        refine ⟨[], ?_, rfl⟩
        simp only [List.nil_append, pa, List.cons.injEq, and_true]
        decide
      | cons x g =>
        refine ⟨(x + 0) :: g, ?_, by simpa using hg⟩
        simp only [List.cons_append, pa]
        cases g <;> rfl
    | cons x f =>
      simp only [List.cons_append, List.cons.injEq] at hf
      obtain ⟨rfl, rfl⟩ := hf
      simp only [pm]
      have ih := pm_mon hq (d := f.length) (p := f ++ [1]) ⟨f, rfl, rfl⟩
      have : mon (d + e) (0 :: pm (f ++ [1]) q) := by
        obtain ⟨g, hg, hgl⟩ := ih
        exact ⟨0 :: g, by rw [hg]; rfl, by simp at hd ⊢; omega⟩
      refine pa_mon' this ?_
      have := mon_len hq
      simp only [ps, List.length_map] at *
      simp at hd
      omega
def pr : List Fq → List Fq
  | [] => [1]
  | z :: R => pm [-z, 1] (pr R)
theorem pr_ev (t : Fq) : ∀ R, ev (pr R) t = R.foldr (fun z a => (t - z) * a) 1
  | [] => by simp only [pr, ev, List.foldr_nil, f_mz, f_az]
  | z :: R => by
    simp only [pr, pm_ev, List.foldr_cons, ← pr_ev t R, ev]
    grind
theorem pr_mon : ∀ R : List Fq, mon R.length (pr R)
  | [] => ⟨[], rfl, rfl⟩
  | z :: R => by
    have := pm_mon (pr_mon R) (d := 1) (p := [-z, 1]) ⟨[-z], rfl, rfl⟩
    rw [List.length_cons, Nat.add_comm]
    exact this
theorem pr_root {t : Fq} : ∀ {R : List Fq}, ev (pr R) t = 0 ↔ t ∈ R
  | [] => by
    simp only [pr, ev, List.not_mem_nil, iff_false]
    intro h
    rw [f_mz, f_az] at h
    exact fq10 h
  | z :: R => by
    simp only [pr, pm_ev, List.mem_cons, ← pr_root (t := t) (R := R), ev]
    constructor
    · intro h
      rcases fq_zero h with h | h
      · left; grind
      · exact .inr h
    · rintro (rfl | h)
      · grind
      · rw [h]; grind
theorem ev_ext {p q : List Fq} {R : List Fq} (hp : p.length ≤ R.length) (hq : q.length ≤ R.length) (hn : R.Nodup) (h : ∀ z ∈ R, ev p z = ev q z) : ∀ t, ev p t = ev q t := by
  intro t
  have h1 := zp_of_roots (l := pa p (ps (-1) q)) (R := R) (by rw [pa_len]; simp only [ps, List.length_map]; omega) hn fun z hz => by
    rw [pa_ev, ps_ev, h z hz]; grind
  have h2 := ev_zp h1 t
  rw [pa_ev, ps_ev] at h2
  grind
end Hud
end
