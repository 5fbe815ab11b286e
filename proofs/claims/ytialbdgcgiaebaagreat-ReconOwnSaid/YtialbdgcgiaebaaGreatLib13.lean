import Derived.Test.YtialbdgcgiaebaaGreatLib12
set_option linter.all false
section
namespace Hud
open Go
def h_sketch_Diff : HFun := ⟨142, [(4, none), (5, none), (6, none)],
  .seq (.seq (.reg [⟨some 2, .box (.tmp 0), none⟩, ⟨some 3, .box (.tmp 1), none⟩, ⟨some 4, .mov (.const (.slice none 0 0)), none⟩, ⟨some 5, .mov (.const (.slice none 0 0)), none⟩, ⟨some 6, .mov (.const (.int .i64 0)), none⟩]) (.kill [0, 1, 6, 5, 4])) (.seq (.seq (.seq (.reg [⟨some 22, .fad (.tmp 2) 1, none⟩, ⟨some 23, .ld none (.tmp 22), none⟩, ⟨some 24, .lenL (.tmp 23), none⟩, ⟨some 25, .fad (.tmp 3) 1, none⟩, ⟨some 26, .ld none (.tmp 25), none⟩, ⟨some 27, .lenL (.tmp 26), none⟩, ⟨some 28, .bin .neq (.tmp 24) (.tmp 27), none⟩]) (.kill [27, 26, 25, 24, 23, 22])) (.cond (.tmp 28) (.seq (.kill [2, 3, 28]) (.seq (.seq (.seq (.reg [⟨some 4, .mov (.const (.slice none 0 0)), none⟩, ⟨some 5, .mov (.const (.slice none 0 0)), none⟩, ⟨some 6, .mov (.const (.int .i64 1)), none⟩]) (.own 4 none 1)) (.own 5 none 1)) .ret)) (.seq (.kill [28]) .skip))) (.seq (.seq (.reg [⟨some 29, .fad (.tmp 2) 0, none⟩, ⟨some 30, .ld none (.tmp 29), none⟩, ⟨some 31, .fad (.tmp 3) 0, none⟩, ⟨some 32, .ld none (.tmp 31), none⟩, ⟨some 33, .bin .sub (.tmp 30) (.tmp 32), none⟩, ⟨some 7, .mov (.tmp 33), none⟩]) (.kill [33, 32, 31, 30, 29])) (.seq (.seq (.reg [⟨some 34, .fad (.tmp 2) 1, none⟩, ⟨some 35, .ld none (.tmp 34), none⟩, ⟨some 36, .lenL (.tmp 35), none⟩, ⟨some 37, .bin .sub (.tmp 36) (.const (.int .i64 2)), none⟩, ⟨some 8, .mov (.tmp 37), none⟩]) (.kill [37, 36, 35, 34])) (.seq (.seq (.seq (.reg [⟨some 38, .mov (.tmp 8), none⟩, ⟨some 39, .mov (.tmp 7), none⟩, ⟨some 40, .mov (.tmp 7), none⟩, ⟨some 41, .un .neg (.tmp 40), none⟩, ⟨some 42, .mm true (.tmp 39) (.tmp 41), none⟩, ⟨some 43, .bin .lss (.tmp 38) (.tmp 42), none⟩]) (.kill [42, 41, 40, 39, 38])) (.cond (.tmp 43) (.seq (.kill [8, 7, 3, 2, 43]) (.seq (.seq (.seq (.reg [⟨some 4, .mov (.const (.slice none 0 0)), none⟩, ⟨some 5, .mov (.const (.slice none 0 0)), none⟩, ⟨some 6, .mov (.const (.int .i64 32)), none⟩]) (.own 4 none 1)) (.own 5 none 1)) .ret)) (.seq (.kill [43]) .skip))) (.seq (.seq (.seq (.reg [⟨some 44, .mov (.tmp 8), none⟩, ⟨some 45, .mov (.tmp 7), none⟩, ⟨some 46, .bin .add (.tmp 44) (.tmp 45), none⟩, ⟨some 47, .bin .rem (.tmp 46) (.const (.int .i64 2)), none⟩, ⟨some 48, .bin .neq (.tmp 47) (.const (.int .i64 0)), none⟩]) (.kill [47, 46, 45, 44])) (.cond (.tmp 48) (.seq (.kill [48]) (.seq (.reg [⟨some 49, .mov (.tmp 8), none⟩, ⟨some 50, .bin .sub (.tmp 49) (.const (.int .i64 1)), none⟩, ⟨some 8, .mov (.tmp 50), none⟩]) (.kill [50, 49]))) (.seq (.kill [48]) .skip))) (.seq (.seq (.reg [⟨some 51, .mov (.tmp 8), none⟩, ⟨some 52, .mov (.tmp 7), none⟩, ⟨some 53, .bin .add (.tmp 51) (.tmp 52), none⟩, ⟨some 54, .bin .quo (.tmp 53) (.const (.int .i64 2)), none⟩, ⟨some 55, .mov (.tmp 8), none⟩, ⟨some 56, .mov (.tmp 7), none⟩, ⟨some 57, .bin .sub (.tmp 55) (.tmp 56), none⟩, ⟨some 58, .bin .quo (.tmp 57) (.const (.int .i64 2)), none⟩, ⟨some 9, .mov (.tmp 54), none⟩, ⟨some 10, .mov (.tmp 58), none⟩]) (.kill [7, 58, 57, 56, 55, 54, 53, 52, 51])) (.seq (.seq (.reg [⟨some 11, .mov (.const (.slice none 0 0)), none⟩]) (.own 11 none 1)) (.seq (.seq (.reg [⟨some 59, .mov (.tmp 8), none⟩, ⟨some 60, .mov (.const (.int .i64 0)), none⟩]) (.block 0 (.loop [] (.seq (.reg [⟨some 61, .bin .lss (.tmp 60) (.tmp 59), none⟩]) (.seq (.cond (.tmp 61) (.seq (.kill [61]) .skip) (.seq (.kill [60, 59, 10, 61]) (.exit 0))) (.seq (.block 1 (.seq (.seq (.reg [⟨some 62, .mov (.tmp 60), none⟩, ⟨some 12, .mov (.tmp 62), none⟩]) (.kill [62])) (.seq (.seq (.regd (.q ⟨some 63, .mov (.tmp 11), none⟩ (.q ⟨some 64, .fad (.tmp 2) 1, none⟩ (.q ⟨some 65, .ld none (.tmp 64), none⟩ (.q ⟨some 66, .mov (.tmp 12), none⟩ (.q ⟨some 67, .iad (.tmp 65) (.tmp 66) 1, none⟩ (.q ⟨some 68, .ld none (.tmp 67), none⟩ (.q ⟨some 69, .fad (.tmp 3) 1, none⟩ (.q ⟨some 70, .ld none (.tmp 69), none⟩ (.q ⟨some 71, .mov (.tmp 12), none⟩ (.q ⟨some 72, .iad (.tmp 70) (.tmp 71) 1, none⟩ (.q ⟨some 73, .ld none (.tmp 72), none⟩ (.q ⟨some 74, .mov (.tmp 12), none⟩ (.q ⟨some 75, .mov (.tmp 9), none⟩ (.q ⟨some 76, .mov (.tmp 10), none⟩ (.alt ⟨some 77, .call (.func n_sketch_equation) [.tmp 68, .tmp 73, .tmp 74, .tmp 75, .tmp 76], none⟩ [⟨some 63, .mov (.tmp 11), none⟩] (.alt ⟨some 78, .bsl 1 [.slice none 0 0] [(0, (1, .tmp 77))] 1, none⟩ [⟨some 63, .mov (.tmp 11), none⟩] (.alt ⟨some 79, .app (.tmp 63) (.tmp 78) 1 24, none⟩ [] (.alt ⟨some 11, .mov (.tmp 79), none⟩ [] (.done false) .no) .no) .no) .no)))))))))))))))) (.kill [12, 79, 78, 77, 76, 75, 74, 73, 72, 71, 70, 69, 68, 67, 66, 65, 64, 63])) (.own 11 none 1)))) (.seq (.reg [⟨some 80, .bin .add (.tmp 60) (.const (.int .i64 1)), none⟩, ⟨some 60, .mov (.tmp 80), none⟩]) (.kill [80])))))))) (.seq (.seq (.seq (.reg [⟨some 82, .mov (.tmp 11), none⟩, ⟨some 83, .mov (.tmp 8), none⟩, ⟨some 84, .call (.func n_sketch_solve) [.tmp 82, .tmp 83], none⟩, ⟨some 81, .mov (.tmp 84), none⟩, ⟨some 85, .ext (.tmp 81) 0, none⟩, ⟨some 86, .ext (.tmp 81) 1, none⟩, ⟨some 13, .mov (.tmp 85), none⟩, ⟨some 14, .mov (.tmp 86), none⟩]) (.kill [11, 8, 86, 85, 81, 84, 83, 82])) (.shut 13)) (.seq (.seq (.seq (.reg [⟨some 87, .mov (.tmp 14), none⟩, ⟨some 88, .un .not (.tmp 87), none⟩]) (.kill [14, 87])) (.cond (.tmp 88) (.seq (.kill [13, 9, 2, 3, 88]) (.seq (.seq (.seq (.reg [⟨some 4, .mov (.const (.slice none 0 0)), none⟩, ⟨some 5, .mov (.const (.slice none 0 0)), none⟩, ⟨some 6, .mov (.const (.int .i64 32)), none⟩]) (.own 4 none 1)) (.own 5 none 1)) .ret)) (.seq (.kill [88]) .skip))) (.seq (.seq (.seq (.seq (.regd (.q ⟨some 89, .mov (.tmp 13), none⟩ (.q ⟨some 90, .mov (.tmp 9), none⟩ (.q ⟨some 91, .slc (.tmp 89) none (some (.tmp 90)) 1, none⟩ (.q ⟨some 95, .mov (.tmp 13), none⟩ (.q ⟨some 96, .mov (.tmp 9), none⟩ (.q ⟨some 97, .slc (.tmp 95) (some (.tmp 96)) none 1, none⟩ (.alt ⟨some 92, .call (.func n_slices_Clone_Luint64_uint64) [.tmp 91], none⟩ [⟨some 97, .slc (.tmp 95) (some (.tmp 96)) none 1, none⟩, ⟨some 96, .mov (.tmp 9), none⟩, ⟨some 95, .mov (.tmp 13), none⟩] (.alt ⟨some 93, .bsl 1 [.int .u64 0] [(0, (1, .const (.int .u64 1)))] 1, none⟩ [⟨some 97, .slc (.tmp 95) (some (.tmp 96)) none 1, none⟩, ⟨some 96, .mov (.tmp 9), none⟩, ⟨some 95, .mov (.tmp 13), none⟩] (.alt ⟨some 94, .app (.tmp 92) (.tmp 93) 1 8, none⟩ [⟨some 97, .slc (.tmp 95) (some (.tmp 96)) none 1, none⟩, ⟨some 96, .mov (.tmp 9), none⟩, ⟨some 95, .mov (.tmp 13), none⟩] (.alt ⟨some 98, .call (.func n_slices_Clone_Luint64_uint64) [.tmp 97], none⟩ [] (.alt ⟨some 99, .bsl 1 [.int .u64 0] [(0, (1, .const (.int .u64 1)))] 1, none⟩ [] (.alt ⟨some 100, .app (.tmp 98) (.tmp 99) 1 8, none⟩ [] (.q ⟨some 15, .mov (.tmp 94), none⟩ (.q ⟨some 16, .mov (.tmp 100), none⟩ (.done true))) .no) .no) (.alt ⟨some 99, .bsl 1 [.int .u64 0] [(0, (1, .const (.int .u64 1)))] 1, none⟩ [⟨some 97, .slc (.tmp 95) (some (.tmp 96)) none 1, none⟩, ⟨some 96, .mov (.tmp 9), none⟩, ⟨some 95, .mov (.tmp 13), none⟩] (.alt ⟨some 98, .call (.func n_slices_Clone_Luint64_uint64) [.tmp 97], none⟩ [] (.alt ⟨some 100, .app (.tmp 98) (.tmp 99) 1 8, none⟩ [] (.q ⟨some 15, .mov (.tmp 94), none⟩ (.q ⟨some 16, .mov (.tmp 100), none⟩ (.done true))) .no) .no) .no)) (.alt ⟨some 99, .bsl 1 [.int .u64 0] [(0, (1, .const (.int .u64 1)))] 1, none⟩ [⟨some 97, .slc (.tmp 95) (some (.tmp 96)) none 1, none⟩, ⟨some 96, .mov (.tmp 9), none⟩, ⟨some 95, .mov (.tmp 13), none⟩] (.alt ⟨some 94, .app (.tmp 92) (.tmp 93) 1 8, none⟩ [⟨some 97, .slc (.tmp 95) (some (.tmp 96)) none 1, none⟩, ⟨some 96, .mov (.tmp 9), none⟩, ⟨some 95, .mov (.tmp 13), none⟩] (.alt ⟨some 98, .call (.func n_slices_Clone_Luint64_uint64) [.tmp 97], none⟩ [] (.alt ⟨some 100, .app (.tmp 98) (.tmp 99) 1 8, none⟩ [] (.q ⟨some 15, .mov (.tmp 94), none⟩ (.q ⟨some 16, .mov (.tmp 100), none⟩ (.done true))) .no) .no) .no) .no)) (.alt ⟨some 99, .bsl 1 [.int .u64 0] [(0, (1, .const (.int .u64 1)))] 1, none⟩ [⟨some 97, .slc (.tmp 95) (some (.tmp 96)) none 1, none⟩, ⟨some 96, .mov (.tmp 9), none⟩, ⟨some 95, .mov (.tmp 13), none⟩] (.alt ⟨some 93, .bsl 1 [.int .u64 0] [(0, (1, .const (.int .u64 1)))] 1, none⟩ [⟨some 97, .slc (.tmp 95) (some (.tmp 96)) none 1, none⟩, ⟨some 96, .mov (.tmp 9), none⟩, ⟨some 95, .mov (.tmp 13), none⟩] (.alt ⟨some 94, .app (.tmp 92) (.tmp 93) 1 8, none⟩ [⟨some 97, .slc (.tmp 95) (some (.tmp 96)) none 1, none⟩, ⟨some 96, .mov (.tmp 9), none⟩, ⟨some 95, .mov (.tmp 13), none⟩] (.alt ⟨some 98, .call (.func n_slices_Clone_Luint64_uint64) [.tmp 97], none⟩ [] (.alt ⟨some 100, .app (.tmp 98) (.tmp 99) 1 8, none⟩ [] (.q ⟨some 15, .mov (.tmp 94), none⟩ (.q ⟨some 16, .mov (.tmp 100), none⟩ (.done true))) .no) .no) .no) .no) .no)) (.alt ⟨some 93, .bsl 1 [.int .u64 0] [(0, (1, .const (.int .u64 1)))] 1, none⟩ [⟨some 97, .slc (.tmp 95) (some (.tmp 96)) none 1, none⟩, ⟨some 96, .mov (.tmp 9), none⟩, ⟨some 95, .mov (.tmp 13), none⟩, ⟨some 91, .slc (.tmp 89) none (some (.tmp 90)) 1, none⟩, ⟨some 90, .mov (.tmp 9), none⟩, ⟨some 89, .mov (.tmp 13), none⟩] (.alt ⟨some 92, .call (.func n_slices_Clone_Luint64_uint64) [.tmp 91], none⟩ [⟨some 97, .slc (.tmp 95) (some (.tmp 96)) none 1, none⟩, ⟨some 96, .mov (.tmp 9), none⟩, ⟨some 95, .mov (.tmp 13), none⟩] (.alt ⟨some 94, .app (.tmp 92) (.tmp 93) 1 8, none⟩ [⟨some 97, .slc (.tmp 95) (some (.tmp 96)) none 1, none⟩, ⟨some 96, .mov (.tmp 9), none⟩, ⟨some 95, .mov (.tmp 13), none⟩] (.alt ⟨some 98, .call (.func n_slices_Clone_Luint64_uint64) [.tmp 97], none⟩ [] (.alt ⟨some 99, .bsl 1 [.int .u64 0] [(0, (1, .const (.int .u64 1)))] 1, none⟩ [] (.alt ⟨some 100, .app (.tmp 98) (.tmp 99) 1 8, none⟩ [] (.q ⟨some 15, .mov (.tmp 94), none⟩ (.q ⟨some 16, .mov (.tmp 100), none⟩ (.done true))) .no) .no) (.alt ⟨some 99, .bsl 1 [.int .u64 0] [(0, (1, .const (.int .u64 1)))] 1, none⟩ [⟨some 97, .slc (.tmp 95) (some (.tmp 96)) none 1, none⟩, ⟨some 96, .mov (.tmp 9), none⟩, ⟨some 95, .mov (.tmp 13), none⟩] (.alt ⟨some 98, .call (.func n_slices_Clone_Luint64_uint64) [.tmp 97], none⟩ [] (.alt ⟨some 100, .app (.tmp 98) (.tmp 99) 1 8, none⟩ [] (.q ⟨some 15, .mov (.tmp 94), none⟩ (.q ⟨some 16, .mov (.tmp 100), none⟩ (.done true))) .no) .no) .no)) (.alt ⟨some 99, .bsl 1 [.int .u64 0] [(0, (1, .const (.int .u64 1)))] 1, none⟩ [⟨some 97, .slc (.tmp 95) (some (.tmp 96)) none 1, none⟩, ⟨some 96, .mov (.tmp 9), none⟩, ⟨some 95, .mov (.tmp 13), none⟩] (.alt ⟨some 94, .app (.tmp 92) (.tmp 93) 1 8, none⟩ [⟨some 97, .slc (.tmp 95) (some (.tmp 96)) none 1, none⟩, ⟨some 96, .mov (.tmp 9), none⟩, ⟨some 95, .mov (.tmp 13), none⟩] (.alt ⟨some 98, .call (.func n_slices_Clone_Luint64_uint64) [.tmp 97], none⟩ [] (.alt ⟨some 100, .app (.tmp 98) (.tmp 99) 1 8, none⟩ [] (.q ⟨some 15, .mov (.tmp 94), none⟩ (.q ⟨some 16, .mov (.tmp 100), none⟩ (.done true))) .no) .no) .no) .no)) (.alt ⟨some 99, .bsl 1 [.int .u64 0] [(0, (1, .const (.int .u64 1)))] 1, none⟩ [⟨some 97, .slc (.tmp 95) (some (.tmp 96)) none 1, none⟩, ⟨some 96, .mov (.tmp 9), none⟩, ⟨some 95, .mov (.tmp 13), none⟩, ⟨some 91, .slc (.tmp 89) none (some (.tmp 90)) 1, none⟩, ⟨some 90, .mov (.tmp 9), none⟩, ⟨some 89, .mov (.tmp 13), none⟩] (.alt ⟨some 92, .call (.func n_slices_Clone_Luint64_uint64) [.tmp 91], none⟩ [⟨some 97, .slc (.tmp 95) (some (.tmp 96)) none 1, none⟩, ⟨some 96, .mov (.tmp 9), none⟩, ⟨some 95, .mov (.tmp 13), none⟩] (.alt ⟨some 94, .app (.tmp 92) (.tmp 93) 1 8, none⟩ [⟨some 97, .slc (.tmp 95) (some (.tmp 96)) none 1, none⟩, ⟨some 96, .mov (.tmp 9), none⟩, ⟨some 95, .mov (.tmp 13), none⟩] (.alt ⟨some 98, .call (.func n_slices_Clone_Luint64_uint64) [.tmp 97], none⟩ [] (.alt ⟨some 100, .app (.tmp 98) (.tmp 99) 1 8, none⟩ [] (.q ⟨some 15, .mov (.tmp 94), none⟩ (.q ⟨some 16, .mov (.tmp 100), none⟩ (.done true))) .no) .no) .no) .no) .no)) (.alt ⟨some 99, .bsl 1 [.int .u64 0] [(0, (1, .const (.int .u64 1)))] 1, none⟩ [⟨some 97, .slc (.tmp 95) (some (.tmp 96)) none 1, none⟩, ⟨some 96, .mov (.tmp 9), none⟩, ⟨some 95, .mov (.tmp 13), none⟩, ⟨some 91, .slc (.tmp 89) none (some (.tmp 90)) 1, none⟩, ⟨some 90, .mov (.tmp 9), none⟩, ⟨some 89, .mov (.tmp 13), none⟩] (.alt ⟨some 92, .call (.func n_slices_Clone_Luint64_uint64) [.tmp 91], none⟩ [⟨some 97, .slc (.tmp 95) (some (.tmp 96)) none 1, none⟩, ⟨some 96, .mov (.tmp 9), none⟩, ⟨some 95, .mov (.tmp 13), none⟩] (.alt ⟨some 93, .bsl 1 [.int .u64 0] [(0, (1, .const (.int .u64 1)))] 1, none⟩ [⟨some 97, .slc (.tmp 95) (some (.tmp 96)) none 1, none⟩, ⟨some 96, .mov (.tmp 9), none⟩, ⟨some 95, .mov (.tmp 13), none⟩] (.alt ⟨some 94, .app (.tmp 92) (.tmp 93) 1 8, none⟩ [⟨some 97, .slc (.tmp 95) (some (.tmp 96)) none 1, none⟩, ⟨some 96, .mov (.tmp 9), none⟩, ⟨some 95, .mov (.tmp 13), none⟩] (.alt ⟨some 98, .call (.func n_slices_Clone_Luint64_uint64) [.tmp 97], none⟩ [] (.alt ⟨some 100, .app (.tmp 98) (.tmp 99) 1 8, none⟩ [] (.q ⟨some 15, .mov (.tmp 94), none⟩ (.q ⟨some 16, .mov (.tmp 100), none⟩ (.done true))) .no) .no) .no) .no) (.alt ⟨some 93, .bsl 1 [.int .u64 0] [(0, (1, .const (.int .u64 1)))] 1, none⟩ [⟨some 97, .slc (.tmp 95) (some (.tmp 96)) none 1, none⟩, ⟨some 96, .mov (.tmp 9), none⟩, ⟨some 95, .mov (.tmp 13), none⟩, ⟨some 91, .slc (.tmp 89) none (some (.tmp 90)) 1, none⟩, ⟨some 90, .mov (.tmp 9), none⟩, ⟨some 89, .mov (.tmp 13), none⟩] (.alt ⟨some 92, .call (.func n_slices_Clone_Luint64_uint64) [.tmp 91], none⟩ [⟨some 97, .slc (.tmp 95) (some (.tmp 96)) none 1, none⟩, ⟨some 96, .mov (.tmp 9), none⟩, ⟨some 95, .mov (.tmp 13), none⟩] (.alt ⟨some 94, .app (.tmp 92) (.tmp 93) 1 8, none⟩ [⟨some 97, .slc (.tmp 95) (some (.tmp 96)) none 1, none⟩, ⟨some 96, .mov (.tmp 9), none⟩, ⟨some 95, .mov (.tmp 13), none⟩] (.alt ⟨some 98, .call (.func n_slices_Clone_Luint64_uint64) [.tmp 97], none⟩ [] (.alt ⟨some 100, .app (.tmp 98) (.tmp 99) 1 8, none⟩ [] (.q ⟨some 15, .mov (.tmp 94), none⟩ (.q ⟨some 16, .mov (.tmp 100), none⟩ (.done true))) .no) .no) .no) .no) .no)) .no)))))))))) (.kill [13, 9, 100, 99, 98, 97, 96, 95, 94, 93, 92, 91, 90, 89])) (.shut 15)) (.shut 16)) (.seq (.seq (.reg [⟨some 101, .mov (.tmp 15), none⟩, ⟨some 102, .mov (.tmp 16), none⟩, ⟨some 103, .call (.func n_poly_Gcd) [.tmp 101, .tmp 102], none⟩, ⟨some 17, .mov (.tmp 103), none⟩]) (.kill [103, 102, 101])) (.seq (.seq (.seq (.reg [⟨some 105, .mov (.tmp 15), none⟩, ⟨some 106, .mov (.tmp 17), none⟩, ⟨some 107, .call (.func n_poly_DivMod) [.tmp 105, .tmp 106], none⟩, ⟨some 104, .mov (.tmp 107), none⟩, ⟨some 108, .ext (.tmp 104) 0, none⟩, ⟨some 109, .ext (.tmp 104) 1, none⟩, ⟨some 15, .mov (.tmp 108), none⟩]) (.kill [109, 108, 104, 107, 106, 105])) (.shut 15)) (.seq (.seq (.seq (.reg [⟨some 111, .mov (.tmp 16), none⟩, ⟨some 112, .mov (.tmp 17), none⟩, ⟨some 113, .call (.func n_poly_DivMod) [.tmp 111, .tmp 112], none⟩, ⟨some 110, .mov (.tmp 113), none⟩, ⟨some 114, .ext (.tmp 110) 0, none⟩, ⟨some 115, .ext (.tmp 110) 1, none⟩, ⟨some 16, .mov (.tmp 114), none⟩]) (.kill [17, 115, 114, 110, 113, 112, 111])) (.shut 16)) (.seq (.seq (.reg [⟨some 117, .mov (.tmp 15), none⟩, ⟨some 118, .call (.func n_sketch_elements) [.tmp 117], none⟩, ⟨some 116, .mov (.tmp 118), none⟩, ⟨some 119, .ext (.tmp 116) 0, none⟩, ⟨some 120, .ext (.tmp 116) 1, none⟩, ⟨some 18, .mov (.tmp 119), none⟩, ⟨some 19, .mov (.tmp 120), none⟩]) (.kill [15, 120, 119, 116, 118, 117])) (.seq (.seq (.reg [⟨some 122, .mov (.tmp 16), none⟩, ⟨some 123, .call (.func n_sketch_elements) [.tmp 122], none⟩, ⟨some 121, .mov (.tmp 123), none⟩, ⟨some 124, .ext (.tmp 121) 0, none⟩, ⟨some 125, .ext (.tmp 121) 1, none⟩, ⟨some 20, .mov (.tmp 124), none⟩, ⟨some 21, .mov (.tmp 125), none⟩]) (.kill [16, 125, 124, 121, 123, 122])) (.seq (.seq (.seq (.reg [⟨some 126, .mov (.tmp 19), none⟩, ⟨some 127, .un .not (.tmp 126), none⟩, ⟨some 128, .mov (.tmp 127), none⟩, ⟨some 129, .mov (.tmp 21), some (128, false)⟩, ⟨some 130, .un .not (.tmp 129), some (128, false)⟩, ⟨some 131, .pick (.tmp 128) (.const (.bool true)) (.tmp 130), none⟩, ⟨some 132, .mov (.tmp 131), none⟩, ⟨some 133, .mov (.tmp 18), some (132, false)⟩, ⟨some 134, .mov (.tmp 20), some (132, false)⟩, ⟨some 135, .ld (some 2) (.tmp 2), some (132, false)⟩, ⟨some 136, .ld (some 2) (.tmp 3), some (132, false)⟩, ⟨some 137, .call (.func n_sketch_fit) [.tmp 133, .tmp 134, .tmp 135, .tmp 136], some (132, false)⟩, ⟨some 138, .un .not (.tmp 137), some (132, false)⟩, ⟨some 139, .pick (.tmp 132) (.const (.bool true)) (.tmp 138), none⟩]) (.kill [19, 21, 2, 3, 138, 137, 136, 135, 134, 133, 132, 131, 130, 129, 128, 127, 126])) (.cond (.tmp 139) (.seq (.kill [18, 20, 139]) (.seq (.seq (.seq (.reg [⟨some 4, .mov (.const (.slice none 0 0)), none⟩, ⟨some 5, .mov (.const (.slice none 0 0)), none⟩, ⟨some 6, .mov (.const (.int .i64 32)), none⟩]) (.own 4 none 1)) (.own 5 none 1)) .ret)) (.seq (.kill [139]) .skip))) (.seq (.seq (.seq (.seq (.reg [⟨some 140, .mov (.tmp 18), none⟩, ⟨some 141, .mov (.tmp 20), none⟩, ⟨some 4, .mov (.tmp 140), none⟩, ⟨some 5, .mov (.tmp 141), none⟩, ⟨some 6, .mov (.const (.int .i64 0)), none⟩]) (.kill [18, 20, 141, 140])) (.own 4 none 1)) (.own 5 none 1)) .ret))))))))))))))))))⟩
theorem h_sketch_Diff_ok : compFunH Go.Proofs.Tryz.prog n_sketch_Diff [(11, none, 1), (4, none, 1), (5, none, 1), (13, none, 0), (15, none, 0), (16, none, 0)] = some h_sketch_Diff := by kernel_rfl
def h_sketch_Of : HFun := ⟨38, [(4, some (some 2))],
  .seq (.reg [⟨some 4, .alloc [.int .i64 0, .slice none 0 0], none⟩]) (.seq (.seq (.seq (.reg [⟨some 10, .mov (.tmp 0), none⟩, ⟨some 11, .lenL (.tmp 10), none⟩, ⟨some 12, .bld [.int .i64 0, .slice none 0 0] [(0, (1, .tmp 11))], none⟩, ⟨some 5, .alloc [.int .i64 0, .slice none 0 0], none⟩, ⟨none, .st 2 (.tmp 5) (.tmp 12), none⟩]) (.kill [12, 11, 10])) (.own 5 (some 1) 1)) (.seq (.seq (.seq (.reg [⟨some 13, .mov (.tmp 1), none⟩, ⟨some 14, .mov (.const (.int .i64 0)), none⟩]) (.kill [1])) (.block 0 (.loop [] (.seq (.reg [⟨some 15, .bin .lss (.tmp 14) (.tmp 13), none⟩]) (.seq (.cond (.tmp 15) (.seq (.kill [15]) .skip) (.seq (.kill [14, 0, 13, 15]) (.exit 0))) (.seq (.block 1 (.seq (.seq (.reg [⟨some 16, .mov (.tmp 14), none⟩, ⟨some 6, .mov (.tmp 16), none⟩]) (.kill [16])) (.seq (.reg [⟨some 7, .mov (.const (.int .u64 1)), none⟩]) (.seq (.seq (.reg [⟨some 17, .mov (.tmp 0), none⟩, ⟨some 18, .lenL (.tmp 17), none⟩, ⟨some 19, .mov (.const (.int .i64 0)), none⟩]) (.block 2 (.loop [] (.seq (.reg [⟨some 20, .bin .lss (.tmp 19) (.tmp 18), none⟩]) (.seq (.cond (.tmp 20) (.seq (.kill [20]) .skip) (.seq (.kill [17, 19, 18, 6, 20]) (.exit 2))) (.seq (.block 3 (.seq (.seq (.reg [⟨some 21, .iad (.tmp 17) (.tmp 19) 1, none⟩, ⟨some 22, .ld none (.tmp 21), none⟩, ⟨some 9, .mov (.tmp 22), none⟩]) (.kill [22, 21])) (.seq (.reg [⟨some 23, .mov (.tmp 7), none⟩, ⟨some 24, .mov (.tmp 6), none⟩, ⟨some 25, .call (.func n_sketch_point) [.tmp 24], none⟩, ⟨some 26, .mov (.tmp 9), none⟩, ⟨some 27, .call (.func n_field_Sub) [.tmp 25, .tmp 26], none⟩, ⟨some 28, .call (.func n_field_Mul) [.tmp 23, .tmp 27], none⟩, ⟨some 7, .mov (.tmp 28), none⟩]) (.kill [9, 28, 27, 26, 25, 24, 23])))) (.seq (.reg [⟨some 29, .bin .add (.tmp 19) (.const (.int .i64 1)), none⟩, ⟨some 19, .mov (.tmp 29), none⟩]) (.kill [29])))))))) (.seq (.reg [⟨some 30, .fad (.tmp 5) 1, none⟩, ⟨some 31, .ld none (.tmp 30), none⟩, ⟨some 32, .mov (.tmp 7), none⟩, ⟨some 33, .bsl 1 [.int .u64 0] [(0, (1, .tmp 32))] 1, none⟩, ⟨some 34, .app (.tmp 31) (.tmp 33) 1 8, none⟩, ⟨some 35, .fad (.tmp 5) 1, none⟩, ⟨none, .st 1 (.tmp 35) (.tmp 34), none⟩]) (.kill [7, 35, 34, 33, 32, 31, 30])))))) (.seq (.reg [⟨some 36, .bin .add (.tmp 14) (.const (.int .i64 1)), none⟩, ⟨some 14, .mov (.tmp 36), none⟩]) (.kill [36])))))))) (.seq (.seq (.reg [⟨some 37, .ld (some 2) (.tmp 5), none⟩, ⟨none, .st 2 (.tmp 4) (.tmp 37), none⟩]) (.kill [5, 37])) .ret)))⟩
theorem h_sketch_Of_ok : compFunH Go.Proofs.Tryz.prog n_sketch_Of [(5, some 1, 1)] = some h_sketch_Of := by kernel_rfl
def h_slices_Equal_Luint64_uint64 : HFun := ⟨26, [(4, none)],
  .seq (.seq (.reg [⟨some 4, .mov (.const (.bool false)), none⟩]) (.kill [4])) (.seq (.seq (.seq (.reg [⟨some 6, .mov (.tmp 0), none⟩, ⟨some 7, .lenL (.tmp 6), none⟩, ⟨some 8, .mov (.tmp 1), none⟩, ⟨some 9, .lenL (.tmp 8), none⟩, ⟨some 10, .bin .neq (.tmp 7) (.tmp 9), none⟩]) (.kill [9, 8, 7, 6])) (.cond (.tmp 10) (.seq (.kill [0, 1, 10]) (.seq (.reg [⟨some 4, .mov (.const (.bool false)), none⟩]) .ret)) (.seq (.kill [10]) .skip))) (.seq (.seq (.seq (.reg [⟨some 11, .mov (.tmp 0), none⟩, ⟨some 12, .lenL (.tmp 11), none⟩, ⟨some 13, .mov (.const (.int .i64 0)), none⟩]) (.kill [11])) (.block 0 (.loop [] (.seq (.reg [⟨some 14, .bin .lss (.tmp 13) (.tmp 12), none⟩]) (.seq (.cond (.tmp 14) (.seq (.kill [14]) .skip) (.seq (.kill [13, 12, 1, 0, 14]) (.exit 0))) (.seq (.block 1 (.seq (.seq (.reg [⟨some 15, .mov (.tmp 13), none⟩, ⟨some 5, .mov (.tmp 15), none⟩]) (.kill [15])) (.seq (.seq (.regd (.q ⟨some 16, .mov (.tmp 0), none⟩ (.q ⟨some 17, .mov (.tmp 5), none⟩ (.q ⟨some 18, .iad (.tmp 16) (.tmp 17) 1, none⟩ (.q ⟨some 19, .ld none (.tmp 18), none⟩ (.q ⟨some 20, .mov (.tmp 1), none⟩ (.q ⟨some 21, .mov (.tmp 5), none⟩ (.q ⟨some 22, .iad (.tmp 20) (.tmp 21) 1, none⟩ (.q ⟨some 23, .ld none (.tmp 22), none⟩ (.q ⟨some 24, .bin .neq (.tmp 19) (.tmp 23), none⟩ (.done false))))))))))) (.kill [5, 23, 22, 21, 20, 19, 18, 17, 16])) (.cond (.tmp 24) (.seq (.kill [13, 0, 1, 12, 24]) (.seq (.reg [⟨some 4, .mov (.const (.bool false)), none⟩]) .ret)) (.seq (.kill [24]) .skip))))) (.seq (.reg [⟨some 25, .bin .add (.tmp 13) (.const (.int .i64 1)), none⟩, ⟨some 13, .mov (.tmp 25), none⟩]) (.kill [25])))))))) (.seq (.reg [⟨some 4, .mov (.const (.bool true)), none⟩]) .ret)))⟩
theorem h_slices_Equal_Luint64_uint64_ok : compFunH Go.Proofs.Tryz.prog n_slices_Equal_Luint64_uint64 [] = some h_slices_Equal_Luint64_uint64 := by kernel_rfl
def h_slices_DeleteFunc_Lapi_Ident_api_Ident : HFun := ⟨42, [(4, none)],
  .seq (.seq (.reg [⟨some 4, .mov (.const (.slice none 0 0)), none⟩]) (.kill [4])) (.seq (.seq (.reg [⟨some 8, .mov (.tmp 0), none⟩, ⟨some 9, .mov (.tmp 1), none⟩, ⟨some 10, .call (.func n_slices_IndexFunc_Lapi_Ident_api_Ident) [.tmp 8, .tmp 9], none⟩, ⟨some 5, .mov (.tmp 10), none⟩]) (.kill [10, 9, 8])) (.seq (.seq (.seq (.reg [⟨some 11, .mov (.tmp 5), none⟩, ⟨some 12, .bin .eql (.tmp 11) (.const (.int .i64 (-1))), none⟩]) (.kill [11])) (.cond (.tmp 12) (.seq (.kill [5, 1, 12]) (.seq (.seq (.seq (.reg [⟨some 13, .mov (.tmp 0), none⟩, ⟨some 4, .mov (.tmp 13), none⟩]) (.kill [0, 13])) (.own 4 none 3)) .ret)) (.seq (.kill [12]) .skip))) (.seq (.seq (.seq (.reg [⟨some 14, .mov (.tmp 5), none⟩, ⟨some 15, .bin .add (.tmp 14) (.const (.int .i64 1)), none⟩, ⟨some 6, .mov (.tmp 15), none⟩]) (.kill [15, 14])) (.block 0 (.loop [] (.seq (.seq (.seq (.reg [⟨some 16, .mov (.tmp 6), none⟩, ⟨some 17, .mov (.tmp 0), none⟩, ⟨some 18, .lenL (.tmp 17), none⟩, ⟨some 19, .bin .lss (.tmp 16) (.tmp 18), none⟩]) (.kill [18, 17, 16])) (.cond (.tmp 19) (.seq (.kill [19]) .skip) (.seq (.kill [6, 1, 19]) (.exit 0)))) (.seq (.block 1 (.seq (.seq (.reg [⟨some 22, .mov (.tmp 0), none⟩, ⟨some 23, .mov (.tmp 6), none⟩, ⟨some 24, .iad (.tmp 22) (.tmp 23) 3, none⟩, ⟨some 25, .ld (some 3) (.tmp 24), none⟩, ⟨some 7, .alloc [.int .i64 0, .int .i64 0, .int .u64 0], none⟩, ⟨none, .st 3 (.tmp 7) (.tmp 25), none⟩]) (.kill [25, 24, 23, 22])) (.seq (.seq (.reg [⟨some 26, .mov (.tmp 1), none⟩, ⟨some 27, .ld (some 3) (.tmp 7), none⟩, ⟨some 28, .call (.tmp 26) [.tmp 27], none⟩, ⟨some 29, .un .not (.tmp 28), none⟩]) (.kill [28, 27, 26])) (.cond (.tmp 29) (.seq (.kill [29]) (.seq (.seq (.reg [⟨some 30, .mov (.tmp 0), none⟩, ⟨some 31, .mov (.tmp 5), none⟩, ⟨some 32, .ld (some 3) (.tmp 7), none⟩, ⟨some 33, .iad (.tmp 30) (.tmp 31) 3, none⟩, ⟨none, .st 3 (.tmp 33) (.tmp 32), none⟩]) (.kill [7, 33, 32, 31, 30])) (.seq (.reg [⟨some 34, .mov (.tmp 5), none⟩, ⟨some 35, .bin .add (.tmp 34) (.const (.int .i64 1)), none⟩, ⟨some 5, .mov (.tmp 35), none⟩]) (.kill [35, 34])))) (.seq (.kill [7, 29]) .skip))))) (.seq (.reg [⟨some 20, .mov (.tmp 6), none⟩, ⟨some 21, .bin .add (.tmp 20) (.const (.int .i64 1)), none⟩, ⟨some 6, .mov (.tmp 21), none⟩]) (.kill [21, 20]))))))) (.seq (.seq (.reg [⟨some 36, .mov (.tmp 0), none⟩, ⟨some 37, .mov (.tmp 5), none⟩, ⟨some 38, .slc (.tmp 36) (some (.tmp 37)) none 3, none⟩, ⟨none, .clr (.tmp 38) 3 [.int .i64 0, .int .i64 0, .int .u64 0], none⟩]) (.kill [38, 37, 36])) (.seq (.seq (.seq (.reg [⟨some 39, .mov (.tmp 0), none⟩, ⟨some 40, .mov (.tmp 5), none⟩, ⟨some 41, .slc (.tmp 39) none (some (.tmp 40)) 3, none⟩, ⟨some 4, .mov (.tmp 41), none⟩]) (.kill [0, 5, 41, 40, 39])) (.own 4 none 3)) .ret)))))⟩
theorem h_slices_DeleteFunc_Lapi_Ident_api_Ident_ok : compFunH Go.Proofs.Tryz.prog n_slices_DeleteFunc_Lapi_Ident_api_Ident [(4, none, 3)] = some h_slices_DeleteFunc_Lapi_Ident_api_Ident := by kernel_rfl
def h_slices_Clone_Lapi_Ident_api_Ident : HFun := ⟨8, [(2, none)],
  .seq (.seq (.reg [⟨some 2, .mov (.const (.slice none 0 0)), none⟩]) (.kill [2])) (.seq (.seq (.seq (.reg [⟨some 3, .mov (.tmp 0), none⟩, ⟨some 4, .nilS false 1 (.tmp 3), none⟩]) (.kill [3])) (.cond (.tmp 4) (.seq (.kill [0, 4]) (.seq (.seq (.reg [⟨some 2, .mov (.const (.slice none 0 0)), none⟩]) (.own 2 none 3)) .ret)) (.seq (.kill [4]) .skip))) (.seq (.seq (.seq (.reg [⟨some 5, .bsl 3 [] [] 0, none⟩, ⟨some 6, .mov (.tmp 0), none⟩, ⟨some 7, .app (.tmp 5) (.tmp 6) 3 24, none⟩, ⟨some 2, .mov (.tmp 7), none⟩]) (.kill [0, 7, 6, 5])) (.own 2 none 3)) .ret))⟩
theorem h_slices_Clone_Lapi_Ident_api_Ident_ok : compFunH Go.Proofs.Tryz.prog n_slices_Clone_Lapi_Ident_api_Ident [(2, none, 3)] = some h_slices_Clone_Lapi_Ident_api_Ident := by kernel_rfl
def h_slices_Contains_Lapi_Ident_api_Ident : HFun := ⟨9, [(4, none)],
  .seq (.seq (.reg [⟨some 3, .box (.tmp 1), none⟩, ⟨some 4, .mov (.const (.bool false)), none⟩]) (.kill [1, 4])) (.seq (.seq (.reg [⟨some 5, .mov (.tmp 0), none⟩, ⟨some 6, .ld (some 3) (.tmp 3), none⟩, ⟨some 7, .call (.func n_slices_Index_Lapi_Ident_api_Ident) [.tmp 5, .tmp 6], none⟩, ⟨some 8, .bin .geq (.tmp 7) (.const (.int .i64 0)), none⟩, ⟨some 4, .mov (.tmp 8), none⟩]) (.kill [0, 3, 8, 7, 6, 5])) .ret)⟩
theorem h_slices_Contains_Lapi_Ident_api_Ident_ok : compFunH Go.Proofs.Tryz.prog n_slices_Contains_Lapi_Ident_api_Ident [] = some h_slices_Contains_Lapi_Ident_api_Ident := by kernel_rfl
def h_sketch_Elem : HFun := ⟨15, [(2, none)],
  .seq (.seq (.reg [⟨some 1, .box (.tmp 0), none⟩, ⟨some 2, .mov (.const (.int .u64 0)), none⟩]) (.kill [0, 2])) (.seq (.seq (.reg [⟨some 3, .fad (.tmp 1) 0, none⟩, ⟨some 4, .ld none (.tmp 3), none⟩, ⟨some 5, .conv .u64 (.tmp 4), none⟩, ⟨some 6, .fad (.tmp 1) 1, none⟩, ⟨some 7, .ld none (.tmp 6), none⟩, ⟨some 8, .conv .u64 (.tmp 7), none⟩, ⟨some 9, .fad (.tmp 1) 2, none⟩, ⟨some 10, .ld none (.tmp 9), none⟩, ⟨some 11, .bsl 1 [.int .u64 0, .int .u64 0, .int .u64 0] [(0, (1, .tmp 5)), (1, (1, .tmp 8)), (2, (1, .tmp 10))] 3, none⟩, ⟨some 12, .call (.func n_hash_Of) [.const (.string (Hud.bs [101, 108, 101, 109])), .tmp 11], none⟩, ⟨some 13, .bin .rem (.tmp 12) (.const (.int .u64 1152921504606846976)), none⟩, ⟨some 14, .bin .add (.const (.int .u64 1)) (.tmp 13), none⟩, ⟨some 2, .mov (.tmp 14), none⟩]) (.kill [1, 14, 13, 12, 11, 10, 9, 8, 7, 6, 5, 4, 3])) .ret)⟩
theorem h_sketch_Elem_ok : compFunH Go.Proofs.Tryz.prog n_sketch_Elem [] = some h_sketch_Elem := by kernel_rfl
def h_slices_Compact_Luint64_uint64 : HFun := ⟨61, [(2, none)],
  .seq (.seq (.reg [⟨some 2, .mov (.const (.slice none 0 0)), none⟩]) (.kill [2])) (.seq (.seq (.seq (.reg [⟨some 6, .mov (.tmp 0), none⟩, ⟨some 7, .lenL (.tmp 6), none⟩, ⟨some 8, .bin .lss (.tmp 7) (.const (.int .i64 2)), none⟩]) (.kill [7, 6])) (.cond (.tmp 8) (.seq (.kill [8]) (.seq (.seq (.seq (.reg [⟨some 9, .mov (.tmp 0), none⟩, ⟨some 2, .mov (.tmp 9), none⟩]) (.kill [0, 9])) (.own 2 none 1)) .ret)) (.seq (.kill [8]) .skip))) (.seq (.seq (.reg [⟨some 3, .mov (.const (.int .i64 1)), none⟩]) (.block 0 (.loop [] (.seq (.seq (.seq (.reg [⟨some 10, .mov (.tmp 3), none⟩, ⟨some 11, .mov (.tmp 0), none⟩, ⟨some 12, .lenL (.tmp 11), none⟩, ⟨some 13, .bin .lss (.tmp 10) (.tmp 12), none⟩]) (.kill [12, 11, 10])) (.cond (.tmp 13) (.seq (.kill [13]) .skip) (.seq (.kill [3, 13]) (.exit 0)))) (.seq (.block 1 (.seq (.seq (.regd (.q ⟨some 16, .mov (.tmp 0), none⟩ (.q ⟨some 17, .mov (.tmp 3), none⟩ (.q ⟨some 18, .iad (.tmp 16) (.tmp 17) 1, none⟩ (.q ⟨some 19, .ld none (.tmp 18), none⟩ (.q ⟨some 20, .mov (.tmp 0), none⟩ (.q ⟨some 21, .mov (.tmp 3), none⟩ (.q ⟨some 22, .bin .sub (.tmp 21) (.const (.int .i64 1)), none⟩ (.q ⟨some 23, .iad (.tmp 20) (.tmp 22) 1, none⟩ (.q ⟨some 24, .ld none (.tmp 23), none⟩ (.q ⟨some 25, .bin .eql (.tmp 19) (.tmp 24), none⟩ (.done false)))))))))))) (.kill [24, 23, 22, 21, 20, 19, 18, 17, 16])) (.cond (.tmp 25) (.seq (.kill [25]) (.seq (.seq (.reg [⟨some 26, .mov (.tmp 0), none⟩, ⟨some 27, .mov (.tmp 3), none⟩, ⟨some 28, .slc (.tmp 26) (some (.tmp 27)) none 1, none⟩, ⟨some 4, .mov (.tmp 28), none⟩]) (.kill [28, 27, 26])) (.seq (.seq (.reg [⟨some 5, .mov (.const (.int .i64 1)), none⟩]) (.block 2 (.loop [] (.seq (.seq (.seq (.reg [⟨some 29, .mov (.tmp 5), none⟩, ⟨some 30, .mov (.tmp 4), none⟩, ⟨some 31, .lenL (.tmp 30), none⟩, ⟨some 32, .bin .lss (.tmp 29) (.tmp 31), none⟩]) (.kill [31, 30, 29])) (.cond (.tmp 32) (.seq (.kill [32]) .skip) (.seq (.kill [4, 5, 32]) (.exit 2)))) (.seq (.block 3 (.seq (.seq (.regd (.q ⟨some 35, .mov (.tmp 4), none⟩ (.q ⟨some 36, .mov (.tmp 5), none⟩ (.q ⟨some 37, .iad (.tmp 35) (.tmp 36) 1, none⟩ (.q ⟨some 38, .ld none (.tmp 37), none⟩ (.q ⟨some 39, .mov (.tmp 4), none⟩ (.q ⟨some 40, .mov (.tmp 5), none⟩ (.q ⟨some 41, .bin .sub (.tmp 40) (.const (.int .i64 1)), none⟩ (.q ⟨some 42, .iad (.tmp 39) (.tmp 41) 1, none⟩ (.q ⟨some 43, .ld none (.tmp 42), none⟩ (.q ⟨some 44, .bin .neq (.tmp 38) (.tmp 43), none⟩ (.done false)))))))))))) (.kill [43, 42, 41, 40, 39, 38, 37, 36, 35])) (.cond (.tmp 44) (.seq (.kill [44]) (.seq (.seq (.reg [⟨some 45, .mov (.tmp 0), none⟩, ⟨some 46, .mov (.tmp 3), none⟩, ⟨some 47, .mov (.tmp 4), none⟩, ⟨some 48, .mov (.tmp 5), none⟩, ⟨some 49, .iad (.tmp 47) (.tmp 48) 1, none⟩, ⟨some 50, .ld none (.tmp 49), none⟩, ⟨some 51, .iad (.tmp 45) (.tmp 46) 1, none⟩, ⟨none, .st 1 (.tmp 51) (.tmp 50), none⟩]) (.kill [51, 50, 49, 48, 47, 46, 45])) (.seq (.reg [⟨some 52, .mov (.tmp 3), none⟩, ⟨some 53, .bin .add (.tmp 52) (.const (.int .i64 1)), none⟩, ⟨some 3, .mov (.tmp 53), none⟩]) (.kill [53, 52])))) (.seq (.kill [44]) .skip)))) (.seq (.reg [⟨some 33, .mov (.tmp 5), none⟩, ⟨some 34, .bin .add (.tmp 33) (.const (.int .i64 1)), none⟩, ⟨some 5, .mov (.tmp 34), none⟩]) (.kill [34, 33]))))))) (.seq (.seq (.reg [⟨some 54, .mov (.tmp 0), none⟩, ⟨some 55, .mov (.tmp 3), none⟩, ⟨some 56, .slc (.tmp 54) (some (.tmp 55)) none 1, none⟩, ⟨none, .clr (.tmp 56) 1 [.int .u64 0], none⟩]) (.kill [56, 55, 54])) (.seq (.seq (.seq (.reg [⟨some 57, .mov (.tmp 0), none⟩, ⟨some 58, .mov (.tmp 3), none⟩, ⟨some 59, .slc (.tmp 57) none (some (.tmp 58)) 1, none⟩, ⟨some 2, .mov (.tmp 59), none⟩]) (.kill [0, 3, 59, 58, 57])) (.own 2 none 1)) .ret))))) (.seq (.kill [25]) .skip)))) (.seq (.reg [⟨some 14, .mov (.tmp 3), none⟩, ⟨some 15, .bin .add (.tmp 14) (.const (.int .i64 1)), none⟩, ⟨some 3, .mov (.tmp 15), none⟩]) (.kill [15, 14]))))))) (.seq (.seq (.seq (.reg [⟨some 60, .mov (.tmp 0), none⟩, ⟨some 2, .mov (.tmp 60), none⟩]) (.kill [0, 60])) (.own 2 none 1)) .ret)))⟩
theorem h_slices_Compact_Luint64_uint64_ok : compFunH Go.Proofs.Tryz.prog n_slices_Compact_Luint64_uint64 [(2, none, 1)] = some h_slices_Compact_Luint64_uint64 := by kernel_rfl
def h_sketch_equation : HFun := ⟨56, [(10, none)],
  .seq (.seq (.reg [⟨some 10, .mov (.const (.slice none 0 0)), none⟩]) (.kill [10])) (.seq (.seq (.reg [⟨some 11, .mov (.const (.slice none 0 0)), none⟩]) (.own 11 none 1)) (.seq (.seq (.reg [⟨some 15, .mov (.tmp 2), none⟩, ⟨some 16, .call (.func n_sketch_point) [.tmp 15], none⟩, ⟨some 12, .mov (.tmp 16), none⟩]) (.kill [2, 16, 15])) (.seq (.reg [⟨some 13, .mov (.const (.int .u64 1)), none⟩]) (.seq (.seq (.seq (.reg [⟨some 17, .mov (.tmp 3), none⟩, ⟨some 18, .mov (.const (.int .i64 0)), none⟩]) (.kill [3])) (.block 0 (.loop [] (.seq (.reg [⟨some 19, .bin .lss (.tmp 18) (.tmp 17), none⟩]) (.seq (.cond (.tmp 19) (.seq (.kill [19]) .skip) (.seq (.kill [18, 17, 19]) (.exit 0))) (.seq (.block 1 (.seq (.seq (.seq (.reg [⟨some 20, .mov (.tmp 11), none⟩, ⟨some 21, .mov (.tmp 1), none⟩, ⟨some 22, .mov (.tmp 13), none⟩, ⟨some 23, .call (.func n_field_Mul) [.tmp 21, .tmp 22], none⟩, ⟨some 24, .bsl 1 [.int .u64 0] [(0, (1, .tmp 23))] 1, none⟩, ⟨some 25, .app (.tmp 20) (.tmp 24) 1 8, none⟩, ⟨some 11, .mov (.tmp 25), none⟩]) (.kill [25, 24, 23, 22, 21, 20])) (.own 11 none 1)) (.seq (.reg [⟨some 26, .mov (.tmp 13), none⟩, ⟨some 27, .mov (.tmp 12), none⟩, ⟨some 28, .call (.func n_field_Mul) [.tmp 26, .tmp 27], none⟩, ⟨some 13, .mov (.tmp 28), none⟩]) (.kill [28, 27, 26])))) (.seq (.reg [⟨some 29, .bin .add (.tmp 18) (.const (.int .i64 1)), none⟩, ⟨some 18, .mov (.tmp 29), none⟩]) (.kill [29])))))))) (.seq (.seq (.reg [⟨some 30, .mov (.tmp 1), none⟩, ⟨some 31, .mov (.tmp 13), none⟩, ⟨some 32, .call (.func n_field_Mul) [.tmp 30, .tmp 31], none⟩, ⟨some 33, .call (.func n_field_Neg) [.tmp 32], none⟩, ⟨some 14, .mov (.tmp 33), none⟩]) (.kill [1, 13, 33, 32, 31, 30])) (.seq (.reg [⟨some 13, .mov (.const (.int .u64 1)), none⟩]) (.seq (.seq (.seq (.reg [⟨some 34, .mov (.tmp 4), none⟩, ⟨some 35, .mov (.const (.int .i64 0)), none⟩]) (.kill [4])) (.block 2 (.loop [] (.seq (.reg [⟨some 36, .bin .lss (.tmp 35) (.tmp 34), none⟩]) (.seq (.cond (.tmp 36) (.seq (.kill [36]) .skip) (.seq (.kill [35, 34, 12, 36]) (.exit 2))) (.seq (.block 3 (.seq (.seq (.seq (.reg [⟨some 37, .mov (.tmp 11), none⟩, ⟨some 38, .mov (.tmp 0), none⟩, ⟨some 39, .mov (.tmp 13), none⟩, ⟨some 40, .call (.func n_field_Mul) [.tmp 38, .tmp 39], none⟩, ⟨some 41, .call (.func n_field_Neg) [.tmp 40], none⟩, ⟨some 42, .bsl 1 [.int .u64 0] [(0, (1, .tmp 41))] 1, none⟩, ⟨some 43, .app (.tmp 37) (.tmp 42) 1 8, none⟩, ⟨some 11, .mov (.tmp 43), none⟩]) (.kill [43, 42, 41, 40, 39, 38, 37])) (.own 11 none 1)) (.seq (.reg [⟨some 44, .mov (.tmp 13), none⟩, ⟨some 45, .mov (.tmp 12), none⟩, ⟨some 46, .call (.func n_field_Mul) [.tmp 44, .tmp 45], none⟩, ⟨some 13, .mov (.tmp 46), none⟩]) (.kill [46, 45, 44])))) (.seq (.reg [⟨some 47, .bin .add (.tmp 35) (.const (.int .i64 1)), none⟩, ⟨some 35, .mov (.tmp 47), none⟩]) (.kill [47])))))))) (.seq (.seq (.seq (.reg [⟨some 48, .mov (.tmp 11), none⟩, ⟨some 49, .mov (.tmp 14), none⟩, ⟨some 50, .mov (.tmp 0), none⟩, ⟨some 51, .mov (.tmp 13), none⟩, ⟨some 52, .call (.func n_field_Mul) [.tmp 50, .tmp 51], none⟩, ⟨some 53, .call (.func n_field_Add) [.tmp 49, .tmp 52], none⟩, ⟨some 54, .bsl 1 [.int .u64 0] [(0, (1, .tmp 53))] 1, none⟩, ⟨some 55, .app (.tmp 48) (.tmp 54) 1 8, none⟩, ⟨some 10, .mov (.tmp 55), none⟩]) (.kill [11, 14, 0, 13, 55, 54, 53, 52, 51, 50, 49, 48])) (.own 10 none 1)) .ret))))))))⟩
theorem h_sketch_equation_ok : compFunH Go.Proofs.Tryz.prog n_sketch_equation [(10, none, 1), (11, none, 1)] = some h_sketch_equation := by kernel_rfl
def h_sketch_solve : HFun := ⟨156, [(4, none), (5, none)],
  .seq (.seq (.reg [⟨some 4, .mov (.const (.slice none 0 0)), none⟩, ⟨some 5, .mov (.const (.bool false)), none⟩]) (.kill [5, 4])) (.seq (.reg [⟨some 6, .mov (.func n_sketch_solve_1), none⟩]) (.seq (.seq (.reg [⟨some 19, .mov (.tmp 1), none⟩, ⟨some 20, .mks 1 [.int .i64 0] 8 (.const (.int .i64 0)) (.tmp 19), none⟩, ⟨some 7, .mov (.tmp 20), none⟩]) (.kill [20, 19])) (.seq .skip (.seq (.seq (.reg [⟨some 21, .mov (.tmp 1), none⟩, ⟨some 22, .mov (.const (.int .i64 0)), none⟩]) (.block 0 (.loop [] (.seq (.reg [⟨some 23, .bin .lss (.tmp 22) (.tmp 21), none⟩]) (.seq (.cond (.tmp 23) (.seq (.kill [23]) .skip) (.seq (.kill [22, 6, 21, 23]) (.exit 0))) (.seq (.block 1 (.seq (.seq (.reg [⟨some 24, .mov (.tmp 22), none⟩, ⟨some 8, .mov (.tmp 24), none⟩]) (.kill [24])) (.seq (.seq (.reg [⟨some 25, .mov (.tmp 7), none⟩, ⟨some 26, .lenL (.tmp 25), none⟩, ⟨some 9, .mov (.tmp 26), none⟩]) (.kill [26, 25])) (.block 2 (.loop [] (.seq (.seq (.seq (.reg [⟨some 27, .mov (.tmp 9), none⟩, ⟨some 28, .mov (.tmp 0), none⟩, ⟨some 29, .lenL (.tmp 28), none⟩, ⟨some 30, .bin .lss (.tmp 27) (.tmp 29), none⟩]) (.kill [29, 28, 27])) (.cond (.tmp 30) (.seq (.kill [30]) .skip) (.seq (.kill [9, 8, 30]) (.exit 2)))) (.seq (.block 3 (.seq (.seq (.seq (.reg [⟨some 33, .mov (.tmp 0), none⟩, ⟨some 34, .mov (.tmp 9), none⟩, ⟨some 35, .iad (.tmp 33) (.tmp 34) 1, none⟩, ⟨some 36, .ld none (.tmp 35), none⟩, ⟨some 37, .mov (.tmp 8), none⟩, ⟨some 38, .iad (.tmp 36) (.tmp 37) 1, none⟩, ⟨some 39, .ld none (.tmp 38), none⟩, ⟨some 40, .bin .eql (.tmp 39) (.const (.int .u64 0)), none⟩]) (.kill [39, 38, 37, 36, 35, 34, 33])) (.cond (.tmp 40) (.seq (.kill [40]) (.exit 3)) (.seq (.kill [40]) .skip))) (.seq (.seq (.reg [⟨some 41, .mov (.tmp 7), none⟩, ⟨some 42, .lenL (.tmp 41), none⟩, ⟨some 10, .mov (.tmp 42), none⟩]) (.kill [42, 41])) (.seq (.seq (.regd (.q ⟨some 43, .mov (.tmp 0), none⟩ (.q ⟨some 44, .mov (.tmp 9), none⟩ (.q ⟨some 45, .mov (.tmp 0), none⟩ (.q ⟨some 46, .mov (.tmp 10), none⟩ (.q ⟨some 47, .mov (.tmp 0), none⟩ (.q ⟨some 48, .mov (.tmp 10), none⟩ (.q ⟨some 49, .iad (.tmp 47) (.tmp 48) 1, none⟩ (.q ⟨some 50, .ld none (.tmp 49), none⟩ (.q ⟨some 51, .mov (.tmp 0), none⟩ (.q ⟨some 52, .mov (.tmp 9), none⟩ (.q ⟨some 53, .iad (.tmp 51) (.tmp 52) 1, none⟩ (.q ⟨some 54, .ld none (.tmp 53), none⟩ (.q ⟨some 55, .iad (.tmp 43) (.tmp 44) 1, none⟩ (.alt ⟨none, .st 1 (.tmp 55) (.tmp 50), none⟩ [⟨some 46, .mov (.tmp 10), none⟩, ⟨some 45, .mov (.tmp 0), none⟩] (.q ⟨some 56, .iad (.tmp 45) (.tmp 46) 1, none⟩ (.alt ⟨none, .st 1 (.tmp 56) (.tmp 54), none⟩ [] (.done false) .no)) .no))))))))))))))) (.kill [9, 56, 55, 54, 53, 52, 51, 50, 49, 48, 47, 46, 45, 44, 43])) (.seq (.seq (.reg [⟨some 57, .mov (.tmp 0), none⟩, ⟨some 58, .mov (.tmp 10), none⟩, ⟨some 59, .iad (.tmp 57) (.tmp 58) 1, none⟩, ⟨some 60, .ld none (.tmp 59), none⟩, ⟨some 61, .mov (.tmp 8), none⟩, ⟨some 62, .iad (.tmp 60) (.tmp 61) 1, none⟩, ⟨some 63, .ld none (.tmp 62), none⟩, ⟨some 64, .call (.func n_field_Inv) [.tmp 63], none⟩, ⟨some 11, .mov (.tmp 64), none⟩]) (.kill [64, 63, 62, 61, 60, 59, 58, 57])) (.seq (.seq (.seq (.reg [⟨some 65, .mov (.tmp 0), none⟩, ⟨some 66, .mov (.tmp 10), none⟩, ⟨some 67, .iad (.tmp 65) (.tmp 66) 1, none⟩, ⟨some 68, .ld none (.tmp 67), none⟩, ⟨some 69, .lenL (.tmp 68), none⟩, ⟨some 70, .mov (.const (.int .i64 0)), none⟩]) (.kill [68, 67, 66, 65])) (.block 4 (.loop [] (.seq (.reg [⟨some 71, .bin .lss (.tmp 70) (.tmp 69), none⟩]) (.seq (.cond (.tmp 71) (.seq (.kill [71]) .skip) (.seq (.kill [70, 69, 11, 71]) (.exit 4))) (.seq (.block 5 (.seq (.seq (.reg [⟨some 72, .mov (.tmp 70), none⟩, ⟨some 12, .mov (.tmp 72), none⟩]) (.kill [72])) (.seq (.regd (.q ⟨some 73, .mov (.tmp 0), none⟩ (.q ⟨some 74, .mov (.tmp 10), none⟩ (.q ⟨some 75, .iad (.tmp 73) (.tmp 74) 1, none⟩ (.q ⟨some 76, .ld none (.tmp 75), none⟩ (.q ⟨some 77, .mov (.tmp 12), none⟩ (.q ⟨some 78, .mov (.tmp 0), none⟩ (.q ⟨some 79, .mov (.tmp 10), none⟩ (.q ⟨some 80, .iad (.tmp 78) (.tmp 79) 1, none⟩ (.q ⟨some 81, .ld none (.tmp 80), none⟩ (.q ⟨some 82, .mov (.tmp 12), none⟩ (.q ⟨some 83, .iad (.tmp 81) (.tmp 82) 1, none⟩ (.q ⟨some 84, .ld none (.tmp 83), none⟩ (.q ⟨some 85, .mov (.tmp 11), none⟩ (.alt ⟨some 86, .call (.func n_field_Mul) [.tmp 84, .tmp 85], none⟩ [⟨some 77, .mov (.tmp 12), none⟩, ⟨some 76, .ld none (.tmp 75), none⟩, ⟨some 75, .iad (.tmp 73) (.tmp 74) 1, none⟩, ⟨some 74, .mov (.tmp 10), none⟩, ⟨some 73, .mov (.tmp 0), none⟩] (.q ⟨some 87, .iad (.tmp 76) (.tmp 77) 1, none⟩ (.alt ⟨none, .st 1 (.tmp 87) (.tmp 86), none⟩ [] (.done false) .no)) .no))))))))))))))) (.kill [12, 87, 86, 85, 84, 83, 82, 81, 80, 79, 78, 77, 76, 75, 74, 73])))) (.seq (.reg [⟨some 88, .bin .add (.tmp 70) (.const (.int .i64 1)), none⟩, ⟨some 70, .mov (.tmp 88), none⟩]) (.kill [88])))))))) (.seq (.seq (.seq (.reg [⟨some 89, .mov (.tmp 0), none⟩, ⟨some 90, .lenL (.tmp 89), none⟩, ⟨some 91, .mov (.const (.int .i64 0)), none⟩]) (.kill [89])) (.block 6 (.loop [] (.seq (.reg [⟨some 92, .bin .lss (.tmp 91) (.tmp 90), none⟩]) (.seq (.cond (.tmp 92) (.seq (.kill [92]) .skip) (.seq (.kill [91, 90, 10, 92]) (.exit 6))) (.seq (.block 7 (.seq (.seq (.reg [⟨some 93, .mov (.tmp 91), none⟩, ⟨some 13, .mov (.tmp 93), none⟩]) (.kill [93])) (.seq (.seq (.reg [⟨some 94, .mov (.tmp 13), none⟩, ⟨some 95, .mov (.tmp 10), none⟩, ⟨some 96, .bin .neq (.tmp 94) (.tmp 95), none⟩]) (.kill [95, 94])) (.cond (.tmp 96) (.seq (.kill [96]) (.seq (.regd (.q ⟨some 97, .mov (.tmp 6), none⟩ (.q ⟨some 98, .mov (.tmp 0), none⟩ (.q ⟨some 99, .mov (.tmp 13), none⟩ (.q ⟨some 100, .iad (.tmp 98) (.tmp 99) 1, none⟩ (.q ⟨some 101, .ld none (.tmp 100), none⟩ (.q ⟨some 102, .mov (.tmp 0), none⟩ (.q ⟨some 103, .mov (.tmp 10), none⟩ (.q ⟨some 104, .iad (.tmp 102) (.tmp 103) 1, none⟩ (.q ⟨some 105, .ld none (.tmp 104), none⟩ (.q ⟨some 106, .mov (.tmp 0), none⟩ (.q ⟨some 107, .mov (.tmp 13), none⟩ (.q ⟨some 108, .iad (.tmp 106) (.tmp 107) 1, none⟩ (.q ⟨some 109, .ld none (.tmp 108), none⟩ (.q ⟨some 110, .mov (.tmp 8), none⟩ (.q ⟨some 111, .iad (.tmp 109) (.tmp 110) 1, none⟩ (.q ⟨some 112, .ld none (.tmp 111), none⟩ (.alt ⟨some 113, .call (.tmp 97) [.tmp 101, .tmp 105, .tmp 112], none⟩ [] (.done false) .no)))))))))))))))))) (.kill [13, 113, 112, 111, 110, 109, 108, 107, 106, 105, 104, 103, 102, 101, 100, 99, 98, 97]))) (.seq (.kill [13, 96]) .skip))))) (.seq (.reg [⟨some 114, .bin .add (.tmp 91) (.const (.int .i64 1)), none⟩, ⟨some 91, .mov (.tmp 114), none⟩]) (.kill [114])))))))) (.seq (.seq (.reg [⟨some 115, .mov (.tmp 7), none⟩, ⟨some 116, .mov (.tmp 8), none⟩, ⟨some 117, .bsl 1 [.int .i64 0] [(0, (1, .tmp 116))] 1, none⟩, ⟨some 118, .app (.tmp 115) (.tmp 117) 1 8, none⟩, ⟨some 7, .mov (.tmp 118), none⟩]) (.kill [8, 118, 117, 116, 115])) (.exit 1))))))))) (.seq (.reg [⟨some 31, .mov (.tmp 9), none⟩, ⟨some 32, .bin .add (.tmp 31) (.const (.int .i64 1)), none⟩, ⟨some 9, .mov (.tmp 32), none⟩]) (.kill [32, 31]))))))))) (.seq (.reg [⟨some 119, .bin .add (.tmp 22) (.const (.int .i64 1)), none⟩, ⟨some 22, .mov (.tmp 119), none⟩]) (.kill [119])))))))) (.seq (.seq (.seq (.reg [⟨some 120, .mov (.tmp 0), none⟩, ⟨some 121, .mov (.tmp 7), none⟩, ⟨some 122, .lenL (.tmp 121), none⟩, ⟨some 123, .slc (.tmp 120) (some (.tmp 122)) none 1, none⟩, ⟨some 124, .lenL (.tmp 123), none⟩, ⟨some 125, .mov (.const (.int .i64 0)), none⟩]) (.kill [122, 121, 120])) (.block 8 (.loop [] (.seq (.reg [⟨some 126, .bin .lss (.tmp 125) (.tmp 124), none⟩]) (.seq (.cond (.tmp 126) (.seq (.kill [126]) .skip) (.seq (.kill [123, 125, 124, 126]) (.exit 8))) (.seq (.block 9 (.seq (.seq (.reg [⟨some 127, .iad (.tmp 123) (.tmp 125) 1, none⟩, ⟨some 128, .ld none (.tmp 127), none⟩, ⟨some 15, .mov (.tmp 128), none⟩]) (.kill [128, 127])) (.seq (.seq (.reg [⟨some 129, .mov (.tmp 15), none⟩, ⟨some 130, .mov (.tmp 1), none⟩, ⟨some 131, .iad (.tmp 129) (.tmp 130) 1, none⟩, ⟨some 132, .ld none (.tmp 131), none⟩, ⟨some 133, .bin .neq (.tmp 132) (.const (.int .u64 0)), none⟩]) (.kill [15, 132, 131, 130, 129])) (.cond (.tmp 133) (.seq (.kill [125, 1, 123, 7, 0, 124, 133]) (.seq (.seq (.reg [⟨some 4, .mov (.const (.slice none 0 0)), none⟩, ⟨some 5, .mov (.const (.bool false)), none⟩]) (.own 4 none 1)) .ret)) (.seq (.kill [133]) .skip))))) (.seq (.reg [⟨some 134, .bin .add (.tmp 125) (.const (.int .i64 1)), none⟩, ⟨some 125, .mov (.tmp 134), none⟩]) (.kill [134])))))))) (.seq (.seq (.reg [⟨some 135, .mov (.tmp 1), none⟩, ⟨some 136, .mks 1 [.int .u64 0] 8 (.tmp 135) (.tmp 135), none⟩, ⟨some 16, .mov (.tmp 136), none⟩]) (.kill [136, 135])) (.seq (.seq (.seq (.reg [⟨some 137, .mov (.tmp 7), none⟩, ⟨some 138, .lenL (.tmp 137), none⟩, ⟨some 139, .mov (.const (.int .i64 0)), none⟩]) (.kill [7])) (.block 10 (.loop [] (.seq (.reg [⟨some 140, .bin .lss (.tmp 139) (.tmp 138), none⟩]) (.seq (.cond (.tmp 140) (.seq (.kill [140]) .skip) (.seq (.kill [139, 137, 138, 1, 0, 140]) (.exit 10))) (.seq (.block 11 (.seq (.seq (.reg [⟨some 141, .mov (.tmp 139), none⟩, ⟨some 142, .iad (.tmp 137) (.tmp 139) 1, none⟩, ⟨some 143, .ld none (.tmp 142), none⟩, ⟨some 17, .mov (.tmp 141), none⟩, ⟨some 18, .mov (.tmp 143), none⟩]) (.kill [143, 142, 141])) (.seq (.reg [⟨some 144, .mov (.tmp 16), none⟩, ⟨some 145, .mov (.tmp 18), none⟩, ⟨some 146, .mov (.tmp 0), none⟩, ⟨some 147, .mov (.tmp 17), none⟩, ⟨some 148, .iad (.tmp 146) (.tmp 147) 1, none⟩, ⟨some 149, .ld none (.tmp 148), none⟩, ⟨some 150, .mov (.tmp 1), none⟩, ⟨some 151, .iad (.tmp 149) (.tmp 150) 1, none⟩, ⟨some 152, .ld none (.tmp 151), none⟩, ⟨some 153, .iad (.tmp 144) (.tmp 145) 1, none⟩, ⟨none, .st 1 (.tmp 153) (.tmp 152), none⟩]) (.kill [18, 17, 153, 152, 151, 150, 149, 148, 147, 146, 145, 144])))) (.seq (.reg [⟨some 154, .bin .add (.tmp 139) (.const (.int .i64 1)), none⟩, ⟨some 139, .mov (.tmp 154), none⟩]) (.kill [154])))))))) (.seq (.seq (.seq (.reg [⟨some 155, .mov (.tmp 16), none⟩, ⟨some 4, .mov (.tmp 155), none⟩, ⟨some 5, .mov (.const (.bool true)), none⟩]) (.kill [16, 155])) (.own 4 none 1)) .ret))))))))⟩
theorem h_sketch_solve_ok : compFunH Go.Proofs.Tryz.prog n_sketch_solve [(4, none, 1)] = some h_sketch_solve := by kernel_rfl
def h_slices_Clone_Luint64_uint64 : HFun := ⟨8, [(2, none)],
  .seq (.seq (.reg [⟨some 2, .mov (.const (.slice none 0 0)), none⟩]) (.kill [2])) (.seq (.seq (.seq (.reg [⟨some 3, .mov (.tmp 0), none⟩, ⟨some 4, .nilS false 1 (.tmp 3), none⟩]) (.kill [3])) (.cond (.tmp 4) (.seq (.kill [0, 4]) (.seq (.seq (.reg [⟨some 2, .mov (.const (.slice none 0 0)), none⟩]) (.own 2 none 1)) .ret)) (.seq (.kill [4]) .skip))) (.seq (.seq (.seq (.reg [⟨some 5, .bsl 1 [] [] 0, none⟩, ⟨some 6, .mov (.tmp 0), none⟩, ⟨some 7, .app (.tmp 5) (.tmp 6) 1 8, none⟩, ⟨some 2, .mov (.tmp 7), none⟩]) (.kill [0, 7, 6, 5])) (.own 2 none 1)) .ret))⟩
theorem h_slices_Clone_Luint64_uint64_ok : compFunH Go.Proofs.Tryz.prog n_slices_Clone_Luint64_uint64 [(2, none, 1)] = some h_slices_Clone_Luint64_uint64 := by kernel_rfl
def h_sketch_elements : HFun := ⟨18, [(2, none), (3, none)],
  .seq (.seq (.reg [⟨some 2, .mov (.const (.slice none 0 0)), none⟩, ⟨some 3, .mov (.const (.bool false)), none⟩]) (.kill [3, 2])) (.seq (.seq (.reg [⟨some 5, .mov (.tmp 0), none⟩, ⟨some 6, .call (.func n_poly_Roots) [.tmp 5], none⟩, ⟨some 4, .mov (.tmp 6), none⟩]) (.kill [6, 5])) (.seq (.seq (.seq (.reg [⟨some 7, .mov (.tmp 4), none⟩, ⟨some 8, .lenL (.tmp 7), none⟩, ⟨some 9, .mov (.tmp 0), none⟩, ⟨some 10, .lenL (.tmp 9), none⟩, ⟨some 11, .bin .sub (.tmp 10) (.const (.int .i64 1)), none⟩, ⟨some 12, .bin .neq (.tmp 8) (.tmp 11), none⟩, ⟨some 13, .mov (.tmp 12), none⟩, ⟨some 14, .mov (.tmp 4), some (13, false)⟩, ⟨some 15, .call (.func n_slices_ContainsFunc_Luint64_uint64) [.tmp 14, .func n_sketch_elements_1], some (13, false)⟩, ⟨some 16, .pick (.tmp 13) (.const (.bool true)) (.tmp 15), none⟩]) (.kill [0, 15, 14, 13, 12, 11, 10, 9, 8, 7])) (.cond (.tmp 16) (.seq (.kill [4, 16]) (.seq (.seq (.reg [⟨some 2, .mov (.const (.slice none 0 0)), none⟩, ⟨some 3, .mov (.const (.bool false)), none⟩]) (.own 2 none 1)) .ret)) (.seq (.kill [16]) .skip))) (.seq (.seq (.seq (.reg [⟨some 17, .mov (.tmp 4), none⟩, ⟨some 2, .mov (.tmp 17), none⟩, ⟨some 3, .mov (.const (.bool true)), none⟩]) (.kill [4, 17])) (.own 2 none 1)) .ret)))⟩
theorem h_sketch_elements_ok : compFunH Go.Proofs.Tryz.prog n_sketch_elements [(2, none, 1)] = some h_sketch_elements := by kernel_rfl
def h_sketch_fit : HFun := ⟨52, [(8, none)],
  .seq (.seq (.reg [⟨some 6, .box (.tmp 2), none⟩, ⟨some 7, .box (.tmp 3), none⟩, ⟨some 8, .mov (.const (.bool false)), none⟩]) (.kill [2, 3, 8])) (.seq (.seq (.regd (.q ⟨some 12, .mov (.tmp 0), none⟩ (.q ⟨some 13, .fad (.tmp 6) 1, none⟩ (.q ⟨some 14, .ld none (.tmp 13), none⟩ (.q ⟨some 15, .lenL (.tmp 14), none⟩ (.q ⟨some 18, .mov (.tmp 1), none⟩ (.q ⟨some 19, .fad (.tmp 6) 1, none⟩ (.q ⟨some 20, .ld none (.tmp 19), none⟩ (.q ⟨some 21, .lenL (.tmp 20), none⟩ (.alt ⟨some 16, .call (.func n_sketch_Of) [.tmp 12, .tmp 15], none⟩ [⟨some 21, .lenL (.tmp 20), none⟩, ⟨some 20, .ld none (.tmp 19), none⟩, ⟨some 19, .fad (.tmp 6) 1, none⟩, ⟨some 18, .mov (.tmp 1), none⟩] (.q ⟨some 17, .fld (.tmp 16) 1 none, none⟩ (.alt ⟨some 22, .call (.func n_sketch_Of) [.tmp 18, .tmp 21], none⟩ [⟨some 17, .fld (.tmp 16) 1 none, none⟩] (.q ⟨some 23, .fld (.tmp 22) 1 none, none⟩ (.q ⟨some 9, .mov (.tmp 17), none⟩ (.q ⟨some 10, .mov (.tmp 23), none⟩ (.done false)))) .no)) .no)))))))))) (.kill [0, 1, 23, 22, 21, 20, 19, 18, 17, 16, 15, 14, 13, 12])) (.seq (.seq (.seq (.reg [⟨some 24, .fad (.tmp 6) 1, none⟩, ⟨some 25, .ld none (.tmp 24), none⟩, ⟨some 26, .lenL (.tmp 25), none⟩, ⟨some 27, .mov (.const (.int .i64 0)), none⟩]) (.kill [25, 24])) (.block 0 (.loop [] (.seq (.reg [⟨some 28, .bin .lss (.tmp 27) (.tmp 26), none⟩]) (.seq (.cond (.tmp 28) (.seq (.kill [28]) .skip) (.seq (.kill [27, 26, 9, 7, 10, 6, 28]) (.exit 0))) (.seq (.block 1 (.seq (.seq (.reg [⟨some 29, .mov (.tmp 27), none⟩, ⟨some 11, .mov (.tmp 29), none⟩]) (.kill [29])) (.seq (.seq (.regd (.q ⟨some 30, .fad (.tmp 6) 1, none⟩ (.q ⟨some 31, .ld none (.tmp 30), none⟩ (.q ⟨some 32, .mov (.tmp 11), none⟩ (.q ⟨some 33, .iad (.tmp 31) (.tmp 32) 1, none⟩ (.q ⟨some 34, .ld none (.tmp 33), none⟩ (.q ⟨some 35, .mov (.tmp 10), none⟩ (.q ⟨some 36, .mov (.tmp 11), none⟩ (.q ⟨some 37, .iad (.tmp 35) (.tmp 36) 1, none⟩ (.q ⟨some 38, .ld none (.tmp 37), none⟩ (.q ⟨some 40, .fad (.tmp 7) 1, none⟩ (.q ⟨some 41, .ld none (.tmp 40), none⟩ (.q ⟨some 42, .mov (.tmp 11), none⟩ (.q ⟨some 43, .iad (.tmp 41) (.tmp 42) 1, none⟩ (.q ⟨some 44, .ld none (.tmp 43), none⟩ (.q ⟨some 45, .mov (.tmp 9), none⟩ (.q ⟨some 46, .mov (.tmp 11), none⟩ (.q ⟨some 47, .iad (.tmp 45) (.tmp 46) 1, none⟩ (.q ⟨some 48, .ld none (.tmp 47), none⟩ (.alt ⟨some 39, .call (.func n_field_Mul) [.tmp 34, .tmp 38], none⟩ [⟨some 48, .ld none (.tmp 47), none⟩, ⟨some 47, .iad (.tmp 45) (.tmp 46) 1, none⟩, ⟨some 46, .mov (.tmp 11), none⟩, ⟨some 45, .mov (.tmp 9), none⟩, ⟨some 44, .ld none (.tmp 43), none⟩, ⟨some 43, .iad (.tmp 41) (.tmp 42) 1, none⟩, ⟨some 42, .mov (.tmp 11), none⟩, ⟨some 41, .ld none (.tmp 40), none⟩, ⟨some 40, .fad (.tmp 7) 1, none⟩] (.alt ⟨some 49, .call (.func n_field_Mul) [.tmp 44, .tmp 48], none⟩ [] (.q ⟨some 50, .bin .neq (.tmp 39) (.tmp 49), none⟩ (.done false)) .no) .no)))))))))))))))))))) (.kill [11, 49, 48, 47, 46, 45, 44, 43, 42, 41, 40, 39, 38, 37, 36, 35, 34, 33, 32, 31, 30])) (.cond (.tmp 50) (.seq (.kill [27, 6, 10, 7, 9, 26, 50]) (.seq (.reg [⟨some 8, .mov (.const (.bool false)), none⟩]) .ret)) (.seq (.kill [50]) .skip))))) (.seq (.reg [⟨some 51, .bin .add (.tmp 27) (.const (.int .i64 1)), none⟩, ⟨some 27, .mov (.tmp 51), none⟩]) (.kill [51])))))))) (.seq (.reg [⟨some 8, .mov (.const (.bool true)), none⟩]) .ret)))⟩
theorem h_sketch_fit_ok : compFunH Go.Proofs.Tryz.prog n_sketch_fit [] = some h_sketch_fit := by kernel_rfl
def h_sketch_point : HFun := ⟨6, [(2, none)],
  .seq (.seq (.reg [⟨some 2, .mov (.const (.int .u64 0)), none⟩]) (.kill [2])) (.seq (.seq (.reg [⟨some 3, .mov (.tmp 0), none⟩, ⟨some 4, .conv .u64 (.tmp 3), none⟩, ⟨some 5, .bin .sub (.const (.int .u64 2305843009213693950)) (.tmp 4), none⟩, ⟨some 2, .mov (.tmp 5), none⟩]) (.kill [0, 5, 4, 3])) .ret)⟩
theorem h_sketch_point_ok : compFunH Go.Proofs.Tryz.prog n_sketch_point [] = some h_sketch_point := by kernel_rfl
def h_slices_IndexFunc_Lapi_Ident_api_Ident : HFun := ⟨19, [(4, none)],
  .seq (.seq (.reg [⟨some 4, .mov (.const (.int .i64 0)), none⟩]) (.kill [4])) (.seq (.seq (.seq (.reg [⟨some 6, .mov (.tmp 0), none⟩, ⟨some 7, .lenL (.tmp 6), none⟩, ⟨some 8, .mov (.const (.int .i64 0)), none⟩]) (.kill [6])) (.block 0 (.loop [] (.seq (.reg [⟨some 9, .bin .lss (.tmp 8) (.tmp 7), none⟩]) (.seq (.cond (.tmp 9) (.seq (.kill [9]) .skip) (.seq (.kill [8, 7, 0, 1, 9]) (.exit 0))) (.seq (.block 1 (.seq (.seq (.reg [⟨some 10, .mov (.tmp 8), none⟩, ⟨some 5, .mov (.tmp 10), none⟩]) (.kill [10])) (.seq (.seq (.reg [⟨some 11, .mov (.tmp 1), none⟩, ⟨some 12, .mov (.tmp 0), none⟩, ⟨some 13, .mov (.tmp 5), none⟩, ⟨some 14, .iad (.tmp 12) (.tmp 13) 3, none⟩, ⟨some 15, .ld (some 3) (.tmp 14), none⟩, ⟨some 16, .call (.tmp 11) [.tmp 15], none⟩]) (.kill [15, 14, 13, 12, 11])) (.cond (.tmp 16) (.seq (.kill [8, 1, 0, 7, 16]) (.seq (.seq (.reg [⟨some 17, .mov (.tmp 5), none⟩, ⟨some 4, .mov (.tmp 17), none⟩]) (.kill [5, 17])) .ret)) (.seq (.kill [5, 16]) .skip))))) (.seq (.reg [⟨some 18, .bin .add (.tmp 8) (.const (.int .i64 1)), none⟩, ⟨some 8, .mov (.tmp 18), none⟩]) (.kill [18])))))))) (.seq (.reg [⟨some 4, .mov (.const (.int .i64 (-1))), none⟩]) .ret))⟩
theorem h_slices_IndexFunc_Lapi_Ident_api_Ident_ok : compFunH Go.Proofs.Tryz.prog n_slices_IndexFunc_Lapi_Ident_api_Ident [] = some h_slices_IndexFunc_Lapi_Ident_api_Ident := by kernel_rfl
def h_slices_Index_Lapi_Ident_api_Ident : HFun := ⟨19, [(4, none)],
  .seq (.seq (.reg [⟨some 3, .box (.tmp 1), none⟩, ⟨some 4, .mov (.const (.int .i64 0)), none⟩]) (.kill [1, 4])) (.seq (.seq (.seq (.reg [⟨some 6, .mov (.tmp 0), none⟩, ⟨some 7, .lenL (.tmp 6), none⟩, ⟨some 8, .mov (.const (.int .i64 0)), none⟩]) (.kill [6])) (.block 0 (.loop [] (.seq (.reg [⟨some 9, .bin .lss (.tmp 8) (.tmp 7), none⟩]) (.seq (.cond (.tmp 9) (.seq (.kill [9]) .skip) (.seq (.kill [8, 7, 0, 3, 9]) (.exit 0))) (.seq (.block 1 (.seq (.seq (.reg [⟨some 10, .mov (.tmp 8), none⟩, ⟨some 5, .mov (.tmp 10), none⟩]) (.kill [10])) (.seq (.seq (.regd (.q ⟨some 11, .ld (some 3) (.tmp 3), none⟩ (.q ⟨some 12, .mov (.tmp 0), none⟩ (.q ⟨some 13, .mov (.tmp 5), none⟩ (.q ⟨some 14, .iad (.tmp 12) (.tmp 13) 3, none⟩ (.q ⟨some 15, .ld (some 3) (.tmp 14), none⟩ (.q ⟨some 16, .eqa false [.int .i64, .int .i64, .int .u64] (.tmp 11) (.tmp 15), none⟩ (.done false)))))))) (.kill [15, 14, 13, 12, 11])) (.cond (.tmp 16) (.seq (.kill [8, 3, 0, 7, 16]) (.seq (.seq (.reg [⟨some 17, .mov (.tmp 5), none⟩, ⟨some 4, .mov (.tmp 17), none⟩]) (.kill [5, 17])) .ret)) (.seq (.kill [5, 16]) .skip))))) (.seq (.reg [⟨some 18, .bin .add (.tmp 8) (.const (.int .i64 1)), none⟩, ⟨some 8, .mov (.tmp 18), none⟩]) (.kill [18])))))))) (.seq (.reg [⟨some 4, .mov (.const (.int .i64 (-1))), none⟩]) .ret))⟩
theorem h_slices_Index_Lapi_Ident_api_Ident_ok : compFunH Go.Proofs.Tryz.prog n_slices_Index_Lapi_Ident_api_Ident [] = some h_slices_Index_Lapi_Ident_api_Ident := by kernel_rfl
def h_sketch_solve_1 : HFun := ⟨27, [],
  .seq (.seq (.reg [⟨some 7, .mov (.tmp 0), none⟩, ⟨some 8, .lenL (.tmp 7), none⟩, ⟨some 9, .mov (.const (.int .i64 0)), none⟩]) (.kill [7])) (.block 0 (.loop [] (.seq (.reg [⟨some 10, .bin .lss (.tmp 9) (.tmp 8), none⟩]) (.seq (.cond (.tmp 10) (.seq (.kill [10]) .skip) (.seq (.kill [9, 8, 1, 2, 0, 10]) (.exit 0))) (.seq (.block 1 (.seq (.seq (.reg [⟨some 11, .mov (.tmp 9), none⟩, ⟨some 6, .mov (.tmp 11), none⟩]) (.kill [11])) (.seq (.regd (.q ⟨some 12, .mov (.tmp 0), none⟩ (.q ⟨some 13, .mov (.tmp 6), none⟩ (.q ⟨some 14, .mov (.tmp 0), none⟩ (.q ⟨some 15, .mov (.tmp 6), none⟩ (.q ⟨some 16, .iad (.tmp 14) (.tmp 15) 1, none⟩ (.q ⟨some 17, .ld none (.tmp 16), none⟩ (.q ⟨some 18, .mov (.tmp 2), none⟩ (.q ⟨some 19, .mov (.tmp 1), none⟩ (.q ⟨some 20, .mov (.tmp 6), none⟩ (.q ⟨some 21, .iad (.tmp 19) (.tmp 20) 1, none⟩ (.q ⟨some 22, .ld none (.tmp 21), none⟩ (.alt ⟨some 23, .call (.func n_field_Mul) [.tmp 18, .tmp 22], none⟩ [⟨some 17, .ld none (.tmp 16), none⟩, ⟨some 16, .iad (.tmp 14) (.tmp 15) 1, none⟩, ⟨some 15, .mov (.tmp 6), none⟩, ⟨some 14, .mov (.tmp 0), none⟩, ⟨some 13, .mov (.tmp 6), none⟩, ⟨some 12, .mov (.tmp 0), none⟩] (.alt ⟨some 24, .call (.func n_field_Sub) [.tmp 17, .tmp 23], none⟩ [⟨some 13, .mov (.tmp 6), none⟩, ⟨some 12, .mov (.tmp 0), none⟩] (.q ⟨some 25, .iad (.tmp 12) (.tmp 13) 1, none⟩ (.alt ⟨none, .st 1 (.tmp 25) (.tmp 24), none⟩ [] (.done false) .no)) .no) .no))))))))))))) (.kill [6, 25, 24, 23, 22, 21, 20, 19, 18, 17, 16, 15, 14, 13, 12])))) (.seq (.reg [⟨some 26, .bin .add (.tmp 9) (.const (.int .i64 1)), none⟩, ⟨some 9, .mov (.tmp 26), none⟩]) (.kill [26])))))))⟩
theorem h_sketch_solve_1_ok : compFunH Go.Proofs.Tryz.prog n_sketch_solve_1 [] = some h_sketch_solve_1 := by kernel_rfl
def h_slices_ContainsFunc_Luint64_uint64 : HFun := ⟨9, [(4, none)],
  .seq (.seq (.reg [⟨some 4, .mov (.const (.bool false)), none⟩]) (.kill [4])) (.seq (.seq (.reg [⟨some 5, .mov (.tmp 0), none⟩, ⟨some 6, .mov (.tmp 1), none⟩, ⟨some 7, .call (.func n_slices_IndexFunc_Luint64_uint64) [.tmp 5, .tmp 6], none⟩, ⟨some 8, .bin .geq (.tmp 7) (.const (.int .i64 0)), none⟩, ⟨some 4, .mov (.tmp 8), none⟩]) (.kill [0, 1, 8, 7, 6, 5])) .ret)⟩
theorem h_slices_ContainsFunc_Luint64_uint64_ok : compFunH Go.Proofs.Tryz.prog n_slices_ContainsFunc_Luint64_uint64 [] = some h_slices_ContainsFunc_Luint64_uint64 := by kernel_rfl
def h_sketch_elements_1 : HFun := ⟨9, [(2, none)],
  .seq (.seq (.reg [⟨some 2, .mov (.const (.bool false)), none⟩]) (.kill [2])) (.seq (.seq (.reg [⟨some 3, .mov (.tmp 0), none⟩, ⟨some 4, .bin .lss (.tmp 3) (.const (.int .u64 1)), none⟩, ⟨some 5, .mov (.tmp 4), none⟩, ⟨some 6, .mov (.tmp 0), some (5, false)⟩, ⟨some 7, .bin .gtr (.tmp 6) (.const (.int .u64 1152921504606846976)), some (5, false)⟩, ⟨some 8, .pick (.tmp 5) (.const (.bool true)) (.tmp 7), none⟩, ⟨some 2, .mov (.tmp 8), none⟩]) (.kill [0, 8, 7, 6, 5, 4, 3])) .ret)⟩
theorem h_sketch_elements_1_ok : compFunH Go.Proofs.Tryz.prog n_sketch_elements_1 [] = some h_sketch_elements_1 := by kernel_rfl
def h_slices_IndexFunc_Luint64_uint64 : HFun := ⟨19, [(4, none)],
  .seq (.seq (.reg [⟨some 4, .mov (.const (.int .i64 0)), none⟩]) (.kill [4])) (.seq (.seq (.seq (.reg [⟨some 6, .mov (.tmp 0), none⟩, ⟨some 7, .lenL (.tmp 6), none⟩, ⟨some 8, .mov (.const (.int .i64 0)), none⟩]) (.kill [6])) (.block 0 (.loop [] (.seq (.reg [⟨some 9, .bin .lss (.tmp 8) (.tmp 7), none⟩]) (.seq (.cond (.tmp 9) (.seq (.kill [9]) .skip) (.seq (.kill [8, 7, 0, 1, 9]) (.exit 0))) (.seq (.block 1 (.seq (.seq (.reg [⟨some 10, .mov (.tmp 8), none⟩, ⟨some 5, .mov (.tmp 10), none⟩]) (.kill [10])) (.seq (.seq (.reg [⟨some 11, .mov (.tmp 1), none⟩, ⟨some 12, .mov (.tmp 0), none⟩, ⟨some 13, .mov (.tmp 5), none⟩, ⟨some 14, .iad (.tmp 12) (.tmp 13) 1, none⟩, ⟨some 15, .ld none (.tmp 14), none⟩, ⟨some 16, .call (.tmp 11) [.tmp 15], none⟩]) (.kill [15, 14, 13, 12, 11])) (.cond (.tmp 16) (.seq (.kill [8, 1, 0, 7, 16]) (.seq (.seq (.reg [⟨some 17, .mov (.tmp 5), none⟩, ⟨some 4, .mov (.tmp 17), none⟩]) (.kill [5, 17])) .ret)) (.seq (.kill [5, 16]) .skip))))) (.seq (.reg [⟨some 18, .bin .add (.tmp 8) (.const (.int .i64 1)), none⟩, ⟨some 8, .mov (.tmp 18), none⟩]) (.kill [18])))))))) (.seq (.reg [⟨some 4, .mov (.const (.int .i64 (-1))), none⟩]) .ret))⟩
theorem h_slices_IndexFunc_Luint64_uint64_ok : compFunH Go.Proofs.Tryz.prog n_slices_IndexFunc_Luint64_uint64 [] = some h_slices_IndexFunc_Luint64_uint64 := by kernel_rfl
end Hud
end
section
namespace Hud
open Go
@[go_sem] def shA (args : List AV) (T : Tab) (I : List Nat) : List AV := (List.range args.length).map fun i => getS (shutN ⟨T.length, initS 0 args, T⟩ I).s i
@[go_sem] def shT (args : List AV) (T : Tab) (I : List Nat) : Tab := (shutN ⟨T.length, initS 0 args, T⟩ I).T
section
variable {P : Program} {G : Nat → Option (List AV)} {f : FuncId} {args args' : List AV} {T : Tab}
theorem CallOk.ofCall {K : AV → Tab → Prop} (hc : @callC P G f args T ⟨K⟩) : CallOk P G f args T K := fun _ _ _ _ hG hI hA => callW_ok hc hG hI hA
theorem CallOk.sh (I : List Nat) {args2 : List AV} {T2 : Tab} {post : AV → Tab → Prop} (hA : shA args T I = args2) (hT : shT args T I = T2) (hc : CallOk P G f args2 T2 post) : CallOk P G f args T post := by
  intro h φ w vals hG hI hR
  have hS0 : SInv P G 0 h φ T w ⟨T.length, initS 0 args, T⟩ ⟨vals, []⟩ w := by
    refine ⟨rfl, (once_init 0 args).1, ⟨h, φ, hG, Evo.refl, hI, ?_⟩, by simp, by simp [DfOk]⟩
    have := init_ok (h := h) (φ := φ) (n := T.length) 0 args [] vals.toList [] rfl hR
    simpa only [List.nil_append, List.append_nil, Array.toArray_toList] using this
  have hN : ∀ (l : List Nat) (st : St), SInv P G 0 h φ T w st ⟨vals, []⟩ w → SInv P G 0 h φ T w (shutN st l) ⟨vals, []⟩ w := by
    intro l
    induction l with
    | nil => intro st h; exact h
    | cons i r ih => intro st h; exact ih _ (h.shutI i)
  obtain ⟨_, _, ⟨h2, φ2, g1, g2, g3, g4⟩, _, _⟩ := hN I _ hS0
  have hT' : (shutN ⟨T.length, initS 0 args, T⟩ I).T = T2 := hT
  rw [hT'] at g2 g3 g4
  have hR2 : RpL h2 φ2 T2.length args2 vals.toList := by
    have hl := hR.length
    refine RpL.mk (by rw [← hA]; simp [shA, hl]) fun i c u hc hu => ?_
    rw [← hA] at hc
    have hi : i < args.length := by
      rcases Nat.lt_or_ge i args.length with h | h
      · exact h
      · rw [hl] at h; rw [List.getElem?_eq_none h] at hu; cases hu
    simp only [shA, List.getElem?_map, List.getElem?_range hi, Option.map_some, Option.some.injEq] at hc
    have := g4 i
    rw [hc] at this
    have hu2 : vals.getD i undef = u := by
      rw [Array.getD_eq_getD_getElem?]
      rw [Array.getElem?_toList] at hu
      rw [hu]; rfl
    rw [hu2] at this
    exact this
  have key : ∀ {v w'}, Ret h2 φ2 T2 w post v w' → Ret h φ T w post v w' := fun ⟨r, T', h', φ', e1, e2, e3, e4⟩ => ⟨r, T', h', φ', e1, g2.trans e2, e3, e4⟩
  rcases hc h2 φ2 w vals g1 g3 hR2 with ⟨a, b⟩ | ⟨v, w', a, b⟩
  · exact .inl ⟨a, b.mono fun e w' ⟨v, e1, e2⟩ => ⟨v, e1, key e2⟩⟩
  · exact .inr ⟨v, w', a, key b⟩
theorem call_sh (L : List Nat) {args2 args3 : List AV} {T2 T3 : Tab} {R : AV} {K : AV → Tab → Prop} (I : List Nat) (hs : subL args args') (hn : L.Nodup) (hL : ∀ i ∈ L, i < T.length) (ha : rnL L args' = args2) (hT : rnT L T = T2)
    (h3 : shA args2 T2 I = args3) (h4 : shT args2 T2 I = T3) (hi : idsL args3 = []) (hc : CallOk P G f args3 [] fun r T' => r = R ∧ T' = []) (hR : idsA R = []) (hk : K R (bkT L T.length T L T3)) : @callC P G f args T ⟨K⟩ :=
  call_at L (post := fun r T' => r = R ∧ T' = T3) hs hn hL ha hT (CallOk.sh I h3 h4 (CallOk.ofCall (call_pure (subL_refl _) hi hc hR ⟨rfl, rfl⟩))) fun r T' ⟨h1, h2⟩ => by
    subst h1; subst h2; rw [bk_no hR]; exact hk
end
end Hud
end
section
namespace Hud
open Go
def withoutL (a b : List Id) : List Id := msortI (a.filter fun x => !decide (x ∈ b))
section
variable {G : Nat → Option (List AV)}
set_option maxHeartbeats 2000000
theorem c_Index (l : List Id) (x : Id) (hl : l.length ≤ 1000000) : CallOk Go.Proofs.Tryz.prog G n_slices_Index_Lapi_Ident_api_Ident [ids l, .ag x.A] [] fun r T => (∃ n : Int, r = .v (.int .i64 n) ∧ decide (n ≥ 0) = decide (x ∈ l)) ∧ T = [] := by
  refine fun_okH h_slices_Index_Lapi_Ident_api_Ident_ok (by decide) ?_
  unfold h_slices_Index_Lapi_Ident_api_Ident
  simp only [go_sem, ↓reduceIte, List.length_map, Id.A_def]
  refine loop_up l.length (fun i => ⟨0, [(0, ids l), (3, .ptr 0 0), (7, .v (.int .i64 l.length)), (8, .v (.int .i64 i))], [some (.box x.A)]⟩) (fun i => x ∉ l.take i) ?_ (by simp) ?_ ?_
  · simp only [go_sem, ↓reduceIte, Id.A_def]
  · intro i hi hj
    simp only [go_sem, ↓reduceIte, List.length_map, dlt_t hi, nth_map Id.A l i hi, Id.A_def, wrap_suc (show i < 9223372036854775807 by omega)]
    refine condW_i (fun h => ?_) (fun h => ?_) <;> simp only [go_sem, ↓reduceIte, wrap_suc (show i < 9223372036854775807 by omega)]
    · have h1 : x = l[i] := by simpa using h
      have : x ∈ l := by rw [h1]; exact List.getElem_mem hi
      refine ⟨(i : Int), rfl, ?_⟩
      simp [this]
    · refine ⟨rfl, ?_⟩
      have h1 : x ≠ l[i] := by simpa using h
      intro hx
      rw [List.take_succ_eq_append_getElem hi] at hx
      rcases List.mem_append.1 hx with hx | hx
      · exact hj hx
      · exact h1 (List.mem_singleton.1 hx)
  · intro hj
    rw [List.take_length] at hj
    simp only [go_sem, ↓reduceIte, List.length_map, dlt_f (Nat.lt_irrefl _)]
    exact ⟨-1, rfl, by simp [hj]⟩
theorem c_Contains (l : List Id) (x : Id) (hl : l.length ≤ 1000000) : CallOk Go.Proofs.Tryz.prog G n_slices_Contains_Lapi_Ident_api_Ident [ids l, .ag x.A] [] fun r T => r = .v (.bool (decide (x ∈ l))) ∧ T = [] := by
  refine fun_okH h_slices_Contains_Lapi_Ident_api_Ident_ok (by decide) ?_
  unfold h_slices_Contains_Lapi_Ident_api_Ident
  simp only [go_sem, ↓reduceIte, Id.A_def]
  refine call_post (subL_refl _) rfl (c_Index l x hl) ?_
  rintro r T' ⟨⟨n, rfl, hn⟩, rfl⟩
  simp only [go_sem, ↓reduceIte, hn]
theorem c_without_1 (b : List Id) (x : Id) (hl : b.length ≤ 1000000) : CallOk Go.Proofs.Tryz.prog G n_recon_without_1 [.ag x.A, .ptr 0 0] [some (.box [ids b])] fun r T => r = .v (.bool (decide (x ∈ b))) ∧ T = [some (.box [ids b])] := by
  refine fun_okH h_recon_without_1_ok (by decide) ?_
  unfold h_recon_without_1
  simp only [go_sem, ↓reduceIte, Id.A_def]
  refine call_pure (subL_refl _) rfl (c_Contains b x hl) rfl ?_
  simp only [go_sem, ↓reduceIte]
theorem c_IndexFunc (l b : List Id) (hl : l.length ≤ 1000000) (hb : b.length ≤ 1000000) : CallOk Go.Proofs.Tryz.prog G n_slices_IndexFunc_Lapi_Ident_api_Ident [.own 0, .cl n_recon_without_1 [.ptr 1 0]] [some (.arr 3 (l.map Id.A)), some (.box [ids b])] fun r T =>
    ((r = .v (.int .i64 (-1)) ∧ ∀ x ∈ l, x ∉ b) ∨ (∃ j : Nat, j < l.length ∧ r = .v (.int .i64 (j : Int)) ∧ (∀ x ∈ l.take j, x ∉ b) ∧ ∃ h : j < l.length, l[j] ∈ b)) ∧ T = [some (.arr 3 (l.map Id.A)), some (.box [ids b])] := by
  refine fun_okH h_slices_IndexFunc_Lapi_Ident_api_Ident_ok (by decide) ?_
  unfold h_slices_IndexFunc_Lapi_Ident_api_Ident
  simp only [go_sem, ↓reduceIte, List.length_map]
  refine loop_up l.length (fun i => ⟨2, [(0, .own 0), (1, .cl n_recon_without_1 [.ptr 1 0]), (7, .v (.int .i64 l.length)), (8, .v (.int .i64 i))], [some (.arr 3 (l.map Id.A)), some (.box [ids b])]⟩) (fun i => ∀ x ∈ l.take i, x ∉ b) ?_ (by simp) ?_ ?_
  · simp only [go_sem, ↓reduceIte]
  · intro i hi hj
    simp only [go_sem, ↓reduceIte, List.length_map, dlt_t hi, hi, nth_map Id.A l i hi, Id.A_def, wrap_suc (show i < 9223372036854775807 by omega)]
    refine call_at [1] (subL_refl _) (by decide) (by simp) rfl rfl (c_without_1 b l[i] hb) ?_
    rintro r T' ⟨rfl, rfl⟩
    simp only [go_sem, ↓reduceIte]
    refine condW_i (fun h => ?_) (fun h => ?_) <;> simp only [go_sem, ↓reduceIte, wrap_suc (show i < 9223372036854775807 by omega)]
    · exact .inr ⟨i, hi, rfl, hj, hi, by simpa using h⟩
    · refine fun x hx => ?_
      rw [List.take_succ_eq_append_getElem hi] at hx
      rcases List.mem_append.1 hx with hx | hx
      · exact hj x hx
      · rw [List.mem_singleton.1 hx]; simpa using h
  · intro hj
    rw [List.take_length] at hj
    simp only [go_sem, ↓reduceIte, List.length_map, dlt_f (Nat.lt_irrefl _)]
    exact .inl hj
def DelPost (l b : List Id) (r : AV) (T : Tab) : Prop := (r = .own 0 ∧ (l.filter fun x => !decide (x ∈ b)) = l ∧ T = [some (.arr 3 (l.map Id.A)), some (.box [ids b])]) ∨
  ∃ (L : List Id) (n : Nat), n ≤ L.length ∧ L.length = l.length ∧ L.take n = (l.filter fun x => !decide (x ∈ b)) ∧ r = .vw 0 3 0 n ∧ T = [some (.arr 3 (L.map Id.A)), some (.box [ids b])]
theorem Id.A_zero : [AV.v (.int .i64 0), AV.v (.int .i64 0), AV.v (.int .u64 0)] = Id.A ⟨0, 0, 0⟩ := rfl
theorem c_DeleteFunc (l b : List Id) (hl : l.length ≤ 1000000) (hb : b.length ≤ 1000000) : CallOk Go.Proofs.Tryz.prog G n_slices_DeleteFunc_Lapi_Ident_api_Ident [.own 0, .cl n_recon_without_1 [.ptr 1 0]] [some (.arr 3 (l.map Id.A)), some (.box [ids b])] (DelPost l b) := by
  refine fun_okH h_slices_DeleteFunc_Lapi_Ident_api_Ident_ok (by decide) ?_
  unfold h_slices_DeleteFunc_Lapi_Ident_api_Ident
  simp only [go_sem, ↓reduceIte]
  refine call_at [0, 1] (subL_refl _) (by decide) (by simp) rfl rfl (c_IndexFunc l b hl hb) ?_
  rintro r T' ⟨hr, rfl⟩
  rcases hr with ⟨rfl, hno⟩ | ⟨j0, hj0, rfl, hno, _, hin⟩
  · simp only [go_sem, ↓reduceIte]
    refine .inl ⟨rfl, ?_, rfl⟩
    rw [List.filter_eq_self]
    intro x hx
    simp [hno x hx]
  · have e1 : (((j0 : Nat) : Int) == -1) = false := by rw [beq_eq_false_iff_ne]; omega
    simp only [go_sem, ↓reduceIte, e1, wrap_suc (show j0 < 9223372036854775807 by omega)]
    refine loop_i (fun m s => ∃ (i j : Nat) (L : List Id), m = l.length - j ∧ i < j ∧ j ≤ l.length ∧ L.length = l.length ∧ L.take i = ((l.take j).filter fun x => !decide (x ∈ b)) ∧ L.drop j = l.drop j ∧ s = ⟨2, [(0, .own 0), (1, .cl n_recon_without_1 [.ptr 1 0]), (5, .v (.int .i64 i)), (6, .v (.int .i64 j))], [some (.arr 3 (L.map Id.A)), some (.box [ids b])]⟩) (l.length - (j0 + 1))
      ⟨j0, j0 + 1, l, rfl, by omega, by omega, rfl, ?_, rfl, by simp only [go_sem, ↓reduceIte]⟩ ?_
    · rw [List.take_succ_eq_append_getElem hj0, List.filter_append, List.filter_eq_self.2 (fun x hx => by simp [hno x hx])]
      simp [hin]
    rintro m s ⟨i, j, L, rfl, hij, hj, hL, ht, hd, rfl⟩
    by_cases hlt : j < l.length
    · have hjL : j < L.length := by omega
      have hiL : i < L.length := by omega
      have hLj : L[j] = l[j] := by
        have h1 : (L.drop j)[0]? = (l.drop j)[0]? := by rw [hd]
        simpa [hlt, hjL] using h1
      have hd2 : L.drop (j + 1) = l.drop (j + 1) := by
        have := congrArg (List.drop 1) hd
        simpa [List.drop_drop] using this
      simp only [go_sem, ↓reduceIte, List.length_map, hL, dlt_t hlt, hlt, nth_map Id.A L j hjL, Id.A_def, wrap_suc (show j < 9223372036854775807 by omega)]
      refine call_at [1] (subL_refl _) (by decide) (by simp) rfl rfl (c_without_1 b L[j] hb) ?_
      rintro r T' ⟨rfl, rfl⟩
      simp only [go_sem, ↓reduceIte]
      refine condW_i (fun h => ?_) (fun h => ?_)
      · have hnb : L[j] ∉ b := by simpa using h
        simp only [go_sem, ↓reduceIte, List.length_map, hL, show i < l.length by omega, nth_map Id.A L i hiL, Id.A_def, wrap_suc (show i < 9223372036854775807 by omega), wrap_suc (show j < 9223372036854775807 by omega)]
        refine ⟨l.length - (j + 1), by omega, i + 1, j + 1, L.set i L[j], rfl, by omega, by omega, by simpa using hL, ?_, ?_, ?_⟩
        · rw [List.take_succ_eq_append_getElem (by simpa using hiL), List.take_succ_eq_append_getElem hlt, List.filter_append, ← ht, List.getElem_set_self, List.take_set_of_le (Nat.le_refl i)]
          rw [hLj] at hnb ⊢
          simp [hnb]
        · rw [List.drop_set_of_lt (by omega), hd2]
        · rw [List.map_set]
          rfl
      · have hnb : L[j] ∈ b := by simpa using h
        simp only [go_sem, ↓reduceIte, wrap_suc (show j < 9223372036854775807 by omega)]
        refine ⟨l.length - (j + 1), by omega, i, j + 1, L, rfl, by omega, by omega, hL, ?_, hd2, rfl⟩
        rw [List.take_succ_eq_append_getElem hlt, List.filter_append, ← ht]
        rw [hLj] at hnb
        simp [hnb]
    · obtain rfl : j = l.length := by omega
      rw [List.take_length] at ht
      have hil : i ≤ l.length := by omega
      simp only [go_sem, ↓reduceIte, List.length_map, hL, dlt_f hlt, hil, show i + (l.length - i) ≤ l.length by omega, show i + (l.length - i) = l.length by omega, List.length_replicate, List.length_take, List.length_drop, Nat.min_eq_left hil, Nat.sub_self]
      refine .inr ⟨L.take i ++ List.replicate (l.length - i) ⟨0, 0, 0⟩, i, by simp; omega, by simp; omega, ?_, rfl, ?_⟩
      · rw [List.take_append_of_le_length (by simp; omega), List.take_take, Nat.min_self, ht]
      · simp only [List.map_append, List.map_take, List.map_replicate, Id.A_zero]
        rw [List.drop_of_length_le (by simp; omega), List.append_nil]
theorem c_Clone (a : List Id) (ha : a.length ≤ 1000000) : CallOk Go.Proofs.Tryz.prog G n_slices_Clone_Lapi_Ident_api_Ident [ids a] [] fun r T => r = .own 0 ∧ T = [some (.arr 3 (a.map Id.A))] := by
  refine fun_okH h_slices_Clone_Lapi_Ident_api_Ident_ok (by decide) ?_
  unfold h_slices_Clone_Lapi_Ident_api_Ident
  cases a with
  | nil => simp only [go_sem, ↓reduceIte, ids, show 0 ≤ maxLen by decide]
  | cons x a =>
    have e1 : (a.length + 1) * 24 ≤ 140737488355328 := by simp at ha; omega
    have e2 : a.length + 1 ≤ maxLen := by simp at ha; unfold maxLen; omega
    simp only [go_sem, ↓reduceIte, ids, List.length_map, e1, e2]
theorem c_recon_sortedV (l : List Id) (n : Nat) (hn : n ≤ l.length) (hl : l.length < 4611686018427387904) : CallOk Go.Proofs.Tryz.prog G n_recon_sorted [.vw 0 3 0 n] [some (.arr 3 (l.map Id.A))] fun r T => r = .vw 0 3 0 n ∧ T = [some (.arr 3 ((msortI (l.take n) ++ l.drop n).map Id.A))] := by
  have hlt : ∀ x y : Id, Go.Proofs.ltOf cmpI x y = x.lt y := by
    intro x y
    unfold Go.Proofs.ltOf cmpI
    cases h : x.lt y
    · cases y.lt x <;> simp
    · simp
  have key := sort_okV (k := 3) (enc := Id.K) Go.Proofs.Tryz.laysSort Go.Proofs.Tryz.isAgg35 Go.Proofs.Tryz.sizeOf35 (fun _ => rfl) (fun x v hv => by simp [Id.K] at hv; rcases hv with rfl | rfl | rfl <;> rfl)
    (fun x c hc => by simp [cellsOf, Id.K] at hc; rcases hc with rfl | rfl | rfl <;> rfl) (cf := cmpI)
    ⟨fun x => by rw [hlt, Id.lt_irrefl], fun x y z h1 h2 => by rw [hlt] at *; exact Id.lt_trans h1 h2, fun x y z h1 h2 => by rw [hlt] at *; exact Id.nlt_trans h1 h2⟩
    (fun x y h1 h2 => by rw [hlt] at *; exact Id.lt_total h1 h2) (g := n_recon_sorted_1) (Go.Proofs.enters_of Go.Proofs.Tryz.func61 (by kernel_rfl) rfl) (Go.Proofs.enters_of Go.Proofs.Tryz.func60 (by kernel_rfl) rfl) (G := G) c_recon_sorted_1 l n hn hl
  have e : (fun x y : Id => !(Go.Proofs.ltOf cmpI y x)) = fun x y => !(y.lt x) := by funext x y; rw [hlt]
  rw [e] at key
  refine fun_okH h_recon_sorted_ok (by simp) ?_
  unfold h_recon_sorted
  simp only [go_sem, ↓reduceIte]
  refine call_at [0] (subL_refl _) (by decide) (by simp) rfl rfl key ?_
  rintro r T' ⟨rfl, rfl⟩
  simp only [go_sem, ↓reduceIte]
  rfl
theorem msortI_len (l : List Id) : (msortI l).length = l.length := (List.mergeSort_perm l _).length_eq
theorem c_withoutK (a b : List Id) (ha : a.length ≤ 1000000) (hb : b.length ≤ 1000000) : CallOk Go.Proofs.Tryz.prog G n_recon_without [ids a, ids b] [] fun r T => (r = .own 0 ∧ T = [some (.arr 3 ((withoutL a b).map Id.A))]) ∨ ∃ (M N : List Id) (n : Nat), n = M.length ∧ M = withoutL a b ∧ r = .vw 0 3 0 n ∧ T = [some (.arr 3 ((M ++ N).map Id.A))] := by
  refine fun_okH h_recon_without_ok (by decide) ?_
  unfold h_recon_without
  simp only [go_sem, ↓reduceIte]
  refine call_new (subL_refl _) rfl (c_Clone a ha) ?_
  simp only [go_sem, ↓reduceIte]
  refine call_at [1, 0] (subL_refl _) (by decide) (by simp) rfl rfl (c_DeleteFunc a b ha hb) ?_
  rintro r T' hr
  rcases hr with ⟨rfl, he, rfl⟩ | ⟨L, n, hn, hL, ht, rfl, rfl⟩
  · simp only [go_sem, ↓reduceIte]
    refine call_at [1] (subL_refl _) (by decide) (by simp) rfl rfl (c_recon_sorted a (by omega)) ?_
    rintro r T' ⟨rfl, rfl⟩
    simp only [go_sem, ↓reduceIte]
    left
    rw [withoutL, he]
  · simp only [go_sem, ↓reduceIte]
    refine call_at [1] (subL_refl _) (by decide) (by simp) rfl rfl (c_recon_sortedV L n hn (by omega)) ?_
    rintro r T' ⟨rfl, rfl⟩
    simp only [go_sem, ↓reduceIte]
    refine .inr ⟨msortI (L.take n), L.drop n, n, by rw [msortI_len, List.length_take]; omega, by rw [withoutL, ht], rfl, rfl⟩
theorem c_without (a b : List Id) (ha : a.length ≤ 1000000) (hb : b.length ≤ 1000000) : CallOk Go.Proofs.Tryz.prog G n_recon_without [ids a, ids b] [] fun r T => r = ids (withoutL a b) ∧ T = [] := by
  refine (c_withoutK a b ha hb).fin [0] ?_
  rintro r T' (⟨rfl, rfl⟩ | ⟨M, N, n, rfl, hM, rfl, rfl⟩)
  · simp only [go_sem, ↓reduceIte]
  · have h1 : ((M ++ N).map Id.A).take M.length = M.map Id.A := by rw [List.map_append]; exact List.take_left' (by simp)
    generalize hE : (M ++ N).map Id.A = E at h1
    have h2 : M.length ≤ E.length := by rw [← hE]; simp
    rw [← hM]
    simp only [go_sem, ↓reduceIte, h2, h1]
end
end Hud
end
section
namespace Hud
open Go
theorem fp_pp : FP = PP := rfl
abbrev fu (a : Fq) : Value := .int .u64 ((a.val : Nat) : Int)
theorem fu_lt (a : Fq) : a.val < 2305843009213693951 := a.isLt
section
variable {G : Nat → Option (List AV)}
theorem f_Num (a : Fq) : CallOk Go.Proofs.Tryz.prog G n_field_Num [.v (fu a)] [] fun r T' => r = .v (fu a) ∧ T' = [] := by
  have := c_Num G a.val (by have := fu_lt a; omega)
  rwa [Nat.mod_eq_of_lt (show a.val < FP from a.isLt)] at this
theorem f_Add (a b : Fq) : CallOk Go.Proofs.Tryz.prog G n_field_Add [.v (fu a), .v (fu b)] [] fun r T' => r = .v (fu (a + b)) ∧ T' = [] :=
  c_Add G a.val b.val (by have := fu_lt a; omega) (by have := fu_lt b; omega)
theorem f_Mul (a b : Fq) : CallOk Go.Proofs.Tryz.prog G n_field_Mul [.v (fu a), .v (fu b)] [] fun r T' => r = .v (fu (a * b)) ∧ T' = [] :=
  c_Mul G a.val b.val (by have := fu_lt a; omega) (by have := fu_lt b; omega)
theorem pbin_subU (x y : Nat) (h : y ≤ x) (h2 : x < 18446744073709551616) : pbin .sub (.int .u64 (x : Int)) (.int .u64 (y : Int)) = some (.int .u64 ((x - y : Nat) : Int)) := by
  simp only [pbin, if_true]
  rw [show (x : Int) - (y : Int) = ((x - y : Nat) : Int) from by omega, u64_wrap _ (by omega)]
theorem pbin_addP (x : Nat) (h2 : x < 2305843009213693951) : pbin .add (.int .u64 (x : Int)) (.int .u64 2305843009213693951) = some (.int .u64 ((x + 2305843009213693951 : Nat) : Int)) := by
  simp only [pbin, if_true]
  rw [show (x : Int) + 2305843009213693951 = ((x + 2305843009213693951 : Nat) : Int) from by omega, u64_wrap _ (by omega)]
theorem fq_sub (a b : Fq) : (a.val + 2305843009213693951 - b.val) % FP = (a - b).val := by
  rw [Fin.sub_def]
  have ha := fu_lt a
  have hb := fu_lt b
  show _ = (PP - b.val + a.val) % PP
  rw [show PP - b.val + a.val = a.val + 2305843009213693951 - b.val from by show 2305843009213693951 - b.val + a.val = _; omega, fp_pp]
theorem f_Sub (a b : Fq) : CallOk Go.Proofs.Tryz.prog G n_field_Sub [.v (fu a), .v (fu b)] [] fun r T' => r = .v (fu (a - b)) ∧ T' = [] := by
  refine fun_okH h_field_Sub_ok (by decide) ?_
  unfold h_field_Sub
  have ha := fu_lt a
  have hb := fu_lt b
  have a1 := pbin_addP a.val ha
  have a2 := pbin_subU (a.val + 2305843009213693951) b.val (by omega) (by omega)
  simp only [go_sem, ↓reduceIte]
  refine call_pure (subL_refl _) rfl (f_Num a) rfl ?_
  simp only [↓a1, go_sem, ↓reduceIte]
  refine call_pure (subL_refl _) rfl (f_Num b) rfl ?_
  simp only [↓a2, go_sem, ↓reduceIte]
  refine call_pure (subL_refl _) rfl (c_Num G _ (by omega)) rfl ?_
  simp only [go_sem, ↓reduceIte, fq_sub]
theorem f_Neg (a : Fq) : CallOk Go.Proofs.Tryz.prog G n_field_Neg [.v (fu a)] [] fun r T' => r = .v (fu (0 - a)) ∧ T' = [] := by
  refine fun_okH h_field_Neg_ok (by decide) ?_
  unfold h_field_Neg
  simp only [go_sem, ↓reduceIte]
  refine call_pure (subL_refl _) rfl (f_Sub 0 a) rfl ?_
  simp only [go_sem, ↓reduceIte]
theorem f_squares (a n : Nat) : CallOk Go.Proofs.Tryz.prog G n_field_squares [.v (.int .u64 (a : Int)), .v (.int .u64 (n : Int))] [] fun r T' => r = .cl n_field_squares_1 [.ptr 0 0, .ptr 1 0] ∧ T' = [some (.box [.v (.int .u64 (a : Int))]), some (.box [.v (.int .u64 (n : Int))])] := by
  refine fun_okH h_field_squares_ok (by decide) ?_
  unfold h_field_squares
  simp only [go_sem, ↓reduceIte]
theorem f_om (a : Fq) : 1 * a = a := Fin.one_mul a
theorem f_mo (a : Fq) : a * 1 = a := Fin.mul_one a
theorem f_mas (a b c : Fq) : a * b * c = a * (b * c) := Fin.mul_assoc a b c
theorem f_mco (a b : Fq) : a * b = b * a := Fin.mul_comm a b
theorem f_p1 (a : Fq) : a ^ 1 = a := by grind
theorem pw_zero0 (a : Fq) : a ^ 0 = 1 := by grind
theorem pbin_and1 (x : Nat) (hx : x < 18446744073709551616) : pbin .and (.int .u64 (x : Int)) (.int .u64 1) = some (.int .u64 ((x % 2 : Nat) : Int)) := by
  have h1 : (BitVec.ofInt 64 (x : Int)).toNat = x := by rw [BitVec.toNat_ofInt]; omega
  have h2 : (BitVec.ofInt 64 1).toNat = 2 ^ 1 - 1 := by decide
  have h3 : (BitVec.ofInt 64 (x : Int) &&& BitVec.ofInt 64 1).toNat = x % 2 := by
    rw [BitVec.toNat_and, h1, h2, Nat.and_two_pow_sub_one_eq_mod]
  have h4 : pbin .and (.int .u64 (x : Int)) (.int .u64 1) = some (.int .u64 (IntKind.u64.wrap ((BitVec.ofInt 64 (x : Int) &&& BitVec.ofInt 64 1).toNat : Int))) := by
    simp only [pbin, if_true]
    rfl
  rw [h4, h3, u64_wrap _ (by omega)]
theorem pbin_shr1 (x : Nat) : pbin .shr (.int .u64 (x : Int)) (.int .u64 1) = some (.int .u64 ((x / 2 : Nat) : Int)) := by
  have : (x : Int).fdiv (2 ^ min 1 64) = ((x / 2 : Nat) : Int) := by simp [Int.fdiv_eq_ediv]
  rw [← this]
  simp only [pbin]
  rfl
theorem f_Pow (a : Fq) (n : Nat) (hn : n < 18446744073709551616) : CallOk Go.Proofs.Tryz.prog G n_field_Pow [.v (fu a), .v (.int .u64 (n : Int))] [] fun r T' => r = .v (fu (a ^ n)) ∧ T' = [] := by
  refine fun_okH h_field_Pow_ok (by decide) ?_
  unfold h_field_Pow
  simp only [go_sem, ↓reduceIte]
  refine call_new (subL_refl _) rfl (f_squares a.val n) ?_
  simp only [go_sem, ↓reduceIte]
  refine rng_i rfl (gobody_ok h_field_squares_1_ok) fun r h1 h2 hy hyR => ?_
  simp only [go_sem, ↓reduceIte]
  refine call_in [0, 1, 2, 3] (subL_refl _) (by decide) (fun i hi => by simp at hi ⊢; omega) rfl rfl (fun_okH h_field_squares_1_ok (by decide) ?_)
  unfold h_field_squares_1
  simp only [go_sem, ↓reduceIte]
  refine call_pure (subL_refl _) rfl (f_Num a) rfl ?_
  simp only [go_sem, ↓reduceIte]
  refine loop_i (fun m s => ∃ out b : Fq, out * b ^ m = a ^ n ∧ m < 18446744073709551616 ∧ s = ⟨4, [(0, .yl 3), (2, .ptr 2 0), (4, .v (fu b))], [some (.box [.v (fu out)]), some (.box [.v (fu a)]), some (.box [.v (.int .u64 (m : Int))]), some (.lp r [(5, .ptr 0 0)])]⟩) n ⟨1, a, f_om _, hn, ?_⟩ ?_
  · simp only [go_sem, ↓reduceIte]
    rfl
  · rintro m s ⟨out, b, hp, hm, rfl⟩
    rcases Nat.eq_zero_or_pos m with rfl | hpos
    · have hd : decide (((0 : Nat) : Int) > 0) = false := by decide
      simp only [go_sem, ↓reduceIte, hd, h1, h2, rngE]
      have : out = a ^ n := by rw [← hp, pw_zero0, f_mo]
      subst this
      rfl
    · have hd : decide ((m : Int) > 0) = true := by simpa using hpos
      have a1 := pbin_and1 m hm
      simp only [go_sem, ↓reduceIte, hd, ↓a1]
      refine hy _ _ _ _ _ rfl rfl ?_
      simp only [go_sem, ↓reduceIte]
      refine condW_i (fun hb => ?_) (fun hb => ?_)
      · simp only [go_sem, ↓reduceIte]
        refine call_pure (subL_refl _) rfl (f_Mul out b) rfl ?_
        simp only [go_sem, ↓reduceIte]
        refine call_pure (subL_refl _) rfl (f_Mul b b) rfl ?_
        simp only [↓pbin_shr1, go_sem, ↓reduceIte]
        refine ⟨m / 2, by omega, out * b, b * b, ?_, by omega, rfl⟩
        have h3 : m % 2 = 1 := by simp at hb; omega
        rw [← hp, pw_half b m, h3, f_mas, f_p1, f_mco b]
      · simp only [go_sem, ↓reduceIte]
        refine call_pure (subL_refl _) rfl (f_Mul b b) rfl ?_
        simp only [↓pbin_shr1, go_sem, ↓reduceIte]
        refine ⟨m / 2, by omega, out, b * b, ?_, by omega, rfl⟩
        have h3 : m % 2 = 0 := by simp at hb; omega
        rw [← hp, pw_half b m, h3, pw_zero0, f_mo]
theorem f_Inv (a : Fq) : CallOk Go.Proofs.Tryz.prog G n_field_Inv [.v (fu a)] [] fun r T' => r = .v (fu (inv a)) ∧ T' = [] := by
  refine fun_okH h_field_Inv_ok (by decide) ?_
  unfold h_field_Inv
  simp only [go_sem, ↓reduceIte]
  refine call_pure (subL_refl _) rfl (f_Pow a 2305843009213693949 (by decide)) rfl ?_
  simp only [go_sem, ↓reduceIte]
  rfl
end
end Hud
end
