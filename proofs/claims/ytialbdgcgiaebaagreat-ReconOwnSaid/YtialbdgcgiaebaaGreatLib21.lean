import Derived.Test.YtialbdgcgiaebaaGreatLib20
set_option linter.all false
section
namespace Hud
open Go
def dfLoop : HC := .block 0 (.loop [] (.seq (.reg [⟨some 61, .bin .lss (.tmp 60) (.tmp 59), none⟩]) (.seq (.cond (.tmp 61) (.seq (.kill [61]) .skip) (.seq (.kill [60, 59, 10, 61]) (.exit 0))) (.seq (.block 1 (.seq (.seq (.reg [⟨some 62, .mov (.tmp 60), none⟩, ⟨some 12, .mov (.tmp 62), none⟩]) (.kill [62])) (.seq (.seq (.regd (.q ⟨some 63, .mov (.tmp 11), none⟩ (.q ⟨some 64, .fad (.tmp 2) 1, none⟩ (.q ⟨some 65, .ld none (.tmp 64), none⟩ (.q ⟨some 66, .mov (.tmp 12), none⟩ (.q ⟨some 67, .iad (.tmp 65) (.tmp 66) 1, none⟩ (.q ⟨some 68, .ld none (.tmp 67), none⟩ (.q ⟨some 69, .fad (.tmp 3) 1, none⟩ (.q ⟨some 70, .ld none (.tmp 69), none⟩ (.q ⟨some 71, .mov (.tmp 12), none⟩ (.q ⟨some 72, .iad (.tmp 70) (.tmp 71) 1, none⟩ (.q ⟨some 73, .ld none (.tmp 72), none⟩ (.q ⟨some 74, .mov (.tmp 12), none⟩ (.q ⟨some 75, .mov (.tmp 9), none⟩ (.q ⟨some 76, .mov (.tmp 10), none⟩ (.alt ⟨some 77, .call (.func n_sketch_equation) [.tmp 68, .tmp 73, .tmp 74, .tmp 75, .tmp 76], none⟩ [⟨some 63, .mov (.tmp 11), none⟩] (.alt ⟨some 78, .bsl 1 [.slice none 0 0] [(0, (1, .tmp 77))] 1, none⟩ [⟨some 63, .mov (.tmp 11), none⟩] (.alt ⟨some 79, .app (.tmp 63) (.tmp 78) 1 24, none⟩ [] (.alt ⟨some 11, .mov (.tmp 79), none⟩ [] (.done false) .no) .no) .no) .no)))))))))))))))) (.kill [12, 79, 78, 77, 76, 75, 74, 73, 72, 71, 70, 69, 68, 67, 66, 65, 64, 63])) (.own 11 none 1)))) (.seq (.reg [⟨some 80, .bin .add (.tmp 60) (.const (.int .i64 1)), none⟩, ⟨some 60, .mov (.tmp 80), none⟩]) (.kill [80]))))))
def dfR2 : HC := .seq (.seq (.reg [⟨some 101, .mov (.tmp 15), none⟩, ⟨some 102, .mov (.tmp 16), none⟩, ⟨some 103, .call (.func n_poly_Gcd) [.tmp 101, .tmp 102], none⟩, ⟨some 17, .mov (.tmp 103), none⟩]) (.kill [103, 102, 101])) (.seq (.seq (.seq (.reg [⟨some 105, .mov (.tmp 15), none⟩, ⟨some 106, .mov (.tmp 17), none⟩, ⟨some 107, .call (.func n_poly_DivMod) [.tmp 105, .tmp 106], none⟩, ⟨some 104, .mov (.tmp 107), none⟩, ⟨some 108, .ext (.tmp 104) 0, none⟩, ⟨some 109, .ext (.tmp 104) 1, none⟩, ⟨some 15, .mov (.tmp 108), none⟩]) (.kill [109, 108, 104, 107, 106, 105])) (.shut 15)) (.seq (.seq (.seq (.reg [⟨some 111, .mov (.tmp 16), none⟩, ⟨some 112, .mov (.tmp 17), none⟩, ⟨some 113, .call (.func n_poly_DivMod) [.tmp 111, .tmp 112], none⟩, ⟨some 110, .mov (.tmp 113), none⟩, ⟨some 114, .ext (.tmp 110) 0, none⟩, ⟨some 115, .ext (.tmp 110) 1, none⟩, ⟨some 16, .mov (.tmp 114), none⟩]) (.kill [17, 115, 114, 110, 113, 112, 111])) (.shut 16)) (.seq (.seq (.reg [⟨some 117, .mov (.tmp 15), none⟩, ⟨some 118, .call (.func n_sketch_elements) [.tmp 117], none⟩, ⟨some 116, .mov (.tmp 118), none⟩, ⟨some 119, .ext (.tmp 116) 0, none⟩, ⟨some 120, .ext (.tmp 116) 1, none⟩, ⟨some 18, .mov (.tmp 119), none⟩, ⟨some 19, .mov (.tmp 120), none⟩]) (.kill [15, 120, 119, 116, 118, 117])) (.seq (.seq (.reg [⟨some 122, .mov (.tmp 16), none⟩, ⟨some 123, .call (.func n_sketch_elements) [.tmp 122], none⟩, ⟨some 121, .mov (.tmp 123), none⟩, ⟨some 124, .ext (.tmp 121) 0, none⟩, ⟨some 125, .ext (.tmp 121) 1, none⟩, ⟨some 20, .mov (.tmp 124), none⟩, ⟨some 21, .mov (.tmp 125), none⟩]) (.kill [16, 125, 124, 121, 123, 122])) (.seq (.seq (.seq (.reg [⟨some 126, .mov (.tmp 19), none⟩, ⟨some 127, .un .not (.tmp 126), none⟩, ⟨some 128, .mov (.tmp 127), none⟩, ⟨some 129, .mov (.tmp 21), some (128, false)⟩, ⟨some 130, .un .not (.tmp 129), some (128, false)⟩, ⟨some 131, .pick (.tmp 128) (.const (.bool true)) (.tmp 130), none⟩, ⟨some 132, .mov (.tmp 131), none⟩, ⟨some 133, .mov (.tmp 18), some (132, false)⟩, ⟨some 134, .mov (.tmp 20), some (132, false)⟩, ⟨some 135, .ld (some 2) (.tmp 2), some (132, false)⟩, ⟨some 136, .ld (some 2) (.tmp 3), some (132, false)⟩, ⟨some 137, .call (.func n_sketch_fit) [.tmp 133, .tmp 134, .tmp 135, .tmp 136], some (132, false)⟩, ⟨some 138, .un .not (.tmp 137), some (132, false)⟩, ⟨some 139, .pick (.tmp 132) (.const (.bool true)) (.tmp 138), none⟩]) (.kill [19, 21, 2, 3, 138, 137, 136, 135, 134, 133, 132, 131, 130, 129, 128, 127, 126])) (.cond (.tmp 139) (.seq (.kill [18, 20, 139]) (.seq (.seq (.seq (.reg [⟨some 4, .mov (.const (.slice none 0 0)), none⟩, ⟨some 5, .mov (.const (.slice none 0 0)), none⟩, ⟨some 6, .mov (.const (.int .i64 32)), none⟩]) (.own 4 none 1)) (.own 5 none 1)) .ret)) (.seq (.kill [139]) .skip))) (.seq (.seq (.seq (.seq (.reg [⟨some 140, .mov (.tmp 18), none⟩, ⟨some 141, .mov (.tmp 20), none⟩, ⟨some 4, .mov (.tmp 140), none⟩, ⟨some 5, .mov (.tmp 141), none⟩, ⟨some 6, .mov (.const (.int .i64 0)), none⟩]) (.kill [18, 20, 141, 140])) (.own 4 none 1)) (.own 5 none 1)) .ret))))))
def dfRest : HC := .seq (.seq (.seq (.reg [⟨some 82, .mov (.tmp 11), none⟩, ⟨some 83, .mov (.tmp 8), none⟩, ⟨some 84, .call (.func n_sketch_solve) [.tmp 82, .tmp 83], none⟩, ⟨some 81, .mov (.tmp 84), none⟩, ⟨some 85, .ext (.tmp 81) 0, none⟩, ⟨some 86, .ext (.tmp 81) 1, none⟩, ⟨some 13, .mov (.tmp 85), none⟩, ⟨some 14, .mov (.tmp 86), none⟩]) (.kill [11, 8, 86, 85, 81, 84, 83, 82])) (.shut 13)) (.seq (.seq (.seq (.reg [⟨some 87, .mov (.tmp 14), none⟩, ⟨some 88, .un .not (.tmp 87), none⟩]) (.kill [14, 87])) (.cond (.tmp 88) (.seq (.kill [13, 9, 2, 3, 88]) (.seq (.seq (.seq (.reg [⟨some 4, .mov (.const (.slice none 0 0)), none⟩, ⟨some 5, .mov (.const (.slice none 0 0)), none⟩, ⟨some 6, .mov (.const (.int .i64 32)), none⟩]) (.own 4 none 1)) (.own 5 none 1)) .ret)) (.seq (.kill [88]) .skip))) (.seq (.seq (.seq (.seq (.regd (.q ⟨some 89, .mov (.tmp 13), none⟩ (.q ⟨some 90, .mov (.tmp 9), none⟩ (.q ⟨some 91, .slc (.tmp 89) none (some (.tmp 90)) 1, none⟩ (.q ⟨some 95, .mov (.tmp 13), none⟩ (.q ⟨some 96, .mov (.tmp 9), none⟩ (.q ⟨some 97, .slc (.tmp 95) (some (.tmp 96)) none 1, none⟩ (.alt ⟨some 92, .call (.func n_slices_Clone_Luint64_uint64) [.tmp 91], none⟩ [⟨some 97, .slc (.tmp 95) (some (.tmp 96)) none 1, none⟩, ⟨some 96, .mov (.tmp 9), none⟩, ⟨some 95, .mov (.tmp 13), none⟩] (.alt ⟨some 93, .bsl 1 [.int .u64 0] [(0, (1, .const (.int .u64 1)))] 1, none⟩ [⟨some 97, .slc (.tmp 95) (some (.tmp 96)) none 1, none⟩, ⟨some 96, .mov (.tmp 9), none⟩, ⟨some 95, .mov (.tmp 13), none⟩] (.alt ⟨some 94, .app (.tmp 92) (.tmp 93) 1 8, none⟩ [⟨some 97, .slc (.tmp 95) (some (.tmp 96)) none 1, none⟩, ⟨some 96, .mov (.tmp 9), none⟩, ⟨some 95, .mov (.tmp 13), none⟩] (.alt ⟨some 98, .call (.func n_slices_Clone_Luint64_uint64) [.tmp 97], none⟩ [] (.alt ⟨some 99, .bsl 1 [.int .u64 0] [(0, (1, .const (.int .u64 1)))] 1, none⟩ [] (.alt ⟨some 100, .app (.tmp 98) (.tmp 99) 1 8, none⟩ [] (.q ⟨some 15, .mov (.tmp 94), none⟩ (.q ⟨some 16, .mov (.tmp 100), none⟩ (.done true))) .no) .no) (.alt ⟨some 99, .bsl 1 [.int .u64 0] [(0, (1, .const (.int .u64 1)))] 1, none⟩ [⟨some 97, .slc (.tmp 95) (some (.tmp 96)) none 1, none⟩, ⟨some 96, .mov (.tmp 9), none⟩, ⟨some 95, .mov (.tmp 13), none⟩] (.alt ⟨some 98, .call (.func n_slices_Clone_Luint64_uint64) [.tmp 97], none⟩ [] (.alt ⟨some 100, .app (.tmp 98) (.tmp 99) 1 8, none⟩ [] (.q ⟨some 15, .mov (.tmp 94), none⟩ (.q ⟨some 16, .mov (.tmp 100), none⟩ (.done true))) .no) .no) .no)) (.alt ⟨some 99, .bsl 1 [.int .u64 0] [(0, (1, .const (.int .u64 1)))] 1, none⟩ [⟨some 97, .slc (.tmp 95) (some (.tmp 96)) none 1, none⟩, ⟨some 96, .mov (.tmp 9), none⟩, ⟨some 95, .mov (.tmp 13), none⟩] (.alt ⟨some 94, .app (.tmp 92) (.tmp 93) 1 8, none⟩ [⟨some 97, .slc (.tmp 95) (some (.tmp 96)) none 1, none⟩, ⟨some 96, .mov (.tmp 9), none⟩, ⟨some 95, .mov (.tmp 13), none⟩] (.alt ⟨some 98, .call (.func n_slices_Clone_Luint64_uint64) [.tmp 97], none⟩ [] (.alt ⟨some 100, .app (.tmp 98) (.tmp 99) 1 8, none⟩ [] (.q ⟨some 15, .mov (.tmp 94), none⟩ (.q ⟨some 16, .mov (.tmp 100), none⟩ (.done true))) .no) .no) .no) .no)) (.alt ⟨some 99, .bsl 1 [.int .u64 0] [(0, (1, .const (.int .u64 1)))] 1, none⟩ [⟨some 97, .slc (.tmp 95) (some (.tmp 96)) none 1, none⟩, ⟨some 96, .mov (.tmp 9), none⟩, ⟨some 95, .mov (.tmp 13), none⟩] (.alt ⟨some 93, .bsl 1 [.int .u64 0] [(0, (1, .const (.int .u64 1)))] 1, none⟩ [⟨some 97, .slc (.tmp 95) (some (.tmp 96)) none 1, none⟩, ⟨some 96, .mov (.tmp 9), none⟩, ⟨some 95, .mov (.tmp 13), none⟩] (.alt ⟨some 94, .app (.tmp 92) (.tmp 93) 1 8, none⟩ [⟨some 97, .slc (.tmp 95) (some (.tmp 96)) none 1, none⟩, ⟨some 96, .mov (.tmp 9), none⟩, ⟨some 95, .mov (.tmp 13), none⟩] (.alt ⟨some 98, .call (.func n_slices_Clone_Luint64_uint64) [.tmp 97], none⟩ [] (.alt ⟨some 100, .app (.tmp 98) (.tmp 99) 1 8, none⟩ [] (.q ⟨some 15, .mov (.tmp 94), none⟩ (.q ⟨some 16, .mov (.tmp 100), none⟩ (.done true))) .no) .no) .no) .no) .no)) (.alt ⟨some 93, .bsl 1 [.int .u64 0] [(0, (1, .const (.int .u64 1)))] 1, none⟩ [⟨some 97, .slc (.tmp 95) (some (.tmp 96)) none 1, none⟩, ⟨some 96, .mov (.tmp 9), none⟩, ⟨some 95, .mov (.tmp 13), none⟩, ⟨some 91, .slc (.tmp 89) none (some (.tmp 90)) 1, none⟩, ⟨some 90, .mov (.tmp 9), none⟩, ⟨some 89, .mov (.tmp 13), none⟩] (.alt ⟨some 92, .call (.func n_slices_Clone_Luint64_uint64) [.tmp 91], none⟩ [⟨some 97, .slc (.tmp 95) (some (.tmp 96)) none 1, none⟩, ⟨some 96, .mov (.tmp 9), none⟩, ⟨some 95, .mov (.tmp 13), none⟩] (.alt ⟨some 94, .app (.tmp 92) (.tmp 93) 1 8, none⟩ [⟨some 97, .slc (.tmp 95) (some (.tmp 96)) none 1, none⟩, ⟨some 96, .mov (.tmp 9), none⟩, ⟨some 95, .mov (.tmp 13), none⟩] (.alt ⟨some 98, .call (.func n_slices_Clone_Luint64_uint64) [.tmp 97], none⟩ [] (.alt ⟨some 99, .bsl 1 [.int .u64 0] [(0, (1, .const (.int .u64 1)))] 1, none⟩ [] (.alt ⟨some 100, .app (.tmp 98) (.tmp 99) 1 8, none⟩ [] (.q ⟨some 15, .mov (.tmp 94), none⟩ (.q ⟨some 16, .mov (.tmp 100), none⟩ (.done true))) .no) .no) (.alt ⟨some 99, .bsl 1 [.int .u64 0] [(0, (1, .const (.int .u64 1)))] 1, none⟩ [⟨some 97, .slc (.tmp 95) (some (.tmp 96)) none 1, none⟩, ⟨some 96, .mov (.tmp 9), none⟩, ⟨some 95, .mov (.tmp 13), none⟩] (.alt ⟨some 98, .call (.func n_slices_Clone_Luint64_uint64) [.tmp 97], none⟩ [] (.alt ⟨some 100, .app (.tmp 98) (.tmp 99) 1 8, none⟩ [] (.q ⟨some 15, .mov (.tmp 94), none⟩ (.q ⟨some 16, .mov (.tmp 100), none⟩ (.done true))) .no) .no) .no)) (.alt ⟨some 99, .bsl 1 [.int .u64 0] [(0, (1, .const (.int .u64 1)))] 1, none⟩ [⟨some 97, .slc (.tmp 95) (some (.tmp 96)) none 1, none⟩, ⟨some 96, .mov (.tmp 9), none⟩, ⟨some 95, .mov (.tmp 13), none⟩] (.alt ⟨some 94, .app (.tmp 92) (.tmp 93) 1 8, none⟩ [⟨some 97, .slc (.tmp 95) (some (.tmp 96)) none 1, none⟩, ⟨some 96, .mov (.tmp 9), none⟩, ⟨some 95, .mov (.tmp 13), none⟩] (.alt ⟨some 98, .call (.func n_slices_Clone_Luint64_uint64) [.tmp 97], none⟩ [] (.alt ⟨some 100, .app (.tmp 98) (.tmp 99) 1 8, none⟩ [] (.q ⟨some 15, .mov (.tmp 94), none⟩ (.q ⟨some 16, .mov (.tmp 100), none⟩ (.done true))) .no) .no) .no) .no)) (.alt ⟨some 99, .bsl 1 [.int .u64 0] [(0, (1, .const (.int .u64 1)))] 1, none⟩ [⟨some 97, .slc (.tmp 95) (some (.tmp 96)) none 1, none⟩, ⟨some 96, .mov (.tmp 9), none⟩, ⟨some 95, .mov (.tmp 13), none⟩, ⟨some 91, .slc (.tmp 89) none (some (.tmp 90)) 1, none⟩, ⟨some 90, .mov (.tmp 9), none⟩, ⟨some 89, .mov (.tmp 13), none⟩] (.alt ⟨some 92, .call (.func n_slices_Clone_Luint64_uint64) [.tmp 91], none⟩ [⟨some 97, .slc (.tmp 95) (some (.tmp 96)) none 1, none⟩, ⟨some 96, .mov (.tmp 9), none⟩, ⟨some 95, .mov (.tmp 13), none⟩] (.alt ⟨some 94, .app (.tmp 92) (.tmp 93) 1 8, none⟩ [⟨some 97, .slc (.tmp 95) (some (.tmp 96)) none 1, none⟩, ⟨some 96, .mov (.tmp 9), none⟩, ⟨some 95, .mov (.tmp 13), none⟩] (.alt ⟨some 98, .call (.func n_slices_Clone_Luint64_uint64) [.tmp 97], none⟩ [] (.alt ⟨some 100, .app (.tmp 98) (.tmp 99) 1 8, none⟩ [] (.q ⟨some 15, .mov (.tmp 94), none⟩ (.q ⟨some 16, .mov (.tmp 100), none⟩ (.done true))) .no) .no) .no) .no) .no)) (.alt ⟨some 99, .bsl 1 [.int .u64 0] [(0, (1, .const (.int .u64 1)))] 1, none⟩ [⟨some 97, .slc (.tmp 95) (some (.tmp 96)) none 1, none⟩, ⟨some 96, .mov (.tmp 9), none⟩, ⟨some 95, .mov (.tmp 13), none⟩, ⟨some 91, .slc (.tmp 89) none (some (.tmp 90)) 1, none⟩, ⟨some 90, .mov (.tmp 9), none⟩, ⟨some 89, .mov (.tmp 13), none⟩] (.alt ⟨some 92, .call (.func n_slices_Clone_Luint64_uint64) [.tmp 91], none⟩ [⟨some 97, .slc (.tmp 95) (some (.tmp 96)) none 1, none⟩, ⟨some 96, .mov (.tmp 9), none⟩, ⟨some 95, .mov (.tmp 13), none⟩] (.alt ⟨some 93, .bsl 1 [.int .u64 0] [(0, (1, .const (.int .u64 1)))] 1, none⟩ [⟨some 97, .slc (.tmp 95) (some (.tmp 96)) none 1, none⟩, ⟨some 96, .mov (.tmp 9), none⟩, ⟨some 95, .mov (.tmp 13), none⟩] (.alt ⟨some 94, .app (.tmp 92) (.tmp 93) 1 8, none⟩ [⟨some 97, .slc (.tmp 95) (some (.tmp 96)) none 1, none⟩, ⟨some 96, .mov (.tmp 9), none⟩, ⟨some 95, .mov (.tmp 13), none⟩] (.alt ⟨some 98, .call (.func n_slices_Clone_Luint64_uint64) [.tmp 97], none⟩ [] (.alt ⟨some 100, .app (.tmp 98) (.tmp 99) 1 8, none⟩ [] (.q ⟨some 15, .mov (.tmp 94), none⟩ (.q ⟨some 16, .mov (.tmp 100), none⟩ (.done true))) .no) .no) .no) .no) (.alt ⟨some 93, .bsl 1 [.int .u64 0] [(0, (1, .const (.int .u64 1)))] 1, none⟩ [⟨some 97, .slc (.tmp 95) (some (.tmp 96)) none 1, none⟩, ⟨some 96, .mov (.tmp 9), none⟩, ⟨some 95, .mov (.tmp 13), none⟩, ⟨some 91, .slc (.tmp 89) none (some (.tmp 90)) 1, none⟩, ⟨some 90, .mov (.tmp 9), none⟩, ⟨some 89, .mov (.tmp 13), none⟩] (.alt ⟨some 92, .call (.func n_slices_Clone_Luint64_uint64) [.tmp 91], none⟩ [⟨some 97, .slc (.tmp 95) (some (.tmp 96)) none 1, none⟩, ⟨some 96, .mov (.tmp 9), none⟩, ⟨some 95, .mov (.tmp 13), none⟩] (.alt ⟨some 94, .app (.tmp 92) (.tmp 93) 1 8, none⟩ [⟨some 97, .slc (.tmp 95) (some (.tmp 96)) none 1, none⟩, ⟨some 96, .mov (.tmp 9), none⟩, ⟨some 95, .mov (.tmp 13), none⟩] (.alt ⟨some 98, .call (.func n_slices_Clone_Luint64_uint64) [.tmp 97], none⟩ [] (.alt ⟨some 100, .app (.tmp 98) (.tmp 99) 1 8, none⟩ [] (.q ⟨some 15, .mov (.tmp 94), none⟩ (.q ⟨some 16, .mov (.tmp 100), none⟩ (.done true))) .no) .no) .no) .no) .no)) .no)))))))))) (.kill [13, 9, 100, 99, 98, 97, 96, 95, 94, 93, 92, 91, 90, 89])) (.shut 15)) (.shut 16)) dfR2))
def dfHead : HFun := ⟨142, [(4, none), (5, none), (6, none)],
  .seq (.seq (.reg [⟨some 2, .box (.tmp 0), none⟩, ⟨some 3, .box (.tmp 1), none⟩, ⟨some 4, .mov (.const (.slice none 0 0)), none⟩, ⟨some 5, .mov (.const (.slice none 0 0)), none⟩, ⟨some 6, .mov (.const (.int .i64 0)), none⟩]) (.kill [0, 1, 6, 5, 4])) (.seq (.seq (.seq (.reg [⟨some 22, .fad (.tmp 2) 1, none⟩, ⟨some 23, .ld none (.tmp 22), none⟩, ⟨some 24, .lenL (.tmp 23), none⟩, ⟨some 25, .fad (.tmp 3) 1, none⟩, ⟨some 26, .ld none (.tmp 25), none⟩, ⟨some 27, .lenL (.tmp 26), none⟩, ⟨some 28, .bin .neq (.tmp 24) (.tmp 27), none⟩]) (.kill [27, 26, 25, 24, 23, 22])) (.cond (.tmp 28) (.seq (.kill [2, 3, 28]) (.seq (.seq (.seq (.reg [⟨some 4, .mov (.const (.slice none 0 0)), none⟩, ⟨some 5, .mov (.const (.slice none 0 0)), none⟩, ⟨some 6, .mov (.const (.int .i64 1)), none⟩]) (.own 4 none 1)) (.own 5 none 1)) .ret)) (.seq (.kill [28]) .skip))) (.seq (.seq (.reg [⟨some 29, .fad (.tmp 2) 0, none⟩, ⟨some 30, .ld none (.tmp 29), none⟩, ⟨some 31, .fad (.tmp 3) 0, none⟩, ⟨some 32, .ld none (.tmp 31), none⟩, ⟨some 33, .bin .sub (.tmp 30) (.tmp 32), none⟩, ⟨some 7, .mov (.tmp 33), none⟩]) (.kill [33, 32, 31, 30, 29])) (.seq (.seq (.reg [⟨some 34, .fad (.tmp 2) 1, none⟩, ⟨some 35, .ld none (.tmp 34), none⟩, ⟨some 36, .lenL (.tmp 35), none⟩, ⟨some 37, .bin .sub (.tmp 36) (.const (.int .i64 2)), none⟩, ⟨some 8, .mov (.tmp 37), none⟩]) (.kill [37, 36, 35, 34])) (.seq (.seq (.seq (.reg [⟨some 38, .mov (.tmp 8), none⟩, ⟨some 39, .mov (.tmp 7), none⟩, ⟨some 40, .mov (.tmp 7), none⟩, ⟨some 41, .un .neg (.tmp 40), none⟩, ⟨some 42, .mm true (.tmp 39) (.tmp 41), none⟩, ⟨some 43, .bin .lss (.tmp 38) (.tmp 42), none⟩]) (.kill [42, 41, 40, 39, 38])) (.cond (.tmp 43) (.seq (.kill [8, 7, 3, 2, 43]) (.seq (.seq (.seq (.reg [⟨some 4, .mov (.const (.slice none 0 0)), none⟩, ⟨some 5, .mov (.const (.slice none 0 0)), none⟩, ⟨some 6, .mov (.const (.int .i64 32)), none⟩]) (.own 4 none 1)) (.own 5 none 1)) .ret)) (.seq (.kill [43]) .skip))) (.seq (.seq (.seq (.reg [⟨some 44, .mov (.tmp 8), none⟩, ⟨some 45, .mov (.tmp 7), none⟩, ⟨some 46, .bin .add (.tmp 44) (.tmp 45), none⟩, ⟨some 47, .bin .rem (.tmp 46) (.const (.int .i64 2)), none⟩, ⟨some 48, .bin .neq (.tmp 47) (.const (.int .i64 0)), none⟩]) (.kill [47, 46, 45, 44])) (.cond (.tmp 48) (.seq (.kill [48]) (.seq (.reg [⟨some 49, .mov (.tmp 8), none⟩, ⟨some 50, .bin .sub (.tmp 49) (.const (.int .i64 1)), none⟩, ⟨some 8, .mov (.tmp 50), none⟩]) (.kill [50, 49]))) (.seq (.kill [48]) .skip))) (.seq (.seq (.reg [⟨some 51, .mov (.tmp 8), none⟩, ⟨some 52, .mov (.tmp 7), none⟩, ⟨some 53, .bin .add (.tmp 51) (.tmp 52), none⟩, ⟨some 54, .bin .quo (.tmp 53) (.const (.int .i64 2)), none⟩, ⟨some 55, .mov (.tmp 8), none⟩, ⟨some 56, .mov (.tmp 7), none⟩, ⟨some 57, .bin .sub (.tmp 55) (.tmp 56), none⟩, ⟨some 58, .bin .quo (.tmp 57) (.const (.int .i64 2)), none⟩, ⟨some 9, .mov (.tmp 54), none⟩, ⟨some 10, .mov (.tmp 58), none⟩]) (.kill [7, 58, 57, 56, 55, 54, 53, 52, 51])) (.seq (.seq (.reg [⟨some 11, .mov (.const (.slice none 0 0)), none⟩]) (.own 11 none 1)) (.seq (.seq (.reg [⟨some 59, .mov (.tmp 8), none⟩, ⟨some 60, .mov (.const (.int .i64 0)), none⟩]) dfLoop) dfRest))))))))⟩
theorem dfHead_eq : h_sketch_Diff = dfHead := rfl
def DiffPost (n : Nat) (A B : List Fq) (d : Int) (r : AV) : Prop := (∃ x y : List Fq, Fit n (fun k => A.getD k 0) (fun k => B.getD k 0) d x y ∧ SS x ∧ SS y ∧ r = .tup [.ls 1 (fl x), .ls 1 (fl y), .v (.int .i64 0)]) ∨ ((∀ x y, ¬ Fit n (fun k => A.getD k 0) (fun k => B.getD k 0) d x y) ∧ r = .tup [.ls 1 [], .ls 1 [], .v (.int .i64 32)])
def DiffRaw (n : Nat) (A B : List Fq) (d : Int) (r : AV) (T : Tab) : Prop := (DiffPost n A B d r ∧ T = []) ∨ ((∀ x y, ¬ Fit n (fun k => A.getD k 0) (fun k => B.getD k 0) d x y) ∧ r = .tup [.own 0, .own 1, .v (.int .i64 32)] ∧ T = [some (.arr 1 []), some (.arr 1 [])])
def eqsL (A B : List Fq) (one two i : Nat) : List (List Fq) := (List.range i).map fun k => eqR (A.getD k 0) (B.getD k 0) (zk k) one two
theorem eqs_len (A B : List Fq) (one two i : Nat) : (eqsL A B one two i).length = i := by simp [eqsL]
theorem eqs_succ (A B : List Fq) (one two i : Nat) : eqsL A B one two (i + 1) = eqsL A B one two i ++ [eqR (A.getD i 0) (B.getD i 0) (zk i) one two] := by simp [eqsL, List.range_succ]
theorem eqs_get (A B : List Fq) (one two i k : Nat) (h : k < i) : (eqsL A B one two i).getD k [] = eqR (A.getD k 0) (B.getD k 0) (zk k) one two := by simp [eqsL, List.getD_eq_getElem?_getD, h]
theorem eqs_sat {A B : List Fq} {one two i : Nat} {x : List Fq} (hx : x.length = one + two) : Sol (one + two) (eqsL A B one two i) x ↔ ∀ k, k < i → B.getD k 0 * ev (x.take one ++ [1]) (zk k) = A.getD k 0 * ev (x.drop one ++ [1]) (zk k) := by
  unfold Sol
  rw [eqs_len]
  refine forall_congr' fun k => forall_congr' fun hk => ?_
  rw [eqs_get A B one two i k hk, Sat, ← eq_iff hx]
  have h1 : (eqL (A.getD k 0) (B.getD k 0) (zk k) one two).length = one + two := by simp [eqL]
  rw [eqR, List.take_left' h1]
  have h2 : (eqL (A.getD k 0) (B.getD k 0) (zk k) one two ++ [eqX (A.getD k 0) (B.getD k 0) (zk k) one two]).getD (one + two) 0 = eqX (A.getD k 0) (B.getD k 0) (zk k) one two := by
    rw [List.getD_eq_getElem?_getD, List.getElem?_append_right (by omega), h1]; simp
  rw [h2]
abbrev skA (N : Int) (A : List Fq) : List AV := [.v (.int .i64 N), .ls 1 (fl A)]
abbrev dfS (N M : Int) (A B : List Fq) (one two i : Nat) : St := ⟨0, [(2, .ptr 0 0), (3, .ptr 1 0), (8, .v (.int .i64 ((one + two : Nat) : Int))), (9, .v (.int .i64 (one : Int))), (10, .v (.int .i64 (two : Int))), (11, .own 2), (59, .v (.int .i64 ((one + two : Nat) : Int))), (60, .v (.int .i64 (i : Int)))], CT (skA N A) (skA M B) (eqsL A B one two i)⟩
section
variable {G : Nat → Option (List AV)}
set_option maxHeartbeats 4000000
theorem codeC_shutO {st : St} (j : Nat) (Q : Ex → St → Prop) : @codeC Go.Proofs.Tryz.prog G (.shut j) st ⟨Q⟩ = Q .normal (gcsO [] (shutSt st j)) := Eq.trans rfl rfl
theorem fit_le {n one two : Nat} {N M : Int} {A B : Nat → Fq} {x y : List Fq} (h : Fit n A B (N - M) x y) (hall : one + two + 2 = n ∨ one + two + 3 = n) (hd : (one : Int) - (two : Int) = N - M) : ∃ j, one = x.length + j ∧ two = y.length + j := by
  have h1 := h.len
  have h2 := h.dif
  exact ⟨one - x.length, by omega, by omega⟩
theorem fit_perm {L M : List Fq} (h1 : L.Nodup) (h2 : M.Nodup) (h : ∀ z, z ∈ L ↔ z ∈ M) (t : Fq) : vl L t = vl M t := vl_perm t ((List.perm_ext_iff_of_nodup h1 h2).2 h)
theorem df_r2 (n one two : Nat) (N M : Int) (A B : List Fq) (hn : 4 ≤ n) (hn2 : n ≤ 64) (hA : A.length = n) (hB : B.length = n) (h0 : ∀ k, k < n → A.getD k 0 ≠ 0) (hall : one + two + 2 = n ∨ one + two + 3 = n) (hd : (one : Int) - (two : Int) = N - M) (post : AV → Tab → Prop) (hpost : ∀ r T, DiffRaw n A B (N - M) r T → post r T)
    (p q : List Fq) (hp : mon one p) (hq : mon two q) (he : ∀ k, k < one + two → B.getD k 0 * ev p (zk k) = A.getD k 0 * ev q (zk k)) :
    @codeC Go.Proofs.Tryz.prog G dfR2 ⟨0, [(2, .ptr 0 0), (3, .ptr 1 0), (15, .ls 1 (fl p)), (16, .ls 1 (fl q))], [some (.box (skA N A)), some (.box (skA M B))]⟩ ⟨bodyG [(4, none), (5, none), (6, none)] post⟩ := by
  unfold dfR2
  have lp := mon_len hp
  have lq := mon_len hq
  obtain ⟨e, e1, e2, hg, k1, k2, k3, k4, _⟩ := gcd_quot hp hq (by omega) (by omega)
  have lg := mon_len hg
  have hfit : ∀ x y, Fit n (fun k => A.getD k 0) (fun k => B.getD k 0) (N - M) x y → (dm p (gcdL p q)).1 = pr x ∧ (dm q (gcdL p q)).1 = pr y := fun x y hf => by
    obtain ⟨j, j1, j2⟩ := fit_le hf hall hd
    exact fit_unique hf hn2 h0 hp hq j1 j2 (by omega) he
  have hdis : ∀ z, ev (dm p (gcdL p q)).1 z = 0 → ev (dm q (gcdL p q)).1 z = 0 → False := fun z h1 h2 => quot_dis hp hq (by omega) (by omega) h1 h2
  simp only [go_sem, ↓reduceIte]
  refine call_pure (subL_refl _) rfl (f_Gcd p q (by omega) (by omega)) rfl ?_
  simp only [go_sem, ↓reduceIte]
  refine call_pure (subL_refl _) rfl (f_DivMod p (gcdL p q) (by omega) (by omega)) rfl ?_
  simp only [go_sem, ↓reduceIte]
  refine call_pure (subL_refl _) rfl (f_DivMod q (gcdL p q) (by omega) (by omega)) rfl ?_
  generalize (dm p (gcdL p q)).1 = p1 at *
  generalize (dm q (gcdL p q)).1 = q1 at *
  simp only [go_sem, ↓reduceIte]
  refine call_post (subL_refl _) rfl (k_elements (one - e) p1 k1 (by omega)) ?_
  rintro r T' ⟨hr1, rfl⟩
  have bad : (∀ x y, ¬ Fit n (fun k => A.getD k 0) (fun k => B.getD k 0) (N - M) x y) → post (.tup [.own 0, .own 1, .v (.int .i64 32)]) [some (.arr 1 []), some (.arr 1 [])] := fun h => hpost _ _ (.inr ⟨h, rfl, rfl⟩)
  rcases hr1 with ⟨L1, a1, a2, a3, a4, rfl⟩ | ⟨a1, rfl⟩
  · simp only [go_sem, ↓reduceIte]
    refine call_post (subL_refl _) rfl (k_elements (two - e) q1 k2 (by omega)) ?_
    rintro r T' ⟨hr2, rfl⟩
    rcases hr2 with ⟨L2, b1, b2, b3, b4, rfl⟩ | ⟨b1, rfl⟩
    · simp only [go_sem, ↓reduceIte]
      refine call_post (subL_refl _) rfl (k_fit L1 L2 A B N M n (by omega) (by omega) (by omega) hA hB) ?_
      rintro r T' ⟨⟨t, rfl, ht⟩, rfl⟩
      cases t with
      | true =>
        simp only [go_sem, ↓reduceIte]
        refine hpost _ _ (.inl ⟨.inl ⟨L1, L2, ⟨ss_nodup a1, ss_nodup b1, fun z h1 h2 => hdis z ((a3 z).1 h1) ((b3 z).1 h2), a4, b4, by omega, by omega, ht.1 rfl⟩, a1, b1, rfl⟩, rfl⟩)
      | false =>
        simp only [go_sem, ↓reduceIte]
        refine bad fun x y hf => ?_
        obtain ⟨f1, f2⟩ := hfit x y hf
        have : (false : Bool) = true := ht.2 fun k hk => by
          have e3 := hf.pts k hk
          rw [fit_perm (ss_nodup b1) hf.ny (fun z => by rw [b3, f2, pr_root]), fit_perm (ss_nodup a1) hf.nx (fun z => by rw [a3, f1, pr_root])]
          exact e3
        exact absurd this (by simp)
    · simp only [go_sem, ↓reduceIte]
      refine bad fun x y hf => ?_
      obtain ⟨f1, f2⟩ := hfit x y hf
      have l1 := mon_len k2
      rw [f2, mon_len (pr_mon y)] at l1
      exact b1 y hf.ny (by omega) (fun z hz => by rw [f2]; exact pr_root.2 hz) hf.ry
  · simp only [go_sem, ↓reduceIte]
    refine call_post (subL_refl _) rfl (k_elements (two - e) q1 k2 (by omega)) ?_
    rintro r T' ⟨hr2, rfl⟩
    have no : ∀ x y, ¬ Fit n (fun k => A.getD k 0) (fun k => B.getD k 0) (N - M) x y := fun x y hf => by
      obtain ⟨f1, f2⟩ := hfit x y hf
      have l1 := mon_len k1
      rw [f1, mon_len (pr_mon x)] at l1
      exact a1 x hf.nx (by omega) (fun z hz => by rw [f1]; exact pr_root.2 hz) hf.rx
    rcases hr2 with ⟨L2, b1, b2, b3, b4, rfl⟩ | ⟨b1, rfl⟩
    · simp only [go_sem, ↓reduceIte]
      exact bad no
    · simp only [go_sem, ↓reduceIte]
      exact bad no
theorem df_rest (n one two : Nat) (N M : Int) (A B : List Fq) (hn : 4 ≤ n) (hn2 : n ≤ 64) (hA : A.length = n) (hB : B.length = n) (h0 : ∀ k, k < n → A.getD k 0 ≠ 0) (hall : one + two + 2 = n ∨ one + two + 3 = n) (hd : (one : Int) - (two : Int) = N - M) (post : AV → Tab → Prop) (hpost : ∀ r T, DiffRaw n A B (N - M) r T → post r T) :
    @codeC Go.Proofs.Tryz.prog G dfRest ⟨0, [(2, .ptr 0 0), (3, .ptr 1 0), (8, .v (.int .i64 ((one + two : Nat) : Int))), (9, .v (.int .i64 (one : Int))), (11, .own 2)], CT (skA N A) (skA M B) (eqsL A B one two (one + two))⟩ ⟨bodyG [(4, none), (5, none), (6, none)] post⟩ := by
  unfold dfRest
  have hne : eqsL A B one two (one + two) ≠ [] := fun e => by have := eqs_len A B one two (one + two); rw [e] at this; simp at this; omega
  have hcl : (CT (skA N A) (skA M B) (eqsL A B one two (one + two))).length = one + two + 3 := by rw [CT_len, eqs_len]
  have hcall := CT_call (a := skA N A) (b := skA M B) hne
  rw [eqs_len] at hcall
  have hnd : (2 :: (List.range (one + two)).map (3 + ·)).Nodup := List.nodup_cons.2 ⟨by simp; omega, List.Pairwise.map _ (fun x y h e => h (by omega)) List.nodup_range⟩
  simp only [go_sem, ↓reduceIte]
  refine call_at (2 :: (List.range (one + two)).map (3 + ·)) (subL_refl _) hnd (fun x hx => ?_) (args2 := [.own 0, .v (.int .i64 ((one + two : Nat) : Int))]) (by simp only [rnL, rnA, idx_nodup hnd (show (2 :: (List.range (one + two)).map (3 + ·))[0]? = some 2 from rfl)]) rfl (k_solveS (one + two) (eqsL A B one two (one + two)) _ _ hcall (fun k hk => ?_) (by omega) (by rw [eqs_len]; omega)) ?_
  · rw [hcl]
    rcases List.mem_cons.1 hx with rfl | hx
    · omega
    · obtain ⟨j, hj, rfl⟩ := List.mem_map.1 hx
      have := List.mem_range.1 hj
      omega
  · rw [eqs_len] at hk
    rw [eqs_get _ _ _ _ _ _ hk, eqR_len]
  intro r T' hr
  have t0 : (bkT (2 :: (List.range (one + two)).map (3 + ·)) (CT (skA N A) (skA M B) (eqsL A B one two (one + two))).length (CT (skA N A) (skA M B) (eqsL A B one two (one + two))) (2 :: (List.range (one + two)).map (3 + ·)) T')[0]? = some (some (.box (skA N A))) := by
    rw [bkT_keep _ _ _ _ (by omega) (by simp)]; rfl
  have t1 : (bkT (2 :: (List.range (one + two)).map (3 + ·)) (CT (skA N A) (skA M B) (eqsL A B one two (one + two))).length (CT (skA N A) (skA M B) (eqsL A B one two (one + two))) (2 :: (List.range (one + two)).map (3 + ·)) T')[1]? = some (some (.box (skA M B))) := by
    rw [bkT_keep _ _ _ _ (by omega) (by simp; omega)]; rfl
  generalize bkT (2 :: (List.range (one + two)).map (3 + ·)) (CT (skA N A) (skA M B) (eqsL A B one two (one + two))).length (CT (skA N A) (skA M B) (eqsL A B one two (one + two))) (2 :: (List.range (one + two)).map (3 + ·)) T' = T3 at t0 t1
  have hg : ∀ s, idsS (sortS s) = [0, 1] → gcsO [] ⟨0, s, T3⟩ = ⟨0, rnS [0, 1] (sortS s), [some (.box (skA N A)), some (.box (skA M B))]⟩ := fun s h2 => gcs_two rfl rfl t0 t1 h2 rfl
  have hfit : ∀ x y, Fit n (fun k => A.getD k 0) (fun k => B.getD k 0) (N - M) x y → ∃ sol : List Fq, Sol (one + two) (eqsL A B one two (one + two)) sol := fun x y hf => by
    obtain ⟨j, j1, j2⟩ := fit_le hf hall hd
    obtain ⟨sol, e1, e2⟩ := fit_solves hf j
    rw [← j1, ← j2] at e1 e2
    exact ⟨sol, (eqs_sat e1).2 fun k hk => (eq_iff e1).1 (e2 k (by omega))⟩
  rcases hr with ⟨sol, s1, s2, rfl⟩ | ⟨s1, rfl⟩
  · have o1 : one ≤ sol.length := by omega
    have p1 : List.take one (fl sol) = fl (sol.take one) := by simp only [fl, List.map_take]
    have p2 : List.drop one (fl sol) = fl (sol.drop one) := by simp only [fl, List.map_drop]
    have l1 : (sol.take one).length = one := by rw [List.length_take]; omega
    have l2 : (sol.drop one).length = two := by rw [List.length_drop]; omega
    have b1 : (one + 1) * 8 ≤ 140737488355328 := by omega
    have b2 : one + 1 ≤ maxLen := by unfold maxLen; omega
    have b3 : (two + 1) * 8 ≤ 140737488355328 := by omega
    have b4 : two + 1 ≤ maxLen := by unfold maxLen; omega
    generalize hP : sol.take one = P at p1 l1
    generalize hQ : sol.drop one = Q at p2 l2
    have p3 : List.take (sol.length - one) (fl Q) = fl Q := List.take_of_length_le (by simp only [fl, List.length_map]; omega)
    have c1 := k_Clone (G := G) P (by omega)
    have c2 := k_Clone (G := G) Q (by omega)
    have hPm : mon one (P ++ [1]) := ⟨P, rfl, l1⟩
    have hQm : mon two (Q ++ [1]) := ⟨Q, rfl, l2⟩
    have heq : ∀ k, k < one + two → B.getD k 0 * ev (P ++ [1]) (zk k) = A.getD k 0 * ev (Q ++ [1]) (zk k) := by
      have := (eqs_sat (i := one + two) s1).1 s2
      rwa [hP, hQ] at this
    have p4 : fl P ++ [[AV.v (.int .u64 1)]] = fl (P ++ [1]) := by simp only [fl, List.map_append]; rfl
    have p5 : fl Q ++ [[AV.v (.int .u64 1)]] = fl (Q ++ [1]) := by simp only [fl, List.map_append]; rfl
    have key := df_r2 (G := G) n one two N M A B hn hn2 hA hB h0 hall hd post hpost (P ++ [1]) (Q ++ [1]) hPm hQm heq
    simp only [go_sem, ↓reduceIte, ↓codeC_shutO, hg, List.length_map, o1, p1, p2, p3]
    repeat' (first
      | refine And.intro ?_ ?_
      | (refine call_new (subL_refl _) rfl c1 ?_; simp only [go_sem, ↓reduceIte, List.length_map, o1, p1, p2, p3, l1, l2, b1, b2, b3, b4])
      | (refine call_new (subL_refl _) rfl c2 ?_; simp only [go_sem, ↓reduceIte, List.length_map, o1, p1, p2, p3, l1, l2, b1, b2, b3, b4]))
    all_goals (rw [p4, p5]; exact key)
  · simp only [go_sem, ↓reduceIte, ↓codeC_shutO, hg]
    exact hpost _ _ (.inr ⟨fun x y hf => (hfit x y hf).elim fun sol hs => s1 sol hs, rfl, rfl⟩)
theorem df_loop (n one two : Nat) (N M : Int) (A B : List Fq) (hn : 4 ≤ n) (hn2 : n ≤ 64) (hA : A.length = n) (hB : B.length = n) (h0 : ∀ k, k < n → A.getD k 0 ≠ 0) (hall : one + two + 2 = n ∨ one + two + 3 = n) (hd : (one : Int) - (two : Int) = N - M) (st : St) (hst : gcsO [] st = dfS N M A B one two 0) (post : AV → Tab → Prop) (hpost : ∀ r T, DiffRaw n A B (N - M) r T → post r T) :
    @codeC Go.Proofs.Tryz.prog G dfLoop st ⟨@seqQ ⟨fun s => @codeC Go.Proofs.Tryz.prog G dfRest s ⟨bodyG [(4, none), (5, none), (6, none)] post⟩⟩ ⟨bodyG [(4, none), (5, none), (6, none)] post⟩⟩ := by
  unfold dfLoop
  simp only [go_sem, ↓reduceIte]
  refine loop_o (fun m s => ∃ i, m = one + two - i ∧ i ≤ one + two ∧ s = dfS N M A B one two i) (one + two) ⟨0, by omega, by omega, hst⟩ ?_
  rintro m s ⟨i, rfl, hi, rfl⟩
  by_cases hlt : i < one + two
  · have g0 := fl_getD' A i (by omega)
    have g1 := fl_getD' B i (by omega)
    have c0 : (CT (skA N A) (skA M B) (eqsL A B one two i))[0]? = some (some (.box (skA N A))) := rfl
    have c1 : (CT (skA N A) (skA M B) (eqsL A B one two i))[1]? = some (some (.box (skA M B))) := rfl
    have cl : (CT (skA N A) (skA M B) (eqsL A B one two i)).length = i + 3 := by rw [CT_len, eqs_len]
    simp only [go_sem, ↓reduceIte, dlt_t hlt, c0, c1, g0, g1]
    refine call_new (subL_refl _) rfl (k_equation (A.getD i 0) (B.getD i 0) i one two (by omega) (by omega) (by omega)) ?_
    obtain ⟨b, hb⟩ := CTr_rows (eqsL A B one two i)
    rw [eqs_len] at hb
    have c2 : ∀ x y, (CT (skA N A) (skA M B) (eqsL A B one two i) ++ [x] ++ [y])[2]? = some (some (CTr (eqsL A B one two i))) := fun x y => by
      rw [List.getElem?_append_left (by rw [List.length_append]; omega), List.getElem?_append_left (by omega)]; rfl
    have c3 : ∀ x y, (CT (skA N A) (skA M B) (eqsL A B one two i) ++ [x] ++ [y])[i + 3 + 1]? = some y := fun x y => by
      have : (CT (skA N A) (skA M B) (eqsL A B one two i) ++ [x]).length = i + 3 + 1 := by rw [List.length_append, cl]; rfl
      rw [← this]; exact List.getElem?_concat_length
    have b1 : (i + 1) * 24 ≤ 140737488355328 := by omega
    have b2 : i + 1 ≤ maxLen := by unfold maxLen; omega
    have fin : ∀ s s'', idsS (sortS s) = [0, 1, i + 5] → (∀ L, idx L 0 = some 0 → idx L 1 = some 1 → idx L (i + 5) = some 2 → rnS L (sortS s) = s'') → gcsO [] ⟨0, s, (CT (skA N A) (skA M B) (eqsL A B one two i) ++ [some (AObj.arr 1 (fl (eqR (A.getD i 0) (B.getD i 0) (zk i) one two)))] ++ [some (AObj.arf 1 [[AV.own (i + 3)]])]).set 2 none ++ [some (AObj.arf 1 (((List.range i).map fun j => [AV.own (3 + j)]) ++ [[AV.own (i + 3)]]))]⟩ = ⟨0, s'', CT (skA N A) (skA M B) (eqsL A B one two (i + 1))⟩ := fun s s'' h2 h4 => by
      obtain ⟨t1, t2, t3⟩ := tab4 _ i cl (some (AObj.arr 1 (fl (eqR (A.getD i 0) (B.getD i 0) (zk i) one two)))) (some (AObj.arf 1 [[AV.own (i + 3)]])) (some (AObj.arf 1 (((List.range i).map fun j => [AV.own (3 + j)]) ++ [[AV.own (i + 3)]])))
      rw [eqs_succ]
      refine gcs_CTm (eqs_len A B one two i) rfl rfl ((t1 0 (by omega) (by omega)).trans c0) ((t1 1 (by omega) (by omega)).trans c1) (fun k hk => (t1 (3 + k) (by omega) (by omega)).trans (CT_row (by rw [eqs_len]; exact hk))) t2 (t3.trans ?_) h2 h4
      rw [List.range_succ, List.map_append, Nat.add_comm i 3]
      rfl
    cases b <;> simp only [go_sem, ↓reduceIte, cl, c2, c3, hb, List.length_range, b1, b2, wrap_suc (show i < 9223372036854775807 by omega)] <;>
      exact ⟨one + two - (i + 1), by omega, i + 1, rfl, by omega, fin _ _ (by simp [sortS, insS, idsS, idsA, idsL]) (fun L h0 h1 h2 => by simp [sortS, insS, rnS, rnA, rnL, h0, h1, h2])⟩
  · obtain rfl : i = one + two := by omega
    simp only [go_sem, ↓reduceIte, dlt_f hlt]
    exact df_rest n one two N M A B hn hn2 hA hB h0 hall hd post hpost
theorem tmod2 (e : Nat) : ((e : Nat) : Int).tmod 2 = ((e % 2 : Nat) : Int) := by rw [Int.tmod_eq_emod_of_nonneg (by omega)]; rfl
theorem k_DiffR (n : Nat) (N M : Int) (A B : List Fq) (hn : 4 ≤ n) (hn2 : n ≤ 64) (hA : A.length = n) (hB : B.length = n) (h0 : ∀ k, k < n → A.getD k 0 ≠ 0) (hN : -1000000 ≤ N ∧ N ≤ 1000000) (hM : -1000000 ≤ M ∧ M ≤ 1000000) : CallOk Go.Proofs.Tryz.prog G n_sketch_Diff [.ag (skA N A), .ag (skA M B)] [] (DiffRaw n A B (N - M)) := by
  refine fun_okH h_sketch_Diff_ok (by decide) ?_
  rw [dfHead_eq]
  unfold dfHead
  have hd : ∃ d : Int, d = N - M := ⟨_, rfl⟩
  obtain ⟨d, hd⟩ := hd
  have wd : IntKind.i64.wrap (N - M) = d := by rw [wrap_i64 (by omega) (by omega)]; omega
  have wn : IntKind.i64.wrap ((n : Int) - 2) = ((n - 2 : Nat) : Int) := by rw [wrap_i64 (by omega) (by omega)]; omega
  have wg : IntKind.i64.wrap (0 - d) = -d := by rw [wrap_i64 (by omega) (by omega)]; omega
  have wm : (if -d > d then -d else d) = ((d.natAbs : Nat) : Int) := by split <;> omega
  rw [← hd]
  simp only [go_sem, ↓reduceIte, skA, List.length_map, hA, hB, wd, wn, wg, wm]
  by_cases hbig : n - 2 < d.natAbs
  · simp only [go_sem, ↓reduceIte, dlt_t hbig]
    refine .inr ⟨fun x y hf => ?_, rfl, rfl⟩
    have h1 := hf.len
    have h2 := hf.dif
    omega
  · simp only [go_sem, ↓reduceIte, dlt_f hbig]
    obtain ⟨e, he⟩ : ∃ e : Nat, (e : Int) = ((n - 2 : Nat) : Int) + d := ⟨(((n - 2 : Nat) : Int) + d).toNat, by omega⟩
    obtain ⟨f, hf⟩ : ∃ f : Nat, (f : Int) = ((n - 2 : Nat) : Int) - d := ⟨(((n - 2 : Nat) : Int) - d).toNat, by omega⟩
    have we : IntKind.i64.wrap (((n - 2 : Nat) : Int) + d) = (e : Int) := by rw [wrap_i64 (by omega) (by omega)]; omega
    have wf : IntKind.i64.wrap (((n - 2 : Nat) : Int) - d) = (f : Int) := by rw [wrap_i64 (by omega) (by omega)]; omega
    simp only [go_sem, ↓reduceIte, we, tmod2]
    by_cases hpar : e % 2 = 0
    · obtain ⟨one, h1⟩ : ∃ one, e / 2 = one := ⟨_, rfl⟩
      obtain ⟨two, h2⟩ : ∃ two, f / 2 = two := ⟨_, rfl⟩
      have hS : n - 2 = one + two := by omega
      have q1 : IntKind.i64.wrap (((e : Nat) : Int).tdiv 2) = (one : Int) := by rw [quo2 e (by omega), h1]
      have q2 : IntKind.i64.wrap (((f : Nat) : Int).tdiv 2) = (two : Int) := by rw [quo2 f (by omega), h2]
      have t1 : (((e % 2 : Nat) : Int) != 0) = false := by simp [hpar]
      simp only [go_sem, ↓reduceIte, t1, we, wf, q1, q2]
      rw [hd]
      refine df_loop n one two N M A B hn hn2 hA hB h0 (by omega) (by omega) _ ?_ _ (fun r T h => h)
      show gcs [] _ = _
      simp only [go_sem, ↓reduceIte, hS, dfS, CT, CTr, eqsL]
    · obtain ⟨one, h1⟩ : ∃ one, (e - 1) / 2 = one := ⟨_, rfl⟩
      obtain ⟨two, h2⟩ : ∃ two, (f - 1) / 2 = two := ⟨_, rfl⟩
      have hS : n - 2 - 1 = one + two := by omega
      have w1 : IntKind.i64.wrap (((n - 2 : Nat) : Int) - 1) = ((n - 2 - 1 : Nat) : Int) := by rw [wrap_i64 (by omega) (by omega)]; omega
      have we1 : IntKind.i64.wrap (((n - 2 - 1 : Nat) : Int) + d) = ((e - 1 : Nat) : Int) := by rw [wrap_i64 (by omega) (by omega)]; omega
      have wf1 : IntKind.i64.wrap (((n - 2 - 1 : Nat) : Int) - d) = ((f - 1 : Nat) : Int) := by rw [wrap_i64 (by omega) (by omega)]; omega
      have q1 : IntKind.i64.wrap (((e - 1 : Nat) : Int).tdiv 2) = (one : Int) := by rw [quo2 (e - 1) (by omega), h1]
      have q2 : IntKind.i64.wrap (((f - 1 : Nat) : Int).tdiv 2) = (two : Int) := by rw [quo2 (f - 1) (by omega), h2]
      have t1 : (((e % 2 : Nat) : Int) != 0) = true := by simp; omega
      simp only [go_sem, ↓reduceIte, t1, w1, we1, wf1, q1, q2]
      rw [hd]
      refine df_loop n one two N M A B hn hn2 hA hB h0 (by omega) (by omega) _ ?_ _ (fun r T h => h)
      show gcs [] _ = _
      simp only [go_sem, ↓reduceIte, hS, dfS, CT, CTr, eqsL]
theorem k_Diff (n : Nat) (N M : Int) (A B : List Fq) (hn : 4 ≤ n) (hn2 : n ≤ 64) (hA : A.length = n) (hB : B.length = n) (h0 : ∀ k, k < n → A.getD k 0 ≠ 0) (hN : -1000000 ≤ N ∧ N ≤ 1000000) (hM : -1000000 ≤ M ∧ M ≤ 1000000) : CallOk Go.Proofs.Tryz.prog G n_sketch_Diff [.ag (skA N A), .ag (skA M B)] [] fun r T => DiffPost n A B (N - M) r ∧ T = [] := by
  refine (k_DiffR n N M A B hn hn2 hA hB h0 hN hM).finAt ?_
  rintro r T' (⟨h, rfl⟩ | ⟨h, rfl, rfl⟩)
  · refine ⟨[], ?_⟩
    rcases h with ⟨x, y, h1, h2, h3, rfl⟩ | ⟨h1, rfl⟩
    · simp only [go_sem, ↓reduceIte]
      exact .inl ⟨x, y, h1, h2, h3, rfl⟩
    · simp only [go_sem, ↓reduceIte]
      exact .inr ⟨h1, rfl⟩
  · refine ⟨[0, 1], ?_⟩
    simp only [go_sem, ↓reduceIte]
    exact .inr ⟨h, rfl⟩
end
end Hud
end
section
namespace Hud
open Go
theorem msortI_perm (l : List Id) : (msortI l).Perm l := List.mergeSort_perm l _
theorem without_mem (a b : List Id) (x : Id) : x ∈ withoutL a b ↔ x ∈ a ∧ x ∉ b := by
  rw [withoutL, (msortI_perm _).mem_iff, List.mem_filter]
  simp
theorem without_len (a b : List Id) : (withoutL a b).length ≤ a.length := by rw [withoutL, msortI_len]; exact List.length_filter_le _ _
theorem without_ok {a b : List Id} (h : okI a) : okI (withoutL a b) := fun x hx => h x ((without_mem a b x).1 hx).1
def mkId (n : Int) : Id := ⟨1 + n % 4, 1 + n / 4 % 9, n / 36 % 3⟩
def putL (out : List Id) (x : Id) : List Id := if x ∈ out then out else out ++ [x]
def namesL (l : List Int) (most : Nat) : List Id := (l.take most).foldl (fun out n => putL out (mkId (around n 1000))) []
theorem putL_len (out : List Id) (x : Id) : (putL out x).length ≤ out.length + 1 := by unfold putL; split <;> simp
theorem namesL_step (l : List Int) (i : Nat) (h : i < l.length) : (l.take (i + 1)).foldl (fun out n => putL out (mkId (around n 1000))) [] = putL ((l.take i).foldl (fun out n => putL out (mkId (around n 1000))) []) (mkId (around l[i] 1000)) := by
  rw [List.take_succ_eq_append_getElem h, List.foldl_append]; rfl
theorem foldP_len (l : List Int) : ∀ out, (l.foldl (fun out n => putL out (mkId (around n 1000))) out).length ≤ out.length + l.length := by
  induction l with
  | nil => intro out; simp
  | cons x l ih => intro out; have := ih (putL out (mkId (around x 1000))); have := putL_len out (mkId (around x 1000)); simp only [List.foldl_cons, List.length_cons]; omega
theorem around_in (n : Int) : 0 ≤ around n 1000 ∧ around n 1000 < 1000 := by unfold around; omega
theorem mkId_ok (n : Int) : 0 ≤ (mkId n).c ∧ (mkId n).c < 18446744073709551616 := by
  have : (mkId n).c = n / 36 % 3 := rfl
  omega
theorem foldP_mem {P : Id → Prop} (h : ∀ n, P (mkId n)) (l : List Int) : ∀ out, (∀ x ∈ out, P x) → ∀ x ∈ l.foldl (fun out n => putL out (mkId (around n 1000))) out, P x := by
  induction l with
  | nil => intro out ho; exact ho
  | cons y l ih =>
    intro out ho
    refine ih _ fun x hx => ?_
    have hx : x ∈ putL out (mkId (around y 1000)) := hx
    unfold putL at hx
    split at hx
    · exact ho x hx
    · rcases List.mem_append.1 hx with hx | hx
      · exact ho x hx
      · rw [List.mem_singleton.1 hx]; exact h _
theorem names_ok (l : List Int) (m : Nat) : okI (namesL l m) := foldP_mem (P := fun x => 0 ≤ x.c ∧ x.c < 18446744073709551616) mkId_ok _ _ (by simp)
theorem names_len (l : List Int) (m : Nat) : (namesL l m).length ≤ m := by
  have := foldP_len (l.take m) []
  rw [List.length_take] at this
  simp at this
  unfold namesL
  omega
section
variable {G : Nat → Option (List AV)}
set_option maxHeartbeats 2000000
end
end Hud
end
section
namespace Hud
open Go
open Classical in
noncomputable def ptsF (F : Nat → Prop) : Nat := if F 4 then 4 else if F 8 then 12 else if F 16 then 28 else if F 32 then 60 else 124
theorem pts_at {F : Nat → Prop} {j : Nat} (hj : j < 5) (h : ∀ i, i < j → ¬ F (4 * 2 ^ i)) (hf : F (4 * 2 ^ j)) : ptsF F = 4 * 2 ^ j - 4 + 4 * 2 ^ j := by
  have h0 := h 0
  have h1 := h 1
  have h2 := h 2
  have h3 := h 3
  have : j = 0 ∨ j = 1 ∨ j = 2 ∨ j = 3 ∨ j = 4 := by omega
  unfold ptsF
  rcases this with rfl | rfl | rfl | rfl | rfl <;> simp at h0 h1 h2 h3 hf <;> simp [*]
theorem pts_none {F : Nat → Prop} (h : ∀ i, i < 5 → ¬ F (4 * 2 ^ i)) : ptsF F = 124 := by
  have h0 := h 0
  have h1 := h 1
  have h2 := h 2
  have h3 := h 3
  unfold ptsF
  simp at h0 h1 h2 h3
  simp [*]
theorem fit_two' {n : Nat} {A B : Nat → Fq} {d : Int} {x y x' y' : List Fq} (h : Fit n A B d x y) (h' : Fit n A B d x' y') (hn : n ≤ 64) (hA : ∀ k, k < n → A k ≠ 0) (hl : x.length ≤ x'.length) : (∀ z, z ∈ x ↔ z ∈ x') ∧ ∀ z, z ∈ y ↔ z ∈ y' := by
  have d1 := h.dif
  have d2 := h'.dif
  have l2 := h'.len
  have he : ∀ k, k < x'.length + y'.length → B k * ev (pr x') (zk k) = A k * ev (pr y') (zk k) := fun k hk => by
    rw [← vl_pr, ← vl_pr]; exact (h'.pts k (by omega)).symm
  obtain ⟨a1, a2⟩ := fit_unique h hn hA (pr_mon x') (pr_mon y') (j := x'.length - x.length) (by omega) (by omega) (by omega) he
  obtain ⟨b1, b2⟩ := fit_unique h' hn hA (pr_mon x') (pr_mon y') (j := 0) (by omega) (by omega) (by omega) he
  rw [b1] at a1
  rw [b2] at a2
  exact ⟨fun z => by rw [← pr_root (R := x), ← a1, pr_root], fun z => by rw [← pr_root (R := y), ← a2, pr_root]⟩
theorem fit_two {n : Nat} {A B : Nat → Fq} {d : Int} {x y x' y' : List Fq} (h : Fit n A B d x y) (h' : Fit n A B d x' y') (hn : n ≤ 64) (hA : ∀ k, k < n → A k ≠ 0) (s1 : SS x) (s2 : SS y) (s3 : SS x') (s4 : SS y') : x = x' ∧ y = y' := by
  rcases Nat.le_total x.length x'.length with hl | hl
  · obtain ⟨a, b⟩ := fit_two' h h' hn hA hl
    exact ⟨ss_ext s1 s3 a, ss_ext s2 s4 b⟩
  · obtain ⟨a, b⟩ := fit_two' h' h hn hA hl
    exact ⟨ss_ext s1 s3 fun z => (a z).symm, ss_ext s2 s4 fun z => (b z).symm⟩
theorem elems_in (a : List Id) : ∀ z ∈ elemsL a, InE z := fun z hz => by
  rw [elemsL, setF_mem] at hz
  obtain ⟨x, _, rfl⟩ := List.mem_map.1 hz
  exact elemF_in _ _ _
theorem elems_len (a : List Id) : (elemsL a).length ≤ a.length := by
  have := nodup_le (M := elemsL a) (L := a.map EF) (ss_nodup (setF_ss _)) fun y hy => by rwa [elemsL, setF_mem] at hy
  simpa using this
theorem elems_ss (a : List Id) : SS (elemsL a) := setF_ss _
theorem SV_getD (l : List Fq) (n k : Nat) (h : k < n) : (SV l n).getD k 0 = vl l (zk k) := by simp [SV, List.getD_eq_getElem?_getD, h]
theorem SV_ne {a : List Id} {n k : Nat} (hn : n ≤ 64) (h : k < n) : (SV (elemsL a) n).getD k 0 ≠ 0 := by
  rw [SV_getD _ _ _ h]; exact zk_notin (elems_in a) (by omega)
def FitL (a b : List Id) (n : Nat) : Prop := Fit n (fun k => (SV (elemsL a) n).getD k 0) (fun k => (SV (elemsL b) n).getD k 0) (((elemsL a).length : Int) - ((elemsL b).length : Int)) (elemsL (withoutL a b)) (elemsL (withoutL b a))
noncomputable def ptsL (a b : List Id) : Nat := ptsF (FitL a b)
theorem pow_b {j : Nat} (h : j ≤ 5) : 4 ≤ 4 * 2 ^ j ∧ 4 * 2 ^ j ≤ 128 ∧ (4 * 2 ^ j ≤ 64 ↔ j < 5) := by
  have : j = 0 ∨ j = 1 ∨ j = 2 ∨ j = 3 ∨ j = 4 ∨ j = 5 := by omega
  rcases this with rfl | rfl | rfl | rfl | rfl | rfl <;> simp
section
variable {G : Nat → Option (List AV)}
set_option maxHeartbeats 4000000
theorem c_tries : CallOk Go.Proofs.Tryz.prog G n_recon_tries [] [] fun r T => r = .cl n_recon_tries_1 [] ∧ T = [] := by
  refine fun_okH h_recon_tries_ok (by decide) ?_
  unfold h_recon_tries
  simp only [go_sem, ↓reduceIte]
abbrev rdT (a b : List Id) (p : Nat) (r : Loop) : Tab := [some (.box [ids (withoutL a b)]), some (.box [ids (withoutL b a)]), some (.box [.v (.int .i64 (p : Int))]), some (.box [.ls 1 (fl (elemsL a))]), some (.box [.ls 1 (fl (elemsL b))]), some (.lp r [(8, .ptr 4 0), (7, .ptr 3 0), (6, .ptr 2 0), (5, .ptr 1 0), (4, .ptr 0 0)])]
theorem c_Diff (a b : List Id) (ha : a.length ≤ 50000) (hb : b.length ≤ 50000) (oa : okI a) (ob : okI b) : CallOk Go.Proofs.Tryz.prog G n_recon_Diff [ids a, ids b] [] fun r T => r = .tup [ids (withoutL a b), ids (withoutL b a), .v (.int .i64 ((ptsL a b : Nat) : Int))] ∧ T = [] := by
  refine fun_okH h_recon_Diff_ok (by decide) ?_
  unfold h_recon_Diff
  simp only [go_sem, ↓reduceIte]
  refine call_pure (subL_refl _) rfl (c_without a b (by omega) (by omega)) rfl ?_
  simp only [go_sem, ↓reduceIte]
  refine call_pure (subL_refl _) rfl (c_without b a (by omega) (by omega)) rfl ?_
  simp only [go_sem, ↓reduceIte]
  refine call_pure (subL_refl _) rfl (c_elems a ha oa) rfl ?_
  simp only [go_sem, ↓reduceIte]
  refine call_pure (subL_refl _) rfl (c_elems b hb ob) rfl ?_
  simp only [go_sem, ↓reduceIte]
  refine call_pure (subL_refl _) rfl c_tries rfl ?_
  simp only [go_sem, ↓reduceIte]
  refine rng_i rfl (gobody_ok h_recon_tries_1_ok) fun r k1 k2 hy hyR => ?_
  simp only [go_sem, ↓reduceIte]
  refine call_in [0, 1, 2, 3, 4, 5] (subL_refl _) (by decide) (fun i hi => by simp at hi ⊢; omega) rfl rfl (fun_okH h_recon_tries_1_ok (by decide) ?_)
  unfold h_recon_tries_1
  simp only [go_sem, ↓reduceIte]
  refine loop_i (fun m s => ∃ j : Nat, m = 5 - j ∧ j ≤ 5 ∧ (∀ i, i < j → ¬ FitL a b (4 * 2 ^ i)) ∧ s = ⟨6, [(0, .yl 5), (2, .v (.int .i64 ((4 * 2 ^ j : Nat) : Int)))], rdT a b (4 * 2 ^ j - 4) r⟩) 5 ⟨0, by omega, by omega, fun i hi => absurd hi (Nat.not_lt_zero _), ?_⟩ ?_
  · simp only [go_sem, ↓reduceIte]
    rfl
  rintro m s ⟨j, rfl, hj, hno, rfl⟩
  obtain ⟨n1, n2, n3⟩ := pow_b hj
  have la := elems_len a
  have lb := elems_len b
  have la2 := elems_len (withoutL a b)
  have lb2 := elems_len (withoutL b a)
  have wa := without_len a b
  have wb := without_len b a
  by_cases hj5 : j < 5
  · have hn64 := n3.2 hj5
    have hnext : 4 * 2 ^ (j + 1) = 4 * 2 ^ j * 2 := by rw [Nat.pow_succ]; omega
    have hat := fun hf => pts_at (F := FitL a b) hj5 hno hf
    have hno2 : ¬ FitL a b (4 * 2 ^ j) → ∀ i, i < j + 1 → ¬ FitL a b (4 * 2 ^ i) := fun h i hi => by
      rcases Nat.lt_or_ge i j with h1 | h1
      · exact hno i h1
      · obtain rfl : i = j := by omega
        exact h
    generalize hn : 4 * 2 ^ j = n at *
    have t1 : decide (((n : Nat) : Int) ≤ 64) = true := decide_eq_true (by omega)
    have w1 : IntKind.i64.wrap (((n - 4 : Nat) : Int) + (n : Int)) = ((n - 4 + n : Nat) : Int) := by rw [wrap_i64 (by omega) (by omega)]; omega
    have w2 : IntKind.i64.wrap ((n : Int) * 2) = ((n * 2 : Nat) : Int) := by rw [wrap_i64 (by omega) (by omega)]; omega
    simp only [go_sem, ↓reduceIte, t1]
    refine hy _ _ _ _ _ rfl rfl ?_
    simp only [go_sem, ↓reduceIte, w1]
    refine call_pure (subL_refl _) rfl (k_Of (elemsL a) n (by omega) (by omega)) rfl ?_
    simp only [go_sem, ↓reduceIte]
    refine call_pure (subL_refl _) rfl (k_Of (elemsL b) n (by omega) (by omega)) rfl ?_
    simp only [go_sem, ↓reduceIte]
    refine call_post (subL_refl _) rfl (k_Diff n ((elemsL a).length : Int) ((elemsL b).length : Int) (SV (elemsL a) n) (SV (elemsL b) n) n1 hn64 (SV_len _ _) (SV_len _ _) (fun k hk => SV_ne hn64 hk) (by omega) (by omega)) ?_
    rintro r' T' ⟨hD, rfl⟩
    have eqx : FitL a b n → ptsL a b = n - 4 + n := fun hf => hat hf
    have next : ¬ FitL a b n → ∃ m, m < 5 - j ∧ ∃ j, m = 5 - j ∧ j ≤ 5 ∧ (∀ i, i < j → ¬ FitL a b (4 * 2 ^ i)) ∧ (⟨6, [(0, .yl 5), (2, .v (.int .i64 ((n * 2 : Nat) : Int)))], rdT a b (n - 4 + n) r⟩ : St) = ⟨6, [(0, .yl 5), (2, .v (.int .i64 ((4 * 2 ^ j : Nat) : Int)))], rdT a b (4 * 2 ^ j - 4) r⟩ := fun h =>
      ⟨5 - (j + 1), by omega, j + 1, rfl, by omega, hno2 h, by rw [hnext, show n * 2 - 4 = n - 4 + n by omega]⟩
    rcases hD with ⟨x, y, hf, sx, sy, rfl⟩ | ⟨hf, rfl⟩
    · have hiff : FitL a b n ↔ x = elemsL (withoutL a b) ∧ y = elemsL (withoutL b a) := ⟨fun h => fit_two hf h hn64 (fun k hk => SV_ne hn64 hk) sx sy (elems_ss _) (elems_ss _), fun ⟨h1, h2⟩ => by rw [h1, h2] at hf; exact hf⟩
      have lx := hf.len
      simp only [go_sem, ↓reduceIte]
      refine call_pure (subL_refl _) rfl (c_elems (withoutL a b) (by omega) (without_ok oa)) rfl ?_
      simp only [go_sem, ↓reduceIte]
      refine call_pure (subL_refl _) rfl (s_Equal x (elemsL (withoutL a b)) (by omega)) rfl ?_
      simp only [go_sem, ↓reduceIte]
      by_cases hx : x = elemsL (withoutL a b)
      · simp only [go_sem, ↓reduceIte, hx]
        refine call_pure (subL_refl _) rfl (c_elems (withoutL b a) (by omega) (without_ok ob)) rfl ?_
        simp only [go_sem, ↓reduceIte]
        refine call_pure (subL_refl _) rfl (s_Equal y (elemsL (withoutL b a)) (by omega)) rfl ?_
        simp only [go_sem, ↓reduceIte]
        by_cases hyy : y = elemsL (withoutL b a)
        · simp only [go_sem, ↓reduceIte, hyy, k1, k2]
          rw [eqx (hiff.2 ⟨hx, hyy⟩)]
        · simp only [go_sem, ↓reduceIte, hyy, w2]
          exact next fun h => hyy (hiff.1 h).2
      · simp only [go_sem, ↓reduceIte, hx, w2]
        exact next fun h => hx (hiff.1 h).1
    · simp only [go_sem, ↓reduceIte, w2]
      exact next fun h => hf _ _ h
  · obtain rfl : j = 5 := by omega
    have hp := pts_none hno
    have e128 : 4 * 2 ^ 5 = 128 := rfl
    simp only [go_sem, ↓reduceIte, e128, rdT, k1, k2, show decide (((128 : Nat) : Int) ≤ 64) = false from rfl]
    rw [ptsL, hp]
end
end Hud
end
section
namespace Hud
open Go
section
variable {G : Nat → Option (List AV)}
set_option maxHeartbeats 4000000
end
end Hud
end
