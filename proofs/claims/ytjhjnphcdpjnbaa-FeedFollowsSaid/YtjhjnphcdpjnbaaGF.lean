/- A part of a proof: functions of the program, walked. -/
import Derived.Test.YtjhjnphcdpjnbaaProg
import Derived.Test.YtjhjnphcdpjnbaaGD
import Derived.KernelRfl
set_option linter.unusedVariables false
namespace Go.Proofs.Ytjhjnphcdpjnbaa.Ty
open Go Go.Proofs Go.Proofs.YtjhjnphcdpjnbaaVm
theorem sz2 : szOf Try.prog 2 = some 1 := by kernel_rfl
theorem by2 : byOf Try.prog 2 = some 8 := by kernel_rfl
theorem ag2 : aggOf Try.prog 2 = some false := by kernel_rfl
theorem un2 : Try.prog.underlying 2 = some (.int .i64) := by kernel_rfl
theorem zr2 : zeroOf Try.prog 2 = some [.val (.int .i64 0)] := by kernel_rfl
theorem sz3 : szOf Try.prog 3 = some 1 := by kernel_rfl
theorem by3 : byOf Try.prog 3 = some 8 := by kernel_rfl
theorem ag3 : aggOf Try.prog 3 = some false := by kernel_rfl
theorem un3 : Try.prog.underlying 3 = some (.int .i64) := by kernel_rfl
theorem zr3 : zeroOf Try.prog 3 = some [.val (.int .i64 0)] := by kernel_rfl
theorem sz4 : szOf Try.prog 4 = some 1 := by kernel_rfl
theorem by4 : byOf Try.prog 4 = some 1 := by kernel_rfl
theorem ag4 : aggOf Try.prog 4 = some false := by kernel_rfl
theorem un4 : Try.prog.underlying 4 = some .bool := by kernel_rfl
theorem zr4 : zeroOf Try.prog 4 = some [.val (.bool false)] := by kernel_rfl
theorem sz5 : szOf Try.prog 5 = some 1 := by kernel_rfl
theorem by5 : byOf Try.prog 5 = some 1 := by kernel_rfl
theorem ag5 : aggOf Try.prog 5 = some false := by kernel_rfl
theorem un5 : Try.prog.underlying 5 = some (.int .u8) := by kernel_rfl
theorem zr5 : zeroOf Try.prog 5 = some [.val (.int .u8 0)] := by kernel_rfl
theorem sz6 : szOf Try.prog 6 = some 1 := by kernel_rfl
theorem by6 : byOf Try.prog 6 = some 1 := by kernel_rfl
theorem ag6 : aggOf Try.prog 6 = some false := by kernel_rfl
theorem un6 : Try.prog.underlying 6 = some (.int .u8) := by kernel_rfl
theorem zr6 : zeroOf Try.prog 6 = some [.val (.int .u8 0)] := by kernel_rfl
theorem sz7 : szOf Try.prog 7 = some 4 := by kernel_rfl
theorem by7 : byOf Try.prog 7 = some 24 := by kernel_rfl
theorem ag7 : aggOf Try.prog 7 = some true := by kernel_rfl
theorem fld7_0 : fldOf Try.prog 7 0 = some (0, 2) := by kernel_rfl
theorem fld7_1 : fldOf Try.prog 7 1 = some (1, 3) := by kernel_rfl
theorem fld7_2 : fldOf Try.prog 7 2 = some (2, 4) := by kernel_rfl
theorem fld7_3 : fldOf Try.prog 7 3 = some (3, 6) := by kernel_rfl
theorem pl7 : plOf Try.prog 7 = some [(0, 1), (1, 1), (2, 1), (3, 1)] := by kernel_rfl
theorem eq7 : EqT Try.prog 7 [.int .i64, .int .i64, .bool, .int .u8] := EqT.of (by kernel_rfl) (by kernel_rfl) (by kernel_rfl)
theorem zr7 : zeroOf Try.prog 7 = some [.val (.int .i64 0), .val (.int .i64 0), .val (.bool false), .val (.int .u8 0)] := by kernel_rfl
theorem sz8 : szOf Try.prog 8 = some 4 := by kernel_rfl
theorem by8 : byOf Try.prog 8 = some 24 := by kernel_rfl
theorem ag8 : aggOf Try.prog 8 = some true := by kernel_rfl
theorem fld8_0 : fldOf Try.prog 8 0 = some (0, 2) := by kernel_rfl
theorem fld8_1 : fldOf Try.prog 8 1 = some (1, 3) := by kernel_rfl
theorem fld8_2 : fldOf Try.prog 8 2 = some (2, 4) := by kernel_rfl
theorem fld8_3 : fldOf Try.prog 8 3 = some (3, 6) := by kernel_rfl
theorem pl8 : plOf Try.prog 8 = some [(0, 1), (1, 1), (2, 1), (3, 1)] := by kernel_rfl
theorem eq8 : EqT Try.prog 8 [.int .i64, .int .i64, .bool, .int .u8] := EqT.of (by kernel_rfl) (by kernel_rfl) (by kernel_rfl)
theorem zr8 : zeroOf Try.prog 8 = some [.val (.int .i64 0), .val (.int .i64 0), .val (.bool false), .val (.int .u8 0)] := by kernel_rfl
theorem sz9 : szOf Try.prog 9 = some 1 := by kernel_rfl
theorem by9 : byOf Try.prog 9 = some 16 := by kernel_rfl
theorem ag9 : aggOf Try.prog 9 = some false := by kernel_rfl
theorem un9 : Try.prog.underlying 9 = some .string := by kernel_rfl
theorem zr9 : zeroOf Try.prog 9 = some [.val (.str [])] := by kernel_rfl
theorem sz10 : szOf Try.prog 10 = some 1 := by kernel_rfl
theorem by10 : byOf Try.prog 10 = some 16 := by kernel_rfl
theorem ag10 : aggOf Try.prog 10 = some false := by kernel_rfl
theorem un10 : Try.prog.underlying 10 = some .string := by kernel_rfl
theorem zr10 : zeroOf Try.prog 10 = some [.val (.str [])] := by kernel_rfl
theorem sz11 : szOf Try.prog 11 = some 1 := by kernel_rfl
theorem by11 : byOf Try.prog 11 = some 16 := by kernel_rfl
theorem ag11 : aggOf Try.prog 11 = some false := by kernel_rfl
theorem un11 : Try.prog.underlying 11 = some .string := by kernel_rfl
theorem zr11 : zeroOf Try.prog 11 = some [.val (.str [])] := by kernel_rfl
theorem sz12 : szOf Try.prog 12 = some 1 := by kernel_rfl
theorem by12 : byOf Try.prog 12 = some 8 := by kernel_rfl
theorem ag12 : aggOf Try.prog 12 = some false := by kernel_rfl
theorem un12 : Try.prog.underlying 12 = some (.int .u64) := by kernel_rfl
theorem zr12 : zeroOf Try.prog 12 = some [.val (.int .u64 0)] := by kernel_rfl
theorem sz13 : szOf Try.prog 13 = some 2 := by kernel_rfl
theorem by13 : byOf Try.prog 13 = some 24 := by kernel_rfl
theorem ag13 : aggOf Try.prog 13 = some true := by kernel_rfl
theorem fld13_0 : fldOf Try.prog 13 0 = some (0, 9) := by kernel_rfl
theorem fld13_1 : fldOf Try.prog 13 1 = some (1, 12) := by kernel_rfl
theorem pl13 : plOf Try.prog 13 = some [(0, 1), (1, 1)] := by kernel_rfl
theorem zr13 : zeroOf Try.prog 13 = some [.val (.str []), .val (.int .u64 0)] := by kernel_rfl
theorem sz14 : szOf Try.prog 14 = some 2 := by kernel_rfl
theorem by14 : byOf Try.prog 14 = some 24 := by kernel_rfl
theorem ag14 : aggOf Try.prog 14 = some true := by kernel_rfl
theorem fld14_0 : fldOf Try.prog 14 0 = some (0, 9) := by kernel_rfl
theorem fld14_1 : fldOf Try.prog 14 1 = some (1, 12) := by kernel_rfl
theorem pl14 : plOf Try.prog 14 = some [(0, 1), (1, 1)] := by kernel_rfl
theorem zr14 : zeroOf Try.prog 14 = some [.val (.str []), .val (.int .u64 0)] := by kernel_rfl
theorem sz15 : szOf Try.prog 15 = some 1 := by kernel_rfl
theorem by15 : byOf Try.prog 15 = some 8 := by kernel_rfl
theorem ag15 : aggOf Try.prog 15 = some false := by kernel_rfl
theorem un15 : Try.prog.underlying 15 = some (.pointer 151) := by kernel_rfl
theorem zr15 : zeroOf Try.prog 15 = some [.val .nilp] := by kernel_rfl
theorem sz16 : szOf Try.prog 16 = some 1 := by kernel_rfl
theorem by16 : byOf Try.prog 16 = some 8 := by kernel_rfl
theorem ag16 : aggOf Try.prog 16 = some false := by kernel_rfl
theorem un16 : Try.prog.underlying 16 = some (.pointer 154) := by kernel_rfl
theorem zr16 : zeroOf Try.prog 16 = some [.val .nilp] := by kernel_rfl
theorem sz17 : szOf Try.prog 17 = some 1 := by kernel_rfl
theorem by17 : byOf Try.prog 17 = some 8 := by kernel_rfl
theorem ag17 : aggOf Try.prog 17 = some false := by kernel_rfl
theorem un17 : Try.prog.underlying 17 = some (.pointer 164) := by kernel_rfl
theorem zr17 : zeroOf Try.prog 17 = some [.val .nilp] := by kernel_rfl
theorem sz18 : szOf Try.prog 18 = some 1 := by kernel_rfl
theorem by18 : byOf Try.prog 18 = some 8 := by kernel_rfl
theorem ag18 : aggOf Try.prog 18 = some true := by kernel_rfl
theorem fld18_0 : fldOf Try.prog 18 0 = some (0, 17) := by kernel_rfl
theorem pl18 : plOf Try.prog 18 = some [(0, 1)] := by kernel_rfl
theorem zr18 : zeroOf Try.prog 18 = some [.val .nilp] := by kernel_rfl
theorem sz19 : szOf Try.prog 19 = some 1 := by kernel_rfl
theorem by19 : byOf Try.prog 19 = some 8 := by kernel_rfl
theorem ag19 : aggOf Try.prog 19 = some true := by kernel_rfl
theorem fld19_0 : fldOf Try.prog 19 0 = some (0, 17) := by kernel_rfl
theorem pl19 : plOf Try.prog 19 = some [(0, 1)] := by kernel_rfl
theorem zr19 : zeroOf Try.prog 19 = some [.val .nilp] := by kernel_rfl
theorem sz21 : szOf Try.prog 21 = some 1 := by kernel_rfl
theorem by21 : byOf Try.prog 21 = some 4 := by kernel_rfl
theorem ag21 : aggOf Try.prog 21 = some false := by kernel_rfl
theorem un21 : Try.prog.underlying 21 = some (.int .i32) := by kernel_rfl
theorem zr21 : zeroOf Try.prog 21 = some [.val (.int .i32 0)] := by kernel_rfl
theorem sz22 : szOf Try.prog 22 = some 3 := by kernel_rfl
theorem by22 : byOf Try.prog 22 = some 40 := by kernel_rfl
theorem ag22 : aggOf Try.prog 22 = some true := by kernel_rfl
theorem fld22_0 : fldOf Try.prog 22 0 = some (0, 9) := by kernel_rfl
theorem fld22_1 : fldOf Try.prog 22 1 = some (1, 9) := by kernel_rfl
theorem fld22_2 : fldOf Try.prog 22 2 = some (2, 4) := by kernel_rfl
theorem pl22 : plOf Try.prog 22 = some [(0, 1), (1, 1), (2, 1)] := by kernel_rfl
theorem eq22 : EqT Try.prog 22 [.str, .str, .bool] := EqT.of (by kernel_rfl) (by kernel_rfl) (by kernel_rfl)
theorem zr22 : zeroOf Try.prog 22 = some [.val (.str []), .val (.str []), .val (.bool false)] := by kernel_rfl
theorem sz23 : szOf Try.prog 23 = some 3 := by kernel_rfl
theorem by23 : byOf Try.prog 23 = some 40 := by kernel_rfl
theorem ag23 : aggOf Try.prog 23 = some true := by kernel_rfl
theorem fld23_0 : fldOf Try.prog 23 0 = some (0, 9) := by kernel_rfl
theorem fld23_1 : fldOf Try.prog 23 1 = some (1, 9) := by kernel_rfl
theorem fld23_2 : fldOf Try.prog 23 2 = some (2, 4) := by kernel_rfl
theorem pl23 : plOf Try.prog 23 = some [(0, 1), (1, 1), (2, 1)] := by kernel_rfl
theorem eq23 : EqT Try.prog 23 [.str, .str, .bool] := EqT.of (by kernel_rfl) (by kernel_rfl) (by kernel_rfl)
theorem zr23 : zeroOf Try.prog 23 = some [.val (.str []), .val (.str []), .val (.bool false)] := by kernel_rfl
theorem sz24 : szOf Try.prog 24 = some 7 := by kernel_rfl
theorem by24 : byOf Try.prog 24 = some 80 := by kernel_rfl
theorem ag24 : aggOf Try.prog 24 = some true := by kernel_rfl
theorem fld24_0 : fldOf Try.prog 24 0 = some (0, 3) := by kernel_rfl
theorem fld24_1 : fldOf Try.prog 24 1 = some (1, 23) := by kernel_rfl
theorem fld24_2 : fldOf Try.prog 24 2 = some (4, 4) := by kernel_rfl
theorem fld24_3 : fldOf Try.prog 24 3 = some (5, 9) := by kernel_rfl
theorem fld24_4 : fldOf Try.prog 24 4 = some (6, 3) := by kernel_rfl
theorem pl24 : plOf Try.prog 24 = some [(0, 1), (1, 3), (4, 1), (5, 1), (6, 1)] := by kernel_rfl
theorem eq24 : EqT Try.prog 24 [.int .i64, .str, .str, .bool, .bool, .str, .int .i64] := EqT.of (by kernel_rfl) (by kernel_rfl) (by kernel_rfl)
theorem zr24 : zeroOf Try.prog 24 = some [.val (.int .i64 0), .val (.str []), .val (.str []), .val (.bool false), .val (.bool false), .val (.str []), .val (.int .i64 0)] := by kernel_rfl
theorem sz25 : szOf Try.prog 25 = some 7 := by kernel_rfl
theorem by25 : byOf Try.prog 25 = some 80 := by kernel_rfl
theorem ag25 : aggOf Try.prog 25 = some true := by kernel_rfl
theorem fld25_0 : fldOf Try.prog 25 0 = some (0, 3) := by kernel_rfl
theorem fld25_1 : fldOf Try.prog 25 1 = some (1, 23) := by kernel_rfl
theorem fld25_2 : fldOf Try.prog 25 2 = some (4, 4) := by kernel_rfl
theorem fld25_3 : fldOf Try.prog 25 3 = some (5, 9) := by kernel_rfl
theorem fld25_4 : fldOf Try.prog 25 4 = some (6, 3) := by kernel_rfl
theorem pl25 : plOf Try.prog 25 = some [(0, 1), (1, 3), (4, 1), (5, 1), (6, 1)] := by kernel_rfl
theorem eq25 : EqT Try.prog 25 [.int .i64, .str, .str, .bool, .bool, .str, .int .i64] := EqT.of (by kernel_rfl) (by kernel_rfl) (by kernel_rfl)
theorem zr25 : zeroOf Try.prog 25 = some [.val (.int .i64 0), .val (.str []), .val (.str []), .val (.bool false), .val (.bool false), .val (.str []), .val (.int .i64 0)] := by kernel_rfl
theorem sz26 : szOf Try.prog 26 = some 1 := by kernel_rfl
theorem by26 : byOf Try.prog 26 = some 24 := by kernel_rfl
theorem ag26 : aggOf Try.prog 26 = some false := by kernel_rfl
theorem un26 : Try.prog.underlying 26 = some (.slice 73) := by kernel_rfl
theorem el26 : elOf Try.prog 26 = some 73 := by kernel_rfl
theorem zr26 : zeroOf Try.prog 26 = some [.nils] := by kernel_rfl
theorem sz27 : szOf Try.prog 27 = some 1 := by kernel_rfl
theorem by27 : byOf Try.prog 27 = some 24 := by kernel_rfl
theorem ag27 : aggOf Try.prog 27 = some false := by kernel_rfl
theorem un27 : Try.prog.underlying 27 = some (.slice 70) := by kernel_rfl
theorem el27 : elOf Try.prog 27 = some 70 := by kernel_rfl
theorem zr27 : zeroOf Try.prog 27 = some [.nils] := by kernel_rfl
theorem sz30 : szOf Try.prog 30 = some 7 := by kernel_rfl
theorem by30 : byOf Try.prog 30 = some 80 := by kernel_rfl
theorem ag30 : aggOf Try.prog 30 = some true := by kernel_rfl
theorem fld30_0 : fldOf Try.prog 30 0 = some (0, 3) := by kernel_rfl
theorem fld30_1 : fldOf Try.prog 30 1 = some (1, 23) := by kernel_rfl
theorem fld30_2 : fldOf Try.prog 30 2 = some (4, 4) := by kernel_rfl
theorem fld30_3 : fldOf Try.prog 30 3 = some (5, 9) := by kernel_rfl
theorem fld30_4 : fldOf Try.prog 30 4 = some (6, 3) := by kernel_rfl
theorem pl30 : plOf Try.prog 30 = some [(0, 1), (1, 3), (4, 1), (5, 1), (6, 1)] := by kernel_rfl
theorem eq30 : EqT Try.prog 30 [.int .i64, .str, .str, .bool, .bool, .str, .int .i64] := EqT.of (by kernel_rfl) (by kernel_rfl) (by kernel_rfl)
theorem zr30 : zeroOf Try.prog 30 = some [.val (.int .i64 0), .val (.str []), .val (.str []), .val (.bool false), .val (.bool false), .val (.str []), .val (.int .i64 0)] := by kernel_rfl
theorem sz31 : szOf Try.prog 31 = some 3 := by kernel_rfl
theorem by31 : byOf Try.prog 31 = some 56 := by kernel_rfl
theorem ag31 : aggOf Try.prog 31 = some true := by kernel_rfl
theorem fld31_0 : fldOf Try.prog 31 0 = some (0, 26) := by kernel_rfl
theorem fld31_1 : fldOf Try.prog 31 1 = some (1, 27) := by kernel_rfl
theorem fld31_2 : fldOf Try.prog 31 2 = some (2, 4) := by kernel_rfl
theorem pl31 : plOf Try.prog 31 = some [(0, 1), (1, 1), (2, 1)] := by kernel_rfl
theorem zr31 : zeroOf Try.prog 31 = some [.nils, .nils, .val (.bool false)] := by kernel_rfl
theorem sz32 : szOf Try.prog 32 = some 3 := by kernel_rfl
theorem by32 : byOf Try.prog 32 = some 56 := by kernel_rfl
theorem ag32 : aggOf Try.prog 32 = some true := by kernel_rfl
theorem fld32_0 : fldOf Try.prog 32 0 = some (0, 26) := by kernel_rfl
theorem fld32_1 : fldOf Try.prog 32 1 = some (1, 27) := by kernel_rfl
theorem fld32_2 : fldOf Try.prog 32 2 = some (2, 4) := by kernel_rfl
theorem pl32 : plOf Try.prog 32 = some [(0, 1), (1, 1), (2, 1)] := by kernel_rfl
theorem zr32 : zeroOf Try.prog 32 = some [.nils, .nils, .val (.bool false)] := by kernel_rfl
theorem sz33 : szOf Try.prog 33 = some 1 := by kernel_rfl
theorem by33 : byOf Try.prog 33 = some 8 := by kernel_rfl
theorem ag33 : aggOf Try.prog 33 = some false := by kernel_rfl
theorem un33 : Try.prog.underlying 33 = some (.int .i64) := by kernel_rfl
theorem zr33 : zeroOf Try.prog 33 = some [.val (.int .i64 0)] := by kernel_rfl
theorem sz36 : szOf Try.prog 36 = some 3 := by kernel_rfl
theorem by36 : byOf Try.prog 36 = some 56 := by kernel_rfl
theorem ag36 : aggOf Try.prog 36 = some true := by kernel_rfl
theorem fld36_0 : fldOf Try.prog 36 0 = some (0, 26) := by kernel_rfl
theorem fld36_1 : fldOf Try.prog 36 1 = some (1, 27) := by kernel_rfl
theorem fld36_2 : fldOf Try.prog 36 2 = some (2, 4) := by kernel_rfl
theorem pl36 : plOf Try.prog 36 = some [(0, 1), (1, 1), (2, 1)] := by kernel_rfl
theorem zr36 : zeroOf Try.prog 36 = some [.nils, .nils, .val (.bool false)] := by kernel_rfl
theorem sz50 : szOf Try.prog 50 = some 1 := by kernel_rfl
theorem by50 : byOf Try.prog 50 = some 24 := by kernel_rfl
theorem ag50 : aggOf Try.prog 50 = some false := by kernel_rfl
theorem un50 : Try.prog.underlying 50 = some (.slice 32) := by kernel_rfl
theorem el50 : elOf Try.prog 50 = some 32 := by kernel_rfl
theorem zr50 : zeroOf Try.prog 50 = some [.nils] := by kernel_rfl
theorem sz51 : szOf Try.prog 51 = some 1 := by kernel_rfl
theorem by51 : byOf Try.prog 51 = some 24 := by kernel_rfl
theorem ag51 : aggOf Try.prog 51 = some false := by kernel_rfl
theorem un51 : Try.prog.underlying 51 = some (.slice 36) := by kernel_rfl
theorem el51 : elOf Try.prog 51 = some 36 := by kernel_rfl
theorem zr51 : zeroOf Try.prog 51 = some [.nils] := by kernel_rfl
theorem sz60 : szOf Try.prog 60 = some 1 := by kernel_rfl
theorem by60 : byOf Try.prog 60 = some 24 := by kernel_rfl
theorem ag60 : aggOf Try.prog 60 = some false := by kernel_rfl
theorem un60 : Try.prog.underlying 60 = some (.slice 61) := by kernel_rfl
theorem el60 : elOf Try.prog 60 = some 61 := by kernel_rfl
theorem zr60 : zeroOf Try.prog 60 = some [.nils] := by kernel_rfl
theorem sz61 : szOf Try.prog 61 = some 1 := by kernel_rfl
theorem by61 : byOf Try.prog 61 = some 24 := by kernel_rfl
theorem ag61 : aggOf Try.prog 61 = some false := by kernel_rfl
theorem un61 : Try.prog.underlying 61 = some (.slice 64) := by kernel_rfl
theorem el61 : elOf Try.prog 61 = some 64 := by kernel_rfl
theorem zr61 : zeroOf Try.prog 61 = some [.nils] := by kernel_rfl
theorem sz62 : szOf Try.prog 62 = some 1 := by kernel_rfl
theorem by62 : byOf Try.prog 62 = some 8 := by kernel_rfl
theorem ag62 : aggOf Try.prog 62 = some false := by kernel_rfl
theorem un62 : Try.prog.underlying 62 = some (.int .u64) := by kernel_rfl
theorem zr62 : zeroOf Try.prog 62 = some [.val (.int .u64 0)] := by kernel_rfl
theorem sz63 : szOf Try.prog 63 = some 4 := by kernel_rfl
theorem by63 : byOf Try.prog 63 = some 48 := by kernel_rfl
theorem ag63 : aggOf Try.prog 63 = some true := by kernel_rfl
theorem fld63_0 : fldOf Try.prog 63 0 = some (0, 3) := by kernel_rfl
theorem fld63_1 : fldOf Try.prog 63 1 = some (1, 9) := by kernel_rfl
theorem fld63_2 : fldOf Try.prog 63 2 = some (2, 9) := by kernel_rfl
theorem fld63_3 : fldOf Try.prog 63 3 = some (3, 62) := by kernel_rfl
theorem pl63 : plOf Try.prog 63 = some [(0, 1), (1, 1), (2, 1), (3, 1)] := by kernel_rfl
theorem zr63 : zeroOf Try.prog 63 = some [.val (.int .i64 0), .val (.str []), .val (.str []), .val (.int .u64 0)] := by kernel_rfl
theorem sz64 : szOf Try.prog 64 = some 4 := by kernel_rfl
theorem by64 : byOf Try.prog 64 = some 48 := by kernel_rfl
theorem ag64 : aggOf Try.prog 64 = some true := by kernel_rfl
theorem fld64_0 : fldOf Try.prog 64 0 = some (0, 3) := by kernel_rfl
theorem fld64_1 : fldOf Try.prog 64 1 = some (1, 9) := by kernel_rfl
theorem fld64_2 : fldOf Try.prog 64 2 = some (2, 9) := by kernel_rfl
theorem fld64_3 : fldOf Try.prog 64 3 = some (3, 62) := by kernel_rfl
theorem pl64 : plOf Try.prog 64 = some [(0, 1), (1, 1), (2, 1), (3, 1)] := by kernel_rfl
theorem zr64 : zeroOf Try.prog 64 = some [.val (.int .i64 0), .val (.str []), .val (.str []), .val (.int .u64 0)] := by kernel_rfl
theorem sz65 : szOf Try.prog 65 = some 1 := by kernel_rfl
theorem by65 : byOf Try.prog 65 = some 24 := by kernel_rfl
theorem ag65 : aggOf Try.prog 65 = some false := by kernel_rfl
theorem un65 : Try.prog.underlying 65 = some (.slice 3) := by kernel_rfl
theorem el65 : elOf Try.prog 65 = some 3 := by kernel_rfl
theorem zr65 : zeroOf Try.prog 65 = some [.nils] := by kernel_rfl
theorem sz69 : szOf Try.prog 69 = some 6 := by kernel_rfl
theorem by69 : byOf Try.prog 69 = some 72 := by kernel_rfl
theorem ag69 : aggOf Try.prog 69 = some true := by kernel_rfl
theorem fld69_0 : fldOf Try.prog 69 0 = some (0, 3) := by kernel_rfl
theorem fld69_1 : fldOf Try.prog 69 1 = some (1, 9) := by kernel_rfl
theorem fld69_2 : fldOf Try.prog 69 2 = some (2, 4) := by kernel_rfl
theorem fld69_3 : fldOf Try.prog 69 3 = some (3, 9) := by kernel_rfl
theorem fld69_4 : fldOf Try.prog 69 4 = some (4, 4) := by kernel_rfl
theorem fld69_5 : fldOf Try.prog 69 5 = some (5, 9) := by kernel_rfl
theorem pl69 : plOf Try.prog 69 = some [(0, 1), (1, 1), (2, 1), (3, 1), (4, 1), (5, 1)] := by kernel_rfl
theorem eq69 : EqT Try.prog 69 [.int .i64, .str, .bool, .str, .bool, .str] := EqT.of (by kernel_rfl) (by kernel_rfl) (by kernel_rfl)
theorem zr69 : zeroOf Try.prog 69 = some [.val (.int .i64 0), .val (.str []), .val (.bool false), .val (.str []), .val (.bool false), .val (.str [])] := by kernel_rfl
theorem sz70 : szOf Try.prog 70 = some 6 := by kernel_rfl
theorem by70 : byOf Try.prog 70 = some 72 := by kernel_rfl
theorem ag70 : aggOf Try.prog 70 = some true := by kernel_rfl
theorem fld70_0 : fldOf Try.prog 70 0 = some (0, 3) := by kernel_rfl
theorem fld70_1 : fldOf Try.prog 70 1 = some (1, 9) := by kernel_rfl
theorem fld70_2 : fldOf Try.prog 70 2 = some (2, 4) := by kernel_rfl
theorem fld70_3 : fldOf Try.prog 70 3 = some (3, 9) := by kernel_rfl
theorem fld70_4 : fldOf Try.prog 70 4 = some (4, 4) := by kernel_rfl
theorem fld70_5 : fldOf Try.prog 70 5 = some (5, 9) := by kernel_rfl
theorem pl70 : plOf Try.prog 70 = some [(0, 1), (1, 1), (2, 1), (3, 1), (4, 1), (5, 1)] := by kernel_rfl
theorem eq70 : EqT Try.prog 70 [.int .i64, .str, .bool, .str, .bool, .str] := EqT.of (by kernel_rfl) (by kernel_rfl) (by kernel_rfl)
theorem zr70 : zeroOf Try.prog 70 = some [.val (.int .i64 0), .val (.str []), .val (.bool false), .val (.str []), .val (.bool false), .val (.str [])] := by kernel_rfl
theorem sz72 : szOf Try.prog 72 = some 2 := by kernel_rfl
theorem by72 : byOf Try.prog 72 = some 32 := by kernel_rfl
theorem ag72 : aggOf Try.prog 72 = some true := by kernel_rfl
theorem fld72_0 : fldOf Try.prog 72 0 = some (0, 9) := by kernel_rfl
theorem fld72_1 : fldOf Try.prog 72 1 = some (1, 9) := by kernel_rfl
theorem pl72 : plOf Try.prog 72 = some [(0, 1), (1, 1)] := by kernel_rfl
theorem eq72 : EqT Try.prog 72 [.str, .str] := EqT.of (by kernel_rfl) (by kernel_rfl) (by kernel_rfl)
theorem zr72 : zeroOf Try.prog 72 = some [.val (.str []), .val (.str [])] := by kernel_rfl
theorem sz73 : szOf Try.prog 73 = some 2 := by kernel_rfl
theorem by73 : byOf Try.prog 73 = some 32 := by kernel_rfl
theorem ag73 : aggOf Try.prog 73 = some true := by kernel_rfl
theorem fld73_0 : fldOf Try.prog 73 0 = some (0, 9) := by kernel_rfl
theorem fld73_1 : fldOf Try.prog 73 1 = some (1, 9) := by kernel_rfl
theorem pl73 : plOf Try.prog 73 = some [(0, 1), (1, 1)] := by kernel_rfl
theorem eq73 : EqT Try.prog 73 [.str, .str] := EqT.of (by kernel_rfl) (by kernel_rfl) (by kernel_rfl)
theorem zr73 : zeroOf Try.prog 73 = some [.val (.str []), .val (.str [])] := by kernel_rfl
theorem sz79 : szOf Try.prog 79 = some 1 := by kernel_rfl
theorem by79 : byOf Try.prog 79 = some 24 := by kernel_rfl
theorem ag79 : aggOf Try.prog 79 = some false := by kernel_rfl
theorem un79 : Try.prog.underlying 79 = some (.slice 23) := by kernel_rfl
theorem el79 : elOf Try.prog 79 = some 23 := by kernel_rfl
theorem zr79 : zeroOf Try.prog 79 = some [.nils] := by kernel_rfl
theorem sz103 : szOf Try.prog 103 = some 2 := by kernel_rfl
theorem by103 : byOf Try.prog 103 = some 24 := by kernel_rfl
theorem ag103 : aggOf Try.prog 103 = some true := by kernel_rfl
theorem fld103_0 : fldOf Try.prog 103 0 = some (0, 4) := by kernel_rfl
theorem fld103_1 : fldOf Try.prog 103 1 = some (1, 9) := by kernel_rfl
theorem pl103 : plOf Try.prog 103 = some [(0, 1), (1, 1)] := by kernel_rfl
theorem eq103 : EqT Try.prog 103 [.bool, .str] := EqT.of (by kernel_rfl) (by kernel_rfl) (by kernel_rfl)
theorem zr103 : zeroOf Try.prog 103 = some [.val (.bool false), .val (.str [])] := by kernel_rfl
theorem sz104 : szOf Try.prog 104 = some 2 := by kernel_rfl
theorem by104 : byOf Try.prog 104 = some 24 := by kernel_rfl
theorem ag104 : aggOf Try.prog 104 = some true := by kernel_rfl
theorem fld104_0 : fldOf Try.prog 104 0 = some (0, 4) := by kernel_rfl
theorem fld104_1 : fldOf Try.prog 104 1 = some (1, 9) := by kernel_rfl
theorem pl104 : plOf Try.prog 104 = some [(0, 1), (1, 1)] := by kernel_rfl
theorem eq104 : EqT Try.prog 104 [.bool, .str] := EqT.of (by kernel_rfl) (by kernel_rfl) (by kernel_rfl)
theorem zr104 : zeroOf Try.prog 104 = some [.val (.bool false), .val (.str [])] := by kernel_rfl
theorem sz137 : szOf Try.prog 137 = some 1 := by kernel_rfl
theorem by137 : byOf Try.prog 137 = some 8 := by kernel_rfl
theorem ag137 : aggOf Try.prog 137 = some false := by kernel_rfl
theorem un137 : Try.prog.underlying 137 = some (.int .u64) := by kernel_rfl
theorem zr137 : zeroOf Try.prog 137 = some [.val (.int .u64 0)] := by kernel_rfl
theorem sz140 : szOf Try.prog 140 = some 1 := by kernel_rfl
theorem by140 : byOf Try.prog 140 = some 24 := by kernel_rfl
theorem ag140 : aggOf Try.prog 140 = some false := by kernel_rfl
theorem un140 : Try.prog.underlying 140 = some (.slice 5) := by kernel_rfl
theorem el140 : elOf Try.prog 140 = some 5 := by kernel_rfl
theorem zr140 : zeroOf Try.prog 140 = some [.nils] := by kernel_rfl
theorem sz150 : szOf Try.prog 150 = some 4 := by kernel_rfl
theorem by150 : byOf Try.prog 150 = some 40 := by kernel_rfl
theorem ag150 : aggOf Try.prog 150 = some true := by kernel_rfl
theorem fld150_0 : fldOf Try.prog 150 0 = some (0, 17) := by kernel_rfl
theorem fld150_1 : fldOf Try.prog 150 1 = some (1, 17) := by kernel_rfl
theorem fld150_2 : fldOf Try.prog 150 2 = some (2, 17) := by kernel_rfl
theorem fld150_3 : fldOf Try.prog 150 3 = some (3, 9) := by kernel_rfl
theorem pl150 : plOf Try.prog 150 = some [(0, 1), (1, 1), (2, 1), (3, 1)] := by kernel_rfl
theorem zr150 : zeroOf Try.prog 150 = some [.val .nilp, .val .nilp, .val .nilp, .val (.str [])] := by kernel_rfl
theorem sz151 : szOf Try.prog 151 = some 4 := by kernel_rfl
theorem by151 : byOf Try.prog 151 = some 40 := by kernel_rfl
theorem ag151 : aggOf Try.prog 151 = some true := by kernel_rfl
theorem fld151_0 : fldOf Try.prog 151 0 = some (0, 17) := by kernel_rfl
theorem fld151_1 : fldOf Try.prog 151 1 = some (1, 17) := by kernel_rfl
theorem fld151_2 : fldOf Try.prog 151 2 = some (2, 17) := by kernel_rfl
theorem fld151_3 : fldOf Try.prog 151 3 = some (3, 9) := by kernel_rfl
theorem pl151 : plOf Try.prog 151 = some [(0, 1), (1, 1), (2, 1), (3, 1)] := by kernel_rfl
theorem zr151 : zeroOf Try.prog 151 = some [.val .nilp, .val .nilp, .val .nilp, .val (.str [])] := by kernel_rfl
theorem sz152 : szOf Try.prog 152 = some 0 := by kernel_rfl
theorem by152 : byOf Try.prog 152 = some 0 := by kernel_rfl
theorem ag152 : aggOf Try.prog 152 = some true := by kernel_rfl
theorem zr152 : zeroOf Try.prog 152 = some [] := by kernel_rfl
theorem sz153 : szOf Try.prog 153 = some 0 := by kernel_rfl
theorem by153 : byOf Try.prog 153 = some 0 := by kernel_rfl
theorem ag153 : aggOf Try.prog 153 = some true := by kernel_rfl
theorem fld153_0 : fldOf Try.prog 153 0 = some (0, 152) := by kernel_rfl
theorem pl153 : plOf Try.prog 153 = some [(0, 0)] := by kernel_rfl
theorem zr153 : zeroOf Try.prog 153 = some [] := by kernel_rfl
theorem sz154 : szOf Try.prog 154 = some 0 := by kernel_rfl
theorem by154 : byOf Try.prog 154 = some 0 := by kernel_rfl
theorem ag154 : aggOf Try.prog 154 = some true := by kernel_rfl
theorem fld154_0 : fldOf Try.prog 154 0 = some (0, 152) := by kernel_rfl
theorem pl154 : plOf Try.prog 154 = some [(0, 0)] := by kernel_rfl
theorem zr154 : zeroOf Try.prog 154 = some [] := by kernel_rfl
theorem sz156 : szOf Try.prog 156 = some 1 := by kernel_rfl
theorem by156 : byOf Try.prog 156 = some 4 := by kernel_rfl
theorem ag156 : aggOf Try.prog 156 = some false := by kernel_rfl
theorem un156 : Try.prog.underlying 156 = some (.int .u32) := by kernel_rfl
theorem zr156 : zeroOf Try.prog 156 = some [.val (.int .u32 0)] := by kernel_rfl
theorem sz157 : szOf Try.prog 157 = some 1 := by kernel_rfl
theorem by157 : byOf Try.prog 157 = some 1 := by kernel_rfl
theorem ag157 : aggOf Try.prog 157 = some false := by kernel_rfl
theorem un157 : Try.prog.underlying 157 = some (.int .u8) := by kernel_rfl
theorem zr157 : zeroOf Try.prog 157 = some [.val (.int .u8 0)] := by kernel_rfl
theorem sz158 : szOf Try.prog 158 = some 1 := by kernel_rfl
theorem by158 : byOf Try.prog 158 = some 1 := by kernel_rfl
theorem ag158 : aggOf Try.prog 158 = some false := by kernel_rfl
theorem un158 : Try.prog.underlying 158 = some (.int .u8) := by kernel_rfl
theorem zr158 : zeroOf Try.prog 158 = some [.val (.int .u8 0)] := by kernel_rfl
theorem sz160 : szOf Try.prog 160 = some 1 := by kernel_rfl
theorem by160 : byOf Try.prog 160 = some 8 := by kernel_rfl
theorem ag160 : aggOf Try.prog 160 = some false := by kernel_rfl
theorem un160 : Try.prog.underlying 160 = some (.pointer 5) := by kernel_rfl
theorem zr160 : zeroOf Try.prog 160 = some [.val .nilp] := by kernel_rfl
theorem sz161 : szOf Try.prog 161 = some 1 := by kernel_rfl
theorem by161 : byOf Try.prog 161 = some 4 := by kernel_rfl
theorem ag161 : aggOf Try.prog 161 = some false := by kernel_rfl
theorem un161 : Try.prog.underlying 161 = some (.int .i32) := by kernel_rfl
theorem zr161 : zeroOf Try.prog 161 = some [.val (.int .i32 0)] := by kernel_rfl
theorem sz162 : szOf Try.prog 162 = some 1 := by kernel_rfl
theorem by162 : byOf Try.prog 162 = some 4 := by kernel_rfl
theorem ag162 : aggOf Try.prog 162 = some false := by kernel_rfl
theorem un162 : Try.prog.underlying 162 = some (.int .i32) := by kernel_rfl
theorem zr162 : zeroOf Try.prog 162 = some [.val (.int .i32 0)] := by kernel_rfl
theorem sz163 : szOf Try.prog 163 = some 11 := by kernel_rfl
theorem by163 : byOf Try.prog 163 = some 48 := by kernel_rfl
theorem ag163 : aggOf Try.prog 163 = some true := by kernel_rfl
theorem fld163_0 : fldOf Try.prog 163 0 = some (0, 12) := by kernel_rfl
theorem fld163_1 : fldOf Try.prog 163 1 = some (1, 12) := by kernel_rfl
theorem fld163_2 : fldOf Try.prog 163 2 = some (2, 156) := by kernel_rfl
theorem fld163_3 : fldOf Try.prog 163 3 = some (3, 157) := by kernel_rfl
theorem fld163_4 : fldOf Try.prog 163 4 = some (4, 5) := by kernel_rfl
theorem fld163_5 : fldOf Try.prog 163 5 = some (5, 5) := by kernel_rfl
theorem fld163_6 : fldOf Try.prog 163 6 = some (6, 158) := by kernel_rfl
theorem fld163_7 : fldOf Try.prog 163 7 = some (7, 159) := by kernel_rfl
theorem fld163_8 : fldOf Try.prog 163 8 = some (8, 160) := by kernel_rfl
theorem fld163_9 : fldOf Try.prog 163 9 = some (9, 161) := by kernel_rfl
theorem fld163_10 : fldOf Try.prog 163 10 = some (10, 162) := by kernel_rfl
theorem pl163 : plOf Try.prog 163 = some [(0, 1), (1, 1), (2, 1), (3, 1), (4, 1), (5, 1), (6, 1), (7, 1), (8, 1), (9, 1), (10, 1)] := by kernel_rfl
theorem sz164 : szOf Try.prog 164 = some 11 := by kernel_rfl
theorem by164 : byOf Try.prog 164 = some 48 := by kernel_rfl
theorem ag164 : aggOf Try.prog 164 = some true := by kernel_rfl
theorem fld164_0 : fldOf Try.prog 164 0 = some (0, 12) := by kernel_rfl
theorem fld164_1 : fldOf Try.prog 164 1 = some (1, 12) := by kernel_rfl
theorem fld164_2 : fldOf Try.prog 164 2 = some (2, 156) := by kernel_rfl
theorem fld164_3 : fldOf Try.prog 164 3 = some (3, 157) := by kernel_rfl
theorem fld164_4 : fldOf Try.prog 164 4 = some (4, 5) := by kernel_rfl
theorem fld164_5 : fldOf Try.prog 164 5 = some (5, 5) := by kernel_rfl
theorem fld164_6 : fldOf Try.prog 164 6 = some (6, 158) := by kernel_rfl
theorem fld164_7 : fldOf Try.prog 164 7 = some (7, 159) := by kernel_rfl
theorem fld164_8 : fldOf Try.prog 164 8 = some (8, 160) := by kernel_rfl
theorem fld164_9 : fldOf Try.prog 164 9 = some (9, 161) := by kernel_rfl
theorem fld164_10 : fldOf Try.prog 164 10 = some (10, 162) := by kernel_rfl
theorem pl164 : plOf Try.prog 164 = some [(0, 1), (1, 1), (2, 1), (3, 1), (4, 1), (5, 1), (6, 1), (7, 1), (8, 1), (9, 1), (10, 1)] := by kernel_rfl
theorem mixed : Try.prog.follows .mixedOrders = true := by kernel_rfl
attribute [go_sem] sz2 by2 ag2 un2 zr2 sz3 by3 ag3 un3 zr3 sz4 by4 ag4 un4 zr4 sz5 by5 ag5 un5 zr5 sz6 by6 ag6 un6 zr6 sz7 by7 ag7 fld7_0 fld7_1 fld7_2 fld7_3 pl7 zr7 sz8 by8 ag8 fld8_0 fld8_1 fld8_2 fld8_3 pl8 zr8 sz9 by9 ag9 un9 zr9 sz10 by10 ag10 un10 zr10 sz11 by11 ag11 un11 zr11 sz12 by12 ag12 un12 zr12 sz13 by13 ag13 fld13_0 fld13_1 pl13 zr13 sz14 by14 ag14 fld14_0 fld14_1 pl14 zr14 sz15 by15 ag15 un15 zr15 sz16 by16 ag16 un16 zr16 sz17 by17 ag17 un17 zr17 sz18 by18 ag18 fld18_0 pl18 zr18 sz19 by19 ag19 fld19_0 pl19 zr19 sz21 by21 ag21 un21 zr21 sz22 by22 ag22 fld22_0 fld22_1 fld22_2 pl22 zr22 sz23 by23 ag23 fld23_0 fld23_1 fld23_2 pl23 zr23 sz24 by24 ag24 fld24_0 fld24_1 fld24_2 fld24_3 fld24_4 pl24 zr24 sz25 by25 ag25 fld25_0 fld25_1 fld25_2 fld25_3 fld25_4 pl25 zr25 sz26 by26 ag26 un26 el26 zr26 sz27 by27 ag27 un27 el27 zr27 sz30 by30 ag30 fld30_0 fld30_1 fld30_2 fld30_3 fld30_4 pl30 zr30 sz31 by31 ag31 fld31_0 fld31_1 fld31_2 pl31 zr31 sz32 by32 ag32 fld32_0 fld32_1 fld32_2 pl32 zr32 sz33 by33 ag33 un33 zr33 sz36 by36 ag36 fld36_0 fld36_1 fld36_2 pl36 zr36 sz50 by50 ag50 un50 el50 zr50 sz51 by51 ag51 un51 el51 zr51 sz60 by60 ag60 un60 el60 zr60 sz61 by61 ag61 un61 el61 zr61 sz62 by62 ag62 un62 zr62 sz63 by63 ag63 fld63_0 fld63_1 fld63_2 fld63_3 pl63 zr63 sz64 by64 ag64 fld64_0 fld64_1 fld64_2 fld64_3 pl64 zr64 sz65 by65 ag65 un65 el65 zr65 sz69 by69 ag69 fld69_0 fld69_1 fld69_2 fld69_3 fld69_4 fld69_5 pl69 zr69 sz70 by70 ag70 fld70_0 fld70_1 fld70_2 fld70_3 fld70_4 fld70_5 pl70 zr70 sz72 by72 ag72 fld72_0 fld72_1 pl72 zr72 sz73 by73 ag73 fld73_0 fld73_1 pl73 zr73 sz79 by79 ag79 un79 el79 zr79 sz103 by103 ag103 fld103_0 fld103_1 pl103 zr103 sz104 by104 ag104 fld104_0 fld104_1 pl104 zr104 sz137 by137 ag137 un137 zr137 sz140 by140 ag140 un140 el140 zr140 sz150 by150 ag150 fld150_0 fld150_1 fld150_2 fld150_3 pl150 zr150 sz151 by151 ag151 fld151_0 fld151_1 fld151_2 fld151_3 pl151 zr151 sz152 by152 ag152 zr152 sz153 by153 ag153 fld153_0 pl153 zr153 sz154 by154 ag154 fld154_0 pl154 zr154 sz156 by156 ag156 un156 zr156 sz157 by157 ag157 un157 zr157 sz158 by158 ag158 un158 zr158 sz160 by160 ag160 un160 zr160 sz161 by161 ag161 un161 zr161 sz162 by162 ag162 un162 zr162 sz163 by163 ag163 fld163_0 fld163_1 fld163_2 fld163_3 fld163_4 fld163_5 fld163_6 fld163_7 fld163_8 fld163_9 fld163_10 pl163 sz164 by164 ag164 fld164_0 fld164_1 fld164_2 fld164_3 fld164_4 fld164_5 fld164_6 fld164_7 fld164_8 fld164_9 fld164_10 pl164 mixed eq7 eq8 eq22 eq23 eq24 eq25 eq30 eq69 eq70 eq72 eq73 eq103 eq104
end Go.Proofs.Ytjhjnphcdpjnbaa.Ty
set_option linter.unusedVariables false
set_option linter.unusedSimpArgs false
namespace Go.Proofs.Ytjhjnphcdpjnbaa
open Go Go.Proofs Go.Proofs.YtjhjnphcdpjnbaaVm Go.Proofs.Ytjhjnphcdpjnbaa.Ty

theorem wrap_small {n : Int} (h : -9223372036854775808 ≤ n) (h' : n < 9223372036854775808) : IntKind.i64.wrap n = n := by rw [IntKind.wrap_i64]; omega

theorem wrap_small' {n : Int} (h : -9223372036854775808 ≤ n) (h' : n < 9223372036854775808) : IntKind.i64.wrap n = n := by rw [IntKind.wrap_i64]; omega

theorem ins_grow (xs ys : List PV) (i : Nat) (Y : List PV) (hy : ys.length = 1) (hi : i < xs.length) (hl : Y.length = xs.length + 1) (ht : Y.take i = xs.take i) :
    over (over Y ys i) (xs.drop i) (i + 1) = xs.take i ++ ys ++ xs.drop i := by
  have e1 : over Y ys i = xs.take i ++ ys ++ Y.drop (i + 1) := by rw [over, ht, hy]
  have hlen : (xs.take i ++ ys).length = i + 1 := by simp [Nat.min_eq_left (Nat.le_of_lt hi), hy]
  have hZl : (over Y ys i).length = xs.length + 1 := by rw [over_length (by omega)]; omega
  rw [over, List.drop_eq_nil_of_le («as» := over Y ys i) (by rw [hZl, List.length_drop]; omega), List.append_nil, e1, List.take_append_of_le_length (by omega), List.take_of_length_le (by omega)]

theorem ins_room (xs ys : List PV) (i : Nat) (hy : ys.length = 1) (hi : i < xs.length) : over (over xs (xs.drop i) (i + 1)) ys i = xs.take i ++ ys ++ xs.drop i := by
  have e1 : over xs (xs.drop i) (i + 1) = xs.take (i + 1) ++ xs.drop i := by
    have e0 : xs.drop (i + 1 + (xs.drop i).length) = [] := List.drop_eq_nil_of_le (by rw [List.length_drop]; omega)
    rw [over, e0, List.append_nil]
  rw [over, e1, hy, List.take_append_of_le_length (by simp; omega), List.take_take, Nat.min_eq_left (Nat.le_succ i), List.drop_left' (by simp; omega)]

theorem wrap_small2 {n : Int} (h : -9223372036854775808 ≤ n) (h' : n < 9223372036854775808) : IntKind.i64.wrap n = n := by rw [IntKind.wrap_i64]; omega
theorem wrap_u2 {n : Int} (h : 0 ≤ n) (h' : n < 9223372036854775808) : IntKind.u64.wrap n = n := by
  simp [IntKind.wrap, IntKind.bits, IntKind.signed]; omega

theorem wrap_small3 {n : Int} (h : -9223372036854775808 ≤ n) (h' : n < 9223372036854775808) : IntKind.i64.wrap n = n := by rw [IntKind.wrap_i64]; omega

theorem drop_of_get {α : Type} {l : List α} {i : Nat} {x : α} (h : l[i]? = some x) : l.drop i = x :: l.drop (i + 1) := by
  obtain ⟨hlt, rfl⟩ := List.getElem?_eq_some_iff.1 h
  exact List.drop_eq_getElem_cons hlt

/-- Where a search by halves ends. -/
def bsI (c : Nat → Int) (i j : Nat) : Nat := if h : i < j then (if c ((i + j) / 2) < 0 then bsI c ((i + j) / 2 + 1) j else bsI c i ((i + j) / 2)) else i
termination_by j - i
theorem bsI_le (c : Nat → Int) (i j : Nat) (h : i ≤ j) : bsI c i j ≤ j := by
  rw [bsI]
  split
  · split
    · exact bsI_le c _ j (by omega)
    · exact Nat.le_trans (bsI_le c i _ (by omega)) (by omega)
  · exact h
termination_by j - i
theorem bsI_eq (c : Nat → Int) (i j r : Nat) (h1 : i ≤ r) (h2 : r ≤ j) (h3 : ∀ m, i ≤ m → m < r → c m < 0) (h4 : ∀ m, r ≤ m → m < j → ¬ c m < 0) : bsI c i j = r := by
  rw [bsI]
  split
  · split
    · rename_i hlt hc
      have : (i + j) / 2 < r := by
        rcases Nat.lt_or_ge ((i + j) / 2) r with h | h
        · exact h
        · exact absurd hc (h4 _ h (by omega))
      exact bsI_eq c _ j r (by omega) h2 (fun m hm => h3 m (by omega)) h4
    · rename_i hlt hc
      have : r ≤ (i + j) / 2 := by
        rcases Nat.lt_or_ge ((i + j) / 2) r with h | h
        · exact absurd (h3 _ (by omega) h) hc
        · exact h
      exact bsI_eq c i _ r h1 this h3 (fun m hm hm2 => h4 m hm (by omega))
  · omega
termination_by j - i
def cAt (c : PV → Int) (xs : List PV) (m : Nat) : Int := match xs[m]? with
  | some x => c x
  | none => 0
/-- The first of which something is true. -/
theorem first_of {α : Type} (p : α → Bool) : ∀ xs : List α, ∃ r, r ≤ xs.length ∧ (∀ x ∈ xs.take r, p x = false) ∧ (∀ x, xs[r]? = some x → p x = true) ∧ (r < xs.length ↔ ∃ x ∈ xs, p x = true)
  | [] => ⟨0, by simp, by simp, by simp, by simp⟩
  | x :: xs => by
    by_cases hx : p x = true
    · exact ⟨0, by simp, by simp, by simp [hx], by simp [hx]⟩
    · obtain ⟨r, h1, h2, h3, h4⟩ := first_of p xs
      refine ⟨r + 1, by simpa using h1, ?_, by simpa using h3, ?_⟩
      · intro y hy
        simp only [List.take_succ_cons, List.mem_cons] at hy
        rcases hy with rfl | hy
        · simpa using hx
        · exact h2 y hy
      · simp only [List.length_cons, Nat.add_lt_add_iff_right, h4, List.mem_cons]
        constructor
        · rintro ⟨y, hy, hp⟩
          exact ⟨y, .inr hy, hp⟩
        · rintro ⟨y, rfl | hy, hp⟩
          · exact absurd hp hx
          · exact ⟨y, hy, hp⟩
end Go.Proofs.Ytjhjnphcdpjnbaa
set_option linter.unusedVariables false
set_option linter.unusedSimpArgs false
namespace Go.Proofs.Ytjhjnphcdpjnbaa
open Go Go.Proofs Go.Proofs.YtjhjnphcdpjnbaaVm Go.Proofs.Ytjhjnphcdpjnbaa.Ty

structure Pair where
  key : List UInt8
  value : List UInt8
  deriving DecidableEq
def Pair.pv (p : Pair) : PV := .agg [.str p.key, .str p.value]

/-- Keys that rise, all short. -/
def pairsFrom : Option (List UInt8) → List Pair → Prop
  | _, [] => True
  | last, p :: r => p.key.length ≤ 16 ∧ p.value.length ≤ 32 ∧ (∀ k, last = some k → slt k p.key) ∧ pairsFrom (some p.key) r
def pairsOk (l : List Pair) : Prop := pairsFrom none l
instance instPF : ∀ (last : Option (List UInt8)) (l : List Pair), Decidable (pairsFrom last l)
  | _, [] => isTrue trivial
  | none, s :: r => by
    unfold pairsFrom
    have := instPF (some s.key) r
    have : Decidable (∀ k, none = some k → slt k s.key) := isTrue (fun k h => by cases h)
    infer_instance
  | some k, s :: r => by
    unfold pairsFrom
    have := instPF (some s.key) r
    have : Decidable (∀ k', some k = some k' → slt k' s.key) := decidable_of_iff (slt k s.key) ⟨fun h k' e => by cases e; exact h, fun h => h k rfl⟩
    infer_instance
instance instPairsOk (l : List Pair) : Decidable (pairsOk l) := by unfold pairsOk; infer_instance
def prevKey (l : List Pair) (i : Nat) : Option (List UInt8) := if i = 0 then none else (l[i - 1]?).map Pair.key

set_option maxRecDepth 4000 in
set_option maxHeartbeats 4000000 in
theorem leaf_Right (l : List Pair) (hl : l.length ≤ 1000000) : Ct Try.prog 46 (YtjhjnphcdpjnbaaVm.ops [.row (l.map Pair.pv)]) (.vals [.bool (decide (pairsOk l))]) := by
  refine Ct.of_V Try.func46 rfl (by simp [YtjhjnphcdpjnbaaVm.ops, Try.f46]) ?_
  refine V.exec 400 ?_
  simp (config := {contextual := true}) only [go_sem, ↓reduceIte, reduceCtorEq, Bool.false_eq_true, Bool.true_eq_false, Nat.reduceAdd, Nat.reduceLT, Nat.reduceEqDiff, Nat.reduceLeDiff, Nat.reduceSub, Nat.reduceMul, Try.f46]
  refine V.loop (fun m ls os => ∃ (i : Nat), i ≤ l.length ∧ m = l.length - i ∧ (pairsOk l ↔ pairsFrom (prevKey l i) (l.drop i)) ∧
        ls = [(0, .val (.row (l.map Pair.pv))), (5, .val (.row (l.map Pair.pv))), (6, .val (.int .i64 l.length)), (7, .val (.int .i64 i))] ∧ os = []) 0 l.length
      [(0, .val (.row (l.map Pair.pv))), (5, .val (.row (l.map Pair.pv))), (6, .val (.int .i64 l.length)), (7, .val (.int .i64 0))] [] []
      ⟨0, Nat.zero_le _, rfl, Iff.rfl, rfl, rfl⟩ (by simp only [go_sem, ↓reduceIte, reduceCtorEq, Bool.false_eq_true, Bool.true_eq_false, Nat.reduceAdd, Nat.reduceLT, Nat.reduceEqDiff, Nat.reduceLeDiff, Nat.reduceSub, Nat.reduceMul]) ?_
  rintro m ls os ⟨i, hi, rfl, hiff, rfl, rfl⟩
  refine V.exec 400 ?_
  by_cases hlt : i < l.length
  · have hlt' : (i : Int) < (l.length : Int) := by omega
    obtain ⟨x, hx⟩ : ∃ x, l[i]? = some x := ⟨_, List.getElem?_eq_getElem hlt⟩
    have hw : IntKind.i64.wrap ((i : Int) + 1) = ((i + 1 : Nat) : Int) := by rw [wrap_small3] <;> omega
    rw [drop_of_get hx, pairsFrom] at hiff
    have hpk : prevKey l (i + 1) = some x.key := by simp [prevKey, hx]
    have e1 : ((x.key.length : Int) ≤ 16) = (x.key.length ≤ 16) := by apply propext; omega
    have e2 : ((x.value.length : Int) ≤ 32) = (x.value.length ≤ 32) := by apply propext; omega
    have fin : x.key.length ≤ 16 → x.value.length ≤ 32 → (∀ k, prevKey l i = some k → slt k x.key) → (pairsOk l ↔ pairsFrom (prevKey l (i + 1)) (l.drop (i + 1))) := fun a b c => by
      rw [hiff, hpk]; exact ⟨fun h => h.2.2.2, fun h => ⟨a, b, c, h⟩⟩
    have hfalse : ¬ pairsOk l → some [PV.bool false] = some [PV.bool (decide (pairsOk l))] := fun h => by simp [h]
    rcases Nat.eq_zero_or_pos i with rfl | hpos
    · have hz : ¬ (0 : Int) < ((0 : Nat) : Int) := by omega
      simp (config := {contextual := true}) only [go_sem, ↓reduceIte, reduceCtorEq, Bool.false_eq_true, Bool.true_eq_false, Nat.reduceAdd, Nat.reduceLT, Nat.reduceEqDiff, Nat.reduceLeDiff, Nat.reduceSub, Nat.reduceMul, hlt', hx, Pair.pv, hw, hz, e1, e2]
      (repeat' (first | (intro _) | (refine ⟨by kernel_rfl, ?_⟩) | (apply And.intro)))
      · exact ⟨l.length - (0 + 1), _, [], [], by omega, ⟨1, by omega, rfl, fin (by omega) (by omega) (fun k h => by simp [prevKey] at h), rfl, rfl⟩, by simp only [go_sem, ↓reduceIte, reduceCtorEq, Bool.false_eq_true, Bool.true_eq_false, Nat.reduceAdd, Nat.reduceLT, Nat.reduceEqDiff, Nat.reduceLeDiff, Nat.reduceSub, Nat.reduceMul]⟩
      · refine hfalse fun h => ?_
        have := (hiff.1 h).2.1
        omega
      · refine hfalse fun h => ?_
        have := (hiff.1 h).1
        omega
    · obtain ⟨j, rfl⟩ : ∃ j, i = j + 1 := ⟨i - 1, by omega⟩
      have hw2 : IntKind.i64.wrap (((j + 1 : Nat) : Int) - 1) = (j : Int) := by rw [wrap_small3] <;> omega
      have hjp : (0 : Int) < ((j + 1 : Nat) : Int) := by omega
      obtain ⟨y, hy⟩ : ∃ y, l[j]? = some y := ⟨_, List.getElem?_eq_getElem (by omega)⟩
      simp (config := {contextual := true}) only [go_sem, ↓reduceIte, reduceCtorEq, Bool.false_eq_true, Bool.true_eq_false, Nat.reduceAdd, Nat.reduceLT, Nat.reduceEqDiff, Nat.reduceLeDiff, Nat.reduceSub, Nat.reduceMul, hlt', hx, Pair.pv, hw, hw2, hjp, hy, e1, e2]
      (repeat' (first | (intro _) | (refine ⟨by kernel_rfl, ?_⟩) | (apply And.intro)))
      · refine hfalse fun h => ?_
        have := (hiff.1 h).2.2.1 y.key (by simp [prevKey, hy])
        contradiction
      · rename_i a b c
        exact ⟨l.length - (j + 1 + 1), _, [], [], by omega, ⟨j + 1 + 1, by omega, rfl, fin (by omega) (by omega) (fun k h => by simp [prevKey, hy] at h; rw [← h]; assumption), rfl, rfl⟩, by simp only [go_sem, ↓reduceIte, reduceCtorEq, Bool.false_eq_true, Bool.true_eq_false, Nat.reduceAdd, Nat.reduceLT, Nat.reduceEqDiff, Nat.reduceLeDiff, Nat.reduceSub, Nat.reduceMul]⟩
      · refine hfalse fun h => ?_
        have := (hiff.1 h).2.1
        omega
      · refine hfalse fun h => ?_
        have := (hiff.1 h).1
        omega
  · have hlt' : ¬ (i : Int) < (l.length : Int) := by omega
    have hd : l.drop i = [] := List.drop_eq_nil_of_le (by omega)
    rw [hd, pairsFrom] at hiff
    simp (config := {contextual := true}) only [go_sem, ↓reduceIte, reduceCtorEq, Bool.false_eq_true, Bool.true_eq_false, Nat.reduceAdd, Nat.reduceLT, Nat.reduceEqDiff, Nat.reduceLeDiff, Nat.reduceSub, Nat.reduceMul, hlt']
    simp [hiff]
end Go.Proofs.Ytjhjnphcdpjnbaa
set_option linter.unusedVariables false
set_option linter.unusedSimpArgs false
namespace Go.Proofs.Ytjhjnphcdpjnbaa
open Go Go.Proofs Go.Proofs.YtjhjnphcdpjnbaaVm Go.Proofs.Ytjhjnphcdpjnbaa.Ty

set_option maxHeartbeats 2000000 in
theorem ClonePair (xs : List PV) (h1 : ∀ x ∈ xs, x.cells.length = 2) (hl : xs.length ≤ 1000000) : Ct Try.prog 45 (YtjhjnphcdpjnbaaVm.ops [.row xs]) (.own 73 xs) := by
  refine Ct.of_V Try.func45 rfl (by simp [YtjhjnphcdpjnbaaVm.ops, Try.f45]) ?_
  refine V.exec 400 ?_
  simp (config := {contextual := true}) only [go_sem, ↓reduceIte, reduceCtorEq, Bool.false_eq_true, Bool.true_eq_false, Nat.reduceAdd, Nat.reduceLT, Nat.reduceEqDiff, Nat.reduceLeDiff, Nat.reduceSub, Nat.reduceMul, Try.f45]
  refine V.nilq (xs := xs) rfl rfl (.inl rfl) (by simp only [go_sem, ↓reduceIte, Nat.reduceEqDiff]) (by simp only [go_sem]; rfl) (by simp [dOK]) fun c hc => ?_
  refine V.exec 400 ?_
  simp (config := {contextual := true}) only [go_sem, ↓reduceIte, reduceCtorEq, Bool.false_eq_true, Bool.true_eq_false, Nat.reduceAdd, Nat.reduceLT, Nat.reduceEqDiff, Nat.reduceLeDiff, Nat.reduceSub, Nat.reduceMul]
  exact ⟨fun h => ⟨hc h, 2, rfl, by decide⟩, fun _ => ⟨h1, by omega, by omega⟩⟩
set_option maxHeartbeats 4000000 in
theorem InsertPair (xs : List PV) (y : PV) (i : Nat) (h1 : ∀ x ∈ xs, x.cells.length = 2) (hy : y.cells.length = 2) (hi : i ≤ xs.length) (hl : xs.length ≤ 1000000) :
    Ct Try.prog 53 (.o 73 xs :: YtjhjnphcdpjnbaaVm.ops [.int .i64 i, .rowp [y]]) (.own 73 (xs.take i ++ [y] ++ xs.drop i)) := by
  refine Ct.of_V Try.func53 rfl (by simp [YtjhjnphcdpjnbaaVm.ops, Try.f53]) ?_
  refine V.opn 0 2 73 xs rfl (by simp only [go_sem, ↓reduceIte, reduceCtorEq, Bool.false_eq_true, Bool.true_eq_false, Nat.reduceAdd, Nat.reduceLT, Nat.reduceEqDiff, Nat.reduceLeDiff, Nat.reduceSub, Nat.reduceMul]) fun q => ?_
  have hw : IntKind.i64.wrap ((xs.length : Int) + ((0 + 1 : Nat) : Int)) = ((xs.length + 1 : Nat) : Int) := by rw [wrap_small'] <;> omega
  have hw2 : IntKind.i64.wrap (((xs.length + 1 : Nat) : Int) - (i : Int)) = ((xs.length + 1 - i : Nat) : Int) := by rw [wrap_small'] <;> omega
  have hw3 : IntKind.i64.wrap ((i : Int) + ((0 + 1 : Nat) : Int)) = ((i + 1 : Nat) : Int) := by rw [wrap_small'] <;> omega
  refine V.execS [10, 14] 400 ?_
  simp (config := {contextual := true}) only [go_sem, ↓reduceIte, reduceCtorEq, Bool.false_eq_true, Bool.true_eq_false, Nat.reduceAdd, Nat.reduceLT, Nat.reduceEqDiff, Nat.reduceLeDiff, Nat.reduceSub, Nat.reduceMul, Try.f53, hy, hw, hw2, hw3]
  refine ⟨⟨hi, by omega⟩, fun h => absurd h (by omega), fun _ => ⟨fun he => ?_, fun hne => ⟨by omega, fun hlt => ⟨⟨by omega, by omega⟩, ⟨by omega, by omega, by omega, by omega, by omega⟩, ?_⟩, fun hge => ⟨by omega, ?_⟩⟩⟩⟩
  · -- at the end
    have hin : i = xs.length := by omega
    subst hin
    have e1 : xs.take xs.length ++ [y] ++ xs.drop xs.length = xs ++ [y] := by simp
    rw [e1]
    refine ⟨fun hr => ⟨by omega, ?_, ?_⟩, fun hr => ⟨⟨by omega, by omega, by omega, by omega⟩, by rw [List.take_length]⟩⟩
    · rw [over_length (by omega)]; simp
    · have e2 : over xs [y] (0 + xs.length) = xs ++ [y] := by simp [over]
      rw [e2, List.take_of_length_le (by simp)]
  · -- no room: a new row
    have hin : i < xs.length := by omega
    have hYl : (List.take (i - 0) xs ++ List.replicate (xs.length + 1 - i) (PV.agg [.str [], .str []])).length = xs.length + 1 := by
      simp; omega
    have hYt : (List.take (i - 0) xs ++ List.replicate (xs.length + 1 - i) (PV.agg [.str [], .str []])).take i = xs.take i := by
      rw [Nat.sub_zero, List.take_append_of_le_length (by simp; omega), List.take_take, Nat.min_self]
    generalize List.take (i - 0) xs ++ List.replicate (xs.length + 1 - i) (PV.agg [.str [], .str []]) = Y at *
    refine V.opn 32 2 73 Y (by simp only [go_sem, ↓reduceIte, reduceCtorEq, Bool.false_eq_true, Bool.true_eq_false, Nat.reduceAdd, Nat.reduceLT, Nat.reduceEqDiff, Nat.reduceLeDiff, Nat.reduceSub, Nat.reduceMul]) (by simp only [go_sem, ↓reduceIte, reduceCtorEq, Bool.false_eq_true, Bool.true_eq_false, Nat.reduceAdd, Nat.reduceLT, Nat.reduceEqDiff, Nat.reduceLeDiff, Nat.reduceSub, Nat.reduceMul]) fun q2 => ?_
    refine V.exec 400 ?_
    have m1 : min 1 (Y.length - i) = 1 := by omega
    have m2 : min (xs.length - i) (Y.length - (i + 1)) = xs.length - i := by omega
    simp (config := {contextual := true}) only [go_sem, ↓reduceIte, reduceCtorEq, Bool.false_eq_true, Bool.true_eq_false, Nat.reduceAdd, Nat.reduceLT, Nat.reduceEqDiff, Nat.reduceLeDiff, Nat.reduceSub, Nat.reduceMul, hy, hw, hw2, hw3, Nat.zero_add, Nat.sub_zero, m1, m2]
    have hol : (over Y [y] i).length = Y.length := by rw [over_length (by omega)]; simp; omega
    have hdl : (List.take (xs.length - i) (List.drop i xs)).length = xs.length - i := by simp
    simp only [hol, hdl]
    refine ⟨⟨by omega, by omega⟩, ⟨by omega, by omega⟩, ⟨by omega, by omega⟩, ⟨by omega, by omega⟩, ⟨by omega, by omega, by omega⟩, by kernel_rfl, ?_⟩
    have hd : List.take (xs.length - i) (List.take (xs.length - i) (List.drop i xs)) = xs.drop i := by rw [List.take_of_length_le (by simp), List.take_of_length_le (by simp)]
    rw [hd, ins_grow xs [y] i Y rfl hin hYl hYt]
    exact ⟨by simp; omega, (List.take_of_length_le (by simp; omega)).symm⟩
  · -- there is room
    refine V.exec 400 ?_
    simp (config := {contextual := true}) only [go_sem, ↓reduceIte, reduceCtorEq, Bool.false_eq_true, Bool.true_eq_false, Nat.reduceAdd, Nat.reduceLT, Nat.reduceEqDiff, Nat.reduceLeDiff, Nat.reduceSub, Nat.reduceMul, hy, hw, hw2, hw3, Nat.zero_add, Nat.sub_zero]
    refine ⟨⟨by omega, by omega⟩, ?_⟩
    refine V.ovl (f := 80) (zs := [y]) (id := 0) (sz := 2) (l := i + 1) (len := xs.length + 1 - (i + 1)) (xs := xs) (q := q) (e := 73) (tS := 26) (tR := 4) rfl rfl (by simp [dOK]) (by simp only [go_sem, ↓reduceIte, reduceCtorEq, Bool.false_eq_true, Bool.true_eq_false, Nat.reduceAdd, Nat.reduceLT, Nat.reduceEqDiff, Nat.reduceLeDiff, Nat.reduceSub, Nat.reduceMul]) rfl rfl rfl (by kernel_rfl) (by kernel_rfl) (by simp only [go_sem, ↓reduceIte, reduceCtorEq, Bool.false_eq_true, Bool.true_eq_false, Nat.reduceAdd, Nat.reduceLT, Nat.reduceEqDiff, Nat.reduceLeDiff, Nat.reduceSub, Nat.reduceMul]) (by simp only [go_sem, ↓reduceIte, reduceCtorEq, Bool.false_eq_true, Bool.true_eq_false, Nat.reduceAdd, Nat.reduceLT, Nat.reduceEqDiff, Nat.reduceLeDiff, Nat.reduceSub, Nat.reduceMul]) (by simp only [go_sem, ↓reduceIte, reduceCtorEq, Bool.false_eq_true, Bool.true_eq_false, Nat.reduceAdd, Nat.reduceLT, Nat.reduceEqDiff, Nat.reduceLeDiff, Nat.reduceSub, Nat.reduceMul]) (by simp only [go_sem, ↓reduceIte, reduceCtorEq, Bool.false_eq_true, Bool.true_eq_false, Nat.reduceAdd, Nat.reduceLT, Nat.reduceEqDiff, Nat.reduceLeDiff, Nat.reduceSub, Nat.reduceMul]) (by simp only [go_sem, ↓reduceIte, reduceCtorEq, Bool.false_eq_true, Bool.true_eq_false, Nat.reduceAdd, Nat.reduceLT, Nat.reduceEqDiff, Nat.reduceLeDiff, Nat.reduceSub, Nat.reduceMul]) (by omega) ?_
    refine V.exec 400 ?_
    have hin : i < xs.length := by omega
    have m3 : min (xs.length + 1 - i) (xs.length + 1 - (i + 1)) = xs.length - i := by omega
    have m4 : min 1 (xs.length + 1 - i) = 1 := by omega
    have hd2 : List.take (xs.length - i) (List.take (xs.length + 1 - i) (List.drop i xs)) = xs.drop i := by rw [List.take_take, List.take_of_length_le (by simp; omega)]
    have hd3 : (List.take (xs.length + 1 - i) (List.drop i xs)).length = xs.length - i := by simp; omega
    have hol : (over xs (xs.drop i) (i + 1)).length = xs.length + 1 := by rw [over_length (by omega), List.length_drop]; omega
    have hol2 : (over (over xs (xs.drop i) (i + 1)) [y] i).length = xs.length + 1 := by rw [over_length (by omega), hol]; simp; omega
    simp (config := {contextual := true}) only [go_sem, ↓reduceIte, reduceCtorEq, Bool.false_eq_true, Bool.true_eq_false, Nat.reduceAdd, Nat.reduceLT, Nat.reduceEqDiff, Nat.reduceLeDiff, Nat.reduceSub, Nat.reduceMul, hy, hw, hw2, hw3, Nat.zero_add, Nat.sub_zero, m3, m4, hd2, hd3, hol, hol2]
    refine ⟨⟨by omega, by omega⟩, ⟨by omega, by omega⟩, ⟨by omega, by omega, by omega⟩, by kernel_rfl, ⟨by omega, by omega⟩, ⟨by omega, by omega⟩, by omega, ?_⟩
    rw [ins_room xs [y] i rfl hin]
    exact (List.take_of_length_le (by simp; omega)).symm
set_option maxHeartbeats 4000000 in
theorem BSearchPair_any (xs : List PV) (t : PV) (g : FuncId) (caps : List PV) (c : PV → Int) (h1 : ∀ x ∈ xs, x.cells.length = 2 ∧ x.isAgg = true) (hl : xs.length ≤ 1000000) (hg : Entered Try.prog g)
    (hp : ∀ x ∈ xs, Ct Try.prog g (YtjhjnphcdpjnbaaVm.ops ([x, t] ++ caps)) (.vals [.int .i64 (c x)])) :
    Ct Try.prog 75 (YtjhjnphcdpjnbaaVm.ops [.row xs, t, .fn g caps]) (.vals [.int .i64 (bsI (cAt c xs) 0 xs.length : Nat), .bool (decide (∃ x, xs[bsI (cAt c xs) 0 xs.length]? = some x ∧ c x = 0))]) := by
  generalize hR : bsI (cAt c xs) 0 xs.length = r
  refine Ct.of_V Try.func75 rfl (by simp [YtjhjnphcdpjnbaaVm.ops, Try.f75]) ?_
  refine V.exec 400 ?_
  simp (config := {contextual := true}) only [go_sem, ↓reduceIte, reduceCtorEq, Bool.false_eq_true, Bool.true_eq_false, Nat.reduceAdd, Nat.reduceLT, Nat.reduceEqDiff, Nat.reduceLeDiff, Nat.reduceSub, Nat.reduceMul, Try.f75]
  refine V.loop (fun m ls os => ∃ (i j : Nat), i ≤ j ∧ j ≤ xs.length ∧ m = j - i ∧ bsI (cAt c xs) i j = r ∧
        ls = [(0, .val (.row xs)), (1, .val t), (2, .val (.fn g caps)), (8, .val (.int .i64 xs.length)), (9, .val (.int .i64 i)), (10, .val (.int .i64 j))] ∧ os = []) 0 xs.length
      [(0, .val (.row xs)), (1, .val t), (2, .val (.fn g caps)), (8, .val (.int .i64 xs.length)), (9, .val (.int .i64 0)), (10, .val (.int .i64 xs.length))] [] []
      ⟨0, xs.length, Nat.zero_le _, Nat.le_refl _, rfl, hR, rfl, rfl⟩ (by simp only [go_sem, ↓reduceIte, reduceCtorEq, Bool.false_eq_true, Bool.true_eq_false, Nat.reduceAdd, Nat.reduceLT, Nat.reduceEqDiff, Nat.reduceLeDiff, Nat.reduceSub, Nat.reduceMul]) ?_
  rintro m ls os ⟨i, j, hij, hjl, rfl, hr, rfl, rfl⟩
  refine V.exec 400 ?_
  by_cases hlt : i < j
  · have hlt' : (i : Int) < (j : Int) := by omega
    have hm : (i + j) / 2 < xs.length := by omega
    obtain ⟨x, hx⟩ : ∃ x, xs[(i + j) / 2]? = some x := ⟨_, List.getElem?_eq_getElem hm⟩
    have hxm : x ∈ xs := List.mem_of_getElem? hx
    obtain ⟨hxc, hxa⟩ := h1 x hxm
    have hca : cAt c xs ((i + j) / 2) = c x := by simp [cAt, hx]
    rw [bsI, dif_pos hlt, hca] at hr
    have hw1 : IntKind.i64.wrap ((i : Int) + (j : Int)) = ((i + j : Nat) : Int) := by rw [wrap_small2] <;> omega
    have hw2 : IntKind.u64.wrap ((i + j : Nat) : Int) = ((i + j : Nat) : Int) := by rw [wrap_u2] <;> omega
    have hw3 : ((i + j : Nat) : Int) / 2 = (((i + j) / 2 : Nat) : Int) := by omega
    have hw4 : IntKind.i64.wrap (((i + j) / 2 : Nat) : Int) = (((i + j) / 2 : Nat) : Int) := by rw [wrap_small2] <;> omega
    have hw5 : IntKind.i64.wrap ((((i + j) / 2 : Nat) : Int) + 1) = (((i + j) / 2 + 1 : Nat) : Int) := by rw [wrap_small2] <;> omega
    simp (config := {contextual := true}) only [go_sem, ↓reduceIte, reduceCtorEq, Bool.false_eq_true, Bool.true_eq_false, Nat.reduceAdd, Nat.reduceLT, Nat.reduceEqDiff, Nat.reduceLeDiff, Nat.reduceSub, Nat.reduceMul, hlt', hw1, hw2, hw3, hw4, hx, hxc, hxa]
    refine V.call rfl rfl (by simp [dOK]) ⟨g, caps, by simp only [go_sem, ↓reduceIte, reduceCtorEq, Bool.false_eq_true, Bool.true_eq_false, Nat.reduceAdd, Nat.reduceLT, Nat.reduceEqDiff, Nat.reduceLeDiff, Nat.reduceSub, Nat.reduceMul], hg, .inl ⟨[x, t], _, .inl (by simp only [go_sem, ↓reduceIte, reduceCtorEq, Bool.false_eq_true, Bool.true_eq_false, Nat.reduceAdd, Nat.reduceLT, Nat.reduceEqDiff, Nat.reduceLeDiff, Nat.reduceSub, Nat.reduceMul]), hp x hxm, .inl ⟨_, rfl, rfl, rfl, rfl⟩⟩⟩ ?_
    refine V.exec 400 ?_
    simp (config := {contextual := true}) only [go_sem, ↓reduceIte, reduceCtorEq, Bool.false_eq_true, Bool.true_eq_false, Nat.reduceAdd, Nat.reduceLT, Nat.reduceEqDiff, Nat.reduceLeDiff, Nat.reduceSub, Nat.reduceMul, hw5]
    constructor
    · intro hc
      rw [if_pos hc] at hr
      exact ⟨j - ((i + j) / 2 + 1), _, [], [], by omega, ⟨(i + j) / 2 + 1, j, by omega, hjl, rfl, hr, rfl, rfl⟩, by simp only [go_sem, ↓reduceIte, reduceCtorEq, Bool.false_eq_true, Bool.true_eq_false, Nat.reduceAdd, Nat.reduceLT, Nat.reduceEqDiff, Nat.reduceLeDiff, Nat.reduceSub, Nat.reduceMul]⟩
    · intro hc
      rw [if_neg hc] at hr
      exact ⟨(i + j) / 2 - i, _, [], [], by omega, ⟨i, (i + j) / 2, by omega, by omega, rfl, hr, rfl, rfl⟩, by simp only [go_sem, ↓reduceIte, reduceCtorEq, Bool.false_eq_true, Bool.true_eq_false, Nat.reduceAdd, Nat.reduceLT, Nat.reduceEqDiff, Nat.reduceLeDiff, Nat.reduceSub, Nat.reduceMul]⟩
  · have hlt' : ¬ (i : Int) < (j : Int) := by omega
    rw [bsI, dif_neg hlt] at hr
    subst hr
    by_cases hil : i < xs.length
    · have hil' : (i : Int) < (xs.length : Int) := by omega
      obtain ⟨x, hx⟩ : ∃ x, xs[i]? = some x := ⟨_, List.getElem?_eq_getElem hil⟩
      have hxm : x ∈ xs := List.mem_of_getElem? hx
      obtain ⟨hxc, hxa⟩ := h1 x hxm
      simp (config := {contextual := true}) only [go_sem, ↓reduceIte, reduceCtorEq, Bool.false_eq_true, Bool.true_eq_false, Nat.reduceAdd, Nat.reduceLT, Nat.reduceEqDiff, Nat.reduceLeDiff, Nat.reduceSub, Nat.reduceMul, hlt', hil', hx, hxc, hxa]
      refine V.call rfl rfl (by simp [dOK]) ⟨g, caps, by simp only [go_sem, ↓reduceIte, reduceCtorEq, Bool.false_eq_true, Bool.true_eq_false, Nat.reduceAdd, Nat.reduceLT, Nat.reduceEqDiff, Nat.reduceLeDiff, Nat.reduceSub, Nat.reduceMul], hg, .inl ⟨[x, t], _, .inl (by simp only [go_sem, ↓reduceIte, reduceCtorEq, Bool.false_eq_true, Bool.true_eq_false, Nat.reduceAdd, Nat.reduceLT, Nat.reduceEqDiff, Nat.reduceLeDiff, Nat.reduceSub, Nat.reduceMul]), hp x hxm, .inl ⟨_, rfl, rfl, rfl, rfl⟩⟩⟩ ?_
      refine V.exec 400 ?_
      simp (config := {contextual := true}) only [go_sem, ↓reduceIte, reduceCtorEq, Bool.false_eq_true, Bool.true_eq_false, Nat.reduceAdd, Nat.reduceLT, Nat.reduceEqDiff, Nat.reduceLeDiff, Nat.reduceSub, Nat.reduceMul, hx]
      simp [hx]
    · have hil' : ¬ (i : Int) < (xs.length : Int) := by omega
      simp (config := {contextual := true}) only [go_sem, ↓reduceIte, reduceCtorEq, Bool.false_eq_true, Bool.true_eq_false, Nat.reduceAdd, Nat.reduceLT, Nat.reduceEqDiff, Nat.reduceLeDiff, Nat.reduceSub, Nat.reduceMul, hlt', hil']
      have : xs[i]? = none := List.getElem?_eq_none (by omega)
      simp [this]

theorem BSearchPair (xs : List PV) (t : PV) (g : FuncId) (caps : List PV) (c : PV → Int) (h1 : ∀ x ∈ xs, x.cells.length = 2 ∧ x.isAgg = true) (hl : xs.length ≤ 1000000) (hg : Entered Try.prog g)
    (hp : ∀ x ∈ xs, Ct Try.prog g (YtjhjnphcdpjnbaaVm.ops ([x, t] ++ caps)) (.vals [.int .i64 (c x)])) (r : Nat) (hr : r ≤ xs.length) (hr1 : ∀ i x, i < r → xs[i]? = some x → c x < 0) (hr2 : ∀ i x, r ≤ i → xs[i]? = some x → ¬ c x < 0) :
    Ct Try.prog 75 (YtjhjnphcdpjnbaaVm.ops [.row xs, t, .fn g caps]) (.vals [.int .i64 r, .bool (decide (∃ x, xs[r]? = some x ∧ c x = 0))]) := by
  have h := BSearchPair_any xs t g caps c h1 hl hg hp
  have e : bsI (cAt c xs) 0 xs.length = r := bsI_eq (cAt c xs) 0 xs.length r (Nat.zero_le _) hr (fun m _ hm => by
      obtain ⟨x, hx⟩ : ∃ x, xs[m]? = some x := ⟨_, List.getElem?_eq_getElem (by omega)⟩
      have := hr1 m x hm hx
      simpa [cAt, hx] using this) (fun m hm hm2 => by
      obtain ⟨x, hx⟩ : ∃ x, xs[m]? = some x := ⟨_, List.getElem?_eq_getElem hm2⟩
      have := hr2 m x hm hx
      simpa [cAt, hx] using this)
  rw [e] at h
  exact h
end Go.Proofs.Ytjhjnphcdpjnbaa
set_option linter.unusedVariables false
set_option linter.unusedSimpArgs false
namespace Go.Proofs.Ytjhjnphcdpjnbaa
open Go Go.Proofs Go.Proofs.YtjhjnphcdpjnbaaVm Go.Proofs.Ytjhjnphcdpjnbaa.Ty

set_option maxHeartbeats 2000000 in
theorem IndexFuncNote (xs : List PV) (g : FuncId) (caps : List PV) (p : PV → Bool) (h1 : ∀ x ∈ xs, x.cells.length = 4 ∧ x.isAgg = true) (hl : xs.length ≤ 1000000) (hg : Entered Try.prog g)
    (hp : ∀ x ∈ xs, Ct Try.prog g (YtjhjnphcdpjnbaaVm.ops ([x] ++ caps)) (.vals [.bool (decide (p x = true))])) (r : Nat) (hr : r ≤ xs.length) (hr1 : ∀ x ∈ xs.take r, p x = false) (hr2 : ∀ x, xs[r]? = some x → p x = true) :
    Ct Try.prog 74 (YtjhjnphcdpjnbaaVm.ops [.row xs, .fn g caps]) (.vals [.int .i64 (if r < xs.length then (r : Int) else -1)]) := by
  refine Ct.of_V Try.func74 rfl (by simp [YtjhjnphcdpjnbaaVm.ops, Try.f74]) ?_
  refine V.exec 400 ?_
  simp (config := {contextual := true}) only [go_sem, ↓reduceIte, reduceCtorEq, Bool.false_eq_true, Bool.true_eq_false, Nat.reduceAdd, Nat.reduceLT, Nat.reduceEqDiff, Nat.reduceLeDiff, Nat.reduceSub, Nat.reduceMul, Try.f74]
  refine V.loop (fun m ls os => ∃ i : Nat, i ≤ r ∧ m = xs.length - i ∧
        ls = [(0, .val (.row xs)), (1, .val (.fn g caps)), (7, .val (.int .i64 xs.length)), (8, .val (.int .i64 i))] ∧ os = []) 0 xs.length [(0, .val (.row xs)), (1, .val (.fn g caps)), (7, .val (.int .i64 xs.length)), (8, .val (.int .i64 0))] [] []
      ⟨0, Nat.zero_le _, rfl, rfl, rfl⟩ (by simp only [go_sem, ↓reduceIte, reduceCtorEq, Bool.false_eq_true, Bool.true_eq_false, Nat.reduceAdd, Nat.reduceLT, Nat.reduceEqDiff, Nat.reduceLeDiff, Nat.reduceSub, Nat.reduceMul]) ?_
  rintro m ls os ⟨i, hi, rfl, rfl, rfl⟩
  refine V.exec 400 ?_
  by_cases hlt : i < xs.length
  · have hlt' : (i : Int) < (xs.length : Int) := by omega
    obtain ⟨x, hx⟩ : ∃ x, xs[i]? = some x := ⟨_, List.getElem?_eq_getElem hlt⟩
    have hxm : x ∈ xs := List.mem_of_getElem? hx
    obtain ⟨hxc, hxa⟩ := h1 x hxm
    have hw : IntKind.i64.wrap ((i : Int) + 1) = ((i + 1 : Nat) : Int) := by rw [wrap_small] <;> omega
    simp (config := {contextual := true}) only [go_sem, ↓reduceIte, reduceCtorEq, Bool.false_eq_true, Bool.true_eq_false, Nat.reduceAdd, Nat.reduceLT, Nat.reduceEqDiff, Nat.reduceLeDiff, Nat.reduceSub, Nat.reduceMul, hlt', hx, hxc, hxa]
    refine V.call rfl rfl (by simp [dOK]) ⟨g, caps, by simp only [go_sem, ↓reduceIte, reduceCtorEq, Bool.false_eq_true, Bool.true_eq_false, Nat.reduceAdd, Nat.reduceLT, Nat.reduceEqDiff, Nat.reduceLeDiff, Nat.reduceSub, Nat.reduceMul], hg, .inl ⟨[x], _, .inl (by simp only [go_sem, ↓reduceIte, reduceCtorEq, Bool.false_eq_true, Bool.true_eq_false, Nat.reduceAdd, Nat.reduceLT, Nat.reduceEqDiff, Nat.reduceLeDiff, Nat.reduceSub, Nat.reduceMul]), hp x hxm, .inl ⟨_, rfl, rfl, rfl, rfl⟩⟩⟩ ?_
    refine V.exec 400 ?_
    simp (config := {contextual := true}) only [go_sem, ↓reduceIte, reduceCtorEq, Bool.false_eq_true, Bool.true_eq_false, Nat.reduceAdd, Nat.reduceLT, Nat.reduceEqDiff, Nat.reduceLeDiff, Nat.reduceSub, Nat.reduceMul, hw]
    constructor
    · intro hpx
      have hir : i = r := by
        rcases Nat.lt_or_ge i r with h | h
        · have := hr1 x (List.mem_of_getElem? (i := i) (by rw [List.getElem?_take_of_lt h]; exact hx))
          rw [this] at hpx; cases hpx
        · omega
      subst hir
      rw [if_pos hlt]
    · intro hpx
      have hir : i < r := by
        rcases Nat.lt_or_ge i r with h | h
        · exact h
        · have : i = r := by omega
          subst this
          exact absurd (hr2 x hx) hpx
      exact ⟨xs.length - (i + 1), _, [], [], by omega, ⟨i + 1, by omega, rfl, rfl, rfl⟩, by simp only [go_sem, ↓reduceIte, reduceCtorEq, Bool.false_eq_true, Bool.true_eq_false, Nat.reduceAdd, Nat.reduceLT, Nat.reduceEqDiff, Nat.reduceLeDiff, Nat.reduceSub, Nat.reduceMul]⟩
  · have hlt' : ¬ (i : Int) < (xs.length : Int) := by omega
    simp (config := {contextual := true}) only [go_sem, ↓reduceIte, reduceCtorEq, Bool.false_eq_true, Bool.true_eq_false, Nat.reduceAdd, Nat.reduceLT, Nat.reduceEqDiff, Nat.reduceLeDiff, Nat.reduceSub, Nat.reduceMul, hlt']
    rw [if_neg (by omega)]
end Go.Proofs.Ytjhjnphcdpjnbaa
set_option linter.unusedVariables false
set_option linter.unusedSimpArgs false
namespace Go.Proofs.Ytjhjnphcdpjnbaa
open Go Go.Proofs Go.Proofs.YtjhjnphcdpjnbaaVm Go.Proofs.Ytjhjnphcdpjnbaa.Ty

set_option maxRecDepth 20000 in
set_option maxHeartbeats 4000000 in
theorem DeletePair (xs : List PV) (i : Nat) (h1 : ∀ x ∈ xs, x.cells.length = 2) (hi : i < xs.length) (hl : xs.length ≤ 1000000) :
    Ct Try.prog 52 (.o 73 xs :: YtjhjnphcdpjnbaaVm.ops [.int .i64 i, .int .i64 (i + 1 : Nat)]) (.own 73 (xs.take i ++ xs.drop (i + 1))) := by
  refine Ct.of_V Try.func52 rfl (by simp [YtjhjnphcdpjnbaaVm.ops, Try.f52]) ?_
  refine V.opn 0 2 73 xs rfl (by simp only [go_sem, ↓reduceIte, reduceCtorEq, Bool.false_eq_true, Bool.true_eq_false, Nat.reduceAdd, Nat.reduceLT, Nat.reduceEqDiff, Nat.reduceLeDiff, Nat.reduceSub, Nat.reduceMul]) fun q => ?_
  have h0 : ¬ i = i + 1 := by omega
  refine V.execS [5] 400 ?_
  simp (config := {contextual := true}) only [go_sem, ↓reduceIte, reduceCtorEq, Bool.false_eq_true, Bool.true_eq_false, Nat.reduceAdd, Nat.reduceLT, Nat.reduceEqDiff, Nat.reduceLeDiff, Nat.reduceSub, Nat.reduceMul, Try.f52]
  refine ⟨⟨by omega, by omega, by omega⟩, fun h => absurd h (by omega), fun _ => ?_⟩
  refine V.exec 400 ?_
  have hc : i + (xs.length - (i + 1)) ≤ xs.length + q := by omega
  have hd : (List.take (xs.length - (i + 1)) (List.drop (i + 1) xs)).length = xs.length - (i + 1) := by simp
  simp only [go_sem, ↓reduceIte, reduceCtorEq, Bool.false_eq_true, Bool.true_eq_false, Nat.reduceAdd, Nat.reduceLT, Nat.reduceEqDiff, Nat.reduceLeDiff, Nat.reduceSub, Nat.reduceMul, Nat.zero_add, Nat.sub_zero, hc, hd, forall_const, not_true_eq_false]
  have hD : List.take (xs.length - (i + 1)) (List.drop (i + 1) xs) = List.drop (i + 1) xs := List.take_of_length_le (by simp)
  rw [hD] at hd ⊢
  have hL : (over xs (List.drop (i + 1) xs) i).length = xs.length := by rw [over_length (by omega)]; omega
  have hL2 : (over (over xs (List.drop (i + 1) xs) i) (List.replicate (xs.length - (i + (xs.length - (i + 1)))) (PV.agg [PV.str [], PV.str []])) (i + (xs.length - (i + 1)))).length = xs.length := by
    rw [over_length (by omega), hL, List.length_replicate]; omega
  rw [hL, hL2]
  refine ⟨⟨by omega, by omega⟩, ⟨by omega, by omega⟩, by omega, by kernel_rfl, ⟨by omega, by omega⟩, ⟨by omega, by omega⟩, by omega, ?_⟩
  have e1 : over xs (List.drop (i + 1) xs) i = (xs.take i ++ xs.drop (i + 1)) ++ xs.drop (i + (xs.length - (i + 1))) := by rw [over, hd]
  have hlen : (xs.take i ++ xs.drop (i + 1)).length = i + (xs.length - (i + 1)) := by simp; omega
  rw [over, List.append_assoc, List.take_append_of_le_length (by rw [List.length_take, hL]; omega), List.take_take, Nat.min_self, e1, List.take_append_of_le_length (by omega)]
  exact (List.take_of_length_le (by omega)).symm
end Go.Proofs.Ytjhjnphcdpjnbaa
set_option linter.unusedVariables false
set_option linter.unusedSimpArgs false
namespace Go.Proofs.Ytjhjnphcdpjnbaa
open Go Go.Proofs Go.Proofs.YtjhjnphcdpjnbaaVm Go.Proofs.Ytjhjnphcdpjnbaa.Ty

structure Note where
  kind : Int
  key : List UInt8
  value : List UInt8
  n : Int
  deriving DecidableEq
def Note.pv (x : Note) : PV := .agg [.int .i64 x.kind, .str x.key, .str x.value, .int .u64 x.n]
/-- Is it a note? -/
def Note.ok (x : Note) : Prop := x.key.length ≤ 16 ∧ x.value.length ≤ 32 ∧ ((x.kind = 1 ∧ x.n = 0) ∨ (x.kind = 2 ∧ x.n = 0 ∧ x.value = []) ∨ (x.kind = 3 ∧ x.value = []))
instance Note.instOk (x : Note) : Decidable x.ok := by unfold Note.ok; infer_instance

set_option maxHeartbeats 4000000 in
theorem note_Right (x : Note) : Ct Try.prog 49 (YtjhjnphcdpjnbaaVm.ops [x.pv]) (.vals [.bool (decide x.ok)]) := by
  refine Ct.of_V Try.func49 rfl (by simp [YtjhjnphcdpjnbaaVm.ops, Try.f49]) ?_
  refine V.exec 400 ?_
  simp (config := {contextual := true}) only [go_sem, ↓reduceIte, reduceCtorEq, Bool.false_eq_true, Bool.true_eq_false, Nat.reduceAdd, Nat.reduceLT, Nat.reduceEqDiff, Nat.reduceLeDiff, Nat.reduceSub, Nat.reduceMul, Try.f49, Note.pv]
  simp only [Option.some.injEq, List.cons.injEq, PV.bool.injEq, and_true]
  (repeat' (first | (intro _) | (refine ⟨by kernel_rfl, ?_⟩) | (apply And.intro)))
  all_goals grind [Note.ok]

theorem wrap_u64 {n : Int} (h : 0 ≤ n) (h' : n < 18446744073709551616) : IntKind.u64.wrap n = n := by
  simp [IntKind.wrap, IntKind.bits, IntKind.signed]; omega
/-- Bytes, as a number. -/
def beN (l : List UInt8) : Int := l.foldl (fun n b => n * 256 + (b.toNat : Int)) 0
theorem beN_snoc (l : List UInt8) (b : UInt8) : beN (l ++ [b]) = beN l * 256 + (b.toNat : Int) := by simp [beN]
theorem beN_acc : ∀ (l : List UInt8) (a : Int), 0 ≤ a → 0 ≤ l.foldl (fun n b => n * 256 + (b.toNat : Int)) a ∧ l.foldl (fun n b => n * 256 + (b.toNat : Int)) a < (a + 1) * 256 ^ l.length
  | [], a, h => by simp; omega
  | b :: r, a, h => by
    have hb := b.toNat_lt
    obtain ⟨h1, h2⟩ := beN_acc r (a * 256 + (b.toNat : Int)) (by omega)
    refine ⟨h1, Int.lt_of_lt_of_le h2 ?_⟩
    rw [List.length_cons, Int.pow_succ, Int.mul_comm (256 ^ r.length), ← Int.mul_assoc]
    exact Int.mul_le_mul_of_nonneg_right (by omega) (Int.le_of_lt (Int.pow_pos (by decide)))
theorem beN_nonneg (l : List UInt8) : 0 ≤ beN l := (beN_acc l 0 (by decide)).1
theorem beN_lt (l : List UInt8) : beN l < 256 ^ l.length := by have := (beN_acc l 0 (by decide)).2; simpa [beN] using this
theorem or_byte {n : Int} (h0 : 0 ≤ n) (h1 : n < 72057594037927936) (b : UInt8) :
    IntKind.u64.wrap (orI .u64 (n * 256) (b.toNat : Int)) = n * 256 + (b.toNat : Int) := by
  obtain ⟨m, rfl⟩ : ∃ m : Nat, n = m := ⟨n.toNat, by omega⟩
  have hb := b.toNat_lt
  have e1 : BitVec.ofInt 64 ((m : Int) * 256) = BitVec.ofNat 64 (m * 256) := by
    rw [show (m : Int) * 256 = ((m * 256 : Nat) : Int) by omega, BitVec.ofInt_natCast]
  have e2 : BitVec.ofInt 64 (b.toNat : Int) = BitVec.ofNat 64 b.toNat := by
    rw [BitVec.ofInt_natCast]
  have e3 : (BitVec.ofNat 64 (m * 256) ||| BitVec.ofNat 64 b.toNat : BitVec 64).toNat = m * 256 + b.toNat := by
    rw [BitVec.toNat_or, BitVec.toNat_ofNat, BitVec.toNat_ofNat, Nat.mod_eq_of_lt (by omega), Nat.mod_eq_of_lt (by omega)]
    have := Nat.shiftLeft_add_eq_or_of_lt (b := b.toNat) (i := 8) (by omega) m
    rw [Nat.shiftLeft_eq] at this
    exact this.symm
  show IntKind.u64.wrap ((BitVec.ofInt 64 ((m : Int) * 256) ||| BitVec.ofInt 64 (b.toNat : Int) : BitVec 64).toNat : Int) = _
  rw [e1, e2, e3]
  have h3 : (0 : Int) ≤ ((m * 256 + b.toNat : Nat) : Int) := by omega
  have h4 : ((m * 256 + b.toNat : Nat) : Int) < 18446744073709551616 := by omega
  rw [IntKind.wrap]
  simp [IntKind.bits, IntKind.signed]
  omega
/-- A number, as so many bytes. -/
def beB (n : Int) (k : Nat) : List UInt8 := (List.range k).map fun j => UInt8.ofNat (n / 256 ^ (k - 1 - j) % 256).toNat
theorem beB_len (n : Int) (k : Nat) : (beB n k).length = k := by simp [beB]
theorem beB_succ (n : Int) (k : Nat) : beB n (k + 1) = UInt8.ofNat (n / 256 ^ k % 256).toNat :: beB n k := by
  unfold beB
  rw [List.range_succ_eq_map, List.map_cons, List.map_map]
  congr 1
  apply List.map_congr_left
  intro j hj
  have := List.mem_range.1 hj
  simp only [Function.comp]
  rw [show k + 1 - 1 - (j + 1) = k - 1 - j by omega]
end Go.Proofs.Ytjhjnphcdpjnbaa
set_option linter.unusedVariables false
set_option linter.unusedSimpArgs false
set_option maxRecDepth 8000
namespace Go.Proofs.Ytjhjnphcdpjnbaa
open Go Go.Proofs Go.Proofs.YtjhjnphcdpjnbaaVm Go.Proofs.Ytjhjnphcdpjnbaa.Ty

theorem pack_fits (n : Int) : Ct Try.prog 94 (YtjhjnphcdpjnbaaVm.ops [.int .i64 n]) (.vals [.bool (decide (1 ≤ n ∧ n ≤ 8))]) := by
  refine Ct.of_V Try.func94 rfl (by simp [YtjhjnphcdpjnbaaVm.ops, Try.f94]) ?_
  refine V.exec 400 ?_
  simp (config := {contextual := true}) only [go_sem, ↓reduceIte, reduceCtorEq, Bool.false_eq_true, Bool.true_eq_false, Nat.reduceAdd, Nat.reduceLT, Nat.reduceEqDiff, Nat.reduceLeDiff, Nat.reduceSub, Nat.reduceMul, Try.f94]
  simp only [Option.some.injEq, List.cons.injEq, PV.bool.injEq, and_true]
  grind

set_option maxHeartbeats 4000000 in
theorem pack_Take (s : List UInt8) (hl : s.length = 8) : Ct Try.prog 95 (YtjhjnphcdpjnbaaVm.ops [.str s, .int .i64 8]) (.vals [.int .u64 (beN s), .str [], .int .i64 0]) := by
  refine Ct.of_V Try.func95 rfl (by simp [YtjhjnphcdpjnbaaVm.ops, Try.f95]) ?_
  refine V.exec 400 ?_
  simp (config := {contextual := true}) only [go_sem, ↓reduceIte, reduceCtorEq, Bool.false_eq_true, Bool.true_eq_false, Nat.reduceAdd, Nat.reduceLT, Nat.reduceEqDiff, Nat.reduceLeDiff, Nat.reduceSub, Nat.reduceMul, Try.f95]
  refine V.call rfl rfl (by simp [dOK]) ⟨94, [], by simp only [go_sem, ↓reduceIte, reduceCtorEq, Bool.false_eq_true, Bool.true_eq_false, Nat.reduceAdd, Nat.reduceLT, Nat.reduceEqDiff, Nat.reduceLeDiff, Nat.reduceSub, Nat.reduceMul], ⟨_, rfl, rfl, rfl⟩, .inl ⟨[.int .i64 8], _, .inl (by simp only [go_sem, ↓reduceIte, reduceCtorEq, Bool.false_eq_true, Bool.true_eq_false, Nat.reduceAdd, Nat.reduceLT, Nat.reduceEqDiff, Nat.reduceLeDiff, Nat.reduceSub, Nat.reduceMul]), pack_fits 8, .inl ⟨_, rfl, rfl, rfl, rfl⟩⟩⟩ ?_
  refine V.exec 400 ?_
  have hd : (1 : Int) ≤ 8 ∧ (8 : Int) ≤ 8 := by decide
  have hl' : ¬ (s.length : Int) < 8 := by omega
  simp (config := {contextual := true}) only [go_sem, ↓reduceIte, reduceCtorEq, Bool.false_eq_true, Bool.true_eq_false, Nat.reduceAdd, Nat.reduceLT, Nat.reduceEqDiff, Nat.reduceLeDiff, Nat.reduceSub, Nat.reduceMul, hd, hl', and_true]
  refine V.loop (fun m ls os => ∃ (i : Nat), i ≤ 8 ∧ m = 8 - i ∧
        ls = [(0, .val (.str s)), (1, .val (.int .i64 8)), (7, .val (.int .u64 (beN (s.take i)))), (18, .val (.int .i64 8)), (19, .val (.int .i64 i))] ∧ os = []) 0 8
      [(0, .val (.str s)), (1, .val (.int .i64 8)), (7, .val (.int .u64 0)), (18, .val (.int .i64 8)), (19, .val (.int .i64 0))] [] []
      ⟨0, Nat.zero_le _, rfl, rfl, rfl⟩ (by simp only [go_sem, ↓reduceIte, reduceCtorEq, Bool.false_eq_true, Bool.true_eq_false, Nat.reduceAdd, Nat.reduceLT, Nat.reduceEqDiff, Nat.reduceLeDiff, Nat.reduceSub, Nat.reduceMul]) ?_
  rintro m ls os ⟨i, hi, rfl, rfl, rfl⟩
  refine V.exec 400 ?_
  by_cases hlt : i < 8
  · have hlt' : (i : Int) < 8 := by omega
    obtain ⟨x, hx⟩ : ∃ x, s[i]? = some x := ⟨_, List.getElem?_eq_getElem (by omega)⟩
    have hw : IntKind.i64.wrap ((i : Int) + 1) = ((i + 1 : Nat) : Int) := by rw [wrap_small3] <;> omega
    have hb0 := beN_nonneg (s.take i)
    have hb1 : beN (s.take i) < 72057594037927936 := by
      have h1 := beN_lt (s.take i)
      have h2 : (s.take i).length ≤ 7 := by simp; omega
      have h3 : ∀ k : Fin 8, (256 : Int) ^ k.val ≤ 72057594037927936 := by decide
      have := h3 ⟨(s.take i).length, by omega⟩
      exact Int.lt_of_lt_of_le h1 this
    have hsn : beN (s.take (i + 1)) = beN (s.take i) * 256 + (x.toNat : Int) := by rw [List.take_add_one, hx]; exact beN_snoc _ _
    have hsh : IntKind.u64.wrap (beN (s.take i) * 2 ^ min (Int.toNat 8) 64) = beN (s.take i) * 256 := by
      have : (2 : Int) ^ min (Int.toNat 8) 64 = 256 := by decide
      rw [this, wrap_u64] <;> omega
    have hcv : IntKind.u64.wrap (x.toNat : Int) = (x.toNat : Int) := by have := x.toNat_lt; rw [wrap_u64] <;> omega
    have hor := or_byte hb0 hb1 x
    have h8 : (0 : Int) ≤ 8 := by decide
    simp (config := {contextual := true}) only [go_sem, ↓reduceIte, reduceCtorEq, Bool.false_eq_true, Bool.true_eq_false, Nat.reduceAdd, Nat.reduceLT, Nat.reduceEqDiff, Nat.reduceLeDiff, Nat.reduceSub, Nat.reduceMul, hlt', hx, hw, hsh, hcv, hor, h8, ← hsn]
    exact ⟨8 - (i + 1), _, [], [], by omega, ⟨i + 1, by omega, rfl, rfl, rfl⟩, by simp only [go_sem, ↓reduceIte, reduceCtorEq, Bool.false_eq_true, Bool.true_eq_false, Nat.reduceAdd, Nat.reduceLT, Nat.reduceEqDiff, Nat.reduceLeDiff, Nat.reduceSub, Nat.reduceMul]⟩
  · have hlt' : ¬ (i : Int) < 8 := by omega
    obtain rfl : i = 8 := by omega
    simp (config := {contextual := true}) only [go_sem, ↓reduceIte, reduceCtorEq, Bool.false_eq_true, Bool.true_eq_false, Nat.reduceAdd, Nat.reduceLT, Nat.reduceEqDiff, Nat.reduceLeDiff, Nat.reduceSub, Nat.reduceMul, hlt']
    refine ⟨⟨by decide, by omega⟩, by kernel_rfl, ?_⟩
    rw [List.take_of_length_le (by omega), List.drop_eq_nil_of_le (by simp; omega)]

def numV (v : List UInt8) : Int := if v.length = 8 then beN v else 0
theorem note_Number (v : List UInt8) : Ct Try.prog 79 (YtjhjnphcdpjnbaaVm.ops [.str v]) (.vals [.int .u64 (numV v)]) := by
  refine Ct.of_V Try.func79 rfl (by simp [YtjhjnphcdpjnbaaVm.ops, Try.f79]) ?_
  refine V.exec 400 ?_
  simp (config := {contextual := true}) only [go_sem, ↓reduceIte, reduceCtorEq, Bool.false_eq_true, Bool.true_eq_false, Nat.reduceAdd, Nat.reduceLT, Nat.reduceEqDiff, Nat.reduceLeDiff, Nat.reduceSub, Nat.reduceMul, Try.f79]
  by_cases h : v.length = 8
  · have h' : (v.length : Int) = 8 := by omega
    simp (config := {contextual := true}) only [go_sem, ↓reduceIte, reduceCtorEq, Bool.false_eq_true, Bool.true_eq_false, Nat.reduceAdd, Nat.reduceLT, Nat.reduceEqDiff, Nat.reduceLeDiff, Nat.reduceSub, Nat.reduceMul, h', not_true_eq_false]
    refine V.call rfl rfl (by simp [dOK]) ⟨95, [], by simp only [go_sem, ↓reduceIte, reduceCtorEq, Bool.false_eq_true, Bool.true_eq_false, Nat.reduceAdd, Nat.reduceLT, Nat.reduceEqDiff, Nat.reduceLeDiff, Nat.reduceSub, Nat.reduceMul], ⟨_, rfl, rfl, rfl⟩, .inl ⟨[.str v, .int .i64 8], _, .inl (by simp only [go_sem, ↓reduceIte, reduceCtorEq, Bool.false_eq_true, Bool.true_eq_false, Nat.reduceAdd, Nat.reduceLT, Nat.reduceEqDiff, Nat.reduceLeDiff, Nat.reduceSub, Nat.reduceMul]), pack_Take v h, .inr (.inl ⟨_, rfl, rfl, rfl⟩)⟩⟩ ?_
    refine V.exec 400 ?_
    simp (config := {contextual := true}) only [go_sem, ↓reduceIte, reduceCtorEq, Bool.false_eq_true, Bool.true_eq_false, Nat.reduceAdd, Nat.reduceLT, Nat.reduceEqDiff, Nat.reduceLeDiff, Nat.reduceSub, Nat.reduceMul]
    simp [numV, h]
  · have h' : ¬ (v.length : Int) = 8 := by omega
    simp (config := {contextual := true}) only [go_sem, ↓reduceIte, reduceCtorEq, Bool.false_eq_true, Bool.true_eq_false, Nat.reduceAdd, Nat.reduceLT, Nat.reduceEqDiff, Nat.reduceLeDiff, Nat.reduceSub, Nat.reduceMul, h']
    simp [numV, h]

def numRow (n : Int) (i : Nat) : List PV := (List.range 8).map fun j => if 7 - j < i then PV.int .u8 (n / 256 ^ (7 - j) % 256) else PV.int .u8 0
theorem numRow_len (n : Int) (i : Nat) : (numRow n i).length = 8 := by simp [numRow]
theorem numRow_zero (n : Int) : numRow n 0 = List.replicate 8 (PV.int .u8 0) := by rfl
theorem numRow_set (n : Int) (i : Nat) (hi : i < 8) : (numRow n i).set (7 - i) (PV.int .u8 (n / 256 ^ i % 256)) = numRow n (i + 1) := by
  apply List.ext_getElem?
  intro j
  by_cases hj : j < 8
  · rw [List.getElem?_set]
    by_cases he : 7 - i = j
    · subst he
      have e : 7 - (7 - i) = i := by omega
      have e2 : 7 - i < 8 := by omega
      simp [numRow, e, e2, hi]
    · simp [he, numRow, hj]
      have : (7 - j < i) ↔ (7 - j < i + 1) := by omega
      simp [this]
  · rw [List.getElem?_eq_none (by simp [numRow]; omega), List.getElem?_eq_none (by simp [numRow]; omega)]
theorem bytesOf_map : ∀ (l : List Int), bytesOf (l.map (PV.int .u8)) = some (l.map fun n => UInt8.ofNat n.toNat)
  | [] => rfl
  | n :: l => by simp only [List.map_cons, bytesOf, bytesOf_map l]
theorem numRow_bytes (n : Int) : bytesOf (numRow n 8) = some (beB n 8) := by
  have e : numRow n 8 = ((List.range 8).map fun j => n / 256 ^ (7 - j) % 256).map (PV.int .u8) := by
    unfold numRow
    rw [List.map_map]
    apply List.map_congr_left
    intro j hj
    have := List.mem_range.1 hj
    rw [if_pos (by omega)]; rfl
  rw [e, bytesOf_map]
  simp [beB]

set_option maxHeartbeats 4000000 in
theorem pack_Num (n : Int) (h0 : 0 ≤ n) : Ct Try.prog 78 (YtjhjnphcdpjnbaaVm.ops [.int .u64 n, .int .i64 8]) (.vals [.str (beB n 8), .int .i64 0]) := by
  refine Ct.of_V Try.func78 rfl (by simp [YtjhjnphcdpjnbaaVm.ops, Try.f78]) ?_
  refine V.exec 400 ?_
  simp (config := {contextual := true}) only [go_sem, ↓reduceIte, reduceCtorEq, Bool.false_eq_true, Bool.true_eq_false, Nat.reduceAdd, Nat.reduceLT, Nat.reduceEqDiff, Nat.reduceLeDiff, Nat.reduceSub, Nat.reduceMul, Try.f78]
  refine V.call rfl rfl (by simp [dOK]) ⟨94, [], by simp only [go_sem, ↓reduceIte, reduceCtorEq, Bool.false_eq_true, Bool.true_eq_false, Nat.reduceAdd, Nat.reduceLT, Nat.reduceEqDiff, Nat.reduceLeDiff, Nat.reduceSub, Nat.reduceMul], ⟨_, rfl, rfl, rfl⟩, .inl ⟨[.int .i64 8], _, .inl (by simp only [go_sem, ↓reduceIte, reduceCtorEq, Bool.false_eq_true, Bool.true_eq_false, Nat.reduceAdd, Nat.reduceLT, Nat.reduceEqDiff, Nat.reduceLeDiff, Nat.reduceSub, Nat.reduceMul]), pack_fits 8, .inl ⟨_, rfl, rfl, rfl, rfl⟩⟩⟩ ?_
  refine V.exec 400 ?_
  have hd : (1 : Int) ≤ 8 ∧ (8 : Int) ≤ 8 := by decide
  have hl' : ¬ (8 : Int) < 8 := by decide
  simp (config := {contextual := true}) only [go_sem, ↓reduceIte, reduceCtorEq, Bool.false_eq_true, Bool.true_eq_false, Nat.reduceAdd, Nat.reduceLT, Nat.reduceEqDiff, Nat.reduceLeDiff, Nat.reduceSub, Nat.reduceMul, hd, hl', and_true]
  refine ⟨⟨by decide, by decide, by decide⟩, ?_⟩
  refine V.loop (fun m ls os => ∃ (i : Nat), i ≤ 8 ∧ m = 8 - i ∧
        ls = [(0, .val (.int .u64 n)), (1, .val (.int .i64 8)), (6, .ref 0), (25, .val (.int .i64 8)), (26, .val (.int .i64 i))] ∧ os = [.row 5 (numRow n i)]) 1 8
      [(0, .val (.int .u64 n)), (1, .val (.int .i64 8)), (6, .ref 0), (25, .val (.int .i64 8)), (26, .val (.int .i64 0))] [.row 5 (numRow n 0)] [some 19]
      ⟨0, Nat.zero_le _, rfl, rfl, rfl⟩ (by simp only [go_sem, ↓reduceIte, reduceCtorEq, Bool.false_eq_true, Bool.true_eq_false, Nat.reduceAdd, Nat.reduceLT, Nat.reduceEqDiff, Nat.reduceLeDiff, Nat.reduceSub, Nat.reduceMul, numRow_zero]; exact ⟨rfl, rfl⟩) ?_
  rintro m ls os ⟨i, hi, rfl, rfl, rfl⟩
  refine V.exec 400 ?_
  by_cases hlt : i < 8
  · have hlt' : (i : Int) < 8 := by omega
    have hw : IntKind.i64.wrap ((i : Int) + 1) = ((i + 1 : Nat) : Int) := by rw [wrap_small3] <;> omega
    have hw1 : IntKind.i64.wrap (8 * (i : Int)) = ((8 * i : Nat) : Int) := by rw [wrap_small3] <;> omega
    have hw2 : IntKind.i64.wrap (8 - 1) = 7 := by decide
    have hw3 : IntKind.i64.wrap (7 - (i : Int)) = ((7 - i : Nat) : Int) := by rw [wrap_small3] <;> omega
    have hsr : n / 2 ^ min (8 * i) 64 = n / 256 ^ i := by
      rw [Nat.min_eq_left (by omega), Int.pow_mul]; rfl
    have hcv : IntKind.u8.wrap (n / 256 ^ i) = n / 256 ^ i % 256 := by simp [IntKind.wrap, IntKind.bits, IntKind.signed]
    have hlen := numRow_len n i
    have hz : (numRow n i)[7 - i]? = some (PV.int .u8 0) := by
      have e : 7 - (7 - i) = i := by omega
      have e2 : 7 - i < 8 := by omega
      simp [numRow, e, e2]
    have hset := numRow_set n i hlt
    simp (config := {contextual := true}) only [go_sem, ↓reduceIte, reduceCtorEq, Bool.false_eq_true, Bool.true_eq_false, Nat.reduceAdd, Nat.reduceLT, Nat.reduceEqDiff, Nat.reduceLeDiff, Nat.reduceSub, Nat.reduceMul, hlt', hw, hw1, hw2, hw3, hsr, hcv, hlen, hz, hset]
    exact ⟨8 - (i + 1), _, _, [some 0], by omega, ⟨i + 1, by omega, rfl, rfl, rfl⟩, by simp only [go_sem, ↓reduceIte, reduceCtorEq, Bool.false_eq_true, Bool.true_eq_false, Nat.reduceAdd, Nat.reduceLT, Nat.reduceEqDiff, Nat.reduceLeDiff, Nat.reduceSub, Nat.reduceMul]⟩
  · have hlt' : ¬ (i : Int) < 8 := by omega
    obtain rfl : i = 8 := by omega
    simp (config := {contextual := true}) only [go_sem, ↓reduceIte, reduceCtorEq, Bool.false_eq_true, Bool.true_eq_false, Nat.reduceAdd, Nat.reduceLT, Nat.reduceEqDiff, Nat.reduceLeDiff, Nat.reduceSub, Nat.reduceMul, hlt', numRow_bytes]

/-- What becomes of a key by one note. -/
def doneOne (st : List UInt8 × Bool) (x : Note) : List UInt8 × Bool :=
  if x.kind = 1 then (x.value, true) else if x.kind = 2 then ([], false) else if x.kind = 3 then (beB (IntKind.u64.wrap (numV st.1 + x.n)) 8, true) else st
def doneV (v : List UInt8) (has : Bool) (l : List Note) : List UInt8 × Bool := l.foldl doneOne (if has = true then v else [], has)

theorem u64_wrap_nonneg (x : Int) : 0 ≤ IntKind.u64.wrap x := by simp [IntKind.wrap, IntKind.bits, IntKind.signed]; omega

set_option maxRecDepth 4000 in
set_option maxHeartbeats 8000000 in
theorem note_Done (v : List UInt8) (has : Bool) (l : List Note) (hl : l.length ≤ 1000000) : Ct Try.prog 51 (YtjhjnphcdpjnbaaVm.ops [.str v, .bool (decide (has = true)), .row (l.map Note.pv)])
    (.vals [.str (doneV v has l).1, .bool (decide ((doneV v has l).2 = true))]) := by
  generalize hD : doneV v has l = D
  unfold doneV at hD
  refine Ct.of_V Try.func51 rfl (by simp [YtjhjnphcdpjnbaaVm.ops, Try.f51]) ?_
  refine V.exec 400 ?_
  cases has
  all_goals simp only [Bool.false_eq_true, ↓reduceIte] at hD
  all_goals simp (config := {contextual := true}) only [go_sem, ↓reduceIte, reduceCtorEq, Bool.false_eq_true, Bool.true_eq_false, Nat.reduceAdd, Nat.reduceLT, Nat.reduceEqDiff, Nat.reduceLeDiff, Nat.reduceSub, Nat.reduceMul, Try.f51, decide_true, decide_false]
  all_goals refine V.loop (fun m ls os => ∃ (i : Nat) (u : List UInt8) (h : Bool), i ≤ l.length ∧ m = l.length - i ∧ (l.drop i).foldl doneOne (u, h) = D ∧ ls = [(0, .val (.str u)), (1, .val (.bool (decide (h = true)))), (14, .val (.row (l.map Note.pv))), (15, .val (.int .i64 l.length)), (16, .val (.int .i64 i))] ∧ os = []) 0 l.length _ _ [] ⟨0, _, _, Nat.zero_le _, rfl, hD, rfl, rfl⟩ (by simp only [go_sem, ↓reduceIte, reduceCtorEq, Bool.false_eq_true, Bool.true_eq_false, Nat.reduceAdd, Nat.reduceLT, Nat.reduceEqDiff, Nat.reduceLeDiff, Nat.reduceSub, Nat.reduceMul, decide_true, decide_false]; try rfl) ?_
  all_goals rintro m ls os ⟨i, u, h, hi, rfl, hf, rfl, rfl⟩
  all_goals refine V.exec 400 ?_
  all_goals by_cases hlt : i < l.length
  case neg => 
    have hlt' : ¬ (i : Int) < (l.length : Int) := by omega
    have hd : l.drop i = [] := List.drop_eq_nil_of_le (by omega)
    rw [hd, List.foldl_nil] at hf
    subst hf
    simp (config := {contextual := true}) only [go_sem, ↓reduceIte, reduceCtorEq, Bool.false_eq_true, Bool.true_eq_false, Nat.reduceAdd, Nat.reduceLT, Nat.reduceEqDiff, Nat.reduceLeDiff, Nat.reduceSub, Nat.reduceMul, hlt']
  case neg => 
    have hlt' : ¬ (i : Int) < (l.length : Int) := by omega
    have hd : l.drop i = [] := List.drop_eq_nil_of_le (by omega)
    rw [hd, List.foldl_nil] at hf
    subst hf
    simp (config := {contextual := true}) only [go_sem, ↓reduceIte, reduceCtorEq, Bool.false_eq_true, Bool.true_eq_false, Nat.reduceAdd, Nat.reduceLT, Nat.reduceEqDiff, Nat.reduceLeDiff, Nat.reduceSub, Nat.reduceMul, hlt']
  all_goals
    have hlt' : (i : Int) < (l.length : Int) := by omega
    obtain ⟨x, hx⟩ : ∃ x, l[i]? = some x := ⟨_, List.getElem?_eq_getElem hlt⟩
    have hw : IntKind.i64.wrap ((i : Int) + 1) = ((i + 1 : Nat) : Int) := by rw [wrap_small3] <;> omega
    rw [drop_of_get hx, List.foldl_cons] at hf
    have h21 : ¬ (2 : Int) = 1 := by decide
    have h31 : ¬ (3 : Int) = 1 := by decide
    have h32 : ¬ (3 : Int) = 2 := by decide
    by_cases h1 : x.kind = 1
    · have e : doneOne (u, h) x = (x.value, true) := by simp [doneOne, h1]
      rw [e] at hf
      simp (config := {contextual := true}) only [go_sem, ↓reduceIte, reduceCtorEq, Bool.false_eq_true, Bool.true_eq_false, Nat.reduceAdd, Nat.reduceLT, Nat.reduceEqDiff, Nat.reduceLeDiff, Nat.reduceSub, Nat.reduceMul, hlt', hx, Note.pv, hw, h1]
      exact ⟨l.length - (i + 1), _, [], [], by omega, ⟨i + 1, _, _, by omega, rfl, hf, rfl, rfl⟩, by simp only [go_sem, ↓reduceIte, reduceCtorEq, Bool.false_eq_true, Bool.true_eq_false, Nat.reduceAdd, Nat.reduceLT, Nat.reduceEqDiff, Nat.reduceLeDiff, Nat.reduceSub, Nat.reduceMul, decide_true]⟩
    · by_cases h2 : x.kind = 2
      · have e : doneOne (u, h) x = ([], false) := by simp [doneOne, h2]
        rw [e] at hf
        simp (config := {contextual := true}) only [go_sem, ↓reduceIte, reduceCtorEq, Bool.false_eq_true, Bool.true_eq_false, Nat.reduceAdd, Nat.reduceLT, Nat.reduceEqDiff, Nat.reduceLeDiff, Nat.reduceSub, Nat.reduceMul, hlt', hx, Note.pv, hw, h2, h21]
        exact ⟨l.length - (i + 1), _, [], [], by omega, ⟨i + 1, _, _, by omega, rfl, hf, rfl, rfl⟩, by simp only [go_sem, ↓reduceIte, reduceCtorEq, Bool.false_eq_true, Bool.true_eq_false, Nat.reduceAdd, Nat.reduceLT, Nat.reduceEqDiff, Nat.reduceLeDiff, Nat.reduceSub, Nat.reduceMul, decide_false]⟩
      · by_cases h3 : x.kind = 3
        · have e : doneOne (u, h) x = (beB (IntKind.u64.wrap (numV u + x.n)) 8, true) := by simp [doneOne, h3]
          rw [e] at hf
          have hn := pack_Num _ (u64_wrap_nonneg (numV u + x.n))
          simp (config := {contextual := true}) only [go_sem, ↓reduceIte, reduceCtorEq, Bool.false_eq_true, Bool.true_eq_false, Nat.reduceAdd, Nat.reduceLT, Nat.reduceEqDiff, Nat.reduceLeDiff, Nat.reduceSub, Nat.reduceMul, hlt', hx, Note.pv, hw, h3, h31, h32]
          refine DV.call [] [] (by simp only [go_sem, ↓reduceIte, reduceCtorEq, Bool.false_eq_true, Bool.true_eq_false, Nat.reduceAdd, Nat.reduceLT, Nat.reduceEqDiff, Nat.reduceLeDiff, Nat.reduceSub, Nat.reduceMul]) (by simp [dOK]) ⟨79, [], by simp only [go_sem, ↓reduceIte, reduceCtorEq, Bool.false_eq_true, Bool.true_eq_false, Nat.reduceAdd, Nat.reduceLT, Nat.reduceEqDiff, Nat.reduceLeDiff, Nat.reduceSub, Nat.reduceMul], ⟨_, rfl, rfl, rfl⟩, .inl ⟨[.str u], _, .inl (by simp only [go_sem, ↓reduceIte, reduceCtorEq, Bool.false_eq_true, Bool.true_eq_false, Nat.reduceAdd, Nat.reduceLT, Nat.reduceEqDiff, Nat.reduceLeDiff, Nat.reduceSub, Nat.reduceMul]), note_Number u, .inl ⟨_, rfl, rfl, rfl, rfl⟩⟩⟩ (by simp only [go_sem, ↓reduceIte, reduceCtorEq, Bool.false_eq_true, Bool.true_eq_false, Nat.reduceAdd, Nat.reduceLT, Nat.reduceEqDiff, Nat.reduceLeDiff, Nat.reduceSub, Nat.reduceMul]) (by simp only [go_sem, ↓reduceIte, reduceCtorEq, Bool.false_eq_true, Bool.true_eq_false, Nat.reduceAdd, Nat.reduceLT, Nat.reduceEqDiff, Nat.reduceLeDiff, Nat.reduceSub, Nat.reduceMul]) (by simp only [go_sem, ↓reduceIte, reduceCtorEq, Bool.false_eq_true, Bool.true_eq_false, Nat.reduceAdd, Nat.reduceLT, Nat.reduceEqDiff, Nat.reduceLeDiff, Nat.reduceSub, Nat.reduceMul]) (by simp) ?_
          refine DV.exec 400 ?_
          simp (config := {contextual := true}) only [go_sem, ↓reduceIte, reduceCtorEq, Bool.false_eq_true, Bool.true_eq_false, Nat.reduceAdd, Nat.reduceLT, Nat.reduceEqDiff, Nat.reduceLeDiff, Nat.reduceSub, Nat.reduceMul]
          refine DV.call [] [] (by simp only [go_sem, ↓reduceIte, reduceCtorEq, Bool.false_eq_true, Bool.true_eq_false, Nat.reduceAdd, Nat.reduceLT, Nat.reduceEqDiff, Nat.reduceLeDiff, Nat.reduceSub, Nat.reduceMul]) (by simp [dOK]) ⟨78, [], by simp only [go_sem, ↓reduceIte, reduceCtorEq, Bool.false_eq_true, Bool.true_eq_false, Nat.reduceAdd, Nat.reduceLT, Nat.reduceEqDiff, Nat.reduceLeDiff, Nat.reduceSub, Nat.reduceMul], ⟨_, rfl, rfl, rfl⟩, .inl ⟨[.int .u64 (IntKind.u64.wrap (numV u + x.n)), .int .i64 8], _, .inl (by simp only [go_sem, ↓reduceIte, reduceCtorEq, Bool.false_eq_true, Bool.true_eq_false, Nat.reduceAdd, Nat.reduceLT, Nat.reduceEqDiff, Nat.reduceLeDiff, Nat.reduceSub, Nat.reduceMul]), hn, .inr (.inl ⟨_, rfl, rfl, rfl⟩)⟩⟩ (by simp only [go_sem, ↓reduceIte, reduceCtorEq, Bool.false_eq_true, Bool.true_eq_false, Nat.reduceAdd, Nat.reduceLT, Nat.reduceEqDiff, Nat.reduceLeDiff, Nat.reduceSub, Nat.reduceMul]) (by simp only [go_sem, ↓reduceIte, reduceCtorEq, Bool.false_eq_true, Bool.true_eq_false, Nat.reduceAdd, Nat.reduceLT, Nat.reduceEqDiff, Nat.reduceLeDiff, Nat.reduceSub, Nat.reduceMul]) (by simp only [go_sem, ↓reduceIte, reduceCtorEq, Bool.false_eq_true, Bool.true_eq_false, Nat.reduceAdd, Nat.reduceLT, Nat.reduceEqDiff, Nat.reduceLeDiff, Nat.reduceSub, Nat.reduceMul]) (by simp) ?_
          refine DV.exec 400 ?_
          simp (config := {contextual := true}) only [go_sem, ↓reduceIte, reduceCtorEq, Bool.false_eq_true, Bool.true_eq_false, Nat.reduceAdd, Nat.reduceLT, Nat.reduceEqDiff, Nat.reduceLeDiff, Nat.reduceSub, Nat.reduceMul, hw]
          (repeat' (first | (intro _) | (refine ⟨by kernel_rfl, ?_⟩) | (apply And.intro)))
          exact ⟨l.length - (i + 1), _, [], [], by omega, ⟨i + 1, _, _, by omega, rfl, hf, rfl, rfl⟩, by simp only [go_sem, ↓reduceIte, reduceCtorEq, Bool.false_eq_true, Bool.true_eq_false, Nat.reduceAdd, Nat.reduceLT, Nat.reduceEqDiff, Nat.reduceLeDiff, Nat.reduceSub, Nat.reduceMul, decide_true]⟩
        · have e : doneOne (u, h) x = (u, h) := by simp [doneOne, h1, h2, h3]
          rw [e] at hf
          simp (config := {contextual := true}) only [go_sem, ↓reduceIte, reduceCtorEq, Bool.false_eq_true, Bool.true_eq_false, Nat.reduceAdd, Nat.reduceLT, Nat.reduceEqDiff, Nat.reduceLeDiff, Nat.reduceSub, Nat.reduceMul, hlt', hx, Note.pv, hw, h1, h2, h3]
          exact ⟨l.length - (i + 1), _, [], [], by omega, ⟨i + 1, _, _, by omega, rfl, hf, rfl, rfl⟩, by simp only [go_sem, ↓reduceIte, reduceCtorEq, Bool.false_eq_true, Bool.true_eq_false, Nat.reduceAdd, Nat.reduceLT, Nat.reduceEqDiff, Nat.reduceLeDiff, Nat.reduceSub, Nat.reduceMul]⟩
end Go.Proofs.Ytjhjnphcdpjnbaa
set_option linter.unusedVariables false
set_option linter.unusedSimpArgs false
set_option maxRecDepth 8000
namespace Go.Proofs.Ytjhjnphcdpjnbaa
open Go Go.Proofs Go.Proofs.YtjhjnphcdpjnbaaVm Go.Proofs.Ytjhjnphcdpjnbaa.Ty

def cmpStr (a b : List UInt8) : Int := if slt a b then -1 else if slt b a then 1 else 0
theorem isNaN_str (a : List UInt8) : Ct Try.prog 93 (YtjhjnphcdpjnbaaVm.ops [.str a]) (.vals [.bool false]) := by
  refine Ct.of_V Try.func93 rfl (by simp [YtjhjnphcdpjnbaaVm.ops, Try.f93]) ?_
  refine V.exec 400 ?_
  simp (config := {contextual := true}) only [go_sem, ↓reduceIte, reduceCtorEq, Bool.false_eq_true, Bool.true_eq_false, Nat.reduceAdd, Nat.reduceLT, Nat.reduceEqDiff, Nat.reduceLeDiff, Nat.reduceSub, Nat.reduceMul, Try.f93]
theorem Compare_str (a b : List UInt8) : Ct Try.prog 77 (YtjhjnphcdpjnbaaVm.ops [.str a, .str b]) (.vals [.int .i64 (cmpStr a b)]) := by
  refine Ct.of_V Try.func77 rfl (by simp [YtjhjnphcdpjnbaaVm.ops, Try.f77]) ?_
  refine V.exec 400 ?_
  simp (config := {contextual := true}) only [go_sem, ↓reduceIte, reduceCtorEq, Bool.false_eq_true, Bool.true_eq_false, Nat.reduceAdd, Nat.reduceLT, Nat.reduceEqDiff, Nat.reduceLeDiff, Nat.reduceSub, Nat.reduceMul, Try.f77]
  refine V.call rfl rfl (by simp [dOK]) ⟨93, [], by simp only [go_sem, ↓reduceIte, reduceCtorEq, Bool.false_eq_true, Bool.true_eq_false, Nat.reduceAdd, Nat.reduceLT, Nat.reduceEqDiff, Nat.reduceLeDiff, Nat.reduceSub, Nat.reduceMul], ⟨_, rfl, rfl, rfl⟩, .inl ⟨[.str a], _, .inl (by simp only [go_sem, ↓reduceIte, reduceCtorEq, Bool.false_eq_true, Bool.true_eq_false, Nat.reduceAdd, Nat.reduceLT, Nat.reduceEqDiff, Nat.reduceLeDiff, Nat.reduceSub, Nat.reduceMul]), isNaN_str a, .inl ⟨_, rfl, rfl, rfl, rfl⟩⟩⟩ ?_
  refine V.exec 400 ?_
  simp (config := {contextual := true}) only [go_sem, ↓reduceIte, reduceCtorEq, Bool.false_eq_true, Bool.true_eq_false, Nat.reduceAdd, Nat.reduceLT, Nat.reduceEqDiff, Nat.reduceLeDiff, Nat.reduceSub, Nat.reduceMul]
  refine V.call rfl rfl (by simp [dOK]) ⟨93, [], by simp only [go_sem, ↓reduceIte, reduceCtorEq, Bool.false_eq_true, Bool.true_eq_false, Nat.reduceAdd, Nat.reduceLT, Nat.reduceEqDiff, Nat.reduceLeDiff, Nat.reduceSub, Nat.reduceMul], ⟨_, rfl, rfl, rfl⟩, .inl ⟨[.str b], _, .inl (by simp only [go_sem, ↓reduceIte, reduceCtorEq, Bool.false_eq_true, Bool.true_eq_false, Nat.reduceAdd, Nat.reduceLT, Nat.reduceEqDiff, Nat.reduceLeDiff, Nat.reduceSub, Nat.reduceMul]), isNaN_str b, .inl ⟨_, rfl, rfl, rfl, rfl⟩⟩⟩ ?_
  refine V.exec 400 ?_
  simp (config := {contextual := true}) only [go_sem, ↓reduceIte, reduceCtorEq, Bool.false_eq_true, Bool.true_eq_false, Nat.reduceAdd, Nat.reduceLT, Nat.reduceEqDiff, Nat.reduceLeDiff, Nat.reduceSub, Nat.reduceMul]
  have e := slt_total a b
  have e2 := @slt_asymm a b
  have e3 := slt_irrefl b
  (repeat' (first | (intro _) | (refine ⟨by kernel_rfl, ?_⟩) | (apply And.intro)))
  all_goals grind [cmpStr]
theorem cmpStr_neg {a b : List UInt8} : cmpStr a b < 0 ↔ slt a b := by unfold cmpStr; split <;> (try split) <;> simp_all
theorem cmpStr_zero {a b : List UInt8} : cmpStr a b = 0 ↔ a = b := by
  have e := slt_total a b
  have e3 := slt_irrefl b
  unfold cmpStr
  constructor
  · intro h
    split at h
    · cases h
    · split at h
      · cases h
      · rcases e with e | e | e <;> first | exact e | contradiction
  · rintro rfl
    simp [e3]
theorem leaf_place1 (p : Pair) (k : List UInt8) : Ct Try.prog 76 (YtjhjnphcdpjnbaaVm.ops [p.pv, .str k]) (.vals [.int .i64 (cmpStr p.key k)]) := by
  refine Ct.of_V Try.func76 rfl (by simp [YtjhjnphcdpjnbaaVm.ops, Try.f76]) ?_
  refine V.exec 400 ?_
  simp (config := {contextual := true}) only [go_sem, ↓reduceIte, reduceCtorEq, Bool.false_eq_true, Bool.true_eq_false, Nat.reduceAdd, Nat.reduceLT, Nat.reduceEqDiff, Nat.reduceLeDiff, Nat.reduceSub, Nat.reduceMul, Try.f76, Pair.pv]
  refine V.call rfl rfl (by simp [dOK]) ⟨77, [], by simp only [go_sem, ↓reduceIte, reduceCtorEq, Bool.false_eq_true, Bool.true_eq_false, Nat.reduceAdd, Nat.reduceLT, Nat.reduceEqDiff, Nat.reduceLeDiff, Nat.reduceSub, Nat.reduceMul], ⟨_, rfl, rfl, rfl⟩, .inl ⟨[.str p.key, .str k], _, .inl (by simp only [go_sem, ↓reduceIte, reduceCtorEq, Bool.false_eq_true, Bool.true_eq_false, Nat.reduceAdd, Nat.reduceLT, Nat.reduceEqDiff, Nat.reduceLeDiff, Nat.reduceSub, Nat.reduceMul]), Compare_str p.key k, .inl ⟨_, rfl, rfl, rfl, rfl⟩⟩⟩ ?_
  refine V.exec 400 ?_
  simp (config := {contextual := true}) only [go_sem, ↓reduceIte, reduceCtorEq, Bool.false_eq_true, Bool.true_eq_false, Nat.reduceAdd, Nat.reduceLT, Nat.reduceEqDiff, Nat.reduceLeDiff, Nat.reduceSub, Nat.reduceMul]

def kOf (k : List UInt8) : PV → Int
  | .agg (.str a :: _) => cmpStr a k
  | _ => 0
/-- Where a search for a key ends. -/
def posA (l : List Pair) (k : List UInt8) : Nat := bsI (cAt (kOf k) (l.map Pair.pv)) 0 l.length
theorem posA_le (l : List Pair) (k : List UInt8) : posA l k ≤ l.length := bsI_le _ _ _ (Nat.zero_le _)

set_option maxHeartbeats 2000000 in
theorem leaf_place (l : List Pair) (k : List UInt8) (hl : l.length ≤ 1000000) :
    Ct Try.prog 50 (YtjhjnphcdpjnbaaVm.ops [.row (l.map Pair.pv), .str k]) (.vals [.int .i64 (posA l k), .bool (decide (∃ x, l[posA l k]? = some x ∧ x.key = k))]) := by
  have hb := BSearchPair_any (l.map Pair.pv) (.str k) 76 [] (kOf k) (fun x hx => by
      obtain ⟨s, _, rfl⟩ := List.mem_map.1 hx
      exact ⟨rfl, rfl⟩) (by simpa using hl) ⟨_, rfl, rfl, rfl⟩ (fun x hx => by
      obtain ⟨s, _, rfl⟩ := List.mem_map.1 hx
      exact leaf_place1 s k)
  have e0 : bsI (cAt (kOf k) (l.map Pair.pv)) 0 (l.map Pair.pv).length = posA l k := by rw [List.length_map]; rfl
  rw [e0] at hb
  have e1 : (∃ x, (l.map Pair.pv)[posA l k]? = some x ∧ kOf k x = 0) ↔ ∃ x, l[posA l k]? = some x ∧ x.key = k := by
    constructor
    · rintro ⟨x, hx, hc⟩
      rw [List.getElem?_map, Option.map_eq_some_iff] at hx
      obtain ⟨s, hs', rfl⟩ := hx
      exact ⟨s, hs', cmpStr_zero.1 hc⟩
    · rintro ⟨s, hs', hc⟩
      exact ⟨s.pv, by rw [List.getElem?_map, hs']; rfl, cmpStr_zero.2 hc⟩
  simp only [e1] at hb
  refine Ct.of_V Try.func50 rfl (by simp [YtjhjnphcdpjnbaaVm.ops, Try.f50]) ?_
  refine V.exec 400 ?_
  simp (config := {contextual := true}) only [go_sem, ↓reduceIte, reduceCtorEq, Bool.false_eq_true, Bool.true_eq_false, Nat.reduceAdd, Nat.reduceLT, Nat.reduceEqDiff, Nat.reduceLeDiff, Nat.reduceSub, Nat.reduceMul, Try.f50]
  refine V.call rfl rfl (by simp [dOK]) ⟨75, [], by simp only [go_sem, ↓reduceIte, reduceCtorEq, Bool.false_eq_true, Bool.true_eq_false, Nat.reduceAdd, Nat.reduceLT, Nat.reduceEqDiff, Nat.reduceLeDiff, Nat.reduceSub, Nat.reduceMul], ⟨_, rfl, rfl, rfl⟩, .inl ⟨[.row (l.map Pair.pv), .str k, .fn 76 []], _, .inl (by simp only [go_sem, ↓reduceIte, reduceCtorEq, Bool.false_eq_true, Bool.true_eq_false, Nat.reduceAdd, Nat.reduceLT, Nat.reduceEqDiff, Nat.reduceLeDiff, Nat.reduceSub, Nat.reduceMul]), hb, .inl ⟨_, rfl, rfl, rfl, rfl⟩⟩⟩ ?_
  refine V.exec 400 ?_
  simp (config := {contextual := true}) only [go_sem, ↓reduceIte, reduceCtorEq, Bool.false_eq_true, Bool.true_eq_false, Nat.reduceAdd, Nat.reduceLT, Nat.reduceEqDiff, Nat.reduceLeDiff, Nat.reduceSub, Nat.reduceMul]

/-- How many keys are less; who has a key. -/
def below (k : List UInt8) : List Pair → Nat
  | [] => 0
  | p :: r => if slt p.key k then below k r + 1 else 0
def getL (l : List Pair) (k : List UInt8) : Option Pair := l.find? fun p => decide (p.key = k)
theorem below_le (k : List UInt8) : ∀ l : List Pair, below k l ≤ l.length
  | [] => Nat.le_refl _
  | p :: r => by unfold below; split <;> simp; exact below_le k r
theorem below_lt {k : List UInt8} : ∀ (l : List Pair) (i : Nat) (x : Pair), i < below k l → l[i]? = some x → slt x.key k
  | p :: r, i, x, hi, hx => by
    unfold below at hi
    split at hi
    · cases i with
      | zero => simp at hx; subst hx; assumption
      | succ i => exact below_lt r i x (by omega) (by simpa using hx)
    · omega
/-- Keys that rise. -/
def rising : Option (List UInt8) → List Pair → Prop
  | _, [] => True
  | last, p :: r => (∀ k, last = some k → slt k p.key) ∧ rising (some p.key) r
theorem rising_of : ∀ (l : List Pair) (last : Option (List UInt8)), pairsFrom last l → rising last l
  | [], _, _ => trivial
  | p :: r, last, h => ⟨h.2.2.1, rising_of r _ h.2.2.2⟩
theorem rising_above : ∀ (l : List Pair) (k : List UInt8), rising (some k) l → ∀ x ∈ l, slt k x.key
  | p :: r, k, h, x, hx => by
    have h1 := h.1 k rfl
    rcases List.mem_cons.1 hx with rfl | hx
    · exact h1
    · exact slt_trans h1 (rising_above r p.key h.2 x hx)
theorem below_ge {k : List UInt8} : ∀ (l : List Pair) (last : Option (List UInt8)), rising last l → ∀ (i : Nat) (x : Pair), below k l ≤ i → l[i]? = some x → ¬ slt x.key k
  | p :: r, last, h, i, x, hi, hx => by
    unfold below at hi
    split at hi
    · cases i with
      | zero => omega
      | succ i => exact below_ge r _ h.2 i x (by omega) (by simpa using hx)
    · rename_i hn
      cases i with
      | zero => simp at hx; subst hx; exact hn
      | succ i =>
        have h2 := rising_above r p.key h.2 x (List.mem_of_getElem? (i := i) (by simpa using hx))
        intro hc
        exact hn (slt_trans h2 hc)
theorem posA_eq {l : List Pair} (h : rising none l) (k : List UInt8) : posA l k = below k l := by
  refine bsI_eq _ _ _ _ (Nat.zero_le _) (below_le k l) (fun m _ hm => ?_) (fun m hm hm2 => ?_)
  · obtain ⟨x, hx⟩ : ∃ x, l[m]? = some x := ⟨_, List.getElem?_eq_getElem (by have := below_le k l; omega)⟩
    have := below_lt l m x hm hx
    simp only [cAt, List.getElem?_map, hx, Option.map_some]
    exact cmpStr_neg.2 this
  · obtain ⟨x, hx⟩ : ∃ x, l[m]? = some x := ⟨_, List.getElem?_eq_getElem hm2⟩
    have := below_ge l none h m x hm hx
    simp only [cAt, List.getElem?_map, hx, Option.map_some]
    exact fun hc => this (cmpStr_neg.1 hc)
theorem below_find {k : List UInt8} : ∀ (l : List Pair) (last : Option (List UInt8)), rising last l → ∀ x, (l[below k l]? = some x ∧ x.key = k) ↔ getL l k = some x
  | [], _, _, x => by simp [below, getL]
  | p :: r, last, h, x => by
    unfold below getL
    by_cases hk : slt p.key k
    · have hne : ¬ p.key = k := fun e => slt_irrefl k (by rw [e] at hk; exact hk)
      rw [if_pos hk, List.find?_cons, decide_eq_false hne]
      simpa [getL] using below_find r _ h.2 x
    · rw [if_neg hk, List.find?_cons]
      by_cases he : p.key = k
      · simp [he]
        rintro rfl; exact he
      · have hr : getL r k = none := by
          unfold getL
          rw [List.find?_eq_none]
          intro y hy
          have h2 := rising_above r p.key h.2 y hy
          simp
          rintro rfl
          exact hk h2
        unfold getL at hr
        simp [he, hr]
        rintro rfl; exact he
def getV (l : List Pair) (k : List UInt8) : List UInt8 × Bool := if pairsOk l then match getL l k with | some p => (p.value, true) | none => ([], false) else ([], false)
def nextV (l : List Pair) (k : List UInt8) : Int := if pairsOk l then below k l else 0

set_option maxHeartbeats 2000000 in
theorem leaf_Get (l : List Pair) (k : List UInt8) (hl : l.length ≤ 1000000) : Ct Try.prog 82 (YtjhjnphcdpjnbaaVm.ops [.row (l.map Pair.pv), .str k]) (.vals [.str (getV l k).1, .bool (decide ((getV l k).2 = true))]) := by
  refine Ct.of_V Try.func82 rfl (by simp [YtjhjnphcdpjnbaaVm.ops, Try.f82]) ?_
  refine V.exec 400 ?_
  simp (config := {contextual := true}) only [go_sem, ↓reduceIte, reduceCtorEq, Bool.false_eq_true, Bool.true_eq_false, Nat.reduceAdd, Nat.reduceLT, Nat.reduceEqDiff, Nat.reduceLeDiff, Nat.reduceSub, Nat.reduceMul, Try.f82]
  refine V.call rfl rfl (by simp [dOK]) ⟨50, [], by simp only [go_sem, ↓reduceIte, reduceCtorEq, Bool.false_eq_true, Bool.true_eq_false, Nat.reduceAdd, Nat.reduceLT, Nat.reduceEqDiff, Nat.reduceLeDiff, Nat.reduceSub, Nat.reduceMul], ⟨_, rfl, rfl, rfl⟩, .inl ⟨[.row (l.map Pair.pv), .str k], _, .inl (by simp only [go_sem, ↓reduceIte, reduceCtorEq, Bool.false_eq_true, Bool.true_eq_false, Nat.reduceAdd, Nat.reduceLT, Nat.reduceEqDiff, Nat.reduceLeDiff, Nat.reduceSub, Nat.reduceMul]), leaf_place l k hl, .inl ⟨_, rfl, rfl, rfl, rfl⟩⟩⟩ ?_
  refine V.exec 400 ?_
  by_cases he : ∃ x, l[posA l k]? = some x ∧ x.key = k
  · obtain ⟨x, hx⟩ := he
    have he : (∃ x, l[posA l k]? = some x ∧ x.key = k) := ⟨x, hx⟩
    have hlt := (List.getElem?_eq_some_iff.1 hx.1).1
    have hlt' : ((posA l k : Nat) : Int) < (l.length : Int) := by omega
    have hE : (∃ y, some x = some y ∧ y.key = k) := ⟨x, rfl, hx.2⟩
    simp (config := {contextual := true}) only [go_sem, ↓reduceIte, reduceCtorEq, Bool.false_eq_true, Bool.true_eq_false, Nat.reduceAdd, Nat.reduceLT, Nat.reduceEqDiff, Nat.reduceLeDiff, Nat.reduceSub, Nat.reduceMul, hx.1, hE]
    refine V.call rfl rfl (by simp [dOK]) ⟨46, [], by simp only [go_sem, ↓reduceIte, reduceCtorEq, Bool.false_eq_true, Bool.true_eq_false, Nat.reduceAdd, Nat.reduceLT, Nat.reduceEqDiff, Nat.reduceLeDiff, Nat.reduceSub, Nat.reduceMul], ⟨_, rfl, rfl, rfl⟩, .inl ⟨[.row (l.map Pair.pv)], _, .inl (by simp only [go_sem, ↓reduceIte, reduceCtorEq, Bool.false_eq_true, Bool.true_eq_false, Nat.reduceAdd, Nat.reduceLT, Nat.reduceEqDiff, Nat.reduceLeDiff, Nat.reduceSub, Nat.reduceMul]), leaf_Right l hl, .inl ⟨_, rfl, rfl, rfl, rfl⟩⟩⟩ ?_
    refine V.exec 400 ?_
    by_cases hok : pairsOk l
    · have hr := rising_of l none hok
      have hp := posA_eq hr k
      have hg := (below_find l none hr x).1 (by rw [← hp]; exact hx)
      have hv : getV l k = (x.value, true) := by simp [getV, hok, hg]
      simp (config := {contextual := true}) only [go_sem, ↓reduceIte, reduceCtorEq, Bool.false_eq_true, Bool.true_eq_false, Nat.reduceAdd, Nat.reduceLT, Nat.reduceEqDiff, Nat.reduceLeDiff, Nat.reduceSub, Nat.reduceMul, hok, hx.1, hlt', hv, Pair.pv]
    · have hv : getV l k = ([], false) := by simp [getV, hok]
      simp (config := {contextual := true}) only [go_sem, ↓reduceIte, reduceCtorEq, Bool.false_eq_true, Bool.true_eq_false, Nat.reduceAdd, Nat.reduceLT, Nat.reduceEqDiff, Nat.reduceLeDiff, Nat.reduceSub, Nat.reduceMul, hok, hv]
  · have hv : getV l k = ([], false) := by
      unfold getV
      split
      · rename_i hok
        have hr := rising_of l none hok
        have hp := posA_eq hr k
        cases hg : getL l k with
        | none => rfl
        | some x => exact absurd ⟨x, by rw [hp]; exact (below_find l none hr x).2 hg⟩ he
      · rfl
    simp (config := {contextual := true}) only [go_sem, ↓reduceIte, reduceCtorEq, Bool.false_eq_true, Bool.true_eq_false, Nat.reduceAdd, Nat.reduceLT, Nat.reduceEqDiff, Nat.reduceLeDiff, Nat.reduceSub, Nat.reduceMul, he, hv]

end Go.Proofs.Ytjhjnphcdpjnbaa
set_option linter.unusedVariables false
set_option linter.unusedSimpArgs false
set_option maxRecDepth 8000
namespace Go.Proofs.Ytjhjnphcdpjnbaa
open Go Go.Proofs Go.Proofs.YtjhjnphcdpjnbaaVm

def Sorted (l : List Pair) : Prop := l.Pairwise fun a b => slt a.key b.key
def Pair.short (p : Pair) : Prop := p.key.length ≤ 16 ∧ p.value.length ≤ 32
theorem sorted_of_rising : ∀ (l : List Pair) (last : Option (List UInt8)), rising last l → Sorted l
  | [], _, _ => .nil
  | p :: r, last, h => .cons (fun x hx => rising_above r p.key h.2 x hx) (sorted_of_rising r _ h.2)
theorem rising_of_sorted : ∀ (l : List Pair) (last : Option (List UInt8)), (∀ k, last = some k → ∀ x ∈ l, slt k x.key) → Sorted l → rising last l
  | [], _, _, _ => trivial
  | p :: r, last, h, hs => by
    cases hs with
    | cons h1 h2 => exact ⟨fun k hk => h k hk p List.mem_cons_self, rising_of_sorted r _ (fun k hk x hx => by cases hk; exact h1 x hx) h2⟩
theorem rising_iff (l : List Pair) : rising none l ↔ Sorted l := ⟨sorted_of_rising l none, rising_of_sorted l none (fun k h => by cases h)⟩
theorem pairsFrom_of : ∀ (l : List Pair) (last : Option (List UInt8)), rising last l → (∀ p ∈ l, p.short) → pairsFrom last l
  | [], _, _, _ => trivial
  | p :: r, last, h, hs => ⟨(hs p List.mem_cons_self).1, (hs p List.mem_cons_self).2, h.1, pairsFrom_of r _ h.2 fun x hx => hs x (List.mem_cons_of_mem _ hx)⟩
theorem short_of : ∀ (l : List Pair) (last : Option (List UInt8)), pairsFrom last l → ∀ p ∈ l, p.short
  | p :: r, last, h, x, hx => by
    rcases List.mem_cons.1 hx with rfl | hx
    · exact ⟨h.1, h.2.1⟩
    · exact short_of r _ h.2.2.2 x hx
theorem pairsOk_iff (l : List Pair) : pairsOk l ↔ Sorted l ∧ ∀ p ∈ l, p.short :=
  ⟨fun h => ⟨(rising_iff l).1 (rising_of l none h), short_of l none h⟩, fun h => pairsFrom_of l none ((rising_iff l).2 h.1) h.2⟩

/-- The value of a key. -/
def val (l : List Pair) (k : List UInt8) : Option (List UInt8) := (getL l k).map Pair.value
theorem getL_mem {l : List Pair} {k : List UInt8} {p : Pair} (h : getL l k = some p) : p ∈ l ∧ p.key = k := by
  unfold getL at h
  exact ⟨List.mem_of_find?_eq_some h, by simpa using List.find?_some h⟩
theorem getL_of_mem {l : List Pair} (hs : Sorted l) {p : Pair} (h : p ∈ l) : getL l p.key = some p := by
  unfold getL
  induction l with
  | nil => cases h
  | cons q r ih =>
    cases hs with
    | cons h1 h2 =>
      rw [List.find?_cons]
      rcases List.mem_cons.1 h with rfl | h
      · simp
      · have := h1 p h
        have hne : ¬ q.key = p.key := fun e => slt_irrefl p.key (by rw [e] at this; exact this)
        simp [hne, ih h2 h]
theorem val_iff {l : List Pair} (hs : Sorted l) {k v : List UInt8} : val l k = some v ↔ (⟨k, v⟩ : Pair) ∈ l := by
  unfold val
  constructor
  · intro h
    rw [Option.map_eq_some_iff] at h
    obtain ⟨p, hp, rfl⟩ := h
    obtain ⟨h1, rfl⟩ := getL_mem hp
    exact h1
  · intro h
    rw [getL_of_mem hs h]; rfl
theorem sorted_ext : ∀ (a b : List Pair), Sorted a → Sorted b → (∀ p, p ∈ a ↔ p ∈ b) → a = b
  | [], [], _, _, _ => rfl
  | [], q :: b, _, _, h => absurd ((h q).2 List.mem_cons_self) (by simp)
  | p :: a, [], _, _, h => absurd ((h p).1 List.mem_cons_self) (by simp)
  | p :: a, q :: b, ha, hb, h => by
    have ha' : Sorted (p :: a) := ha
    have hb' : Sorted (q :: b) := hb
    cases ha with
    | cons a1 a2 =>
      cases hb with
      | cons b1 b2 =>
        have e : p = q := by
          rcases List.mem_cons.1 ((h p).1 List.mem_cons_self) with e | e
          · exact e
          · rcases List.mem_cons.1 ((h q).2 List.mem_cons_self) with e' | e'
            · exact e'.symm
            · exact absurd (slt_trans (b1 p e) (a1 q e')) (slt_irrefl _)
        subst e
        congr 1
        refine sorted_ext a b a2 b2 fun x => ⟨fun hx => ?_, fun hx => ?_⟩
        · rcases List.mem_cons.1 ((h x).1 (List.mem_cons_of_mem _ hx)) with rfl | e
          · exact absurd (a1 x hx) (slt_irrefl _)
          · exact e
        · rcases List.mem_cons.1 ((h x).2 (List.mem_cons_of_mem _ hx)) with rfl | e
          · exact absurd (b1 x hx) (slt_irrefl _)
          · exact e
theorem val_ext {a b : List Pair} (ha : Sorted a) (hb : Sorted b) (h : ∀ k, val a k = val b k) : a = b := by
  refine sorted_ext a b ha hb fun p => ?_
  have := h p.key
  constructor
  · intro hp
    rw [← val_iff hb, ← this, val_iff ha]; exact hp
  · intro hp
    rw [← val_iff ha, this, val_iff hb]; exact hp

def lowP (l : List Pair) (k : List UInt8) : List Pair := l.filter fun p => decide (slt p.key k)
def highP (l : List Pair) (k : List UInt8) : List Pair := l.filter fun p => decide (slt k p.key)
/-- What a note makes of a key's value. -/
def stepO (o : Option (List UInt8)) (x : Note) : Option (List UInt8) :=
  let d := match o with | some v => doneOne (v, true) x | none => doneOne ([], false) x
  if d.2 = true then some d.1 else none
def mids (l : List Pair) (x : Note) : List Pair := match stepO (val l x.key) x with
  | some v => [⟨x.key, v⟩]
  | none => []
/-- A note, done. -/
def oneV (l : List Pair) (x : Note) : List Pair := lowP l x.key ++ mids l x ++ highP l x.key
theorem low_eq {k : List UInt8} : ∀ (l : List Pair), Sorted l → lowP l k = l.take (below k l)
  | [], _ => rfl
  | p :: r, hs => by
    cases hs with
    | cons h1 h2 =>
      unfold lowP below
      by_cases hk : slt p.key k
      · rw [if_pos hk, List.filter_cons, if_pos (by simpa using hk), List.take_succ_cons, ← low_eq r h2]; rfl
      · rw [if_neg hk, List.take_zero, List.filter_eq_nil_iff]
        intro y hy
        rcases List.mem_cons.1 hy with rfl | hy
        · simpa using hk
        · have := h1 y hy
          simp
          exact fun hc => hk (slt_trans this hc)
theorem high_eq {k : List UInt8} : ∀ (l : List Pair), Sorted l → highP l k = (match getL l k with | some _ => l.drop (below k l + 1) | none => l.drop (below k l))
  | [], _ => rfl
  | p :: r, hs => by
    cases hs with
    | cons h1 h2 =>
      have ih := high_eq (k := k) r h2
      unfold highP getL at ih
      unfold highP getL below
      by_cases hk : slt p.key k
      · have hne : ¬ p.key = k := fun e => slt_irrefl k (by rw [e] at hk; exact hk)
        rw [if_pos hk, List.filter_cons, if_neg (by simpa using slt_asymm hk), List.find?_cons, decide_eq_false hne, ih]
        cases r.find? (fun p => decide (p.key = k)) <;> simp
      · by_cases he : p.key = k
        · subst he
          rw [if_neg hk, List.filter_cons, if_neg (by simpa using hk), List.find?_cons]
          simp
          intro y hy
          exact h1 y hy
        · have hgt : slt k p.key := by
            rcases slt_total p.key k with h | h | h
            · exact absurd h hk
            · exact absurd h he
            · exact h
          have hnone : (p :: r).find? (fun p => decide (p.key = k)) = none := by
            rw [List.find?_eq_none]
            intro y hy
            rcases List.mem_cons.1 hy with rfl | hy
            · simpa using he
            · have := h1 y hy
              simp
              rintro rfl
              exact slt_irrefl _ (slt_trans hgt this)
          rw [hnone, if_neg hk]
          simp only [List.drop_zero]
          rw [List.filter_eq_self]
          intro y hy
          rcases List.mem_cons.1 hy with rfl | hy
          · simpa using hgt
          · simpa using slt_trans hgt (h1 y hy)
theorem oneV_sorted {l : List Pair} (hs : Sorted l) (x : Note) : Sorted (oneV l x) := by
  unfold oneV Sorted
  have hl : ∀ a ∈ lowP l x.key, slt a.key x.key := fun a ha => by simpa using (List.mem_filter.1 ha).2
  have hh : ∀ a ∈ highP l x.key, slt x.key a.key := fun a ha => by simpa using (List.mem_filter.1 ha).2
  have hm : ∀ a ∈ mids l x, a.key = x.key := fun a ha => by
    unfold mids at ha
    split at ha
    · simp at ha; rw [ha]
    · cases ha
  have hmp : (mids l x).Pairwise (fun a b => slt a.key b.key) := by
    unfold mids
    split
    · exact List.pairwise_singleton _ _
    · exact .nil
  rw [List.pairwise_append, List.pairwise_append]
  refine ⟨⟨hs.filter _, hmp, fun a ha b hb => ?_⟩, hs.filter _, fun a ha b hb => ?_⟩
  · rw [hm b hb]; exact hl a ha
  · rcases List.mem_append.1 ha with ha | ha
    · exact slt_trans (hl a ha) (hh b hb)
    · rw [hm a ha]; exact hh b hb
theorem oneV_val {l : List Pair} (hs : Sorted l) (x : Note) (k : List UInt8) : val (oneV l x) k = if k = x.key then stepO (val l k) x else val l k := by
  have ho := oneV_sorted hs x
  have hm : mids l x = (match stepO (val l x.key) x with | some v => [(⟨x.key, v⟩ : Pair)] | none => []) := rfl
  apply Option.ext
  intro v
  rw [val_iff ho]
  unfold oneV
  rw [List.mem_append, List.mem_append, lowP, highP, List.mem_filter, List.mem_filter]
  simp only [decide_eq_true_eq]
  by_cases hk : k = x.key
  · subst hk
    rw [if_pos rfl, hm]
    have := slt_irrefl x.key
    constructor
    · rintro ((h | h) | h)
      · exact absurd h.2 this
      · split at h
        · rename_i w hw; simp at h; rw [h, hw]
        · cases h
      · exact absurd h.2 this
    · intro h
      rw [h]
      exact .inl (.inr (by simp))
  · rw [if_neg hk, val_iff hs]
    constructor
    · rintro ((h | h) | h)
      · exact h.1
      · exfalso
        rw [hm] at h
        split at h
        · simp at h; exact hk h.1
        · cases h
      · exact h.1
    · intro h
      rcases slt_total k x.key with c | c | c
      · exact .inl (.inl ⟨h, c⟩)
      · exact absurd c hk
      · exact .inr ⟨h, c⟩
def appV (l : List Pair) (ns : List Note) : List Pair := ns.foldl oneV l
theorem appV_sorted : ∀ (ns : List Note) {l : List Pair}, Sorted l → Sorted (appV l ns)
  | [], _, h => h
  | x :: r, _, h => appV_sorted r (oneV_sorted h x)
theorem oneV_len {l : List Pair} (hs : Sorted l) (x : Note) : (oneV l x).length ≤ l.length + 1 := by
  have h1 := low_eq (k := x.key) l hs
  have h2 := high_eq (k := x.key) l hs
  have hb := below_le x.key l
  have hm : (mids l x).length ≤ 1 := by
    unfold mids
    split <;> simp
  unfold oneV
  rw [h1, h2, List.length_append, List.length_append, List.length_take]
  split <;> simp <;> omega
theorem beB8 (n : Int) : (beB n 8).length ≤ 32 := by rw [beB_len]; decide
theorem oneV_short {l : List Pair} (hl : ∀ p ∈ l, p.short) {x : Note} (hx : x.ok) : ∀ p ∈ oneV l x, p.short := by
  intro p hp
  unfold oneV at hp
  rw [List.mem_append, List.mem_append] at hp
  rcases hp with (hp | hp) | hp
  · exact hl p (List.mem_filter.1 hp).1
  · have hd : ∀ st : List UInt8 × Bool, (doneOne st x).1.length ≤ 32 := fun st => by
      unfold doneOne
      have := hx.2.1
      rcases hx.2.2 with h | h | h <;> simp [h.1]
      · exact this
      · exact beB8 _
    unfold mids at hp
    split at hp
    · rename_i v hv
      simp at hp
      rw [hp]
      refine ⟨hx.1, ?_⟩
      have hv2 : v.length ≤ 32 := by
        unfold stepO at hv
        cases ho : val l x.key with
        | none =>
          rw [ho] at hv
          simp only at hv
          split at hv
          · cases hv; exact hd _
          · cases hv
        | some w =>
          rw [ho] at hv
          simp only at hv
          split at hv
          · cases hv; exact hd _
          · cases hv
      exact hv2
    · cases hp
  · exact hl p (List.mem_filter.1 hp).1
theorem oneV_ok {l : List Pair} (h : pairsOk l) {x : Note} (hx : x.ok) : pairsOk (oneV l x) := by
  rw [pairsOk_iff] at *
  exact ⟨oneV_sorted h.1 x, oneV_short h.2 hx⟩
theorem appV_ok : ∀ (ns : List Note) {l : List Pair}, pairsOk l → (∀ x ∈ ns, x.ok) → pairsOk (appV l ns)
  | [], _, h, _ => h
  | x :: r, _, h, hn => appV_ok r (oneV_ok h (hn x List.mem_cons_self)) fun y hy => hn y (List.mem_cons_of_mem _ hy)
theorem appV_len : ∀ (ns : List Note) {l : List Pair}, Sorted l → (appV l ns).length ≤ l.length + ns.length
  | [], _, _ => Nat.le_refl _
  | x :: r, l, h => by
    have h1 := appV_len r (oneV_sorted h x)
    have h2 := oneV_len h x
    show (appV (oneV l x) r).length ≤ _
    simp only [List.length_cons]
    omega
end Go.Proofs.Ytjhjnphcdpjnbaa
set_option linter.unusedVariables false
set_option linter.unusedSimpArgs false
set_option maxRecDepth 8000
namespace Go.Proofs.Ytjhjnphcdpjnbaa
open Go Go.Proofs Go.Proofs.YtjhjnphcdpjnbaaVm Go.Proofs.Ytjhjnphcdpjnbaa.Ty

theorem leaf_Apply1 (x : Note) : Ct Try.prog 48 (YtjhjnphcdpjnbaaVm.ops [x.pv]) (.vals [.bool (decide (¬ x.ok))]) := by
  refine Ct.of_V Try.func48 rfl (by simp [YtjhjnphcdpjnbaaVm.ops, Try.f48]) ?_
  refine V.exec 400 ?_
  simp (config := {contextual := true}) only [go_sem, ↓reduceIte, reduceCtorEq, Bool.false_eq_true, Bool.true_eq_false, Nat.reduceAdd, Nat.reduceLT, Nat.reduceEqDiff, Nat.reduceLeDiff, Nat.reduceSub, Nat.reduceMul, Try.f48, Note.pv]
  refine V.call rfl rfl (by simp [dOK]) ⟨49, [], by simp only [go_sem, ↓reduceIte, reduceCtorEq, Bool.false_eq_true, Bool.true_eq_false, Nat.reduceAdd, Nat.reduceLT, Nat.reduceEqDiff, Nat.reduceLeDiff, Nat.reduceSub, Nat.reduceMul], ⟨_, rfl, rfl, rfl⟩, .inl ⟨[x.pv], _, .inl (by simp only [go_sem, ↓reduceIte, reduceCtorEq, Bool.false_eq_true, Bool.true_eq_false, Nat.reduceAdd, Nat.reduceLT, Nat.reduceEqDiff, Nat.reduceLeDiff, Nat.reduceSub, Nat.reduceMul, Note.pv]), note_Right x, .inl ⟨_, rfl, rfl, rfl, rfl⟩⟩⟩ ?_
  refine V.exec 400 ?_
  simp (config := {contextual := true}) only [go_sem, ↓reduceIte, reduceCtorEq, Bool.false_eq_true, Bool.true_eq_false, Nat.reduceAdd, Nat.reduceLT, Nat.reduceEqDiff, Nat.reduceLeDiff, Nat.reduceSub, Nat.reduceMul]

def Note.of : PV → Note
  | .agg [.int _ a, .str b, .str c, .int _ d] => ⟨a, b, c, d⟩
  | _ => ⟨0, [], [], 0⟩
theorem Note.of_pv (x : Note) : Note.of x.pv = x := rfl

def notesOk (ns : List Note) : Prop := ∀ x ∈ ns, x.ok
instance instNotesOk (ns : List Note) : Decidable (notesOk ns) := by unfold notesOk; infer_instance
theorem Contains_bad (ns : List Note) (hl : ns.length ≤ 1000000) : Ct Try.prog 47 (YtjhjnphcdpjnbaaVm.ops [.row (ns.map Note.pv), .fn 48 []]) (.vals [.bool (decide (¬ notesOk ns))]) := by
  unfold notesOk
  obtain ⟨r, hr, hr1, hr2, hr3⟩ := first_of (fun y => decide (¬ (Note.of y).ok)) (ns.map Note.pv)
  have hi := IndexFuncNote (ns.map Note.pv) 48 [] (fun y => decide (¬ (Note.of y).ok)) (fun y hy => by
      obtain ⟨s, _, rfl⟩ := List.mem_map.1 hy
      exact ⟨rfl, rfl⟩) (by simpa using hl) ⟨_, rfl, rfl, rfl⟩ (fun y hy => by
      obtain ⟨s, _, rfl⟩ := List.mem_map.1 hy
      rw [Note.of_pv]
      simpa using leaf_Apply1 s) r hr hr1 hr2
  refine Ct.of_V Try.func47 rfl (by simp [YtjhjnphcdpjnbaaVm.ops, Try.f47]) ?_
  refine V.exec 400 ?_
  simp (config := {contextual := true}) only [go_sem, ↓reduceIte, reduceCtorEq, Bool.false_eq_true, Bool.true_eq_false, Nat.reduceAdd, Nat.reduceLT, Nat.reduceEqDiff, Nat.reduceLeDiff, Nat.reduceSub, Nat.reduceMul, Try.f47]
  refine V.call rfl rfl (by simp [dOK]) ⟨74, [], by simp only [go_sem, ↓reduceIte, reduceCtorEq, Bool.false_eq_true, Bool.true_eq_false, Nat.reduceAdd, Nat.reduceLT, Nat.reduceEqDiff, Nat.reduceLeDiff, Nat.reduceSub, Nat.reduceMul], ⟨_, rfl, rfl, rfl⟩, .inl ⟨[.row (ns.map Note.pv), .fn 48 []], _, .inl (by simp only [go_sem, ↓reduceIte, reduceCtorEq, Bool.false_eq_true, Bool.true_eq_false, Nat.reduceAdd, Nat.reduceLT, Nat.reduceEqDiff, Nat.reduceLeDiff, Nat.reduceSub, Nat.reduceMul]), hi, .inl ⟨_, rfl, rfl, rfl, rfl⟩⟩⟩ ?_
  refine V.exec 400 ?_
  simp (config := {contextual := true}) only [go_sem, ↓reduceIte, reduceCtorEq, Bool.false_eq_true, Bool.true_eq_false, Nat.reduceAdd, Nat.reduceLT, Nat.reduceEqDiff, Nat.reduceLeDiff, Nat.reduceSub, Nat.reduceMul]
  have e : (∃ y ∈ ns.map Note.pv, decide (¬ (Note.of y).ok) = true) ↔ ¬ ∀ x ∈ ns, x.ok := by
    constructor
    · rintro ⟨y, hy, hp⟩ hc
      obtain ⟨s, hs, rfl⟩ := List.mem_map.1 hy
      rw [Note.of_pv] at hp
      simp at hp
      exact hp (hc s hs)
    · intro h
      simp only [Classical.not_forall] at h
      obtain ⟨x, hx, hp⟩ := h
      exact ⟨x.pv, List.mem_map_of_mem hx, by rw [Note.of_pv]; simpa using hp⟩
  rw [e] at hr3
  rw [List.length_map] at hr3
  by_cases hc : ∀ x ∈ ns, x.ok
  · have : ¬ r < ns.length := fun h => (hr3.1 h) hc
    simp [this]
    exact hc
  · have h2 := hr3.2 hc
    simp [h2, hc]

theorem oneV_some {l : List Pair} (hs : Sorted l) {x : Note} {p : Pair} (h : getL l x.key = some p) :
    oneV l x = if (doneOne (p.value, true) x).2 = true then l.set (below x.key l) ⟨p.key, (doneOne (p.value, true) x).1⟩ else l.take (below x.key l) ++ l.drop (below x.key l + 1) := by
  have h1 := low_eq (k := x.key) l hs
  have h2 := high_eq (k := x.key) l hs
  rw [h] at h2
  have hb := (below_find l none ((rising_iff l).2 hs) p).2 h
  have hlt := (List.getElem?_eq_some_iff.1 hb.1).1
  have hv : val l x.key = some p.value := by simp [val, h]
  unfold oneV mids
  rw [h1, h2, hv]
  simp only [stepO]
  split
  · rename_i w hw
    split at hw
    · cases hw
      rename_i hd
      rw [if_pos hd, List.set_eq_take_append_cons_drop, if_pos hlt, hb.2]
      simp
    · cases hw
  · rename_i hw
    split at hw
    · cases hw
    · rename_i hd
      rw [if_neg hd]
      simp
theorem oneV_none {l : List Pair} (hs : Sorted l) {x : Note} (h : getL l x.key = none) :
    oneV l x = if (doneOne ([], false) x).2 = true then l.take (below x.key l) ++ [⟨x.key, (doneOne ([], false) x).1⟩] ++ l.drop (below x.key l) else l := by
  have h1 := low_eq (k := x.key) l hs
  have h2 := high_eq (k := x.key) l hs
  rw [h] at h2
  have hv : val l x.key = none := by simp [val, h]
  unfold oneV mids
  rw [h1, h2, hv]
  simp only [stepO]
  split
  · rename_i w hw
    split at hw
    · cases hw
      rename_i hd
      rw [if_pos hd]
    · cases hw
  · rename_i hw
    split at hw
    · cases hw
    · rename_i hd
      rw [if_neg hd]
      simp
def applyV (l : List Pair) (ns : List Note) : List Pair × Int := if pairsOk l ∧ notesOk ns then (appV l ns, 0) else (l, 1)

set_option maxRecDepth 10000 in
set_option maxHeartbeats 16000000 in
theorem leaf_Apply (l : List Pair) (ns : List Note) (hl : l.length ≤ 400000) (hn : ns.length ≤ 400000) : Ct Try.prog 32 (YtjhjnphcdpjnbaaVm.ops [.row (l.map Pair.pv), .row (ns.map Note.pv)]) (.vals [.row ((applyV l ns).1.map Pair.pv), .int .i64 (applyV l ns).2]) := by
  have h2 : ∀ (l : List Pair), ∀ x ∈ l.map Pair.pv, x.cells.length = 2 := fun l x hx => by
    obtain ⟨s, _, rfl⟩ := List.mem_map.1 hx
    rfl
  refine Ct.of_V Try.func32 rfl (by simp [YtjhjnphcdpjnbaaVm.ops, Try.f32]) ?_
  refine V.exec 400 ?_
  simp (config := {contextual := true}) only [go_sem, ↓reduceIte, reduceCtorEq, Bool.false_eq_true, Bool.true_eq_false, Nat.reduceAdd, Nat.reduceLT, Nat.reduceEqDiff, Nat.reduceLeDiff, Nat.reduceSub, Nat.reduceMul, Try.f32]
  refine V.call rfl rfl (by simp [dOK]) ⟨45, [], by simp only [go_sem, ↓reduceIte, reduceCtorEq, Bool.false_eq_true, Bool.true_eq_false, Nat.reduceAdd, Nat.reduceLT, Nat.reduceEqDiff, Nat.reduceLeDiff, Nat.reduceSub, Nat.reduceMul], ⟨_, rfl, rfl, rfl⟩, .inl ⟨[.row (l.map Pair.pv)], _, .inl (by simp only [go_sem, ↓reduceIte, reduceCtorEq, Bool.false_eq_true, Bool.true_eq_false, Nat.reduceAdd, Nat.reduceLT, Nat.reduceEqDiff, Nat.reduceLeDiff, Nat.reduceSub, Nat.reduceMul]), ClonePair (l.map Pair.pv) (h2 l) (by simp; omega), .inr (.inr ⟨73, (l.map Pair.pv)   , rfl, by simp only [go_sem, ↓reduceIte, reduceCtorEq, Bool.false_eq_true, Bool.true_eq_false, Nat.reduceAdd, Nat.reduceLT, Nat.reduceEqDiff, Nat.reduceLeDiff, Nat.reduceSub, Nat.reduceMul], rfl, rfl⟩)⟩⟩ ?_
  refine V.exec 400 ?_
  simp (config := {contextual := true}) only [go_sem, ↓reduceIte, reduceCtorEq, Bool.false_eq_true, Bool.true_eq_false, Nat.reduceAdd, Nat.reduceLT, Nat.reduceEqDiff, Nat.reduceLeDiff, Nat.reduceSub, Nat.reduceMul]
  refine V.call rfl rfl (by simp [dOK]) ⟨46, [], by simp only [go_sem, ↓reduceIte, reduceCtorEq, Bool.false_eq_true, Bool.true_eq_false, Nat.reduceAdd, Nat.reduceLT, Nat.reduceEqDiff, Nat.reduceLeDiff, Nat.reduceSub, Nat.reduceMul], ⟨_, rfl, rfl, rfl⟩, .inl ⟨[.row (l.map Pair.pv)], _, .inl (by simp only [go_sem, ↓reduceIte, reduceCtorEq, Bool.false_eq_true, Bool.true_eq_false, Nat.reduceAdd, Nat.reduceLT, Nat.reduceEqDiff, Nat.reduceLeDiff, Nat.reduceSub, Nat.reduceMul]), leaf_Right l (by omega), .inl ⟨_, rfl, rfl, rfl, rfl⟩⟩⟩ ?_
  refine V.exec 400 ?_
  by_cases hok : pairsOk l
  · simp (config := {contextual := true}) only [go_sem, ↓reduceIte, reduceCtorEq, Bool.false_eq_true, Bool.true_eq_false, Nat.reduceAdd, Nat.reduceLT, Nat.reduceEqDiff, Nat.reduceLeDiff, Nat.reduceSub, Nat.reduceMul, hok]
    refine V.call rfl rfl (by simp [dOK]) ⟨47, [], by simp only [go_sem, ↓reduceIte, reduceCtorEq, Bool.false_eq_true, Bool.true_eq_false, Nat.reduceAdd, Nat.reduceLT, Nat.reduceEqDiff, Nat.reduceLeDiff, Nat.reduceSub, Nat.reduceMul], ⟨_, rfl, rfl, rfl⟩, .inl ⟨[.row (ns.map Note.pv), .fn 48 []], _, .inl (by simp only [go_sem, ↓reduceIte, reduceCtorEq, Bool.false_eq_true, Bool.true_eq_false, Nat.reduceAdd, Nat.reduceLT, Nat.reduceEqDiff, Nat.reduceLeDiff, Nat.reduceSub, Nat.reduceMul]), Contains_bad ns (by omega), .inl ⟨_, rfl, rfl, rfl, rfl⟩⟩⟩ ?_
    refine V.exec 400 ?_
    by_cases hall : notesOk ns
    · have hv : applyV l ns = (appV l ns, 0) := by simp only [applyV]; rw [if_pos ⟨hok, hall⟩]
      simp (config := {contextual := true}) only [go_sem, ↓reduceIte, reduceCtorEq, Bool.false_eq_true, Bool.true_eq_false, Nat.reduceAdd, Nat.reduceLT, Nat.reduceEqDiff, Nat.reduceLeDiff, Nat.reduceSub, Nat.reduceMul, hall, hv]
      refine V.loop (fun m ls os => ∃ (i : Nat) (cur : List Pair), i ≤ ns.length ∧ m = ns.length - i ∧ Sorted cur ∧ cur.length ≤ l.length + i ∧ appV cur (ns.drop i) = appV l ns ∧
          ls = [(6, .ref 0), (24, .val (.row (ns.map Note.pv))), (25, .val (.int .i64 ns.length)), (26, .val (.int .i64 i))] ∧ os = [.row 73 (cur.map Pair.pv)]) 1 ns.length
        [(6, .ref 0), (24, .val (.row (ns.map Note.pv))), (25, .val (.int .i64 ns.length)), (26, .val (.int .i64 0))] [.row 73 (l.map Pair.pv)] [some 5]
        ⟨0, l, Nat.zero_le _, rfl, ((pairsOk_iff l).1 hok).1, Nat.le_refl _, rfl, rfl, rfl⟩ (by simp only [go_sem, ↓reduceIte, reduceCtorEq, Bool.false_eq_true, Bool.true_eq_false, Nat.reduceAdd, Nat.reduceLT, Nat.reduceEqDiff, Nat.reduceLeDiff, Nat.reduceSub, Nat.reduceMul]; try decide) ?_
      rintro m ls os ⟨i, cur, hi, rfl, hcs, hcl, hca, rfl, rfl⟩
      refine V.exec 400 ?_
      by_cases hlt : i < ns.length
      · have hlt' : (i : Int) < (ns.length : Int) := by omega
        obtain ⟨x, hx⟩ : ∃ x, ns[i]? = some x := ⟨_, List.getElem?_eq_getElem hlt⟩
        have hw : IntKind.i64.wrap ((i : Int) + 1) = ((i + 1 : Nat) : Int) := by rw [wrap_small3] <;> omega
        rw [drop_of_get hx, appV, List.foldl_cons] at hca
        have hos := oneV_sorted hcs x
        have hol := oneV_len hcs x
        have hpb := posA_eq ((rising_iff cur).2 hcs) x.key
        have hpl := leaf_place cur x.key (by omega)
        rw [hpb] at hpl
        have hbl := below_le x.key cur
        simp (config := {contextual := true}) only [go_sem, ↓reduceIte, reduceCtorEq, Bool.false_eq_true, Bool.true_eq_false, Nat.reduceAdd, Nat.reduceLT, Nat.reduceEqDiff, Nat.reduceLeDiff, Nat.reduceSub, Nat.reduceMul, hlt', hx, Note.pv]
        refine V.call rfl rfl (by simp [dOK]) ⟨50, [], by simp only [go_sem, ↓reduceIte, reduceCtorEq, Bool.false_eq_true, Bool.true_eq_false, Nat.reduceAdd, Nat.reduceLT, Nat.reduceEqDiff, Nat.reduceLeDiff, Nat.reduceSub, Nat.reduceMul], ⟨_, rfl, rfl, rfl⟩, .inl ⟨[.row (cur.map Pair.pv), .str x.key], _, .inl (by simp only [go_sem, ↓reduceIte, reduceCtorEq, Bool.false_eq_true, Bool.true_eq_false, Nat.reduceAdd, Nat.reduceLT, Nat.reduceEqDiff, Nat.reduceLeDiff, Nat.reduceSub, Nat.reduceMul]), hpl, .inl ⟨_, rfl, rfl, rfl, rfl⟩⟩⟩ ?_
        refine V.exec 400 ?_
        cases hg : getL cur x.key with
        | some p =>
          have hp := (below_find cur none ((rising_iff cur).2 hcs) p).2 hg
          have hE : (∃ y, some p = some y ∧ y.key = x.key) := ⟨p, rfl, hp.2⟩
          have hrl := (List.getElem?_eq_some_iff.1 hp.1).1
          have hrl' : ((below x.key cur : Nat) : Int) < (cur.length : Int) := by omega
          have hone := oneV_some hcs hg
          have hdo := note_Done p.value true [x] (by simp)
          simp (config := {contextual := true}) only [go_sem, ↓reduceIte, reduceCtorEq, Bool.false_eq_true, Bool.true_eq_false, Nat.reduceAdd, Nat.reduceLT, Nat.reduceEqDiff, Nat.reduceLeDiff, Nat.reduceSub, Nat.reduceMul, hp.1, hE, hrl', Pair.pv]
          refine V.call rfl rfl (by simp [dOK]) ⟨51, [], by simp only [go_sem, ↓reduceIte, reduceCtorEq, Bool.false_eq_true, Bool.true_eq_false, Nat.reduceAdd, Nat.reduceLT, Nat.reduceEqDiff, Nat.reduceLeDiff, Nat.reduceSub, Nat.reduceMul], ⟨_, rfl, rfl, rfl⟩, .inl ⟨[.str p.value, .bool (decide (true = true)), .row ([x].map Note.pv)], _, .inl (by simp only [go_sem, ↓reduceIte, reduceCtorEq, Bool.false_eq_true, Bool.true_eq_false, Nat.reduceAdd, Nat.reduceLT, Nat.reduceEqDiff, Nat.reduceLeDiff, Nat.reduceSub, Nat.reduceMul, Note.pv, List.map_cons, List.map_nil, decide_true]), hdo, .inr (.inl ⟨_, rfl, rfl, rfl⟩)⟩⟩ ?_
          refine V.exec 400 ?_
          have hwr : IntKind.i64.wrap (((below x.key cur : Nat) : Int) + 1) = ((below x.key cur + 1 : Nat) : Int) := by rw [wrap_small3] <;> omega
          have hdv : doneV p.value true [x] = doneOne (p.value, true) x := rfl
          rw [hdv] at hdo ⊢
          obtain ⟨now, has, hdd⟩ : ∃ a b, doneOne (p.value, true) x = (a, b) := ⟨_, _, rfl⟩
          rw [hdd] at hone hdo ⊢
          simp only at hone hdo ⊢
          cases has with
          | true =>
            rw [if_pos rfl] at hone
            simp (config := {contextual := true}) only [go_sem, ↓reduceIte, reduceCtorEq, Bool.false_eq_true, Bool.true_eq_false, Nat.reduceAdd, Nat.reduceLT, Nat.reduceEqDiff, Nat.reduceLeDiff, Nat.reduceSub, Nat.reduceMul, hp.1, hE, hrl', Pair.pv, decide_true]
            refine ⟨ns.length - (i + 1), _, _, [some 0], by omega, ⟨i + 1, oneV cur x, by omega, rfl, hos, by omega, hca, rfl, rfl⟩, ?_⟩
            simp only [go_sem, ↓reduceIte, reduceCtorEq, Bool.false_eq_true, Bool.true_eq_false, Nat.reduceAdd, Nat.reduceLT, Nat.reduceEqDiff, Nat.reduceLeDiff, Nat.reduceSub, Nat.reduceMul, hone, List.map_set, Pair.pv, hw]
            try decide
          | false =>
            rw [if_neg (by simp)] at hone
            have hdel := DeletePair (cur.map Pair.pv) (below x.key cur) (h2 cur) (by simpa using hrl) (by simp; omega)
            rw [← List.map_take, ← List.map_drop, ← List.map_append, ← hone] at hdel
            simp (config := {contextual := true}) only [go_sem, ↓reduceIte, reduceCtorEq, Bool.false_eq_true, Bool.true_eq_false, Nat.reduceAdd, Nat.reduceLT, Nat.reduceEqDiff, Nat.reduceLeDiff, Nat.reduceSub, Nat.reduceMul, hp.1, hE, hrl', Pair.pv, decide_false, hwr]
            refine V.call rfl rfl (by simp [dOK]) ⟨52, [], by simp only [go_sem, ↓reduceIte, reduceCtorEq, Bool.false_eq_true, Bool.true_eq_false, Nat.reduceAdd, Nat.reduceLT, Nat.reduceEqDiff, Nat.reduceLeDiff, Nat.reduceSub, Nat.reduceMul], ⟨_, rfl, rfl, rfl⟩, .inr ⟨0, 73, cur.map Pair.pv, [.val (.int .i64 (below x.key cur : Nat)), .val (.int .i64 (below x.key cur + 1 : Nat))], [.int .i64 (below x.key cur : Nat), .int .i64 (below x.key cur + 1 : Nat)], 73, _, by simp only [go_sem, ↓reduceIte, reduceCtorEq, Bool.false_eq_true, Bool.true_eq_false, Nat.reduceAdd, Nat.reduceLT, Nat.reduceEqDiff, Nat.reduceLeDiff, Nat.reduceSub, Nat.reduceMul], by simp only [go_sem, ↓reduceIte, reduceCtorEq, Bool.false_eq_true, Bool.true_eq_false, Nat.reduceAdd, Nat.reduceLT, Nat.reduceEqDiff, Nat.reduceLeDiff, Nat.reduceSub, Nat.reduceMul], .inl (by simp only [go_sem, ↓reduceIte, reduceCtorEq, Bool.false_eq_true, Bool.true_eq_false, Nat.reduceAdd, Nat.reduceLT, Nat.reduceEqDiff, Nat.reduceLeDiff, Nat.reduceSub, Nat.reduceMul]), hdel, by simp only [go_sem, ↓reduceIte, reduceCtorEq, Bool.false_eq_true, Bool.true_eq_false, Nat.reduceAdd, Nat.reduceLT, Nat.reduceEqDiff, Nat.reduceLeDiff, Nat.reduceSub, Nat.reduceMul], rfl, rfl⟩⟩ ?_
            refine V.exec 400 ?_
            simp (config := {contextual := true}) only [go_sem, ↓reduceIte, reduceCtorEq, Bool.false_eq_true, Bool.true_eq_false, Nat.reduceAdd, Nat.reduceLT, Nat.reduceEqDiff, Nat.reduceLeDiff, Nat.reduceSub, Nat.reduceMul, hw]
            refine ⟨ns.length - (i + 1), _, _, [some 44], by omega, ⟨i + 1, oneV cur x, by omega, rfl, hos, by omega, hca, rfl, rfl⟩, ?_⟩
            simp only [go_sem, ↓reduceIte, reduceCtorEq, Bool.false_eq_true, Bool.true_eq_false, Nat.reduceAdd, Nat.reduceLT, Nat.reduceEqDiff, Nat.reduceLeDiff, Nat.reduceSub, Nat.reduceMul]
        | none =>
          have hE : ¬ ∃ y, cur[below x.key cur]? = some y ∧ y.key = x.key := fun ⟨y, hy⟩ => by
            have := (below_find cur none ((rising_iff cur).2 hcs) y).1 hy
            rw [hg] at this; cases this
          have hone := oneV_none hcs hg
          have hdo := note_Done [] false [x] (by simp)
          simp (config := {contextual := true}) only [go_sem, ↓reduceIte, reduceCtorEq, Bool.false_eq_true, Bool.true_eq_false, Nat.reduceAdd, Nat.reduceLT, Nat.reduceEqDiff, Nat.reduceLeDiff, Nat.reduceSub, Nat.reduceMul, hE]
          refine V.call rfl rfl (by simp [dOK]) ⟨51, [], by simp only [go_sem, ↓reduceIte, reduceCtorEq, Bool.false_eq_true, Bool.true_eq_false, Nat.reduceAdd, Nat.reduceLT, Nat.reduceEqDiff, Nat.reduceLeDiff, Nat.reduceSub, Nat.reduceMul], ⟨_, rfl, rfl, rfl⟩, .inl ⟨[.str [], .bool (decide (false = true)), .row ([x].map Note.pv)], _, .inl (by simp only [go_sem, ↓reduceIte, reduceCtorEq, Bool.false_eq_true, Bool.true_eq_false, Nat.reduceAdd, Nat.reduceLT, Nat.reduceEqDiff, Nat.reduceLeDiff, Nat.reduceSub, Nat.reduceMul, Note.pv, List.map_cons, List.map_nil, decide_false]), hdo, .inr (.inl ⟨_, rfl, rfl, rfl⟩)⟩⟩ ?_
          refine V.exec 400 ?_
          have hdv : doneV [] false [x] = doneOne ([], false) x := rfl
          rw [hdv] at hdo ⊢
          obtain ⟨now, has, hdd⟩ : ∃ a b, doneOne ([], false) x = (a, b) := ⟨_, _, rfl⟩
          rw [hdd] at hone hdo ⊢
          simp only at hone hdo ⊢
          cases has with
          | true =>
            rw [if_pos rfl] at hone
            have hins := InsertPair (cur.map Pair.pv) (Pair.pv ⟨x.key, now⟩) (below x.key cur) (h2 cur) rfl (by simpa using hbl) (by simp; omega)
            have he : (cur.map Pair.pv).take (below x.key cur) ++ [Pair.pv ⟨x.key, now⟩] ++ (cur.map Pair.pv).drop (below x.key cur) = (oneV cur x).map Pair.pv := by
              rw [hone]; simp [List.map_append, List.map_take, List.map_drop]
            rw [he] at hins
            simp (config := {contextual := true}) only [go_sem, ↓reduceIte, reduceCtorEq, Bool.false_eq_true, Bool.true_eq_false, Nat.reduceAdd, Nat.reduceLT, Nat.reduceEqDiff, Nat.reduceLeDiff, Nat.reduceSub, Nat.reduceMul, hE, Pair.pv, decide_true]
            refine V.call rfl rfl (by simp [dOK]) ⟨53, [], by simp only [go_sem, ↓reduceIte, reduceCtorEq, Bool.false_eq_true, Bool.true_eq_false, Nat.reduceAdd, Nat.reduceLT, Nat.reduceEqDiff, Nat.reduceLeDiff, Nat.reduceSub, Nat.reduceMul], ⟨_, rfl, rfl, rfl⟩, .inr ⟨0, 73, cur.map Pair.pv, [.val (.int .i64 (below x.key cur : Nat)), .ref 42], [.int .i64 (below x.key cur : Nat), .rowp [Pair.pv ⟨x.key, now⟩]], 73, _, by simp only [go_sem, ↓reduceIte, reduceCtorEq, Bool.false_eq_true, Bool.true_eq_false, Nat.reduceAdd, Nat.reduceLT, Nat.reduceEqDiff, Nat.reduceLeDiff, Nat.reduceSub, Nat.reduceMul], by simp only [go_sem, ↓reduceIte, reduceCtorEq, Bool.false_eq_true, Bool.true_eq_false, Nat.reduceAdd, Nat.reduceLT, Nat.reduceEqDiff, Nat.reduceLeDiff, Nat.reduceSub, Nat.reduceMul], .inr ⟨[.val (.int .i64 (below x.key cur : Nat))], 42, 73, [Pair.pv ⟨x.key, now⟩], [.int .i64 (below x.key cur : Nat)], rfl, rfl, by simp only [go_sem, ↓reduceIte, reduceCtorEq, Bool.false_eq_true, Bool.true_eq_false, Nat.reduceAdd, Nat.reduceLT, Nat.reduceEqDiff, Nat.reduceLeDiff, Nat.reduceSub, Nat.reduceMul, Pair.pv], rfl⟩, hins, by simp only [go_sem, ↓reduceIte, reduceCtorEq, Bool.false_eq_true, Bool.true_eq_false, Nat.reduceAdd, Nat.reduceLT, Nat.reduceEqDiff, Nat.reduceLeDiff, Nat.reduceSub, Nat.reduceMul], rfl, rfl⟩⟩ ?_
            refine V.exec 400 ?_
            simp (config := {contextual := true}) only [go_sem, ↓reduceIte, reduceCtorEq, Bool.false_eq_true, Bool.true_eq_false, Nat.reduceAdd, Nat.reduceLT, Nat.reduceEqDiff, Nat.reduceLeDiff, Nat.reduceSub, Nat.reduceMul, hw]
            refine ⟨ns.length - (i + 1), _, _, [some 43], by omega, ⟨i + 1, oneV cur x, by omega, rfl, hos, by omega, hca, rfl, rfl⟩, ?_⟩
            simp only [go_sem, ↓reduceIte, reduceCtorEq, Bool.false_eq_true, Bool.true_eq_false, Nat.reduceAdd, Nat.reduceLT, Nat.reduceEqDiff, Nat.reduceLeDiff, Nat.reduceSub, Nat.reduceMul]
          | false =>
            rw [if_neg (by simp)] at hone
            simp (config := {contextual := true}) only [go_sem, ↓reduceIte, reduceCtorEq, Bool.false_eq_true, Bool.true_eq_false, Nat.reduceAdd, Nat.reduceLT, Nat.reduceEqDiff, Nat.reduceLeDiff, Nat.reduceSub, Nat.reduceMul, hE, Pair.pv, decide_false, hw]
            refine ⟨ns.length - (i + 1), _, _, [some 0], by omega, ⟨i + 1, oneV cur x, by omega, rfl, hos, by omega, hca, rfl, rfl⟩, ?_⟩
            simp only [go_sem, ↓reduceIte, reduceCtorEq, Bool.false_eq_true, Bool.true_eq_false, Nat.reduceAdd, Nat.reduceLT, Nat.reduceEqDiff, Nat.reduceLeDiff, Nat.reduceSub, Nat.reduceMul, hone]
      · have hlt' : ¬ (i : Int) < (ns.length : Int) := by omega
        have hd : ns.drop i = [] := List.drop_eq_nil_of_le (by omega)
        rw [hd] at hca
        simp (config := {contextual := true}) only [go_sem, ↓reduceIte, reduceCtorEq, Bool.false_eq_true, Bool.true_eq_false, Nat.reduceAdd, Nat.reduceLT, Nat.reduceEqDiff, Nat.reduceLeDiff, Nat.reduceSub, Nat.reduceMul, hlt', ← hca]
        rfl
    · have hv : applyV l ns = (l, 1) := by simp only [applyV]; rw [if_neg (fun h => hall h.2)]
      simp (config := {contextual := true}) only [go_sem, ↓reduceIte, reduceCtorEq, Bool.false_eq_true, Bool.true_eq_false, Nat.reduceAdd, Nat.reduceLT, Nat.reduceEqDiff, Nat.reduceLeDiff, Nat.reduceSub, Nat.reduceMul, hall, hv]
  · have hv : applyV l ns = (l, 1) := by simp only [applyV]; rw [if_neg (fun h => hok h.1)]
    simp (config := {contextual := true}) only [go_sem, ↓reduceIte, reduceCtorEq, Bool.false_eq_true, Bool.true_eq_false, Nat.reduceAdd, Nat.reduceLT, Nat.reduceEqDiff, Nat.reduceLeDiff, Nat.reduceSub, Nat.reduceMul, hok, hv]
end Go.Proofs.Ytjhjnphcdpjnbaa
set_option linter.unusedVariables false
set_option linter.unusedSimpArgs false
set_option maxRecDepth 8000
namespace Go.Proofs.Ytjhjnphcdpjnbaa
open Go Go.Proofs Go.Proofs.YtjhjnphcdpjnbaaVm Go.Proofs.Ytjhjnphcdpjnbaa.Ty

theorem Pair.inj (s t : Pair) : (s.pv = t.pv) = (s = t) := by
  cases s; cases t
  simp [Pair.pv]

set_option maxRecDepth 4000 in
set_option maxHeartbeats 8000000 in
theorem ref03_Same (a b : List Pair) (hb : b.length ≤ 1000000) : Ct Try.prog 22 (YtjhjnphcdpjnbaaVm.ops [.row (a.map Pair.pv), .row (b.map Pair.pv)]) (.vals [.bool (decide (a = b))]) := by
  refine Ct.of_V Try.func22 rfl (by simp [YtjhjnphcdpjnbaaVm.ops, Try.f22]) ?_
  refine V.exec 400 ?_
  by_cases hl : a.length = b.length
  · simp (config := {contextual := true}) only [go_sem, ↓reduceIte, reduceCtorEq, Bool.false_eq_true, Bool.true_eq_false, Nat.reduceAdd, Nat.reduceLT, Nat.reduceEqDiff, Nat.reduceLeDiff, Nat.reduceSub, Nat.reduceMul, Try.f22, hl]
    refine V.loop (fun m ls os => ∃ i : Nat, i ≤ b.length ∧ m = b.length - i ∧ a.take i = b.take i ∧
        ls = [(0, .val (.row (a.map Pair.pv))), (1, .val (.row (b.map Pair.pv))), (5, .val (.int .i64 i))] ∧ os = []) 0 b.length [(0, .val (.row (a.map Pair.pv))), (1, .val (.row (b.map Pair.pv))), (5, .val (.int .i64 0))] [] []
      ⟨0, Nat.zero_le _, rfl, rfl, rfl, rfl⟩ (by simp only [go_sem, ↓reduceIte, reduceCtorEq, Bool.false_eq_true, Bool.true_eq_false, Nat.reduceAdd, Nat.reduceLT, Nat.reduceEqDiff, Nat.reduceLeDiff, Nat.reduceSub, Nat.reduceMul]) ?_
    rintro m ls os ⟨i, hi, rfl, heq, rfl, rfl⟩
    refine V.exec 400 ?_
    by_cases hlt : i < b.length
    · have hlt' : (i : Int) < (b.length : Int) := by omega
      have hla : i < a.length := by omega
      obtain ⟨x, hx⟩ : ∃ x, a[i]? = some x := ⟨_, List.getElem?_eq_getElem hla⟩
      obtain ⟨y, hy⟩ : ∃ y, b[i]? = some y := ⟨_, List.getElem?_eq_getElem hlt⟩
      have hw : IntKind.i64.wrap ((i : Int) + 1) = ((i + 1 : Nat) : Int) := by rw [wrap_small3] <;> omega
      have hinj := Pair.inj x y
      simp only [Pair.pv] at hinj
      simp (config := {contextual := true}) only [go_sem, ↓reduceIte, reduceCtorEq, Bool.false_eq_true, Bool.true_eq_false, Nat.reduceAdd, Nat.reduceLT, Nat.reduceEqDiff, Nat.reduceLeDiff, Nat.reduceSub, Nat.reduceMul, hl, hlt', hx, hy, Pair.pv, hw, hinj]
      refine ⟨by kernel_rfl, fun hne => ?_, fun he => ⟨b.length - (i + 1), _, [], [], by omega, ⟨i + 1, by omega, rfl, ?_, rfl, rfl⟩, ?_⟩⟩
      · have : a ≠ b := fun e => hne (by rw [e, hy] at hx; cases hx; rfl)
        simp [this]
      · rw [List.take_add_one, List.take_add_one, heq, hx, hy, he]
      · simp only [go_sem, ↓reduceIte, reduceCtorEq, Bool.false_eq_true, Bool.true_eq_false, Nat.reduceAdd, Nat.reduceLT, Nat.reduceEqDiff, Nat.reduceLeDiff, Nat.reduceSub, Nat.reduceMul]
    · have hlt' : ¬ (i : Int) < (b.length : Int) := by omega
      simp (config := {contextual := true}) only [go_sem, ↓reduceIte, reduceCtorEq, Bool.false_eq_true, Bool.true_eq_false, Nat.reduceAdd, Nat.reduceLT, Nat.reduceEqDiff, Nat.reduceLeDiff, Nat.reduceSub, Nat.reduceMul, hl, hlt']
      have : a = b := by rw [List.take_of_length_le (by omega), List.take_of_length_le (by omega)] at heq; exact heq
      simp [this]
  · have hl' : ¬ (a.length : Int) = (b.length : Int) := by omega
    have : a ≠ b := fun e => hl (by rw [e])
    simp (config := {contextual := true}) only [go_sem, ↓reduceIte, reduceCtorEq, Bool.false_eq_true, Bool.true_eq_false, Nat.reduceAdd, Nat.reduceLT, Nat.reduceEqDiff, Nat.reduceLeDiff, Nat.reduceSub, Nat.reduceMul, Try.f22, hl', this, not_false_eq_true]

theorem applyV_len (l : List Pair) (ns : List Note) : (applyV l ns).1.length ≤ l.length + ns.length := by
  unfold applyV
  split
  · rename_i h
    exact appV_len ns ((pairsOk_iff l).1 h.1).1
  · simp
theorem applyV_ok {l : List Pair} {ns : List Note} (h : pairsOk l) (hn : notesOk ns) : applyV l ns = (appV l ns, 0) := by
  unfold applyV; rw [if_pos ⟨h, hn⟩]
theorem applyV_bad {l : List Pair} {ns : List Note} (h : ¬ (pairsOk l ∧ notesOk ns)) : applyV l ns = (l, 1) := by
  unfold applyV; rw [if_neg h]
theorem stepO_put (o : Option (List UInt8)) {x : Note} (h : x.kind = 1) : stepO o x = some x.value := by
  unfold stepO; cases o <;> simp [doneOne, h]
theorem stepO_del (o : Option (List UInt8)) {x : Note} (h : x.kind = 2) : stepO o x = none := by
  unfold stepO; cases o <;> simp [doneOne, h]
theorem getV_val {l : List Pair} (h : pairsOk l) (k : List UInt8) : getV l k = (match val l k with | some v => (v, true) | none => ([], false)) := by
  unfold getV val
  rw [if_pos h]
  cases getL l k <;> rfl
theorem getV_bad {l : List Pair} (h : ¬ pairsOk l) (k : List UInt8) : getV l k = ([], false) := by
  unfold getV; rw [if_neg h]
theorem appV_val : ∀ (ns : List Note) {l : List Pair}, Sorted l → ∀ k, val (appV l ns) k = ns.foldl (fun o x => if k = x.key then stepO o x else o) (val l k)
  | [], _, _, _ => rfl
  | x :: r, l, hs, k => by
    have h1 := appV_val r (oneV_sorted hs x) k
    rw [oneV_val hs x k] at h1
    exact h1
theorem notesOk_one (x : Note) : notesOk [x] ↔ x.ok := by simp [notesOk]
theorem notesOk_app (a b : List Note) : notesOk (a ++ b) ↔ notesOk a ∧ notesOk b := by
  unfold notesOk
  simp only [List.mem_append]
  exact ⟨fun h => ⟨fun x hx => h x (.inl hx), fun x hx => h x (.inr hx)⟩, fun h x hx => hx.elim (h.1 x) (h.2 x)⟩
theorem appV_app (l : List Pair) (a b : List Note) : appV l (a ++ b) = appV (appV l a) b := List.foldl_append ..

theorem pair_of (xs : List PV) (h : ∀ x ∈ xs, ∃ qs, x = .agg qs ∧ qs.map PV.kd = [.str, .str] ∧ ∀ q ∈ qs, q.wfv) : ∃ t : List Pair, xs = t.map Pair.pv := by
  induction xs with
  | nil => exact ⟨[], rfl⟩
  | cons x r ih =>
    obtain ⟨t, rfl⟩ := ih (fun y hy => h y (List.mem_cons_of_mem _ hy))
    obtain ⟨qs, rfl, hk, hw⟩ := h x List.mem_cons_self
    match qs, hk with
    | [.str a, .str b], hk => exact ⟨⟨a, b⟩ :: t, by simp [Pair.pv]⟩
end Go.Proofs.Ytjhjnphcdpjnbaa
set_option linter.unusedVariables false
set_option linter.unusedSimpArgs false
set_option maxRecDepth 8000
namespace Go.Proofs.Ytjhjnphcdpjnbaa
open Go Go.Proofs Go.Proofs.YtjhjnphcdpjnbaaVm Go.Proofs.Ytjhjnphcdpjnbaa.Ty

structure Change where
  seq : Int
  key : List UInt8
  had : Bool
  bef : List UInt8
  has : Bool
  aft : List UInt8
  deriving DecidableEq
def Change.pv (c : Change) : PV := .agg [.int .i64 c.seq, .str c.key, .bool (decide (c.had = true)), .str c.bef, .bool (decide (c.has = true)), .str c.aft]
/-- May a change be? -/
def Change.ok (c : Change) : Prop := c.key.length ≤ 16 ∧ c.bef.length ≤ 32 ∧ c.aft.length ≤ 32 ∧ 1 ≤ c.seq ∧ c.seq ≤ 2147483647 ∧ (c.had = true ∨ c.bef = []) ∧ (c.has = true ∨ c.aft = []) ∧ (c.had = true ∨ c.has = true)
instance Change.instOk (c : Change) : Decidable c.ok := by unfold Change.ok; infer_instance

theorem pairsOk_one (k v : List UInt8) : pairsOk [⟨k, v⟩] ↔ k.length ≤ 16 ∧ v.length ≤ 32 := by simp [pairsOk, pairsFrom]

set_option maxRecDepth 4000 in
set_option maxHeartbeats 4000000 in
theorem flat_May (c : Change) : Ct Try.prog 54 (YtjhjnphcdpjnbaaVm.ops [c.pv]) (.vals [.bool (decide c.ok)]) := by
  refine Ct.of_V Try.func54 rfl (by simp [YtjhjnphcdpjnbaaVm.ops, Try.f54]) ?_
  refine V.exec 400 ?_
  simp (config := {contextual := true}) only [go_sem, ↓reduceIte, reduceCtorEq, Bool.false_eq_true, Bool.true_eq_false, Nat.reduceAdd, Nat.reduceLT, Nat.reduceEqDiff, Nat.reduceLeDiff, Nat.reduceSub, Nat.reduceMul, Try.f54, Change.pv]
  refine V.call rfl rfl (by simp [dOK]) ⟨46, [], by simp only [go_sem, ↓reduceIte, reduceCtorEq, Bool.false_eq_true, Bool.true_eq_false, Nat.reduceAdd, Nat.reduceLT, Nat.reduceEqDiff, Nat.reduceLeDiff, Nat.reduceSub, Nat.reduceMul], ⟨_, rfl, rfl, rfl⟩, .inl ⟨[.row ([(⟨c.key, c.bef⟩ : Pair)].map Pair.pv)], _, .inl (by simp only [go_sem, ↓reduceIte, reduceCtorEq, Bool.false_eq_true, Bool.true_eq_false, Nat.reduceAdd, Nat.reduceLT, Nat.reduceEqDiff, Nat.reduceLeDiff, Nat.reduceSub, Nat.reduceMul, Pair.pv, List.map_cons, List.map_nil]), leaf_Right [⟨c.key, c.bef⟩] (by simp), .inl ⟨_, rfl, rfl, rfl, rfl⟩⟩⟩ ?_
  refine V.exec 400 ?_
  by_cases h1 : pairsOk [(⟨c.key, c.bef⟩ : Pair)]
  · simp (config := {contextual := true}) only [go_sem, ↓reduceIte, reduceCtorEq, Bool.false_eq_true, Bool.true_eq_false, Nat.reduceAdd, Nat.reduceLT, Nat.reduceEqDiff, Nat.reduceLeDiff, Nat.reduceSub, Nat.reduceMul, Pair.pv, List.map_cons, List.map_nil, h1]
    refine V.call rfl rfl (by simp [dOK]) ⟨46, [], by simp only [go_sem, ↓reduceIte, reduceCtorEq, Bool.false_eq_true, Bool.true_eq_false, Nat.reduceAdd, Nat.reduceLT, Nat.reduceEqDiff, Nat.reduceLeDiff, Nat.reduceSub, Nat.reduceMul], ⟨_, rfl, rfl, rfl⟩, .inl ⟨[.row ([(⟨c.key, c.aft⟩ : Pair)].map Pair.pv)], _, .inl (by simp only [go_sem, ↓reduceIte, reduceCtorEq, Bool.false_eq_true, Bool.true_eq_false, Nat.reduceAdd, Nat.reduceLT, Nat.reduceEqDiff, Nat.reduceLeDiff, Nat.reduceSub, Nat.reduceMul, Pair.pv, List.map_cons, List.map_nil]), leaf_Right [⟨c.key, c.aft⟩] (by simp), .inl ⟨_, rfl, rfl, rfl, rfl⟩⟩⟩ ?_
    refine V.exec 400 ?_
    rw [pairsOk_one] at h1
    by_cases h2 : pairsOk [(⟨c.key, c.aft⟩ : Pair)]
    · simp (config := {contextual := true}) only [go_sem, ↓reduceIte, reduceCtorEq, Bool.false_eq_true, Bool.true_eq_false, Nat.reduceAdd, Nat.reduceLT, Nat.reduceEqDiff, Nat.reduceLeDiff, Nat.reduceSub, Nat.reduceMul, Pair.pv, List.map_cons, List.map_nil, h2]
      rw [pairsOk_one] at h2
      simp only [Option.some.injEq, List.cons.injEq, PV.bool.injEq, and_true]
      grind [Change.ok]
    · simp (config := {contextual := true}) only [go_sem, ↓reduceIte, reduceCtorEq, Bool.false_eq_true, Bool.true_eq_false, Nat.reduceAdd, Nat.reduceLT, Nat.reduceEqDiff, Nat.reduceLeDiff, Nat.reduceSub, Nat.reduceMul, Pair.pv, List.map_cons, List.map_nil, h2]
      rw [pairsOk_one] at h2
      have : ¬ c.ok := fun h => h2 ⟨h.1, h.2.2.1⟩
      simp [this]
  · simp (config := {contextual := true}) only [go_sem, ↓reduceIte, reduceCtorEq, Bool.false_eq_true, Bool.true_eq_false, Nat.reduceAdd, Nat.reduceLT, Nat.reduceEqDiff, Nat.reduceLeDiff, Nat.reduceSub, Nat.reduceMul, Pair.pv, List.map_cons, List.map_nil, h1]
    rw [pairsOk_one] at h1
    have : ¬ c.ok := fun h => h1 ⟨h.1, h.2.1⟩
    simp [this]
end Go.Proofs.Ytjhjnphcdpjnbaa
set_option linter.unusedVariables false
set_option linter.unusedSimpArgs false
set_option maxRecDepth 8000
namespace Go.Proofs.Ytjhjnphcdpjnbaa
open Go Go.Proofs Go.Proofs.YtjhjnphcdpjnbaaVm Go.Proofs.Ytjhjnphcdpjnbaa.Ty

set_option maxHeartbeats 4000000 in
theorem ref01_Take (s : List UInt8) (hl : s.length = 8) : Ct Try.prog 101 (YtjhjnphcdpjnbaaVm.ops [.str s, .int .i64 8]) (.vals [.int .u64 (beN s), .str [], .int .i64 0]) := by
  refine Ct.of_V Try.func101 rfl (by simp [YtjhjnphcdpjnbaaVm.ops, Try.f101]) ?_
  refine V.exec 400 ?_
  have h1 : ¬ (8 : Int) < 1 := by decide
  have h2 : ¬ (8 : Int) < 8 := by decide
  have hl' : ¬ (s.length : Int) < 8 := by omega
  simp (config := {contextual := true}) only [go_sem, ↓reduceIte, reduceCtorEq, Bool.false_eq_true, Bool.true_eq_false, Nat.reduceAdd, Nat.reduceLT, Nat.reduceEqDiff, Nat.reduceLeDiff, Nat.reduceSub, Nat.reduceMul, Try.f101, h1, h2, hl']
  refine V.loop (fun m ls os => ∃ (i : Nat), i ≤ 8 ∧ m = 8 - i ∧
        ls = [(0, .val (.str s)), (1, .val (.int .i64 8)), (7, .val (.int .u64 (beN (s.take i)))), (8, .val (.int .i64 i))] ∧ os = []) 0 8
      [(0, .val (.str s)), (1, .val (.int .i64 8)), (7, .val (.int .u64 0)), (8, .val (.int .i64 0))] [] []
      ⟨0, Nat.zero_le _, rfl, rfl, rfl⟩ (by simp only [go_sem, ↓reduceIte, reduceCtorEq, Bool.false_eq_true, Bool.true_eq_false, Nat.reduceAdd, Nat.reduceLT, Nat.reduceEqDiff, Nat.reduceLeDiff, Nat.reduceSub, Nat.reduceMul]) ?_
  rintro m ls os ⟨i, hi, rfl, rfl, rfl⟩
  refine V.exec 400 ?_
  by_cases hlt : i < 8
  · have hlt' : (i : Int) < 8 := by omega
    obtain ⟨x, hx⟩ : ∃ x, s[i]? = some x := ⟨_, List.getElem?_eq_getElem (by omega)⟩
    have hw : IntKind.i64.wrap ((i : Int) + 1) = ((i + 1 : Nat) : Int) := by rw [wrap_small3] <;> omega
    have hb0 := beN_nonneg (s.take i)
    have hb1 : beN (s.take i) < 72057594037927936 := by
      have h1 := beN_lt (s.take i)
      have h2 : (s.take i).length ≤ 7 := by simp; omega
      have h3 : ∀ k : Fin 8, (256 : Int) ^ k.val ≤ 72057594037927936 := by decide
      have := h3 ⟨(s.take i).length, by omega⟩
      exact Int.lt_of_lt_of_le h1 this
    have hsn : beN (s.take (i + 1)) = beN (s.take i) * 256 + (x.toNat : Int) := by rw [List.take_add_one, hx]; exact beN_snoc _ _
    have hxl := x.toNat_lt
    have hsh : IntKind.u64.wrap (beN (s.take i) * 256) = beN (s.take i) * 256 := by rw [wrap_u64] <;> omega
    have hcv : IntKind.u64.wrap (x.toNat : Int) = (x.toNat : Int) := by rw [wrap_u64] <;> omega
    have had : IntKind.u64.wrap (beN (s.take i) * 256 + (x.toNat : Int)) = beN (s.take i) * 256 + (x.toNat : Int) := by rw [wrap_u64] <;> omega
    rw [← hsn] at had
    simp (config := {contextual := true}) only [go_sem, ↓reduceIte, reduceCtorEq, Bool.false_eq_true, Bool.true_eq_false, Nat.reduceAdd, Nat.reduceLT, Nat.reduceEqDiff, Nat.reduceLeDiff, Nat.reduceSub, Nat.reduceMul, hlt', hx, hw, hsh, hcv, ← hsn, had]
    exact ⟨8 - (i + 1), _, [], [], by omega, ⟨i + 1, by omega, rfl, rfl, rfl⟩, by simp only [go_sem, ↓reduceIte, reduceCtorEq, Bool.false_eq_true, Bool.true_eq_false, Nat.reduceAdd, Nat.reduceLT, Nat.reduceEqDiff, Nat.reduceLeDiff, Nat.reduceSub, Nat.reduceMul]⟩
  · have hlt' : ¬ (i : Int) < 8 := by omega
    obtain rfl : i = 8 := by omega
    simp (config := {contextual := true}) only [go_sem, ↓reduceIte, reduceCtorEq, Bool.false_eq_true, Bool.true_eq_false, Nat.reduceAdd, Nat.reduceLT, Nat.reduceEqDiff, Nat.reduceLeDiff, Nat.reduceSub, Nat.reduceMul, hlt']
    refine ⟨⟨by decide, by omega⟩, by kernel_rfl, ?_⟩
    rw [List.take_of_length_le (by omega), List.drop_eq_nil_of_le (by simp; omega)]

theorem ref09_Number (v : List UInt8) : Ct Try.prog 98 (YtjhjnphcdpjnbaaVm.ops [.str v]) (.vals [.int .u64 (numV v)]) := by
  refine Ct.of_V Try.func98 rfl (by simp [YtjhjnphcdpjnbaaVm.ops, Try.f98]) ?_
  refine V.exec 400 ?_
  by_cases h : v.length = 8
  · have h' : (v.length : Int) = 8 := by omega
    simp (config := {contextual := true}) only [go_sem, ↓reduceIte, reduceCtorEq, Bool.false_eq_true, Bool.true_eq_false, Nat.reduceAdd, Nat.reduceLT, Nat.reduceEqDiff, Nat.reduceLeDiff, Nat.reduceSub, Nat.reduceMul, Try.f98, h', not_true_eq_false]
    refine V.call rfl rfl (by simp [dOK]) ⟨101, [], by simp only [go_sem, ↓reduceIte, reduceCtorEq, Bool.false_eq_true, Bool.true_eq_false, Nat.reduceAdd, Nat.reduceLT, Nat.reduceEqDiff, Nat.reduceLeDiff, Nat.reduceSub, Nat.reduceMul], ⟨_, rfl, rfl, rfl⟩, .inl ⟨[.str v, .int .i64 8], _, .inl (by simp only [go_sem, ↓reduceIte, reduceCtorEq, Bool.false_eq_true, Bool.true_eq_false, Nat.reduceAdd, Nat.reduceLT, Nat.reduceEqDiff, Nat.reduceLeDiff, Nat.reduceSub, Nat.reduceMul]), ref01_Take v h, .inr (.inl ⟨_, rfl, rfl, rfl⟩)⟩⟩ ?_
    refine V.exec 400 ?_
    simp (config := {contextual := true}) only [go_sem, ↓reduceIte, reduceCtorEq, Bool.false_eq_true, Bool.true_eq_false, Nat.reduceAdd, Nat.reduceLT, Nat.reduceEqDiff, Nat.reduceLeDiff, Nat.reduceSub, Nat.reduceMul]
    simp [numV, h]
  · have h' : ¬ (v.length : Int) = 8 := by omega
    simp (config := {contextual := true}) only [go_sem, ↓reduceIte, reduceCtorEq, Bool.false_eq_true, Bool.true_eq_false, Nat.reduceAdd, Nat.reduceLT, Nat.reduceEqDiff, Nat.reduceLeDiff, Nat.reduceSub, Nat.reduceMul, Try.f98, h']
    simp [numV, h]

set_option maxHeartbeats 4000000 in
theorem ref01_Num (n : Int) (h0 : 0 ≤ n) (hn : n < 18446744073709551616) : Ct Try.prog 97 (YtjhjnphcdpjnbaaVm.ops [.int .u64 n, .int .i64 8]) (.vals [.str (beB n 8), .int .i64 0]) := by
  refine Ct.of_V Try.func97 rfl (by simp [YtjhjnphcdpjnbaaVm.ops, Try.f97]) ?_
  refine V.exec 400 ?_
  have h1 : ¬ (8 : Int) < 1 := by decide
  have h2 : ¬ (8 : Int) < 8 := by decide
  simp (config := {contextual := true}) only [go_sem, ↓reduceIte, reduceCtorEq, Bool.false_eq_true, Bool.true_eq_false, Nat.reduceAdd, Nat.reduceLT, Nat.reduceEqDiff, Nat.reduceLeDiff, Nat.reduceSub, Nat.reduceMul, Try.f97, h1, h2]
  refine V.loop (fun m ls os => ∃ (i : Nat), i ≤ 8 ∧ m = 8 - i ∧
        ls = [(0, .val (.int .u64 (n / 256 ^ i))), (1, .val (.int .i64 8)), (6, .val (.str (beB n i))), (7, .val (.int .i64 i))] ∧ os = []) 0 8
      [(0, .val (.int .u64 n)), (1, .val (.int .i64 8)), (6, .val (.str [])), (7, .val (.int .i64 0))] [] []
      ⟨0, Nat.zero_le _, rfl, by simp [beB], rfl⟩ (by simp only [go_sem, ↓reduceIte, reduceCtorEq, Bool.false_eq_true, Bool.true_eq_false, Nat.reduceAdd, Nat.reduceLT, Nat.reduceEqDiff, Nat.reduceLeDiff, Nat.reduceSub, Nat.reduceMul]) ?_
  rintro m ls os ⟨i, hi, rfl, rfl, rfl⟩
  refine V.exec 400 ?_
  by_cases hlt : i < 8
  · have hlt' : (i : Int) < 8 := by omega
    have hw : IntKind.i64.wrap ((i : Int) + 1) = ((i + 1 : Nat) : Int) := by rw [wrap_small3] <;> omega
    have hq0 : 0 ≤ n / 256 ^ i := Int.ediv_nonneg h0 (Int.le_of_lt (Int.pow_pos (by decide)))
    have hql : n / 256 ^ i ≤ n := Int.ediv_le_self _ h0
    have hmod : (n / 256 ^ i).tmod 256 = n / 256 ^ i % 256 := Int.tmod_eq_emod_of_nonneg hq0
    have hdiv : (n / 256 ^ i).tdiv 256 = n / 256 ^ (i + 1) := by
      rw [Int.tdiv_eq_ediv_of_nonneg hq0, Int.pow_succ, Int.ediv_ediv_of_nonneg (Int.le_of_lt (Int.pow_pos (by decide)))]
    have hqn : 0 ≤ n / 256 ^ (i + 1) := Int.ediv_nonneg h0 (Int.le_of_lt (Int.pow_pos (by decide)))
    have hqm : n / 256 ^ (i + 1) ≤ n := Int.ediv_le_self _ h0
    have hwq : IntKind.u64.wrap (n / 256 ^ (i + 1)) = n / 256 ^ (i + 1) := by rw [wrap_u64] <;> omega
    have hc8 : IntKind.u8.wrap (n / 256 ^ i % 256) = n / 256 ^ i % 256 := by simp [IntKind.wrap, IntKind.bits, IntKind.signed]
    have h256 : ¬ (256 : Int) = 0 := by decide
    have hbs := beB_succ n i
    have hbl := beB_len n i
    have hby : bytesOf [PV.int .u8 (n / 256 ^ i % 256)] = some [UInt8.ofNat (n / 256 ^ i % 256).toNat] := rfl
    simp (config := {contextual := true}) only [go_sem, ↓reduceIte, reduceCtorEq, Bool.false_eq_true, Bool.true_eq_false, Nat.reduceAdd, Nat.reduceLT, Nat.reduceEqDiff, Nat.reduceLeDiff, Nat.reduceSub, Nat.reduceMul, hlt', hw, hmod, hdiv, hwq, hc8, h256, hby, hbl, List.cons_append, ← hbs]
    exact ⟨by omega, 8 - (i + 1), _, [], [], by omega, ⟨i + 1, by omega, rfl, rfl, rfl⟩, by simp only [go_sem, ↓reduceIte, reduceCtorEq, Bool.false_eq_true, Bool.true_eq_false, Nat.reduceAdd, Nat.reduceLT, Nat.reduceEqDiff, Nat.reduceLeDiff, Nat.reduceSub, Nat.reduceMul]⟩
  · have hlt' : ¬ (i : Int) < 8 := by omega
    obtain rfl : i = 8 := by omega
    have hz : n / 256 ^ 8 = 0 := by omega
    have hz' : ¬ (0 : Int) < 0 := by decide
    simp (config := {contextual := true}) only [go_sem, ↓reduceIte, reduceCtorEq, Bool.false_eq_true, Bool.true_eq_false, Nat.reduceAdd, Nat.reduceLT, Nat.reduceEqDiff, Nat.reduceLeDiff, Nat.reduceSub, Nat.reduceMul, hlt', hz, hz']

theorem u64_wrap_lt (x : Int) : IntKind.u64.wrap x < 18446744073709551616 := by simp [IntKind.wrap, IntKind.bits, IntKind.signed]; omega

set_option maxHeartbeats 4000000 in
theorem ref09_Right (x : Note) : Ct Try.prog 83 (YtjhjnphcdpjnbaaVm.ops [x.pv]) (.vals [.bool (decide x.ok)]) := by
  refine Ct.of_V Try.func83 rfl (by simp [YtjhjnphcdpjnbaaVm.ops, Try.f83]) ?_
  refine V.exec 400 ?_
  simp (config := {contextual := true}) only [go_sem, ↓reduceIte, reduceCtorEq, Bool.false_eq_true, Bool.true_eq_false, Nat.reduceAdd, Nat.reduceLT, Nat.reduceEqDiff, Nat.reduceLeDiff, Nat.reduceSub, Nat.reduceMul, Try.f83, Note.pv]
  simp only [Option.some.injEq, List.cons.injEq, PV.bool.injEq, and_true]
  (repeat' (first | (intro _) | (refine ⟨by kernel_rfl, ?_⟩) | (apply And.intro)))
  all_goals grind [Note.ok]

def notesOk' (ns : List Note) : Prop := ∀ x ∈ ns, x.ok
instance instNotesOk' (ns : List Note) : Decidable (notesOk' ns) := by unfold notesOk'; infer_instance

set_option maxHeartbeats 4000000 in
theorem ref09_All (l : List Note) (hl : l.length ≤ 1000000) : Ct Try.prog 58 (YtjhjnphcdpjnbaaVm.ops [.row (l.map Note.pv)]) (.vals [.bool (decide (notesOk' l))]) := by
  refine Ct.of_V Try.func58 rfl (by simp [YtjhjnphcdpjnbaaVm.ops, Try.f58]) ?_
  refine V.exec 400 ?_
  simp (config := {contextual := true}) only [go_sem, ↓reduceIte, reduceCtorEq, Bool.false_eq_true, Bool.true_eq_false, Nat.reduceAdd, Nat.reduceLT, Nat.reduceEqDiff, Nat.reduceLeDiff, Nat.reduceSub, Nat.reduceMul, Try.f58]
  refine V.loop (fun m ls os => ∃ (i : Nat), i ≤ l.length ∧ m = l.length - i ∧ (∀ x ∈ l.take i, x.ok) ∧
        ls = [(0, .val (.row (l.map Note.pv))), (3, .val (.int .i64 i))] ∧ os = []) 0 l.length
      [(0, .val (.row (l.map Note.pv))), (3, .val (.int .i64 0))] [] []
      ⟨0, Nat.zero_le _, rfl, by simp, rfl, rfl⟩ (by simp only [go_sem, ↓reduceIte, reduceCtorEq, Bool.false_eq_true, Bool.true_eq_false, Nat.reduceAdd, Nat.reduceLT, Nat.reduceEqDiff, Nat.reduceLeDiff, Nat.reduceSub, Nat.reduceMul]) ?_
  rintro m ls os ⟨i, hi, rfl, hno, rfl, rfl⟩
  refine V.exec 400 ?_
  by_cases hlt : i < l.length
  · have hlt' : (i : Int) < (l.length : Int) := by omega
    obtain ⟨x, hx⟩ : ∃ x, l[i]? = some x := ⟨_, List.getElem?_eq_getElem hlt⟩
    have hw : IntKind.i64.wrap ((i : Int) + 1) = ((i + 1 : Nat) : Int) := by rw [wrap_small3] <;> omega
    simp (config := {contextual := true}) only [go_sem, ↓reduceIte, reduceCtorEq, Bool.false_eq_true, Bool.true_eq_false, Nat.reduceAdd, Nat.reduceLT, Nat.reduceEqDiff, Nat.reduceLeDiff, Nat.reduceSub, Nat.reduceMul, hlt', hx, Note.pv]
    refine V.call rfl rfl (by simp [dOK]) ⟨83, [], by simp only [go_sem, ↓reduceIte, reduceCtorEq, Bool.false_eq_true, Bool.true_eq_false, Nat.reduceAdd, Nat.reduceLT, Nat.reduceEqDiff, Nat.reduceLeDiff, Nat.reduceSub, Nat.reduceMul], ⟨_, rfl, rfl, rfl⟩, .inl ⟨[x.pv], _, .inl (by simp only [go_sem, ↓reduceIte, reduceCtorEq, Bool.false_eq_true, Bool.true_eq_false, Nat.reduceAdd, Nat.reduceLT, Nat.reduceEqDiff, Nat.reduceLeDiff, Nat.reduceSub, Nat.reduceMul, Note.pv]), ref09_Right x, .inl ⟨_, rfl, rfl, rfl, rfl⟩⟩⟩ ?_
    refine V.exec 400 ?_
    by_cases hk : x.ok
    · simp (config := {contextual := true}) only [go_sem, ↓reduceIte, reduceCtorEq, Bool.false_eq_true, Bool.true_eq_false, Nat.reduceAdd, Nat.reduceLT, Nat.reduceEqDiff, Nat.reduceLeDiff, Nat.reduceSub, Nat.reduceMul, hk, hw]
      refine ⟨l.length - (i + 1), _, [], [], by omega, ⟨i + 1, by omega, rfl, fun s hs => ?_, rfl, rfl⟩, by simp only [go_sem, ↓reduceIte, reduceCtorEq, Bool.false_eq_true, Bool.true_eq_false, Nat.reduceAdd, Nat.reduceLT, Nat.reduceEqDiff, Nat.reduceLeDiff, Nat.reduceSub, Nat.reduceMul]⟩
      rw [List.take_add_one, hx] at hs
      rcases List.mem_append.1 hs with hs | hs
      · exact hno s hs
      · simp at hs; rw [hs]; exact hk
    · have : ¬ notesOk' l := fun h => hk (h x (List.mem_of_getElem? hx))
      simp (config := {contextual := true}) only [go_sem, ↓reduceIte, reduceCtorEq, Bool.false_eq_true, Bool.true_eq_false, Nat.reduceAdd, Nat.reduceLT, Nat.reduceEqDiff, Nat.reduceLeDiff, Nat.reduceSub, Nat.reduceMul, hk, this]
  · have hlt' : ¬ (i : Int) < (l.length : Int) := by omega
    rw [List.take_of_length_le (by omega)] at hno
    have : notesOk' l := hno
    simp (config := {contextual := true}) only [go_sem, ↓reduceIte, reduceCtorEq, Bool.false_eq_true, Bool.true_eq_false, Nat.reduceAdd, Nat.reduceLT, Nat.reduceEqDiff, Nat.reduceLeDiff, Nat.reduceSub, Nat.reduceMul, hlt', this, decide_true]

set_option maxRecDepth 4000 in
set_option maxHeartbeats 8000000 in
theorem ref09_Done (v : List UInt8) (has : Bool) (l : List Note) (hl : l.length ≤ 1000000) : Ct Try.prog 84 (YtjhjnphcdpjnbaaVm.ops [.str v, .bool (decide (has = true)), .row (l.map Note.pv)])
    (.vals [.str (doneV v has l).1, .bool (decide ((doneV v has l).2 = true))]) := by
  generalize hD : doneV v has l = D
  unfold doneV at hD
  refine Ct.of_V Try.func84 rfl (by simp [YtjhjnphcdpjnbaaVm.ops, Try.f84]) ?_
  refine V.exec 400 ?_
  cases has
  all_goals simp only [Bool.false_eq_true, ↓reduceIte] at hD
  all_goals simp (config := {contextual := true}) only [go_sem, ↓reduceIte, reduceCtorEq, Bool.false_eq_true, Bool.true_eq_false, Nat.reduceAdd, Nat.reduceLT, Nat.reduceEqDiff, Nat.reduceLeDiff, Nat.reduceSub, Nat.reduceMul, Try.f84, decide_true, decide_false]
  all_goals refine V.loop (fun m ls os => ∃ (i : Nat) (u : List UInt8) (h : Bool), i ≤ l.length ∧ m = l.length - i ∧ (l.drop i).foldl doneOne (u, h) = D ∧ ls = [(0, .val (.str u)), (1, .val (.bool (decide (h = true)))), (2, .val (.row (l.map Note.pv))), (8, .val (.int .i64 i))] ∧ os = []) 0 l.length _ _ [] ⟨0, _, _, Nat.zero_le _, rfl, hD, rfl, rfl⟩ (by simp only [go_sem, ↓reduceIte, reduceCtorEq, Bool.false_eq_true, Bool.true_eq_false, Nat.reduceAdd, Nat.reduceLT, Nat.reduceEqDiff, Nat.reduceLeDiff, Nat.reduceSub, Nat.reduceMul, decide_true, decide_false]; try rfl) ?_
  all_goals rintro m ls os ⟨i, u, h, hi, rfl, hf, rfl, rfl⟩
  all_goals refine V.exec 400 ?_
  all_goals by_cases hlt : i < l.length
  case neg =>
    have hlt' : ¬ (i : Int) < (l.length : Int) := by omega
    have hd : l.drop i = [] := List.drop_eq_nil_of_le (by omega)
    rw [hd, List.foldl_nil] at hf
    subst hf
    simp (config := {contextual := true}) only [go_sem, ↓reduceIte, reduceCtorEq, Bool.false_eq_true, Bool.true_eq_false, Nat.reduceAdd, Nat.reduceLT, Nat.reduceEqDiff, Nat.reduceLeDiff, Nat.reduceSub, Nat.reduceMul, hlt']
  case neg =>
    have hlt' : ¬ (i : Int) < (l.length : Int) := by omega
    have hd : l.drop i = [] := List.drop_eq_nil_of_le (by omega)
    rw [hd, List.foldl_nil] at hf
    subst hf
    simp (config := {contextual := true}) only [go_sem, ↓reduceIte, reduceCtorEq, Bool.false_eq_true, Bool.true_eq_false, Nat.reduceAdd, Nat.reduceLT, Nat.reduceEqDiff, Nat.reduceLeDiff, Nat.reduceSub, Nat.reduceMul, hlt']
  all_goals
    have hlt' : (i : Int) < (l.length : Int) := by omega
    obtain ⟨x, hx⟩ : ∃ x, l[i]? = some x := ⟨_, List.getElem?_eq_getElem hlt⟩
    have hw : IntKind.i64.wrap ((i : Int) + 1) = ((i + 1 : Nat) : Int) := by rw [wrap_small3] <;> omega
    rw [drop_of_get hx, List.foldl_cons] at hf
    have h12 : ¬ (1 : Int) = 2 := by decide
    have h13 : ¬ (1 : Int) = 3 := by decide
    have h23 : ¬ (2 : Int) = 3 := by decide
    have h21 : ¬ (2 : Int) = 1 := by decide
    have h31 : ¬ (3 : Int) = 1 := by decide
    have h32 : ¬ (3 : Int) = 2 := by decide
    by_cases h1 : x.kind = 1
    · have e : doneOne (u, h) x = (x.value, true) := by simp [doneOne, h1]
      rw [e] at hf
      simp (config := {contextual := true}) only [go_sem, ↓reduceIte, reduceCtorEq, Bool.false_eq_true, Bool.true_eq_false, Nat.reduceAdd, Nat.reduceLT, Nat.reduceEqDiff, Nat.reduceLeDiff, Nat.reduceSub, Nat.reduceMul, hlt', hx, Note.pv, hw, h1, h12, h13]
      exact ⟨l.length - (i + 1), _, [], [], by omega, ⟨i + 1, _, _, by omega, rfl, hf, rfl, rfl⟩, by simp only [go_sem, ↓reduceIte, reduceCtorEq, Bool.false_eq_true, Bool.true_eq_false, Nat.reduceAdd, Nat.reduceLT, Nat.reduceEqDiff, Nat.reduceLeDiff, Nat.reduceSub, Nat.reduceMul, decide_true]⟩
    · by_cases h2 : x.kind = 2
      · have e : doneOne (u, h) x = ([], false) := by simp [doneOne, h2]
        rw [e] at hf
        simp (config := {contextual := true}) only [go_sem, ↓reduceIte, reduceCtorEq, Bool.false_eq_true, Bool.true_eq_false, Nat.reduceAdd, Nat.reduceLT, Nat.reduceEqDiff, Nat.reduceLeDiff, Nat.reduceSub, Nat.reduceMul, hlt', hx, Note.pv, hw, h2, h21, h23]
        exact ⟨l.length - (i + 1), _, [], [], by omega, ⟨i + 1, _, _, by omega, rfl, hf, rfl, rfl⟩, by simp only [go_sem, ↓reduceIte, reduceCtorEq, Bool.false_eq_true, Bool.true_eq_false, Nat.reduceAdd, Nat.reduceLT, Nat.reduceEqDiff, Nat.reduceLeDiff, Nat.reduceSub, Nat.reduceMul, decide_false]⟩
      · by_cases h3 : x.kind = 3
        · have e : doneOne (u, h) x = (beB (IntKind.u64.wrap (numV u + x.n)) 8, true) := by simp [doneOne, h3]
          rw [e] at hf
          have hn := ref01_Num _ (u64_wrap_nonneg (numV u + x.n)) (u64_wrap_lt (numV u + x.n))
          simp (config := {contextual := true}) only [go_sem, ↓reduceIte, reduceCtorEq, Bool.false_eq_true, Bool.true_eq_false, Nat.reduceAdd, Nat.reduceLT, Nat.reduceEqDiff, Nat.reduceLeDiff, Nat.reduceSub, Nat.reduceMul, hlt', hx, Note.pv, hw, h3, h31, h32]
          refine DV.call [] [] (by simp only [go_sem, ↓reduceIte, reduceCtorEq, Bool.false_eq_true, Bool.true_eq_false, Nat.reduceAdd, Nat.reduceLT, Nat.reduceEqDiff, Nat.reduceLeDiff, Nat.reduceSub, Nat.reduceMul]) (by simp [dOK]) ⟨98, [], by simp only [go_sem, ↓reduceIte, reduceCtorEq, Bool.false_eq_true, Bool.true_eq_false, Nat.reduceAdd, Nat.reduceLT, Nat.reduceEqDiff, Nat.reduceLeDiff, Nat.reduceSub, Nat.reduceMul], ⟨_, rfl, rfl, rfl⟩, .inl ⟨[.str u], _, .inl (by simp only [go_sem, ↓reduceIte, reduceCtorEq, Bool.false_eq_true, Bool.true_eq_false, Nat.reduceAdd, Nat.reduceLT, Nat.reduceEqDiff, Nat.reduceLeDiff, Nat.reduceSub, Nat.reduceMul]), ref09_Number u, .inl ⟨_, rfl, rfl, rfl, rfl⟩⟩⟩ (by simp only [go_sem, ↓reduceIte, reduceCtorEq, Bool.false_eq_true, Bool.true_eq_false, Nat.reduceAdd, Nat.reduceLT, Nat.reduceEqDiff, Nat.reduceLeDiff, Nat.reduceSub, Nat.reduceMul]) (by simp only [go_sem, ↓reduceIte, reduceCtorEq, Bool.false_eq_true, Bool.true_eq_false, Nat.reduceAdd, Nat.reduceLT, Nat.reduceEqDiff, Nat.reduceLeDiff, Nat.reduceSub, Nat.reduceMul]) (by simp only [go_sem, ↓reduceIte, reduceCtorEq, Bool.false_eq_true, Bool.true_eq_false, Nat.reduceAdd, Nat.reduceLT, Nat.reduceEqDiff, Nat.reduceLeDiff, Nat.reduceSub, Nat.reduceMul]) (by simp) ?_
          refine DV.exec 400 ?_
          simp (config := {contextual := true}) only [go_sem, ↓reduceIte, reduceCtorEq, Bool.false_eq_true, Bool.true_eq_false, Nat.reduceAdd, Nat.reduceLT, Nat.reduceEqDiff, Nat.reduceLeDiff, Nat.reduceSub, Nat.reduceMul, hlt', hx, Note.pv]
          refine DV.call [] [] (by simp only [go_sem, ↓reduceIte, reduceCtorEq, Bool.false_eq_true, Bool.true_eq_false, Nat.reduceAdd, Nat.reduceLT, Nat.reduceEqDiff, Nat.reduceLeDiff, Nat.reduceSub, Nat.reduceMul]) (by simp [dOK]) ⟨97, [], by simp only [go_sem, ↓reduceIte, reduceCtorEq, Bool.false_eq_true, Bool.true_eq_false, Nat.reduceAdd, Nat.reduceLT, Nat.reduceEqDiff, Nat.reduceLeDiff, Nat.reduceSub, Nat.reduceMul], ⟨_, rfl, rfl, rfl⟩, .inl ⟨[.int .u64 (IntKind.u64.wrap (numV u + x.n)), .int .i64 8], _, .inl (by simp only [go_sem, ↓reduceIte, reduceCtorEq, Bool.false_eq_true, Bool.true_eq_false, Nat.reduceAdd, Nat.reduceLT, Nat.reduceEqDiff, Nat.reduceLeDiff, Nat.reduceSub, Nat.reduceMul]), hn, .inr (.inl ⟨_, rfl, rfl, rfl⟩)⟩⟩ (by simp only [go_sem, ↓reduceIte, reduceCtorEq, Bool.false_eq_true, Bool.true_eq_false, Nat.reduceAdd, Nat.reduceLT, Nat.reduceEqDiff, Nat.reduceLeDiff, Nat.reduceSub, Nat.reduceMul]) (by simp only [go_sem, ↓reduceIte, reduceCtorEq, Bool.false_eq_true, Bool.true_eq_false, Nat.reduceAdd, Nat.reduceLT, Nat.reduceEqDiff, Nat.reduceLeDiff, Nat.reduceSub, Nat.reduceMul]) (by simp only [go_sem, ↓reduceIte, reduceCtorEq, Bool.false_eq_true, Bool.true_eq_false, Nat.reduceAdd, Nat.reduceLT, Nat.reduceEqDiff, Nat.reduceLeDiff, Nat.reduceSub, Nat.reduceMul]) (by simp) ?_
          refine DV.exec 400 ?_
          simp (config := {contextual := true}) only [go_sem, ↓reduceIte, reduceCtorEq, Bool.false_eq_true, Bool.true_eq_false, Nat.reduceAdd, Nat.reduceLT, Nat.reduceEqDiff, Nat.reduceLeDiff, Nat.reduceSub, Nat.reduceMul, hw]
          (repeat' (first | (intro _) | (refine ⟨by kernel_rfl, ?_⟩) | (apply And.intro)))
          exact ⟨l.length - (i + 1), _, [], [], by omega, ⟨i + 1, _, _, by omega, rfl, hf, rfl, rfl⟩, by simp only [go_sem, ↓reduceIte, reduceCtorEq, Bool.false_eq_true, Bool.true_eq_false, Nat.reduceAdd, Nat.reduceLT, Nat.reduceEqDiff, Nat.reduceLeDiff, Nat.reduceSub, Nat.reduceMul, decide_true]⟩
        · have e : doneOne (u, h) x = (u, h) := by simp [doneOne, h1, h2, h3]
          rw [e] at hf
          simp (config := {contextual := true}) only [go_sem, ↓reduceIte, reduceCtorEq, Bool.false_eq_true, Bool.true_eq_false, Nat.reduceAdd, Nat.reduceLT, Nat.reduceEqDiff, Nat.reduceLeDiff, Nat.reduceSub, Nat.reduceMul, hlt', hx, Note.pv, hw, h1, h2, h3]
          exact ⟨l.length - (i + 1), _, [], [], by omega, ⟨i + 1, _, _, by omega, rfl, hf, rfl, rfl⟩, by simp only [go_sem, ↓reduceIte, reduceCtorEq, Bool.false_eq_true, Bool.true_eq_false, Nat.reduceAdd, Nat.reduceLT, Nat.reduceEqDiff, Nat.reduceLeDiff, Nat.reduceSub, Nat.reduceMul]⟩
end Go.Proofs.Ytjhjnphcdpjnbaa
