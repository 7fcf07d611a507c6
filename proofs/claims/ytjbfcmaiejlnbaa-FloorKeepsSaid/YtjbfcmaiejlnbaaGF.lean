/- A part of a proof: functions of the program, walked. -/
import Derived.Test.YtjbfcmaiejlnbaaProg
import Derived.Test.YtjbfcmaiejlnbaaGD
import Derived.KernelRfl
set_option linter.unusedVariables false
namespace Go.Proofs.Ytjbfcmaiejlnbaa.Ty
open Go Go.Proofs Go.Proofs.YtjbfcmaiejlnbaaVm
theorem sz2 : szOf Try.prog 2 = some 1 := by kernel_rfl
theorem by2 : byOf Try.prog 2 = some 8 := by kernel_rfl
theorem ag2 : aggOf Try.prog 2 = some false := by kernel_rfl
theorem un2 : Try.prog.underlying 2 = some (.int .i64) := by kernel_rfl
theorem zr2 : zeroOf Try.prog 2 = some [.val (.int .i64 0)] := by kernel_rfl
theorem sz3 : szOf Try.prog 3 = some 1 := by kernel_rfl
theorem by3 : byOf Try.prog 3 = some 8 := by kernel_rfl
theorem ag3 : aggOf Try.prog 3 = some false := by kernel_rfl
theorem un3 : Try.prog.underlying 3 = some (.int .i64) := by kernel_rfl
theorem zr3 : zeroOf Try.prog 3 = some [.val (.int .i64 0)] := by kernel_rfl
theorem sz4 : szOf Try.prog 4 = some 1 := by kernel_rfl
theorem by4 : byOf Try.prog 4 = some 1 := by kernel_rfl
theorem ag4 : aggOf Try.prog 4 = some false := by kernel_rfl
theorem un4 : Try.prog.underlying 4 = some .bool := by kernel_rfl
theorem zr4 : zeroOf Try.prog 4 = some [.val (.bool false)] := by kernel_rfl
theorem sz5 : szOf Try.prog 5 = some 1 := by kernel_rfl
theorem by5 : byOf Try.prog 5 = some 1 := by kernel_rfl
theorem ag5 : aggOf Try.prog 5 = some false := by kernel_rfl
theorem un5 : Try.prog.underlying 5 = some (.int .u8) := by kernel_rfl
theorem zr5 : zeroOf Try.prog 5 = some [.val (.int .u8 0)] := by kernel_rfl
theorem sz6 : szOf Try.prog 6 = some 1 := by kernel_rfl
theorem by6 : byOf Try.prog 6 = some 1 := by kernel_rfl
theorem ag6 : aggOf Try.prog 6 = some false := by kernel_rfl
theorem un6 : Try.prog.underlying 6 = some (.int .u8) := by kernel_rfl
theorem zr6 : zeroOf Try.prog 6 = some [.val (.int .u8 0)] := by kernel_rfl
theorem sz7 : szOf Try.prog 7 = some 4 := by kernel_rfl
theorem by7 : byOf Try.prog 7 = some 24 := by kernel_rfl
theorem ag7 : aggOf Try.prog 7 = some true := by kernel_rfl
theorem fld7_0 : fldOf Try.prog 7 0 = some (0, 2) := by kernel_rfl
theorem fld7_1 : fldOf Try.prog 7 1 = some (1, 3) := by kernel_rfl
theorem fld7_2 : fldOf Try.prog 7 2 = some (2, 4) := by kernel_rfl
theorem fld7_3 : fldOf Try.prog 7 3 = some (3, 6) := by kernel_rfl
theorem pl7 : plOf Try.prog 7 = some [(0, 1), (1, 1), (2, 1), (3, 1)] := by kernel_rfl
theorem eq7 : EqT Try.prog 7 [.int .i64, .int .i64, .bool, .int .u8] := EqT.of (by kernel_rfl) (by kernel_rfl) (by kernel_rfl)
theorem zr7 : zeroOf Try.prog 7 = some [.val (.int .i64 0), .val (.int .i64 0), .val (.bool false), .val (.int .u8 0)] := by kernel_rfl
theorem sz8 : szOf Try.prog 8 = some 4 := by kernel_rfl
theorem by8 : byOf Try.prog 8 = some 24 := by kernel_rfl
theorem ag8 : aggOf Try.prog 8 = some true := by kernel_rfl
theorem fld8_0 : fldOf Try.prog 8 0 = some (0, 2) := by kernel_rfl
theorem fld8_1 : fldOf Try.prog 8 1 = some (1, 3) := by kernel_rfl
theorem fld8_2 : fldOf Try.prog 8 2 = some (2, 4) := by kernel_rfl
theorem fld8_3 : fldOf Try.prog 8 3 = some (3, 6) := by kernel_rfl
theorem pl8 : plOf Try.prog 8 = some [(0, 1), (1, 1), (2, 1), (3, 1)] := by kernel_rfl
theorem eq8 : EqT Try.prog 8 [.int .i64, .int .i64, .bool, .int .u8] := EqT.of (by kernel_rfl) (by kernel_rfl) (by kernel_rfl)
theorem zr8 : zeroOf Try.prog 8 = some [.val (.int .i64 0), .val (.int .i64 0), .val (.bool false), .val (.int .u8 0)] := by kernel_rfl
theorem sz9 : szOf Try.prog 9 = some 1 := by kernel_rfl
theorem by9 : byOf Try.prog 9 = some 16 := by kernel_rfl
theorem ag9 : aggOf Try.prog 9 = some false := by kernel_rfl
theorem un9 : Try.prog.underlying 9 = some .string := by kernel_rfl
theorem zr9 : zeroOf Try.prog 9 = some [.val (.str [])] := by kernel_rfl
theorem sz10 : szOf Try.prog 10 = some 1 := by kernel_rfl
theorem by10 : byOf Try.prog 10 = some 16 := by kernel_rfl
theorem ag10 : aggOf Try.prog 10 = some false := by kernel_rfl
theorem un10 : Try.prog.underlying 10 = some .string := by kernel_rfl
theorem zr10 : zeroOf Try.prog 10 = some [.val (.str [])] := by kernel_rfl
theorem sz11 : szOf Try.prog 11 = some 1 := by kernel_rfl
theorem by11 : byOf Try.prog 11 = some 16 := by kernel_rfl
theorem ag11 : aggOf Try.prog 11 = some false := by kernel_rfl
theorem un11 : Try.prog.underlying 11 = some .string := by kernel_rfl
theorem zr11 : zeroOf Try.prog 11 = some [.val (.str [])] := by kernel_rfl
theorem sz12 : szOf Try.prog 12 = some 1 := by kernel_rfl
theorem by12 : byOf Try.prog 12 = some 8 := by kernel_rfl
theorem ag12 : aggOf Try.prog 12 = some false := by kernel_rfl
theorem un12 : Try.prog.underlying 12 = some (.int .u64) := by kernel_rfl
theorem zr12 : zeroOf Try.prog 12 = some [.val (.int .u64 0)] := by kernel_rfl
theorem sz13 : szOf Try.prog 13 = some 2 := by kernel_rfl
theorem by13 : byOf Try.prog 13 = some 24 := by kernel_rfl
theorem ag13 : aggOf Try.prog 13 = some true := by kernel_rfl
theorem fld13_0 : fldOf Try.prog 13 0 = some (0, 9) := by kernel_rfl
theorem fld13_1 : fldOf Try.prog 13 1 = some (1, 12) := by kernel_rfl
theorem pl13 : plOf Try.prog 13 = some [(0, 1), (1, 1)] := by kernel_rfl
theorem zr13 : zeroOf Try.prog 13 = some [.val (.str []), .val (.int .u64 0)] := by kernel_rfl
theorem sz14 : szOf Try.prog 14 = some 2 := by kernel_rfl
theorem by14 : byOf Try.prog 14 = some 24 := by kernel_rfl
theorem ag14 : aggOf Try.prog 14 = some true := by kernel_rfl
theorem fld14_0 : fldOf Try.prog 14 0 = some (0, 9) := by kernel_rfl
theorem fld14_1 : fldOf Try.prog 14 1 = some (1, 12) := by kernel_rfl
theorem pl14 : plOf Try.prog 14 = some [(0, 1), (1, 1)] := by kernel_rfl
theorem zr14 : zeroOf Try.prog 14 = some [.val (.str []), .val (.int .u64 0)] := by kernel_rfl
theorem sz15 : szOf Try.prog 15 = some 1 := by kernel_rfl
theorem by15 : byOf Try.prog 15 = some 8 := by kernel_rfl
theorem ag15 : aggOf Try.prog 15 = some false := by kernel_rfl
theorem un15 : Try.prog.underlying 15 = some (.pointer 100) := by kernel_rfl
theorem zr15 : zeroOf Try.prog 15 = some [.val .nilp] := by kernel_rfl
theorem sz16 : szOf Try.prog 16 = some 1 := by kernel_rfl
theorem by16 : byOf Try.prog 16 = some 8 := by kernel_rfl
theorem ag16 : aggOf Try.prog 16 = some false := by kernel_rfl
theorem un16 : Try.prog.underlying 16 = some (.pointer 103) := by kernel_rfl
theorem zr16 : zeroOf Try.prog 16 = some [.val .nilp] := by kernel_rfl
theorem sz17 : szOf Try.prog 17 = some 1 := by kernel_rfl
theorem by17 : byOf Try.prog 17 = some 8 := by kernel_rfl
theorem ag17 : aggOf Try.prog 17 = some false := by kernel_rfl
theorem un17 : Try.prog.underlying 17 = some (.pointer 113) := by kernel_rfl
theorem zr17 : zeroOf Try.prog 17 = some [.val .nilp] := by kernel_rfl
theorem sz18 : szOf Try.prog 18 = some 1 := by kernel_rfl
theorem by18 : byOf Try.prog 18 = some 8 := by kernel_rfl
theorem ag18 : aggOf Try.prog 18 = some true := by kernel_rfl
theorem fld18_0 : fldOf Try.prog 18 0 = some (0, 17) := by kernel_rfl
theorem pl18 : plOf Try.prog 18 = some [(0, 1)] := by kernel_rfl
theorem zr18 : zeroOf Try.prog 18 = some [.val .nilp] := by kernel_rfl
theorem sz19 : szOf Try.prog 19 = some 1 := by kernel_rfl
theorem by19 : byOf Try.prog 19 = some 8 := by kernel_rfl
theorem ag19 : aggOf Try.prog 19 = some true := by kernel_rfl
theorem fld19_0 : fldOf Try.prog 19 0 = some (0, 17) := by kernel_rfl
theorem pl19 : plOf Try.prog 19 = some [(0, 1)] := by kernel_rfl
theorem zr19 : zeroOf Try.prog 19 = some [.val .nilp] := by kernel_rfl
theorem sz21 : szOf Try.prog 21 = some 1 := by kernel_rfl
theorem by21 : byOf Try.prog 21 = some 4 := by kernel_rfl
theorem ag21 : aggOf Try.prog 21 = some false := by kernel_rfl
theorem un21 : Try.prog.underlying 21 = some (.int .i32) := by kernel_rfl
theorem zr21 : zeroOf Try.prog 21 = some [.val (.int .i32 0)] := by kernel_rfl
theorem sz22 : szOf Try.prog 22 = some 1 := by kernel_rfl
theorem by22 : byOf Try.prog 22 = some 24 := by kernel_rfl
theorem ag22 : aggOf Try.prog 22 = some false := by kernel_rfl
theorem un22 : Try.prog.underlying 22 = some (.slice 27) := by kernel_rfl
theorem el22 : elOf Try.prog 22 = some 27 := by kernel_rfl
theorem zr22 : zeroOf Try.prog 22 = some [.nils] := by kernel_rfl
theorem sz24 : szOf Try.prog 24 = some 1 := by kernel_rfl
theorem by24 : byOf Try.prog 24 = some 24 := by kernel_rfl
theorem ag24 : aggOf Try.prog 24 = some false := by kernel_rfl
theorem un24 : Try.prog.underlying 24 = some (.slice 37) := by kernel_rfl
theorem el24 : elOf Try.prog 24 = some 37 := by kernel_rfl
theorem zr24 : zeroOf Try.prog 24 = some [.nils] := by kernel_rfl
theorem sz26 : szOf Try.prog 26 = some 2 := by kernel_rfl
theorem by26 : byOf Try.prog 26 = some 16 := by kernel_rfl
theorem ag26 : aggOf Try.prog 26 = some true := by kernel_rfl
theorem fld26_0 : fldOf Try.prog 26 0 = some (0, 4) := by kernel_rfl
theorem fld26_1 : fldOf Try.prog 26 1 = some (1, 3) := by kernel_rfl
theorem pl26 : plOf Try.prog 26 = some [(0, 1), (1, 1)] := by kernel_rfl
theorem eq26 : EqT Try.prog 26 [.bool, .int .i64] := EqT.of (by kernel_rfl) (by kernel_rfl) (by kernel_rfl)
theorem zr26 : zeroOf Try.prog 26 = some [.val (.bool false), .val (.int .i64 0)] := by kernel_rfl
theorem sz27 : szOf Try.prog 27 = some 2 := by kernel_rfl
theorem by27 : byOf Try.prog 27 = some 16 := by kernel_rfl
theorem ag27 : aggOf Try.prog 27 = some true := by kernel_rfl
theorem fld27_0 : fldOf Try.prog 27 0 = some (0, 4) := by kernel_rfl
theorem fld27_1 : fldOf Try.prog 27 1 = some (1, 3) := by kernel_rfl
theorem pl27 : plOf Try.prog 27 = some [(0, 1), (1, 1)] := by kernel_rfl
theorem eq27 : EqT Try.prog 27 [.bool, .int .i64] := EqT.of (by kernel_rfl) (by kernel_rfl) (by kernel_rfl)
theorem zr27 : zeroOf Try.prog 27 = some [.val (.bool false), .val (.int .i64 0)] := by kernel_rfl
theorem sz28 : szOf Try.prog 28 = some 1 := by kernel_rfl
theorem by28 : byOf Try.prog 28 = some 8 := by kernel_rfl
theorem ag28 : aggOf Try.prog 28 = some false := by kernel_rfl
theorem un28 : Try.prog.underlying 28 = some (.int .i64) := by kernel_rfl
theorem zr28 : zeroOf Try.prog 28 = some [.val (.int .i64 0)] := by kernel_rfl
theorem sz34 : szOf Try.prog 34 = some 3 := by kernel_rfl
theorem by34 : byOf Try.prog 34 = some 40 := by kernel_rfl
theorem ag34 : aggOf Try.prog 34 = some true := by kernel_rfl
theorem fld34_0 : fldOf Try.prog 34 0 = some (0, 9) := by kernel_rfl
theorem fld34_1 : fldOf Try.prog 34 1 = some (1, 9) := by kernel_rfl
theorem fld34_2 : fldOf Try.prog 34 2 = some (2, 4) := by kernel_rfl
theorem pl34 : plOf Try.prog 34 = some [(0, 1), (1, 1), (2, 1)] := by kernel_rfl
theorem eq34 : EqT Try.prog 34 [.str, .str, .bool] := EqT.of (by kernel_rfl) (by kernel_rfl) (by kernel_rfl)
theorem zr34 : zeroOf Try.prog 34 = some [.val (.str []), .val (.str []), .val (.bool false)] := by kernel_rfl
theorem sz35 : szOf Try.prog 35 = some 3 := by kernel_rfl
theorem by35 : byOf Try.prog 35 = some 40 := by kernel_rfl
theorem ag35 : aggOf Try.prog 35 = some true := by kernel_rfl
theorem fld35_0 : fldOf Try.prog 35 0 = some (0, 9) := by kernel_rfl
theorem fld35_1 : fldOf Try.prog 35 1 = some (1, 9) := by kernel_rfl
theorem fld35_2 : fldOf Try.prog 35 2 = some (2, 4) := by kernel_rfl
theorem pl35 : plOf Try.prog 35 = some [(0, 1), (1, 1), (2, 1)] := by kernel_rfl
theorem eq35 : EqT Try.prog 35 [.str, .str, .bool] := EqT.of (by kernel_rfl) (by kernel_rfl) (by kernel_rfl)
theorem zr35 : zeroOf Try.prog 35 = some [.val (.str []), .val (.str []), .val (.bool false)] := by kernel_rfl
theorem sz36 : szOf Try.prog 36 = some 7 := by kernel_rfl
theorem by36 : byOf Try.prog 36 = some 80 := by kernel_rfl
theorem ag36 : aggOf Try.prog 36 = some true := by kernel_rfl
theorem fld36_0 : fldOf Try.prog 36 0 = some (0, 3) := by kernel_rfl
theorem fld36_1 : fldOf Try.prog 36 1 = some (1, 35) := by kernel_rfl
theorem fld36_2 : fldOf Try.prog 36 2 = some (4, 4) := by kernel_rfl
theorem fld36_3 : fldOf Try.prog 36 3 = some (5, 9) := by kernel_rfl
theorem fld36_4 : fldOf Try.prog 36 4 = some (6, 3) := by kernel_rfl
theorem pl36 : plOf Try.prog 36 = some [(0, 1), (1, 3), (4, 1), (5, 1), (6, 1)] := by kernel_rfl
theorem eq36 : EqT Try.prog 36 [.int .i64, .str, .str, .bool, .bool, .str, .int .i64] := EqT.of (by kernel_rfl) (by kernel_rfl) (by kernel_rfl)
theorem zr36 : zeroOf Try.prog 36 = some [.val (.int .i64 0), .val (.str []), .val (.str []), .val (.bool false), .val (.bool false), .val (.str []), .val (.int .i64 0)] := by kernel_rfl
theorem sz37 : szOf Try.prog 37 = some 7 := by kernel_rfl
theorem by37 : byOf Try.prog 37 = some 80 := by kernel_rfl
theorem ag37 : aggOf Try.prog 37 = some true := by kernel_rfl
theorem fld37_0 : fldOf Try.prog 37 0 = some (0, 3) := by kernel_rfl
theorem fld37_1 : fldOf Try.prog 37 1 = some (1, 35) := by kernel_rfl
theorem fld37_2 : fldOf Try.prog 37 2 = some (4, 4) := by kernel_rfl
theorem fld37_3 : fldOf Try.prog 37 3 = some (5, 9) := by kernel_rfl
theorem fld37_4 : fldOf Try.prog 37 4 = some (6, 3) := by kernel_rfl
theorem pl37 : plOf Try.prog 37 = some [(0, 1), (1, 3), (4, 1), (5, 1), (6, 1)] := by kernel_rfl
theorem eq37 : EqT Try.prog 37 [.int .i64, .str, .str, .bool, .bool, .str, .int .i64] := EqT.of (by kernel_rfl) (by kernel_rfl) (by kernel_rfl)
theorem zr37 : zeroOf Try.prog 37 = some [.val (.int .i64 0), .val (.str []), .val (.str []), .val (.bool false), .val (.bool false), .val (.str []), .val (.int .i64 0)] := by kernel_rfl
theorem sz45 : szOf Try.prog 45 = some 1 := by kernel_rfl
theorem by45 : byOf Try.prog 45 = some 24 := by kernel_rfl
theorem ag45 : aggOf Try.prog 45 = some false := by kernel_rfl
theorem un45 : Try.prog.underlying 45 = some (.slice 68) := by kernel_rfl
theorem el45 : elOf Try.prog 45 = some 68 := by kernel_rfl
theorem zr45 : zeroOf Try.prog 45 = some [.nils] := by kernel_rfl
theorem sz51 : szOf Try.prog 51 = some 1 := by kernel_rfl
theorem by51 : byOf Try.prog 51 = some 24 := by kernel_rfl
theorem ag51 : aggOf Try.prog 51 = some false := by kernel_rfl
theorem un51 : Try.prog.underlying 51 = some (.slice 56) := by kernel_rfl
theorem el51 : elOf Try.prog 51 = some 56 := by kernel_rfl
theorem zr51 : zeroOf Try.prog 51 = some [.nils] := by kernel_rfl
theorem sz56 : szOf Try.prog 56 = some 7 := by kernel_rfl
theorem by56 : byOf Try.prog 56 = some 80 := by kernel_rfl
theorem ag56 : aggOf Try.prog 56 = some true := by kernel_rfl
theorem fld56_0 : fldOf Try.prog 56 0 = some (0, 3) := by kernel_rfl
theorem fld56_1 : fldOf Try.prog 56 1 = some (1, 35) := by kernel_rfl
theorem fld56_2 : fldOf Try.prog 56 2 = some (4, 4) := by kernel_rfl
theorem fld56_3 : fldOf Try.prog 56 3 = some (5, 9) := by kernel_rfl
theorem fld56_4 : fldOf Try.prog 56 4 = some (6, 3) := by kernel_rfl
theorem pl56 : plOf Try.prog 56 = some [(0, 1), (1, 3), (4, 1), (5, 1), (6, 1)] := by kernel_rfl
theorem eq56 : EqT Try.prog 56 [.int .i64, .str, .str, .bool, .bool, .str, .int .i64] := EqT.of (by kernel_rfl) (by kernel_rfl) (by kernel_rfl)
theorem zr56 : zeroOf Try.prog 56 = some [.val (.int .i64 0), .val (.str []), .val (.str []), .val (.bool false), .val (.bool false), .val (.str []), .val (.int .i64 0)] := by kernel_rfl
theorem sz67 : szOf Try.prog 67 = some 6 := by kernel_rfl
theorem by67 : byOf Try.prog 67 = some 72 := by kernel_rfl
theorem ag67 : aggOf Try.prog 67 = some true := by kernel_rfl
theorem fld67_0 : fldOf Try.prog 67 0 = some (0, 3) := by kernel_rfl
theorem fld67_1 : fldOf Try.prog 67 1 = some (1, 9) := by kernel_rfl
theorem fld67_2 : fldOf Try.prog 67 2 = some (2, 4) := by kernel_rfl
theorem fld67_3 : fldOf Try.prog 67 3 = some (3, 9) := by kernel_rfl
theorem fld67_4 : fldOf Try.prog 67 4 = some (4, 4) := by kernel_rfl
theorem fld67_5 : fldOf Try.prog 67 5 = some (5, 9) := by kernel_rfl
theorem pl67 : plOf Try.prog 67 = some [(0, 1), (1, 1), (2, 1), (3, 1), (4, 1), (5, 1)] := by kernel_rfl
theorem eq67 : EqT Try.prog 67 [.int .i64, .str, .bool, .str, .bool, .str] := EqT.of (by kernel_rfl) (by kernel_rfl) (by kernel_rfl)
theorem zr67 : zeroOf Try.prog 67 = some [.val (.int .i64 0), .val (.str []), .val (.bool false), .val (.str []), .val (.bool false), .val (.str [])] := by kernel_rfl
theorem sz68 : szOf Try.prog 68 = some 6 := by kernel_rfl
theorem by68 : byOf Try.prog 68 = some 72 := by kernel_rfl
theorem ag68 : aggOf Try.prog 68 = some true := by kernel_rfl
theorem fld68_0 : fldOf Try.prog 68 0 = some (0, 3) := by kernel_rfl
theorem fld68_1 : fldOf Try.prog 68 1 = some (1, 9) := by kernel_rfl
theorem fld68_2 : fldOf Try.prog 68 2 = some (2, 4) := by kernel_rfl
theorem fld68_3 : fldOf Try.prog 68 3 = some (3, 9) := by kernel_rfl
theorem fld68_4 : fldOf Try.prog 68 4 = some (4, 4) := by kernel_rfl
theorem fld68_5 : fldOf Try.prog 68 5 = some (5, 9) := by kernel_rfl
theorem pl68 : plOf Try.prog 68 = some [(0, 1), (1, 1), (2, 1), (3, 1), (4, 1), (5, 1)] := by kernel_rfl
theorem eq68 : EqT Try.prog 68 [.int .i64, .str, .bool, .str, .bool, .str] := EqT.of (by kernel_rfl) (by kernel_rfl) (by kernel_rfl)
theorem zr68 : zeroOf Try.prog 68 = some [.val (.int .i64 0), .val (.str []), .val (.bool false), .val (.str []), .val (.bool false), .val (.str [])] := by kernel_rfl
theorem sz78 : szOf Try.prog 78 = some 1 := by kernel_rfl
theorem by78 : byOf Try.prog 78 = some 24 := by kernel_rfl
theorem ag78 : aggOf Try.prog 78 = some false := by kernel_rfl
theorem un78 : Try.prog.underlying 78 = some (.slice 35) := by kernel_rfl
theorem el78 : elOf Try.prog 78 = some 35 := by kernel_rfl
theorem zr78 : zeroOf Try.prog 78 = some [.nils] := by kernel_rfl
theorem sz90 : szOf Try.prog 90 = some 1 := by kernel_rfl
theorem by90 : byOf Try.prog 90 = some 8 := by kernel_rfl
theorem ag90 : aggOf Try.prog 90 = some false := by kernel_rfl
theorem un90 : Try.prog.underlying 90 = some (.int .u64) := by kernel_rfl
theorem zr90 : zeroOf Try.prog 90 = some [.val (.int .u64 0)] := by kernel_rfl
theorem sz95 : szOf Try.prog 95 = some 2 := by kernel_rfl
theorem by95 : byOf Try.prog 95 = some 32 := by kernel_rfl
theorem ag95 : aggOf Try.prog 95 = some true := by kernel_rfl
theorem fld95_0 : fldOf Try.prog 95 0 = some (0, 9) := by kernel_rfl
theorem fld95_1 : fldOf Try.prog 95 1 = some (1, 9) := by kernel_rfl
theorem pl95 : plOf Try.prog 95 = some [(0, 1), (1, 1)] := by kernel_rfl
theorem eq95 : EqT Try.prog 95 [.str, .str] := EqT.of (by kernel_rfl) (by kernel_rfl) (by kernel_rfl)
theorem zr95 : zeroOf Try.prog 95 = some [.val (.str []), .val (.str [])] := by kernel_rfl
theorem sz96 : szOf Try.prog 96 = some 2 := by kernel_rfl
theorem by96 : byOf Try.prog 96 = some 32 := by kernel_rfl
theorem ag96 : aggOf Try.prog 96 = some true := by kernel_rfl
theorem fld96_0 : fldOf Try.prog 96 0 = some (0, 9) := by kernel_rfl
theorem fld96_1 : fldOf Try.prog 96 1 = some (1, 9) := by kernel_rfl
theorem pl96 : plOf Try.prog 96 = some [(0, 1), (1, 1)] := by kernel_rfl
theorem eq96 : EqT Try.prog 96 [.str, .str] := EqT.of (by kernel_rfl) (by kernel_rfl) (by kernel_rfl)
theorem zr96 : zeroOf Try.prog 96 = some [.val (.str []), .val (.str [])] := by kernel_rfl
theorem sz97 : szOf Try.prog 97 = some 1 := by kernel_rfl
theorem by97 : byOf Try.prog 97 = some 24 := by kernel_rfl
theorem ag97 : aggOf Try.prog 97 = some false := by kernel_rfl
theorem un97 : Try.prog.underlying 97 = some (.slice 96) := by kernel_rfl
theorem el97 : elOf Try.prog 97 = some 96 := by kernel_rfl
theorem zr97 : zeroOf Try.prog 97 = some [.nils] := by kernel_rfl
theorem sz99 : szOf Try.prog 99 = some 4 := by kernel_rfl
theorem by99 : byOf Try.prog 99 = some 40 := by kernel_rfl
theorem ag99 : aggOf Try.prog 99 = some true := by kernel_rfl
theorem fld99_0 : fldOf Try.prog 99 0 = some (0, 17) := by kernel_rfl
theorem fld99_1 : fldOf Try.prog 99 1 = some (1, 17) := by kernel_rfl
theorem fld99_2 : fldOf Try.prog 99 2 = some (2, 17) := by kernel_rfl
theorem fld99_3 : fldOf Try.prog 99 3 = some (3, 9) := by kernel_rfl
theorem pl99 : plOf Try.prog 99 = some [(0, 1), (1, 1), (2, 1), (3, 1)] := by kernel_rfl
theorem zr99 : zeroOf Try.prog 99 = some [.val .nilp, .val .nilp, .val .nilp, .val (.str [])] := by kernel_rfl
theorem sz100 : szOf Try.prog 100 = some 4 := by kernel_rfl
theorem by100 : byOf Try.prog 100 = some 40 := by kernel_rfl
theorem ag100 : aggOf Try.prog 100 = some true := by kernel_rfl
theorem fld100_0 : fldOf Try.prog 100 0 = some (0, 17) := by kernel_rfl
theorem fld100_1 : fldOf Try.prog 100 1 = some (1, 17) := by kernel_rfl
theorem fld100_2 : fldOf Try.prog 100 2 = some (2, 17) := by kernel_rfl
theorem fld100_3 : fldOf Try.prog 100 3 = some (3, 9) := by kernel_rfl
theorem pl100 : plOf Try.prog 100 = some [(0, 1), (1, 1), (2, 1), (3, 1)] := by kernel_rfl
theorem zr100 : zeroOf Try.prog 100 = some [.val .nilp, .val .nilp, .val .nilp, .val (.str [])] := by kernel_rfl
theorem sz101 : szOf Try.prog 101 = some 0 := by kernel_rfl
theorem by101 : byOf Try.prog 101 = some 0 := by kernel_rfl
theorem ag101 : aggOf Try.prog 101 = some true := by kernel_rfl
theorem zr101 : zeroOf Try.prog 101 = some [] := by kernel_rfl
theorem sz102 : szOf Try.prog 102 = some 0 := by kernel_rfl
theorem by102 : byOf Try.prog 102 = some 0 := by kernel_rfl
theorem ag102 : aggOf Try.prog 102 = some true := by kernel_rfl
theorem fld102_0 : fldOf Try.prog 102 0 = some (0, 101) := by kernel_rfl
theorem pl102 : plOf Try.prog 102 = some [(0, 0)] := by kernel_rfl
theorem zr102 : zeroOf Try.prog 102 = some [] := by kernel_rfl
theorem sz103 : szOf Try.prog 103 = some 0 := by kernel_rfl
theorem by103 : byOf Try.prog 103 = some 0 := by kernel_rfl
theorem ag103 : aggOf Try.prog 103 = some true := by kernel_rfl
theorem fld103_0 : fldOf Try.prog 103 0 = some (0, 101) := by kernel_rfl
theorem pl103 : plOf Try.prog 103 = some [(0, 0)] := by kernel_rfl
theorem zr103 : zeroOf Try.prog 103 = some [] := by kernel_rfl
theorem sz105 : szOf Try.prog 105 = some 1 := by kernel_rfl
theorem by105 : byOf Try.prog 105 = some 4 := by kernel_rfl
theorem ag105 : aggOf Try.prog 105 = some false := by kernel_rfl
theorem un105 : Try.prog.underlying 105 = some (.int .u32) := by kernel_rfl
theorem zr105 : zeroOf Try.prog 105 = some [.val (.int .u32 0)] := by kernel_rfl
theorem sz106 : szOf Try.prog 106 = some 1 := by kernel_rfl
theorem by106 : byOf Try.prog 106 = some 1 := by kernel_rfl
theorem ag106 : aggOf Try.prog 106 = some false := by kernel_rfl
theorem un106 : Try.prog.underlying 106 = some (.int .u8) := by kernel_rfl
theorem zr106 : zeroOf Try.prog 106 = some [.val (.int .u8 0)] := by kernel_rfl
theorem sz107 : szOf Try.prog 107 = some 1 := by kernel_rfl
theorem by107 : byOf Try.prog 107 = some 1 := by kernel_rfl
theorem ag107 : aggOf Try.prog 107 = some false := by kernel_rfl
theorem un107 : Try.prog.underlying 107 = some (.int .u8) := by kernel_rfl
theorem zr107 : zeroOf Try.prog 107 = some [.val (.int .u8 0)] := by kernel_rfl
theorem sz109 : szOf Try.prog 109 = some 1 := by kernel_rfl
theorem by109 : byOf Try.prog 109 = some 8 := by kernel_rfl
theorem ag109 : aggOf Try.prog 109 = some false := by kernel_rfl
theorem un109 : Try.prog.underlying 109 = some (.pointer 5) := by kernel_rfl
theorem zr109 : zeroOf Try.prog 109 = some [.val .nilp] := by kernel_rfl
theorem sz110 : szOf Try.prog 110 = some 1 := by kernel_rfl
theorem by110 : byOf Try.prog 110 = some 4 := by kernel_rfl
theorem ag110 : aggOf Try.prog 110 = some false := by kernel_rfl
theorem un110 : Try.prog.underlying 110 = some (.int .i32) := by kernel_rfl
theorem zr110 : zeroOf Try.prog 110 = some [.val (.int .i32 0)] := by kernel_rfl
theorem sz111 : szOf Try.prog 111 = some 1 := by kernel_rfl
theorem by111 : byOf Try.prog 111 = some 4 := by kernel_rfl
theorem ag111 : aggOf Try.prog 111 = some false := by kernel_rfl
theorem un111 : Try.prog.underlying 111 = some (.int .i32) := by kernel_rfl
theorem zr111 : zeroOf Try.prog 111 = some [.val (.int .i32 0)] := by kernel_rfl
theorem sz112 : szOf Try.prog 112 = some 11 := by kernel_rfl
theorem by112 : byOf Try.prog 112 = some 48 := by kernel_rfl
theorem ag112 : aggOf Try.prog 112 = some true := by kernel_rfl
theorem fld112_0 : fldOf Try.prog 112 0 = some (0, 12) := by kernel_rfl
theorem fld112_1 : fldOf Try.prog 112 1 = some (1, 12) := by kernel_rfl
theorem fld112_2 : fldOf Try.prog 112 2 = some (2, 105) := by kernel_rfl
theorem fld112_3 : fldOf Try.prog 112 3 = some (3, 106) := by kernel_rfl
theorem fld112_4 : fldOf Try.prog 112 4 = some (4, 5) := by kernel_rfl
theorem fld112_5 : fldOf Try.prog 112 5 = some (5, 5) := by kernel_rfl
theorem fld112_6 : fldOf Try.prog 112 6 = some (6, 107) := by kernel_rfl
theorem fld112_7 : fldOf Try.prog 112 7 = some (7, 108) := by kernel_rfl
theorem fld112_8 : fldOf Try.prog 112 8 = some (8, 109) := by kernel_rfl
theorem fld112_9 : fldOf Try.prog 112 9 = some (9, 110) := by kernel_rfl
theorem fld112_10 : fldOf Try.prog 112 10 = some (10, 111) := by kernel_rfl
theorem pl112 : plOf Try.prog 112 = some [(0, 1), (1, 1), (2, 1), (3, 1), (4, 1), (5, 1), (6, 1), (7, 1), (8, 1), (9, 1), (10, 1)] := by kernel_rfl
theorem sz113 : szOf Try.prog 113 = some 11 := by kernel_rfl
theorem by113 : byOf Try.prog 113 = some 48 := by kernel_rfl
theorem ag113 : aggOf Try.prog 113 = some true := by kernel_rfl
theorem fld113_0 : fldOf Try.prog 113 0 = some (0, 12) := by kernel_rfl
theorem fld113_1 : fldOf Try.prog 113 1 = some (1, 12) := by kernel_rfl
theorem fld113_2 : fldOf Try.prog 113 2 = some (2, 105) := by kernel_rfl
theorem fld113_3 : fldOf Try.prog 113 3 = some (3, 106) := by kernel_rfl
theorem fld113_4 : fldOf Try.prog 113 4 = some (4, 5) := by kernel_rfl
theorem fld113_5 : fldOf Try.prog 113 5 = some (5, 5) := by kernel_rfl
theorem fld113_6 : fldOf Try.prog 113 6 = some (6, 107) := by kernel_rfl
theorem fld113_7 : fldOf Try.prog 113 7 = some (7, 108) := by kernel_rfl
theorem fld113_8 : fldOf Try.prog 113 8 = some (8, 109) := by kernel_rfl
theorem fld113_9 : fldOf Try.prog 113 9 = some (9, 110) := by kernel_rfl
theorem fld113_10 : fldOf Try.prog 113 10 = some (10, 111) := by kernel_rfl
theorem pl113 : plOf Try.prog 113 = some [(0, 1), (1, 1), (2, 1), (3, 1), (4, 1), (5, 1), (6, 1), (7, 1), (8, 1), (9, 1), (10, 1)] := by kernel_rfl
theorem mixed : Try.prog.follows .mixedOrders = true := by kernel_rfl
attribute [go_sem] sz2 by2 ag2 un2 zr2 sz3 by3 ag3 un3 zr3 sz4 by4 ag4 un4 zr4 sz5 by5 ag5 un5 zr5 sz6 by6 ag6 un6 zr6 sz7 by7 ag7 fld7_0 fld7_1 fld7_2 fld7_3 pl7 zr7 sz8 by8 ag8 fld8_0 fld8_1 fld8_2 fld8_3 pl8 zr8 sz9 by9 ag9 un9 zr9 sz10 by10 ag10 un10 zr10 sz11 by11 ag11 un11 zr11 sz12 by12 ag12 un12 zr12 sz13 by13 ag13 fld13_0 fld13_1 pl13 zr13 sz14 by14 ag14 fld14_0 fld14_1 pl14 zr14 sz15 by15 ag15 un15 zr15 sz16 by16 ag16 un16 zr16 sz17 by17 ag17 un17 zr17 sz18 by18 ag18 fld18_0 pl18 zr18 sz19 by19 ag19 fld19_0 pl19 zr19 sz21 by21 ag21 un21 zr21 sz22 by22 ag22 un22 el22 zr22 sz24 by24 ag24 un24 el24 zr24 sz26 by26 ag26 fld26_0 fld26_1 pl26 zr26 sz27 by27 ag27 fld27_0 fld27_1 pl27 zr27 sz28 by28 ag28 un28 zr28 sz34 by34 ag34 fld34_0 fld34_1 fld34_2 pl34 zr34 sz35 by35 ag35 fld35_0 fld35_1 fld35_2 pl35 zr35 sz36 by36 ag36 fld36_0 fld36_1 fld36_2 fld36_3 fld36_4 pl36 zr36 sz37 by37 ag37 fld37_0 fld37_1 fld37_2 fld37_3 fld37_4 pl37 zr37 sz45 by45 ag45 un45 el45 zr45 sz51 by51 ag51 un51 el51 zr51 sz56 by56 ag56 fld56_0 fld56_1 fld56_2 fld56_3 fld56_4 pl56 zr56 sz67 by67 ag67 fld67_0 fld67_1 fld67_2 fld67_3 fld67_4 fld67_5 pl67 zr67 sz68 by68 ag68 fld68_0 fld68_1 fld68_2 fld68_3 fld68_4 fld68_5 pl68 zr68 sz78 by78 ag78 un78 el78 zr78 sz90 by90 ag90 un90 zr90 sz95 by95 ag95 fld95_0 fld95_1 pl95 zr95 sz96 by96 ag96 fld96_0 fld96_1 pl96 zr96 sz97 by97 ag97 un97 el97 zr97 sz99 by99 ag99 fld99_0 fld99_1 fld99_2 fld99_3 pl99 zr99 sz100 by100 ag100 fld100_0 fld100_1 fld100_2 fld100_3 pl100 zr100 sz101 by101 ag101 zr101 sz102 by102 ag102 fld102_0 pl102 zr102 sz103 by103 ag103 fld103_0 pl103 zr103 sz105 by105 ag105 un105 zr105 sz106 by106 ag106 un106 zr106 sz107 by107 ag107 un107 zr107 sz109 by109 ag109 un109 zr109 sz110 by110 ag110 un110 zr110 sz111 by111 ag111 un111 zr111 sz112 by112 ag112 fld112_0 fld112_1 fld112_2 fld112_3 fld112_4 fld112_5 fld112_6 fld112_7 fld112_8 fld112_9 fld112_10 pl112 sz113 by113 ag113 fld113_0 fld113_1 fld113_2 fld113_3 fld113_4 fld113_5 fld113_6 fld113_7 fld113_8 fld113_9 fld113_10 pl113 mixed eq7 eq8 eq26 eq27 eq34 eq35 eq36 eq37 eq56 eq67 eq68 eq95 eq96
end Go.Proofs.Ytjbfcmaiejlnbaa.Ty
set_option linter.unusedVariables false
set_option linter.unusedSimpArgs false
set_option maxRecDepth 8000
namespace Go.Proofs.Ytjbfcmaiejlnbaa
open Go Go.Proofs Go.Proofs.YtjbfcmaiejlnbaaVm Go.Proofs.Ytjbfcmaiejlnbaa.Ty

theorem wrap_small {n : Int} (h : -9223372036854775808 ≤ n) (h' : n < 9223372036854775808) : IntKind.i64.wrap n = n := by rw [IntKind.wrap_i64]; omega

theorem wrap_small' {n : Int} (h : -9223372036854775808 ≤ n) (h' : n < 9223372036854775808) : IntKind.i64.wrap n = n := by rw [IntKind.wrap_i64]; omega

theorem ins_grow (xs ys : List PV) (i : Nat) (Y : List PV) (hy : ys.length = 1) (hi : i < xs.length) (hl : Y.length = xs.length + 1) (ht : Y.take i = xs.take i) :
    over (over Y ys i) (xs.drop i) (i + 1) = xs.take i ++ ys ++ xs.drop i := by
  have e1 : over Y ys i = xs.take i ++ ys ++ Y.drop (i + 1) := by rw [over, ht, hy]
  have hlen : (xs.take i ++ ys).length = i + 1 := by simp [Nat.min_eq_left (Nat.le_of_lt hi), hy]
  have hZl : (over Y ys i).length = xs.length + 1 := by rw [over_length (by omega)]; omega
  rw [over, List.drop_eq_nil_of_le («as» := over Y ys i) (by rw [hZl, List.length_drop]; omega), List.append_nil, e1, List.take_append_of_le_length (by omega), List.take_of_length_le (by omega)]

theorem ins_room (xs ys : List PV) (i : Nat) (hy : ys.length = 1) (hi : i < xs.length) : over (over xs (xs.drop i) (i + 1)) ys i = xs.take i ++ ys ++ xs.drop i := by
  have e1 : over xs (xs.drop i) (i + 1) = xs.take (i + 1) ++ xs.drop i := by
    have e0 : xs.drop (i + 1 + (xs.drop i).length) = [] := List.drop_eq_nil_of_le (by rw [List.length_drop]; omega)
    rw [over, e0, List.append_nil]
  rw [over, e1, hy, List.take_append_of_le_length (by simp; omega), List.take_take, Nat.min_eq_left (Nat.le_succ i), List.drop_left' (by simp; omega)]

theorem wrap_small2 {n : Int} (h : -9223372036854775808 ≤ n) (h' : n < 9223372036854775808) : IntKind.i64.wrap n = n := by rw [IntKind.wrap_i64]; omega
theorem wrap_u2 {n : Int} (h : 0 ≤ n) (h' : n < 9223372036854775808) : IntKind.u64.wrap n = n := by
  simp [IntKind.wrap, IntKind.bits, IntKind.signed]; omega

theorem wrap_small3 {n : Int} (h : -9223372036854775808 ≤ n) (h' : n < 9223372036854775808) : IntKind.i64.wrap n = n := by rw [IntKind.wrap_i64]; omega

theorem drop_of_get {α : Type} {l : List α} {i : Nat} {x : α} (h : l[i]? = some x) : l.drop i = x :: l.drop (i + 1) := by
  obtain ⟨hlt, rfl⟩ := List.getElem?_eq_some_iff.1 h
  exact List.drop_eq_getElem_cons hlt

/-- Where a search by halves ends. -/
def bsI (c : Nat → Int) (i j : Nat) : Nat := if h : i < j then (if c ((i + j) / 2) < 0 then bsI c ((i + j) / 2 + 1) j else bsI c i ((i + j) / 2)) else i
termination_by j - i
theorem bsI_le (c : Nat → Int) (i j : Nat) (h : i ≤ j) : bsI c i j ≤ j := by
  rw [bsI]
  split
  · split
    · exact bsI_le c _ j (by omega)
    · exact Nat.le_trans (bsI_le c i _ (by omega)) (by omega)
  · exact h
termination_by j - i
theorem bsI_eq (c : Nat → Int) (i j r : Nat) (h1 : i ≤ r) (h2 : r ≤ j) (h3 : ∀ m, i ≤ m → m < r → c m < 0) (h4 : ∀ m, r ≤ m → m < j → ¬ c m < 0) : bsI c i j = r := by
  rw [bsI]
  split
  · split
    · rename_i hlt hc
      have : (i + j) / 2 < r := by
        rcases Nat.lt_or_ge ((i + j) / 2) r with h | h
        · exact h
        · exact absurd hc (h4 _ h (by omega))
      exact bsI_eq c _ j r (by omega) h2 (fun m hm => h3 m (by omega)) h4
    · rename_i hlt hc
      have : r ≤ (i + j) / 2 := by
        rcases Nat.lt_or_ge ((i + j) / 2) r with h | h
        · exact absurd (h3 _ (by omega) h) hc
        · exact h
      exact bsI_eq c i _ r h1 this h3 (fun m hm hm2 => h4 m hm (by omega))
  · omega
termination_by j - i
def cAt (c : PV → Int) (xs : List PV) (m : Nat) : Int := match xs[m]? with
  | some x => c x
  | none => 0
/-- The first of which something is true. -/
theorem first_of {α : Type} (p : α → Bool) : ∀ xs : List α, ∃ r, r ≤ xs.length ∧ (∀ x ∈ xs.take r, p x = false) ∧ (∀ x, xs[r]? = some x → p x = true) ∧ (r < xs.length ↔ ∃ x ∈ xs, p x = true)
  | [] => ⟨0, by simp, by simp, by simp, by simp⟩
  | x :: xs => by
    by_cases hx : p x = true
    · exact ⟨0, by simp, by simp, by simp [hx], by simp [hx]⟩
    · obtain ⟨r, h1, h2, h3, h4⟩ := first_of p xs
      refine ⟨r + 1, by simpa using h1, ?_, by simpa using h3, ?_⟩
      · intro y hy
        simp only [List.take_succ_cons, List.mem_cons] at hy
        rcases hy with rfl | hy
        · simpa using hx
        · exact h2 y hy
      · simp only [List.length_cons, Nat.add_lt_add_iff_right, h4, List.mem_cons]
        constructor
        · rintro ⟨y, hy, hp⟩
          exact ⟨y, .inr hy, hp⟩
        · rintro ⟨y, rfl | hy, hp⟩
          · exact absurd hp hx
          · exact ⟨y, hy, hp⟩
end Go.Proofs.Ytjbfcmaiejlnbaa
set_option linter.unusedVariables false
set_option linter.unusedSimpArgs false
set_option maxRecDepth 8000
namespace Go.Proofs.Ytjbfcmaiejlnbaa
open Nat renaming reduceAdd → uA, reduceLT → uB, reduceEqDiff → uC, reduceLeDiff → uD, reduceSub → uE, reduceMul → uF
open Bool renaming false_eq_true → yA, true_eq_false → yB
open Go Go.Proofs Go.Proofs.YtjbfcmaiejlnbaaVm Go.Proofs.Ytjbfcmaiejlnbaa.Ty

set_option maxHeartbeats 2000000 in
theorem CloneSub (xs : List PV) (h1 : ∀ x ∈ xs, x.cells.length = 7) (hl : xs.length ≤ 1000000) : Ct Try.prog 30 (YtjbfcmaiejlnbaaVm.ops [.row xs]) (.own 37 xs) := by
  refine Ct.of_V Try.func30 rfl (by simp [YtjbfcmaiejlnbaaVm.ops, Try.f30]) ?_
  refine V.exec 400 ?_
  simp +contextual (maxSteps := 1000000) only [go_sem, ↓reduceIte, reduceCtorEq, yA, yB, uA, uB, uC, uD, uE, uF, Try.f30]
  refine V.nilq (xs := xs) rfl rfl (.inl rfl) (by simp only [go_sem, ↓reduceIte, Nat.reduceEqDiff]) (by simp only [go_sem]; rfl) (by simp [dOK]) fun c hc => ?_
  refine V.exec 400 ?_
  simp +contextual (maxSteps := 1000000) only [go_sem, ↓reduceIte, reduceCtorEq, yA, yB, uA, uB, uC, uD, uE, uF]
  exact ⟨fun h => ⟨hc h, 7, rfl, by decide⟩, fun _ => ⟨h1, by omega, by omega⟩⟩

set_option maxHeartbeats 2000000 in
theorem IndexFuncSub (xs : List PV) (g : FuncId) (caps : List PV) (p : PV → Bool) (h1 : ∀ x ∈ xs, x.cells.length = 7 ∧ x.isAgg = true) (hl : xs.length ≤ 1000000) (hg : Entered Try.prog g)
    (hp : ∀ x ∈ xs, Ct Try.prog g (YtjbfcmaiejlnbaaVm.ops ([x] ++ caps)) (.vals [.bool (decide (p x = true))])) (r : Nat) (hr : r ≤ xs.length) (hr1 : ∀ x ∈ xs.take r, p x = false) (hr2 : ∀ x, xs[r]? = some x → p x = true) :
    Ct Try.prog 42 (YtjbfcmaiejlnbaaVm.ops [.row xs, .fn g caps]) (.vals [.int .i64 (if r < xs.length then (r : Int) else -1)]) := by
  refine Ct.of_V Try.func42 rfl (by simp [YtjbfcmaiejlnbaaVm.ops, Try.f42]) ?_
  refine V.exec 400 ?_
  simp +contextual (maxSteps := 1000000) only [go_sem, ↓reduceIte, reduceCtorEq, yA, yB, uA, uB, uC, uD, uE, uF, Try.f42]
  refine V.loop (fun m ls os => ∃ i : Nat, i ≤ r ∧ m = xs.length - i ∧
        ls = [(0, .val (.row xs)), (1, .val (.fn g caps)), (7, .val (.int .i64 xs.length)), (8, .val (.int .i64 i))] ∧ os = []) 0 xs.length [(0, .val (.row xs)), (1, .val (.fn g caps)), (7, .val (.int .i64 xs.length)), (8, .val (.int .i64 0))] [] []
      ⟨0, Nat.zero_le _, rfl, rfl, rfl⟩ (by simp only [go_sem, ↓reduceIte, reduceCtorEq, yA, yB, uA, uB, uC, uD, uE, uF]) ?_
  rintro m ls os ⟨i, hi, rfl, rfl, rfl⟩
  refine V.exec 400 ?_
  by_cases hlt : i < xs.length
  · have hlt' : (i : Int) < (xs.length : Int) := by omega
    obtain ⟨x, hx⟩ : ∃ x, xs[i]? = some x := ⟨_, List.getElem?_eq_getElem hlt⟩
    have hxm : x ∈ xs := List.mem_of_getElem? hx
    obtain ⟨hxc, hxa⟩ := h1 x hxm
    have hw : IntKind.i64.wrap ((i : Int) + 1) = ((i + 1 : Nat) : Int) := by rw [wrap_small] <;> omega
    simp +contextual (maxSteps := 1000000) only [go_sem, ↓reduceIte, reduceCtorEq, yA, yB, uA, uB, uC, uD, uE, uF, hlt', hx, hxc, hxa]
    refine V.call rfl rfl (by simp [dOK]) ⟨g, caps, by simp only [go_sem, ↓reduceIte, reduceCtorEq, yA, yB, uA, uB, uC, uD, uE, uF], hg, .inl ⟨[x], _, .inl (by simp only [go_sem, ↓reduceIte, reduceCtorEq, yA, yB, uA, uB, uC, uD, uE, uF]), hp x hxm, .inl ⟨_, rfl, rfl, rfl, rfl⟩⟩⟩ ?_
    refine V.exec 400 ?_
    simp +contextual (maxSteps := 1000000) only [go_sem, ↓reduceIte, reduceCtorEq, yA, yB, uA, uB, uC, uD, uE, uF, hw]
    constructor
    · intro hpx
      have hir : i = r := by
        rcases Nat.lt_or_ge i r with h | h
        · have := hr1 x (List.mem_of_getElem? (i := i) (by rw [List.getElem?_take_of_lt h]; exact hx))
          rw [this] at hpx; cases hpx
        · omega
      subst hir
      rw [if_pos hlt]
    · intro hpx
      have hir : i < r := by
        rcases Nat.lt_or_ge i r with h | h
        · exact h
        · have : i = r := by omega
          subst this
          exact absurd (hr2 x hx) hpx
      exact ⟨xs.length - (i + 1), _, [], [], by omega, ⟨i + 1, by omega, rfl, rfl, rfl⟩, by simp only [go_sem, ↓reduceIte, reduceCtorEq, yA, yB, uA, uB, uC, uD, uE, uF]⟩
  · have hlt' : ¬ (i : Int) < (xs.length : Int) := by omega
    simp +contextual (maxSteps := 1000000) only [go_sem, ↓reduceIte, reduceCtorEq, yA, yB, uA, uB, uC, uD, uE, uF, hlt']
    rw [if_neg (by omega)]

set_option maxHeartbeats 4000000 in
theorem DeleteFuncSub (xs : List PV) (g : FuncId) (caps : List PV) (p : PV → Bool) (h1 : ∀ x ∈ xs, x.cells.length = 7 ∧ x.isAgg = true ∧ ∀ c ∈ x.cells, c.isAgg = false) (hl : xs.length ≤ 1000000) (hg : Entered Try.prog g)
    (hp : ∀ x ∈ xs, Ct Try.prog g (YtjbfcmaiejlnbaaVm.ops ([x] ++ caps)) (.vals [.bool (decide (p x = true))])) (hz : (zeroPV Try.prog 37 7).isSome = true) :
    Ct Try.prog 29 (.o 37 xs :: YtjbfcmaiejlnbaaVm.ops [.fn g caps]) (.own 37 (xs.filter fun x => !p x)) := by
  -- the first that goes
  obtain ⟨r, hr, hr1, hr2⟩ : ∃ r, r ≤ xs.length ∧ (∀ x ∈ xs.take r, p x = false) ∧ ∀ x, xs[r]? = some x → p x = true := by
    clear h1 hl hp
    induction xs with
    | nil => exact ⟨0, by simp, by simp, by simp⟩
    | cons x xs ih =>
      by_cases hx : p x = true
      · exact ⟨0, by simp, by simp, by simp [hx]⟩
      · obtain ⟨r, h1, h2, h3⟩ := ih
        refine ⟨r + 1, by simpa using h1, ?_, by simpa using h3⟩
        intro y hy
        simp only [List.take_succ_cons, List.mem_cons] at hy
        rcases hy with rfl | hy
        · simpa using hx
        · exact h2 y hy
  refine Ct.of_V Try.func29 rfl (by simp [YtjbfcmaiejlnbaaVm.ops, Try.f29]) ?_
  refine V.exec 400 ?_
  simp +contextual (maxSteps := 1000000) only [go_sem, ↓reduceIte, reduceCtorEq, yA, yB, uA, uB, uC, uD, uE, uF, Try.f29]
  refine V.call rfl rfl (by simp [dOK]) ⟨42, [], by simp only [go_sem, ↓reduceIte, reduceCtorEq, yA, yB, uA, uB, uC, uD, uE, uF], ⟨_, rfl, rfl, rfl⟩, .inl ⟨[.row xs, .fn g caps], _, .inl (by simp only [go_sem, ↓reduceIte, reduceCtorEq, yA, yB, uA, uB, uC, uD, uE, uF]), IndexFuncSub xs g caps p (fun x hx => ⟨(h1 x hx).1, (h1 x hx).2.1⟩) hl hg hp r hr hr1 hr2, .inl ⟨_, rfl, rfl, rfl, rfl⟩⟩⟩ ?_
  refine V.exec 400 ?_
  simp +contextual (maxSteps := 1000000) only [go_sem, ↓reduceIte, reduceCtorEq, yA, yB, uA, uB, uC, uD, uE, uF]
  constructor
  · intro h
    have hrl : ¬ r < xs.length := by intro h'; rw [if_pos h'] at h; omega
    have : xs.filter (fun x => !p x) = xs := by
      rw [List.filter_eq_self]
      intro x hx
      have := hr1 x (by rw [List.take_of_length_le (by omega)]; exact hx)
      simp [this]
    rw [this]
  · intro h
    have hrl : r < xs.length := by
      rcases Nat.lt_or_ge r xs.length with h' | h'
      · exact h'
      · rw [if_neg (by omega)] at h; exact absurd rfl h
    simp only [if_pos hrl]
    have hw0 : IntKind.i64.wrap ((r : Int) + 1) = ((r + 1 : Nat) : Int) := by rw [wrap_small] <;> omega
    simp only [hw0]
    refine V.loop (fun m ls os => ∃ (i j : Nat) (ys : List PV), i < j ∧ j ≤ xs.length ∧ m = xs.length - j ∧ ys.length = xs.length ∧ ys.take i = (xs.take j).filter (fun x => !p x) ∧ ys.drop j = xs.drop j ∧ (∀ y ∈ ys, y ∈ xs) ∧
        ls = [(0, .ref 0), (1, .val (.fn g caps)), (5, .val (.int .i64 i)), (6, .val (.int .i64 j))] ∧ os = [.row 37 ys]) 1 (xs.length - (r + 1)) [(0, .ref 0), (1, .val (.fn g caps)), (5, .val (.int .i64 r)), (6, .val (.int .i64 (r + 1 : Nat)))] [.row 37 xs] [some 0]
      ⟨r, r + 1, xs, by omega, by omega, rfl, rfl, ?_, rfl, fun y hy => hy, rfl, rfl⟩ (by simp only [go_sem, ↓reduceIte, reduceCtorEq, yA, yB, uA, uB, uC, uD, uE, uF]) ?_
    · obtain ⟨x, hx⟩ : ∃ x, xs[r]? = some x := ⟨_, List.getElem?_eq_getElem hrl⟩
      rw [List.take_add_one, hx, List.filter_append]
      have e1 : (xs.take r).filter (fun x => !p x) = xs.take r := by
        rw [List.filter_eq_self]; intro y hy; simp [hr1 y hy]
      rw [e1]
      simp [hr2 x hx]
    · rintro m ls os ⟨i, j, ys, hij, hj, rfl, hyl, hyt, hyd, hym, rfl, rfl⟩
      by_cases hlt : j < xs.length
      · have hlt' : (j : Int) < (ys.length : Int) := by omega
        refine V.exec 400 ?_
        obtain ⟨x, hx⟩ : ∃ x, ys[j]? = some x := ⟨_, List.getElem?_eq_getElem (by omega)⟩
        obtain ⟨z, hz'⟩ : ∃ z, ys[i]? = some z := ⟨_, List.getElem?_eq_getElem (by omega)⟩
        have hxm : x ∈ xs := hym x (List.mem_of_getElem? hx)
        have hzm : z ∈ xs := hym z (List.mem_of_getElem? hz')
        obtain ⟨hzc, hza, _⟩ := h1 z hzm
        obtain ⟨hxc, hxa, hxn⟩ := h1 x hxm
        have hpx := hp x hxm
        obtain ⟨c0, c1, c2, c3, c4, c5, c6, rfl⟩ : ∃ c0 c1 c2 c3 c4 c5 c6, x = .agg [c0, c1, c2, c3, c4, c5, c6] := by
          cases x with
          | agg cs =>
            match cs, hxc with
            | [c0, c1, c2, c3, c4, c5, c6], _ => exact ⟨c0, c1, c2, c3, c4, c5, c6, rfl⟩
          | _ => cases hxa
        have n0 : c0.isAgg = false := hxn c0 (by simp [PV.cells])
        have n1 : c1.isAgg = false := hxn c1 (by simp [PV.cells])
        have n2 : c2.isAgg = false := hxn c2 (by simp [PV.cells])
        have n3 : c3.isAgg = false := hxn c3 (by simp [PV.cells])
        have n4 : c4.isAgg = false := hxn c4 (by simp [PV.cells])
        have n5 : c5.isAgg = false := hxn c5 (by simp [PV.cells])
        have n6 : c6.isAgg = false := hxn c6 (by simp [PV.cells])
        have hwi : IntKind.i64.wrap ((i : Int) + 1) = ((i + 1 : Nat) : Int) := by rw [wrap_small] <;> omega
        have hwj : IntKind.i64.wrap ((j : Int) + 1) = ((j + 1 : Nat) : Int) := by rw [wrap_small] <;> omega
        simp +contextual (maxSteps := 1000000) only [go_sem, ↓reduceIte, reduceCtorEq, yA, yB, uA, uB, uC, uD, uE, uF, hlt', hx, n0, n1, n2, n3, n4, n5, n6]
        refine V.call rfl rfl (by simp [dOK]) ⟨g, caps, by simp only [go_sem, ↓reduceIte, reduceCtorEq, yA, yB, uA, uB, uC, uD, uE, uF], hg, .inl ⟨[_], _, .inl (by simp only [go_sem, ↓reduceIte, reduceCtorEq, yA, yB, uA, uB, uC, uD, uE, uF]), hpx, .inl ⟨_, rfl, rfl, rfl, rfl⟩⟩⟩ ?_
        refine V.exec 400 ?_
        simp +contextual (maxSteps := 1000000) only [go_sem, ↓reduceIte, reduceCtorEq, yA, yB, uA, uB, uC, uD, uE, uF, hwi, hwj, hz', hzc, n0, n1, n2, n3, n4, n5, n6]
        have hxj : xs[j]? = some (.agg [c0, c1, c2, c3, c4, c5, c6]) := by
          have e1 : (ys.drop j)[0]? = (xs.drop j)[0]? := by rw [hyd]
          simp only [List.getElem?_drop, Nat.add_zero] at e1
          rw [← e1]; exact hx
        have hdrop : ys.drop (j + 1) = xs.drop (j + 1) := by rw [← List.drop_drop, ← List.drop_drop, hyd]
        have htk : xs.take (j + 1) = xs.take j ++ [.agg [c0, c1, c2, c3, c4, c5, c6]] := by rw [List.take_add_one, hxj]; rfl
        constructor
        · intro hpx
          refine ⟨xs.length - (j + 1), _, _, [some 0], by omega, ⟨i + 1, j + 1, ys.set i (.agg [c0, c1, c2, c3, c4, c5, c6]), by omega, by omega, rfl, by simpa using hyl, ?_, ?_, ?_, rfl, rfl⟩, ?_⟩
          · rw [htk, List.filter_append, ← hyt, List.take_add_one, List.getElem?_set_self (by omega), List.take_set_of_le (Nat.le_refl _)]
            simp [hpx]
          · rw [List.drop_set_of_lt (by omega)]; exact hdrop
          · intro y hy
            rcases List.mem_or_eq_of_mem_set hy with hy | hy
            · exact hym y hy
            · rw [hy]; exact hxm
          · simp only [go_sem, ↓reduceIte, reduceCtorEq, yA, yB, uA, uB, uC, uD, uE, uF]
        · intro hpx
          refine ⟨xs.length - (j + 1), _, _, [some 0], by omega, ⟨i, j + 1, ys, by omega, by omega, rfl, hyl, ?_, hdrop, hym, rfl, rfl⟩, ?_⟩
          · rw [htk, List.filter_append, hyt]
            simp [hpx]
          · simp only [go_sem, ↓reduceIte, reduceCtorEq, yA, yB, uA, uB, uC, uD, uE, uF]
      · have hlt' : ¬ (j : Int) < (ys.length : Int) := by omega
        refine V.execS [11] 400 ?_
        simp +contextual (maxSteps := 1000000) only [go_sem, ↓reduceIte, reduceCtorEq, yA, yB, uA, uB, uC, uD, uE, uF, hlt']
        refine V.opn 0 7 37 ys (by simp only [go_sem, ↓reduceIte, reduceCtorEq, yA, yB, uA, uB, uC, uD, uE, uF]) (by simp only [go_sem, ↓reduceIte, reduceCtorEq, yA, yB, uA, uB, uC, uD, uE, uF]) fun q => ?_
        refine V.exec 400 ?_
        simp +contextual (maxSteps := 1000000) only [go_sem, ↓reduceIte, reduceCtorEq, yA, yB, uA, uB, uC, uD, uE, uF]
        have hi : i ≤ ys.length := by omega
        have hjx : j = xs.length := by omega
        rw [show 0 + i = i from Nat.zero_add i, over_length hi, List.length_replicate]
        refine ⟨⟨hi, by omega⟩, ⟨hi, by omega⟩, ⟨by omega, by omega⟩, by omega, ?_⟩
        rw [hjx, List.take_length] at hyt
        rw [Nat.sub_zero, over, List.append_assoc, List.take_append_of_le_length (by simp [Nat.min_eq_left hi]), List.take_take, Nat.min_self, hyt]
set_option maxHeartbeats 4000000 in
theorem InsertSub (xs : List PV) (y : PV) (i : Nat) (h1 : ∀ x ∈ xs, x.cells.length = 7) (hy : y.cells.length = 7) (hi : i ≤ xs.length) (hl : xs.length ≤ 1000000) :
    Ct Try.prog 33 (.o 37 xs :: YtjbfcmaiejlnbaaVm.ops [.int .i64 i, .rowp [y]]) (.own 37 (xs.take i ++ [y] ++ xs.drop i)) := by
  refine Ct.of_V Try.func33 rfl (by simp [YtjbfcmaiejlnbaaVm.ops, Try.f33]) ?_
  refine V.opn 0 7 37 xs rfl (by simp only [go_sem, ↓reduceIte, reduceCtorEq, yA, yB, uA, uB, uC, uD, uE, uF]) fun q => ?_
  have hw : IntKind.i64.wrap ((xs.length : Int) + ((0 + 1 : Nat) : Int)) = ((xs.length + 1 : Nat) : Int) := by rw [wrap_small'] <;> omega
  have hw2 : IntKind.i64.wrap (((xs.length + 1 : Nat) : Int) - (i : Int)) = ((xs.length + 1 - i : Nat) : Int) := by rw [wrap_small'] <;> omega
  have hw3 : IntKind.i64.wrap ((i : Int) + ((0 + 1 : Nat) : Int)) = ((i + 1 : Nat) : Int) := by rw [wrap_small'] <;> omega
  refine V.execS [10, 14] 400 ?_
  simp +contextual (maxSteps := 1000000) only [go_sem, ↓reduceIte, reduceCtorEq, yA, yB, uA, uB, uC, uD, uE, uF, Try.f33, hy, hw, hw2, hw3]
  refine ⟨⟨hi, by omega⟩, fun h => absurd h (by omega), fun _ => ⟨fun he => ?_, fun hne => ⟨by omega, fun hlt => ⟨⟨by omega, by omega⟩, ⟨by omega, by omega, by omega, by omega, by omega⟩, ?_⟩, fun hge => ⟨by omega, ?_⟩⟩⟩⟩
  · -- at the end
    have hin : i = xs.length := by omega
    subst hin
    have e1 : xs.take xs.length ++ [y] ++ xs.drop xs.length = xs ++ [y] := by simp
    rw [e1]
    refine ⟨fun hr => ⟨by omega, ?_, ?_⟩, fun hr => ⟨⟨by omega, by omega, by omega, by omega⟩, by rw [List.take_length]⟩⟩
    · rw [over_length (by omega)]; simp
    · have e2 : over xs [y] (0 + xs.length) = xs ++ [y] := by simp [over]
      rw [e2, List.take_of_length_le (by simp)]
  · -- no room: a new row
    have hin : i < xs.length := by omega
    have hYl : (List.take (i - 0) xs ++ List.replicate (xs.length + 1 - i) (PV.agg [.int .i64 0, .str [], .str [], .bool false, .bool false, .str [], .int .i64 0])).length = xs.length + 1 := by
      simp; omega
    have hYt : (List.take (i - 0) xs ++ List.replicate (xs.length + 1 - i) (PV.agg [.int .i64 0, .str [], .str [], .bool false, .bool false, .str [], .int .i64 0])).take i = xs.take i := by
      rw [Nat.sub_zero, List.take_append_of_le_length (by simp; omega), List.take_take, Nat.min_self]
    generalize List.take (i - 0) xs ++ List.replicate (xs.length + 1 - i) (PV.agg [.int .i64 0, .str [], .str [], .bool false, .bool false, .str [], .int .i64 0]) = Y at *
    refine V.opn 32 7 37 Y (by simp only [go_sem, ↓reduceIte, reduceCtorEq, yA, yB, uA, uB, uC, uD, uE, uF]) (by simp only [go_sem, ↓reduceIte, reduceCtorEq, yA, yB, uA, uB, uC, uD, uE, uF]) fun q2 => ?_
    refine V.exec 400 ?_
    have m1 : min 1 (Y.length - i) = 1 := by omega
    have m2 : min (xs.length - i) (Y.length - (i + 1)) = xs.length - i := by omega
    simp +contextual (maxSteps := 1000000) only [go_sem, ↓reduceIte, reduceCtorEq, yA, yB, uA, uB, uC, uD, uE, uF, hy, hw, hw2, hw3, Nat.zero_add, Nat.sub_zero, m1, m2]
    have hol : (over Y [y] i).length = Y.length := by rw [over_length (by omega)]; simp; omega
    have hdl : (List.take (xs.length - i) (List.drop i xs)).length = xs.length - i := by simp
    simp only [hol, hdl]
    refine ⟨⟨by omega, by omega⟩, ⟨by omega, by omega⟩, ⟨by omega, by omega⟩, ⟨by omega, by omega⟩, ⟨by omega, by omega, by omega⟩, by kernel_rfl, ?_⟩
    have hd : List.take (xs.length - i) (List.take (xs.length - i) (List.drop i xs)) = xs.drop i := by rw [List.take_of_length_le (by simp), List.take_of_length_le (by simp)]
    rw [hd, ins_grow xs [y] i Y rfl hin hYl hYt]
    exact ⟨by simp; omega, (List.take_of_length_le (by simp; omega)).symm⟩
  · -- there is room
    refine V.exec 400 ?_
    simp +contextual (maxSteps := 1000000) only [go_sem, ↓reduceIte, reduceCtorEq, yA, yB, uA, uB, uC, uD, uE, uF, hy, hw, hw2, hw3, Nat.zero_add, Nat.sub_zero]
    refine ⟨⟨by omega, by omega⟩, ?_⟩
    refine V.ovl (f := 44) (zs := [y]) (id := 0) (sz := 7) (l := i + 1) (len := xs.length + 1 - (i + 1)) (xs := xs) (q := q) (e := 37) (tS := 24) (tR := 4) rfl rfl (by simp [dOK]) (by simp only [go_sem, ↓reduceIte, reduceCtorEq, yA, yB, uA, uB, uC, uD, uE, uF]) rfl rfl rfl (by kernel_rfl) (by kernel_rfl) (by simp only [go_sem, ↓reduceIte, reduceCtorEq, yA, yB, uA, uB, uC, uD, uE, uF]) (by simp only [go_sem, ↓reduceIte, reduceCtorEq, yA, yB, uA, uB, uC, uD, uE, uF]) (by simp only [go_sem, ↓reduceIte, reduceCtorEq, yA, yB, uA, uB, uC, uD, uE, uF]) (by simp only [go_sem, ↓reduceIte, reduceCtorEq, yA, yB, uA, uB, uC, uD, uE, uF]) (by simp only [go_sem, ↓reduceIte, reduceCtorEq, yA, yB, uA, uB, uC, uD, uE, uF]) (by omega) ?_
    refine V.exec 400 ?_
    have hin : i < xs.length := by omega
    have m3 : min (xs.length + 1 - i) (xs.length + 1 - (i + 1)) = xs.length - i := by omega
    have m4 : min 1 (xs.length + 1 - i) = 1 := by omega
    have hd2 : List.take (xs.length - i) (List.take (xs.length + 1 - i) (List.drop i xs)) = xs.drop i := by rw [List.take_take, List.take_of_length_le (by simp; omega)]
    have hd3 : (List.take (xs.length + 1 - i) (List.drop i xs)).length = xs.length - i := by simp; omega
    have hol : (over xs (xs.drop i) (i + 1)).length = xs.length + 1 := by rw [over_length (by omega), List.length_drop]; omega
    have hol2 : (over (over xs (xs.drop i) (i + 1)) [y] i).length = xs.length + 1 := by rw [over_length (by omega), hol]; simp; omega
    simp +contextual (maxSteps := 1000000) only [go_sem, ↓reduceIte, reduceCtorEq, yA, yB, uA, uB, uC, uD, uE, uF, hy, hw, hw2, hw3, Nat.zero_add, Nat.sub_zero, m3, m4, hd2, hd3, hol, hol2]
    refine ⟨⟨by omega, by omega⟩, ⟨by omega, by omega⟩, ⟨by omega, by omega, by omega⟩, by kernel_rfl, ⟨by omega, by omega⟩, ⟨by omega, by omega⟩, by omega, ?_⟩
    rw [ins_room xs [y] i rfl hin]
    exact (List.take_of_length_le (by simp; omega)).symm
set_option maxHeartbeats 4000000 in
theorem BSearchSub (xs : List PV) (t : PV) (g : FuncId) (caps : List PV) (c : PV → Int) (h1 : ∀ x ∈ xs, x.cells.length = 7 ∧ x.isAgg = true) (hl : xs.length ≤ 1000000) (hg : Entered Try.prog g)
    (hp : ∀ x ∈ xs, Ct Try.prog g (YtjbfcmaiejlnbaaVm.ops ([x, t] ++ caps)) (.vals [.int .i64 (c x)])) (r : Nat) (hr : r ≤ xs.length) (hr1 : ∀ i x, i < r → xs[i]? = some x → c x < 0) (hr2 : ∀ i x, r ≤ i → xs[i]? = some x → ¬ c x < 0) :
    Ct Try.prog 46 (YtjbfcmaiejlnbaaVm.ops [.row xs, t, .fn g caps]) (.vals [.int .i64 r, .bool (decide (∃ x, xs[r]? = some x ∧ c x = 0))]) := by
  refine Ct.of_V Try.func46 rfl (by simp [YtjbfcmaiejlnbaaVm.ops, Try.f46]) ?_
  refine V.exec 400 ?_
  simp +contextual (maxSteps := 1000000) only [go_sem, ↓reduceIte, reduceCtorEq, yA, yB, uA, uB, uC, uD, uE, uF, Try.f46]
  refine V.loop (fun m ls os => ∃ (i j : Nat), i ≤ r ∧ r ≤ j ∧ j ≤ xs.length ∧ m = j - i ∧
        ls = [(0, .val (.row xs)), (1, .val t), (2, .val (.fn g caps)), (8, .val (.int .i64 xs.length)), (9, .val (.int .i64 i)), (10, .val (.int .i64 j))] ∧ os = []) 0 xs.length
      [(0, .val (.row xs)), (1, .val t), (2, .val (.fn g caps)), (8, .val (.int .i64 xs.length)), (9, .val (.int .i64 0)), (10, .val (.int .i64 xs.length))] [] []
      ⟨0, xs.length, Nat.zero_le _, hr, Nat.le_refl _, rfl, rfl, rfl⟩ (by simp only [go_sem, ↓reduceIte, reduceCtorEq, yA, yB, uA, uB, uC, uD, uE, uF]) ?_
  rintro m ls os ⟨i, j, hi, hj, hjl, rfl, rfl, rfl⟩
  refine V.exec 400 ?_
  by_cases hlt : i < j
  · have hlt' : (i : Int) < (j : Int) := by omega
    have hm : (i + j) / 2 < xs.length := by omega
    obtain ⟨x, hx⟩ : ∃ x, xs[(i + j) / 2]? = some x := ⟨_, List.getElem?_eq_getElem hm⟩
    have hxm : x ∈ xs := List.mem_of_getElem? hx
    obtain ⟨hxc, hxa⟩ := h1 x hxm
    have hw1 : IntKind.i64.wrap ((i : Int) + (j : Int)) = ((i + j : Nat) : Int) := by rw [wrap_small2] <;> omega
    have hw2 : IntKind.u64.wrap ((i + j : Nat) : Int) = ((i + j : Nat) : Int) := by rw [wrap_u2] <;> omega
    have hw3 : ((i + j : Nat) : Int) / 2 = (((i + j) / 2 : Nat) : Int) := by omega
    have hw4 : IntKind.i64.wrap (((i + j) / 2 : Nat) : Int) = (((i + j) / 2 : Nat) : Int) := by rw [wrap_small2] <;> omega
    have hw5 : IntKind.i64.wrap ((((i + j) / 2 : Nat) : Int) + 1) = (((i + j) / 2 + 1 : Nat) : Int) := by rw [wrap_small2] <;> omega
    simp +contextual (maxSteps := 1000000) only [go_sem, ↓reduceIte, reduceCtorEq, yA, yB, uA, uB, uC, uD, uE, uF, hlt', hw1, hw2, hw3, hw4, hx, hxc, hxa]
    refine V.call rfl rfl (by simp [dOK]) ⟨g, caps, by simp only [go_sem, ↓reduceIte, reduceCtorEq, yA, yB, uA, uB, uC, uD, uE, uF], hg, .inl ⟨[x, t], _, .inl (by simp only [go_sem, ↓reduceIte, reduceCtorEq, yA, yB, uA, uB, uC, uD, uE, uF]), hp x hxm, .inl ⟨_, rfl, rfl, rfl, rfl⟩⟩⟩ ?_
    refine V.exec 400 ?_
    simp +contextual (maxSteps := 1000000) only [go_sem, ↓reduceIte, reduceCtorEq, yA, yB, uA, uB, uC, uD, uE, uF, hw5]
    constructor
    · intro hc
      have : (i + j) / 2 < r := by
        rcases Nat.lt_or_ge ((i + j) / 2) r with h | h
        · exact h
        · exact absurd hc (hr2 _ x h hx)
      exact ⟨j - ((i + j) / 2 + 1), _, [], [], by omega, ⟨(i + j) / 2 + 1, j, by omega, hj, hjl, rfl, rfl, rfl⟩, by simp only [go_sem, ↓reduceIte, reduceCtorEq, yA, yB, uA, uB, uC, uD, uE, uF]⟩
    · intro hc
      have : r ≤ (i + j) / 2 := by
        rcases Nat.lt_or_ge ((i + j) / 2) r with h | h
        · exact absurd (hr1 _ x h hx) hc
        · exact h
      exact ⟨(i + j) / 2 - i, _, [], [], by omega, ⟨i, (i + j) / 2, hi, this, by omega, rfl, rfl, rfl⟩, by simp only [go_sem, ↓reduceIte, reduceCtorEq, yA, yB, uA, uB, uC, uD, uE, uF]⟩
  · have hlt' : ¬ (i : Int) < (j : Int) := by omega
    have hir : i = r := by omega
    subst hir
    by_cases hil : i < xs.length
    · have hil' : (i : Int) < (xs.length : Int) := by omega
      obtain ⟨x, hx⟩ : ∃ x, xs[i]? = some x := ⟨_, List.getElem?_eq_getElem hil⟩
      have hxm : x ∈ xs := List.mem_of_getElem? hx
      obtain ⟨hxc, hxa⟩ := h1 x hxm
      simp +contextual (maxSteps := 1000000) only [go_sem, ↓reduceIte, reduceCtorEq, yA, yB, uA, uB, uC, uD, uE, uF, hlt', hil', hx, hxc, hxa]
      refine V.call rfl rfl (by simp [dOK]) ⟨g, caps, by simp only [go_sem, ↓reduceIte, reduceCtorEq, yA, yB, uA, uB, uC, uD, uE, uF], hg, .inl ⟨[x, t], _, .inl (by simp only [go_sem, ↓reduceIte, reduceCtorEq, yA, yB, uA, uB, uC, uD, uE, uF]), hp x hxm, .inl ⟨_, rfl, rfl, rfl, rfl⟩⟩⟩ ?_
      refine V.exec 400 ?_
      simp +contextual (maxSteps := 1000000) only [go_sem, ↓reduceIte, reduceCtorEq, yA, yB, uA, uB, uC, uD, uE, uF, hx]
      simp [hx]
    · have hil' : ¬ (i : Int) < (xs.length : Int) := by omega
      simp +contextual (maxSteps := 1000000) only [go_sem, ↓reduceIte, reduceCtorEq, yA, yB, uA, uB, uC, uD, uE, uF, hlt', hil']
      have : xs[i]? = none := List.getElem?_eq_none (by omega)
      simp [this]
end Go.Proofs.Ytjbfcmaiejlnbaa
set_option linter.unusedVariables false
set_option linter.unusedSimpArgs false
set_option maxRecDepth 8000
namespace Go.Proofs.Ytjbfcmaiejlnbaa
open Nat renaming reduceAdd → uA, reduceLT → uB, reduceEqDiff → uC, reduceLeDiff → uD, reduceSub → uE, reduceMul → uF
open Bool renaming false_eq_true → yA, true_eq_false → yB
open Go Go.Proofs Go.Proofs.YtjbfcmaiejlnbaaVm Go.Proofs.Ytjbfcmaiejlnbaa.Ty

set_option maxHeartbeats 2000000 in
theorem CloneChange (xs : List PV) (h1 : ∀ x ∈ xs, x.cells.length = 6) (hl : xs.length ≤ 1000000) : Ct Try.prog 53 (YtjbfcmaiejlnbaaVm.ops [.row xs]) (.own 68 xs) := by
  refine Ct.of_V Try.func53 rfl (by simp [YtjbfcmaiejlnbaaVm.ops, Try.f53]) ?_
  refine V.exec 400 ?_
  simp +contextual (maxSteps := 1000000) only [go_sem, ↓reduceIte, reduceCtorEq, yA, yB, uA, uB, uC, uD, uE, uF, Try.f53]
  refine V.nilq (xs := xs) rfl rfl (.inl rfl) (by simp only [go_sem, ↓reduceIte, Nat.reduceEqDiff]) (by simp only [go_sem]; rfl) (by simp [dOK]) fun c hc => ?_
  refine V.exec 400 ?_
  simp +contextual (maxSteps := 1000000) only [go_sem, ↓reduceIte, reduceCtorEq, yA, yB, uA, uB, uC, uD, uE, uF]
  exact ⟨fun h => ⟨hc h, 6, rfl, by decide⟩, fun _ => ⟨h1, by omega, by omega⟩⟩

set_option maxHeartbeats 2000000 in
theorem IndexFuncChange (xs : List PV) (g : FuncId) (caps : List PV) (p : PV → Bool) (h1 : ∀ x ∈ xs, x.cells.length = 6 ∧ x.isAgg = true) (hl : xs.length ≤ 1000000) (hg : Entered Try.prog g)
    (hp : ∀ x ∈ xs, Ct Try.prog g (YtjbfcmaiejlnbaaVm.ops ([x] ++ caps)) (.vals [.bool (decide (p x = true))])) (r : Nat) (hr : r ≤ xs.length) (hr1 : ∀ x ∈ xs.take r, p x = false) (hr2 : ∀ x, xs[r]? = some x → p x = true) :
    Ct Try.prog 57 (YtjbfcmaiejlnbaaVm.ops [.row xs, .fn g caps]) (.vals [.int .i64 (if r < xs.length then (r : Int) else -1)]) := by
  refine Ct.of_V Try.func57 rfl (by simp [YtjbfcmaiejlnbaaVm.ops, Try.f57]) ?_
  refine V.exec 400 ?_
  simp +contextual (maxSteps := 1000000) only [go_sem, ↓reduceIte, reduceCtorEq, yA, yB, uA, uB, uC, uD, uE, uF, Try.f57]
  refine V.loop (fun m ls os => ∃ i : Nat, i ≤ r ∧ m = xs.length - i ∧
        ls = [(0, .val (.row xs)), (1, .val (.fn g caps)), (7, .val (.int .i64 xs.length)), (8, .val (.int .i64 i))] ∧ os = []) 0 xs.length [(0, .val (.row xs)), (1, .val (.fn g caps)), (7, .val (.int .i64 xs.length)), (8, .val (.int .i64 0))] [] []
      ⟨0, Nat.zero_le _, rfl, rfl, rfl⟩ (by simp only [go_sem, ↓reduceIte, reduceCtorEq, yA, yB, uA, uB, uC, uD, uE, uF]) ?_
  rintro m ls os ⟨i, hi, rfl, rfl, rfl⟩
  refine V.exec 400 ?_
  by_cases hlt : i < xs.length
  · have hlt' : (i : Int) < (xs.length : Int) := by omega
    obtain ⟨x, hx⟩ : ∃ x, xs[i]? = some x := ⟨_, List.getElem?_eq_getElem hlt⟩
    have hxm : x ∈ xs := List.mem_of_getElem? hx
    obtain ⟨hxc, hxa⟩ := h1 x hxm
    have hw : IntKind.i64.wrap ((i : Int) + 1) = ((i + 1 : Nat) : Int) := by rw [wrap_small] <;> omega
    simp +contextual (maxSteps := 1000000) only [go_sem, ↓reduceIte, reduceCtorEq, yA, yB, uA, uB, uC, uD, uE, uF, hlt', hx, hxc, hxa]
    refine V.call rfl rfl (by simp [dOK]) ⟨g, caps, by simp only [go_sem, ↓reduceIte, reduceCtorEq, yA, yB, uA, uB, uC, uD, uE, uF], hg, .inl ⟨[x], _, .inl (by simp only [go_sem, ↓reduceIte, reduceCtorEq, yA, yB, uA, uB, uC, uD, uE, uF]), hp x hxm, .inl ⟨_, rfl, rfl, rfl, rfl⟩⟩⟩ ?_
    refine V.exec 400 ?_
    simp +contextual (maxSteps := 1000000) only [go_sem, ↓reduceIte, reduceCtorEq, yA, yB, uA, uB, uC, uD, uE, uF, hw]
    constructor
    · intro hpx
      have hir : i = r := by
        rcases Nat.lt_or_ge i r with h | h
        · have := hr1 x (List.mem_of_getElem? (i := i) (by rw [List.getElem?_take_of_lt h]; exact hx))
          rw [this] at hpx; cases hpx
        · omega
      subst hir
      rw [if_pos hlt]
    · intro hpx
      have hir : i < r := by
        rcases Nat.lt_or_ge i r with h | h
        · exact h
        · have : i = r := by omega
          subst this
          exact absurd (hr2 x hx) hpx
      exact ⟨xs.length - (i + 1), _, [], [], by omega, ⟨i + 1, by omega, rfl, rfl, rfl⟩, by simp only [go_sem, ↓reduceIte, reduceCtorEq, yA, yB, uA, uB, uC, uD, uE, uF]⟩
  · have hlt' : ¬ (i : Int) < (xs.length : Int) := by omega
    simp +contextual (maxSteps := 1000000) only [go_sem, ↓reduceIte, reduceCtorEq, yA, yB, uA, uB, uC, uD, uE, uF, hlt']
    rw [if_neg (by omega)]

set_option maxHeartbeats 4000000 in
theorem DeleteFuncChange (xs : List PV) (g : FuncId) (caps : List PV) (p : PV → Bool) (h1 : ∀ x ∈ xs, x.cells.length = 6 ∧ x.isAgg = true ∧ ∀ c ∈ x.cells, c.isAgg = false) (hl : xs.length ≤ 1000000) (hg : Entered Try.prog g)
    (hp : ∀ x ∈ xs, Ct Try.prog g (YtjbfcmaiejlnbaaVm.ops ([x] ++ caps)) (.vals [.bool (decide (p x = true))])) (hz : (zeroPV Try.prog 68 6).isSome = true) :
    Ct Try.prog 52 (.o 68 xs :: YtjbfcmaiejlnbaaVm.ops [.fn g caps]) (.own 68 (xs.filter fun x => !p x)) := by
  -- the first that goes
  obtain ⟨r, hr, hr1, hr2⟩ : ∃ r, r ≤ xs.length ∧ (∀ x ∈ xs.take r, p x = false) ∧ ∀ x, xs[r]? = some x → p x = true := by
    clear h1 hl hp
    induction xs with
    | nil => exact ⟨0, by simp, by simp, by simp⟩
    | cons x xs ih =>
      by_cases hx : p x = true
      · exact ⟨0, by simp, by simp, by simp [hx]⟩
      · obtain ⟨r, h1, h2, h3⟩ := ih
        refine ⟨r + 1, by simpa using h1, ?_, by simpa using h3⟩
        intro y hy
        simp only [List.take_succ_cons, List.mem_cons] at hy
        rcases hy with rfl | hy
        · simpa using hx
        · exact h2 y hy
  refine Ct.of_V Try.func52 rfl (by simp [YtjbfcmaiejlnbaaVm.ops, Try.f52]) ?_
  refine V.exec 400 ?_
  simp +contextual (maxSteps := 1000000) only [go_sem, ↓reduceIte, reduceCtorEq, yA, yB, uA, uB, uC, uD, uE, uF, Try.f52]
  refine V.call rfl rfl (by simp [dOK]) ⟨57, [], by simp only [go_sem, ↓reduceIte, reduceCtorEq, yA, yB, uA, uB, uC, uD, uE, uF], ⟨_, rfl, rfl, rfl⟩, .inl ⟨[.row xs, .fn g caps], _, .inl (by simp only [go_sem, ↓reduceIte, reduceCtorEq, yA, yB, uA, uB, uC, uD, uE, uF]), IndexFuncChange xs g caps p (fun x hx => ⟨(h1 x hx).1, (h1 x hx).2.1⟩) hl hg hp r hr hr1 hr2, .inl ⟨_, rfl, rfl, rfl, rfl⟩⟩⟩ ?_
  refine V.exec 400 ?_
  simp +contextual (maxSteps := 1000000) only [go_sem, ↓reduceIte, reduceCtorEq, yA, yB, uA, uB, uC, uD, uE, uF]
  constructor
  · intro h
    have hrl : ¬ r < xs.length := by intro h'; rw [if_pos h'] at h; omega
    have : xs.filter (fun x => !p x) = xs := by
      rw [List.filter_eq_self]
      intro x hx
      have := hr1 x (by rw [List.take_of_length_le (by omega)]; exact hx)
      simp [this]
    rw [this]
  · intro h
    have hrl : r < xs.length := by
      rcases Nat.lt_or_ge r xs.length with h' | h'
      · exact h'
      · rw [if_neg (by omega)] at h; exact absurd rfl h
    simp only [if_pos hrl]
    have hw0 : IntKind.i64.wrap ((r : Int) + 1) = ((r + 1 : Nat) : Int) := by rw [wrap_small] <;> omega
    simp only [hw0]
    refine V.loop (fun m ls os => ∃ (i j : Nat) (ys : List PV), i < j ∧ j ≤ xs.length ∧ m = xs.length - j ∧ ys.length = xs.length ∧ ys.take i = (xs.take j).filter (fun x => !p x) ∧ ys.drop j = xs.drop j ∧ (∀ y ∈ ys, y ∈ xs) ∧
        ls = [(0, .ref 0), (1, .val (.fn g caps)), (5, .val (.int .i64 i)), (6, .val (.int .i64 j))] ∧ os = [.row 68 ys]) 1 (xs.length - (r + 1)) [(0, .ref 0), (1, .val (.fn g caps)), (5, .val (.int .i64 r)), (6, .val (.int .i64 (r + 1 : Nat)))] [.row 68 xs] [some 0]
      ⟨r, r + 1, xs, by omega, by omega, rfl, rfl, ?_, rfl, fun y hy => hy, rfl, rfl⟩ (by simp only [go_sem, ↓reduceIte, reduceCtorEq, yA, yB, uA, uB, uC, uD, uE, uF]) ?_
    · obtain ⟨x, hx⟩ : ∃ x, xs[r]? = some x := ⟨_, List.getElem?_eq_getElem hrl⟩
      rw [List.take_add_one, hx, List.filter_append]
      have e1 : (xs.take r).filter (fun x => !p x) = xs.take r := by
        rw [List.filter_eq_self]; intro y hy; simp [hr1 y hy]
      rw [e1]
      simp [hr2 x hx]
    · rintro m ls os ⟨i, j, ys, hij, hj, rfl, hyl, hyt, hyd, hym, rfl, rfl⟩
      by_cases hlt : j < xs.length
      · have hlt' : (j : Int) < (ys.length : Int) := by omega
        refine V.exec 400 ?_
        obtain ⟨x, hx⟩ : ∃ x, ys[j]? = some x := ⟨_, List.getElem?_eq_getElem (by omega)⟩
        obtain ⟨z, hz'⟩ : ∃ z, ys[i]? = some z := ⟨_, List.getElem?_eq_getElem (by omega)⟩
        have hxm : x ∈ xs := hym x (List.mem_of_getElem? hx)
        have hzm : z ∈ xs := hym z (List.mem_of_getElem? hz')
        obtain ⟨hzc, hza, _⟩ := h1 z hzm
        obtain ⟨hxc, hxa, hxn⟩ := h1 x hxm
        have hpx := hp x hxm
        obtain ⟨c0, c1, c2, c3, c4, c5, rfl⟩ : ∃ c0 c1 c2 c3 c4 c5, x = .agg [c0, c1, c2, c3, c4, c5] := by
          cases x with
          | agg cs =>
            match cs, hxc with
            | [c0, c1, c2, c3, c4, c5], _ => exact ⟨c0, c1, c2, c3, c4, c5, rfl⟩
          | _ => cases hxa
        have n0 : c0.isAgg = false := hxn c0 (by simp [PV.cells])
        have n1 : c1.isAgg = false := hxn c1 (by simp [PV.cells])
        have n2 : c2.isAgg = false := hxn c2 (by simp [PV.cells])
        have n3 : c3.isAgg = false := hxn c3 (by simp [PV.cells])
        have n4 : c4.isAgg = false := hxn c4 (by simp [PV.cells])
        have n5 : c5.isAgg = false := hxn c5 (by simp [PV.cells])
        have hwi : IntKind.i64.wrap ((i : Int) + 1) = ((i + 1 : Nat) : Int) := by rw [wrap_small] <;> omega
        have hwj : IntKind.i64.wrap ((j : Int) + 1) = ((j + 1 : Nat) : Int) := by rw [wrap_small] <;> omega
        simp +contextual (maxSteps := 1000000) only [go_sem, ↓reduceIte, reduceCtorEq, yA, yB, uA, uB, uC, uD, uE, uF, hlt', hx, n0, n1, n2, n3, n4, n5]
        refine V.call rfl rfl (by simp [dOK]) ⟨g, caps, by simp only [go_sem, ↓reduceIte, reduceCtorEq, yA, yB, uA, uB, uC, uD, uE, uF], hg, .inl ⟨[_], _, .inl (by simp only [go_sem, ↓reduceIte, reduceCtorEq, yA, yB, uA, uB, uC, uD, uE, uF]), hpx, .inl ⟨_, rfl, rfl, rfl, rfl⟩⟩⟩ ?_
        refine V.exec 400 ?_
        simp +contextual (maxSteps := 1000000) only [go_sem, ↓reduceIte, reduceCtorEq, yA, yB, uA, uB, uC, uD, uE, uF, hwi, hwj, hz', hzc, n0, n1, n2, n3, n4, n5]
        have hxj : xs[j]? = some (.agg [c0, c1, c2, c3, c4, c5]) := by
          have e1 : (ys.drop j)[0]? = (xs.drop j)[0]? := by rw [hyd]
          simp only [List.getElem?_drop, Nat.add_zero] at e1
          rw [← e1]; exact hx
        have hdrop : ys.drop (j + 1) = xs.drop (j + 1) := by rw [← List.drop_drop, ← List.drop_drop, hyd]
        have htk : xs.take (j + 1) = xs.take j ++ [.agg [c0, c1, c2, c3, c4, c5]] := by rw [List.take_add_one, hxj]; rfl
        constructor
        · intro hpx
          refine ⟨xs.length - (j + 1), _, _, [some 0], by omega, ⟨i + 1, j + 1, ys.set i (.agg [c0, c1, c2, c3, c4, c5]), by omega, by omega, rfl, by simpa using hyl, ?_, ?_, ?_, rfl, rfl⟩, ?_⟩
          · rw [htk, List.filter_append, ← hyt, List.take_add_one, List.getElem?_set_self (by omega), List.take_set_of_le (Nat.le_refl _)]
            simp [hpx]
          · rw [List.drop_set_of_lt (by omega)]; exact hdrop
          · intro y hy
            rcases List.mem_or_eq_of_mem_set hy with hy | hy
            · exact hym y hy
            · rw [hy]; exact hxm
          · simp only [go_sem, ↓reduceIte, reduceCtorEq, yA, yB, uA, uB, uC, uD, uE, uF]
        · intro hpx
          refine ⟨xs.length - (j + 1), _, _, [some 0], by omega, ⟨i, j + 1, ys, by omega, by omega, rfl, hyl, ?_, hdrop, hym, rfl, rfl⟩, ?_⟩
          · rw [htk, List.filter_append, hyt]
            simp [hpx]
          · simp only [go_sem, ↓reduceIte, reduceCtorEq, yA, yB, uA, uB, uC, uD, uE, uF]
      · have hlt' : ¬ (j : Int) < (ys.length : Int) := by omega
        refine V.execS [11] 400 ?_
        simp +contextual (maxSteps := 1000000) only [go_sem, ↓reduceIte, reduceCtorEq, yA, yB, uA, uB, uC, uD, uE, uF, hlt']
        refine V.opn 0 6 68 ys (by simp only [go_sem, ↓reduceIte, reduceCtorEq, yA, yB, uA, uB, uC, uD, uE, uF]) (by simp only [go_sem, ↓reduceIte, reduceCtorEq, yA, yB, uA, uB, uC, uD, uE, uF]) fun q => ?_
        refine V.exec 400 ?_
        simp +contextual (maxSteps := 1000000) only [go_sem, ↓reduceIte, reduceCtorEq, yA, yB, uA, uB, uC, uD, uE, uF]
        have hi : i ≤ ys.length := by omega
        have hjx : j = xs.length := by omega
        rw [show 0 + i = i from Nat.zero_add i, over_length hi, List.length_replicate]
        refine ⟨⟨hi, by omega⟩, ⟨hi, by omega⟩, ⟨by omega, by omega⟩, by omega, ?_⟩
        rw [hjx, List.take_length] at hyt
        rw [Nat.sub_zero, over, List.append_assoc, List.take_append_of_le_length (by simp [Nat.min_eq_left hi]), List.take_take, Nat.min_self, hyt]
end Go.Proofs.Ytjbfcmaiejlnbaa
set_option linter.unusedVariables false
set_option linter.unusedSimpArgs false
set_option maxRecDepth 8000
namespace Go.Proofs.Ytjbfcmaiejlnbaa
open Nat renaming reduceAdd → uA, reduceLT → uB, reduceEqDiff → uC, reduceLeDiff → uD, reduceSub → uE, reduceMul → uF
open Bool renaming false_eq_true → yA, true_eq_false → yB
open Go Go.Proofs Go.Proofs.YtjbfcmaiejlnbaaVm Go.Proofs.Ytjbfcmaiejlnbaa.Ty

structure Range where
  lo : List UInt8
  hi : List UInt8
  op : Bool
  deriving DecidableEq
def Range.pv (r : Range) : PV := .agg [.str r.lo, .str r.hi, .bool (decide (r.op = true))]
def Range.ok (r : Range) : Prop := r.lo.length ≤ 16 ∧ r.hi.length ≤ 17 ∧ (r.op = true → r.hi = [])
instance Range.instOk (r : Range) : Decidable r.ok := by unfold Range.ok; infer_instance

structure Sub where
  id : Int
  r : Range
  live : Bool
  next : List UInt8
  cur : Int
  deriving DecidableEq
def Sub.pv (s : Sub) : PV := .agg [.int .i64 s.id, .str s.r.lo, .str s.r.hi, .bool (decide (s.r.op = true)), .bool (decide (s.live = true)), .str s.next, .int .i64 s.cur]
def Sub.ok (s : Sub) : Prop := s.r.ok ∧ s.next.length ≤ 17 ∧ (s.live = true → s.next = []) ∧ 0 ≤ s.cur ∧ s.cur ≤ 2147483647
instance Sub.instOk (s : Sub) : Decidable s.ok := by unfold Sub.ok; infer_instance

theorem stretch_Right (r : Range) : Ct Try.prog 43 (YtjbfcmaiejlnbaaVm.ops [r.pv]) (.vals [.bool (decide r.ok)]) := by
  refine Ct.of_V Try.func43 rfl (by simp [YtjbfcmaiejlnbaaVm.ops, Try.f43]) ?_
  refine V.exec 400 ?_
  simp +contextual (maxSteps := 1000000) only [go_sem, ↓reduceIte, reduceCtorEq, yA, yB, uA, uB, uC, uD, uE, uF, Range.pv, Try.f43]
  have e1 : ((r.lo.length : Int) ≤ 16) = (r.lo.length ≤ 16) := by apply propext; omega
  have e2 : ((r.hi.length : Int) ≤ 17) = (r.hi.length ≤ 17) := by apply propext; omega
  simp only [e1, e2, Option.some.injEq, List.cons.injEq, PV.bool.injEq, and_true]
  grind [Range.ok]

set_option maxHeartbeats 2000000 in
theorem feed_Right (s : Sub) : Ct Try.prog 32 (YtjbfcmaiejlnbaaVm.ops [s.pv]) (.vals [.bool (decide s.ok)]) := by
  refine Ct.of_V Try.func32 rfl (by simp [YtjbfcmaiejlnbaaVm.ops, Try.f32]) ?_
  refine V.exec 400 ?_
  simp +contextual (maxSteps := 1000000) only [go_sem, ↓reduceIte, reduceCtorEq, yA, yB, uA, uB, uC, uD, uE, uF, Sub.pv, Try.f32]
  refine V.call rfl rfl (by simp [dOK]) ⟨43, [], by simp only [go_sem, ↓reduceIte, reduceCtorEq, yA, yB, uA, uB, uC, uD, uE, uF], ⟨_, rfl, rfl, rfl⟩, .inl ⟨[s.r.pv], _, .inl (by simp only [go_sem, ↓reduceIte, reduceCtorEq, yA, yB, uA, uB, uC, uD, uE, uF, Range.pv]), stretch_Right s.r, .inl ⟨_, rfl, rfl, rfl, rfl⟩⟩⟩ ?_
  refine V.exec 400 ?_
  simp +contextual (maxSteps := 1000000) only [go_sem, ↓reduceIte, reduceCtorEq, yA, yB, uA, uB, uC, uD, uE, uF]
  have e1 : ((s.next.length : Int) ≤ 17) = (s.next.length ≤ 17) := by apply propext; omega
  simp only [e1, Option.some.injEq, List.cons.injEq, PV.bool.injEq, and_true]
  grind [Sub.ok]
end Go.Proofs.Ytjbfcmaiejlnbaa
set_option linter.unusedVariables false
set_option linter.unusedSimpArgs false
set_option maxRecDepth 8000
namespace Go.Proofs.Ytjbfcmaiejlnbaa
open Nat renaming reduceAdd → uA, reduceLT → uB, reduceEqDiff → uC, reduceLeDiff → uD, reduceSub → uE, reduceMul → uF
open Bool renaming false_eq_true → yA, true_eq_false → yB
open Go Go.Proofs Go.Proofs.YtjbfcmaiejlnbaaVm Go.Proofs.Ytjbfcmaiejlnbaa.Ty

def rightFrom (last : Int) : List Sub → Prop
  | [] => True
  | s :: r => s.ok ∧ last < s.id ∧ rightFrom s.id r
def subsOk (l : List Sub) : Prop := rightFrom 0 l ∧ l.length ≤ 4
instance instRF : ∀ (last : Int) (l : List Sub), Decidable (rightFrom last l)
  | _, [] => isTrue trivial
  | last, s :: r => by
    unfold rightFrom
    have := instRF s.id r
    infer_instance
instance instSubsOk (l : List Sub) : Decidable (subsOk l) := by unfold subsOk; infer_instance

set_option maxHeartbeats 4000000 in
theorem floor_Right (l : List Sub) (hl : l.length ≤ 1000000) : Ct Try.prog 13 (YtjbfcmaiejlnbaaVm.ops [.row (l.map Sub.pv)]) (.vals [.bool (decide (subsOk l))]) := by
  refine Ct.of_V Try.func13 rfl (by simp [YtjbfcmaiejlnbaaVm.ops, Try.f13]) ?_
  refine V.exec 400 ?_
  simp +contextual (maxSteps := 1000000) only [go_sem, ↓reduceIte, reduceCtorEq, yA, yB, uA, uB, uC, uD, uE, uF, Try.f13]
  refine V.loop (fun m ls os => ∃ (i : Nat) (last : Int), i ≤ l.length ∧ m = l.length - i ∧ (rightFrom 0 l ↔ rightFrom last (l.drop i)) ∧
        ls = [(0, .val (.row (l.map Sub.pv))), (3, .val (.int .i64 last)), (6, .val (.row (l.map Sub.pv))), (7, .val (.int .i64 l.length)), (8, .val (.int .i64 i))] ∧ os = []) 0 l.length
      [(0, .val (.row (l.map Sub.pv))), (3, .val (.int .i64 0)), (6, .val (.row (l.map Sub.pv))), (7, .val (.int .i64 l.length)), (8, .val (.int .i64 0))] [] []
      ⟨0, 0, Nat.zero_le _, rfl, Iff.rfl, rfl, rfl⟩ (by simp only [go_sem, ↓reduceIte, reduceCtorEq, yA, yB, uA, uB, uC, uD, uE, uF]) ?_
  rintro m ls os ⟨i, last, hi, rfl, hiff, rfl, rfl⟩
  refine V.exec 400 ?_
  by_cases hlt : i < l.length
  · have hlt' : (i : Int) < (l.length : Int) := by omega
    obtain ⟨x, hx⟩ : ∃ x, l[i]? = some x := ⟨_, List.getElem?_eq_getElem hlt⟩
    have hw : IntKind.i64.wrap ((i : Int) + 1) = ((i + 1 : Nat) : Int) := by rw [wrap_small3] <;> omega
    rw [drop_of_get hx, rightFrom] at hiff
    simp +contextual (maxSteps := 1000000) only [go_sem, ↓reduceIte, reduceCtorEq, yA, yB, uA, uB, uC, uD, uE, uF, hlt', hx, Sub.pv]
    refine V.call rfl rfl (by simp [dOK]) ⟨32, [], by simp only [go_sem, ↓reduceIte, reduceCtorEq, yA, yB, uA, uB, uC, uD, uE, uF], ⟨_, rfl, rfl, rfl⟩, .inl ⟨[x.pv], _, .inl (by simp only [go_sem, ↓reduceIte, reduceCtorEq, yA, yB, uA, uB, uC, uD, uE, uF, Sub.pv]), feed_Right x, .inl ⟨_, rfl, rfl, rfl, rfl⟩⟩⟩ ?_
    refine V.exec 400 ?_
    simp +contextual (maxSteps := 1000000) only [go_sem, ↓reduceIte, reduceCtorEq, yA, yB, uA, uB, uC, uD, uE, uF, hw]
    have hfalse : ¬ rightFrom 0 l → some [PV.bool false] = some [PV.bool (decide (subsOk l))] := fun h => by
      have : ¬ subsOk l := fun h' => h h'.1
      simp [this]
    refine ⟨fun hok => ⟨fun hle => hfalse (fun h => ?_), fun hgt => ?_⟩, fun hno => hfalse (fun h => hno (hiff.1 h).1)⟩
    · have := (hiff.1 h).2.1; omega
    · refine ⟨l.length - (i + 1), _, [], [], by omega, ⟨i + 1, x.id, by omega, rfl, ?_, rfl, rfl⟩, by simp only [go_sem, ↓reduceIte, reduceCtorEq, yA, yB, uA, uB, uC, uD, uE, uF]⟩
      rw [hiff]
      exact ⟨fun h => h.2.2, fun h => ⟨hok, by omega, h⟩⟩
  · have hlt' : ¬ (i : Int) < (l.length : Int) := by omega
    have hd : l.drop i = [] := List.drop_eq_nil_of_le (by omega)
    rw [hd, rightFrom] at hiff
    simp +contextual (maxSteps := 1000000) only [go_sem, ↓reduceIte, reduceCtorEq, yA, yB, uA, uB, uC, uD, uE, uF, hlt']
    have e1 : ((l.length : Int) ≤ 4) = (l.length ≤ 4) := by apply propext; omega
    simp [subsOk, hiff, e1]

/-- The floor. -/
def floorOf (head : Int) : List Sub → Int
  | [] => head
  | s :: r => floorOf (min head s.cur) r

set_option maxHeartbeats 4000000 in
theorem floor_Of (head : Int) (l : List Sub) (hl : l.length ≤ 1000000) : Ct Try.prog 14 (YtjbfcmaiejlnbaaVm.ops [.int .i64 head, .row (l.map Sub.pv)]) (.vals [.int .i64 (floorOf head l)]) := by
  refine Ct.of_V Try.func14 rfl (by simp [YtjbfcmaiejlnbaaVm.ops, Try.f14]) ?_
  refine V.exec 400 ?_
  simp +contextual (maxSteps := 1000000) only [go_sem, ↓reduceIte, reduceCtorEq, yA, yB, uA, uB, uC, uD, uE, uF, Try.f14]
  refine V.loop (fun m ls os => ∃ (i : Nat) (h : Int), i ≤ l.length ∧ m = l.length - i ∧ floorOf head l = floorOf h (l.drop i) ∧
        ls = [(0, .val (.int .i64 h)), (7, .val (.row (l.map Sub.pv))), (8, .val (.int .i64 l.length)), (9, .val (.int .i64 i))] ∧ os = []) 0 l.length
      [(0, .val (.int .i64 head)), (7, .val (.row (l.map Sub.pv))), (8, .val (.int .i64 l.length)), (9, .val (.int .i64 0))] [] []
      ⟨0, head, Nat.zero_le _, rfl, rfl, rfl, rfl⟩ (by simp only [go_sem, ↓reduceIte, reduceCtorEq, yA, yB, uA, uB, uC, uD, uE, uF]) ?_
  rintro m ls os ⟨i, h, hi, rfl, heq, rfl, rfl⟩
  refine V.exec 400 ?_
  by_cases hlt : i < l.length
  · have hlt' : (i : Int) < (l.length : Int) := by omega
    obtain ⟨x, hx⟩ : ∃ x, l[i]? = some x := ⟨_, List.getElem?_eq_getElem hlt⟩
    have hw : IntKind.i64.wrap ((i : Int) + 1) = ((i + 1 : Nat) : Int) := by rw [wrap_small3] <;> omega
    rw [drop_of_get hx, floorOf] at heq
    have hm : (if x.cur < h then x.cur else h) = min h x.cur := by simp only [Int.min_def]; split <;> split <;> omega
    simp +contextual (maxSteps := 1000000) only [go_sem, ↓reduceIte, reduceCtorEq, yA, yB, uA, uB, uC, uD, uE, uF, hlt', hx, Sub.pv, hw, hm]
    exact ⟨l.length - (i + 1), _, [], [], by omega, ⟨i + 1, min h x.cur, by omega, rfl, heq, rfl, rfl⟩, by simp only [go_sem, ↓reduceIte, reduceCtorEq, yA, yB, uA, uB, uC, uD, uE, uF]⟩
  · have hlt' : ¬ (i : Int) < (l.length : Int) := by omega
    have hd : l.drop i = [] := List.drop_eq_nil_of_le (by omega)
    rw [hd, floorOf] at heq
    simp +contextual (maxSteps := 1000000) only [go_sem, ↓reduceIte, reduceCtorEq, yA, yB, uA, uB, uC, uD, uE, uF, hlt', heq]
end Go.Proofs.Ytjbfcmaiejlnbaa
set_option linter.unusedVariables false
set_option linter.unusedSimpArgs false
set_option maxRecDepth 8000
namespace Go.Proofs.Ytjbfcmaiejlnbaa
open Nat renaming reduceAdd → uA, reduceLT → uB, reduceEqDiff → uC, reduceLeDiff → uD, reduceSub → uE, reduceMul → uF
open Bool renaming false_eq_true → yA, true_eq_false → yB
open Go Go.Proofs Go.Proofs.YtjbfcmaiejlnbaaVm Go.Proofs.Ytjbfcmaiejlnbaa.Ty

def cmpInt (a b : Int) : Int := if a < b then -1 else if b < a then 1 else 0

theorem isNaN55 (a : Int) : Ct Try.prog 55 (YtjbfcmaiejlnbaaVm.ops [.int .i64 a]) (.vals [.bool false]) := by
  refine Ct.of_V Try.func55 rfl (by simp [YtjbfcmaiejlnbaaVm.ops, Try.f55]) ?_
  refine V.exec 400 ?_
  simp +contextual (maxSteps := 1000000) only [go_sem, ↓reduceIte, reduceCtorEq, yA, yB, uA, uB, uC, uD, uE, uF, Try.f55]

theorem Compare48 (a b : Int) : Ct Try.prog 48 (YtjbfcmaiejlnbaaVm.ops [.int .i64 a, .int .i64 b]) (.vals [.int .i64 (cmpInt a b)]) := by
  refine Ct.of_V Try.func48 rfl (by simp [YtjbfcmaiejlnbaaVm.ops, Try.f48]) ?_
  refine V.exec 400 ?_
  simp +contextual (maxSteps := 1000000) only [go_sem, ↓reduceIte, reduceCtorEq, yA, yB, uA, uB, uC, uD, uE, uF, Try.f48]
  refine V.call rfl rfl (by simp [dOK]) ⟨55, [], by simp only [go_sem, ↓reduceIte, reduceCtorEq, yA, yB, uA, uB, uC, uD, uE, uF], ⟨_, rfl, rfl, rfl⟩, .inl ⟨[.int .i64 a], _, .inl (by simp only [go_sem, ↓reduceIte, reduceCtorEq, yA, yB, uA, uB, uC, uD, uE, uF]), isNaN55 a, .inl ⟨_, rfl, rfl, rfl, rfl⟩⟩⟩ ?_
  refine V.exec 400 ?_
  simp +contextual (maxSteps := 1000000) only [go_sem, ↓reduceIte, reduceCtorEq, yA, yB, uA, uB, uC, uD, uE, uF]
  refine V.call rfl rfl (by simp [dOK]) ⟨55, [], by simp only [go_sem, ↓reduceIte, reduceCtorEq, yA, yB, uA, uB, uC, uD, uE, uF], ⟨_, rfl, rfl, rfl⟩, .inl ⟨[.int .i64 b], _, .inl (by simp only [go_sem, ↓reduceIte, reduceCtorEq, yA, yB, uA, uB, uC, uD, uE, uF]), isNaN55 b, .inl ⟨_, rfl, rfl, rfl, rfl⟩⟩⟩ ?_
  refine V.exec 400 ?_
  simp +contextual (maxSteps := 1000000) only [go_sem, ↓reduceIte, reduceCtorEq, yA, yB, uA, uB, uC, uD, uE, uF]
  grind [cmpInt]

theorem place1_47 (s : Sub) (id : Int) : Ct Try.prog 47 (YtjbfcmaiejlnbaaVm.ops [s.pv, .int .i64 id]) (.vals [.int .i64 (cmpInt s.id id)]) := by
  refine Ct.of_V Try.func47 rfl (by simp [YtjbfcmaiejlnbaaVm.ops, Try.f47]) ?_
  refine V.exec 400 ?_
  simp +contextual (maxSteps := 1000000) only [go_sem, ↓reduceIte, reduceCtorEq, yA, yB, uA, uB, uC, uD, uE, uF, Try.f47, Sub.pv]
  refine V.call rfl rfl (by simp [dOK]) ⟨48, [], by simp only [go_sem, ↓reduceIte, reduceCtorEq, yA, yB, uA, uB, uC, uD, uE, uF], ⟨_, rfl, rfl, rfl⟩, .inl ⟨[.int .i64 s.id, .int .i64 id], _, .inl (by simp only [go_sem, ↓reduceIte, reduceCtorEq, yA, yB, uA, uB, uC, uD, uE, uF]), Compare48 s.id id, .inl ⟨_, rfl, rfl, rfl, rfl⟩⟩⟩ ?_
  refine V.exec 400 ?_
  simp +contextual (maxSteps := 1000000) only [go_sem, ↓reduceIte, reduceCtorEq, yA, yB, uA, uB, uC, uD, uE, uF]

def cOf (id : Int) : PV → Int
  | .agg (.int _ n :: _) => cmpInt n id
  | _ => 0
/-- How many stand ahead of an Id. -/
def rank (id : Int) : List Sub → Nat
  | [] => 0
  | s :: r => if s.id < id then rank id r + 1 else 0

theorem cmp_neg {a b : Int} : cmpInt a b < 0 ↔ a < b := by unfold cmpInt; split <;> (try split) <;> omega
theorem cmp_zero {a b : Int} : cmpInt a b = 0 ↔ a = b := by unfold cmpInt; split <;> (try split) <;> omega

theorem rank_le (id : Int) (l : List Sub) : rank id l ≤ l.length := by
  induction l with
  | nil => simp [rank]
  | cons s r ih => unfold rank; split <;> simp <;> omega

theorem rank_lt {id : Int} : ∀ (l : List Sub) (i : Nat) (x : Sub), i < rank id l → l[i]? = some x → x.id < id := by
  intro l
  induction l with
  | nil => intro i x h; simp [rank] at h
  | cons s r ih =>
    intro i x h hx
    unfold rank at h
    split at h
    · cases i with
      | zero => simp at hx; subst hx; assumption
      | succ i => exact ih i x (by omega) (by simpa using hx)
    · omega

theorem above {last : Int} : ∀ (l : List Sub), rightFrom last l → ∀ x ∈ l, last < x.id := by
  intro l
  induction l generalizing last with
  | nil => intro _ x hx; simp at hx
  | cons s r ih =>
    intro h x hx
    obtain ⟨_, h1, h2⟩ := h
    rcases List.mem_cons.1 hx with rfl | hx
    · exact h1
    · have := ih h2 x hx; omega

theorem rank_ge {id last : Int} : ∀ (l : List Sub), rightFrom last l → ∀ (i : Nat) (x : Sub), rank id l ≤ i → l[i]? = some x → ¬ x.id < id := by
  intro l
  induction l generalizing last with
  | nil => intro _ i x _ hx; simp at hx
  | cons s r ih =>
    intro hr i x h hx
    obtain ⟨_, _, h2⟩ := hr
    unfold rank at h
    split at h
    · cases i with
      | zero => omega
      | succ i => exact ih h2 i x (by omega) (by simpa using hx)
    · cases i with
      | zero => simp at hx; subst hx; assumption
      | succ i =>
        have := above r h2 x (List.mem_of_getElem? (i := i) (by simpa using hx))
        omega

set_option maxHeartbeats 2000000 in
theorem floor_place (l : List Sub) (id : Int) (hl : l.length ≤ 1000000) (hs : rightFrom 0 l) :
    Ct Try.prog 34 (YtjbfcmaiejlnbaaVm.ops [.row (l.map Sub.pv), .int .i64 id]) (.vals [.int .i64 (rank id l), .bool (decide (∃ x, l[rank id l]? = some x ∧ x.id = id))]) := by
  have hb := BSearchSub (l.map Sub.pv) (.int .i64 id) 47 [] (cOf id) (fun x hx => by
      obtain ⟨s, _, rfl⟩ := List.mem_map.1 hx
      exact ⟨rfl, rfl⟩) (by simpa using hl) ⟨_, rfl, rfl, rfl⟩ (fun x hx => by
      obtain ⟨s, _, rfl⟩ := List.mem_map.1 hx
      exact place1_47 s id) (rank id l) (by simpa using rank_le id l) (fun i x hi hx => by
      rw [List.getElem?_map, Option.map_eq_some_iff] at hx
      obtain ⟨s, hs', rfl⟩ := hx
      exact cmp_neg.2 (rank_lt l i s hi hs')) (fun i x hi hx => by
      rw [List.getElem?_map, Option.map_eq_some_iff] at hx
      obtain ⟨s, hs', rfl⟩ := hx
      exact fun h => rank_ge l hs i s hi hs' (cmp_neg.1 h))
  have e1 : (∃ x, (l.map Sub.pv)[rank id l]? = some x ∧ cOf id x = 0) ↔ ∃ x, l[rank id l]? = some x ∧ x.id = id := by
    constructor
    · rintro ⟨x, hx, hc⟩
      rw [List.getElem?_map, Option.map_eq_some_iff] at hx
      obtain ⟨s, hs', rfl⟩ := hx
      exact ⟨s, hs', cmp_zero.1 hc⟩
    · rintro ⟨s, hs', hc⟩
      exact ⟨s.pv, by rw [List.getElem?_map, hs']; rfl, cmp_zero.2 hc⟩
  simp only [e1] at hb
  refine Ct.of_V Try.func34 rfl (by simp [YtjbfcmaiejlnbaaVm.ops, Try.f34]) ?_
  refine V.exec 400 ?_
  simp +contextual (maxSteps := 1000000) only [go_sem, ↓reduceIte, reduceCtorEq, yA, yB, uA, uB, uC, uD, uE, uF, Try.f34]
  refine V.call rfl rfl (by simp [dOK]) ⟨46, [], by simp only [go_sem, ↓reduceIte, reduceCtorEq, yA, yB, uA, uB, uC, uD, uE, uF], ⟨_, rfl, rfl, rfl⟩, .inl ⟨[.row (l.map Sub.pv), .int .i64 id, .fn 47 []], _, .inl (by simp only [go_sem, ↓reduceIte, reduceCtorEq, yA, yB, uA, uB, uC, uD, uE, uF]), hb, .inl ⟨_, rfl, rfl, rfl, rfl⟩⟩⟩ ?_
  refine V.exec 400 ?_
  simp +contextual (maxSteps := 1000000) only [go_sem, ↓reduceIte, reduceCtorEq, yA, yB, uA, uB, uC, uD, uE, uF]
end Go.Proofs.Ytjbfcmaiejlnbaa
set_option linter.unusedVariables false
set_option linter.unusedSimpArgs false
set_option maxRecDepth 8000
namespace Go.Proofs.Ytjbfcmaiejlnbaa
open Nat renaming reduceAdd → uA, reduceLT → uB, reduceEqDiff → uC, reduceLeDiff → uD, reduceSub → uE, reduceMul → uF
open Bool renaming false_eq_true → yA, true_eq_false → yB
open Go Go.Proofs Go.Proofs.YtjbfcmaiejlnbaaVm Go.Proofs.Ytjbfcmaiejlnbaa.Ty

def Sub.zero : Sub := ⟨0, ⟨[], [], false⟩, false, [], 0⟩
theorem Sub.zero_pv : Sub.zero.pv = .agg [.int .i64 0, .str [], .str [], .bool false, .bool false, .str [], .int .i64 0] := by simp [Sub.pv, Sub.zero]
/-- Who has an Id. -/
def findL (l : List Sub) (id : Int) : Option Sub := l.find? fun s => decide (s.id = id)

theorem rank_find {id last : Int} : ∀ (l : List Sub), rightFrom last l → ∀ x, (l[rank id l]? = some x ∧ x.id = id) ↔ findL l id = some x := by
  intro l
  induction l generalizing last with
  | nil => intro _ x; simp [rank, findL]
  | cons s r ih =>
    intro hr x
    obtain ⟨_, h1, h2⟩ := hr
    unfold rank findL
    by_cases h : s.id < id
    · have hne : ¬ s.id = id := by omega
      simp only [h, if_true, List.getElem?_cons_succ, List.find?_cons, hne, decide_false]
      exact ih h2 x
    · by_cases he : s.id = id
      · rw [if_neg h, List.getElem?_cons_zero, List.find?_cons]
        simp only [he, decide_true, Option.some.injEq]
        constructor
        · rintro ⟨rfl, _⟩; rfl
        · rintro rfl; exact ⟨rfl, he⟩
      · simp only [h, if_false, List.getElem?_cons_zero, List.find?_cons, he, decide_false, Option.some.injEq]
        constructor
        · rintro ⟨rfl, h'⟩; exact absurd h' he
        · intro h'
          have hm := List.mem_of_find?_eq_some h'
          have hi := List.find?_some h'
          have := above r h2 x hm
          simp at hi
          omega

def findV (l : List Sub) (id : Int) : Sub × Int := if subsOk l then match findL l id with | some x => (x, 0) | none => (Sub.zero, 3) else (Sub.zero, 1)

set_option maxHeartbeats 2000000 in
theorem floor_Find (l : List Sub) (id : Int) (hl : l.length ≤ 1000000) : Ct Try.prog 12 (YtjbfcmaiejlnbaaVm.ops [.row (l.map Sub.pv), .int .i64 id]) (.vals [(findV l id).1.pv, .int .i64 (findV l id).2]) := by
  refine Ct.of_V Try.func12 rfl (by simp [YtjbfcmaiejlnbaaVm.ops, Try.f12]) ?_
  refine V.exec 400 ?_
  simp +contextual (maxSteps := 1000000) only [go_sem, ↓reduceIte, reduceCtorEq, yA, yB, uA, uB, uC, uD, uE, uF, Try.f12]
  refine V.call rfl rfl (by simp [dOK]) ⟨13, [], by simp only [go_sem, ↓reduceIte, reduceCtorEq, yA, yB, uA, uB, uC, uD, uE, uF], ⟨_, rfl, rfl, rfl⟩, .inl ⟨[.row (l.map Sub.pv)], _, .inl (by simp only [go_sem, ↓reduceIte, reduceCtorEq, yA, yB, uA, uB, uC, uD, uE, uF]), floor_Right l hl, .inl ⟨_, rfl, rfl, rfl, rfl⟩⟩⟩ ?_
  refine V.exec 400 ?_
  by_cases hs : subsOk l
  · simp +contextual (maxSteps := 1000000) only [go_sem, ↓reduceIte, reduceCtorEq, yA, yB, uA, uB, uC, uD, uE, uF, hs]
    refine V.call rfl rfl (by simp [dOK]) ⟨34, [], by simp only [go_sem, ↓reduceIte, reduceCtorEq, yA, yB, uA, uB, uC, uD, uE, uF], ⟨_, rfl, rfl, rfl⟩, .inl ⟨[.row (l.map Sub.pv), .int .i64 id], _, .inl (by simp only [go_sem, ↓reduceIte, reduceCtorEq, yA, yB, uA, uB, uC, uD, uE, uF]), floor_place l id hl hs.1, .inl ⟨_, rfl, rfl, rfl, rfl⟩⟩⟩ ?_
    refine V.exec 400 ?_
    cases hf : findL l id with
    | some x =>
      have hx := (rank_find l hs.1 x).2 hf
      have he : (∃ x_1, some x = some x_1 ∧ x_1.id = id) := ⟨x, rfl, hx.2⟩
      have hv : findV l id = (x, 0) := by simp [findV, hs, hf]
      simp +contextual (maxSteps := 1000000) only [go_sem, ↓reduceIte, reduceCtorEq, yA, yB, uA, uB, uC, uD, uE, uF, he, hx.1, hv, Sub.pv]
    | none =>
      have he : ¬ (∃ x, l[rank id l]? = some x ∧ x.id = id) := fun ⟨x, hx⟩ => by have := (rank_find l hs.1 x).1 hx; rw [hf] at this; cases this
      have hv : findV l id = (Sub.zero, 3) := by simp [findV, hs, hf]
      simp +contextual (maxSteps := 1000000) only [go_sem, ↓reduceIte, reduceCtorEq, yA, yB, uA, uB, uC, uD, uE, uF, he, hv, Sub.zero_pv]
  · have hv : findV l id = (Sub.zero, 1) := by simp [findV, hs]
    simp +contextual (maxSteps := 1000000) only [go_sem, ↓reduceIte, reduceCtorEq, yA, yB, uA, uB, uC, uD, uE, uF, hs, hv, Sub.zero_pv]
end Go.Proofs.Ytjbfcmaiejlnbaa
set_option linter.unusedVariables false
set_option linter.unusedSimpArgs false
set_option maxRecDepth 8000
namespace Go.Proofs.Ytjbfcmaiejlnbaa
open Nat renaming reduceAdd → uA, reduceLT → uB, reduceEqDiff → uC, reduceLeDiff → uD, reduceSub → uE, reduceMul → uF
open Bool renaming false_eq_true → yA, true_eq_false → yB
open Go Go.Proofs Go.Proofs.YtjbfcmaiejlnbaaVm Go.Proofs.Ytjbfcmaiejlnbaa.Ty

theorem leave1_31 (s : Sub) (id : Int) : Ct Try.prog 31 (YtjbfcmaiejlnbaaVm.ops [s.pv, .ptr (.int .i64 id)]) (.vals [.bool (decide (s.id = id))]) := by
  refine Ct.of_V Try.func31 rfl (by simp [YtjbfcmaiejlnbaaVm.ops, Try.f31]) ?_
  refine V.exec 400 ?_
  simp +contextual (maxSteps := 1000000) only [go_sem, ↓reduceIte, reduceCtorEq, yA, yB, uA, uB, uC, uD, uE, uF, Try.f31, Sub.pv]

def idOf : PV → Int
  | .agg (.int _ n :: _) => n
  | _ => 0
def leaveV (l : List Sub) (id : Int) : List Sub × Int := if (findV l id).2 = 0 then (l.filter fun s => !decide (s.id = id), 0) else (l, (findV l id).2)

theorem filter_pv (l : List Sub) (id : Int) : (l.map Sub.pv).filter (fun x => !decide (idOf x = id)) = (l.filter fun s => !decide (s.id = id)).map Sub.pv := by
  induction l with
  | nil => rfl
  | cons s r ih =>
    have e : idOf s.pv = s.id := rfl
    simp only [List.map_cons, List.filter_cons, e, ih]
    split <;> rfl

set_option maxHeartbeats 2000000 in
theorem floor_Leave (l : List Sub) (id : Int) (hl : l.length ≤ 1000000) : Ct Try.prog 10 (YtjbfcmaiejlnbaaVm.ops [.row (l.map Sub.pv), .int .i64 id]) (.vals [.row ((leaveV l id).1.map Sub.pv), .int .i64 (leaveV l id).2]) := by
  refine Ct.of_V Try.func10 rfl (by simp [YtjbfcmaiejlnbaaVm.ops, Try.f10]) ?_
  refine V.exec 400 ?_
  simp +contextual (maxSteps := 1000000) only [go_sem, ↓reduceIte, reduceCtorEq, yA, yB, uA, uB, uC, uD, uE, uF, Try.f10]
  refine V.call rfl rfl (by simp [dOK]) ⟨12, [], by simp only [go_sem, ↓reduceIte, reduceCtorEq, yA, yB, uA, uB, uC, uD, uE, uF], ⟨_, rfl, rfl, rfl⟩, .inl ⟨[.row (l.map Sub.pv), .int .i64 id], _, .inl (by simp only [go_sem, ↓reduceIte, reduceCtorEq, yA, yB, uA, uB, uC, uD, uE, uF]), floor_Find l id hl, .inr (.inl ⟨_, rfl, rfl, rfl⟩)⟩⟩ ?_
  refine V.exec 400 ?_
  by_cases he : (findV l id).2 = 0
  · have hv : leaveV l id = (l.filter (fun s => !decide (s.id = id)), 0) := by simp [leaveV, he]
    simp +contextual (maxSteps := 1000000) only [go_sem, ↓reduceIte, reduceCtorEq, yA, yB, uA, uB, uC, uD, uE, uF, he, hv, Sub.pv]
    have h7 : ∀ x ∈ l.map Sub.pv, x.cells.length = 7 ∧ x.isAgg = true ∧ ∀ c ∈ x.cells, c.isAgg = false := fun x hx => by
      obtain ⟨s, _, rfl⟩ := List.mem_map.1 hx
      exact ⟨rfl, rfl, by simp [Sub.pv, PV.cells, PV.isAgg]⟩
    have hdel := DeleteFuncSub (l.map Sub.pv) 31 [.ptr (.int .i64 id)] (fun x => decide (idOf x = id)) h7 (by simpa using hl) ⟨_, rfl, rfl, rfl⟩ (fun x hx => by
      obtain ⟨s, _, rfl⟩ := List.mem_map.1 hx
      have := leave1_31 s id
      simpa [idOf, Sub.pv] using this) (by simp only [go_sem, ↓reduceIte, reduceCtorEq, yA, yB, uA, uB, uC, uD, uE, uF])
    rw [filter_pv] at hdel
    refine V.call rfl rfl (by simp [dOK]) ⟨30, [], by simp only [go_sem, ↓reduceIte, reduceCtorEq, yA, yB, uA, uB, uC, uD, uE, uF], ⟨_, rfl, rfl, rfl⟩, .inl ⟨[.row (l.map Sub.pv)], _, .inl (by simp only [go_sem, ↓reduceIte, reduceCtorEq, yA, yB, uA, uB, uC, uD, uE, uF]), CloneSub (l.map Sub.pv) (fun x hx => (h7 x hx).1) (by simpa using hl), .inr (.inr ⟨37, l.map Sub.pv, rfl, by simp only [go_sem, ↓reduceIte, reduceCtorEq, yA, yB, uA, uB, uC, uD, uE, uF], rfl, rfl⟩)⟩⟩ ?_
    refine V.exec 400 ?_
    simp +contextual (maxSteps := 1000000) only [go_sem, ↓reduceIte, reduceCtorEq, yA, yB, uA, uB, uC, uD, uE, uF]
    refine V.call rfl rfl (by simp [dOK]) ⟨29, [], by simp only [go_sem, ↓reduceIte, reduceCtorEq, yA, yB, uA, uB, uC, uD, uE, uF], ⟨_, rfl, rfl, rfl⟩, .inr (.inl ⟨17, 37, l.map Sub.pv, [.val (.fn 31 [.ptr (.int .i64 id)])], [.fn 31 [.ptr (.int .i64 id)]], 37, _, by simp only [go_sem, ↓reduceIte, reduceCtorEq, yA, yB, uA, uB, uC, uD, uE, uF], by simp only [go_sem, ↓reduceIte, reduceCtorEq, yA, yB, uA, uB, uC, uD, uE, uF], .inl (by simp only [go_sem, ↓reduceIte, reduceCtorEq, yA, yB, uA, uB, uC, uD, uE, uF]), hdel, by simp only [go_sem, ↓reduceIte, reduceCtorEq, yA, yB, uA, uB, uC, uD, uE, uF], rfl, rfl⟩)⟩ ?_
    refine V.exec 400 ?_
    simp +contextual (maxSteps := 1000000) only [go_sem, ↓reduceIte, reduceCtorEq, yA, yB, uA, uB, uC, uD, uE, uF]
  · have hv : leaveV l id = (l, (findV l id).2) := by simp [leaveV, he]
    simp +contextual (maxSteps := 1000000) only [go_sem, ↓reduceIte, reduceCtorEq, yA, yB, uA, uB, uC, uD, uE, uF, he, hv, Sub.pv]
end Go.Proofs.Ytjbfcmaiejlnbaa
set_option linter.unusedVariables false
set_option linter.unusedSimpArgs false
set_option maxRecDepth 8000
namespace Go.Proofs.Ytjbfcmaiejlnbaa
open Nat renaming reduceAdd → uA, reduceLT → uB, reduceEqDiff → uC, reduceLeDiff → uD, reduceSub → uE, reduceMul → uF
open Bool renaming false_eq_true → yA, true_eq_false → yB
open Go Go.Proofs Go.Proofs.YtjbfcmaiejlnbaaVm Go.Proofs.Ytjbfcmaiejlnbaa.Ty

def setV (l : List Sub) (s : Sub) : List Sub × Int := if subsOk l ∧ s.ok then (if (findL l s.id).isSome = true then (l.set (rank s.id l) s, 0) else (l, 3)) else (l, 1)

set_option maxHeartbeats 2000000 in
theorem floor_Set (l : List Sub) (s : Sub) (hl : l.length ≤ 1000000) : Ct Try.prog 22 (YtjbfcmaiejlnbaaVm.ops [.row (l.map Sub.pv), s.pv]) (.vals [.row ((setV l s).1.map Sub.pv), .int .i64 (setV l s).2]) := by
  refine Ct.of_V Try.func22 rfl (by simp [YtjbfcmaiejlnbaaVm.ops, Try.f22]) ?_
  refine V.exec 400 ?_
  simp +contextual (maxSteps := 1000000) only [go_sem, ↓reduceIte, reduceCtorEq, yA, yB, uA, uB, uC, uD, uE, uF, Try.f22, Sub.pv]
  refine V.call rfl rfl (by simp [dOK]) ⟨13, [], by simp only [go_sem, ↓reduceIte, reduceCtorEq, yA, yB, uA, uB, uC, uD, uE, uF], ⟨_, rfl, rfl, rfl⟩, .inl ⟨[.row (l.map Sub.pv)], _, .inl (by simp only [go_sem, ↓reduceIte, reduceCtorEq, yA, yB, uA, uB, uC, uD, uE, uF]), floor_Right l hl, .inl ⟨_, rfl, rfl, rfl, rfl⟩⟩⟩ ?_
  refine V.exec 400 ?_
  by_cases hs : subsOk l
  · simp +contextual (maxSteps := 1000000) only [go_sem, ↓reduceIte, reduceCtorEq, yA, yB, uA, uB, uC, uD, uE, uF, hs]
    refine V.call rfl rfl (by simp [dOK]) ⟨32, [], by simp only [go_sem, ↓reduceIte, reduceCtorEq, yA, yB, uA, uB, uC, uD, uE, uF], ⟨_, rfl, rfl, rfl⟩, .inl ⟨[s.pv], _, .inl (by simp only [go_sem, ↓reduceIte, reduceCtorEq, yA, yB, uA, uB, uC, uD, uE, uF, Sub.pv]), feed_Right s, .inl ⟨_, rfl, rfl, rfl, rfl⟩⟩⟩ ?_
    refine V.exec 400 ?_
    by_cases hk : s.ok
    · simp +contextual (maxSteps := 1000000) only [go_sem, ↓reduceIte, reduceCtorEq, yA, yB, uA, uB, uC, uD, uE, uF, hk]
      refine V.call rfl rfl (by simp [dOK]) ⟨34, [], by simp only [go_sem, ↓reduceIte, reduceCtorEq, yA, yB, uA, uB, uC, uD, uE, uF], ⟨_, rfl, rfl, rfl⟩, .inl ⟨[.row (l.map Sub.pv), .int .i64 s.id], _, .inl (by simp only [go_sem, ↓reduceIte, reduceCtorEq, yA, yB, uA, uB, uC, uD, uE, uF]), floor_place l s.id hl hs.1, .inl ⟨_, rfl, rfl, rfl, rfl⟩⟩⟩ ?_
      refine V.exec 400 ?_
      cases hf : findL l s.id with
      | some x =>
        have hx := (rank_find l hs.1 x).2 hf
        have he : (∃ x_1, some x = some x_1 ∧ x_1.id = s.id) := ⟨x, rfl, hx.2⟩
        have hv : setV l s = (l.set (rank s.id l) s, 0) := by simp [setV, hs, hk, hf]
        simp +contextual (maxSteps := 1000000) only [go_sem, ↓reduceIte, reduceCtorEq, yA, yB, uA, uB, uC, uD, uE, uF, he, hx.1, hv]
        refine V.call rfl rfl (by simp [dOK]) ⟨30, [], by simp only [go_sem, ↓reduceIte, reduceCtorEq, yA, yB, uA, uB, uC, uD, uE, uF], ⟨_, rfl, rfl, rfl⟩, .inl ⟨[.row (l.map Sub.pv)], _, .inl (by simp only [go_sem, ↓reduceIte, reduceCtorEq, yA, yB, uA, uB, uC, uD, uE, uF]), CloneSub (l.map Sub.pv) (fun x hx => by
            obtain ⟨s, _, rfl⟩ := List.mem_map.1 hx
            rfl) (by simpa using hl), .inr (.inr ⟨37, l.map Sub.pv, rfl, by simp only [go_sem, ↓reduceIte, reduceCtorEq, yA, yB, uA, uB, uC, uD, uE, uF], rfl, rfl⟩)⟩⟩ ?_
        refine V.exec 400 ?_
        simp +contextual (maxSteps := 1000000) only [go_sem, ↓reduceIte, reduceCtorEq, yA, yB, uA, uB, uC, uD, uE, uF, hx.1, Sub.pv]

        try simp [List.map_set, Sub.pv]
      | none =>
        have he : ¬ (∃ x, l[rank s.id l]? = some x ∧ x.id = s.id) := fun ⟨x, hx⟩ => by have := (rank_find l hs.1 x).1 hx; rw [hf] at this; cases this
        have hv : setV l s = (l, 3) := by simp [setV, hs, hk, hf]
        simp +contextual (maxSteps := 1000000) only [go_sem, ↓reduceIte, reduceCtorEq, yA, yB, uA, uB, uC, uD, uE, uF, he, hv]
    · have hv : setV l s = (l, 1) := by simp [setV, hk]
      simp +contextual (maxSteps := 1000000) only [go_sem, ↓reduceIte, reduceCtorEq, yA, yB, uA, uB, uC, uD, uE, uF, hk, hv]
  · have hv : setV l s = (l, 1) := by simp [setV, hs]
    simp +contextual (maxSteps := 1000000) only [go_sem, ↓reduceIte, reduceCtorEq, yA, yB, uA, uB, uC, uD, uE, uF, hs, hv]
end Go.Proofs.Ytjbfcmaiejlnbaa
set_option linter.unusedVariables false
set_option linter.unusedSimpArgs false
set_option maxRecDepth 8000
namespace Go.Proofs.Ytjbfcmaiejlnbaa
open Nat renaming reduceAdd → uA, reduceLT → uB, reduceEqDiff → uC, reduceLeDiff → uD, reduceSub → uE, reduceMul → uF
open Bool renaming false_eq_true → yA, true_eq_false → yB
open Go Go.Proofs Go.Proofs.YtjbfcmaiejlnbaaVm Go.Proofs.Ytjbfcmaiejlnbaa.Ty

/-- The first place of which the Id is not its own. -/
def gapAt : Nat → List Sub → Nat
  | k, [] => k
  | k, s :: r => if s.id = (k : Int) + 1 then gapAt (k + 1) r else k
def addV (l : List Sub) (s : Sub) : List Sub × Int × Int :=
  if subsOk l ∧ s.ok then (if 4 ≤ l.length then (l, 0, 7) else
    let k := gapAt 0 l
    (l.take k ++ [{ s with id := (k : Int) + 1 }] ++ l.drop k, (k : Int) + 1, 0)) else (l, 0, 1)

set_option maxHeartbeats 4000000 in
theorem floor_Add (l : List Sub) (s : Sub) (hl : l.length ≤ 1000000) : Ct Try.prog 11 (YtjbfcmaiejlnbaaVm.ops [.row (l.map Sub.pv), s.pv]) (.vals [.row ((addV l s).1.map Sub.pv), .int .i64 (addV l s).2.1, .int .i64 (addV l s).2.2]) := by
  refine Ct.of_V Try.func11 rfl (by simp [YtjbfcmaiejlnbaaVm.ops, Try.f11]) ?_
  have h7 : ∀ x ∈ l.map Sub.pv, x.cells.length = 7 := fun x hx => by
    obtain ⟨s, _, rfl⟩ := List.mem_map.1 hx
    rfl
  refine V.exec 400 ?_
  simp +contextual (maxSteps := 1000000) only [go_sem, ↓reduceIte, reduceCtorEq, yA, yB, uA, uB, uC, uD, uE, uF, Try.f11, Sub.pv]
  refine V.call rfl rfl (by simp [dOK]) ⟨13, [], by simp only [go_sem, ↓reduceIte, reduceCtorEq, yA, yB, uA, uB, uC, uD, uE, uF], ⟨_, rfl, rfl, rfl⟩, .inl ⟨[.row (l.map Sub.pv)], _, .inl (by simp only [go_sem, ↓reduceIte, reduceCtorEq, yA, yB, uA, uB, uC, uD, uE, uF]), floor_Right l hl, .inl ⟨_, rfl, rfl, rfl, rfl⟩⟩⟩ ?_
  refine V.exec 400 ?_
  by_cases hs : subsOk l
  · simp +contextual (maxSteps := 1000000) only [go_sem, ↓reduceIte, reduceCtorEq, yA, yB, uA, uB, uC, uD, uE, uF, hs]
    refine V.call rfl rfl (by simp [dOK]) ⟨32, [], by simp only [go_sem, ↓reduceIte, reduceCtorEq, yA, yB, uA, uB, uC, uD, uE, uF], ⟨_, rfl, rfl, rfl⟩, .inl ⟨[s.pv], _, .inl (by simp only [go_sem, ↓reduceIte, reduceCtorEq, yA, yB, uA, uB, uC, uD, uE, uF, Sub.pv]), feed_Right s, .inl ⟨_, rfl, rfl, rfl, rfl⟩⟩⟩ ?_
    refine V.exec 400 ?_
    by_cases hk : s.ok
    · by_cases h4 : 4 ≤ l.length
      · have hv : addV l s = (l, 0, 7) := by simp [addV, hs, hk, h4]
        have h4' : (4 : Int) ≤ (l.length : Int) := by omega
        simp +contextual (maxSteps := 1000000) only [go_sem, ↓reduceIte, reduceCtorEq, yA, yB, uA, uB, uC, uD, uE, uF, hk, hv, h4']
      · have h4' : ¬ (4 : Int) ≤ (l.length : Int) := by omega
        simp +contextual (maxSteps := 1000000) only [go_sem, ↓reduceIte, reduceCtorEq, yA, yB, uA, uB, uC, uD, uE, uF, hk, h4']
        refine V.loop (fun m ls os => ∃ k : Nat, k ≤ l.length ∧ m = l.length - k ∧ gapAt 0 l = gapAt k (l.drop k) ∧
            ls = [(0, .val (.row (l.map Sub.pv))), (3, .adr 0 0), (7, .val (.int .i64 k))] ∧ os = [.box true [.val (.int .i64 s.id), .val (.str s.r.lo), .val (.str s.r.hi), .val (.bool (decide (s.r.op = true))), .val (.bool (decide (s.live = true))), .val (.str s.next), .val (.int .i64 s.cur)]]) 1 l.length
          [(0, .val (.row (l.map Sub.pv))), (3, .adr 0 0), (7, .val (.int .i64 0))] [.box true [.val (.int .i64 s.id), .val (.str s.r.lo), .val (.str s.r.hi), .val (.bool (decide (s.r.op = true))), .val (.bool (decide (s.live = true))), .val (.str s.next), .val (.int .i64 s.cur)]] [some 2]
          ⟨0, Nat.zero_le _, rfl, rfl, rfl, rfl⟩ (by simp only [go_sem, ↓reduceIte, reduceCtorEq, yA, yB, uA, uB, uC, uD, uE, uF]) ?_
        rintro m ls os ⟨k, hkl, rfl, hg, rfl, rfl⟩
        have hw : IntKind.i64.wrap ((k : Int) + 1) = ((k + 1 : Nat) : Int) := by rw [wrap_small3] <;> omega
        by_cases hx : ∃ x, l[k]? = some x ∧ x.id = (k : Int) + 1
        · obtain ⟨x, hx, hxi⟩ := hx
          have hlt : k < l.length := (List.getElem?_eq_some_iff.1 hx).1
          have hlt' : (k : Int) < (l.length : Int) := by omega
          rw [drop_of_get hx, gapAt, if_pos hxi] at hg
          have hxi' : x.id = ((k + 1 : Nat) : Int) := by omega
          refine V.exec 400 ?_
          simp +contextual (maxSteps := 1000000) only [go_sem, ↓reduceIte, reduceCtorEq, yA, yB, uA, uB, uC, uD, uE, uF, hlt', hx, Sub.pv, hw, hxi']
          exact ⟨l.length - (k + 1), _, _, [some 0], by omega, ⟨k + 1, by omega, rfl, hg, rfl, rfl⟩, by simp only [go_sem, ↓reduceIte, reduceCtorEq, yA, yB, uA, uB, uC, uD, uE, uF]⟩
        · have hgk : gapAt 0 l = k := by
            cases hd : l[k]? with
            | none =>
              rw [hg, List.drop_eq_nil_of_le (List.getElem?_eq_none_iff.1 hd)]; rfl
            | some x =>
              rw [hg, drop_of_get hd, gapAt, if_neg (fun e => hx ⟨x, hd, e⟩)]
          have hv : addV l s = (l.take k ++ [{ s with id := (k : Int) + 1 }] ++ l.drop k, (k : Int) + 1, 0) := by simp [addV, hs, hk, h4, hgk]
          have hvw : (k : Int) + 1 = ((k + 1 : Nat) : Int) := by omega
          rw [hv]
          have hins := InsertSub (l.map Sub.pv) (Sub.pv { s with id := (k : Int) + 1 }) k h7 rfl (by simpa using hkl) (by simpa using hl)
          by_cases hlt : k < l.length
          · have hlt' : (k : Int) < (l.length : Int) := by omega
            obtain ⟨x, hx'⟩ : ∃ x, l[k]? = some x := ⟨_, List.getElem?_eq_getElem hlt⟩
            have hxi : ¬ x.id = ((k + 1 : Nat) : Int) := fun e => hx ⟨x, hx', by omega⟩
            refine V.exec 400 ?_
            simp +contextual (maxSteps := 1000000) only [go_sem, ↓reduceIte, reduceCtorEq, yA, yB, uA, uB, uC, uD, uE, uF, hlt', hx', Sub.pv, hw, hxi]
            refine DV.call [] [20] (by simp only [go_sem, ↓reduceIte, reduceCtorEq, yA, yB, uA, uB, uC, uD, uE, uF]) (by simp [dOK]) ⟨30, [], by simp only [go_sem, ↓reduceIte, reduceCtorEq, yA, yB, uA, uB, uC, uD, uE, uF], ⟨_, rfl, rfl, rfl⟩, .inl ⟨[.row (l.map Sub.pv)], _, .inl (by simp only [go_sem, ↓reduceIte, reduceCtorEq, yA, yB, uA, uB, uC, uD, uE, uF]), CloneSub (l.map Sub.pv) h7 (by simpa using hl), .inr (.inr ⟨37, (l.map Sub.pv)   , rfl, by simp only [go_sem, ↓reduceIte, reduceCtorEq, yA, yB, uA, uB, uC, uD, uE, uF], rfl, rfl⟩)⟩⟩ (by simp only [go_sem, ↓reduceIte, reduceCtorEq, yA, yB, uA, uB, uC, uD, uE, uF]) (by simp only [go_sem, ↓reduceIte, reduceCtorEq, yA, yB, uA, uB, uC, uD, uE, uF]) (by simp only [go_sem, ↓reduceIte, reduceCtorEq, yA, yB, uA, uB, uC, uD, uE, uF]) (by simp) ?_
            refine DV.exec 400 ?_
            simp +contextual (maxSteps := 1000000) only [go_sem, ↓reduceIte, reduceCtorEq, yA, yB, uA, uB, uC, uD, uE, uF]
            refine DV.call [20, 23] [20, 23, 24] (by simp only [go_sem, ↓reduceIte, reduceCtorEq, yA, yB, uA, uB, uC, uD, uE, uF]) (by simp [dOK]) ⟨33, [], by simp only [go_sem, ↓reduceIte, reduceCtorEq, yA, yB, uA, uB, uC, uD, uE, uF], ⟨_, rfl, rfl, rfl⟩, .inr (.inl ⟨20, 37, l.map Sub.pv, [.val (.int .i64 k), .ref 23], [.int .i64 k, .rowp [Sub.pv { s with id := (k : Int) + 1 }]], 37, _, by simp only [go_sem, ↓reduceIte, reduceCtorEq, yA, yB, uA, uB, uC, uD, uE, uF], by simp only [go_sem, ↓reduceIte, reduceCtorEq, yA, yB, uA, uB, uC, uD, uE, uF], .inr ⟨[.val (.int .i64 k)], 23, 37, [Sub.pv { s with id := (k : Int) + 1 }], [.int .i64 k], rfl, rfl, by simp only [go_sem, ↓reduceIte, reduceCtorEq, yA, yB, uA, uB, uC, uD, uE, uF, Sub.pv, hvw], rfl⟩, hins, by simp only [go_sem, ↓reduceIte, reduceCtorEq, yA, yB, uA, uB, uC, uD, uE, uF], rfl, rfl⟩)⟩ (by simp only [go_sem, ↓reduceIte, reduceCtorEq, yA, yB, uA, uB, uC, uD, uE, uF]) (by simp only [go_sem, ↓reduceIte, reduceCtorEq, yA, yB, uA, uB, uC, uD, uE, uF]) (by simp only [go_sem, ↓reduceIte, reduceCtorEq, yA, yB, uA, uB, uC, uD, uE, uF]) (by simp) ?_
            refine DV.exec 400 ?_
            simp +contextual (maxSteps := 1000000) only [go_sem, ↓reduceIte, reduceCtorEq, yA, yB, uA, uB, uC, uD, uE, uF, hvw]
            refine ⟨by kernel_rfl, ?_⟩
            simp [List.map_append, List.map_take, List.map_drop]
          · have hlt' : ¬ (k : Int) < (l.length : Int) := by omega
            refine V.exec 400 ?_
            simp +contextual (maxSteps := 1000000) only [go_sem, ↓reduceIte, reduceCtorEq, yA, yB, uA, uB, uC, uD, uE, uF, hlt', hw]
            refine DV.call [] [20] (by simp only [go_sem, ↓reduceIte, reduceCtorEq, yA, yB, uA, uB, uC, uD, uE, uF]) (by simp [dOK]) ⟨30, [], by simp only [go_sem, ↓reduceIte, reduceCtorEq, yA, yB, uA, uB, uC, uD, uE, uF], ⟨_, rfl, rfl, rfl⟩, .inl ⟨[.row (l.map Sub.pv)], _, .inl (by simp only [go_sem, ↓reduceIte, reduceCtorEq, yA, yB, uA, uB, uC, uD, uE, uF]), CloneSub (l.map Sub.pv) h7 (by simpa using hl), .inr (.inr ⟨37, (l.map Sub.pv)   , rfl, by simp only [go_sem, ↓reduceIte, reduceCtorEq, yA, yB, uA, uB, uC, uD, uE, uF], rfl, rfl⟩)⟩⟩ (by simp only [go_sem, ↓reduceIte, reduceCtorEq, yA, yB, uA, uB, uC, uD, uE, uF]) (by simp only [go_sem, ↓reduceIte, reduceCtorEq, yA, yB, uA, uB, uC, uD, uE, uF]) (by simp only [go_sem, ↓reduceIte, reduceCtorEq, yA, yB, uA, uB, uC, uD, uE, uF]) (by simp) ?_
            refine DV.exec 400 ?_
            simp +contextual (maxSteps := 1000000) only [go_sem, ↓reduceIte, reduceCtorEq, yA, yB, uA, uB, uC, uD, uE, uF]
            refine DV.call [20, 23] [20, 23, 24] (by simp only [go_sem, ↓reduceIte, reduceCtorEq, yA, yB, uA, uB, uC, uD, uE, uF]) (by simp [dOK]) ⟨33, [], by simp only [go_sem, ↓reduceIte, reduceCtorEq, yA, yB, uA, uB, uC, uD, uE, uF], ⟨_, rfl, rfl, rfl⟩, .inr (.inl ⟨20, 37, l.map Sub.pv, [.val (.int .i64 k), .ref 23], [.int .i64 k, .rowp [Sub.pv { s with id := (k : Int) + 1 }]], 37, _, by simp only [go_sem, ↓reduceIte, reduceCtorEq, yA, yB, uA, uB, uC, uD, uE, uF], by simp only [go_sem, ↓reduceIte, reduceCtorEq, yA, yB, uA, uB, uC, uD, uE, uF], .inr ⟨[.val (.int .i64 k)], 23, 37, [Sub.pv { s with id := (k : Int) + 1 }], [.int .i64 k], rfl, rfl, by simp only [go_sem, ↓reduceIte, reduceCtorEq, yA, yB, uA, uB, uC, uD, uE, uF, Sub.pv, hvw], rfl⟩, hins, by simp only [go_sem, ↓reduceIte, reduceCtorEq, yA, yB, uA, uB, uC, uD, uE, uF], rfl, rfl⟩)⟩ (by simp only [go_sem, ↓reduceIte, reduceCtorEq, yA, yB, uA, uB, uC, uD, uE, uF]) (by simp only [go_sem, ↓reduceIte, reduceCtorEq, yA, yB, uA, uB, uC, uD, uE, uF]) (by simp only [go_sem, ↓reduceIte, reduceCtorEq, yA, yB, uA, uB, uC, uD, uE, uF]) (by simp) ?_
            refine DV.exec 400 ?_
            simp +contextual (maxSteps := 1000000) only [go_sem, ↓reduceIte, reduceCtorEq, yA, yB, uA, uB, uC, uD, uE, uF, hvw]
            refine ⟨by kernel_rfl, ?_⟩
            simp [List.map_append, List.map_take, List.map_drop]
    · have hv : addV l s = (l, 0, 1) := by simp [addV, hk]
      simp +contextual (maxSteps := 1000000) only [go_sem, ↓reduceIte, reduceCtorEq, yA, yB, uA, uB, uC, uD, uE, uF, hk, hv]
  · have hv : addV l s = (l, 0, 1) := by simp [addV, hs]
    simp +contextual (maxSteps := 1000000) only [go_sem, ↓reduceIte, reduceCtorEq, yA, yB, uA, uB, uC, uD, uE, uF, hs, hv]
end Go.Proofs.Ytjbfcmaiejlnbaa
set_option linter.unusedVariables false
set_option linter.unusedSimpArgs false
set_option maxRecDepth 8000
namespace Go.Proofs.Ytjbfcmaiejlnbaa
open Nat renaming reduceAdd → uA, reduceLT → uB, reduceEqDiff → uC, reduceLeDiff → uD, reduceSub → uE, reduceMul → uF
open Bool renaming false_eq_true → yA, true_eq_false → yB
open Go Go.Proofs Go.Proofs.YtjbfcmaiejlnbaaVm Go.Proofs.Ytjbfcmaiejlnbaa.Ty

structure Pair where
  key : List UInt8
  value : List UInt8
  deriving DecidableEq
def Pair.pv (p : Pair) : PV := .agg [.str p.key, .str p.value]

/-- Keys that rise, all short. -/
def pairsFrom : Option (List UInt8) → List Pair → Prop
  | _, [] => True
  | last, p :: r => p.key.length ≤ 16 ∧ p.value.length ≤ 32 ∧ (∀ k, last = some k → slt k p.key) ∧ pairsFrom (some p.key) r
def pairsOk (l : List Pair) : Prop := pairsFrom none l
instance instPF : ∀ (last : Option (List UInt8)) (l : List Pair), Decidable (pairsFrom last l)
  | _, [] => isTrue trivial
  | none, s :: r => by
    unfold pairsFrom
    have := instPF (some s.key) r
    have : Decidable (∀ k, none = some k → slt k s.key) := isTrue (fun k h => by cases h)
    infer_instance
  | some k, s :: r => by
    unfold pairsFrom
    have := instPF (some s.key) r
    have : Decidable (∀ k', some k = some k' → slt k' s.key) := decidable_of_iff (slt k s.key) ⟨fun h k' e => by cases e; exact h, fun h => h k rfl⟩
    infer_instance
instance instPairsOk (l : List Pair) : Decidable (pairsOk l) := by unfold pairsOk; infer_instance
def prevKey (l : List Pair) (i : Nat) : Option (List UInt8) := if i = 0 then none else (l[i - 1]?).map Pair.key

set_option maxRecDepth 4000 in
set_option maxHeartbeats 4000000 in
theorem leaf_Right (l : List Pair) (hl : l.length ≤ 1000000) : Ct Try.prog 59 (YtjbfcmaiejlnbaaVm.ops [.row (l.map Pair.pv)]) (.vals [.bool (decide (pairsOk l))]) := by
  refine Ct.of_V Try.func59 rfl (by simp [YtjbfcmaiejlnbaaVm.ops, Try.f59]) ?_
  refine V.exec 400 ?_
  simp +contextual (maxSteps := 1000000) only [go_sem, ↓reduceIte, reduceCtorEq, yA, yB, uA, uB, uC, uD, uE, uF, Try.f59]
  refine V.loop (fun m ls os => ∃ (i : Nat), i ≤ l.length ∧ m = l.length - i ∧ (pairsOk l ↔ pairsFrom (prevKey l i) (l.drop i)) ∧
        ls = [(0, .val (.row (l.map Pair.pv))), (5, .val (.row (l.map Pair.pv))), (6, .val (.int .i64 l.length)), (7, .val (.int .i64 i))] ∧ os = []) 0 l.length
      [(0, .val (.row (l.map Pair.pv))), (5, .val (.row (l.map Pair.pv))), (6, .val (.int .i64 l.length)), (7, .val (.int .i64 0))] [] []
      ⟨0, Nat.zero_le _, rfl, Iff.rfl, rfl, rfl⟩ (by simp only [go_sem, ↓reduceIte, reduceCtorEq, yA, yB, uA, uB, uC, uD, uE, uF]) ?_
  rintro m ls os ⟨i, hi, rfl, hiff, rfl, rfl⟩
  refine V.exec 400 ?_
  by_cases hlt : i < l.length
  · have hlt' : (i : Int) < (l.length : Int) := by omega
    obtain ⟨x, hx⟩ : ∃ x, l[i]? = some x := ⟨_, List.getElem?_eq_getElem hlt⟩
    have hw : IntKind.i64.wrap ((i : Int) + 1) = ((i + 1 : Nat) : Int) := by rw [wrap_small3] <;> omega
    rw [drop_of_get hx, pairsFrom] at hiff
    have hpk : prevKey l (i + 1) = some x.key := by simp [prevKey, hx]
    have e1 : ((x.key.length : Int) ≤ 16) = (x.key.length ≤ 16) := by apply propext; omega
    have e2 : ((x.value.length : Int) ≤ 32) = (x.value.length ≤ 32) := by apply propext; omega
    have fin : x.key.length ≤ 16 → x.value.length ≤ 32 → (∀ k, prevKey l i = some k → slt k x.key) → (pairsOk l ↔ pairsFrom (prevKey l (i + 1)) (l.drop (i + 1))) := fun a b c => by
      rw [hiff, hpk]; exact ⟨fun h => h.2.2.2, fun h => ⟨a, b, c, h⟩⟩
    have hfalse : ¬ pairsOk l → some [PV.bool false] = some [PV.bool (decide (pairsOk l))] := fun h => by simp [h]
    rcases Nat.eq_zero_or_pos i with rfl | hpos
    · have hz : ¬ (0 : Int) < ((0 : Nat) : Int) := by omega
      simp +contextual (maxSteps := 1000000) only [go_sem, ↓reduceIte, reduceCtorEq, yA, yB, uA, uB, uC, uD, uE, uF, hlt', hx, Pair.pv, hw, hz, e1, e2]
      (repeat' (first | (intro _) | (refine ⟨by kernel_rfl, ?_⟩) | (apply And.intro)))
      · exact ⟨l.length - (0 + 1), _, [], [], by omega, ⟨1, by omega, rfl, fin (by omega) (by omega) (fun k h => by simp [prevKey] at h), rfl, rfl⟩, by simp only [go_sem, ↓reduceIte, reduceCtorEq, yA, yB, uA, uB, uC, uD, uE, uF]⟩
      · refine hfalse fun h => ?_
        have := (hiff.1 h).2.1
        omega
      · refine hfalse fun h => ?_
        have := (hiff.1 h).1
        omega
    · obtain ⟨j, rfl⟩ : ∃ j, i = j + 1 := ⟨i - 1, by omega⟩
      have hw2 : IntKind.i64.wrap (((j + 1 : Nat) : Int) - 1) = (j : Int) := by rw [wrap_small3] <;> omega
      have hjp : (0 : Int) < ((j + 1 : Nat) : Int) := by omega
      obtain ⟨y, hy⟩ : ∃ y, l[j]? = some y := ⟨_, List.getElem?_eq_getElem (by omega)⟩
      simp +contextual (maxSteps := 1000000) only [go_sem, ↓reduceIte, reduceCtorEq, yA, yB, uA, uB, uC, uD, uE, uF, hlt', hx, Pair.pv, hw, hw2, hjp, hy, e1, e2]
      (repeat' (first | (intro _) | (refine ⟨by kernel_rfl, ?_⟩) | (apply And.intro)))
      · refine hfalse fun h => ?_
        have := (hiff.1 h).2.2.1 y.key (by simp [prevKey, hy])
        contradiction
      · rename_i a b c
        exact ⟨l.length - (j + 1 + 1), _, [], [], by omega, ⟨j + 1 + 1, by omega, rfl, fin (by omega) (by omega) (fun k h => by simp [prevKey, hy] at h; rw [← h]; assumption), rfl, rfl⟩, by simp only [go_sem, ↓reduceIte, reduceCtorEq, yA, yB, uA, uB, uC, uD, uE, uF]⟩
      · refine hfalse fun h => ?_
        have := (hiff.1 h).2.1
        omega
      · refine hfalse fun h => ?_
        have := (hiff.1 h).1
        omega
  · have hlt' : ¬ (i : Int) < (l.length : Int) := by omega
    have hd : l.drop i = [] := List.drop_eq_nil_of_le (by omega)
    rw [hd, pairsFrom] at hiff
    simp +contextual (maxSteps := 1000000) only [go_sem, ↓reduceIte, reduceCtorEq, yA, yB, uA, uB, uC, uD, uE, uF, hlt']
    simp [hiff]
end Go.Proofs.Ytjbfcmaiejlnbaa
set_option linter.unusedVariables false
set_option linter.unusedSimpArgs false
set_option maxRecDepth 8000
namespace Go.Proofs.Ytjbfcmaiejlnbaa
open Nat renaming reduceAdd → uA, reduceLT → uB, reduceEqDiff → uC, reduceLeDiff → uD, reduceSub → uE, reduceMul → uF
open Bool renaming false_eq_true → yA, true_eq_false → yB
open Go Go.Proofs Go.Proofs.YtjbfcmaiejlnbaaVm Go.Proofs.Ytjbfcmaiejlnbaa.Ty

structure Change where
  seq : Int
  key : List UInt8
  had : Bool
  bef : List UInt8
  has : Bool
  aft : List UInt8
  deriving DecidableEq
def Change.pv (c : Change) : PV := .agg [.int .i64 c.seq, .str c.key, .bool (decide (c.had = true)), .str c.bef, .bool (decide (c.has = true)), .str c.aft]
/-- May a change be? -/
def Change.ok (c : Change) : Prop := c.key.length ≤ 16 ∧ c.bef.length ≤ 32 ∧ c.aft.length ≤ 32 ∧ 1 ≤ c.seq ∧ c.seq ≤ 2147483647 ∧ (c.had = true ∨ c.bef = []) ∧ (c.has = true ∨ c.aft = []) ∧ (c.had = true ∨ c.has = true)
instance Change.instOk (c : Change) : Decidable c.ok := by unfold Change.ok; infer_instance

theorem pairsOk_one (k v : List UInt8) : pairsOk [⟨k, v⟩] ↔ k.length ≤ 16 ∧ v.length ≤ 32 := by simp [pairsOk, pairsFrom]

set_option maxRecDepth 4000 in
set_option maxHeartbeats 4000000 in
theorem flat_May (c : Change) : Ct Try.prog 56 (YtjbfcmaiejlnbaaVm.ops [c.pv]) (.vals [.bool (decide c.ok)]) := by
  refine Ct.of_V Try.func56 rfl (by simp [YtjbfcmaiejlnbaaVm.ops, Try.f56]) ?_
  refine V.exec 400 ?_
  simp +contextual (maxSteps := 1000000) only [go_sem, ↓reduceIte, reduceCtorEq, yA, yB, uA, uB, uC, uD, uE, uF, Try.f56, Change.pv]
  refine V.call rfl rfl (by simp [dOK]) ⟨59, [], by simp only [go_sem, ↓reduceIte, reduceCtorEq, yA, yB, uA, uB, uC, uD, uE, uF], ⟨_, rfl, rfl, rfl⟩, .inl ⟨[.row ([(⟨c.key, c.bef⟩ : Pair)].map Pair.pv)], _, .inl (by simp only [go_sem, ↓reduceIte, reduceCtorEq, yA, yB, uA, uB, uC, uD, uE, uF, Pair.pv, List.map_cons, List.map_nil]), leaf_Right [⟨c.key, c.bef⟩] (by simp), .inl ⟨_, rfl, rfl, rfl, rfl⟩⟩⟩ ?_
  refine V.exec 400 ?_
  by_cases h1 : pairsOk [(⟨c.key, c.bef⟩ : Pair)]
  · simp +contextual (maxSteps := 1000000) only [go_sem, ↓reduceIte, reduceCtorEq, yA, yB, uA, uB, uC, uD, uE, uF, Pair.pv, List.map_cons, List.map_nil, h1]
    refine V.call rfl rfl (by simp [dOK]) ⟨59, [], by simp only [go_sem, ↓reduceIte, reduceCtorEq, yA, yB, uA, uB, uC, uD, uE, uF], ⟨_, rfl, rfl, rfl⟩, .inl ⟨[.row ([(⟨c.key, c.aft⟩ : Pair)].map Pair.pv)], _, .inl (by simp only [go_sem, ↓reduceIte, reduceCtorEq, yA, yB, uA, uB, uC, uD, uE, uF, Pair.pv, List.map_cons, List.map_nil]), leaf_Right [⟨c.key, c.aft⟩] (by simp), .inl ⟨_, rfl, rfl, rfl, rfl⟩⟩⟩ ?_
    refine V.exec 400 ?_
    rw [pairsOk_one] at h1
    by_cases h2 : pairsOk [(⟨c.key, c.aft⟩ : Pair)]
    · simp +contextual (maxSteps := 1000000) only [go_sem, ↓reduceIte, reduceCtorEq, yA, yB, uA, uB, uC, uD, uE, uF, Pair.pv, List.map_cons, List.map_nil, h2]
      rw [pairsOk_one] at h2
      simp only [Option.some.injEq, List.cons.injEq, PV.bool.injEq, and_true]
      grind [Change.ok]
    · simp +contextual (maxSteps := 1000000) only [go_sem, ↓reduceIte, reduceCtorEq, yA, yB, uA, uB, uC, uD, uE, uF, Pair.pv, List.map_cons, List.map_nil, h2]
      rw [pairsOk_one] at h2
      have : ¬ c.ok := fun h => h2 ⟨h.1, h.2.2.1⟩
      simp [this]
  · simp +contextual (maxSteps := 1000000) only [go_sem, ↓reduceIte, reduceCtorEq, yA, yB, uA, uB, uC, uD, uE, uF, Pair.pv, List.map_cons, List.map_nil, h1]
    rw [pairsOk_one] at h1
    have : ¬ c.ok := fun h => h1 ⟨h.1, h.2.1⟩
    simp [this]
end Go.Proofs.Ytjbfcmaiejlnbaa
set_option linter.unusedVariables false
set_option linter.unusedSimpArgs false
set_option maxRecDepth 8000
namespace Go.Proofs.Ytjbfcmaiejlnbaa
open Nat renaming reduceAdd → uA, reduceLT → uB, reduceEqDiff → uC, reduceLeDiff → uD, reduceSub → uE, reduceMul → uF
open Bool renaming false_eq_true → yA, true_eq_false → yB
open Go Go.Proofs Go.Proofs.YtjbfcmaiejlnbaaVm Go.Proofs.Ytjbfcmaiejlnbaa.Ty

/-- Changes whose numbers rise. -/
def trailFrom : Option Int → List Change → Prop
  | _, [] => True
  | last, c :: r => c.ok ∧ (∀ s, last = some s → s < c.seq) ∧ trailFrom (some c.seq) r
def trailOk (l : List Change) : Prop := trailFrom none l
instance instTF : ∀ (last : Option Int) (l : List Change), Decidable (trailFrom last l)
  | _, [] => isTrue trivial
  | none, s :: r => by
    unfold trailFrom
    have := instTF (some s.seq) r
    have : Decidable (∀ k, none = some k → k < s.seq) := isTrue (fun k h => by cases h)
    infer_instance
  | some k, s :: r => by
    unfold trailFrom
    have := instTF (some s.seq) r
    have : Decidable (∀ k', some k = some k' → k' < s.seq) := decidable_of_iff (k < s.seq) ⟨fun h k' e => by cases e; exact h, fun h => h k rfl⟩
    infer_instance
instance instTrailOk (l : List Change) : Decidable (trailOk l) := by unfold trailOk; infer_instance
def prevSeq (l : List Change) (i : Nat) : Option Int := if i = 0 then none else (l[i - 1]?).map Change.seq

set_option maxRecDepth 4000 in
set_option maxHeartbeats 8000000 in
theorem trail_Right (l : List Change) (hl : l.length ≤ 1000000) : Ct Try.prog 51 (YtjbfcmaiejlnbaaVm.ops [.row (l.map Change.pv)]) (.vals [.bool (decide (trailOk l))]) := by
  refine Ct.of_V Try.func51 rfl (by simp [YtjbfcmaiejlnbaaVm.ops, Try.f51]) ?_
  refine V.exec 400 ?_
  simp +contextual (maxSteps := 1000000) only [go_sem, ↓reduceIte, reduceCtorEq, yA, yB, uA, uB, uC, uD, uE, uF, Try.f51]
  refine V.loop (fun m ls os => ∃ (i : Nat), i ≤ l.length ∧ m = l.length - i ∧ (trailOk l ↔ trailFrom (prevSeq l i) (l.drop i)) ∧
        ls = [(0, .val (.row (l.map Change.pv))), (5, .val (.row (l.map Change.pv))), (6, .val (.int .i64 l.length)), (7, .val (.int .i64 i))] ∧ os = []) 0 l.length
      [(0, .val (.row (l.map Change.pv))), (5, .val (.row (l.map Change.pv))), (6, .val (.int .i64 l.length)), (7, .val (.int .i64 0))] [] []
      ⟨0, Nat.zero_le _, rfl, Iff.rfl, rfl, rfl⟩ (by simp only [go_sem, ↓reduceIte, reduceCtorEq, yA, yB, uA, uB, uC, uD, uE, uF]) ?_
  rintro m ls os ⟨i, hi, rfl, hiff, rfl, rfl⟩
  refine V.exec 400 ?_
  by_cases hlt : i < l.length
  · have hlt' : (i : Int) < (l.length : Int) := by omega
    obtain ⟨x, hx⟩ : ∃ x, l[i]? = some x := ⟨_, List.getElem?_eq_getElem hlt⟩
    have hw : IntKind.i64.wrap ((i : Int) + 1) = ((i + 1 : Nat) : Int) := by rw [wrap_small3] <;> omega
    rw [drop_of_get hx, trailFrom] at hiff
    have hpk : prevSeq l (i + 1) = some x.seq := by simp [prevSeq, hx]
    have fin : x.ok → (∀ k, prevSeq l i = some k → k < x.seq) → (trailOk l ↔ trailFrom (prevSeq l (i + 1)) (l.drop (i + 1))) := fun a b => by
      rw [hiff, hpk]; exact ⟨fun h => h.2.2, fun h => ⟨a, b, h⟩⟩
    have hfalse : ¬ trailOk l → some [PV.bool false] = some [PV.bool (decide (trailOk l))] := fun h => by simp [h]
    simp +contextual (maxSteps := 1000000) only [go_sem, ↓reduceIte, reduceCtorEq, yA, yB, uA, uB, uC, uD, uE, uF, hlt', hx, Change.pv]
    refine DV.call [] [] (by simp only [go_sem, ↓reduceIte, reduceCtorEq, yA, yB, uA, uB, uC, uD, uE, uF, Change.pv]) (by simp [dOK]) ⟨56, [], by simp only [go_sem, ↓reduceIte, reduceCtorEq, yA, yB, uA, uB, uC, uD, uE, uF, Change.pv], ⟨_, rfl, rfl, rfl⟩, .inl ⟨[x.pv], _, .inl (by simp only [go_sem, ↓reduceIte, reduceCtorEq, yA, yB, uA, uB, uC, uD, uE, uF, Change.pv]), flat_May x, .inl ⟨_, rfl, rfl, rfl, rfl⟩⟩⟩ (by simp only [go_sem, ↓reduceIte, reduceCtorEq, yA, yB, uA, uB, uC, uD, uE, uF, Change.pv]) (by simp only [go_sem, ↓reduceIte, reduceCtorEq, yA, yB, uA, uB, uC, uD, uE, uF, Change.pv]) (by simp only [go_sem, ↓reduceIte, reduceCtorEq, yA, yB, uA, uB, uC, uD, uE, uF, Change.pv]) (by simp) ?_
    refine DV.exec 400 ?_
    by_cases hok : x.ok
    · rcases Nat.eq_zero_or_pos i with rfl | hpos
      · have hz : ¬ (0 : Int) < ((0 : Nat) : Int) := by omega
        simp +contextual (maxSteps := 1000000) only [go_sem, ↓reduceIte, reduceCtorEq, yA, yB, uA, uB, uC, uD, uE, uF, hlt', hx, Change.pv, hw, hz, hok]
        (repeat' (first | (intro _) | (refine ⟨by kernel_rfl, ?_⟩) | (apply And.intro)))
        exact ⟨l.length - (0 + 1), _, [], [], by omega, ⟨1, by omega, rfl, fin hok (fun k h => by simp [prevSeq] at h), rfl, rfl⟩, by simp only [go_sem, ↓reduceIte, reduceCtorEq, yA, yB, uA, uB, uC, uD, uE, uF]⟩
      · obtain ⟨j, rfl⟩ : ∃ j, i = j + 1 := ⟨i - 1, by omega⟩
        have hw2 : IntKind.i64.wrap (((j + 1 : Nat) : Int) - 1) = (j : Int) := by rw [wrap_small3] <;> omega
        have hjp : (0 : Int) < ((j + 1 : Nat) : Int) := by omega
        obtain ⟨y, hy⟩ : ∃ y, l[j]? = some y := ⟨_, List.getElem?_eq_getElem (by omega)⟩
        simp +contextual (maxSteps := 1000000) only [go_sem, ↓reduceIte, reduceCtorEq, yA, yB, uA, uB, uC, uD, uE, uF, hlt', hx, Change.pv, hw, hw2, hjp, hy, hok]
        (repeat' (first | (intro _) | (refine ⟨by kernel_rfl, ?_⟩) | (apply And.intro)))
        · refine hfalse fun h => ?_
          have := (hiff.1 h).2.1 y.seq (by simp [prevSeq, hy])
          omega
        · exact ⟨l.length - (j + 1 + 1), _, [], [], by omega, ⟨j + 1 + 1, by omega, rfl, fin hok (fun k h => by simp [prevSeq, hy] at h; omega), rfl, rfl⟩, by simp only [go_sem, ↓reduceIte, reduceCtorEq, yA, yB, uA, uB, uC, uD, uE, uF]⟩
    · simp +contextual (maxSteps := 1000000) only [go_sem, ↓reduceIte, reduceCtorEq, yA, yB, uA, uB, uC, uD, uE, uF, hlt', hx, Change.pv, hw, hok]
      (repeat' (first | (intro _) | (refine ⟨by kernel_rfl, ?_⟩) | (apply And.intro)))
      exact hfalse fun h => hok (hiff.1 h).1
  · have hlt' : ¬ (i : Int) < (l.length : Int) := by omega
    have hd : l.drop i = [] := List.drop_eq_nil_of_le (by omega)
    rw [hd, trailFrom] at hiff
    simp +contextual (maxSteps := 1000000) only [go_sem, ↓reduceIte, reduceCtorEq, yA, yB, uA, uB, uC, uD, uE, uF, hlt']
    simp [hiff]
end Go.Proofs.Ytjbfcmaiejlnbaa
set_option linter.unusedVariables false
set_option linter.unusedSimpArgs false
set_option maxRecDepth 8000
namespace Go.Proofs.Ytjbfcmaiejlnbaa
open Nat renaming reduceAdd → uA, reduceLT → uB, reduceEqDiff → uC, reduceLeDiff → uD, reduceSub → uE, reduceMul → uF
open Bool renaming false_eq_true → yA, true_eq_false → yB
open Go Go.Proofs Go.Proofs.YtjbfcmaiejlnbaaVm Go.Proofs.Ytjbfcmaiejlnbaa.Ty

def Change.of : PV → Change
  | .agg [.int _ s, .str k, .bool h, .str b, .bool h', .str a] => ⟨s, k, h, b, h', a⟩
  | _ => ⟨0, [], false, [], false, []⟩
theorem Change.of_pv (c : Change) : Change.of c.pv = c := by simp [Change.of, Change.pv]
theorem Change.filter_pv (l : List Change) (p : Change → Bool) : (l.map Change.pv).filter (fun x => !p (Change.of x)) = (l.filter fun c => !p c).map Change.pv := by
  induction l with
  | nil => rfl
  | cons s r ih =>
    simp only [List.map_cons, List.filter_cons, Change.of_pv, ih]
    split <;> rfl

def withoutV (l : List Change) (p : Change → Bool) : List Change := if trailOk l then l.filter (fun c => !p c) else []

set_option maxHeartbeats 4000000 in
theorem trail_without (l : List Change) (g : FuncId) (caps : List PV) (p : Change → Bool) (hl : l.length ≤ 1000000) (hg : Entered Try.prog g)
    (hp : ∀ x ∈ l, Ct Try.prog g (YtjbfcmaiejlnbaaVm.ops ([x.pv] ++ caps)) (.vals [.bool (decide (p x = true))])) :
    Ct Try.prog 39 (YtjbfcmaiejlnbaaVm.ops [.row (l.map Change.pv), .fn g caps]) (.vals [.row ((withoutV l p).map Change.pv)]) := by
  refine Ct.of_V Try.func39 rfl (by simp [YtjbfcmaiejlnbaaVm.ops, Try.f39]) ?_
  refine V.exec 400 ?_
  simp +contextual (maxSteps := 1000000) only [go_sem, ↓reduceIte, reduceCtorEq, yA, yB, uA, uB, uC, uD, uE, uF, Try.f39]
  refine V.call rfl rfl (by simp [dOK]) ⟨51, [], by simp only [go_sem, ↓reduceIte, reduceCtorEq, yA, yB, uA, uB, uC, uD, uE, uF], ⟨_, rfl, rfl, rfl⟩, .inl ⟨[.row (l.map Change.pv)], _, .inl (by simp only [go_sem, ↓reduceIte, reduceCtorEq, yA, yB, uA, uB, uC, uD, uE, uF]), trail_Right l hl, .inl ⟨_, rfl, rfl, rfl, rfl⟩⟩⟩ ?_
  refine V.exec 400 ?_
  by_cases hok : trailOk l
  · have hv : withoutV l p = l.filter (fun c => !p c) := by simp [withoutV, hok]
    simp +contextual (maxSteps := 1000000) only [go_sem, ↓reduceIte, reduceCtorEq, yA, yB, uA, uB, uC, uD, uE, uF, hok, hv]
    have h7 : ∀ x ∈ l.map Change.pv, x.cells.length = 6 ∧ x.isAgg = true ∧ ∀ c ∈ x.cells, c.isAgg = false := fun x hx => by
      obtain ⟨s, _, rfl⟩ := List.mem_map.1 hx
      exact ⟨rfl, rfl, by simp [Change.pv, PV.cells, PV.isAgg]⟩
    have hdel := DeleteFuncChange (l.map Change.pv) g caps (fun x => p (Change.of x)) h7 (by simpa using hl) hg (fun x hx => by
      obtain ⟨s, hs, rfl⟩ := List.mem_map.1 hx
      rw [Change.of_pv]
      exact hp s hs) (by simp only [go_sem, ↓reduceIte, reduceCtorEq, yA, yB, uA, uB, uC, uD, uE, uF])
    rw [Change.filter_pv] at hdel
    refine V.call rfl rfl (by simp [dOK]) ⟨53, [], by simp only [go_sem, ↓reduceIte, reduceCtorEq, yA, yB, uA, uB, uC, uD, uE, uF], ⟨_, rfl, rfl, rfl⟩, .inl ⟨[.row (l.map Change.pv)], _, .inl (by simp only [go_sem, ↓reduceIte, reduceCtorEq, yA, yB, uA, uB, uC, uD, uE, uF]), CloneChange (l.map Change.pv) (fun x hx => (h7 x hx).1) (by simpa using hl), .inr (.inr ⟨68, (l.map Change.pv)   , rfl, by simp only [go_sem, ↓reduceIte, reduceCtorEq, yA, yB, uA, uB, uC, uD, uE, uF], rfl, rfl⟩)⟩⟩ ?_
    refine V.exec 400 ?_
    simp +contextual (maxSteps := 1000000) only [go_sem, ↓reduceIte, reduceCtorEq, yA, yB, uA, uB, uC, uD, uE, uF]
    refine V.call rfl rfl (by simp [dOK]) ⟨52, [], by simp only [go_sem, ↓reduceIte, reduceCtorEq, yA, yB, uA, uB, uC, uD, uE, uF], ⟨_, rfl, rfl, rfl⟩, .inr (.inl ⟨7, 68, l.map Change.pv, [.val (.fn g caps)], [.fn g caps], 68, _, by simp only [go_sem, ↓reduceIte, reduceCtorEq, yA, yB, uA, uB, uC, uD, uE, uF], by simp only [go_sem, ↓reduceIte, reduceCtorEq, yA, yB, uA, uB, uC, uD, uE, uF], .inl (by simp only [go_sem, ↓reduceIte, reduceCtorEq, yA, yB, uA, uB, uC, uD, uE, uF]), hdel, by simp only [go_sem, ↓reduceIte, reduceCtorEq, yA, yB, uA, uB, uC, uD, uE, uF], rfl, rfl⟩)⟩ ?_
    refine V.exec 400 ?_
    simp +contextual (maxSteps := 1000000) only [go_sem, ↓reduceIte, reduceCtorEq, yA, yB, uA, uB, uC, uD, uE, uF]
  · have hv : withoutV l p = [] := by simp [withoutV, hok]
    simp +contextual (maxSteps := 1000000) only [go_sem, ↓reduceIte, reduceCtorEq, yA, yB, uA, uB, uC, uD, uE, uF, hok, hv, List.map_nil]

theorem trail_Drop1 (c : Change) (n : Int) : Ct Try.prog 49 (YtjbfcmaiejlnbaaVm.ops [c.pv, .ptr (.int .i64 n)]) (.vals [.bool (decide (c.seq ≤ n))]) := by
  refine Ct.of_V Try.func49 rfl (by simp [YtjbfcmaiejlnbaaVm.ops, Try.f49]) ?_
  refine V.exec 400 ?_
  simp +contextual (maxSteps := 1000000) only [go_sem, ↓reduceIte, reduceCtorEq, yA, yB, uA, uB, uC, uD, uE, uF, Try.f49, Change.pv]

def dropV (l : List Change) (n : Int) : List Change := withoutV l (fun c => decide (c.seq ≤ n))
theorem trail_Drop (l : List Change) (n : Int) (hl : l.length ≤ 1000000) : Ct Try.prog 36 (YtjbfcmaiejlnbaaVm.ops [.row (l.map Change.pv), .int .i64 n]) (.vals [.row ((dropV l n).map Change.pv)]) := by
  refine Ct.of_V Try.func36 rfl (by simp [YtjbfcmaiejlnbaaVm.ops, Try.f36]) ?_
  refine V.exec 400 ?_
  simp +contextual (maxSteps := 1000000) only [go_sem, ↓reduceIte, reduceCtorEq, yA, yB, uA, uB, uC, uD, uE, uF, Try.f36]
  refine V.call rfl rfl (by simp [dOK]) ⟨39, [], by simp only [go_sem, ↓reduceIte, reduceCtorEq, yA, yB, uA, uB, uC, uD, uE, uF], ⟨_, rfl, rfl, rfl⟩, .inl ⟨[.row (l.map Change.pv), .fn 49 [.ptr (.int .i64 n)]], _, .inl (by simp only [go_sem, ↓reduceIte, reduceCtorEq, yA, yB, uA, uB, uC, uD, uE, uF]), trail_without l 49 [.ptr (.int .i64 n)] (fun c => decide (c.seq ≤ n)) hl ⟨_, rfl, rfl, rfl⟩ (fun x _ => by simpa using trail_Drop1 x n), .inr (.inl ⟨_, rfl, rfl, rfl⟩)⟩⟩ ?_
  refine V.exec 400 ?_
  simp +contextual (maxSteps := 1000000) only [go_sem, ↓reduceIte, reduceCtorEq, yA, yB, uA, uB, uC, uD, uE, uF]
  rfl

theorem floor_Trim (t : List Change) (h : Int) (l : List Sub) (ht : t.length ≤ 1000000) (hl : l.length ≤ 1000000) : Ct Try.prog 17 (YtjbfcmaiejlnbaaVm.ops [.row (t.map Change.pv), .int .i64 h, .row (l.map Sub.pv)])
    (.vals [.row ((dropV t (floorOf h l)).map Change.pv), .int .i64 (floorOf h l)]) := by
  refine Ct.of_V Try.func17 rfl (by simp [YtjbfcmaiejlnbaaVm.ops, Try.f17]) ?_
  refine V.exec 400 ?_
  simp +contextual (maxSteps := 1000000) only [go_sem, ↓reduceIte, reduceCtorEq, yA, yB, uA, uB, uC, uD, uE, uF, Try.f17]
  refine V.call rfl rfl (by simp [dOK]) ⟨14, [], by simp only [go_sem, ↓reduceIte, reduceCtorEq, yA, yB, uA, uB, uC, uD, uE, uF], ⟨_, rfl, rfl, rfl⟩, .inl ⟨[.int .i64 h, .row (l.map Sub.pv)], _, .inl (by simp only [go_sem, ↓reduceIte, reduceCtorEq, yA, yB, uA, uB, uC, uD, uE, uF]), floor_Of h l hl, .inl ⟨_, rfl, rfl, rfl, rfl⟩⟩⟩ ?_
  refine V.exec 400 ?_
  simp +contextual (maxSteps := 1000000) only [go_sem, ↓reduceIte, reduceCtorEq, yA, yB, uA, uB, uC, uD, uE, uF]
  refine V.call rfl rfl (by simp [dOK]) ⟨36, [], by simp only [go_sem, ↓reduceIte, reduceCtorEq, yA, yB, uA, uB, uC, uD, uE, uF], ⟨_, rfl, rfl, rfl⟩, .inl ⟨[.row (t.map Change.pv), .int .i64 (floorOf h l)], _, .inl (by simp only [go_sem, ↓reduceIte, reduceCtorEq, yA, yB, uA, uB, uC, uD, uE, uF]), trail_Drop t (floorOf h l) ht, .inr (.inl ⟨_, rfl, rfl, rfl⟩)⟩⟩ ?_
  refine V.exec 400 ?_
  simp +contextual (maxSteps := 1000000) only [go_sem, ↓reduceIte, reduceCtorEq, yA, yB, uA, uB, uC, uD, uE, uF]
end Go.Proofs.Ytjbfcmaiejlnbaa
set_option linter.unusedVariables false
set_option linter.unusedSimpArgs false
set_option maxRecDepth 8000
namespace Go.Proofs.Ytjbfcmaiejlnbaa
open Nat renaming reduceAdd → uA, reduceLT → uB, reduceEqDiff → uC, reduceLeDiff → uD, reduceSub → uE, reduceMul → uF
open Bool renaming false_eq_true → yA, true_eq_false → yB
open Go Go.Proofs Go.Proofs.YtjbfcmaiejlnbaaVm Go.Proofs.Ytjbfcmaiejlnbaa.Ty

def Range.isIn (r : Range) (k : List UInt8) : Prop := ¬ slt k r.lo ∧ (r.op = true ∨ slt k r.hi)
instance Range.instIn (r : Range) (k : List UInt8) : Decidable (r.isIn k) := by unfold Range.isIn; infer_instance

theorem stretch_In (r : Range) (k : List UInt8) : Ct Try.prog 41 (YtjbfcmaiejlnbaaVm.ops [r.pv, .str k]) (.vals [.bool (decide (r.isIn k))]) := by
  refine Ct.of_V Try.func41 rfl (by simp [YtjbfcmaiejlnbaaVm.ops, Try.f41]) ?_
  refine V.exec 400 ?_
  simp +contextual (maxSteps := 1000000) only [go_sem, ↓reduceIte, reduceCtorEq, yA, yB, uA, uB, uC, uD, uE, uF, Try.f41, Range.pv]
  simp only [Option.some.injEq, List.cons.injEq, PV.bool.injEq, and_true]
  grind [Range.isIn]

def maxStr (a b : List UInt8) : List UInt8 := if slt a b then b else a
def minStr (a b : List UInt8) : List UInt8 := if slt a b ∨ a = b then a else b
def meetStep (o r : Range) : Range :=
  if r.op = true then { o with lo := maxStr o.lo r.lo } else if o.op = true then ⟨maxStr o.lo r.lo, r.hi, false⟩ else ⟨maxStr o.lo r.lo, minStr o.hi r.hi, o.op⟩
def meetV (l : List Range) : Range := l.foldl meetStep ⟨[], [], true⟩

set_option maxHeartbeats 4000000 in
theorem stretch_Meet (l : List Range) (hl : l.length ≤ 1000000) : Ct Try.prog 38 (YtjbfcmaiejlnbaaVm.ops [.row (l.map Range.pv)]) (.vals [(meetV l).pv]) := by
  refine Ct.of_V Try.func38 rfl (by simp [YtjbfcmaiejlnbaaVm.ops, Try.f38]) ?_
  refine V.exec 400 ?_
  simp +contextual (maxSteps := 1000000) only [go_sem, ↓reduceIte, reduceCtorEq, yA, yB, uA, uB, uC, uD, uE, uF, Try.f38]
  refine V.loop (fun m ls os => ∃ (i : Nat) (o : Range), i ≤ l.length ∧ m = l.length - i ∧ (l.drop i).foldl meetStep o = meetV l ∧
        ls = [(2, .adr 0 0), (3, .adr 1 0), (7, .val (.row (l.map Range.pv))), (8, .val (.int .i64 l.length)), (9, .val (.int .i64 i))] ∧
        os = [.box true [.val (.str []), .val (.str []), .val (.bool false)], .box true [.val (.str o.lo), .val (.str o.hi), .val (.bool (decide (o.op = true)))]]) 2 l.length
      [(2, .adr 0 0), (3, .adr 1 0), (7, .val (.row (l.map Range.pv))), (8, .val (.int .i64 l.length)), (9, .val (.int .i64 0))]
      [.box true [.val (.str []), .val (.str []), .val (.bool false)], .box true [.val (.str []), .val (.str []), .val (.bool (decide (true = true)))]] [some 1, some 3]
      ⟨0, ⟨[], [], true⟩, Nat.zero_le _, rfl, rfl, rfl, rfl⟩ (by simp only [go_sem, ↓reduceIte, reduceCtorEq, yA, yB, uA, uB, uC, uD, uE, uF]; try decide) ?_
  rintro m ls os ⟨i, o, hi, rfl, hf, rfl, rfl⟩
  refine V.exec 400 ?_
  by_cases hlt : i < l.length
  · have hlt' : (i : Int) < (l.length : Int) := by omega
    obtain ⟨x, hx⟩ : ∃ x, l[i]? = some x := ⟨_, List.getElem?_eq_getElem hlt⟩
    have hw : IntKind.i64.wrap ((i : Int) + 1) = ((i + 1 : Nat) : Int) := by rw [wrap_small3] <;> omega
    rw [drop_of_get hx, List.foldl_cons] at hf
    simp +contextual (maxSteps := 1000000) only [go_sem, ↓reduceIte, reduceCtorEq, yA, yB, uA, uB, uC, uD, uE, uF, hlt', hx, Range.pv, hw]
    refine ⟨fun h1 => ?_, fun h1 => ⟨fun h2 => ?_, fun h2 => ?_⟩⟩
    all_goals refine ⟨l.length - (i + 1), _, _, [some 0, some 1], by omega, ⟨i + 1, meetStep o x, by omega, rfl, hf, rfl, rfl⟩, ?_⟩
    · have e : meetStep o x = ⟨maxStr o.lo x.lo, o.hi, o.op⟩ := by simp [meetStep, h1]
      simp only [go_sem, ↓reduceIte, reduceCtorEq, yA, yB, uA, uB, uC, uD, uE, uF, e, maxStr, minStr]
      try decide
    · have e : meetStep o x = ⟨maxStr o.lo x.lo, x.hi, false⟩ := by simp [meetStep, h1, h2]
      simp only [go_sem, ↓reduceIte, reduceCtorEq, yA, yB, uA, uB, uC, uD, uE, uF, e, maxStr, minStr]
      try decide
    · have e : meetStep o x = ⟨maxStr o.lo x.lo, minStr o.hi x.hi, o.op⟩ := by simp [meetStep, h1, h2]
      simp only [go_sem, ↓reduceIte, reduceCtorEq, yA, yB, uA, uB, uC, uD, uE, uF, e, maxStr, minStr, h2]
      try decide
  · have hlt' : ¬ (i : Int) < (l.length : Int) := by omega
    have hd : l.drop i = [] := List.drop_eq_nil_of_le (by omega)
    rw [hd, List.foldl_nil] at hf
    simp +contextual (maxSteps := 1000000) only [go_sem, ↓reduceIte, reduceCtorEq, yA, yB, uA, uB, uC, uD, uE, uF, hlt', ← hf, Range.pv]
end Go.Proofs.Ytjbfcmaiejlnbaa
set_option linter.unusedVariables false
set_option linter.unusedSimpArgs false
set_option maxRecDepth 8000
namespace Go.Proofs.Ytjbfcmaiejlnbaa
open Nat renaming reduceAdd → uA, reduceLT → uB, reduceEqDiff → uC, reduceLeDiff → uD, reduceSub → uE, reduceMul → uF
open Bool renaming false_eq_true → yA, true_eq_false → yB
open Go Go.Proofs Go.Proofs.YtjbfcmaiejlnbaaVm Go.Proofs.Ytjbfcmaiejlnbaa.Ty

set_option maxHeartbeats 4000000 in
theorem trail_Since1 (c : Change) (n : Int) (r : Range) : Ct Try.prog 40 (YtjbfcmaiejlnbaaVm.ops [c.pv, .ptr (.int .i64 n), .ptr r.pv]) (.vals [.bool (decide (c.seq ≤ n ∨ ¬ r.isIn c.key))]) := by
  refine Ct.of_V Try.func40 rfl (by simp [YtjbfcmaiejlnbaaVm.ops, Try.f40]) ?_
  refine V.exec 400 ?_
  simp +contextual (maxSteps := 1000000) only [go_sem, ↓reduceIte, reduceCtorEq, yA, yB, uA, uB, uC, uD, uE, uF, Try.f40, Change.pv, Range.pv]
  intro h
  refine V.call rfl rfl (by simp [dOK]) ⟨41, [], by simp only [go_sem, ↓reduceIte, reduceCtorEq, yA, yB, uA, uB, uC, uD, uE, uF], ⟨_, rfl, rfl, rfl⟩, .inl ⟨[r.pv, .str c.key], _, .inl (by simp only [go_sem, ↓reduceIte, reduceCtorEq, yA, yB, uA, uB, uC, uD, uE, uF, Range.pv]), stretch_In r c.key, .inl ⟨_, rfl, rfl, rfl, rfl⟩⟩⟩ ?_
  refine V.exec 400 ?_
  simp +contextual (maxSteps := 1000000) only [go_sem, ↓reduceIte, reduceCtorEq, yA, yB, uA, uB, uC, uD, uE, uF, h]

def cutAt (n most : Int) : Nat := (max 0 (min most n)).toNat
def sinceV (t : List Change) (n most : Int) (rs : List Range) : List Change :=
  let w := withoutV t (fun c => decide (c.seq ≤ n ∨ ¬ (meetV rs).isIn c.key))
  w.take (cutAt w.length most)

theorem withoutV_length (t : List Change) (p : Change → Bool) : (withoutV t p).length ≤ t.length := by
  unfold withoutV
  split
  · exact List.length_filter_le _ _
  · exact Nat.zero_le _

set_option maxHeartbeats 4000000 in
theorem trail_Since (t : List Change) (n most : Int) (rs : List Range) (ht : t.length ≤ 1000000) (hr : rs.length ≤ 1000000) :
    Ct Try.prog 28 (YtjbfcmaiejlnbaaVm.ops [.row (t.map Change.pv), .int .i64 n, .int .i64 most, .row (rs.map Range.pv)]) (.vals [.row ((sinceV t n most rs).map Change.pv)]) := by
  refine Ct.of_V Try.func28 rfl (by simp [YtjbfcmaiejlnbaaVm.ops, Try.f28]) ?_
  refine V.exec 400 ?_
  simp +contextual (maxSteps := 1000000) only [go_sem, ↓reduceIte, reduceCtorEq, yA, yB, uA, uB, uC, uD, uE, uF, Try.f28]
  refine V.call rfl rfl (by simp [dOK]) ⟨38, [], by simp only [go_sem, ↓reduceIte, reduceCtorEq, yA, yB, uA, uB, uC, uD, uE, uF], ⟨_, rfl, rfl, rfl⟩, .inl ⟨[.row (rs.map Range.pv)], _, .inl (by simp only [go_sem, ↓reduceIte, reduceCtorEq, yA, yB, uA, uB, uC, uD, uE, uF]), stretch_Meet rs hr, .inr (.inl ⟨_, rfl, rfl, rfl⟩)⟩⟩ ?_
  refine V.exec 400 ?_
  simp +contextual (maxSteps := 1000000) only [go_sem, ↓reduceIte, reduceCtorEq, yA, yB, uA, uB, uC, uD, uE, uF, Range.pv]
  have hw := trail_without t 40 [.ptr (.int .i64 n), .ptr (meetV rs).pv] (fun c => decide (c.seq ≤ n ∨ ¬ (meetV rs).isIn c.key)) ht ⟨_, rfl, rfl, rfl⟩ (fun x _ => by simpa using trail_Since1 x n (meetV rs))
  refine V.call rfl rfl (by simp [dOK]) ⟨39, [], by simp only [go_sem, ↓reduceIte, reduceCtorEq, yA, yB, uA, uB, uC, uD, uE, uF], ⟨_, rfl, rfl, rfl⟩, .inl ⟨[.row (t.map Change.pv), .fn 40 [.ptr (.int .i64 n), .ptr (meetV rs).pv]], _, .inl (by simp only [go_sem, ↓reduceIte, reduceCtorEq, yA, yB, uA, uB, uC, uD, uE, uF, Range.pv]), hw, .inr (.inl ⟨_, rfl, rfl, rfl⟩)⟩⟩ ?_
  refine V.exec 400 ?_
  have hl := withoutV_length t (fun c => decide (c.seq ≤ n ∨ ¬ (meetV rs).isIn c.key))
  have hv : sinceV t n most rs = (withoutV t (fun c => decide (c.seq ≤ n ∨ ¬ (meetV rs).isIn c.key))).take (cutAt (withoutV t (fun c => decide (c.seq ≤ n ∨ ¬ (meetV rs).isIn c.key))).length most) := rfl
  rw [hv]
  generalize withoutV t (fun c => decide (c.seq ≤ n ∨ ¬ (meetV rs).isIn c.key)) = w at *
  have hc : (if (if (w.length : Int) < most then (w.length : Int) else most) > 0 then (if (w.length : Int) < most then (w.length : Int) else most) else 0) = ((cutAt w.length most : Nat) : Int) := by
    unfold cutAt
    split <;> split <;> omega
  have hc2 : cutAt w.length most ≤ w.length := by unfold cutAt; omega
  simp +contextual (maxSteps := 1000000) only [go_sem, ↓reduceIte, reduceCtorEq, yA, yB, uA, uB, uC, uD, uE, uF, hc]
  refine ⟨by omega, ?_⟩
  rw [List.map_take]
end Go.Proofs.Ytjbfcmaiejlnbaa
