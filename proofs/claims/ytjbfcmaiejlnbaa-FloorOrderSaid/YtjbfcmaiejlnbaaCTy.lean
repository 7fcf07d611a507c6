/- The types of this seat, as the symbolic machine asks for them. -/
import Derived.Test.YtjbfcmaiejlnbaaProg
import Derived.Test.YtjbfcmaiejlnbaaVmS
import Derived.KernelRfl
set_option linter.unusedVariables false
namespace Go.Proofs.Ytjbfcmaiejlnbaa.Ty
open Go Go.Proofs Go.Proofs.YtjbfcmaiejlnbaaVm
theorem sz2 : szOf Try.prog 2 = some 1 := by kernel_rfl
theorem by2 : byOf Try.prog 2 = some 8 := by kernel_rfl
theorem ag2 : aggOf Try.prog 2 = some false := by kernel_rfl
theorem un2 : Try.prog.underlying 2 = some (.int .i64) := by kernel_rfl
theorem zr2 : zeroOf Try.prog 2 = some [.val (.int .i64 0)] := by kernel_rfl
theorem sz3 : szOf Try.prog 3 = some 1 := by kernel_rfl
theorem by3 : byOf Try.prog 3 = some 8 := by kernel_rfl
theorem ag3 : aggOf Try.prog 3 = some false := by kernel_rfl
theorem un3 : Try.prog.underlying 3 = some (.int .i64) := by kernel_rfl
theorem zr3 : zeroOf Try.prog 3 = some [.val (.int .i64 0)] := by kernel_rfl
theorem sz4 : szOf Try.prog 4 = some 1 := by kernel_rfl
theorem by4 : byOf Try.prog 4 = some 1 := by kernel_rfl
theorem ag4 : aggOf Try.prog 4 = some false := by kernel_rfl
theorem un4 : Try.prog.underlying 4 = some .bool := by kernel_rfl
theorem zr4 : zeroOf Try.prog 4 = some [.val (.bool false)] := by kernel_rfl
theorem sz5 : szOf Try.prog 5 = some 1 := by kernel_rfl
theorem by5 : byOf Try.prog 5 = some 1 := by kernel_rfl
theorem ag5 : aggOf Try.prog 5 = some false := by kernel_rfl
theorem un5 : Try.prog.underlying 5 = some (.int .u8) := by kernel_rfl
theorem zr5 : zeroOf Try.prog 5 = some [.val (.int .u8 0)] := by kernel_rfl
theorem sz6 : szOf Try.prog 6 = some 1 := by kernel_rfl
theorem by6 : byOf Try.prog 6 = some 1 := by kernel_rfl
theorem ag6 : aggOf Try.prog 6 = some false := by kernel_rfl
theorem un6 : Try.prog.underlying 6 = some (.int .u8) := by kernel_rfl
theorem zr6 : zeroOf Try.prog 6 = some [.val (.int .u8 0)] := by kernel_rfl
theorem sz7 : szOf Try.prog 7 = some 4 := by kernel_rfl
theorem by7 : byOf Try.prog 7 = some 24 := by kernel_rfl
theorem ag7 : aggOf Try.prog 7 = some true := by kernel_rfl
theorem fld7_0 : fldOf Try.prog 7 0 = some (0, 2) := by kernel_rfl
theorem fld7_1 : fldOf Try.prog 7 1 = some (1, 3) := by kernel_rfl
theorem fld7_2 : fldOf Try.prog 7 2 = some (2, 4) := by kernel_rfl
theorem fld7_3 : fldOf Try.prog 7 3 = some (3, 6) := by kernel_rfl
theorem pl7 : plOf Try.prog 7 = some [(0, 1), (1, 1), (2, 1), (3, 1)] := by kernel_rfl
theorem eq7 : EqT Try.prog 7 [.int .i64, .int .i64, .bool, .int .u8] := EqT.of (by kernel_rfl) (by kernel_rfl) (by kernel_rfl)
theorem zr7 : zeroOf Try.prog 7 = some [.val (.int .i64 0), .val (.int .i64 0), .val (.bool false), .val (.int .u8 0)] := by kernel_rfl
theorem sz8 : szOf Try.prog 8 = some 4 := by kernel_rfl
theorem by8 : byOf Try.prog 8 = some 24 := by kernel_rfl
theorem ag8 : aggOf Try.prog 8 = some true := by kernel_rfl
theorem fld8_0 : fldOf Try.prog 8 0 = some (0, 2) := by kernel_rfl
theorem fld8_1 : fldOf Try.prog 8 1 = some (1, 3) := by kernel_rfl
theorem fld8_2 : fldOf Try.prog 8 2 = some (2, 4) := by kernel_rfl
theorem fld8_3 : fldOf Try.prog 8 3 = some (3, 6) := by kernel_rfl
theorem pl8 : plOf Try.prog 8 = some [(0, 1), (1, 1), (2, 1), (3, 1)] := by kernel_rfl
theorem eq8 : EqT Try.prog 8 [.int .i64, .int .i64, .bool, .int .u8] := EqT.of (by kernel_rfl) (by kernel_rfl) (by kernel_rfl)
theorem zr8 : zeroOf Try.prog 8 = some [.val (.int .i64 0), .val (.int .i64 0), .val (.bool false), .val (.int .u8 0)] := by kernel_rfl
theorem sz9 : szOf Try.prog 9 = some 1 := by kernel_rfl
theorem by9 : byOf Try.prog 9 = some 16 := by kernel_rfl
theorem ag9 : aggOf Try.prog 9 = some false := by kernel_rfl
theorem un9 : Try.prog.underlying 9 = some .string := by kernel_rfl
theorem zr9 : zeroOf Try.prog 9 = some [.val (.str [])] := by kernel_rfl
theorem sz10 : szOf Try.prog 10 = some 1 := by kernel_rfl
theorem by10 : byOf Try.prog 10 = some 16 := by kernel_rfl
theorem ag10 : aggOf Try.prog 10 = some false := by kernel_rfl
theorem un10 : Try.prog.underlying 10 = some .string := by kernel_rfl
theorem zr10 : zeroOf Try.prog 10 = some [.val (.str [])] := by kernel_rfl
theorem sz11 : szOf Try.prog 11 = some 1 := by kernel_rfl
theorem by11 : byOf Try.prog 11 = some 16 := by kernel_rfl
theorem ag11 : aggOf Try.prog 11 = some false := by kernel_rfl
theorem un11 : Try.prog.underlying 11 = some .string := by kernel_rfl
theorem zr11 : zeroOf Try.prog 11 = some [.val (.str [])] := by kernel_rfl
theorem sz12 : szOf Try.prog 12 = some 1 := by kernel_rfl
theorem by12 : byOf Try.prog 12 = some 8 := by kernel_rfl
theorem ag12 : aggOf Try.prog 12 = some false := by kernel_rfl
theorem un12 : Try.prog.underlying 12 = some (.int .u64) := by kernel_rfl
theorem zr12 : zeroOf Try.prog 12 = some [.val (.int .u64 0)] := by kernel_rfl
theorem sz13 : szOf Try.prog 13 = some 2 := by kernel_rfl
theorem by13 : byOf Try.prog 13 = some 24 := by kernel_rfl
theorem ag13 : aggOf Try.prog 13 = some true := by kernel_rfl
theorem fld13_0 : fldOf Try.prog 13 0 = some (0, 9) := by kernel_rfl
theorem fld13_1 : fldOf Try.prog 13 1 = some (1, 12) := by kernel_rfl
theorem pl13 : plOf Try.prog 13 = some [(0, 1), (1, 1)] := by kernel_rfl
theorem zr13 : zeroOf Try.prog 13 = some [.val (.str []), .val (.int .u64 0)] := by kernel_rfl
theorem sz14 : szOf Try.prog 14 = some 2 := by kernel_rfl
theorem by14 : byOf Try.prog 14 = some 24 := by kernel_rfl
theorem ag14 : aggOf Try.prog 14 = some true := by kernel_rfl
theorem fld14_0 : fldOf Try.prog 14 0 = some (0, 9) := by kernel_rfl
theorem fld14_1 : fldOf Try.prog 14 1 = some (1, 12) := by kernel_rfl
theorem pl14 : plOf Try.prog 14 = some [(0, 1), (1, 1)] := by kernel_rfl
theorem zr14 : zeroOf Try.prog 14 = some [.val (.str []), .val (.int .u64 0)] := by kernel_rfl
theorem sz15 : szOf Try.prog 15 = some 1 := by kernel_rfl
theorem by15 : byOf Try.prog 15 = some 8 := by kernel_rfl
theorem ag15 : aggOf Try.prog 15 = some false := by kernel_rfl
theorem un15 : Try.prog.underlying 15 = some (.pointer 100) := by kernel_rfl
theorem zr15 : zeroOf Try.prog 15 = some [.val .nilp] := by kernel_rfl
theorem sz16 : szOf Try.prog 16 = some 1 := by kernel_rfl
theorem by16 : byOf Try.prog 16 = some 8 := by kernel_rfl
theorem ag16 : aggOf Try.prog 16 = some false := by kernel_rfl
theorem un16 : Try.prog.underlying 16 = some (.pointer 103) := by kernel_rfl
theorem zr16 : zeroOf Try.prog 16 = some [.val .nilp] := by kernel_rfl
theorem sz17 : szOf Try.prog 17 = some 1 := by kernel_rfl
theorem by17 : byOf Try.prog 17 = some 8 := by kernel_rfl
theorem ag17 : aggOf Try.prog 17 = some false := by kernel_rfl
theorem un17 : Try.prog.underlying 17 = some (.pointer 113) := by kernel_rfl
theorem zr17 : zeroOf Try.prog 17 = some [.val .nilp] := by kernel_rfl
theorem sz18 : szOf Try.prog 18 = some 1 := by kernel_rfl
theorem by18 : byOf Try.prog 18 = some 8 := by kernel_rfl
theorem ag18 : aggOf Try.prog 18 = some true := by kernel_rfl
theorem fld18_0 : fldOf Try.prog 18 0 = some (0, 17) := by kernel_rfl
theorem pl18 : plOf Try.prog 18 = some [(0, 1)] := by kernel_rfl
theorem zr18 : zeroOf Try.prog 18 = some [.val .nilp] := by kernel_rfl
theorem sz19 : szOf Try.prog 19 = some 1 := by kernel_rfl
theorem by19 : byOf Try.prog 19 = some 8 := by kernel_rfl
theorem ag19 : aggOf Try.prog 19 = some true := by kernel_rfl
theorem fld19_0 : fldOf Try.prog 19 0 = some (0, 17) := by kernel_rfl
theorem pl19 : plOf Try.prog 19 = some [(0, 1)] := by kernel_rfl
theorem zr19 : zeroOf Try.prog 19 = some [.val .nilp] := by kernel_rfl
theorem sz21 : szOf Try.prog 21 = some 1 := by kernel_rfl
theorem by21 : byOf Try.prog 21 = some 4 := by kernel_rfl
theorem ag21 : aggOf Try.prog 21 = some false := by kernel_rfl
theorem un21 : Try.prog.underlying 21 = some (.int .i32) := by kernel_rfl
theorem zr21 : zeroOf Try.prog 21 = some [.val (.int .i32 0)] := by kernel_rfl
theorem sz22 : szOf Try.prog 22 = some 1 := by kernel_rfl
theorem by22 : byOf Try.prog 22 = some 24 := by kernel_rfl
theorem ag22 : aggOf Try.prog 22 = some false := by kernel_rfl
theorem un22 : Try.prog.underlying 22 = some (.slice 27) := by kernel_rfl
theorem el22 : elOf Try.prog 22 = some 27 := by kernel_rfl
theorem zr22 : zeroOf Try.prog 22 = some [.nils] := by kernel_rfl
theorem sz24 : szOf Try.prog 24 = some 1 := by kernel_rfl
theorem by24 : byOf Try.prog 24 = some 24 := by kernel_rfl
theorem ag24 : aggOf Try.prog 24 = some false := by kernel_rfl
theorem un24 : Try.prog.underlying 24 = some (.slice 37) := by kernel_rfl
theorem el24 : elOf Try.prog 24 = some 37 := by kernel_rfl
theorem zr24 : zeroOf Try.prog 24 = some [.nils] := by kernel_rfl
theorem sz26 : szOf Try.prog 26 = some 2 := by kernel_rfl
theorem by26 : byOf Try.prog 26 = some 16 := by kernel_rfl
theorem ag26 : aggOf Try.prog 26 = some true := by kernel_rfl
theorem fld26_0 : fldOf Try.prog 26 0 = some (0, 4) := by kernel_rfl
theorem fld26_1 : fldOf Try.prog 26 1 = some (1, 3) := by kernel_rfl
theorem pl26 : plOf Try.prog 26 = some [(0, 1), (1, 1)] := by kernel_rfl
theorem eq26 : EqT Try.prog 26 [.bool, .int .i64] := EqT.of (by kernel_rfl) (by kernel_rfl) (by kernel_rfl)
theorem zr26 : zeroOf Try.prog 26 = some [.val (.bool false), .val (.int .i64 0)] := by kernel_rfl
theorem sz27 : szOf Try.prog 27 = some 2 := by kernel_rfl
theorem by27 : byOf Try.prog 27 = some 16 := by kernel_rfl
theorem ag27 : aggOf Try.prog 27 = some true := by kernel_rfl
theorem fld27_0 : fldOf Try.prog 27 0 = some (0, 4) := by kernel_rfl
theorem fld27_1 : fldOf Try.prog 27 1 = some (1, 3) := by kernel_rfl
theorem pl27 : plOf Try.prog 27 = some [(0, 1), (1, 1)] := by kernel_rfl
theorem eq27 : EqT Try.prog 27 [.bool, .int .i64] := EqT.of (by kernel_rfl) (by kernel_rfl) (by kernel_rfl)
theorem zr27 : zeroOf Try.prog 27 = some [.val (.bool false), .val (.int .i64 0)] := by kernel_rfl
theorem sz28 : szOf Try.prog 28 = some 1 := by kernel_rfl
theorem by28 : byOf Try.prog 28 = some 8 := by kernel_rfl
theorem ag28 : aggOf Try.prog 28 = some false := by kernel_rfl
theorem un28 : Try.prog.underlying 28 = some (.int .i64) := by kernel_rfl
theorem zr28 : zeroOf Try.prog 28 = some [.val (.int .i64 0)] := by kernel_rfl
theorem sz34 : szOf Try.prog 34 = some 3 := by kernel_rfl
theorem by34 : byOf Try.prog 34 = some 40 := by kernel_rfl
theorem ag34 : aggOf Try.prog 34 = some true := by kernel_rfl
theorem fld34_0 : fldOf Try.prog 34 0 = some (0, 9) := by kernel_rfl
theorem fld34_1 : fldOf Try.prog 34 1 = some (1, 9) := by kernel_rfl
theorem fld34_2 : fldOf Try.prog 34 2 = some (2, 4) := by kernel_rfl
theorem pl34 : plOf Try.prog 34 = some [(0, 1), (1, 1), (2, 1)] := by kernel_rfl
theorem eq34 : EqT Try.prog 34 [.str, .str, .bool] := EqT.of (by kernel_rfl) (by kernel_rfl) (by kernel_rfl)
theorem zr34 : zeroOf Try.prog 34 = some [.val (.str []), .val (.str []), .val (.bool false)] := by kernel_rfl
theorem sz35 : szOf Try.prog 35 = some 3 := by kernel_rfl
theorem by35 : byOf Try.prog 35 = some 40 := by kernel_rfl
theorem ag35 : aggOf Try.prog 35 = some true := by kernel_rfl
theorem fld35_0 : fldOf Try.prog 35 0 = some (0, 9) := by kernel_rfl
theorem fld35_1 : fldOf Try.prog 35 1 = some (1, 9) := by kernel_rfl
theorem fld35_2 : fldOf Try.prog 35 2 = some (2, 4) := by kernel_rfl
theorem pl35 : plOf Try.prog 35 = some [(0, 1), (1, 1), (2, 1)] := by kernel_rfl
theorem eq35 : EqT Try.prog 35 [.str, .str, .bool] := EqT.of (by kernel_rfl) (by kernel_rfl) (by kernel_rfl)
theorem zr35 : zeroOf Try.prog 35 = some [.val (.str []), .val (.str []), .val (.bool false)] := by kernel_rfl
theorem sz36 : szOf Try.prog 36 = some 7 := by kernel_rfl
theorem by36 : byOf Try.prog 36 = some 80 := by kernel_rfl
theorem ag36 : aggOf Try.prog 36 = some true := by kernel_rfl
theorem fld36_0 : fldOf Try.prog 36 0 = some (0, 3) := by kernel_rfl
theorem fld36_1 : fldOf Try.prog 36 1 = some (1, 35) := by kernel_rfl
theorem fld36_2 : fldOf Try.prog 36 2 = some (4, 4) := by kernel_rfl
theorem fld36_3 : fldOf Try.prog 36 3 = some (5, 9) := by kernel_rfl
theorem fld36_4 : fldOf Try.prog 36 4 = some (6, 3) := by kernel_rfl
theorem pl36 : plOf Try.prog 36 = some [(0, 1), (1, 3), (4, 1), (5, 1), (6, 1)] := by kernel_rfl
theorem eq36 : EqT Try.prog 36 [.int .i64, .str, .str, .bool, .bool, .str, .int .i64] := EqT.of (by kernel_rfl) (by kernel_rfl) (by kernel_rfl)
theorem zr36 : zeroOf Try.prog 36 = some [.val (.int .i64 0), .val (.str []), .val (.str []), .val (.bool false), .val (.bool false), .val (.str []), .val (.int .i64 0)] := by kernel_rfl
theorem sz37 : szOf Try.prog 37 = some 7 := by kernel_rfl
theorem by37 : byOf Try.prog 37 = some 80 := by kernel_rfl
theorem ag37 : aggOf Try.prog 37 = some true := by kernel_rfl
theorem fld37_0 : fldOf Try.prog 37 0 = some (0, 3) := by kernel_rfl
theorem fld37_1 : fldOf Try.prog 37 1 = some (1, 35) := by kernel_rfl
theorem fld37_2 : fldOf Try.prog 37 2 = some (4, 4) := by kernel_rfl
theorem fld37_3 : fldOf Try.prog 37 3 = some (5, 9) := by kernel_rfl
theorem fld37_4 : fldOf Try.prog 37 4 = some (6, 3) := by kernel_rfl
theorem pl37 : plOf Try.prog 37 = some [(0, 1), (1, 3), (4, 1), (5, 1), (6, 1)] := by kernel_rfl
theorem eq37 : EqT Try.prog 37 [.int .i64, .str, .str, .bool, .bool, .str, .int .i64] := EqT.of (by kernel_rfl) (by kernel_rfl) (by kernel_rfl)
theorem zr37 : zeroOf Try.prog 37 = some [.val (.int .i64 0), .val (.str []), .val (.str []), .val (.bool false), .val (.bool false), .val (.str []), .val (.int .i64 0)] := by kernel_rfl
theorem sz45 : szOf Try.prog 45 = some 1 := by kernel_rfl
theorem by45 : byOf Try.prog 45 = some 24 := by kernel_rfl
theorem ag45 : aggOf Try.prog 45 = some false := by kernel_rfl
theorem un45 : Try.prog.underlying 45 = some (.slice 68) := by kernel_rfl
theorem el45 : elOf Try.prog 45 = some 68 := by kernel_rfl
theorem zr45 : zeroOf Try.prog 45 = some [.nils] := by kernel_rfl
theorem sz51 : szOf Try.prog 51 = some 1 := by kernel_rfl
theorem by51 : byOf Try.prog 51 = some 24 := by kernel_rfl
theorem ag51 : aggOf Try.prog 51 = some false := by kernel_rfl
theorem un51 : Try.prog.underlying 51 = some (.slice 56) := by kernel_rfl
theorem el51 : elOf Try.prog 51 = some 56 := by kernel_rfl
theorem zr51 : zeroOf Try.prog 51 = some [.nils] := by kernel_rfl
theorem sz56 : szOf Try.prog 56 = some 7 := by kernel_rfl
theorem by56 : byOf Try.prog 56 = some 80 := by kernel_rfl
theorem ag56 : aggOf Try.prog 56 = some true := by kernel_rfl
theorem fld56_0 : fldOf Try.prog 56 0 = some (0, 3) := by kernel_rfl
theorem fld56_1 : fldOf Try.prog 56 1 = some (1, 35) := by kernel_rfl
theorem fld56_2 : fldOf Try.prog 56 2 = some (4, 4) := by kernel_rfl
theorem fld56_3 : fldOf Try.prog 56 3 = some (5, 9) := by kernel_rfl
theorem fld56_4 : fldOf Try.prog 56 4 = some (6, 3) := by kernel_rfl
theorem pl56 : plOf Try.prog 56 = some [(0, 1), (1, 3), (4, 1), (5, 1), (6, 1)] := by kernel_rfl
theorem eq56 : EqT Try.prog 56 [.int .i64, .str, .str, .bool, .bool, .str, .int .i64] := EqT.of (by kernel_rfl) (by kernel_rfl) (by kernel_rfl)
theorem zr56 : zeroOf Try.prog 56 = some [.val (.int .i64 0), .val (.str []), .val (.str []), .val (.bool false), .val (.bool false), .val (.str []), .val (.int .i64 0)] := by kernel_rfl
theorem sz67 : szOf Try.prog 67 = some 6 := by kernel_rfl
theorem by67 : byOf Try.prog 67 = some 72 := by kernel_rfl
theorem ag67 : aggOf Try.prog 67 = some true := by kernel_rfl
theorem fld67_0 : fldOf Try.prog 67 0 = some (0, 3) := by kernel_rfl
theorem fld67_1 : fldOf Try.prog 67 1 = some (1, 9) := by kernel_rfl
theorem fld67_2 : fldOf Try.prog 67 2 = some (2, 4) := by kernel_rfl
theorem fld67_3 : fldOf Try.prog 67 3 = some (3, 9) := by kernel_rfl
theorem fld67_4 : fldOf Try.prog 67 4 = some (4, 4) := by kernel_rfl
theorem fld67_5 : fldOf Try.prog 67 5 = some (5, 9) := by kernel_rfl
theorem pl67 : plOf Try.prog 67 = some [(0, 1), (1, 1), (2, 1), (3, 1), (4, 1), (5, 1)] := by kernel_rfl
theorem eq67 : EqT Try.prog 67 [.int .i64, .str, .bool, .str, .bool, .str] := EqT.of (by kernel_rfl) (by kernel_rfl) (by kernel_rfl)
theorem zr67 : zeroOf Try.prog 67 = some [.val (.int .i64 0), .val (.str []), .val (.bool false), .val (.str []), .val (.bool false), .val (.str [])] := by kernel_rfl
theorem sz68 : szOf Try.prog 68 = some 6 := by kernel_rfl
theorem by68 : byOf Try.prog 68 = some 72 := by kernel_rfl
theorem ag68 : aggOf Try.prog 68 = some true := by kernel_rfl
theorem fld68_0 : fldOf Try.prog 68 0 = some (0, 3) := by kernel_rfl
theorem fld68_1 : fldOf Try.prog 68 1 = some (1, 9) := by kernel_rfl
theorem fld68_2 : fldOf Try.prog 68 2 = some (2, 4) := by kernel_rfl
theorem fld68_3 : fldOf Try.prog 68 3 = some (3, 9) := by kernel_rfl
theorem fld68_4 : fldOf Try.prog 68 4 = some (4, 4) := by kernel_rfl
theorem fld68_5 : fldOf Try.prog 68 5 = some (5, 9) := by kernel_rfl
theorem pl68 : plOf Try.prog 68 = some [(0, 1), (1, 1), (2, 1), (3, 1), (4, 1), (5, 1)] := by kernel_rfl
theorem eq68 : EqT Try.prog 68 [.int .i64, .str, .bool, .str, .bool, .str] := EqT.of (by kernel_rfl) (by kernel_rfl) (by kernel_rfl)
theorem zr68 : zeroOf Try.prog 68 = some [.val (.int .i64 0), .val (.str []), .val (.bool false), .val (.str []), .val (.bool false), .val (.str [])] := by kernel_rfl
theorem sz78 : szOf Try.prog 78 = some 1 := by kernel_rfl
theorem by78 : byOf Try.prog 78 = some 24 := by kernel_rfl
theorem ag78 : aggOf Try.prog 78 = some false := by kernel_rfl
theorem un78 : Try.prog.underlying 78 = some (.slice 35) := by kernel_rfl
theorem el78 : elOf Try.prog 78 = some 35 := by kernel_rfl
theorem zr78 : zeroOf Try.prog 78 = some [.nils] := by kernel_rfl
theorem sz90 : szOf Try.prog 90 = some 1 := by kernel_rfl
theorem by90 : byOf Try.prog 90 = some 8 := by kernel_rfl
theorem ag90 : aggOf Try.prog 90 = some false := by kernel_rfl
theorem un90 : Try.prog.underlying 90 = some (.int .u64) := by kernel_rfl
theorem zr90 : zeroOf Try.prog 90 = some [.val (.int .u64 0)] := by kernel_rfl
theorem sz95 : szOf Try.prog 95 = some 2 := by kernel_rfl
theorem by95 : byOf Try.prog 95 = some 32 := by kernel_rfl
theorem ag95 : aggOf Try.prog 95 = some true := by kernel_rfl
theorem fld95_0 : fldOf Try.prog 95 0 = some (0, 9) := by kernel_rfl
theorem fld95_1 : fldOf Try.prog 95 1 = some (1, 9) := by kernel_rfl
theorem pl95 : plOf Try.prog 95 = some [(0, 1), (1, 1)] := by kernel_rfl
theorem eq95 : EqT Try.prog 95 [.str, .str] := EqT.of (by kernel_rfl) (by kernel_rfl) (by kernel_rfl)
theorem zr95 : zeroOf Try.prog 95 = some [.val (.str []), .val (.str [])] := by kernel_rfl
theorem sz96 : szOf Try.prog 96 = some 2 := by kernel_rfl
theorem by96 : byOf Try.prog 96 = some 32 := by kernel_rfl
theorem ag96 : aggOf Try.prog 96 = some true := by kernel_rfl
theorem fld96_0 : fldOf Try.prog 96 0 = some (0, 9) := by kernel_rfl
theorem fld96_1 : fldOf Try.prog 96 1 = some (1, 9) := by kernel_rfl
theorem pl96 : plOf Try.prog 96 = some [(0, 1), (1, 1)] := by kernel_rfl
theorem eq96 : EqT Try.prog 96 [.str, .str] := EqT.of (by kernel_rfl) (by kernel_rfl) (by kernel_rfl)
theorem zr96 : zeroOf Try.prog 96 = some [.val (.str []), .val (.str [])] := by kernel_rfl
theorem sz97 : szOf Try.prog 97 = some 1 := by kernel_rfl
theorem by97 : byOf Try.prog 97 = some 24 := by kernel_rfl
theorem ag97 : aggOf Try.prog 97 = some false := by kernel_rfl
theorem un97 : Try.prog.underlying 97 = some (.slice 96) := by kernel_rfl
theorem el97 : elOf Try.prog 97 = some 96 := by kernel_rfl
theorem zr97 : zeroOf Try.prog 97 = some [.nils] := by kernel_rfl
theorem sz99 : szOf Try.prog 99 = some 4 := by kernel_rfl
theorem by99 : byOf Try.prog 99 = some 40 := by kernel_rfl
theorem ag99 : aggOf Try.prog 99 = some true := by kernel_rfl
theorem fld99_0 : fldOf Try.prog 99 0 = some (0, 17) := by kernel_rfl
theorem fld99_1 : fldOf Try.prog 99 1 = some (1, 17) := by kernel_rfl
theorem fld99_2 : fldOf Try.prog 99 2 = some (2, 17) := by kernel_rfl
theorem fld99_3 : fldOf Try.prog 99 3 = some (3, 9) := by kernel_rfl
theorem pl99 : plOf Try.prog 99 = some [(0, 1), (1, 1), (2, 1), (3, 1)] := by kernel_rfl
theorem zr99 : zeroOf Try.prog 99 = some [.val .nilp, .val .nilp, .val .nilp, .val (.str [])] := by kernel_rfl
theorem sz100 : szOf Try.prog 100 = some 4 := by kernel_rfl
theorem by100 : byOf Try.prog 100 = some 40 := by kernel_rfl
theorem ag100 : aggOf Try.prog 100 = some true := by kernel_rfl
theorem fld100_0 : fldOf Try.prog 100 0 = some (0, 17) := by kernel_rfl
theorem fld100_1 : fldOf Try.prog 100 1 = some (1, 17) := by kernel_rfl
theorem fld100_2 : fldOf Try.prog 100 2 = some (2, 17) := by kernel_rfl
theorem fld100_3 : fldOf Try.prog 100 3 = some (3, 9) := by kernel_rfl
theorem pl100 : plOf Try.prog 100 = some [(0, 1), (1, 1), (2, 1), (3, 1)] := by kernel_rfl
theorem zr100 : zeroOf Try.prog 100 = some [.val .nilp, .val .nilp, .val .nilp, .val (.str [])] := by kernel_rfl
theorem sz101 : szOf Try.prog 101 = some 0 := by kernel_rfl
theorem by101 : byOf Try.prog 101 = some 0 := by kernel_rfl
theorem ag101 : aggOf Try.prog 101 = some true := by kernel_rfl
theorem zr101 : zeroOf Try.prog 101 = some [] := by kernel_rfl
theorem sz102 : szOf Try.prog 102 = some 0 := by kernel_rfl
theorem by102 : byOf Try.prog 102 = some 0 := by kernel_rfl
theorem ag102 : aggOf Try.prog 102 = some true := by kernel_rfl
theorem fld102_0 : fldOf Try.prog 102 0 = some (0, 101) := by kernel_rfl
theorem pl102 : plOf Try.prog 102 = some [(0, 0)] := by kernel_rfl
theorem zr102 : zeroOf Try.prog 102 = some [] := by kernel_rfl
theorem sz103 : szOf Try.prog 103 = some 0 := by kernel_rfl
theorem by103 : byOf Try.prog 103 = some 0 := by kernel_rfl
theorem ag103 : aggOf Try.prog 103 = some true := by kernel_rfl
theorem fld103_0 : fldOf Try.prog 103 0 = some (0, 101) := by kernel_rfl
theorem pl103 : plOf Try.prog 103 = some [(0, 0)] := by kernel_rfl
theorem zr103 : zeroOf Try.prog 103 = some [] := by kernel_rfl
theorem sz105 : szOf Try.prog 105 = some 1 := by kernel_rfl
theorem by105 : byOf Try.prog 105 = some 4 := by kernel_rfl
theorem ag105 : aggOf Try.prog 105 = some false := by kernel_rfl
theorem un105 : Try.prog.underlying 105 = some (.int .u32) := by kernel_rfl
theorem zr105 : zeroOf Try.prog 105 = some [.val (.int .u32 0)] := by kernel_rfl
theorem sz106 : szOf Try.prog 106 = some 1 := by kernel_rfl
theorem by106 : byOf Try.prog 106 = some 1 := by kernel_rfl
theorem ag106 : aggOf Try.prog 106 = some false := by kernel_rfl
theorem un106 : Try.prog.underlying 106 = some (.int .u8) := by kernel_rfl
theorem zr106 : zeroOf Try.prog 106 = some [.val (.int .u8 0)] := by kernel_rfl
theorem sz107 : szOf Try.prog 107 = some 1 := by kernel_rfl
theorem by107 : byOf Try.prog 107 = some 1 := by kernel_rfl
theorem ag107 : aggOf Try.prog 107 = some false := by kernel_rfl
theorem un107 : Try.prog.underlying 107 = some (.int .u8) := by kernel_rfl
theorem zr107 : zeroOf Try.prog 107 = some [.val (.int .u8 0)] := by kernel_rfl
theorem sz109 : szOf Try.prog 109 = some 1 := by kernel_rfl
theorem by109 : byOf Try.prog 109 = some 8 := by kernel_rfl
theorem ag109 : aggOf Try.prog 109 = some false := by kernel_rfl
theorem un109 : Try.prog.underlying 109 = some (.pointer 5) := by kernel_rfl
theorem zr109 : zeroOf Try.prog 109 = some [.val .nilp] := by kernel_rfl
theorem sz110 : szOf Try.prog 110 = some 1 := by kernel_rfl
theorem by110 : byOf Try.prog 110 = some 4 := by kernel_rfl
theorem ag110 : aggOf Try.prog 110 = some false := by kernel_rfl
theorem un110 : Try.prog.underlying 110 = some (.int .i32) := by kernel_rfl
theorem zr110 : zeroOf Try.prog 110 = some [.val (.int .i32 0)] := by kernel_rfl
theorem sz111 : szOf Try.prog 111 = some 1 := by kernel_rfl
theorem by111 : byOf Try.prog 111 = some 4 := by kernel_rfl
theorem ag111 : aggOf Try.prog 111 = some false := by kernel_rfl
theorem un111 : Try.prog.underlying 111 = some (.int .i32) := by kernel_rfl
theorem zr111 : zeroOf Try.prog 111 = some [.val (.int .i32 0)] := by kernel_rfl
theorem sz112 : szOf Try.prog 112 = some 11 := by kernel_rfl
theorem by112 : byOf Try.prog 112 = some 48 := by kernel_rfl
theorem ag112 : aggOf Try.prog 112 = some true := by kernel_rfl
theorem fld112_0 : fldOf Try.prog 112 0 = some (0, 12) := by kernel_rfl
theorem fld112_1 : fldOf Try.prog 112 1 = some (1, 12) := by kernel_rfl
theorem fld112_2 : fldOf Try.prog 112 2 = some (2, 105) := by kernel_rfl
theorem fld112_3 : fldOf Try.prog 112 3 = some (3, 106) := by kernel_rfl
theorem fld112_4 : fldOf Try.prog 112 4 = some (4, 5) := by kernel_rfl
theorem fld112_5 : fldOf Try.prog 112 5 = some (5, 5) := by kernel_rfl
theorem fld112_6 : fldOf Try.prog 112 6 = some (6, 107) := by kernel_rfl
theorem fld112_7 : fldOf Try.prog 112 7 = some (7, 108) := by kernel_rfl
theorem fld112_8 : fldOf Try.prog 112 8 = some (8, 109) := by kernel_rfl
theorem fld112_9 : fldOf Try.prog 112 9 = some (9, 110) := by kernel_rfl
theorem fld112_10 : fldOf Try.prog 112 10 = some (10, 111) := by kernel_rfl
theorem pl112 : plOf Try.prog 112 = some [(0, 1), (1, 1), (2, 1), (3, 1), (4, 1), (5, 1), (6, 1), (7, 1), (8, 1), (9, 1), (10, 1)] := by kernel_rfl
theorem sz113 : szOf Try.prog 113 = some 11 := by kernel_rfl
theorem by113 : byOf Try.prog 113 = some 48 := by kernel_rfl
theorem ag113 : aggOf Try.prog 113 = some true := by kernel_rfl
theorem fld113_0 : fldOf Try.prog 113 0 = some (0, 12) := by kernel_rfl
theorem fld113_1 : fldOf Try.prog 113 1 = some (1, 12) := by kernel_rfl
theorem fld113_2 : fldOf Try.prog 113 2 = some (2, 105) := by kernel_rfl
theorem fld113_3 : fldOf Try.prog 113 3 = some (3, 106) := by kernel_rfl
theorem fld113_4 : fldOf Try.prog 113 4 = some (4, 5) := by kernel_rfl
theorem fld113_5 : fldOf Try.prog 113 5 = some (5, 5) := by kernel_rfl
theorem fld113_6 : fldOf Try.prog 113 6 = some (6, 107) := by kernel_rfl
theorem fld113_7 : fldOf Try.prog 113 7 = some (7, 108) := by kernel_rfl
theorem fld113_8 : fldOf Try.prog 113 8 = some (8, 109) := by kernel_rfl
theorem fld113_9 : fldOf Try.prog 113 9 = some (9, 110) := by kernel_rfl
theorem fld113_10 : fldOf Try.prog 113 10 = some (10, 111) := by kernel_rfl
theorem pl113 : plOf Try.prog 113 = some [(0, 1), (1, 1), (2, 1), (3, 1), (4, 1), (5, 1), (6, 1), (7, 1), (8, 1), (9, 1), (10, 1)] := by kernel_rfl
theorem mixed : Try.prog.follows .mixedOrders = true := by kernel_rfl
attribute [go_sem] sz2 by2 ag2 un2 zr2 sz3 by3 ag3 un3 zr3 sz4 by4 ag4 un4 zr4 sz5 by5 ag5 un5 zr5 sz6 by6 ag6 un6 zr6 sz7 by7 ag7 fld7_0 fld7_1 fld7_2 fld7_3 pl7 zr7 sz8 by8 ag8 fld8_0 fld8_1 fld8_2 fld8_3 pl8 zr8 sz9 by9 ag9 un9 zr9 sz10 by10 ag10 un10 zr10 sz11 by11 ag11 un11 zr11 sz12 by12 ag12 un12 zr12 sz13 by13 ag13 fld13_0 fld13_1 pl13 zr13 sz14 by14 ag14 fld14_0 fld14_1 pl14 zr14 sz15 by15 ag15 un15 zr15 sz16 by16 ag16 un16 zr16 sz17 by17 ag17 un17 zr17 sz18 by18 ag18 fld18_0 pl18 zr18 sz19 by19 ag19 fld19_0 pl19 zr19 sz21 by21 ag21 un21 zr21 sz22 by22 ag22 un22 el22 zr22 sz24 by24 ag24 un24 el24 zr24 sz26 by26 ag26 fld26_0 fld26_1 pl26 zr26 sz27 by27 ag27 fld27_0 fld27_1 pl27 zr27 sz28 by28 ag28 un28 zr28 sz34 by34 ag34 fld34_0 fld34_1 fld34_2 pl34 zr34 sz35 by35 ag35 fld35_0 fld35_1 fld35_2 pl35 zr35 sz36 by36 ag36 fld36_0 fld36_1 fld36_2 fld36_3 fld36_4 pl36 zr36 sz37 by37 ag37 fld37_0 fld37_1 fld37_2 fld37_3 fld37_4 pl37 zr37 sz45 by45 ag45 un45 el45 zr45 sz51 by51 ag51 un51 el51 zr51 sz56 by56 ag56 fld56_0 fld56_1 fld56_2 fld56_3 fld56_4 pl56 zr56 sz67 by67 ag67 fld67_0 fld67_1 fld67_2 fld67_3 fld67_4 fld67_5 pl67 zr67 sz68 by68 ag68 fld68_0 fld68_1 fld68_2 fld68_3 fld68_4 fld68_5 pl68 zr68 sz78 by78 ag78 un78 el78 zr78 sz90 by90 ag90 un90 zr90 sz95 by95 ag95 fld95_0 fld95_1 pl95 zr95 sz96 by96 ag96 fld96_0 fld96_1 pl96 zr96 sz97 by97 ag97 un97 el97 zr97 sz99 by99 ag99 fld99_0 fld99_1 fld99_2 fld99_3 pl99 zr99 sz100 by100 ag100 fld100_0 fld100_1 fld100_2 fld100_3 pl100 zr100 sz101 by101 ag101 zr101 sz102 by102 ag102 fld102_0 pl102 zr102 sz103 by103 ag103 fld103_0 pl103 zr103 sz105 by105 ag105 un105 zr105 sz106 by106 ag106 un106 zr106 sz107 by107 ag107 un107 zr107 sz109 by109 ag109 un109 zr109 sz110 by110 ag110 un110 zr110 sz111 by111 ag111 un111 zr111 sz112 by112 ag112 fld112_0 fld112_1 fld112_2 fld112_3 fld112_4 fld112_5 fld112_6 fld112_7 fld112_8 fld112_9 fld112_10 pl112 sz113 by113 ag113 fld113_0 fld113_1 fld113_2 fld113_3 fld113_4 fld113_5 fld113_6 fld113_7 fld113_8 fld113_9 fld113_10 pl113 mixed eq7 eq8 eq26 eq27 eq34 eq35 eq36 eq37 eq56 eq67 eq68 eq95 eq96
end Go.Proofs.Ytjbfcmaiejlnbaa.Ty
