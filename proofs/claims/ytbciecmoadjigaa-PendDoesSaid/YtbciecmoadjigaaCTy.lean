/- The types of this seat, as the symbolic machine asks for them. -/
import Derived.Test.YtbciecmoadjigaaProg
import Derived.Test.YtbciecmoadjigaaVmS
import Derived.KernelRfl
set_option linter.unusedVariables false
namespace Go.Proofs.Ytbciecmoadjigaa.Ty
open Go Go.Proofs Go.Proofs.YtbciecmoadjigaaVm
theorem sz2 : szOf Try.prog 2 = some 1 := by kernel_rfl
theorem by2 : byOf Try.prog 2 = some 8 := by kernel_rfl
theorem ag2 : aggOf Try.prog 2 = some false := by kernel_rfl
theorem un2 : Try.prog.underlying 2 = some (.int .i64) := by kernel_rfl
theorem zr2 : zeroOf Try.prog 2 = some [.val (.int .i64 0)] := by kernel_rfl
theorem sz3 : szOf Try.prog 3 = some 1 := by kernel_rfl
theorem by3 : byOf Try.prog 3 = some 8 := by kernel_rfl
theorem ag3 : aggOf Try.prog 3 = some false := by kernel_rfl
theorem un3 : Try.prog.underlying 3 = some (.int .i64) := by kernel_rfl
theorem zr3 : zeroOf Try.prog 3 = some [.val (.int .i64 0)] := by kernel_rfl
theorem sz4 : szOf Try.prog 4 = some 1 := by kernel_rfl
theorem by4 : byOf Try.prog 4 = some 1 := by kernel_rfl
theorem ag4 : aggOf Try.prog 4 = some false := by kernel_rfl
theorem un4 : Try.prog.underlying 4 = some .bool := by kernel_rfl
theorem zr4 : zeroOf Try.prog 4 = some [.val (.bool false)] := by kernel_rfl
theorem sz5 : szOf Try.prog 5 = some 1 := by kernel_rfl
theorem by5 : byOf Try.prog 5 = some 1 := by kernel_rfl
theorem ag5 : aggOf Try.prog 5 = some false := by kernel_rfl
theorem un5 : Try.prog.underlying 5 = some (.int .u8) := by kernel_rfl
theorem zr5 : zeroOf Try.prog 5 = some [.val (.int .u8 0)] := by kernel_rfl
theorem sz6 : szOf Try.prog 6 = some 1 := by kernel_rfl
theorem by6 : byOf Try.prog 6 = some 1 := by kernel_rfl
theorem ag6 : aggOf Try.prog 6 = some false := by kernel_rfl
theorem un6 : Try.prog.underlying 6 = some (.int .u8) := by kernel_rfl
theorem zr6 : zeroOf Try.prog 6 = some [.val (.int .u8 0)] := by kernel_rfl
theorem sz7 : szOf Try.prog 7 = some 4 := by kernel_rfl
theorem by7 : byOf Try.prog 7 = some 24 := by kernel_rfl
theorem ag7 : aggOf Try.prog 7 = some true := by kernel_rfl
theorem fld7_0 : fldOf Try.prog 7 0 = some (0, 2) := by kernel_rfl
theorem fld7_1 : fldOf Try.prog 7 1 = some (1, 3) := by kernel_rfl
theorem fld7_2 : fldOf Try.prog 7 2 = some (2, 4) := by kernel_rfl
theorem fld7_3 : fldOf Try.prog 7 3 = some (3, 6) := by kernel_rfl
theorem pl7 : plOf Try.prog 7 = some [(0, 1), (1, 1), (2, 1), (3, 1)] := by kernel_rfl
theorem eq7 : EqT Try.prog 7 [.int .i64, .int .i64, .bool, .int .u8] := EqT.of (by kernel_rfl) (by kernel_rfl) (by kernel_rfl)
theorem zr7 : zeroOf Try.prog 7 = some [.val (.int .i64 0), .val (.int .i64 0), .val (.bool false), .val (.int .u8 0)] := by kernel_rfl
theorem sz8 : szOf Try.prog 8 = some 4 := by kernel_rfl
theorem by8 : byOf Try.prog 8 = some 24 := by kernel_rfl
theorem ag8 : aggOf Try.prog 8 = some true := by kernel_rfl
theorem fld8_0 : fldOf Try.prog 8 0 = some (0, 2) := by kernel_rfl
theorem fld8_1 : fldOf Try.prog 8 1 = some (1, 3) := by kernel_rfl
theorem fld8_2 : fldOf Try.prog 8 2 = some (2, 4) := by kernel_rfl
theorem fld8_3 : fldOf Try.prog 8 3 = some (3, 6) := by kernel_rfl
theorem pl8 : plOf Try.prog 8 = some [(0, 1), (1, 1), (2, 1), (3, 1)] := by kernel_rfl
theorem eq8 : EqT Try.prog 8 [.int .i64, .int .i64, .bool, .int .u8] := EqT.of (by kernel_rfl) (by kernel_rfl) (by kernel_rfl)
theorem zr8 : zeroOf Try.prog 8 = some [.val (.int .i64 0), .val (.int .i64 0), .val (.bool false), .val (.int .u8 0)] := by kernel_rfl
theorem sz9 : szOf Try.prog 9 = some 1 := by kernel_rfl
theorem by9 : byOf Try.prog 9 = some 16 := by kernel_rfl
theorem ag9 : aggOf Try.prog 9 = some false := by kernel_rfl
theorem un9 : Try.prog.underlying 9 = some .string := by kernel_rfl
theorem zr9 : zeroOf Try.prog 9 = some [.val (.str [])] := by kernel_rfl
theorem sz10 : szOf Try.prog 10 = some 1 := by kernel_rfl
theorem by10 : byOf Try.prog 10 = some 16 := by kernel_rfl
theorem ag10 : aggOf Try.prog 10 = some false := by kernel_rfl
theorem un10 : Try.prog.underlying 10 = some .string := by kernel_rfl
theorem zr10 : zeroOf Try.prog 10 = some [.val (.str [])] := by kernel_rfl
theorem sz11 : szOf Try.prog 11 = some 1 := by kernel_rfl
theorem by11 : byOf Try.prog 11 = some 16 := by kernel_rfl
theorem ag11 : aggOf Try.prog 11 = some false := by kernel_rfl
theorem un11 : Try.prog.underlying 11 = some .string := by kernel_rfl
theorem zr11 : zeroOf Try.prog 11 = some [.val (.str [])] := by kernel_rfl
theorem sz12 : szOf Try.prog 12 = some 1 := by kernel_rfl
theorem by12 : byOf Try.prog 12 = some 8 := by kernel_rfl
theorem ag12 : aggOf Try.prog 12 = some false := by kernel_rfl
theorem un12 : Try.prog.underlying 12 = some (.int .u64) := by kernel_rfl
theorem zr12 : zeroOf Try.prog 12 = some [.val (.int .u64 0)] := by kernel_rfl
theorem sz13 : szOf Try.prog 13 = some 2 := by kernel_rfl
theorem by13 : byOf Try.prog 13 = some 24 := by kernel_rfl
theorem ag13 : aggOf Try.prog 13 = some true := by kernel_rfl
theorem fld13_0 : fldOf Try.prog 13 0 = some (0, 9) := by kernel_rfl
theorem fld13_1 : fldOf Try.prog 13 1 = some (1, 12) := by kernel_rfl
theorem pl13 : plOf Try.prog 13 = some [(0, 1), (1, 1)] := by kernel_rfl
theorem zr13 : zeroOf Try.prog 13 = some [.val (.str []), .val (.int .u64 0)] := by kernel_rfl
theorem sz14 : szOf Try.prog 14 = some 2 := by kernel_rfl
theorem by14 : byOf Try.prog 14 = some 24 := by kernel_rfl
theorem ag14 : aggOf Try.prog 14 = some true := by kernel_rfl
theorem fld14_0 : fldOf Try.prog 14 0 = some (0, 9) := by kernel_rfl
theorem fld14_1 : fldOf Try.prog 14 1 = some (1, 12) := by kernel_rfl
theorem pl14 : plOf Try.prog 14 = some [(0, 1), (1, 1)] := by kernel_rfl
theorem zr14 : zeroOf Try.prog 14 = some [.val (.str []), .val (.int .u64 0)] := by kernel_rfl
theorem sz15 : szOf Try.prog 15 = some 1 := by kernel_rfl
theorem by15 : byOf Try.prog 15 = some 8 := by kernel_rfl
theorem ag15 : aggOf Try.prog 15 = some false := by kernel_rfl
theorem un15 : Try.prog.underlying 15 = some (.pointer 95) := by kernel_rfl
theorem zr15 : zeroOf Try.prog 15 = some [.val .nilp] := by kernel_rfl
theorem sz16 : szOf Try.prog 16 = some 1 := by kernel_rfl
theorem by16 : byOf Try.prog 16 = some 8 := by kernel_rfl
theorem ag16 : aggOf Try.prog 16 = some false := by kernel_rfl
theorem un16 : Try.prog.underlying 16 = some (.pointer 98) := by kernel_rfl
theorem zr16 : zeroOf Try.prog 16 = some [.val .nilp] := by kernel_rfl
theorem sz17 : szOf Try.prog 17 = some 1 := by kernel_rfl
theorem by17 : byOf Try.prog 17 = some 8 := by kernel_rfl
theorem ag17 : aggOf Try.prog 17 = some false := by kernel_rfl
theorem un17 : Try.prog.underlying 17 = some (.pointer 108) := by kernel_rfl
theorem zr17 : zeroOf Try.prog 17 = some [.val .nilp] := by kernel_rfl
theorem sz18 : szOf Try.prog 18 = some 1 := by kernel_rfl
theorem by18 : byOf Try.prog 18 = some 8 := by kernel_rfl
theorem ag18 : aggOf Try.prog 18 = some true := by kernel_rfl
theorem fld18_0 : fldOf Try.prog 18 0 = some (0, 17) := by kernel_rfl
theorem pl18 : plOf Try.prog 18 = some [(0, 1)] := by kernel_rfl
theorem zr18 : zeroOf Try.prog 18 = some [.val .nilp] := by kernel_rfl
theorem sz19 : szOf Try.prog 19 = some 1 := by kernel_rfl
theorem by19 : byOf Try.prog 19 = some 8 := by kernel_rfl
theorem ag19 : aggOf Try.prog 19 = some true := by kernel_rfl
theorem fld19_0 : fldOf Try.prog 19 0 = some (0, 17) := by kernel_rfl
theorem pl19 : plOf Try.prog 19 = some [(0, 1)] := by kernel_rfl
theorem zr19 : zeroOf Try.prog 19 = some [.val .nilp] := by kernel_rfl
theorem sz21 : szOf Try.prog 21 = some 1 := by kernel_rfl
theorem by21 : byOf Try.prog 21 = some 4 := by kernel_rfl
theorem ag21 : aggOf Try.prog 21 = some false := by kernel_rfl
theorem un21 : Try.prog.underlying 21 = some (.int .i32) := by kernel_rfl
theorem zr21 : zeroOf Try.prog 21 = some [.val (.int .i32 0)] := by kernel_rfl
theorem sz22 : szOf Try.prog 22 = some 1 := by kernel_rfl
theorem by22 : byOf Try.prog 22 = some 24 := by kernel_rfl
theorem ag22 : aggOf Try.prog 22 = some false := by kernel_rfl
theorem un22 : Try.prog.underlying 22 = some (.slice 32) := by kernel_rfl
theorem el22 : elOf Try.prog 22 = some 32 := by kernel_rfl
theorem zr22 : zeroOf Try.prog 22 = some [.nils] := by kernel_rfl
theorem sz25 : szOf Try.prog 25 = some 1 := by kernel_rfl
theorem by25 : byOf Try.prog 25 = some 8 := by kernel_rfl
theorem ag25 : aggOf Try.prog 25 = some false := by kernel_rfl
theorem un25 : Try.prog.underlying 25 = some (.int .i64) := by kernel_rfl
theorem zr25 : zeroOf Try.prog 25 = some [.val (.int .i64 0)] := by kernel_rfl
theorem sz30 : szOf Try.prog 30 = some 1 := by kernel_rfl
theorem by30 : byOf Try.prog 30 = some 8 := by kernel_rfl
theorem ag30 : aggOf Try.prog 30 = some false := by kernel_rfl
theorem un30 : Try.prog.underlying 30 = some (.int .u64) := by kernel_rfl
theorem zr30 : zeroOf Try.prog 30 = some [.val (.int .u64 0)] := by kernel_rfl
theorem sz31 : szOf Try.prog 31 = some 4 := by kernel_rfl
theorem by31 : byOf Try.prog 31 = some 48 := by kernel_rfl
theorem ag31 : aggOf Try.prog 31 = some true := by kernel_rfl
theorem fld31_0 : fldOf Try.prog 31 0 = some (0, 3) := by kernel_rfl
theorem fld31_1 : fldOf Try.prog 31 1 = some (1, 9) := by kernel_rfl
theorem fld31_2 : fldOf Try.prog 31 2 = some (2, 9) := by kernel_rfl
theorem fld31_3 : fldOf Try.prog 31 3 = some (3, 30) := by kernel_rfl
theorem pl31 : plOf Try.prog 31 = some [(0, 1), (1, 1), (2, 1), (3, 1)] := by kernel_rfl
theorem zr31 : zeroOf Try.prog 31 = some [.val (.int .i64 0), .val (.str []), .val (.str []), .val (.int .u64 0)] := by kernel_rfl
theorem sz32 : szOf Try.prog 32 = some 4 := by kernel_rfl
theorem by32 : byOf Try.prog 32 = some 48 := by kernel_rfl
theorem ag32 : aggOf Try.prog 32 = some true := by kernel_rfl
theorem fld32_0 : fldOf Try.prog 32 0 = some (0, 3) := by kernel_rfl
theorem fld32_1 : fldOf Try.prog 32 1 = some (1, 9) := by kernel_rfl
theorem fld32_2 : fldOf Try.prog 32 2 = some (2, 9) := by kernel_rfl
theorem fld32_3 : fldOf Try.prog 32 3 = some (3, 30) := by kernel_rfl
theorem pl32 : plOf Try.prog 32 = some [(0, 1), (1, 1), (2, 1), (3, 1)] := by kernel_rfl
theorem zr32 : zeroOf Try.prog 32 = some [.val (.int .i64 0), .val (.str []), .val (.str []), .val (.int .u64 0)] := by kernel_rfl
theorem sz37 : szOf Try.prog 37 = some 1 := by kernel_rfl
theorem by37 : byOf Try.prog 37 = some 24 := by kernel_rfl
theorem ag37 : aggOf Try.prog 37 = some false := by kernel_rfl
theorem un37 : Try.prog.underlying 37 = some (.slice 9) := by kernel_rfl
theorem el37 : elOf Try.prog 37 = some 9 := by kernel_rfl
theorem zr37 : zeroOf Try.prog 37 = some [.nils] := by kernel_rfl
theorem sz38 : szOf Try.prog 38 = some 1 := by kernel_rfl
theorem by38 : byOf Try.prog 38 = some 24 := by kernel_rfl
theorem ag38 : aggOf Try.prog 38 = some false := by kernel_rfl
theorem un38 : Try.prog.underlying 38 = some (.slice 22) := by kernel_rfl
theorem el38 : elOf Try.prog 38 = some 22 := by kernel_rfl
theorem zr38 : zeroOf Try.prog 38 = some [.nils] := by kernel_rfl
theorem sz47 : szOf Try.prog 47 = some 1 := by kernel_rfl
theorem by47 : byOf Try.prog 47 = some 24 := by kernel_rfl
theorem ag47 : aggOf Try.prog 47 = some false := by kernel_rfl
theorem un47 : Try.prog.underlying 47 = some (.slice 64) := by kernel_rfl
theorem el47 : elOf Try.prog 47 = some 64 := by kernel_rfl
theorem zr47 : zeroOf Try.prog 47 = some [.nils] := by kernel_rfl
theorem sz63 : szOf Try.prog 63 = some 2 := by kernel_rfl
theorem by63 : byOf Try.prog 63 = some 32 := by kernel_rfl
theorem ag63 : aggOf Try.prog 63 = some true := by kernel_rfl
theorem fld63_0 : fldOf Try.prog 63 0 = some (0, 9) := by kernel_rfl
theorem fld63_1 : fldOf Try.prog 63 1 = some (1, 9) := by kernel_rfl
theorem pl63 : plOf Try.prog 63 = some [(0, 1), (1, 1)] := by kernel_rfl
theorem eq63 : EqT Try.prog 63 [.str, .str] := EqT.of (by kernel_rfl) (by kernel_rfl) (by kernel_rfl)
theorem zr63 : zeroOf Try.prog 63 = some [.val (.str []), .val (.str [])] := by kernel_rfl
theorem sz64 : szOf Try.prog 64 = some 2 := by kernel_rfl
theorem by64 : byOf Try.prog 64 = some 32 := by kernel_rfl
theorem ag64 : aggOf Try.prog 64 = some true := by kernel_rfl
theorem fld64_0 : fldOf Try.prog 64 0 = some (0, 9) := by kernel_rfl
theorem fld64_1 : fldOf Try.prog 64 1 = some (1, 9) := by kernel_rfl
theorem pl64 : plOf Try.prog 64 = some [(0, 1), (1, 1)] := by kernel_rfl
theorem eq64 : EqT Try.prog 64 [.str, .str] := EqT.of (by kernel_rfl) (by kernel_rfl) (by kernel_rfl)
theorem zr64 : zeroOf Try.prog 64 = some [.val (.str []), .val (.str [])] := by kernel_rfl
theorem sz83 : szOf Try.prog 83 = some 1 := by kernel_rfl
theorem by83 : byOf Try.prog 83 = some 8 := by kernel_rfl
theorem ag83 : aggOf Try.prog 83 = some false := by kernel_rfl
theorem un83 : Try.prog.underlying 83 = some (.int .u64) := by kernel_rfl
theorem zr83 : zeroOf Try.prog 83 = some [.val (.int .u64 0)] := by kernel_rfl
theorem sz85 : szOf Try.prog 85 = some 1 := by kernel_rfl
theorem by85 : byOf Try.prog 85 = some 24 := by kernel_rfl
theorem ag85 : aggOf Try.prog 85 = some false := by kernel_rfl
theorem un85 : Try.prog.underlying 85 = some (.slice 5) := by kernel_rfl
theorem el85 : elOf Try.prog 85 = some 5 := by kernel_rfl
theorem zr85 : zeroOf Try.prog 85 = some [.nils] := by kernel_rfl
theorem sz94 : szOf Try.prog 94 = some 4 := by kernel_rfl
theorem by94 : byOf Try.prog 94 = some 40 := by kernel_rfl
theorem ag94 : aggOf Try.prog 94 = some true := by kernel_rfl
theorem fld94_0 : fldOf Try.prog 94 0 = some (0, 17) := by kernel_rfl
theorem fld94_1 : fldOf Try.prog 94 1 = some (1, 17) := by kernel_rfl
theorem fld94_2 : fldOf Try.prog 94 2 = some (2, 17) := by kernel_rfl
theorem fld94_3 : fldOf Try.prog 94 3 = some (3, 9) := by kernel_rfl
theorem pl94 : plOf Try.prog 94 = some [(0, 1), (1, 1), (2, 1), (3, 1)] := by kernel_rfl
theorem zr94 : zeroOf Try.prog 94 = some [.val .nilp, .val .nilp, .val .nilp, .val (.str [])] := by kernel_rfl
theorem sz95 : szOf Try.prog 95 = some 4 := by kernel_rfl
theorem by95 : byOf Try.prog 95 = some 40 := by kernel_rfl
theorem ag95 : aggOf Try.prog 95 = some true := by kernel_rfl
theorem fld95_0 : fldOf Try.prog 95 0 = some (0, 17) := by kernel_rfl
theorem fld95_1 : fldOf Try.prog 95 1 = some (1, 17) := by kernel_rfl
theorem fld95_2 : fldOf Try.prog 95 2 = some (2, 17) := by kernel_rfl
theorem fld95_3 : fldOf Try.prog 95 3 = some (3, 9) := by kernel_rfl
theorem pl95 : plOf Try.prog 95 = some [(0, 1), (1, 1), (2, 1), (3, 1)] := by kernel_rfl
theorem zr95 : zeroOf Try.prog 95 = some [.val .nilp, .val .nilp, .val .nilp, .val (.str [])] := by kernel_rfl
theorem sz96 : szOf Try.prog 96 = some 0 := by kernel_rfl
theorem by96 : byOf Try.prog 96 = some 0 := by kernel_rfl
theorem ag96 : aggOf Try.prog 96 = some true := by kernel_rfl
theorem zr96 : zeroOf Try.prog 96 = some [] := by kernel_rfl
theorem sz97 : szOf Try.prog 97 = some 0 := by kernel_rfl
theorem by97 : byOf Try.prog 97 = some 0 := by kernel_rfl
theorem ag97 : aggOf Try.prog 97 = some true := by kernel_rfl
theorem fld97_0 : fldOf Try.prog 97 0 = some (0, 96) := by kernel_rfl
theorem pl97 : plOf Try.prog 97 = some [(0, 0)] := by kernel_rfl
theorem zr97 : zeroOf Try.prog 97 = some [] := by kernel_rfl
theorem sz98 : szOf Try.prog 98 = some 0 := by kernel_rfl
theorem by98 : byOf Try.prog 98 = some 0 := by kernel_rfl
theorem ag98 : aggOf Try.prog 98 = some true := by kernel_rfl
theorem fld98_0 : fldOf Try.prog 98 0 = some (0, 96) := by kernel_rfl
theorem pl98 : plOf Try.prog 98 = some [(0, 0)] := by kernel_rfl
theorem zr98 : zeroOf Try.prog 98 = some [] := by kernel_rfl
theorem sz100 : szOf Try.prog 100 = some 1 := by kernel_rfl
theorem by100 : byOf Try.prog 100 = some 4 := by kernel_rfl
theorem ag100 : aggOf Try.prog 100 = some false := by kernel_rfl
theorem un100 : Try.prog.underlying 100 = some (.int .u32) := by kernel_rfl
theorem zr100 : zeroOf Try.prog 100 = some [.val (.int .u32 0)] := by kernel_rfl
theorem sz101 : szOf Try.prog 101 = some 1 := by kernel_rfl
theorem by101 : byOf Try.prog 101 = some 1 := by kernel_rfl
theorem ag101 : aggOf Try.prog 101 = some false := by kernel_rfl
theorem un101 : Try.prog.underlying 101 = some (.int .u8) := by kernel_rfl
theorem zr101 : zeroOf Try.prog 101 = some [.val (.int .u8 0)] := by kernel_rfl
theorem sz102 : szOf Try.prog 102 = some 1 := by kernel_rfl
theorem by102 : byOf Try.prog 102 = some 1 := by kernel_rfl
theorem ag102 : aggOf Try.prog 102 = some false := by kernel_rfl
theorem un102 : Try.prog.underlying 102 = some (.int .u8) := by kernel_rfl
theorem zr102 : zeroOf Try.prog 102 = some [.val (.int .u8 0)] := by kernel_rfl
theorem sz104 : szOf Try.prog 104 = some 1 := by kernel_rfl
theorem by104 : byOf Try.prog 104 = some 8 := by kernel_rfl
theorem ag104 : aggOf Try.prog 104 = some false := by kernel_rfl
theorem un104 : Try.prog.underlying 104 = some (.pointer 5) := by kernel_rfl
theorem zr104 : zeroOf Try.prog 104 = some [.val .nilp] := by kernel_rfl
theorem sz105 : szOf Try.prog 105 = some 1 := by kernel_rfl
theorem by105 : byOf Try.prog 105 = some 4 := by kernel_rfl
theorem ag105 : aggOf Try.prog 105 = some false := by kernel_rfl
theorem un105 : Try.prog.underlying 105 = some (.int .i32) := by kernel_rfl
theorem zr105 : zeroOf Try.prog 105 = some [.val (.int .i32 0)] := by kernel_rfl
theorem sz106 : szOf Try.prog 106 = some 1 := by kernel_rfl
theorem by106 : byOf Try.prog 106 = some 4 := by kernel_rfl
theorem ag106 : aggOf Try.prog 106 = some false := by kernel_rfl
theorem un106 : Try.prog.underlying 106 = some (.int .i32) := by kernel_rfl
theorem zr106 : zeroOf Try.prog 106 = some [.val (.int .i32 0)] := by kernel_rfl
theorem sz107 : szOf Try.prog 107 = some 11 := by kernel_rfl
theorem by107 : byOf Try.prog 107 = some 48 := by kernel_rfl
theorem ag107 : aggOf Try.prog 107 = some true := by kernel_rfl
theorem fld107_0 : fldOf Try.prog 107 0 = some (0, 12) := by kernel_rfl
theorem fld107_1 : fldOf Try.prog 107 1 = some (1, 12) := by kernel_rfl
theorem fld107_2 : fldOf Try.prog 107 2 = some (2, 100) := by kernel_rfl
theorem fld107_3 : fldOf Try.prog 107 3 = some (3, 101) := by kernel_rfl
theorem fld107_4 : fldOf Try.prog 107 4 = some (4, 5) := by kernel_rfl
theorem fld107_5 : fldOf Try.prog 107 5 = some (5, 5) := by kernel_rfl
theorem fld107_6 : fldOf Try.prog 107 6 = some (6, 102) := by kernel_rfl
theorem fld107_7 : fldOf Try.prog 107 7 = some (7, 103) := by kernel_rfl
theorem fld107_8 : fldOf Try.prog 107 8 = some (8, 104) := by kernel_rfl
theorem fld107_9 : fldOf Try.prog 107 9 = some (9, 105) := by kernel_rfl
theorem fld107_10 : fldOf Try.prog 107 10 = some (10, 106) := by kernel_rfl
theorem pl107 : plOf Try.prog 107 = some [(0, 1), (1, 1), (2, 1), (3, 1), (4, 1), (5, 1), (6, 1), (7, 1), (8, 1), (9, 1), (10, 1)] := by kernel_rfl
theorem sz108 : szOf Try.prog 108 = some 11 := by kernel_rfl
theorem by108 : byOf Try.prog 108 = some 48 := by kernel_rfl
theorem ag108 : aggOf Try.prog 108 = some true := by kernel_rfl
theorem fld108_0 : fldOf Try.prog 108 0 = some (0, 12) := by kernel_rfl
theorem fld108_1 : fldOf Try.prog 108 1 = some (1, 12) := by kernel_rfl
theorem fld108_2 : fldOf Try.prog 108 2 = some (2, 100) := by kernel_rfl
theorem fld108_3 : fldOf Try.prog 108 3 = some (3, 101) := by kernel_rfl
theorem fld108_4 : fldOf Try.prog 108 4 = some (4, 5) := by kernel_rfl
theorem fld108_5 : fldOf Try.prog 108 5 = some (5, 5) := by kernel_rfl
theorem fld108_6 : fldOf Try.prog 108 6 = some (6, 102) := by kernel_rfl
theorem fld108_7 : fldOf Try.prog 108 7 = some (7, 103) := by kernel_rfl
theorem fld108_8 : fldOf Try.prog 108 8 = some (8, 104) := by kernel_rfl
theorem fld108_9 : fldOf Try.prog 108 9 = some (9, 105) := by kernel_rfl
theorem fld108_10 : fldOf Try.prog 108 10 = some (10, 106) := by kernel_rfl
theorem pl108 : plOf Try.prog 108 = some [(0, 1), (1, 1), (2, 1), (3, 1), (4, 1), (5, 1), (6, 1), (7, 1), (8, 1), (9, 1), (10, 1)] := by kernel_rfl
theorem mixed : Try.prog.follows .mixedOrders = true := by kernel_rfl
attribute [go_sem] sz2 by2 ag2 un2 zr2 sz3 by3 ag3 un3 zr3 sz4 by4 ag4 un4 zr4 sz5 by5 ag5 un5 zr5 sz6 by6 ag6 un6 zr6 sz7 by7 ag7 fld7_0 fld7_1 fld7_2 fld7_3 pl7 zr7 sz8 by8 ag8 fld8_0 fld8_1 fld8_2 fld8_3 pl8 zr8 sz9 by9 ag9 un9 zr9 sz10 by10 ag10 un10 zr10 sz11 by11 ag11 un11 zr11 sz12 by12 ag12 un12 zr12 sz13 by13 ag13 fld13_0 fld13_1 pl13 zr13 sz14 by14 ag14 fld14_0 fld14_1 pl14 zr14 sz15 by15 ag15 un15 zr15 sz16 by16 ag16 un16 zr16 sz17 by17 ag17 un17 zr17 sz18 by18 ag18 fld18_0 pl18 zr18 sz19 by19 ag19 fld19_0 pl19 zr19 sz21 by21 ag21 un21 zr21 sz22 by22 ag22 un22 el22 zr22 sz25 by25 ag25 un25 zr25 sz30 by30 ag30 un30 zr30 sz31 by31 ag31 fld31_0 fld31_1 fld31_2 fld31_3 pl31 zr31 sz32 by32 ag32 fld32_0 fld32_1 fld32_2 fld32_3 pl32 zr32 sz37 by37 ag37 un37 el37 zr37 sz38 by38 ag38 un38 el38 zr38 sz47 by47 ag47 un47 el47 zr47 sz63 by63 ag63 fld63_0 fld63_1 pl63 zr63 sz64 by64 ag64 fld64_0 fld64_1 pl64 zr64 sz83 by83 ag83 un83 zr83 sz85 by85 ag85 un85 el85 zr85 sz94 by94 ag94 fld94_0 fld94_1 fld94_2 fld94_3 pl94 zr94 sz95 by95 ag95 fld95_0 fld95_1 fld95_2 fld95_3 pl95 zr95 sz96 by96 ag96 zr96 sz97 by97 ag97 fld97_0 pl97 zr97 sz98 by98 ag98 fld98_0 pl98 zr98 sz100 by100 ag100 un100 zr100 sz101 by101 ag101 un101 zr101 sz102 by102 ag102 un102 zr102 sz104 by104 ag104 un104 zr104 sz105 by105 ag105 un105 zr105 sz106 by106 ag106 un106 zr106 sz107 by107 ag107 fld107_0 fld107_1 fld107_2 fld107_3 fld107_4 fld107_5 fld107_6 fld107_7 fld107_8 fld107_9 fld107_10 pl107 sz108 by108 ag108 fld108_0 fld108_1 fld108_2 fld108_3 fld108_4 fld108_5 fld108_6 fld108_7 fld108_8 fld108_9 fld108_10 pl108 mixed eq7 eq8 eq63 eq64
end Go.Proofs.Ytbciecmoadjigaa.Ty
