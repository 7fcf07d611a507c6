/- A part of a proof: functions of the program, walked. -/
import Derived.Test.YtofmiaecjnfeaaaProg
import Derived.Test.YtofmiaecjnfeaaaGD
import Derived.KernelRfl
set_option linter.unusedVariables false
namespace Go.Proofs.Ytofmiaecjnfeaaa.Ty
open Go Go.Proofs Go.Proofs.YtofmiaecjnfeaaaVm
theorem sz2 : szOf Try.prog 2 = some 1 := by kernel_rfl
theorem by2 : byOf Try.prog 2 = some 8 := by kernel_rfl
theorem ag2 : aggOf Try.prog 2 = some false := by kernel_rfl
theorem un2 : Try.prog.underlying 2 = some (.int .i64) := by kernel_rfl
theorem zr2 : zeroOf Try.prog 2 = some [.val (.int .i64 0)] := by kernel_rfl
theorem sz3 : szOf Try.prog 3 = some 1 := by kernel_rfl
theorem by3 : byOf Try.prog 3 = some 8 := by kernel_rfl
theorem ag3 : aggOf Try.prog 3 = some false := by kernel_rfl
theorem un3 : Try.prog.underlying 3 = some (.int .i64) := by kernel_rfl
theorem zr3 : zeroOf Try.prog 3 = some [.val (.int .i64 0)] := by kernel_rfl
theorem sz4 : szOf Try.prog 4 = some 1 := by kernel_rfl
theorem by4 : byOf Try.prog 4 = some 1 := by kernel_rfl
theorem ag4 : aggOf Try.prog 4 = some false := by kernel_rfl
theorem un4 : Try.prog.underlying 4 = some .bool := by kernel_rfl
theorem zr4 : zeroOf Try.prog 4 = some [.val (.bool false)] := by kernel_rfl
theorem sz5 : szOf Try.prog 5 = some 1 := by kernel_rfl
theorem by5 : byOf Try.prog 5 = some 1 := by kernel_rfl
theorem ag5 : aggOf Try.prog 5 = some false := by kernel_rfl
theorem un5 : Try.prog.underlying 5 = some (.int .u8) := by kernel_rfl
theorem zr5 : zeroOf Try.prog 5 = some [.val (.int .u8 0)] := by kernel_rfl
theorem sz6 : szOf Try.prog 6 = some 1 := by kernel_rfl
theorem by6 : byOf Try.prog 6 = some 1 := by kernel_rfl
theorem ag6 : aggOf Try.prog 6 = some false := by kernel_rfl
theorem un6 : Try.prog.underlying 6 = some (.int .u8) := by kernel_rfl
theorem zr6 : zeroOf Try.prog 6 = some [.val (.int .u8 0)] := by kernel_rfl
theorem sz7 : szOf Try.prog 7 = some 4 := by kernel_rfl
theorem by7 : byOf Try.prog 7 = some 24 := by kernel_rfl
theorem ag7 : aggOf Try.prog 7 = some true := by kernel_rfl
theorem fld7_0 : fldOf Try.prog 7 0 = some (0, 2) := by kernel_rfl
theorem fld7_1 : fldOf Try.prog 7 1 = some (1, 3) := by kernel_rfl
theorem fld7_2 : fldOf Try.prog 7 2 = some (2, 4) := by kernel_rfl
theorem fld7_3 : fldOf Try.prog 7 3 = some (3, 6) := by kernel_rfl
theorem pl7 : plOf Try.prog 7 = some [(0, 1), (1, 1), (2, 1), (3, 1)] := by kernel_rfl
theorem eq7 : EqT Try.prog 7 [.int .i64, .int .i64, .bool, .int .u8] := EqT.of (by kernel_rfl) (by kernel_rfl) (by kernel_rfl)
theorem zr7 : zeroOf Try.prog 7 = some [.val (.int .i64 0), .val (.int .i64 0), .val (.bool false), .val (.int .u8 0)] := by kernel_rfl
theorem sz8 : szOf Try.prog 8 = some 4 := by kernel_rfl
theorem by8 : byOf Try.prog 8 = some 24 := by kernel_rfl
theorem ag8 : aggOf Try.prog 8 = some true := by kernel_rfl
theorem fld8_0 : fldOf Try.prog 8 0 = some (0, 2) := by kernel_rfl
theorem fld8_1 : fldOf Try.prog 8 1 = some (1, 3) := by kernel_rfl
theorem fld8_2 : fldOf Try.prog 8 2 = some (2, 4) := by kernel_rfl
theorem fld8_3 : fldOf Try.prog 8 3 = some (3, 6) := by kernel_rfl
theorem pl8 : plOf Try.prog 8 = some [(0, 1), (1, 1), (2, 1), (3, 1)] := by kernel_rfl
theorem eq8 : EqT Try.prog 8 [.int .i64, .int .i64, .bool, .int .u8] := EqT.of (by kernel_rfl) (by kernel_rfl) (by kernel_rfl)
theorem zr8 : zeroOf Try.prog 8 = some [.val (.int .i64 0), .val (.int .i64 0), .val (.bool false), .val (.int .u8 0)] := by kernel_rfl
theorem sz9 : szOf Try.prog 9 = some 1 := by kernel_rfl
theorem by9 : byOf Try.prog 9 = some 16 := by kernel_rfl
theorem ag9 : aggOf Try.prog 9 = some false := by kernel_rfl
theorem un9 : Try.prog.underlying 9 = some .string := by kernel_rfl
theorem zr9 : zeroOf Try.prog 9 = some [.val (.str [])] := by kernel_rfl
theorem sz10 : szOf Try.prog 10 = some 1 := by kernel_rfl
theorem by10 : byOf Try.prog 10 = some 16 := by kernel_rfl
theorem ag10 : aggOf Try.prog 10 = some false := by kernel_rfl
theorem un10 : Try.prog.underlying 10 = some .string := by kernel_rfl
theorem zr10 : zeroOf Try.prog 10 = some [.val (.str [])] := by kernel_rfl
theorem sz11 : szOf Try.prog 11 = some 1 := by kernel_rfl
theorem by11 : byOf Try.prog 11 = some 16 := by kernel_rfl
theorem ag11 : aggOf Try.prog 11 = some false := by kernel_rfl
theorem un11 : Try.prog.underlying 11 = some .string := by kernel_rfl
theorem zr11 : zeroOf Try.prog 11 = some [.val (.str [])] := by kernel_rfl
theorem sz12 : szOf Try.prog 12 = some 1 := by kernel_rfl
theorem by12 : byOf Try.prog 12 = some 8 := by kernel_rfl
theorem ag12 : aggOf Try.prog 12 = some false := by kernel_rfl
theorem un12 : Try.prog.underlying 12 = some (.int .u64) := by kernel_rfl
theorem zr12 : zeroOf Try.prog 12 = some [.val (.int .u64 0)] := by kernel_rfl
theorem sz13 : szOf Try.prog 13 = some 2 := by kernel_rfl
theorem by13 : byOf Try.prog 13 = some 24 := by kernel_rfl
theorem ag13 : aggOf Try.prog 13 = some true := by kernel_rfl
theorem fld13_0 : fldOf Try.prog 13 0 = some (0, 9) := by kernel_rfl
theorem fld13_1 : fldOf Try.prog 13 1 = some (1, 12) := by kernel_rfl
theorem pl13 : plOf Try.prog 13 = some [(0, 1), (1, 1)] := by kernel_rfl
theorem zr13 : zeroOf Try.prog 13 = some [.val (.str []), .val (.int .u64 0)] := by kernel_rfl
theorem sz14 : szOf Try.prog 14 = some 2 := by kernel_rfl
theorem by14 : byOf Try.prog 14 = some 24 := by kernel_rfl
theorem ag14 : aggOf Try.prog 14 = some true := by kernel_rfl
theorem fld14_0 : fldOf Try.prog 14 0 = some (0, 9) := by kernel_rfl
theorem fld14_1 : fldOf Try.prog 14 1 = some (1, 12) := by kernel_rfl
theorem pl14 : plOf Try.prog 14 = some [(0, 1), (1, 1)] := by kernel_rfl
theorem zr14 : zeroOf Try.prog 14 = some [.val (.str []), .val (.int .u64 0)] := by kernel_rfl
theorem sz15 : szOf Try.prog 15 = some 1 := by kernel_rfl
theorem by15 : byOf Try.prog 15 = some 8 := by kernel_rfl
theorem ag15 : aggOf Try.prog 15 = some false := by kernel_rfl
theorem un15 : Try.prog.underlying 15 = some (.pointer 144) := by kernel_rfl
theorem zr15 : zeroOf Try.prog 15 = some [.val .nilp] := by kernel_rfl
theorem sz16 : szOf Try.prog 16 = some 1 := by kernel_rfl
theorem by16 : byOf Try.prog 16 = some 8 := by kernel_rfl
theorem ag16 : aggOf Try.prog 16 = some false := by kernel_rfl
theorem un16 : Try.prog.underlying 16 = some (.pointer 147) := by kernel_rfl
theorem zr16 : zeroOf Try.prog 16 = some [.val .nilp] := by kernel_rfl
theorem sz17 : szOf Try.prog 17 = some 1 := by kernel_rfl
theorem by17 : byOf Try.prog 17 = some 8 := by kernel_rfl
theorem ag17 : aggOf Try.prog 17 = some false := by kernel_rfl
theorem un17 : Try.prog.underlying 17 = some (.pointer 157) := by kernel_rfl
theorem zr17 : zeroOf Try.prog 17 = some [.val .nilp] := by kernel_rfl
theorem sz18 : szOf Try.prog 18 = some 1 := by kernel_rfl
theorem by18 : byOf Try.prog 18 = some 8 := by kernel_rfl
theorem ag18 : aggOf Try.prog 18 = some true := by kernel_rfl
theorem fld18_0 : fldOf Try.prog 18 0 = some (0, 17) := by kernel_rfl
theorem pl18 : plOf Try.prog 18 = some [(0, 1)] := by kernel_rfl
theorem zr18 : zeroOf Try.prog 18 = some [.val .nilp] := by kernel_rfl
theorem sz19 : szOf Try.prog 19 = some 1 := by kernel_rfl
theorem by19 : byOf Try.prog 19 = some 8 := by kernel_rfl
theorem ag19 : aggOf Try.prog 19 = some true := by kernel_rfl
theorem fld19_0 : fldOf Try.prog 19 0 = some (0, 17) := by kernel_rfl
theorem pl19 : plOf Try.prog 19 = some [(0, 1)] := by kernel_rfl
theorem zr19 : zeroOf Try.prog 19 = some [.val .nilp] := by kernel_rfl
theorem sz21 : szOf Try.prog 21 = some 1 := by kernel_rfl
theorem by21 : byOf Try.prog 21 = some 4 := by kernel_rfl
theorem ag21 : aggOf Try.prog 21 = some false := by kernel_rfl
theorem un21 : Try.prog.underlying 21 = some (.int .i32) := by kernel_rfl
theorem zr21 : zeroOf Try.prog 21 = some [.val (.int .i32 0)] := by kernel_rfl
theorem sz22 : szOf Try.prog 22 = some 1 := by kernel_rfl
theorem by22 : byOf Try.prog 22 = some 24 := by kernel_rfl
theorem ag22 : aggOf Try.prog 22 = some false := by kernel_rfl
theorem un22 : Try.prog.underlying 22 = some (.slice 30) := by kernel_rfl
theorem el22 : elOf Try.prog 22 = some 30 := by kernel_rfl
theorem zr22 : zeroOf Try.prog 22 = some [.nils] := by kernel_rfl
theorem sz23 : szOf Try.prog 23 = some 3 := by kernel_rfl
theorem by23 : byOf Try.prog 23 = some 40 := by kernel_rfl
theorem ag23 : aggOf Try.prog 23 = some true := by kernel_rfl
theorem fld23_0 : fldOf Try.prog 23 0 = some (0, 9) := by kernel_rfl
theorem fld23_1 : fldOf Try.prog 23 1 = some (1, 9) := by kernel_rfl
theorem fld23_2 : fldOf Try.prog 23 2 = some (2, 4) := by kernel_rfl
theorem pl23 : plOf Try.prog 23 = some [(0, 1), (1, 1), (2, 1)] := by kernel_rfl
theorem eq23 : EqT Try.prog 23 [.str, .str, .bool] := EqT.of (by kernel_rfl) (by kernel_rfl) (by kernel_rfl)
theorem zr23 : zeroOf Try.prog 23 = some [.val (.str []), .val (.str []), .val (.bool false)] := by kernel_rfl
theorem sz24 : szOf Try.prog 24 = some 3 := by kernel_rfl
theorem by24 : byOf Try.prog 24 = some 40 := by kernel_rfl
theorem ag24 : aggOf Try.prog 24 = some true := by kernel_rfl
theorem fld24_0 : fldOf Try.prog 24 0 = some (0, 9) := by kernel_rfl
theorem fld24_1 : fldOf Try.prog 24 1 = some (1, 9) := by kernel_rfl
theorem fld24_2 : fldOf Try.prog 24 2 = some (2, 4) := by kernel_rfl
theorem pl24 : plOf Try.prog 24 = some [(0, 1), (1, 1), (2, 1)] := by kernel_rfl
theorem eq24 : EqT Try.prog 24 [.str, .str, .bool] := EqT.of (by kernel_rfl) (by kernel_rfl) (by kernel_rfl)
theorem zr24 : zeroOf Try.prog 24 = some [.val (.str []), .val (.str []), .val (.bool false)] := by kernel_rfl
theorem sz26 : szOf Try.prog 26 = some 1 := by kernel_rfl
theorem by26 : byOf Try.prog 26 = some 8 := by kernel_rfl
theorem ag26 : aggOf Try.prog 26 = some false := by kernel_rfl
theorem un26 : Try.prog.underlying 26 = some (.pointer 63) := by kernel_rfl
theorem zr26 : zeroOf Try.prog 26 = some [.val .nilp] := by kernel_rfl
theorem sz27 : szOf Try.prog 27 = some 1 := by kernel_rfl
theorem by27 : byOf Try.prog 27 = some 8 := by kernel_rfl
theorem ag27 : aggOf Try.prog 27 = some true := by kernel_rfl
theorem fld27_0 : fldOf Try.prog 27 0 = some (0, 26) := by kernel_rfl
theorem pl27 : plOf Try.prog 27 = some [(0, 1)] := by kernel_rfl
theorem zr27 : zeroOf Try.prog 27 = some [.val .nilp] := by kernel_rfl
theorem sz28 : szOf Try.prog 28 = some 1 := by kernel_rfl
theorem by28 : byOf Try.prog 28 = some 8 := by kernel_rfl
theorem ag28 : aggOf Try.prog 28 = some true := by kernel_rfl
theorem fld28_0 : fldOf Try.prog 28 0 = some (0, 26) := by kernel_rfl
theorem pl28 : plOf Try.prog 28 = some [(0, 1)] := by kernel_rfl
theorem zr28 : zeroOf Try.prog 28 = some [.val .nilp] := by kernel_rfl
theorem sz29 : szOf Try.prog 29 = some 1 := by kernel_rfl
theorem by29 : byOf Try.prog 29 = some 24 := by kernel_rfl
theorem ag29 : aggOf Try.prog 29 = some false := by kernel_rfl
theorem un29 : Try.prog.underlying 29 = some (.slice 42) := by kernel_rfl
theorem el29 : elOf Try.prog 29 = some 42 := by kernel_rfl
theorem zr29 : zeroOf Try.prog 29 = some [.nils] := by kernel_rfl
theorem sz30 : szOf Try.prog 30 = some 1 := by kernel_rfl
theorem by30 : byOf Try.prog 30 = some 24 := by kernel_rfl
theorem ag30 : aggOf Try.prog 30 = some false := by kernel_rfl
theorem un30 : Try.prog.underlying 30 = some (.slice 50) := by kernel_rfl
theorem el30 : elOf Try.prog 30 = some 50 := by kernel_rfl
theorem zr30 : zeroOf Try.prog 30 = some [.nils] := by kernel_rfl
theorem sz32 : szOf Try.prog 32 = some 1 := by kernel_rfl
theorem by32 : byOf Try.prog 32 = some 8 := by kernel_rfl
theorem ag32 : aggOf Try.prog 32 = some false := by kernel_rfl
theorem un32 : Try.prog.underlying 32 = some (.int .i64) := by kernel_rfl
theorem zr32 : zeroOf Try.prog 32 = some [.val (.int .i64 0)] := by kernel_rfl
theorem sz41 : szOf Try.prog 41 = some 2 := by kernel_rfl
theorem by41 : byOf Try.prog 41 = some 32 := by kernel_rfl
theorem ag41 : aggOf Try.prog 41 = some true := by kernel_rfl
theorem fld41_0 : fldOf Try.prog 41 0 = some (0, 9) := by kernel_rfl
theorem fld41_1 : fldOf Try.prog 41 1 = some (1, 9) := by kernel_rfl
theorem pl41 : plOf Try.prog 41 = some [(0, 1), (1, 1)] := by kernel_rfl
theorem eq41 : EqT Try.prog 41 [.str, .str] := EqT.of (by kernel_rfl) (by kernel_rfl) (by kernel_rfl)
theorem zr41 : zeroOf Try.prog 41 = some [.val (.str []), .val (.str [])] := by kernel_rfl
theorem sz42 : szOf Try.prog 42 = some 2 := by kernel_rfl
theorem by42 : byOf Try.prog 42 = some 32 := by kernel_rfl
theorem ag42 : aggOf Try.prog 42 = some true := by kernel_rfl
theorem fld42_0 : fldOf Try.prog 42 0 = some (0, 9) := by kernel_rfl
theorem fld42_1 : fldOf Try.prog 42 1 = some (1, 9) := by kernel_rfl
theorem pl42 : plOf Try.prog 42 = some [(0, 1), (1, 1)] := by kernel_rfl
theorem eq42 : EqT Try.prog 42 [.str, .str] := EqT.of (by kernel_rfl) (by kernel_rfl) (by kernel_rfl)
theorem zr42 : zeroOf Try.prog 42 = some [.val (.str []), .val (.str [])] := by kernel_rfl
theorem sz48 : szOf Try.prog 48 = some 1 := by kernel_rfl
theorem by48 : byOf Try.prog 48 = some 8 := by kernel_rfl
theorem ag48 : aggOf Try.prog 48 = some false := by kernel_rfl
theorem un48 : Try.prog.underlying 48 = some (.int .u64) := by kernel_rfl
theorem zr48 : zeroOf Try.prog 48 = some [.val (.int .u64 0)] := by kernel_rfl
theorem sz49 : szOf Try.prog 49 = some 4 := by kernel_rfl
theorem by49 : byOf Try.prog 49 = some 48 := by kernel_rfl
theorem ag49 : aggOf Try.prog 49 = some true := by kernel_rfl
theorem fld49_0 : fldOf Try.prog 49 0 = some (0, 3) := by kernel_rfl
theorem fld49_1 : fldOf Try.prog 49 1 = some (1, 9) := by kernel_rfl
theorem fld49_2 : fldOf Try.prog 49 2 = some (2, 9) := by kernel_rfl
theorem fld49_3 : fldOf Try.prog 49 3 = some (3, 48) := by kernel_rfl
theorem pl49 : plOf Try.prog 49 = some [(0, 1), (1, 1), (2, 1), (3, 1)] := by kernel_rfl
theorem zr49 : zeroOf Try.prog 49 = some [.val (.int .i64 0), .val (.str []), .val (.str []), .val (.int .u64 0)] := by kernel_rfl
theorem sz50 : szOf Try.prog 50 = some 4 := by kernel_rfl
theorem by50 : byOf Try.prog 50 = some 48 := by kernel_rfl
theorem ag50 : aggOf Try.prog 50 = some true := by kernel_rfl
theorem fld50_0 : fldOf Try.prog 50 0 = some (0, 3) := by kernel_rfl
theorem fld50_1 : fldOf Try.prog 50 1 = some (1, 9) := by kernel_rfl
theorem fld50_2 : fldOf Try.prog 50 2 = some (2, 9) := by kernel_rfl
theorem fld50_3 : fldOf Try.prog 50 3 = some (3, 48) := by kernel_rfl
theorem pl50 : plOf Try.prog 50 = some [(0, 1), (1, 1), (2, 1), (3, 1)] := by kernel_rfl
theorem zr50 : zeroOf Try.prog 50 = some [.val (.int .i64 0), .val (.str []), .val (.str []), .val (.int .u64 0)] := by kernel_rfl
theorem sz52 : szOf Try.prog 52 = some 1 := by kernel_rfl
theorem by52 : byOf Try.prog 52 = some 24 := by kernel_rfl
theorem ag52 : aggOf Try.prog 52 = some false := by kernel_rfl
theorem un52 : Try.prog.underlying 52 = some (.slice 9) := by kernel_rfl
theorem el52 : elOf Try.prog 52 = some 9 := by kernel_rfl
theorem zr52 : zeroOf Try.prog 52 = some [.nils] := by kernel_rfl
theorem sz55 : szOf Try.prog 55 = some 1 := by kernel_rfl
theorem by55 : byOf Try.prog 55 = some 24 := by kernel_rfl
theorem ag55 : aggOf Try.prog 55 = some false := by kernel_rfl
theorem un55 : Try.prog.underlying 55 = some (.slice 86) := by kernel_rfl
theorem el55 : elOf Try.prog 55 = some 86 := by kernel_rfl
theorem zr55 : zeroOf Try.prog 55 = some [.nils] := by kernel_rfl
theorem sz59 : szOf Try.prog 59 = some 1 := by kernel_rfl
theorem by59 : byOf Try.prog 59 = some 24 := by kernel_rfl
theorem ag59 : aggOf Try.prog 59 = some false := by kernel_rfl
theorem un59 : Try.prog.underlying 59 = some (.slice 26) := by kernel_rfl
theorem el59 : elOf Try.prog 59 = some 26 := by kernel_rfl
theorem zr59 : zeroOf Try.prog 59 = some [.nils] := by kernel_rfl
theorem sz62 : szOf Try.prog 62 = some 4 := by kernel_rfl
theorem by62 : byOf Try.prog 62 = some 88 := by kernel_rfl
theorem ag62 : aggOf Try.prog 62 = some true := by kernel_rfl
theorem fld62_0 : fldOf Try.prog 62 0 = some (0, 9) := by kernel_rfl
theorem fld62_1 : fldOf Try.prog 62 1 = some (1, 59) := by kernel_rfl
theorem fld62_2 : fldOf Try.prog 62 2 = some (2, 30) := by kernel_rfl
theorem fld62_3 : fldOf Try.prog 62 3 = some (3, 29) := by kernel_rfl
theorem pl62 : plOf Try.prog 62 = some [(0, 1), (1, 1), (2, 1), (3, 1)] := by kernel_rfl
theorem zr62 : zeroOf Try.prog 62 = some [.val (.str []), .nils, .nils, .nils] := by kernel_rfl
theorem sz63 : szOf Try.prog 63 = some 4 := by kernel_rfl
theorem by63 : byOf Try.prog 63 = some 88 := by kernel_rfl
theorem ag63 : aggOf Try.prog 63 = some true := by kernel_rfl
theorem fld63_0 : fldOf Try.prog 63 0 = some (0, 9) := by kernel_rfl
theorem fld63_1 : fldOf Try.prog 63 1 = some (1, 59) := by kernel_rfl
theorem fld63_2 : fldOf Try.prog 63 2 = some (2, 30) := by kernel_rfl
theorem fld63_3 : fldOf Try.prog 63 3 = some (3, 29) := by kernel_rfl
theorem pl63 : plOf Try.prog 63 = some [(0, 1), (1, 1), (2, 1), (3, 1)] := by kernel_rfl
theorem zr63 : zeroOf Try.prog 63 = some [.val (.str []), .nils, .nils, .nils] := by kernel_rfl
theorem sz67 : szOf Try.prog 67 = some 1 := by kernel_rfl
theorem by67 : byOf Try.prog 67 = some 24 := by kernel_rfl
theorem ag67 : aggOf Try.prog 67 = some false := by kernel_rfl
theorem un67 : Try.prog.underlying 67 = some (.slice 87) := by kernel_rfl
theorem el67 : elOf Try.prog 67 = some 87 := by kernel_rfl
theorem zr67 : zeroOf Try.prog 67 = some [.nils] := by kernel_rfl
theorem sz85 : szOf Try.prog 85 = some 5 := by kernel_rfl
theorem by85 : byOf Try.prog 85 = some 80 := by kernel_rfl
theorem ag85 : aggOf Try.prog 85 = some true := by kernel_rfl
theorem fld85_0 : fldOf Try.prog 85 0 = some (0, 3) := by kernel_rfl
theorem fld85_1 : fldOf Try.prog 85 1 = some (1, 3) := by kernel_rfl
theorem fld85_2 : fldOf Try.prog 85 2 = some (2, 9) := by kernel_rfl
theorem fld85_3 : fldOf Try.prog 85 3 = some (3, 30) := by kernel_rfl
theorem fld85_4 : fldOf Try.prog 85 4 = some (4, 29) := by kernel_rfl
theorem pl85 : plOf Try.prog 85 = some [(0, 1), (1, 1), (2, 1), (3, 1), (4, 1)] := by kernel_rfl
theorem zr85 : zeroOf Try.prog 85 = some [.val (.int .i64 0), .val (.int .i64 0), .val (.str []), .nils, .nils] := by kernel_rfl
theorem sz86 : szOf Try.prog 86 = some 5 := by kernel_rfl
theorem by86 : byOf Try.prog 86 = some 80 := by kernel_rfl
theorem ag86 : aggOf Try.prog 86 = some true := by kernel_rfl
theorem fld86_0 : fldOf Try.prog 86 0 = some (0, 3) := by kernel_rfl
theorem fld86_1 : fldOf Try.prog 86 1 = some (1, 3) := by kernel_rfl
theorem fld86_2 : fldOf Try.prog 86 2 = some (2, 9) := by kernel_rfl
theorem fld86_3 : fldOf Try.prog 86 3 = some (3, 30) := by kernel_rfl
theorem fld86_4 : fldOf Try.prog 86 4 = some (4, 29) := by kernel_rfl
theorem pl86 : plOf Try.prog 86 = some [(0, 1), (1, 1), (2, 1), (3, 1), (4, 1)] := by kernel_rfl
theorem zr86 : zeroOf Try.prog 86 = some [.val (.int .i64 0), .val (.int .i64 0), .val (.str []), .nils, .nils] := by kernel_rfl
theorem sz87 : szOf Try.prog 87 = some 5 := by kernel_rfl
theorem by87 : byOf Try.prog 87 = some 80 := by kernel_rfl
theorem ag87 : aggOf Try.prog 87 = some true := by kernel_rfl
theorem fld87_0 : fldOf Try.prog 87 0 = some (0, 3) := by kernel_rfl
theorem fld87_1 : fldOf Try.prog 87 1 = some (1, 3) := by kernel_rfl
theorem fld87_2 : fldOf Try.prog 87 2 = some (2, 9) := by kernel_rfl
theorem fld87_3 : fldOf Try.prog 87 3 = some (3, 30) := by kernel_rfl
theorem fld87_4 : fldOf Try.prog 87 4 = some (4, 29) := by kernel_rfl
theorem pl87 : plOf Try.prog 87 = some [(0, 1), (1, 1), (2, 1), (3, 1), (4, 1)] := by kernel_rfl
theorem zr87 : zeroOf Try.prog 87 = some [.val (.int .i64 0), .val (.int .i64 0), .val (.str []), .nils, .nils] := by kernel_rfl
theorem sz105 : szOf Try.prog 105 = some 1 := by kernel_rfl
theorem by105 : byOf Try.prog 105 = some 24 := by kernel_rfl
theorem ag105 : aggOf Try.prog 105 = some false := by kernel_rfl
theorem un105 : Try.prog.underlying 105 = some (.slice 29) := by kernel_rfl
theorem el105 : elOf Try.prog 105 = some 29 := by kernel_rfl
theorem zr105 : zeroOf Try.prog 105 = some [.nils] := by kernel_rfl
theorem sz129 : szOf Try.prog 129 = some 1 := by kernel_rfl
theorem by129 : byOf Try.prog 129 = some 24 := by kernel_rfl
theorem ag129 : aggOf Try.prog 129 = some false := by kernel_rfl
theorem un129 : Try.prog.underlying 129 = some (.slice 59) := by kernel_rfl
theorem el129 : elOf Try.prog 129 = some 59 := by kernel_rfl
theorem zr129 : zeroOf Try.prog 129 = some [.nils] := by kernel_rfl
theorem sz132 : szOf Try.prog 132 = some 1 := by kernel_rfl
theorem by132 : byOf Try.prog 132 = some 24 := by kernel_rfl
theorem ag132 : aggOf Try.prog 132 = some false := by kernel_rfl
theorem un132 : Try.prog.underlying 132 = some (.slice 5) := by kernel_rfl
theorem el132 : elOf Try.prog 132 = some 5 := by kernel_rfl
theorem zr132 : zeroOf Try.prog 132 = some [.nils] := by kernel_rfl
theorem sz138 : szOf Try.prog 138 = some 1 := by kernel_rfl
theorem by138 : byOf Try.prog 138 = some 8 := by kernel_rfl
theorem ag138 : aggOf Try.prog 138 = some false := by kernel_rfl
theorem un138 : Try.prog.underlying 138 = some (.int .u64) := by kernel_rfl
theorem zr138 : zeroOf Try.prog 138 = some [.val (.int .u64 0)] := by kernel_rfl
theorem sz143 : szOf Try.prog 143 = some 4 := by kernel_rfl
theorem by143 : byOf Try.prog 143 = some 40 := by kernel_rfl
theorem ag143 : aggOf Try.prog 143 = some true := by kernel_rfl
theorem fld143_0 : fldOf Try.prog 143 0 = some (0, 17) := by kernel_rfl
theorem fld143_1 : fldOf Try.prog 143 1 = some (1, 17) := by kernel_rfl
theorem fld143_2 : fldOf Try.prog 143 2 = some (2, 17) := by kernel_rfl
theorem fld143_3 : fldOf Try.prog 143 3 = some (3, 9) := by kernel_rfl
theorem pl143 : plOf Try.prog 143 = some [(0, 1), (1, 1), (2, 1), (3, 1)] := by kernel_rfl
theorem zr143 : zeroOf Try.prog 143 = some [.val .nilp, .val .nilp, .val .nilp, .val (.str [])] := by kernel_rfl
theorem sz144 : szOf Try.prog 144 = some 4 := by kernel_rfl
theorem by144 : byOf Try.prog 144 = some 40 := by kernel_rfl
theorem ag144 : aggOf Try.prog 144 = some true := by kernel_rfl
theorem fld144_0 : fldOf Try.prog 144 0 = some (0, 17) := by kernel_rfl
theorem fld144_1 : fldOf Try.prog 144 1 = some (1, 17) := by kernel_rfl
theorem fld144_2 : fldOf Try.prog 144 2 = some (2, 17) := by kernel_rfl
theorem fld144_3 : fldOf Try.prog 144 3 = some (3, 9) := by kernel_rfl
theorem pl144 : plOf Try.prog 144 = some [(0, 1), (1, 1), (2, 1), (3, 1)] := by kernel_rfl
theorem zr144 : zeroOf Try.prog 144 = some [.val .nilp, .val .nilp, .val .nilp, .val (.str [])] := by kernel_rfl
theorem sz145 : szOf Try.prog 145 = some 0 := by kernel_rfl
theorem by145 : byOf Try.prog 145 = some 0 := by kernel_rfl
theorem ag145 : aggOf Try.prog 145 = some true := by kernel_rfl
theorem zr145 : zeroOf Try.prog 145 = some [] := by kernel_rfl
theorem sz146 : szOf Try.prog 146 = some 0 := by kernel_rfl
theorem by146 : byOf Try.prog 146 = some 0 := by kernel_rfl
theorem ag146 : aggOf Try.prog 146 = some true := by kernel_rfl
theorem fld146_0 : fldOf Try.prog 146 0 = some (0, 145) := by kernel_rfl
theorem pl146 : plOf Try.prog 146 = some [(0, 0)] := by kernel_rfl
theorem zr146 : zeroOf Try.prog 146 = some [] := by kernel_rfl
theorem sz147 : szOf Try.prog 147 = some 0 := by kernel_rfl
theorem by147 : byOf Try.prog 147 = some 0 := by kernel_rfl
theorem ag147 : aggOf Try.prog 147 = some true := by kernel_rfl
theorem fld147_0 : fldOf Try.prog 147 0 = some (0, 145) := by kernel_rfl
theorem pl147 : plOf Try.prog 147 = some [(0, 0)] := by kernel_rfl
theorem zr147 : zeroOf Try.prog 147 = some [] := by kernel_rfl
theorem sz149 : szOf Try.prog 149 = some 1 := by kernel_rfl
theorem by149 : byOf Try.prog 149 = some 4 := by kernel_rfl
theorem ag149 : aggOf Try.prog 149 = some false := by kernel_rfl
theorem un149 : Try.prog.underlying 149 = some (.int .u32) := by kernel_rfl
theorem zr149 : zeroOf Try.prog 149 = some [.val (.int .u32 0)] := by kernel_rfl
theorem sz150 : szOf Try.prog 150 = some 1 := by kernel_rfl
theorem by150 : byOf Try.prog 150 = some 1 := by kernel_rfl
theorem ag150 : aggOf Try.prog 150 = some false := by kernel_rfl
theorem un150 : Try.prog.underlying 150 = some (.int .u8) := by kernel_rfl
theorem zr150 : zeroOf Try.prog 150 = some [.val (.int .u8 0)] := by kernel_rfl
theorem sz151 : szOf Try.prog 151 = some 1 := by kernel_rfl
theorem by151 : byOf Try.prog 151 = some 1 := by kernel_rfl
theorem ag151 : aggOf Try.prog 151 = some false := by kernel_rfl
theorem un151 : Try.prog.underlying 151 = some (.int .u8) := by kernel_rfl
theorem zr151 : zeroOf Try.prog 151 = some [.val (.int .u8 0)] := by kernel_rfl
theorem sz153 : szOf Try.prog 153 = some 1 := by kernel_rfl
theorem by153 : byOf Try.prog 153 = some 8 := by kernel_rfl
theorem ag153 : aggOf Try.prog 153 = some false := by kernel_rfl
theorem un153 : Try.prog.underlying 153 = some (.pointer 5) := by kernel_rfl
theorem zr153 : zeroOf Try.prog 153 = some [.val .nilp] := by kernel_rfl
theorem sz154 : szOf Try.prog 154 = some 1 := by kernel_rfl
theorem by154 : byOf Try.prog 154 = some 4 := by kernel_rfl
theorem ag154 : aggOf Try.prog 154 = some false := by kernel_rfl
theorem un154 : Try.prog.underlying 154 = some (.int .i32) := by kernel_rfl
theorem zr154 : zeroOf Try.prog 154 = some [.val (.int .i32 0)] := by kernel_rfl
theorem sz155 : szOf Try.prog 155 = some 1 := by kernel_rfl
theorem by155 : byOf Try.prog 155 = some 4 := by kernel_rfl
theorem ag155 : aggOf Try.prog 155 = some false := by kernel_rfl
theorem un155 : Try.prog.underlying 155 = some (.int .i32) := by kernel_rfl
theorem zr155 : zeroOf Try.prog 155 = some [.val (.int .i32 0)] := by kernel_rfl
theorem sz156 : szOf Try.prog 156 = some 11 := by kernel_rfl
theorem by156 : byOf Try.prog 156 = some 48 := by kernel_rfl
theorem ag156 : aggOf Try.prog 156 = some true := by kernel_rfl
theorem fld156_0 : fldOf Try.prog 156 0 = some (0, 12) := by kernel_rfl
theorem fld156_1 : fldOf Try.prog 156 1 = some (1, 12) := by kernel_rfl
theorem fld156_2 : fldOf Try.prog 156 2 = some (2, 149) := by kernel_rfl
theorem fld156_3 : fldOf Try.prog 156 3 = some (3, 150) := by kernel_rfl
theorem fld156_4 : fldOf Try.prog 156 4 = some (4, 5) := by kernel_rfl
theorem fld156_5 : fldOf Try.prog 156 5 = some (5, 5) := by kernel_rfl
theorem fld156_6 : fldOf Try.prog 156 6 = some (6, 151) := by kernel_rfl
theorem fld156_7 : fldOf Try.prog 156 7 = some (7, 152) := by kernel_rfl
theorem fld156_8 : fldOf Try.prog 156 8 = some (8, 153) := by kernel_rfl
theorem fld156_9 : fldOf Try.prog 156 9 = some (9, 154) := by kernel_rfl
theorem fld156_10 : fldOf Try.prog 156 10 = some (10, 155) := by kernel_rfl
theorem pl156 : plOf Try.prog 156 = some [(0, 1), (1, 1), (2, 1), (3, 1), (4, 1), (5, 1), (6, 1), (7, 1), (8, 1), (9, 1), (10, 1)] := by kernel_rfl
theorem sz157 : szOf Try.prog 157 = some 11 := by kernel_rfl
theorem by157 : byOf Try.prog 157 = some 48 := by kernel_rfl
theorem ag157 : aggOf Try.prog 157 = some true := by kernel_rfl
theorem fld157_0 : fldOf Try.prog 157 0 = some (0, 12) := by kernel_rfl
theorem fld157_1 : fldOf Try.prog 157 1 = some (1, 12) := by kernel_rfl
theorem fld157_2 : fldOf Try.prog 157 2 = some (2, 149) := by kernel_rfl
theorem fld157_3 : fldOf Try.prog 157 3 = some (3, 150) := by kernel_rfl
theorem fld157_4 : fldOf Try.prog 157 4 = some (4, 5) := by kernel_rfl
theorem fld157_5 : fldOf Try.prog 157 5 = some (5, 5) := by kernel_rfl
theorem fld157_6 : fldOf Try.prog 157 6 = some (6, 151) := by kernel_rfl
theorem fld157_7 : fldOf Try.prog 157 7 = some (7, 152) := by kernel_rfl
theorem fld157_8 : fldOf Try.prog 157 8 = some (8, 153) := by kernel_rfl
theorem fld157_9 : fldOf Try.prog 157 9 = some (9, 154) := by kernel_rfl
theorem fld157_10 : fldOf Try.prog 157 10 = some (10, 155) := by kernel_rfl
theorem pl157 : plOf Try.prog 157 = some [(0, 1), (1, 1), (2, 1), (3, 1), (4, 1), (5, 1), (6, 1), (7, 1), (8, 1), (9, 1), (10, 1)] := by kernel_rfl
theorem mixed : Try.prog.follows .mixedOrders = true := by kernel_rfl
attribute [go_sem] sz2 by2 ag2 un2 zr2 sz3 by3 ag3 un3 zr3 sz4 by4 ag4 un4 zr4 sz5 by5 ag5 un5 zr5 sz6 by6 ag6 un6 zr6 sz7 by7 ag7 fld7_0 fld7_1 fld7_2 fld7_3 pl7 zr7 sz8 by8 ag8 fld8_0 fld8_1 fld8_2 fld8_3 pl8 zr8 sz9 by9 ag9 un9 zr9 sz10 by10 ag10 un10 zr10 sz11 by11 ag11 un11 zr11 sz12 by12 ag12 un12 zr12 sz13 by13 ag13 fld13_0 fld13_1 pl13 zr13 sz14 by14 ag14 fld14_0 fld14_1 pl14 zr14 sz15 by15 ag15 un15 zr15 sz16 by16 ag16 un16 zr16 sz17 by17 ag17 un17 zr17 sz18 by18 ag18 fld18_0 pl18 zr18 sz19 by19 ag19 fld19_0 pl19 zr19 sz21 by21 ag21 un21 zr21 sz22 by22 ag22 un22 el22 zr22 sz23 by23 ag23 fld23_0 fld23_1 fld23_2 pl23 zr23 sz24 by24 ag24 fld24_0 fld24_1 fld24_2 pl24 zr24 sz26 by26 ag26 un26 zr26 sz27 by27 ag27 fld27_0 pl27 zr27 sz28 by28 ag28 fld28_0 pl28 zr28 sz29 by29 ag29 un29 el29 zr29 sz30 by30 ag30 un30 el30 zr30 sz32 by32 ag32 un32 zr32 sz41 by41 ag41 fld41_0 fld41_1 pl41 zr41 sz42 by42 ag42 fld42_0 fld42_1 pl42 zr42 sz48 by48 ag48 un48 zr48 sz49 by49 ag49 fld49_0 fld49_1 fld49_2 fld49_3 pl49 zr49 sz50 by50 ag50 fld50_0 fld50_1 fld50_2 fld50_3 pl50 zr50 sz52 by52 ag52 un52 el52 zr52 sz55 by55 ag55 un55 el55 zr55 sz59 by59 ag59 un59 el59 zr59 sz62 by62 ag62 fld62_0 fld62_1 fld62_2 fld62_3 pl62 zr62 sz63 by63 ag63 fld63_0 fld63_1 fld63_2 fld63_3 pl63 zr63 sz67 by67 ag67 un67 el67 zr67 sz85 by85 ag85 fld85_0 fld85_1 fld85_2 fld85_3 fld85_4 pl85 zr85 sz86 by86 ag86 fld86_0 fld86_1 fld86_2 fld86_3 fld86_4 pl86 zr86 sz87 by87 ag87 fld87_0 fld87_1 fld87_2 fld87_3 fld87_4 pl87 zr87 sz105 by105 ag105 un105 el105 zr105 sz129 by129 ag129 un129 el129 zr129 sz132 by132 ag132 un132 el132 zr132 sz138 by138 ag138 un138 zr138 sz143 by143 ag143 fld143_0 fld143_1 fld143_2 fld143_3 pl143 zr143 sz144 by144 ag144 fld144_0 fld144_1 fld144_2 fld144_3 pl144 zr144 sz145 by145 ag145 zr145 sz146 by146 ag146 fld146_0 pl146 zr146 sz147 by147 ag147 fld147_0 pl147 zr147 sz149 by149 ag149 un149 zr149 sz150 by150 ag150 un150 zr150 sz151 by151 ag151 un151 zr151 sz153 by153 ag153 un153 zr153 sz154 by154 ag154 un154 zr154 sz155 by155 ag155 un155 zr155 sz156 by156 ag156 fld156_0 fld156_1 fld156_2 fld156_3 fld156_4 fld156_5 fld156_6 fld156_7 fld156_8 fld156_9 fld156_10 pl156 sz157 by157 ag157 fld157_0 fld157_1 fld157_2 fld157_3 fld157_4 fld157_5 fld157_6 fld157_7 fld157_8 fld157_9 fld157_10 pl157 mixed eq7 eq8 eq23 eq24 eq41 eq42
end Go.Proofs.Ytofmiaecjnfeaaa.Ty
set_option linter.unusedVariables false
set_option linter.unusedSimpArgs false
set_option maxRecDepth 8000
namespace Go.Proofs.Ytofmiaecjnfeaaa
open Go Go.Proofs Go.Proofs.YtofmiaecjnfeaaaVm Go.Proofs.Ytofmiaecjnfeaaa.Ty

theorem wrap_small {n : Int} (h : -9223372036854775808 ≤ n) (h' : n < 9223372036854775808) : IntKind.i64.wrap n = n := by rw [IntKind.wrap_i64]; omega

theorem wrap_small' {n : Int} (h : -9223372036854775808 ≤ n) (h' : n < 9223372036854775808) : IntKind.i64.wrap n = n := by rw [IntKind.wrap_i64]; omega

theorem ins_grow (xs ys : List PV) (i : Nat) (Y : List PV) (hy : ys.length = 1) (hi : i < xs.length) (hl : Y.length = xs.length + 1) (ht : Y.take i = xs.take i) :
    over (over Y ys i) (xs.drop i) (i + 1) = xs.take i ++ ys ++ xs.drop i := by
  have e1 : over Y ys i = xs.take i ++ ys ++ Y.drop (i + 1) := by rw [over, ht, hy]
  have hlen : (xs.take i ++ ys).length = i + 1 := by simp [Nat.min_eq_left (Nat.le_of_lt hi), hy]
  have hZl : (over Y ys i).length = xs.length + 1 := by rw [over_length (by omega)]; omega
  rw [over, List.drop_eq_nil_of_le («as» := over Y ys i) (by rw [hZl, List.length_drop]; omega), List.append_nil, e1, List.take_append_of_le_length (by omega), List.take_of_length_le (by omega)]

theorem ins_room (xs ys : List PV) (i : Nat) (hy : ys.length = 1) (hi : i < xs.length) : over (over xs (xs.drop i) (i + 1)) ys i = xs.take i ++ ys ++ xs.drop i := by
  have e1 : over xs (xs.drop i) (i + 1) = xs.take (i + 1) ++ xs.drop i := by
    have e0 : xs.drop (i + 1 + (xs.drop i).length) = [] := List.drop_eq_nil_of_le (by rw [List.length_drop]; omega)
    rw [over, e0, List.append_nil]
  rw [over, e1, hy, List.take_append_of_le_length (by simp; omega), List.take_take, Nat.min_eq_left (Nat.le_succ i), List.drop_left' (by simp; omega)]

theorem wrap_small2 {n : Int} (h : -9223372036854775808 ≤ n) (h' : n < 9223372036854775808) : IntKind.i64.wrap n = n := by rw [IntKind.wrap_i64]; omega
theorem wrap_u2 {n : Int} (h : 0 ≤ n) (h' : n < 9223372036854775808) : IntKind.u64.wrap n = n := by
  simp [IntKind.wrap, IntKind.bits, IntKind.signed]; omega

theorem wrap_small3 {n : Int} (h : -9223372036854775808 ≤ n) (h' : n < 9223372036854775808) : IntKind.i64.wrap n = n := by rw [IntKind.wrap_i64]; omega

theorem drop_of_get {α : Type} {l : List α} {i : Nat} {x : α} (h : l[i]? = some x) : l.drop i = x :: l.drop (i + 1) := by
  obtain ⟨hlt, rfl⟩ := List.getElem?_eq_some_iff.1 h
  exact List.drop_eq_getElem_cons hlt

/-- Where a search by halves ends. -/
def bsI (c : Nat → Int) (i j : Nat) : Nat := if h : i < j then (if c ((i + j) / 2) < 0 then bsI c ((i + j) / 2 + 1) j else bsI c i ((i + j) / 2)) else i
termination_by j - i
theorem bsI_le (c : Nat → Int) (i j : Nat) (h : i ≤ j) : bsI c i j ≤ j := by
  rw [bsI]
  split
  · split
    · exact bsI_le c _ j (by omega)
    · exact Nat.le_trans (bsI_le c i _ (by omega)) (by omega)
  · exact h
termination_by j - i
theorem bsI_eq (c : Nat → Int) (i j r : Nat) (h1 : i ≤ r) (h2 : r ≤ j) (h3 : ∀ m, i ≤ m → m < r → c m < 0) (h4 : ∀ m, r ≤ m → m < j → ¬ c m < 0) : bsI c i j = r := by
  rw [bsI]
  split
  · split
    · rename_i hlt hc
      have : (i + j) / 2 < r := by
        rcases Nat.lt_or_ge ((i + j) / 2) r with h | h
        · exact h
        · exact absurd hc (h4 _ h (by omega))
      exact bsI_eq c _ j r (by omega) h2 (fun m hm => h3 m (by omega)) h4
    · rename_i hlt hc
      have : r ≤ (i + j) / 2 := by
        rcases Nat.lt_or_ge ((i + j) / 2) r with h | h
        · exact absurd (h3 _ (by omega) h) hc
        · exact h
      exact bsI_eq c i _ r h1 this h3 (fun m hm hm2 => h4 m hm (by omega))
  · omega
termination_by j - i
def cAt (c : PV → Int) (xs : List PV) (m : Nat) : Int := match xs[m]? with
  | some x => c x
  | none => 0
/-- The first of which something is true. -/
theorem first_of {α : Type} (p : α → Bool) : ∀ xs : List α, ∃ r, r ≤ xs.length ∧ (∀ x ∈ xs.take r, p x = false) ∧ (∀ x, xs[r]? = some x → p x = true) ∧ (r < xs.length ↔ ∃ x ∈ xs, p x = true)
  | [] => ⟨0, by simp, by simp, by simp, by simp⟩
  | x :: xs => by
    by_cases hx : p x = true
    · exact ⟨0, by simp, by simp, by simp [hx], by simp [hx]⟩
    · obtain ⟨r, h1, h2, h3, h4⟩ := first_of p xs
      refine ⟨r + 1, by simpa using h1, ?_, by simpa using h3, ?_⟩
      · intro y hy
        simp only [List.take_succ_cons, List.mem_cons] at hy
        rcases hy with rfl | hy
        · simpa using hx
        · exact h2 y hy
      · simp only [List.length_cons, Nat.add_lt_add_iff_right, h4, List.mem_cons]
        constructor
        · rintro ⟨y, hy, hp⟩
          exact ⟨y, .inr hy, hp⟩
        · rintro ⟨y, rfl | hy, hp⟩
          · exact absurd hp hx
          · exact ⟨y, hy, hp⟩
end Go.Proofs.Ytofmiaecjnfeaaa
set_option linter.unusedVariables false
set_option linter.unusedSimpArgs false
set_option maxRecDepth 8000
namespace Go.Proofs.Ytofmiaecjnfeaaa
open Nat renaming reduceAdd → uA, reduceLT → uB, reduceEqDiff → uC, reduceLeDiff → uD, reduceSub → uE, reduceMul → uF
open Bool renaming false_eq_true → yA, true_eq_false → yB
open Go Go.Proofs Go.Proofs.YtofmiaecjnfeaaaVm Go.Proofs.Ytofmiaecjnfeaaa.Ty

structure Note where
  kind : Int
  key : List UInt8
  value : List UInt8
  n : Int
  deriving DecidableEq
def Note.pv (x : Note) : PV := .agg [.int .i64 x.kind, .str x.key, .str x.value, .int .u64 x.n]
/-- Is it a note? -/
def Note.ok (x : Note) : Prop := x.key.length ≤ 16 ∧ x.value.length ≤ 32 ∧ ((x.kind = 1 ∧ x.n = 0) ∨ (x.kind = 2 ∧ x.n = 0 ∧ x.value = []) ∨ (x.kind = 3 ∧ x.value = []))
instance Note.instOk (x : Note) : Decidable x.ok := by unfold Note.ok; infer_instance

set_option maxHeartbeats 4000000 in
theorem note_Right (x : Note) : Ct Try.prog 24 (YtofmiaecjnfeaaaVm.ops [x.pv]) (.vals [.bool (decide x.ok)]) := by
  refine Ct.of_V Try.func24 rfl (by simp [YtofmiaecjnfeaaaVm.ops, Try.f24]) ?_
  refine V.exec 400 ?_
  simp +contextual (maxSteps := 1000000) only [go_sem, ↓reduceIte, reduceCtorEq, yA, yB, uA, uB, uC, uD, uE, uF, Try.f24, Note.pv]
  simp only [Option.some.injEq, List.cons.injEq, PV.bool.injEq, and_true]
  (repeat' (first | (intro _) | (refine ⟨by kernel_rfl, ?_⟩) | (apply And.intro)))
  all_goals grind [Note.ok]

theorem wrap_u64 {n : Int} (h : 0 ≤ n) (h' : n < 18446744073709551616) : IntKind.u64.wrap n = n := by
  simp [IntKind.wrap, IntKind.bits, IntKind.signed]; omega
/-- Bytes, as a number. -/
def beN (l : List UInt8) : Int := l.foldl (fun n b => n * 256 + (b.toNat : Int)) 0
theorem beN_snoc (l : List UInt8) (b : UInt8) : beN (l ++ [b]) = beN l * 256 + (b.toNat : Int) := by simp [beN]
theorem beN_acc : ∀ (l : List UInt8) (a : Int), 0 ≤ a → 0 ≤ l.foldl (fun n b => n * 256 + (b.toNat : Int)) a ∧ l.foldl (fun n b => n * 256 + (b.toNat : Int)) a < (a + 1) * 256 ^ l.length
  | [], a, h => by simp; omega
  | b :: r, a, h => by
    have hb := b.toNat_lt
    obtain ⟨h1, h2⟩ := beN_acc r (a * 256 + (b.toNat : Int)) (by omega)
    refine ⟨h1, Int.lt_of_lt_of_le h2 ?_⟩
    rw [List.length_cons, Int.pow_succ, Int.mul_comm (256 ^ r.length), ← Int.mul_assoc]
    exact Int.mul_le_mul_of_nonneg_right (by omega) (Int.le_of_lt (Int.pow_pos (by decide)))
theorem beN_nonneg (l : List UInt8) : 0 ≤ beN l := (beN_acc l 0 (by decide)).1
theorem beN_lt (l : List UInt8) : beN l < 256 ^ l.length := by have := (beN_acc l 0 (by decide)).2; simpa [beN] using this
theorem or_byte {n : Int} (h0 : 0 ≤ n) (h1 : n < 72057594037927936) (b : UInt8) :
    IntKind.u64.wrap (orI .u64 (n * 256) (b.toNat : Int)) = n * 256 + (b.toNat : Int) := by
  obtain ⟨m, rfl⟩ : ∃ m : Nat, n = m := ⟨n.toNat, by omega⟩
  have hb := b.toNat_lt
  have e1 : BitVec.ofInt 64 ((m : Int) * 256) = BitVec.ofNat 64 (m * 256) := by
    rw [show (m : Int) * 256 = ((m * 256 : Nat) : Int) by omega, BitVec.ofInt_natCast]
  have e2 : BitVec.ofInt 64 (b.toNat : Int) = BitVec.ofNat 64 b.toNat := by
    rw [BitVec.ofInt_natCast]
  have e3 : (BitVec.ofNat 64 (m * 256) ||| BitVec.ofNat 64 b.toNat : BitVec 64).toNat = m * 256 + b.toNat := by
    rw [BitVec.toNat_or, BitVec.toNat_ofNat, BitVec.toNat_ofNat, Nat.mod_eq_of_lt (by omega), Nat.mod_eq_of_lt (by omega)]
    have := Nat.shiftLeft_add_eq_or_of_lt (b := b.toNat) (i := 8) (by omega) m
    rw [Nat.shiftLeft_eq] at this
    exact this.symm
  show IntKind.u64.wrap ((BitVec.ofInt 64 ((m : Int) * 256) ||| BitVec.ofInt 64 (b.toNat : Int) : BitVec 64).toNat : Int) = _
  rw [e1, e2, e3]
  have h3 : (0 : Int) ≤ ((m * 256 + b.toNat : Nat) : Int) := by omega
  have h4 : ((m * 256 + b.toNat : Nat) : Int) < 18446744073709551616 := by omega
  rw [IntKind.wrap]
  simp [IntKind.bits, IntKind.signed]
  omega
/-- A number, as so many bytes. -/
def beB (n : Int) (k : Nat) : List UInt8 := (List.range k).map fun j => UInt8.ofNat (n / 256 ^ (k - 1 - j) % 256).toNat
theorem beB_len (n : Int) (k : Nat) : (beB n k).length = k := by simp [beB]
theorem beB_succ (n : Int) (k : Nat) : beB n (k + 1) = UInt8.ofNat (n / 256 ^ k % 256).toNat :: beB n k := by
  unfold beB
  rw [List.range_succ_eq_map, List.map_cons, List.map_map]
  congr 1
  apply List.map_congr_left
  intro j hj
  have := List.mem_range.1 hj
  simp only [Function.comp]
  rw [show k + 1 - 1 - (j + 1) = k - 1 - j by omega]
end Go.Proofs.Ytofmiaecjnfeaaa
set_option linter.unusedVariables false
set_option linter.unusedSimpArgs false
set_option maxRecDepth 8000
namespace Go.Proofs.Ytofmiaecjnfeaaa
open Nat renaming reduceAdd → uA, reduceLT → uB, reduceEqDiff → uC, reduceLeDiff → uD, reduceSub → uE, reduceMul → uF
open Bool renaming false_eq_true → yA, true_eq_false → yB
open Go Go.Proofs Go.Proofs.YtofmiaecjnfeaaaVm Go.Proofs.Ytofmiaecjnfeaaa.Ty

theorem pack_fits (n : Int) : Ct Try.prog 94 (YtofmiaecjnfeaaaVm.ops [.int .i64 n]) (.vals [.bool (decide (1 ≤ n ∧ n ≤ 8))]) := by
  refine Ct.of_V Try.func94 rfl (by simp [YtofmiaecjnfeaaaVm.ops, Try.f94]) ?_
  refine V.exec 400 ?_
  simp +contextual (maxSteps := 1000000) only [go_sem, ↓reduceIte, reduceCtorEq, yA, yB, uA, uB, uC, uD, uE, uF, Try.f94]
  simp only [Option.some.injEq, List.cons.injEq, PV.bool.injEq, and_true]
  grind

set_option maxHeartbeats 4000000 in
theorem pack_Take (s : List UInt8) (hl : s.length = 8) : Ct Try.prog 95 (YtofmiaecjnfeaaaVm.ops [.str s, .int .i64 8]) (.vals [.int .u64 (beN s), .str [], .int .i64 0]) := by
  refine Ct.of_V Try.func95 rfl (by simp [YtofmiaecjnfeaaaVm.ops, Try.f95]) ?_
  refine V.exec 400 ?_
  simp +contextual (maxSteps := 1000000) only [go_sem, ↓reduceIte, reduceCtorEq, yA, yB, uA, uB, uC, uD, uE, uF, Try.f95]
  refine V.call rfl rfl (by simp [dOK]) ⟨94, [], by simp only [go_sem, ↓reduceIte, reduceCtorEq, yA, yB, uA, uB, uC, uD, uE, uF], ⟨_, rfl, rfl, rfl⟩, .inl ⟨[.int .i64 8], _, .inl (by simp only [go_sem, ↓reduceIte, reduceCtorEq, yA, yB, uA, uB, uC, uD, uE, uF]), pack_fits 8, .inl ⟨_, rfl, rfl, rfl, rfl⟩⟩⟩ ?_
  refine V.exec 400 ?_
  have hd : (1 : Int) ≤ 8 ∧ (8 : Int) ≤ 8 := by decide
  have hl' : ¬ (s.length : Int) < 8 := by omega
  simp +contextual (maxSteps := 1000000) only [go_sem, ↓reduceIte, reduceCtorEq, yA, yB, uA, uB, uC, uD, uE, uF, hd, hl', and_true]
  refine V.loop (fun m ls os => ∃ (i : Nat), i ≤ 8 ∧ m = 8 - i ∧
        ls = [(0, .val (.str s)), (1, .val (.int .i64 8)), (7, .val (.int .u64 (beN (s.take i)))), (18, .val (.int .i64 8)), (19, .val (.int .i64 i))] ∧ os = []) 0 8
      [(0, .val (.str s)), (1, .val (.int .i64 8)), (7, .val (.int .u64 0)), (18, .val (.int .i64 8)), (19, .val (.int .i64 0))] [] []
      ⟨0, Nat.zero_le _, rfl, rfl, rfl⟩ (by simp only [go_sem, ↓reduceIte, reduceCtorEq, yA, yB, uA, uB, uC, uD, uE, uF]) ?_
  rintro m ls os ⟨i, hi, rfl, rfl, rfl⟩
  refine V.exec 400 ?_
  by_cases hlt : i < 8
  · have hlt' : (i : Int) < 8 := by omega
    obtain ⟨x, hx⟩ : ∃ x, s[i]? = some x := ⟨_, List.getElem?_eq_getElem (by omega)⟩
    have hw : IntKind.i64.wrap ((i : Int) + 1) = ((i + 1 : Nat) : Int) := by rw [wrap_small3] <;> omega
    have hb0 := beN_nonneg (s.take i)
    have hb1 : beN (s.take i) < 72057594037927936 := by
      have h1 := beN_lt (s.take i)
      have h2 : (s.take i).length ≤ 7 := by simp; omega
      have h3 : ∀ k : Fin 8, (256 : Int) ^ k.val ≤ 72057594037927936 := by decide
      have := h3 ⟨(s.take i).length, by omega⟩
      exact Int.lt_of_lt_of_le h1 this
    have hsn : beN (s.take (i + 1)) = beN (s.take i) * 256 + (x.toNat : Int) := by rw [List.take_add_one, hx]; exact beN_snoc _ _
    have hsh : IntKind.u64.wrap (beN (s.take i) * 2 ^ min (Int.toNat 8) 64) = beN (s.take i) * 256 := by
      have : (2 : Int) ^ min (Int.toNat 8) 64 = 256 := by decide
      rw [this, wrap_u64] <;> omega
    have hcv : IntKind.u64.wrap (x.toNat : Int) = (x.toNat : Int) := by have := x.toNat_lt; rw [wrap_u64] <;> omega
    have hor := or_byte hb0 hb1 x
    have h8 : (0 : Int) ≤ 8 := by decide
    simp +contextual (maxSteps := 1000000) only [go_sem, ↓reduceIte, reduceCtorEq, yA, yB, uA, uB, uC, uD, uE, uF, hlt', hx, hw, hsh, hcv, hor, h8, ← hsn]
    exact ⟨8 - (i + 1), _, [], [], by omega, ⟨i + 1, by omega, rfl, rfl, rfl⟩, by simp only [go_sem, ↓reduceIte, reduceCtorEq, yA, yB, uA, uB, uC, uD, uE, uF]⟩
  · have hlt' : ¬ (i : Int) < 8 := by omega
    obtain rfl : i = 8 := by omega
    simp +contextual (maxSteps := 1000000) only [go_sem, ↓reduceIte, reduceCtorEq, yA, yB, uA, uB, uC, uD, uE, uF, hlt']
    refine ⟨⟨by decide, by omega⟩, by kernel_rfl, ?_⟩
    rw [List.take_of_length_le (by omega), List.drop_eq_nil_of_le (by simp; omega)]

def numV (v : List UInt8) : Int := if v.length = 8 then beN v else 0
theorem note_Number (v : List UInt8) : Ct Try.prog 79 (YtofmiaecjnfeaaaVm.ops [.str v]) (.vals [.int .u64 (numV v)]) := by
  refine Ct.of_V Try.func79 rfl (by simp [YtofmiaecjnfeaaaVm.ops, Try.f79]) ?_
  refine V.exec 400 ?_
  simp +contextual (maxSteps := 1000000) only [go_sem, ↓reduceIte, reduceCtorEq, yA, yB, uA, uB, uC, uD, uE, uF, Try.f79]
  by_cases h : v.length = 8
  · have h' : (v.length : Int) = 8 := by omega
    simp +contextual (maxSteps := 1000000) only [go_sem, ↓reduceIte, reduceCtorEq, yA, yB, uA, uB, uC, uD, uE, uF, h', not_true_eq_false]
    refine V.call rfl rfl (by simp [dOK]) ⟨95, [], by simp only [go_sem, ↓reduceIte, reduceCtorEq, yA, yB, uA, uB, uC, uD, uE, uF], ⟨_, rfl, rfl, rfl⟩, .inl ⟨[.str v, .int .i64 8], _, .inl (by simp only [go_sem, ↓reduceIte, reduceCtorEq, yA, yB, uA, uB, uC, uD, uE, uF]), pack_Take v h, .inr (.inl ⟨_, rfl, rfl, rfl⟩)⟩⟩ ?_
    refine V.exec 400 ?_
    simp +contextual (maxSteps := 1000000) only [go_sem, ↓reduceIte, reduceCtorEq, yA, yB, uA, uB, uC, uD, uE, uF]
    simp [numV, h]
  · have h' : ¬ (v.length : Int) = 8 := by omega
    simp +contextual (maxSteps := 1000000) only [go_sem, ↓reduceIte, reduceCtorEq, yA, yB, uA, uB, uC, uD, uE, uF, h']
    simp [numV, h]

def numRow (n : Int) (i : Nat) : List PV := (List.range 8).map fun j => if 7 - j < i then PV.int .u8 (n / 256 ^ (7 - j) % 256) else PV.int .u8 0
theorem numRow_len (n : Int) (i : Nat) : (numRow n i).length = 8 := by simp [numRow]
theorem numRow_zero (n : Int) : numRow n 0 = List.replicate 8 (PV.int .u8 0) := by rfl
theorem numRow_set (n : Int) (i : Nat) (hi : i < 8) : (numRow n i).set (7 - i) (PV.int .u8 (n / 256 ^ i % 256)) = numRow n (i + 1) := by
  apply List.ext_getElem?
  intro j
  by_cases hj : j < 8
  · rw [List.getElem?_set]
    by_cases he : 7 - i = j
    · subst he
      have e : 7 - (7 - i) = i := by omega
      have e2 : 7 - i < 8 := by omega
      simp [numRow, e, e2, hi]
    · simp [he, numRow, hj]
      have : (7 - j < i) ↔ (7 - j < i + 1) := by omega
      simp [this]
  · rw [List.getElem?_eq_none (by simp [numRow]; omega), List.getElem?_eq_none (by simp [numRow]; omega)]
theorem bytesOf_map : ∀ (l : List Int), bytesOf (l.map (PV.int .u8)) = some (l.map fun n => UInt8.ofNat n.toNat)
  | [] => rfl
  | n :: l => by simp only [List.map_cons, bytesOf, bytesOf_map l]
theorem numRow_bytes (n : Int) : bytesOf (numRow n 8) = some (beB n 8) := by
  have e : numRow n 8 = ((List.range 8).map fun j => n / 256 ^ (7 - j) % 256).map (PV.int .u8) := by
    unfold numRow
    rw [List.map_map]
    apply List.map_congr_left
    intro j hj
    have := List.mem_range.1 hj
    rw [if_pos (by omega)]; rfl
  rw [e, bytesOf_map]
  simp [beB]

set_option maxHeartbeats 4000000 in
theorem pack_Num (n : Int) (h0 : 0 ≤ n) : Ct Try.prog 78 (YtofmiaecjnfeaaaVm.ops [.int .u64 n, .int .i64 8]) (.vals [.str (beB n 8), .int .i64 0]) := by
  refine Ct.of_V Try.func78 rfl (by simp [YtofmiaecjnfeaaaVm.ops, Try.f78]) ?_
  refine V.exec 400 ?_
  simp +contextual (maxSteps := 1000000) only [go_sem, ↓reduceIte, reduceCtorEq, yA, yB, uA, uB, uC, uD, uE, uF, Try.f78]
  refine V.call rfl rfl (by simp [dOK]) ⟨94, [], by simp only [go_sem, ↓reduceIte, reduceCtorEq, yA, yB, uA, uB, uC, uD, uE, uF], ⟨_, rfl, rfl, rfl⟩, .inl ⟨[.int .i64 8], _, .inl (by simp only [go_sem, ↓reduceIte, reduceCtorEq, yA, yB, uA, uB, uC, uD, uE, uF]), pack_fits 8, .inl ⟨_, rfl, rfl, rfl, rfl⟩⟩⟩ ?_
  refine V.exec 400 ?_
  have hd : (1 : Int) ≤ 8 ∧ (8 : Int) ≤ 8 := by decide
  have hl' : ¬ (8 : Int) < 8 := by decide
  simp +contextual (maxSteps := 1000000) only [go_sem, ↓reduceIte, reduceCtorEq, yA, yB, uA, uB, uC, uD, uE, uF, hd, hl', and_true]
  refine ⟨⟨by decide, by decide, by decide⟩, ?_⟩
  refine V.loop (fun m ls os => ∃ (i : Nat), i ≤ 8 ∧ m = 8 - i ∧
        ls = [(0, .val (.int .u64 n)), (1, .val (.int .i64 8)), (6, .ref 0), (25, .val (.int .i64 8)), (26, .val (.int .i64 i))] ∧ os = [.row 5 (numRow n i)]) 1 8
      [(0, .val (.int .u64 n)), (1, .val (.int .i64 8)), (6, .ref 0), (25, .val (.int .i64 8)), (26, .val (.int .i64 0))] [.row 5 (numRow n 0)] [some 19]
      ⟨0, Nat.zero_le _, rfl, rfl, rfl⟩ (by simp only [go_sem, ↓reduceIte, reduceCtorEq, yA, yB, uA, uB, uC, uD, uE, uF, numRow_zero]; exact ⟨rfl, rfl⟩) ?_
  rintro m ls os ⟨i, hi, rfl, rfl, rfl⟩
  refine V.exec 400 ?_
  by_cases hlt : i < 8
  · have hlt' : (i : Int) < 8 := by omega
    have hw : IntKind.i64.wrap ((i : Int) + 1) = ((i + 1 : Nat) : Int) := by rw [wrap_small3] <;> omega
    have hw1 : IntKind.i64.wrap (8 * (i : Int)) = ((8 * i : Nat) : Int) := by rw [wrap_small3] <;> omega
    have hw2 : IntKind.i64.wrap (8 - 1) = 7 := by decide
    have hw3 : IntKind.i64.wrap (7 - (i : Int)) = ((7 - i : Nat) : Int) := by rw [wrap_small3] <;> omega
    have hsr : n / 2 ^ min (8 * i) 64 = n / 256 ^ i := by
      rw [Nat.min_eq_left (by omega), Int.pow_mul]; rfl
    have hcv : IntKind.u8.wrap (n / 256 ^ i) = n / 256 ^ i % 256 := by simp [IntKind.wrap, IntKind.bits, IntKind.signed]
    have hlen := numRow_len n i
    have hz : (numRow n i)[7 - i]? = some (PV.int .u8 0) := by
      have e : 7 - (7 - i) = i := by omega
      have e2 : 7 - i < 8 := by omega
      simp [numRow, e, e2]
    have hset := numRow_set n i hlt
    simp +contextual (maxSteps := 1000000) only [go_sem, ↓reduceIte, reduceCtorEq, yA, yB, uA, uB, uC, uD, uE, uF, hlt', hw, hw1, hw2, hw3, hsr, hcv, hlen, hz, hset]
    exact ⟨8 - (i + 1), _, _, [some 0], by omega, ⟨i + 1, by omega, rfl, rfl, rfl⟩, by simp only [go_sem, ↓reduceIte, reduceCtorEq, yA, yB, uA, uB, uC, uD, uE, uF]⟩
  · have hlt' : ¬ (i : Int) < 8 := by omega
    obtain rfl : i = 8 := by omega
    simp +contextual (maxSteps := 1000000) only [go_sem, ↓reduceIte, reduceCtorEq, yA, yB, uA, uB, uC, uD, uE, uF, hlt', numRow_bytes]

/-- What becomes of a key by one note. -/
def doneOne (st : List UInt8 × Bool) (x : Note) : List UInt8 × Bool :=
  if x.kind = 1 then (x.value, true) else if x.kind = 2 then ([], false) else if x.kind = 3 then (beB (IntKind.u64.wrap (numV st.1 + x.n)) 8, true) else st
def doneV (v : List UInt8) (has : Bool) (l : List Note) : List UInt8 × Bool := l.foldl doneOne (if has = true then v else [], has)

theorem u64_wrap_nonneg (x : Int) : 0 ≤ IntKind.u64.wrap x := by simp [IntKind.wrap, IntKind.bits, IntKind.signed]; omega

set_option maxRecDepth 4000 in
set_option maxHeartbeats 8000000 in
theorem note_Done (v : List UInt8) (has : Bool) (l : List Note) (hl : l.length ≤ 1000000) : Ct Try.prog 54 (YtofmiaecjnfeaaaVm.ops [.str v, .bool (decide (has = true)), .row (l.map Note.pv)])
    (.vals [.str (doneV v has l).1, .bool (decide ((doneV v has l).2 = true))]) := by
  generalize hD : doneV v has l = D
  unfold doneV at hD
  refine Ct.of_V Try.func54 rfl (by simp [YtofmiaecjnfeaaaVm.ops, Try.f54]) ?_
  refine V.exec 400 ?_
  cases has
  all_goals simp only [Bool.false_eq_true, ↓reduceIte] at hD
  all_goals simp +contextual (maxSteps := 1000000) only [go_sem, ↓reduceIte, reduceCtorEq, yA, yB, uA, uB, uC, uD, uE, uF, Try.f54, decide_true, decide_false]
  all_goals refine V.loop (fun m ls os => ∃ (i : Nat) (u : List UInt8) (h : Bool), i ≤ l.length ∧ m = l.length - i ∧ (l.drop i).foldl doneOne (u, h) = D ∧ ls = [(0, .val (.str u)), (1, .val (.bool (decide (h = true)))), (14, .val (.row (l.map Note.pv))), (15, .val (.int .i64 l.length)), (16, .val (.int .i64 i))] ∧ os = []) 0 l.length _ _ [] ⟨0, _, _, Nat.zero_le _, rfl, hD, rfl, rfl⟩ (by simp only [go_sem, ↓reduceIte, reduceCtorEq, yA, yB, uA, uB, uC, uD, uE, uF, decide_true, decide_false]; try rfl) ?_
  all_goals rintro m ls os ⟨i, u, h, hi, rfl, hf, rfl, rfl⟩
  all_goals refine V.exec 400 ?_
  all_goals by_cases hlt : i < l.length
  case neg => 
    have hlt' : ¬ (i : Int) < (l.length : Int) := by omega
    have hd : l.drop i = [] := List.drop_eq_nil_of_le (by omega)
    rw [hd, List.foldl_nil] at hf
    subst hf
    simp +contextual (maxSteps := 1000000) only [go_sem, ↓reduceIte, reduceCtorEq, yA, yB, uA, uB, uC, uD, uE, uF, hlt']
  case neg => 
    have hlt' : ¬ (i : Int) < (l.length : Int) := by omega
    have hd : l.drop i = [] := List.drop_eq_nil_of_le (by omega)
    rw [hd, List.foldl_nil] at hf
    subst hf
    simp +contextual (maxSteps := 1000000) only [go_sem, ↓reduceIte, reduceCtorEq, yA, yB, uA, uB, uC, uD, uE, uF, hlt']
  all_goals
    have hlt' : (i : Int) < (l.length : Int) := by omega
    obtain ⟨x, hx⟩ : ∃ x, l[i]? = some x := ⟨_, List.getElem?_eq_getElem hlt⟩
    have hw : IntKind.i64.wrap ((i : Int) + 1) = ((i + 1 : Nat) : Int) := by rw [wrap_small3] <;> omega
    rw [drop_of_get hx, List.foldl_cons] at hf
    have h21 : ¬ (2 : Int) = 1 := by decide
    have h31 : ¬ (3 : Int) = 1 := by decide
    have h32 : ¬ (3 : Int) = 2 := by decide
    by_cases h1 : x.kind = 1
    · have e : doneOne (u, h) x = (x.value, true) := by simp [doneOne, h1]
      rw [e] at hf
      simp +contextual (maxSteps := 1000000) only [go_sem, ↓reduceIte, reduceCtorEq, yA, yB, uA, uB, uC, uD, uE, uF, hlt', hx, Note.pv, hw, h1]
      exact ⟨l.length - (i + 1), _, [], [], by omega, ⟨i + 1, _, _, by omega, rfl, hf, rfl, rfl⟩, by simp only [go_sem, ↓reduceIte, reduceCtorEq, yA, yB, uA, uB, uC, uD, uE, uF, decide_true]⟩
    · by_cases h2 : x.kind = 2
      · have e : doneOne (u, h) x = ([], false) := by simp [doneOne, h2]
        rw [e] at hf
        simp +contextual (maxSteps := 1000000) only [go_sem, ↓reduceIte, reduceCtorEq, yA, yB, uA, uB, uC, uD, uE, uF, hlt', hx, Note.pv, hw, h2, h21]
        exact ⟨l.length - (i + 1), _, [], [], by omega, ⟨i + 1, _, _, by omega, rfl, hf, rfl, rfl⟩, by simp only [go_sem, ↓reduceIte, reduceCtorEq, yA, yB, uA, uB, uC, uD, uE, uF, decide_false]⟩
      · by_cases h3 : x.kind = 3
        · have e : doneOne (u, h) x = (beB (IntKind.u64.wrap (numV u + x.n)) 8, true) := by simp [doneOne, h3]
          rw [e] at hf
          have hn := pack_Num _ (u64_wrap_nonneg (numV u + x.n))
          simp +contextual (maxSteps := 1000000) only [go_sem, ↓reduceIte, reduceCtorEq, yA, yB, uA, uB, uC, uD, uE, uF, hlt', hx, Note.pv, hw, h3, h31, h32]
          refine DV.call [] [] (by simp only [go_sem, ↓reduceIte, reduceCtorEq, yA, yB, uA, uB, uC, uD, uE, uF]) (by simp [dOK]) ⟨79, [], by simp only [go_sem, ↓reduceIte, reduceCtorEq, yA, yB, uA, uB, uC, uD, uE, uF], ⟨_, rfl, rfl, rfl⟩, .inl ⟨[.str u], _, .inl (by simp only [go_sem, ↓reduceIte, reduceCtorEq, yA, yB, uA, uB, uC, uD, uE, uF]), note_Number u, .inl ⟨_, rfl, rfl, rfl, rfl⟩⟩⟩ (by simp only [go_sem, ↓reduceIte, reduceCtorEq, yA, yB, uA, uB, uC, uD, uE, uF]) (by simp only [go_sem, ↓reduceIte, reduceCtorEq, yA, yB, uA, uB, uC, uD, uE, uF]) (by simp only [go_sem, ↓reduceIte, reduceCtorEq, yA, yB, uA, uB, uC, uD, uE, uF]) (by simp) ?_
          refine DV.exec 400 ?_
          simp +contextual (maxSteps := 1000000) only [go_sem, ↓reduceIte, reduceCtorEq, yA, yB, uA, uB, uC, uD, uE, uF]
          refine DV.call [] [] (by simp only [go_sem, ↓reduceIte, reduceCtorEq, yA, yB, uA, uB, uC, uD, uE, uF]) (by simp [dOK]) ⟨78, [], by simp only [go_sem, ↓reduceIte, reduceCtorEq, yA, yB, uA, uB, uC, uD, uE, uF], ⟨_, rfl, rfl, rfl⟩, .inl ⟨[.int .u64 (IntKind.u64.wrap (numV u + x.n)), .int .i64 8], _, .inl (by simp only [go_sem, ↓reduceIte, reduceCtorEq, yA, yB, uA, uB, uC, uD, uE, uF]), hn, .inr (.inl ⟨_, rfl, rfl, rfl⟩)⟩⟩ (by simp only [go_sem, ↓reduceIte, reduceCtorEq, yA, yB, uA, uB, uC, uD, uE, uF]) (by simp only [go_sem, ↓reduceIte, reduceCtorEq, yA, yB, uA, uB, uC, uD, uE, uF]) (by simp only [go_sem, ↓reduceIte, reduceCtorEq, yA, yB, uA, uB, uC, uD, uE, uF]) (by simp) ?_
          refine DV.exec 400 ?_
          simp +contextual (maxSteps := 1000000) only [go_sem, ↓reduceIte, reduceCtorEq, yA, yB, uA, uB, uC, uD, uE, uF, hw]
          (repeat' (first | (intro _) | (refine ⟨by kernel_rfl, ?_⟩) | (apply And.intro)))
          exact ⟨l.length - (i + 1), _, [], [], by omega, ⟨i + 1, _, _, by omega, rfl, hf, rfl, rfl⟩, by simp only [go_sem, ↓reduceIte, reduceCtorEq, yA, yB, uA, uB, uC, uD, uE, uF, decide_true]⟩
        · have e : doneOne (u, h) x = (u, h) := by simp [doneOne, h1, h2, h3]
          rw [e] at hf
          simp +contextual (maxSteps := 1000000) only [go_sem, ↓reduceIte, reduceCtorEq, yA, yB, uA, uB, uC, uD, uE, uF, hlt', hx, Note.pv, hw, h1, h2, h3]
          exact ⟨l.length - (i + 1), _, [], [], by omega, ⟨i + 1, _, _, by omega, rfl, hf, rfl, rfl⟩, by simp only [go_sem, ↓reduceIte, reduceCtorEq, yA, yB, uA, uB, uC, uD, uE, uF]⟩
end Go.Proofs.Ytofmiaecjnfeaaa
set_option linter.unusedVariables false
set_option linter.unusedSimpArgs false
set_option maxRecDepth 8000
namespace Go.Proofs.Ytofmiaecjnfeaaa
open Nat renaming reduceAdd → uA, reduceLT → uB, reduceEqDiff → uC, reduceLeDiff → uD, reduceSub → uE, reduceMul → uF
open Bool renaming false_eq_true → yA, true_eq_false → yB
open Go Go.Proofs Go.Proofs.YtofmiaecjnfeaaaVm Go.Proofs.Ytofmiaecjnfeaaa.Ty

/-- Two notes as one. -/
def bothV (a b : Note) : Note :=
  if b.kind = 1 ∨ b.kind = 2 then b
  else if b.kind = 3 then
    (if a.kind = 1 then ⟨1, b.key, (doneOne (a.value, true) b).1, 0⟩
     else if a.kind = 2 then ⟨1, b.key, (doneOne ([], false) b).1, 0⟩
     else if a.kind = 3 then { b with n := IntKind.u64.wrap (b.n + a.n) } else b)
  else { a with key := b.key }
theorem doneV_one_t (v : List UInt8) (b : Note) : doneV v true [b] = doneOne (v, true) b := rfl
theorem doneV_one_f (v : List UInt8) (b : Note) : doneV v false [b] = doneOne ([], false) b := rfl

set_option maxRecDepth 4000 in
set_option maxHeartbeats 8000000 in
theorem note_Both (a b : Note) : Ct Try.prog 70 (YtofmiaecjnfeaaaVm.ops [a.pv, b.pv]) (.vals [(bothV a b).pv]) := by
  have h12 : ¬ (1 : Int) = 2 := by decide
  have h13 : ¬ (1 : Int) = 3 := by decide
  have h21 : ¬ (2 : Int) = 1 := by decide
  have h23 : ¬ (2 : Int) = 3 := by decide
  have h31 : ¬ (3 : Int) = 1 := by decide
  have h32 : ¬ (3 : Int) = 2 := by decide
  refine Ct.of_V Try.func70 rfl (by simp [YtofmiaecjnfeaaaVm.ops, Try.f70]) ?_
  refine V.exec 400 ?_
  by_cases b1 : b.kind = 1
  · have e : bothV a b = b := by simp [bothV, b1]
    rw [e]
    simp +contextual (maxSteps := 1000000) only [go_sem, ↓reduceIte, reduceCtorEq, yA, yB, uA, uB, uC, uD, uE, uF, Try.f70, Note.pv, b1, h12, h13]
  · by_cases b2 : b.kind = 2
    · have e : bothV a b = b := by simp [bothV, b2]
      rw [e]
      simp +contextual (maxSteps := 1000000) only [go_sem, ↓reduceIte, reduceCtorEq, yA, yB, uA, uB, uC, uD, uE, uF, Try.f70, Note.pv, b2, h21, h23]
    · by_cases b3 : b.kind = 3
      · by_cases a1 : a.kind = 1
        · have e : bothV a b = ⟨1, b.key, (doneOne (a.value, true) b).1, 0⟩ := by simp [bothV, b3, a1]
          have c := note_Done a.value true [b] (by simp)
          rw [doneV_one_t] at c
          rw [e]
          simp +contextual (maxSteps := 1000000) only [go_sem, ↓reduceIte, reduceCtorEq, yA, yB, uA, uB, uC, uD, uE, uF, Try.f70, Note.pv, b3, h31, h32, a1, h12]
          refine V.call rfl rfl (by simp [dOK]) ⟨54, [], by simp only [go_sem, ↓reduceIte, reduceCtorEq, yA, yB, uA, uB, uC, uD, uE, uF], ⟨_, rfl, rfl, rfl⟩, .inl ⟨[.str a.value, .bool (decide (true = true)), .row ([b].map Note.pv)], _, .inl (by simp only [go_sem, ↓reduceIte, reduceCtorEq, yA, yB, uA, uB, uC, uD, uE, uF, Note.pv, List.map_cons, List.map_nil, decide_true, b3]), c, .inr (.inl ⟨_, rfl, rfl, rfl⟩)⟩⟩ ?_
          refine V.exec 400 ?_
          simp +contextual (maxSteps := 1000000) only [go_sem, ↓reduceIte, reduceCtorEq, yA, yB, uA, uB, uC, uD, uE, uF]
        · by_cases a2 : a.kind = 2
          · have e : bothV a b = ⟨1, b.key, (doneOne ([], false) b).1, 0⟩ := by simp [bothV, b3, a2]
            have c := note_Done a.value false [b] (by simp)
            rw [doneV_one_f] at c
            rw [e]
            simp +contextual (maxSteps := 1000000) only [go_sem, ↓reduceIte, reduceCtorEq, yA, yB, uA, uB, uC, uD, uE, uF, Try.f70, Note.pv, b3, h31, h32, a2, h21]
            refine V.call rfl rfl (by simp [dOK]) ⟨54, [], by simp only [go_sem, ↓reduceIte, reduceCtorEq, yA, yB, uA, uB, uC, uD, uE, uF], ⟨_, rfl, rfl, rfl⟩, .inl ⟨[.str a.value, .bool (decide (false = true)), .row ([b].map Note.pv)], _, .inl (by simp only [go_sem, ↓reduceIte, reduceCtorEq, yA, yB, uA, uB, uC, uD, uE, uF, Note.pv, List.map_cons, List.map_nil, decide_false, b3]), c, .inr (.inl ⟨_, rfl, rfl, rfl⟩)⟩⟩ ?_
            refine V.exec 400 ?_
            simp +contextual (maxSteps := 1000000) only [go_sem, ↓reduceIte, reduceCtorEq, yA, yB, uA, uB, uC, uD, uE, uF]
          · by_cases a3 : a.kind = 3
            · have e : bothV a b = { b with n := IntKind.u64.wrap (b.n + a.n) } := by simp [bothV, b3, a3]
              rw [e]
              simp +contextual (maxSteps := 1000000) only [go_sem, ↓reduceIte, reduceCtorEq, yA, yB, uA, uB, uC, uD, uE, uF, Try.f70, Note.pv, b3, h31, h32, a3]
            · have e : bothV a b = b := by simp [bothV, b3, a1, a2, a3]
              rw [e]
              simp +contextual (maxSteps := 1000000) only [go_sem, ↓reduceIte, reduceCtorEq, yA, yB, uA, uB, uC, uD, uE, uF, Try.f70, Note.pv, b3, h31, h32, a1, a2, a3]
      · have e : bothV a b = { a with key := b.key } := by simp [bothV, b1, b2, b3]
        rw [e]
        simp +contextual (maxSteps := 1000000) only [go_sem, ↓reduceIte, reduceCtorEq, yA, yB, uA, uB, uC, uD, uE, uF, Try.f70, Note.pv, b1, b2, b3]
end Go.Proofs.Ytofmiaecjnfeaaa
set_option linter.unusedVariables false
set_option linter.unusedSimpArgs false
set_option maxRecDepth 8000
namespace Go.Proofs.Ytofmiaecjnfeaaa
open Go Go.Proofs Go.Proofs.YtofmiaecjnfeaaaVm

section
variable {α : Type} (key : α → List UInt8)
/-- What is sorted by a key. -/
def gSorted (l : List α) : Prop := l.Pairwise fun a b => slt (key a) (key b)
def gBelow (k : List UInt8) : List α → Nat
  | [] => 0
  | p :: r => if slt (key p) k then gBelow k r + 1 else 0
def gGet (l : List α) (k : List UInt8) : Option α := l.find? fun p => decide (key p = k)
def gLow (l : List α) (k : List UInt8) : List α := l.filter fun p => decide (slt (key p) k)
def gHigh (l : List α) (k : List UInt8) : List α := l.filter fun p => decide (slt k (key p))
theorem gBelow_le (k : List UInt8) : ∀ l : List α, gBelow key k l ≤ l.length
  | [] => Nat.le_refl _
  | p :: r => by unfold gBelow; split <;> simp; exact gBelow_le k r
theorem gBelow_lt {k : List UInt8} : ∀ (l : List α) (i : Nat) (x : α), i < gBelow key k l → l[i]? = some x → slt (key x) k
  | p :: r, i, x, hi, hx => by
    unfold gBelow at hi
    split at hi
    · cases i with
      | zero => simp at hx; subst hx; assumption
      | succ i => exact gBelow_lt r i x (by omega) (by simpa using hx)
    · omega
theorem gBelow_ge {k : List UInt8} : ∀ (l : List α), gSorted key l → ∀ (i : Nat) (x : α), gBelow key k l ≤ i → l[i]? = some x → ¬ slt (key x) k
  | p :: r, h, i, x, hi, hx => by
    cases h with
    | cons h1 h2 =>
      unfold gBelow at hi
      split at hi
      · cases i with
        | zero => omega
        | succ i => exact gBelow_ge r h2 i x (by omega) (by simpa using hx)
      · rename_i hn
        cases i with
        | zero => simp at hx; subst hx; exact hn
        | succ i =>
          have h3 := h1 x (List.mem_of_getElem? (i := i) (by simpa using hx))
          exact fun hc => hn (slt_trans h3 hc)
theorem gGet_mem {l : List α} {k : List UInt8} {p : α} (h : gGet key l k = some p) : p ∈ l ∧ key p = k := by
  unfold gGet at h
  exact ⟨List.mem_of_find?_eq_some h, by simpa using List.find?_some h⟩
theorem gGet_of_mem {l : List α} (hs : gSorted key l) {p : α} (h : p ∈ l) : gGet key l (key p) = some p := by
  unfold gGet
  induction l with
  | nil => cases h
  | cons q r ih =>
    cases hs with
    | cons h1 h2 =>
      rw [List.find?_cons]
      rcases List.mem_cons.1 h with rfl | h
      · simp
      · have := h1 p h
        have hne : ¬ key q = key p := fun e => slt_irrefl (key p) (by rw [e] at this; exact this)
        simp [hne, ih h2 h]
theorem gGet_iff {l : List α} (hs : gSorted key l) {k : List UInt8} {p : α} : gGet key l k = some p ↔ p ∈ l ∧ key p = k :=
  ⟨gGet_mem key, fun ⟨h, e⟩ => by rw [← e]; exact gGet_of_mem key hs h⟩
theorem gBelow_find {k : List UInt8} : ∀ (l : List α), gSorted key l → ∀ x, (l[gBelow key k l]? = some x ∧ key x = k) ↔ gGet key l k = some x
  | [], _, x => by simp [gBelow, gGet]
  | p :: r, h, x => by
    cases h with
    | cons h1 h2 =>
      unfold gBelow gGet
      by_cases hk : slt (key p) k
      · have hne : ¬ key p = k := fun e => slt_irrefl k (by rw [e] at hk; exact hk)
        rw [if_pos hk, List.find?_cons, decide_eq_false hne]
        simpa [gGet] using gBelow_find r h2 x
      · rw [if_neg hk, List.find?_cons]
        by_cases he : key p = k
        · simp [he]
          rintro rfl; exact he
        · have hr : r.find? (fun p => decide (key p = k)) = none := by
            rw [List.find?_eq_none]
            intro y hy
            have h3 := h1 y hy
            simp
            rintro rfl
            exact hk h3
          simp [he, hr]
          rintro rfl; exact he
theorem gExt : ∀ (a b : List α), gSorted key a → gSorted key b → (∀ p, p ∈ a ↔ p ∈ b) → a = b
  | [], [], _, _, _ => rfl
  | [], q :: b, _, _, h => absurd ((h q).2 List.mem_cons_self) (by simp)
  | p :: a, [], _, _, h => absurd ((h p).1 List.mem_cons_self) (by simp)
  | p :: a, q :: b, ha, hb, h => by
    cases ha with
    | cons a1 a2 =>
      cases hb with
      | cons b1 b2 =>
        have e : p = q := by
          rcases List.mem_cons.1 ((h p).1 List.mem_cons_self) with e | e
          · exact e
          · rcases List.mem_cons.1 ((h q).2 List.mem_cons_self) with e' | e'
            · exact e'.symm
            · exact absurd (slt_trans (b1 p e) (a1 q e')) (slt_irrefl _)
        subst e
        congr 1
        refine gExt a b a2 b2 fun x => ⟨fun hx => ?_, fun hx => ?_⟩
        · rcases List.mem_cons.1 ((h x).1 (List.mem_cons_of_mem _ hx)) with rfl | e
          · exact absurd (a1 x hx) (slt_irrefl _)
          · exact e
        · rcases List.mem_cons.1 ((h x).2 (List.mem_cons_of_mem _ hx)) with rfl | e
          · exact absurd (b1 x hx) (slt_irrefl _)
          · exact e
theorem gGet_ext {a b : List α} (ha : gSorted key a) (hb : gSorted key b) (h : ∀ k, gGet key a k = gGet key b k) : a = b := by
  refine gExt key a b ha hb fun p => ?_
  constructor
  · intro hp
    exact (gGet_mem key ((h (key p)).symm.trans (gGet_of_mem key ha hp))).1
  · intro hp
    exact (gGet_mem key ((h (key p)).trans (gGet_of_mem key hb hp))).1
theorem gLow_eq {k : List UInt8} : ∀ (l : List α), gSorted key l → gLow key l k = l.take (gBelow key k l)
  | [], _ => rfl
  | p :: r, hs => by
    cases hs with
    | cons h1 h2 =>
      unfold gLow gBelow
      by_cases hk : slt (key p) k
      · rw [if_pos hk, List.filter_cons, if_pos (by simpa using hk), List.take_succ_cons, ← gLow_eq r h2]; rfl
      · rw [if_neg hk, List.take_zero, List.filter_eq_nil_iff]
        intro y hy
        rcases List.mem_cons.1 hy with rfl | hy
        · simpa using hk
        · have := h1 y hy
          simp
          exact fun hc => hk (slt_trans this hc)
theorem gHigh_eq {k : List UInt8} : ∀ (l : List α), gSorted key l → gHigh key l k = (match gGet key l k with | some _ => l.drop (gBelow key k l + 1) | none => l.drop (gBelow key k l))
  | [], _ => rfl
  | p :: r, hs => by
    cases hs with
    | cons h1 h2 =>
      have ih := gHigh_eq (k := k) r h2
      unfold gHigh gGet at ih
      unfold gHigh gGet gBelow
      by_cases hk : slt (key p) k
      · have hne : ¬ key p = k := fun e => slt_irrefl k (by rw [e] at hk; exact hk)
        rw [if_pos hk, List.filter_cons, if_neg (by simpa using slt_asymm hk), List.find?_cons, decide_eq_false hne, ih]
        cases r.find? (fun p => decide (key p = k)) <;> simp
      · by_cases he : key p = k
        · subst he
          rw [if_neg hk, List.filter_cons, if_neg (by simpa using hk), List.find?_cons]
          simp
          intro y hy
          exact h1 y hy
        · have hgt : slt k (key p) := by
            rcases slt_total (key p) k with h | h | h
            · exact absurd h hk
            · exact absurd h he
            · exact h
          have hnone : (p :: r).find? (fun p => decide (key p = k)) = none := by
            rw [List.find?_eq_none]
            intro y hy
            rcases List.mem_cons.1 hy with rfl | hy
            · simpa using he
            · have := h1 y hy
              simp
              rintro rfl
              exact slt_irrefl _ (slt_trans hgt this)
          rw [hnone, if_neg hk]
          simp only [List.drop_zero]
          rw [List.filter_eq_self]
          intro y hy
          rcases List.mem_cons.1 hy with rfl | hy
          · simpa using hgt
          · simpa using slt_trans hgt (h1 y hy)
/-- Something put in the place of its key. -/
def gPut (l : List α) (y : α) : List α := gLow key l (key y) ++ [y] ++ gHigh key l (key y)
theorem gPut_sorted {l : List α} (hs : gSorted key l) (y : α) : gSorted key (gPut key l y) := by
  unfold gPut gSorted
  have hl : ∀ a ∈ gLow key l (key y), slt (key a) (key y) := fun a ha => by simpa using (List.mem_filter.1 ha).2
  have hh : ∀ a ∈ gHigh key l (key y), slt (key y) (key a) := fun a ha => by simpa using (List.mem_filter.1 ha).2
  rw [List.pairwise_append, List.pairwise_append]
  refine ⟨⟨hs.filter _, List.pairwise_singleton _ _, fun a ha b hb => ?_⟩, hs.filter _, fun a ha b hb => ?_⟩
  · simp at hb; subst hb; exact hl a ha
  · rcases List.mem_append.1 ha with ha | ha
    · exact slt_trans (hl a ha) (hh b hb)
    · simp at ha; subst ha; exact hh b hb
theorem gPut_get {l : List α} (hs : gSorted key l) (y : α) (k : List UInt8) : gGet key (gPut key l y) k = if k = key y then some y else gGet key l k := by
  have ho := gPut_sorted key hs y
  apply Option.ext
  intro v
  rw [gGet_iff key ho]
  unfold gPut gLow gHigh
  rw [List.mem_append, List.mem_append, List.mem_filter, List.mem_filter]
  simp only [decide_eq_true_eq, List.mem_singleton]
  by_cases hk : k = key y
  · subst hk
    rw [if_pos rfl]
    have := slt_irrefl (key y)
    constructor
    · rintro ⟨(h | h) | h, e⟩
      · exact absurd h.2 (by rw [e]; exact this)
      · rw [h]
      · exact absurd h.2 (by rw [e]; exact this)
    · intro h
      cases h
      exact ⟨.inl (.inr rfl), rfl⟩
  · rw [if_neg hk, gGet_iff key hs]
    constructor
    · rintro ⟨(h | h) | h, e⟩
      · exact ⟨h.1, e⟩
      · exact absurd (by rw [← e, h]) hk
      · exact ⟨h.1, e⟩
    · rintro ⟨h, e⟩
      refine ⟨?_, e⟩
      rcases slt_total (key v) (key y) with c | c | c
      · exact .inl (.inl ⟨h, c⟩)
      · exact absurd (by rw [← e]; exact c) hk
      · exact .inr ⟨h, c⟩
theorem gPut_some {l : List α} (hs : gSorted key l) {y p : α} (h : gGet key l (key y) = some p) : gPut key l y = l.set (gBelow key (key y) l) y := by
  have h1 := gLow_eq key (k := key y) l hs
  have h2 := gHigh_eq key (k := key y) l hs
  rw [h] at h2
  have hb := (gBelow_find key l hs p).2 h
  have hlt := (List.getElem?_eq_some_iff.1 hb.1).1
  unfold gPut
  rw [h1, h2, List.set_eq_take_append_cons_drop, if_pos hlt]
  simp
theorem gPut_none {l : List α} (hs : gSorted key l) {y : α} (h : gGet key l (key y) = none) : gPut key l y = l.take (gBelow key (key y) l) ++ [y] ++ l.drop (gBelow key (key y) l) := by
  have h1 := gLow_eq key (k := key y) l hs
  have h2 := gHigh_eq key (k := key y) l hs
  rw [h] at h2
  unfold gPut
  rw [h1, h2]
theorem gPut_len {l : List α} (hs : gSorted key l) (y : α) : (gPut key l y).length ≤ l.length + 1 := by
  cases h : gGet key l (key y) with
  | some p => rw [gPut_some key hs h]; simp
  | none => rw [gPut_none key hs h]; simp; omega
end
end Go.Proofs.Ytofmiaecjnfeaaa
set_option linter.unusedVariables false
set_option linter.unusedSimpArgs false
set_option maxRecDepth 8000
namespace Go.Proofs.Ytofmiaecjnfeaaa
open Nat renaming reduceAdd → uA, reduceLT → uB, reduceEqDiff → uC, reduceLeDiff → uD, reduceSub → uE, reduceMul → uF
open Bool renaming false_eq_true → yA, true_eq_false → yB
open Go Go.Proofs Go.Proofs.YtofmiaecjnfeaaaVm Go.Proofs.Ytofmiaecjnfeaaa.Ty

set_option maxHeartbeats 2000000 in
theorem CloneNote (xs : List PV) (h1 : ∀ x ∈ xs, x.cells.length = 4) (hl : xs.length ≤ 1000000) : Ct Try.prog 60 (YtofmiaecjnfeaaaVm.ops [.row xs]) (.own 50 xs) := by
  refine Ct.of_V Try.func60 rfl (by simp [YtofmiaecjnfeaaaVm.ops, Try.f60]) ?_
  refine V.exec 400 ?_
  simp +contextual (maxSteps := 1000000) only [go_sem, ↓reduceIte, reduceCtorEq, yA, yB, uA, uB, uC, uD, uE, uF, Try.f60]
  refine V.nilq (xs := xs) rfl rfl (.inl rfl) (by simp only [go_sem, ↓reduceIte, Nat.reduceEqDiff]) (by simp only [go_sem]; rfl) (by simp [dOK]) fun c hc => ?_
  refine V.exec 400 ?_
  simp +contextual (maxSteps := 1000000) only [go_sem, ↓reduceIte, reduceCtorEq, yA, yB, uA, uB, uC, uD, uE, uF]
  exact ⟨fun h => ⟨hc h, 4, rfl, by decide⟩, fun _ => ⟨h1, by omega, by omega⟩⟩
set_option maxHeartbeats 2000000 in
theorem IndexFuncNote (xs : List PV) (g : FuncId) (caps : List PV) (p : PV → Bool) (h1 : ∀ x ∈ xs, x.cells.length = 4 ∧ x.isAgg = true) (hl : xs.length ≤ 1000000) (hg : Entered Try.prog g)
    (hp : ∀ x ∈ xs, Ct Try.prog g (YtofmiaecjnfeaaaVm.ops ([x] ++ caps)) (.vals [.bool (decide (p x = true))])) (r : Nat) (hr : r ≤ xs.length) (hr1 : ∀ x ∈ xs.take r, p x = false) (hr2 : ∀ x, xs[r]? = some x → p x = true) :
    Ct Try.prog 38 (YtofmiaecjnfeaaaVm.ops [.row xs, .fn g caps]) (.vals [.int .i64 (if r < xs.length then (r : Int) else -1)]) := by
  refine Ct.of_V Try.func38 rfl (by simp [YtofmiaecjnfeaaaVm.ops, Try.f38]) ?_
  refine V.exec 400 ?_
  simp +contextual (maxSteps := 1000000) only [go_sem, ↓reduceIte, reduceCtorEq, yA, yB, uA, uB, uC, uD, uE, uF, Try.f38]
  refine V.loop (fun m ls os => ∃ i : Nat, i ≤ r ∧ m = xs.length - i ∧
        ls = [(0, .val (.row xs)), (1, .val (.fn g caps)), (7, .val (.int .i64 xs.length)), (8, .val (.int .i64 i))] ∧ os = []) 0 xs.length [(0, .val (.row xs)), (1, .val (.fn g caps)), (7, .val (.int .i64 xs.length)), (8, .val (.int .i64 0))] [] []
      ⟨0, Nat.zero_le _, rfl, rfl, rfl⟩ (by simp only [go_sem, ↓reduceIte, reduceCtorEq, yA, yB, uA, uB, uC, uD, uE, uF]) ?_
  rintro m ls os ⟨i, hi, rfl, rfl, rfl⟩
  refine V.exec 400 ?_
  by_cases hlt : i < xs.length
  · have hlt' : (i : Int) < (xs.length : Int) := by omega
    obtain ⟨x, hx⟩ : ∃ x, xs[i]? = some x := ⟨_, List.getElem?_eq_getElem hlt⟩
    have hxm : x ∈ xs := List.mem_of_getElem? hx
    obtain ⟨hxc, hxa⟩ := h1 x hxm
    have hw : IntKind.i64.wrap ((i : Int) + 1) = ((i + 1 : Nat) : Int) := by rw [wrap_small] <;> omega
    simp +contextual (maxSteps := 1000000) only [go_sem, ↓reduceIte, reduceCtorEq, yA, yB, uA, uB, uC, uD, uE, uF, hlt', hx, hxc, hxa]
    refine V.call rfl rfl (by simp [dOK]) ⟨g, caps, by simp only [go_sem, ↓reduceIte, reduceCtorEq, yA, yB, uA, uB, uC, uD, uE, uF], hg, .inl ⟨[x], _, .inl (by simp only [go_sem, ↓reduceIte, reduceCtorEq, yA, yB, uA, uB, uC, uD, uE, uF]), hp x hxm, .inl ⟨_, rfl, rfl, rfl, rfl⟩⟩⟩ ?_
    refine V.exec 400 ?_
    simp +contextual (maxSteps := 1000000) only [go_sem, ↓reduceIte, reduceCtorEq, yA, yB, uA, uB, uC, uD, uE, uF, hw]
    constructor
    · intro hpx
      have hir : i = r := by
        rcases Nat.lt_or_ge i r with h | h
        · have := hr1 x (List.mem_of_getElem? (i := i) (by rw [List.getElem?_take_of_lt h]; exact hx))
          rw [this] at hpx; cases hpx
        · omega
      subst hir
      rw [if_pos hlt]
    · intro hpx
      have hir : i < r := by
        rcases Nat.lt_or_ge i r with h | h
        · exact h
        · have : i = r := by omega
          subst this
          exact absurd (hr2 x hx) hpx
      exact ⟨xs.length - (i + 1), _, [], [], by omega, ⟨i + 1, by omega, rfl, rfl, rfl⟩, by simp only [go_sem, ↓reduceIte, reduceCtorEq, yA, yB, uA, uB, uC, uD, uE, uF]⟩
  · have hlt' : ¬ (i : Int) < (xs.length : Int) := by omega
    simp +contextual (maxSteps := 1000000) only [go_sem, ↓reduceIte, reduceCtorEq, yA, yB, uA, uB, uC, uD, uE, uF, hlt']
    rw [if_neg (by omega)]
set_option maxHeartbeats 4000000 in
theorem InsertNote (xs : List PV) (y : PV) (i : Nat) (h1 : ∀ x ∈ xs, x.cells.length = 4) (hy : y.cells.length = 4) (hi : i ≤ xs.length) (hl : xs.length ≤ 1000000) :
    Ct Try.prog 71 (.o 50 xs :: YtofmiaecjnfeaaaVm.ops [.int .i64 i, .rowp [y]]) (.own 50 (xs.take i ++ [y] ++ xs.drop i)) := by
  refine Ct.of_V Try.func71 rfl (by simp [YtofmiaecjnfeaaaVm.ops, Try.f71]) ?_
  refine V.opn 0 4 50 xs rfl (by simp only [go_sem, ↓reduceIte, reduceCtorEq, yA, yB, uA, uB, uC, uD, uE, uF]) fun q => ?_
  have hw : IntKind.i64.wrap ((xs.length : Int) + ((0 + 1 : Nat) : Int)) = ((xs.length + 1 : Nat) : Int) := by rw [wrap_small'] <;> omega
  have hw2 : IntKind.i64.wrap (((xs.length + 1 : Nat) : Int) - (i : Int)) = ((xs.length + 1 - i : Nat) : Int) := by rw [wrap_small'] <;> omega
  have hw3 : IntKind.i64.wrap ((i : Int) + ((0 + 1 : Nat) : Int)) = ((i + 1 : Nat) : Int) := by rw [wrap_small'] <;> omega
  refine V.execS [10, 14] 400 ?_
  simp +contextual (maxSteps := 1000000) only [go_sem, ↓reduceIte, reduceCtorEq, yA, yB, uA, uB, uC, uD, uE, uF, Try.f71, hy, hw, hw2, hw3]
  refine ⟨⟨hi, by omega⟩, fun h => absurd h (by omega), fun _ => ⟨fun he => ?_, fun hne => ⟨by omega, fun hlt => ⟨⟨by omega, by omega⟩, ⟨by omega, by omega, by omega, by omega, by omega⟩, ?_⟩, fun hge => ⟨by omega, ?_⟩⟩⟩⟩
  · -- at the end
    have hin : i = xs.length := by omega
    subst hin
    have e1 : xs.take xs.length ++ [y] ++ xs.drop xs.length = xs ++ [y] := by simp
    rw [e1]
    refine ⟨fun hr => ⟨by omega, ?_, ?_⟩, fun hr => ⟨⟨by omega, by omega, by omega, by omega⟩, by rw [List.take_length]⟩⟩
    · rw [over_length (by omega)]; simp
    · have e2 : over xs [y] (0 + xs.length) = xs ++ [y] := by simp [over]
      rw [e2, List.take_of_length_le (by simp)]
  · -- no room: a new row
    have hin : i < xs.length := by omega
    have hYl : (List.take (i - 0) xs ++ List.replicate (xs.length + 1 - i) (PV.agg [.int .i64 0, .str [], .str [], .int .u64 0])).length = xs.length + 1 := by
      simp; omega
    have hYt : (List.take (i - 0) xs ++ List.replicate (xs.length + 1 - i) (PV.agg [.int .i64 0, .str [], .str [], .int .u64 0])).take i = xs.take i := by
      rw [Nat.sub_zero, List.take_append_of_le_length (by simp; omega), List.take_take, Nat.min_self]
    generalize List.take (i - 0) xs ++ List.replicate (xs.length + 1 - i) (PV.agg [.int .i64 0, .str [], .str [], .int .u64 0]) = Y at *
    refine V.opn 32 4 50 Y (by simp only [go_sem, ↓reduceIte, reduceCtorEq, yA, yB, uA, uB, uC, uD, uE, uF]) (by simp only [go_sem, ↓reduceIte, reduceCtorEq, yA, yB, uA, uB, uC, uD, uE, uF]) fun q2 => ?_
    refine V.exec 400 ?_
    have m1 : min 1 (Y.length - i) = 1 := by omega
    have m2 : min (xs.length - i) (Y.length - (i + 1)) = xs.length - i := by omega
    simp +contextual (maxSteps := 1000000) only [go_sem, ↓reduceIte, reduceCtorEq, yA, yB, uA, uB, uC, uD, uE, uF, hy, hw, hw2, hw3, Nat.zero_add, Nat.sub_zero, m1, m2]
    have hol : (over Y [y] i).length = Y.length := by rw [over_length (by omega)]; simp; omega
    have hdl : (List.take (xs.length - i) (List.drop i xs)).length = xs.length - i := by simp
    simp only [hol, hdl]
    refine ⟨⟨by omega, by omega⟩, ⟨by omega, by omega⟩, ⟨by omega, by omega⟩, ⟨by omega, by omega⟩, ⟨by omega, by omega, by omega⟩, by kernel_rfl, ?_⟩
    have hd : List.take (xs.length - i) (List.take (xs.length - i) (List.drop i xs)) = xs.drop i := by rw [List.take_of_length_le (by simp), List.take_of_length_le (by simp)]
    rw [hd, ins_grow xs [y] i Y rfl hin hYl hYt]
    exact ⟨by simp; omega, (List.take_of_length_le (by simp; omega)).symm⟩
  · -- there is room
    refine V.exec 400 ?_
    simp +contextual (maxSteps := 1000000) only [go_sem, ↓reduceIte, reduceCtorEq, yA, yB, uA, uB, uC, uD, uE, uF, hy, hw, hw2, hw3, Nat.zero_add, Nat.sub_zero]
    refine ⟨⟨by omega, by omega⟩, ?_⟩
    refine V.ovl (f := 89) (zs := [y]) (id := 0) (sz := 4) (l := i + 1) (len := xs.length + 1 - (i + 1)) (xs := xs) (q := q) (e := 50) (tS := 30) (tR := 4) rfl rfl (by simp [dOK]) (by simp only [go_sem, ↓reduceIte, reduceCtorEq, yA, yB, uA, uB, uC, uD, uE, uF]) rfl rfl rfl (by kernel_rfl) (by kernel_rfl) (by simp only [go_sem, ↓reduceIte, reduceCtorEq, yA, yB, uA, uB, uC, uD, uE, uF]) (by simp only [go_sem, ↓reduceIte, reduceCtorEq, yA, yB, uA, uB, uC, uD, uE, uF]) (by simp only [go_sem, ↓reduceIte, reduceCtorEq, yA, yB, uA, uB, uC, uD, uE, uF]) (by simp only [go_sem, ↓reduceIte, reduceCtorEq, yA, yB, uA, uB, uC, uD, uE, uF]) (by simp only [go_sem, ↓reduceIte, reduceCtorEq, yA, yB, uA, uB, uC, uD, uE, uF]) (by omega) ?_
    refine V.exec 400 ?_
    have hin : i < xs.length := by omega
    have m3 : min (xs.length + 1 - i) (xs.length + 1 - (i + 1)) = xs.length - i := by omega
    have m4 : min 1 (xs.length + 1 - i) = 1 := by omega
    have hd2 : List.take (xs.length - i) (List.take (xs.length + 1 - i) (List.drop i xs)) = xs.drop i := by rw [List.take_take, List.take_of_length_le (by simp; omega)]
    have hd3 : (List.take (xs.length + 1 - i) (List.drop i xs)).length = xs.length - i := by simp; omega
    have hol : (over xs (xs.drop i) (i + 1)).length = xs.length + 1 := by rw [over_length (by omega), List.length_drop]; omega
    have hol2 : (over (over xs (xs.drop i) (i + 1)) [y] i).length = xs.length + 1 := by rw [over_length (by omega), hol]; simp; omega
    simp +contextual (maxSteps := 1000000) only [go_sem, ↓reduceIte, reduceCtorEq, yA, yB, uA, uB, uC, uD, uE, uF, hy, hw, hw2, hw3, Nat.zero_add, Nat.sub_zero, m3, m4, hd2, hd3, hol, hol2]
    refine ⟨⟨by omega, by omega⟩, ⟨by omega, by omega⟩, ⟨by omega, by omega, by omega⟩, by kernel_rfl, ⟨by omega, by omega⟩, ⟨by omega, by omega⟩, by omega, ?_⟩
    rw [ins_room xs [y] i rfl hin]
    exact (List.take_of_length_le (by simp; omega)).symm
set_option maxHeartbeats 4000000 in
theorem BSearchNote_any (xs : List PV) (t : PV) (g : FuncId) (caps : List PV) (c : PV → Int) (h1 : ∀ x ∈ xs, x.cells.length = 4 ∧ x.isAgg = true) (hl : xs.length ≤ 1000000) (hg : Entered Try.prog g)
    (hp : ∀ x ∈ xs, Ct Try.prog g (YtofmiaecjnfeaaaVm.ops ([x, t] ++ caps)) (.vals [.int .i64 (c x)])) :
    Ct Try.prog 87 (YtofmiaecjnfeaaaVm.ops [.row xs, t, .fn g caps]) (.vals [.int .i64 (bsI (cAt c xs) 0 xs.length : Nat), .bool (decide (∃ x, xs[bsI (cAt c xs) 0 xs.length]? = some x ∧ c x = 0))]) := by
  generalize hR : bsI (cAt c xs) 0 xs.length = r
  refine Ct.of_V Try.func87 rfl (by simp [YtofmiaecjnfeaaaVm.ops, Try.f87]) ?_
  refine V.exec 400 ?_
  simp +contextual (maxSteps := 1000000) only [go_sem, ↓reduceIte, reduceCtorEq, yA, yB, uA, uB, uC, uD, uE, uF, Try.f87]
  refine V.loop (fun m ls os => ∃ (i j : Nat), i ≤ j ∧ j ≤ xs.length ∧ m = j - i ∧ bsI (cAt c xs) i j = r ∧
        ls = [(0, .val (.row xs)), (1, .val t), (2, .val (.fn g caps)), (8, .val (.int .i64 xs.length)), (9, .val (.int .i64 i)), (10, .val (.int .i64 j))] ∧ os = []) 0 xs.length
      [(0, .val (.row xs)), (1, .val t), (2, .val (.fn g caps)), (8, .val (.int .i64 xs.length)), (9, .val (.int .i64 0)), (10, .val (.int .i64 xs.length))] [] []
      ⟨0, xs.length, Nat.zero_le _, Nat.le_refl _, rfl, hR, rfl, rfl⟩ (by simp only [go_sem, ↓reduceIte, reduceCtorEq, yA, yB, uA, uB, uC, uD, uE, uF]) ?_
  rintro m ls os ⟨i, j, hij, hjl, rfl, hr, rfl, rfl⟩
  refine V.exec 400 ?_
  by_cases hlt : i < j
  · have hlt' : (i : Int) < (j : Int) := by omega
    have hm : (i + j) / 2 < xs.length := by omega
    obtain ⟨x, hx⟩ : ∃ x, xs[(i + j) / 2]? = some x := ⟨_, List.getElem?_eq_getElem hm⟩
    have hxm : x ∈ xs := List.mem_of_getElem? hx
    obtain ⟨hxc, hxa⟩ := h1 x hxm
    have hca : cAt c xs ((i + j) / 2) = c x := by simp [cAt, hx]
    rw [bsI, dif_pos hlt, hca] at hr
    have hw1 : IntKind.i64.wrap ((i : Int) + (j : Int)) = ((i + j : Nat) : Int) := by rw [wrap_small2] <;> omega
    have hw2 : IntKind.u64.wrap ((i + j : Nat) : Int) = ((i + j : Nat) : Int) := by rw [wrap_u2] <;> omega
    have hw3 : ((i + j : Nat) : Int) / 2 = (((i + j) / 2 : Nat) : Int) := by omega
    have hw4 : IntKind.i64.wrap (((i + j) / 2 : Nat) : Int) = (((i + j) / 2 : Nat) : Int) := by rw [wrap_small2] <;> omega
    have hw5 : IntKind.i64.wrap ((((i + j) / 2 : Nat) : Int) + 1) = (((i + j) / 2 + 1 : Nat) : Int) := by rw [wrap_small2] <;> omega
    simp +contextual (maxSteps := 1000000) only [go_sem, ↓reduceIte, reduceCtorEq, yA, yB, uA, uB, uC, uD, uE, uF, hlt', hw1, hw2, hw3, hw4, hx, hxc, hxa]
    refine V.call rfl rfl (by simp [dOK]) ⟨g, caps, by simp only [go_sem, ↓reduceIte, reduceCtorEq, yA, yB, uA, uB, uC, uD, uE, uF], hg, .inl ⟨[x, t], _, .inl (by simp only [go_sem, ↓reduceIte, reduceCtorEq, yA, yB, uA, uB, uC, uD, uE, uF]), hp x hxm, .inl ⟨_, rfl, rfl, rfl, rfl⟩⟩⟩ ?_
    refine V.exec 400 ?_
    simp +contextual (maxSteps := 1000000) only [go_sem, ↓reduceIte, reduceCtorEq, yA, yB, uA, uB, uC, uD, uE, uF, hw5]
    constructor
    · intro hc
      rw [if_pos hc] at hr
      exact ⟨j - ((i + j) / 2 + 1), _, [], [], by omega, ⟨(i + j) / 2 + 1, j, by omega, hjl, rfl, hr, rfl, rfl⟩, by simp only [go_sem, ↓reduceIte, reduceCtorEq, yA, yB, uA, uB, uC, uD, uE, uF]⟩
    · intro hc
      rw [if_neg hc] at hr
      exact ⟨(i + j) / 2 - i, _, [], [], by omega, ⟨i, (i + j) / 2, by omega, by omega, rfl, hr, rfl, rfl⟩, by simp only [go_sem, ↓reduceIte, reduceCtorEq, yA, yB, uA, uB, uC, uD, uE, uF]⟩
  · have hlt' : ¬ (i : Int) < (j : Int) := by omega
    rw [bsI, dif_neg hlt] at hr
    subst hr
    by_cases hil : i < xs.length
    · have hil' : (i : Int) < (xs.length : Int) := by omega
      obtain ⟨x, hx⟩ : ∃ x, xs[i]? = some x := ⟨_, List.getElem?_eq_getElem hil⟩
      have hxm : x ∈ xs := List.mem_of_getElem? hx
      obtain ⟨hxc, hxa⟩ := h1 x hxm
      simp +contextual (maxSteps := 1000000) only [go_sem, ↓reduceIte, reduceCtorEq, yA, yB, uA, uB, uC, uD, uE, uF, hlt', hil', hx, hxc, hxa]
      refine V.call rfl rfl (by simp [dOK]) ⟨g, caps, by simp only [go_sem, ↓reduceIte, reduceCtorEq, yA, yB, uA, uB, uC, uD, uE, uF], hg, .inl ⟨[x, t], _, .inl (by simp only [go_sem, ↓reduceIte, reduceCtorEq, yA, yB, uA, uB, uC, uD, uE, uF]), hp x hxm, .inl ⟨_, rfl, rfl, rfl, rfl⟩⟩⟩ ?_
      refine V.exec 400 ?_
      simp +contextual (maxSteps := 1000000) only [go_sem, ↓reduceIte, reduceCtorEq, yA, yB, uA, uB, uC, uD, uE, uF, hx]
      simp [hx]
    · have hil' : ¬ (i : Int) < (xs.length : Int) := by omega
      simp +contextual (maxSteps := 1000000) only [go_sem, ↓reduceIte, reduceCtorEq, yA, yB, uA, uB, uC, uD, uE, uF, hlt', hil']
      have : xs[i]? = none := List.getElem?_eq_none (by omega)
      simp [this]

theorem BSearchNote (xs : List PV) (t : PV) (g : FuncId) (caps : List PV) (c : PV → Int) (h1 : ∀ x ∈ xs, x.cells.length = 4 ∧ x.isAgg = true) (hl : xs.length ≤ 1000000) (hg : Entered Try.prog g)
    (hp : ∀ x ∈ xs, Ct Try.prog g (YtofmiaecjnfeaaaVm.ops ([x, t] ++ caps)) (.vals [.int .i64 (c x)])) (r : Nat) (hr : r ≤ xs.length) (hr1 : ∀ i x, i < r → xs[i]? = some x → c x < 0) (hr2 : ∀ i x, r ≤ i → xs[i]? = some x → ¬ c x < 0) :
    Ct Try.prog 87 (YtofmiaecjnfeaaaVm.ops [.row xs, t, .fn g caps]) (.vals [.int .i64 r, .bool (decide (∃ x, xs[r]? = some x ∧ c x = 0))]) := by
  have h := BSearchNote_any xs t g caps c h1 hl hg hp
  have e : bsI (cAt c xs) 0 xs.length = r := bsI_eq (cAt c xs) 0 xs.length r (Nat.zero_le _) hr (fun m _ hm => by
      obtain ⟨x, hx⟩ : ∃ x, xs[m]? = some x := ⟨_, List.getElem?_eq_getElem (by omega)⟩
      have := hr1 m x hm hx
      simpa [cAt, hx] using this) (fun m hm hm2 => by
      obtain ⟨x, hx⟩ : ∃ x, xs[m]? = some x := ⟨_, List.getElem?_eq_getElem hm2⟩
      have := hr2 m x hm hx
      simpa [cAt, hx] using this)
  rw [e] at h
  exact h
end Go.Proofs.Ytofmiaecjnfeaaa
set_option linter.unusedVariables false
set_option linter.unusedSimpArgs false
set_option maxRecDepth 8000
namespace Go.Proofs.Ytofmiaecjnfeaaa
open Nat renaming reduceAdd → uA, reduceLT → uB, reduceEqDiff → uC, reduceLeDiff → uD, reduceSub → uE, reduceMul → uF
open Bool renaming false_eq_true → yA, true_eq_false → yB
open Go Go.Proofs Go.Proofs.YtofmiaecjnfeaaaVm Go.Proofs.Ytofmiaecjnfeaaa.Ty

structure Pair where
  key : List UInt8
  value : List UInt8
  deriving DecidableEq
def Pair.pv (p : Pair) : PV := .agg [.str p.key, .str p.value]

/-- Keys that rise, all short. -/
def pairsFrom : Option (List UInt8) → List Pair → Prop
  | _, [] => True
  | last, p :: r => p.key.length ≤ 16 ∧ p.value.length ≤ 32 ∧ (∀ k, last = some k → slt k p.key) ∧ pairsFrom (some p.key) r
def pairsOk (l : List Pair) : Prop := pairsFrom none l
instance instPF : ∀ (last : Option (List UInt8)) (l : List Pair), Decidable (pairsFrom last l)
  | _, [] => isTrue trivial
  | none, s :: r => by
    unfold pairsFrom
    have := instPF (some s.key) r
    have : Decidable (∀ k, none = some k → slt k s.key) := isTrue (fun k h => by cases h)
    infer_instance
  | some k, s :: r => by
    unfold pairsFrom
    have := instPF (some s.key) r
    have : Decidable (∀ k', some k = some k' → slt k' s.key) := decidable_of_iff (slt k s.key) ⟨fun h k' e => by cases e; exact h, fun h => h k rfl⟩
    infer_instance
instance instPairsOk (l : List Pair) : Decidable (pairsOk l) := by unfold pairsOk; infer_instance
def prevKey (l : List Pair) (i : Nat) : Option (List UInt8) := if i = 0 then none else (l[i - 1]?).map Pair.key

set_option maxRecDepth 4000 in
set_option maxHeartbeats 4000000 in
theorem leaf_Right (l : List Pair) (hl : l.length ≤ 1000000) : Ct Try.prog 61 (YtofmiaecjnfeaaaVm.ops [.row (l.map Pair.pv)]) (.vals [.bool (decide (pairsOk l))]) := by
  refine Ct.of_V Try.func61 rfl (by simp [YtofmiaecjnfeaaaVm.ops, Try.f61]) ?_
  refine V.exec 400 ?_
  simp +contextual (maxSteps := 1000000) only [go_sem, ↓reduceIte, reduceCtorEq, yA, yB, uA, uB, uC, uD, uE, uF, Try.f61]
  refine V.loop (fun m ls os => ∃ (i : Nat), i ≤ l.length ∧ m = l.length - i ∧ (pairsOk l ↔ pairsFrom (prevKey l i) (l.drop i)) ∧
        ls = [(0, .val (.row (l.map Pair.pv))), (5, .val (.row (l.map Pair.pv))), (6, .val (.int .i64 l.length)), (7, .val (.int .i64 i))] ∧ os = []) 0 l.length
      [(0, .val (.row (l.map Pair.pv))), (5, .val (.row (l.map Pair.pv))), (6, .val (.int .i64 l.length)), (7, .val (.int .i64 0))] [] []
      ⟨0, Nat.zero_le _, rfl, Iff.rfl, rfl, rfl⟩ (by simp only [go_sem, ↓reduceIte, reduceCtorEq, yA, yB, uA, uB, uC, uD, uE, uF]) ?_
  rintro m ls os ⟨i, hi, rfl, hiff, rfl, rfl⟩
  refine V.exec 400 ?_
  by_cases hlt : i < l.length
  · have hlt' : (i : Int) < (l.length : Int) := by omega
    obtain ⟨x, hx⟩ : ∃ x, l[i]? = some x := ⟨_, List.getElem?_eq_getElem hlt⟩
    have hw : IntKind.i64.wrap ((i : Int) + 1) = ((i + 1 : Nat) : Int) := by rw [wrap_small3] <;> omega
    rw [drop_of_get hx, pairsFrom] at hiff
    have hpk : prevKey l (i + 1) = some x.key := by simp [prevKey, hx]
    have e1 : ((x.key.length : Int) ≤ 16) = (x.key.length ≤ 16) := by apply propext; omega
    have e2 : ((x.value.length : Int) ≤ 32) = (x.value.length ≤ 32) := by apply propext; omega
    have fin : x.key.length ≤ 16 → x.value.length ≤ 32 → (∀ k, prevKey l i = some k → slt k x.key) → (pairsOk l ↔ pairsFrom (prevKey l (i + 1)) (l.drop (i + 1))) := fun a b c => by
      rw [hiff, hpk]; exact ⟨fun h => h.2.2.2, fun h => ⟨a, b, c, h⟩⟩
    have hfalse : ¬ pairsOk l → some [PV.bool false] = some [PV.bool (decide (pairsOk l))] := fun h => by simp [h]
    rcases Nat.eq_zero_or_pos i with rfl | hpos
    · have hz : ¬ (0 : Int) < ((0 : Nat) : Int) := by omega
      simp +contextual (maxSteps := 1000000) only [go_sem, ↓reduceIte, reduceCtorEq, yA, yB, uA, uB, uC, uD, uE, uF, hlt', hx, Pair.pv, hw, hz, e1, e2]
      (repeat' (first | (intro _) | (refine ⟨by kernel_rfl, ?_⟩) | (apply And.intro)))
      · exact ⟨l.length - (0 + 1), _, [], [], by omega, ⟨1, by omega, rfl, fin (by omega) (by omega) (fun k h => by simp [prevKey] at h), rfl, rfl⟩, by simp only [go_sem, ↓reduceIte, reduceCtorEq, yA, yB, uA, uB, uC, uD, uE, uF]⟩
      · refine hfalse fun h => ?_
        have := (hiff.1 h).2.1
        omega
      · refine hfalse fun h => ?_
        have := (hiff.1 h).1
        omega
    · obtain ⟨j, rfl⟩ : ∃ j, i = j + 1 := ⟨i - 1, by omega⟩
      have hw2 : IntKind.i64.wrap (((j + 1 : Nat) : Int) - 1) = (j : Int) := by rw [wrap_small3] <;> omega
      have hjp : (0 : Int) < ((j + 1 : Nat) : Int) := by omega
      obtain ⟨y, hy⟩ : ∃ y, l[j]? = some y := ⟨_, List.getElem?_eq_getElem (by omega)⟩
      simp +contextual (maxSteps := 1000000) only [go_sem, ↓reduceIte, reduceCtorEq, yA, yB, uA, uB, uC, uD, uE, uF, hlt', hx, Pair.pv, hw, hw2, hjp, hy, e1, e2]
      (repeat' (first | (intro _) | (refine ⟨by kernel_rfl, ?_⟩) | (apply And.intro)))
      · refine hfalse fun h => ?_
        have := (hiff.1 h).2.2.1 y.key (by simp [prevKey, hy])
        contradiction
      · rename_i a b c
        exact ⟨l.length - (j + 1 + 1), _, [], [], by omega, ⟨j + 1 + 1, by omega, rfl, fin (by omega) (by omega) (fun k h => by simp [prevKey, hy] at h; rw [← h]; assumption), rfl, rfl⟩, by simp only [go_sem, ↓reduceIte, reduceCtorEq, yA, yB, uA, uB, uC, uD, uE, uF]⟩
      · refine hfalse fun h => ?_
        have := (hiff.1 h).2.1
        omega
      · refine hfalse fun h => ?_
        have := (hiff.1 h).1
        omega
  · have hlt' : ¬ (i : Int) < (l.length : Int) := by omega
    have hd : l.drop i = [] := List.drop_eq_nil_of_le (by omega)
    rw [hd, pairsFrom] at hiff
    simp +contextual (maxSteps := 1000000) only [go_sem, ↓reduceIte, reduceCtorEq, yA, yB, uA, uB, uC, uD, uE, uF, hlt']
    simp [hiff]
end Go.Proofs.Ytofmiaecjnfeaaa
set_option linter.unusedVariables false
set_option linter.unusedSimpArgs false
set_option maxRecDepth 8000
namespace Go.Proofs.Ytofmiaecjnfeaaa
open Nat renaming reduceAdd → uA, reduceLT → uB, reduceEqDiff → uC, reduceLeDiff → uD, reduceSub → uE, reduceMul → uF
open Bool renaming false_eq_true → yA, true_eq_false → yB
open Go Go.Proofs Go.Proofs.YtofmiaecjnfeaaaVm Go.Proofs.Ytofmiaecjnfeaaa.Ty

set_option maxHeartbeats 2000000 in
theorem ClonePair (xs : List PV) (h1 : ∀ x ∈ xs, x.cells.length = 2) (hl : xs.length ≤ 1000000) : Ct Try.prog 56 (YtofmiaecjnfeaaaVm.ops [.row xs]) (.own 42 xs) := by
  refine Ct.of_V Try.func56 rfl (by simp [YtofmiaecjnfeaaaVm.ops, Try.f56]) ?_
  refine V.exec 400 ?_
  simp +contextual (maxSteps := 1000000) only [go_sem, ↓reduceIte, reduceCtorEq, yA, yB, uA, uB, uC, uD, uE, uF, Try.f56]
  refine V.nilq (xs := xs) rfl rfl (.inl rfl) (by simp only [go_sem, ↓reduceIte, Nat.reduceEqDiff]) (by simp only [go_sem]; rfl) (by simp [dOK]) fun c hc => ?_
  refine V.exec 400 ?_
  simp +contextual (maxSteps := 1000000) only [go_sem, ↓reduceIte, reduceCtorEq, yA, yB, uA, uB, uC, uD, uE, uF]
  exact ⟨fun h => ⟨hc h, 2, rfl, by decide⟩, fun _ => ⟨h1, by omega, by omega⟩⟩
set_option maxHeartbeats 4000000 in
theorem InsertPair (xs : List PV) (y : PV) (i : Nat) (h1 : ∀ x ∈ xs, x.cells.length = 2) (hy : y.cells.length = 2) (hi : i ≤ xs.length) (hl : xs.length ≤ 1000000) :
    Ct Try.prog 65 (.o 42 xs :: YtofmiaecjnfeaaaVm.ops [.int .i64 i, .rowp [y]]) (.own 42 (xs.take i ++ [y] ++ xs.drop i)) := by
  refine Ct.of_V Try.func65 rfl (by simp [YtofmiaecjnfeaaaVm.ops, Try.f65]) ?_
  refine V.opn 0 2 42 xs rfl (by simp only [go_sem, ↓reduceIte, reduceCtorEq, yA, yB, uA, uB, uC, uD, uE, uF]) fun q => ?_
  have hw : IntKind.i64.wrap ((xs.length : Int) + ((0 + 1 : Nat) : Int)) = ((xs.length + 1 : Nat) : Int) := by rw [wrap_small'] <;> omega
  have hw2 : IntKind.i64.wrap (((xs.length + 1 : Nat) : Int) - (i : Int)) = ((xs.length + 1 - i : Nat) : Int) := by rw [wrap_small'] <;> omega
  have hw3 : IntKind.i64.wrap ((i : Int) + ((0 + 1 : Nat) : Int)) = ((i + 1 : Nat) : Int) := by rw [wrap_small'] <;> omega
  refine V.execS [10, 14] 400 ?_
  simp +contextual (maxSteps := 1000000) only [go_sem, ↓reduceIte, reduceCtorEq, yA, yB, uA, uB, uC, uD, uE, uF, Try.f65, hy, hw, hw2, hw3]
  refine ⟨⟨hi, by omega⟩, fun h => absurd h (by omega), fun _ => ⟨fun he => ?_, fun hne => ⟨by omega, fun hlt => ⟨⟨by omega, by omega⟩, ⟨by omega, by omega, by omega, by omega, by omega⟩, ?_⟩, fun hge => ⟨by omega, ?_⟩⟩⟩⟩
  · -- at the end
    have hin : i = xs.length := by omega
    subst hin
    have e1 : xs.take xs.length ++ [y] ++ xs.drop xs.length = xs ++ [y] := by simp
    rw [e1]
    refine ⟨fun hr => ⟨by omega, ?_, ?_⟩, fun hr => ⟨⟨by omega, by omega, by omega, by omega⟩, by rw [List.take_length]⟩⟩
    · rw [over_length (by omega)]; simp
    · have e2 : over xs [y] (0 + xs.length) = xs ++ [y] := by simp [over]
      rw [e2, List.take_of_length_le (by simp)]
  · -- no room: a new row
    have hin : i < xs.length := by omega
    have hYl : (List.take (i - 0) xs ++ List.replicate (xs.length + 1 - i) (PV.agg [.str [], .str []])).length = xs.length + 1 := by
      simp; omega
    have hYt : (List.take (i - 0) xs ++ List.replicate (xs.length + 1 - i) (PV.agg [.str [], .str []])).take i = xs.take i := by
      rw [Nat.sub_zero, List.take_append_of_le_length (by simp; omega), List.take_take, Nat.min_self]
    generalize List.take (i - 0) xs ++ List.replicate (xs.length + 1 - i) (PV.agg [.str [], .str []]) = Y at *
    refine V.opn 32 2 42 Y (by simp only [go_sem, ↓reduceIte, reduceCtorEq, yA, yB, uA, uB, uC, uD, uE, uF]) (by simp only [go_sem, ↓reduceIte, reduceCtorEq, yA, yB, uA, uB, uC, uD, uE, uF]) fun q2 => ?_
    refine V.exec 400 ?_
    have m1 : min 1 (Y.length - i) = 1 := by omega
    have m2 : min (xs.length - i) (Y.length - (i + 1)) = xs.length - i := by omega
    simp +contextual (maxSteps := 1000000) only [go_sem, ↓reduceIte, reduceCtorEq, yA, yB, uA, uB, uC, uD, uE, uF, hy, hw, hw2, hw3, Nat.zero_add, Nat.sub_zero, m1, m2]
    have hol : (over Y [y] i).length = Y.length := by rw [over_length (by omega)]; simp; omega
    have hdl : (List.take (xs.length - i) (List.drop i xs)).length = xs.length - i := by simp
    simp only [hol, hdl]
    refine ⟨⟨by omega, by omega⟩, ⟨by omega, by omega⟩, ⟨by omega, by omega⟩, ⟨by omega, by omega⟩, ⟨by omega, by omega, by omega⟩, by kernel_rfl, ?_⟩
    have hd : List.take (xs.length - i) (List.take (xs.length - i) (List.drop i xs)) = xs.drop i := by rw [List.take_of_length_le (by simp), List.take_of_length_le (by simp)]
    rw [hd, ins_grow xs [y] i Y rfl hin hYl hYt]
    exact ⟨by simp; omega, (List.take_of_length_le (by simp; omega)).symm⟩
  · -- there is room
    refine V.exec 400 ?_
    simp +contextual (maxSteps := 1000000) only [go_sem, ↓reduceIte, reduceCtorEq, yA, yB, uA, uB, uC, uD, uE, uF, hy, hw, hw2, hw3, Nat.zero_add, Nat.sub_zero]
    refine ⟨⟨by omega, by omega⟩, ?_⟩
    refine V.ovl (f := 85) (zs := [y]) (id := 0) (sz := 2) (l := i + 1) (len := xs.length + 1 - (i + 1)) (xs := xs) (q := q) (e := 42) (tS := 29) (tR := 4) rfl rfl (by simp [dOK]) (by simp only [go_sem, ↓reduceIte, reduceCtorEq, yA, yB, uA, uB, uC, uD, uE, uF]) rfl rfl rfl (by kernel_rfl) (by kernel_rfl) (by simp only [go_sem, ↓reduceIte, reduceCtorEq, yA, yB, uA, uB, uC, uD, uE, uF]) (by simp only [go_sem, ↓reduceIte, reduceCtorEq, yA, yB, uA, uB, uC, uD, uE, uF]) (by simp only [go_sem, ↓reduceIte, reduceCtorEq, yA, yB, uA, uB, uC, uD, uE, uF]) (by simp only [go_sem, ↓reduceIte, reduceCtorEq, yA, yB, uA, uB, uC, uD, uE, uF]) (by simp only [go_sem, ↓reduceIte, reduceCtorEq, yA, yB, uA, uB, uC, uD, uE, uF]) (by omega) ?_
    refine V.exec 400 ?_
    have hin : i < xs.length := by omega
    have m3 : min (xs.length + 1 - i) (xs.length + 1 - (i + 1)) = xs.length - i := by omega
    have m4 : min 1 (xs.length + 1 - i) = 1 := by omega
    have hd2 : List.take (xs.length - i) (List.take (xs.length + 1 - i) (List.drop i xs)) = xs.drop i := by rw [List.take_take, List.take_of_length_le (by simp; omega)]
    have hd3 : (List.take (xs.length + 1 - i) (List.drop i xs)).length = xs.length - i := by simp; omega
    have hol : (over xs (xs.drop i) (i + 1)).length = xs.length + 1 := by rw [over_length (by omega), List.length_drop]; omega
    have hol2 : (over (over xs (xs.drop i) (i + 1)) [y] i).length = xs.length + 1 := by rw [over_length (by omega), hol]; simp; omega
    simp +contextual (maxSteps := 1000000) only [go_sem, ↓reduceIte, reduceCtorEq, yA, yB, uA, uB, uC, uD, uE, uF, hy, hw, hw2, hw3, Nat.zero_add, Nat.sub_zero, m3, m4, hd2, hd3, hol, hol2]
    refine ⟨⟨by omega, by omega⟩, ⟨by omega, by omega⟩, ⟨by omega, by omega, by omega⟩, by kernel_rfl, ⟨by omega, by omega⟩, ⟨by omega, by omega⟩, by omega, ?_⟩
    rw [ins_room xs [y] i rfl hin]
    exact (List.take_of_length_le (by simp; omega)).symm
set_option maxHeartbeats 4000000 in
theorem BSearchPair_any (xs : List PV) (t : PV) (g : FuncId) (caps : List PV) (c : PV → Int) (h1 : ∀ x ∈ xs, x.cells.length = 2 ∧ x.isAgg = true) (hl : xs.length ≤ 1000000) (hg : Entered Try.prog g)
    (hp : ∀ x ∈ xs, Ct Try.prog g (YtofmiaecjnfeaaaVm.ops ([x, t] ++ caps)) (.vals [.int .i64 (c x)])) :
    Ct Try.prog 82 (YtofmiaecjnfeaaaVm.ops [.row xs, t, .fn g caps]) (.vals [.int .i64 (bsI (cAt c xs) 0 xs.length : Nat), .bool (decide (∃ x, xs[bsI (cAt c xs) 0 xs.length]? = some x ∧ c x = 0))]) := by
  generalize hR : bsI (cAt c xs) 0 xs.length = r
  refine Ct.of_V Try.func82 rfl (by simp [YtofmiaecjnfeaaaVm.ops, Try.f82]) ?_
  refine V.exec 400 ?_
  simp +contextual (maxSteps := 1000000) only [go_sem, ↓reduceIte, reduceCtorEq, yA, yB, uA, uB, uC, uD, uE, uF, Try.f82]
  refine V.loop (fun m ls os => ∃ (i j : Nat), i ≤ j ∧ j ≤ xs.length ∧ m = j - i ∧ bsI (cAt c xs) i j = r ∧
        ls = [(0, .val (.row xs)), (1, .val t), (2, .val (.fn g caps)), (8, .val (.int .i64 xs.length)), (9, .val (.int .i64 i)), (10, .val (.int .i64 j))] ∧ os = []) 0 xs.length
      [(0, .val (.row xs)), (1, .val t), (2, .val (.fn g caps)), (8, .val (.int .i64 xs.length)), (9, .val (.int .i64 0)), (10, .val (.int .i64 xs.length))] [] []
      ⟨0, xs.length, Nat.zero_le _, Nat.le_refl _, rfl, hR, rfl, rfl⟩ (by simp only [go_sem, ↓reduceIte, reduceCtorEq, yA, yB, uA, uB, uC, uD, uE, uF]) ?_
  rintro m ls os ⟨i, j, hij, hjl, rfl, hr, rfl, rfl⟩
  refine V.exec 400 ?_
  by_cases hlt : i < j
  · have hlt' : (i : Int) < (j : Int) := by omega
    have hm : (i + j) / 2 < xs.length := by omega
    obtain ⟨x, hx⟩ : ∃ x, xs[(i + j) / 2]? = some x := ⟨_, List.getElem?_eq_getElem hm⟩
    have hxm : x ∈ xs := List.mem_of_getElem? hx
    obtain ⟨hxc, hxa⟩ := h1 x hxm
    have hca : cAt c xs ((i + j) / 2) = c x := by simp [cAt, hx]
    rw [bsI, dif_pos hlt, hca] at hr
    have hw1 : IntKind.i64.wrap ((i : Int) + (j : Int)) = ((i + j : Nat) : Int) := by rw [wrap_small2] <;> omega
    have hw2 : IntKind.u64.wrap ((i + j : Nat) : Int) = ((i + j : Nat) : Int) := by rw [wrap_u2] <;> omega
    have hw3 : ((i + j : Nat) : Int) / 2 = (((i + j) / 2 : Nat) : Int) := by omega
    have hw4 : IntKind.i64.wrap (((i + j) / 2 : Nat) : Int) = (((i + j) / 2 : Nat) : Int) := by rw [wrap_small2] <;> omega
    have hw5 : IntKind.i64.wrap ((((i + j) / 2 : Nat) : Int) + 1) = (((i + j) / 2 + 1 : Nat) : Int) := by rw [wrap_small2] <;> omega
    simp +contextual (maxSteps := 1000000) only [go_sem, ↓reduceIte, reduceCtorEq, yA, yB, uA, uB, uC, uD, uE, uF, hlt', hw1, hw2, hw3, hw4, hx, hxc, hxa]
    refine V.call rfl rfl (by simp [dOK]) ⟨g, caps, by simp only [go_sem, ↓reduceIte, reduceCtorEq, yA, yB, uA, uB, uC, uD, uE, uF], hg, .inl ⟨[x, t], _, .inl (by simp only [go_sem, ↓reduceIte, reduceCtorEq, yA, yB, uA, uB, uC, uD, uE, uF]), hp x hxm, .inl ⟨_, rfl, rfl, rfl, rfl⟩⟩⟩ ?_
    refine V.exec 400 ?_
    simp +contextual (maxSteps := 1000000) only [go_sem, ↓reduceIte, reduceCtorEq, yA, yB, uA, uB, uC, uD, uE, uF, hw5]
    constructor
    · intro hc
      rw [if_pos hc] at hr
      exact ⟨j - ((i + j) / 2 + 1), _, [], [], by omega, ⟨(i + j) / 2 + 1, j, by omega, hjl, rfl, hr, rfl, rfl⟩, by simp only [go_sem, ↓reduceIte, reduceCtorEq, yA, yB, uA, uB, uC, uD, uE, uF]⟩
    · intro hc
      rw [if_neg hc] at hr
      exact ⟨(i + j) / 2 - i, _, [], [], by omega, ⟨i, (i + j) / 2, by omega, by omega, rfl, hr, rfl, rfl⟩, by simp only [go_sem, ↓reduceIte, reduceCtorEq, yA, yB, uA, uB, uC, uD, uE, uF]⟩
  · have hlt' : ¬ (i : Int) < (j : Int) := by omega
    rw [bsI, dif_neg hlt] at hr
    subst hr
    by_cases hil : i < xs.length
    · have hil' : (i : Int) < (xs.length : Int) := by omega
      obtain ⟨x, hx⟩ : ∃ x, xs[i]? = some x := ⟨_, List.getElem?_eq_getElem hil⟩
      have hxm : x ∈ xs := List.mem_of_getElem? hx
      obtain ⟨hxc, hxa⟩ := h1 x hxm
      simp +contextual (maxSteps := 1000000) only [go_sem, ↓reduceIte, reduceCtorEq, yA, yB, uA, uB, uC, uD, uE, uF, hlt', hil', hx, hxc, hxa]
      refine V.call rfl rfl (by simp [dOK]) ⟨g, caps, by simp only [go_sem, ↓reduceIte, reduceCtorEq, yA, yB, uA, uB, uC, uD, uE, uF], hg, .inl ⟨[x, t], _, .inl (by simp only [go_sem, ↓reduceIte, reduceCtorEq, yA, yB, uA, uB, uC, uD, uE, uF]), hp x hxm, .inl ⟨_, rfl, rfl, rfl, rfl⟩⟩⟩ ?_
      refine V.exec 400 ?_
      simp +contextual (maxSteps := 1000000) only [go_sem, ↓reduceIte, reduceCtorEq, yA, yB, uA, uB, uC, uD, uE, uF, hx]
      simp [hx]
    · have hil' : ¬ (i : Int) < (xs.length : Int) := by omega
      simp +contextual (maxSteps := 1000000) only [go_sem, ↓reduceIte, reduceCtorEq, yA, yB, uA, uB, uC, uD, uE, uF, hlt', hil']
      have : xs[i]? = none := List.getElem?_eq_none (by omega)
      simp [this]

theorem BSearchPair (xs : List PV) (t : PV) (g : FuncId) (caps : List PV) (c : PV → Int) (h1 : ∀ x ∈ xs, x.cells.length = 2 ∧ x.isAgg = true) (hl : xs.length ≤ 1000000) (hg : Entered Try.prog g)
    (hp : ∀ x ∈ xs, Ct Try.prog g (YtofmiaecjnfeaaaVm.ops ([x, t] ++ caps)) (.vals [.int .i64 (c x)])) (r : Nat) (hr : r ≤ xs.length) (hr1 : ∀ i x, i < r → xs[i]? = some x → c x < 0) (hr2 : ∀ i x, r ≤ i → xs[i]? = some x → ¬ c x < 0) :
    Ct Try.prog 82 (YtofmiaecjnfeaaaVm.ops [.row xs, t, .fn g caps]) (.vals [.int .i64 r, .bool (decide (∃ x, xs[r]? = some x ∧ c x = 0))]) := by
  have h := BSearchPair_any xs t g caps c h1 hl hg hp
  have e : bsI (cAt c xs) 0 xs.length = r := bsI_eq (cAt c xs) 0 xs.length r (Nat.zero_le _) hr (fun m _ hm => by
      obtain ⟨x, hx⟩ : ∃ x, xs[m]? = some x := ⟨_, List.getElem?_eq_getElem (by omega)⟩
      have := hr1 m x hm hx
      simpa [cAt, hx] using this) (fun m hm hm2 => by
      obtain ⟨x, hx⟩ : ∃ x, xs[m]? = some x := ⟨_, List.getElem?_eq_getElem hm2⟩
      have := hr2 m x hm hx
      simpa [cAt, hx] using this)
  rw [e] at h
  exact h
end Go.Proofs.Ytofmiaecjnfeaaa
set_option linter.unusedVariables false
set_option linter.unusedSimpArgs false
set_option maxRecDepth 8000
namespace Go.Proofs.Ytofmiaecjnfeaaa
open Nat renaming reduceAdd → uA, reduceLT → uB, reduceEqDiff → uC, reduceLeDiff → uD, reduceSub → uE, reduceMul → uF
open Bool renaming false_eq_true → yA, true_eq_false → yB
open Go Go.Proofs Go.Proofs.YtofmiaecjnfeaaaVm Go.Proofs.Ytofmiaecjnfeaaa.Ty

def cmpStr (a b : List UInt8) : Int := if slt a b then -1 else if slt b a then 1 else 0
theorem isNaN_str (a : List UInt8) : Ct Try.prog 96 (YtofmiaecjnfeaaaVm.ops [.str a]) (.vals [.bool false]) := by
  refine Ct.of_V Try.func96 rfl (by simp [YtofmiaecjnfeaaaVm.ops, Try.f96]) ?_
  refine V.exec 400 ?_
  simp +contextual (maxSteps := 1000000) only [go_sem, ↓reduceIte, reduceCtorEq, yA, yB, uA, uB, uC, uD, uE, uF, Try.f96]
theorem Compare_str (a b : List UInt8) : Ct Try.prog 84 (YtofmiaecjnfeaaaVm.ops [.str a, .str b]) (.vals [.int .i64 (cmpStr a b)]) := by
  refine Ct.of_V Try.func84 rfl (by simp [YtofmiaecjnfeaaaVm.ops, Try.f84]) ?_
  refine V.exec 400 ?_
  simp +contextual (maxSteps := 1000000) only [go_sem, ↓reduceIte, reduceCtorEq, yA, yB, uA, uB, uC, uD, uE, uF, Try.f84]
  refine V.call rfl rfl (by simp [dOK]) ⟨96, [], by simp only [go_sem, ↓reduceIte, reduceCtorEq, yA, yB, uA, uB, uC, uD, uE, uF], ⟨_, rfl, rfl, rfl⟩, .inl ⟨[.str a], _, .inl (by simp only [go_sem, ↓reduceIte, reduceCtorEq, yA, yB, uA, uB, uC, uD, uE, uF]), isNaN_str a, .inl ⟨_, rfl, rfl, rfl, rfl⟩⟩⟩ ?_
  refine V.exec 400 ?_
  simp +contextual (maxSteps := 1000000) only [go_sem, ↓reduceIte, reduceCtorEq, yA, yB, uA, uB, uC, uD, uE, uF]
  refine V.call rfl rfl (by simp [dOK]) ⟨96, [], by simp only [go_sem, ↓reduceIte, reduceCtorEq, yA, yB, uA, uB, uC, uD, uE, uF], ⟨_, rfl, rfl, rfl⟩, .inl ⟨[.str b], _, .inl (by simp only [go_sem, ↓reduceIte, reduceCtorEq, yA, yB, uA, uB, uC, uD, uE, uF]), isNaN_str b, .inl ⟨_, rfl, rfl, rfl, rfl⟩⟩⟩ ?_
  refine V.exec 400 ?_
  simp +contextual (maxSteps := 1000000) only [go_sem, ↓reduceIte, reduceCtorEq, yA, yB, uA, uB, uC, uD, uE, uF]
  have e := slt_total a b
  have e2 := @slt_asymm a b
  have e3 := slt_irrefl b
  (repeat' (first | (intro _) | (refine ⟨by kernel_rfl, ?_⟩) | (apply And.intro)))
  all_goals grind [cmpStr]
theorem cmpStr_neg {a b : List UInt8} : cmpStr a b < 0 ↔ slt a b := by unfold cmpStr; split <;> (try split) <;> simp_all
theorem cmpStr_zero {a b : List UInt8} : cmpStr a b = 0 ↔ a = b := by
  have e := slt_total a b
  have e3 := slt_irrefl b
  unfold cmpStr
  constructor
  · intro h
    split at h
    · cases h
    · split at h
      · cases h
      · rcases e with e | e | e <;> first | exact e | contradiction
  · rintro rfl
    simp [e3]
theorem leaf_place1 (p : Pair) (k : List UInt8) : Ct Try.prog 83 (YtofmiaecjnfeaaaVm.ops [p.pv, .str k]) (.vals [.int .i64 (cmpStr p.key k)]) := by
  refine Ct.of_V Try.func83 rfl (by simp [YtofmiaecjnfeaaaVm.ops, Try.f83]) ?_
  refine V.exec 400 ?_
  simp +contextual (maxSteps := 1000000) only [go_sem, ↓reduceIte, reduceCtorEq, yA, yB, uA, uB, uC, uD, uE, uF, Try.f83, Pair.pv]
  refine V.call rfl rfl (by simp [dOK]) ⟨84, [], by simp only [go_sem, ↓reduceIte, reduceCtorEq, yA, yB, uA, uB, uC, uD, uE, uF], ⟨_, rfl, rfl, rfl⟩, .inl ⟨[.str p.key, .str k], _, .inl (by simp only [go_sem, ↓reduceIte, reduceCtorEq, yA, yB, uA, uB, uC, uD, uE, uF]), Compare_str p.key k, .inl ⟨_, rfl, rfl, rfl, rfl⟩⟩⟩ ?_
  refine V.exec 400 ?_
  simp +contextual (maxSteps := 1000000) only [go_sem, ↓reduceIte, reduceCtorEq, yA, yB, uA, uB, uC, uD, uE, uF]

def kOf (k : List UInt8) : PV → Int
  | .agg (.str a :: _) => cmpStr a k
  | _ => 0
/-- Where a search for a key ends. -/
def posA (l : List Pair) (k : List UInt8) : Nat := bsI (cAt (kOf k) (l.map Pair.pv)) 0 l.length
theorem posA_le (l : List Pair) (k : List UInt8) : posA l k ≤ l.length := bsI_le _ _ _ (Nat.zero_le _)

set_option maxHeartbeats 2000000 in
theorem leaf_place (l : List Pair) (k : List UInt8) (hl : l.length ≤ 1000000) :
    Ct Try.prog 63 (YtofmiaecjnfeaaaVm.ops [.row (l.map Pair.pv), .str k]) (.vals [.int .i64 (posA l k), .bool (decide (∃ x, l[posA l k]? = some x ∧ x.key = k))]) := by
  have hb := BSearchPair_any (l.map Pair.pv) (.str k) 83 [] (kOf k) (fun x hx => by
      obtain ⟨s, _, rfl⟩ := List.mem_map.1 hx
      exact ⟨rfl, rfl⟩) (by simpa using hl) ⟨_, rfl, rfl, rfl⟩ (fun x hx => by
      obtain ⟨s, _, rfl⟩ := List.mem_map.1 hx
      exact leaf_place1 s k)
  have e0 : bsI (cAt (kOf k) (l.map Pair.pv)) 0 (l.map Pair.pv).length = posA l k := by rw [List.length_map]; rfl
  rw [e0] at hb
  have e1 : (∃ x, (l.map Pair.pv)[posA l k]? = some x ∧ kOf k x = 0) ↔ ∃ x, l[posA l k]? = some x ∧ x.key = k := by
    constructor
    · rintro ⟨x, hx, hc⟩
      rw [List.getElem?_map, Option.map_eq_some_iff] at hx
      obtain ⟨s, hs', rfl⟩ := hx
      exact ⟨s, hs', cmpStr_zero.1 hc⟩
    · rintro ⟨s, hs', hc⟩
      exact ⟨s.pv, by rw [List.getElem?_map, hs']; rfl, cmpStr_zero.2 hc⟩
  simp only [e1] at hb
  refine Ct.of_V Try.func63 rfl (by simp [YtofmiaecjnfeaaaVm.ops, Try.f63]) ?_
  refine V.exec 400 ?_
  simp +contextual (maxSteps := 1000000) only [go_sem, ↓reduceIte, reduceCtorEq, yA, yB, uA, uB, uC, uD, uE, uF, Try.f63]
  refine V.call rfl rfl (by simp [dOK]) ⟨82, [], by simp only [go_sem, ↓reduceIte, reduceCtorEq, yA, yB, uA, uB, uC, uD, uE, uF], ⟨_, rfl, rfl, rfl⟩, .inl ⟨[.row (l.map Pair.pv), .str k, .fn 83 []], _, .inl (by simp only [go_sem, ↓reduceIte, reduceCtorEq, yA, yB, uA, uB, uC, uD, uE, uF]), hb, .inl ⟨_, rfl, rfl, rfl, rfl⟩⟩⟩ ?_
  refine V.exec 400 ?_
  simp +contextual (maxSteps := 1000000) only [go_sem, ↓reduceIte, reduceCtorEq, yA, yB, uA, uB, uC, uD, uE, uF]

/-- How many keys are less; who has a key. -/
def below (k : List UInt8) : List Pair → Nat
  | [] => 0
  | p :: r => if slt p.key k then below k r + 1 else 0
def getL (l : List Pair) (k : List UInt8) : Option Pair := l.find? fun p => decide (p.key = k)
theorem below_le (k : List UInt8) : ∀ l : List Pair, below k l ≤ l.length
  | [] => Nat.le_refl _
  | p :: r => by unfold below; split <;> simp; exact below_le k r
theorem below_lt {k : List UInt8} : ∀ (l : List Pair) (i : Nat) (x : Pair), i < below k l → l[i]? = some x → slt x.key k
  | p :: r, i, x, hi, hx => by
    unfold below at hi
    split at hi
    · cases i with
      | zero => simp at hx; subst hx; assumption
      | succ i => exact below_lt r i x (by omega) (by simpa using hx)
    · omega
/-- Keys that rise. -/
def rising : Option (List UInt8) → List Pair → Prop
  | _, [] => True
  | last, p :: r => (∀ k, last = some k → slt k p.key) ∧ rising (some p.key) r
theorem rising_of : ∀ (l : List Pair) (last : Option (List UInt8)), pairsFrom last l → rising last l
  | [], _, _ => trivial
  | p :: r, last, h => ⟨h.2.2.1, rising_of r _ h.2.2.2⟩
theorem rising_above : ∀ (l : List Pair) (k : List UInt8), rising (some k) l → ∀ x ∈ l, slt k x.key
  | p :: r, k, h, x, hx => by
    have h1 := h.1 k rfl
    rcases List.mem_cons.1 hx with rfl | hx
    · exact h1
    · exact slt_trans h1 (rising_above r p.key h.2 x hx)
theorem below_ge {k : List UInt8} : ∀ (l : List Pair) (last : Option (List UInt8)), rising last l → ∀ (i : Nat) (x : Pair), below k l ≤ i → l[i]? = some x → ¬ slt x.key k
  | p :: r, last, h, i, x, hi, hx => by
    unfold below at hi
    split at hi
    · cases i with
      | zero => omega
      | succ i => exact below_ge r _ h.2 i x (by omega) (by simpa using hx)
    · rename_i hn
      cases i with
      | zero => simp at hx; subst hx; exact hn
      | succ i =>
        have h2 := rising_above r p.key h.2 x (List.mem_of_getElem? (i := i) (by simpa using hx))
        intro hc
        exact hn (slt_trans h2 hc)
theorem posA_eq {l : List Pair} (h : rising none l) (k : List UInt8) : posA l k = below k l := by
  refine bsI_eq _ _ _ _ (Nat.zero_le _) (below_le k l) (fun m _ hm => ?_) (fun m hm hm2 => ?_)
  · obtain ⟨x, hx⟩ : ∃ x, l[m]? = some x := ⟨_, List.getElem?_eq_getElem (by have := below_le k l; omega)⟩
    have := below_lt l m x hm hx
    simp only [cAt, List.getElem?_map, hx, Option.map_some]
    exact cmpStr_neg.2 this
  · obtain ⟨x, hx⟩ : ∃ x, l[m]? = some x := ⟨_, List.getElem?_eq_getElem hm2⟩
    have := below_ge l none h m x hm hx
    simp only [cAt, List.getElem?_map, hx, Option.map_some]
    exact fun hc => this (cmpStr_neg.1 hc)
theorem below_find {k : List UInt8} : ∀ (l : List Pair) (last : Option (List UInt8)), rising last l → ∀ x, (l[below k l]? = some x ∧ x.key = k) ↔ getL l k = some x
  | [], _, _, x => by simp [below, getL]
  | p :: r, last, h, x => by
    unfold below getL
    by_cases hk : slt p.key k
    · have hne : ¬ p.key = k := fun e => slt_irrefl k (by rw [e] at hk; exact hk)
      rw [if_pos hk, List.find?_cons, decide_eq_false hne]
      simpa [getL] using below_find r _ h.2 x
    · rw [if_neg hk, List.find?_cons]
      by_cases he : p.key = k
      · simp [he]
        rintro rfl; exact he
      · have hr : getL r k = none := by
          unfold getL
          rw [List.find?_eq_none]
          intro y hy
          have h2 := rising_above r p.key h.2 y hy
          simp
          rintro rfl
          exact hk h2
        unfold getL at hr
        simp [he, hr]
        rintro rfl; exact he
def getV (l : List Pair) (k : List UInt8) : List UInt8 × Bool := if pairsOk l then match getL l k with | some p => (p.value, true) | none => ([], false) else ([], false)
def nextV (l : List Pair) (k : List UInt8) : Int := if pairsOk l then below k l else 0

set_option maxHeartbeats 2000000 in
theorem leaf_Get (l : List Pair) (k : List UInt8) (hl : l.length ≤ 1000000) : Ct Try.prog 51 (YtofmiaecjnfeaaaVm.ops [.row (l.map Pair.pv), .str k]) (.vals [.str (getV l k).1, .bool (decide ((getV l k).2 = true))]) := by
  refine Ct.of_V Try.func51 rfl (by simp [YtofmiaecjnfeaaaVm.ops, Try.f51]) ?_
  refine V.exec 400 ?_
  simp +contextual (maxSteps := 1000000) only [go_sem, ↓reduceIte, reduceCtorEq, yA, yB, uA, uB, uC, uD, uE, uF, Try.f51]
  refine V.call rfl rfl (by simp [dOK]) ⟨63, [], by simp only [go_sem, ↓reduceIte, reduceCtorEq, yA, yB, uA, uB, uC, uD, uE, uF], ⟨_, rfl, rfl, rfl⟩, .inl ⟨[.row (l.map Pair.pv), .str k], _, .inl (by simp only [go_sem, ↓reduceIte, reduceCtorEq, yA, yB, uA, uB, uC, uD, uE, uF]), leaf_place l k hl, .inl ⟨_, rfl, rfl, rfl, rfl⟩⟩⟩ ?_
  refine V.exec 400 ?_
  by_cases he : ∃ x, l[posA l k]? = some x ∧ x.key = k
  · obtain ⟨x, hx⟩ := he
    have he : (∃ x, l[posA l k]? = some x ∧ x.key = k) := ⟨x, hx⟩
    have hlt := (List.getElem?_eq_some_iff.1 hx.1).1
    have hlt' : ((posA l k : Nat) : Int) < (l.length : Int) := by omega
    have hE : (∃ y, some x = some y ∧ y.key = k) := ⟨x, rfl, hx.2⟩
    simp +contextual (maxSteps := 1000000) only [go_sem, ↓reduceIte, reduceCtorEq, yA, yB, uA, uB, uC, uD, uE, uF, hx.1, hE]
    refine V.call rfl rfl (by simp [dOK]) ⟨61, [], by simp only [go_sem, ↓reduceIte, reduceCtorEq, yA, yB, uA, uB, uC, uD, uE, uF], ⟨_, rfl, rfl, rfl⟩, .inl ⟨[.row (l.map Pair.pv)], _, .inl (by simp only [go_sem, ↓reduceIte, reduceCtorEq, yA, yB, uA, uB, uC, uD, uE, uF]), leaf_Right l hl, .inl ⟨_, rfl, rfl, rfl, rfl⟩⟩⟩ ?_
    refine V.exec 400 ?_
    by_cases hok : pairsOk l
    · have hr := rising_of l none hok
      have hp := posA_eq hr k
      have hg := (below_find l none hr x).1 (by rw [← hp]; exact hx)
      have hv : getV l k = (x.value, true) := by simp [getV, hok, hg]
      simp +contextual (maxSteps := 1000000) only [go_sem, ↓reduceIte, reduceCtorEq, yA, yB, uA, uB, uC, uD, uE, uF, hok, hx.1, hlt', hv, Pair.pv]
    · have hv : getV l k = ([], false) := by simp [getV, hok]
      simp +contextual (maxSteps := 1000000) only [go_sem, ↓reduceIte, reduceCtorEq, yA, yB, uA, uB, uC, uD, uE, uF, hok, hv]
  · have hv : getV l k = ([], false) := by
      unfold getV
      split
      · rename_i hok
        have hr := rising_of l none hok
        have hp := posA_eq hr k
        cases hg : getL l k with
        | none => rfl
        | some x => exact absurd ⟨x, by rw [hp]; exact (below_find l none hr x).2 hg⟩ he
      · rfl
    simp +contextual (maxSteps := 1000000) only [go_sem, ↓reduceIte, reduceCtorEq, yA, yB, uA, uB, uC, uD, uE, uF, he, hv]

end Go.Proofs.Ytofmiaecjnfeaaa
set_option linter.unusedVariables false
set_option linter.unusedSimpArgs false
set_option maxRecDepth 8000
namespace Go.Proofs.Ytofmiaecjnfeaaa
open Nat renaming reduceAdd → uA, reduceLT → uB, reduceEqDiff → uC, reduceLeDiff → uD, reduceSub → uE, reduceMul → uF
open Bool renaming false_eq_true → yA, true_eq_false → yB
open Go Go.Proofs Go.Proofs.YtofmiaecjnfeaaaVm Go.Proofs.Ytofmiaecjnfeaaa.Ty

/-- Notes that wait well. -/
def noteFrom : Option (List UInt8) → List Note → Prop
  | _, [] => True
  | last, p :: r => p.ok ∧ (∀ k, last = some k → slt k p.key) ∧ noteFrom (some p.key) r
def waitOk (l : List Note) : Prop := noteFrom none l
instance instNF : ∀ (last : Option (List UInt8)) (l : List Note), Decidable (noteFrom last l)
  | _, [] => isTrue trivial
  | none, s :: r => by
    unfold noteFrom
    have := instNF (some s.key) r
    have : Decidable (∀ k, none = some k → slt k s.key) := isTrue (fun k h => by cases h)
    infer_instance
  | some k, s :: r => by
    unfold noteFrom
    have := instNF (some s.key) r
    have : Decidable (∀ k', some k = some k' → slt k' s.key) := decidable_of_iff (slt k s.key) ⟨fun h k' e => by cases e; exact h, fun h => h k rfl⟩
    infer_instance
instance instWaitOk (l : List Note) : Decidable (waitOk l) := by unfold waitOk; infer_instance
def prevNote (l : List Note) (i : Nat) : Option (List UInt8) := if i = 0 then none else (l[i - 1]?).map Note.key
theorem noteFrom_iff : ∀ (l : List Note) (last : Option (List UInt8)), noteFrom last l ↔ (∀ k, last = some k → ∀ x ∈ l, slt k x.key) ∧ gSorted Note.key l ∧ ∀ x ∈ l, x.ok
  | [], last => by simp [noteFrom, gSorted]
  | p :: r, last => by
    rw [noteFrom, noteFrom_iff r]
    unfold gSorted
    rw [List.pairwise_cons]
    constructor
    · rintro ⟨h1, h2, h3, h4, h5⟩
      refine ⟨fun k hk x hx => ?_, ⟨fun x hx => h3 _ rfl x hx, h4⟩, fun x hx => ?_⟩
      · rcases List.mem_cons.1 hx with rfl | hx
        · exact h2 k hk
        · exact slt_trans (h2 k hk) (h3 _ rfl x hx)
      · rcases List.mem_cons.1 hx with rfl | hx
        · exact h1
        · exact h5 x hx
    · rintro ⟨h1, ⟨h2, h3⟩, h4⟩
      exact ⟨h4 p List.mem_cons_self, fun k hk => h1 k hk p List.mem_cons_self, fun k hk x hx => by cases hk; exact h2 x hx, h3, fun x hx => h4 x (List.mem_cons_of_mem _ hx)⟩
theorem waitOk_iff (l : List Note) : waitOk l ↔ gSorted Note.key l ∧ ∀ x ∈ l, x.ok := by
  unfold waitOk
  rw [noteFrom_iff]
  simp

set_option maxRecDepth 4000 in
set_option maxHeartbeats 8000000 in
theorem pend_Right (l : List Note) (hl : l.length ≤ 1000000) : Ct Try.prog 67 (YtofmiaecjnfeaaaVm.ops [.row (l.map Note.pv)]) (.vals [.bool (decide (waitOk l))]) := by
  refine Ct.of_V Try.func67 rfl (by simp [YtofmiaecjnfeaaaVm.ops, Try.f67]) ?_
  refine V.exec 400 ?_
  simp +contextual (maxSteps := 1000000) only [go_sem, ↓reduceIte, reduceCtorEq, yA, yB, uA, uB, uC, uD, uE, uF, Try.f67]
  refine V.loop (fun m ls os => ∃ (i : Nat), i ≤ l.length ∧ m = l.length - i ∧ (waitOk l ↔ noteFrom (prevNote l i) (l.drop i)) ∧
        ls = [(0, .val (.row (l.map Note.pv))), (5, .val (.row (l.map Note.pv))), (6, .val (.int .i64 l.length)), (7, .val (.int .i64 i))] ∧ os = []) 0 l.length
      [(0, .val (.row (l.map Note.pv))), (5, .val (.row (l.map Note.pv))), (6, .val (.int .i64 l.length)), (7, .val (.int .i64 0))] [] []
      ⟨0, Nat.zero_le _, rfl, Iff.rfl, rfl, rfl⟩ (by simp only [go_sem, ↓reduceIte, reduceCtorEq, yA, yB, uA, uB, uC, uD, uE, uF]) ?_
  rintro m ls os ⟨i, hi, rfl, hiff, rfl, rfl⟩
  refine V.exec 400 ?_
  by_cases hlt : i < l.length
  · have hlt' : (i : Int) < (l.length : Int) := by omega
    obtain ⟨x, hx⟩ : ∃ x, l[i]? = some x := ⟨_, List.getElem?_eq_getElem hlt⟩
    have hw : IntKind.i64.wrap ((i : Int) + 1) = ((i + 1 : Nat) : Int) := by rw [wrap_small3] <;> omega
    rw [drop_of_get hx, noteFrom] at hiff
    have hpk : prevNote l (i + 1) = some x.key := by simp [prevNote, hx]
    have fin : x.ok → (∀ k, prevNote l i = some k → slt k x.key) → (waitOk l ↔ noteFrom (prevNote l (i + 1)) (l.drop (i + 1))) := fun a b => by
      rw [hiff, hpk]; exact ⟨fun h => h.2.2, fun h => ⟨a, b, h⟩⟩
    have hfalse : ¬ waitOk l → some [PV.bool false] = some [PV.bool (decide (waitOk l))] := fun h => by simp [h]
    simp +contextual (maxSteps := 1000000) only [go_sem, ↓reduceIte, reduceCtorEq, yA, yB, uA, uB, uC, uD, uE, uF, hlt', hx, Note.pv]
    refine DV.call [] [] (by simp only [go_sem, ↓reduceIte, reduceCtorEq, yA, yB, uA, uB, uC, uD, uE, uF, Note.pv]) (by simp [dOK]) ⟨24, [], by simp only [go_sem, ↓reduceIte, reduceCtorEq, yA, yB, uA, uB, uC, uD, uE, uF, Note.pv], ⟨_, rfl, rfl, rfl⟩, .inl ⟨[x.pv], _, .inl (by simp only [go_sem, ↓reduceIte, reduceCtorEq, yA, yB, uA, uB, uC, uD, uE, uF, Note.pv]), note_Right x, .inl ⟨_, rfl, rfl, rfl, rfl⟩⟩⟩ (by simp only [go_sem, ↓reduceIte, reduceCtorEq, yA, yB, uA, uB, uC, uD, uE, uF, Note.pv]) (by simp only [go_sem, ↓reduceIte, reduceCtorEq, yA, yB, uA, uB, uC, uD, uE, uF, Note.pv]) (by simp only [go_sem, ↓reduceIte, reduceCtorEq, yA, yB, uA, uB, uC, uD, uE, uF, Note.pv]) (by simp) ?_
    refine DV.exec 400 ?_
    by_cases hok : x.ok
    · rcases Nat.eq_zero_or_pos i with rfl | hpos
      · have hz : ¬ (0 : Int) < ((0 : Nat) : Int) := by omega
        simp +contextual (maxSteps := 1000000) only [go_sem, ↓reduceIte, reduceCtorEq, yA, yB, uA, uB, uC, uD, uE, uF, hlt', hx, Note.pv, hw, hz, hok]
        (repeat' (first | (intro _) | (refine ⟨by kernel_rfl, ?_⟩) | (apply And.intro)))
        exact ⟨l.length - (0 + 1), _, [], [], by omega, ⟨1, by omega, rfl, fin hok (fun k h => by simp [prevNote] at h), rfl, rfl⟩, by simp only [go_sem, ↓reduceIte, reduceCtorEq, yA, yB, uA, uB, uC, uD, uE, uF]⟩
      · obtain ⟨j, rfl⟩ : ∃ j, i = j + 1 := ⟨i - 1, by omega⟩
        have hw2 : IntKind.i64.wrap (((j + 1 : Nat) : Int) - 1) = (j : Int) := by rw [wrap_small3] <;> omega
        have hjp : (0 : Int) < ((j + 1 : Nat) : Int) := by omega
        obtain ⟨y, hy⟩ : ∃ y, l[j]? = some y := ⟨_, List.getElem?_eq_getElem (by omega)⟩
        simp +contextual (maxSteps := 1000000) only [go_sem, ↓reduceIte, reduceCtorEq, yA, yB, uA, uB, uC, uD, uE, uF, hlt', hx, Note.pv, hw, hw2, hjp, hy, hok]
        (repeat' (first | (intro _) | (refine ⟨by kernel_rfl, ?_⟩) | (apply And.intro)))
        all_goals first
          | exact ⟨l.length - (j + 1 + 1), _, [], [], by omega, ⟨j + 1 + 1, by omega, rfl, fin hok (fun k h => by simp [prevNote, hy] at h; rw [← h]; assumption), rfl, rfl⟩, by simp only [go_sem, ↓reduceIte, reduceCtorEq, yA, yB, uA, uB, uC, uD, uE, uF]⟩
          | (refine hfalse fun h => ?_
             have := (hiff.1 h).2.1 y.key (by simp [prevNote, hy])
             contradiction)
    · simp +contextual (maxSteps := 1000000) only [go_sem, ↓reduceIte, reduceCtorEq, yA, yB, uA, uB, uC, uD, uE, uF, hlt', hx, Note.pv, hw, hok]
      (repeat' (first | (intro _) | (refine ⟨by kernel_rfl, ?_⟩) | (apply And.intro)))
      all_goals exact hfalse fun h => hok (hiff.1 h).1
  · have hlt' : ¬ (i : Int) < (l.length : Int) := by omega
    have hd : l.drop i = [] := List.drop_eq_nil_of_le (by omega)
    rw [hd, noteFrom] at hiff
    simp +contextual (maxSteps := 1000000) only [go_sem, ↓reduceIte, reduceCtorEq, yA, yB, uA, uB, uC, uD, uE, uF, hlt']
    simp [hiff]

theorem pend_place1 (p : Note) (k : List UInt8) : Ct Try.prog 88 (YtofmiaecjnfeaaaVm.ops [p.pv, .str k]) (.vals [.int .i64 (cmpStr p.key k)]) := by
  refine Ct.of_V Try.func88 rfl (by simp [YtofmiaecjnfeaaaVm.ops, Try.f88]) ?_
  refine V.exec 400 ?_
  simp +contextual (maxSteps := 1000000) only [go_sem, ↓reduceIte, reduceCtorEq, yA, yB, uA, uB, uC, uD, uE, uF, Try.f88, Note.pv]
  refine V.call rfl rfl (by simp [dOK]) ⟨84, [], by simp only [go_sem, ↓reduceIte, reduceCtorEq, yA, yB, uA, uB, uC, uD, uE, uF], ⟨_, rfl, rfl, rfl⟩, .inl ⟨[.str p.key, .str k], _, .inl (by simp only [go_sem, ↓reduceIte, reduceCtorEq, yA, yB, uA, uB, uC, uD, uE, uF]), Compare_str p.key k, .inl ⟨_, rfl, rfl, rfl, rfl⟩⟩⟩ ?_
  refine V.exec 400 ?_
  simp +contextual (maxSteps := 1000000) only [go_sem, ↓reduceIte, reduceCtorEq, yA, yB, uA, uB, uC, uD, uE, uF]
def kOfN (k : List UInt8) : PV → Int
  | .agg (_ :: .str a :: _) => cmpStr a k
  | _ => 0
def posN (l : List Note) (k : List UInt8) : Nat := bsI (cAt (kOfN k) (l.map Note.pv)) 0 l.length
theorem posN_le (l : List Note) (k : List UInt8) : posN l k ≤ l.length := bsI_le _ _ _ (Nat.zero_le _)

set_option maxHeartbeats 2000000 in
theorem pend_place (l : List Note) (k : List UInt8) (hl : l.length ≤ 1000000) :
    Ct Try.prog 69 (YtofmiaecjnfeaaaVm.ops [.row (l.map Note.pv), .str k]) (.vals [.int .i64 (posN l k), .bool (decide (∃ x, l[posN l k]? = some x ∧ x.key = k))]) := by
  have hb := BSearchNote_any (l.map Note.pv) (.str k) 88 [] (kOfN k) (fun x hx => by
      obtain ⟨s, _, rfl⟩ := List.mem_map.1 hx
      exact ⟨rfl, rfl⟩) (by simpa using hl) ⟨_, rfl, rfl, rfl⟩ (fun x hx => by
      obtain ⟨s, _, rfl⟩ := List.mem_map.1 hx
      exact pend_place1 s k)
  have e0 : bsI (cAt (kOfN k) (l.map Note.pv)) 0 (l.map Note.pv).length = posN l k := by rw [List.length_map]; rfl
  rw [e0] at hb
  have e1 : (∃ x, (l.map Note.pv)[posN l k]? = some x ∧ kOfN k x = 0) ↔ ∃ x, l[posN l k]? = some x ∧ x.key = k := by
    constructor
    · rintro ⟨x, hx, hc⟩
      rw [List.getElem?_map, Option.map_eq_some_iff] at hx
      obtain ⟨s, hs', rfl⟩ := hx
      exact ⟨s, hs', cmpStr_zero.1 hc⟩
    · rintro ⟨s, hs', hc⟩
      exact ⟨s.pv, by rw [List.getElem?_map, hs']; rfl, cmpStr_zero.2 hc⟩
  simp only [e1] at hb
  refine Ct.of_V Try.func69 rfl (by simp [YtofmiaecjnfeaaaVm.ops, Try.f69]) ?_
  refine V.exec 400 ?_
  simp +contextual (maxSteps := 1000000) only [go_sem, ↓reduceIte, reduceCtorEq, yA, yB, uA, uB, uC, uD, uE, uF, Try.f69]
  refine V.call rfl rfl (by simp [dOK]) ⟨87, [], by simp only [go_sem, ↓reduceIte, reduceCtorEq, yA, yB, uA, uB, uC, uD, uE, uF], ⟨_, rfl, rfl, rfl⟩, .inl ⟨[.row (l.map Note.pv), .str k, .fn 88 []], _, .inl (by simp only [go_sem, ↓reduceIte, reduceCtorEq, yA, yB, uA, uB, uC, uD, uE, uF]), hb, .inl ⟨_, rfl, rfl, rfl, rfl⟩⟩⟩ ?_
  refine V.exec 400 ?_
  simp +contextual (maxSteps := 1000000) only [go_sem, ↓reduceIte, reduceCtorEq, yA, yB, uA, uB, uC, uD, uE, uF]
theorem posN_eq {l : List Note} (h : gSorted Note.key l) (k : List UInt8) : posN l k = gBelow Note.key k l := by
  refine bsI_eq _ _ _ _ (Nat.zero_le _) (gBelow_le Note.key k l) (fun m _ hm => ?_) (fun m hm hm2 => ?_)
  · obtain ⟨x, hx⟩ : ∃ x, l[m]? = some x := ⟨_, List.getElem?_eq_getElem (by have := gBelow_le Note.key k l; omega)⟩
    have := gBelow_lt Note.key l m x hm hx
    simp only [cAt, List.getElem?_map, hx, Option.map_some]
    exact cmpStr_neg.2 this
  · obtain ⟨x, hx⟩ : ∃ x, l[m]? = some x := ⟨_, List.getElem?_eq_getElem hm2⟩
    have := gBelow_ge Note.key l h m x hm hx
    simp only [cAt, List.getElem?_map, hx, Option.map_some]
    exact fun hc => this (cmpStr_neg.1 hc)

def Note.zero : Note := ⟨0, [], [], 0⟩
def findN (l : List Note) (k : List UInt8) : Note × Bool := if waitOk l then match gGet Note.key l k with | some p => (p, true) | none => (Note.zero, false) else (Note.zero, false)

set_option maxHeartbeats 2000000 in
theorem pend_Find (l : List Note) (k : List UInt8) (hl : l.length ≤ 1000000) : Ct Try.prog 53 (YtofmiaecjnfeaaaVm.ops [.row (l.map Note.pv), .str k]) (.vals [(findN l k).1.pv, .bool (decide ((findN l k).2 = true))]) := by
  refine Ct.of_V Try.func53 rfl (by simp [YtofmiaecjnfeaaaVm.ops, Try.f53]) ?_
  refine V.exec 400 ?_
  simp +contextual (maxSteps := 1000000) only [go_sem, ↓reduceIte, reduceCtorEq, yA, yB, uA, uB, uC, uD, uE, uF, Try.f53]
  refine V.call rfl rfl (by simp [dOK]) ⟨69, [], by simp only [go_sem, ↓reduceIte, reduceCtorEq, yA, yB, uA, uB, uC, uD, uE, uF], ⟨_, rfl, rfl, rfl⟩, .inl ⟨[.row (l.map Note.pv), .str k], _, .inl (by simp only [go_sem, ↓reduceIte, reduceCtorEq, yA, yB, uA, uB, uC, uD, uE, uF]), pend_place l k hl, .inl ⟨_, rfl, rfl, rfl, rfl⟩⟩⟩ ?_
  refine V.exec 400 ?_
  by_cases he : ∃ x, l[posN l k]? = some x ∧ x.key = k
  · obtain ⟨x, hx⟩ := he
    have he : (∃ x, l[posN l k]? = some x ∧ x.key = k) := ⟨x, hx⟩
    have hlt := (List.getElem?_eq_some_iff.1 hx.1).1
    have hlt' : ((posN l k : Nat) : Int) < (l.length : Int) := by omega
    have hE : (∃ y, some x = some y ∧ y.key = k) := ⟨x, rfl, hx.2⟩
    simp +contextual (maxSteps := 1000000) only [go_sem, ↓reduceIte, reduceCtorEq, yA, yB, uA, uB, uC, uD, uE, uF, hx.1, hE]
    refine V.call rfl rfl (by simp [dOK]) ⟨67, [], by simp only [go_sem, ↓reduceIte, reduceCtorEq, yA, yB, uA, uB, uC, uD, uE, uF], ⟨_, rfl, rfl, rfl⟩, .inl ⟨[.row (l.map Note.pv)], _, .inl (by simp only [go_sem, ↓reduceIte, reduceCtorEq, yA, yB, uA, uB, uC, uD, uE, uF]), pend_Right l hl, .inl ⟨_, rfl, rfl, rfl, rfl⟩⟩⟩ ?_
    refine V.exec 400 ?_
    by_cases hok : waitOk l
    · have hr := ((waitOk_iff l).1 hok).1
      have hp := posN_eq hr k
      have hg := (gBelow_find Note.key l hr x).1 (by rw [← hp]; exact hx)
      have hv : findN l k = (x, true) := by simp [findN, hok, hg]
      simp +contextual (maxSteps := 1000000) only [go_sem, ↓reduceIte, reduceCtorEq, yA, yB, uA, uB, uC, uD, uE, uF, hok, hx.1, hlt', hv, Note.pv]
    · have hv : findN l k = (Note.zero, false) := by simp [findN, hok]
      simp +contextual (maxSteps := 1000000) only [go_sem, ↓reduceIte, reduceCtorEq, yA, yB, uA, uB, uC, uD, uE, uF, hok, hv, Note.zero, Note.pv]
  · have hv : findN l k = (Note.zero, false) := by
      unfold findN
      split
      · rename_i hok
        have hr := ((waitOk_iff l).1 hok).1
        have hp := posN_eq hr k
        cases hg : gGet Note.key l k with
        | none => rfl
        | some x => exact absurd ⟨x, by rw [hp]; exact (gBelow_find Note.key l hr x).2 hg⟩ he
      · rfl
    simp +contextual (maxSteps := 1000000) only [go_sem, ↓reduceIte, reduceCtorEq, yA, yB, uA, uB, uC, uD, uE, uF, he, hv, Note.zero, Note.pv]
end Go.Proofs.Ytofmiaecjnfeaaa
set_option linter.unusedVariables false
set_option linter.unusedSimpArgs false
set_option maxRecDepth 8000
namespace Go.Proofs.Ytofmiaecjnfeaaa
open Nat renaming reduceAdd → uA, reduceLT → uB, reduceEqDiff → uC, reduceLeDiff → uD, reduceSub → uE, reduceMul → uF
open Bool renaming false_eq_true → yA, true_eq_false → yB
open Go Go.Proofs Go.Proofs.YtofmiaecjnfeaaaVm Go.Proofs.Ytofmiaecjnfeaaa.Ty

theorem bothV_key (a b : Note) : (bothV a b).key = b.key := by
  unfold bothV
  split
  · rfl
  · split
    · split
      · rfl
      · split
        · rfl
        · split <;> rfl
    · rfl
theorem beB_short (n : Int) : (beB n 8).length ≤ 32 := by rw [beB_len]; decide
theorem doneOne_short (st : List UInt8 × Bool) {x : Note} (hx : x.ok) : (doneOne st x).1.length ≤ 32 := by
  unfold doneOne
  have := hx.2.1
  rcases hx.2.2 with h | h | h <;> simp [h.1]
  · exact this
  · exact beB_short _
theorem bothV_ok {a b : Note} (ha : a.ok) (hb : b.ok) : (bothV a b).ok := by
  unfold bothV
  split
  · exact hb
  · split
    · rename_i h3
      split
      · exact ⟨hb.1, doneOne_short _ hb, .inl ⟨rfl, rfl⟩⟩
      · split
        · exact ⟨hb.1, doneOne_short _ hb, .inl ⟨rfl, rfl⟩⟩
        · split
          · refine ⟨hb.1, hb.2.1, .inr (.inr ⟨h3, ?_⟩)⟩
            rcases hb.2.2 with h | h | h
            · rw [h3] at h; exact absurd h.1 (by decide)
            · rw [h3] at h; exact absurd h.1 (by decide)
            · exact h.2
          · exact hb
    · rename_i h1 h3
      rcases hb.2.2 with h | h | h
      · exact absurd (.inl h.1) h1
      · exact absurd (.inr h.1) h1
      · exact absurd h.1 h3
def mergeV (l : List Note) (x : Note) : Note := match gGet Note.key l x.key with
  | some o => bothV o x
  | none => x
theorem mergeV_key (l : List Note) (x : Note) : (mergeV l x).key = x.key := by
  unfold mergeV
  split
  · exact bothV_key _ _
  · rfl
def pushOne (l : List Note) (x : Note) : List Note := gPut Note.key l (mergeV l x)
def pushV (l : List Note) (ns : List Note) : List Note := ns.foldl pushOne l
theorem pushOne_sorted {l : List Note} (hs : gSorted Note.key l) (x : Note) : gSorted Note.key (pushOne l x) := gPut_sorted Note.key hs _
theorem pushOne_len {l : List Note} (hs : gSorted Note.key l) (x : Note) : (pushOne l x).length ≤ l.length + 1 := gPut_len Note.key hs _
theorem pushOne_get {l : List Note} (hs : gSorted Note.key l) (x : Note) (k : List UInt8) :
    gGet Note.key (pushOne l x) k = if k = x.key then some (match gGet Note.key l k with | some o => bothV o x | none => x) else gGet Note.key l k := by
  unfold pushOne
  rw [gPut_get Note.key hs, mergeV_key]
  by_cases h : k = x.key
  · subst h; rfl
  · rw [if_neg h, if_neg h]
theorem pushOne_ok {l : List Note} (h : waitOk l) {x : Note} (hx : x.ok) : waitOk (pushOne l x) := by
  rw [waitOk_iff] at *
  refine ⟨pushOne_sorted h.1 x, fun y hy => ?_⟩
  unfold pushOne gPut at hy
  rw [List.mem_append, List.mem_append] at hy
  rcases hy with (hy | hy) | hy
  · exact h.2 y (List.mem_filter.1 hy).1
  · simp at hy
    subst hy
    unfold mergeV
    split
    · rename_i o ho
      exact bothV_ok (h.2 o (gGet_mem Note.key ho).1) hx
    · exact hx
  · exact h.2 y (List.mem_filter.1 hy).1
theorem pushV_ok : ∀ (ns : List Note) {l : List Note}, waitOk l → (∀ x ∈ ns, x.ok) → waitOk (pushV l ns)
  | [], _, h, _ => h
  | x :: r, _, h, hn => pushV_ok r (pushOne_ok h (hn x List.mem_cons_self)) fun y hy => hn y (List.mem_cons_of_mem _ hy)
theorem pushV_sorted : ∀ (ns : List Note) {l : List Note}, gSorted Note.key l → gSorted Note.key (pushV l ns)
  | [], _, h => h
  | x :: r, _, h => pushV_sorted r (pushOne_sorted h x)
theorem pushV_len : ∀ (ns : List Note) {l : List Note}, gSorted Note.key l → (pushV l ns).length ≤ l.length + ns.length
  | [], _, _ => Nat.le_refl _
  | x :: r, l, h => by
    have h1 := pushV_len r (pushOne_sorted h x)
    have h2 := pushOne_len h x
    show (pushV (pushOne l x) r).length ≤ _
    simp only [List.length_cons]
    omega
def allOk (ns : List Note) : Prop := ∀ x ∈ ns, x.ok
instance instAllOk (ns : List Note) : Decidable (allOk ns) := by unfold allOk; infer_instance
def pushR (l : List Note) (ns : List Note) : List Note × Int := if waitOk l ∧ allOk ns then (pushV l ns, 0) else (l, 1)

theorem pend_Push1 (x : Note) : Ct Try.prog 68 (YtofmiaecjnfeaaaVm.ops [x.pv]) (.vals [.bool (decide (¬ x.ok))]) := by
  refine Ct.of_V Try.func68 rfl (by simp [YtofmiaecjnfeaaaVm.ops, Try.f68]) ?_
  refine V.exec 400 ?_
  simp +contextual (maxSteps := 1000000) only [go_sem, ↓reduceIte, reduceCtorEq, yA, yB, uA, uB, uC, uD, uE, uF, Try.f68, Note.pv]
  refine V.call rfl rfl (by simp [dOK]) ⟨24, [], by simp only [go_sem, ↓reduceIte, reduceCtorEq, yA, yB, uA, uB, uC, uD, uE, uF], ⟨_, rfl, rfl, rfl⟩, .inl ⟨[x.pv], _, .inl (by simp only [go_sem, ↓reduceIte, reduceCtorEq, yA, yB, uA, uB, uC, uD, uE, uF, Note.pv]), note_Right x, .inl ⟨_, rfl, rfl, rfl, rfl⟩⟩⟩ ?_
  refine V.exec 400 ?_
  simp +contextual (maxSteps := 1000000) only [go_sem, ↓reduceIte, reduceCtorEq, yA, yB, uA, uB, uC, uD, uE, uF]
def Note.ofP : PV → Note
  | .agg [.int _ a, .str b, .str c, .int _ d] => ⟨a, b, c, d⟩
  | _ => ⟨0, [], [], 0⟩
theorem Note.ofP_pv (x : Note) : Note.ofP x.pv = x := rfl

theorem Contains_badP (ns : List Note) (hl : ns.length ≤ 1000000) : Ct Try.prog 22 (YtofmiaecjnfeaaaVm.ops [.row (ns.map Note.pv), .fn 68 []]) (.vals [.bool (decide (¬ allOk ns))]) := by
  unfold allOk
  obtain ⟨r, hr, hr1, hr2, hr3⟩ := first_of (fun y => decide (¬ (Note.ofP y).ok)) (ns.map Note.pv)
  have hi := IndexFuncNote (ns.map Note.pv) 68 [] (fun y => decide (¬ (Note.ofP y).ok)) (fun y hy => by
      obtain ⟨s, _, rfl⟩ := List.mem_map.1 hy
      exact ⟨rfl, rfl⟩) (by simpa using hl) ⟨_, rfl, rfl, rfl⟩ (fun y hy => by
      obtain ⟨s, _, rfl⟩ := List.mem_map.1 hy
      rw [Note.ofP_pv]
      simpa using pend_Push1 s) r hr hr1 hr2
  refine Ct.of_V Try.func22 rfl (by simp [YtofmiaecjnfeaaaVm.ops, Try.f22]) ?_
  refine V.exec 400 ?_
  simp +contextual (maxSteps := 1000000) only [go_sem, ↓reduceIte, reduceCtorEq, yA, yB, uA, uB, uC, uD, uE, uF, Try.f22]
  refine V.call rfl rfl (by simp [dOK]) ⟨38, [], by simp only [go_sem, ↓reduceIte, reduceCtorEq, yA, yB, uA, uB, uC, uD, uE, uF], ⟨_, rfl, rfl, rfl⟩, .inl ⟨[.row (ns.map Note.pv), .fn 68 []], _, .inl (by simp only [go_sem, ↓reduceIte, reduceCtorEq, yA, yB, uA, uB, uC, uD, uE, uF]), hi, .inl ⟨_, rfl, rfl, rfl, rfl⟩⟩⟩ ?_
  refine V.exec 400 ?_
  simp +contextual (maxSteps := 1000000) only [go_sem, ↓reduceIte, reduceCtorEq, yA, yB, uA, uB, uC, uD, uE, uF]
  have e : (∃ y ∈ ns.map Note.pv, decide (¬ (Note.ofP y).ok) = true) ↔ ¬ ∀ x ∈ ns, x.ok := by
    constructor
    · rintro ⟨y, hy, hp⟩ hc
      obtain ⟨s, hs, rfl⟩ := List.mem_map.1 hy
      rw [Note.ofP_pv] at hp
      simp at hp
      exact hp (hc s hs)
    · intro h
      simp only [Classical.not_forall] at h
      obtain ⟨x, hx, hp⟩ := h
      exact ⟨x.pv, List.mem_map_of_mem hx, by rw [Note.ofP_pv]; simpa using hp⟩
  rw [e] at hr3
  rw [List.length_map] at hr3
  by_cases hc : ∀ x ∈ ns, x.ok
  · have : ¬ r < ns.length := fun h => (hr3.1 h) hc
    simp [this]
    exact hc
  · have h2 := hr3.2 hc
    simp [h2, hc]

set_option maxRecDepth 10000 in
set_option maxHeartbeats 16000000 in
theorem pend_Push (l : List Note) (ns : List Note) (hl : l.length ≤ 400000) (hn : ns.length ≤ 400000) : Ct Try.prog 42 (YtofmiaecjnfeaaaVm.ops [.row (l.map Note.pv), .row (ns.map Note.pv)]) (.vals [.row ((pushR l ns).1.map Note.pv), .int .i64 (pushR l ns).2]) := by
  have h2 : ∀ (l : List Note), ∀ x ∈ l.map Note.pv, x.cells.length = 4 := fun l x hx => by
    obtain ⟨s, _, rfl⟩ := List.mem_map.1 hx
    rfl
  refine Ct.of_V Try.func42 rfl (by simp [YtofmiaecjnfeaaaVm.ops, Try.f42]) ?_
  refine V.exec 400 ?_
  simp +contextual (maxSteps := 1000000) only [go_sem, ↓reduceIte, reduceCtorEq, yA, yB, uA, uB, uC, uD, uE, uF, Try.f42]
  refine V.call rfl rfl (by simp [dOK]) ⟨60, [], by simp only [go_sem, ↓reduceIte, reduceCtorEq, yA, yB, uA, uB, uC, uD, uE, uF], ⟨_, rfl, rfl, rfl⟩, .inl ⟨[.row (l.map Note.pv)], _, .inl (by simp only [go_sem, ↓reduceIte, reduceCtorEq, yA, yB, uA, uB, uC, uD, uE, uF]), CloneNote (l.map Note.pv) (h2 l) (by simp; omega), .inr (.inr ⟨50, (l.map Note.pv)   , rfl, by simp only [go_sem, ↓reduceIte, reduceCtorEq, yA, yB, uA, uB, uC, uD, uE, uF], rfl, rfl⟩)⟩⟩ ?_
  refine V.exec 400 ?_
  simp +contextual (maxSteps := 1000000) only [go_sem, ↓reduceIte, reduceCtorEq, yA, yB, uA, uB, uC, uD, uE, uF]
  refine V.call rfl rfl (by simp [dOK]) ⟨67, [], by simp only [go_sem, ↓reduceIte, reduceCtorEq, yA, yB, uA, uB, uC, uD, uE, uF], ⟨_, rfl, rfl, rfl⟩, .inl ⟨[.row (l.map Note.pv)], _, .inl (by simp only [go_sem, ↓reduceIte, reduceCtorEq, yA, yB, uA, uB, uC, uD, uE, uF]), pend_Right l (by omega), .inl ⟨_, rfl, rfl, rfl, rfl⟩⟩⟩ ?_
  refine V.exec 400 ?_
  by_cases hok : waitOk l
  · simp +contextual (maxSteps := 1000000) only [go_sem, ↓reduceIte, reduceCtorEq, yA, yB, uA, uB, uC, uD, uE, uF, hok]
    refine V.call rfl rfl (by simp [dOK]) ⟨22, [], by simp only [go_sem, ↓reduceIte, reduceCtorEq, yA, yB, uA, uB, uC, uD, uE, uF], ⟨_, rfl, rfl, rfl⟩, .inl ⟨[.row (ns.map Note.pv), .fn 68 []], _, .inl (by simp only [go_sem, ↓reduceIte, reduceCtorEq, yA, yB, uA, uB, uC, uD, uE, uF]), Contains_badP ns (by omega), .inl ⟨_, rfl, rfl, rfl, rfl⟩⟩⟩ ?_
    refine V.exec 400 ?_
    by_cases hall : allOk ns
    · have hv : pushR l ns = (pushV l ns, 0) := by simp only [pushR]; rw [if_pos ⟨hok, hall⟩]
      simp +contextual (maxSteps := 1000000) only [go_sem, ↓reduceIte, reduceCtorEq, yA, yB, uA, uB, uC, uD, uE, uF, hall, hv]
      refine V.loop (fun m ls os => ∃ (i : Nat) (cur : List Note), i ≤ ns.length ∧ m = ns.length - i ∧ gSorted Note.key cur ∧ cur.length ≤ l.length + i ∧ pushV cur (ns.drop i) = pushV l ns ∧
          ls = [(6, .ref 0), (21, .val (.row (ns.map Note.pv))), (22, .val (.int .i64 ns.length)), (23, .val (.int .i64 i))] ∧ os = [.row 50 (cur.map Note.pv)]) 1 ns.length
        [(6, .ref 0), (21, .val (.row (ns.map Note.pv))), (22, .val (.int .i64 ns.length)), (23, .val (.int .i64 0))] [.row 50 (l.map Note.pv)] [some 5]
        ⟨0, l, Nat.zero_le _, rfl, ((waitOk_iff l).1 hok).1, Nat.le_refl _, rfl, rfl, rfl⟩ (by simp only [go_sem, ↓reduceIte, reduceCtorEq, yA, yB, uA, uB, uC, uD, uE, uF]; try decide) ?_
      rintro m ls os ⟨i, cur, hi, rfl, hcs, hcl, hca, rfl, rfl⟩
      refine V.exec 400 ?_
      by_cases hlt : i < ns.length
      · have hlt' : (i : Int) < (ns.length : Int) := by omega
        obtain ⟨x, hx⟩ : ∃ x, ns[i]? = some x := ⟨_, List.getElem?_eq_getElem hlt⟩
        have hw : IntKind.i64.wrap ((i : Int) + 1) = ((i + 1 : Nat) : Int) := by rw [wrap_small3] <;> omega
        rw [drop_of_get hx, pushV, List.foldl_cons] at hca
        have hos := pushOne_sorted hcs x
        have hol := pushOne_len hcs x
        have hpb := posN_eq hcs x.key
        have hpl := pend_place cur x.key (by omega)
        rw [hpb] at hpl
        have hbl := gBelow_le Note.key x.key cur
        simp +contextual (maxSteps := 1000000) only [go_sem, ↓reduceIte, reduceCtorEq, yA, yB, uA, uB, uC, uD, uE, uF, hlt', hx, Note.pv]
        refine V.call rfl rfl (by simp [dOK]) ⟨69, [], by simp only [go_sem, ↓reduceIte, reduceCtorEq, yA, yB, uA, uB, uC, uD, uE, uF], ⟨_, rfl, rfl, rfl⟩, .inl ⟨[.row (cur.map Note.pv), .str x.key], _, .inl (by simp only [go_sem, ↓reduceIte, reduceCtorEq, yA, yB, uA, uB, uC, uD, uE, uF]), hpl, .inl ⟨_, rfl, rfl, rfl, rfl⟩⟩⟩ ?_
        refine V.exec 400 ?_
        cases hg : gGet Note.key cur x.key with
        | some p =>
          have hp := (gBelow_find Note.key cur hcs p).2 hg
          have hE : (∃ y, some p = some y ∧ y.key = x.key) := ⟨p, rfl, hp.2⟩
          have hrl := (List.getElem?_eq_some_iff.1 hp.1).1
          have hrl' : ((gBelow Note.key x.key cur : Nat) : Int) < (cur.length : Int) := by omega
          have hm : mergeV cur x = bothV p x := by simp [mergeV, hg]
          have hone : pushOne cur x = cur.set (gBelow Note.key x.key cur) (bothV p x) := by
            unfold pushOne
            rw [gPut_some Note.key hcs (p := p) (by rw [mergeV_key]; exact hg), mergeV_key, hm]
          simp +contextual (maxSteps := 1000000) only [go_sem, ↓reduceIte, reduceCtorEq, yA, yB, uA, uB, uC, uD, uE, uF, hp.1, hE, hrl', Note.pv]
          refine DV.call [] [] (by simp only [go_sem, ↓reduceIte, reduceCtorEq, yA, yB, uA, uB, uC, uD, uE, uF, Note.pv]) (by simp [dOK]) ⟨70, [], by simp only [go_sem, ↓reduceIte, reduceCtorEq, yA, yB, uA, uB, uC, uD, uE, uF, Note.pv], ⟨_, rfl, rfl, rfl⟩, .inl ⟨[p.pv, x.pv], _, .inl (by simp only [go_sem, ↓reduceIte, reduceCtorEq, yA, yB, uA, uB, uC, uD, uE, uF, Note.pv]), note_Both p x, .inr (.inl ⟨_, rfl, rfl, rfl⟩)⟩⟩ (by simp only [go_sem, ↓reduceIte, reduceCtorEq, yA, yB, uA, uB, uC, uD, uE, uF, Note.pv]) (by simp only [go_sem, ↓reduceIte, reduceCtorEq, yA, yB, uA, uB, uC, uD, uE, uF, Note.pv]) (by simp only [go_sem, ↓reduceIte, reduceCtorEq, yA, yB, uA, uB, uC, uD, uE, uF, Note.pv]) (by simp) ?_
          refine DV.exec 400 ?_
          simp +contextual (maxSteps := 1000000) only [go_sem, ↓reduceIte, reduceCtorEq, yA, yB, uA, uB, uC, uD, uE, uF, hp.1, hE, hrl', Note.pv, hw]
          refine ⟨by kernel_rfl, ns.length - (i + 1), _, _, [some 0], by omega, ⟨i + 1, pushOne cur x, by omega, rfl, hos, by omega, hca, rfl, rfl⟩, ?_⟩
          simp only [go_sem, ↓reduceIte, reduceCtorEq, yA, yB, uA, uB, uC, uD, uE, uF, hone, List.map_set, Note.pv]
          try decide
        | none =>
          have hE : ¬ ∃ y, cur[gBelow Note.key x.key cur]? = some y ∧ y.key = x.key := fun ⟨y, hy⟩ => by
            have := (gBelow_find Note.key cur hcs y).1 hy
            rw [hg] at this; cases this
          have hm : mergeV cur x = x := by simp [mergeV, hg]
          have hone : pushOne cur x = cur.take (gBelow Note.key x.key cur) ++ [x] ++ cur.drop (gBelow Note.key x.key cur) := by
            unfold pushOne
            rw [hm, gPut_none Note.key hcs hg]
          have hins := InsertNote (cur.map Note.pv) x.pv (gBelow Note.key x.key cur) (h2 cur) rfl (by simpa using hbl) (by simp; omega)
          have he : (cur.map Note.pv).take (gBelow Note.key x.key cur) ++ [x.pv] ++ (cur.map Note.pv).drop (gBelow Note.key x.key cur) = (pushOne cur x).map Note.pv := by
            rw [hone]; simp [List.map_append, List.map_take, List.map_drop]
          rw [he] at hins
          simp +contextual (maxSteps := 1000000) only [go_sem, ↓reduceIte, reduceCtorEq, yA, yB, uA, uB, uC, uD, uE, uF, hE, Note.pv]
          refine V.call rfl rfl (by simp [dOK]) ⟨71, [], by simp only [go_sem, ↓reduceIte, reduceCtorEq, yA, yB, uA, uB, uC, uD, uE, uF], ⟨_, rfl, rfl, rfl⟩, .inr (.inl ⟨0, 50, cur.map Note.pv, [.val (.int .i64 (gBelow Note.key x.key cur : Nat)), .ref 19], [.int .i64 (gBelow Note.key x.key cur : Nat), .rowp [x.pv]], 50, _, by simp only [go_sem, ↓reduceIte, reduceCtorEq, yA, yB, uA, uB, uC, uD, uE, uF], by simp only [go_sem, ↓reduceIte, reduceCtorEq, yA, yB, uA, uB, uC, uD, uE, uF], .inr ⟨[.val (.int .i64 (gBelow Note.key x.key cur : Nat))], 19, 50, [x.pv], [.int .i64 (gBelow Note.key x.key cur : Nat)], rfl, rfl, by simp only [go_sem, ↓reduceIte, reduceCtorEq, yA, yB, uA, uB, uC, uD, uE, uF, Note.pv], rfl⟩, hins, by simp only [go_sem, ↓reduceIte, reduceCtorEq, yA, yB, uA, uB, uC, uD, uE, uF], rfl, rfl⟩)⟩ ?_
          refine V.exec 400 ?_
          simp +contextual (maxSteps := 1000000) only [go_sem, ↓reduceIte, reduceCtorEq, yA, yB, uA, uB, uC, uD, uE, uF, hw]
          refine ⟨ns.length - (i + 1), _, _, [some 20], by omega, ⟨i + 1, pushOne cur x, by omega, rfl, hos, by omega, hca, rfl, rfl⟩, ?_⟩
          simp only [go_sem, ↓reduceIte, reduceCtorEq, yA, yB, uA, uB, uC, uD, uE, uF]
      · have hlt' : ¬ (i : Int) < (ns.length : Int) := by omega
        have hd : ns.drop i = [] := List.drop_eq_nil_of_le (by omega)
        rw [hd] at hca
        simp +contextual (maxSteps := 1000000) only [go_sem, ↓reduceIte, reduceCtorEq, yA, yB, uA, uB, uC, uD, uE, uF, hlt', ← hca]
        rfl
    · have hv : pushR l ns = (l, 1) := by simp only [pushR]; rw [if_neg (fun h => hall h.2)]
      simp +contextual (maxSteps := 1000000) only [go_sem, ↓reduceIte, reduceCtorEq, yA, yB, uA, uB, uC, uD, uE, uF, hall, hv]
  · have hv : pushR l ns = (l, 1) := by simp only [pushR]; rw [if_neg (fun h => hok h.1)]
    simp +contextual (maxSteps := 1000000) only [go_sem, ↓reduceIte, reduceCtorEq, yA, yB, uA, uB, uC, uD, uE, uF, hok, hv]
end Go.Proofs.Ytofmiaecjnfeaaa
