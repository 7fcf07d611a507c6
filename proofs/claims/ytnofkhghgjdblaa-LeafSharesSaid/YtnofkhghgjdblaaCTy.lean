/- The types of this seat, as the symbolic machine asks for them. -/
import Derived.Test.YtnofkhghgjdblaaProg
import Derived.Test.YtnofkhghgjdblaaVmS
import Derived.KernelRfl
set_option linter.unusedVariables false
namespace Go.Proofs.Ytnofkhghgjdblaa.Ty
open Go Go.Proofs Go.Proofs.YtnofkhghgjdblaaVm
theorem sz2 : szOf Try.prog 2 = some 1 := by kernel_rfl
theorem by2 : byOf Try.prog 2 = some 8 := by kernel_rfl
theorem ag2 : aggOf Try.prog 2 = some false := by kernel_rfl
theorem un2 : Try.prog.underlying 2 = some (.int .i64) := by kernel_rfl
theorem zr2 : zeroOf Try.prog 2 = some [.val (.int .i64 0)] := by kernel_rfl
theorem sz3 : szOf Try.prog 3 = some 1 := by kernel_rfl
theorem by3 : byOf Try.prog 3 = some 8 := by kernel_rfl
theorem ag3 : aggOf Try.prog 3 = some false := by kernel_rfl
theorem un3 : Try.prog.underlying 3 = some (.int .i64) := by kernel_rfl
theorem zr3 : zeroOf Try.prog 3 = some [.val (.int .i64 0)] := by kernel_rfl
theorem sz4 : szOf Try.prog 4 = some 1 := by kernel_rfl
theorem by4 : byOf Try.prog 4 = some 1 := by kernel_rfl
theorem ag4 : aggOf Try.prog 4 = some false := by kernel_rfl
theorem un4 : Try.prog.underlying 4 = some .bool := by kernel_rfl
theorem zr4 : zeroOf Try.prog 4 = some [.val (.bool false)] := by kernel_rfl
theorem sz5 : szOf Try.prog 5 = some 1 := by kernel_rfl
theorem by5 : byOf Try.prog 5 = some 1 := by kernel_rfl
theorem ag5 : aggOf Try.prog 5 = some false := by kernel_rfl
theorem un5 : Try.prog.underlying 5 = some (.int .u8) := by kernel_rfl
theorem zr5 : zeroOf Try.prog 5 = some [.val (.int .u8 0)] := by kernel_rfl
theorem sz6 : szOf Try.prog 6 = some 1 := by kernel_rfl
theorem by6 : byOf Try.prog 6 = some 1 := by kernel_rfl
theorem ag6 : aggOf Try.prog 6 = some false := by kernel_rfl
theorem un6 : Try.prog.underlying 6 = some (.int .u8) := by kernel_rfl
theorem zr6 : zeroOf Try.prog 6 = some [.val (.int .u8 0)] := by kernel_rfl
theorem sz7 : szOf Try.prog 7 = some 4 := by kernel_rfl
theorem by7 : byOf Try.prog 7 = some 24 := by kernel_rfl
theorem ag7 : aggOf Try.prog 7 = some true := by kernel_rfl
theorem fld7_0 : fldOf Try.prog 7 0 = some (0, 2) := by kernel_rfl
theorem fld7_1 : fldOf Try.prog 7 1 = some (1, 3) := by kernel_rfl
theorem fld7_2 : fldOf Try.prog 7 2 = some (2, 4) := by kernel_rfl
theorem fld7_3 : fldOf Try.prog 7 3 = some (3, 6) := by kernel_rfl
theorem pl7 : plOf Try.prog 7 = some [(0, 1), (1, 1), (2, 1), (3, 1)] := by kernel_rfl
theorem eq7 : EqT Try.prog 7 [.int .i64, .int .i64, .bool, .int .u8] := EqT.of (by kernel_rfl) (by kernel_rfl) (by kernel_rfl)
theorem zr7 : zeroOf Try.prog 7 = some [.val (.int .i64 0), .val (.int .i64 0), .val (.bool false), .val (.int .u8 0)] := by kernel_rfl
theorem sz8 : szOf Try.prog 8 = some 4 := by kernel_rfl
theorem by8 : byOf Try.prog 8 = some 24 := by kernel_rfl
theorem ag8 : aggOf Try.prog 8 = some true := by kernel_rfl
theorem fld8_0 : fldOf Try.prog 8 0 = some (0, 2) := by kernel_rfl
theorem fld8_1 : fldOf Try.prog 8 1 = some (1, 3) := by kernel_rfl
theorem fld8_2 : fldOf Try.prog 8 2 = some (2, 4) := by kernel_rfl
theorem fld8_3 : fldOf Try.prog 8 3 = some (3, 6) := by kernel_rfl
theorem pl8 : plOf Try.prog 8 = some [(0, 1), (1, 1), (2, 1), (3, 1)] := by kernel_rfl
theorem eq8 : EqT Try.prog 8 [.int .i64, .int .i64, .bool, .int .u8] := EqT.of (by kernel_rfl) (by kernel_rfl) (by kernel_rfl)
theorem zr8 : zeroOf Try.prog 8 = some [.val (.int .i64 0), .val (.int .i64 0), .val (.bool false), .val (.int .u8 0)] := by kernel_rfl
theorem sz9 : szOf Try.prog 9 = some 1 := by kernel_rfl
theorem by9 : byOf Try.prog 9 = some 16 := by kernel_rfl
theorem ag9 : aggOf Try.prog 9 = some false := by kernel_rfl
theorem un9 : Try.prog.underlying 9 = some .string := by kernel_rfl
theorem zr9 : zeroOf Try.prog 9 = some [.val (.str [])] := by kernel_rfl
theorem sz10 : szOf Try.prog 10 = some 1 := by kernel_rfl
theorem by10 : byOf Try.prog 10 = some 16 := by kernel_rfl
theorem ag10 : aggOf Try.prog 10 = some false := by kernel_rfl
theorem un10 : Try.prog.underlying 10 = some .string := by kernel_rfl
theorem zr10 : zeroOf Try.prog 10 = some [.val (.str [])] := by kernel_rfl
theorem sz11 : szOf Try.prog 11 = some 1 := by kernel_rfl
theorem by11 : byOf Try.prog 11 = some 16 := by kernel_rfl
theorem ag11 : aggOf Try.prog 11 = some false := by kernel_rfl
theorem un11 : Try.prog.underlying 11 = some .string := by kernel_rfl
theorem zr11 : zeroOf Try.prog 11 = some [.val (.str [])] := by kernel_rfl
theorem sz12 : szOf Try.prog 12 = some 1 := by kernel_rfl
theorem by12 : byOf Try.prog 12 = some 8 := by kernel_rfl
theorem ag12 : aggOf Try.prog 12 = some false := by kernel_rfl
theorem un12 : Try.prog.underlying 12 = some (.int .u64) := by kernel_rfl
theorem zr12 : zeroOf Try.prog 12 = some [.val (.int .u64 0)] := by kernel_rfl
theorem sz13 : szOf Try.prog 13 = some 2 := by kernel_rfl
theorem by13 : byOf Try.prog 13 = some 24 := by kernel_rfl
theorem ag13 : aggOf Try.prog 13 = some true := by kernel_rfl
theorem fld13_0 : fldOf Try.prog 13 0 = some (0, 9) := by kernel_rfl
theorem fld13_1 : fldOf Try.prog 13 1 = some (1, 12) := by kernel_rfl
theorem pl13 : plOf Try.prog 13 = some [(0, 1), (1, 1)] := by kernel_rfl
theorem zr13 : zeroOf Try.prog 13 = some [.val (.str []), .val (.int .u64 0)] := by kernel_rfl
theorem sz14 : szOf Try.prog 14 = some 2 := by kernel_rfl
theorem by14 : byOf Try.prog 14 = some 24 := by kernel_rfl
theorem ag14 : aggOf Try.prog 14 = some true := by kernel_rfl
theorem fld14_0 : fldOf Try.prog 14 0 = some (0, 9) := by kernel_rfl
theorem fld14_1 : fldOf Try.prog 14 1 = some (1, 12) := by kernel_rfl
theorem pl14 : plOf Try.prog 14 = some [(0, 1), (1, 1)] := by kernel_rfl
theorem zr14 : zeroOf Try.prog 14 = some [.val (.str []), .val (.int .u64 0)] := by kernel_rfl
theorem sz15 : szOf Try.prog 15 = some 1 := by kernel_rfl
theorem by15 : byOf Try.prog 15 = some 8 := by kernel_rfl
theorem ag15 : aggOf Try.prog 15 = some false := by kernel_rfl
theorem un15 : Try.prog.underlying 15 = some (.pointer 81) := by kernel_rfl
theorem zr15 : zeroOf Try.prog 15 = some [.val .nilp] := by kernel_rfl
theorem sz16 : szOf Try.prog 16 = some 1 := by kernel_rfl
theorem by16 : byOf Try.prog 16 = some 8 := by kernel_rfl
theorem ag16 : aggOf Try.prog 16 = some false := by kernel_rfl
theorem un16 : Try.prog.underlying 16 = some (.pointer 84) := by kernel_rfl
theorem zr16 : zeroOf Try.prog 16 = some [.val .nilp] := by kernel_rfl
theorem sz17 : szOf Try.prog 17 = some 1 := by kernel_rfl
theorem by17 : byOf Try.prog 17 = some 8 := by kernel_rfl
theorem ag17 : aggOf Try.prog 17 = some false := by kernel_rfl
theorem un17 : Try.prog.underlying 17 = some (.pointer 94) := by kernel_rfl
theorem zr17 : zeroOf Try.prog 17 = some [.val .nilp] := by kernel_rfl
theorem sz18 : szOf Try.prog 18 = some 1 := by kernel_rfl
theorem by18 : byOf Try.prog 18 = some 8 := by kernel_rfl
theorem ag18 : aggOf Try.prog 18 = some true := by kernel_rfl
theorem fld18_0 : fldOf Try.prog 18 0 = some (0, 17) := by kernel_rfl
theorem pl18 : plOf Try.prog 18 = some [(0, 1)] := by kernel_rfl
theorem zr18 : zeroOf Try.prog 18 = some [.val .nilp] := by kernel_rfl
theorem sz19 : szOf Try.prog 19 = some 1 := by kernel_rfl
theorem by19 : byOf Try.prog 19 = some 8 := by kernel_rfl
theorem ag19 : aggOf Try.prog 19 = some true := by kernel_rfl
theorem fld19_0 : fldOf Try.prog 19 0 = some (0, 17) := by kernel_rfl
theorem pl19 : plOf Try.prog 19 = some [(0, 1)] := by kernel_rfl
theorem zr19 : zeroOf Try.prog 19 = some [.val .nilp] := by kernel_rfl
theorem sz21 : szOf Try.prog 21 = some 1 := by kernel_rfl
theorem by21 : byOf Try.prog 21 = some 4 := by kernel_rfl
theorem ag21 : aggOf Try.prog 21 = some false := by kernel_rfl
theorem un21 : Try.prog.underlying 21 = some (.int .i32) := by kernel_rfl
theorem zr21 : zeroOf Try.prog 21 = some [.val (.int .i32 0)] := by kernel_rfl
theorem sz22 : szOf Try.prog 22 = some 1 := by kernel_rfl
theorem by22 : byOf Try.prog 22 = some 24 := by kernel_rfl
theorem ag22 : aggOf Try.prog 22 = some false := by kernel_rfl
theorem un22 : Try.prog.underlying 22 = some (.slice 36) := by kernel_rfl
theorem el22 : elOf Try.prog 22 = some 36 := by kernel_rfl
theorem zr22 : zeroOf Try.prog 22 = some [.nils] := by kernel_rfl
theorem sz23 : szOf Try.prog 23 = some 1 := by kernel_rfl
theorem by23 : byOf Try.prog 23 = some 24 := by kernel_rfl
theorem ag23 : aggOf Try.prog 23 = some false := by kernel_rfl
theorem un23 : Try.prog.underlying 23 = some (.slice 46) := by kernel_rfl
theorem el23 : elOf Try.prog 23 = some 46 := by kernel_rfl
theorem zr23 : zeroOf Try.prog 23 = some [.nils] := by kernel_rfl
theorem sz27 : szOf Try.prog 27 = some 1 := by kernel_rfl
theorem by27 : byOf Try.prog 27 = some 8 := by kernel_rfl
theorem ag27 : aggOf Try.prog 27 = some false := by kernel_rfl
theorem un27 : Try.prog.underlying 27 = some (.int .i64) := by kernel_rfl
theorem zr27 : zeroOf Try.prog 27 = some [.val (.int .i64 0)] := by kernel_rfl
theorem sz35 : szOf Try.prog 35 = some 2 := by kernel_rfl
theorem by35 : byOf Try.prog 35 = some 32 := by kernel_rfl
theorem ag35 : aggOf Try.prog 35 = some true := by kernel_rfl
theorem fld35_0 : fldOf Try.prog 35 0 = some (0, 9) := by kernel_rfl
theorem fld35_1 : fldOf Try.prog 35 1 = some (1, 9) := by kernel_rfl
theorem pl35 : plOf Try.prog 35 = some [(0, 1), (1, 1)] := by kernel_rfl
theorem eq35 : EqT Try.prog 35 [.str, .str] := EqT.of (by kernel_rfl) (by kernel_rfl) (by kernel_rfl)
theorem zr35 : zeroOf Try.prog 35 = some [.val (.str []), .val (.str [])] := by kernel_rfl
theorem sz36 : szOf Try.prog 36 = some 2 := by kernel_rfl
theorem by36 : byOf Try.prog 36 = some 32 := by kernel_rfl
theorem ag36 : aggOf Try.prog 36 = some true := by kernel_rfl
theorem fld36_0 : fldOf Try.prog 36 0 = some (0, 9) := by kernel_rfl
theorem fld36_1 : fldOf Try.prog 36 1 = some (1, 9) := by kernel_rfl
theorem pl36 : plOf Try.prog 36 = some [(0, 1), (1, 1)] := by kernel_rfl
theorem eq36 : EqT Try.prog 36 [.str, .str] := EqT.of (by kernel_rfl) (by kernel_rfl) (by kernel_rfl)
theorem zr36 : zeroOf Try.prog 36 = some [.val (.str []), .val (.str [])] := by kernel_rfl
theorem sz39 : szOf Try.prog 39 = some 1 := by kernel_rfl
theorem by39 : byOf Try.prog 39 = some 24 := by kernel_rfl
theorem ag39 : aggOf Try.prog 39 = some false := by kernel_rfl
theorem un39 : Try.prog.underlying 39 = some (.slice 22) := by kernel_rfl
theorem el39 : elOf Try.prog 39 = some 22 := by kernel_rfl
theorem zr39 : zeroOf Try.prog 39 = some [.nils] := by kernel_rfl
theorem sz41 : szOf Try.prog 41 = some 1 := by kernel_rfl
theorem by41 : byOf Try.prog 41 = some 24 := by kernel_rfl
theorem ag41 : aggOf Try.prog 41 = some false := by kernel_rfl
theorem un41 : Try.prog.underlying 41 = some (.slice 3) := by kernel_rfl
theorem el41 : elOf Try.prog 41 = some 3 := by kernel_rfl
theorem zr41 : zeroOf Try.prog 41 = some [.nils] := by kernel_rfl
theorem sz44 : szOf Try.prog 44 = some 1 := by kernel_rfl
theorem by44 : byOf Try.prog 44 = some 8 := by kernel_rfl
theorem ag44 : aggOf Try.prog 44 = some false := by kernel_rfl
theorem un44 : Try.prog.underlying 44 = some (.int .u64) := by kernel_rfl
theorem zr44 : zeroOf Try.prog 44 = some [.val (.int .u64 0)] := by kernel_rfl
theorem sz45 : szOf Try.prog 45 = some 4 := by kernel_rfl
theorem by45 : byOf Try.prog 45 = some 48 := by kernel_rfl
theorem ag45 : aggOf Try.prog 45 = some true := by kernel_rfl
theorem fld45_0 : fldOf Try.prog 45 0 = some (0, 3) := by kernel_rfl
theorem fld45_1 : fldOf Try.prog 45 1 = some (1, 9) := by kernel_rfl
theorem fld45_2 : fldOf Try.prog 45 2 = some (2, 9) := by kernel_rfl
theorem fld45_3 : fldOf Try.prog 45 3 = some (3, 44) := by kernel_rfl
theorem pl45 : plOf Try.prog 45 = some [(0, 1), (1, 1), (2, 1), (3, 1)] := by kernel_rfl
theorem zr45 : zeroOf Try.prog 45 = some [.val (.int .i64 0), .val (.str []), .val (.str []), .val (.int .u64 0)] := by kernel_rfl
theorem sz46 : szOf Try.prog 46 = some 4 := by kernel_rfl
theorem by46 : byOf Try.prog 46 = some 48 := by kernel_rfl
theorem ag46 : aggOf Try.prog 46 = some true := by kernel_rfl
theorem fld46_0 : fldOf Try.prog 46 0 = some (0, 3) := by kernel_rfl
theorem fld46_1 : fldOf Try.prog 46 1 = some (1, 9) := by kernel_rfl
theorem fld46_2 : fldOf Try.prog 46 2 = some (2, 9) := by kernel_rfl
theorem fld46_3 : fldOf Try.prog 46 3 = some (3, 44) := by kernel_rfl
theorem pl46 : plOf Try.prog 46 = some [(0, 1), (1, 1), (2, 1), (3, 1)] := by kernel_rfl
theorem zr46 : zeroOf Try.prog 46 = some [.val (.int .i64 0), .val (.str []), .val (.str []), .val (.int .u64 0)] := by kernel_rfl
theorem sz68 : szOf Try.prog 68 = some 1 := by kernel_rfl
theorem by68 : byOf Try.prog 68 = some 8 := by kernel_rfl
theorem ag68 : aggOf Try.prog 68 = some false := by kernel_rfl
theorem un68 : Try.prog.underlying 68 = some (.int .u64) := by kernel_rfl
theorem zr68 : zeroOf Try.prog 68 = some [.val (.int .u64 0)] := by kernel_rfl
theorem sz71 : szOf Try.prog 71 = some 1 := by kernel_rfl
theorem by71 : byOf Try.prog 71 = some 24 := by kernel_rfl
theorem ag71 : aggOf Try.prog 71 = some false := by kernel_rfl
theorem un71 : Try.prog.underlying 71 = some (.slice 5) := by kernel_rfl
theorem el71 : elOf Try.prog 71 = some 5 := by kernel_rfl
theorem zr71 : zeroOf Try.prog 71 = some [.nils] := by kernel_rfl
theorem sz80 : szOf Try.prog 80 = some 4 := by kernel_rfl
theorem by80 : byOf Try.prog 80 = some 40 := by kernel_rfl
theorem ag80 : aggOf Try.prog 80 = some true := by kernel_rfl
theorem fld80_0 : fldOf Try.prog 80 0 = some (0, 17) := by kernel_rfl
theorem fld80_1 : fldOf Try.prog 80 1 = some (1, 17) := by kernel_rfl
theorem fld80_2 : fldOf Try.prog 80 2 = some (2, 17) := by kernel_rfl
theorem fld80_3 : fldOf Try.prog 80 3 = some (3, 9) := by kernel_rfl
theorem pl80 : plOf Try.prog 80 = some [(0, 1), (1, 1), (2, 1), (3, 1)] := by kernel_rfl
theorem zr80 : zeroOf Try.prog 80 = some [.val .nilp, .val .nilp, .val .nilp, .val (.str [])] := by kernel_rfl
theorem sz81 : szOf Try.prog 81 = some 4 := by kernel_rfl
theorem by81 : byOf Try.prog 81 = some 40 := by kernel_rfl
theorem ag81 : aggOf Try.prog 81 = some true := by kernel_rfl
theorem fld81_0 : fldOf Try.prog 81 0 = some (0, 17) := by kernel_rfl
theorem fld81_1 : fldOf Try.prog 81 1 = some (1, 17) := by kernel_rfl
theorem fld81_2 : fldOf Try.prog 81 2 = some (2, 17) := by kernel_rfl
theorem fld81_3 : fldOf Try.prog 81 3 = some (3, 9) := by kernel_rfl
theorem pl81 : plOf Try.prog 81 = some [(0, 1), (1, 1), (2, 1), (3, 1)] := by kernel_rfl
theorem zr81 : zeroOf Try.prog 81 = some [.val .nilp, .val .nilp, .val .nilp, .val (.str [])] := by kernel_rfl
theorem sz82 : szOf Try.prog 82 = some 0 := by kernel_rfl
theorem by82 : byOf Try.prog 82 = some 0 := by kernel_rfl
theorem ag82 : aggOf Try.prog 82 = some true := by kernel_rfl
theorem zr82 : zeroOf Try.prog 82 = some [] := by kernel_rfl
theorem sz83 : szOf Try.prog 83 = some 0 := by kernel_rfl
theorem by83 : byOf Try.prog 83 = some 0 := by kernel_rfl
theorem ag83 : aggOf Try.prog 83 = some true := by kernel_rfl
theorem fld83_0 : fldOf Try.prog 83 0 = some (0, 82) := by kernel_rfl
theorem pl83 : plOf Try.prog 83 = some [(0, 0)] := by kernel_rfl
theorem zr83 : zeroOf Try.prog 83 = some [] := by kernel_rfl
theorem sz84 : szOf Try.prog 84 = some 0 := by kernel_rfl
theorem by84 : byOf Try.prog 84 = some 0 := by kernel_rfl
theorem ag84 : aggOf Try.prog 84 = some true := by kernel_rfl
theorem fld84_0 : fldOf Try.prog 84 0 = some (0, 82) := by kernel_rfl
theorem pl84 : plOf Try.prog 84 = some [(0, 0)] := by kernel_rfl
theorem zr84 : zeroOf Try.prog 84 = some [] := by kernel_rfl
theorem sz86 : szOf Try.prog 86 = some 1 := by kernel_rfl
theorem by86 : byOf Try.prog 86 = some 4 := by kernel_rfl
theorem ag86 : aggOf Try.prog 86 = some false := by kernel_rfl
theorem un86 : Try.prog.underlying 86 = some (.int .u32) := by kernel_rfl
theorem zr86 : zeroOf Try.prog 86 = some [.val (.int .u32 0)] := by kernel_rfl
theorem sz87 : szOf Try.prog 87 = some 1 := by kernel_rfl
theorem by87 : byOf Try.prog 87 = some 1 := by kernel_rfl
theorem ag87 : aggOf Try.prog 87 = some false := by kernel_rfl
theorem un87 : Try.prog.underlying 87 = some (.int .u8) := by kernel_rfl
theorem zr87 : zeroOf Try.prog 87 = some [.val (.int .u8 0)] := by kernel_rfl
theorem sz88 : szOf Try.prog 88 = some 1 := by kernel_rfl
theorem by88 : byOf Try.prog 88 = some 1 := by kernel_rfl
theorem ag88 : aggOf Try.prog 88 = some false := by kernel_rfl
theorem un88 : Try.prog.underlying 88 = some (.int .u8) := by kernel_rfl
theorem zr88 : zeroOf Try.prog 88 = some [.val (.int .u8 0)] := by kernel_rfl
theorem sz90 : szOf Try.prog 90 = some 1 := by kernel_rfl
theorem by90 : byOf Try.prog 90 = some 8 := by kernel_rfl
theorem ag90 : aggOf Try.prog 90 = some false := by kernel_rfl
theorem un90 : Try.prog.underlying 90 = some (.pointer 5) := by kernel_rfl
theorem zr90 : zeroOf Try.prog 90 = some [.val .nilp] := by kernel_rfl
theorem sz91 : szOf Try.prog 91 = some 1 := by kernel_rfl
theorem by91 : byOf Try.prog 91 = some 4 := by kernel_rfl
theorem ag91 : aggOf Try.prog 91 = some false := by kernel_rfl
theorem un91 : Try.prog.underlying 91 = some (.int .i32) := by kernel_rfl
theorem zr91 : zeroOf Try.prog 91 = some [.val (.int .i32 0)] := by kernel_rfl
theorem sz92 : szOf Try.prog 92 = some 1 := by kernel_rfl
theorem by92 : byOf Try.prog 92 = some 4 := by kernel_rfl
theorem ag92 : aggOf Try.prog 92 = some false := by kernel_rfl
theorem un92 : Try.prog.underlying 92 = some (.int .i32) := by kernel_rfl
theorem zr92 : zeroOf Try.prog 92 = some [.val (.int .i32 0)] := by kernel_rfl
theorem sz93 : szOf Try.prog 93 = some 11 := by kernel_rfl
theorem by93 : byOf Try.prog 93 = some 48 := by kernel_rfl
theorem ag93 : aggOf Try.prog 93 = some true := by kernel_rfl
theorem fld93_0 : fldOf Try.prog 93 0 = some (0, 12) := by kernel_rfl
theorem fld93_1 : fldOf Try.prog 93 1 = some (1, 12) := by kernel_rfl
theorem fld93_2 : fldOf Try.prog 93 2 = some (2, 86) := by kernel_rfl
theorem fld93_3 : fldOf Try.prog 93 3 = some (3, 87) := by kernel_rfl
theorem fld93_4 : fldOf Try.prog 93 4 = some (4, 5) := by kernel_rfl
theorem fld93_5 : fldOf Try.prog 93 5 = some (5, 5) := by kernel_rfl
theorem fld93_6 : fldOf Try.prog 93 6 = some (6, 88) := by kernel_rfl
theorem fld93_7 : fldOf Try.prog 93 7 = some (7, 89) := by kernel_rfl
theorem fld93_8 : fldOf Try.prog 93 8 = some (8, 90) := by kernel_rfl
theorem fld93_9 : fldOf Try.prog 93 9 = some (9, 91) := by kernel_rfl
theorem fld93_10 : fldOf Try.prog 93 10 = some (10, 92) := by kernel_rfl
theorem pl93 : plOf Try.prog 93 = some [(0, 1), (1, 1), (2, 1), (3, 1), (4, 1), (5, 1), (6, 1), (7, 1), (8, 1), (9, 1), (10, 1)] := by kernel_rfl
theorem sz94 : szOf Try.prog 94 = some 11 := by kernel_rfl
theorem by94 : byOf Try.prog 94 = some 48 := by kernel_rfl
theorem ag94 : aggOf Try.prog 94 = some true := by kernel_rfl
theorem fld94_0 : fldOf Try.prog 94 0 = some (0, 12) := by kernel_rfl
theorem fld94_1 : fldOf Try.prog 94 1 = some (1, 12) := by kernel_rfl
theorem fld94_2 : fldOf Try.prog 94 2 = some (2, 86) := by kernel_rfl
theorem fld94_3 : fldOf Try.prog 94 3 = some (3, 87) := by kernel_rfl
theorem fld94_4 : fldOf Try.prog 94 4 = some (4, 5) := by kernel_rfl
theorem fld94_5 : fldOf Try.prog 94 5 = some (5, 5) := by kernel_rfl
theorem fld94_6 : fldOf Try.prog 94 6 = some (6, 88) := by kernel_rfl
theorem fld94_7 : fldOf Try.prog 94 7 = some (7, 89) := by kernel_rfl
theorem fld94_8 : fldOf Try.prog 94 8 = some (8, 90) := by kernel_rfl
theorem fld94_9 : fldOf Try.prog 94 9 = some (9, 91) := by kernel_rfl
theorem fld94_10 : fldOf Try.prog 94 10 = some (10, 92) := by kernel_rfl
theorem pl94 : plOf Try.prog 94 = some [(0, 1), (1, 1), (2, 1), (3, 1), (4, 1), (5, 1), (6, 1), (7, 1), (8, 1), (9, 1), (10, 1)] := by kernel_rfl
theorem mixed : Try.prog.follows .mixedOrders = true := by kernel_rfl
attribute [go_sem] sz2 by2 ag2 un2 zr2 sz3 by3 ag3 un3 zr3 sz4 by4 ag4 un4 zr4 sz5 by5 ag5 un5 zr5 sz6 by6 ag6 un6 zr6 sz7 by7 ag7 fld7_0 fld7_1 fld7_2 fld7_3 pl7 zr7 sz8 by8 ag8 fld8_0 fld8_1 fld8_2 fld8_3 pl8 zr8 sz9 by9 ag9 un9 zr9 sz10 by10 ag10 un10 zr10 sz11 by11 ag11 un11 zr11 sz12 by12 ag12 un12 zr12 sz13 by13 ag13 fld13_0 fld13_1 pl13 zr13 sz14 by14 ag14 fld14_0 fld14_1 pl14 zr14 sz15 by15 ag15 un15 zr15 sz16 by16 ag16 un16 zr16 sz17 by17 ag17 un17 zr17 sz18 by18 ag18 fld18_0 pl18 zr18 sz19 by19 ag19 fld19_0 pl19 zr19 sz21 by21 ag21 un21 zr21 sz22 by22 ag22 un22 el22 zr22 sz23 by23 ag23 un23 el23 zr23 sz27 by27 ag27 un27 zr27 sz35 by35 ag35 fld35_0 fld35_1 pl35 zr35 sz36 by36 ag36 fld36_0 fld36_1 pl36 zr36 sz39 by39 ag39 un39 el39 zr39 sz41 by41 ag41 un41 el41 zr41 sz44 by44 ag44 un44 zr44 sz45 by45 ag45 fld45_0 fld45_1 fld45_2 fld45_3 pl45 zr45 sz46 by46 ag46 fld46_0 fld46_1 fld46_2 fld46_3 pl46 zr46 sz68 by68 ag68 un68 zr68 sz71 by71 ag71 un71 el71 zr71 sz80 by80 ag80 fld80_0 fld80_1 fld80_2 fld80_3 pl80 zr80 sz81 by81 ag81 fld81_0 fld81_1 fld81_2 fld81_3 pl81 zr81 sz82 by82 ag82 zr82 sz83 by83 ag83 fld83_0 pl83 zr83 sz84 by84 ag84 fld84_0 pl84 zr84 sz86 by86 ag86 un86 zr86 sz87 by87 ag87 un87 zr87 sz88 by88 ag88 un88 zr88 sz90 by90 ag90 un90 zr90 sz91 by91 ag91 un91 zr91 sz92 by92 ag92 un92 zr92 sz93 by93 ag93 fld93_0 fld93_1 fld93_2 fld93_3 fld93_4 fld93_5 fld93_6 fld93_7 fld93_8 fld93_9 fld93_10 pl93 sz94 by94 ag94 fld94_0 fld94_1 fld94_2 fld94_3 fld94_4 fld94_5 fld94_6 fld94_7 fld94_8 fld94_9 fld94_10 pl94 mixed eq7 eq8 eq35 eq36
end Go.Proofs.Ytnofkhghgjdblaa.Ty
