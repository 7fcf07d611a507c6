/- The types of this seat, as the symbolic machine asks for them. -/
import Derived.Test.YtglpemnejngkaaaProg
import Derived.Test.YtglpemnejngkaaaVmS
import Derived.KernelRfl
set_option linter.unusedVariables false
namespace Go.Proofs.Ytglpemnejngkaaa.Ty
open Go Go.Proofs Go.Proofs.YtglpemnejngkaaaVm
theorem sz2 : szOf Try.prog 2 = some 1 := by kernel_rfl
theorem by2 : byOf Try.prog 2 = some 8 := by kernel_rfl
theorem ag2 : aggOf Try.prog 2 = some false := by kernel_rfl
theorem un2 : Try.prog.underlying 2 = some (.int .i64) := by kernel_rfl
theorem zr2 : zeroOf Try.prog 2 = some [.val (.int .i64 0)] := by kernel_rfl
theorem sz3 : szOf Try.prog 3 = some 1 := by kernel_rfl
theorem by3 : byOf Try.prog 3 = some 8 := by kernel_rfl
theorem ag3 : aggOf Try.prog 3 = some false := by kernel_rfl
theorem un3 : Try.prog.underlying 3 = some (.int .i64) := by kernel_rfl
theorem zr3 : zeroOf Try.prog 3 = some [.val (.int .i64 0)] := by kernel_rfl
theorem sz4 : szOf Try.prog 4 = some 1 := by kernel_rfl
theorem by4 : byOf Try.prog 4 = some 1 := by kernel_rfl
theorem ag4 : aggOf Try.prog 4 = some false := by kernel_rfl
theorem un4 : Try.prog.underlying 4 = some .bool := by kernel_rfl
theorem zr4 : zeroOf Try.prog 4 = some [.val (.bool false)] := by kernel_rfl
theorem sz5 : szOf Try.prog 5 = some 1 := by kernel_rfl
theorem by5 : byOf Try.prog 5 = some 1 := by kernel_rfl
theorem ag5 : aggOf Try.prog 5 = some false := by kernel_rfl
theorem un5 : Try.prog.underlying 5 = some (.int .u8) := by kernel_rfl
theorem zr5 : zeroOf Try.prog 5 = some [.val (.int .u8 0)] := by kernel_rfl
theorem sz6 : szOf Try.prog 6 = some 1 := by kernel_rfl
theorem by6 : byOf Try.prog 6 = some 1 := by kernel_rfl
theorem ag6 : aggOf Try.prog 6 = some false := by kernel_rfl
theorem un6 : Try.prog.underlying 6 = some (.int .u8) := by kernel_rfl
theorem zr6 : zeroOf Try.prog 6 = some [.val (.int .u8 0)] := by kernel_rfl
theorem sz7 : szOf Try.prog 7 = some 4 := by kernel_rfl
theorem by7 : byOf Try.prog 7 = some 24 := by kernel_rfl
theorem ag7 : aggOf Try.prog 7 = some true := by kernel_rfl
theorem fld7_0 : fldOf Try.prog 7 0 = some (0, 2) := by kernel_rfl
theorem fld7_1 : fldOf Try.prog 7 1 = some (1, 3) := by kernel_rfl
theorem fld7_2 : fldOf Try.prog 7 2 = some (2, 4) := by kernel_rfl
theorem fld7_3 : fldOf Try.prog 7 3 = some (3, 6) := by kernel_rfl
theorem pl7 : plOf Try.prog 7 = some [(0, 1), (1, 1), (2, 1), (3, 1)] := by kernel_rfl
theorem eq7 : EqT Try.prog 7 [.int .i64, .int .i64, .bool, .int .u8] := EqT.of (by kernel_rfl) (by kernel_rfl) (by kernel_rfl)
theorem zr7 : zeroOf Try.prog 7 = some [.val (.int .i64 0), .val (.int .i64 0), .val (.bool false), .val (.int .u8 0)] := by kernel_rfl
theorem sz8 : szOf Try.prog 8 = some 4 := by kernel_rfl
theorem by8 : byOf Try.prog 8 = some 24 := by kernel_rfl
theorem ag8 : aggOf Try.prog 8 = some true := by kernel_rfl
theorem fld8_0 : fldOf Try.prog 8 0 = some (0, 2) := by kernel_rfl
theorem fld8_1 : fldOf Try.prog 8 1 = some (1, 3) := by kernel_rfl
theorem fld8_2 : fldOf Try.prog 8 2 = some (2, 4) := by kernel_rfl
theorem fld8_3 : fldOf Try.prog 8 3 = some (3, 6) := by kernel_rfl
theorem pl8 : plOf Try.prog 8 = some [(0, 1), (1, 1), (2, 1), (3, 1)] := by kernel_rfl
theorem eq8 : EqT Try.prog 8 [.int .i64, .int .i64, .bool, .int .u8] := EqT.of (by kernel_rfl) (by kernel_rfl) (by kernel_rfl)
theorem zr8 : zeroOf Try.prog 8 = some [.val (.int .i64 0), .val (.int .i64 0), .val (.bool false), .val (.int .u8 0)] := by kernel_rfl
theorem sz9 : szOf Try.prog 9 = some 1 := by kernel_rfl
theorem by9 : byOf Try.prog 9 = some 16 := by kernel_rfl
theorem ag9 : aggOf Try.prog 9 = some false := by kernel_rfl
theorem un9 : Try.prog.underlying 9 = some .string := by kernel_rfl
theorem zr9 : zeroOf Try.prog 9 = some [.val (.str [])] := by kernel_rfl
theorem sz10 : szOf Try.prog 10 = some 1 := by kernel_rfl
theorem by10 : byOf Try.prog 10 = some 16 := by kernel_rfl
theorem ag10 : aggOf Try.prog 10 = some false := by kernel_rfl
theorem un10 : Try.prog.underlying 10 = some .string := by kernel_rfl
theorem zr10 : zeroOf Try.prog 10 = some [.val (.str [])] := by kernel_rfl
theorem sz11 : szOf Try.prog 11 = some 1 := by kernel_rfl
theorem by11 : byOf Try.prog 11 = some 16 := by kernel_rfl
theorem ag11 : aggOf Try.prog 11 = some false := by kernel_rfl
theorem un11 : Try.prog.underlying 11 = some .string := by kernel_rfl
theorem zr11 : zeroOf Try.prog 11 = some [.val (.str [])] := by kernel_rfl
theorem sz12 : szOf Try.prog 12 = some 1 := by kernel_rfl
theorem by12 : byOf Try.prog 12 = some 8 := by kernel_rfl
theorem ag12 : aggOf Try.prog 12 = some false := by kernel_rfl
theorem un12 : Try.prog.underlying 12 = some (.int .u64) := by kernel_rfl
theorem zr12 : zeroOf Try.prog 12 = some [.val (.int .u64 0)] := by kernel_rfl
theorem sz13 : szOf Try.prog 13 = some 2 := by kernel_rfl
theorem by13 : byOf Try.prog 13 = some 24 := by kernel_rfl
theorem ag13 : aggOf Try.prog 13 = some true := by kernel_rfl
theorem fld13_0 : fldOf Try.prog 13 0 = some (0, 9) := by kernel_rfl
theorem fld13_1 : fldOf Try.prog 13 1 = some (1, 12) := by kernel_rfl
theorem pl13 : plOf Try.prog 13 = some [(0, 1), (1, 1)] := by kernel_rfl
theorem zr13 : zeroOf Try.prog 13 = some [.val (.str []), .val (.int .u64 0)] := by kernel_rfl
theorem sz14 : szOf Try.prog 14 = some 2 := by kernel_rfl
theorem by14 : byOf Try.prog 14 = some 24 := by kernel_rfl
theorem ag14 : aggOf Try.prog 14 = some true := by kernel_rfl
theorem fld14_0 : fldOf Try.prog 14 0 = some (0, 9) := by kernel_rfl
theorem fld14_1 : fldOf Try.prog 14 1 = some (1, 12) := by kernel_rfl
theorem pl14 : plOf Try.prog 14 = some [(0, 1), (1, 1)] := by kernel_rfl
theorem zr14 : zeroOf Try.prog 14 = some [.val (.str []), .val (.int .u64 0)] := by kernel_rfl
theorem sz15 : szOf Try.prog 15 = some 1 := by kernel_rfl
theorem by15 : byOf Try.prog 15 = some 8 := by kernel_rfl
theorem ag15 : aggOf Try.prog 15 = some false := by kernel_rfl
theorem un15 : Try.prog.underlying 15 = some (.pointer 111) := by kernel_rfl
theorem zr15 : zeroOf Try.prog 15 = some [.val .nilp] := by kernel_rfl
theorem sz16 : szOf Try.prog 16 = some 1 := by kernel_rfl
theorem by16 : byOf Try.prog 16 = some 8 := by kernel_rfl
theorem ag16 : aggOf Try.prog 16 = some false := by kernel_rfl
theorem un16 : Try.prog.underlying 16 = some (.pointer 114) := by kernel_rfl
theorem zr16 : zeroOf Try.prog 16 = some [.val .nilp] := by kernel_rfl
theorem sz17 : szOf Try.prog 17 = some 1 := by kernel_rfl
theorem by17 : byOf Try.prog 17 = some 8 := by kernel_rfl
theorem ag17 : aggOf Try.prog 17 = some false := by kernel_rfl
theorem un17 : Try.prog.underlying 17 = some (.pointer 124) := by kernel_rfl
theorem zr17 : zeroOf Try.prog 17 = some [.val .nilp] := by kernel_rfl
theorem sz18 : szOf Try.prog 18 = some 1 := by kernel_rfl
theorem by18 : byOf Try.prog 18 = some 8 := by kernel_rfl
theorem ag18 : aggOf Try.prog 18 = some true := by kernel_rfl
theorem fld18_0 : fldOf Try.prog 18 0 = some (0, 17) := by kernel_rfl
theorem pl18 : plOf Try.prog 18 = some [(0, 1)] := by kernel_rfl
theorem zr18 : zeroOf Try.prog 18 = some [.val .nilp] := by kernel_rfl
theorem sz19 : szOf Try.prog 19 = some 1 := by kernel_rfl
theorem by19 : byOf Try.prog 19 = some 8 := by kernel_rfl
theorem ag19 : aggOf Try.prog 19 = some true := by kernel_rfl
theorem fld19_0 : fldOf Try.prog 19 0 = some (0, 17) := by kernel_rfl
theorem pl19 : plOf Try.prog 19 = some [(0, 1)] := by kernel_rfl
theorem zr19 : zeroOf Try.prog 19 = some [.val .nilp] := by kernel_rfl
theorem sz21 : szOf Try.prog 21 = some 1 := by kernel_rfl
theorem by21 : byOf Try.prog 21 = some 4 := by kernel_rfl
theorem ag21 : aggOf Try.prog 21 = some false := by kernel_rfl
theorem un21 : Try.prog.underlying 21 = some (.int .i32) := by kernel_rfl
theorem zr21 : zeroOf Try.prog 21 = some [.val (.int .i32 0)] := by kernel_rfl
theorem sz22 : szOf Try.prog 22 = some 1 := by kernel_rfl
theorem by22 : byOf Try.prog 22 = some 24 := by kernel_rfl
theorem ag22 : aggOf Try.prog 22 = some false := by kernel_rfl
theorem un22 : Try.prog.underlying 22 = some (.slice 61) := by kernel_rfl
theorem el22 : elOf Try.prog 22 = some 61 := by kernel_rfl
theorem zr22 : zeroOf Try.prog 22 = some [.nils] := by kernel_rfl
theorem sz23 : szOf Try.prog 23 = some 1 := by kernel_rfl
theorem by23 : byOf Try.prog 23 = some 24 := by kernel_rfl
theorem ag23 : aggOf Try.prog 23 = some false := by kernel_rfl
theorem un23 : Try.prog.underlying 23 = some (.slice 52) := by kernel_rfl
theorem el23 : elOf Try.prog 23 = some 52 := by kernel_rfl
theorem zr23 : zeroOf Try.prog 23 = some [.nils] := by kernel_rfl
theorem sz27 : szOf Try.prog 27 = some 1 := by kernel_rfl
theorem by27 : byOf Try.prog 27 = some 24 := by kernel_rfl
theorem ag27 : aggOf Try.prog 27 = some false := by kernel_rfl
theorem un27 : Try.prog.underlying 27 = some (.slice 55) := by kernel_rfl
theorem el27 : elOf Try.prog 27 = some 55 := by kernel_rfl
theorem zr27 : zeroOf Try.prog 27 = some [.nils] := by kernel_rfl
theorem sz28 : szOf Try.prog 28 = some 1 := by kernel_rfl
theorem by28 : byOf Try.prog 28 = some 8 := by kernel_rfl
theorem ag28 : aggOf Try.prog 28 = some false := by kernel_rfl
theorem un28 : Try.prog.underlying 28 = some (.int .i64) := by kernel_rfl
theorem zr28 : zeroOf Try.prog 28 = some [.val (.int .i64 0)] := by kernel_rfl
theorem sz37 : szOf Try.prog 37 = some 1 := by kernel_rfl
theorem by37 : byOf Try.prog 37 = some 24 := by kernel_rfl
theorem ag37 : aggOf Try.prog 37 = some false := by kernel_rfl
theorem un37 : Try.prog.underlying 37 = some (.slice 23) := by kernel_rfl
theorem el37 : elOf Try.prog 37 = some 23 := by kernel_rfl
theorem zr37 : zeroOf Try.prog 37 = some [.nils] := by kernel_rfl
theorem sz38 : szOf Try.prog 38 = some 1 := by kernel_rfl
theorem by38 : byOf Try.prog 38 = some 24 := by kernel_rfl
theorem ag38 : aggOf Try.prog 38 = some false := by kernel_rfl
theorem un38 : Try.prog.underlying 38 = some (.slice 3) := by kernel_rfl
theorem el38 : elOf Try.prog 38 = some 3 := by kernel_rfl
theorem zr38 : zeroOf Try.prog 38 = some [.nils] := by kernel_rfl
theorem sz46 : szOf Try.prog 46 = some 1 := by kernel_rfl
theorem by46 : byOf Try.prog 46 = some 2 := by kernel_rfl
theorem ag46 : aggOf Try.prog 46 = some false := by kernel_rfl
theorem un46 : Try.prog.underlying 46 = some (.int .u16) := by kernel_rfl
theorem zr46 : zeroOf Try.prog 46 = some [.val (.int .u16 0)] := by kernel_rfl
theorem sz47 : szOf Try.prog 47 = some 1 := by kernel_rfl
theorem by47 : byOf Try.prog 47 = some 24 := by kernel_rfl
theorem ag47 : aggOf Try.prog 47 = some false := by kernel_rfl
theorem un47 : Try.prog.underlying 47 = some (.slice 9) := by kernel_rfl
theorem el47 : elOf Try.prog 47 = some 9 := by kernel_rfl
theorem zr47 : zeroOf Try.prog 47 = some [.nils] := by kernel_rfl
theorem sz50 : szOf Try.prog 50 = some 1 := by kernel_rfl
theorem by50 : byOf Try.prog 50 = some 8 := by kernel_rfl
theorem ag50 : aggOf Try.prog 50 = some false := by kernel_rfl
theorem un50 : Try.prog.underlying 50 = some (.int .u64) := by kernel_rfl
theorem zr50 : zeroOf Try.prog 50 = some [.val (.int .u64 0)] := by kernel_rfl
theorem sz51 : szOf Try.prog 51 = some 4 := by kernel_rfl
theorem by51 : byOf Try.prog 51 = some 48 := by kernel_rfl
theorem ag51 : aggOf Try.prog 51 = some true := by kernel_rfl
theorem fld51_0 : fldOf Try.prog 51 0 = some (0, 3) := by kernel_rfl
theorem fld51_1 : fldOf Try.prog 51 1 = some (1, 9) := by kernel_rfl
theorem fld51_2 : fldOf Try.prog 51 2 = some (2, 9) := by kernel_rfl
theorem fld51_3 : fldOf Try.prog 51 3 = some (3, 50) := by kernel_rfl
theorem pl51 : plOf Try.prog 51 = some [(0, 1), (1, 1), (2, 1), (3, 1)] := by kernel_rfl
theorem zr51 : zeroOf Try.prog 51 = some [.val (.int .i64 0), .val (.str []), .val (.str []), .val (.int .u64 0)] := by kernel_rfl
theorem sz52 : szOf Try.prog 52 = some 4 := by kernel_rfl
theorem by52 : byOf Try.prog 52 = some 48 := by kernel_rfl
theorem ag52 : aggOf Try.prog 52 = some true := by kernel_rfl
theorem fld52_0 : fldOf Try.prog 52 0 = some (0, 3) := by kernel_rfl
theorem fld52_1 : fldOf Try.prog 52 1 = some (1, 9) := by kernel_rfl
theorem fld52_2 : fldOf Try.prog 52 2 = some (2, 9) := by kernel_rfl
theorem fld52_3 : fldOf Try.prog 52 3 = some (3, 50) := by kernel_rfl
theorem pl52 : plOf Try.prog 52 = some [(0, 1), (1, 1), (2, 1), (3, 1)] := by kernel_rfl
theorem zr52 : zeroOf Try.prog 52 = some [.val (.int .i64 0), .val (.str []), .val (.str []), .val (.int .u64 0)] := by kernel_rfl
theorem sz54 : szOf Try.prog 54 = some 6 := by kernel_rfl
theorem by54 : byOf Try.prog 54 = some 72 := by kernel_rfl
theorem ag54 : aggOf Try.prog 54 = some true := by kernel_rfl
theorem fld54_0 : fldOf Try.prog 54 0 = some (0, 3) := by kernel_rfl
theorem fld54_1 : fldOf Try.prog 54 1 = some (1, 9) := by kernel_rfl
theorem fld54_2 : fldOf Try.prog 54 2 = some (2, 4) := by kernel_rfl
theorem fld54_3 : fldOf Try.prog 54 3 = some (3, 9) := by kernel_rfl
theorem fld54_4 : fldOf Try.prog 54 4 = some (4, 4) := by kernel_rfl
theorem fld54_5 : fldOf Try.prog 54 5 = some (5, 9) := by kernel_rfl
theorem pl54 : plOf Try.prog 54 = some [(0, 1), (1, 1), (2, 1), (3, 1), (4, 1), (5, 1)] := by kernel_rfl
theorem eq54 : EqT Try.prog 54 [.int .i64, .str, .bool, .str, .bool, .str] := EqT.of (by kernel_rfl) (by kernel_rfl) (by kernel_rfl)
theorem zr54 : zeroOf Try.prog 54 = some [.val (.int .i64 0), .val (.str []), .val (.bool false), .val (.str []), .val (.bool false), .val (.str [])] := by kernel_rfl
theorem sz55 : szOf Try.prog 55 = some 6 := by kernel_rfl
theorem by55 : byOf Try.prog 55 = some 72 := by kernel_rfl
theorem ag55 : aggOf Try.prog 55 = some true := by kernel_rfl
theorem fld55_0 : fldOf Try.prog 55 0 = some (0, 3) := by kernel_rfl
theorem fld55_1 : fldOf Try.prog 55 1 = some (1, 9) := by kernel_rfl
theorem fld55_2 : fldOf Try.prog 55 2 = some (2, 4) := by kernel_rfl
theorem fld55_3 : fldOf Try.prog 55 3 = some (3, 9) := by kernel_rfl
theorem fld55_4 : fldOf Try.prog 55 4 = some (4, 4) := by kernel_rfl
theorem fld55_5 : fldOf Try.prog 55 5 = some (5, 9) := by kernel_rfl
theorem pl55 : plOf Try.prog 55 = some [(0, 1), (1, 1), (2, 1), (3, 1), (4, 1), (5, 1)] := by kernel_rfl
theorem eq55 : EqT Try.prog 55 [.int .i64, .str, .bool, .str, .bool, .str] := EqT.of (by kernel_rfl) (by kernel_rfl) (by kernel_rfl)
theorem zr55 : zeroOf Try.prog 55 = some [.val (.int .i64 0), .val (.str []), .val (.bool false), .val (.str []), .val (.bool false), .val (.str [])] := by kernel_rfl
theorem sz60 : szOf Try.prog 60 = some 2 := by kernel_rfl
theorem by60 : byOf Try.prog 60 = some 32 := by kernel_rfl
theorem ag60 : aggOf Try.prog 60 = some true := by kernel_rfl
theorem fld60_0 : fldOf Try.prog 60 0 = some (0, 9) := by kernel_rfl
theorem fld60_1 : fldOf Try.prog 60 1 = some (1, 9) := by kernel_rfl
theorem pl60 : plOf Try.prog 60 = some [(0, 1), (1, 1)] := by kernel_rfl
theorem eq60 : EqT Try.prog 60 [.str, .str] := EqT.of (by kernel_rfl) (by kernel_rfl) (by kernel_rfl)
theorem zr60 : zeroOf Try.prog 60 = some [.val (.str []), .val (.str [])] := by kernel_rfl
theorem sz61 : szOf Try.prog 61 = some 2 := by kernel_rfl
theorem by61 : byOf Try.prog 61 = some 32 := by kernel_rfl
theorem ag61 : aggOf Try.prog 61 = some true := by kernel_rfl
theorem fld61_0 : fldOf Try.prog 61 0 = some (0, 9) := by kernel_rfl
theorem fld61_1 : fldOf Try.prog 61 1 = some (1, 9) := by kernel_rfl
theorem pl61 : plOf Try.prog 61 = some [(0, 1), (1, 1)] := by kernel_rfl
theorem eq61 : EqT Try.prog 61 [.str, .str] := EqT.of (by kernel_rfl) (by kernel_rfl) (by kernel_rfl)
theorem zr61 : zeroOf Try.prog 61 = some [.val (.str []), .val (.str [])] := by kernel_rfl
theorem sz74 : szOf Try.prog 74 = some 2 := by kernel_rfl
theorem by74 : byOf Try.prog 74 = some 24 := by kernel_rfl
theorem ag74 : aggOf Try.prog 74 = some true := by kernel_rfl
theorem fld74_0 : fldOf Try.prog 74 0 = some (0, 4) := by kernel_rfl
theorem fld74_1 : fldOf Try.prog 74 1 = some (1, 9) := by kernel_rfl
theorem pl74 : plOf Try.prog 74 = some [(0, 1), (1, 1)] := by kernel_rfl
theorem eq74 : EqT Try.prog 74 [.bool, .str] := EqT.of (by kernel_rfl) (by kernel_rfl) (by kernel_rfl)
theorem zr74 : zeroOf Try.prog 74 = some [.val (.bool false), .val (.str [])] := by kernel_rfl
theorem sz75 : szOf Try.prog 75 = some 2 := by kernel_rfl
theorem by75 : byOf Try.prog 75 = some 24 := by kernel_rfl
theorem ag75 : aggOf Try.prog 75 = some true := by kernel_rfl
theorem fld75_0 : fldOf Try.prog 75 0 = some (0, 4) := by kernel_rfl
theorem fld75_1 : fldOf Try.prog 75 1 = some (1, 9) := by kernel_rfl
theorem pl75 : plOf Try.prog 75 = some [(0, 1), (1, 1)] := by kernel_rfl
theorem eq75 : EqT Try.prog 75 [.bool, .str] := EqT.of (by kernel_rfl) (by kernel_rfl) (by kernel_rfl)
theorem zr75 : zeroOf Try.prog 75 = some [.val (.bool false), .val (.str [])] := by kernel_rfl
theorem sz100 : szOf Try.prog 100 = some 1 := by kernel_rfl
theorem by100 : byOf Try.prog 100 = some 8 := by kernel_rfl
theorem ag100 : aggOf Try.prog 100 = some false := by kernel_rfl
theorem un100 : Try.prog.underlying 100 = some (.int .u64) := by kernel_rfl
theorem zr100 : zeroOf Try.prog 100 = some [.val (.int .u64 0)] := by kernel_rfl
theorem sz103 : szOf Try.prog 103 = some 1 := by kernel_rfl
theorem by103 : byOf Try.prog 103 = some 24 := by kernel_rfl
theorem ag103 : aggOf Try.prog 103 = some false := by kernel_rfl
theorem un103 : Try.prog.underlying 103 = some (.slice 5) := by kernel_rfl
theorem el103 : elOf Try.prog 103 = some 5 := by kernel_rfl
theorem zr103 : zeroOf Try.prog 103 = some [.nils] := by kernel_rfl
theorem sz110 : szOf Try.prog 110 = some 4 := by kernel_rfl
theorem by110 : byOf Try.prog 110 = some 40 := by kernel_rfl
theorem ag110 : aggOf Try.prog 110 = some true := by kernel_rfl
theorem fld110_0 : fldOf Try.prog 110 0 = some (0, 17) := by kernel_rfl
theorem fld110_1 : fldOf Try.prog 110 1 = some (1, 17) := by kernel_rfl
theorem fld110_2 : fldOf Try.prog 110 2 = some (2, 17) := by kernel_rfl
theorem fld110_3 : fldOf Try.prog 110 3 = some (3, 9) := by kernel_rfl
theorem pl110 : plOf Try.prog 110 = some [(0, 1), (1, 1), (2, 1), (3, 1)] := by kernel_rfl
theorem zr110 : zeroOf Try.prog 110 = some [.val .nilp, .val .nilp, .val .nilp, .val (.str [])] := by kernel_rfl
theorem sz111 : szOf Try.prog 111 = some 4 := by kernel_rfl
theorem by111 : byOf Try.prog 111 = some 40 := by kernel_rfl
theorem ag111 : aggOf Try.prog 111 = some true := by kernel_rfl
theorem fld111_0 : fldOf Try.prog 111 0 = some (0, 17) := by kernel_rfl
theorem fld111_1 : fldOf Try.prog 111 1 = some (1, 17) := by kernel_rfl
theorem fld111_2 : fldOf Try.prog 111 2 = some (2, 17) := by kernel_rfl
theorem fld111_3 : fldOf Try.prog 111 3 = some (3, 9) := by kernel_rfl
theorem pl111 : plOf Try.prog 111 = some [(0, 1), (1, 1), (2, 1), (3, 1)] := by kernel_rfl
theorem zr111 : zeroOf Try.prog 111 = some [.val .nilp, .val .nilp, .val .nilp, .val (.str [])] := by kernel_rfl
theorem sz112 : szOf Try.prog 112 = some 0 := by kernel_rfl
theorem by112 : byOf Try.prog 112 = some 0 := by kernel_rfl
theorem ag112 : aggOf Try.prog 112 = some true := by kernel_rfl
theorem zr112 : zeroOf Try.prog 112 = some [] := by kernel_rfl
theorem sz113 : szOf Try.prog 113 = some 0 := by kernel_rfl
theorem by113 : byOf Try.prog 113 = some 0 := by kernel_rfl
theorem ag113 : aggOf Try.prog 113 = some true := by kernel_rfl
theorem fld113_0 : fldOf Try.prog 113 0 = some (0, 112) := by kernel_rfl
theorem pl113 : plOf Try.prog 113 = some [(0, 0)] := by kernel_rfl
theorem zr113 : zeroOf Try.prog 113 = some [] := by kernel_rfl
theorem sz114 : szOf Try.prog 114 = some 0 := by kernel_rfl
theorem by114 : byOf Try.prog 114 = some 0 := by kernel_rfl
theorem ag114 : aggOf Try.prog 114 = some true := by kernel_rfl
theorem fld114_0 : fldOf Try.prog 114 0 = some (0, 112) := by kernel_rfl
theorem pl114 : plOf Try.prog 114 = some [(0, 0)] := by kernel_rfl
theorem zr114 : zeroOf Try.prog 114 = some [] := by kernel_rfl
theorem sz116 : szOf Try.prog 116 = some 1 := by kernel_rfl
theorem by116 : byOf Try.prog 116 = some 4 := by kernel_rfl
theorem ag116 : aggOf Try.prog 116 = some false := by kernel_rfl
theorem un116 : Try.prog.underlying 116 = some (.int .u32) := by kernel_rfl
theorem zr116 : zeroOf Try.prog 116 = some [.val (.int .u32 0)] := by kernel_rfl
theorem sz117 : szOf Try.prog 117 = some 1 := by kernel_rfl
theorem by117 : byOf Try.prog 117 = some 1 := by kernel_rfl
theorem ag117 : aggOf Try.prog 117 = some false := by kernel_rfl
theorem un117 : Try.prog.underlying 117 = some (.int .u8) := by kernel_rfl
theorem zr117 : zeroOf Try.prog 117 = some [.val (.int .u8 0)] := by kernel_rfl
theorem sz118 : szOf Try.prog 118 = some 1 := by kernel_rfl
theorem by118 : byOf Try.prog 118 = some 1 := by kernel_rfl
theorem ag118 : aggOf Try.prog 118 = some false := by kernel_rfl
theorem un118 : Try.prog.underlying 118 = some (.int .u8) := by kernel_rfl
theorem zr118 : zeroOf Try.prog 118 = some [.val (.int .u8 0)] := by kernel_rfl
theorem sz120 : szOf Try.prog 120 = some 1 := by kernel_rfl
theorem by120 : byOf Try.prog 120 = some 8 := by kernel_rfl
theorem ag120 : aggOf Try.prog 120 = some false := by kernel_rfl
theorem un120 : Try.prog.underlying 120 = some (.pointer 5) := by kernel_rfl
theorem zr120 : zeroOf Try.prog 120 = some [.val .nilp] := by kernel_rfl
theorem sz121 : szOf Try.prog 121 = some 1 := by kernel_rfl
theorem by121 : byOf Try.prog 121 = some 4 := by kernel_rfl
theorem ag121 : aggOf Try.prog 121 = some false := by kernel_rfl
theorem un121 : Try.prog.underlying 121 = some (.int .i32) := by kernel_rfl
theorem zr121 : zeroOf Try.prog 121 = some [.val (.int .i32 0)] := by kernel_rfl
theorem sz122 : szOf Try.prog 122 = some 1 := by kernel_rfl
theorem by122 : byOf Try.prog 122 = some 4 := by kernel_rfl
theorem ag122 : aggOf Try.prog 122 = some false := by kernel_rfl
theorem un122 : Try.prog.underlying 122 = some (.int .i32) := by kernel_rfl
theorem zr122 : zeroOf Try.prog 122 = some [.val (.int .i32 0)] := by kernel_rfl
theorem sz123 : szOf Try.prog 123 = some 11 := by kernel_rfl
theorem by123 : byOf Try.prog 123 = some 48 := by kernel_rfl
theorem ag123 : aggOf Try.prog 123 = some true := by kernel_rfl
theorem fld123_0 : fldOf Try.prog 123 0 = some (0, 12) := by kernel_rfl
theorem fld123_1 : fldOf Try.prog 123 1 = some (1, 12) := by kernel_rfl
theorem fld123_2 : fldOf Try.prog 123 2 = some (2, 116) := by kernel_rfl
theorem fld123_3 : fldOf Try.prog 123 3 = some (3, 117) := by kernel_rfl
theorem fld123_4 : fldOf Try.prog 123 4 = some (4, 5) := by kernel_rfl
theorem fld123_5 : fldOf Try.prog 123 5 = some (5, 5) := by kernel_rfl
theorem fld123_6 : fldOf Try.prog 123 6 = some (6, 118) := by kernel_rfl
theorem fld123_7 : fldOf Try.prog 123 7 = some (7, 119) := by kernel_rfl
theorem fld123_8 : fldOf Try.prog 123 8 = some (8, 120) := by kernel_rfl
theorem fld123_9 : fldOf Try.prog 123 9 = some (9, 121) := by kernel_rfl
theorem fld123_10 : fldOf Try.prog 123 10 = some (10, 122) := by kernel_rfl
theorem pl123 : plOf Try.prog 123 = some [(0, 1), (1, 1), (2, 1), (3, 1), (4, 1), (5, 1), (6, 1), (7, 1), (8, 1), (9, 1), (10, 1)] := by kernel_rfl
theorem sz124 : szOf Try.prog 124 = some 11 := by kernel_rfl
theorem by124 : byOf Try.prog 124 = some 48 := by kernel_rfl
theorem ag124 : aggOf Try.prog 124 = some true := by kernel_rfl
theorem fld124_0 : fldOf Try.prog 124 0 = some (0, 12) := by kernel_rfl
theorem fld124_1 : fldOf Try.prog 124 1 = some (1, 12) := by kernel_rfl
theorem fld124_2 : fldOf Try.prog 124 2 = some (2, 116) := by kernel_rfl
theorem fld124_3 : fldOf Try.prog 124 3 = some (3, 117) := by kernel_rfl
theorem fld124_4 : fldOf Try.prog 124 4 = some (4, 5) := by kernel_rfl
theorem fld124_5 : fldOf Try.prog 124 5 = some (5, 5) := by kernel_rfl
theorem fld124_6 : fldOf Try.prog 124 6 = some (6, 118) := by kernel_rfl
theorem fld124_7 : fldOf Try.prog 124 7 = some (7, 119) := by kernel_rfl
theorem fld124_8 : fldOf Try.prog 124 8 = some (8, 120) := by kernel_rfl
theorem fld124_9 : fldOf Try.prog 124 9 = some (9, 121) := by kernel_rfl
theorem fld124_10 : fldOf Try.prog 124 10 = some (10, 122) := by kernel_rfl
theorem pl124 : plOf Try.prog 124 = some [(0, 1), (1, 1), (2, 1), (3, 1), (4, 1), (5, 1), (6, 1), (7, 1), (8, 1), (9, 1), (10, 1)] := by kernel_rfl
theorem mixed : Try.prog.follows .mixedOrders = true := by kernel_rfl
attribute [go_sem] sz2 by2 ag2 un2 zr2 sz3 by3 ag3 un3 zr3 sz4 by4 ag4 un4 zr4 sz5 by5 ag5 un5 zr5 sz6 by6 ag6 un6 zr6 sz7 by7 ag7 fld7_0 fld7_1 fld7_2 fld7_3 pl7 zr7 sz8 by8 ag8 fld8_0 fld8_1 fld8_2 fld8_3 pl8 zr8 sz9 by9 ag9 un9 zr9 sz10 by10 ag10 un10 zr10 sz11 by11 ag11 un11 zr11 sz12 by12 ag12 un12 zr12 sz13 by13 ag13 fld13_0 fld13_1 pl13 zr13 sz14 by14 ag14 fld14_0 fld14_1 pl14 zr14 sz15 by15 ag15 un15 zr15 sz16 by16 ag16 un16 zr16 sz17 by17 ag17 un17 zr17 sz18 by18 ag18 fld18_0 pl18 zr18 sz19 by19 ag19 fld19_0 pl19 zr19 sz21 by21 ag21 un21 zr21 sz22 by22 ag22 un22 el22 zr22 sz23 by23 ag23 un23 el23 zr23 sz27 by27 ag27 un27 el27 zr27 sz28 by28 ag28 un28 zr28 sz37 by37 ag37 un37 el37 zr37 sz38 by38 ag38 un38 el38 zr38 sz46 by46 ag46 un46 zr46 sz47 by47 ag47 un47 el47 zr47 sz50 by50 ag50 un50 zr50 sz51 by51 ag51 fld51_0 fld51_1 fld51_2 fld51_3 pl51 zr51 sz52 by52 ag52 fld52_0 fld52_1 fld52_2 fld52_3 pl52 zr52 sz54 by54 ag54 fld54_0 fld54_1 fld54_2 fld54_3 fld54_4 fld54_5 pl54 zr54 sz55 by55 ag55 fld55_0 fld55_1 fld55_2 fld55_3 fld55_4 fld55_5 pl55 zr55 sz60 by60 ag60 fld60_0 fld60_1 pl60 zr60 sz61 by61 ag61 fld61_0 fld61_1 pl61 zr61 sz74 by74 ag74 fld74_0 fld74_1 pl74 zr74 sz75 by75 ag75 fld75_0 fld75_1 pl75 zr75 sz100 by100 ag100 un100 zr100 sz103 by103 ag103 un103 el103 zr103 sz110 by110 ag110 fld110_0 fld110_1 fld110_2 fld110_3 pl110 zr110 sz111 by111 ag111 fld111_0 fld111_1 fld111_2 fld111_3 pl111 zr111 sz112 by112 ag112 zr112 sz113 by113 ag113 fld113_0 pl113 zr113 sz114 by114 ag114 fld114_0 pl114 zr114 sz116 by116 ag116 un116 zr116 sz117 by117 ag117 un117 zr117 sz118 by118 ag118 un118 zr118 sz120 by120 ag120 un120 zr120 sz121 by121 ag121 un121 zr121 sz122 by122 ag122 un122 zr122 sz123 by123 ag123 fld123_0 fld123_1 fld123_2 fld123_3 fld123_4 fld123_5 fld123_6 fld123_7 fld123_8 fld123_9 fld123_10 pl123 sz124 by124 ag124 fld124_0 fld124_1 fld124_2 fld124_3 fld124_4 fld124_5 fld124_6 fld124_7 fld124_8 fld124_9 fld124_10 pl124 mixed eq7 eq8 eq54 eq55 eq60 eq61 eq74 eq75
end Go.Proofs.Ytglpemnejngkaaa.Ty
