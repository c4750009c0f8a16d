/- Facts on the types of this seat, by program. -/
import Derived.Test.YtndbjkapdmpbbaaAm9
namespace Go.Proofs.Ytndbjkapdmpbbaa
namespace Am
set_option maxRecDepth 100000
theorem sz2 : (Try.prog.info? 2).map (·.size) = some 1 := by kernel_rfl
theorem by2 : (Try.prog.info? 2).map (·.bytes) = some 8 := by kernel_rfl
theorem ag2 : aggB Try.prog 2 = false := by kernel_rfl
theorem zr2 : (Try.prog.info? 2).map (·.zero) = some (some (.int .i64 0)) := by kernel_rfl
theorem sz3 : (Try.prog.info? 3).map (·.size) = some 1 := by kernel_rfl
theorem by3 : (Try.prog.info? 3).map (·.bytes) = some 8 := by kernel_rfl
theorem ag3 : aggB Try.prog 3 = false := by kernel_rfl
theorem zr3 : (Try.prog.info? 3).map (·.zero) = some (some (.int .i64 0)) := by kernel_rfl
theorem sz4 : (Try.prog.info? 4).map (·.size) = some 1 := by kernel_rfl
theorem by4 : (Try.prog.info? 4).map (·.bytes) = some 1 := by kernel_rfl
theorem ag4 : aggB Try.prog 4 = false := by kernel_rfl
theorem nu4 : notInt Try.prog 4 = true := by kernel_rfl
theorem zr4 : (Try.prog.info? 4).map (·.zero) = some (some (.bool false)) := by kernel_rfl
theorem sz5 : (Try.prog.info? 5).map (·.size) = some 1 := by kernel_rfl
theorem by5 : (Try.prog.info? 5).map (·.bytes) = some 1 := by kernel_rfl
theorem ag5 : aggB Try.prog 5 = false := by kernel_rfl
theorem zr5 : (Try.prog.info? 5).map (·.zero) = some (some (.int .u8 0)) := by kernel_rfl
theorem sz6 : (Try.prog.info? 6).map (·.size) = some 1 := by kernel_rfl
theorem by6 : (Try.prog.info? 6).map (·.bytes) = some 1 := by kernel_rfl
theorem ag6 : aggB Try.prog 6 = false := by kernel_rfl
theorem zr6 : (Try.prog.info? 6).map (·.zero) = some (some (.int .u8 0)) := by kernel_rfl
theorem sz7 : (Try.prog.info? 7).map (·.size) = some 4 := by kernel_rfl
theorem by7 : (Try.prog.info? 7).map (·.bytes) = some 24 := by kernel_rfl
theorem ag7 : aggB Try.prog 7 = true := by kernel_rfl
theorem nu7 : notInt Try.prog 7 = true := by kernel_rfl
theorem zr7 : (Try.prog.info? 7).map (·.zero) = some (some (.agg #[.int .i64 0, .int .i64 0, .bool false, .int .u8 0])) := by kernel_rfl
theorem pl7 : plOf Try.prog 7 = some [(0, 1), (1, 1), (2, 1), (3, 1)] := by kernel_rfl
theorem sz8 : (Try.prog.info? 8).map (·.size) = some 4 := by kernel_rfl
theorem by8 : (Try.prog.info? 8).map (·.bytes) = some 24 := by kernel_rfl
theorem ag8 : aggB Try.prog 8 = true := by kernel_rfl
theorem nu8 : notInt Try.prog 8 = true := by kernel_rfl
theorem zr8 : (Try.prog.info? 8).map (·.zero) = some (some (.agg #[.int .i64 0, .int .i64 0, .bool false, .int .u8 0])) := by kernel_rfl
theorem pl8 : plOf Try.prog 8 = some [(0, 1), (1, 1), (2, 1), (3, 1)] := by kernel_rfl
theorem sz9 : (Try.prog.info? 9).map (·.size) = some 1 := by kernel_rfl
theorem by9 : (Try.prog.info? 9).map (·.bytes) = some 16 := by kernel_rfl
theorem ag9 : aggB Try.prog 9 = false := by kernel_rfl
theorem nu9 : notInt Try.prog 9 = true := by kernel_rfl
theorem zr9 : (Try.prog.info? 9).map (·.zero) = some (some (.string ByteArray.empty)) := by kernel_rfl
theorem sz10 : (Try.prog.info? 10).map (·.size) = some 1 := by kernel_rfl
theorem by10 : (Try.prog.info? 10).map (·.bytes) = some 16 := by kernel_rfl
theorem ag10 : aggB Try.prog 10 = false := by kernel_rfl
theorem nu10 : notInt Try.prog 10 = true := by kernel_rfl
theorem zr10 : (Try.prog.info? 10).map (·.zero) = some (some (.string ByteArray.empty)) := by kernel_rfl
theorem sz11 : (Try.prog.info? 11).map (·.size) = some 1 := by kernel_rfl
theorem by11 : (Try.prog.info? 11).map (·.bytes) = some 16 := by kernel_rfl
theorem ag11 : aggB Try.prog 11 = false := by kernel_rfl
theorem nu11 : notInt Try.prog 11 = true := by kernel_rfl
theorem zr11 : (Try.prog.info? 11).map (·.zero) = some (some (.string ByteArray.empty)) := by kernel_rfl
theorem sz12 : (Try.prog.info? 12).map (·.size) = some 1 := by kernel_rfl
theorem by12 : (Try.prog.info? 12).map (·.bytes) = some 8 := by kernel_rfl
theorem ag12 : aggB Try.prog 12 = false := by kernel_rfl
theorem zr12 : (Try.prog.info? 12).map (·.zero) = some (some (.int .u64 0)) := by kernel_rfl
theorem sz13 : (Try.prog.info? 13).map (·.size) = some 2 := by kernel_rfl
theorem by13 : (Try.prog.info? 13).map (·.bytes) = some 24 := by kernel_rfl
theorem ag13 : aggB Try.prog 13 = true := by kernel_rfl
theorem nu13 : notInt Try.prog 13 = true := by kernel_rfl
theorem zr13 : (Try.prog.info? 13).map (·.zero) = some (some (.agg #[.string ByteArray.empty, .int .u64 0])) := by kernel_rfl
theorem pl13 : plOf Try.prog 13 = some [(0, 1), (1, 1)] := by kernel_rfl
theorem sz14 : (Try.prog.info? 14).map (·.size) = some 2 := by kernel_rfl
theorem by14 : (Try.prog.info? 14).map (·.bytes) = some 24 := by kernel_rfl
theorem ag14 : aggB Try.prog 14 = true := by kernel_rfl
theorem nu14 : notInt Try.prog 14 = true := by kernel_rfl
theorem zr14 : (Try.prog.info? 14).map (·.zero) = some (some (.agg #[.string ByteArray.empty, .int .u64 0])) := by kernel_rfl
theorem pl14 : plOf Try.prog 14 = some [(0, 1), (1, 1)] := by kernel_rfl
theorem sz15 : (Try.prog.info? 15).map (·.size) = some 1 := by kernel_rfl
theorem by15 : (Try.prog.info? 15).map (·.bytes) = some 8 := by kernel_rfl
theorem ag15 : aggB Try.prog 15 = false := by kernel_rfl
theorem nu15 : notInt Try.prog 15 = true := by kernel_rfl
theorem zr15 : (Try.prog.info? 15).map (·.zero) = some (some (.pointer none)) := by kernel_rfl
theorem sz16 : (Try.prog.info? 16).map (·.size) = some 1 := by kernel_rfl
theorem by16 : (Try.prog.info? 16).map (·.bytes) = some 8 := by kernel_rfl
theorem ag16 : aggB Try.prog 16 = false := by kernel_rfl
theorem nu16 : notInt Try.prog 16 = true := by kernel_rfl
theorem zr16 : (Try.prog.info? 16).map (·.zero) = some (some (.pointer none)) := by kernel_rfl
theorem sz17 : (Try.prog.info? 17).map (·.size) = some 1 := by kernel_rfl
theorem by17 : (Try.prog.info? 17).map (·.bytes) = some 8 := by kernel_rfl
theorem ag17 : aggB Try.prog 17 = false := by kernel_rfl
theorem nu17 : notInt Try.prog 17 = true := by kernel_rfl
theorem zr17 : (Try.prog.info? 17).map (·.zero) = some (some (.pointer none)) := by kernel_rfl
theorem sz18 : (Try.prog.info? 18).map (·.size) = some 1 := by kernel_rfl
theorem by18 : (Try.prog.info? 18).map (·.bytes) = some 8 := by kernel_rfl
theorem ag18 : aggB Try.prog 18 = true := by kernel_rfl
theorem nu18 : notInt Try.prog 18 = true := by kernel_rfl
theorem zr18 : (Try.prog.info? 18).map (·.zero) = some (some (.agg #[.pointer none])) := by kernel_rfl
theorem pl18 : plOf Try.prog 18 = some [(0, 1)] := by kernel_rfl
theorem sz19 : (Try.prog.info? 19).map (·.size) = some 1 := by kernel_rfl
theorem by19 : (Try.prog.info? 19).map (·.bytes) = some 8 := by kernel_rfl
theorem ag19 : aggB Try.prog 19 = true := by kernel_rfl
theorem nu19 : notInt Try.prog 19 = true := by kernel_rfl
theorem zr19 : (Try.prog.info? 19).map (·.zero) = some (some (.agg #[.pointer none])) := by kernel_rfl
theorem pl19 : plOf Try.prog 19 = some [(0, 1)] := by kernel_rfl
theorem sz20 : (Try.prog.info? 20).map (·.size) = some 1 := by kernel_rfl
theorem by20 : (Try.prog.info? 20).map (·.bytes) = some 16 := by kernel_rfl
theorem ag20 : aggB Try.prog 20 = false := by kernel_rfl
theorem nu20 : notInt Try.prog 20 = true := by kernel_rfl
theorem zr20 : (Try.prog.info? 20).map (·.zero) = some (some (.nilIface)) := by kernel_rfl
theorem sz21 : (Try.prog.info? 21).map (·.size) = some 1 := by kernel_rfl
theorem by21 : (Try.prog.info? 21).map (·.bytes) = some 4 := by kernel_rfl
theorem ag21 : aggB Try.prog 21 = false := by kernel_rfl
theorem zr21 : (Try.prog.info? 21).map (·.zero) = some (some (.int .i32 0)) := by kernel_rfl
theorem sz22 : (Try.prog.info? 22).map (·.size) = some 1 := by kernel_rfl
theorem by22 : (Try.prog.info? 22).map (·.bytes) = some 24 := by kernel_rfl
theorem ag22 : aggB Try.prog 22 = false := by kernel_rfl
theorem nu22 : notInt Try.prog 22 = true := by kernel_rfl
theorem zr22 : (Try.prog.info? 22).map (·.zero) = some (some (.slice none 0 0)) := by kernel_rfl
theorem sz23 : (Try.prog.info? 23).map (·.size) = some 3 := by kernel_rfl
theorem by23 : (Try.prog.info? 23).map (·.bytes) = some 40 := by kernel_rfl
theorem ag23 : aggB Try.prog 23 = true := by kernel_rfl
theorem nu23 : notInt Try.prog 23 = true := by kernel_rfl
theorem zr23 : (Try.prog.info? 23).map (·.zero) = some (some (.agg #[.int .i64 0, .string ByteArray.empty, .string ByteArray.empty])) := by kernel_rfl
theorem pl23 : plOf Try.prog 23 = some [(0, 1), (1, 1), (2, 1)] := by kernel_rfl
theorem sz24 : (Try.prog.info? 24).map (·.size) = some 3 := by kernel_rfl
theorem by24 : (Try.prog.info? 24).map (·.bytes) = some 40 := by kernel_rfl
theorem ag24 : aggB Try.prog 24 = true := by kernel_rfl
theorem nu24 : notInt Try.prog 24 = true := by kernel_rfl
theorem zr24 : (Try.prog.info? 24).map (·.zero) = some (some (.agg #[.int .i64 0, .string ByteArray.empty, .string ByteArray.empty])) := by kernel_rfl
theorem pl24 : plOf Try.prog 24 = some [(0, 1), (1, 1), (2, 1)] := by kernel_rfl
theorem sz25 : (Try.prog.info? 25).map (·.size) = some 6 := by kernel_rfl
theorem by25 : (Try.prog.info? 25).map (·.bytes) = some 72 := by kernel_rfl
theorem ag25 : aggB Try.prog 25 = true := by kernel_rfl
theorem nu25 : notInt Try.prog 25 = true := by kernel_rfl
theorem zr25 : (Try.prog.info? 25).map (·.zero) = some (some (.agg #[.int .i64 0, .string ByteArray.empty, .string ByteArray.empty, .int .i64 0, .int .i64 0, .string ByteArray.empty])) := by kernel_rfl
theorem pl25 : plOf Try.prog 25 = some [(0, 3), (3, 1), (4, 1), (5, 1)] := by kernel_rfl
theorem sz26 : (Try.prog.info? 26).map (·.size) = some 6 := by kernel_rfl
theorem by26 : (Try.prog.info? 26).map (·.bytes) = some 72 := by kernel_rfl
theorem ag26 : aggB Try.prog 26 = true := by kernel_rfl
theorem nu26 : notInt Try.prog 26 = true := by kernel_rfl
theorem zr26 : (Try.prog.info? 26).map (·.zero) = some (some (.agg #[.int .i64 0, .string ByteArray.empty, .string ByteArray.empty, .int .i64 0, .int .i64 0, .string ByteArray.empty])) := by kernel_rfl
theorem pl26 : plOf Try.prog 26 = some [(0, 3), (3, 1), (4, 1), (5, 1)] := by kernel_rfl
theorem sz29 : (Try.prog.info? 29).map (·.size) = some 1 := by kernel_rfl
theorem by29 : (Try.prog.info? 29).map (·.bytes) = some 24 := by kernel_rfl
theorem ag29 : aggB Try.prog 29 = false := by kernel_rfl
theorem nu29 : notInt Try.prog 29 = true := by kernel_rfl
theorem zr29 : (Try.prog.info? 29).map (·.zero) = some (some (.slice none 0 0)) := by kernel_rfl
theorem sz31 : (Try.prog.info? 31).map (·.size) = some 6 := by kernel_rfl
theorem by31 : (Try.prog.info? 31).map (·.bytes) = some 72 := by kernel_rfl
theorem ag31 : aggB Try.prog 31 = true := by kernel_rfl
theorem nu31 : notInt Try.prog 31 = true := by kernel_rfl
theorem zr31 : (Try.prog.info? 31).map (·.zero) = some (some (.agg #[.int .i64 0, .string ByteArray.empty, .string ByteArray.empty, .int .i64 0, .int .i64 0, .string ByteArray.empty])) := by kernel_rfl
theorem pl31 : plOf Try.prog 31 = some [(0, 3), (3, 1), (4, 1), (5, 1)] := by kernel_rfl
theorem sz39 : (Try.prog.info? 39).map (·.size) = some 5 := by kernel_rfl
theorem by39 : (Try.prog.info? 39).map (·.bytes) = some 56 := by kernel_rfl
theorem ag39 : aggB Try.prog 39 = true := by kernel_rfl
theorem nu39 : notInt Try.prog 39 = true := by kernel_rfl
theorem zr39 : (Try.prog.info? 39).map (·.zero) = some (some (.agg #[.int .i64 0, .int .i64 0, .int .i64 0, .string ByteArray.empty, .string ByteArray.empty])) := by kernel_rfl
theorem pl39 : plOf Try.prog 39 = some [(0, 1), (1, 1), (2, 1), (3, 1), (4, 1)] := by kernel_rfl
theorem sz40 : (Try.prog.info? 40).map (·.size) = some 5 := by kernel_rfl
theorem by40 : (Try.prog.info? 40).map (·.bytes) = some 56 := by kernel_rfl
theorem ag40 : aggB Try.prog 40 = true := by kernel_rfl
theorem nu40 : notInt Try.prog 40 = true := by kernel_rfl
theorem zr40 : (Try.prog.info? 40).map (·.zero) = some (some (.agg #[.int .i64 0, .int .i64 0, .int .i64 0, .string ByteArray.empty, .string ByteArray.empty])) := by kernel_rfl
theorem pl40 : plOf Try.prog 40 = some [(0, 1), (1, 1), (2, 1), (3, 1), (4, 1)] := by kernel_rfl
theorem sz43 : (Try.prog.info? 43).map (·.size) = some 5 := by kernel_rfl
theorem by43 : (Try.prog.info? 43).map (·.bytes) = some 56 := by kernel_rfl
theorem ag43 : aggB Try.prog 43 = true := by kernel_rfl
theorem nu43 : notInt Try.prog 43 = true := by kernel_rfl
theorem zr43 : (Try.prog.info? 43).map (·.zero) = some (some (.agg #[.int .i64 0, .int .i64 0, .int .i64 0, .string ByteArray.empty, .string ByteArray.empty])) := by kernel_rfl
theorem pl43 : plOf Try.prog 43 = some [(0, 1), (1, 1), (2, 1), (3, 1), (4, 1)] := by kernel_rfl
theorem sz53 : (Try.prog.info? 53).map (·.size) = some 1 := by kernel_rfl
theorem by53 : (Try.prog.info? 53).map (·.bytes) = some 24 := by kernel_rfl
theorem ag53 : aggB Try.prog 53 = false := by kernel_rfl
theorem nu53 : notInt Try.prog 53 = true := by kernel_rfl
theorem zr53 : (Try.prog.info? 53).map (·.zero) = some (some (.slice none 0 0)) := by kernel_rfl
theorem sz60 : (Try.prog.info? 60).map (·.size) = some 1 := by kernel_rfl
theorem by60 : (Try.prog.info? 60).map (·.bytes) = some 24 := by kernel_rfl
theorem ag60 : aggB Try.prog 60 = false := by kernel_rfl
theorem nu60 : notInt Try.prog 60 = true := by kernel_rfl
theorem zr60 : (Try.prog.info? 60).map (·.zero) = some (some (.slice none 0 0)) := by kernel_rfl
theorem sz62 : (Try.prog.info? 62).map (·.size) = some 1 := by kernel_rfl
theorem by62 : (Try.prog.info? 62).map (·.bytes) = some 24 := by kernel_rfl
theorem ag62 : aggB Try.prog 62 = false := by kernel_rfl
theorem nu62 : notInt Try.prog 62 = true := by kernel_rfl
theorem zr62 : (Try.prog.info? 62).map (·.zero) = some (some (.slice none 0 0)) := by kernel_rfl
theorem sz65 : (Try.prog.info? 65).map (·.size) = some 4 := by kernel_rfl
theorem by65 : (Try.prog.info? 65).map (·.bytes) = some 40 := by kernel_rfl
theorem ag65 : aggB Try.prog 65 = true := by kernel_rfl
theorem nu65 : notInt Try.prog 65 = true := by kernel_rfl
theorem zr65 : (Try.prog.info? 65).map (·.zero) = some (some (.agg #[.pointer none, .pointer none, .pointer none, .string ByteArray.empty])) := by kernel_rfl
theorem pl65 : plOf Try.prog 65 = some [(0, 1), (1, 1), (2, 1), (3, 1)] := by kernel_rfl
theorem sz66 : (Try.prog.info? 66).map (·.size) = some 4 := by kernel_rfl
theorem by66 : (Try.prog.info? 66).map (·.bytes) = some 40 := by kernel_rfl
theorem ag66 : aggB Try.prog 66 = true := by kernel_rfl
theorem nu66 : notInt Try.prog 66 = true := by kernel_rfl
theorem zr66 : (Try.prog.info? 66).map (·.zero) = some (some (.agg #[.pointer none, .pointer none, .pointer none, .string ByteArray.empty])) := by kernel_rfl
theorem pl66 : plOf Try.prog 66 = some [(0, 1), (1, 1), (2, 1), (3, 1)] := by kernel_rfl
theorem sz67 : (Try.prog.info? 67).map (·.size) = some 0 := by kernel_rfl
theorem by67 : (Try.prog.info? 67).map (·.bytes) = some 0 := by kernel_rfl
theorem ag67 : aggB Try.prog 67 = true := by kernel_rfl
theorem nu67 : notInt Try.prog 67 = true := by kernel_rfl
theorem zr67 : (Try.prog.info? 67).map (·.zero) = some (some (.agg #[])) := by kernel_rfl
theorem sz68 : (Try.prog.info? 68).map (·.size) = some 0 := by kernel_rfl
theorem by68 : (Try.prog.info? 68).map (·.bytes) = some 0 := by kernel_rfl
theorem ag68 : aggB Try.prog 68 = true := by kernel_rfl
theorem nu68 : notInt Try.prog 68 = true := by kernel_rfl
theorem zr68 : (Try.prog.info? 68).map (·.zero) = some (some (.agg #[])) := by kernel_rfl
theorem pl68 : plOf Try.prog 68 = some [(0, 0)] := by kernel_rfl
theorem sz69 : (Try.prog.info? 69).map (·.size) = some 0 := by kernel_rfl
theorem by69 : (Try.prog.info? 69).map (·.bytes) = some 0 := by kernel_rfl
theorem ag69 : aggB Try.prog 69 = true := by kernel_rfl
theorem nu69 : notInt Try.prog 69 = true := by kernel_rfl
theorem zr69 : (Try.prog.info? 69).map (·.zero) = some (some (.agg #[])) := by kernel_rfl
theorem pl69 : plOf Try.prog 69 = some [(0, 0)] := by kernel_rfl
theorem sz71 : (Try.prog.info? 71).map (·.size) = some 1 := by kernel_rfl
theorem by71 : (Try.prog.info? 71).map (·.bytes) = some 4 := by kernel_rfl
theorem ag71 : aggB Try.prog 71 = false := by kernel_rfl
theorem zr71 : (Try.prog.info? 71).map (·.zero) = some (some (.int .u32 0)) := by kernel_rfl
theorem sz72 : (Try.prog.info? 72).map (·.size) = some 1 := by kernel_rfl
theorem by72 : (Try.prog.info? 72).map (·.bytes) = some 1 := by kernel_rfl
theorem ag72 : aggB Try.prog 72 = false := by kernel_rfl
theorem zr72 : (Try.prog.info? 72).map (·.zero) = some (some (.int .u8 0)) := by kernel_rfl
theorem sz73 : (Try.prog.info? 73).map (·.size) = some 1 := by kernel_rfl
theorem by73 : (Try.prog.info? 73).map (·.bytes) = some 1 := by kernel_rfl
theorem ag73 : aggB Try.prog 73 = false := by kernel_rfl
theorem zr73 : (Try.prog.info? 73).map (·.zero) = some (some (.int .u8 0)) := by kernel_rfl
theorem sz75 : (Try.prog.info? 75).map (·.size) = some 1 := by kernel_rfl
theorem by75 : (Try.prog.info? 75).map (·.bytes) = some 8 := by kernel_rfl
theorem ag75 : aggB Try.prog 75 = false := by kernel_rfl
theorem nu75 : notInt Try.prog 75 = true := by kernel_rfl
theorem zr75 : (Try.prog.info? 75).map (·.zero) = some (some (.pointer none)) := by kernel_rfl
theorem sz76 : (Try.prog.info? 76).map (·.size) = some 1 := by kernel_rfl
theorem by76 : (Try.prog.info? 76).map (·.bytes) = some 4 := by kernel_rfl
theorem ag76 : aggB Try.prog 76 = false := by kernel_rfl
theorem zr76 : (Try.prog.info? 76).map (·.zero) = some (some (.int .i32 0)) := by kernel_rfl
theorem sz77 : (Try.prog.info? 77).map (·.size) = some 1 := by kernel_rfl
theorem by77 : (Try.prog.info? 77).map (·.bytes) = some 4 := by kernel_rfl
theorem ag77 : aggB Try.prog 77 = false := by kernel_rfl
theorem zr77 : (Try.prog.info? 77).map (·.zero) = some (some (.int .i32 0)) := by kernel_rfl
theorem sz78 : (Try.prog.info? 78).map (·.size) = some 11 := by kernel_rfl
theorem by78 : (Try.prog.info? 78).map (·.bytes) = some 48 := by kernel_rfl
theorem ag78 : aggB Try.prog 78 = true := by kernel_rfl
theorem nu78 : notInt Try.prog 78 = true := by kernel_rfl
theorem zr78 : (Try.prog.info? 78).map (·.zero) = some (some (.agg #[.int .u64 0, .int .u64 0, .int .u32 0, .int .u8 0, .int .u8 0, .int .u8 0, .int .u8 0, .nilFunc, .pointer none, .int .i32 0, .int .i32 0])) := by kernel_rfl
theorem pl78 : plOf Try.prog 78 = some [(0, 1), (1, 1), (2, 1), (3, 1), (4, 1), (5, 1), (6, 1), (7, 1), (8, 1), (9, 1), (10, 1)] := by kernel_rfl
theorem sz79 : (Try.prog.info? 79).map (·.size) = some 11 := by kernel_rfl
theorem by79 : (Try.prog.info? 79).map (·.bytes) = some 48 := by kernel_rfl
theorem ag79 : aggB Try.prog 79 = true := by kernel_rfl
theorem nu79 : notInt Try.prog 79 = true := by kernel_rfl
theorem zr79 : (Try.prog.info? 79).map (·.zero) = some (some (.agg #[.int .u64 0, .int .u64 0, .int .u32 0, .int .u8 0, .int .u8 0, .int .u8 0, .int .u8 0, .nilFunc, .pointer none, .int .i32 0, .int .i32 0])) := by kernel_rfl
theorem pl79 : plOf Try.prog 79 = some [(0, 1), (1, 1), (2, 1), (3, 1), (4, 1), (5, 1), (6, 1), (7, 1), (8, 1), (9, 1), (10, 1)] := by kernel_rfl
theorem sz80 : (Try.prog.info? 80).map (·.size) = some 1 := by kernel_rfl
theorem by80 : (Try.prog.info? 80).map (·.bytes) = some 8 := by kernel_rfl
theorem ag80 : aggB Try.prog 80 = false := by kernel_rfl
theorem nu80 : notInt Try.prog 80 = true := by kernel_rfl
theorem zr80 : (Try.prog.info? 80).map (·.zero) = some (some (.pointer none)) := by kernel_rfl
end Am
end Go.Proofs.Ytndbjkapdmpbbaa
