/- Facts on the types of this seat, by program. -/
import Derived.Test.YtghgbhekjgincaaDoorAm9
namespace Go.Proofs.YtghgbhekjgincaaDoor
namespace Am
set_option maxRecDepth 100000
theorem sz2 : (Tryd.prog.info? 2).map (·.size) = some 1 := by kernel_rfl
theorem by2 : (Tryd.prog.info? 2).map (·.bytes) = some 8 := by kernel_rfl
theorem ag2 : aggB Tryd.prog 2 = false := by kernel_rfl
theorem zr2 : (Tryd.prog.info? 2).map (·.zero) = some (some (.int .i64 0)) := by kernel_rfl
theorem sz3 : (Tryd.prog.info? 3).map (·.size) = some 1 := by kernel_rfl
theorem by3 : (Tryd.prog.info? 3).map (·.bytes) = some 8 := by kernel_rfl
theorem ag3 : aggB Tryd.prog 3 = false := by kernel_rfl
theorem zr3 : (Tryd.prog.info? 3).map (·.zero) = some (some (.int .i64 0)) := by kernel_rfl
theorem sz4 : (Tryd.prog.info? 4).map (·.size) = some 1 := by kernel_rfl
theorem by4 : (Tryd.prog.info? 4).map (·.bytes) = some 1 := by kernel_rfl
theorem ag4 : aggB Tryd.prog 4 = false := by kernel_rfl
theorem nu4 : notInt Tryd.prog 4 = true := by kernel_rfl
theorem zr4 : (Tryd.prog.info? 4).map (·.zero) = some (some (.bool false)) := by kernel_rfl
theorem sz5 : (Tryd.prog.info? 5).map (·.size) = some 1 := by kernel_rfl
theorem by5 : (Tryd.prog.info? 5).map (·.bytes) = some 1 := by kernel_rfl
theorem ag5 : aggB Tryd.prog 5 = false := by kernel_rfl
theorem zr5 : (Tryd.prog.info? 5).map (·.zero) = some (some (.int .u8 0)) := by kernel_rfl
theorem sz6 : (Tryd.prog.info? 6).map (·.size) = some 1 := by kernel_rfl
theorem by6 : (Tryd.prog.info? 6).map (·.bytes) = some 1 := by kernel_rfl
theorem ag6 : aggB Tryd.prog 6 = false := by kernel_rfl
theorem zr6 : (Tryd.prog.info? 6).map (·.zero) = some (some (.int .u8 0)) := by kernel_rfl
theorem sz7 : (Tryd.prog.info? 7).map (·.size) = some 4 := by kernel_rfl
theorem by7 : (Tryd.prog.info? 7).map (·.bytes) = some 24 := by kernel_rfl
theorem ag7 : aggB Tryd.prog 7 = true := by kernel_rfl
theorem nu7 : notInt Tryd.prog 7 = true := by kernel_rfl
theorem zr7 : (Tryd.prog.info? 7).map (·.zero) = some (some (.agg #[.int .i64 0, .int .i64 0, .bool false, .int .u8 0])) := by kernel_rfl
theorem pl7 : plOf Tryd.prog 7 = some [(0, 1), (1, 1), (2, 1), (3, 1)] := by kernel_rfl
theorem sz8 : (Tryd.prog.info? 8).map (·.size) = some 4 := by kernel_rfl
theorem by8 : (Tryd.prog.info? 8).map (·.bytes) = some 24 := by kernel_rfl
theorem ag8 : aggB Tryd.prog 8 = true := by kernel_rfl
theorem nu8 : notInt Tryd.prog 8 = true := by kernel_rfl
theorem zr8 : (Tryd.prog.info? 8).map (·.zero) = some (some (.agg #[.int .i64 0, .int .i64 0, .bool false, .int .u8 0])) := by kernel_rfl
theorem pl8 : plOf Tryd.prog 8 = some [(0, 1), (1, 1), (2, 1), (3, 1)] := by kernel_rfl
theorem sz9 : (Tryd.prog.info? 9).map (·.size) = some 1 := by kernel_rfl
theorem by9 : (Tryd.prog.info? 9).map (·.bytes) = some 16 := by kernel_rfl
theorem ag9 : aggB Tryd.prog 9 = false := by kernel_rfl
theorem nu9 : notInt Tryd.prog 9 = true := by kernel_rfl
theorem zr9 : (Tryd.prog.info? 9).map (·.zero) = some (some (.string ByteArray.empty)) := by kernel_rfl
theorem sz10 : (Tryd.prog.info? 10).map (·.size) = some 1 := by kernel_rfl
theorem by10 : (Tryd.prog.info? 10).map (·.bytes) = some 16 := by kernel_rfl
theorem ag10 : aggB Tryd.prog 10 = false := by kernel_rfl
theorem nu10 : notInt Tryd.prog 10 = true := by kernel_rfl
theorem zr10 : (Tryd.prog.info? 10).map (·.zero) = some (some (.string ByteArray.empty)) := by kernel_rfl
theorem sz11 : (Tryd.prog.info? 11).map (·.size) = some 1 := by kernel_rfl
theorem by11 : (Tryd.prog.info? 11).map (·.bytes) = some 16 := by kernel_rfl
theorem ag11 : aggB Tryd.prog 11 = false := by kernel_rfl
theorem nu11 : notInt Tryd.prog 11 = true := by kernel_rfl
theorem zr11 : (Tryd.prog.info? 11).map (·.zero) = some (some (.string ByteArray.empty)) := by kernel_rfl
theorem sz12 : (Tryd.prog.info? 12).map (·.size) = some 1 := by kernel_rfl
theorem by12 : (Tryd.prog.info? 12).map (·.bytes) = some 8 := by kernel_rfl
theorem ag12 : aggB Tryd.prog 12 = false := by kernel_rfl
theorem zr12 : (Tryd.prog.info? 12).map (·.zero) = some (some (.int .u64 0)) := by kernel_rfl
theorem sz13 : (Tryd.prog.info? 13).map (·.size) = some 2 := by kernel_rfl
theorem by13 : (Tryd.prog.info? 13).map (·.bytes) = some 24 := by kernel_rfl
theorem ag13 : aggB Tryd.prog 13 = true := by kernel_rfl
theorem nu13 : notInt Tryd.prog 13 = true := by kernel_rfl
theorem zr13 : (Tryd.prog.info? 13).map (·.zero) = some (some (.agg #[.string ByteArray.empty, .int .u64 0])) := by kernel_rfl
theorem pl13 : plOf Tryd.prog 13 = some [(0, 1), (1, 1)] := by kernel_rfl
theorem sz14 : (Tryd.prog.info? 14).map (·.size) = some 2 := by kernel_rfl
theorem by14 : (Tryd.prog.info? 14).map (·.bytes) = some 24 := by kernel_rfl
theorem ag14 : aggB Tryd.prog 14 = true := by kernel_rfl
theorem nu14 : notInt Tryd.prog 14 = true := by kernel_rfl
theorem zr14 : (Tryd.prog.info? 14).map (·.zero) = some (some (.agg #[.string ByteArray.empty, .int .u64 0])) := by kernel_rfl
theorem pl14 : plOf Tryd.prog 14 = some [(0, 1), (1, 1)] := by kernel_rfl
theorem sz15 : (Tryd.prog.info? 15).map (·.size) = some 1 := by kernel_rfl
theorem by15 : (Tryd.prog.info? 15).map (·.bytes) = some 8 := by kernel_rfl
theorem ag15 : aggB Tryd.prog 15 = false := by kernel_rfl
theorem nu15 : notInt Tryd.prog 15 = true := by kernel_rfl
theorem zr15 : (Tryd.prog.info? 15).map (·.zero) = some (some (.pointer none)) := by kernel_rfl
theorem sz16 : (Tryd.prog.info? 16).map (·.size) = some 1 := by kernel_rfl
theorem by16 : (Tryd.prog.info? 16).map (·.bytes) = some 8 := by kernel_rfl
theorem ag16 : aggB Tryd.prog 16 = false := by kernel_rfl
theorem nu16 : notInt Tryd.prog 16 = true := by kernel_rfl
theorem zr16 : (Tryd.prog.info? 16).map (·.zero) = some (some (.pointer none)) := by kernel_rfl
theorem sz17 : (Tryd.prog.info? 17).map (·.size) = some 1 := by kernel_rfl
theorem by17 : (Tryd.prog.info? 17).map (·.bytes) = some 8 := by kernel_rfl
theorem ag17 : aggB Tryd.prog 17 = false := by kernel_rfl
theorem nu17 : notInt Tryd.prog 17 = true := by kernel_rfl
theorem zr17 : (Tryd.prog.info? 17).map (·.zero) = some (some (.pointer none)) := by kernel_rfl
theorem sz18 : (Tryd.prog.info? 18).map (·.size) = some 1 := by kernel_rfl
theorem by18 : (Tryd.prog.info? 18).map (·.bytes) = some 8 := by kernel_rfl
theorem ag18 : aggB Tryd.prog 18 = true := by kernel_rfl
theorem nu18 : notInt Tryd.prog 18 = true := by kernel_rfl
theorem zr18 : (Tryd.prog.info? 18).map (·.zero) = some (some (.agg #[.pointer none])) := by kernel_rfl
theorem pl18 : plOf Tryd.prog 18 = some [(0, 1)] := by kernel_rfl
theorem sz19 : (Tryd.prog.info? 19).map (·.size) = some 1 := by kernel_rfl
theorem by19 : (Tryd.prog.info? 19).map (·.bytes) = some 8 := by kernel_rfl
theorem ag19 : aggB Tryd.prog 19 = true := by kernel_rfl
theorem nu19 : notInt Tryd.prog 19 = true := by kernel_rfl
theorem zr19 : (Tryd.prog.info? 19).map (·.zero) = some (some (.agg #[.pointer none])) := by kernel_rfl
theorem pl19 : plOf Tryd.prog 19 = some [(0, 1)] := by kernel_rfl
theorem sz20 : (Tryd.prog.info? 20).map (·.size) = some 1 := by kernel_rfl
theorem by20 : (Tryd.prog.info? 20).map (·.bytes) = some 16 := by kernel_rfl
theorem ag20 : aggB Tryd.prog 20 = false := by kernel_rfl
theorem nu20 : notInt Tryd.prog 20 = true := by kernel_rfl
theorem zr20 : (Tryd.prog.info? 20).map (·.zero) = some (some (.nilIface)) := by kernel_rfl
theorem sz21 : (Tryd.prog.info? 21).map (·.size) = some 1 := by kernel_rfl
theorem by21 : (Tryd.prog.info? 21).map (·.bytes) = some 4 := by kernel_rfl
theorem ag21 : aggB Tryd.prog 21 = false := by kernel_rfl
theorem zr21 : (Tryd.prog.info? 21).map (·.zero) = some (some (.int .i32 0)) := by kernel_rfl
theorem sz22 : (Tryd.prog.info? 22).map (·.size) = some 1 := by kernel_rfl
theorem by22 : (Tryd.prog.info? 22).map (·.bytes) = some 24 := by kernel_rfl
theorem ag22 : aggB Tryd.prog 22 = false := by kernel_rfl
theorem nu22 : notInt Tryd.prog 22 = true := by kernel_rfl
theorem zr22 : (Tryd.prog.info? 22).map (·.zero) = some (some (.slice none 0 0)) := by kernel_rfl
theorem sz25 : (Tryd.prog.info? 25).map (·.size) = some 1 := by kernel_rfl
theorem by25 : (Tryd.prog.info? 25).map (·.bytes) = some 8 := by kernel_rfl
theorem ag25 : aggB Tryd.prog 25 = false := by kernel_rfl
theorem zr25 : (Tryd.prog.info? 25).map (·.zero) = some (some (.int .u64 0)) := by kernel_rfl
theorem sz26 : (Tryd.prog.info? 26).map (·.size) = some 1 := by kernel_rfl
theorem by26 : (Tryd.prog.info? 26).map (·.bytes) = some 8 := by kernel_rfl
theorem ag26 : aggB Tryd.prog 26 = false := by kernel_rfl
theorem nu26 : notInt Tryd.prog 26 = true := by kernel_rfl
theorem zr26 : (Tryd.prog.info? 26).map (·.zero) = some (some (.pointer none)) := by kernel_rfl
theorem sz27 : (Tryd.prog.info? 27).map (·.size) = some 1 := by kernel_rfl
theorem by27 : (Tryd.prog.info? 27).map (·.bytes) = some 16 := by kernel_rfl
theorem ag27 : aggB Tryd.prog 27 = false := by kernel_rfl
theorem nu27 : notInt Tryd.prog 27 = true := by kernel_rfl
theorem zr27 : (Tryd.prog.info? 27).map (·.zero) = some (some (.nilIface)) := by kernel_rfl
theorem sz28 : (Tryd.prog.info? 28).map (·.size) = some 1 := by kernel_rfl
theorem by28 : (Tryd.prog.info? 28).map (·.bytes) = some 16 := by kernel_rfl
theorem ag28 : aggB Tryd.prog 28 = false := by kernel_rfl
theorem nu28 : notInt Tryd.prog 28 = true := by kernel_rfl
theorem zr28 : (Tryd.prog.info? 28).map (·.zero) = some (some (.nilIface)) := by kernel_rfl
theorem sz31 : (Tryd.prog.info? 31).map (·.size) = some 3 := by kernel_rfl
theorem by31 : (Tryd.prog.info? 31).map (·.bytes) = some 32 := by kernel_rfl
theorem ag31 : aggB Tryd.prog 31 = true := by kernel_rfl
theorem nu31 : notInt Tryd.prog 31 = true := by kernel_rfl
theorem zr31 : (Tryd.prog.info? 31).map (·.zero) = some (some (.agg #[.int .i64 0, .bool false, .string ByteArray.empty])) := by kernel_rfl
theorem pl31 : plOf Tryd.prog 31 = some [(0, 1), (1, 1), (2, 1)] := by kernel_rfl
theorem sz32 : (Tryd.prog.info? 32).map (·.size) = some 3 := by kernel_rfl
theorem by32 : (Tryd.prog.info? 32).map (·.bytes) = some 32 := by kernel_rfl
theorem ag32 : aggB Tryd.prog 32 = true := by kernel_rfl
theorem nu32 : notInt Tryd.prog 32 = true := by kernel_rfl
theorem zr32 : (Tryd.prog.info? 32).map (·.zero) = some (some (.agg #[.int .i64 0, .bool false, .string ByteArray.empty])) := by kernel_rfl
theorem pl32 : plOf Tryd.prog 32 = some [(0, 1), (1, 1), (2, 1)] := by kernel_rfl
theorem sz38 : (Tryd.prog.info? 38).map (·.size) = some 1 := by kernel_rfl
theorem by38 : (Tryd.prog.info? 38).map (·.bytes) = some 8 := by kernel_rfl
theorem ag38 : aggB Tryd.prog 38 = false := by kernel_rfl
theorem nu38 : notInt Tryd.prog 38 = true := by kernel_rfl
theorem zr38 : (Tryd.prog.info? 38).map (·.zero) = some (some (.pointer none)) := by kernel_rfl
theorem sz42 : (Tryd.prog.info? 42).map (·.size) = some 1 := by kernel_rfl
theorem by42 : (Tryd.prog.info? 42).map (·.bytes) = some 8 := by kernel_rfl
theorem ag42 : aggB Tryd.prog 42 = false := by kernel_rfl
theorem nu42 : notInt Tryd.prog 42 = true := by kernel_rfl
theorem zr42 : (Tryd.prog.info? 42).map (·.zero) = some (some (.pointer none)) := by kernel_rfl
theorem sz43 : (Tryd.prog.info? 43).map (·.size) = some 1 := by kernel_rfl
theorem by43 : (Tryd.prog.info? 43).map (·.bytes) = some 24 := by kernel_rfl
theorem ag43 : aggB Tryd.prog 43 = false := by kernel_rfl
theorem nu43 : notInt Tryd.prog 43 = true := by kernel_rfl
theorem zr43 : (Tryd.prog.info? 43).map (·.zero) = some (some (.slice none 0 0)) := by kernel_rfl
theorem sz44 : (Tryd.prog.info? 44).map (·.size) = some 3 := by kernel_rfl
theorem by44 : (Tryd.prog.info? 44).map (·.bytes) = some 40 := by kernel_rfl
theorem ag44 : aggB Tryd.prog 44 = true := by kernel_rfl
theorem nu44 : notInt Tryd.prog 44 = true := by kernel_rfl
theorem zr44 : (Tryd.prog.info? 44).map (·.zero) = some (some (.agg #[.int .i64 0, .int .i64 0, .slice none 0 0])) := by kernel_rfl
theorem pl44 : plOf Tryd.prog 44 = some [(0, 1), (1, 1), (2, 1)] := by kernel_rfl
theorem sz45 : (Tryd.prog.info? 45).map (·.size) = some 3 := by kernel_rfl
theorem by45 : (Tryd.prog.info? 45).map (·.bytes) = some 40 := by kernel_rfl
theorem ag45 : aggB Tryd.prog 45 = true := by kernel_rfl
theorem nu45 : notInt Tryd.prog 45 = true := by kernel_rfl
theorem zr45 : (Tryd.prog.info? 45).map (·.zero) = some (some (.agg #[.int .i64 0, .int .i64 0, .slice none 0 0])) := by kernel_rfl
theorem pl45 : plOf Tryd.prog 45 = some [(0, 1), (1, 1), (2, 1)] := by kernel_rfl
theorem sz53 : (Tryd.prog.info? 53).map (·.size) = some 3 := by kernel_rfl
theorem by53 : (Tryd.prog.info? 53).map (·.bytes) = some 40 := by kernel_rfl
theorem ag53 : aggB Tryd.prog 53 = true := by kernel_rfl
theorem nu53 : notInt Tryd.prog 53 = true := by kernel_rfl
theorem zr53 : (Tryd.prog.info? 53).map (·.zero) = some (some (.agg #[.int .i64 0, .string ByteArray.empty, .string ByteArray.empty])) := by kernel_rfl
theorem pl53 : plOf Tryd.prog 53 = some [(0, 1), (1, 1), (2, 1)] := by kernel_rfl
theorem sz54 : (Tryd.prog.info? 54).map (·.size) = some 3 := by kernel_rfl
theorem by54 : (Tryd.prog.info? 54).map (·.bytes) = some 40 := by kernel_rfl
theorem ag54 : aggB Tryd.prog 54 = true := by kernel_rfl
theorem nu54 : notInt Tryd.prog 54 = true := by kernel_rfl
theorem zr54 : (Tryd.prog.info? 54).map (·.zero) = some (some (.agg #[.int .i64 0, .string ByteArray.empty, .string ByteArray.empty])) := by kernel_rfl
theorem pl54 : plOf Tryd.prog 54 = some [(0, 1), (1, 1), (2, 1)] := by kernel_rfl
theorem sz55 : (Tryd.prog.info? 55).map (·.size) = some 7 := by kernel_rfl
theorem by55 : (Tryd.prog.info? 55).map (·.bytes) = some 96 := by kernel_rfl
theorem ag55 : aggB Tryd.prog 55 = true := by kernel_rfl
theorem nu55 : notInt Tryd.prog 55 = true := by kernel_rfl
theorem zr55 : (Tryd.prog.info? 55).map (·.zero) = some (some (.agg #[.int .i64 0, .string ByteArray.empty, .string ByteArray.empty, .string ByteArray.empty, .int .i64 0, .int .i64 0, .slice none 0 0])) := by kernel_rfl
theorem pl55 : plOf Tryd.prog 55 = some [(0, 3), (3, 1), (4, 1), (5, 1), (6, 1)] := by kernel_rfl
theorem sz56 : (Tryd.prog.info? 56).map (·.size) = some 7 := by kernel_rfl
theorem by56 : (Tryd.prog.info? 56).map (·.bytes) = some 96 := by kernel_rfl
theorem ag56 : aggB Tryd.prog 56 = true := by kernel_rfl
theorem nu56 : notInt Tryd.prog 56 = true := by kernel_rfl
theorem zr56 : (Tryd.prog.info? 56).map (·.zero) = some (some (.agg #[.int .i64 0, .string ByteArray.empty, .string ByteArray.empty, .string ByteArray.empty, .int .i64 0, .int .i64 0, .slice none 0 0])) := by kernel_rfl
theorem pl56 : plOf Tryd.prog 56 = some [(0, 3), (3, 1), (4, 1), (5, 1), (6, 1)] := by kernel_rfl
theorem sz58 : (Tryd.prog.info? 58).map (·.size) = some 1 := by kernel_rfl
theorem by58 : (Tryd.prog.info? 58).map (·.bytes) = some 24 := by kernel_rfl
theorem ag58 : aggB Tryd.prog 58 = false := by kernel_rfl
theorem nu58 : notInt Tryd.prog 58 = true := by kernel_rfl
theorem zr58 : (Tryd.prog.info? 58).map (·.zero) = some (some (.slice none 0 0)) := by kernel_rfl
theorem sz64 : (Tryd.prog.info? 64).map (·.size) = some 1 := by kernel_rfl
theorem by64 : (Tryd.prog.info? 64).map (·.bytes) = some 24 := by kernel_rfl
theorem ag64 : aggB Tryd.prog 64 = false := by kernel_rfl
theorem nu64 : notInt Tryd.prog 64 = true := by kernel_rfl
theorem zr64 : (Tryd.prog.info? 64).map (·.zero) = some (some (.slice none 0 0)) := by kernel_rfl
theorem sz70 : (Tryd.prog.info? 70).map (·.size) = some 4 := by kernel_rfl
theorem by70 : (Tryd.prog.info? 70).map (·.bytes) = some 32 := by kernel_rfl
theorem ag70 : aggB Tryd.prog 70 = true := by kernel_rfl
theorem nu70 : notInt Tryd.prog 70 = true := by kernel_rfl
theorem zr70 : (Tryd.prog.info? 70).map (·.zero) = some (some (.agg #[.int .i64 0, .int .i64 0, .int .i64 0, .int .i64 0])) := by kernel_rfl
theorem pl70 : plOf Tryd.prog 70 = some [(0, 1), (1, 1), (2, 1), (3, 1)] := by kernel_rfl
theorem sz71 : (Tryd.prog.info? 71).map (·.size) = some 4 := by kernel_rfl
theorem by71 : (Tryd.prog.info? 71).map (·.bytes) = some 32 := by kernel_rfl
theorem ag71 : aggB Tryd.prog 71 = true := by kernel_rfl
theorem nu71 : notInt Tryd.prog 71 = true := by kernel_rfl
theorem zr71 : (Tryd.prog.info? 71).map (·.zero) = some (some (.agg #[.int .i64 0, .int .i64 0, .int .i64 0, .int .i64 0])) := by kernel_rfl
theorem pl71 : plOf Tryd.prog 71 = some [(0, 1), (1, 1), (2, 1), (3, 1)] := by kernel_rfl
theorem sz75 : (Tryd.prog.info? 75).map (·.size) = some 1 := by kernel_rfl
theorem by75 : (Tryd.prog.info? 75).map (·.bytes) = some 24 := by kernel_rfl
theorem ag75 : aggB Tryd.prog 75 = false := by kernel_rfl
theorem nu75 : notInt Tryd.prog 75 = true := by kernel_rfl
theorem zr75 : (Tryd.prog.info? 75).map (·.zero) = some (some (.slice none 0 0)) := by kernel_rfl
theorem sz90 : (Tryd.prog.info? 90).map (·.size) = some 1 := by kernel_rfl
theorem by90 : (Tryd.prog.info? 90).map (·.bytes) = some 24 := by kernel_rfl
theorem ag90 : aggB Tryd.prog 90 = false := by kernel_rfl
theorem nu90 : notInt Tryd.prog 90 = true := by kernel_rfl
theorem zr90 : (Tryd.prog.info? 90).map (·.zero) = some (some (.slice none 0 0)) := by kernel_rfl
theorem sz95 : (Tryd.prog.info? 95).map (·.size) = some 1 := by kernel_rfl
theorem by95 : (Tryd.prog.info? 95).map (·.bytes) = some 24 := by kernel_rfl
theorem ag95 : aggB Tryd.prog 95 = false := by kernel_rfl
theorem nu95 : notInt Tryd.prog 95 = true := by kernel_rfl
theorem zr95 : (Tryd.prog.info? 95).map (·.zero) = some (some (.slice none 0 0)) := by kernel_rfl
theorem sz108 : (Tryd.prog.info? 108).map (·.size) = some 1 := by kernel_rfl
theorem by108 : (Tryd.prog.info? 108).map (·.bytes) = some 8 := by kernel_rfl
theorem ag108 : aggB Tryd.prog 108 = false := by kernel_rfl
theorem zr108 : (Tryd.prog.info? 108).map (·.zero) = some (some (.int .u64 0)) := by kernel_rfl
theorem sz109 : (Tryd.prog.info? 109).map (·.size) = some 9 := by kernel_rfl
theorem by109 : (Tryd.prog.info? 109).map (·.bytes) = some 128 := by kernel_rfl
theorem ag109 : aggB Tryd.prog 109 = true := by kernel_rfl
theorem nu109 : notInt Tryd.prog 109 = true := by kernel_rfl
theorem zr109 : (Tryd.prog.info? 109).map (·.zero) = some (some (.agg #[.int .i64 0, .slice none 0 0, .int .i64 0, .string ByteArray.empty, .string ByteArray.empty, .slice none 0 0, .int .i64 0, .int .i64 0, .string ByteArray.empty])) := by kernel_rfl
theorem pl109 : plOf Tryd.prog 109 = some [(0, 1), (1, 1), (2, 1), (3, 1), (4, 1), (5, 1), (6, 1), (7, 1), (8, 1)] := by kernel_rfl
theorem sz110 : (Tryd.prog.info? 110).map (·.size) = some 9 := by kernel_rfl
theorem by110 : (Tryd.prog.info? 110).map (·.bytes) = some 128 := by kernel_rfl
theorem ag110 : aggB Tryd.prog 110 = true := by kernel_rfl
theorem nu110 : notInt Tryd.prog 110 = true := by kernel_rfl
theorem zr110 : (Tryd.prog.info? 110).map (·.zero) = some (some (.agg #[.int .i64 0, .slice none 0 0, .int .i64 0, .string ByteArray.empty, .string ByteArray.empty, .slice none 0 0, .int .i64 0, .int .i64 0, .string ByteArray.empty])) := by kernel_rfl
theorem pl110 : plOf Tryd.prog 110 = some [(0, 1), (1, 1), (2, 1), (3, 1), (4, 1), (5, 1), (6, 1), (7, 1), (8, 1)] := by kernel_rfl
theorem sz111 : (Tryd.prog.info? 111).map (·.size) = some 14 := by kernel_rfl
theorem by111 : (Tryd.prog.info? 111).map (·.bytes) = some 184 := by kernel_rfl
theorem ag111 : aggB Tryd.prog 111 = true := by kernel_rfl
theorem nu111 : notInt Tryd.prog 111 = true := by kernel_rfl
theorem zr111 : (Tryd.prog.info? 111).map (·.zero) = some (some (.agg #[.int .i64 0, .int .i64 0, .int .i64 0, .int .u64 0, .slice none 0 0, .int .i64 0, .slice none 0 0, .int .i64 0, .string ByteArray.empty, .string ByteArray.empty, .slice none 0 0, .int .i64 0, .int .i64 0, .string ByteArray.empty])) := by kernel_rfl
theorem pl111 : plOf Tryd.prog 111 = some [(0, 1), (1, 1), (2, 1), (3, 1), (4, 1), (5, 9)] := by kernel_rfl
theorem sz112 : (Tryd.prog.info? 112).map (·.size) = some 14 := by kernel_rfl
theorem by112 : (Tryd.prog.info? 112).map (·.bytes) = some 184 := by kernel_rfl
theorem ag112 : aggB Tryd.prog 112 = true := by kernel_rfl
theorem nu112 : notInt Tryd.prog 112 = true := by kernel_rfl
theorem zr112 : (Tryd.prog.info? 112).map (·.zero) = some (some (.agg #[.int .i64 0, .int .i64 0, .int .i64 0, .int .u64 0, .slice none 0 0, .int .i64 0, .slice none 0 0, .int .i64 0, .string ByteArray.empty, .string ByteArray.empty, .slice none 0 0, .int .i64 0, .int .i64 0, .string ByteArray.empty])) := by kernel_rfl
theorem pl112 : plOf Tryd.prog 112 = some [(0, 1), (1, 1), (2, 1), (3, 1), (4, 1), (5, 9)] := by kernel_rfl
theorem sz115 : (Tryd.prog.info? 115).map (·.size) = some 9 := by kernel_rfl
theorem by115 : (Tryd.prog.info? 115).map (·.bytes) = some 128 := by kernel_rfl
theorem ag115 : aggB Tryd.prog 115 = true := by kernel_rfl
theorem nu115 : notInt Tryd.prog 115 = true := by kernel_rfl
theorem zr115 : (Tryd.prog.info? 115).map (·.zero) = some (some (.agg #[.int .i64 0, .slice none 0 0, .int .i64 0, .string ByteArray.empty, .string ByteArray.empty, .slice none 0 0, .int .i64 0, .int .i64 0, .string ByteArray.empty])) := by kernel_rfl
theorem pl115 : plOf Tryd.prog 115 = some [(0, 1), (1, 1), (2, 1), (3, 1), (4, 1), (5, 1), (6, 1), (7, 1), (8, 1)] := by kernel_rfl
theorem sz116 : (Tryd.prog.info? 116).map (·.size) = some 14 := by kernel_rfl
theorem by116 : (Tryd.prog.info? 116).map (·.bytes) = some 184 := by kernel_rfl
theorem ag116 : aggB Tryd.prog 116 = true := by kernel_rfl
theorem nu116 : notInt Tryd.prog 116 = true := by kernel_rfl
theorem zr116 : (Tryd.prog.info? 116).map (·.zero) = some (some (.agg #[.int .i64 0, .int .i64 0, .int .i64 0, .int .u64 0, .slice none 0 0, .int .i64 0, .slice none 0 0, .int .i64 0, .string ByteArray.empty, .string ByteArray.empty, .slice none 0 0, .int .i64 0, .int .i64 0, .string ByteArray.empty])) := by kernel_rfl
theorem pl116 : plOf Tryd.prog 116 = some [(0, 1), (1, 1), (2, 1), (3, 1), (4, 1), (5, 9)] := by kernel_rfl
theorem sz117 : (Tryd.prog.info? 117).map (·.size) = some 14 := by kernel_rfl
theorem by117 : (Tryd.prog.info? 117).map (·.bytes) = some 184 := by kernel_rfl
theorem ag117 : aggB Tryd.prog 117 = true := by kernel_rfl
theorem nu117 : notInt Tryd.prog 117 = true := by kernel_rfl
theorem zr117 : (Tryd.prog.info? 117).map (·.zero) = some (some (.agg #[.int .i64 0, .int .i64 0, .int .i64 0, .int .u64 0, .slice none 0 0, .int .i64 0, .slice none 0 0, .int .i64 0, .string ByteArray.empty, .string ByteArray.empty, .slice none 0 0, .int .i64 0, .int .i64 0, .string ByteArray.empty])) := by kernel_rfl
theorem pl117 : plOf Tryd.prog 117 = some [(0, 1), (1, 1), (2, 1), (3, 1), (4, 1), (5, 9)] := by kernel_rfl
theorem sz126 : (Tryd.prog.info? 126).map (·.size) = some 1 := by kernel_rfl
theorem by126 : (Tryd.prog.info? 126).map (·.bytes) = some 8 := by kernel_rfl
theorem ag126 : aggB Tryd.prog 126 = false := by kernel_rfl
theorem nu126 : notInt Tryd.prog 126 = true := by kernel_rfl
theorem zr126 : (Tryd.prog.info? 126).map (·.zero) = some (some (.chan none)) := by kernel_rfl
theorem sz127 : (Tryd.prog.info? 127).map (·.size) = some 2 := by kernel_rfl
theorem by127 : (Tryd.prog.info? 127).map (·.bytes) = some 16 := by kernel_rfl
theorem ag127 : aggB Tryd.prog 127 = true := by kernel_rfl
theorem nu127 : notInt Tryd.prog 127 = true := by kernel_rfl
theorem zr127 : (Tryd.prog.info? 127).map (·.zero) = some (some (.agg #[.chan none, .int .i64 0])) := by kernel_rfl
theorem pl127 : plOf Tryd.prog 127 = some [(0, 1), (1, 1)] := by kernel_rfl
theorem sz128 : (Tryd.prog.info? 128).map (·.size) = some 2 := by kernel_rfl
theorem by128 : (Tryd.prog.info? 128).map (·.bytes) = some 16 := by kernel_rfl
theorem ag128 : aggB Tryd.prog 128 = true := by kernel_rfl
theorem nu128 : notInt Tryd.prog 128 = true := by kernel_rfl
theorem zr128 : (Tryd.prog.info? 128).map (·.zero) = some (some (.agg #[.chan none, .int .i64 0])) := by kernel_rfl
theorem pl128 : plOf Tryd.prog 128 = some [(0, 1), (1, 1)] := by kernel_rfl
theorem sz129 : (Tryd.prog.info? 129).map (·.size) = some 1 := by kernel_rfl
theorem by129 : (Tryd.prog.info? 129).map (·.bytes) = some 8 := by kernel_rfl
theorem ag129 : aggB Tryd.prog 129 = false := by kernel_rfl
theorem nu129 : notInt Tryd.prog 129 = true := by kernel_rfl
theorem zr129 : (Tryd.prog.info? 129).map (·.zero) = some (some (.chan none)) := by kernel_rfl
theorem sz130 : (Tryd.prog.info? 130).map (·.size) = some 2 := by kernel_rfl
theorem by130 : (Tryd.prog.info? 130).map (·.bytes) = some 16 := by kernel_rfl
theorem ag130 : aggB Tryd.prog 130 = true := by kernel_rfl
theorem nu130 : notInt Tryd.prog 130 = true := by kernel_rfl
theorem zr130 : (Tryd.prog.info? 130).map (·.zero) = some (some (.agg #[.chan none, .int .i64 0])) := by kernel_rfl
theorem pl130 : plOf Tryd.prog 130 = some [(0, 1), (1, 1)] := by kernel_rfl
theorem sz131 : (Tryd.prog.info? 131).map (·.size) = some 2 := by kernel_rfl
theorem by131 : (Tryd.prog.info? 131).map (·.bytes) = some 16 := by kernel_rfl
theorem ag131 : aggB Tryd.prog 131 = true := by kernel_rfl
theorem nu131 : notInt Tryd.prog 131 = true := by kernel_rfl
theorem zr131 : (Tryd.prog.info? 131).map (·.zero) = some (some (.agg #[.chan none, .int .i64 0])) := by kernel_rfl
theorem pl131 : plOf Tryd.prog 131 = some [(0, 1), (1, 1)] := by kernel_rfl
theorem sz132 : (Tryd.prog.info? 132).map (·.size) = some 1 := by kernel_rfl
theorem by132 : (Tryd.prog.info? 132).map (·.bytes) = some 24 := by kernel_rfl
theorem ag132 : aggB Tryd.prog 132 = false := by kernel_rfl
theorem nu132 : notInt Tryd.prog 132 = true := by kernel_rfl
theorem zr132 : (Tryd.prog.info? 132).map (·.zero) = some (some (.slice none 0 0)) := by kernel_rfl
theorem sz135 : (Tryd.prog.info? 135).map (·.size) = some 1 := by kernel_rfl
theorem by135 : (Tryd.prog.info? 135).map (·.bytes) = some 24 := by kernel_rfl
theorem ag135 : aggB Tryd.prog 135 = false := by kernel_rfl
theorem nu135 : notInt Tryd.prog 135 = true := by kernel_rfl
theorem zr135 : (Tryd.prog.info? 135).map (·.zero) = some (some (.slice none 0 0)) := by kernel_rfl
theorem sz137 : (Tryd.prog.info? 137).map (·.size) = some 5 := by kernel_rfl
theorem by137 : (Tryd.prog.info? 137).map (·.bytes) = some 40 := by kernel_rfl
theorem ag137 : aggB Tryd.prog 137 = true := by kernel_rfl
theorem nu137 : notInt Tryd.prog 137 = true := by kernel_rfl
theorem zr137 : (Tryd.prog.info? 137).map (·.zero) = some (some (.agg #[.int .i64 0, .int .i64 0, .bool false, .int .i64 0, .int .i64 0])) := by kernel_rfl
theorem pl137 : plOf Tryd.prog 137 = some [(0, 1), (1, 1), (2, 1), (3, 1), (4, 1)] := by kernel_rfl
theorem sz138 : (Tryd.prog.info? 138).map (·.size) = some 5 := by kernel_rfl
theorem by138 : (Tryd.prog.info? 138).map (·.bytes) = some 40 := by kernel_rfl
theorem ag138 : aggB Tryd.prog 138 = true := by kernel_rfl
theorem nu138 : notInt Tryd.prog 138 = true := by kernel_rfl
theorem zr138 : (Tryd.prog.info? 138).map (·.zero) = some (some (.agg #[.int .i64 0, .int .i64 0, .bool false, .int .i64 0, .int .i64 0])) := by kernel_rfl
theorem pl138 : plOf Tryd.prog 138 = some [(0, 1), (1, 1), (2, 1), (3, 1), (4, 1)] := by kernel_rfl
theorem sz141 : (Tryd.prog.info? 141).map (·.size) = some 1 := by kernel_rfl
theorem by141 : (Tryd.prog.info? 141).map (·.bytes) = some 8 := by kernel_rfl
theorem ag141 : aggB Tryd.prog 141 = false := by kernel_rfl
theorem nu141 : notInt Tryd.prog 141 = true := by kernel_rfl
theorem zr141 : (Tryd.prog.info? 141).map (·.zero) = some (some (.pointer none)) := by kernel_rfl
theorem sz143 : (Tryd.prog.info? 143).map (·.size) = some 2 := by kernel_rfl
theorem by143 : (Tryd.prog.info? 143).map (·.bytes) = some 40 := by kernel_rfl
theorem ag143 : aggB Tryd.prog 143 = true := by kernel_rfl
theorem nu143 : notInt Tryd.prog 143 = true := by kernel_rfl
theorem zr143 : (Tryd.prog.info? 143).map (·.zero) = some (some (.agg #[.slice none 0 0, .nilIface])) := by kernel_rfl
theorem pl143 : plOf Tryd.prog 143 = some [(0, 1), (1, 1)] := by kernel_rfl
theorem sz144 : (Tryd.prog.info? 144).map (·.size) = some 2 := by kernel_rfl
theorem by144 : (Tryd.prog.info? 144).map (·.bytes) = some 40 := by kernel_rfl
theorem ag144 : aggB Tryd.prog 144 = true := by kernel_rfl
theorem nu144 : notInt Tryd.prog 144 = true := by kernel_rfl
theorem zr144 : (Tryd.prog.info? 144).map (·.zero) = some (some (.agg #[.slice none 0 0, .nilIface])) := by kernel_rfl
theorem pl144 : plOf Tryd.prog 144 = some [(0, 1), (1, 1)] := by kernel_rfl
theorem sz150 : (Tryd.prog.info? 150).map (·.size) = some 5 := by kernel_rfl
theorem by150 : (Tryd.prog.info? 150).map (·.bytes) = some 40 := by kernel_rfl
theorem ag150 : aggB Tryd.prog 150 = true := by kernel_rfl
theorem nu150 : notInt Tryd.prog 150 = true := by kernel_rfl
theorem zr150 : (Tryd.prog.info? 150).map (·.zero) = some (some (.agg #[.int .i64 0, .int .i64 0, .bool false, .int .i64 0, .int .i64 0])) := by kernel_rfl
theorem pl150 : plOf Tryd.prog 150 = some [(0, 1), (1, 1), (2, 1), (3, 1), (4, 1)] := by kernel_rfl
theorem sz155 : (Tryd.prog.info? 155).map (·.size) = some 1 := by kernel_rfl
theorem by155 : (Tryd.prog.info? 155).map (·.bytes) = some 8 := by kernel_rfl
theorem ag155 : aggB Tryd.prog 155 = false := by kernel_rfl
theorem nu155 : notInt Tryd.prog 155 = true := by kernel_rfl
theorem zr155 : (Tryd.prog.info? 155).map (·.zero) = some (some (.nilFunc)) := by kernel_rfl
theorem sz159 : (Tryd.prog.info? 159).map (·.size) = some 1 := by kernel_rfl
theorem by159 : (Tryd.prog.info? 159).map (·.bytes) = some 8 := by kernel_rfl
theorem ag159 : aggB Tryd.prog 159 = false := by kernel_rfl
theorem nu159 : notInt Tryd.prog 159 = true := by kernel_rfl
theorem zr159 : (Tryd.prog.info? 159).map (·.zero) = some (some (.nilFunc)) := by kernel_rfl
theorem sz172 : (Tryd.prog.info? 172).map (·.size) = some 1 := by kernel_rfl
theorem by172 : (Tryd.prog.info? 172).map (·.bytes) = some 24 := by kernel_rfl
theorem ag172 : aggB Tryd.prog 172 = false := by kernel_rfl
theorem nu172 : notInt Tryd.prog 172 = true := by kernel_rfl
theorem zr172 : (Tryd.prog.info? 172).map (·.zero) = some (some (.slice none 0 0)) := by kernel_rfl
theorem sz175 : (Tryd.prog.info? 175).map (·.size) = some 3 := by kernel_rfl
theorem by175 : (Tryd.prog.info? 175).map (·.bytes) = some 40 := by kernel_rfl
theorem ag175 : aggB Tryd.prog 175 = true := by kernel_rfl
theorem nu175 : notInt Tryd.prog 175 = true := by kernel_rfl
theorem zr175 : (Tryd.prog.info? 175).map (·.zero) = some (some (.agg #[.string ByteArray.empty, .int .i64 0, .string ByteArray.empty])) := by kernel_rfl
theorem pl175 : plOf Tryd.prog 175 = some [(0, 1), (1, 1), (2, 1)] := by kernel_rfl
theorem sz176 : (Tryd.prog.info? 176).map (·.size) = some 3 := by kernel_rfl
theorem by176 : (Tryd.prog.info? 176).map (·.bytes) = some 40 := by kernel_rfl
theorem ag176 : aggB Tryd.prog 176 = true := by kernel_rfl
theorem nu176 : notInt Tryd.prog 176 = true := by kernel_rfl
theorem zr176 : (Tryd.prog.info? 176).map (·.zero) = some (some (.agg #[.string ByteArray.empty, .int .i64 0, .string ByteArray.empty])) := by kernel_rfl
theorem pl176 : plOf Tryd.prog 176 = some [(0, 1), (1, 1), (2, 1)] := by kernel_rfl
theorem sz179 : (Tryd.prog.info? 179).map (·.size) = some 1 := by kernel_rfl
theorem by179 : (Tryd.prog.info? 179).map (·.bytes) = some 8 := by kernel_rfl
theorem ag179 : aggB Tryd.prog 179 = false := by kernel_rfl
theorem nu179 : notInt Tryd.prog 179 = true := by kernel_rfl
theorem zr179 : (Tryd.prog.info? 179).map (·.zero) = some (some (.pointer none)) := by kernel_rfl
theorem sz187 : (Tryd.prog.info? 187).map (·.size) = some 1 := by kernel_rfl
theorem by187 : (Tryd.prog.info? 187).map (·.bytes) = some 16 := by kernel_rfl
theorem ag187 : aggB Tryd.prog 187 = false := by kernel_rfl
theorem nu187 : notInt Tryd.prog 187 = true := by kernel_rfl
theorem zr187 : (Tryd.prog.info? 187).map (·.zero) = some (some (.nilIface)) := by kernel_rfl
theorem sz188 : (Tryd.prog.info? 188).map (·.size) = some 1 := by kernel_rfl
theorem by188 : (Tryd.prog.info? 188).map (·.bytes) = some 16 := by kernel_rfl
theorem ag188 : aggB Tryd.prog 188 = false := by kernel_rfl
theorem nu188 : notInt Tryd.prog 188 = true := by kernel_rfl
theorem zr188 : (Tryd.prog.info? 188).map (·.zero) = some (some (.nilIface)) := by kernel_rfl
theorem sz198 : (Tryd.prog.info? 198).map (·.size) = some 1 := by kernel_rfl
theorem by198 : (Tryd.prog.info? 198).map (·.bytes) = some 8 := by kernel_rfl
theorem ag198 : aggB Tryd.prog 198 = false := by kernel_rfl
theorem nu198 : notInt Tryd.prog 198 = true := by kernel_rfl
theorem zr198 : (Tryd.prog.info? 198).map (·.zero) = some (some (.pointer none)) := by kernel_rfl
theorem sz199 : (Tryd.prog.info? 199).map (·.size) = some 2 := by kernel_rfl
theorem by199 : (Tryd.prog.info? 199).map (·.bytes) = some 32 := by kernel_rfl
theorem ag199 : aggB Tryd.prog 199 = true := by kernel_rfl
theorem nu199 : notInt Tryd.prog 199 = true := by kernel_rfl
theorem zr199 : (Tryd.prog.info? 199).map (·.zero) = some (some (.agg #[.pointer none, .slice none 0 0])) := by kernel_rfl
theorem pl199 : plOf Tryd.prog 199 = some [(0, 1), (1, 1)] := by kernel_rfl
theorem sz200 : (Tryd.prog.info? 200).map (·.size) = some 2 := by kernel_rfl
theorem by200 : (Tryd.prog.info? 200).map (·.bytes) = some 32 := by kernel_rfl
theorem ag200 : aggB Tryd.prog 200 = true := by kernel_rfl
theorem nu200 : notInt Tryd.prog 200 = true := by kernel_rfl
theorem zr200 : (Tryd.prog.info? 200).map (·.zero) = some (some (.agg #[.pointer none, .slice none 0 0])) := by kernel_rfl
theorem pl200 : plOf Tryd.prog 200 = some [(0, 1), (1, 1)] := by kernel_rfl
theorem sz207 : (Tryd.prog.info? 207).map (·.size) = some 1 := by kernel_rfl
theorem by207 : (Tryd.prog.info? 207).map (·.bytes) = some 2 := by kernel_rfl
theorem ag207 : aggB Tryd.prog 207 = false := by kernel_rfl
theorem zr207 : (Tryd.prog.info? 207).map (·.zero) = some (some (.int .u16 0)) := by kernel_rfl
theorem sz214 : (Tryd.prog.info? 214).map (·.size) = some 1 := by kernel_rfl
theorem by214 : (Tryd.prog.info? 214).map (·.bytes) = some 8 := by kernel_rfl
theorem ag214 : aggB Tryd.prog 214 = false := by kernel_rfl
theorem nu214 : notInt Tryd.prog 214 = true := by kernel_rfl
theorem zr214 : (Tryd.prog.info? 214).map (·.zero) = some (some (.pointer none)) := by kernel_rfl
theorem sz216 : (Tryd.prog.info? 216).map (·.size) = some 1 := by kernel_rfl
theorem by216 : (Tryd.prog.info? 216).map (·.bytes) = some 8 := by kernel_rfl
theorem ag216 : aggB Tryd.prog 216 = false := by kernel_rfl
theorem nu216 : notInt Tryd.prog 216 = true := by kernel_rfl
theorem zr216 : (Tryd.prog.info? 216).map (·.zero) = some (some (.pointer none)) := by kernel_rfl
theorem sz218 : (Tryd.prog.info? 218).map (·.size) = some 1 := by kernel_rfl
theorem by218 : (Tryd.prog.info? 218).map (·.bytes) = some 8 := by kernel_rfl
theorem ag218 : aggB Tryd.prog 218 = false := by kernel_rfl
theorem nu218 : notInt Tryd.prog 218 = true := by kernel_rfl
theorem zr218 : (Tryd.prog.info? 218).map (·.zero) = some (some (.pointer none)) := by kernel_rfl
theorem sz222 : (Tryd.prog.info? 222).map (·.size) = some 1 := by kernel_rfl
theorem by222 : (Tryd.prog.info? 222).map (·.bytes) = some 8 := by kernel_rfl
theorem ag222 : aggB Tryd.prog 222 = true := by kernel_rfl
theorem nu222 : notInt Tryd.prog 222 = true := by kernel_rfl
theorem zr222 : (Tryd.prog.info? 222).map (·.zero) = some (some (.agg #[.pointer none])) := by kernel_rfl
theorem pl222 : plOf Tryd.prog 222 = some [(0, 1)] := by kernel_rfl
theorem sz223 : (Tryd.prog.info? 223).map (·.size) = some 1 := by kernel_rfl
theorem by223 : (Tryd.prog.info? 223).map (·.bytes) = some 8 := by kernel_rfl
theorem ag223 : aggB Tryd.prog 223 = true := by kernel_rfl
theorem nu223 : notInt Tryd.prog 223 = true := by kernel_rfl
theorem zr223 : (Tryd.prog.info? 223).map (·.zero) = some (some (.agg #[.pointer none])) := by kernel_rfl
theorem pl223 : plOf Tryd.prog 223 = some [(0, 1)] := by kernel_rfl
theorem sz224 : (Tryd.prog.info? 224).map (·.size) = some 1 := by kernel_rfl
theorem by224 : (Tryd.prog.info? 224).map (·.bytes) = some 8 := by kernel_rfl
theorem ag224 : aggB Tryd.prog 224 = false := by kernel_rfl
theorem nu224 : notInt Tryd.prog 224 = true := by kernel_rfl
theorem zr224 : (Tryd.prog.info? 224).map (·.zero) = some (some (.pointer none)) := by kernel_rfl
theorem sz225 : (Tryd.prog.info? 225).map (·.size) = some 1 := by kernel_rfl
theorem by225 : (Tryd.prog.info? 225).map (·.bytes) = some 16 := by kernel_rfl
theorem ag225 : aggB Tryd.prog 225 = false := by kernel_rfl
theorem nu225 : notInt Tryd.prog 225 = true := by kernel_rfl
theorem zr225 : (Tryd.prog.info? 225).map (·.zero) = some (some (.nilIface)) := by kernel_rfl
theorem sz228 : (Tryd.prog.info? 228).map (·.size) = some 1 := by kernel_rfl
theorem by228 : (Tryd.prog.info? 228).map (·.bytes) = some 16 := by kernel_rfl
theorem ag228 : aggB Tryd.prog 228 = false := by kernel_rfl
theorem nu228 : notInt Tryd.prog 228 = true := by kernel_rfl
theorem zr228 : (Tryd.prog.info? 228).map (·.zero) = some (some (.nilIface)) := by kernel_rfl
theorem sz230 : (Tryd.prog.info? 230).map (·.size) = some 1 := by kernel_rfl
theorem by230 : (Tryd.prog.info? 230).map (·.bytes) = some 16 := by kernel_rfl
theorem ag230 : aggB Tryd.prog 230 = false := by kernel_rfl
theorem nu230 : notInt Tryd.prog 230 = true := by kernel_rfl
theorem zr230 : (Tryd.prog.info? 230).map (·.zero) = some (some (.nilIface)) := by kernel_rfl
theorem sz237 : (Tryd.prog.info? 237).map (·.size) = some 1 := by kernel_rfl
theorem by237 : (Tryd.prog.info? 237).map (·.bytes) = some 8 := by kernel_rfl
theorem ag237 : aggB Tryd.prog 237 = false := by kernel_rfl
theorem nu237 : notInt Tryd.prog 237 = true := by kernel_rfl
theorem zr237 : (Tryd.prog.info? 237).map (·.zero) = some (some (.pointer none)) := by kernel_rfl
theorem sz241 : (Tryd.prog.info? 241).map (·.size) = some 1 := by kernel_rfl
theorem by241 : (Tryd.prog.info? 241).map (·.bytes) = some 4 := by kernel_rfl
theorem ag241 : aggB Tryd.prog 241 = false := by kernel_rfl
theorem zr241 : (Tryd.prog.info? 241).map (·.zero) = some (some (.int .u32 0)) := by kernel_rfl
theorem sz244 : (Tryd.prog.info? 244).map (·.size) = some 1 := by kernel_rfl
theorem by244 : (Tryd.prog.info? 244).map (·.bytes) = some 8 := by kernel_rfl
theorem ag244 : aggB Tryd.prog 244 = false := by kernel_rfl
theorem zr244 : (Tryd.prog.info? 244).map (·.zero) = some (some (.int .i64 0)) := by kernel_rfl
theorem sz252 : (Tryd.prog.info? 252).map (·.size) = some 1 := by kernel_rfl
theorem by252 : (Tryd.prog.info? 252).map (·.bytes) = some 8 := by kernel_rfl
theorem ag252 : aggB Tryd.prog 252 = false := by kernel_rfl
theorem nu252 : notInt Tryd.prog 252 = true := by kernel_rfl
theorem zr252 : (Tryd.prog.info? 252).map (·.zero) = some (some (.pointer none)) := by kernel_rfl
theorem sz254 : (Tryd.prog.info? 254).map (·.size) = some 1 := by kernel_rfl
theorem by254 : (Tryd.prog.info? 254).map (·.bytes) = some 8 := by kernel_rfl
theorem ag254 : aggB Tryd.prog 254 = false := by kernel_rfl
theorem zr254 : (Tryd.prog.info? 254).map (·.zero) = some (some (.int .u64 0)) := by kernel_rfl
theorem sz260 : (Tryd.prog.info? 260).map (·.size) = some 256 := by kernel_rfl
theorem by260 : (Tryd.prog.info? 260).map (·.bytes) = some 256 := by kernel_rfl
theorem ag260 : aggB Tryd.prog 260 = true := by kernel_rfl
theorem nu260 : notInt Tryd.prog 260 = true := by kernel_rfl
theorem sz261 : (Tryd.prog.info? 261).map (·.size) = some 2 := by kernel_rfl
theorem by261 : (Tryd.prog.info? 261).map (·.bytes) = some 2 := by kernel_rfl
theorem ag261 : aggB Tryd.prog 261 = true := by kernel_rfl
theorem nu261 : notInt Tryd.prog 261 = true := by kernel_rfl
theorem zr261 : (Tryd.prog.info? 261).map (·.zero) = some (some (.agg #[.int .u8 0, .int .u8 0])) := by kernel_rfl
theorem pl261 : plOf Tryd.prog 261 = some [(0, 1), (1, 1)] := by kernel_rfl
theorem sz262 : (Tryd.prog.info? 262).map (·.size) = some 2 := by kernel_rfl
theorem by262 : (Tryd.prog.info? 262).map (·.bytes) = some 2 := by kernel_rfl
theorem ag262 : aggB Tryd.prog 262 = true := by kernel_rfl
theorem nu262 : notInt Tryd.prog 262 = true := by kernel_rfl
theorem zr262 : (Tryd.prog.info? 262).map (·.zero) = some (some (.agg #[.int .u8 0, .int .u8 0])) := by kernel_rfl
theorem pl262 : plOf Tryd.prog 262 = some [(0, 1), (1, 1)] := by kernel_rfl
theorem sz263 : (Tryd.prog.info? 263).map (·.size) = some 32 := by kernel_rfl
theorem by263 : (Tryd.prog.info? 263).map (·.bytes) = some 32 := by kernel_rfl
theorem ag263 : aggB Tryd.prog 263 = true := by kernel_rfl
theorem nu263 : notInt Tryd.prog 263 = true := by kernel_rfl
theorem zr263 : (Tryd.prog.info? 263).map (·.zero) = some (some (.agg #[.int .u8 0, .int .u8 0, .int .u8 0, .int .u8 0, .int .u8 0, .int .u8 0, .int .u8 0, .int .u8 0, .int .u8 0, .int .u8 0, .int .u8 0, .int .u8 0, .int .u8 0, .int .u8 0, .int .u8 0, .int .u8 0, .int .u8 0, .int .u8 0, .int .u8 0, .int .u8 0, .int .u8 0, .int .u8 0, .int .u8 0, .int .u8 0, .int .u8 0, .int .u8 0, .int .u8 0, .int .u8 0, .int .u8 0, .int .u8 0, .int .u8 0, .int .u8 0])) := by kernel_rfl
theorem sz265 : (Tryd.prog.info? 265).map (·.size) = some 1 := by kernel_rfl
theorem by265 : (Tryd.prog.info? 265).map (·.bytes) = some 8 := by kernel_rfl
theorem ag265 : aggB Tryd.prog 265 = false := by kernel_rfl
theorem nu265 : notInt Tryd.prog 265 = true := by kernel_rfl
theorem zr265 : (Tryd.prog.info? 265).map (·.zero) = some (some (.pointer none)) := by kernel_rfl
theorem sz269 : (Tryd.prog.info? 269).map (·.size) = some 1 := by kernel_rfl
theorem by269 : (Tryd.prog.info? 269).map (·.bytes) = some 8 := by kernel_rfl
theorem ag269 : aggB Tryd.prog 269 = false := by kernel_rfl
theorem nu269 : notInt Tryd.prog 269 = true := by kernel_rfl
theorem zr269 : (Tryd.prog.info? 269).map (·.zero) = some (some (.pointer none)) := by kernel_rfl
theorem sz270 : (Tryd.prog.info? 270).map (·.size) = some 4 := by kernel_rfl
theorem by270 : (Tryd.prog.info? 270).map (·.bytes) = some 40 := by kernel_rfl
theorem ag270 : aggB Tryd.prog 270 = true := by kernel_rfl
theorem nu270 : notInt Tryd.prog 270 = true := by kernel_rfl
theorem zr270 : (Tryd.prog.info? 270).map (·.zero) = some (some (.agg #[.pointer none, .pointer none, .pointer none, .string ByteArray.empty])) := by kernel_rfl
theorem pl270 : plOf Tryd.prog 270 = some [(0, 1), (1, 1), (2, 1), (3, 1)] := by kernel_rfl
theorem sz271 : (Tryd.prog.info? 271).map (·.size) = some 4 := by kernel_rfl
theorem by271 : (Tryd.prog.info? 271).map (·.bytes) = some 40 := by kernel_rfl
theorem ag271 : aggB Tryd.prog 271 = true := by kernel_rfl
theorem nu271 : notInt Tryd.prog 271 = true := by kernel_rfl
theorem zr271 : (Tryd.prog.info? 271).map (·.zero) = some (some (.agg #[.pointer none, .pointer none, .pointer none, .string ByteArray.empty])) := by kernel_rfl
theorem pl271 : plOf Tryd.prog 271 = some [(0, 1), (1, 1), (2, 1), (3, 1)] := by kernel_rfl
theorem sz272 : (Tryd.prog.info? 272).map (·.size) = some 0 := by kernel_rfl
theorem by272 : (Tryd.prog.info? 272).map (·.bytes) = some 0 := by kernel_rfl
theorem ag272 : aggB Tryd.prog 272 = true := by kernel_rfl
theorem nu272 : notInt Tryd.prog 272 = true := by kernel_rfl
theorem zr272 : (Tryd.prog.info? 272).map (·.zero) = some (some (.agg #[])) := by kernel_rfl
theorem sz273 : (Tryd.prog.info? 273).map (·.size) = some 0 := by kernel_rfl
theorem by273 : (Tryd.prog.info? 273).map (·.bytes) = some 0 := by kernel_rfl
theorem ag273 : aggB Tryd.prog 273 = true := by kernel_rfl
theorem nu273 : notInt Tryd.prog 273 = true := by kernel_rfl
theorem zr273 : (Tryd.prog.info? 273).map (·.zero) = some (some (.agg #[])) := by kernel_rfl
theorem pl273 : plOf Tryd.prog 273 = some [(0, 0)] := by kernel_rfl
theorem sz274 : (Tryd.prog.info? 274).map (·.size) = some 0 := by kernel_rfl
theorem by274 : (Tryd.prog.info? 274).map (·.bytes) = some 0 := by kernel_rfl
theorem ag274 : aggB Tryd.prog 274 = true := by kernel_rfl
theorem nu274 : notInt Tryd.prog 274 = true := by kernel_rfl
theorem zr274 : (Tryd.prog.info? 274).map (·.zero) = some (some (.agg #[])) := by kernel_rfl
theorem pl274 : plOf Tryd.prog 274 = some [(0, 0)] := by kernel_rfl
theorem sz275 : (Tryd.prog.info? 275).map (·.size) = some 1 := by kernel_rfl
theorem by275 : (Tryd.prog.info? 275).map (·.bytes) = some 1 := by kernel_rfl
theorem ag275 : aggB Tryd.prog 275 = false := by kernel_rfl
theorem zr275 : (Tryd.prog.info? 275).map (·.zero) = some (some (.int .u8 0)) := by kernel_rfl
theorem sz276 : (Tryd.prog.info? 276).map (·.size) = some 1 := by kernel_rfl
theorem by276 : (Tryd.prog.info? 276).map (·.bytes) = some 1 := by kernel_rfl
theorem ag276 : aggB Tryd.prog 276 = false := by kernel_rfl
theorem zr276 : (Tryd.prog.info? 276).map (·.zero) = some (some (.int .u8 0)) := by kernel_rfl
theorem sz278 : (Tryd.prog.info? 278).map (·.size) = some 1 := by kernel_rfl
theorem by278 : (Tryd.prog.info? 278).map (·.bytes) = some 4 := by kernel_rfl
theorem ag278 : aggB Tryd.prog 278 = false := by kernel_rfl
theorem zr278 : (Tryd.prog.info? 278).map (·.zero) = some (some (.int .i32 0)) := by kernel_rfl
theorem sz279 : (Tryd.prog.info? 279).map (·.size) = some 1 := by kernel_rfl
theorem by279 : (Tryd.prog.info? 279).map (·.bytes) = some 4 := by kernel_rfl
theorem ag279 : aggB Tryd.prog 279 = false := by kernel_rfl
theorem zr279 : (Tryd.prog.info? 279).map (·.zero) = some (some (.int .i32 0)) := by kernel_rfl
theorem sz280 : (Tryd.prog.info? 280).map (·.size) = some 11 := by kernel_rfl
theorem by280 : (Tryd.prog.info? 280).map (·.bytes) = some 48 := by kernel_rfl
theorem ag280 : aggB Tryd.prog 280 = true := by kernel_rfl
theorem nu280 : notInt Tryd.prog 280 = true := by kernel_rfl
theorem zr280 : (Tryd.prog.info? 280).map (·.zero) = some (some (.agg #[.int .u64 0, .int .u64 0, .int .u32 0, .int .u8 0, .int .u8 0, .int .u8 0, .int .u8 0, .nilFunc, .pointer none, .int .i32 0, .int .i32 0])) := by kernel_rfl
theorem pl280 : plOf Tryd.prog 280 = some [(0, 1), (1, 1), (2, 1), (3, 1), (4, 1), (5, 1), (6, 1), (7, 1), (8, 1), (9, 1), (10, 1)] := by kernel_rfl
theorem sz281 : (Tryd.prog.info? 281).map (·.size) = some 11 := by kernel_rfl
theorem by281 : (Tryd.prog.info? 281).map (·.bytes) = some 48 := by kernel_rfl
theorem ag281 : aggB Tryd.prog 281 = true := by kernel_rfl
theorem nu281 : notInt Tryd.prog 281 = true := by kernel_rfl
theorem zr281 : (Tryd.prog.info? 281).map (·.zero) = some (some (.agg #[.int .u64 0, .int .u64 0, .int .u32 0, .int .u8 0, .int .u8 0, .int .u8 0, .int .u8 0, .nilFunc, .pointer none, .int .i32 0, .int .i32 0])) := by kernel_rfl
theorem pl281 : plOf Tryd.prog 281 = some [(0, 1), (1, 1), (2, 1), (3, 1), (4, 1), (5, 1), (6, 1), (7, 1), (8, 1), (9, 1), (10, 1)] := by kernel_rfl
theorem sz292 : (Tryd.prog.info? 292).map (·.size) = some 2 := by kernel_rfl
theorem by292 : (Tryd.prog.info? 292).map (·.bytes) = some 24 := by kernel_rfl
theorem ag292 : aggB Tryd.prog 292 = true := by kernel_rfl
theorem nu292 : notInt Tryd.prog 292 = true := by kernel_rfl
theorem zr292 : (Tryd.prog.info? 292).map (·.zero) = some (some (.agg #[.string ByteArray.empty, .int .u8 0])) := by kernel_rfl
theorem pl292 : plOf Tryd.prog 292 = some [(0, 1), (1, 1)] := by kernel_rfl
theorem sz293 : (Tryd.prog.info? 293).map (·.size) = some 2 := by kernel_rfl
theorem by293 : (Tryd.prog.info? 293).map (·.bytes) = some 24 := by kernel_rfl
theorem ag293 : aggB Tryd.prog 293 = true := by kernel_rfl
theorem nu293 : notInt Tryd.prog 293 = true := by kernel_rfl
theorem zr293 : (Tryd.prog.info? 293).map (·.zero) = some (some (.agg #[.string ByteArray.empty, .int .u8 0])) := by kernel_rfl
theorem pl293 : plOf Tryd.prog 293 = some [(0, 1), (1, 1)] := by kernel_rfl
theorem sz294 : (Tryd.prog.info? 294).map (·.size) = some 1 := by kernel_rfl
theorem by294 : (Tryd.prog.info? 294).map (·.bytes) = some 16 := by kernel_rfl
theorem ag294 : aggB Tryd.prog 294 = true := by kernel_rfl
theorem nu294 : notInt Tryd.prog 294 = true := by kernel_rfl
theorem zr294 : (Tryd.prog.info? 294).map (·.zero) = some (some (.agg #[.string ByteArray.empty])) := by kernel_rfl
theorem pl294 : plOf Tryd.prog 294 = some [(0, 1)] := by kernel_rfl
theorem sz295 : (Tryd.prog.info? 295).map (·.size) = some 1 := by kernel_rfl
theorem by295 : (Tryd.prog.info? 295).map (·.bytes) = some 16 := by kernel_rfl
theorem ag295 : aggB Tryd.prog 295 = true := by kernel_rfl
theorem nu295 : notInt Tryd.prog 295 = true := by kernel_rfl
theorem zr295 : (Tryd.prog.info? 295).map (·.zero) = some (some (.agg #[.string ByteArray.empty])) := by kernel_rfl
theorem pl295 : plOf Tryd.prog 295 = some [(0, 1)] := by kernel_rfl
theorem sz296 : (Tryd.prog.info? 296).map (·.size) = some 1 := by kernel_rfl
theorem by296 : (Tryd.prog.info? 296).map (·.bytes) = some 8 := by kernel_rfl
theorem ag296 : aggB Tryd.prog 296 = false := by kernel_rfl
theorem nu296 : notInt Tryd.prog 296 = true := by kernel_rfl
theorem zr296 : (Tryd.prog.info? 296).map (·.zero) = some (some (.pointer none)) := by kernel_rfl
theorem sz297 : (Tryd.prog.info? 297).map (·.size) = some 5 := by kernel_rfl
theorem by297 : (Tryd.prog.info? 297).map (·.bytes) = some 64 := by kernel_rfl
theorem ag297 : aggB Tryd.prog 297 = true := by kernel_rfl
theorem nu297 : notInt Tryd.prog 297 = true := by kernel_rfl
theorem zr297 : (Tryd.prog.info? 297).map (·.zero) = some (some (.agg #[.int .i64 0, .int .i64 0, .bool false, .slice none 0 0, .string ByteArray.empty])) := by kernel_rfl
theorem pl297 : plOf Tryd.prog 297 = some [(0, 1), (1, 1), (2, 1), (3, 1), (4, 1)] := by kernel_rfl
theorem sz298 : (Tryd.prog.info? 298).map (·.size) = some 5 := by kernel_rfl
theorem by298 : (Tryd.prog.info? 298).map (·.bytes) = some 64 := by kernel_rfl
theorem ag298 : aggB Tryd.prog 298 = true := by kernel_rfl
theorem nu298 : notInt Tryd.prog 298 = true := by kernel_rfl
theorem zr298 : (Tryd.prog.info? 298).map (·.zero) = some (some (.agg #[.int .i64 0, .int .i64 0, .bool false, .slice none 0 0, .string ByteArray.empty])) := by kernel_rfl
theorem pl298 : plOf Tryd.prog 298 = some [(0, 1), (1, 1), (2, 1), (3, 1), (4, 1)] := by kernel_rfl
theorem sz299 : (Tryd.prog.info? 299).map (·.size) = some 1 := by kernel_rfl
theorem by299 : (Tryd.prog.info? 299).map (·.bytes) = some 8 := by kernel_rfl
theorem ag299 : aggB Tryd.prog 299 = false := by kernel_rfl
theorem nu299 : notInt Tryd.prog 299 = true := by kernel_rfl
theorem zr299 : (Tryd.prog.info? 299).map (·.zero) = some (some (.pointer none)) := by kernel_rfl
theorem sz300 : (Tryd.prog.info? 300).map (·.size) = some 1 := by kernel_rfl
theorem by300 : (Tryd.prog.info? 300).map (·.bytes) = some 24 := by kernel_rfl
theorem ag300 : aggB Tryd.prog 300 = false := by kernel_rfl
theorem nu300 : notInt Tryd.prog 300 = true := by kernel_rfl
theorem zr300 : (Tryd.prog.info? 300).map (·.zero) = some (some (.slice none 0 0)) := by kernel_rfl
theorem sz301 : (Tryd.prog.info? 301).map (·.size) = some 3 := by kernel_rfl
theorem by301 : (Tryd.prog.info? 301).map (·.bytes) = some 64 := by kernel_rfl
theorem ag301 : aggB Tryd.prog 301 = true := by kernel_rfl
theorem nu301 : notInt Tryd.prog 301 = true := by kernel_rfl
theorem zr301 : (Tryd.prog.info? 301).map (·.zero) = some (some (.agg #[.slice none 0 0, .slice none 0 0, .nilIface])) := by kernel_rfl
theorem pl301 : plOf Tryd.prog 301 = some [(0, 1), (1, 1), (2, 1)] := by kernel_rfl
theorem sz302 : (Tryd.prog.info? 302).map (·.size) = some 3 := by kernel_rfl
theorem by302 : (Tryd.prog.info? 302).map (·.bytes) = some 64 := by kernel_rfl
theorem ag302 : aggB Tryd.prog 302 = true := by kernel_rfl
theorem nu302 : notInt Tryd.prog 302 = true := by kernel_rfl
theorem zr302 : (Tryd.prog.info? 302).map (·.zero) = some (some (.agg #[.slice none 0 0, .slice none 0 0, .nilIface])) := by kernel_rfl
theorem pl302 : plOf Tryd.prog 302 = some [(0, 1), (1, 1), (2, 1)] := by kernel_rfl
theorem sz304 : (Tryd.prog.info? 304).map (·.size) = some 5 := by kernel_rfl
theorem by304 : (Tryd.prog.info? 304).map (·.bytes) = some 16 := by kernel_rfl
theorem ag304 : aggB Tryd.prog 304 = true := by kernel_rfl
theorem nu304 : notInt Tryd.prog 304 = true := by kernel_rfl
theorem zr304 : (Tryd.prog.info? 304).map (·.zero) = some (some (.agg #[.int .i32 0, .int .u16 0, .int .u16 0, .int .u32 0, .int .u32 0])) := by kernel_rfl
theorem pl304 : plOf Tryd.prog 304 = some [(0, 1), (1, 1), (2, 1), (3, 1), (4, 1)] := by kernel_rfl
theorem sz305 : (Tryd.prog.info? 305).map (·.size) = some 5 := by kernel_rfl
theorem by305 : (Tryd.prog.info? 305).map (·.bytes) = some 16 := by kernel_rfl
theorem ag305 : aggB Tryd.prog 305 = true := by kernel_rfl
theorem nu305 : notInt Tryd.prog 305 = true := by kernel_rfl
theorem zr305 : (Tryd.prog.info? 305).map (·.zero) = some (some (.agg #[.int .i32 0, .int .u16 0, .int .u16 0, .int .u32 0, .int .u32 0])) := by kernel_rfl
theorem pl305 : plOf Tryd.prog 305 = some [(0, 1), (1, 1), (2, 1), (3, 1), (4, 1)] := by kernel_rfl
theorem sz306 : (Tryd.prog.info? 306).map (·.size) = some 2 := by kernel_rfl
theorem by306 : (Tryd.prog.info? 306).map (·.bytes) = some 32 := by kernel_rfl
theorem ag306 : aggB Tryd.prog 306 = true := by kernel_rfl
theorem nu306 : notInt Tryd.prog 306 = true := by kernel_rfl
theorem zr306 : (Tryd.prog.info? 306).map (·.zero) = some (some (.agg #[.int .i64 0, .slice none 0 0])) := by kernel_rfl
theorem pl306 : plOf Tryd.prog 306 = some [(0, 1), (1, 1)] := by kernel_rfl
theorem sz307 : (Tryd.prog.info? 307).map (·.size) = some 2 := by kernel_rfl
theorem by307 : (Tryd.prog.info? 307).map (·.bytes) = some 32 := by kernel_rfl
theorem ag307 : aggB Tryd.prog 307 = true := by kernel_rfl
theorem nu307 : notInt Tryd.prog 307 = true := by kernel_rfl
theorem zr307 : (Tryd.prog.info? 307).map (·.zero) = some (some (.agg #[.int .i64 0, .slice none 0 0])) := by kernel_rfl
theorem pl307 : plOf Tryd.prog 307 = some [(0, 1), (1, 1)] := by kernel_rfl
theorem sz308 : (Tryd.prog.info? 308).map (·.size) = some 1 := by kernel_rfl
theorem by308 : (Tryd.prog.info? 308).map (·.bytes) = some 24 := by kernel_rfl
theorem ag308 : aggB Tryd.prog 308 = false := by kernel_rfl
theorem nu308 : notInt Tryd.prog 308 = true := by kernel_rfl
theorem zr308 : (Tryd.prog.info? 308).map (·.zero) = some (some (.slice none 0 0)) := by kernel_rfl
theorem sz310 : (Tryd.prog.info? 310).map (·.size) = some 1 := by kernel_rfl
theorem by310 : (Tryd.prog.info? 310).map (·.bytes) = some 4 := by kernel_rfl
theorem ag310 : aggB Tryd.prog 310 = false := by kernel_rfl
theorem zr310 : (Tryd.prog.info? 310).map (·.zero) = some (some (.int .i32 0)) := by kernel_rfl
theorem sz311 : (Tryd.prog.info? 311).map (·.size) = some 4 := by kernel_rfl
theorem by311 : (Tryd.prog.info? 311).map (·.bytes) = some 16 := by kernel_rfl
theorem ag311 : aggB Tryd.prog 311 = true := by kernel_rfl
theorem nu311 : notInt Tryd.prog 311 = true := by kernel_rfl
theorem zr311 : (Tryd.prog.info? 311).map (·.zero) = some (some (.agg #[.int .i32 0, .int .i32 0, .int .i32 0, .int .i32 0])) := by kernel_rfl
theorem pl311 : plOf Tryd.prog 311 = some [(0, 1), (1, 1), (2, 1), (3, 1)] := by kernel_rfl
theorem sz312 : (Tryd.prog.info? 312).map (·.size) = some 4 := by kernel_rfl
theorem by312 : (Tryd.prog.info? 312).map (·.bytes) = some 16 := by kernel_rfl
theorem ag312 : aggB Tryd.prog 312 = true := by kernel_rfl
theorem nu312 : notInt Tryd.prog 312 = true := by kernel_rfl
theorem zr312 : (Tryd.prog.info? 312).map (·.zero) = some (some (.agg #[.int .i32 0, .int .i32 0, .int .i32 0, .int .i32 0])) := by kernel_rfl
theorem pl312 : plOf Tryd.prog 312 = some [(0, 1), (1, 1), (2, 1), (3, 1)] := by kernel_rfl
end Am
end Go.Proofs.YtghgbhekjgincaaDoor
