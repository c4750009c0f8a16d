/- Facts on the types of this seat, by program. -/
import Derived.Test.YtoliiompofonlaaDoorAm9
namespace Go.Proofs.YtoliiompofonlaaDoor
namespace Am
set_option maxRecDepth 100000
theorem sz2 : (Tryd.prog.info? 2).map (·.size) = some 1 := by kernel_rfl
theorem by2 : (Tryd.prog.info? 2).map (·.bytes) = some 8 := by kernel_rfl
theorem ag2 : aggB Tryd.prog 2 = false := by kernel_rfl
theorem zr2 : (Tryd.prog.info? 2).map (·.zero) = some (some (.int .i64 0)) := by kernel_rfl
theorem sz3 : (Tryd.prog.info? 3).map (·.size) = some 1 := by kernel_rfl
theorem by3 : (Tryd.prog.info? 3).map (·.bytes) = some 8 := by kernel_rfl
theorem ag3 : aggB Tryd.prog 3 = false := by kernel_rfl
theorem zr3 : (Tryd.prog.info? 3).map (·.zero) = some (some (.int .i64 0)) := by kernel_rfl
theorem sz4 : (Tryd.prog.info? 4).map (·.size) = some 1 := by kernel_rfl
theorem by4 : (Tryd.prog.info? 4).map (·.bytes) = some 1 := by kernel_rfl
theorem ag4 : aggB Tryd.prog 4 = false := by kernel_rfl
theorem nu4 : notInt Tryd.prog 4 = true := by kernel_rfl
theorem zr4 : (Tryd.prog.info? 4).map (·.zero) = some (some (.bool false)) := by kernel_rfl
theorem sz5 : (Tryd.prog.info? 5).map (·.size) = some 1 := by kernel_rfl
theorem by5 : (Tryd.prog.info? 5).map (·.bytes) = some 1 := by kernel_rfl
theorem ag5 : aggB Tryd.prog 5 = false := by kernel_rfl
theorem zr5 : (Tryd.prog.info? 5).map (·.zero) = some (some (.int .u8 0)) := by kernel_rfl
theorem sz6 : (Tryd.prog.info? 6).map (·.size) = some 1 := by kernel_rfl
theorem by6 : (Tryd.prog.info? 6).map (·.bytes) = some 1 := by kernel_rfl
theorem ag6 : aggB Tryd.prog 6 = false := by kernel_rfl
theorem zr6 : (Tryd.prog.info? 6).map (·.zero) = some (some (.int .u8 0)) := by kernel_rfl
theorem sz7 : (Tryd.prog.info? 7).map (·.size) = some 4 := by kernel_rfl
theorem by7 : (Tryd.prog.info? 7).map (·.bytes) = some 24 := by kernel_rfl
theorem ag7 : aggB Tryd.prog 7 = true := by kernel_rfl
theorem nu7 : notInt Tryd.prog 7 = true := by kernel_rfl
theorem zr7 : (Tryd.prog.info? 7).map (·.zero) = some (some (.agg #[.int .i64 0, .int .i64 0, .bool false, .int .u8 0])) := by kernel_rfl
theorem pl7 : plOf Tryd.prog 7 = some [(0, 1), (1, 1), (2, 1), (3, 1)] := by kernel_rfl
theorem sz8 : (Tryd.prog.info? 8).map (·.size) = some 4 := by kernel_rfl
theorem by8 : (Tryd.prog.info? 8).map (·.bytes) = some 24 := by kernel_rfl
theorem ag8 : aggB Tryd.prog 8 = true := by kernel_rfl
theorem nu8 : notInt Tryd.prog 8 = true := by kernel_rfl
theorem zr8 : (Tryd.prog.info? 8).map (·.zero) = some (some (.agg #[.int .i64 0, .int .i64 0, .bool false, .int .u8 0])) := by kernel_rfl
theorem pl8 : plOf Tryd.prog 8 = some [(0, 1), (1, 1), (2, 1), (3, 1)] := by kernel_rfl
theorem sz9 : (Tryd.prog.info? 9).map (·.size) = some 1 := by kernel_rfl
theorem by9 : (Tryd.prog.info? 9).map (·.bytes) = some 16 := by kernel_rfl
theorem ag9 : aggB Tryd.prog 9 = false := by kernel_rfl
theorem nu9 : notInt Tryd.prog 9 = true := by kernel_rfl
theorem zr9 : (Tryd.prog.info? 9).map (·.zero) = some (some (.string ByteArray.empty)) := by kernel_rfl
theorem sz10 : (Tryd.prog.info? 10).map (·.size) = some 1 := by kernel_rfl
theorem by10 : (Tryd.prog.info? 10).map (·.bytes) = some 16 := by kernel_rfl
theorem ag10 : aggB Tryd.prog 10 = false := by kernel_rfl
theorem nu10 : notInt Tryd.prog 10 = true := by kernel_rfl
theorem zr10 : (Tryd.prog.info? 10).map (·.zero) = some (some (.string ByteArray.empty)) := by kernel_rfl
theorem sz11 : (Tryd.prog.info? 11).map (·.size) = some 1 := by kernel_rfl
theorem by11 : (Tryd.prog.info? 11).map (·.bytes) = some 16 := by kernel_rfl
theorem ag11 : aggB Tryd.prog 11 = false := by kernel_rfl
theorem nu11 : notInt Tryd.prog 11 = true := by kernel_rfl
theorem zr11 : (Tryd.prog.info? 11).map (·.zero) = some (some (.string ByteArray.empty)) := by kernel_rfl
theorem sz12 : (Tryd.prog.info? 12).map (·.size) = some 1 := by kernel_rfl
theorem by12 : (Tryd.prog.info? 12).map (·.bytes) = some 8 := by kernel_rfl
theorem ag12 : aggB Tryd.prog 12 = false := by kernel_rfl
theorem zr12 : (Tryd.prog.info? 12).map (·.zero) = some (some (.int .u64 0)) := by kernel_rfl
theorem sz13 : (Tryd.prog.info? 13).map (·.size) = some 2 := by kernel_rfl
theorem by13 : (Tryd.prog.info? 13).map (·.bytes) = some 24 := by kernel_rfl
theorem ag13 : aggB Tryd.prog 13 = true := by kernel_rfl
theorem nu13 : notInt Tryd.prog 13 = true := by kernel_rfl
theorem zr13 : (Tryd.prog.info? 13).map (·.zero) = some (some (.agg #[.string ByteArray.empty, .int .u64 0])) := by kernel_rfl
theorem pl13 : plOf Tryd.prog 13 = some [(0, 1), (1, 1)] := by kernel_rfl
theorem sz14 : (Tryd.prog.info? 14).map (·.size) = some 2 := by kernel_rfl
theorem by14 : (Tryd.prog.info? 14).map (·.bytes) = some 24 := by kernel_rfl
theorem ag14 : aggB Tryd.prog 14 = true := by kernel_rfl
theorem nu14 : notInt Tryd.prog 14 = true := by kernel_rfl
theorem zr14 : (Tryd.prog.info? 14).map (·.zero) = some (some (.agg #[.string ByteArray.empty, .int .u64 0])) := by kernel_rfl
theorem pl14 : plOf Tryd.prog 14 = some [(0, 1), (1, 1)] := by kernel_rfl
theorem sz15 : (Tryd.prog.info? 15).map (·.size) = some 1 := by kernel_rfl
theorem by15 : (Tryd.prog.info? 15).map (·.bytes) = some 8 := by kernel_rfl
theorem ag15 : aggB Tryd.prog 15 = false := by kernel_rfl
theorem nu15 : notInt Tryd.prog 15 = true := by kernel_rfl
theorem zr15 : (Tryd.prog.info? 15).map (·.zero) = some (some (.pointer none)) := by kernel_rfl
theorem sz16 : (Tryd.prog.info? 16).map (·.size) = some 1 := by kernel_rfl
theorem by16 : (Tryd.prog.info? 16).map (·.bytes) = some 8 := by kernel_rfl
theorem ag16 : aggB Tryd.prog 16 = false := by kernel_rfl
theorem nu16 : notInt Tryd.prog 16 = true := by kernel_rfl
theorem zr16 : (Tryd.prog.info? 16).map (·.zero) = some (some (.pointer none)) := by kernel_rfl
theorem sz17 : (Tryd.prog.info? 17).map (·.size) = some 1 := by kernel_rfl
theorem by17 : (Tryd.prog.info? 17).map (·.bytes) = some 8 := by kernel_rfl
theorem ag17 : aggB Tryd.prog 17 = false := by kernel_rfl
theorem nu17 : notInt Tryd.prog 17 = true := by kernel_rfl
theorem zr17 : (Tryd.prog.info? 17).map (·.zero) = some (some (.pointer none)) := by kernel_rfl
theorem sz18 : (Tryd.prog.info? 18).map (·.size) = some 1 := by kernel_rfl
theorem by18 : (Tryd.prog.info? 18).map (·.bytes) = some 8 := by kernel_rfl
theorem ag18 : aggB Tryd.prog 18 = true := by kernel_rfl
theorem nu18 : notInt Tryd.prog 18 = true := by kernel_rfl
theorem zr18 : (Tryd.prog.info? 18).map (·.zero) = some (some (.agg #[.pointer none])) := by kernel_rfl
theorem pl18 : plOf Tryd.prog 18 = some [(0, 1)] := by kernel_rfl
theorem sz19 : (Tryd.prog.info? 19).map (·.size) = some 1 := by kernel_rfl
theorem by19 : (Tryd.prog.info? 19).map (·.bytes) = some 8 := by kernel_rfl
theorem ag19 : aggB Tryd.prog 19 = true := by kernel_rfl
theorem nu19 : notInt Tryd.prog 19 = true := by kernel_rfl
theorem zr19 : (Tryd.prog.info? 19).map (·.zero) = some (some (.agg #[.pointer none])) := by kernel_rfl
theorem pl19 : plOf Tryd.prog 19 = some [(0, 1)] := by kernel_rfl
theorem sz20 : (Tryd.prog.info? 20).map (·.size) = some 1 := by kernel_rfl
theorem by20 : (Tryd.prog.info? 20).map (·.bytes) = some 16 := by kernel_rfl
theorem ag20 : aggB Tryd.prog 20 = false := by kernel_rfl
theorem nu20 : notInt Tryd.prog 20 = true := by kernel_rfl
theorem zr20 : (Tryd.prog.info? 20).map (·.zero) = some (some (.nilIface)) := by kernel_rfl
theorem sz21 : (Tryd.prog.info? 21).map (·.size) = some 1 := by kernel_rfl
theorem by21 : (Tryd.prog.info? 21).map (·.bytes) = some 4 := by kernel_rfl
theorem ag21 : aggB Tryd.prog 21 = false := by kernel_rfl
theorem zr21 : (Tryd.prog.info? 21).map (·.zero) = some (some (.int .i32 0)) := by kernel_rfl
theorem sz22 : (Tryd.prog.info? 22).map (·.size) = some 3 := by kernel_rfl
theorem by22 : (Tryd.prog.info? 22).map (·.bytes) = some 40 := by kernel_rfl
theorem ag22 : aggB Tryd.prog 22 = true := by kernel_rfl
theorem nu22 : notInt Tryd.prog 22 = true := by kernel_rfl
theorem zr22 : (Tryd.prog.info? 22).map (·.zero) = some (some (.agg #[.int .i64 0, .string ByteArray.empty, .string ByteArray.empty])) := by kernel_rfl
theorem pl22 : plOf Tryd.prog 22 = some [(0, 1), (1, 1), (2, 1)] := by kernel_rfl
theorem sz23 : (Tryd.prog.info? 23).map (·.size) = some 3 := by kernel_rfl
theorem by23 : (Tryd.prog.info? 23).map (·.bytes) = some 40 := by kernel_rfl
theorem ag23 : aggB Tryd.prog 23 = true := by kernel_rfl
theorem nu23 : notInt Tryd.prog 23 = true := by kernel_rfl
theorem zr23 : (Tryd.prog.info? 23).map (·.zero) = some (some (.agg #[.int .i64 0, .string ByteArray.empty, .string ByteArray.empty])) := by kernel_rfl
theorem pl23 : plOf Tryd.prog 23 = some [(0, 1), (1, 1), (2, 1)] := by kernel_rfl
theorem sz24 : (Tryd.prog.info? 24).map (·.size) = some 1 := by kernel_rfl
theorem by24 : (Tryd.prog.info? 24).map (·.bytes) = some 24 := by kernel_rfl
theorem ag24 : aggB Tryd.prog 24 = false := by kernel_rfl
theorem nu24 : notInt Tryd.prog 24 = true := by kernel_rfl
theorem zr24 : (Tryd.prog.info? 24).map (·.zero) = some (some (.slice none 0 0)) := by kernel_rfl
theorem sz25 : (Tryd.prog.info? 25).map (·.size) = some 7 := by kernel_rfl
theorem by25 : (Tryd.prog.info? 25).map (·.bytes) = some 96 := by kernel_rfl
theorem ag25 : aggB Tryd.prog 25 = true := by kernel_rfl
theorem nu25 : notInt Tryd.prog 25 = true := by kernel_rfl
theorem zr25 : (Tryd.prog.info? 25).map (·.zero) = some (some (.agg #[.int .i64 0, .string ByteArray.empty, .string ByteArray.empty, .string ByteArray.empty, .int .i64 0, .int .i64 0, .slice none 0 0])) := by kernel_rfl
theorem pl25 : plOf Tryd.prog 25 = some [(0, 3), (3, 1), (4, 1), (5, 1), (6, 1)] := by kernel_rfl
theorem sz26 : (Tryd.prog.info? 26).map (·.size) = some 7 := by kernel_rfl
theorem by26 : (Tryd.prog.info? 26).map (·.bytes) = some 96 := by kernel_rfl
theorem ag26 : aggB Tryd.prog 26 = true := by kernel_rfl
theorem nu26 : notInt Tryd.prog 26 = true := by kernel_rfl
theorem zr26 : (Tryd.prog.info? 26).map (·.zero) = some (some (.agg #[.int .i64 0, .string ByteArray.empty, .string ByteArray.empty, .string ByteArray.empty, .int .i64 0, .int .i64 0, .slice none 0 0])) := by kernel_rfl
theorem pl26 : plOf Tryd.prog 26 = some [(0, 3), (3, 1), (4, 1), (5, 1), (6, 1)] := by kernel_rfl
theorem sz29 : (Tryd.prog.info? 29).map (·.size) = some 1 := by kernel_rfl
theorem by29 : (Tryd.prog.info? 29).map (·.bytes) = some 24 := by kernel_rfl
theorem ag29 : aggB Tryd.prog 29 = false := by kernel_rfl
theorem nu29 : notInt Tryd.prog 29 = true := by kernel_rfl
theorem zr29 : (Tryd.prog.info? 29).map (·.zero) = some (some (.slice none 0 0)) := by kernel_rfl
theorem sz31 : (Tryd.prog.info? 31).map (·.size) = some 1 := by kernel_rfl
theorem by31 : (Tryd.prog.info? 31).map (·.bytes) = some 16 := by kernel_rfl
theorem ag31 : aggB Tryd.prog 31 = false := by kernel_rfl
theorem nu31 : notInt Tryd.prog 31 = true := by kernel_rfl
theorem zr31 : (Tryd.prog.info? 31).map (·.zero) = some (some (.nilIface)) := by kernel_rfl
theorem sz32 : (Tryd.prog.info? 32).map (·.size) = some 1 := by kernel_rfl
theorem by32 : (Tryd.prog.info? 32).map (·.bytes) = some 16 := by kernel_rfl
theorem ag32 : aggB Tryd.prog 32 = false := by kernel_rfl
theorem nu32 : notInt Tryd.prog 32 = true := by kernel_rfl
theorem zr32 : (Tryd.prog.info? 32).map (·.zero) = some (some (.nilIface)) := by kernel_rfl
theorem sz37 : (Tryd.prog.info? 37).map (·.size) = some 1 := by kernel_rfl
theorem by37 : (Tryd.prog.info? 37).map (·.bytes) = some 24 := by kernel_rfl
theorem ag37 : aggB Tryd.prog 37 = false := by kernel_rfl
theorem nu37 : notInt Tryd.prog 37 = true := by kernel_rfl
theorem zr37 : (Tryd.prog.info? 37).map (·.zero) = some (some (.slice none 0 0)) := by kernel_rfl
theorem sz44 : (Tryd.prog.info? 44).map (·.size) = some 1 := by kernel_rfl
theorem by44 : (Tryd.prog.info? 44).map (·.bytes) = some 24 := by kernel_rfl
theorem ag44 : aggB Tryd.prog 44 = false := by kernel_rfl
theorem nu44 : notInt Tryd.prog 44 = true := by kernel_rfl
theorem zr44 : (Tryd.prog.info? 44).map (·.zero) = some (some (.slice none 0 0)) := by kernel_rfl
theorem sz46 : (Tryd.prog.info? 46).map (·.size) = some 1 := by kernel_rfl
theorem by46 : (Tryd.prog.info? 46).map (·.bytes) = some 8 := by kernel_rfl
theorem ag46 : aggB Tryd.prog 46 = false := by kernel_rfl
theorem nu46 : notInt Tryd.prog 46 = true := by kernel_rfl
theorem zr46 : (Tryd.prog.info? 46).map (·.zero) = some (some (.pointer none)) := by kernel_rfl
theorem sz49 : (Tryd.prog.info? 49).map (·.size) = some 1 := by kernel_rfl
theorem by49 : (Tryd.prog.info? 49).map (·.bytes) = some 8 := by kernel_rfl
theorem ag49 : aggB Tryd.prog 49 = false := by kernel_rfl
theorem nu49 : notInt Tryd.prog 49 = true := by kernel_rfl
theorem zr49 : (Tryd.prog.info? 49).map (·.zero) = some (some (.pointer none)) := by kernel_rfl
theorem sz50 : (Tryd.prog.info? 50).map (·.size) = some 3 := by kernel_rfl
theorem by50 : (Tryd.prog.info? 50).map (·.bytes) = some 40 := by kernel_rfl
theorem ag50 : aggB Tryd.prog 50 = true := by kernel_rfl
theorem nu50 : notInt Tryd.prog 50 = true := by kernel_rfl
theorem zr50 : (Tryd.prog.info? 50).map (·.zero) = some (some (.agg #[.int .i64 0, .int .i64 0, .slice none 0 0])) := by kernel_rfl
theorem pl50 : plOf Tryd.prog 50 = some [(0, 1), (1, 1), (2, 1)] := by kernel_rfl
theorem sz51 : (Tryd.prog.info? 51).map (·.size) = some 3 := by kernel_rfl
theorem by51 : (Tryd.prog.info? 51).map (·.bytes) = some 40 := by kernel_rfl
theorem ag51 : aggB Tryd.prog 51 = true := by kernel_rfl
theorem nu51 : notInt Tryd.prog 51 = true := by kernel_rfl
theorem zr51 : (Tryd.prog.info? 51).map (·.zero) = some (some (.agg #[.int .i64 0, .int .i64 0, .slice none 0 0])) := by kernel_rfl
theorem pl51 : plOf Tryd.prog 51 = some [(0, 1), (1, 1), (2, 1)] := by kernel_rfl
theorem sz52 : (Tryd.prog.info? 52).map (·.size) = some 3 := by kernel_rfl
theorem by52 : (Tryd.prog.info? 52).map (·.bytes) = some 32 := by kernel_rfl
theorem ag52 : aggB Tryd.prog 52 = true := by kernel_rfl
theorem nu52 : notInt Tryd.prog 52 = true := by kernel_rfl
theorem zr52 : (Tryd.prog.info? 52).map (·.zero) = some (some (.agg #[.int .i64 0, .bool false, .string ByteArray.empty])) := by kernel_rfl
theorem pl52 : plOf Tryd.prog 52 = some [(0, 1), (1, 1), (2, 1)] := by kernel_rfl
theorem sz53 : (Tryd.prog.info? 53).map (·.size) = some 3 := by kernel_rfl
theorem by53 : (Tryd.prog.info? 53).map (·.bytes) = some 32 := by kernel_rfl
theorem ag53 : aggB Tryd.prog 53 = true := by kernel_rfl
theorem nu53 : notInt Tryd.prog 53 = true := by kernel_rfl
theorem zr53 : (Tryd.prog.info? 53).map (·.zero) = some (some (.agg #[.int .i64 0, .bool false, .string ByteArray.empty])) := by kernel_rfl
theorem pl53 : plOf Tryd.prog 53 = some [(0, 1), (1, 1), (2, 1)] := by kernel_rfl
theorem sz62 : (Tryd.prog.info? 62).map (·.size) = some 1 := by kernel_rfl
theorem by62 : (Tryd.prog.info? 62).map (·.bytes) = some 24 := by kernel_rfl
theorem ag62 : aggB Tryd.prog 62 = false := by kernel_rfl
theorem nu62 : notInt Tryd.prog 62 = true := by kernel_rfl
theorem zr62 : (Tryd.prog.info? 62).map (·.zero) = some (some (.slice none 0 0)) := by kernel_rfl
theorem sz63 : (Tryd.prog.info? 63).map (·.size) = some 1 := by kernel_rfl
theorem by63 : (Tryd.prog.info? 63).map (·.bytes) = some 24 := by kernel_rfl
theorem ag63 : aggB Tryd.prog 63 = false := by kernel_rfl
theorem nu63 : notInt Tryd.prog 63 = true := by kernel_rfl
theorem zr63 : (Tryd.prog.info? 63).map (·.zero) = some (some (.slice none 0 0)) := by kernel_rfl
theorem sz68 : (Tryd.prog.info? 68).map (·.size) = some 1 := by kernel_rfl
theorem by68 : (Tryd.prog.info? 68).map (·.bytes) = some 8 := by kernel_rfl
theorem ag68 : aggB Tryd.prog 68 = false := by kernel_rfl
theorem zr68 : (Tryd.prog.info? 68).map (·.zero) = some (some (.int .u64 0)) := by kernel_rfl
theorem sz80 : (Tryd.prog.info? 80).map (·.size) = some 1 := by kernel_rfl
theorem by80 : (Tryd.prog.info? 80).map (·.bytes) = some 8 := by kernel_rfl
theorem ag80 : aggB Tryd.prog 80 = false := by kernel_rfl
theorem zr80 : (Tryd.prog.info? 80).map (·.zero) = some (some (.int .u64 0)) := by kernel_rfl
theorem sz81 : (Tryd.prog.info? 81).map (·.size) = some 9 := by kernel_rfl
theorem by81 : (Tryd.prog.info? 81).map (·.bytes) = some 128 := by kernel_rfl
theorem ag81 : aggB Tryd.prog 81 = true := by kernel_rfl
theorem nu81 : notInt Tryd.prog 81 = true := by kernel_rfl
theorem zr81 : (Tryd.prog.info? 81).map (·.zero) = some (some (.agg #[.int .i64 0, .slice none 0 0, .int .i64 0, .string ByteArray.empty, .string ByteArray.empty, .slice none 0 0, .int .i64 0, .int .i64 0, .string ByteArray.empty])) := by kernel_rfl
theorem pl81 : plOf Tryd.prog 81 = some [(0, 1), (1, 1), (2, 1), (3, 1), (4, 1), (5, 1), (6, 1), (7, 1), (8, 1)] := by kernel_rfl
theorem sz82 : (Tryd.prog.info? 82).map (·.size) = some 9 := by kernel_rfl
theorem by82 : (Tryd.prog.info? 82).map (·.bytes) = some 128 := by kernel_rfl
theorem ag82 : aggB Tryd.prog 82 = true := by kernel_rfl
theorem nu82 : notInt Tryd.prog 82 = true := by kernel_rfl
theorem zr82 : (Tryd.prog.info? 82).map (·.zero) = some (some (.agg #[.int .i64 0, .slice none 0 0, .int .i64 0, .string ByteArray.empty, .string ByteArray.empty, .slice none 0 0, .int .i64 0, .int .i64 0, .string ByteArray.empty])) := by kernel_rfl
theorem pl82 : plOf Tryd.prog 82 = some [(0, 1), (1, 1), (2, 1), (3, 1), (4, 1), (5, 1), (6, 1), (7, 1), (8, 1)] := by kernel_rfl
theorem sz83 : (Tryd.prog.info? 83).map (·.size) = some 14 := by kernel_rfl
theorem by83 : (Tryd.prog.info? 83).map (·.bytes) = some 184 := by kernel_rfl
theorem ag83 : aggB Tryd.prog 83 = true := by kernel_rfl
theorem nu83 : notInt Tryd.prog 83 = true := by kernel_rfl
theorem zr83 : (Tryd.prog.info? 83).map (·.zero) = some (some (.agg #[.int .i64 0, .int .i64 0, .int .i64 0, .int .u64 0, .slice none 0 0, .int .i64 0, .slice none 0 0, .int .i64 0, .string ByteArray.empty, .string ByteArray.empty, .slice none 0 0, .int .i64 0, .int .i64 0, .string ByteArray.empty])) := by kernel_rfl
theorem pl83 : plOf Tryd.prog 83 = some [(0, 1), (1, 1), (2, 1), (3, 1), (4, 1), (5, 9)] := by kernel_rfl
theorem sz84 : (Tryd.prog.info? 84).map (·.size) = some 14 := by kernel_rfl
theorem by84 : (Tryd.prog.info? 84).map (·.bytes) = some 184 := by kernel_rfl
theorem ag84 : aggB Tryd.prog 84 = true := by kernel_rfl
theorem nu84 : notInt Tryd.prog 84 = true := by kernel_rfl
theorem zr84 : (Tryd.prog.info? 84).map (·.zero) = some (some (.agg #[.int .i64 0, .int .i64 0, .int .i64 0, .int .u64 0, .slice none 0 0, .int .i64 0, .slice none 0 0, .int .i64 0, .string ByteArray.empty, .string ByteArray.empty, .slice none 0 0, .int .i64 0, .int .i64 0, .string ByteArray.empty])) := by kernel_rfl
theorem pl84 : plOf Tryd.prog 84 = some [(0, 1), (1, 1), (2, 1), (3, 1), (4, 1), (5, 9)] := by kernel_rfl
theorem sz87 : (Tryd.prog.info? 87).map (·.size) = some 9 := by kernel_rfl
theorem by87 : (Tryd.prog.info? 87).map (·.bytes) = some 128 := by kernel_rfl
theorem ag87 : aggB Tryd.prog 87 = true := by kernel_rfl
theorem nu87 : notInt Tryd.prog 87 = true := by kernel_rfl
theorem zr87 : (Tryd.prog.info? 87).map (·.zero) = some (some (.agg #[.int .i64 0, .slice none 0 0, .int .i64 0, .string ByteArray.empty, .string ByteArray.empty, .slice none 0 0, .int .i64 0, .int .i64 0, .string ByteArray.empty])) := by kernel_rfl
theorem pl87 : plOf Tryd.prog 87 = some [(0, 1), (1, 1), (2, 1), (3, 1), (4, 1), (5, 1), (6, 1), (7, 1), (8, 1)] := by kernel_rfl
theorem sz88 : (Tryd.prog.info? 88).map (·.size) = some 14 := by kernel_rfl
theorem by88 : (Tryd.prog.info? 88).map (·.bytes) = some 184 := by kernel_rfl
theorem ag88 : aggB Tryd.prog 88 = true := by kernel_rfl
theorem nu88 : notInt Tryd.prog 88 = true := by kernel_rfl
theorem zr88 : (Tryd.prog.info? 88).map (·.zero) = some (some (.agg #[.int .i64 0, .int .i64 0, .int .i64 0, .int .u64 0, .slice none 0 0, .int .i64 0, .slice none 0 0, .int .i64 0, .string ByteArray.empty, .string ByteArray.empty, .slice none 0 0, .int .i64 0, .int .i64 0, .string ByteArray.empty])) := by kernel_rfl
theorem pl88 : plOf Tryd.prog 88 = some [(0, 1), (1, 1), (2, 1), (3, 1), (4, 1), (5, 9)] := by kernel_rfl
theorem sz89 : (Tryd.prog.info? 89).map (·.size) = some 14 := by kernel_rfl
theorem by89 : (Tryd.prog.info? 89).map (·.bytes) = some 184 := by kernel_rfl
theorem ag89 : aggB Tryd.prog 89 = true := by kernel_rfl
theorem nu89 : notInt Tryd.prog 89 = true := by kernel_rfl
theorem zr89 : (Tryd.prog.info? 89).map (·.zero) = some (some (.agg #[.int .i64 0, .int .i64 0, .int .i64 0, .int .u64 0, .slice none 0 0, .int .i64 0, .slice none 0 0, .int .i64 0, .string ByteArray.empty, .string ByteArray.empty, .slice none 0 0, .int .i64 0, .int .i64 0, .string ByteArray.empty])) := by kernel_rfl
theorem pl89 : plOf Tryd.prog 89 = some [(0, 1), (1, 1), (2, 1), (3, 1), (4, 1), (5, 9)] := by kernel_rfl
theorem sz99 : (Tryd.prog.info? 99).map (·.size) = some 5 := by kernel_rfl
theorem by99 : (Tryd.prog.info? 99).map (·.bytes) = some 40 := by kernel_rfl
theorem ag99 : aggB Tryd.prog 99 = true := by kernel_rfl
theorem nu99 : notInt Tryd.prog 99 = true := by kernel_rfl
theorem zr99 : (Tryd.prog.info? 99).map (·.zero) = some (some (.agg #[.int .i64 0, .int .i64 0, .bool false, .int .i64 0, .int .i64 0])) := by kernel_rfl
theorem pl99 : plOf Tryd.prog 99 = some [(0, 1), (1, 1), (2, 1), (3, 1), (4, 1)] := by kernel_rfl
theorem sz100 : (Tryd.prog.info? 100).map (·.size) = some 5 := by kernel_rfl
theorem by100 : (Tryd.prog.info? 100).map (·.bytes) = some 40 := by kernel_rfl
theorem ag100 : aggB Tryd.prog 100 = true := by kernel_rfl
theorem nu100 : notInt Tryd.prog 100 = true := by kernel_rfl
theorem zr100 : (Tryd.prog.info? 100).map (·.zero) = some (some (.agg #[.int .i64 0, .int .i64 0, .bool false, .int .i64 0, .int .i64 0])) := by kernel_rfl
theorem pl100 : plOf Tryd.prog 100 = some [(0, 1), (1, 1), (2, 1), (3, 1), (4, 1)] := by kernel_rfl
theorem sz103 : (Tryd.prog.info? 103).map (·.size) = some 1 := by kernel_rfl
theorem by103 : (Tryd.prog.info? 103).map (·.bytes) = some 8 := by kernel_rfl
theorem ag103 : aggB Tryd.prog 103 = false := by kernel_rfl
theorem nu103 : notInt Tryd.prog 103 = true := by kernel_rfl
theorem zr103 : (Tryd.prog.info? 103).map (·.zero) = some (some (.pointer none)) := by kernel_rfl
theorem sz105 : (Tryd.prog.info? 105).map (·.size) = some 2 := by kernel_rfl
theorem by105 : (Tryd.prog.info? 105).map (·.bytes) = some 40 := by kernel_rfl
theorem ag105 : aggB Tryd.prog 105 = true := by kernel_rfl
theorem nu105 : notInt Tryd.prog 105 = true := by kernel_rfl
theorem zr105 : (Tryd.prog.info? 105).map (·.zero) = some (some (.agg #[.slice none 0 0, .nilIface])) := by kernel_rfl
theorem pl105 : plOf Tryd.prog 105 = some [(0, 1), (1, 1)] := by kernel_rfl
theorem sz106 : (Tryd.prog.info? 106).map (·.size) = some 2 := by kernel_rfl
theorem by106 : (Tryd.prog.info? 106).map (·.bytes) = some 40 := by kernel_rfl
theorem ag106 : aggB Tryd.prog 106 = true := by kernel_rfl
theorem nu106 : notInt Tryd.prog 106 = true := by kernel_rfl
theorem zr106 : (Tryd.prog.info? 106).map (·.zero) = some (some (.agg #[.slice none 0 0, .nilIface])) := by kernel_rfl
theorem pl106 : plOf Tryd.prog 106 = some [(0, 1), (1, 1)] := by kernel_rfl
theorem sz112 : (Tryd.prog.info? 112).map (·.size) = some 5 := by kernel_rfl
theorem by112 : (Tryd.prog.info? 112).map (·.bytes) = some 40 := by kernel_rfl
theorem ag112 : aggB Tryd.prog 112 = true := by kernel_rfl
theorem nu112 : notInt Tryd.prog 112 = true := by kernel_rfl
theorem zr112 : (Tryd.prog.info? 112).map (·.zero) = some (some (.agg #[.int .i64 0, .int .i64 0, .bool false, .int .i64 0, .int .i64 0])) := by kernel_rfl
theorem pl112 : plOf Tryd.prog 112 = some [(0, 1), (1, 1), (2, 1), (3, 1), (4, 1)] := by kernel_rfl
theorem sz114 : (Tryd.prog.info? 114).map (·.size) = some 1 := by kernel_rfl
theorem by114 : (Tryd.prog.info? 114).map (·.bytes) = some 24 := by kernel_rfl
theorem ag114 : aggB Tryd.prog 114 = false := by kernel_rfl
theorem nu114 : notInt Tryd.prog 114 = true := by kernel_rfl
theorem zr114 : (Tryd.prog.info? 114).map (·.zero) = some (some (.slice none 0 0)) := by kernel_rfl
theorem sz116 : (Tryd.prog.info? 116).map (·.size) = some 1 := by kernel_rfl
theorem by116 : (Tryd.prog.info? 116).map (·.bytes) = some 8 := by kernel_rfl
theorem ag116 : aggB Tryd.prog 116 = false := by kernel_rfl
theorem nu116 : notInt Tryd.prog 116 = true := by kernel_rfl
theorem zr116 : (Tryd.prog.info? 116).map (·.zero) = some (some (.pointer none)) := by kernel_rfl
theorem sz121 : (Tryd.prog.info? 121).map (·.size) = some 1 := by kernel_rfl
theorem by121 : (Tryd.prog.info? 121).map (·.bytes) = some 8 := by kernel_rfl
theorem ag121 : aggB Tryd.prog 121 = false := by kernel_rfl
theorem nu121 : notInt Tryd.prog 121 = true := by kernel_rfl
theorem zr121 : (Tryd.prog.info? 121).map (·.zero) = some (some (.chan none)) := by kernel_rfl
theorem sz122 : (Tryd.prog.info? 122).map (·.size) = some 2 := by kernel_rfl
theorem by122 : (Tryd.prog.info? 122).map (·.bytes) = some 16 := by kernel_rfl
theorem ag122 : aggB Tryd.prog 122 = true := by kernel_rfl
theorem nu122 : notInt Tryd.prog 122 = true := by kernel_rfl
theorem zr122 : (Tryd.prog.info? 122).map (·.zero) = some (some (.agg #[.chan none, .int .i64 0])) := by kernel_rfl
theorem pl122 : plOf Tryd.prog 122 = some [(0, 1), (1, 1)] := by kernel_rfl
theorem sz123 : (Tryd.prog.info? 123).map (·.size) = some 2 := by kernel_rfl
theorem by123 : (Tryd.prog.info? 123).map (·.bytes) = some 16 := by kernel_rfl
theorem ag123 : aggB Tryd.prog 123 = true := by kernel_rfl
theorem nu123 : notInt Tryd.prog 123 = true := by kernel_rfl
theorem zr123 : (Tryd.prog.info? 123).map (·.zero) = some (some (.agg #[.chan none, .int .i64 0])) := by kernel_rfl
theorem pl123 : plOf Tryd.prog 123 = some [(0, 1), (1, 1)] := by kernel_rfl
theorem sz125 : (Tryd.prog.info? 125).map (·.size) = some 1 := by kernel_rfl
theorem by125 : (Tryd.prog.info? 125).map (·.bytes) = some 24 := by kernel_rfl
theorem ag125 : aggB Tryd.prog 125 = false := by kernel_rfl
theorem nu125 : notInt Tryd.prog 125 = true := by kernel_rfl
theorem zr125 : (Tryd.prog.info? 125).map (·.zero) = some (some (.slice none 0 0)) := by kernel_rfl
theorem sz137 : (Tryd.prog.info? 137).map (·.size) = some 1 := by kernel_rfl
theorem by137 : (Tryd.prog.info? 137).map (·.bytes) = some 24 := by kernel_rfl
theorem ag137 : aggB Tryd.prog 137 = false := by kernel_rfl
theorem nu137 : notInt Tryd.prog 137 = true := by kernel_rfl
theorem zr137 : (Tryd.prog.info? 137).map (·.zero) = some (some (.slice none 0 0)) := by kernel_rfl
theorem sz140 : (Tryd.prog.info? 140).map (·.size) = some 3 := by kernel_rfl
theorem by140 : (Tryd.prog.info? 140).map (·.bytes) = some 40 := by kernel_rfl
theorem ag140 : aggB Tryd.prog 140 = true := by kernel_rfl
theorem nu140 : notInt Tryd.prog 140 = true := by kernel_rfl
theorem zr140 : (Tryd.prog.info? 140).map (·.zero) = some (some (.agg #[.string ByteArray.empty, .int .i64 0, .string ByteArray.empty])) := by kernel_rfl
theorem pl140 : plOf Tryd.prog 140 = some [(0, 1), (1, 1), (2, 1)] := by kernel_rfl
theorem sz141 : (Tryd.prog.info? 141).map (·.size) = some 3 := by kernel_rfl
theorem by141 : (Tryd.prog.info? 141).map (·.bytes) = some 40 := by kernel_rfl
theorem ag141 : aggB Tryd.prog 141 = true := by kernel_rfl
theorem nu141 : notInt Tryd.prog 141 = true := by kernel_rfl
theorem zr141 : (Tryd.prog.info? 141).map (·.zero) = some (some (.agg #[.string ByteArray.empty, .int .i64 0, .string ByteArray.empty])) := by kernel_rfl
theorem pl141 : plOf Tryd.prog 141 = some [(0, 1), (1, 1), (2, 1)] := by kernel_rfl
theorem sz144 : (Tryd.prog.info? 144).map (·.size) = some 1 := by kernel_rfl
theorem by144 : (Tryd.prog.info? 144).map (·.bytes) = some 8 := by kernel_rfl
theorem ag144 : aggB Tryd.prog 144 = false := by kernel_rfl
theorem nu144 : notInt Tryd.prog 144 = true := by kernel_rfl
theorem zr144 : (Tryd.prog.info? 144).map (·.zero) = some (some (.pointer none)) := by kernel_rfl
theorem sz156 : (Tryd.prog.info? 156).map (·.size) = some 1 := by kernel_rfl
theorem by156 : (Tryd.prog.info? 156).map (·.bytes) = some 16 := by kernel_rfl
theorem ag156 : aggB Tryd.prog 156 = false := by kernel_rfl
theorem nu156 : notInt Tryd.prog 156 = true := by kernel_rfl
theorem zr156 : (Tryd.prog.info? 156).map (·.zero) = some (some (.nilIface)) := by kernel_rfl
theorem sz157 : (Tryd.prog.info? 157).map (·.size) = some 1 := by kernel_rfl
theorem by157 : (Tryd.prog.info? 157).map (·.bytes) = some 16 := by kernel_rfl
theorem ag157 : aggB Tryd.prog 157 = false := by kernel_rfl
theorem nu157 : notInt Tryd.prog 157 = true := by kernel_rfl
theorem zr157 : (Tryd.prog.info? 157).map (·.zero) = some (some (.nilIface)) := by kernel_rfl
theorem sz160 : (Tryd.prog.info? 160).map (·.size) = some 1 := by kernel_rfl
theorem by160 : (Tryd.prog.info? 160).map (·.bytes) = some 8 := by kernel_rfl
theorem ag160 : aggB Tryd.prog 160 = false := by kernel_rfl
theorem nu160 : notInt Tryd.prog 160 = true := by kernel_rfl
theorem zr160 : (Tryd.prog.info? 160).map (·.zero) = some (some (.chan none)) := by kernel_rfl
theorem sz161 : (Tryd.prog.info? 161).map (·.size) = some 2 := by kernel_rfl
theorem by161 : (Tryd.prog.info? 161).map (·.bytes) = some 16 := by kernel_rfl
theorem ag161 : aggB Tryd.prog 161 = true := by kernel_rfl
theorem nu161 : notInt Tryd.prog 161 = true := by kernel_rfl
theorem zr161 : (Tryd.prog.info? 161).map (·.zero) = some (some (.agg #[.chan none, .int .i64 0])) := by kernel_rfl
theorem pl161 : plOf Tryd.prog 161 = some [(0, 1), (1, 1)] := by kernel_rfl
theorem sz162 : (Tryd.prog.info? 162).map (·.size) = some 2 := by kernel_rfl
theorem by162 : (Tryd.prog.info? 162).map (·.bytes) = some 16 := by kernel_rfl
theorem ag162 : aggB Tryd.prog 162 = true := by kernel_rfl
theorem nu162 : notInt Tryd.prog 162 = true := by kernel_rfl
theorem zr162 : (Tryd.prog.info? 162).map (·.zero) = some (some (.agg #[.chan none, .int .i64 0])) := by kernel_rfl
theorem pl162 : plOf Tryd.prog 162 = some [(0, 1), (1, 1)] := by kernel_rfl
theorem sz165 : (Tryd.prog.info? 165).map (·.size) = some 1 := by kernel_rfl
theorem by165 : (Tryd.prog.info? 165).map (·.bytes) = some 2 := by kernel_rfl
theorem ag165 : aggB Tryd.prog 165 = false := by kernel_rfl
theorem zr165 : (Tryd.prog.info? 165).map (·.zero) = some (some (.int .u16 0)) := by kernel_rfl
theorem sz172 : (Tryd.prog.info? 172).map (·.size) = some 1 := by kernel_rfl
theorem by172 : (Tryd.prog.info? 172).map (·.bytes) = some 8 := by kernel_rfl
theorem ag172 : aggB Tryd.prog 172 = false := by kernel_rfl
theorem nu172 : notInt Tryd.prog 172 = true := by kernel_rfl
theorem zr172 : (Tryd.prog.info? 172).map (·.zero) = some (some (.pointer none)) := by kernel_rfl
theorem sz174 : (Tryd.prog.info? 174).map (·.size) = some 1 := by kernel_rfl
theorem by174 : (Tryd.prog.info? 174).map (·.bytes) = some 8 := by kernel_rfl
theorem ag174 : aggB Tryd.prog 174 = false := by kernel_rfl
theorem nu174 : notInt Tryd.prog 174 = true := by kernel_rfl
theorem zr174 : (Tryd.prog.info? 174).map (·.zero) = some (some (.pointer none)) := by kernel_rfl
theorem sz176 : (Tryd.prog.info? 176).map (·.size) = some 1 := by kernel_rfl
theorem by176 : (Tryd.prog.info? 176).map (·.bytes) = some 8 := by kernel_rfl
theorem ag176 : aggB Tryd.prog 176 = false := by kernel_rfl
theorem nu176 : notInt Tryd.prog 176 = true := by kernel_rfl
theorem zr176 : (Tryd.prog.info? 176).map (·.zero) = some (some (.pointer none)) := by kernel_rfl
theorem sz178 : (Tryd.prog.info? 178).map (·.size) = some 1 := by kernel_rfl
theorem by178 : (Tryd.prog.info? 178).map (·.bytes) = some 8 := by kernel_rfl
theorem ag178 : aggB Tryd.prog 178 = false := by kernel_rfl
theorem nu178 : notInt Tryd.prog 178 = true := by kernel_rfl
theorem zr178 : (Tryd.prog.info? 178).map (·.zero) = some (some (.pointer none)) := by kernel_rfl
theorem sz179 : (Tryd.prog.info? 179).map (·.size) = some 2 := by kernel_rfl
theorem by179 : (Tryd.prog.info? 179).map (·.bytes) = some 32 := by kernel_rfl
theorem ag179 : aggB Tryd.prog 179 = true := by kernel_rfl
theorem nu179 : notInt Tryd.prog 179 = true := by kernel_rfl
theorem zr179 : (Tryd.prog.info? 179).map (·.zero) = some (some (.agg #[.pointer none, .slice none 0 0])) := by kernel_rfl
theorem pl179 : plOf Tryd.prog 179 = some [(0, 1), (1, 1)] := by kernel_rfl
theorem sz180 : (Tryd.prog.info? 180).map (·.size) = some 2 := by kernel_rfl
theorem by180 : (Tryd.prog.info? 180).map (·.bytes) = some 32 := by kernel_rfl
theorem ag180 : aggB Tryd.prog 180 = true := by kernel_rfl
theorem nu180 : notInt Tryd.prog 180 = true := by kernel_rfl
theorem zr180 : (Tryd.prog.info? 180).map (·.zero) = some (some (.agg #[.pointer none, .slice none 0 0])) := by kernel_rfl
theorem pl180 : plOf Tryd.prog 180 = some [(0, 1), (1, 1)] := by kernel_rfl
theorem sz190 : (Tryd.prog.info? 190).map (·.size) = some 1 := by kernel_rfl
theorem by190 : (Tryd.prog.info? 190).map (·.bytes) = some 8 := by kernel_rfl
theorem ag190 : aggB Tryd.prog 190 = true := by kernel_rfl
theorem nu190 : notInt Tryd.prog 190 = true := by kernel_rfl
theorem zr190 : (Tryd.prog.info? 190).map (·.zero) = some (some (.agg #[.pointer none])) := by kernel_rfl
theorem pl190 : plOf Tryd.prog 190 = some [(0, 1)] := by kernel_rfl
theorem sz191 : (Tryd.prog.info? 191).map (·.size) = some 1 := by kernel_rfl
theorem by191 : (Tryd.prog.info? 191).map (·.bytes) = some 8 := by kernel_rfl
theorem ag191 : aggB Tryd.prog 191 = true := by kernel_rfl
theorem nu191 : notInt Tryd.prog 191 = true := by kernel_rfl
theorem zr191 : (Tryd.prog.info? 191).map (·.zero) = some (some (.agg #[.pointer none])) := by kernel_rfl
theorem pl191 : plOf Tryd.prog 191 = some [(0, 1)] := by kernel_rfl
theorem sz192 : (Tryd.prog.info? 192).map (·.size) = some 1 := by kernel_rfl
theorem by192 : (Tryd.prog.info? 192).map (·.bytes) = some 8 := by kernel_rfl
theorem ag192 : aggB Tryd.prog 192 = false := by kernel_rfl
theorem nu192 : notInt Tryd.prog 192 = true := by kernel_rfl
theorem zr192 : (Tryd.prog.info? 192).map (·.zero) = some (some (.pointer none)) := by kernel_rfl
theorem sz193 : (Tryd.prog.info? 193).map (·.size) = some 1 := by kernel_rfl
theorem by193 : (Tryd.prog.info? 193).map (·.bytes) = some 16 := by kernel_rfl
theorem ag193 : aggB Tryd.prog 193 = false := by kernel_rfl
theorem nu193 : notInt Tryd.prog 193 = true := by kernel_rfl
theorem zr193 : (Tryd.prog.info? 193).map (·.zero) = some (some (.nilIface)) := by kernel_rfl
theorem sz196 : (Tryd.prog.info? 196).map (·.size) = some 1 := by kernel_rfl
theorem by196 : (Tryd.prog.info? 196).map (·.bytes) = some 16 := by kernel_rfl
theorem ag196 : aggB Tryd.prog 196 = false := by kernel_rfl
theorem nu196 : notInt Tryd.prog 196 = true := by kernel_rfl
theorem zr196 : (Tryd.prog.info? 196).map (·.zero) = some (some (.nilIface)) := by kernel_rfl
theorem sz198 : (Tryd.prog.info? 198).map (·.size) = some 1 := by kernel_rfl
theorem by198 : (Tryd.prog.info? 198).map (·.bytes) = some 16 := by kernel_rfl
theorem ag198 : aggB Tryd.prog 198 = false := by kernel_rfl
theorem nu198 : notInt Tryd.prog 198 = true := by kernel_rfl
theorem zr198 : (Tryd.prog.info? 198).map (·.zero) = some (some (.nilIface)) := by kernel_rfl
theorem sz201 : (Tryd.prog.info? 201).map (·.size) = some 1 := by kernel_rfl
theorem by201 : (Tryd.prog.info? 201).map (·.bytes) = some 4 := by kernel_rfl
theorem ag201 : aggB Tryd.prog 201 = false := by kernel_rfl
theorem zr201 : (Tryd.prog.info? 201).map (·.zero) = some (some (.int .u32 0)) := by kernel_rfl
theorem sz204 : (Tryd.prog.info? 204).map (·.size) = some 1 := by kernel_rfl
theorem by204 : (Tryd.prog.info? 204).map (·.bytes) = some 8 := by kernel_rfl
theorem ag204 : aggB Tryd.prog 204 = false := by kernel_rfl
theorem zr204 : (Tryd.prog.info? 204).map (·.zero) = some (some (.int .i64 0)) := by kernel_rfl
theorem sz213 : (Tryd.prog.info? 213).map (·.size) = some 1 := by kernel_rfl
theorem by213 : (Tryd.prog.info? 213).map (·.bytes) = some 8 := by kernel_rfl
theorem ag213 : aggB Tryd.prog 213 = false := by kernel_rfl
theorem nu213 : notInt Tryd.prog 213 = true := by kernel_rfl
theorem zr213 : (Tryd.prog.info? 213).map (·.zero) = some (some (.pointer none)) := by kernel_rfl
theorem sz215 : (Tryd.prog.info? 215).map (·.size) = some 1 := by kernel_rfl
theorem by215 : (Tryd.prog.info? 215).map (·.bytes) = some 8 := by kernel_rfl
theorem ag215 : aggB Tryd.prog 215 = false := by kernel_rfl
theorem zr215 : (Tryd.prog.info? 215).map (·.zero) = some (some (.int .u64 0)) := by kernel_rfl
theorem sz223 : (Tryd.prog.info? 223).map (·.size) = some 1 := by kernel_rfl
theorem by223 : (Tryd.prog.info? 223).map (·.bytes) = some 8 := by kernel_rfl
theorem ag223 : aggB Tryd.prog 223 = false := by kernel_rfl
theorem nu223 : notInt Tryd.prog 223 = true := by kernel_rfl
theorem zr223 : (Tryd.prog.info? 223).map (·.zero) = some (some (.pointer none)) := by kernel_rfl
theorem sz226 : (Tryd.prog.info? 226).map (·.size) = some 1 := by kernel_rfl
theorem by226 : (Tryd.prog.info? 226).map (·.bytes) = some 8 := by kernel_rfl
theorem ag226 : aggB Tryd.prog 226 = false := by kernel_rfl
theorem nu226 : notInt Tryd.prog 226 = true := by kernel_rfl
theorem zr226 : (Tryd.prog.info? 226).map (·.zero) = some (some (.pointer none)) := by kernel_rfl
theorem sz229 : (Tryd.prog.info? 229).map (·.size) = some 256 := by kernel_rfl
theorem by229 : (Tryd.prog.info? 229).map (·.bytes) = some 256 := by kernel_rfl
theorem ag229 : aggB Tryd.prog 229 = true := by kernel_rfl
theorem nu229 : notInt Tryd.prog 229 = true := by kernel_rfl
theorem sz230 : (Tryd.prog.info? 230).map (·.size) = some 2 := by kernel_rfl
theorem by230 : (Tryd.prog.info? 230).map (·.bytes) = some 2 := by kernel_rfl
theorem ag230 : aggB Tryd.prog 230 = true := by kernel_rfl
theorem nu230 : notInt Tryd.prog 230 = true := by kernel_rfl
theorem zr230 : (Tryd.prog.info? 230).map (·.zero) = some (some (.agg #[.int .u8 0, .int .u8 0])) := by kernel_rfl
theorem pl230 : plOf Tryd.prog 230 = some [(0, 1), (1, 1)] := by kernel_rfl
theorem sz231 : (Tryd.prog.info? 231).map (·.size) = some 2 := by kernel_rfl
theorem by231 : (Tryd.prog.info? 231).map (·.bytes) = some 2 := by kernel_rfl
theorem ag231 : aggB Tryd.prog 231 = true := by kernel_rfl
theorem nu231 : notInt Tryd.prog 231 = true := by kernel_rfl
theorem zr231 : (Tryd.prog.info? 231).map (·.zero) = some (some (.agg #[.int .u8 0, .int .u8 0])) := by kernel_rfl
theorem pl231 : plOf Tryd.prog 231 = some [(0, 1), (1, 1)] := by kernel_rfl
theorem sz232 : (Tryd.prog.info? 232).map (·.size) = some 32 := by kernel_rfl
theorem by232 : (Tryd.prog.info? 232).map (·.bytes) = some 32 := by kernel_rfl
theorem ag232 : aggB Tryd.prog 232 = true := by kernel_rfl
theorem nu232 : notInt Tryd.prog 232 = true := by kernel_rfl
theorem zr232 : (Tryd.prog.info? 232).map (·.zero) = some (some (.agg #[.int .u8 0, .int .u8 0, .int .u8 0, .int .u8 0, .int .u8 0, .int .u8 0, .int .u8 0, .int .u8 0, .int .u8 0, .int .u8 0, .int .u8 0, .int .u8 0, .int .u8 0, .int .u8 0, .int .u8 0, .int .u8 0, .int .u8 0, .int .u8 0, .int .u8 0, .int .u8 0, .int .u8 0, .int .u8 0, .int .u8 0, .int .u8 0, .int .u8 0, .int .u8 0, .int .u8 0, .int .u8 0, .int .u8 0, .int .u8 0, .int .u8 0, .int .u8 0])) := by kernel_rfl
theorem sz235 : (Tryd.prog.info? 235).map (·.size) = some 1 := by kernel_rfl
theorem by235 : (Tryd.prog.info? 235).map (·.bytes) = some 8 := by kernel_rfl
theorem ag235 : aggB Tryd.prog 235 = false := by kernel_rfl
theorem nu235 : notInt Tryd.prog 235 = true := by kernel_rfl
theorem zr235 : (Tryd.prog.info? 235).map (·.zero) = some (some (.pointer none)) := by kernel_rfl
theorem sz236 : (Tryd.prog.info? 236).map (·.size) = some 4 := by kernel_rfl
theorem by236 : (Tryd.prog.info? 236).map (·.bytes) = some 40 := by kernel_rfl
theorem ag236 : aggB Tryd.prog 236 = true := by kernel_rfl
theorem nu236 : notInt Tryd.prog 236 = true := by kernel_rfl
theorem zr236 : (Tryd.prog.info? 236).map (·.zero) = some (some (.agg #[.pointer none, .pointer none, .pointer none, .string ByteArray.empty])) := by kernel_rfl
theorem pl236 : plOf Tryd.prog 236 = some [(0, 1), (1, 1), (2, 1), (3, 1)] := by kernel_rfl
theorem sz237 : (Tryd.prog.info? 237).map (·.size) = some 4 := by kernel_rfl
theorem by237 : (Tryd.prog.info? 237).map (·.bytes) = some 40 := by kernel_rfl
theorem ag237 : aggB Tryd.prog 237 = true := by kernel_rfl
theorem nu237 : notInt Tryd.prog 237 = true := by kernel_rfl
theorem zr237 : (Tryd.prog.info? 237).map (·.zero) = some (some (.agg #[.pointer none, .pointer none, .pointer none, .string ByteArray.empty])) := by kernel_rfl
theorem pl237 : plOf Tryd.prog 237 = some [(0, 1), (1, 1), (2, 1), (3, 1)] := by kernel_rfl
theorem sz238 : (Tryd.prog.info? 238).map (·.size) = some 0 := by kernel_rfl
theorem by238 : (Tryd.prog.info? 238).map (·.bytes) = some 0 := by kernel_rfl
theorem ag238 : aggB Tryd.prog 238 = true := by kernel_rfl
theorem nu238 : notInt Tryd.prog 238 = true := by kernel_rfl
theorem zr238 : (Tryd.prog.info? 238).map (·.zero) = some (some (.agg #[])) := by kernel_rfl
theorem sz239 : (Tryd.prog.info? 239).map (·.size) = some 0 := by kernel_rfl
theorem by239 : (Tryd.prog.info? 239).map (·.bytes) = some 0 := by kernel_rfl
theorem ag239 : aggB Tryd.prog 239 = true := by kernel_rfl
theorem nu239 : notInt Tryd.prog 239 = true := by kernel_rfl
theorem zr239 : (Tryd.prog.info? 239).map (·.zero) = some (some (.agg #[])) := by kernel_rfl
theorem pl239 : plOf Tryd.prog 239 = some [(0, 0)] := by kernel_rfl
theorem sz240 : (Tryd.prog.info? 240).map (·.size) = some 0 := by kernel_rfl
theorem by240 : (Tryd.prog.info? 240).map (·.bytes) = some 0 := by kernel_rfl
theorem ag240 : aggB Tryd.prog 240 = true := by kernel_rfl
theorem nu240 : notInt Tryd.prog 240 = true := by kernel_rfl
theorem zr240 : (Tryd.prog.info? 240).map (·.zero) = some (some (.agg #[])) := by kernel_rfl
theorem pl240 : plOf Tryd.prog 240 = some [(0, 0)] := by kernel_rfl
theorem sz241 : (Tryd.prog.info? 241).map (·.size) = some 1 := by kernel_rfl
theorem by241 : (Tryd.prog.info? 241).map (·.bytes) = some 1 := by kernel_rfl
theorem ag241 : aggB Tryd.prog 241 = false := by kernel_rfl
theorem zr241 : (Tryd.prog.info? 241).map (·.zero) = some (some (.int .u8 0)) := by kernel_rfl
theorem sz242 : (Tryd.prog.info? 242).map (·.size) = some 1 := by kernel_rfl
theorem by242 : (Tryd.prog.info? 242).map (·.bytes) = some 1 := by kernel_rfl
theorem ag242 : aggB Tryd.prog 242 = false := by kernel_rfl
theorem zr242 : (Tryd.prog.info? 242).map (·.zero) = some (some (.int .u8 0)) := by kernel_rfl
theorem sz244 : (Tryd.prog.info? 244).map (·.size) = some 1 := by kernel_rfl
theorem by244 : (Tryd.prog.info? 244).map (·.bytes) = some 4 := by kernel_rfl
theorem ag244 : aggB Tryd.prog 244 = false := by kernel_rfl
theorem zr244 : (Tryd.prog.info? 244).map (·.zero) = some (some (.int .i32 0)) := by kernel_rfl
theorem sz245 : (Tryd.prog.info? 245).map (·.size) = some 1 := by kernel_rfl
theorem by245 : (Tryd.prog.info? 245).map (·.bytes) = some 4 := by kernel_rfl
theorem ag245 : aggB Tryd.prog 245 = false := by kernel_rfl
theorem zr245 : (Tryd.prog.info? 245).map (·.zero) = some (some (.int .i32 0)) := by kernel_rfl
theorem sz246 : (Tryd.prog.info? 246).map (·.size) = some 11 := by kernel_rfl
theorem by246 : (Tryd.prog.info? 246).map (·.bytes) = some 48 := by kernel_rfl
theorem ag246 : aggB Tryd.prog 246 = true := by kernel_rfl
theorem nu246 : notInt Tryd.prog 246 = true := by kernel_rfl
theorem zr246 : (Tryd.prog.info? 246).map (·.zero) = some (some (.agg #[.int .u64 0, .int .u64 0, .int .u32 0, .int .u8 0, .int .u8 0, .int .u8 0, .int .u8 0, .nilFunc, .pointer none, .int .i32 0, .int .i32 0])) := by kernel_rfl
theorem pl246 : plOf Tryd.prog 246 = some [(0, 1), (1, 1), (2, 1), (3, 1), (4, 1), (5, 1), (6, 1), (7, 1), (8, 1), (9, 1), (10, 1)] := by kernel_rfl
theorem sz247 : (Tryd.prog.info? 247).map (·.size) = some 11 := by kernel_rfl
theorem by247 : (Tryd.prog.info? 247).map (·.bytes) = some 48 := by kernel_rfl
theorem ag247 : aggB Tryd.prog 247 = true := by kernel_rfl
theorem nu247 : notInt Tryd.prog 247 = true := by kernel_rfl
theorem zr247 : (Tryd.prog.info? 247).map (·.zero) = some (some (.agg #[.int .u64 0, .int .u64 0, .int .u32 0, .int .u8 0, .int .u8 0, .int .u8 0, .int .u8 0, .nilFunc, .pointer none, .int .i32 0, .int .i32 0])) := by kernel_rfl
theorem pl247 : plOf Tryd.prog 247 = some [(0, 1), (1, 1), (2, 1), (3, 1), (4, 1), (5, 1), (6, 1), (7, 1), (8, 1), (9, 1), (10, 1)] := by kernel_rfl
theorem sz259 : (Tryd.prog.info? 259).map (·.size) = some 2 := by kernel_rfl
theorem by259 : (Tryd.prog.info? 259).map (·.bytes) = some 24 := by kernel_rfl
theorem ag259 : aggB Tryd.prog 259 = true := by kernel_rfl
theorem nu259 : notInt Tryd.prog 259 = true := by kernel_rfl
theorem zr259 : (Tryd.prog.info? 259).map (·.zero) = some (some (.agg #[.string ByteArray.empty, .int .u8 0])) := by kernel_rfl
theorem pl259 : plOf Tryd.prog 259 = some [(0, 1), (1, 1)] := by kernel_rfl
theorem sz260 : (Tryd.prog.info? 260).map (·.size) = some 2 := by kernel_rfl
theorem by260 : (Tryd.prog.info? 260).map (·.bytes) = some 24 := by kernel_rfl
theorem ag260 : aggB Tryd.prog 260 = true := by kernel_rfl
theorem nu260 : notInt Tryd.prog 260 = true := by kernel_rfl
theorem zr260 : (Tryd.prog.info? 260).map (·.zero) = some (some (.agg #[.string ByteArray.empty, .int .u8 0])) := by kernel_rfl
theorem pl260 : plOf Tryd.prog 260 = some [(0, 1), (1, 1)] := by kernel_rfl
theorem sz261 : (Tryd.prog.info? 261).map (·.size) = some 1 := by kernel_rfl
theorem by261 : (Tryd.prog.info? 261).map (·.bytes) = some 16 := by kernel_rfl
theorem ag261 : aggB Tryd.prog 261 = true := by kernel_rfl
theorem nu261 : notInt Tryd.prog 261 = true := by kernel_rfl
theorem zr261 : (Tryd.prog.info? 261).map (·.zero) = some (some (.agg #[.string ByteArray.empty])) := by kernel_rfl
theorem pl261 : plOf Tryd.prog 261 = some [(0, 1)] := by kernel_rfl
theorem sz262 : (Tryd.prog.info? 262).map (·.size) = some 1 := by kernel_rfl
theorem by262 : (Tryd.prog.info? 262).map (·.bytes) = some 16 := by kernel_rfl
theorem ag262 : aggB Tryd.prog 262 = true := by kernel_rfl
theorem nu262 : notInt Tryd.prog 262 = true := by kernel_rfl
theorem zr262 : (Tryd.prog.info? 262).map (·.zero) = some (some (.agg #[.string ByteArray.empty])) := by kernel_rfl
theorem pl262 : plOf Tryd.prog 262 = some [(0, 1)] := by kernel_rfl
theorem sz263 : (Tryd.prog.info? 263).map (·.size) = some 1 := by kernel_rfl
theorem by263 : (Tryd.prog.info? 263).map (·.bytes) = some 8 := by kernel_rfl
theorem ag263 : aggB Tryd.prog 263 = false := by kernel_rfl
theorem nu263 : notInt Tryd.prog 263 = true := by kernel_rfl
theorem zr263 : (Tryd.prog.info? 263).map (·.zero) = some (some (.pointer none)) := by kernel_rfl
theorem sz264 : (Tryd.prog.info? 264).map (·.size) = some 5 := by kernel_rfl
theorem by264 : (Tryd.prog.info? 264).map (·.bytes) = some 64 := by kernel_rfl
theorem ag264 : aggB Tryd.prog 264 = true := by kernel_rfl
theorem nu264 : notInt Tryd.prog 264 = true := by kernel_rfl
theorem zr264 : (Tryd.prog.info? 264).map (·.zero) = some (some (.agg #[.int .i64 0, .int .i64 0, .bool false, .slice none 0 0, .string ByteArray.empty])) := by kernel_rfl
theorem pl264 : plOf Tryd.prog 264 = some [(0, 1), (1, 1), (2, 1), (3, 1), (4, 1)] := by kernel_rfl
theorem sz265 : (Tryd.prog.info? 265).map (·.size) = some 5 := by kernel_rfl
theorem by265 : (Tryd.prog.info? 265).map (·.bytes) = some 64 := by kernel_rfl
theorem ag265 : aggB Tryd.prog 265 = true := by kernel_rfl
theorem nu265 : notInt Tryd.prog 265 = true := by kernel_rfl
theorem zr265 : (Tryd.prog.info? 265).map (·.zero) = some (some (.agg #[.int .i64 0, .int .i64 0, .bool false, .slice none 0 0, .string ByteArray.empty])) := by kernel_rfl
theorem pl265 : plOf Tryd.prog 265 = some [(0, 1), (1, 1), (2, 1), (3, 1), (4, 1)] := by kernel_rfl
theorem sz266 : (Tryd.prog.info? 266).map (·.size) = some 1 := by kernel_rfl
theorem by266 : (Tryd.prog.info? 266).map (·.bytes) = some 24 := by kernel_rfl
theorem ag266 : aggB Tryd.prog 266 = false := by kernel_rfl
theorem nu266 : notInt Tryd.prog 266 = true := by kernel_rfl
theorem zr266 : (Tryd.prog.info? 266).map (·.zero) = some (some (.slice none 0 0)) := by kernel_rfl
theorem sz267 : (Tryd.prog.info? 267).map (·.size) = some 1 := by kernel_rfl
theorem by267 : (Tryd.prog.info? 267).map (·.bytes) = some 8 := by kernel_rfl
theorem ag267 : aggB Tryd.prog 267 = false := by kernel_rfl
theorem nu267 : notInt Tryd.prog 267 = true := by kernel_rfl
theorem zr267 : (Tryd.prog.info? 267).map (·.zero) = some (some (.pointer none)) := by kernel_rfl
theorem sz268 : (Tryd.prog.info? 268).map (·.size) = some 1 := by kernel_rfl
theorem by268 : (Tryd.prog.info? 268).map (·.bytes) = some 24 := by kernel_rfl
theorem ag268 : aggB Tryd.prog 268 = false := by kernel_rfl
theorem nu268 : notInt Tryd.prog 268 = true := by kernel_rfl
theorem zr268 : (Tryd.prog.info? 268).map (·.zero) = some (some (.slice none 0 0)) := by kernel_rfl
theorem sz269 : (Tryd.prog.info? 269).map (·.size) = some 3 := by kernel_rfl
theorem by269 : (Tryd.prog.info? 269).map (·.bytes) = some 64 := by kernel_rfl
theorem ag269 : aggB Tryd.prog 269 = true := by kernel_rfl
theorem nu269 : notInt Tryd.prog 269 = true := by kernel_rfl
theorem zr269 : (Tryd.prog.info? 269).map (·.zero) = some (some (.agg #[.slice none 0 0, .slice none 0 0, .nilIface])) := by kernel_rfl
theorem pl269 : plOf Tryd.prog 269 = some [(0, 1), (1, 1), (2, 1)] := by kernel_rfl
theorem sz270 : (Tryd.prog.info? 270).map (·.size) = some 3 := by kernel_rfl
theorem by270 : (Tryd.prog.info? 270).map (·.bytes) = some 64 := by kernel_rfl
theorem ag270 : aggB Tryd.prog 270 = true := by kernel_rfl
theorem nu270 : notInt Tryd.prog 270 = true := by kernel_rfl
theorem zr270 : (Tryd.prog.info? 270).map (·.zero) = some (some (.agg #[.slice none 0 0, .slice none 0 0, .nilIface])) := by kernel_rfl
theorem pl270 : plOf Tryd.prog 270 = some [(0, 1), (1, 1), (2, 1)] := by kernel_rfl
theorem sz272 : (Tryd.prog.info? 272).map (·.size) = some 5 := by kernel_rfl
theorem by272 : (Tryd.prog.info? 272).map (·.bytes) = some 16 := by kernel_rfl
theorem ag272 : aggB Tryd.prog 272 = true := by kernel_rfl
theorem nu272 : notInt Tryd.prog 272 = true := by kernel_rfl
theorem zr272 : (Tryd.prog.info? 272).map (·.zero) = some (some (.agg #[.int .i32 0, .int .u16 0, .int .u16 0, .int .u32 0, .int .u32 0])) := by kernel_rfl
theorem pl272 : plOf Tryd.prog 272 = some [(0, 1), (1, 1), (2, 1), (3, 1), (4, 1)] := by kernel_rfl
theorem sz273 : (Tryd.prog.info? 273).map (·.size) = some 5 := by kernel_rfl
theorem by273 : (Tryd.prog.info? 273).map (·.bytes) = some 16 := by kernel_rfl
theorem ag273 : aggB Tryd.prog 273 = true := by kernel_rfl
theorem nu273 : notInt Tryd.prog 273 = true := by kernel_rfl
theorem zr273 : (Tryd.prog.info? 273).map (·.zero) = some (some (.agg #[.int .i32 0, .int .u16 0, .int .u16 0, .int .u32 0, .int .u32 0])) := by kernel_rfl
theorem pl273 : plOf Tryd.prog 273 = some [(0, 1), (1, 1), (2, 1), (3, 1), (4, 1)] := by kernel_rfl
theorem sz274 : (Tryd.prog.info? 274).map (·.size) = some 2 := by kernel_rfl
theorem by274 : (Tryd.prog.info? 274).map (·.bytes) = some 32 := by kernel_rfl
theorem ag274 : aggB Tryd.prog 274 = true := by kernel_rfl
theorem nu274 : notInt Tryd.prog 274 = true := by kernel_rfl
theorem zr274 : (Tryd.prog.info? 274).map (·.zero) = some (some (.agg #[.int .i64 0, .slice none 0 0])) := by kernel_rfl
theorem pl274 : plOf Tryd.prog 274 = some [(0, 1), (1, 1)] := by kernel_rfl
theorem sz275 : (Tryd.prog.info? 275).map (·.size) = some 2 := by kernel_rfl
theorem by275 : (Tryd.prog.info? 275).map (·.bytes) = some 32 := by kernel_rfl
theorem ag275 : aggB Tryd.prog 275 = true := by kernel_rfl
theorem nu275 : notInt Tryd.prog 275 = true := by kernel_rfl
theorem zr275 : (Tryd.prog.info? 275).map (·.zero) = some (some (.agg #[.int .i64 0, .slice none 0 0])) := by kernel_rfl
theorem pl275 : plOf Tryd.prog 275 = some [(0, 1), (1, 1)] := by kernel_rfl
theorem sz276 : (Tryd.prog.info? 276).map (·.size) = some 1 := by kernel_rfl
theorem by276 : (Tryd.prog.info? 276).map (·.bytes) = some 24 := by kernel_rfl
theorem ag276 : aggB Tryd.prog 276 = false := by kernel_rfl
theorem nu276 : notInt Tryd.prog 276 = true := by kernel_rfl
theorem zr276 : (Tryd.prog.info? 276).map (·.zero) = some (some (.slice none 0 0)) := by kernel_rfl
theorem sz278 : (Tryd.prog.info? 278).map (·.size) = some 1 := by kernel_rfl
theorem by278 : (Tryd.prog.info? 278).map (·.bytes) = some 4 := by kernel_rfl
theorem ag278 : aggB Tryd.prog 278 = false := by kernel_rfl
theorem zr278 : (Tryd.prog.info? 278).map (·.zero) = some (some (.int .i32 0)) := by kernel_rfl
theorem sz279 : (Tryd.prog.info? 279).map (·.size) = some 4 := by kernel_rfl
theorem by279 : (Tryd.prog.info? 279).map (·.bytes) = some 16 := by kernel_rfl
theorem ag279 : aggB Tryd.prog 279 = true := by kernel_rfl
theorem nu279 : notInt Tryd.prog 279 = true := by kernel_rfl
theorem zr279 : (Tryd.prog.info? 279).map (·.zero) = some (some (.agg #[.int .i32 0, .int .i32 0, .int .i32 0, .int .i32 0])) := by kernel_rfl
theorem pl279 : plOf Tryd.prog 279 = some [(0, 1), (1, 1), (2, 1), (3, 1)] := by kernel_rfl
theorem sz280 : (Tryd.prog.info? 280).map (·.size) = some 4 := by kernel_rfl
theorem by280 : (Tryd.prog.info? 280).map (·.bytes) = some 16 := by kernel_rfl
theorem ag280 : aggB Tryd.prog 280 = true := by kernel_rfl
theorem nu280 : notInt Tryd.prog 280 = true := by kernel_rfl
theorem zr280 : (Tryd.prog.info? 280).map (·.zero) = some (some (.agg #[.int .i32 0, .int .i32 0, .int .i32 0, .int .i32 0])) := by kernel_rfl
theorem pl280 : plOf Tryd.prog 280 = some [(0, 1), (1, 1), (2, 1), (3, 1)] := by kernel_rfl
end Am
end Go.Proofs.YtoliiompofonlaaDoor
