/- Facts on the types of this seat, by program. -/
import Derived.Test.YtndbjkapdmpbbaaDoorAm9
namespace Go.Proofs.YtndbjkapdmpbbaaDoor
namespace Am
set_option maxRecDepth 100000
theorem sz2 : (Tryd.prog.info? 2).map (·.size) = some 1 := by kernel_rfl
theorem by2 : (Tryd.prog.info? 2).map (·.bytes) = some 8 := by kernel_rfl
theorem ag2 : aggB Tryd.prog 2 = false := by kernel_rfl
theorem zr2 : (Tryd.prog.info? 2).map (·.zero) = some (some (.int .i64 0)) := by kernel_rfl
theorem sz3 : (Tryd.prog.info? 3).map (·.size) = some 1 := by kernel_rfl
theorem by3 : (Tryd.prog.info? 3).map (·.bytes) = some 8 := by kernel_rfl
theorem ag3 : aggB Tryd.prog 3 = false := by kernel_rfl
theorem zr3 : (Tryd.prog.info? 3).map (·.zero) = some (some (.int .i64 0)) := by kernel_rfl
theorem sz4 : (Tryd.prog.info? 4).map (·.size) = some 1 := by kernel_rfl
theorem by4 : (Tryd.prog.info? 4).map (·.bytes) = some 1 := by kernel_rfl
theorem ag4 : aggB Tryd.prog 4 = false := by kernel_rfl
theorem nu4 : notInt Tryd.prog 4 = true := by kernel_rfl
theorem zr4 : (Tryd.prog.info? 4).map (·.zero) = some (some (.bool false)) := by kernel_rfl
theorem sz5 : (Tryd.prog.info? 5).map (·.size) = some 1 := by kernel_rfl
theorem by5 : (Tryd.prog.info? 5).map (·.bytes) = some 1 := by kernel_rfl
theorem ag5 : aggB Tryd.prog 5 = false := by kernel_rfl
theorem zr5 : (Tryd.prog.info? 5).map (·.zero) = some (some (.int .u8 0)) := by kernel_rfl
theorem sz6 : (Tryd.prog.info? 6).map (·.size) = some 1 := by kernel_rfl
theorem by6 : (Tryd.prog.info? 6).map (·.bytes) = some 1 := by kernel_rfl
theorem ag6 : aggB Tryd.prog 6 = false := by kernel_rfl
theorem zr6 : (Tryd.prog.info? 6).map (·.zero) = some (some (.int .u8 0)) := by kernel_rfl
theorem sz7 : (Tryd.prog.info? 7).map (·.size) = some 4 := by kernel_rfl
theorem by7 : (Tryd.prog.info? 7).map (·.bytes) = some 24 := by kernel_rfl
theorem ag7 : aggB Tryd.prog 7 = true := by kernel_rfl
theorem nu7 : notInt Tryd.prog 7 = true := by kernel_rfl
theorem zr7 : (Tryd.prog.info? 7).map (·.zero) = some (some (.agg #[.int .i64 0, .int .i64 0, .bool false, .int .u8 0])) := by kernel_rfl
theorem pl7 : plOf Tryd.prog 7 = some [(0, 1), (1, 1), (2, 1), (3, 1)] := by kernel_rfl
theorem sz8 : (Tryd.prog.info? 8).map (·.size) = some 4 := by kernel_rfl
theorem by8 : (Tryd.prog.info? 8).map (·.bytes) = some 24 := by kernel_rfl
theorem ag8 : aggB Tryd.prog 8 = true := by kernel_rfl
theorem nu8 : notInt Tryd.prog 8 = true := by kernel_rfl
theorem zr8 : (Tryd.prog.info? 8).map (·.zero) = some (some (.agg #[.int .i64 0, .int .i64 0, .bool false, .int .u8 0])) := by kernel_rfl
theorem pl8 : plOf Tryd.prog 8 = some [(0, 1), (1, 1), (2, 1), (3, 1)] := by kernel_rfl
theorem sz9 : (Tryd.prog.info? 9).map (·.size) = some 1 := by kernel_rfl
theorem by9 : (Tryd.prog.info? 9).map (·.bytes) = some 16 := by kernel_rfl
theorem ag9 : aggB Tryd.prog 9 = false := by kernel_rfl
theorem nu9 : notInt Tryd.prog 9 = true := by kernel_rfl
theorem zr9 : (Tryd.prog.info? 9).map (·.zero) = some (some (.string ByteArray.empty)) := by kernel_rfl
theorem sz10 : (Tryd.prog.info? 10).map (·.size) = some 1 := by kernel_rfl
theorem by10 : (Tryd.prog.info? 10).map (·.bytes) = some 16 := by kernel_rfl
theorem ag10 : aggB Tryd.prog 10 = false := by kernel_rfl
theorem nu10 : notInt Tryd.prog 10 = true := by kernel_rfl
theorem zr10 : (Tryd.prog.info? 10).map (·.zero) = some (some (.string ByteArray.empty)) := by kernel_rfl
theorem sz11 : (Tryd.prog.info? 11).map (·.size) = some 1 := by kernel_rfl
theorem by11 : (Tryd.prog.info? 11).map (·.bytes) = some 16 := by kernel_rfl
theorem ag11 : aggB Tryd.prog 11 = false := by kernel_rfl
theorem nu11 : notInt Tryd.prog 11 = true := by kernel_rfl
theorem zr11 : (Tryd.prog.info? 11).map (·.zero) = some (some (.string ByteArray.empty)) := by kernel_rfl
theorem sz12 : (Tryd.prog.info? 12).map (·.size) = some 1 := by kernel_rfl
theorem by12 : (Tryd.prog.info? 12).map (·.bytes) = some 8 := by kernel_rfl
theorem ag12 : aggB Tryd.prog 12 = false := by kernel_rfl
theorem zr12 : (Tryd.prog.info? 12).map (·.zero) = some (some (.int .u64 0)) := by kernel_rfl
theorem sz13 : (Tryd.prog.info? 13).map (·.size) = some 2 := by kernel_rfl
theorem by13 : (Tryd.prog.info? 13).map (·.bytes) = some 24 := by kernel_rfl
theorem ag13 : aggB Tryd.prog 13 = true := by kernel_rfl
theorem nu13 : notInt Tryd.prog 13 = true := by kernel_rfl
theorem zr13 : (Tryd.prog.info? 13).map (·.zero) = some (some (.agg #[.string ByteArray.empty, .int .u64 0])) := by kernel_rfl
theorem pl13 : plOf Tryd.prog 13 = some [(0, 1), (1, 1)] := by kernel_rfl
theorem sz14 : (Tryd.prog.info? 14).map (·.size) = some 2 := by kernel_rfl
theorem by14 : (Tryd.prog.info? 14).map (·.bytes) = some 24 := by kernel_rfl
theorem ag14 : aggB Tryd.prog 14 = true := by kernel_rfl
theorem nu14 : notInt Tryd.prog 14 = true := by kernel_rfl
theorem zr14 : (Tryd.prog.info? 14).map (·.zero) = some (some (.agg #[.string ByteArray.empty, .int .u64 0])) := by kernel_rfl
theorem pl14 : plOf Tryd.prog 14 = some [(0, 1), (1, 1)] := by kernel_rfl
theorem sz15 : (Tryd.prog.info? 15).map (·.size) = some 1 := by kernel_rfl
theorem by15 : (Tryd.prog.info? 15).map (·.bytes) = some 8 := by kernel_rfl
theorem ag15 : aggB Tryd.prog 15 = false := by kernel_rfl
theorem nu15 : notInt Tryd.prog 15 = true := by kernel_rfl
theorem zr15 : (Tryd.prog.info? 15).map (·.zero) = some (some (.pointer none)) := by kernel_rfl
theorem sz16 : (Tryd.prog.info? 16).map (·.size) = some 1 := by kernel_rfl
theorem by16 : (Tryd.prog.info? 16).map (·.bytes) = some 8 := by kernel_rfl
theorem ag16 : aggB Tryd.prog 16 = false := by kernel_rfl
theorem nu16 : notInt Tryd.prog 16 = true := by kernel_rfl
theorem zr16 : (Tryd.prog.info? 16).map (·.zero) = some (some (.pointer none)) := by kernel_rfl
theorem sz17 : (Tryd.prog.info? 17).map (·.size) = some 1 := by kernel_rfl
theorem by17 : (Tryd.prog.info? 17).map (·.bytes) = some 8 := by kernel_rfl
theorem ag17 : aggB Tryd.prog 17 = false := by kernel_rfl
theorem nu17 : notInt Tryd.prog 17 = true := by kernel_rfl
theorem zr17 : (Tryd.prog.info? 17).map (·.zero) = some (some (.pointer none)) := by kernel_rfl
theorem sz18 : (Tryd.prog.info? 18).map (·.size) = some 1 := by kernel_rfl
theorem by18 : (Tryd.prog.info? 18).map (·.bytes) = some 8 := by kernel_rfl
theorem ag18 : aggB Tryd.prog 18 = true := by kernel_rfl
theorem nu18 : notInt Tryd.prog 18 = true := by kernel_rfl
theorem zr18 : (Tryd.prog.info? 18).map (·.zero) = some (some (.agg #[.pointer none])) := by kernel_rfl
theorem pl18 : plOf Tryd.prog 18 = some [(0, 1)] := by kernel_rfl
theorem sz19 : (Tryd.prog.info? 19).map (·.size) = some 1 := by kernel_rfl
theorem by19 : (Tryd.prog.info? 19).map (·.bytes) = some 8 := by kernel_rfl
theorem ag19 : aggB Tryd.prog 19 = true := by kernel_rfl
theorem nu19 : notInt Tryd.prog 19 = true := by kernel_rfl
theorem zr19 : (Tryd.prog.info? 19).map (·.zero) = some (some (.agg #[.pointer none])) := by kernel_rfl
theorem pl19 : plOf Tryd.prog 19 = some [(0, 1)] := by kernel_rfl
theorem sz20 : (Tryd.prog.info? 20).map (·.size) = some 1 := by kernel_rfl
theorem by20 : (Tryd.prog.info? 20).map (·.bytes) = some 16 := by kernel_rfl
theorem ag20 : aggB Tryd.prog 20 = false := by kernel_rfl
theorem nu20 : notInt Tryd.prog 20 = true := by kernel_rfl
theorem zr20 : (Tryd.prog.info? 20).map (·.zero) = some (some (.nilIface)) := by kernel_rfl
theorem sz21 : (Tryd.prog.info? 21).map (·.size) = some 1 := by kernel_rfl
theorem by21 : (Tryd.prog.info? 21).map (·.bytes) = some 4 := by kernel_rfl
theorem ag21 : aggB Tryd.prog 21 = false := by kernel_rfl
theorem zr21 : (Tryd.prog.info? 21).map (·.zero) = some (some (.int .i32 0)) := by kernel_rfl
theorem sz23 : (Tryd.prog.info? 23).map (·.size) = some 1 := by kernel_rfl
theorem by23 : (Tryd.prog.info? 23).map (·.bytes) = some 24 := by kernel_rfl
theorem ag23 : aggB Tryd.prog 23 = false := by kernel_rfl
theorem nu23 : notInt Tryd.prog 23 = true := by kernel_rfl
theorem zr23 : (Tryd.prog.info? 23).map (·.zero) = some (some (.slice none 0 0)) := by kernel_rfl
theorem sz24 : (Tryd.prog.info? 24).map (·.size) = some 1 := by kernel_rfl
theorem by24 : (Tryd.prog.info? 24).map (·.bytes) = some 16 := by kernel_rfl
theorem ag24 : aggB Tryd.prog 24 = false := by kernel_rfl
theorem nu24 : notInt Tryd.prog 24 = true := by kernel_rfl
theorem zr24 : (Tryd.prog.info? 24).map (·.zero) = some (some (.nilIface)) := by kernel_rfl
theorem sz25 : (Tryd.prog.info? 25).map (·.size) = some 1 := by kernel_rfl
theorem by25 : (Tryd.prog.info? 25).map (·.bytes) = some 16 := by kernel_rfl
theorem ag25 : aggB Tryd.prog 25 = false := by kernel_rfl
theorem nu25 : notInt Tryd.prog 25 = true := by kernel_rfl
theorem zr25 : (Tryd.prog.info? 25).map (·.zero) = some (some (.nilIface)) := by kernel_rfl
theorem sz38 : (Tryd.prog.info? 38).map (·.size) = some 1 := by kernel_rfl
theorem by38 : (Tryd.prog.info? 38).map (·.bytes) = some 24 := by kernel_rfl
theorem ag38 : aggB Tryd.prog 38 = false := by kernel_rfl
theorem nu38 : notInt Tryd.prog 38 = true := by kernel_rfl
theorem zr38 : (Tryd.prog.info? 38).map (·.zero) = some (some (.slice none 0 0)) := by kernel_rfl
theorem sz40 : (Tryd.prog.info? 40).map (·.size) = some 1 := by kernel_rfl
theorem by40 : (Tryd.prog.info? 40).map (·.bytes) = some 8 := by kernel_rfl
theorem ag40 : aggB Tryd.prog 40 = false := by kernel_rfl
theorem nu40 : notInt Tryd.prog 40 = true := by kernel_rfl
theorem zr40 : (Tryd.prog.info? 40).map (·.zero) = some (some (.pointer none)) := by kernel_rfl
theorem sz43 : (Tryd.prog.info? 43).map (·.size) = some 1 := by kernel_rfl
theorem by43 : (Tryd.prog.info? 43).map (·.bytes) = some 8 := by kernel_rfl
theorem ag43 : aggB Tryd.prog 43 = false := by kernel_rfl
theorem nu43 : notInt Tryd.prog 43 = true := by kernel_rfl
theorem zr43 : (Tryd.prog.info? 43).map (·.zero) = some (some (.pointer none)) := by kernel_rfl
theorem sz44 : (Tryd.prog.info? 44).map (·.size) = some 1 := by kernel_rfl
theorem by44 : (Tryd.prog.info? 44).map (·.bytes) = some 24 := by kernel_rfl
theorem ag44 : aggB Tryd.prog 44 = false := by kernel_rfl
theorem nu44 : notInt Tryd.prog 44 = true := by kernel_rfl
theorem zr44 : (Tryd.prog.info? 44).map (·.zero) = some (some (.slice none 0 0)) := by kernel_rfl
theorem sz45 : (Tryd.prog.info? 45).map (·.size) = some 3 := by kernel_rfl
theorem by45 : (Tryd.prog.info? 45).map (·.bytes) = some 40 := by kernel_rfl
theorem ag45 : aggB Tryd.prog 45 = true := by kernel_rfl
theorem nu45 : notInt Tryd.prog 45 = true := by kernel_rfl
theorem zr45 : (Tryd.prog.info? 45).map (·.zero) = some (some (.agg #[.int .i64 0, .int .i64 0, .slice none 0 0])) := by kernel_rfl
theorem pl45 : plOf Tryd.prog 45 = some [(0, 1), (1, 1), (2, 1)] := by kernel_rfl
theorem sz46 : (Tryd.prog.info? 46).map (·.size) = some 3 := by kernel_rfl
theorem by46 : (Tryd.prog.info? 46).map (·.bytes) = some 40 := by kernel_rfl
theorem ag46 : aggB Tryd.prog 46 = true := by kernel_rfl
theorem nu46 : notInt Tryd.prog 46 = true := by kernel_rfl
theorem zr46 : (Tryd.prog.info? 46).map (·.zero) = some (some (.agg #[.int .i64 0, .int .i64 0, .slice none 0 0])) := by kernel_rfl
theorem pl46 : plOf Tryd.prog 46 = some [(0, 1), (1, 1), (2, 1)] := by kernel_rfl
theorem sz47 : (Tryd.prog.info? 47).map (·.size) = some 3 := by kernel_rfl
theorem by47 : (Tryd.prog.info? 47).map (·.bytes) = some 32 := by kernel_rfl
theorem ag47 : aggB Tryd.prog 47 = true := by kernel_rfl
theorem nu47 : notInt Tryd.prog 47 = true := by kernel_rfl
theorem zr47 : (Tryd.prog.info? 47).map (·.zero) = some (some (.agg #[.int .i64 0, .bool false, .string ByteArray.empty])) := by kernel_rfl
theorem pl47 : plOf Tryd.prog 47 = some [(0, 1), (1, 1), (2, 1)] := by kernel_rfl
theorem sz48 : (Tryd.prog.info? 48).map (·.size) = some 3 := by kernel_rfl
theorem by48 : (Tryd.prog.info? 48).map (·.bytes) = some 32 := by kernel_rfl
theorem ag48 : aggB Tryd.prog 48 = true := by kernel_rfl
theorem nu48 : notInt Tryd.prog 48 = true := by kernel_rfl
theorem zr48 : (Tryd.prog.info? 48).map (·.zero) = some (some (.agg #[.int .i64 0, .bool false, .string ByteArray.empty])) := by kernel_rfl
theorem pl48 : plOf Tryd.prog 48 = some [(0, 1), (1, 1), (2, 1)] := by kernel_rfl
theorem sz62 : (Tryd.prog.info? 62).map (·.size) = some 3 := by kernel_rfl
theorem by62 : (Tryd.prog.info? 62).map (·.bytes) = some 40 := by kernel_rfl
theorem ag62 : aggB Tryd.prog 62 = true := by kernel_rfl
theorem nu62 : notInt Tryd.prog 62 = true := by kernel_rfl
theorem zr62 : (Tryd.prog.info? 62).map (·.zero) = some (some (.agg #[.int .i64 0, .string ByteArray.empty, .string ByteArray.empty])) := by kernel_rfl
theorem pl62 : plOf Tryd.prog 62 = some [(0, 1), (1, 1), (2, 1)] := by kernel_rfl
theorem sz63 : (Tryd.prog.info? 63).map (·.size) = some 3 := by kernel_rfl
theorem by63 : (Tryd.prog.info? 63).map (·.bytes) = some 40 := by kernel_rfl
theorem ag63 : aggB Tryd.prog 63 = true := by kernel_rfl
theorem nu63 : notInt Tryd.prog 63 = true := by kernel_rfl
theorem zr63 : (Tryd.prog.info? 63).map (·.zero) = some (some (.agg #[.int .i64 0, .string ByteArray.empty, .string ByteArray.empty])) := by kernel_rfl
theorem pl63 : plOf Tryd.prog 63 = some [(0, 1), (1, 1), (2, 1)] := by kernel_rfl
theorem sz64 : (Tryd.prog.info? 64).map (·.size) = some 7 := by kernel_rfl
theorem by64 : (Tryd.prog.info? 64).map (·.bytes) = some 96 := by kernel_rfl
theorem ag64 : aggB Tryd.prog 64 = true := by kernel_rfl
theorem nu64 : notInt Tryd.prog 64 = true := by kernel_rfl
theorem zr64 : (Tryd.prog.info? 64).map (·.zero) = some (some (.agg #[.int .i64 0, .string ByteArray.empty, .string ByteArray.empty, .string ByteArray.empty, .int .i64 0, .int .i64 0, .slice none 0 0])) := by kernel_rfl
theorem pl64 : plOf Tryd.prog 64 = some [(0, 3), (3, 1), (4, 1), (5, 1), (6, 1)] := by kernel_rfl
theorem sz65 : (Tryd.prog.info? 65).map (·.size) = some 7 := by kernel_rfl
theorem by65 : (Tryd.prog.info? 65).map (·.bytes) = some 96 := by kernel_rfl
theorem ag65 : aggB Tryd.prog 65 = true := by kernel_rfl
theorem nu65 : notInt Tryd.prog 65 = true := by kernel_rfl
theorem zr65 : (Tryd.prog.info? 65).map (·.zero) = some (some (.agg #[.int .i64 0, .string ByteArray.empty, .string ByteArray.empty, .string ByteArray.empty, .int .i64 0, .int .i64 0, .slice none 0 0])) := by kernel_rfl
theorem pl65 : plOf Tryd.prog 65 = some [(0, 3), (3, 1), (4, 1), (5, 1), (6, 1)] := by kernel_rfl
theorem sz67 : (Tryd.prog.info? 67).map (·.size) = some 1 := by kernel_rfl
theorem by67 : (Tryd.prog.info? 67).map (·.bytes) = some 24 := by kernel_rfl
theorem ag67 : aggB Tryd.prog 67 = false := by kernel_rfl
theorem nu67 : notInt Tryd.prog 67 = true := by kernel_rfl
theorem zr67 : (Tryd.prog.info? 67).map (·.zero) = some (some (.slice none 0 0)) := by kernel_rfl
theorem sz71 : (Tryd.prog.info? 71).map (·.size) = some 1 := by kernel_rfl
theorem by71 : (Tryd.prog.info? 71).map (·.bytes) = some 24 := by kernel_rfl
theorem ag71 : aggB Tryd.prog 71 = false := by kernel_rfl
theorem nu71 : notInt Tryd.prog 71 = true := by kernel_rfl
theorem zr71 : (Tryd.prog.info? 71).map (·.zero) = some (some (.slice none 0 0)) := by kernel_rfl
theorem sz77 : (Tryd.prog.info? 77).map (·.size) = some 4 := by kernel_rfl
theorem by77 : (Tryd.prog.info? 77).map (·.bytes) = some 32 := by kernel_rfl
theorem ag77 : aggB Tryd.prog 77 = true := by kernel_rfl
theorem nu77 : notInt Tryd.prog 77 = true := by kernel_rfl
theorem zr77 : (Tryd.prog.info? 77).map (·.zero) = some (some (.agg #[.int .i64 0, .int .i64 0, .int .i64 0, .int .i64 0])) := by kernel_rfl
theorem pl77 : plOf Tryd.prog 77 = some [(0, 1), (1, 1), (2, 1), (3, 1)] := by kernel_rfl
theorem sz78 : (Tryd.prog.info? 78).map (·.size) = some 4 := by kernel_rfl
theorem by78 : (Tryd.prog.info? 78).map (·.bytes) = some 32 := by kernel_rfl
theorem ag78 : aggB Tryd.prog 78 = true := by kernel_rfl
theorem nu78 : notInt Tryd.prog 78 = true := by kernel_rfl
theorem zr78 : (Tryd.prog.info? 78).map (·.zero) = some (some (.agg #[.int .i64 0, .int .i64 0, .int .i64 0, .int .i64 0])) := by kernel_rfl
theorem pl78 : plOf Tryd.prog 78 = some [(0, 1), (1, 1), (2, 1), (3, 1)] := by kernel_rfl
theorem sz82 : (Tryd.prog.info? 82).map (·.size) = some 1 := by kernel_rfl
theorem by82 : (Tryd.prog.info? 82).map (·.bytes) = some 24 := by kernel_rfl
theorem ag82 : aggB Tryd.prog 82 = false := by kernel_rfl
theorem nu82 : notInt Tryd.prog 82 = true := by kernel_rfl
theorem zr82 : (Tryd.prog.info? 82).map (·.zero) = some (some (.slice none 0 0)) := by kernel_rfl
theorem sz83 : (Tryd.prog.info? 83).map (·.size) = some 2 := by kernel_rfl
theorem by83 : (Tryd.prog.info? 83).map (·.bytes) = some 32 := by kernel_rfl
theorem ag83 : aggB Tryd.prog 83 = true := by kernel_rfl
theorem nu83 : notInt Tryd.prog 83 = true := by kernel_rfl
theorem zr83 : (Tryd.prog.info? 83).map (·.zero) = some (some (.agg #[.string ByteArray.empty, .string ByteArray.empty])) := by kernel_rfl
theorem pl83 : plOf Tryd.prog 83 = some [(0, 1), (1, 1)] := by kernel_rfl
theorem sz84 : (Tryd.prog.info? 84).map (·.size) = some 2 := by kernel_rfl
theorem by84 : (Tryd.prog.info? 84).map (·.bytes) = some 32 := by kernel_rfl
theorem ag84 : aggB Tryd.prog 84 = true := by kernel_rfl
theorem nu84 : notInt Tryd.prog 84 = true := by kernel_rfl
theorem zr84 : (Tryd.prog.info? 84).map (·.zero) = some (some (.agg #[.string ByteArray.empty, .string ByteArray.empty])) := by kernel_rfl
theorem pl84 : plOf Tryd.prog 84 = some [(0, 1), (1, 1)] := by kernel_rfl
theorem sz92 : (Tryd.prog.info? 92).map (·.size) = some 2 := by kernel_rfl
theorem by92 : (Tryd.prog.info? 92).map (·.bytes) = some 32 := by kernel_rfl
theorem ag92 : aggB Tryd.prog 92 = true := by kernel_rfl
theorem nu92 : notInt Tryd.prog 92 = true := by kernel_rfl
theorem zr92 : (Tryd.prog.info? 92).map (·.zero) = some (some (.agg #[.int .i64 0, .slice none 0 0])) := by kernel_rfl
theorem pl92 : plOf Tryd.prog 92 = some [(0, 1), (1, 1)] := by kernel_rfl
theorem sz93 : (Tryd.prog.info? 93).map (·.size) = some 2 := by kernel_rfl
theorem by93 : (Tryd.prog.info? 93).map (·.bytes) = some 32 := by kernel_rfl
theorem ag93 : aggB Tryd.prog 93 = true := by kernel_rfl
theorem nu93 : notInt Tryd.prog 93 = true := by kernel_rfl
theorem zr93 : (Tryd.prog.info? 93).map (·.zero) = some (some (.agg #[.int .i64 0, .slice none 0 0])) := by kernel_rfl
theorem pl93 : plOf Tryd.prog 93 = some [(0, 1), (1, 1)] := by kernel_rfl
theorem sz100 : (Tryd.prog.info? 100).map (·.size) = some 1 := by kernel_rfl
theorem by100 : (Tryd.prog.info? 100).map (·.bytes) = some 24 := by kernel_rfl
theorem ag100 : aggB Tryd.prog 100 = false := by kernel_rfl
theorem nu100 : notInt Tryd.prog 100 = true := by kernel_rfl
theorem zr100 : (Tryd.prog.info? 100).map (·.zero) = some (some (.slice none 0 0)) := by kernel_rfl
theorem sz114 : (Tryd.prog.info? 114).map (·.size) = some 1 := by kernel_rfl
theorem by114 : (Tryd.prog.info? 114).map (·.bytes) = some 2 := by kernel_rfl
theorem ag114 : aggB Tryd.prog 114 = false := by kernel_rfl
theorem zr114 : (Tryd.prog.info? 114).map (·.zero) = some (some (.int .u16 0)) := by kernel_rfl
theorem sz117 : (Tryd.prog.info? 117).map (·.size) = some 1 := by kernel_rfl
theorem by117 : (Tryd.prog.info? 117).map (·.bytes) = some 8 := by kernel_rfl
theorem ag117 : aggB Tryd.prog 117 = false := by kernel_rfl
theorem zr117 : (Tryd.prog.info? 117).map (·.zero) = some (some (.int .u64 0)) := by kernel_rfl
theorem sz118 : (Tryd.prog.info? 118).map (·.size) = some 1 := by kernel_rfl
theorem by118 : (Tryd.prog.info? 118).map (·.bytes) = some 24 := by kernel_rfl
theorem ag118 : aggB Tryd.prog 118 = false := by kernel_rfl
theorem nu118 : notInt Tryd.prog 118 = true := by kernel_rfl
theorem zr118 : (Tryd.prog.info? 118).map (·.zero) = some (some (.slice none 0 0)) := by kernel_rfl
theorem sz121 : (Tryd.prog.info? 121).map (·.size) = some 1 := by kernel_rfl
theorem by121 : (Tryd.prog.info? 121).map (·.bytes) = some 8 := by kernel_rfl
theorem ag121 : aggB Tryd.prog 121 = false := by kernel_rfl
theorem nu121 : notInt Tryd.prog 121 = true := by kernel_rfl
theorem zr121 : (Tryd.prog.info? 121).map (·.zero) = some (some (.pointer none)) := by kernel_rfl
theorem sz125 : (Tryd.prog.info? 125).map (·.size) = some 1 := by kernel_rfl
theorem by125 : (Tryd.prog.info? 125).map (·.bytes) = some 8 := by kernel_rfl
theorem ag125 : aggB Tryd.prog 125 = false := by kernel_rfl
theorem nu125 : notInt Tryd.prog 125 = true := by kernel_rfl
theorem zr125 : (Tryd.prog.info? 125).map (·.zero) = some (some (.chan none)) := by kernel_rfl
theorem sz126 : (Tryd.prog.info? 126).map (·.size) = some 2 := by kernel_rfl
theorem by126 : (Tryd.prog.info? 126).map (·.bytes) = some 16 := by kernel_rfl
theorem ag126 : aggB Tryd.prog 126 = true := by kernel_rfl
theorem nu126 : notInt Tryd.prog 126 = true := by kernel_rfl
theorem zr126 : (Tryd.prog.info? 126).map (·.zero) = some (some (.agg #[.chan none, .int .i64 0])) := by kernel_rfl
theorem pl126 : plOf Tryd.prog 126 = some [(0, 1), (1, 1)] := by kernel_rfl
theorem sz127 : (Tryd.prog.info? 127).map (·.size) = some 2 := by kernel_rfl
theorem by127 : (Tryd.prog.info? 127).map (·.bytes) = some 16 := by kernel_rfl
theorem ag127 : aggB Tryd.prog 127 = true := by kernel_rfl
theorem nu127 : notInt Tryd.prog 127 = true := by kernel_rfl
theorem zr127 : (Tryd.prog.info? 127).map (·.zero) = some (some (.agg #[.chan none, .int .i64 0])) := by kernel_rfl
theorem pl127 : plOf Tryd.prog 127 = some [(0, 1), (1, 1)] := by kernel_rfl
theorem sz129 : (Tryd.prog.info? 129).map (·.size) = some 1 := by kernel_rfl
theorem by129 : (Tryd.prog.info? 129).map (·.bytes) = some 24 := by kernel_rfl
theorem ag129 : aggB Tryd.prog 129 = false := by kernel_rfl
theorem nu129 : notInt Tryd.prog 129 = true := by kernel_rfl
theorem zr129 : (Tryd.prog.info? 129).map (·.zero) = some (some (.slice none 0 0)) := by kernel_rfl
theorem sz133 : (Tryd.prog.info? 133).map (·.size) = some 5 := by kernel_rfl
theorem by133 : (Tryd.prog.info? 133).map (·.bytes) = some 40 := by kernel_rfl
theorem ag133 : aggB Tryd.prog 133 = true := by kernel_rfl
theorem nu133 : notInt Tryd.prog 133 = true := by kernel_rfl
theorem zr133 : (Tryd.prog.info? 133).map (·.zero) = some (some (.agg #[.int .i64 0, .int .i64 0, .bool false, .int .i64 0, .int .i64 0])) := by kernel_rfl
theorem pl133 : plOf Tryd.prog 133 = some [(0, 1), (1, 1), (2, 1), (3, 1), (4, 1)] := by kernel_rfl
theorem sz134 : (Tryd.prog.info? 134).map (·.size) = some 5 := by kernel_rfl
theorem by134 : (Tryd.prog.info? 134).map (·.bytes) = some 40 := by kernel_rfl
theorem ag134 : aggB Tryd.prog 134 = true := by kernel_rfl
theorem nu134 : notInt Tryd.prog 134 = true := by kernel_rfl
theorem zr134 : (Tryd.prog.info? 134).map (·.zero) = some (some (.agg #[.int .i64 0, .int .i64 0, .bool false, .int .i64 0, .int .i64 0])) := by kernel_rfl
theorem pl134 : plOf Tryd.prog 134 = some [(0, 1), (1, 1), (2, 1), (3, 1), (4, 1)] := by kernel_rfl
theorem sz137 : (Tryd.prog.info? 137).map (·.size) = some 1 := by kernel_rfl
theorem by137 : (Tryd.prog.info? 137).map (·.bytes) = some 8 := by kernel_rfl
theorem ag137 : aggB Tryd.prog 137 = false := by kernel_rfl
theorem nu137 : notInt Tryd.prog 137 = true := by kernel_rfl
theorem zr137 : (Tryd.prog.info? 137).map (·.zero) = some (some (.pointer none)) := by kernel_rfl
theorem sz139 : (Tryd.prog.info? 139).map (·.size) = some 2 := by kernel_rfl
theorem by139 : (Tryd.prog.info? 139).map (·.bytes) = some 40 := by kernel_rfl
theorem ag139 : aggB Tryd.prog 139 = true := by kernel_rfl
theorem nu139 : notInt Tryd.prog 139 = true := by kernel_rfl
theorem zr139 : (Tryd.prog.info? 139).map (·.zero) = some (some (.agg #[.slice none 0 0, .nilIface])) := by kernel_rfl
theorem pl139 : plOf Tryd.prog 139 = some [(0, 1), (1, 1)] := by kernel_rfl
theorem sz140 : (Tryd.prog.info? 140).map (·.size) = some 2 := by kernel_rfl
theorem by140 : (Tryd.prog.info? 140).map (·.bytes) = some 40 := by kernel_rfl
theorem ag140 : aggB Tryd.prog 140 = true := by kernel_rfl
theorem nu140 : notInt Tryd.prog 140 = true := by kernel_rfl
theorem zr140 : (Tryd.prog.info? 140).map (·.zero) = some (some (.agg #[.slice none 0 0, .nilIface])) := by kernel_rfl
theorem pl140 : plOf Tryd.prog 140 = some [(0, 1), (1, 1)] := by kernel_rfl
theorem sz146 : (Tryd.prog.info? 146).map (·.size) = some 5 := by kernel_rfl
theorem by146 : (Tryd.prog.info? 146).map (·.bytes) = some 40 := by kernel_rfl
theorem ag146 : aggB Tryd.prog 146 = true := by kernel_rfl
theorem nu146 : notInt Tryd.prog 146 = true := by kernel_rfl
theorem zr146 : (Tryd.prog.info? 146).map (·.zero) = some (some (.agg #[.int .i64 0, .int .i64 0, .bool false, .int .i64 0, .int .i64 0])) := by kernel_rfl
theorem pl146 : plOf Tryd.prog 146 = some [(0, 1), (1, 1), (2, 1), (3, 1), (4, 1)] := by kernel_rfl
theorem sz168 : (Tryd.prog.info? 168).map (·.size) = some 1 := by kernel_rfl
theorem by168 : (Tryd.prog.info? 168).map (·.bytes) = some 8 := by kernel_rfl
theorem ag168 : aggB Tryd.prog 168 = false := by kernel_rfl
theorem nu168 : notInt Tryd.prog 168 = true := by kernel_rfl
theorem zr168 : (Tryd.prog.info? 168).map (·.zero) = some (some (.nilFunc)) := by kernel_rfl
theorem sz172 : (Tryd.prog.info? 172).map (·.size) = some 1 := by kernel_rfl
theorem by172 : (Tryd.prog.info? 172).map (·.bytes) = some 4 := by kernel_rfl
theorem ag172 : aggB Tryd.prog 172 = false := by kernel_rfl
theorem zr172 : (Tryd.prog.info? 172).map (·.zero) = some (some (.int .u32 0)) := by kernel_rfl
theorem sz174 : (Tryd.prog.info? 174).map (·.size) = some 1 := by kernel_rfl
theorem by174 : (Tryd.prog.info? 174).map (·.bytes) = some 8 := by kernel_rfl
theorem ag174 : aggB Tryd.prog 174 = false := by kernel_rfl
theorem zr174 : (Tryd.prog.info? 174).map (·.zero) = some (some (.int .u64 0)) := by kernel_rfl
theorem sz175 : (Tryd.prog.info? 175).map (·.size) = some 1 := by kernel_rfl
theorem by175 : (Tryd.prog.info? 175).map (·.bytes) = some 16 := by kernel_rfl
theorem ag175 : aggB Tryd.prog 175 = false := by kernel_rfl
theorem nu175 : notInt Tryd.prog 175 = true := by kernel_rfl
theorem zr175 : (Tryd.prog.info? 175).map (·.zero) = some (some (.nilIface)) := by kernel_rfl
theorem sz176 : (Tryd.prog.info? 176).map (·.size) = some 1 := by kernel_rfl
theorem by176 : (Tryd.prog.info? 176).map (·.bytes) = some 16 := by kernel_rfl
theorem ag176 : aggB Tryd.prog 176 = false := by kernel_rfl
theorem nu176 : notInt Tryd.prog 176 = true := by kernel_rfl
theorem zr176 : (Tryd.prog.info? 176).map (·.zero) = some (some (.nilIface)) := by kernel_rfl
theorem sz179 : (Tryd.prog.info? 179).map (·.size) = some 1 := by kernel_rfl
theorem by179 : (Tryd.prog.info? 179).map (·.bytes) = some 8 := by kernel_rfl
theorem ag179 : aggB Tryd.prog 179 = false := by kernel_rfl
theorem nu179 : notInt Tryd.prog 179 = true := by kernel_rfl
theorem zr179 : (Tryd.prog.info? 179).map (·.zero) = some (some (.chan none)) := by kernel_rfl
theorem sz180 : (Tryd.prog.info? 180).map (·.size) = some 2 := by kernel_rfl
theorem by180 : (Tryd.prog.info? 180).map (·.bytes) = some 16 := by kernel_rfl
theorem ag180 : aggB Tryd.prog 180 = true := by kernel_rfl
theorem nu180 : notInt Tryd.prog 180 = true := by kernel_rfl
theorem zr180 : (Tryd.prog.info? 180).map (·.zero) = some (some (.agg #[.chan none, .int .i64 0])) := by kernel_rfl
theorem pl180 : plOf Tryd.prog 180 = some [(0, 1), (1, 1)] := by kernel_rfl
theorem sz181 : (Tryd.prog.info? 181).map (·.size) = some 2 := by kernel_rfl
theorem by181 : (Tryd.prog.info? 181).map (·.bytes) = some 16 := by kernel_rfl
theorem ag181 : aggB Tryd.prog 181 = true := by kernel_rfl
theorem nu181 : notInt Tryd.prog 181 = true := by kernel_rfl
theorem zr181 : (Tryd.prog.info? 181).map (·.zero) = some (some (.agg #[.chan none, .int .i64 0])) := by kernel_rfl
theorem pl181 : plOf Tryd.prog 181 = some [(0, 1), (1, 1)] := by kernel_rfl
theorem sz185 : (Tryd.prog.info? 185).map (·.size) = some 256 := by kernel_rfl
theorem by185 : (Tryd.prog.info? 185).map (·.bytes) = some 256 := by kernel_rfl
theorem ag185 : aggB Tryd.prog 185 = true := by kernel_rfl
theorem nu185 : notInt Tryd.prog 185 = true := by kernel_rfl
theorem sz186 : (Tryd.prog.info? 186).map (·.size) = some 2 := by kernel_rfl
theorem by186 : (Tryd.prog.info? 186).map (·.bytes) = some 2 := by kernel_rfl
theorem ag186 : aggB Tryd.prog 186 = true := by kernel_rfl
theorem nu186 : notInt Tryd.prog 186 = true := by kernel_rfl
theorem zr186 : (Tryd.prog.info? 186).map (·.zero) = some (some (.agg #[.int .u8 0, .int .u8 0])) := by kernel_rfl
theorem pl186 : plOf Tryd.prog 186 = some [(0, 1), (1, 1)] := by kernel_rfl
theorem sz187 : (Tryd.prog.info? 187).map (·.size) = some 2 := by kernel_rfl
theorem by187 : (Tryd.prog.info? 187).map (·.bytes) = some 2 := by kernel_rfl
theorem ag187 : aggB Tryd.prog 187 = true := by kernel_rfl
theorem nu187 : notInt Tryd.prog 187 = true := by kernel_rfl
theorem zr187 : (Tryd.prog.info? 187).map (·.zero) = some (some (.agg #[.int .u8 0, .int .u8 0])) := by kernel_rfl
theorem pl187 : plOf Tryd.prog 187 = some [(0, 1), (1, 1)] := by kernel_rfl
theorem sz188 : (Tryd.prog.info? 188).map (·.size) = some 32 := by kernel_rfl
theorem by188 : (Tryd.prog.info? 188).map (·.bytes) = some 32 := by kernel_rfl
theorem ag188 : aggB Tryd.prog 188 = true := by kernel_rfl
theorem nu188 : notInt Tryd.prog 188 = true := by kernel_rfl
theorem zr188 : (Tryd.prog.info? 188).map (·.zero) = some (some (.agg #[.int .u8 0, .int .u8 0, .int .u8 0, .int .u8 0, .int .u8 0, .int .u8 0, .int .u8 0, .int .u8 0, .int .u8 0, .int .u8 0, .int .u8 0, .int .u8 0, .int .u8 0, .int .u8 0, .int .u8 0, .int .u8 0, .int .u8 0, .int .u8 0, .int .u8 0, .int .u8 0, .int .u8 0, .int .u8 0, .int .u8 0, .int .u8 0, .int .u8 0, .int .u8 0, .int .u8 0, .int .u8 0, .int .u8 0, .int .u8 0, .int .u8 0, .int .u8 0])) := by kernel_rfl
theorem sz194 : (Tryd.prog.info? 194).map (·.size) = some 1 := by kernel_rfl
theorem by194 : (Tryd.prog.info? 194).map (·.bytes) = some 24 := by kernel_rfl
theorem ag194 : aggB Tryd.prog 194 = false := by kernel_rfl
theorem nu194 : notInt Tryd.prog 194 = true := by kernel_rfl
theorem zr194 : (Tryd.prog.info? 194).map (·.zero) = some (some (.slice none 0 0)) := by kernel_rfl
theorem sz199 : (Tryd.prog.info? 199).map (·.size) = some 1 := by kernel_rfl
theorem by199 : (Tryd.prog.info? 199).map (·.bytes) = some 8 := by kernel_rfl
theorem ag199 : aggB Tryd.prog 199 = false := by kernel_rfl
theorem nu199 : notInt Tryd.prog 199 = true := by kernel_rfl
theorem zr199 : (Tryd.prog.info? 199).map (·.zero) = some (some (.pointer none)) := by kernel_rfl
theorem sz200 : (Tryd.prog.info? 200).map (·.size) = some 2 := by kernel_rfl
theorem by200 : (Tryd.prog.info? 200).map (·.bytes) = some 32 := by kernel_rfl
theorem ag200 : aggB Tryd.prog 200 = true := by kernel_rfl
theorem nu200 : notInt Tryd.prog 200 = true := by kernel_rfl
theorem zr200 : (Tryd.prog.info? 200).map (·.zero) = some (some (.agg #[.pointer none, .slice none 0 0])) := by kernel_rfl
theorem pl200 : plOf Tryd.prog 200 = some [(0, 1), (1, 1)] := by kernel_rfl
theorem sz201 : (Tryd.prog.info? 201).map (·.size) = some 2 := by kernel_rfl
theorem by201 : (Tryd.prog.info? 201).map (·.bytes) = some 32 := by kernel_rfl
theorem ag201 : aggB Tryd.prog 201 = true := by kernel_rfl
theorem nu201 : notInt Tryd.prog 201 = true := by kernel_rfl
theorem zr201 : (Tryd.prog.info? 201).map (·.zero) = some (some (.agg #[.pointer none, .slice none 0 0])) := by kernel_rfl
theorem pl201 : plOf Tryd.prog 201 = some [(0, 1), (1, 1)] := by kernel_rfl
theorem sz205 : (Tryd.prog.info? 205).map (·.size) = some 1 := by kernel_rfl
theorem by205 : (Tryd.prog.info? 205).map (·.bytes) = some 8 := by kernel_rfl
theorem ag205 : aggB Tryd.prog 205 = true := by kernel_rfl
theorem nu205 : notInt Tryd.prog 205 = true := by kernel_rfl
theorem zr205 : (Tryd.prog.info? 205).map (·.zero) = some (some (.agg #[.pointer none])) := by kernel_rfl
theorem pl205 : plOf Tryd.prog 205 = some [(0, 1)] := by kernel_rfl
theorem sz206 : (Tryd.prog.info? 206).map (·.size) = some 1 := by kernel_rfl
theorem by206 : (Tryd.prog.info? 206).map (·.bytes) = some 8 := by kernel_rfl
theorem ag206 : aggB Tryd.prog 206 = true := by kernel_rfl
theorem nu206 : notInt Tryd.prog 206 = true := by kernel_rfl
theorem zr206 : (Tryd.prog.info? 206).map (·.zero) = some (some (.agg #[.pointer none])) := by kernel_rfl
theorem pl206 : plOf Tryd.prog 206 = some [(0, 1)] := by kernel_rfl
theorem sz207 : (Tryd.prog.info? 207).map (·.size) = some 1 := by kernel_rfl
theorem by207 : (Tryd.prog.info? 207).map (·.bytes) = some 8 := by kernel_rfl
theorem ag207 : aggB Tryd.prog 207 = false := by kernel_rfl
theorem nu207 : notInt Tryd.prog 207 = true := by kernel_rfl
theorem zr207 : (Tryd.prog.info? 207).map (·.zero) = some (some (.pointer none)) := by kernel_rfl
theorem sz208 : (Tryd.prog.info? 208).map (·.size) = some 1 := by kernel_rfl
theorem by208 : (Tryd.prog.info? 208).map (·.bytes) = some 16 := by kernel_rfl
theorem ag208 : aggB Tryd.prog 208 = false := by kernel_rfl
theorem nu208 : notInt Tryd.prog 208 = true := by kernel_rfl
theorem zr208 : (Tryd.prog.info? 208).map (·.zero) = some (some (.nilIface)) := by kernel_rfl
theorem sz211 : (Tryd.prog.info? 211).map (·.size) = some 1 := by kernel_rfl
theorem by211 : (Tryd.prog.info? 211).map (·.bytes) = some 16 := by kernel_rfl
theorem ag211 : aggB Tryd.prog 211 = false := by kernel_rfl
theorem nu211 : notInt Tryd.prog 211 = true := by kernel_rfl
theorem zr211 : (Tryd.prog.info? 211).map (·.zero) = some (some (.nilIface)) := by kernel_rfl
theorem sz213 : (Tryd.prog.info? 213).map (·.size) = some 1 := by kernel_rfl
theorem by213 : (Tryd.prog.info? 213).map (·.bytes) = some 16 := by kernel_rfl
theorem ag213 : aggB Tryd.prog 213 = false := by kernel_rfl
theorem nu213 : notInt Tryd.prog 213 = true := by kernel_rfl
theorem zr213 : (Tryd.prog.info? 213).map (·.zero) = some (some (.nilIface)) := by kernel_rfl
theorem sz222 : (Tryd.prog.info? 222).map (·.size) = some 1 := by kernel_rfl
theorem by222 : (Tryd.prog.info? 222).map (·.bytes) = some 8 := by kernel_rfl
theorem ag222 : aggB Tryd.prog 222 = false := by kernel_rfl
theorem nu222 : notInt Tryd.prog 222 = true := by kernel_rfl
theorem zr222 : (Tryd.prog.info? 222).map (·.zero) = some (some (.pointer none)) := by kernel_rfl
theorem sz227 : (Tryd.prog.info? 227).map (·.size) = some 1 := by kernel_rfl
theorem by227 : (Tryd.prog.info? 227).map (·.bytes) = some 8 := by kernel_rfl
theorem ag227 : aggB Tryd.prog 227 = false := by kernel_rfl
theorem nu227 : notInt Tryd.prog 227 = true := by kernel_rfl
theorem zr227 : (Tryd.prog.info? 227).map (·.zero) = some (some (.pointer none)) := by kernel_rfl
theorem sz233 : (Tryd.prog.info? 233).map (·.size) = some 1 := by kernel_rfl
theorem by233 : (Tryd.prog.info? 233).map (·.bytes) = some 8 := by kernel_rfl
theorem ag233 : aggB Tryd.prog 233 = false := by kernel_rfl
theorem nu233 : notInt Tryd.prog 233 = true := by kernel_rfl
theorem zr233 : (Tryd.prog.info? 233).map (·.zero) = some (some (.pointer none)) := by kernel_rfl
theorem sz234 : (Tryd.prog.info? 234).map (·.size) = some 4 := by kernel_rfl
theorem by234 : (Tryd.prog.info? 234).map (·.bytes) = some 40 := by kernel_rfl
theorem ag234 : aggB Tryd.prog 234 = true := by kernel_rfl
theorem nu234 : notInt Tryd.prog 234 = true := by kernel_rfl
theorem zr234 : (Tryd.prog.info? 234).map (·.zero) = some (some (.agg #[.pointer none, .pointer none, .pointer none, .string ByteArray.empty])) := by kernel_rfl
theorem pl234 : plOf Tryd.prog 234 = some [(0, 1), (1, 1), (2, 1), (3, 1)] := by kernel_rfl
theorem sz235 : (Tryd.prog.info? 235).map (·.size) = some 4 := by kernel_rfl
theorem by235 : (Tryd.prog.info? 235).map (·.bytes) = some 40 := by kernel_rfl
theorem ag235 : aggB Tryd.prog 235 = true := by kernel_rfl
theorem nu235 : notInt Tryd.prog 235 = true := by kernel_rfl
theorem zr235 : (Tryd.prog.info? 235).map (·.zero) = some (some (.agg #[.pointer none, .pointer none, .pointer none, .string ByteArray.empty])) := by kernel_rfl
theorem pl235 : plOf Tryd.prog 235 = some [(0, 1), (1, 1), (2, 1), (3, 1)] := by kernel_rfl
theorem sz236 : (Tryd.prog.info? 236).map (·.size) = some 0 := by kernel_rfl
theorem by236 : (Tryd.prog.info? 236).map (·.bytes) = some 0 := by kernel_rfl
theorem ag236 : aggB Tryd.prog 236 = true := by kernel_rfl
theorem nu236 : notInt Tryd.prog 236 = true := by kernel_rfl
theorem zr236 : (Tryd.prog.info? 236).map (·.zero) = some (some (.agg #[])) := by kernel_rfl
theorem sz237 : (Tryd.prog.info? 237).map (·.size) = some 0 := by kernel_rfl
theorem by237 : (Tryd.prog.info? 237).map (·.bytes) = some 0 := by kernel_rfl
theorem ag237 : aggB Tryd.prog 237 = true := by kernel_rfl
theorem nu237 : notInt Tryd.prog 237 = true := by kernel_rfl
theorem zr237 : (Tryd.prog.info? 237).map (·.zero) = some (some (.agg #[])) := by kernel_rfl
theorem pl237 : plOf Tryd.prog 237 = some [(0, 0)] := by kernel_rfl
theorem sz238 : (Tryd.prog.info? 238).map (·.size) = some 0 := by kernel_rfl
theorem by238 : (Tryd.prog.info? 238).map (·.bytes) = some 0 := by kernel_rfl
theorem ag238 : aggB Tryd.prog 238 = true := by kernel_rfl
theorem nu238 : notInt Tryd.prog 238 = true := by kernel_rfl
theorem zr238 : (Tryd.prog.info? 238).map (·.zero) = some (some (.agg #[])) := by kernel_rfl
theorem pl238 : plOf Tryd.prog 238 = some [(0, 0)] := by kernel_rfl
theorem sz239 : (Tryd.prog.info? 239).map (·.size) = some 1 := by kernel_rfl
theorem by239 : (Tryd.prog.info? 239).map (·.bytes) = some 1 := by kernel_rfl
theorem ag239 : aggB Tryd.prog 239 = false := by kernel_rfl
theorem zr239 : (Tryd.prog.info? 239).map (·.zero) = some (some (.int .u8 0)) := by kernel_rfl
theorem sz240 : (Tryd.prog.info? 240).map (·.size) = some 1 := by kernel_rfl
theorem by240 : (Tryd.prog.info? 240).map (·.bytes) = some 1 := by kernel_rfl
theorem ag240 : aggB Tryd.prog 240 = false := by kernel_rfl
theorem zr240 : (Tryd.prog.info? 240).map (·.zero) = some (some (.int .u8 0)) := by kernel_rfl
theorem sz242 : (Tryd.prog.info? 242).map (·.size) = some 1 := by kernel_rfl
theorem by242 : (Tryd.prog.info? 242).map (·.bytes) = some 4 := by kernel_rfl
theorem ag242 : aggB Tryd.prog 242 = false := by kernel_rfl
theorem zr242 : (Tryd.prog.info? 242).map (·.zero) = some (some (.int .i32 0)) := by kernel_rfl
theorem sz243 : (Tryd.prog.info? 243).map (·.size) = some 1 := by kernel_rfl
theorem by243 : (Tryd.prog.info? 243).map (·.bytes) = some 4 := by kernel_rfl
theorem ag243 : aggB Tryd.prog 243 = false := by kernel_rfl
theorem zr243 : (Tryd.prog.info? 243).map (·.zero) = some (some (.int .i32 0)) := by kernel_rfl
theorem sz244 : (Tryd.prog.info? 244).map (·.size) = some 11 := by kernel_rfl
theorem by244 : (Tryd.prog.info? 244).map (·.bytes) = some 48 := by kernel_rfl
theorem ag244 : aggB Tryd.prog 244 = true := by kernel_rfl
theorem nu244 : notInt Tryd.prog 244 = true := by kernel_rfl
theorem zr244 : (Tryd.prog.info? 244).map (·.zero) = some (some (.agg #[.int .u64 0, .int .u64 0, .int .u32 0, .int .u8 0, .int .u8 0, .int .u8 0, .int .u8 0, .nilFunc, .pointer none, .int .i32 0, .int .i32 0])) := by kernel_rfl
theorem pl244 : plOf Tryd.prog 244 = some [(0, 1), (1, 1), (2, 1), (3, 1), (4, 1), (5, 1), (6, 1), (7, 1), (8, 1), (9, 1), (10, 1)] := by kernel_rfl
theorem sz245 : (Tryd.prog.info? 245).map (·.size) = some 11 := by kernel_rfl
theorem by245 : (Tryd.prog.info? 245).map (·.bytes) = some 48 := by kernel_rfl
theorem ag245 : aggB Tryd.prog 245 = true := by kernel_rfl
theorem nu245 : notInt Tryd.prog 245 = true := by kernel_rfl
theorem zr245 : (Tryd.prog.info? 245).map (·.zero) = some (some (.agg #[.int .u64 0, .int .u64 0, .int .u32 0, .int .u8 0, .int .u8 0, .int .u8 0, .int .u8 0, .nilFunc, .pointer none, .int .i32 0, .int .i32 0])) := by kernel_rfl
theorem pl245 : plOf Tryd.prog 245 = some [(0, 1), (1, 1), (2, 1), (3, 1), (4, 1), (5, 1), (6, 1), (7, 1), (8, 1), (9, 1), (10, 1)] := by kernel_rfl
theorem sz254 : (Tryd.prog.info? 254).map (·.size) = some 2 := by kernel_rfl
theorem by254 : (Tryd.prog.info? 254).map (·.bytes) = some 24 := by kernel_rfl
theorem ag254 : aggB Tryd.prog 254 = true := by kernel_rfl
theorem nu254 : notInt Tryd.prog 254 = true := by kernel_rfl
theorem zr254 : (Tryd.prog.info? 254).map (·.zero) = some (some (.agg #[.string ByteArray.empty, .int .u8 0])) := by kernel_rfl
theorem pl254 : plOf Tryd.prog 254 = some [(0, 1), (1, 1)] := by kernel_rfl
theorem sz255 : (Tryd.prog.info? 255).map (·.size) = some 2 := by kernel_rfl
theorem by255 : (Tryd.prog.info? 255).map (·.bytes) = some 24 := by kernel_rfl
theorem ag255 : aggB Tryd.prog 255 = true := by kernel_rfl
theorem nu255 : notInt Tryd.prog 255 = true := by kernel_rfl
theorem zr255 : (Tryd.prog.info? 255).map (·.zero) = some (some (.agg #[.string ByteArray.empty, .int .u8 0])) := by kernel_rfl
theorem pl255 : plOf Tryd.prog 255 = some [(0, 1), (1, 1)] := by kernel_rfl
theorem sz256 : (Tryd.prog.info? 256).map (·.size) = some 1 := by kernel_rfl
theorem by256 : (Tryd.prog.info? 256).map (·.bytes) = some 16 := by kernel_rfl
theorem ag256 : aggB Tryd.prog 256 = true := by kernel_rfl
theorem nu256 : notInt Tryd.prog 256 = true := by kernel_rfl
theorem zr256 : (Tryd.prog.info? 256).map (·.zero) = some (some (.agg #[.string ByteArray.empty])) := by kernel_rfl
theorem pl256 : plOf Tryd.prog 256 = some [(0, 1)] := by kernel_rfl
theorem sz257 : (Tryd.prog.info? 257).map (·.size) = some 1 := by kernel_rfl
theorem by257 : (Tryd.prog.info? 257).map (·.bytes) = some 16 := by kernel_rfl
theorem ag257 : aggB Tryd.prog 257 = true := by kernel_rfl
theorem nu257 : notInt Tryd.prog 257 = true := by kernel_rfl
theorem zr257 : (Tryd.prog.info? 257).map (·.zero) = some (some (.agg #[.string ByteArray.empty])) := by kernel_rfl
theorem pl257 : plOf Tryd.prog 257 = some [(0, 1)] := by kernel_rfl
theorem sz258 : (Tryd.prog.info? 258).map (·.size) = some 1 := by kernel_rfl
theorem by258 : (Tryd.prog.info? 258).map (·.bytes) = some 8 := by kernel_rfl
theorem ag258 : aggB Tryd.prog 258 = false := by kernel_rfl
theorem nu258 : notInt Tryd.prog 258 = true := by kernel_rfl
theorem zr258 : (Tryd.prog.info? 258).map (·.zero) = some (some (.pointer none)) := by kernel_rfl
theorem sz260 : (Tryd.prog.info? 260).map (·.size) = some 5 := by kernel_rfl
theorem by260 : (Tryd.prog.info? 260).map (·.bytes) = some 16 := by kernel_rfl
theorem ag260 : aggB Tryd.prog 260 = true := by kernel_rfl
theorem nu260 : notInt Tryd.prog 260 = true := by kernel_rfl
theorem zr260 : (Tryd.prog.info? 260).map (·.zero) = some (some (.agg #[.int .i32 0, .int .u16 0, .int .u16 0, .int .u32 0, .int .u32 0])) := by kernel_rfl
theorem pl260 : plOf Tryd.prog 260 = some [(0, 1), (1, 1), (2, 1), (3, 1), (4, 1)] := by kernel_rfl
theorem sz261 : (Tryd.prog.info? 261).map (·.size) = some 5 := by kernel_rfl
theorem by261 : (Tryd.prog.info? 261).map (·.bytes) = some 16 := by kernel_rfl
theorem ag261 : aggB Tryd.prog 261 = true := by kernel_rfl
theorem nu261 : notInt Tryd.prog 261 = true := by kernel_rfl
theorem zr261 : (Tryd.prog.info? 261).map (·.zero) = some (some (.agg #[.int .i32 0, .int .u16 0, .int .u16 0, .int .u32 0, .int .u32 0])) := by kernel_rfl
theorem pl261 : plOf Tryd.prog 261 = some [(0, 1), (1, 1), (2, 1), (3, 1), (4, 1)] := by kernel_rfl
theorem sz262 : (Tryd.prog.info? 262).map (·.size) = some 1 := by kernel_rfl
theorem by262 : (Tryd.prog.info? 262).map (·.bytes) = some 24 := by kernel_rfl
theorem ag262 : aggB Tryd.prog 262 = false := by kernel_rfl
theorem nu262 : notInt Tryd.prog 262 = true := by kernel_rfl
theorem zr262 : (Tryd.prog.info? 262).map (·.zero) = some (some (.slice none 0 0)) := by kernel_rfl
theorem sz263 : (Tryd.prog.info? 263).map (·.size) = some 1 := by kernel_rfl
theorem by263 : (Tryd.prog.info? 263).map (·.bytes) = some 4 := by kernel_rfl
theorem ag263 : aggB Tryd.prog 263 = false := by kernel_rfl
theorem zr263 : (Tryd.prog.info? 263).map (·.zero) = some (some (.int .i32 0)) := by kernel_rfl
theorem sz264 : (Tryd.prog.info? 264).map (·.size) = some 4 := by kernel_rfl
theorem by264 : (Tryd.prog.info? 264).map (·.bytes) = some 16 := by kernel_rfl
theorem ag264 : aggB Tryd.prog 264 = true := by kernel_rfl
theorem nu264 : notInt Tryd.prog 264 = true := by kernel_rfl
theorem zr264 : (Tryd.prog.info? 264).map (·.zero) = some (some (.agg #[.int .i32 0, .int .i32 0, .int .i32 0, .int .i32 0])) := by kernel_rfl
theorem pl264 : plOf Tryd.prog 264 = some [(0, 1), (1, 1), (2, 1), (3, 1)] := by kernel_rfl
theorem sz265 : (Tryd.prog.info? 265).map (·.size) = some 4 := by kernel_rfl
theorem by265 : (Tryd.prog.info? 265).map (·.bytes) = some 16 := by kernel_rfl
theorem ag265 : aggB Tryd.prog 265 = true := by kernel_rfl
theorem nu265 : notInt Tryd.prog 265 = true := by kernel_rfl
theorem zr265 : (Tryd.prog.info? 265).map (·.zero) = some (some (.agg #[.int .i32 0, .int .i32 0, .int .i32 0, .int .i32 0])) := by kernel_rfl
theorem pl265 : plOf Tryd.prog 265 = some [(0, 1), (1, 1), (2, 1), (3, 1)] := by kernel_rfl
end Am
end Go.Proofs.YtndbjkapdmpbbaaDoor
