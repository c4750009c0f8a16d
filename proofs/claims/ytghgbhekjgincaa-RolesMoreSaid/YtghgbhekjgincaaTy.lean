/- Facts on the types of this seat, by program. -/
import Derived.Test.YtghgbhekjgincaaAm9
namespace Go.Proofs.Ytghgbhekjgincaa
namespace Am
set_option maxRecDepth 100000
theorem sz2 : (Try.prog.info? 2).map (·.size) = some 1 := by kernel_rfl
theorem by2 : (Try.prog.info? 2).map (·.bytes) = some 8 := by kernel_rfl
theorem ag2 : aggB Try.prog 2 = false := by kernel_rfl
theorem zr2 : (Try.prog.info? 2).map (·.zero) = some (some (.int .i64 0)) := by kernel_rfl
theorem sz3 : (Try.prog.info? 3).map (·.size) = some 1 := by kernel_rfl
theorem by3 : (Try.prog.info? 3).map (·.bytes) = some 8 := by kernel_rfl
theorem ag3 : aggB Try.prog 3 = false := by kernel_rfl
theorem zr3 : (Try.prog.info? 3).map (·.zero) = some (some (.int .i64 0)) := by kernel_rfl
theorem sz4 : (Try.prog.info? 4).map (·.size) = some 1 := by kernel_rfl
theorem by4 : (Try.prog.info? 4).map (·.bytes) = some 1 := by kernel_rfl
theorem ag4 : aggB Try.prog 4 = false := by kernel_rfl
theorem nu4 : notInt Try.prog 4 = true := by kernel_rfl
theorem zr4 : (Try.prog.info? 4).map (·.zero) = some (some (.bool false)) := by kernel_rfl
theorem sz5 : (Try.prog.info? 5).map (·.size) = some 1 := by kernel_rfl
theorem by5 : (Try.prog.info? 5).map (·.bytes) = some 1 := by kernel_rfl
theorem ag5 : aggB Try.prog 5 = false := by kernel_rfl
theorem zr5 : (Try.prog.info? 5).map (·.zero) = some (some (.int .u8 0)) := by kernel_rfl
theorem sz6 : (Try.prog.info? 6).map (·.size) = some 1 := by kernel_rfl
theorem by6 : (Try.prog.info? 6).map (·.bytes) = some 1 := by kernel_rfl
theorem ag6 : aggB Try.prog 6 = false := by kernel_rfl
theorem zr6 : (Try.prog.info? 6).map (·.zero) = some (some (.int .u8 0)) := by kernel_rfl
theorem sz7 : (Try.prog.info? 7).map (·.size) = some 4 := by kernel_rfl
theorem by7 : (Try.prog.info? 7).map (·.bytes) = some 24 := by kernel_rfl
theorem ag7 : aggB Try.prog 7 = true := by kernel_rfl
theorem nu7 : notInt Try.prog 7 = true := by kernel_rfl
theorem zr7 : (Try.prog.info? 7).map (·.zero) = some (some (.agg #[.int .i64 0, .int .i64 0, .bool false, .int .u8 0])) := by kernel_rfl
theorem pl7 : plOf Try.prog 7 = some [(0, 1), (1, 1), (2, 1), (3, 1)] := by kernel_rfl
theorem sz8 : (Try.prog.info? 8).map (·.size) = some 4 := by kernel_rfl
theorem by8 : (Try.prog.info? 8).map (·.bytes) = some 24 := by kernel_rfl
theorem ag8 : aggB Try.prog 8 = true := by kernel_rfl
theorem nu8 : notInt Try.prog 8 = true := by kernel_rfl
theorem zr8 : (Try.prog.info? 8).map (·.zero) = some (some (.agg #[.int .i64 0, .int .i64 0, .bool false, .int .u8 0])) := by kernel_rfl
theorem pl8 : plOf Try.prog 8 = some [(0, 1), (1, 1), (2, 1), (3, 1)] := by kernel_rfl
theorem sz9 : (Try.prog.info? 9).map (·.size) = some 1 := by kernel_rfl
theorem by9 : (Try.prog.info? 9).map (·.bytes) = some 16 := by kernel_rfl
theorem ag9 : aggB Try.prog 9 = false := by kernel_rfl
theorem nu9 : notInt Try.prog 9 = true := by kernel_rfl
theorem zr9 : (Try.prog.info? 9).map (·.zero) = some (some (.string ByteArray.empty)) := by kernel_rfl
theorem sz10 : (Try.prog.info? 10).map (·.size) = some 1 := by kernel_rfl
theorem by10 : (Try.prog.info? 10).map (·.bytes) = some 16 := by kernel_rfl
theorem ag10 : aggB Try.prog 10 = false := by kernel_rfl
theorem nu10 : notInt Try.prog 10 = true := by kernel_rfl
theorem zr10 : (Try.prog.info? 10).map (·.zero) = some (some (.string ByteArray.empty)) := by kernel_rfl
theorem sz11 : (Try.prog.info? 11).map (·.size) = some 1 := by kernel_rfl
theorem by11 : (Try.prog.info? 11).map (·.bytes) = some 16 := by kernel_rfl
theorem ag11 : aggB Try.prog 11 = false := by kernel_rfl
theorem nu11 : notInt Try.prog 11 = true := by kernel_rfl
theorem zr11 : (Try.prog.info? 11).map (·.zero) = some (some (.string ByteArray.empty)) := by kernel_rfl
theorem sz12 : (Try.prog.info? 12).map (·.size) = some 1 := by kernel_rfl
theorem by12 : (Try.prog.info? 12).map (·.bytes) = some 8 := by kernel_rfl
theorem ag12 : aggB Try.prog 12 = false := by kernel_rfl
theorem zr12 : (Try.prog.info? 12).map (·.zero) = some (some (.int .u64 0)) := by kernel_rfl
theorem sz13 : (Try.prog.info? 13).map (·.size) = some 2 := by kernel_rfl
theorem by13 : (Try.prog.info? 13).map (·.bytes) = some 24 := by kernel_rfl
theorem ag13 : aggB Try.prog 13 = true := by kernel_rfl
theorem nu13 : notInt Try.prog 13 = true := by kernel_rfl
theorem zr13 : (Try.prog.info? 13).map (·.zero) = some (some (.agg #[.string ByteArray.empty, .int .u64 0])) := by kernel_rfl
theorem pl13 : plOf Try.prog 13 = some [(0, 1), (1, 1)] := by kernel_rfl
theorem sz14 : (Try.prog.info? 14).map (·.size) = some 2 := by kernel_rfl
theorem by14 : (Try.prog.info? 14).map (·.bytes) = some 24 := by kernel_rfl
theorem ag14 : aggB Try.prog 14 = true := by kernel_rfl
theorem nu14 : notInt Try.prog 14 = true := by kernel_rfl
theorem zr14 : (Try.prog.info? 14).map (·.zero) = some (some (.agg #[.string ByteArray.empty, .int .u64 0])) := by kernel_rfl
theorem pl14 : plOf Try.prog 14 = some [(0, 1), (1, 1)] := by kernel_rfl
theorem sz15 : (Try.prog.info? 15).map (·.size) = some 1 := by kernel_rfl
theorem by15 : (Try.prog.info? 15).map (·.bytes) = some 8 := by kernel_rfl
theorem ag15 : aggB Try.prog 15 = false := by kernel_rfl
theorem nu15 : notInt Try.prog 15 = true := by kernel_rfl
theorem zr15 : (Try.prog.info? 15).map (·.zero) = some (some (.pointer none)) := by kernel_rfl
theorem sz16 : (Try.prog.info? 16).map (·.size) = some 1 := by kernel_rfl
theorem by16 : (Try.prog.info? 16).map (·.bytes) = some 8 := by kernel_rfl
theorem ag16 : aggB Try.prog 16 = false := by kernel_rfl
theorem nu16 : notInt Try.prog 16 = true := by kernel_rfl
theorem zr16 : (Try.prog.info? 16).map (·.zero) = some (some (.pointer none)) := by kernel_rfl
theorem sz17 : (Try.prog.info? 17).map (·.size) = some 1 := by kernel_rfl
theorem by17 : (Try.prog.info? 17).map (·.bytes) = some 8 := by kernel_rfl
theorem ag17 : aggB Try.prog 17 = false := by kernel_rfl
theorem nu17 : notInt Try.prog 17 = true := by kernel_rfl
theorem zr17 : (Try.prog.info? 17).map (·.zero) = some (some (.pointer none)) := by kernel_rfl
theorem sz18 : (Try.prog.info? 18).map (·.size) = some 1 := by kernel_rfl
theorem by18 : (Try.prog.info? 18).map (·.bytes) = some 8 := by kernel_rfl
theorem ag18 : aggB Try.prog 18 = true := by kernel_rfl
theorem nu18 : notInt Try.prog 18 = true := by kernel_rfl
theorem zr18 : (Try.prog.info? 18).map (·.zero) = some (some (.agg #[.pointer none])) := by kernel_rfl
theorem pl18 : plOf Try.prog 18 = some [(0, 1)] := by kernel_rfl
theorem sz19 : (Try.prog.info? 19).map (·.size) = some 1 := by kernel_rfl
theorem by19 : (Try.prog.info? 19).map (·.bytes) = some 8 := by kernel_rfl
theorem ag19 : aggB Try.prog 19 = true := by kernel_rfl
theorem nu19 : notInt Try.prog 19 = true := by kernel_rfl
theorem zr19 : (Try.prog.info? 19).map (·.zero) = some (some (.agg #[.pointer none])) := by kernel_rfl
theorem pl19 : plOf Try.prog 19 = some [(0, 1)] := by kernel_rfl
theorem sz20 : (Try.prog.info? 20).map (·.size) = some 1 := by kernel_rfl
theorem by20 : (Try.prog.info? 20).map (·.bytes) = some 16 := by kernel_rfl
theorem ag20 : aggB Try.prog 20 = false := by kernel_rfl
theorem nu20 : notInt Try.prog 20 = true := by kernel_rfl
theorem zr20 : (Try.prog.info? 20).map (·.zero) = some (some (.nilIface)) := by kernel_rfl
theorem sz21 : (Try.prog.info? 21).map (·.size) = some 1 := by kernel_rfl
theorem by21 : (Try.prog.info? 21).map (·.bytes) = some 4 := by kernel_rfl
theorem ag21 : aggB Try.prog 21 = false := by kernel_rfl
theorem zr21 : (Try.prog.info? 21).map (·.zero) = some (some (.int .i32 0)) := by kernel_rfl
theorem sz22 : (Try.prog.info? 22).map (·.size) = some 1 := by kernel_rfl
theorem by22 : (Try.prog.info? 22).map (·.bytes) = some 24 := by kernel_rfl
theorem ag22 : aggB Try.prog 22 = false := by kernel_rfl
theorem nu22 : notInt Try.prog 22 = true := by kernel_rfl
theorem zr22 : (Try.prog.info? 22).map (·.zero) = some (some (.slice none 0 0)) := by kernel_rfl
theorem sz23 : (Try.prog.info? 23).map (·.size) = some 5 := by kernel_rfl
theorem by23 : (Try.prog.info? 23).map (·.bytes) = some 56 := by kernel_rfl
theorem ag23 : aggB Try.prog 23 = true := by kernel_rfl
theorem nu23 : notInt Try.prog 23 = true := by kernel_rfl
theorem zr23 : (Try.prog.info? 23).map (·.zero) = some (some (.agg #[.int .i64 0, .int .i64 0, .int .i64 0, .string ByteArray.empty, .string ByteArray.empty])) := by kernel_rfl
theorem pl23 : plOf Try.prog 23 = some [(0, 1), (1, 1), (2, 1), (3, 1), (4, 1)] := by kernel_rfl
theorem sz24 : (Try.prog.info? 24).map (·.size) = some 5 := by kernel_rfl
theorem by24 : (Try.prog.info? 24).map (·.bytes) = some 56 := by kernel_rfl
theorem ag24 : aggB Try.prog 24 = true := by kernel_rfl
theorem nu24 : notInt Try.prog 24 = true := by kernel_rfl
theorem zr24 : (Try.prog.info? 24).map (·.zero) = some (some (.agg #[.int .i64 0, .int .i64 0, .int .i64 0, .string ByteArray.empty, .string ByteArray.empty])) := by kernel_rfl
theorem pl24 : plOf Try.prog 24 = some [(0, 1), (1, 1), (2, 1), (3, 1), (4, 1)] := by kernel_rfl
theorem sz25 : (Try.prog.info? 25).map (·.size) = some 3 := by kernel_rfl
theorem by25 : (Try.prog.info? 25).map (·.bytes) = some 40 := by kernel_rfl
theorem ag25 : aggB Try.prog 25 = true := by kernel_rfl
theorem nu25 : notInt Try.prog 25 = true := by kernel_rfl
theorem zr25 : (Try.prog.info? 25).map (·.zero) = some (some (.agg #[.int .i64 0, .string ByteArray.empty, .string ByteArray.empty])) := by kernel_rfl
theorem pl25 : plOf Try.prog 25 = some [(0, 1), (1, 1), (2, 1)] := by kernel_rfl
theorem sz26 : (Try.prog.info? 26).map (·.size) = some 3 := by kernel_rfl
theorem by26 : (Try.prog.info? 26).map (·.bytes) = some 40 := by kernel_rfl
theorem ag26 : aggB Try.prog 26 = true := by kernel_rfl
theorem nu26 : notInt Try.prog 26 = true := by kernel_rfl
theorem zr26 : (Try.prog.info? 26).map (·.zero) = some (some (.agg #[.int .i64 0, .string ByteArray.empty, .string ByteArray.empty])) := by kernel_rfl
theorem pl26 : plOf Try.prog 26 = some [(0, 1), (1, 1), (2, 1)] := by kernel_rfl
theorem sz27 : (Try.prog.info? 27).map (·.size) = some 6 := by kernel_rfl
theorem by27 : (Try.prog.info? 27).map (·.bytes) = some 72 := by kernel_rfl
theorem ag27 : aggB Try.prog 27 = true := by kernel_rfl
theorem nu27 : notInt Try.prog 27 = true := by kernel_rfl
theorem zr27 : (Try.prog.info? 27).map (·.zero) = some (some (.agg #[.int .i64 0, .string ByteArray.empty, .string ByteArray.empty, .int .i64 0, .int .i64 0, .string ByteArray.empty])) := by kernel_rfl
theorem pl27 : plOf Try.prog 27 = some [(0, 3), (3, 1), (4, 1), (5, 1)] := by kernel_rfl
theorem sz28 : (Try.prog.info? 28).map (·.size) = some 6 := by kernel_rfl
theorem by28 : (Try.prog.info? 28).map (·.bytes) = some 72 := by kernel_rfl
theorem ag28 : aggB Try.prog 28 = true := by kernel_rfl
theorem nu28 : notInt Try.prog 28 = true := by kernel_rfl
theorem zr28 : (Try.prog.info? 28).map (·.zero) = some (some (.agg #[.int .i64 0, .string ByteArray.empty, .string ByteArray.empty, .int .i64 0, .int .i64 0, .string ByteArray.empty])) := by kernel_rfl
theorem pl28 : plOf Try.prog 28 = some [(0, 3), (3, 1), (4, 1), (5, 1)] := by kernel_rfl
theorem sz41 : (Try.prog.info? 41).map (·.size) = some 1 := by kernel_rfl
theorem by41 : (Try.prog.info? 41).map (·.bytes) = some 24 := by kernel_rfl
theorem ag41 : aggB Try.prog 41 = false := by kernel_rfl
theorem nu41 : notInt Try.prog 41 = true := by kernel_rfl
theorem zr41 : (Try.prog.info? 41).map (·.zero) = some (some (.slice none 0 0)) := by kernel_rfl
theorem sz50 : (Try.prog.info? 50).map (·.size) = some 1 := by kernel_rfl
theorem by50 : (Try.prog.info? 50).map (·.bytes) = some 24 := by kernel_rfl
theorem ag50 : aggB Try.prog 50 = false := by kernel_rfl
theorem nu50 : notInt Try.prog 50 = true := by kernel_rfl
theorem zr50 : (Try.prog.info? 50).map (·.zero) = some (some (.slice none 0 0)) := by kernel_rfl
theorem sz54 : (Try.prog.info? 54).map (·.size) = some 4 := by kernel_rfl
theorem by54 : (Try.prog.info? 54).map (·.bytes) = some 40 := by kernel_rfl
theorem ag54 : aggB Try.prog 54 = true := by kernel_rfl
theorem nu54 : notInt Try.prog 54 = true := by kernel_rfl
theorem zr54 : (Try.prog.info? 54).map (·.zero) = some (some (.agg #[.pointer none, .pointer none, .pointer none, .string ByteArray.empty])) := by kernel_rfl
theorem pl54 : plOf Try.prog 54 = some [(0, 1), (1, 1), (2, 1), (3, 1)] := by kernel_rfl
theorem sz55 : (Try.prog.info? 55).map (·.size) = some 4 := by kernel_rfl
theorem by55 : (Try.prog.info? 55).map (·.bytes) = some 40 := by kernel_rfl
theorem ag55 : aggB Try.prog 55 = true := by kernel_rfl
theorem nu55 : notInt Try.prog 55 = true := by kernel_rfl
theorem zr55 : (Try.prog.info? 55).map (·.zero) = some (some (.agg #[.pointer none, .pointer none, .pointer none, .string ByteArray.empty])) := by kernel_rfl
theorem pl55 : plOf Try.prog 55 = some [(0, 1), (1, 1), (2, 1), (3, 1)] := by kernel_rfl
theorem sz56 : (Try.prog.info? 56).map (·.size) = some 0 := by kernel_rfl
theorem by56 : (Try.prog.info? 56).map (·.bytes) = some 0 := by kernel_rfl
theorem ag56 : aggB Try.prog 56 = true := by kernel_rfl
theorem nu56 : notInt Try.prog 56 = true := by kernel_rfl
theorem zr56 : (Try.prog.info? 56).map (·.zero) = some (some (.agg #[])) := by kernel_rfl
theorem sz57 : (Try.prog.info? 57).map (·.size) = some 0 := by kernel_rfl
theorem by57 : (Try.prog.info? 57).map (·.bytes) = some 0 := by kernel_rfl
theorem ag57 : aggB Try.prog 57 = true := by kernel_rfl
theorem nu57 : notInt Try.prog 57 = true := by kernel_rfl
theorem zr57 : (Try.prog.info? 57).map (·.zero) = some (some (.agg #[])) := by kernel_rfl
theorem pl57 : plOf Try.prog 57 = some [(0, 0)] := by kernel_rfl
theorem sz58 : (Try.prog.info? 58).map (·.size) = some 0 := by kernel_rfl
theorem by58 : (Try.prog.info? 58).map (·.bytes) = some 0 := by kernel_rfl
theorem ag58 : aggB Try.prog 58 = true := by kernel_rfl
theorem nu58 : notInt Try.prog 58 = true := by kernel_rfl
theorem zr58 : (Try.prog.info? 58).map (·.zero) = some (some (.agg #[])) := by kernel_rfl
theorem pl58 : plOf Try.prog 58 = some [(0, 0)] := by kernel_rfl
theorem sz60 : (Try.prog.info? 60).map (·.size) = some 1 := by kernel_rfl
theorem by60 : (Try.prog.info? 60).map (·.bytes) = some 4 := by kernel_rfl
theorem ag60 : aggB Try.prog 60 = false := by kernel_rfl
theorem zr60 : (Try.prog.info? 60).map (·.zero) = some (some (.int .u32 0)) := by kernel_rfl
theorem sz61 : (Try.prog.info? 61).map (·.size) = some 1 := by kernel_rfl
theorem by61 : (Try.prog.info? 61).map (·.bytes) = some 1 := by kernel_rfl
theorem ag61 : aggB Try.prog 61 = false := by kernel_rfl
theorem zr61 : (Try.prog.info? 61).map (·.zero) = some (some (.int .u8 0)) := by kernel_rfl
theorem sz62 : (Try.prog.info? 62).map (·.size) = some 1 := by kernel_rfl
theorem by62 : (Try.prog.info? 62).map (·.bytes) = some 1 := by kernel_rfl
theorem ag62 : aggB Try.prog 62 = false := by kernel_rfl
theorem zr62 : (Try.prog.info? 62).map (·.zero) = some (some (.int .u8 0)) := by kernel_rfl
theorem sz64 : (Try.prog.info? 64).map (·.size) = some 1 := by kernel_rfl
theorem by64 : (Try.prog.info? 64).map (·.bytes) = some 8 := by kernel_rfl
theorem ag64 : aggB Try.prog 64 = false := by kernel_rfl
theorem nu64 : notInt Try.prog 64 = true := by kernel_rfl
theorem zr64 : (Try.prog.info? 64).map (·.zero) = some (some (.pointer none)) := by kernel_rfl
theorem sz65 : (Try.prog.info? 65).map (·.size) = some 1 := by kernel_rfl
theorem by65 : (Try.prog.info? 65).map (·.bytes) = some 4 := by kernel_rfl
theorem ag65 : aggB Try.prog 65 = false := by kernel_rfl
theorem zr65 : (Try.prog.info? 65).map (·.zero) = some (some (.int .i32 0)) := by kernel_rfl
theorem sz66 : (Try.prog.info? 66).map (·.size) = some 1 := by kernel_rfl
theorem by66 : (Try.prog.info? 66).map (·.bytes) = some 4 := by kernel_rfl
theorem ag66 : aggB Try.prog 66 = false := by kernel_rfl
theorem zr66 : (Try.prog.info? 66).map (·.zero) = some (some (.int .i32 0)) := by kernel_rfl
theorem sz67 : (Try.prog.info? 67).map (·.size) = some 11 := by kernel_rfl
theorem by67 : (Try.prog.info? 67).map (·.bytes) = some 48 := by kernel_rfl
theorem ag67 : aggB Try.prog 67 = true := by kernel_rfl
theorem nu67 : notInt Try.prog 67 = true := by kernel_rfl
theorem zr67 : (Try.prog.info? 67).map (·.zero) = some (some (.agg #[.int .u64 0, .int .u64 0, .int .u32 0, .int .u8 0, .int .u8 0, .int .u8 0, .int .u8 0, .nilFunc, .pointer none, .int .i32 0, .int .i32 0])) := by kernel_rfl
theorem pl67 : plOf Try.prog 67 = some [(0, 1), (1, 1), (2, 1), (3, 1), (4, 1), (5, 1), (6, 1), (7, 1), (8, 1), (9, 1), (10, 1)] := by kernel_rfl
theorem sz68 : (Try.prog.info? 68).map (·.size) = some 11 := by kernel_rfl
theorem by68 : (Try.prog.info? 68).map (·.bytes) = some 48 := by kernel_rfl
theorem ag68 : aggB Try.prog 68 = true := by kernel_rfl
theorem nu68 : notInt Try.prog 68 = true := by kernel_rfl
theorem zr68 : (Try.prog.info? 68).map (·.zero) = some (some (.agg #[.int .u64 0, .int .u64 0, .int .u32 0, .int .u8 0, .int .u8 0, .int .u8 0, .int .u8 0, .nilFunc, .pointer none, .int .i32 0, .int .i32 0])) := by kernel_rfl
theorem pl68 : plOf Try.prog 68 = some [(0, 1), (1, 1), (2, 1), (3, 1), (4, 1), (5, 1), (6, 1), (7, 1), (8, 1), (9, 1), (10, 1)] := by kernel_rfl
theorem sz69 : (Try.prog.info? 69).map (·.size) = some 1 := by kernel_rfl
theorem by69 : (Try.prog.info? 69).map (·.bytes) = some 8 := by kernel_rfl
theorem ag69 : aggB Try.prog 69 = false := by kernel_rfl
theorem nu69 : notInt Try.prog 69 = true := by kernel_rfl
theorem zr69 : (Try.prog.info? 69).map (·.zero) = some (some (.pointer none)) := by kernel_rfl
end Am
end Go.Proofs.Ytghgbhekjgincaa
