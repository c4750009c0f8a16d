/- Facts on the types of this seat, by program. -/
import Derived.Test.YtmlnipbeancnpaaDoorAm9
namespace Go.Proofs.YtmlnipbeancnpaaDoor
namespace Am
set_option maxRecDepth 100000
theorem sz2 : (Tryd.prog.info? 2).map (·.size) = some 1 := by kernel_rfl
theorem by2 : (Tryd.prog.info? 2).map (·.bytes) = some 8 := by kernel_rfl
theorem ag2 : aggB Tryd.prog 2 = false := by kernel_rfl
theorem zr2 : (Tryd.prog.info? 2).map (·.zero) = some (some (.int .i64 0)) := by kernel_rfl
theorem sz3 : (Tryd.prog.info? 3).map (·.size) = some 1 := by kernel_rfl
theorem by3 : (Tryd.prog.info? 3).map (·.bytes) = some 8 := by kernel_rfl
theorem ag3 : aggB Tryd.prog 3 = false := by kernel_rfl
theorem zr3 : (Tryd.prog.info? 3).map (·.zero) = some (some (.int .i64 0)) := by kernel_rfl
theorem sz4 : (Tryd.prog.info? 4).map (·.size) = some 1 := by kernel_rfl
theorem by4 : (Tryd.prog.info? 4).map (·.bytes) = some 1 := by kernel_rfl
theorem ag4 : aggB Tryd.prog 4 = false := by kernel_rfl
theorem nu4 : notInt Tryd.prog 4 = true := by kernel_rfl
theorem zr4 : (Tryd.prog.info? 4).map (·.zero) = some (some (.bool false)) := by kernel_rfl
theorem sz5 : (Tryd.prog.info? 5).map (·.size) = some 1 := by kernel_rfl
theorem by5 : (Tryd.prog.info? 5).map (·.bytes) = some 1 := by kernel_rfl
theorem ag5 : aggB Tryd.prog 5 = false := by kernel_rfl
theorem zr5 : (Tryd.prog.info? 5).map (·.zero) = some (some (.int .u8 0)) := by kernel_rfl
theorem sz6 : (Tryd.prog.info? 6).map (·.size) = some 1 := by kernel_rfl
theorem by6 : (Tryd.prog.info? 6).map (·.bytes) = some 1 := by kernel_rfl
theorem ag6 : aggB Tryd.prog 6 = false := by kernel_rfl
theorem zr6 : (Tryd.prog.info? 6).map (·.zero) = some (some (.int .u8 0)) := by kernel_rfl
theorem sz7 : (Tryd.prog.info? 7).map (·.size) = some 4 := by kernel_rfl
theorem by7 : (Tryd.prog.info? 7).map (·.bytes) = some 24 := by kernel_rfl
theorem ag7 : aggB Tryd.prog 7 = true := by kernel_rfl
theorem nu7 : notInt Tryd.prog 7 = true := by kernel_rfl
theorem zr7 : (Tryd.prog.info? 7).map (·.zero) = some (some (.agg #[.int .i64 0, .int .i64 0, .bool false, .int .u8 0])) := by kernel_rfl
theorem pl7 : plOf Tryd.prog 7 = some [(0, 1), (1, 1), (2, 1), (3, 1)] := by kernel_rfl
theorem sz8 : (Tryd.prog.info? 8).map (·.size) = some 4 := by kernel_rfl
theorem by8 : (Tryd.prog.info? 8).map (·.bytes) = some 24 := by kernel_rfl
theorem ag8 : aggB Tryd.prog 8 = true := by kernel_rfl
theorem nu8 : notInt Tryd.prog 8 = true := by kernel_rfl
theorem zr8 : (Tryd.prog.info? 8).map (·.zero) = some (some (.agg #[.int .i64 0, .int .i64 0, .bool false, .int .u8 0])) := by kernel_rfl
theorem pl8 : plOf Tryd.prog 8 = some [(0, 1), (1, 1), (2, 1), (3, 1)] := by kernel_rfl
theorem sz9 : (Tryd.prog.info? 9).map (·.size) = some 1 := by kernel_rfl
theorem by9 : (Tryd.prog.info? 9).map (·.bytes) = some 16 := by kernel_rfl
theorem ag9 : aggB Tryd.prog 9 = false := by kernel_rfl
theorem nu9 : notInt Tryd.prog 9 = true := by kernel_rfl
theorem zr9 : (Tryd.prog.info? 9).map (·.zero) = some (some (.string ByteArray.empty)) := by kernel_rfl
theorem sz10 : (Tryd.prog.info? 10).map (·.size) = some 1 := by kernel_rfl
theorem by10 : (Tryd.prog.info? 10).map (·.bytes) = some 16 := by kernel_rfl
theorem ag10 : aggB Tryd.prog 10 = false := by kernel_rfl
theorem nu10 : notInt Tryd.prog 10 = true := by kernel_rfl
theorem zr10 : (Tryd.prog.info? 10).map (·.zero) = some (some (.string ByteArray.empty)) := by kernel_rfl
theorem sz11 : (Tryd.prog.info? 11).map (·.size) = some 1 := by kernel_rfl
theorem by11 : (Tryd.prog.info? 11).map (·.bytes) = some 16 := by kernel_rfl
theorem ag11 : aggB Tryd.prog 11 = false := by kernel_rfl
theorem nu11 : notInt Tryd.prog 11 = true := by kernel_rfl
theorem zr11 : (Tryd.prog.info? 11).map (·.zero) = some (some (.string ByteArray.empty)) := by kernel_rfl
theorem sz12 : (Tryd.prog.info? 12).map (·.size) = some 1 := by kernel_rfl
theorem by12 : (Tryd.prog.info? 12).map (·.bytes) = some 8 := by kernel_rfl
theorem ag12 : aggB Tryd.prog 12 = false := by kernel_rfl
theorem zr12 : (Tryd.prog.info? 12).map (·.zero) = some (some (.int .u64 0)) := by kernel_rfl
theorem sz13 : (Tryd.prog.info? 13).map (·.size) = some 2 := by kernel_rfl
theorem by13 : (Tryd.prog.info? 13).map (·.bytes) = some 24 := by kernel_rfl
theorem ag13 : aggB Tryd.prog 13 = true := by kernel_rfl
theorem nu13 : notInt Tryd.prog 13 = true := by kernel_rfl
theorem zr13 : (Tryd.prog.info? 13).map (·.zero) = some (some (.agg #[.string ByteArray.empty, .int .u64 0])) := by kernel_rfl
theorem pl13 : plOf Tryd.prog 13 = some [(0, 1), (1, 1)] := by kernel_rfl
theorem sz14 : (Tryd.prog.info? 14).map (·.size) = some 2 := by kernel_rfl
theorem by14 : (Tryd.prog.info? 14).map (·.bytes) = some 24 := by kernel_rfl
theorem ag14 : aggB Tryd.prog 14 = true := by kernel_rfl
theorem nu14 : notInt Tryd.prog 14 = true := by kernel_rfl
theorem zr14 : (Tryd.prog.info? 14).map (·.zero) = some (some (.agg #[.string ByteArray.empty, .int .u64 0])) := by kernel_rfl
theorem pl14 : plOf Tryd.prog 14 = some [(0, 1), (1, 1)] := by kernel_rfl
theorem sz15 : (Tryd.prog.info? 15).map (·.size) = some 1 := by kernel_rfl
theorem by15 : (Tryd.prog.info? 15).map (·.bytes) = some 8 := by kernel_rfl
theorem ag15 : aggB Tryd.prog 15 = false := by kernel_rfl
theorem nu15 : notInt Tryd.prog 15 = true := by kernel_rfl
theorem zr15 : (Tryd.prog.info? 15).map (·.zero) = some (some (.pointer none)) := by kernel_rfl
theorem sz16 : (Tryd.prog.info? 16).map (·.size) = some 1 := by kernel_rfl
theorem by16 : (Tryd.prog.info? 16).map (·.bytes) = some 8 := by kernel_rfl
theorem ag16 : aggB Tryd.prog 16 = false := by kernel_rfl
theorem nu16 : notInt Tryd.prog 16 = true := by kernel_rfl
theorem zr16 : (Tryd.prog.info? 16).map (·.zero) = some (some (.pointer none)) := by kernel_rfl
theorem sz17 : (Tryd.prog.info? 17).map (·.size) = some 1 := by kernel_rfl
theorem by17 : (Tryd.prog.info? 17).map (·.bytes) = some 8 := by kernel_rfl
theorem ag17 : aggB Tryd.prog 17 = false := by kernel_rfl
theorem nu17 : notInt Tryd.prog 17 = true := by kernel_rfl
theorem zr17 : (Tryd.prog.info? 17).map (·.zero) = some (some (.pointer none)) := by kernel_rfl
theorem sz18 : (Tryd.prog.info? 18).map (·.size) = some 1 := by kernel_rfl
theorem by18 : (Tryd.prog.info? 18).map (·.bytes) = some 8 := by kernel_rfl
theorem ag18 : aggB Tryd.prog 18 = true := by kernel_rfl
theorem nu18 : notInt Tryd.prog 18 = true := by kernel_rfl
theorem zr18 : (Tryd.prog.info? 18).map (·.zero) = some (some (.agg #[.pointer none])) := by kernel_rfl
theorem pl18 : plOf Tryd.prog 18 = some [(0, 1)] := by kernel_rfl
theorem sz19 : (Tryd.prog.info? 19).map (·.size) = some 1 := by kernel_rfl
theorem by19 : (Tryd.prog.info? 19).map (·.bytes) = some 8 := by kernel_rfl
theorem ag19 : aggB Tryd.prog 19 = true := by kernel_rfl
theorem nu19 : notInt Tryd.prog 19 = true := by kernel_rfl
theorem zr19 : (Tryd.prog.info? 19).map (·.zero) = some (some (.agg #[.pointer none])) := by kernel_rfl
theorem pl19 : plOf Tryd.prog 19 = some [(0, 1)] := by kernel_rfl
theorem sz20 : (Tryd.prog.info? 20).map (·.size) = some 1 := by kernel_rfl
theorem by20 : (Tryd.prog.info? 20).map (·.bytes) = some 16 := by kernel_rfl
theorem ag20 : aggB Tryd.prog 20 = false := by kernel_rfl
theorem nu20 : notInt Tryd.prog 20 = true := by kernel_rfl
theorem zr20 : (Tryd.prog.info? 20).map (·.zero) = some (some (.nilIface)) := by kernel_rfl
theorem sz21 : (Tryd.prog.info? 21).map (·.size) = some 1 := by kernel_rfl
theorem by21 : (Tryd.prog.info? 21).map (·.bytes) = some 4 := by kernel_rfl
theorem ag21 : aggB Tryd.prog 21 = false := by kernel_rfl
theorem zr21 : (Tryd.prog.info? 21).map (·.zero) = some (some (.int .i32 0)) := by kernel_rfl
theorem sz25 : (Tryd.prog.info? 25).map (·.size) = some 1 := by kernel_rfl
theorem by25 : (Tryd.prog.info? 25).map (·.bytes) = some 16 := by kernel_rfl
theorem ag25 : aggB Tryd.prog 25 = false := by kernel_rfl
theorem nu25 : notInt Tryd.prog 25 = true := by kernel_rfl
theorem zr25 : (Tryd.prog.info? 25).map (·.zero) = some (some (.nilIface)) := by kernel_rfl
theorem sz26 : (Tryd.prog.info? 26).map (·.size) = some 1 := by kernel_rfl
theorem by26 : (Tryd.prog.info? 26).map (·.bytes) = some 16 := by kernel_rfl
theorem ag26 : aggB Tryd.prog 26 = false := by kernel_rfl
theorem nu26 : notInt Tryd.prog 26 = true := by kernel_rfl
theorem zr26 : (Tryd.prog.info? 26).map (·.zero) = some (some (.nilIface)) := by kernel_rfl
theorem sz30 : (Tryd.prog.info? 30).map (·.size) = some 1 := by kernel_rfl
theorem by30 : (Tryd.prog.info? 30).map (·.bytes) = some 24 := by kernel_rfl
theorem ag30 : aggB Tryd.prog 30 = false := by kernel_rfl
theorem nu30 : notInt Tryd.prog 30 = true := by kernel_rfl
theorem zr30 : (Tryd.prog.info? 30).map (·.zero) = some (some (.slice none 0 0)) := by kernel_rfl
theorem sz34 : (Tryd.prog.info? 34).map (·.size) = some 6 := by kernel_rfl
theorem by34 : (Tryd.prog.info? 34).map (·.bytes) = some 48 := by kernel_rfl
theorem ag34 : aggB Tryd.prog 34 = true := by kernel_rfl
theorem nu34 : notInt Tryd.prog 34 = true := by kernel_rfl
theorem zr34 : (Tryd.prog.info? 34).map (·.zero) = some (some (.agg #[.int .i64 0, .int .i64 0, .int .i64 0, .int .i64 0, .int .i64 0, .int .i64 0])) := by kernel_rfl
theorem pl34 : plOf Tryd.prog 34 = some [(0, 1), (1, 1), (2, 1), (3, 1), (4, 1), (5, 1)] := by kernel_rfl
theorem sz35 : (Tryd.prog.info? 35).map (·.size) = some 6 := by kernel_rfl
theorem by35 : (Tryd.prog.info? 35).map (·.bytes) = some 48 := by kernel_rfl
theorem ag35 : aggB Tryd.prog 35 = true := by kernel_rfl
theorem nu35 : notInt Tryd.prog 35 = true := by kernel_rfl
theorem zr35 : (Tryd.prog.info? 35).map (·.zero) = some (some (.agg #[.int .i64 0, .int .i64 0, .int .i64 0, .int .i64 0, .int .i64 0, .int .i64 0])) := by kernel_rfl
theorem pl35 : plOf Tryd.prog 35 = some [(0, 1), (1, 1), (2, 1), (3, 1), (4, 1), (5, 1)] := by kernel_rfl
theorem sz37 : (Tryd.prog.info? 37).map (·.size) = some 6 := by kernel_rfl
theorem by37 : (Tryd.prog.info? 37).map (·.bytes) = some 48 := by kernel_rfl
theorem ag37 : aggB Tryd.prog 37 = true := by kernel_rfl
theorem nu37 : notInt Tryd.prog 37 = true := by kernel_rfl
theorem zr37 : (Tryd.prog.info? 37).map (·.zero) = some (some (.agg #[.int .i64 0, .int .i64 0, .int .i64 0, .int .i64 0, .int .i64 0, .int .i64 0])) := by kernel_rfl
theorem pl37 : plOf Tryd.prog 37 = some [(0, 1), (1, 1), (2, 1), (3, 1), (4, 1), (5, 1)] := by kernel_rfl
theorem sz50 : (Tryd.prog.info? 50).map (·.size) = some 1 := by kernel_rfl
theorem by50 : (Tryd.prog.info? 50).map (·.bytes) = some 24 := by kernel_rfl
theorem ag50 : aggB Tryd.prog 50 = false := by kernel_rfl
theorem nu50 : notInt Tryd.prog 50 = true := by kernel_rfl
theorem zr50 : (Tryd.prog.info? 50).map (·.zero) = some (some (.slice none 0 0)) := by kernel_rfl
theorem sz52 : (Tryd.prog.info? 52).map (·.size) = some 1 := by kernel_rfl
theorem by52 : (Tryd.prog.info? 52).map (·.bytes) = some 8 := by kernel_rfl
theorem ag52 : aggB Tryd.prog 52 = false := by kernel_rfl
theorem nu52 : notInt Tryd.prog 52 = true := by kernel_rfl
theorem zr52 : (Tryd.prog.info? 52).map (·.zero) = some (some (.pointer none)) := by kernel_rfl
theorem sz55 : (Tryd.prog.info? 55).map (·.size) = some 1 := by kernel_rfl
theorem by55 : (Tryd.prog.info? 55).map (·.bytes) = some 8 := by kernel_rfl
theorem ag55 : aggB Tryd.prog 55 = false := by kernel_rfl
theorem nu55 : notInt Tryd.prog 55 = true := by kernel_rfl
theorem zr55 : (Tryd.prog.info? 55).map (·.zero) = some (some (.pointer none)) := by kernel_rfl
theorem sz56 : (Tryd.prog.info? 56).map (·.size) = some 1 := by kernel_rfl
theorem by56 : (Tryd.prog.info? 56).map (·.bytes) = some 24 := by kernel_rfl
theorem ag56 : aggB Tryd.prog 56 = false := by kernel_rfl
theorem nu56 : notInt Tryd.prog 56 = true := by kernel_rfl
theorem zr56 : (Tryd.prog.info? 56).map (·.zero) = some (some (.slice none 0 0)) := by kernel_rfl
theorem sz57 : (Tryd.prog.info? 57).map (·.size) = some 3 := by kernel_rfl
theorem by57 : (Tryd.prog.info? 57).map (·.bytes) = some 40 := by kernel_rfl
theorem ag57 : aggB Tryd.prog 57 = true := by kernel_rfl
theorem nu57 : notInt Tryd.prog 57 = true := by kernel_rfl
theorem zr57 : (Tryd.prog.info? 57).map (·.zero) = some (some (.agg #[.int .i64 0, .int .i64 0, .slice none 0 0])) := by kernel_rfl
theorem pl57 : plOf Tryd.prog 57 = some [(0, 1), (1, 1), (2, 1)] := by kernel_rfl
theorem sz58 : (Tryd.prog.info? 58).map (·.size) = some 3 := by kernel_rfl
theorem by58 : (Tryd.prog.info? 58).map (·.bytes) = some 40 := by kernel_rfl
theorem ag58 : aggB Tryd.prog 58 = true := by kernel_rfl
theorem nu58 : notInt Tryd.prog 58 = true := by kernel_rfl
theorem zr58 : (Tryd.prog.info? 58).map (·.zero) = some (some (.agg #[.int .i64 0, .int .i64 0, .slice none 0 0])) := by kernel_rfl
theorem pl58 : plOf Tryd.prog 58 = some [(0, 1), (1, 1), (2, 1)] := by kernel_rfl
theorem sz59 : (Tryd.prog.info? 59).map (·.size) = some 3 := by kernel_rfl
theorem by59 : (Tryd.prog.info? 59).map (·.bytes) = some 32 := by kernel_rfl
theorem ag59 : aggB Tryd.prog 59 = true := by kernel_rfl
theorem nu59 : notInt Tryd.prog 59 = true := by kernel_rfl
theorem zr59 : (Tryd.prog.info? 59).map (·.zero) = some (some (.agg #[.int .i64 0, .bool false, .string ByteArray.empty])) := by kernel_rfl
theorem pl59 : plOf Tryd.prog 59 = some [(0, 1), (1, 1), (2, 1)] := by kernel_rfl
theorem sz60 : (Tryd.prog.info? 60).map (·.size) = some 3 := by kernel_rfl
theorem by60 : (Tryd.prog.info? 60).map (·.bytes) = some 32 := by kernel_rfl
theorem ag60 : aggB Tryd.prog 60 = true := by kernel_rfl
theorem nu60 : notInt Tryd.prog 60 = true := by kernel_rfl
theorem zr60 : (Tryd.prog.info? 60).map (·.zero) = some (some (.agg #[.int .i64 0, .bool false, .string ByteArray.empty])) := by kernel_rfl
theorem pl60 : plOf Tryd.prog 60 = some [(0, 1), (1, 1), (2, 1)] := by kernel_rfl
theorem sz72 : (Tryd.prog.info? 72).map (·.size) = some 1 := by kernel_rfl
theorem by72 : (Tryd.prog.info? 72).map (·.bytes) = some 24 := by kernel_rfl
theorem ag72 : aggB Tryd.prog 72 = false := by kernel_rfl
theorem nu72 : notInt Tryd.prog 72 = true := by kernel_rfl
theorem zr72 : (Tryd.prog.info? 72).map (·.zero) = some (some (.slice none 0 0)) := by kernel_rfl
theorem sz74 : (Tryd.prog.info? 74).map (·.size) = some 1 := by kernel_rfl
theorem by74 : (Tryd.prog.info? 74).map (·.bytes) = some 8 := by kernel_rfl
theorem ag74 : aggB Tryd.prog 74 = false := by kernel_rfl
theorem zr74 : (Tryd.prog.info? 74).map (·.zero) = some (some (.int .u64 0)) := by kernel_rfl
theorem sz84 : (Tryd.prog.info? 84).map (·.size) = some 1 := by kernel_rfl
theorem by84 : (Tryd.prog.info? 84).map (·.bytes) = some 24 := by kernel_rfl
theorem ag84 : aggB Tryd.prog 84 = false := by kernel_rfl
theorem nu84 : notInt Tryd.prog 84 = true := by kernel_rfl
theorem zr84 : (Tryd.prog.info? 84).map (·.zero) = some (some (.slice none 0 0)) := by kernel_rfl
theorem sz87 : (Tryd.prog.info? 87).map (·.size) = some 1 := by kernel_rfl
theorem by87 : (Tryd.prog.info? 87).map (·.bytes) = some 2 := by kernel_rfl
theorem ag87 : aggB Tryd.prog 87 = false := by kernel_rfl
theorem zr87 : (Tryd.prog.info? 87).map (·.zero) = some (some (.int .u16 0)) := by kernel_rfl
theorem sz91 : (Tryd.prog.info? 91).map (·.size) = some 1 := by kernel_rfl
theorem by91 : (Tryd.prog.info? 91).map (·.bytes) = some 8 := by kernel_rfl
theorem ag91 : aggB Tryd.prog 91 = false := by kernel_rfl
theorem nu91 : notInt Tryd.prog 91 = true := by kernel_rfl
theorem zr91 : (Tryd.prog.info? 91).map (·.zero) = some (some (.pointer none)) := by kernel_rfl
theorem sz95 : (Tryd.prog.info? 95).map (·.size) = some 1 := by kernel_rfl
theorem by95 : (Tryd.prog.info? 95).map (·.bytes) = some 8 := by kernel_rfl
theorem ag95 : aggB Tryd.prog 95 = false := by kernel_rfl
theorem nu95 : notInt Tryd.prog 95 = true := by kernel_rfl
theorem zr95 : (Tryd.prog.info? 95).map (·.zero) = some (some (.chan none)) := by kernel_rfl
theorem sz96 : (Tryd.prog.info? 96).map (·.size) = some 2 := by kernel_rfl
theorem by96 : (Tryd.prog.info? 96).map (·.bytes) = some 16 := by kernel_rfl
theorem ag96 : aggB Tryd.prog 96 = true := by kernel_rfl
theorem nu96 : notInt Tryd.prog 96 = true := by kernel_rfl
theorem zr96 : (Tryd.prog.info? 96).map (·.zero) = some (some (.agg #[.chan none, .int .i64 0])) := by kernel_rfl
theorem pl96 : plOf Tryd.prog 96 = some [(0, 1), (1, 1)] := by kernel_rfl
theorem sz97 : (Tryd.prog.info? 97).map (·.size) = some 2 := by kernel_rfl
theorem by97 : (Tryd.prog.info? 97).map (·.bytes) = some 16 := by kernel_rfl
theorem ag97 : aggB Tryd.prog 97 = true := by kernel_rfl
theorem nu97 : notInt Tryd.prog 97 = true := by kernel_rfl
theorem zr97 : (Tryd.prog.info? 97).map (·.zero) = some (some (.agg #[.chan none, .int .i64 0])) := by kernel_rfl
theorem pl97 : plOf Tryd.prog 97 = some [(0, 1), (1, 1)] := by kernel_rfl
theorem sz99 : (Tryd.prog.info? 99).map (·.size) = some 1 := by kernel_rfl
theorem by99 : (Tryd.prog.info? 99).map (·.bytes) = some 24 := by kernel_rfl
theorem ag99 : aggB Tryd.prog 99 = false := by kernel_rfl
theorem nu99 : notInt Tryd.prog 99 = true := by kernel_rfl
theorem zr99 : (Tryd.prog.info? 99).map (·.zero) = some (some (.slice none 0 0)) := by kernel_rfl
theorem sz101 : (Tryd.prog.info? 101).map (·.size) = some 7 := by kernel_rfl
theorem by101 : (Tryd.prog.info? 101).map (·.bytes) = some 56 := by kernel_rfl
theorem ag101 : aggB Tryd.prog 101 = true := by kernel_rfl
theorem nu101 : notInt Tryd.prog 101 = true := by kernel_rfl
theorem zr101 : (Tryd.prog.info? 101).map (·.zero) = some (some (.agg #[.int .i64 0, .int .i64 0, .int .i64 0, .int .i64 0, .int .i64 0, .int .i64 0, .int .i64 0])) := by kernel_rfl
theorem sz107 : (Tryd.prog.info? 107).map (·.size) = some 1 := by kernel_rfl
theorem by107 : (Tryd.prog.info? 107).map (·.bytes) = some 16 := by kernel_rfl
theorem ag107 : aggB Tryd.prog 107 = false := by kernel_rfl
theorem nu107 : notInt Tryd.prog 107 = true := by kernel_rfl
theorem zr107 : (Tryd.prog.info? 107).map (·.zero) = some (some (.nilIface)) := by kernel_rfl
theorem sz108 : (Tryd.prog.info? 108).map (·.size) = some 1 := by kernel_rfl
theorem by108 : (Tryd.prog.info? 108).map (·.bytes) = some 16 := by kernel_rfl
theorem ag108 : aggB Tryd.prog 108 = false := by kernel_rfl
theorem nu108 : notInt Tryd.prog 108 = true := by kernel_rfl
theorem zr108 : (Tryd.prog.info? 108).map (·.zero) = some (some (.nilIface)) := by kernel_rfl
theorem sz112 : (Tryd.prog.info? 112).map (·.size) = some 1 := by kernel_rfl
theorem by112 : (Tryd.prog.info? 112).map (·.bytes) = some 4 := by kernel_rfl
theorem ag112 : aggB Tryd.prog 112 = false := by kernel_rfl
theorem zr112 : (Tryd.prog.info? 112).map (·.zero) = some (some (.int .u32 0)) := by kernel_rfl
theorem sz114 : (Tryd.prog.info? 114).map (·.size) = some 1 := by kernel_rfl
theorem by114 : (Tryd.prog.info? 114).map (·.bytes) = some 8 := by kernel_rfl
theorem ag114 : aggB Tryd.prog 114 = false := by kernel_rfl
theorem zr114 : (Tryd.prog.info? 114).map (·.zero) = some (some (.int .u64 0)) := by kernel_rfl
theorem sz115 : (Tryd.prog.info? 115).map (·.size) = some 1 := by kernel_rfl
theorem by115 : (Tryd.prog.info? 115).map (·.bytes) = some 8 := by kernel_rfl
theorem ag115 : aggB Tryd.prog 115 = false := by kernel_rfl
theorem nu115 : notInt Tryd.prog 115 = true := by kernel_rfl
theorem zr115 : (Tryd.prog.info? 115).map (·.zero) = some (some (.chan none)) := by kernel_rfl
theorem sz116 : (Tryd.prog.info? 116).map (·.size) = some 2 := by kernel_rfl
theorem by116 : (Tryd.prog.info? 116).map (·.bytes) = some 16 := by kernel_rfl
theorem ag116 : aggB Tryd.prog 116 = true := by kernel_rfl
theorem nu116 : notInt Tryd.prog 116 = true := by kernel_rfl
theorem zr116 : (Tryd.prog.info? 116).map (·.zero) = some (some (.agg #[.chan none, .int .i64 0])) := by kernel_rfl
theorem pl116 : plOf Tryd.prog 116 = some [(0, 1), (1, 1)] := by kernel_rfl
theorem sz117 : (Tryd.prog.info? 117).map (·.size) = some 2 := by kernel_rfl
theorem by117 : (Tryd.prog.info? 117).map (·.bytes) = some 16 := by kernel_rfl
theorem ag117 : aggB Tryd.prog 117 = true := by kernel_rfl
theorem nu117 : notInt Tryd.prog 117 = true := by kernel_rfl
theorem zr117 : (Tryd.prog.info? 117).map (·.zero) = some (some (.agg #[.chan none, .int .i64 0])) := by kernel_rfl
theorem pl117 : plOf Tryd.prog 117 = some [(0, 1), (1, 1)] := by kernel_rfl
theorem sz120 : (Tryd.prog.info? 120).map (·.size) = some 2 := by kernel_rfl
theorem by120 : (Tryd.prog.info? 120).map (·.bytes) = some 32 := by kernel_rfl
theorem ag120 : aggB Tryd.prog 120 = true := by kernel_rfl
theorem nu120 : notInt Tryd.prog 120 = true := by kernel_rfl
theorem zr120 : (Tryd.prog.info? 120).map (·.zero) = some (some (.agg #[.int .i64 0, .slice none 0 0])) := by kernel_rfl
theorem pl120 : plOf Tryd.prog 120 = some [(0, 1), (1, 1)] := by kernel_rfl
theorem sz121 : (Tryd.prog.info? 121).map (·.size) = some 2 := by kernel_rfl
theorem by121 : (Tryd.prog.info? 121).map (·.bytes) = some 32 := by kernel_rfl
theorem ag121 : aggB Tryd.prog 121 = true := by kernel_rfl
theorem nu121 : notInt Tryd.prog 121 = true := by kernel_rfl
theorem zr121 : (Tryd.prog.info? 121).map (·.zero) = some (some (.agg #[.int .i64 0, .slice none 0 0])) := by kernel_rfl
theorem pl121 : plOf Tryd.prog 121 = some [(0, 1), (1, 1)] := by kernel_rfl
theorem sz126 : (Tryd.prog.info? 126).map (·.size) = some 256 := by kernel_rfl
theorem by126 : (Tryd.prog.info? 126).map (·.bytes) = some 256 := by kernel_rfl
theorem ag126 : aggB Tryd.prog 126 = true := by kernel_rfl
theorem nu126 : notInt Tryd.prog 126 = true := by kernel_rfl
theorem sz127 : (Tryd.prog.info? 127).map (·.size) = some 2 := by kernel_rfl
theorem by127 : (Tryd.prog.info? 127).map (·.bytes) = some 2 := by kernel_rfl
theorem ag127 : aggB Tryd.prog 127 = true := by kernel_rfl
theorem nu127 : notInt Tryd.prog 127 = true := by kernel_rfl
theorem zr127 : (Tryd.prog.info? 127).map (·.zero) = some (some (.agg #[.int .u8 0, .int .u8 0])) := by kernel_rfl
theorem pl127 : plOf Tryd.prog 127 = some [(0, 1), (1, 1)] := by kernel_rfl
theorem sz128 : (Tryd.prog.info? 128).map (·.size) = some 2 := by kernel_rfl
theorem by128 : (Tryd.prog.info? 128).map (·.bytes) = some 2 := by kernel_rfl
theorem ag128 : aggB Tryd.prog 128 = true := by kernel_rfl
theorem nu128 : notInt Tryd.prog 128 = true := by kernel_rfl
theorem zr128 : (Tryd.prog.info? 128).map (·.zero) = some (some (.agg #[.int .u8 0, .int .u8 0])) := by kernel_rfl
theorem pl128 : plOf Tryd.prog 128 = some [(0, 1), (1, 1)] := by kernel_rfl
theorem sz129 : (Tryd.prog.info? 129).map (·.size) = some 32 := by kernel_rfl
theorem by129 : (Tryd.prog.info? 129).map (·.bytes) = some 32 := by kernel_rfl
theorem ag129 : aggB Tryd.prog 129 = true := by kernel_rfl
theorem nu129 : notInt Tryd.prog 129 = true := by kernel_rfl
theorem zr129 : (Tryd.prog.info? 129).map (·.zero) = some (some (.agg #[.int .u8 0, .int .u8 0, .int .u8 0, .int .u8 0, .int .u8 0, .int .u8 0, .int .u8 0, .int .u8 0, .int .u8 0, .int .u8 0, .int .u8 0, .int .u8 0, .int .u8 0, .int .u8 0, .int .u8 0, .int .u8 0, .int .u8 0, .int .u8 0, .int .u8 0, .int .u8 0, .int .u8 0, .int .u8 0, .int .u8 0, .int .u8 0, .int .u8 0, .int .u8 0, .int .u8 0, .int .u8 0, .int .u8 0, .int .u8 0, .int .u8 0, .int .u8 0])) := by kernel_rfl
theorem sz132 : (Tryd.prog.info? 132).map (·.size) = some 1 := by kernel_rfl
theorem by132 : (Tryd.prog.info? 132).map (·.bytes) = some 8 := by kernel_rfl
theorem ag132 : aggB Tryd.prog 132 = true := by kernel_rfl
theorem nu132 : notInt Tryd.prog 132 = true := by kernel_rfl
theorem zr132 : (Tryd.prog.info? 132).map (·.zero) = some (some (.agg #[.pointer none])) := by kernel_rfl
theorem pl132 : plOf Tryd.prog 132 = some [(0, 1)] := by kernel_rfl
theorem sz133 : (Tryd.prog.info? 133).map (·.size) = some 1 := by kernel_rfl
theorem by133 : (Tryd.prog.info? 133).map (·.bytes) = some 8 := by kernel_rfl
theorem ag133 : aggB Tryd.prog 133 = true := by kernel_rfl
theorem nu133 : notInt Tryd.prog 133 = true := by kernel_rfl
theorem zr133 : (Tryd.prog.info? 133).map (·.zero) = some (some (.agg #[.pointer none])) := by kernel_rfl
theorem pl133 : plOf Tryd.prog 133 = some [(0, 1)] := by kernel_rfl
theorem sz134 : (Tryd.prog.info? 134).map (·.size) = some 1 := by kernel_rfl
theorem by134 : (Tryd.prog.info? 134).map (·.bytes) = some 8 := by kernel_rfl
theorem ag134 : aggB Tryd.prog 134 = false := by kernel_rfl
theorem nu134 : notInt Tryd.prog 134 = true := by kernel_rfl
theorem zr134 : (Tryd.prog.info? 134).map (·.zero) = some (some (.pointer none)) := by kernel_rfl
theorem sz135 : (Tryd.prog.info? 135).map (·.size) = some 1 := by kernel_rfl
theorem by135 : (Tryd.prog.info? 135).map (·.bytes) = some 16 := by kernel_rfl
theorem ag135 : aggB Tryd.prog 135 = false := by kernel_rfl
theorem nu135 : notInt Tryd.prog 135 = true := by kernel_rfl
theorem zr135 : (Tryd.prog.info? 135).map (·.zero) = some (some (.nilIface)) := by kernel_rfl
theorem sz138 : (Tryd.prog.info? 138).map (·.size) = some 1 := by kernel_rfl
theorem by138 : (Tryd.prog.info? 138).map (·.bytes) = some 16 := by kernel_rfl
theorem ag138 : aggB Tryd.prog 138 = false := by kernel_rfl
theorem nu138 : notInt Tryd.prog 138 = true := by kernel_rfl
theorem zr138 : (Tryd.prog.info? 138).map (·.zero) = some (some (.nilIface)) := by kernel_rfl
theorem sz140 : (Tryd.prog.info? 140).map (·.size) = some 1 := by kernel_rfl
theorem by140 : (Tryd.prog.info? 140).map (·.bytes) = some 16 := by kernel_rfl
theorem ag140 : aggB Tryd.prog 140 = false := by kernel_rfl
theorem nu140 : notInt Tryd.prog 140 = true := by kernel_rfl
theorem zr140 : (Tryd.prog.info? 140).map (·.zero) = some (some (.nilIface)) := by kernel_rfl
theorem sz147 : (Tryd.prog.info? 147).map (·.size) = some 1 := by kernel_rfl
theorem by147 : (Tryd.prog.info? 147).map (·.bytes) = some 8 := by kernel_rfl
theorem ag147 : aggB Tryd.prog 147 = false := by kernel_rfl
theorem nu147 : notInt Tryd.prog 147 = true := by kernel_rfl
theorem zr147 : (Tryd.prog.info? 147).map (·.zero) = some (some (.pointer none)) := by kernel_rfl
theorem sz149 : (Tryd.prog.info? 149).map (·.size) = some 4 := by kernel_rfl
theorem by149 : (Tryd.prog.info? 149).map (·.bytes) = some 40 := by kernel_rfl
theorem ag149 : aggB Tryd.prog 149 = true := by kernel_rfl
theorem nu149 : notInt Tryd.prog 149 = true := by kernel_rfl
theorem zr149 : (Tryd.prog.info? 149).map (·.zero) = some (some (.agg #[.pointer none, .pointer none, .pointer none, .string ByteArray.empty])) := by kernel_rfl
theorem pl149 : plOf Tryd.prog 149 = some [(0, 1), (1, 1), (2, 1), (3, 1)] := by kernel_rfl
theorem sz150 : (Tryd.prog.info? 150).map (·.size) = some 4 := by kernel_rfl
theorem by150 : (Tryd.prog.info? 150).map (·.bytes) = some 40 := by kernel_rfl
theorem ag150 : aggB Tryd.prog 150 = true := by kernel_rfl
theorem nu150 : notInt Tryd.prog 150 = true := by kernel_rfl
theorem zr150 : (Tryd.prog.info? 150).map (·.zero) = some (some (.agg #[.pointer none, .pointer none, .pointer none, .string ByteArray.empty])) := by kernel_rfl
theorem pl150 : plOf Tryd.prog 150 = some [(0, 1), (1, 1), (2, 1), (3, 1)] := by kernel_rfl
theorem sz151 : (Tryd.prog.info? 151).map (·.size) = some 0 := by kernel_rfl
theorem by151 : (Tryd.prog.info? 151).map (·.bytes) = some 0 := by kernel_rfl
theorem ag151 : aggB Tryd.prog 151 = true := by kernel_rfl
theorem nu151 : notInt Tryd.prog 151 = true := by kernel_rfl
theorem zr151 : (Tryd.prog.info? 151).map (·.zero) = some (some (.agg #[])) := by kernel_rfl
theorem sz152 : (Tryd.prog.info? 152).map (·.size) = some 0 := by kernel_rfl
theorem by152 : (Tryd.prog.info? 152).map (·.bytes) = some 0 := by kernel_rfl
theorem ag152 : aggB Tryd.prog 152 = true := by kernel_rfl
theorem nu152 : notInt Tryd.prog 152 = true := by kernel_rfl
theorem zr152 : (Tryd.prog.info? 152).map (·.zero) = some (some (.agg #[])) := by kernel_rfl
theorem pl152 : plOf Tryd.prog 152 = some [(0, 0)] := by kernel_rfl
theorem sz153 : (Tryd.prog.info? 153).map (·.size) = some 0 := by kernel_rfl
theorem by153 : (Tryd.prog.info? 153).map (·.bytes) = some 0 := by kernel_rfl
theorem ag153 : aggB Tryd.prog 153 = true := by kernel_rfl
theorem nu153 : notInt Tryd.prog 153 = true := by kernel_rfl
theorem zr153 : (Tryd.prog.info? 153).map (·.zero) = some (some (.agg #[])) := by kernel_rfl
theorem pl153 : plOf Tryd.prog 153 = some [(0, 0)] := by kernel_rfl
theorem sz154 : (Tryd.prog.info? 154).map (·.size) = some 1 := by kernel_rfl
theorem by154 : (Tryd.prog.info? 154).map (·.bytes) = some 1 := by kernel_rfl
theorem ag154 : aggB Tryd.prog 154 = false := by kernel_rfl
theorem zr154 : (Tryd.prog.info? 154).map (·.zero) = some (some (.int .u8 0)) := by kernel_rfl
theorem sz155 : (Tryd.prog.info? 155).map (·.size) = some 1 := by kernel_rfl
theorem by155 : (Tryd.prog.info? 155).map (·.bytes) = some 1 := by kernel_rfl
theorem ag155 : aggB Tryd.prog 155 = false := by kernel_rfl
theorem zr155 : (Tryd.prog.info? 155).map (·.zero) = some (some (.int .u8 0)) := by kernel_rfl
theorem sz157 : (Tryd.prog.info? 157).map (·.size) = some 1 := by kernel_rfl
theorem by157 : (Tryd.prog.info? 157).map (·.bytes) = some 8 := by kernel_rfl
theorem ag157 : aggB Tryd.prog 157 = false := by kernel_rfl
theorem nu157 : notInt Tryd.prog 157 = true := by kernel_rfl
theorem zr157 : (Tryd.prog.info? 157).map (·.zero) = some (some (.pointer none)) := by kernel_rfl
theorem sz158 : (Tryd.prog.info? 158).map (·.size) = some 1 := by kernel_rfl
theorem by158 : (Tryd.prog.info? 158).map (·.bytes) = some 4 := by kernel_rfl
theorem ag158 : aggB Tryd.prog 158 = false := by kernel_rfl
theorem zr158 : (Tryd.prog.info? 158).map (·.zero) = some (some (.int .i32 0)) := by kernel_rfl
theorem sz159 : (Tryd.prog.info? 159).map (·.size) = some 1 := by kernel_rfl
theorem by159 : (Tryd.prog.info? 159).map (·.bytes) = some 4 := by kernel_rfl
theorem ag159 : aggB Tryd.prog 159 = false := by kernel_rfl
theorem zr159 : (Tryd.prog.info? 159).map (·.zero) = some (some (.int .i32 0)) := by kernel_rfl
theorem sz160 : (Tryd.prog.info? 160).map (·.size) = some 11 := by kernel_rfl
theorem by160 : (Tryd.prog.info? 160).map (·.bytes) = some 48 := by kernel_rfl
theorem ag160 : aggB Tryd.prog 160 = true := by kernel_rfl
theorem nu160 : notInt Tryd.prog 160 = true := by kernel_rfl
theorem zr160 : (Tryd.prog.info? 160).map (·.zero) = some (some (.agg #[.int .u64 0, .int .u64 0, .int .u32 0, .int .u8 0, .int .u8 0, .int .u8 0, .int .u8 0, .nilFunc, .pointer none, .int .i32 0, .int .i32 0])) := by kernel_rfl
theorem pl160 : plOf Tryd.prog 160 = some [(0, 1), (1, 1), (2, 1), (3, 1), (4, 1), (5, 1), (6, 1), (7, 1), (8, 1), (9, 1), (10, 1)] := by kernel_rfl
theorem sz161 : (Tryd.prog.info? 161).map (·.size) = some 11 := by kernel_rfl
theorem by161 : (Tryd.prog.info? 161).map (·.bytes) = some 48 := by kernel_rfl
theorem ag161 : aggB Tryd.prog 161 = true := by kernel_rfl
theorem nu161 : notInt Tryd.prog 161 = true := by kernel_rfl
theorem zr161 : (Tryd.prog.info? 161).map (·.zero) = some (some (.agg #[.int .u64 0, .int .u64 0, .int .u32 0, .int .u8 0, .int .u8 0, .int .u8 0, .int .u8 0, .nilFunc, .pointer none, .int .i32 0, .int .i32 0])) := by kernel_rfl
theorem pl161 : plOf Tryd.prog 161 = some [(0, 1), (1, 1), (2, 1), (3, 1), (4, 1), (5, 1), (6, 1), (7, 1), (8, 1), (9, 1), (10, 1)] := by kernel_rfl
theorem sz170 : (Tryd.prog.info? 170).map (·.size) = some 2 := by kernel_rfl
theorem by170 : (Tryd.prog.info? 170).map (·.bytes) = some 24 := by kernel_rfl
theorem ag170 : aggB Tryd.prog 170 = true := by kernel_rfl
theorem nu170 : notInt Tryd.prog 170 = true := by kernel_rfl
theorem zr170 : (Tryd.prog.info? 170).map (·.zero) = some (some (.agg #[.string ByteArray.empty, .int .u8 0])) := by kernel_rfl
theorem pl170 : plOf Tryd.prog 170 = some [(0, 1), (1, 1)] := by kernel_rfl
theorem sz171 : (Tryd.prog.info? 171).map (·.size) = some 2 := by kernel_rfl
theorem by171 : (Tryd.prog.info? 171).map (·.bytes) = some 24 := by kernel_rfl
theorem ag171 : aggB Tryd.prog 171 = true := by kernel_rfl
theorem nu171 : notInt Tryd.prog 171 = true := by kernel_rfl
theorem zr171 : (Tryd.prog.info? 171).map (·.zero) = some (some (.agg #[.string ByteArray.empty, .int .u8 0])) := by kernel_rfl
theorem pl171 : plOf Tryd.prog 171 = some [(0, 1), (1, 1)] := by kernel_rfl
theorem sz172 : (Tryd.prog.info? 172).map (·.size) = some 1 := by kernel_rfl
theorem by172 : (Tryd.prog.info? 172).map (·.bytes) = some 16 := by kernel_rfl
theorem ag172 : aggB Tryd.prog 172 = true := by kernel_rfl
theorem nu172 : notInt Tryd.prog 172 = true := by kernel_rfl
theorem zr172 : (Tryd.prog.info? 172).map (·.zero) = some (some (.agg #[.string ByteArray.empty])) := by kernel_rfl
theorem pl172 : plOf Tryd.prog 172 = some [(0, 1)] := by kernel_rfl
theorem sz173 : (Tryd.prog.info? 173).map (·.size) = some 1 := by kernel_rfl
theorem by173 : (Tryd.prog.info? 173).map (·.bytes) = some 16 := by kernel_rfl
theorem ag173 : aggB Tryd.prog 173 = true := by kernel_rfl
theorem nu173 : notInt Tryd.prog 173 = true := by kernel_rfl
theorem zr173 : (Tryd.prog.info? 173).map (·.zero) = some (some (.agg #[.string ByteArray.empty])) := by kernel_rfl
theorem pl173 : plOf Tryd.prog 173 = some [(0, 1)] := by kernel_rfl
theorem sz174 : (Tryd.prog.info? 174).map (·.size) = some 1 := by kernel_rfl
theorem by174 : (Tryd.prog.info? 174).map (·.bytes) = some 8 := by kernel_rfl
theorem ag174 : aggB Tryd.prog 174 = false := by kernel_rfl
theorem nu174 : notInt Tryd.prog 174 = true := by kernel_rfl
theorem zr174 : (Tryd.prog.info? 174).map (·.zero) = some (some (.pointer none)) := by kernel_rfl
theorem sz176 : (Tryd.prog.info? 176).map (·.size) = some 1 := by kernel_rfl
theorem by176 : (Tryd.prog.info? 176).map (·.bytes) = some 8 := by kernel_rfl
theorem ag176 : aggB Tryd.prog 176 = false := by kernel_rfl
theorem nu176 : notInt Tryd.prog 176 = true := by kernel_rfl
theorem zr176 : (Tryd.prog.info? 176).map (·.zero) = some (some (.pointer none)) := by kernel_rfl
theorem sz178 : (Tryd.prog.info? 178).map (·.size) = some 5 := by kernel_rfl
theorem by178 : (Tryd.prog.info? 178).map (·.bytes) = some 16 := by kernel_rfl
theorem ag178 : aggB Tryd.prog 178 = true := by kernel_rfl
theorem nu178 : notInt Tryd.prog 178 = true := by kernel_rfl
theorem zr178 : (Tryd.prog.info? 178).map (·.zero) = some (some (.agg #[.int .i32 0, .int .u16 0, .int .u16 0, .int .u32 0, .int .u32 0])) := by kernel_rfl
theorem pl178 : plOf Tryd.prog 178 = some [(0, 1), (1, 1), (2, 1), (3, 1), (4, 1)] := by kernel_rfl
theorem sz179 : (Tryd.prog.info? 179).map (·.size) = some 5 := by kernel_rfl
theorem by179 : (Tryd.prog.info? 179).map (·.bytes) = some 16 := by kernel_rfl
theorem ag179 : aggB Tryd.prog 179 = true := by kernel_rfl
theorem nu179 : notInt Tryd.prog 179 = true := by kernel_rfl
theorem zr179 : (Tryd.prog.info? 179).map (·.zero) = some (some (.agg #[.int .i32 0, .int .u16 0, .int .u16 0, .int .u32 0, .int .u32 0])) := by kernel_rfl
theorem pl179 : plOf Tryd.prog 179 = some [(0, 1), (1, 1), (2, 1), (3, 1), (4, 1)] := by kernel_rfl
theorem sz180 : (Tryd.prog.info? 180).map (·.size) = some 1 := by kernel_rfl
theorem by180 : (Tryd.prog.info? 180).map (·.bytes) = some 24 := by kernel_rfl
theorem ag180 : aggB Tryd.prog 180 = false := by kernel_rfl
theorem nu180 : notInt Tryd.prog 180 = true := by kernel_rfl
theorem zr180 : (Tryd.prog.info? 180).map (·.zero) = some (some (.slice none 0 0)) := by kernel_rfl
theorem sz181 : (Tryd.prog.info? 181).map (·.size) = some 1 := by kernel_rfl
theorem by181 : (Tryd.prog.info? 181).map (·.bytes) = some 4 := by kernel_rfl
theorem ag181 : aggB Tryd.prog 181 = false := by kernel_rfl
theorem zr181 : (Tryd.prog.info? 181).map (·.zero) = some (some (.int .i32 0)) := by kernel_rfl
theorem sz182 : (Tryd.prog.info? 182).map (·.size) = some 4 := by kernel_rfl
theorem by182 : (Tryd.prog.info? 182).map (·.bytes) = some 16 := by kernel_rfl
theorem ag182 : aggB Tryd.prog 182 = true := by kernel_rfl
theorem nu182 : notInt Tryd.prog 182 = true := by kernel_rfl
theorem zr182 : (Tryd.prog.info? 182).map (·.zero) = some (some (.agg #[.int .i32 0, .int .i32 0, .int .i32 0, .int .i32 0])) := by kernel_rfl
theorem pl182 : plOf Tryd.prog 182 = some [(0, 1), (1, 1), (2, 1), (3, 1)] := by kernel_rfl
theorem sz183 : (Tryd.prog.info? 183).map (·.size) = some 4 := by kernel_rfl
theorem by183 : (Tryd.prog.info? 183).map (·.bytes) = some 16 := by kernel_rfl
theorem ag183 : aggB Tryd.prog 183 = true := by kernel_rfl
theorem nu183 : notInt Tryd.prog 183 = true := by kernel_rfl
theorem zr183 : (Tryd.prog.info? 183).map (·.zero) = some (some (.agg #[.int .i32 0, .int .i32 0, .int .i32 0, .int .i32 0])) := by kernel_rfl
theorem pl183 : plOf Tryd.prog 183 = some [(0, 1), (1, 1), (2, 1), (3, 1)] := by kernel_rfl
end Am
end Go.Proofs.YtmlnipbeancnpaaDoor
