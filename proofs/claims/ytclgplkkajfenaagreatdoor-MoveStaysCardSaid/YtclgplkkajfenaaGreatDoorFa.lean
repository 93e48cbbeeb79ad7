/- Closed facts on the program's types and functions, printed by a small program of this seat (tools/facts.py). -/
import Derived.Test.YtclgplkkajfenaaGreatDoorCalc
namespace Go.Proofs.YtclgplkkajfenaaGreatDoor
open Go Go.RowKit
theorem ag3 : ∀ w, (isAgg 3).run Tryz.prog w = .ok false w := fun _ => by kernel_rfl
theorem sz3 : ∀ w, (sizeOf 3).run Tryz.prog w = .ok 1 w := fun _ => by kernel_rfl
theorem zv3 : ∀ w, (zeroValue 3).run Tryz.prog w = .ok (.int .i64 0) w := fun _ => by kernel_rfl
theorem ag4 : ∀ w, (isAgg 4).run Tryz.prog w = .ok false w := fun _ => by kernel_rfl
theorem sz4 : ∀ w, (sizeOf 4).run Tryz.prog w = .ok 1 w := fun _ => by kernel_rfl
theorem zv4 : ∀ w, (zeroValue 4).run Tryz.prog w = .ok (.bool false) w := fun _ => by kernel_rfl
theorem ag5 : ∀ w, (isAgg 5).run Tryz.prog w = .ok false w := fun _ => by kernel_rfl
theorem sz5 : ∀ w, (sizeOf 5).run Tryz.prog w = .ok 1 w := fun _ => by kernel_rfl
theorem zv5 : ∀ w, (zeroValue 5).run Tryz.prog w = .ok (.int .u8 0) w := fun _ => by kernel_rfl
theorem ag9 : ∀ w, (isAgg 9).run Tryz.prog w = .ok false w := fun _ => by kernel_rfl
theorem sz9 : ∀ w, (sizeOf 9).run Tryz.prog w = .ok 1 w := fun _ => by kernel_rfl
theorem zv9 : ∀ w, (zeroValue 9).run Tryz.prog w = .ok (.string ⟨#[]⟩) w := fun _ => by kernel_rfl
theorem ag21 : ∀ w, (isAgg 21).run Tryz.prog w = .ok false w := fun _ => by kernel_rfl
theorem sz21 : ∀ w, (sizeOf 21).run Tryz.prog w = .ok 1 w := fun _ => by kernel_rfl
theorem zv21 : ∀ w, (zeroValue 21).run Tryz.prog w = .ok (.int .i32 0) w := fun _ => by kernel_rfl
theorem ag23 : ∀ w, (isAgg 23).run Tryz.prog w = .ok true w := fun _ => by kernel_rfl
theorem sz23 : ∀ w, (sizeOf 23).run Tryz.prog w = .ok 2 w := fun _ => by kernel_rfl
theorem zv23 : ∀ w, (zeroValue 23).run Tryz.prog w = .ok (.agg #[.string ⟨#[]⟩, .int .i64 0]) w := fun _ => by kernel_rfl
theorem ag28 : ∀ w, (isAgg 28).run Tryz.prog w = .ok false w := fun _ => by kernel_rfl
theorem sz28 : ∀ w, (sizeOf 28).run Tryz.prog w = .ok 1 w := fun _ => by kernel_rfl
theorem zv28 : ∀ w, (zeroValue 28).run Tryz.prog w = .ok (.nilIface) w := fun _ => by kernel_rfl
theorem ag31 : ∀ w, (isAgg 31).run Tryz.prog w = .ok false w := fun _ => by kernel_rfl
theorem sz31 : ∀ w, (sizeOf 31).run Tryz.prog w = .ok 1 w := fun _ => by kernel_rfl
theorem zv31 : ∀ w, (zeroValue 31).run Tryz.prog w = .ok (.int .i64 0) w := fun _ => by kernel_rfl
theorem ag37 : ∀ w, (isAgg 37).run Tryz.prog w = .ok true w := fun _ => by kernel_rfl
theorem sz37 : ∀ w, (sizeOf 37).run Tryz.prog w = .ok 2 w := fun _ => by kernel_rfl
theorem zv37 : ∀ w, (zeroValue 37).run Tryz.prog w = .ok (.agg #[.int .i64 0, .int .i64 0]) w := fun _ => by kernel_rfl
theorem ag41 : ∀ w, (isAgg 41).run Tryz.prog w = .ok true w := fun _ => by kernel_rfl
theorem sz41 : ∀ w, (sizeOf 41).run Tryz.prog w = .ok 2 w := fun _ => by kernel_rfl
theorem zv41 : ∀ w, (zeroValue 41).run Tryz.prog w = .ok (.agg #[.int .i64 0, .int .i64 0]) w := fun _ => by kernel_rfl
theorem ag49 : ∀ w, (isAgg 49).run Tryz.prog w = .ok true w := fun _ => by kernel_rfl
theorem sz49 : ∀ w, (sizeOf 49).run Tryz.prog w = .ok 3 w := fun _ => by kernel_rfl
theorem zv49 : ∀ w, (zeroValue 49).run Tryz.prog w = .ok (.agg #[.int .i64 0, .int .i64 0, .int .i64 0]) w := fun _ => by kernel_rfl
theorem ag56 : ∀ w, (isAgg 56).run Tryz.prog w = .ok false w := fun _ => by kernel_rfl
theorem sz56 : ∀ w, (sizeOf 56).run Tryz.prog w = .ok 1 w := fun _ => by kernel_rfl
theorem zv56 : ∀ w, (zeroValue 56).run Tryz.prog w = .ok (.pointer none) w := fun _ => by kernel_rfl
theorem ag60 : ∀ w, (isAgg 60).run Tryz.prog w = .ok false w := fun _ => by kernel_rfl
theorem sz60 : ∀ w, (sizeOf 60).run Tryz.prog w = .ok 1 w := fun _ => by kernel_rfl
theorem zv60 : ∀ w, (zeroValue 60).run Tryz.prog w = .ok (.int .i64 0) w := fun _ => by kernel_rfl
theorem ag62 : ∀ w, (isAgg 62).run Tryz.prog w = .ok true w := fun _ => by kernel_rfl
theorem sz62 : ∀ w, (sizeOf 62).run Tryz.prog w = .ok 5 w := fun _ => by kernel_rfl
theorem zv62 : ∀ w, (zeroValue 62).run Tryz.prog w = .ok (.agg #[.int .i64 0, .int .i64 0, .int .i64 0, .int .i64 0, .string ⟨#[]⟩]) w := fun _ => by kernel_rfl
theorem ag75 : ∀ w, (isAgg 75).run Tryz.prog w = .ok true w := fun _ => by kernel_rfl
theorem sz75 : ∀ w, (sizeOf 75).run Tryz.prog w = .ok 3 w := fun _ => by kernel_rfl
theorem zv75 : ∀ w, (zeroValue 75).run Tryz.prog w = .ok (.agg #[.int .i64 0, .int .i64 0, .int .i64 0]) w := fun _ => by kernel_rfl
theorem ag78 : ∀ w, (isAgg 78).run Tryz.prog w = .ok false w := fun _ => by kernel_rfl
theorem sz78 : ∀ w, (sizeOf 78).run Tryz.prog w = .ok 1 w := fun _ => by kernel_rfl
theorem zv78 : ∀ w, (zeroValue 78).run Tryz.prog w = .ok (.nilFunc) w := fun _ => by kernel_rfl
theorem ag87 : ∀ w, (isAgg 87).run Tryz.prog w = .ok true w := fun _ => by kernel_rfl
theorem sz87 : ∀ w, (sizeOf 87).run Tryz.prog w = .ok 4 w := fun _ => by kernel_rfl
theorem zv87 : ∀ w, (zeroValue 87).run Tryz.prog w = .ok (.agg #[.int .i64 0, .int .i64 0, .int .i64 0, .string ⟨#[]⟩]) w := fun _ => by kernel_rfl
theorem ag89 : ∀ w, (isAgg 89).run Tryz.prog w = .ok true w := fun _ => by kernel_rfl
theorem sz89 : ∀ w, (sizeOf 89).run Tryz.prog w = .ok 4 w := fun _ => by kernel_rfl
theorem zv89 : ∀ w, (zeroValue 89).run Tryz.prog w = .ok (.agg #[.int .i64 0, .int .i64 0, .int .i64 0, .int .i64 0]) w := fun _ => by kernel_rfl
theorem ag91 : ∀ w, (isAgg 91).run Tryz.prog w = .ok true w := fun _ => by kernel_rfl
theorem sz91 : ∀ w, (sizeOf 91).run Tryz.prog w = .ok 7 w := fun _ => by kernel_rfl
theorem zv91 : ∀ w, (zeroValue 91).run Tryz.prog w = .ok (.agg #[.int .i64 0, .int .i64 0, .int .i64 0, .int .i64 0, .int .i64 0, .string ⟨#[]⟩, .string ⟨#[]⟩]) w := fun _ => by kernel_rfl
theorem ag93 : ∀ w, (isAgg 93).run Tryz.prog w = .ok true w := fun _ => by kernel_rfl
theorem sz93 : ∀ w, (sizeOf 93).run Tryz.prog w = .ok 15 w := fun _ => by kernel_rfl
theorem zv93 : ∀ w, (zeroValue 93).run Tryz.prog w = .ok (.agg #[.string ⟨#[]⟩, .string ⟨#[]⟩, .int .i64 0, .int .i64 0, .int .i64 0, .int .i64 0, .int .i64 0, .bool false, .int .i64 0, .int .i64 0, .int .i64 0, .int .i64 0, .int .i64 0, .string ⟨#[]⟩, .string ⟨#[]⟩]) w := fun _ => by kernel_rfl
theorem ag103 : ∀ w, (isAgg 103).run Tryz.prog w = .ok true w := fun _ => by kernel_rfl
theorem sz103 : ∀ w, (sizeOf 103).run Tryz.prog w = .ok 8 w := fun _ => by kernel_rfl
theorem zv103 : ∀ w, (zeroValue 103).run Tryz.prog w = .ok (.agg #[.nilIface, .int .i64 0, .int .i64 0, .int .i64 0, .int .i64 0, .int .i64 0, .int .i64 0, .int .i64 0]) w := fun _ => by kernel_rfl
theorem ag107 : ∀ w, (isAgg 107).run Tryz.prog w = .ok false w := fun _ => by kernel_rfl
theorem sz107 : ∀ w, (sizeOf 107).run Tryz.prog w = .ok 1 w := fun _ => by kernel_rfl
theorem zv107 : ∀ w, (zeroValue 107).run Tryz.prog w = .ok (.pointer none) w := fun _ => by kernel_rfl
theorem ag109 : ∀ w, (isAgg 109).run Tryz.prog w = .ok true w := fun _ => by kernel_rfl
theorem sz109 : ∀ w, (sizeOf 109).run Tryz.prog w = .ok 8 w := fun _ => by kernel_rfl
theorem zv109 : ∀ w, (zeroValue 109).run Tryz.prog w = .ok (.agg #[.pointer none, .int .i64 0, .int .i64 0, .int .i64 0, .int .i64 0, .int .i64 0, .int .i64 0, .int .i64 0]) w := fun _ => by kernel_rfl
theorem ag111 : ∀ w, (isAgg 111).run Tryz.prog w = .ok false w := fun _ => by kernel_rfl
theorem sz111 : ∀ w, (sizeOf 111).run Tryz.prog w = .ok 1 w := fun _ => by kernel_rfl
theorem zv111 : ∀ w, (zeroValue 111).run Tryz.prog w = .ok (.slice none 0 0) w := fun _ => by kernel_rfl
theorem ag116 : ∀ w, (isAgg 116).run Tryz.prog w = .ok false w := fun _ => by kernel_rfl
theorem sz116 : ∀ w, (sizeOf 116).run Tryz.prog w = .ok 1 w := fun _ => by kernel_rfl
theorem zv116 : ∀ w, (zeroValue 116).run Tryz.prog w = .ok (.slice none 0 0) w := fun _ => by kernel_rfl
theorem ag118 : ∀ w, (isAgg 118).run Tryz.prog w = .ok false w := fun _ => by kernel_rfl
theorem sz118 : ∀ w, (sizeOf 118).run Tryz.prog w = .ok 1 w := fun _ => by kernel_rfl
theorem zv118 : ∀ w, (zeroValue 118).run Tryz.prog w = .ok (.int .i64 0) w := fun _ => by kernel_rfl
theorem ag136 : ∀ w, (isAgg 136).run Tryz.prog w = .ok false w := fun _ => by kernel_rfl
theorem sz136 : ∀ w, (sizeOf 136).run Tryz.prog w = .ok 1 w := fun _ => by kernel_rfl
theorem zv136 : ∀ w, (zeroValue 136).run Tryz.prog w = .ok (.int .i64 0) w := fun _ => by kernel_rfl
theorem ag138 : ∀ w, (isAgg 138).run Tryz.prog w = .ok true w := fun _ => by kernel_rfl
theorem sz138 : ∀ w, (sizeOf 138).run Tryz.prog w = .ok 4 w := fun _ => by kernel_rfl
theorem zv138 : ∀ w, (zeroValue 138).run Tryz.prog w = .ok (.agg #[.int .i64 0, .int .i64 0, .int .i64 0, .int .i64 0]) w := fun _ => by kernel_rfl
theorem ag139 : ∀ w, (isAgg 139).run Tryz.prog w = .ok false w := fun _ => by kernel_rfl
theorem sz139 : ∀ w, (sizeOf 139).run Tryz.prog w = .ok 1 w := fun _ => by kernel_rfl
theorem zv139 : ∀ w, (zeroValue 139).run Tryz.prog w = .ok (.slice none 0 0) w := fun _ => by kernel_rfl
theorem ag146 : ∀ w, (isAgg 146).run Tryz.prog w = .ok true w := fun _ => by kernel_rfl
theorem sz146 : ∀ w, (sizeOf 146).run Tryz.prog w = .ok 4 w := fun _ => by kernel_rfl
theorem zv146 : ∀ w, (zeroValue 146).run Tryz.prog w = .ok (.agg #[.slice none 0 0, .int .i64 0, .int .i64 0, .int .i64 0]) w := fun _ => by kernel_rfl
theorem ag161 : ∀ w, (isAgg 161).run Tryz.prog w = .ok false w := fun _ => by kernel_rfl
theorem sz161 : ∀ w, (sizeOf 161).run Tryz.prog w = .ok 1 w := fun _ => by kernel_rfl
theorem zv161 : ∀ w, (zeroValue 161).run Tryz.prog w = .ok (.nilFunc) w := fun _ => by kernel_rfl
theorem ag163 : ∀ w, (isAgg 163).run Tryz.prog w = .ok true w := fun _ => by kernel_rfl
theorem sz163 : ∀ w, (sizeOf 163).run Tryz.prog w = .ok 2 w := fun _ => by kernel_rfl
theorem zv163 : ∀ w, (zeroValue 163).run Tryz.prog w = .ok (.agg #[.int .i64 0, .nilFunc]) w := fun _ => by kernel_rfl
theorem ag168 : ∀ w, (isAgg 168).run Tryz.prog w = .ok true w := fun _ => by kernel_rfl
theorem sz168 : ∀ w, (sizeOf 168).run Tryz.prog w = .ok 2 w := fun _ => by kernel_rfl
theorem zv168 : ∀ w, (zeroValue 168).run Tryz.prog w = .ok (.agg #[.pointer none, .int .i64 0]) w := fun _ => by kernel_rfl
theorem ag173 : ∀ w, (isAgg 173).run Tryz.prog w = .ok true w := fun _ => by kernel_rfl
theorem sz173 : ∀ w, (sizeOf 173).run Tryz.prog w = .ok 3 w := fun _ => by kernel_rfl
theorem zv173 : ∀ w, (zeroValue 173).run Tryz.prog w = .ok (.agg #[.int .i64 0, .int .i64 0, .slice none 0 0]) w := fun _ => by kernel_rfl
theorem ag177 : ∀ w, (isAgg 177).run Tryz.prog w = .ok true w := fun _ => by kernel_rfl
theorem sz177 : ∀ w, (sizeOf 177).run Tryz.prog w = .ok 2 w := fun _ => by kernel_rfl
theorem zv177 : ∀ w, (zeroValue 177).run Tryz.prog w = .ok (.agg #[.int .i32 0, .int .i64 0]) w := fun _ => by kernel_rfl
theorem ag193 : ∀ w, (isAgg 193).run Tryz.prog w = .ok false w := fun _ => by kernel_rfl
theorem sz193 : ∀ w, (sizeOf 193).run Tryz.prog w = .ok 1 w := fun _ => by kernel_rfl
theorem zv193 : ∀ w, (zeroValue 193).run Tryz.prog w = .ok (.pointer none) w := fun _ => by kernel_rfl
theorem ag196 : ∀ w, (isAgg 196).run Tryz.prog w = .ok true w := fun _ => by kernel_rfl
theorem sz196 : ∀ w, (sizeOf 196).run Tryz.prog w = .ok 2 w := fun _ => by kernel_rfl
theorem zv196 : ∀ w, (zeroValue 196).run Tryz.prog w = .ok (.agg #[.pointer none, .int .i64 0]) w := fun _ => by kernel_rfl
theorem ag198 : ∀ w, (isAgg 198).run Tryz.prog w = .ok true w := fun _ => by kernel_rfl
theorem sz198 : ∀ w, (sizeOf 198).run Tryz.prog w = .ok 3 w := fun _ => by kernel_rfl
theorem zv198 : ∀ w, (zeroValue 198).run Tryz.prog w = .ok (.agg #[.string ⟨#[]⟩, .int .i64 0, .int .i64 0]) w := fun _ => by kernel_rfl
theorem ag208 : ∀ w, (isAgg 208).run Tryz.prog w = .ok false w := fun _ => by kernel_rfl
theorem sz208 : ∀ w, (sizeOf 208).run Tryz.prog w = .ok 1 w := fun _ => by kernel_rfl
theorem zv208 : ∀ w, (zeroValue 208).run Tryz.prog w = .ok (.pointer none) w := fun _ => by kernel_rfl
theorem ag211 : ∀ w, (isAgg 211).run Tryz.prog w = .ok true w := fun _ => by kernel_rfl
theorem sz211 : ∀ w, (sizeOf 211).run Tryz.prog w = .ok 1 w := fun _ => by kernel_rfl
theorem zv211 : ∀ w, (zeroValue 211).run Tryz.prog w = .ok (.agg #[.pointer none]) w := fun _ => by kernel_rfl
theorem ag219 : ∀ w, (isAgg 219).run Tryz.prog w = .ok false w := fun _ => by kernel_rfl
theorem sz219 : ∀ w, (sizeOf 219).run Tryz.prog w = .ok 1 w := fun _ => by kernel_rfl
theorem zv219 : ∀ w, (zeroValue 219).run Tryz.prog w = .ok (.slice none 0 0) w := fun _ => by kernel_rfl
theorem ag228 : ∀ w, (isAgg 228).run Tryz.prog w = .ok true w := fun _ => by kernel_rfl
theorem sz228 : ∀ w, (sizeOf 228).run Tryz.prog w = .ok 11 w := fun _ => by kernel_rfl
theorem zv228 : ∀ w, (zeroValue 228).run Tryz.prog w = .ok (.agg #[.pointer none, .pointer none, .int .i64 0, .int .i64 0, .int .i64 0, .int .i64 0, .int .i64 0, .int .i64 0, .string ⟨#[]⟩, .string ⟨#[]⟩, .string ⟨#[]⟩]) w := fun _ => by kernel_rfl
theorem ag242 : ∀ w, (isAgg 242).run Tryz.prog w = .ok true w := fun _ => by kernel_rfl
theorem sz242 : ∀ w, (sizeOf 242).run Tryz.prog w = .ok 2 w := fun _ => by kernel_rfl
theorem zv242 : ∀ w, (zeroValue 242).run Tryz.prog w = .ok (.agg #[.int .u8 0, .int .u8 0]) w := fun _ => by kernel_rfl
theorem ag249 : ∀ w, (isAgg 249).run Tryz.prog w = .ok true w := fun _ => by kernel_rfl
theorem sz249 : ∀ w, (sizeOf 249).run Tryz.prog w = .ok 28 w := fun _ => by kernel_rfl
theorem zv249 : ∀ w, (zeroValue 249).run Tryz.prog w = .ok (.agg #[.int .i32 0, .int .i32 0, .int .i32 0, .int .i32 0, .int .i32 0, .int .i32 0, .int .i32 0, .int .i32 0, .int .i32 0, .int .i32 0, .int .i32 0, .int .i32 0, .int .i32 0, .int .i32 0, .int .i32 0, .int .i32 0, .int .i32 0, .int .i32 0, .int .i32 0, .int .i32 0, .int .i32 0, .int .i32 0, .int .i32 0, .int .i32 0, .int .i32 0, .int .i32 0, .int .i32 0, .int .i32 0]) w := fun _ => by kernel_rfl
theorem ag272 : ∀ w, (isAgg 272).run Tryz.prog w = .ok false w := fun _ => by kernel_rfl
theorem sz272 : ∀ w, (sizeOf 272).run Tryz.prog w = .ok 1 w := fun _ => by kernel_rfl
theorem zv272 : ∀ w, (zeroValue 272).run Tryz.prog w = .ok (.pointer none) w := fun _ => by kernel_rfl
theorem ag274 : ∀ w, (isAgg 274).run Tryz.prog w = .ok true w := fun _ => by kernel_rfl
theorem sz274 : ∀ w, (sizeOf 274).run Tryz.prog w = .ok 2 w := fun _ => by kernel_rfl
theorem zv274 : ∀ w, (zeroValue 274).run Tryz.prog w = .ok (.agg #[.pointer none, .slice none 0 0]) w := fun _ => by kernel_rfl
theorem fa23_0 : ∀ a w, (Instr.fieldAt 23 (.pointer (some a)) 0).run Tryz.prog w = .ok (.pointer (some (a.add 0))) w := fun _ _ => by kernel_rfl
theorem fa23_1 : ∀ a w, (Instr.fieldAt 23 (.pointer (some a)) 1).run Tryz.prog w = .ok (.pointer (some (a.add 1))) w := fun _ _ => by kernel_rfl
theorem fa37_0 : ∀ a w, (Instr.fieldAt 37 (.pointer (some a)) 0).run Tryz.prog w = .ok (.pointer (some (a.add 0))) w := fun _ _ => by kernel_rfl
theorem fa37_1 : ∀ a w, (Instr.fieldAt 37 (.pointer (some a)) 1).run Tryz.prog w = .ok (.pointer (some (a.add 1))) w := fun _ _ => by kernel_rfl
theorem fa41_0 : ∀ a w, (Instr.fieldAt 41 (.pointer (some a)) 0).run Tryz.prog w = .ok (.pointer (some (a.add 0))) w := fun _ _ => by kernel_rfl
theorem fa41_1 : ∀ a w, (Instr.fieldAt 41 (.pointer (some a)) 1).run Tryz.prog w = .ok (.pointer (some (a.add 1))) w := fun _ _ => by kernel_rfl
theorem fa49_0 : ∀ a w, (Instr.fieldAt 49 (.pointer (some a)) 0).run Tryz.prog w = .ok (.pointer (some (a.add 0))) w := fun _ _ => by kernel_rfl
theorem fa49_1 : ∀ a w, (Instr.fieldAt 49 (.pointer (some a)) 1).run Tryz.prog w = .ok (.pointer (some (a.add 1))) w := fun _ _ => by kernel_rfl
theorem fa62_0 : ∀ a w, (Instr.fieldAt 62 (.pointer (some a)) 0).run Tryz.prog w = .ok (.pointer (some (a.add 0))) w := fun _ _ => by kernel_rfl
theorem fa62_1 : ∀ a w, (Instr.fieldAt 62 (.pointer (some a)) 1).run Tryz.prog w = .ok (.pointer (some (a.add 1))) w := fun _ _ => by kernel_rfl
theorem fa62_2 : ∀ a w, (Instr.fieldAt 62 (.pointer (some a)) 2).run Tryz.prog w = .ok (.pointer (some (a.add 2))) w := fun _ _ => by kernel_rfl
theorem fa62_3 : ∀ a w, (Instr.fieldAt 62 (.pointer (some a)) 3).run Tryz.prog w = .ok (.pointer (some (a.add 3))) w := fun _ _ => by kernel_rfl
theorem fa62_4 : ∀ a w, (Instr.fieldAt 62 (.pointer (some a)) 4).run Tryz.prog w = .ok (.pointer (some (a.add 4))) w := fun _ _ => by kernel_rfl
theorem fa75_0 : ∀ a w, (Instr.fieldAt 75 (.pointer (some a)) 0).run Tryz.prog w = .ok (.pointer (some (a.add 0))) w := fun _ _ => by kernel_rfl
theorem fa75_1 : ∀ a w, (Instr.fieldAt 75 (.pointer (some a)) 1).run Tryz.prog w = .ok (.pointer (some (a.add 1))) w := fun _ _ => by kernel_rfl
theorem fa75_2 : ∀ a w, (Instr.fieldAt 75 (.pointer (some a)) 2).run Tryz.prog w = .ok (.pointer (some (a.add 2))) w := fun _ _ => by kernel_rfl
theorem fa87_0 : ∀ a w, (Instr.fieldAt 87 (.pointer (some a)) 0).run Tryz.prog w = .ok (.pointer (some (a.add 0))) w := fun _ _ => by kernel_rfl
theorem fa87_1 : ∀ a w, (Instr.fieldAt 87 (.pointer (some a)) 1).run Tryz.prog w = .ok (.pointer (some (a.add 1))) w := fun _ _ => by kernel_rfl
theorem fa87_2 : ∀ a w, (Instr.fieldAt 87 (.pointer (some a)) 2).run Tryz.prog w = .ok (.pointer (some (a.add 2))) w := fun _ _ => by kernel_rfl
theorem fa87_3 : ∀ a w, (Instr.fieldAt 87 (.pointer (some a)) 3).run Tryz.prog w = .ok (.pointer (some (a.add 3))) w := fun _ _ => by kernel_rfl
theorem fa91_0 : ∀ a w, (Instr.fieldAt 91 (.pointer (some a)) 0).run Tryz.prog w = .ok (.pointer (some (a.add 0))) w := fun _ _ => by kernel_rfl
theorem fa91_1 : ∀ a w, (Instr.fieldAt 91 (.pointer (some a)) 1).run Tryz.prog w = .ok (.pointer (some (a.add 1))) w := fun _ _ => by kernel_rfl
theorem fa91_2 : ∀ a w, (Instr.fieldAt 91 (.pointer (some a)) 2).run Tryz.prog w = .ok (.pointer (some (a.add 2))) w := fun _ _ => by kernel_rfl
theorem fa91_3 : ∀ a w, (Instr.fieldAt 91 (.pointer (some a)) 3).run Tryz.prog w = .ok (.pointer (some (a.add 3))) w := fun _ _ => by kernel_rfl
theorem fa91_4 : ∀ a w, (Instr.fieldAt 91 (.pointer (some a)) 4).run Tryz.prog w = .ok (.pointer (some (a.add 4))) w := fun _ _ => by kernel_rfl
theorem fa91_5 : ∀ a w, (Instr.fieldAt 91 (.pointer (some a)) 5).run Tryz.prog w = .ok (.pointer (some (a.add 5))) w := fun _ _ => by kernel_rfl
theorem fa91_6 : ∀ a w, (Instr.fieldAt 91 (.pointer (some a)) 6).run Tryz.prog w = .ok (.pointer (some (a.add 6))) w := fun _ _ => by kernel_rfl
theorem fa93_0 : ∀ a w, (Instr.fieldAt 93 (.pointer (some a)) 0).run Tryz.prog w = .ok (.pointer (some (a.add 0))) w := fun _ _ => by kernel_rfl
theorem fa93_1 : ∀ a w, (Instr.fieldAt 93 (.pointer (some a)) 1).run Tryz.prog w = .ok (.pointer (some (a.add 1))) w := fun _ _ => by kernel_rfl
theorem fa93_2 : ∀ a w, (Instr.fieldAt 93 (.pointer (some a)) 2).run Tryz.prog w = .ok (.pointer (some (a.add 2))) w := fun _ _ => by kernel_rfl
theorem fa93_3 : ∀ a w, (Instr.fieldAt 93 (.pointer (some a)) 3).run Tryz.prog w = .ok (.pointer (some (a.add 3))) w := fun _ _ => by kernel_rfl
theorem fa93_4 : ∀ a w, (Instr.fieldAt 93 (.pointer (some a)) 4).run Tryz.prog w = .ok (.pointer (some (a.add 7))) w := fun _ _ => by kernel_rfl
theorem fa93_5 : ∀ a w, (Instr.fieldAt 93 (.pointer (some a)) 5).run Tryz.prog w = .ok (.pointer (some (a.add 8))) w := fun _ _ => by kernel_rfl
theorem fa103_0 : ∀ a w, (Instr.fieldAt 103 (.pointer (some a)) 0).run Tryz.prog w = .ok (.pointer (some (a.add 0))) w := fun _ _ => by kernel_rfl
theorem fa103_1 : ∀ a w, (Instr.fieldAt 103 (.pointer (some a)) 1).run Tryz.prog w = .ok (.pointer (some (a.add 1))) w := fun _ _ => by kernel_rfl
theorem fa103_2 : ∀ a w, (Instr.fieldAt 103 (.pointer (some a)) 2).run Tryz.prog w = .ok (.pointer (some (a.add 2))) w := fun _ _ => by kernel_rfl
theorem fa103_3 : ∀ a w, (Instr.fieldAt 103 (.pointer (some a)) 3).run Tryz.prog w = .ok (.pointer (some (a.add 3))) w := fun _ _ => by kernel_rfl
theorem fa103_4 : ∀ a w, (Instr.fieldAt 103 (.pointer (some a)) 4).run Tryz.prog w = .ok (.pointer (some (a.add 4))) w := fun _ _ => by kernel_rfl
theorem fa103_5 : ∀ a w, (Instr.fieldAt 103 (.pointer (some a)) 5).run Tryz.prog w = .ok (.pointer (some (a.add 5))) w := fun _ _ => by kernel_rfl
theorem fa109_0 : ∀ a w, (Instr.fieldAt 109 (.pointer (some a)) 0).run Tryz.prog w = .ok (.pointer (some (a.add 0))) w := fun _ _ => by kernel_rfl
theorem fa109_1 : ∀ a w, (Instr.fieldAt 109 (.pointer (some a)) 1).run Tryz.prog w = .ok (.pointer (some (a.add 1))) w := fun _ _ => by kernel_rfl
theorem fa109_2 : ∀ a w, (Instr.fieldAt 109 (.pointer (some a)) 2).run Tryz.prog w = .ok (.pointer (some (a.add 2))) w := fun _ _ => by kernel_rfl
theorem fa109_3 : ∀ a w, (Instr.fieldAt 109 (.pointer (some a)) 3).run Tryz.prog w = .ok (.pointer (some (a.add 3))) w := fun _ _ => by kernel_rfl
theorem fa109_4 : ∀ a w, (Instr.fieldAt 109 (.pointer (some a)) 4).run Tryz.prog w = .ok (.pointer (some (a.add 4))) w := fun _ _ => by kernel_rfl
theorem fa109_5 : ∀ a w, (Instr.fieldAt 109 (.pointer (some a)) 5).run Tryz.prog w = .ok (.pointer (some (a.add 5))) w := fun _ _ => by kernel_rfl
theorem fa138_0 : ∀ a w, (Instr.fieldAt 138 (.pointer (some a)) 0).run Tryz.prog w = .ok (.pointer (some (a.add 0))) w := fun _ _ => by kernel_rfl
theorem fa138_1 : ∀ a w, (Instr.fieldAt 138 (.pointer (some a)) 1).run Tryz.prog w = .ok (.pointer (some (a.add 1))) w := fun _ _ => by kernel_rfl
theorem fa138_2 : ∀ a w, (Instr.fieldAt 138 (.pointer (some a)) 2).run Tryz.prog w = .ok (.pointer (some (a.add 2))) w := fun _ _ => by kernel_rfl
theorem fa138_3 : ∀ a w, (Instr.fieldAt 138 (.pointer (some a)) 3).run Tryz.prog w = .ok (.pointer (some (a.add 3))) w := fun _ _ => by kernel_rfl
theorem fa146_0 : ∀ a w, (Instr.fieldAt 146 (.pointer (some a)) 0).run Tryz.prog w = .ok (.pointer (some (a.add 0))) w := fun _ _ => by kernel_rfl
theorem fa146_1 : ∀ a w, (Instr.fieldAt 146 (.pointer (some a)) 1).run Tryz.prog w = .ok (.pointer (some (a.add 1))) w := fun _ _ => by kernel_rfl
theorem fa146_2 : ∀ a w, (Instr.fieldAt 146 (.pointer (some a)) 2).run Tryz.prog w = .ok (.pointer (some (a.add 2))) w := fun _ _ => by kernel_rfl
theorem fa146_3 : ∀ a w, (Instr.fieldAt 146 (.pointer (some a)) 3).run Tryz.prog w = .ok (.pointer (some (a.add 3))) w := fun _ _ => by kernel_rfl
theorem fa163_0 : ∀ a w, (Instr.fieldAt 163 (.pointer (some a)) 0).run Tryz.prog w = .ok (.pointer (some (a.add 0))) w := fun _ _ => by kernel_rfl
theorem fa163_1 : ∀ a w, (Instr.fieldAt 163 (.pointer (some a)) 1).run Tryz.prog w = .ok (.pointer (some (a.add 1))) w := fun _ _ => by kernel_rfl
theorem fa168_0 : ∀ a w, (Instr.fieldAt 168 (.pointer (some a)) 0).run Tryz.prog w = .ok (.pointer (some (a.add 0))) w := fun _ _ => by kernel_rfl
theorem fa168_1 : ∀ a w, (Instr.fieldAt 168 (.pointer (some a)) 1).run Tryz.prog w = .ok (.pointer (some (a.add 1))) w := fun _ _ => by kernel_rfl
theorem fa173_0 : ∀ a w, (Instr.fieldAt 173 (.pointer (some a)) 0).run Tryz.prog w = .ok (.pointer (some (a.add 0))) w := fun _ _ => by kernel_rfl
theorem fa173_1 : ∀ a w, (Instr.fieldAt 173 (.pointer (some a)) 1).run Tryz.prog w = .ok (.pointer (some (a.add 1))) w := fun _ _ => by kernel_rfl
theorem fa173_2 : ∀ a w, (Instr.fieldAt 173 (.pointer (some a)) 2).run Tryz.prog w = .ok (.pointer (some (a.add 2))) w := fun _ _ => by kernel_rfl
theorem fa177_0 : ∀ a w, (Instr.fieldAt 177 (.pointer (some a)) 0).run Tryz.prog w = .ok (.pointer (some (a.add 0))) w := fun _ _ => by kernel_rfl
theorem fa177_1 : ∀ a w, (Instr.fieldAt 177 (.pointer (some a)) 1).run Tryz.prog w = .ok (.pointer (some (a.add 1))) w := fun _ _ => by kernel_rfl
theorem fa196_0 : ∀ a w, (Instr.fieldAt 196 (.pointer (some a)) 0).run Tryz.prog w = .ok (.pointer (some (a.add 0))) w := fun _ _ => by kernel_rfl
theorem fa196_1 : ∀ a w, (Instr.fieldAt 196 (.pointer (some a)) 1).run Tryz.prog w = .ok (.pointer (some (a.add 1))) w := fun _ _ => by kernel_rfl
theorem fa198_0 : ∀ a w, (Instr.fieldAt 198 (.pointer (some a)) 0).run Tryz.prog w = .ok (.pointer (some (a.add 0))) w := fun _ _ => by kernel_rfl
theorem fa198_1 : ∀ a w, (Instr.fieldAt 198 (.pointer (some a)) 1).run Tryz.prog w = .ok (.pointer (some (a.add 1))) w := fun _ _ => by kernel_rfl
theorem fa198_2 : ∀ a w, (Instr.fieldAt 198 (.pointer (some a)) 2).run Tryz.prog w = .ok (.pointer (some (a.add 2))) w := fun _ _ => by kernel_rfl
theorem fa211_0 : ∀ a w, (Instr.fieldAt 211 (.pointer (some a)) 0).run Tryz.prog w = .ok (.pointer (some (a.add 0))) w := fun _ _ => by kernel_rfl
theorem fa224_0 : ∀ a w, (Instr.fieldAt 224 (.pointer (some a)) 0).run Tryz.prog w = .ok (.pointer (some (a.add 0))) w := fun _ _ => by kernel_rfl
theorem fa224_1 : ∀ a w, (Instr.fieldAt 224 (.pointer (some a)) 1).run Tryz.prog w = .ok (.pointer (some (a.add 1))) w := fun _ _ => by kernel_rfl
theorem fa228_0 : ∀ a w, (Instr.fieldAt 228 (.pointer (some a)) 0).run Tryz.prog w = .ok (.pointer (some (a.add 0))) w := fun _ _ => by kernel_rfl
theorem fa228_1 : ∀ a w, (Instr.fieldAt 228 (.pointer (some a)) 1).run Tryz.prog w = .ok (.pointer (some (a.add 1))) w := fun _ _ => by kernel_rfl
theorem fa228_2 : ∀ a w, (Instr.fieldAt 228 (.pointer (some a)) 2).run Tryz.prog w = .ok (.pointer (some (a.add 2))) w := fun _ _ => by kernel_rfl
theorem fa228_3 : ∀ a w, (Instr.fieldAt 228 (.pointer (some a)) 3).run Tryz.prog w = .ok (.pointer (some (a.add 3))) w := fun _ _ => by kernel_rfl
theorem fa228_4 : ∀ a w, (Instr.fieldAt 228 (.pointer (some a)) 4).run Tryz.prog w = .ok (.pointer (some (a.add 10))) w := fun _ _ => by kernel_rfl
theorem fa242_0 : ∀ a w, (Instr.fieldAt 242 (.pointer (some a)) 0).run Tryz.prog w = .ok (.pointer (some (a.add 0))) w := fun _ _ => by kernel_rfl
theorem fa242_1 : ∀ a w, (Instr.fieldAt 242 (.pointer (some a)) 1).run Tryz.prog w = .ok (.pointer (some (a.add 1))) w := fun _ _ => by kernel_rfl
theorem fa274_0 : ∀ a w, (Instr.fieldAt 274 (.pointer (some a)) 0).run Tryz.prog w = .ok (.pointer (some (a.add 0))) w := fun _ _ => by kernel_rfl
theorem fa274_1 : ∀ a w, (Instr.fieldAt 274 (.pointer (some a)) 1).run Tryz.prog w = .ok (.pointer (some (a.add 1))) w := fun _ _ => by kernel_rfl
theorem en3 : ∀ args w, (callFunc 3 args).run Tryz.prog w = .ok (.enter 3 args) w := Go.Proofs.enters_of Tryz.func3 (by kernel_rfl) rfl
theorem en4 : ∀ args w, (callFunc 4 args).run Tryz.prog w = .ok (.enter 4 args) w := Go.Proofs.enters_of Tryz.func4 (by kernel_rfl) rfl
theorem en5 : ∀ args w, (callFunc 5 args).run Tryz.prog w = .ok (.enter 5 args) w := Go.Proofs.enters_of Tryz.func5 (by kernel_rfl) rfl
theorem en6 : ∀ args w, (callFunc 6 args).run Tryz.prog w = .ok (.enter 6 args) w := Go.Proofs.enters_of Tryz.func6 (by kernel_rfl) rfl
theorem en7 : ∀ args w, (callFunc 7 args).run Tryz.prog w = .ok (.enter 7 args) w := Go.Proofs.enters_of Tryz.func7 (by kernel_rfl) rfl
theorem en8 : ∀ args w, (callFunc 8 args).run Tryz.prog w = .ok (.enter 8 args) w := Go.Proofs.enters_of Tryz.func8 (by kernel_rfl) rfl
theorem en9 : ∀ args w, (callFunc 9 args).run Tryz.prog w = .ok (.enter 9 args) w := Go.Proofs.enters_of Tryz.func9 (by kernel_rfl) rfl
theorem en10 : ∀ args w, (callFunc 10 args).run Tryz.prog w = .ok (.enter 10 args) w := Go.Proofs.enters_of Tryz.func10 (by kernel_rfl) rfl
theorem en11 : ∀ args w, (callFunc 11 args).run Tryz.prog w = .ok (.enter 11 args) w := Go.Proofs.enters_of Tryz.func11 (by kernel_rfl) rfl
theorem en12 : ∀ args w, (callFunc 12 args).run Tryz.prog w = .ok (.enter 12 args) w := Go.Proofs.enters_of Tryz.func12 (by kernel_rfl) rfl
theorem en13 : ∀ args w, (callFunc 13 args).run Tryz.prog w = .ok (.enter 13 args) w := Go.Proofs.enters_of Tryz.func13 (by kernel_rfl) rfl
theorem en14 : ∀ args w, (callFunc 14 args).run Tryz.prog w = .ok (.enter 14 args) w := Go.Proofs.enters_of Tryz.func14 (by kernel_rfl) rfl
theorem en15 : ∀ args w, (callFunc 15 args).run Tryz.prog w = .ok (.enter 15 args) w := Go.Proofs.enters_of Tryz.func15 (by kernel_rfl) rfl
theorem en16 : ∀ args w, (callFunc 16 args).run Tryz.prog w = .ok (.enter 16 args) w := Go.Proofs.enters_of Tryz.func16 (by kernel_rfl) rfl
theorem en17 : ∀ args w, (callFunc 17 args).run Tryz.prog w = .ok (.enter 17 args) w := Go.Proofs.enters_of Tryz.func17 (by kernel_rfl) rfl
theorem en18 : ∀ args w, (callFunc 18 args).run Tryz.prog w = .ok (.enter 18 args) w := Go.Proofs.enters_of Tryz.func18 (by kernel_rfl) rfl
theorem en19 : ∀ args w, (callFunc 19 args).run Tryz.prog w = .ok (.enter 19 args) w := Go.Proofs.enters_of Tryz.func19 (by kernel_rfl) rfl
theorem en20 : ∀ args w, (callFunc 20 args).run Tryz.prog w = .ok (.enter 20 args) w := Go.Proofs.enters_of Tryz.func20 (by kernel_rfl) rfl
theorem en21 : ∀ args w, (callFunc 21 args).run Tryz.prog w = .ok (.enter 21 args) w := Go.Proofs.enters_of Tryz.func21 (by kernel_rfl) rfl
theorem en22 : ∀ args w, (callFunc 22 args).run Tryz.prog w = .ok (.enter 22 args) w := Go.Proofs.enters_of Tryz.func22 (by kernel_rfl) rfl
theorem en23 : ∀ args w, (callFunc 23 args).run Tryz.prog w = .ok (.enter 23 args) w := Go.Proofs.enters_of Tryz.func23 (by kernel_rfl) rfl
theorem en24 : ∀ args w, (callFunc 24 args).run Tryz.prog w = .ok (.enter 24 args) w := Go.Proofs.enters_of Tryz.func24 (by kernel_rfl) rfl
theorem en25 : ∀ args w, (callFunc 25 args).run Tryz.prog w = .ok (.enter 25 args) w := Go.Proofs.enters_of Tryz.func25 (by kernel_rfl) rfl
theorem en26 : ∀ args w, (callFunc 26 args).run Tryz.prog w = .ok (.enter 26 args) w := Go.Proofs.enters_of Tryz.func26 (by kernel_rfl) rfl
theorem en27 : ∀ args w, (callFunc 27 args).run Tryz.prog w = .ok (.enter 27 args) w := Go.Proofs.enters_of Tryz.func27 (by kernel_rfl) rfl
theorem en28 : ∀ args w, (callFunc 28 args).run Tryz.prog w = .ok (.enter 28 args) w := Go.Proofs.enters_of Tryz.func28 (by kernel_rfl) rfl
theorem en29 : ∀ args w, (callFunc 29 args).run Tryz.prog w = .ok (.enter 29 args) w := Go.Proofs.enters_of Tryz.func29 (by kernel_rfl) rfl
theorem en30 : ∀ args w, (callFunc 30 args).run Tryz.prog w = .ok (.enter 30 args) w := Go.Proofs.enters_of Tryz.func30 (by kernel_rfl) rfl
theorem en31 : ∀ args w, (callFunc 31 args).run Tryz.prog w = .ok (.enter 31 args) w := Go.Proofs.enters_of Tryz.func31 (by kernel_rfl) rfl
theorem en32 : ∀ args w, (callFunc 32 args).run Tryz.prog w = .ok (.enter 32 args) w := Go.Proofs.enters_of Tryz.func32 (by kernel_rfl) rfl
theorem en33 : ∀ args w, (callFunc 33 args).run Tryz.prog w = .ok (.enter 33 args) w := Go.Proofs.enters_of Tryz.func33 (by kernel_rfl) rfl
theorem en34 : ∀ args w, (callFunc 34 args).run Tryz.prog w = .ok (.enter 34 args) w := Go.Proofs.enters_of Tryz.func34 (by kernel_rfl) rfl
theorem en35 : ∀ args w, (callFunc 35 args).run Tryz.prog w = .ok (.enter 35 args) w := Go.Proofs.enters_of Tryz.func35 (by kernel_rfl) rfl
theorem en36 : ∀ args w, (callFunc 36 args).run Tryz.prog w = .ok (.enter 36 args) w := Go.Proofs.enters_of Tryz.func36 (by kernel_rfl) rfl
theorem en37 : ∀ args w, (callFunc 37 args).run Tryz.prog w = .ok (.enter 37 args) w := Go.Proofs.enters_of Tryz.func37 (by kernel_rfl) rfl
theorem en38 : ∀ args w, (callFunc 38 args).run Tryz.prog w = .ok (.enter 38 args) w := Go.Proofs.enters_of Tryz.func38 (by kernel_rfl) rfl
theorem en39 : ∀ args w, (callFunc 39 args).run Tryz.prog w = .ok (.enter 39 args) w := Go.Proofs.enters_of Tryz.func39 (by kernel_rfl) rfl
theorem en40 : ∀ args w, (callFunc 40 args).run Tryz.prog w = .ok (.enter 40 args) w := Go.Proofs.enters_of Tryz.func40 (by kernel_rfl) rfl
theorem en41 : ∀ args w, (callFunc 41 args).run Tryz.prog w = .ok (.enter 41 args) w := Go.Proofs.enters_of Tryz.func41 (by kernel_rfl) rfl
theorem en42 : ∀ args w, (callFunc 42 args).run Tryz.prog w = .ok (.enter 42 args) w := Go.Proofs.enters_of Tryz.func42 (by kernel_rfl) rfl
theorem en43 : ∀ args w, (callFunc 43 args).run Tryz.prog w = .ok (.enter 43 args) w := Go.Proofs.enters_of Tryz.func43 (by kernel_rfl) rfl
theorem en44 : ∀ args w, (callFunc 44 args).run Tryz.prog w = .ok (.enter 44 args) w := Go.Proofs.enters_of Tryz.func44 (by kernel_rfl) rfl
theorem en45 : ∀ args w, (callFunc 45 args).run Tryz.prog w = .ok (.enter 45 args) w := Go.Proofs.enters_of Tryz.func45 (by kernel_rfl) rfl
theorem en46 : ∀ args w, (callFunc 46 args).run Tryz.prog w = .ok (.enter 46 args) w := Go.Proofs.enters_of Tryz.func46 (by kernel_rfl) rfl
theorem en47 : ∀ args w, (callFunc 47 args).run Tryz.prog w = .ok (.enter 47 args) w := Go.Proofs.enters_of Tryz.func47 (by kernel_rfl) rfl
theorem en48 : ∀ args w, (callFunc 48 args).run Tryz.prog w = .ok (.enter 48 args) w := Go.Proofs.enters_of Tryz.func48 (by kernel_rfl) rfl
theorem en49 : ∀ args w, (callFunc 49 args).run Tryz.prog w = .ok (.enter 49 args) w := Go.Proofs.enters_of Tryz.func49 (by kernel_rfl) rfl
theorem en50 : ∀ args w, (callFunc 50 args).run Tryz.prog w = .ok (.enter 50 args) w := Go.Proofs.enters_of Tryz.func50 (by kernel_rfl) rfl
theorem en51 : ∀ args w, (callFunc 51 args).run Tryz.prog w = .ok (.enter 51 args) w := Go.Proofs.enters_of Tryz.func51 (by kernel_rfl) rfl
theorem en52 : ∀ args w, (callFunc 52 args).run Tryz.prog w = .ok (.enter 52 args) w := Go.Proofs.enters_of Tryz.func52 (by kernel_rfl) rfl
theorem en53 : ∀ args w, (callFunc 53 args).run Tryz.prog w = .ok (.enter 53 args) w := Go.Proofs.enters_of Tryz.func53 (by kernel_rfl) rfl
theorem en54 : ∀ args w, (callFunc 54 args).run Tryz.prog w = .ok (.enter 54 args) w := Go.Proofs.enters_of Tryz.func54 (by kernel_rfl) rfl
theorem en55 : ∀ args w, (callFunc 55 args).run Tryz.prog w = .ok (.enter 55 args) w := Go.Proofs.enters_of Tryz.func55 (by kernel_rfl) rfl
theorem en56 : ∀ args w, (callFunc 56 args).run Tryz.prog w = .ok (.enter 56 args) w := Go.Proofs.enters_of Tryz.func56 (by kernel_rfl) rfl
theorem en57 : ∀ args w, (callFunc 57 args).run Tryz.prog w = .ok (.enter 57 args) w := Go.Proofs.enters_of Tryz.func57 (by kernel_rfl) rfl
theorem en58 : ∀ args w, (callFunc 58 args).run Tryz.prog w = .ok (.enter 58 args) w := Go.Proofs.enters_of Tryz.func58 (by kernel_rfl) rfl
theorem en59 : ∀ args w, (callFunc 59 args).run Tryz.prog w = .ok (.enter 59 args) w := Go.Proofs.enters_of Tryz.func59 (by kernel_rfl) rfl
theorem en60 : ∀ args w, (callFunc 60 args).run Tryz.prog w = .ok (.enter 60 args) w := Go.Proofs.enters_of Tryz.func60 (by kernel_rfl) rfl
theorem en61 : ∀ args w, (callFunc 61 args).run Tryz.prog w = .ok (.enter 61 args) w := Go.Proofs.enters_of Tryz.func61 (by kernel_rfl) rfl
theorem en62 : ∀ args w, (callFunc 62 args).run Tryz.prog w = .ok (.enter 62 args) w := Go.Proofs.enters_of Tryz.func62 (by kernel_rfl) rfl
theorem en63 : ∀ args w, (callFunc 63 args).run Tryz.prog w = .ok (.enter 63 args) w := Go.Proofs.enters_of Tryz.func63 (by kernel_rfl) rfl
theorem en64 : ∀ args w, (callFunc 64 args).run Tryz.prog w = .ok (.enter 64 args) w := Go.Proofs.enters_of Tryz.func64 (by kernel_rfl) rfl
theorem en65 : ∀ args w, (callFunc 65 args).run Tryz.prog w = .ok (.enter 65 args) w := Go.Proofs.enters_of Tryz.func65 (by kernel_rfl) rfl
theorem en66 : ∀ args w, (callFunc 66 args).run Tryz.prog w = .ok (.enter 66 args) w := Go.Proofs.enters_of Tryz.func66 (by kernel_rfl) rfl
theorem en67 : ∀ args w, (callFunc 67 args).run Tryz.prog w = .ok (.enter 67 args) w := Go.Proofs.enters_of Tryz.func67 (by kernel_rfl) rfl
theorem en68 : ∀ args w, (callFunc 68 args).run Tryz.prog w = .ok (.enter 68 args) w := Go.Proofs.enters_of Tryz.func68 (by kernel_rfl) rfl
theorem en69 : ∀ args w, (callFunc 69 args).run Tryz.prog w = .ok (.enter 69 args) w := Go.Proofs.enters_of Tryz.func69 (by kernel_rfl) rfl
theorem en70 : ∀ args w, (callFunc 70 args).run Tryz.prog w = .ok (.enter 70 args) w := Go.Proofs.enters_of Tryz.func70 (by kernel_rfl) rfl
theorem en71 : ∀ args w, (callFunc 71 args).run Tryz.prog w = .ok (.enter 71 args) w := Go.Proofs.enters_of Tryz.func71 (by kernel_rfl) rfl
theorem en72 : ∀ args w, (callFunc 72 args).run Tryz.prog w = .ok (.enter 72 args) w := Go.Proofs.enters_of Tryz.func72 (by kernel_rfl) rfl
theorem en73 : ∀ args w, (callFunc 73 args).run Tryz.prog w = .ok (.enter 73 args) w := Go.Proofs.enters_of Tryz.func73 (by kernel_rfl) rfl
theorem en74 : ∀ args w, (callFunc 74 args).run Tryz.prog w = .ok (.enter 74 args) w := Go.Proofs.enters_of Tryz.func74 (by kernel_rfl) rfl
theorem en75 : ∀ args w, (callFunc 75 args).run Tryz.prog w = .ok (.enter 75 args) w := Go.Proofs.enters_of Tryz.func75 (by kernel_rfl) rfl
theorem en76 : ∀ args w, (callFunc 76 args).run Tryz.prog w = .ok (.enter 76 args) w := Go.Proofs.enters_of Tryz.func76 (by kernel_rfl) rfl
theorem en77 : ∀ args w, (callFunc 77 args).run Tryz.prog w = .ok (.enter 77 args) w := Go.Proofs.enters_of Tryz.func77 (by kernel_rfl) rfl
theorem en78 : ∀ args w, (callFunc 78 args).run Tryz.prog w = .ok (.enter 78 args) w := Go.Proofs.enters_of Tryz.func78 (by kernel_rfl) rfl
theorem en79 : ∀ args w, (callFunc 79 args).run Tryz.prog w = .ok (.enter 79 args) w := Go.Proofs.enters_of Tryz.func79 (by kernel_rfl) rfl
theorem en80 : ∀ args w, (callFunc 80 args).run Tryz.prog w = .ok (.enter 80 args) w := Go.Proofs.enters_of Tryz.func80 (by kernel_rfl) rfl
theorem en81 : ∀ args w, (callFunc 81 args).run Tryz.prog w = .ok (.enter 81 args) w := Go.Proofs.enters_of Tryz.func81 (by kernel_rfl) rfl
theorem en82 : ∀ args w, (callFunc 82 args).run Tryz.prog w = .ok (.enter 82 args) w := Go.Proofs.enters_of Tryz.func82 (by kernel_rfl) rfl
theorem en83 : ∀ args w, (callFunc 83 args).run Tryz.prog w = .ok (.enter 83 args) w := Go.Proofs.enters_of Tryz.func83 (by kernel_rfl) rfl
theorem en84 : ∀ args w, (callFunc 84 args).run Tryz.prog w = .ok (.enter 84 args) w := Go.Proofs.enters_of Tryz.func84 (by kernel_rfl) rfl
theorem en85 : ∀ args w, (callFunc 85 args).run Tryz.prog w = .ok (.enter 85 args) w := Go.Proofs.enters_of Tryz.func85 (by kernel_rfl) rfl
theorem en86 : ∀ args w, (callFunc 86 args).run Tryz.prog w = .ok (.enter 86 args) w := Go.Proofs.enters_of Tryz.func86 (by kernel_rfl) rfl
theorem en87 : ∀ args w, (callFunc 87 args).run Tryz.prog w = .ok (.enter 87 args) w := Go.Proofs.enters_of Tryz.func87 (by kernel_rfl) rfl
theorem en88 : ∀ args w, (callFunc 88 args).run Tryz.prog w = .ok (.enter 88 args) w := Go.Proofs.enters_of Tryz.func88 (by kernel_rfl) rfl
theorem en89 : ∀ args w, (callFunc 89 args).run Tryz.prog w = .ok (.enter 89 args) w := Go.Proofs.enters_of Tryz.func89 (by kernel_rfl) rfl
theorem en90 : ∀ args w, (callFunc 90 args).run Tryz.prog w = .ok (.enter 90 args) w := Go.Proofs.enters_of Tryz.func90 (by kernel_rfl) rfl
theorem en91 : ∀ args w, (callFunc 91 args).run Tryz.prog w = .ok (.enter 91 args) w := Go.Proofs.enters_of Tryz.func91 (by kernel_rfl) rfl
theorem en92 : ∀ args w, (callFunc 92 args).run Tryz.prog w = .ok (.enter 92 args) w := Go.Proofs.enters_of Tryz.func92 (by kernel_rfl) rfl
theorem en93 : ∀ args w, (callFunc 93 args).run Tryz.prog w = .ok (.enter 93 args) w := Go.Proofs.enters_of Tryz.func93 (by kernel_rfl) rfl
theorem en94 : ∀ args w, (callFunc 94 args).run Tryz.prog w = .ok (.enter 94 args) w := Go.Proofs.enters_of Tryz.func94 (by kernel_rfl) rfl
theorem en95 : ∀ args w, (callFunc 95 args).run Tryz.prog w = .ok (.enter 95 args) w := Go.Proofs.enters_of Tryz.func95 (by kernel_rfl) rfl
theorem en96 : ∀ args w, (callFunc 96 args).run Tryz.prog w = .ok (.enter 96 args) w := Go.Proofs.enters_of Tryz.func96 (by kernel_rfl) rfl
theorem en97 : ∀ args w, (callFunc 97 args).run Tryz.prog w = .ok (.enter 97 args) w := Go.Proofs.enters_of Tryz.func97 (by kernel_rfl) rfl
theorem en98 : ∀ args w, (callFunc 98 args).run Tryz.prog w = .ok (.enter 98 args) w := Go.Proofs.enters_of Tryz.func98 (by kernel_rfl) rfl
theorem en99 : ∀ args w, (callFunc 99 args).run Tryz.prog w = .ok (.enter 99 args) w := Go.Proofs.enters_of Tryz.func99 (by kernel_rfl) rfl
theorem en100 : ∀ args w, (callFunc 100 args).run Tryz.prog w = .ok (.enter 100 args) w := Go.Proofs.enters_of Tryz.func100 (by kernel_rfl) rfl
theorem en101 : ∀ args w, (callFunc 101 args).run Tryz.prog w = .ok (.enter 101 args) w := Go.Proofs.enters_of Tryz.func101 (by kernel_rfl) rfl
theorem en102 : ∀ args w, (callFunc 102 args).run Tryz.prog w = .ok (.enter 102 args) w := Go.Proofs.enters_of Tryz.func102 (by kernel_rfl) rfl
theorem en103 : ∀ args w, (callFunc 103 args).run Tryz.prog w = .ok (.enter 103 args) w := Go.Proofs.enters_of Tryz.func103 (by kernel_rfl) rfl
theorem en104 : ∀ args w, (callFunc 104 args).run Tryz.prog w = .ok (.enter 104 args) w := Go.Proofs.enters_of Tryz.func104 (by kernel_rfl) rfl
theorem en105 : ∀ args w, (callFunc 105 args).run Tryz.prog w = .ok (.enter 105 args) w := Go.Proofs.enters_of Tryz.func105 (by kernel_rfl) rfl
theorem en106 : ∀ args w, (callFunc 106 args).run Tryz.prog w = .ok (.enter 106 args) w := Go.Proofs.enters_of Tryz.func106 (by kernel_rfl) rfl
theorem en107 : ∀ args w, (callFunc 107 args).run Tryz.prog w = .ok (.enter 107 args) w := Go.Proofs.enters_of Tryz.func107 (by kernel_rfl) rfl
theorem en108 : ∀ args w, (callFunc 108 args).run Tryz.prog w = .ok (.enter 108 args) w := Go.Proofs.enters_of Tryz.func108 (by kernel_rfl) rfl
theorem en109 : ∀ args w, (callFunc 109 args).run Tryz.prog w = .ok (.enter 109 args) w := Go.Proofs.enters_of Tryz.func109 (by kernel_rfl) rfl
theorem en110 : ∀ args w, (callFunc 110 args).run Tryz.prog w = .ok (.enter 110 args) w := Go.Proofs.enters_of Tryz.func110 (by kernel_rfl) rfl
theorem en111 : ∀ args w, (callFunc 111 args).run Tryz.prog w = .ok (.enter 111 args) w := Go.Proofs.enters_of Tryz.func111 (by kernel_rfl) rfl
theorem en112 : ∀ args w, (callFunc 112 args).run Tryz.prog w = .ok (.enter 112 args) w := Go.Proofs.enters_of Tryz.func112 (by kernel_rfl) rfl
theorem en113 : ∀ args w, (callFunc 113 args).run Tryz.prog w = .ok (.enter 113 args) w := Go.Proofs.enters_of Tryz.func113 (by kernel_rfl) rfl
theorem en114 : ∀ args w, (callFunc 114 args).run Tryz.prog w = .ok (.enter 114 args) w := Go.Proofs.enters_of Tryz.func114 (by kernel_rfl) rfl
theorem en115 : ∀ args w, (callFunc 115 args).run Tryz.prog w = .ok (.enter 115 args) w := Go.Proofs.enters_of Tryz.func115 (by kernel_rfl) rfl
theorem en116 : ∀ args w, (callFunc 116 args).run Tryz.prog w = .ok (.enter 116 args) w := Go.Proofs.enters_of Tryz.func116 (by kernel_rfl) rfl
theorem en117 : ∀ args w, (callFunc 117 args).run Tryz.prog w = .ok (.enter 117 args) w := Go.Proofs.enters_of Tryz.func117 (by kernel_rfl) rfl
theorem en118 : ∀ args w, (callFunc 118 args).run Tryz.prog w = .ok (.enter 118 args) w := Go.Proofs.enters_of Tryz.func118 (by kernel_rfl) rfl
theorem en119 : ∀ args w, (callFunc 119 args).run Tryz.prog w = .ok (.enter 119 args) w := Go.Proofs.enters_of Tryz.func119 (by kernel_rfl) rfl
theorem en120 : ∀ args w, (callFunc 120 args).run Tryz.prog w = .ok (.enter 120 args) w := Go.Proofs.enters_of Tryz.func120 (by kernel_rfl) rfl
theorem en121 : ∀ args w, (callFunc 121 args).run Tryz.prog w = .ok (.enter 121 args) w := Go.Proofs.enters_of Tryz.func121 (by kernel_rfl) rfl
theorem en122 : ∀ args w, (callFunc 122 args).run Tryz.prog w = .ok (.enter 122 args) w := Go.Proofs.enters_of Tryz.func122 (by kernel_rfl) rfl
theorem en123 : ∀ args w, (callFunc 123 args).run Tryz.prog w = .ok (.enter 123 args) w := Go.Proofs.enters_of Tryz.func123 (by kernel_rfl) rfl
theorem en124 : ∀ args w, (callFunc 124 args).run Tryz.prog w = .ok (.enter 124 args) w := Go.Proofs.enters_of Tryz.func124 (by kernel_rfl) rfl
theorem en125 : ∀ args w, (callFunc 125 args).run Tryz.prog w = .ok (.enter 125 args) w := Go.Proofs.enters_of Tryz.func125 (by kernel_rfl) rfl
theorem en126 : ∀ args w, (callFunc 126 args).run Tryz.prog w = .ok (.enter 126 args) w := Go.Proofs.enters_of Tryz.func126 (by kernel_rfl) rfl
theorem en127 : ∀ args w, (callFunc 127 args).run Tryz.prog w = .ok (.enter 127 args) w := Go.Proofs.enters_of Tryz.func127 (by kernel_rfl) rfl
theorem en128 : ∀ args w, (callFunc 128 args).run Tryz.prog w = .ok (.enter 128 args) w := Go.Proofs.enters_of Tryz.func128 (by kernel_rfl) rfl
theorem en129 : ∀ args w, (callFunc 129 args).run Tryz.prog w = .ok (.enter 129 args) w := Go.Proofs.enters_of Tryz.func129 (by kernel_rfl) rfl
theorem en130 : ∀ args w, (callFunc 130 args).run Tryz.prog w = .ok (.enter 130 args) w := Go.Proofs.enters_of Tryz.func130 (by kernel_rfl) rfl
theorem en131 : ∀ args w, (callFunc 131 args).run Tryz.prog w = .ok (.enter 131 args) w := Go.Proofs.enters_of Tryz.func131 (by kernel_rfl) rfl
theorem en132 : ∀ args w, (callFunc 132 args).run Tryz.prog w = .ok (.enter 132 args) w := Go.Proofs.enters_of Tryz.func132 (by kernel_rfl) rfl
theorem en133 : ∀ args w, (callFunc 133 args).run Tryz.prog w = .ok (.enter 133 args) w := Go.Proofs.enters_of Tryz.func133 (by kernel_rfl) rfl
theorem en134 : ∀ args w, (callFunc 134 args).run Tryz.prog w = .ok (.enter 134 args) w := Go.Proofs.enters_of Tryz.func134 (by kernel_rfl) rfl
theorem en135 : ∀ args w, (callFunc 135 args).run Tryz.prog w = .ok (.enter 135 args) w := Go.Proofs.enters_of Tryz.func135 (by kernel_rfl) rfl
theorem en136 : ∀ args w, (callFunc 136 args).run Tryz.prog w = .ok (.enter 136 args) w := Go.Proofs.enters_of Tryz.func136 (by kernel_rfl) rfl
theorem en137 : ∀ args w, (callFunc 137 args).run Tryz.prog w = .ok (.enter 137 args) w := Go.Proofs.enters_of Tryz.func137 (by kernel_rfl) rfl
theorem en138 : ∀ args w, (callFunc 138 args).run Tryz.prog w = .ok (.enter 138 args) w := Go.Proofs.enters_of Tryz.func138 (by kernel_rfl) rfl
theorem en139 : ∀ args w, (callFunc 139 args).run Tryz.prog w = .ok (.enter 139 args) w := Go.Proofs.enters_of Tryz.func139 (by kernel_rfl) rfl
theorem en140 : ∀ args w, (callFunc 140 args).run Tryz.prog w = .ok (.enter 140 args) w := Go.Proofs.enters_of Tryz.func140 (by kernel_rfl) rfl
theorem en141 : ∀ args w, (callFunc 141 args).run Tryz.prog w = .ok (.enter 141 args) w := Go.Proofs.enters_of Tryz.func141 (by kernel_rfl) rfl
theorem en142 : ∀ args w, (callFunc 142 args).run Tryz.prog w = .ok (.enter 142 args) w := Go.Proofs.enters_of Tryz.func142 (by kernel_rfl) rfl
theorem en143 : ∀ args w, (callFunc 143 args).run Tryz.prog w = .ok (.enter 143 args) w := Go.Proofs.enters_of Tryz.func143 (by kernel_rfl) rfl
theorem en144 : ∀ args w, (callFunc 144 args).run Tryz.prog w = .ok (.enter 144 args) w := Go.Proofs.enters_of Tryz.func144 (by kernel_rfl) rfl
theorem en145 : ∀ args w, (callFunc 145 args).run Tryz.prog w = .ok (.enter 145 args) w := Go.Proofs.enters_of Tryz.func145 (by kernel_rfl) rfl
theorem en146 : ∀ args w, (callFunc 146 args).run Tryz.prog w = .ok (.enter 146 args) w := Go.Proofs.enters_of Tryz.func146 (by kernel_rfl) rfl
theorem en147 : ∀ args w, (callFunc 147 args).run Tryz.prog w = .ok (.enter 147 args) w := Go.Proofs.enters_of Tryz.func147 (by kernel_rfl) rfl
theorem en148 : ∀ args w, (callFunc 148 args).run Tryz.prog w = .ok (.enter 148 args) w := Go.Proofs.enters_of Tryz.func148 (by kernel_rfl) rfl
theorem en149 : ∀ args w, (callFunc 149 args).run Tryz.prog w = .ok (.enter 149 args) w := Go.Proofs.enters_of Tryz.func149 (by kernel_rfl) rfl
theorem en150 : ∀ args w, (callFunc 150 args).run Tryz.prog w = .ok (.enter 150 args) w := Go.Proofs.enters_of Tryz.func150 (by kernel_rfl) rfl
theorem en151 : ∀ args w, (callFunc 151 args).run Tryz.prog w = .ok (.enter 151 args) w := Go.Proofs.enters_of Tryz.func151 (by kernel_rfl) rfl
theorem en152 : ∀ args w, (callFunc 152 args).run Tryz.prog w = .ok (.enter 152 args) w := Go.Proofs.enters_of Tryz.func152 (by kernel_rfl) rfl
theorem en153 : ∀ args w, (callFunc 153 args).run Tryz.prog w = .ok (.enter 153 args) w := Go.Proofs.enters_of Tryz.func153 (by kernel_rfl) rfl
theorem en154 : ∀ args w, (callFunc 154 args).run Tryz.prog w = .ok (.enter 154 args) w := Go.Proofs.enters_of Tryz.func154 (by kernel_rfl) rfl
theorem en155 : ∀ args w, (callFunc 155 args).run Tryz.prog w = .ok (.enter 155 args) w := Go.Proofs.enters_of Tryz.func155 (by kernel_rfl) rfl
theorem en156 : ∀ args w, (callFunc 156 args).run Tryz.prog w = .ok (.enter 156 args) w := Go.Proofs.enters_of Tryz.func156 (by kernel_rfl) rfl
theorem en157 : ∀ args w, (callFunc 157 args).run Tryz.prog w = .ok (.enter 157 args) w := Go.Proofs.enters_of Tryz.func157 (by kernel_rfl) rfl
theorem en158 : ∀ args w, (callFunc 158 args).run Tryz.prog w = .ok (.enter 158 args) w := Go.Proofs.enters_of Tryz.func158 (by kernel_rfl) rfl
theorem en159 : ∀ args w, (callFunc 159 args).run Tryz.prog w = .ok (.enter 159 args) w := Go.Proofs.enters_of Tryz.func159 (by kernel_rfl) rfl
theorem en160 : ∀ args w, (callFunc 160 args).run Tryz.prog w = .ok (.enter 160 args) w := Go.Proofs.enters_of Tryz.func160 (by kernel_rfl) rfl
theorem en161 : ∀ args w, (callFunc 161 args).run Tryz.prog w = .ok (.enter 161 args) w := Go.Proofs.enters_of Tryz.func161 (by kernel_rfl) rfl
theorem en162 : ∀ args w, (callFunc 162 args).run Tryz.prog w = .ok (.enter 162 args) w := Go.Proofs.enters_of Tryz.func162 (by kernel_rfl) rfl
theorem en163 : ∀ args w, (callFunc 163 args).run Tryz.prog w = .ok (.enter 163 args) w := Go.Proofs.enters_of Tryz.func163 (by kernel_rfl) rfl
theorem en164 : ∀ args w, (callFunc 164 args).run Tryz.prog w = .ok (.enter 164 args) w := Go.Proofs.enters_of Tryz.func164 (by kernel_rfl) rfl
theorem en165 : ∀ args w, (callFunc 165 args).run Tryz.prog w = .ok (.enter 165 args) w := Go.Proofs.enters_of Tryz.func165 (by kernel_rfl) rfl
theorem en166 : ∀ args w, (callFunc 166 args).run Tryz.prog w = .ok (.enter 166 args) w := Go.Proofs.enters_of Tryz.func166 (by kernel_rfl) rfl
theorem en167 : ∀ args w, (callFunc 167 args).run Tryz.prog w = .ok (.enter 167 args) w := Go.Proofs.enters_of Tryz.func167 (by kernel_rfl) rfl
theorem en168 : ∀ args w, (callFunc 168 args).run Tryz.prog w = .ok (.enter 168 args) w := Go.Proofs.enters_of Tryz.func168 (by kernel_rfl) rfl
theorem en169 : ∀ args w, (callFunc 169 args).run Tryz.prog w = .ok (.enter 169 args) w := Go.Proofs.enters_of Tryz.func169 (by kernel_rfl) rfl
theorem en170 : ∀ args w, (callFunc 170 args).run Tryz.prog w = .ok (.enter 170 args) w := Go.Proofs.enters_of Tryz.func170 (by kernel_rfl) rfl
theorem en171 : ∀ args w, (callFunc 171 args).run Tryz.prog w = .ok (.enter 171 args) w := Go.Proofs.enters_of Tryz.func171 (by kernel_rfl) rfl
theorem en172 : ∀ args w, (callFunc 172 args).run Tryz.prog w = .ok (.enter 172 args) w := Go.Proofs.enters_of Tryz.func172 (by kernel_rfl) rfl
theorem en173 : ∀ args w, (callFunc 173 args).run Tryz.prog w = .ok (.enter 173 args) w := Go.Proofs.enters_of Tryz.func173 (by kernel_rfl) rfl
theorem en174 : ∀ args w, (callFunc 174 args).run Tryz.prog w = .ok (.enter 174 args) w := Go.Proofs.enters_of Tryz.func174 (by kernel_rfl) rfl
theorem en175 : ∀ args w, (callFunc 175 args).run Tryz.prog w = .ok (.enter 175 args) w := Go.Proofs.enters_of Tryz.func175 (by kernel_rfl) rfl
theorem en176 : ∀ args w, (callFunc 176 args).run Tryz.prog w = .ok (.enter 176 args) w := Go.Proofs.enters_of Tryz.func176 (by kernel_rfl) rfl
theorem en177 : ∀ args w, (callFunc 177 args).run Tryz.prog w = .ok (.enter 177 args) w := Go.Proofs.enters_of Tryz.func177 (by kernel_rfl) rfl
theorem en178 : ∀ args w, (callFunc 178 args).run Tryz.prog w = .ok (.enter 178 args) w := Go.Proofs.enters_of Tryz.func178 (by kernel_rfl) rfl
theorem en179 : ∀ args w, (callFunc 179 args).run Tryz.prog w = .ok (.enter 179 args) w := Go.Proofs.enters_of Tryz.func179 (by kernel_rfl) rfl
theorem en180 : ∀ args w, (callFunc 180 args).run Tryz.prog w = .ok (.enter 180 args) w := Go.Proofs.enters_of Tryz.func180 (by kernel_rfl) rfl
theorem en181 : ∀ args w, (callFunc 181 args).run Tryz.prog w = .ok (.enter 181 args) w := Go.Proofs.enters_of Tryz.func181 (by kernel_rfl) rfl
theorem en182 : ∀ args w, (callFunc 182 args).run Tryz.prog w = .ok (.enter 182 args) w := Go.Proofs.enters_of Tryz.func182 (by kernel_rfl) rfl
theorem en183 : ∀ args w, (callFunc 183 args).run Tryz.prog w = .ok (.enter 183 args) w := Go.Proofs.enters_of Tryz.func183 (by kernel_rfl) rfl
theorem en184 : ∀ args w, (callFunc 184 args).run Tryz.prog w = .ok (.enter 184 args) w := Go.Proofs.enters_of Tryz.func184 (by kernel_rfl) rfl
theorem en185 : ∀ args w, (callFunc 185 args).run Tryz.prog w = .ok (.enter 185 args) w := Go.Proofs.enters_of Tryz.func185 (by kernel_rfl) rfl
theorem en186 : ∀ args w, (callFunc 186 args).run Tryz.prog w = .ok (.enter 186 args) w := Go.Proofs.enters_of Tryz.func186 (by kernel_rfl) rfl
theorem en187 : ∀ args w, (callFunc 187 args).run Tryz.prog w = .ok (.enter 187 args) w := Go.Proofs.enters_of Tryz.func187 (by kernel_rfl) rfl
theorem en188 : ∀ args w, (callFunc 188 args).run Tryz.prog w = .ok (.enter 188 args) w := Go.Proofs.enters_of Tryz.func188 (by kernel_rfl) rfl
theorem en189 : ∀ args w, (callFunc 189 args).run Tryz.prog w = .ok (.enter 189 args) w := Go.Proofs.enters_of Tryz.func189 (by kernel_rfl) rfl
theorem en190 : ∀ args w, (callFunc 190 args).run Tryz.prog w = .ok (.enter 190 args) w := Go.Proofs.enters_of Tryz.func190 (by kernel_rfl) rfl
theorem en191 : ∀ args w, (callFunc 191 args).run Tryz.prog w = .ok (.enter 191 args) w := Go.Proofs.enters_of Tryz.func191 (by kernel_rfl) rfl
theorem en192 : ∀ args w, (callFunc 192 args).run Tryz.prog w = .ok (.enter 192 args) w := Go.Proofs.enters_of Tryz.func192 (by kernel_rfl) rfl
theorem en193 : ∀ args w, (callFunc 193 args).run Tryz.prog w = .ok (.enter 193 args) w := Go.Proofs.enters_of Tryz.func193 (by kernel_rfl) rfl
theorem en194 : ∀ args w, (callFunc 194 args).run Tryz.prog w = .ok (.enter 194 args) w := Go.Proofs.enters_of Tryz.func194 (by kernel_rfl) rfl
theorem en195 : ∀ args w, (callFunc 195 args).run Tryz.prog w = .ok (.enter 195 args) w := Go.Proofs.enters_of Tryz.func195 (by kernel_rfl) rfl
theorem en196 : ∀ args w, (callFunc 196 args).run Tryz.prog w = .ok (.enter 196 args) w := Go.Proofs.enters_of Tryz.func196 (by kernel_rfl) rfl
theorem en197 : ∀ args w, (callFunc 197 args).run Tryz.prog w = .ok (.enter 197 args) w := Go.Proofs.enters_of Tryz.func197 (by kernel_rfl) rfl
theorem en198 : ∀ args w, (callFunc 198 args).run Tryz.prog w = .ok (.enter 198 args) w := Go.Proofs.enters_of Tryz.func198 (by kernel_rfl) rfl
theorem en199 : ∀ args w, (callFunc 199 args).run Tryz.prog w = .ok (.enter 199 args) w := Go.Proofs.enters_of Tryz.func199 (by kernel_rfl) rfl
theorem en200 : ∀ args w, (callFunc 200 args).run Tryz.prog w = .ok (.enter 200 args) w := Go.Proofs.enters_of Tryz.func200 (by kernel_rfl) rfl
theorem en201 : ∀ args w, (callFunc 201 args).run Tryz.prog w = .ok (.enter 201 args) w := Go.Proofs.enters_of Tryz.func201 (by kernel_rfl) rfl
theorem en202 : ∀ args w, (callFunc 202 args).run Tryz.prog w = .ok (.enter 202 args) w := Go.Proofs.enters_of Tryz.func202 (by kernel_rfl) rfl
theorem en203 : ∀ args w, (callFunc 203 args).run Tryz.prog w = .ok (.enter 203 args) w := Go.Proofs.enters_of Tryz.func203 (by kernel_rfl) rfl
theorem en204 : ∀ args w, (callFunc 204 args).run Tryz.prog w = .ok (.enter 204 args) w := Go.Proofs.enters_of Tryz.func204 (by kernel_rfl) rfl
theorem en205 : ∀ args w, (callFunc 205 args).run Tryz.prog w = .ok (.enter 205 args) w := Go.Proofs.enters_of Tryz.func205 (by kernel_rfl) rfl
theorem en206 : ∀ args w, (callFunc 206 args).run Tryz.prog w = .ok (.enter 206 args) w := Go.Proofs.enters_of Tryz.func206 (by kernel_rfl) rfl
theorem en207 : ∀ args w, (callFunc 207 args).run Tryz.prog w = .ok (.enter 207 args) w := Go.Proofs.enters_of Tryz.func207 (by kernel_rfl) rfl
theorem en208 : ∀ args w, (callFunc 208 args).run Tryz.prog w = .ok (.enter 208 args) w := Go.Proofs.enters_of Tryz.func208 (by kernel_rfl) rfl
theorem en209 : ∀ args w, (callFunc 209 args).run Tryz.prog w = .ok (.enter 209 args) w := Go.Proofs.enters_of Tryz.func209 (by kernel_rfl) rfl
theorem en210 : ∀ args w, (callFunc 210 args).run Tryz.prog w = .ok (.enter 210 args) w := Go.Proofs.enters_of Tryz.func210 (by kernel_rfl) rfl
theorem en211 : ∀ args w, (callFunc 211 args).run Tryz.prog w = .ok (.enter 211 args) w := Go.Proofs.enters_of Tryz.func211 (by kernel_rfl) rfl
theorem en212 : ∀ args w, (callFunc 212 args).run Tryz.prog w = .ok (.enter 212 args) w := Go.Proofs.enters_of Tryz.func212 (by kernel_rfl) rfl
theorem en213 : ∀ args w, (callFunc 213 args).run Tryz.prog w = .ok (.enter 213 args) w := Go.Proofs.enters_of Tryz.func213 (by kernel_rfl) rfl
theorem en214 : ∀ args w, (callFunc 214 args).run Tryz.prog w = .ok (.enter 214 args) w := Go.Proofs.enters_of Tryz.func214 (by kernel_rfl) rfl
theorem en215 : ∀ args w, (callFunc 215 args).run Tryz.prog w = .ok (.enter 215 args) w := Go.Proofs.enters_of Tryz.func215 (by kernel_rfl) rfl
theorem en216 : ∀ args w, (callFunc 216 args).run Tryz.prog w = .ok (.enter 216 args) w := Go.Proofs.enters_of Tryz.func216 (by kernel_rfl) rfl
theorem en217 : ∀ args w, (callFunc 217 args).run Tryz.prog w = .ok (.enter 217 args) w := Go.Proofs.enters_of Tryz.func217 (by kernel_rfl) rfl
theorem en218 : ∀ args w, (callFunc 218 args).run Tryz.prog w = .ok (.enter 218 args) w := Go.Proofs.enters_of Tryz.func218 (by kernel_rfl) rfl
theorem en219 : ∀ args w, (callFunc 219 args).run Tryz.prog w = .ok (.enter 219 args) w := Go.Proofs.enters_of Tryz.func219 (by kernel_rfl) rfl
theorem en220 : ∀ args w, (callFunc 220 args).run Tryz.prog w = .ok (.enter 220 args) w := Go.Proofs.enters_of Tryz.func220 (by kernel_rfl) rfl
theorem en221 : ∀ args w, (callFunc 221 args).run Tryz.prog w = .ok (.enter 221 args) w := Go.Proofs.enters_of Tryz.func221 (by kernel_rfl) rfl
theorem en222 : ∀ args w, (callFunc 222 args).run Tryz.prog w = .ok (.enter 222 args) w := Go.Proofs.enters_of Tryz.func222 (by kernel_rfl) rfl
theorem en223 : ∀ args w, (callFunc 223 args).run Tryz.prog w = .ok (.enter 223 args) w := Go.Proofs.enters_of Tryz.func223 (by kernel_rfl) rfl
theorem en224 : ∀ args w, (callFunc 224 args).run Tryz.prog w = .ok (.enter 224 args) w := Go.Proofs.enters_of Tryz.func224 (by kernel_rfl) rfl
theorem en225 : ∀ args w, (callFunc 225 args).run Tryz.prog w = .ok (.enter 225 args) w := Go.Proofs.enters_of Tryz.func225 (by kernel_rfl) rfl
theorem en227 : ∀ args w, (callFunc 227 args).run Tryz.prog w = .ok (.enter 227 args) w := Go.Proofs.enters_of Tryz.func227 (by kernel_rfl) rfl
theorem en228 : ∀ args w, (callFunc 228 args).run Tryz.prog w = .ok (.enter 228 args) w := Go.Proofs.enters_of Tryz.func228 (by kernel_rfl) rfl
theorem en229 : ∀ args w, (callFunc 229 args).run Tryz.prog w = .ok (.enter 229 args) w := Go.Proofs.enters_of Tryz.func229 (by kernel_rfl) rfl
theorem en230 : ∀ args w, (callFunc 230 args).run Tryz.prog w = .ok (.enter 230 args) w := Go.Proofs.enters_of Tryz.func230 (by kernel_rfl) rfl
theorem en232 : ∀ args w, (callFunc 232 args).run Tryz.prog w = .ok (.enter 232 args) w := Go.Proofs.enters_of Tryz.func232 (by kernel_rfl) rfl
theorem en233 : ∀ args w, (callFunc 233 args).run Tryz.prog w = .ok (.enter 233 args) w := Go.Proofs.enters_of Tryz.func233 (by kernel_rfl) rfl
theorem en235 : ∀ args w, (callFunc 235 args).run Tryz.prog w = .ok (.enter 235 args) w := Go.Proofs.enters_of Tryz.func235 (by kernel_rfl) rfl
theorem en254 : ∀ args w, (callFunc 254 args).run Tryz.prog w = .ok (.enter 254 args) w := Go.Proofs.enters_of Tryz.func254 (by kernel_rfl) rfl
theorem en255 : ∀ args w, (callFunc 255 args).run Tryz.prog w = .ok (.enter 255 args) w := Go.Proofs.enters_of Tryz.func255 (by kernel_rfl) rfl
theorem en256 : ∀ args w, (callFunc 256 args).run Tryz.prog w = .ok (.enter 256 args) w := Go.Proofs.enters_of Tryz.func256 (by kernel_rfl) rfl
theorem en257 : ∀ args w, (callFunc 257 args).run Tryz.prog w = .ok (.enter 257 args) w := Go.Proofs.enters_of Tryz.func257 (by kernel_rfl) rfl
theorem en258 : ∀ args w, (callFunc 258 args).run Tryz.prog w = .ok (.enter 258 args) w := Go.Proofs.enters_of Tryz.func258 (by kernel_rfl) rfl
theorem en259 : ∀ args w, (callFunc 259 args).run Tryz.prog w = .ok (.enter 259 args) w := Go.Proofs.enters_of Tryz.func259 (by kernel_rfl) rfl
theorem en260 : ∀ args w, (callFunc 260 args).run Tryz.prog w = .ok (.enter 260 args) w := Go.Proofs.enters_of Tryz.func260 (by kernel_rfl) rfl
theorem en262 : ∀ args w, (callFunc 262 args).run Tryz.prog w = .ok (.enter 262 args) w := Go.Proofs.enters_of Tryz.func262 (by kernel_rfl) rfl
theorem en263 : ∀ args w, (callFunc 263 args).run Tryz.prog w = .ok (.enter 263 args) w := Go.Proofs.enters_of Tryz.func263 (by kernel_rfl) rfl
theorem en264 : ∀ args w, (callFunc 264 args).run Tryz.prog w = .ok (.enter 264 args) w := Go.Proofs.enters_of Tryz.func264 (by kernel_rfl) rfl
theorem en265 : ∀ args w, (callFunc 265 args).run Tryz.prog w = .ok (.enter 265 args) w := Go.Proofs.enters_of Tryz.func265 (by kernel_rfl) rfl
theorem en266 : ∀ args w, (callFunc 266 args).run Tryz.prog w = .ok (.enter 266 args) w := Go.Proofs.enters_of Tryz.func266 (by kernel_rfl) rfl
theorem en267 : ∀ args w, (callFunc 267 args).run Tryz.prog w = .ok (.enter 267 args) w := Go.Proofs.enters_of Tryz.func267 (by kernel_rfl) rfl
theorem en268 : ∀ args w, (callFunc 268 args).run Tryz.prog w = .ok (.enter 268 args) w := Go.Proofs.enters_of Tryz.func268 (by kernel_rfl) rfl
theorem en269 : ∀ args w, (callFunc 269 args).run Tryz.prog w = .ok (.enter 269 args) w := Go.Proofs.enters_of Tryz.func269 (by kernel_rfl) rfl
theorem en270 : ∀ args w, (callFunc 270 args).run Tryz.prog w = .ok (.enter 270 args) w := Go.Proofs.enters_of Tryz.func270 (by kernel_rfl) rfl
theorem en271 : ∀ args w, (callFunc 271 args).run Tryz.prog w = .ok (.enter 271 args) w := Go.Proofs.enters_of Tryz.func271 (by kernel_rfl) rfl
theorem en272 : ∀ args w, (callFunc 272 args).run Tryz.prog w = .ok (.enter 272 args) w := Go.Proofs.enters_of Tryz.func272 (by kernel_rfl) rfl
theorem en273 : ∀ args w, (callFunc 273 args).run Tryz.prog w = .ok (.enter 273 args) w := Go.Proofs.enters_of Tryz.func273 (by kernel_rfl) rfl
theorem en274 : ∀ args w, (callFunc 274 args).run Tryz.prog w = .ok (.enter 274 args) w := Go.Proofs.enters_of Tryz.func274 (by kernel_rfl) rfl
theorem en275 : ∀ args w, (callFunc 275 args).run Tryz.prog w = .ok (.enter 275 args) w := Go.Proofs.enters_of Tryz.func275 (by kernel_rfl) rfl
theorem en276 : ∀ args w, (callFunc 276 args).run Tryz.prog w = .ok (.enter 276 args) w := Go.Proofs.enters_of Tryz.func276 (by kernel_rfl) rfl
theorem en281 : ∀ args w, (callFunc 281 args).run Tryz.prog w = .ok (.enter 281 args) w := Go.Proofs.enters_of Tryz.func281 (by kernel_rfl) rfl
theorem mixed : Tryz.prog.follows .mixedOrders = true := by kernel_rfl
end Go.Proofs.YtclgplkkajfenaaGreatDoor
