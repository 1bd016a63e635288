/- PRINTED BY wip/tools/gen_types.py: the translation's types and functions, as the rules ask for them. -/
import Derived.Test.YtdfljbffomhchaaGreatSh
import Derived.Test.YtdfljbffomhchaaGreatProg
set_option maxRecDepth 100000
namespace Go.Sm
open Go.Proofs
instance : Und Go.Proofs.Tryz.prog 3 (.int .i64) := ⟨by kernel_rfl⟩
instance : One Go.Proofs.Tryz.prog 3 := ⟨fun _ => by kernel_rfl, fun _ => by kernel_rfl⟩
instance : SizeOf Go.Proofs.Tryz.prog 3 1 := ⟨fun _ => by kernel_rfl⟩
instance : Info Go.Proofs.Tryz.prog 3 1 8 (.int .i64 0) := ⟨by kernel_rfl, by kernel_rfl⟩
instance : Zero Go.Proofs.Tryz.prog 3 [.int .i64 0] := ⟨fun _ => ⟨.int .i64 0, by kernel_rfl, by kernel_rfl⟩⟩
instance : Und Go.Proofs.Tryz.prog 4 (.bool) := ⟨by kernel_rfl⟩
instance : One Go.Proofs.Tryz.prog 4 := ⟨fun _ => by kernel_rfl, fun _ => by kernel_rfl⟩
instance : SizeOf Go.Proofs.Tryz.prog 4 1 := ⟨fun _ => by kernel_rfl⟩
instance : Info Go.Proofs.Tryz.prog 4 1 1 (.bool false) := ⟨by kernel_rfl, by kernel_rfl⟩
instance : Zero Go.Proofs.Tryz.prog 4 [.bool false] := ⟨fun _ => ⟨.bool false, by kernel_rfl, by kernel_rfl⟩⟩
instance : Und Go.Proofs.Tryz.prog 5 (.int .u8) := ⟨by kernel_rfl⟩
instance : One Go.Proofs.Tryz.prog 5 := ⟨fun _ => by kernel_rfl, fun _ => by kernel_rfl⟩
instance : SizeOf Go.Proofs.Tryz.prog 5 1 := ⟨fun _ => by kernel_rfl⟩
instance : Info Go.Proofs.Tryz.prog 5 1 1 (.int .u8 0) := ⟨by kernel_rfl, by kernel_rfl⟩
instance : Zero Go.Proofs.Tryz.prog 5 [.int .u8 0] := ⟨fun _ => ⟨.int .u8 0, by kernel_rfl, by kernel_rfl⟩⟩
instance : Und Go.Proofs.Tryz.prog 9 (.string) := ⟨by kernel_rfl⟩
instance : One Go.Proofs.Tryz.prog 9 := ⟨fun _ => by kernel_rfl, fun _ => by kernel_rfl⟩
instance : SizeOf Go.Proofs.Tryz.prog 9 1 := ⟨fun _ => by kernel_rfl⟩
instance : Zero Go.Proofs.Tryz.prog 9 [.string ⟨#[]⟩] := ⟨fun _ => ⟨.string ⟨#[]⟩, by kernel_rfl, by kernel_rfl⟩⟩
instance : Und Go.Proofs.Tryz.prog 22 (.slice 146) := ⟨by kernel_rfl⟩
instance : One Go.Proofs.Tryz.prog 22 := ⟨fun _ => by kernel_rfl, fun _ => by kernel_rfl⟩
instance : SizeOf Go.Proofs.Tryz.prog 22 1 := ⟨fun _ => by kernel_rfl⟩
instance : Zero Go.Proofs.Tryz.prog 22 [.slice none 0 0] := ⟨fun _ => ⟨.slice none 0 0, by kernel_rfl, by kernel_rfl⟩⟩
instance : Und Go.Proofs.Tryz.prog 24 (.pointer 153) := ⟨by kernel_rfl⟩
instance : One Go.Proofs.Tryz.prog 24 := ⟨fun _ => by kernel_rfl, fun _ => by kernel_rfl⟩
instance : SizeOf Go.Proofs.Tryz.prog 24 1 := ⟨fun _ => by kernel_rfl⟩
instance : Zero Go.Proofs.Tryz.prog 24 [.pointer none] := ⟨fun _ => ⟨.pointer none, by kernel_rfl, by kernel_rfl⟩⟩
instance : Und Go.Proofs.Tryz.prog 25 (.pointer 206) := ⟨by kernel_rfl⟩
instance : One Go.Proofs.Tryz.prog 25 := ⟨fun _ => by kernel_rfl, fun _ => by kernel_rfl⟩
instance : SizeOf Go.Proofs.Tryz.prog 25 1 := ⟨fun _ => by kernel_rfl⟩
instance : Zero Go.Proofs.Tryz.prog 25 [.pointer none] := ⟨fun _ => ⟨.pointer none, by kernel_rfl, by kernel_rfl⟩⟩
instance : Und Go.Proofs.Tryz.prog 26 (.pointer 166) := ⟨by kernel_rfl⟩
instance : One Go.Proofs.Tryz.prog 26 := ⟨fun _ => by kernel_rfl, fun _ => by kernel_rfl⟩
instance : SizeOf Go.Proofs.Tryz.prog 26 1 := ⟨fun _ => by kernel_rfl⟩
instance : Zero Go.Proofs.Tryz.prog 26 [.pointer none] := ⟨fun _ => ⟨.pointer none, by kernel_rfl, by kernel_rfl⟩⟩
instance : Und Go.Proofs.Tryz.prog 27 (.array 8 3) := ⟨by kernel_rfl⟩
instance : Many Go.Proofs.Tryz.prog 27 8 := ⟨fun _ => by kernel_rfl, fun _ => by kernel_rfl⟩
instance : SizeOf Go.Proofs.Tryz.prog 27 8 := ⟨fun _ => by kernel_rfl⟩
instance : Zero Go.Proofs.Tryz.prog 27 [.int .i64 0, .int .i64 0, .int .i64 0, .int .i64 0, .int .i64 0, .int .i64 0, .int .i64 0, .int .i64 0] := ⟨fun _ => ⟨.agg #[.int .i64 0, .int .i64 0, .int .i64 0, .int .i64 0, .int .i64 0, .int .i64 0, .int .i64 0, .int .i64 0], by kernel_rfl, by kernel_rfl⟩⟩
instance : Many Go.Proofs.Tryz.prog 29 13 := ⟨fun _ => by kernel_rfl, fun _ => by kernel_rfl⟩
instance : SizeOf Go.Proofs.Tryz.prog 29 13 := ⟨fun _ => by kernel_rfl⟩
instance : Zero Go.Proofs.Tryz.prog 29 [.bool false, .int .i64 0, .int .i64 0, .int .i64 0, .int .i64 0, .int .i64 0, .int .i64 0, .int .i64 0, .int .i64 0, .int .i64 0, .int .i64 0, .int .i64 0, .int .i64 0] := ⟨fun _ => ⟨.agg #[.bool false, .int .i64 0, .int .i64 0, .int .i64 0, .int .i64 0, .int .i64 0, .int .i64 0, .int .i64 0, .int .i64 0, .int .i64 0, .int .i64 0, .int .i64 0, .int .i64 0], by kernel_rfl, by kernel_rfl⟩⟩
instance : FieldOff Go.Proofs.Tryz.prog 29 0 0 := ⟨fun _ _ => by kernel_rfl⟩
instance : FieldOff Go.Proofs.Tryz.prog 29 1 1 := ⟨fun _ _ => by kernel_rfl⟩
instance : FieldOff Go.Proofs.Tryz.prog 29 2 2 := ⟨fun _ _ => by kernel_rfl⟩
instance : FieldOff Go.Proofs.Tryz.prog 29 3 3 := ⟨fun _ _ => by kernel_rfl⟩
instance : FieldOff Go.Proofs.Tryz.prog 29 4 4 := ⟨fun _ _ => by kernel_rfl⟩
instance : FieldOff Go.Proofs.Tryz.prog 29 5 5 := ⟨fun _ _ => by kernel_rfl⟩
instance : Bld Go.Proofs.Tryz.prog 29 [(0, 1), (1, 1), (2, 1), (3, 1), (4, 1), (5, 8)] [.bool false, .int .i64 0, .int .i64 0, .int .i64 0, .int .i64 0, .int .i64 0, .int .i64 0, .int .i64 0, .int .i64 0, .int .i64 0, .int .i64 0, .int .i64 0, .int .i64 0] := Bld.of (.agg #[.bool false, .int .i64 0, .int .i64 0, .int .i64 0, .int .i64 0, .int .i64 0, .int .i64 0, .int .i64 0, .int .i64 0, .int .i64 0, .int .i64 0, .int .i64 0, .int .i64 0]) (by kernel_rfl) (fun _ => by kernel_rfl) (by kernel_rfl) (fun _ => by kernel_rfl)
instance : Many Go.Proofs.Tryz.prog 31 17 := ⟨fun _ => by kernel_rfl, fun _ => by kernel_rfl⟩
instance : SizeOf Go.Proofs.Tryz.prog 31 17 := ⟨fun _ => by kernel_rfl⟩
instance : Zero Go.Proofs.Tryz.prog 31 [.pointer none, .pointer none, .pointer none, .int .i64 0, .bool false, .int .i64 0, .int .i64 0, .int .i64 0, .int .i64 0, .int .i64 0, .int .i64 0, .int .i64 0, .int .i64 0, .int .i64 0, .int .i64 0, .int .i64 0, .int .i64 0] := ⟨fun _ => ⟨.agg #[.pointer none, .pointer none, .pointer none, .int .i64 0, .bool false, .int .i64 0, .int .i64 0, .int .i64 0, .int .i64 0, .int .i64 0, .int .i64 0, .int .i64 0, .int .i64 0, .int .i64 0, .int .i64 0, .int .i64 0, .int .i64 0], by kernel_rfl, by kernel_rfl⟩⟩
instance : FieldOff Go.Proofs.Tryz.prog 31 0 0 := ⟨fun _ _ => by kernel_rfl⟩
instance : FieldOff Go.Proofs.Tryz.prog 31 1 1 := ⟨fun _ _ => by kernel_rfl⟩
instance : FieldOff Go.Proofs.Tryz.prog 31 2 2 := ⟨fun _ _ => by kernel_rfl⟩
instance : FieldOff Go.Proofs.Tryz.prog 31 3 3 := ⟨fun _ _ => by kernel_rfl⟩
instance : FieldOff Go.Proofs.Tryz.prog 31 4 4 := ⟨fun _ _ => by kernel_rfl⟩
instance : Bld Go.Proofs.Tryz.prog 31 [(0, 1), (1, 1), (2, 1), (3, 1), (4, 13)] [.pointer none, .pointer none, .pointer none, .int .i64 0, .bool false, .int .i64 0, .int .i64 0, .int .i64 0, .int .i64 0, .int .i64 0, .int .i64 0, .int .i64 0, .int .i64 0, .int .i64 0, .int .i64 0, .int .i64 0, .int .i64 0] := Bld.of (.agg #[.pointer none, .pointer none, .pointer none, .int .i64 0, .bool false, .int .i64 0, .int .i64 0, .int .i64 0, .int .i64 0, .int .i64 0, .int .i64 0, .int .i64 0, .int .i64 0, .int .i64 0, .int .i64 0, .int .i64 0, .int .i64 0]) (by kernel_rfl) (fun _ => by kernel_rfl) (by kernel_rfl) (fun _ => by kernel_rfl)
instance : Und Go.Proofs.Tryz.prog 33 (.slice 41) := ⟨by kernel_rfl⟩
instance : One Go.Proofs.Tryz.prog 33 := ⟨fun _ => by kernel_rfl, fun _ => by kernel_rfl⟩
instance : SizeOf Go.Proofs.Tryz.prog 33 1 := ⟨fun _ => by kernel_rfl⟩
instance : Zero Go.Proofs.Tryz.prog 33 [.slice none 0 0] := ⟨fun _ => ⟨.slice none 0 0, by kernel_rfl, by kernel_rfl⟩⟩
instance : Und Go.Proofs.Tryz.prog 35 (.int .i64) := ⟨by kernel_rfl⟩
instance : One Go.Proofs.Tryz.prog 35 := ⟨fun _ => by kernel_rfl, fun _ => by kernel_rfl⟩
instance : SizeOf Go.Proofs.Tryz.prog 35 1 := ⟨fun _ => by kernel_rfl⟩
instance : Zero Go.Proofs.Tryz.prog 35 [.int .i64 0] := ⟨fun _ => ⟨.int .i64 0, by kernel_rfl, by kernel_rfl⟩⟩
instance : Und Go.Proofs.Tryz.prog 37 (.slice 5) := ⟨by kernel_rfl⟩
instance : One Go.Proofs.Tryz.prog 37 := ⟨fun _ => by kernel_rfl, fun _ => by kernel_rfl⟩
instance : SizeOf Go.Proofs.Tryz.prog 37 1 := ⟨fun _ => by kernel_rfl⟩
instance : Info Go.Proofs.Tryz.prog 37 1 24 (.slice none 0 0) := ⟨by kernel_rfl, by kernel_rfl⟩
instance : Zero Go.Proofs.Tryz.prog 37 [.slice none 0 0] := ⟨fun _ => ⟨.slice none 0 0, by kernel_rfl, by kernel_rfl⟩⟩
instance : Many Go.Proofs.Tryz.prog 39 2 := ⟨fun _ => by kernel_rfl, fun _ => by kernel_rfl⟩
instance : SizeOf Go.Proofs.Tryz.prog 39 2 := ⟨fun _ => by kernel_rfl⟩
instance : Zero Go.Proofs.Tryz.prog 39 [.int .u8 0, .slice none 0 0] := ⟨fun _ => ⟨.agg #[.int .u8 0, .slice none 0 0], by kernel_rfl, by kernel_rfl⟩⟩
instance : FieldOff Go.Proofs.Tryz.prog 39 0 0 := ⟨fun _ _ => by kernel_rfl⟩
instance : FieldOff Go.Proofs.Tryz.prog 39 1 1 := ⟨fun _ _ => by kernel_rfl⟩
instance : Bld Go.Proofs.Tryz.prog 39 [(0, 1), (1, 1)] [.int .u8 0, .slice none 0 0] := Bld.of (.agg #[.int .u8 0, .slice none 0 0]) (by kernel_rfl) (fun _ => by kernel_rfl) (by kernel_rfl) (fun _ => by kernel_rfl)
instance : Many Go.Proofs.Tryz.prog 41 6 := ⟨fun _ => by kernel_rfl, fun _ => by kernel_rfl⟩
instance : SizeOf Go.Proofs.Tryz.prog 41 6 := ⟨fun _ => by kernel_rfl⟩
instance : Info Go.Proofs.Tryz.prog 41 6 80 (.agg #[.int .u8 0, .int .i64 0, .int .i64 0, .slice none 0 0, .int .u8 0, .slice none 0 0]) := ⟨by kernel_rfl, by kernel_rfl⟩
instance : Zero Go.Proofs.Tryz.prog 41 [.int .u8 0, .int .i64 0, .int .i64 0, .slice none 0 0, .int .u8 0, .slice none 0 0] := ⟨fun _ => ⟨.agg #[.int .u8 0, .int .i64 0, .int .i64 0, .slice none 0 0, .int .u8 0, .slice none 0 0], by kernel_rfl, by kernel_rfl⟩⟩
instance : FieldOff Go.Proofs.Tryz.prog 41 0 0 := ⟨fun _ _ => by kernel_rfl⟩
instance : FieldOff Go.Proofs.Tryz.prog 41 1 1 := ⟨fun _ _ => by kernel_rfl⟩
instance : FieldOff Go.Proofs.Tryz.prog 41 2 2 := ⟨fun _ _ => by kernel_rfl⟩
instance : FieldOff Go.Proofs.Tryz.prog 41 3 3 := ⟨fun _ _ => by kernel_rfl⟩
instance : FieldOff Go.Proofs.Tryz.prog 41 4 4 := ⟨fun _ _ => by kernel_rfl⟩
instance : Bld Go.Proofs.Tryz.prog 41 [(0, 1), (1, 1), (2, 1), (3, 1), (4, 2)] [.int .u8 0, .int .i64 0, .int .i64 0, .slice none 0 0, .int .u8 0, .slice none 0 0] := Bld.of (.agg #[.int .u8 0, .int .i64 0, .int .i64 0, .slice none 0 0, .int .u8 0, .slice none 0 0]) (by kernel_rfl) (fun _ => by kernel_rfl) (by kernel_rfl) (fun _ => by kernel_rfl)
instance : Und Go.Proofs.Tryz.prog 43 (.pointer 69) := ⟨by kernel_rfl⟩
instance : One Go.Proofs.Tryz.prog 43 := ⟨fun _ => by kernel_rfl, fun _ => by kernel_rfl⟩
instance : SizeOf Go.Proofs.Tryz.prog 43 1 := ⟨fun _ => by kernel_rfl⟩
instance : Zero Go.Proofs.Tryz.prog 43 [.pointer none] := ⟨fun _ => ⟨.pointer none, by kernel_rfl, by kernel_rfl⟩⟩
instance : Und Go.Proofs.Tryz.prog 44 (.slice 37) := ⟨by kernel_rfl⟩
instance : One Go.Proofs.Tryz.prog 44 := ⟨fun _ => by kernel_rfl, fun _ => by kernel_rfl⟩
instance : SizeOf Go.Proofs.Tryz.prog 44 1 := ⟨fun _ => by kernel_rfl⟩
instance : Zero Go.Proofs.Tryz.prog 44 [.slice none 0 0] := ⟨fun _ => ⟨.slice none 0 0, by kernel_rfl, by kernel_rfl⟩⟩
instance : Und Go.Proofs.Tryz.prog 57 (.pointer 181) := ⟨by kernel_rfl⟩
instance : One Go.Proofs.Tryz.prog 57 := ⟨fun _ => by kernel_rfl, fun _ => by kernel_rfl⟩
instance : SizeOf Go.Proofs.Tryz.prog 57 1 := ⟨fun _ => by kernel_rfl⟩
instance : Zero Go.Proofs.Tryz.prog 57 [.pointer none] := ⟨fun _ => ⟨.pointer none, by kernel_rfl, by kernel_rfl⟩⟩
instance : Und Go.Proofs.Tryz.prog 58 (.pointer 170) := ⟨by kernel_rfl⟩
instance : One Go.Proofs.Tryz.prog 58 := ⟨fun _ => by kernel_rfl, fun _ => by kernel_rfl⟩
instance : SizeOf Go.Proofs.Tryz.prog 58 1 := ⟨fun _ => by kernel_rfl⟩
instance : Zero Go.Proofs.Tryz.prog 58 [.pointer none] := ⟨fun _ => ⟨.pointer none, by kernel_rfl, by kernel_rfl⟩⟩
instance : Und Go.Proofs.Tryz.prog 59 (.pointer 215) := ⟨by kernel_rfl⟩
instance : One Go.Proofs.Tryz.prog 59 := ⟨fun _ => by kernel_rfl, fun _ => by kernel_rfl⟩
instance : SizeOf Go.Proofs.Tryz.prog 59 1 := ⟨fun _ => by kernel_rfl⟩
instance : Zero Go.Proofs.Tryz.prog 59 [.pointer none] := ⟨fun _ => ⟨.pointer none, by kernel_rfl, by kernel_rfl⟩⟩
instance : Und Go.Proofs.Tryz.prog 60 (.pointer 217) := ⟨by kernel_rfl⟩
instance : One Go.Proofs.Tryz.prog 60 := ⟨fun _ => by kernel_rfl, fun _ => by kernel_rfl⟩
instance : SizeOf Go.Proofs.Tryz.prog 60 1 := ⟨fun _ => by kernel_rfl⟩
instance : Zero Go.Proofs.Tryz.prog 60 [.pointer none] := ⟨fun _ => ⟨.pointer none, by kernel_rfl, by kernel_rfl⟩⟩
instance : One Go.Proofs.Tryz.prog 62 := ⟨fun _ => by kernel_rfl, fun _ => by kernel_rfl⟩
instance : SizeOf Go.Proofs.Tryz.prog 62 1 := ⟨fun _ => by kernel_rfl⟩
instance : Zero Go.Proofs.Tryz.prog 62 [.nilIface] := ⟨fun _ => ⟨.nilIface, by kernel_rfl, by kernel_rfl⟩⟩
instance : Many Go.Proofs.Tryz.prog 64 3 := ⟨fun _ => by kernel_rfl, fun _ => by kernel_rfl⟩
instance : SizeOf Go.Proofs.Tryz.prog 64 3 := ⟨fun _ => by kernel_rfl⟩
instance : Zero Go.Proofs.Tryz.prog 64 [.bool false, .bool false, .bool false] := ⟨fun _ => ⟨.agg #[.bool false, .bool false, .bool false], by kernel_rfl, by kernel_rfl⟩⟩
instance : FieldOff Go.Proofs.Tryz.prog 64 0 0 := ⟨fun _ _ => by kernel_rfl⟩
instance : FieldOff Go.Proofs.Tryz.prog 64 1 1 := ⟨fun _ _ => by kernel_rfl⟩
instance : FieldOff Go.Proofs.Tryz.prog 64 2 2 := ⟨fun _ _ => by kernel_rfl⟩
instance : Bld Go.Proofs.Tryz.prog 64 [(0, 1), (1, 1), (2, 1)] [.bool false, .bool false, .bool false] := Bld.of (.agg #[.bool false, .bool false, .bool false]) (by kernel_rfl) (fun _ => by kernel_rfl) (by kernel_rfl) (fun _ => by kernel_rfl)
instance : Many Go.Proofs.Tryz.prog 66 2 := ⟨fun _ => by kernel_rfl, fun _ => by kernel_rfl⟩
instance : SizeOf Go.Proofs.Tryz.prog 66 2 := ⟨fun _ => by kernel_rfl⟩
instance : Zero Go.Proofs.Tryz.prog 66 [.int .i64 0, .int .i64 0] := ⟨fun _ => ⟨.agg #[.int .i64 0, .int .i64 0], by kernel_rfl, by kernel_rfl⟩⟩
instance : FieldOff Go.Proofs.Tryz.prog 66 0 0 := ⟨fun _ _ => by kernel_rfl⟩
instance : FieldOff Go.Proofs.Tryz.prog 66 1 1 := ⟨fun _ _ => by kernel_rfl⟩
instance : Bld Go.Proofs.Tryz.prog 66 [(0, 1), (1, 1)] [.int .i64 0, .int .i64 0] := Bld.of (.agg #[.int .i64 0, .int .i64 0]) (by kernel_rfl) (fun _ => by kernel_rfl) (by kernel_rfl) (fun _ => by kernel_rfl)
instance : Und Go.Proofs.Tryz.prog 67 (.slice 111) := ⟨by kernel_rfl⟩
instance : One Go.Proofs.Tryz.prog 67 := ⟨fun _ => by kernel_rfl, fun _ => by kernel_rfl⟩
instance : SizeOf Go.Proofs.Tryz.prog 67 1 := ⟨fun _ => by kernel_rfl⟩
instance : Zero Go.Proofs.Tryz.prog 67 [.slice none 0 0] := ⟨fun _ => ⟨.slice none 0 0, by kernel_rfl, by kernel_rfl⟩⟩
instance : Many Go.Proofs.Tryz.prog 69 25 := ⟨fun _ => by kernel_rfl, fun _ => by kernel_rfl⟩
instance : SizeOf Go.Proofs.Tryz.prog 69 25 := ⟨fun _ => by kernel_rfl⟩
instance : Zero Go.Proofs.Tryz.prog 69 [.int .u8 0, .bool false, .int .i64 0, .int .i64 0, .int .i64 0, .int .i64 0, .int .i64 0, .int .i64 0, .int .i64 0, .int .i64 0, .int .i64 0, .int .i64 0, .int .i64 0, .int .i64 0, .pointer none, .pointer none, .pointer none, .nilIface, .bool false, .bool false, .bool false, .int .i64 0, .int .i64 0, .slice none 0 0, .int .i64 0] := ⟨fun _ => ⟨.agg #[.int .u8 0, .bool false, .int .i64 0, .int .i64 0, .int .i64 0, .int .i64 0, .int .i64 0, .int .i64 0, .int .i64 0, .int .i64 0, .int .i64 0, .int .i64 0, .int .i64 0, .int .i64 0, .pointer none, .pointer none, .pointer none, .nilIface, .bool false, .bool false, .bool false, .int .i64 0, .int .i64 0, .slice none 0 0, .int .i64 0], by kernel_rfl, by kernel_rfl⟩⟩
instance : FieldOff Go.Proofs.Tryz.prog 69 0 0 := ⟨fun _ _ => by kernel_rfl⟩
instance : FieldOff Go.Proofs.Tryz.prog 69 1 1 := ⟨fun _ _ => by kernel_rfl⟩
instance : FieldOff Go.Proofs.Tryz.prog 69 2 14 := ⟨fun _ _ => by kernel_rfl⟩
instance : FieldOff Go.Proofs.Tryz.prog 69 3 15 := ⟨fun _ _ => by kernel_rfl⟩
instance : FieldOff Go.Proofs.Tryz.prog 69 4 16 := ⟨fun _ _ => by kernel_rfl⟩
instance : FieldOff Go.Proofs.Tryz.prog 69 5 17 := ⟨fun _ _ => by kernel_rfl⟩
instance : FieldOff Go.Proofs.Tryz.prog 69 6 18 := ⟨fun _ _ => by kernel_rfl⟩
instance : FieldOff Go.Proofs.Tryz.prog 69 7 21 := ⟨fun _ _ => by kernel_rfl⟩
instance : FieldOff Go.Proofs.Tryz.prog 69 8 23 := ⟨fun _ _ => by kernel_rfl⟩
instance : FieldOff Go.Proofs.Tryz.prog 69 9 24 := ⟨fun _ _ => by kernel_rfl⟩
instance : Bld Go.Proofs.Tryz.prog 69 [(0, 1), (1, 13), (14, 1), (15, 1), (16, 1), (17, 1), (18, 3), (21, 2), (23, 1), (24, 1)] [.int .u8 0, .bool false, .int .i64 0, .int .i64 0, .int .i64 0, .int .i64 0, .int .i64 0, .int .i64 0, .int .i64 0, .int .i64 0, .int .i64 0, .int .i64 0, .int .i64 0, .int .i64 0, .pointer none, .pointer none, .pointer none, .nilIface, .bool false, .bool false, .bool false, .int .i64 0, .int .i64 0, .slice none 0 0, .int .i64 0] := Bld.of (.agg #[.int .u8 0, .bool false, .int .i64 0, .int .i64 0, .int .i64 0, .int .i64 0, .int .i64 0, .int .i64 0, .int .i64 0, .int .i64 0, .int .i64 0, .int .i64 0, .int .i64 0, .int .i64 0, .pointer none, .pointer none, .pointer none, .nilIface, .bool false, .bool false, .bool false, .int .i64 0, .int .i64 0, .slice none 0 0, .int .i64 0]) (by kernel_rfl) (fun _ => by kernel_rfl) (by kernel_rfl) (fun _ => by kernel_rfl)
instance : Und Go.Proofs.Tryz.prog 78 (.pointer 188) := ⟨by kernel_rfl⟩
instance : One Go.Proofs.Tryz.prog 78 := ⟨fun _ => by kernel_rfl, fun _ => by kernel_rfl⟩
instance : SizeOf Go.Proofs.Tryz.prog 78 1 := ⟨fun _ => by kernel_rfl⟩
instance : Zero Go.Proofs.Tryz.prog 78 [.pointer none] := ⟨fun _ => ⟨.pointer none, by kernel_rfl, by kernel_rfl⟩⟩
instance : Und Go.Proofs.Tryz.prog 81 (.slice 4) := ⟨by kernel_rfl⟩
instance : One Go.Proofs.Tryz.prog 81 := ⟨fun _ => by kernel_rfl, fun _ => by kernel_rfl⟩
instance : SizeOf Go.Proofs.Tryz.prog 81 1 := ⟨fun _ => by kernel_rfl⟩
instance : Zero Go.Proofs.Tryz.prog 81 [.slice none 0 0] := ⟨fun _ => ⟨.slice none 0 0, by kernel_rfl, by kernel_rfl⟩⟩
instance : Und Go.Proofs.Tryz.prog 82 (.array 8 4) := ⟨by kernel_rfl⟩
instance : Many Go.Proofs.Tryz.prog 82 8 := ⟨fun _ => by kernel_rfl, fun _ => by kernel_rfl⟩
instance : SizeOf Go.Proofs.Tryz.prog 82 8 := ⟨fun _ => by kernel_rfl⟩
instance : Zero Go.Proofs.Tryz.prog 82 [.bool false, .bool false, .bool false, .bool false, .bool false, .bool false, .bool false, .bool false] := ⟨fun _ => ⟨.agg #[.bool false, .bool false, .bool false, .bool false, .bool false, .bool false, .bool false, .bool false], by kernel_rfl, by kernel_rfl⟩⟩
instance : Und Go.Proofs.Tryz.prog 84 (.slice 88) := ⟨by kernel_rfl⟩
instance : One Go.Proofs.Tryz.prog 84 := ⟨fun _ => by kernel_rfl, fun _ => by kernel_rfl⟩
instance : SizeOf Go.Proofs.Tryz.prog 84 1 := ⟨fun _ => by kernel_rfl⟩
instance : Zero Go.Proofs.Tryz.prog 84 [.slice none 0 0] := ⟨fun _ => ⟨.slice none 0 0, by kernel_rfl, by kernel_rfl⟩⟩
instance : Many Go.Proofs.Tryz.prog 88 3 := ⟨fun _ => by kernel_rfl, fun _ => by kernel_rfl⟩
instance : SizeOf Go.Proofs.Tryz.prog 88 3 := ⟨fun _ => by kernel_rfl⟩
instance : Info Go.Proofs.Tryz.prog 88 3 40 (.agg #[.int .u8 0, .slice none 0 0, .int .i64 0]) := ⟨by kernel_rfl, by kernel_rfl⟩
instance : Zero Go.Proofs.Tryz.prog 88 [.int .u8 0, .slice none 0 0, .int .i64 0] := ⟨fun _ => ⟨.agg #[.int .u8 0, .slice none 0 0, .int .i64 0], by kernel_rfl, by kernel_rfl⟩⟩
instance : FieldOff Go.Proofs.Tryz.prog 88 0 0 := ⟨fun _ _ => by kernel_rfl⟩
instance : FieldOff Go.Proofs.Tryz.prog 88 1 1 := ⟨fun _ _ => by kernel_rfl⟩
instance : FieldOff Go.Proofs.Tryz.prog 88 2 2 := ⟨fun _ _ => by kernel_rfl⟩
instance : Bld Go.Proofs.Tryz.prog 88 [(0, 1), (1, 1), (2, 1)] [.int .u8 0, .slice none 0 0, .int .i64 0] := Bld.of (.agg #[.int .u8 0, .slice none 0 0, .int .i64 0]) (by kernel_rfl) (fun _ => by kernel_rfl) (by kernel_rfl) (fun _ => by kernel_rfl)
instance : Und Go.Proofs.Tryz.prog 90 (.int .u16) := ⟨by kernel_rfl⟩
instance : One Go.Proofs.Tryz.prog 90 := ⟨fun _ => by kernel_rfl, fun _ => by kernel_rfl⟩
instance : SizeOf Go.Proofs.Tryz.prog 90 1 := ⟨fun _ => by kernel_rfl⟩
instance : Zero Go.Proofs.Tryz.prog 90 [.int .u16 0] := ⟨fun _ => ⟨.int .u16 0, by kernel_rfl, by kernel_rfl⟩⟩
instance : Und Go.Proofs.Tryz.prog 91 (.slice 3) := ⟨by kernel_rfl⟩
instance : One Go.Proofs.Tryz.prog 91 := ⟨fun _ => by kernel_rfl, fun _ => by kernel_rfl⟩
instance : SizeOf Go.Proofs.Tryz.prog 91 1 := ⟨fun _ => by kernel_rfl⟩
instance : Zero Go.Proofs.Tryz.prog 91 [.slice none 0 0] := ⟨fun _ => ⟨.slice none 0 0, by kernel_rfl, by kernel_rfl⟩⟩
instance : Und Go.Proofs.Tryz.prog 92 (.slice 95) := ⟨by kernel_rfl⟩
instance : One Go.Proofs.Tryz.prog 92 := ⟨fun _ => by kernel_rfl, fun _ => by kernel_rfl⟩
instance : SizeOf Go.Proofs.Tryz.prog 92 1 := ⟨fun _ => by kernel_rfl⟩
instance : Zero Go.Proofs.Tryz.prog 92 [.slice none 0 0] := ⟨fun _ => ⟨.slice none 0 0, by kernel_rfl, by kernel_rfl⟩⟩
instance : Many Go.Proofs.Tryz.prog 95 2 := ⟨fun _ => by kernel_rfl, fun _ => by kernel_rfl⟩
instance : SizeOf Go.Proofs.Tryz.prog 95 2 := ⟨fun _ => by kernel_rfl⟩
instance : Info Go.Proofs.Tryz.prog 95 2 32 (.agg #[.slice none 0 0, .int .i64 0]) := ⟨by kernel_rfl, by kernel_rfl⟩
instance : Zero Go.Proofs.Tryz.prog 95 [.slice none 0 0, .int .i64 0] := ⟨fun _ => ⟨.agg #[.slice none 0 0, .int .i64 0], by kernel_rfl, by kernel_rfl⟩⟩
instance : FieldOff Go.Proofs.Tryz.prog 95 0 0 := ⟨fun _ _ => by kernel_rfl⟩
instance : FieldOff Go.Proofs.Tryz.prog 95 1 1 := ⟨fun _ _ => by kernel_rfl⟩
instance : Bld Go.Proofs.Tryz.prog 95 [(0, 1), (1, 1)] [.slice none 0 0, .int .i64 0] := Bld.of (.agg #[.slice none 0 0, .int .i64 0]) (by kernel_rfl) (fun _ => by kernel_rfl) (by kernel_rfl) (fun _ => by kernel_rfl)
instance : Many Go.Proofs.Tryz.prog 97 8 := ⟨fun _ => by kernel_rfl, fun _ => by kernel_rfl⟩
instance : SizeOf Go.Proofs.Tryz.prog 97 8 := ⟨fun _ => by kernel_rfl⟩
instance : Zero Go.Proofs.Tryz.prog 97 [.int .u8 0, .int .u8 0, .bool false, .bool false, .int .u8 0, .int .u8 0, .bool false, .slice none 0 0] := ⟨fun _ => ⟨.agg #[.int .u8 0, .int .u8 0, .bool false, .bool false, .int .u8 0, .int .u8 0, .bool false, .slice none 0 0], by kernel_rfl, by kernel_rfl⟩⟩
instance : FieldOff Go.Proofs.Tryz.prog 97 0 0 := ⟨fun _ _ => by kernel_rfl⟩
instance : FieldOff Go.Proofs.Tryz.prog 97 1 1 := ⟨fun _ _ => by kernel_rfl⟩
instance : FieldOff Go.Proofs.Tryz.prog 97 2 2 := ⟨fun _ _ => by kernel_rfl⟩
instance : FieldOff Go.Proofs.Tryz.prog 97 3 3 := ⟨fun _ _ => by kernel_rfl⟩
instance : FieldOff Go.Proofs.Tryz.prog 97 4 4 := ⟨fun _ _ => by kernel_rfl⟩
instance : FieldOff Go.Proofs.Tryz.prog 97 5 5 := ⟨fun _ _ => by kernel_rfl⟩
instance : FieldOff Go.Proofs.Tryz.prog 97 6 6 := ⟨fun _ _ => by kernel_rfl⟩
instance : FieldOff Go.Proofs.Tryz.prog 97 7 7 := ⟨fun _ _ => by kernel_rfl⟩
instance : Bld Go.Proofs.Tryz.prog 97 [(0, 1), (1, 1), (2, 1), (3, 1), (4, 1), (5, 1), (6, 1), (7, 1)] [.int .u8 0, .int .u8 0, .bool false, .bool false, .int .u8 0, .int .u8 0, .bool false, .slice none 0 0] := Bld.of (.agg #[.int .u8 0, .int .u8 0, .bool false, .bool false, .int .u8 0, .int .u8 0, .bool false, .slice none 0 0]) (by kernel_rfl) (fun _ => by kernel_rfl) (by kernel_rfl) (fun _ => by kernel_rfl)
instance : Und Go.Proofs.Tryz.prog 103 (.slice 107) := ⟨by kernel_rfl⟩
instance : One Go.Proofs.Tryz.prog 103 := ⟨fun _ => by kernel_rfl, fun _ => by kernel_rfl⟩
instance : SizeOf Go.Proofs.Tryz.prog 103 1 := ⟨fun _ => by kernel_rfl⟩
instance : Zero Go.Proofs.Tryz.prog 103 [.slice none 0 0] := ⟨fun _ => ⟨.slice none 0 0, by kernel_rfl, by kernel_rfl⟩⟩
instance : Many Go.Proofs.Tryz.prog 105 2 := ⟨fun _ => by kernel_rfl, fun _ => by kernel_rfl⟩
instance : SizeOf Go.Proofs.Tryz.prog 105 2 := ⟨fun _ => by kernel_rfl⟩
instance : Zero Go.Proofs.Tryz.prog 105 [.int .u8 0, .slice none 0 0] := ⟨fun _ => ⟨.agg #[.int .u8 0, .slice none 0 0], by kernel_rfl, by kernel_rfl⟩⟩
instance : FieldOff Go.Proofs.Tryz.prog 105 0 0 := ⟨fun _ _ => by kernel_rfl⟩
instance : FieldOff Go.Proofs.Tryz.prog 105 1 1 := ⟨fun _ _ => by kernel_rfl⟩
instance : Bld Go.Proofs.Tryz.prog 105 [(0, 1), (1, 1)] [.int .u8 0, .slice none 0 0] := Bld.of (.agg #[.int .u8 0, .slice none 0 0]) (by kernel_rfl) (fun _ => by kernel_rfl) (by kernel_rfl) (fun _ => by kernel_rfl)
instance : Many Go.Proofs.Tryz.prog 107 3 := ⟨fun _ => by kernel_rfl, fun _ => by kernel_rfl⟩
instance : SizeOf Go.Proofs.Tryz.prog 107 3 := ⟨fun _ => by kernel_rfl⟩
instance : Info Go.Proofs.Tryz.prog 107 3 40 (.agg #[.int .u8 0, .slice none 0 0, .int .i64 0]) := ⟨by kernel_rfl, by kernel_rfl⟩
instance : Zero Go.Proofs.Tryz.prog 107 [.int .u8 0, .slice none 0 0, .int .i64 0] := ⟨fun _ => ⟨.agg #[.int .u8 0, .slice none 0 0, .int .i64 0], by kernel_rfl, by kernel_rfl⟩⟩
instance : FieldOff Go.Proofs.Tryz.prog 107 0 0 := ⟨fun _ _ => by kernel_rfl⟩
instance : FieldOff Go.Proofs.Tryz.prog 107 1 2 := ⟨fun _ _ => by kernel_rfl⟩
instance : Bld Go.Proofs.Tryz.prog 107 [(0, 2), (2, 1)] [.int .u8 0, .slice none 0 0, .int .i64 0] := Bld.of (.agg #[.int .u8 0, .slice none 0 0, .int .i64 0]) (by kernel_rfl) (fun _ => by kernel_rfl) (by kernel_rfl) (fun _ => by kernel_rfl)
instance : Many Go.Proofs.Tryz.prog 111 3 := ⟨fun _ => by kernel_rfl, fun _ => by kernel_rfl⟩
instance : SizeOf Go.Proofs.Tryz.prog 111 3 := ⟨fun _ => by kernel_rfl⟩
instance : Info Go.Proofs.Tryz.prog 111 3 32 (.agg #[.int .u8 0, .int .u8 0, .slice none 0 0]) := ⟨by kernel_rfl, by kernel_rfl⟩
instance : Zero Go.Proofs.Tryz.prog 111 [.int .u8 0, .int .u8 0, .slice none 0 0] := ⟨fun _ => ⟨.agg #[.int .u8 0, .int .u8 0, .slice none 0 0], by kernel_rfl, by kernel_rfl⟩⟩
instance : FieldOff Go.Proofs.Tryz.prog 111 0 0 := ⟨fun _ _ => by kernel_rfl⟩
instance : FieldOff Go.Proofs.Tryz.prog 111 1 1 := ⟨fun _ _ => by kernel_rfl⟩
instance : FieldOff Go.Proofs.Tryz.prog 111 2 2 := ⟨fun _ _ => by kernel_rfl⟩
instance : Bld Go.Proofs.Tryz.prog 111 [(0, 1), (1, 1), (2, 1)] [.int .u8 0, .int .u8 0, .slice none 0 0] := Bld.of (.agg #[.int .u8 0, .int .u8 0, .slice none 0 0]) (by kernel_rfl) (fun _ => by kernel_rfl) (by kernel_rfl) (fun _ => by kernel_rfl)
instance : Und Go.Proofs.Tryz.prog 120 (.pointer 124) := ⟨by kernel_rfl⟩
instance : One Go.Proofs.Tryz.prog 120 := ⟨fun _ => by kernel_rfl, fun _ => by kernel_rfl⟩
instance : SizeOf Go.Proofs.Tryz.prog 120 1 := ⟨fun _ => by kernel_rfl⟩
instance : Zero Go.Proofs.Tryz.prog 120 [.pointer none] := ⟨fun _ => ⟨.pointer none, by kernel_rfl, by kernel_rfl⟩⟩
instance : Und Go.Proofs.Tryz.prog 121 (.array 2 44) := ⟨by kernel_rfl⟩
instance : Many Go.Proofs.Tryz.prog 121 2 := ⟨fun _ => by kernel_rfl, fun _ => by kernel_rfl⟩
instance : SizeOf Go.Proofs.Tryz.prog 121 2 := ⟨fun _ => by kernel_rfl⟩
instance : Zero Go.Proofs.Tryz.prog 121 [.slice none 0 0, .slice none 0 0] := ⟨fun _ => ⟨.agg #[.slice none 0 0, .slice none 0 0], by kernel_rfl, by kernel_rfl⟩⟩
instance : Und Go.Proofs.Tryz.prog 122 (.array 2 3) := ⟨by kernel_rfl⟩
instance : Many Go.Proofs.Tryz.prog 122 2 := ⟨fun _ => by kernel_rfl, fun _ => by kernel_rfl⟩
instance : SizeOf Go.Proofs.Tryz.prog 122 2 := ⟨fun _ => by kernel_rfl⟩
instance : Zero Go.Proofs.Tryz.prog 122 [.int .i64 0, .int .i64 0] := ⟨fun _ => ⟨.agg #[.int .i64 0, .int .i64 0], by kernel_rfl, by kernel_rfl⟩⟩
instance : Many Go.Proofs.Tryz.prog 124 7 := ⟨fun _ => by kernel_rfl, fun _ => by kernel_rfl⟩
instance : SizeOf Go.Proofs.Tryz.prog 124 7 := ⟨fun _ => by kernel_rfl⟩
instance : Zero Go.Proofs.Tryz.prog 124 [.slice none 0 0, .slice none 0 0, .slice none 0 0, .slice none 0 0, .int .i64 0, .int .i64 0, .int .i64 0] := ⟨fun _ => ⟨.agg #[.slice none 0 0, .slice none 0 0, .slice none 0 0, .slice none 0 0, .int .i64 0, .int .i64 0, .int .i64 0], by kernel_rfl, by kernel_rfl⟩⟩
instance : FieldOff Go.Proofs.Tryz.prog 124 0 0 := ⟨fun _ _ => by kernel_rfl⟩
instance : FieldOff Go.Proofs.Tryz.prog 124 1 2 := ⟨fun _ _ => by kernel_rfl⟩
instance : FieldOff Go.Proofs.Tryz.prog 124 2 4 := ⟨fun _ _ => by kernel_rfl⟩
instance : FieldOff Go.Proofs.Tryz.prog 124 3 6 := ⟨fun _ _ => by kernel_rfl⟩
instance : Bld Go.Proofs.Tryz.prog 124 [(0, 2), (2, 2), (4, 2), (6, 1)] [.slice none 0 0, .slice none 0 0, .slice none 0 0, .slice none 0 0, .int .i64 0, .int .i64 0, .int .i64 0] := Bld.of (.agg #[.slice none 0 0, .slice none 0 0, .slice none 0 0, .slice none 0 0, .int .i64 0, .int .i64 0, .int .i64 0]) (by kernel_rfl) (fun _ => by kernel_rfl) (by kernel_rfl) (fun _ => by kernel_rfl)
instance : Und Go.Proofs.Tryz.prog 130 (.pointer 197) := ⟨by kernel_rfl⟩
instance : One Go.Proofs.Tryz.prog 130 := ⟨fun _ => by kernel_rfl, fun _ => by kernel_rfl⟩
instance : SizeOf Go.Proofs.Tryz.prog 130 1 := ⟨fun _ => by kernel_rfl⟩
instance : Zero Go.Proofs.Tryz.prog 130 [.pointer none] := ⟨fun _ => ⟨.pointer none, by kernel_rfl, by kernel_rfl⟩⟩
instance : Many Go.Proofs.Tryz.prog 146 4 := ⟨fun _ => by kernel_rfl, fun _ => by kernel_rfl⟩
instance : SizeOf Go.Proofs.Tryz.prog 146 4 := ⟨fun _ => by kernel_rfl⟩
instance : Info Go.Proofs.Tryz.prog 146 4 4 (.agg #[.int .u8 0, .int .u8 0, .int .u8 0, .int .u8 0]) := ⟨by kernel_rfl, by kernel_rfl⟩
instance : Zero Go.Proofs.Tryz.prog 146 [.int .u8 0, .int .u8 0, .int .u8 0, .int .u8 0] := ⟨fun _ => ⟨.agg #[.int .u8 0, .int .u8 0, .int .u8 0, .int .u8 0], by kernel_rfl, by kernel_rfl⟩⟩
instance : FieldOff Go.Proofs.Tryz.prog 146 0 0 := ⟨fun _ _ => by kernel_rfl⟩
instance : FieldOff Go.Proofs.Tryz.prog 146 1 1 := ⟨fun _ _ => by kernel_rfl⟩
instance : FieldOff Go.Proofs.Tryz.prog 146 2 2 := ⟨fun _ _ => by kernel_rfl⟩
instance : FieldOff Go.Proofs.Tryz.prog 146 3 3 := ⟨fun _ _ => by kernel_rfl⟩
instance : Bld Go.Proofs.Tryz.prog 146 [(0, 1), (1, 1), (2, 1), (3, 1)] [.int .u8 0, .int .u8 0, .int .u8 0, .int .u8 0] := Bld.of (.agg #[.int .u8 0, .int .u8 0, .int .u8 0, .int .u8 0]) (by kernel_rfl) (fun _ => by kernel_rfl) (by kernel_rfl) (fun _ => by kernel_rfl)
instance : Und Go.Proofs.Tryz.prog 148 (.array 2 78) := ⟨by kernel_rfl⟩
instance : Many Go.Proofs.Tryz.prog 148 2 := ⟨fun _ => by kernel_rfl, fun _ => by kernel_rfl⟩
instance : SizeOf Go.Proofs.Tryz.prog 148 2 := ⟨fun _ => by kernel_rfl⟩
instance : Zero Go.Proofs.Tryz.prog 148 [.pointer none, .pointer none] := ⟨fun _ => ⟨.agg #[.pointer none, .pointer none], by kernel_rfl, by kernel_rfl⟩⟩
instance : Und Go.Proofs.Tryz.prog 149 (.array 2 130) := ⟨by kernel_rfl⟩
instance : Many Go.Proofs.Tryz.prog 149 2 := ⟨fun _ => by kernel_rfl, fun _ => by kernel_rfl⟩
instance : SizeOf Go.Proofs.Tryz.prog 149 2 := ⟨fun _ => by kernel_rfl⟩
instance : Zero Go.Proofs.Tryz.prog 149 [.pointer none, .pointer none] := ⟨fun _ => ⟨.agg #[.pointer none, .pointer none], by kernel_rfl, by kernel_rfl⟩⟩
instance : Und Go.Proofs.Tryz.prog 150 (.array 2 82) := ⟨by kernel_rfl⟩
instance : Many Go.Proofs.Tryz.prog 150 16 := ⟨fun _ => by kernel_rfl, fun _ => by kernel_rfl⟩
instance : SizeOf Go.Proofs.Tryz.prog 150 16 := ⟨fun _ => by kernel_rfl⟩
instance : Zero Go.Proofs.Tryz.prog 150 [.bool false, .bool false, .bool false, .bool false, .bool false, .bool false, .bool false, .bool false, .bool false, .bool false, .bool false, .bool false, .bool false, .bool false, .bool false, .bool false] := ⟨fun _ => ⟨.agg #[.bool false, .bool false, .bool false, .bool false, .bool false, .bool false, .bool false, .bool false, .bool false, .bool false, .bool false, .bool false, .bool false, .bool false, .bool false, .bool false], by kernel_rfl, by kernel_rfl⟩⟩
instance : Und Go.Proofs.Tryz.prog 151 (.slice 159) := ⟨by kernel_rfl⟩
instance : One Go.Proofs.Tryz.prog 151 := ⟨fun _ => by kernel_rfl, fun _ => by kernel_rfl⟩
instance : SizeOf Go.Proofs.Tryz.prog 151 1 := ⟨fun _ => by kernel_rfl⟩
instance : Zero Go.Proofs.Tryz.prog 151 [.slice none 0 0] := ⟨fun _ => ⟨.slice none 0 0, by kernel_rfl, by kernel_rfl⟩⟩
instance : Many Go.Proofs.Tryz.prog 153 22 := ⟨fun _ => by kernel_rfl, fun _ => by kernel_rfl⟩
instance : SizeOf Go.Proofs.Tryz.prog 153 22 := ⟨fun _ => by kernel_rfl⟩
instance : Zero Go.Proofs.Tryz.prog 153 [.pointer none, .pointer none, .pointer none, .pointer none, .bool false, .bool false, .bool false, .bool false, .bool false, .bool false, .bool false, .bool false, .bool false, .bool false, .bool false, .bool false, .bool false, .bool false, .bool false, .bool false, .int .i64 0, .slice none 0 0] := ⟨fun _ => ⟨.agg #[.pointer none, .pointer none, .pointer none, .pointer none, .bool false, .bool false, .bool false, .bool false, .bool false, .bool false, .bool false, .bool false, .bool false, .bool false, .bool false, .bool false, .bool false, .bool false, .bool false, .bool false, .int .i64 0, .slice none 0 0], by kernel_rfl, by kernel_rfl⟩⟩
instance : FieldOff Go.Proofs.Tryz.prog 153 0 0 := ⟨fun _ _ => by kernel_rfl⟩
instance : FieldOff Go.Proofs.Tryz.prog 153 1 2 := ⟨fun _ _ => by kernel_rfl⟩
instance : FieldOff Go.Proofs.Tryz.prog 153 2 4 := ⟨fun _ _ => by kernel_rfl⟩
instance : FieldOff Go.Proofs.Tryz.prog 153 3 20 := ⟨fun _ _ => by kernel_rfl⟩
instance : FieldOff Go.Proofs.Tryz.prog 153 4 21 := ⟨fun _ _ => by kernel_rfl⟩
instance : Bld Go.Proofs.Tryz.prog 153 [(0, 2), (2, 2), (4, 16), (20, 1), (21, 1)] [.pointer none, .pointer none, .pointer none, .pointer none, .bool false, .bool false, .bool false, .bool false, .bool false, .bool false, .bool false, .bool false, .bool false, .bool false, .bool false, .bool false, .bool false, .bool false, .bool false, .bool false, .int .i64 0, .slice none 0 0] := Bld.of (.agg #[.pointer none, .pointer none, .pointer none, .pointer none, .bool false, .bool false, .bool false, .bool false, .bool false, .bool false, .bool false, .bool false, .bool false, .bool false, .bool false, .bool false, .bool false, .bool false, .bool false, .bool false, .int .i64 0, .slice none 0 0]) (by kernel_rfl) (fun _ => by kernel_rfl) (by kernel_rfl) (fun _ => by kernel_rfl)
instance : Und Go.Proofs.Tryz.prog 155 (.slice 4) := ⟨by kernel_rfl⟩
instance : One Go.Proofs.Tryz.prog 155 := ⟨fun _ => by kernel_rfl, fun _ => by kernel_rfl⟩
instance : SizeOf Go.Proofs.Tryz.prog 155 1 := ⟨fun _ => by kernel_rfl⟩
instance : Zero Go.Proofs.Tryz.prog 155 [.slice none 0 0] := ⟨fun _ => ⟨.slice none 0 0, by kernel_rfl, by kernel_rfl⟩⟩
instance : One Go.Proofs.Tryz.prog 159 := ⟨fun _ => by kernel_rfl, fun _ => by kernel_rfl⟩
instance : SizeOf Go.Proofs.Tryz.prog 159 1 := ⟨fun _ => by kernel_rfl⟩
instance : Info Go.Proofs.Tryz.prog 159 1 16 (.nilIface) := ⟨by kernel_rfl, by kernel_rfl⟩
instance : Zero Go.Proofs.Tryz.prog 159 [.nilIface] := ⟨fun _ => ⟨.nilIface, by kernel_rfl, by kernel_rfl⟩⟩
instance : One Go.Proofs.Tryz.prog 161 := ⟨fun _ => by kernel_rfl, fun _ => by kernel_rfl⟩
instance : SizeOf Go.Proofs.Tryz.prog 161 1 := ⟨fun _ => by kernel_rfl⟩
instance : Zero Go.Proofs.Tryz.prog 161 [.map none] := ⟨fun _ => ⟨.map none, by kernel_rfl, by kernel_rfl⟩⟩
instance : Und Go.Proofs.Tryz.prog 162 (.array 2 161) := ⟨by kernel_rfl⟩
instance : Many Go.Proofs.Tryz.prog 162 2 := ⟨fun _ => by kernel_rfl, fun _ => by kernel_rfl⟩
instance : SizeOf Go.Proofs.Tryz.prog 162 2 := ⟨fun _ => by kernel_rfl⟩
instance : Zero Go.Proofs.Tryz.prog 162 [.map none, .map none] := ⟨fun _ => ⟨.agg #[.map none, .map none], by kernel_rfl, by kernel_rfl⟩⟩
instance : Many Go.Proofs.Tryz.prog 164 6 := ⟨fun _ => by kernel_rfl, fun _ => by kernel_rfl⟩
instance : SizeOf Go.Proofs.Tryz.prog 164 6 := ⟨fun _ => by kernel_rfl⟩
instance : Zero Go.Proofs.Tryz.prog 164 [.int .i64 0, .int .i64 0, .int .i64 0, .int .i64 0, .int .i64 0, .int .i64 0] := ⟨fun _ => ⟨.agg #[.int .i64 0, .int .i64 0, .int .i64 0, .int .i64 0, .int .i64 0, .int .i64 0], by kernel_rfl, by kernel_rfl⟩⟩
instance : FieldOff Go.Proofs.Tryz.prog 164 0 0 := ⟨fun _ _ => by kernel_rfl⟩
instance : FieldOff Go.Proofs.Tryz.prog 164 1 2 := ⟨fun _ _ => by kernel_rfl⟩
instance : FieldOff Go.Proofs.Tryz.prog 164 2 4 := ⟨fun _ _ => by kernel_rfl⟩
instance : Bld Go.Proofs.Tryz.prog 164 [(0, 2), (2, 2), (4, 2)] [.int .i64 0, .int .i64 0, .int .i64 0, .int .i64 0, .int .i64 0, .int .i64 0] := Bld.of (.agg #[.int .i64 0, .int .i64 0, .int .i64 0, .int .i64 0, .int .i64 0, .int .i64 0]) (by kernel_rfl) (fun _ => by kernel_rfl) (by kernel_rfl) (fun _ => by kernel_rfl)
instance : Many Go.Proofs.Tryz.prog 166 11 := ⟨fun _ => by kernel_rfl, fun _ => by kernel_rfl⟩
instance : SizeOf Go.Proofs.Tryz.prog 166 11 := ⟨fun _ => by kernel_rfl⟩
instance : Zero Go.Proofs.Tryz.prog 166 [.int .i64 0, .map none, .map none, .int .i64 0, .int .i64 0, .int .i64 0, .int .i64 0, .int .i64 0, .int .i64 0, .int .i64 0, .int .i64 0] := ⟨fun _ => ⟨.agg #[.int .i64 0, .map none, .map none, .int .i64 0, .int .i64 0, .int .i64 0, .int .i64 0, .int .i64 0, .int .i64 0, .int .i64 0, .int .i64 0], by kernel_rfl, by kernel_rfl⟩⟩
instance : FieldOff Go.Proofs.Tryz.prog 166 0 0 := ⟨fun _ _ => by kernel_rfl⟩
instance : FieldOff Go.Proofs.Tryz.prog 166 1 1 := ⟨fun _ _ => by kernel_rfl⟩
instance : FieldOff Go.Proofs.Tryz.prog 166 2 3 := ⟨fun _ _ => by kernel_rfl⟩
instance : FieldOff Go.Proofs.Tryz.prog 166 3 9 := ⟨fun _ _ => by kernel_rfl⟩
instance : FieldOff Go.Proofs.Tryz.prog 166 4 10 := ⟨fun _ _ => by kernel_rfl⟩
instance : Bld Go.Proofs.Tryz.prog 166 [(0, 1), (1, 2), (3, 6), (9, 1), (10, 1)] [.int .i64 0, .map none, .map none, .int .i64 0, .int .i64 0, .int .i64 0, .int .i64 0, .int .i64 0, .int .i64 0, .int .i64 0, .int .i64 0] := Bld.of (.agg #[.int .i64 0, .map none, .map none, .int .i64 0, .int .i64 0, .int .i64 0, .int .i64 0, .int .i64 0, .int .i64 0, .int .i64 0, .int .i64 0]) (by kernel_rfl) (fun _ => by kernel_rfl) (by kernel_rfl) (fun _ => by kernel_rfl)
instance : Many Go.Proofs.Tryz.prog 170 8 := ⟨fun _ => by kernel_rfl, fun _ => by kernel_rfl⟩
instance : SizeOf Go.Proofs.Tryz.prog 170 8 := ⟨fun _ => by kernel_rfl⟩
instance : Zero Go.Proofs.Tryz.prog 170 [.int .i64 0, .int .i64 0, .int .i64 0, .int .i64 0, .int .i64 0, .int .i64 0, .int .i64 0, .int .i64 0] := ⟨fun _ => ⟨.agg #[.int .i64 0, .int .i64 0, .int .i64 0, .int .i64 0, .int .i64 0, .int .i64 0, .int .i64 0, .int .i64 0], by kernel_rfl, by kernel_rfl⟩⟩
instance : FieldOff Go.Proofs.Tryz.prog 170 0 0 := ⟨fun _ _ => by kernel_rfl⟩
instance : Bld Go.Proofs.Tryz.prog 170 [(0, 8)] [.int .i64 0, .int .i64 0, .int .i64 0, .int .i64 0, .int .i64 0, .int .i64 0, .int .i64 0, .int .i64 0] := Bld.of (.agg #[.int .i64 0, .int .i64 0, .int .i64 0, .int .i64 0, .int .i64 0, .int .i64 0, .int .i64 0, .int .i64 0]) (by kernel_rfl) (fun _ => by kernel_rfl) (by kernel_rfl) (fun _ => by kernel_rfl)
instance : Many Go.Proofs.Tryz.prog 181 5 := ⟨fun _ => by kernel_rfl, fun _ => by kernel_rfl⟩
instance : SizeOf Go.Proofs.Tryz.prog 181 5 := ⟨fun _ => by kernel_rfl⟩
instance : Zero Go.Proofs.Tryz.prog 181 [.int .i64 0, .int .i64 0, .slice none 0 0, .int .u8 0, .slice none 0 0] := ⟨fun _ => ⟨.agg #[.int .i64 0, .int .i64 0, .slice none 0 0, .int .u8 0, .slice none 0 0], by kernel_rfl, by kernel_rfl⟩⟩
instance : FieldOff Go.Proofs.Tryz.prog 181 0 0 := ⟨fun _ _ => by kernel_rfl⟩
instance : FieldOff Go.Proofs.Tryz.prog 181 1 1 := ⟨fun _ _ => by kernel_rfl⟩
instance : FieldOff Go.Proofs.Tryz.prog 181 2 2 := ⟨fun _ _ => by kernel_rfl⟩
instance : FieldOff Go.Proofs.Tryz.prog 181 3 3 := ⟨fun _ _ => by kernel_rfl⟩
instance : FieldOff Go.Proofs.Tryz.prog 181 4 4 := ⟨fun _ _ => by kernel_rfl⟩
instance : Bld Go.Proofs.Tryz.prog 181 [(0, 1), (1, 1), (2, 1), (3, 1), (4, 1)] [.int .i64 0, .int .i64 0, .slice none 0 0, .int .u8 0, .slice none 0 0] := Bld.of (.agg #[.int .i64 0, .int .i64 0, .slice none 0 0, .int .u8 0, .slice none 0 0]) (by kernel_rfl) (fun _ => by kernel_rfl) (by kernel_rfl) (fun _ => by kernel_rfl)
instance : Many Go.Proofs.Tryz.prog 186 4 := ⟨fun _ => by kernel_rfl, fun _ => by kernel_rfl⟩
instance : SizeOf Go.Proofs.Tryz.prog 186 4 := ⟨fun _ => by kernel_rfl⟩
instance : Zero Go.Proofs.Tryz.prog 186 [.slice none 0 0, .int .i64 0, .bool false, .int .i64 0] := ⟨fun _ => ⟨.agg #[.slice none 0 0, .int .i64 0, .bool false, .int .i64 0], by kernel_rfl, by kernel_rfl⟩⟩
instance : FieldOff Go.Proofs.Tryz.prog 186 0 0 := ⟨fun _ _ => by kernel_rfl⟩
instance : FieldOff Go.Proofs.Tryz.prog 186 1 1 := ⟨fun _ _ => by kernel_rfl⟩
instance : FieldOff Go.Proofs.Tryz.prog 186 2 2 := ⟨fun _ _ => by kernel_rfl⟩
instance : FieldOff Go.Proofs.Tryz.prog 186 3 3 := ⟨fun _ _ => by kernel_rfl⟩
instance : Bld Go.Proofs.Tryz.prog 186 [(0, 1), (1, 1), (2, 1), (3, 1)] [.slice none 0 0, .int .i64 0, .bool false, .int .i64 0] := Bld.of (.agg #[.slice none 0 0, .int .i64 0, .bool false, .int .i64 0]) (by kernel_rfl) (fun _ => by kernel_rfl) (by kernel_rfl) (fun _ => by kernel_rfl)
instance : Many Go.Proofs.Tryz.prog 188 25 := ⟨fun _ => by kernel_rfl, fun _ => by kernel_rfl⟩
instance : SizeOf Go.Proofs.Tryz.prog 188 25 := ⟨fun _ => by kernel_rfl⟩
instance : Zero Go.Proofs.Tryz.prog 188 [.pointer none, .slice none 0 0, .int .i64 0, .bool false, .int .i64 0, .slice none 0 0, .slice none 0 0, .int .i64 0, .int .i64 0, .int .i64 0, .slice none 0 0, .slice none 0 0, .bool false, .int .i64 0, .int .i64 0, .int .i64 0, .int .i64 0, .int .i64 0, .int .i64 0, .int .i64 0, .int .i64 0, .int .i64 0, .int .i64 0, .int .i64 0, .int .i64 0] := ⟨fun _ => ⟨.agg #[.pointer none, .slice none 0 0, .int .i64 0, .bool false, .int .i64 0, .slice none 0 0, .slice none 0 0, .int .i64 0, .int .i64 0, .int .i64 0, .slice none 0 0, .slice none 0 0, .bool false, .int .i64 0, .int .i64 0, .int .i64 0, .int .i64 0, .int .i64 0, .int .i64 0, .int .i64 0, .int .i64 0, .int .i64 0, .int .i64 0, .int .i64 0, .int .i64 0], by kernel_rfl, by kernel_rfl⟩⟩
instance : FieldOff Go.Proofs.Tryz.prog 188 0 0 := ⟨fun _ _ => by kernel_rfl⟩
instance : FieldOff Go.Proofs.Tryz.prog 188 1 1 := ⟨fun _ _ => by kernel_rfl⟩
instance : FieldOff Go.Proofs.Tryz.prog 188 2 5 := ⟨fun _ _ => by kernel_rfl⟩
instance : FieldOff Go.Proofs.Tryz.prog 188 3 6 := ⟨fun _ _ => by kernel_rfl⟩
instance : FieldOff Go.Proofs.Tryz.prog 188 4 8 := ⟨fun _ _ => by kernel_rfl⟩
instance : FieldOff Go.Proofs.Tryz.prog 188 5 9 := ⟨fun _ _ => by kernel_rfl⟩
instance : FieldOff Go.Proofs.Tryz.prog 188 6 10 := ⟨fun _ _ => by kernel_rfl⟩
instance : FieldOff Go.Proofs.Tryz.prog 188 7 11 := ⟨fun _ _ => by kernel_rfl⟩
instance : FieldOff Go.Proofs.Tryz.prog 188 8 12 := ⟨fun _ _ => by kernel_rfl⟩
instance : Bld Go.Proofs.Tryz.prog 188 [(0, 1), (1, 4), (5, 1), (6, 2), (8, 1), (9, 1), (10, 1), (11, 1), (12, 13)] [.pointer none, .slice none 0 0, .int .i64 0, .bool false, .int .i64 0, .slice none 0 0, .slice none 0 0, .int .i64 0, .int .i64 0, .int .i64 0, .slice none 0 0, .slice none 0 0, .bool false, .int .i64 0, .int .i64 0, .int .i64 0, .int .i64 0, .int .i64 0, .int .i64 0, .int .i64 0, .int .i64 0, .int .i64 0, .int .i64 0, .int .i64 0, .int .i64 0] := Bld.of (.agg #[.pointer none, .slice none 0 0, .int .i64 0, .bool false, .int .i64 0, .slice none 0 0, .slice none 0 0, .int .i64 0, .int .i64 0, .int .i64 0, .slice none 0 0, .slice none 0 0, .bool false, .int .i64 0, .int .i64 0, .int .i64 0, .int .i64 0, .int .i64 0, .int .i64 0, .int .i64 0, .int .i64 0, .int .i64 0, .int .i64 0, .int .i64 0, .int .i64 0]) (by kernel_rfl) (fun _ => by kernel_rfl) (by kernel_rfl) (fun _ => by kernel_rfl)
instance : Many Go.Proofs.Tryz.prog 197 5 := ⟨fun _ => by kernel_rfl, fun _ => by kernel_rfl⟩
instance : SizeOf Go.Proofs.Tryz.prog 197 5 := ⟨fun _ => by kernel_rfl⟩
instance : Zero Go.Proofs.Tryz.prog 197 [.slice none 0 0, .int .i64 0, .slice none 0 0, .int .i64 0, .int .i64 0] := ⟨fun _ => ⟨.agg #[.slice none 0 0, .int .i64 0, .slice none 0 0, .int .i64 0, .int .i64 0], by kernel_rfl, by kernel_rfl⟩⟩
instance : FieldOff Go.Proofs.Tryz.prog 197 0 0 := ⟨fun _ _ => by kernel_rfl⟩
instance : FieldOff Go.Proofs.Tryz.prog 197 1 1 := ⟨fun _ _ => by kernel_rfl⟩
instance : FieldOff Go.Proofs.Tryz.prog 197 2 2 := ⟨fun _ _ => by kernel_rfl⟩
instance : FieldOff Go.Proofs.Tryz.prog 197 3 3 := ⟨fun _ _ => by kernel_rfl⟩
instance : FieldOff Go.Proofs.Tryz.prog 197 4 4 := ⟨fun _ _ => by kernel_rfl⟩
instance : Bld Go.Proofs.Tryz.prog 197 [(0, 1), (1, 1), (2, 1), (3, 1), (4, 1)] [.slice none 0 0, .int .i64 0, .slice none 0 0, .int .i64 0, .int .i64 0] := Bld.of (.agg #[.slice none 0 0, .int .i64 0, .slice none 0 0, .int .i64 0, .int .i64 0]) (by kernel_rfl) (fun _ => by kernel_rfl) (by kernel_rfl) (fun _ => by kernel_rfl)
instance : Und Go.Proofs.Tryz.prog 203 (.array 2 67) := ⟨by kernel_rfl⟩
instance : Many Go.Proofs.Tryz.prog 203 2 := ⟨fun _ => by kernel_rfl, fun _ => by kernel_rfl⟩
instance : SizeOf Go.Proofs.Tryz.prog 203 2 := ⟨fun _ => by kernel_rfl⟩
instance : Zero Go.Proofs.Tryz.prog 203 [.slice none 0 0, .slice none 0 0] := ⟨fun _ => ⟨.agg #[.slice none 0 0, .slice none 0 0], by kernel_rfl, by kernel_rfl⟩⟩
instance : Und Go.Proofs.Tryz.prog 204 (.array 2 5) := ⟨by kernel_rfl⟩
instance : Many Go.Proofs.Tryz.prog 204 2 := ⟨fun _ => by kernel_rfl, fun _ => by kernel_rfl⟩
instance : SizeOf Go.Proofs.Tryz.prog 204 2 := ⟨fun _ => by kernel_rfl⟩
instance : Zero Go.Proofs.Tryz.prog 204 [.int .u8 0, .int .u8 0] := ⟨fun _ => ⟨.agg #[.int .u8 0, .int .u8 0], by kernel_rfl, by kernel_rfl⟩⟩
instance : Many Go.Proofs.Tryz.prog 206 16 := ⟨fun _ => by kernel_rfl, fun _ => by kernel_rfl⟩
instance : SizeOf Go.Proofs.Tryz.prog 206 16 := ⟨fun _ => by kernel_rfl⟩
instance : Zero Go.Proofs.Tryz.prog 206 [.slice none 0 0, .slice none 0 0, .slice none 0 0, .slice none 0 0, .int .i64 0, .int .i64 0, .int .i64 0, .int .i64 0, .slice none 0 0, .slice none 0 0, .int .i64 0, .int .i64 0, .int .i64 0, .int .i64 0, .int .u8 0, .int .u8 0] := ⟨fun _ => ⟨.agg #[.slice none 0 0, .slice none 0 0, .slice none 0 0, .slice none 0 0, .int .i64 0, .int .i64 0, .int .i64 0, .int .i64 0, .slice none 0 0, .slice none 0 0, .int .i64 0, .int .i64 0, .int .i64 0, .int .i64 0, .int .u8 0, .int .u8 0], by kernel_rfl, by kernel_rfl⟩⟩
instance : FieldOff Go.Proofs.Tryz.prog 206 0 0 := ⟨fun _ _ => by kernel_rfl⟩
instance : FieldOff Go.Proofs.Tryz.prog 206 1 2 := ⟨fun _ _ => by kernel_rfl⟩
instance : FieldOff Go.Proofs.Tryz.prog 206 2 4 := ⟨fun _ _ => by kernel_rfl⟩
instance : FieldOff Go.Proofs.Tryz.prog 206 3 6 := ⟨fun _ _ => by kernel_rfl⟩
instance : FieldOff Go.Proofs.Tryz.prog 206 4 8 := ⟨fun _ _ => by kernel_rfl⟩
instance : FieldOff Go.Proofs.Tryz.prog 206 5 10 := ⟨fun _ _ => by kernel_rfl⟩
instance : FieldOff Go.Proofs.Tryz.prog 206 6 12 := ⟨fun _ _ => by kernel_rfl⟩
instance : FieldOff Go.Proofs.Tryz.prog 206 7 14 := ⟨fun _ _ => by kernel_rfl⟩
instance : Bld Go.Proofs.Tryz.prog 206 [(0, 2), (2, 2), (4, 2), (6, 2), (8, 2), (10, 2), (12, 2), (14, 2)] [.slice none 0 0, .slice none 0 0, .slice none 0 0, .slice none 0 0, .int .i64 0, .int .i64 0, .int .i64 0, .int .i64 0, .slice none 0 0, .slice none 0 0, .int .i64 0, .int .i64 0, .int .i64 0, .int .i64 0, .int .u8 0, .int .u8 0] := Bld.of (.agg #[.slice none 0 0, .slice none 0 0, .slice none 0 0, .slice none 0 0, .int .i64 0, .int .i64 0, .int .i64 0, .int .i64 0, .slice none 0 0, .slice none 0 0, .int .i64 0, .int .i64 0, .int .i64 0, .int .i64 0, .int .u8 0, .int .u8 0]) (by kernel_rfl) (fun _ => by kernel_rfl) (by kernel_rfl) (fun _ => by kernel_rfl)
instance : One Go.Proofs.Tryz.prog 208 := ⟨fun _ => by kernel_rfl, fun _ => by kernel_rfl⟩
instance : SizeOf Go.Proofs.Tryz.prog 208 1 := ⟨fun _ => by kernel_rfl⟩
instance : Zero Go.Proofs.Tryz.prog 208 [.nilFunc] := ⟨fun _ => ⟨.nilFunc, by kernel_rfl, by kernel_rfl⟩⟩
instance : Many Go.Proofs.Tryz.prog 213 3 := ⟨fun _ => by kernel_rfl, fun _ => by kernel_rfl⟩
instance : SizeOf Go.Proofs.Tryz.prog 213 3 := ⟨fun _ => by kernel_rfl⟩
instance : Zero Go.Proofs.Tryz.prog 213 [.bool false, .int .i64 0, .int .i64 0] := ⟨fun _ => ⟨.agg #[.bool false, .int .i64 0, .int .i64 0], by kernel_rfl, by kernel_rfl⟩⟩
instance : FieldOff Go.Proofs.Tryz.prog 213 0 0 := ⟨fun _ _ => by kernel_rfl⟩
instance : FieldOff Go.Proofs.Tryz.prog 213 1 1 := ⟨fun _ _ => by kernel_rfl⟩
instance : FieldOff Go.Proofs.Tryz.prog 213 2 2 := ⟨fun _ _ => by kernel_rfl⟩
instance : Bld Go.Proofs.Tryz.prog 213 [(0, 1), (1, 1), (2, 1)] [.bool false, .int .i64 0, .int .i64 0] := Bld.of (.agg #[.bool false, .int .i64 0, .int .i64 0]) (by kernel_rfl) (fun _ => by kernel_rfl) (by kernel_rfl) (fun _ => by kernel_rfl)
instance : Many Go.Proofs.Tryz.prog 215 20 := ⟨fun _ => by kernel_rfl, fun _ => by kernel_rfl⟩
instance : SizeOf Go.Proofs.Tryz.prog 215 20 := ⟨fun _ => by kernel_rfl⟩
instance : Zero Go.Proofs.Tryz.prog 215 [.bool false, .int .i64 0, .int .i64 0, .int .i64 0, .int .i64 0, .int .i64 0, .int .i64 0, .int .i64 0, .int .i64 0, .int .i64 0, .int .i64 0, .int .i64 0, .int .i64 0, .pointer none, .int .u8 0, .bool false, .bool false, .bool false, .int .i64 0, .int .i64 0] := ⟨fun _ => ⟨.agg #[.bool false, .int .i64 0, .int .i64 0, .int .i64 0, .int .i64 0, .int .i64 0, .int .i64 0, .int .i64 0, .int .i64 0, .int .i64 0, .int .i64 0, .int .i64 0, .int .i64 0, .pointer none, .int .u8 0, .bool false, .bool false, .bool false, .int .i64 0, .int .i64 0], by kernel_rfl, by kernel_rfl⟩⟩
instance : FieldOff Go.Proofs.Tryz.prog 215 0 0 := ⟨fun _ _ => by kernel_rfl⟩
instance : FieldOff Go.Proofs.Tryz.prog 215 1 13 := ⟨fun _ _ => by kernel_rfl⟩
instance : FieldOff Go.Proofs.Tryz.prog 215 2 14 := ⟨fun _ _ => by kernel_rfl⟩
instance : FieldOff Go.Proofs.Tryz.prog 215 3 15 := ⟨fun _ _ => by kernel_rfl⟩
instance : FieldOff Go.Proofs.Tryz.prog 215 4 16 := ⟨fun _ _ => by kernel_rfl⟩
instance : FieldOff Go.Proofs.Tryz.prog 215 5 17 := ⟨fun _ _ => by kernel_rfl⟩
instance : Bld Go.Proofs.Tryz.prog 215 [(0, 13), (13, 1), (14, 1), (15, 1), (16, 1), (17, 3)] [.bool false, .int .i64 0, .int .i64 0, .int .i64 0, .int .i64 0, .int .i64 0, .int .i64 0, .int .i64 0, .int .i64 0, .int .i64 0, .int .i64 0, .int .i64 0, .int .i64 0, .pointer none, .int .u8 0, .bool false, .bool false, .bool false, .int .i64 0, .int .i64 0] := Bld.of (.agg #[.bool false, .int .i64 0, .int .i64 0, .int .i64 0, .int .i64 0, .int .i64 0, .int .i64 0, .int .i64 0, .int .i64 0, .int .i64 0, .int .i64 0, .int .i64 0, .int .i64 0, .pointer none, .int .u8 0, .bool false, .bool false, .bool false, .int .i64 0, .int .i64 0]) (by kernel_rfl) (fun _ => by kernel_rfl) (by kernel_rfl) (fun _ => by kernel_rfl)
instance : Many Go.Proofs.Tryz.prog 217 17 := ⟨fun _ => by kernel_rfl, fun _ => by kernel_rfl⟩
instance : SizeOf Go.Proofs.Tryz.prog 217 17 := ⟨fun _ => by kernel_rfl⟩
instance : Zero Go.Proofs.Tryz.prog 217 [.bool false, .int .i64 0, .int .i64 0, .int .i64 0, .int .i64 0, .int .i64 0, .int .i64 0, .int .i64 0, .int .i64 0, .int .i64 0, .int .i64 0, .int .i64 0, .int .i64 0, .pointer none, .bool false, .bool false, .bool false] := ⟨fun _ => ⟨.agg #[.bool false, .int .i64 0, .int .i64 0, .int .i64 0, .int .i64 0, .int .i64 0, .int .i64 0, .int .i64 0, .int .i64 0, .int .i64 0, .int .i64 0, .int .i64 0, .int .i64 0, .pointer none, .bool false, .bool false, .bool false], by kernel_rfl, by kernel_rfl⟩⟩
instance : FieldOff Go.Proofs.Tryz.prog 217 0 0 := ⟨fun _ _ => by kernel_rfl⟩
instance : FieldOff Go.Proofs.Tryz.prog 217 1 13 := ⟨fun _ _ => by kernel_rfl⟩
instance : FieldOff Go.Proofs.Tryz.prog 217 2 14 := ⟨fun _ _ => by kernel_rfl⟩
instance : FieldOff Go.Proofs.Tryz.prog 217 3 15 := ⟨fun _ _ => by kernel_rfl⟩
instance : FieldOff Go.Proofs.Tryz.prog 217 4 16 := ⟨fun _ _ => by kernel_rfl⟩
instance : Bld Go.Proofs.Tryz.prog 217 [(0, 13), (13, 1), (14, 1), (15, 1), (16, 1)] [.bool false, .int .i64 0, .int .i64 0, .int .i64 0, .int .i64 0, .int .i64 0, .int .i64 0, .int .i64 0, .int .i64 0, .int .i64 0, .int .i64 0, .int .i64 0, .int .i64 0, .pointer none, .bool false, .bool false, .bool false] := Bld.of (.agg #[.bool false, .int .i64 0, .int .i64 0, .int .i64 0, .int .i64 0, .int .i64 0, .int .i64 0, .int .i64 0, .int .i64 0, .int .i64 0, .int .i64 0, .int .i64 0, .int .i64 0, .pointer none, .bool false, .bool false, .bool false]) (by kernel_rfl) (fun _ => by kernel_rfl) (by kernel_rfl) (fun _ => by kernel_rfl)
instance : Und Go.Proofs.Tryz.prog 218 (.pointer 256) := ⟨by kernel_rfl⟩
instance : One Go.Proofs.Tryz.prog 218 := ⟨fun _ => by kernel_rfl, fun _ => by kernel_rfl⟩
instance : SizeOf Go.Proofs.Tryz.prog 218 1 := ⟨fun _ => by kernel_rfl⟩
instance : Zero Go.Proofs.Tryz.prog 218 [.pointer none] := ⟨fun _ => ⟨.pointer none, by kernel_rfl, by kernel_rfl⟩⟩
instance : Und Go.Proofs.Tryz.prog 220 (.pointer 258) := ⟨by kernel_rfl⟩
instance : One Go.Proofs.Tryz.prog 220 := ⟨fun _ => by kernel_rfl, fun _ => by kernel_rfl⟩
instance : SizeOf Go.Proofs.Tryz.prog 220 1 := ⟨fun _ => by kernel_rfl⟩
instance : Zero Go.Proofs.Tryz.prog 220 [.pointer none] := ⟨fun _ => ⟨.pointer none, by kernel_rfl, by kernel_rfl⟩⟩
instance : Und Go.Proofs.Tryz.prog 230 (.pointer 186) := ⟨by kernel_rfl⟩
instance : One Go.Proofs.Tryz.prog 230 := ⟨fun _ => by kernel_rfl, fun _ => by kernel_rfl⟩
instance : SizeOf Go.Proofs.Tryz.prog 230 1 := ⟨fun _ => by kernel_rfl⟩
instance : Zero Go.Proofs.Tryz.prog 230 [.pointer none] := ⟨fun _ => ⟨.pointer none, by kernel_rfl, by kernel_rfl⟩⟩
instance : Und Go.Proofs.Tryz.prog 254 (.array 2 4) := ⟨by kernel_rfl⟩
instance : Many Go.Proofs.Tryz.prog 254 2 := ⟨fun _ => by kernel_rfl, fun _ => by kernel_rfl⟩
instance : SizeOf Go.Proofs.Tryz.prog 254 2 := ⟨fun _ => by kernel_rfl⟩
instance : Zero Go.Proofs.Tryz.prog 254 [.bool false, .bool false] := ⟨fun _ => ⟨.agg #[.bool false, .bool false], by kernel_rfl, by kernel_rfl⟩⟩
instance : Many Go.Proofs.Tryz.prog 256 8 := ⟨fun _ => by kernel_rfl, fun _ => by kernel_rfl⟩
instance : SizeOf Go.Proofs.Tryz.prog 256 8 := ⟨fun _ => by kernel_rfl⟩
instance : Zero Go.Proofs.Tryz.prog 256 [.pointer none, .int .i64 0, .int .i64 0, .int .u8 0, .int .i64 0, .bool false, .bool false, .bool false] := ⟨fun _ => ⟨.agg #[.pointer none, .int .i64 0, .int .i64 0, .int .u8 0, .int .i64 0, .bool false, .bool false, .bool false], by kernel_rfl, by kernel_rfl⟩⟩
instance : FieldOff Go.Proofs.Tryz.prog 256 0 0 := ⟨fun _ _ => by kernel_rfl⟩
instance : FieldOff Go.Proofs.Tryz.prog 256 1 1 := ⟨fun _ _ => by kernel_rfl⟩
instance : FieldOff Go.Proofs.Tryz.prog 256 2 2 := ⟨fun _ _ => by kernel_rfl⟩
instance : FieldOff Go.Proofs.Tryz.prog 256 3 3 := ⟨fun _ _ => by kernel_rfl⟩
instance : FieldOff Go.Proofs.Tryz.prog 256 4 4 := ⟨fun _ _ => by kernel_rfl⟩
instance : FieldOff Go.Proofs.Tryz.prog 256 5 5 := ⟨fun _ _ => by kernel_rfl⟩
instance : FieldOff Go.Proofs.Tryz.prog 256 6 6 := ⟨fun _ _ => by kernel_rfl⟩
instance : Bld Go.Proofs.Tryz.prog 256 [(0, 1), (1, 1), (2, 1), (3, 1), (4, 1), (5, 1), (6, 2)] [.pointer none, .int .i64 0, .int .i64 0, .int .u8 0, .int .i64 0, .bool false, .bool false, .bool false] := Bld.of (.agg #[.pointer none, .int .i64 0, .int .i64 0, .int .u8 0, .int .i64 0, .bool false, .bool false, .bool false]) (by kernel_rfl) (fun _ => by kernel_rfl) (by kernel_rfl) (fun _ => by kernel_rfl)
instance : Many Go.Proofs.Tryz.prog 258 10 := ⟨fun _ => by kernel_rfl, fun _ => by kernel_rfl⟩
instance : SizeOf Go.Proofs.Tryz.prog 258 10 := ⟨fun _ => by kernel_rfl⟩
instance : Zero Go.Proofs.Tryz.prog 258 [.pointer none, .bool false, .bool false, .int .u8 0, .bool false, .int .i64 0, .bool false, .bool false, .bool false, .bool false] := ⟨fun _ => ⟨.agg #[.pointer none, .bool false, .bool false, .int .u8 0, .bool false, .int .i64 0, .bool false, .bool false, .bool false, .bool false], by kernel_rfl, by kernel_rfl⟩⟩
instance : FieldOff Go.Proofs.Tryz.prog 258 0 0 := ⟨fun _ _ => by kernel_rfl⟩
instance : FieldOff Go.Proofs.Tryz.prog 258 1 1 := ⟨fun _ _ => by kernel_rfl⟩
instance : FieldOff Go.Proofs.Tryz.prog 258 2 2 := ⟨fun _ _ => by kernel_rfl⟩
instance : FieldOff Go.Proofs.Tryz.prog 258 3 3 := ⟨fun _ _ => by kernel_rfl⟩
instance : FieldOff Go.Proofs.Tryz.prog 258 4 4 := ⟨fun _ _ => by kernel_rfl⟩
instance : FieldOff Go.Proofs.Tryz.prog 258 5 5 := ⟨fun _ _ => by kernel_rfl⟩
instance : FieldOff Go.Proofs.Tryz.prog 258 6 6 := ⟨fun _ _ => by kernel_rfl⟩
instance : FieldOff Go.Proofs.Tryz.prog 258 7 8 := ⟨fun _ _ => by kernel_rfl⟩
instance : Bld Go.Proofs.Tryz.prog 258 [(0, 1), (1, 1), (2, 1), (3, 1), (4, 1), (5, 1), (6, 2), (8, 2)] [.pointer none, .bool false, .bool false, .int .u8 0, .bool false, .int .i64 0, .bool false, .bool false, .bool false, .bool false] := Bld.of (.agg #[.pointer none, .bool false, .bool false, .int .u8 0, .bool false, .int .i64 0, .bool false, .bool false, .bool false, .bool false]) (by kernel_rfl) (fun _ => by kernel_rfl) (by kernel_rfl) (fun _ => by kernel_rfl)
instance : Und Go.Proofs.Tryz.prog 266 (.int .u32) := ⟨by kernel_rfl⟩
instance : One Go.Proofs.Tryz.prog 266 := ⟨fun _ => by kernel_rfl, fun _ => by kernel_rfl⟩
instance : SizeOf Go.Proofs.Tryz.prog 266 1 := ⟨fun _ => by kernel_rfl⟩
instance : Zero Go.Proofs.Tryz.prog 266 [.int .u32 0] := ⟨fun _ => ⟨.int .u32 0, by kernel_rfl, by kernel_rfl⟩⟩
instance : Und Go.Proofs.Tryz.prog 267 (.array 16 4) := ⟨by kernel_rfl⟩
instance : Many Go.Proofs.Tryz.prog 267 16 := ⟨fun _ => by kernel_rfl, fun _ => by kernel_rfl⟩
instance : SizeOf Go.Proofs.Tryz.prog 267 16 := ⟨fun _ => by kernel_rfl⟩
instance : Zero Go.Proofs.Tryz.prog 267 [.bool false, .bool false, .bool false, .bool false, .bool false, .bool false, .bool false, .bool false, .bool false, .bool false, .bool false, .bool false, .bool false, .bool false, .bool false, .bool false] := ⟨fun _ => ⟨.agg #[.bool false, .bool false, .bool false, .bool false, .bool false, .bool false, .bool false, .bool false, .bool false, .bool false, .bool false, .bool false, .bool false, .bool false, .bool false, .bool false], by kernel_rfl, by kernel_rfl⟩⟩
instance : Bld Go.Proofs.Tryz.prog 27 [(0, 1), (1, 1), (2, 1), (3, 1), (4, 1), (5, 1), (6, 1), (7, 1)] [.int .i64 0, .int .i64 0, .int .i64 0, .int .i64 0, .int .i64 0, .int .i64 0, .int .i64 0, .int .i64 0] := Bld.arr (E := 3) (len := 8) (s := 1) (.agg #[.int .i64 0, .int .i64 0, .int .i64 0, .int .i64 0, .int .i64 0, .int .i64 0, .int .i64 0, .int .i64 0]) (by kernel_rfl) (fun _ => by kernel_rfl) (fun _ => by kernel_rfl) (by kernel_rfl) (by kernel_rfl)
instance : Bld Go.Proofs.Tryz.prog 82 [(0, 1), (1, 1), (2, 1), (3, 1), (4, 1), (5, 1), (6, 1), (7, 1)] [.bool false, .bool false, .bool false, .bool false, .bool false, .bool false, .bool false, .bool false] := Bld.arr (E := 4) (len := 8) (s := 1) (.agg #[.bool false, .bool false, .bool false, .bool false, .bool false, .bool false, .bool false, .bool false]) (by kernel_rfl) (fun _ => by kernel_rfl) (fun _ => by kernel_rfl) (by kernel_rfl) (by kernel_rfl)
instance : Bld Go.Proofs.Tryz.prog 121 [(0, 1), (1, 1)] [.slice none 0 0, .slice none 0 0] := Bld.arr (E := 44) (len := 2) (s := 1) (.agg #[.slice none 0 0, .slice none 0 0]) (by kernel_rfl) (fun _ => by kernel_rfl) (fun _ => by kernel_rfl) (by kernel_rfl) (by kernel_rfl)
instance : Bld Go.Proofs.Tryz.prog 122 [(0, 1), (1, 1)] [.int .i64 0, .int .i64 0] := Bld.arr (E := 3) (len := 2) (s := 1) (.agg #[.int .i64 0, .int .i64 0]) (by kernel_rfl) (fun _ => by kernel_rfl) (fun _ => by kernel_rfl) (by kernel_rfl) (by kernel_rfl)
instance : Bld Go.Proofs.Tryz.prog 148 [(0, 1), (1, 1)] [.pointer none, .pointer none] := Bld.arr (E := 78) (len := 2) (s := 1) (.agg #[.pointer none, .pointer none]) (by kernel_rfl) (fun _ => by kernel_rfl) (fun _ => by kernel_rfl) (by kernel_rfl) (by kernel_rfl)
instance : Bld Go.Proofs.Tryz.prog 149 [(0, 1), (1, 1)] [.pointer none, .pointer none] := Bld.arr (E := 130) (len := 2) (s := 1) (.agg #[.pointer none, .pointer none]) (by kernel_rfl) (fun _ => by kernel_rfl) (fun _ => by kernel_rfl) (by kernel_rfl) (by kernel_rfl)
instance : Bld Go.Proofs.Tryz.prog 150 [(0, 8), (8, 8)] [.bool false, .bool false, .bool false, .bool false, .bool false, .bool false, .bool false, .bool false, .bool false, .bool false, .bool false, .bool false, .bool false, .bool false, .bool false, .bool false] := Bld.arr (E := 82) (len := 2) (s := 8) (.agg #[.bool false, .bool false, .bool false, .bool false, .bool false, .bool false, .bool false, .bool false, .bool false, .bool false, .bool false, .bool false, .bool false, .bool false, .bool false, .bool false]) (by kernel_rfl) (fun _ => by kernel_rfl) (fun _ => by kernel_rfl) (by kernel_rfl) (by kernel_rfl)
instance : Bld Go.Proofs.Tryz.prog 162 [(0, 1), (1, 1)] [.map none, .map none] := Bld.arr (E := 161) (len := 2) (s := 1) (.agg #[.map none, .map none]) (by kernel_rfl) (fun _ => by kernel_rfl) (fun _ => by kernel_rfl) (by kernel_rfl) (by kernel_rfl)
instance : Bld Go.Proofs.Tryz.prog 203 [(0, 1), (1, 1)] [.slice none 0 0, .slice none 0 0] := Bld.arr (E := 67) (len := 2) (s := 1) (.agg #[.slice none 0 0, .slice none 0 0]) (by kernel_rfl) (fun _ => by kernel_rfl) (fun _ => by kernel_rfl) (by kernel_rfl) (by kernel_rfl)
instance : Bld Go.Proofs.Tryz.prog 204 [(0, 1), (1, 1)] [.int .u8 0, .int .u8 0] := Bld.arr (E := 5) (len := 2) (s := 1) (.agg #[.int .u8 0, .int .u8 0]) (by kernel_rfl) (fun _ => by kernel_rfl) (fun _ => by kernel_rfl) (by kernel_rfl) (by kernel_rfl)
instance : Bld Go.Proofs.Tryz.prog 254 [(0, 1), (1, 1)] [.bool false, .bool false] := Bld.arr (E := 4) (len := 2) (s := 1) (.agg #[.bool false, .bool false]) (by kernel_rfl) (fun _ => by kernel_rfl) (fun _ => by kernel_rfl) (by kernel_rfl) (by kernel_rfl)
instance : Bld Go.Proofs.Tryz.prog 267 [(0, 1), (1, 1), (2, 1), (3, 1), (4, 1), (5, 1), (6, 1), (7, 1), (8, 1), (9, 1), (10, 1), (11, 1), (12, 1), (13, 1), (14, 1), (15, 1)] [.bool false, .bool false, .bool false, .bool false, .bool false, .bool false, .bool false, .bool false, .bool false, .bool false, .bool false, .bool false, .bool false, .bool false, .bool false, .bool false] := Bld.arr (E := 4) (len := 16) (s := 1) (.agg #[.bool false, .bool false, .bool false, .bool false, .bool false, .bool false, .bool false, .bool false, .bool false, .bool false, .bool false, .bool false, .bool false, .bool false, .bool false, .bool false]) (by kernel_rfl) (fun _ => by kernel_rfl) (fun _ => by kernel_rfl) (by kernel_rfl) (by kernel_rfl)
instance : SliceB Go.Proofs.Tryz.prog 33 1 41 [(0, 6)] [.int .u8 0, .int .i64 0, .int .i64 0, .slice none 0 0, .int .u8 0, .slice none 0 0] := SliceB.of (s := 6) (.agg #[.int .u8 0, .int .i64 0, .int .i64 0, .slice none 0 0, .int .u8 0, .slice none 0 0]) (by kernel_rfl) (fun _ => by kernel_rfl) (fun _ => by kernel_rfl) (by kernel_rfl) (by kernel_rfl) (by kernel_rfl) (by kernel_rfl)
instance : SliceB Go.Proofs.Tryz.prog 33 3 41 [(0, 6), (6, 6), (12, 6)] [.int .u8 0, .int .i64 0, .int .i64 0, .slice none 0 0, .int .u8 0, .slice none 0 0, .int .u8 0, .int .i64 0, .int .i64 0, .slice none 0 0, .int .u8 0, .slice none 0 0, .int .u8 0, .int .i64 0, .int .i64 0, .slice none 0 0, .int .u8 0, .slice none 0 0] := SliceB.of (s := 6) (.agg #[.int .u8 0, .int .i64 0, .int .i64 0, .slice none 0 0, .int .u8 0, .slice none 0 0]) (by kernel_rfl) (fun _ => by kernel_rfl) (fun _ => by kernel_rfl) (by kernel_rfl) (by kernel_rfl) (by kernel_rfl) (by kernel_rfl)
instance : SliceB Go.Proofs.Tryz.prog 33 5 41 [(0, 6), (6, 6), (12, 6), (18, 6), (24, 6)] [.int .u8 0, .int .i64 0, .int .i64 0, .slice none 0 0, .int .u8 0, .slice none 0 0, .int .u8 0, .int .i64 0, .int .i64 0, .slice none 0 0, .int .u8 0, .slice none 0 0, .int .u8 0, .int .i64 0, .int .i64 0, .slice none 0 0, .int .u8 0, .slice none 0 0, .int .u8 0, .int .i64 0, .int .i64 0, .slice none 0 0, .int .u8 0, .slice none 0 0, .int .u8 0, .int .i64 0, .int .i64 0, .slice none 0 0, .int .u8 0, .slice none 0 0] := SliceB.of (s := 6) (.agg #[.int .u8 0, .int .i64 0, .int .i64 0, .slice none 0 0, .int .u8 0, .slice none 0 0]) (by kernel_rfl) (fun _ => by kernel_rfl) (fun _ => by kernel_rfl) (by kernel_rfl) (by kernel_rfl) (by kernel_rfl) (by kernel_rfl)
instance : SliceB Go.Proofs.Tryz.prog 37 0 5 [] [] := SliceB.zero (s := 1) (by kernel_rfl) (fun _ => by kernel_rfl)
instance : SliceB Go.Proofs.Tryz.prog 37 1 5 [(0, 1)] [.int .u8 0] := SliceB.of (s := 1) (.int .u8 0) (by kernel_rfl) (fun _ => by kernel_rfl) (fun _ => by kernel_rfl) (by kernel_rfl) (by kernel_rfl) (by kernel_rfl) (by kernel_rfl)
instance : SliceB Go.Proofs.Tryz.prog 37 2 5 [(0, 1), (1, 1)] [.int .u8 0, .int .u8 0] := SliceB.of (s := 1) (.int .u8 0) (by kernel_rfl) (fun _ => by kernel_rfl) (fun _ => by kernel_rfl) (by kernel_rfl) (by kernel_rfl) (by kernel_rfl) (by kernel_rfl)
instance : SliceB Go.Proofs.Tryz.prog 37 3 5 [(0, 1), (1, 1), (2, 1)] [.int .u8 0, .int .u8 0, .int .u8 0] := SliceB.of (s := 1) (.int .u8 0) (by kernel_rfl) (fun _ => by kernel_rfl) (fun _ => by kernel_rfl) (by kernel_rfl) (by kernel_rfl) (by kernel_rfl) (by kernel_rfl)
instance : SliceB Go.Proofs.Tryz.prog 37 4 5 [(0, 1), (1, 1), (2, 1), (3, 1)] [.int .u8 0, .int .u8 0, .int .u8 0, .int .u8 0] := SliceB.of (s := 1) (.int .u8 0) (by kernel_rfl) (fun _ => by kernel_rfl) (fun _ => by kernel_rfl) (by kernel_rfl) (by kernel_rfl) (by kernel_rfl) (by kernel_rfl)
instance : SliceB Go.Proofs.Tryz.prog 37 5 5 [(0, 1), (1, 1), (2, 1), (3, 1), (4, 1)] [.int .u8 0, .int .u8 0, .int .u8 0, .int .u8 0, .int .u8 0] := SliceB.of (s := 1) (.int .u8 0) (by kernel_rfl) (fun _ => by kernel_rfl) (fun _ => by kernel_rfl) (by kernel_rfl) (by kernel_rfl) (by kernel_rfl) (by kernel_rfl)
instance : SliceB Go.Proofs.Tryz.prog 44 1 37 [(0, 1)] [.slice none 0 0] := SliceB.of (s := 1) (.slice none 0 0) (by kernel_rfl) (fun _ => by kernel_rfl) (fun _ => by kernel_rfl) (by kernel_rfl) (by kernel_rfl) (by kernel_rfl) (by kernel_rfl)
instance : SliceB Go.Proofs.Tryz.prog 67 1 111 [(0, 3)] [.int .u8 0, .int .u8 0, .slice none 0 0] := SliceB.of (s := 3) (.agg #[.int .u8 0, .int .u8 0, .slice none 0 0]) (by kernel_rfl) (fun _ => by kernel_rfl) (fun _ => by kernel_rfl) (by kernel_rfl) (by kernel_rfl) (by kernel_rfl) (by kernel_rfl)
instance : SliceB Go.Proofs.Tryz.prog 81 1 4 [(0, 1)] [.bool false] := SliceB.of (s := 1) (.bool false) (by kernel_rfl) (fun _ => by kernel_rfl) (fun _ => by kernel_rfl) (by kernel_rfl) (by kernel_rfl) (by kernel_rfl) (by kernel_rfl)
instance : SliceB Go.Proofs.Tryz.prog 81 8 4 [(0, 1), (1, 1), (2, 1), (3, 1), (4, 1), (5, 1), (6, 1), (7, 1)] [.bool false, .bool false, .bool false, .bool false, .bool false, .bool false, .bool false, .bool false] := SliceB.of (s := 1) (.bool false) (by kernel_rfl) (fun _ => by kernel_rfl) (fun _ => by kernel_rfl) (by kernel_rfl) (by kernel_rfl) (by kernel_rfl) (by kernel_rfl)
instance : SliceB Go.Proofs.Tryz.prog 84 1 88 [(0, 3)] [.int .u8 0, .slice none 0 0, .int .i64 0] := SliceB.of (s := 3) (.agg #[.int .u8 0, .slice none 0 0, .int .i64 0]) (by kernel_rfl) (fun _ => by kernel_rfl) (fun _ => by kernel_rfl) (by kernel_rfl) (by kernel_rfl) (by kernel_rfl) (by kernel_rfl)
instance : SliceB Go.Proofs.Tryz.prog 91 1 3 [(0, 1)] [.int .i64 0] := SliceB.of (s := 1) (.int .i64 0) (by kernel_rfl) (fun _ => by kernel_rfl) (fun _ => by kernel_rfl) (by kernel_rfl) (by kernel_rfl) (by kernel_rfl) (by kernel_rfl)
instance : SliceB Go.Proofs.Tryz.prog 91 2 3 [(0, 1), (1, 1)] [.int .i64 0, .int .i64 0] := SliceB.of (s := 1) (.int .i64 0) (by kernel_rfl) (fun _ => by kernel_rfl) (fun _ => by kernel_rfl) (by kernel_rfl) (by kernel_rfl) (by kernel_rfl) (by kernel_rfl)
instance : SliceB Go.Proofs.Tryz.prog 91 3 3 [(0, 1), (1, 1), (2, 1)] [.int .i64 0, .int .i64 0, .int .i64 0] := SliceB.of (s := 1) (.int .i64 0) (by kernel_rfl) (fun _ => by kernel_rfl) (fun _ => by kernel_rfl) (by kernel_rfl) (by kernel_rfl) (by kernel_rfl) (by kernel_rfl)
instance : SliceB Go.Proofs.Tryz.prog 91 4 3 [(0, 1), (1, 1), (2, 1), (3, 1)] [.int .i64 0, .int .i64 0, .int .i64 0, .int .i64 0] := SliceB.of (s := 1) (.int .i64 0) (by kernel_rfl) (fun _ => by kernel_rfl) (fun _ => by kernel_rfl) (by kernel_rfl) (by kernel_rfl) (by kernel_rfl) (by kernel_rfl)
instance : SliceB Go.Proofs.Tryz.prog 92 1 95 [(0, 2)] [.slice none 0 0, .int .i64 0] := SliceB.of (s := 2) (.agg #[.slice none 0 0, .int .i64 0]) (by kernel_rfl) (fun _ => by kernel_rfl) (fun _ => by kernel_rfl) (by kernel_rfl) (by kernel_rfl) (by kernel_rfl) (by kernel_rfl)
instance : SliceB Go.Proofs.Tryz.prog 103 1 107 [(0, 3)] [.int .u8 0, .slice none 0 0, .int .i64 0] := SliceB.of (s := 3) (.agg #[.int .u8 0, .slice none 0 0, .int .i64 0]) (by kernel_rfl) (fun _ => by kernel_rfl) (fun _ => by kernel_rfl) (by kernel_rfl) (by kernel_rfl) (by kernel_rfl) (by kernel_rfl)
instance : SliceB Go.Proofs.Tryz.prog 151 1 159 [(0, 1)] [.nilIface] := SliceB.of (s := 1) (.nilIface) (by kernel_rfl) (fun _ => by kernel_rfl) (fun _ => by kernel_rfl) (by kernel_rfl) (by kernel_rfl) (by kernel_rfl) (by kernel_rfl)
instance : SliceB Go.Proofs.Tryz.prog 155 1 4 [(0, 1)] [.bool false] := SliceB.of (s := 1) (.bool false) (by kernel_rfl) (fun _ => by kernel_rfl) (fun _ => by kernel_rfl) (by kernel_rfl) (by kernel_rfl) (by kernel_rfl) (by kernel_rfl)
instance : SliceB Go.Proofs.Tryz.prog 155 8 4 [(0, 1), (1, 1), (2, 1), (3, 1), (4, 1), (5, 1), (6, 1), (7, 1)] [.bool false, .bool false, .bool false, .bool false, .bool false, .bool false, .bool false, .bool false] := SliceB.of (s := 1) (.bool false) (by kernel_rfl) (fun _ => by kernel_rfl) (fun _ => by kernel_rfl) (by kernel_rfl) (by kernel_rfl) (by kernel_rfl) (by kernel_rfl)
instance : IsFn Go.Proofs.Tryz.prog 3 := ⟨fun _ _ => by kernel_rfl⟩
instance : IsFn Go.Proofs.Tryz.prog 4 := ⟨fun _ _ => by kernel_rfl⟩
instance : IsFn Go.Proofs.Tryz.prog 5 := ⟨fun _ _ => by kernel_rfl⟩
instance : IsFn Go.Proofs.Tryz.prog 6 := ⟨fun _ _ => by kernel_rfl⟩
instance : IsFn Go.Proofs.Tryz.prog 7 := ⟨fun _ _ => by kernel_rfl⟩
instance : IsFn Go.Proofs.Tryz.prog 8 := ⟨fun _ _ => by kernel_rfl⟩
instance : IsFn Go.Proofs.Tryz.prog 9 := ⟨fun _ _ => by kernel_rfl⟩
instance : IsFn Go.Proofs.Tryz.prog 10 := ⟨fun _ _ => by kernel_rfl⟩
instance : IsFn Go.Proofs.Tryz.prog 11 := ⟨fun _ _ => by kernel_rfl⟩
instance : IsFn Go.Proofs.Tryz.prog 12 := ⟨fun _ _ => by kernel_rfl⟩
instance : IsFn Go.Proofs.Tryz.prog 13 := ⟨fun _ _ => by kernel_rfl⟩
instance : IsFn Go.Proofs.Tryz.prog 14 := ⟨fun _ _ => by kernel_rfl⟩
instance : IsFn Go.Proofs.Tryz.prog 15 := ⟨fun _ _ => by kernel_rfl⟩
instance : IsFn Go.Proofs.Tryz.prog 16 := ⟨fun _ _ => by kernel_rfl⟩
instance : IsFn Go.Proofs.Tryz.prog 17 := ⟨fun _ _ => by kernel_rfl⟩
instance : IsFn Go.Proofs.Tryz.prog 18 := ⟨fun _ _ => by kernel_rfl⟩
instance : IsFn Go.Proofs.Tryz.prog 19 := ⟨fun _ _ => by kernel_rfl⟩
instance : IsFn Go.Proofs.Tryz.prog 20 := ⟨fun _ _ => by kernel_rfl⟩
instance : IsFn Go.Proofs.Tryz.prog 21 := ⟨fun _ _ => by kernel_rfl⟩
instance : IsFn Go.Proofs.Tryz.prog 22 := ⟨fun _ _ => by kernel_rfl⟩
instance : IsFn Go.Proofs.Tryz.prog 23 := ⟨fun _ _ => by kernel_rfl⟩
instance : IsFn Go.Proofs.Tryz.prog 24 := ⟨fun _ _ => by kernel_rfl⟩
instance : IsFn Go.Proofs.Tryz.prog 25 := ⟨fun _ _ => by kernel_rfl⟩
instance : IsFn Go.Proofs.Tryz.prog 26 := ⟨fun _ _ => by kernel_rfl⟩
instance : IsFn Go.Proofs.Tryz.prog 27 := ⟨fun _ _ => by kernel_rfl⟩
instance : IsFn Go.Proofs.Tryz.prog 28 := ⟨fun _ _ => by kernel_rfl⟩
instance : IsFn Go.Proofs.Tryz.prog 29 := ⟨fun _ _ => by kernel_rfl⟩
instance : IsFn Go.Proofs.Tryz.prog 30 := ⟨fun _ _ => by kernel_rfl⟩
instance : IsFn Go.Proofs.Tryz.prog 31 := ⟨fun _ _ => by kernel_rfl⟩
instance : IsFn Go.Proofs.Tryz.prog 32 := ⟨fun _ _ => by kernel_rfl⟩
instance : IsFn Go.Proofs.Tryz.prog 33 := ⟨fun _ _ => by kernel_rfl⟩
instance : IsFn Go.Proofs.Tryz.prog 34 := ⟨fun _ _ => by kernel_rfl⟩
instance : IsFn Go.Proofs.Tryz.prog 35 := ⟨fun _ _ => by kernel_rfl⟩
instance : IsFn Go.Proofs.Tryz.prog 36 := ⟨fun _ _ => by kernel_rfl⟩
instance : IsFn Go.Proofs.Tryz.prog 37 := ⟨fun _ _ => by kernel_rfl⟩
instance : IsFn Go.Proofs.Tryz.prog 38 := ⟨fun _ _ => by kernel_rfl⟩
instance : IsFn Go.Proofs.Tryz.prog 39 := ⟨fun _ _ => by kernel_rfl⟩
instance : IsFn Go.Proofs.Tryz.prog 40 := ⟨fun _ _ => by kernel_rfl⟩
instance : IsFn Go.Proofs.Tryz.prog 41 := ⟨fun _ _ => by kernel_rfl⟩
instance : IsFn Go.Proofs.Tryz.prog 42 := ⟨fun _ _ => by kernel_rfl⟩
instance : IsFn Go.Proofs.Tryz.prog 43 := ⟨fun _ _ => by kernel_rfl⟩
instance : IsFn Go.Proofs.Tryz.prog 44 := ⟨fun _ _ => by kernel_rfl⟩
instance : IsFn Go.Proofs.Tryz.prog 45 := ⟨fun _ _ => by kernel_rfl⟩
instance : IsFn Go.Proofs.Tryz.prog 46 := ⟨fun _ _ => by kernel_rfl⟩
instance : IsFn Go.Proofs.Tryz.prog 47 := ⟨fun _ _ => by kernel_rfl⟩
instance : IsFn Go.Proofs.Tryz.prog 48 := ⟨fun _ _ => by kernel_rfl⟩
instance : IsFn Go.Proofs.Tryz.prog 49 := ⟨fun _ _ => by kernel_rfl⟩
instance : IsFn Go.Proofs.Tryz.prog 50 := ⟨fun _ _ => by kernel_rfl⟩
instance : IsFn Go.Proofs.Tryz.prog 51 := ⟨fun _ _ => by kernel_rfl⟩
instance : IsFn Go.Proofs.Tryz.prog 52 := ⟨fun _ _ => by kernel_rfl⟩
instance : IsFn Go.Proofs.Tryz.prog 53 := ⟨fun _ _ => by kernel_rfl⟩
instance : IsFn Go.Proofs.Tryz.prog 54 := ⟨fun _ _ => by kernel_rfl⟩
instance : IsFn Go.Proofs.Tryz.prog 55 := ⟨fun _ _ => by kernel_rfl⟩
instance : IsFn Go.Proofs.Tryz.prog 56 := ⟨fun _ _ => by kernel_rfl⟩
instance : IsFn Go.Proofs.Tryz.prog 57 := ⟨fun _ _ => by kernel_rfl⟩
instance : IsFn Go.Proofs.Tryz.prog 58 := ⟨fun _ _ => by kernel_rfl⟩
instance : IsFn Go.Proofs.Tryz.prog 59 := ⟨fun _ _ => by kernel_rfl⟩
instance : IsFn Go.Proofs.Tryz.prog 60 := ⟨fun _ _ => by kernel_rfl⟩
instance : IsFn Go.Proofs.Tryz.prog 61 := ⟨fun _ _ => by kernel_rfl⟩
instance : IsFn Go.Proofs.Tryz.prog 62 := ⟨fun _ _ => by kernel_rfl⟩
instance : IsFn Go.Proofs.Tryz.prog 63 := ⟨fun _ _ => by kernel_rfl⟩
instance : IsFn Go.Proofs.Tryz.prog 64 := ⟨fun _ _ => by kernel_rfl⟩
instance : IsFn Go.Proofs.Tryz.prog 65 := ⟨fun _ _ => by kernel_rfl⟩
instance : IsFn Go.Proofs.Tryz.prog 66 := ⟨fun _ _ => by kernel_rfl⟩
instance : IsFn Go.Proofs.Tryz.prog 67 := ⟨fun _ _ => by kernel_rfl⟩
instance : IsFn Go.Proofs.Tryz.prog 68 := ⟨fun _ _ => by kernel_rfl⟩
instance : IsFn Go.Proofs.Tryz.prog 69 := ⟨fun _ _ => by kernel_rfl⟩
instance : IsFn Go.Proofs.Tryz.prog 70 := ⟨fun _ _ => by kernel_rfl⟩
instance : IsFn Go.Proofs.Tryz.prog 71 := ⟨fun _ _ => by kernel_rfl⟩
instance : IsFn Go.Proofs.Tryz.prog 72 := ⟨fun _ _ => by kernel_rfl⟩
instance : IsFn Go.Proofs.Tryz.prog 73 := ⟨fun _ _ => by kernel_rfl⟩
instance : IsFn Go.Proofs.Tryz.prog 74 := ⟨fun _ _ => by kernel_rfl⟩
instance : IsFn Go.Proofs.Tryz.prog 75 := ⟨fun _ _ => by kernel_rfl⟩
instance : IsFn Go.Proofs.Tryz.prog 76 := ⟨fun _ _ => by kernel_rfl⟩
instance : IsFn Go.Proofs.Tryz.prog 77 := ⟨fun _ _ => by kernel_rfl⟩
instance : IsFn Go.Proofs.Tryz.prog 78 := ⟨fun _ _ => by kernel_rfl⟩
instance : IsFn Go.Proofs.Tryz.prog 79 := ⟨fun _ _ => by kernel_rfl⟩
instance : IsFn Go.Proofs.Tryz.prog 80 := ⟨fun _ _ => by kernel_rfl⟩
instance : IsFn Go.Proofs.Tryz.prog 81 := ⟨fun _ _ => by kernel_rfl⟩
instance : IsFn Go.Proofs.Tryz.prog 82 := ⟨fun _ _ => by kernel_rfl⟩
instance : IsFn Go.Proofs.Tryz.prog 83 := ⟨fun _ _ => by kernel_rfl⟩
instance : IsFn Go.Proofs.Tryz.prog 84 := ⟨fun _ _ => by kernel_rfl⟩
instance : IsFn Go.Proofs.Tryz.prog 85 := ⟨fun _ _ => by kernel_rfl⟩
instance : IsFn Go.Proofs.Tryz.prog 86 := ⟨fun _ _ => by kernel_rfl⟩
instance : IsFn Go.Proofs.Tryz.prog 87 := ⟨fun _ _ => by kernel_rfl⟩
instance : IsFn Go.Proofs.Tryz.prog 88 := ⟨fun _ _ => by kernel_rfl⟩
instance : IsFn Go.Proofs.Tryz.prog 89 := ⟨fun _ _ => by kernel_rfl⟩
instance : IsFn Go.Proofs.Tryz.prog 90 := ⟨fun _ _ => by kernel_rfl⟩
instance : IsFn Go.Proofs.Tryz.prog 91 := ⟨fun _ _ => by kernel_rfl⟩
instance : IsFn Go.Proofs.Tryz.prog 92 := ⟨fun _ _ => by kernel_rfl⟩
instance : IsFn Go.Proofs.Tryz.prog 93 := ⟨fun _ _ => by kernel_rfl⟩
instance : IsFn Go.Proofs.Tryz.prog 94 := ⟨fun _ _ => by kernel_rfl⟩
instance : IsFn Go.Proofs.Tryz.prog 95 := ⟨fun _ _ => by kernel_rfl⟩
instance : IsFn Go.Proofs.Tryz.prog 96 := ⟨fun _ _ => by kernel_rfl⟩
instance : IsFn Go.Proofs.Tryz.prog 97 := ⟨fun _ _ => by kernel_rfl⟩
instance : IsFn Go.Proofs.Tryz.prog 98 := ⟨fun _ _ => by kernel_rfl⟩
instance : IsFn Go.Proofs.Tryz.prog 99 := ⟨fun _ _ => by kernel_rfl⟩
instance : IsFn Go.Proofs.Tryz.prog 100 := ⟨fun _ _ => by kernel_rfl⟩
instance : IsFn Go.Proofs.Tryz.prog 101 := ⟨fun _ _ => by kernel_rfl⟩
instance : IsFn Go.Proofs.Tryz.prog 102 := ⟨fun _ _ => by kernel_rfl⟩
instance : IsFn Go.Proofs.Tryz.prog 103 := ⟨fun _ _ => by kernel_rfl⟩
instance : IsFn Go.Proofs.Tryz.prog 104 := ⟨fun _ _ => by kernel_rfl⟩
instance : IsFn Go.Proofs.Tryz.prog 105 := ⟨fun _ _ => by kernel_rfl⟩
instance : IsFn Go.Proofs.Tryz.prog 106 := ⟨fun _ _ => by kernel_rfl⟩
instance : IsFn Go.Proofs.Tryz.prog 107 := ⟨fun _ _ => by kernel_rfl⟩
instance : IsFn Go.Proofs.Tryz.prog 108 := ⟨fun _ _ => by kernel_rfl⟩
instance : IsFn Go.Proofs.Tryz.prog 109 := ⟨fun _ _ => by kernel_rfl⟩
instance : IsFn Go.Proofs.Tryz.prog 110 := ⟨fun _ _ => by kernel_rfl⟩
instance : IsFn Go.Proofs.Tryz.prog 111 := ⟨fun _ _ => by kernel_rfl⟩
instance : IsFn Go.Proofs.Tryz.prog 112 := ⟨fun _ _ => by kernel_rfl⟩
instance : IsFn Go.Proofs.Tryz.prog 113 := ⟨fun _ _ => by kernel_rfl⟩
instance : IsFn Go.Proofs.Tryz.prog 114 := ⟨fun _ _ => by kernel_rfl⟩
instance : IsFn Go.Proofs.Tryz.prog 115 := ⟨fun _ _ => by kernel_rfl⟩
instance : IsFn Go.Proofs.Tryz.prog 116 := ⟨fun _ _ => by kernel_rfl⟩
instance : IsFn Go.Proofs.Tryz.prog 117 := ⟨fun _ _ => by kernel_rfl⟩
instance : IsFn Go.Proofs.Tryz.prog 118 := ⟨fun _ _ => by kernel_rfl⟩
instance : IsFn Go.Proofs.Tryz.prog 119 := ⟨fun _ _ => by kernel_rfl⟩
instance : IsFn Go.Proofs.Tryz.prog 120 := ⟨fun _ _ => by kernel_rfl⟩
instance : IsFn Go.Proofs.Tryz.prog 121 := ⟨fun _ _ => by kernel_rfl⟩
instance : IsFn Go.Proofs.Tryz.prog 122 := ⟨fun _ _ => by kernel_rfl⟩
instance : IsFn Go.Proofs.Tryz.prog 123 := ⟨fun _ _ => by kernel_rfl⟩
instance : IsFn Go.Proofs.Tryz.prog 124 := ⟨fun _ _ => by kernel_rfl⟩
instance : IsFn Go.Proofs.Tryz.prog 125 := ⟨fun _ _ => by kernel_rfl⟩
instance : IsFn Go.Proofs.Tryz.prog 126 := ⟨fun _ _ => by kernel_rfl⟩
instance : IsFn Go.Proofs.Tryz.prog 127 := ⟨fun _ _ => by kernel_rfl⟩
instance : IsFn Go.Proofs.Tryz.prog 128 := ⟨fun _ _ => by kernel_rfl⟩
instance : IsFn Go.Proofs.Tryz.prog 129 := ⟨fun _ _ => by kernel_rfl⟩
instance : IsFn Go.Proofs.Tryz.prog 130 := ⟨fun _ _ => by kernel_rfl⟩
instance : IsFn Go.Proofs.Tryz.prog 131 := ⟨fun _ _ => by kernel_rfl⟩
instance : IsFn Go.Proofs.Tryz.prog 132 := ⟨fun _ _ => by kernel_rfl⟩
instance : IsFn Go.Proofs.Tryz.prog 133 := ⟨fun _ _ => by kernel_rfl⟩
instance : IsFn Go.Proofs.Tryz.prog 134 := ⟨fun _ _ => by kernel_rfl⟩
instance : IsFn Go.Proofs.Tryz.prog 135 := ⟨fun _ _ => by kernel_rfl⟩
instance : IsFn Go.Proofs.Tryz.prog 136 := ⟨fun _ _ => by kernel_rfl⟩
instance : IsFn Go.Proofs.Tryz.prog 137 := ⟨fun _ _ => by kernel_rfl⟩
instance : IsFn Go.Proofs.Tryz.prog 138 := ⟨fun _ _ => by kernel_rfl⟩
instance : IsFn Go.Proofs.Tryz.prog 139 := ⟨fun _ _ => by kernel_rfl⟩
instance : IsFn Go.Proofs.Tryz.prog 140 := ⟨fun _ _ => by kernel_rfl⟩
instance : IsFn Go.Proofs.Tryz.prog 141 := ⟨fun _ _ => by kernel_rfl⟩
instance : IsFn Go.Proofs.Tryz.prog 142 := ⟨fun _ _ => by kernel_rfl⟩
instance : IsFn Go.Proofs.Tryz.prog 143 := ⟨fun _ _ => by kernel_rfl⟩
instance : IsFn Go.Proofs.Tryz.prog 144 := ⟨fun _ _ => by kernel_rfl⟩
instance : IsFn Go.Proofs.Tryz.prog 145 := ⟨fun _ _ => by kernel_rfl⟩
instance : IsFn Go.Proofs.Tryz.prog 146 := ⟨fun _ _ => by kernel_rfl⟩
instance : IsFn Go.Proofs.Tryz.prog 147 := ⟨fun _ _ => by kernel_rfl⟩
instance : IsFn Go.Proofs.Tryz.prog 148 := ⟨fun _ _ => by kernel_rfl⟩
instance : IsFn Go.Proofs.Tryz.prog 149 := ⟨fun _ _ => by kernel_rfl⟩
instance : IsFn Go.Proofs.Tryz.prog 150 := ⟨fun _ _ => by kernel_rfl⟩
instance : IsFn Go.Proofs.Tryz.prog 151 := ⟨fun _ _ => by kernel_rfl⟩
instance : IsFn Go.Proofs.Tryz.prog 152 := ⟨fun _ _ => by kernel_rfl⟩
instance : IsFn Go.Proofs.Tryz.prog 153 := ⟨fun _ _ => by kernel_rfl⟩
instance : IsFn Go.Proofs.Tryz.prog 154 := ⟨fun _ _ => by kernel_rfl⟩
instance : IsFn Go.Proofs.Tryz.prog 155 := ⟨fun _ _ => by kernel_rfl⟩
instance : IsFn Go.Proofs.Tryz.prog 156 := ⟨fun _ _ => by kernel_rfl⟩
instance : IsFn Go.Proofs.Tryz.prog 157 := ⟨fun _ _ => by kernel_rfl⟩
instance : IsFn Go.Proofs.Tryz.prog 158 := ⟨fun _ _ => by kernel_rfl⟩
instance : IsFn Go.Proofs.Tryz.prog 159 := ⟨fun _ _ => by kernel_rfl⟩
instance : IsFn Go.Proofs.Tryz.prog 160 := ⟨fun _ _ => by kernel_rfl⟩
instance : IsFn Go.Proofs.Tryz.prog 161 := ⟨fun _ _ => by kernel_rfl⟩
instance : IsFn Go.Proofs.Tryz.prog 162 := ⟨fun _ _ => by kernel_rfl⟩
instance : IsFn Go.Proofs.Tryz.prog 163 := ⟨fun _ _ => by kernel_rfl⟩
instance : IsFn Go.Proofs.Tryz.prog 164 := ⟨fun _ _ => by kernel_rfl⟩
instance : IsFn Go.Proofs.Tryz.prog 165 := ⟨fun _ _ => by kernel_rfl⟩
instance : IsFn Go.Proofs.Tryz.prog 166 := ⟨fun _ _ => by kernel_rfl⟩
instance : IsFn Go.Proofs.Tryz.prog 167 := ⟨fun _ _ => by kernel_rfl⟩
instance : IsFn Go.Proofs.Tryz.prog 168 := ⟨fun _ _ => by kernel_rfl⟩
instance : IsFn Go.Proofs.Tryz.prog 169 := ⟨fun _ _ => by kernel_rfl⟩
instance : IsFn Go.Proofs.Tryz.prog 170 := ⟨fun _ _ => by kernel_rfl⟩
instance : IsFn Go.Proofs.Tryz.prog 171 := ⟨fun _ _ => by kernel_rfl⟩
instance : IsFn Go.Proofs.Tryz.prog 172 := ⟨fun _ _ => by kernel_rfl⟩
instance : IsFn Go.Proofs.Tryz.prog 173 := ⟨fun _ _ => by kernel_rfl⟩
instance : IsFn Go.Proofs.Tryz.prog 174 := ⟨fun _ _ => by kernel_rfl⟩
instance : IsFn Go.Proofs.Tryz.prog 175 := ⟨fun _ _ => by kernel_rfl⟩
instance : IsFn Go.Proofs.Tryz.prog 176 := ⟨fun _ _ => by kernel_rfl⟩
instance : IsFn Go.Proofs.Tryz.prog 177 := ⟨fun _ _ => by kernel_rfl⟩
instance : IsFn Go.Proofs.Tryz.prog 178 := ⟨fun _ _ => by kernel_rfl⟩
instance : IsFn Go.Proofs.Tryz.prog 179 := ⟨fun _ _ => by kernel_rfl⟩
instance : IsFn Go.Proofs.Tryz.prog 180 := ⟨fun _ _ => by kernel_rfl⟩
instance : IsFn Go.Proofs.Tryz.prog 181 := ⟨fun _ _ => by kernel_rfl⟩
instance : IsFn Go.Proofs.Tryz.prog 182 := ⟨fun _ _ => by kernel_rfl⟩
instance : IsFn Go.Proofs.Tryz.prog 183 := ⟨fun _ _ => by kernel_rfl⟩
instance : IsFn Go.Proofs.Tryz.prog 184 := ⟨fun _ _ => by kernel_rfl⟩
instance : IsFn Go.Proofs.Tryz.prog 185 := ⟨fun _ _ => by kernel_rfl⟩
instance : IsFn Go.Proofs.Tryz.prog 186 := ⟨fun _ _ => by kernel_rfl⟩
instance : IsFn Go.Proofs.Tryz.prog 187 := ⟨fun _ _ => by kernel_rfl⟩
instance : IsFn Go.Proofs.Tryz.prog 188 := ⟨fun _ _ => by kernel_rfl⟩
instance : IsFn Go.Proofs.Tryz.prog 189 := ⟨fun _ _ => by kernel_rfl⟩
instance : IsFn Go.Proofs.Tryz.prog 190 := ⟨fun _ _ => by kernel_rfl⟩
instance : IsFn Go.Proofs.Tryz.prog 191 := ⟨fun _ _ => by kernel_rfl⟩
instance : IsFn Go.Proofs.Tryz.prog 192 := ⟨fun _ _ => by kernel_rfl⟩
instance : IsFn Go.Proofs.Tryz.prog 193 := ⟨fun _ _ => by kernel_rfl⟩
instance : IsFn Go.Proofs.Tryz.prog 194 := ⟨fun _ _ => by kernel_rfl⟩
instance : IsFn Go.Proofs.Tryz.prog 195 := ⟨fun _ _ => by kernel_rfl⟩
instance : IsFn Go.Proofs.Tryz.prog 196 := ⟨fun _ _ => by kernel_rfl⟩
instance : IsFn Go.Proofs.Tryz.prog 197 := ⟨fun _ _ => by kernel_rfl⟩
instance : IsFn Go.Proofs.Tryz.prog 198 := ⟨fun _ _ => by kernel_rfl⟩
instance : IsFn Go.Proofs.Tryz.prog 214 := ⟨fun _ _ => by kernel_rfl⟩
instance : IsFn Go.Proofs.Tryz.prog 215 := ⟨fun _ _ => by kernel_rfl⟩
instance : IsFn Go.Proofs.Tryz.prog 217 := ⟨fun _ _ => by kernel_rfl⟩
instance : IsFn Go.Proofs.Tryz.prog 218 := ⟨fun _ _ => by kernel_rfl⟩
instance : IsFn Go.Proofs.Tryz.prog 219 := ⟨fun _ _ => by kernel_rfl⟩
instance : IsFn Go.Proofs.Tryz.prog 220 := ⟨fun _ _ => by kernel_rfl⟩
instance : IsFn Go.Proofs.Tryz.prog 222 := ⟨fun _ _ => by kernel_rfl⟩
instance : IsFn Go.Proofs.Tryz.prog 223 := ⟨fun _ _ => by kernel_rfl⟩
instance : IsFn Go.Proofs.Tryz.prog 224 := ⟨fun _ _ => by kernel_rfl⟩
instance : IsFn Go.Proofs.Tryz.prog 225 := ⟨fun _ _ => by kernel_rfl⟩
instance : IsFn Go.Proofs.Tryz.prog 227 := ⟨fun _ _ => by kernel_rfl⟩
instance : IsFn Go.Proofs.Tryz.prog 228 := ⟨fun _ _ => by kernel_rfl⟩
instance : IsFn Go.Proofs.Tryz.prog 229 := ⟨fun _ _ => by kernel_rfl⟩
instance : IsFn Go.Proofs.Tryz.prog 230 := ⟨fun _ _ => by kernel_rfl⟩
instance : IsFn Go.Proofs.Tryz.prog 232 := ⟨fun _ _ => by kernel_rfl⟩
instance : IsFn Go.Proofs.Tryz.prog 233 := ⟨fun _ _ => by kernel_rfl⟩
instance : IsFn Go.Proofs.Tryz.prog 234 := ⟨fun _ _ => by kernel_rfl⟩
instance : IsFn Go.Proofs.Tryz.prog 235 := ⟨fun _ _ => by kernel_rfl⟩
instance : IsFn Go.Proofs.Tryz.prog 236 := ⟨fun _ _ => by kernel_rfl⟩
instance : IsFn Go.Proofs.Tryz.prog 237 := ⟨fun _ _ => by kernel_rfl⟩
instance : IsFn Go.Proofs.Tryz.prog 238 := ⟨fun _ _ => by kernel_rfl⟩
instance : IsFn Go.Proofs.Tryz.prog 239 := ⟨fun _ _ => by kernel_rfl⟩
instance : IsFn Go.Proofs.Tryz.prog 240 := ⟨fun _ _ => by kernel_rfl⟩
instance : IsFn Go.Proofs.Tryz.prog 241 := ⟨fun _ _ => by kernel_rfl⟩
instance : IsFn Go.Proofs.Tryz.prog 242 := ⟨fun _ _ => by kernel_rfl⟩
instance : IsFn Go.Proofs.Tryz.prog 243 := ⟨fun _ _ => by kernel_rfl⟩
instance : IsFn Go.Proofs.Tryz.prog 244 := ⟨fun _ _ => by kernel_rfl⟩
instance : IsFn Go.Proofs.Tryz.prog 245 := ⟨fun _ _ => by kernel_rfl⟩
instance : IsFn Go.Proofs.Tryz.prog 246 := ⟨fun _ _ => by kernel_rfl⟩
instance : IsFn Go.Proofs.Tryz.prog 247 := ⟨fun _ _ => by kernel_rfl⟩
instance : IsFn Go.Proofs.Tryz.prog 248 := ⟨fun _ _ => by kernel_rfl⟩
instance : IsFn Go.Proofs.Tryz.prog 249 := ⟨fun _ _ => by kernel_rfl⟩
instance : IsFn Go.Proofs.Tryz.prog 251 := ⟨fun _ _ => by kernel_rfl⟩
instance : IsFn Go.Proofs.Tryz.prog 252 := ⟨fun _ _ => by kernel_rfl⟩
instance : IsFn Go.Proofs.Tryz.prog 253 := ⟨fun _ _ => by kernel_rfl⟩
instance : IsFn Go.Proofs.Tryz.prog 254 := ⟨fun _ _ => by kernel_rfl⟩
instance : IsFn Go.Proofs.Tryz.prog 255 := ⟨fun _ _ => by kernel_rfl⟩
instance : IsMethod Go.Proofs.Tryz.prog 220 "Answer" 246 := ⟨fun _ _ _ => by kernel_rfl⟩
instance : IsMethod Go.Proofs.Tryz.prog 220 "Fill" 247 := ⟨fun _ _ _ => by kernel_rfl⟩
instance : IsMethod Go.Proofs.Tryz.prog 220 "Hold" 248 := ⟨fun _ _ _ => by kernel_rfl⟩
instance : IsMethod Go.Proofs.Tryz.prog 220 "Next" 249 := ⟨fun _ _ _ => by kernel_rfl⟩
instance : IsMethod Go.Proofs.Tryz.prog 220 "Reset" 251 := ⟨fun _ _ _ => by kernel_rfl⟩
instance : IsMethod Go.Proofs.Tryz.prog 220 "Take" 252 := ⟨fun _ _ _ => by kernel_rfl⟩
instance : IsMethod Go.Proofs.Tryz.prog 220 "Taken" 253 := ⟨fun _ _ _ => by kernel_rfl⟩
instance : IsMethod Go.Proofs.Tryz.prog 218 "Answer" 227 := ⟨fun _ _ _ => by kernel_rfl⟩
instance : IsMethod Go.Proofs.Tryz.prog 218 "Fill" 228 := ⟨fun _ _ _ => by kernel_rfl⟩
instance : IsMethod Go.Proofs.Tryz.prog 218 "Hold" 229 := ⟨fun _ _ _ => by kernel_rfl⟩
instance : IsMethod Go.Proofs.Tryz.prog 218 "Next" 230 := ⟨fun _ _ _ => by kernel_rfl⟩
instance : IsMethod Go.Proofs.Tryz.prog 218 "Reset" 232 := ⟨fun _ _ _ => by kernel_rfl⟩
instance : IsMethod Go.Proofs.Tryz.prog 218 "Take" 233 := ⟨fun _ _ _ => by kernel_rfl⟩
instance : IsMethod Go.Proofs.Tryz.prog 218 "Taken" 234 := ⟨fun _ _ _ => by kernel_rfl⟩
instance : IsMethod Go.Proofs.Tryz.prog 25 "Order" 214 := ⟨fun _ _ _ => by kernel_rfl⟩
instance : IsMethod Go.Proofs.Tryz.prog 25 "Tick" 215 := ⟨fun _ _ _ => by kernel_rfl⟩
instance : IsMethod Go.Proofs.Tryz.prog 26 "Order" 217 := ⟨fun _ _ _ => by kernel_rfl⟩
instance : IsMethod Go.Proofs.Tryz.prog 26 "Tick" 218 := ⟨fun _ _ _ => by kernel_rfl⟩
instance : IsMethod Go.Proofs.Tryz.prog 120 "Order" 224 := ⟨fun _ _ _ => by kernel_rfl⟩
instance : IsMethod Go.Proofs.Tryz.prog 120 "Tick" 225 := ⟨fun _ _ _ => by kernel_rfl⟩
theorem mixed : Go.Proofs.Tryz.prog.follows .mixedOrders = true := by kernel_rfl
end Go.Sm
