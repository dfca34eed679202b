/- The seat's types and functions, as the rules of the layer ask for them: written by wip/gen/types.py. -/
import Derived.Test.YtbhgbhhdpcehbaaRows
import Derived.Test.YtbhgbhhdpcehbaaSlD
namespace Go.Proofs.Ytbhgbhhdpcehbaa
instance : TyOne Try.prog 1 := ⟨Try.isAgg1, Try.sizeOf1⟩
instance : TyZero Try.prog 1 (.nilFunc) := ⟨Try.zeroValue1⟩
instance : TyConc Try.prog 1 := ⟨fun x w => by simp [Instr.makeInterface]⟩
instance : TyOne Try.prog 2 := ⟨Try.isAgg2, Try.sizeOf2⟩
instance : TyZero Try.prog 2 (.int .i64 0) := ⟨Try.zeroValue2⟩
instance : TyUnder Try.prog 2 (.int .i64) := ⟨Try.underlying2⟩
instance : TyConc Try.prog 2 := ⟨fun x w => by simp [Instr.makeInterface]⟩
instance : TyOne Try.prog 3 := ⟨Try.isAgg3, Try.sizeOf3⟩
instance : TyZero Try.prog 3 (.int .i64 0) := ⟨Try.zeroValue3⟩
instance : TyUnder Try.prog 3 (.int .i64) := ⟨Try.underlying3⟩
instance : TyConc Try.prog 3 := ⟨fun x w => by simp [Instr.makeInterface]⟩
instance : TyOne Try.prog 4 := ⟨Try.isAgg4, Try.sizeOf4⟩
instance : TyZero Try.prog 4 (.bool false) := ⟨Try.zeroValue4⟩
instance : TyUnder Try.prog 4 .bool := ⟨Try.underlying4⟩
instance : TyConc Try.prog 4 := ⟨fun x w => by simp [Instr.makeInterface]⟩
instance : TyOne Try.prog 5 := ⟨Try.isAgg5, Try.sizeOf5⟩
instance : TyZero Try.prog 5 (.int .u8 0) := ⟨Try.zeroValue5⟩
instance : TyUnder Try.prog 5 (.int .u8) := ⟨Try.underlying5⟩
instance : TyConc Try.prog 5 := ⟨fun x w => by simp [Instr.makeInterface]⟩
instance : TyOne Try.prog 6 := ⟨Try.isAgg6, Try.sizeOf6⟩
instance : TyZero Try.prog 6 (.int .u8 0) := ⟨Try.zeroValue6⟩
instance : TyUnder Try.prog 6 (.int .u8) := ⟨Try.underlying6⟩
instance : TyConc Try.prog 6 := ⟨fun x w => by simp [Instr.makeInterface]⟩
instance : TyAgg Try.prog 7 4 := ⟨Try.isAgg7, Try.sizeOf7⟩
instance : TyZero Try.prog 7 (.agg #[.int .i64 0, .int .i64 0, .bool false, .int .u8 0]) := ⟨Try.zeroValue7⟩
instance : TyConc Try.prog 7 := ⟨fun x w => by simp [Instr.makeInterface]⟩
instance : TyField Try.prog 7 0 0 := tyField_mk Try.underlying7 rfl rfl Try.sizeOf2 (by decide)
instance : TyField Try.prog 7 1 1 := tyField_mk Try.underlying7 rfl rfl Try.sizeOf3 (by decide)
instance : TyField Try.prog 7 2 2 := tyField_mk Try.underlying7 rfl rfl Try.sizeOf4 (by decide)
instance : TyField Try.prog 7 3 3 := tyField_mk Try.underlying7 rfl rfl Try.sizeOf6 (by decide)
instance : TyStruct Try.prog 7 [.int .i64 0, .int .i64 0, .bool false, .int .u8 0] [(0, 1), (1, 1), (2, 1), (3, 1)] := ⟨fun ps w => by simp [Instr.build, Value.cells]; generalize Instr.fill _ _ _ = z; cases z <;> rfl⟩
instance : TyAgg Try.prog 8 4 := ⟨Try.isAgg8, Try.sizeOf8⟩
instance : TyZero Try.prog 8 (.agg #[.int .i64 0, .int .i64 0, .bool false, .int .u8 0]) := ⟨Try.zeroValue8⟩
instance : TyConc Try.prog 8 := ⟨fun x w => by simp [Instr.makeInterface]⟩
instance : TyField Try.prog 8 0 0 := tyField_mk Try.underlying8 rfl rfl Try.sizeOf2 (by decide)
instance : TyField Try.prog 8 1 1 := tyField_mk Try.underlying8 rfl rfl Try.sizeOf3 (by decide)
instance : TyField Try.prog 8 2 2 := tyField_mk Try.underlying8 rfl rfl Try.sizeOf4 (by decide)
instance : TyField Try.prog 8 3 3 := tyField_mk Try.underlying8 rfl rfl Try.sizeOf6 (by decide)
instance : TyStruct Try.prog 8 [.int .i64 0, .int .i64 0, .bool false, .int .u8 0] [(0, 1), (1, 1), (2, 1), (3, 1)] := ⟨fun ps w => by simp [Instr.build, Value.cells]; generalize Instr.fill _ _ _ = z; cases z <;> rfl⟩
instance : TyOne Try.prog 9 := ⟨Try.isAgg9, Try.sizeOf9⟩
instance : TyZero Try.prog 9 (.string ⟨#[]⟩) := ⟨Try.zeroValue9⟩
instance : TyUnder Try.prog 9 .string := ⟨Try.underlying9⟩
instance : TyConc Try.prog 9 := ⟨fun x w => by simp [Instr.makeInterface]⟩
instance : TyOne Try.prog 10 := ⟨Try.isAgg10, Try.sizeOf10⟩
instance : TyZero Try.prog 10 (.string ⟨#[]⟩) := ⟨Try.zeroValue10⟩
instance : TyUnder Try.prog 10 .string := ⟨Try.underlying10⟩
instance : TyConc Try.prog 10 := ⟨fun x w => by simp [Instr.makeInterface]⟩
instance : TyOne Try.prog 11 := ⟨Try.isAgg11, Try.sizeOf11⟩
instance : TyZero Try.prog 11 (.string ⟨#[]⟩) := ⟨Try.zeroValue11⟩
instance : TyUnder Try.prog 11 .string := ⟨Try.underlying11⟩
instance : TyConc Try.prog 11 := ⟨fun x w => by simp [Instr.makeInterface]⟩
instance : TyOne Try.prog 12 := ⟨Try.isAgg12, Try.sizeOf12⟩
instance : TyZero Try.prog 12 (.int .u64 0) := ⟨Try.zeroValue12⟩
instance : TyUnder Try.prog 12 (.int .u64) := ⟨Try.underlying12⟩
instance : TyConc Try.prog 12 := ⟨fun x w => by simp [Instr.makeInterface]⟩
instance : TyAgg Try.prog 13 2 := ⟨Try.isAgg13, Try.sizeOf13⟩
instance : TyZero Try.prog 13 (.agg #[.string ⟨#[]⟩, .int .u64 0]) := ⟨Try.zeroValue13⟩
instance : TyConc Try.prog 13 := ⟨fun x w => by simp [Instr.makeInterface]⟩
instance : TyField Try.prog 13 0 0 := tyField_mk Try.underlying13 rfl rfl Try.sizeOf9 (by decide)
instance : TyField Try.prog 13 1 1 := tyField_mk Try.underlying13 rfl rfl Try.sizeOf12 (by decide)
instance : TyStruct Try.prog 13 [.string ⟨#[]⟩, .int .u64 0] [(0, 1), (1, 1)] := ⟨fun ps w => by simp [Instr.build, Value.cells]; generalize Instr.fill _ _ _ = z; cases z <;> rfl⟩
instance : TyAgg Try.prog 14 2 := ⟨Try.isAgg14, Try.sizeOf14⟩
instance : TyZero Try.prog 14 (.agg #[.string ⟨#[]⟩, .int .u64 0]) := ⟨Try.zeroValue14⟩
instance : TyConc Try.prog 14 := ⟨fun x w => by simp [Instr.makeInterface]⟩
instance : TyField Try.prog 14 0 0 := tyField_mk Try.underlying14 rfl rfl Try.sizeOf9 (by decide)
instance : TyField Try.prog 14 1 1 := tyField_mk Try.underlying14 rfl rfl Try.sizeOf12 (by decide)
instance : TyStruct Try.prog 14 [.string ⟨#[]⟩, .int .u64 0] [(0, 1), (1, 1)] := ⟨fun ps w => by simp [Instr.build, Value.cells]; generalize Instr.fill _ _ _ = z; cases z <;> rfl⟩
instance : TyOne Try.prog 15 := ⟨Try.isAgg15, Try.sizeOf15⟩
instance : TyZero Try.prog 15 (.pointer none) := ⟨Try.zeroValue15⟩
instance : TyUnder Try.prog 15 (.pointer 45) := ⟨Try.underlying15⟩
instance : TyConc Try.prog 15 := ⟨fun x w => by simp [Instr.makeInterface]⟩
instance : TyOne Try.prog 16 := ⟨Try.isAgg16, Try.sizeOf16⟩
instance : TyZero Try.prog 16 (.pointer none) := ⟨Try.zeroValue16⟩
instance : TyUnder Try.prog 16 (.pointer 48) := ⟨Try.underlying16⟩
instance : TyConc Try.prog 16 := ⟨fun x w => by simp [Instr.makeInterface]⟩
instance : TyOne Try.prog 17 := ⟨Try.isAgg17, Try.sizeOf17⟩
instance : TyZero Try.prog 17 (.pointer none) := ⟨Try.zeroValue17⟩
instance : TyUnder Try.prog 17 (.pointer 57) := ⟨Try.underlying17⟩
instance : TyConc Try.prog 17 := ⟨fun x w => by simp [Instr.makeInterface]⟩
instance : TyAgg Try.prog 18 1 := ⟨Try.isAgg18, Try.sizeOf18⟩
instance : TyZero Try.prog 18 (.agg #[.pointer none]) := ⟨Try.zeroValue18⟩
instance : TyConc Try.prog 18 := ⟨fun x w => by simp [Instr.makeInterface]⟩
instance : TyField Try.prog 18 0 0 := tyField_mk Try.underlying18 rfl rfl Try.sizeOf17 (by decide)
instance : TyStruct Try.prog 18 [.pointer none] [(0, 1)] := ⟨fun ps w => by simp [Instr.build, Value.cells]; generalize Instr.fill _ _ _ = z; cases z <;> rfl⟩
instance : TyAgg Try.prog 19 1 := ⟨Try.isAgg19, Try.sizeOf19⟩
instance : TyZero Try.prog 19 (.agg #[.pointer none]) := ⟨Try.zeroValue19⟩
instance : TyConc Try.prog 19 := ⟨fun x w => by simp [Instr.makeInterface]⟩
instance : TyField Try.prog 19 0 0 := tyField_mk Try.underlying19 rfl rfl Try.sizeOf17 (by decide)
instance : TyStruct Try.prog 19 [.pointer none] [(0, 1)] := ⟨fun ps w => by simp [Instr.build, Value.cells]; generalize Instr.fill _ _ _ = z; cases z <;> rfl⟩
instance : TyOne Try.prog 20 := ⟨Try.isAgg20, Try.sizeOf20⟩
instance : TyZero Try.prog 20 (.nilIface) := ⟨Try.zeroValue20⟩
instance : TyOne Try.prog 21 := ⟨Try.isAgg21, Try.sizeOf21⟩
instance : TyZero Try.prog 21 (.int .i32 0) := ⟨Try.zeroValue21⟩
instance : TyUnder Try.prog 21 (.int .i32) := ⟨Try.underlying21⟩
instance : TyConc Try.prog 21 := ⟨fun x w => by simp [Instr.makeInterface]⟩
instance : TyOne Try.prog 22 := ⟨Try.isAgg22, Try.sizeOf22⟩
instance : TyZero Try.prog 22 (.slice none 0 0) := ⟨Try.zeroValue22⟩
instance : TyUnder Try.prog 22 (.slice 30) := ⟨Try.underlying22⟩
instance : TyConc Try.prog 22 := ⟨fun x w => by simp [Instr.makeInterface]⟩
instance : TyOne Try.prog 23 := ⟨Try.isAgg23, Try.sizeOf23⟩
instance : TyZero Try.prog 23 (.slice none 0 0) := ⟨Try.zeroValue23⟩
instance : TyUnder Try.prog 23 (.slice 4) := ⟨Try.underlying23⟩
instance : TyConc Try.prog 23 := ⟨fun x w => by simp [Instr.makeInterface]⟩
instance : TyOne Try.prog 24 := ⟨Try.isAgg24, Try.sizeOf24⟩
instance : TyZero Try.prog 24 (.nilFunc) := ⟨Try.zeroValue24⟩
instance : TyConc Try.prog 24 := ⟨fun x w => by simp [Instr.makeInterface]⟩
instance : TyOne Try.prog 25 := ⟨Try.isAgg25, Try.sizeOf25⟩
instance : TyZero Try.prog 25 (.pointer none) := ⟨Try.zeroValue25⟩
instance : TyUnder Try.prog 25 (.pointer 27) := ⟨Try.underlying25⟩
instance : TyConc Try.prog 25 := ⟨fun x w => by simp [Instr.makeInterface]⟩
instance : TyAgg Try.prog 26 1 := ⟨Try.isAgg26, Try.sizeOf26⟩
instance : TyZero Try.prog 26 (.agg #[.slice none 0 0]) := ⟨Try.zeroValue26⟩
instance : TyConc Try.prog 26 := ⟨fun x w => by simp [Instr.makeInterface]⟩
instance : TyField Try.prog 26 0 0 := tyField_mk Try.underlying26 rfl rfl Try.sizeOf22 (by decide)
instance : TyStruct Try.prog 26 [.slice none 0 0] [(0, 1)] := ⟨fun ps w => by simp [Instr.build, Value.cells]; generalize Instr.fill _ _ _ = z; cases z <;> rfl⟩
instance : TyAgg Try.prog 27 1 := ⟨Try.isAgg27, Try.sizeOf27⟩
instance : TyZero Try.prog 27 (.agg #[.slice none 0 0]) := ⟨Try.zeroValue27⟩
instance : TyConc Try.prog 27 := ⟨fun x w => by simp [Instr.makeInterface]⟩
instance : TyField Try.prog 27 0 0 := tyField_mk Try.underlying27 rfl rfl Try.sizeOf22 (by decide)
instance : TyStruct Try.prog 27 [.slice none 0 0] [(0, 1)] := ⟨fun ps w => by simp [Instr.build, Value.cells]; generalize Instr.fill _ _ _ = z; cases z <;> rfl⟩
instance : TyOne Try.prog 28 := ⟨Try.isAgg28, Try.sizeOf28⟩
instance : TyZero Try.prog 28 (.int .u64 0) := ⟨Try.zeroValue28⟩
instance : TyUnder Try.prog 28 (.int .u64) := ⟨Try.underlying28⟩
instance : TyConc Try.prog 28 := ⟨fun x w => by simp [Instr.makeInterface]⟩
instance : TyAgg Try.prog 29 2 := ⟨Try.isAgg29, Try.sizeOf29⟩
instance : TyZero Try.prog 29 (.agg #[.int .u64 0, .int .u64 0]) := ⟨Try.zeroValue29⟩
instance : TyConc Try.prog 29 := ⟨fun x w => by simp [Instr.makeInterface]⟩
instance : TyField Try.prog 29 0 0 := tyField_mk Try.underlying29 rfl rfl Try.sizeOf28 (by decide)
instance : TyField Try.prog 29 1 1 := tyField_mk Try.underlying29 rfl rfl Try.sizeOf28 (by decide)
instance : TyStruct Try.prog 29 [.int .u64 0, .int .u64 0] [(0, 1), (1, 1)] := ⟨fun ps w => by simp [Instr.build, Value.cells]; generalize Instr.fill _ _ _ = z; cases z <;> rfl⟩
instance : TyAgg Try.prog 30 2 := ⟨Try.isAgg30, Try.sizeOf30⟩
instance : TyZero Try.prog 30 (.agg #[.int .u64 0, .int .u64 0]) := ⟨Try.zeroValue30⟩
instance : TyConc Try.prog 30 := ⟨fun x w => by simp [Instr.makeInterface]⟩
instance : TyField Try.prog 30 0 0 := tyField_mk Try.underlying30 rfl rfl Try.sizeOf28 (by decide)
instance : TyField Try.prog 30 1 1 := tyField_mk Try.underlying30 rfl rfl Try.sizeOf28 (by decide)
instance : TyStruct Try.prog 30 [.int .u64 0, .int .u64 0] [(0, 1), (1, 1)] := ⟨fun ps w => by simp [Instr.build, Value.cells]; generalize Instr.fill _ _ _ = z; cases z <;> rfl⟩
instance : TyOne Try.prog 32 := ⟨Try.isAgg32, Try.sizeOf32⟩
instance : TyZero Try.prog 32 (.nilFunc) := ⟨Try.zeroValue32⟩
instance : TyConc Try.prog 32 := ⟨fun x w => by simp [Instr.makeInterface]⟩
instance : TyOne Try.prog 33 := ⟨Try.isAgg33, Try.sizeOf33⟩
instance : TyZero Try.prog 33 (.nilFunc) := ⟨Try.zeroValue33⟩
instance : TyConc Try.prog 33 := ⟨fun x w => by simp [Instr.makeInterface]⟩
instance : TyOne Try.prog 34 := ⟨Try.isAgg34, Try.sizeOf34⟩
instance : TyZero Try.prog 34 (.nilFunc) := ⟨Try.zeroValue34⟩
instance : TyConc Try.prog 34 := ⟨fun x w => by simp [Instr.makeInterface]⟩
instance : TyOne Try.prog 35 := ⟨Try.isAgg35, Try.sizeOf35⟩
instance : TyZero Try.prog 35 (.nilFunc) := ⟨Try.zeroValue35⟩
instance : TyConc Try.prog 35 := ⟨fun x w => by simp [Instr.makeInterface]⟩
instance : TyOne Try.prog 36 := ⟨Try.isAgg36, Try.sizeOf36⟩
instance : TyZero Try.prog 36 (.nilFunc) := ⟨Try.zeroValue36⟩
instance : TyConc Try.prog 36 := ⟨fun x w => by simp [Instr.makeInterface]⟩
instance : TyOne Try.prog 37 := ⟨Try.isAgg37, Try.sizeOf37⟩
instance : TyZero Try.prog 37 (.nilFunc) := ⟨Try.zeroValue37⟩
instance : TyConc Try.prog 37 := ⟨fun x w => by simp [Instr.makeInterface]⟩
instance : TyOne Try.prog 38 := ⟨Try.isAgg38, Try.sizeOf38⟩
instance : TyZero Try.prog 38 (.nilFunc) := ⟨Try.zeroValue38⟩
instance : TyConc Try.prog 38 := ⟨fun x w => by simp [Instr.makeInterface]⟩
instance : TyOne Try.prog 39 := ⟨Try.isAgg39, Try.sizeOf39⟩
instance : TyZero Try.prog 39 (.nilFunc) := ⟨Try.zeroValue39⟩
instance : TyConc Try.prog 39 := ⟨fun x w => by simp [Instr.makeInterface]⟩
instance : TyOne Try.prog 40 := ⟨Try.isAgg40, Try.sizeOf40⟩
instance : TyZero Try.prog 40 (.nilFunc) := ⟨Try.zeroValue40⟩
instance : TyConc Try.prog 40 := ⟨fun x w => by simp [Instr.makeInterface]⟩
instance : TyOne Try.prog 41 := ⟨Try.isAgg41, Try.sizeOf41⟩
instance : TyZero Try.prog 41 (.nilFunc) := ⟨Try.zeroValue41⟩
instance : TyConc Try.prog 41 := ⟨fun x w => by simp [Instr.makeInterface]⟩
instance : TyOne Try.prog 42 := ⟨Try.isAgg42, Try.sizeOf42⟩
instance : TyZero Try.prog 42 (.nilFunc) := ⟨Try.zeroValue42⟩
instance : TyConc Try.prog 42 := ⟨fun x w => by simp [Instr.makeInterface]⟩
instance : TyOne Try.prog 43 := ⟨Try.isAgg43, Try.sizeOf43⟩
instance : TyZero Try.prog 43 (.nilFunc) := ⟨Try.zeroValue43⟩
instance : TyConc Try.prog 43 := ⟨fun x w => by simp [Instr.makeInterface]⟩
instance : TyAgg Try.prog 44 4 := ⟨Try.isAgg44, Try.sizeOf44⟩
instance : TyZero Try.prog 44 (.agg #[.pointer none, .pointer none, .pointer none, .string ⟨#[]⟩]) := ⟨Try.zeroValue44⟩
instance : TyConc Try.prog 44 := ⟨fun x w => by simp [Instr.makeInterface]⟩
instance : TyField Try.prog 44 0 0 := tyField_mk Try.underlying44 rfl rfl Try.sizeOf17 (by decide)
instance : TyField Try.prog 44 1 1 := tyField_mk Try.underlying44 rfl rfl Try.sizeOf17 (by decide)
instance : TyField Try.prog 44 2 2 := tyField_mk Try.underlying44 rfl rfl Try.sizeOf17 (by decide)
instance : TyField Try.prog 44 3 3 := tyField_mk Try.underlying44 rfl rfl Try.sizeOf9 (by decide)
instance : TyStruct Try.prog 44 [.pointer none, .pointer none, .pointer none, .string ⟨#[]⟩] [(0, 1), (1, 1), (2, 1), (3, 1)] := ⟨fun ps w => by simp [Instr.build, Value.cells]; generalize Instr.fill _ _ _ = z; cases z <;> rfl⟩
instance : TyAgg Try.prog 45 4 := ⟨Try.isAgg45, Try.sizeOf45⟩
instance : TyZero Try.prog 45 (.agg #[.pointer none, .pointer none, .pointer none, .string ⟨#[]⟩]) := ⟨Try.zeroValue45⟩
instance : TyConc Try.prog 45 := ⟨fun x w => by simp [Instr.makeInterface]⟩
instance : TyField Try.prog 45 0 0 := tyField_mk Try.underlying45 rfl rfl Try.sizeOf17 (by decide)
instance : TyField Try.prog 45 1 1 := tyField_mk Try.underlying45 rfl rfl Try.sizeOf17 (by decide)
instance : TyField Try.prog 45 2 2 := tyField_mk Try.underlying45 rfl rfl Try.sizeOf17 (by decide)
instance : TyField Try.prog 45 3 3 := tyField_mk Try.underlying45 rfl rfl Try.sizeOf9 (by decide)
instance : TyStruct Try.prog 45 [.pointer none, .pointer none, .pointer none, .string ⟨#[]⟩] [(0, 1), (1, 1), (2, 1), (3, 1)] := ⟨fun ps w => by simp [Instr.build, Value.cells]; generalize Instr.fill _ _ _ = z; cases z <;> rfl⟩
instance : TyZero Try.prog 46 (.agg #[]) := ⟨Try.zeroValue46⟩
instance : TyUnder Try.prog 46 (.array 0 16) := ⟨Try.underlying46⟩
instance : TyConc Try.prog 46 := ⟨fun x w => by simp [Instr.makeInterface]⟩
instance : TyZero Try.prog 47 (.agg #[]) := ⟨Try.zeroValue47⟩
instance : TyConc Try.prog 47 := ⟨fun x w => by simp [Instr.makeInterface]⟩
instance : TyZero Try.prog 48 (.agg #[]) := ⟨Try.zeroValue48⟩
instance : TyConc Try.prog 48 := ⟨fun x w => by simp [Instr.makeInterface]⟩
instance : TyOne Try.prog 49 := ⟨Try.isAgg49, Try.sizeOf49⟩
instance : TyZero Try.prog 49 (.int .u32 0) := ⟨Try.zeroValue49⟩
instance : TyUnder Try.prog 49 (.int .u32) := ⟨Try.underlying49⟩
instance : TyConc Try.prog 49 := ⟨fun x w => by simp [Instr.makeInterface]⟩
instance : TyOne Try.prog 50 := ⟨Try.isAgg50, Try.sizeOf50⟩
instance : TyZero Try.prog 50 (.int .u8 0) := ⟨Try.zeroValue50⟩
instance : TyUnder Try.prog 50 (.int .u8) := ⟨Try.underlying50⟩
instance : TyConc Try.prog 50 := ⟨fun x w => by simp [Instr.makeInterface]⟩
instance : TyOne Try.prog 51 := ⟨Try.isAgg51, Try.sizeOf51⟩
instance : TyZero Try.prog 51 (.int .u8 0) := ⟨Try.zeroValue51⟩
instance : TyUnder Try.prog 51 (.int .u8) := ⟨Try.underlying51⟩
instance : TyConc Try.prog 51 := ⟨fun x w => by simp [Instr.makeInterface]⟩
instance : TyOne Try.prog 53 := ⟨Try.isAgg53, Try.sizeOf53⟩
instance : TyZero Try.prog 53 (.pointer none) := ⟨Try.zeroValue53⟩
instance : TyUnder Try.prog 53 (.pointer 5) := ⟨Try.underlying53⟩
instance : TyConc Try.prog 53 := ⟨fun x w => by simp [Instr.makeInterface]⟩
instance : TyOne Try.prog 54 := ⟨Try.isAgg54, Try.sizeOf54⟩
instance : TyZero Try.prog 54 (.int .i32 0) := ⟨Try.zeroValue54⟩
instance : TyUnder Try.prog 54 (.int .i32) := ⟨Try.underlying54⟩
instance : TyConc Try.prog 54 := ⟨fun x w => by simp [Instr.makeInterface]⟩
instance : TyOne Try.prog 55 := ⟨Try.isAgg55, Try.sizeOf55⟩
instance : TyZero Try.prog 55 (.int .i32 0) := ⟨Try.zeroValue55⟩
instance : TyUnder Try.prog 55 (.int .i32) := ⟨Try.underlying55⟩
instance : TyConc Try.prog 55 := ⟨fun x w => by simp [Instr.makeInterface]⟩
instance : TyAgg Try.prog 57 11 := ⟨Try.isAgg57, Try.sizeOf57⟩
instance : TyZero Try.prog 57 (.agg #[.int .u64 0, .int .u64 0, .int .u32 0, .int .u8 0, .int .u8 0, .int .u8 0, .int .u8 0, .nilFunc, .pointer none, .int .i32 0, .int .i32 0]) := ⟨Try.zeroValue57⟩
instance : TyConc Try.prog 57 := ⟨fun x w => by simp [Instr.makeInterface]⟩
instance : TyField Try.prog 57 0 0 := tyField_mk Try.underlying57 rfl rfl Try.sizeOf12 (by decide)
instance : TyField Try.prog 57 1 1 := tyField_mk Try.underlying57 rfl rfl Try.sizeOf12 (by decide)
instance : TyField Try.prog 57 2 2 := tyField_mk Try.underlying57 rfl rfl Try.sizeOf49 (by decide)
instance : TyField Try.prog 57 3 3 := tyField_mk Try.underlying57 rfl rfl Try.sizeOf50 (by decide)
instance : TyField Try.prog 57 4 4 := tyField_mk Try.underlying57 rfl rfl Try.sizeOf5 (by decide)
instance : TyField Try.prog 57 5 5 := tyField_mk Try.underlying57 rfl rfl Try.sizeOf5 (by decide)
instance : TyField Try.prog 57 6 6 := tyField_mk Try.underlying57 rfl rfl Try.sizeOf51 (by decide)
instance : TyField Try.prog 57 7 7 := tyField_mk Try.underlying57 rfl rfl Try.sizeOf52 (by decide)
instance : TyField Try.prog 57 8 8 := tyField_mk Try.underlying57 rfl rfl Try.sizeOf53 (by decide)
instance : TyField Try.prog 57 9 9 := tyField_mk Try.underlying57 rfl rfl Try.sizeOf54 (by decide)
instance : TyField Try.prog 57 10 10 := tyField_mk Try.underlying57 rfl rfl Try.sizeOf55 (by decide)
instance : TyStruct Try.prog 57 [.int .u64 0, .int .u64 0, .int .u32 0, .int .u8 0, .int .u8 0, .int .u8 0, .int .u8 0, .nilFunc, .pointer none, .int .i32 0, .int .i32 0] [(0, 1), (1, 1), (2, 1), (3, 1), (4, 1), (5, 1), (6, 1), (7, 1), (8, 1), (9, 1), (10, 1)] := ⟨fun ps w => by simp [Instr.build, Value.cells]; generalize Instr.fill _ _ _ = z; cases z <;> rfl⟩
instance : TyCall Try.prog 3 := ⟨Try.call3⟩
instance : TyCall Try.prog 4 := ⟨Try.call4⟩
instance : TyCall Try.prog 5 := ⟨Try.call5⟩
instance : TyCall Try.prog 6 := ⟨Try.call6⟩
instance : TyCall Try.prog 7 := ⟨Try.call7⟩
instance : TyCall Try.prog 8 := ⟨Try.call8⟩
instance : TyCall Try.prog 9 := ⟨Try.call9⟩
instance : TyCall Try.prog 10 := ⟨Try.call10⟩
instance : TyCall Try.prog 11 := ⟨Try.call11⟩
instance : TyCall Try.prog 12 := ⟨Try.call12⟩
instance : TyCall Try.prog 13 := ⟨Try.call13⟩
instance : TyCall Try.prog 14 := ⟨Try.call14⟩
instance : TyCall Try.prog 15 := ⟨Try.call15⟩
instance : TyCall Try.prog 16 := ⟨Try.call16⟩
instance : TyCall Try.prog 32 := ⟨Try.call32⟩
instance : TyMeth Try.prog 30 "Before" 32 := ⟨fun v w => by kernel_rfl⟩
end Go.Proofs.Ytbhgbhhdpcehbaa
