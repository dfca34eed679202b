/- The seat's types and functions, as the rules of the layer ask for them: written by wip/gen/types.py. -/
import Derived.Test.YtjoldkfedmiciaaRows
import Derived.Test.YtjoldkfedmiciaaSlD
namespace Go.Proofs.Ytjoldkfedmiciaa
instance : TyOne Try.prog 1 := ⟨Try.isAgg1, Try.sizeOf1⟩
instance : TyZero Try.prog 1 (.nilFunc) := ⟨Try.zeroValue1⟩
instance : TyConc Try.prog 1 := ⟨fun x w => by simp [Instr.makeInterface]⟩
instance : TyOne Try.prog 2 := ⟨Try.isAgg2, Try.sizeOf2⟩
instance : TyZero Try.prog 2 (.int .i64 0) := ⟨Try.zeroValue2⟩
instance : TyUnder Try.prog 2 (.int .i64) := ⟨Try.underlying2⟩
instance : TyConc Try.prog 2 := ⟨fun x w => by simp [Instr.makeInterface]⟩
instance : TyOne Try.prog 3 := ⟨Try.isAgg3, Try.sizeOf3⟩
instance : TyZero Try.prog 3 (.int .i64 0) := ⟨Try.zeroValue3⟩
instance : TyUnder Try.prog 3 (.int .i64) := ⟨Try.underlying3⟩
instance : TyConc Try.prog 3 := ⟨fun x w => by simp [Instr.makeInterface]⟩
instance : TyOne Try.prog 4 := ⟨Try.isAgg4, Try.sizeOf4⟩
instance : TyZero Try.prog 4 (.bool false) := ⟨Try.zeroValue4⟩
instance : TyUnder Try.prog 4 .bool := ⟨Try.underlying4⟩
instance : TyConc Try.prog 4 := ⟨fun x w => by simp [Instr.makeInterface]⟩
instance : TyOne Try.prog 5 := ⟨Try.isAgg5, Try.sizeOf5⟩
instance : TyZero Try.prog 5 (.int .u8 0) := ⟨Try.zeroValue5⟩
instance : TyUnder Try.prog 5 (.int .u8) := ⟨Try.underlying5⟩
instance : TyConc Try.prog 5 := ⟨fun x w => by simp [Instr.makeInterface]⟩
instance : TyOne Try.prog 6 := ⟨Try.isAgg6, Try.sizeOf6⟩
instance : TyZero Try.prog 6 (.int .u8 0) := ⟨Try.zeroValue6⟩
instance : TyUnder Try.prog 6 (.int .u8) := ⟨Try.underlying6⟩
instance : TyConc Try.prog 6 := ⟨fun x w => by simp [Instr.makeInterface]⟩
instance : TyAgg Try.prog 7 4 := ⟨Try.isAgg7, Try.sizeOf7⟩
instance : TyZero Try.prog 7 (.agg #[.int .i64 0, .int .i64 0, .bool false, .int .u8 0]) := ⟨Try.zeroValue7⟩
instance : TyConc Try.prog 7 := ⟨fun x w => by simp [Instr.makeInterface]⟩
instance : TyField Try.prog 7 0 0 := tyField_mk Try.underlying7 rfl rfl Try.sizeOf2 (by decide)
instance : TyField Try.prog 7 1 1 := tyField_mk Try.underlying7 rfl rfl Try.sizeOf3 (by decide)
instance : TyField Try.prog 7 2 2 := tyField_mk Try.underlying7 rfl rfl Try.sizeOf4 (by decide)
instance : TyField Try.prog 7 3 3 := tyField_mk Try.underlying7 rfl rfl Try.sizeOf6 (by decide)
instance : TyStruct Try.prog 7 [.int .i64 0, .int .i64 0, .bool false, .int .u8 0] [(0, 1), (1, 1), (2, 1), (3, 1)] := ⟨fun ps w => by simp [Instr.build, Value.cells]; generalize Instr.fill _ _ _ = z; cases z <;> rfl⟩
instance : TyAgg Try.prog 8 4 := ⟨Try.isAgg8, Try.sizeOf8⟩
instance : TyZero Try.prog 8 (.agg #[.int .i64 0, .int .i64 0, .bool false, .int .u8 0]) := ⟨Try.zeroValue8⟩
instance : TyConc Try.prog 8 := ⟨fun x w => by simp [Instr.makeInterface]⟩
instance : TyField Try.prog 8 0 0 := tyField_mk Try.underlying8 rfl rfl Try.sizeOf2 (by decide)
instance : TyField Try.prog 8 1 1 := tyField_mk Try.underlying8 rfl rfl Try.sizeOf3 (by decide)
instance : TyField Try.prog 8 2 2 := tyField_mk Try.underlying8 rfl rfl Try.sizeOf4 (by decide)
instance : TyField Try.prog 8 3 3 := tyField_mk Try.underlying8 rfl rfl Try.sizeOf6 (by decide)
instance : TyStruct Try.prog 8 [.int .i64 0, .int .i64 0, .bool false, .int .u8 0] [(0, 1), (1, 1), (2, 1), (3, 1)] := ⟨fun ps w => by simp [Instr.build, Value.cells]; generalize Instr.fill _ _ _ = z; cases z <;> rfl⟩
instance : TyOne Try.prog 9 := ⟨Try.isAgg9, Try.sizeOf9⟩
instance : TyZero Try.prog 9 (.string ⟨#[]⟩) := ⟨Try.zeroValue9⟩
instance : TyUnder Try.prog 9 .string := ⟨Try.underlying9⟩
instance : TyConc Try.prog 9 := ⟨fun x w => by simp [Instr.makeInterface]⟩
instance : TyOne Try.prog 10 := ⟨Try.isAgg10, Try.sizeOf10⟩
instance : TyZero Try.prog 10 (.string ⟨#[]⟩) := ⟨Try.zeroValue10⟩
instance : TyUnder Try.prog 10 .string := ⟨Try.underlying10⟩
instance : TyConc Try.prog 10 := ⟨fun x w => by simp [Instr.makeInterface]⟩
instance : TyOne Try.prog 11 := ⟨Try.isAgg11, Try.sizeOf11⟩
instance : TyZero Try.prog 11 (.string ⟨#[]⟩) := ⟨Try.zeroValue11⟩
instance : TyUnder Try.prog 11 .string := ⟨Try.underlying11⟩
instance : TyConc Try.prog 11 := ⟨fun x w => by simp [Instr.makeInterface]⟩
instance : TyOne Try.prog 12 := ⟨Try.isAgg12, Try.sizeOf12⟩
instance : TyZero Try.prog 12 (.int .u64 0) := ⟨Try.zeroValue12⟩
instance : TyUnder Try.prog 12 (.int .u64) := ⟨Try.underlying12⟩
instance : TyConc Try.prog 12 := ⟨fun x w => by simp [Instr.makeInterface]⟩
instance : TyAgg Try.prog 13 2 := ⟨Try.isAgg13, Try.sizeOf13⟩
instance : TyZero Try.prog 13 (.agg #[.string ⟨#[]⟩, .int .u64 0]) := ⟨Try.zeroValue13⟩
instance : TyConc Try.prog 13 := ⟨fun x w => by simp [Instr.makeInterface]⟩
instance : TyField Try.prog 13 0 0 := tyField_mk Try.underlying13 rfl rfl Try.sizeOf9 (by decide)
instance : TyField Try.prog 13 1 1 := tyField_mk Try.underlying13 rfl rfl Try.sizeOf12 (by decide)
instance : TyStruct Try.prog 13 [.string ⟨#[]⟩, .int .u64 0] [(0, 1), (1, 1)] := ⟨fun ps w => by simp [Instr.build, Value.cells]; generalize Instr.fill _ _ _ = z; cases z <;> rfl⟩
instance : TyAgg Try.prog 14 2 := ⟨Try.isAgg14, Try.sizeOf14⟩
instance : TyZero Try.prog 14 (.agg #[.string ⟨#[]⟩, .int .u64 0]) := ⟨Try.zeroValue14⟩
instance : TyConc Try.prog 14 := ⟨fun x w => by simp [Instr.makeInterface]⟩
instance : TyField Try.prog 14 0 0 := tyField_mk Try.underlying14 rfl rfl Try.sizeOf9 (by decide)
instance : TyField Try.prog 14 1 1 := tyField_mk Try.underlying14 rfl rfl Try.sizeOf12 (by decide)
instance : TyStruct Try.prog 14 [.string ⟨#[]⟩, .int .u64 0] [(0, 1), (1, 1)] := ⟨fun ps w => by simp [Instr.build, Value.cells]; generalize Instr.fill _ _ _ = z; cases z <;> rfl⟩
instance : TyOne Try.prog 15 := ⟨Try.isAgg15, Try.sizeOf15⟩
instance : TyZero Try.prog 15 (.pointer none) := ⟨Try.zeroValue15⟩
instance : TyUnder Try.prog 15 (.pointer 96) := ⟨Try.underlying15⟩
instance : TyConc Try.prog 15 := ⟨fun x w => by simp [Instr.makeInterface]⟩
instance : TyOne Try.prog 16 := ⟨Try.isAgg16, Try.sizeOf16⟩
instance : TyZero Try.prog 16 (.pointer none) := ⟨Try.zeroValue16⟩
instance : TyUnder Try.prog 16 (.pointer 99) := ⟨Try.underlying16⟩
instance : TyConc Try.prog 16 := ⟨fun x w => by simp [Instr.makeInterface]⟩
instance : TyOne Try.prog 17 := ⟨Try.isAgg17, Try.sizeOf17⟩
instance : TyZero Try.prog 17 (.pointer none) := ⟨Try.zeroValue17⟩
instance : TyUnder Try.prog 17 (.pointer 108) := ⟨Try.underlying17⟩
instance : TyConc Try.prog 17 := ⟨fun x w => by simp [Instr.makeInterface]⟩
instance : TyAgg Try.prog 18 1 := ⟨Try.isAgg18, Try.sizeOf18⟩
instance : TyZero Try.prog 18 (.agg #[.pointer none]) := ⟨Try.zeroValue18⟩
instance : TyConc Try.prog 18 := ⟨fun x w => by simp [Instr.makeInterface]⟩
instance : TyField Try.prog 18 0 0 := tyField_mk Try.underlying18 rfl rfl Try.sizeOf17 (by decide)
instance : TyStruct Try.prog 18 [.pointer none] [(0, 1)] := ⟨fun ps w => by simp [Instr.build, Value.cells]; generalize Instr.fill _ _ _ = z; cases z <;> rfl⟩
instance : TyAgg Try.prog 19 1 := ⟨Try.isAgg19, Try.sizeOf19⟩
instance : TyZero Try.prog 19 (.agg #[.pointer none]) := ⟨Try.zeroValue19⟩
instance : TyConc Try.prog 19 := ⟨fun x w => by simp [Instr.makeInterface]⟩
instance : TyField Try.prog 19 0 0 := tyField_mk Try.underlying19 rfl rfl Try.sizeOf17 (by decide)
instance : TyStruct Try.prog 19 [.pointer none] [(0, 1)] := ⟨fun ps w => by simp [Instr.build, Value.cells]; generalize Instr.fill _ _ _ = z; cases z <;> rfl⟩
instance : TyOne Try.prog 20 := ⟨Try.isAgg20, Try.sizeOf20⟩
instance : TyZero Try.prog 20 (.nilIface) := ⟨Try.zeroValue20⟩
instance : TyOne Try.prog 21 := ⟨Try.isAgg21, Try.sizeOf21⟩
instance : TyZero Try.prog 21 (.int .i32 0) := ⟨Try.zeroValue21⟩
instance : TyUnder Try.prog 21 (.int .i32) := ⟨Try.underlying21⟩
instance : TyConc Try.prog 21 := ⟨fun x w => by simp [Instr.makeInterface]⟩
instance : TyOne Try.prog 22 := ⟨Try.isAgg22, Try.sizeOf22⟩
instance : TyZero Try.prog 22 (.slice none 0 0) := ⟨Try.zeroValue22⟩
instance : TyUnder Try.prog 22 (.slice 39) := ⟨Try.underlying22⟩
instance : TyConc Try.prog 22 := ⟨fun x w => by simp [Instr.makeInterface]⟩
instance : TyAgg Try.prog 23 2 := ⟨Try.isAgg23, Try.sizeOf23⟩
instance : TyZero Try.prog 23 (.agg #[.int .i64 0, .slice none 0 0]) := ⟨Try.zeroValue23⟩
instance : TyConc Try.prog 23 := ⟨fun x w => by simp [Instr.makeInterface]⟩
instance : TyField Try.prog 23 0 0 := tyField_mk Try.underlying23 rfl rfl Try.sizeOf3 (by decide)
instance : TyField Try.prog 23 1 1 := tyField_mk Try.underlying23 rfl rfl Try.sizeOf22 (by decide)
instance : TyStruct Try.prog 23 [.int .i64 0, .slice none 0 0] [(0, 1), (1, 1)] := ⟨fun ps w => by simp [Instr.build, Value.cells]; generalize Instr.fill _ _ _ = z; cases z <;> rfl⟩
instance : TyAgg Try.prog 24 2 := ⟨Try.isAgg24, Try.sizeOf24⟩
instance : TyZero Try.prog 24 (.agg #[.int .i64 0, .slice none 0 0]) := ⟨Try.zeroValue24⟩
instance : TyConc Try.prog 24 := ⟨fun x w => by simp [Instr.makeInterface]⟩
instance : TyField Try.prog 24 0 0 := tyField_mk Try.underlying24 rfl rfl Try.sizeOf3 (by decide)
instance : TyField Try.prog 24 1 1 := tyField_mk Try.underlying24 rfl rfl Try.sizeOf22 (by decide)
instance : TyStruct Try.prog 24 [.int .i64 0, .slice none 0 0] [(0, 1), (1, 1)] := ⟨fun ps w => by simp [Instr.build, Value.cells]; generalize Instr.fill _ _ _ = z; cases z <;> rfl⟩
instance : TyOne Try.prog 25 := ⟨Try.isAgg25, Try.sizeOf25⟩
instance : TyZero Try.prog 25 (.nilFunc) := ⟨Try.zeroValue25⟩
instance : TyConc Try.prog 25 := ⟨fun x w => by simp [Instr.makeInterface]⟩
instance : TyOne Try.prog 26 := ⟨Try.isAgg26, Try.sizeOf26⟩
instance : TyZero Try.prog 26 (.nilFunc) := ⟨Try.zeroValue26⟩
instance : TyConc Try.prog 26 := ⟨fun x w => by simp [Instr.makeInterface]⟩
instance : TyOne Try.prog 27 := ⟨Try.isAgg27, Try.sizeOf27⟩
instance : TyZero Try.prog 27 (.slice none 0 0) := ⟨Try.zeroValue27⟩
instance : TyUnder Try.prog 27 (.slice 5) := ⟨Try.underlying27⟩
instance : TyConc Try.prog 27 := ⟨fun x w => by simp [Instr.makeInterface]⟩
instance : TyOne Try.prog 28 := ⟨Try.isAgg28, Try.sizeOf28⟩
instance : TyZero Try.prog 28 (.int .i64 0) := ⟨Try.zeroValue28⟩
instance : TyUnder Try.prog 28 (.int .i64) := ⟨Try.underlying28⟩
instance : TyConc Try.prog 28 := ⟨fun x w => by simp [Instr.makeInterface]⟩
instance : TyOne Try.prog 30 := ⟨Try.isAgg30, Try.sizeOf30⟩
instance : TyZero Try.prog 30 (.nilFunc) := ⟨Try.zeroValue30⟩
instance : TyConc Try.prog 30 := ⟨fun x w => by simp [Instr.makeInterface]⟩
instance : TyOne Try.prog 31 := ⟨Try.isAgg31, Try.sizeOf31⟩
instance : TyZero Try.prog 31 (.nilFunc) := ⟨Try.zeroValue31⟩
instance : TyConc Try.prog 31 := ⟨fun x w => by simp [Instr.makeInterface]⟩
instance : TyOne Try.prog 32 := ⟨Try.isAgg32, Try.sizeOf32⟩
instance : TyZero Try.prog 32 (.nilFunc) := ⟨Try.zeroValue32⟩
instance : TyConc Try.prog 32 := ⟨fun x w => by simp [Instr.makeInterface]⟩
instance : TyOne Try.prog 33 := ⟨Try.isAgg33, Try.sizeOf33⟩
instance : TyZero Try.prog 33 (.nilFunc) := ⟨Try.zeroValue33⟩
instance : TyConc Try.prog 33 := ⟨fun x w => by simp [Instr.makeInterface]⟩
instance : TyOne Try.prog 35 := ⟨Try.isAgg35, Try.sizeOf35⟩
instance : TyZero Try.prog 35 (.nilFunc) := ⟨Try.zeroValue35⟩
instance : TyConc Try.prog 35 := ⟨fun x w => by simp [Instr.makeInterface]⟩
instance : TyOne Try.prog 36 := ⟨Try.isAgg36, Try.sizeOf36⟩
instance : TyZero Try.prog 36 (.nilFunc) := ⟨Try.zeroValue36⟩
instance : TyConc Try.prog 36 := ⟨fun x w => by simp [Instr.makeInterface]⟩
instance : TyOne Try.prog 37 := ⟨Try.isAgg37, Try.sizeOf37⟩
instance : TyZero Try.prog 37 (.int .u32 0) := ⟨Try.zeroValue37⟩
instance : TyUnder Try.prog 37 (.int .u32) := ⟨Try.underlying37⟩
instance : TyConc Try.prog 37 := ⟨fun x w => by simp [Instr.makeInterface]⟩
instance : TyAgg Try.prog 38 3 := ⟨Try.isAgg38, Try.sizeOf38⟩
instance : TyZero Try.prog 38 (.agg #[.int .u32 0, .int .u32 0, .int .u32 0]) := ⟨Try.zeroValue38⟩
instance : TyConc Try.prog 38 := ⟨fun x w => by simp [Instr.makeInterface]⟩
instance : TyField Try.prog 38 0 0 := tyField_mk Try.underlying38 rfl rfl Try.sizeOf37 (by decide)
instance : TyField Try.prog 38 1 1 := tyField_mk Try.underlying38 rfl rfl Try.sizeOf37 (by decide)
instance : TyField Try.prog 38 2 2 := tyField_mk Try.underlying38 rfl rfl Try.sizeOf37 (by decide)
instance : TyStruct Try.prog 38 [.int .u32 0, .int .u32 0, .int .u32 0] [(0, 1), (1, 1), (2, 1)] := ⟨fun ps w => by simp [Instr.build, Value.cells]; generalize Instr.fill _ _ _ = z; cases z <;> rfl⟩
instance : TyAgg Try.prog 39 3 := ⟨Try.isAgg39, Try.sizeOf39⟩
instance : TyZero Try.prog 39 (.agg #[.int .u32 0, .int .u32 0, .int .u32 0]) := ⟨Try.zeroValue39⟩
instance : TyConc Try.prog 39 := ⟨fun x w => by simp [Instr.makeInterface]⟩
instance : TyField Try.prog 39 0 0 := tyField_mk Try.underlying39 rfl rfl Try.sizeOf37 (by decide)
instance : TyField Try.prog 39 1 1 := tyField_mk Try.underlying39 rfl rfl Try.sizeOf37 (by decide)
instance : TyField Try.prog 39 2 2 := tyField_mk Try.underlying39 rfl rfl Try.sizeOf37 (by decide)
instance : TyStruct Try.prog 39 [.int .u32 0, .int .u32 0, .int .u32 0] [(0, 1), (1, 1), (2, 1)] := ⟨fun ps w => by simp [Instr.build, Value.cells]; generalize Instr.fill _ _ _ = z; cases z <;> rfl⟩
instance : TyOne Try.prog 40 := ⟨Try.isAgg40, Try.sizeOf40⟩
instance : TyZero Try.prog 40 (.nilFunc) := ⟨Try.zeroValue40⟩
instance : TyConc Try.prog 40 := ⟨fun x w => by simp [Instr.makeInterface]⟩
instance : TyOne Try.prog 41 := ⟨Try.isAgg41, Try.sizeOf41⟩
instance : TyZero Try.prog 41 (.slice none 0 0) := ⟨Try.zeroValue41⟩
instance : TyUnder Try.prog 41 (.slice 37) := ⟨Try.underlying41⟩
instance : TyConc Try.prog 41 := ⟨fun x w => by simp [Instr.makeInterface]⟩
instance : TyOne Try.prog 42 := ⟨Try.isAgg42, Try.sizeOf42⟩
instance : TyZero Try.prog 42 (.int .u64 0) := ⟨Try.zeroValue42⟩
instance : TyUnder Try.prog 42 (.int .u64) := ⟨Try.underlying42⟩
instance : TyConc Try.prog 42 := ⟨fun x w => by simp [Instr.makeInterface]⟩
instance : TyOne Try.prog 43 := ⟨Try.isAgg43, Try.sizeOf43⟩
instance : TyZero Try.prog 43 (.nilFunc) := ⟨Try.zeroValue43⟩
instance : TyConc Try.prog 43 := ⟨fun x w => by simp [Instr.makeInterface]⟩
instance : TyOne Try.prog 44 := ⟨Try.isAgg44, Try.sizeOf44⟩
instance : TyZero Try.prog 44 (.nilFunc) := ⟨Try.zeroValue44⟩
instance : TyConc Try.prog 44 := ⟨fun x w => by simp [Instr.makeInterface]⟩
instance : TyOne Try.prog 45 := ⟨Try.isAgg45, Try.sizeOf45⟩
instance : TyZero Try.prog 45 (.nilFunc) := ⟨Try.zeroValue45⟩
instance : TyConc Try.prog 45 := ⟨fun x w => by simp [Instr.makeInterface]⟩
instance : TyOne Try.prog 46 := ⟨Try.isAgg46, Try.sizeOf46⟩
instance : TyZero Try.prog 46 (.nilFunc) := ⟨Try.zeroValue46⟩
instance : TyConc Try.prog 46 := ⟨fun x w => by simp [Instr.makeInterface]⟩
instance : TyOne Try.prog 47 := ⟨Try.isAgg47, Try.sizeOf47⟩
instance : TyZero Try.prog 47 (.int .u64 0) := ⟨Try.zeroValue47⟩
instance : TyUnder Try.prog 47 (.int .u64) := ⟨Try.underlying47⟩
instance : TyConc Try.prog 47 := ⟨fun x w => by simp [Instr.makeInterface]⟩
instance : TyAgg Try.prog 48 3 := ⟨Try.isAgg48, Try.sizeOf48⟩
instance : TyZero Try.prog 48 (.agg #[.int .u32 0, .int .u32 0, .int .u32 0]) := ⟨Try.zeroValue48⟩
instance : TyUnder Try.prog 48 (.array 3 37) := ⟨Try.underlying48⟩
instance : TyConc Try.prog 48 := ⟨fun x w => by simp [Instr.makeInterface]⟩
instance : TyOne Try.prog 49 := ⟨Try.isAgg49, Try.sizeOf49⟩
instance : TyZero Try.prog 49 (.nilFunc) := ⟨Try.zeroValue49⟩
instance : TyConc Try.prog 49 := ⟨fun x w => by simp [Instr.makeInterface]⟩
instance : TyOne Try.prog 50 := ⟨Try.isAgg50, Try.sizeOf50⟩
instance : TyZero Try.prog 50 (.nilFunc) := ⟨Try.zeroValue50⟩
instance : TyConc Try.prog 50 := ⟨fun x w => by simp [Instr.makeInterface]⟩
instance : TyOne Try.prog 51 := ⟨Try.isAgg51, Try.sizeOf51⟩
instance : TyZero Try.prog 51 (.nilFunc) := ⟨Try.zeroValue51⟩
instance : TyConc Try.prog 51 := ⟨fun x w => by simp [Instr.makeInterface]⟩
instance : TyOne Try.prog 53 := ⟨Try.isAgg53, Try.sizeOf53⟩
instance : TyZero Try.prog 53 (.nilFunc) := ⟨Try.zeroValue53⟩
instance : TyConc Try.prog 53 := ⟨fun x w => by simp [Instr.makeInterface]⟩
instance : TyOne Try.prog 54 := ⟨Try.isAgg54, Try.sizeOf54⟩
instance : TyZero Try.prog 54 (.nilFunc) := ⟨Try.zeroValue54⟩
instance : TyConc Try.prog 54 := ⟨fun x w => by simp [Instr.makeInterface]⟩
instance : TyOne Try.prog 55 := ⟨Try.isAgg55, Try.sizeOf55⟩
instance : TyZero Try.prog 55 (.nilFunc) := ⟨Try.zeroValue55⟩
instance : TyConc Try.prog 55 := ⟨fun x w => by simp [Instr.makeInterface]⟩
instance : TyOne Try.prog 56 := ⟨Try.isAgg56, Try.sizeOf56⟩
instance : TyZero Try.prog 56 (.nilFunc) := ⟨Try.zeroValue56⟩
instance : TyConc Try.prog 56 := ⟨fun x w => by simp [Instr.makeInterface]⟩
instance : TyOne Try.prog 57 := ⟨Try.isAgg57, Try.sizeOf57⟩
instance : TyZero Try.prog 57 (.nilFunc) := ⟨Try.zeroValue57⟩
instance : TyConc Try.prog 57 := ⟨fun x w => by simp [Instr.makeInterface]⟩
instance : TyOne Try.prog 58 := ⟨Try.isAgg58, Try.sizeOf58⟩
instance : TyZero Try.prog 58 (.nilFunc) := ⟨Try.zeroValue58⟩
instance : TyConc Try.prog 58 := ⟨fun x w => by simp [Instr.makeInterface]⟩
instance : TyOne Try.prog 59 := ⟨Try.isAgg59, Try.sizeOf59⟩
instance : TyZero Try.prog 59 (.nilFunc) := ⟨Try.zeroValue59⟩
instance : TyConc Try.prog 59 := ⟨fun x w => by simp [Instr.makeInterface]⟩
instance : TyOne Try.prog 60 := ⟨Try.isAgg60, Try.sizeOf60⟩
instance : TyZero Try.prog 60 (.nilFunc) := ⟨Try.zeroValue60⟩
instance : TyConc Try.prog 60 := ⟨fun x w => by simp [Instr.makeInterface]⟩
instance : TyOne Try.prog 61 := ⟨Try.isAgg61, Try.sizeOf61⟩
instance : TyZero Try.prog 61 (.nilFunc) := ⟨Try.zeroValue61⟩
instance : TyConc Try.prog 61 := ⟨fun x w => by simp [Instr.makeInterface]⟩
instance : TyOne Try.prog 62 := ⟨Try.isAgg62, Try.sizeOf62⟩
instance : TyZero Try.prog 62 (.nilFunc) := ⟨Try.zeroValue62⟩
instance : TyConc Try.prog 62 := ⟨fun x w => by simp [Instr.makeInterface]⟩
instance : TyOne Try.prog 63 := ⟨Try.isAgg63, Try.sizeOf63⟩
instance : TyZero Try.prog 63 (.nilFunc) := ⟨Try.zeroValue63⟩
instance : TyConc Try.prog 63 := ⟨fun x w => by simp [Instr.makeInterface]⟩
instance : TyOne Try.prog 64 := ⟨Try.isAgg64, Try.sizeOf64⟩
instance : TyZero Try.prog 64 (.nilFunc) := ⟨Try.zeroValue64⟩
instance : TyConc Try.prog 64 := ⟨fun x w => by simp [Instr.makeInterface]⟩
instance : TyOne Try.prog 65 := ⟨Try.isAgg65, Try.sizeOf65⟩
instance : TyZero Try.prog 65 (.nilFunc) := ⟨Try.zeroValue65⟩
instance : TyConc Try.prog 65 := ⟨fun x w => by simp [Instr.makeInterface]⟩
instance : TyOne Try.prog 66 := ⟨Try.isAgg66, Try.sizeOf66⟩
instance : TyZero Try.prog 66 (.nilFunc) := ⟨Try.zeroValue66⟩
instance : TyConc Try.prog 66 := ⟨fun x w => by simp [Instr.makeInterface]⟩
instance : TyOne Try.prog 67 := ⟨Try.isAgg67, Try.sizeOf67⟩
instance : TyZero Try.prog 67 (.nilFunc) := ⟨Try.zeroValue67⟩
instance : TyConc Try.prog 67 := ⟨fun x w => by simp [Instr.makeInterface]⟩
instance : TyOne Try.prog 68 := ⟨Try.isAgg68, Try.sizeOf68⟩
instance : TyZero Try.prog 68 (.nilFunc) := ⟨Try.zeroValue68⟩
instance : TyConc Try.prog 68 := ⟨fun x w => by simp [Instr.makeInterface]⟩
instance : TyOne Try.prog 69 := ⟨Try.isAgg69, Try.sizeOf69⟩
instance : TyZero Try.prog 69 (.nilFunc) := ⟨Try.zeroValue69⟩
instance : TyConc Try.prog 69 := ⟨fun x w => by simp [Instr.makeInterface]⟩
instance : TyOne Try.prog 70 := ⟨Try.isAgg70, Try.sizeOf70⟩
instance : TyZero Try.prog 70 (.slice none 0 0) := ⟨Try.zeroValue70⟩
instance : TyUnder Try.prog 70 (.slice 3) := ⟨Try.underlying70⟩
instance : TyConc Try.prog 70 := ⟨fun x w => by simp [Instr.makeInterface]⟩
instance : TyOne Try.prog 71 := ⟨Try.isAgg71, Try.sizeOf71⟩
instance : TyZero Try.prog 71 (.nilFunc) := ⟨Try.zeroValue71⟩
instance : TyConc Try.prog 71 := ⟨fun x w => by simp [Instr.makeInterface]⟩
instance : TyOne Try.prog 72 := ⟨Try.isAgg72, Try.sizeOf72⟩
instance : TyZero Try.prog 72 (.nilFunc) := ⟨Try.zeroValue72⟩
instance : TyConc Try.prog 72 := ⟨fun x w => by simp [Instr.makeInterface]⟩
instance : TyOne Try.prog 73 := ⟨Try.isAgg73, Try.sizeOf73⟩
instance : TyZero Try.prog 73 (.nilFunc) := ⟨Try.zeroValue73⟩
instance : TyConc Try.prog 73 := ⟨fun x w => by simp [Instr.makeInterface]⟩
instance : TyOne Try.prog 74 := ⟨Try.isAgg74, Try.sizeOf74⟩
instance : TyZero Try.prog 74 (.nilFunc) := ⟨Try.zeroValue74⟩
instance : TyConc Try.prog 74 := ⟨fun x w => by simp [Instr.makeInterface]⟩
instance : TyOne Try.prog 75 := ⟨Try.isAgg75, Try.sizeOf75⟩
instance : TyZero Try.prog 75 (.nilFunc) := ⟨Try.zeroValue75⟩
instance : TyConc Try.prog 75 := ⟨fun x w => by simp [Instr.makeInterface]⟩
instance : TyOne Try.prog 76 := ⟨Try.isAgg76, Try.sizeOf76⟩
instance : TyZero Try.prog 76 (.int .i64 0) := ⟨Try.zeroValue76⟩
instance : TyUnder Try.prog 76 (.int .i64) := ⟨Try.underlying76⟩
instance : TyConc Try.prog 76 := ⟨fun x w => by simp [Instr.makeInterface]⟩
instance : TyOne Try.prog 78 := ⟨Try.isAgg78, Try.sizeOf78⟩
instance : TyZero Try.prog 78 (.nilFunc) := ⟨Try.zeroValue78⟩
instance : TyConc Try.prog 78 := ⟨fun x w => by simp [Instr.makeInterface]⟩
instance : TyOne Try.prog 79 := ⟨Try.isAgg79, Try.sizeOf79⟩
instance : TyZero Try.prog 79 (.nilFunc) := ⟨Try.zeroValue79⟩
instance : TyConc Try.prog 79 := ⟨fun x w => by simp [Instr.makeInterface]⟩
instance : TyOne Try.prog 80 := ⟨Try.isAgg80, Try.sizeOf80⟩
instance : TyZero Try.prog 80 (.nilFunc) := ⟨Try.zeroValue80⟩
instance : TyConc Try.prog 80 := ⟨fun x w => by simp [Instr.makeInterface]⟩
instance : TyOne Try.prog 82 := ⟨Try.isAgg82, Try.sizeOf82⟩
instance : TyZero Try.prog 82 (.nilFunc) := ⟨Try.zeroValue82⟩
instance : TyConc Try.prog 82 := ⟨fun x w => by simp [Instr.makeInterface]⟩
instance : TyOne Try.prog 83 := ⟨Try.isAgg83, Try.sizeOf83⟩
instance : TyZero Try.prog 83 (.nilFunc) := ⟨Try.zeroValue83⟩
instance : TyConc Try.prog 83 := ⟨fun x w => by simp [Instr.makeInterface]⟩
instance : TyOne Try.prog 84 := ⟨Try.isAgg84, Try.sizeOf84⟩
instance : TyZero Try.prog 84 (.nilFunc) := ⟨Try.zeroValue84⟩
instance : TyConc Try.prog 84 := ⟨fun x w => by simp [Instr.makeInterface]⟩
instance : TyOne Try.prog 85 := ⟨Try.isAgg85, Try.sizeOf85⟩
instance : TyZero Try.prog 85 (.int .u64 0) := ⟨Try.zeroValue85⟩
instance : TyUnder Try.prog 85 (.int .u64) := ⟨Try.underlying85⟩
instance : TyConc Try.prog 85 := ⟨fun x w => by simp [Instr.makeInterface]⟩
instance : TyOne Try.prog 86 := ⟨Try.isAgg86, Try.sizeOf86⟩
instance : TyZero Try.prog 86 (.nilFunc) := ⟨Try.zeroValue86⟩
instance : TyConc Try.prog 86 := ⟨fun x w => by simp [Instr.makeInterface]⟩
instance : TyOne Try.prog 87 := ⟨Try.isAgg87, Try.sizeOf87⟩
instance : TyZero Try.prog 87 (.nilFunc) := ⟨Try.zeroValue87⟩
instance : TyConc Try.prog 87 := ⟨fun x w => by simp [Instr.makeInterface]⟩
instance : TyOne Try.prog 88 := ⟨Try.isAgg88, Try.sizeOf88⟩
instance : TyZero Try.prog 88 (.nilFunc) := ⟨Try.zeroValue88⟩
instance : TyConc Try.prog 88 := ⟨fun x w => by simp [Instr.makeInterface]⟩
instance : TyOne Try.prog 89 := ⟨Try.isAgg89, Try.sizeOf89⟩
instance : TyZero Try.prog 89 (.pointer none) := ⟨Try.zeroValue89⟩
instance : TyUnder Try.prog 89 (.pointer 3) := ⟨Try.underlying89⟩
instance : TyConc Try.prog 89 := ⟨fun x w => by simp [Instr.makeInterface]⟩
instance : TyOne Try.prog 90 := ⟨Try.isAgg90, Try.sizeOf90⟩
instance : TyZero Try.prog 90 (.nilFunc) := ⟨Try.zeroValue90⟩
instance : TyConc Try.prog 90 := ⟨fun x w => by simp [Instr.makeInterface]⟩
instance : TyOne Try.prog 91 := ⟨Try.isAgg91, Try.sizeOf91⟩
instance : TyZero Try.prog 91 (.pointer none) := ⟨Try.zeroValue91⟩
instance : TyUnder Try.prog 91 (.pointer 85) := ⟨Try.underlying91⟩
instance : TyConc Try.prog 91 := ⟨fun x w => by simp [Instr.makeInterface]⟩
instance : TyOne Try.prog 93 := ⟨Try.isAgg93, Try.sizeOf93⟩
instance : TyZero Try.prog 93 (.nilFunc) := ⟨Try.zeroValue93⟩
instance : TyConc Try.prog 93 := ⟨fun x w => by simp [Instr.makeInterface]⟩
instance : TyOne Try.prog 94 := ⟨Try.isAgg94, Try.sizeOf94⟩
instance : TyZero Try.prog 94 (.nilFunc) := ⟨Try.zeroValue94⟩
instance : TyConc Try.prog 94 := ⟨fun x w => by simp [Instr.makeInterface]⟩
instance : TyAgg Try.prog 95 4 := ⟨Try.isAgg95, Try.sizeOf95⟩
instance : TyZero Try.prog 95 (.agg #[.pointer none, .pointer none, .pointer none, .string ⟨#[]⟩]) := ⟨Try.zeroValue95⟩
instance : TyConc Try.prog 95 := ⟨fun x w => by simp [Instr.makeInterface]⟩
instance : TyField Try.prog 95 0 0 := tyField_mk Try.underlying95 rfl rfl Try.sizeOf17 (by decide)
instance : TyField Try.prog 95 1 1 := tyField_mk Try.underlying95 rfl rfl Try.sizeOf17 (by decide)
instance : TyField Try.prog 95 2 2 := tyField_mk Try.underlying95 rfl rfl Try.sizeOf17 (by decide)
instance : TyField Try.prog 95 3 3 := tyField_mk Try.underlying95 rfl rfl Try.sizeOf9 (by decide)
instance : TyStruct Try.prog 95 [.pointer none, .pointer none, .pointer none, .string ⟨#[]⟩] [(0, 1), (1, 1), (2, 1), (3, 1)] := ⟨fun ps w => by simp [Instr.build, Value.cells]; generalize Instr.fill _ _ _ = z; cases z <;> rfl⟩
instance : TyAgg Try.prog 96 4 := ⟨Try.isAgg96, Try.sizeOf96⟩
instance : TyZero Try.prog 96 (.agg #[.pointer none, .pointer none, .pointer none, .string ⟨#[]⟩]) := ⟨Try.zeroValue96⟩
instance : TyConc Try.prog 96 := ⟨fun x w => by simp [Instr.makeInterface]⟩
instance : TyField Try.prog 96 0 0 := tyField_mk Try.underlying96 rfl rfl Try.sizeOf17 (by decide)
instance : TyField Try.prog 96 1 1 := tyField_mk Try.underlying96 rfl rfl Try.sizeOf17 (by decide)
instance : TyField Try.prog 96 2 2 := tyField_mk Try.underlying96 rfl rfl Try.sizeOf17 (by decide)
instance : TyField Try.prog 96 3 3 := tyField_mk Try.underlying96 rfl rfl Try.sizeOf9 (by decide)
instance : TyStruct Try.prog 96 [.pointer none, .pointer none, .pointer none, .string ⟨#[]⟩] [(0, 1), (1, 1), (2, 1), (3, 1)] := ⟨fun ps w => by simp [Instr.build, Value.cells]; generalize Instr.fill _ _ _ = z; cases z <;> rfl⟩
instance : TyZero Try.prog 97 (.agg #[]) := ⟨Try.zeroValue97⟩
instance : TyUnder Try.prog 97 (.array 0 16) := ⟨Try.underlying97⟩
instance : TyConc Try.prog 97 := ⟨fun x w => by simp [Instr.makeInterface]⟩
instance : TyZero Try.prog 98 (.agg #[]) := ⟨Try.zeroValue98⟩
instance : TyConc Try.prog 98 := ⟨fun x w => by simp [Instr.makeInterface]⟩
instance : TyZero Try.prog 99 (.agg #[]) := ⟨Try.zeroValue99⟩
instance : TyConc Try.prog 99 := ⟨fun x w => by simp [Instr.makeInterface]⟩
instance : TyOne Try.prog 100 := ⟨Try.isAgg100, Try.sizeOf100⟩
instance : TyZero Try.prog 100 (.nilFunc) := ⟨Try.zeroValue100⟩
instance : TyConc Try.prog 100 := ⟨fun x w => by simp [Instr.makeInterface]⟩
instance : TyOne Try.prog 101 := ⟨Try.isAgg101, Try.sizeOf101⟩
instance : TyZero Try.prog 101 (.int .u8 0) := ⟨Try.zeroValue101⟩
instance : TyUnder Try.prog 101 (.int .u8) := ⟨Try.underlying101⟩
instance : TyConc Try.prog 101 := ⟨fun x w => by simp [Instr.makeInterface]⟩
instance : TyOne Try.prog 102 := ⟨Try.isAgg102, Try.sizeOf102⟩
instance : TyZero Try.prog 102 (.int .u8 0) := ⟨Try.zeroValue102⟩
instance : TyUnder Try.prog 102 (.int .u8) := ⟨Try.underlying102⟩
instance : TyConc Try.prog 102 := ⟨fun x w => by simp [Instr.makeInterface]⟩
instance : TyOne Try.prog 104 := ⟨Try.isAgg104, Try.sizeOf104⟩
instance : TyZero Try.prog 104 (.pointer none) := ⟨Try.zeroValue104⟩
instance : TyUnder Try.prog 104 (.pointer 5) := ⟨Try.underlying104⟩
instance : TyConc Try.prog 104 := ⟨fun x w => by simp [Instr.makeInterface]⟩
instance : TyOne Try.prog 105 := ⟨Try.isAgg105, Try.sizeOf105⟩
instance : TyZero Try.prog 105 (.int .i32 0) := ⟨Try.zeroValue105⟩
instance : TyUnder Try.prog 105 (.int .i32) := ⟨Try.underlying105⟩
instance : TyConc Try.prog 105 := ⟨fun x w => by simp [Instr.makeInterface]⟩
instance : TyOne Try.prog 106 := ⟨Try.isAgg106, Try.sizeOf106⟩
instance : TyZero Try.prog 106 (.int .i32 0) := ⟨Try.zeroValue106⟩
instance : TyUnder Try.prog 106 (.int .i32) := ⟨Try.underlying106⟩
instance : TyConc Try.prog 106 := ⟨fun x w => by simp [Instr.makeInterface]⟩
instance : TyAgg Try.prog 108 11 := ⟨Try.isAgg108, Try.sizeOf108⟩
instance : TyZero Try.prog 108 (.agg #[.int .u64 0, .int .u64 0, .int .u32 0, .int .u8 0, .int .u8 0, .int .u8 0, .int .u8 0, .nilFunc, .pointer none, .int .i32 0, .int .i32 0]) := ⟨Try.zeroValue108⟩
instance : TyConc Try.prog 108 := ⟨fun x w => by simp [Instr.makeInterface]⟩
instance : TyField Try.prog 108 0 0 := tyField_mk Try.underlying108 rfl rfl Try.sizeOf12 (by decide)
instance : TyField Try.prog 108 1 1 := tyField_mk Try.underlying108 rfl rfl Try.sizeOf12 (by decide)
instance : TyField Try.prog 108 2 2 := tyField_mk Try.underlying108 rfl rfl Try.sizeOf37 (by decide)
instance : TyField Try.prog 108 3 3 := tyField_mk Try.underlying108 rfl rfl Try.sizeOf101 (by decide)
instance : TyField Try.prog 108 4 4 := tyField_mk Try.underlying108 rfl rfl Try.sizeOf5 (by decide)
instance : TyField Try.prog 108 5 5 := tyField_mk Try.underlying108 rfl rfl Try.sizeOf5 (by decide)
instance : TyField Try.prog 108 6 6 := tyField_mk Try.underlying108 rfl rfl Try.sizeOf102 (by decide)
instance : TyField Try.prog 108 7 7 := tyField_mk Try.underlying108 rfl rfl Try.sizeOf103 (by decide)
instance : TyField Try.prog 108 8 8 := tyField_mk Try.underlying108 rfl rfl Try.sizeOf104 (by decide)
instance : TyField Try.prog 108 9 9 := tyField_mk Try.underlying108 rfl rfl Try.sizeOf105 (by decide)
instance : TyField Try.prog 108 10 10 := tyField_mk Try.underlying108 rfl rfl Try.sizeOf106 (by decide)
instance : TyStruct Try.prog 108 [.int .u64 0, .int .u64 0, .int .u32 0, .int .u8 0, .int .u8 0, .int .u8 0, .int .u8 0, .nilFunc, .pointer none, .int .i32 0, .int .i32 0] [(0, 1), (1, 1), (2, 1), (3, 1), (4, 1), (5, 1), (6, 1), (7, 1), (8, 1), (9, 1), (10, 1)] := ⟨fun ps w => by simp [Instr.build, Value.cells]; generalize Instr.fill _ _ _ = z; cases z <;> rfl⟩
instance : TyCall Try.prog 3 := ⟨Try.call3⟩
instance : TyCall Try.prog 4 := ⟨Try.call4⟩
instance : TyCall Try.prog 5 := ⟨Try.call5⟩
instance : TyCall Try.prog 6 := ⟨Try.call6⟩
instance : TyCall Try.prog 7 := ⟨Try.call7⟩
instance : TyCall Try.prog 8 := ⟨Try.call8⟩
instance : TyCall Try.prog 9 := ⟨Try.call9⟩
instance : TyCall Try.prog 10 := ⟨Try.call10⟩
instance : TyCall Try.prog 11 := ⟨Try.call11⟩
instance : TyCall Try.prog 12 := ⟨Try.call12⟩
instance : TyCall Try.prog 13 := ⟨Try.call13⟩
instance : TyCall Try.prog 14 := ⟨Try.call14⟩
instance : TyCall Try.prog 15 := ⟨Try.call15⟩
instance : TyCall Try.prog 16 := ⟨Try.call16⟩
instance : TyCall Try.prog 17 := ⟨Try.call17⟩
instance : TyCall Try.prog 18 := ⟨Try.call18⟩
instance : TyCall Try.prog 19 := ⟨Try.call19⟩
instance : TyCall Try.prog 20 := ⟨Try.call20⟩
instance : TyCall Try.prog 21 := ⟨Try.call21⟩
instance : TyCall Try.prog 22 := ⟨Try.call22⟩
instance : TyCall Try.prog 23 := ⟨Try.call23⟩
instance : TyCall Try.prog 24 := ⟨Try.call24⟩
instance : TyCall Try.prog 25 := ⟨Try.call25⟩
instance : TyCall Try.prog 26 := ⟨Try.call26⟩
instance : TyCall Try.prog 27 := ⟨Try.call27⟩
instance : TyCall Try.prog 28 := ⟨Try.call28⟩
instance : TyCall Try.prog 29 := ⟨Try.call29⟩
instance : TyCall Try.prog 30 := ⟨Try.call30⟩
instance : TyCall Try.prog 31 := ⟨Try.call31⟩
instance : TyCall Try.prog 32 := ⟨Try.call32⟩
instance : TyCall Try.prog 33 := ⟨Try.call33⟩
instance : TyCall Try.prog 34 := ⟨Try.call34⟩
instance : TyCall Try.prog 35 := ⟨Try.call35⟩
instance : TyCall Try.prog 36 := ⟨Try.call36⟩
instance : TyCall Try.prog 37 := ⟨Try.call37⟩
instance : TyCall Try.prog 38 := ⟨Try.call38⟩
instance : TyCall Try.prog 39 := ⟨Try.call39⟩
instance : TyCall Try.prog 40 := ⟨Try.call40⟩
instance : TyCall Try.prog 41 := ⟨Try.call41⟩
instance : TyCall Try.prog 42 := ⟨Try.call42⟩
instance : TyCall Try.prog 43 := ⟨Try.call43⟩
instance : TyCall Try.prog 44 := ⟨Try.call44⟩
instance : TyCall Try.prog 45 := ⟨Try.call45⟩
instance : TyCall Try.prog 46 := ⟨Try.call46⟩
instance : TyCall Try.prog 47 := ⟨Try.call47⟩
instance : TyCall Try.prog 48 := ⟨Try.call48⟩
instance : TyCall Try.prog 49 := ⟨Try.call49⟩
instance : TyCall Try.prog 50 := ⟨Try.call50⟩
instance : TyCall Try.prog 51 := ⟨Try.call51⟩
instance : TyCall Try.prog 52 := ⟨Try.call52⟩
instance : TyCall Try.prog 53 := ⟨Try.call53⟩
instance : TyCall Try.prog 54 := ⟨Try.call54⟩
instance : TyCall Try.prog 55 := ⟨Try.call55⟩
instance : TyCall Try.prog 56 := ⟨Try.call56⟩
instance : TyCall Try.prog 57 := ⟨Try.call57⟩
instance : TyCall Try.prog 58 := ⟨Try.call58⟩
instance : TyCall Try.prog 59 := ⟨Try.call59⟩
instance : TyCall Try.prog 60 := ⟨Try.call60⟩
instance : TyCall Try.prog 61 := ⟨Try.call61⟩
instance : TyCall Try.prog 62 := ⟨Try.call62⟩
instance : TyCall Try.prog 63 := ⟨Try.call63⟩
instance : TyCall Try.prog 64 := ⟨Try.call64⟩
instance : TyMeth Try.prog 28 "Error" 80 := ⟨fun v w => by kernel_rfl⟩
end Go.Proofs.Ytjoldkfedmiciaa
