/- The seat's types and functions, as the rules of the layer ask for them: written by wip/gen/types.py. -/
import Derived.Test.YtkkbeljmloikkaaRows
import Derived.Test.YtkkbeljmloikkaaSlD
namespace Go.Proofs.Ytkkbeljmloikkaa
instance : TyOne Try.prog 1 := ⟨Try.isAgg1, Try.sizeOf1⟩
instance : TyZero Try.prog 1 (.nilFunc) := ⟨Try.zeroValue1⟩
instance : TyConc Try.prog 1 := ⟨fun x w => by simp [Instr.makeInterface]⟩
instance : TyOne Try.prog 2 := ⟨Try.isAgg2, Try.sizeOf2⟩
instance : TyZero Try.prog 2 (.int .i64 0) := ⟨Try.zeroValue2⟩
instance : TyUnder Try.prog 2 (.int .i64) := ⟨Try.underlying2⟩
instance : TyConc Try.prog 2 := ⟨fun x w => by simp [Instr.makeInterface]⟩
instance : TyOne Try.prog 3 := ⟨Try.isAgg3, Try.sizeOf3⟩
instance : TyZero Try.prog 3 (.int .i64 0) := ⟨Try.zeroValue3⟩
instance : TyUnder Try.prog 3 (.int .i64) := ⟨Try.underlying3⟩
instance : TyConc Try.prog 3 := ⟨fun x w => by simp [Instr.makeInterface]⟩
instance : TyOne Try.prog 4 := ⟨Try.isAgg4, Try.sizeOf4⟩
instance : TyZero Try.prog 4 (.bool false) := ⟨Try.zeroValue4⟩
instance : TyUnder Try.prog 4 .bool := ⟨Try.underlying4⟩
instance : TyConc Try.prog 4 := ⟨fun x w => by simp [Instr.makeInterface]⟩
instance : TyOne Try.prog 5 := ⟨Try.isAgg5, Try.sizeOf5⟩
instance : TyZero Try.prog 5 (.int .u8 0) := ⟨Try.zeroValue5⟩
instance : TyUnder Try.prog 5 (.int .u8) := ⟨Try.underlying5⟩
instance : TyConc Try.prog 5 := ⟨fun x w => by simp [Instr.makeInterface]⟩
instance : TyOne Try.prog 6 := ⟨Try.isAgg6, Try.sizeOf6⟩
instance : TyZero Try.prog 6 (.int .u8 0) := ⟨Try.zeroValue6⟩
instance : TyUnder Try.prog 6 (.int .u8) := ⟨Try.underlying6⟩
instance : TyConc Try.prog 6 := ⟨fun x w => by simp [Instr.makeInterface]⟩
instance : TyAgg Try.prog 7 4 := ⟨Try.isAgg7, Try.sizeOf7⟩
instance : TyZero Try.prog 7 (.agg #[.int .i64 0, .int .i64 0, .bool false, .int .u8 0]) := ⟨Try.zeroValue7⟩
instance : TyConc Try.prog 7 := ⟨fun x w => by simp [Instr.makeInterface]⟩
instance : TyField Try.prog 7 0 0 := tyField_mk Try.underlying7 rfl rfl Try.sizeOf2 (by decide)
instance : TyField Try.prog 7 1 1 := tyField_mk Try.underlying7 rfl rfl Try.sizeOf3 (by decide)
instance : TyField Try.prog 7 2 2 := tyField_mk Try.underlying7 rfl rfl Try.sizeOf4 (by decide)
instance : TyField Try.prog 7 3 3 := tyField_mk Try.underlying7 rfl rfl Try.sizeOf6 (by decide)
instance : TyStruct Try.prog 7 [.int .i64 0, .int .i64 0, .bool false, .int .u8 0] [(0, 1), (1, 1), (2, 1), (3, 1)] := ⟨fun ps w => by simp [Instr.build, Value.cells]; generalize Instr.fill _ _ _ = z; cases z <;> rfl⟩
instance : TyAgg Try.prog 8 4 := ⟨Try.isAgg8, Try.sizeOf8⟩
instance : TyZero Try.prog 8 (.agg #[.int .i64 0, .int .i64 0, .bool false, .int .u8 0]) := ⟨Try.zeroValue8⟩
instance : TyConc Try.prog 8 := ⟨fun x w => by simp [Instr.makeInterface]⟩
instance : TyField Try.prog 8 0 0 := tyField_mk Try.underlying8 rfl rfl Try.sizeOf2 (by decide)
instance : TyField Try.prog 8 1 1 := tyField_mk Try.underlying8 rfl rfl Try.sizeOf3 (by decide)
instance : TyField Try.prog 8 2 2 := tyField_mk Try.underlying8 rfl rfl Try.sizeOf4 (by decide)
instance : TyField Try.prog 8 3 3 := tyField_mk Try.underlying8 rfl rfl Try.sizeOf6 (by decide)
instance : TyStruct Try.prog 8 [.int .i64 0, .int .i64 0, .bool false, .int .u8 0] [(0, 1), (1, 1), (2, 1), (3, 1)] := ⟨fun ps w => by simp [Instr.build, Value.cells]; generalize Instr.fill _ _ _ = z; cases z <;> rfl⟩
instance : TyOne Try.prog 9 := ⟨Try.isAgg9, Try.sizeOf9⟩
instance : TyZero Try.prog 9 (.string ⟨#[]⟩) := ⟨Try.zeroValue9⟩
instance : TyUnder Try.prog 9 .string := ⟨Try.underlying9⟩
instance : TyConc Try.prog 9 := ⟨fun x w => by simp [Instr.makeInterface]⟩
instance : TyOne Try.prog 10 := ⟨Try.isAgg10, Try.sizeOf10⟩
instance : TyZero Try.prog 10 (.string ⟨#[]⟩) := ⟨Try.zeroValue10⟩
instance : TyUnder Try.prog 10 .string := ⟨Try.underlying10⟩
instance : TyConc Try.prog 10 := ⟨fun x w => by simp [Instr.makeInterface]⟩
instance : TyOne Try.prog 11 := ⟨Try.isAgg11, Try.sizeOf11⟩
instance : TyZero Try.prog 11 (.string ⟨#[]⟩) := ⟨Try.zeroValue11⟩
instance : TyUnder Try.prog 11 .string := ⟨Try.underlying11⟩
instance : TyConc Try.prog 11 := ⟨fun x w => by simp [Instr.makeInterface]⟩
instance : TyOne Try.prog 12 := ⟨Try.isAgg12, Try.sizeOf12⟩
instance : TyZero Try.prog 12 (.int .u64 0) := ⟨Try.zeroValue12⟩
instance : TyUnder Try.prog 12 (.int .u64) := ⟨Try.underlying12⟩
instance : TyConc Try.prog 12 := ⟨fun x w => by simp [Instr.makeInterface]⟩
instance : TyAgg Try.prog 13 2 := ⟨Try.isAgg13, Try.sizeOf13⟩
instance : TyZero Try.prog 13 (.agg #[.string ⟨#[]⟩, .int .u64 0]) := ⟨Try.zeroValue13⟩
instance : TyConc Try.prog 13 := ⟨fun x w => by simp [Instr.makeInterface]⟩
instance : TyField Try.prog 13 0 0 := tyField_mk Try.underlying13 rfl rfl Try.sizeOf9 (by decide)
instance : TyField Try.prog 13 1 1 := tyField_mk Try.underlying13 rfl rfl Try.sizeOf12 (by decide)
instance : TyStruct Try.prog 13 [.string ⟨#[]⟩, .int .u64 0] [(0, 1), (1, 1)] := ⟨fun ps w => by simp [Instr.build, Value.cells]; generalize Instr.fill _ _ _ = z; cases z <;> rfl⟩
instance : TyAgg Try.prog 14 2 := ⟨Try.isAgg14, Try.sizeOf14⟩
instance : TyZero Try.prog 14 (.agg #[.string ⟨#[]⟩, .int .u64 0]) := ⟨Try.zeroValue14⟩
instance : TyConc Try.prog 14 := ⟨fun x w => by simp [Instr.makeInterface]⟩
instance : TyField Try.prog 14 0 0 := tyField_mk Try.underlying14 rfl rfl Try.sizeOf9 (by decide)
instance : TyField Try.prog 14 1 1 := tyField_mk Try.underlying14 rfl rfl Try.sizeOf12 (by decide)
instance : TyStruct Try.prog 14 [.string ⟨#[]⟩, .int .u64 0] [(0, 1), (1, 1)] := ⟨fun ps w => by simp [Instr.build, Value.cells]; generalize Instr.fill _ _ _ = z; cases z <;> rfl⟩
instance : TyOne Try.prog 15 := ⟨Try.isAgg15, Try.sizeOf15⟩
instance : TyZero Try.prog 15 (.pointer none) := ⟨Try.zeroValue15⟩
instance : TyUnder Try.prog 15 (.pointer 105) := ⟨Try.underlying15⟩
instance : TyConc Try.prog 15 := ⟨fun x w => by simp [Instr.makeInterface]⟩
instance : TyOne Try.prog 16 := ⟨Try.isAgg16, Try.sizeOf16⟩
instance : TyZero Try.prog 16 (.pointer none) := ⟨Try.zeroValue16⟩
instance : TyUnder Try.prog 16 (.pointer 108) := ⟨Try.underlying16⟩
instance : TyConc Try.prog 16 := ⟨fun x w => by simp [Instr.makeInterface]⟩
instance : TyOne Try.prog 17 := ⟨Try.isAgg17, Try.sizeOf17⟩
instance : TyZero Try.prog 17 (.pointer none) := ⟨Try.zeroValue17⟩
instance : TyUnder Try.prog 17 (.pointer 117) := ⟨Try.underlying17⟩
instance : TyConc Try.prog 17 := ⟨fun x w => by simp [Instr.makeInterface]⟩
instance : TyAgg Try.prog 18 1 := ⟨Try.isAgg18, Try.sizeOf18⟩
instance : TyZero Try.prog 18 (.agg #[.pointer none]) := ⟨Try.zeroValue18⟩
instance : TyConc Try.prog 18 := ⟨fun x w => by simp [Instr.makeInterface]⟩
instance : TyField Try.prog 18 0 0 := tyField_mk Try.underlying18 rfl rfl Try.sizeOf17 (by decide)
instance : TyStruct Try.prog 18 [.pointer none] [(0, 1)] := ⟨fun ps w => by simp [Instr.build, Value.cells]; generalize Instr.fill _ _ _ = z; cases z <;> rfl⟩
instance : TyAgg Try.prog 19 1 := ⟨Try.isAgg19, Try.sizeOf19⟩
instance : TyZero Try.prog 19 (.agg #[.pointer none]) := ⟨Try.zeroValue19⟩
instance : TyConc Try.prog 19 := ⟨fun x w => by simp [Instr.makeInterface]⟩
instance : TyField Try.prog 19 0 0 := tyField_mk Try.underlying19 rfl rfl Try.sizeOf17 (by decide)
instance : TyStruct Try.prog 19 [.pointer none] [(0, 1)] := ⟨fun ps w => by simp [Instr.build, Value.cells]; generalize Instr.fill _ _ _ = z; cases z <;> rfl⟩
instance : TyOne Try.prog 20 := ⟨Try.isAgg20, Try.sizeOf20⟩
instance : TyZero Try.prog 20 (.nilIface) := ⟨Try.zeroValue20⟩
instance : TyOne Try.prog 21 := ⟨Try.isAgg21, Try.sizeOf21⟩
instance : TyZero Try.prog 21 (.int .i32 0) := ⟨Try.zeroValue21⟩
instance : TyUnder Try.prog 21 (.int .i32) := ⟨Try.underlying21⟩
instance : TyConc Try.prog 21 := ⟨fun x w => by simp [Instr.makeInterface]⟩
instance : TyOne Try.prog 22 := ⟨Try.isAgg22, Try.sizeOf22⟩
instance : TyZero Try.prog 22 (.slice none 0 0) := ⟨Try.zeroValue22⟩
instance : TyUnder Try.prog 22 (.slice 44) := ⟨Try.underlying22⟩
instance : TyConc Try.prog 22 := ⟨fun x w => by simp [Instr.makeInterface]⟩
instance : TyOne Try.prog 23 := ⟨Try.isAgg23, Try.sizeOf23⟩
instance : TyZero Try.prog 23 (.nilFunc) := ⟨Try.zeroValue23⟩
instance : TyConc Try.prog 23 := ⟨fun x w => by simp [Instr.makeInterface]⟩
instance : TyOne Try.prog 24 := ⟨Try.isAgg24, Try.sizeOf24⟩
instance : TyZero Try.prog 24 (.nilFunc) := ⟨Try.zeroValue24⟩
instance : TyConc Try.prog 24 := ⟨fun x w => by simp [Instr.makeInterface]⟩
instance : TyOne Try.prog 25 := ⟨Try.isAgg25, Try.sizeOf25⟩
instance : TyZero Try.prog 25 (.int .i64 0) := ⟨Try.zeroValue25⟩
instance : TyUnder Try.prog 25 (.int .i64) := ⟨Try.underlying25⟩
instance : TyConc Try.prog 25 := ⟨fun x w => by simp [Instr.makeInterface]⟩
instance : TyOne Try.prog 27 := ⟨Try.isAgg27, Try.sizeOf27⟩
instance : TyZero Try.prog 27 (.nilFunc) := ⟨Try.zeroValue27⟩
instance : TyConc Try.prog 27 := ⟨fun x w => by simp [Instr.makeInterface]⟩
instance : TyOne Try.prog 28 := ⟨Try.isAgg28, Try.sizeOf28⟩
instance : TyZero Try.prog 28 (.slice none 0 0) := ⟨Try.zeroValue28⟩
instance : TyUnder Try.prog 28 (.slice 22) := ⟨Try.underlying28⟩
instance : TyConc Try.prog 28 := ⟨fun x w => by simp [Instr.makeInterface]⟩
instance : TyOne Try.prog 30 := ⟨Try.isAgg30, Try.sizeOf30⟩
instance : TyZero Try.prog 30 (.nilFunc) := ⟨Try.zeroValue30⟩
instance : TyConc Try.prog 30 := ⟨fun x w => by simp [Instr.makeInterface]⟩
instance : TyOne Try.prog 31 := ⟨Try.isAgg31, Try.sizeOf31⟩
instance : TyZero Try.prog 31 (.nilFunc) := ⟨Try.zeroValue31⟩
instance : TyConc Try.prog 31 := ⟨fun x w => by simp [Instr.makeInterface]⟩
instance : TyOne Try.prog 32 := ⟨Try.isAgg32, Try.sizeOf32⟩
instance : TyZero Try.prog 32 (.nilFunc) := ⟨Try.zeroValue32⟩
instance : TyConc Try.prog 32 := ⟨fun x w => by simp [Instr.makeInterface]⟩
instance : TyOne Try.prog 33 := ⟨Try.isAgg33, Try.sizeOf33⟩
instance : TyZero Try.prog 33 (.nilFunc) := ⟨Try.zeroValue33⟩
instance : TyConc Try.prog 33 := ⟨fun x w => by simp [Instr.makeInterface]⟩
instance : TyOne Try.prog 34 := ⟨Try.isAgg34, Try.sizeOf34⟩
instance : TyZero Try.prog 34 (.nilFunc) := ⟨Try.zeroValue34⟩
instance : TyConc Try.prog 34 := ⟨fun x w => by simp [Instr.makeInterface]⟩
instance : TyOne Try.prog 35 := ⟨Try.isAgg35, Try.sizeOf35⟩
instance : TyZero Try.prog 35 (.nilFunc) := ⟨Try.zeroValue35⟩
instance : TyConc Try.prog 35 := ⟨fun x w => by simp [Instr.makeInterface]⟩
instance : TyOne Try.prog 36 := ⟨Try.isAgg36, Try.sizeOf36⟩
instance : TyZero Try.prog 36 (.nilFunc) := ⟨Try.zeroValue36⟩
instance : TyConc Try.prog 36 := ⟨fun x w => by simp [Instr.makeInterface]⟩
instance : TyOne Try.prog 37 := ⟨Try.isAgg37, Try.sizeOf37⟩
instance : TyZero Try.prog 37 (.nilFunc) := ⟨Try.zeroValue37⟩
instance : TyConc Try.prog 37 := ⟨fun x w => by simp [Instr.makeInterface]⟩
instance : TyOne Try.prog 38 := ⟨Try.isAgg38, Try.sizeOf38⟩
instance : TyZero Try.prog 38 (.nilFunc) := ⟨Try.zeroValue38⟩
instance : TyConc Try.prog 38 := ⟨fun x w => by simp [Instr.makeInterface]⟩
instance : TyOne Try.prog 39 := ⟨Try.isAgg39, Try.sizeOf39⟩
instance : TyZero Try.prog 39 (.int .u64 0) := ⟨Try.zeroValue39⟩
instance : TyUnder Try.prog 39 (.int .u64) := ⟨Try.underlying39⟩
instance : TyConc Try.prog 39 := ⟨fun x w => by simp [Instr.makeInterface]⟩
instance : TyOne Try.prog 40 := ⟨Try.isAgg40, Try.sizeOf40⟩
instance : TyZero Try.prog 40 (.nilFunc) := ⟨Try.zeroValue40⟩
instance : TyConc Try.prog 40 := ⟨fun x w => by simp [Instr.makeInterface]⟩
instance : TyOne Try.prog 41 := ⟨Try.isAgg41, Try.sizeOf41⟩
instance : TyZero Try.prog 41 (.nilFunc) := ⟨Try.zeroValue41⟩
instance : TyConc Try.prog 41 := ⟨fun x w => by simp [Instr.makeInterface]⟩
instance : TyOne Try.prog 42 := ⟨Try.isAgg42, Try.sizeOf42⟩
instance : TyZero Try.prog 42 (.nilFunc) := ⟨Try.zeroValue42⟩
instance : TyConc Try.prog 42 := ⟨fun x w => by simp [Instr.makeInterface]⟩
instance : TyAgg Try.prog 43 2 := ⟨Try.isAgg43, Try.sizeOf43⟩
instance : TyZero Try.prog 43 (.agg #[.int .u64 0, .int .u64 0]) := ⟨Try.zeroValue43⟩
instance : TyConc Try.prog 43 := ⟨fun x w => by simp [Instr.makeInterface]⟩
instance : TyField Try.prog 43 0 0 := tyField_mk Try.underlying43 rfl rfl Try.sizeOf39 (by decide)
instance : TyField Try.prog 43 1 1 := tyField_mk Try.underlying43 rfl rfl Try.sizeOf39 (by decide)
instance : TyStruct Try.prog 43 [.int .u64 0, .int .u64 0] [(0, 1), (1, 1)] := ⟨fun ps w => by simp [Instr.build, Value.cells]; generalize Instr.fill _ _ _ = z; cases z <;> rfl⟩
instance : TyAgg Try.prog 44 2 := ⟨Try.isAgg44, Try.sizeOf44⟩
instance : TyZero Try.prog 44 (.agg #[.int .u64 0, .int .u64 0]) := ⟨Try.zeroValue44⟩
instance : TyConc Try.prog 44 := ⟨fun x w => by simp [Instr.makeInterface]⟩
instance : TyField Try.prog 44 0 0 := tyField_mk Try.underlying44 rfl rfl Try.sizeOf39 (by decide)
instance : TyField Try.prog 44 1 1 := tyField_mk Try.underlying44 rfl rfl Try.sizeOf39 (by decide)
instance : TyStruct Try.prog 44 [.int .u64 0, .int .u64 0] [(0, 1), (1, 1)] := ⟨fun ps w => by simp [Instr.build, Value.cells]; generalize Instr.fill _ _ _ = z; cases z <;> rfl⟩
instance : TyOne Try.prog 45 := ⟨Try.isAgg45, Try.sizeOf45⟩
instance : TyZero Try.prog 45 (.nilFunc) := ⟨Try.zeroValue45⟩
instance : TyConc Try.prog 45 := ⟨fun x w => by simp [Instr.makeInterface]⟩
instance : TyOne Try.prog 46 := ⟨Try.isAgg46, Try.sizeOf46⟩
instance : TyZero Try.prog 46 (.nilFunc) := ⟨Try.zeroValue46⟩
instance : TyConc Try.prog 46 := ⟨fun x w => by simp [Instr.makeInterface]⟩
instance : TyOne Try.prog 47 := ⟨Try.isAgg47, Try.sizeOf47⟩
instance : TyZero Try.prog 47 (.nilFunc) := ⟨Try.zeroValue47⟩
instance : TyConc Try.prog 47 := ⟨fun x w => by simp [Instr.makeInterface]⟩
instance : TyOne Try.prog 48 := ⟨Try.isAgg48, Try.sizeOf48⟩
instance : TyZero Try.prog 48 (.nilFunc) := ⟨Try.zeroValue48⟩
instance : TyConc Try.prog 48 := ⟨fun x w => by simp [Instr.makeInterface]⟩
instance : TyAgg Try.prog 49 2 := ⟨Try.isAgg49, Try.sizeOf49⟩
instance : TyZero Try.prog 49 (.agg #[.int .i64 0, .slice none 0 0]) := ⟨Try.zeroValue49⟩
instance : TyConc Try.prog 49 := ⟨fun x w => by simp [Instr.makeInterface]⟩
instance : TyField Try.prog 49 0 0 := tyField_mk Try.underlying49 rfl rfl Try.sizeOf3 (by decide)
instance : TyField Try.prog 49 1 1 := tyField_mk Try.underlying49 rfl rfl Try.sizeOf22 (by decide)
instance : TyStruct Try.prog 49 [.int .i64 0, .slice none 0 0] [(0, 1), (1, 1)] := ⟨fun ps w => by simp [Instr.build, Value.cells]; generalize Instr.fill _ _ _ = z; cases z <;> rfl⟩
instance : TyAgg Try.prog 50 2 := ⟨Try.isAgg50, Try.sizeOf50⟩
instance : TyZero Try.prog 50 (.agg #[.int .i64 0, .slice none 0 0]) := ⟨Try.zeroValue50⟩
instance : TyConc Try.prog 50 := ⟨fun x w => by simp [Instr.makeInterface]⟩
instance : TyField Try.prog 50 0 0 := tyField_mk Try.underlying50 rfl rfl Try.sizeOf3 (by decide)
instance : TyField Try.prog 50 1 1 := tyField_mk Try.underlying50 rfl rfl Try.sizeOf22 (by decide)
instance : TyStruct Try.prog 50 [.int .i64 0, .slice none 0 0] [(0, 1), (1, 1)] := ⟨fun ps w => by simp [Instr.build, Value.cells]; generalize Instr.fill _ _ _ = z; cases z <;> rfl⟩
instance : TyOne Try.prog 51 := ⟨Try.isAgg51, Try.sizeOf51⟩
instance : TyZero Try.prog 51 (.nilFunc) := ⟨Try.zeroValue51⟩
instance : TyConc Try.prog 51 := ⟨fun x w => by simp [Instr.makeInterface]⟩
instance : TyOne Try.prog 52 := ⟨Try.isAgg52, Try.sizeOf52⟩
instance : TyZero Try.prog 52 (.nilFunc) := ⟨Try.zeroValue52⟩
instance : TyConc Try.prog 52 := ⟨fun x w => by simp [Instr.makeInterface]⟩
instance : TyOne Try.prog 53 := ⟨Try.isAgg53, Try.sizeOf53⟩
instance : TyZero Try.prog 53 (.nilFunc) := ⟨Try.zeroValue53⟩
instance : TyConc Try.prog 53 := ⟨fun x w => by simp [Instr.makeInterface]⟩
instance : TyOne Try.prog 54 := ⟨Try.isAgg54, Try.sizeOf54⟩
instance : TyZero Try.prog 54 (.nilFunc) := ⟨Try.zeroValue54⟩
instance : TyConc Try.prog 54 := ⟨fun x w => by simp [Instr.makeInterface]⟩
instance : TyOne Try.prog 55 := ⟨Try.isAgg55, Try.sizeOf55⟩
instance : TyZero Try.prog 55 (.nilFunc) := ⟨Try.zeroValue55⟩
instance : TyConc Try.prog 55 := ⟨fun x w => by simp [Instr.makeInterface]⟩
instance : TyOne Try.prog 56 := ⟨Try.isAgg56, Try.sizeOf56⟩
instance : TyZero Try.prog 56 (.nilFunc) := ⟨Try.zeroValue56⟩
instance : TyConc Try.prog 56 := ⟨fun x w => by simp [Instr.makeInterface]⟩
instance : TyOne Try.prog 57 := ⟨Try.isAgg57, Try.sizeOf57⟩
instance : TyZero Try.prog 57 (.nilFunc) := ⟨Try.zeroValue57⟩
instance : TyConc Try.prog 57 := ⟨fun x w => by simp [Instr.makeInterface]⟩
instance : TyOne Try.prog 58 := ⟨Try.isAgg58, Try.sizeOf58⟩
instance : TyZero Try.prog 58 (.nilFunc) := ⟨Try.zeroValue58⟩
instance : TyConc Try.prog 58 := ⟨fun x w => by simp [Instr.makeInterface]⟩
instance : TyOne Try.prog 59 := ⟨Try.isAgg59, Try.sizeOf59⟩
instance : TyZero Try.prog 59 (.nilFunc) := ⟨Try.zeroValue59⟩
instance : TyConc Try.prog 59 := ⟨fun x w => by simp [Instr.makeInterface]⟩
instance : TyOne Try.prog 60 := ⟨Try.isAgg60, Try.sizeOf60⟩
instance : TyZero Try.prog 60 (.slice none 0 0) := ⟨Try.zeroValue60⟩
instance : TyUnder Try.prog 60 (.slice 65) := ⟨Try.underlying60⟩
instance : TyConc Try.prog 60 := ⟨fun x w => by simp [Instr.makeInterface]⟩
instance : TyAgg Try.prog 61 1 := ⟨Try.isAgg61, Try.sizeOf61⟩
instance : TyZero Try.prog 61 (.agg #[.slice none 0 0]) := ⟨Try.zeroValue61⟩
instance : TyConc Try.prog 61 := ⟨fun x w => by simp [Instr.makeInterface]⟩
instance : TyField Try.prog 61 0 0 := tyField_mk Try.underlying61 rfl rfl Try.sizeOf60 (by decide)
instance : TyStruct Try.prog 61 [.slice none 0 0] [(0, 1)] := ⟨fun ps w => by simp [Instr.build, Value.cells]; generalize Instr.fill _ _ _ = z; cases z <;> rfl⟩
instance : TyAgg Try.prog 62 1 := ⟨Try.isAgg62, Try.sizeOf62⟩
instance : TyZero Try.prog 62 (.agg #[.slice none 0 0]) := ⟨Try.zeroValue62⟩
instance : TyConc Try.prog 62 := ⟨fun x w => by simp [Instr.makeInterface]⟩
instance : TyField Try.prog 62 0 0 := tyField_mk Try.underlying62 rfl rfl Try.sizeOf60 (by decide)
instance : TyStruct Try.prog 62 [.slice none 0 0] [(0, 1)] := ⟨fun ps w => by simp [Instr.build, Value.cells]; generalize Instr.fill _ _ _ = z; cases z <;> rfl⟩
instance : TyOne Try.prog 63 := ⟨Try.isAgg63, Try.sizeOf63⟩
instance : TyZero Try.prog 63 (.nilFunc) := ⟨Try.zeroValue63⟩
instance : TyConc Try.prog 63 := ⟨fun x w => by simp [Instr.makeInterface]⟩
instance : TyAgg Try.prog 64 3 := ⟨Try.isAgg64, Try.sizeOf64⟩
instance : TyZero Try.prog 64 (.agg #[.int .u64 0, .int .u64 0, .int .i64 0]) := ⟨Try.zeroValue64⟩
instance : TyConc Try.prog 64 := ⟨fun x w => by simp [Instr.makeInterface]⟩
instance : TyField Try.prog 64 0 0 := tyField_mk Try.underlying64 rfl rfl Try.sizeOf44 (by decide)
instance : TyField Try.prog 64 1 2 := tyField_mk Try.underlying64 rfl rfl Try.sizeOf3 (by decide)
instance : TyStruct Try.prog 64 [.int .u64 0, .int .u64 0, .int .i64 0] [(0, 2), (2, 1)] := ⟨fun ps w => by simp [Instr.build, Value.cells]; generalize Instr.fill _ _ _ = z; cases z <;> rfl⟩
instance : TyAgg Try.prog 65 3 := ⟨Try.isAgg65, Try.sizeOf65⟩
instance : TyZero Try.prog 65 (.agg #[.int .u64 0, .int .u64 0, .int .i64 0]) := ⟨Try.zeroValue65⟩
instance : TyConc Try.prog 65 := ⟨fun x w => by simp [Instr.makeInterface]⟩
instance : TyField Try.prog 65 0 0 := tyField_mk Try.underlying65 rfl rfl Try.sizeOf44 (by decide)
instance : TyField Try.prog 65 1 2 := tyField_mk Try.underlying65 rfl rfl Try.sizeOf3 (by decide)
instance : TyStruct Try.prog 65 [.int .u64 0, .int .u64 0, .int .i64 0] [(0, 2), (2, 1)] := ⟨fun ps w => by simp [Instr.build, Value.cells]; generalize Instr.fill _ _ _ = z; cases z <;> rfl⟩
instance : TyOne Try.prog 66 := ⟨Try.isAgg66, Try.sizeOf66⟩
instance : TyZero Try.prog 66 (.nilFunc) := ⟨Try.zeroValue66⟩
instance : TyConc Try.prog 66 := ⟨fun x w => by simp [Instr.makeInterface]⟩
instance : TyOne Try.prog 68 := ⟨Try.isAgg68, Try.sizeOf68⟩
instance : TyZero Try.prog 68 (.nilFunc) := ⟨Try.zeroValue68⟩
instance : TyConc Try.prog 68 := ⟨fun x w => by simp [Instr.makeInterface]⟩
instance : TyOne Try.prog 70 := ⟨Try.isAgg70, Try.sizeOf70⟩
instance : TyZero Try.prog 70 (.nilFunc) := ⟨Try.zeroValue70⟩
instance : TyConc Try.prog 70 := ⟨fun x w => by simp [Instr.makeInterface]⟩
instance : TyOne Try.prog 71 := ⟨Try.isAgg71, Try.sizeOf71⟩
instance : TyZero Try.prog 71 (.nilFunc) := ⟨Try.zeroValue71⟩
instance : TyConc Try.prog 71 := ⟨fun x w => by simp [Instr.makeInterface]⟩
instance : TyOne Try.prog 72 := ⟨Try.isAgg72, Try.sizeOf72⟩
instance : TyZero Try.prog 72 (.nilFunc) := ⟨Try.zeroValue72⟩
instance : TyConc Try.prog 72 := ⟨fun x w => by simp [Instr.makeInterface]⟩
instance : TyOne Try.prog 73 := ⟨Try.isAgg73, Try.sizeOf73⟩
instance : TyZero Try.prog 73 (.nilFunc) := ⟨Try.zeroValue73⟩
instance : TyConc Try.prog 73 := ⟨fun x w => by simp [Instr.makeInterface]⟩
instance : TyOne Try.prog 74 := ⟨Try.isAgg74, Try.sizeOf74⟩
instance : TyZero Try.prog 74 (.nilFunc) := ⟨Try.zeroValue74⟩
instance : TyConc Try.prog 74 := ⟨fun x w => by simp [Instr.makeInterface]⟩
instance : TyOne Try.prog 75 := ⟨Try.isAgg75, Try.sizeOf75⟩
instance : TyZero Try.prog 75 (.pointer none) := ⟨Try.zeroValue75⟩
instance : TyUnder Try.prog 75 (.pointer 50) := ⟨Try.underlying75⟩
instance : TyConc Try.prog 75 := ⟨fun x w => by simp [Instr.makeInterface]⟩
instance : TyOne Try.prog 76 := ⟨Try.isAgg76, Try.sizeOf76⟩
instance : TyZero Try.prog 76 (.pointer none) := ⟨Try.zeroValue76⟩
instance : TyUnder Try.prog 76 (.pointer 62) := ⟨Try.underlying76⟩
instance : TyConc Try.prog 76 := ⟨fun x w => by simp [Instr.makeInterface]⟩
instance : TyOne Try.prog 77 := ⟨Try.isAgg77, Try.sizeOf77⟩
instance : TyZero Try.prog 77 (.nilFunc) := ⟨Try.zeroValue77⟩
instance : TyConc Try.prog 77 := ⟨fun x w => by simp [Instr.makeInterface]⟩
instance : TyOne Try.prog 78 := ⟨Try.isAgg78, Try.sizeOf78⟩
instance : TyZero Try.prog 78 (.nilFunc) := ⟨Try.zeroValue78⟩
instance : TyConc Try.prog 78 := ⟨fun x w => by simp [Instr.makeInterface]⟩
instance : TyOne Try.prog 79 := ⟨Try.isAgg79, Try.sizeOf79⟩
instance : TyZero Try.prog 79 (.nilFunc) := ⟨Try.zeroValue79⟩
instance : TyConc Try.prog 79 := ⟨fun x w => by simp [Instr.makeInterface]⟩
instance : TyOne Try.prog 80 := ⟨Try.isAgg80, Try.sizeOf80⟩
instance : TyZero Try.prog 80 (.nilFunc) := ⟨Try.zeroValue80⟩
instance : TyConc Try.prog 80 := ⟨fun x w => by simp [Instr.makeInterface]⟩
instance : TyOne Try.prog 81 := ⟨Try.isAgg81, Try.sizeOf81⟩
instance : TyZero Try.prog 81 (.nilFunc) := ⟨Try.zeroValue81⟩
instance : TyConc Try.prog 81 := ⟨fun x w => by simp [Instr.makeInterface]⟩
instance : TyOne Try.prog 82 := ⟨Try.isAgg82, Try.sizeOf82⟩
instance : TyZero Try.prog 82 (.int .u64 0) := ⟨Try.zeroValue82⟩
instance : TyUnder Try.prog 82 (.int .u64) := ⟨Try.underlying82⟩
instance : TyConc Try.prog 82 := ⟨fun x w => by simp [Instr.makeInterface]⟩
instance : TyOne Try.prog 83 := ⟨Try.isAgg83, Try.sizeOf83⟩
instance : TyZero Try.prog 83 (.nilFunc) := ⟨Try.zeroValue83⟩
instance : TyConc Try.prog 83 := ⟨fun x w => by simp [Instr.makeInterface]⟩
instance : TyOne Try.prog 84 := ⟨Try.isAgg84, Try.sizeOf84⟩
instance : TyZero Try.prog 84 (.int .i64 0) := ⟨Try.zeroValue84⟩
instance : TyUnder Try.prog 84 (.int .i64) := ⟨Try.underlying84⟩
instance : TyConc Try.prog 84 := ⟨fun x w => by simp [Instr.makeInterface]⟩
instance : TyOne Try.prog 86 := ⟨Try.isAgg86, Try.sizeOf86⟩
instance : TyZero Try.prog 86 (.nilFunc) := ⟨Try.zeroValue86⟩
instance : TyConc Try.prog 86 := ⟨fun x w => by simp [Instr.makeInterface]⟩
instance : TyOne Try.prog 87 := ⟨Try.isAgg87, Try.sizeOf87⟩
instance : TyZero Try.prog 87 (.nilFunc) := ⟨Try.zeroValue87⟩
instance : TyConc Try.prog 87 := ⟨fun x w => by simp [Instr.makeInterface]⟩
instance : TyOne Try.prog 88 := ⟨Try.isAgg88, Try.sizeOf88⟩
instance : TyZero Try.prog 88 (.nilFunc) := ⟨Try.zeroValue88⟩
instance : TyConc Try.prog 88 := ⟨fun x w => by simp [Instr.makeInterface]⟩
instance : TyOne Try.prog 90 := ⟨Try.isAgg90, Try.sizeOf90⟩
instance : TyZero Try.prog 90 (.nilFunc) := ⟨Try.zeroValue90⟩
instance : TyConc Try.prog 90 := ⟨fun x w => by simp [Instr.makeInterface]⟩
instance : TyOne Try.prog 91 := ⟨Try.isAgg91, Try.sizeOf91⟩
instance : TyZero Try.prog 91 (.nilFunc) := ⟨Try.zeroValue91⟩
instance : TyConc Try.prog 91 := ⟨fun x w => by simp [Instr.makeInterface]⟩
instance : TyOne Try.prog 92 := ⟨Try.isAgg92, Try.sizeOf92⟩
instance : TyZero Try.prog 92 (.int .u32 0) := ⟨Try.zeroValue92⟩
instance : TyUnder Try.prog 92 (.int .u32) := ⟨Try.underlying92⟩
instance : TyConc Try.prog 92 := ⟨fun x w => by simp [Instr.makeInterface]⟩
instance : TyOne Try.prog 93 := ⟨Try.isAgg93, Try.sizeOf93⟩
instance : TyZero Try.prog 93 (.nilFunc) := ⟨Try.zeroValue93⟩
instance : TyConc Try.prog 93 := ⟨fun x w => by simp [Instr.makeInterface]⟩
instance : TyOne Try.prog 94 := ⟨Try.isAgg94, Try.sizeOf94⟩
instance : TyZero Try.prog 94 (.int .u64 0) := ⟨Try.zeroValue94⟩
instance : TyUnder Try.prog 94 (.int .u64) := ⟨Try.underlying94⟩
instance : TyConc Try.prog 94 := ⟨fun x w => by simp [Instr.makeInterface]⟩
instance : TyOne Try.prog 95 := ⟨Try.isAgg95, Try.sizeOf95⟩
instance : TyZero Try.prog 95 (.nilFunc) := ⟨Try.zeroValue95⟩
instance : TyConc Try.prog 95 := ⟨fun x w => by simp [Instr.makeInterface]⟩
instance : TyOne Try.prog 96 := ⟨Try.isAgg96, Try.sizeOf96⟩
instance : TyZero Try.prog 96 (.nilFunc) := ⟨Try.zeroValue96⟩
instance : TyConc Try.prog 96 := ⟨fun x w => by simp [Instr.makeInterface]⟩
instance : TyOne Try.prog 97 := ⟨Try.isAgg97, Try.sizeOf97⟩
instance : TyZero Try.prog 97 (.nilFunc) := ⟨Try.zeroValue97⟩
instance : TyConc Try.prog 97 := ⟨fun x w => by simp [Instr.makeInterface]⟩
instance : TyOne Try.prog 98 := ⟨Try.isAgg98, Try.sizeOf98⟩
instance : TyZero Try.prog 98 (.pointer none) := ⟨Try.zeroValue98⟩
instance : TyUnder Try.prog 98 (.pointer 3) := ⟨Try.underlying98⟩
instance : TyConc Try.prog 98 := ⟨fun x w => by simp [Instr.makeInterface]⟩
instance : TyOne Try.prog 99 := ⟨Try.isAgg99, Try.sizeOf99⟩
instance : TyZero Try.prog 99 (.nilFunc) := ⟨Try.zeroValue99⟩
instance : TyConc Try.prog 99 := ⟨fun x w => by simp [Instr.makeInterface]⟩
instance : TyOne Try.prog 100 := ⟨Try.isAgg100, Try.sizeOf100⟩
instance : TyZero Try.prog 100 (.pointer none) := ⟨Try.zeroValue100⟩
instance : TyUnder Try.prog 100 (.pointer 94) := ⟨Try.underlying100⟩
instance : TyConc Try.prog 100 := ⟨fun x w => by simp [Instr.makeInterface]⟩
instance : TyOne Try.prog 102 := ⟨Try.isAgg102, Try.sizeOf102⟩
instance : TyZero Try.prog 102 (.nilFunc) := ⟨Try.zeroValue102⟩
instance : TyConc Try.prog 102 := ⟨fun x w => by simp [Instr.makeInterface]⟩
instance : TyOne Try.prog 103 := ⟨Try.isAgg103, Try.sizeOf103⟩
instance : TyZero Try.prog 103 (.nilFunc) := ⟨Try.zeroValue103⟩
instance : TyConc Try.prog 103 := ⟨fun x w => by simp [Instr.makeInterface]⟩
instance : TyAgg Try.prog 104 4 := ⟨Try.isAgg104, Try.sizeOf104⟩
instance : TyZero Try.prog 104 (.agg #[.pointer none, .pointer none, .pointer none, .string ⟨#[]⟩]) := ⟨Try.zeroValue104⟩
instance : TyConc Try.prog 104 := ⟨fun x w => by simp [Instr.makeInterface]⟩
instance : TyField Try.prog 104 0 0 := tyField_mk Try.underlying104 rfl rfl Try.sizeOf17 (by decide)
instance : TyField Try.prog 104 1 1 := tyField_mk Try.underlying104 rfl rfl Try.sizeOf17 (by decide)
instance : TyField Try.prog 104 2 2 := tyField_mk Try.underlying104 rfl rfl Try.sizeOf17 (by decide)
instance : TyField Try.prog 104 3 3 := tyField_mk Try.underlying104 rfl rfl Try.sizeOf9 (by decide)
instance : TyStruct Try.prog 104 [.pointer none, .pointer none, .pointer none, .string ⟨#[]⟩] [(0, 1), (1, 1), (2, 1), (3, 1)] := ⟨fun ps w => by simp [Instr.build, Value.cells]; generalize Instr.fill _ _ _ = z; cases z <;> rfl⟩
instance : TyAgg Try.prog 105 4 := ⟨Try.isAgg105, Try.sizeOf105⟩
instance : TyZero Try.prog 105 (.agg #[.pointer none, .pointer none, .pointer none, .string ⟨#[]⟩]) := ⟨Try.zeroValue105⟩
instance : TyConc Try.prog 105 := ⟨fun x w => by simp [Instr.makeInterface]⟩
instance : TyField Try.prog 105 0 0 := tyField_mk Try.underlying105 rfl rfl Try.sizeOf17 (by decide)
instance : TyField Try.prog 105 1 1 := tyField_mk Try.underlying105 rfl rfl Try.sizeOf17 (by decide)
instance : TyField Try.prog 105 2 2 := tyField_mk Try.underlying105 rfl rfl Try.sizeOf17 (by decide)
instance : TyField Try.prog 105 3 3 := tyField_mk Try.underlying105 rfl rfl Try.sizeOf9 (by decide)
instance : TyStruct Try.prog 105 [.pointer none, .pointer none, .pointer none, .string ⟨#[]⟩] [(0, 1), (1, 1), (2, 1), (3, 1)] := ⟨fun ps w => by simp [Instr.build, Value.cells]; generalize Instr.fill _ _ _ = z; cases z <;> rfl⟩
instance : TyZero Try.prog 106 (.agg #[]) := ⟨Try.zeroValue106⟩
instance : TyUnder Try.prog 106 (.array 0 16) := ⟨Try.underlying106⟩
instance : TyConc Try.prog 106 := ⟨fun x w => by simp [Instr.makeInterface]⟩
instance : TyZero Try.prog 107 (.agg #[]) := ⟨Try.zeroValue107⟩
instance : TyConc Try.prog 107 := ⟨fun x w => by simp [Instr.makeInterface]⟩
instance : TyZero Try.prog 108 (.agg #[]) := ⟨Try.zeroValue108⟩
instance : TyConc Try.prog 108 := ⟨fun x w => by simp [Instr.makeInterface]⟩
instance : TyOne Try.prog 109 := ⟨Try.isAgg109, Try.sizeOf109⟩
instance : TyZero Try.prog 109 (.nilFunc) := ⟨Try.zeroValue109⟩
instance : TyConc Try.prog 109 := ⟨fun x w => by simp [Instr.makeInterface]⟩
instance : TyOne Try.prog 110 := ⟨Try.isAgg110, Try.sizeOf110⟩
instance : TyZero Try.prog 110 (.int .u8 0) := ⟨Try.zeroValue110⟩
instance : TyUnder Try.prog 110 (.int .u8) := ⟨Try.underlying110⟩
instance : TyConc Try.prog 110 := ⟨fun x w => by simp [Instr.makeInterface]⟩
instance : TyOne Try.prog 111 := ⟨Try.isAgg111, Try.sizeOf111⟩
instance : TyZero Try.prog 111 (.int .u8 0) := ⟨Try.zeroValue111⟩
instance : TyUnder Try.prog 111 (.int .u8) := ⟨Try.underlying111⟩
instance : TyConc Try.prog 111 := ⟨fun x w => by simp [Instr.makeInterface]⟩
instance : TyOne Try.prog 113 := ⟨Try.isAgg113, Try.sizeOf113⟩
instance : TyZero Try.prog 113 (.pointer none) := ⟨Try.zeroValue113⟩
instance : TyUnder Try.prog 113 (.pointer 5) := ⟨Try.underlying113⟩
instance : TyConc Try.prog 113 := ⟨fun x w => by simp [Instr.makeInterface]⟩
instance : TyOne Try.prog 114 := ⟨Try.isAgg114, Try.sizeOf114⟩
instance : TyZero Try.prog 114 (.int .i32 0) := ⟨Try.zeroValue114⟩
instance : TyUnder Try.prog 114 (.int .i32) := ⟨Try.underlying114⟩
instance : TyConc Try.prog 114 := ⟨fun x w => by simp [Instr.makeInterface]⟩
instance : TyOne Try.prog 115 := ⟨Try.isAgg115, Try.sizeOf115⟩
instance : TyZero Try.prog 115 (.int .i32 0) := ⟨Try.zeroValue115⟩
instance : TyUnder Try.prog 115 (.int .i32) := ⟨Try.underlying115⟩
instance : TyConc Try.prog 115 := ⟨fun x w => by simp [Instr.makeInterface]⟩
instance : TyAgg Try.prog 117 11 := ⟨Try.isAgg117, Try.sizeOf117⟩
instance : TyZero Try.prog 117 (.agg #[.int .u64 0, .int .u64 0, .int .u32 0, .int .u8 0, .int .u8 0, .int .u8 0, .int .u8 0, .nilFunc, .pointer none, .int .i32 0, .int .i32 0]) := ⟨Try.zeroValue117⟩
instance : TyConc Try.prog 117 := ⟨fun x w => by simp [Instr.makeInterface]⟩
instance : TyField Try.prog 117 0 0 := tyField_mk Try.underlying117 rfl rfl Try.sizeOf12 (by decide)
instance : TyField Try.prog 117 1 1 := tyField_mk Try.underlying117 rfl rfl Try.sizeOf12 (by decide)
instance : TyField Try.prog 117 2 2 := tyField_mk Try.underlying117 rfl rfl Try.sizeOf92 (by decide)
instance : TyField Try.prog 117 3 3 := tyField_mk Try.underlying117 rfl rfl Try.sizeOf110 (by decide)
instance : TyField Try.prog 117 4 4 := tyField_mk Try.underlying117 rfl rfl Try.sizeOf5 (by decide)
instance : TyField Try.prog 117 5 5 := tyField_mk Try.underlying117 rfl rfl Try.sizeOf5 (by decide)
instance : TyField Try.prog 117 6 6 := tyField_mk Try.underlying117 rfl rfl Try.sizeOf111 (by decide)
instance : TyField Try.prog 117 7 7 := tyField_mk Try.underlying117 rfl rfl Try.sizeOf112 (by decide)
instance : TyField Try.prog 117 8 8 := tyField_mk Try.underlying117 rfl rfl Try.sizeOf113 (by decide)
instance : TyField Try.prog 117 9 9 := tyField_mk Try.underlying117 rfl rfl Try.sizeOf114 (by decide)
instance : TyField Try.prog 117 10 10 := tyField_mk Try.underlying117 rfl rfl Try.sizeOf115 (by decide)
instance : TyStruct Try.prog 117 [.int .u64 0, .int .u64 0, .int .u32 0, .int .u8 0, .int .u8 0, .int .u8 0, .int .u8 0, .nilFunc, .pointer none, .int .i32 0, .int .i32 0] [(0, 1), (1, 1), (2, 1), (3, 1), (4, 1), (5, 1), (6, 1), (7, 1), (8, 1), (9, 1), (10, 1)] := ⟨fun ps w => by simp [Instr.build, Value.cells]; generalize Instr.fill _ _ _ = z; cases z <;> rfl⟩
instance : TyCall Try.prog 3 := ⟨Try.call3⟩
instance : TyCall Try.prog 4 := ⟨Try.call4⟩
instance : TyCall Try.prog 5 := ⟨Try.call5⟩
instance : TyCall Try.prog 6 := ⟨Try.call6⟩
instance : TyCall Try.prog 7 := ⟨Try.call7⟩
instance : TyCall Try.prog 8 := ⟨Try.call8⟩
instance : TyCall Try.prog 9 := ⟨Try.call9⟩
instance : TyCall Try.prog 10 := ⟨Try.call10⟩
instance : TyCall Try.prog 11 := ⟨Try.call11⟩
instance : TyCall Try.prog 12 := ⟨Try.call12⟩
instance : TyCall Try.prog 13 := ⟨Try.call13⟩
instance : TyCall Try.prog 14 := ⟨Try.call14⟩
instance : TyCall Try.prog 15 := ⟨Try.call15⟩
instance : TyCall Try.prog 16 := ⟨Try.call16⟩
instance : TyCall Try.prog 17 := ⟨Try.call17⟩
instance : TyCall Try.prog 18 := ⟨Try.call18⟩
instance : TyCall Try.prog 19 := ⟨Try.call19⟩
instance : TyCall Try.prog 20 := ⟨Try.call20⟩
instance : TyCall Try.prog 21 := ⟨Try.call21⟩
instance : TyCall Try.prog 22 := ⟨Try.call22⟩
instance : TyCall Try.prog 23 := ⟨Try.call23⟩
instance : TyCall Try.prog 24 := ⟨Try.call24⟩
instance : TyCall Try.prog 25 := ⟨Try.call25⟩
instance : TyCall Try.prog 26 := ⟨Try.call26⟩
instance : TyCall Try.prog 27 := ⟨Try.call27⟩
instance : TyCall Try.prog 28 := ⟨Try.call28⟩
instance : TyCall Try.prog 29 := ⟨Try.call29⟩
instance : TyCall Try.prog 30 := ⟨Try.call30⟩
instance : TyCall Try.prog 31 := ⟨Try.call31⟩
instance : TyCall Try.prog 32 := ⟨Try.call32⟩
instance : TyCall Try.prog 34 := ⟨Try.call34⟩
instance : TyCall Try.prog 35 := ⟨Try.call35⟩
instance : TyCall Try.prog 36 := ⟨Try.call36⟩
instance : TyCall Try.prog 37 := ⟨Try.call37⟩
instance : TyCall Try.prog 38 := ⟨Try.call38⟩
instance : TyCall Try.prog 39 := ⟨Try.call39⟩
instance : TyCall Try.prog 40 := ⟨Try.call40⟩
instance : TyCall Try.prog 41 := ⟨Try.call41⟩
instance : TyCall Try.prog 42 := ⟨Try.call42⟩
instance : TyCall Try.prog 43 := ⟨Try.call43⟩
instance : TyCall Try.prog 44 := ⟨Try.call44⟩
instance : TyCall Try.prog 45 := ⟨Try.call45⟩
instance : TyCall Try.prog 46 := ⟨Try.call46⟩
instance : TyCall Try.prog 47 := ⟨Try.call47⟩
instance : TyCall Try.prog 48 := ⟨Try.call48⟩
instance : TyCall Try.prog 49 := ⟨Try.call49⟩
instance : TyCall Try.prog 50 := ⟨Try.call50⟩
instance : TyCall Try.prog 51 := ⟨Try.call51⟩
instance : TyCall Try.prog 52 := ⟨Try.call52⟩
instance : TyCall Try.prog 53 := ⟨Try.call53⟩
instance : TyCall Try.prog 54 := ⟨Try.call54⟩
instance : TyCall Try.prog 55 := ⟨Try.call55⟩
instance : TyCall Try.prog 56 := ⟨Try.call56⟩
instance : TyCall Try.prog 57 := ⟨Try.call57⟩
instance : TyCall Try.prog 58 := ⟨Try.call58⟩
instance : TyCall Try.prog 59 := ⟨Try.call59⟩
instance : TyCall Try.prog 60 := ⟨Try.call60⟩
instance : TyCall Try.prog 77 := ⟨Try.call77⟩
instance : TyMeth Try.prog 25 "Error" 76 := ⟨fun v w => by kernel_rfl⟩
instance : TyMeth Try.prog 44 "Before" 38 := ⟨fun v w => by kernel_rfl⟩
instance : TyMeth Try.prog 65 "Before" 77 := ⟨fun v w => by kernel_rfl⟩
end Go.Proofs.Ytkkbeljmloikkaa
