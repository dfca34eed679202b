/- The seat's types and functions, as the rules of the layer ask for them: written by wip/gen/types.py. -/
import Derived.Test.YtmocncadncgaaaaRows
import Derived.Test.YtmocncadncgaaaaSlD
namespace Go.Proofs.Ytmocncadncgaaaa
instance : TyOne Try.prog 1 := ⟨Try.isAgg1, Try.sizeOf1⟩
instance : TyZero Try.prog 1 (.nilFunc) := ⟨Try.zeroValue1⟩
instance : TyConc Try.prog 1 := ⟨fun x w => by simp [Instr.makeInterface]⟩
instance : TyOne Try.prog 2 := ⟨Try.isAgg2, Try.sizeOf2⟩
instance : TyZero Try.prog 2 (.int .i64 0) := ⟨Try.zeroValue2⟩
instance : TyUnder Try.prog 2 (.int .i64) := ⟨Try.underlying2⟩
instance : TyConc Try.prog 2 := ⟨fun x w => by simp [Instr.makeInterface]⟩
instance : TyOne Try.prog 3 := ⟨Try.isAgg3, Try.sizeOf3⟩
instance : TyZero Try.prog 3 (.int .i64 0) := ⟨Try.zeroValue3⟩
instance : TyUnder Try.prog 3 (.int .i64) := ⟨Try.underlying3⟩
instance : TyConc Try.prog 3 := ⟨fun x w => by simp [Instr.makeInterface]⟩
instance : TyOne Try.prog 4 := ⟨Try.isAgg4, Try.sizeOf4⟩
instance : TyZero Try.prog 4 (.bool false) := ⟨Try.zeroValue4⟩
instance : TyUnder Try.prog 4 .bool := ⟨Try.underlying4⟩
instance : TyConc Try.prog 4 := ⟨fun x w => by simp [Instr.makeInterface]⟩
instance : TyOne Try.prog 5 := ⟨Try.isAgg5, Try.sizeOf5⟩
instance : TyZero Try.prog 5 (.int .u8 0) := ⟨Try.zeroValue5⟩
instance : TyUnder Try.prog 5 (.int .u8) := ⟨Try.underlying5⟩
instance : TyConc Try.prog 5 := ⟨fun x w => by simp [Instr.makeInterface]⟩
instance : TyOne Try.prog 6 := ⟨Try.isAgg6, Try.sizeOf6⟩
instance : TyZero Try.prog 6 (.int .u8 0) := ⟨Try.zeroValue6⟩
instance : TyUnder Try.prog 6 (.int .u8) := ⟨Try.underlying6⟩
instance : TyConc Try.prog 6 := ⟨fun x w => by simp [Instr.makeInterface]⟩
instance : TyAgg Try.prog 7 4 := ⟨Try.isAgg7, Try.sizeOf7⟩
instance : TyZero Try.prog 7 (.agg #[.int .i64 0, .int .i64 0, .bool false, .int .u8 0]) := ⟨Try.zeroValue7⟩
instance : TyConc Try.prog 7 := ⟨fun x w => by simp [Instr.makeInterface]⟩
instance : TyField Try.prog 7 0 0 := tyField_mk Try.underlying7 rfl rfl Try.sizeOf2 (by decide)
instance : TyField Try.prog 7 1 1 := tyField_mk Try.underlying7 rfl rfl Try.sizeOf3 (by decide)
instance : TyField Try.prog 7 2 2 := tyField_mk Try.underlying7 rfl rfl Try.sizeOf4 (by decide)
instance : TyField Try.prog 7 3 3 := tyField_mk Try.underlying7 rfl rfl Try.sizeOf6 (by decide)
instance : TyStruct Try.prog 7 [.int .i64 0, .int .i64 0, .bool false, .int .u8 0] [(0, 1), (1, 1), (2, 1), (3, 1)] := ⟨fun ps w => by simp [Instr.build, Value.cells]; generalize Instr.fill _ _ _ = z; cases z <;> rfl⟩
instance : TyAgg Try.prog 8 4 := ⟨Try.isAgg8, Try.sizeOf8⟩
instance : TyZero Try.prog 8 (.agg #[.int .i64 0, .int .i64 0, .bool false, .int .u8 0]) := ⟨Try.zeroValue8⟩
instance : TyConc Try.prog 8 := ⟨fun x w => by simp [Instr.makeInterface]⟩
instance : TyField Try.prog 8 0 0 := tyField_mk Try.underlying8 rfl rfl Try.sizeOf2 (by decide)
instance : TyField Try.prog 8 1 1 := tyField_mk Try.underlying8 rfl rfl Try.sizeOf3 (by decide)
instance : TyField Try.prog 8 2 2 := tyField_mk Try.underlying8 rfl rfl Try.sizeOf4 (by decide)
instance : TyField Try.prog 8 3 3 := tyField_mk Try.underlying8 rfl rfl Try.sizeOf6 (by decide)
instance : TyStruct Try.prog 8 [.int .i64 0, .int .i64 0, .bool false, .int .u8 0] [(0, 1), (1, 1), (2, 1), (3, 1)] := ⟨fun ps w => by simp [Instr.build, Value.cells]; generalize Instr.fill _ _ _ = z; cases z <;> rfl⟩
instance : TyOne Try.prog 9 := ⟨Try.isAgg9, Try.sizeOf9⟩
instance : TyZero Try.prog 9 (.string ⟨#[]⟩) := ⟨Try.zeroValue9⟩
instance : TyUnder Try.prog 9 .string := ⟨Try.underlying9⟩
instance : TyConc Try.prog 9 := ⟨fun x w => by simp [Instr.makeInterface]⟩
instance : TyOne Try.prog 10 := ⟨Try.isAgg10, Try.sizeOf10⟩
instance : TyZero Try.prog 10 (.string ⟨#[]⟩) := ⟨Try.zeroValue10⟩
instance : TyUnder Try.prog 10 .string := ⟨Try.underlying10⟩
instance : TyConc Try.prog 10 := ⟨fun x w => by simp [Instr.makeInterface]⟩
instance : TyOne Try.prog 11 := ⟨Try.isAgg11, Try.sizeOf11⟩
instance : TyZero Try.prog 11 (.string ⟨#[]⟩) := ⟨Try.zeroValue11⟩
instance : TyUnder Try.prog 11 .string := ⟨Try.underlying11⟩
instance : TyConc Try.prog 11 := ⟨fun x w => by simp [Instr.makeInterface]⟩
instance : TyOne Try.prog 12 := ⟨Try.isAgg12, Try.sizeOf12⟩
instance : TyZero Try.prog 12 (.int .u64 0) := ⟨Try.zeroValue12⟩
instance : TyUnder Try.prog 12 (.int .u64) := ⟨Try.underlying12⟩
instance : TyConc Try.prog 12 := ⟨fun x w => by simp [Instr.makeInterface]⟩
instance : TyAgg Try.prog 13 2 := ⟨Try.isAgg13, Try.sizeOf13⟩
instance : TyZero Try.prog 13 (.agg #[.string ⟨#[]⟩, .int .u64 0]) := ⟨Try.zeroValue13⟩
instance : TyConc Try.prog 13 := ⟨fun x w => by simp [Instr.makeInterface]⟩
instance : TyField Try.prog 13 0 0 := tyField_mk Try.underlying13 rfl rfl Try.sizeOf9 (by decide)
instance : TyField Try.prog 13 1 1 := tyField_mk Try.underlying13 rfl rfl Try.sizeOf12 (by decide)
instance : TyStruct Try.prog 13 [.string ⟨#[]⟩, .int .u64 0] [(0, 1), (1, 1)] := ⟨fun ps w => by simp [Instr.build, Value.cells]; generalize Instr.fill _ _ _ = z; cases z <;> rfl⟩
instance : TyAgg Try.prog 14 2 := ⟨Try.isAgg14, Try.sizeOf14⟩
instance : TyZero Try.prog 14 (.agg #[.string ⟨#[]⟩, .int .u64 0]) := ⟨Try.zeroValue14⟩
instance : TyConc Try.prog 14 := ⟨fun x w => by simp [Instr.makeInterface]⟩
instance : TyField Try.prog 14 0 0 := tyField_mk Try.underlying14 rfl rfl Try.sizeOf9 (by decide)
instance : TyField Try.prog 14 1 1 := tyField_mk Try.underlying14 rfl rfl Try.sizeOf12 (by decide)
instance : TyStruct Try.prog 14 [.string ⟨#[]⟩, .int .u64 0] [(0, 1), (1, 1)] := ⟨fun ps w => by simp [Instr.build, Value.cells]; generalize Instr.fill _ _ _ = z; cases z <;> rfl⟩
instance : TyOne Try.prog 15 := ⟨Try.isAgg15, Try.sizeOf15⟩
instance : TyZero Try.prog 15 (.pointer none) := ⟨Try.zeroValue15⟩
instance : TyUnder Try.prog 15 (.pointer 141) := ⟨Try.underlying15⟩
instance : TyConc Try.prog 15 := ⟨fun x w => by simp [Instr.makeInterface]⟩
instance : TyOne Try.prog 16 := ⟨Try.isAgg16, Try.sizeOf16⟩
instance : TyZero Try.prog 16 (.pointer none) := ⟨Try.zeroValue16⟩
instance : TyUnder Try.prog 16 (.pointer 144) := ⟨Try.underlying16⟩
instance : TyConc Try.prog 16 := ⟨fun x w => by simp [Instr.makeInterface]⟩
instance : TyOne Try.prog 17 := ⟨Try.isAgg17, Try.sizeOf17⟩
instance : TyZero Try.prog 17 (.pointer none) := ⟨Try.zeroValue17⟩
instance : TyUnder Try.prog 17 (.pointer 152) := ⟨Try.underlying17⟩
instance : TyConc Try.prog 17 := ⟨fun x w => by simp [Instr.makeInterface]⟩
instance : TyAgg Try.prog 18 1 := ⟨Try.isAgg18, Try.sizeOf18⟩
instance : TyZero Try.prog 18 (.agg #[.pointer none]) := ⟨Try.zeroValue18⟩
instance : TyConc Try.prog 18 := ⟨fun x w => by simp [Instr.makeInterface]⟩
instance : TyField Try.prog 18 0 0 := tyField_mk Try.underlying18 rfl rfl Try.sizeOf17 (by decide)
instance : TyStruct Try.prog 18 [.pointer none] [(0, 1)] := ⟨fun ps w => by simp [Instr.build, Value.cells]; generalize Instr.fill _ _ _ = z; cases z <;> rfl⟩
instance : TyAgg Try.prog 19 1 := ⟨Try.isAgg19, Try.sizeOf19⟩
instance : TyZero Try.prog 19 (.agg #[.pointer none]) := ⟨Try.zeroValue19⟩
instance : TyConc Try.prog 19 := ⟨fun x w => by simp [Instr.makeInterface]⟩
instance : TyField Try.prog 19 0 0 := tyField_mk Try.underlying19 rfl rfl Try.sizeOf17 (by decide)
instance : TyStruct Try.prog 19 [.pointer none] [(0, 1)] := ⟨fun ps w => by simp [Instr.build, Value.cells]; generalize Instr.fill _ _ _ = z; cases z <;> rfl⟩
instance : TyOne Try.prog 20 := ⟨Try.isAgg20, Try.sizeOf20⟩
instance : TyZero Try.prog 20 (.nilIface) := ⟨Try.zeroValue20⟩
instance : TyOne Try.prog 21 := ⟨Try.isAgg21, Try.sizeOf21⟩
instance : TyZero Try.prog 21 (.int .i32 0) := ⟨Try.zeroValue21⟩
instance : TyUnder Try.prog 21 (.int .i32) := ⟨Try.underlying21⟩
instance : TyConc Try.prog 21 := ⟨fun x w => by simp [Instr.makeInterface]⟩
instance : TyOne Try.prog 22 := ⟨Try.isAgg22, Try.sizeOf22⟩
instance : TyZero Try.prog 22 (.slice none 0 0) := ⟨Try.zeroValue22⟩
instance : TyUnder Try.prog 22 (.slice 29) := ⟨Try.underlying22⟩
instance : TyConc Try.prog 22 := ⟨fun x w => by simp [Instr.makeInterface]⟩
instance : TyOne Try.prog 23 := ⟨Try.isAgg23, Try.sizeOf23⟩
instance : TyZero Try.prog 23 (.nilFunc) := ⟨Try.zeroValue23⟩
instance : TyConc Try.prog 23 := ⟨fun x w => by simp [Instr.makeInterface]⟩
instance : TyOne Try.prog 24 := ⟨Try.isAgg24, Try.sizeOf24⟩
instance : TyZero Try.prog 24 (.pointer none) := ⟨Try.zeroValue24⟩
instance : TyUnder Try.prog 24 (.pointer 75) := ⟨Try.underlying24⟩
instance : TyConc Try.prog 24 := ⟨fun x w => by simp [Instr.makeInterface]⟩
instance : TyOne Try.prog 25 := ⟨Try.isAgg25, Try.sizeOf25⟩
instance : TyZero Try.prog 25 (.nilFunc) := ⟨Try.zeroValue25⟩
instance : TyConc Try.prog 25 := ⟨fun x w => by simp [Instr.makeInterface]⟩
instance : TyOne Try.prog 26 := ⟨Try.isAgg26, Try.sizeOf26⟩
instance : TyZero Try.prog 26 (.int .i64 0) := ⟨Try.zeroValue26⟩
instance : TyUnder Try.prog 26 (.int .i64) := ⟨Try.underlying26⟩
instance : TyConc Try.prog 26 := ⟨fun x w => by simp [Instr.makeInterface]⟩
instance : TyOne Try.prog 27 := ⟨Try.isAgg27, Try.sizeOf27⟩
instance : TyZero Try.prog 27 (.nilFunc) := ⟨Try.zeroValue27⟩
instance : TyConc Try.prog 27 := ⟨fun x w => by simp [Instr.makeInterface]⟩
instance : TyOne Try.prog 28 := ⟨Try.isAgg28, Try.sizeOf28⟩
instance : TyZero Try.prog 28 (.slice none 0 0) := ⟨Try.zeroValue28⟩
instance : TyUnder Try.prog 28 (.slice 3) := ⟨Try.underlying28⟩
instance : TyConc Try.prog 28 := ⟨fun x w => by simp [Instr.makeInterface]⟩
instance : TyOne Try.prog 29 := ⟨Try.isAgg29, Try.sizeOf29⟩
instance : TyZero Try.prog 29 (.slice none 0 0) := ⟨Try.zeroValue29⟩
instance : TyUnder Try.prog 29 (.slice 5) := ⟨Try.underlying29⟩
instance : TyConc Try.prog 29 := ⟨fun x w => by simp [Instr.makeInterface]⟩
instance : TyOne Try.prog 30 := ⟨Try.isAgg30, Try.sizeOf30⟩
instance : TyZero Try.prog 30 (.slice none 0 0) := ⟨Try.zeroValue30⟩
instance : TyUnder Try.prog 30 (.slice 9) := ⟨Try.underlying30⟩
instance : TyConc Try.prog 30 := ⟨fun x w => by simp [Instr.makeInterface]⟩
instance : TyOne Try.prog 31 := ⟨Try.isAgg31, Try.sizeOf31⟩
instance : TyZero Try.prog 31 (.nilFunc) := ⟨Try.zeroValue31⟩
instance : TyConc Try.prog 31 := ⟨fun x w => by simp [Instr.makeInterface]⟩
instance : TyOne Try.prog 33 := ⟨Try.isAgg33, Try.sizeOf33⟩
instance : TyZero Try.prog 33 (.nilFunc) := ⟨Try.zeroValue33⟩
instance : TyConc Try.prog 33 := ⟨fun x w => by simp [Instr.makeInterface]⟩
instance : TyOne Try.prog 34 := ⟨Try.isAgg34, Try.sizeOf34⟩
instance : TyZero Try.prog 34 (.nilFunc) := ⟨Try.zeroValue34⟩
instance : TyConc Try.prog 34 := ⟨fun x w => by simp [Instr.makeInterface]⟩
instance : TyOne Try.prog 35 := ⟨Try.isAgg35, Try.sizeOf35⟩
instance : TyZero Try.prog 35 (.nilFunc) := ⟨Try.zeroValue35⟩
instance : TyConc Try.prog 35 := ⟨fun x w => by simp [Instr.makeInterface]⟩
instance : TyOne Try.prog 36 := ⟨Try.isAgg36, Try.sizeOf36⟩
instance : TyZero Try.prog 36 (.nilFunc) := ⟨Try.zeroValue36⟩
instance : TyConc Try.prog 36 := ⟨fun x w => by simp [Instr.makeInterface]⟩
instance : TyOne Try.prog 37 := ⟨Try.isAgg37, Try.sizeOf37⟩
instance : TyZero Try.prog 37 (.nilFunc) := ⟨Try.zeroValue37⟩
instance : TyConc Try.prog 37 := ⟨fun x w => by simp [Instr.makeInterface]⟩
instance : TyOne Try.prog 38 := ⟨Try.isAgg38, Try.sizeOf38⟩
instance : TyZero Try.prog 38 (.slice none 0 0) := ⟨Try.zeroValue38⟩
instance : TyUnder Try.prog 38 (.slice 4) := ⟨Try.underlying38⟩
instance : TyConc Try.prog 38 := ⟨fun x w => by simp [Instr.makeInterface]⟩
instance : TyOne Try.prog 39 := ⟨Try.isAgg39, Try.sizeOf39⟩
instance : TyZero Try.prog 39 (.nilFunc) := ⟨Try.zeroValue39⟩
instance : TyConc Try.prog 39 := ⟨fun x w => by simp [Instr.makeInterface]⟩
instance : TyOne Try.prog 41 := ⟨Try.isAgg41, Try.sizeOf41⟩
instance : TyZero Try.prog 41 (.nilFunc) := ⟨Try.zeroValue41⟩
instance : TyConc Try.prog 41 := ⟨fun x w => by simp [Instr.makeInterface]⟩
instance : TyOne Try.prog 42 := ⟨Try.isAgg42, Try.sizeOf42⟩
instance : TyZero Try.prog 42 (.nilFunc) := ⟨Try.zeroValue42⟩
instance : TyConc Try.prog 42 := ⟨fun x w => by simp [Instr.makeInterface]⟩
instance : TyOne Try.prog 43 := ⟨Try.isAgg43, Try.sizeOf43⟩
instance : TyZero Try.prog 43 (.nilFunc) := ⟨Try.zeroValue43⟩
instance : TyConc Try.prog 43 := ⟨fun x w => by simp [Instr.makeInterface]⟩
instance : TyOne Try.prog 44 := ⟨Try.isAgg44, Try.sizeOf44⟩
instance : TyZero Try.prog 44 (.nilFunc) := ⟨Try.zeroValue44⟩
instance : TyConc Try.prog 44 := ⟨fun x w => by simp [Instr.makeInterface]⟩
instance : TyOne Try.prog 45 := ⟨Try.isAgg45, Try.sizeOf45⟩
instance : TyZero Try.prog 45 (.nilFunc) := ⟨Try.zeroValue45⟩
instance : TyConc Try.prog 45 := ⟨fun x w => by simp [Instr.makeInterface]⟩
instance : TyOne Try.prog 46 := ⟨Try.isAgg46, Try.sizeOf46⟩
instance : TyZero Try.prog 46 (.nilFunc) := ⟨Try.zeroValue46⟩
instance : TyConc Try.prog 46 := ⟨fun x w => by simp [Instr.makeInterface]⟩
instance : TyOne Try.prog 47 := ⟨Try.isAgg47, Try.sizeOf47⟩
instance : TyZero Try.prog 47 (.nilFunc) := ⟨Try.zeroValue47⟩
instance : TyConc Try.prog 47 := ⟨fun x w => by simp [Instr.makeInterface]⟩
instance : TyOne Try.prog 49 := ⟨Try.isAgg49, Try.sizeOf49⟩
instance : TyZero Try.prog 49 (.nilFunc) := ⟨Try.zeroValue49⟩
instance : TyConc Try.prog 49 := ⟨fun x w => by simp [Instr.makeInterface]⟩
instance : TyOne Try.prog 50 := ⟨Try.isAgg50, Try.sizeOf50⟩
instance : TyZero Try.prog 50 (.nilFunc) := ⟨Try.zeroValue50⟩
instance : TyConc Try.prog 50 := ⟨fun x w => by simp [Instr.makeInterface]⟩
instance : TyOne Try.prog 51 := ⟨Try.isAgg51, Try.sizeOf51⟩
instance : TyZero Try.prog 51 (.nilFunc) := ⟨Try.zeroValue51⟩
instance : TyConc Try.prog 51 := ⟨fun x w => by simp [Instr.makeInterface]⟩
instance : TyOne Try.prog 52 := ⟨Try.isAgg52, Try.sizeOf52⟩
instance : TyZero Try.prog 52 (.nilFunc) := ⟨Try.zeroValue52⟩
instance : TyConc Try.prog 52 := ⟨fun x w => by simp [Instr.makeInterface]⟩
instance : TyOne Try.prog 53 := ⟨Try.isAgg53, Try.sizeOf53⟩
instance : TyZero Try.prog 53 (.slice none 0 0) := ⟨Try.zeroValue53⟩
instance : TyUnder Try.prog 53 (.slice 57) := ⟨Try.underlying53⟩
instance : TyConc Try.prog 53 := ⟨fun x w => by simp [Instr.makeInterface]⟩
instance : TyOne Try.prog 54 := ⟨Try.isAgg54, Try.sizeOf54⟩
instance : TyZero Try.prog 54 (.pointer none) := ⟨Try.zeroValue54⟩
instance : TyUnder Try.prog 54 (.pointer 63) := ⟨Try.underlying54⟩
instance : TyConc Try.prog 54 := ⟨fun x w => by simp [Instr.makeInterface]⟩
instance : TyOne Try.prog 55 := ⟨Try.isAgg55, Try.sizeOf55⟩
instance : TyZero Try.prog 55 (.nilFunc) := ⟨Try.zeroValue55⟩
instance : TyConc Try.prog 55 := ⟨fun x w => by simp [Instr.makeInterface]⟩
instance : TyAgg Try.prog 56 7 := ⟨Try.isAgg56, Try.sizeOf56⟩
instance : TyZero Try.prog 56 (.agg #[.int .i64 0, .int .i64 0, .int .i64 0, .string ⟨#[]⟩, .string ⟨#[]⟩, .slice none 0 0, .slice none 0 0]) := ⟨Try.zeroValue56⟩
instance : TyConc Try.prog 56 := ⟨fun x w => by simp [Instr.makeInterface]⟩
instance : TyField Try.prog 56 0 0 := tyField_mk Try.underlying56 rfl rfl Try.sizeOf3 (by decide)
instance : TyField Try.prog 56 1 1 := tyField_mk Try.underlying56 rfl rfl Try.sizeOf3 (by decide)
instance : TyField Try.prog 56 2 2 := tyField_mk Try.underlying56 rfl rfl Try.sizeOf3 (by decide)
instance : TyField Try.prog 56 3 3 := tyField_mk Try.underlying56 rfl rfl Try.sizeOf9 (by decide)
instance : TyField Try.prog 56 4 4 := tyField_mk Try.underlying56 rfl rfl Try.sizeOf9 (by decide)
instance : TyField Try.prog 56 5 5 := tyField_mk Try.underlying56 rfl rfl Try.sizeOf29 (by decide)
instance : TyField Try.prog 56 6 6 := tyField_mk Try.underlying56 rfl rfl Try.sizeOf38 (by decide)
instance : TyStruct Try.prog 56 [.int .i64 0, .int .i64 0, .int .i64 0, .string ⟨#[]⟩, .string ⟨#[]⟩, .slice none 0 0, .slice none 0 0] [(0, 1), (1, 1), (2, 1), (3, 1), (4, 1), (5, 1), (6, 1)] := ⟨fun ps w => by simp [Instr.build, Value.cells]; generalize Instr.fill _ _ _ = z; cases z <;> rfl⟩
instance : TyAgg Try.prog 57 7 := ⟨Try.isAgg57, Try.sizeOf57⟩
instance : TyZero Try.prog 57 (.agg #[.int .i64 0, .int .i64 0, .int .i64 0, .string ⟨#[]⟩, .string ⟨#[]⟩, .slice none 0 0, .slice none 0 0]) := ⟨Try.zeroValue57⟩
instance : TyConc Try.prog 57 := ⟨fun x w => by simp [Instr.makeInterface]⟩
instance : TyField Try.prog 57 0 0 := tyField_mk Try.underlying57 rfl rfl Try.sizeOf3 (by decide)
instance : TyField Try.prog 57 1 1 := tyField_mk Try.underlying57 rfl rfl Try.sizeOf3 (by decide)
instance : TyField Try.prog 57 2 2 := tyField_mk Try.underlying57 rfl rfl Try.sizeOf3 (by decide)
instance : TyField Try.prog 57 3 3 := tyField_mk Try.underlying57 rfl rfl Try.sizeOf9 (by decide)
instance : TyField Try.prog 57 4 4 := tyField_mk Try.underlying57 rfl rfl Try.sizeOf9 (by decide)
instance : TyField Try.prog 57 5 5 := tyField_mk Try.underlying57 rfl rfl Try.sizeOf29 (by decide)
instance : TyField Try.prog 57 6 6 := tyField_mk Try.underlying57 rfl rfl Try.sizeOf38 (by decide)
instance : TyStruct Try.prog 57 [.int .i64 0, .int .i64 0, .int .i64 0, .string ⟨#[]⟩, .string ⟨#[]⟩, .slice none 0 0, .slice none 0 0] [(0, 1), (1, 1), (2, 1), (3, 1), (4, 1), (5, 1), (6, 1)] := ⟨fun ps w => by simp [Instr.build, Value.cells]; generalize Instr.fill _ _ _ = z; cases z <;> rfl⟩
instance : TyOne Try.prog 58 := ⟨Try.isAgg58, Try.sizeOf58⟩
instance : TyZero Try.prog 58 (.nilFunc) := ⟨Try.zeroValue58⟩
instance : TyConc Try.prog 58 := ⟨fun x w => by simp [Instr.makeInterface]⟩
instance : TyOne Try.prog 60 := ⟨Try.isAgg60, Try.sizeOf60⟩
instance : TyZero Try.prog 60 (.nilFunc) := ⟨Try.zeroValue60⟩
instance : TyConc Try.prog 60 := ⟨fun x w => by simp [Instr.makeInterface]⟩
instance : TyOne Try.prog 61 := ⟨Try.isAgg61, Try.sizeOf61⟩
instance : TyZero Try.prog 61 (.slice none 0 0) := ⟨Try.zeroValue61⟩
instance : TyUnder Try.prog 61 (.slice 99) := ⟨Try.underlying61⟩
instance : TyConc Try.prog 61 := ⟨fun x w => by simp [Instr.makeInterface]⟩
instance : TyAgg Try.prog 62 6 := ⟨Try.isAgg62, Try.sizeOf62⟩
instance : TyZero Try.prog 62 (.agg #[.int .i64 0, .slice none 0 0, .int .i64 0, .int .i64 0, .slice none 0 0, .bool false]) := ⟨Try.zeroValue62⟩
instance : TyConc Try.prog 62 := ⟨fun x w => by simp [Instr.makeInterface]⟩
instance : TyField Try.prog 62 0 0 := tyField_mk Try.underlying62 rfl rfl Try.sizeOf3 (by decide)
instance : TyField Try.prog 62 1 1 := tyField_mk Try.underlying62 rfl rfl Try.sizeOf61 (by decide)
instance : TyField Try.prog 62 2 2 := tyField_mk Try.underlying62 rfl rfl Try.sizeOf3 (by decide)
instance : TyField Try.prog 62 3 3 := tyField_mk Try.underlying62 rfl rfl Try.sizeOf3 (by decide)
instance : TyField Try.prog 62 4 4 := tyField_mk Try.underlying62 rfl rfl Try.sizeOf38 (by decide)
instance : TyField Try.prog 62 5 5 := tyField_mk Try.underlying62 rfl rfl Try.sizeOf4 (by decide)
instance : TyStruct Try.prog 62 [.int .i64 0, .slice none 0 0, .int .i64 0, .int .i64 0, .slice none 0 0, .bool false] [(0, 1), (1, 1), (2, 1), (3, 1), (4, 1), (5, 1)] := ⟨fun ps w => by simp [Instr.build, Value.cells]; generalize Instr.fill _ _ _ = z; cases z <;> rfl⟩
instance : TyAgg Try.prog 63 6 := ⟨Try.isAgg63, Try.sizeOf63⟩
instance : TyZero Try.prog 63 (.agg #[.int .i64 0, .slice none 0 0, .int .i64 0, .int .i64 0, .slice none 0 0, .bool false]) := ⟨Try.zeroValue63⟩
instance : TyConc Try.prog 63 := ⟨fun x w => by simp [Instr.makeInterface]⟩
instance : TyField Try.prog 63 0 0 := tyField_mk Try.underlying63 rfl rfl Try.sizeOf3 (by decide)
instance : TyField Try.prog 63 1 1 := tyField_mk Try.underlying63 rfl rfl Try.sizeOf61 (by decide)
instance : TyField Try.prog 63 2 2 := tyField_mk Try.underlying63 rfl rfl Try.sizeOf3 (by decide)
instance : TyField Try.prog 63 3 3 := tyField_mk Try.underlying63 rfl rfl Try.sizeOf3 (by decide)
instance : TyField Try.prog 63 4 4 := tyField_mk Try.underlying63 rfl rfl Try.sizeOf38 (by decide)
instance : TyField Try.prog 63 5 5 := tyField_mk Try.underlying63 rfl rfl Try.sizeOf4 (by decide)
instance : TyStruct Try.prog 63 [.int .i64 0, .slice none 0 0, .int .i64 0, .int .i64 0, .slice none 0 0, .bool false] [(0, 1), (1, 1), (2, 1), (3, 1), (4, 1), (5, 1)] := ⟨fun ps w => by simp [Instr.build, Value.cells]; generalize Instr.fill _ _ _ = z; cases z <;> rfl⟩
instance : TyOne Try.prog 64 := ⟨Try.isAgg64, Try.sizeOf64⟩
instance : TyZero Try.prog 64 (.nilFunc) := ⟨Try.zeroValue64⟩
instance : TyConc Try.prog 64 := ⟨fun x w => by simp [Instr.makeInterface]⟩
instance : TyOne Try.prog 65 := ⟨Try.isAgg65, Try.sizeOf65⟩
instance : TyZero Try.prog 65 (.map none) := ⟨Try.zeroValue65⟩
instance : TyUnder Try.prog 65 (.map 9 76) := ⟨Try.underlying65⟩
instance : TyConc Try.prog 65 := ⟨fun x w => by simp [Instr.makeInterface]⟩
instance : TyZero Try.prog 66 (.agg #[]) := ⟨Try.zeroValue66⟩
instance : TyConc Try.prog 66 := ⟨fun x w => by simp [Instr.makeInterface]⟩
instance : TyZero Try.prog 67 (.agg #[]) := ⟨Try.zeroValue67⟩
instance : TyConc Try.prog 67 := ⟨fun x w => by simp [Instr.makeInterface]⟩
instance : TyZero Try.prog 68 (.agg #[]) := ⟨Try.zeroValue68⟩
instance : TyConc Try.prog 68 := ⟨fun x w => by simp [Instr.makeInterface]⟩
instance : TyAgg Try.prog 69 1 := ⟨Try.isAgg69, Try.sizeOf69⟩
instance : TyZero Try.prog 69 (.agg #[.int .i64 0]) := ⟨Try.zeroValue69⟩
instance : TyConc Try.prog 69 := ⟨fun x w => by simp [Instr.makeInterface]⟩
instance : TyField Try.prog 69 2 0 := tyField_mk Try.underlying69 rfl rfl Try.sizeOf2 (by decide)
instance : TyAgg Try.prog 70 1 := ⟨Try.isAgg70, Try.sizeOf70⟩
instance : TyZero Try.prog 70 (.agg #[.int .i64 0]) := ⟨Try.zeroValue70⟩
instance : TyConc Try.prog 70 := ⟨fun x w => by simp [Instr.makeInterface]⟩
instance : TyField Try.prog 70 2 0 := tyField_mk Try.underlying70 rfl rfl Try.sizeOf2 (by decide)
instance : TyOne Try.prog 71 := ⟨Try.isAgg71, Try.sizeOf71⟩
instance : TyZero Try.prog 71 (.int .u32 0) := ⟨Try.zeroValue71⟩
instance : TyUnder Try.prog 71 (.int .u32) := ⟨Try.underlying71⟩
instance : TyConc Try.prog 71 := ⟨fun x w => by simp [Instr.makeInterface]⟩
instance : TyAgg Try.prog 72 1 := ⟨Try.isAgg72, Try.sizeOf72⟩
instance : TyZero Try.prog 72 (.agg #[.int .u32 0]) := ⟨Try.zeroValue72⟩
instance : TyConc Try.prog 72 := ⟨fun x w => by simp [Instr.makeInterface]⟩
instance : TyField Try.prog 72 1 0 := tyField_mk Try.underlying72 rfl rfl Try.sizeOf71 (by decide)
instance : TyAgg Try.prog 73 1 := ⟨Try.isAgg73, Try.sizeOf73⟩
instance : TyZero Try.prog 73 (.agg #[.int .u32 0]) := ⟨Try.zeroValue73⟩
instance : TyConc Try.prog 73 := ⟨fun x w => by simp [Instr.makeInterface]⟩
instance : TyField Try.prog 73 1 0 := tyField_mk Try.underlying73 rfl rfl Try.sizeOf71 (by decide)
instance : TyAgg Try.prog 74 7 := ⟨Try.isAgg74, Try.sizeOf74⟩
instance : TyZero Try.prog 74 (.agg #[.map none, .int .i64 0, .int .i64 0, .int .i64 0, .int .i64 0, .slice none 0 0, .int .u32 0]) := ⟨Try.zeroValue74⟩
instance : TyConc Try.prog 74 := ⟨fun x w => by simp [Instr.makeInterface]⟩
instance : TyField Try.prog 74 0 0 := tyField_mk Try.underlying74 rfl rfl Try.sizeOf65 (by decide)
instance : TyField Try.prog 74 1 1 := tyField_mk Try.underlying74 rfl rfl Try.sizeOf3 (by decide)
instance : TyField Try.prog 74 2 2 := tyField_mk Try.underlying74 rfl rfl Try.sizeOf3 (by decide)
instance : TyField Try.prog 74 3 3 := tyField_mk Try.underlying74 rfl rfl Try.sizeOf70 (by decide)
instance : TyField Try.prog 74 4 4 := tyField_mk Try.underlying74 rfl rfl Try.sizeOf3 (by decide)
instance : TyField Try.prog 74 5 5 := tyField_mk Try.underlying74 rfl rfl Try.sizeOf38 (by decide)
instance : TyField Try.prog 74 6 6 := tyField_mk Try.underlying74 rfl rfl Try.sizeOf73 (by decide)
instance : TyStruct Try.prog 74 [.map none, .int .i64 0, .int .i64 0, .int .i64 0, .int .i64 0, .slice none 0 0, .int .u32 0] [(0, 1), (1, 1), (2, 1), (3, 1), (4, 1), (5, 1), (6, 1)] := ⟨fun ps w => by simp [Instr.build, Value.cells]; generalize Instr.fill _ _ _ = z; cases z <;> rfl⟩
instance : TyAgg Try.prog 75 7 := ⟨Try.isAgg75, Try.sizeOf75⟩
instance : TyZero Try.prog 75 (.agg #[.map none, .int .i64 0, .int .i64 0, .int .i64 0, .int .i64 0, .slice none 0 0, .int .u32 0]) := ⟨Try.zeroValue75⟩
instance : TyConc Try.prog 75 := ⟨fun x w => by simp [Instr.makeInterface]⟩
instance : TyField Try.prog 75 0 0 := tyField_mk Try.underlying75 rfl rfl Try.sizeOf65 (by decide)
instance : TyField Try.prog 75 1 1 := tyField_mk Try.underlying75 rfl rfl Try.sizeOf3 (by decide)
instance : TyField Try.prog 75 2 2 := tyField_mk Try.underlying75 rfl rfl Try.sizeOf3 (by decide)
instance : TyField Try.prog 75 3 3 := tyField_mk Try.underlying75 rfl rfl Try.sizeOf70 (by decide)
instance : TyField Try.prog 75 4 4 := tyField_mk Try.underlying75 rfl rfl Try.sizeOf3 (by decide)
instance : TyField Try.prog 75 5 5 := tyField_mk Try.underlying75 rfl rfl Try.sizeOf38 (by decide)
instance : TyField Try.prog 75 6 6 := tyField_mk Try.underlying75 rfl rfl Try.sizeOf73 (by decide)
instance : TyStruct Try.prog 75 [.map none, .int .i64 0, .int .i64 0, .int .i64 0, .int .i64 0, .slice none 0 0, .int .u32 0] [(0, 1), (1, 1), (2, 1), (3, 1), (4, 1), (5, 1), (6, 1)] := ⟨fun ps w => by simp [Instr.build, Value.cells]; generalize Instr.fill _ _ _ = z; cases z <;> rfl⟩
instance : TyOne Try.prog 76 := ⟨Try.isAgg76, Try.sizeOf76⟩
instance : TyZero Try.prog 76 (.pointer none) := ⟨Try.zeroValue76⟩
instance : TyUnder Try.prog 76 (.pointer 81) := ⟨Try.underlying76⟩
instance : TyConc Try.prog 76 := ⟨fun x w => by simp [Instr.makeInterface]⟩
instance : TyOne Try.prog 78 := ⟨Try.isAgg78, Try.sizeOf78⟩
instance : TyZero Try.prog 78 (.nilFunc) := ⟨Try.zeroValue78⟩
instance : TyConc Try.prog 78 := ⟨fun x w => by simp [Instr.makeInterface]⟩
instance : TyOne Try.prog 79 := ⟨Try.isAgg79, Try.sizeOf79⟩
instance : TyZero Try.prog 79 (.nilFunc) := ⟨Try.zeroValue79⟩
instance : TyConc Try.prog 79 := ⟨fun x w => by simp [Instr.makeInterface]⟩
instance : TyAgg Try.prog 80 2 := ⟨Try.isAgg80, Try.sizeOf80⟩
instance : TyZero Try.prog 80 (.agg #[.slice none 0 0, .slice none 0 0]) := ⟨Try.zeroValue80⟩
instance : TyConc Try.prog 80 := ⟨fun x w => by simp [Instr.makeInterface]⟩
instance : TyField Try.prog 80 0 0 := tyField_mk Try.underlying80 rfl rfl Try.sizeOf29 (by decide)
instance : TyField Try.prog 80 1 1 := tyField_mk Try.underlying80 rfl rfl Try.sizeOf29 (by decide)
instance : TyStruct Try.prog 80 [.slice none 0 0, .slice none 0 0] [(0, 1), (1, 1)] := ⟨fun ps w => by simp [Instr.build, Value.cells]; generalize Instr.fill _ _ _ = z; cases z <;> rfl⟩
instance : TyAgg Try.prog 81 2 := ⟨Try.isAgg81, Try.sizeOf81⟩
instance : TyZero Try.prog 81 (.agg #[.slice none 0 0, .slice none 0 0]) := ⟨Try.zeroValue81⟩
instance : TyConc Try.prog 81 := ⟨fun x w => by simp [Instr.makeInterface]⟩
instance : TyField Try.prog 81 0 0 := tyField_mk Try.underlying81 rfl rfl Try.sizeOf29 (by decide)
instance : TyField Try.prog 81 1 1 := tyField_mk Try.underlying81 rfl rfl Try.sizeOf29 (by decide)
instance : TyStruct Try.prog 81 [.slice none 0 0, .slice none 0 0] [(0, 1), (1, 1)] := ⟨fun ps w => by simp [Instr.build, Value.cells]; generalize Instr.fill _ _ _ = z; cases z <;> rfl⟩
instance : TyOne Try.prog 82 := ⟨Try.isAgg82, Try.sizeOf82⟩
instance : TyZero Try.prog 82 (.nilFunc) := ⟨Try.zeroValue82⟩
instance : TyConc Try.prog 82 := ⟨fun x w => by simp [Instr.makeInterface]⟩
instance : TyOne Try.prog 83 := ⟨Try.isAgg83, Try.sizeOf83⟩
instance : TyZero Try.prog 83 (.nilFunc) := ⟨Try.zeroValue83⟩
instance : TyConc Try.prog 83 := ⟨fun x w => by simp [Instr.makeInterface]⟩
instance : TyOne Try.prog 84 := ⟨Try.isAgg84, Try.sizeOf84⟩
instance : TyZero Try.prog 84 (.nilFunc) := ⟨Try.zeroValue84⟩
instance : TyConc Try.prog 84 := ⟨fun x w => by simp [Instr.makeInterface]⟩
instance : TyOne Try.prog 85 := ⟨Try.isAgg85, Try.sizeOf85⟩
instance : TyZero Try.prog 85 (.nilFunc) := ⟨Try.zeroValue85⟩
instance : TyConc Try.prog 85 := ⟨fun x w => by simp [Instr.makeInterface]⟩
instance : TyOne Try.prog 86 := ⟨Try.isAgg86, Try.sizeOf86⟩
instance : TyZero Try.prog 86 (.nilFunc) := ⟨Try.zeroValue86⟩
instance : TyConc Try.prog 86 := ⟨fun x w => by simp [Instr.makeInterface]⟩
instance : TyOne Try.prog 87 := ⟨Try.isAgg87, Try.sizeOf87⟩
instance : TyZero Try.prog 87 (.nilFunc) := ⟨Try.zeroValue87⟩
instance : TyConc Try.prog 87 := ⟨fun x w => by simp [Instr.makeInterface]⟩
instance : TyOne Try.prog 88 := ⟨Try.isAgg88, Try.sizeOf88⟩
instance : TyZero Try.prog 88 (.nilFunc) := ⟨Try.zeroValue88⟩
instance : TyConc Try.prog 88 := ⟨fun x w => by simp [Instr.makeInterface]⟩
instance : TyOne Try.prog 89 := ⟨Try.isAgg89, Try.sizeOf89⟩
instance : TyZero Try.prog 89 (.nilFunc) := ⟨Try.zeroValue89⟩
instance : TyConc Try.prog 89 := ⟨fun x w => by simp [Instr.makeInterface]⟩
instance : TyOne Try.prog 90 := ⟨Try.isAgg90, Try.sizeOf90⟩
instance : TyZero Try.prog 90 (.nilFunc) := ⟨Try.zeroValue90⟩
instance : TyConc Try.prog 90 := ⟨fun x w => by simp [Instr.makeInterface]⟩
instance : TyOne Try.prog 91 := ⟨Try.isAgg91, Try.sizeOf91⟩
instance : TyZero Try.prog 91 (.nilFunc) := ⟨Try.zeroValue91⟩
instance : TyConc Try.prog 91 := ⟨fun x w => by simp [Instr.makeInterface]⟩
instance : TyOne Try.prog 92 := ⟨Try.isAgg92, Try.sizeOf92⟩
instance : TyZero Try.prog 92 (.nilFunc) := ⟨Try.zeroValue92⟩
instance : TyConc Try.prog 92 := ⟨fun x w => by simp [Instr.makeInterface]⟩
instance : TyOne Try.prog 93 := ⟨Try.isAgg93, Try.sizeOf93⟩
instance : TyZero Try.prog 93 (.nilFunc) := ⟨Try.zeroValue93⟩
instance : TyConc Try.prog 93 := ⟨fun x w => by simp [Instr.makeInterface]⟩
instance : TyOne Try.prog 94 := ⟨Try.isAgg94, Try.sizeOf94⟩
instance : TyZero Try.prog 94 (.nilFunc) := ⟨Try.zeroValue94⟩
instance : TyConc Try.prog 94 := ⟨fun x w => by simp [Instr.makeInterface]⟩
instance : TyOne Try.prog 95 := ⟨Try.isAgg95, Try.sizeOf95⟩
instance : TyZero Try.prog 95 (.nilFunc) := ⟨Try.zeroValue95⟩
instance : TyConc Try.prog 95 := ⟨fun x w => by simp [Instr.makeInterface]⟩
instance : TyOne Try.prog 96 := ⟨Try.isAgg96, Try.sizeOf96⟩
instance : TyZero Try.prog 96 (.nilFunc) := ⟨Try.zeroValue96⟩
instance : TyConc Try.prog 96 := ⟨fun x w => by simp [Instr.makeInterface]⟩
instance : TyOne Try.prog 97 := ⟨Try.isAgg97, Try.sizeOf97⟩
instance : TyZero Try.prog 97 (.nilFunc) := ⟨Try.zeroValue97⟩
instance : TyConc Try.prog 97 := ⟨fun x w => by simp [Instr.makeInterface]⟩
instance : TyAgg Try.prog 98 3 := ⟨Try.isAgg98, Try.sizeOf98⟩
instance : TyZero Try.prog 98 (.agg #[.string ⟨#[]⟩, .slice none 0 0, .slice none 0 0]) := ⟨Try.zeroValue98⟩
instance : TyConc Try.prog 98 := ⟨fun x w => by simp [Instr.makeInterface]⟩
instance : TyField Try.prog 98 0 0 := tyField_mk Try.underlying98 rfl rfl Try.sizeOf9 (by decide)
instance : TyField Try.prog 98 1 1 := tyField_mk Try.underlying98 rfl rfl Try.sizeOf29 (by decide)
instance : TyField Try.prog 98 2 2 := tyField_mk Try.underlying98 rfl rfl Try.sizeOf29 (by decide)
instance : TyStruct Try.prog 98 [.string ⟨#[]⟩, .slice none 0 0, .slice none 0 0] [(0, 1), (1, 1), (2, 1)] := ⟨fun ps w => by simp [Instr.build, Value.cells]; generalize Instr.fill _ _ _ = z; cases z <;> rfl⟩
instance : TyAgg Try.prog 99 3 := ⟨Try.isAgg99, Try.sizeOf99⟩
instance : TyZero Try.prog 99 (.agg #[.string ⟨#[]⟩, .slice none 0 0, .slice none 0 0]) := ⟨Try.zeroValue99⟩
instance : TyConc Try.prog 99 := ⟨fun x w => by simp [Instr.makeInterface]⟩
instance : TyField Try.prog 99 0 0 := tyField_mk Try.underlying99 rfl rfl Try.sizeOf9 (by decide)
instance : TyField Try.prog 99 1 1 := tyField_mk Try.underlying99 rfl rfl Try.sizeOf29 (by decide)
instance : TyField Try.prog 99 2 2 := tyField_mk Try.underlying99 rfl rfl Try.sizeOf29 (by decide)
instance : TyStruct Try.prog 99 [.string ⟨#[]⟩, .slice none 0 0, .slice none 0 0] [(0, 1), (1, 1), (2, 1)] := ⟨fun ps w => by simp [Instr.build, Value.cells]; generalize Instr.fill _ _ _ = z; cases z <;> rfl⟩
instance : TyOne Try.prog 100 := ⟨Try.isAgg100, Try.sizeOf100⟩
instance : TyZero Try.prog 100 (.nilFunc) := ⟨Try.zeroValue100⟩
instance : TyConc Try.prog 100 := ⟨fun x w => by simp [Instr.makeInterface]⟩
instance : TyOne Try.prog 101 := ⟨Try.isAgg101, Try.sizeOf101⟩
instance : TyZero Try.prog 101 (.nilFunc) := ⟨Try.zeroValue101⟩
instance : TyConc Try.prog 101 := ⟨fun x w => by simp [Instr.makeInterface]⟩
instance : TyOne Try.prog 102 := ⟨Try.isAgg102, Try.sizeOf102⟩
instance : TyZero Try.prog 102 (.pointer none) := ⟨Try.zeroValue102⟩
instance : TyUnder Try.prog 102 (.pointer 73) := ⟨Try.underlying102⟩
instance : TyConc Try.prog 102 := ⟨fun x w => by simp [Instr.makeInterface]⟩
instance : TyOne Try.prog 103 := ⟨Try.isAgg103, Try.sizeOf103⟩
instance : TyZero Try.prog 103 (.nilFunc) := ⟨Try.zeroValue103⟩
instance : TyConc Try.prog 103 := ⟨fun x w => by simp [Instr.makeInterface]⟩
instance : TyOne Try.prog 104 := ⟨Try.isAgg104, Try.sizeOf104⟩
instance : TyZero Try.prog 104 (.pointer none) := ⟨Try.zeroValue104⟩
instance : TyUnder Try.prog 104 (.pointer 71) := ⟨Try.underlying104⟩
instance : TyConc Try.prog 104 := ⟨fun x w => by simp [Instr.makeInterface]⟩
instance : TyOne Try.prog 105 := ⟨Try.isAgg105, Try.sizeOf105⟩
instance : TyZero Try.prog 105 (.pointer none) := ⟨Try.zeroValue105⟩
instance : TyUnder Try.prog 105 (.pointer 70) := ⟨Try.underlying105⟩
instance : TyConc Try.prog 105 := ⟨fun x w => by simp [Instr.makeInterface]⟩
instance : TyOne Try.prog 106 := ⟨Try.isAgg106, Try.sizeOf106⟩
instance : TyZero Try.prog 106 (.nilFunc) := ⟨Try.zeroValue106⟩
instance : TyConc Try.prog 106 := ⟨fun x w => by simp [Instr.makeInterface]⟩
instance : TyOne Try.prog 107 := ⟨Try.isAgg107, Try.sizeOf107⟩
instance : TyZero Try.prog 107 (.pointer none) := ⟨Try.zeroValue107⟩
instance : TyUnder Try.prog 107 (.pointer 2) := ⟨Try.underlying107⟩
instance : TyConc Try.prog 107 := ⟨fun x w => by simp [Instr.makeInterface]⟩
instance : TyOne Try.prog 108 := ⟨Try.isAgg108, Try.sizeOf108⟩
instance : TyZero Try.prog 108 (.nilFunc) := ⟨Try.zeroValue108⟩
instance : TyConc Try.prog 108 := ⟨fun x w => by simp [Instr.makeInterface]⟩
instance : TyOne Try.prog 109 := ⟨Try.isAgg109, Try.sizeOf109⟩
instance : TyZero Try.prog 109 (.nilFunc) := ⟨Try.zeroValue109⟩
instance : TyConc Try.prog 109 := ⟨fun x w => by simp [Instr.makeInterface]⟩
instance : TyOne Try.prog 110 := ⟨Try.isAgg110, Try.sizeOf110⟩
instance : TyZero Try.prog 110 (.nilFunc) := ⟨Try.zeroValue110⟩
instance : TyConc Try.prog 110 := ⟨fun x w => by simp [Instr.makeInterface]⟩
instance : TyOne Try.prog 111 := ⟨Try.isAgg111, Try.sizeOf111⟩
instance : TyZero Try.prog 111 (.nilFunc) := ⟨Try.zeroValue111⟩
instance : TyConc Try.prog 111 := ⟨fun x w => by simp [Instr.makeInterface]⟩
instance : TyOne Try.prog 112 := ⟨Try.isAgg112, Try.sizeOf112⟩
instance : TyZero Try.prog 112 (.nilFunc) := ⟨Try.zeroValue112⟩
instance : TyConc Try.prog 112 := ⟨fun x w => by simp [Instr.makeInterface]⟩
instance : TyOne Try.prog 113 := ⟨Try.isAgg113, Try.sizeOf113⟩
instance : TyZero Try.prog 113 (.nilFunc) := ⟨Try.zeroValue113⟩
instance : TyConc Try.prog 113 := ⟨fun x w => by simp [Instr.makeInterface]⟩
instance : TyOne Try.prog 114 := ⟨Try.isAgg114, Try.sizeOf114⟩
instance : TyZero Try.prog 114 (.nilFunc) := ⟨Try.zeroValue114⟩
instance : TyConc Try.prog 114 := ⟨fun x w => by simp [Instr.makeInterface]⟩
instance : TyOne Try.prog 115 := ⟨Try.isAgg115, Try.sizeOf115⟩
instance : TyZero Try.prog 115 (.nilFunc) := ⟨Try.zeroValue115⟩
instance : TyConc Try.prog 115 := ⟨fun x w => by simp [Instr.makeInterface]⟩
instance : TyOne Try.prog 116 := ⟨Try.isAgg116, Try.sizeOf116⟩
instance : TyZero Try.prog 116 (.int .u64 0) := ⟨Try.zeroValue116⟩
instance : TyUnder Try.prog 116 (.int .u64) := ⟨Try.underlying116⟩
instance : TyConc Try.prog 116 := ⟨fun x w => by simp [Instr.makeInterface]⟩
instance : TyOne Try.prog 117 := ⟨Try.isAgg117, Try.sizeOf117⟩
instance : TyZero Try.prog 117 (.nilFunc) := ⟨Try.zeroValue117⟩
instance : TyConc Try.prog 117 := ⟨fun x w => by simp [Instr.makeInterface]⟩
instance : TyOne Try.prog 118 := ⟨Try.isAgg118, Try.sizeOf118⟩
instance : TyZero Try.prog 118 (.nilFunc) := ⟨Try.zeroValue118⟩
instance : TyConc Try.prog 118 := ⟨fun x w => by simp [Instr.makeInterface]⟩
instance : TyOne Try.prog 119 := ⟨Try.isAgg119, Try.sizeOf119⟩
instance : TyZero Try.prog 119 (.int .i64 0) := ⟨Try.zeroValue119⟩
instance : TyUnder Try.prog 119 (.int .i64) := ⟨Try.underlying119⟩
instance : TyConc Try.prog 119 := ⟨fun x w => by simp [Instr.makeInterface]⟩
instance : TyOne Try.prog 121 := ⟨Try.isAgg121, Try.sizeOf121⟩
instance : TyZero Try.prog 121 (.nilFunc) := ⟨Try.zeroValue121⟩
instance : TyConc Try.prog 121 := ⟨fun x w => by simp [Instr.makeInterface]⟩
instance : TyOne Try.prog 122 := ⟨Try.isAgg122, Try.sizeOf122⟩
instance : TyZero Try.prog 122 (.nilFunc) := ⟨Try.zeroValue122⟩
instance : TyConc Try.prog 122 := ⟨fun x w => by simp [Instr.makeInterface]⟩
instance : TyOne Try.prog 123 := ⟨Try.isAgg123, Try.sizeOf123⟩
instance : TyZero Try.prog 123 (.nilFunc) := ⟨Try.zeroValue123⟩
instance : TyConc Try.prog 123 := ⟨fun x w => by simp [Instr.makeInterface]⟩
instance : TyOne Try.prog 124 := ⟨Try.isAgg124, Try.sizeOf124⟩
instance : TyZero Try.prog 124 (.nilFunc) := ⟨Try.zeroValue124⟩
instance : TyConc Try.prog 124 := ⟨fun x w => by simp [Instr.makeInterface]⟩
instance : TyOne Try.prog 126 := ⟨Try.isAgg126, Try.sizeOf126⟩
instance : TyZero Try.prog 126 (.nilFunc) := ⟨Try.zeroValue126⟩
instance : TyConc Try.prog 126 := ⟨fun x w => by simp [Instr.makeInterface]⟩
instance : TyOne Try.prog 127 := ⟨Try.isAgg127, Try.sizeOf127⟩
instance : TyZero Try.prog 127 (.nilFunc) := ⟨Try.zeroValue127⟩
instance : TyConc Try.prog 127 := ⟨fun x w => by simp [Instr.makeInterface]⟩
instance : TyOne Try.prog 128 := ⟨Try.isAgg128, Try.sizeOf128⟩
instance : TyZero Try.prog 128 (.nilFunc) := ⟨Try.zeroValue128⟩
instance : TyConc Try.prog 128 := ⟨fun x w => by simp [Instr.makeInterface]⟩
instance : TyOne Try.prog 129 := ⟨Try.isAgg129, Try.sizeOf129⟩
instance : TyZero Try.prog 129 (.int .u64 0) := ⟨Try.zeroValue129⟩
instance : TyUnder Try.prog 129 (.int .u64) := ⟨Try.underlying129⟩
instance : TyConc Try.prog 129 := ⟨fun x w => by simp [Instr.makeInterface]⟩
instance : TyOne Try.prog 130 := ⟨Try.isAgg130, Try.sizeOf130⟩
instance : TyZero Try.prog 130 (.int .u64 0) := ⟨Try.zeroValue130⟩
instance : TyUnder Try.prog 130 (.int .u64) := ⟨Try.underlying130⟩
instance : TyConc Try.prog 130 := ⟨fun x w => by simp [Instr.makeInterface]⟩
instance : TyOne Try.prog 131 := ⟨Try.isAgg131, Try.sizeOf131⟩
instance : TyZero Try.prog 131 (.nilFunc) := ⟨Try.zeroValue131⟩
instance : TyConc Try.prog 131 := ⟨fun x w => by simp [Instr.makeInterface]⟩
instance : TyOne Try.prog 132 := ⟨Try.isAgg132, Try.sizeOf132⟩
instance : TyZero Try.prog 132 (.nilFunc) := ⟨Try.zeroValue132⟩
instance : TyConc Try.prog 132 := ⟨fun x w => by simp [Instr.makeInterface]⟩
instance : TyOne Try.prog 133 := ⟨Try.isAgg133, Try.sizeOf133⟩
instance : TyZero Try.prog 133 (.nilFunc) := ⟨Try.zeroValue133⟩
instance : TyConc Try.prog 133 := ⟨fun x w => by simp [Instr.makeInterface]⟩
instance : TyOne Try.prog 134 := ⟨Try.isAgg134, Try.sizeOf134⟩
instance : TyZero Try.prog 134 (.pointer none) := ⟨Try.zeroValue134⟩
instance : TyUnder Try.prog 134 (.pointer 3) := ⟨Try.underlying134⟩
instance : TyConc Try.prog 134 := ⟨fun x w => by simp [Instr.makeInterface]⟩
instance : TyOne Try.prog 135 := ⟨Try.isAgg135, Try.sizeOf135⟩
instance : TyZero Try.prog 135 (.nilFunc) := ⟨Try.zeroValue135⟩
instance : TyConc Try.prog 135 := ⟨fun x w => by simp [Instr.makeInterface]⟩
instance : TyOne Try.prog 136 := ⟨Try.isAgg136, Try.sizeOf136⟩
instance : TyZero Try.prog 136 (.pointer none) := ⟨Try.zeroValue136⟩
instance : TyUnder Try.prog 136 (.pointer 130) := ⟨Try.underlying136⟩
instance : TyConc Try.prog 136 := ⟨fun x w => by simp [Instr.makeInterface]⟩
instance : TyOne Try.prog 138 := ⟨Try.isAgg138, Try.sizeOf138⟩
instance : TyZero Try.prog 138 (.nilFunc) := ⟨Try.zeroValue138⟩
instance : TyConc Try.prog 138 := ⟨fun x w => by simp [Instr.makeInterface]⟩
instance : TyOne Try.prog 139 := ⟨Try.isAgg139, Try.sizeOf139⟩
instance : TyZero Try.prog 139 (.nilFunc) := ⟨Try.zeroValue139⟩
instance : TyConc Try.prog 139 := ⟨fun x w => by simp [Instr.makeInterface]⟩
instance : TyAgg Try.prog 140 4 := ⟨Try.isAgg140, Try.sizeOf140⟩
instance : TyZero Try.prog 140 (.agg #[.pointer none, .pointer none, .pointer none, .string ⟨#[]⟩]) := ⟨Try.zeroValue140⟩
instance : TyConc Try.prog 140 := ⟨fun x w => by simp [Instr.makeInterface]⟩
instance : TyField Try.prog 140 0 0 := tyField_mk Try.underlying140 rfl rfl Try.sizeOf17 (by decide)
instance : TyField Try.prog 140 1 1 := tyField_mk Try.underlying140 rfl rfl Try.sizeOf17 (by decide)
instance : TyField Try.prog 140 2 2 := tyField_mk Try.underlying140 rfl rfl Try.sizeOf17 (by decide)
instance : TyField Try.prog 140 3 3 := tyField_mk Try.underlying140 rfl rfl Try.sizeOf9 (by decide)
instance : TyStruct Try.prog 140 [.pointer none, .pointer none, .pointer none, .string ⟨#[]⟩] [(0, 1), (1, 1), (2, 1), (3, 1)] := ⟨fun ps w => by simp [Instr.build, Value.cells]; generalize Instr.fill _ _ _ = z; cases z <;> rfl⟩
instance : TyAgg Try.prog 141 4 := ⟨Try.isAgg141, Try.sizeOf141⟩
instance : TyZero Try.prog 141 (.agg #[.pointer none, .pointer none, .pointer none, .string ⟨#[]⟩]) := ⟨Try.zeroValue141⟩
instance : TyConc Try.prog 141 := ⟨fun x w => by simp [Instr.makeInterface]⟩
instance : TyField Try.prog 141 0 0 := tyField_mk Try.underlying141 rfl rfl Try.sizeOf17 (by decide)
instance : TyField Try.prog 141 1 1 := tyField_mk Try.underlying141 rfl rfl Try.sizeOf17 (by decide)
instance : TyField Try.prog 141 2 2 := tyField_mk Try.underlying141 rfl rfl Try.sizeOf17 (by decide)
instance : TyField Try.prog 141 3 3 := tyField_mk Try.underlying141 rfl rfl Try.sizeOf9 (by decide)
instance : TyStruct Try.prog 141 [.pointer none, .pointer none, .pointer none, .string ⟨#[]⟩] [(0, 1), (1, 1), (2, 1), (3, 1)] := ⟨fun ps w => by simp [Instr.build, Value.cells]; generalize Instr.fill _ _ _ = z; cases z <;> rfl⟩
instance : TyZero Try.prog 142 (.agg #[]) := ⟨Try.zeroValue142⟩
instance : TyUnder Try.prog 142 (.array 0 16) := ⟨Try.underlying142⟩
instance : TyConc Try.prog 142 := ⟨fun x w => by simp [Instr.makeInterface]⟩
instance : TyZero Try.prog 143 (.agg #[]) := ⟨Try.zeroValue143⟩
instance : TyConc Try.prog 143 := ⟨fun x w => by simp [Instr.makeInterface]⟩
instance : TyZero Try.prog 144 (.agg #[]) := ⟨Try.zeroValue144⟩
instance : TyConc Try.prog 144 := ⟨fun x w => by simp [Instr.makeInterface]⟩
instance : TyOne Try.prog 145 := ⟨Try.isAgg145, Try.sizeOf145⟩
instance : TyZero Try.prog 145 (.int .u8 0) := ⟨Try.zeroValue145⟩
instance : TyUnder Try.prog 145 (.int .u8) := ⟨Try.underlying145⟩
instance : TyConc Try.prog 145 := ⟨fun x w => by simp [Instr.makeInterface]⟩
instance : TyOne Try.prog 146 := ⟨Try.isAgg146, Try.sizeOf146⟩
instance : TyZero Try.prog 146 (.int .u8 0) := ⟨Try.zeroValue146⟩
instance : TyUnder Try.prog 146 (.int .u8) := ⟨Try.underlying146⟩
instance : TyConc Try.prog 146 := ⟨fun x w => by simp [Instr.makeInterface]⟩
instance : TyOne Try.prog 148 := ⟨Try.isAgg148, Try.sizeOf148⟩
instance : TyZero Try.prog 148 (.pointer none) := ⟨Try.zeroValue148⟩
instance : TyUnder Try.prog 148 (.pointer 5) := ⟨Try.underlying148⟩
instance : TyConc Try.prog 148 := ⟨fun x w => by simp [Instr.makeInterface]⟩
instance : TyOne Try.prog 149 := ⟨Try.isAgg149, Try.sizeOf149⟩
instance : TyZero Try.prog 149 (.int .i32 0) := ⟨Try.zeroValue149⟩
instance : TyUnder Try.prog 149 (.int .i32) := ⟨Try.underlying149⟩
instance : TyConc Try.prog 149 := ⟨fun x w => by simp [Instr.makeInterface]⟩
instance : TyOne Try.prog 150 := ⟨Try.isAgg150, Try.sizeOf150⟩
instance : TyZero Try.prog 150 (.int .i32 0) := ⟨Try.zeroValue150⟩
instance : TyUnder Try.prog 150 (.int .i32) := ⟨Try.underlying150⟩
instance : TyConc Try.prog 150 := ⟨fun x w => by simp [Instr.makeInterface]⟩
instance : TyAgg Try.prog 152 11 := ⟨Try.isAgg152, Try.sizeOf152⟩
instance : TyZero Try.prog 152 (.agg #[.int .u64 0, .int .u64 0, .int .u32 0, .int .u8 0, .int .u8 0, .int .u8 0, .int .u8 0, .nilFunc, .pointer none, .int .i32 0, .int .i32 0]) := ⟨Try.zeroValue152⟩
instance : TyConc Try.prog 152 := ⟨fun x w => by simp [Instr.makeInterface]⟩
instance : TyField Try.prog 152 0 0 := tyField_mk Try.underlying152 rfl rfl Try.sizeOf12 (by decide)
instance : TyField Try.prog 152 1 1 := tyField_mk Try.underlying152 rfl rfl Try.sizeOf12 (by decide)
instance : TyField Try.prog 152 2 2 := tyField_mk Try.underlying152 rfl rfl Try.sizeOf71 (by decide)
instance : TyField Try.prog 152 3 3 := tyField_mk Try.underlying152 rfl rfl Try.sizeOf145 (by decide)
instance : TyField Try.prog 152 4 4 := tyField_mk Try.underlying152 rfl rfl Try.sizeOf5 (by decide)
instance : TyField Try.prog 152 5 5 := tyField_mk Try.underlying152 rfl rfl Try.sizeOf5 (by decide)
instance : TyField Try.prog 152 6 6 := tyField_mk Try.underlying152 rfl rfl Try.sizeOf146 (by decide)
instance : TyField Try.prog 152 7 7 := tyField_mk Try.underlying152 rfl rfl Try.sizeOf147 (by decide)
instance : TyField Try.prog 152 8 8 := tyField_mk Try.underlying152 rfl rfl Try.sizeOf148 (by decide)
instance : TyField Try.prog 152 9 9 := tyField_mk Try.underlying152 rfl rfl Try.sizeOf149 (by decide)
instance : TyField Try.prog 152 10 10 := tyField_mk Try.underlying152 rfl rfl Try.sizeOf150 (by decide)
instance : TyStruct Try.prog 152 [.int .u64 0, .int .u64 0, .int .u32 0, .int .u8 0, .int .u8 0, .int .u8 0, .int .u8 0, .nilFunc, .pointer none, .int .i32 0, .int .i32 0] [(0, 1), (1, 1), (2, 1), (3, 1), (4, 1), (5, 1), (6, 1), (7, 1), (8, 1), (9, 1), (10, 1)] := ⟨fun ps w => by simp [Instr.build, Value.cells]; generalize Instr.fill _ _ _ = z; cases z <;> rfl⟩
instance : TyCall Try.prog 3 := ⟨Try.call3⟩
instance : TyCall Try.prog 4 := ⟨Try.call4⟩
instance : TyCall Try.prog 5 := ⟨Try.call5⟩
instance : TyCall Try.prog 6 := ⟨Try.call6⟩
instance : TyCall Try.prog 7 := ⟨Try.call7⟩
instance : TyCall Try.prog 8 := ⟨Try.call8⟩
instance : TyCall Try.prog 9 := ⟨Try.call9⟩
instance : TyCall Try.prog 10 := ⟨Try.call10⟩
instance : TyCall Try.prog 11 := ⟨Try.call11⟩
instance : TyCall Try.prog 12 := ⟨Try.call12⟩
instance : TyCall Try.prog 13 := ⟨Try.call13⟩
instance : TyCall Try.prog 14 := ⟨Try.call14⟩
instance : TyCall Try.prog 15 := ⟨Try.call15⟩
instance : TyCall Try.prog 16 := ⟨Try.call16⟩
instance : TyCall Try.prog 17 := ⟨Try.call17⟩
instance : TyCall Try.prog 18 := ⟨Try.call18⟩
instance : TyCall Try.prog 19 := ⟨Try.call19⟩
instance : TyCall Try.prog 20 := ⟨Try.call20⟩
instance : TyCall Try.prog 21 := ⟨Try.call21⟩
instance : TyCall Try.prog 22 := ⟨Try.call22⟩
instance : TyCall Try.prog 23 := ⟨Try.call23⟩
instance : TyCall Try.prog 24 := ⟨Try.call24⟩
instance : TyCall Try.prog 25 := ⟨Try.call25⟩
instance : TyCall Try.prog 26 := ⟨Try.call26⟩
instance : TyCall Try.prog 27 := ⟨Try.call27⟩
instance : TyCall Try.prog 28 := ⟨Try.call28⟩
instance : TyCall Try.prog 29 := ⟨Try.call29⟩
instance : TyCall Try.prog 30 := ⟨Try.call30⟩
instance : TyCall Try.prog 31 := ⟨Try.call31⟩
instance : TyCall Try.prog 32 := ⟨Try.call32⟩
instance : TyCall Try.prog 33 := ⟨Try.call33⟩
instance : TyCall Try.prog 34 := ⟨Try.call34⟩
instance : TyCall Try.prog 35 := ⟨Try.call35⟩
instance : TyCall Try.prog 36 := ⟨Try.call36⟩
instance : TyCall Try.prog 37 := ⟨Try.call37⟩
instance : TyCall Try.prog 38 := ⟨Try.call38⟩
instance : TyCall Try.prog 39 := ⟨Try.call39⟩
instance : TyCall Try.prog 40 := ⟨Try.call40⟩
instance : TyCall Try.prog 41 := ⟨Try.call41⟩
instance : TyCall Try.prog 42 := ⟨Try.call42⟩
instance : TyCall Try.prog 43 := ⟨Try.call43⟩
instance : TyCall Try.prog 44 := ⟨Try.call44⟩
instance : TyCall Try.prog 45 := ⟨Try.call45⟩
instance : TyCall Try.prog 46 := ⟨Try.call46⟩
instance : TyCall Try.prog 47 := ⟨Try.call47⟩
instance : TyCall Try.prog 48 := ⟨Try.call48⟩
instance : TyCall Try.prog 49 := ⟨Try.call49⟩
instance : TyCall Try.prog 50 := ⟨Try.call50⟩
instance : TyCall Try.prog 51 := ⟨Try.call51⟩
instance : TyCall Try.prog 52 := ⟨Try.call52⟩
instance : TyCall Try.prog 53 := ⟨Try.call53⟩
instance : TyCall Try.prog 54 := ⟨Try.call54⟩
instance : TyCall Try.prog 55 := ⟨Try.call55⟩
instance : TyCall Try.prog 56 := ⟨Try.call56⟩
instance : TyCall Try.prog 57 := ⟨Try.call57⟩
instance : TyCall Try.prog 58 := ⟨Try.call58⟩
instance : TyCall Try.prog 59 := ⟨Try.call59⟩
instance : TyCall Try.prog 60 := ⟨Try.call60⟩
instance : TyCall Try.prog 61 := ⟨Try.call61⟩
instance : TyCall Try.prog 62 := ⟨Try.call62⟩
instance : TyCall Try.prog 63 := ⟨Try.call63⟩
instance : TyCall Try.prog 64 := ⟨Try.call64⟩
instance : TyCall Try.prog 65 := ⟨Try.call65⟩
instance : TyCall Try.prog 66 := ⟨Try.call66⟩
instance : TyCall Try.prog 67 := ⟨Try.call67⟩
instance : TyCall Try.prog 71 := ⟨Try.call71⟩
instance : TyCall Try.prog 73 := ⟨Try.call73⟩
instance : TyCall Try.prog 74 := ⟨Try.call74⟩
instance : TyCall Try.prog 75 := ⟨Try.call75⟩
instance : TyCall Try.prog 76 := ⟨Try.call76⟩
instance : TyCall Try.prog 77 := ⟨Try.call77⟩
instance : TyCall Try.prog 78 := ⟨Try.call78⟩
instance : TyCall Try.prog 79 := ⟨Try.call79⟩
instance : TyCall Try.prog 80 := ⟨Try.call80⟩
instance : TyCall Try.prog 82 := ⟨Try.call82⟩
instance : TyCall Try.prog 83 := ⟨Try.call83⟩
instance : TyCall Try.prog 84 := ⟨Try.call84⟩
instance : TyCall Try.prog 85 := ⟨Try.call85⟩
instance : TyCall Try.prog 86 := ⟨Try.call86⟩
instance : TyCall Try.prog 87 := ⟨Try.call87⟩
instance : TyCall Try.prog 88 := ⟨Try.call88⟩
instance : TyCall Try.prog 89 := ⟨Try.call89⟩
instance : TyCall Try.prog 90 := ⟨Try.call90⟩
instance : TyCall Try.prog 91 := ⟨Try.call91⟩
instance : TyCall Try.prog 92 := ⟨Try.call92⟩
instance : TyCall Try.prog 93 := ⟨Try.call93⟩
instance : TyCall Try.prog 94 := ⟨Try.call94⟩
instance : TyCall Try.prog 95 := ⟨Try.call95⟩
instance : TyCall Try.prog 96 := ⟨Try.call96⟩
instance : TyCall Try.prog 97 := ⟨Try.call97⟩
instance : TyCall Try.prog 98 := ⟨Try.call98⟩
instance : TyCall Try.prog 99 := ⟨Try.call99⟩
instance : TyMeth Try.prog 26 "Error" 115 := ⟨fun v w => by kernel_rfl⟩
end Go.Proofs.Ytmocncadncgaaaa
