/- The seat's types and functions, as the rules of the layer ask for them: written by wip/gen/types.py. -/
import Derived.Test.YtjhegjcjplpmjaaRows
import Derived.Test.YtjhegjcjplpmjaaSlD
namespace Go.Proofs.Ytjhegjcjplpmjaa
instance : TyOne Try.prog 1 := ⟨Try.isAgg1, Try.sizeOf1⟩
instance : TyZero Try.prog 1 (.nilFunc) := ⟨Try.zeroValue1⟩
instance : TyConc Try.prog 1 := ⟨fun x w => by simp [Instr.makeInterface]⟩
instance : TyOne Try.prog 2 := ⟨Try.isAgg2, Try.sizeOf2⟩
instance : TyZero Try.prog 2 (.int .i64 0) := ⟨Try.zeroValue2⟩
instance : TyUnder Try.prog 2 (.int .i64) := ⟨Try.underlying2⟩
instance : TyConc Try.prog 2 := ⟨fun x w => by simp [Instr.makeInterface]⟩
instance : TyOne Try.prog 3 := ⟨Try.isAgg3, Try.sizeOf3⟩
instance : TyZero Try.prog 3 (.int .i64 0) := ⟨Try.zeroValue3⟩
instance : TyUnder Try.prog 3 (.int .i64) := ⟨Try.underlying3⟩
instance : TyConc Try.prog 3 := ⟨fun x w => by simp [Instr.makeInterface]⟩
instance : TyOne Try.prog 4 := ⟨Try.isAgg4, Try.sizeOf4⟩
instance : TyZero Try.prog 4 (.bool false) := ⟨Try.zeroValue4⟩
instance : TyUnder Try.prog 4 .bool := ⟨Try.underlying4⟩
instance : TyConc Try.prog 4 := ⟨fun x w => by simp [Instr.makeInterface]⟩
instance : TyOne Try.prog 5 := ⟨Try.isAgg5, Try.sizeOf5⟩
instance : TyZero Try.prog 5 (.int .u8 0) := ⟨Try.zeroValue5⟩
instance : TyUnder Try.prog 5 (.int .u8) := ⟨Try.underlying5⟩
instance : TyConc Try.prog 5 := ⟨fun x w => by simp [Instr.makeInterface]⟩
instance : TyOne Try.prog 6 := ⟨Try.isAgg6, Try.sizeOf6⟩
instance : TyZero Try.prog 6 (.int .u8 0) := ⟨Try.zeroValue6⟩
instance : TyUnder Try.prog 6 (.int .u8) := ⟨Try.underlying6⟩
instance : TyConc Try.prog 6 := ⟨fun x w => by simp [Instr.makeInterface]⟩
instance : TyAgg Try.prog 7 4 := ⟨Try.isAgg7, Try.sizeOf7⟩
instance : TyZero Try.prog 7 (.agg #[.int .i64 0, .int .i64 0, .bool false, .int .u8 0]) := ⟨Try.zeroValue7⟩
instance : TyConc Try.prog 7 := ⟨fun x w => by simp [Instr.makeInterface]⟩
instance : TyField Try.prog 7 0 0 := tyField_mk Try.underlying7 rfl rfl Try.sizeOf2 (by decide)
instance : TyField Try.prog 7 1 1 := tyField_mk Try.underlying7 rfl rfl Try.sizeOf3 (by decide)
instance : TyField Try.prog 7 2 2 := tyField_mk Try.underlying7 rfl rfl Try.sizeOf4 (by decide)
instance : TyField Try.prog 7 3 3 := tyField_mk Try.underlying7 rfl rfl Try.sizeOf6 (by decide)
instance : TyStruct Try.prog 7 [.int .i64 0, .int .i64 0, .bool false, .int .u8 0] [(0, 1), (1, 1), (2, 1), (3, 1)] := ⟨fun ps w => by simp [Instr.build, Value.cells]; generalize Instr.fill _ _ _ = z; cases z <;> rfl⟩
instance : TyAgg Try.prog 8 4 := ⟨Try.isAgg8, Try.sizeOf8⟩
instance : TyZero Try.prog 8 (.agg #[.int .i64 0, .int .i64 0, .bool false, .int .u8 0]) := ⟨Try.zeroValue8⟩
instance : TyConc Try.prog 8 := ⟨fun x w => by simp [Instr.makeInterface]⟩
instance : TyField Try.prog 8 0 0 := tyField_mk Try.underlying8 rfl rfl Try.sizeOf2 (by decide)
instance : TyField Try.prog 8 1 1 := tyField_mk Try.underlying8 rfl rfl Try.sizeOf3 (by decide)
instance : TyField Try.prog 8 2 2 := tyField_mk Try.underlying8 rfl rfl Try.sizeOf4 (by decide)
instance : TyField Try.prog 8 3 3 := tyField_mk Try.underlying8 rfl rfl Try.sizeOf6 (by decide)
instance : TyStruct Try.prog 8 [.int .i64 0, .int .i64 0, .bool false, .int .u8 0] [(0, 1), (1, 1), (2, 1), (3, 1)] := ⟨fun ps w => by simp [Instr.build, Value.cells]; generalize Instr.fill _ _ _ = z; cases z <;> rfl⟩
instance : TyOne Try.prog 9 := ⟨Try.isAgg9, Try.sizeOf9⟩
instance : TyZero Try.prog 9 (.string ⟨#[]⟩) := ⟨Try.zeroValue9⟩
instance : TyUnder Try.prog 9 .string := ⟨Try.underlying9⟩
instance : TyConc Try.prog 9 := ⟨fun x w => by simp [Instr.makeInterface]⟩
instance : TyOne Try.prog 10 := ⟨Try.isAgg10, Try.sizeOf10⟩
instance : TyZero Try.prog 10 (.string ⟨#[]⟩) := ⟨Try.zeroValue10⟩
instance : TyUnder Try.prog 10 .string := ⟨Try.underlying10⟩
instance : TyConc Try.prog 10 := ⟨fun x w => by simp [Instr.makeInterface]⟩
instance : TyOne Try.prog 11 := ⟨Try.isAgg11, Try.sizeOf11⟩
instance : TyZero Try.prog 11 (.string ⟨#[]⟩) := ⟨Try.zeroValue11⟩
instance : TyUnder Try.prog 11 .string := ⟨Try.underlying11⟩
instance : TyConc Try.prog 11 := ⟨fun x w => by simp [Instr.makeInterface]⟩
instance : TyOne Try.prog 12 := ⟨Try.isAgg12, Try.sizeOf12⟩
instance : TyZero Try.prog 12 (.int .u64 0) := ⟨Try.zeroValue12⟩
instance : TyUnder Try.prog 12 (.int .u64) := ⟨Try.underlying12⟩
instance : TyConc Try.prog 12 := ⟨fun x w => by simp [Instr.makeInterface]⟩
instance : TyAgg Try.prog 13 2 := ⟨Try.isAgg13, Try.sizeOf13⟩
instance : TyZero Try.prog 13 (.agg #[.string ⟨#[]⟩, .int .u64 0]) := ⟨Try.zeroValue13⟩
instance : TyConc Try.prog 13 := ⟨fun x w => by simp [Instr.makeInterface]⟩
instance : TyField Try.prog 13 0 0 := tyField_mk Try.underlying13 rfl rfl Try.sizeOf9 (by decide)
instance : TyField Try.prog 13 1 1 := tyField_mk Try.underlying13 rfl rfl Try.sizeOf12 (by decide)
instance : TyStruct Try.prog 13 [.string ⟨#[]⟩, .int .u64 0] [(0, 1), (1, 1)] := ⟨fun ps w => by simp [Instr.build, Value.cells]; generalize Instr.fill _ _ _ = z; cases z <;> rfl⟩
instance : TyAgg Try.prog 14 2 := ⟨Try.isAgg14, Try.sizeOf14⟩
instance : TyZero Try.prog 14 (.agg #[.string ⟨#[]⟩, .int .u64 0]) := ⟨Try.zeroValue14⟩
instance : TyConc Try.prog 14 := ⟨fun x w => by simp [Instr.makeInterface]⟩
instance : TyField Try.prog 14 0 0 := tyField_mk Try.underlying14 rfl rfl Try.sizeOf9 (by decide)
instance : TyField Try.prog 14 1 1 := tyField_mk Try.underlying14 rfl rfl Try.sizeOf12 (by decide)
instance : TyStruct Try.prog 14 [.string ⟨#[]⟩, .int .u64 0] [(0, 1), (1, 1)] := ⟨fun ps w => by simp [Instr.build, Value.cells]; generalize Instr.fill _ _ _ = z; cases z <;> rfl⟩
instance : TyOne Try.prog 15 := ⟨Try.isAgg15, Try.sizeOf15⟩
instance : TyZero Try.prog 15 (.pointer none) := ⟨Try.zeroValue15⟩
instance : TyUnder Try.prog 15 (.pointer 165) := ⟨Try.underlying15⟩
instance : TyConc Try.prog 15 := ⟨fun x w => by simp [Instr.makeInterface]⟩
instance : TyOne Try.prog 16 := ⟨Try.isAgg16, Try.sizeOf16⟩
instance : TyZero Try.prog 16 (.pointer none) := ⟨Try.zeroValue16⟩
instance : TyUnder Try.prog 16 (.pointer 168) := ⟨Try.underlying16⟩
instance : TyConc Try.prog 16 := ⟨fun x w => by simp [Instr.makeInterface]⟩
instance : TyOne Try.prog 17 := ⟨Try.isAgg17, Try.sizeOf17⟩
instance : TyZero Try.prog 17 (.pointer none) := ⟨Try.zeroValue17⟩
instance : TyUnder Try.prog 17 (.pointer 176) := ⟨Try.underlying17⟩
instance : TyConc Try.prog 17 := ⟨fun x w => by simp [Instr.makeInterface]⟩
instance : TyAgg Try.prog 18 1 := ⟨Try.isAgg18, Try.sizeOf18⟩
instance : TyZero Try.prog 18 (.agg #[.pointer none]) := ⟨Try.zeroValue18⟩
instance : TyConc Try.prog 18 := ⟨fun x w => by simp [Instr.makeInterface]⟩
instance : TyField Try.prog 18 0 0 := tyField_mk Try.underlying18 rfl rfl Try.sizeOf17 (by decide)
instance : TyStruct Try.prog 18 [.pointer none] [(0, 1)] := ⟨fun ps w => by simp [Instr.build, Value.cells]; generalize Instr.fill _ _ _ = z; cases z <;> rfl⟩
instance : TyAgg Try.prog 19 1 := ⟨Try.isAgg19, Try.sizeOf19⟩
instance : TyZero Try.prog 19 (.agg #[.pointer none]) := ⟨Try.zeroValue19⟩
instance : TyConc Try.prog 19 := ⟨fun x w => by simp [Instr.makeInterface]⟩
instance : TyField Try.prog 19 0 0 := tyField_mk Try.underlying19 rfl rfl Try.sizeOf17 (by decide)
instance : TyStruct Try.prog 19 [.pointer none] [(0, 1)] := ⟨fun ps w => by simp [Instr.build, Value.cells]; generalize Instr.fill _ _ _ = z; cases z <;> rfl⟩
instance : TyOne Try.prog 20 := ⟨Try.isAgg20, Try.sizeOf20⟩
instance : TyZero Try.prog 20 (.nilIface) := ⟨Try.zeroValue20⟩
instance : TyOne Try.prog 21 := ⟨Try.isAgg21, Try.sizeOf21⟩
instance : TyZero Try.prog 21 (.int .i32 0) := ⟨Try.zeroValue21⟩
instance : TyUnder Try.prog 21 (.int .i32) := ⟨Try.underlying21⟩
instance : TyConc Try.prog 21 := ⟨fun x w => by simp [Instr.makeInterface]⟩
instance : TyOne Try.prog 22 := ⟨Try.isAgg22, Try.sizeOf22⟩
instance : TyZero Try.prog 22 (.slice none 0 0) := ⟨Try.zeroValue22⟩
instance : TyUnder Try.prog 22 (.slice 32) := ⟨Try.underlying22⟩
instance : TyConc Try.prog 22 := ⟨fun x w => by simp [Instr.makeInterface]⟩
instance : TyOne Try.prog 23 := ⟨Try.isAgg23, Try.sizeOf23⟩
instance : TyZero Try.prog 23 (.nilFunc) := ⟨Try.zeroValue23⟩
instance : TyConc Try.prog 23 := ⟨fun x w => by simp [Instr.makeInterface]⟩
instance : TyOne Try.prog 24 := ⟨Try.isAgg24, Try.sizeOf24⟩
instance : TyZero Try.prog 24 (.pointer none) := ⟨Try.zeroValue24⟩
instance : TyUnder Try.prog 24 (.pointer 83) := ⟨Try.underlying24⟩
instance : TyConc Try.prog 24 := ⟨fun x w => by simp [Instr.makeInterface]⟩
instance : TyOne Try.prog 25 := ⟨Try.isAgg25, Try.sizeOf25⟩
instance : TyZero Try.prog 25 (.nilFunc) := ⟨Try.zeroValue25⟩
instance : TyConc Try.prog 25 := ⟨fun x w => by simp [Instr.makeInterface]⟩
instance : TyOne Try.prog 26 := ⟨Try.isAgg26, Try.sizeOf26⟩
instance : TyZero Try.prog 26 (.pointer none) := ⟨Try.zeroValue26⟩
instance : TyUnder Try.prog 26 (.pointer 57) := ⟨Try.underlying26⟩
instance : TyConc Try.prog 26 := ⟨fun x w => by simp [Instr.makeInterface]⟩
instance : TyOne Try.prog 27 := ⟨Try.isAgg27, Try.sizeOf27⟩
instance : TyZero Try.prog 27 (.nilFunc) := ⟨Try.zeroValue27⟩
instance : TyConc Try.prog 27 := ⟨fun x w => by simp [Instr.makeInterface]⟩
instance : TyOne Try.prog 28 := ⟨Try.isAgg28, Try.sizeOf28⟩
instance : TyZero Try.prog 28 (.slice none 0 0) := ⟨Try.zeroValue28⟩
instance : TyUnder Try.prog 28 (.slice 5) := ⟨Try.underlying28⟩
instance : TyConc Try.prog 28 := ⟨fun x w => by simp [Instr.makeInterface]⟩
instance : TyOne Try.prog 30 := ⟨Try.isAgg30, Try.sizeOf30⟩
instance : TyZero Try.prog 30 (.nilFunc) := ⟨Try.zeroValue30⟩
instance : TyConc Try.prog 30 := ⟨fun x w => by simp [Instr.makeInterface]⟩
instance : TyAgg Try.prog 31 5 := ⟨Try.isAgg31, Try.sizeOf31⟩
instance : TyZero Try.prog 31 (.agg #[.int .i64 0, .int .i64 0, .int .i64 0, .bool false, .slice none 0 0]) := ⟨Try.zeroValue31⟩
instance : TyConc Try.prog 31 := ⟨fun x w => by simp [Instr.makeInterface]⟩
instance : TyField Try.prog 31 0 0 := tyField_mk Try.underlying31 rfl rfl Try.sizeOf3 (by decide)
instance : TyField Try.prog 31 1 1 := tyField_mk Try.underlying31 rfl rfl Try.sizeOf3 (by decide)
instance : TyField Try.prog 31 2 2 := tyField_mk Try.underlying31 rfl rfl Try.sizeOf3 (by decide)
instance : TyField Try.prog 31 3 3 := tyField_mk Try.underlying31 rfl rfl Try.sizeOf4 (by decide)
instance : TyField Try.prog 31 4 4 := tyField_mk Try.underlying31 rfl rfl Try.sizeOf28 (by decide)
instance : TyStruct Try.prog 31 [.int .i64 0, .int .i64 0, .int .i64 0, .bool false, .slice none 0 0] [(0, 1), (1, 1), (2, 1), (3, 1), (4, 1)] := ⟨fun ps w => by simp [Instr.build, Value.cells]; generalize Instr.fill _ _ _ = z; cases z <;> rfl⟩
instance : TyAgg Try.prog 32 5 := ⟨Try.isAgg32, Try.sizeOf32⟩
instance : TyZero Try.prog 32 (.agg #[.int .i64 0, .int .i64 0, .int .i64 0, .bool false, .slice none 0 0]) := ⟨Try.zeroValue32⟩
instance : TyConc Try.prog 32 := ⟨fun x w => by simp [Instr.makeInterface]⟩
instance : TyField Try.prog 32 0 0 := tyField_mk Try.underlying32 rfl rfl Try.sizeOf3 (by decide)
instance : TyField Try.prog 32 1 1 := tyField_mk Try.underlying32 rfl rfl Try.sizeOf3 (by decide)
instance : TyField Try.prog 32 2 2 := tyField_mk Try.underlying32 rfl rfl Try.sizeOf3 (by decide)
instance : TyField Try.prog 32 3 3 := tyField_mk Try.underlying32 rfl rfl Try.sizeOf4 (by decide)
instance : TyField Try.prog 32 4 4 := tyField_mk Try.underlying32 rfl rfl Try.sizeOf28 (by decide)
instance : TyStruct Try.prog 32 [.int .i64 0, .int .i64 0, .int .i64 0, .bool false, .slice none 0 0] [(0, 1), (1, 1), (2, 1), (3, 1), (4, 1)] := ⟨fun ps w => by simp [Instr.build, Value.cells]; generalize Instr.fill _ _ _ = z; cases z <;> rfl⟩
instance : TyOne Try.prog 33 := ⟨Try.isAgg33, Try.sizeOf33⟩
instance : TyZero Try.prog 33 (.int .i64 0) := ⟨Try.zeroValue33⟩
instance : TyUnder Try.prog 33 (.int .i64) := ⟨Try.underlying33⟩
instance : TyConc Try.prog 33 := ⟨fun x w => by simp [Instr.makeInterface]⟩
instance : TyOne Try.prog 35 := ⟨Try.isAgg35, Try.sizeOf35⟩
instance : TyZero Try.prog 35 (.nilFunc) := ⟨Try.zeroValue35⟩
instance : TyConc Try.prog 35 := ⟨fun x w => by simp [Instr.makeInterface]⟩
instance : TyOne Try.prog 36 := ⟨Try.isAgg36, Try.sizeOf36⟩
instance : TyZero Try.prog 36 (.nilFunc) := ⟨Try.zeroValue36⟩
instance : TyConc Try.prog 36 := ⟨fun x w => by simp [Instr.makeInterface]⟩
instance : TyOne Try.prog 37 := ⟨Try.isAgg37, Try.sizeOf37⟩
instance : TyZero Try.prog 37 (.nilFunc) := ⟨Try.zeroValue37⟩
instance : TyConc Try.prog 37 := ⟨fun x w => by simp [Instr.makeInterface]⟩
instance : TyOne Try.prog 38 := ⟨Try.isAgg38, Try.sizeOf38⟩
instance : TyZero Try.prog 38 (.nilFunc) := ⟨Try.zeroValue38⟩
instance : TyConc Try.prog 38 := ⟨fun x w => by simp [Instr.makeInterface]⟩
instance : TyOne Try.prog 39 := ⟨Try.isAgg39, Try.sizeOf39⟩
instance : TyZero Try.prog 39 (.nilFunc) := ⟨Try.zeroValue39⟩
instance : TyConc Try.prog 39 := ⟨fun x w => by simp [Instr.makeInterface]⟩
instance : TyOne Try.prog 40 := ⟨Try.isAgg40, Try.sizeOf40⟩
instance : TyZero Try.prog 40 (.slice none 0 0) := ⟨Try.zeroValue40⟩
instance : TyUnder Try.prog 40 (.slice 9) := ⟨Try.underlying40⟩
instance : TyConc Try.prog 40 := ⟨fun x w => by simp [Instr.makeInterface]⟩
instance : TyOne Try.prog 41 := ⟨Try.isAgg41, Try.sizeOf41⟩
instance : TyZero Try.prog 41 (.nilFunc) := ⟨Try.zeroValue41⟩
instance : TyConc Try.prog 41 := ⟨fun x w => by simp [Instr.makeInterface]⟩
instance : TyOne Try.prog 42 := ⟨Try.isAgg42, Try.sizeOf42⟩
instance : TyZero Try.prog 42 (.slice none 0 0) := ⟨Try.zeroValue42⟩
instance : TyUnder Try.prog 42 (.slice 3) := ⟨Try.underlying42⟩
instance : TyConc Try.prog 42 := ⟨fun x w => by simp [Instr.makeInterface]⟩
instance : TyOne Try.prog 43 := ⟨Try.isAgg43, Try.sizeOf43⟩
instance : TyZero Try.prog 43 (.nilFunc) := ⟨Try.zeroValue43⟩
instance : TyConc Try.prog 43 := ⟨fun x w => by simp [Instr.makeInterface]⟩
instance : TyOne Try.prog 44 := ⟨Try.isAgg44, Try.sizeOf44⟩
instance : TyZero Try.prog 44 (.nilFunc) := ⟨Try.zeroValue44⟩
instance : TyConc Try.prog 44 := ⟨fun x w => by simp [Instr.makeInterface]⟩
instance : TyOne Try.prog 45 := ⟨Try.isAgg45, Try.sizeOf45⟩
instance : TyZero Try.prog 45 (.nilFunc) := ⟨Try.zeroValue45⟩
instance : TyConc Try.prog 45 := ⟨fun x w => by simp [Instr.makeInterface]⟩
instance : TyOne Try.prog 46 := ⟨Try.isAgg46, Try.sizeOf46⟩
instance : TyZero Try.prog 46 (.nilFunc) := ⟨Try.zeroValue46⟩
instance : TyConc Try.prog 46 := ⟨fun x w => by simp [Instr.makeInterface]⟩
instance : TyOne Try.prog 47 := ⟨Try.isAgg47, Try.sizeOf47⟩
instance : TyZero Try.prog 47 (.nilFunc) := ⟨Try.zeroValue47⟩
instance : TyConc Try.prog 47 := ⟨fun x w => by simp [Instr.makeInterface]⟩
instance : TyOne Try.prog 48 := ⟨Try.isAgg48, Try.sizeOf48⟩
instance : TyZero Try.prog 48 (.nilFunc) := ⟨Try.zeroValue48⟩
instance : TyConc Try.prog 48 := ⟨fun x w => by simp [Instr.makeInterface]⟩
instance : TyOne Try.prog 49 := ⟨Try.isAgg49, Try.sizeOf49⟩
instance : TyZero Try.prog 49 (.nilFunc) := ⟨Try.zeroValue49⟩
instance : TyConc Try.prog 49 := ⟨fun x w => by simp [Instr.makeInterface]⟩
instance : TyOne Try.prog 50 := ⟨Try.isAgg50, Try.sizeOf50⟩
instance : TyZero Try.prog 50 (.nilFunc) := ⟨Try.zeroValue50⟩
instance : TyConc Try.prog 50 := ⟨fun x w => by simp [Instr.makeInterface]⟩
instance : TyOne Try.prog 51 := ⟨Try.isAgg51, Try.sizeOf51⟩
instance : TyZero Try.prog 51 (.pointer none) := ⟨Try.zeroValue51⟩
instance : TyUnder Try.prog 51 (.pointer 97) := ⟨Try.underlying51⟩
instance : TyConc Try.prog 51 := ⟨fun x w => by simp [Instr.makeInterface]⟩
instance : TyOne Try.prog 52 := ⟨Try.isAgg52, Try.sizeOf52⟩
instance : TyZero Try.prog 52 (.nilFunc) := ⟨Try.zeroValue52⟩
instance : TyConc Try.prog 52 := ⟨fun x w => by simp [Instr.makeInterface]⟩
instance : TyAgg Try.prog 53 2 := ⟨Try.isAgg53, Try.sizeOf53⟩
instance : TyZero Try.prog 53 (.agg #[.string ⟨#[]⟩, .int .i64 0]) := ⟨Try.zeroValue53⟩
instance : TyConc Try.prog 53 := ⟨fun x w => by simp [Instr.makeInterface]⟩
instance : TyField Try.prog 53 0 0 := tyField_mk Try.underlying53 rfl rfl Try.sizeOf9 (by decide)
instance : TyField Try.prog 53 1 1 := tyField_mk Try.underlying53 rfl rfl Try.sizeOf3 (by decide)
instance : TyStruct Try.prog 53 [.string ⟨#[]⟩, .int .i64 0] [(0, 1), (1, 1)] := ⟨fun ps w => by simp [Instr.build, Value.cells]; generalize Instr.fill _ _ _ = z; cases z <;> rfl⟩
instance : TyAgg Try.prog 54 2 := ⟨Try.isAgg54, Try.sizeOf54⟩
instance : TyZero Try.prog 54 (.agg #[.string ⟨#[]⟩, .int .i64 0]) := ⟨Try.zeroValue54⟩
instance : TyConc Try.prog 54 := ⟨fun x w => by simp [Instr.makeInterface]⟩
instance : TyField Try.prog 54 0 0 := tyField_mk Try.underlying54 rfl rfl Try.sizeOf9 (by decide)
instance : TyField Try.prog 54 1 1 := tyField_mk Try.underlying54 rfl rfl Try.sizeOf3 (by decide)
instance : TyStruct Try.prog 54 [.string ⟨#[]⟩, .int .i64 0] [(0, 1), (1, 1)] := ⟨fun ps w => by simp [Instr.build, Value.cells]; generalize Instr.fill _ _ _ = z; cases z <;> rfl⟩
instance : TyOne Try.prog 55 := ⟨Try.isAgg55, Try.sizeOf55⟩
instance : TyZero Try.prog 55 (.map none) := ⟨Try.zeroValue55⟩
instance : TyUnder Try.prog 55 (.map 54 59) := ⟨Try.underlying55⟩
instance : TyConc Try.prog 55 := ⟨fun x w => by simp [Instr.makeInterface]⟩
instance : TyAgg Try.prog 56 3 := ⟨Try.isAgg56, Try.sizeOf56⟩
instance : TyZero Try.prog 56 (.agg #[.pointer none, .pointer none, .map none]) := ⟨Try.zeroValue56⟩
instance : TyConc Try.prog 56 := ⟨fun x w => by simp [Instr.makeInterface]⟩
instance : TyField Try.prog 56 0 0 := tyField_mk Try.underlying56 rfl rfl Try.sizeOf24 (by decide)
instance : TyField Try.prog 56 1 1 := tyField_mk Try.underlying56 rfl rfl Try.sizeOf51 (by decide)
instance : TyField Try.prog 56 2 2 := tyField_mk Try.underlying56 rfl rfl Try.sizeOf55 (by decide)
instance : TyStruct Try.prog 56 [.pointer none, .pointer none, .map none] [(0, 1), (1, 1), (2, 1)] := ⟨fun ps w => by simp [Instr.build, Value.cells]; generalize Instr.fill _ _ _ = z; cases z <;> rfl⟩
instance : TyAgg Try.prog 57 3 := ⟨Try.isAgg57, Try.sizeOf57⟩
instance : TyZero Try.prog 57 (.agg #[.pointer none, .pointer none, .map none]) := ⟨Try.zeroValue57⟩
instance : TyConc Try.prog 57 := ⟨fun x w => by simp [Instr.makeInterface]⟩
instance : TyField Try.prog 57 0 0 := tyField_mk Try.underlying57 rfl rfl Try.sizeOf24 (by decide)
instance : TyField Try.prog 57 1 1 := tyField_mk Try.underlying57 rfl rfl Try.sizeOf51 (by decide)
instance : TyField Try.prog 57 2 2 := tyField_mk Try.underlying57 rfl rfl Try.sizeOf55 (by decide)
instance : TyStruct Try.prog 57 [.pointer none, .pointer none, .map none] [(0, 1), (1, 1), (2, 1)] := ⟨fun ps w => by simp [Instr.build, Value.cells]; generalize Instr.fill _ _ _ = z; cases z <;> rfl⟩
instance : TyOne Try.prog 58 := ⟨Try.isAgg58, Try.sizeOf58⟩
instance : TyZero Try.prog 58 (.nilFunc) := ⟨Try.zeroValue58⟩
instance : TyConc Try.prog 58 := ⟨fun x w => by simp [Instr.makeInterface]⟩
instance : TyOne Try.prog 59 := ⟨Try.isAgg59, Try.sizeOf59⟩
instance : TyZero Try.prog 59 (.pointer none) := ⟨Try.zeroValue59⟩
instance : TyUnder Try.prog 59 (.pointer 62) := ⟨Try.underlying59⟩
instance : TyConc Try.prog 59 := ⟨fun x w => by simp [Instr.makeInterface]⟩
instance : TyOne Try.prog 60 := ⟨Try.isAgg60, Try.sizeOf60⟩
instance : TyZero Try.prog 60 (.nilFunc) := ⟨Try.zeroValue60⟩
instance : TyConc Try.prog 60 := ⟨fun x w => by simp [Instr.makeInterface]⟩
instance : TyAgg Try.prog 61 2 := ⟨Try.isAgg61, Try.sizeOf61⟩
instance : TyZero Try.prog 61 (.agg #[.slice none 0 0, .bool false]) := ⟨Try.zeroValue61⟩
instance : TyConc Try.prog 61 := ⟨fun x w => by simp [Instr.makeInterface]⟩
instance : TyField Try.prog 61 0 0 := tyField_mk Try.underlying61 rfl rfl Try.sizeOf28 (by decide)
instance : TyField Try.prog 61 1 1 := tyField_mk Try.underlying61 rfl rfl Try.sizeOf4 (by decide)
instance : TyStruct Try.prog 61 [.slice none 0 0, .bool false] [(0, 1), (1, 1)] := ⟨fun ps w => by simp [Instr.build, Value.cells]; generalize Instr.fill _ _ _ = z; cases z <;> rfl⟩
instance : TyAgg Try.prog 62 2 := ⟨Try.isAgg62, Try.sizeOf62⟩
instance : TyZero Try.prog 62 (.agg #[.slice none 0 0, .bool false]) := ⟨Try.zeroValue62⟩
instance : TyConc Try.prog 62 := ⟨fun x w => by simp [Instr.makeInterface]⟩
instance : TyField Try.prog 62 0 0 := tyField_mk Try.underlying62 rfl rfl Try.sizeOf28 (by decide)
instance : TyField Try.prog 62 1 1 := tyField_mk Try.underlying62 rfl rfl Try.sizeOf4 (by decide)
instance : TyStruct Try.prog 62 [.slice none 0 0, .bool false] [(0, 1), (1, 1)] := ⟨fun ps w => by simp [Instr.build, Value.cells]; generalize Instr.fill _ _ _ = z; cases z <;> rfl⟩
instance : TyOne Try.prog 63 := ⟨Try.isAgg63, Try.sizeOf63⟩
instance : TyZero Try.prog 63 (.slice none 0 0) := ⟨Try.zeroValue63⟩
instance : TyUnder Try.prog 63 (.slice 54) := ⟨Try.underlying63⟩
instance : TyConc Try.prog 63 := ⟨fun x w => by simp [Instr.makeInterface]⟩
instance : TyOne Try.prog 64 := ⟨Try.isAgg64, Try.sizeOf64⟩
instance : TyZero Try.prog 64 (.nilFunc) := ⟨Try.zeroValue64⟩
instance : TyConc Try.prog 64 := ⟨fun x w => by simp [Instr.makeInterface]⟩
instance : TyOne Try.prog 65 := ⟨Try.isAgg65, Try.sizeOf65⟩
instance : TyZero Try.prog 65 (.nilFunc) := ⟨Try.zeroValue65⟩
instance : TyConc Try.prog 65 := ⟨fun x w => by simp [Instr.makeInterface]⟩
instance : TyOne Try.prog 66 := ⟨Try.isAgg66, Try.sizeOf66⟩
instance : TyZero Try.prog 66 (.pointer none) := ⟨Try.zeroValue66⟩
instance : TyUnder Try.prog 66 (.pointer 70) := ⟨Try.underlying66⟩
instance : TyConc Try.prog 66 := ⟨fun x w => by simp [Instr.makeInterface]⟩
instance : TyOne Try.prog 68 := ⟨Try.isAgg68, Try.sizeOf68⟩
instance : TyZero Try.prog 68 (.nilFunc) := ⟨Try.zeroValue68⟩
instance : TyConc Try.prog 68 := ⟨fun x w => by simp [Instr.makeInterface]⟩
instance : TyAgg Try.prog 69 2 := ⟨Try.isAgg69, Try.sizeOf69⟩
instance : TyZero Try.prog 69 (.agg #[.slice none 0 0, .slice none 0 0]) := ⟨Try.zeroValue69⟩
instance : TyConc Try.prog 69 := ⟨fun x w => by simp [Instr.makeInterface]⟩
instance : TyField Try.prog 69 0 0 := tyField_mk Try.underlying69 rfl rfl Try.sizeOf28 (by decide)
instance : TyField Try.prog 69 1 1 := tyField_mk Try.underlying69 rfl rfl Try.sizeOf28 (by decide)
instance : TyStruct Try.prog 69 [.slice none 0 0, .slice none 0 0] [(0, 1), (1, 1)] := ⟨fun ps w => by simp [Instr.build, Value.cells]; generalize Instr.fill _ _ _ = z; cases z <;> rfl⟩
instance : TyAgg Try.prog 70 2 := ⟨Try.isAgg70, Try.sizeOf70⟩
instance : TyZero Try.prog 70 (.agg #[.slice none 0 0, .slice none 0 0]) := ⟨Try.zeroValue70⟩
instance : TyConc Try.prog 70 := ⟨fun x w => by simp [Instr.makeInterface]⟩
instance : TyField Try.prog 70 0 0 := tyField_mk Try.underlying70 rfl rfl Try.sizeOf28 (by decide)
instance : TyField Try.prog 70 1 1 := tyField_mk Try.underlying70 rfl rfl Try.sizeOf28 (by decide)
instance : TyStruct Try.prog 70 [.slice none 0 0, .slice none 0 0] [(0, 1), (1, 1)] := ⟨fun ps w => by simp [Instr.build, Value.cells]; generalize Instr.fill _ _ _ = z; cases z <;> rfl⟩
instance : TyOne Try.prog 71 := ⟨Try.isAgg71, Try.sizeOf71⟩
instance : TyZero Try.prog 71 (.nilFunc) := ⟨Try.zeroValue71⟩
instance : TyConc Try.prog 71 := ⟨fun x w => by simp [Instr.makeInterface]⟩
instance : TyOne Try.prog 72 := ⟨Try.isAgg72, Try.sizeOf72⟩
instance : TyZero Try.prog 72 (.map none) := ⟨Try.zeroValue72⟩
instance : TyUnder Try.prog 72 (.map 9 66) := ⟨Try.underlying72⟩
instance : TyConc Try.prog 72 := ⟨fun x w => by simp [Instr.makeInterface]⟩
instance : TyZero Try.prog 73 (.agg #[]) := ⟨Try.zeroValue73⟩
instance : TyConc Try.prog 73 := ⟨fun x w => by simp [Instr.makeInterface]⟩
instance : TyZero Try.prog 74 (.agg #[]) := ⟨Try.zeroValue74⟩
instance : TyConc Try.prog 74 := ⟨fun x w => by simp [Instr.makeInterface]⟩
instance : TyZero Try.prog 75 (.agg #[]) := ⟨Try.zeroValue75⟩
instance : TyConc Try.prog 75 := ⟨fun x w => by simp [Instr.makeInterface]⟩
instance : TyAgg Try.prog 76 1 := ⟨Try.isAgg76, Try.sizeOf76⟩
instance : TyZero Try.prog 76 (.agg #[.int .i64 0]) := ⟨Try.zeroValue76⟩
instance : TyConc Try.prog 76 := ⟨fun x w => by simp [Instr.makeInterface]⟩
instance : TyField Try.prog 76 2 0 := tyField_mk Try.underlying76 rfl rfl Try.sizeOf2 (by decide)
instance : TyAgg Try.prog 77 1 := ⟨Try.isAgg77, Try.sizeOf77⟩
instance : TyZero Try.prog 77 (.agg #[.int .i64 0]) := ⟨Try.zeroValue77⟩
instance : TyConc Try.prog 77 := ⟨fun x w => by simp [Instr.makeInterface]⟩
instance : TyField Try.prog 77 2 0 := tyField_mk Try.underlying77 rfl rfl Try.sizeOf2 (by decide)
instance : TyOne Try.prog 78 := ⟨Try.isAgg78, Try.sizeOf78⟩
instance : TyZero Try.prog 78 (.slice none 0 0) := ⟨Try.zeroValue78⟩
instance : TyUnder Try.prog 78 (.slice 4) := ⟨Try.underlying78⟩
instance : TyConc Try.prog 78 := ⟨fun x w => by simp [Instr.makeInterface]⟩
instance : TyOne Try.prog 79 := ⟨Try.isAgg79, Try.sizeOf79⟩
instance : TyZero Try.prog 79 (.int .u32 0) := ⟨Try.zeroValue79⟩
instance : TyUnder Try.prog 79 (.int .u32) := ⟨Try.underlying79⟩
instance : TyConc Try.prog 79 := ⟨fun x w => by simp [Instr.makeInterface]⟩
instance : TyAgg Try.prog 80 1 := ⟨Try.isAgg80, Try.sizeOf80⟩
instance : TyZero Try.prog 80 (.agg #[.int .u32 0]) := ⟨Try.zeroValue80⟩
instance : TyConc Try.prog 80 := ⟨fun x w => by simp [Instr.makeInterface]⟩
instance : TyField Try.prog 80 1 0 := tyField_mk Try.underlying80 rfl rfl Try.sizeOf79 (by decide)
instance : TyAgg Try.prog 81 1 := ⟨Try.isAgg81, Try.sizeOf81⟩
instance : TyZero Try.prog 81 (.agg #[.int .u32 0]) := ⟨Try.zeroValue81⟩
instance : TyConc Try.prog 81 := ⟨fun x w => by simp [Instr.makeInterface]⟩
instance : TyField Try.prog 81 1 0 := tyField_mk Try.underlying81 rfl rfl Try.sizeOf79 (by decide)
instance : TyAgg Try.prog 82 7 := ⟨Try.isAgg82, Try.sizeOf82⟩
instance : TyZero Try.prog 82 (.agg #[.map none, .int .i64 0, .int .i64 0, .int .i64 0, .int .i64 0, .slice none 0 0, .int .u32 0]) := ⟨Try.zeroValue82⟩
instance : TyConc Try.prog 82 := ⟨fun x w => by simp [Instr.makeInterface]⟩
instance : TyField Try.prog 82 0 0 := tyField_mk Try.underlying82 rfl rfl Try.sizeOf72 (by decide)
instance : TyField Try.prog 82 1 1 := tyField_mk Try.underlying82 rfl rfl Try.sizeOf3 (by decide)
instance : TyField Try.prog 82 2 2 := tyField_mk Try.underlying82 rfl rfl Try.sizeOf3 (by decide)
instance : TyField Try.prog 82 3 3 := tyField_mk Try.underlying82 rfl rfl Try.sizeOf77 (by decide)
instance : TyField Try.prog 82 4 4 := tyField_mk Try.underlying82 rfl rfl Try.sizeOf3 (by decide)
instance : TyField Try.prog 82 5 5 := tyField_mk Try.underlying82 rfl rfl Try.sizeOf78 (by decide)
instance : TyField Try.prog 82 6 6 := tyField_mk Try.underlying82 rfl rfl Try.sizeOf81 (by decide)
instance : TyStruct Try.prog 82 [.map none, .int .i64 0, .int .i64 0, .int .i64 0, .int .i64 0, .slice none 0 0, .int .u32 0] [(0, 1), (1, 1), (2, 1), (3, 1), (4, 1), (5, 1), (6, 1)] := ⟨fun ps w => by simp [Instr.build, Value.cells]; generalize Instr.fill _ _ _ = z; cases z <;> rfl⟩
instance : TyAgg Try.prog 83 7 := ⟨Try.isAgg83, Try.sizeOf83⟩
instance : TyZero Try.prog 83 (.agg #[.map none, .int .i64 0, .int .i64 0, .int .i64 0, .int .i64 0, .slice none 0 0, .int .u32 0]) := ⟨Try.zeroValue83⟩
instance : TyConc Try.prog 83 := ⟨fun x w => by simp [Instr.makeInterface]⟩
instance : TyField Try.prog 83 0 0 := tyField_mk Try.underlying83 rfl rfl Try.sizeOf72 (by decide)
instance : TyField Try.prog 83 1 1 := tyField_mk Try.underlying83 rfl rfl Try.sizeOf3 (by decide)
instance : TyField Try.prog 83 2 2 := tyField_mk Try.underlying83 rfl rfl Try.sizeOf3 (by decide)
instance : TyField Try.prog 83 3 3 := tyField_mk Try.underlying83 rfl rfl Try.sizeOf77 (by decide)
instance : TyField Try.prog 83 4 4 := tyField_mk Try.underlying83 rfl rfl Try.sizeOf3 (by decide)
instance : TyField Try.prog 83 5 5 := tyField_mk Try.underlying83 rfl rfl Try.sizeOf78 (by decide)
instance : TyField Try.prog 83 6 6 := tyField_mk Try.underlying83 rfl rfl Try.sizeOf81 (by decide)
instance : TyStruct Try.prog 83 [.map none, .int .i64 0, .int .i64 0, .int .i64 0, .int .i64 0, .slice none 0 0, .int .u32 0] [(0, 1), (1, 1), (2, 1), (3, 1), (4, 1), (5, 1), (6, 1)] := ⟨fun ps w => by simp [Instr.build, Value.cells]; generalize Instr.fill _ _ _ = z; cases z <;> rfl⟩
instance : TyOne Try.prog 84 := ⟨Try.isAgg84, Try.sizeOf84⟩
instance : TyZero Try.prog 84 (.nilFunc) := ⟨Try.zeroValue84⟩
instance : TyConc Try.prog 84 := ⟨fun x w => by simp [Instr.makeInterface]⟩
instance : TyOne Try.prog 85 := ⟨Try.isAgg85, Try.sizeOf85⟩
instance : TyZero Try.prog 85 (.nilFunc) := ⟨Try.zeroValue85⟩
instance : TyConc Try.prog 85 := ⟨fun x w => by simp [Instr.makeInterface]⟩
instance : TyOne Try.prog 86 := ⟨Try.isAgg86, Try.sizeOf86⟩
instance : TyZero Try.prog 86 (.nilFunc) := ⟨Try.zeroValue86⟩
instance : TyConc Try.prog 86 := ⟨fun x w => by simp [Instr.makeInterface]⟩
instance : TyOne Try.prog 87 := ⟨Try.isAgg87, Try.sizeOf87⟩
instance : TyZero Try.prog 87 (.nilFunc) := ⟨Try.zeroValue87⟩
instance : TyConc Try.prog 87 := ⟨fun x w => by simp [Instr.makeInterface]⟩
instance : TyOne Try.prog 88 := ⟨Try.isAgg88, Try.sizeOf88⟩
instance : TyZero Try.prog 88 (.nilFunc) := ⟨Try.zeroValue88⟩
instance : TyConc Try.prog 88 := ⟨fun x w => by simp [Instr.makeInterface]⟩
instance : TyOne Try.prog 89 := ⟨Try.isAgg89, Try.sizeOf89⟩
instance : TyZero Try.prog 89 (.nilFunc) := ⟨Try.zeroValue89⟩
instance : TyConc Try.prog 89 := ⟨fun x w => by simp [Instr.makeInterface]⟩
instance : TyOne Try.prog 90 := ⟨Try.isAgg90, Try.sizeOf90⟩
instance : TyZero Try.prog 90 (.nilFunc) := ⟨Try.zeroValue90⟩
instance : TyConc Try.prog 90 := ⟨fun x w => by simp [Instr.makeInterface]⟩
instance : TyOne Try.prog 91 := ⟨Try.isAgg91, Try.sizeOf91⟩
instance : TyZero Try.prog 91 (.nilFunc) := ⟨Try.zeroValue91⟩
instance : TyConc Try.prog 91 := ⟨fun x w => by simp [Instr.makeInterface]⟩
instance : TyOne Try.prog 92 := ⟨Try.isAgg92, Try.sizeOf92⟩
instance : TyZero Try.prog 92 (.nilFunc) := ⟨Try.zeroValue92⟩
instance : TyConc Try.prog 92 := ⟨fun x w => by simp [Instr.makeInterface]⟩
instance : TyOne Try.prog 93 := ⟨Try.isAgg93, Try.sizeOf93⟩
instance : TyZero Try.prog 93 (.nilFunc) := ⟨Try.zeroValue93⟩
instance : TyConc Try.prog 93 := ⟨fun x w => by simp [Instr.makeInterface]⟩
instance : TyOne Try.prog 94 := ⟨Try.isAgg94, Try.sizeOf94⟩
instance : TyZero Try.prog 94 (.nilFunc) := ⟨Try.zeroValue94⟩
instance : TyConc Try.prog 94 := ⟨fun x w => by simp [Instr.makeInterface]⟩
instance : TyOne Try.prog 95 := ⟨Try.isAgg95, Try.sizeOf95⟩
instance : TyZero Try.prog 95 (.map none) := ⟨Try.zeroValue95⟩
instance : TyUnder Try.prog 95 (.map 54 110) := ⟨Try.underlying95⟩
instance : TyConc Try.prog 95 := ⟨fun x w => by simp [Instr.makeInterface]⟩
instance : TyAgg Try.prog 96 3 := ⟨Try.isAgg96, Try.sizeOf96⟩
instance : TyZero Try.prog 96 (.agg #[.int .i64 0, .int .i64 0, .map none]) := ⟨Try.zeroValue96⟩
instance : TyConc Try.prog 96 := ⟨fun x w => by simp [Instr.makeInterface]⟩
instance : TyField Try.prog 96 0 0 := tyField_mk Try.underlying96 rfl rfl Try.sizeOf3 (by decide)
instance : TyField Try.prog 96 1 1 := tyField_mk Try.underlying96 rfl rfl Try.sizeOf3 (by decide)
instance : TyField Try.prog 96 2 2 := tyField_mk Try.underlying96 rfl rfl Try.sizeOf95 (by decide)
instance : TyStruct Try.prog 96 [.int .i64 0, .int .i64 0, .map none] [(0, 1), (1, 1), (2, 1)] := ⟨fun ps w => by simp [Instr.build, Value.cells]; generalize Instr.fill _ _ _ = z; cases z <;> rfl⟩
instance : TyAgg Try.prog 97 3 := ⟨Try.isAgg97, Try.sizeOf97⟩
instance : TyZero Try.prog 97 (.agg #[.int .i64 0, .int .i64 0, .map none]) := ⟨Try.zeroValue97⟩
instance : TyConc Try.prog 97 := ⟨fun x w => by simp [Instr.makeInterface]⟩
instance : TyField Try.prog 97 0 0 := tyField_mk Try.underlying97 rfl rfl Try.sizeOf3 (by decide)
instance : TyField Try.prog 97 1 1 := tyField_mk Try.underlying97 rfl rfl Try.sizeOf3 (by decide)
instance : TyField Try.prog 97 2 2 := tyField_mk Try.underlying97 rfl rfl Try.sizeOf95 (by decide)
instance : TyStruct Try.prog 97 [.int .i64 0, .int .i64 0, .map none] [(0, 1), (1, 1), (2, 1)] := ⟨fun ps w => by simp [Instr.build, Value.cells]; generalize Instr.fill _ _ _ = z; cases z <;> rfl⟩
instance : TyOne Try.prog 99 := ⟨Try.isAgg99, Try.sizeOf99⟩
instance : TyZero Try.prog 99 (.nilFunc) := ⟨Try.zeroValue99⟩
instance : TyConc Try.prog 99 := ⟨fun x w => by simp [Instr.makeInterface]⟩
instance : TyOne Try.prog 101 := ⟨Try.isAgg101, Try.sizeOf101⟩
instance : TyZero Try.prog 101 (.nilFunc) := ⟨Try.zeroValue101⟩
instance : TyConc Try.prog 101 := ⟨fun x w => by simp [Instr.makeInterface]⟩
instance : TyOne Try.prog 102 := ⟨Try.isAgg102, Try.sizeOf102⟩
instance : TyZero Try.prog 102 (.nilFunc) := ⟨Try.zeroValue102⟩
instance : TyConc Try.prog 102 := ⟨fun x w => by simp [Instr.makeInterface]⟩
instance : TyOne Try.prog 103 := ⟨Try.isAgg103, Try.sizeOf103⟩
instance : TyZero Try.prog 103 (.nilFunc) := ⟨Try.zeroValue103⟩
instance : TyConc Try.prog 103 := ⟨fun x w => by simp [Instr.makeInterface]⟩
instance : TyOne Try.prog 104 := ⟨Try.isAgg104, Try.sizeOf104⟩
instance : TyZero Try.prog 104 (.nilFunc) := ⟨Try.zeroValue104⟩
instance : TyConc Try.prog 104 := ⟨fun x w => by simp [Instr.makeInterface]⟩
instance : TyOne Try.prog 105 := ⟨Try.isAgg105, Try.sizeOf105⟩
instance : TyZero Try.prog 105 (.nilFunc) := ⟨Try.zeroValue105⟩
instance : TyConc Try.prog 105 := ⟨fun x w => by simp [Instr.makeInterface]⟩
instance : TyOne Try.prog 106 := ⟨Try.isAgg106, Try.sizeOf106⟩
instance : TyZero Try.prog 106 (.pointer none) := ⟨Try.zeroValue106⟩
instance : TyUnder Try.prog 106 (.pointer 77) := ⟨Try.underlying106⟩
instance : TyConc Try.prog 106 := ⟨fun x w => by simp [Instr.makeInterface]⟩
instance : TyOne Try.prog 107 := ⟨Try.isAgg107, Try.sizeOf107⟩
instance : TyZero Try.prog 107 (.nilFunc) := ⟨Try.zeroValue107⟩
instance : TyConc Try.prog 107 := ⟨fun x w => by simp [Instr.makeInterface]⟩
instance : TyOne Try.prog 108 := ⟨Try.isAgg108, Try.sizeOf108⟩
instance : TyZero Try.prog 108 (.pointer none) := ⟨Try.zeroValue108⟩
instance : TyUnder Try.prog 108 (.pointer 2) := ⟨Try.underlying108⟩
instance : TyConc Try.prog 108 := ⟨fun x w => by simp [Instr.makeInterface]⟩
instance : TyOne Try.prog 109 := ⟨Try.isAgg109, Try.sizeOf109⟩
instance : TyZero Try.prog 109 (.nilFunc) := ⟨Try.zeroValue109⟩
instance : TyConc Try.prog 109 := ⟨fun x w => by simp [Instr.makeInterface]⟩
instance : TyOne Try.prog 110 := ⟨Try.isAgg110, Try.sizeOf110⟩
instance : TyZero Try.prog 110 (.pointer none) := ⟨Try.zeroValue110⟩
instance : TyUnder Try.prog 110 (.pointer 112) := ⟨Try.underlying110⟩
instance : TyConc Try.prog 110 := ⟨fun x w => by simp [Instr.makeInterface]⟩
instance : TyAgg Try.prog 111 2 := ⟨Try.isAgg111, Try.sizeOf111⟩
instance : TyZero Try.prog 111 (.agg #[.int .i64 0, .int .i64 0]) := ⟨Try.zeroValue111⟩
instance : TyConc Try.prog 111 := ⟨fun x w => by simp [Instr.makeInterface]⟩
instance : TyField Try.prog 111 0 0 := tyField_mk Try.underlying111 rfl rfl Try.sizeOf3 (by decide)
instance : TyField Try.prog 111 1 1 := tyField_mk Try.underlying111 rfl rfl Try.sizeOf3 (by decide)
instance : TyStruct Try.prog 111 [.int .i64 0, .int .i64 0] [(0, 1), (1, 1)] := ⟨fun ps w => by simp [Instr.build, Value.cells]; generalize Instr.fill _ _ _ = z; cases z <;> rfl⟩
instance : TyAgg Try.prog 112 2 := ⟨Try.isAgg112, Try.sizeOf112⟩
instance : TyZero Try.prog 112 (.agg #[.int .i64 0, .int .i64 0]) := ⟨Try.zeroValue112⟩
instance : TyConc Try.prog 112 := ⟨fun x w => by simp [Instr.makeInterface]⟩
instance : TyField Try.prog 112 0 0 := tyField_mk Try.underlying112 rfl rfl Try.sizeOf3 (by decide)
instance : TyField Try.prog 112 1 1 := tyField_mk Try.underlying112 rfl rfl Try.sizeOf3 (by decide)
instance : TyStruct Try.prog 112 [.int .i64 0, .int .i64 0] [(0, 1), (1, 1)] := ⟨fun ps w => by simp [Instr.build, Value.cells]; generalize Instr.fill _ _ _ = z; cases z <;> rfl⟩
instance : TyOne Try.prog 113 := ⟨Try.isAgg113, Try.sizeOf113⟩
instance : TyZero Try.prog 113 (.nilFunc) := ⟨Try.zeroValue113⟩
instance : TyConc Try.prog 113 := ⟨fun x w => by simp [Instr.makeInterface]⟩
instance : TyOne Try.prog 114 := ⟨Try.isAgg114, Try.sizeOf114⟩
instance : TyZero Try.prog 114 (.pointer none) := ⟨Try.zeroValue114⟩
instance : TyUnder Try.prog 114 (.pointer 81) := ⟨Try.underlying114⟩
instance : TyConc Try.prog 114 := ⟨fun x w => by simp [Instr.makeInterface]⟩
instance : TyOne Try.prog 115 := ⟨Try.isAgg115, Try.sizeOf115⟩
instance : TyZero Try.prog 115 (.nilFunc) := ⟨Try.zeroValue115⟩
instance : TyConc Try.prog 115 := ⟨fun x w => by simp [Instr.makeInterface]⟩
instance : TyOne Try.prog 116 := ⟨Try.isAgg116, Try.sizeOf116⟩
instance : TyZero Try.prog 116 (.pointer none) := ⟨Try.zeroValue116⟩
instance : TyUnder Try.prog 116 (.pointer 79) := ⟨Try.underlying116⟩
instance : TyConc Try.prog 116 := ⟨fun x w => by simp [Instr.makeInterface]⟩
instance : TyOne Try.prog 117 := ⟨Try.isAgg117, Try.sizeOf117⟩
instance : TyZero Try.prog 117 (.nilFunc) := ⟨Try.zeroValue117⟩
instance : TyConc Try.prog 117 := ⟨fun x w => by simp [Instr.makeInterface]⟩
instance : TyOne Try.prog 118 := ⟨Try.isAgg118, Try.sizeOf118⟩
instance : TyZero Try.prog 118 (.nilFunc) := ⟨Try.zeroValue118⟩
instance : TyConc Try.prog 118 := ⟨fun x w => by simp [Instr.makeInterface]⟩
instance : TyOne Try.prog 119 := ⟨Try.isAgg119, Try.sizeOf119⟩
instance : TyZero Try.prog 119 (.nilFunc) := ⟨Try.zeroValue119⟩
instance : TyConc Try.prog 119 := ⟨fun x w => by simp [Instr.makeInterface]⟩
instance : TyOne Try.prog 121 := ⟨Try.isAgg121, Try.sizeOf121⟩
instance : TyZero Try.prog 121 (.nilFunc) := ⟨Try.zeroValue121⟩
instance : TyConc Try.prog 121 := ⟨fun x w => by simp [Instr.makeInterface]⟩
instance : TyOne Try.prog 122 := ⟨Try.isAgg122, Try.sizeOf122⟩
instance : TyZero Try.prog 122 (.nilFunc) := ⟨Try.zeroValue122⟩
instance : TyConc Try.prog 122 := ⟨fun x w => by simp [Instr.makeInterface]⟩
instance : TyOne Try.prog 123 := ⟨Try.isAgg123, Try.sizeOf123⟩
instance : TyZero Try.prog 123 (.nilFunc) := ⟨Try.zeroValue123⟩
instance : TyConc Try.prog 123 := ⟨fun x w => by simp [Instr.makeInterface]⟩
instance : TyOne Try.prog 124 := ⟨Try.isAgg124, Try.sizeOf124⟩
instance : TyZero Try.prog 124 (.int .u64 0) := ⟨Try.zeroValue124⟩
instance : TyUnder Try.prog 124 (.int .u64) := ⟨Try.underlying124⟩
instance : TyConc Try.prog 124 := ⟨fun x w => by simp [Instr.makeInterface]⟩
instance : TyOne Try.prog 125 := ⟨Try.isAgg125, Try.sizeOf125⟩
instance : TyZero Try.prog 125 (.nilFunc) := ⟨Try.zeroValue125⟩
instance : TyConc Try.prog 125 := ⟨fun x w => by simp [Instr.makeInterface]⟩
instance : TyOne Try.prog 126 := ⟨Try.isAgg126, Try.sizeOf126⟩
instance : TyZero Try.prog 126 (.nilFunc) := ⟨Try.zeroValue126⟩
instance : TyConc Try.prog 126 := ⟨fun x w => by simp [Instr.makeInterface]⟩
instance : TyOne Try.prog 127 := ⟨Try.isAgg127, Try.sizeOf127⟩
instance : TyZero Try.prog 127 (.nilFunc) := ⟨Try.zeroValue127⟩
instance : TyConc Try.prog 127 := ⟨fun x w => by simp [Instr.makeInterface]⟩
instance : TyOne Try.prog 128 := ⟨Try.isAgg128, Try.sizeOf128⟩
instance : TyZero Try.prog 128 (.nilFunc) := ⟨Try.zeroValue128⟩
instance : TyConc Try.prog 128 := ⟨fun x w => by simp [Instr.makeInterface]⟩
instance : TyOne Try.prog 129 := ⟨Try.isAgg129, Try.sizeOf129⟩
instance : TyZero Try.prog 129 (.nilFunc) := ⟨Try.zeroValue129⟩
instance : TyConc Try.prog 129 := ⟨fun x w => by simp [Instr.makeInterface]⟩
instance : TyOne Try.prog 130 := ⟨Try.isAgg130, Try.sizeOf130⟩
instance : TyZero Try.prog 130 (.nilFunc) := ⟨Try.zeroValue130⟩
instance : TyConc Try.prog 130 := ⟨fun x w => by simp [Instr.makeInterface]⟩
instance : TyOne Try.prog 131 := ⟨Try.isAgg131, Try.sizeOf131⟩
instance : TyZero Try.prog 131 (.nilFunc) := ⟨Try.zeroValue131⟩
instance : TyConc Try.prog 131 := ⟨fun x w => by simp [Instr.makeInterface]⟩
instance : TyOne Try.prog 132 := ⟨Try.isAgg132, Try.sizeOf132⟩
instance : TyZero Try.prog 132 (.nilFunc) := ⟨Try.zeroValue132⟩
instance : TyConc Try.prog 132 := ⟨fun x w => by simp [Instr.makeInterface]⟩
instance : TyOne Try.prog 133 := ⟨Try.isAgg133, Try.sizeOf133⟩
instance : TyZero Try.prog 133 (.int .i64 0) := ⟨Try.zeroValue133⟩
instance : TyUnder Try.prog 133 (.int .i64) := ⟨Try.underlying133⟩
instance : TyConc Try.prog 133 := ⟨fun x w => by simp [Instr.makeInterface]⟩
instance : TyOne Try.prog 135 := ⟨Try.isAgg135, Try.sizeOf135⟩
instance : TyZero Try.prog 135 (.nilFunc) := ⟨Try.zeroValue135⟩
instance : TyConc Try.prog 135 := ⟨fun x w => by simp [Instr.makeInterface]⟩
instance : TyOne Try.prog 136 := ⟨Try.isAgg136, Try.sizeOf136⟩
instance : TyZero Try.prog 136 (.nilFunc) := ⟨Try.zeroValue136⟩
instance : TyConc Try.prog 136 := ⟨fun x w => by simp [Instr.makeInterface]⟩
instance : TyOne Try.prog 137 := ⟨Try.isAgg137, Try.sizeOf137⟩
instance : TyZero Try.prog 137 (.nilFunc) := ⟨Try.zeroValue137⟩
instance : TyConc Try.prog 137 := ⟨fun x w => by simp [Instr.makeInterface]⟩
instance : TyOne Try.prog 139 := ⟨Try.isAgg139, Try.sizeOf139⟩
instance : TyZero Try.prog 139 (.nilFunc) := ⟨Try.zeroValue139⟩
instance : TyConc Try.prog 139 := ⟨fun x w => by simp [Instr.makeInterface]⟩
instance : TyOne Try.prog 140 := ⟨Try.isAgg140, Try.sizeOf140⟩
instance : TyZero Try.prog 140 (.nilFunc) := ⟨Try.zeroValue140⟩
instance : TyConc Try.prog 140 := ⟨fun x w => by simp [Instr.makeInterface]⟩
instance : TyOne Try.prog 141 := ⟨Try.isAgg141, Try.sizeOf141⟩
instance : TyZero Try.prog 141 (.nilFunc) := ⟨Try.zeroValue141⟩
instance : TyConc Try.prog 141 := ⟨fun x w => by simp [Instr.makeInterface]⟩
instance : TyOne Try.prog 142 := ⟨Try.isAgg142, Try.sizeOf142⟩
instance : TyZero Try.prog 142 (.int .u64 0) := ⟨Try.zeroValue142⟩
instance : TyUnder Try.prog 142 (.int .u64) := ⟨Try.underlying142⟩
instance : TyConc Try.prog 142 := ⟨fun x w => by simp [Instr.makeInterface]⟩
instance : TyOne Try.prog 143 := ⟨Try.isAgg143, Try.sizeOf143⟩
instance : TyZero Try.prog 143 (.nilFunc) := ⟨Try.zeroValue143⟩
instance : TyConc Try.prog 143 := ⟨fun x w => by simp [Instr.makeInterface]⟩
instance : TyOne Try.prog 144 := ⟨Try.isAgg144, Try.sizeOf144⟩
instance : TyZero Try.prog 144 (.nilFunc) := ⟨Try.zeroValue144⟩
instance : TyConc Try.prog 144 := ⟨fun x w => by simp [Instr.makeInterface]⟩
instance : TyOne Try.prog 145 := ⟨Try.isAgg145, Try.sizeOf145⟩
instance : TyZero Try.prog 145 (.nilFunc) := ⟨Try.zeroValue145⟩
instance : TyConc Try.prog 145 := ⟨fun x w => by simp [Instr.makeInterface]⟩
instance : TyOne Try.prog 146 := ⟨Try.isAgg146, Try.sizeOf146⟩
instance : TyZero Try.prog 146 (.nilFunc) := ⟨Try.zeroValue146⟩
instance : TyConc Try.prog 146 := ⟨fun x w => by simp [Instr.makeInterface]⟩
instance : TyOne Try.prog 147 := ⟨Try.isAgg147, Try.sizeOf147⟩
instance : TyZero Try.prog 147 (.nilFunc) := ⟨Try.zeroValue147⟩
instance : TyConc Try.prog 147 := ⟨fun x w => by simp [Instr.makeInterface]⟩
instance : TyOne Try.prog 148 := ⟨Try.isAgg148, Try.sizeOf148⟩
instance : TyZero Try.prog 148 (.nilFunc) := ⟨Try.zeroValue148⟩
instance : TyConc Try.prog 148 := ⟨fun x w => by simp [Instr.makeInterface]⟩
instance : TyOne Try.prog 149 := ⟨Try.isAgg149, Try.sizeOf149⟩
instance : TyZero Try.prog 149 (.nilFunc) := ⟨Try.zeroValue149⟩
instance : TyConc Try.prog 149 := ⟨fun x w => by simp [Instr.makeInterface]⟩
instance : TyOne Try.prog 150 := ⟨Try.isAgg150, Try.sizeOf150⟩
instance : TyZero Try.prog 150 (.int .u64 0) := ⟨Try.zeroValue150⟩
instance : TyUnder Try.prog 150 (.int .u64) := ⟨Try.underlying150⟩
instance : TyConc Try.prog 150 := ⟨fun x w => by simp [Instr.makeInterface]⟩
instance : TyOne Try.prog 151 := ⟨Try.isAgg151, Try.sizeOf151⟩
instance : TyZero Try.prog 151 (.nilFunc) := ⟨Try.zeroValue151⟩
instance : TyConc Try.prog 151 := ⟨fun x w => by simp [Instr.makeInterface]⟩
instance : TyOne Try.prog 152 := ⟨Try.isAgg152, Try.sizeOf152⟩
instance : TyZero Try.prog 152 (.nilFunc) := ⟨Try.zeroValue152⟩
instance : TyConc Try.prog 152 := ⟨fun x w => by simp [Instr.makeInterface]⟩
instance : TyOne Try.prog 153 := ⟨Try.isAgg153, Try.sizeOf153⟩
instance : TyZero Try.prog 153 (.nilFunc) := ⟨Try.zeroValue153⟩
instance : TyConc Try.prog 153 := ⟨fun x w => by simp [Instr.makeInterface]⟩
instance : TyOne Try.prog 154 := ⟨Try.isAgg154, Try.sizeOf154⟩
instance : TyZero Try.prog 154 (.pointer none) := ⟨Try.zeroValue154⟩
instance : TyUnder Try.prog 154 (.pointer 3) := ⟨Try.underlying154⟩
instance : TyConc Try.prog 154 := ⟨fun x w => by simp [Instr.makeInterface]⟩
instance : TyOne Try.prog 155 := ⟨Try.isAgg155, Try.sizeOf155⟩
instance : TyZero Try.prog 155 (.nilFunc) := ⟨Try.zeroValue155⟩
instance : TyConc Try.prog 155 := ⟨fun x w => by simp [Instr.makeInterface]⟩
instance : TyOne Try.prog 156 := ⟨Try.isAgg156, Try.sizeOf156⟩
instance : TyZero Try.prog 156 (.nilFunc) := ⟨Try.zeroValue156⟩
instance : TyConc Try.prog 156 := ⟨fun x w => by simp [Instr.makeInterface]⟩
instance : TyOne Try.prog 157 := ⟨Try.isAgg157, Try.sizeOf157⟩
instance : TyZero Try.prog 157 (.nilFunc) := ⟨Try.zeroValue157⟩
instance : TyConc Try.prog 157 := ⟨fun x w => by simp [Instr.makeInterface]⟩
instance : TyOne Try.prog 158 := ⟨Try.isAgg158, Try.sizeOf158⟩
instance : TyZero Try.prog 158 (.nilFunc) := ⟨Try.zeroValue158⟩
instance : TyConc Try.prog 158 := ⟨fun x w => by simp [Instr.makeInterface]⟩
instance : TyOne Try.prog 159 := ⟨Try.isAgg159, Try.sizeOf159⟩
instance : TyZero Try.prog 159 (.pointer none) := ⟨Try.zeroValue159⟩
instance : TyUnder Try.prog 159 (.pointer 150) := ⟨Try.underlying159⟩
instance : TyConc Try.prog 159 := ⟨fun x w => by simp [Instr.makeInterface]⟩
instance : TyOne Try.prog 161 := ⟨Try.isAgg161, Try.sizeOf161⟩
instance : TyZero Try.prog 161 (.nilFunc) := ⟨Try.zeroValue161⟩
instance : TyConc Try.prog 161 := ⟨fun x w => by simp [Instr.makeInterface]⟩
instance : TyOne Try.prog 162 := ⟨Try.isAgg162, Try.sizeOf162⟩
instance : TyZero Try.prog 162 (.nilFunc) := ⟨Try.zeroValue162⟩
instance : TyConc Try.prog 162 := ⟨fun x w => by simp [Instr.makeInterface]⟩
instance : TyOne Try.prog 163 := ⟨Try.isAgg163, Try.sizeOf163⟩
instance : TyZero Try.prog 163 (.nilFunc) := ⟨Try.zeroValue163⟩
instance : TyConc Try.prog 163 := ⟨fun x w => by simp [Instr.makeInterface]⟩
instance : TyAgg Try.prog 164 4 := ⟨Try.isAgg164, Try.sizeOf164⟩
instance : TyZero Try.prog 164 (.agg #[.pointer none, .pointer none, .pointer none, .string ⟨#[]⟩]) := ⟨Try.zeroValue164⟩
instance : TyConc Try.prog 164 := ⟨fun x w => by simp [Instr.makeInterface]⟩
instance : TyField Try.prog 164 0 0 := tyField_mk Try.underlying164 rfl rfl Try.sizeOf17 (by decide)
instance : TyField Try.prog 164 1 1 := tyField_mk Try.underlying164 rfl rfl Try.sizeOf17 (by decide)
instance : TyField Try.prog 164 2 2 := tyField_mk Try.underlying164 rfl rfl Try.sizeOf17 (by decide)
instance : TyField Try.prog 164 3 3 := tyField_mk Try.underlying164 rfl rfl Try.sizeOf9 (by decide)
instance : TyStruct Try.prog 164 [.pointer none, .pointer none, .pointer none, .string ⟨#[]⟩] [(0, 1), (1, 1), (2, 1), (3, 1)] := ⟨fun ps w => by simp [Instr.build, Value.cells]; generalize Instr.fill _ _ _ = z; cases z <;> rfl⟩
instance : TyAgg Try.prog 165 4 := ⟨Try.isAgg165, Try.sizeOf165⟩
instance : TyZero Try.prog 165 (.agg #[.pointer none, .pointer none, .pointer none, .string ⟨#[]⟩]) := ⟨Try.zeroValue165⟩
instance : TyConc Try.prog 165 := ⟨fun x w => by simp [Instr.makeInterface]⟩
instance : TyField Try.prog 165 0 0 := tyField_mk Try.underlying165 rfl rfl Try.sizeOf17 (by decide)
instance : TyField Try.prog 165 1 1 := tyField_mk Try.underlying165 rfl rfl Try.sizeOf17 (by decide)
instance : TyField Try.prog 165 2 2 := tyField_mk Try.underlying165 rfl rfl Try.sizeOf17 (by decide)
instance : TyField Try.prog 165 3 3 := tyField_mk Try.underlying165 rfl rfl Try.sizeOf9 (by decide)
instance : TyStruct Try.prog 165 [.pointer none, .pointer none, .pointer none, .string ⟨#[]⟩] [(0, 1), (1, 1), (2, 1), (3, 1)] := ⟨fun ps w => by simp [Instr.build, Value.cells]; generalize Instr.fill _ _ _ = z; cases z <;> rfl⟩
instance : TyZero Try.prog 166 (.agg #[]) := ⟨Try.zeroValue166⟩
instance : TyUnder Try.prog 166 (.array 0 16) := ⟨Try.underlying166⟩
instance : TyConc Try.prog 166 := ⟨fun x w => by simp [Instr.makeInterface]⟩
instance : TyZero Try.prog 167 (.agg #[]) := ⟨Try.zeroValue167⟩
instance : TyConc Try.prog 167 := ⟨fun x w => by simp [Instr.makeInterface]⟩
instance : TyZero Try.prog 168 (.agg #[]) := ⟨Try.zeroValue168⟩
instance : TyConc Try.prog 168 := ⟨fun x w => by simp [Instr.makeInterface]⟩
instance : TyOne Try.prog 169 := ⟨Try.isAgg169, Try.sizeOf169⟩
instance : TyZero Try.prog 169 (.int .u8 0) := ⟨Try.zeroValue169⟩
instance : TyUnder Try.prog 169 (.int .u8) := ⟨Try.underlying169⟩
instance : TyConc Try.prog 169 := ⟨fun x w => by simp [Instr.makeInterface]⟩
instance : TyOne Try.prog 170 := ⟨Try.isAgg170, Try.sizeOf170⟩
instance : TyZero Try.prog 170 (.int .u8 0) := ⟨Try.zeroValue170⟩
instance : TyUnder Try.prog 170 (.int .u8) := ⟨Try.underlying170⟩
instance : TyConc Try.prog 170 := ⟨fun x w => by simp [Instr.makeInterface]⟩
instance : TyOne Try.prog 172 := ⟨Try.isAgg172, Try.sizeOf172⟩
instance : TyZero Try.prog 172 (.pointer none) := ⟨Try.zeroValue172⟩
instance : TyUnder Try.prog 172 (.pointer 5) := ⟨Try.underlying172⟩
instance : TyConc Try.prog 172 := ⟨fun x w => by simp [Instr.makeInterface]⟩
instance : TyOne Try.prog 173 := ⟨Try.isAgg173, Try.sizeOf173⟩
instance : TyZero Try.prog 173 (.int .i32 0) := ⟨Try.zeroValue173⟩
instance : TyUnder Try.prog 173 (.int .i32) := ⟨Try.underlying173⟩
instance : TyConc Try.prog 173 := ⟨fun x w => by simp [Instr.makeInterface]⟩
instance : TyOne Try.prog 174 := ⟨Try.isAgg174, Try.sizeOf174⟩
instance : TyZero Try.prog 174 (.int .i32 0) := ⟨Try.zeroValue174⟩
instance : TyUnder Try.prog 174 (.int .i32) := ⟨Try.underlying174⟩
instance : TyConc Try.prog 174 := ⟨fun x w => by simp [Instr.makeInterface]⟩
instance : TyAgg Try.prog 176 11 := ⟨Try.isAgg176, Try.sizeOf176⟩
instance : TyZero Try.prog 176 (.agg #[.int .u64 0, .int .u64 0, .int .u32 0, .int .u8 0, .int .u8 0, .int .u8 0, .int .u8 0, .nilFunc, .pointer none, .int .i32 0, .int .i32 0]) := ⟨Try.zeroValue176⟩
instance : TyConc Try.prog 176 := ⟨fun x w => by simp [Instr.makeInterface]⟩
instance : TyField Try.prog 176 0 0 := tyField_mk Try.underlying176 rfl rfl Try.sizeOf12 (by decide)
instance : TyField Try.prog 176 1 1 := tyField_mk Try.underlying176 rfl rfl Try.sizeOf12 (by decide)
instance : TyField Try.prog 176 2 2 := tyField_mk Try.underlying176 rfl rfl Try.sizeOf79 (by decide)
instance : TyField Try.prog 176 3 3 := tyField_mk Try.underlying176 rfl rfl Try.sizeOf169 (by decide)
instance : TyField Try.prog 176 4 4 := tyField_mk Try.underlying176 rfl rfl Try.sizeOf5 (by decide)
instance : TyField Try.prog 176 5 5 := tyField_mk Try.underlying176 rfl rfl Try.sizeOf5 (by decide)
instance : TyField Try.prog 176 6 6 := tyField_mk Try.underlying176 rfl rfl Try.sizeOf170 (by decide)
instance : TyField Try.prog 176 7 7 := tyField_mk Try.underlying176 rfl rfl Try.sizeOf171 (by decide)
instance : TyField Try.prog 176 8 8 := tyField_mk Try.underlying176 rfl rfl Try.sizeOf172 (by decide)
instance : TyField Try.prog 176 9 9 := tyField_mk Try.underlying176 rfl rfl Try.sizeOf173 (by decide)
instance : TyField Try.prog 176 10 10 := tyField_mk Try.underlying176 rfl rfl Try.sizeOf174 (by decide)
instance : TyStruct Try.prog 176 [.int .u64 0, .int .u64 0, .int .u32 0, .int .u8 0, .int .u8 0, .int .u8 0, .int .u8 0, .nilFunc, .pointer none, .int .i32 0, .int .i32 0] [(0, 1), (1, 1), (2, 1), (3, 1), (4, 1), (5, 1), (6, 1), (7, 1), (8, 1), (9, 1), (10, 1)] := ⟨fun ps w => by simp [Instr.build, Value.cells]; generalize Instr.fill _ _ _ = z; cases z <;> rfl⟩
instance : TyCall Try.prog 3 := ⟨Try.call3⟩
instance : TyCall Try.prog 4 := ⟨Try.call4⟩
instance : TyCall Try.prog 5 := ⟨Try.call5⟩
instance : TyCall Try.prog 6 := ⟨Try.call6⟩
instance : TyCall Try.prog 7 := ⟨Try.call7⟩
instance : TyCall Try.prog 8 := ⟨Try.call8⟩
instance : TyCall Try.prog 9 := ⟨Try.call9⟩
instance : TyCall Try.prog 10 := ⟨Try.call10⟩
instance : TyCall Try.prog 11 := ⟨Try.call11⟩
instance : TyCall Try.prog 12 := ⟨Try.call12⟩
instance : TyCall Try.prog 13 := ⟨Try.call13⟩
instance : TyCall Try.prog 14 := ⟨Try.call14⟩
instance : TyCall Try.prog 15 := ⟨Try.call15⟩
instance : TyCall Try.prog 16 := ⟨Try.call16⟩
instance : TyCall Try.prog 17 := ⟨Try.call17⟩
instance : TyCall Try.prog 18 := ⟨Try.call18⟩
instance : TyCall Try.prog 19 := ⟨Try.call19⟩
instance : TyCall Try.prog 20 := ⟨Try.call20⟩
instance : TyCall Try.prog 21 := ⟨Try.call21⟩
instance : TyCall Try.prog 22 := ⟨Try.call22⟩
instance : TyCall Try.prog 23 := ⟨Try.call23⟩
instance : TyCall Try.prog 24 := ⟨Try.call24⟩
instance : TyCall Try.prog 25 := ⟨Try.call25⟩
instance : TyCall Try.prog 26 := ⟨Try.call26⟩
instance : TyCall Try.prog 27 := ⟨Try.call27⟩
instance : TyCall Try.prog 28 := ⟨Try.call28⟩
instance : TyCall Try.prog 29 := ⟨Try.call29⟩
instance : TyCall Try.prog 30 := ⟨Try.call30⟩
instance : TyCall Try.prog 31 := ⟨Try.call31⟩
instance : TyCall Try.prog 32 := ⟨Try.call32⟩
instance : TyCall Try.prog 33 := ⟨Try.call33⟩
instance : TyCall Try.prog 34 := ⟨Try.call34⟩
instance : TyCall Try.prog 35 := ⟨Try.call35⟩
instance : TyCall Try.prog 36 := ⟨Try.call36⟩
instance : TyCall Try.prog 37 := ⟨Try.call37⟩
instance : TyCall Try.prog 38 := ⟨Try.call38⟩
instance : TyCall Try.prog 39 := ⟨Try.call39⟩
instance : TyCall Try.prog 40 := ⟨Try.call40⟩
instance : TyCall Try.prog 41 := ⟨Try.call41⟩
instance : TyCall Try.prog 42 := ⟨Try.call42⟩
instance : TyCall Try.prog 43 := ⟨Try.call43⟩
instance : TyCall Try.prog 44 := ⟨Try.call44⟩
instance : TyCall Try.prog 45 := ⟨Try.call45⟩
instance : TyCall Try.prog 46 := ⟨Try.call46⟩
instance : TyCall Try.prog 47 := ⟨Try.call47⟩
instance : TyCall Try.prog 48 := ⟨Try.call48⟩
instance : TyCall Try.prog 49 := ⟨Try.call49⟩
instance : TyCall Try.prog 50 := ⟨Try.call50⟩
instance : TyCall Try.prog 51 := ⟨Try.call51⟩
instance : TyCall Try.prog 52 := ⟨Try.call52⟩
instance : TyCall Try.prog 54 := ⟨Try.call54⟩
instance : TyCall Try.prog 55 := ⟨Try.call55⟩
instance : TyCall Try.prog 57 := ⟨Try.call57⟩
instance : TyCall Try.prog 58 := ⟨Try.call58⟩
instance : TyCall Try.prog 59 := ⟨Try.call59⟩
instance : TyCall Try.prog 60 := ⟨Try.call60⟩
instance : TyCall Try.prog 61 := ⟨Try.call61⟩
instance : TyCall Try.prog 63 := ⟨Try.call63⟩
instance : TyCall Try.prog 64 := ⟨Try.call64⟩
instance : TyCall Try.prog 65 := ⟨Try.call65⟩
instance : TyCall Try.prog 66 := ⟨Try.call66⟩
instance : TyCall Try.prog 67 := ⟨Try.call67⟩
instance : TyCall Try.prog 68 := ⟨Try.call68⟩
instance : TyCall Try.prog 69 := ⟨Try.call69⟩
instance : TyCall Try.prog 70 := ⟨Try.call70⟩
instance : TyCall Try.prog 71 := ⟨Try.call71⟩
instance : TyCall Try.prog 72 := ⟨Try.call72⟩
instance : TyCall Try.prog 73 := ⟨Try.call73⟩
instance : TyCall Try.prog 74 := ⟨Try.call74⟩
instance : TyCall Try.prog 75 := ⟨Try.call75⟩
instance : TyCall Try.prog 76 := ⟨Try.call76⟩
instance : TyCall Try.prog 77 := ⟨Try.call77⟩
instance : TyCall Try.prog 78 := ⟨Try.call78⟩
instance : TyCall Try.prog 79 := ⟨Try.call79⟩
instance : TyCall Try.prog 80 := ⟨Try.call80⟩
instance : TyCall Try.prog 81 := ⟨Try.call81⟩
instance : TyCall Try.prog 82 := ⟨Try.call82⟩
instance : TyCall Try.prog 83 := ⟨Try.call83⟩
instance : TyCall Try.prog 84 := ⟨Try.call84⟩
instance : TyCall Try.prog 85 := ⟨Try.call85⟩
instance : TyCall Try.prog 87 := ⟨Try.call87⟩
instance : TyCall Try.prog 88 := ⟨Try.call88⟩
instance : TyCall Try.prog 89 := ⟨Try.call89⟩
instance : TyCall Try.prog 90 := ⟨Try.call90⟩
instance : TyCall Try.prog 91 := ⟨Try.call91⟩
instance : TyCall Try.prog 92 := ⟨Try.call92⟩
instance : TyCall Try.prog 93 := ⟨Try.call93⟩
instance : TyCall Try.prog 94 := ⟨Try.call94⟩
instance : TyCall Try.prog 95 := ⟨Try.call95⟩
instance : TyCall Try.prog 96 := ⟨Try.call96⟩
instance : TyCall Try.prog 97 := ⟨Try.call97⟩
instance : TyCall Try.prog 98 := ⟨Try.call98⟩
instance : TyCall Try.prog 99 := ⟨Try.call99⟩
instance : TyCall Try.prog 100 := ⟨Try.call100⟩
instance : TyCall Try.prog 101 := ⟨Try.call101⟩
instance : TyCall Try.prog 102 := ⟨Try.call102⟩
instance : TyCall Try.prog 104 := ⟨Try.call104⟩
instance : TyCall Try.prog 105 := ⟨Try.call105⟩
instance : TyCall Try.prog 106 := ⟨Try.call106⟩
instance : TyCall Try.prog 107 := ⟨Try.call107⟩
instance : TyCall Try.prog 108 := ⟨Try.call108⟩
instance : TyCall Try.prog 109 := ⟨Try.call109⟩
instance : TyMeth Try.prog 33 "Error" 125 := ⟨fun v w => by kernel_rfl⟩
end Go.Proofs.Ytjhegjcjplpmjaa
