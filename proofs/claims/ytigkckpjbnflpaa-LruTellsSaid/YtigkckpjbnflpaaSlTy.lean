/- The seat's types and functions, as the rules of the layer ask for them: written by wip/gen/types.py. -/
import Derived.Test.YtigkckpjbnflpaaRows
import Derived.Test.YtigkckpjbnflpaaSlD
namespace Go.Proofs.Ytigkckpjbnflpaa
instance : TyOne Try.prog 1 := ⟨Try.isAgg1, Try.sizeOf1⟩
instance : TyZero Try.prog 1 (.nilFunc) := ⟨Try.zeroValue1⟩
instance : TyConc Try.prog 1 := ⟨fun x w => by simp [Instr.makeInterface]⟩
instance : TyOne Try.prog 2 := ⟨Try.isAgg2, Try.sizeOf2⟩
instance : TyZero Try.prog 2 (.int .i64 0) := ⟨Try.zeroValue2⟩
instance : TyUnder Try.prog 2 (.int .i64) := ⟨Try.underlying2⟩
instance : TyConc Try.prog 2 := ⟨fun x w => by simp [Instr.makeInterface]⟩
instance : TyOne Try.prog 3 := ⟨Try.isAgg3, Try.sizeOf3⟩
instance : TyZero Try.prog 3 (.int .i64 0) := ⟨Try.zeroValue3⟩
instance : TyUnder Try.prog 3 (.int .i64) := ⟨Try.underlying3⟩
instance : TyConc Try.prog 3 := ⟨fun x w => by simp [Instr.makeInterface]⟩
instance : TyOne Try.prog 4 := ⟨Try.isAgg4, Try.sizeOf4⟩
instance : TyZero Try.prog 4 (.bool false) := ⟨Try.zeroValue4⟩
instance : TyUnder Try.prog 4 .bool := ⟨Try.underlying4⟩
instance : TyConc Try.prog 4 := ⟨fun x w => by simp [Instr.makeInterface]⟩
instance : TyOne Try.prog 5 := ⟨Try.isAgg5, Try.sizeOf5⟩
instance : TyZero Try.prog 5 (.int .u8 0) := ⟨Try.zeroValue5⟩
instance : TyUnder Try.prog 5 (.int .u8) := ⟨Try.underlying5⟩
instance : TyConc Try.prog 5 := ⟨fun x w => by simp [Instr.makeInterface]⟩
instance : TyOne Try.prog 6 := ⟨Try.isAgg6, Try.sizeOf6⟩
instance : TyZero Try.prog 6 (.int .u8 0) := ⟨Try.zeroValue6⟩
instance : TyUnder Try.prog 6 (.int .u8) := ⟨Try.underlying6⟩
instance : TyConc Try.prog 6 := ⟨fun x w => by simp [Instr.makeInterface]⟩
instance : TyAgg Try.prog 7 4 := ⟨Try.isAgg7, Try.sizeOf7⟩
instance : TyZero Try.prog 7 (.agg #[.int .i64 0, .int .i64 0, .bool false, .int .u8 0]) := ⟨Try.zeroValue7⟩
instance : TyConc Try.prog 7 := ⟨fun x w => by simp [Instr.makeInterface]⟩
instance : TyField Try.prog 7 0 0 := tyField_mk Try.underlying7 rfl rfl Try.sizeOf2 (by decide)
instance : TyField Try.prog 7 1 1 := tyField_mk Try.underlying7 rfl rfl Try.sizeOf3 (by decide)
instance : TyField Try.prog 7 2 2 := tyField_mk Try.underlying7 rfl rfl Try.sizeOf4 (by decide)
instance : TyField Try.prog 7 3 3 := tyField_mk Try.underlying7 rfl rfl Try.sizeOf6 (by decide)
instance : TyStruct Try.prog 7 [.int .i64 0, .int .i64 0, .bool false, .int .u8 0] [(0, 1), (1, 1), (2, 1), (3, 1)] := ⟨fun ps w => by simp [Instr.build, Value.cells]; generalize Instr.fill _ _ _ = z; cases z <;> rfl⟩
instance : TyAgg Try.prog 8 4 := ⟨Try.isAgg8, Try.sizeOf8⟩
instance : TyZero Try.prog 8 (.agg #[.int .i64 0, .int .i64 0, .bool false, .int .u8 0]) := ⟨Try.zeroValue8⟩
instance : TyConc Try.prog 8 := ⟨fun x w => by simp [Instr.makeInterface]⟩
instance : TyField Try.prog 8 0 0 := tyField_mk Try.underlying8 rfl rfl Try.sizeOf2 (by decide)
instance : TyField Try.prog 8 1 1 := tyField_mk Try.underlying8 rfl rfl Try.sizeOf3 (by decide)
instance : TyField Try.prog 8 2 2 := tyField_mk Try.underlying8 rfl rfl Try.sizeOf4 (by decide)
instance : TyField Try.prog 8 3 3 := tyField_mk Try.underlying8 rfl rfl Try.sizeOf6 (by decide)
instance : TyStruct Try.prog 8 [.int .i64 0, .int .i64 0, .bool false, .int .u8 0] [(0, 1), (1, 1), (2, 1), (3, 1)] := ⟨fun ps w => by simp [Instr.build, Value.cells]; generalize Instr.fill _ _ _ = z; cases z <;> rfl⟩
instance : TyOne Try.prog 9 := ⟨Try.isAgg9, Try.sizeOf9⟩
instance : TyZero Try.prog 9 (.string ⟨#[]⟩) := ⟨Try.zeroValue9⟩
instance : TyUnder Try.prog 9 .string := ⟨Try.underlying9⟩
instance : TyConc Try.prog 9 := ⟨fun x w => by simp [Instr.makeInterface]⟩
instance : TyOne Try.prog 10 := ⟨Try.isAgg10, Try.sizeOf10⟩
instance : TyZero Try.prog 10 (.string ⟨#[]⟩) := ⟨Try.zeroValue10⟩
instance : TyUnder Try.prog 10 .string := ⟨Try.underlying10⟩
instance : TyConc Try.prog 10 := ⟨fun x w => by simp [Instr.makeInterface]⟩
instance : TyOne Try.prog 11 := ⟨Try.isAgg11, Try.sizeOf11⟩
instance : TyZero Try.prog 11 (.string ⟨#[]⟩) := ⟨Try.zeroValue11⟩
instance : TyUnder Try.prog 11 .string := ⟨Try.underlying11⟩
instance : TyConc Try.prog 11 := ⟨fun x w => by simp [Instr.makeInterface]⟩
instance : TyOne Try.prog 12 := ⟨Try.isAgg12, Try.sizeOf12⟩
instance : TyZero Try.prog 12 (.int .u64 0) := ⟨Try.zeroValue12⟩
instance : TyUnder Try.prog 12 (.int .u64) := ⟨Try.underlying12⟩
instance : TyConc Try.prog 12 := ⟨fun x w => by simp [Instr.makeInterface]⟩
instance : TyAgg Try.prog 13 2 := ⟨Try.isAgg13, Try.sizeOf13⟩
instance : TyZero Try.prog 13 (.agg #[.string ⟨#[]⟩, .int .u64 0]) := ⟨Try.zeroValue13⟩
instance : TyConc Try.prog 13 := ⟨fun x w => by simp [Instr.makeInterface]⟩
instance : TyField Try.prog 13 0 0 := tyField_mk Try.underlying13 rfl rfl Try.sizeOf9 (by decide)
instance : TyField Try.prog 13 1 1 := tyField_mk Try.underlying13 rfl rfl Try.sizeOf12 (by decide)
instance : TyStruct Try.prog 13 [.string ⟨#[]⟩, .int .u64 0] [(0, 1), (1, 1)] := ⟨fun ps w => by simp [Instr.build, Value.cells]; generalize Instr.fill _ _ _ = z; cases z <;> rfl⟩
instance : TyAgg Try.prog 14 2 := ⟨Try.isAgg14, Try.sizeOf14⟩
instance : TyZero Try.prog 14 (.agg #[.string ⟨#[]⟩, .int .u64 0]) := ⟨Try.zeroValue14⟩
instance : TyConc Try.prog 14 := ⟨fun x w => by simp [Instr.makeInterface]⟩
instance : TyField Try.prog 14 0 0 := tyField_mk Try.underlying14 rfl rfl Try.sizeOf9 (by decide)
instance : TyField Try.prog 14 1 1 := tyField_mk Try.underlying14 rfl rfl Try.sizeOf12 (by decide)
instance : TyStruct Try.prog 14 [.string ⟨#[]⟩, .int .u64 0] [(0, 1), (1, 1)] := ⟨fun ps w => by simp [Instr.build, Value.cells]; generalize Instr.fill _ _ _ = z; cases z <;> rfl⟩
instance : TyOne Try.prog 15 := ⟨Try.isAgg15, Try.sizeOf15⟩
instance : TyZero Try.prog 15 (.pointer none) := ⟨Try.zeroValue15⟩
instance : TyUnder Try.prog 15 (.pointer 109) := ⟨Try.underlying15⟩
instance : TyConc Try.prog 15 := ⟨fun x w => by simp [Instr.makeInterface]⟩
instance : TyOne Try.prog 16 := ⟨Try.isAgg16, Try.sizeOf16⟩
instance : TyZero Try.prog 16 (.pointer none) := ⟨Try.zeroValue16⟩
instance : TyUnder Try.prog 16 (.pointer 112) := ⟨Try.underlying16⟩
instance : TyConc Try.prog 16 := ⟨fun x w => by simp [Instr.makeInterface]⟩
instance : TyOne Try.prog 17 := ⟨Try.isAgg17, Try.sizeOf17⟩
instance : TyZero Try.prog 17 (.pointer none) := ⟨Try.zeroValue17⟩
instance : TyUnder Try.prog 17 (.pointer 121) := ⟨Try.underlying17⟩
instance : TyConc Try.prog 17 := ⟨fun x w => by simp [Instr.makeInterface]⟩
instance : TyAgg Try.prog 18 1 := ⟨Try.isAgg18, Try.sizeOf18⟩
instance : TyZero Try.prog 18 (.agg #[.pointer none]) := ⟨Try.zeroValue18⟩
instance : TyConc Try.prog 18 := ⟨fun x w => by simp [Instr.makeInterface]⟩
instance : TyField Try.prog 18 0 0 := tyField_mk Try.underlying18 rfl rfl Try.sizeOf17 (by decide)
instance : TyStruct Try.prog 18 [.pointer none] [(0, 1)] := ⟨fun ps w => by simp [Instr.build, Value.cells]; generalize Instr.fill _ _ _ = z; cases z <;> rfl⟩
instance : TyAgg Try.prog 19 1 := ⟨Try.isAgg19, Try.sizeOf19⟩
instance : TyZero Try.prog 19 (.agg #[.pointer none]) := ⟨Try.zeroValue19⟩
instance : TyConc Try.prog 19 := ⟨fun x w => by simp [Instr.makeInterface]⟩
instance : TyField Try.prog 19 0 0 := tyField_mk Try.underlying19 rfl rfl Try.sizeOf17 (by decide)
instance : TyStruct Try.prog 19 [.pointer none] [(0, 1)] := ⟨fun ps w => by simp [Instr.build, Value.cells]; generalize Instr.fill _ _ _ = z; cases z <;> rfl⟩
instance : TyOne Try.prog 20 := ⟨Try.isAgg20, Try.sizeOf20⟩
instance : TyZero Try.prog 20 (.nilIface) := ⟨Try.zeroValue20⟩
instance : TyOne Try.prog 21 := ⟨Try.isAgg21, Try.sizeOf21⟩
instance : TyZero Try.prog 21 (.int .i32 0) := ⟨Try.zeroValue21⟩
instance : TyUnder Try.prog 21 (.int .i32) := ⟨Try.underlying21⟩
instance : TyConc Try.prog 21 := ⟨fun x w => by simp [Instr.makeInterface]⟩
instance : TyOne Try.prog 22 := ⟨Try.isAgg22, Try.sizeOf22⟩
instance : TyZero Try.prog 22 (.slice none 0 0) := ⟨Try.zeroValue22⟩
instance : TyUnder Try.prog 22 (.slice 29) := ⟨Try.underlying22⟩
instance : TyConc Try.prog 22 := ⟨fun x w => by simp [Instr.makeInterface]⟩
instance : TyOne Try.prog 23 := ⟨Try.isAgg23, Try.sizeOf23⟩
instance : TyZero Try.prog 23 (.nilFunc) := ⟨Try.zeroValue23⟩
instance : TyConc Try.prog 23 := ⟨fun x w => by simp [Instr.makeInterface]⟩
instance : TyOne Try.prog 24 := ⟨Try.isAgg24, Try.sizeOf24⟩
instance : TyZero Try.prog 24 (.pointer none) := ⟨Try.zeroValue24⟩
instance : TyUnder Try.prog 24 (.pointer 56) := ⟨Try.underlying24⟩
instance : TyConc Try.prog 24 := ⟨fun x w => by simp [Instr.makeInterface]⟩
instance : TyOne Try.prog 25 := ⟨Try.isAgg25, Try.sizeOf25⟩
instance : TyZero Try.prog 25 (.nilFunc) := ⟨Try.zeroValue25⟩
instance : TyConc Try.prog 25 := ⟨fun x w => by simp [Instr.makeInterface]⟩
instance : TyOne Try.prog 26 := ⟨Try.isAgg26, Try.sizeOf26⟩
instance : TyZero Try.prog 26 (.pointer none) := ⟨Try.zeroValue26⟩
instance : TyUnder Try.prog 26 (.pointer 39) := ⟨Try.underlying26⟩
instance : TyConc Try.prog 26 := ⟨fun x w => by simp [Instr.makeInterface]⟩
instance : TyOne Try.prog 27 := ⟨Try.isAgg27, Try.sizeOf27⟩
instance : TyZero Try.prog 27 (.nilFunc) := ⟨Try.zeroValue27⟩
instance : TyConc Try.prog 27 := ⟨fun x w => by simp [Instr.makeInterface]⟩
instance : TyAgg Try.prog 28 2 := ⟨Try.isAgg28, Try.sizeOf28⟩
instance : TyZero Try.prog 28 (.agg #[.int .i64 0, .string ⟨#[]⟩]) := ⟨Try.zeroValue28⟩
instance : TyConc Try.prog 28 := ⟨fun x w => by simp [Instr.makeInterface]⟩
instance : TyField Try.prog 28 0 0 := tyField_mk Try.underlying28 rfl rfl Try.sizeOf3 (by decide)
instance : TyField Try.prog 28 1 1 := tyField_mk Try.underlying28 rfl rfl Try.sizeOf9 (by decide)
instance : TyStruct Try.prog 28 [.int .i64 0, .string ⟨#[]⟩] [(0, 1), (1, 1)] := ⟨fun ps w => by simp [Instr.build, Value.cells]; generalize Instr.fill _ _ _ = z; cases z <;> rfl⟩
instance : TyAgg Try.prog 29 2 := ⟨Try.isAgg29, Try.sizeOf29⟩
instance : TyZero Try.prog 29 (.agg #[.int .i64 0, .string ⟨#[]⟩]) := ⟨Try.zeroValue29⟩
instance : TyConc Try.prog 29 := ⟨fun x w => by simp [Instr.makeInterface]⟩
instance : TyField Try.prog 29 0 0 := tyField_mk Try.underlying29 rfl rfl Try.sizeOf3 (by decide)
instance : TyField Try.prog 29 1 1 := tyField_mk Try.underlying29 rfl rfl Try.sizeOf9 (by decide)
instance : TyStruct Try.prog 29 [.int .i64 0, .string ⟨#[]⟩] [(0, 1), (1, 1)] := ⟨fun ps w => by simp [Instr.build, Value.cells]; generalize Instr.fill _ _ _ = z; cases z <;> rfl⟩
instance : TyOne Try.prog 30 := ⟨Try.isAgg30, Try.sizeOf30⟩
instance : TyZero Try.prog 30 (.int .i64 0) := ⟨Try.zeroValue30⟩
instance : TyUnder Try.prog 30 (.int .i64) := ⟨Try.underlying30⟩
instance : TyConc Try.prog 30 := ⟨fun x w => by simp [Instr.makeInterface]⟩
instance : TyOne Try.prog 32 := ⟨Try.isAgg32, Try.sizeOf32⟩
instance : TyZero Try.prog 32 (.nilFunc) := ⟨Try.zeroValue32⟩
instance : TyConc Try.prog 32 := ⟨fun x w => by simp [Instr.makeInterface]⟩
instance : TyOne Try.prog 33 := ⟨Try.isAgg33, Try.sizeOf33⟩
instance : TyZero Try.prog 33 (.nilFunc) := ⟨Try.zeroValue33⟩
instance : TyConc Try.prog 33 := ⟨fun x w => by simp [Instr.makeInterface]⟩
instance : TyOne Try.prog 34 := ⟨Try.isAgg34, Try.sizeOf34⟩
instance : TyZero Try.prog 34 (.nilFunc) := ⟨Try.zeroValue34⟩
instance : TyConc Try.prog 34 := ⟨fun x w => by simp [Instr.makeInterface]⟩
instance : TyOne Try.prog 35 := ⟨Try.isAgg35, Try.sizeOf35⟩
instance : TyZero Try.prog 35 (.slice none 0 0) := ⟨Try.zeroValue35⟩
instance : TyUnder Try.prog 35 (.slice 9) := ⟨Try.underlying35⟩
instance : TyConc Try.prog 35 := ⟨fun x w => by simp [Instr.makeInterface]⟩
instance : TyOne Try.prog 36 := ⟨Try.isAgg36, Try.sizeOf36⟩
instance : TyZero Try.prog 36 (.nilFunc) := ⟨Try.zeroValue36⟩
instance : TyConc Try.prog 36 := ⟨fun x w => by simp [Instr.makeInterface]⟩
instance : TyOne Try.prog 37 := ⟨Try.isAgg37, Try.sizeOf37⟩
instance : TyZero Try.prog 37 (.slice none 0 0) := ⟨Try.zeroValue37⟩
instance : TyUnder Try.prog 37 (.slice 3) := ⟨Try.underlying37⟩
instance : TyConc Try.prog 37 := ⟨fun x w => by simp [Instr.makeInterface]⟩
instance : TyAgg Try.prog 38 3 := ⟨Try.isAgg38, Try.sizeOf38⟩
instance : TyZero Try.prog 38 (.agg #[.int .i64 0, .slice none 0 0, .slice none 0 0]) := ⟨Try.zeroValue38⟩
instance : TyConc Try.prog 38 := ⟨fun x w => by simp [Instr.makeInterface]⟩
instance : TyField Try.prog 38 0 0 := tyField_mk Try.underlying38 rfl rfl Try.sizeOf3 (by decide)
instance : TyField Try.prog 38 1 1 := tyField_mk Try.underlying38 rfl rfl Try.sizeOf35 (by decide)
instance : TyField Try.prog 38 2 2 := tyField_mk Try.underlying38 rfl rfl Try.sizeOf37 (by decide)
instance : TyStruct Try.prog 38 [.int .i64 0, .slice none 0 0, .slice none 0 0] [(0, 1), (1, 1), (2, 1)] := ⟨fun ps w => by simp [Instr.build, Value.cells]; generalize Instr.fill _ _ _ = z; cases z <;> rfl⟩
instance : TyAgg Try.prog 39 3 := ⟨Try.isAgg39, Try.sizeOf39⟩
instance : TyZero Try.prog 39 (.agg #[.int .i64 0, .slice none 0 0, .slice none 0 0]) := ⟨Try.zeroValue39⟩
instance : TyConc Try.prog 39 := ⟨fun x w => by simp [Instr.makeInterface]⟩
instance : TyField Try.prog 39 0 0 := tyField_mk Try.underlying39 rfl rfl Try.sizeOf3 (by decide)
instance : TyField Try.prog 39 1 1 := tyField_mk Try.underlying39 rfl rfl Try.sizeOf35 (by decide)
instance : TyField Try.prog 39 2 2 := tyField_mk Try.underlying39 rfl rfl Try.sizeOf37 (by decide)
instance : TyStruct Try.prog 39 [.int .i64 0, .slice none 0 0, .slice none 0 0] [(0, 1), (1, 1), (2, 1)] := ⟨fun ps w => by simp [Instr.build, Value.cells]; generalize Instr.fill _ _ _ = z; cases z <;> rfl⟩
instance : TyOne Try.prog 40 := ⟨Try.isAgg40, Try.sizeOf40⟩
instance : TyZero Try.prog 40 (.nilFunc) := ⟨Try.zeroValue40⟩
instance : TyConc Try.prog 40 := ⟨fun x w => by simp [Instr.makeInterface]⟩
instance : TyOne Try.prog 41 := ⟨Try.isAgg41, Try.sizeOf41⟩
instance : TyZero Try.prog 41 (.nilFunc) := ⟨Try.zeroValue41⟩
instance : TyConc Try.prog 41 := ⟨fun x w => by simp [Instr.makeInterface]⟩
instance : TyOne Try.prog 42 := ⟨Try.isAgg42, Try.sizeOf42⟩
instance : TyZero Try.prog 42 (.pointer none) := ⟨Try.zeroValue42⟩
instance : TyUnder Try.prog 42 (.pointer 69) := ⟨Try.underlying42⟩
instance : TyConc Try.prog 42 := ⟨fun x w => by simp [Instr.makeInterface]⟩
instance : TyOne Try.prog 43 := ⟨Try.isAgg43, Try.sizeOf43⟩
instance : TyZero Try.prog 43 (.nilFunc) := ⟨Try.zeroValue43⟩
instance : TyConc Try.prog 43 := ⟨fun x w => by simp [Instr.makeInterface]⟩
instance : TyOne Try.prog 45 := ⟨Try.isAgg45, Try.sizeOf45⟩
instance : TyZero Try.prog 45 (.nilFunc) := ⟨Try.zeroValue45⟩
instance : TyConc Try.prog 45 := ⟨fun x w => by simp [Instr.makeInterface]⟩
instance : TyOne Try.prog 46 := ⟨Try.isAgg46, Try.sizeOf46⟩
instance : TyZero Try.prog 46 (.nilFunc) := ⟨Try.zeroValue46⟩
instance : TyConc Try.prog 46 := ⟨fun x w => by simp [Instr.makeInterface]⟩
instance : TyOne Try.prog 47 := ⟨Try.isAgg47, Try.sizeOf47⟩
instance : TyZero Try.prog 47 (.nilFunc) := ⟨Try.zeroValue47⟩
instance : TyConc Try.prog 47 := ⟨fun x w => by simp [Instr.makeInterface]⟩
instance : TyOne Try.prog 48 := ⟨Try.isAgg48, Try.sizeOf48⟩
instance : TyZero Try.prog 48 (.nilFunc) := ⟨Try.zeroValue48⟩
instance : TyConc Try.prog 48 := ⟨fun x w => by simp [Instr.makeInterface]⟩
instance : TyOne Try.prog 49 := ⟨Try.isAgg49, Try.sizeOf49⟩
instance : TyZero Try.prog 49 (.nilFunc) := ⟨Try.zeroValue49⟩
instance : TyConc Try.prog 49 := ⟨fun x w => by simp [Instr.makeInterface]⟩
instance : TyOne Try.prog 50 := ⟨Try.isAgg50, Try.sizeOf50⟩
instance : TyZero Try.prog 50 (.slice none 0 0) := ⟨Try.zeroValue50⟩
instance : TyUnder Try.prog 50 (.slice 4) := ⟨Try.underlying50⟩
instance : TyConc Try.prog 50 := ⟨fun x w => by simp [Instr.makeInterface]⟩
instance : TyOne Try.prog 51 := ⟨Try.isAgg51, Try.sizeOf51⟩
instance : TyZero Try.prog 51 (.nilFunc) := ⟨Try.zeroValue51⟩
instance : TyConc Try.prog 51 := ⟨fun x w => by simp [Instr.makeInterface]⟩
instance : TyOne Try.prog 52 := ⟨Try.isAgg52, Try.sizeOf52⟩
instance : TyZero Try.prog 52 (.nilFunc) := ⟨Try.zeroValue52⟩
instance : TyConc Try.prog 52 := ⟨fun x w => by simp [Instr.makeInterface]⟩
instance : TyOne Try.prog 53 := ⟨Try.isAgg53, Try.sizeOf53⟩
instance : TyZero Try.prog 53 (.nilFunc) := ⟨Try.zeroValue53⟩
instance : TyConc Try.prog 53 := ⟨fun x w => by simp [Instr.makeInterface]⟩
instance : TyOne Try.prog 54 := ⟨Try.isAgg54, Try.sizeOf54⟩
instance : TyZero Try.prog 54 (.map none) := ⟨Try.zeroValue54⟩
instance : TyUnder Try.prog 54 (.map 9 60) := ⟨Try.underlying54⟩
instance : TyConc Try.prog 54 := ⟨fun x w => by simp [Instr.makeInterface]⟩
instance : TyAgg Try.prog 55 3 := ⟨Try.isAgg55, Try.sizeOf55⟩
instance : TyZero Try.prog 55 (.agg #[.int .i64 0, .int .i64 0, .map none]) := ⟨Try.zeroValue55⟩
instance : TyConc Try.prog 55 := ⟨fun x w => by simp [Instr.makeInterface]⟩
instance : TyField Try.prog 55 0 0 := tyField_mk Try.underlying55 rfl rfl Try.sizeOf3 (by decide)
instance : TyField Try.prog 55 1 1 := tyField_mk Try.underlying55 rfl rfl Try.sizeOf3 (by decide)
instance : TyField Try.prog 55 2 2 := tyField_mk Try.underlying55 rfl rfl Try.sizeOf54 (by decide)
instance : TyStruct Try.prog 55 [.int .i64 0, .int .i64 0, .map none] [(0, 1), (1, 1), (2, 1)] := ⟨fun ps w => by simp [Instr.build, Value.cells]; generalize Instr.fill _ _ _ = z; cases z <;> rfl⟩
instance : TyAgg Try.prog 56 3 := ⟨Try.isAgg56, Try.sizeOf56⟩
instance : TyZero Try.prog 56 (.agg #[.int .i64 0, .int .i64 0, .map none]) := ⟨Try.zeroValue56⟩
instance : TyConc Try.prog 56 := ⟨fun x w => by simp [Instr.makeInterface]⟩
instance : TyField Try.prog 56 0 0 := tyField_mk Try.underlying56 rfl rfl Try.sizeOf3 (by decide)
instance : TyField Try.prog 56 1 1 := tyField_mk Try.underlying56 rfl rfl Try.sizeOf3 (by decide)
instance : TyField Try.prog 56 2 2 := tyField_mk Try.underlying56 rfl rfl Try.sizeOf54 (by decide)
instance : TyStruct Try.prog 56 [.int .i64 0, .int .i64 0, .map none] [(0, 1), (1, 1), (2, 1)] := ⟨fun ps w => by simp [Instr.build, Value.cells]; generalize Instr.fill _ _ _ = z; cases z <;> rfl⟩
instance : TyOne Try.prog 57 := ⟨Try.isAgg57, Try.sizeOf57⟩
instance : TyZero Try.prog 57 (.nilFunc) := ⟨Try.zeroValue57⟩
instance : TyConc Try.prog 57 := ⟨fun x w => by simp [Instr.makeInterface]⟩
instance : TyAgg Try.prog 58 2 := ⟨Try.isAgg58, Try.sizeOf58⟩
instance : TyZero Try.prog 58 (.agg #[.int .i64 0, .int .i64 0]) := ⟨Try.zeroValue58⟩
instance : TyConc Try.prog 58 := ⟨fun x w => by simp [Instr.makeInterface]⟩
instance : TyField Try.prog 58 0 0 := tyField_mk Try.underlying58 rfl rfl Try.sizeOf3 (by decide)
instance : TyField Try.prog 58 1 1 := tyField_mk Try.underlying58 rfl rfl Try.sizeOf3 (by decide)
instance : TyStruct Try.prog 58 [.int .i64 0, .int .i64 0] [(0, 1), (1, 1)] := ⟨fun ps w => by simp [Instr.build, Value.cells]; generalize Instr.fill _ _ _ = z; cases z <;> rfl⟩
instance : TyAgg Try.prog 59 2 := ⟨Try.isAgg59, Try.sizeOf59⟩
instance : TyZero Try.prog 59 (.agg #[.int .i64 0, .int .i64 0]) := ⟨Try.zeroValue59⟩
instance : TyConc Try.prog 59 := ⟨fun x w => by simp [Instr.makeInterface]⟩
instance : TyField Try.prog 59 0 0 := tyField_mk Try.underlying59 rfl rfl Try.sizeOf3 (by decide)
instance : TyField Try.prog 59 1 1 := tyField_mk Try.underlying59 rfl rfl Try.sizeOf3 (by decide)
instance : TyStruct Try.prog 59 [.int .i64 0, .int .i64 0] [(0, 1), (1, 1)] := ⟨fun ps w => by simp [Instr.build, Value.cells]; generalize Instr.fill _ _ _ = z; cases z <;> rfl⟩
instance : TyOne Try.prog 60 := ⟨Try.isAgg60, Try.sizeOf60⟩
instance : TyZero Try.prog 60 (.pointer none) := ⟨Try.zeroValue60⟩
instance : TyUnder Try.prog 60 (.pointer 59) := ⟨Try.underlying60⟩
instance : TyConc Try.prog 60 := ⟨fun x w => by simp [Instr.makeInterface]⟩
instance : TyOne Try.prog 61 := ⟨Try.isAgg61, Try.sizeOf61⟩
instance : TyZero Try.prog 61 (.nilFunc) := ⟨Try.zeroValue61⟩
instance : TyConc Try.prog 61 := ⟨fun x w => by simp [Instr.makeInterface]⟩
instance : TyOne Try.prog 62 := ⟨Try.isAgg62, Try.sizeOf62⟩
instance : TyZero Try.prog 62 (.nilFunc) := ⟨Try.zeroValue62⟩
instance : TyConc Try.prog 62 := ⟨fun x w => by simp [Instr.makeInterface]⟩
instance : TyOne Try.prog 63 := ⟨Try.isAgg63, Try.sizeOf63⟩
instance : TyZero Try.prog 63 (.nilFunc) := ⟨Try.zeroValue63⟩
instance : TyConc Try.prog 63 := ⟨fun x w => by simp [Instr.makeInterface]⟩
instance : TyOne Try.prog 64 := ⟨Try.isAgg64, Try.sizeOf64⟩
instance : TyZero Try.prog 64 (.nilFunc) := ⟨Try.zeroValue64⟩
instance : TyConc Try.prog 64 := ⟨fun x w => by simp [Instr.makeInterface]⟩
instance : TyOne Try.prog 65 := ⟨Try.isAgg65, Try.sizeOf65⟩
instance : TyZero Try.prog 65 (.nilFunc) := ⟨Try.zeroValue65⟩
instance : TyConc Try.prog 65 := ⟨fun x w => by simp [Instr.makeInterface]⟩
instance : TyOne Try.prog 66 := ⟨Try.isAgg66, Try.sizeOf66⟩
instance : TyZero Try.prog 66 (.nilFunc) := ⟨Try.zeroValue66⟩
instance : TyConc Try.prog 66 := ⟨fun x w => by simp [Instr.makeInterface]⟩
instance : TyOne Try.prog 67 := ⟨Try.isAgg67, Try.sizeOf67⟩
instance : TyZero Try.prog 67 (.map none) := ⟨Try.zeroValue67⟩
instance : TyUnder Try.prog 67 (.map 3 60) := ⟨Try.underlying67⟩
instance : TyConc Try.prog 67 := ⟨fun x w => by simp [Instr.makeInterface]⟩
instance : TyAgg Try.prog 68 3 := ⟨Try.isAgg68, Try.sizeOf68⟩
instance : TyZero Try.prog 68 (.agg #[.int .i64 0, .int .i64 0, .map none]) := ⟨Try.zeroValue68⟩
instance : TyConc Try.prog 68 := ⟨fun x w => by simp [Instr.makeInterface]⟩
instance : TyField Try.prog 68 0 0 := tyField_mk Try.underlying68 rfl rfl Try.sizeOf3 (by decide)
instance : TyField Try.prog 68 1 1 := tyField_mk Try.underlying68 rfl rfl Try.sizeOf3 (by decide)
instance : TyField Try.prog 68 2 2 := tyField_mk Try.underlying68 rfl rfl Try.sizeOf67 (by decide)
instance : TyStruct Try.prog 68 [.int .i64 0, .int .i64 0, .map none] [(0, 1), (1, 1), (2, 1)] := ⟨fun ps w => by simp [Instr.build, Value.cells]; generalize Instr.fill _ _ _ = z; cases z <;> rfl⟩
instance : TyAgg Try.prog 69 3 := ⟨Try.isAgg69, Try.sizeOf69⟩
instance : TyZero Try.prog 69 (.agg #[.int .i64 0, .int .i64 0, .map none]) := ⟨Try.zeroValue69⟩
instance : TyConc Try.prog 69 := ⟨fun x w => by simp [Instr.makeInterface]⟩
instance : TyField Try.prog 69 0 0 := tyField_mk Try.underlying69 rfl rfl Try.sizeOf3 (by decide)
instance : TyField Try.prog 69 1 1 := tyField_mk Try.underlying69 rfl rfl Try.sizeOf3 (by decide)
instance : TyField Try.prog 69 2 2 := tyField_mk Try.underlying69 rfl rfl Try.sizeOf67 (by decide)
instance : TyStruct Try.prog 69 [.int .i64 0, .int .i64 0, .map none] [(0, 1), (1, 1), (2, 1)] := ⟨fun ps w => by simp [Instr.build, Value.cells]; generalize Instr.fill _ _ _ = z; cases z <;> rfl⟩
instance : TyOne Try.prog 70 := ⟨Try.isAgg70, Try.sizeOf70⟩
instance : TyZero Try.prog 70 (.nilFunc) := ⟨Try.zeroValue70⟩
instance : TyConc Try.prog 70 := ⟨fun x w => by simp [Instr.makeInterface]⟩
instance : TyOne Try.prog 71 := ⟨Try.isAgg71, Try.sizeOf71⟩
instance : TyZero Try.prog 71 (.nilFunc) := ⟨Try.zeroValue71⟩
instance : TyConc Try.prog 71 := ⟨fun x w => by simp [Instr.makeInterface]⟩
instance : TyOne Try.prog 72 := ⟨Try.isAgg72, Try.sizeOf72⟩
instance : TyZero Try.prog 72 (.nilFunc) := ⟨Try.zeroValue72⟩
instance : TyConc Try.prog 72 := ⟨fun x w => by simp [Instr.makeInterface]⟩
instance : TyOne Try.prog 73 := ⟨Try.isAgg73, Try.sizeOf73⟩
instance : TyZero Try.prog 73 (.nilFunc) := ⟨Try.zeroValue73⟩
instance : TyConc Try.prog 73 := ⟨fun x w => by simp [Instr.makeInterface]⟩
instance : TyOne Try.prog 74 := ⟨Try.isAgg74, Try.sizeOf74⟩
instance : TyZero Try.prog 74 (.nilFunc) := ⟨Try.zeroValue74⟩
instance : TyConc Try.prog 74 := ⟨fun x w => by simp [Instr.makeInterface]⟩
instance : TyOne Try.prog 75 := ⟨Try.isAgg75, Try.sizeOf75⟩
instance : TyZero Try.prog 75 (.nilFunc) := ⟨Try.zeroValue75⟩
instance : TyConc Try.prog 75 := ⟨fun x w => by simp [Instr.makeInterface]⟩
instance : TyOne Try.prog 76 := ⟨Try.isAgg76, Try.sizeOf76⟩
instance : TyZero Try.prog 76 (.int .u64 0) := ⟨Try.zeroValue76⟩
instance : TyUnder Try.prog 76 (.int .u64) := ⟨Try.underlying76⟩
instance : TyConc Try.prog 76 := ⟨fun x w => by simp [Instr.makeInterface]⟩
instance : TyOne Try.prog 77 := ⟨Try.isAgg77, Try.sizeOf77⟩
instance : TyZero Try.prog 77 (.nilFunc) := ⟨Try.zeroValue77⟩
instance : TyConc Try.prog 77 := ⟨fun x w => by simp [Instr.makeInterface]⟩
instance : TyOne Try.prog 78 := ⟨Try.isAgg78, Try.sizeOf78⟩
instance : TyZero Try.prog 78 (.nilFunc) := ⟨Try.zeroValue78⟩
instance : TyConc Try.prog 78 := ⟨fun x w => by simp [Instr.makeInterface]⟩
instance : TyOne Try.prog 79 := ⟨Try.isAgg79, Try.sizeOf79⟩
instance : TyZero Try.prog 79 (.int .i64 0) := ⟨Try.zeroValue79⟩
instance : TyUnder Try.prog 79 (.int .i64) := ⟨Try.underlying79⟩
instance : TyConc Try.prog 79 := ⟨fun x w => by simp [Instr.makeInterface]⟩
instance : TyOne Try.prog 81 := ⟨Try.isAgg81, Try.sizeOf81⟩
instance : TyZero Try.prog 81 (.nilFunc) := ⟨Try.zeroValue81⟩
instance : TyConc Try.prog 81 := ⟨fun x w => by simp [Instr.makeInterface]⟩
instance : TyOne Try.prog 82 := ⟨Try.isAgg82, Try.sizeOf82⟩
instance : TyZero Try.prog 82 (.nilFunc) := ⟨Try.zeroValue82⟩
instance : TyConc Try.prog 82 := ⟨fun x w => by simp [Instr.makeInterface]⟩
instance : TyOne Try.prog 83 := ⟨Try.isAgg83, Try.sizeOf83⟩
instance : TyZero Try.prog 83 (.nilFunc) := ⟨Try.zeroValue83⟩
instance : TyConc Try.prog 83 := ⟨fun x w => by simp [Instr.makeInterface]⟩
instance : TyOne Try.prog 85 := ⟨Try.isAgg85, Try.sizeOf85⟩
instance : TyZero Try.prog 85 (.nilFunc) := ⟨Try.zeroValue85⟩
instance : TyConc Try.prog 85 := ⟨fun x w => by simp [Instr.makeInterface]⟩
instance : TyOne Try.prog 86 := ⟨Try.isAgg86, Try.sizeOf86⟩
instance : TyZero Try.prog 86 (.nilFunc) := ⟨Try.zeroValue86⟩
instance : TyConc Try.prog 86 := ⟨fun x w => by simp [Instr.makeInterface]⟩
instance : TyOne Try.prog 87 := ⟨Try.isAgg87, Try.sizeOf87⟩
instance : TyZero Try.prog 87 (.int .u32 0) := ⟨Try.zeroValue87⟩
instance : TyUnder Try.prog 87 (.int .u32) := ⟨Try.underlying87⟩
instance : TyConc Try.prog 87 := ⟨fun x w => by simp [Instr.makeInterface]⟩
instance : TyOne Try.prog 88 := ⟨Try.isAgg88, Try.sizeOf88⟩
instance : TyZero Try.prog 88 (.nilFunc) := ⟨Try.zeroValue88⟩
instance : TyConc Try.prog 88 := ⟨fun x w => by simp [Instr.makeInterface]⟩
instance : TyOne Try.prog 89 := ⟨Try.isAgg89, Try.sizeOf89⟩
instance : TyZero Try.prog 89 (.int .u64 0) := ⟨Try.zeroValue89⟩
instance : TyUnder Try.prog 89 (.int .u64) := ⟨Try.underlying89⟩
instance : TyConc Try.prog 89 := ⟨fun x w => by simp [Instr.makeInterface]⟩
instance : TyOne Try.prog 90 := ⟨Try.isAgg90, Try.sizeOf90⟩
instance : TyZero Try.prog 90 (.nilFunc) := ⟨Try.zeroValue90⟩
instance : TyConc Try.prog 90 := ⟨fun x w => by simp [Instr.makeInterface]⟩
instance : TyOne Try.prog 91 := ⟨Try.isAgg91, Try.sizeOf91⟩
instance : TyZero Try.prog 91 (.nilFunc) := ⟨Try.zeroValue91⟩
instance : TyConc Try.prog 91 := ⟨fun x w => by simp [Instr.makeInterface]⟩
instance : TyOne Try.prog 92 := ⟨Try.isAgg92, Try.sizeOf92⟩
instance : TyZero Try.prog 92 (.nilFunc) := ⟨Try.zeroValue92⟩
instance : TyConc Try.prog 92 := ⟨fun x w => by simp [Instr.makeInterface]⟩
instance : TyOne Try.prog 93 := ⟨Try.isAgg93, Try.sizeOf93⟩
instance : TyZero Try.prog 93 (.nilFunc) := ⟨Try.zeroValue93⟩
instance : TyConc Try.prog 93 := ⟨fun x w => by simp [Instr.makeInterface]⟩
instance : TyOne Try.prog 94 := ⟨Try.isAgg94, Try.sizeOf94⟩
instance : TyZero Try.prog 94 (.nilFunc) := ⟨Try.zeroValue94⟩
instance : TyConc Try.prog 94 := ⟨fun x w => by simp [Instr.makeInterface]⟩
instance : TyOne Try.prog 95 := ⟨Try.isAgg95, Try.sizeOf95⟩
instance : TyZero Try.prog 95 (.int .u64 0) := ⟨Try.zeroValue95⟩
instance : TyUnder Try.prog 95 (.int .u64) := ⟨Try.underlying95⟩
instance : TyConc Try.prog 95 := ⟨fun x w => by simp [Instr.makeInterface]⟩
instance : TyOne Try.prog 96 := ⟨Try.isAgg96, Try.sizeOf96⟩
instance : TyZero Try.prog 96 (.nilFunc) := ⟨Try.zeroValue96⟩
instance : TyConc Try.prog 96 := ⟨fun x w => by simp [Instr.makeInterface]⟩
instance : TyOne Try.prog 97 := ⟨Try.isAgg97, Try.sizeOf97⟩
instance : TyZero Try.prog 97 (.nilFunc) := ⟨Try.zeroValue97⟩
instance : TyConc Try.prog 97 := ⟨fun x w => by simp [Instr.makeInterface]⟩
instance : TyOne Try.prog 98 := ⟨Try.isAgg98, Try.sizeOf98⟩
instance : TyZero Try.prog 98 (.nilFunc) := ⟨Try.zeroValue98⟩
instance : TyConc Try.prog 98 := ⟨fun x w => by simp [Instr.makeInterface]⟩
instance : TyOne Try.prog 99 := ⟨Try.isAgg99, Try.sizeOf99⟩
instance : TyZero Try.prog 99 (.pointer none) := ⟨Try.zeroValue99⟩
instance : TyUnder Try.prog 99 (.pointer 3) := ⟨Try.underlying99⟩
instance : TyConc Try.prog 99 := ⟨fun x w => by simp [Instr.makeInterface]⟩
instance : TyOne Try.prog 100 := ⟨Try.isAgg100, Try.sizeOf100⟩
instance : TyZero Try.prog 100 (.nilFunc) := ⟨Try.zeroValue100⟩
instance : TyConc Try.prog 100 := ⟨fun x w => by simp [Instr.makeInterface]⟩
instance : TyOne Try.prog 101 := ⟨Try.isAgg101, Try.sizeOf101⟩
instance : TyZero Try.prog 101 (.nilFunc) := ⟨Try.zeroValue101⟩
instance : TyConc Try.prog 101 := ⟨fun x w => by simp [Instr.makeInterface]⟩
instance : TyOne Try.prog 102 := ⟨Try.isAgg102, Try.sizeOf102⟩
instance : TyZero Try.prog 102 (.nilFunc) := ⟨Try.zeroValue102⟩
instance : TyConc Try.prog 102 := ⟨fun x w => by simp [Instr.makeInterface]⟩
instance : TyOne Try.prog 103 := ⟨Try.isAgg103, Try.sizeOf103⟩
instance : TyZero Try.prog 103 (.pointer none) := ⟨Try.zeroValue103⟩
instance : TyUnder Try.prog 103 (.pointer 95) := ⟨Try.underlying103⟩
instance : TyConc Try.prog 103 := ⟨fun x w => by simp [Instr.makeInterface]⟩
instance : TyOne Try.prog 105 := ⟨Try.isAgg105, Try.sizeOf105⟩
instance : TyZero Try.prog 105 (.nilFunc) := ⟨Try.zeroValue105⟩
instance : TyConc Try.prog 105 := ⟨fun x w => by simp [Instr.makeInterface]⟩
instance : TyOne Try.prog 106 := ⟨Try.isAgg106, Try.sizeOf106⟩
instance : TyZero Try.prog 106 (.nilFunc) := ⟨Try.zeroValue106⟩
instance : TyConc Try.prog 106 := ⟨fun x w => by simp [Instr.makeInterface]⟩
instance : TyOne Try.prog 107 := ⟨Try.isAgg107, Try.sizeOf107⟩
instance : TyZero Try.prog 107 (.nilFunc) := ⟨Try.zeroValue107⟩
instance : TyConc Try.prog 107 := ⟨fun x w => by simp [Instr.makeInterface]⟩
instance : TyAgg Try.prog 108 4 := ⟨Try.isAgg108, Try.sizeOf108⟩
instance : TyZero Try.prog 108 (.agg #[.pointer none, .pointer none, .pointer none, .string ⟨#[]⟩]) := ⟨Try.zeroValue108⟩
instance : TyConc Try.prog 108 := ⟨fun x w => by simp [Instr.makeInterface]⟩
instance : TyField Try.prog 108 0 0 := tyField_mk Try.underlying108 rfl rfl Try.sizeOf17 (by decide)
instance : TyField Try.prog 108 1 1 := tyField_mk Try.underlying108 rfl rfl Try.sizeOf17 (by decide)
instance : TyField Try.prog 108 2 2 := tyField_mk Try.underlying108 rfl rfl Try.sizeOf17 (by decide)
instance : TyField Try.prog 108 3 3 := tyField_mk Try.underlying108 rfl rfl Try.sizeOf9 (by decide)
instance : TyStruct Try.prog 108 [.pointer none, .pointer none, .pointer none, .string ⟨#[]⟩] [(0, 1), (1, 1), (2, 1), (3, 1)] := ⟨fun ps w => by simp [Instr.build, Value.cells]; generalize Instr.fill _ _ _ = z; cases z <;> rfl⟩
instance : TyAgg Try.prog 109 4 := ⟨Try.isAgg109, Try.sizeOf109⟩
instance : TyZero Try.prog 109 (.agg #[.pointer none, .pointer none, .pointer none, .string ⟨#[]⟩]) := ⟨Try.zeroValue109⟩
instance : TyConc Try.prog 109 := ⟨fun x w => by simp [Instr.makeInterface]⟩
instance : TyField Try.prog 109 0 0 := tyField_mk Try.underlying109 rfl rfl Try.sizeOf17 (by decide)
instance : TyField Try.prog 109 1 1 := tyField_mk Try.underlying109 rfl rfl Try.sizeOf17 (by decide)
instance : TyField Try.prog 109 2 2 := tyField_mk Try.underlying109 rfl rfl Try.sizeOf17 (by decide)
instance : TyField Try.prog 109 3 3 := tyField_mk Try.underlying109 rfl rfl Try.sizeOf9 (by decide)
instance : TyStruct Try.prog 109 [.pointer none, .pointer none, .pointer none, .string ⟨#[]⟩] [(0, 1), (1, 1), (2, 1), (3, 1)] := ⟨fun ps w => by simp [Instr.build, Value.cells]; generalize Instr.fill _ _ _ = z; cases z <;> rfl⟩
instance : TyZero Try.prog 110 (.agg #[]) := ⟨Try.zeroValue110⟩
instance : TyUnder Try.prog 110 (.array 0 16) := ⟨Try.underlying110⟩
instance : TyConc Try.prog 110 := ⟨fun x w => by simp [Instr.makeInterface]⟩
instance : TyZero Try.prog 111 (.agg #[]) := ⟨Try.zeroValue111⟩
instance : TyConc Try.prog 111 := ⟨fun x w => by simp [Instr.makeInterface]⟩
instance : TyZero Try.prog 112 (.agg #[]) := ⟨Try.zeroValue112⟩
instance : TyConc Try.prog 112 := ⟨fun x w => by simp [Instr.makeInterface]⟩
instance : TyOne Try.prog 113 := ⟨Try.isAgg113, Try.sizeOf113⟩
instance : TyZero Try.prog 113 (.nilFunc) := ⟨Try.zeroValue113⟩
instance : TyConc Try.prog 113 := ⟨fun x w => by simp [Instr.makeInterface]⟩
instance : TyOne Try.prog 114 := ⟨Try.isAgg114, Try.sizeOf114⟩
instance : TyZero Try.prog 114 (.int .u8 0) := ⟨Try.zeroValue114⟩
instance : TyUnder Try.prog 114 (.int .u8) := ⟨Try.underlying114⟩
instance : TyConc Try.prog 114 := ⟨fun x w => by simp [Instr.makeInterface]⟩
instance : TyOne Try.prog 115 := ⟨Try.isAgg115, Try.sizeOf115⟩
instance : TyZero Try.prog 115 (.int .u8 0) := ⟨Try.zeroValue115⟩
instance : TyUnder Try.prog 115 (.int .u8) := ⟨Try.underlying115⟩
instance : TyConc Try.prog 115 := ⟨fun x w => by simp [Instr.makeInterface]⟩
instance : TyOne Try.prog 117 := ⟨Try.isAgg117, Try.sizeOf117⟩
instance : TyZero Try.prog 117 (.pointer none) := ⟨Try.zeroValue117⟩
instance : TyUnder Try.prog 117 (.pointer 5) := ⟨Try.underlying117⟩
instance : TyConc Try.prog 117 := ⟨fun x w => by simp [Instr.makeInterface]⟩
instance : TyOne Try.prog 118 := ⟨Try.isAgg118, Try.sizeOf118⟩
instance : TyZero Try.prog 118 (.int .i32 0) := ⟨Try.zeroValue118⟩
instance : TyUnder Try.prog 118 (.int .i32) := ⟨Try.underlying118⟩
instance : TyConc Try.prog 118 := ⟨fun x w => by simp [Instr.makeInterface]⟩
instance : TyOne Try.prog 119 := ⟨Try.isAgg119, Try.sizeOf119⟩
instance : TyZero Try.prog 119 (.int .i32 0) := ⟨Try.zeroValue119⟩
instance : TyUnder Try.prog 119 (.int .i32) := ⟨Try.underlying119⟩
instance : TyConc Try.prog 119 := ⟨fun x w => by simp [Instr.makeInterface]⟩
instance : TyAgg Try.prog 121 11 := ⟨Try.isAgg121, Try.sizeOf121⟩
instance : TyZero Try.prog 121 (.agg #[.int .u64 0, .int .u64 0, .int .u32 0, .int .u8 0, .int .u8 0, .int .u8 0, .int .u8 0, .nilFunc, .pointer none, .int .i32 0, .int .i32 0]) := ⟨Try.zeroValue121⟩
instance : TyConc Try.prog 121 := ⟨fun x w => by simp [Instr.makeInterface]⟩
instance : TyField Try.prog 121 0 0 := tyField_mk Try.underlying121 rfl rfl Try.sizeOf12 (by decide)
instance : TyField Try.prog 121 1 1 := tyField_mk Try.underlying121 rfl rfl Try.sizeOf12 (by decide)
instance : TyField Try.prog 121 2 2 := tyField_mk Try.underlying121 rfl rfl Try.sizeOf87 (by decide)
instance : TyField Try.prog 121 3 3 := tyField_mk Try.underlying121 rfl rfl Try.sizeOf114 (by decide)
instance : TyField Try.prog 121 4 4 := tyField_mk Try.underlying121 rfl rfl Try.sizeOf5 (by decide)
instance : TyField Try.prog 121 5 5 := tyField_mk Try.underlying121 rfl rfl Try.sizeOf5 (by decide)
instance : TyField Try.prog 121 6 6 := tyField_mk Try.underlying121 rfl rfl Try.sizeOf115 (by decide)
instance : TyField Try.prog 121 7 7 := tyField_mk Try.underlying121 rfl rfl Try.sizeOf116 (by decide)
instance : TyField Try.prog 121 8 8 := tyField_mk Try.underlying121 rfl rfl Try.sizeOf117 (by decide)
instance : TyField Try.prog 121 9 9 := tyField_mk Try.underlying121 rfl rfl Try.sizeOf118 (by decide)
instance : TyField Try.prog 121 10 10 := tyField_mk Try.underlying121 rfl rfl Try.sizeOf119 (by decide)
instance : TyStruct Try.prog 121 [.int .u64 0, .int .u64 0, .int .u32 0, .int .u8 0, .int .u8 0, .int .u8 0, .int .u8 0, .nilFunc, .pointer none, .int .i32 0, .int .i32 0] [(0, 1), (1, 1), (2, 1), (3, 1), (4, 1), (5, 1), (6, 1), (7, 1), (8, 1), (9, 1), (10, 1)] := ⟨fun ps w => by simp [Instr.build, Value.cells]; generalize Instr.fill _ _ _ = z; cases z <;> rfl⟩
instance : TyCall Try.prog 3 := ⟨Try.call3⟩
instance : TyCall Try.prog 4 := ⟨Try.call4⟩
instance : TyCall Try.prog 5 := ⟨Try.call5⟩
instance : TyCall Try.prog 6 := ⟨Try.call6⟩
instance : TyCall Try.prog 7 := ⟨Try.call7⟩
instance : TyCall Try.prog 8 := ⟨Try.call8⟩
instance : TyCall Try.prog 9 := ⟨Try.call9⟩
instance : TyCall Try.prog 10 := ⟨Try.call10⟩
instance : TyCall Try.prog 11 := ⟨Try.call11⟩
instance : TyCall Try.prog 12 := ⟨Try.call12⟩
instance : TyCall Try.prog 13 := ⟨Try.call13⟩
instance : TyCall Try.prog 14 := ⟨Try.call14⟩
instance : TyCall Try.prog 15 := ⟨Try.call15⟩
instance : TyCall Try.prog 16 := ⟨Try.call16⟩
instance : TyCall Try.prog 17 := ⟨Try.call17⟩
instance : TyCall Try.prog 18 := ⟨Try.call18⟩
instance : TyCall Try.prog 19 := ⟨Try.call19⟩
instance : TyCall Try.prog 20 := ⟨Try.call20⟩
instance : TyCall Try.prog 21 := ⟨Try.call21⟩
instance : TyCall Try.prog 22 := ⟨Try.call22⟩
instance : TyCall Try.prog 23 := ⟨Try.call23⟩
instance : TyCall Try.prog 24 := ⟨Try.call24⟩
instance : TyCall Try.prog 25 := ⟨Try.call25⟩
instance : TyCall Try.prog 26 := ⟨Try.call26⟩
instance : TyCall Try.prog 27 := ⟨Try.call27⟩
instance : TyCall Try.prog 28 := ⟨Try.call28⟩
instance : TyCall Try.prog 29 := ⟨Try.call29⟩
instance : TyCall Try.prog 30 := ⟨Try.call30⟩
instance : TyCall Try.prog 31 := ⟨Try.call31⟩
instance : TyCall Try.prog 32 := ⟨Try.call32⟩
instance : TyCall Try.prog 33 := ⟨Try.call33⟩
instance : TyCall Try.prog 34 := ⟨Try.call34⟩
instance : TyCall Try.prog 35 := ⟨Try.call35⟩
instance : TyCall Try.prog 36 := ⟨Try.call36⟩
instance : TyCall Try.prog 37 := ⟨Try.call37⟩
instance : TyCall Try.prog 38 := ⟨Try.call38⟩
instance : TyCall Try.prog 39 := ⟨Try.call39⟩
instance : TyCall Try.prog 40 := ⟨Try.call40⟩
instance : TyCall Try.prog 41 := ⟨Try.call41⟩
instance : TyCall Try.prog 42 := ⟨Try.call42⟩
instance : TyCall Try.prog 43 := ⟨Try.call43⟩
instance : TyCall Try.prog 44 := ⟨Try.call44⟩
instance : TyCall Try.prog 45 := ⟨Try.call45⟩
instance : TyCall Try.prog 46 := ⟨Try.call46⟩
instance : TyCall Try.prog 47 := ⟨Try.call47⟩
instance : TyCall Try.prog 48 := ⟨Try.call48⟩
instance : TyCall Try.prog 49 := ⟨Try.call49⟩
instance : TyCall Try.prog 50 := ⟨Try.call50⟩
instance : TyCall Try.prog 51 := ⟨Try.call51⟩
instance : TyCall Try.prog 52 := ⟨Try.call52⟩
instance : TyCall Try.prog 53 := ⟨Try.call53⟩
instance : TyCall Try.prog 54 := ⟨Try.call54⟩
instance : TyCall Try.prog 55 := ⟨Try.call55⟩
instance : TyCall Try.prog 56 := ⟨Try.call56⟩
instance : TyCall Try.prog 57 := ⟨Try.call57⟩
instance : TyCall Try.prog 58 := ⟨Try.call58⟩
instance : TyCall Try.prog 59 := ⟨Try.call59⟩
instance : TyCall Try.prog 60 := ⟨Try.call60⟩
instance : TyCall Try.prog 61 := ⟨Try.call61⟩
instance : TyCall Try.prog 62 := ⟨Try.call62⟩
instance : TyCall Try.prog 63 := ⟨Try.call63⟩
instance : TyCall Try.prog 64 := ⟨Try.call64⟩
instance : TyCall Try.prog 65 := ⟨Try.call65⟩
instance : TyCall Try.prog 66 := ⟨Try.call66⟩
instance : TyCall Try.prog 67 := ⟨Try.call67⟩
instance : TyCall Try.prog 68 := ⟨Try.call68⟩
instance : TyCall Try.prog 69 := ⟨Try.call69⟩
instance : TyCall Try.prog 70 := ⟨Try.call70⟩
instance : TyCall Try.prog 71 := ⟨Try.call71⟩
instance : TyCall Try.prog 72 := ⟨Try.call72⟩
instance : TyCall Try.prog 73 := ⟨Try.call73⟩
instance : TyCall Try.prog 74 := ⟨Try.call74⟩
instance : TyCall Try.prog 75 := ⟨Try.call75⟩
instance : TyCall Try.prog 76 := ⟨Try.call76⟩
instance : TyCall Try.prog 77 := ⟨Try.call77⟩
instance : TyCall Try.prog 78 := ⟨Try.call78⟩
instance : TyCall Try.prog 79 := ⟨Try.call79⟩
instance : TyCall Try.prog 80 := ⟨Try.call80⟩
instance : TyMeth Try.prog 30 "Error" 96 := ⟨fun v w => by kernel_rfl⟩
end Go.Proofs.Ytigkckpjbnflpaa
