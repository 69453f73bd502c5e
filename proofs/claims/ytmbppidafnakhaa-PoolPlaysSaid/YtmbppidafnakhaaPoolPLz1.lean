/-
  Texts of this claim, put together.
-/
import Derived.Test.YtmbppidafnakhaaProg
import Derived.Test.YtmbppidafnakhaaChecked
import Derived.Test.YtmbppidafnakhaaPoolPLz0
/-
  What this seat's types are, as instances.
-/
namespace Go.Proofs.Ytmbppidafnakhaa
open Go Brv
instance : TyOne Try.prog 1 := ⟨by kernel_rfl, by kernel_rfl⟩
instance : TyInt Try.prog 2 .i64 := ⟨Try.underlying2⟩
instance : TyOne Try.prog 2 := ⟨by kernel_rfl, by kernel_rfl⟩
instance : TyZero Try.prog 2 (.int .i64 0) := ⟨by kernel_rfl⟩
instance : TyInt Try.prog 3 .i64 := ⟨Try.underlying3⟩
instance : TyOne Try.prog 3 := ⟨by kernel_rfl, by kernel_rfl⟩
instance : TyZero Try.prog 3 (.int .i64 0) := ⟨by kernel_rfl⟩
instance : TyBool Try.prog 4 := ⟨Try.underlying4⟩
instance : TyOne Try.prog 4 := ⟨by kernel_rfl, by kernel_rfl⟩
instance : TyZero Try.prog 4 (.bool false) := ⟨by kernel_rfl⟩
instance : TyInt Try.prog 5 .u8 := ⟨Try.underlying5⟩
instance : TyOne Try.prog 5 := ⟨by kernel_rfl, by kernel_rfl⟩
instance : TyZero Try.prog 5 (.int .u8 0) := ⟨by kernel_rfl⟩
instance : TyAgg Try.prog 7 4 := ⟨by kernel_rfl, by kernel_rfl⟩
instance : TyField Try.prog 7 0 0 := ⟨_, _, Try.underlying7, rfl, rfl, by kernel_rfl⟩
instance : TyField Try.prog 7 1 1 := ⟨_, _, Try.underlying7, rfl, rfl, by kernel_rfl⟩
instance : TyField Try.prog 7 2 2 := ⟨_, _, Try.underlying7, rfl, rfl, by kernel_rfl⟩
instance : TyField Try.prog 7 3 3 := ⟨_, _, Try.underlying7, rfl, rfl, by kernel_rfl⟩
instance : TyBuilt Try.prog 7 (fun i => (#[(0, 1), (1, 1), (2, 1), (3, 1)] : Array (Nat × Nat))[i]?) (.agg #[.int .i64 0, .int .i64 0, .bool false, .int .u8 0]) := TyBuilt.struct (ps := [(0, 1), (1, 1), (2, 1), (3, 1)]) Try.underlying7 (by kernel_rfl) (by kernel_rfl)
instance : TyZero Try.prog 7 (.agg #[.int .i64 0, .int .i64 0, .bool false, .int .u8 0]) := ⟨by kernel_rfl⟩
instance : TyStr Try.prog 9 := ⟨Try.underlying9⟩
instance : TyOne Try.prog 9 := ⟨by kernel_rfl, by kernel_rfl⟩
instance : TyZero Try.prog 9 (.string ByteArray.empty) := ⟨by kernel_rfl⟩
instance : TyInt Try.prog 12 .u64 := ⟨Try.underlying12⟩
instance : TyOne Try.prog 12 := ⟨by kernel_rfl, by kernel_rfl⟩
instance : TyZero Try.prog 12 (.int .u64 0) := ⟨by kernel_rfl⟩
instance : TyAgg Try.prog 13 2 := ⟨by kernel_rfl, by kernel_rfl⟩
instance : TyField Try.prog 13 0 0 := ⟨_, _, Try.underlying13, rfl, rfl, by kernel_rfl⟩
instance : TyField Try.prog 13 1 1 := ⟨_, _, Try.underlying13, rfl, rfl, by kernel_rfl⟩
instance : TyBuilt Try.prog 13 (fun i => (#[(0, 1), (1, 1)] : Array (Nat × Nat))[i]?) (.agg #[.string ByteArray.empty, .int .u64 0]) := TyBuilt.struct (ps := [(0, 1), (1, 1)]) Try.underlying13 (by kernel_rfl) (by kernel_rfl)
instance : TyZero Try.prog 13 (.agg #[.string ByteArray.empty, .int .u64 0]) := ⟨by kernel_rfl⟩
instance : TyAgg Try.prog 18 1 := ⟨by kernel_rfl, by kernel_rfl⟩
instance : TyField Try.prog 18 0 0 := ⟨_, _, Try.underlying18, rfl, rfl, by kernel_rfl⟩
instance : TyBuilt Try.prog 18 (fun i => (#[(0, 1)] : Array (Nat × Nat))[i]?) (.agg #[.pointer none]) := TyBuilt.struct (ps := [(0, 1)]) Try.underlying18 (by kernel_rfl) (by kernel_rfl)
instance : TyZero Try.prog 18 (.agg #[.pointer none]) := ⟨by kernel_rfl⟩
instance : TyOne Try.prog 20 := ⟨by kernel_rfl, by kernel_rfl⟩
instance : TyInt Try.prog 21 .i32 := ⟨Try.underlying21⟩
instance : TyOne Try.prog 21 := ⟨by kernel_rfl, by kernel_rfl⟩
instance : TyZero Try.prog 21 (.int .i32 0) := ⟨by kernel_rfl⟩
instance : TyOne Try.prog 22 := ⟨by kernel_rfl, by kernel_rfl⟩
instance : TyZero Try.prog 22 (.slice none 0 0) := ⟨by kernel_rfl⟩
instance : TySlice Try.prog 22 68 2 32 (.agg #[.int .i64 0, .slice none 0 0]) := TySlice.of Try.underlying22 (by kernel_rfl) (by kernel_rfl) (by decide)
instance : TyOne Try.prog 23 := ⟨by kernel_rfl, by kernel_rfl⟩
instance : TyPtr Try.prog 24 := ⟨_, Try.underlying24⟩
instance : TyOne Try.prog 24 := ⟨by kernel_rfl, by kernel_rfl⟩
instance : TyZero Try.prog 24 (.pointer none) := ⟨by kernel_rfl⟩
instance : TyInt Try.prog 25 .i64 := ⟨Try.underlying25⟩
instance : TyOne Try.prog 25 := ⟨by kernel_rfl, by kernel_rfl⟩
instance : TyZero Try.prog 25 (.int .i64 0) := ⟨by kernel_rfl⟩
instance : TyOne Try.prog 27 := ⟨by kernel_rfl, by kernel_rfl⟩
instance : TyPtr Try.prog 28 := ⟨_, Try.underlying28⟩
instance : TyOne Try.prog 28 := ⟨by kernel_rfl, by kernel_rfl⟩
instance : TyZero Try.prog 28 (.pointer none) := ⟨by kernel_rfl⟩
instance : TyOne Try.prog 30 := ⟨by kernel_rfl, by kernel_rfl⟩
instance : TyOne Try.prog 31 := ⟨by kernel_rfl, by kernel_rfl⟩
instance : TyOne Try.prog 32 := ⟨by kernel_rfl, by kernel_rfl⟩
instance : TyPtr Try.prog 33 := ⟨_, Try.underlying33⟩
instance : TyOne Try.prog 33 := ⟨by kernel_rfl, by kernel_rfl⟩
instance : TyZero Try.prog 33 (.pointer none) := ⟨by kernel_rfl⟩
instance : TyOne Try.prog 35 := ⟨by kernel_rfl, by kernel_rfl⟩
instance : TyOne Try.prog 36 := ⟨by kernel_rfl, by kernel_rfl⟩
instance : TyZero Try.prog 36 (.slice none 0 0) := ⟨by kernel_rfl⟩
instance : TySlice Try.prog 36 5 1 1 (.int .u8 0) := TySlice.of Try.underlying36 (by kernel_rfl) (by kernel_rfl) (by decide)
instance : TyBytes Try.prog 36 5 := ⟨Try.underlying36, Try.underlying5⟩
instance : TyOne Try.prog 37 := ⟨by kernel_rfl, by kernel_rfl⟩
instance : TyOne Try.prog 38 := ⟨by kernel_rfl, by kernel_rfl⟩
instance : TyZero Try.prog 38 (.slice none 0 0) := ⟨by kernel_rfl⟩
instance : TySlice Try.prog 38 3 1 8 (.int .i64 0) := TySlice.of Try.underlying38 (by kernel_rfl) (by kernel_rfl) (by decide)
instance : TyOne Try.prog 39 := ⟨by kernel_rfl, by kernel_rfl⟩
instance : TyOne Try.prog 40 := ⟨by kernel_rfl, by kernel_rfl⟩
instance : TyOne Try.prog 41 := ⟨by kernel_rfl, by kernel_rfl⟩
instance : TyOne Try.prog 42 := ⟨by kernel_rfl, by kernel_rfl⟩
instance : TyZero Try.prog 42 (.slice none 0 0) := ⟨by kernel_rfl⟩
instance : TySlice Try.prog 42 56 4 64 (.agg #[.int .i64 0, .int .i64 0, .slice none 0 0, .slice none 0 0]) := TySlice.of Try.underlying42 (by kernel_rfl) (by kernel_rfl) (by decide)
instance : TyOne Try.prog 43 := ⟨by kernel_rfl, by kernel_rfl⟩
instance : TyZero Try.prog 43 (.slice none 0 0) := ⟨by kernel_rfl⟩
instance : TySlice Try.prog 43 106 2 24 (.agg #[.int .i64 0, .string ByteArray.empty]) := TySlice.of Try.underlying43 (by kernel_rfl) (by kernel_rfl) (by decide)
instance : TyAgg Try.prog 44 5 := ⟨by kernel_rfl, by kernel_rfl⟩
instance : TyField Try.prog 44 0 0 := ⟨_, _, Try.underlying44, rfl, rfl, by kernel_rfl⟩
instance : TyField Try.prog 44 1 1 := ⟨_, _, Try.underlying44, rfl, rfl, by kernel_rfl⟩
instance : TyField Try.prog 44 2 2 := ⟨_, _, Try.underlying44, rfl, rfl, by kernel_rfl⟩
instance : TyField Try.prog 44 3 3 := ⟨_, _, Try.underlying44, rfl, rfl, by kernel_rfl⟩
instance : TyField Try.prog 44 4 4 := ⟨_, _, Try.underlying44, rfl, rfl, by kernel_rfl⟩
instance : TyBuilt Try.prog 44 (fun i => (#[(0, 1), (1, 1), (2, 1), (3, 1), (4, 1)] : Array (Nat × Nat))[i]?) (.agg #[.string ByteArray.empty, .slice none 0 0, .int .i64 0, .int .i64 0, .bool false]) := TyBuilt.struct (ps := [(0, 1), (1, 1), (2, 1), (3, 1), (4, 1)]) Try.underlying44 (by kernel_rfl) (by kernel_rfl)
instance : TyZero Try.prog 44 (.agg #[.string ByteArray.empty, .slice none 0 0, .int .i64 0, .int .i64 0, .bool false]) := ⟨by kernel_rfl⟩
instance : TyAgg Try.prog 45 5 := ⟨by kernel_rfl, by kernel_rfl⟩
instance : TyField Try.prog 45 0 0 := ⟨_, _, Try.underlying45, rfl, rfl, by kernel_rfl⟩
instance : TyField Try.prog 45 1 1 := ⟨_, _, Try.underlying45, rfl, rfl, by kernel_rfl⟩
instance : TyField Try.prog 45 2 2 := ⟨_, _, Try.underlying45, rfl, rfl, by kernel_rfl⟩
instance : TyField Try.prog 45 3 3 := ⟨_, _, Try.underlying45, rfl, rfl, by kernel_rfl⟩
instance : TyField Try.prog 45 4 4 := ⟨_, _, Try.underlying45, rfl, rfl, by kernel_rfl⟩
instance : TyBuilt Try.prog 45 (fun i => (#[(0, 1), (1, 1), (2, 1), (3, 1), (4, 1)] : Array (Nat × Nat))[i]?) (.agg #[.string ByteArray.empty, .slice none 0 0, .int .i64 0, .int .i64 0, .bool false]) := TyBuilt.struct (ps := [(0, 1), (1, 1), (2, 1), (3, 1), (4, 1)]) Try.underlying45 (by kernel_rfl) (by kernel_rfl)
instance : TyZero Try.prog 45 (.agg #[.string ByteArray.empty, .slice none 0 0, .int .i64 0, .int .i64 0, .bool false]) := ⟨by kernel_rfl⟩
instance : TyOne Try.prog 46 := ⟨by kernel_rfl, by kernel_rfl⟩
instance : TyZero Try.prog 46 (.slice none 0 0) := ⟨by kernel_rfl⟩
instance : TySlice Try.prog 46 9 1 16 (.string ByteArray.empty) := TySlice.of Try.underlying46 (by kernel_rfl) (by kernel_rfl) (by decide)
instance : TyOne Try.prog 47 := ⟨by kernel_rfl, by kernel_rfl⟩
instance : TyZero Try.prog 47 (.slice none 0 0) := ⟨by kernel_rfl⟩
instance : TySlice Try.prog 47 4 1 1 (.bool false) := TySlice.of Try.underlying47 (by kernel_rfl) (by kernel_rfl) (by decide)
instance : TyAgg Try.prog 48 8 := ⟨by kernel_rfl, by kernel_rfl⟩
instance : TyField Try.prog 48 0 0 := ⟨_, _, Try.underlying48, rfl, rfl, by kernel_rfl⟩
instance : TyField Try.prog 48 1 5 := ⟨_, _, Try.underlying48, rfl, rfl, by kernel_rfl⟩
instance : TyField Try.prog 48 2 6 := ⟨_, _, Try.underlying48, rfl, rfl, by kernel_rfl⟩
instance : TyField Try.prog 48 3 7 := ⟨_, _, Try.underlying48, rfl, rfl, by kernel_rfl⟩
instance : TyBuilt Try.prog 48 (fun i => (#[(0, 5), (5, 1), (6, 1), (7, 1)] : Array (Nat × Nat))[i]?) (.agg #[.string ByteArray.empty, .slice none 0 0, .int .i64 0, .int .i64 0, .bool false, .int .i64 0, .slice none 0 0, .slice none 0 0]) := TyBuilt.struct (ps := [(0, 5), (5, 1), (6, 1), (7, 1)]) Try.underlying48 (by kernel_rfl) (by kernel_rfl)
instance : TyZero Try.prog 48 (.agg #[.string ByteArray.empty, .slice none 0 0, .int .i64 0, .int .i64 0, .bool false, .int .i64 0, .slice none 0 0, .slice none 0 0]) := ⟨by kernel_rfl⟩
instance : TyAgg Try.prog 49 8 := ⟨by kernel_rfl, by kernel_rfl⟩
instance : TyField Try.prog 49 0 0 := ⟨_, _, Try.underlying49, rfl, rfl, by kernel_rfl⟩
instance : TyField Try.prog 49 1 5 := ⟨_, _, Try.underlying49, rfl, rfl, by kernel_rfl⟩
instance : TyField Try.prog 49 2 6 := ⟨_, _, Try.underlying49, rfl, rfl, by kernel_rfl⟩
instance : TyField Try.prog 49 3 7 := ⟨_, _, Try.underlying49, rfl, rfl, by kernel_rfl⟩
instance : TyBuilt Try.prog 49 (fun i => (#[(0, 5), (5, 1), (6, 1), (7, 1)] : Array (Nat × Nat))[i]?) (.agg #[.string ByteArray.empty, .slice none 0 0, .int .i64 0, .int .i64 0, .bool false, .int .i64 0, .slice none 0 0, .slice none 0 0]) := TyBuilt.struct (ps := [(0, 5), (5, 1), (6, 1), (7, 1)]) Try.underlying49 (by kernel_rfl) (by kernel_rfl)
instance : TyZero Try.prog 49 (.agg #[.string ByteArray.empty, .slice none 0 0, .int .i64 0, .int .i64 0, .bool false, .int .i64 0, .slice none 0 0, .slice none 0 0]) := ⟨by kernel_rfl⟩
instance : TyOne Try.prog 51 := ⟨by kernel_rfl, by kernel_rfl⟩
instance : TyOne Try.prog 52 := ⟨by kernel_rfl, by kernel_rfl⟩
instance : TyOne Try.prog 54 := ⟨by kernel_rfl, by kernel_rfl⟩
instance : TyAgg Try.prog 55 4 := ⟨by kernel_rfl, by kernel_rfl⟩
instance : TyField Try.prog 55 0 0 := ⟨_, _, Try.underlying55, rfl, rfl, by kernel_rfl⟩
instance : TyField Try.prog 55 1 1 := ⟨_, _, Try.underlying55, rfl, rfl, by kernel_rfl⟩
instance : TyField Try.prog 55 2 2 := ⟨_, _, Try.underlying55, rfl, rfl, by kernel_rfl⟩
instance : TyField Try.prog 55 3 3 := ⟨_, _, Try.underlying55, rfl, rfl, by kernel_rfl⟩
instance : TyBuilt Try.prog 55 (fun i => (#[(0, 1), (1, 1), (2, 1), (3, 1)] : Array (Nat × Nat))[i]?) (.agg #[.int .i64 0, .int .i64 0, .slice none 0 0, .slice none 0 0]) := TyBuilt.struct (ps := [(0, 1), (1, 1), (2, 1), (3, 1)]) Try.underlying55 (by kernel_rfl) (by kernel_rfl)
instance : TyZero Try.prog 55 (.agg #[.int .i64 0, .int .i64 0, .slice none 0 0, .slice none 0 0]) := ⟨by kernel_rfl⟩
instance : TyAgg Try.prog 56 4 := ⟨by kernel_rfl, by kernel_rfl⟩
instance : TyField Try.prog 56 0 0 := ⟨_, _, Try.underlying56, rfl, rfl, by kernel_rfl⟩
instance : TyField Try.prog 56 1 1 := ⟨_, _, Try.underlying56, rfl, rfl, by kernel_rfl⟩
instance : TyField Try.prog 56 2 2 := ⟨_, _, Try.underlying56, rfl, rfl, by kernel_rfl⟩
instance : TyField Try.prog 56 3 3 := ⟨_, _, Try.underlying56, rfl, rfl, by kernel_rfl⟩
instance : TyBuilt Try.prog 56 (fun i => (#[(0, 1), (1, 1), (2, 1), (3, 1)] : Array (Nat × Nat))[i]?) (.agg #[.int .i64 0, .int .i64 0, .slice none 0 0, .slice none 0 0]) := TyBuilt.struct (ps := [(0, 1), (1, 1), (2, 1), (3, 1)]) Try.underlying56 (by kernel_rfl) (by kernel_rfl)
instance : TyZero Try.prog 56 (.agg #[.int .i64 0, .int .i64 0, .slice none 0 0, .slice none 0 0]) := ⟨by kernel_rfl⟩
instance : TyInt Try.prog 57 .u64 := ⟨Try.underlying57⟩
instance : TyOne Try.prog 57 := ⟨by kernel_rfl, by kernel_rfl⟩
instance : TyZero Try.prog 57 (.int .u64 0) := ⟨by kernel_rfl⟩
instance : TyOne Try.prog 58 := ⟨by kernel_rfl, by kernel_rfl⟩
instance : TyOne Try.prog 60 := ⟨by kernel_rfl, by kernel_rfl⟩
instance : TyOne Try.prog 61 := ⟨by kernel_rfl, by kernel_rfl⟩
instance : TyOne Try.prog 62 := ⟨by kernel_rfl, by kernel_rfl⟩
instance : TyOne Try.prog 63 := ⟨by kernel_rfl, by kernel_rfl⟩
instance : TyOne Try.prog 64 := ⟨by kernel_rfl, by kernel_rfl⟩
instance : TyOne Try.prog 65 := ⟨by kernel_rfl, by kernel_rfl⟩
instance : TyOne Try.prog 66 := ⟨by kernel_rfl, by kernel_rfl⟩
instance : TyAgg Try.prog 67 2 := ⟨by kernel_rfl, by kernel_rfl⟩
instance : TyField Try.prog 67 0 0 := ⟨_, _, Try.underlying67, rfl, rfl, by kernel_rfl⟩
instance : TyField Try.prog 67 1 1 := ⟨_, _, Try.underlying67, rfl, rfl, by kernel_rfl⟩
instance : TyBuilt Try.prog 67 (fun i => (#[(0, 1), (1, 1)] : Array (Nat × Nat))[i]?) (.agg #[.int .i64 0, .slice none 0 0]) := TyBuilt.struct (ps := [(0, 1), (1, 1)]) Try.underlying67 (by kernel_rfl) (by kernel_rfl)
instance : TyZero Try.prog 67 (.agg #[.int .i64 0, .slice none 0 0]) := ⟨by kernel_rfl⟩
instance : TyAgg Try.prog 68 2 := ⟨by kernel_rfl, by kernel_rfl⟩
instance : TyField Try.prog 68 0 0 := ⟨_, _, Try.underlying68, rfl, rfl, by kernel_rfl⟩
instance : TyField Try.prog 68 1 1 := ⟨_, _, Try.underlying68, rfl, rfl, by kernel_rfl⟩
instance : TyBuilt Try.prog 68 (fun i => (#[(0, 1), (1, 1)] : Array (Nat × Nat))[i]?) (.agg #[.int .i64 0, .slice none 0 0]) := TyBuilt.struct (ps := [(0, 1), (1, 1)]) Try.underlying68 (by kernel_rfl) (by kernel_rfl)
instance : TyZero Try.prog 68 (.agg #[.int .i64 0, .slice none 0 0]) := ⟨by kernel_rfl⟩
instance : TyOne Try.prog 69 := ⟨by kernel_rfl, by kernel_rfl⟩
instance : TyZero Try.prog 69 (.slice none 0 0) := ⟨by kernel_rfl⟩
instance : TySlice Try.prog 69 96 65 72 (.agg #[.int .i64 0, .int .u8 0, .int .u8 0, .int .u8 0, .int .u8 0, .int .u8 0, .int .u8 0, .int .u8 0, .int .u8 0, .int .u8 0, .int .u8 0, .int .u8 0, .int .u8 0, .int .u8 0, .int .u8 0, .int .u8 0, .int .u8 0, .int .u8 0, .int .u8 0, .int .u8 0, .int .u8 0, .int .u8 0, .int .u8 0, .int .u8 0, .int .u8 0, .int .u8 0, .int .u8 0, .int .u8 0, .int .u8 0, .int .u8 0, .int .u8 0, .int .u8 0, .int .u8 0, .int .u8 0, .int .u8 0, .int .u8 0, .int .u8 0, .int .u8 0, .int .u8 0, .int .u8 0, .int .u8 0, .int .u8 0, .int .u8 0, .int .u8 0, .int .u8 0, .int .u8 0, .int .u8 0, .int .u8 0, .int .u8 0, .int .u8 0, .int .u8 0, .int .u8 0, .int .u8 0, .int .u8 0, .int .u8 0, .int .u8 0, .int .u8 0, .int .u8 0, .int .u8 0, .int .u8 0, .int .u8 0, .int .u8 0, .int .u8 0, .int .u8 0, .int .u8 0]) := TySlice.of Try.underlying69 (by kernel_rfl) (by kernel_rfl) (by decide)
instance : TyAgg Try.prog 70 5 := ⟨by kernel_rfl, by kernel_rfl⟩
instance : TyField Try.prog 70 0 0 := ⟨_, _, Try.underlying70, rfl, rfl, by kernel_rfl⟩
instance : TyField Try.prog 70 1 1 := ⟨_, _, Try.underlying70, rfl, rfl, by kernel_rfl⟩
instance : TyField Try.prog 70 2 2 := ⟨_, _, Try.underlying70, rfl, rfl, by kernel_rfl⟩
instance : TyField Try.prog 70 3 3 := ⟨_, _, Try.underlying70, rfl, rfl, by kernel_rfl⟩
instance : TyField Try.prog 70 4 4 := ⟨_, _, Try.underlying70, rfl, rfl, by kernel_rfl⟩
instance : TyBuilt Try.prog 70 (fun i => (#[(0, 1), (1, 1), (2, 1), (3, 1), (4, 1)] : Array (Nat × Nat))[i]?) (.agg #[.slice none 0 0, .slice none 0 0, .int .i64 0, .int .i64 0, .bool false]) := TyBuilt.struct (ps := [(0, 1), (1, 1), (2, 1), (3, 1), (4, 1)]) Try.underlying70 (by kernel_rfl) (by kernel_rfl)
instance : TyZero Try.prog 70 (.agg #[.slice none 0 0, .slice none 0 0, .int .i64 0, .int .i64 0, .bool false]) := ⟨by kernel_rfl⟩
instance : TyAgg Try.prog 71 5 := ⟨by kernel_rfl, by kernel_rfl⟩
instance : TyField Try.prog 71 0 0 := ⟨_, _, Try.underlying71, rfl, rfl, by kernel_rfl⟩
instance : TyField Try.prog 71 1 1 := ⟨_, _, Try.underlying71, rfl, rfl, by kernel_rfl⟩
instance : TyField Try.prog 71 2 2 := ⟨_, _, Try.underlying71, rfl, rfl, by kernel_rfl⟩
instance : TyField Try.prog 71 3 3 := ⟨_, _, Try.underlying71, rfl, rfl, by kernel_rfl⟩
instance : TyField Try.prog 71 4 4 := ⟨_, _, Try.underlying71, rfl, rfl, by kernel_rfl⟩
instance : TyBuilt Try.prog 71 (fun i => (#[(0, 1), (1, 1), (2, 1), (3, 1), (4, 1)] : Array (Nat × Nat))[i]?) (.agg #[.slice none 0 0, .slice none 0 0, .int .i64 0, .int .i64 0, .bool false]) := TyBuilt.struct (ps := [(0, 1), (1, 1), (2, 1), (3, 1), (4, 1)]) Try.underlying71 (by kernel_rfl) (by kernel_rfl)
instance : TyZero Try.prog 71 (.agg #[.slice none 0 0, .slice none 0 0, .int .i64 0, .int .i64 0, .bool false]) := ⟨by kernel_rfl⟩
instance : TyOne Try.prog 72 := ⟨by kernel_rfl, by kernel_rfl⟩
instance : TyPtr Try.prog 73 := ⟨_, Try.underlying73⟩
instance : TyOne Try.prog 73 := ⟨by kernel_rfl, by kernel_rfl⟩
instance : TyZero Try.prog 73 (.pointer none) := ⟨by kernel_rfl⟩
instance : TyOne Try.prog 74 := ⟨by kernel_rfl, by kernel_rfl⟩
instance : TyAgg Try.prog 75 2 := ⟨by kernel_rfl, by kernel_rfl⟩
instance : TyField Try.prog 75 0 0 := ⟨_, _, Try.underlying75, rfl, rfl, by kernel_rfl⟩
instance : TyField Try.prog 75 1 1 := ⟨_, _, Try.underlying75, rfl, rfl, by kernel_rfl⟩
instance : TyBuilt Try.prog 75 (fun i => (#[(0, 1), (1, 1)] : Array (Nat × Nat))[i]?) (.agg #[.slice none 0 0, .bool false]) := TyBuilt.struct (ps := [(0, 1), (1, 1)]) Try.underlying75 (by kernel_rfl) (by kernel_rfl)
instance : TyZero Try.prog 75 (.agg #[.slice none 0 0, .bool false]) := ⟨by kernel_rfl⟩
instance : TyAgg Try.prog 76 2 := ⟨by kernel_rfl, by kernel_rfl⟩
instance : TyField Try.prog 76 0 0 := ⟨_, _, Try.underlying76, rfl, rfl, by kernel_rfl⟩
instance : TyField Try.prog 76 1 1 := ⟨_, _, Try.underlying76, rfl, rfl, by kernel_rfl⟩
instance : TyBuilt Try.prog 76 (fun i => (#[(0, 1), (1, 1)] : Array (Nat × Nat))[i]?) (.agg #[.slice none 0 0, .bool false]) := TyBuilt.struct (ps := [(0, 1), (1, 1)]) Try.underlying76 (by kernel_rfl) (by kernel_rfl)
instance : TyZero Try.prog 76 (.agg #[.slice none 0 0, .bool false]) := ⟨by kernel_rfl⟩
instance : TyAgg Try.prog 77 4 := ⟨by kernel_rfl, by kernel_rfl⟩
instance : TyField Try.prog 77 0 0 := ⟨_, _, Try.underlying77, rfl, rfl, by kernel_rfl⟩
instance : TyField Try.prog 77 1 1 := ⟨_, _, Try.underlying77, rfl, rfl, by kernel_rfl⟩
instance : TyField Try.prog 77 2 2 := ⟨_, _, Try.underlying77, rfl, rfl, by kernel_rfl⟩
instance : TyField Try.prog 77 3 3 := ⟨_, _, Try.underlying77, rfl, rfl, by kernel_rfl⟩
instance : TyBuilt Try.prog 77 (fun i => (#[(0, 1), (1, 1), (2, 1), (3, 1)] : Array (Nat × Nat))[i]?) (.agg #[.pointer none, .int .i64 0, .int .i64 0, .pointer none]) := TyBuilt.struct (ps := [(0, 1), (1, 1), (2, 1), (3, 1)]) Try.underlying77 (by kernel_rfl) (by kernel_rfl)
instance : TyZero Try.prog 77 (.agg #[.pointer none, .int .i64 0, .int .i64 0, .pointer none]) := ⟨by kernel_rfl⟩
instance : TyAgg Try.prog 78 4 := ⟨by kernel_rfl, by kernel_rfl⟩
instance : TyField Try.prog 78 0 0 := ⟨_, _, Try.underlying78, rfl, rfl, by kernel_rfl⟩
instance : TyField Try.prog 78 1 1 := ⟨_, _, Try.underlying78, rfl, rfl, by kernel_rfl⟩
instance : TyField Try.prog 78 2 2 := ⟨_, _, Try.underlying78, rfl, rfl, by kernel_rfl⟩
instance : TyField Try.prog 78 3 3 := ⟨_, _, Try.underlying78, rfl, rfl, by kernel_rfl⟩
instance : TyBuilt Try.prog 78 (fun i => (#[(0, 1), (1, 1), (2, 1), (3, 1)] : Array (Nat × Nat))[i]?) (.agg #[.pointer none, .int .i64 0, .int .i64 0, .pointer none]) := TyBuilt.struct (ps := [(0, 1), (1, 1), (2, 1), (3, 1)]) Try.underlying78 (by kernel_rfl) (by kernel_rfl)
instance : TyZero Try.prog 78 (.agg #[.pointer none, .int .i64 0, .int .i64 0, .pointer none]) := ⟨by kernel_rfl⟩
instance : TyOne Try.prog 79 := ⟨by kernel_rfl, by kernel_rfl⟩
instance : TyOne Try.prog 80 := ⟨by kernel_rfl, by kernel_rfl⟩
instance : TyOne Try.prog 81 := ⟨by kernel_rfl, by kernel_rfl⟩
instance : TyOne Try.prog 83 := ⟨by kernel_rfl, by kernel_rfl⟩
instance : TyOne Try.prog 84 := ⟨by kernel_rfl, by kernel_rfl⟩
instance : TyOne Try.prog 85 := ⟨by kernel_rfl, by kernel_rfl⟩
instance : TyZero Try.prog 85 (.slice none 0 0) := ⟨by kernel_rfl⟩
instance : TySlice Try.prog 85 36 1 24 (.slice none 0 0) := TySlice.of Try.underlying85 (by kernel_rfl) (by kernel_rfl) (by decide)
instance : TyOne Try.prog 86 := ⟨by kernel_rfl, by kernel_rfl⟩
instance : TyOne Try.prog 87 := ⟨by kernel_rfl, by kernel_rfl⟩
instance : TyOne Try.prog 88 := ⟨by kernel_rfl, by kernel_rfl⟩
instance : TyOne Try.prog 89 := ⟨by kernel_rfl, by kernel_rfl⟩
instance : TyOne Try.prog 90 := ⟨by kernel_rfl, by kernel_rfl⟩
instance : TyOne Try.prog 91 := ⟨by kernel_rfl, by kernel_rfl⟩
instance : TyOne Try.prog 92 := ⟨by kernel_rfl, by kernel_rfl⟩
instance : TyOne Try.prog 93 := ⟨by kernel_rfl, by kernel_rfl⟩
instance : TyAgg Try.prog 94 64 := ⟨by kernel_rfl, by kernel_rfl⟩
instance : TyArr Try.prog 94 64 5 1 := ⟨Try.underlying94, by kernel_rfl⟩
instance : TyBuilt Try.prog 94 (fun i => some (i * 1, 1)) (.agg (Array.replicate 64 (.int .u8 0))) := TyBuilt.array Try.underlying94 (by kernel_rfl) (by kernel_rfl)
instance : TyZero Try.prog 94 (.agg (Array.replicate 64 (.int .u8 0))) := ⟨by kernel_rfl⟩
instance : TyAgg Try.prog 95 65 := ⟨by kernel_rfl, by kernel_rfl⟩
instance : TyField Try.prog 95 0 0 := ⟨_, _, Try.underlying95, rfl, rfl, by kernel_rfl⟩
instance : TyField Try.prog 95 1 1 := ⟨_, _, Try.underlying95, rfl, rfl, by kernel_rfl⟩
instance : TyBuilt Try.prog 95 (fun i => (#[(0, 1), (1, 64)] : Array (Nat × Nat))[i]?) (.agg #[.int .i64 0, .int .u8 0, .int .u8 0, .int .u8 0, .int .u8 0, .int .u8 0, .int .u8 0, .int .u8 0, .int .u8 0, .int .u8 0, .int .u8 0, .int .u8 0, .int .u8 0, .int .u8 0, .int .u8 0, .int .u8 0, .int .u8 0, .int .u8 0, .int .u8 0, .int .u8 0, .int .u8 0, .int .u8 0, .int .u8 0, .int .u8 0, .int .u8 0, .int .u8 0, .int .u8 0, .int .u8 0, .int .u8 0, .int .u8 0, .int .u8 0, .int .u8 0, .int .u8 0, .int .u8 0, .int .u8 0, .int .u8 0, .int .u8 0, .int .u8 0, .int .u8 0, .int .u8 0, .int .u8 0, .int .u8 0, .int .u8 0, .int .u8 0, .int .u8 0, .int .u8 0, .int .u8 0, .int .u8 0, .int .u8 0, .int .u8 0, .int .u8 0, .int .u8 0, .int .u8 0, .int .u8 0, .int .u8 0, .int .u8 0, .int .u8 0, .int .u8 0, .int .u8 0, .int .u8 0, .int .u8 0, .int .u8 0, .int .u8 0, .int .u8 0, .int .u8 0]) := TyBuilt.struct (ps := [(0, 1), (1, 64)]) Try.underlying95 (by kernel_rfl) (by kernel_rfl)
instance : TyZero Try.prog 95 (.agg #[.int .i64 0, .int .u8 0, .int .u8 0, .int .u8 0, .int .u8 0, .int .u8 0, .int .u8 0, .int .u8 0, .int .u8 0, .int .u8 0, .int .u8 0, .int .u8 0, .int .u8 0, .int .u8 0, .int .u8 0, .int .u8 0, .int .u8 0, .int .u8 0, .int .u8 0, .int .u8 0, .int .u8 0, .int .u8 0, .int .u8 0, .int .u8 0, .int .u8 0, .int .u8 0, .int .u8 0, .int .u8 0, .int .u8 0, .int .u8 0, .int .u8 0, .int .u8 0, .int .u8 0, .int .u8 0, .int .u8 0, .int .u8 0, .int .u8 0, .int .u8 0, .int .u8 0, .int .u8 0, .int .u8 0, .int .u8 0, .int .u8 0, .int .u8 0, .int .u8 0, .int .u8 0, .int .u8 0, .int .u8 0, .int .u8 0, .int .u8 0, .int .u8 0, .int .u8 0, .int .u8 0, .int .u8 0, .int .u8 0, .int .u8 0, .int .u8 0, .int .u8 0, .int .u8 0, .int .u8 0, .int .u8 0, .int .u8 0, .int .u8 0, .int .u8 0, .int .u8 0]) := ⟨by kernel_rfl⟩
instance : TyAgg Try.prog 96 65 := ⟨by kernel_rfl, by kernel_rfl⟩
instance : TyField Try.prog 96 0 0 := ⟨_, _, Try.underlying96, rfl, rfl, by kernel_rfl⟩
instance : TyField Try.prog 96 1 1 := ⟨_, _, Try.underlying96, rfl, rfl, by kernel_rfl⟩
instance : TyBuilt Try.prog 96 (fun i => (#[(0, 1), (1, 64)] : Array (Nat × Nat))[i]?) (.agg #[.int .i64 0, .int .u8 0, .int .u8 0, .int .u8 0, .int .u8 0, .int .u8 0, .int .u8 0, .int .u8 0, .int .u8 0, .int .u8 0, .int .u8 0, .int .u8 0, .int .u8 0, .int .u8 0, .int .u8 0, .int .u8 0, .int .u8 0, .int .u8 0, .int .u8 0, .int .u8 0, .int .u8 0, .int .u8 0, .int .u8 0, .int .u8 0, .int .u8 0, .int .u8 0, .int .u8 0, .int .u8 0, .int .u8 0, .int .u8 0, .int .u8 0, .int .u8 0, .int .u8 0, .int .u8 0, .int .u8 0, .int .u8 0, .int .u8 0, .int .u8 0, .int .u8 0, .int .u8 0, .int .u8 0, .int .u8 0, .int .u8 0, .int .u8 0, .int .u8 0, .int .u8 0, .int .u8 0, .int .u8 0, .int .u8 0, .int .u8 0, .int .u8 0, .int .u8 0, .int .u8 0, .int .u8 0, .int .u8 0, .int .u8 0, .int .u8 0, .int .u8 0, .int .u8 0, .int .u8 0, .int .u8 0, .int .u8 0, .int .u8 0, .int .u8 0, .int .u8 0]) := TyBuilt.struct (ps := [(0, 1), (1, 64)]) Try.underlying96 (by kernel_rfl) (by kernel_rfl)
instance : TyZero Try.prog 96 (.agg #[.int .i64 0, .int .u8 0, .int .u8 0, .int .u8 0, .int .u8 0, .int .u8 0, .int .u8 0, .int .u8 0, .int .u8 0, .int .u8 0, .int .u8 0, .int .u8 0, .int .u8 0, .int .u8 0, .int .u8 0, .int .u8 0, .int .u8 0, .int .u8 0, .int .u8 0, .int .u8 0, .int .u8 0, .int .u8 0, .int .u8 0, .int .u8 0, .int .u8 0, .int .u8 0, .int .u8 0, .int .u8 0, .int .u8 0, .int .u8 0, .int .u8 0, .int .u8 0, .int .u8 0, .int .u8 0, .int .u8 0, .int .u8 0, .int .u8 0, .int .u8 0, .int .u8 0, .int .u8 0, .int .u8 0, .int .u8 0, .int .u8 0, .int .u8 0, .int .u8 0, .int .u8 0, .int .u8 0, .int .u8 0, .int .u8 0, .int .u8 0, .int .u8 0, .int .u8 0, .int .u8 0, .int .u8 0, .int .u8 0, .int .u8 0, .int .u8 0, .int .u8 0, .int .u8 0, .int .u8 0, .int .u8 0, .int .u8 0, .int .u8 0, .int .u8 0, .int .u8 0]) := ⟨by kernel_rfl⟩
instance : TyOne Try.prog 97 := ⟨by kernel_rfl, by kernel_rfl⟩
instance : TyOne Try.prog 98 := ⟨by kernel_rfl, by kernel_rfl⟩
instance : TyOne Try.prog 99 := ⟨by kernel_rfl, by kernel_rfl⟩
instance : TyOne Try.prog 100 := ⟨by kernel_rfl, by kernel_rfl⟩
instance : TyOne Try.prog 101 := ⟨by kernel_rfl, by kernel_rfl⟩
instance : TyOne Try.prog 103 := ⟨by kernel_rfl, by kernel_rfl⟩
instance : TyOne Try.prog 104 := ⟨by kernel_rfl, by kernel_rfl⟩
instance : TyAgg Try.prog 105 2 := ⟨by kernel_rfl, by kernel_rfl⟩
instance : TyField Try.prog 105 0 0 := ⟨_, _, Try.underlying105, rfl, rfl, by kernel_rfl⟩
instance : TyField Try.prog 105 1 1 := ⟨_, _, Try.underlying105, rfl, rfl, by kernel_rfl⟩
instance : TyBuilt Try.prog 105 (fun i => (#[(0, 1), (1, 1)] : Array (Nat × Nat))[i]?) (.agg #[.int .i64 0, .string ByteArray.empty]) := TyBuilt.struct (ps := [(0, 1), (1, 1)]) Try.underlying105 (by kernel_rfl) (by kernel_rfl)
instance : TyZero Try.prog 105 (.agg #[.int .i64 0, .string ByteArray.empty]) := ⟨by kernel_rfl⟩
instance : TyAgg Try.prog 106 2 := ⟨by kernel_rfl, by kernel_rfl⟩
instance : TyField Try.prog 106 0 0 := ⟨_, _, Try.underlying106, rfl, rfl, by kernel_rfl⟩
instance : TyField Try.prog 106 1 1 := ⟨_, _, Try.underlying106, rfl, rfl, by kernel_rfl⟩
instance : TyBuilt Try.prog 106 (fun i => (#[(0, 1), (1, 1)] : Array (Nat × Nat))[i]?) (.agg #[.int .i64 0, .string ByteArray.empty]) := TyBuilt.struct (ps := [(0, 1), (1, 1)]) Try.underlying106 (by kernel_rfl) (by kernel_rfl)
instance : TyZero Try.prog 106 (.agg #[.int .i64 0, .string ByteArray.empty]) := ⟨by kernel_rfl⟩
instance : TyOne Try.prog 107 := ⟨by kernel_rfl, by kernel_rfl⟩
instance : TyOne Try.prog 108 := ⟨by kernel_rfl, by kernel_rfl⟩
instance : TyZero Try.prog 108 (.slice none 0 0) := ⟨by kernel_rfl⟩
instance : TySlice Try.prog 108 114 3 40 (.agg #[.int .i64 0, .slice none 0 0, .bool false]) := TySlice.of Try.underlying108 (by kernel_rfl) (by kernel_rfl) (by decide)
instance : TyAgg Try.prog 109 1 := ⟨by kernel_rfl, by kernel_rfl⟩
instance : TyField Try.prog 109 0 0 := ⟨_, _, Try.underlying109, rfl, rfl, by kernel_rfl⟩
instance : TyBuilt Try.prog 109 (fun i => (#[(0, 1)] : Array (Nat × Nat))[i]?) (.agg #[.slice none 0 0]) := TyBuilt.struct (ps := [(0, 1)]) Try.underlying109 (by kernel_rfl) (by kernel_rfl)
instance : TyZero Try.prog 109 (.agg #[.slice none 0 0]) := ⟨by kernel_rfl⟩
instance : TyAgg Try.prog 110 1 := ⟨by kernel_rfl, by kernel_rfl⟩
instance : TyField Try.prog 110 0 0 := ⟨_, _, Try.underlying110, rfl, rfl, by kernel_rfl⟩
instance : TyBuilt Try.prog 110 (fun i => (#[(0, 1)] : Array (Nat × Nat))[i]?) (.agg #[.slice none 0 0]) := TyBuilt.struct (ps := [(0, 1)]) Try.underlying110 (by kernel_rfl) (by kernel_rfl)
instance : TyZero Try.prog 110 (.agg #[.slice none 0 0]) := ⟨by kernel_rfl⟩
instance : TyOne Try.prog 112 := ⟨by kernel_rfl, by kernel_rfl⟩
instance : TyAgg Try.prog 113 3 := ⟨by kernel_rfl, by kernel_rfl⟩
instance : TyField Try.prog 113 0 0 := ⟨_, _, Try.underlying113, rfl, rfl, by kernel_rfl⟩
instance : TyField Try.prog 113 1 1 := ⟨_, _, Try.underlying113, rfl, rfl, by kernel_rfl⟩
instance : TyBuilt Try.prog 113 (fun i => (#[(0, 1), (1, 2)] : Array (Nat × Nat))[i]?) (.agg #[.int .i64 0, .slice none 0 0, .bool false]) := TyBuilt.struct (ps := [(0, 1), (1, 2)]) Try.underlying113 (by kernel_rfl) (by kernel_rfl)
instance : TyZero Try.prog 113 (.agg #[.int .i64 0, .slice none 0 0, .bool false]) := ⟨by kernel_rfl⟩
instance : TyAgg Try.prog 114 3 := ⟨by kernel_rfl, by kernel_rfl⟩
instance : TyField Try.prog 114 0 0 := ⟨_, _, Try.underlying114, rfl, rfl, by kernel_rfl⟩
instance : TyField Try.prog 114 1 1 := ⟨_, _, Try.underlying114, rfl, rfl, by kernel_rfl⟩
instance : TyBuilt Try.prog 114 (fun i => (#[(0, 1), (1, 2)] : Array (Nat × Nat))[i]?) (.agg #[.int .i64 0, .slice none 0 0, .bool false]) := TyBuilt.struct (ps := [(0, 1), (1, 2)]) Try.underlying114 (by kernel_rfl) (by kernel_rfl)
instance : TyZero Try.prog 114 (.agg #[.int .i64 0, .slice none 0 0, .bool false]) := ⟨by kernel_rfl⟩
instance : TyOne Try.prog 115 := ⟨by kernel_rfl, by kernel_rfl⟩
instance : TyOne Try.prog 116 := ⟨by kernel_rfl, by kernel_rfl⟩
instance : TyOne Try.prog 117 := ⟨by kernel_rfl, by kernel_rfl⟩
instance : TyOne Try.prog 118 := ⟨by kernel_rfl, by kernel_rfl⟩
instance : TyOne Try.prog 119 := ⟨by kernel_rfl, by kernel_rfl⟩
instance : TyOne Try.prog 120 := ⟨by kernel_rfl, by kernel_rfl⟩
instance : TyOne Try.prog 121 := ⟨by kernel_rfl, by kernel_rfl⟩
instance : TyZero Try.prog 121 (.slice none 0 0) := ⟨by kernel_rfl⟩
instance : TySlice Try.prog 121 125 1 8 (.pointer none) := TySlice.of Try.underlying121 (by kernel_rfl) (by kernel_rfl) (by decide)
instance : TyAgg Try.prog 122 1 := ⟨by kernel_rfl, by kernel_rfl⟩
instance : TyField Try.prog 122 0 0 := ⟨_, _, Try.underlying122, rfl, rfl, by kernel_rfl⟩
instance : TyBuilt Try.prog 122 (fun i => (#[(0, 1)] : Array (Nat × Nat))[i]?) (.agg #[.slice none 0 0]) := TyBuilt.struct (ps := [(0, 1)]) Try.underlying122 (by kernel_rfl) (by kernel_rfl)
instance : TyZero Try.prog 122 (.agg #[.slice none 0 0]) := ⟨by kernel_rfl⟩
instance : TyAgg Try.prog 123 1 := ⟨by kernel_rfl, by kernel_rfl⟩
instance : TyField Try.prog 123 0 0 := ⟨_, _, Try.underlying123, rfl, rfl, by kernel_rfl⟩
instance : TyBuilt Try.prog 123 (fun i => (#[(0, 1)] : Array (Nat × Nat))[i]?) (.agg #[.slice none 0 0]) := TyBuilt.struct (ps := [(0, 1)]) Try.underlying123 (by kernel_rfl) (by kernel_rfl)
instance : TyZero Try.prog 123 (.agg #[.slice none 0 0]) := ⟨by kernel_rfl⟩
instance : TyAgg Try.prog 124 64 := ⟨by kernel_rfl, by kernel_rfl⟩
instance : TyArr Try.prog 124 64 5 1 := ⟨Try.underlying124, by kernel_rfl⟩
instance : TyBuilt Try.prog 124 (fun i => some (i * 1, 1)) (.agg (Array.replicate 64 (.int .u8 0))) := TyBuilt.array Try.underlying124 (by kernel_rfl) (by kernel_rfl)
instance : TyZero Try.prog 124 (.agg (Array.replicate 64 (.int .u8 0))) := ⟨by kernel_rfl⟩
instance : TyPtr Try.prog 125 := ⟨_, Try.underlying125⟩
instance : TyOne Try.prog 125 := ⟨by kernel_rfl, by kernel_rfl⟩
instance : TyZero Try.prog 125 (.pointer none) := ⟨by kernel_rfl⟩
instance : TyOne Try.prog 126 := ⟨by kernel_rfl, by kernel_rfl⟩
instance : TyOne Try.prog 127 := ⟨by kernel_rfl, by kernel_rfl⟩
instance : TyOne Try.prog 128 := ⟨by kernel_rfl, by kernel_rfl⟩
instance : TyOne Try.prog 129 := ⟨by kernel_rfl, by kernel_rfl⟩
instance : TyOne Try.prog 130 := ⟨by kernel_rfl, by kernel_rfl⟩
instance : TyOne Try.prog 131 := ⟨by kernel_rfl, by kernel_rfl⟩
instance : TyOne Try.prog 132 := ⟨by kernel_rfl, by kernel_rfl⟩
instance : TyOne Try.prog 134 := ⟨by kernel_rfl, by kernel_rfl⟩
instance : TyOne Try.prog 136 := ⟨by kernel_rfl, by kernel_rfl⟩
instance : TyOne Try.prog 137 := ⟨by kernel_rfl, by kernel_rfl⟩
instance : TyOne Try.prog 138 := ⟨by kernel_rfl, by kernel_rfl⟩
instance : TyOne Try.prog 139 := ⟨by kernel_rfl, by kernel_rfl⟩
instance : TyOne Try.prog 140 := ⟨by kernel_rfl, by kernel_rfl⟩
instance : TyOne Try.prog 141 := ⟨by kernel_rfl, by kernel_rfl⟩
instance : TyOne Try.prog 142 := ⟨by kernel_rfl, by kernel_rfl⟩
instance : TyOne Try.prog 143 := ⟨by kernel_rfl, by kernel_rfl⟩
instance : TyOne Try.prog 144 := ⟨by kernel_rfl, by kernel_rfl⟩
instance : TyOne Try.prog 145 := ⟨by kernel_rfl, by kernel_rfl⟩
instance : TyOne Try.prog 146 := ⟨by kernel_rfl, by kernel_rfl⟩
instance : TyOne Try.prog 148 := ⟨by kernel_rfl, by kernel_rfl⟩
instance : TyOne Try.prog 149 := ⟨by kernel_rfl, by kernel_rfl⟩
instance : TyInt Try.prog 150 .u32 := ⟨Try.underlying150⟩
instance : TyOne Try.prog 150 := ⟨by kernel_rfl, by kernel_rfl⟩
instance : TyZero Try.prog 150 (.int .u32 0) := ⟨by kernel_rfl⟩
instance : TyOne Try.prog 152 := ⟨by kernel_rfl, by kernel_rfl⟩
instance : TyInt Try.prog 153 .u64 := ⟨Try.underlying153⟩
instance : TyOne Try.prog 153 := ⟨by kernel_rfl, by kernel_rfl⟩
instance : TyZero Try.prog 153 (.int .u64 0) := ⟨by kernel_rfl⟩
instance : TyOne Try.prog 155 := ⟨by kernel_rfl, by kernel_rfl⟩
instance : TyOne Try.prog 156 := ⟨by kernel_rfl, by kernel_rfl⟩
instance : TyAgg Try.prog 157 4 := ⟨by kernel_rfl, by kernel_rfl⟩
instance : TyField Try.prog 157 0 0 := ⟨_, _, Try.underlying157, rfl, rfl, by kernel_rfl⟩
instance : TyField Try.prog 157 1 1 := ⟨_, _, Try.underlying157, rfl, rfl, by kernel_rfl⟩
instance : TyField Try.prog 157 2 2 := ⟨_, _, Try.underlying157, rfl, rfl, by kernel_rfl⟩
instance : TyField Try.prog 157 3 3 := ⟨_, _, Try.underlying157, rfl, rfl, by kernel_rfl⟩
instance : TyBuilt Try.prog 157 (fun i => (#[(0, 1), (1, 1), (2, 1), (3, 1)] : Array (Nat × Nat))[i]?) (.agg #[.pointer none, .pointer none, .pointer none, .string ByteArray.empty]) := TyBuilt.struct (ps := [(0, 1), (1, 1), (2, 1), (3, 1)]) Try.underlying157 (by kernel_rfl) (by kernel_rfl)
instance : TyZero Try.prog 157 (.agg #[.pointer none, .pointer none, .pointer none, .string ByteArray.empty]) := ⟨by kernel_rfl⟩
instance : TyAgg Try.prog 159 0 := ⟨by kernel_rfl, by kernel_rfl⟩
instance : TyArr Try.prog 159 0 16 1 := ⟨Try.underlying159, by kernel_rfl⟩
instance : TyBuilt Try.prog 159 (fun i => some (i * 1, 1)) (.agg #[]) := TyBuilt.array Try.underlying159 (by kernel_rfl) (by kernel_rfl)
instance : TyZero Try.prog 159 (.agg #[]) := ⟨by kernel_rfl⟩
instance : TyAgg Try.prog 160 0 := ⟨by kernel_rfl, by kernel_rfl⟩
instance : TyBuilt Try.prog 160 (fun i => (#[(0, 0)] : Array (Nat × Nat))[i]?) (.agg #[]) := TyBuilt.struct (ps := [(0, 0)]) Try.underlying160 (by kernel_rfl) (by kernel_rfl)
instance : TyZero Try.prog 160 (.agg #[]) := ⟨by kernel_rfl⟩
instance : TyOne Try.prog 164 := ⟨by kernel_rfl, by kernel_rfl⟩
instance : TyPtr Try.prog 165 := ⟨_, Try.underlying165⟩
instance : TyOne Try.prog 165 := ⟨by kernel_rfl, by kernel_rfl⟩
instance : TyZero Try.prog 165 (.pointer none) := ⟨by kernel_rfl⟩
instance : Mixed Try.prog := ⟨by kernel_rfl⟩
end Go.Proofs.Ytmbppidafnakhaa
/-
  The arrays of bytes, to be compared.
-/
set_option linter.unusedVariables false
namespace Go.Proofs.Ytmbppidafnakhaa
open Go Brv
instance : TyBArr Try.prog 94 64 := ⟨⟨_, Try.underlying94, Try.underlying5, by kernel_rfl⟩, by kernel_rfl⟩
instance : TyBArr Try.prog 124 64 := ⟨⟨_, Try.underlying124, Try.underlying5, by kernel_rfl⟩, by kernel_rfl⟩
end Go.Proofs.Ytmbppidafnakhaa
/-
  What a call of each function enters.
-/
set_option maxRecDepth 100000
namespace Go.Proofs.Ytmbppidafnakhaa
open Go Brv
theorem go6 : ∀ (vs : Array Value) w, (callFunc 6 vs).run Try.prog w = .ok (.enter 6 vs) w := callFunc_run Try.func6 (by decide) rfl
theorem go7 : ∀ (vs : Array Value) w, (callFunc 7 vs).run Try.prog w = .ok (.enter 7 vs) w := callFunc_run Try.func7 (by decide) rfl
theorem go8 : ∀ (vs : Array Value) w, (callFunc 8 vs).run Try.prog w = .ok (.enter 8 vs) w := callFunc_run Try.func8 (by decide) rfl
theorem go9 : ∀ (vs : Array Value) w, (callFunc 9 vs).run Try.prog w = .ok (.enter 9 vs) w := callFunc_run Try.func9 (by decide) rfl
theorem go10 : ∀ (vs : Array Value) w, (callFunc 10 vs).run Try.prog w = .ok (.enter 10 vs) w := callFunc_run Try.func10 (by decide) rfl
theorem go11 : ∀ (vs : Array Value) w, (callFunc 11 vs).run Try.prog w = .ok (.enter 11 vs) w := callFunc_run Try.func11 (by decide) rfl
theorem go12 : ∀ (vs : Array Value) w, (callFunc 12 vs).run Try.prog w = .ok (.enter 12 vs) w := callFunc_run Try.func12 (by decide) rfl
theorem go13 : ∀ (vs : Array Value) w, (callFunc 13 vs).run Try.prog w = .ok (.enter 13 vs) w := callFunc_run Try.func13 (by decide) rfl
theorem go14 : ∀ (vs : Array Value) w, (callFunc 14 vs).run Try.prog w = .ok (.enter 14 vs) w := callFunc_run Try.func14 (by decide) rfl
theorem go15 : ∀ (vs : Array Value) w, (callFunc 15 vs).run Try.prog w = .ok (.enter 15 vs) w := callFunc_run Try.func15 (by decide) rfl
theorem go16 : ∀ (vs : Array Value) w, (callFunc 16 vs).run Try.prog w = .ok (.enter 16 vs) w := callFunc_run Try.func16 (by decide) rfl
theorem go17 : ∀ (vs : Array Value) w, (callFunc 17 vs).run Try.prog w = .ok (.enter 17 vs) w := callFunc_run Try.func17 (by decide) rfl
theorem go18 : ∀ (vs : Array Value) w, (callFunc 18 vs).run Try.prog w = .ok (.enter 18 vs) w := callFunc_run Try.func18 (by decide) rfl
theorem go19 : ∀ (vs : Array Value) w, (callFunc 19 vs).run Try.prog w = .ok (.enter 19 vs) w := callFunc_run Try.func19 (by decide) rfl
theorem go20 : ∀ (vs : Array Value) w, (callFunc 20 vs).run Try.prog w = .ok (.enter 20 vs) w := callFunc_run Try.func20 (by decide) rfl
theorem go21 : ∀ (vs : Array Value) w, (callFunc 21 vs).run Try.prog w = .ok (.enter 21 vs) w := callFunc_run Try.func21 (by decide) rfl
theorem go22 : ∀ (vs : Array Value) w, (callFunc 22 vs).run Try.prog w = .ok (.enter 22 vs) w := callFunc_run Try.func22 (by decide) rfl
theorem go23 : ∀ (vs : Array Value) w, (callFunc 23 vs).run Try.prog w = .ok (.enter 23 vs) w := callFunc_run Try.func23 (by decide) rfl
theorem go24 : ∀ (vs : Array Value) w, (callFunc 24 vs).run Try.prog w = .ok (.enter 24 vs) w := callFunc_run Try.func24 (by decide) rfl
theorem go25 : ∀ (vs : Array Value) w, (callFunc 25 vs).run Try.prog w = .ok (.enter 25 vs) w := callFunc_run Try.func25 (by decide) rfl
theorem go26 : ∀ (vs : Array Value) w, (callFunc 26 vs).run Try.prog w = .ok (.enter 26 vs) w := callFunc_run Try.func26 (by decide) rfl
theorem go27 : ∀ (vs : Array Value) w, (callFunc 27 vs).run Try.prog w = .ok (.enter 27 vs) w := callFunc_run Try.func27 (by decide) rfl
theorem go28 : ∀ (vs : Array Value) w, (callFunc 28 vs).run Try.prog w = .ok (.enter 28 vs) w := callFunc_run Try.func28 (by decide) rfl
theorem go29 : ∀ (vs : Array Value) w, (callFunc 29 vs).run Try.prog w = .ok (.enter 29 vs) w := callFunc_run Try.func29 (by decide) rfl
theorem go30 : ∀ (vs : Array Value) w, (callFunc 30 vs).run Try.prog w = .ok (.enter 30 vs) w := callFunc_run Try.func30 (by decide) rfl
theorem go31 : ∀ (vs : Array Value) w, (callFunc 31 vs).run Try.prog w = .ok (.enter 31 vs) w := callFunc_run Try.func31 (by decide) rfl
theorem go32 : ∀ (vs : Array Value) w, (callFunc 32 vs).run Try.prog w = .ok (.enter 32 vs) w := callFunc_run Try.func32 (by decide) rfl
theorem go33 : ∀ (vs : Array Value) w, (callFunc 33 vs).run Try.prog w = .ok (.enter 33 vs) w := callFunc_run Try.func33 (by decide) rfl
theorem go34 : ∀ (vs : Array Value) w, (callFunc 34 vs).run Try.prog w = .ok (.enter 34 vs) w := callFunc_run Try.func34 (by decide) rfl
theorem go35 : ∀ (vs : Array Value) w, (callFunc 35 vs).run Try.prog w = .ok (.enter 35 vs) w := callFunc_run Try.func35 (by decide) rfl
theorem go36 : ∀ (vs : Array Value) w, (callFunc 36 vs).run Try.prog w = .ok (.enter 36 vs) w := callFunc_run Try.func36 (by decide) rfl
theorem go37 : ∀ (vs : Array Value) w, (callFunc 37 vs).run Try.prog w = .ok (.enter 37 vs) w := callFunc_run Try.func37 (by decide) rfl
theorem go38 : ∀ (vs : Array Value) w, (callFunc 38 vs).run Try.prog w = .ok (.enter 38 vs) w := callFunc_run Try.func38 (by decide) rfl
theorem go39 : ∀ (vs : Array Value) w, (callFunc 39 vs).run Try.prog w = .ok (.enter 39 vs) w := callFunc_run Try.func39 (by decide) rfl
theorem go40 : ∀ (vs : Array Value) w, (callFunc 40 vs).run Try.prog w = .ok (.enter 40 vs) w := callFunc_run Try.func40 (by decide) rfl
theorem go41 : ∀ (vs : Array Value) w, (callFunc 41 vs).run Try.prog w = .ok (.enter 41 vs) w := callFunc_run Try.func41 (by decide) rfl
theorem go42 : ∀ (vs : Array Value) w, (callFunc 42 vs).run Try.prog w = .ok (.enter 42 vs) w := callFunc_run Try.func42 (by decide) rfl
theorem go43 : ∀ (vs : Array Value) w, (callFunc 43 vs).run Try.prog w = .ok (.enter 43 vs) w := callFunc_run Try.func43 (by decide) rfl
theorem go44 : ∀ (vs : Array Value) w, (callFunc 44 vs).run Try.prog w = .ok (.enter 44 vs) w := callFunc_run Try.func44 (by decide) rfl
theorem go45 : ∀ (vs : Array Value) w, (callFunc 45 vs).run Try.prog w = .ok (.enter 45 vs) w := callFunc_run Try.func45 (by decide) rfl
theorem go46 : ∀ (vs : Array Value) w, (callFunc 46 vs).run Try.prog w = .ok (.enter 46 vs) w := callFunc_run Try.func46 (by decide) rfl
theorem go47 : ∀ (vs : Array Value) w, (callFunc 47 vs).run Try.prog w = .ok (.enter 47 vs) w := callFunc_run Try.func47 (by decide) rfl
theorem go48 : ∀ (vs : Array Value) w, (callFunc 48 vs).run Try.prog w = .ok (.enter 48 vs) w := callFunc_run Try.func48 (by decide) rfl
theorem go49 : ∀ (vs : Array Value) w, (callFunc 49 vs).run Try.prog w = .ok (.enter 49 vs) w := callFunc_run Try.func49 (by decide) rfl
theorem go50 : ∀ (vs : Array Value) w, (callFunc 50 vs).run Try.prog w = .ok (.enter 50 vs) w := callFunc_run Try.func50 (by decide) rfl
theorem go51 : ∀ (vs : Array Value) w, (callFunc 51 vs).run Try.prog w = .ok (.enter 51 vs) w := callFunc_run Try.func51 (by decide) rfl
theorem go52 : ∀ (vs : Array Value) w, (callFunc 52 vs).run Try.prog w = .ok (.enter 52 vs) w := callFunc_run Try.func52 (by decide) rfl
theorem go53 : ∀ (vs : Array Value) w, (callFunc 53 vs).run Try.prog w = .ok (.enter 53 vs) w := callFunc_run Try.func53 (by decide) rfl
theorem go54 : ∀ (vs : Array Value) w, (callFunc 54 vs).run Try.prog w = .ok (.enter 54 vs) w := callFunc_run Try.func54 (by decide) rfl
theorem go55 : ∀ (vs : Array Value) w, (callFunc 55 vs).run Try.prog w = .ok (.enter 55 vs) w := callFunc_run Try.func55 (by decide) rfl
theorem go56 : ∀ (vs : Array Value) w, (callFunc 56 vs).run Try.prog w = .ok (.enter 56 vs) w := callFunc_run Try.func56 (by decide) rfl
theorem go57 : ∀ (vs : Array Value) w, (callFunc 57 vs).run Try.prog w = .ok (.enter 57 vs) w := callFunc_run Try.func57 (by decide) rfl
theorem go58 : ∀ (vs : Array Value) w, (callFunc 58 vs).run Try.prog w = .ok (.enter 58 vs) w := callFunc_run Try.func58 (by decide) rfl
theorem go59 : ∀ (vs : Array Value) w, (callFunc 59 vs).run Try.prog w = .ok (.enter 59 vs) w := callFunc_run Try.func59 (by decide) rfl
theorem go60 : ∀ (vs : Array Value) w, (callFunc 60 vs).run Try.prog w = .ok (.enter 60 vs) w := callFunc_run Try.func60 (by decide) rfl
theorem go61 : ∀ (vs : Array Value) w, (callFunc 61 vs).run Try.prog w = .ok (.enter 61 vs) w := callFunc_run Try.func61 (by decide) rfl
theorem go62 : ∀ (vs : Array Value) w, (callFunc 62 vs).run Try.prog w = .ok (.enter 62 vs) w := callFunc_run Try.func62 (by decide) rfl
theorem go63 : ∀ (vs : Array Value) w, (callFunc 63 vs).run Try.prog w = .ok (.enter 63 vs) w := callFunc_run Try.func63 (by decide) rfl
theorem go64 : ∀ (vs : Array Value) w, (callFunc 64 vs).run Try.prog w = .ok (.enter 64 vs) w := callFunc_run Try.func64 (by decide) rfl
theorem go65 : ∀ (vs : Array Value) w, (callFunc 65 vs).run Try.prog w = .ok (.enter 65 vs) w := callFunc_run Try.func65 (by decide) rfl
theorem go66 : ∀ (vs : Array Value) w, (callFunc 66 vs).run Try.prog w = .ok (.enter 66 vs) w := callFunc_run Try.func66 (by decide) rfl
theorem go69 : ∀ (vs : Array Value) w, (callFunc 69 vs).run Try.prog w = .ok (.enter 69 vs) w := callFunc_run Try.func69 (by decide) rfl
theorem go70 : ∀ (vs : Array Value) w, (callFunc 70 vs).run Try.prog w = .ok (.enter 70 vs) w := callFunc_run Try.func70 (by decide) rfl
theorem go71 : ∀ (vs : Array Value) w, (callFunc 71 vs).run Try.prog w = .ok (.enter 71 vs) w := callFunc_run Try.func71 (by decide) rfl
theorem go72 : ∀ (vs : Array Value) w, (callFunc 72 vs).run Try.prog w = .ok (.enter 72 vs) w := callFunc_run Try.func72 (by decide) rfl
theorem go73 : ∀ (vs : Array Value) w, (callFunc 73 vs).run Try.prog w = .ok (.enter 73 vs) w := callFunc_run Try.func73 (by decide) rfl
theorem go74 : ∀ (vs : Array Value) w, (callFunc 74 vs).run Try.prog w = .ok (.enter 74 vs) w := callFunc_run Try.func74 (by decide) rfl
end Go.Proofs.Ytmbppidafnakhaa
/-
  Functions of the library, at bytes.
-/
set_option linter.unusedVariables false
namespace Go.Proofs.Ytmbppidafnakhaa
open Go Brv
theorem clone_ok (a : Option Addr) (n c : Nat) (l : List UInt8) (w : World) (hb : Bs w a n l) (hn : n ≤ 140737488355328) : Meets Try.prog 39 [.slice a n c] w (Cloned w 5 1 n (vbs l)) := by
  refine Meets.enter Try.func39 rfl 8 rfl (Nat.le_of_ble_eq_true rfl) ?_
  refine G.seq ?_
  refine G.region ?_
  refine L.val rfl rfl (R.as rfl) ?_
  refine L.nil ?_
  refine N.seq ?_
  refine G.seq ?_
  refine G.seq ?_
  refine G.region ?_
  refine L.val rfl rfl (R.mv rfl) ?_
  refine L.val rfl rfl (R.eqNilS rfl rfl) ?_
  refine L.nil ?_
  refine N.seq ?_
  refine G.condB rfl (fun h0 => ?_) (fun h0 => ?_)
  · obtain rfl : a = none := by simpa using h0
    obtain ⟨rfl, rfl⟩ := hb.none
    refine G.seq ?_
    refine G.region ?_
    refine L.val rfl rfl (R.as rfl) ?_
    refine L.nil ?_
    refine N.seq ?_
    refine G.ret1 rfl rfl ?_
    exact ⟨none, 0, [], rfl, Ext.refl _ _, Own.nil _ _ _, by simp⟩
  · refine G.skip ?_
    refine N.seq ?_
    refine G.seq ?_
    refine G.region ?_
    refine L.do rfl rfl (R.buildS rfl (by decide) rfl) ?_
    rintro _ w1 ⟨b5, rfl, hb5, hs5, e1, B5⟩
    have hb := hb.ext0 e1
    have o0 := Own.blk (n := 0) (size := 1) B5 (by simp) (by simp [maxLen])
    refine L.val rfl rfl (R.mv rfl) ?_
    refine L.do rfl rfl (R.app rfl rfl o0 hb.cells (by rw [vbs_length, Nat.mul_one]; exact hb.len.symm) (vbs_one _) (by simp [maxLen]; omega) (by omega)) ?_
    rintro _ w2 ⟨a1, c1, M1, rfl, e2, hM1, o1⟩
    refine L.val rfl rfl (R.as rfl) ?_
    refine L.nil ?_
    refine N.seq ?_
    refine G.ret1 rfl rfl ?_
    exact ⟨a1, c1, M1, by rw [Nat.zero_add] , e1.trans e2 (by simp) (by simp; omega), by simpa using o1, by intro g hg; have := hM1 g hg; have := e1.size; simp at *; omega⟩

end Go.Proofs.Ytmbppidafnakhaa
/-
  Functions of the library.
-/
set_option linter.unusedVariables false
set_option linter.unusedSimpArgs false
namespace Go.Proofs.Ytmbppidafnakhaa
open Go Brv
theorem go76 : ∀ (vs : Array Value) w, (callFunc 76 vs).run Try.prog w = .ok (.enter 76 vs) w := callFunc_run Try.func76 (by decide) rfl
theorem go79 : ∀ (vs : Array Value) w, (callFunc 79 vs).run Try.prog w = .ok (.enter 79 vs) w := callFunc_run Try.func79 (by decide) rfl

theorem bclone_ok (a : Option Addr) (n c : Nat) (l : List UInt8) (w : World) (hb : Bs w a n l) (hn : n ≤ 140737488355328) : Meets Try.prog 31 [.slice a n c] w (Cloned w 5 1 n (vbs l)) := by
  refine Meets.enter Try.func31 rfl 8 rfl (Nat.le_of_ble_eq_true rfl) ?_
  refine G.seq ?_
  refine G.region ?_
  refine L.val rfl rfl (R.as rfl) ?_
  refine L.nil ?_
  refine N.seq ?_
  refine G.seq ?_
  refine G.seq ?_
  refine G.region ?_
  refine L.val rfl rfl (R.mv rfl) ?_
  refine L.val rfl rfl (R.eqNilS rfl rfl) ?_
  refine L.nil ?_
  refine N.seq ?_
  refine G.condB rfl (fun h0 => ?_) (fun h0 => ?_)
  · obtain rfl : a = none := by simpa using h0
    obtain ⟨rfl, rfl⟩ := hb.none
    refine G.seq ?_
    refine G.region ?_
    refine L.val rfl rfl (R.as rfl) ?_
    refine L.nil ?_
    refine N.seq ?_
    refine G.ret1 rfl rfl ?_
    exact ⟨none, 0, [], rfl, Ext.refl _ _, Own.nil _ _ _, by simp⟩
  · refine G.skip ?_
    refine N.seq ?_
    refine G.seq ?_
    refine G.region ?_
    refine L.do rfl rfl (R.buildS rfl (by decide) rfl) ?_
    rintro _ w1 ⟨b5, rfl, hb5, hs5, e1, B5⟩
    have hb := hb.ext0 e1
    have o0 := Own.blk (n := 0) (size := 1) B5 (by simp) (by simp [maxLen])
    refine L.val rfl rfl (R.mv rfl) ?_
    refine L.do rfl rfl (R.app rfl rfl o0 hb.cells (by rw [vbs_length, Nat.mul_one]; exact hb.len.symm) (vbs_one _) (by simp [maxLen]; omega) (by omega)) ?_
    rintro _ w2 ⟨a1, c1, M1, rfl, e2, hM1, o1⟩
    refine L.val rfl rfl (R.as rfl) ?_
    refine L.nil ?_
    refine N.seq ?_
    refine G.ret1 rfl rfl ?_
    exact ⟨a1, c1, M1, by rw [Nat.zero_add] , e1.trans e2 (by simp) (by simp; omega), by simpa using o1, by intro g hg; have := hM1 g hg; have := e1.size; simp at *; omega⟩

theorem mul64_ok (x y : Int) (w : World) (hx0 : 0 ≤ x) (hx1 : x ≤ 2147483647) (hy0 : 0 ≤ y) (hy1 : y ≤ 2147483647) : Meets Try.prog 79 [.int .u64 x, .int .u64 y] w (fun v w' => v = .tuple #[.int .u64 0, .int .u64 (x * y)] ∧ w' = w) := by
  refine Meets.enter Try.func79 rfl 51 rfl (Nat.le_of_ble_eq_true rfl) ?_
  have p0 : 0 ≤ x * y := Int.mul_nonneg hx0 hy0
  have p1 : x * y ≤ 4611686014132420609 := Int.le_trans (Int.mul_le_mul hx1 hy1 hy0 (by decide)) (by decide)
  refine G.seq ?_
  refine G.region ?_
  refine L.val rfl rfl (R.as rfl) ?_
  refine L.val rfl rfl (R.as rfl) ?_
  refine L.nil ?_
  refine N.seq ?_
  refine G.seq ?_
  refine G.region ?_
  refine L.val rfl rfl (R.mv rfl) ?_
  refine L.val rfl rfl (R.andW rfl rfl x (and32 hx0 (by omega))) ?_
  refine L.val rfl rfl (R.as rfl) ?_
  refine L.nil ?_
  refine N.seq ?_
  refine G.seq ?_
  refine G.region ?_
  refine L.val rfl rfl (R.mv rfl) ?_
  refine L.val rfl rfl (R.shrW rfl rfl (by decide) 0 ((shr32 x).trans (by omega))) ?_
  refine L.val rfl rfl (R.as rfl) ?_
  refine L.nil ?_
  refine N.seq ?_
  refine G.seq ?_
  refine G.region ?_
  refine L.val rfl rfl (R.mv rfl) ?_
  refine L.val rfl rfl (R.andW rfl rfl y (and32 hy0 (by omega))) ?_
  refine L.val rfl rfl (R.as rfl) ?_
  refine L.nil ?_
  refine N.seq ?_
  refine G.seq ?_
  refine G.region ?_
  refine L.val rfl rfl (R.mv rfl) ?_
  refine L.val rfl rfl (R.shrW rfl rfl (by decide) 0 ((shr32 y).trans (by omega))) ?_
  refine L.val rfl rfl (R.as rfl) ?_
  refine L.nil ?_
  refine N.seq ?_
  refine G.seq ?_
  refine G.region ?_
  refine L.val rfl rfl (R.mv rfl) ?_
  refine L.val rfl rfl (R.mv rfl) ?_
  refine L.val rfl rfl (R.mulW rfl rfl (x * y) (wrap_u64 (by omega))) ?_
  refine L.val rfl rfl (R.as rfl) ?_
  refine L.nil ?_
  refine N.seq ?_
  refine G.seq ?_
  refine G.region ?_
  refine L.val rfl rfl (R.mv rfl) ?_
  refine L.val rfl rfl (R.mv rfl) ?_
  refine L.val rfl rfl (R.mulW rfl rfl 0 (by rw [Int.zero_mul]; rfl)) ?_
  refine L.val rfl rfl (R.mv rfl) ?_
  refine L.val rfl rfl (R.shrW rfl rfl (by decide) (x * y / 4294967296) (shr32 _)) ?_
  refine L.val rfl rfl (R.addW rfl rfl (x * y / 4294967296) (by rw [Int.zero_add]; exact wrap_u64 (by omega))) ?_
  refine L.val rfl rfl (R.as rfl) ?_
  refine L.nil ?_
  refine N.seq ?_
  refine G.seq ?_
  refine G.region ?_
  refine L.val rfl rfl (R.mv rfl) ?_
  refine L.val rfl rfl (R.andW rfl rfl (x * y / 4294967296) (and32 (by omega) (by omega))) ?_
  refine L.val rfl rfl (R.as rfl) ?_
  refine L.nil ?_
  refine N.seq ?_
  refine G.seq ?_
  refine G.region ?_
  refine L.val rfl rfl (R.mv rfl) ?_
  refine L.val rfl rfl (R.shrW rfl rfl (by decide) 0 ((shr32 _).trans (by omega))) ?_
  refine L.val rfl rfl (R.as rfl) ?_
  refine L.nil ?_
  refine N.seq ?_
  refine G.seq ?_
  refine G.region ?_
  refine L.val rfl rfl (R.mv rfl) ?_
  refine L.val rfl rfl (R.mv rfl) ?_
  refine L.val rfl rfl (R.mv rfl) ?_
  refine L.val rfl rfl (R.mulW rfl rfl 0 (by rw [Int.mul_zero]; rfl)) ?_
  refine L.val rfl rfl (R.addW rfl rfl (x * y / 4294967296) (by rw [Int.add_zero]; exact wrap_u64 (by omega))) ?_
  refine L.val rfl rfl (R.as rfl) ?_
  refine L.nil ?_
  refine N.seq ?_
  refine G.seq ?_
  refine G.region ?_
  refine L.val rfl rfl (R.mv rfl) ?_
  refine L.val rfl rfl (R.mv rfl) ?_
  refine L.val rfl rfl (R.mulW rfl rfl 0 rfl) ?_
  refine L.val rfl rfl (R.mv rfl) ?_
  refine L.val rfl rfl (R.addW rfl rfl 0 rfl) ?_
  refine L.val rfl rfl (R.mv rfl) ?_
  refine L.val rfl rfl (R.shrW rfl rfl (by decide) 0 ((shr32 _).trans (by omega))) ?_
  refine L.val rfl rfl (R.addW rfl rfl 0 rfl) ?_
  refine L.val rfl rfl (R.as rfl) ?_
  refine L.nil ?_
  refine N.seq ?_
  refine G.seq ?_
  refine G.region ?_
  refine L.val rfl rfl (R.mv rfl) ?_
  refine L.val rfl rfl (R.mv rfl) ?_
  refine L.val rfl rfl (R.mulW rfl rfl (x * y) (wrap_u64 (by omega))) ?_
  refine L.val rfl rfl (R.as rfl) ?_
  refine L.nil ?_
  refine N.seq ?_
  refine G.ret2 rfl rfl rfl ?_
  exact ⟨rfl, rfl⟩
theorem mul_ok (x y : Int) (w : World) (hx0 : 0 ≤ x) (hx1 : x ≤ 2147483647) (hy0 : 0 ≤ y) (hy1 : y ≤ 2147483647) : Meets Try.prog 76 [.int .u64 x, .int .u64 y] w (fun v w' => v = .tuple #[.int .u64 0, .int .u64 (x * y)] ∧ w' = w) := by
  refine Meets.enter Try.func76 rfl 30 rfl (Nat.le_of_ble_eq_true rfl) ?_
  refine G.seq ?_
  refine G.region ?_
  refine L.val rfl rfl (R.as rfl) ?_
  refine L.val rfl rfl (R.as rfl) ?_
  refine L.nil ?_
  refine N.seq ?_
  refine G.seq ?_
  refine G.condF rfl ?_
  refine G.skip ?_
  refine N.seq ?_
  refine G.seq ?_
  refine G.region ?_
  refine L.val rfl rfl (R.mv rfl) ?_
  refine L.val rfl rfl (R.mv rfl) ?_
  refine L.callF rfl rfl rfl go79 (mul64_ok _ _ _ hx0 hx1 hy0 hy1) ?_
  rintro _ _ ⟨rfl, hw⟩
  obtain rfl := hw.symm
  refine L.val rfl rfl (R.mv rfl) ?_
  refine L.val rfl rfl (R.ext rfl rfl) ?_
  refine L.val rfl rfl (R.ext rfl rfl) ?_
  refine L.val rfl rfl (R.as rfl) ?_
  refine L.val rfl rfl (R.as rfl) ?_
  refine L.nil ?_
  refine N.seq ?_
  refine G.seq ?_
  refine G.region ?_
  refine L.val rfl rfl (R.mv rfl) ?_
  refine L.val rfl rfl (R.mv rfl) ?_
  refine L.val rfl rfl (R.as rfl) ?_
  refine L.val rfl rfl (R.as rfl) ?_
  refine L.nil ?_
  refine N.seq ?_
  refine G.ret2 rfl rfl rfl ?_
  exact ⟨rfl, rfl⟩

end Go.Proofs.Ytmbppidafnakhaa
/-
  Functions of the library, at slices of pointers.
-/
set_option linter.unusedVariables false
namespace Go.Proofs.Ytmbppidafnakhaa
open Go Brv
theorem prepeat_ok (a : Option Addr) (c : Nat) (x : Value) (k : Nat) (w : World) (hb : Cells w a [x]) (hone : x.oneCell' = true) (hk0 : 1 ≤ k) (hk : k ≤ 8192) : Meets Try.prog 70 [.slice a 1 c, .int .i64 k] w (Cloned w 125 1 k (List.replicate k x)) := by
  refine Meets.enter Try.func70 rfl 48 rfl (Nat.le_of_ble_eq_true rfl) ?_
  refine G.seq ?_
  refine G.region ?_
  refine L.val rfl rfl (R.as rfl) ?_
  refine L.nil ?_
  refine N.seq ?_
  refine G.seq ?_
  refine G.seq ?_
  refine G.region ?_
  refine L.val rfl rfl (R.mv rfl) ?_
  refine L.val rfl rfl (R.lss rfl rfl) ?_
  refine L.nil ?_
  refine N.seq ?_
  refine G.condP rfl (fun h0 => ?_) (fun h0 => ?_)
  · exfalso; omega
  · refine G.skip ?_
    refine N.seq ?_
    refine G.seq ?_
    refine G.region ?_
    refine L.val rfl rfl (R.mv rfl) ?_
    refine L.val rfl rfl (R.lenS rfl) ?_
    refine L.val rfl rfl (R.conv rfl 1 rfl) ?_
    refine L.val rfl rfl (R.mv rfl) ?_
    refine L.val rfl rfl (R.conv rfl (k : Int) (wrap_u64 (by omega))) ?_
    refine L.callF rfl rfl rfl go76 (mul_ok 1 (k : Int) _ (by decide) (by decide) (by omega) (by omega)) ?_
    rintro _ w1 ⟨rfl, hw⟩
    obtain rfl := hw.symm
    refine L.val rfl rfl (R.mv rfl) ?_
    refine L.val rfl rfl (R.ext rfl rfl) ?_
    refine L.val rfl rfl (R.ext rfl rfl) ?_
    refine L.val rfl rfl (R.as rfl) ?_
    refine L.val rfl rfl (R.as rfl) ?_
    refine L.nil ?_
    refine N.seq ?_
    refine G.seq ?_
    refine G.seq ?_
    refine G.region ?_
    refine L.val rfl rfl (R.mv rfl) ?_
    refine L.val rfl rfl (R.gtr rfl rfl) ?_
    refine L.val rfl rfl (R.mv rfl) ?_
    refine L.caseP 23 rfl (fun hg4_2 => ?_) (fun hg4_2 => ?_)
    · omega
    · refine L.val rfl rfl (R.mv rfl) ?_
      refine L.val rfl rfl (R.gtr rfl rfl) ?_
      first | refine L.val rfl rfl (R.pickT rfl rfl) ?_ | refine L.val rfl rfl (R.pickF rfl rfl) ?_
      refine L.nil ?_
      refine N.seq ?_
      refine G.condP rfl (fun h1 => ?_) (fun h1 => ?_)
      · omega
      · refine G.skip ?_
        refine N.seq ?_
        refine G.seq ?_
        refine G.region ?_
        refine L.val rfl rfl (R.mv rfl) ?_
        refine L.val rfl rfl (R.conv rfl (k : Int) (by rw [Int.one_mul]; exact wrap_i64 (by omega))) ?_
        refine L.do rfl rfl (R.make rfl rfl (by omega) (by omega) (by omega) (by omega)) ?_
        rintro _ w2 ⟨b30, rfl, hb30, hs30, e2, B30⟩
        obtain ⟨cs, hcs⟩ : ∃ cs, cs = madeCells (Value.pointer none).cells ((k : Int).toNat * 1) := ⟨_, rfl⟩
        have hsz : cs.size = k := by rw [hcs]; simp [madeCells, Value.cells]
        replace B30 : Blk w2 b30 cs 125 (0, 0) := by rw [hcs]; exact B30
        refine L.be 30 rfl (show _ = Value.slice (some ⟨b30, 0, none⟩) k k by rfl) ?_
        refine L.val rfl rfl (R.as rfl) ?_
        refine L.nil ?_
        refine N.seq ?_
        refine G.seq ?_
        refine G.region ?_
        obtain ⟨pa, rfl, _⟩ := hb 0 x rfl
        have hc1 : Cells w2 (some pa) [x] := hb.ext0 e2
        refine L.val rfl rfl (R.mv rfl) ?_
        refine L.val rfl rfl (R.mv rfl) ?_
        refine L.do rfl rfl (R.copyB rfl rfl B30 hc1 (show [x].length = Nat.min 1 k from (Nat.min_eq_left hk0).symm) (by simp; omega) (by simpa using hone)) ?_
        rintro _ w3 ⟨rfl, P3⟩
        obtain ⟨e3, hs3, B3⟩ := P3
        have hsz3 := Over.size (cur := cs) (o := 0) (cs := [x]) (by simp; omega)
        have ht3 := Over.take (cur := cs) (o := 0) (cs := [x]) (Nat.zero_le _)
        refine L.val rfl rfl (R.as rfl) ?_
        refine L.nil ?_
        refine N.seq ?_
        refine G.seq ?_
        refine G.block ?_
        obtain ⟨y, hyx⟩ : ∃ y, y = x := ⟨x, rfl⟩
        subst hyx
        refine G.loop (X := Nat × Array Value) (fun x => [(7, .slice (some ⟨b30, 0, none⟩) k k), (8, .int .i64 (x.1 : Int))]) (fun x w' => 1 ≤ x.1 ∧ x.1 ≤ k ∧ x.2.size = k ∧ Blk w' b30 x.2 125 (0, 0) ∧ x.2.toList.take x.1 = List.replicate x.1 y ∧ Ext [] w w') (fun x => k - x.1) ((1, Over cs 0 [y])) (Sub.cons rfl (Sub.cons rfl (Sub.nil _))) ⟨Nat.le_refl 1, by omega, by rw [hsz3]; exact hsz, B3, by simpa using ht3, e2.trans e3 (by simp) (by simp; omega)⟩ ?_
        rintro ⟨p, cur⟩ w4 ⟨hp1, hp2, hz1, B4, ht4, e4⟩
        dsimp only at hp1 hp2 hz1 B4 ht4
        refine G.seq ?_
        refine G.seq ?_
        refine G.region ?_
        refine L.val rfl rfl (R.mv rfl) ?_
        refine L.val rfl rfl (R.mv rfl) ?_
        refine L.val rfl rfl (R.lenS rfl) ?_
        refine L.val rfl rfl (R.lss rfl rfl) ?_
        refine L.nil ?_
        refine N.seq ?_
        refine G.condP rfl (fun h2 => ?_) (fun h2 => ?_)
        · have hpk : p < k := by omega
          have hmn : (List.replicate (min p (k - p)) y).length = min p (k - p) := by simp
          have hov : p + (List.replicate (min p (k - p)) y).length ≤ cur.size := by rw [hmn]; omega
          refine G.skip ?_
          refine N.seq ?_
          refine G.block ?_
          refine G.staged [7] [.blocks ([b30])] [fun w' => Ext [] w4 w', fun w' => Ext [b30] w4 w' ∧ Blk w' b30 (Over cur p (List.replicate (min p (k - p)) y)) 125 (0, 0)] [] (by decide +kernel) (by decide +kernel) rfl rfl rfl (fun _ h => h) ?_
          refine Z.val rfl rfl rfl rfl rfl (fun w5 => R.mv rfl) ?_
          refine Z.val rfl rfl rfl rfl rfl (fun w5 => R.mv rfl) ?_
          refine Z.val rfl rfl rfl rfl rfl (fun w5 => R.mv rfl) ?_
          refine Z.val rfl rfl rfl rfl rfl (fun w5 => R.slL rfl rfl (by omega) (by omega)) ?_
          refine Z.be 41 rfl (show Value.slice (subA (some ⟨b30, 0, none⟩) (p : Int).toNat k 1) (k - (p : Int).toNat) (k - (p : Int).toNat) = .slice (some ⟨b30, p, none⟩) (k - p) (k - p) by rw [Int.toNat_natCast, subA_lit (by omega), Nat.zero_add, Nat.mul_one]) ?_
          refine Z.val rfl rfl rfl rfl rfl (fun w5 => R.mv rfl) ?_
          refine Z.val rfl rfl rfl rfl rfl (fun w5 => R.mv rfl) ?_
          refine Z.val rfl rfl rfl rfl rfl (fun w5 => R.slH rfl rfl (by omega) (by omega)) ?_
          refine Z.be 44 rfl (show Value.slice (subA (some ⟨b30, 0, none⟩) 0 k 1) (p : Int).toNat k = .slice (some ⟨b30, 0, none⟩) p k by rw [subA_zero, Int.toNat_natCast]) ?_
          refine Z.put (A := fun v _ => v = .int .i64 ((min p (k - p) : Nat) : Int)) (Lasts.kill (fun _ _ _ _ h => h) (by decide +kernel)) 0 (by decide +kernel) rfl rfl rfl rfl rfl rfl rfl (fun w5 hJ => (R.copyB rfl rfl (B4.ext0 hJ) (Cells.of_blk (B4.ext0 hJ) 0 _ (fun j v hj => cells_repV ht4 (Nat.min_le_left _ _) j v hj)) (by rw [hmn]) hov (fun u hu => by rw [(List.mem_replicate.1 hu).2]; exact hone)).mono (fun v w' h => by obtain ⟨rfl, h1, h2, h3⟩ := h; rw [hmn]; exact ⟨rfl, h1, h1.after hJ, h3⟩)) ?_
          refine Z.valR (A := fun v _ => v = .int .i64 ((p : Int) + ((min p (k - p) : Nat) : Int))) (Lasts.kill (fun _ _ _ _ h => h) (by decide +kernel)) rfl rfl rfl rfl (fun w5 => by rintro _ rfl; exact ⟨_, R.add rfl rfl (by omega), rfl⟩) ?_
          refine Z.valR (A := fun v _ => v = .int .i64 ((p + min p (k - p) : Nat) : Int)) (Lasts.kill (fun _ _ _ _ h => h) (by decide +kernel)) rfl rfl rfl rfl (fun w5 => by rintro _ rfl; exact ⟨_, R.as rfl, by simp⟩) ?_
          refine Z.nil rfl rfl (fun w5 hJ => ?_)
          obtain ⟨e6, B6⟩ := hJ
          rintro _ rfl _ _ _ _
          have hE6 : Ext [] w w5 := e4.trans e6 (by simp) (by simp; omega)
          have hto := Over.take (cur := cur) (o := p) (cs := (List.replicate (min p (k - p)) y)) (by omega)
          rw [hmn, ht4, List.replicate_append_replicate] at hto
          refine N.block ?_
          exact N.again (p + min p (k - p), Over cur p (List.replicate (min p (k - p)) y)) (by show k - (p + min p (k - p)) < k - p; omega) (Sub.cons rfl (Sub.cons rfl (Sub.nil _))) ⟨by show 1 ≤ p + min p (k - p); omega, by show p + min p (k - p) ≤ k; omega, by show (Over cur p _).size = k; rw [Over.size hov]; exact hz1, B6, hto, hE6⟩
        · have hpk : p = k := by omega
          subst hpk
          refine G.exit _ rfl ?_
          refine N.seq ?_
          refine G.seq ?_
          refine G.region ?_
          refine L.val rfl rfl (R.mv rfl) ?_
          refine L.val rfl rfl (R.as rfl) ?_
          refine L.nil ?_
          refine N.seq ?_
          refine G.ret1 rfl rfl ?_
          exact ⟨_, _, [b30], rfl, e4, ⟨by simp, .inr ⟨b30, cur, rfl, rfl, B4, Nat.le_refl _, by simp [maxLen]; omega, by omega, by simpa using ht4⟩⟩, by intro g hg; rw [List.mem_singleton.1 hg]; omega⟩

end Go.Proofs.Ytmbppidafnakhaa
/-
  A return of a struct that lives in a block.
-/
set_option linter.unusedVariables false
namespace Brv
open Go
section
variable {P : Program} {n : Nat} {ks : List K} {ρ : Env} {w : World} {fn : Func} {Φ : Value → World → Prop}
theorem G.retC {t : Nat} {T : TypeId} {s b : Nat} [ta : TyAgg P T s] {cs : Array Value} {U : TypeId} {fz : Nat × Nat} (hr : fn.results = #[.cell t T]) (hv : look ρ t = some (.pointer (some ⟨b, 0, none⟩)))
    (hb : Blk w b cs U fz) (hs : cs.size = s) (h : Φ (.agg cs) w) : G P (Func.base P fn Φ) ⟨n, [], none⟩ ks ρ w .ret := by
  refine G.retM (n := ⟨n, [], none⟩) rfl (fun a ha => ?_) h
  have h1 := ha.vals t _ hv
  have hl := run_loadN (P := P) (T := T) (s := s) (w := w) (p := ⟨b, 0, none⟩) (vs := cs.toList) hb.cellsAll (by simpa using hs)
  simp only [Instr.loadAt, Instr.sureAddr] at hl
  simp [results, hr, h1, asAddr] at hl ⊢
  simp [hl]
end
end Brv
/-
  The walks of package dev.
-/
set_option linter.unusedVariables false
set_option linter.unusedSimpArgs false
namespace Go.Proofs.Ytmbppidafnakhaa
open Go Brv Brv.Image Brv.Dev
def rdC (v : DevV) (wa : Option Addr) (wc : Nat) : Array Value := #[.string (str v.stay), .slice wa v.wt.length wc, .int .i64 v.calls, .int .i64 v.left, .bool v.off]
theorem rdC_one (v : DevV) (wa : Option Addr) (wc : Nat) : ∀ u ∈ (rdC v wa wc).toList, u.oneCell' = true := by
  intro u hu
  simp only [rdC, List.mem_cons, List.not_mem_nil, or_false] at hu
  rcases hu with rfl | rfl | rfl | rfl | rfl <;> rfl
def rwC (x : Nat × List UInt8) : List Value := [.int .i64 (x.1 : Int), .string (str x.2)]
def rwsC (wt : List (Nat × List UInt8)) : List Value := (wt.map rwC).flatten
theorem rwsC_append (a b : List (Nat × List UInt8)) : rwsC (a ++ b) = rwsC a ++ rwsC b := by simp [rwsC]
theorem rwsC_length (wt : List (Nat × List UInt8)) : (rwsC wt).length = wt.length * 2 := by
  induction wt with
  | nil => rfl
  | cons x r ih => simp only [rwsC, List.map_cons, List.flatten_cons, List.length_append, List.length_cons] at ih ⊢; rw [ih]; simp [rwC]; omega
theorem rwC_one (x : Nat × List UInt8) : ∀ u ∈ rwC x, u.oneCell' = true := by
  intro u hu
  simp only [rwC, List.mem_cons, List.not_mem_nil, or_false] at hu
  rcases hu with rfl | rfl <;> rfl
theorem rwsC_one (wt : List (Nat × List UInt8)) : ∀ u ∈ rwsC wt, u.oneCell' = true := by
  intro u hu
  obtain ⟨cs, hcs, hu⟩ := List.mem_flatten.1 hu
  obtain ⟨x, _, rfl⟩ := List.mem_map.1 hcs
  exact rwC_one x u hu
/-- What waits, of a reference's device. -/
def RefAt (w : World) (wt : List (Nat × List UInt8)) (wa : Option Addr) : Prop := Tab w wa wt.length 2 (wt.map rwC) ∧ ∀ p, wa = some p → ∃ cs, Blk w p.block cs 106 (0, 0)
theorem RefAt.ext {w w' : World} {wt : List (Nat × List UInt8)} {wa : Option Addr} {M : List Nat} (h : RefAt w wt wa) (he : Ext M w w') (hM : ∀ g ∈ M, ∀ cs, ¬ Blk w g cs 106 (0, 0)) : RefAt w' wt wa := by
  have hn : ∀ p, wa = some p → p.block ∉ M := fun p hp hm => let ⟨cs, hb⟩ := h.2 p hp; hM _ hm cs hb
  exact ⟨⟨h.1.cells.ext he hn, h.1.len, h.1.each⟩, fun p hp => let ⟨cs, hb⟩ := h.2 p hp; ⟨cs, hb.ext he (hn p hp)⟩⟩
theorem RefAt.ext0 {w w' : World} {wt : List (Nat × List UInt8)} {wa : Option Addr} (h : RefAt w wt wa) (he : Ext [] w w') : RefAt w' wt wa := h.ext he (by simp)
theorem RefAt.nil (w : World) : RefAt w [] none := ⟨⟨Cells.nil _ _, rfl, by simp⟩, by simp⟩
theorem RefAt.of {w : World} {wt : List (Nat × List UInt8)} {a : Option Addr} {n c : Nat} {M : List Nat} (h : Own w 106 2 a n c (rwsC wt) M) (hn : n = wt.length) : RefAt w wt a :=
  ⟨⟨h.cells, by rw [List.length_map], fun vs hv => by obtain ⟨x, _, rfl⟩ := List.mem_map.1 hv; rfl⟩, fun p hp => h.typ _ (h.mem p hp).1⟩
theorem RefAt.elem {w : World} {wt : List (Nat × List UInt8)} {wa : Option Addr} (h : RefAt w wt wa) {k : Nat} {x : Nat × List UInt8} (hx : wt[k]? = some x) : ∃ q, wa = some q ∧ Cells w (some (q.add (k * 2))) (rwC x) := by
  have hk := (List.getElem?_eq_some_iff.1 hx).1
  obtain ⟨q, hq, hc⟩ := h.1.at (by decide) k (by rw [List.length_map]; exact hk)
  rw [List.getElem_map, show wt[k] = x from (List.getElem?_eq_some_iff.1 hx).2] at hc
  exact ⟨q, hq, hc⟩

theorem rdnew_ok (n : Nat) (w : World) (hn : n ≤ 4096) : Meets Try.prog 18 [.int .i64 (n : Int)] w (fun r w' => r = .agg (rdC (newV n) none 0) ∧ Ext [] w w') := by
  refine Meets.enter Try.func18 rfl 8 rfl (Nat.le_of_ble_eq_true rfl) ?_
  have E := Ext.refl [] w
  refine G.seq ?_
  refine G.region ?_
  refine L.do rfl rfl (R.alloc) ?_
  rintro _ w1 ⟨b2, rfl, hz2, hs1, e1, B2⟩
  replace E := E.trans0 e1
  refine L.nil ?_
  refine N.seq ?_
  refine G.seq ?_
  refine G.region ?_
  refine L.val rfl rfl (R.mv rfl) ?_
  refine L.val rfl rfl (R.mul rfl rfl (by omega)) ?_
  refine L.do rfl rfl (R.make rfl rfl (by omega) (by omega) (by omega) (by omega)) ?_
  rintro _ w2 ⟨b5, rfl, hb5, hs5, e2, B5⟩
  replace E := E.trans0 e2
  replace B2 := B2.ext0 e2
  have L5 := Bs.of_blk B5 (List.replicate (64 * n) 0) (by rw [show (64 * (n : Int)).toNat * 1 = 64 * n by omega]; exact madeCells_bytes _) (64 * (n : Int)).toNat (by rw [List.length_replicate]; omega)
  refine L.val rfl rfl (R.bytesStr rfl L5.cells L5.len) ?_
  refine L.val rfl rfl (R.build (cs := rdC (newV n) none 0) rfl rfl) ?_
  refine L.set rfl (R.stN rfl rfl B2 rfl (Nat.le_refl 5) (rdC_one _ _ _)) ?_
  rintro w3 ⟨e3, hs3, B2⟩
  replace B2 : Blk w3 b2 (rdC (newV n) none 0) 45 (0, 0) := B2
  replace E := E.news2 e3 (by omega)
  refine L.nil ?_
  refine N.seq ?_
  refine G.retC rfl rfl (B2) rfl ?_
  exact ⟨rfl, E⟩

theorem rdthere_ok (v : DevV) (sz : Nat) (wa : Option Addr) (wc : Nat) (p n : Int) (w : World) (hwf : v.Wf sz) (hz : sz ≤ 4096) (hn9 : -9223372036854775808 ≤ n ∧ n ≤ 9223372036854775807) : Meets Try.prog 62 [.agg (rdC v wa wc), .int .i64 p, .int .i64 n] w (fun r w' => r = .bool (decide (thereP sz p n)) ∧ Ext [] w w') := by
  refine Meets.enter Try.func62 rfl 30 rfl (Nat.le_of_ble_eq_true rfl) ?_
  have E := Ext.refl [] w
  have hl := hwf.len
  refine G.seq ?_
  refine G.region ?_
  refine L.do rfl rfl (R.box rfl) ?_
  rintro _ w1 ⟨b3, rfl, hz3, hs1, e1, B3⟩
  replace B3 : Blk w1 b3 (rdC v wa wc) 45 (0, 0) := B3
  replace E := E.trans0 e1
  refine L.val rfl rfl (R.as rfl) ?_
  refine L.nil ?_
  refine N.seq ?_
  refine G.seq ?_
  refine G.region ?_
  refine L.val rfl rfl (R.fld rfl) ?_
  refine L.val rfl rfl (R.ldB rfl B3 rfl) ?_
  refine L.val rfl rfl (R.lenT rfl) ?_
  refine L.val rfl rfl (R.quo rfl rfl (by omega) (by omega)) ?_
  refine L.be 11 rfl (show _ = Value.int .i64 (sz : Int) by congr 1; omega) ?_
  refine L.val rfl rfl (R.as rfl) ?_
  refine L.nil ?_
  refine N.seq ?_
  refine G.seq ?_
  refine G.region ?_
  refine L.val rfl rfl (R.mv rfl) ?_
  refine L.val rfl rfl (R.geq rfl rfl) ?_
  refine L.val rfl rfl (R.mv rfl) ?_
  refine L.caseP 14 rfl (fun hg2_2 => ?_) (fun hg2_2 => ?_)
  · refine L.val rfl rfl (R.mv rfl) ?_
    refine L.val rfl rfl (R.geq rfl rfl) ?_
    first | refine L.val rfl rfl (R.pickT rfl rfl) ?_ | refine L.val rfl rfl (R.pickF rfl rfl) ?_
    refine L.val rfl rfl (R.mv rfl) ?_
    refine L.caseP 18 rfl (fun hg2_6 => ?_) (fun hg2_6 => ?_)
    · refine L.val rfl rfl (R.mv rfl) ?_
      refine L.val rfl rfl (R.mv rfl) ?_
      refine L.val rfl rfl (R.leq rfl rfl) ?_
      first | refine L.val rfl rfl (R.pickT rfl rfl) ?_ | refine L.val rfl rfl (R.pickF rfl rfl) ?_
      refine L.val rfl rfl (R.mv rfl) ?_
      refine L.caseP 23 rfl (fun hg2_11 => ?_) (fun hg2_11 => ?_)
      · refine L.val rfl rfl (R.mv rfl) ?_
        refine L.val rfl rfl (R.mv rfl) ?_
        refine L.val rfl rfl (R.mv rfl) ?_
        refine L.val rfl rfl (R.sub' rfl rfl (by omega)) ?_
        refine L.val rfl rfl (R.leq rfl rfl) ?_
        first | refine L.val rfl rfl (R.pickT rfl rfl) ?_ | refine L.val rfl rfl (R.pickF rfl rfl) ?_
        refine L.val rfl rfl (R.as rfl) ?_
        refine L.nil ?_
        refine N.seq ?_
        refine G.ret1 rfl rfl ?_
        first | exact ⟨congrArg Value.bool (decide_eq_decide.2 (by unfold thereP; omega)), E⟩ | exact ⟨congrArg Value.bool (decide_eq_false (by unfold thereP; omega)).symm, E⟩
      · refine L.pass rfl rfl ?_
        refine L.pass rfl rfl ?_
        refine L.pass rfl rfl ?_
        refine L.pass rfl rfl ?_
        refine L.pass rfl rfl ?_
        first | refine L.val rfl rfl (R.pickT rfl rfl) ?_ | refine L.val rfl rfl (R.pickF rfl rfl) ?_
        refine L.val rfl rfl (R.as rfl) ?_
        refine L.nil ?_
        refine N.seq ?_
        refine G.ret1 rfl rfl ?_
        first | exact ⟨congrArg Value.bool (decide_eq_decide.2 (by unfold thereP; omega)), E⟩ | exact ⟨congrArg Value.bool (decide_eq_false (by unfold thereP; omega)).symm, E⟩
    · refine L.pass rfl rfl ?_
      refine L.pass rfl rfl ?_
      refine L.pass rfl rfl ?_
      first | refine L.val rfl rfl (R.pickT rfl rfl) ?_ | refine L.val rfl rfl (R.pickF rfl rfl) ?_
      refine L.val rfl rfl (R.mv rfl) ?_
      refine L.pass rfl rfl ?_
      refine L.pass rfl rfl ?_
      refine L.pass rfl rfl ?_
      refine L.pass rfl rfl ?_
      refine L.pass rfl rfl ?_
      first | refine L.val rfl rfl (R.pickT rfl rfl) ?_ | refine L.val rfl rfl (R.pickF rfl rfl) ?_
      refine L.val rfl rfl (R.as rfl) ?_
      refine L.nil ?_
      refine N.seq ?_
      refine G.ret1 rfl rfl ?_
      first | exact ⟨congrArg Value.bool (decide_eq_decide.2 (by unfold thereP; omega)), E⟩ | exact ⟨congrArg Value.bool (decide_eq_false (by unfold thereP; omega)).symm, E⟩
  · refine L.pass rfl rfl ?_
    refine L.pass rfl rfl ?_
    first | refine L.val rfl rfl (R.pickT rfl rfl) ?_ | refine L.val rfl rfl (R.pickF rfl rfl) ?_
    refine L.val rfl rfl (R.mv rfl) ?_
    refine L.pass rfl rfl ?_
    refine L.pass rfl rfl ?_
    refine L.pass rfl rfl ?_
    first | refine L.val rfl rfl (R.pickT rfl rfl) ?_ | refine L.val rfl rfl (R.pickF rfl rfl) ?_
    refine L.val rfl rfl (R.mv rfl) ?_
    refine L.pass rfl rfl ?_
    refine L.pass rfl rfl ?_
    refine L.pass rfl rfl ?_
    refine L.pass rfl rfl ?_
    refine L.pass rfl rfl ?_
    first | refine L.val rfl rfl (R.pickT rfl rfl) ?_ | refine L.val rfl rfl (R.pickF rfl rfl) ?_
    refine L.val rfl rfl (R.as rfl) ?_
    refine L.nil ?_
    refine N.seq ?_
    refine G.ret1 rfl rfl ?_
    first | exact ⟨congrArg Value.bool (decide_eq_decide.2 (by unfold thereP; omega)), E⟩ | exact ⟨congrArg Value.bool (decide_eq_false (by unfold thereP; omega)).symm, E⟩

theorem rdlaid_ok (s b : List UInt8) (k : Nat) (w : World) (hs : 64 * k + 64 ≤ s.length) (hs2 : s.length ≤ 1000000) (hb : b.length ≤ 1000) : Meets Try.prog 47 [.string (str s), .int .i64 (k : Int), .string (str b)] w (fun r w' => r = .string (str (laid s k b)) ∧ Ext [] w w') := by
  refine Meets.enter Try.func47 rfl 19 rfl (Nat.le_of_ble_eq_true rfl) ?_
  have E := Ext.refl [] w
  refine G.seq ?_
  refine G.region ?_
  refine L.val rfl rfl (R.as rfl) ?_
  refine L.nil ?_
  refine N.seq ?_
  refine G.seq ?_
  refine G.quiet (by decide +kernel) rfl ?_
  refine Q.val rfl rfl rfl rfl (fun w1 hE => R.mv rfl) ?_
  refine Q.val rfl rfl rfl rfl (fun w1 hE => R.mv rfl) ?_
  refine Q.val rfl rfl rfl rfl (fun w1 hE => R.mul rfl rfl (by omega)) ?_
  refine Q.val rfl rfl rfl rfl (fun w1 hE => R.slStrH rfl rfl (by omega) (by omega)) ?_
  refine Q.val rfl rfl rfl rfl (fun w1 hE => R.mv rfl) ?_
  refine Q.val rfl rfl rfl rfl (fun w1 hE => R.addStr rfl rfl (by rw [List.length_take]; omega)) ?_
  refine Q.val rfl rfl rfl rfl (fun w1 hE => R.mv rfl) ?_
  refine Q.val rfl rfl rfl rfl (fun w1 hE => R.mv rfl) ?_
  refine Q.val rfl rfl rfl rfl (fun w1 hE => R.mul rfl rfl (by omega)) ?_
  refine Q.val rfl rfl rfl rfl (fun w1 hE => R.add rfl rfl (by omega)) ?_
  refine Q.val rfl rfl rfl rfl (fun w1 hE => R.slStrL rfl rfl (by omega) (by omega)) ?_
  refine Q.val rfl rfl rfl rfl (fun w1 hE => R.addStr rfl rfl (by simp only [List.length_append, List.length_take, List.length_drop]; omega)) ?_
  refine Q.be 18 rfl (show _ = Value.string (str (laid s k b)) by rw [show (64 * (k : Int)).toNat = 64 * k by omega, show (64 * (k : Int) + 64).toNat = 64 * k + 64 by omega]; rfl) ?_
  refine Q.val rfl rfl rfl rfl (fun w1 hE => R.as rfl) ?_
  refine Q.nil (fun w1 e1 => ?_)
  replace E := E.trans0 e1
  refine N.seq ?_
  refine G.ret1 rfl rfl ?_
  exact ⟨rfl, E⟩

theorem rdcall_ok (v : DevV) (sz : Nat) (wa : Option Addr) (wc : Nat) (w : World) (hwf : v.Wf sz) (hz : sz ≤ 4096) (hcb : 0 ≤ v.calls ∧ v.calls ≤ 1000000000) : Meets Try.prog 63 [.agg (rdC v wa wc)] w (fun r w' => r = .tuple #[.agg (rdC (callV v).1 wa wc), .bool (callV v).2] ∧ Ext [] w w') := by
  refine Meets.enter Try.func63 rfl 21 rfl (Nat.le_of_ble_eq_true rfl) ?_
  have E := Ext.refl [] w
  have hlf := hwf.left
  refine G.seq ?_
  refine G.region ?_
  refine L.do rfl rfl (R.box rfl) ?_
  rintro _ w1 ⟨b1, rfl, hzb1, hs1, e1, B1⟩
  replace B1 : Blk w1 b1 (rdC v wa wc) 45 (0, 0) := B1
  replace E := E.trans0 e1
  refine L.do rfl rfl (R.alloc) ?_
  rintro _ w2 ⟨b2, rfl, hzb2, hs2, e2, B2⟩
  replace E := E.trans0 e2
  replace B1 := B1.ext0 e2
  refine L.val rfl rfl (R.as rfl) ?_
  refine L.nil ?_
  refine N.seq ?_
  refine G.seq ?_
  refine G.seq ?_
  refine G.region ?_
  refine L.val rfl rfl (R.fld rfl) ?_
  refine L.val rfl rfl (R.ldB rfl B1 rfl) ?_
  refine L.val rfl rfl (R.eqI rfl rfl) ?_
  refine L.nil ?_
  refine N.seq ?_
  refine G.condP rfl (fun h0 => ?_) (fun h0 => ?_)
  · have hcv : callV v = ({ v with off := true }, false) := if_pos h0
    refine G.seq ?_
    refine G.region ?_
    refine L.val rfl rfl (R.fld rfl) ?_
    refine L.set rfl (R.st rfl rfl B1 (by show 4 < 5; decide) rfl) ?_
    rintro w3 ⟨e3, hs3, B1⟩
    replace B1 : Blk w3 b1 (rdC ({ v with off := true } : DevV) wa wc) 45 (0, 0) := B1
    replace E := E.news2 e3 (by omega)
    replace B2 := B2.ext e3 (by simp; omega)
    refine L.nil ?_
    refine N.seq ?_
    refine G.seq ?_
    refine G.region ?_
    refine L.val rfl rfl (R.ldBN rfl B1 rfl) ?_
    refine L.set rfl (R.stN rfl rfl B2 rfl (Nat.le_refl 5) (rdC_one _ _ _)) ?_
    rintro w4 ⟨e4, hs4, B2⟩
    replace B2 : Blk w4 b2 (rdC ({ v with off := true } : DevV) wa wc) 45 (0, 0) := B2
    replace E := E.news2 e4 (by omega)
    refine L.val rfl rfl (R.as rfl) ?_
    refine L.nil ?_
    refine N.seq ?_
    refine G.retCT rfl rfl rfl (B2) rfl ?_
    rw [hcv]; exact ⟨rfl, E⟩
  · refine G.skip ?_
    refine N.seq ?_
    refine G.seq ?_
    refine G.seq ?_
    refine G.region ?_
    refine L.val rfl rfl (R.fld rfl) ?_
    refine L.val rfl rfl (R.ldB rfl B1 rfl) ?_
    refine L.val rfl rfl (R.gtr rfl rfl) ?_
    refine L.nil ?_
    refine N.seq ?_
    refine G.condP rfl (fun h1 => ?_) (fun h1 => ?_)
    · have hcv : callV v = ({ v with left := v.left - 1, calls := v.calls + 1 }, true) := by unfold callV; rw [if_neg h0, if_pos h1]
      refine G.region ?_
      refine L.val rfl rfl (R.fld rfl) ?_
      refine L.val rfl rfl (R.ldB rfl B1 rfl) ?_
      refine L.val rfl rfl (R.sub' rfl rfl (by omega)) ?_
      refine L.val rfl rfl (R.fld rfl) ?_
      refine L.set rfl (R.st rfl rfl B1 (by show 3 < 5; decide) rfl) ?_
      rintro w5 ⟨e5, hs5, B1⟩
      replace B1 : Blk w5 b1 (rdC ({ v with left := v.left - 1 } : DevV) wa wc) 45 (0, 0) := B1
      replace E := E.news2 e5 (by omega)
      replace B2 := B2.ext e5 (by simp; omega)
      refine L.nil ?_
      refine N.seq ?_
      refine G.seq ?_
      refine G.region ?_
      refine L.val rfl rfl (R.fld rfl) ?_
      refine L.val rfl rfl (R.ldB rfl B1 rfl) ?_
      refine L.be 17 rfl (show _ = Value.int .i64 v.calls from rfl) ?_
      refine L.val rfl rfl (R.add rfl rfl (by omega)) ?_
      refine L.val rfl rfl (R.fld rfl) ?_
      refine L.set rfl (R.st rfl rfl B1 (by show 2 < 5; decide) rfl) ?_
      rintro w6 ⟨e6, hs6, B1⟩
      replace B1 : Blk w6 b1 (rdC ({ v with left := v.left - 1, calls := v.calls + 1 } : DevV) wa wc) 45 (0, 0) := B1
      replace E := E.news2 e6 (by omega)
      replace B2 := B2.ext e6 (by simp; omega)
      refine L.nil ?_
      refine N.seq ?_
      refine G.seq ?_
      refine G.region ?_
      refine L.val rfl rfl (R.ldBN rfl B1 rfl) ?_
      refine L.set rfl (R.stN rfl rfl B2 rfl (Nat.le_refl 5) (rdC_one _ _ _)) ?_
      rintro w7 ⟨e7, hs7, B2⟩
      replace B2 : Blk w7 b2 (rdC ({ v with left := v.left - 1, calls := v.calls + 1 } : DevV) wa wc) 45 (0, 0) := B2
      replace E := E.news2 e7 (by omega)
      refine L.val rfl rfl (R.as rfl) ?_
      refine L.nil ?_
      refine N.seq ?_
      refine G.retCT rfl rfl rfl (B2) rfl ?_
      rw [hcv]; exact ⟨rfl, E⟩
    · have hcv : callV v = ({ v with left := v.left, calls := v.calls + 1 }, true) := by unfold callV; rw [if_neg h0, if_neg h1]
      refine G.skip ?_
      refine N.seq ?_
      refine G.seq ?_
      refine G.region ?_
      refine L.val rfl rfl (R.fld rfl) ?_
      refine L.val rfl rfl (R.ldB rfl B1 rfl) ?_
      refine L.be 17 rfl (show _ = Value.int .i64 v.calls from rfl) ?_
      refine L.val rfl rfl (R.add rfl rfl (by omega)) ?_
      refine L.val rfl rfl (R.fld rfl) ?_
      refine L.set rfl (R.st rfl rfl B1 (by show 2 < 5; decide) rfl) ?_
      rintro w6 ⟨e6, hs6, B1⟩
      replace B1 : Blk w6 b1 (rdC ({ v with left := v.left, calls := v.calls + 1 } : DevV) wa wc) 45 (0, 0) := B1
      replace E := E.news2 e6 (by omega)
      replace B2 := B2.ext e6 (by simp; omega)
      refine L.nil ?_
      refine N.seq ?_
      refine G.seq ?_
      refine G.region ?_
      refine L.val rfl rfl (R.ldBN rfl B1 rfl) ?_
      refine L.set rfl (R.stN rfl rfl B2 rfl (Nat.le_refl 5) (rdC_one _ _ _)) ?_
      rintro w7 ⟨e7, hs7, B2⟩
      replace B2 : Blk w7 b2 (rdC ({ v with left := v.left, calls := v.calls + 1 } : DevV) wa wc) 45 (0, 0) := B2
      replace E := E.news2 e7 (by omega)
      refine L.val rfl rfl (R.as rfl) ?_
      refine L.nil ?_
      refine N.seq ?_
      refine G.retCT rfl rfl rfl (B2) rfl ?_
      rw [hcv]; exact ⟨rfl, E⟩

theorem rdread_ok (v : DevV) (sz : Nat) (wa : Option Addr) (wc : Nat) (p n : Int) (w : World) (hwf : v.Wf sz) (hz : sz ≤ 4096) (hr : RefAt w v.wt wa) (hn9 : -9223372036854775808 ≤ n ∧ n ≤ 9223372036854775807) (hwb : v.wt.length ≤ 1000000) : Meets Try.prog 44 [.agg (rdC v wa wc), .int .i64 p, .int .i64 n] w (fun r w' => r = .tuple #[.string (str (readV v sz p n).1), .int .i64 (readV v sz p n).2] ∧ Ext [] w w') := by
  refine Meets.enter Try.func44 rfl 42 rfl (Nat.le_of_ble_eq_true rfl) ?_
  have E := Ext.refl [] w
  have hl := hwf.len
  have hr0 := hr
  refine G.seq ?_
  refine G.region ?_
  refine L.do rfl rfl (R.box rfl) ?_
  rintro _ w1 ⟨b3, rfl, hz3, hs1, e1, B3⟩
  replace B3 : Blk w1 b3 (rdC v wa wc) 45 (0, 0) := B3
  replace E := E.trans0 e1
  refine L.val rfl rfl (R.as rfl) ?_
  refine L.val rfl rfl (R.as rfl) ?_
  refine L.nil ?_
  refine N.seq ?_
  refine G.seq ?_
  refine G.seq ?_
  refine G.region ?_
  refine L.val rfl rfl (R.fld rfl) ?_
  refine L.val rfl rfl (R.ldB rfl B3 rfl) ?_
  refine L.nil ?_
  refine N.seq ?_
  refine G.condB rfl (fun h0 => ?_) (fun h0 => ?_)
  · have ho : v.off = true := h0
    have hf : readV v sz p n = ([], 10) := if_pos ho
    refine G.seq ?_
    refine G.region ?_
    refine L.val rfl rfl (R.as rfl) ?_
    refine L.val rfl rfl (R.as rfl) ?_
    refine L.nil ?_
    refine N.seq ?_
    refine G.ret2 rfl rfl rfl ?_
    rw [hf]; exact ⟨rfl, E⟩
  · have ho : ¬ v.off = true := by simpa using h0
    refine G.skip ?_
    refine N.seq ?_
    refine G.seq ?_
    refine G.seq ?_
    refine G.region ?_
    refine L.val rfl rfl (R.ldBN rfl B3 rfl) ?_
    refine L.val rfl rfl (R.mv rfl) ?_
    refine L.val rfl rfl (R.mv rfl) ?_
    refine L.callF rfl rfl rfl go62 (rdthere_ok v sz wa wc p n _ hwf hz hn9) ?_
    rintro _ w2 ⟨rfl, e2⟩
    replace E := E.trans0 e2
    replace B3 := B3.ext0 e2
    refine L.val rfl rfl (R.not rfl) ?_
    refine L.be 17 rfl (show _ = Value.bool (decide (¬ thereP sz p n)) by simp) ?_
    refine L.nil ?_
    refine N.seq ?_
    refine G.condP rfl (fun h1 => ?_) (fun h1 => ?_)
    · have hf : readV v sz p n = ([], 11) := by unfold readV; rw [if_neg ho, if_neg h1]
      refine G.seq ?_
      refine G.region ?_
      refine L.val rfl rfl (R.as rfl) ?_
      refine L.val rfl rfl (R.as rfl) ?_
      refine L.nil ?_
      refine N.seq ?_
      refine G.ret2 rfl rfl rfl ?_
      rw [hf]; exact ⟨rfl, E⟩
    · have ht : thereP sz p n := Classical.not_not.1 h1
      have ht2 := ht
      unfold thereP at ht2
      obtain ⟨i, rfl⟩ := Int.eq_ofNat_of_zero_le ht2.1
      obtain ⟨m, rfl⟩ := Int.eq_ofNat_of_zero_le ht2.2.1
      have him : i + m ≤ sz := by omega
      have hf : readV v sz (i : Int) (m : Int) = (win (laidAll v.stay v.wt) i m, 0) := by unfold readV; rw [if_neg ho, if_pos ht]; rfl
      refine G.skip ?_
      refine N.seq ?_
      refine G.seq ?_
      refine G.region ?_
      refine L.val rfl rfl (R.fld rfl) ?_
      refine L.val rfl rfl (R.ldB rfl B3 rfl) ?_
      refine L.val rfl rfl (R.as rfl) ?_
      refine L.nil ?_
      refine N.seq ?_
      refine G.seq ?_
      refine G.seq ?_
      refine G.region ?_
      refine L.val rfl rfl (R.fld rfl) ?_
      refine L.val rfl rfl (R.ldB rfl B3 rfl) ?_
      refine L.val rfl rfl (R.lenS rfl) ?_
      refine L.val rfl rfl (R.mv rfl) ?_
      refine L.nil ?_
      refine N.seq ?_
      refine G.block ?_
      refine G.loop (X := Nat) (fun k => [(1, .int .i64 (i : Int)), (2, .int .i64 (m : Int)), (8, .string (str (laidAll v.stay (v.wt.take k)))), (21, .slice wa v.wt.length wc), (22, .int .i64 (v.wt.length : Int)), (23, .int .i64 (k : Int))]) (fun k w' => k ≤ v.wt.length ∧ Ext [] w w') (fun k => v.wt.length - k) (0) (Sub.cons rfl (Sub.cons rfl (Sub.cons rfl (Sub.cons rfl (Sub.cons rfl (Sub.cons rfl (Sub.nil _))))))) ⟨Nat.zero_le _, E⟩ ?_
      rintro k w3 ⟨hk, E⟩
      have hr := hr0.ext0 E
      refine G.seq ?_
      refine G.region ?_
      refine L.val rfl rfl (R.lss rfl rfl) ?_
      refine L.nil ?_
      refine N.seq ?_
      refine G.seq ?_
      refine G.condP rfl (fun h2 => ?_) (fun h2 => ?_)
      · have hk2 : k < v.wt.length := by omega
        obtain ⟨x, hx⟩ : ∃ x, v.wt[k]? = some x := ⟨_, List.getElem?_eq_getElem hk2⟩
        obtain ⟨q9, hq9, hcl⟩ := hr.elem hx
        have hxw := hwf.wt x (List.mem_of_getElem? hx)
        have hlk := laidAll_length (s := []) hwf.len (fun y hy => hwf.wt y (List.mem_of_mem_take hy) : ∀ y ∈ v.wt.take k, _)
        refine G.skip ?_
        refine N.seq ?_
        refine G.seq ?_
        refine G.block ?_
        refine G.seq ?_
        refine G.region ?_
        refine L.val rfl rfl (R.idx rfl rfl (by omega) (by omega) q9 hq9) ?_
        refine L.val rfl rfl (R.ldN rfl hcl rfl) ?_
        refine L.do rfl rfl (R.alloc) ?_
        rintro _ w4 ⟨b10, rfl, hb10, hs4, e4, B10⟩
        have hEk := E.size
        refine L.set rfl (R.stN rfl rfl B10 rfl (Nat.le_refl 2) (rwC_one x)) ?_
        rintro w5 ⟨e5, hs5, B10⟩
        replace B10 : Blk w5 b10 (rwC x).toArray 106 (0, 0) := B10
        have n5 := e4.news2 e5 (by omega)
        replace E := E.trans0 n5
        refine L.nil ?_
        refine N.seq ?_
        refine G.region ?_
        refine L.val rfl rfl (R.mv rfl) ?_
        refine L.val rfl rfl (R.fld rfl) ?_
        refine L.val rfl rfl (R.ldB rfl B10 rfl) ?_
        refine L.val rfl rfl (R.fld rfl) ?_
        refine L.val rfl rfl (R.ldB rfl B10 rfl) ?_
        refine L.callF rfl rfl rfl go47 (rdlaid_ok (laidAll v.stay (v.wt.take k)) x.2 x.1 _ (by omega) (by omega) (by omega)) ?_
        rintro _ w7 ⟨rfl, e7⟩
        replace E := E.trans0 e7
        rw [← laidAll_succ hx]
        refine L.val rfl rfl (R.as rfl) ?_
        refine L.nil ?_
        refine N.block ?_
        refine N.seq ?_
        refine G.region ?_
        refine L.val rfl rfl (R.add rfl rfl (by omega)) ?_
        refine L.val rfl rfl (R.mv rfl) ?_
        refine L.nil ?_
        exact N.again (k + 1) (by omega) (Sub.cons rfl (Sub.cons rfl (Sub.cons rfl (Sub.cons rfl (Sub.cons rfl (Sub.cons rfl (Sub.nil _))))))) ⟨by omega, E⟩
      · obtain rfl : k = v.wt.length := by omega
        rw [List.take_length]
        have hll := laidAll_length (s := []) hwf.len hwf.wt
        refine G.exit _ rfl ?_
        refine N.seq ?_
        refine G.seq ?_
        refine G.region ?_
        refine L.val rfl rfl (R.mv rfl) ?_
        refine L.val rfl rfl (R.mv rfl) ?_
        refine L.val rfl rfl (R.mul rfl rfl (by omega)) ?_
        refine L.val rfl rfl (R.mv rfl) ?_
        refine L.val rfl rfl (R.mv rfl) ?_
        refine L.val rfl rfl (R.add rfl rfl (by omega)) ?_
        refine L.val rfl rfl (R.mul rfl rfl (by omega)) ?_
        refine L.val rfl rfl (R.slStr rfl rfl rfl (by omega) (by omega) (by omega)) ?_
        refine L.be 41 rfl (show _ = Value.string (str (win (laidAll v.stay v.wt) i m)) by rw [show (64 * (i : Int)).toNat = 64 * i by omega, show (64 * ((i : Int) + (m : Int))).toNat = 64 * i + 64 * m by omega, List.drop_take, Nat.add_sub_cancel_left]; rfl) ?_
        refine L.val rfl rfl (R.as rfl) ?_
        refine L.val rfl rfl (R.as rfl) ?_
        refine L.nil ?_
        refine N.seq ?_
        refine G.ret2 rfl rfl rfl ?_
        rw [hf]; exact ⟨rfl, E⟩

end Go.Proofs.Ytmbppidafnakhaa
/-
  The walks of package dev.
-/
set_option linter.unusedVariables false
set_option linter.unusedSimpArgs false
namespace Go.Proofs.Ytmbppidafnakhaa
open Go Brv Brv.Image Brv.Dev
structure RwSt where
  k : Nat
  a9 : Option Addr
  c9 : Nat
  M : List Nat

theorem rdwrite_okF (v : DevV) (sz : Nat) (wa : Option Addr) (wc : Nat) (p : Int) (ba : Option Addr) (bn bc : Nat) (l : List UInt8) (w : World) (hwf : v.Wf sz) (hz : sz ≤ 4096) (hr : RefAt w v.wt wa) (hcb : 0 ≤ v.calls ∧ v.calls ≤ 1000000000) (hwb : v.wt.length ≤ 1000000) (hb : Bs w ba bn l) (hbc : bn ≤ bc) (hbn : bn ≤ 100000) : Meets Try.prog 45 [.agg (rdC v wa wc), .int .i64 p, .slice ba bn bc] w (fun r w' => ∃ wa' wc', r = .tuple #[.agg (rdC (writeV v sz p l).1 wa' wc'), .int .i64 (writeV v sz p l).2] ∧ Ext [] w w' ∧ RefAt w' (writeV v sz p l).1.wt wa' ∧ (wa' = wa ∨ ∀ p, wa' = some p → w.heap.size ≤ p.block)) := by
  refine Meets.enter Try.func45 rfl 64 rfl (Nat.le_of_ble_eq_true rfl) ?_
  have E := Ext.refl [] w
  have hl := hb.len
  have hdl : dn l = l.length / 64 := rfl
  have hcs := callV_same v
  have hsl := hwf.len
  have hr0 := hr
  have hb0 := hb
  refine G.seq ?_
  refine G.region ?_
  refine L.do rfl rfl (R.box rfl) ?_
  rintro _ w1 ⟨b3, rfl, hzb3, hs1, e1, B3⟩
  replace B3 : Blk w1 b3 (rdC v wa wc) 45 (0, 0) := B3
  replace E := E.trans0 e1
  refine L.do rfl rfl (R.alloc) ?_
  rintro _ w2 ⟨b6, rfl, hzb6, hs2, e2, B6⟩
  replace E := E.trans0 e2
  replace B3 := B3.ext0 e2
  refine L.val rfl rfl (R.as rfl) ?_
  refine L.nil ?_
  refine N.seq ?_
  refine G.seq ?_
  refine G.seq ?_
  refine G.region ?_
  refine L.val rfl rfl (R.fld rfl) ?_
  refine L.val rfl rfl (R.ldB rfl B3 rfl) ?_
  refine L.nil ?_
  refine N.seq ?_
  refine G.condB rfl (fun h0 => ?_) (fun h0 => ?_)
  · have ho : v.off = true := h0
    have hf : writeV v sz p l = (v, 10) := if_pos ho
    refine G.seq ?_
    refine G.region ?_
    refine L.val rfl rfl (R.ldBN rfl B3 rfl) ?_
    refine L.set rfl (R.stN rfl rfl B6 rfl (Nat.le_refl 5) (rdC_one _ _ _)) ?_
    rintro w20 ⟨e20, hs20, B6⟩
    replace B6 : Blk w20 b6 (rdC v wa wc) 45 (0, 0) := B6
    replace E := E.news2 e20 (by omega)
    refine L.val rfl rfl (R.as rfl) ?_
    refine L.nil ?_
    refine N.seq ?_
    refine G.retCT rfl rfl rfl (B6) rfl ?_
    first
      | (rw [hf]; exact ⟨_, _, rfl, E, hr2, .inr hfr9⟩)
      | (rw [hf]; exact ⟨wa, wc, rfl, E, hr0.ext0 E, .inl rfl⟩)
      | (rw [hf]; exact ⟨wa, wc, rfl, E, by show RefAt _ v1.wt wa; rw [hcs.2]; exact hr0.ext0 E, .inl rfl⟩)
  · have ho : ¬ v.off = true := by simpa using h0
    refine G.skip ?_
    refine N.seq ?_
    refine G.seq ?_
    refine G.seq ?_
    refine G.region ?_
    refine L.val rfl rfl (R.mv rfl) ?_
    refine L.val rfl rfl (R.lenS rfl) ?_
    refine L.val rfl rfl (R.rem rfl rfl (by omega) (by omega)) ?_
    refine L.val rfl rfl (R.neI rfl rfl) ?_
    refine L.nil ?_
    refine N.seq ?_
    refine G.condP rfl (fun h1 => ?_) (fun h1 => ?_)
    · have hf : writeV v sz p l = (v, 2) := by unfold writeV; rw [if_neg ho, if_pos (by omega)]
      refine G.seq ?_
      refine G.region ?_
      refine L.val rfl rfl (R.ldBN rfl B3 rfl) ?_
      refine L.set rfl (R.stN rfl rfl B6 rfl (Nat.le_refl 5) (rdC_one _ _ _)) ?_
      rintro w21 ⟨e21, hs21, B6⟩
      replace B6 : Blk w21 b6 (rdC v wa wc) 45 (0, 0) := B6
      replace E := E.news2 e21 (by omega)
      refine L.val rfl rfl (R.as rfl) ?_
      refine L.nil ?_
      refine N.seq ?_
      refine G.retCT rfl rfl rfl (B6) rfl ?_
      first
        | (rw [hf]; exact ⟨_, _, rfl, E, hr2, .inr hfr9⟩)
        | (rw [hf]; exact ⟨wa, wc, rfl, E, hr0.ext0 E, .inl rfl⟩)
        | (rw [hf]; exact ⟨wa, wc, rfl, E, by show RefAt _ v1.wt wa; rw [hcs.2]; exact hr0.ext0 E, .inl rfl⟩)
    · have hm : l.length = 64 * dn l := by omega
      refine G.skip ?_
      refine N.seq ?_
      refine G.seq ?_
      refine G.seq ?_
      refine G.region ?_
      refine L.val rfl rfl (R.ldBN rfl B3 rfl) ?_
      refine L.val rfl rfl (R.mv rfl) ?_
      refine L.val rfl rfl (R.mv rfl) ?_
      refine L.val rfl rfl (R.lenS rfl) ?_
      refine L.val rfl rfl (R.quo rfl rfl (by omega) (by omega)) ?_
      refine L.be 23 rfl (show _ = Value.int .i64 (dn l : Int) by congr 1; omega) ?_
      refine L.callF rfl rfl rfl go62 (rdthere_ok v sz wa wc p (dn l : Int) _ hwf hz (by omega)) ?_
      rintro _ w3 ⟨rfl, e3⟩
      replace E := E.trans0 e3
      replace B3 := B3.ext0 e3
      replace B6 := B6.ext0 e3
      refine L.val rfl rfl (R.not rfl) ?_
      refine L.be 25 rfl (show _ = Value.bool (decide (¬ thereP sz p (dn l))) by simp) ?_
      refine L.nil ?_
      refine N.seq ?_
      refine G.condP rfl (fun h2 => ?_) (fun h2 => ?_)
      · have hf : writeV v sz p l = (v, 11) := by unfold writeV; rw [if_neg ho, if_neg (by omega), if_pos h2]
        refine G.seq ?_
        refine G.region ?_
        refine L.val rfl rfl (R.ldBN rfl B3 rfl) ?_
        refine L.set rfl (R.stN rfl rfl B6 rfl (Nat.le_refl 5) (rdC_one _ _ _)) ?_
        rintro w22 ⟨e22, hs22, B6⟩
        replace B6 : Blk w22 b6 (rdC v wa wc) 45 (0, 0) := B6
        replace E := E.news2 e22 (by omega)
        refine L.val rfl rfl (R.as rfl) ?_
        refine L.nil ?_
        refine N.seq ?_
        refine G.retCT rfl rfl rfl (B6) rfl ?_
        first
          | (rw [hf]; exact ⟨_, _, rfl, E, hr2, .inr hfr9⟩)
          | (rw [hf]; exact ⟨wa, wc, rfl, E, hr0.ext0 E, .inl rfl⟩)
          | (rw [hf]; exact ⟨wa, wc, rfl, E, by show RefAt _ v1.wt wa; rw [hcs.2]; exact hr0.ext0 E, .inl rfl⟩)
      · have ht : thereP sz p (dn l) := Classical.not_not.1 h2
        have ht2 := ht
        unfold thereP at ht2
        obtain ⟨i, rfl⟩ := Int.eq_ofNat_of_zero_le ht2.1
        have hin : i + dn l ≤ sz := by omega
        refine G.skip ?_
        refine N.seq ?_
        refine G.seq ?_
        refine G.region ?_
        refine L.val rfl rfl (R.ldBN rfl B3 rfl) ?_
        refine L.callF rfl rfl rfl go63 (rdcall_ok v sz wa wc _ hwf hz hcb) ?_
        rintro _ w4 ⟨rfl, e4⟩
        replace E := E.trans0 e4
        replace B3 := B3.ext0 e4
        replace B6 := B6.ext0 e4
        obtain ⟨v1, hv1⟩ : ∃ v1, v1 = (callV v).1 := ⟨_, rfl⟩
        rw [← hv1] at hcs ⊢
        have hv1w : v1.wt.length ≤ 1000000 := by rw [hcs.2]; exact hwb
        have hwf1 : v1.Wf sz := hv1 ▸ callV_wf hwf
        refine L.val rfl rfl (R.mv rfl) ?_
        refine L.val rfl rfl (R.ext rfl rfl) ?_
        refine L.val rfl rfl (R.ext rfl rfl) ?_
        refine L.set rfl (R.stN rfl rfl B3 rfl (Nat.le_refl 5) (rdC_one _ _ _)) ?_
        rintro w5 ⟨e5, hs5, B3⟩
        replace B3 : Blk w5 b3 (rdC v1 wa wc) 45 (0, 0) := B3
        replace E := E.news2 e5 (by omega)
        replace B6 := B6.ext e5 (by simp; omega)
        refine L.val rfl rfl (R.as rfl) ?_
        refine L.nil ?_
        refine N.seq ?_
        refine G.seq ?_
        refine G.seq ?_
        refine G.region ?_
        refine L.val rfl rfl (R.mv rfl) ?_
        refine L.val rfl rfl (R.not rfl) ?_
        refine L.nil ?_
        refine N.seq ?_
        refine G.condB rfl (fun h3 => ?_) (fun h3 => ?_)
        · have hcf : (callV v).2 = false := by simpa using h3
          have hf : writeV v sz (i : Int) l = (v1, 10) := by unfold writeV; rw [if_neg ho, if_neg (by omega), if_neg (by simpa using ht), if_neg (by simp [hcf]), hv1]
          refine G.seq ?_
          refine G.region ?_
          refine L.val rfl rfl (R.ldBN rfl B3 rfl) ?_
          refine L.set rfl (R.stN rfl rfl B6 rfl (Nat.le_refl 5) (rdC_one _ _ _)) ?_
          rintro w23 ⟨e23, hs23, B6⟩
          replace B6 : Blk w23 b6 (rdC v1 wa wc) 45 (0, 0) := B6
          replace E := E.news2 e23 (by omega)
          refine L.val rfl rfl (R.as rfl) ?_
          refine L.nil ?_
          refine N.seq ?_
          refine G.retCT rfl rfl rfl (B6) rfl ?_
          first
            | (rw [hf]; exact ⟨_, _, rfl, E, hr2, .inr hfr9⟩)
            | (rw [hf]; exact ⟨wa, wc, rfl, E, hr0.ext0 E, .inl rfl⟩)
            | (rw [hf]; exact ⟨wa, wc, rfl, E, by show RefAt _ v1.wt wa; rw [hcs.2]; exact hr0.ext0 E, .inl rfl⟩)
        · have hcf : (callV v).2 = true := by simpa using h3
          have hf : writeV v sz (i : Int) l = (({ v1 with wt := (v1.wt ++ secsF i l (dn l)) } : DevV), 0) := by unfold writeV; rw [if_neg ho, if_neg (by omega), if_neg (by simpa using ht), if_pos hcf, hv1]; rfl
          have hr := hr0.ext0 E
          rw [← hcs.2] at hr
          refine G.skip ?_
          refine N.seq ?_
          refine G.seq ?_
          refine G.region ?_
          refine L.do rfl rfl (R.buildA rfl rfl rfl rfl rfl) ?_
          rintro _ w6 ⟨b35, rfl, hb35, hs35, e6, B35⟩
          have o0 : Own w6 106 2 (some ⟨b35, 0, none⟩) 0 0 (rwsC []) [b35] := Own.blk (n := 0) (size := 2) B35 (by simp) (by simp [maxLen])
          have hE6 := E.size
          have l3 := B3.lt
          have l6 := B6.lt
          replace E := E.trans0 e6
          replace B3 := B3.ext0 e6
          replace B6 := B6.ext0 e6
          replace hr := hr.ext0 e6
          refine L.val rfl rfl (R.fld rfl) ?_
          refine L.val rfl rfl (R.ldB rfl B3 rfl) ?_
          refine L.do rfl rfl (R.app rfl rfl o0 hr.1.cells (by show (rwsC v1.wt).length = _; rw [rwsC_length]) (rwsC_one v1.wt) (by simp [maxLen]; omega) (by omega)) ?_
          rintro _ w7 ⟨a9, c9, M9, rfl, e7, hM9, o9⟩
          have hs6 := e6.size
          replace E := E.news2 e7 (by omega)
          replace B3 := B3.ext e7 (by simp; omega)
          replace B6 := B6.ext e7 (by simp; omega)
          have hM9b : ∀ g ∈ M9, w.heap.size ≤ g ∧ g ≠ b3 ∧ g ≠ b6 := fun g hg => (hM9 g hg).elim (fun h => by rw [List.mem_singleton.1 h]; omega) (fun h => by omega)
          refine L.be 38 rfl (show _ = Value.slice a9 (v1.wt ++ secsF i l 0).length c9 by simp [secsF]) ?_
          refine L.val rfl rfl (R.as rfl) ?_
          refine L.nil ?_
          refine N.seq ?_
          refine G.seq ?_
          refine G.seq ?_
          refine G.region ?_
          refine L.val rfl rfl (R.as rfl) ?_
          refine L.nil ?_
          refine N.seq ?_
          refine G.block ?_
          replace B6 : ∃ cs6 : Array Value, Blk _ b6 cs6 45 (0, 0) ∧ cs6.size = 5 := ⟨_, B6, rfl⟩
          obtain ⟨cs6, B6, hcz6⟩ := B6
          refine G.loop (X := RwSt) (fun s => [(1, .int .i64 (i : Int)), (2, .slice ba bn bc), (3, .pointer (some ⟨b3, 0, none⟩)), (6, .pointer (some ⟨b6, 0, none⟩)), (9, .slice s.a9 (v1.wt ++ secsF i l s.k).length s.c9), (10, .int .i64 (s.k : Int))]) (fun s w' => s.k ≤ dn l ∧ Blk w' b3 (rdC v1 wa wc) 45 (0, 0) ∧ Blk w' b6 cs6 45 (0, 0) ∧ Own w' 106 2 s.a9 (v1.wt ++ secsF i l s.k).length s.c9 (rwsC (v1.wt ++ secsF i l s.k)) s.M ∧ (∀ g ∈ s.M, w.heap.size ≤ g ∧ g ≠ b3 ∧ g ≠ b6) ∧ Ext [] w w') (fun s => dn l - s.k) (⟨0, a9, c9, M9⟩) (Sub.cons rfl (Sub.cons rfl (Sub.cons rfl (Sub.cons rfl (Sub.cons rfl (Sub.cons rfl (Sub.nil _))))))) ⟨Nat.zero_le _, B3, B6, by simpa [secsF, rwsC] using o9, hM9b, E⟩ ?_
          rintro ⟨k, a9, c9, M9⟩ w8 ⟨hk, B3, B6, o9, hM9b, E⟩
          dsimp only at hk o9 hM9b
          refine G.sub [(1, .int .i64 (i : Int)), (2, .slice ba bn bc), (3, .pointer (some ⟨b3, 0, none⟩)), (6, .pointer (some ⟨b6, 0, none⟩)), (9, .slice a9 (v1.wt ++ secsF i l k).length c9), (10, .int .i64 (k : Int))] (Sub.cons rfl (Sub.cons rfl (Sub.cons rfl (Sub.cons rfl (Sub.cons rfl (Sub.cons rfl (Sub.nil _))))))) ?_
          have hb := hb0.ext0 E
          have hkl : (v1.wt ++ secsF i l k).length = v1.wt.length + k := by rw [List.length_append, secsF_length]
          refine G.seq ?_
          refine G.seq ?_
          refine G.region ?_
          refine L.val rfl rfl (R.mv rfl) ?_
          refine L.val rfl rfl (R.mv rfl) ?_
          refine L.val rfl rfl (R.lenS rfl) ?_
          refine L.val rfl rfl (R.quo rfl rfl (by omega) (by omega)) ?_
          refine L.be 42 rfl (show _ = Value.int .i64 (dn l : Int) by congr 1; omega) ?_
          refine L.val rfl rfl (R.lss rfl rfl) ?_
          refine L.nil ?_
          refine N.seq ?_
          refine G.condP rfl (fun h4 => ?_) (fun h4 => ?_)
          · have hk2 : k < dn l := by omega
            have hbs := hb.sub (64 * k) bc 64 (by omega) (by omega)
            rw [show (l.drop (64 * k)).take 64 = blk l k from rfl] at hbs
            refine G.skip ?_
            refine N.seq ?_
            refine G.seq ?_
            refine G.block ?_
            refine G.region ?_
            refine L.val rfl rfl (R.mv rfl) ?_
            refine L.val rfl rfl (R.mv rfl) ?_
            refine L.val rfl rfl (R.mv rfl) ?_
            refine L.val rfl rfl (R.add rfl rfl (by omega)) ?_
            refine L.val rfl rfl (R.mv rfl) ?_
            refine L.val rfl rfl (R.mv rfl) ?_
            refine L.val rfl rfl (R.mul rfl rfl (by omega)) ?_
            refine L.val rfl rfl (R.mv rfl) ?_
            refine L.val rfl rfl (R.mul rfl rfl (by omega)) ?_
            refine L.val rfl rfl (R.add rfl rfl (by omega)) ?_
            refine L.val rfl rfl (R.slLH rfl rfl rfl (by omega) (by omega) (by omega)) ?_
            refine L.be 56 rfl (show _ = Value.slice (subA ba (64 * k) bc 1) 64 (bc - 64 * k) by rw [show (64 * (k : Int)).toNat = 64 * k by omega, show (64 * (k : Int) + 64).toNat - 64 * k = 64 by omega]) ?_
            refine L.val rfl rfl (R.bytesStr rfl hbs.cells (blk_length hk2).symm) ?_
            refine L.val rfl rfl (R.build (cs := (rwC (i + k, blk l k)).toArray) rfl rfl) ?_
            refine L.do rfl rfl (R.buildA rfl rfl rfl rfl rfl) ?_
            rintro _ w9 ⟨b59, rfl, hb59, hs59, e9, B59⟩
            have hE8 := E.size
            replace E := E.trans0 e9
            replace B3 := B3.ext0 e9
            replace B6 := B6.ext0 e9
            replace o9 := o9.ext0 e9
            refine L.do rfl rfl (R.app rfl rfl o9 (Cells.of_blk B59 0 (rwC (i + k, blk l k)) (fun j v hj => by rw [Nat.zero_add]; simpa [cellsOf, Value.cells, rwC] using hj)) rfl (rwC_one _) (by simp only [maxLen]; omega) (by omega)) ?_
            rintro _ w10 ⟨a60, c60, M60, rfl, e10, hM60, o60⟩
            have hs8 := e9.size
            have l3 := B3.lt
            have l6 := B6.lt
            replace B3 := B3.ext e10 (fun h => (hM9b _ h).2.1 rfl)
            replace B6 := B6.ext e10 (fun h => (hM9b _ h).2.2 rfl)
            replace E : Ext [] w w10 := E.trans e10 (by simp) (fun g hg => .inr (hM9b g hg).1)
            have hM60b : ∀ g ∈ M60, w.heap.size ≤ g ∧ g ≠ b3 ∧ g ≠ b6 := fun g hg => (hM60 g hg).elim (hM9b g) (fun h => ⟨by omega, by omega, by omega⟩)
            have hk1 : (v1.wt ++ secsF i l (k + 1)).length = (v1.wt ++ secsF i l k).length + 1 := by rw [secsF_succ, ← List.append_assoc, List.length_append]; rfl
            replace o60 : Own w10 106 2 a60 (v1.wt ++ secsF i l (k + 1)).length c60 (rwsC (v1.wt ++ secsF i l (k + 1))) M60 := by rw [hk1, secsF_succ, ← List.append_assoc, rwsC_append (v1.wt ++ secsF i l k)]; exact o60
            refine L.be 60 rfl (show _ = Value.slice a60 (v1.wt ++ secsF i l (k + 1)).length c60 by rw [hk1]) ?_
            refine L.val rfl rfl (R.as rfl) ?_
            refine L.nil ?_
            refine N.block ?_
            refine N.seq ?_
            refine G.region ?_
            refine L.val rfl rfl (R.mv rfl) ?_
            refine L.val rfl rfl (R.add rfl rfl (by omega)) ?_
            refine L.val rfl rfl (R.as rfl) ?_
            refine L.nil ?_
            exact N.again (X := RwSt) ⟨k + 1, a60, c60, M60⟩ (by show dn l - (k + 1) < dn l - k; omega) (Sub.cons rfl (Sub.cons rfl (Sub.cons rfl (Sub.cons rfl (Sub.cons rfl (Sub.cons rfl (Sub.nil _))))))) ⟨by show k + 1 ≤ dn l; omega, B3, B6, o60, hM60b, E⟩
          · obtain rfl : k = dn l := by omega
            have hr2 := RefAt.of o9 rfl
            have hfr9 : ∀ p, a9 = some p → w.heap.size ≤ p.block := fun p hp => (hM9b _ (o9.mem p hp).1).1
            have hE8 := E.size
            have l3 := B3.lt
            have l6 := B6.lt
            refine G.exit _ rfl ?_
            refine N.seq ?_
            refine G.seq ?_
            refine G.region ?_
            refine L.val rfl rfl (R.mv rfl) ?_
            refine L.val rfl rfl (R.fld rfl) ?_
            refine L.set rfl (R.st rfl rfl B3 (by show 1 < 5; decide) rfl) ?_
            rintro w11 ⟨e11, hs11, B3n⟩
            replace hr2 := hr2.ext e11 (by intro g hg cs hc; rw [List.mem_singleton.1 hg] at hc; exact B3.ne hc (by decide) rfl)
            replace B3 : Blk w11 b3 (rdC ({ v1 with wt := (v1.wt ++ secsF i l (dn l)) } : DevV) a9 c9) 45 (0, 0) := B3n
            replace E := E.news2 e11 (by omega)
            replace B6 := B6.ext e11 (by simp; omega)
            refine L.nil ?_
            refine N.seq ?_
            refine G.seq ?_
            refine G.region ?_
            refine L.val rfl rfl (R.ldBN rfl B3 rfl) ?_
            refine L.set rfl (R.stN rfl rfl B6 rfl (by rw [hcz6]; exact Nat.le_refl 5) (rdC_one _ _ _)) ?_
            rintro w12 ⟨e12, hs12, B6n⟩
            replace hr2 := hr2.ext e12 (by intro g hg cs hc; rw [List.mem_singleton.1 hg] at hc; exact B6.ne hc (by decide) rfl)
            rw [all_stored (by rw [hcz6]; rfl)] at B6n
            replace B6 : Blk w12 b6 (rdC ({ v1 with wt := (v1.wt ++ secsF i l (dn l)) } : DevV) a9 c9) 45 (0, 0) := B6n
            replace E := E.news2 e12 (by omega)
            refine L.val rfl rfl (R.as rfl) ?_
            refine L.nil ?_
            refine N.seq ?_
            refine G.retCT rfl rfl rfl (B6) rfl ?_
            first
              | (rw [hf]; exact ⟨_, _, rfl, E, hr2, .inr hfr9⟩)
              | (rw [hf]; exact ⟨wa, wc, rfl, E, hr0.ext0 E, .inl rfl⟩)
              | (rw [hf]; exact ⟨wa, wc, rfl, E, by show RefAt _ v1.wt wa; rw [hcs.2]; exact hr0.ext0 E, .inl rfl⟩)

end Go.Proofs.Ytmbppidafnakhaa
/-
  The walks of package dev.
-/
set_option linter.unusedVariables false
set_option linter.unusedSimpArgs false
namespace Go.Proofs.Ytmbppidafnakhaa
open Go Brv Brv.Image Brv.Dev
def waitC (x : Nat × List UInt8) : List Value := .int .i64 (x.1 : Int) :: vbs x.2
theorem waitC_length {x : Nat × List UInt8} (h : x.2.length = 64) : (waitC x).length = 65 := by simp [waitC, vbs_length, h]
theorem waitC_one (x : Nat × List UInt8) : ∀ u ∈ waitC x, u.oneCell' = true := by
  intro u hu
  rcases List.mem_cons.1 hu with rfl | hu
  · rfl
  · exact vbs_one _ u hu
def waitsC (wt : List (Nat × List UInt8)) : List Value := (wt.map waitC).flatten
theorem waitsC_append (a b : List (Nat × List UInt8)) : waitsC (a ++ b) = waitsC a ++ waitsC b := by simp [waitsC]
structure DevL (w : World) (d : Nat) (v : DevV) (sz : Nat) (sa : Option Addr) (sc : Nat) (wa : Option Addr) (wc : Nat) (Ms Mw : List Nat) : Prop where
  hd : Blk w d #[.slice sa v.stay.length sc, .slice wa v.wt.length wc, .int .i64 v.calls, .int .i64 v.left, .bool v.off] 71 (0, 0)
  wf : v.Wf sz
  hN : 1 ≤ sz ∧ sz ≤ 4096
  st : Own w 5 1 sa v.stay.length sc (vbs v.stay) Ms
  wt : Own w 96 65 wa v.wt.length wc (waitsC v.wt) Mw
theorem DevL.ext {w w' : World} {d : Nat} {v : DevV} {sz : Nat} {sa : Option Addr} {sc : Nat} {wa : Option Addr} {wc : Nat} {Ms Mw M : List Nat} (h : DevL w d v sz sa sc wa wc Ms Mw) (he : Ext M w w') (hM : ∀ y ∈ d :: (Ms ++ Mw), y ∉ M) : DevL w' d v sz sa sc wa wc Ms Mw :=
  ⟨h.hd.ext he (hM d (by simp)), h.wf, h.hN, h.st.ext he (fun g hg => hM g (by simp [hg])), h.wt.ext he (fun g hg => hM g (by simp [hg]))⟩
theorem DevL.ext0 {w w' : World} {d : Nat} {v : DevV} {sz : Nat} {sa : Option Addr} {sc : Nat} {wa : Option Addr} {wc : Nat} {Ms Mw : List Nat} (h : DevL w d v sz sa sc wa wc Ms Mw) (he : Ext [] w w') : DevL w' d v sz sa sc wa wc Ms Mw := h.ext he (by simp)
theorem DevL.tab {w : World} {d : Nat} {v : DevV} {sz : Nat} {sa : Option Addr} {sc : Nat} {wa : Option Addr} {wc : Nat} {Ms Mw : List Nat} (h : DevL w d v sz sa sc wa wc Ms Mw) : Tab w wa v.wt.length 65 (v.wt.map waitC) :=
  ⟨h.wt.cells, by rw [List.length_map], fun vs hv => by obtain ⟨x, hx, rfl⟩ := List.mem_map.1 hv; exact waitC_length (h.wf.wt x hx).2⟩
theorem DevL.lt {w : World} {d : Nat} {v : DevV} {sz : Nat} {sa : Option Addr} {sc : Nat} {wa : Option Addr} {wc : Nat} {Ms Mw : List Nat} (h : DevL w d v sz sa sc wa wc Ms Mw) : ∀ y ∈ d :: (Ms ++ Mw), y < w.heap.size := by
  intro y hy
  rcases List.mem_cons.1 hy with rfl | hy
  · exact h.hd.lt
  · exact (List.mem_append.1 hy).elim (h.st.lt y) (h.wt.lt y)
theorem DevL.apart {w : World} {d : Nat} {v : DevV} {sz : Nat} {sa : Option Addr} {sc : Nat} {wa : Option Addr} {wc : Nat} {Ms Mw : List Nat} (h : DevL w d v sz sa sc wa wc Ms Mw) : d ∉ Ms ∧ d ∉ Mw ∧ (∀ g ∈ Ms, g ∉ Mw) :=
  ⟨fun hm => by obtain ⟨_, hb⟩ := h.st.typ d hm; exact h.hd.ne hb (by decide) rfl, fun hm => by obtain ⟨_, hb⟩ := h.wt.typ d hm; exact h.hd.ne hb (by decide) rfl,
    fun g hg hm => by obtain ⟨_, hb⟩ := h.st.typ g hg; obtain ⟨_, hb2⟩ := h.wt.typ g hm; exact hb.ne hb2 (by decide) rfl⟩
/-- A device at d; its blocks. -/
def DevAt (w : World) (d : Nat) (v : DevV) (sz : Nat) (S : List Nat) : Prop := ∃ sa sc wa wc Ms Mw, DevL w d v sz sa sc wa wc Ms Mw ∧ S = d :: (Ms ++ Mw)
theorem DevAt.ext {w w' : World} {d : Nat} {v : DevV} {sz : Nat} {S M : List Nat} (h : DevAt w d v sz S) (he : Ext M w w') (hM : ∀ y ∈ S, y ∉ M) : DevAt w' d v sz S := by
  obtain ⟨sa, sc, wa, wc, Ms, Mw, D, rfl⟩ := h
  exact ⟨sa, sc, wa, wc, Ms, Mw, D.ext he hM, rfl⟩
theorem DevAt.ext0 {w w' : World} {d : Nat} {v : DevV} {sz : Nat} {S : List Nat} (h : DevAt w d v sz S) (he : Ext [] w w') : DevAt w' d v sz S := h.ext he (by simp)
theorem DevAt.lt {w : World} {d : Nat} {v : DevV} {sz : Nat} {S : List Nat} (h : DevAt w d v sz S) : ∀ y ∈ S, y < w.heap.size := by
  obtain ⟨sa, sc, wa, wc, Ms, Mw, D, rfl⟩ := h
  exact D.lt
theorem DevAt.wf {w : World} {d : Nat} {v : DevV} {sz : Nat} {S : List Nat} (h : DevAt w d v sz S) : v.Wf sz ∧ 1 ≤ sz ∧ sz ≤ 4096 := by
  obtain ⟨sa, sc, wa, wc, Ms, Mw, D, rfl⟩ := h
  exact ⟨D.wf, D.hN⟩

theorem dnew_ok (n : Nat) (w : World) (h1 : 1 ≤ n) (h2 : n ≤ 4096) : Meets Try.prog 7 [.int .i64 (n : Int)] w (fun v w' => ∃ d S, v = .tuple #[ptr d, .int .i64 0] ∧ Ext [] w w' ∧ DevAt w' d (newV n) n S ∧ ∀ g ∈ S, w.heap.size ≤ g) := by
  refine Meets.enter Try.func7 rfl 15 rfl (Nat.le_of_ble_eq_true rfl) ?_
  have E := Ext.refl [] w
  refine G.seq ?_
  refine G.region ?_
  refine L.val rfl rfl (R.as rfl) ?_
  refine L.val rfl rfl (R.as rfl) ?_
  refine L.nil ?_
  refine N.seq ?_
  refine G.seq ?_
  refine G.seq ?_
  refine G.region ?_
  refine L.val rfl rfl (R.mv rfl) ?_
  refine L.val rfl rfl (R.lss rfl rfl) ?_
  refine L.val rfl rfl (R.mv rfl) ?_
  refine L.caseP 6 rfl (fun hg1_2 => ?_) (fun hg1_2 => ?_)
  · exfalso; omega
  · refine L.val rfl rfl (R.mv rfl) ?_
    refine L.val rfl rfl (R.gtr rfl rfl) ?_
    first | refine L.val rfl rfl (R.pickT rfl rfl) ?_ | refine L.val rfl rfl (R.pickF rfl rfl) ?_
    refine L.nil ?_
    refine N.seq ?_
    refine G.condP rfl (fun h0 => ?_) (fun h0 => ?_)
    · exfalso; omega
    · refine G.skip ?_
      refine N.seq ?_
      refine G.seq ?_
      refine G.region ?_
      refine L.val rfl rfl (R.mv rfl) ?_
      refine L.val rfl rfl (R.mul rfl rfl (by omega)) ?_
      refine L.do rfl rfl (R.make rfl rfl (by omega) (by omega) (by omega) (by omega)) ?_
      rintro _ w1 ⟨b12, rfl, hb12, hs1, e1, B12⟩
      replace E := E.trans0 e1
      obtain ⟨cs, hcs⟩ : ∃ cs : Array Value, cs = madeCells (Value.int .u8 0).cells (((n : Int) * 64).toNat * 1) := ⟨_, rfl⟩
      rw [← hcs] at B12
      have hcl : cs.toList = vbs (List.replicate (64 * n) 0) := by rw [hcs, show ((n : Int) * 64).toNat * 1 = 64 * n by omega]; exact madeCells_bytes _
      have hcz : cs.size = 64 * n := by rw [← Array.length_toList, hcl, vbs_length, List.length_replicate]
      refine L.be 12 rfl (show _ = Value.slice (some ⟨b12, 0, none⟩) (64 * n) (64 * n) by rw [show ((n : Int) * 64).toNat = 64 * n by omega]) ?_
      refine L.val rfl rfl (R.build (cs := #[.slice (some ⟨b12, 0, none⟩) (64 * n) (64 * n), .slice none 0 0, .int .i64 0, .int .i64 (-1), .bool false]) rfl rfl) ?_
      refine L.do rfl rfl (R.box rfl) ?_
      rintro _ w2 ⟨d, rfl, hd, hs2, e2, B2⟩
      replace E := E.trans0 e2
      have o1 := Own.blk (n := 64 * n) (size := 1) (B12.ext0 e2) (by omega) (by simp [maxLen]; omega)
      rw [hcl] at o1
      refine L.val rfl rfl (R.as rfl) ?_
      refine L.val rfl rfl (R.as rfl) ?_
      refine L.nil ?_
      refine N.seq ?_
      refine G.ret2 rfl rfl rfl ?_
      exact ⟨d, _, rfl, E, ⟨some ⟨b12, 0, none⟩, 64 * n, none, 0, [b12], [], ⟨by simpa [newV, Value.cells] using B2, newV_wf n, ⟨h1, h2⟩, by simpa [newV] using o1, Own.nil _ _ _⟩, rfl⟩, by intro g hg; simp at hg; omega⟩

theorem dsize_ok (d : Nat) (v : DevV) (sz : Nat) (S : List Nat) (w : World) (hd : DevAt w d v sz S) : Meets Try.prog 27 [.pointer (some ⟨d, 0, none⟩)] w (fun r w' => r = .int .i64 (sz : Int) ∧ w' = w) := by
  refine Meets.enter Try.func27 rfl 11 rfl (Nat.le_of_ble_eq_true rfl) ?_
  obtain ⟨sa, sc, wa, wc, Ms, Mw, D, rfl⟩ := hd
  have hl := D.wf.len
  have hN := D.hN
  refine G.seq ?_
  refine G.region ?_
  refine L.val rfl rfl (R.as rfl) ?_
  refine L.nil ?_
  refine N.seq ?_
  refine G.seq ?_
  refine G.seq ?_
  refine G.region ?_
  refine L.val rfl rfl (R.mv rfl) ?_
  refine L.val rfl rfl (R.eqNilP rfl rfl) ?_
  refine L.nil ?_
  refine N.seq ?_
  refine G.condF rfl ?_
  refine G.skip ?_
  refine N.seq ?_
  refine G.seq ?_
  refine G.region ?_
  refine L.val rfl rfl (R.mv rfl) ?_
  refine L.val rfl rfl (R.nilChk rfl) ?_
  refine L.val rfl rfl (R.fld rfl) ?_
  refine L.val rfl rfl (R.ldB rfl D.hd rfl) ?_
  refine L.val rfl rfl (R.lenS rfl) ?_
  refine L.val rfl rfl (R.quo rfl rfl (by omega) (by omega)) ?_
  refine L.be 10 rfl (show _ = Value.int .i64 (sz : Int) by congr 1; omega) ?_
  refine L.val rfl rfl (R.as rfl) ?_
  refine L.nil ?_
  refine N.seq ?_
  refine G.ret1 rfl rfl ?_
  exact ⟨rfl, rfl⟩

theorem dthere_ok (d : Nat) (v : DevV) (sz : Nat) (S : List Nat) (p n : Int) (w : World) (hd : DevAt w d v sz S) : Meets Try.prog 51 [.pointer (some ⟨d, 0, none⟩), .int .i64 p, .int .i64 n] w (fun r w' => r = .bool (decide (thereP sz p n)) ∧ w' = w) := by
  refine Meets.enter Try.func51 rfl 27 rfl (Nat.le_of_ble_eq_true rfl) ?_
  have hN := hd.wf.2
  refine G.seq ?_
  refine G.region ?_
  refine L.val rfl rfl (R.as rfl) ?_
  refine L.nil ?_
  refine N.seq ?_
  refine G.seq ?_
  refine G.region ?_
  refine L.val rfl rfl (R.mv rfl) ?_
  refine L.val rfl rfl (R.geq rfl rfl) ?_
  refine L.val rfl rfl (R.mv rfl) ?_
  refine L.caseP 9 rfl (fun hg1_2 => ?_) (fun hg1_2 => ?_)
  · refine L.val rfl rfl (R.mv rfl) ?_
    refine L.val rfl rfl (R.geq rfl rfl) ?_
    first | refine L.val rfl rfl (R.pickT rfl rfl) ?_ | refine L.val rfl rfl (R.pickF rfl rfl) ?_
    refine L.val rfl rfl (R.mv rfl) ?_
    refine L.caseP 13 rfl (fun hg1_6 => ?_) (fun hg1_6 => ?_)
    · refine L.val rfl rfl (R.mv rfl) ?_
      refine L.val rfl rfl (R.mv rfl) ?_
      refine L.callF rfl rfl rfl go27 (dsize_ok d v sz S _ hd) ?_
      rintro _ _ ⟨rfl, hw⟩
      obtain rfl := hw.symm
      refine L.val rfl rfl (R.leq rfl rfl) ?_
      first | refine L.val rfl rfl (R.pickT rfl rfl) ?_ | refine L.val rfl rfl (R.pickF rfl rfl) ?_
      refine L.val rfl rfl (R.mv rfl) ?_
      refine L.caseP 19 rfl (fun hg1_12 => ?_) (fun hg1_12 => ?_)
      · refine L.val rfl rfl (R.mv rfl) ?_
        refine L.val rfl rfl (R.mv rfl) ?_
        refine L.callF rfl rfl rfl go27 (dsize_ok d v sz S _ hd) ?_
        rintro _ _ ⟨rfl, hw⟩
        obtain rfl := hw.symm
        refine L.val rfl rfl (R.mv rfl) ?_
        refine L.val rfl rfl (R.sub' rfl rfl (by omega)) ?_
        refine L.val rfl rfl (R.leq rfl rfl) ?_
        first | refine L.val rfl rfl (R.pickT rfl rfl) ?_ | refine L.val rfl rfl (R.pickF rfl rfl) ?_
        refine L.val rfl rfl (R.as rfl) ?_
        refine L.nil ?_
        refine N.seq ?_
        refine G.ret1 rfl rfl ?_
        first | exact ⟨congrArg Value.bool (decide_eq_decide.2 (by unfold thereP; omega)), rfl⟩ | exact ⟨congrArg Value.bool (decide_eq_false (by unfold thereP; omega)).symm, rfl⟩
      · refine L.pass rfl rfl ?_
        refine L.pass rfl rfl ?_
        refine L.pass rfl rfl ?_
        refine L.pass rfl rfl ?_
        refine L.pass rfl rfl ?_
        refine L.pass rfl rfl ?_
        first | refine L.val rfl rfl (R.pickT rfl rfl) ?_ | refine L.val rfl rfl (R.pickF rfl rfl) ?_
        refine L.val rfl rfl (R.as rfl) ?_
        refine L.nil ?_
        refine N.seq ?_
        refine G.ret1 rfl rfl ?_
        first | exact ⟨congrArg Value.bool (decide_eq_decide.2 (by unfold thereP; omega)), rfl⟩ | exact ⟨congrArg Value.bool (decide_eq_false (by unfold thereP; omega)).symm, rfl⟩
    · refine L.pass rfl rfl ?_
      refine L.pass rfl rfl ?_
      refine L.pass rfl rfl ?_
      refine L.pass rfl rfl ?_
      first | refine L.val rfl rfl (R.pickT rfl rfl) ?_ | refine L.val rfl rfl (R.pickF rfl rfl) ?_
      refine L.val rfl rfl (R.mv rfl) ?_
      refine L.pass rfl rfl ?_
      refine L.pass rfl rfl ?_
      refine L.pass rfl rfl ?_
      refine L.pass rfl rfl ?_
      refine L.pass rfl rfl ?_
      refine L.pass rfl rfl ?_
      first | refine L.val rfl rfl (R.pickT rfl rfl) ?_ | refine L.val rfl rfl (R.pickF rfl rfl) ?_
      refine L.val rfl rfl (R.as rfl) ?_
      refine L.nil ?_
      refine N.seq ?_
      refine G.ret1 rfl rfl ?_
      first | exact ⟨congrArg Value.bool (decide_eq_decide.2 (by unfold thereP; omega)), rfl⟩ | exact ⟨congrArg Value.bool (decide_eq_false (by unfold thereP; omega)).symm, rfl⟩
  · refine L.pass rfl rfl ?_
    refine L.pass rfl rfl ?_
    first | refine L.val rfl rfl (R.pickT rfl rfl) ?_ | refine L.val rfl rfl (R.pickF rfl rfl) ?_
    refine L.val rfl rfl (R.mv rfl) ?_
    refine L.pass rfl rfl ?_
    refine L.pass rfl rfl ?_
    refine L.pass rfl rfl ?_
    refine L.pass rfl rfl ?_
    first | refine L.val rfl rfl (R.pickT rfl rfl) ?_ | refine L.val rfl rfl (R.pickF rfl rfl) ?_
    refine L.val rfl rfl (R.mv rfl) ?_
    refine L.pass rfl rfl ?_
    refine L.pass rfl rfl ?_
    refine L.pass rfl rfl ?_
    refine L.pass rfl rfl ?_
    refine L.pass rfl rfl ?_
    refine L.pass rfl rfl ?_
    first | refine L.val rfl rfl (R.pickT rfl rfl) ?_ | refine L.val rfl rfl (R.pickF rfl rfl) ?_
    refine L.val rfl rfl (R.as rfl) ?_
    refine L.nil ?_
    refine N.seq ?_
    refine G.ret1 rfl rfl ?_
    first | exact ⟨congrArg Value.bool (decide_eq_decide.2 (by unfold thereP; omega)), rfl⟩ | exact ⟨congrArg Value.bool (decide_eq_false (by unfold thereP; omega)).symm, rfl⟩

theorem dable_ok (d : Nat) (v : DevV) (sz : Nat) (S : List Nat) (w : World) (hd : DevAt w d v sz S) : Meets Try.prog 50 [.pointer (some ⟨d, 0, none⟩)] w (fun r w' => r = .int .i64 (if v.off then 10 else 0) ∧ w' = w) := by
  refine Meets.enter Try.func50 rfl 11 rfl (Nat.le_of_ble_eq_true rfl) ?_
  obtain ⟨sa, sc, wa, wc, Ms, Mw, D, rfl⟩ := hd
  refine G.seq ?_
  refine G.region ?_
  refine L.val rfl rfl (R.as rfl) ?_
  refine L.nil ?_
  refine N.seq ?_
  refine G.seq ?_
  refine G.block ?_
  refine G.seq ?_
  refine G.region ?_
  refine L.val rfl rfl (R.mv rfl) ?_
  refine L.val rfl rfl (R.eqNilP rfl rfl) ?_
  refine L.val rfl rfl (R.as rfl) ?_
  refine L.nil ?_
  refine N.seq ?_
  refine G.condF rfl ?_
  refine G.seq ?_
  refine G.region ?_
  refine L.val rfl rfl (R.mv rfl) ?_
  refine L.val rfl rfl (R.nilChk rfl) ?_
  refine L.val rfl rfl (R.fld rfl) ?_
  refine L.val rfl rfl (R.ldB rfl D.hd rfl) ?_
  refine L.val rfl rfl (R.as rfl) ?_
  refine L.nil ?_
  refine N.seq ?_
  refine G.condB rfl (fun h1 => ?_) (fun h1 => ?_)
  · refine G.seq ?_
    refine G.region ?_
    refine L.val rfl rfl (R.as rfl) ?_
    refine L.nil ?_
    refine N.seq ?_
    refine G.ret1 rfl rfl ?_
    exact ⟨by rw [if_pos h1], rfl⟩
  · refine G.skip ?_
    refine N.block ?_
    refine N.seq ?_
    refine G.seq ?_
    refine G.region ?_
    refine L.val rfl rfl (R.as rfl) ?_
    refine L.nil ?_
    refine N.seq ?_
    refine G.ret1 rfl rfl ?_
    exact ⟨by rw [if_neg (by simp [h1])], rfl⟩

theorem dimage_ok (d : Nat) (v : DevV) (sz : Nat) (S : List Nat) (w : World) (hd : DevAt w d v sz S) : Meets Try.prog 14 [.pointer (some ⟨d, 0, none⟩)] w (Cloned w 5 1 v.stay.length (vbs v.stay)) := by
  refine Meets.enter Try.func14 rfl 10 rfl (Nat.le_of_ble_eq_true rfl) ?_
  obtain ⟨sa, sc, wa, wc, Ms, Mw, D, rfl⟩ := hd
  have hl := D.wf.len
  have hN := D.hN
  refine G.seq ?_
  refine G.region ?_
  refine L.val rfl rfl (R.as rfl) ?_
  refine L.nil ?_
  refine N.seq ?_
  refine G.seq ?_
  refine G.seq ?_
  refine G.region ?_
  refine L.val rfl rfl (R.mv rfl) ?_
  refine L.val rfl rfl (R.eqNilP rfl rfl) ?_
  refine L.nil ?_
  refine N.seq ?_
  refine G.condF rfl ?_
  refine G.skip ?_
  refine N.seq ?_
  refine G.seq ?_
  refine G.region ?_
  refine L.val rfl rfl (R.mv rfl) ?_
  refine L.val rfl rfl (R.nilChk rfl) ?_
  refine L.val rfl rfl (R.fld rfl) ?_
  refine L.val rfl rfl (R.ldB rfl D.hd rfl) ?_
  refine L.callF rfl rfl rfl go39 (clone_ok _ _ _ _ _ (Bs.of_own D.st) (by omega)) ?_
  rintro _ w1 h1
  refine L.val rfl rfl (R.as rfl) ?_
  refine L.nil ?_
  refine N.seq ?_
  refine G.ret1 rfl rfl ?_
  exact h1

end Go.Proofs.Ytmbppidafnakhaa
/-
  The walks of package dev.
-/
set_option linter.unusedVariables false
set_option linter.unusedSimpArgs false
namespace Go.Proofs.Ytmbppidafnakhaa
open Go Brv Brv.Image Brv.Dev
theorem DevL.fld {w w' : World} {d : Nat} {v v' : DevV} {sz : Nat} {sa : Option Addr} {sc : Nat} {wa : Option Addr} {wc : Nat} {Ms Mw : List Nat} (h : DevL w d v sz sa sc wa wc Ms Mw) (he : Ext [d] w w') (hb : Blk w' d #[.slice sa v'.stay.length sc, .slice wa v'.wt.length wc, .int .i64 v'.calls, .int .i64 v'.left, .bool v'.off] 71 (0, 0)) (hs : v'.stay = v.stay) (hw : v'.wt = v.wt) (wf : v'.Wf sz) : DevL w' d v' sz sa sc wa wc Ms Mw := by
  obtain ⟨h1, h2, _⟩ := h.apart
  exact ⟨hb, wf, h.hN, by rw [hs]; exact h.st.ext he (fun g hg hm => by rw [List.mem_singleton.1 hm] at hg; exact h1 hg), by rw [hw]; exact h.wt.ext he (fun g hg hm => by rw [List.mem_singleton.1 hm] at hg; exact h2 hg)⟩
theorem DevL.lay {w w' : World} {d : Nat} {v : DevV} {sz : Nat} {sa : Option Addr} {sc : Nat} {wa : Option Addr} {wc : Nat} {Ms Mw : List Nat} {s : List UInt8} (h : DevL w d v sz sa sc wa wc Ms Mw) (he : Ext Ms w w') (ho : Own w' 5 1 sa v.stay.length sc (vbs s) Ms) (hs : s.length = v.stay.length) : DevL w' d { v with stay := s } sz sa sc wa wc Ms Mw := by
  obtain ⟨h1, h2, h3⟩ := h.apart
  refine ⟨?_, ⟨hs.trans h.wf.len, h.wf.wt, h.wf.left⟩, h.hN, by show Own w' _ 1 sa s.length sc (vbs s) Ms; rw [hs]; exact ho, h.wt.ext he (fun g hg hm => h3 g hm hg)⟩
  have hb := h.hd.ext he h1
  show Blk w' d #[.slice sa s.length sc, .slice wa v.wt.length wc, .int .i64 v.calls, .int .i64 v.left, .bool v.off] 71 (0, 0)
  rw [hs]
  exact hb

theorem dcallL_ok (d : Nat) (v : DevV) (sz : Nat) (sa : Option Addr) (sc : Nat) (wa : Option Addr) (wc : Nat) (Ms Mw : List Nat) (w : World) (D : DevL w d v sz sa sc wa wc Ms Mw) (hcb : 0 ≤ v.calls ∧ v.calls ≤ 1000000000) : Meets Try.prog 52 [.pointer (some ⟨d, 0, none⟩)] w (fun r w' => r = .bool (callV v).2 ∧ Ext [d] w w' ∧ DevL w' d (callV v).1 sz sa sc wa wc Ms Mw) := by
  refine Meets.enter Try.func52 rfl 30 rfl (Nat.le_of_ble_eq_true rfl) ?_
  have hlf := D.wf.left
  refine G.seq ?_
  refine G.region ?_
  refine L.val rfl rfl (R.as rfl) ?_
  refine L.nil ?_
  refine N.seq ?_
  refine G.seq ?_
  refine G.seq ?_
  refine G.region ?_
  refine L.val rfl rfl (R.mv rfl) ?_
  refine L.val rfl rfl (R.nilChk rfl) ?_
  refine L.val rfl rfl (R.fld rfl) ?_
  refine L.val rfl rfl (R.ldB rfl D.hd rfl) ?_
  refine L.val rfl rfl (R.eqI rfl rfl) ?_
  refine L.nil ?_
  refine N.seq ?_
  refine G.condP rfl (fun h0 => ?_) (fun h0 => ?_)
  · have hcv : callV v = ({ v with off := true }, false) := if_pos h0
    refine G.seq ?_
    refine G.region ?_
    refine L.val rfl rfl (R.mv rfl) ?_
    refine L.val rfl rfl (R.nilChk rfl) ?_
    refine L.val rfl rfl (R.fld rfl) ?_
    refine L.set rfl (R.st rfl rfl D.hd (by show 4 < 5; decide) rfl) ?_
    rintro w1 ⟨e1, hs1, B1⟩
    replace B1 : Blk w1 d #[.slice sa ({ v with off := true } : DevV).stay.length sc, .slice wa ({ v with off := true } : DevV).wt.length wc, .int .i64 ({ v with off := true } : DevV).calls, .int .i64 ({ v with off := true } : DevV).left, .bool ({ v with off := true } : DevV).off] 71 (0, 0) := B1
    refine L.nil ?_
    refine N.seq ?_
    refine G.seq ?_
    refine G.region ?_
    refine L.val rfl rfl (R.as rfl) ?_
    refine L.nil ?_
    refine N.seq ?_
    refine G.ret1 rfl rfl ?_
    first
      | (rw [hcv]; exact ⟨rfl, e1, D.fld e1 B1 rfl rfl ⟨D.wf.len, D.wf.wt, D.wf.left⟩⟩)
      | (rw [hcv]; exact ⟨rfl, e2.trans e3 (by simp) (by simp), D2.fld e3 B3 rfl rfl ⟨D.wf.len, D.wf.wt, by show -1 ≤ v.left - 1 ∧ v.left - 1 ≤ _; omega⟩⟩)
      | (rw [hcv]; exact ⟨rfl, e3, D.fld e3 B3 rfl rfl ⟨D.wf.len, D.wf.wt, D.wf.left⟩⟩)
  · refine G.skip ?_
    refine N.seq ?_
    refine G.seq ?_
    refine G.seq ?_
    refine G.region ?_
    refine L.val rfl rfl (R.mv rfl) ?_
    refine L.val rfl rfl (R.nilChk rfl) ?_
    refine L.val rfl rfl (R.fld rfl) ?_
    refine L.val rfl rfl (R.ldB rfl D.hd rfl) ?_
    refine L.val rfl rfl (R.gtr rfl rfl) ?_
    refine L.nil ?_
    refine N.seq ?_
    refine G.condP rfl (fun h1 => ?_) (fun h1 => ?_)
    · have hcv : callV v = ({ v with left := v.left - 1, calls := v.calls + 1 }, true) := by unfold callV; rw [if_neg h0, if_pos h1]
      refine G.region ?_
      refine L.val rfl rfl (R.mv rfl) ?_
      refine L.val rfl rfl (R.nilChk rfl) ?_
      refine L.val rfl rfl (R.fld rfl) ?_
      refine L.val rfl rfl (R.ldB rfl D.hd rfl) ?_
      refine L.val rfl rfl (R.sub' rfl rfl (by omega)) ?_
      refine L.val rfl rfl (R.nilChk rfl) ?_
      refine L.val rfl rfl (R.fld rfl) ?_
      refine L.set rfl (R.st rfl rfl D.hd (by show 3 < 5; decide) rfl) ?_
      rintro w2 ⟨e2, hs2, B2⟩
      replace B2 : Blk w2 d #[.slice sa ({ v with left := v.left - 1 } : DevV).stay.length sc, .slice wa ({ v with left := v.left - 1 } : DevV).wt.length wc, .int .i64 ({ v with left := v.left - 1 } : DevV).calls, .int .i64 ({ v with left := v.left - 1 } : DevV).left, .bool ({ v with left := v.left - 1 } : DevV).off] 71 (0, 0) := B2
      have D2 := D.fld e2 B2 rfl rfl ⟨D.wf.len, D.wf.wt, by show -1 ≤ v.left - 1 ∧ v.left - 1 ≤ _; omega⟩
      refine L.nil ?_
      refine N.seq ?_
      refine G.seq ?_
      refine G.region ?_
      refine L.val rfl rfl (R.mv rfl) ?_
      refine L.val rfl rfl (R.nilChk rfl) ?_
      refine L.val rfl rfl (R.fld rfl) ?_
      first | refine L.val rfl rfl (R.ldB rfl D2.hd rfl) ?_ | refine L.val rfl rfl (R.ldB rfl D.hd rfl) ?_
      refine L.be 26 rfl (show _ = Value.int .i64 v.calls from rfl) ?_
      refine L.val rfl rfl (R.add rfl rfl (by omega)) ?_
      refine L.val rfl rfl (R.nilChk rfl) ?_
      refine L.val rfl rfl (R.fld rfl) ?_
      refine L.set rfl (R.st rfl rfl D2.hd (by show 2 < 5; decide) rfl) ?_
      rintro w3 ⟨e3, hs3, B3⟩
      refine L.nil ?_
      refine N.seq ?_
      refine G.seq ?_
      refine G.region ?_
      refine L.val rfl rfl (R.as rfl) ?_
      refine L.nil ?_
      refine N.seq ?_
      refine G.ret1 rfl rfl ?_
      first
        | (rw [hcv]; exact ⟨rfl, e1, D.fld e1 B1 rfl rfl ⟨D.wf.len, D.wf.wt, D.wf.left⟩⟩)
        | (rw [hcv]; exact ⟨rfl, e2.trans e3 (by simp) (by simp), D2.fld e3 B3 rfl rfl ⟨D.wf.len, D.wf.wt, by show -1 ≤ v.left - 1 ∧ v.left - 1 ≤ _; omega⟩⟩)
        | (rw [hcv]; exact ⟨rfl, e3, D.fld e3 B3 rfl rfl ⟨D.wf.len, D.wf.wt, D.wf.left⟩⟩)
    · have hcv : callV v = ({ v with left := v.left, calls := v.calls + 1 }, true) := by unfold callV; rw [if_neg h0, if_neg h1]
      refine G.skip ?_
      refine N.seq ?_
      refine G.seq ?_
      refine G.region ?_
      refine L.val rfl rfl (R.mv rfl) ?_
      refine L.val rfl rfl (R.nilChk rfl) ?_
      refine L.val rfl rfl (R.fld rfl) ?_
      first | refine L.val rfl rfl (R.ldB rfl D2.hd rfl) ?_ | refine L.val rfl rfl (R.ldB rfl D.hd rfl) ?_
      refine L.be 26 rfl (show _ = Value.int .i64 v.calls from rfl) ?_
      refine L.val rfl rfl (R.add rfl rfl (by omega)) ?_
      refine L.val rfl rfl (R.nilChk rfl) ?_
      refine L.val rfl rfl (R.fld rfl) ?_
      refine L.set rfl (R.st rfl rfl D.hd (by show 2 < 5; decide) rfl) ?_
      rintro w3 ⟨e3, hs3, B3⟩
      refine L.nil ?_
      refine N.seq ?_
      refine G.seq ?_
      refine G.region ?_
      refine L.val rfl rfl (R.as rfl) ?_
      refine L.nil ?_
      refine N.seq ?_
      refine G.ret1 rfl rfl ?_
      first
        | (rw [hcv]; exact ⟨rfl, e1, D.fld e1 B1 rfl rfl ⟨D.wf.len, D.wf.wt, D.wf.left⟩⟩)
        | (rw [hcv]; exact ⟨rfl, e2.trans e3 (by simp) (by simp), D2.fld e3 B3 rfl rfl ⟨D.wf.len, D.wf.wt, by show -1 ≤ v.left - 1 ∧ v.left - 1 ≤ _; omega⟩⟩)
        | (rw [hcv]; exact ⟨rfl, e3, D.fld e3 B3 rfl rfl ⟨D.wf.len, D.wf.wt, D.wf.left⟩⟩)

theorem settle_ok (d : Nat) (v : DevV) (sz : Nat) (sa : Option Addr) (sc : Nat) (wa : Option Addr) (wc : Nat) (Ms Mw : List Nat) (x : Nat × List UInt8) (w : World) (D : DevL w d v sz sa sc wa wc Ms Mw) (hx : x.1 < sz) (hx64 : x.2.length = 64) : Meets Try.prog 40 [.pointer (some ⟨d, 0, none⟩), .agg (waitC x).toArray] w (fun _ w' => Ext Ms w w' ∧ DevL w' d { v with stay := (laid v.stay x.1 x.2) } sz sa sc wa wc Ms Mw) := by
  refine Meets.enter Try.func40 rfl 15 rfl (Nat.le_of_ble_eq_true rfl) ?_
  have hl := D.wf.len
  have hN := D.hN
  have hvs : (vbs x.2).length = 64 := by rw [vbs_length, hx64]
  have hll := laid_length (x := v.stay) hx64 (by rw [dn_of hl]; exact hx)
  refine G.seq ?_
  refine G.region ?_
  refine L.do rfl rfl (R.box rfl) ?_
  rintro _ w1 ⟨b3, rfl, hb3, hs1, e1, B3⟩
  replace B3 : Blk w1 b3 (waitC x).toArray 96 (0, 0) := B3
  have D0 := D
  replace D := D.ext0 e1
  refine L.nil ?_
  refine N.seq ?_
  obtain ⟨g7, cur7, rfl, rfl, B7, hz7, hO7⟩ := D.st.over (o := 64 * x.1) (cs := vbs x.2) (by rw [hvs]; omega) (by omega)
  refine G.staged [10] [.blocks ([g7])] [fun w' => Ext [] w1 w', fun w' => Ext [g7] w1 w' ∧ Blk w' g7 (Over cur7 (64 * x.1) (vbs x.2)) 5 (0, 0)] [] (by decide +kernel) (by decide +kernel) rfl rfl rfl (fun _ h => h) ?_
  refine Z.val rfl rfl rfl rfl rfl (fun w2 => R.mv rfl) ?_
  refine Z.val rfl rfl rfl rfl rfl (fun w2 => R.nilChk rfl) ?_
  refine Z.val rfl rfl rfl rfl rfl (fun w2 => R.fld rfl) ?_
  refine Z.read 0 (by decide +kernel) rfl rfl rfl rfl rfl rfl (fun w2 hJ => R.ldB rfl (D.hd.ext0 hJ) rfl) ?_
  refine Z.val rfl rfl rfl rfl rfl (fun w2 => R.fld rfl) ?_
  refine Z.read 0 (by decide +kernel) rfl rfl rfl rfl rfl rfl (fun w2 hJ => R.ldB rfl (B3.ext0 hJ) rfl) ?_
  refine Z.val rfl rfl rfl rfl rfl (fun w2 => R.mul rfl rfl (by omega)) ?_
  refine Z.val rfl rfl rfl rfl rfl (fun w2 => R.slL rfl rfl (by omega) (by omega)) ?_
  refine Z.be 11 rfl (show _ = Value.slice (some ⟨g7, 64 * x.1, none⟩) (v.stay.length - 64 * x.1) (sc - 64 * x.1) by rw [show ((x.1 : Int) * 64).toNat = 64 * x.1 by omega, subA_lit (by have := D.st.le; omega), Nat.zero_add, Nat.mul_one]) ?_
  refine Z.val rfl rfl rfl rfl rfl (fun w2 => R.fld rfl) ?_
  refine Z.val rfl rfl rfl rfl rfl (fun w2 => R.slA rfl) ?_
  refine Z.put (A := fun v _ => v = .int .i64 64) (Lasts.kill (fun _ _ _ _ h => h) (by decide +kernel)) 0 (by decide +kernel) rfl rfl rfl rfl rfl rfl rfl (fun w2 hJ => (R.copyB rfl rfl (B7.ext0 hJ) (Cells.of_blk (B3.ext0 hJ) 1 (vbs x.2) (fun j v hj => by rw [Nat.add_comm]; simpa [waitC] using hj)) (by rw [hvs]; exact (Nat.min_eq_left (by omega)).symm) hz7 (vbs_one _)).mono (fun v w' h => by obtain ⟨rfl, h1, h2, h3⟩ := h; rw [hvs]; exact ⟨rfl, h1, h1.after hJ, h3⟩)) ?_
  refine Z.nil rfl rfl (fun w2 hJ => ?_)
  obtain ⟨e2, B7⟩ := hJ
  rintro _ _
  have o7 := hO7 _ B7
  rw [show List.take (64 * x.1) (vbs v.stay) ++ vbs x.2 ++ List.drop (64 * x.1 + (vbs x.2).length) (vbs v.stay) = vbs (laid v.stay x.1 x.2) by rw [hvs]; simp only [laid, vbs, List.map_append, List.map_take, List.map_drop]] at o7
  refine N.end0 rfl ?_
  exact ⟨e2.after e1, D.lay e2 o7 hll⟩

end Go.Proofs.Ytmbppidafnakhaa
/-
  The walks of package dev.
-/
set_option linter.unusedVariables false
set_option linter.unusedSimpArgs false
namespace Go.Proofs.Ytmbppidafnakhaa
open Go Brv Brv.Image Brv.Dev
theorem DevL.elem {w : World} {d : Nat} {v : DevV} {sz : Nat} {sa : Option Addr} {sc : Nat} {wa : Option Addr} {wc : Nat} {Ms Mw : List Nat} (h : DevL w d v sz sa sc wa wc Ms Mw) {k : Nat} {x : Nat × List UInt8} (hx : v.wt[k]? = some x) : ∃ q, wa = some q ∧ Cells w (some (q.add (k * 65))) (waitC x) ∧ x.1 < sz ∧ x.2.length = 64 := by
  have hk := (List.getElem?_eq_some_iff.1 hx).1
  obtain ⟨q, hq, hc⟩ := h.tab.at (by decide) k (by rw [List.length_map]; exact hk)
  rw [List.getElem_map, show v.wt[k] = x from (List.getElem?_eq_some_iff.1 hx).2] at hc
  exact ⟨q, hq, hc, h.wf.wt x (List.mem_of_getElem? hx)⟩
theorem DevL.none {w w' : World} {d : Nat} {v : DevV} {sz : Nat} {sa : Option Addr} {sc : Nat} {wa : Option Addr} {wc : Nat} {Ms Mw : List Nat} (h : DevL w d v sz sa sc wa wc Ms Mw) (he : Ext [d] w w') (hb : Blk w' d #[.slice sa v.stay.length sc, .slice .none 0 0, .int .i64 v.calls, .int .i64 v.left, .bool v.off] 71 (0, 0)) : DevL w' d { v with wt := [] } sz sa sc .none 0 Ms [] := by
  obtain ⟨h1, h2, _⟩ := h.apart
  exact ⟨hb, ⟨h.wf.len, by simp, h.wf.left⟩, h.hN, h.st.ext he (fun g hg hm => by rw [List.mem_singleton.1 hm] at hg; exact h1 hg), Own.nil _ _ _⟩

theorem dflush_ok (d : Nat) (v : DevV) (sz : Nat) (S : List Nat) (w : World) (hd : DevAt w d v sz S) (hcb : 0 ≤ v.calls ∧ v.calls ≤ 1000000000) (hwb : v.wt.length ≤ 1000000) : Meets Try.prog 34 [.pointer (some ⟨d, 0, none⟩)] w (fun r w' => r = .int .i64 (flushV v).2 ∧ ∃ S', Grown S S' w w' ∧ DevAt w' d (flushV v).1 sz S') := by
  refine Meets.enter Try.func34 rfl 30 rfl (Nat.le_of_ble_eq_true rfl) ?_
  have hd0 := hd
  obtain ⟨sa, sc, wa, wc, Ms, Mw, D, rfl⟩ := hd
  have hcs := callV_same v
  refine G.seq ?_
  refine G.region ?_
  refine L.val rfl rfl (R.as rfl) ?_
  refine L.nil ?_
  refine N.seq ?_
  refine G.seq ?_
  refine G.seq ?_
  refine G.region ?_
  refine L.val rfl rfl (R.mv rfl) ?_
  refine L.callF rfl rfl rfl go50 (dable_ok d v sz _ _ hd0) ?_
  rintro _ _ ⟨rfl, hw⟩
  obtain rfl := hw.symm
  refine L.val rfl rfl (R.as rfl) ?_
  refine L.nil ?_
  refine N.seq ?_
  refine G.seq ?_
  by_cases ho : v.off = true
  · rw [if_pos ho]
    have hf : flushV v = (v, 10) := if_pos ho
    refine G.region ?_
    refine L.val rfl rfl (R.mv rfl) ?_
    refine L.val rfl rfl (R.neI rfl rfl) ?_
    refine L.nil ?_
    refine N.seq ?_
    refine G.condT rfl ?_
    refine G.seq ?_
    refine G.region ?_
    refine L.val rfl rfl (R.mv rfl) ?_
    refine L.val rfl rfl (R.as rfl) ?_
    refine L.nil ?_
    refine N.seq ?_
    refine G.ret1 rfl rfl ?_
    first
      | (rw [hf]; exact ⟨rfl, _, Grown.refl _ _, hd0⟩)
      | (rw [hf]; exact ⟨rfl, _, ⟨E, fun g hg => .inl hg⟩, sa, sc, wa, wc, Ms, Mw, D1, rfl⟩)
      | (rw [hf]; exact ⟨rfl, _, ⟨E, fun g hg => .inl (by simp at hg ⊢; rcases hg with h | h <;> simp [h])⟩, sa, sc, none, 0, Ms, [], D7, rfl⟩)
  · rw [if_neg ho]
    refine G.region ?_
    refine L.val rfl rfl (R.mv rfl) ?_
    refine L.val rfl rfl (R.neI rfl rfl) ?_
    refine L.nil ?_
    refine N.seq ?_
    refine G.condF rfl ?_
    refine G.skip ?_
    refine N.seq ?_
    refine G.seq ?_
    refine G.seq ?_
    refine G.region ?_
    refine L.val rfl rfl (R.mv rfl) ?_
    refine L.callF rfl rfl rfl go52 (dcallL_ok d v sz sa sc wa wc Ms Mw _ D hcb) ?_
    rintro _ w1 ⟨rfl, e1, D1⟩
    obtain ⟨v1, hv1⟩ : ∃ v1, v1 = (callV v).1 := ⟨_, rfl⟩
    rw [← hv1] at D1 hcs
    have E : Ext (d :: (Ms ++ Mw)) w w1 := e1.mono (by simp)
    have hwl : v1.wt.length ≤ 1000000 := by rw [hcs.2]; exact hwb
    refine L.val rfl rfl (R.not rfl) ?_
    refine L.nil ?_
    refine N.seq ?_
    refine G.condB rfl (fun h1 => ?_) (fun h1 => ?_)
    · have hcf : (callV v).2 = false := by simpa using h1
      have hf : flushV v = (v1, 10) := by unfold flushV; rw [if_neg ho, if_neg (by simp [hcf]), hv1]
      refine G.seq ?_
      refine G.region ?_
      refine L.val rfl rfl (R.as rfl) ?_
      refine L.nil ?_
      refine N.seq ?_
      refine G.ret1 rfl rfl ?_
      first
        | (rw [hf]; exact ⟨rfl, _, Grown.refl _ _, hd0⟩)
        | (rw [hf]; exact ⟨rfl, _, ⟨E, fun g hg => .inl hg⟩, sa, sc, wa, wc, Ms, Mw, D1, rfl⟩)
        | (rw [hf]; exact ⟨rfl, _, ⟨E, fun g hg => .inl (by simp at hg ⊢; rcases hg with h | h <;> simp [h])⟩, sa, sc, none, 0, Ms, [], D7, rfl⟩)
    · have hcf : (callV v).2 = true := by simpa using h1
      have hf : flushV v = ({ v1 with stay := laidAll v1.stay v1.wt, wt := [] }, 0) := by unfold flushV; rw [if_neg ho, if_pos hcf, hv1]
      refine G.skip ?_
      refine N.seq ?_
      refine G.seq ?_
      refine G.seq ?_
      refine G.region ?_
      refine L.val rfl rfl (R.mv rfl) ?_
      refine L.val rfl rfl (R.nilChk rfl) ?_
      refine L.val rfl rfl (R.fld rfl) ?_
      refine L.val rfl rfl (R.ldB rfl D1.hd rfl) ?_
      refine L.val rfl rfl (R.lenS rfl) ?_
      refine L.val rfl rfl (R.mv rfl) ?_
      refine L.nil ?_
      refine N.seq ?_
      refine G.block ?_
      refine G.loop (X := Nat) (fun k => [(0, .pointer (some ⟨d, 0, none⟩)), (17, .slice wa v1.wt.length wc), (18, .int .i64 (v1.wt.length : Int)), (19, .int .i64 (k : Int))]) (fun k w' => k ≤ v1.wt.length ∧ DevL w' d { v1 with stay := (laidAll v1.stay (v1.wt.take k)) } sz sa sc wa wc Ms Mw ∧ Ext (d :: (Ms ++ Mw)) w w') (fun k => v1.wt.length - k) (0) (Sub.cons rfl (Sub.cons rfl (Sub.cons rfl (Sub.cons rfl (Sub.nil _))))) ⟨Nat.zero_le _, D1, E⟩ ?_
      rintro k w2 ⟨hk, D2, E⟩
      refine G.seq ?_
      refine G.region ?_
      refine L.val rfl rfl (R.lss rfl rfl) ?_
      refine L.nil ?_
      refine N.seq ?_
      refine G.seq ?_
      refine G.condP rfl (fun h2 => ?_) (fun h2 => ?_)
      · have hk2 : k < v1.wt.length := by omega
        obtain ⟨x, hx⟩ : ∃ x, v1.wt[k]? = some x := ⟨_, List.getElem?_eq_getElem hk2⟩
        obtain ⟨q9, hq9, hcl, hxs, hx64⟩ := D2.elem (x := x) hx
        refine G.skip ?_
        refine N.seq ?_
        refine G.seq ?_
        refine G.block ?_
        refine G.seq ?_
        refine G.region ?_
        refine L.val rfl rfl (R.idx rfl rfl (by omega) (by omega) q9 hq9) ?_
        refine L.val rfl rfl (R.ldN rfl hcl (waitC_length hx64)) ?_
        refine L.do rfl rfl (R.alloc) ?_
        rintro _ w3 ⟨b5, rfl, hb5, hs3, e3, B5⟩
        refine L.set rfl (R.stN rfl rfl B5 (by rw [List.size_toArray, waitC_length hx64]) (by rw [List.size_toArray, waitC_length hx64]; exact Nat.le_refl 65) (waitC_one x)) ?_
        rintro w4 ⟨e4, hs4, B5⟩
        rw [all_stored (Eq.trans (by rfl : _ = 65) (by rw [List.size_toArray, waitC_length hx64]))] at B5
        have n4 := e3.news2 e4 (by omega)
        replace D2 := D2.ext0 n4
        replace E := E.trans0 n4
        refine L.nil ?_
        refine N.seq ?_
        refine G.region ?_
        refine L.val rfl rfl (R.mv rfl) ?_
        refine L.val rfl rfl (R.ldBN rfl B5 (by rw [List.size_toArray, waitC_length hx64])) ?_
        refine L.callF rfl rfl rfl go40 (settle_ok d _ sz sa sc wa wc Ms Mw x _ D2 hxs hx64) ?_
        rintro _ w5 ⟨e5, D5⟩
        replace D2 : DevL w5 d { v1 with stay := (laidAll v1.stay (v1.wt.take (k + 1))) } sz sa sc wa wc Ms Mw := by rw [laidAll_succ hx]; exact D5
        replace E := E.transN e5 (fun g hg => .inl (by simp [hg]))
        refine L.nil ?_
        refine N.block ?_
        refine N.seq ?_
        refine G.region ?_
        refine L.val rfl rfl (R.add rfl rfl (by omega)) ?_
        refine L.val rfl rfl (R.mv rfl) ?_
        refine L.nil ?_
        exact N.again (k + 1) (by omega) (Sub.cons rfl (Sub.cons rfl (Sub.cons rfl (Sub.cons rfl (Sub.nil _))))) ⟨by omega, D2, E⟩
      · obtain rfl : k = v1.wt.length := by omega
        rw [List.take_length] at D2
        refine G.exit _ rfl ?_
        refine N.seq ?_
        refine G.seq ?_
        refine G.region ?_
        refine L.val rfl rfl (R.mv rfl) ?_
        refine L.val rfl rfl (R.nilChk rfl) ?_
        refine L.val rfl rfl (R.fld rfl) ?_
        refine L.set rfl (R.st rfl rfl D2.hd (by show 1 < 5; decide) rfl) ?_
        rintro w6 ⟨e6, hs6, B6⟩
        have D7 := D2.none e6 B6
        replace E := E.transN e6 (fun g hg => .inl (by rw [List.mem_singleton.1 hg]; simp))
        refine L.nil ?_
        refine N.seq ?_
        refine G.seq ?_
        refine G.region ?_
        refine L.val rfl rfl (R.as rfl) ?_
        refine L.nil ?_
        refine N.seq ?_
        refine G.ret1 rfl rfl ?_
        first
          | (rw [hf]; exact ⟨rfl, _, Grown.refl _ _, hd0⟩)
          | (rw [hf]; exact ⟨rfl, _, ⟨E, fun g hg => .inl hg⟩, sa, sc, wa, wc, Ms, Mw, D1, rfl⟩)
          | (rw [hf]; exact ⟨rfl, _, ⟨E, fun g hg => .inl (by simp at hg ⊢; rcases hg with h | h <;> simp [h])⟩, sa, sc, none, 0, Ms, [], D7, rfl⟩)

end Go.Proofs.Ytmbppidafnakhaa
/-
  Slices of three bounds; a struct of two parts.
-/
set_option linter.unusedVariables false
namespace Brv
open Go
section
variable {P : Program} {n : Fm} {ρ : Env} {w : World} {d : Nat} {ty : TypeId} {pos : String} {af : Array Edge} {gd : Option (Nat × Bool)}
theorem R.slLHM {T E size bytes : Nat} {z : Value} [t : TySlice P T E size bytes z] {x lo hi mx : Operand} {k k' k'' : IntKind} {a : Option Addr} {m c : Nat} {i j e : Int} (hx : ev ρ x = some (.slice a m c)) (hlo : ev ρ lo = some (.int k i)) (hhi : ev ρ hi = some (.int k' j)) (hmx : ev ρ mx = some (.int k'' e)) (h0 : 0 ≤ i) (h1 : i ≤ j) (h2 : j ≤ e) (h3 : e ≤ c) :
    Runs P n ρ w ⟨some d, .slice T x (some lo) (some hi) (some mx), ty, pos, af, gd⟩ (.slice (subA a i.toNat e.toNat size) (j.toNat - i.toNat) (e.toNat - i.toNat)) w := (fun f hf => by
    have hb : (Instr.sliceBounds true m c (some (.int k i)) (some (.int k' j)) (some (.int k'' e))).run P w = .ok (i.toNat, j.toNat, e.toNat) w := by
      simp [Instr.sliceBounds, sliceBound_ok (P := P) (k := k'') (i := e) (y := c) (code := .slice3Acap) (by omega) h3 w, sliceBound_ok (P := P) (k := k') (i := j) (y := e.toNat) (code := .slice3B) (by omega) (by omega) w, sliceBound_ok (P := P) (k := k) (i := i) (y := j.toNat) (code := .slice3C) h0 (by omega) w]
    have := run_subS (P := P) (T := T) (a := a) w hb
    simp only [execOp, hf.eval hx, hf.eval hlo, hf.eval hhi, hf.eval hmx, Sem.run_bind, Option.map_some, this]
    rfl)
end
theorem fill_two {pl : Nat → Option (Nat × Nat)} {A cs : Array Value} {u : Value} {m : Nat} (h0 : pl 0 = some (0, 1)) (h1 : pl 1 = some (1, m)) (hu : u.cells = #[u]) (hc : cs.size = m) (hA : A.size = 1 + m) : Instr.fill pl A [(0, u), (1, .agg cs)] = some (u :: cs.toList).toArray := by
  have hcc : (Value.agg cs).cells = cs := rfl
  have e0 : (u.cells.zipIdx.foldl (fun ac (p : Value × Nat) => ac.setIfInBounds (0 + p.2) p.1) A) = A.setIfInBounds 0 u := by rw [hu]; simp
  have hf := seg_fold 1 cs.toList 0 (A.setIfInBounds 0 u) (by simp; omega)
  have e : (cs.zipIdx.foldl (fun ac (p : Value × Nat) => ac.setIfInBounds (1 + p.2) p.1) (A.setIfInBounds 0 u)) = ((cs.toList.zipIdx 0).foldl (fun ac (p : Value × Nat) => ac.setIfInBounds (1 + p.2) p.1) (A.setIfInBounds 0 u)) := by
    rw [← Array.foldl_toList]; simp
  simp only [Instr.fill, h0, h1, hcc]
  rw [if_neg (by rw [hu]; intro h; simp at h; rw [h] at hA; simp at hA; omega)]
  simp only [e0]
  rw [if_neg (by simp; omega)]
  refine congrArg some ?_
  rw [e]
  apply Array.toList_inj.1
  rw [hf]
  simp only [Array.toList_setIfInBounds, Nat.add_zero, Array.length_toList]
  obtain ⟨al⟩ := A
  cases al with
  | nil => simp at hA; omega
  | cons a r =>
    simp at hA
    simp
    omega
/-- Where the elements of a slice lie; nowhere, if there are none. -/
def effA {α : Type} (a : Option Addr) : List α → Option Addr
  | [] => none
  | _ :: _ => a
theorem effA.of {α : Type} {a : Option Addr} {l : List α} {p : Addr} (h : effA a l = some p) : a = some p := by
  cases l with
  | nil => cases h
  | cons x r => exact h
theorem Cells.extE {α : Type} {f : α → Value} {w w' : World} {M : List Nat} {a : Option Addr} {l : List α} (h : Cells w a (l.map f)) (he : Ext M w w') (hm : ∀ p, effA a l = some p → p.block ∉ M) : Cells w' a (l.map f) := by
  cases l with
  | nil => exact Cells.nil _ _
  | cons x r => exact h.ext he hm
theorem Bs.extE {w w' : World} {M : List Nat} {a : Option Addr} {n : Nat} {l : List UInt8} (h : Bs w a n l) (he : Ext M w w') (hm : ∀ p, effA a l = some p → p.block ∉ M) : Bs w' a n l := ⟨Cells.extE (f := vb) h.cells he hm, h.len⟩
theorem Cells.effLt {α : Type} {f : α → Value} {w : World} {a : Option Addr} {l : List α} (h : Cells w a (l.map f)) : ∀ p, effA a l = some p → p.block < w.heap.size := by
  intro p hp
  cases l with
  | nil => cases hp
  | cons x r =>
    obtain ⟨q, hq, hc⟩ := h 0 (f x) rfl
    have : a = some p := hp
    rw [this] at hq; cases hq
    obtain ⟨o, ho, _⟩ : ∃ o : Obj, w.heap[(p.add 0).block]? = some o ∧ True := by
      unfold World.cell? at hc
      cases ho : w.heap[(p.add 0).block]? with
      | none => simp [ho] at hc
      | some o => exact ⟨o, rfl, trivial⟩
    exact (Array.getElem?_eq_some_iff.1 ho).1
theorem Bs.effLt {w : World} {a : Option Addr} {n : Nat} {l : List UInt8} (h : Bs w a n l) : ∀ p, effA a l = some p → p.block < w.heap.size := Cells.effLt (f := vb) h.cells
end Brv
/-
  The walks of package dev.
-/
set_option linter.unusedVariables false
set_option linter.unusedSimpArgs false
namespace Go.Proofs.Ytmbppidafnakhaa
open Go Brv Brv.Image Brv.Dev
theorem DevL.zero {w : World} {d : Nat} {v : DevV} {sz : Nat} {sa : Option Addr} {sc : Nat} {wa : Option Addr} {wc : Nat} {Ms Mw : List Nat} (h : DevL w d v sz sa sc wa wc Ms Mw) : ∀ g ∈ Ms, g ∈ d :: (Ms ++ Mw) := fun g hg => by simp [hg]
theorem cellsB {w : World} {a : Option Addr} {ks : List Bool} (h : Cells w a (ks.map Value.bool)) {k : Nat} {b : Bool} (hk : ks[k]? = some b) : ∃ p, a = some p ∧ w.cell? (p.add k) = some (.bool b) := h k (.bool b) (by simp [hk])
theorem dcrash_ok (d : Nat) (v : DevV) (sz : Nat) (S : List Nat) (ka : Option Addr) (kc : Nat) (ks : List Bool) (w : World) (hd : DevAt w d v sz S) (hwb : v.wt.length ≤ 1000000) (hq : Cells w ka (ks.map Value.bool)) (hqS : ∀ p, effA ka ks = some p → p.block ∉ S) : Meets Try.prog 15 [.pointer (some ⟨d, 0, none⟩), .slice ka ks.length kc] w (fun _ w' => ∃ S', Grown S S' w w' ∧ DevAt w' d (crashV v ks) sz S') := by
  refine Meets.enter Try.func15 rfl 41 rfl (Nat.le_of_ble_eq_true rfl) ?_
  have hd0 := hd
  obtain ⟨sa, sc, wa, wc, Ms, Mw, D, rfl⟩ := hd
  have E := Ext.refl (d :: (Ms ++ Mw)) w
  have hq0 := hq
  refine G.seq ?_
  refine G.seq ?_
  refine G.region ?_
  refine L.val rfl rfl (R.mv rfl) ?_
  refine L.val rfl rfl (R.eqNilP rfl rfl) ?_
  refine L.nil ?_
  refine N.seq ?_
  refine G.condF rfl ?_
  refine G.skip ?_
  refine N.seq ?_
  refine G.seq ?_
  refine G.seq ?_
  refine G.region ?_
  refine L.val rfl rfl (R.mv rfl) ?_
  refine L.val rfl rfl (R.nilChk rfl) ?_
  refine L.val rfl rfl (R.fld rfl) ?_
  refine L.val rfl rfl (R.ldB rfl D.hd rfl) ?_
  refine L.val rfl rfl (R.lenS rfl) ?_
  refine L.val rfl rfl (R.mv rfl) ?_
  refine L.nil ?_
  refine N.seq ?_
  refine G.block ?_
  refine G.loop (X := Nat) (fun k => [(0, .pointer (some ⟨d, 0, none⟩)), (1, .slice ka ks.length kc), (11, .slice wa v.wt.length wc), (12, .int .i64 (v.wt.length : Int)), (13, .int .i64 (k : Int))]) (fun k w' => k ≤ v.wt.length ∧ DevL w' d { v with stay := (keepN v.stay v.wt ks k) } sz sa sc wa wc Ms Mw ∧ Ext (d :: (Ms ++ Mw)) w w') (fun k => v.wt.length - k) (0) (Sub.cons rfl (Sub.cons rfl (Sub.cons rfl (Sub.cons rfl (Sub.cons rfl (Sub.nil _)))))) ⟨Nat.zero_le _, D, E⟩ ?_
  rintro k w2 ⟨hk, D2, E⟩
  have hq2 : Cells w2 ka (ks.map Value.bool) := hq0.extE E hqS
  refine G.seq ?_
  refine G.region ?_
  refine L.val rfl rfl (R.lss rfl rfl) ?_
  refine L.nil ?_
  refine N.seq ?_
  refine G.seq ?_
  refine G.condP rfl (fun h1 => ?_) (fun h1 => ?_)
  · have hk2 : k < v.wt.length := by omega
    obtain ⟨x, hx⟩ : ∃ x, v.wt[k]? = some x := ⟨_, List.getElem?_eq_getElem hk2⟩
    obtain ⟨q9, hq9, hcl, hxs, hx64⟩ := D2.elem (x := x) hx
    refine G.skip ?_
    refine N.seq ?_
    refine G.seq ?_
    refine G.block ?_
    refine G.seq ?_
    refine G.region ?_
    refine L.val rfl rfl (R.mv rfl) ?_
    refine L.val rfl rfl (R.idx rfl rfl (by omega) (by omega) q9 hq9) ?_
    refine L.val rfl rfl (R.ldN rfl hcl (waitC_length hx64)) ?_
    refine L.do rfl rfl (R.alloc) ?_
    rintro _ w3 ⟨b5, rfl, hb5, hs3, e3, B5⟩
    refine L.val rfl rfl (R.as rfl) ?_
    refine L.set rfl (R.stN rfl rfl B5 (by rw [List.size_toArray, waitC_length hx64]) (by rw [List.size_toArray, waitC_length hx64]; exact Nat.le_refl 65) (waitC_one x)) ?_
    rintro w4 ⟨e4, hs4, B5⟩
    rw [all_stored (Eq.trans (by rfl : _ = 65) (by rw [List.size_toArray, waitC_length hx64]))] at B5
    have n4 := e3.news2 e4 (by omega)
    replace D2 := D2.ext0 n4
    replace E := E.trans0 n4
    refine L.nil ?_
    refine N.seq ?_
    refine G.seq ?_
    refine G.region ?_
    refine L.val rfl rfl (R.mv rfl) ?_
    refine L.val rfl rfl (R.mv rfl) ?_
    refine L.val rfl rfl (R.lenS rfl) ?_
    refine L.val rfl rfl (R.lss rfl rfl) ?_
    refine L.val rfl rfl (R.mv rfl) ?_
    refine L.caseP 22 rfl (fun hg4_4 => ?_) (fun hg4_4 => ?_)
    · have hkl : k < ks.length := by omega
      obtain ⟨bb, hbb⟩ : ∃ bb, ks[k]? = some bb := ⟨_, List.getElem?_eq_getElem hkl⟩
      obtain ⟨pk, hpk, hck⟩ := cellsB (hq2.ext0 n4) hbb
      refine L.val rfl rfl (R.mv rfl) ?_
      refine L.val rfl rfl (R.mv rfl) ?_
      refine L.val rfl rfl (R.idx rfl rfl (by omega) (by omega) pk hpk) ?_
      refine L.val rfl rfl (R.ld rfl (v := .bool bb) (by simpa using hck)) ?_
      first | refine L.val rfl rfl (R.pickT rfl rfl) ?_ | refine L.val rfl rfl (R.pickF rfl rfl) ?_
      refine L.nil ?_
      refine N.seq ?_
      refine G.condB rfl (fun h2 => ?_) (fun h2 => ?_)
      · have hkb : ks[k]? = some true := by rw [hbb, h2]
        refine G.region ?_
        refine L.val rfl rfl (R.mv rfl) ?_
        refine L.val rfl rfl (R.ldBN rfl B5 (by rw [List.size_toArray, waitC_length hx64])) ?_
        refine L.callF rfl rfl rfl go40 (settle_ok d _ sz sa sc wa wc Ms Mw x _ D2 hxs hx64) ?_
        rintro _ w5 ⟨e5, D5⟩
        replace E := E.transN e5 (fun g hg => .inl (by simp [hg]))
        refine L.nil ?_
        refine N.block ?_
        refine N.seq ?_
        refine G.region ?_
        refine L.val rfl rfl (R.add rfl rfl (by omega)) ?_
        refine L.val rfl rfl (R.mv rfl) ?_
        refine L.nil ?_
        first
          | exact N.again (k + 1) (by omega) (Sub.cons rfl (Sub.cons rfl (Sub.cons rfl (Sub.cons rfl (Sub.cons rfl (Sub.nil _)))))) ⟨by omega, by rw [keepN_yes hx hkb]; exact D5, E⟩
          | exact N.again (k + 1) (by omega) (Sub.cons rfl (Sub.cons rfl (Sub.cons rfl (Sub.cons rfl (Sub.cons rfl (Sub.nil _)))))) ⟨by omega, by rw [keepN_no hx hkb]; exact D2, E⟩
      · have hkb : ¬ ks[k]? = some true := by rw [hbb]; simpa using h2
        refine G.skip ?_
        refine N.block ?_
        refine N.seq ?_
        refine G.region ?_
        refine L.val rfl rfl (R.add rfl rfl (by omega)) ?_
        refine L.val rfl rfl (R.mv rfl) ?_
        refine L.nil ?_
        first
          | exact N.again (k + 1) (by omega) (Sub.cons rfl (Sub.cons rfl (Sub.cons rfl (Sub.cons rfl (Sub.cons rfl (Sub.nil _)))))) ⟨by omega, by rw [keepN_yes hx hkb]; exact D5, E⟩
          | exact N.again (k + 1) (by omega) (Sub.cons rfl (Sub.cons rfl (Sub.cons rfl (Sub.cons rfl (Sub.cons rfl (Sub.nil _)))))) ⟨by omega, by rw [keepN_no hx hkb]; exact D2, E⟩
    · have hkb : ¬ ks[k]? = some true := by rw [List.getElem?_eq_none (by omega)]; simp
      refine L.pass rfl rfl ?_
      refine L.pass rfl rfl ?_
      refine L.pass rfl rfl ?_
      refine L.pass rfl rfl ?_
      first | refine L.val rfl rfl (R.pickT rfl rfl) ?_ | refine L.val rfl rfl (R.pickF rfl rfl) ?_
      refine L.nil ?_
      refine N.seq ?_
      refine G.condF rfl ?_
      refine G.skip ?_
      refine N.block ?_
      refine N.seq ?_
      refine G.region ?_
      refine L.val rfl rfl (R.add rfl rfl (by omega)) ?_
      refine L.val rfl rfl (R.mv rfl) ?_
      refine L.nil ?_
      first
        | exact N.again (k + 1) (by omega) (Sub.cons rfl (Sub.cons rfl (Sub.cons rfl (Sub.cons rfl (Sub.cons rfl (Sub.nil _)))))) ⟨by omega, by rw [keepN_yes hx hkb]; exact D5, E⟩
        | exact N.again (k + 1) (by omega) (Sub.cons rfl (Sub.cons rfl (Sub.cons rfl (Sub.cons rfl (Sub.cons rfl (Sub.nil _)))))) ⟨by omega, by rw [keepN_no hx hkb]; exact D2, E⟩
  · obtain rfl : k = v.wt.length := by omega
    have ap := D2.apart
    refine G.exit _ rfl ?_
    refine N.seq ?_
    refine G.region ?_
    refine L.val rfl rfl (R.mv rfl) ?_
    refine L.val rfl rfl (R.mv rfl) ?_
    refine L.val rfl rfl (R.mv rfl) ?_
    refine L.val rfl rfl (R.nilChk rfl) ?_
    refine L.val rfl rfl (R.fld rfl) ?_
    refine L.set rfl (R.st rfl rfl D2.hd (by show 1 < 5; decide) rfl) ?_
    rintro w6 ⟨e6, hs6, B6⟩
    replace B6 : Blk w6 d #[.slice sa (keepN v.stay v.wt ks v.wt.length).length sc, .slice none 0 0, .int .i64 v.calls, .int .i64 v.left, .bool v.off] 71 (0, 0) := B6
    have D6 := D2.none e6 B6
    replace E := E.transN e6 (fun g hg => .inl (by rw [List.mem_singleton.1 hg]; simp))
    refine L.val rfl rfl (R.nilChk rfl) ?_
    refine L.val rfl rfl (R.fld rfl) ?_
    refine L.set rfl (R.st rfl rfl B6 (by show 4 < 5; decide) rfl) ?_
    rintro w7 ⟨e7, hs7, B7⟩
    replace B7 : Blk w7 d #[.slice sa (keepN v.stay v.wt ks v.wt.length).length sc, .slice none 0 0, .int .i64 v.calls, .int .i64 v.left, .bool false] 71 (0, 0) := B7
    have D7 : DevL w7 d { v with stay := (keepN v.stay v.wt ks v.wt.length), wt := [], off := false } sz sa sc none 0 Ms [] := D6.fld e7 B7 rfl rfl ⟨D6.wf.len, D6.wf.wt, D6.wf.left⟩
    replace E := E.transN e7 (fun g hg => .inl (by rw [List.mem_singleton.1 hg]; simp))
    refine L.val rfl rfl (R.nilChk rfl) ?_
    refine L.val rfl rfl (R.fld rfl) ?_
    refine L.set rfl (R.st rfl rfl B7 (by show 3 < 5; decide) rfl) ?_
    rintro w8 ⟨e8, hs8, B8⟩
    replace B8 : Blk w8 d #[.slice sa (keepN v.stay v.wt ks v.wt.length).length sc, .slice none 0 0, .int .i64 v.calls, .int .i64 (-1), .bool false] 71 (0, 0) := B8
    have D8 : DevL w8 d (crashV v ks) sz sa sc none 0 Ms [] := D7.fld e8 B8 rfl rfl (crashV_wf hd0.wf.1)
    replace E := E.transN e8 (fun g hg => .inl (by rw [List.mem_singleton.1 hg]; simp))
    refine L.nil ?_
    refine N.end0 rfl ?_
    exact ⟨_, ⟨E, fun g hg => .inl (by simp at hg ⊢; rcases hg with h | h <;> simp [h])⟩, sa, sc, none, 0, Ms, [], D8, rfl⟩

theorem dlimit_ok (d : Nat) (v : DevV) (sz : Nat) (S : List Nat) (n : Int) (w : World) (hd : DevAt w d v sz S) (hn : n ≤ 9223372036854775807) : Meets Try.prog 26 [.pointer (some ⟨d, 0, none⟩), .int .i64 n] w (fun _ w' => Ext S w w' ∧ DevAt w' d (limitV v n) sz S) := by
  refine Meets.enter Try.func26 rfl 11 rfl (Nat.le_of_ble_eq_true rfl) ?_
  have hd0 := hd
  obtain ⟨sa, sc, wa, wc, Ms, Mw, D, rfl⟩ := hd
  refine G.seq ?_
  refine G.region ?_
  refine L.val rfl rfl (R.mv rfl) ?_
  refine L.val rfl rfl (R.neNilP rfl rfl) ?_
  refine L.nil ?_
  refine N.seq ?_
  refine G.condT rfl ?_
  refine G.region ?_
  refine L.val rfl rfl (R.mv rfl) ?_
  refine L.val rfl rfl (R.mv rfl) ?_
  refine L.val rfl rfl (R.max rfl rfl (max n (-1)) (by split <;> omega)) ?_
  refine L.val rfl rfl (R.nilChk rfl) ?_
  refine L.val rfl rfl (R.fld rfl) ?_
  refine L.set rfl (R.st rfl rfl D.hd (by show 3 < 5; decide) rfl) ?_
  rintro w1 ⟨e1, hs1, B1⟩
  refine L.nil ?_
  refine N.end0 rfl ?_
  exact ⟨e1.mono (by simp), sa, sc, wa, wc, Ms, Mw, D.fld e1 B1 rfl rfl (limitV_wf hd0.wf.1 hn), rfl⟩

end Go.Proofs.Ytmbppidafnakhaa
/-
  The walks of package dev.
-/
set_option linter.unusedVariables false
set_option linter.unusedSimpArgs false
namespace Go.Proofs.Ytmbppidafnakhaa
open Go Brv Brv.Image Brv.Dev
theorem rdflush_okF (v : DevV) (sz : Nat) (wa : Option Addr) (wc : Nat) (w : World) (hwf : v.Wf sz) (hz : sz ≤ 4096) (hr : RefAt w v.wt wa) (hcb : 0 ≤ v.calls ∧ v.calls ≤ 1000000000) (hwb : v.wt.length ≤ 1000000) : Meets Try.prog 46 [.agg (rdC v wa wc)] w (fun r w' => ∃ wa' wc', r = .tuple #[.agg (rdC (flushV v).1 wa' wc'), .int .i64 (flushV v).2] ∧ Ext [] w w' ∧ RefAt w' (flushV v).1.wt wa' ∧ (wa' = wa ∨ ∀ p, wa' = some p → w.heap.size ≤ p.block)) := by
  refine Meets.enter Try.func46 rfl 36 rfl (Nat.le_of_ble_eq_true rfl) ?_
  have E := Ext.refl [] w
  have hcs := callV_same v
  have hr0 := hr
  have hsl := hwf.len
  refine G.seq ?_
  refine G.region ?_
  refine L.do rfl rfl (R.box rfl) ?_
  rintro _ w1 ⟨b1, rfl, hzb1, hs1, e1, B1⟩
  replace B1 : Blk w1 b1 (rdC v wa wc) 45 (0, 0) := B1
  replace E := E.trans0 e1
  refine L.do rfl rfl (R.alloc) ?_
  rintro _ w2 ⟨b2, rfl, hzb2, hs2, e2, B2⟩
  replace E := E.trans0 e2
  replace B1 := B1.ext0 e2
  refine L.val rfl rfl (R.as rfl) ?_
  refine L.nil ?_
  refine N.seq ?_
  refine G.seq ?_
  refine G.seq ?_
  refine G.region ?_
  refine L.val rfl rfl (R.fld rfl) ?_
  refine L.val rfl rfl (R.ldB rfl B1 rfl) ?_
  refine L.nil ?_
  refine N.seq ?_
  refine G.condB rfl (fun h0 => ?_) (fun h0 => ?_)
  · have ho : v.off = true := h0
    have hf : flushV v = (v, 10) := if_pos ho
    refine G.seq ?_
    refine G.region ?_
    refine L.val rfl rfl (R.ldBN rfl B1 rfl) ?_
    refine L.set rfl (R.stN rfl rfl B2 rfl (Nat.le_refl 5) (rdC_one _ _ _)) ?_
    rintro w20 ⟨e20, hs20, B2⟩
    replace B2 : Blk w20 b2 (rdC v wa wc) 45 (0, 0) := B2
    replace E := E.news2 e20 (by omega)
    refine L.val rfl rfl (R.as rfl) ?_
    refine L.nil ?_
    refine N.seq ?_
    refine G.retCT rfl rfl rfl (B2) rfl ?_
    first
      | (rw [hf]; exact ⟨wa, wc, rfl, E, hr0.ext0 E, .inl rfl⟩)
      | (rw [hf]; exact ⟨wa, wc, rfl, E, by show RefAt _ v1.wt wa; rw [hcs.2]; exact hr0.ext0 E, .inl rfl⟩)
      | (rw [hf]; exact ⟨none, 0, rfl, E, RefAt.nil _, .inr (by intro p hp; cases hp)⟩)
  · have ho : ¬ v.off = true := by simpa using h0
    refine G.skip ?_
    refine N.seq ?_
    refine G.seq ?_
    refine G.region ?_
    refine L.val rfl rfl (R.ldBN rfl B1 rfl) ?_
    refine L.callF rfl rfl rfl go63 (rdcall_ok v sz wa wc _ hwf hz hcb) ?_
    rintro _ w4 ⟨rfl, e4⟩
    replace E := E.trans0 e4
    replace B1 := B1.ext0 e4
    replace B2 := B2.ext0 e4
    obtain ⟨v1, hv1⟩ : ∃ v1, v1 = (callV v).1 := ⟨_, rfl⟩
    rw [← hv1] at hcs ⊢
    have hv1w : v1.wt.length ≤ 1000000 := by rw [hcs.2]; exact hwb
    have hwf1 : v1.Wf sz := hv1 ▸ callV_wf hwf
    have hsl1 := hwf1.len
    refine L.val rfl rfl (R.mv rfl) ?_
    refine L.val rfl rfl (R.ext rfl rfl) ?_
    refine L.val rfl rfl (R.ext rfl rfl) ?_
    refine L.set rfl (R.stN rfl rfl B1 rfl (Nat.le_refl 5) (rdC_one _ _ _)) ?_
    rintro w5 ⟨e5, hs5, B1⟩
    replace B1 : Blk w5 b1 (rdC v1 wa wc) 45 (0, 0) := B1
    replace E := E.news2 e5 (by omega)
    replace B2 := B2.ext e5 (by simp; omega)
    refine L.val rfl rfl (R.as rfl) ?_
    refine L.nil ?_
    refine N.seq ?_
    refine G.seq ?_
    refine G.seq ?_
    refine G.region ?_
    refine L.val rfl rfl (R.mv rfl) ?_
    refine L.val rfl rfl (R.not rfl) ?_
    refine L.nil ?_
    refine N.seq ?_
    refine G.condB rfl (fun h1 => ?_) (fun h1 => ?_)
    · have hcf : (callV v).2 = false := by simpa using h1
      have hf : flushV v = (v1, 10) := by unfold flushV; rw [if_neg ho, if_neg (by simp [hcf]), hv1]
      refine G.seq ?_
      refine G.region ?_
      refine L.val rfl rfl (R.ldBN rfl B1 rfl) ?_
      refine L.set rfl (R.stN rfl rfl B2 rfl (Nat.le_refl 5) (rdC_one _ _ _)) ?_
      rintro w21 ⟨e21, hs21, B2⟩
      replace B2 : Blk w21 b2 (rdC v1 wa wc) 45 (0, 0) := B2
      replace E := E.news2 e21 (by omega)
      refine L.val rfl rfl (R.as rfl) ?_
      refine L.nil ?_
      refine N.seq ?_
      refine G.retCT rfl rfl rfl (B2) rfl ?_
      first
        | (rw [hf]; exact ⟨wa, wc, rfl, E, hr0.ext0 E, .inl rfl⟩)
        | (rw [hf]; exact ⟨wa, wc, rfl, E, by show RefAt _ v1.wt wa; rw [hcs.2]; exact hr0.ext0 E, .inl rfl⟩)
        | (rw [hf]; exact ⟨none, 0, rfl, E, RefAt.nil _, .inr (by intro p hp; cases hp)⟩)
    · have hcf : (callV v).2 = true := by simpa using h1
      have hf : flushV v = (({ v1 with stay := laidAll v1.stay v1.wt, wt := [] } : DevV), 0) := by unfold flushV; rw [if_neg ho, if_pos hcf, hv1]
      refine G.skip ?_
      refine N.seq ?_
      refine G.seq ?_
      refine G.seq ?_
      refine G.region ?_
      refine L.val rfl rfl (R.fld rfl) ?_
      refine L.val rfl rfl (R.ldB rfl B1 rfl) ?_
      refine L.val rfl rfl (R.lenS rfl) ?_
      refine L.val rfl rfl (R.mv rfl) ?_
      refine L.nil ?_
      refine N.seq ?_
      refine G.block ?_
      replace B2 : ∃ cs6 : Array Value, Blk _ b2 cs6 45 (0, 0) ∧ cs6.size = 5 := ⟨_, B2, rfl⟩
      obtain ⟨cs6, B2, hcz6⟩ := B2
      refine G.loop (X := Nat) (fun k => [(1, .pointer (some ⟨b1, 0, none⟩)), (2, .pointer (some ⟨b2, 0, none⟩)), (19, .slice wa v1.wt.length wc), (20, .int .i64 (v1.wt.length : Int)), (21, .int .i64 (k : Int))]) (fun k w' => k ≤ v1.wt.length ∧ Blk w' b1 (rdC ({ v1 with stay := laidAll v1.stay (v1.wt.take k) } : DevV) wa wc) 45 (0, 0) ∧ Blk w' b2 cs6 45 (0, 0) ∧ Ext [] w w') (fun k => v1.wt.length - k) (0) (Sub.cons rfl (Sub.cons rfl (Sub.cons rfl (Sub.cons rfl (Sub.cons rfl (Sub.nil _)))))) ⟨Nat.zero_le _, B1, B2, E⟩ ?_
      rintro k w5 ⟨hk, B1, B2, E⟩
      have hr : RefAt w5 v1.wt wa := by rw [hcs.2]; exact hr0.ext0 E
      refine G.seq ?_
      refine G.region ?_
      refine L.val rfl rfl (R.lss rfl rfl) ?_
      refine L.nil ?_
      refine N.seq ?_
      refine G.seq ?_
      refine G.condP rfl (fun h2 => ?_) (fun h2 => ?_)
      · have hk2 : k < v1.wt.length := by omega
        obtain ⟨x, hx⟩ : ∃ x, v1.wt[k]? = some x := ⟨_, List.getElem?_eq_getElem hk2⟩
        obtain ⟨q9, hq9, hcl⟩ := hr.elem hx
        have hxw := hwf1.wt x (List.mem_of_getElem? hx)
        have hlk := laidAll_length (s := []) hwf1.len (fun y hy => hwf1.wt y (List.mem_of_mem_take hy) : ∀ y ∈ v1.wt.take k, _)
        have l1 := B1.lt
        have l2 := B2.lt
        refine G.skip ?_
        refine N.seq ?_
        refine G.seq ?_
        refine G.block ?_
        refine G.seq ?_
        refine G.region ?_
        refine L.val rfl rfl (R.idx rfl rfl (by omega) (by omega) q9 hq9) ?_
        refine L.val rfl rfl (R.ldN rfl hcl rfl) ?_
        refine L.do rfl rfl (R.alloc) ?_
        rintro _ w6 ⟨b6, rfl, hb6, hs6, e6, B6⟩
        have hEk := E.size
        refine L.set rfl (R.stN rfl rfl B6 rfl (Nat.le_refl 2) (rwC_one x)) ?_
        rintro w7 ⟨e7, hs7, B6⟩
        replace B6 : Blk w7 b6 (rwC x).toArray 106 (0, 0) := B6
        have n7 := e6.news2 e7 (by omega)
        replace E := E.trans0 n7
        replace B1 := B1.ext0 n7
        replace B2 := B2.ext0 n7
        refine L.nil ?_
        refine N.seq ?_
        refine G.region ?_
        refine L.val rfl rfl (R.fld rfl) ?_
        refine L.val rfl rfl (R.ldB rfl B1 rfl) ?_
        refine L.val rfl rfl (R.fld rfl) ?_
        refine L.val rfl rfl (R.ldB rfl B6 rfl) ?_
        refine L.val rfl rfl (R.fld rfl) ?_
        refine L.val rfl rfl (R.ldB rfl B6 rfl) ?_
        refine L.callF rfl rfl rfl go47 (rdlaid_ok (laidAll v1.stay (v1.wt.take k)) x.2 x.1 _ (by omega) (by omega) (by omega)) ?_
        rintro _ w8 ⟨rfl, e8⟩
        replace E := E.trans0 e8
        rw [← laidAll_succ hx]
        replace B1 := B1.ext0 e8
        replace B2 := B2.ext0 e8
        refine L.val rfl rfl (R.fld rfl) ?_
        refine L.set rfl (R.st rfl rfl B1 (by show 0 < 5; decide) rfl) ?_
        rintro w9 ⟨e9, hs9, B1⟩
        replace B1 : Blk w9 b1 (rdC ({ v1 with stay := laidAll v1.stay (v1.wt.take (k + 1)) } : DevV) wa wc) 45 (0, 0) := B1
        replace E := E.news2 e9 (by omega)
        replace B2 := B2.ext e9 (by simp; omega)
        refine L.nil ?_
        refine N.block ?_
        refine N.seq ?_
        refine G.region ?_
        refine L.val rfl rfl (R.add rfl rfl (by omega)) ?_
        refine L.val rfl rfl (R.mv rfl) ?_
        refine L.nil ?_
        exact N.again (k + 1) (by omega) (Sub.cons rfl (Sub.cons rfl (Sub.cons rfl (Sub.cons rfl (Sub.cons rfl (Sub.nil _)))))) ⟨by omega, B1, B2, E⟩
      · obtain rfl : k = v1.wt.length := by omega
        rw [List.take_length] at B1
        have l1 := B1.lt
        have l2 := B2.lt
        refine G.exit _ rfl ?_
        refine N.seq ?_
        refine G.seq ?_
        refine G.region ?_
        refine L.val rfl rfl (R.fld rfl) ?_
        refine L.set rfl (R.st rfl rfl B1 (by show 1 < 5; decide) rfl) ?_
        rintro w10 ⟨e10, hs10, B1⟩
        replace B1 : Blk w10 b1 (rdC ({ v1 with stay := laidAll v1.stay v1.wt, wt := [] } : DevV) none 0) 45 (0, 0) := B1
        replace E := E.news2 e10 (by omega)
        replace B2 := B2.ext e10 (by simp; omega)
        refine L.nil ?_
        refine N.seq ?_
        refine G.seq ?_
        refine G.region ?_
        refine L.val rfl rfl (R.ldBN rfl B1 rfl) ?_
        refine L.set rfl (R.stN rfl rfl B2 rfl (by rw [hcz6]; exact Nat.le_refl 5) (rdC_one _ _ _)) ?_
        rintro w11 ⟨e11, hs11, Bn⟩
        rw [all_stored (by rw [hcz6]; rfl)] at Bn
        replace B2 : Blk w11 b2 (rdC ({ v1 with stay := laidAll v1.stay v1.wt, wt := [] } : DevV) none 0) 45 (0, 0) := Bn
        replace E := E.news2 e11 (by omega)
        refine L.val rfl rfl (R.as rfl) ?_
        refine L.nil ?_
        refine N.seq ?_
        refine G.retCT rfl rfl rfl (B2) rfl ?_
        first
          | (rw [hf]; exact ⟨wa, wc, rfl, E, hr0.ext0 E, .inl rfl⟩)
          | (rw [hf]; exact ⟨wa, wc, rfl, E, by show RefAt _ v1.wt wa; rw [hcs.2]; exact hr0.ext0 E, .inl rfl⟩)
          | (rw [hf]; exact ⟨none, 0, rfl, E, RefAt.nil _, .inr (by intro p hp; cases hp)⟩)

theorem rdcrash_ok (v : DevV) (sz : Nat) (wa : Option Addr) (wc : Nat) (ka : Option Addr) (kc : Nat) (ks : List Bool) (w : World) (hwf : v.Wf sz) (hz : sz ≤ 4096) (hr : RefAt w v.wt wa) (hwb : v.wt.length ≤ 1000000) (hq : Cells w ka (ks.map Value.bool)) : Meets Try.prog 25 [.agg (rdC v wa wc), .slice ka ks.length kc] w (fun r w' => r = .agg (rdC (crashV v ks) none 0) ∧ Ext [] w w') := by
  refine Meets.enter Try.func25 rfl 38 rfl (Nat.le_of_ble_eq_true rfl) ?_
  have E := Ext.refl [] w
  have hr0 := hr
  have hq0 := hq
  have hsl := hwf.len
  refine G.seq ?_
  refine G.region ?_
  refine L.do rfl rfl (R.box rfl) ?_
  rintro _ w1 ⟨b2, rfl, hzb2, hs1, e1, B2⟩
  replace B2 : Blk w1 b2 (rdC v wa wc) 45 (0, 0) := B2
  replace E := E.trans0 e1
  refine L.do rfl rfl (R.alloc) ?_
  rintro _ w2 ⟨b4, rfl, hzb4, hs2, e2, B4⟩
  replace E := E.trans0 e2
  replace B2 := B2.ext0 e2
  refine L.nil ?_
  refine N.seq ?_
  refine G.seq ?_
  refine G.seq ?_
  refine G.region ?_
  refine L.val rfl rfl (R.fld rfl) ?_
  refine L.val rfl rfl (R.ldB rfl B2 rfl) ?_
  refine L.val rfl rfl (R.lenS rfl) ?_
  refine L.val rfl rfl (R.mv rfl) ?_
  refine L.nil ?_
  refine N.seq ?_
  refine G.block ?_
  replace B4 : ∃ cs6 : Array Value, Blk _ b4 cs6 45 (0, 0) ∧ cs6.size = 5 := ⟨_, B4, rfl⟩
  obtain ⟨cs6, B4, hcz6⟩ := B4
  refine G.loop (X := Nat) (fun k => [(1, .slice ka ks.length kc), (2, .pointer (some ⟨b2, 0, none⟩)), (4, .pointer (some ⟨b4, 0, none⟩)), (8, .slice wa v.wt.length wc), (9, .int .i64 (v.wt.length : Int)), (10, .int .i64 (k : Int))]) (fun k w' => k ≤ v.wt.length ∧ Blk w' b2 (rdC ({ v with stay := keepN v.stay v.wt ks k } : DevV) wa wc) 45 (0, 0) ∧ Blk w' b4 cs6 45 (0, 0) ∧ Ext [] w w') (fun k => v.wt.length - k) (0) (Sub.cons rfl (Sub.cons rfl (Sub.cons rfl (Sub.cons rfl (Sub.cons rfl (Sub.cons rfl (Sub.nil _))))))) ⟨Nat.zero_le _, B2, B4, E⟩ ?_
  rintro k w5 ⟨hk, B2, B4, E⟩
  have hr := hr0.ext0 E
  have hq := hq0.ext0 E
  refine G.seq ?_
  refine G.region ?_
  refine L.val rfl rfl (R.lss rfl rfl) ?_
  refine L.nil ?_
  refine N.seq ?_
  refine G.seq ?_
  refine G.condP rfl (fun h0 => ?_) (fun h0 => ?_)
  · have hk2 : k < v.wt.length := by omega
    obtain ⟨x, hx⟩ : ∃ x, v.wt[k]? = some x := ⟨_, List.getElem?_eq_getElem hk2⟩
    obtain ⟨q9, hq9, hcl⟩ := hr.elem hx
    have hxw := hwf.wt x (List.mem_of_getElem? hx)
    have hlk := keepN_length (keep := ks) hwf.len hwf.wt k
    have l2 := B2.lt
    have l4 := B4.lt
    refine G.skip ?_
    refine N.seq ?_
    refine G.seq ?_
    refine G.block ?_
    refine G.seq ?_
    refine G.region ?_
    refine L.val rfl rfl (R.mv rfl) ?_
    refine L.val rfl rfl (R.idx rfl rfl (by omega) (by omega) q9 hq9) ?_
    refine L.val rfl rfl (R.ldN rfl hcl rfl) ?_
    refine L.do rfl rfl (R.alloc) ?_
    rintro _ w6 ⟨b6, rfl, hb6, hs6, e6, B6⟩
    have hEk := E.size
    refine L.val rfl rfl (R.as rfl) ?_
    refine L.set rfl (R.stN rfl rfl B6 rfl (Nat.le_refl 2) (rwC_one x)) ?_
    rintro w7 ⟨e7, hs7, B6⟩
    replace B6 : Blk w7 b6 (rwC x).toArray 106 (0, 0) := B6
    have n7 := e6.news2 e7 (by omega)
    replace E := E.trans0 n7
    replace B2 := B2.ext0 n7
    replace B4 := B4.ext0 n7
    replace hq := hq.ext0 n7
    refine L.nil ?_
    refine N.seq ?_
    refine G.seq ?_
    refine G.region ?_
    refine L.val rfl rfl (R.mv rfl) ?_
    refine L.val rfl rfl (R.mv rfl) ?_
    refine L.val rfl rfl (R.lenS rfl) ?_
    refine L.val rfl rfl (R.lss rfl rfl) ?_
    refine L.val rfl rfl (R.mv rfl) ?_
    refine L.caseP 19 rfl (fun hg4_4 => ?_) (fun hg4_4 => ?_)
    · have hkl : k < ks.length := by omega
      obtain ⟨bb, hbb⟩ : ∃ bb, ks[k]? = some bb := ⟨_, List.getElem?_eq_getElem hkl⟩
      obtain ⟨pk, hpk, hck⟩ := cellsB hq hbb
      refine L.val rfl rfl (R.mv rfl) ?_
      refine L.val rfl rfl (R.mv rfl) ?_
      refine L.val rfl rfl (R.idx rfl rfl (by omega) (by omega) pk hpk) ?_
      refine L.val rfl rfl (R.ld rfl (v := .bool bb) (by simpa using hck)) ?_
      first | refine L.val rfl rfl (R.pickT rfl rfl) ?_ | refine L.val rfl rfl (R.pickF rfl rfl) ?_
      refine L.nil ?_
      refine N.seq ?_
      refine G.condB rfl (fun h1 => ?_) (fun h1 => ?_)
      · have hkb : ks[k]? = some true := by rw [hbb, h1]
        refine G.region ?_
        refine L.val rfl rfl (R.fld rfl) ?_
        refine L.val rfl rfl (R.ldB rfl B2 rfl) ?_
        refine L.val rfl rfl (R.fld rfl) ?_
        refine L.val rfl rfl (R.ldB rfl B6 rfl) ?_
        refine L.val rfl rfl (R.fld rfl) ?_
        refine L.val rfl rfl (R.ldB rfl B6 rfl) ?_
        refine L.callF rfl rfl rfl go47 (rdlaid_ok (keepN v.stay v.wt ks k) x.2 x.1 _ (by omega) (by omega) (by omega)) ?_
        rintro _ w8 ⟨rfl, e8⟩
        replace E := E.trans0 e8
        rw [← keepN_yes hx hkb]
        replace B2 := B2.ext0 e8
        replace B4 := B4.ext0 e8
        refine L.val rfl rfl (R.fld rfl) ?_
        refine L.set rfl (R.st rfl rfl B2 (by show 0 < 5; decide) rfl) ?_
        rintro w9 ⟨e9, hs9, B2⟩
        replace B2 : Blk w9 b2 (rdC ({ v with stay := keepN v.stay v.wt ks (k + 1) } : DevV) wa wc) 45 (0, 0) := B2
        replace E := E.news2 e9 (by omega)
        replace B4 := B4.ext e9 (by simp; omega)
        refine L.nil ?_
        refine N.block ?_
        refine N.seq ?_
        refine G.region ?_
        refine L.val rfl rfl (R.add rfl rfl (by omega)) ?_
        refine L.val rfl rfl (R.mv rfl) ?_
        refine L.nil ?_
        first
          | exact N.again (k + 1) (by omega) (Sub.cons rfl (Sub.cons rfl (Sub.cons rfl (Sub.cons rfl (Sub.cons rfl (Sub.cons rfl (Sub.nil _))))))) ⟨by omega, B2, B4, E⟩
          | exact N.again (k + 1) (by omega) (Sub.cons rfl (Sub.cons rfl (Sub.cons rfl (Sub.cons rfl (Sub.cons rfl (Sub.cons rfl (Sub.nil _))))))) ⟨by omega, by rw [keepN_no hx hkb]; exact B2, B4, E⟩
      · have hkb : ¬ ks[k]? = some true := by rw [hbb]; simpa using h1
        refine G.skip ?_
        refine N.block ?_
        refine N.seq ?_
        refine G.region ?_
        refine L.val rfl rfl (R.add rfl rfl (by omega)) ?_
        refine L.val rfl rfl (R.mv rfl) ?_
        refine L.nil ?_
        first
          | exact N.again (k + 1) (by omega) (Sub.cons rfl (Sub.cons rfl (Sub.cons rfl (Sub.cons rfl (Sub.cons rfl (Sub.cons rfl (Sub.nil _))))))) ⟨by omega, B2, B4, E⟩
          | exact N.again (k + 1) (by omega) (Sub.cons rfl (Sub.cons rfl (Sub.cons rfl (Sub.cons rfl (Sub.cons rfl (Sub.cons rfl (Sub.nil _))))))) ⟨by omega, by rw [keepN_no hx hkb]; exact B2, B4, E⟩
    · have hkb : ¬ ks[k]? = some true := by rw [List.getElem?_eq_none (by omega)]; simp
      refine L.pass rfl rfl ?_
      refine L.pass rfl rfl ?_
      refine L.pass rfl rfl ?_
      refine L.pass rfl rfl ?_
      first | refine L.val rfl rfl (R.pickT rfl rfl) ?_ | refine L.val rfl rfl (R.pickF rfl rfl) ?_
      refine L.nil ?_
      refine N.seq ?_
      refine G.condF rfl ?_
      refine G.skip ?_
      refine N.block ?_
      refine N.seq ?_
      refine G.region ?_
      refine L.val rfl rfl (R.add rfl rfl (by omega)) ?_
      refine L.val rfl rfl (R.mv rfl) ?_
      refine L.nil ?_
      first
        | exact N.again (k + 1) (by omega) (Sub.cons rfl (Sub.cons rfl (Sub.cons rfl (Sub.cons rfl (Sub.cons rfl (Sub.cons rfl (Sub.nil _))))))) ⟨by omega, B2, B4, E⟩
        | exact N.again (k + 1) (by omega) (Sub.cons rfl (Sub.cons rfl (Sub.cons rfl (Sub.cons rfl (Sub.cons rfl (Sub.cons rfl (Sub.nil _))))))) ⟨by omega, by rw [keepN_no hx hkb]; exact B2, B4, E⟩
  · obtain rfl : k = v.wt.length := by omega
    have l2 := B2.lt
    have l4 := B4.lt
    refine G.exit _ rfl ?_
    refine N.seq ?_
    refine G.seq ?_
    refine G.region ?_
    refine L.val rfl rfl (R.fld rfl) ?_
    refine L.set rfl (R.st rfl rfl B2 (by show 1 < 5; decide) rfl) ?_
    rintro w10 ⟨e10, hs10, B2⟩
    replace B2 : Blk w10 b2 (rdC ({ v with stay := keepN v.stay v.wt ks v.wt.length, wt := [] } : DevV) none 0) 45 (0, 0) := B2
    replace E := E.news2 e10 (by omega)
    replace B4 := B4.ext e10 (by simp; omega)
    refine L.nil ?_
    refine N.seq ?_
    refine G.seq ?_
    refine G.region ?_
    refine L.val rfl rfl (R.fld rfl) ?_
    refine L.set rfl (R.st rfl rfl B2 (by show 4 < 5; decide) rfl) ?_
    rintro w11 ⟨e11, hs11, B2⟩
    replace B2 : Blk w11 b2 (rdC ({ v with stay := keepN v.stay v.wt ks v.wt.length, wt := [], off := false } : DevV) none 0) 45 (0, 0) := B2
    replace E := E.news2 e11 (by omega)
    replace B4 := B4.ext e11 (by simp; omega)
    refine L.nil ?_
    refine N.seq ?_
    refine G.seq ?_
    refine G.region ?_
    refine L.val rfl rfl (R.fld rfl) ?_
    refine L.set rfl (R.st rfl rfl B2 (by show 3 < 5; decide) rfl) ?_
    rintro w12 ⟨e12, hs12, B2⟩
    replace B2 : Blk w12 b2 (rdC (crashV v ks) none 0) 45 (0, 0) := B2
    replace E := E.news2 e12 (by omega)
    replace B4 := B4.ext e12 (by simp; omega)
    refine L.nil ?_
    refine N.seq ?_
    refine G.seq ?_
    refine G.region ?_
    refine L.val rfl rfl (R.ldBN rfl B2 rfl) ?_
    refine L.set rfl (R.stN rfl rfl B4 rfl (by rw [hcz6]; exact Nat.le_refl 5) (rdC_one _ _ _)) ?_
    rintro w13 ⟨e13, hs13, Bn⟩
    rw [all_stored (by rw [hcz6]; rfl)] at Bn
    replace B4 : Blk w13 b4 (rdC (crashV v ks) none 0) 45 (0, 0) := Bn
    replace E := E.news2 e13 (by omega)
    refine L.nil ?_
    refine N.seq ?_
    refine G.retC rfl rfl (B4) rfl ?_
    exact ⟨rfl, E⟩


end Go.Proofs.Ytmbppidafnakhaa
/-
  The walks of package dev.
-/
set_option linter.unusedVariables false
set_option linter.unusedSimpArgs false
namespace Go.Proofs.Ytmbppidafnakhaa
open Go Brv Brv.Image Brv.Dev
theorem dread_ok (d : Nat) (v : DevV) (sz : Nat) (S : List Nat) (p n : Int) (w : World) (hd : DevAt w d v sz S) (hwb : v.wt.length ≤ 1000000) : Meets Try.prog 41 [.pointer (some ⟨d, 0, none⟩), .int .i64 p, .int .i64 n] w (fun r w' => ∃ a c M, r = .tuple #[.slice a (readV v sz p n).1.length c, .int .i64 (readV v sz p n).2] ∧ Ext [] w w' ∧ Own w' 5 1 a (readV v sz p n).1.length c (vbs (readV v sz p n).1) M ∧ ∀ g ∈ M, w.heap.size ≤ g) := by
  refine Meets.enter Try.func41 rfl 67 rfl (Nat.le_of_ble_eq_true rfl) ?_
  have E := Ext.refl [] w
  have hd0 := hd
  obtain ⟨sa, sc, wa, wc, Ms, Mw, D, rfl⟩ := hd
  have hl := D.wf.len
  have hsN := D.hN
  refine G.seq ?_
  refine G.region ?_
  refine L.val rfl rfl (R.as rfl) ?_
  refine L.val rfl rfl (R.as rfl) ?_
  refine L.nil ?_
  refine N.seq ?_
  refine G.seq ?_
  refine G.seq ?_
  refine G.region ?_
  refine L.val rfl rfl (R.mv rfl) ?_
  refine L.callF rfl rfl rfl go50 (dable_ok d v sz _ _ hd0) ?_
  rintro _ _ ⟨rfl, hw⟩
  obtain rfl := hw.symm
  refine L.val rfl rfl (R.as rfl) ?_
  refine L.nil ?_
  refine N.seq ?_
  refine G.seq ?_
  by_cases ho : v.off = true
  · rw [if_pos ho]
    have hf : readV v sz p n = ([], 10) := if_pos ho
    refine G.region ?_
    refine L.val rfl rfl (R.mv rfl) ?_
    refine L.val rfl rfl (R.neI rfl rfl) ?_
    refine L.nil ?_
    refine N.seq ?_
    refine G.condT rfl ?_
    refine G.seq ?_
    refine G.region ?_
    refine L.val rfl rfl (R.mv rfl) ?_
    refine L.val rfl rfl (R.as rfl) ?_
    refine L.val rfl rfl (R.as rfl) ?_
    refine L.nil ?_
    refine N.seq ?_
    refine G.ret2 rfl rfl rfl ?_
    first
      | (rw [hf]; exact ⟨none, 0, [], rfl, E, Own.nil _ _ _, by simp⟩)
      | (rw [hf]; dsimp only; rw [hwl]; exact ⟨a9, c9, M9, rfl, E, o9, hM9⟩)
  · rw [if_neg ho]
    refine G.region ?_
    refine L.val rfl rfl (R.mv rfl) ?_
    refine L.val rfl rfl (R.neI rfl rfl) ?_
    refine L.nil ?_
    refine N.seq ?_
    refine G.condF rfl ?_
    refine G.skip ?_
    refine N.seq ?_
    refine G.seq ?_
    refine G.seq ?_
    refine G.region ?_
    refine L.val rfl rfl (R.mv rfl) ?_
    refine L.val rfl rfl (R.mv rfl) ?_
    refine L.val rfl rfl (R.mv rfl) ?_
    refine L.callF rfl rfl rfl go51 (dthere_ok d v sz _ p n _ hd0) ?_
    rintro _ _ ⟨rfl, hw⟩
    obtain rfl := hw.symm
    refine L.val rfl rfl (R.not rfl) ?_
    refine L.be 21 rfl (show _ = Value.bool (decide (¬ thereP sz p n)) by simp) ?_
    refine L.nil ?_
    refine N.seq ?_
    refine G.condP rfl (fun h1 => ?_) (fun h1 => ?_)
    · have hf : readV v sz p n = ([], 11) := by unfold readV; rw [if_neg ho, if_neg h1]
      refine G.seq ?_
      refine G.region ?_
      refine L.val rfl rfl (R.as rfl) ?_
      refine L.val rfl rfl (R.as rfl) ?_
      refine L.nil ?_
      refine N.seq ?_
      refine G.ret2 rfl rfl rfl ?_
      first
        | (rw [hf]; exact ⟨none, 0, [], rfl, E, Own.nil _ _ _, by simp⟩)
        | (rw [hf]; dsimp only; rw [hwl]; exact ⟨a9, c9, M9, rfl, E, o9, hM9⟩)
    · have ht : thereP sz p n := Classical.not_not.1 h1
      have ht2 := ht
      unfold thereP at ht2
      obtain ⟨i, rfl⟩ := Int.eq_ofNat_of_zero_le ht2.1
      obtain ⟨m, rfl⟩ := Int.eq_ofNat_of_zero_le ht2.2.1
      have him : i + m ≤ sz := by omega
      have hf : readV v sz (i : Int) (m : Int) = (win (laidAll v.stay v.wt) i m, 0) := by unfold readV; rw [if_neg ho, if_pos ht]; rfl
      have hbs : Bs w (subA sa (64 * i) sc 1) (64 * m) (win v.stay i m) := (Bs.of_own D.st).sub (64 * i) sc (64 * m) (by omega) (by have := D.st.le; omega)
      refine G.skip ?_
      refine N.seq ?_
      refine G.seq ?_
      refine G.region ?_
      refine L.val rfl rfl (R.mv rfl) ?_
      refine L.val rfl rfl (R.nilChk rfl) ?_
      refine L.val rfl rfl (R.fld rfl) ?_
      refine L.val rfl rfl (R.ldB rfl D.hd rfl) ?_
      refine L.val rfl rfl (R.mv rfl) ?_
      refine L.val rfl rfl (R.mul rfl rfl (by omega)) ?_
      refine L.val rfl rfl (R.mv rfl) ?_
      refine L.val rfl rfl (R.mv rfl) ?_
      refine L.val rfl rfl (R.add rfl rfl (by omega)) ?_
      refine L.val rfl rfl (R.mul rfl rfl (by omega)) ?_
      refine L.val rfl rfl (R.slLH rfl rfl rfl (by omega) (by omega) (by have := D.st.le; omega)) ?_
      refine L.be 32 rfl (show _ = Value.slice (subA sa (64 * i) sc 1) (64 * m) (sc - 64 * i) by rw [show ((i : Int) * 64).toNat = 64 * i by omega, show (((i : Int) + (m : Int)) * 64).toNat - 64 * i = 64 * m by omega]) ?_
      refine L.callF rfl rfl rfl go39 (clone_ok _ _ _ _ _ hbs (by omega)) ?_
      rintro _ w1 ⟨a9, c9, M9, rfl, e1, o9, hM9⟩
      replace E := E.trans0 e1
      refine L.val rfl rfl (R.as rfl) ?_
      refine L.nil ?_
      refine N.seq ?_
      refine G.seq ?_
      refine G.seq ?_
      refine G.region ?_
      refine L.val rfl rfl (R.mv rfl) ?_
      refine L.val rfl rfl (R.nilChk rfl) ?_
      refine L.val rfl rfl (R.fld rfl) ?_
      refine L.val rfl rfl (R.ldB rfl (D.hd.ext0 E) rfl) ?_
      refine L.val rfl rfl (R.lenS rfl) ?_
      refine L.val rfl rfl (R.mv rfl) ?_
      refine L.nil ?_
      refine N.seq ?_
      refine G.block ?_
      refine G.loop (X := Nat) (fun k => [(0, .pointer (some ⟨d, 0, none⟩)), (1, .int .i64 (i : Int)), (2, .int .i64 (m : Int)), (9, .slice a9 (64 * m) c9), (37, .slice wa v.wt.length wc), (38, .int .i64 (v.wt.length : Int)), (39, .int .i64 (k : Int))]) (fun k w' => k ≤ v.wt.length ∧ Ext [] w w' ∧ Own w' 5 1 a9 (64 * m) c9 (vbs ((v.wt.take k).foldl (rd1 i m) (win v.stay i m))) M9) (fun k => v.wt.length - k) (0) (Sub.cons rfl (Sub.cons rfl (Sub.cons rfl (Sub.cons rfl (Sub.cons rfl (Sub.cons rfl (Sub.cons rfl (Sub.nil _)))))))) ⟨Nat.zero_le _, E, o9⟩ ?_
      rintro k w2 ⟨hk, E, o9⟩
      have D2 := D.ext0 E
      refine G.seq ?_
      refine G.region ?_
      refine L.val rfl rfl (R.lss rfl rfl) ?_
      refine L.nil ?_
      refine N.seq ?_
      refine G.seq ?_
      refine G.condP rfl (fun h2 => ?_) (fun h2 => ?_)
      · have hk2 : k < v.wt.length := by omega
        obtain ⟨x, hx⟩ : ∃ x, v.wt[k]? = some x := ⟨_, List.getElem?_eq_getElem hk2⟩
        obtain ⟨q9, hq9, hcl, hxs, hx64⟩ := D2.elem (x := x) hx
        have hfo : ((v.wt.take (k + 1)).foldl (rd1 i m) (win v.stay i m)) = rd1 i m ((v.wt.take k).foldl (rd1 i m) (win v.stay i m)) x := by rw [List.take_add_one, hx]; simp [List.foldl_append]
        have hfl : ((v.wt.take k).foldl (rd1 i m) (win v.stay i m)).length = 64 * m := rd_length (win_length hl him) (fun y hy => (D.wf.wt y (List.mem_of_mem_take hy)).2)
        have hvs : (vbs x.2).length = 64 := by rw [vbs_length, hx64]
        refine G.skip ?_
        refine N.seq ?_
        refine G.seq ?_
        refine G.block ?_
        refine G.seq ?_
        refine G.region ?_
        refine L.val rfl rfl (R.idx rfl rfl (by omega) (by omega) q9 hq9) ?_
        refine L.val rfl rfl (R.ldN rfl hcl (waitC_length hx64)) ?_
        refine L.do rfl rfl (R.alloc) ?_
        rintro _ w3 ⟨b11, rfl, hb11, hs3, e3, B11⟩
        refine L.set rfl (R.stN rfl rfl B11 (by rw [List.size_toArray, waitC_length hx64]) (by rw [List.size_toArray, waitC_length hx64]; exact Nat.le_refl 65) (waitC_one x)) ?_
        rintro w4 ⟨e4, hs4, B11⟩
        rw [all_stored (Eq.trans (by rfl : _ = 65) (by rw [List.size_toArray, waitC_length hx64]))] at B11
        have n4 := e3.news2 e4 (by omega)
        replace o9 := o9.ext0 n4
        replace E := E.trans0 n4
        refine L.nil ?_
        refine N.seq ?_
        refine G.seq ?_
        refine G.region ?_
        refine L.val rfl rfl (R.fld rfl) ?_
        refine L.val rfl rfl (R.ldB rfl B11 rfl) ?_
        refine L.be 44 rfl (show _ = Value.int .i64 (x.1 : Int) from rfl) ?_
        refine L.val rfl rfl (R.mv rfl) ?_
        refine L.val rfl rfl (R.geq rfl rfl) ?_
        refine L.val rfl rfl (R.mv rfl) ?_
        refine L.caseP 47 rfl (fun hg10_4 => ?_) (fun hg10_4 => ?_)
        · refine L.val rfl rfl (R.fld rfl) ?_
          refine L.val rfl rfl (R.ldB rfl B11 rfl) ?_
          refine L.be 49 rfl (show _ = Value.int .i64 (x.1 : Int) from rfl) ?_
          refine L.val rfl rfl (R.mv rfl) ?_
          refine L.val rfl rfl (R.mv rfl) ?_
          refine L.val rfl rfl (R.add rfl rfl (by omega)) ?_
          refine L.val rfl rfl (R.lss rfl rfl) ?_
          first | refine L.val rfl rfl (R.pickT rfl rfl) ?_ | refine L.val rfl rfl (R.pickF rfl rfl) ?_
          refine L.nil ?_
          refine N.seq ?_
          refine G.condP rfl (fun h3 => ?_) (fun h3 => ?_)
          · have hin : i ≤ x.1 ∧ x.1 < i + m := by omega
            obtain ⟨g7, cur7, rfl, rfl, B7, hz7, hO7⟩ := o9.over (o := (64 * (x.1 - i))) (cs := vbs x.2) (by rw [hvs]; omega) (by omega)
            have hg7 := hM9 g7 (by simp)
            refine G.staged [9] [.blocks ([g7])] [fun w' => Ext [] w4 w', fun w' => Ext [g7] w4 w' ∧ Blk w' g7 (Over cur7 (64 * (x.1 - i)) (vbs x.2)) 5 (0, 0)] [] (by decide +kernel) (by decide +kernel) rfl rfl rfl (fun _ h => h) ?_
            refine Z.val rfl rfl rfl rfl rfl (fun w5 => R.mv rfl) ?_
            refine Z.val rfl rfl rfl rfl rfl (fun w5 => R.fld rfl) ?_
            refine Z.read 0 (by decide +kernel) rfl rfl rfl rfl rfl rfl (fun w5 hJ => R.ldB rfl (B11.ext0 hJ) rfl) ?_
            refine Z.be 57 rfl (show _ = Value.int .i64 (x.1 : Int) from rfl) ?_
            refine Z.val rfl rfl rfl rfl rfl (fun w5 => R.mv rfl) ?_
            refine Z.val rfl rfl rfl rfl rfl (fun w5 => R.sub' rfl rfl (by omega)) ?_
            refine Z.val rfl rfl rfl rfl rfl (fun w5 => R.mul rfl rfl (by omega)) ?_
            refine Z.val rfl rfl rfl rfl rfl (fun w5 => R.slL rfl rfl (by omega) (by omega)) ?_
            refine Z.be 61 rfl (show _ = Value.slice (some ⟨g7, (64 * (x.1 - i)), none⟩) (64 * m - (64 * (x.1 - i))) (c9 - (64 * (x.1 - i))) by rw [show (((x.1 : Int) - (i : Int)) * 64).toNat = (64 * (x.1 - i)) by omega, subA_lit (by have := o9.le; omega), Nat.zero_add, Nat.mul_one]) ?_
            refine Z.val rfl rfl rfl rfl rfl (fun w5 => R.fld rfl) ?_
            refine Z.val rfl rfl rfl rfl rfl (fun w5 => R.slA rfl) ?_
            refine Z.put (A := fun v _ => v = .int .i64 64) (Lasts.kill (fun _ _ _ _ h => h) (by decide +kernel)) 0 (by decide +kernel) rfl rfl rfl rfl rfl rfl rfl (fun w5 hJ => (R.copyB rfl rfl (B7.ext0 hJ) (Cells.of_blk (B11.ext0 hJ) 1 (vbs x.2) (fun j v hj => by rw [Nat.add_comm]; simpa [waitC] using hj)) (by rw [hvs]; exact (Nat.min_eq_left (by omega)).symm) hz7 (vbs_one _)).mono (fun v w' h => by obtain ⟨rfl, h1, h2, h3⟩ := h; rw [hvs]; exact ⟨rfl, h1, h1.after hJ, h3⟩)) ?_
            refine Z.nil rfl rfl (fun w5 hJ => ?_)
            obtain ⟨e12, B7⟩ := hJ
            rintro _ _
            replace o9 := hO7 _ B7
            have hE4 := E.size
            replace E := E.news2 e12 (by have := e1.size; omega)
            rw [show List.take (64 * (x.1 - i)) (vbs ((v.wt.take k).foldl (rd1 i m) (win v.stay i m))) ++ vbs x.2 ++ List.drop ((64 * (x.1 - i)) + (vbs x.2).length) (vbs ((v.wt.take k).foldl (rd1 i m) (win v.stay i m))) = vbs (laid ((v.wt.take k).foldl (rd1 i m) (win v.stay i m)) (x.1 - i) x.2) by rw [hvs]; simp only [laid, vbs, List.map_append, List.map_take, List.map_drop]] at o9
            refine N.block ?_
            refine N.seq ?_
            refine G.region ?_
            refine L.val rfl rfl (R.add rfl rfl (by omega)) ?_
            refine L.val rfl rfl (R.mv rfl) ?_
            refine L.nil ?_
            first
              | exact N.again (k + 1) (by omega) (Sub.cons rfl (Sub.cons rfl (Sub.cons rfl (Sub.cons rfl (Sub.cons rfl (Sub.cons rfl (Sub.cons rfl (Sub.nil _)))))))) ⟨by omega, E, by rw [hfo, show rd1 i m _ x = laid _ (x.1 - i) x.2 from if_pos hin]; exact o9⟩
              | exact N.again (k + 1) (by omega) (Sub.cons rfl (Sub.cons rfl (Sub.cons rfl (Sub.cons rfl (Sub.cons rfl (Sub.cons rfl (Sub.cons rfl (Sub.nil _)))))))) ⟨by omega, E, by rw [hfo, show rd1 i m _ x = _ from if_neg hin]; exact o9⟩
          · have hin : ¬ (i ≤ x.1 ∧ x.1 < i + m) := by omega
            refine G.skip ?_
            refine N.block ?_
            refine N.seq ?_
            refine G.region ?_
            refine L.val rfl rfl (R.add rfl rfl (by omega)) ?_
            refine L.val rfl rfl (R.mv rfl) ?_
            refine L.nil ?_
            first
              | exact N.again (k + 1) (by omega) (Sub.cons rfl (Sub.cons rfl (Sub.cons rfl (Sub.cons rfl (Sub.cons rfl (Sub.cons rfl (Sub.cons rfl (Sub.nil _)))))))) ⟨by omega, E, by rw [hfo, show rd1 i m _ x = laid _ (x.1 - i) x.2 from if_pos hin]; exact o9⟩
              | exact N.again (k + 1) (by omega) (Sub.cons rfl (Sub.cons rfl (Sub.cons rfl (Sub.cons rfl (Sub.cons rfl (Sub.cons rfl (Sub.cons rfl (Sub.nil _)))))))) ⟨by omega, E, by rw [hfo, show rd1 i m _ x = _ from if_neg hin]; exact o9⟩
        · refine L.pass rfl rfl ?_
          refine L.pass rfl rfl ?_
          refine L.pass rfl rfl ?_
          refine L.pass rfl rfl ?_
          refine L.pass rfl rfl ?_
          refine L.pass rfl rfl ?_
          first | refine L.val rfl rfl (R.pickT rfl rfl) ?_ | refine L.val rfl rfl (R.pickF rfl rfl) ?_
          refine L.nil ?_
          refine N.seq ?_
          refine G.condF rfl ?_
          have hin : ¬ (i ≤ x.1 ∧ x.1 < i + m) := by omega
          refine G.skip ?_
          refine N.block ?_
          refine N.seq ?_
          refine G.region ?_
          refine L.val rfl rfl (R.add rfl rfl (by omega)) ?_
          refine L.val rfl rfl (R.mv rfl) ?_
          refine L.nil ?_
          first
            | exact N.again (k + 1) (by omega) (Sub.cons rfl (Sub.cons rfl (Sub.cons rfl (Sub.cons rfl (Sub.cons rfl (Sub.cons rfl (Sub.cons rfl (Sub.nil _)))))))) ⟨by omega, E, by rw [hfo, show rd1 i m _ x = laid _ (x.1 - i) x.2 from if_pos hin]; exact o9⟩
            | exact N.again (k + 1) (by omega) (Sub.cons rfl (Sub.cons rfl (Sub.cons rfl (Sub.cons rfl (Sub.cons rfl (Sub.cons rfl (Sub.cons rfl (Sub.nil _)))))))) ⟨by omega, E, by rw [hfo, show rd1 i m _ x = _ from if_neg hin]; exact o9⟩
      · obtain rfl : k = v.wt.length := by omega
        rw [List.take_length, rd_fold him hl D.wf.wt] at o9
        have hwl := win_length (laidAll_length (s := []) hl D.wf.wt) him
        refine G.exit _ rfl ?_
        refine N.seq ?_
        refine G.seq ?_
        refine G.region ?_
        refine L.val rfl rfl (R.mv rfl) ?_
        refine L.val rfl rfl (R.as rfl) ?_
        refine L.val rfl rfl (R.as rfl) ?_
        refine L.nil ?_
        refine N.seq ?_
        refine G.ret2 rfl rfl rfl ?_
        first
          | (rw [hf]; exact ⟨none, 0, [], rfl, E, Own.nil _ _ _, by simp⟩)
          | (rw [hf]; dsimp only; rw [hwl]; exact ⟨a9, c9, M9, rfl, E, o9, hM9⟩)

end Go.Proofs.Ytmbppidafnakhaa
/-
  The walks of package dev.
-/
set_option linter.unusedVariables false
set_option linter.unusedSimpArgs false
namespace Go.Proofs.Ytmbppidafnakhaa
open Go Brv Brv.Image Brv.Dev
def chE (l : List UInt8) (k : Nat) (vs : List Value) (W : World) : Prop := ∃ a c, vs = [.slice a 64 c] ∧ 64 ≤ c ∧ Bs W a 64 (blk l k)
def chF (a : Option Addr) (b2 b3 : Nat) : List Nat := b2 :: b3 :: (match a with | some p => [p.block] | none => [])
theorem chF_a {a : Option Addr} {b2 b3 : Nat} {p : Addr} (h : a = some p) : p.block ∈ chF a b2 b3 := by subst h; simp [chF]
theorem chF_mem {a : Option Addr} {b2 b3 y : Nat} (h : y ∈ chF a b2 b3) : y = b2 ∨ y = b3 ∨ ∃ p, a = some p ∧ y = p.block := by
  unfold chF at h
  rcases List.mem_cons.1 h with h | h
  · exact .inl h
  rcases List.mem_cons.1 h with h | h
  · exact .inr (.inl h)
  cases a with
  | none => simp at h
  | some p => exact .inr (.inr ⟨p, rfl, List.mem_singleton.1 h⟩)
theorem chunk_ok (a : Option Addr) (n c : Nat) (w : World) : Meets Try.prog 53 [.slice a n c, .int .i64 64] w (fun v w' => ∃ b2 b3, v = .func (.func 69) #[] #[.pointer (some ⟨b2, 0, none⟩), .pointer (some ⟨b3, 0, none⟩)] ∧ Ext [] w w' ∧ Blk w' b2 #[.slice a n c] 36 (0, 0) ∧ Blk w' b3 #[.int .i64 64] 3 (0, 0) ∧ w.heap.size ≤ b2 ∧ w.heap.size ≤ b3) := by
  refine Meets.enter Try.func53 rfl 9 rfl (Nat.le_of_ble_eq_true rfl) ?_
  have E := Ext.refl [] w
  refine G.seq ?_
  refine G.region ?_
  refine L.do rfl rfl (R.box rfl) ?_
  rintro _ w1 ⟨b2, rfl, hb2, hs2, e1, B2⟩
  replace E := E.trans0 e1
  refine L.do rfl rfl (R.box rfl) ?_
  rintro _ w2 ⟨b3, rfl, hb3, hs3, e2, B3⟩
  replace E := E.trans0 e2
  replace B2 := B2.ext0 e2
  refine L.val rfl rfl (R.as rfl) ?_
  refine L.nil ?_
  refine N.seq ?_
  refine G.seq ?_
  refine G.seq ?_
  refine G.region ?_
  refine L.val rfl rfl (R.ldB rfl B3 rfl) ?_
  refine L.val rfl rfl (R.lss rfl rfl) ?_
  refine L.nil ?_
  refine N.seq ?_
  refine G.condF rfl ?_
  refine G.skip ?_
  refine N.seq ?_
  refine G.seq ?_
  refine G.region ?_
  refine L.val rfl rfl (R.mkFunc rfl rfl) ?_
  refine L.val rfl rfl (R.as rfl) ?_
  refine L.nil ?_
  refine N.seq ?_
  refine G.ret1 rfl rfl ?_
  exact ⟨b2, b3, rfl, E, B2, B3, by omega, by omega⟩

theorem chunk1_ok (y : Value) (b2 b3 : Nat) (a : Option Addr) (n c : Nat) (l : List UInt8) (D₀ : List Nat) (J Jx : Nat → List Nat → World → Prop) (w : World) (hB2 : Blk w b2 #[.slice a n c] 36 (0, 0)) (hB3 : Blk w b3 #[.int .i64 64] 3 (0, 0)) (hb : Bs w a n l) (hc : n ≤ c) (hn : n ≤ 1000000) (hm : l.length = 64 * dn l) (hD : ∀ g ∈ D₀, g < w.heap.size ∧ g ∉ chF (effA a l) b2 b3 ∧ g ∉ ([] : List Nat)) (hJ : ∀ k D W₁ W₂ M', J k D W₁ → Ext M' W₁ W₂ → (∀ g ∈ M', g ∉ D ∧ (g ∈ ([] : List Nat) ∨ w.heap.size ≤ g)) → J k D W₂) (hJx : ∀ k D W₁ W₂ M', Jx k D W₁ → Ext M' W₁ W₂ → (∀ g ∈ M', g ∉ D ∧ (g ∈ ([] : List Nat) ∨ w.heap.size ≤ g)) → Jx k D W₂) (hY : ∀ k D vs W₁, k < dn l → J k D W₁ → chE l k vs W₁ → (∀ g ∈ D, g < W₁.heap.size) → YCall Try.prog y vs W₁ fun b W₂ => ∃ D', Ext D W₁ W₂ ∧ (∀ g ∈ D', g < W₂.heap.size ∧ (g ∈ D ∨ W₁.heap.size ≤ g)) ∧ (b = true → J (k + 1) D' W₂) ∧ (b = false → Jx (k + 1) D' W₂)) (h0 : J 0 D₀ w) : Meets Try.prog 69 [y, .pointer (some ⟨b2, 0, none⟩), .pointer (some ⟨b3, 0, none⟩)] w (fun _ W₂ => (∃ D, J (dn l) D W₂ ∧ True) ∨ ∃ k D, k ≤ dn l ∧ Jx k D W₂ ∧ True) := by
  refine Meets.enter Try.func69 rfl 31 rfl (Nat.le_of_ble_eq_true rfl) ?_
  have hl := hb.len
  have hb2D : b2 ∉ D₀ := fun h => (hD _ h).2.1 (by simp [chF])
  have hb3D : b3 ∉ D₀ := fun h => (hD _ h).2.1 (by simp [chF])
  have haD : ∀ p, effA a l = some p → p.block ∉ D₀ := fun p hp h => (hD _ h).2.1 (chF_a hp)
  refine G.seq ?_
  refine G.region ?_
  refine L.val rfl rfl (R.as rfl) ?_
  refine L.nil ?_
  refine N.seq ?_
  refine G.block ?_
  refine G.loop (X := Nat) (fun i => [(0, y), (1, .pointer (some ⟨b2, 0, none⟩)), (2, .pointer (some ⟨b3, 0, none⟩)), (4, .int .i64 ((64 * i : Nat) : Int))]) (fun i w' => i ≤ dn l ∧ (∃ D, J i D w' ∧ ∀ g ∈ D, g < w'.heap.size ∧ (g ∈ D₀ ∨ w.heap.size ≤ g)) ∧ Ext D₀ w w') (fun i => dn l - i) (0) (Sub.cons rfl (Sub.cons rfl (Sub.cons rfl (Sub.cons rfl (Sub.nil _))))) ⟨Nat.zero_le _, ⟨D₀, h0, fun g hg => ⟨(hD g hg).1, .inl hg⟩⟩, Ext.refl _ _⟩ ?_
  rintro i w1 ⟨hi, ⟨D, hJi, hDD⟩, e1⟩
  have B2 := hB2.ext e1 hb2D
  have B3 := hB3.ext e1 hb3D
  have hb1 := hb.extE e1 haD
  refine G.seq ?_
  refine G.seq ?_
  refine G.region ?_
  refine L.val rfl rfl (R.mv rfl) ?_
  refine L.val rfl rfl (R.ldB rfl B2 rfl) ?_
  refine L.val rfl rfl (R.lenS rfl) ?_
  refine L.val rfl rfl (R.lss rfl rfl) ?_
  refine L.nil ?_
  refine N.seq ?_
  refine G.condP rfl (fun h0 => ?_) (fun h0 => ?_)
  · have hil : i < dn l := by omega
    have hbs := hb1.sub (64 * i) (64 * i + 64) 64 (by omega) (by omega)
    rw [show (l.drop (64 * i)).take 64 = blk l i from rfl] at hbs
    refine G.skip ?_
    refine N.seq ?_
    refine G.seq ?_
    refine G.block ?_
    refine G.seq ?_
    refine G.quiet (by decide +kernel) rfl ?_
    refine Q.val rfl rfl rfl rfl (fun w2 hE => R.ldB rfl (B3.ext0 hE) rfl) ?_
    refine Q.val rfl rfl rfl rfl (fun w2 hE => R.ldB rfl (B2.ext0 hE) rfl) ?_
    refine Q.val rfl rfl rfl rfl (fun w2 hE => R.mv rfl) ?_
    refine Q.val rfl rfl rfl rfl (fun w2 hE => R.slL rfl rfl (by omega) (by omega)) ?_
    refine Q.val rfl rfl rfl rfl (fun w2 hE => R.lenS rfl) ?_
    refine Q.val rfl rfl rfl rfl (fun w2 hE => R.min rfl rfl 64 (by split <;> omega)) ?_
    refine Q.val rfl rfl rfl rfl (fun w2 hE => R.as rfl) ?_
    refine Q.nil (fun w2 e2 => ?_)
    replace hJi := hJ i D _ _ [] hJi e2 (by simp)
    replace hDD := fun g hg => And.intro (Nat.lt_of_lt_of_le (hDD g hg).1 e2.size) (hDD g hg).2
    replace e1 := e1.trans0 e2
    replace B2 := B2.ext0 e2
    replace hbs := hbs.ext0 e2
    refine N.seq ?_
    refine G.seq ?_
    refine G.region ?_
    refine L.val rfl rfl (R.mv rfl) ?_
    refine L.val rfl rfl (R.ldB rfl B2 rfl) ?_
    refine L.val rfl rfl (R.mv rfl) ?_
    refine L.val rfl rfl (R.mv rfl) ?_
    refine L.val rfl rfl (R.mv rfl) ?_
    refine L.val rfl rfl (R.add rfl rfl (by omega)) ?_
    refine L.val rfl rfl (R.mv rfl) ?_
    refine L.val rfl rfl (R.mv rfl) ?_
    refine L.val rfl rfl (R.add rfl rfl (by omega)) ?_
    refine L.val rfl rfl (R.slLHM rfl rfl rfl rfl (by omega) (by omega) (by omega) (by omega)) ?_
    refine L.be 28 rfl (show _ = Value.slice (subA a (64 * i) (64 * i + 64) 1) 64 64 by rw [show (((64 * i : Nat) : Int)).toNat = 64 * i by omega, show (((64 * i : Nat) : Int) + 64).toNat = 64 * i + 64 by omega, Nat.add_sub_cancel_left]) ?_
    refine L.ycall rfl rfl rfl rfl (hY i D _ _ hil hJi ⟨_, _, rfl, Nat.le_refl _, hbs⟩ (fun g hg => (hDD g hg).1)) ?_
    rintro bb w3 ⟨D2, eD, hD2, hT, hF⟩
    refine L.val rfl rfl (R.not rfl) ?_
    refine L.nil ?_
    refine N.seq ?_
    refine G.condB rfl (fun h1 => ?_) (fun h1 => ?_)
    · obtain rfl : bb = false := by simpa using h1
      refine G.ret0 rfl ?_
      exact .inr ⟨i + 1, D2, by omega, hF rfl, trivial⟩
    · obtain rfl : bb = true := by simpa using h1
      refine G.skip ?_
      refine N.block ?_
      refine N.seq ?_
      refine G.region ?_
      refine L.val rfl rfl (R.mv rfl) ?_
      first | refine L.val rfl rfl (R.ldB rfl (hB3.ext (e1.transN eD (fun g hg => (hDD g hg).2)) hb3D) rfl) ?_ | refine L.val rfl rfl (R.ldB rfl B3 rfl) ?_
      refine L.val rfl rfl (R.add rfl rfl (by omega)) ?_
      refine L.be 12 rfl (show _ = Value.int .i64 ((64 * (i + 1) : Nat) : Int) by congr 1) ?_
      refine L.val rfl rfl (R.as rfl) ?_
      refine L.nil ?_
      exact N.again (i + 1) (by omega) (Sub.cons rfl (Sub.cons rfl (Sub.cons rfl (Sub.cons rfl (Sub.nil _))))) ⟨by omega, ⟨D2, hT rfl, fun g hg => ⟨(hD2 g hg).1, (hD2 g hg).2.elim (fun h => (hDD g h).2) (fun h => .inr (Nat.le_trans e1.size h))⟩⟩, e1.transN eD (fun g hg => (hDD g hg).2)⟩
  · refine G.exit _ rfl ?_
    refine N.end0 rfl ?_
    obtain rfl : i = dn l := by omega
    exact .inl ⟨D, hJi, trivial⟩

theorem chunk_iter (b2 b3 : Nat) (a : Option Addr) (n c : Nat) (l : List UInt8) (w : World) (hB2 : Blk w b2 #[.slice a n c] 36 (0, 0)) (hB3 : Blk w b3 #[.int .i64 64] 3 (0, 0)) (hb : Bs w a n l) (hc : n ≤ c) (hn : n ≤ 1000000) (hm : l.length = 64 * dn l) :
    Iter Try.prog 69 [.pointer (some ⟨b2, 0, none⟩), .pointer (some ⟨b3, 0, none⟩)] w (dn l) (chE l) (fun _ _ => True) (chF (effA a l) b2 b3) [] := by
  intro y D₀ J Jx W hE hD hJ hJx hY h0
  exact chunk1_ok y b2 b3 a n c l D₀ J Jx W (hB2.ext0 hE) (hB3.ext0 hE) (hb.ext0 hE) hc hn hm hD (fun k D W₁ W₂ M' h he hm => hJ k D W₁ W₂ M' h he (fun g hg => ⟨(hm g hg).1, (hm g hg).2.imp id (Nat.le_trans hE.size)⟩)) (fun k D W₁ W₂ M' h he hm => hJx k D W₁ W₂ M' h he (fun g hg => ⟨(hm g hg).1, (hm g hg).2.imp id (Nat.le_trans hE.size)⟩)) hY h0

end Go.Proofs.Ytmbppidafnakhaa
/-
  The walks of package dev.
-/
set_option linter.unusedVariables false
set_option linter.unusedSimpArgs false
namespace Go.Proofs.Ytmbppidafnakhaa
open Go Brv Brv.Image Brv.Dev
theorem DevL.still {w w' : World} {d : Nat} {v : DevV} {sz : Nat} {sa : Option Addr} {sc : Nat} {wa : Option Addr} {wc : Nat} {Ms Mw : List Nat} (h : DevL w d v sz sa sc wa wc Ms Mw) (hs : Still w w') : DevL w' d v sz sa sc wa wc Ms Mw := ⟨h.hd.still hs, h.wf, h.hN, h.st.still hs, h.wt.still hs⟩
def IsT1 (x : Nat × List UInt8) (v : Value) (w : World) : Prop := ∃ g, v = .slice (some ⟨g, 0, none⟩) 1 1 ∧ Cells w (some ⟨g, 0, none⟩) (waitC x)
theorem IsT1.keep (x : Nat × List UInt8) : ∀ v w w', Ext [] w w' → IsT1 x v w → IsT1 x v w' := fun _ _ _ he ⟨g, hv, hc⟩ => ⟨g, hv, hc.ext0 he⟩
theorem DevL.push {w w₁ w' : World} {d : Nat} {v v' : DevV} {sz : Nat} {sa : Option Addr} {sc : Nat} {wa : Option Addr} {wc : Nat} {Ms Mw : List Nat} {u : Value} (D : DevL w d v sz sa sc wa wc Ms Mw) (h : Held Mw w.heap.size 96 65 v'.wt.length (waitsC v'.wt) u w₁) (hJ : Ext Mw w w₁) (hp : Put w₁ d (#[.slice sa v.stay.length sc, .slice wa v.wt.length wc, .int .i64 v.calls, .int .i64 v.left, .bool v.off].setIfInBounds 1 u) 71 w') (wf : v'.Wf sz) (h1 : v'.stay = v.stay) (h2 : v'.calls = v.calls) (h3 : v'.left = v.left) (h4 : v'.off = v.off) :
    ∃ wa2 wc2 Mw2, DevL w' d v' sz sa sc wa2 wc2 Ms Mw2 ∧ Ext (d :: Mw) w w' ∧ ∀ g ∈ Mw2, g ∈ Mw ∨ w.heap.size ≤ g := by
  obtain ⟨a1, a2, a3⟩ := D.apart
  obtain ⟨wa2, wc2, Mw2, rfl, o, hM⟩ := h
  obtain ⟨e, hsz, B⟩ := hp
  have hl := D.hd.lt
  refine ⟨wa2, wc2, Mw2, ⟨by rw [h1, h2, h3, h4]; exact B, wf, D.hN, ?_, o.ext e (fun g hg hm => ?_)⟩, hJ.trans e (fun x hx => .inl (by simp [hx])) (fun x hx => .inl (by rw [List.mem_singleton.1 hx]; simp)), hM⟩
  · rw [h1]
    exact (D.st.ext hJ (fun g hg hm => a3 g hg hm)).ext e (fun g hg hm => a1 (by rw [List.mem_singleton.1 hm] at hg; exact hg))
  · rw [List.mem_singleton.1 hm] at hg
    exact (hM _ hg).elim a2 (by omega)
def wI (d sz : Nat) (v1 : DevV) (i : Nat) (l : List UInt8) (sa : Option Addr) (sc : Nat) (Ms Mw : List Nat) (b3 b4 : Nat) (w0 : World) (k : Nat) (D : List Nat) (W : World) : Prop :=
  ∃ wa wc Mw', D = d :: b4 :: Mw' ∧ DevL W d { v1 with wt := v1.wt ++ secsF i l k } sz sa sc wa wc Ms Mw' ∧ Blk W b3 #[.pointer (some ⟨d, 0, none⟩)] 24 (0, 0) ∧ Blk W b4 #[.int .i64 ((i + k : Nat) : Int)] 3 (0, 0) ∧ (∀ g ∈ Mw', g ∈ Mw ∨ w0.heap.size ≤ g) ∧ b4 ∉ Mw' ∧ Ext (d :: (Ms ++ Mw)) w0 W
theorem wI_keep {d sz : Nat} {v1 : DevV} {i : Nat} {l : List UInt8} {sa : Option Addr} {sc : Nat} {Ms Mw : List Nat} {b3 b4 : Nat} {w0 : World} {k s : Nat} {D M' : List Nat} {W W' : World} (hs : w0.heap.size ≤ s) (hMs : ∀ g ∈ Ms, g < s) (h3 : b3 < s) (h : wI d sz v1 i l sa sc Ms Mw b3 b4 w0 k D W) (he : Ext M' W W') (hm : ∀ g ∈ M', g ∉ D ∧ (g ∈ ([] : List Nat) ∨ s ≤ g)) : wI d sz v1 i l sa sc Ms Mw b3 b4 w0 k D W' := by
  obtain ⟨wa, wc, Mw', rfl, DD, B3, B4, hMw, h4, E⟩ := h
  have hge : ∀ g ∈ M', s ≤ g := fun g hg => (hm g hg).2.elim (fun h => by cases h) id
  refine ⟨wa, wc, Mw', rfl, DD.ext he (fun y hy hmem => ?_), B3.ext he (fun h => by have := hge _ h; omega), B4.ext he (fun h => (hm _ h).1 (by simp)), hMw, h4, E.transN he (fun g hg => .inr (Nat.le_trans hs (hge g hg)))⟩
  rcases List.mem_cons.1 hy with rfl | hy
  · exact (hm _ hmem).1 (by simp)
  rcases List.mem_append.1 hy with hy | hy
  · have := hge _ hmem; have := hMs y hy; omega
  · exact (hm _ hmem).1 (by simp [hy])

theorem dwrite_ok (d : Nat) (v : DevV) (sz : Nat) (S : List Nat) (p : Int) (ba : Option Addr) (bn bc : Nat) (l : List UInt8) (w : World) (hd : DevAt w d v sz S) (hcb : 0 ≤ v.calls ∧ v.calls ≤ 1000000000) (hwb : v.wt.length ≤ 1000000) (hb : Bs w ba bn l) (hbc : bn ≤ bc) (hbn : bn ≤ 1000000) (hbS : ∀ q, effA ba l = some q → q.block ∉ S ∧ q.block < w.heap.size) : Meets Try.prog 33 [.pointer (some ⟨d, 0, none⟩), .int .i64 p, .slice ba bn bc] w (fun r w' => r = .int .i64 (writeV v sz p l).2 ∧ ∃ S', Grown S S' w w' ∧ DevAt w' d (writeV v sz p l).1 sz S') := by
  refine Meets.enter Try.func33 rfl 50 rfl (Nat.le_of_ble_eq_true rfl) ?_
  have E := Ext.refl [] w
  have hd0 := hd
  obtain ⟨sa, sc, wa, wc, Ms, Mw, D, rfl⟩ := hd
  replace E : Ext (d :: (Ms ++ Mw)) w w := Ext.refl _ _
  have hl := hb.len
  have hsN := D.hN
  have hdl : dn l = l.length / 64 := rfl
  have hcs := callV_same v
  have hlt0 := D.lt
  refine G.seq ?_
  refine G.region ?_
  refine L.do rfl rfl (R.box rfl) ?_
  rintro _ w1 ⟨b3, rfl, hb3, hs1, e1, B3⟩
  replace B3 : Blk w1 b3 #[.pointer (some ⟨d, 0, none⟩)] 24 (0, 0) := B3
  replace E := E.trans0 e1
  refine L.do rfl rfl (R.box rfl) ?_
  rintro _ w2 ⟨b4, rfl, hb4, hs2, e2, B4⟩
  replace B4 : Blk w2 b4 #[.int .i64 p] 3 (0, 0) := B4
  replace E := E.trans0 e2
  replace B3 := B3.ext0 e2
  have e12 := e1.trans0 e2
  replace D := D.ext0 e12
  have hd2 := hd0.ext0 e12
  have hb2 := hb.ext0 e12
  refine L.val rfl rfl (R.as rfl) ?_
  refine L.nil ?_
  refine N.seq ?_
  refine G.seq ?_
  refine G.seq ?_
  refine G.region ?_
  refine L.val rfl rfl (R.ldB rfl B3 rfl) ?_
  refine L.callF rfl rfl rfl go50 (dable_ok d v sz _ _ hd2) ?_
  rintro _ _ ⟨rfl, hw⟩
  obtain rfl := hw.symm
  refine L.val rfl rfl (R.as rfl) ?_
  refine L.nil ?_
  refine N.seq ?_
  refine G.seq ?_
  by_cases ho : v.off = true
  · rw [if_pos ho]
    have hf : writeV v sz p l = (v, 10) := if_pos ho
    refine G.region ?_
    refine L.val rfl rfl (R.mv rfl) ?_
    refine L.val rfl rfl (R.neI rfl rfl) ?_
    refine L.nil ?_
    refine N.seq ?_
    refine G.condT rfl ?_
    refine G.seq ?_
    refine G.region ?_
    refine L.val rfl rfl (R.mv rfl) ?_
    refine L.val rfl rfl (R.as rfl) ?_
    refine L.nil ?_
    refine N.seq ?_
    refine G.ret1 rfl rfl ?_
    first
      | (rw [hf]; exact ⟨rfl, _, Grown.of0 _ e12, hd2⟩)
      | (rw [hf]; exact ⟨rfl, _, ⟨E, fun g hg => .inl hg⟩, sa, sc, wa, wc, Ms, Mw, D1, rfl⟩)
      | (rw [hf]; exact ⟨rfl, d :: (Ms ++ Mw1), ⟨E.transN (Ext.putObj _ _ _) (fun g hg => .inr (by rw [List.mem_singleton.1 hg]; omega)), hG⟩, sa, sc, wa1, wc1, Ms, Mw1, D.still hst, rfl⟩)
  · rw [if_neg ho]
    refine G.region ?_
    refine L.val rfl rfl (R.mv rfl) ?_
    refine L.val rfl rfl (R.neI rfl rfl) ?_
    refine L.nil ?_
    refine N.seq ?_
    refine G.condF rfl ?_
    refine G.skip ?_
    refine N.seq ?_
    refine G.seq ?_
    refine G.block ?_
    refine G.seq ?_
    refine G.region ?_
    refine L.val rfl rfl (R.mv rfl) ?_
    refine L.val rfl rfl (R.lenS rfl) ?_
    refine L.val rfl rfl (R.rem rfl rfl (by omega) (by omega)) ?_
    refine L.val rfl rfl (R.neI rfl rfl) ?_
    refine L.val rfl rfl (R.as rfl) ?_
    refine L.nil ?_
    refine N.seq ?_
    refine G.condP rfl (fun h1 => ?_) (fun h1 => ?_)
    · have hf : writeV v sz p l = (v, 2) := by unfold writeV; rw [if_neg ho, if_pos (by omega)]
      refine G.seq ?_
      refine G.region ?_
      refine L.val rfl rfl (R.as rfl) ?_
      refine L.nil ?_
      refine N.seq ?_
      refine G.ret1 rfl rfl ?_
      first
        | (rw [hf]; exact ⟨rfl, _, Grown.of0 _ e12, hd2⟩)
        | (rw [hf]; exact ⟨rfl, _, ⟨E, fun g hg => .inl hg⟩, sa, sc, wa, wc, Ms, Mw, D1, rfl⟩)
        | (rw [hf]; exact ⟨rfl, d :: (Ms ++ Mw1), ⟨E.transN (Ext.putObj _ _ _) (fun g hg => .inr (by rw [List.mem_singleton.1 hg]; omega)), hG⟩, sa, sc, wa1, wc1, Ms, Mw1, D.still hst, rfl⟩)
    · have hm : l.length = 64 * dn l := by omega
      refine G.seq ?_
      refine G.region ?_
      refine L.val rfl rfl (R.ldB rfl B3 rfl) ?_
      refine L.val rfl rfl (R.ldB rfl B4 rfl) ?_
      refine L.val rfl rfl (R.mv rfl) ?_
      refine L.val rfl rfl (R.lenS rfl) ?_
      refine L.val rfl rfl (R.quo rfl rfl (by omega) (by omega)) ?_
      refine L.be 24 rfl (show _ = Value.int .i64 (dn l : Int) by congr 1; omega) ?_
      refine L.callF rfl rfl rfl go51 (dthere_ok d v sz _ p (dn l : Int) _ hd2) ?_
      rintro _ _ ⟨rfl, hw⟩
      obtain rfl := hw.symm
      refine L.val rfl rfl (R.not rfl) ?_
      refine L.be 26 rfl (show _ = Value.bool (decide (¬ thereP sz p (dn l))) by simp) ?_
      refine L.val rfl rfl (R.as rfl) ?_
      refine L.nil ?_
      refine N.seq ?_
      refine G.condP rfl (fun h2 => ?_) (fun h2 => ?_)
      · have hf : writeV v sz p l = (v, 11) := by unfold writeV; rw [if_neg ho, if_neg (by omega), if_pos h2]
        refine G.seq ?_
        refine G.region ?_
        refine L.val rfl rfl (R.as rfl) ?_
        refine L.nil ?_
        refine N.seq ?_
        refine G.ret1 rfl rfl ?_
        first
          | (rw [hf]; exact ⟨rfl, _, Grown.of0 _ e12, hd2⟩)
          | (rw [hf]; exact ⟨rfl, _, ⟨E, fun g hg => .inl hg⟩, sa, sc, wa, wc, Ms, Mw, D1, rfl⟩)
          | (rw [hf]; exact ⟨rfl, d :: (Ms ++ Mw1), ⟨E.transN (Ext.putObj _ _ _) (fun g hg => .inr (by rw [List.mem_singleton.1 hg]; omega)), hG⟩, sa, sc, wa1, wc1, Ms, Mw1, D.still hst, rfl⟩)
      · have ht : thereP sz p (dn l) := Classical.not_not.1 h2
        have ht2 := ht
        unfold thereP at ht2
        obtain ⟨i, rfl⟩ := Int.eq_ofNat_of_zero_le ht2.1
        have hin : i + dn l ≤ sz := by omega
        refine G.seq ?_
        refine G.region ?_
        refine L.val rfl rfl (R.ldB rfl B3 rfl) ?_
        refine L.callF rfl rfl rfl go52 (dcallL_ok d v sz sa sc wa wc Ms Mw _ D hcb) ?_
        rintro _ w3 ⟨rfl, e3, D1⟩
        obtain ⟨v1, hv1⟩ : ∃ v1, v1 = (callV v).1 := ⟨_, rfl⟩
        rw [← hv1] at D1 hcs
        have hdlt := hlt0 d (by simp)
        replace E := E.transN e3 (fun g hg => .inl (by rw [List.mem_singleton.1 hg]; simp))
        replace B3 := B3.ext e3 (by simp; omega)
        replace B4 := B4.ext e3 (by simp; omega)
        have hb3 := hb2.extE e3 (fun q hq hm => (hbS q hq).1 (by rw [List.mem_singleton.1 hm]; simp))
        have hv1w : v1.wt.length ≤ 1000000 := by rw [hcs.2]; exact hwb
        refine L.val rfl rfl (R.not rfl) ?_
        refine L.val rfl rfl (R.as rfl) ?_
        refine L.nil ?_
        refine N.seq ?_
        refine G.condB rfl (fun h3 => ?_) (fun h3 => ?_)
        · have hcf : (callV v).2 = false := by simpa using h3
          have hf : writeV v sz (i : Int) l = (v1, 10) := by unfold writeV; rw [if_neg ho, if_neg (by omega), if_neg (by simpa using ht), if_neg (by simp [hcf]), hv1]
          refine G.seq ?_
          refine G.region ?_
          refine L.val rfl rfl (R.as rfl) ?_
          refine L.nil ?_
          refine N.seq ?_
          refine G.ret1 rfl rfl ?_
          first
            | (rw [hf]; exact ⟨rfl, _, Grown.of0 _ e12, hd2⟩)
            | (rw [hf]; exact ⟨rfl, _, ⟨E, fun g hg => .inl hg⟩, sa, sc, wa, wc, Ms, Mw, D1, rfl⟩)
            | (rw [hf]; exact ⟨rfl, d :: (Ms ++ Mw1), ⟨E.transN (Ext.putObj _ _ _) (fun g hg => .inr (by rw [List.mem_singleton.1 hg]; omega)), hG⟩, sa, sc, wa1, wc1, Ms, Mw1, D.still hst, rfl⟩)
        · have hcf : (callV v).2 = true := by simpa using h3
          have hf : writeV v sz (i : Int) l = ({ v1 with wt := v1.wt ++ secsF i l (dn l) }, 0) := by unfold writeV; rw [if_neg ho, if_neg (by omega), if_neg (by simpa using ht), if_pos hcf, hv1]; rfl
          refine G.skip ?_
          refine N.block ?_
          refine N.seq ?_
          refine G.seq ?_
          refine G.seq ?_
          refine G.region ?_
          refine L.val rfl rfl (R.mv rfl) ?_
          refine L.callF rfl rfl rfl go53 (chunk_ok ba bn bc _) ?_
          rintro _ w4 ⟨c2, c3, rfl, e4, C2, C3, hc2, hc3⟩
          replace E := E.trans0 e4
          have hE3 := e3.size
          have hE4 := e4.size
          replace D1 := D1.ext0 e4
          replace B3 := B3.ext0 e4
          replace B4 := B4.ext0 e4
          replace hb3 := hb3.ext0 e4
          have hE4w := E.size
          have l3 := B3.lt
          have l4 := B4.lt
          have lC2 := C2.lt
          have lC3 := C3.lt
          have hwD := D1.wt.typ
          refine L.nil ?_
          refine N.seq ?_
          refine G.block ?_
          have hD0 : ∀ y ∈ d :: b4 :: Mw, y < w4.heap.size ∧ y ∉ chF (effA ba l) c2 c3 ∧ y ∉ ([] : List Nat) := by
            intro y hy
            have hyc : y = b4 ∨ y ∈ (d :: (Ms ++ Mw)) := by
              simp only [List.mem_cons] at hy ⊢
              rcases hy with h | h | h
              · exact .inr (.inl h)
              · exact .inl h
              · exact .inr (.inr (List.mem_append.2 (.inr h)))
            rcases hyc with rfl | hyS
            · refine ⟨l4, fun h => ?_, by simp⟩
              rcases chF_mem h with h | h | ⟨q, hq, h⟩
              · omega
              · omega
              · have := (hbS q hq).2; omega
            · have hylt := hlt0 y hyS
              refine ⟨by omega, fun h => ?_, by simp⟩
              rcases chF_mem h with h | h | ⟨q, hq, h⟩
              · omega
              · omega
              · exact (hbS q hq).1 (h ▸ hyS)
          have hF0 : ∀ y, y ∈ chF (effA ba l) c2 c3 ∨ y ∈ ([] : List Nat) → y < w4.heap.size := by
            rintro y (h | h)
            · rcases chF_mem h with h | h | ⟨q, hq, h⟩
              · omega
              · omega
              · have := (hbS q hq).2; omega
            · cases h
          have hn4 : b4 ∉ Mw := fun h => by have := hlt0 b4 (by simp [h]); omega
          have hI0 : wI d sz v1 i l sa sc Ms Mw b3 b4 w 0 (d :: b4 :: Mw) w4 := ⟨wa, wc, Mw, rfl, by simpa [secsF] using D1, B3, B4, fun g hg => .inl hg, hn4, E⟩
          have hMsl : ∀ g ∈ Ms, g < w4.heap.size := fun g hg => by have := hlt0 g (by simp [hg]); omega
          refine G.range (lb := [.pointer (some ⟨c2, 0, none⟩), .pointer (some ⟨c3, 0, none⟩)]) rfl rfl go69 (chunk_iter c2 c3 ba bn bc l _ C2 C3 hb3 hbc hbn hm) (fun _ _ _ h _ => h) (d :: b4 :: Mw) hD0 hF0 (wI d sz v1 i l sa sc Ms Mw b3 b4 w) (fun _ _ _ _ => False) (fun k D W1 W2 M2 h he hm => wI_keep hE4w hMsl l3 h he hm) (fun _ _ _ _ _ _ h _ _ => h) hI0 ?_ ?_ ?_
          · rintro q k D vs W1 hl2 hlt hlD hDl hk hIk ⟨a, c, rfl, hac, hbk⟩
            refine ⟨rfl, ?_⟩
            refine G.sub [(33, .slice a 64 c), (3, .pointer (some ⟨b3, 0, none⟩)), (4, .pointer (some ⟨b4, 0, none⟩))] (Sub.cons rfl (Sub.cons rfl (Sub.cons rfl (Sub.nil _)))) ?_
            refine G.region ?_
            refine L.val rfl rfl (R.as rfl) ?_
            refine L.nil ?_
            refine N.round (Ext.refl _ _) (fun wb hb1 hb2 => ?_)
            obtain ⟨wa1, wc1, Mw1, rfl, D, B3, B4, hMw1, hn41, E⟩ := hIk
            replace hbk := hbk.still hb2
            replace B3 := B3.still hb2
            replace B4 := B4.still hb2
            replace D := D.still hb2
            replace E := E.transN hb1 (fun g hg => .inr (by rw [List.mem_singleton.1 hg]; omega))
            have hb64 := blk_length hk
            obtain ⟨pa, hpa⟩ : ∃ pa, a = some pa := by
              cases a with
              | none => have := hbk.none.2; cases this
              | some pa => exact ⟨pa, rfl⟩
            subst hpa
            have hx65 : (waitC ((i + k, blk l k) : Nat × List UInt8)).length = 65 := waitC_length hb64
            have hEb := E.size
            have l3b := B3.lt
            have l4b := B4.lt
            have hap := D.apart
            have hdb := D.hd.lt
            have h3d : b3 ≠ d := by omega
            have h4d : b4 ≠ d := by omega
            have hwln : (v1.wt ++ secsF i l k).length = v1.wt.length + k := by rw [List.length_append, secsF_length]
            have hwf2 : ({ v1 with wt := v1.wt ++ secsF i l (k + 1) } : DevV).Wf sz := secs_wf (hv1 ▸ callV_wf hd0.wf.1) hin hk
            have hn3 : b3 ∉ Mw1 := fun h => by obtain ⟨_, hq⟩ := D.wt.typ b3 h; exact B3.ne hq (by decide) rfl
            refine G.block ?_
            refine G.seq ?_
            have hI : ∀ kq w', stage [Ext [] wb, Ext Mw1 wb, fun w' => ∃ wa2 wc2 Mw2, DevL w' d { v1 with wt := v1.wt ++ secsF i l (k + 1) } sz sa sc wa2 wc2 Ms Mw2 ∧ Ext (d :: Mw1) wb w' ∧ ∀ g ∈ Mw2, g ∈ Mw1 ∨ wb.heap.size ≤ g] kq w' → (Ext (d :: Mw1) wb) w' := fun kq w' hs => stage_all (I := Ext (d :: Mw1) wb) (by
              intro Ψ hΨ w' hJ
              simp only [List.mem_cons, List.not_mem_nil, or_false] at hΨ
              rcases hΨ with rfl | rfl | rfl
              · exact hJ.mono (by simp)
              · exact hJ.mono (fun g hg => .inl (List.mem_cons_of_mem _ hg))
              · exact hJ.elim fun _ h => h.elim fun _ h => h.elim fun _ h => h.2.1) hs
            refine G.staged [11, 14] [.blocks (Mw1), .blocks ([d])] [Ext [] wb, Ext Mw1 wb, fun w' => ∃ wa2 wc2 Mw2, DevL w' d { v1 with wt := v1.wt ++ secsF i l (k + 1) } sz sa sc wa2 wc2 Ms Mw2 ∧ Ext (d :: Mw1) wb w' ∧ ∀ g ∈ Mw2, g ∈ Mw1 ∨ wb.heap.size ≤ g] [(11, 44), (14, 44), (14, 45)] (by decide +kernel) (by decide +kernel) rfl rfl rfl (fun _ h => h) ?_
            refine Z.readI (I := Ext (d :: Mw1) wb) hI rfl rfl rfl rfl rfl (fun w5 hJ => R.ldB rfl (B3.ext hJ (by simp [h3d, hn3])) rfl) ?_
            refine Z.readI (I := Ext (d :: Mw1) wb) hI rfl rfl rfl rfl rfl (fun w5 hJ => R.ldB rfl (B3.ext hJ (by simp [h3d, hn3])) rfl) ?_
            refine Z.val rfl rfl rfl rfl rfl (fun w5 => R.nilChk rfl) ?_
            refine Z.val rfl rfl rfl rfl rfl (fun w5 => R.fld rfl) ?_
            refine Z.read 0 (by decide +kernel) rfl rfl rfl rfl rfl rfl (fun w5 hJ => R.ldB rfl (D.hd.ext0 hJ) rfl) ?_
            refine Z.read 0 (by decide +kernel) rfl rfl rfl rfl rfl rfl (fun w5 hJ => R.ldB rfl (B4.ext0 hJ) rfl) ?_
            refine Z.val rfl rfl rfl rfl rfl (fun w5 => R.mv rfl) ?_
            refine Z.val rfl rfl rfl rfl rfl (fun w5 => R.s2ap rfl (by decide)) ?_
            refine Z.read 0 (by decide +kernel) rfl rfl rfl rfl rfl rfl (fun w5 hJ => R.ldN rfl (hbk.ext0 hJ).cells (by rw [vbs_length, hb64])) ?_
            refine Z.val rfl rfl rfl rfl rfl (fun w5 => R.build (cs := (waitC ((i + k, blk l k) : Nat × List UInt8)).toArray) rfl (fill_two rfl rfl rfl (by rw [List.size_toArray, vbs_length, hb64]) rfl)) ?_
            refine Z.new (A := IsT1 ((i + k, blk l k) : Nat × List UInt8)) (Lasts.kill (IsT1.keep _) (by decide +kernel)) 0 (by decide +kernel) rfl rfl rfl rfl rfl (fun w5 hJ => (R.buildA rfl rfl rfl rfl (by show (Nat.beq (waitC ((i + k, blk l k) : Nat × List UInt8)).toArray.size 65 && true) = true; rw [List.size_toArray, hx65]; rfl)).mono (fun v w1 h => by obtain ⟨g, rfl, _, _, e9, B9⟩ := h; exact ⟨⟨g, rfl, Cells.of_blk B9 0 _ (fun j u hj => by simpa [cellsOf, Value.cells] using hj)⟩, e9, hJ.trans0 e9⟩)) ?_
            refine Z.put (A := Held Mw1 wb.heap.size 96 65 (v1.wt ++ secsF i l (k + 1)).length (waitsC (v1.wt ++ secsF i l (k + 1)))) (Lasts.kill (Held.keep _ _ _ _ _ _) (by decide +kernel)) 0 (by decide +kernel) rfl rfl rfl rfl rfl rfl rfl (fun w5 hJ => by rintro v ⟨g, rfl, hc⟩; exact (R.app rfl rfl (D.wt.ext0 hJ) hc hx65 (waitC_one _) (by show (v1.wt ++ secsF i l k).length + 1 ≤ _; rw [hwln]; simp [maxLen]; omega) (by show ((v1.wt ++ secsF i l k).length + 1) * _ ≤ _; rw [hwln]; omega)).mono (fun _ _ h => Held.app h hJ (by show (v1.wt ++ secsF i l k).length + 1 = _; rw [List.length_append, List.length_append, secsF_length, secsF_length]; omega) (by rw [secsF_succ, ← List.append_assoc, waitsC_append (v1.wt ++ secsF i l k)]; simp [waitsC]))) ?_
            refine Z.val rfl rfl rfl rfl rfl (fun w5 => R.nilChk rfl) ?_
            refine Z.val rfl rfl rfl rfl rfl (fun w5 => R.fld rfl) ?_
            refine Z.set 1 (by decide +kernel) rfl rfl rfl rfl rfl rfl (fun w5 hJ => fun v hv => (R.st rfl rfl (D.hd.ext hJ hap.2.1) (by show 1 < 5; decide) (by obtain ⟨_, _, _, rfl, _⟩ := hv; rfl)).mono (fun _ h => ⟨h.1, by exact D.push hv hJ h hwf2 rfl rfl rfl rfl⟩)) ?_
            refine Z.nil rfl rfl (fun w5 hJ => ?_)
            obtain ⟨wa2, wc2, Mw2, D2, e12b, hMw2⟩ := hJ
            have X : Ext (d :: b4 :: Mw1) wb _ := e12b.mono (fun g hg => .inl (by simp at hg ⊢; rcases hg with h | h <;> simp [h]))
            replace B3 := B3.ext e12b (by simp [h3d, hn3])
            replace B4 := B4.ext e12b (by simp [h4d, hn41])
            replace E := E.transN e12b (fun g hg => (List.mem_cons.1 hg).elim (fun h => .inl (by simp [h])) (fun h => (hMw1 g h).imp (fun h => by simp [h]) id))
            have hn42 : b4 ∉ Mw2 := fun h => by obtain ⟨_, hq⟩ := D2.wt.typ b4 h; exact B4.ne hq (by decide) rfl
            have hs12 := e12b.size
            refine N.seq ?_
            refine G.region ?_
            refine L.val rfl rfl (R.ldB rfl B4 rfl) ?_
            refine L.val rfl rfl (R.add rfl rfl (by omega)) ?_
            refine L.set rfl (R.st rfl rfl B4 (by show 0 < 1; decide) rfl) ?_
            rintro w9 ⟨e9, hs9, B4n⟩
            replace B4 : Blk w9 b4 #[.int .i64 ((i + (k + 1) : Nat) : Int)] 3 (0, 0) := B4n
            replace B3 := B3.ext e9 (by simp; omega)
            have hb4n : ∀ y ∈ d :: (Ms ++ Mw2), y ∉ [b4] := by
              intro y hy hm
              rw [List.mem_singleton.1 hm] at hy
              exact (List.mem_cons.1 hy).elim h4d (fun h => (List.mem_append.1 h).elim (fun h => by have := hlt0 b4 (by simp [h]); omega) hn42)
            replace D2 := D2.ext e9 hb4n
            replace E := E.transN e9 (fun g hg => .inr (by rw [List.mem_singleton.1 hg]; omega))
            replace X := X.transN e9 (fun g hg => .inl (by rw [List.mem_singleton.1 hg]; simp))
            have hlt2 := D2.lt
            have hD2 : ∀ g ∈ d :: b4 :: Mw2, g < w9.heap.size ∧ (g ∈ d :: b4 :: Mw1 ∨ wb.heap.size ≤ g) := by
              intro g hg
              simp only [List.mem_cons] at hg
              rcases hg with rfl | rfl | hg
              · exact ⟨hlt2 _ (by simp), .inl (by simp)⟩
              · exact ⟨B4.lt, .inl (by simp)⟩
              · exact ⟨hlt2 _ (by simp [hg]), (hMw2 g hg).imp (fun h => by simp [h]) id⟩
            refine L.nil ?_
            refine N.block ?_
            refine N.done fun _ _ => ?_
            exact ⟨d :: b4 :: Mw2, X, hD2, wa2, wc2, Mw2, rfl, D2, B3, B4, fun g hg => (hMw2 g hg).elim (hMw1 g) (fun h => .inr (by omega)), hn42, E⟩
          · rintro d2 DD W2 hd2 hdD hK ⟨wa1, wc1, Mw1, rfl, D, B3, B4, hMw1, hn41, E⟩ _
            have hst := Still.putObj (.deferred none) hK rfl
            have hG : ∀ g ∈ d :: (Ms ++ Mw1), g ∈ (d :: (Ms ++ Mw)) ∨ w.heap.size ≤ g := fun g hg => (List.mem_cons.1 hg).elim (fun h => .inl (by simp [h])) (fun h => (List.mem_append.1 h).elim (fun h => .inl (by simp [h])) (fun h => (hMw1 g h).imp (fun h => by simp [h]) id))
            refine N.block ?_
            refine N.seq ?_
            refine G.seq ?_
            refine G.region ?_
            refine L.val rfl rfl (R.as rfl) ?_
            refine L.nil ?_
            refine N.seq ?_
            refine G.ret1M rfl rfl (leave1 hK) ?_
            first
              | (rw [hf]; exact ⟨rfl, _, Grown.of0 _ e12, hd2⟩)
              | (rw [hf]; exact ⟨rfl, _, ⟨E, fun g hg => .inl hg⟩, sa, sc, wa, wc, Ms, Mw, D1, rfl⟩)
              | (rw [hf]; exact ⟨rfl, d :: (Ms ++ Mw1), ⟨E.transN (Ext.putObj _ _ _) (fun g hg => .inr (by rw [List.mem_singleton.1 hg]; omega)), hG⟩, sa, sc, wa1, wc1, Ms, Mw1, D.still hst, rfl⟩)
          · rintro _ _ _ _ _ _ _ _ _ h _
            exact h.elim

end Go.Proofs.Ytmbppidafnakhaa
/-
  Arrays of bytes among a row's arguments.
-/
set_option linter.unusedVariables false
namespace Brv
open Go
/-- A slice of bools. -/
theorem Rd.bools {P : Program} {w : World} {f : Nat} {T E : TypeId} (hT : P.underlying T = some (.slice E)) [t : TyBool P E] (hby : P.bytesOf E = 1) {cs : List Value} (h : Rd P w f T cs) :
    ∃ a n c, ∃ l : List Bool, cs = [.slice a n c] ∧ n ≤ c ∧ c ≤ 140737488351232 ∧ Cells w a (l.map Value.bool) ∧ n = l.length := by
  cases f with
  | zero => exact h.elim
  | succ f =>
    unfold Rd at h
    rw [hT] at h
    obtain ⟨a, n, c, rfl, hnc, ha, hb, vss, hl, hcell, hv⟩ := h
    have hex : ∃ l : List Bool, vss = l.map (fun b => [Value.bool b]) := by
      clear hcell hl
      induction vss with
      | nil => exact ⟨[], rfl⟩
      | cons vs r ih =>
        obtain ⟨b, rfl⟩ := (hv vs (by simp)).2.bool
        obtain ⟨l, rfl⟩ := ih (fun x hx => hv x (by simp [hx]))
        exact ⟨b :: l, rfl⟩
    obtain ⟨l, rfl⟩ := hex
    refine ⟨a, n, c, l, rfl, hnc, by rw [hby] at hb; omega, ?_, by simpa using hl.symm⟩
    have : (l.map (fun b => [Value.bool b])).flatten = l.map Value.bool := by
      clear hcell hl hv
      induction l with
      | nil => rfl
      | cons b r ih => simp [ih]
    rw [this] at hcell; exact hcell
end Brv
/-
  Assertions that own blocks, apart from one another, and what they say of a world.
-/
set_option linter.unusedVariables false
set_option linter.unusedSimpArgs false
namespace Brv
open Go

def Apart (X Y : List Nat) : Prop := ∀ b ∈ X, b ∉ Y
theorem Apart.symm {X Y : List Nat} (h : Apart X Y) : Apart Y X := fun b hb hx => h b hx hb
theorem Apart.nilL (Y : List Nat) : Apart [] Y := fun _ h => by cases h
theorem Apart.nilR (X : List Nat) : Apart X [] := fun _ _ h => by cases h
theorem Apart.mono {X Y X' Y' : List Nat} (h : Apart X Y) (hx : X' ⊆ X) (hy : Y' ⊆ Y) : Apart X' Y' := fun b hb hb' => h b (hx hb) (hy hb')
theorem Apart.appL {X Y Z : List Nat} (h : Apart X Z) (k : Apart Y Z) : Apart (X ++ Y) Z := fun b hb => (List.mem_append.1 hb).elim (h b) (k b)
theorem Apart.appR {X Y Z : List Nat} (h : Apart X Y) (k : Apart X Z) : Apart X (Y ++ Z) := (h.symm.appL k.symm).symm

/-- An assertion: what it says, of the blocks that it owns and of those that it shares. -/
structure Asn where
  P : List Nat → List Nat → World → Prop
  ext : ∀ F S M w w', P F S w → Ext M w w' → Apart F M → Apart S M → P F S w'
/-- An assertion that owns nothing. -/
class Pers (A : Asn) : Prop where
  h : ∀ F S w, A.P F S w → A.P [] S w

def Sep : List Asn → List Nat → List Nat → World → Prop
  | [], _, _, _ => True
  | A :: H, F, S, w => ∃ F1 S1 F2 S2, (F1 ⊆ F ∧ F2 ⊆ F ∧ S1 ⊆ S ∧ S2 ⊆ S) ∧ (Apart F1 F2 ∧ Apart F1 S2 ∧ Apart S1 F2) ∧ A.P F1 S1 w ∧ Sep H F2 S2 w

theorem subL {X Y Z : List Nat} (h : X ⊆ Z) (k : Y ⊆ Z) : X ++ Y ⊆ Z := fun b hb => (List.mem_append.1 hb).elim (fun x => h x) (fun x => k x)
theorem inL (X Y : List Nat) : X ⊆ X ++ Y := fun _ h => List.mem_append_left _ h
theorem inR (X Y : List Nat) : Y ⊆ X ++ Y := fun _ h => List.mem_append_right _ h
theorem subT {X Y Z : List Nat} (h : X ⊆ Y) (k : Y ⊆ Z) : X ⊆ Z := fun _ hb => k (h hb)
theorem subR (X : List Nat) : X ⊆ X := fun _ h => h

theorem Sep.mono {H : List Asn} {F S F' S' : List Nat} {w : World} (h : Sep H F S w) (hf : F ⊆ F') (hs : S ⊆ S') : Sep H F' S' w := by
  cases H with
  | nil => trivial
  | cons A H =>
    obtain ⟨F1, S1, F2, S2, ⟨a, b, c, d⟩, hd, hA, hH⟩ := h
    exact ⟨F1, S1, F2, S2, ⟨subT a hf, subT b hf, subT c hs, subT d hs⟩, hd, hA, hH⟩
theorem Sep.ext : ∀ {H : List Asn} {F S M : List Nat} {w w' : World}, Sep H F S w → Ext M w w' → Apart F M → Apart S M → Sep H F S w'
  | [], _, _, _, _, _, _, _, _, _ => trivial
  | A :: H, F, S, M, w, w', ⟨F1, S1, F2, S2, ⟨a, b, c, d⟩, hd, hA, hH⟩, he, hF, hS =>
    ⟨F1, S1, F2, S2, ⟨a, b, c, d⟩, hd, A.ext _ _ _ _ _ hA he (hF.mono a (subR _)) (hS.mono c (subR _)), Sep.ext hH he (hF.mono b (subR _)) (hS.mono d (subR _))⟩
theorem Sep.swap {A B : Asn} {H : List Asn} {F S : List Nat} {w : World} (h : Sep (A :: B :: H) F S w) : Sep (B :: A :: H) F S w := by
  obtain ⟨F1, S1, F2, S2, ⟨a, b, c, d⟩, ⟨p, q, r⟩, hA, F3, S3, F4, S4, ⟨a', b', c', d'⟩, ⟨p', q', r'⟩, hB, hH⟩ := h
  refine ⟨F3, S3, F1 ++ F4, S1 ++ S4, ⟨subT a' b, subL a (subT b' b), subT c' d, subL c (subT d' d)⟩, ⟨?_, ?_, ?_⟩, hB, F1, S1, F4, S4, ⟨inL _ _, inR _ _, inL _ _, inR _ _⟩, ⟨?_, ?_, ?_⟩, hA, hH⟩
  · exact Apart.appR (p.mono (subR _) a').symm p'
  · exact Apart.appR (r.mono (subR _) a').symm q'
  · exact Apart.appR (q.mono (subR _) c').symm r'
  · exact p.mono (subR _) b'
  · exact q.mono (subR _) d'
  · exact r.mono (subR _) b'
theorem Sep.dup {A : Asn} [t : Pers A] {H : List Asn} {F S : List Nat} {w : World} (h : Sep (A :: H) F S w) : Sep (A :: A :: H) F S w := by
  obtain ⟨F1, S1, F2, S2, ⟨a, b, c, d⟩, ⟨p, q, r⟩, hA, hH⟩ := h
  have hA' := t.h _ _ _ hA
  exact ⟨[], S1, F2, S1 ++ S2, ⟨by simp, b, c, subL c d⟩, ⟨Apart.nilL _, Apart.nilL _, r⟩, hA', [], S1, F2, S2, ⟨by simp, subR _, inL _ _, inR _ _⟩, ⟨Apart.nilL _, Apart.nilL _, r⟩, hA', hH⟩

/-- An assertion out of a list, and what is left. One that owns nothing stays. -/
inductive Sel : List Asn → Asn → List Asn → Prop
  | keep {A : Asn} {H : List Asn} [Pers A] : Sel (A :: H) A (A :: H)
  | here {A : Asn} {H : List Asn} : Sel (A :: H) A H
  | there {A B : Asn} {H H' : List Asn} : Sel H A H' → Sel (B :: H) A (B :: H')
inductive Sels : List Asn → List Asn → List Asn → Prop
  | nil {H : List Asn} : Sels H [] H
  | cons {A : Asn} {H H' H0 H1 : List Asn} : Sel H A H' → Sels H' H0 H1 → Sels H (A :: H0) H1
theorem Sel.sep {H : List Asn} {A : Asn} {H' : List Asn} (h : Sel H A H') : ∀ {F S : List Nat} {w : World}, Sep H F S w → Sep (A :: H') F S w := by
  induction h with
  | keep => exact fun h => h.dup
  | here => exact fun h => h
  | there _ ih =>
    rintro F S w ⟨F1, S1, F2, S2, hs, hd, hB, hH⟩
    exact Sep.swap ⟨F1, S1, F2, S2, hs, hd, hB, ih hH⟩
/-- Two lists, apart. -/
def Sep2 (H0 H1 : List Asn) (F S : List Nat) (w : World) : Prop := ∃ F1 S1 F2 S2, (F1 ⊆ F ∧ F2 ⊆ F ∧ S1 ⊆ S ∧ S2 ⊆ S) ∧ (Apart F1 F2 ∧ Apart F1 S2 ∧ Apart S1 F2) ∧ Sep H0 F1 S1 w ∧ Sep H1 F2 S2 w
theorem Sels.split {H H0 H1 : List Asn} (h : Sels H H0 H1) : ∀ {F S : List Nat} {w : World}, Sep H F S w → Sep2 H0 H1 F S w := by
  induction h with
  | nil => exact fun {F S w} h => ⟨[], [], F, S, ⟨by simp, subR _, by simp, subR _⟩, ⟨Apart.nilL _, Apart.nilL _, Apart.nilL _⟩, trivial, h⟩
  | cons h _ ih =>
    intro F S w hs
    obtain ⟨F1, S1, F2, S2, ⟨a, b, c, d⟩, ⟨p, q, r⟩, hA, hH⟩ := h.sep hs
    obtain ⟨F3, S3, F4, S4, ⟨a', b', c', d'⟩, ⟨p', q', r'⟩, h0, h1⟩ := ih hH
    refine ⟨F1 ++ F3, S1 ++ S3, F4, S4, ⟨subL a (subT a' b), subT b' b, subL c (subT c' d), subT d' d⟩, ⟨?_, ?_, ?_⟩, ⟨F1, S1, F3, S3, ⟨inL _ _, inR _ _, inL _ _, inR _ _⟩, ⟨p.mono (subR _) a', q.mono (subR _) c', r.mono (subR _) a'⟩, hA, h0⟩, h1⟩
    · exact Apart.appL (p.mono (subR _) b') p'
    · exact Apart.appL (q.mono (subR _) d') q'
    · exact Apart.appL (r.mono (subR _) b') r'
theorem Sep.join : ∀ {H0 H1 : List Asn} {F S : List Nat} {w : World}, Sep2 H0 H1 F S w → Sep (H0 ++ H1) F S w
  | [], H1, F, S, w, ⟨F1, S1, F2, S2, ⟨_, b, _, d⟩, _, _, h1⟩ => h1.mono b d
  | A :: H0, H1, F, S, w, ⟨F1, S1, F2, S2, ⟨a, b, c, d⟩, ⟨p, q, r⟩, ⟨F3, S3, F4, S4, ⟨a', b', c', d'⟩, ⟨p', q', r'⟩, hA, h0⟩, h1⟩ =>
    ⟨F3, S3, F4 ++ F2, S4 ++ S2, ⟨subT a' a, subL (subT b' a) b, subT c' c, subL (subT d' c) d⟩,
      ⟨Apart.appR p' (p.mono a' (subR _)), Apart.appR q' (q.mono a' (subR _)), Apart.appR r' (r.mono c' (subR _))⟩, hA,
      Sep.join ⟨F4, S4, F2, S2, ⟨inL _ _, inR _ _, inL _ _, inR _ _⟩, ⟨p.mono b' (subR _), q.mono b' (subR _), r.mono d' (subR _)⟩, h0, h1⟩⟩
theorem Sels.all : ∀ (H : List Asn), Sels H H []
  | [] => .nil
  | _ :: H => .cons .here (Sels.all H)

/-- A world, of which a list of assertions holds. -/
structure St (H : List Asn) (F S : List Nat) (w : World) : Prop where
  sep : Sep H F S w
  ltF : ∀ b ∈ F, b < w.heap.size
  ltS : ∀ b ∈ S, b < w.heap.size
/-- Where a piece of code began. -/
structure Org where
  w : World
  F : List Nat
  S : List Nat
structure From (o : Org) (w : World) (F S : List Nat) : Prop where
  ext : Ext o.F o.w w
  fF : ∀ b ∈ F, b ∈ o.F ∨ o.w.heap.size ≤ b
  fS : ∀ b ∈ S, b ∈ o.S ∨ b ∈ o.F ∨ o.w.heap.size ≤ b
theorem From.refl (w : World) (F S : List Nat) : From ⟨w, F, S⟩ w F S := ⟨Ext.refl _ _, fun _ h => .inl h, fun _ h => .inl h⟩
theorem From.trans {o : Org} {w w' : World} {F S F' S' : List Nat} (h : From o w F S) (k : From ⟨w, F, S⟩ w' F' S') : From o w' F' S' :=
  ⟨h.ext.transN k.ext h.fF, fun b hb => (k.fF b hb).elim (h.fF b) (fun q => .inr (Nat.le_trans h.ext.size q)),
   fun b hb => (k.fS b hb).elim (h.fS b) (fun q => q.elim (fun q => .inr (h.fF b q)) (fun q => .inr (.inr (Nat.le_trans h.ext.size q))))⟩
theorem From.sub {o : Org} {w : World} {F S F' S' : List Nat} (h : From o w F S) (hf : F' ⊆ F) (hs : S' ⊆ S) : From o w F' S' := ⟨h.ext, fun b hb => h.fF b (hf hb), fun b hb => h.fS b (hs hb)⟩
def PostS (o : Org) (Φ : Value → List Asn → Prop) (v : Value) (w' : World) : Prop := ∃ H' F' S', Φ v H' ∧ St H' F' S' w' ∧ From o w' F' S'
theorem PostS.mono {o : Org} {Φ Φ' : Value → List Asn → Prop} {v : Value} {w' : World} (h : PostS o Φ v w') (hm : ∀ v H, Φ v H → Φ' v H) : PostS o Φ' v w' := let ⟨H, F, S, a, b, c⟩ := h; ⟨H, F, S, hm _ _ a, b, c⟩

theorem St.take {H H0 H1 : List Asn} {F S : List Nat} {w : World} (s : St H F S w) (h : Sels H H0 H1) :
    ∃ F1 S1, St H0 F1 S1 w ∧ ∀ H' w' F' S', St H' F' S' w' → From ⟨w, F1, S1⟩ w' F' S' → ∃ F'' S'', St (H' ++ H1) F'' S'' w' ∧ From ⟨w, F, S⟩ w' F'' S'' := by
  obtain ⟨F1, S1, F2, S2, ⟨a, b, c, d⟩, ⟨p, q, r⟩, h0, h1⟩ := h.split s.sep
  refine ⟨F1, S1, ⟨h0, fun x hx => s.ltF x (a hx), fun x hx => s.ltS x (c hx)⟩, ?_⟩
  intro H' w' F' S' s' f
  have hsz := f.ext.size
  have h1' := h1.ext f.ext p.symm q.symm
  refine ⟨F' ++ F2, S' ++ S2, ⟨Sep.join ⟨F', S', F2, S2, ⟨inL _ _, inR _ _, inL _ _, inR _ _⟩, ⟨?_, ?_, ?_⟩, s'.sep, h1'⟩, ?_, ?_⟩, ⟨?_, ?_, ?_⟩⟩
  · intro x hx hx2
    exact (f.fF x hx).elim (fun h => p x h hx2) (fun h => by have := s.ltF x (b hx2); simp only at h; omega)
  · intro x hx hx2
    exact (f.fF x hx).elim (fun h => q x h hx2) (fun h => by have := s.ltS x (d hx2); simp only at h; omega)
  · intro x hx hx2
    exact (f.fS x hx).elim (fun h => r x h hx2) (fun h => h.elim (fun h => p x h hx2) (fun h => by have := s.ltF x (b hx2); simp only at h; omega))
  · intro x hx
    exact (List.mem_append.1 hx).elim (s'.ltF x) (fun h => Nat.lt_of_lt_of_le (s.ltF x (b h)) hsz)
  · intro x hx
    exact (List.mem_append.1 hx).elim (s'.ltS x) (fun h => Nat.lt_of_lt_of_le (s.ltS x (d h)) hsz)
  · exact f.ext.mono (fun x hx => .inl (a hx))
  · intro x hx
    exact (List.mem_append.1 hx).elim (fun h => (f.fF x h).elim (fun h => .inl (a h)) .inr) (fun h => .inl (b h))
  · intro x hx
    exact (List.mem_append.1 hx).elim (fun h => (f.fS x h).elim (fun h => .inl (c h)) (fun h => h.elim (fun h => .inr (.inl (a h))) (fun h => .inr (.inr h)))) (fun h => .inl (d h))
theorem St.sels {H H0 H1 : List Asn} {F S : List Nat} {w : World} (s : St H F S w) (h : Sels H H0 H1) : ∃ F1 S1, (F1 ⊆ F ∧ S1 ⊆ S) ∧ St H0 F1 S1 w := by
  obtain ⟨F1, S1, F2, S2, ⟨a, b, c, d⟩, _, h0, _⟩ := h.split s.sep
  exact ⟨F1, S1, ⟨a, c⟩, h0, fun x hx => s.ltF x (a hx), fun x hx => s.ltS x (c hx)⟩
theorem St.sel {H H' : List Asn} {A : Asn} {F S : List Nat} {w : World} (s : St H F S w) (h : Sel H A H') : ∃ F1 S1, (F1 ⊆ F ∧ S1 ⊆ S) ∧ A.P F1 S1 w := by
  obtain ⟨F1, S1, F2, S2, ⟨a, b, c, d⟩, _, hA, _⟩ := h.sep s.sep
  exact ⟨F1, S1, ⟨a, c⟩, hA⟩
/-- A list that follows. -/
def Imp (H H' : List Asn) : Prop := ∀ F S w, St H F S w → ∃ F' S', St H' F' S' w ∧ From ⟨w, F, S⟩ w F' S'
theorem Imp.refl (H : List Asn) : Imp H H := fun F S w h => ⟨F, S, h, From.refl _ _ _⟩
theorem Imp.trans {H H' H'' : List Asn} (h : Imp H H') (k : Imp H' H'') : Imp H H'' := fun F S w s =>
  let ⟨F', S', s', f'⟩ := h F S w s
  let ⟨F'', S'', s'', f''⟩ := k F' S' w s'
  ⟨F'', S'', s'', f'.trans f''⟩
theorem Imp.sels {H H0 H1 : List Asn} (h : Sels H H0 H1) : Imp H H0 := fun F S w s =>
  let ⟨F1, S1, hs, s1⟩ := s.sels h
  ⟨F1, S1, s1, (From.refl w F S).sub hs.1 hs.2⟩
theorem Imp.at {H H' : List Asn} {F S : List Nat} {w : World} {o : Org} (h : Imp H H') (s : St H F S w) (f : From o w F S) : ∃ F' S', St H' F' S' w ∧ From o w F' S' :=
  let ⟨F', S', s', f'⟩ := h F S w s
  ⟨F', S', s', f.trans f'⟩
/-- What holds of any world that keeps the shared blocks. -/
def sh (p : World → Prop) : Asn where
  P := fun _ S w => ∀ M w', Ext M w w' → Apart S M → p w'
  ext := fun F S M w w' h he _ hS M' w'' he' hS' => h (M ++ M') w'' ((he.mono (fun x hx => .inl (List.mem_append_left _ hx))).transN he' (fun x hx => .inl (List.mem_append_right _ hx))) (Apart.appR hS hS')
instance instPersSh (p : World → Prop) : Pers (sh p) := ⟨fun _ _ _ h => h⟩
theorem St.sh {H H' : List Asn} {p : World → Prop} {F S : List Nat} {w : World} (s : St H F S w) (h : Sel H (sh p) H') : p w := by
  obtain ⟨F1, S1, _, hA⟩ := s.sel h
  exact hA [] w (Ext.refl _ _) (Apart.nilR _)
/-- What was true of the old blocks. -/
theorem sh_old {p : World → Prop} {w : World} (h : ∀ w', Ext [] w w' → p w') (F : List Nat) : (sh p).P F (List.range w.heap.size) w := fun M w' he hM =>
  h w' (he.mono (fun x hx => by
    rcases Nat.lt_or_ge x w.heap.size with hlt | hge
    · exact absurd hx (hM x (List.mem_range.2 hlt))
    · exact .inr hge))
/-- A block of its own. -/
def blk (b : Nat) (cs : List Value) (T : TypeId) : Asn where
  P := fun F _ w => F = [b] ∧ Blk w b cs.toArray T (0, 0)
  ext := fun F S M w w' h he hF _ => ⟨h.1, h.2.ext he (hF b (by rw [h.1]; simp))⟩
theorem St.blk {H H' : List Asn} {b : Nat} {cs : List Value} {T : TypeId} {F S : List Nat} {w : World} (s : St H F S w) (h : Sel H (blk b cs T) H') : Blk w b cs.toArray T (0, 0) := (s.sel h).elim fun _ h => h.elim fun _ h => h.2.2
/-- A row that a slice owns. -/
def own (E size : Nat) (a : Option Addr) (n c : Nat) (xs : List Value) : Asn where
  P := fun F _ w => Own w E size a n c xs F
  ext := fun F S M w w' h he hF _ => h.ext he hF
theorem St.own {H H' : List Asn} {E size : Nat} {a : Option Addr} {n c : Nat} {xs : List Value} {F S : List Nat} {w : World} (s : St H F S w) (h : Sel H (own E size a n c xs) H') : ∃ M, Own w E size a n c xs M := (s.sel h).elim fun F1 h => h.elim fun _ h => ⟨F1, h.2⟩
theorem St.ownC {H H' : List Asn} {E size : Nat} {a : Option Addr} {n c : Nat} {xs : List Value} {F S : List Nat} {w : World} (s : St H F S w) (h : Sel H (Brv.own E size a n c xs) H') : Cells w a xs := (s.own h).elim fun _ h => h.cells
/-- One assertion is told otherwise: (it may give up blocks to be shared). -/
theorem Imp.turn {H H' : List Asn} {A B : Asn} (h : Sel H A H') (hp : ∀ F S w, A.P F S w → ∃ F' S', B.P F' S' w ∧ F' ⊆ F ∧ S' ⊆ F ++ S ∧ Apart F' S' ∨ B.P F S w) : Imp H (B :: H') := fun F S w s => by
  obtain ⟨F1, S1, F2, S2, ⟨a, b, c, d⟩, ⟨p, q, r⟩, hA, hH⟩ := h.sep s.sep
  rcases hp _ _ _ hA with ⟨F', S', ⟨hB, hF, hS, _⟩ | hB⟩
  · refine ⟨F' ++ F2, S' ++ S2, ⟨⟨F', S', F2, S2, ⟨inL _ _, inR _ _, inL _ _, inR _ _⟩, ⟨p.mono hF (subR _), q.mono hF (subR _), fun x hx => (List.mem_append.1 (hS hx)).elim (p x) (r x)⟩, hB, hH⟩, ?_, ?_⟩, ⟨Ext.refl _ _, ?_, ?_⟩⟩
    · intro x hx
      exact (List.mem_append.1 hx).elim (fun h => s.ltF x (a (hF h))) (fun h => s.ltF x (b h))
    · intro x hx
      exact (List.mem_append.1 hx).elim (fun h => (List.mem_append.1 (hS h)).elim (fun h => s.ltF x (a h)) (fun h => s.ltS x (c h))) (fun h => s.ltS x (d h))
    · intro x hx
      exact .inl ((List.mem_append.1 hx).elim (fun h => a (hF h)) (fun h => b h))
    · intro x hx
      exact (List.mem_append.1 hx).elim (fun h => (List.mem_append.1 (hS h)).elim (fun h => .inr (.inl (a h))) (fun h => .inl (c h))) (fun h => .inl (d h))
  · exact ⟨F, S, ⟨⟨F1, S1, F2, S2, ⟨a, b, c, d⟩, ⟨p, q, r⟩, hB, hH⟩, s.ltF, s.ltS⟩, From.refl _ _ _⟩
/-- Frozen: it is only read from here on. -/
theorem Imp.freeze {H H' : List Asn} {A : Asn} {p : World → Prop} (h : Sel H A H') (hp : ∀ F S w, A.P F S w → p w) : Imp H (Brv.sh p :: H') :=
  Imp.turn h fun F S w hA => ⟨[], F ++ S, .inl ⟨fun M w' he hS => hp F S w' (A.ext _ _ _ _ _ hA he (hS.mono (inL _ _) (subR _)) (hS.mono (inR _ _) (subR _))), by simp, subR _, Apart.nilL _⟩⟩
theorem Imp.weak {H H' : List Asn} {p q : World → Prop} (h : Sel H (Brv.sh p) H') (hp : ∀ w, p w → q w) : Imp H (Brv.sh q :: H') :=
  Imp.turn h fun F S w hA => ⟨F, S, .inr (fun M w' he hS => hp _ (hA M w' he hS))⟩
theorem Imp.same {H H' : List Asn} {A B : Asn} (h : Sel H A H') (hp : ∀ F S w, A.P F S w → B.P F S w) : Imp H (B :: H') :=
  Imp.turn h fun F S w hA => ⟨F, S, .inr (hp F S w hA)⟩

/-! ## What an operation does -/
section
variable (P : Program) (n : Fm)
/-- The operation runs, or calls a function that returns, and Φ holds of what it gives. -/
def Acts (ρ : Env) (w : World) (o : Oper) (Φ : Value → World → Prop) : Prop :=
  (∃ v w', Runs P n ρ w o v w' ∧ Φ v w') ∨ (o.dst = none ∧ ∃ w', (∀ a, Fr n ρ a → (execOp a.eval o).run P w = .ok .skip w') ∧ Φ undef w') ∨
  (∃ f vs, (∀ a, Fr n ρ a → (execOp a.eval o).run P w = .ok (.enter f vs) w) ∧ Calls P f vs w (Ret Φ)) ∨
  (∃ l fn tmps assign body, (∀ a, Fr n ρ a → (execOp a.eval o).run P w = .ok (.round l fn tmps assign body) w) ∧ RoundIn Fence.wide 0 P l fn tmps assign body w (Ret Φ))
/-- One step of code, from one list of assertions to another one. -/
def CS (o : Org) (ρ : Env) (H : List Asn) (op : Oper) (Ψ : Value → List Asn → Prop) : Prop := ∀ w F S, St H F S w → From o w F S → Acts P n ρ w op (PostS o Ψ)
end
section
variable {P : Program} {n : Fm}
theorem Ret.mono {Φ Φ' : Value → World → Prop} (hm : ∀ v w', Φ v w' → Φ' v w') (e : Ending) (w : World) (h : Ret Φ e w) : Ret Φ' e w := by
  cases e <;> first | exact hm _ _ h | exact h
theorem Acts.mono {ρ : Env} {w : World} {o : Oper} {Φ Φ' : Value → World → Prop} (h : Acts P n ρ w o Φ) (hm : ∀ v w', Φ v w' → Φ' v w') : Acts P n ρ w o Φ' := by
  rcases h with ⟨v, w', h, k⟩ | ⟨hd, w', h, k⟩ | ⟨f, vs, h, k⟩ | ⟨l, fn, tmps, asv, body, h, k⟩
  · exact .inl ⟨v, w', h, hm _ _ k⟩
  · exact .inr (.inl ⟨hd, w', h, hm _ _ k⟩)
  · exact .inr (.inr (.inl ⟨f, vs, h, Calls.mono k (Ret.mono hm)⟩))
  · exact .inr (.inr (.inr ⟨l, fn, tmps, asv, body, h, RoundIn.mono k (Ret.mono hm)⟩))
theorem Acts.wp {ρ : Env} {w : World} {o : Oper} {Φ : Value → World → Prop} {Q : Exit → Act → World → Prop} (h : Acts P n ρ w o Φ) (hdf : isDefer o.op = false) {a a₀ : Act} (ha : Fr n ρ a₀) (he : execOp a.eval o = execOp a₀.eval o) :
    o.wpIn (fen n.ro) 0 P a w (fun a' w' => ∃ v, a' = a.put o.dst v ∧ Φ v w') Q := by
  have hcg : ∀ {r}, (execOp a₀.eval o).run P w = r → (execOp a.eval o).run P w = r := fun h => (congrArg (fun s => s.run P w) he).trans h
  rcases h with ⟨v, w', h, k⟩ | ⟨hd, w', h, k⟩ | ⟨f, vs, h, k⟩ | ⟨l, fn, tmps, asv, body, h, k⟩
  · exact wpIn_run hdf (hcg (h a₀ ha)) ⟨v, rfl, k⟩
  · exact wpIn_run hdf (hcg (h a₀ ha)) ⟨undef, hd ▸ rfl, k⟩
  · refine wpIn_run hdf (hcg (h a₀ ha)) ⟨fun h => (by rw [fen_depth] at h; cases h), fen_calls ?_⟩
    refine Calls.mono k ?_
    intro e w' he
    cases e with
    | returned v => exact ⟨v, rfl, he⟩
    | panicked c => exact he.elim
    | outgrown => exact he.elim
  · refine wpIn_run hdf (hcg (h a₀ ha)) ⟨fun h => (by rw [fen_depth] at h; cases h), ?_⟩
    have hr2 : RoundIn (fen n.ro) 0 P l fn tmps asv body w (Ret Φ) := by
      cases n.ro
      · exact k
      · exact k
    refine RoundIn.mono hr2 ?_
    intro e w' he
    cases e with
    | returned v => exact ⟨v, rfl, he⟩
    | panicked c => exact he.elim
    | outgrown => exact he.elim
theorem CS.of {o : Org} {ρ : Env} {H H0 H1 : List Asn} {op : Oper} {Φ : Value → List Asn → Prop} (sel : Sels H H0 H1) (h : ∀ w F S F1 S1, St H F S w → St H0 F1 S1 w → Acts P n ρ w op (PostS ⟨w, F1, S1⟩ Φ)) :
    CS P n o ρ H op (fun v H' => ∃ H'', Φ v H'' ∧ H' = H'' ++ H1) := by
  intro w F S s f
  obtain ⟨F1, S1, s1, hj⟩ := s.take sel
  refine (h w F S F1 S1 s s1).mono ?_
  rintro v w' ⟨H', F', S', hΦ, s', f'⟩
  obtain ⟨F'', S'', s'', f''⟩ := hj H' w' F' S' s' f'
  exact ⟨H' ++ H1, F'', S'', ⟨H', hΦ, rfl⟩, s'', f.trans f''⟩
theorem CS.mono {o : Org} {ρ : Env} {H : List Asn} {op : Oper} {Ψ Ψ' : Value → List Asn → Prop} (h : CS P n o ρ H op Ψ) (hm : ∀ v H', Ψ v H' → Ψ' v H') : CS P n o ρ H op Ψ' := fun w F S s f => (h w F S s f).mono fun _ _ k => k.mono hm
theorem CS.imp {o : Org} {ρ : Env} {H K : List Asn} {op : Oper} {Ψ : Value → List Asn → Prop} (i : Imp H K) (h : CS P n o ρ K op Ψ) : CS P n o ρ H op Ψ := fun w F S s f =>
  let ⟨F', S', s', f'⟩ := i.at s f
  h w F' S' s' f'
/-- A function's contract. -/
def SpecS (P : Program) (f : FuncId) (vs : List Value) (H : List Asn) (Φ : Value → List Asn → Prop) : Prop := ∀ w F S, St H F S w → Meets P f vs w (PostS ⟨w, F, S⟩ Φ)
theorem SpecS.mono {f : FuncId} {vs : List Value} {H : List Asn} {Φ Φ' : Value → List Asn → Prop} (h : SpecS P f vs H Φ) (hm : ∀ v H', Φ v H' → Φ' v H') : SpecS P f vs H Φ' := fun w F S s => (h w F S s).mono fun _ _ k => k.mono hm
theorem Acts.callV {ρ : Env} {w : World} {d : Option Nat} {x : Operand} {f : FuncId} {first cap : Array Value} {args : Array Operand} {ats : Array TypeId} {ty : TypeId} {pos : String} {af : Array Edge} {gd : Option (Nat × Bool)} {asv vs : List Value} {Φ : Value → World → Prop}
    (hx : ev ρ x = some (.func (.func f) first cap)) (hargs : evs ρ args.toList = some asv) (hvs : first.toList ++ asv ++ cap.toList = vs) (hc : ∀ (vs : Array Value) w, (callFunc f vs).run P w = .ok (.enter f vs) w) (hf : Meets P f vs w Φ) :
    Acts P n ρ w ⟨d, .call ⟨.value x, args, ats⟩, ty, pos, af, gd⟩ Φ :=
  .inr (.inr (.inl ⟨f, vs.toArray, fun a ha => run_callV (ha.eval hx) (ha.evals hargs) hvs (hc _) w, hf⟩))
/-- A call of the function that an iterator was handed. -/
theorem Acts.ycall {ρ : Env} {w : World} {d : Option Nat} {x : Operand} {y : Value} {args : Array Operand} {ats : Array TypeId} {ty : TypeId} {pos : String} {af : Array Edge} {gd : Option (Nat × Bool)} {vs : List Value} {R : Bool → World → Prop}
    (hx : ev ρ x = some y) (hargs : evs ρ args.toList = some vs) (hY : YCall P y vs w R) : Acts P n ρ w ⟨d, .call ⟨.value x, args, ats⟩, ty, pos, af, gd⟩ (fun v w' => ∃ b, v = .bool b ∧ R b w') := by
  rcases hY with ⟨l, rfl, fn, tmps, assign, body, hrun, hround⟩ | ⟨f, first, cap, rfl, hc, hf⟩
  · refine .inr (.inr (.inr ⟨l, fn, tmps, assign, body, fun a ha => run_callY (ha.eval hx) (ha.evals hargs) w hrun, RoundIn.mono hround ?_⟩))
    rintro e w' ⟨b, rfl, hR⟩
    exact ⟨b, rfl, hR⟩
  · exact Acts.callV hx hargs rfl hc hf
/-- What a call of a consumer does. -/
def YSpec (P : Program) (y : Value) (vs : List Value) (H : List Asn) (Ψ : Bool → List Asn → Prop) : Prop := ∀ w F S, St H F S w → YCall P y vs w (fun b w' => PostS ⟨w, F, S⟩ (fun _ H' => Ψ b H') undef w')
section
variable {o : Org} {ρ : Env} {H H0 H1 : List Asn} {d : Option Nat} {ty : TypeId} {pos : String} {af : Array Edge} {gd : Option (Nat × Bool)}
theorem CS.callV {x : Operand} {f : FuncId} {first cap : Array Value} {args : Array Operand} {ats : Array TypeId} {asv vs : List Value} {Φ : Value → List Asn → Prop}
    (hx : ev ρ x = some (.func (.func f) first cap)) (hargs : evs ρ args.toList = some asv) (hvs : first.toList ++ asv ++ cap.toList = vs) (hc : ∀ (vs : Array Value) w, (callFunc f vs).run P w = .ok (.enter f vs) w)
    (hf : SpecS P f vs H0 Φ) (sel : Sels H H0 H1) : CS P n o ρ H ⟨d, .call ⟨.value x, args, ats⟩, ty, pos, af, gd⟩ (fun v H' => ∃ H'', Φ v H'' ∧ H' = H'' ++ H1) :=
  CS.of sel fun w F S F1 S1 _ s1 => Acts.callV hx hargs hvs hc (hf w F1 S1 s1)
theorem CS.call {f : FuncId} {args : Array Operand} {ats : Array TypeId} {vs : List Value} {Φ : Value → List Asn → Prop}
    (hargs : evs ρ args.toList = some vs) (hc : ∀ (vs : Array Value) w, (callFunc f vs).run P w = .ok (.enter f vs) w)
    (hf : SpecS P f vs H0 Φ) (sel : Sels H H0 H1) : CS P n o ρ H ⟨d, .call ⟨.value (.func f), args, ats⟩, ty, pos, af, gd⟩ (fun v H' => ∃ H'', Φ v H'' ∧ H' = H'' ++ H1) :=
  CS.callV (x := .func f) (first := #[]) (cap := #[]) rfl hargs (by simp) hc hf sel
/-- A call that changes nothing, by facts of the whole. -/
theorem CS.callR {f : FuncId} {args : Array Operand} {ats : Array TypeId} {vs : List Value} {φ : Value → Prop}
    (hargs : evs ρ args.toList = some vs) (hc : ∀ (vs : Array Value) w, (callFunc f vs).run P w = .ok (.enter f vs) w)
    (hf : ∀ w F S, St H F S w → Meets P f vs w (fun v w' => φ v ∧ Ext [] w w')) : CS P n o ρ H ⟨d, .call ⟨.value (.func f), args, ats⟩, ty, pos, af, gd⟩ (fun v H' => φ v ∧ H' = H) :=
  fun w F S s fr => Acts.callV (x := .func f) (first := #[]) (cap := #[]) rfl hargs (by simp) hc ((hf w F S s).mono fun v w' hv =>
    ⟨H, F, S, ⟨hv.1, rfl⟩, ⟨s.sep.ext hv.2 (Apart.nilR _) (Apart.nilR _), fun b hb => Nat.lt_of_lt_of_le (s.ltF b hb) hv.2.size, fun b hb => Nat.lt_of_lt_of_le (s.ltS b hb) hv.2.size⟩, ⟨fr.ext.trans0 hv.2, fr.fF, fr.fS⟩⟩)
theorem CS.yield {x : Operand} {y : Value} {args : Array Operand} {ats : Array TypeId} {vs : List Value} {Ψ : Bool → List Asn → Prop} (hx : ev ρ x = some y) (hargs : evs ρ args.toList = some vs) (hY : YSpec P y vs H0 Ψ) (sel : Sels H H0 H1) :
    CS P n o ρ H ⟨d, .call ⟨.value x, args, ats⟩, ty, pos, af, gd⟩ (fun v H' => ∃ H'', (∃ b, v = .bool b ∧ Ψ b H'') ∧ H' = H'' ++ H1) :=
  CS.of sel fun w F S F1 S1 _ s1 => (Acts.ycall hx hargs (hY w F1 S1 s1)).mono (by rintro v w' ⟨b, rfl, H', F', S', h1, h2, h3⟩; exact ⟨H', F', S', ⟨b, rfl, h1⟩, h2, h3⟩)
/-- New blocks. -/
theorem St.grow {F S : List Nat} {w w' : World} {A : Asn} {F' S' : List Nat} (s : St H F S w) (fr : From o w F S) (he : Ext [] w w') (hF : ∀ b ∈ F', w.heap.size ≤ b ∧ b < w'.heap.size) (hS : ∀ b ∈ S', b < w'.heap.size ∧ (w.heap.size ≤ b ∨ b ∈ S)) (hA : A.P F' S' w') (hFS : Apart S' F) :
    ∃ F'' S'', St (A :: H) F'' S'' w' ∧ From o w' F'' S'' := by
  have hsz := he.size
  refine ⟨F' ++ F, S' ++ S, ⟨⟨F', S', F, S, ⟨inL _ _, inR _ _, inL _ _, inR _ _⟩, ⟨fun x hx hy => ?_, fun x hx hy => ?_, hFS⟩, hA, s.sep.ext he (Apart.nilR _) (Apart.nilR _)⟩, ?_, ?_⟩, ⟨fr.ext.trans0 he, ?_, ?_⟩⟩
  · have := (hF x hx).1; have := s.ltF x hy; omega
  · have := (hF x hx).1; have := s.ltS x hy; omega
  · intro x hx; exact (List.mem_append.1 hx).elim (fun h => (hF x h).2) (fun h => Nat.lt_of_lt_of_le (s.ltF x h) hsz)
  · intro x hx; exact (List.mem_append.1 hx).elim (fun h => (hS x h).1) (fun h => Nat.lt_of_lt_of_le (s.ltS x h) hsz)
  · intro x hx; exact (List.mem_append.1 hx).elim (fun h => .inr (Nat.le_trans fr.ext.size (hF x h).1)) (fr.fF x)
  · intro x hx; exact (List.mem_append.1 hx).elim (fun h => (hS x h).2.elim (fun h => .inr (.inr (Nat.le_trans fr.ext.size h))) (fr.fS x)) (fr.fS x)
theorem CS.new {op : Oper} {cs : List Value} {T : TypeId} {φ : Value → Nat → Prop} (h : ∀ w F S, St H F S w → ∃ v w', Runs P n ρ w op v w' ∧ ∃ b, φ v b ∧ w.heap.size = b ∧ w'.heap.size = b + 1 ∧ Ext [] w w' ∧ Blk w' b cs.toArray T (0, 0)) :
    CS P n o ρ H op (fun v H' => ∃ b, φ v b ∧ H' = blk b cs T :: H) := fun w F S s fr => by
  obtain ⟨v, w', hr, b, hφ, hb, hs, he, hB⟩ := h w F S s
  obtain ⟨F', S', s', f'⟩ := s.grow fr he (A := blk b cs T) (F' := [b]) (S' := []) (fun x hx => by rw [List.mem_singleton.1 hx]; omega) (fun x hx => by cases hx) ⟨rfl, hB⟩ (Apart.nilL _)
  exact .inl ⟨v, w', hr, _, F', S', ⟨b, hφ, rfl⟩, s', f'⟩
theorem CS.alloc {T : TypeId} {z : Value} [t : TyZero P T z] {d : Nat} (cs : List Value) (hz : z.cells.toList = cs) : CS P n o ρ H ⟨some d, .alloc T, ty, pos, af, gd⟩ (fun v H' => ∃ b, v = .pointer (some ⟨b, 0, none⟩) ∧ H' = blk b cs T :: H) :=
  CS.new fun w F S s => by
    obtain ⟨v, w', hr, b, h1, h2, h3, h4, h5⟩ := R.alloc (P := P) (n := n) (ρ := ρ) (w := w) (d := d) (ty := ty) (pos := pos) (af := af) (gd := gd) (T := T) (z := z)
    exact ⟨v, w', hr, b, h1, h2, h3, h4, by rw [← hz]; exact h5⟩
theorem CS.box {T : TypeId} {x : Operand} {v : Value} {d : Nat} (hx : ev ρ x = some v) (cs : List Value) (hz : v.cells.toList = cs) : CS P n o ρ H ⟨some d, .box T x, ty, pos, af, gd⟩ (fun v H' => ∃ b, v = .pointer (some ⟨b, 0, none⟩) ∧ H' = blk b cs T :: H) :=
  CS.new fun w F S s => by
    obtain ⟨v, w', hr, b, h1, h2, h3, h4, h5⟩ := R.box (P := P) (n := n) (w := w) (d := d) (ty := ty) (pos := pos) (af := af) (gd := gd) (T := T) hx
    exact ⟨v, w', hr, b, h1, h2, h3, h4, by rw [← hz]; exact h5⟩
/-- A new block, however it is made. -/
theorem CS.mk {op : Oper} {cs : List Value} {E : TypeId} {len cap : Nat} {A : Array Value} (h : ∀ w, Does P n ρ w op (NewS w A E len cap)) (hA : A.toList = cs) : CS P n o ρ H op (fun v H' => ∃ b, v = .slice (some ⟨b, 0, none⟩) len cap ∧ H' = blk b cs E :: H) :=
  CS.new fun w F S s => by
    obtain ⟨v, w', hr, b, h1, h2, h3, h4, h5⟩ := h w
    exact ⟨v, w', hr, b, h1, h2, h3, h4, by rw [← hA]; exact h5⟩
/-- A cell of a block is written. -/
inductive SetAt : List Value → Nat → Value → List Value → Prop
  | here {v x : Value} {l : List Value} : SetAt (x :: l) 0 v (v :: l)
  | there {v x : Value} {l l' : List Value} {k : Nat} : SetAt l k v l' → SetAt (x :: l) (k + 1) v (x :: l')
theorem SetAt.eq {l l' : List Value} {k : Nat} {v : Value} (h : SetAt l k v l') : k < l.length ∧ l' = l.set k v := by
  induction h with
  | here => exact ⟨by simp, rfl⟩
  | there _ ih => exact ⟨by simpa using ih.1, by rw [ih.2]; rfl⟩
/-- One assertion in the place of another one. -/
inductive Upd : List Asn → Asn → Asn → List Asn → Prop
  | here {A B : Asn} {H : List Asn} : Upd (A :: H) A B (B :: H)
  | there {A B C : Asn} {H H' : List Asn} : Upd H A B H' → Upd (C :: H) A B (C :: H')
theorem Upd.sel {H : List Asn} {A B : Asn} {H' : List Asn} (h : Upd H A B H') : ∃ H1, Sel H A H1 ∧ ∀ F S w, Sep (B :: H1) F S w → Sep H' F S w := by
  induction h with
  | here => exact ⟨_, .here, fun _ _ _ h => h⟩
  | there _ ih =>
    obtain ⟨H1, h1, h2⟩ := ih
    refine ⟨_, .there h1, fun F S w h => ?_⟩
    obtain ⟨F1, S1, F2, S2, a, b, hC, hH⟩ := h.swap
    exact ⟨F1, S1, F2, S2, a, b, hC, h2 _ _ _ hH⟩
theorem CS.upd {op : Oper} {A : Asn} {φ : Value → Asn → Prop} {H1 : List Asn} (sel : Sel H A H1) (h : ∀ w F S F1 S1, St H F S w → A.P F1 S1 w → (∀ b ∈ F1, b < w.heap.size) → Acts P n ρ w op (fun v w' => ∃ A' F' S', φ v A' ∧ A'.P F' S' w' ∧ (∀ b ∈ F', b < w'.heap.size) ∧ (∀ b ∈ S', b < w'.heap.size) ∧ From ⟨w, F1, S1⟩ w' F' S')) :
    CS P n o ρ H op (fun v H' => ∃ A', φ v A' ∧ H' = A' :: H1) := by
  refine CS.mono (CS.of (Sels.cons sel .nil) (Φ := fun v H' => ∃ A', φ v A' ∧ H' = [A']) fun w F S F1 S1 s s1 => ?_) ?_
  · obtain ⟨Fa, Sa, Fb, Sb, ⟨a, b, c, d⟩, _, hA, _⟩ := s1.sep
    refine (h w F S Fa Sa s hA (fun x hx => s1.ltF x (a hx))).mono ?_
    rintro v w' ⟨A', F', S', h1, h2, h3, h4, f⟩
    refine ⟨[A'], F', S', ⟨A', h1, rfl⟩, ⟨⟨F', S', [], [], ⟨subR _, by simp, subR _, by simp⟩, ⟨Apart.nilR _, Apart.nilR _, Apart.nilR _⟩, h2, trivial⟩, h3, h4⟩, ⟨f.ext.mono (fun x hx => .inl (a hx)), fun x hx => (f.fF x hx).imp (fun h => a h) id, fun x hx => (f.fS x hx).imp (fun h => c h) (fun h => h.imp (fun h => a h) id)⟩⟩
  · rintro v H' ⟨_, ⟨A', h1, rfl⟩, rfl⟩
    exact ⟨A', h1, rfl⟩
theorem CS.st {T : TypeId} [t : TyOne P T] {x y : Operand} {b k : Nat} {cs cs' : List Value} {U : TypeId} {v : Value} {H1 : List Asn} (hx : ev ρ x = some (.pointer (some ⟨b, k, none⟩))) (hy : ev ρ y = some v) (sel : Sel H (blk b cs U) H1) (hs : SetAt cs k v cs') (h1 : v.oneCell' = true) :
    CS P n o ρ H ⟨none, .store T x y, ty, pos, af, gd⟩ (fun _ H' => H' = blk b cs' U :: H1) := by
  refine CS.mono (CS.upd sel (φ := fun _ A' => A' = blk b cs' U) fun w F S F1 S1 s hA hlt => ?_) (by rintro v H' ⟨_, rfl, rfl⟩; rfl)
  obtain ⟨rfl, hB⟩ := hA
  obtain ⟨w', hr, he, hsz, hB'⟩ := R.st (P := P) (n := n) (T := T) (ty := ty) (pos := pos) (af := af) (gd := gd) hx hy hB (by simpa using hs.eq.1) h1
  refine .inr (.inl ⟨rfl, w', hr, _, [b], [], rfl, ⟨rfl, by rw [hs.eq.2]; simpa using hB'⟩, fun x hx => by have := hlt x hx; omega, by simp, ⟨he, fun x hx => .inl hx, by simp⟩⟩)
end
end
end Brv
/-
  Walks over assertions: the goals carry what is known of the world.
-/
set_option linter.unusedVariables false
set_option linter.unusedSimpArgs false
namespace Brv
open Go
section
variable (P : Program) (B : Exit → Act → World → Prop) (n : Fm) (o : Org)
def SG (ks : List K) (ρ : Env) (H : List Asn) (c : Code) : Prop := ∀ w F S, St H F S w → From o w F S → G P B n ks ρ w c
def SN (ks : List K) (ρ : Env) (H : List Asn) : Prop := ∀ w F S, St H F S w → From o w F S → N P B n ks ρ w
def SL (ops : List Oper) (ks : List K) (ρ : Env) (H : List Asn) (l : List Oper) : Prop := ∀ w F S, St H F S w → From o w F S → L P B n ops ks ρ w l
end
section
variable {P : Program} {B : Exit → Act → World → Prop} {n : Fm} {o : Org} {ks : List K} {ρ : Env} {H : List Asn}
theorem SG.sub {c : Code} (ρ' : Env) (hs : Sub ρ' ρ) (h : SG P B n o ks ρ' H c) : SG P B n o ks ρ H c := fun w F S s f => G.sub ρ' hs (h w F S s f)
theorem SN.sub (ρ' : Env) (hs : Sub ρ' ρ) (h : SN P B n o ks ρ' H) : SN P B n o ks ρ H := fun w F S s f => N.sub ρ' hs (h w F S s f)
theorem SG.imp {c : Code} {H' : List Asn} (i : Imp H H') (h : SG P B n o ks ρ H' c) : SG P B n o ks ρ H c := fun w F S s f => let ⟨F', S', s', f'⟩ := i.at s f; h w F' S' s' f'
theorem SN.imp {H' : List Asn} (i : Imp H H') (h : SN P B n o ks ρ H') : SN P B n o ks ρ H := fun w F S s f => let ⟨F', S', s', f'⟩ := i.at s f; h w F' S' s' f'
theorem SG.seq {x y : Code} (h : SG P B n o (.seq y :: ks) ρ H x) : SG P B n o ks ρ H (.seq x y) := fun w F S s f => G.seq (h w F S s f)
theorem SG.block {id : Nat} {c : Code} (h : SG P B n o (.block id :: ks) ρ H c) : SG P B n o ks ρ H (.block id c) := fun w F S s f => G.block (h w F S s f)
theorem SG.skip (h : SN P B n o ks ρ H) : SG P B n o ks ρ H .skip := fun w F S s f => G.skip (h w F S s f)
theorem SG.region {id : Nat} {l : List Oper} (h : SL P B n o l ks ρ H l) : SG P B n o ks ρ H (.region id l.toArray false) := fun w F S s f => G.region (h w F S s f)
theorem SN.seq {y : Code} (h : SG P B n o ks ρ H y) : SN P B n o (.seq y :: ks) ρ H := fun w F S s f => N.seq (h w F S s f)
theorem SN.block {id : Nat} (h : SN P B n o ks ρ H) : SN P B n o (.block id :: ks) ρ H := fun w F S s f => N.block (h w F S s f)
theorem SG.exit {id : Nat} (ks' : List K) (h : popTo id ks = some ks') (hn : SN P B n o ks' ρ H) : SG P B n o ks ρ H (.exit id) := fun w F S s f => G.exit ks' h (hn w F S s f)
theorem SG.condT {c : Operand} {x y : Code} (hc : ev ρ c = some (.bool true)) (h : SG P B n o ks ρ H x) : SG P B n o ks ρ H (.cond c x y) := fun w F S s f => G.condT hc (h w F S s f)
theorem SG.condF {c : Operand} {x y : Code} (hc : ev ρ c = some (.bool false)) (h : SG P B n o ks ρ H y) : SG P B n o ks ρ H (.cond c x y) := fun w F S s f => G.condF hc (h w F S s f)
theorem SG.condB {c : Operand} {x y : Code} {b : Bool} (hc : ev ρ c = some (.bool b)) (ht : b = true → SG P B n o ks ρ H x) (hf : b = false → SG P B n o ks ρ H y) : SG P B n o ks ρ H (.cond c x y) :=
  fun w F S s f => G.condB hc (fun h => ht h w F S s f) (fun h => hf h w F S s f)
theorem SG.condP {c : Operand} {x y : Code} {p : Prop} {dp : Decidable p} (hc : ev ρ c = some (.bool (@decide p dp))) (ht : p → SG P B n o ks ρ H x) (hf : ¬ p → SG P B n o ks ρ H y) : SG P B n o ks ρ H (.cond c x y) :=
  fun w F S s f => G.condP hc (fun h => ht h w F S s f) (fun h => hf h w F S s f)
theorem SG.be {v v' : Value} {c : Code} (d : Nat) (hv : look ρ d = some v) (e : v = v') (h : SG P B n o ks ((d, v') :: ρ) H c) : SG P B n o ks ρ H c := fun w F S s f => G.be d hv e (h w F S s f)
/-- The ways meet again. -/
theorem SG.cut {X : Type} (ρJ : X → Env) (HJ : X → List Asn) (J : X → Prop) {c : Code}
    (h : SG P B n o (.hand (fun a' w' => ∃ x, Fr n (ρJ x) a' ∧ J x ∧ ∃ F S, St (HJ x) F S w' ∧ From o w' F S) :: ks) ρ H c) (hn : ∀ x, J x → SN P B n o ks (ρJ x) (HJ x)) : SG P B n o ks ρ H c :=
  fun w F S s f => G.cut ρJ (fun x w' => J x ∧ ∃ F S, St (HJ x) F S w' ∧ From o w' F S) (h w F S s f) (fun x w' ⟨hj, F', S', s', f'⟩ => hn x hj w' F' S' s' f')
theorem SN.handX {X : Type} {ρJ : X → Env} {HJ : X → List Asn} {J : X → Prop} (x : X) (hs : Sub (ρJ x) ρ) (i : Imp H (HJ x)) (h : J x) :
    SN P B n o (.hand (fun a' w' => ∃ x, Fr n (ρJ x) a' ∧ J x ∧ ∃ F S, St (HJ x) F S w' ∧ From o w' F S) :: ks) ρ H :=
  fun _ _ _ s f => N.hand fun _ ha => ⟨x, ha.sub hs, h, i.at s f⟩
theorem SG.loop {X : Type} (ρI : X → Env) (HI : X → List Asn) (I : X → Prop) (μ : X → Nat) (x₀ : X) {c : Code} (hs : Sub (ρI x₀) ρ) (i : Imp H (HI x₀)) (h₀ : I x₀)
    (round : ∀ x, I x → SG P B n o (.hand (fun a' w' => ∃ x', μ x' < μ x ∧ Fr n (ρI x') a' ∧ I x' ∧ ∃ F S, St (HI x') F S w' ∧ From o w' F S) :: ks) (ρI x) (HI x) c) : SG P B n o ks ρ H (.loop c) :=
  fun w F S s f => G.loop ρI (fun x w' => I x ∧ ∃ F S, St (HI x) F S w' ∧ From o w' F S) μ x₀ hs ⟨h₀, i.at s f⟩ (fun x w' ⟨hi, F', S', s', f'⟩ => round x hi w' F' S' s' f')
theorem SN.again {X : Type} {ρI : X → Env} {HI : X → List Asn} {I : X → Prop} {μ : X → Nat} {x : X} (x' : X) (hlt : μ x' < μ x) (hs : Sub (ρI x') ρ) (i : Imp H (HI x')) (h : I x') :
    SN P B n o (.hand (fun a' w' => ∃ x', μ x' < μ x ∧ Fr n (ρI x') a' ∧ I x' ∧ ∃ F S, St (HI x') F S w' ∧ From o w' F S) :: ks) ρ H :=
  fun _ _ _ s f => N.hand fun _ ha => ⟨x', hlt, ha.sub hs, h, i.at s f⟩
end
section
variable {P : Program} {n : Nat} {o : Org} {ks : List K} {ρ : Env} {H H' : List Asn} {fn : Func} {Φ : Value → List Asn → Prop}
theorem post_of {w : World} {F S : List Nat} {v : Value} (i : Imp H H') (h : Φ v H') (s : St H F S w) (f : From o w F S) : PostS o Φ v w := let ⟨F', S', s', f'⟩ := i.at s f; ⟨H', F', S', h, s', f'⟩
theorem SG.ret1 {t : Nat} {v : Value} (hr : fn.results = #[.tmp t]) (hv : look ρ t = some v) (i : Imp H H') (h : Φ v H') : SG P (Func.base P fn (PostS o Φ)) ⟨n, [], none⟩ o ks ρ H .ret := fun _ _ _ s f => G.ret1 hr hv (post_of i h s f)
theorem SG.ret2 {t u : Nat} {v x : Value} (hr : fn.results = #[.tmp t, .tmp u]) (hv : look ρ t = some v) (hx : look ρ u = some x) (i : Imp H H') (h : Φ (.tuple #[v, x]) H') : SG P (Func.base P fn (PostS o Φ)) ⟨n, [], none⟩ o ks ρ H .ret := fun _ _ _ s f => G.ret2 hr hv hx (post_of i h s f)
theorem SG.ret3 {t u r : Nat} {v x y : Value} (hr : fn.results = #[.tmp t, .tmp u, .tmp r]) (hv : look ρ t = some v) (hx : look ρ u = some x) (hy : look ρ r = some y) (i : Imp H H') (h : Φ (.tuple #[v, x, y]) H') : SG P (Func.base P fn (PostS o Φ)) ⟨n, [], none⟩ o ks ρ H .ret := fun _ _ _ s f => G.ret3 hr hv hx hy (post_of i h s f)
theorem SG.ret0 (hr : fn.results = #[]) (i : Imp H H') (h : Φ (.tuple #[]) H') : SG P (Func.base P fn (PostS o Φ)) ⟨n, [], none⟩ o ks ρ H .ret := fun _ _ _ s f => G.ret0 hr (post_of i h s f)
theorem SN.end0 (hr : fn.results = #[]) (i : Imp H H') (h : Φ (.tuple #[]) H') : SN P (Func.base P fn (PostS o Φ)) ⟨n, [], none⟩ o [] ρ H := fun _ _ _ s f => N.end0 hr (post_of i h s f)
theorem SpecS.enter {f : FuncId} {c : Code} {args : List Value} (hf : P.funcs[f]? = some fn) (hb : fn.body = some c) (n : Nat) (hn : fn.ntmps = n) (hl : args.length ≤ n)
    (h : ∀ o, SG P (Func.base P fn (PostS o Φ)) ⟨n, [], none⟩ o [] (argEnv 0 args) H c) : SpecS P f args H Φ := fun w F S s => Meets.enter hf hb n hn hl (h ⟨w, F, S⟩ w F S s (From.refl w F S))
end
section
variable {P : Program} {B : Exit → Act → World → Prop} {n : Fm} {o : Org} {ops : List Oper} {ks : List K} {ρ : Env} {H : List Asn} {rest : List Oper}
theorem SL.nil (h : SN P B n o ks ρ H) : SL P B n o ops ks ρ H [] := fun w F S s f => L.nil (h w F S s f)
theorem SL.imp {l : List Oper} {H' : List Asn} (i : Imp H H') (h : SL P B n o ops ks ρ H' l) : SL P B n o ops ks ρ H l := fun w F S s f => let ⟨F', S', s', f'⟩ := i.at s f; h w F' S' s' f'
theorem SL.sub {l : List Oper} (ρ' : Env) (hs : Sub ρ' ρ) (h : SL P B n o ops ks ρ' H l) : SL P B n o ops ks ρ H l := fun w F S s f => L.sub ρ' hs (h w F S s f)
theorem SL.step {d : Nat} {op : Op} {ty : TypeId} {pos : String} {af : Array Edge} {gd : Option (Nat × Bool)} {Ψ : Value → List Asn → Prop} (hg : wants ops ρ gd = some true) (hd : Nat.blt d n = true)
    (h : CS P n o ρ H ⟨some d, op, ty, pos, af, gd⟩ Ψ) (k : ∀ v H', Ψ v H' → SL P B n o ops ks ((d, v) :: ρ) H' rest) (hdf : isDefer op = false := by rfl) : SL P B n o ops ks ρ H (⟨some d, op, ty, pos, af, gd⟩ :: rest) := by
  intro w F S s f a ha
  have hd' : d < n := by simpa [Nat.blt_eq] using hd
  unfold wpListIn
  rw [if_pos (wants_spec ha hg)]
  refine Oper.wpIn_mono ?_ ((h w F S s f).wp hdf ha rfl)
  rintro a' w' ⟨v, rfl, H', F', S', hΨ, s', f'⟩
  exact k v H' hΨ w' F' S' s' f' _ (ha.put hd' v)
theorem SL.step0 {op : Op} {ty : TypeId} {pos : String} {af : Array Edge} {gd : Option (Nat × Bool)} {Ψ : Value → List Asn → Prop} (hg : wants ops ρ gd = some true)
    (h : CS P n o ρ H ⟨none, op, ty, pos, af, gd⟩ Ψ) (k : ∀ v H', Ψ v H' → SL P B n o ops ks ρ H' rest) (hdf : isDefer op = false := by rfl) : SL P B n o ops ks ρ H (⟨none, op, ty, pos, af, gd⟩ :: rest) := by
  intro w F S s f a ha
  unfold wpListIn
  rw [if_pos (wants_spec ha hg)]
  refine Oper.wpIn_mono ?_ ((h w F S s f).wp hdf ha rfl)
  rintro a' w' ⟨v, rfl, H', F', S', hΨ, s', f'⟩
  exact k v H' hΨ w' F' S' s' f' _ ha
theorem SL.val {d : Nat} {op : Op} {ty : TypeId} {pos : String} {af : Array Edge} {gd : Option (Nat × Bool)} {v : Value} (hg : wants ops ρ gd = some true) (hd : Nat.blt d n = true)
    (hrun : ∀ w F S, St H F S w → Runs P n ρ w ⟨some d, op, ty, pos, af, gd⟩ v w) (h : SL P B n o ops ks ((d, v) :: ρ) H rest) (hdf : isDefer op = false := by rfl) : SL P B n o ops ks ρ H (⟨some d, op, ty, pos, af, gd⟩ :: rest) :=
  fun w F S s f => L.val hg hd (hrun w F S s) (h w F S s f) hdf
theorem SL.pass {d : Nat} {op : Op} {ty : TypeId} {pos : String} {af : Array Edge} {gd : Option (Nat × Bool)} (hg : wants ops ρ gd = some false) (hd : Nat.blt d n = true)
    (h : SL P B n o ops ks ((d, undef) :: ρ) H rest) : SL P B n o ops ks ρ H (⟨some d, op, ty, pos, af, gd⟩ :: rest) := fun w F S s f => L.pass hg hd (h w F S s f)
theorem SL.pass0 {op : Op} {ty : TypeId} {pos : String} {af : Array Edge} {gd : Option (Nat × Bool)} (hg : wants ops ρ gd = some false)
    (h : SL P B n o ops ks ρ H rest) : SL P B n o ops ks ρ H (⟨none, op, ty, pos, af, gd⟩ :: rest) := fun w F S s f => L.pass0 hg (h w F S s f)
theorem SL.caseB {b : Bool} (d : Nat) (hv : look ρ d = some (.bool b)) (ht : b = true → SL P B n o ops ks ((d, .bool true) :: ρ) H rest) (hf : b = false → SL P B n o ops ks ((d, .bool false) :: ρ) H rest) : SL P B n o ops ks ρ H rest :=
  fun w F S s f => L.caseB d hv (fun h => ht h w F S s f) (fun h => hf h w F S s f)
theorem SL.caseP {p : Prop} {dp : Decidable p} (d : Nat) (hv : look ρ d = some (.bool (@decide p dp))) (ht : p → SL P B n o ops ks ((d, .bool true) :: ρ) H rest) (hf : ¬ p → SL P B n o ops ks ((d, .bool false) :: ρ) H rest) : SL P B n o ops ks ρ H rest :=
  SL.caseB d hv (fun h => ht (of_decide_eq_true h)) (fun h => hf (of_decide_eq_false h))
theorem SL.isT {b : Bool} (d : Nat) (hv : look ρ d = some (.bool b)) (e : b = true) (h : SL P B n o ops ks ((d, .bool true) :: ρ) H rest) : SL P B n o ops ks ρ H rest := SL.caseB d hv (fun _ => h) (fun h' => by rw [e] at h'; cases h')
theorem SL.isF {b : Bool} (d : Nat) (hv : look ρ d = some (.bool b)) (e : b = false) (h : SL P B n o ops ks ((d, .bool false) :: ρ) H rest) : SL P B n o ops ks ρ H rest := SL.caseB d hv (fun h' => by rw [e] at h'; cases h') (fun _ => h)
theorem SL.be {v v' : Value} (d : Nat) (hv : look ρ d = some v) (e : v = v') (h : SL P B n o ops ks ((d, v') :: ρ) H rest) : SL P B n o ops ks ρ H rest := fun w F S s f => L.be d hv e (h w F S s f)
theorem SL.fact {l : List Oper} {φ : Prop} (hφ : ∀ w F S, St H F S w → φ) (h : φ → SL P B n o ops ks ρ H l) : SL P B n o ops ks ρ H l := fun w F S s f => h (hφ w F S s) w F S s f
theorem SG.fact {c : Code} {φ : Prop} (hφ : ∀ w F S, St H F S w → φ) (h : φ → SG P B n o ks ρ H c) : SG P B n o ks ρ H c := fun w F S s f => h (hφ w F S s) w F S s f
theorem SN.fact {φ : Prop} (hφ : ∀ w F S, St H F S w → φ) (h : φ → SN P B n o ks ρ H) : SN P B n o ks ρ H := fun w F S s f => h (hφ w F S s) w F S s f
end
end Brv
