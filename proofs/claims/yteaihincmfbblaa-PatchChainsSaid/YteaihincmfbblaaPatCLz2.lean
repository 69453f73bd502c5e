/-
  Texts of this claim, put together.
-/
import Derived.Test.YteaihincmfbblaaProg
import Derived.Test.YteaihincmfbblaaChecked
import Derived.Test.YteaihincmfbblaaPatCLz1
/-
  What this seat's types are, as instances.
-/
namespace Go.Proofs.Yteaihincmfbblaa
open Go Brv
instance : TyOne Try.prog 1 := ⟨by kernel_rfl, by kernel_rfl⟩
instance : TyInt Try.prog 2 .i64 := ⟨Try.underlying2⟩
instance : TyOne Try.prog 2 := ⟨by kernel_rfl, by kernel_rfl⟩
instance : TyZero Try.prog 2 (.int .i64 0) := ⟨by kernel_rfl⟩
instance : TyInt Try.prog 3 .i64 := ⟨Try.underlying3⟩
instance : TyOne Try.prog 3 := ⟨by kernel_rfl, by kernel_rfl⟩
instance : TyZero Try.prog 3 (.int .i64 0) := ⟨by kernel_rfl⟩
instance : TyBool Try.prog 4 := ⟨Try.underlying4⟩
instance : TyOne Try.prog 4 := ⟨by kernel_rfl, by kernel_rfl⟩
instance : TyZero Try.prog 4 (.bool false) := ⟨by kernel_rfl⟩
instance : TyInt Try.prog 5 .u8 := ⟨Try.underlying5⟩
instance : TyOne Try.prog 5 := ⟨by kernel_rfl, by kernel_rfl⟩
instance : TyZero Try.prog 5 (.int .u8 0) := ⟨by kernel_rfl⟩
instance : TyAgg Try.prog 7 4 := ⟨by kernel_rfl, by kernel_rfl⟩
instance : TyField Try.prog 7 0 0 := ⟨_, _, Try.underlying7, rfl, rfl, by kernel_rfl⟩
instance : TyField Try.prog 7 1 1 := ⟨_, _, Try.underlying7, rfl, rfl, by kernel_rfl⟩
instance : TyField Try.prog 7 2 2 := ⟨_, _, Try.underlying7, rfl, rfl, by kernel_rfl⟩
instance : TyField Try.prog 7 3 3 := ⟨_, _, Try.underlying7, rfl, rfl, by kernel_rfl⟩
instance : TyBuilt Try.prog 7 (fun i => (#[(0, 1), (1, 1), (2, 1), (3, 1)] : Array (Nat × Nat))[i]?) (.agg #[.int .i64 0, .int .i64 0, .bool false, .int .u8 0]) := TyBuilt.struct (ps := [(0, 1), (1, 1), (2, 1), (3, 1)]) Try.underlying7 (by kernel_rfl) (by kernel_rfl)
instance : TyZero Try.prog 7 (.agg #[.int .i64 0, .int .i64 0, .bool false, .int .u8 0]) := ⟨by kernel_rfl⟩
instance : TyStr Try.prog 9 := ⟨Try.underlying9⟩
instance : TyOne Try.prog 9 := ⟨by kernel_rfl, by kernel_rfl⟩
instance : TyZero Try.prog 9 (.string ByteArray.empty) := ⟨by kernel_rfl⟩
instance : TyInt Try.prog 12 .u64 := ⟨Try.underlying12⟩
instance : TyOne Try.prog 12 := ⟨by kernel_rfl, by kernel_rfl⟩
instance : TyZero Try.prog 12 (.int .u64 0) := ⟨by kernel_rfl⟩
instance : TyAgg Try.prog 13 2 := ⟨by kernel_rfl, by kernel_rfl⟩
instance : TyField Try.prog 13 0 0 := ⟨_, _, Try.underlying13, rfl, rfl, by kernel_rfl⟩
instance : TyField Try.prog 13 1 1 := ⟨_, _, Try.underlying13, rfl, rfl, by kernel_rfl⟩
instance : TyBuilt Try.prog 13 (fun i => (#[(0, 1), (1, 1)] : Array (Nat × Nat))[i]?) (.agg #[.string ByteArray.empty, .int .u64 0]) := TyBuilt.struct (ps := [(0, 1), (1, 1)]) Try.underlying13 (by kernel_rfl) (by kernel_rfl)
instance : TyZero Try.prog 13 (.agg #[.string ByteArray.empty, .int .u64 0]) := ⟨by kernel_rfl⟩
instance : TyAgg Try.prog 18 1 := ⟨by kernel_rfl, by kernel_rfl⟩
instance : TyField Try.prog 18 0 0 := ⟨_, _, Try.underlying18, rfl, rfl, by kernel_rfl⟩
instance : TyBuilt Try.prog 18 (fun i => (#[(0, 1)] : Array (Nat × Nat))[i]?) (.agg #[.pointer none]) := TyBuilt.struct (ps := [(0, 1)]) Try.underlying18 (by kernel_rfl) (by kernel_rfl)
instance : TyZero Try.prog 18 (.agg #[.pointer none]) := ⟨by kernel_rfl⟩
instance : TyOne Try.prog 20 := ⟨by kernel_rfl, by kernel_rfl⟩
instance : TyInt Try.prog 21 .i32 := ⟨Try.underlying21⟩
instance : TyOne Try.prog 21 := ⟨by kernel_rfl, by kernel_rfl⟩
instance : TyZero Try.prog 21 (.int .i32 0) := ⟨by kernel_rfl⟩
instance : TyOne Try.prog 22 := ⟨by kernel_rfl, by kernel_rfl⟩
instance : TyZero Try.prog 22 (.slice none 0 0) := ⟨by kernel_rfl⟩
instance : TySlice Try.prog 22 5 1 1 (.int .u8 0) := TySlice.of Try.underlying22 (by kernel_rfl) (by kernel_rfl) (by decide)
instance : TyBytes Try.prog 22 5 := ⟨Try.underlying22, Try.underlying5⟩
instance : TyOne Try.prog 23 := ⟨by kernel_rfl, by kernel_rfl⟩
instance : TyPtr Try.prog 24 := ⟨_, Try.underlying24⟩
instance : TyOne Try.prog 24 := ⟨by kernel_rfl, by kernel_rfl⟩
instance : TyZero Try.prog 24 (.pointer none) := ⟨by kernel_rfl⟩
instance : TyOne Try.prog 26 := ⟨by kernel_rfl, by kernel_rfl⟩
instance : TyOne Try.prog 27 := ⟨by kernel_rfl, by kernel_rfl⟩
instance : TyInt Try.prog 28 .i64 := ⟨Try.underlying28⟩
instance : TyOne Try.prog 28 := ⟨by kernel_rfl, by kernel_rfl⟩
instance : TyZero Try.prog 28 (.int .i64 0) := ⟨by kernel_rfl⟩
instance : TyOne Try.prog 30 := ⟨by kernel_rfl, by kernel_rfl⟩
instance : TyOne Try.prog 31 := ⟨by kernel_rfl, by kernel_rfl⟩
instance : TyZero Try.prog 31 (.slice none 0 0) := ⟨by kernel_rfl⟩
instance : TySlice Try.prog 31 3 1 8 (.int .i64 0) := TySlice.of Try.underlying31 (by kernel_rfl) (by kernel_rfl) (by decide)
instance : TyOne Try.prog 33 := ⟨by kernel_rfl, by kernel_rfl⟩
instance : TyOne Try.prog 34 := ⟨by kernel_rfl, by kernel_rfl⟩
instance : TyOne Try.prog 35 := ⟨by kernel_rfl, by kernel_rfl⟩
instance : TyOne Try.prog 36 := ⟨by kernel_rfl, by kernel_rfl⟩
instance : TyOne Try.prog 37 := ⟨by kernel_rfl, by kernel_rfl⟩
instance : TyOne Try.prog 38 := ⟨by kernel_rfl, by kernel_rfl⟩
instance : TyOne Try.prog 39 := ⟨by kernel_rfl, by kernel_rfl⟩
instance : TyZero Try.prog 39 (.slice none 0 0) := ⟨by kernel_rfl⟩
instance : TySlice Try.prog 39 9 1 16 (.string ByteArray.empty) := TySlice.of Try.underlying39 (by kernel_rfl) (by kernel_rfl) (by decide)
instance : TyAgg Try.prog 40 5 := ⟨by kernel_rfl, by kernel_rfl⟩
instance : TyField Try.prog 40 0 0 := ⟨_, _, Try.underlying40, rfl, rfl, by kernel_rfl⟩
instance : TyField Try.prog 40 1 1 := ⟨_, _, Try.underlying40, rfl, rfl, by kernel_rfl⟩
instance : TyField Try.prog 40 2 2 := ⟨_, _, Try.underlying40, rfl, rfl, by kernel_rfl⟩
instance : TyField Try.prog 40 3 3 := ⟨_, _, Try.underlying40, rfl, rfl, by kernel_rfl⟩
instance : TyField Try.prog 40 4 4 := ⟨_, _, Try.underlying40, rfl, rfl, by kernel_rfl⟩
instance : TyBuilt Try.prog 40 (fun i => (#[(0, 1), (1, 1), (2, 1), (3, 1), (4, 1)] : Array (Nat × Nat))[i]?) (.agg #[.int .i64 0, .string ByteArray.empty, .string ByteArray.empty, .slice none 0 0, .slice none 0 0]) := TyBuilt.struct (ps := [(0, 1), (1, 1), (2, 1), (3, 1), (4, 1)]) Try.underlying40 (by kernel_rfl) (by kernel_rfl)
instance : TyZero Try.prog 40 (.agg #[.int .i64 0, .string ByteArray.empty, .string ByteArray.empty, .slice none 0 0, .slice none 0 0]) := ⟨by kernel_rfl⟩
instance : TyAgg Try.prog 41 5 := ⟨by kernel_rfl, by kernel_rfl⟩
instance : TyField Try.prog 41 0 0 := ⟨_, _, Try.underlying41, rfl, rfl, by kernel_rfl⟩
instance : TyField Try.prog 41 1 1 := ⟨_, _, Try.underlying41, rfl, rfl, by kernel_rfl⟩
instance : TyField Try.prog 41 2 2 := ⟨_, _, Try.underlying41, rfl, rfl, by kernel_rfl⟩
instance : TyField Try.prog 41 3 3 := ⟨_, _, Try.underlying41, rfl, rfl, by kernel_rfl⟩
instance : TyField Try.prog 41 4 4 := ⟨_, _, Try.underlying41, rfl, rfl, by kernel_rfl⟩
instance : TyBuilt Try.prog 41 (fun i => (#[(0, 1), (1, 1), (2, 1), (3, 1), (4, 1)] : Array (Nat × Nat))[i]?) (.agg #[.int .i64 0, .string ByteArray.empty, .string ByteArray.empty, .slice none 0 0, .slice none 0 0]) := TyBuilt.struct (ps := [(0, 1), (1, 1), (2, 1), (3, 1), (4, 1)]) Try.underlying41 (by kernel_rfl) (by kernel_rfl)
instance : TyZero Try.prog 41 (.agg #[.int .i64 0, .string ByteArray.empty, .string ByteArray.empty, .slice none 0 0, .slice none 0 0]) := ⟨by kernel_rfl⟩
instance : TyOne Try.prog 43 := ⟨by kernel_rfl, by kernel_rfl⟩
instance : TyOne Try.prog 44 := ⟨by kernel_rfl, by kernel_rfl⟩
instance : TyOne Try.prog 46 := ⟨by kernel_rfl, by kernel_rfl⟩
instance : TyOne Try.prog 47 := ⟨by kernel_rfl, by kernel_rfl⟩
instance : TyOne Try.prog 48 := ⟨by kernel_rfl, by kernel_rfl⟩
instance : TyOne Try.prog 49 := ⟨by kernel_rfl, by kernel_rfl⟩
instance : TyZero Try.prog 49 (.slice none 0 0) := ⟨by kernel_rfl⟩
instance : TySlice Try.prog 49 22 1 24 (.slice none 0 0) := TySlice.of Try.underlying49 (by kernel_rfl) (by kernel_rfl) (by decide)
instance : TyOne Try.prog 51 := ⟨by kernel_rfl, by kernel_rfl⟩
instance : TyOne Try.prog 52 := ⟨by kernel_rfl, by kernel_rfl⟩
instance : TyOne Try.prog 53 := ⟨by kernel_rfl, by kernel_rfl⟩
instance : TyOne Try.prog 54 := ⟨by kernel_rfl, by kernel_rfl⟩
instance : TyAgg Try.prog 55 2 := ⟨by kernel_rfl, by kernel_rfl⟩
instance : TyField Try.prog 55 0 0 := ⟨_, _, Try.underlying55, rfl, rfl, by kernel_rfl⟩
instance : TyField Try.prog 55 1 1 := ⟨_, _, Try.underlying55, rfl, rfl, by kernel_rfl⟩
instance : TyBuilt Try.prog 55 (fun i => (#[(0, 1), (1, 1)] : Array (Nat × Nat))[i]?) (.agg #[.int .i64 0, .slice none 0 0]) := TyBuilt.struct (ps := [(0, 1), (1, 1)]) Try.underlying55 (by kernel_rfl) (by kernel_rfl)
instance : TyZero Try.prog 55 (.agg #[.int .i64 0, .slice none 0 0]) := ⟨by kernel_rfl⟩
instance : TyAgg Try.prog 56 2 := ⟨by kernel_rfl, by kernel_rfl⟩
instance : TyField Try.prog 56 0 0 := ⟨_, _, Try.underlying56, rfl, rfl, by kernel_rfl⟩
instance : TyField Try.prog 56 1 1 := ⟨_, _, Try.underlying56, rfl, rfl, by kernel_rfl⟩
instance : TyBuilt Try.prog 56 (fun i => (#[(0, 1), (1, 1)] : Array (Nat × Nat))[i]?) (.agg #[.int .i64 0, .slice none 0 0]) := TyBuilt.struct (ps := [(0, 1), (1, 1)]) Try.underlying56 (by kernel_rfl) (by kernel_rfl)
instance : TyZero Try.prog 56 (.agg #[.int .i64 0, .slice none 0 0]) := ⟨by kernel_rfl⟩
instance : TyOne Try.prog 57 := ⟨by kernel_rfl, by kernel_rfl⟩
instance : TyOne Try.prog 58 := ⟨by kernel_rfl, by kernel_rfl⟩
instance : TyPtr Try.prog 59 := ⟨_, Try.underlying59⟩
instance : TyOne Try.prog 59 := ⟨by kernel_rfl, by kernel_rfl⟩
instance : TyZero Try.prog 59 (.pointer none) := ⟨by kernel_rfl⟩
instance : TyAgg Try.prog 60 1 := ⟨by kernel_rfl, by kernel_rfl⟩
instance : TyField Try.prog 60 0 0 := ⟨_, _, Try.underlying60, rfl, rfl, by kernel_rfl⟩
instance : TyBuilt Try.prog 60 (fun i => (#[(0, 1)] : Array (Nat × Nat))[i]?) (.agg #[.slice none 0 0]) := TyBuilt.struct (ps := [(0, 1)]) Try.underlying60 (by kernel_rfl) (by kernel_rfl)
instance : TyZero Try.prog 60 (.agg #[.slice none 0 0]) := ⟨by kernel_rfl⟩
instance : TyAgg Try.prog 61 1 := ⟨by kernel_rfl, by kernel_rfl⟩
instance : TyField Try.prog 61 0 0 := ⟨_, _, Try.underlying61, rfl, rfl, by kernel_rfl⟩
instance : TyBuilt Try.prog 61 (fun i => (#[(0, 1)] : Array (Nat × Nat))[i]?) (.agg #[.slice none 0 0]) := TyBuilt.struct (ps := [(0, 1)]) Try.underlying61 (by kernel_rfl) (by kernel_rfl)
instance : TyZero Try.prog 61 (.agg #[.slice none 0 0]) := ⟨by kernel_rfl⟩
instance : TyOne Try.prog 62 := ⟨by kernel_rfl, by kernel_rfl⟩
instance : TyOne Try.prog 63 := ⟨by kernel_rfl, by kernel_rfl⟩
instance : TyInt Try.prog 64 .u64 := ⟨Try.underlying64⟩
instance : TyOne Try.prog 64 := ⟨by kernel_rfl, by kernel_rfl⟩
instance : TyZero Try.prog 64 (.int .u64 0) := ⟨by kernel_rfl⟩
instance : TyOne Try.prog 65 := ⟨by kernel_rfl, by kernel_rfl⟩
instance : TyOne Try.prog 67 := ⟨by kernel_rfl, by kernel_rfl⟩
instance : TyOne Try.prog 68 := ⟨by kernel_rfl, by kernel_rfl⟩
instance : TyOne Try.prog 69 := ⟨by kernel_rfl, by kernel_rfl⟩
instance : TyPtr Try.prog 70 := ⟨_, Try.underlying70⟩
instance : TyOne Try.prog 70 := ⟨by kernel_rfl, by kernel_rfl⟩
instance : TyZero Try.prog 70 (.pointer none) := ⟨by kernel_rfl⟩
instance : TyOne Try.prog 72 := ⟨by kernel_rfl, by kernel_rfl⟩
instance : TyOne Try.prog 73 := ⟨by kernel_rfl, by kernel_rfl⟩
instance : TyZero Try.prog 73 (.slice none 0 0) := ⟨by kernel_rfl⟩
instance : TySlice Try.prog 73 78 2 32 (.agg #[.int .i64 0, .slice none 0 0]) := TySlice.of Try.underlying73 (by kernel_rfl) (by kernel_rfl) (by decide)
instance : TyAgg Try.prog 74 4 := ⟨by kernel_rfl, by kernel_rfl⟩
instance : TyField Try.prog 74 0 0 := ⟨_, _, Try.underlying74, rfl, rfl, by kernel_rfl⟩
instance : TyField Try.prog 74 1 1 := ⟨_, _, Try.underlying74, rfl, rfl, by kernel_rfl⟩
instance : TyField Try.prog 74 2 2 := ⟨_, _, Try.underlying74, rfl, rfl, by kernel_rfl⟩
instance : TyField Try.prog 74 3 3 := ⟨_, _, Try.underlying74, rfl, rfl, by kernel_rfl⟩
instance : TyBuilt Try.prog 74 (fun i => (#[(0, 1), (1, 1), (2, 1), (3, 1)] : Array (Nat × Nat))[i]?) (.agg #[.int .i64 0, .int .u64 0, .int .u64 0, .slice none 0 0]) := TyBuilt.struct (ps := [(0, 1), (1, 1), (2, 1), (3, 1)]) Try.underlying74 (by kernel_rfl) (by kernel_rfl)
instance : TyZero Try.prog 74 (.agg #[.int .i64 0, .int .u64 0, .int .u64 0, .slice none 0 0]) := ⟨by kernel_rfl⟩
instance : TyAgg Try.prog 75 4 := ⟨by kernel_rfl, by kernel_rfl⟩
instance : TyField Try.prog 75 0 0 := ⟨_, _, Try.underlying75, rfl, rfl, by kernel_rfl⟩
instance : TyField Try.prog 75 1 1 := ⟨_, _, Try.underlying75, rfl, rfl, by kernel_rfl⟩
instance : TyField Try.prog 75 2 2 := ⟨_, _, Try.underlying75, rfl, rfl, by kernel_rfl⟩
instance : TyField Try.prog 75 3 3 := ⟨_, _, Try.underlying75, rfl, rfl, by kernel_rfl⟩
instance : TyBuilt Try.prog 75 (fun i => (#[(0, 1), (1, 1), (2, 1), (3, 1)] : Array (Nat × Nat))[i]?) (.agg #[.int .i64 0, .int .u64 0, .int .u64 0, .slice none 0 0]) := TyBuilt.struct (ps := [(0, 1), (1, 1), (2, 1), (3, 1)]) Try.underlying75 (by kernel_rfl) (by kernel_rfl)
instance : TyZero Try.prog 75 (.agg #[.int .i64 0, .int .u64 0, .int .u64 0, .slice none 0 0]) := ⟨by kernel_rfl⟩
instance : TyOne Try.prog 76 := ⟨by kernel_rfl, by kernel_rfl⟩
instance : TyZero Try.prog 76 (.slice none 0 0) := ⟨by kernel_rfl⟩
instance : TySlice Try.prog 76 56 2 32 (.agg #[.int .i64 0, .slice none 0 0]) := TySlice.of Try.underlying76 (by kernel_rfl) (by kernel_rfl) (by decide)
instance : TyAgg Try.prog 77 2 := ⟨by kernel_rfl, by kernel_rfl⟩
instance : TyField Try.prog 77 0 0 := ⟨_, _, Try.underlying77, rfl, rfl, by kernel_rfl⟩
instance : TyField Try.prog 77 1 1 := ⟨_, _, Try.underlying77, rfl, rfl, by kernel_rfl⟩
instance : TyBuilt Try.prog 77 (fun i => (#[(0, 1), (1, 1)] : Array (Nat × Nat))[i]?) (.agg #[.int .i64 0, .slice none 0 0]) := TyBuilt.struct (ps := [(0, 1), (1, 1)]) Try.underlying77 (by kernel_rfl) (by kernel_rfl)
instance : TyZero Try.prog 77 (.agg #[.int .i64 0, .slice none 0 0]) := ⟨by kernel_rfl⟩
instance : TyAgg Try.prog 78 2 := ⟨by kernel_rfl, by kernel_rfl⟩
instance : TyField Try.prog 78 0 0 := ⟨_, _, Try.underlying78, rfl, rfl, by kernel_rfl⟩
instance : TyField Try.prog 78 1 1 := ⟨_, _, Try.underlying78, rfl, rfl, by kernel_rfl⟩
instance : TyBuilt Try.prog 78 (fun i => (#[(0, 1), (1, 1)] : Array (Nat × Nat))[i]?) (.agg #[.int .i64 0, .slice none 0 0]) := TyBuilt.struct (ps := [(0, 1), (1, 1)]) Try.underlying78 (by kernel_rfl) (by kernel_rfl)
instance : TyZero Try.prog 78 (.agg #[.int .i64 0, .slice none 0 0]) := ⟨by kernel_rfl⟩
instance : TyOne Try.prog 79 := ⟨by kernel_rfl, by kernel_rfl⟩
instance : TyOne Try.prog 81 := ⟨by kernel_rfl, by kernel_rfl⟩
instance : TyOne Try.prog 82 := ⟨by kernel_rfl, by kernel_rfl⟩
instance : TyZero Try.prog 82 (.slice none 0 0) := ⟨by kernel_rfl⟩
instance : TySlice Try.prog 82 98 1 8 (.pointer none) := TySlice.of Try.underlying82 (by kernel_rfl) (by kernel_rfl) (by decide)
instance : TyAgg Try.prog 83 1 := ⟨by kernel_rfl, by kernel_rfl⟩
instance : TyField Try.prog 83 0 0 := ⟨_, _, Try.underlying83, rfl, rfl, by kernel_rfl⟩
instance : TyBuilt Try.prog 83 (fun i => (#[(0, 1)] : Array (Nat × Nat))[i]?) (.agg #[.slice none 0 0]) := TyBuilt.struct (ps := [(0, 1)]) Try.underlying83 (by kernel_rfl) (by kernel_rfl)
instance : TyZero Try.prog 83 (.agg #[.slice none 0 0]) := ⟨by kernel_rfl⟩
instance : TyAgg Try.prog 84 1 := ⟨by kernel_rfl, by kernel_rfl⟩
instance : TyField Try.prog 84 0 0 := ⟨_, _, Try.underlying84, rfl, rfl, by kernel_rfl⟩
instance : TyBuilt Try.prog 84 (fun i => (#[(0, 1)] : Array (Nat × Nat))[i]?) (.agg #[.slice none 0 0]) := TyBuilt.struct (ps := [(0, 1)]) Try.underlying84 (by kernel_rfl) (by kernel_rfl)
instance : TyZero Try.prog 84 (.agg #[.slice none 0 0]) := ⟨by kernel_rfl⟩
instance : TyPtr Try.prog 85 := ⟨_, Try.underlying85⟩
instance : TyOne Try.prog 85 := ⟨by kernel_rfl, by kernel_rfl⟩
instance : TyZero Try.prog 85 (.pointer none) := ⟨by kernel_rfl⟩
instance : TyAgg Try.prog 86 2 := ⟨by kernel_rfl, by kernel_rfl⟩
instance : TyField Try.prog 86 0 0 := ⟨_, _, Try.underlying86, rfl, rfl, by kernel_rfl⟩
instance : TyField Try.prog 86 1 1 := ⟨_, _, Try.underlying86, rfl, rfl, by kernel_rfl⟩
instance : TyBuilt Try.prog 86 (fun i => (#[(0, 1), (1, 1)] : Array (Nat × Nat))[i]?) (.agg #[.string ByteArray.empty, .int .i64 0]) := TyBuilt.struct (ps := [(0, 1), (1, 1)]) Try.underlying86 (by kernel_rfl) (by kernel_rfl)
instance : TyZero Try.prog 86 (.agg #[.string ByteArray.empty, .int .i64 0]) := ⟨by kernel_rfl⟩
instance : TyAgg Try.prog 87 2 := ⟨by kernel_rfl, by kernel_rfl⟩
instance : TyField Try.prog 87 0 0 := ⟨_, _, Try.underlying87, rfl, rfl, by kernel_rfl⟩
instance : TyField Try.prog 87 1 1 := ⟨_, _, Try.underlying87, rfl, rfl, by kernel_rfl⟩
instance : TyBuilt Try.prog 87 (fun i => (#[(0, 1), (1, 1)] : Array (Nat × Nat))[i]?) (.agg #[.string ByteArray.empty, .int .i64 0]) := TyBuilt.struct (ps := [(0, 1), (1, 1)]) Try.underlying87 (by kernel_rfl) (by kernel_rfl)
instance : TyZero Try.prog 87 (.agg #[.string ByteArray.empty, .int .i64 0]) := ⟨by kernel_rfl⟩
instance : TyOne Try.prog 88 := ⟨by kernel_rfl, by kernel_rfl⟩
instance : TyOne Try.prog 89 := ⟨by kernel_rfl, by kernel_rfl⟩
instance : TyOne Try.prog 90 := ⟨by kernel_rfl, by kernel_rfl⟩
instance : TyOne Try.prog 91 := ⟨by kernel_rfl, by kernel_rfl⟩
instance : TyOne Try.prog 92 := ⟨by kernel_rfl, by kernel_rfl⟩
instance : TyOne Try.prog 93 := ⟨by kernel_rfl, by kernel_rfl⟩
instance : TyOne Try.prog 94 := ⟨by kernel_rfl, by kernel_rfl⟩
instance : TyOne Try.prog 95 := ⟨by kernel_rfl, by kernel_rfl⟩
instance : TyOne Try.prog 96 := ⟨by kernel_rfl, by kernel_rfl⟩
instance : TyOne Try.prog 97 := ⟨by kernel_rfl, by kernel_rfl⟩
instance : TyPtr Try.prog 98 := ⟨_, Try.underlying98⟩
instance : TyOne Try.prog 98 := ⟨by kernel_rfl, by kernel_rfl⟩
instance : TyZero Try.prog 98 (.pointer none) := ⟨by kernel_rfl⟩
instance : TyOne Try.prog 99 := ⟨by kernel_rfl, by kernel_rfl⟩
instance : TyOne Try.prog 100 := ⟨by kernel_rfl, by kernel_rfl⟩
instance : TyAgg Try.prog 101 64 := ⟨by kernel_rfl, by kernel_rfl⟩
instance : TyArr Try.prog 101 64 5 1 := ⟨Try.underlying101, by kernel_rfl⟩
instance : TyBuilt Try.prog 101 (fun i => some (i * 1, 1)) (.agg (Array.replicate 64 (.int .u8 0))) := TyBuilt.array Try.underlying101 (by kernel_rfl) (by kernel_rfl)
instance : TyZero Try.prog 101 (.agg (Array.replicate 64 (.int .u8 0))) := ⟨by kernel_rfl⟩
instance : TyAgg Try.prog 102 64 := ⟨by kernel_rfl, by kernel_rfl⟩
instance : TyArr Try.prog 102 64 5 1 := ⟨Try.underlying102, by kernel_rfl⟩
instance : TyBuilt Try.prog 102 (fun i => some (i * 1, 1)) (.agg (Array.replicate 64 (.int .u8 0))) := TyBuilt.array Try.underlying102 (by kernel_rfl) (by kernel_rfl)
instance : TyZero Try.prog 102 (.agg (Array.replicate 64 (.int .u8 0))) := ⟨by kernel_rfl⟩
instance : TyInt Try.prog 103 .u64 := ⟨Try.underlying103⟩
instance : TyOne Try.prog 103 := ⟨by kernel_rfl, by kernel_rfl⟩
instance : TyZero Try.prog 103 (.int .u64 0) := ⟨by kernel_rfl⟩
instance : TyOne Try.prog 104 := ⟨by kernel_rfl, by kernel_rfl⟩
instance : TyZero Try.prog 104 (.slice none 0 0) := ⟨by kernel_rfl⟩
instance : TySlice Try.prog 104 106 1 24 (.slice none 0 0) := TySlice.of Try.underlying104 (by kernel_rfl) (by kernel_rfl) (by decide)
instance : TyOne Try.prog 105 := ⟨by kernel_rfl, by kernel_rfl⟩
instance : TyOne Try.prog 106 := ⟨by kernel_rfl, by kernel_rfl⟩
instance : TyZero Try.prog 106 (.slice none 0 0) := ⟨by kernel_rfl⟩
instance : TySlice Try.prog 106 64 1 8 (.int .u64 0) := TySlice.of Try.underlying106 (by kernel_rfl) (by kernel_rfl) (by decide)
instance : TyOne Try.prog 107 := ⟨by kernel_rfl, by kernel_rfl⟩
instance : TyPtr Try.prog 108 := ⟨_, Try.underlying108⟩
instance : TyOne Try.prog 108 := ⟨by kernel_rfl, by kernel_rfl⟩
instance : TyZero Try.prog 108 (.pointer none) := ⟨by kernel_rfl⟩
instance : TyOne Try.prog 109 := ⟨by kernel_rfl, by kernel_rfl⟩
instance : TyOne Try.prog 110 := ⟨by kernel_rfl, by kernel_rfl⟩
instance : TyOne Try.prog 111 := ⟨by kernel_rfl, by kernel_rfl⟩
instance : TyOne Try.prog 112 := ⟨by kernel_rfl, by kernel_rfl⟩
instance : TyOne Try.prog 113 := ⟨by kernel_rfl, by kernel_rfl⟩
instance : TyOne Try.prog 114 := ⟨by kernel_rfl, by kernel_rfl⟩
instance : TyOne Try.prog 115 := ⟨by kernel_rfl, by kernel_rfl⟩
instance : TyOne Try.prog 116 := ⟨by kernel_rfl, by kernel_rfl⟩
instance : TyOne Try.prog 117 := ⟨by kernel_rfl, by kernel_rfl⟩
instance : TyOne Try.prog 119 := ⟨by kernel_rfl, by kernel_rfl⟩
instance : TyOne Try.prog 120 := ⟨by kernel_rfl, by kernel_rfl⟩
instance : TyOne Try.prog 121 := ⟨by kernel_rfl, by kernel_rfl⟩
instance : TyOne Try.prog 122 := ⟨by kernel_rfl, by kernel_rfl⟩
instance : TyOne Try.prog 123 := ⟨by kernel_rfl, by kernel_rfl⟩
instance : TyOne Try.prog 124 := ⟨by kernel_rfl, by kernel_rfl⟩
instance : TyOne Try.prog 125 := ⟨by kernel_rfl, by kernel_rfl⟩
instance : TyAgg Try.prog 126 2 := ⟨by kernel_rfl, by kernel_rfl⟩
instance : TyField Try.prog 126 0 0 := ⟨_, _, Try.underlying126, rfl, rfl, by kernel_rfl⟩
instance : TyField Try.prog 126 1 1 := ⟨_, _, Try.underlying126, rfl, rfl, by kernel_rfl⟩
instance : TyBuilt Try.prog 126 (fun i => (#[(0, 1), (1, 1)] : Array (Nat × Nat))[i]?) (.agg #[.slice none 0 0, .int .i64 0]) := TyBuilt.struct (ps := [(0, 1), (1, 1)]) Try.underlying126 (by kernel_rfl) (by kernel_rfl)
instance : TyZero Try.prog 126 (.agg #[.slice none 0 0, .int .i64 0]) := ⟨by kernel_rfl⟩
instance : TyAgg Try.prog 127 2 := ⟨by kernel_rfl, by kernel_rfl⟩
instance : TyField Try.prog 127 0 0 := ⟨_, _, Try.underlying127, rfl, rfl, by kernel_rfl⟩
instance : TyField Try.prog 127 1 1 := ⟨_, _, Try.underlying127, rfl, rfl, by kernel_rfl⟩
instance : TyBuilt Try.prog 127 (fun i => (#[(0, 1), (1, 1)] : Array (Nat × Nat))[i]?) (.agg #[.slice none 0 0, .int .i64 0]) := TyBuilt.struct (ps := [(0, 1), (1, 1)]) Try.underlying127 (by kernel_rfl) (by kernel_rfl)
instance : TyZero Try.prog 127 (.agg #[.slice none 0 0, .int .i64 0]) := ⟨by kernel_rfl⟩
instance : TyOne Try.prog 129 := ⟨by kernel_rfl, by kernel_rfl⟩
instance : TyOne Try.prog 131 := ⟨by kernel_rfl, by kernel_rfl⟩
instance : TyOne Try.prog 132 := ⟨by kernel_rfl, by kernel_rfl⟩
instance : TyOne Try.prog 133 := ⟨by kernel_rfl, by kernel_rfl⟩
instance : TyInt Try.prog 134 .u32 := ⟨Try.underlying134⟩
instance : TyOne Try.prog 134 := ⟨by kernel_rfl, by kernel_rfl⟩
instance : TyZero Try.prog 134 (.int .u32 0) := ⟨by kernel_rfl⟩
instance : TyOne Try.prog 136 := ⟨by kernel_rfl, by kernel_rfl⟩
instance : TyOne Try.prog 138 := ⟨by kernel_rfl, by kernel_rfl⟩
instance : TyOne Try.prog 139 := ⟨by kernel_rfl, by kernel_rfl⟩
instance : TyOne Try.prog 140 := ⟨by kernel_rfl, by kernel_rfl⟩
instance : TyOne Try.prog 141 := ⟨by kernel_rfl, by kernel_rfl⟩
instance : TyAgg Try.prog 142 4 := ⟨by kernel_rfl, by kernel_rfl⟩
instance : TyField Try.prog 142 0 0 := ⟨_, _, Try.underlying142, rfl, rfl, by kernel_rfl⟩
instance : TyField Try.prog 142 1 1 := ⟨_, _, Try.underlying142, rfl, rfl, by kernel_rfl⟩
instance : TyField Try.prog 142 2 2 := ⟨_, _, Try.underlying142, rfl, rfl, by kernel_rfl⟩
instance : TyField Try.prog 142 3 3 := ⟨_, _, Try.underlying142, rfl, rfl, by kernel_rfl⟩
instance : TyBuilt Try.prog 142 (fun i => (#[(0, 1), (1, 1), (2, 1), (3, 1)] : Array (Nat × Nat))[i]?) (.agg #[.pointer none, .pointer none, .pointer none, .string ByteArray.empty]) := TyBuilt.struct (ps := [(0, 1), (1, 1), (2, 1), (3, 1)]) Try.underlying142 (by kernel_rfl) (by kernel_rfl)
instance : TyZero Try.prog 142 (.agg #[.pointer none, .pointer none, .pointer none, .string ByteArray.empty]) := ⟨by kernel_rfl⟩
instance : TyAgg Try.prog 144 0 := ⟨by kernel_rfl, by kernel_rfl⟩
instance : TyArr Try.prog 144 0 16 1 := ⟨Try.underlying144, by kernel_rfl⟩
instance : TyBuilt Try.prog 144 (fun i => some (i * 1, 1)) (.agg #[]) := TyBuilt.array Try.underlying144 (by kernel_rfl) (by kernel_rfl)
instance : TyZero Try.prog 144 (.agg #[]) := ⟨by kernel_rfl⟩
instance : TyAgg Try.prog 145 0 := ⟨by kernel_rfl, by kernel_rfl⟩
instance : TyBuilt Try.prog 145 (fun i => (#[(0, 0)] : Array (Nat × Nat))[i]?) (.agg #[]) := TyBuilt.struct (ps := [(0, 0)]) Try.underlying145 (by kernel_rfl) (by kernel_rfl)
instance : TyZero Try.prog 145 (.agg #[]) := ⟨by kernel_rfl⟩
instance : TyOne Try.prog 149 := ⟨by kernel_rfl, by kernel_rfl⟩
instance : TyPtr Try.prog 150 := ⟨_, Try.underlying150⟩
instance : TyOne Try.prog 150 := ⟨by kernel_rfl, by kernel_rfl⟩
instance : TyZero Try.prog 150 (.pointer none) := ⟨by kernel_rfl⟩
instance : Mixed Try.prog := ⟨by kernel_rfl⟩
end Go.Proofs.Yteaihincmfbblaa
/-
  What a call of each function enters.
-/
set_option maxRecDepth 100000
namespace Go.Proofs.Yteaihincmfbblaa
open Go Brv
theorem go6 : ∀ (vs : Array Value) w, (callFunc 6 vs).run Try.prog w = .ok (.enter 6 vs) w := callFunc_run Try.func6 (by decide) rfl
theorem go7 : ∀ (vs : Array Value) w, (callFunc 7 vs).run Try.prog w = .ok (.enter 7 vs) w := callFunc_run Try.func7 (by decide) rfl
theorem go8 : ∀ (vs : Array Value) w, (callFunc 8 vs).run Try.prog w = .ok (.enter 8 vs) w := callFunc_run Try.func8 (by decide) rfl
theorem go9 : ∀ (vs : Array Value) w, (callFunc 9 vs).run Try.prog w = .ok (.enter 9 vs) w := callFunc_run Try.func9 (by decide) rfl
theorem go10 : ∀ (vs : Array Value) w, (callFunc 10 vs).run Try.prog w = .ok (.enter 10 vs) w := callFunc_run Try.func10 (by decide) rfl
theorem go12 : ∀ (vs : Array Value) w, (callFunc 12 vs).run Try.prog w = .ok (.enter 12 vs) w := callFunc_run Try.func12 (by decide) rfl
theorem go13 : ∀ (vs : Array Value) w, (callFunc 13 vs).run Try.prog w = .ok (.enter 13 vs) w := callFunc_run Try.func13 (by decide) rfl
theorem go15 : ∀ (vs : Array Value) w, (callFunc 15 vs).run Try.prog w = .ok (.enter 15 vs) w := callFunc_run Try.func15 (by decide) rfl
theorem go17 : ∀ (vs : Array Value) w, (callFunc 17 vs).run Try.prog w = .ok (.enter 17 vs) w := callFunc_run Try.func17 (by decide) rfl
theorem go18 : ∀ (vs : Array Value) w, (callFunc 18 vs).run Try.prog w = .ok (.enter 18 vs) w := callFunc_run Try.func18 (by decide) rfl
theorem go19 : ∀ (vs : Array Value) w, (callFunc 19 vs).run Try.prog w = .ok (.enter 19 vs) w := callFunc_run Try.func19 (by decide) rfl
theorem go20 : ∀ (vs : Array Value) w, (callFunc 20 vs).run Try.prog w = .ok (.enter 20 vs) w := callFunc_run Try.func20 (by decide) rfl
theorem go21 : ∀ (vs : Array Value) w, (callFunc 21 vs).run Try.prog w = .ok (.enter 21 vs) w := callFunc_run Try.func21 (by decide) rfl
theorem go22 : ∀ (vs : Array Value) w, (callFunc 22 vs).run Try.prog w = .ok (.enter 22 vs) w := callFunc_run Try.func22 (by decide) rfl
theorem go23 : ∀ (vs : Array Value) w, (callFunc 23 vs).run Try.prog w = .ok (.enter 23 vs) w := callFunc_run Try.func23 (by decide) rfl
theorem go24 : ∀ (vs : Array Value) w, (callFunc 24 vs).run Try.prog w = .ok (.enter 24 vs) w := callFunc_run Try.func24 (by decide) rfl
theorem go25 : ∀ (vs : Array Value) w, (callFunc 25 vs).run Try.prog w = .ok (.enter 25 vs) w := callFunc_run Try.func25 (by decide) rfl
theorem go26 : ∀ (vs : Array Value) w, (callFunc 26 vs).run Try.prog w = .ok (.enter 26 vs) w := callFunc_run Try.func26 (by decide) rfl
theorem go27 : ∀ (vs : Array Value) w, (callFunc 27 vs).run Try.prog w = .ok (.enter 27 vs) w := callFunc_run Try.func27 (by decide) rfl
theorem go28 : ∀ (vs : Array Value) w, (callFunc 28 vs).run Try.prog w = .ok (.enter 28 vs) w := callFunc_run Try.func28 (by decide) rfl
theorem go29 : ∀ (vs : Array Value) w, (callFunc 29 vs).run Try.prog w = .ok (.enter 29 vs) w := callFunc_run Try.func29 (by decide) rfl
theorem go30 : ∀ (vs : Array Value) w, (callFunc 30 vs).run Try.prog w = .ok (.enter 30 vs) w := callFunc_run Try.func30 (by decide) rfl
theorem go31 : ∀ (vs : Array Value) w, (callFunc 31 vs).run Try.prog w = .ok (.enter 31 vs) w := callFunc_run Try.func31 (by decide) rfl
theorem go32 : ∀ (vs : Array Value) w, (callFunc 32 vs).run Try.prog w = .ok (.enter 32 vs) w := callFunc_run Try.func32 (by decide) rfl
theorem go34 : ∀ (vs : Array Value) w, (callFunc 34 vs).run Try.prog w = .ok (.enter 34 vs) w := callFunc_run Try.func34 (by decide) rfl
theorem go35 : ∀ (vs : Array Value) w, (callFunc 35 vs).run Try.prog w = .ok (.enter 35 vs) w := callFunc_run Try.func35 (by decide) rfl
theorem go36 : ∀ (vs : Array Value) w, (callFunc 36 vs).run Try.prog w = .ok (.enter 36 vs) w := callFunc_run Try.func36 (by decide) rfl
theorem go38 : ∀ (vs : Array Value) w, (callFunc 38 vs).run Try.prog w = .ok (.enter 38 vs) w := callFunc_run Try.func38 (by decide) rfl
theorem go39 : ∀ (vs : Array Value) w, (callFunc 39 vs).run Try.prog w = .ok (.enter 39 vs) w := callFunc_run Try.func39 (by decide) rfl
theorem go42 : ∀ (vs : Array Value) w, (callFunc 42 vs).run Try.prog w = .ok (.enter 42 vs) w := callFunc_run Try.func42 (by decide) rfl
theorem go43 : ∀ (vs : Array Value) w, (callFunc 43 vs).run Try.prog w = .ok (.enter 43 vs) w := callFunc_run Try.func43 (by decide) rfl
theorem go44 : ∀ (vs : Array Value) w, (callFunc 44 vs).run Try.prog w = .ok (.enter 44 vs) w := callFunc_run Try.func44 (by decide) rfl
theorem go45 : ∀ (vs : Array Value) w, (callFunc 45 vs).run Try.prog w = .ok (.enter 45 vs) w := callFunc_run Try.func45 (by decide) rfl
theorem go46 : ∀ (vs : Array Value) w, (callFunc 46 vs).run Try.prog w = .ok (.enter 46 vs) w := callFunc_run Try.func46 (by decide) rfl
theorem go47 : ∀ (vs : Array Value) w, (callFunc 47 vs).run Try.prog w = .ok (.enter 47 vs) w := callFunc_run Try.func47 (by decide) rfl
theorem go48 : ∀ (vs : Array Value) w, (callFunc 48 vs).run Try.prog w = .ok (.enter 48 vs) w := callFunc_run Try.func48 (by decide) rfl
theorem go49 : ∀ (vs : Array Value) w, (callFunc 49 vs).run Try.prog w = .ok (.enter 49 vs) w := callFunc_run Try.func49 (by decide) rfl
theorem go50 : ∀ (vs : Array Value) w, (callFunc 50 vs).run Try.prog w = .ok (.enter 50 vs) w := callFunc_run Try.func50 (by decide) rfl
theorem go51 : ∀ (vs : Array Value) w, (callFunc 51 vs).run Try.prog w = .ok (.enter 51 vs) w := callFunc_run Try.func51 (by decide) rfl
theorem go52 : ∀ (vs : Array Value) w, (callFunc 52 vs).run Try.prog w = .ok (.enter 52 vs) w := callFunc_run Try.func52 (by decide) rfl
theorem go53 : ∀ (vs : Array Value) w, (callFunc 53 vs).run Try.prog w = .ok (.enter 53 vs) w := callFunc_run Try.func53 (by decide) rfl
theorem go54 : ∀ (vs : Array Value) w, (callFunc 54 vs).run Try.prog w = .ok (.enter 54 vs) w := callFunc_run Try.func54 (by decide) rfl
theorem go55 : ∀ (vs : Array Value) w, (callFunc 55 vs).run Try.prog w = .ok (.enter 55 vs) w := callFunc_run Try.func55 (by decide) rfl
theorem go56 : ∀ (vs : Array Value) w, (callFunc 56 vs).run Try.prog w = .ok (.enter 56 vs) w := callFunc_run Try.func56 (by decide) rfl
theorem go57 : ∀ (vs : Array Value) w, (callFunc 57 vs).run Try.prog w = .ok (.enter 57 vs) w := callFunc_run Try.func57 (by decide) rfl
theorem go58 : ∀ (vs : Array Value) w, (callFunc 58 vs).run Try.prog w = .ok (.enter 58 vs) w := callFunc_run Try.func58 (by decide) rfl
theorem go59 : ∀ (vs : Array Value) w, (callFunc 59 vs).run Try.prog w = .ok (.enter 59 vs) w := callFunc_run Try.func59 (by decide) rfl
theorem go60 : ∀ (vs : Array Value) w, (callFunc 60 vs).run Try.prog w = .ok (.enter 60 vs) w := callFunc_run Try.func60 (by decide) rfl
theorem go61 : ∀ (vs : Array Value) w, (callFunc 61 vs).run Try.prog w = .ok (.enter 61 vs) w := callFunc_run Try.func61 (by decide) rfl
theorem go63 : ∀ (vs : Array Value) w, (callFunc 63 vs).run Try.prog w = .ok (.enter 63 vs) w := callFunc_run Try.func63 (by decide) rfl
theorem go65 : ∀ (vs : Array Value) w, (callFunc 65 vs).run Try.prog w = .ok (.enter 65 vs) w := callFunc_run Try.func65 (by decide) rfl
theorem go66 : ∀ (vs : Array Value) w, (callFunc 66 vs).run Try.prog w = .ok (.enter 66 vs) w := callFunc_run Try.func66 (by decide) rfl
theorem go67 : ∀ (vs : Array Value) w, (callFunc 67 vs).run Try.prog w = .ok (.enter 67 vs) w := callFunc_run Try.func67 (by decide) rfl
theorem go68 : ∀ (vs : Array Value) w, (callFunc 68 vs).run Try.prog w = .ok (.enter 68 vs) w := callFunc_run Try.func68 (by decide) rfl
theorem go69 : ∀ (vs : Array Value) w, (callFunc 69 vs).run Try.prog w = .ok (.enter 69 vs) w := callFunc_run Try.func69 (by decide) rfl
theorem go70 : ∀ (vs : Array Value) w, (callFunc 70 vs).run Try.prog w = .ok (.enter 70 vs) w := callFunc_run Try.func70 (by decide) rfl
theorem go71 : ∀ (vs : Array Value) w, (callFunc 71 vs).run Try.prog w = .ok (.enter 71 vs) w := callFunc_run Try.func71 (by decide) rfl
theorem go72 : ∀ (vs : Array Value) w, (callFunc 72 vs).run Try.prog w = .ok (.enter 72 vs) w := callFunc_run Try.func72 (by decide) rfl
theorem go73 : ∀ (vs : Array Value) w, (callFunc 73 vs).run Try.prog w = .ok (.enter 73 vs) w := callFunc_run Try.func73 (by decide) rfl
theorem go76 : ∀ (vs : Array Value) w, (callFunc 76 vs).run Try.prog w = .ok (.enter 76 vs) w := callFunc_run Try.func76 (by decide) rfl
theorem go77 : ∀ (vs : Array Value) w, (callFunc 77 vs).run Try.prog w = .ok (.enter 77 vs) w := callFunc_run Try.func77 (by decide) rfl

end Go.Proofs.Yteaihincmfbblaa
/-
  Functions of the library, at bytes.
-/
set_option linter.unusedVariables false
namespace Go.Proofs.Yteaihincmfbblaa
open Go Brv
theorem clone_ok (a : Option Addr) (n c : Nat) (l : List UInt8) (w : World) (hb : Bs w a n l) (hn : n ≤ 140737488355328) : Meets Try.prog 51 [.slice a n c] w (Cloned w 5 1 n (vbs l)) := by
  refine Meets.enter Try.func51 rfl 8 rfl (Nat.le_of_ble_eq_true rfl) ?_
  refine G.seq ?_
  refine G.region ?_
  refine L.val rfl rfl (R.as rfl) ?_
  refine L.nil ?_
  refine N.seq ?_
  refine G.seq ?_
  refine G.seq ?_
  refine G.region ?_
  refine L.val rfl rfl (R.mv rfl) ?_
  refine L.val rfl rfl (R.eqNilS rfl rfl) ?_
  refine L.nil ?_
  refine N.seq ?_
  refine G.condB rfl (fun h0 => ?_) (fun h0 => ?_)
  · obtain rfl : a = none := by simpa using h0
    obtain ⟨rfl, rfl⟩ := hb.none
    refine G.seq ?_
    refine G.region ?_
    refine L.val rfl rfl (R.as rfl) ?_
    refine L.nil ?_
    refine N.seq ?_
    refine G.ret1 rfl rfl ?_
    exact ⟨none, 0, [], rfl, Ext.refl _ _, Own.nil _ _ _, by simp⟩
  · refine G.skip ?_
    refine N.seq ?_
    refine G.seq ?_
    refine G.region ?_
    refine L.do rfl rfl (R.buildS rfl (by decide) rfl) ?_
    rintro _ w1 ⟨b5, rfl, hb5, hs5, e1, B5⟩
    have hb := hb.ext0 e1
    have o0 := Own.blk (n := 0) (size := 1) B5 (by simp) (by simp [maxLen])
    refine L.val rfl rfl (R.mv rfl) ?_
    refine L.do rfl rfl (R.app rfl rfl o0 hb.cells (by rw [vbs_length, Nat.mul_one]; exact hb.len.symm) (vbs_one _) (by simp [maxLen]; omega) (by omega)) ?_
    rintro _ w2 ⟨a1, c1, M1, rfl, e2, hM1, o1⟩
    refine L.val rfl rfl (R.as rfl) ?_
    refine L.nil ?_
    refine N.seq ?_
    refine G.ret1 rfl rfl ?_
    exact ⟨a1, c1, M1, by rw [Nat.zero_add] , e1.trans e2 (by simp) (by simp; omega), by simpa using o1, by intro g hg; have := hM1 g hg; have := e1.size; simp at *; omega⟩

end Go.Proofs.Yteaihincmfbblaa
/-
  The walks of package pack: the pen.
-/
set_option linter.unusedVariables false
namespace Go.Proofs.Yteaihincmfbblaa
open Go Brv Brv.Crc Brv.Pack
theorem fits_ok (x y : Int) (w : World) (hx : -9223372036854775808 ≤ x ∧ x ≤ 9223372036854775807) (hy : -9223372036854775808 ≤ y ∧ y ≤ 9223372036854775807) : Meets Try.prog 46 [.int .i64 x, .int .i64 y] w (fun v w' => v = .bool (fitsF x y) ∧ w' = w) := by
  refine Meets.enter Try.func46 rfl 26 rfl (Nat.le_of_ble_eq_true rfl) ?_
  refine G.seq ?_
  refine G.region ?_
  refine L.val rfl rfl (R.as rfl) ?_
  refine L.nil ?_
  refine N.seq ?_
  refine G.seq ?_
  refine G.region ?_
  refine L.val rfl rfl (R.mv rfl) ?_
  refine L.val rfl rfl (R.geq rfl rfl) ?_
  refine L.val rfl rfl (R.mv rfl) ?_
  refine L.caseP 7 rfl (fun hg1_2 => ?_) (fun hg1_2 => ?_)
  · refine L.val rfl rfl (R.mv rfl) ?_
    refine L.val rfl rfl (R.leq rfl rfl) ?_
    first | refine L.val rfl rfl (R.pickT rfl rfl) ?_ | refine L.val rfl rfl (R.pickF rfl rfl) ?_
    refine L.val rfl rfl (R.mv rfl) ?_
    refine L.caseP 11 rfl (fun hg1_6 => ?_) (fun hg1_6 => ?_)
    · refine L.val rfl rfl (R.mv rfl) ?_
      refine L.val rfl rfl (R.geq rfl rfl) ?_
      first | refine L.val rfl rfl (R.pickT rfl rfl) ?_ | refine L.val rfl rfl (R.pickF rfl rfl) ?_
      refine L.val rfl rfl (R.mv rfl) ?_
      refine L.caseP 15 rfl (fun hg1_10 => ?_) (fun hg1_10 => ?_)
      · refine L.val rfl rfl (R.mv rfl) ?_
        refine L.val rfl rfl (R.eqI rfl rfl) ?_
        refine L.val rfl rfl (R.mv rfl) ?_
        refine L.caseP 18 rfl (fun hg1_13 => ?_) (fun hg1_13 => ?_)
        · refine L.pass rfl rfl ?_
          refine L.pass rfl rfl ?_
          refine L.pass rfl rfl ?_
          refine L.pass rfl rfl ?_
          refine L.pass rfl rfl ?_
          first | refine L.val rfl rfl (R.pickT rfl rfl) ?_ | refine L.val rfl rfl (R.pickF rfl rfl) ?_
          first | refine L.val rfl rfl (R.pickT rfl rfl) ?_ | refine L.val rfl rfl (R.pickF rfl rfl) ?_
          refine L.val rfl rfl (R.as rfl) ?_
          refine L.nil ?_
          refine N.seq ?_
          refine G.ret1 rfl rfl ?_
          exact ⟨congrArg Value.bool (fitsF_eight hg1_13 hg1_10 hx.2), rfl⟩
        · refine L.val rfl rfl (R.mv rfl) ?_
          refine L.val rfl rfl (R.mv rfl) ?_
          refine L.val rfl rfl (R.mul rfl rfl (by omega)) ?_
          refine L.val rfl rfl (R.shrW rfl rfl (by omega) _ rfl) ?_
          refine L.val rfl rfl (R.eqI rfl rfl) ?_
          first | refine L.val rfl rfl (R.pickT rfl rfl) ?_ | refine L.val rfl rfl (R.pickF rfl rfl) ?_
          first | refine L.val rfl rfl (R.pickT rfl rfl) ?_ | refine L.val rfl rfl (R.pickF rfl rfl) ?_
          refine L.val rfl rfl (R.as rfl) ?_
          refine L.nil ?_
          refine N.seq ?_
          refine G.ret1 rfl rfl ?_
          exact ⟨congrArg Value.bool (fitsF_shift hg1_2 hg1_6 hg1_13 hg1_10), rfl⟩
      · refine L.pass rfl rfl ?_
        refine L.pass rfl rfl ?_
        refine L.pass rfl rfl ?_
        refine L.pass rfl rfl ?_
        refine L.pass rfl rfl ?_
        refine L.pass rfl rfl ?_
        refine L.pass rfl rfl ?_
        refine L.pass rfl rfl ?_
        refine L.pass rfl rfl ?_
        first | refine L.val rfl rfl (R.pickT rfl rfl) ?_ | refine L.val rfl rfl (R.pickF rfl rfl) ?_
        refine L.val rfl rfl (R.as rfl) ?_
        refine L.nil ?_
        refine N.seq ?_
        refine G.ret1 rfl rfl ?_
        exact ⟨congrArg Value.bool (fitsF_no (by omega)), rfl⟩
    · refine L.pass rfl rfl ?_
      refine L.pass rfl rfl ?_
      first | refine L.val rfl rfl (R.pickT rfl rfl) ?_ | refine L.val rfl rfl (R.pickF rfl rfl) ?_
      refine L.val rfl rfl (R.mv rfl) ?_
      refine L.pass rfl rfl ?_
      refine L.pass rfl rfl ?_
      refine L.pass rfl rfl ?_
      refine L.pass rfl rfl ?_
      refine L.pass rfl rfl ?_
      refine L.pass rfl rfl ?_
      refine L.pass rfl rfl ?_
      refine L.pass rfl rfl ?_
      refine L.pass rfl rfl ?_
      first | refine L.val rfl rfl (R.pickT rfl rfl) ?_ | refine L.val rfl rfl (R.pickF rfl rfl) ?_
      refine L.val rfl rfl (R.as rfl) ?_
      refine L.nil ?_
      refine N.seq ?_
      refine G.ret1 rfl rfl ?_
      exact ⟨congrArg Value.bool (fitsF_no (by omega)), rfl⟩
  · refine L.pass rfl rfl ?_
    refine L.pass rfl rfl ?_
    first | refine L.val rfl rfl (R.pickT rfl rfl) ?_ | refine L.val rfl rfl (R.pickF rfl rfl) ?_
    refine L.val rfl rfl (R.mv rfl) ?_
    refine L.pass rfl rfl ?_
    refine L.pass rfl rfl ?_
    first | refine L.val rfl rfl (R.pickT rfl rfl) ?_ | refine L.val rfl rfl (R.pickF rfl rfl) ?_
    refine L.val rfl rfl (R.mv rfl) ?_
    refine L.pass rfl rfl ?_
    refine L.pass rfl rfl ?_
    refine L.pass rfl rfl ?_
    refine L.pass rfl rfl ?_
    refine L.pass rfl rfl ?_
    refine L.pass rfl rfl ?_
    refine L.pass rfl rfl ?_
    refine L.pass rfl rfl ?_
    refine L.pass rfl rfl ?_
    first | refine L.val rfl rfl (R.pickT rfl rfl) ?_ | refine L.val rfl rfl (R.pickF rfl rfl) ?_
    refine L.val rfl rfl (R.as rfl) ?_
    refine L.nil ?_
    refine N.seq ?_
    refine G.ret1 rfl rfl ?_
    exact ⟨congrArg Value.bool (fitsF_no (by omega)), rfl⟩

theorem number_ok (p : Nat) (S : List Nat) (l : List UInt8) (x y : Int) (w : World) (hP : PenAt 61 5 w p l S) (hl : l.length ≤ 70368744177664) (hx : -9223372036854775808 ≤ x ∧ x ≤ 9223372036854775807) (hy : -9223372036854775808 ≤ y ∧ y ≤ 9223372036854775807) : Meets Try.prog 24 [.pointer (some ⟨p, 0, none⟩), .int .i64 x, .int .i64 y] w (fun v w' => v = .bool (fitsF x y) ∧ ∃ S', PenAt 61 5 w' p (l ++ (if fitsF x y then be y.toNat x.toNat else [])) S' ∧ Grown S S' w w') := by
  refine Meets.enter Try.func24 rfl 38 rfl (Nat.le_of_ble_eq_true rfl) ?_
  refine G.seq ?_
  refine G.region ?_
  refine L.val rfl rfl (R.as rfl) ?_
  refine L.nil ?_
  refine N.seq ?_
  refine G.seq ?_
  refine G.seq ?_
  refine G.region ?_
  refine L.val rfl rfl (R.mv rfl) ?_
  refine L.val rfl rfl (R.eqNilP rfl rfl) ?_
  refine L.val rfl rfl (R.mv rfl) ?_
  refine L.val rfl rfl (R.mv rfl) ?_
  refine L.val rfl rfl (R.mv rfl) ?_
  refine L.callF rfl rfl rfl go46 (fits_ok _ _ _ hx hy) ?_
  rintro _ _ ⟨rfl, hw⟩
  obtain rfl := hw.symm
  refine L.val rfl rfl (R.not rfl) ?_
  first | refine L.val rfl rfl (R.pickT rfl rfl) ?_ | refine L.val rfl rfl (R.pickF rfl rfl) ?_
  refine L.nil ?_
  refine N.seq ?_
  refine G.condB rfl (fun h0 => ?_) (fun h0 => ?_)
  · have hf : fitsF x y = false := by simpa using h0
    refine G.seq ?_
    refine G.region ?_
    refine L.val rfl rfl (R.as rfl) ?_
    refine L.nil ?_
    refine N.seq ?_
    refine G.ret1 rfl rfl ?_
    refine ⟨congrArg Value.bool hf.symm, S, ?_, Grown.refl _ _⟩
    rw [hf]; simpa using hP
  · have hf : fitsF x y = true := by simpa using h0
    have hf2 := fitsF_spec.1 hf
    obtain ⟨x, rfl⟩ := Int.eq_ofNat_of_zero_le hf2.2.2.1
    obtain ⟨y, rfl⟩ := Int.eq_ofNat_of_zero_le (show 0 ≤ y by omega)
    refine G.skip ?_
    refine N.seq ?_
    refine G.seq ?_
    refine G.seq ?_
    refine G.region ?_
    refine L.val rfl rfl (R.mv rfl) ?_
    refine L.val rfl rfl (R.mv rfl) ?_
    refine L.nil ?_
    refine N.seq ?_
    refine G.block ?_
    refine G.loop (X := Nat) (fun k => [(0, .pointer (some ⟨p, 0, none⟩)), (1, .int .i64 (x : Int)), (2, .int .i64 (y : Int)), (16, .int .i64 (y : Int)), (17, .int .i64 (k : Int))]) (fun k w' => k ≤ y ∧ ∃ S', PenAt 61 5 w' p (l ++ (be y x).take k) S' ∧ Grown S S' w w') (fun k => y - k) (0) (Sub.cons rfl (Sub.cons rfl (Sub.cons rfl (Sub.cons rfl (Sub.cons rfl (Sub.nil _)))))) ⟨by omega, S, by simpa using hP, Grown.refl _ _⟩ ?_
    rintro k w1 ⟨hk, S1, hP1, hG⟩
    refine G.seq ?_
    refine G.region ?_
    refine L.val rfl rfl (R.lss rfl rfl) ?_
    refine L.nil ?_
    refine N.seq ?_
    refine G.seq ?_
    refine G.condP rfl (fun h1 => ?_) (fun h1 => ?_)
    · obtain ⟨a, n, c, M, rfl, hpM, hn, hB, hO⟩ := hP1
      have hkt := be_take y x k (by omega)
      have hpl := hB.lt
      have htl : (List.take k (be y x)).length ≤ 8 := by rw [List.length_take, be_length]; omega
      rw [List.length_append] at hn
      refine G.skip ?_
      refine N.seq ?_
      refine G.seq ?_
      refine G.block ?_
      refine G.seq ?_
      refine G.region ?_
      refine L.val rfl rfl (R.mv rfl) ?_
      refine L.val rfl rfl (R.as rfl) ?_
      refine L.nil ?_
      refine N.seq ?_
      refine G.staged [14, 17] [.blocks (M), .blocks ([p])] [Ext [] w1, Ext M w1, fun w' => ∃ S', PenAt 61 5 w' p (l ++ (be y x).take (k + 1)) S' ∧ Grown (p :: M) S' w1 w'] [(14, 33), (17, 33), (17, 34)] (by decide +kernel) (by decide +kernel) rfl rfl rfl (fun _ h => h) ?_
      refine Z.val rfl rfl rfl rfl rfl (fun w2 => R.mv rfl) ?_
      refine Z.val rfl rfl rfl rfl rfl (fun w2 => R.mv rfl) ?_
      refine Z.val rfl rfl rfl rfl rfl (fun w2 => R.nilChk rfl) ?_
      refine Z.val rfl rfl rfl rfl rfl (fun w2 => R.fld rfl) ?_
      refine Z.read 0 (by decide +kernel) rfl rfl rfl rfl rfl rfl (fun w2 hJ => R.ldB rfl (hB.ext0 hJ) rfl) ?_
      refine Z.val rfl rfl rfl rfl rfl (fun w2 => R.mv rfl) ?_
      refine Z.val rfl rfl rfl rfl rfl (fun w2 => R.mv rfl) ?_
      refine Z.val rfl rfl rfl rfl rfl (fun w2 => R.sub' rfl rfl (by omega)) ?_
      refine Z.val rfl rfl rfl rfl rfl (fun w2 => R.mv rfl) ?_
      refine Z.val rfl rfl rfl rfl rfl (fun w2 => R.sub' rfl rfl (by omega)) ?_
      refine Z.val rfl rfl rfl rfl rfl (fun w2 => R.mul rfl rfl (by omega)) ?_
      refine Z.val rfl rfl rfl rfl rfl (fun w2 => R.shrW rfl rfl (by omega) _ rfl) ?_
      refine Z.val rfl rfl rfl rfl rfl (fun w2 => R.conv rfl _ (shift_byte x y k (by omega) (by omega) _ rfl)) ?_
      refine Z.new (A := IsBs 1 [UInt8.ofNat (x / 256 ^ (y - 1 - k) % 256)]) (Lasts.kill (IsBs.keep _ _) (by decide +kernel)) 0 (by decide +kernel) rfl rfl rfl rfl rfl (fun w2 hJ => (R.buildA rfl rfl rfl rfl rfl).mono (fun _ _ h => have q := h.bs (l := [UInt8.ofNat (x / 256 ^ (y - 1 - k) % 256)]) rfl rfl; ⟨q.1, q.2, hJ.trans0 q.2⟩)) ?_
      refine Z.put (A := Held M w1.heap.size 5 1 (n + 1) (vbs (l ++ (be y x).take (k + 1)))) (Lasts.kill (Held.keep _ _ _ _ _ _) (by decide +kernel)) 0 (by decide +kernel) rfl rfl rfl rfl rfl rfl rfl (fun w2 hJ => by rintro v ⟨a2, c2, rfl, _, hb2⟩; exact (R.app rfl rfl (hO.ext0 hJ) hb2.cells rfl (vbs_one _) (by simp [maxLen]; omega) (by omega)).mono (fun _ _ h => Held.app h hJ rfl (by rw [hkt]; simp [vbs]))) ?_
      refine Z.val rfl rfl rfl rfl rfl (fun w2 => R.nilChk rfl) ?_
      refine Z.val rfl rfl rfl rfl rfl (fun w2 => R.fld rfl) ?_
      refine Z.set 1 (by decide +kernel) rfl rfl rfl rfl rfl rfl (fun w2 hJ => fun v hv => (R.st rfl rfl (hB.ext hJ hpM) (by simp) (by obtain ⟨_, _, _, rfl, _⟩ := hv; rfl)).mono (fun _ h => ⟨h.1, by exact PenAt.put hpl hpM (by simp only [List.length_append, List.length_take, be_length] at hn ⊢; omega) hv hJ h⟩)) ?_
      refine Z.nil rfl rfl (fun w2 hJ => ?_)
      obtain ⟨S2, hP2, hG2⟩ := hJ
      refine N.block ?_
      refine N.seq ?_
      refine G.region ?_
      refine L.val rfl rfl (R.add rfl rfl (by omega)) ?_
      refine L.val rfl rfl (R.mv rfl) ?_
      refine L.nil ?_
      exact N.again (k + 1) (by omega) (Sub.cons rfl (Sub.cons rfl (Sub.cons rfl (Sub.cons rfl (Sub.cons rfl (Sub.nil _)))))) ⟨by omega, S2, hP2, hG.trans hG2⟩
    · obtain rfl : k = y := by omega
      refine G.exit _ rfl ?_
      refine N.seq ?_
      refine G.seq ?_
      refine G.region ?_
      refine L.val rfl rfl (R.as rfl) ?_
      refine L.nil ?_
      refine N.seq ?_
      refine G.ret1 rfl rfl ?_
      refine ⟨congrArg Value.bool hf.symm, S1, ?_, hG⟩
      rw [hf]; rw [List.take_of_length_le (by rw [be_length]; omega)] at hP1; simpa using hP1

theorem text_ok (p : Nat) (S : List Nat) (l : List UInt8) (a : Option Addr) (n c : Nat) (k : List UInt8) (w : World) (hP : PenAt 61 5 w p l S) (hl : l.length ≤ 70368744177664) (hb : Bs w a n k) (hn : n ≤ 140737488351232) (hS : ∀ w1, Ext S w w1 → Bs w1 a n k) : Meets Try.prog 28 [.pointer (some ⟨p, 0, none⟩), .slice a n c] w (fun v w' => v = .bool (decide (k.length ≤ 65535)) ∧ ∃ S', PenAt 61 5 w' p (l ++ (if k.length ≤ 65535 then textF k else [])) S' ∧ Grown S S' w w') := by
  refine Meets.enter Try.func28 rfl 25 rfl (Nat.le_of_ble_eq_true rfl) ?_
  have hkl := hb.len
  refine G.seq ?_
  refine G.region ?_
  refine L.val rfl rfl (R.as rfl) ?_
  refine L.nil ?_
  refine N.seq ?_
  refine G.seq ?_
  refine G.seq ?_
  refine G.region ?_
  refine L.val rfl rfl (R.mv rfl) ?_
  refine L.val rfl rfl (R.eqNilP rfl rfl) ?_
  refine L.val rfl rfl (R.mv rfl) ?_
  refine L.val rfl rfl (R.mv rfl) ?_
  refine L.val rfl rfl (R.lenS rfl) ?_
  refine L.val rfl rfl (R.gtr rfl rfl) ?_
  first | refine L.val rfl rfl (R.pickT rfl rfl) ?_ | refine L.val rfl rfl (R.pickF rfl rfl) ?_
  refine L.nil ?_
  refine N.seq ?_
  refine G.condP rfl (fun h0 => ?_) (fun h0 => ?_)
  · refine G.seq ?_
    refine G.region ?_
    refine L.val rfl rfl (R.as rfl) ?_
    refine L.nil ?_
    refine N.seq ?_
    refine G.ret1 rfl rfl ?_
    exact ⟨congrArg Value.bool (by rw [decide_eq_false (by omega)]), S, by rw [if_neg (by omega)]; simpa using hP, Grown.refl _ _⟩
  · refine G.skip ?_
    refine N.seq ?_
    refine G.seq ?_
    refine G.region ?_
    refine L.val rfl rfl (R.mv rfl) ?_
    refine L.val rfl rfl (R.mv rfl) ?_
    refine L.val rfl rfl (R.lenS rfl) ?_
    refine L.callF rfl rfl rfl go24 (number_ok _ _ _ _ _ _ hP (by omega) (by omega) (by omega)) ?_
    rintro _ w1 ⟨rfl, S1, hP1, hG1⟩
    have hft : fitsF (n : Int) 2 = true := by rw [fitsF_spec]; exact ⟨by omega, by omega, by omega, by show (n : Int) < 65536; omega⟩
    rw [hft, if_pos rfl] at hP1
    have hb1 := hS _ hG1.1
    obtain ⟨a1, n1, c1, M1, rfl, hpM, hn1, hB, hO⟩ := hP1
    have hpl := hB.lt
    rw [List.length_append, be_length] at hn1
    refine L.nil ?_
    refine N.seq ?_
    refine G.seq ?_
    refine G.region ?_
    refine L.val rfl rfl (R.mv rfl) ?_
    refine L.val rfl rfl (R.mv rfl) ?_
    refine L.val rfl rfl (R.nilChk rfl) ?_
    refine L.val rfl rfl (R.fld rfl) ?_
    refine L.val rfl rfl (R.ldB rfl hB rfl) ?_
    refine L.val rfl rfl (R.mv rfl) ?_
    refine L.do rfl rfl (R.app rfl rfl hO hb1.cells (by rw [vbs_length, Nat.mul_one]; exact hb1.len.symm) (vbs_one _) (by simp [maxLen]; omega) (by omega)) ?_
    rintro v22 w2 h2
    obtain ⟨h2, e2, _⟩ := Held.app (ys := vbs (l ++ textF k)) h2 (Ext.refl _ _) rfl (by simp [vbs, textF, ← hkl])
    refine L.val rfl rfl (R.nilChk rfl) ?_
    refine L.val rfl rfl (R.fld rfl) ?_
    refine L.set rfl (R.st rfl rfl (hB.ext e2 hpM) (by simp) (by obtain ⟨_, _, _, rfl, _⟩ := h2; rfl)) ?_
    rintro w3 h3
    obtain ⟨S3, hP3, hG3⟩ := PenAt.put hpl hpM (by simp [textF, be_length]; omega) h2 e2 h3
    refine L.nil ?_
    refine N.seq ?_
    refine G.seq ?_
    refine G.region ?_
    refine L.val rfl rfl (R.as rfl) ?_
    refine L.nil ?_
    refine N.seq ?_
    refine G.ret1 rfl rfl ?_
    exact ⟨congrArg Value.bool (by rw [decide_eq_true (by omega)]), S3, by rw [if_pos (by omega)]; exact hP3, hG1.trans hG3⟩

theorem bytes_ok (p : Nat) (S : List Nat) (l : List UInt8) (w : World) (hP : PenAt 61 5 w p l S) (hl : l.length ≤ 70368744177664) : Meets Try.prog 30 [.pointer (some ⟨p, 0, none⟩)] w (Cloned w 5 1 l.length (vbs l)) := by
  refine Meets.enter Try.func30 rfl 10 rfl (Nat.le_of_ble_eq_true rfl) ?_
  refine G.seq ?_
  refine G.region ?_
  refine L.val rfl rfl (R.as rfl) ?_
  refine L.nil ?_
  refine N.seq ?_
  refine G.seq ?_
  refine G.seq ?_
  refine G.region ?_
  refine L.val rfl rfl (R.mv rfl) ?_
  refine L.val rfl rfl (R.eqNilP rfl rfl) ?_
  refine L.nil ?_
  refine N.seq ?_
  refine G.condF rfl ?_
  obtain ⟨a1, n1, c1, M1, rfl, hpM, rfl, hB, hO⟩ := hP
  refine G.skip ?_
  refine N.seq ?_
  refine G.seq ?_
  refine G.region ?_
  refine L.val rfl rfl (R.mv rfl) ?_
  refine L.val rfl rfl (R.nilChk rfl) ?_
  refine L.val rfl rfl (R.fld rfl) ?_
  refine L.val rfl rfl (R.ldB rfl hB rfl) ?_
  refine L.callF rfl rfl rfl go51 (clone_ok _ _ _ _ _ (Bs.of_own hO) (by omega)) ?_
  rintro v w1 h1
  refine L.val rfl rfl (R.as rfl) ?_
  refine L.nil ?_
  refine N.seq ?_
  refine G.ret1 rfl rfl ?_
  exact h1

end Go.Proofs.Yteaihincmfbblaa
/-
  The walks of package pack: the scan.
-/
set_option linter.unusedVariables false
namespace Go.Proofs.Yteaihincmfbblaa
open Go Brv Brv.Crc Brv.Pack
theorem new_ok (a : Option Addr) (n c : Nat) (l : List UInt8) (w : World) (hb : Bs w a n l) (hn : n ≤ 140737488351232) : Meets Try.prog 52 [.slice a n c] w (fun v w' => ∃ s D, v = .pointer (some ⟨s, 0, none⟩) ∧ ScanAt 127 w' s D l 0 ∧ Ext [] w w' ∧ w.heap.size ≤ s ∧ (∀ d ∈ D, w.heap.size ≤ d) ∧ (∃ cs, Blk w' s cs 127 (0, 0)) ∧ ∀ d ∈ D, ∃ cs, Blk w' d cs 5 (0, 0)) := by
  refine Meets.enter Try.func52 rfl 7 rfl (Nat.le_of_ble_eq_true rfl) ?_
  refine G.seq ?_
  refine G.region ?_
  refine L.val rfl rfl (R.as rfl) ?_
  refine L.nil ?_
  refine N.seq ?_
  refine G.seq ?_
  refine G.region ?_
  refine L.val rfl rfl (R.mv rfl) ?_
  refine L.callF rfl rfl rfl go51 (clone_ok _ _ _ _ _ hb (by omega)) ?_
  rintro _ w1 ⟨a1, c1, M1, rfl, e1, o1, hM1⟩
  refine L.val rfl rfl (R.build rfl rfl) ?_
  refine L.do rfl rfl (R.box rfl) ?_
  rintro _ w2 ⟨b6, rfl, hb6, hs6, e2, B6⟩
  have hls := e1.size
  refine L.val rfl rfl (R.as rfl) ?_
  refine L.nil ?_
  refine N.seq ?_
  refine G.ret1 rfl rfl ?_
  exact ⟨b6, M1, rfl, ⟨a1, n, c1, fun h => by have := o1.lt b6 h; omega, o1.le, fun q hq => by rw [o1.block q hq]; simp, B6, (Bs.of_own o1).ext0 e2⟩, e1.trans0 e2, by omega, hM1, ⟨_, B6⟩, fun d hd => (o1.typ d hd).imp fun _ h => h.ext0 e2⟩

theorem take_ok (s : Nat) (D : List Nat) (l : List UInt8) (e : Int) (y : Int) (w : World) (hs : ScanAt 127 w s D l e) (hl : l.length ≤ 70368744177664) (hy : 0 ≤ y) : Meets Try.prog 70 [.pointer (some ⟨s, 0, none⟩), .int .i64 y] w (fun v w' => Ext [s] w w' ∧ ∃ a c, v = .tuple #[.slice a (takeN l y) c, .bool (decide (y ≤ l.length))] ∧ takeN l y ≤ c ∧ Bs w' a (takeN l y) (l.take (takeN l y)) ∧ (∀ q, a = some q → q.block ∈ D) ∧ ScanAt 127 w' s D (l.drop (takeN l y)) (if y ≤ l.length then e else 20)) := by
  refine Meets.enter Try.func70 rfl 34 rfl (Nat.le_of_ble_eq_true rfl) ?_
  obtain ⟨a, n, c, hsD, hnc, haD, hB, hb⟩ := hs
  have hn := hb.len
  have hlt := hB.lt
  refine G.seq ?_
  refine G.region ?_
  refine L.val rfl rfl (R.as rfl) ?_
  refine L.val rfl rfl (R.as rfl) ?_
  refine L.nil ?_
  refine N.seq ?_
  refine G.seq ?_
  refine G.seq ?_
  refine G.region ?_
  refine L.val rfl rfl (R.mv rfl) ?_
  refine L.val rfl rfl (R.mv rfl) ?_
  refine L.val rfl rfl (R.nilChk rfl) ?_
  refine L.val rfl rfl (R.fld rfl) ?_
  refine L.val rfl rfl (R.ldB rfl hB rfl) ?_
  refine L.val rfl rfl (R.lenS rfl) ?_
  refine L.val rfl rfl (R.gtr rfl rfl) ?_
  refine L.nil ?_
  refine N.seq ?_
  refine G.condP rfl (fun h0 => ?_) (fun h0 => ?_)
  · refine G.seq ?_
    refine G.region ?_
    refine L.val rfl rfl (R.mv rfl) ?_
    refine L.val rfl rfl (R.nilChk rfl) ?_
    refine L.val rfl rfl (R.fld rfl) ?_
    refine L.set rfl (R.st rfl rfl hB (by simp) rfl) ?_
    rintro w1 ⟨e1, hs1, B1⟩
    refine L.nil ?_
    refine N.seq ?_
    refine G.seq ?_
    refine G.region ?_
    refine L.val rfl rfl (R.as rfl) ?_
    refine L.val rfl rfl (R.as rfl) ?_
    refine L.nil ?_
    refine N.seq ?_
    refine G.ret2 rfl rfl rfl ?_
    rw [takeN_no (by omega), if_neg (by omega), decide_eq_false (by omega)]
    exact ⟨e1, none, 0, rfl, Nat.le_refl _, Bs.nil _, (by intro q hq; cases hq), a, n, c, hsD, hnc, haD, B1, hb.ext e1 (fun q hq h => hsD (by rw [← List.mem_singleton.1 h]; exact haD q hq))⟩
  · refine G.skip ?_
    refine N.seq ?_
    refine G.seq ?_
    refine G.region ?_
    refine L.val rfl rfl (R.mv rfl) ?_
    refine L.val rfl rfl (R.nilChk rfl) ?_
    refine L.val rfl rfl (R.fld rfl) ?_
    refine L.val rfl rfl (R.ldB rfl hB rfl) ?_
    refine L.val rfl rfl (R.mv rfl) ?_
    refine L.val rfl rfl (R.mv rfl) ?_
    refine L.val rfl rfl (R.slHM rfl rfl rfl (by omega) (by omega) (by omega)) ?_
    refine L.val rfl rfl (R.as rfl) ?_
    refine L.nil ?_
    refine N.seq ?_
    refine G.seq ?_
    refine G.region ?_
    refine L.val rfl rfl (R.mv rfl) ?_
    refine L.val rfl rfl (R.mv rfl) ?_
    refine L.val rfl rfl (R.nilChk rfl) ?_
    refine L.val rfl rfl (R.fld rfl) ?_
    refine L.val rfl rfl (R.ldB rfl hB rfl) ?_
    refine L.val rfl rfl (R.mv rfl) ?_
    refine L.val rfl rfl (R.slL rfl rfl (by omega) (by omega)) ?_
    refine L.val rfl rfl (R.nilChk rfl) ?_
    refine L.val rfl rfl (R.fld rfl) ?_
    refine L.set rfl (R.st rfl rfl hB (by simp) rfl) ?_
    rintro w1 ⟨e1, hs1, B1⟩
    refine L.nil ?_
    refine N.seq ?_
    refine G.seq ?_
    refine G.region ?_
    refine L.val rfl rfl (R.mv rfl) ?_
    refine L.val rfl rfl (R.as rfl) ?_
    refine L.val rfl rfl (R.as rfl) ?_
    refine L.nil ?_
    refine N.seq ?_
    refine G.ret2 rfl rfl rfl ?_
    rw [takeN_yes (by omega), if_pos (by omega), decide_eq_true (by omega)]
    have hnD : ∀ q, a = some q → q.block ∉ [s] := fun q hq h => hsD (by rw [← List.mem_singleton.1 h]; exact haD q hq)
    have hb1 := hb.ext e1 hnD
    refine ⟨e1, _, _, rfl, Nat.le_refl _, ?_, ?_, ?_⟩
    · rw [subA_zero]; exact hb1.pre _ (by omega)
    · rw [subA_zero]; exact haD
    · exact ⟨_, _, _, hsD, by omega, fun q hq => subA_block haD q hq, B1, hb1.drop _ _ (by omega) hnc⟩

theorem scannum_ok (s : Nat) (D : List Nat) (l : List UInt8) (e : Int) (y : Int) (w : World) (hs : ScanAt 127 w s D l e) (hl : l.length ≤ 70368744177664) : Meets Try.prog 53 [.pointer (some ⟨s, 0, none⟩), .int .i64 y] w (fun v w' => v = .int .i64 (numF l e y).1 ∧ ScanAt 127 w' s D (numF l e y).2.1 (numF l e y).2.2 ∧ Ext [s] w w') := by
  refine Meets.enter Try.func53 rfl 69 rfl (Nat.le_of_ble_eq_true rfl) ?_
  have hs0 := hs
  obtain ⟨a, n, c, hsD, hnc, haD, hB, hb⟩ := hs
  have hn := hb.len
  have hlt := hB.lt
  refine G.seq ?_
  refine G.region ?_
  refine L.val rfl rfl (R.as rfl) ?_
  refine L.nil ?_
  refine N.seq ?_
  refine G.seq ?_
  refine G.seq ?_
  refine G.region ?_
  refine L.val rfl rfl (R.mv rfl) ?_
  refine L.val rfl rfl (R.eqNilP rfl rfl) ?_
  refine L.val rfl rfl (R.mv rfl) ?_
  refine L.val rfl rfl (R.mv rfl) ?_
  refine L.val rfl rfl (R.nilChk rfl) ?_
  refine L.val rfl rfl (R.fld rfl) ?_
  refine L.val rfl rfl (R.ldB rfl hB rfl) ?_
  refine L.val rfl rfl (R.neI rfl rfl) ?_
  first | refine L.val rfl rfl (R.pickT rfl rfl) ?_ | refine L.val rfl rfl (R.pickF rfl rfl) ?_
  refine L.nil ?_
  refine N.seq ?_
  refine G.condP rfl (fun h0 => ?_) (fun h0 => ?_)
  · refine G.seq ?_
    refine G.region ?_
    refine L.val rfl rfl (R.as rfl) ?_
    refine L.nil ?_
    refine N.seq ?_
    refine G.ret1 rfl rfl ?_
    rw [numF_err (by omega)]
    exact ⟨rfl, hs0, Ext.refl _ _⟩
  · obtain rfl : e = 0 := by omega
    refine G.skip ?_
    refine N.seq ?_
    refine G.seq ?_
    refine G.seq ?_
    refine G.region ?_
    refine L.val rfl rfl (R.mv rfl) ?_
    refine L.val rfl rfl (R.lss rfl rfl) ?_
    refine L.val rfl rfl (R.mv rfl) ?_
    refine L.caseP 21 rfl (fun hg3_2 => ?_) (fun hg3_2 => ?_)
    · refine L.pass rfl rfl ?_
      refine L.pass rfl rfl ?_
      first | refine L.val rfl rfl (R.pickT rfl rfl) ?_ | refine L.val rfl rfl (R.pickF rfl rfl) ?_
      refine L.val rfl rfl (R.mv rfl) ?_
      refine L.pass rfl rfl ?_
      refine L.pass rfl rfl ?_
      refine L.pass rfl rfl ?_
      refine L.pass rfl rfl ?_
      refine L.pass rfl rfl ?_
      refine L.pass rfl rfl ?_
      refine L.pass rfl rfl ?_
      refine L.pass rfl rfl ?_
      refine L.pass rfl rfl ?_
      refine L.pass rfl rfl ?_
      refine L.pass rfl rfl ?_
      refine L.pass rfl rfl ?_
      refine L.pass rfl rfl ?_
      refine L.pass rfl rfl ?_
      refine L.pass rfl rfl ?_
      refine L.pass rfl rfl ?_
      refine L.pass rfl rfl ?_
      refine L.pass rfl rfl ?_
      refine L.pass rfl rfl ?_
      refine L.pass rfl rfl ?_
      first | refine L.val rfl rfl (R.pickT rfl rfl) ?_ | refine L.val rfl rfl (R.pickF rfl rfl) ?_
      refine L.nil ?_
      refine N.seq ?_
      refine G.condT rfl ?_
      have hno : ¬ okN l y := by
        rintro ⟨h1, h2, h3, h4⟩
        first | omega | (have := h4 (by omega); rw [getD_zero (by omega)] at this; omega)
      refine G.seq ?_
      refine G.region ?_
      refine L.val rfl rfl (R.mv rfl) ?_
      refine L.val rfl rfl (R.nilChk rfl) ?_
      refine L.val rfl rfl (R.fld rfl) ?_
      refine L.set rfl (R.st rfl rfl hB (by simp) rfl) ?_
      rintro w1 ⟨e1, hs1, B1⟩
      refine L.nil ?_
      refine N.seq ?_
      refine G.seq ?_
      refine G.region ?_
      refine L.val rfl rfl (R.as rfl) ?_
      refine L.nil ?_
      refine N.seq ?_
      refine G.ret1 rfl rfl ?_
      first
        | (rw [numF_no hno]; exact ⟨rfl, ⟨a, n, c, hsD, hnc, haD, B1, hb.ext e1 (fun q hq h => hsD (by rw [← List.mem_singleton.1 h]; exact haD q hq))⟩, e1⟩)
        | (rw [hnf]; exact ⟨rfl, hS, e1⟩)
    · refine L.val rfl rfl (R.mv rfl) ?_
      refine L.val rfl rfl (R.gtr rfl rfl) ?_
      first | refine L.val rfl rfl (R.pickT rfl rfl) ?_ | refine L.val rfl rfl (R.pickF rfl rfl) ?_
      refine L.val rfl rfl (R.mv rfl) ?_
      refine L.caseP 25 rfl (fun hg3_6 => ?_) (fun hg3_6 => ?_)
      · refine L.pass rfl rfl ?_
        refine L.pass rfl rfl ?_
        refine L.pass rfl rfl ?_
        refine L.pass rfl rfl ?_
        refine L.pass rfl rfl ?_
        refine L.pass rfl rfl ?_
        refine L.pass rfl rfl ?_
        refine L.pass rfl rfl ?_
        refine L.pass rfl rfl ?_
        refine L.pass rfl rfl ?_
        refine L.pass rfl rfl ?_
        refine L.pass rfl rfl ?_
        refine L.pass rfl rfl ?_
        refine L.pass rfl rfl ?_
        refine L.pass rfl rfl ?_
        refine L.pass rfl rfl ?_
        refine L.pass rfl rfl ?_
        refine L.pass rfl rfl ?_
        refine L.pass rfl rfl ?_
        refine L.pass rfl rfl ?_
        first | refine L.val rfl rfl (R.pickT rfl rfl) ?_ | refine L.val rfl rfl (R.pickF rfl rfl) ?_
        refine L.nil ?_
        refine N.seq ?_
        refine G.condT rfl ?_
        have hno : ¬ okN l y := by
          rintro ⟨h1, h2, h3, h4⟩
          first | omega | (have := h4 (by omega); rw [getD_zero (by omega)] at this; omega)
        refine G.seq ?_
        refine G.region ?_
        refine L.val rfl rfl (R.mv rfl) ?_
        refine L.val rfl rfl (R.nilChk rfl) ?_
        refine L.val rfl rfl (R.fld rfl) ?_
        refine L.set rfl (R.st rfl rfl hB (by simp) rfl) ?_
        rintro w1 ⟨e1, hs1, B1⟩
        refine L.nil ?_
        refine N.seq ?_
        refine G.seq ?_
        refine G.region ?_
        refine L.val rfl rfl (R.as rfl) ?_
        refine L.nil ?_
        refine N.seq ?_
        refine G.ret1 rfl rfl ?_
        first
          | (rw [numF_no hno]; exact ⟨rfl, ⟨a, n, c, hsD, hnc, haD, B1, hb.ext e1 (fun q hq h => hsD (by rw [← List.mem_singleton.1 h]; exact haD q hq))⟩, e1⟩)
          | (rw [hnf]; exact ⟨rfl, hS, e1⟩)
      · refine L.val rfl rfl (R.mv rfl) ?_
        refine L.val rfl rfl (R.nilChk rfl) ?_
        refine L.val rfl rfl (R.fld rfl) ?_
        refine L.val rfl rfl (R.ldB rfl hB rfl) ?_
        refine L.val rfl rfl (R.lenS rfl) ?_
        refine L.val rfl rfl (R.mv rfl) ?_
        refine L.val rfl rfl (R.geq rfl rfl) ?_
        refine L.val rfl rfl (R.mv rfl) ?_
        refine L.caseP 33 rfl (fun hg3_14 => ?_) (fun hg3_14 => ?_)
        · refine L.val rfl rfl (R.mv rfl) ?_
          refine L.val rfl rfl (R.eqI rfl rfl) ?_
          first | refine L.val rfl rfl (R.pickT rfl rfl) ?_ | refine L.val rfl rfl (R.pickF rfl rfl) ?_
          refine L.val rfl rfl (R.mv rfl) ?_
          refine L.caseP 37 rfl (fun hg3_18 => ?_) (fun hg3_18 => ?_)
          · refine L.val rfl rfl (R.mv rfl) ?_
            refine L.val rfl rfl (R.nilChk rfl) ?_
            refine L.val rfl rfl (R.fld rfl) ?_
            refine L.val rfl rfl (R.ldB rfl hB rfl) ?_
            obtain ⟨q, hq, hc0⟩ := hb.at 0 (by omega)
            refine L.val rfl rfl (R.idx rfl rfl (by omega) (by omega) q hq) ?_
            refine L.val rfl rfl (R.ld rfl hc0) ?_
            refine L.val rfl rfl (R.geq rfl rfl) ?_
            first | refine L.val rfl rfl (R.pickT rfl rfl) ?_ | refine L.val rfl rfl (R.pickF rfl rfl) ?_
            first | refine L.val rfl rfl (R.pickT rfl rfl) ?_ | refine L.val rfl rfl (R.pickF rfl rfl) ?_
            refine L.nil ?_
            refine N.seq ?_
            refine G.condP rfl (fun h1 => ?_) (fun h1 => ?_)
            · have hno : ¬ okN l y := by
                rintro ⟨h1, h2, h3, h4⟩
                first | omega | (have := h4 (by omega); rw [getD_zero (by omega)] at this; omega)
              refine G.seq ?_
              refine G.region ?_
              refine L.val rfl rfl (R.mv rfl) ?_
              refine L.val rfl rfl (R.nilChk rfl) ?_
              refine L.val rfl rfl (R.fld rfl) ?_
              refine L.set rfl (R.st rfl rfl hB (by simp) rfl) ?_
              rintro w1 ⟨e1, hs1, B1⟩
              refine L.nil ?_
              refine N.seq ?_
              refine G.seq ?_
              refine G.region ?_
              refine L.val rfl rfl (R.as rfl) ?_
              refine L.nil ?_
              refine N.seq ?_
              refine G.ret1 rfl rfl ?_
              first
                | (rw [numF_no hno]; exact ⟨rfl, ⟨a, n, c, hsD, hnc, haD, B1, hb.ext e1 (fun q hq h => hsD (by rw [← List.mem_singleton.1 h]; exact haD q hq))⟩, e1⟩)
                | (rw [hnf]; exact ⟨rfl, hS, e1⟩)
            · have hok : y ≤ l.length → okN l y := by
                intro hy
                refine ⟨by omega, by omega, hy, fun h8 => ?_⟩
                first | omega | (rw [getD_zero (by omega)]; omega)
              have htl := num_takeN_lt hok
              have htn := takeN_le l y
              have hnf := numF_go hok
              refine G.skip ?_
              refine N.seq ?_
              refine G.seq ?_
              refine G.region ?_
              refine L.val rfl rfl (R.mv rfl) ?_
              refine L.val rfl rfl (R.mv rfl) ?_
              refine L.callF rfl rfl rfl go70 (take_ok _ _ _ _ _ _ hs0 hl (by omega)) ?_
              rintro _ w1 ⟨e1, a1, c1, rfl, hc1, hb1, ha1, hS⟩
              refine L.val rfl rfl (R.mv rfl) ?_
              refine L.val rfl rfl (R.ext rfl rfl) ?_
              refine L.val rfl rfl (R.ext rfl rfl) ?_
              refine L.val rfl rfl (R.as rfl) ?_
              refine L.val rfl rfl (R.as rfl) ?_
              refine L.nil ?_
              refine N.seq ?_
              refine G.seq ?_
              refine G.region ?_
              refine L.val rfl rfl (R.as rfl) ?_
              refine L.nil ?_
              refine N.seq ?_
              refine G.seq ?_
              refine G.seq ?_
              refine G.region ?_
              refine L.val rfl rfl (R.mv rfl) ?_
              refine L.val rfl rfl (R.lenS rfl) ?_
              refine L.val rfl rfl (R.mv rfl) ?_
              refine L.nil ?_
              refine N.seq ?_
              refine G.block ?_
              refine G.loop (X := Nat) (fun k => [(56, .slice a1 (takeN l y) c1), (57, .int .i64 (takeN l y)), (58, .int .i64 (k : Nat)), (7, .int .i64 (num (l.take k)))]) (fun k w' => k ≤ takeN l y ∧ w' = w1) (fun k => takeN l y - k) (0) (Sub.cons rfl (Sub.cons rfl (Sub.cons rfl (Sub.cons rfl (Sub.nil _))))) ⟨by omega, rfl⟩ ?_
              rintro k w2 ⟨hk, rfl⟩
              refine G.seq ?_
              refine G.region ?_
              refine L.val rfl rfl (R.lss rfl rfl) ?_
              refine L.nil ?_
              refine N.seq ?_
              refine G.seq ?_
              refine G.condP rfl (fun h2 => ?_) (fun h2 => ?_)
              · obtain ⟨q, hq, hc0⟩ := hb1.at k (by rw [List.length_take]; omega)
                rw [List.getElem_take] at hc0
                have hns := num_step (l := l) (k := k) (by omega) htn htl
                have hl8 := lt_u8 (l[k]'(by omega))
                refine G.skip ?_
                refine N.seq ?_
                refine G.seq ?_
                refine G.block ?_
                refine G.seq ?_
                refine G.region ?_
                refine L.val rfl rfl (R.idx rfl rfl (by omega) (by omega) q hq) ?_
                refine L.val rfl rfl (R.ld rfl hc0) ?_
                refine L.val rfl rfl (R.as rfl) ?_
                refine L.nil ?_
                refine N.seq ?_
                refine G.region ?_
                refine L.val rfl rfl (R.mv rfl) ?_
                refine L.val rfl rfl (R.shlW rfl rfl (by omega) _ (shl_byte (by omega))) ?_
                refine L.val rfl rfl (R.mv rfl) ?_
                refine L.val rfl rfl (R.conv rfl _ (wrap_i64 (by omega))) ?_
                refine L.val rfl rfl (R.orW rfl rfl _ (or_byte (by omega) hns)) ?_
                refine L.val rfl rfl (R.as rfl) ?_
                refine L.be 7 rfl (congrArg (Value.int .i64) (congrArg Nat.cast (num_take_succ l (by omega)).symm)) ?_
                refine L.nil ?_
                refine N.block ?_
                refine N.seq ?_
                refine G.region ?_
                refine L.val rfl rfl (R.add rfl rfl (by omega)) ?_
                refine L.val rfl rfl (R.mv rfl) ?_
                refine L.nil ?_
                exact N.again (k + 1) (by omega) (Sub.cons rfl (Sub.cons rfl (Sub.cons rfl (Sub.cons rfl (Sub.nil _))))) ⟨by omega, rfl⟩
              · obtain rfl : k = takeN l y := by omega
                refine G.exit _ rfl ?_
                refine N.seq ?_
                refine G.seq ?_
                refine G.region ?_
                refine L.val rfl rfl (R.mv rfl) ?_
                refine L.val rfl rfl (R.as rfl) ?_
                refine L.nil ?_
                refine N.seq ?_
                refine G.ret1 rfl rfl ?_
                first
                  | (rw [numF_no hno]; exact ⟨rfl, ⟨a, n, c, hsD, hnc, haD, B1, hb.ext e1 (fun q hq h => hsD (by rw [← List.mem_singleton.1 h]; exact haD q hq))⟩, e1⟩)
                  | (rw [hnf]; exact ⟨rfl, hS, e1⟩)
          · refine L.pass rfl rfl ?_
            refine L.pass rfl rfl ?_
            refine L.pass rfl rfl ?_
            refine L.pass rfl rfl ?_
            refine L.pass rfl rfl ?_
            refine L.pass rfl rfl ?_
            refine L.pass rfl rfl ?_
            first | refine L.val rfl rfl (R.pickT rfl rfl) ?_ | refine L.val rfl rfl (R.pickF rfl rfl) ?_
            first | refine L.val rfl rfl (R.pickT rfl rfl) ?_ | refine L.val rfl rfl (R.pickF rfl rfl) ?_
            refine L.nil ?_
            refine N.seq ?_
            refine G.condF rfl ?_
            have hok : y ≤ l.length → okN l y := by
              intro hy
              refine ⟨by omega, by omega, hy, fun h8 => ?_⟩
              first | omega | (rw [getD_zero (by omega)]; omega)
            have htl := num_takeN_lt hok
            have htn := takeN_le l y
            have hnf := numF_go hok
            refine G.skip ?_
            refine N.seq ?_
            refine G.seq ?_
            refine G.region ?_
            refine L.val rfl rfl (R.mv rfl) ?_
            refine L.val rfl rfl (R.mv rfl) ?_
            refine L.callF rfl rfl rfl go70 (take_ok _ _ _ _ _ _ hs0 hl (by omega)) ?_
            rintro _ w1 ⟨e1, a1, c1, rfl, hc1, hb1, ha1, hS⟩
            refine L.val rfl rfl (R.mv rfl) ?_
            refine L.val rfl rfl (R.ext rfl rfl) ?_
            refine L.val rfl rfl (R.ext rfl rfl) ?_
            refine L.val rfl rfl (R.as rfl) ?_
            refine L.val rfl rfl (R.as rfl) ?_
            refine L.nil ?_
            refine N.seq ?_
            refine G.seq ?_
            refine G.region ?_
            refine L.val rfl rfl (R.as rfl) ?_
            refine L.nil ?_
            refine N.seq ?_
            refine G.seq ?_
            refine G.seq ?_
            refine G.region ?_
            refine L.val rfl rfl (R.mv rfl) ?_
            refine L.val rfl rfl (R.lenS rfl) ?_
            refine L.val rfl rfl (R.mv rfl) ?_
            refine L.nil ?_
            refine N.seq ?_
            refine G.block ?_
            refine G.loop (X := Nat) (fun k => [(56, .slice a1 (takeN l y) c1), (57, .int .i64 (takeN l y)), (58, .int .i64 (k : Nat)), (7, .int .i64 (num (l.take k)))]) (fun k w' => k ≤ takeN l y ∧ w' = w1) (fun k => takeN l y - k) (0) (Sub.cons rfl (Sub.cons rfl (Sub.cons rfl (Sub.cons rfl (Sub.nil _))))) ⟨by omega, rfl⟩ ?_
            rintro k w2 ⟨hk, rfl⟩
            refine G.seq ?_
            refine G.region ?_
            refine L.val rfl rfl (R.lss rfl rfl) ?_
            refine L.nil ?_
            refine N.seq ?_
            refine G.seq ?_
            refine G.condP rfl (fun h2 => ?_) (fun h2 => ?_)
            · obtain ⟨q, hq, hc0⟩ := hb1.at k (by rw [List.length_take]; omega)
              rw [List.getElem_take] at hc0
              have hns := num_step (l := l) (k := k) (by omega) htn htl
              have hl8 := lt_u8 (l[k]'(by omega))
              refine G.skip ?_
              refine N.seq ?_
              refine G.seq ?_
              refine G.block ?_
              refine G.seq ?_
              refine G.region ?_
              refine L.val rfl rfl (R.idx rfl rfl (by omega) (by omega) q hq) ?_
              refine L.val rfl rfl (R.ld rfl hc0) ?_
              refine L.val rfl rfl (R.as rfl) ?_
              refine L.nil ?_
              refine N.seq ?_
              refine G.region ?_
              refine L.val rfl rfl (R.mv rfl) ?_
              refine L.val rfl rfl (R.shlW rfl rfl (by omega) _ (shl_byte (by omega))) ?_
              refine L.val rfl rfl (R.mv rfl) ?_
              refine L.val rfl rfl (R.conv rfl _ (wrap_i64 (by omega))) ?_
              refine L.val rfl rfl (R.orW rfl rfl _ (or_byte (by omega) hns)) ?_
              refine L.val rfl rfl (R.as rfl) ?_
              refine L.be 7 rfl (congrArg (Value.int .i64) (congrArg Nat.cast (num_take_succ l (by omega)).symm)) ?_
              refine L.nil ?_
              refine N.block ?_
              refine N.seq ?_
              refine G.region ?_
              refine L.val rfl rfl (R.add rfl rfl (by omega)) ?_
              refine L.val rfl rfl (R.mv rfl) ?_
              refine L.nil ?_
              exact N.again (k + 1) (by omega) (Sub.cons rfl (Sub.cons rfl (Sub.cons rfl (Sub.cons rfl (Sub.nil _))))) ⟨by omega, rfl⟩
            · obtain rfl : k = takeN l y := by omega
              refine G.exit _ rfl ?_
              refine N.seq ?_
              refine G.seq ?_
              refine G.region ?_
              refine L.val rfl rfl (R.mv rfl) ?_
              refine L.val rfl rfl (R.as rfl) ?_
              refine L.nil ?_
              refine N.seq ?_
              refine G.ret1 rfl rfl ?_
              first
                | (rw [numF_no hno]; exact ⟨rfl, ⟨a, n, c, hsD, hnc, haD, B1, hb.ext e1 (fun q hq h => hsD (by rw [← List.mem_singleton.1 h]; exact haD q hq))⟩, e1⟩)
                | (rw [hnf]; exact ⟨rfl, hS, e1⟩)
        · refine L.pass rfl rfl ?_
          refine L.pass rfl rfl ?_
          first | refine L.val rfl rfl (R.pickT rfl rfl) ?_ | refine L.val rfl rfl (R.pickF rfl rfl) ?_
          refine L.val rfl rfl (R.mv rfl) ?_
          refine L.pass rfl rfl ?_
          refine L.pass rfl rfl ?_
          refine L.pass rfl rfl ?_
          refine L.pass rfl rfl ?_
          refine L.pass rfl rfl ?_
          refine L.pass rfl rfl ?_
          refine L.pass rfl rfl ?_
          first | refine L.val rfl rfl (R.pickT rfl rfl) ?_ | refine L.val rfl rfl (R.pickF rfl rfl) ?_
          first | refine L.val rfl rfl (R.pickT rfl rfl) ?_ | refine L.val rfl rfl (R.pickF rfl rfl) ?_
          refine L.nil ?_
          refine N.seq ?_
          refine G.condF rfl ?_
          have hok : y ≤ l.length → okN l y := by
            intro hy
            refine ⟨by omega, by omega, hy, fun h8 => ?_⟩
            first | omega | (rw [getD_zero (by omega)]; omega)
          have htl := num_takeN_lt hok
          have htn := takeN_le l y
          have hnf := numF_go hok
          refine G.skip ?_
          refine N.seq ?_
          refine G.seq ?_
          refine G.region ?_
          refine L.val rfl rfl (R.mv rfl) ?_
          refine L.val rfl rfl (R.mv rfl) ?_
          refine L.callF rfl rfl rfl go70 (take_ok _ _ _ _ _ _ hs0 hl (by omega)) ?_
          rintro _ w1 ⟨e1, a1, c1, rfl, hc1, hb1, ha1, hS⟩
          refine L.val rfl rfl (R.mv rfl) ?_
          refine L.val rfl rfl (R.ext rfl rfl) ?_
          refine L.val rfl rfl (R.ext rfl rfl) ?_
          refine L.val rfl rfl (R.as rfl) ?_
          refine L.val rfl rfl (R.as rfl) ?_
          refine L.nil ?_
          refine N.seq ?_
          refine G.seq ?_
          refine G.region ?_
          refine L.val rfl rfl (R.as rfl) ?_
          refine L.nil ?_
          refine N.seq ?_
          refine G.seq ?_
          refine G.seq ?_
          refine G.region ?_
          refine L.val rfl rfl (R.mv rfl) ?_
          refine L.val rfl rfl (R.lenS rfl) ?_
          refine L.val rfl rfl (R.mv rfl) ?_
          refine L.nil ?_
          refine N.seq ?_
          refine G.block ?_
          refine G.loop (X := Nat) (fun k => [(56, .slice a1 (takeN l y) c1), (57, .int .i64 (takeN l y)), (58, .int .i64 (k : Nat)), (7, .int .i64 (num (l.take k)))]) (fun k w' => k ≤ takeN l y ∧ w' = w1) (fun k => takeN l y - k) (0) (Sub.cons rfl (Sub.cons rfl (Sub.cons rfl (Sub.cons rfl (Sub.nil _))))) ⟨by omega, rfl⟩ ?_
          rintro k w2 ⟨hk, rfl⟩
          refine G.seq ?_
          refine G.region ?_
          refine L.val rfl rfl (R.lss rfl rfl) ?_
          refine L.nil ?_
          refine N.seq ?_
          refine G.seq ?_
          refine G.condP rfl (fun h2 => ?_) (fun h2 => ?_)
          · obtain ⟨q, hq, hc0⟩ := hb1.at k (by rw [List.length_take]; omega)
            rw [List.getElem_take] at hc0
            have hns := num_step (l := l) (k := k) (by omega) htn htl
            have hl8 := lt_u8 (l[k]'(by omega))
            refine G.skip ?_
            refine N.seq ?_
            refine G.seq ?_
            refine G.block ?_
            refine G.seq ?_
            refine G.region ?_
            refine L.val rfl rfl (R.idx rfl rfl (by omega) (by omega) q hq) ?_
            refine L.val rfl rfl (R.ld rfl hc0) ?_
            refine L.val rfl rfl (R.as rfl) ?_
            refine L.nil ?_
            refine N.seq ?_
            refine G.region ?_
            refine L.val rfl rfl (R.mv rfl) ?_
            refine L.val rfl rfl (R.shlW rfl rfl (by omega) _ (shl_byte (by omega))) ?_
            refine L.val rfl rfl (R.mv rfl) ?_
            refine L.val rfl rfl (R.conv rfl _ (wrap_i64 (by omega))) ?_
            refine L.val rfl rfl (R.orW rfl rfl _ (or_byte (by omega) hns)) ?_
            refine L.val rfl rfl (R.as rfl) ?_
            refine L.be 7 rfl (congrArg (Value.int .i64) (congrArg Nat.cast (num_take_succ l (by omega)).symm)) ?_
            refine L.nil ?_
            refine N.block ?_
            refine N.seq ?_
            refine G.region ?_
            refine L.val rfl rfl (R.add rfl rfl (by omega)) ?_
            refine L.val rfl rfl (R.mv rfl) ?_
            refine L.nil ?_
            exact N.again (k + 1) (by omega) (Sub.cons rfl (Sub.cons rfl (Sub.cons rfl (Sub.cons rfl (Sub.nil _))))) ⟨by omega, rfl⟩
          · obtain rfl : k = takeN l y := by omega
            refine G.exit _ rfl ?_
            refine N.seq ?_
            refine G.seq ?_
            refine G.region ?_
            refine L.val rfl rfl (R.mv rfl) ?_
            refine L.val rfl rfl (R.as rfl) ?_
            refine L.nil ?_
            refine N.seq ?_
            refine G.ret1 rfl rfl ?_
            first
              | (rw [numF_no hno]; exact ⟨rfl, ⟨a, n, c, hsD, hnc, haD, B1, hb.ext e1 (fun q hq h => hsD (by rw [← List.mem_singleton.1 h]; exact haD q hq))⟩, e1⟩)
              | (rw [hnf]; exact ⟨rfl, hS, e1⟩)

theorem scantext_ok (s : Nat) (D : List Nat) (l : List UInt8) (e : Int) (y : Int) (w : World) (hs : ScanAt 127 w s D l e) (hl : l.length ≤ 70368744177664) : Meets Try.prog 56 [.pointer (some ⟨s, 0, none⟩), .int .i64 y] w (fun v w' => ∃ a c, v = .slice a (txtF l e y).1.length c ∧ (txtF l e y).1.length ≤ c ∧ Bs w' a (txtF l e y).1.length (txtF l e y).1 ∧ (∀ q, a = some q → q.block ∈ D) ∧ ScanAt 127 w' s D (txtF l e y).2.1 (txtF l e y).2.2 ∧ Ext [s] w w') := by
  refine Meets.enter Try.func56 rfl 54 rfl (Nat.le_of_ble_eq_true rfl) ?_
  have hs0 := hs
  obtain ⟨a, n, c, hsD, hnc, haD, hB, hb⟩ := hs
  have hn := hb.len
  have hlt := hB.lt
  have hnD : ∀ q, a = some q → q.block ∉ [s] := fun q hq h => hsD (by rw [← List.mem_singleton.1 h]; exact haD q hq)
  refine G.seq ?_
  refine G.region ?_
  refine L.val rfl rfl (R.as rfl) ?_
  refine L.nil ?_
  refine N.seq ?_
  refine G.seq ?_
  refine G.seq ?_
  refine G.region ?_
  refine L.val rfl rfl (R.mv rfl) ?_
  refine L.val rfl rfl (R.eqNilP rfl rfl) ?_
  refine L.val rfl rfl (R.mv rfl) ?_
  refine L.val rfl rfl (R.mv rfl) ?_
  refine L.val rfl rfl (R.nilChk rfl) ?_
  refine L.val rfl rfl (R.fld rfl) ?_
  refine L.val rfl rfl (R.ldB rfl hB rfl) ?_
  refine L.val rfl rfl (R.neI rfl rfl) ?_
  first | refine L.val rfl rfl (R.pickT rfl rfl) ?_ | refine L.val rfl rfl (R.pickF rfl rfl) ?_
  refine L.nil ?_
  refine N.seq ?_
  refine G.condP rfl (fun h0 => ?_) (fun h0 => ?_)
  · refine G.seq ?_
    refine G.region ?_
    refine L.val rfl rfl (R.as rfl) ?_
    refine L.nil ?_
    refine N.seq ?_
    refine G.ret1 rfl rfl ?_
    rw [txtF_err (by omega)]
    exact ⟨none, 0, rfl, Nat.le_refl _, Bs.nil _, (by intro q hq; cases hq), hs0, Ext.refl _ _⟩
  · obtain rfl : e = 0 := by omega
    refine G.skip ?_
    refine N.seq ?_
    refine G.seq ?_
    refine G.region ?_
    refine L.val rfl rfl (R.mv rfl) ?_
    refine L.val rfl rfl (R.nilChk rfl) ?_
    refine L.val rfl rfl (R.fld rfl) ?_
    refine L.val rfl rfl (R.ldB rfl hB rfl) ?_
    refine L.val rfl rfl (R.as rfl) ?_
    refine L.nil ?_
    refine N.seq ?_
    refine G.seq ?_
    refine G.region ?_
    refine L.val rfl rfl (R.mv rfl) ?_
    refine L.callF rfl rfl rfl go53 (scannum_ok _ _ _ _ _ _ hs0 hl) ?_
    rintro _ w1 ⟨rfl, hS, Gs⟩
    obtain ⟨m2, l2, e2, hq⟩ : ∃ m l' e', numF l 0 2 = (m, l', e') := ⟨_, _, _, rfl⟩
    rw [hq] at hS
    dsimp only at hS
    have hS1 := hS
    obtain ⟨a2, n2, c2, _, hnc2, haD2, hB2, hb2⟩ := hS
    have hn2 := hb2.len
    have htwo := numF_two hq
    have hl2 : l2.length ≤ 70368744177664 := by rcases htwo with ⟨_, _, _, rfl⟩ | ⟨_, _, _, rfl⟩ <;> (try rw [List.length_drop]) <;> omega
    have he2 : e2 = 0 ∨ e2 = 20 := by exact htwo.imp (fun h => h.2.1) (fun h => h.2.1)
    refine L.be 23 rfl (show _ = Value.int .i64 (m2 : Int) by rw [hq]) ?_
    refine L.val rfl rfl (R.as rfl) ?_
    refine L.nil ?_
    refine N.seq ?_
    refine G.seq ?_
    refine G.seq ?_
    refine G.region ?_
    refine L.val rfl rfl (R.mv rfl) ?_
    refine L.val rfl rfl (R.nilChk rfl) ?_
    refine L.val rfl rfl (R.fld rfl) ?_
    refine L.val rfl rfl (R.ldB rfl hB2 rfl) ?_
    refine L.val rfl rfl (R.eqI rfl rfl) ?_
    refine L.val rfl rfl (R.mv rfl) ?_
    refine L.caseP 29 rfl (fun hg5_5 => ?_) (fun hg5_5 => ?_)
    · refine L.val rfl rfl (R.mv rfl) ?_
      refine L.val rfl rfl (R.mv rfl) ?_
      refine L.val rfl rfl (R.gtr rfl rfl) ?_
      first | refine L.val rfl rfl (R.pickT rfl rfl) ?_ | refine L.val rfl rfl (R.pickF rfl rfl) ?_
      refine L.nil ?_
      refine N.seq ?_
      refine G.condP rfl (fun h1 => ?_) (fun h1 => ?_)
      · refine G.region ?_
        refine L.val rfl rfl (R.mv rfl) ?_
        refine L.val rfl rfl (R.nilChk rfl) ?_
        refine L.val rfl rfl (R.fld rfl) ?_
        refine L.set rfl (R.st rfl rfl hB2 (by simp) rfl) ?_
        rintro w2 ⟨e3, hs3, hB2⟩
        replace Gs := Gs.trans1 e3
        refine L.nil ?_
        refine N.seq ?_
        refine G.seq ?_
        refine G.seq ?_
        refine G.region ?_
        refine L.val rfl rfl (R.mv rfl) ?_
        refine L.val rfl rfl (R.nilChk rfl) ?_
        refine L.val rfl rfl (R.fld rfl) ?_
        refine L.val rfl rfl (R.ldB rfl hB2 rfl) ?_
        refine L.val rfl rfl (R.eqI rfl rfl) ?_
        refine L.nil ?_
        refine N.seq ?_
        refine G.condP rfl (fun h2 => ?_) (fun h2 => ?_)
        · exfalso; omega
        · refine G.skip ?_
          refine N.seq ?_
          refine G.seq ?_
          refine G.region ?_
          refine L.val rfl rfl (R.mv rfl) ?_
          refine L.val rfl rfl (R.mv rfl) ?_
          refine L.val rfl rfl (R.nilChk rfl) ?_
          refine L.val rfl rfl (R.fld rfl) ?_
          refine L.set rfl (R.st rfl rfl hB2 (by simp) rfl) ?_
          rintro w5 ⟨e5, hs5, B5⟩
          replace Gs := Gs.trans1 e5
          refine L.nil ?_
          refine N.seq ?_
          refine G.seq ?_
          refine G.region ?_
          refine L.val rfl rfl (R.as rfl) ?_
          refine L.nil ?_
          refine N.seq ?_
          refine G.ret1 rfl rfl ?_
          rw [txtF_no hq (by omega)]
          exact ⟨none, 0, rfl, Nat.le_refl _, Bs.nil _, (by intro q hq; cases hq), ⟨a, n, c, hsD, hnc, haD, B5, hb.ext Gs hnD⟩, Gs⟩
      · refine G.skip ?_
        refine N.seq ?_
        refine G.seq ?_
        refine G.seq ?_
        refine G.region ?_
        refine L.val rfl rfl (R.mv rfl) ?_
        refine L.val rfl rfl (R.nilChk rfl) ?_
        refine L.val rfl rfl (R.fld rfl) ?_
        refine L.val rfl rfl (R.ldB rfl hB2 rfl) ?_
        refine L.val rfl rfl (R.eqI rfl rfl) ?_
        refine L.nil ?_
        refine N.seq ?_
        refine G.condP rfl (fun h2 => ?_) (fun h2 => ?_)
        · refine G.seq ?_
          refine G.region ?_
          refine L.val rfl rfl (R.mv rfl) ?_
          refine L.val rfl rfl (R.mv rfl) ?_
          refine L.callF rfl rfl rfl go70 (take_ok _ _ _ _ _ _ hS1 hl2 (by omega)) ?_
          rintro _ w2 ⟨e3, a3, c3, rfl, hc3, hb3, ha3, hS3⟩
          replace Gs := Gs.trans1 e3
          refine L.val rfl rfl (R.mv rfl) ?_
          refine L.val rfl rfl (R.ext rfl rfl) ?_
          refine L.val rfl rfl (R.ext rfl rfl) ?_
          refine L.val rfl rfl (R.as rfl) ?_
          refine L.val rfl rfl (R.as rfl) ?_
          refine L.nil ?_
          refine N.seq ?_
          refine G.seq ?_
          refine G.region ?_
          refine L.val rfl rfl (R.mv rfl) ?_
          refine L.nil ?_
          refine N.seq ?_
          refine G.condP rfl (fun h3 => ?_) (fun h3 => ?_)
          · rw [takeN_yes (by omega)] at *
            rw [if_pos (by omega)] at hS3
            refine G.seq ?_
            refine G.region ?_
            refine L.val rfl rfl (R.mv rfl) ?_
            refine L.val rfl rfl (R.as rfl) ?_
            refine L.nil ?_
            refine N.seq ?_
            refine G.ret1 rfl rfl ?_
            rw [txtF_yes hq (by omega) (by omega) (by omega)]
            have hlt2 : (l2.take m2).length = m2 := by rw [List.length_take]; omega
            obtain rfl : e2 = 0 := by omega
            dsimp only
            rw [hlt2]
            exact ⟨a3, c3, rfl, hc3, hb3, ha3, hS3, Gs⟩
          · rw [if_neg (by omega)] at hS3
            obtain ⟨a4, n4, c4, _, hnc4, haD4, hB2, hb4⟩ := hS3
            refine G.skip ?_
            refine N.seq ?_
            refine G.seq ?_
            refine G.region ?_
            refine L.val rfl rfl (R.mv rfl) ?_
            refine L.val rfl rfl (R.mv rfl) ?_
            refine L.val rfl rfl (R.nilChk rfl) ?_
            refine L.val rfl rfl (R.fld rfl) ?_
            refine L.set rfl (R.st rfl rfl hB2 (by simp) rfl) ?_
            rintro w5 ⟨e5, hs5, B5⟩
            replace Gs := Gs.trans1 e5
            refine L.nil ?_
            refine N.seq ?_
            refine G.seq ?_
            refine G.region ?_
            refine L.val rfl rfl (R.as rfl) ?_
            refine L.nil ?_
            refine N.seq ?_
            refine G.ret1 rfl rfl ?_
            rw [txtF_no hq (by omega)]
            exact ⟨none, 0, rfl, Nat.le_refl _, Bs.nil _, (by intro q hq; cases hq), ⟨a, n, c, hsD, hnc, haD, B5, hb.ext Gs hnD⟩, Gs⟩
        · exfalso; omega
    · refine L.pass rfl rfl ?_
      refine L.pass rfl rfl ?_
      refine L.pass rfl rfl ?_
      first | refine L.val rfl rfl (R.pickT rfl rfl) ?_ | refine L.val rfl rfl (R.pickF rfl rfl) ?_
      refine L.nil ?_
      refine N.seq ?_
      refine G.condF rfl ?_
      refine G.skip ?_
      refine N.seq ?_
      refine G.seq ?_
      refine G.seq ?_
      refine G.region ?_
      refine L.val rfl rfl (R.mv rfl) ?_
      refine L.val rfl rfl (R.nilChk rfl) ?_
      refine L.val rfl rfl (R.fld rfl) ?_
      refine L.val rfl rfl (R.ldB rfl hB2 rfl) ?_
      refine L.val rfl rfl (R.eqI rfl rfl) ?_
      refine L.nil ?_
      refine N.seq ?_
      refine G.condP rfl (fun h2 => ?_) (fun h2 => ?_)
      · exfalso; omega
      · refine G.skip ?_
        refine N.seq ?_
        refine G.seq ?_
        refine G.region ?_
        refine L.val rfl rfl (R.mv rfl) ?_
        refine L.val rfl rfl (R.mv rfl) ?_
        refine L.val rfl rfl (R.nilChk rfl) ?_
        refine L.val rfl rfl (R.fld rfl) ?_
        refine L.set rfl (R.st rfl rfl hB2 (by simp) rfl) ?_
        rintro w5 ⟨e5, hs5, B5⟩
        replace Gs := Gs.trans1 e5
        refine L.nil ?_
        refine N.seq ?_
        refine G.seq ?_
        refine G.region ?_
        refine L.val rfl rfl (R.as rfl) ?_
        refine L.nil ?_
        refine N.seq ?_
        refine G.ret1 rfl rfl ?_
        obtain rfl : e2 = 20 := by omega
        rw [txtF_no hq (by omega)]
        exact ⟨none, 0, rfl, Nat.le_refl _, Bs.nil _, (by intro q hq; cases hq), ⟨a, n, c, hsD, hnc, haD, B5, hb.ext Gs hnD⟩, Gs⟩

theorem scanerr_ok (s : Nat) (D : List Nat) (l : List UInt8) (e : Int) (w : World) (hs : ScanAt 127 w s D l e) (hl : l.length ≤ 70368744177664) : Meets Try.prog 55 [.pointer (some ⟨s, 0, none⟩)] w (fun v w' => v = .int .i64 e ∧ w' = w) := by
  refine Meets.enter Try.func55 rfl 9 rfl (Nat.le_of_ble_eq_true rfl) ?_
  obtain ⟨a, n, c, hsD, hnc, haD, hB, hb⟩ := hs
  have hn := hb.len
  have hlt := hB.lt
  refine G.seq ?_
  refine G.region ?_
  refine L.val rfl rfl (R.as rfl) ?_
  refine L.nil ?_
  refine N.seq ?_
  refine G.seq ?_
  refine G.seq ?_
  refine G.region ?_
  refine L.val rfl rfl (R.mv rfl) ?_
  refine L.val rfl rfl (R.eqNilP rfl rfl) ?_
  refine L.nil ?_
  refine N.seq ?_
  refine G.condF rfl ?_
  refine G.skip ?_
  refine N.seq ?_
  refine G.seq ?_
  refine G.region ?_
  refine L.val rfl rfl (R.mv rfl) ?_
  refine L.val rfl rfl (R.nilChk rfl) ?_
  refine L.val rfl rfl (R.fld rfl) ?_
  refine L.val rfl rfl (R.ldB rfl hB rfl) ?_
  refine L.val rfl rfl (R.as rfl) ?_
  refine L.nil ?_
  refine N.seq ?_
  refine G.ret1 rfl rfl ?_
  exact ⟨rfl, rfl⟩

theorem scanleft_ok (s : Nat) (D : List Nat) (l : List UInt8) (e : Int) (w : World) (hs : ScanAt 127 w s D l e) (hl : l.length ≤ 70368744177664) : Meets Try.prog 57 [.pointer (some ⟨s, 0, none⟩)] w (fun v w' => v = .int .i64 (l.length : Nat) ∧ w' = w) := by
  refine Meets.enter Try.func57 rfl 10 rfl (Nat.le_of_ble_eq_true rfl) ?_
  obtain ⟨a, n, c, hsD, hnc, haD, hB, hb⟩ := hs
  have hn := hb.len
  have hlt := hB.lt
  refine G.seq ?_
  refine G.region ?_
  refine L.val rfl rfl (R.as rfl) ?_
  refine L.nil ?_
  refine N.seq ?_
  refine G.seq ?_
  refine G.seq ?_
  refine G.region ?_
  refine L.val rfl rfl (R.mv rfl) ?_
  refine L.val rfl rfl (R.eqNilP rfl rfl) ?_
  refine L.nil ?_
  refine N.seq ?_
  refine G.condF rfl ?_
  refine G.skip ?_
  refine N.seq ?_
  refine G.seq ?_
  refine G.region ?_
  refine L.val rfl rfl (R.mv rfl) ?_
  refine L.val rfl rfl (R.nilChk rfl) ?_
  refine L.val rfl rfl (R.fld rfl) ?_
  refine L.val rfl rfl (R.ldB rfl hB rfl) ?_
  refine L.val rfl rfl (R.lenS rfl) ?_
  refine L.val rfl rfl (R.as rfl) ?_
  refine L.nil ?_
  refine N.seq ?_
  refine G.ret1 rfl rfl ?_
  exact ⟨by rw [hn], rfl⟩

theorem refnum_ok (s : Nat) (l : List UInt8) (e : Int) (y : Int) (w : World) (hB : Blk w s #[.string (str l), .int .i64 e] 87 (0, 0)) (hl : l.length ≤ 70368744177664) : Meets Try.prog 34 [.pointer (some ⟨s, 0, none⟩), .int .i64 y] w (fun v w' => v = .int .i64 (numF l e y).1 ∧ Blk w' s #[.string (str (numF l e y).2.1), .int .i64 (numF l e y).2.2] 87 (0, 0) ∧ Ext [s] w w') := by
  refine Meets.enter Try.func34 rfl 67 rfl (Nat.le_of_ble_eq_true rfl) ?_
  have hB0 := hB
  refine G.seq ?_
  refine G.region ?_
  refine L.val rfl rfl (R.as rfl) ?_
  refine L.nil ?_
  refine N.seq ?_
  refine G.seq ?_
  refine G.seq ?_
  refine G.region ?_
  refine L.val rfl rfl (R.mv rfl) ?_
  refine L.val rfl rfl (R.nilChk rfl) ?_
  refine L.val rfl rfl (R.fld rfl) ?_
  refine L.val rfl rfl (R.ldB rfl hB rfl) ?_
  refine L.val rfl rfl (R.neI rfl rfl) ?_
  refine L.nil ?_
  refine N.seq ?_
  refine G.condP rfl (fun h0 => ?_) (fun h0 => ?_)
  · refine G.seq ?_
    refine G.region ?_
    refine L.val rfl rfl (R.as rfl) ?_
    refine L.nil ?_
    refine N.seq ?_
    refine G.ret1 rfl rfl ?_
    first
      | (rw [numF_err (by assumption)]; exact ⟨rfl, hB0, Ext.refl _ _⟩)
      | (rw [numF_no hno]; exact ⟨rfl, B1, e1⟩)
      | (rw [numF_ok hok]; exact ⟨rfl, B1, e1⟩)
  · obtain rfl : e = 0 := by omega
    refine G.skip ?_
    refine N.seq ?_
    refine G.seq ?_
    refine G.seq ?_
    refine G.region ?_
    refine L.val rfl rfl (R.mv rfl) ?_
    refine L.val rfl rfl (R.lss rfl rfl) ?_
    refine L.val rfl rfl (R.mv rfl) ?_
    refine L.caseP 14 rfl (fun hg3_2 => ?_) (fun hg3_2 => ?_)
    · refine L.pass rfl rfl ?_
      refine L.pass rfl rfl ?_
      first | refine L.val rfl rfl (R.pickT rfl rfl) ?_ | refine L.val rfl rfl (R.pickF rfl rfl) ?_
      refine L.val rfl rfl (R.mv rfl) ?_
      refine L.pass rfl rfl ?_
      refine L.pass rfl rfl ?_
      refine L.pass rfl rfl ?_
      refine L.pass rfl rfl ?_
      refine L.pass rfl rfl ?_
      refine L.pass rfl rfl ?_
      refine L.pass rfl rfl ?_
      first | refine L.val rfl rfl (R.pickT rfl rfl) ?_ | refine L.val rfl rfl (R.pickF rfl rfl) ?_
      refine L.val rfl rfl (R.mv rfl) ?_
      refine L.pass rfl rfl ?_
      refine L.pass rfl rfl ?_
      refine L.pass rfl rfl ?_
      refine L.pass rfl rfl ?_
      refine L.pass rfl rfl ?_
      refine L.pass rfl rfl ?_
      refine L.pass rfl rfl ?_
      refine L.pass rfl rfl ?_
      refine L.pass rfl rfl ?_
      refine L.pass rfl rfl ?_
      first | refine L.val rfl rfl (R.pickT rfl rfl) ?_ | refine L.val rfl rfl (R.pickF rfl rfl) ?_
      refine L.nil ?_
      refine N.seq ?_
      refine G.condT rfl ?_
      have hno : ¬ okN l y := by
        rintro ⟨h1, h2, h3, h4⟩
        first | omega | (have := h4 (by omega); rw [getD_zero (by omega)] at this; omega)
      refine G.seq ?_
      refine G.region ?_
      refine L.val rfl rfl (R.mv rfl) ?_
      refine L.val rfl rfl (R.nilChk rfl) ?_
      refine L.val rfl rfl (R.fld rfl) ?_
      refine L.set rfl (R.st rfl rfl hB (by simp) rfl) ?_
      rintro w1 ⟨e1, hs1, B1⟩
      refine L.nil ?_
      refine N.seq ?_
      refine G.seq ?_
      refine G.region ?_
      refine L.val rfl rfl (R.as rfl) ?_
      refine L.nil ?_
      refine N.seq ?_
      refine G.ret1 rfl rfl ?_
      first
        | (rw [numF_err (by assumption)]; exact ⟨rfl, hB0, Ext.refl _ _⟩)
        | (rw [numF_no hno]; exact ⟨rfl, B1, e1⟩)
        | (rw [numF_ok hok]; exact ⟨rfl, B1, e1⟩)
    · refine L.val rfl rfl (R.mv rfl) ?_
      refine L.val rfl rfl (R.gtr rfl rfl) ?_
      first | refine L.val rfl rfl (R.pickT rfl rfl) ?_ | refine L.val rfl rfl (R.pickF rfl rfl) ?_
      refine L.val rfl rfl (R.mv rfl) ?_
      refine L.caseP 18 rfl (fun hg3_6 => ?_) (fun hg3_6 => ?_)
      · refine L.pass rfl rfl ?_
        refine L.pass rfl rfl ?_
        refine L.pass rfl rfl ?_
        refine L.pass rfl rfl ?_
        refine L.pass rfl rfl ?_
        refine L.pass rfl rfl ?_
        refine L.pass rfl rfl ?_
        first | refine L.val rfl rfl (R.pickT rfl rfl) ?_ | refine L.val rfl rfl (R.pickF rfl rfl) ?_
        refine L.val rfl rfl (R.mv rfl) ?_
        refine L.pass rfl rfl ?_
        refine L.pass rfl rfl ?_
        refine L.pass rfl rfl ?_
        refine L.pass rfl rfl ?_
        refine L.pass rfl rfl ?_
        refine L.pass rfl rfl ?_
        refine L.pass rfl rfl ?_
        refine L.pass rfl rfl ?_
        refine L.pass rfl rfl ?_
        refine L.pass rfl rfl ?_
        first | refine L.val rfl rfl (R.pickT rfl rfl) ?_ | refine L.val rfl rfl (R.pickF rfl rfl) ?_
        refine L.nil ?_
        refine N.seq ?_
        refine G.condT rfl ?_
        have hno : ¬ okN l y := by
          rintro ⟨h1, h2, h3, h4⟩
          first | omega | (have := h4 (by omega); rw [getD_zero (by omega)] at this; omega)
        refine G.seq ?_
        refine G.region ?_
        refine L.val rfl rfl (R.mv rfl) ?_
        refine L.val rfl rfl (R.nilChk rfl) ?_
        refine L.val rfl rfl (R.fld rfl) ?_
        refine L.set rfl (R.st rfl rfl hB (by simp) rfl) ?_
        rintro w1 ⟨e1, hs1, B1⟩
        refine L.nil ?_
        refine N.seq ?_
        refine G.seq ?_
        refine G.region ?_
        refine L.val rfl rfl (R.as rfl) ?_
        refine L.nil ?_
        refine N.seq ?_
        refine G.ret1 rfl rfl ?_
        first
          | (rw [numF_err (by assumption)]; exact ⟨rfl, hB0, Ext.refl _ _⟩)
          | (rw [numF_no hno]; exact ⟨rfl, B1, e1⟩)
          | (rw [numF_ok hok]; exact ⟨rfl, B1, e1⟩)
      · refine L.val rfl rfl (R.mv rfl) ?_
        refine L.val rfl rfl (R.nilChk rfl) ?_
        refine L.val rfl rfl (R.fld rfl) ?_
        refine L.val rfl rfl (R.ldB rfl hB rfl) ?_
        refine L.val rfl rfl (R.lenStr rfl) ?_
        refine L.be 23 rfl (congrArg (Value.int .i64) (congrArg Nat.cast (str_size l))) ?_
        refine L.val rfl rfl (R.mv rfl) ?_
        refine L.val rfl rfl (R.lss rfl rfl) ?_
        first | refine L.val rfl rfl (R.pickT rfl rfl) ?_ | refine L.val rfl rfl (R.pickF rfl rfl) ?_
        refine L.val rfl rfl (R.mv rfl) ?_
        refine L.caseP 27 rfl (fun hg3_15 => ?_) (fun hg3_15 => ?_)
        · refine L.pass rfl rfl ?_
          refine L.pass rfl rfl ?_
          refine L.pass rfl rfl ?_
          refine L.pass rfl rfl ?_
          refine L.pass rfl rfl ?_
          refine L.pass rfl rfl ?_
          refine L.pass rfl rfl ?_
          refine L.pass rfl rfl ?_
          refine L.pass rfl rfl ?_
          refine L.pass rfl rfl ?_
          first | refine L.val rfl rfl (R.pickT rfl rfl) ?_ | refine L.val rfl rfl (R.pickF rfl rfl) ?_
          refine L.nil ?_
          refine N.seq ?_
          refine G.condT rfl ?_
          have hno : ¬ okN l y := by
            rintro ⟨h1, h2, h3, h4⟩
            first | omega | (have := h4 (by omega); rw [getD_zero (by omega)] at this; omega)
          refine G.seq ?_
          refine G.region ?_
          refine L.val rfl rfl (R.mv rfl) ?_
          refine L.val rfl rfl (R.nilChk rfl) ?_
          refine L.val rfl rfl (R.fld rfl) ?_
          refine L.set rfl (R.st rfl rfl hB (by simp) rfl) ?_
          rintro w1 ⟨e1, hs1, B1⟩
          refine L.nil ?_
          refine N.seq ?_
          refine G.seq ?_
          refine G.region ?_
          refine L.val rfl rfl (R.as rfl) ?_
          refine L.nil ?_
          refine N.seq ?_
          refine G.ret1 rfl rfl ?_
          first
            | (rw [numF_err (by assumption)]; exact ⟨rfl, hB0, Ext.refl _ _⟩)
            | (rw [numF_no hno]; exact ⟨rfl, B1, e1⟩)
            | (rw [numF_ok hok]; exact ⟨rfl, B1, e1⟩)
        · refine L.val rfl rfl (R.mv rfl) ?_
          refine L.val rfl rfl (R.eqI rfl rfl) ?_
          refine L.val rfl rfl (R.mv rfl) ?_
          refine L.caseP 30 rfl (fun hg3_18 => ?_) (fun hg3_18 => ?_)
          · refine L.val rfl rfl (R.mv rfl) ?_
            refine L.val rfl rfl (R.nilChk rfl) ?_
            refine L.val rfl rfl (R.fld rfl) ?_
            refine L.val rfl rfl (R.ldB rfl hB rfl) ?_
            refine L.val rfl rfl (R.idxStr rfl rfl (by omega) (List.getElem?_eq_getElem (i := 0) (by omega))) ?_
            refine L.val rfl rfl (R.gtr rfl rfl) ?_
            first | refine L.val rfl rfl (R.pickT rfl rfl) ?_ | refine L.val rfl rfl (R.pickF rfl rfl) ?_
            first | refine L.val rfl rfl (R.pickT rfl rfl) ?_ | refine L.val rfl rfl (R.pickF rfl rfl) ?_
            refine L.nil ?_
            refine N.seq ?_
            refine G.condP rfl (fun h1 => ?_) (fun h1 => ?_)
            · have hno : ¬ okN l y := by
                rintro ⟨h1, h2, h3, h4⟩
                first | omega | (have := h4 (by omega); rw [getD_zero (by omega)] at this; omega)
              refine G.seq ?_
              refine G.region ?_
              refine L.val rfl rfl (R.mv rfl) ?_
              refine L.val rfl rfl (R.nilChk rfl) ?_
              refine L.val rfl rfl (R.fld rfl) ?_
              refine L.set rfl (R.st rfl rfl hB (by simp) rfl) ?_
              rintro w1 ⟨e1, hs1, B1⟩
              refine L.nil ?_
              refine N.seq ?_
              refine G.seq ?_
              refine G.region ?_
              refine L.val rfl rfl (R.as rfl) ?_
              refine L.nil ?_
              refine N.seq ?_
              refine G.ret1 rfl rfl ?_
              first
                | (rw [numF_err (by assumption)]; exact ⟨rfl, hB0, Ext.refl _ _⟩)
                | (rw [numF_no hno]; exact ⟨rfl, B1, e1⟩)
                | (rw [numF_ok hok]; exact ⟨rfl, B1, e1⟩)
            · have hok : okN l y := by
                refine ⟨by omega, by omega, by omega, fun h8 => ?_⟩
                first | omega | (rw [getD_zero (by omega)]; omega)
              have htl := okN_lt hok
              have hy0 : y = (y.toNat : Int) := by omega
              refine G.skip ?_
              refine N.seq ?_
              refine G.seq ?_
              refine G.region ?_
              refine L.val rfl rfl (R.as rfl) ?_
              refine L.nil ?_
              refine N.seq ?_
              refine G.seq ?_
              refine G.seq ?_
              refine G.region ?_
              refine L.val rfl rfl (R.as rfl) ?_
              refine L.nil ?_
              refine N.seq ?_
              refine G.block ?_
              refine G.loop (X := Nat) (fun k => [(0, .pointer (some ⟨s, 0, none⟩)), (1, .int .i64 y), (5, .int .i64 (num (l.take k))), (6, .int .i64 (k : Nat))]) (fun k w' => k ≤ y.toNat ∧ w' = w) (fun k => y.toNat - k) (0) (Sub.cons rfl (Sub.cons rfl (Sub.cons rfl (Sub.cons rfl (Sub.nil _))))) ⟨by omega, rfl⟩ ?_
              rintro k w' ⟨hk, hw⟩
              obtain rfl := hw.symm
              refine G.seq ?_
              refine G.seq ?_
              refine G.region ?_
              refine L.val rfl rfl (R.mv rfl) ?_
              refine L.val rfl rfl (R.mv rfl) ?_
              refine L.val rfl rfl (R.lss rfl rfl) ?_
              refine L.nil ?_
              refine N.seq ?_
              refine G.condP rfl (fun h2 => ?_) (fun h2 => ?_)
              · have hns := num_step (l := l) (k := k) (m := y.toNat) (by omega) (by omega) htl
                have hl8 := lt_u8 (l[k]'(by omega))
                refine G.skip ?_
                refine N.seq ?_
                refine G.seq ?_
                refine G.block ?_
                refine G.region ?_
                refine L.val rfl rfl (R.mv rfl) ?_
                refine L.val rfl rfl (R.mul rfl rfl (by omega)) ?_
                refine L.val rfl rfl (R.mv rfl) ?_
                refine L.val rfl rfl (R.nilChk rfl) ?_
                refine L.val rfl rfl (R.fld rfl) ?_
                refine L.val rfl rfl (R.ldB rfl hB rfl) ?_
                refine L.val rfl rfl (R.mv rfl) ?_
                refine L.val rfl rfl (R.idxStr rfl rfl (by omega) (List.getElem?_eq_getElem (i := k) (by omega))) ?_
                refine L.val rfl rfl (R.conv rfl _ (wrap_i64 (by omega))) ?_
                refine L.val rfl rfl (R.add rfl rfl (by omega)) ?_
                refine L.val rfl rfl (R.as rfl) ?_
                refine L.be 5 rfl (congrArg (Value.int .i64) (show _ = ((num (l.take (k + 1)) : Nat) : Int) by rw [num_take_succ l (by omega)]; omega)) ?_
                refine L.nil ?_
                refine N.block ?_
                refine N.seq ?_
                refine G.region ?_
                refine L.val rfl rfl (R.mv rfl) ?_
                refine L.val rfl rfl (R.add rfl rfl (by omega)) ?_
                refine L.val rfl rfl (R.as rfl) ?_
                refine L.nil ?_
                exact N.again (k + 1) (by omega) (Sub.cons rfl (Sub.cons rfl (Sub.cons rfl (Sub.cons rfl (Sub.nil _))))) ⟨by omega, rfl⟩
              · obtain rfl : k = y.toNat := by omega
                refine G.exit _ rfl ?_
                refine N.seq ?_
                refine G.seq ?_
                refine G.region ?_
                refine L.val rfl rfl (R.mv rfl) ?_
                refine L.val rfl rfl (R.mv rfl) ?_
                refine L.val rfl rfl (R.nilChk rfl) ?_
                refine L.val rfl rfl (R.fld rfl) ?_
                refine L.val rfl rfl (R.ldB rfl hB rfl) ?_
                refine L.val rfl rfl (R.mv rfl) ?_
                refine L.val rfl rfl (R.slStrL rfl rfl (by omega) (by omega)) ?_
                refine L.val rfl rfl (R.nilChk rfl) ?_
                refine L.val rfl rfl (R.fld rfl) ?_
                refine L.set rfl (R.st rfl rfl hB (by simp) rfl) ?_
                rintro w1 ⟨e1, hs1, B1⟩
                refine L.nil ?_
                refine N.seq ?_
                refine G.seq ?_
                refine G.region ?_
                refine L.val rfl rfl (R.mv rfl) ?_
                refine L.val rfl rfl (R.as rfl) ?_
                refine L.nil ?_
                refine N.seq ?_
                refine G.ret1 rfl rfl ?_
                first
                  | (rw [numF_err (by assumption)]; exact ⟨rfl, hB0, Ext.refl _ _⟩)
                  | (rw [numF_no hno]; exact ⟨rfl, B1, e1⟩)
                  | (rw [numF_ok hok]; exact ⟨rfl, B1, e1⟩)
          · refine L.pass rfl rfl ?_
            refine L.pass rfl rfl ?_
            refine L.pass rfl rfl ?_
            refine L.pass rfl rfl ?_
            refine L.pass rfl rfl ?_
            refine L.pass rfl rfl ?_
            first | refine L.val rfl rfl (R.pickT rfl rfl) ?_ | refine L.val rfl rfl (R.pickF rfl rfl) ?_
            first | refine L.val rfl rfl (R.pickT rfl rfl) ?_ | refine L.val rfl rfl (R.pickF rfl rfl) ?_
            refine L.nil ?_
            refine N.seq ?_
            refine G.condF rfl ?_
            have hok : okN l y := by
              refine ⟨by omega, by omega, by omega, fun h8 => ?_⟩
              first | omega | (rw [getD_zero (by omega)]; omega)
            have htl := okN_lt hok
            have hy0 : y = (y.toNat : Int) := by omega
            refine G.skip ?_
            refine N.seq ?_
            refine G.seq ?_
            refine G.region ?_
            refine L.val rfl rfl (R.as rfl) ?_
            refine L.nil ?_
            refine N.seq ?_
            refine G.seq ?_
            refine G.seq ?_
            refine G.region ?_
            refine L.val rfl rfl (R.as rfl) ?_
            refine L.nil ?_
            refine N.seq ?_
            refine G.block ?_
            refine G.loop (X := Nat) (fun k => [(0, .pointer (some ⟨s, 0, none⟩)), (1, .int .i64 y), (5, .int .i64 (num (l.take k))), (6, .int .i64 (k : Nat))]) (fun k w' => k ≤ y.toNat ∧ w' = w) (fun k => y.toNat - k) (0) (Sub.cons rfl (Sub.cons rfl (Sub.cons rfl (Sub.cons rfl (Sub.nil _))))) ⟨by omega, rfl⟩ ?_
            rintro k w' ⟨hk, hw⟩
            obtain rfl := hw.symm
            refine G.seq ?_
            refine G.seq ?_
            refine G.region ?_
            refine L.val rfl rfl (R.mv rfl) ?_
            refine L.val rfl rfl (R.mv rfl) ?_
            refine L.val rfl rfl (R.lss rfl rfl) ?_
            refine L.nil ?_
            refine N.seq ?_
            refine G.condP rfl (fun h2 => ?_) (fun h2 => ?_)
            · have hns := num_step (l := l) (k := k) (m := y.toNat) (by omega) (by omega) htl
              have hl8 := lt_u8 (l[k]'(by omega))
              refine G.skip ?_
              refine N.seq ?_
              refine G.seq ?_
              refine G.block ?_
              refine G.region ?_
              refine L.val rfl rfl (R.mv rfl) ?_
              refine L.val rfl rfl (R.mul rfl rfl (by omega)) ?_
              refine L.val rfl rfl (R.mv rfl) ?_
              refine L.val rfl rfl (R.nilChk rfl) ?_
              refine L.val rfl rfl (R.fld rfl) ?_
              refine L.val rfl rfl (R.ldB rfl hB rfl) ?_
              refine L.val rfl rfl (R.mv rfl) ?_
              refine L.val rfl rfl (R.idxStr rfl rfl (by omega) (List.getElem?_eq_getElem (i := k) (by omega))) ?_
              refine L.val rfl rfl (R.conv rfl _ (wrap_i64 (by omega))) ?_
              refine L.val rfl rfl (R.add rfl rfl (by omega)) ?_
              refine L.val rfl rfl (R.as rfl) ?_
              refine L.be 5 rfl (congrArg (Value.int .i64) (show _ = ((num (l.take (k + 1)) : Nat) : Int) by rw [num_take_succ l (by omega)]; omega)) ?_
              refine L.nil ?_
              refine N.block ?_
              refine N.seq ?_
              refine G.region ?_
              refine L.val rfl rfl (R.mv rfl) ?_
              refine L.val rfl rfl (R.add rfl rfl (by omega)) ?_
              refine L.val rfl rfl (R.as rfl) ?_
              refine L.nil ?_
              exact N.again (k + 1) (by omega) (Sub.cons rfl (Sub.cons rfl (Sub.cons rfl (Sub.cons rfl (Sub.nil _))))) ⟨by omega, rfl⟩
            · obtain rfl : k = y.toNat := by omega
              refine G.exit _ rfl ?_
              refine N.seq ?_
              refine G.seq ?_
              refine G.region ?_
              refine L.val rfl rfl (R.mv rfl) ?_
              refine L.val rfl rfl (R.mv rfl) ?_
              refine L.val rfl rfl (R.nilChk rfl) ?_
              refine L.val rfl rfl (R.fld rfl) ?_
              refine L.val rfl rfl (R.ldB rfl hB rfl) ?_
              refine L.val rfl rfl (R.mv rfl) ?_
              refine L.val rfl rfl (R.slStrL rfl rfl (by omega) (by omega)) ?_
              refine L.val rfl rfl (R.nilChk rfl) ?_
              refine L.val rfl rfl (R.fld rfl) ?_
              refine L.set rfl (R.st rfl rfl hB (by simp) rfl) ?_
              rintro w1 ⟨e1, hs1, B1⟩
              refine L.nil ?_
              refine N.seq ?_
              refine G.seq ?_
              refine G.region ?_
              refine L.val rfl rfl (R.mv rfl) ?_
              refine L.val rfl rfl (R.as rfl) ?_
              refine L.nil ?_
              refine N.seq ?_
              refine G.ret1 rfl rfl ?_
              first
                | (rw [numF_err (by assumption)]; exact ⟨rfl, hB0, Ext.refl _ _⟩)
                | (rw [numF_no hno]; exact ⟨rfl, B1, e1⟩)
                | (rw [numF_ok hok]; exact ⟨rfl, B1, e1⟩)

theorem reftxt_ok (s : Nat) (l : List UInt8) (e : Int) (y : Int) (w : World) (hB : Blk w s #[.string (str l), .int .i64 e] 87 (0, 0)) (hl : l.length ≤ 70368744177664) : Meets Try.prog 35 [.pointer (some ⟨s, 0, none⟩), .int .i64 y] w (fun v w' => v = .string (str (txtF l e y).1) ∧ Blk w' s #[.string (str (txtF l e y).2.1), .int .i64 (txtF l e y).2.2] 87 (0, 0) ∧ Ext [s] w w') := by
  refine Meets.enter Try.func35 rfl 54 rfl (Nat.le_of_ble_eq_true rfl) ?_
  refine G.seq ?_
  refine G.region ?_
  refine L.val rfl rfl (R.as rfl) ?_
  refine L.nil ?_
  refine N.seq ?_
  refine G.seq ?_
  refine G.region ?_
  refine L.val rfl rfl (R.mv rfl) ?_
  refine L.val rfl rfl (R.nilChk rfl) ?_
  refine L.val rfl rfl (R.fld rfl) ?_
  refine L.val rfl rfl (R.ldB rfl hB rfl) ?_
  refine L.val rfl rfl (R.as rfl) ?_
  refine L.nil ?_
  refine N.seq ?_
  refine G.seq ?_
  refine G.region ?_
  refine L.val rfl rfl (R.mv rfl) ?_
  refine L.callF rfl rfl rfl go34 (refnum_ok _ _ _ _ _ hB hl) ?_
  rintro _ w1 ⟨rfl, hB1, Gs⟩
  obtain ⟨m2, l2, e2, hq⟩ : ∃ m l' e', numF l e 2 = (m, l', e') := ⟨_, _, _, rfl⟩
  rw [hq] at hB1
  dsimp only at hB1
  refine L.be 13 rfl (show _ = Value.int .i64 (m2 : Int) by rw [hq]) ?_
  refine L.val rfl rfl (R.as rfl) ?_
  refine L.nil ?_
  refine N.seq ?_
  refine G.seq ?_
  refine G.seq ?_
  refine G.region ?_
  refine L.val rfl rfl (R.mv rfl) ?_
  refine L.val rfl rfl (R.nilChk rfl) ?_
  refine L.val rfl rfl (R.fld rfl) ?_
  refine L.val rfl rfl (R.ldB rfl hB1 rfl) ?_
  refine L.val rfl rfl (R.neI rfl rfl) ?_
  refine L.nil ?_
  refine N.seq ?_
  refine G.condP rfl (fun h0 => ?_) (fun h0 => ?_)
  · refine G.seq ?_
    refine G.region ?_
    refine L.val rfl rfl (R.as rfl) ?_
    refine L.nil ?_
    refine N.seq ?_
    refine G.ret1 rfl rfl ?_
    first
      | (rw [txtF_first hq (by assumption)]; exact ⟨rfl, hB1, Gs⟩)
      | (rw [txtF_no hq (by omega)]; exact ⟨rfl, B3, Gs⟩)
      | (rw [txtF_yes hq (by omega) (by omega) (by omega)]; exact ⟨rfl, B2, Gs⟩)
  · obtain rfl : e2 = 0 := by omega
    obtain rfl := numF_zero hq
    have htwo := numF_two hq
    have hl2 : l2.length ≤ 70368744177664 := by rcases htwo with ⟨_, _, _, rfl⟩ | ⟨_, _, _, rfl⟩ <;> (try rw [List.length_drop]) <;> omega
    refine G.skip ?_
    refine N.seq ?_
    refine G.seq ?_
    refine G.seq ?_
    refine G.region ?_
    refine L.val rfl rfl (R.mv rfl) ?_
    refine L.val rfl rfl (R.mv rfl) ?_
    refine L.val rfl rfl (R.gtr rfl rfl) ?_
    refine L.val rfl rfl (R.mv rfl) ?_
    refine L.caseP 22 rfl (fun hg5_3 => ?_) (fun hg5_3 => ?_)
    · refine L.pass rfl rfl ?_
      refine L.pass rfl rfl ?_
      refine L.pass rfl rfl ?_
      refine L.pass rfl rfl ?_
      refine L.pass rfl rfl ?_
      refine L.pass rfl rfl ?_
      refine L.pass rfl rfl ?_
      first | refine L.val rfl rfl (R.pickT rfl rfl) ?_ | refine L.val rfl rfl (R.pickF rfl rfl) ?_
      refine L.nil ?_
      refine N.seq ?_
      refine G.condT rfl ?_
      refine G.seq ?_
      refine G.region ?_
      refine L.val rfl rfl (R.mv rfl) ?_
      refine L.val rfl rfl (R.mv rfl) ?_
      refine L.val rfl rfl (R.nilChk rfl) ?_
      refine L.val rfl rfl (R.fld rfl) ?_
      refine L.set rfl (R.st rfl rfl hB1 (by simp) rfl) ?_
      rintro w2 ⟨e3, hs3, B2⟩
      replace Gs := Gs.trans1 e3
      refine L.nil ?_
      refine N.seq ?_
      refine G.seq ?_
      refine G.region ?_
      refine L.val rfl rfl (R.mv rfl) ?_
      refine L.val rfl rfl (R.nilChk rfl) ?_
      refine L.val rfl rfl (R.fld rfl) ?_
      refine L.set rfl (R.st rfl rfl B2 (by simp) rfl) ?_
      rintro w3 ⟨e4, hs4, B3⟩
      replace Gs := Gs.trans1 e4
      refine L.nil ?_
      refine N.seq ?_
      refine G.seq ?_
      refine G.region ?_
      refine L.val rfl rfl (R.as rfl) ?_
      refine L.nil ?_
      refine N.seq ?_
      refine G.ret1 rfl rfl ?_
      first
        | (rw [txtF_first hq (by assumption)]; exact ⟨rfl, hB1, Gs⟩)
        | (rw [txtF_no hq (by omega)]; exact ⟨rfl, B3, Gs⟩)
        | (rw [txtF_yes hq (by omega) (by omega) (by omega)]; exact ⟨rfl, B2, Gs⟩)
    · refine L.val rfl rfl (R.mv rfl) ?_
      refine L.val rfl rfl (R.mv rfl) ?_
      refine L.val rfl rfl (R.nilChk rfl) ?_
      refine L.val rfl rfl (R.fld rfl) ?_
      refine L.val rfl rfl (R.ldB rfl hB1 rfl) ?_
      refine L.val rfl rfl (R.lenStr rfl) ?_
      refine L.be 28 rfl (congrArg (Value.int .i64) (congrArg Nat.cast (str_size l2))) ?_
      refine L.val rfl rfl (R.gtr rfl rfl) ?_
      first | refine L.val rfl rfl (R.pickT rfl rfl) ?_ | refine L.val rfl rfl (R.pickF rfl rfl) ?_
      refine L.nil ?_
      refine N.seq ?_
      refine G.condP rfl (fun h1 => ?_) (fun h1 => ?_)
      · refine G.seq ?_
        refine G.region ?_
        refine L.val rfl rfl (R.mv rfl) ?_
        refine L.val rfl rfl (R.mv rfl) ?_
        refine L.val rfl rfl (R.nilChk rfl) ?_
        refine L.val rfl rfl (R.fld rfl) ?_
        refine L.set rfl (R.st rfl rfl hB1 (by simp) rfl) ?_
        rintro w2 ⟨e3, hs3, B2⟩
        replace Gs := Gs.trans1 e3
        refine L.nil ?_
        refine N.seq ?_
        refine G.seq ?_
        refine G.region ?_
        refine L.val rfl rfl (R.mv rfl) ?_
        refine L.val rfl rfl (R.nilChk rfl) ?_
        refine L.val rfl rfl (R.fld rfl) ?_
        refine L.set rfl (R.st rfl rfl B2 (by simp) rfl) ?_
        rintro w3 ⟨e4, hs4, B3⟩
        replace Gs := Gs.trans1 e4
        refine L.nil ?_
        refine N.seq ?_
        refine G.seq ?_
        refine G.region ?_
        refine L.val rfl rfl (R.as rfl) ?_
        refine L.nil ?_
        refine N.seq ?_
        refine G.ret1 rfl rfl ?_
        first
          | (rw [txtF_first hq (by assumption)]; exact ⟨rfl, hB1, Gs⟩)
          | (rw [txtF_no hq (by omega)]; exact ⟨rfl, B3, Gs⟩)
          | (rw [txtF_yes hq (by omega) (by omega) (by omega)]; exact ⟨rfl, B2, Gs⟩)
      · refine G.skip ?_
        refine N.seq ?_
        refine G.seq ?_
        refine G.region ?_
        refine L.val rfl rfl (R.mv rfl) ?_
        refine L.val rfl rfl (R.nilChk rfl) ?_
        refine L.val rfl rfl (R.fld rfl) ?_
        refine L.val rfl rfl (R.ldB rfl hB1 rfl) ?_
        refine L.val rfl rfl (R.mv rfl) ?_
        refine L.val rfl rfl (R.slStrH rfl rfl (by omega) (by omega)) ?_
        refine L.val rfl rfl (R.as rfl) ?_
        refine L.nil ?_
        refine N.seq ?_
        refine G.seq ?_
        refine G.region ?_
        refine L.val rfl rfl (R.mv rfl) ?_
        refine L.val rfl rfl (R.mv rfl) ?_
        refine L.val rfl rfl (R.nilChk rfl) ?_
        refine L.val rfl rfl (R.fld rfl) ?_
        refine L.val rfl rfl (R.ldB rfl hB1 rfl) ?_
        refine L.val rfl rfl (R.mv rfl) ?_
        refine L.val rfl rfl (R.slStrL rfl rfl (by omega) (by omega)) ?_
        refine L.val rfl rfl (R.nilChk rfl) ?_
        refine L.val rfl rfl (R.fld rfl) ?_
        refine L.set rfl (R.st rfl rfl hB1 (by simp) rfl) ?_
        rintro w2 ⟨e3, hs3, B2⟩
        replace Gs := Gs.trans1 e3
        refine L.nil ?_
        refine N.seq ?_
        refine G.seq ?_
        refine G.region ?_
        refine L.val rfl rfl (R.mv rfl) ?_
        refine L.val rfl rfl (R.as rfl) ?_
        refine L.nil ?_
        refine N.seq ?_
        refine G.ret1 rfl rfl ?_
        first
          | (rw [txtF_first hq (by assumption)]; exact ⟨rfl, hB1, Gs⟩)
          | (rw [txtF_no hq (by omega)]; exact ⟨rfl, B3, Gs⟩)
          | (rw [txtF_yes hq (by omega) (by omega) (by omega)]; exact ⟨rfl, B2, Gs⟩)

end Go.Proofs.Yteaihincmfbblaa
/-
  Functions of the library.
-/
set_option linter.unusedVariables false
set_option linter.unusedSimpArgs false
namespace Go.Proofs.Yteaihincmfbblaa
open Go Brv
theorem go64 : ∀ (vs : Array Value) w, (callFunc 64 vs).run Try.prog w = .ok (.enter 64 vs) w := callFunc_run Try.func64 (by decide) rfl
theorem go75 : ∀ (vs : Array Value) w, (callFunc 75 vs).run Try.prog w = .ok (.enter 75 vs) w := callFunc_run Try.func75 (by decide) rfl

theorem bclone_ok (a : Option Addr) (n c : Nat) (l : List UInt8) (w : World) (hb : Bs w a n l) (hn : n ≤ 140737488355328) : Meets Try.prog 48 [.slice a n c] w (Cloned w 5 1 n (vbs l)) := by
  refine Meets.enter Try.func48 rfl 8 rfl (Nat.le_of_ble_eq_true rfl) ?_
  refine G.seq ?_
  refine G.region ?_
  refine L.val rfl rfl (R.as rfl) ?_
  refine L.nil ?_
  refine N.seq ?_
  refine G.seq ?_
  refine G.seq ?_
  refine G.region ?_
  refine L.val rfl rfl (R.mv rfl) ?_
  refine L.val rfl rfl (R.eqNilS rfl rfl) ?_
  refine L.nil ?_
  refine N.seq ?_
  refine G.condB rfl (fun h0 => ?_) (fun h0 => ?_)
  · obtain rfl : a = none := by simpa using h0
    obtain ⟨rfl, rfl⟩ := hb.none
    refine G.seq ?_
    refine G.region ?_
    refine L.val rfl rfl (R.as rfl) ?_
    refine L.nil ?_
    refine N.seq ?_
    refine G.ret1 rfl rfl ?_
    exact ⟨none, 0, [], rfl, Ext.refl _ _, Own.nil _ _ _, by simp⟩
  · refine G.skip ?_
    refine N.seq ?_
    refine G.seq ?_
    refine G.region ?_
    refine L.do rfl rfl (R.buildS rfl (by decide) rfl) ?_
    rintro _ w1 ⟨b5, rfl, hb5, hs5, e1, B5⟩
    have hb := hb.ext0 e1
    have o0 := Own.blk (n := 0) (size := 1) B5 (by simp) (by simp [maxLen])
    refine L.val rfl rfl (R.mv rfl) ?_
    refine L.do rfl rfl (R.app rfl rfl o0 hb.cells (by rw [vbs_length, Nat.mul_one]; exact hb.len.symm) (vbs_one _) (by simp [maxLen]; omega) (by omega)) ?_
    rintro _ w2 ⟨a1, c1, M1, rfl, e2, hM1, o1⟩
    refine L.val rfl rfl (R.as rfl) ?_
    refine L.nil ?_
    refine N.seq ?_
    refine G.ret1 rfl rfl ?_
    exact ⟨a1, c1, M1, by rw [Nat.zero_add] , e1.trans e2 (by simp) (by simp; omega), by simpa using o1, by intro g hg; have := hM1 g hg; have := e1.size; simp at *; omega⟩

theorem mul64_ok (x y : Int) (w : World) (hx0 : 0 ≤ x) (hx1 : x ≤ 2147483647) (hy0 : 0 ≤ y) (hy1 : y ≤ 2147483647) : Meets Try.prog 75 [.int .u64 x, .int .u64 y] w (fun v w' => v = .tuple #[.int .u64 0, .int .u64 (x * y)] ∧ w' = w) := by
  refine Meets.enter Try.func75 rfl 51 rfl (Nat.le_of_ble_eq_true rfl) ?_
  have p0 : 0 ≤ x * y := Int.mul_nonneg hx0 hy0
  have p1 : x * y ≤ 4611686014132420609 := Int.le_trans (Int.mul_le_mul hx1 hy1 hy0 (by decide)) (by decide)
  refine G.seq ?_
  refine G.region ?_
  refine L.val rfl rfl (R.as rfl) ?_
  refine L.val rfl rfl (R.as rfl) ?_
  refine L.nil ?_
  refine N.seq ?_
  refine G.seq ?_
  refine G.region ?_
  refine L.val rfl rfl (R.mv rfl) ?_
  refine L.val rfl rfl (R.andW rfl rfl x (and32 hx0 (by omega))) ?_
  refine L.val rfl rfl (R.as rfl) ?_
  refine L.nil ?_
  refine N.seq ?_
  refine G.seq ?_
  refine G.region ?_
  refine L.val rfl rfl (R.mv rfl) ?_
  refine L.val rfl rfl (R.shrW rfl rfl (by decide) 0 ((shr32 x).trans (by omega))) ?_
  refine L.val rfl rfl (R.as rfl) ?_
  refine L.nil ?_
  refine N.seq ?_
  refine G.seq ?_
  refine G.region ?_
  refine L.val rfl rfl (R.mv rfl) ?_
  refine L.val rfl rfl (R.andW rfl rfl y (and32 hy0 (by omega))) ?_
  refine L.val rfl rfl (R.as rfl) ?_
  refine L.nil ?_
  refine N.seq ?_
  refine G.seq ?_
  refine G.region ?_
  refine L.val rfl rfl (R.mv rfl) ?_
  refine L.val rfl rfl (R.shrW rfl rfl (by decide) 0 ((shr32 y).trans (by omega))) ?_
  refine L.val rfl rfl (R.as rfl) ?_
  refine L.nil ?_
  refine N.seq ?_
  refine G.seq ?_
  refine G.region ?_
  refine L.val rfl rfl (R.mv rfl) ?_
  refine L.val rfl rfl (R.mv rfl) ?_
  refine L.val rfl rfl (R.mulW rfl rfl (x * y) (wrap_u64 (by omega))) ?_
  refine L.val rfl rfl (R.as rfl) ?_
  refine L.nil ?_
  refine N.seq ?_
  refine G.seq ?_
  refine G.region ?_
  refine L.val rfl rfl (R.mv rfl) ?_
  refine L.val rfl rfl (R.mv rfl) ?_
  refine L.val rfl rfl (R.mulW rfl rfl 0 (by rw [Int.zero_mul]; rfl)) ?_
  refine L.val rfl rfl (R.mv rfl) ?_
  refine L.val rfl rfl (R.shrW rfl rfl (by decide) (x * y / 4294967296) (shr32 _)) ?_
  refine L.val rfl rfl (R.addW rfl rfl (x * y / 4294967296) (by rw [Int.zero_add]; exact wrap_u64 (by omega))) ?_
  refine L.val rfl rfl (R.as rfl) ?_
  refine L.nil ?_
  refine N.seq ?_
  refine G.seq ?_
  refine G.region ?_
  refine L.val rfl rfl (R.mv rfl) ?_
  refine L.val rfl rfl (R.andW rfl rfl (x * y / 4294967296) (and32 (by omega) (by omega))) ?_
  refine L.val rfl rfl (R.as rfl) ?_
  refine L.nil ?_
  refine N.seq ?_
  refine G.seq ?_
  refine G.region ?_
  refine L.val rfl rfl (R.mv rfl) ?_
  refine L.val rfl rfl (R.shrW rfl rfl (by decide) 0 ((shr32 _).trans (by omega))) ?_
  refine L.val rfl rfl (R.as rfl) ?_
  refine L.nil ?_
  refine N.seq ?_
  refine G.seq ?_
  refine G.region ?_
  refine L.val rfl rfl (R.mv rfl) ?_
  refine L.val rfl rfl (R.mv rfl) ?_
  refine L.val rfl rfl (R.mv rfl) ?_
  refine L.val rfl rfl (R.mulW rfl rfl 0 (by rw [Int.mul_zero]; rfl)) ?_
  refine L.val rfl rfl (R.addW rfl rfl (x * y / 4294967296) (by rw [Int.add_zero]; exact wrap_u64 (by omega))) ?_
  refine L.val rfl rfl (R.as rfl) ?_
  refine L.nil ?_
  refine N.seq ?_
  refine G.seq ?_
  refine G.region ?_
  refine L.val rfl rfl (R.mv rfl) ?_
  refine L.val rfl rfl (R.mv rfl) ?_
  refine L.val rfl rfl (R.mulW rfl rfl 0 rfl) ?_
  refine L.val rfl rfl (R.mv rfl) ?_
  refine L.val rfl rfl (R.addW rfl rfl 0 rfl) ?_
  refine L.val rfl rfl (R.mv rfl) ?_
  refine L.val rfl rfl (R.shrW rfl rfl (by decide) 0 ((shr32 _).trans (by omega))) ?_
  refine L.val rfl rfl (R.addW rfl rfl 0 rfl) ?_
  refine L.val rfl rfl (R.as rfl) ?_
  refine L.nil ?_
  refine N.seq ?_
  refine G.seq ?_
  refine G.region ?_
  refine L.val rfl rfl (R.mv rfl) ?_
  refine L.val rfl rfl (R.mv rfl) ?_
  refine L.val rfl rfl (R.mulW rfl rfl (x * y) (wrap_u64 (by omega))) ?_
  refine L.val rfl rfl (R.as rfl) ?_
  refine L.nil ?_
  refine N.seq ?_
  refine G.ret2 rfl rfl rfl ?_
  exact ⟨rfl, rfl⟩
theorem mul_ok (x y : Int) (w : World) (hx0 : 0 ≤ x) (hx1 : x ≤ 2147483647) (hy0 : 0 ≤ y) (hy1 : y ≤ 2147483647) : Meets Try.prog 64 [.int .u64 x, .int .u64 y] w (fun v w' => v = .tuple #[.int .u64 0, .int .u64 (x * y)] ∧ w' = w) := by
  refine Meets.enter Try.func64 rfl 30 rfl (Nat.le_of_ble_eq_true rfl) ?_
  refine G.seq ?_
  refine G.region ?_
  refine L.val rfl rfl (R.as rfl) ?_
  refine L.val rfl rfl (R.as rfl) ?_
  refine L.nil ?_
  refine N.seq ?_
  refine G.seq ?_
  refine G.condF rfl ?_
  refine G.skip ?_
  refine N.seq ?_
  refine G.seq ?_
  refine G.region ?_
  refine L.val rfl rfl (R.mv rfl) ?_
  refine L.val rfl rfl (R.mv rfl) ?_
  refine L.callF rfl rfl rfl go75 (mul64_ok _ _ _ hx0 hx1 hy0 hy1) ?_
  rintro _ _ ⟨rfl, hw⟩
  obtain rfl := hw.symm
  refine L.val rfl rfl (R.mv rfl) ?_
  refine L.val rfl rfl (R.ext rfl rfl) ?_
  refine L.val rfl rfl (R.ext rfl rfl) ?_
  refine L.val rfl rfl (R.as rfl) ?_
  refine L.val rfl rfl (R.as rfl) ?_
  refine L.nil ?_
  refine N.seq ?_
  refine G.seq ?_
  refine G.region ?_
  refine L.val rfl rfl (R.mv rfl) ?_
  refine L.val rfl rfl (R.mv rfl) ?_
  refine L.val rfl rfl (R.as rfl) ?_
  refine L.val rfl rfl (R.as rfl) ?_
  refine L.nil ?_
  refine N.seq ?_
  refine G.ret2 rfl rfl rfl ?_
  exact ⟨rfl, rfl⟩

theorem _root_.Brv.cells_rep {cur : Array Value} {p q : Nat} {y : UInt8} (h : cur.toList.take p = vbs (List.replicate p y)) (hq : q ≤ p) (j : Nat) (v : Value) (hj : (vbs (List.replicate q y))[j]? = some v) : cur[0 + j]? = some v := by
  have hlt : j < q := by have := (List.getElem?_eq_some_iff.1 hj).1; simpa [vbs] using this
  have h1 : (vbs (List.replicate p y))[j]? = some v := by rw [vbs_get] at hj ⊢; rw [List.getElem?_replicate, if_pos (by omega)]; rw [List.getElem?_replicate, if_pos hlt] at hj; exact hj
  rw [← h, List.getElem?_take, if_pos (by omega)] at h1
  simpa using h1
theorem brepeat_ok (a : Option Addr) (c : Nat) (x : UInt8) (k : Nat) (w : World) (hb : Bs w a 1 [x]) (hk0 : 1 ≤ k) (hk : k ≤ 8192) : Meets Try.prog 77 [.slice a 1 c, .int .i64 k] w (Cloned w 5 1 k (vbs (List.replicate k x))) := by
  refine Meets.enter Try.func77 rfl 77 rfl (Nat.le_of_ble_eq_true rfl) ?_
  refine G.seq ?_
  refine G.region ?_
  refine L.val rfl rfl (R.as rfl) ?_
  refine L.nil ?_
  refine N.seq ?_
  refine G.seq ?_
  refine G.seq ?_
  refine G.region ?_
  refine L.val rfl rfl (R.mv rfl) ?_
  refine L.val rfl rfl (R.eqI rfl rfl) ?_
  refine L.nil ?_
  refine N.seq ?_
  refine G.condP rfl (fun h0 => ?_) (fun h0 => ?_)
  · exfalso; omega
  · refine G.skip ?_
    refine N.seq ?_
    refine G.seq ?_
    refine G.seq ?_
    refine G.region ?_
    refine L.val rfl rfl (R.mv rfl) ?_
    refine L.val rfl rfl (R.lss rfl rfl) ?_
    refine L.nil ?_
    refine N.seq ?_
    refine G.condP rfl (fun h1 => ?_) (fun h1 => ?_)
    · exfalso; omega
    · have hkn : 0 < k := by omega
      refine G.skip ?_
      refine N.seq ?_
      refine G.seq ?_
      refine G.region ?_
      refine L.val rfl rfl (R.mv rfl) ?_
      refine L.val rfl rfl (R.lenS rfl) ?_
      refine L.val rfl rfl (R.conv rfl 1 rfl) ?_
      refine L.val rfl rfl (R.mv rfl) ?_
      refine L.val rfl rfl (R.conv rfl (k : Int) (wrap_u64 (by omega))) ?_
      refine L.callF rfl rfl rfl go64 (mul_ok 1 (k : Int) _ (by decide) (by decide) (by omega) (by omega)) ?_
      rintro _ w1 ⟨rfl, hw⟩
      obtain rfl := hw.symm
      refine L.val rfl rfl (R.mv rfl) ?_
      refine L.val rfl rfl (R.ext rfl rfl) ?_
      refine L.val rfl rfl (R.ext rfl rfl) ?_
      refine L.val rfl rfl (R.as rfl) ?_
      refine L.val rfl rfl (R.as rfl) ?_
      refine L.nil ?_
      refine N.seq ?_
      refine G.seq ?_
      refine G.seq ?_
      refine G.region ?_
      refine L.val rfl rfl (R.mv rfl) ?_
      refine L.val rfl rfl (R.gtr rfl rfl) ?_
      refine L.val rfl rfl (R.mv rfl) ?_
      refine L.caseP 29 rfl (fun hg6_2 => ?_) (fun hg6_2 => ?_)
      · omega
      · refine L.val rfl rfl (R.mv rfl) ?_
        refine L.val rfl rfl (R.gtr rfl rfl) ?_
        first | refine L.val rfl rfl (R.pickT rfl rfl) ?_ | refine L.val rfl rfl (R.pickF rfl rfl) ?_
        refine L.nil ?_
        refine N.seq ?_
        refine G.condP rfl (fun h2 => ?_) (fun h2 => ?_)
        · omega
        · refine G.skip ?_
          refine N.seq ?_
          refine G.seq ?_
          refine G.region ?_
          refine L.val rfl rfl (R.mv rfl) ?_
          refine L.val rfl rfl (R.conv rfl (k : Int) (by rw [Int.one_mul]; exact wrap_i64 (by omega))) ?_
          refine L.val rfl rfl (R.as rfl) ?_
          refine L.nil ?_
          refine N.seq ?_
          refine G.seq ?_
          refine G.seq ?_
          refine G.region ?_
          refine L.val rfl rfl (R.mv rfl) ?_
          refine L.val rfl rfl (R.lenS rfl) ?_
          refine L.val rfl rfl (R.eqI rfl rfl) ?_
          refine L.nil ?_
          refine N.seq ?_
          refine G.condP rfl (fun h3 => ?_) (fun h3 => ?_)
          · omega
          · refine G.skip ?_
            refine N.seq ?_
            refine G.seq ?_
            refine G.region ?_
            refine L.val rfl rfl (R.mv rfl) ?_
            refine L.val rfl rfl (R.as rfl) ?_
            refine L.nil ?_
            refine N.seq ?_
            refine G.seq ?_
            refine G.seq ?_
            refine G.region ?_
            refine L.val rfl rfl (R.mv rfl) ?_
            refine L.val rfl rfl (R.gtr rfl rfl) ?_
            refine L.nil ?_
            refine N.seq ?_
            refine G.condP rfl (fun h4 => ?_) (fun h4 => ?_)
            · exfalso; omega
            · refine G.skip ?_
              refine N.seq ?_
              refine G.seq ?_
              refine G.region ?_
              refine L.val rfl rfl (R.mv rfl) ?_
              refine L.do rfl rfl (R.noZero Try.func78 (by decide) rfl rfl rfl rfl (by omega) (by omega)) ?_
              rintro _ w2 ⟨b54, cs, rfl, hb54, hs54, e2, B54, hk1, hk2⟩
              refine L.val rfl rfl (R.mv rfl) ?_
              refine L.val rfl rfl (R.mv rfl) ?_
              refine L.val rfl rfl (R.slHM rfl rfl rfl (by omega) (by omega) (by omega)) ?_
              refine L.be 57 rfl (show Value.slice (subA (some ⟨b54, 0, none⟩) 0 (k : Int).toNat 1) (k : Int).toNat (k : Int).toNat = .slice (some ⟨b54, 0, none⟩) k k by rw [subA_zero, Int.toNat_natCast]) ?_
              refine L.val rfl rfl (R.as rfl) ?_
              refine L.nil ?_
              refine N.seq ?_
              refine G.seq ?_
              refine G.region ?_
              obtain ⟨pa, rfl, hpc⟩ := hb.at 0 (by simp)
              have hc1 : Cells w2 (some pa) (vbs [x]) := hb.cells.ext0 e2
              refine L.val rfl rfl (R.mv rfl) ?_
              refine L.val rfl rfl (R.mv rfl) ?_
              refine L.do rfl rfl (R.copyB rfl rfl B54 hc1 (show (vbs [x]).length = Nat.min 1 k from (Nat.min_eq_left hk0).symm) (by simp [vbs]; omega) (vbs_one _)) ?_
              rintro _ w3 ⟨rfl, P3⟩
              obtain ⟨e3, hs3, B3⟩ := P3
              have hsz3 := Over.size (cur := cs) (o := 0) (cs := vbs [x]) (by simp [vbs]; omega)
              have ht3 := Over.take (cur := cs) (o := 0) (cs := vbs [x]) (Nat.zero_le _)
              refine L.val rfl rfl (R.as rfl) ?_
              refine L.nil ?_
              refine N.seq ?_
              refine G.seq ?_
              refine G.block ?_
              have hy : ∃ y, y = x := ⟨x, rfl⟩
              obtain ⟨y, hyx⟩ := hy
              subst hyx
              refine G.loop (X := Nat × Array Value) (fun x => [(7, .int .i64 k), (8, .int .i64 k), (9, .slice (some ⟨b54, 0, none⟩) k k), (10, .int .i64 (x.1 : Int))]) (fun x w' => 1 ≤ x.1 ∧ x.1 ≤ k ∧ k ≤ x.2.size ∧ x.2.size ≤ maxLen ∧ Blk w' b54 x.2 5 (0, 0) ∧ x.2.toList.take x.1 = vbs (List.replicate x.1 y) ∧ Ext [] w w') (fun x => k - x.1) ((1, Over cs 0 (vbs [y]))) (Sub.cons rfl (Sub.cons rfl (Sub.cons rfl (Sub.cons rfl (Sub.nil _))))) ⟨Nat.le_refl 1, by omega, by rw [hsz3]; omega, by rw [hsz3]; omega, B3, by simpa [vbs] using ht3, e2.trans e3 (by simp) (by simp; omega)⟩ ?_
              rintro ⟨p, cur⟩ w4 ⟨hp1, hp2, hz1, hz2, B4, ht4, e4⟩
              dsimp only at hp1 hp2 hz1 hz2 B4 ht4
              refine G.seq ?_
              refine G.seq ?_
              refine G.region ?_
              refine L.val rfl rfl (R.mv rfl) ?_
              refine L.val rfl rfl (R.mv rfl) ?_
              refine L.val rfl rfl (R.lss rfl rfl) ?_
              refine L.nil ?_
              refine N.seq ?_
              refine G.condP rfl (fun h6 => ?_) (fun h6 => ?_)
              · have hpk : p < k := by omega
                have hmn : (vbs (List.replicate (min p (k - p)) y)).length = min p (k - p) := by simp [vbs]
                have hov : p + (vbs (List.replicate (min p (k - p)) y)).length ≤ cur.size := by rw [hmn]; omega
                refine G.skip ?_
                refine N.seq ?_
                refine G.block ?_
                refine G.seq ?_
                refine G.region ?_
                refine L.val rfl rfl (R.mv rfl) ?_
                refine L.val rfl rfl (R.mv rfl) ?_
                refine L.val rfl rfl (R.min rfl rfl (p : Int) (by rw [if_neg (by omega)])) ?_
                refine L.val rfl rfl (R.as rfl) ?_
                refine L.nil ?_
                refine N.seq ?_
                refine G.staged [7] [.blocks ([b54])] [fun w' => Ext [] w4 w', fun w' => Ext [b54] w4 w' ∧ Blk w' b54 (Over cur p (vbs (List.replicate (min p (k - p)) y))) 5 (0, 0)] [] (by decide +kernel) (by decide +kernel) rfl rfl rfl (fun _ h => h) ?_
                refine Z.val rfl rfl rfl rfl rfl (fun w5 => R.mv rfl) ?_
                refine Z.val rfl rfl rfl rfl rfl (fun w5 => R.mv rfl) ?_
                refine Z.val rfl rfl rfl rfl rfl (fun w5 => R.mv rfl) ?_
                refine Z.val rfl rfl rfl rfl rfl (fun w5 => R.slL rfl rfl (by omega) (by omega)) ?_
                refine Z.be 70 rfl (show Value.slice (subA (some ⟨b54, 0, none⟩) (p : Int).toNat k 1) (k - (p : Int).toNat) (k - (p : Int).toNat) = .slice (some ⟨b54, p, none⟩) (k - p) (k - p) by rw [Int.toNat_natCast, subA_lit (by omega), Nat.zero_add, Nat.mul_one]) ?_
                refine Z.val rfl rfl rfl rfl rfl (fun w5 => R.mv rfl) ?_
                refine Z.val rfl rfl rfl rfl rfl (fun w5 => R.mv rfl) ?_
                refine Z.val rfl rfl rfl rfl rfl (fun w5 => R.slH rfl rfl (by omega) (by omega)) ?_
                refine Z.be 73 rfl (show Value.slice (subA (some ⟨b54, 0, none⟩) 0 k 1) (p : Int).toNat k = .slice (some ⟨b54, 0, none⟩) p k by rw [subA_zero, Int.toNat_natCast]) ?_
                refine Z.put (A := fun v _ => v = .int .i64 ((min p (k - p) : Nat) : Int)) (Lasts.kill (fun _ _ _ _ h => h) (by decide +kernel)) 0 (by decide +kernel) rfl rfl rfl rfl rfl rfl rfl (fun w5 hJ => (R.copyB rfl rfl (B4.ext0 hJ) (Cells.of_blk (B4.ext0 hJ) 0 _ (fun j v hj => cells_rep ht4 (Nat.min_le_left _ _) j v hj)) (by rw [hmn]) hov (vbs_one _)).mono (fun v w' h => by obtain ⟨rfl, h1, h2, h3⟩ := h; rw [hmn]; exact ⟨rfl, h1, h1.after hJ, h3⟩)) ?_
                refine Z.valR (A := fun v _ => v = .int .i64 ((p : Int) + ((min p (k - p) : Nat) : Int))) (Lasts.kill (fun _ _ _ _ h => h) (by decide +kernel)) rfl rfl rfl rfl (fun w5 => by rintro _ rfl; exact ⟨_, R.add rfl rfl (by omega), rfl⟩) ?_
                refine Z.valR (A := fun v _ => v = .int .i64 ((p + min p (k - p) : Nat) : Int)) (Lasts.kill (fun _ _ _ _ h => h) (by decide +kernel)) rfl rfl rfl rfl (fun w5 => by rintro _ rfl; exact ⟨_, R.as rfl, by simp⟩) ?_
                refine Z.nil rfl rfl (fun w5 hJ => ?_)
                obtain ⟨e6, B6⟩ := hJ
                rintro _ rfl _ _ _ _
                have hE6 : Ext [] w w5 := e4.trans e6 (by simp) (by simp; omega)
                have hto := Over.take (cur := cur) (o := p) (cs := vbs (List.replicate (min p (k - p)) y)) (by omega)
                rw [hmn, ht4, ← vbs_append, List.replicate_append_replicate] at hto
                refine N.block ?_
                exact N.again (p + min p (k - p), Over cur p (vbs (List.replicate (min p (k - p)) y))) (by show k - (p + min p (k - p)) < k - p; omega) (Sub.cons rfl (Sub.cons rfl (Sub.cons rfl (Sub.cons rfl (Sub.nil _))))) ⟨by show 1 ≤ p + min p (k - p); omega, by show p + min p (k - p) ≤ k; omega, by show k ≤ (Over cur p _).size; rw [Over.size hov]; exact hz1, by show (Over cur p _).size ≤ maxLen; rw [Over.size hov]; exact hz2, B6, hto, hE6⟩
              · have hpk : p = k := by omega
                subst hpk
                refine G.exit _ rfl ?_
                refine N.seq ?_
                refine G.seq ?_
                refine G.region ?_
                refine L.val rfl rfl (R.mv rfl) ?_
                refine L.val rfl rfl (R.as rfl) ?_
                refine L.nil ?_
                refine N.seq ?_
                refine G.ret1 rfl rfl ?_
                exact ⟨_, _, [b54], rfl, e4, ⟨by simp [vbs], .inr ⟨b54, cur, rfl, rfl, B4, Nat.le_refl _, by omega, by omega, by simpa using ht4⟩⟩, by intro g hg; rw [List.mem_singleton.1 hg]; omega⟩

end Go.Proofs.Yteaihincmfbblaa
/-
  The walks of package shrink.
-/
set_option linter.unusedVariables false
set_option linter.unusedSimpArgs false
namespace Go.Proofs.Yteaihincmfbblaa
open Go Brv Brv.Shrink
theorem alike_ok (a : Option Addr) (n c : Nat) (l : List UInt8) (w : World) (hb : Bs w a n l) (hn : n ≤ 140737488355328) : Meets Try.prog 68 [.slice a n c] w (fun v w' => v = .int .i64 ((alikeF l : Nat) : Int) ∧ Ext [] w w') := by
  refine Meets.enter Try.func68 rfl 25 rfl (Nat.le_of_ble_eq_true rfl) ?_
  have E := Ext.refl [] w
  have hl := hb.len
  refine G.seq ?_
  refine G.region ?_
  refine L.val rfl rfl (R.as rfl) ?_
  refine L.nil ?_
  refine N.seq ?_
  refine G.seq ?_
  refine G.region ?_
  refine L.val rfl rfl (R.as rfl) ?_
  refine L.nil ?_
  refine N.seq ?_
  refine G.seq ?_
  refine G.block ?_
  refine G.loop (X := Nat) (fun k => [(0, .slice a n c), (3, .int .i64 (k : Int))]) (fun k w' => k ≤ n ∧ k ≤ 130 ∧ (∀ j, j < k → l[j]? = l[0]?) ∧ Ext [] w w') (fun k => n - k) (0) (Sub.cons rfl (Sub.cons rfl (Sub.nil _))) ⟨by omega, by omega, fun j hj => by omega, Ext.refl _ _⟩ ?_
  rintro k w1 ⟨hk, hk2, hall, E⟩
  refine G.seq ?_
  refine G.seq ?_
  refine G.quiet (by decide +kernel) rfl ?_
  refine Q.val rfl rfl rfl rfl (fun w2 hE => R.mv rfl) ?_
  refine Q.val rfl rfl rfl rfl (fun w2 hE => R.mv rfl) ?_
  refine Q.val rfl rfl rfl rfl (fun w2 hE => R.lenS rfl) ?_
  refine Q.val rfl rfl rfl rfl (fun w2 hE => R.lss rfl rfl) ?_
  refine Q.val rfl rfl rfl rfl (fun w2 hE => R.mv rfl) ?_
  refine Q.caseP 8 rfl (fun hg2_4 => ?_) (fun hg2_4 => ?_)
  · refine Q.val rfl rfl rfl rfl (fun w2 hE => R.mv rfl) ?_
    refine Q.val rfl rfl rfl rfl (fun w2 hE => R.lss rfl rfl) ?_
    first | refine Q.val rfl rfl rfl rfl (fun w2 hE => R.pickT rfl rfl) ?_ | refine Q.val rfl rfl rfl rfl (fun w2 hE => R.pickF rfl rfl) ?_
    refine Q.val rfl rfl rfl rfl (fun w2 hE => R.mv rfl) ?_
    refine Q.caseP 12 rfl (fun hg2_8 => ?_) (fun hg2_8 => ?_)
    · obtain ⟨p, hpa, hcl⟩ := hb.at k (by omega)
      obtain ⟨p0, hpa0, hcl0⟩ := hb.at 0 (by omega)
      refine Q.val rfl rfl rfl rfl (fun w2 hE => R.mv rfl) ?_
      refine Q.val rfl rfl rfl rfl (fun w2 hE => R.mv rfl) ?_
      refine Q.val rfl rfl rfl rfl (fun w2 hE => R.idx rfl rfl (by omega) (by omega) p hpa) ?_
      refine Q.val rfl rfl rfl rfl (fun w2 hE => R.ld rfl (cell?_ext0' hcl (E.trans0 hE))) ?_
      refine Q.val rfl rfl rfl rfl (fun w2 hE => R.mv rfl) ?_
      refine Q.val rfl rfl rfl rfl (fun w2 hE => R.idx rfl rfl (by omega) (by omega) p0 hpa0) ?_
      refine Q.val rfl rfl rfl rfl (fun w2 hE => R.ld rfl (cell?_ext0' hcl0 (E.trans0 hE))) ?_
      refine Q.val rfl rfl rfl rfl (fun w2 hE => R.eqI rfl rfl) ?_
      first | refine Q.val rfl rfl rfl rfl (fun w2 hE => R.pickT rfl rfl) ?_ | refine Q.val rfl rfl rfl rfl (fun w2 hE => R.pickF rfl rfl) ?_
      refine Q.nil (fun w2 e2 => ?_)
      replace E := E.trans0 e2
      refine N.seq ?_
      refine G.condP rfl (fun h0 => ?_) (fun h0 => ?_)
      · have hkk : l[k]? = l[0]? := by rw [List.getElem?_eq_getElem (by omega), List.getElem?_eq_getElem (by omega)]; exact congrArg some (UInt8.toNat_inj.1 (by omega))
        refine G.skip ?_
        refine N.seq ?_
        refine G.block ?_
        refine G.region ?_
        refine L.val rfl rfl (R.mv rfl) ?_
        refine L.val rfl rfl (R.add rfl rfl (by omega)) ?_
        refine L.val rfl rfl (R.as rfl) ?_
        refine L.nil ?_
        refine N.block ?_
        exact N.again (k + 1) (by omega) (Sub.cons rfl (Sub.cons rfl (Sub.nil _))) ⟨by omega, by omega, fun j hj => by rcases Nat.lt_or_ge j k with h | h; exact hall j h; rw [show j = k by omega]; exact hkk, E⟩
      · have hkk : l[k]? ≠ l[0]? := by rw [List.getElem?_eq_getElem (by omega), List.getElem?_eq_getElem (by omega)]; intro e; have e2 := Option.some.inj e; rw [e2] at h0; exact h0 rfl
        refine G.exit _ rfl ?_
        refine N.seq ?_
        refine G.seq ?_
        refine G.region ?_
        refine L.val rfl rfl (R.mv rfl) ?_
        refine L.val rfl rfl (R.as rfl) ?_
        refine L.nil ?_
        refine N.seq ?_
        refine G.ret1 rfl rfl ?_
        exact ⟨congrArg (fun z : Nat => Value.int .i64 (z : Int)) (alikeF_is (by omega) (by omega) hall (.inr (.inr hkk))).symm, E⟩
    · refine Q.pass rfl rfl rfl ?_
      refine Q.pass rfl rfl rfl ?_
      refine Q.pass rfl rfl rfl ?_
      refine Q.pass rfl rfl rfl ?_
      refine Q.pass rfl rfl rfl ?_
      refine Q.pass rfl rfl rfl ?_
      refine Q.pass rfl rfl rfl ?_
      refine Q.pass rfl rfl rfl ?_
      first | refine Q.val rfl rfl rfl rfl (fun w2 hE => R.pickT rfl rfl) ?_ | refine Q.val rfl rfl rfl rfl (fun w2 hE => R.pickF rfl rfl) ?_
      refine Q.nil (fun w2 e2 => ?_)
      replace E := E.trans0 e2
      refine N.seq ?_
      refine G.condF rfl ?_
      refine G.exit _ rfl ?_
      refine N.seq ?_
      refine G.seq ?_
      refine G.region ?_
      refine L.val rfl rfl (R.mv rfl) ?_
      refine L.val rfl rfl (R.as rfl) ?_
      refine L.nil ?_
      refine N.seq ?_
      refine G.ret1 rfl rfl ?_
      exact ⟨congrArg (fun z : Nat => Value.int .i64 (z : Int)) (alikeF_is (by omega) (by omega) hall (.inr (.inl (by omega)))).symm, E⟩
  · refine Q.pass rfl rfl rfl ?_
    refine Q.pass rfl rfl rfl ?_
    first | refine Q.val rfl rfl rfl rfl (fun w2 hE => R.pickT rfl rfl) ?_ | refine Q.val rfl rfl rfl rfl (fun w2 hE => R.pickF rfl rfl) ?_
    refine Q.val rfl rfl rfl rfl (fun w2 hE => R.mv rfl) ?_
    refine Q.pass rfl rfl rfl ?_
    refine Q.pass rfl rfl rfl ?_
    refine Q.pass rfl rfl rfl ?_
    refine Q.pass rfl rfl rfl ?_
    refine Q.pass rfl rfl rfl ?_
    refine Q.pass rfl rfl rfl ?_
    refine Q.pass rfl rfl rfl ?_
    refine Q.pass rfl rfl rfl ?_
    first | refine Q.val rfl rfl rfl rfl (fun w2 hE => R.pickT rfl rfl) ?_ | refine Q.val rfl rfl rfl rfl (fun w2 hE => R.pickF rfl rfl) ?_
    refine Q.nil (fun w2 e2 => ?_)
    replace E := E.trans0 e2
    refine N.seq ?_
    refine G.condF rfl ?_
    refine G.exit _ rfl ?_
    refine N.seq ?_
    refine G.seq ?_
    refine G.region ?_
    refine L.val rfl rfl (R.mv rfl) ?_
    refine L.val rfl rfl (R.as rfl) ?_
    refine L.nil ?_
    refine N.seq ?_
    refine G.ret1 rfl rfl ?_
    exact ⟨congrArg (fun z : Nat => Value.int .i64 (z : Int)) (alikeF_is (by omega) (by omega) hall (.inl (by omega))).symm, E⟩

theorem raw_ok (a : Option Addr) (n c : Nat) (l : List UInt8) (w : World) (hb : Bs w a n l) (hc : n ≤ c) (hn : n ≤ 140737488355328) : Meets Try.prog 69 [.slice a n c] w (fun v w' => v = .int .i64 ((rawF 128 l : Nat) : Int) ∧ Ext [] w w') := by
  refine Meets.enter Try.func69 rfl 22 rfl (Nat.le_of_ble_eq_true rfl) ?_
  have E := Ext.refl [] w
  have hl := hb.len
  refine G.seq ?_
  refine G.region ?_
  refine L.val rfl rfl (R.as rfl) ?_
  refine L.nil ?_
  refine N.seq ?_
  refine G.seq ?_
  refine G.region ?_
  refine L.val rfl rfl (R.as rfl) ?_
  refine L.nil ?_
  refine N.seq ?_
  refine G.seq ?_
  refine G.block ?_
  refine G.loop (X := Nat) (fun k => [(0, .slice a n c), (3, .int .i64 (k : Int))]) (fun k w' => k ≤ n ∧ k ≤ 128 ∧ rawF 128 l = k + rawF (128 - k) (l.drop k) ∧ Ext [] w w') (fun k => n - k) (0) (Sub.cons rfl (Sub.cons rfl (Sub.nil _))) ⟨by omega, by omega, by simp, Ext.refl _ _⟩ ?_
  rintro k w1 ⟨hk, hk2, hraw, E⟩
  refine G.seq ?_
  refine G.seq ?_
  refine G.region ?_
  refine L.val rfl rfl (R.mv rfl) ?_
  refine L.val rfl rfl (R.mv rfl) ?_
  refine L.val rfl rfl (R.lenS rfl) ?_
  refine L.val rfl rfl (R.lss rfl rfl) ?_
  refine L.val rfl rfl (R.mv rfl) ?_
  refine L.caseP 8 rfl (fun hg2_4 => ?_) (fun hg2_4 => ?_)
  · refine L.val rfl rfl (R.mv rfl) ?_
    refine L.val rfl rfl (R.lss rfl rfl) ?_
    first | refine L.val rfl rfl (R.pickT rfl rfl) ?_ | refine L.val rfl rfl (R.pickF rfl rfl) ?_
    refine L.val rfl rfl (R.mv rfl) ?_
    refine L.caseP 12 rfl (fun hg2_8 => ?_) (fun hg2_8 => ?_)
    · refine L.val rfl rfl (R.mv rfl) ?_
      refine L.val rfl rfl (R.mv rfl) ?_
      refine L.val rfl rfl (R.slL rfl rfl (by omega) (by omega)) ?_
      refine L.callF rfl rfl rfl go68 (alike_ok _ _ _ _ _ ((hb.drop k c hk hc).ext0 E) (by omega)) ?_
      rintro _ w2 ⟨rfl, e2⟩
      replace E := E.trans0 e2
      refine L.val rfl rfl (R.lss rfl rfl) ?_
      first | refine L.val rfl rfl (R.pickT rfl rfl) ?_ | refine L.val rfl rfl (R.pickF rfl rfl) ?_
      refine L.nil ?_
      refine N.seq ?_
      refine G.condP rfl (fun h0 => ?_) (fun h0 => ?_)
      · refine G.skip ?_
        refine N.seq ?_
        refine G.block ?_
        refine G.region ?_
        refine L.val rfl rfl (R.mv rfl) ?_
        refine L.val rfl rfl (R.add rfl rfl (by omega)) ?_
        refine L.val rfl rfl (R.as rfl) ?_
        refine L.nil ?_
        refine N.block ?_
        exact N.again (k + 1) (by omega) (Sub.cons rfl (Sub.cons rfl (Sub.nil _))) ⟨by omega, by omega, by rw [hraw, raw_step (by omega) (by omega) (by omega)]; omega, E⟩
      · refine G.exit _ rfl ?_
        refine N.seq ?_
        refine G.seq ?_
        refine G.region ?_
        refine L.val rfl rfl (R.mv rfl) ?_
        refine L.val rfl rfl (R.as rfl) ?_
        refine L.nil ?_
        refine N.seq ?_
        refine G.ret1 rfl rfl ?_
        exact ⟨congrArg (fun z : Nat => Value.int .i64 (z : Int)) (by rw [hraw, raw_end (.inr (.inr (by omega)))]; rfl), E⟩
    · refine L.pass rfl rfl ?_
      refine L.pass rfl rfl ?_
      refine L.pass rfl rfl ?_
      refine L.pass rfl rfl ?_
      refine L.pass rfl rfl ?_
      first | refine L.val rfl rfl (R.pickT rfl rfl) ?_ | refine L.val rfl rfl (R.pickF rfl rfl) ?_
      refine L.nil ?_
      refine N.seq ?_
      refine G.condF rfl ?_
      refine G.exit _ rfl ?_
      refine N.seq ?_
      refine G.seq ?_
      refine G.region ?_
      refine L.val rfl rfl (R.mv rfl) ?_
      refine L.val rfl rfl (R.as rfl) ?_
      refine L.nil ?_
      refine N.seq ?_
      refine G.ret1 rfl rfl ?_
      exact ⟨congrArg (fun z : Nat => Value.int .i64 (z : Int)) (by rw [hraw, raw_end (.inr (.inl (by omega)))]; rfl), E⟩
  · refine L.pass rfl rfl ?_
    refine L.pass rfl rfl ?_
    first | refine L.val rfl rfl (R.pickT rfl rfl) ?_ | refine L.val rfl rfl (R.pickF rfl rfl) ?_
    refine L.val rfl rfl (R.mv rfl) ?_
    refine L.pass rfl rfl ?_
    refine L.pass rfl rfl ?_
    refine L.pass rfl rfl ?_
    refine L.pass rfl rfl ?_
    refine L.pass rfl rfl ?_
    first | refine L.val rfl rfl (R.pickT rfl rfl) ?_ | refine L.val rfl rfl (R.pickF rfl rfl) ?_
    refine L.nil ?_
    refine N.seq ?_
    refine G.condF rfl ?_
    refine G.exit _ rfl ?_
    refine N.seq ?_
    refine G.seq ?_
    refine G.region ?_
    refine L.val rfl rfl (R.mv rfl) ?_
    refine L.val rfl rfl (R.as rfl) ?_
    refine L.nil ?_
    refine N.seq ?_
    refine G.ret1 rfl rfl ?_
    exact ⟨congrArg (fun z : Nat => Value.int .i64 (z : Int)) (by rw [hraw, raw_end (.inl (by omega))]; rfl), E⟩

structure ShSt where
  a0 : Option Addr
  n0 : Nat
  c0 : Nat
  r : List UInt8
  a1 : Option Addr
  n1 : Nat
  c1 : Nat
  acc : List UInt8
  M : List Nat

theorem shrink_ok (a : Option Addr) (n c : Nat) (l : List UInt8) (w : World) (hb : Bs w a n l) (hc : n ≤ c) (hn : n ≤ 1000000) : Meets Try.prog 49 [.slice a n c] w (Cloned w 5 1 (shrinkF l).length (vbs (shrinkF l))) := by
  refine Meets.enter Try.func49 rfl 42 rfl (Nat.le_of_ble_eq_true rfl) ?_
  have E := Ext.refl [] w
  have hl := hb.len
  have hwo := shrink_worst l.length l (Nat.le_refl _)
  unfold worstF at hwo
  refine G.seq ?_
  refine G.region ?_
  refine L.val rfl rfl (R.as rfl) ?_
  refine L.nil ?_
  refine N.seq ?_
  refine G.seq ?_
  refine G.region ?_
  refine L.val rfl rfl (R.as rfl) ?_
  refine L.nil ?_
  refine N.seq ?_
  refine G.seq ?_
  refine G.block ?_
  refine G.loop (X := ShSt) (fun x => [(0, .slice x.a0 x.n0 x.c0), (3, .slice x.a1 x.n1 x.c1)]) (fun x w' => Bs w x.a0 x.n0 x.r ∧ (x.n0 ≤ x.c0 ∧ x.n0 ≤ n) ∧ Own w' 5 1 x.a1 x.n1 x.c1 (vbs x.acc) x.M ∧ (∀ g ∈ x.M, w.heap.size ≤ g) ∧ x.acc ++ shrinkF x.r = shrinkF l ∧ Ext [] w w') (fun x => x.r.length) (⟨a, n, c, l, none, 0, 0, [], []⟩) (Sub.cons rfl (Sub.cons rfl (Sub.nil _))) ⟨hb, ⟨hc, Nat.le_refl _⟩, Own.nil _ _ _, by simp, rfl, Ext.refl _ _⟩ ?_
  rintro ⟨a0, n0, c0, r, a1, n1, c1, acc, M⟩ w1 ⟨hbr, ⟨hcr, hcn⟩, o1, hM, hacc, E⟩
  dsimp only at hbr hcr hcn o1 hM hacc
  refine G.sub [(0, .slice a0 n0 c0), (3, .slice a1 n1 c1)] (Sub.cons rfl (Sub.cons rfl (Sub.nil _))) ?_
  have hrl := hbr.len
  have ho1 := o1.len
  rw [vbs_length, Nat.mul_one] at ho1
  have hal := congrArg List.length hacc
  rw [List.length_append] at hal
  refine G.seq ?_
  refine G.seq ?_
  refine G.region ?_
  refine L.val rfl rfl (R.mv rfl) ?_
  refine L.val rfl rfl (R.lenS rfl) ?_
  refine L.val rfl rfl (R.gtr rfl rfl) ?_
  refine L.nil ?_
  refine N.seq ?_
  refine G.condP rfl (fun h0 => ?_) (fun h0 => ?_)
  · obtain ⟨x, q, rfl⟩ : ∃ x q, r = x :: q := by cases r with | nil => simp at hrl; omega | cons x q => exact ⟨x, q, rfl⟩
    have ha0 := alikeF_pos x q
    have ha := alikeF_most (x :: q)
    have hal2 := alikeF_le (x :: q)
    refine G.skip ?_
    refine N.seq ?_
    refine G.block ?_
    refine G.seq ?_
    refine G.seq ?_
    refine G.region ?_
    refine L.val rfl rfl (R.mv rfl) ?_
    refine L.callF rfl rfl rfl go68 (alike_ok _ _ _ _ _ (hbr.ext0 E) (by omega)) ?_
    rintro _ w2 ⟨rfl, e2⟩
    have o1 := o1.ext0 e2
    replace E := E.trans0 e2
    refine L.val rfl rfl (R.as rfl) ?_
    refine L.nil ?_
    refine N.seq ?_
    refine G.seq ?_
    refine G.region ?_
    refine L.val rfl rfl (R.mv rfl) ?_
    refine L.val rfl rfl (R.geq rfl rfl) ?_
    refine L.nil ?_
    refine N.seq ?_
    refine G.condP rfl (fun h1 => ?_) (fun h1 => ?_)
    · obtain ⟨p0, hp0, hc0⟩ := hbr.at 0 (by simp)
      refine G.seq ?_
      refine G.staged [9] [.above w.heap.size] [Ext [] w2, Above w.heap.size w2] [(9, 21)] (by decide +kernel) (by decide +kernel) rfl rfl rfl (fun _ h => h) ?_
      refine Z.val rfl rfl rfl rfl rfl (fun w3 => R.mv rfl) ?_
      refine Z.val rfl rfl rfl rfl rfl (fun w3 => R.mv rfl) ?_
      refine Z.val rfl rfl rfl rfl rfl (fun w3 => R.add rfl rfl (by omega)) ?_
      refine Z.val rfl rfl rfl rfl rfl (fun w3 => R.sub' rfl rfl (by omega)) ?_
      refine Z.val rfl rfl rfl rfl rfl (fun w3 => R.conv rfl ((UInt8.ofNat (125 + alikeF (x :: q))).toNat : Int) (by rw [wrap_u8 (by omega), ofNat_toNat _ (by omega)]; omega)) ?_
      refine Z.val rfl rfl rfl rfl rfl (fun w3 => R.mv rfl) ?_
      refine Z.val rfl rfl rfl rfl rfl (fun w3 => R.idx rfl rfl (by omega) (by omega) p0 hp0) ?_
      refine Z.read 0 (by decide +kernel) rfl rfl rfl rfl rfl rfl (fun w3 hJ => R.ld rfl (cell?_ext0' hc0 (E.trans0 hJ))) ?_
      refine Z.be 20 rfl (show vb (x :: q)[0] = vb x from rfl) ?_
      refine Z.new (A := IsBs 2 [UInt8.ofNat (125 + alikeF (x :: q)), x]) (Lasts.kill (IsBs.keep _ _) (by decide +kernel)) 0 (by decide +kernel) rfl rfl rfl rfl rfl (fun w3 hJ => (R.buildA rfl rfl rfl rfl rfl).mono (fun _ _ h => have qq := h.bs (l := [UInt8.ofNat (125 + alikeF (x :: q)), x]) rfl rfl; ⟨qq.1, qq.2, hJ.trans0 qq.2⟩)) ?_
      refine Z.put (A := Mine w.heap.size 5 1 (n1 + 2) (vbs (acc ++ [UInt8.ofNat (125 + alikeF (x :: q)), x]))) (Lasts.kill (Mine.keep _ _ _ _ _) (by decide +kernel)) 0 (by decide +kernel) rfl rfl rfl rfl rfl rfl rfl (fun w3 hJ => by rintro v ⟨a2, c2, rfl, _, hb2⟩; exact (R.app rfl rfl (o1.ext0 hJ) hb2.cells rfl (vbs_one _) (by simp [maxLen]; omega) (by omega)).mono (fun _ _ h => have g := Mine.grow h hM (Nat.le_trans E.size hJ.size) rfl (by simp [vbs]); ⟨g.1, g.2, (Above.of hJ (by simp)).trans g.2⟩)) ?_
      refine Z.val rfl rfl rfl rfl rfl (fun w3 => R.mv rfl) ?_
      refine Z.val rfl rfl rfl rfl rfl (fun w3 => R.mv rfl) ?_
      refine Z.val rfl rfl rfl rfl rfl (fun w3 => R.slL rfl rfl (by omega) (by omega)) ?_
      refine Z.valR (A := Mine w.heap.size 5 1 (n1 + 2) (vbs (acc ++ [UInt8.ofNat (125 + alikeF (x :: q)), x]))) (Lasts.kill (Mine.keep _ _ _ _ _) (by decide +kernel)) rfl rfl rfl rfl (fun w3 => fun v hv => ⟨v, R.as rfl, hv⟩) ?_
      refine Z.val rfl rfl rfl rfl rfl (fun w3 => R.as rfl) ?_
      refine Z.nil rfl rfl (fun w3 hJ => ?_)
      intro v3 h3 v22 _
      obtain ⟨a2, c2, M2, rfl, o2, hM2⟩ := h3
      have E := Above.ext E rfl hJ
      refine N.seq ?_
      refine G.exit _ rfl ?_
      exact N.again (X := ShSt) ⟨subA a0 (alikeF (x :: q)) c0 1, n0 - alikeF (x :: q), c0 - alikeF (x :: q), (x :: q).drop (alikeF (x :: q)), a2, n1 + 2, c2, acc ++ [UInt8.ofNat (125 + alikeF (x :: q)), x], M2⟩ (by show ((x :: q).drop (alikeF (x :: q))).length < (x :: q).length; rw [List.length_drop]; omega) (Sub.cons rfl (Sub.cons rfl (Sub.nil _))) ⟨hbr.drop _ c0 (by omega) hcr, ⟨by show n0 - _ ≤ c0 - _; omega, by show n0 - _ ≤ n; omega⟩, o2, hM2, by show (acc ++ _) ++ shrinkF ((x :: q).drop _) = _; rw [← hacc, shrinkF_run x q (by omega)]; simp, E⟩
    · refine G.skip ?_
      refine N.seq ?_
      refine G.seq ?_
      refine G.region ?_
      refine L.val rfl rfl (R.mv rfl) ?_
      refine L.callF rfl rfl rfl go69 (raw_ok _ _ _ _ _ (hbr.ext0 E) hcr (by omega)) ?_
      rintro _ w3 ⟨rfl, e3⟩
      have o1 := o1.ext0 e3
      replace E := E.trans0 e3
      have h1' : alikeF (x :: q) < 3 := by omega
      have hr1 := rawF_pos x q 127 h1'
      have hr2 := rawF_le 128 (x :: q)
      have hr3 := rawF_most 128 (x :: q)
      have hr4 : 1 ≤ rawF 128 (x :: q) := by rw [hr1]; omega
      have henc : enc ((x :: q).take (rawF 128 (x :: q))) = UInt8.ofNat (rawF 128 (x :: q) - 1) :: (x :: q).take (rawF 128 (x :: q)) := by unfold enc; rw [List.length_take, Nat.min_eq_left hr2]
      refine L.val rfl rfl (R.as rfl) ?_
      refine L.nil ?_
      refine N.seq ?_
      refine G.staged [5, 9] [.above w.heap.size, .above w.heap.size] [Ext [] w3, Above w.heap.size w3, Above w.heap.size w3] [(5, 32), (9, 32), (9, 33)] (by decide +kernel) (by decide +kernel) rfl rfl rfl (fun _ h => h) ?_
      refine Z.val rfl rfl rfl rfl rfl (fun w4 => R.mv rfl) ?_
      refine Z.val rfl rfl rfl rfl rfl (fun w4 => R.mv rfl) ?_
      refine Z.val rfl rfl rfl rfl rfl (fun w4 => R.sub' rfl rfl (by omega)) ?_
      refine Z.val rfl rfl rfl rfl rfl (fun w4 => R.conv rfl ((UInt8.ofNat (rawF 128 (x :: q) - 1)).toNat : Int) (by rw [wrap_u8 (by omega), ofNat_toNat _ (by omega)]; omega)) ?_
      refine Z.new (A := IsBs 1 [UInt8.ofNat (rawF 128 (x :: q) - 1)]) (Lasts.kill (IsBs.keep _ _) (by decide +kernel)) 0 (by decide +kernel) rfl rfl rfl rfl rfl (fun w4 hJ => (R.buildA rfl rfl rfl rfl rfl).mono (fun _ _ h => have qq := h.bs (l := [UInt8.ofNat (rawF 128 (x :: q) - 1)]) rfl rfl; ⟨qq.1, qq.2, hJ.trans0 qq.2⟩)) ?_
      refine Z.put (A := Mine w.heap.size 5 1 (n1 + 1) (vbs (acc ++ [UInt8.ofNat (rawF 128 (x :: q) - 1)]))) (Lasts.kill (Mine.keep _ _ _ _ _) (by decide +kernel)) 0 (by decide +kernel) rfl rfl rfl rfl rfl rfl rfl (fun w4 hJ => by rintro v ⟨a2, c2, rfl, _, hb2⟩; exact (R.app rfl rfl (o1.ext0 hJ) hb2.cells rfl (vbs_one _) (by simp [maxLen]; omega) (by omega)).mono (fun _ _ h => have g := Mine.grow h hM (Nat.le_trans E.size hJ.size) rfl (by simp [vbs]); ⟨g.1, g.2, (Above.of hJ (by simp)).trans g.2⟩)) ?_
      refine Z.val rfl rfl rfl rfl rfl (fun w4 => R.mv rfl) ?_
      refine Z.val rfl rfl rfl rfl rfl (fun w4 => R.mv rfl) ?_
      refine Z.val rfl rfl rfl rfl rfl (fun w4 => R.slH rfl rfl (by omega) (by omega)) ?_
      refine Z.be 36 rfl (show Value.slice (subA a0 0 c0 1) ((rawF 128 (x :: q) : Nat) : Int).toNat c0 = .slice a0 (rawF 128 (x :: q)) c0 by rw [subA_zero]; rfl) ?_
      refine Z.put (A := Mine w.heap.size 5 1 (n1 + 1 + rawF 128 (x :: q)) (vbs (acc ++ [UInt8.ofNat (rawF 128 (x :: q) - 1)] ++ (x :: q).take (rawF 128 (x :: q))))) (Lasts.kill (Mine.keep _ _ _ _ _) (by decide +kernel)) 1 (by decide +kernel) rfl rfl rfl rfl rfl rfl rfl (fun w4 hJ => by rintro v ⟨a2, c2, M2, rfl, o2, hM2⟩; exact (R.app rfl rfl o2 ((hbr.ext0 (Above.ext E rfl hJ)).pre (rawF 128 (x :: q)) (by omega)).cells (by rw [vbs_length, List.length_take]; omega) (vbs_one _) (by simp [maxLen]; omega) (by omega)).mono (fun _ _ h => have g := Mine.grow h hM2 (Nat.le_trans E.size hJ.size) rfl (by simp [vbs]); ⟨g.1, g.2, hJ.trans g.2⟩)) ?_
      refine Z.val rfl rfl rfl rfl rfl (fun w4 => R.mv rfl) ?_
      refine Z.val rfl rfl rfl rfl rfl (fun w4 => R.mv rfl) ?_
      refine Z.val rfl rfl rfl rfl rfl (fun w4 => R.slL rfl rfl (by omega) (by omega)) ?_
      refine Z.valR (A := Mine w.heap.size 5 1 (n1 + 1 + rawF 128 (x :: q)) (vbs (acc ++ [UInt8.ofNat (rawF 128 (x :: q) - 1)] ++ (x :: q).take (rawF 128 (x :: q))))) (Lasts.kill (Mine.keep _ _ _ _ _) (by decide +kernel)) rfl rfl rfl rfl (fun w4 => fun v hv => ⟨v, R.as rfl, hv⟩) ?_
      refine Z.val rfl rfl rfl rfl rfl (fun w4 => R.as rfl) ?_
      refine Z.nil rfl rfl (fun w4 hJ => ?_)
      intro v3 h3 v37 _
      obtain ⟨a2, c2, M2, rfl, o2, hM2⟩ := h3
      have E := Above.ext E rfl hJ
      refine N.block ?_
      exact N.again (X := ShSt) ⟨subA a0 (rawF 128 (x :: q)) c0 1, n0 - rawF 128 (x :: q), c0 - rawF 128 (x :: q), (x :: q).drop (rawF 128 (x :: q)), a2, n1 + 1 + rawF 128 (x :: q), c2, acc ++ [UInt8.ofNat (rawF 128 (x :: q) - 1)] ++ (x :: q).take (rawF 128 (x :: q)), M2⟩ (by show ((x :: q).drop (rawF 128 (x :: q))).length < (x :: q).length; rw [List.length_drop]; omega) (Sub.cons rfl (Sub.cons rfl (Sub.nil _))) ⟨hbr.drop _ c0 (by omega) hcr, ⟨by show n0 - _ ≤ c0 - _; omega, by show n0 - _ ≤ n; omega⟩, o2, hM2, by show (acc ++ _ ++ _) ++ shrinkF ((x :: q).drop _) = _; rw [← hacc, shrinkF_raw x q h1', henc]; simp, E⟩
  · refine G.exit _ rfl ?_
    refine N.seq ?_
    refine G.seq ?_
    refine G.region ?_
    refine L.val rfl rfl (R.mv rfl) ?_
    refine L.val rfl rfl (R.as rfl) ?_
    refine L.nil ?_
    refine N.seq ?_
    refine G.ret1 rfl rfl ?_
    obtain rfl : r = [] := List.eq_nil_of_length_eq_zero (by omega)
    rw [shrinkF_nil, List.append_nil] at hacc
    subst hacc
    subst ho1
    exact ⟨a1, c1, M, rfl, E, o1, hM⟩

end Go.Proofs.Yteaihincmfbblaa
/-
  The walks of package shrink: pieces, Grow, what is laid over.
-/
set_option linter.unusedVariables false
set_option linter.unusedSimpArgs false
namespace Go.Proofs.Yteaihincmfbblaa
open Go Brv Brv.Crc Brv.Shrink
theorem piece_ok (a : Option Addr) (n c : Nat) (l : List UInt8) (w : World) (hb : Bs w a n l) (hc : n ≤ c) (hn : n ≤ 1000000) (h0 : 0 < n) : Meets Try.prog 71 [.slice a n c] w (fun v w' => Ext [] w w' ∧ ∃ a1 n1 c1 a2 n2 c2 p q, v = .tuple #[.slice a1 n1 c1, .slice a2 n2 c2, .bool (pieceF l).isSome] ∧ ((pieceF l).isSome = true → pieceF l = some (p, q) ∧ Bs w' a1 n1 p ∧ (∀ w0, Bs w0 a n l → Bs w0 a2 n2 q) ∧ n2 ≤ c2)) := by
  refine Meets.enter Try.func71 rfl 44 rfl (Nat.le_of_ble_eq_true rfl) ?_
  have E := Ext.refl [] w
  have hl := hb.len
  obtain ⟨nb, r, rfl⟩ : ∃ x q, l = x :: q := by cases l with | nil => simp at hl; omega | cons x q => exact ⟨x, q, rfl⟩
  rw [List.length_cons] at hl
  have hnb := nb.toNat_lt
  obtain ⟨p0, hp0, hc0⟩ := hb.at 0 (by simp)
  refine G.seq ?_
  refine G.region ?_
  refine L.val rfl rfl (R.as rfl) ?_
  refine L.val rfl rfl (R.as rfl) ?_
  refine L.val rfl rfl (R.as rfl) ?_
  refine L.nil ?_
  refine N.seq ?_
  refine G.seq ?_
  refine G.seq ?_
  refine G.region ?_
  refine L.val rfl rfl (R.mv rfl) ?_
  refine L.val rfl rfl (R.idx rfl rfl (by omega) (by omega) p0 hp0) ?_
  refine L.val rfl rfl (R.ld rfl (cell?_ext0' hc0 E)) ?_
  refine L.be 8 rfl (show vb (nb :: r)[0] = vb nb from rfl) ?_
  refine L.val rfl rfl (R.conv rfl _ (wrap_i64 (by omega))) ?_
  refine L.val rfl rfl (R.as rfl) ?_
  refine L.nil ?_
  refine N.seq ?_
  refine G.block ?_
  refine G.seq ?_
  refine G.region ?_
  refine L.val rfl rfl (R.mv rfl) ?_
  refine L.val rfl rfl (R.geq rfl rfl) ?_
  refine L.val rfl rfl (R.mv rfl) ?_
  refine L.caseP 13 rfl (fun hg2_2 => ?_) (fun hg2_2 => ?_)
  · refine L.val rfl rfl (R.mv rfl) ?_
    refine L.val rfl rfl (R.lenS rfl) ?_
    refine L.val rfl rfl (R.geq rfl rfl) ?_
    first | refine L.val rfl rfl (R.pickT rfl rfl) ?_ | refine L.val rfl rfl (R.pickF rfl rfl) ?_
    refine L.val rfl rfl (R.as rfl) ?_
    refine L.nil ?_
    refine N.seq ?_
    refine G.condP rfl (fun h0 => ?_) (fun h0 => ?_)
    · obtain ⟨x, r, rfl⟩ : ∃ x q, r = x :: q := by cases r with | nil => simp at hl; omega | cons x q => exact ⟨x, q, rfl⟩
      rw [List.length_cons] at hl
      have hb1 : Bs w (subA a 1 c 1) 1 [x] := by have := hb.sub 1 c 1 (by omega) (by omega); simpa using this
      refine G.seq ?_
      refine G.quiet (by decide +kernel) rfl ?_
      refine Q.val rfl rfl rfl rfl (fun w1 hE => R.mv rfl) ?_
      refine Q.val rfl rfl rfl rfl (fun w1 hE => R.slLH rfl rfl rfl (by decide) (by decide) (by omega)) ?_
      refine Q.be 19 rfl (show _ = Value.slice (subA a 1 c 1) 1 (c - 1) from rfl) ?_
      refine Q.val rfl rfl rfl rfl (fun w1 hE => R.mv rfl) ?_
      refine Q.val rfl rfl rfl rfl (fun w1 hE => R.sub' rfl rfl (by omega)) ?_
      refine Q.val rfl rfl rfl rfl (fun w1 hE => R.add rfl rfl (by omega)) ?_
      refine Q.be 22 rfl (congrArg (Value.int .i64) (show (nb.toNat : Int) - 128 + 3 = ((nb.toNat - 125 : Nat) : Int) by omega)) ?_
      refine Q.callR (A := IsBs (nb.toNat - 125) (List.replicate (nb.toNat - 125) x)) (IsBs.keep _ _) rfl rfl go77 (fun w1 hE => ⟨_, rfl, (brepeat_ok _ _ x _ _ (hb1.ext0 (E.trans0 hE)) (by omega) (by omega)).mono (fun _ _ h => ⟨h.is, h.ext⟩)⟩) ?_
      refine Q.val rfl rfl rfl rfl (fun w1 hE => R.mv rfl) ?_
      refine Q.val rfl rfl rfl rfl (fun w1 hE => R.slL rfl rfl (by decide) (by show (2 : Int) ≤ _; omega)) ?_
      refine Q.valR (A := IsBs (nb.toNat - 125) (List.replicate (nb.toNat - 125) x)) (IsBs.keep _ _) rfl rfl rfl (fun w1 hE => fun v hv => ⟨v, R.as rfl, hv⟩) ?_
      refine Q.val rfl rfl rfl rfl (fun w1 hE => R.as rfl) ?_
      refine Q.val rfl rfl rfl rfl (fun w1 hE => R.as rfl) ?_
      refine Q.nil (fun w1 e1 => ?_)
      intro v2 h2 v23 _
      obtain ⟨a2, c2, rfl, hc2, hb2⟩ := h2
      replace E := E.trans0 e1
      refine N.seq ?_
      refine G.ret3 rfl rfl rfl rfl ?_
      have hp := pieceF_hi nb (by omega) x r
      exact ⟨E, a2, _, c2, subA a 2 c 1, n - 2, c - 2, _, r, by rw [hp]; rfl, fun _ => ⟨hp, hb2, fun w0 hb0 => by have := hb0.drop 2 c (by omega) hc; simpa using this, by omega⟩⟩
    · refine G.seq ?_
      refine G.region ?_
      refine L.val rfl rfl (R.mv rfl) ?_
      refine L.val rfl rfl (R.lss rfl rfl) ?_
      refine L.val rfl rfl (R.mv rfl) ?_
      refine L.isF 29 rfl (decide_eq_false (by omega)) ?_
      refine L.pass rfl rfl ?_
      refine L.pass rfl rfl ?_
      refine L.pass rfl rfl ?_
      refine L.pass rfl rfl ?_
      refine L.pass rfl rfl ?_
      first | refine L.val rfl rfl (R.pickT rfl rfl) ?_ | refine L.val rfl rfl (R.pickF rfl rfl) ?_
      refine L.val rfl rfl (R.as rfl) ?_
      refine L.nil ?_
      refine N.seq ?_
      refine G.condF rfl ?_
      refine G.skip ?_
      refine N.block ?_
      refine N.seq ?_
      refine G.seq ?_
      refine G.region ?_
      refine L.val rfl rfl (R.as rfl) ?_
      refine L.val rfl rfl (R.as rfl) ?_
      refine L.val rfl rfl (R.as rfl) ?_
      refine L.nil ?_
      refine N.seq ?_
      refine G.ret3 rfl rfl rfl rfl ?_
      obtain rfl : r = [] := List.eq_nil_of_length_eq_zero (by omega)
      have hp := pieceF_hi0 nb (by omega)
      exact ⟨E, none, 0, 0, none, 0, 0, [], [], by rw [hp]; rfl, fun h => by rw [hp] at h; cases h⟩
  · refine L.pass rfl rfl ?_
    refine L.pass rfl rfl ?_
    refine L.pass rfl rfl ?_
    first | refine L.val rfl rfl (R.pickT rfl rfl) ?_ | refine L.val rfl rfl (R.pickF rfl rfl) ?_
    refine L.val rfl rfl (R.as rfl) ?_
    refine L.nil ?_
    refine N.seq ?_
    refine G.condF rfl ?_
    refine G.seq ?_
    refine G.region ?_
    refine L.val rfl rfl (R.mv rfl) ?_
    refine L.val rfl rfl (R.lss rfl rfl) ?_
    refine L.val rfl rfl (R.mv rfl) ?_
    refine L.isT 29 rfl (decide_eq_true (by omega)) ?_
    refine L.val rfl rfl (R.mv rfl) ?_
    refine L.val rfl rfl (R.lenS rfl) ?_
    refine L.val rfl rfl (R.mv rfl) ?_
    refine L.val rfl rfl (R.add rfl rfl (by omega)) ?_
    refine L.val rfl rfl (R.geq rfl rfl) ?_
    first | refine L.val rfl rfl (R.pickT rfl rfl) ?_ | refine L.val rfl rfl (R.pickF rfl rfl) ?_
    refine L.val rfl rfl (R.as rfl) ?_
    refine L.nil ?_
    refine N.seq ?_
    refine G.condP rfl (fun h1 => ?_) (fun h1 => ?_)
    · refine G.seq ?_
      refine G.quiet (by decide +kernel) rfl ?_
      refine Q.val rfl rfl rfl rfl (fun w1 hE => R.mv rfl) ?_
      refine Q.val rfl rfl rfl rfl (fun w1 hE => R.mv rfl) ?_
      refine Q.val rfl rfl rfl rfl (fun w1 hE => R.add rfl rfl (by omega)) ?_
      refine Q.val rfl rfl rfl rfl (fun w1 hE => R.slLH rfl rfl rfl (by decide) (by omega) (by omega)) ?_
      refine Q.val rfl rfl rfl rfl (fun w1 hE => R.mv rfl) ?_
      refine Q.val rfl rfl rfl rfl (fun w1 hE => R.mv rfl) ?_
      refine Q.val rfl rfl rfl rfl (fun w1 hE => R.add rfl rfl (by omega)) ?_
      refine Q.val rfl rfl rfl rfl (fun w1 hE => R.slL rfl rfl (by omega) (by omega)) ?_
      refine Q.val rfl rfl rfl rfl (fun w1 hE => R.as rfl) ?_
      refine Q.val rfl rfl rfl rfl (fun w1 hE => R.as rfl) ?_
      refine Q.val rfl rfl rfl rfl (fun w1 hE => R.as rfl) ?_
      refine Q.nil (fun w1 e1 => ?_)
      replace E := E.trans0 e1
      refine N.seq ?_
      refine G.ret3 rfl rfl rfl rfl ?_
      have hp := pieceF_lo nb (by omega) r
      rw [if_pos (by omega)] at hp
      have e1 : ((nb.toNat : Int) + 2).toNat = nb.toNat + 2 := by omega
      refine ⟨E, subA a 1 c 1, nb.toNat + 1, c - 1, subA a (nb.toNat + 2) c 1, n - (nb.toNat + 2), c - (nb.toNat + 2), _, _, by rw [hp, e1]; rfl, fun _ => ⟨hp, ?_, ?_, by omega⟩⟩
      · have := hb.sub 1 c (nb.toNat + 1) (by omega) (by omega)
        exact (by simpa using this : Bs w (subA a 1 c 1) (nb.toNat + 1) (r.take (nb.toNat + 1))).ext0 E
      · intro w0 hb0
        have := hb0.drop (nb.toNat + 2) c (by omega) hc
        simpa using this
    · refine G.skip ?_
      refine N.block ?_
      refine N.seq ?_
      refine G.seq ?_
      refine G.region ?_
      refine L.val rfl rfl (R.as rfl) ?_
      refine L.val rfl rfl (R.as rfl) ?_
      refine L.val rfl rfl (R.as rfl) ?_
      refine L.nil ?_
      refine N.seq ?_
      refine G.ret3 rfl rfl rfl rfl ?_
      have hp := pieceF_lo nb (by omega) r
      rw [if_neg (by omega)] at hp
      exact ⟨E, none, 0, 0, none, 0, 0, [], [], by rw [hp]; rfl, fun h => by rw [hp] at h; cases h⟩

theorem grow_ok (a : Option Addr) (n c : Nat) (l : List UInt8) (most : Int) (w : World) (hb : Bs w a n l) (hc : n ≤ c) (hn : n ≤ 1000000) : Meets Try.prog 59 [.slice a n c, .int .i64 most] w (fun v w' => ∃ a1 c1 M', v = .tuple #[.slice a1 (growF most l).1.length c1, .int .i64 (growF most l).2] ∧ Ext [] w w' ∧ Own w' 5 1 a1 (growF most l).1.length c1 (vbs (growF most l).1) M' ∧ ∀ g ∈ M', w.heap.size ≤ g) := by
  refine Meets.enter Try.func59 rfl 36 rfl (Nat.le_of_ble_eq_true rfl) ?_
  have E := Ext.refl [] w
  have hl := hb.len
  refine G.seq ?_
  refine G.region ?_
  refine L.val rfl rfl (R.as rfl) ?_
  refine L.val rfl rfl (R.as rfl) ?_
  refine L.nil ?_
  refine N.seq ?_
  refine G.seq ?_
  refine G.region ?_
  refine L.val rfl rfl (R.as rfl) ?_
  refine L.nil ?_
  refine N.seq ?_
  refine G.seq ?_
  refine G.block ?_
  refine G.loop (X := ShSt) (fun x => [(0, .slice x.a0 x.n0 x.c0), (1, .int .i64 most), (6, .slice x.a1 x.n1 x.c1)]) (fun x w' => Bs w x.a0 x.n0 x.r ∧ (x.n0 ≤ x.c0 ∧ x.n0 ≤ n ∧ x.n1 ≤ 130 * (n - x.n0)) ∧ Own w' 5 1 x.a1 x.n1 x.c1 (vbs x.acc) x.M ∧ (∀ g ∈ x.M, w.heap.size ≤ g) ∧ growN most.toNat x.r.length x.acc x.r = growF most l ∧ Ext [] w w') (fun x => x.r.length) (⟨a, n, c, l, none, 0, 0, [], []⟩) (Sub.cons rfl (Sub.cons rfl (Sub.cons rfl (Sub.nil _)))) ⟨hb, ⟨hc, Nat.le_refl _, Nat.zero_le _⟩, Own.nil _ _ _, by simp, rfl, Ext.refl _ _⟩ ?_
  rintro ⟨a0, n0, c0, r, a1, n1, c1, acc, M⟩ w1 ⟨hbr, ⟨hcr, hcn, hn1⟩, o1, hM, hacc, E⟩
  dsimp only at hbr hcr hcn hn1 o1 hM hacc
  refine G.sub [(0, .slice a0 n0 c0), (1, .int .i64 most), (6, .slice a1 n1 c1)] (Sub.cons rfl (Sub.cons rfl (Sub.cons rfl (Sub.nil _)))) ?_
  have hrl := hbr.len
  have ho1 := o1.len
  rw [vbs_length, Nat.mul_one] at ho1
  refine G.seq ?_
  refine G.seq ?_
  refine G.region ?_
  refine L.val rfl rfl (R.mv rfl) ?_
  refine L.val rfl rfl (R.lenS rfl) ?_
  refine L.val rfl rfl (R.gtr rfl rfl) ?_
  refine L.nil ?_
  refine N.seq ?_
  refine G.condP rfl (fun h0 => ?_) (fun h0 => ?_)
  · refine G.skip ?_
    refine N.seq ?_
    refine G.block ?_
    refine G.seq ?_
    refine G.region ?_
    refine L.val rfl rfl (R.mv rfl) ?_
    refine L.callF rfl rfl rfl go71 (piece_ok _ _ _ _ _ (hbr.ext0 E) hcr (by omega) (by omega)) ?_
    rintro _ w2 ⟨e2, a3, n3, c3, a4, n4, c4, p, q, rfl, hpp⟩
    have o1 := o1.ext0 e2
    have E1 := E
    replace E := E.trans0 e2
    refine L.val rfl rfl (R.mv rfl) ?_
    refine L.val rfl rfl (R.ext rfl rfl) ?_
    refine L.val rfl rfl (R.ext rfl rfl) ?_
    refine L.val rfl rfl (R.ext rfl rfl) ?_
    refine L.val rfl rfl (R.as rfl) ?_
    refine L.val rfl rfl (R.as rfl) ?_
    refine L.val rfl rfl (R.as rfl) ?_
    refine L.nil ?_
    refine N.seq ?_
    refine G.seq ?_
    refine G.block ?_
    refine G.seq ?_
    refine G.region ?_
    refine L.val rfl rfl (R.mv rfl) ?_
    refine L.val rfl rfl (R.not rfl) ?_
    refine L.val rfl rfl (R.as rfl) ?_
    refine L.nil ?_
    refine N.seq ?_
    refine G.condB rfl (fun h1 => ?_) (fun h1 => ?_)
    · have hpn : pieceF r = none := by cases h : pieceF r with | none => rfl | some x => rw [h] at h1; simp at h1
      have hg0 := growN_bad most.toNat r.length acc r (by intro e; subst e; simp at hrl; omega) (Nat.le_refl _) hpn
      rw [hg0] at hacc
      refine G.seq ?_
      refine G.region ?_
      refine L.val rfl rfl (R.as rfl) ?_
      refine L.val rfl rfl (R.as rfl) ?_
      refine L.nil ?_
      refine N.seq ?_
      refine G.ret2 rfl rfl rfl ?_
      rw [← hacc]; exact ⟨none, 0, [], rfl, E, Own.nil _ _ _, by simp⟩
    · have hps : (pieceF r).isSome = true := by cases h : pieceF r with | none => rw [h] at h1; simp at h1 | some x => rfl
      obtain ⟨hpc, hb3, hb4, hc4⟩ := hpp hps
      have hpz := pieceF_size hpc
      have hpl := pieceF_less hpc
      have hl3 := hb3.len
      replace hb4 : Bs w a4 n4 q := hb4 w hbr
      have hl4 := hb4.len
      refine G.seq ?_
      refine G.region ?_
      refine L.val rfl rfl (R.mv rfl) ?_
      refine L.val rfl rfl (R.lenS rfl) ?_
      refine L.val rfl rfl (R.mv rfl) ?_
      refine L.val rfl rfl (R.lenS rfl) ?_
      refine L.val rfl rfl (R.add rfl rfl (by omega)) ?_
      refine L.val rfl rfl (R.mv rfl) ?_
      refine L.val rfl rfl (R.max rfl rfl ((most.toNat : Nat) : Int) (by split <;> omega)) ?_
      refine L.val rfl rfl (R.gtr rfl rfl) ?_
      refine L.val rfl rfl (R.as rfl) ?_
      refine L.nil ?_
      refine N.seq ?_
      refine G.condP rfl (fun h2 => ?_) (fun h2 => ?_)
      · rw [growN_step _ _ _ _ _ _ (Nat.le_refl _) hpc, if_pos (by omega)] at hacc
        refine G.seq ?_
        refine G.region ?_
        refine L.val rfl rfl (R.as rfl) ?_
        refine L.val rfl rfl (R.as rfl) ?_
        refine L.nil ?_
        refine N.seq ?_
        refine G.ret2 rfl rfl rfl ?_
        rw [← hacc]; exact ⟨none, 0, [], rfl, E, Own.nil _ _ _, by simp⟩
      · refine G.skip ?_
        refine N.block ?_
        refine N.seq ?_
        refine G.region ?_
        refine L.val rfl rfl (R.mv rfl) ?_
        refine L.val rfl rfl (R.mv rfl) ?_
        refine L.do rfl rfl (R.app rfl rfl o1 hb3.cells (by rw [vbs_length, Nat.mul_one]; exact hb3.len.symm) (vbs_one _) (by simp [maxLen]; omega) (by omega)) ?_
        rintro _ w3 ⟨a5, c5, M5, rfl, e3, hM5, o5⟩
        have hE1 := E.size
        have E : Ext [] w w3 := E.trans e3 (by simp) (fun g hg => .inr (hM g hg))
        refine L.val rfl rfl (R.mv rfl) ?_
        refine L.val rfl rfl (R.as rfl) ?_
        refine L.val rfl rfl (R.as rfl) ?_
        refine L.nil ?_
        refine N.block ?_
        exact N.again (X := ShSt) ⟨a4, n4, c4, q, a5, n1 + n3, c5, acc ++ p, M5⟩ (by show q.length < r.length; omega) (Sub.cons rfl (Sub.cons rfl (Sub.cons rfl (Sub.nil _)))) ⟨hb4, ⟨hc4, by show n4 ≤ n; omega, by show n1 + n3 ≤ 130 * (n - n4); omega⟩, by rw [vbs_append]; exact o5, fun g hg => (hM5 g hg).elim (hM g) (Nat.le_trans hE1), by show growN _ _ (acc ++ p) q = _; rw [← hacc, growN_step _ _ _ _ _ _ (Nat.le_refl _) hpc, if_neg (by omega)], E⟩
  · refine G.exit _ rfl ?_
    refine N.seq ?_
    refine G.seq ?_
    refine G.region ?_
    refine L.val rfl rfl (R.mv rfl) ?_
    refine L.val rfl rfl (R.as rfl) ?_
    refine L.val rfl rfl (R.as rfl) ?_
    refine L.nil ?_
    refine N.seq ?_
    refine G.ret2 rfl rfl rfl ?_
    obtain rfl : r = [] := List.eq_nil_of_length_eq_zero (by omega)
    rw [growN_nil] at hacc
    rw [← hacc]
    subst ho1
    exact ⟨a1, c1, M, rfl, E, o1, hM⟩

theorem laid_ok (ao : Option Addr) (no co : Nat) (lo : List UInt8) (a : Option Addr) (n c : Nat) (l : List UInt8) (w : World) (hbo : Bs w ao no lo) (hb : Bs w a n l) (hno : no ≤ 1000000) (hc : n ≤ c) (hn : n ≤ 1000000) : Meets Try.prog 50 [.slice ao no co, .slice a n c] w (Cloned w 5 1 n (vbs (laidF lo l))) := by
  refine Meets.enter Try.func50 rfl 29 rfl (Nat.le_of_ble_eq_true rfl) ?_
  have E := Ext.refl [] w
  have hl := hb.len
  have hlo := hbo.len
  refine G.seq ?_
  refine G.region ?_
  refine L.val rfl rfl (R.as rfl) ?_
  refine L.nil ?_
  refine N.seq ?_
  refine G.seq ?_
  refine G.region ?_
  refine L.val rfl rfl (R.mv rfl) ?_
  refine L.callF rfl rfl rfl go48 (bclone_ok _ _ _ _ _ hb (by omega)) ?_
  rintro _ w1 ⟨a1, c1, M1, rfl, e1, o1, hM1⟩
  refine L.val rfl rfl (R.as rfl) ?_
  refine L.nil ?_
  refine N.seq ?_
  refine G.seq ?_
  refine G.seq ?_
  refine G.region ?_
  refine L.val rfl rfl (R.mv rfl) ?_
  refine L.val rfl rfl (R.lenS rfl) ?_
  refine L.val rfl rfl (R.mv rfl) ?_
  refine L.val rfl rfl (R.lenS rfl) ?_
  refine L.val rfl rfl (R.min rfl rfl ((min no n : Nat) : Int) (by split <;> omega)) ?_
  refine L.val rfl rfl (R.mv rfl) ?_
  refine L.nil ?_
  refine N.seq ?_
  refine G.block ?_
  refine G.loop (X := Nat) (fun i => [(0, .slice ao no co), (5, .slice a1 n c1), (13, .int .i64 ((min no n : Nat) : Int)), (14, .int .i64 (i : Int))]) (fun i w' => i ≤ min no n ∧ Own w' 5 1 a1 n c1 (vbs ((laidF lo l).take i ++ l.drop i)) M1 ∧ Ext [] w w') (fun i => n - i) (0) (Sub.cons rfl (Sub.cons rfl (Sub.cons rfl (Sub.cons rfl (Sub.nil _))))) ⟨Nat.zero_le _, by simpa using o1, e1⟩ ?_
  rintro i w2 ⟨hi, o2, E⟩
  refine G.seq ?_
  refine G.region ?_
  refine L.val rfl rfl (R.lss rfl rfl) ?_
  refine L.nil ?_
  refine N.seq ?_
  refine G.seq ?_
  refine G.condP rfl (fun h0 => ?_) (fun h0 => ?_)
  · obtain ⟨g, cur, ha, hM, hB, hlt, hset⟩ := o2.set i (by omega)
    obtain ⟨p, hp, hcl⟩ := (Bs.of_own o2).at i (by simp [laidF_length]; omega)
    rw [ha] at hp
    cases hp
    have hgi : ((laidF lo l).take i ++ l.drop i)[i]? = some l[i] := by rw [List.getElem?_append_right (by rw [List.length_take]; omega), List.getElem?_drop, List.length_take, laidF_length, Nat.min_eq_left (by omega), Nat.sub_self, Nat.add_zero]; exact List.getElem?_eq_getElem (by omega)
    replace hcl : w2.cell? ⟨g, i, none⟩ = some (vb l[i]) := by rw [Go.Addr.add_lit, Nat.zero_add, Nat.mul_one] at hcl; rw [hcl]; have := (List.getElem?_eq_some_iff.1 hgi).2; rw [this]
    obtain ⟨po, hpo, hco⟩ := hbo.at i (by omega)
    refine G.skip ?_
    refine N.seq ?_
    refine G.seq ?_
    refine G.block ?_
    refine G.seq ?_
    refine G.region ?_
    refine L.val rfl rfl (R.mv rfl) ?_
    refine L.val rfl rfl (R.as rfl) ?_
    refine L.nil ?_
    refine N.seq ?_
    refine G.staged [10] [.blocks ([g])] [Ext [] w2, fun w' => Ext [g] w2 w' ∧ Blk w' g (cur.setIfInBounds i (vb (l[i] ^^^ lo[i]))) 5 (0, 0)] [] (by decide +kernel) (by decide +kernel) rfl rfl rfl (fun _ h => h) ?_
    refine Z.val rfl rfl rfl rfl rfl (fun w3 => R.mv rfl) ?_
    refine Z.val rfl rfl rfl rfl rfl (fun w3 => R.mv rfl) ?_
    refine Z.val rfl rfl rfl rfl rfl (fun w3 => R.idxO rfl rfl (by omega) (by omega) ha i (by omega)) ?_
    refine Z.read 0 (by decide +kernel) rfl rfl rfl rfl rfl rfl (fun w3 hJ => R.ld rfl (cell?_ext0' hcl hJ)) ?_
    refine Z.val rfl rfl rfl rfl rfl (fun w3 => R.mv rfl) ?_
    refine Z.val rfl rfl rfl rfl rfl (fun w3 => R.mv rfl) ?_
    refine Z.val rfl rfl rfl rfl rfl (fun w3 => R.idx rfl rfl (by omega) (by omega) po hpo) ?_
    refine Z.read 0 (by decide +kernel) rfl rfl rfl rfl rfl rfl (fun w3 hJ => R.ld rfl (cell?_ext0' hco (E.trans0 hJ))) ?_
    refine Z.val rfl rfl rfl rfl rfl (fun w3 => R.xorW rfl rfl _ (xorI_u8 _ _)) ?_
    refine Z.val rfl rfl rfl rfl rfl (fun w3 => R.idxO rfl rfl (by omega) (by omega) ha i (by omega)) ?_
    refine Z.set 0 (by decide +kernel) rfl rfl rfl rfl rfl rfl (fun w3 hJ => (R.st rfl rfl (hB.ext0 hJ) hlt rfl).mono (fun _ h => ⟨h.1, h.1.after hJ, h.2.2⟩)) ?_
    refine Z.nil rfl rfl (fun w3 hJ => ?_)
    have o3 := hset _ _ hJ.1 hJ.2
    rw [vbs_set, laidF_steps lo l i (by omega) (by omega)] at o3
    have E : Ext [] w w3 := E.trans hJ.1 (by simp) (by intro x hx; obtain rfl := List.mem_singleton.1 hx; exact .inr (hM1 x (by simp [hM])))
    refine N.block ?_
    refine N.seq ?_
    refine G.region ?_
    refine L.val rfl rfl (R.add rfl rfl (by omega)) ?_
    refine L.val rfl rfl (R.mv rfl) ?_
    refine L.nil ?_
    exact N.again (i + 1) (by omega) (Sub.cons rfl (Sub.cons rfl (Sub.cons rfl (Sub.cons rfl (Sub.nil _))))) ⟨by omega, o3, E⟩
  · refine G.exit _ rfl ?_
    refine N.seq ?_
    refine G.seq ?_
    refine G.region ?_
    refine L.val rfl rfl (R.mv rfl) ?_
    refine L.val rfl rfl (R.as rfl) ?_
    refine L.nil ?_
    refine N.seq ?_
    refine G.ret1 rfl rfl ?_
    rw [laidF_done lo l i (by omega)] at o2
    exact ⟨a1, c1, M1, rfl, E, o2, hM1⟩

theorem delta_ok (ao : Option Addr) (no co : Nat) (lo : List UInt8) (a : Option Addr) (n c : Nat) (l : List UInt8) (w : World) (hbo : Bs w ao no lo) (hb : Bs w a n l) (hno : no ≤ 1000000) (hc : n ≤ c) (hn : n ≤ 1000000) : Meets Try.prog 29 [.slice ao no co, .slice a n c] w (Cloned w 5 1 (shrinkF (laidF lo l)).length (vbs (shrinkF (laidF lo l)))) := by
  refine Meets.enter Try.func29 rfl 9 rfl (Nat.le_of_ble_eq_true rfl) ?_
  refine G.seq ?_
  refine G.region ?_
  refine L.val rfl rfl (R.as rfl) ?_
  refine L.nil ?_
  refine N.seq ?_
  refine G.seq ?_
  refine G.region ?_
  refine L.val rfl rfl (R.mv rfl) ?_
  refine L.val rfl rfl (R.mv rfl) ?_
  refine L.callF rfl rfl rfl go50 (laid_ok _ _ _ _ _ _ _ _ _ hbo hb hno hc hn) ?_
  rintro _ w1 ⟨a1, c1, M1, rfl, e1, o1, hM1⟩
  refine L.callF rfl rfl rfl go49 (shrink_ok _ _ _ _ _ (Bs.of_own o1) o1.le hn) ?_
  rintro _ w2 ⟨a2, c2, M2, rfl, e2, o2, hM2⟩
  refine L.val rfl rfl (R.as rfl) ?_
  refine L.nil ?_
  refine N.seq ?_
  refine G.ret1 rfl rfl ?_
  exact ⟨a2, c2, M2, rfl, e1.trans0 e2, o2, fun g hg => Nat.le_trans e1.size (hM2 g hg)⟩

theorem reflaid_ok (ao : Option Addr) (no co : Nat) (lo l : List UInt8) (w : World) (hbo : Bs w ao no lo) (hn : l.length ≤ 1000000) : Meets Try.prog 39 [.slice ao no co, .string (str l)] w (fun v w' => ∃ a1 c1, v = .slice a1 l.length c1 ∧ Ext [] w w' ∧ Bs w' a1 l.length (laidF lo l) ∧ l.length ≤ c1) := by
  refine Meets.enter Try.func39 rfl 32 rfl (Nat.le_of_ble_eq_true rfl) ?_
  have E := Ext.refl [] w
  have hlo := hbo.len
  refine G.seq ?_
  refine G.region ?_
  refine L.val rfl rfl (R.as rfl) ?_
  refine L.nil ?_
  refine N.seq ?_
  refine G.seq ?_
  refine G.region ?_
  refine L.val rfl rfl (R.mv rfl) ?_
  refine L.do rfl rfl (R.strBytesO rfl) ?_
  rintro _ w1 ⟨b8, cs, fz, rfl, hb8, hs8, e1, B8, hf8, hl8, ht8⟩
  obtain ⟨z, hz⟩ : ∃ z, z = cs.size := ⟨_, rfl⟩
  rw [← hz] at hf8 hl8
  refine L.be 8 rfl (show _ = Value.slice (some ⟨b8, 0, none⟩) l.length z by rw [hz]) ?_
  replace E := E.trans0 e1
  refine L.val rfl rfl (R.as rfl) ?_
  refine L.nil ?_
  refine N.seq ?_
  refine G.seq ?_
  refine G.seq ?_
  refine G.region ?_
  refine L.val rfl rfl (R.mv rfl) ?_
  refine L.val rfl rfl (R.lenS rfl) ?_
  refine L.val rfl rfl (R.mv rfl) ?_
  refine L.nil ?_
  refine N.seq ?_
  refine G.block ?_
  refine G.loop (X := Nat) (fun i => [(0, .slice ao no co), (5, .slice (some ⟨b8, 0, none⟩) l.length z), (10, .int .i64 (l.length : Int)), (11, .int .i64 (i : Int))]) (fun i w' => i ≤ l.length ∧ (∃ cur, Blk w' b8 cur 5 fz ∧ cur.size = z ∧ cur.toList.take l.length = vbs ((laidF lo l).take (i) ++ l.drop (i))) ∧ Ext [] w w') (fun i => l.length - i) (0) (Sub.cons rfl (Sub.cons rfl (Sub.cons rfl (Sub.cons rfl (Sub.nil _))))) ⟨Nat.zero_le _, ⟨cs, B8, hz.symm, by simpa using ht8⟩, E⟩ ?_
  rintro i w2 ⟨hi, ⟨cur, B, hcz, hct⟩, E⟩
  refine G.seq ?_
  refine G.region ?_
  refine L.val rfl rfl (R.lss rfl rfl) ?_
  refine L.nil ?_
  refine N.seq ?_
  refine G.seq ?_
  refine G.condP rfl (fun h0 => ?_) (fun h0 => ?_)
  · refine G.skip ?_
    refine N.seq ?_
    refine G.seq ?_
    refine G.block ?_
    refine G.seq ?_
    refine G.region ?_
    refine L.val rfl rfl (R.mv rfl) ?_
    refine L.val rfl rfl (R.as rfl) ?_
    refine L.nil ?_
    refine N.seq ?_
    refine G.seq ?_
    refine G.region ?_
    refine L.val rfl rfl (R.mv rfl) ?_
    refine L.val rfl rfl (R.mv rfl) ?_
    refine L.val rfl rfl (R.lenS rfl) ?_
    refine L.val rfl rfl (R.lss rfl rfl) ?_
    refine L.nil ?_
    refine N.seq ?_
    refine G.condP rfl (fun h1 => ?_) (fun h1 => ?_)
    · have hgi : ((laidF lo l).take i ++ l.drop i)[i]? = some l[i] := by rw [List.getElem?_append_right (by rw [List.length_take]; omega), List.getElem?_drop, List.length_take, laidF_length, Nat.min_eq_left (by omega), Nat.sub_self, Nat.add_zero]; exact List.getElem?_eq_getElem (by omega)
      have hci : cur[i]? = some (vb l[i]) := by have h := vbs_get ((laidF lo l).take i ++ l.drop i) i; rw [hgi, ← hct, List.getElem?_take, if_pos (by omega)] at h; simpa using h
      have hcl : w2.cell? ⟨b8, i, none⟩ = some (vb l[i]) := (B.cell i).trans hci
      obtain ⟨po, hpo, hco⟩ := hbo.at i (by omega)
      refine G.staged [12] [.blocks ([b8])] [Ext [] w2, fun w' => Ext [b8] w2 w' ∧ Blk w' b8 (cur.setIfInBounds i (vb (l[i] ^^^ lo[i]))) 5 fz] [] (by decide +kernel) (by decide +kernel) rfl rfl rfl (fun _ h => h) ?_
      refine Z.val rfl rfl rfl rfl rfl (fun w3 => R.mv rfl) ?_
      refine Z.val rfl rfl rfl rfl rfl (fun w3 => R.mv rfl) ?_
      refine Z.val rfl rfl rfl rfl rfl (fun w3 => R.mv rfl) ?_
      refine Z.val rfl rfl rfl rfl rfl (fun w3 => R.mv rfl) ?_
      refine Z.val rfl rfl rfl rfl rfl (fun w3 => R.idxO rfl rfl (by omega) (by omega) rfl i (by omega)) ?_
      refine Z.read 0 (by decide +kernel) rfl rfl rfl rfl rfl rfl (fun w3 hJ => R.ld rfl (cell?_ext0' hcl hJ)) ?_
      refine Z.val rfl rfl rfl rfl rfl (fun w3 => R.mv rfl) ?_
      refine Z.val rfl rfl rfl rfl rfl (fun w3 => R.mv rfl) ?_
      refine Z.val rfl rfl rfl rfl rfl (fun w3 => R.idx rfl rfl (by omega) (by omega) po hpo) ?_
      refine Z.read 0 (by decide +kernel) rfl rfl rfl rfl rfl rfl (fun w3 hJ => R.ld rfl (cell?_ext0' hco (E.trans0 hJ))) ?_
      refine Z.val rfl rfl rfl rfl rfl (fun w3 => R.xorW rfl rfl _ (xorI_u8 _ _)) ?_
      refine Z.val rfl rfl rfl rfl rfl (fun w3 => R.idxO rfl rfl (by omega) (by omega) rfl i (by omega)) ?_
      refine Z.set 0 (by decide +kernel) rfl rfl rfl rfl rfl rfl (fun w3 hJ => (R.stF rfl rfl (B.ext0 hJ) (by omega) (by omega) rfl).mono (fun _ h => ⟨h.1, h.1.after hJ, h.2.2⟩)) ?_
      refine Z.nil rfl rfl (fun w3 hJ => ?_)
      have B3 := hJ.2
      have ht3 : (cur.setIfInBounds i (vb (l[i] ^^^ lo[i]))).toList.take l.length = vbs ((laidF lo l).take (i + 1) ++ l.drop (i + 1)) := by rw [Array.toList_setIfInBounds, List.take_set, hct, vbs_set, laidF_steps lo l i (by omega) (by omega)]
      have E : Ext [] w w3 := E.trans hJ.1 (by simp) (by intro x hx; obtain rfl := List.mem_singleton.1 hx; exact .inr (by omega))
      refine N.block ?_
      refine N.seq ?_
      refine G.region ?_
      refine L.val rfl rfl (R.add rfl rfl (by omega)) ?_
      refine L.val rfl rfl (R.mv rfl) ?_
      refine L.nil ?_
      exact N.again (i + 1) (by omega) (Sub.cons rfl (Sub.cons rfl (Sub.cons rfl (Sub.cons rfl (Sub.nil _))))) ⟨by omega, ⟨_, B3, by simp [hcz], ht3⟩, E⟩
    · refine G.skip ?_
      refine N.block ?_
      refine N.seq ?_
      refine G.region ?_
      refine L.val rfl rfl (R.add rfl rfl (by omega)) ?_
      refine L.val rfl rfl (R.mv rfl) ?_
      refine L.nil ?_
      exact N.again (i + 1) (by omega) (Sub.cons rfl (Sub.cons rfl (Sub.cons rfl (Sub.cons rfl (Sub.nil _))))) ⟨by omega, ⟨cur, B, hcz, by rw [laidF_done lo l (i + 1) (.inl (by omega)), ← laidF_done lo l i (.inl (by omega))]; exact hct⟩, E⟩
  · refine G.exit _ rfl ?_
    refine N.seq ?_
    refine G.seq ?_
    refine G.region ?_
    refine L.val rfl rfl (R.mv rfl) ?_
    refine L.val rfl rfl (R.as rfl) ?_
    refine L.nil ?_
    refine N.seq ?_
    refine G.ret1 rfl rfl ?_
    rw [laidF_done lo l i (.inr (by omega))] at hct
    have hcells := Cells.of_blk B 0 _ (take_get hct)
    exact ⟨_, z, rfl, E, ⟨hcells, (laidF_length lo l).symm⟩, hl8⟩

structure ShRf where
  acc : List UInt8
  a1 : Option Addr
  n1 : Nat
  c1 : Nat
  rw : List UInt8
  M : List Nat

end Go.Proofs.Yteaihincmfbblaa
/-
  The structs of plain fields, to be compared.
-/
set_option linter.unusedVariables false
set_option maxRecDepth 100000
namespace Go.Proofs.Yteaihincmfbblaa
open Go Brv
instance : TyEqS Try.prog 87 [.s, .i .i64] := ⟨by kernel_rfl, by kernel_rfl, by kernel_rfl, by kernel_rfl⟩ -- breviaryref03.Scan
end Go.Proofs.Yteaihincmfbblaa
/-
  The walks of package digest.
-/
set_option linter.unusedVariables false
set_option linter.unusedSimpArgs false
set_option maxRecDepth 4000
namespace Go.Proofs.Yteaihincmfbblaa
open Go Brv
def sumS (h : Int) (c : UInt8) : Int := IntKind.u64.wrap (xorI .u64 h (c.toNat : Int) * 1099511628211)
/-- The sum of bytes. -/
def sumI (l : List UInt8) : Int := l.foldl sumS 14695981039346656037
theorem sumI_succ {l : List UInt8} {i : Nat} {x : UInt8} (h : l[i]? = some x) : sumI (l.take (i + 1)) = sumS (sumI (l.take i)) x := by
  unfold sumI
  rw [List.take_add_one, h, List.foldl_append]; rfl
theorem u64_in (z : Int) : 0 ≤ IntKind.u64.wrap z ∧ IntKind.u64.wrap z ≤ 18446744073709551615 := by
  simp only [IntKind.wrap, IntKind.bits, IntKind.signed]
  simp
  omega
theorem sumI_in (l : List UInt8) : 0 ≤ sumI l ∧ sumI l ≤ 18446744073709551615 := by
  have key : ∀ (l : List UInt8) (h : Int), (0 ≤ h ∧ h ≤ 18446744073709551615) → 0 ≤ l.foldl sumS h ∧ l.foldl sumS h ≤ 18446744073709551615 := by
    intro l
    induction l with
    | nil => exact fun h hh => hh
    | cons c l ih => exact fun h _ => ih _ (u64_in _)
  exact key l _ (by omega)
theorem bs_pt {w : World} {a : Option Addr} {n i : Nat} {l : List UInt8} {x : UInt8} (h : Bs w a n l) (hx : l[i]? = some x) : ∃ q, a = some q :=
  let ⟨q, hq, _⟩ := h.cells i (.int .u8 (x.toNat : Int)) (by rw [vbs, List.getElem?_map, hx]; rfl); ⟨q, hq⟩
theorem bs_ld {w : World} {a : Option Addr} {n i : Nat} {l : List UInt8} {x : UInt8} {q : Addr} (h : Bs w a n l) (hq : a = some q) (hx : l[i]? = some x) : w.cell? (q.add ((i : Int).toNat * 1)) = some (.int .u8 (x.toNat : Int)) := by
  obtain ⟨p, hp, hc⟩ := h.cells i (.int .u8 (x.toNat : Int)) (by rw [vbs, List.getElem?_map, hx]; rfl)
  rw [hq] at hp; cases hp
  rw [Int.toNat_natCast, Nat.mul_one]; exact hc
theorem byte_u64 (x : UInt8) : IntKind.u64.wrap (x.toNat : Int) = (x.toNat : Int) := wrap_u64 (by have := x.toNat_lt; omega)

theorem dsum_ok (a : Option Addr) (n c : Nat) (l : List UInt8) (hn : n ≤ 140737488351232) : SpecS Try.prog 65 [.slice a n c] [bs a n l] (fun v H' => v = .int .u64 (sumI l) ∧ H' = []) := by
  refine SpecS.enter Try.func65 rfl 19 rfl (Nat.le_of_ble_eq_true rfl) (fun o => ?_)
  refine SG.fact (fun w9 F9 S9 s => (s.bs (by repeat (first | exact Sel.keep | exact Sel.here | apply Sel.there))).len) (fun hf9 => ?_)
  have hln := hf9; clear hf9
  refine SG.seq ?_
  refine SG.region ?_
  refine SL.val rfl rfl (fun w9 F9 S9 s => R.as rfl) ?_
  refine SL.nil ?_
  refine SN.seq ?_
  refine SG.seq ?_
  refine SG.region ?_
  refine SL.val rfl rfl (fun w9 F9 S9 s => R.as rfl) ?_
  refine SL.nil ?_
  refine SN.seq ?_
  refine SG.seq ?_
  refine SG.seq ?_
  refine SG.region ?_
  refine SL.val rfl rfl (fun w9 F9 S9 s => R.mv rfl) ?_
  refine SL.val rfl rfl (fun w9 F9 S9 s => R.lenS rfl) ?_
  refine SL.val rfl rfl (fun w9 F9 S9 s => R.mv rfl) ?_
  refine SL.nil ?_
  refine SN.seq ?_
  refine SG.block ?_
  refine SG.loop (X := Nat) (fun i => [(3, .int .u64 (sumI (l.take i))), (6, .slice a n c), (7, .int .i64 (n : Int)), (8, .int .i64 (i : Int))]) (fun i => [bs a n l]) (fun i => i ≤ n) (fun i => n - i) (0) (Sub.cons rfl (Sub.cons rfl (Sub.cons rfl (Sub.cons rfl (Sub.nil _))))) ((Imp.sels (by repeat (first | exact Sels.nil | apply Sels.cons | exact Sel.keep | exact Sel.here | apply Sel.there)))) (Nat.zero_le _) ?_
  intro i hi
  show SG _ _ _ _ _ [(3, .int .u64 (sumI (l.take i))), (6, .slice a n c), (7, .int .i64 (n : Int)), (8, .int .i64 (i : Int))] [bs a n l] _
  refine SG.seq ?_
  refine SG.region ?_
  refine SL.val rfl rfl (fun w9 F9 S9 s => R.lss rfl rfl) ?_
  refine SL.nil ?_
  refine SN.seq ?_
  refine SG.seq ?_
  refine SG.condP rfl (fun h0 => ?_) (fun h0 => ?_)
  · obtain ⟨x, hx⟩ : ∃ x, l[i]? = some x := ⟨_, List.getElem?_eq_getElem (by omega)⟩
    refine SG.fact (fun w9 F9 S9 s => bs_pt (s.bs (by repeat (first | exact Sel.keep | exact Sel.here | apply Sel.there))) hx) (fun hf9 => ?_)
    obtain ⟨q, hq⟩ := hf9
    have hsm := sumI_succ hx
    refine SG.skip ?_
    refine SN.seq ?_
    refine SG.seq ?_
    refine SG.block ?_
    refine SG.seq ?_
    refine SG.region ?_
    refine SL.val rfl rfl (fun w9 F9 S9 s => R.idx rfl rfl (by omega) (by omega) q hq) ?_
    refine SL.val rfl rfl (fun w9 F9 S9 s => R.ld (v := .int .u8 (x.toNat : Int)) rfl (bs_ld (s.bs (by repeat (first | exact Sel.keep | exact Sel.here | apply Sel.there))) hq hx)) ?_
    refine SL.val rfl rfl (fun w9 F9 S9 s => R.as rfl) ?_
    refine SL.nil ?_
    refine SN.seq ?_
    refine SG.region ?_
    refine SL.val rfl rfl (fun w9 F9 S9 s => R.mv rfl) ?_
    refine SL.val rfl rfl (fun w9 F9 S9 s => R.mv rfl) ?_
    refine SL.val rfl rfl (fun w9 F9 S9 s => R.conv rfl (x.toNat : Int) (byte_u64 x)) ?_
    refine SL.val rfl rfl (fun w9 F9 S9 s => R.xorW rfl rfl _ rfl) ?_
    refine SL.val rfl rfl (fun w9 F9 S9 s => R.mulW rfl rfl _ rfl) ?_
    refine SL.val rfl rfl (fun w9 F9 S9 s => R.as rfl) ?_
    refine SL.nil ?_
    refine SN.be 3 rfl (congrArg (Value.int .u64) (show sumS (sumI (l.take i)) x = _ from hsm.symm)) ?_
    refine SN.block ?_
    refine SN.seq ?_
    refine SG.region ?_
    refine SL.val rfl rfl (fun w9 F9 S9 s => R.add rfl rfl (by omega)) ?_
    refine SL.val rfl rfl (fun w9 F9 S9 s => R.mv rfl) ?_
    refine SL.nil ?_
    exact SN.again (i + 1) (by show n - (i + 1) < n - i; omega) (Sub.cons rfl (Sub.cons rfl (Sub.cons rfl (Sub.cons rfl (Sub.nil _))))) ((Imp.sels (by repeat (first | exact Sels.nil | apply Sels.cons | exact Sel.keep | exact Sel.here | apply Sel.there)))) (by show i + 1 ≤ n; omega)
  · obtain rfl : i = n := by omega
    rw [List.take_of_length_le (show l.length ≤ i by omega)]
    refine SG.exit _ rfl ?_
    refine SN.seq ?_
    refine SG.seq ?_
    refine SG.region ?_
    refine SL.val rfl rfl (fun w9 F9 S9 s => R.mv rfl) ?_
    refine SL.val rfl rfl (fun w9 F9 S9 s => R.as rfl) ?_
    refine SL.nil ?_
    refine SN.seq ?_
    exact SG.ret1 rfl rfl ((Imp.sels (by repeat (first | exact Sels.nil | apply Sels.cons | exact Sel.keep | exact Sel.here | apply Sel.there)))) (⟨rfl, rfl⟩)

theorem rsum_ok (l : List UInt8) (hn : l.length ≤ 140737488351232) : SpecS Try.prog 72 [.string (str l)] [] (fun v H' => v = .int .u64 (sumI l) ∧ H' = []) := by
  refine SpecS.enter Try.func72 rfl 20 rfl (Nat.le_of_ble_eq_true rfl) (fun o => ?_)
  refine SG.seq ?_
  refine SG.region ?_
  refine SL.val rfl rfl (fun w9 F9 S9 s => R.as rfl) ?_
  refine SL.nil ?_
  refine SN.seq ?_
  refine SG.seq ?_
  refine SG.region ?_
  refine SL.val rfl rfl (fun w9 F9 S9 s => R.as rfl) ?_
  refine SL.nil ?_
  refine SN.seq ?_
  refine SG.seq ?_
  refine SG.seq ?_
  refine SG.region ?_
  refine SL.val rfl rfl (fun w9 F9 S9 s => R.as rfl) ?_
  refine SL.nil ?_
  refine SN.seq ?_
  refine SG.block ?_
  refine SG.loop (X := Nat) (fun i => [(0, .string (str l)), (3, .int .u64 (sumI (l.take i))), (4, .int .i64 (i : Int))]) (fun i => []) (fun i => i ≤ l.length) (fun i => l.length - i) (0) (Sub.cons rfl (Sub.cons rfl (Sub.cons rfl (Sub.nil _)))) ((Imp.sels (by repeat (first | exact Sels.nil | apply Sels.cons | exact Sel.keep | exact Sel.here | apply Sel.there)))) (Nat.zero_le _) ?_
  intro i hi
  show SG _ _ _ _ _ [(0, .string (str l)), (3, .int .u64 (sumI (l.take i))), (4, .int .i64 (i : Int))] [] _
  refine SG.seq ?_
  refine SG.seq ?_
  refine SG.region ?_
  refine SL.val rfl rfl (fun w9 F9 S9 s => R.mv rfl) ?_
  refine SL.val rfl rfl (fun w9 F9 S9 s => R.mv rfl) ?_
  refine SL.val rfl rfl (fun w9 F9 S9 s => R.lenT rfl) ?_
  refine SL.val rfl rfl (fun w9 F9 S9 s => R.lss rfl rfl) ?_
  refine SL.nil ?_
  refine SN.seq ?_
  refine SG.condP rfl (fun h0 => ?_) (fun h0 => ?_)
  · obtain ⟨x, hx⟩ : ∃ x, l[i]? = some x := ⟨_, List.getElem?_eq_getElem (by omega)⟩
    have hsm := sumI_succ hx
    refine SG.skip ?_
    refine SN.seq ?_
    refine SG.seq ?_
    refine SG.block ?_
    refine SG.seq ?_
    refine SG.region ?_
    refine SL.val rfl rfl (fun w9 F9 S9 s => R.mv rfl) ?_
    refine SL.val rfl rfl (fun w9 F9 S9 s => R.mv rfl) ?_
    refine SL.val rfl rfl (fun w9 F9 S9 s => R.mv rfl) ?_
    refine SL.val rfl rfl (fun w9 F9 S9 s => R.idxStr rfl rfl (by omega) (by simpa using hx)) ?_
    refine SL.val rfl rfl (fun w9 F9 S9 s => R.conv rfl (x.toNat : Int) (byte_u64 x)) ?_
    refine SL.val rfl rfl (fun w9 F9 S9 s => R.xorW rfl rfl _ rfl) ?_
    refine SL.val rfl rfl (fun w9 F9 S9 s => R.as rfl) ?_
    refine SL.nil ?_
    refine SN.seq ?_
    refine SG.region ?_
    refine SL.val rfl rfl (fun w9 F9 S9 s => R.mv rfl) ?_
    refine SL.val rfl rfl (fun w9 F9 S9 s => R.mulW rfl rfl _ rfl) ?_
    refine SL.val rfl rfl (fun w9 F9 S9 s => R.as rfl) ?_
    refine SL.nil ?_
    refine SN.be 3 rfl (congrArg (Value.int .u64) (show sumS (sumI (l.take i)) x = _ from hsm.symm)) ?_
    refine SN.block ?_
    refine SN.seq ?_
    refine SG.region ?_
    refine SL.val rfl rfl (fun w9 F9 S9 s => R.mv rfl) ?_
    refine SL.val rfl rfl (fun w9 F9 S9 s => R.add rfl rfl (by omega)) ?_
    refine SL.val rfl rfl (fun w9 F9 S9 s => R.as rfl) ?_
    refine SL.nil ?_
    exact SN.again (i + 1) (by show l.length - (i + 1) < l.length - i; omega) (Sub.cons rfl (Sub.cons rfl (Sub.cons rfl (Sub.nil _)))) ((Imp.sels (by repeat (first | exact Sels.nil | apply Sels.cons | exact Sel.keep | exact Sel.here | apply Sel.there)))) (by show i + 1 ≤ l.length; omega)
  · obtain rfl : i = l.length := by omega
    rw [List.take_length]
    refine SG.exit _ rfl ?_
    refine SN.seq ?_
    refine SG.seq ?_
    refine SG.region ?_
    refine SL.val rfl rfl (fun w9 F9 S9 s => R.mv rfl) ?_
    refine SL.val rfl rfl (fun w9 F9 S9 s => R.as rfl) ?_
    refine SL.nil ?_
    refine SN.seq ?_
    exact SG.ret1 rfl rfl ((Imp.sels (by repeat (first | exact Sels.nil | apply Sels.cons | exact Sel.keep | exact Sel.here | apply Sel.there)))) (⟨rfl, rfl⟩)

end Go.Proofs.Yteaihincmfbblaa
/-
  The walks of package digest.
-/
set_option linter.unusedVariables false
set_option linter.unusedSimpArgs false
set_option maxRecDepth 4000
namespace Go.Proofs.Yteaihincmfbblaa
open Go Brv
/-- The digit of 256^i. -/
def dgt (v : Nat) (i : Nat) : UInt8 := UInt8.ofNat (v / 256 ^ i % 256)
theorem dgt_toNat (v i : Nat) : (dgt v i).toNat = v / 256 ^ i % 256 := by
  unfold dgt
  rw [UInt8.toNat_ofNat']
  exact Nat.mod_mod _ _
/-- The last i digits, the high ones first. -/
def dgs (v : Nat) : Nat → List UInt8
  | 0 => []
  | i + 1 => dgt v i :: dgs v i
theorem dgs_len (v i : Nat) : (dgs v i).length = i := by induction i with
  | zero => rfl
  | succ i ih => simp [dgs, ih]
/-- The first j of the eight. -/
theorem dgs_take (v j : Nat) (hj : j < 8) : (dgs v 8).take (j + 1) = (dgs v 8).take j ++ [dgt v (7 - j)] := by
  rw [List.take_add_one]
  congr 1
  have : j = 0 ∨ j = 1 ∨ j = 2 ∨ j = 3 ∨ j = 4 ∨ j = 5 ∨ j = 6 ∨ j = 7 := by omega
  rcases this with rfl | rfl | rfl | rfl | rfl | rfl | rfl | rfl <;> rfl
/-- The bytes of sums. -/
def bytesU (l : List Nat) : List UInt8 := (l.map fun v => dgs v 8).flatten
theorem bytesU_len (l : List Nat) : (bytesU l).length = 8 * l.length := by
  induction l with
  | nil => rfl
  | cons v l ih => unfold bytesU at ih ⊢; simp only [List.map_cons, List.flatten_cons, List.length_append, dgs_len, ih, List.length_cons]; omega
theorem bytesU_succ {l : List Nat} {i v : Nat} (h : l[i]? = some v) : bytesU (l.take (i + 1)) = bytesU (l.take i) ++ dgs v 8 := by
  unfold bytesU
  rw [List.take_add_one, h]; simp
/-- The node of sums. -/
def nodeI (l : List Nat) : Int := if l.length = 1 then (l[0]?.getD 0 : Nat) else sumI (bytesU l)
def us (l : List Nat) : List Value := l.map fun (v : Nat) => Value.int .u64 (v : Int)
def okU (l : List Nat) : Prop := ∀ v ∈ l, v ≤ 18446744073709551615
theorem us_pt {w : World} {a : Option Addr} {i v : Nat} {l : List Nat} (h : Cells w a (us l)) (hx : l[i]? = some v) : ∃ q, a = some q :=
  let ⟨q, hq, _⟩ := h i (.int .u64 (v : Int)) (by rw [us, List.getElem?_map, hx]; rfl); ⟨q, hq⟩
theorem us_ld {w : World} {a : Option Addr} {i v : Nat} {l : List Nat} {q : Addr} (h : Cells w a (us l)) (hq : a = some q) (hx : l[i]? = some v) : w.cell? (q.add ((i : Int).toNat * 1)) = some (.int .u64 (v : Int)) := by
  obtain ⟨p, hp, hc⟩ := h i (.int .u64 (v : Int)) (by rw [us, List.getElem?_map, hx]; rfl)
  rw [hq] at hp; cases hp
  rw [Int.toNat_natCast, Nat.mul_one]; exact hc
theorem dgt_conv (v i : Nat) : IntKind.u8.wrap ((v / 256 ^ i : Nat) : Int) = ((dgt v i).toNat : Int) := by
  rw [dgt_toNat]
  simp only [IntKind.wrap, IntKind.bits, IntKind.signed]
  simp
theorem dgt_mod (v i : Nat) : IntKind.u8.wrap (((v / 256 ^ i : Nat) : Int) % 256) = ((dgt v i).toNat : Int) := by
  rw [dgt_toNat]
  simp only [IntKind.wrap, IntKind.bits, IntKind.signed]
  simp
theorem shr_dgt (v j : Nat) (hj : j < 8) : ((v : Int)).fdiv (2 ^ (Min.min ((56 : Int) - 8 * (j : Int)).toNat IntKind.u64.bits)) = ((v / 256 ^ (7 - j) : Nat) : Int) := by
  have h1 : Min.min ((56 : Int) - 8 * (j : Int)).toNat IntKind.u64.bits = 8 * (7 - j) := by simp only [IntKind.bits]; omega
  have e : ((2 : Int) ^ (8 * (7 - j))) = ((256 ^ (7 - j) : Nat) : Int) := by rw [show (256 : Nat) = 2 ^ 8 from rfl, ← Nat.pow_mul]; simp
  rw [h1, Int.fdiv_eq_ediv_of_nonneg _ (Int.le_of_lt (Int.pow_pos (by decide))), e]
  norm_cast

theorem quo256 (v i : Nat) (hv : v ≤ 18446744073709551615) : IntKind.u64.wrap ((((v / 256 ^ i : Nat) : Int)).tdiv 256) = ((v / 256 ^ (i + 1) : Nat) : Int) := by
  rw [Int.tdiv_eq_ediv_of_nonneg (Int.natCast_nonneg _), show ((v / 256 ^ i : Nat) : Int) / 256 = ((v / 256 ^ (i + 1) : Nat) : Int) by rw [Nat.pow_succ, ← Nat.div_div_eq_div_mul]; norm_cast]
  exact wrap_u64 ⟨Int.natCast_nonneg _, Int.le_trans (Int.ofNat_le.2 (Nat.div_le_self v (256 ^ (i + 1)))) (by omega)⟩

theorem eight_ok (v : Nat) (hv : v ≤ 18446744073709551615) : SpecS Try.prog 61 [.int .u64 (v : Int)] [] (fun v9 H' => v9 = .string (str (dgs v 8)) ∧ H' = []) := by
  refine SpecS.enter Try.func61 rfl 19 rfl (Nat.le_of_ble_eq_true rfl) (fun o => ?_)
  refine SG.seq ?_
  refine SG.region ?_
  refine SL.val rfl rfl (fun w9 F9 S9 s => R.as rfl) ?_
  refine SL.nil ?_
  refine SN.seq ?_
  refine SG.seq ?_
  refine SG.region ?_
  refine SL.val rfl rfl (fun w9 F9 S9 s => R.as rfl) ?_
  refine SL.nil ?_
  refine SN.seq ?_
  refine SG.seq ?_
  refine SG.seq ?_
  refine SG.region ?_
  refine SL.val rfl rfl (fun w9 F9 S9 s => R.as rfl) ?_
  refine SL.nil ?_
  refine SN.seq ?_
  refine SG.block ?_
  refine SG.be 0 rfl (congrArg (Value.int .u64) (show (v : Int) = ((v / 256 ^ 0 : Nat) : Int) by simp)) ?_
  refine SG.loop (X := Nat) (fun i => [(0, .int .u64 ((v / 256 ^ i : Nat) : Int)), (3, .string (str (dgs v i))), (4, .int .i64 (i : Int))]) (fun i => []) (fun i => i ≤ 8) (fun i => 8 - i) (0) (Sub.cons rfl (Sub.cons rfl (Sub.cons rfl (Sub.nil _)))) ((Imp.sels (by repeat (first | exact Sels.nil | apply Sels.cons | exact Sel.keep | exact Sel.here | apply Sel.there)))) (Nat.zero_le _) ?_
  intro i hi
  have hdl := dgs_len v i
  show SG _ _ _ _ _ [(0, .int .u64 ((v / 256 ^ i : Nat) : Int)), (3, .string (str (dgs v i))), (4, .int .i64 (i : Int))] [] _
  refine SG.seq ?_
  refine SG.seq ?_
  refine SG.region ?_
  refine SL.val rfl rfl (fun w9 F9 S9 s => R.mv rfl) ?_
  refine SL.val rfl rfl (fun w9 F9 S9 s => R.lss rfl rfl) ?_
  refine SL.nil ?_
  refine SN.seq ?_
  refine SG.condP rfl (fun h0 => ?_) (fun h0 => ?_)
  · refine SG.skip ?_
    refine SN.seq ?_
    refine SG.seq ?_
    refine SG.block ?_
    refine SG.seq ?_
    refine SG.region ?_
    refine SL.val rfl rfl (fun w9 F9 S9 s => R.mv rfl) ?_
    refine SL.val rfl rfl (fun w9 F9 S9 s => R.rem rfl rfl (Int.natCast_nonneg _) (by decide)) ?_
    refine SL.val rfl rfl (fun w9 F9 S9 s => R.conv rfl ((dgt v i).toNat : Int) (dgt_mod v i)) ?_
    refine SL.step rfl rfl (CS.buildA rfl rfl rfl rfl rfl (vbs [dgt v i]) rfl) ?_
    rintro _ _ ⟨b12, rfl, rfl⟩
    refine SL.imp (Imp.blkBs (l := [dgt v i]) (by repeat (first | exact Sel.keep | exact Sel.here | apply Sel.there))) ?_
    refine SL.val rfl rfl (fun w9 F9 S9 s => R.strB rfl (s.bs (l := [dgt v i]) (by repeat (first | exact Sel.keep | exact Sel.here | apply Sel.there)))) ?_
    refine SL.val rfl rfl (fun w9 F9 S9 s => R.mv rfl) ?_
    refine SL.val rfl rfl (fun w9 F9 S9 s => R.addStr rfl rfl (by simp; omega)) ?_
    refine SL.val rfl rfl (fun w9 F9 S9 s => R.as rfl) ?_
    refine SL.nil ?_
    refine SN.seq ?_
    refine SG.region ?_
    refine SL.val rfl rfl (fun w9 F9 S9 s => R.mv rfl) ?_
    refine SL.val rfl rfl (fun w9 F9 S9 s => R.quoW rfl rfl (by decide) ((v / 256 ^ (i + 1) : Nat) : Int) (quo256 v i hv)) ?_
    refine SL.val rfl rfl (fun w9 F9 S9 s => R.as rfl) ?_
    refine SL.nil ?_
    refine SN.block ?_
    refine SN.seq ?_
    refine SG.region ?_
    refine SL.val rfl rfl (fun w9 F9 S9 s => R.mv rfl) ?_
    refine SL.val rfl rfl (fun w9 F9 S9 s => R.add rfl rfl (by omega)) ?_
    refine SL.val rfl rfl (fun w9 F9 S9 s => R.as rfl) ?_
    refine SL.nil ?_
    exact SN.again (i + 1) (by show 8 - (i + 1) < 8 - i; omega) (Sub.cons rfl (Sub.cons rfl (Sub.cons rfl (Sub.nil _)))) ((Imp.sels (by repeat (first | exact Sels.nil | apply Sels.cons | exact Sel.keep | exact Sel.here | apply Sel.there)))) (by show i + 1 ≤ 8; omega)
  · obtain rfl : i = 8 := by omega
    refine SG.exit _ rfl ?_
    refine SN.seq ?_
    refine SG.seq ?_
    refine SG.region ?_
    refine SL.val rfl rfl (fun w9 F9 S9 s => R.mv rfl) ?_
    refine SL.val rfl rfl (fun w9 F9 S9 s => R.as rfl) ?_
    refine SL.nil ?_
    refine SN.seq ?_
    exact SG.ret1 rfl rfl ((Imp.sels (by repeat (first | exact Sels.nil | apply Sels.cons | exact Sel.keep | exact Sel.here | apply Sel.there)))) (⟨rfl, rfl⟩)

end Go.Proofs.Yteaihincmfbblaa
/-
  The walks of package digest.
-/
set_option linter.unusedVariables false
set_option linter.unusedSimpArgs false
set_option maxRecDepth 4000
namespace Go.Proofs.Yteaihincmfbblaa
open Go Brv
structure NdS where
  i : Nat
  b : Option Addr
  c : Nat
theorem vbs_app (x y : List UInt8) : vbs (x ++ y) = vbs x ++ vbs y := by simp [vbs]
theorem nodeI_one {l : List Nat} {v : Nat} (h : l.length = 1) (hv : l[0]? = some v) : nodeI l = (v : Int) := by unfold nodeI; rw [if_pos h, hv]; rfl
theorem nodeI_sum {l : List Nat} (h : ¬ l.length = 1) : nodeI l = sumI (bytesU l) := if_neg h

theorem dnode_ok (a : Option Addr) (n c : Nat) (l : List Nat) (hln : n = l.length) (hn : n ≤ 1000000) (hu : okU l) : SpecS Try.prog 67 [.slice a n c] [sh (fun w => Cells w a (us l))] (fun v H' => v = .int .u64 (nodeI l) ∧ H' = []) := by
  refine SpecS.enter Try.func67 rfl 35 rfl (Nat.le_of_ble_eq_true rfl) (fun o => ?_)
  refine SG.seq ?_
  refine SG.region ?_
  refine SL.val rfl rfl (fun w9 F9 S9 s => R.as rfl) ?_
  refine SL.nil ?_
  refine SN.seq ?_
  refine SG.seq ?_
  refine SG.seq ?_
  refine SG.region ?_
  refine SL.val rfl rfl (fun w9 F9 S9 s => R.mv rfl) ?_
  refine SL.val rfl rfl (fun w9 F9 S9 s => R.lenS rfl) ?_
  refine SL.val rfl rfl (fun w9 F9 S9 s => R.eqI rfl rfl) ?_
  refine SL.nil ?_
  refine SN.seq ?_
  refine SG.condP rfl (fun h0 => ?_) (fun h0 => ?_)
  · obtain ⟨v, hv⟩ : ∃ v, l[0]? = some v := ⟨_, List.getElem?_eq_getElem (by omega)⟩
    refine SG.fact (fun w9 F9 S9 s => us_pt (s.sh (p := fun w => Cells w a (us l)) (by repeat (first | exact Sel.keep | exact Sel.here | apply Sel.there))) hv) (fun hf9 => ?_)
    obtain ⟨q, hq⟩ := hf9
    refine SG.seq ?_
    refine SG.region ?_
    refine SL.val rfl rfl (fun w9 F9 S9 s => R.mv rfl) ?_
    refine SL.val rfl rfl (fun w9 F9 S9 s => R.idx (i := 0) rfl rfl (by omega) (by omega) q hq) ?_
    refine SL.val rfl rfl (fun w9 F9 S9 s => R.ld (v := .int .u64 (v : Int)) rfl (us_ld (i := 0) (s.sh (p := fun w => Cells w a (us l)) (by repeat (first | exact Sel.keep | exact Sel.here | apply Sel.there))) hq hv)) ?_
    refine SL.val rfl rfl (fun w9 F9 S9 s => R.as rfl) ?_
    refine SL.nil ?_
    refine SN.seq ?_
    exact SG.ret1 rfl rfl (Imp.sels Sels.nil) (⟨congrArg (Value.int .u64) (nodeI_one (by omega) hv).symm, rfl⟩)
  · refine SG.skip ?_
    refine SN.seq ?_
    refine SG.seq ?_
    refine SG.region ?_
    refine SL.val rfl rfl (fun w9 F9 S9 s => R.as rfl) ?_
    refine SL.nil ?_
    refine SN.seq ?_
    refine SG.seq ?_
    refine SG.seq ?_
    refine SG.region ?_
    refine SL.val rfl rfl (fun w9 F9 S9 s => R.mv rfl) ?_
    refine SL.val rfl rfl (fun w9 F9 S9 s => R.lenS rfl) ?_
    refine SL.val rfl rfl (fun w9 F9 S9 s => R.mv rfl) ?_
    refine SL.nil ?_
    refine SN.seq ?_
    refine SG.block ?_
    refine SG.imp (Imp.ownNil 5 1) ?_
    refine SG.loop (X := NdS) (fun x => [(3, .slice x.b (8 * x.i) x.c), (13, .slice a n c), (14, .int .i64 (n : Int)), (15, .int .i64 (x.i : Int))]) (fun x => [sh (fun w => Cells w a (us l)), own 5 1 x.b (8 * x.i) x.c (vbs (bytesU (l.take x.i)))]) (fun x => x.i ≤ n) (fun x => n - x.i) (⟨0, none, 0⟩) (Sub.cons rfl (Sub.cons rfl (Sub.cons rfl (Sub.cons rfl (Sub.nil _))))) ((Imp.sels (by repeat (first | exact Sels.nil | apply Sels.cons | exact Sel.keep | exact Sel.here | apply Sel.there)))) (Nat.zero_le _) ?_
    rintro ⟨i, b9, c9⟩ hi
    dsimp only at hi
    show SG _ _ _ _ _ [(3, .slice b9 (8 * i) c9), (13, .slice a n c), (14, .int .i64 (n : Int)), (15, .int .i64 (i : Int))] [sh (fun w => Cells w a (us l)), own 5 1 b9 (8 * i) c9 (vbs (bytesU (l.take i)))] _
    refine SG.seq ?_
    refine SG.region ?_
    refine SL.val rfl rfl (fun w9 F9 S9 s => R.lss rfl rfl) ?_
    refine SL.nil ?_
    refine SN.seq ?_
    refine SG.seq ?_
    refine SG.condP rfl (fun h1 => ?_) (fun h1 => ?_)
    · obtain ⟨v, hv⟩ : ∃ v, l[i]? = some v := ⟨_, List.getElem?_eq_getElem (by omega)⟩
      refine SG.fact (fun w9 F9 S9 s => us_pt (s.sh (p := fun w => Cells w a (us l)) (by repeat (first | exact Sel.keep | exact Sel.here | apply Sel.there))) hv) (fun hf9 => ?_)
      obtain ⟨q, hq⟩ := hf9
      have hvl := hu v (List.mem_of_getElem? hv)
      refine SG.skip ?_
      refine SN.seq ?_
      refine SG.seq ?_
      refine SG.block ?_
      refine SG.seq ?_
      refine SG.region ?_
      refine SL.val rfl rfl (fun w9 F9 S9 s => R.idx rfl rfl (by omega) (by omega) q hq) ?_
      refine SL.val rfl rfl (fun w9 F9 S9 s => R.ld (v := .int .u64 (v : Int)) rfl (us_ld (s.sh (p := fun w => Cells w a (us l)) (by repeat (first | exact Sel.keep | exact Sel.here | apply Sel.there))) hq hv)) ?_
      refine SL.val rfl rfl (fun w9 F9 S9 s => R.as rfl) ?_
      refine SL.nil ?_
      refine SN.seq ?_
      refine SG.seq ?_
      refine SG.region ?_
      refine SL.val rfl rfl (fun w9 F9 S9 s => R.mv rfl) ?_
      refine SL.nil ?_
      refine SN.seq ?_
      refine SG.block ?_
      refine SG.loop (X := NdS) (fun x => [(3, .slice x.b (8 * i + x.i) x.c), (5, .int .u64 (v : Int)), (13, .slice a n c), (14, .int .i64 (n : Int)), (15, .int .i64 (i : Int)), (19, .int .i64 (x.i : Int))]) (fun x => [sh (fun w => Cells w a (us l)), own 5 1 x.b (8 * i + x.i) x.c (vbs (bytesU (l.take i) ++ (dgs v 8).take x.i))]) (fun x => x.i ≤ 8) (fun x => 8 - x.i) (⟨0, b9, c9⟩) (Sub.cons rfl (Sub.cons rfl (Sub.cons rfl (Sub.cons rfl (Sub.cons rfl (Sub.cons rfl (Sub.nil _))))))) ((show Imp _ _ by rw [List.take_zero, List.append_nil]; exact (Imp.sels (by repeat (first | exact Sels.nil | apply Sels.cons | exact Sel.keep | exact Sel.here | apply Sel.there))))) (Nat.zero_le _) ?_
      rintro ⟨j, b9, c9⟩ hj
      dsimp only at hj
      show SG _ _ _ _ _ [(3, .slice b9 (8 * i + j) c9), (5, .int .u64 (v : Int)), (13, .slice a n c), (14, .int .i64 (n : Int)), (15, .int .i64 (i : Int)), (19, .int .i64 (j : Int))] [sh (fun w => Cells w a (us l)), own 5 1 b9 (8 * i + j) c9 (vbs (bytesU (l.take i) ++ (dgs v 8).take j))] _
      refine SG.seq ?_
      refine SG.region ?_
      refine SL.val rfl rfl (fun w9 F9 S9 s => R.lss rfl rfl) ?_
      refine SL.nil ?_
      refine SN.seq ?_
      refine SG.seq ?_
      refine SG.condP rfl (fun h2 => ?_) (fun h2 => ?_)
      · refine SG.skip ?_
        refine SN.seq ?_
        refine SG.seq ?_
        refine SG.block ?_
        refine SG.seq ?_
        refine SG.region ?_
        refine SL.val rfl rfl (fun w9 F9 S9 s => R.mv rfl) ?_
        refine SL.val rfl rfl (fun w9 F9 S9 s => R.as rfl) ?_
        refine SL.nil ?_
        refine SN.seq ?_
        refine SG.region ?_
        refine SL.val rfl rfl (fun w9 F9 S9 s => R.mv rfl) ?_
        refine SL.val rfl rfl (fun w9 F9 S9 s => R.mv rfl) ?_
        refine SL.val rfl rfl (fun w9 F9 S9 s => R.mv rfl) ?_
        refine SL.val rfl rfl (fun w9 F9 S9 s => R.mul rfl rfl (by omega)) ?_
        refine SL.val rfl rfl (fun w9 F9 S9 s => R.sub' rfl rfl (by omega)) ?_
        refine SL.val rfl rfl (fun w9 F9 S9 s => R.shrW rfl rfl (by omega) _ (shr_dgt v j (by omega))) ?_
        refine SL.val rfl rfl (fun w9 F9 S9 s => R.conv rfl ((dgt v (7 - j)).toNat : Int) (dgt_conv v (7 - j))) ?_
        refine SL.step rfl rfl (CS.buildA rfl rfl rfl rfl rfl (vbs [dgt v (7 - j)]) rfl) ?_
        rintro _ _ ⟨b29, rfl, rfl⟩
        refine SL.step rfl rfl (CS.app rfl rfl (by repeat (first | exact Sel.keep | exact Sel.here | apply Sel.there)) (fun w9 F9 S9 s => s.blkC (by repeat (first | exact Sel.keep | exact Sel.here | apply Sel.there))) rfl (vbs_one _) (by simp [maxLen]; omega) (by omega)) ?_
        rintro _ _ ⟨a30, c30, rfl, rfl⟩
        refine SL.val rfl rfl (fun w9 F9 S9 s => R.as rfl) ?_
        refine SL.nil ?_
        refine SN.block ?_
        refine SN.seq ?_
        refine SG.region ?_
        refine SL.val rfl rfl (fun w9 F9 S9 s => R.add rfl rfl (by omega)) ?_
        refine SL.val rfl rfl (fun w9 F9 S9 s => R.mv rfl) ?_
        refine SL.nil ?_
        exact SN.again (⟨j + 1, a30, c30⟩) (by show 8 - (j + 1) < 8 - j; omega) (Sub.cons rfl (Sub.cons rfl (Sub.cons rfl (Sub.cons rfl (Sub.cons rfl (Sub.cons rfl (Sub.nil _))))))) ((show Imp _ _ by dsimp only; rw [dgs_take v j (by omega), ← List.append_assoc, vbs_app (bytesU (l.take i) ++ (dgs v 8).take j)]; exact (Imp.sels (by repeat (first | exact Sels.nil | apply Sels.cons | exact Sel.keep | exact Sel.here | apply Sel.there))))) (by show j + 1 ≤ 8; omega)
      · obtain rfl : j = 8 := by omega
        rw [List.take_of_length_le (show (dgs v 8).length ≤ 8 by rw [dgs_len]; exact Nat.le_refl _), ← bytesU_succ hv]
        refine SG.exit _ rfl ?_
        refine SN.block ?_
        refine SN.seq ?_
        refine SG.region ?_
        refine SL.val rfl rfl (fun w9 F9 S9 s => R.add rfl rfl (by omega)) ?_
        refine SL.val rfl rfl (fun w9 F9 S9 s => R.mv rfl) ?_
        refine SL.nil ?_
        exact SN.again (⟨i + 1, b9, c9⟩) (by show n - (i + 1) < n - i; omega) (Sub.cons rfl (Sub.cons rfl (Sub.cons rfl (Sub.cons rfl (Sub.nil _))))) ((Imp.sels (by repeat (first | exact Sels.nil | apply Sels.cons | exact Sel.keep | exact Sel.here | apply Sel.there)))) (by show i + 1 ≤ n; omega)
    · obtain rfl : i = n := by omega
      rw [List.take_of_length_le (show l.length ≤ i by omega)]
      refine SG.imp (Imp.ownBs (show Sel _ (own 5 1 b9 (8 * i) c9 (vbs (bytesU l))) _ from (by repeat (first | exact Sel.keep | exact Sel.here | apply Sel.there)))) ?_
      refine SG.exit _ rfl ?_
      refine SN.seq ?_
      refine SG.seq ?_
      refine SG.region ?_
      refine SL.val rfl rfl (fun w9 F9 S9 s => R.mv rfl) ?_
      refine SL.step rfl rfl (CS.call rfl go65 (dsum_ok b9 (8 * i) c9 (bytesU l) (by omega)) (by repeat (first | exact Sels.nil | apply Sels.cons | exact Sel.keep | exact Sel.here | apply Sel.there))) ?_
      rintro _ _ ⟨_, ⟨rfl, rfl⟩, rfl⟩
      refine SL.n0 ?_
      refine SL.val rfl rfl (fun w9 F9 S9 s => R.as rfl) ?_
      refine SL.nil ?_
      refine SN.seq ?_
      exact SG.ret1 rfl rfl (Imp.sels Sels.nil) (⟨congrArg (Value.int .u64) (nodeI_sum (by omega)).symm, rfl⟩)

theorem rnode_ok (a : Option Addr) (n c : Nat) (l : List Nat) (hln : n = l.length) (hn : n ≤ 1000000) (hu : okU l) : SpecS Try.prog 73 [.slice a n c] [sh (fun w => Cells w a (us l))] (fun v H' => v = .int .u64 (nodeI l) ∧ H' = []) := by
  refine SpecS.enter Try.func73 rfl 25 rfl (Nat.le_of_ble_eq_true rfl) (fun o => ?_)
  refine SG.seq ?_
  refine SG.region ?_
  refine SL.val rfl rfl (fun w9 F9 S9 s => R.as rfl) ?_
  refine SL.nil ?_
  refine SN.seq ?_
  refine SG.seq ?_
  refine SG.seq ?_
  refine SG.region ?_
  refine SL.val rfl rfl (fun w9 F9 S9 s => R.mv rfl) ?_
  refine SL.val rfl rfl (fun w9 F9 S9 s => R.lenS rfl) ?_
  refine SL.val rfl rfl (fun w9 F9 S9 s => R.eqI rfl rfl) ?_
  refine SL.nil ?_
  refine SN.seq ?_
  refine SG.condP rfl (fun h0 => ?_) (fun h0 => ?_)
  · obtain ⟨v, hv⟩ : ∃ v, l[0]? = some v := ⟨_, List.getElem?_eq_getElem (by omega)⟩
    refine SG.fact (fun w9 F9 S9 s => us_pt (s.sh (p := fun w => Cells w a (us l)) (by repeat (first | exact Sel.keep | exact Sel.here | apply Sel.there))) hv) (fun hf9 => ?_)
    obtain ⟨q, hq⟩ := hf9
    refine SG.seq ?_
    refine SG.region ?_
    refine SL.val rfl rfl (fun w9 F9 S9 s => R.mv rfl) ?_
    refine SL.val rfl rfl (fun w9 F9 S9 s => R.idx (i := 0) rfl rfl (by omega) (by omega) q hq) ?_
    refine SL.val rfl rfl (fun w9 F9 S9 s => R.ld (v := .int .u64 (v : Int)) rfl (us_ld (i := 0) (s.sh (p := fun w => Cells w a (us l)) (by repeat (first | exact Sel.keep | exact Sel.here | apply Sel.there))) hq hv)) ?_
    refine SL.val rfl rfl (fun w9 F9 S9 s => R.as rfl) ?_
    refine SL.nil ?_
    refine SN.seq ?_
    exact SG.ret1 rfl rfl (Imp.sels Sels.nil) (⟨congrArg (Value.int .u64) (nodeI_one (by omega) hv).symm, rfl⟩)
  · refine SG.skip ?_
    refine SN.seq ?_
    refine SG.seq ?_
    refine SG.region ?_
    refine SL.val rfl rfl (fun w9 F9 S9 s => R.as rfl) ?_
    refine SL.nil ?_
    refine SN.seq ?_
    refine SG.seq ?_
    refine SG.seq ?_
    refine SG.region ?_
    refine SL.val rfl rfl (fun w9 F9 S9 s => R.mv rfl) ?_
    refine SL.val rfl rfl (fun w9 F9 S9 s => R.lenS rfl) ?_
    refine SL.val rfl rfl (fun w9 F9 S9 s => R.mv rfl) ?_
    refine SL.nil ?_
    refine SN.seq ?_
    refine SG.block ?_
    refine SG.loop (X := Nat) (fun i => [(3, .string (str (bytesU (l.take i)))), (12, .slice a n c), (13, .int .i64 (n : Int)), (14, .int .i64 (i : Int))]) (fun i => [sh (fun w => Cells w a (us l))]) (fun i => i ≤ n) (fun i => n - i) (0) (Sub.cons rfl (Sub.cons rfl (Sub.cons rfl (Sub.cons rfl (Sub.nil _))))) ((Imp.sels (by repeat (first | exact Sels.nil | apply Sels.cons | exact Sel.keep | exact Sel.here | apply Sel.there)))) (Nat.zero_le _) ?_
    intro i hi
    have hbl := bytesU_len (l.take i)
    rw [List.length_take] at hbl
    show SG _ _ _ _ _ [(3, .string (str (bytesU (l.take i)))), (12, .slice a n c), (13, .int .i64 (n : Int)), (14, .int .i64 (i : Int))] [sh (fun w => Cells w a (us l))] _
    refine SG.seq ?_
    refine SG.region ?_
    refine SL.val rfl rfl (fun w9 F9 S9 s => R.lss rfl rfl) ?_
    refine SL.nil ?_
    refine SN.seq ?_
    refine SG.seq ?_
    refine SG.condP rfl (fun h1 => ?_) (fun h1 => ?_)
    · obtain ⟨v, hv⟩ : ∃ v, l[i]? = some v := ⟨_, List.getElem?_eq_getElem (by omega)⟩
      refine SG.fact (fun w9 F9 S9 s => us_pt (s.sh (p := fun w => Cells w a (us l)) (by repeat (first | exact Sel.keep | exact Sel.here | apply Sel.there))) hv) (fun hf9 => ?_)
      obtain ⟨q, hq⟩ := hf9
      have hvl := hu v (List.mem_of_getElem? hv)
      have hdl := dgs_len v 8
      refine SG.skip ?_
      refine SN.seq ?_
      refine SG.seq ?_
      refine SG.block ?_
      refine SG.seq ?_
      refine SG.region ?_
      refine SL.val rfl rfl (fun w9 F9 S9 s => R.idx rfl rfl (by omega) (by omega) q hq) ?_
      refine SL.val rfl rfl (fun w9 F9 S9 s => R.ld (v := .int .u64 (v : Int)) rfl (us_ld (s.sh (p := fun w => Cells w a (us l)) (by repeat (first | exact Sel.keep | exact Sel.here | apply Sel.there))) hq hv)) ?_
      refine SL.val rfl rfl (fun w9 F9 S9 s => R.as rfl) ?_
      refine SL.nil ?_
      refine SN.seq ?_
      refine SG.region ?_
      refine SL.val rfl rfl (fun w9 F9 S9 s => R.mv rfl) ?_
      refine SL.val rfl rfl (fun w9 F9 S9 s => R.mv rfl) ?_
      refine SL.step rfl rfl (CS.call rfl go61 (eight_ok v hvl) (by repeat (first | exact Sels.nil | apply Sels.cons | exact Sel.keep | exact Sel.here | apply Sel.there))) ?_
      rintro _ _ ⟨_, ⟨rfl, rfl⟩, rfl⟩
      refine SL.n0 ?_
      refine SL.val rfl rfl (fun w9 F9 S9 s => R.addStr rfl rfl (by omega)) ?_
      refine SL.val rfl rfl (fun w9 F9 S9 s => R.as rfl) ?_
      refine SL.nil ?_
      refine SN.be 3 rfl (congrArg (fun x => Value.string (str x)) (show bytesU (l.take i) ++ dgs v 8 = bytesU (l.take (i + 1)) from (bytesU_succ hv).symm)) ?_
      refine SN.block ?_
      refine SN.seq ?_
      refine SG.region ?_
      refine SL.val rfl rfl (fun w9 F9 S9 s => R.add rfl rfl (by omega)) ?_
      refine SL.val rfl rfl (fun w9 F9 S9 s => R.mv rfl) ?_
      refine SL.nil ?_
      exact SN.again (i + 1) (by show n - (i + 1) < n - i; omega) (Sub.cons rfl (Sub.cons rfl (Sub.cons rfl (Sub.cons rfl (Sub.nil _))))) ((Imp.sels (by repeat (first | exact Sels.nil | apply Sels.cons | exact Sel.keep | exact Sel.here | apply Sel.there)))) (by show i + 1 ≤ n; omega)
    · obtain rfl : i = n := by omega
      rw [List.take_of_length_le (show l.length ≤ i by omega)]
      have hbl2 := bytesU_len l
      refine SG.exit _ rfl ?_
      refine SN.seq ?_
      refine SG.seq ?_
      refine SG.region ?_
      refine SL.val rfl rfl (fun w9 F9 S9 s => R.mv rfl) ?_
      refine SL.step rfl rfl (CS.call rfl go72 (rsum_ok (bytesU l) (by omega)) (by repeat (first | exact Sels.nil | apply Sels.cons | exact Sel.keep | exact Sel.here | apply Sel.there))) ?_
      rintro _ _ ⟨_, ⟨rfl, rfl⟩, rfl⟩
      refine SL.n0 ?_
      refine SL.val rfl rfl (fun w9 F9 S9 s => R.as rfl) ?_
      refine SL.nil ?_
      refine SN.seq ?_
      exact SG.ret1 rfl rfl (Imp.sels Sels.nil) (⟨congrArg (Value.int .u64) (nodeI_sum (by omega)).symm, rfl⟩)

end Go.Proofs.Yteaihincmfbblaa
/-
  The walks of package digest.
-/
set_option linter.unusedVariables false
set_option linter.unusedSimpArgs false
set_option maxRecDepth 4000
namespace Go.Proofs.Yteaihincmfbblaa
open Go Brv
def sumN (l : List UInt8) : Nat := (sumI l).toNat
theorem sumN_eq (l : List UInt8) : ((sumN l : Nat) : Int) = sumI l := by have := sumI_in l; unfold sumN; omega
theorem sumN_le (l : List UInt8) : sumN l ≤ 18446744073709551615 := by have := sumI_in l; unfold sumN; omega
def nodeN (l : List Nat) : Nat := (nodeI l).toNat
theorem nodeI_in {l : List Nat} (h : okU l) : 0 ≤ nodeI l ∧ nodeI l ≤ 18446744073709551615 := by
  unfold nodeI
  split
  · rename_i h1
    have h2 : l[0]? = some l[0] := List.getElem?_eq_getElem (by omega)
    rw [h2]
    have := h l[0] (List.getElem_mem _)
    simp only [Option.getD_some]; omega
  · exact sumI_in _
theorem nodeN_eq {l : List Nat} (h : okU l) : ((nodeN l : Nat) : Int) = nodeI l := by have := nodeI_in h; unfold nodeN; omega
theorem nodeN_le {l : List Nat} (h : okU l) : nodeN l ≤ 18446744073709551615 := by have := nodeI_in h; unfold nodeN; omega
/-- The row above. -/
def nextR : List Nat → List Nat
  | a :: b :: r => nodeN [a, b] :: nextR r
  | r => r
theorem nextR_app : ∀ (k : Nat) (a b : List Nat), a.length = 2 * k → nextR (a ++ b) = nextR a ++ nextR b
  | 0, a, b, h => by
    rw [List.eq_nil_of_length_eq_zero h]; rfl
  | k + 1, a, b, h => by
    match a, h with
    | x :: y :: r, h =>
      have := nextR_app k r b (by simp at h; omega)
      simp only [List.cons_append, nextR, this]
theorem nextR_len : ∀ (r : List Nat), (nextR r).length = (r.length + 1) / 2
  | [] => rfl
  | [a] => by simp [nextR]
  | a :: b :: r => by
    simp only [nextR, List.length_cons, nextR_len r]; omega
theorem nextR_ok : ∀ {r : List Nat}, okU r → okU (nextR r)
  | [], h => h
  | [a], h => h
  | a :: b :: r, h => by
    intro v hv
    simp only [nextR, List.mem_cons] at hv
    rcases hv with rfl | hv
    · exact nodeN_le (fun x hx => h x (by simp at hx; rcases hx with rfl | rfl <;> simp))
    · exact nextR_ok (fun x hx => h x (by simp [hx])) v hv
/-- A row and all above it. -/
def treeF (r : List Nat) : List (List Nat) := if r.length ≤ 1 then [r] else r :: treeF (nextR r)
termination_by r.length
decreasing_by rw [nextR_len]; omega
theorem treeF_one {r : List Nat} (h : r.length ≤ 1) : treeF r = [r] := by rw [treeF, if_pos h]
theorem treeF_more {r : List Nat} (h : ¬ r.length ≤ 1) : treeF r = r :: treeF (nextR r) := by rw [treeF, if_neg h]
theorem treeF_cons (r : List Nat) : ∃ t, treeF r = r :: t := by
  by_cases h : r.length ≤ 1
  · exact ⟨[], treeF_one h⟩
  · exact ⟨_, treeF_more h⟩
def sumsT (x : List UInt8) (k : Nat) : List Nat := (List.range k).map fun i => sumN ((x.drop (64 * i)).take 64)
theorem sumsT_succ (x : List UInt8) (k : Nat) : sumsT x (k + 1) = sumsT x k ++ [sumN ((x.drop (64 * k)).take 64)] := by
  unfold sumsT; rw [List.range_succ, List.map_append]; rfl
theorem sumsT_len (x : List UInt8) (k : Nat) : (sumsT x k).length = k := by simp [sumsT]
theorem sumsT_ok (x : List UInt8) (k : Nat) : okU (sumsT x k) := fun v hv => by
  obtain ⟨i, _, rfl⟩ := List.mem_map.1 hv
  exact sumN_le _
/-- A disk's tree. -/
def treeD (x : List UInt8) : List (List Nat) := if x.length / 64 = 0 then [] else treeF (sumsT x (x.length / 64))
/-- A row of sums. -/
structure URow where
  a : Option Addr
  n : Nat
  c : Nat
  l : List Nat
def URow.val (r : URow) : Value := .slice r.a r.n r.c
structure URow.ok (w : World) (r : URow) : Prop where
  len : r.n = r.l.length
  cap : r.n ≤ r.c
  cells : Cells w r.a (us r.l)
theorem us_app (x y : List Nat) : us (x ++ y) = us x ++ us y := by simp [us]
theorem us_len (x : List Nat) : (us x).length = x.length := by simp [us]
theorem us_one (x : List Nat) : ∀ u ∈ us x, u.oneCell' = true := fun u hu => by obtain ⟨v, _, rfl⟩ := List.mem_map.1 hu; rfl
theorem step_pair {r : List Nat} {i k a b : Nat} (hi : i = 2 * k) (ha : r[i]? = some a) (hb : r[i + 1]? = some b) : nextR (r.take (i + 2)) = nextR (r.take i) ++ [nodeN [a, b]] := by
  have hl : i + 1 < r.length := (List.getElem?_eq_some_iff.1 hb).1
  have e : r.take (i + 2) = r.take i ++ [a, b] := by
    rw [show i + 2 = (i + 1) + 1 by omega, List.take_add_one, hb, List.take_add_one, ha]; simp
  rw [e, nextR_app k _ _ (by rw [List.length_take]; omega)]; rfl
theorem step_last {r : List Nat} {i k a : Nat} (hi : i = 2 * k) (ha : r[i]? = some a) (hb : r.length = i + 1) : nextR r = nextR (r.take i) ++ [a] := by
  have e : r = r.take i ++ [a] := by
    have h1 : r.take (i + 1) = r := List.take_of_length_le (by omega)
    rw [List.take_add_one, ha] at h1
    exact h1.symm
  have h2 := nextR_app k (r.take i) [a] (by rw [List.length_take]; omega)
  rw [← e] at h2
  exact h2

end Go.Proofs.Yteaihincmfbblaa
/-
  The walks of package digest.
-/
set_option linter.unusedVariables false
set_option linter.unusedSimpArgs false
set_option maxRecDepth 4000
namespace Go.Proofs.Yteaihincmfbblaa
open Go Brv
structure RtS where
  i : Nat
  a : Option Addr
  c : Nat
structure RtO where
  rs : List URow
  r : URow
  a : Option Addr
  c : Nat
theorem quo64 (x : List UInt8) : ((x.length : Int) / 64) = ((x.length / 64 : Nat) : Int) := by norm_cast

set_option maxHeartbeats 1000000 in
theorem rtree_ok (x : List UInt8) (hx : x.length ≤ 100000) : SpecS Try.prog 60 [.string (str x)] [] (fun v H' => ∃ a n c, ∃ Rr : List URow, v = .slice a n c ∧ n = Rr.length ∧ Rr.map URow.l = treeD x ∧ H' = [sh (fun w => Cells w a (Rr.map URow.val) ∧ ∀ r ∈ Rr, URow.ok w r)]) := by
  refine SpecS.enter Try.func60 rfl 72 rfl (Nat.le_of_ble_eq_true rfl) (fun o => ?_)
  have hsl := sumsT_len x (x.length / 64)
  have hso := sumsT_ok x (x.length / 64)
  refine SG.seq ?_
  refine SG.region ?_
  refine SL.val rfl rfl (fun w9 F9 S9 s => R.as rfl) ?_
  refine SL.nil ?_
  refine SN.seq ?_
  refine SG.seq ?_
  refine SG.region ?_
  refine SL.val rfl rfl (fun w9 F9 S9 s => R.as rfl) ?_
  refine SL.nil ?_
  refine SN.seq ?_
  refine SG.seq ?_
  refine SG.seq ?_
  refine SG.region ?_
  refine SL.val rfl rfl (fun w9 F9 S9 s => R.as rfl) ?_
  refine SL.nil ?_
  refine SN.seq ?_
  refine SG.block ?_
  refine SG.imp (Imp.ownNil 64 1) ?_
  refine SG.loop (X := RtS) (fun y => [(0, .string (str x)), (3, .slice y.a y.i y.c), (4, .int .i64 (y.i : Int))]) (fun y => [own 64 1 y.a (y.i) y.c (us (sumsT x y.i))]) (fun y => y.i ≤ x.length / 64) (fun y => x.length / 64 - y.i) (⟨0, none, 0⟩) (Sub.cons rfl (Sub.cons rfl (Sub.cons rfl (Sub.nil _)))) ((Imp.sels (by repeat (first | exact Sels.nil | apply Sels.cons | exact Sel.keep | exact Sel.here | apply Sel.there)))) (Nat.zero_le _) ?_
  rintro ⟨i, a9, c9⟩ hi
  dsimp only at hi
  show SG _ _ _ _ _ [(0, .string (str x)), (3, .slice a9 i c9), (4, .int .i64 (i : Int))] [own 64 1 a9 (i) c9 (us (sumsT x i))] _
  refine SG.seq ?_
  refine SG.seq ?_
  refine SG.region ?_
  refine SL.val rfl rfl (fun w9 F9 S9 s => R.mv rfl) ?_
  refine SL.val rfl rfl (fun w9 F9 S9 s => R.mv rfl) ?_
  refine SL.val rfl rfl (fun w9 F9 S9 s => R.lenT rfl) ?_
  refine SL.val rfl rfl (fun w9 F9 S9 s => R.quo rfl rfl (by omega) (by omega)) ?_
  refine SL.be 11 rfl (congrArg (Value.int .i64) (quo64 x)) ?_
  refine SL.val rfl rfl (fun w9 F9 S9 s => R.lss rfl rfl) ?_
  refine SL.nil ?_
  refine SN.seq ?_
  refine SG.condP rfl (fun h0 => ?_) (fun h0 => ?_)
  · refine SG.skip ?_
    refine SN.seq ?_
    refine SG.seq ?_
    refine SG.block ?_
    refine SG.region ?_
    refine SL.val rfl rfl (fun w9 F9 S9 s => R.mv rfl) ?_
    refine SL.val rfl rfl (fun w9 F9 S9 s => R.mv rfl) ?_
    refine SL.val rfl rfl (fun w9 F9 S9 s => R.mv rfl) ?_
    refine SL.val rfl rfl (fun w9 F9 S9 s => R.mul rfl rfl (by omega)) ?_
    refine SL.val rfl rfl (fun w9 F9 S9 s => R.mv rfl) ?_
    refine SL.val rfl rfl (fun w9 F9 S9 s => R.mul rfl rfl (by omega)) ?_
    refine SL.val rfl rfl (fun w9 F9 S9 s => R.add rfl rfl (by omega)) ?_
    refine SL.val rfl rfl (fun w9 F9 S9 s => R.slStr rfl rfl rfl (by omega) (by omega) (by omega)) ?_
    refine SL.be 22 rfl (congrArg (fun q => Value.string (str q)) (show _ = ((x.drop (64 * i)).take 64) by rw [show ((64 : Int) * (i : Int)).toNat = 64 * i by omega, show ((64 : Int) * (i : Int) + 64).toNat = 64 * i + 64 by omega, List.drop_take, show 64 * i + 64 - 64 * i = 64 by omega])) ?_
    refine SL.step rfl rfl (CS.call rfl go72 (rsum_ok ((x.drop (64 * i)).take 64) (by rw [List.length_take]; omega)) (by repeat (first | exact Sels.nil | apply Sels.cons | exact Sel.keep | exact Sel.here | apply Sel.there))) ?_
    rintro _ _ ⟨_, ⟨rfl, rfl⟩, rfl⟩
    refine SL.n0 ?_
    refine SL.be 23 rfl (congrArg (Value.int .u64) (sumN_eq ((x.drop (64 * i)).take 64)).symm) ?_
    refine SL.step rfl rfl (CS.buildA rfl rfl rfl rfl rfl (us [sumN ((x.drop (64 * i)).take 64)]) rfl) ?_
    rintro _ _ ⟨b24, rfl, rfl⟩
    refine SL.step rfl rfl (CS.app rfl rfl (by repeat (first | exact Sel.keep | exact Sel.here | apply Sel.there)) (fun w9 F9 S9 s => s.blkC (by repeat (first | exact Sel.keep | exact Sel.here | apply Sel.there))) rfl (us_one _) (by simp [maxLen]; omega) (by omega)) ?_
    rintro _ _ ⟨a25, c25, rfl, rfl⟩
    refine SL.val rfl rfl (fun w9 F9 S9 s => R.as rfl) ?_
    refine SL.nil ?_
    refine SN.block ?_
    refine SN.seq ?_
    refine SG.region ?_
    refine SL.val rfl rfl (fun w9 F9 S9 s => R.mv rfl) ?_
    refine SL.val rfl rfl (fun w9 F9 S9 s => R.add rfl rfl (by omega)) ?_
    refine SL.val rfl rfl (fun w9 F9 S9 s => R.as rfl) ?_
    refine SL.nil ?_
    exact SN.again (⟨i + 1, a25, c25⟩) (by show x.length / 64 - (i + 1) < x.length / 64 - i; omega) (Sub.cons rfl (Sub.cons rfl (Sub.cons rfl (Sub.nil _)))) ((show Imp _ _ by dsimp only; rw [sumsT_succ, us_app]; exact (Imp.sels (by repeat (first | exact Sels.nil | apply Sels.cons | exact Sel.keep | exact Sel.here | apply Sel.there))))) (by show i + 1 ≤ x.length / 64; omega)
  · have hin : i = x.length / 64 := by omega
    refine SG.exit _ rfl ?_
    refine SN.seq ?_
    refine SG.seq ?_
    refine SG.seq ?_
    refine SG.region ?_
    refine SL.val rfl rfl (fun w9 F9 S9 s => R.mv rfl) ?_
    refine SL.val rfl rfl (fun w9 F9 S9 s => R.lenS rfl) ?_
    refine SL.val rfl rfl (fun w9 F9 S9 s => R.eqI rfl rfl) ?_
    refine SL.nil ?_
    refine SN.seq ?_
    refine SG.condP rfl (fun h1 => ?_) (fun h1 => ?_)
    · refine SG.seq ?_
      refine SG.region ?_
      refine SL.val rfl rfl (fun w9 F9 S9 s => R.as rfl) ?_
      refine SL.nil ?_
      refine SN.seq ?_
      exact SG.ret1 rfl rfl ((Imp.pure (p := fun w => Cells w none (([] : List URow).map URow.val) ∧ ∀ r ∈ ([] : List URow), URow.ok w r) (fun w => ⟨Cells.nil _ _, by simp⟩)).trans (Imp.sels (by repeat (first | exact Sels.nil | apply Sels.cons | exact Sel.keep | exact Sel.here | apply Sel.there)))) (⟨none, 0, 0, [], rfl, rfl, by unfold treeD; rw [if_pos (by omega)]; rfl, rfl⟩)
    · refine SG.fact (fun w9 F9 S9 s => s.ownL (show Sel _ (own 64 1 a9 (i) c9 (us (sumsT x i))) _ from (by repeat (first | exact Sel.keep | exact Sel.here | apply Sel.there)))) (fun hf9 => ?_)
      obtain ⟨_, hc9⟩ := hf9
      refine SG.imp (Imp.ownSh (show Sel _ (own 64 1 a9 (i) c9 (us (sumsT x i))) _ from (by repeat (first | exact Sel.keep | exact Sel.here | apply Sel.there))) (p := fun w => URow.ok w (⟨a9, i, c9, sumsT x i⟩ : URow)) (fun w h => ⟨(sumsT_len x i).symm, hc9, h⟩)) ?_
      refine SG.skip ?_
      refine SN.seq ?_
      refine SG.seq ?_
      refine SG.region ?_
      refine SL.val rfl rfl (fun w9 F9 S9 s => R.mv rfl) ?_
      refine SL.step rfl rfl (CS.buildA rfl rfl rfl rfl rfl ([(⟨a9, i, c9, sumsT x i⟩ : URow)].map URow.val) rfl) ?_
      rintro _ _ ⟨b30, rfl, rfl⟩
      refine SL.imp (Imp.ownBlk (size := 1) (k := 1) (show Sel _ (blk b30 ([(⟨a9, i, c9, sumsT x i⟩ : URow)].map URow.val) 106) _ from (by repeat (first | exact Sel.keep | exact Sel.here | apply Sel.there))) rfl (by decide)) ?_
      refine SL.imp (Imp.weak (p := fun w => URow.ok w (⟨a9, i, c9, sumsT x i⟩ : URow)) (q := fun w => ∀ r ∈ [(⟨a9, i, c9, sumsT x i⟩ : URow)], URow.ok w r) (by repeat (first | exact Sel.keep | exact Sel.here | apply Sel.there)) (fun w h r hr => by rw [List.mem_singleton.1 hr]; exact h)) ?_
      refine SL.val rfl rfl (fun w9 F9 S9 s => R.as rfl) ?_
      refine SL.nil ?_
      refine SN.seq ?_
      refine SG.seq ?_
      refine SG.block ?_
      refine SG.loop (X := RtO) (fun y => [(3, .slice y.r.a y.r.n y.r.c), (5, .slice y.a y.rs.length y.c)]) (fun y => [own 106 1 y.a (y.rs.length) y.c (y.rs.map URow.val), sh (fun w => ∀ r ∈ y.rs, URow.ok w r), sh (fun w => URow.ok w y.r)]) (fun y => (∃ pre, y.rs.map URow.l = pre ++ [y.r.l] ∧ treeD x = pre ++ treeF y.r.l) ∧ okU y.r.l ∧ y.rs.length + y.r.l.length ≤ 100000) (fun y => y.r.l.length) (⟨[(⟨a9, i, c9, sumsT x i⟩ : URow)], (⟨a9, i, c9, sumsT x i⟩ : URow), some ⟨b30, 0, none⟩, 1⟩) (Sub.cons rfl (Sub.cons rfl (Sub.nil _))) ((Imp.sels (by repeat (first | exact Sels.nil | apply Sels.cons | exact Sel.keep | exact Sel.here | apply Sel.there)))) (⟨⟨[], rfl, by unfold treeD; rw [← hin, if_neg (by omega)]; rfl⟩, sumsT_ok x i, by show 1 + (sumsT x i).length ≤ _; rw [sumsT_len]; omega⟩) ?_
      rintro ⟨rs, r, a5, c5⟩ ⟨⟨pre, hpre, htr⟩, hok, hlen⟩
      dsimp only at hpre htr hok hlen
      refine SG.fact (fun w9 F9 S9 s => (s.sh (p := fun w => URow.ok w r) (by repeat (first | exact Sel.keep | exact Sel.here | apply Sel.there))).len) (fun hf9 => ?_)
      have hrl := hf9; clear hf9
      show SG _ _ _ _ _ [(3, .slice r.a r.n r.c), (5, .slice a5 rs.length c5)] [own 106 1 a5 (rs.length) c5 (rs.map URow.val), sh (fun w => ∀ r ∈ rs, URow.ok w r), sh (fun w => URow.ok w r)] _
      refine SG.seq ?_
      refine SG.seq ?_
      refine SG.region ?_
      refine SL.val rfl rfl (fun w9 F9 S9 s => R.mv rfl) ?_
      refine SL.val rfl rfl (fun w9 F9 S9 s => R.lenS rfl) ?_
      refine SL.val rfl rfl (fun w9 F9 S9 s => R.gtr rfl rfl) ?_
      refine SL.nil ?_
      refine SN.seq ?_
      refine SG.condP rfl (fun h2 => ?_) (fun h2 => ?_)
      · refine SG.skip ?_
        refine SN.seq ?_
        refine SG.block ?_
        refine SG.seq ?_
        refine SG.region ?_
        refine SL.val rfl rfl (fun w9 F9 S9 s => R.as rfl) ?_
        refine SL.nil ?_
        refine SN.seq ?_
        refine SG.seq ?_
        refine SG.seq ?_
        refine SG.region ?_
        refine SL.val rfl rfl (fun w9 F9 S9 s => R.as rfl) ?_
        refine SL.nil ?_
        refine SN.seq ?_
        refine SG.block ?_
        refine SG.imp (Imp.ownNil 64 1) ?_
        refine SG.loop (X := RtS) (fun y => [(3, .slice r.a r.n r.c), (5, .slice a5 rs.length c5), (6, .slice y.a (nextR (r.l.take y.i)).length y.c), (7, .int .i64 (y.i : Int))]) (fun y => [own 106 1 a5 (rs.length) c5 (rs.map URow.val), sh (fun w => ∀ r ∈ rs, URow.ok w r), sh (fun w => URow.ok w r), own 64 1 y.a ((nextR (r.l.take y.i)).length) y.c (us (nextR (r.l.take y.i)))]) (fun y => y.i ≤ r.l.length + 1 ∧ ∃ k, y.i = 2 * k) (fun y => r.l.length + 2 - y.i) (⟨0, none, 0⟩) (Sub.cons rfl (Sub.cons rfl (Sub.cons rfl (Sub.cons rfl (Sub.nil _))))) ((Imp.sels (by repeat (first | exact Sels.nil | apply Sels.cons | exact Sel.keep | exact Sel.here | apply Sel.there)))) (⟨Nat.zero_le _, 0, rfl⟩) ?_
        rintro ⟨i, a9, c9⟩ ⟨hi, k, hk⟩
        dsimp only at hi hk
        have hnl : (nextR (r.l.take i)).length ≤ r.l.length := by rw [nextR_len, List.length_take]; omega
        show SG _ _ _ _ _ [(3, .slice r.a r.n r.c), (5, .slice a5 rs.length c5), (6, .slice a9 (nextR (r.l.take i)).length c9), (7, .int .i64 (i : Int))] [own 106 1 a5 (rs.length) c5 (rs.map URow.val), sh (fun w => ∀ r ∈ rs, URow.ok w r), sh (fun w => URow.ok w r), own 64 1 a9 ((nextR (r.l.take i)).length) c9 (us (nextR (r.l.take i)))] _
        refine SG.seq ?_
        refine SG.seq ?_
        refine SG.region ?_
        refine SL.val rfl rfl (fun w9 F9 S9 s => R.mv rfl) ?_
        refine SL.val rfl rfl (fun w9 F9 S9 s => R.mv rfl) ?_
        refine SL.val rfl rfl (fun w9 F9 S9 s => R.lenS rfl) ?_
        refine SL.val rfl rfl (fun w9 F9 S9 s => R.lss rfl rfl) ?_
        refine SL.nil ?_
        refine SN.seq ?_
        refine SG.condP rfl (fun h3 => ?_) (fun h3 => ?_)
        · obtain ⟨a, ha⟩ : ∃ a, r.l[i]? = some a := ⟨_, List.getElem?_eq_getElem (by omega)⟩
          refine SG.fact (fun w9 F9 S9 s => us_pt (s.sh (p := fun w => URow.ok w r) (by repeat (first | exact Sel.keep | exact Sel.here | apply Sel.there))).cells ha) (fun hf9 => ?_)
          obtain ⟨q, hq⟩ := hf9
          have hav := hok a (List.mem_of_getElem? ha)
          refine SG.skip ?_
          refine SN.seq ?_
          refine SG.seq ?_
          refine SG.block ?_
          refine SG.seq ?_
          refine SG.region ?_
          refine SL.val rfl rfl (fun w9 F9 S9 s => R.mv rfl) ?_
          refine SL.val rfl rfl (fun w9 F9 S9 s => R.add rfl rfl (by omega)) ?_
          refine SL.val rfl rfl (fun w9 F9 S9 s => R.mv rfl) ?_
          refine SL.val rfl rfl (fun w9 F9 S9 s => R.lenS rfl) ?_
          refine SL.val rfl rfl (fun w9 F9 S9 s => R.lss rfl rfl) ?_
          refine SL.nil ?_
          refine SN.seq ?_
          refine SG.condP rfl (fun h4 => ?_) (fun h4 => ?_)
          · obtain ⟨b, hb⟩ : ∃ b, r.l[i + 1]? = some b := ⟨_, List.getElem?_eq_getElem (by omega)⟩
            have hbv := hok b (List.mem_of_getElem? hb)
            have hab : okU [a, b] := fun v hv => by simp only [List.mem_cons, List.not_mem_nil, or_false] at hv; rcases hv with rfl | rfl <;> assumption
            refine SG.draw [10, 11, 12, 13] [0, 1, 2, 3, 4, 5, 6, 7, 8, 9, 10, 11, 12, 13, 14] (by decide +kernel) rfl ?_
            refine SW.pure rfl rfl rfl rfl (fun w9 => R.mv rfl) ?_
            refine SW.pure rfl rfl rfl rfl (fun w9 => R.mv rfl) ?_
            refine SW.pure rfl rfl rfl rfl (fun w9 => R.mv rfl) ?_
            refine SW.pure rfl rfl rfl rfl (fun w9 => R.idx rfl rfl (by omega) (by omega) q hq) ?_
            refine SW.read rfl rfl rfl rfl (fun w9 F9 S9 s => R.ld (v := .int .u64 (a : Int)) rfl (us_ld (s.sh (p := fun w => URow.ok w r) (by repeat (first | exact Sel.keep | exact Sel.here | apply Sel.there))).cells hq ha)) ?_
            refine SW.pure rfl rfl rfl rfl (fun w9 => R.mv rfl) ?_
            refine SW.pure rfl rfl rfl rfl (fun w9 => R.mv rfl) ?_
            refine SW.pure rfl rfl rfl rfl (fun w9 => R.add rfl rfl (by omega)) ?_
            refine SW.be 52 rfl (congrArg (Value.int .i64) (show (i : Int) + 1 = ((i + 1 : Nat) : Int) by omega)) ?_
            refine SW.pure rfl rfl rfl rfl (fun w9 => R.idx rfl rfl (by omega) (by omega) q hq) ?_
            refine SW.read rfl rfl rfl rfl (fun w9 F9 S9 s => R.ld (v := .int .u64 (b : Int)) rfl (us_ld (s.sh (p := fun w => URow.ok w r) (by repeat (first | exact Sel.keep | exact Sel.here | apply Sel.there))).cells hq hb)) ?_
            refine SW.step rfl rfl rfl rfl (CS.buildA rfl rfl rfl rfl rfl (us [a, b]) rfl) ?_
            rintro _ _ ⟨b55, rfl, rfl⟩
            refine ⟨⟨.inl (by decide +kernel), ⟨.inl (by decide +kernel), trivial⟩⟩, ?_⟩
            refine SW.step rfl rfl rfl rfl (CS.imp (Imp.blkSh (p := fun w => Cells w (some ⟨b55, 0, none⟩) (us [a, b])) (show Sel _ (blk b55 (us [a, b]) _) _ from (by repeat (first | exact Sel.keep | exact Sel.here | apply Sel.there))) (fun w h => Cells.of_blk h 0 _ (fun j v hj => by simpa using hj))) (CS.call rfl go73 (rnode_ok (some ⟨b55, 0, none⟩) 2 2 [a, b] rfl (by decide) hab) (by repeat (first | exact Sels.nil | apply Sels.cons | exact Sel.keep | exact Sel.here | apply Sel.there)))) ?_
            rintro _ _ ⟨_, ⟨rfl, rfl⟩, rfl⟩
            refine ⟨⟨.inl (by decide +kernel), ⟨.inl (by decide +kernel), trivial⟩⟩, ?_⟩
            refine SW.n0 ?_
            refine SW.be 56 rfl (congrArg (Value.int .u64) (nodeN_eq hab).symm) ?_
            refine SW.step rfl rfl rfl rfl (CS.buildA rfl rfl rfl rfl rfl (us [nodeN [a, b]]) rfl) ?_
            rintro _ _ ⟨b57, rfl, rfl⟩
            refine ⟨⟨.inl (by decide +kernel), ⟨.inl (by decide +kernel), trivial⟩⟩, ?_⟩
            refine SW.step rfl rfl rfl rfl (CS.app rfl rfl (show Sel _ (own 64 1 a9 ((nextR (r.l.take i)).length) c9 (us (nextR (r.l.take i)))) _ from (by repeat (first | exact Sel.keep | exact Sel.here | apply Sel.there))) (fun w9 F9 S9 s => s.blkC (show Sel _ (blk b57 (us [nodeN [a, b]]) _) _ from (by repeat (first | exact Sel.keep | exact Sel.here | apply Sel.there)))) rfl (us_one _) (by simp [maxLen]; omega) (by omega)) ?_
            rintro _ _ ⟨a58, c58, rfl, rfl⟩
            refine ⟨⟨.inl (by decide +kernel), ⟨.inl (by decide +kernel), trivial⟩⟩, ?_⟩
            refine SW.pure rfl rfl rfl rfl (fun w9 => R.as rfl) ?_
            refine SW.nil ?_
            refine SN.be 6 rfl (show Value.slice a58 ((nextR (r.l.take i)).length + 1) c58 = .slice a58 (nextR (r.l.take (i + 2))).length c58 by rw [step_pair hk ha hb, List.length_append]; rfl) ?_
            refine SN.block ?_
            refine SN.seq ?_
            refine SG.region ?_
            refine SL.val rfl rfl (fun w9 F9 S9 s => R.mv rfl) ?_
            refine SL.val rfl rfl (fun w9 F9 S9 s => R.add rfl rfl (by omega)) ?_
            refine SL.val rfl rfl (fun w9 F9 S9 s => R.as rfl) ?_
            refine SL.nil ?_
            exact SN.again (⟨i + 2, a58, c58⟩) (by show r.l.length + 2 - (i + 2) < r.l.length + 2 - i; omega) (Sub.cons rfl (Sub.cons rfl (Sub.cons rfl (Sub.cons rfl (Sub.nil _))))) ((show Imp _ _ by dsimp only; rw [step_pair hk ha hb, us_app, List.length_append]; exact (Imp.sels (by repeat (first | exact Sels.nil | apply Sels.cons | exact Sel.keep | exact Sel.here | apply Sel.there))))) (⟨by show i + 2 ≤ r.l.length + 1; omega, k + 1, by show i + 2 = 2 * (k + 1); omega⟩)
          · refine SG.region ?_
            refine SL.val rfl rfl (fun w9 F9 S9 s => R.mv rfl) ?_
            refine SL.val rfl rfl (fun w9 F9 S9 s => R.mv rfl) ?_
            refine SL.val rfl rfl (fun w9 F9 S9 s => R.mv rfl) ?_
            refine SL.val rfl rfl (fun w9 F9 S9 s => R.idx rfl rfl (by omega) (by omega) q hq) ?_
            refine SL.val rfl rfl (fun w9 F9 S9 s => R.ld (v := .int .u64 (a : Int)) rfl (us_ld (s.sh (p := fun w => URow.ok w r) (by repeat (first | exact Sel.keep | exact Sel.here | apply Sel.there))).cells hq ha)) ?_
            refine SL.step rfl rfl (CS.buildA rfl rfl rfl rfl rfl (us [a]) rfl) ?_
            rintro _ _ ⟨b64, rfl, rfl⟩
            refine SL.step rfl rfl (CS.app rfl rfl (show Sel _ (own 64 1 a9 ((nextR (r.l.take i)).length) c9 (us (nextR (r.l.take i)))) _ from (by repeat (first | exact Sel.keep | exact Sel.here | apply Sel.there))) (fun w9 F9 S9 s => s.blkC (show Sel _ (blk b64 (us [a]) _) _ from (by repeat (first | exact Sel.keep | exact Sel.here | apply Sel.there)))) rfl (us_one _) (by simp [maxLen]; omega) (by omega)) ?_
            rintro _ _ ⟨a65, c65, rfl, rfl⟩
            refine SL.val rfl rfl (fun w9 F9 S9 s => R.as rfl) ?_
            refine SL.nil ?_
            refine SN.be 6 rfl (show Value.slice a65 ((nextR (r.l.take i)).length + 1) c65 = .slice a65 (nextR (r.l.take (i + 2))).length c65 by rw [List.take_of_length_le (show r.l.length ≤ i + 2 by omega), step_last hk ha (by omega), List.length_append]; rfl) ?_
            refine SN.block ?_
            refine SN.seq ?_
            refine SG.region ?_
            refine SL.val rfl rfl (fun w9 F9 S9 s => R.mv rfl) ?_
            refine SL.val rfl rfl (fun w9 F9 S9 s => R.add rfl rfl (by omega)) ?_
            refine SL.val rfl rfl (fun w9 F9 S9 s => R.as rfl) ?_
            refine SL.nil ?_
            exact SN.again (⟨i + 2, a65, c65⟩) (by show r.l.length + 2 - (i + 2) < r.l.length + 2 - i; omega) (Sub.cons rfl (Sub.cons rfl (Sub.cons rfl (Sub.cons rfl (Sub.nil _))))) ((show Imp _ _ by dsimp only; rw [List.take_of_length_le (show r.l.length ≤ i + 2 by omega), step_last hk ha (by omega), us_app, List.length_append]; exact (Imp.sels (by repeat (first | exact Sels.nil | apply Sels.cons | exact Sel.keep | exact Sel.here | apply Sel.there))))) (⟨by show i + 2 ≤ r.l.length + 1; omega, k + 1, by show i + 2 = 2 * (k + 1); omega⟩)
        · rw [List.take_of_length_le (show r.l.length ≤ i by omega)]
          refine SG.fact (fun w9 F9 S9 s => s.ownL (show Sel _ (own 64 1 a9 ((nextR r.l).length) c9 (us (nextR r.l))) _ from (by repeat (first | exact Sel.keep | exact Sel.here | apply Sel.there)))) (fun hf9 => ?_)
          obtain ⟨_, hc9⟩ := hf9
          refine SG.imp (Imp.ownSh (show Sel _ (own 64 1 a9 ((nextR r.l).length) c9 (us (nextR r.l))) _ from (by repeat (first | exact Sel.keep | exact Sel.here | apply Sel.there))) (p := fun w => URow.ok w (⟨a9, (nextR r.l).length, c9, nextR r.l⟩ : URow)) (fun w h => ⟨rfl, hc9, h⟩)) ?_
          refine SG.exit _ rfl ?_
          refine SN.seq ?_
          refine SG.seq ?_
          refine SG.region ?_
          refine SL.val rfl rfl (fun w9 F9 S9 s => R.mv rfl) ?_
          refine SL.val rfl rfl (fun w9 F9 S9 s => R.mv rfl) ?_
          refine SL.step rfl rfl (CS.buildA rfl rfl rfl rfl rfl ([(⟨a9, (nextR r.l).length, c9, nextR r.l⟩ : URow)].map URow.val) rfl) ?_
          rintro _ _ ⟨b68, rfl, rfl⟩
          refine SL.step rfl rfl (CS.app rfl rfl (show Sel _ (own 106 1 a5 (rs.length) c5 (rs.map URow.val)) _ from (by repeat (first | exact Sel.keep | exact Sel.here | apply Sel.there))) (fun w9 F9 S9 s => s.blkC (show Sel _ (blk b68 ([(⟨a9, (nextR r.l).length, c9, nextR r.l⟩ : URow)].map URow.val) _) _ from (by repeat (first | exact Sel.keep | exact Sel.here | apply Sel.there)))) rfl (by intro u hu; simp only [List.map_cons, List.map_nil, List.mem_singleton] at hu; subst hu; rfl) (by simp [maxLen]; omega) (by omega)) ?_
          rintro _ _ ⟨a69, c69, rfl, rfl⟩
          refine SL.val rfl rfl (fun w9 F9 S9 s => R.as rfl) ?_
          refine SL.nil ?_
          refine SN.imp (Imp.both (p := fun w => ∀ r ∈ rs, URow.ok w r) (q := fun w => URow.ok w (⟨a9, (nextR r.l).length, c9, nextR r.l⟩ : URow)) (by repeat (first | exact Sel.keep | exact Sel.here | apply Sel.there)) (by repeat (first | exact Sel.keep | exact Sel.here | apply Sel.there))) ?_
          refine SN.imp (Imp.weak (p := fun w => (∀ r ∈ rs, URow.ok w r) ∧ URow.ok w (⟨a9, (nextR r.l).length, c9, nextR r.l⟩ : URow)) (q := fun w => ∀ q ∈ rs ++ [(⟨a9, (nextR r.l).length, c9, nextR r.l⟩ : URow)], URow.ok w q) (by repeat (first | exact Sel.keep | exact Sel.here | apply Sel.there)) (fun w hw q hq => (List.mem_append.1 hq).elim (hw.1 q) (fun h => by rw [List.mem_singleton.1 h]; exact hw.2))) ?_
          refine SN.be 5 rfl (show Value.slice a69 (rs.length + 1) c69 = .slice a69 (rs ++ [(⟨a9, (nextR r.l).length, c9, nextR r.l⟩ : URow)]).length c69 by rw [List.length_append]; rfl) ?_
          refine SN.seq ?_
          refine SG.region ?_
          refine SL.val rfl rfl (fun w9 F9 S9 s => R.mv rfl) ?_
          refine SL.val rfl rfl (fun w9 F9 S9 s => R.as rfl) ?_
          refine SL.nil ?_
          refine SN.block ?_
          exact SN.again (⟨rs ++ [(⟨a9, (nextR r.l).length, c9, nextR r.l⟩ : URow)], (⟨a9, (nextR r.l).length, c9, nextR r.l⟩ : URow), a69, c69⟩) (by show (nextR r.l).length < r.l.length; rw [nextR_len]; omega) (Sub.cons rfl (Sub.cons rfl (Sub.nil _))) ((show Imp _ _ by dsimp only; rw [List.length_append, List.map_append]; exact (Imp.sels (by repeat (first | exact Sels.nil | apply Sels.cons | exact Sel.keep | exact Sel.here | apply Sel.there))))) (⟨⟨pre ++ [r.l], by rw [List.map_append, hpre]; rfl, by rw [htr, treeF_more (by omega), List.append_assoc]; rfl⟩, nextR_ok hok, by show (rs ++ [(⟨a9, (nextR r.l).length, c9, nextR r.l⟩ : URow)]).length + (nextR r.l).length ≤ 100000; rw [nextR_len, List.length_append]; simp only [List.length_singleton]; omega⟩)
      · have h1l : r.l.length ≤ 1 := by omega
        rw [treeF_one h1l, ← hpre] at htr
        refine SG.imp (Imp.ownSh (show Sel _ (own 106 1 a5 (rs.length) c5 (rs.map URow.val)) _ from (by repeat (first | exact Sel.keep | exact Sel.here | apply Sel.there))) (p := fun w => Cells w a5 (rs.map URow.val)) (fun w h => h)) ?_
        refine SG.imp (Imp.both (p := fun w => Cells w a5 (rs.map URow.val)) (q := fun w => ∀ r ∈ rs, URow.ok w r) (by repeat (first | exact Sel.keep | exact Sel.here | apply Sel.there)) (by repeat (first | exact Sel.keep | exact Sel.here | apply Sel.there))) ?_
        refine SG.exit _ rfl ?_
        refine SN.seq ?_
        refine SG.seq ?_
        refine SG.region ?_
        refine SL.val rfl rfl (fun w9 F9 S9 s => R.mv rfl) ?_
        refine SL.val rfl rfl (fun w9 F9 S9 s => R.as rfl) ?_
        refine SL.nil ?_
        refine SN.seq ?_
        exact SG.ret1 rfl rfl ((Imp.sels (by repeat (first | exact Sels.nil | apply Sels.cons | exact Sel.keep | exact Sel.here | apply Sel.there)))) (⟨a5, rs.length, c5, rs, rfl, rfl, htr.symm, rfl⟩)

end Go.Proofs.Yteaihincmfbblaa
/-
  The walks of package digest.
-/
set_option linter.unusedVariables false
set_option linter.unusedSimpArgs false
set_option maxRecDepth 4000
namespace Go.Proofs.Yteaihincmfbblaa
open Go Brv
theorem chunk_cells {w : World} {r : URow} (h : r.ok w) {k : Nat} (hk : 2 * k < r.n) {m e : Nat} (hm : m = min 2 (r.n - 2 * k)) (he : e = 2 * k + m) : Cells w (subA r.a (2 * k) e 1) (us ((r.l.drop (2 * k)).take 2)) := by
  have hl := h.len
  have := h.cells.sub (2 * k) e 1 m (by rw [us_len]; omega) (fun q => by omega)
  have e2 : ((us r.l).drop (2 * k * 1)).take m = us ((r.l.drop (2 * k)).take 2) := by
    rw [Nat.mul_one]
    unfold us
    rw [← List.map_drop, ← List.map_take]
    congr 1
    by_cases h2 : 2 ≤ r.n - 2 * k
    · rw [hm, Nat.min_eq_left h2]
    · rw [List.take_of_length_le (by rw [List.length_drop]; omega), List.take_of_length_le (by rw [List.length_drop]; omega)]
  rw [e2] at this; exact this
theorem chunk1_ok (y : Value) (b2 b3 : Nat) (r : URow) (J Jx : Nat → Asn) (hn : r.n ≤ 1000000) (hY : ∀ k vs p, k < (r.n + 1) / 2 → (fun k vs p => ∃ a m c, vs = [.slice a m c] ∧ m = ((r.l.drop (2 * k)).take 2).length ∧ m ≤ c ∧ p = fun w => Cells w a (us ((r.l.drop (2 * k)).take 2))) k vs p → YSpec Try.prog y vs [sh p, J k] (fun b H' => H' = [if b then J (k + 1) else Jx (k + 1)])) : SpecS Try.prog 76 [y, .pointer (some ⟨b2, 0, none⟩), .pointer (some ⟨b3, 0, none⟩)] [J 0, fz b2 [.slice r.a r.n r.c] 106, fz b3 [.int .i64 2] 3, sh (fun w => URow.ok w r)] (fun v H' => (H' = J ((r.n + 1) / 2) :: [fz b2 [.slice r.a r.n r.c] 106, fz b3 [.int .i64 2] 3, sh (fun w => URow.ok w r)] ∨ ∃ k, k ≤ (r.n + 1) / 2 ∧ H' = Jx k :: [fz b2 [.slice r.a r.n r.c] 106, fz b3 [.int .i64 2] 3, sh (fun w => URow.ok w r)])) := by
  refine SpecS.enter Try.func76 rfl 31 rfl (Nat.le_of_ble_eq_true rfl) (fun o => ?_)
  refine SG.fact (fun w9 F9 S9 s => (s.sh (p := fun w => URow.ok w r) (by repeat (first | exact Sel.keep | exact Sel.here | apply Sel.there))).len) (fun hf9 => ?_)
  have hrl := hf9; clear hf9
  refine SG.fact (fun w9 F9 S9 s => (s.sh (p := fun w => URow.ok w r) (by repeat (first | exact Sel.keep | exact Sel.here | apply Sel.there))).cap) (fun hf9 => ?_)
  have hrc := hf9; clear hf9
  refine SG.seq ?_
  refine SG.region ?_
  refine SL.val rfl rfl (fun w9 F9 S9 s => R.as rfl) ?_
  refine SL.nil ?_
  refine SN.seq ?_
  refine SG.block ?_
  refine SG.loop (X := Nat) (fun k => [(0, y), (1, .pointer (some ⟨b2, 0, none⟩)), (2, .pointer (some ⟨b3, 0, none⟩)), (4, .int .i64 ((2 * k : Nat) : Int))]) (fun k => [J k, fz b2 [.slice r.a r.n r.c] 106, fz b3 [.int .i64 2] 3, sh (fun w => URow.ok w r)]) (fun k => k ≤ (r.n + 1) / 2) (fun k => (r.n + 1) / 2 - k) (0) (Sub.cons rfl (Sub.cons rfl (Sub.cons rfl (Sub.cons rfl (Sub.nil _))))) ((Imp.sels (by repeat (first | exact Sels.nil | apply Sels.cons | exact Sel.keep | exact Sel.here | apply Sel.there)))) (Nat.zero_le _) ?_
  intro k hk
  show SG _ _ _ _ _ [(0, y), (1, .pointer (some ⟨b2, 0, none⟩)), (2, .pointer (some ⟨b3, 0, none⟩)), (4, .int .i64 ((2 * k : Nat) : Int))] [J k, fz b2 [.slice r.a r.n r.c] 106, fz b3 [.int .i64 2] 3, sh (fun w => URow.ok w r)] _
  refine SG.seq ?_
  refine SG.seq ?_
  refine SG.region ?_
  refine SL.val rfl rfl (fun w9 F9 S9 s => R.mv rfl) ?_
  refine SL.val rfl rfl (fun w9 F9 S9 s => R.ldB (v := .slice r.a r.n r.c) rfl (s.cel (by repeat (first | exact SelB.blk | exact SelB.fz | apply SelB.there))) (by rfl)) ?_
  refine SL.val rfl rfl (fun w9 F9 S9 s => R.lenS rfl) ?_
  refine SL.val rfl rfl (fun w9 F9 S9 s => R.lss rfl rfl) ?_
  refine SL.nil ?_
  refine SN.seq ?_
  refine SG.condP rfl (fun h0 => ?_) (fun h0 => ?_)
  · obtain ⟨m, hm⟩ : ∃ m, m = min 2 (r.n - 2 * k) := ⟨_, rfl⟩
    have hl2 : ((r.l.drop (2 * k)).take 2).length = m := by rw [List.length_take, List.length_drop, ← hrl, hm]
    refine SG.skip ?_
    refine SN.seq ?_
    refine SG.seq ?_
    refine SG.block ?_
    refine SG.seq ?_
    refine SG.draw [] [0, 1, 2, 3, 4, 5, 6] (by decide +kernel) rfl ?_
    refine SW.read rfl rfl rfl rfl (fun w9 F9 S9 s => R.ldB (v := .int .i64 2) rfl (s.cel (by repeat (first | exact SelB.blk | exact SelB.fz | apply SelB.there))) (by rfl)) ?_
    refine SW.read rfl rfl rfl rfl (fun w9 F9 S9 s => R.ldB (v := .slice r.a r.n r.c) rfl (s.cel (by repeat (first | exact SelB.blk | exact SelB.fz | apply SelB.there))) (by rfl)) ?_
    refine SW.pure rfl rfl rfl rfl (fun w9 => R.mv rfl) ?_
    refine SW.pure rfl rfl rfl rfl (fun w9 => R.slL (i := ((2 * k : Nat) : Int)) rfl rfl (by omega) (by omega)) ?_
    refine SW.pure rfl rfl rfl rfl (fun w9 => R.lenS rfl) ?_
    refine SW.pure rfl rfl rfl rfl (fun w9 => R.min rfl rfl (m : Int) (by split <;> omega)) ?_
    refine SW.pure rfl rfl rfl rfl (fun w9 => R.as rfl) ?_
    refine SW.nil ?_
    refine SN.seq ?_
    refine SG.seq ?_
    refine SG.region ?_
    refine SL.val rfl rfl (fun w9 F9 S9 s => R.mv rfl) ?_
    refine SL.val rfl rfl (fun w9 F9 S9 s => R.ldB (v := .slice r.a r.n r.c) rfl (s.cel (by repeat (first | exact SelB.blk | exact SelB.fz | apply SelB.there))) (by rfl)) ?_
    refine SL.val rfl rfl (fun w9 F9 S9 s => R.mv rfl) ?_
    refine SL.val rfl rfl (fun w9 F9 S9 s => R.mv rfl) ?_
    refine SL.val rfl rfl (fun w9 F9 S9 s => R.mv rfl) ?_
    refine SL.val rfl rfl (fun w9 F9 S9 s => R.add rfl rfl (by omega)) ?_
    refine SL.val rfl rfl (fun w9 F9 S9 s => R.mv rfl) ?_
    refine SL.val rfl rfl (fun w9 F9 S9 s => R.mv rfl) ?_
    refine SL.val rfl rfl (fun w9 F9 S9 s => R.add rfl rfl (by omega)) ?_
    refine SL.val rfl rfl (fun w9 F9 S9 s => R.slLHM (i := ((2 * k : Nat) : Int)) (j := ((2 * k : Nat) : Int) + (m : Int)) (e := ((2 * k : Nat) : Int) + (m : Int)) rfl rfl rfl rfl (by omega) (by omega) (by omega) (by omega)) ?_
    obtain ⟨pc, hpc⟩ : ∃ pc : World → Prop, pc = fun w => Cells w (subA r.a ((2 * k : Nat) : Int).toNat (((2 * k : Nat) : Int) + (m : Int)).toNat 1) (us ((r.l.drop (2 * k)).take 2)) := ⟨_, rfl⟩
    refine SL.imp (Imp.weak (p := fun w => URow.ok w r) (q := pc) (by repeat (first | exact Sel.keep | exact Sel.here | apply Sel.there)) (fun w hw => by rw [hpc]; exact chunk_cells hw (by omega) hm (by omega))) ?_
    refine SL.step rfl rfl (CS.yield rfl rfl (hY k _ pc (by omega) ⟨_, _, _, rfl, by rw [hl2]; omega, by omega, hpc⟩) (by repeat (first | exact Sels.nil | apply Sels.cons | exact Sel.keep | exact Sel.here | apply Sel.there))) ?_
    rintro _ _ ⟨_, ⟨bq, rfl, rfl⟩, rfl⟩
    refine SL.n1 ?_
    refine SL.val rfl rfl (fun w9 F9 S9 s => R.not rfl) ?_
    refine SL.nil ?_
    refine SN.seq ?_
    refine SG.condB rfl (fun h1 => ?_) (fun h1 => ?_)
    · obtain rfl : bq = false := by simpa using h1
      exact SG.ret0 rfl ((Imp.sels (by repeat (first | exact Sels.nil | apply Sels.cons | exact Sel.keep | exact Sel.here | apply Sel.there)))) (.inr ⟨k + 1, by omega, rfl⟩)
    · obtain rfl : bq = true := by simpa using h1
      refine SG.skip ?_
      refine SN.block ?_
      refine SN.seq ?_
      refine SG.region ?_
      refine SL.val rfl rfl (fun w9 F9 S9 s => R.mv rfl) ?_
      refine SL.val rfl rfl (fun w9 F9 S9 s => R.ldB (v := .int .i64 2) rfl (s.cel (by repeat (first | exact SelB.blk | exact SelB.fz | apply SelB.there))) (by rfl)) ?_
      refine SL.val rfl rfl (fun w9 F9 S9 s => R.add rfl rfl (by omega)) ?_
      refine SL.val rfl rfl (fun w9 F9 S9 s => R.as rfl) ?_
      refine SL.nil ?_
      refine SN.be 4 rfl (congrArg (Value.int .i64) (show ((2 * k : Nat) : Int) + 2 = ((2 * (k + 1) : Nat) : Int) by omega)) ?_
      exact SN.again (k + 1) (by show (r.n + 1) / 2 - (k + 1) < (r.n + 1) / 2 - k; omega) (Sub.cons rfl (Sub.cons rfl (Sub.cons rfl (Sub.cons rfl (Sub.nil _))))) ((Imp.sels (by repeat (first | exact Sels.nil | apply Sels.cons | exact Sel.keep | exact Sel.here | apply Sel.there)))) (by show k + 1 ≤ (r.n + 1) / 2; omega)
  · obtain rfl : k = (r.n + 1) / 2 := by omega
    refine SG.exit _ rfl ?_
    exact SN.end0 rfl ((Imp.sels (by repeat (first | exact Sels.nil | apply Sels.cons | exact Sel.keep | exact Sel.here | apply Sel.there)))) (.inl rfl)

theorem chunk_iterS (b2 b3 : Nat) (r : URow) (hn : r.n ≤ 1000000) : IterS Try.prog 76 [.pointer (some ⟨b2, 0, none⟩), .pointer (some ⟨b3, 0, none⟩)] [fz b2 [.slice r.a r.n r.c] 106, fz b3 [.int .i64 2] 3, sh (fun w => URow.ok w r)] ((r.n + 1) / 2) (fun k vs p => ∃ a m c, vs = [.slice a m c] ∧ m = ((r.l.drop (2 * k)).take 2).length ∧ m ≤ c ∧ p = fun w => Cells w a (us ((r.l.drop (2 * k)).take 2))) := fun y J Jx hY => chunk1_ok y b2 b3 r J Jx hn hY

theorem chunk_ok (r : URow) : SpecS Try.prog 66 [.slice r.a r.n r.c, .int .i64 2] [] (fun v H' => ∃ b2 b3, v = .func (.func 76) #[] #[.pointer (some ⟨b2, 0, none⟩), .pointer (some ⟨b3, 0, none⟩)] ∧ H' = [fz b2 [.slice r.a r.n r.c] 106, fz b3 [.int .i64 2] 3]) := by
  refine SpecS.enter Try.func66 rfl 9 rfl (Nat.le_of_ble_eq_true rfl) (fun o => ?_)
  refine SG.seq ?_
  refine SG.region ?_
  refine SL.step rfl rfl (CS.box1 rfl rfl) ?_
  rintro _ _ ⟨b2, rfl, rfl⟩
  refine SL.step rfl rfl (CS.box1 rfl rfl) ?_
  rintro _ _ ⟨b3, rfl, rfl⟩
  refine SL.val rfl rfl (fun w9 F9 S9 s => R.as rfl) ?_
  refine SL.nil ?_
  refine SN.seq ?_
  refine SG.seq ?_
  refine SG.seq ?_
  refine SG.region ?_
  refine SL.val rfl rfl (fun w9 F9 S9 s => R.ldB rfl (s.cel (by repeat (first | exact SelB.blk | exact SelB.fz | apply SelB.there))) (by rfl)) ?_
  refine SL.val rfl rfl (fun w9 F9 S9 s => R.lss rfl rfl) ?_
  refine SL.nil ?_
  refine SN.seq ?_
  refine SG.condP rfl (fun h0 => ?_) (fun h0 => ?_)
  · exfalso; omega
  · refine SG.skip ?_
    refine SN.seq ?_
    refine SG.seq ?_
    refine SG.region ?_
    refine SL.val rfl rfl (fun w9 F9 S9 s => R.mkFunc rfl rfl) ?_
    refine SL.val rfl rfl (fun w9 F9 S9 s => R.as rfl) ?_
    refine SL.nil ?_
    refine SN.imp (Imp.fz (show Sel _ (blk b2 [.slice r.a r.n r.c] _) _ from (by repeat (first | exact Sel.keep | exact Sel.here | apply Sel.there)))) ?_
    refine SN.imp (Imp.fz (show Sel _ (blk b3 [.int .i64 2] _) _ from (by repeat (first | exact Sel.keep | exact Sel.here | apply Sel.there)))) ?_
    refine SN.seq ?_
    exact SG.ret1 rfl rfl ((Imp.sels (by repeat (first | exact Sels.nil | apply Sels.cons | exact Sel.keep | exact Sel.here | apply Sel.there)))) (⟨b2, b3, rfl, rfl⟩)

end Go.Proofs.Yteaihincmfbblaa
/-
  The arrays of bytes, to be compared.
-/
set_option linter.unusedVariables false
namespace Go.Proofs.Yteaihincmfbblaa
open Go Brv
instance : TyBArr Try.prog 101 64 := ⟨⟨_, Try.underlying101, Try.underlying5, by kernel_rfl⟩, by kernel_rfl⟩
instance : TyBArr Try.prog 102 64 := ⟨⟨_, Try.underlying102, Try.underlying5, by kernel_rfl⟩, by kernel_rfl⟩
end Go.Proofs.Yteaihincmfbblaa
/-
  Functions of the library, at slices of pointers.
-/
set_option linter.unusedVariables false
namespace Go.Proofs.Yteaihincmfbblaa
open Go Brv
theorem pclone_ok (a : Option Addr) (n c : Nat) (xs : List Value) (w : World) (hb : Cells w a xs) (hl : n = xs.length) (hone : ∀ u ∈ xs, u.oneCell' = true) (hn : n ≤ 1000000) : Meets Try.prog 45 [.slice a n c] w (Cloned w 98 1 n xs) := by
  refine Meets.enter Try.func45 rfl 8 rfl (Nat.le_of_ble_eq_true rfl) ?_
  refine G.seq ?_
  refine G.region ?_
  refine L.val rfl rfl (R.as rfl) ?_
  refine L.nil ?_
  refine N.seq ?_
  refine G.seq ?_
  refine G.seq ?_
  refine G.region ?_
  refine L.val rfl rfl (R.mv rfl) ?_
  refine L.val rfl rfl (R.eqNilS rfl rfl) ?_
  refine L.nil ?_
  refine N.seq ?_
  refine G.condB rfl (fun h0 => ?_) (fun h0 => ?_)
  · obtain rfl : a = none := by simpa using h0
    obtain rfl := hb.none
    obtain rfl : n = 0 := hl
    refine G.seq ?_
    refine G.region ?_
    refine L.val rfl rfl (R.as rfl) ?_
    refine L.nil ?_
    refine N.seq ?_
    refine G.ret1 rfl rfl ?_
    exact ⟨none, 0, [], rfl, Ext.refl _ _, Own.nil _ _ _, by simp⟩
  · refine G.skip ?_
    refine N.seq ?_
    refine G.seq ?_
    refine G.region ?_
    refine L.do rfl rfl (R.buildS rfl (by decide) rfl) ?_
    rintro _ w1 ⟨b5, rfl, hb5, hs5, e1, B5⟩
    have hb := hb.ext0 e1
    have o0 := Own.blk (n := 0) (size := 1) B5 (by simp) (by simp [maxLen])
    refine L.val rfl rfl (R.mv rfl) ?_
    refine L.do rfl rfl (R.app rfl rfl o0 hb (by rw [Nat.mul_one]; exact hl.symm) hone (by simp [maxLen]; omega) (by omega)) ?_
    rintro _ w2 ⟨a1, c1, M1, rfl, e2, hM1, o1⟩
    refine L.val rfl rfl (R.as rfl) ?_
    refine L.nil ?_
    refine N.seq ?_
    refine G.ret1 rfl rfl ?_
    exact ⟨a1, c1, M1, by rw [Nat.zero_add] , e1.trans e2 (by simp) (by simp; omega), by simpa using o1, by intro g hg; have := hM1 g hg; have := e1.size; simp at *; omega⟩

theorem prepeat_ok (a : Option Addr) (c : Nat) (x : Value) (k : Nat) (w : World) (hb : Cells w a [x]) (hone : x.oneCell' = true) (hk0 : 1 ≤ k) (hk : k ≤ 8192) : Meets Try.prog 43 [.slice a 1 c, .int .i64 k] w (Cloned w 98 1 k (List.replicate k x)) := by
  refine Meets.enter Try.func43 rfl 48 rfl (Nat.le_of_ble_eq_true rfl) ?_
  refine G.seq ?_
  refine G.region ?_
  refine L.val rfl rfl (R.as rfl) ?_
  refine L.nil ?_
  refine N.seq ?_
  refine G.seq ?_
  refine G.seq ?_
  refine G.region ?_
  refine L.val rfl rfl (R.mv rfl) ?_
  refine L.val rfl rfl (R.lss rfl rfl) ?_
  refine L.nil ?_
  refine N.seq ?_
  refine G.condP rfl (fun h0 => ?_) (fun h0 => ?_)
  · exfalso; omega
  · refine G.skip ?_
    refine N.seq ?_
    refine G.seq ?_
    refine G.region ?_
    refine L.val rfl rfl (R.mv rfl) ?_
    refine L.val rfl rfl (R.lenS rfl) ?_
    refine L.val rfl rfl (R.conv rfl 1 rfl) ?_
    refine L.val rfl rfl (R.mv rfl) ?_
    refine L.val rfl rfl (R.conv rfl (k : Int) (wrap_u64 (by omega))) ?_
    refine L.callF rfl rfl rfl go64 (mul_ok 1 (k : Int) _ (by decide) (by decide) (by omega) (by omega)) ?_
    rintro _ w1 ⟨rfl, hw⟩
    obtain rfl := hw.symm
    refine L.val rfl rfl (R.mv rfl) ?_
    refine L.val rfl rfl (R.ext rfl rfl) ?_
    refine L.val rfl rfl (R.ext rfl rfl) ?_
    refine L.val rfl rfl (R.as rfl) ?_
    refine L.val rfl rfl (R.as rfl) ?_
    refine L.nil ?_
    refine N.seq ?_
    refine G.seq ?_
    refine G.seq ?_
    refine G.region ?_
    refine L.val rfl rfl (R.mv rfl) ?_
    refine L.val rfl rfl (R.gtr rfl rfl) ?_
    refine L.val rfl rfl (R.mv rfl) ?_
    refine L.caseP 23 rfl (fun hg4_2 => ?_) (fun hg4_2 => ?_)
    · omega
    · refine L.val rfl rfl (R.mv rfl) ?_
      refine L.val rfl rfl (R.gtr rfl rfl) ?_
      first | refine L.val rfl rfl (R.pickT rfl rfl) ?_ | refine L.val rfl rfl (R.pickF rfl rfl) ?_
      refine L.nil ?_
      refine N.seq ?_
      refine G.condP rfl (fun h1 => ?_) (fun h1 => ?_)
      · omega
      · refine G.skip ?_
        refine N.seq ?_
        refine G.seq ?_
        refine G.region ?_
        refine L.val rfl rfl (R.mv rfl) ?_
        refine L.val rfl rfl (R.conv rfl (k : Int) (by rw [Int.one_mul]; exact wrap_i64 (by omega))) ?_
        refine L.do rfl rfl (R.make rfl rfl (by omega) (by omega) (by omega) (by omega)) ?_
        rintro _ w2 ⟨b30, rfl, hb30, hs30, e2, B30⟩
        obtain ⟨cs, hcs⟩ : ∃ cs, cs = madeCells (Value.pointer none).cells ((k : Int).toNat * 1) := ⟨_, rfl⟩
        have hsz : cs.size = k := by rw [hcs]; simp [madeCells, Value.cells]
        replace B30 : Blk w2 b30 cs 98 (0, 0) := by rw [hcs]; exact B30
        refine L.be 30 rfl (show _ = Value.slice (some ⟨b30, 0, none⟩) k k by rfl) ?_
        refine L.val rfl rfl (R.as rfl) ?_
        refine L.nil ?_
        refine N.seq ?_
        refine G.seq ?_
        refine G.region ?_
        obtain ⟨pa, rfl, _⟩ := hb 0 x rfl
        have hc1 : Cells w2 (some pa) [x] := hb.ext0 e2
        refine L.val rfl rfl (R.mv rfl) ?_
        refine L.val rfl rfl (R.mv rfl) ?_
        refine L.do rfl rfl (R.copyB rfl rfl B30 hc1 (show [x].length = Nat.min 1 k from (Nat.min_eq_left hk0).symm) (by simp; omega) (by simpa using hone)) ?_
        rintro _ w3 ⟨rfl, P3⟩
        obtain ⟨e3, hs3, B3⟩ := P3
        have hsz3 := Over.size (cur := cs) (o := 0) (cs := [x]) (by simp; omega)
        have ht3 := Over.take (cur := cs) (o := 0) (cs := [x]) (Nat.zero_le _)
        refine L.val rfl rfl (R.as rfl) ?_
        refine L.nil ?_
        refine N.seq ?_
        refine G.seq ?_
        refine G.block ?_
        obtain ⟨y, hyx⟩ : ∃ y, y = x := ⟨x, rfl⟩
        subst hyx
        refine G.loop (X := Nat × Array Value) (fun x => [(7, .slice (some ⟨b30, 0, none⟩) k k), (8, .int .i64 (x.1 : Int))]) (fun x w' => 1 ≤ x.1 ∧ x.1 ≤ k ∧ x.2.size = k ∧ Blk w' b30 x.2 98 (0, 0) ∧ x.2.toList.take x.1 = List.replicate x.1 y ∧ Ext [] w w') (fun x => k - x.1) ((1, Over cs 0 [y])) (Sub.cons rfl (Sub.cons rfl (Sub.nil _))) ⟨Nat.le_refl 1, by omega, by rw [hsz3]; exact hsz, B3, by simpa using ht3, e2.trans e3 (by simp) (by simp; omega)⟩ ?_
        rintro ⟨p, cur⟩ w4 ⟨hp1, hp2, hz1, B4, ht4, e4⟩
        dsimp only at hp1 hp2 hz1 B4 ht4
        refine G.seq ?_
        refine G.seq ?_
        refine G.region ?_
        refine L.val rfl rfl (R.mv rfl) ?_
        refine L.val rfl rfl (R.mv rfl) ?_
        refine L.val rfl rfl (R.lenS rfl) ?_
        refine L.val rfl rfl (R.lss rfl rfl) ?_
        refine L.nil ?_
        refine N.seq ?_
        refine G.condP rfl (fun h2 => ?_) (fun h2 => ?_)
        · have hpk : p < k := by omega
          have hmn : (List.replicate (min p (k - p)) y).length = min p (k - p) := by simp
          have hov : p + (List.replicate (min p (k - p)) y).length ≤ cur.size := by rw [hmn]; omega
          refine G.skip ?_
          refine N.seq ?_
          refine G.block ?_
          refine G.staged [7] [.blocks ([b30])] [fun w' => Ext [] w4 w', fun w' => Ext [b30] w4 w' ∧ Blk w' b30 (Over cur p (List.replicate (min p (k - p)) y)) 98 (0, 0)] [] (by decide +kernel) (by decide +kernel) rfl rfl rfl (fun _ h => h) ?_
          refine Z.val rfl rfl rfl rfl rfl (fun w5 => R.mv rfl) ?_
          refine Z.val rfl rfl rfl rfl rfl (fun w5 => R.mv rfl) ?_
          refine Z.val rfl rfl rfl rfl rfl (fun w5 => R.mv rfl) ?_
          refine Z.val rfl rfl rfl rfl rfl (fun w5 => R.slL rfl rfl (by omega) (by omega)) ?_
          refine Z.be 41 rfl (show Value.slice (subA (some ⟨b30, 0, none⟩) (p : Int).toNat k 1) (k - (p : Int).toNat) (k - (p : Int).toNat) = .slice (some ⟨b30, p, none⟩) (k - p) (k - p) by rw [Int.toNat_natCast, subA_lit (by omega), Nat.zero_add, Nat.mul_one]) ?_
          refine Z.val rfl rfl rfl rfl rfl (fun w5 => R.mv rfl) ?_
          refine Z.val rfl rfl rfl rfl rfl (fun w5 => R.mv rfl) ?_
          refine Z.val rfl rfl rfl rfl rfl (fun w5 => R.slH rfl rfl (by omega) (by omega)) ?_
          refine Z.be 44 rfl (show Value.slice (subA (some ⟨b30, 0, none⟩) 0 k 1) (p : Int).toNat k = .slice (some ⟨b30, 0, none⟩) p k by rw [subA_zero, Int.toNat_natCast]) ?_
          refine Z.put (A := fun v _ => v = .int .i64 ((min p (k - p) : Nat) : Int)) (Lasts.kill (fun _ _ _ _ h => h) (by decide +kernel)) 0 (by decide +kernel) rfl rfl rfl rfl rfl rfl rfl (fun w5 hJ => (R.copyB rfl rfl (B4.ext0 hJ) (Cells.of_blk (B4.ext0 hJ) 0 _ (fun j v hj => cells_repV ht4 (Nat.min_le_left _ _) j v hj)) (by rw [hmn]) hov (fun u hu => by rw [(List.mem_replicate.1 hu).2]; exact hone)).mono (fun v w' h => by obtain ⟨rfl, h1, h2, h3⟩ := h; rw [hmn]; exact ⟨rfl, h1, h1.after hJ, h3⟩)) ?_
          refine Z.valR (A := fun v _ => v = .int .i64 ((p : Int) + ((min p (k - p) : Nat) : Int))) (Lasts.kill (fun _ _ _ _ h => h) (by decide +kernel)) rfl rfl rfl rfl (fun w5 => by rintro _ rfl; exact ⟨_, R.add rfl rfl (by omega), rfl⟩) ?_
          refine Z.valR (A := fun v _ => v = .int .i64 ((p + min p (k - p) : Nat) : Int)) (Lasts.kill (fun _ _ _ _ h => h) (by decide +kernel)) rfl rfl rfl rfl (fun w5 => by rintro _ rfl; exact ⟨_, R.as rfl, by simp⟩) ?_
          refine Z.nil rfl rfl (fun w5 hJ => ?_)
          obtain ⟨e6, B6⟩ := hJ
          rintro _ rfl _ _ _ _
          have hE6 : Ext [] w w5 := e4.trans e6 (by simp) (by simp; omega)
          have hto := Over.take (cur := cur) (o := p) (cs := (List.replicate (min p (k - p)) y)) (by omega)
          rw [hmn, ht4, List.replicate_append_replicate] at hto
          refine N.block ?_
          exact N.again (p + min p (k - p), Over cur p (List.replicate (min p (k - p)) y)) (by show k - (p + min p (k - p)) < k - p; omega) (Sub.cons rfl (Sub.cons rfl (Sub.nil _))) ⟨by show 1 ≤ p + min p (k - p); omega, by show p + min p (k - p) ≤ k; omega, by show (Over cur p _).size = k; rw [Over.size hov]; exact hz1, B6, hto, hE6⟩
        · have hpk : p = k := by omega
          subst hpk
          refine G.exit _ rfl ?_
          refine N.seq ?_
          refine G.seq ?_
          refine G.region ?_
          refine L.val rfl rfl (R.mv rfl) ?_
          refine L.val rfl rfl (R.as rfl) ?_
          refine L.nil ?_
          refine N.seq ?_
          refine G.ret1 rfl rfl ?_
          exact ⟨_, _, [b30], rfl, e4, ⟨by simp, .inr ⟨b30, cur, rfl, rfl, B4, Nat.le_refl _, by simp [maxLen]; omega, by omega, by simpa using ht4⟩⟩, by intro g hg; rw [List.mem_singleton.1 hg]; omega⟩

end Go.Proofs.Yteaihincmfbblaa
