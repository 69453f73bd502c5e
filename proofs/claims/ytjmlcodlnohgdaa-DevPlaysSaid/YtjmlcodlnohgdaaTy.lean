/-
  What this seat's types are, as instances.
-/
import Derived.Test.YtjmlcodlnohgdaaC5
import Derived.Test.YtjmlcodlnohgdaaProg
import Derived.Test.YtjmlcodlnohgdaaChecked
namespace Go.Proofs.Ytjmlcodlnohgdaa
open Go Brv
instance : TyOne Try.prog 1 := ⟨by kernel_rfl, by kernel_rfl⟩
instance : TyInt Try.prog 2 .i64 := ⟨Try.underlying2⟩
instance : TyOne Try.prog 2 := ⟨by kernel_rfl, by kernel_rfl⟩
instance : TyZero Try.prog 2 (.int .i64 0) := ⟨by kernel_rfl⟩
instance : TyInt Try.prog 3 .i64 := ⟨Try.underlying3⟩
instance : TyOne Try.prog 3 := ⟨by kernel_rfl, by kernel_rfl⟩
instance : TyZero Try.prog 3 (.int .i64 0) := ⟨by kernel_rfl⟩
instance : TyBool Try.prog 4 := ⟨Try.underlying4⟩
instance : TyOne Try.prog 4 := ⟨by kernel_rfl, by kernel_rfl⟩
instance : TyZero Try.prog 4 (.bool false) := ⟨by kernel_rfl⟩
instance : TyInt Try.prog 5 .u8 := ⟨Try.underlying5⟩
instance : TyOne Try.prog 5 := ⟨by kernel_rfl, by kernel_rfl⟩
instance : TyZero Try.prog 5 (.int .u8 0) := ⟨by kernel_rfl⟩
instance : TyAgg Try.prog 7 4 := ⟨by kernel_rfl, by kernel_rfl⟩
instance : TyField Try.prog 7 0 0 := ⟨_, _, Try.underlying7, rfl, rfl, by kernel_rfl⟩
instance : TyField Try.prog 7 1 1 := ⟨_, _, Try.underlying7, rfl, rfl, by kernel_rfl⟩
instance : TyField Try.prog 7 2 2 := ⟨_, _, Try.underlying7, rfl, rfl, by kernel_rfl⟩
instance : TyField Try.prog 7 3 3 := ⟨_, _, Try.underlying7, rfl, rfl, by kernel_rfl⟩
instance : TyBuilt Try.prog 7 (fun i => (#[(0, 1), (1, 1), (2, 1), (3, 1)] : Array (Nat × Nat))[i]?) (.agg #[.int .i64 0, .int .i64 0, .bool false, .int .u8 0]) := TyBuilt.struct (ps := [(0, 1), (1, 1), (2, 1), (3, 1)]) Try.underlying7 (by kernel_rfl) (by kernel_rfl)
instance : TyZero Try.prog 7 (.agg #[.int .i64 0, .int .i64 0, .bool false, .int .u8 0]) := ⟨by kernel_rfl⟩
instance : TyStr Try.prog 9 := ⟨Try.underlying9⟩
instance : TyOne Try.prog 9 := ⟨by kernel_rfl, by kernel_rfl⟩
instance : TyZero Try.prog 9 (.string ByteArray.empty) := ⟨by kernel_rfl⟩
instance : TyInt Try.prog 12 .u64 := ⟨Try.underlying12⟩
instance : TyOne Try.prog 12 := ⟨by kernel_rfl, by kernel_rfl⟩
instance : TyZero Try.prog 12 (.int .u64 0) := ⟨by kernel_rfl⟩
instance : TyAgg Try.prog 13 2 := ⟨by kernel_rfl, by kernel_rfl⟩
instance : TyField Try.prog 13 0 0 := ⟨_, _, Try.underlying13, rfl, rfl, by kernel_rfl⟩
instance : TyField Try.prog 13 1 1 := ⟨_, _, Try.underlying13, rfl, rfl, by kernel_rfl⟩
instance : TyBuilt Try.prog 13 (fun i => (#[(0, 1), (1, 1)] : Array (Nat × Nat))[i]?) (.agg #[.string ByteArray.empty, .int .u64 0]) := TyBuilt.struct (ps := [(0, 1), (1, 1)]) Try.underlying13 (by kernel_rfl) (by kernel_rfl)
instance : TyZero Try.prog 13 (.agg #[.string ByteArray.empty, .int .u64 0]) := ⟨by kernel_rfl⟩
instance : TyAgg Try.prog 18 1 := ⟨by kernel_rfl, by kernel_rfl⟩
instance : TyField Try.prog 18 0 0 := ⟨_, _, Try.underlying18, rfl, rfl, by kernel_rfl⟩
instance : TyBuilt Try.prog 18 (fun i => (#[(0, 1)] : Array (Nat × Nat))[i]?) (.agg #[.pointer none]) := TyBuilt.struct (ps := [(0, 1)]) Try.underlying18 (by kernel_rfl) (by kernel_rfl)
instance : TyZero Try.prog 18 (.agg #[.pointer none]) := ⟨by kernel_rfl⟩
instance : TyOne Try.prog 20 := ⟨by kernel_rfl, by kernel_rfl⟩
instance : TyInt Try.prog 21 .i32 := ⟨Try.underlying21⟩
instance : TyOne Try.prog 21 := ⟨by kernel_rfl, by kernel_rfl⟩
instance : TyZero Try.prog 21 (.int .i32 0) := ⟨by kernel_rfl⟩
instance : TyOne Try.prog 22 := ⟨by kernel_rfl, by kernel_rfl⟩
instance : TyZero Try.prog 22 (.slice none 0 0) := ⟨by kernel_rfl⟩
instance : TySlice Try.prog 22 36 1 24 (.slice none 0 0) := TySlice.of Try.underlying22 (by kernel_rfl) (by kernel_rfl) (by decide)
instance : TyOne Try.prog 23 := ⟨by kernel_rfl, by kernel_rfl⟩
instance : TyPtr Try.prog 24 := ⟨_, Try.underlying24⟩
instance : TyOne Try.prog 24 := ⟨by kernel_rfl, by kernel_rfl⟩
instance : TyZero Try.prog 24 (.pointer none) := ⟨by kernel_rfl⟩
instance : TyInt Try.prog 25 .i64 := ⟨Try.underlying25⟩
instance : TyOne Try.prog 25 := ⟨by kernel_rfl, by kernel_rfl⟩
instance : TyZero Try.prog 25 (.int .i64 0) := ⟨by kernel_rfl⟩
instance : TyOne Try.prog 27 := ⟨by kernel_rfl, by kernel_rfl⟩
instance : TyOne Try.prog 28 := ⟨by kernel_rfl, by kernel_rfl⟩
instance : TyZero Try.prog 28 (.slice none 0 0) := ⟨by kernel_rfl⟩
instance : TySlice Try.prog 28 5 1 1 (.int .u8 0) := TySlice.of Try.underlying28 (by kernel_rfl) (by kernel_rfl) (by decide)
instance : TyBytes Try.prog 28 5 := ⟨Try.underlying28, Try.underlying5⟩
instance : TyOne Try.prog 30 := ⟨by kernel_rfl, by kernel_rfl⟩
instance : TyOne Try.prog 31 := ⟨by kernel_rfl, by kernel_rfl⟩
instance : TyOne Try.prog 32 := ⟨by kernel_rfl, by kernel_rfl⟩
instance : TyOne Try.prog 33 := ⟨by kernel_rfl, by kernel_rfl⟩
instance : TyOne Try.prog 34 := ⟨by kernel_rfl, by kernel_rfl⟩
instance : TyOne Try.prog 35 := ⟨by kernel_rfl, by kernel_rfl⟩
instance : TyOne Try.prog 36 := ⟨by kernel_rfl, by kernel_rfl⟩
instance : TyZero Try.prog 36 (.slice none 0 0) := ⟨by kernel_rfl⟩
instance : TySlice Try.prog 36 51 2 32 (.agg #[.int .i64 0, .slice none 0 0]) := TySlice.of Try.underlying36 (by kernel_rfl) (by kernel_rfl) (by decide)
instance : TyOne Try.prog 38 := ⟨by kernel_rfl, by kernel_rfl⟩
instance : TyOne Try.prog 39 := ⟨by kernel_rfl, by kernel_rfl⟩
instance : TyOne Try.prog 40 := ⟨by kernel_rfl, by kernel_rfl⟩
instance : TyZero Try.prog 40 (.slice none 0 0) := ⟨by kernel_rfl⟩
instance : TySlice Try.prog 40 3 1 8 (.int .i64 0) := TySlice.of Try.underlying40 (by kernel_rfl) (by kernel_rfl) (by decide)
instance : TyOne Try.prog 41 := ⟨by kernel_rfl, by kernel_rfl⟩
instance : TyOne Try.prog 42 := ⟨by kernel_rfl, by kernel_rfl⟩
instance : TyOne Try.prog 44 := ⟨by kernel_rfl, by kernel_rfl⟩
instance : TyOne Try.prog 45 := ⟨by kernel_rfl, by kernel_rfl⟩
instance : TyOne Try.prog 46 := ⟨by kernel_rfl, by kernel_rfl⟩
instance : TyOne Try.prog 47 := ⟨by kernel_rfl, by kernel_rfl⟩
instance : TyOne Try.prog 48 := ⟨by kernel_rfl, by kernel_rfl⟩
instance : TyOne Try.prog 49 := ⟨by kernel_rfl, by kernel_rfl⟩
instance : TyAgg Try.prog 50 2 := ⟨by kernel_rfl, by kernel_rfl⟩
instance : TyField Try.prog 50 0 0 := ⟨_, _, Try.underlying50, rfl, rfl, by kernel_rfl⟩
instance : TyField Try.prog 50 1 1 := ⟨_, _, Try.underlying50, rfl, rfl, by kernel_rfl⟩
instance : TyBuilt Try.prog 50 (fun i => (#[(0, 1), (1, 1)] : Array (Nat × Nat))[i]?) (.agg #[.int .i64 0, .slice none 0 0]) := TyBuilt.struct (ps := [(0, 1), (1, 1)]) Try.underlying50 (by kernel_rfl) (by kernel_rfl)
instance : TyZero Try.prog 50 (.agg #[.int .i64 0, .slice none 0 0]) := ⟨by kernel_rfl⟩
instance : TyAgg Try.prog 51 2 := ⟨by kernel_rfl, by kernel_rfl⟩
instance : TyField Try.prog 51 0 0 := ⟨_, _, Try.underlying51, rfl, rfl, by kernel_rfl⟩
instance : TyField Try.prog 51 1 1 := ⟨_, _, Try.underlying51, rfl, rfl, by kernel_rfl⟩
instance : TyBuilt Try.prog 51 (fun i => (#[(0, 1), (1, 1)] : Array (Nat × Nat))[i]?) (.agg #[.int .i64 0, .slice none 0 0]) := TyBuilt.struct (ps := [(0, 1), (1, 1)]) Try.underlying51 (by kernel_rfl) (by kernel_rfl)
instance : TyZero Try.prog 51 (.agg #[.int .i64 0, .slice none 0 0]) := ⟨by kernel_rfl⟩
instance : TyOne Try.prog 52 := ⟨by kernel_rfl, by kernel_rfl⟩
instance : TyOne Try.prog 53 := ⟨by kernel_rfl, by kernel_rfl⟩
instance : TyOne Try.prog 54 := ⟨by kernel_rfl, by kernel_rfl⟩
instance : TyOne Try.prog 55 := ⟨by kernel_rfl, by kernel_rfl⟩
instance : TyOne Try.prog 56 := ⟨by kernel_rfl, by kernel_rfl⟩
instance : TyZero Try.prog 56 (.slice none 0 0) := ⟨by kernel_rfl⟩
instance : TySlice Try.prog 56 60 64 64 (.agg (Array.replicate 64 (.int .u8 0))) := TySlice.of Try.underlying56 (by kernel_rfl) (by kernel_rfl) (by decide)
instance : TyPtr Try.prog 57 := ⟨_, Try.underlying57⟩
instance : TyOne Try.prog 57 := ⟨by kernel_rfl, by kernel_rfl⟩
instance : TyZero Try.prog 57 (.pointer none) := ⟨by kernel_rfl⟩
instance : TyOne Try.prog 59 := ⟨by kernel_rfl, by kernel_rfl⟩
instance : TyAgg Try.prog 60 64 := ⟨by kernel_rfl, by kernel_rfl⟩
instance : TyArr Try.prog 60 64 5 1 := ⟨Try.underlying60, by kernel_rfl⟩
instance : TyBuilt Try.prog 60 (fun i => some (i * 1, 1)) (.agg (Array.replicate 64 (.int .u8 0))) := TyBuilt.array Try.underlying60 (by kernel_rfl) (by kernel_rfl)
instance : TyZero Try.prog 60 (.agg (Array.replicate 64 (.int .u8 0))) := ⟨by kernel_rfl⟩
instance : TyOne Try.prog 61 := ⟨by kernel_rfl, by kernel_rfl⟩
instance : TyOne Try.prog 62 := ⟨by kernel_rfl, by kernel_rfl⟩
instance : TyOne Try.prog 63 := ⟨by kernel_rfl, by kernel_rfl⟩
instance : TyOne Try.prog 64 := ⟨by kernel_rfl, by kernel_rfl⟩
instance : TyOne Try.prog 65 := ⟨by kernel_rfl, by kernel_rfl⟩
instance : TyOne Try.prog 66 := ⟨by kernel_rfl, by kernel_rfl⟩
instance : TyOne Try.prog 67 := ⟨by kernel_rfl, by kernel_rfl⟩
instance : TyZero Try.prog 67 (.slice none 0 0) := ⟨by kernel_rfl⟩
instance : TySlice Try.prog 67 4 1 1 (.bool false) := TySlice.of Try.underlying67 (by kernel_rfl) (by kernel_rfl) (by decide)
instance : TyOne Try.prog 68 := ⟨by kernel_rfl, by kernel_rfl⟩
instance : TyOne Try.prog 69 := ⟨by kernel_rfl, by kernel_rfl⟩
instance : TyZero Try.prog 69 (.slice none 0 0) := ⟨by kernel_rfl⟩
instance : TySlice Try.prog 69 76 5 72 (.agg #[.int .i64 0, .int .i64 0, .int .i64 0, .slice none 0 0, .slice none 0 0]) := TySlice.of Try.underlying69 (by kernel_rfl) (by kernel_rfl) (by decide)
instance : TyOne Try.prog 70 := ⟨by kernel_rfl, by kernel_rfl⟩
instance : TyOne Try.prog 71 := ⟨by kernel_rfl, by kernel_rfl⟩
instance : TyZero Try.prog 71 (.slice none 0 0) := ⟨by kernel_rfl⟩
instance : TySlice Try.prog 71 134 2 24 (.agg #[.int .i64 0, .string ByteArray.empty]) := TySlice.of Try.underlying71 (by kernel_rfl) (by kernel_rfl) (by decide)
instance : TyAgg Try.prog 72 5 := ⟨by kernel_rfl, by kernel_rfl⟩
instance : TyField Try.prog 72 0 0 := ⟨_, _, Try.underlying72, rfl, rfl, by kernel_rfl⟩
instance : TyField Try.prog 72 1 1 := ⟨_, _, Try.underlying72, rfl, rfl, by kernel_rfl⟩
instance : TyField Try.prog 72 2 2 := ⟨_, _, Try.underlying72, rfl, rfl, by kernel_rfl⟩
instance : TyField Try.prog 72 3 3 := ⟨_, _, Try.underlying72, rfl, rfl, by kernel_rfl⟩
instance : TyField Try.prog 72 4 4 := ⟨_, _, Try.underlying72, rfl, rfl, by kernel_rfl⟩
instance : TyBuilt Try.prog 72 (fun i => (#[(0, 1), (1, 1), (2, 1), (3, 1), (4, 1)] : Array (Nat × Nat))[i]?) (.agg #[.string ByteArray.empty, .slice none 0 0, .int .i64 0, .int .i64 0, .bool false]) := TyBuilt.struct (ps := [(0, 1), (1, 1), (2, 1), (3, 1), (4, 1)]) Try.underlying72 (by kernel_rfl) (by kernel_rfl)
instance : TyZero Try.prog 72 (.agg #[.string ByteArray.empty, .slice none 0 0, .int .i64 0, .int .i64 0, .bool false]) := ⟨by kernel_rfl⟩
instance : TyAgg Try.prog 73 5 := ⟨by kernel_rfl, by kernel_rfl⟩
instance : TyField Try.prog 73 0 0 := ⟨_, _, Try.underlying73, rfl, rfl, by kernel_rfl⟩
instance : TyField Try.prog 73 1 1 := ⟨_, _, Try.underlying73, rfl, rfl, by kernel_rfl⟩
instance : TyField Try.prog 73 2 2 := ⟨_, _, Try.underlying73, rfl, rfl, by kernel_rfl⟩
instance : TyField Try.prog 73 3 3 := ⟨_, _, Try.underlying73, rfl, rfl, by kernel_rfl⟩
instance : TyField Try.prog 73 4 4 := ⟨_, _, Try.underlying73, rfl, rfl, by kernel_rfl⟩
instance : TyBuilt Try.prog 73 (fun i => (#[(0, 1), (1, 1), (2, 1), (3, 1), (4, 1)] : Array (Nat × Nat))[i]?) (.agg #[.string ByteArray.empty, .slice none 0 0, .int .i64 0, .int .i64 0, .bool false]) := TyBuilt.struct (ps := [(0, 1), (1, 1), (2, 1), (3, 1), (4, 1)]) Try.underlying73 (by kernel_rfl) (by kernel_rfl)
instance : TyZero Try.prog 73 (.agg #[.string ByteArray.empty, .slice none 0 0, .int .i64 0, .int .i64 0, .bool false]) := ⟨by kernel_rfl⟩
instance : TyOne Try.prog 74 := ⟨by kernel_rfl, by kernel_rfl⟩
instance : TyAgg Try.prog 75 5 := ⟨by kernel_rfl, by kernel_rfl⟩
instance : TyField Try.prog 75 0 0 := ⟨_, _, Try.underlying75, rfl, rfl, by kernel_rfl⟩
instance : TyField Try.prog 75 1 1 := ⟨_, _, Try.underlying75, rfl, rfl, by kernel_rfl⟩
instance : TyField Try.prog 75 2 2 := ⟨_, _, Try.underlying75, rfl, rfl, by kernel_rfl⟩
instance : TyField Try.prog 75 3 3 := ⟨_, _, Try.underlying75, rfl, rfl, by kernel_rfl⟩
instance : TyField Try.prog 75 4 4 := ⟨_, _, Try.underlying75, rfl, rfl, by kernel_rfl⟩
instance : TyBuilt Try.prog 75 (fun i => (#[(0, 1), (1, 1), (2, 1), (3, 1), (4, 1)] : Array (Nat × Nat))[i]?) (.agg #[.int .i64 0, .int .i64 0, .int .i64 0, .slice none 0 0, .slice none 0 0]) := TyBuilt.struct (ps := [(0, 1), (1, 1), (2, 1), (3, 1), (4, 1)]) Try.underlying75 (by kernel_rfl) (by kernel_rfl)
instance : TyZero Try.prog 75 (.agg #[.int .i64 0, .int .i64 0, .int .i64 0, .slice none 0 0, .slice none 0 0]) := ⟨by kernel_rfl⟩
instance : TyAgg Try.prog 76 5 := ⟨by kernel_rfl, by kernel_rfl⟩
instance : TyField Try.prog 76 0 0 := ⟨_, _, Try.underlying76, rfl, rfl, by kernel_rfl⟩
instance : TyField Try.prog 76 1 1 := ⟨_, _, Try.underlying76, rfl, rfl, by kernel_rfl⟩
instance : TyField Try.prog 76 2 2 := ⟨_, _, Try.underlying76, rfl, rfl, by kernel_rfl⟩
instance : TyField Try.prog 76 3 3 := ⟨_, _, Try.underlying76, rfl, rfl, by kernel_rfl⟩
instance : TyField Try.prog 76 4 4 := ⟨_, _, Try.underlying76, rfl, rfl, by kernel_rfl⟩
instance : TyBuilt Try.prog 76 (fun i => (#[(0, 1), (1, 1), (2, 1), (3, 1), (4, 1)] : Array (Nat × Nat))[i]?) (.agg #[.int .i64 0, .int .i64 0, .int .i64 0, .slice none 0 0, .slice none 0 0]) := TyBuilt.struct (ps := [(0, 1), (1, 1), (2, 1), (3, 1), (4, 1)]) Try.underlying76 (by kernel_rfl) (by kernel_rfl)
instance : TyZero Try.prog 76 (.agg #[.int .i64 0, .int .i64 0, .int .i64 0, .slice none 0 0, .slice none 0 0]) := ⟨by kernel_rfl⟩
instance : TyInt Try.prog 77 .u64 := ⟨Try.underlying77⟩
instance : TyOne Try.prog 77 := ⟨by kernel_rfl, by kernel_rfl⟩
instance : TyZero Try.prog 77 (.int .u64 0) := ⟨by kernel_rfl⟩
instance : TyOne Try.prog 78 := ⟨by kernel_rfl, by kernel_rfl⟩
instance : TyOne Try.prog 80 := ⟨by kernel_rfl, by kernel_rfl⟩
instance : TyOne Try.prog 81 := ⟨by kernel_rfl, by kernel_rfl⟩
instance : TyOne Try.prog 82 := ⟨by kernel_rfl, by kernel_rfl⟩
instance : TyOne Try.prog 83 := ⟨by kernel_rfl, by kernel_rfl⟩
instance : TyOne Try.prog 84 := ⟨by kernel_rfl, by kernel_rfl⟩
instance : TyOne Try.prog 85 := ⟨by kernel_rfl, by kernel_rfl⟩
instance : TyOne Try.prog 86 := ⟨by kernel_rfl, by kernel_rfl⟩
instance : TyOne Try.prog 87 := ⟨by kernel_rfl, by kernel_rfl⟩
instance : TyOne Try.prog 88 := ⟨by kernel_rfl, by kernel_rfl⟩
instance : TyOne Try.prog 89 := ⟨by kernel_rfl, by kernel_rfl⟩
instance : TyAgg Try.prog 90 2 := ⟨by kernel_rfl, by kernel_rfl⟩
instance : TyArr Try.prog 90 2 28 1 := ⟨Try.underlying90, by kernel_rfl⟩
instance : TyBuilt Try.prog 90 (fun i => some (i * 1, 1)) (.agg #[.slice none 0 0, .slice none 0 0]) := TyBuilt.array Try.underlying90 (by kernel_rfl) (by kernel_rfl)
instance : TyZero Try.prog 90 (.agg #[.slice none 0 0, .slice none 0 0]) := ⟨by kernel_rfl⟩
instance : TyOne Try.prog 91 := ⟨by kernel_rfl, by kernel_rfl⟩
instance : TyOne Try.prog 92 := ⟨by kernel_rfl, by kernel_rfl⟩
instance : TyOne Try.prog 93 := ⟨by kernel_rfl, by kernel_rfl⟩
instance : TyOne Try.prog 94 := ⟨by kernel_rfl, by kernel_rfl⟩
instance : TyOne Try.prog 95 := ⟨by kernel_rfl, by kernel_rfl⟩
instance : TyOne Try.prog 96 := ⟨by kernel_rfl, by kernel_rfl⟩
instance : TyAgg Try.prog 97 5 := ⟨by kernel_rfl, by kernel_rfl⟩
instance : TyField Try.prog 97 0 0 := ⟨_, _, Try.underlying97, rfl, rfl, by kernel_rfl⟩
instance : TyField Try.prog 97 1 1 := ⟨_, _, Try.underlying97, rfl, rfl, by kernel_rfl⟩
instance : TyField Try.prog 97 2 2 := ⟨_, _, Try.underlying97, rfl, rfl, by kernel_rfl⟩
instance : TyField Try.prog 97 3 3 := ⟨_, _, Try.underlying97, rfl, rfl, by kernel_rfl⟩
instance : TyField Try.prog 97 4 4 := ⟨_, _, Try.underlying97, rfl, rfl, by kernel_rfl⟩
instance : TyBuilt Try.prog 97 (fun i => (#[(0, 1), (1, 1), (2, 1), (3, 1), (4, 1)] : Array (Nat × Nat))[i]?) (.agg #[.int .i64 0, .int .i64 0, .int .i64 0, .int .i64 0, .slice none 0 0]) := TyBuilt.struct (ps := [(0, 1), (1, 1), (2, 1), (3, 1), (4, 1)]) Try.underlying97 (by kernel_rfl) (by kernel_rfl)
instance : TyZero Try.prog 97 (.agg #[.int .i64 0, .int .i64 0, .int .i64 0, .int .i64 0, .slice none 0 0]) := ⟨by kernel_rfl⟩
instance : TyAgg Try.prog 98 5 := ⟨by kernel_rfl, by kernel_rfl⟩
instance : TyField Try.prog 98 0 0 := ⟨_, _, Try.underlying98, rfl, rfl, by kernel_rfl⟩
instance : TyField Try.prog 98 1 1 := ⟨_, _, Try.underlying98, rfl, rfl, by kernel_rfl⟩
instance : TyField Try.prog 98 2 2 := ⟨_, _, Try.underlying98, rfl, rfl, by kernel_rfl⟩
instance : TyField Try.prog 98 3 3 := ⟨_, _, Try.underlying98, rfl, rfl, by kernel_rfl⟩
instance : TyField Try.prog 98 4 4 := ⟨_, _, Try.underlying98, rfl, rfl, by kernel_rfl⟩
instance : TyBuilt Try.prog 98 (fun i => (#[(0, 1), (1, 1), (2, 1), (3, 1), (4, 1)] : Array (Nat × Nat))[i]?) (.agg #[.int .i64 0, .int .i64 0, .int .i64 0, .int .i64 0, .slice none 0 0]) := TyBuilt.struct (ps := [(0, 1), (1, 1), (2, 1), (3, 1), (4, 1)]) Try.underlying98 (by kernel_rfl) (by kernel_rfl)
instance : TyZero Try.prog 98 (.agg #[.int .i64 0, .int .i64 0, .int .i64 0, .int .i64 0, .slice none 0 0]) := ⟨by kernel_rfl⟩
instance : TyOne Try.prog 99 := ⟨by kernel_rfl, by kernel_rfl⟩
instance : TyOne Try.prog 100 := ⟨by kernel_rfl, by kernel_rfl⟩
instance : TyOne Try.prog 102 := ⟨by kernel_rfl, by kernel_rfl⟩
instance : TyOne Try.prog 104 := ⟨by kernel_rfl, by kernel_rfl⟩
instance : TyOne Try.prog 105 := ⟨by kernel_rfl, by kernel_rfl⟩
instance : TyOne Try.prog 106 := ⟨by kernel_rfl, by kernel_rfl⟩
instance : TyOne Try.prog 107 := ⟨by kernel_rfl, by kernel_rfl⟩
instance : TyInt Try.prog 108 .u32 := ⟨Try.underlying108⟩
instance : TyOne Try.prog 108 := ⟨by kernel_rfl, by kernel_rfl⟩
instance : TyZero Try.prog 108 (.int .u32 0) := ⟨by kernel_rfl⟩
instance : TyOne Try.prog 109 := ⟨by kernel_rfl, by kernel_rfl⟩
instance : TyOne Try.prog 111 := ⟨by kernel_rfl, by kernel_rfl⟩
instance : TyOne Try.prog 112 := ⟨by kernel_rfl, by kernel_rfl⟩
instance : TyOne Try.prog 113 := ⟨by kernel_rfl, by kernel_rfl⟩
instance : TyPtr Try.prog 114 := ⟨_, Try.underlying114⟩
instance : TyOne Try.prog 114 := ⟨by kernel_rfl, by kernel_rfl⟩
instance : TyZero Try.prog 114 (.pointer none) := ⟨by kernel_rfl⟩
instance : TyOne Try.prog 115 := ⟨by kernel_rfl, by kernel_rfl⟩
instance : TyOne Try.prog 116 := ⟨by kernel_rfl, by kernel_rfl⟩
instance : TyZero Try.prog 116 (.slice none 0 0) := ⟨by kernel_rfl⟩
instance : TySlice Try.prog 116 118 1 8 (.pointer none) := TySlice.of Try.underlying116 (by kernel_rfl) (by kernel_rfl) (by decide)
instance : TyOne Try.prog 117 := ⟨by kernel_rfl, by kernel_rfl⟩
instance : TyPtr Try.prog 118 := ⟨_, Try.underlying118⟩
instance : TyOne Try.prog 118 := ⟨by kernel_rfl, by kernel_rfl⟩
instance : TyZero Try.prog 118 (.pointer none) := ⟨by kernel_rfl⟩
instance : TyOne Try.prog 119 := ⟨by kernel_rfl, by kernel_rfl⟩
instance : TyAgg Try.prog 120 1 := ⟨by kernel_rfl, by kernel_rfl⟩
instance : TyField Try.prog 120 0 0 := ⟨_, _, Try.underlying120, rfl, rfl, by kernel_rfl⟩
instance : TyBuilt Try.prog 120 (fun i => (#[(0, 1)] : Array (Nat × Nat))[i]?) (.agg #[.slice none 0 0]) := TyBuilt.struct (ps := [(0, 1)]) Try.underlying120 (by kernel_rfl) (by kernel_rfl)
instance : TyZero Try.prog 120 (.agg #[.slice none 0 0]) := ⟨by kernel_rfl⟩
instance : TyAgg Try.prog 121 1 := ⟨by kernel_rfl, by kernel_rfl⟩
instance : TyField Try.prog 121 0 0 := ⟨_, _, Try.underlying121, rfl, rfl, by kernel_rfl⟩
instance : TyBuilt Try.prog 121 (fun i => (#[(0, 1)] : Array (Nat × Nat))[i]?) (.agg #[.slice none 0 0]) := TyBuilt.struct (ps := [(0, 1)]) Try.underlying121 (by kernel_rfl) (by kernel_rfl)
instance : TyZero Try.prog 121 (.agg #[.slice none 0 0]) := ⟨by kernel_rfl⟩
instance : TyOne Try.prog 122 := ⟨by kernel_rfl, by kernel_rfl⟩
instance : TyAgg Try.prog 123 64 := ⟨by kernel_rfl, by kernel_rfl⟩
instance : TyArr Try.prog 123 64 5 1 := ⟨Try.underlying123, by kernel_rfl⟩
instance : TyBuilt Try.prog 123 (fun i => some (i * 1, 1)) (.agg (Array.replicate 64 (.int .u8 0))) := TyBuilt.array Try.underlying123 (by kernel_rfl) (by kernel_rfl)
instance : TyZero Try.prog 123 (.agg (Array.replicate 64 (.int .u8 0))) := ⟨by kernel_rfl⟩
instance : TyOne Try.prog 124 := ⟨by kernel_rfl, by kernel_rfl⟩
instance : TyZero Try.prog 124 (.slice none 0 0) := ⟨by kernel_rfl⟩
instance : TySlice Try.prog 124 131 65 72 (.agg #[.int .i64 0, .int .u8 0, .int .u8 0, .int .u8 0, .int .u8 0, .int .u8 0, .int .u8 0, .int .u8 0, .int .u8 0, .int .u8 0, .int .u8 0, .int .u8 0, .int .u8 0, .int .u8 0, .int .u8 0, .int .u8 0, .int .u8 0, .int .u8 0, .int .u8 0, .int .u8 0, .int .u8 0, .int .u8 0, .int .u8 0, .int .u8 0, .int .u8 0, .int .u8 0, .int .u8 0, .int .u8 0, .int .u8 0, .int .u8 0, .int .u8 0, .int .u8 0, .int .u8 0, .int .u8 0, .int .u8 0, .int .u8 0, .int .u8 0, .int .u8 0, .int .u8 0, .int .u8 0, .int .u8 0, .int .u8 0, .int .u8 0, .int .u8 0, .int .u8 0, .int .u8 0, .int .u8 0, .int .u8 0, .int .u8 0, .int .u8 0, .int .u8 0, .int .u8 0, .int .u8 0, .int .u8 0, .int .u8 0, .int .u8 0, .int .u8 0, .int .u8 0, .int .u8 0, .int .u8 0, .int .u8 0, .int .u8 0, .int .u8 0, .int .u8 0, .int .u8 0]) := TySlice.of Try.underlying124 (by kernel_rfl) (by kernel_rfl) (by decide)
instance : TyAgg Try.prog 125 5 := ⟨by kernel_rfl, by kernel_rfl⟩
instance : TyField Try.prog 125 0 0 := ⟨_, _, Try.underlying125, rfl, rfl, by kernel_rfl⟩
instance : TyField Try.prog 125 1 1 := ⟨_, _, Try.underlying125, rfl, rfl, by kernel_rfl⟩
instance : TyField Try.prog 125 2 2 := ⟨_, _, Try.underlying125, rfl, rfl, by kernel_rfl⟩
instance : TyField Try.prog 125 3 3 := ⟨_, _, Try.underlying125, rfl, rfl, by kernel_rfl⟩
instance : TyField Try.prog 125 4 4 := ⟨_, _, Try.underlying125, rfl, rfl, by kernel_rfl⟩
instance : TyBuilt Try.prog 125 (fun i => (#[(0, 1), (1, 1), (2, 1), (3, 1), (4, 1)] : Array (Nat × Nat))[i]?) (.agg #[.slice none 0 0, .slice none 0 0, .int .i64 0, .int .i64 0, .bool false]) := TyBuilt.struct (ps := [(0, 1), (1, 1), (2, 1), (3, 1), (4, 1)]) Try.underlying125 (by kernel_rfl) (by kernel_rfl)
instance : TyZero Try.prog 125 (.agg #[.slice none 0 0, .slice none 0 0, .int .i64 0, .int .i64 0, .bool false]) := ⟨by kernel_rfl⟩
instance : TyAgg Try.prog 126 5 := ⟨by kernel_rfl, by kernel_rfl⟩
instance : TyField Try.prog 126 0 0 := ⟨_, _, Try.underlying126, rfl, rfl, by kernel_rfl⟩
instance : TyField Try.prog 126 1 1 := ⟨_, _, Try.underlying126, rfl, rfl, by kernel_rfl⟩
instance : TyField Try.prog 126 2 2 := ⟨_, _, Try.underlying126, rfl, rfl, by kernel_rfl⟩
instance : TyField Try.prog 126 3 3 := ⟨_, _, Try.underlying126, rfl, rfl, by kernel_rfl⟩
instance : TyField Try.prog 126 4 4 := ⟨_, _, Try.underlying126, rfl, rfl, by kernel_rfl⟩
instance : TyBuilt Try.prog 126 (fun i => (#[(0, 1), (1, 1), (2, 1), (3, 1), (4, 1)] : Array (Nat × Nat))[i]?) (.agg #[.slice none 0 0, .slice none 0 0, .int .i64 0, .int .i64 0, .bool false]) := TyBuilt.struct (ps := [(0, 1), (1, 1), (2, 1), (3, 1), (4, 1)]) Try.underlying126 (by kernel_rfl) (by kernel_rfl)
instance : TyZero Try.prog 126 (.agg #[.slice none 0 0, .slice none 0 0, .int .i64 0, .int .i64 0, .bool false]) := ⟨by kernel_rfl⟩
instance : TyOne Try.prog 127 := ⟨by kernel_rfl, by kernel_rfl⟩
instance : TyOne Try.prog 128 := ⟨by kernel_rfl, by kernel_rfl⟩
instance : TyOne Try.prog 129 := ⟨by kernel_rfl, by kernel_rfl⟩
instance : TyAgg Try.prog 130 65 := ⟨by kernel_rfl, by kernel_rfl⟩
instance : TyField Try.prog 130 0 0 := ⟨_, _, Try.underlying130, rfl, rfl, by kernel_rfl⟩
instance : TyField Try.prog 130 1 1 := ⟨_, _, Try.underlying130, rfl, rfl, by kernel_rfl⟩
instance : TyBuilt Try.prog 130 (fun i => (#[(0, 1), (1, 64)] : Array (Nat × Nat))[i]?) (.agg #[.int .i64 0, .int .u8 0, .int .u8 0, .int .u8 0, .int .u8 0, .int .u8 0, .int .u8 0, .int .u8 0, .int .u8 0, .int .u8 0, .int .u8 0, .int .u8 0, .int .u8 0, .int .u8 0, .int .u8 0, .int .u8 0, .int .u8 0, .int .u8 0, .int .u8 0, .int .u8 0, .int .u8 0, .int .u8 0, .int .u8 0, .int .u8 0, .int .u8 0, .int .u8 0, .int .u8 0, .int .u8 0, .int .u8 0, .int .u8 0, .int .u8 0, .int .u8 0, .int .u8 0, .int .u8 0, .int .u8 0, .int .u8 0, .int .u8 0, .int .u8 0, .int .u8 0, .int .u8 0, .int .u8 0, .int .u8 0, .int .u8 0, .int .u8 0, .int .u8 0, .int .u8 0, .int .u8 0, .int .u8 0, .int .u8 0, .int .u8 0, .int .u8 0, .int .u8 0, .int .u8 0, .int .u8 0, .int .u8 0, .int .u8 0, .int .u8 0, .int .u8 0, .int .u8 0, .int .u8 0, .int .u8 0, .int .u8 0, .int .u8 0, .int .u8 0, .int .u8 0]) := TyBuilt.struct (ps := [(0, 1), (1, 64)]) Try.underlying130 (by kernel_rfl) (by kernel_rfl)
instance : TyZero Try.prog 130 (.agg #[.int .i64 0, .int .u8 0, .int .u8 0, .int .u8 0, .int .u8 0, .int .u8 0, .int .u8 0, .int .u8 0, .int .u8 0, .int .u8 0, .int .u8 0, .int .u8 0, .int .u8 0, .int .u8 0, .int .u8 0, .int .u8 0, .int .u8 0, .int .u8 0, .int .u8 0, .int .u8 0, .int .u8 0, .int .u8 0, .int .u8 0, .int .u8 0, .int .u8 0, .int .u8 0, .int .u8 0, .int .u8 0, .int .u8 0, .int .u8 0, .int .u8 0, .int .u8 0, .int .u8 0, .int .u8 0, .int .u8 0, .int .u8 0, .int .u8 0, .int .u8 0, .int .u8 0, .int .u8 0, .int .u8 0, .int .u8 0, .int .u8 0, .int .u8 0, .int .u8 0, .int .u8 0, .int .u8 0, .int .u8 0, .int .u8 0, .int .u8 0, .int .u8 0, .int .u8 0, .int .u8 0, .int .u8 0, .int .u8 0, .int .u8 0, .int .u8 0, .int .u8 0, .int .u8 0, .int .u8 0, .int .u8 0, .int .u8 0, .int .u8 0, .int .u8 0, .int .u8 0]) := ⟨by kernel_rfl⟩
instance : TyAgg Try.prog 131 65 := ⟨by kernel_rfl, by kernel_rfl⟩
instance : TyField Try.prog 131 0 0 := ⟨_, _, Try.underlying131, rfl, rfl, by kernel_rfl⟩
instance : TyField Try.prog 131 1 1 := ⟨_, _, Try.underlying131, rfl, rfl, by kernel_rfl⟩
instance : TyBuilt Try.prog 131 (fun i => (#[(0, 1), (1, 64)] : Array (Nat × Nat))[i]?) (.agg #[.int .i64 0, .int .u8 0, .int .u8 0, .int .u8 0, .int .u8 0, .int .u8 0, .int .u8 0, .int .u8 0, .int .u8 0, .int .u8 0, .int .u8 0, .int .u8 0, .int .u8 0, .int .u8 0, .int .u8 0, .int .u8 0, .int .u8 0, .int .u8 0, .int .u8 0, .int .u8 0, .int .u8 0, .int .u8 0, .int .u8 0, .int .u8 0, .int .u8 0, .int .u8 0, .int .u8 0, .int .u8 0, .int .u8 0, .int .u8 0, .int .u8 0, .int .u8 0, .int .u8 0, .int .u8 0, .int .u8 0, .int .u8 0, .int .u8 0, .int .u8 0, .int .u8 0, .int .u8 0, .int .u8 0, .int .u8 0, .int .u8 0, .int .u8 0, .int .u8 0, .int .u8 0, .int .u8 0, .int .u8 0, .int .u8 0, .int .u8 0, .int .u8 0, .int .u8 0, .int .u8 0, .int .u8 0, .int .u8 0, .int .u8 0, .int .u8 0, .int .u8 0, .int .u8 0, .int .u8 0, .int .u8 0, .int .u8 0, .int .u8 0, .int .u8 0, .int .u8 0]) := TyBuilt.struct (ps := [(0, 1), (1, 64)]) Try.underlying131 (by kernel_rfl) (by kernel_rfl)
instance : TyZero Try.prog 131 (.agg #[.int .i64 0, .int .u8 0, .int .u8 0, .int .u8 0, .int .u8 0, .int .u8 0, .int .u8 0, .int .u8 0, .int .u8 0, .int .u8 0, .int .u8 0, .int .u8 0, .int .u8 0, .int .u8 0, .int .u8 0, .int .u8 0, .int .u8 0, .int .u8 0, .int .u8 0, .int .u8 0, .int .u8 0, .int .u8 0, .int .u8 0, .int .u8 0, .int .u8 0, .int .u8 0, .int .u8 0, .int .u8 0, .int .u8 0, .int .u8 0, .int .u8 0, .int .u8 0, .int .u8 0, .int .u8 0, .int .u8 0, .int .u8 0, .int .u8 0, .int .u8 0, .int .u8 0, .int .u8 0, .int .u8 0, .int .u8 0, .int .u8 0, .int .u8 0, .int .u8 0, .int .u8 0, .int .u8 0, .int .u8 0, .int .u8 0, .int .u8 0, .int .u8 0, .int .u8 0, .int .u8 0, .int .u8 0, .int .u8 0, .int .u8 0, .int .u8 0, .int .u8 0, .int .u8 0, .int .u8 0, .int .u8 0, .int .u8 0, .int .u8 0, .int .u8 0, .int .u8 0]) := ⟨by kernel_rfl⟩
instance : TyOne Try.prog 132 := ⟨by kernel_rfl, by kernel_rfl⟩
instance : TyAgg Try.prog 133 2 := ⟨by kernel_rfl, by kernel_rfl⟩
instance : TyField Try.prog 133 0 0 := ⟨_, _, Try.underlying133, rfl, rfl, by kernel_rfl⟩
instance : TyField Try.prog 133 1 1 := ⟨_, _, Try.underlying133, rfl, rfl, by kernel_rfl⟩
instance : TyBuilt Try.prog 133 (fun i => (#[(0, 1), (1, 1)] : Array (Nat × Nat))[i]?) (.agg #[.int .i64 0, .string ByteArray.empty]) := TyBuilt.struct (ps := [(0, 1), (1, 1)]) Try.underlying133 (by kernel_rfl) (by kernel_rfl)
instance : TyZero Try.prog 133 (.agg #[.int .i64 0, .string ByteArray.empty]) := ⟨by kernel_rfl⟩
instance : TyAgg Try.prog 134 2 := ⟨by kernel_rfl, by kernel_rfl⟩
instance : TyField Try.prog 134 0 0 := ⟨_, _, Try.underlying134, rfl, rfl, by kernel_rfl⟩
instance : TyField Try.prog 134 1 1 := ⟨_, _, Try.underlying134, rfl, rfl, by kernel_rfl⟩
instance : TyBuilt Try.prog 134 (fun i => (#[(0, 1), (1, 1)] : Array (Nat × Nat))[i]?) (.agg #[.int .i64 0, .string ByteArray.empty]) := TyBuilt.struct (ps := [(0, 1), (1, 1)]) Try.underlying134 (by kernel_rfl) (by kernel_rfl)
instance : TyZero Try.prog 134 (.agg #[.int .i64 0, .string ByteArray.empty]) := ⟨by kernel_rfl⟩
instance : TyOne Try.prog 135 := ⟨by kernel_rfl, by kernel_rfl⟩
instance : TyOne Try.prog 137 := ⟨by kernel_rfl, by kernel_rfl⟩
instance : TyOne Try.prog 139 := ⟨by kernel_rfl, by kernel_rfl⟩
instance : TyOne Try.prog 140 := ⟨by kernel_rfl, by kernel_rfl⟩
instance : TyOne Try.prog 141 := ⟨by kernel_rfl, by kernel_rfl⟩
instance : TyOne Try.prog 142 := ⟨by kernel_rfl, by kernel_rfl⟩
instance : TyOne Try.prog 143 := ⟨by kernel_rfl, by kernel_rfl⟩
instance : TyPtr Try.prog 144 := ⟨_, Try.underlying144⟩
instance : TyOne Try.prog 144 := ⟨by kernel_rfl, by kernel_rfl⟩
instance : TyZero Try.prog 144 (.pointer none) := ⟨by kernel_rfl⟩
instance : TyOne Try.prog 145 := ⟨by kernel_rfl, by kernel_rfl⟩
instance : TyOne Try.prog 146 := ⟨by kernel_rfl, by kernel_rfl⟩
instance : TyPtr Try.prog 147 := ⟨_, Try.underlying147⟩
instance : TyOne Try.prog 147 := ⟨by kernel_rfl, by kernel_rfl⟩
instance : TyZero Try.prog 147 (.pointer none) := ⟨by kernel_rfl⟩
instance : TyAgg Try.prog 148 2 := ⟨by kernel_rfl, by kernel_rfl⟩
instance : TyField Try.prog 148 0 0 := ⟨_, _, Try.underlying148, rfl, rfl, by kernel_rfl⟩
instance : TyField Try.prog 148 1 1 := ⟨_, _, Try.underlying148, rfl, rfl, by kernel_rfl⟩
instance : TyBuilt Try.prog 148 (fun i => (#[(0, 1), (1, 1)] : Array (Nat × Nat))[i]?) (.agg #[.string ByteArray.empty, .int .i64 0]) := TyBuilt.struct (ps := [(0, 1), (1, 1)]) Try.underlying148 (by kernel_rfl) (by kernel_rfl)
instance : TyZero Try.prog 148 (.agg #[.string ByteArray.empty, .int .i64 0]) := ⟨by kernel_rfl⟩
instance : TyAgg Try.prog 149 2 := ⟨by kernel_rfl, by kernel_rfl⟩
instance : TyField Try.prog 149 0 0 := ⟨_, _, Try.underlying149, rfl, rfl, by kernel_rfl⟩
instance : TyField Try.prog 149 1 1 := ⟨_, _, Try.underlying149, rfl, rfl, by kernel_rfl⟩
instance : TyBuilt Try.prog 149 (fun i => (#[(0, 1), (1, 1)] : Array (Nat × Nat))[i]?) (.agg #[.string ByteArray.empty, .int .i64 0]) := TyBuilt.struct (ps := [(0, 1), (1, 1)]) Try.underlying149 (by kernel_rfl) (by kernel_rfl)
instance : TyZero Try.prog 149 (.agg #[.string ByteArray.empty, .int .i64 0]) := ⟨by kernel_rfl⟩
instance : TyOne Try.prog 150 := ⟨by kernel_rfl, by kernel_rfl⟩
instance : TyPtr Try.prog 151 := ⟨_, Try.underlying151⟩
instance : TyOne Try.prog 151 := ⟨by kernel_rfl, by kernel_rfl⟩
instance : TyZero Try.prog 151 (.pointer none) := ⟨by kernel_rfl⟩
instance : TyAgg Try.prog 152 1 := ⟨by kernel_rfl, by kernel_rfl⟩
instance : TyField Try.prog 152 0 0 := ⟨_, _, Try.underlying152, rfl, rfl, by kernel_rfl⟩
instance : TyBuilt Try.prog 152 (fun i => (#[(0, 1)] : Array (Nat × Nat))[i]?) (.agg #[.slice none 0 0]) := TyBuilt.struct (ps := [(0, 1)]) Try.underlying152 (by kernel_rfl) (by kernel_rfl)
instance : TyZero Try.prog 152 (.agg #[.slice none 0 0]) := ⟨by kernel_rfl⟩
instance : TyAgg Try.prog 153 1 := ⟨by kernel_rfl, by kernel_rfl⟩
instance : TyField Try.prog 153 0 0 := ⟨_, _, Try.underlying153, rfl, rfl, by kernel_rfl⟩
instance : TyBuilt Try.prog 153 (fun i => (#[(0, 1)] : Array (Nat × Nat))[i]?) (.agg #[.slice none 0 0]) := TyBuilt.struct (ps := [(0, 1)]) Try.underlying153 (by kernel_rfl) (by kernel_rfl)
instance : TyZero Try.prog 153 (.agg #[.slice none 0 0]) := ⟨by kernel_rfl⟩
instance : TyPtr Try.prog 154 := ⟨_, Try.underlying154⟩
instance : TyOne Try.prog 154 := ⟨by kernel_rfl, by kernel_rfl⟩
instance : TyZero Try.prog 154 (.pointer none) := ⟨by kernel_rfl⟩
instance : TyAgg Try.prog 155 13 := ⟨by kernel_rfl, by kernel_rfl⟩
instance : TyField Try.prog 155 0 0 := ⟨_, _, Try.underlying155, rfl, rfl, by kernel_rfl⟩
instance : TyField Try.prog 155 1 1 := ⟨_, _, Try.underlying155, rfl, rfl, by kernel_rfl⟩
instance : TyField Try.prog 155 2 2 := ⟨_, _, Try.underlying155, rfl, rfl, by kernel_rfl⟩
instance : TyField Try.prog 155 3 7 := ⟨_, _, Try.underlying155, rfl, rfl, by kernel_rfl⟩
instance : TyField Try.prog 155 4 12 := ⟨_, _, Try.underlying155, rfl, rfl, by kernel_rfl⟩
instance : TyBuilt Try.prog 155 (fun i => (#[(0, 1), (1, 1), (2, 5), (7, 5), (12, 1)] : Array (Nat × Nat))[i]?) (.agg #[.int .i64 0, .int .i64 0, .int .i64 0, .int .i64 0, .int .i64 0, .int .i64 0, .slice none 0 0, .int .i64 0, .int .i64 0, .int .i64 0, .int .i64 0, .slice none 0 0, .slice none 0 0]) := TyBuilt.struct (ps := [(0, 1), (1, 1), (2, 5), (7, 5), (12, 1)]) Try.underlying155 (by kernel_rfl) (by kernel_rfl)
instance : TyZero Try.prog 155 (.agg #[.int .i64 0, .int .i64 0, .int .i64 0, .int .i64 0, .int .i64 0, .int .i64 0, .slice none 0 0, .int .i64 0, .int .i64 0, .int .i64 0, .int .i64 0, .slice none 0 0, .slice none 0 0]) := ⟨by kernel_rfl⟩
instance : TyAgg Try.prog 156 13 := ⟨by kernel_rfl, by kernel_rfl⟩
instance : TyField Try.prog 156 0 0 := ⟨_, _, Try.underlying156, rfl, rfl, by kernel_rfl⟩
instance : TyField Try.prog 156 1 1 := ⟨_, _, Try.underlying156, rfl, rfl, by kernel_rfl⟩
instance : TyField Try.prog 156 2 2 := ⟨_, _, Try.underlying156, rfl, rfl, by kernel_rfl⟩
instance : TyField Try.prog 156 3 7 := ⟨_, _, Try.underlying156, rfl, rfl, by kernel_rfl⟩
instance : TyField Try.prog 156 4 12 := ⟨_, _, Try.underlying156, rfl, rfl, by kernel_rfl⟩
instance : TyBuilt Try.prog 156 (fun i => (#[(0, 1), (1, 1), (2, 5), (7, 5), (12, 1)] : Array (Nat × Nat))[i]?) (.agg #[.int .i64 0, .int .i64 0, .int .i64 0, .int .i64 0, .int .i64 0, .int .i64 0, .slice none 0 0, .int .i64 0, .int .i64 0, .int .i64 0, .int .i64 0, .slice none 0 0, .slice none 0 0]) := TyBuilt.struct (ps := [(0, 1), (1, 1), (2, 5), (7, 5), (12, 1)]) Try.underlying156 (by kernel_rfl) (by kernel_rfl)
instance : TyZero Try.prog 156 (.agg #[.int .i64 0, .int .i64 0, .int .i64 0, .int .i64 0, .int .i64 0, .int .i64 0, .slice none 0 0, .int .i64 0, .int .i64 0, .int .i64 0, .int .i64 0, .slice none 0 0, .slice none 0 0]) := ⟨by kernel_rfl⟩
instance : TyOne Try.prog 157 := ⟨by kernel_rfl, by kernel_rfl⟩
instance : TyOne Try.prog 159 := ⟨by kernel_rfl, by kernel_rfl⟩
instance : TyOne Try.prog 160 := ⟨by kernel_rfl, by kernel_rfl⟩
instance : TyOne Try.prog 161 := ⟨by kernel_rfl, by kernel_rfl⟩
instance : TyOne Try.prog 162 := ⟨by kernel_rfl, by kernel_rfl⟩
instance : TyAgg Try.prog 163 2 := ⟨by kernel_rfl, by kernel_rfl⟩
instance : TyField Try.prog 163 0 0 := ⟨_, _, Try.underlying163, rfl, rfl, by kernel_rfl⟩
instance : TyField Try.prog 163 1 1 := ⟨_, _, Try.underlying163, rfl, rfl, by kernel_rfl⟩
instance : TyBuilt Try.prog 163 (fun i => (#[(0, 1), (1, 1)] : Array (Nat × Nat))[i]?) (.agg #[.slice none 0 0, .int .i64 0]) := TyBuilt.struct (ps := [(0, 1), (1, 1)]) Try.underlying163 (by kernel_rfl) (by kernel_rfl)
instance : TyZero Try.prog 163 (.agg #[.slice none 0 0, .int .i64 0]) := ⟨by kernel_rfl⟩
instance : TyAgg Try.prog 164 2 := ⟨by kernel_rfl, by kernel_rfl⟩
instance : TyField Try.prog 164 0 0 := ⟨_, _, Try.underlying164, rfl, rfl, by kernel_rfl⟩
instance : TyField Try.prog 164 1 1 := ⟨_, _, Try.underlying164, rfl, rfl, by kernel_rfl⟩
instance : TyBuilt Try.prog 164 (fun i => (#[(0, 1), (1, 1)] : Array (Nat × Nat))[i]?) (.agg #[.slice none 0 0, .int .i64 0]) := TyBuilt.struct (ps := [(0, 1), (1, 1)]) Try.underlying164 (by kernel_rfl) (by kernel_rfl)
instance : TyZero Try.prog 164 (.agg #[.slice none 0 0, .int .i64 0]) := ⟨by kernel_rfl⟩
instance : TyOne Try.prog 166 := ⟨by kernel_rfl, by kernel_rfl⟩
instance : TyOne Try.prog 167 := ⟨by kernel_rfl, by kernel_rfl⟩
instance : TyOne Try.prog 169 := ⟨by kernel_rfl, by kernel_rfl⟩
instance : TyInt Try.prog 170 .u64 := ⟨Try.underlying170⟩
instance : TyOne Try.prog 170 := ⟨by kernel_rfl, by kernel_rfl⟩
instance : TyZero Try.prog 170 (.int .u64 0) := ⟨by kernel_rfl⟩
instance : TyOne Try.prog 172 := ⟨by kernel_rfl, by kernel_rfl⟩
instance : TyOne Try.prog 173 := ⟨by kernel_rfl, by kernel_rfl⟩
instance : TyOne Try.prog 174 := ⟨by kernel_rfl, by kernel_rfl⟩
instance : TyAgg Try.prog 175 4 := ⟨by kernel_rfl, by kernel_rfl⟩
instance : TyField Try.prog 175 0 0 := ⟨_, _, Try.underlying175, rfl, rfl, by kernel_rfl⟩
instance : TyField Try.prog 175 1 1 := ⟨_, _, Try.underlying175, rfl, rfl, by kernel_rfl⟩
instance : TyField Try.prog 175 2 2 := ⟨_, _, Try.underlying175, rfl, rfl, by kernel_rfl⟩
instance : TyField Try.prog 175 3 3 := ⟨_, _, Try.underlying175, rfl, rfl, by kernel_rfl⟩
instance : TyBuilt Try.prog 175 (fun i => (#[(0, 1), (1, 1), (2, 1), (3, 1)] : Array (Nat × Nat))[i]?) (.agg #[.pointer none, .pointer none, .pointer none, .string ByteArray.empty]) := TyBuilt.struct (ps := [(0, 1), (1, 1), (2, 1), (3, 1)]) Try.underlying175 (by kernel_rfl) (by kernel_rfl)
instance : TyZero Try.prog 175 (.agg #[.pointer none, .pointer none, .pointer none, .string ByteArray.empty]) := ⟨by kernel_rfl⟩
instance : TyAgg Try.prog 177 0 := ⟨by kernel_rfl, by kernel_rfl⟩
instance : TyArr Try.prog 177 0 16 1 := ⟨Try.underlying177, by kernel_rfl⟩
instance : TyBuilt Try.prog 177 (fun i => some (i * 1, 1)) (.agg #[]) := TyBuilt.array Try.underlying177 (by kernel_rfl) (by kernel_rfl)
instance : TyZero Try.prog 177 (.agg #[]) := ⟨by kernel_rfl⟩
instance : TyAgg Try.prog 178 0 := ⟨by kernel_rfl, by kernel_rfl⟩
instance : TyBuilt Try.prog 178 (fun i => (#[(0, 0)] : Array (Nat × Nat))[i]?) (.agg #[]) := TyBuilt.struct (ps := [(0, 0)]) Try.underlying178 (by kernel_rfl) (by kernel_rfl)
instance : TyZero Try.prog 178 (.agg #[]) := ⟨by kernel_rfl⟩
instance : TyOne Try.prog 182 := ⟨by kernel_rfl, by kernel_rfl⟩
instance : TyPtr Try.prog 183 := ⟨_, Try.underlying183⟩
instance : TyOne Try.prog 183 := ⟨by kernel_rfl, by kernel_rfl⟩
instance : TyZero Try.prog 183 (.pointer none) := ⟨by kernel_rfl⟩
instance : Mixed Try.prog := ⟨by kernel_rfl⟩
end Go.Proofs.Ytjmlcodlnohgdaa
