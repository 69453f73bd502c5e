/-
  What this seat's types are, as instances.
-/
import Derived.Test.YthpolibakkmmeaaC5
import Derived.Test.YthpolibakkmmeaaProg
import Derived.Test.YthpolibakkmmeaaChecked
namespace Go.Proofs.Ythpolibakkmmeaa
open Go Brv
instance : TyOne Try.prog 1 := ⟨by kernel_rfl, by kernel_rfl⟩
instance : TyInt Try.prog 2 .i64 := ⟨Try.underlying2⟩
instance : TyOne Try.prog 2 := ⟨by kernel_rfl, by kernel_rfl⟩
instance : TyZero Try.prog 2 (.int .i64 0) := ⟨by kernel_rfl⟩
instance : TyInt Try.prog 3 .i64 := ⟨Try.underlying3⟩
instance : TyOne Try.prog 3 := ⟨by kernel_rfl, by kernel_rfl⟩
instance : TyZero Try.prog 3 (.int .i64 0) := ⟨by kernel_rfl⟩
instance : TyBool Try.prog 4 := ⟨Try.underlying4⟩
instance : TyOne Try.prog 4 := ⟨by kernel_rfl, by kernel_rfl⟩
instance : TyZero Try.prog 4 (.bool false) := ⟨by kernel_rfl⟩
instance : TyInt Try.prog 5 .u8 := ⟨Try.underlying5⟩
instance : TyOne Try.prog 5 := ⟨by kernel_rfl, by kernel_rfl⟩
instance : TyZero Try.prog 5 (.int .u8 0) := ⟨by kernel_rfl⟩
instance : TyAgg Try.prog 7 4 := ⟨by kernel_rfl, by kernel_rfl⟩
instance : TyField Try.prog 7 0 0 := ⟨_, _, Try.underlying7, rfl, rfl, by kernel_rfl⟩
instance : TyField Try.prog 7 1 1 := ⟨_, _, Try.underlying7, rfl, rfl, by kernel_rfl⟩
instance : TyField Try.prog 7 2 2 := ⟨_, _, Try.underlying7, rfl, rfl, by kernel_rfl⟩
instance : TyField Try.prog 7 3 3 := ⟨_, _, Try.underlying7, rfl, rfl, by kernel_rfl⟩
instance : TyBuilt Try.prog 7 (fun i => (#[(0, 1), (1, 1), (2, 1), (3, 1)] : Array (Nat × Nat))[i]?) (.agg #[.int .i64 0, .int .i64 0, .bool false, .int .u8 0]) := TyBuilt.struct (ps := [(0, 1), (1, 1), (2, 1), (3, 1)]) Try.underlying7 (by kernel_rfl) (by kernel_rfl)
instance : TyZero Try.prog 7 (.agg #[.int .i64 0, .int .i64 0, .bool false, .int .u8 0]) := ⟨by kernel_rfl⟩
instance : TyStr Try.prog 9 := ⟨Try.underlying9⟩
instance : TyOne Try.prog 9 := ⟨by kernel_rfl, by kernel_rfl⟩
instance : TyZero Try.prog 9 (.string ByteArray.empty) := ⟨by kernel_rfl⟩
instance : TyInt Try.prog 12 .u64 := ⟨Try.underlying12⟩
instance : TyOne Try.prog 12 := ⟨by kernel_rfl, by kernel_rfl⟩
instance : TyZero Try.prog 12 (.int .u64 0) := ⟨by kernel_rfl⟩
instance : TyAgg Try.prog 13 2 := ⟨by kernel_rfl, by kernel_rfl⟩
instance : TyField Try.prog 13 0 0 := ⟨_, _, Try.underlying13, rfl, rfl, by kernel_rfl⟩
instance : TyField Try.prog 13 1 1 := ⟨_, _, Try.underlying13, rfl, rfl, by kernel_rfl⟩
instance : TyBuilt Try.prog 13 (fun i => (#[(0, 1), (1, 1)] : Array (Nat × Nat))[i]?) (.agg #[.string ByteArray.empty, .int .u64 0]) := TyBuilt.struct (ps := [(0, 1), (1, 1)]) Try.underlying13 (by kernel_rfl) (by kernel_rfl)
instance : TyZero Try.prog 13 (.agg #[.string ByteArray.empty, .int .u64 0]) := ⟨by kernel_rfl⟩
instance : TyAgg Try.prog 18 1 := ⟨by kernel_rfl, by kernel_rfl⟩
instance : TyField Try.prog 18 0 0 := ⟨_, _, Try.underlying18, rfl, rfl, by kernel_rfl⟩
instance : TyBuilt Try.prog 18 (fun i => (#[(0, 1)] : Array (Nat × Nat))[i]?) (.agg #[.pointer none]) := TyBuilt.struct (ps := [(0, 1)]) Try.underlying18 (by kernel_rfl) (by kernel_rfl)
instance : TyZero Try.prog 18 (.agg #[.pointer none]) := ⟨by kernel_rfl⟩
instance : TyOne Try.prog 20 := ⟨by kernel_rfl, by kernel_rfl⟩
instance : TyInt Try.prog 21 .i32 := ⟨Try.underlying21⟩
instance : TyOne Try.prog 21 := ⟨by kernel_rfl, by kernel_rfl⟩
instance : TyZero Try.prog 21 (.int .i32 0) := ⟨by kernel_rfl⟩
instance : TyOne Try.prog 22 := ⟨by kernel_rfl, by kernel_rfl⟩
instance : TyZero Try.prog 22 (.slice none 0 0) := ⟨by kernel_rfl⟩
instance : TySlice Try.prog 22 5 1 1 (.int .u8 0) := TySlice.of Try.underlying22 (by kernel_rfl) (by kernel_rfl) (by decide)
instance : TyBytes Try.prog 22 5 := ⟨Try.underlying22, Try.underlying5⟩
instance : TyOne Try.prog 23 := ⟨by kernel_rfl, by kernel_rfl⟩
instance : TyZero Try.prog 23 (.slice none 0 0) := ⟨by kernel_rfl⟩
instance : TySlice Try.prog 23 25 1 8 (.int .u64 0) := TySlice.of Try.underlying23 (by kernel_rfl) (by kernel_rfl) (by decide)
instance : TyOne Try.prog 24 := ⟨by kernel_rfl, by kernel_rfl⟩
instance : TyInt Try.prog 25 .u64 := ⟨Try.underlying25⟩
instance : TyOne Try.prog 25 := ⟨by kernel_rfl, by kernel_rfl⟩
instance : TyZero Try.prog 25 (.int .u64 0) := ⟨by kernel_rfl⟩
instance : TyOne Try.prog 26 := ⟨by kernel_rfl, by kernel_rfl⟩
instance : TyOne Try.prog 27 := ⟨by kernel_rfl, by kernel_rfl⟩
instance : TyOne Try.prog 28 := ⟨by kernel_rfl, by kernel_rfl⟩
instance : TyOne Try.prog 29 := ⟨by kernel_rfl, by kernel_rfl⟩
instance : TyPtr Try.prog 30 := ⟨_, Try.underlying30⟩
instance : TyOne Try.prog 30 := ⟨by kernel_rfl, by kernel_rfl⟩
instance : TyZero Try.prog 30 (.pointer none) := ⟨by kernel_rfl⟩
instance : TyInt Try.prog 31 .i64 := ⟨Try.underlying31⟩
instance : TyOne Try.prog 31 := ⟨by kernel_rfl, by kernel_rfl⟩
instance : TyZero Try.prog 31 (.int .i64 0) := ⟨by kernel_rfl⟩
instance : TyOne Try.prog 33 := ⟨by kernel_rfl, by kernel_rfl⟩
instance : TyOne Try.prog 34 := ⟨by kernel_rfl, by kernel_rfl⟩
instance : TyZero Try.prog 34 (.slice none 0 0) := ⟨by kernel_rfl⟩
instance : TySlice Try.prog 34 23 1 24 (.slice none 0 0) := TySlice.of Try.underlying34 (by kernel_rfl) (by kernel_rfl) (by decide)
instance : TyOne Try.prog 35 := ⟨by kernel_rfl, by kernel_rfl⟩
instance : TyOne Try.prog 36 := ⟨by kernel_rfl, by kernel_rfl⟩
instance : TyZero Try.prog 36 (.slice none 0 0) := ⟨by kernel_rfl⟩
instance : TySlice Try.prog 36 3 1 8 (.int .i64 0) := TySlice.of Try.underlying36 (by kernel_rfl) (by kernel_rfl) (by decide)
instance : TyOne Try.prog 38 := ⟨by kernel_rfl, by kernel_rfl⟩
instance : TyOne Try.prog 39 := ⟨by kernel_rfl, by kernel_rfl⟩
instance : TyOne Try.prog 40 := ⟨by kernel_rfl, by kernel_rfl⟩
instance : TyOne Try.prog 41 := ⟨by kernel_rfl, by kernel_rfl⟩
instance : TyOne Try.prog 42 := ⟨by kernel_rfl, by kernel_rfl⟩
instance : TyOne Try.prog 43 := ⟨by kernel_rfl, by kernel_rfl⟩
instance : TyOne Try.prog 44 := ⟨by kernel_rfl, by kernel_rfl⟩
instance : TyOne Try.prog 45 := ⟨by kernel_rfl, by kernel_rfl⟩
instance : TyOne Try.prog 46 := ⟨by kernel_rfl, by kernel_rfl⟩
instance : TyOne Try.prog 48 := ⟨by kernel_rfl, by kernel_rfl⟩
instance : TyOne Try.prog 49 := ⟨by kernel_rfl, by kernel_rfl⟩
instance : TyOne Try.prog 50 := ⟨by kernel_rfl, by kernel_rfl⟩
instance : TyOne Try.prog 51 := ⟨by kernel_rfl, by kernel_rfl⟩
instance : TyOne Try.prog 52 := ⟨by kernel_rfl, by kernel_rfl⟩
instance : TyZero Try.prog 52 (.slice none 0 0) := ⟨by kernel_rfl⟩
instance : TySlice Try.prog 52 9 1 16 (.string ByteArray.empty) := TySlice.of Try.underlying52 (by kernel_rfl) (by kernel_rfl) (by decide)
instance : TyPtr Try.prog 53 := ⟨_, Try.underlying53⟩
instance : TyOne Try.prog 53 := ⟨by kernel_rfl, by kernel_rfl⟩
instance : TyZero Try.prog 53 (.pointer none) := ⟨by kernel_rfl⟩
instance : TyOne Try.prog 54 := ⟨by kernel_rfl, by kernel_rfl⟩
instance : TyOne Try.prog 55 := ⟨by kernel_rfl, by kernel_rfl⟩
instance : TyOne Try.prog 56 := ⟨by kernel_rfl, by kernel_rfl⟩
instance : TyOne Try.prog 57 := ⟨by kernel_rfl, by kernel_rfl⟩
instance : TyOne Try.prog 59 := ⟨by kernel_rfl, by kernel_rfl⟩
instance : TyOne Try.prog 60 := ⟨by kernel_rfl, by kernel_rfl⟩
instance : TyOne Try.prog 61 := ⟨by kernel_rfl, by kernel_rfl⟩
instance : TyZero Try.prog 61 (.slice none 0 0) := ⟨by kernel_rfl⟩
instance : TySlice Try.prog 61 66 4 40 (.agg #[.int .i64 0, .int .i64 0, .int .i64 0, .string ByteArray.empty]) := TySlice.of Try.underlying61 (by kernel_rfl) (by kernel_rfl) (by decide)
instance : TyPtr Try.prog 62 := ⟨_, Try.underlying62⟩
instance : TyOne Try.prog 62 := ⟨by kernel_rfl, by kernel_rfl⟩
instance : TyZero Try.prog 62 (.pointer none) := ⟨by kernel_rfl⟩
instance : TyOne Try.prog 63 := ⟨by kernel_rfl, by kernel_rfl⟩
instance : TyOne Try.prog 64 := ⟨by kernel_rfl, by kernel_rfl⟩
instance : TyZero Try.prog 64 (.slice none 0 0) := ⟨by kernel_rfl⟩
instance : TySlice Try.prog 64 77 2 24 (.agg #[.int .i64 0, .string ByteArray.empty]) := TySlice.of Try.underlying64 (by kernel_rfl) (by kernel_rfl) (by decide)
instance : TyAgg Try.prog 65 4 := ⟨by kernel_rfl, by kernel_rfl⟩
instance : TyField Try.prog 65 0 0 := ⟨_, _, Try.underlying65, rfl, rfl, by kernel_rfl⟩
instance : TyField Try.prog 65 1 1 := ⟨_, _, Try.underlying65, rfl, rfl, by kernel_rfl⟩
instance : TyField Try.prog 65 2 2 := ⟨_, _, Try.underlying65, rfl, rfl, by kernel_rfl⟩
instance : TyField Try.prog 65 3 3 := ⟨_, _, Try.underlying65, rfl, rfl, by kernel_rfl⟩
instance : TyBuilt Try.prog 65 (fun i => (#[(0, 1), (1, 1), (2, 1), (3, 1)] : Array (Nat × Nat))[i]?) (.agg #[.int .i64 0, .int .i64 0, .int .i64 0, .string ByteArray.empty]) := TyBuilt.struct (ps := [(0, 1), (1, 1), (2, 1), (3, 1)]) Try.underlying65 (by kernel_rfl) (by kernel_rfl)
instance : TyZero Try.prog 65 (.agg #[.int .i64 0, .int .i64 0, .int .i64 0, .string ByteArray.empty]) := ⟨by kernel_rfl⟩
instance : TyAgg Try.prog 66 4 := ⟨by kernel_rfl, by kernel_rfl⟩
instance : TyField Try.prog 66 0 0 := ⟨_, _, Try.underlying66, rfl, rfl, by kernel_rfl⟩
instance : TyField Try.prog 66 1 1 := ⟨_, _, Try.underlying66, rfl, rfl, by kernel_rfl⟩
instance : TyField Try.prog 66 2 2 := ⟨_, _, Try.underlying66, rfl, rfl, by kernel_rfl⟩
instance : TyField Try.prog 66 3 3 := ⟨_, _, Try.underlying66, rfl, rfl, by kernel_rfl⟩
instance : TyBuilt Try.prog 66 (fun i => (#[(0, 1), (1, 1), (2, 1), (3, 1)] : Array (Nat × Nat))[i]?) (.agg #[.int .i64 0, .int .i64 0, .int .i64 0, .string ByteArray.empty]) := TyBuilt.struct (ps := [(0, 1), (1, 1), (2, 1), (3, 1)]) Try.underlying66 (by kernel_rfl) (by kernel_rfl)
instance : TyZero Try.prog 66 (.agg #[.int .i64 0, .int .i64 0, .int .i64 0, .string ByteArray.empty]) := ⟨by kernel_rfl⟩
instance : TyInt Try.prog 67 .u64 := ⟨Try.underlying67⟩
instance : TyOne Try.prog 67 := ⟨by kernel_rfl, by kernel_rfl⟩
instance : TyZero Try.prog 67 (.int .u64 0) := ⟨by kernel_rfl⟩
instance : TyOne Try.prog 69 := ⟨by kernel_rfl, by kernel_rfl⟩
instance : TyOne Try.prog 70 := ⟨by kernel_rfl, by kernel_rfl⟩
instance : TyOne Try.prog 72 := ⟨by kernel_rfl, by kernel_rfl⟩
instance : TyOne Try.prog 73 := ⟨by kernel_rfl, by kernel_rfl⟩
instance : TyOne Try.prog 74 := ⟨by kernel_rfl, by kernel_rfl⟩
instance : TyOne Try.prog 75 := ⟨by kernel_rfl, by kernel_rfl⟩
instance : TyAgg Try.prog 76 2 := ⟨by kernel_rfl, by kernel_rfl⟩
instance : TyField Try.prog 76 0 0 := ⟨_, _, Try.underlying76, rfl, rfl, by kernel_rfl⟩
instance : TyField Try.prog 76 1 1 := ⟨_, _, Try.underlying76, rfl, rfl, by kernel_rfl⟩
instance : TyBuilt Try.prog 76 (fun i => (#[(0, 1), (1, 1)] : Array (Nat × Nat))[i]?) (.agg #[.int .i64 0, .string ByteArray.empty]) := TyBuilt.struct (ps := [(0, 1), (1, 1)]) Try.underlying76 (by kernel_rfl) (by kernel_rfl)
instance : TyZero Try.prog 76 (.agg #[.int .i64 0, .string ByteArray.empty]) := ⟨by kernel_rfl⟩
instance : TyAgg Try.prog 77 2 := ⟨by kernel_rfl, by kernel_rfl⟩
instance : TyField Try.prog 77 0 0 := ⟨_, _, Try.underlying77, rfl, rfl, by kernel_rfl⟩
instance : TyField Try.prog 77 1 1 := ⟨_, _, Try.underlying77, rfl, rfl, by kernel_rfl⟩
instance : TyBuilt Try.prog 77 (fun i => (#[(0, 1), (1, 1)] : Array (Nat × Nat))[i]?) (.agg #[.int .i64 0, .string ByteArray.empty]) := TyBuilt.struct (ps := [(0, 1), (1, 1)]) Try.underlying77 (by kernel_rfl) (by kernel_rfl)
instance : TyZero Try.prog 77 (.agg #[.int .i64 0, .string ByteArray.empty]) := ⟨by kernel_rfl⟩
instance : TyOne Try.prog 78 := ⟨by kernel_rfl, by kernel_rfl⟩
instance : TyOne Try.prog 80 := ⟨by kernel_rfl, by kernel_rfl⟩
instance : TyOne Try.prog 81 := ⟨by kernel_rfl, by kernel_rfl⟩
instance : TyOne Try.prog 82 := ⟨by kernel_rfl, by kernel_rfl⟩
instance : TyOne Try.prog 83 := ⟨by kernel_rfl, by kernel_rfl⟩
instance : TyOne Try.prog 84 := ⟨by kernel_rfl, by kernel_rfl⟩
instance : TyZero Try.prog 84 (.slice none 0 0) := ⟨by kernel_rfl⟩
instance : TySlice Try.prog 84 92 4 48 (.agg #[.int .i64 0, .int .i64 0, .int .i64 0, .slice none 0 0]) := TySlice.of Try.underlying84 (by kernel_rfl) (by kernel_rfl) (by decide)
instance : TyPtr Try.prog 85 := ⟨_, Try.underlying85⟩
instance : TyOne Try.prog 85 := ⟨by kernel_rfl, by kernel_rfl⟩
instance : TyZero Try.prog 85 (.pointer none) := ⟨by kernel_rfl⟩
instance : TyOne Try.prog 87 := ⟨by kernel_rfl, by kernel_rfl⟩
instance : TyOne Try.prog 89 := ⟨by kernel_rfl, by kernel_rfl⟩
instance : TyOne Try.prog 90 := ⟨by kernel_rfl, by kernel_rfl⟩
instance : TyAgg Try.prog 91 4 := ⟨by kernel_rfl, by kernel_rfl⟩
instance : TyField Try.prog 91 0 0 := ⟨_, _, Try.underlying91, rfl, rfl, by kernel_rfl⟩
instance : TyField Try.prog 91 1 1 := ⟨_, _, Try.underlying91, rfl, rfl, by kernel_rfl⟩
instance : TyField Try.prog 91 2 2 := ⟨_, _, Try.underlying91, rfl, rfl, by kernel_rfl⟩
instance : TyField Try.prog 91 3 3 := ⟨_, _, Try.underlying91, rfl, rfl, by kernel_rfl⟩
instance : TyBuilt Try.prog 91 (fun i => (#[(0, 1), (1, 1), (2, 1), (3, 1)] : Array (Nat × Nat))[i]?) (.agg #[.int .i64 0, .int .i64 0, .int .i64 0, .slice none 0 0]) := TyBuilt.struct (ps := [(0, 1), (1, 1), (2, 1), (3, 1)]) Try.underlying91 (by kernel_rfl) (by kernel_rfl)
instance : TyZero Try.prog 91 (.agg #[.int .i64 0, .int .i64 0, .int .i64 0, .slice none 0 0]) := ⟨by kernel_rfl⟩
instance : TyAgg Try.prog 92 4 := ⟨by kernel_rfl, by kernel_rfl⟩
instance : TyField Try.prog 92 0 0 := ⟨_, _, Try.underlying92, rfl, rfl, by kernel_rfl⟩
instance : TyField Try.prog 92 1 1 := ⟨_, _, Try.underlying92, rfl, rfl, by kernel_rfl⟩
instance : TyField Try.prog 92 2 2 := ⟨_, _, Try.underlying92, rfl, rfl, by kernel_rfl⟩
instance : TyField Try.prog 92 3 3 := ⟨_, _, Try.underlying92, rfl, rfl, by kernel_rfl⟩
instance : TyBuilt Try.prog 92 (fun i => (#[(0, 1), (1, 1), (2, 1), (3, 1)] : Array (Nat × Nat))[i]?) (.agg #[.int .i64 0, .int .i64 0, .int .i64 0, .slice none 0 0]) := TyBuilt.struct (ps := [(0, 1), (1, 1), (2, 1), (3, 1)]) Try.underlying92 (by kernel_rfl) (by kernel_rfl)
instance : TyZero Try.prog 92 (.agg #[.int .i64 0, .int .i64 0, .int .i64 0, .slice none 0 0]) := ⟨by kernel_rfl⟩
instance : TyOne Try.prog 93 := ⟨by kernel_rfl, by kernel_rfl⟩
instance : TyOne Try.prog 95 := ⟨by kernel_rfl, by kernel_rfl⟩
instance : TyOne Try.prog 96 := ⟨by kernel_rfl, by kernel_rfl⟩
instance : TyZero Try.prog 96 (.slice none 0 0) := ⟨by kernel_rfl⟩
instance : TySlice Try.prog 96 101 2 32 (.agg #[.int .i64 0, .slice none 0 0]) := TySlice.of Try.underlying96 (by kernel_rfl) (by kernel_rfl) (by decide)
instance : TyOne Try.prog 98 := ⟨by kernel_rfl, by kernel_rfl⟩
instance : TyOne Try.prog 99 := ⟨by kernel_rfl, by kernel_rfl⟩
instance : TyAgg Try.prog 100 2 := ⟨by kernel_rfl, by kernel_rfl⟩
instance : TyField Try.prog 100 0 0 := ⟨_, _, Try.underlying100, rfl, rfl, by kernel_rfl⟩
instance : TyField Try.prog 100 1 1 := ⟨_, _, Try.underlying100, rfl, rfl, by kernel_rfl⟩
instance : TyBuilt Try.prog 100 (fun i => (#[(0, 1), (1, 1)] : Array (Nat × Nat))[i]?) (.agg #[.int .i64 0, .slice none 0 0]) := TyBuilt.struct (ps := [(0, 1), (1, 1)]) Try.underlying100 (by kernel_rfl) (by kernel_rfl)
instance : TyZero Try.prog 100 (.agg #[.int .i64 0, .slice none 0 0]) := ⟨by kernel_rfl⟩
instance : TyAgg Try.prog 101 2 := ⟨by kernel_rfl, by kernel_rfl⟩
instance : TyField Try.prog 101 0 0 := ⟨_, _, Try.underlying101, rfl, rfl, by kernel_rfl⟩
instance : TyField Try.prog 101 1 1 := ⟨_, _, Try.underlying101, rfl, rfl, by kernel_rfl⟩
instance : TyBuilt Try.prog 101 (fun i => (#[(0, 1), (1, 1)] : Array (Nat × Nat))[i]?) (.agg #[.int .i64 0, .slice none 0 0]) := TyBuilt.struct (ps := [(0, 1), (1, 1)]) Try.underlying101 (by kernel_rfl) (by kernel_rfl)
instance : TyZero Try.prog 101 (.agg #[.int .i64 0, .slice none 0 0]) := ⟨by kernel_rfl⟩
instance : TyOne Try.prog 102 := ⟨by kernel_rfl, by kernel_rfl⟩
instance : TyOne Try.prog 103 := ⟨by kernel_rfl, by kernel_rfl⟩
instance : TyZero Try.prog 103 (.slice none 0 0) := ⟨by kernel_rfl⟩
instance : TySlice Try.prog 103 118 2 32 (.agg #[.int .i64 0, .slice none 0 0]) := TySlice.of Try.underlying103 (by kernel_rfl) (by kernel_rfl) (by decide)
instance : TyAgg Try.prog 104 3 := ⟨by kernel_rfl, by kernel_rfl⟩
instance : TyField Try.prog 104 0 0 := ⟨_, _, Try.underlying104, rfl, rfl, by kernel_rfl⟩
instance : TyField Try.prog 104 1 1 := ⟨_, _, Try.underlying104, rfl, rfl, by kernel_rfl⟩
instance : TyField Try.prog 104 2 2 := ⟨_, _, Try.underlying104, rfl, rfl, by kernel_rfl⟩
instance : TyBuilt Try.prog 104 (fun i => (#[(0, 1), (1, 1), (2, 1)] : Array (Nat × Nat))[i]?) (.agg #[.int .i64 0, .int .i64 0, .slice none 0 0]) := TyBuilt.struct (ps := [(0, 1), (1, 1), (2, 1)]) Try.underlying104 (by kernel_rfl) (by kernel_rfl)
instance : TyZero Try.prog 104 (.agg #[.int .i64 0, .int .i64 0, .slice none 0 0]) := ⟨by kernel_rfl⟩
instance : TyAgg Try.prog 105 3 := ⟨by kernel_rfl, by kernel_rfl⟩
instance : TyField Try.prog 105 0 0 := ⟨_, _, Try.underlying105, rfl, rfl, by kernel_rfl⟩
instance : TyField Try.prog 105 1 1 := ⟨_, _, Try.underlying105, rfl, rfl, by kernel_rfl⟩
instance : TyField Try.prog 105 2 2 := ⟨_, _, Try.underlying105, rfl, rfl, by kernel_rfl⟩
instance : TyBuilt Try.prog 105 (fun i => (#[(0, 1), (1, 1), (2, 1)] : Array (Nat × Nat))[i]?) (.agg #[.int .i64 0, .int .i64 0, .slice none 0 0]) := TyBuilt.struct (ps := [(0, 1), (1, 1), (2, 1)]) Try.underlying105 (by kernel_rfl) (by kernel_rfl)
instance : TyZero Try.prog 105 (.agg #[.int .i64 0, .int .i64 0, .slice none 0 0]) := ⟨by kernel_rfl⟩
instance : TyOne Try.prog 106 := ⟨by kernel_rfl, by kernel_rfl⟩
instance : TyOne Try.prog 108 := ⟨by kernel_rfl, by kernel_rfl⟩
instance : TyOne Try.prog 110 := ⟨by kernel_rfl, by kernel_rfl⟩
instance : TyOne Try.prog 112 := ⟨by kernel_rfl, by kernel_rfl⟩
instance : TyOne Try.prog 114 := ⟨by kernel_rfl, by kernel_rfl⟩
instance : TyOne Try.prog 115 := ⟨by kernel_rfl, by kernel_rfl⟩
instance : TyOne Try.prog 116 := ⟨by kernel_rfl, by kernel_rfl⟩
instance : TyAgg Try.prog 117 2 := ⟨by kernel_rfl, by kernel_rfl⟩
instance : TyField Try.prog 117 0 0 := ⟨_, _, Try.underlying117, rfl, rfl, by kernel_rfl⟩
instance : TyField Try.prog 117 1 1 := ⟨_, _, Try.underlying117, rfl, rfl, by kernel_rfl⟩
instance : TyBuilt Try.prog 117 (fun i => (#[(0, 1), (1, 1)] : Array (Nat × Nat))[i]?) (.agg #[.int .i64 0, .slice none 0 0]) := TyBuilt.struct (ps := [(0, 1), (1, 1)]) Try.underlying117 (by kernel_rfl) (by kernel_rfl)
instance : TyZero Try.prog 117 (.agg #[.int .i64 0, .slice none 0 0]) := ⟨by kernel_rfl⟩
instance : TyAgg Try.prog 118 2 := ⟨by kernel_rfl, by kernel_rfl⟩
instance : TyField Try.prog 118 0 0 := ⟨_, _, Try.underlying118, rfl, rfl, by kernel_rfl⟩
instance : TyField Try.prog 118 1 1 := ⟨_, _, Try.underlying118, rfl, rfl, by kernel_rfl⟩
instance : TyBuilt Try.prog 118 (fun i => (#[(0, 1), (1, 1)] : Array (Nat × Nat))[i]?) (.agg #[.int .i64 0, .slice none 0 0]) := TyBuilt.struct (ps := [(0, 1), (1, 1)]) Try.underlying118 (by kernel_rfl) (by kernel_rfl)
instance : TyZero Try.prog 118 (.agg #[.int .i64 0, .slice none 0 0]) := ⟨by kernel_rfl⟩
instance : TyOne Try.prog 119 := ⟨by kernel_rfl, by kernel_rfl⟩
instance : TyAgg Try.prog 120 7 := ⟨by kernel_rfl, by kernel_rfl⟩
instance : TyField Try.prog 120 0 0 := ⟨_, _, Try.underlying120, rfl, rfl, by kernel_rfl⟩
instance : TyField Try.prog 120 1 1 := ⟨_, _, Try.underlying120, rfl, rfl, by kernel_rfl⟩
instance : TyField Try.prog 120 2 2 := ⟨_, _, Try.underlying120, rfl, rfl, by kernel_rfl⟩
instance : TyField Try.prog 120 3 3 := ⟨_, _, Try.underlying120, rfl, rfl, by kernel_rfl⟩
instance : TyField Try.prog 120 4 4 := ⟨_, _, Try.underlying120, rfl, rfl, by kernel_rfl⟩
instance : TyField Try.prog 120 5 5 := ⟨_, _, Try.underlying120, rfl, rfl, by kernel_rfl⟩
instance : TyField Try.prog 120 6 6 := ⟨_, _, Try.underlying120, rfl, rfl, by kernel_rfl⟩
instance : TyBuilt Try.prog 120 (fun i => (#[(0, 1), (1, 1), (2, 1), (3, 1), (4, 1), (5, 1), (6, 1)] : Array (Nat × Nat))[i]?) (.agg #[.int .i64 0, .int .i64 0, .int .i64 0, .int .i64 0, .int .i64 0, .int .i64 0, .int .i64 0]) := TyBuilt.struct (ps := [(0, 1), (1, 1), (2, 1), (3, 1), (4, 1), (5, 1), (6, 1)]) Try.underlying120 (by kernel_rfl) (by kernel_rfl)
instance : TyZero Try.prog 120 (.agg #[.int .i64 0, .int .i64 0, .int .i64 0, .int .i64 0, .int .i64 0, .int .i64 0, .int .i64 0]) := ⟨by kernel_rfl⟩
instance : TyAgg Try.prog 121 7 := ⟨by kernel_rfl, by kernel_rfl⟩
instance : TyField Try.prog 121 0 0 := ⟨_, _, Try.underlying121, rfl, rfl, by kernel_rfl⟩
instance : TyField Try.prog 121 1 1 := ⟨_, _, Try.underlying121, rfl, rfl, by kernel_rfl⟩
instance : TyField Try.prog 121 2 2 := ⟨_, _, Try.underlying121, rfl, rfl, by kernel_rfl⟩
instance : TyField Try.prog 121 3 3 := ⟨_, _, Try.underlying121, rfl, rfl, by kernel_rfl⟩
instance : TyField Try.prog 121 4 4 := ⟨_, _, Try.underlying121, rfl, rfl, by kernel_rfl⟩
instance : TyField Try.prog 121 5 5 := ⟨_, _, Try.underlying121, rfl, rfl, by kernel_rfl⟩
instance : TyField Try.prog 121 6 6 := ⟨_, _, Try.underlying121, rfl, rfl, by kernel_rfl⟩
instance : TyBuilt Try.prog 121 (fun i => (#[(0, 1), (1, 1), (2, 1), (3, 1), (4, 1), (5, 1), (6, 1)] : Array (Nat × Nat))[i]?) (.agg #[.int .i64 0, .int .i64 0, .int .i64 0, .int .i64 0, .int .i64 0, .int .i64 0, .int .i64 0]) := TyBuilt.struct (ps := [(0, 1), (1, 1), (2, 1), (3, 1), (4, 1), (5, 1), (6, 1)]) Try.underlying121 (by kernel_rfl) (by kernel_rfl)
instance : TyZero Try.prog 121 (.agg #[.int .i64 0, .int .i64 0, .int .i64 0, .int .i64 0, .int .i64 0, .int .i64 0, .int .i64 0]) := ⟨by kernel_rfl⟩
instance : TyOne Try.prog 122 := ⟨by kernel_rfl, by kernel_rfl⟩
instance : TyOne Try.prog 123 := ⟨by kernel_rfl, by kernel_rfl⟩
instance : TyOne Try.prog 125 := ⟨by kernel_rfl, by kernel_rfl⟩
instance : TyOne Try.prog 127 := ⟨by kernel_rfl, by kernel_rfl⟩
instance : TyOne Try.prog 128 := ⟨by kernel_rfl, by kernel_rfl⟩
instance : TyOne Try.prog 129 := ⟨by kernel_rfl, by kernel_rfl⟩
instance : TyOne Try.prog 130 := ⟨by kernel_rfl, by kernel_rfl⟩
instance : TyZero Try.prog 130 (.slice none 0 0) := ⟨by kernel_rfl⟩
instance : TySlice Try.prog 130 121 7 56 (.agg #[.int .i64 0, .int .i64 0, .int .i64 0, .int .i64 0, .int .i64 0, .int .i64 0, .int .i64 0]) := TySlice.of Try.underlying130 (by kernel_rfl) (by kernel_rfl) (by decide)
instance : TyPtr Try.prog 131 := ⟨_, Try.underlying131⟩
instance : TyOne Try.prog 131 := ⟨by kernel_rfl, by kernel_rfl⟩
instance : TyZero Try.prog 131 (.pointer none) := ⟨by kernel_rfl⟩
instance : TyOne Try.prog 133 := ⟨by kernel_rfl, by kernel_rfl⟩
instance : TyOne Try.prog 134 := ⟨by kernel_rfl, by kernel_rfl⟩
instance : TyOne Try.prog 135 := ⟨by kernel_rfl, by kernel_rfl⟩
instance : TyOne Try.prog 136 := ⟨by kernel_rfl, by kernel_rfl⟩
instance : TyOne Try.prog 137 := ⟨by kernel_rfl, by kernel_rfl⟩
instance : TyOne Try.prog 138 := ⟨by kernel_rfl, by kernel_rfl⟩
instance : TyZero Try.prog 138 (.slice none 0 0) := ⟨by kernel_rfl⟩
instance : TySlice Try.prog 138 4 1 1 (.bool false) := TySlice.of Try.underlying138 (by kernel_rfl) (by kernel_rfl) (by decide)
instance : TyOne Try.prog 139 := ⟨by kernel_rfl, by kernel_rfl⟩
instance : TyOne Try.prog 140 := ⟨by kernel_rfl, by kernel_rfl⟩
instance : TyOne Try.prog 141 := ⟨by kernel_rfl, by kernel_rfl⟩
instance : TyAgg Try.prog 142 4 := ⟨by kernel_rfl, by kernel_rfl⟩
instance : TyField Try.prog 142 0 0 := ⟨_, _, Try.underlying142, rfl, rfl, by kernel_rfl⟩
instance : TyField Try.prog 142 1 1 := ⟨_, _, Try.underlying142, rfl, rfl, by kernel_rfl⟩
instance : TyField Try.prog 142 2 2 := ⟨_, _, Try.underlying142, rfl, rfl, by kernel_rfl⟩
instance : TyField Try.prog 142 3 3 := ⟨_, _, Try.underlying142, rfl, rfl, by kernel_rfl⟩
instance : TyBuilt Try.prog 142 (fun i => (#[(0, 1), (1, 1), (2, 1), (3, 1)] : Array (Nat × Nat))[i]?) (.agg #[.int .i64 0, .int .i64 0, .int .i64 0, .slice none 0 0]) := TyBuilt.struct (ps := [(0, 1), (1, 1), (2, 1), (3, 1)]) Try.underlying142 (by kernel_rfl) (by kernel_rfl)
instance : TyZero Try.prog 142 (.agg #[.int .i64 0, .int .i64 0, .int .i64 0, .slice none 0 0]) := ⟨by kernel_rfl⟩
instance : TyAgg Try.prog 143 4 := ⟨by kernel_rfl, by kernel_rfl⟩
instance : TyField Try.prog 143 0 0 := ⟨_, _, Try.underlying143, rfl, rfl, by kernel_rfl⟩
instance : TyField Try.prog 143 1 1 := ⟨_, _, Try.underlying143, rfl, rfl, by kernel_rfl⟩
instance : TyField Try.prog 143 2 2 := ⟨_, _, Try.underlying143, rfl, rfl, by kernel_rfl⟩
instance : TyField Try.prog 143 3 3 := ⟨_, _, Try.underlying143, rfl, rfl, by kernel_rfl⟩
instance : TyBuilt Try.prog 143 (fun i => (#[(0, 1), (1, 1), (2, 1), (3, 1)] : Array (Nat × Nat))[i]?) (.agg #[.int .i64 0, .int .i64 0, .int .i64 0, .slice none 0 0]) := TyBuilt.struct (ps := [(0, 1), (1, 1), (2, 1), (3, 1)]) Try.underlying143 (by kernel_rfl) (by kernel_rfl)
instance : TyZero Try.prog 143 (.agg #[.int .i64 0, .int .i64 0, .int .i64 0, .slice none 0 0]) := ⟨by kernel_rfl⟩
instance : TyOne Try.prog 144 := ⟨by kernel_rfl, by kernel_rfl⟩
instance : TyOne Try.prog 145 := ⟨by kernel_rfl, by kernel_rfl⟩
instance : TyOne Try.prog 146 := ⟨by kernel_rfl, by kernel_rfl⟩
instance : TyOne Try.prog 148 := ⟨by kernel_rfl, by kernel_rfl⟩
instance : TyOne Try.prog 150 := ⟨by kernel_rfl, by kernel_rfl⟩
instance : TyOne Try.prog 151 := ⟨by kernel_rfl, by kernel_rfl⟩
instance : TyOne Try.prog 152 := ⟨by kernel_rfl, by kernel_rfl⟩
instance : TyOne Try.prog 153 := ⟨by kernel_rfl, by kernel_rfl⟩
instance : TyOne Try.prog 154 := ⟨by kernel_rfl, by kernel_rfl⟩
instance : TyZero Try.prog 154 (.slice none 0 0) := ⟨by kernel_rfl⟩
instance : TySlice Try.prog 154 96 1 24 (.slice none 0 0) := TySlice.of Try.underlying154 (by kernel_rfl) (by kernel_rfl) (by decide)
instance : TyOne Try.prog 155 := ⟨by kernel_rfl, by kernel_rfl⟩
instance : TyOne Try.prog 156 := ⟨by kernel_rfl, by kernel_rfl⟩
instance : TyOne Try.prog 157 := ⟨by kernel_rfl, by kernel_rfl⟩
instance : TyOne Try.prog 158 := ⟨by kernel_rfl, by kernel_rfl⟩
instance : TyOne Try.prog 159 := ⟨by kernel_rfl, by kernel_rfl⟩
instance : TyOne Try.prog 160 := ⟨by kernel_rfl, by kernel_rfl⟩
instance : TyOne Try.prog 161 := ⟨by kernel_rfl, by kernel_rfl⟩
instance : TyOne Try.prog 162 := ⟨by kernel_rfl, by kernel_rfl⟩
instance : TyZero Try.prog 162 (.slice none 0 0) := ⟨by kernel_rfl⟩
instance : TySlice Try.prog 162 167 1 8 (.pointer none) := TySlice.of Try.underlying162 (by kernel_rfl) (by kernel_rfl) (by decide)
instance : TyAgg Try.prog 163 1 := ⟨by kernel_rfl, by kernel_rfl⟩
instance : TyField Try.prog 163 0 0 := ⟨_, _, Try.underlying163, rfl, rfl, by kernel_rfl⟩
instance : TyBuilt Try.prog 163 (fun i => (#[(0, 1)] : Array (Nat × Nat))[i]?) (.agg #[.slice none 0 0]) := TyBuilt.struct (ps := [(0, 1)]) Try.underlying163 (by kernel_rfl) (by kernel_rfl)
instance : TyZero Try.prog 163 (.agg #[.slice none 0 0]) := ⟨by kernel_rfl⟩
instance : TyAgg Try.prog 164 1 := ⟨by kernel_rfl, by kernel_rfl⟩
instance : TyField Try.prog 164 0 0 := ⟨_, _, Try.underlying164, rfl, rfl, by kernel_rfl⟩
instance : TyBuilt Try.prog 164 (fun i => (#[(0, 1)] : Array (Nat × Nat))[i]?) (.agg #[.slice none 0 0]) := TyBuilt.struct (ps := [(0, 1)]) Try.underlying164 (by kernel_rfl) (by kernel_rfl)
instance : TyZero Try.prog 164 (.agg #[.slice none 0 0]) := ⟨by kernel_rfl⟩
instance : TyAgg Try.prog 165 64 := ⟨by kernel_rfl, by kernel_rfl⟩
instance : TyArr Try.prog 165 64 5 1 := ⟨Try.underlying165, by kernel_rfl⟩
instance : TyBuilt Try.prog 165 (fun i => some (i * 1, 1)) (.agg (Array.replicate 64 (.int .u8 0))) := TyBuilt.array Try.underlying165 (by kernel_rfl) (by kernel_rfl)
instance : TyZero Try.prog 165 (.agg (Array.replicate 64 (.int .u8 0))) := ⟨by kernel_rfl⟩
instance : TyAgg Try.prog 166 64 := ⟨by kernel_rfl, by kernel_rfl⟩
instance : TyArr Try.prog 166 64 5 1 := ⟨Try.underlying166, by kernel_rfl⟩
instance : TyBuilt Try.prog 166 (fun i => some (i * 1, 1)) (.agg (Array.replicate 64 (.int .u8 0))) := TyBuilt.array Try.underlying166 (by kernel_rfl) (by kernel_rfl)
instance : TyZero Try.prog 166 (.agg (Array.replicate 64 (.int .u8 0))) := ⟨by kernel_rfl⟩
instance : TyPtr Try.prog 167 := ⟨_, Try.underlying167⟩
instance : TyOne Try.prog 167 := ⟨by kernel_rfl, by kernel_rfl⟩
instance : TyZero Try.prog 167 (.pointer none) := ⟨by kernel_rfl⟩
instance : TyOne Try.prog 168 := ⟨by kernel_rfl, by kernel_rfl⟩
instance : TyOne Try.prog 169 := ⟨by kernel_rfl, by kernel_rfl⟩
instance : TyOne Try.prog 170 := ⟨by kernel_rfl, by kernel_rfl⟩
instance : TyOne Try.prog 171 := ⟨by kernel_rfl, by kernel_rfl⟩
instance : TyOne Try.prog 172 := ⟨by kernel_rfl, by kernel_rfl⟩
instance : TyOne Try.prog 173 := ⟨by kernel_rfl, by kernel_rfl⟩
instance : TyOne Try.prog 174 := ⟨by kernel_rfl, by kernel_rfl⟩
instance : TyOne Try.prog 175 := ⟨by kernel_rfl, by kernel_rfl⟩
instance : TyOne Try.prog 176 := ⟨by kernel_rfl, by kernel_rfl⟩
instance : TyOne Try.prog 177 := ⟨by kernel_rfl, by kernel_rfl⟩
instance : TyOne Try.prog 178 := ⟨by kernel_rfl, by kernel_rfl⟩
instance : TyZero Try.prog 178 (.slice none 0 0) := ⟨by kernel_rfl⟩
instance : TySlice Try.prog 178 182 2 24 (.agg #[.string ByteArray.empty, .int .i64 0]) := TySlice.of Try.underlying178 (by kernel_rfl) (by kernel_rfl) (by decide)
instance : TyAgg Try.prog 179 1 := ⟨by kernel_rfl, by kernel_rfl⟩
instance : TyField Try.prog 179 0 0 := ⟨_, _, Try.underlying179, rfl, rfl, by kernel_rfl⟩
instance : TyBuilt Try.prog 179 (fun i => (#[(0, 1)] : Array (Nat × Nat))[i]?) (.agg #[.slice none 0 0]) := TyBuilt.struct (ps := [(0, 1)]) Try.underlying179 (by kernel_rfl) (by kernel_rfl)
instance : TyZero Try.prog 179 (.agg #[.slice none 0 0]) := ⟨by kernel_rfl⟩
instance : TyAgg Try.prog 180 1 := ⟨by kernel_rfl, by kernel_rfl⟩
instance : TyField Try.prog 180 0 0 := ⟨_, _, Try.underlying180, rfl, rfl, by kernel_rfl⟩
instance : TyBuilt Try.prog 180 (fun i => (#[(0, 1)] : Array (Nat × Nat))[i]?) (.agg #[.slice none 0 0]) := TyBuilt.struct (ps := [(0, 1)]) Try.underlying180 (by kernel_rfl) (by kernel_rfl)
instance : TyZero Try.prog 180 (.agg #[.slice none 0 0]) := ⟨by kernel_rfl⟩
instance : TyAgg Try.prog 181 2 := ⟨by kernel_rfl, by kernel_rfl⟩
instance : TyField Try.prog 181 0 0 := ⟨_, _, Try.underlying181, rfl, rfl, by kernel_rfl⟩
instance : TyField Try.prog 181 1 1 := ⟨_, _, Try.underlying181, rfl, rfl, by kernel_rfl⟩
instance : TyBuilt Try.prog 181 (fun i => (#[(0, 1), (1, 1)] : Array (Nat × Nat))[i]?) (.agg #[.string ByteArray.empty, .int .i64 0]) := TyBuilt.struct (ps := [(0, 1), (1, 1)]) Try.underlying181 (by kernel_rfl) (by kernel_rfl)
instance : TyZero Try.prog 181 (.agg #[.string ByteArray.empty, .int .i64 0]) := ⟨by kernel_rfl⟩
instance : TyAgg Try.prog 182 2 := ⟨by kernel_rfl, by kernel_rfl⟩
instance : TyField Try.prog 182 0 0 := ⟨_, _, Try.underlying182, rfl, rfl, by kernel_rfl⟩
instance : TyField Try.prog 182 1 1 := ⟨_, _, Try.underlying182, rfl, rfl, by kernel_rfl⟩
instance : TyBuilt Try.prog 182 (fun i => (#[(0, 1), (1, 1)] : Array (Nat × Nat))[i]?) (.agg #[.string ByteArray.empty, .int .i64 0]) := TyBuilt.struct (ps := [(0, 1), (1, 1)]) Try.underlying182 (by kernel_rfl) (by kernel_rfl)
instance : TyZero Try.prog 182 (.agg #[.string ByteArray.empty, .int .i64 0]) := ⟨by kernel_rfl⟩
instance : TyOne Try.prog 183 := ⟨by kernel_rfl, by kernel_rfl⟩
instance : TyOne Try.prog 184 := ⟨by kernel_rfl, by kernel_rfl⟩
instance : TyOne Try.prog 185 := ⟨by kernel_rfl, by kernel_rfl⟩
instance : TyOne Try.prog 186 := ⟨by kernel_rfl, by kernel_rfl⟩
instance : TyOne Try.prog 187 := ⟨by kernel_rfl, by kernel_rfl⟩
instance : TyOne Try.prog 188 := ⟨by kernel_rfl, by kernel_rfl⟩
instance : TyOne Try.prog 189 := ⟨by kernel_rfl, by kernel_rfl⟩
instance : TyZero Try.prog 189 (.slice none 0 0) := ⟨by kernel_rfl⟩
instance : TySlice Try.prog 189 194 2 24 (.agg #[.int .i64 0, .string ByteArray.empty]) := TySlice.of Try.underlying189 (by kernel_rfl) (by kernel_rfl) (by decide)
instance : TyAgg Try.prog 190 1 := ⟨by kernel_rfl, by kernel_rfl⟩
instance : TyField Try.prog 190 0 0 := ⟨_, _, Try.underlying190, rfl, rfl, by kernel_rfl⟩
instance : TyBuilt Try.prog 190 (fun i => (#[(0, 1)] : Array (Nat × Nat))[i]?) (.agg #[.slice none 0 0]) := TyBuilt.struct (ps := [(0, 1)]) Try.underlying190 (by kernel_rfl) (by kernel_rfl)
instance : TyZero Try.prog 190 (.agg #[.slice none 0 0]) := ⟨by kernel_rfl⟩
instance : TyAgg Try.prog 191 1 := ⟨by kernel_rfl, by kernel_rfl⟩
instance : TyField Try.prog 191 0 0 := ⟨_, _, Try.underlying191, rfl, rfl, by kernel_rfl⟩
instance : TyBuilt Try.prog 191 (fun i => (#[(0, 1)] : Array (Nat × Nat))[i]?) (.agg #[.slice none 0 0]) := TyBuilt.struct (ps := [(0, 1)]) Try.underlying191 (by kernel_rfl) (by kernel_rfl)
instance : TyZero Try.prog 191 (.agg #[.slice none 0 0]) := ⟨by kernel_rfl⟩
instance : TyOne Try.prog 192 := ⟨by kernel_rfl, by kernel_rfl⟩
instance : TyAgg Try.prog 193 2 := ⟨by kernel_rfl, by kernel_rfl⟩
instance : TyField Try.prog 193 0 0 := ⟨_, _, Try.underlying193, rfl, rfl, by kernel_rfl⟩
instance : TyField Try.prog 193 1 1 := ⟨_, _, Try.underlying193, rfl, rfl, by kernel_rfl⟩
instance : TyBuilt Try.prog 193 (fun i => (#[(0, 1), (1, 1)] : Array (Nat × Nat))[i]?) (.agg #[.int .i64 0, .string ByteArray.empty]) := TyBuilt.struct (ps := [(0, 1), (1, 1)]) Try.underlying193 (by kernel_rfl) (by kernel_rfl)
instance : TyZero Try.prog 193 (.agg #[.int .i64 0, .string ByteArray.empty]) := ⟨by kernel_rfl⟩
instance : TyAgg Try.prog 194 2 := ⟨by kernel_rfl, by kernel_rfl⟩
instance : TyField Try.prog 194 0 0 := ⟨_, _, Try.underlying194, rfl, rfl, by kernel_rfl⟩
instance : TyField Try.prog 194 1 1 := ⟨_, _, Try.underlying194, rfl, rfl, by kernel_rfl⟩
instance : TyBuilt Try.prog 194 (fun i => (#[(0, 1), (1, 1)] : Array (Nat × Nat))[i]?) (.agg #[.int .i64 0, .string ByteArray.empty]) := TyBuilt.struct (ps := [(0, 1), (1, 1)]) Try.underlying194 (by kernel_rfl) (by kernel_rfl)
instance : TyZero Try.prog 194 (.agg #[.int .i64 0, .string ByteArray.empty]) := ⟨by kernel_rfl⟩
instance : TyOne Try.prog 195 := ⟨by kernel_rfl, by kernel_rfl⟩
instance : TyOne Try.prog 196 := ⟨by kernel_rfl, by kernel_rfl⟩
instance : TyOne Try.prog 198 := ⟨by kernel_rfl, by kernel_rfl⟩
instance : TyOne Try.prog 199 := ⟨by kernel_rfl, by kernel_rfl⟩
instance : TyOne Try.prog 200 := ⟨by kernel_rfl, by kernel_rfl⟩
instance : TyOne Try.prog 201 := ⟨by kernel_rfl, by kernel_rfl⟩
instance : TyOne Try.prog 202 := ⟨by kernel_rfl, by kernel_rfl⟩
instance : TyOne Try.prog 203 := ⟨by kernel_rfl, by kernel_rfl⟩
instance : TyPtr Try.prog 204 := ⟨_, Try.underlying204⟩
instance : TyOne Try.prog 204 := ⟨by kernel_rfl, by kernel_rfl⟩
instance : TyZero Try.prog 204 (.pointer none) := ⟨by kernel_rfl⟩
instance : TyOne Try.prog 205 := ⟨by kernel_rfl, by kernel_rfl⟩
instance : TyAgg Try.prog 206 3 := ⟨by kernel_rfl, by kernel_rfl⟩
instance : TyField Try.prog 206 0 0 := ⟨_, _, Try.underlying206, rfl, rfl, by kernel_rfl⟩
instance : TyField Try.prog 206 1 1 := ⟨_, _, Try.underlying206, rfl, rfl, by kernel_rfl⟩
instance : TyField Try.prog 206 2 2 := ⟨_, _, Try.underlying206, rfl, rfl, by kernel_rfl⟩
instance : TyBuilt Try.prog 206 (fun i => (#[(0, 1), (1, 1), (2, 1)] : Array (Nat × Nat))[i]?) (.agg #[.int .i64 0, .int .i64 0, .pointer none]) := TyBuilt.struct (ps := [(0, 1), (1, 1), (2, 1)]) Try.underlying206 (by kernel_rfl) (by kernel_rfl)
instance : TyZero Try.prog 206 (.agg #[.int .i64 0, .int .i64 0, .pointer none]) := ⟨by kernel_rfl⟩
instance : TyAgg Try.prog 207 3 := ⟨by kernel_rfl, by kernel_rfl⟩
instance : TyField Try.prog 207 0 0 := ⟨_, _, Try.underlying207, rfl, rfl, by kernel_rfl⟩
instance : TyField Try.prog 207 1 1 := ⟨_, _, Try.underlying207, rfl, rfl, by kernel_rfl⟩
instance : TyField Try.prog 207 2 2 := ⟨_, _, Try.underlying207, rfl, rfl, by kernel_rfl⟩
instance : TyBuilt Try.prog 207 (fun i => (#[(0, 1), (1, 1), (2, 1)] : Array (Nat × Nat))[i]?) (.agg #[.int .i64 0, .int .i64 0, .pointer none]) := TyBuilt.struct (ps := [(0, 1), (1, 1), (2, 1)]) Try.underlying207 (by kernel_rfl) (by kernel_rfl)
instance : TyZero Try.prog 207 (.agg #[.int .i64 0, .int .i64 0, .pointer none]) := ⟨by kernel_rfl⟩
instance : TyOne Try.prog 208 := ⟨by kernel_rfl, by kernel_rfl⟩
instance : TyOne Try.prog 209 := ⟨by kernel_rfl, by kernel_rfl⟩
instance : TyOne Try.prog 210 := ⟨by kernel_rfl, by kernel_rfl⟩
instance : TyOne Try.prog 211 := ⟨by kernel_rfl, by kernel_rfl⟩
instance : TyOne Try.prog 212 := ⟨by kernel_rfl, by kernel_rfl⟩
instance : TyAgg Try.prog 213 5 := ⟨by kernel_rfl, by kernel_rfl⟩
instance : TyField Try.prog 213 0 0 := ⟨_, _, Try.underlying213, rfl, rfl, by kernel_rfl⟩
instance : TyField Try.prog 213 1 1 := ⟨_, _, Try.underlying213, rfl, rfl, by kernel_rfl⟩
instance : TyField Try.prog 213 2 2 := ⟨_, _, Try.underlying213, rfl, rfl, by kernel_rfl⟩
instance : TyField Try.prog 213 3 3 := ⟨_, _, Try.underlying213, rfl, rfl, by kernel_rfl⟩
instance : TyField Try.prog 213 4 4 := ⟨_, _, Try.underlying213, rfl, rfl, by kernel_rfl⟩
instance : TyBuilt Try.prog 213 (fun i => (#[(0, 1), (1, 1), (2, 1), (3, 1), (4, 1)] : Array (Nat × Nat))[i]?) (.agg #[.int .i64 0, .int .i64 0, .int .i64 0, .int .i64 0, .slice none 0 0]) := TyBuilt.struct (ps := [(0, 1), (1, 1), (2, 1), (3, 1), (4, 1)]) Try.underlying213 (by kernel_rfl) (by kernel_rfl)
instance : TyZero Try.prog 213 (.agg #[.int .i64 0, .int .i64 0, .int .i64 0, .int .i64 0, .slice none 0 0]) := ⟨by kernel_rfl⟩
instance : TyAgg Try.prog 214 5 := ⟨by kernel_rfl, by kernel_rfl⟩
instance : TyField Try.prog 214 0 0 := ⟨_, _, Try.underlying214, rfl, rfl, by kernel_rfl⟩
instance : TyField Try.prog 214 1 1 := ⟨_, _, Try.underlying214, rfl, rfl, by kernel_rfl⟩
instance : TyField Try.prog 214 2 2 := ⟨_, _, Try.underlying214, rfl, rfl, by kernel_rfl⟩
instance : TyField Try.prog 214 3 3 := ⟨_, _, Try.underlying214, rfl, rfl, by kernel_rfl⟩
instance : TyField Try.prog 214 4 4 := ⟨_, _, Try.underlying214, rfl, rfl, by kernel_rfl⟩
instance : TyBuilt Try.prog 214 (fun i => (#[(0, 1), (1, 1), (2, 1), (3, 1), (4, 1)] : Array (Nat × Nat))[i]?) (.agg #[.int .i64 0, .int .i64 0, .int .i64 0, .int .i64 0, .slice none 0 0]) := TyBuilt.struct (ps := [(0, 1), (1, 1), (2, 1), (3, 1), (4, 1)]) Try.underlying214 (by kernel_rfl) (by kernel_rfl)
instance : TyZero Try.prog 214 (.agg #[.int .i64 0, .int .i64 0, .int .i64 0, .int .i64 0, .slice none 0 0]) := ⟨by kernel_rfl⟩
instance : TyOne Try.prog 216 := ⟨by kernel_rfl, by kernel_rfl⟩
instance : TyPtr Try.prog 217 := ⟨_, Try.underlying217⟩
instance : TyOne Try.prog 217 := ⟨by kernel_rfl, by kernel_rfl⟩
instance : TyZero Try.prog 217 (.pointer none) := ⟨by kernel_rfl⟩
instance : TyOne Try.prog 218 := ⟨by kernel_rfl, by kernel_rfl⟩
instance : TyOne Try.prog 219 := ⟨by kernel_rfl, by kernel_rfl⟩
instance : TyOne Try.prog 221 := ⟨by kernel_rfl, by kernel_rfl⟩
instance : TyPtr Try.prog 222 := ⟨_, Try.underlying222⟩
instance : TyOne Try.prog 222 := ⟨by kernel_rfl, by kernel_rfl⟩
instance : TyZero Try.prog 222 (.pointer none) := ⟨by kernel_rfl⟩
instance : TyAgg Try.prog 223 2 := ⟨by kernel_rfl, by kernel_rfl⟩
instance : TyField Try.prog 223 0 0 := ⟨_, _, Try.underlying223, rfl, rfl, by kernel_rfl⟩
instance : TyField Try.prog 223 1 1 := ⟨_, _, Try.underlying223, rfl, rfl, by kernel_rfl⟩
instance : TyBuilt Try.prog 223 (fun i => (#[(0, 1), (1, 1)] : Array (Nat × Nat))[i]?) (.agg #[.string ByteArray.empty, .int .i64 0]) := TyBuilt.struct (ps := [(0, 1), (1, 1)]) Try.underlying223 (by kernel_rfl) (by kernel_rfl)
instance : TyZero Try.prog 223 (.agg #[.string ByteArray.empty, .int .i64 0]) := ⟨by kernel_rfl⟩
instance : TyAgg Try.prog 224 2 := ⟨by kernel_rfl, by kernel_rfl⟩
instance : TyField Try.prog 224 0 0 := ⟨_, _, Try.underlying224, rfl, rfl, by kernel_rfl⟩
instance : TyField Try.prog 224 1 1 := ⟨_, _, Try.underlying224, rfl, rfl, by kernel_rfl⟩
instance : TyBuilt Try.prog 224 (fun i => (#[(0, 1), (1, 1)] : Array (Nat × Nat))[i]?) (.agg #[.string ByteArray.empty, .int .i64 0]) := TyBuilt.struct (ps := [(0, 1), (1, 1)]) Try.underlying224 (by kernel_rfl) (by kernel_rfl)
instance : TyZero Try.prog 224 (.agg #[.string ByteArray.empty, .int .i64 0]) := ⟨by kernel_rfl⟩
instance : TyOne Try.prog 225 := ⟨by kernel_rfl, by kernel_rfl⟩
instance : TyPtr Try.prog 226 := ⟨_, Try.underlying226⟩
instance : TyOne Try.prog 226 := ⟨by kernel_rfl, by kernel_rfl⟩
instance : TyZero Try.prog 226 (.pointer none) := ⟨by kernel_rfl⟩
instance : TyAgg Try.prog 227 1 := ⟨by kernel_rfl, by kernel_rfl⟩
instance : TyField Try.prog 227 0 0 := ⟨_, _, Try.underlying227, rfl, rfl, by kernel_rfl⟩
instance : TyBuilt Try.prog 227 (fun i => (#[(0, 1)] : Array (Nat × Nat))[i]?) (.agg #[.slice none 0 0]) := TyBuilt.struct (ps := [(0, 1)]) Try.underlying227 (by kernel_rfl) (by kernel_rfl)
instance : TyZero Try.prog 227 (.agg #[.slice none 0 0]) := ⟨by kernel_rfl⟩
instance : TyAgg Try.prog 228 1 := ⟨by kernel_rfl, by kernel_rfl⟩
instance : TyField Try.prog 228 0 0 := ⟨_, _, Try.underlying228, rfl, rfl, by kernel_rfl⟩
instance : TyBuilt Try.prog 228 (fun i => (#[(0, 1)] : Array (Nat × Nat))[i]?) (.agg #[.slice none 0 0]) := TyBuilt.struct (ps := [(0, 1)]) Try.underlying228 (by kernel_rfl) (by kernel_rfl)
instance : TyZero Try.prog 228 (.agg #[.slice none 0 0]) := ⟨by kernel_rfl⟩
instance : TyOne Try.prog 229 := ⟨by kernel_rfl, by kernel_rfl⟩
instance : TyAgg Try.prog 230 3 := ⟨by kernel_rfl, by kernel_rfl⟩
instance : TyArr Try.prog 230 3 3 1 := ⟨Try.underlying230, by kernel_rfl⟩
instance : TyBuilt Try.prog 230 (fun i => some (i * 1, 1)) (.agg #[.int .i64 0, .int .i64 0, .int .i64 0]) := TyBuilt.array Try.underlying230 (by kernel_rfl) (by kernel_rfl)
instance : TyZero Try.prog 230 (.agg #[.int .i64 0, .int .i64 0, .int .i64 0]) := ⟨by kernel_rfl⟩
instance : TyOne Try.prog 231 := ⟨by kernel_rfl, by kernel_rfl⟩
instance : TyOne Try.prog 232 := ⟨by kernel_rfl, by kernel_rfl⟩
instance : TyZero Try.prog 232 (.slice none 0 0) := ⟨by kernel_rfl⟩
instance : TySlice Try.prog 232 238 65 72 (.agg #[.int .i64 0, .int .u8 0, .int .u8 0, .int .u8 0, .int .u8 0, .int .u8 0, .int .u8 0, .int .u8 0, .int .u8 0, .int .u8 0, .int .u8 0, .int .u8 0, .int .u8 0, .int .u8 0, .int .u8 0, .int .u8 0, .int .u8 0, .int .u8 0, .int .u8 0, .int .u8 0, .int .u8 0, .int .u8 0, .int .u8 0, .int .u8 0, .int .u8 0, .int .u8 0, .int .u8 0, .int .u8 0, .int .u8 0, .int .u8 0, .int .u8 0, .int .u8 0, .int .u8 0, .int .u8 0, .int .u8 0, .int .u8 0, .int .u8 0, .int .u8 0, .int .u8 0, .int .u8 0, .int .u8 0, .int .u8 0, .int .u8 0, .int .u8 0, .int .u8 0, .int .u8 0, .int .u8 0, .int .u8 0, .int .u8 0, .int .u8 0, .int .u8 0, .int .u8 0, .int .u8 0, .int .u8 0, .int .u8 0, .int .u8 0, .int .u8 0, .int .u8 0, .int .u8 0, .int .u8 0, .int .u8 0, .int .u8 0, .int .u8 0, .int .u8 0, .int .u8 0]) := TySlice.of Try.underlying232 (by kernel_rfl) (by kernel_rfl) (by decide)
instance : TyAgg Try.prog 233 5 := ⟨by kernel_rfl, by kernel_rfl⟩
instance : TyField Try.prog 233 0 0 := ⟨_, _, Try.underlying233, rfl, rfl, by kernel_rfl⟩
instance : TyField Try.prog 233 1 1 := ⟨_, _, Try.underlying233, rfl, rfl, by kernel_rfl⟩
instance : TyField Try.prog 233 2 2 := ⟨_, _, Try.underlying233, rfl, rfl, by kernel_rfl⟩
instance : TyField Try.prog 233 3 3 := ⟨_, _, Try.underlying233, rfl, rfl, by kernel_rfl⟩
instance : TyField Try.prog 233 4 4 := ⟨_, _, Try.underlying233, rfl, rfl, by kernel_rfl⟩
instance : TyBuilt Try.prog 233 (fun i => (#[(0, 1), (1, 1), (2, 1), (3, 1), (4, 1)] : Array (Nat × Nat))[i]?) (.agg #[.slice none 0 0, .slice none 0 0, .int .i64 0, .int .i64 0, .bool false]) := TyBuilt.struct (ps := [(0, 1), (1, 1), (2, 1), (3, 1), (4, 1)]) Try.underlying233 (by kernel_rfl) (by kernel_rfl)
instance : TyZero Try.prog 233 (.agg #[.slice none 0 0, .slice none 0 0, .int .i64 0, .int .i64 0, .bool false]) := ⟨by kernel_rfl⟩
instance : TyAgg Try.prog 234 5 := ⟨by kernel_rfl, by kernel_rfl⟩
instance : TyField Try.prog 234 0 0 := ⟨_, _, Try.underlying234, rfl, rfl, by kernel_rfl⟩
instance : TyField Try.prog 234 1 1 := ⟨_, _, Try.underlying234, rfl, rfl, by kernel_rfl⟩
instance : TyField Try.prog 234 2 2 := ⟨_, _, Try.underlying234, rfl, rfl, by kernel_rfl⟩
instance : TyField Try.prog 234 3 3 := ⟨_, _, Try.underlying234, rfl, rfl, by kernel_rfl⟩
instance : TyField Try.prog 234 4 4 := ⟨_, _, Try.underlying234, rfl, rfl, by kernel_rfl⟩
instance : TyBuilt Try.prog 234 (fun i => (#[(0, 1), (1, 1), (2, 1), (3, 1), (4, 1)] : Array (Nat × Nat))[i]?) (.agg #[.slice none 0 0, .slice none 0 0, .int .i64 0, .int .i64 0, .bool false]) := TyBuilt.struct (ps := [(0, 1), (1, 1), (2, 1), (3, 1), (4, 1)]) Try.underlying234 (by kernel_rfl) (by kernel_rfl)
instance : TyZero Try.prog 234 (.agg #[.slice none 0 0, .slice none 0 0, .int .i64 0, .int .i64 0, .bool false]) := ⟨by kernel_rfl⟩
instance : TyOne Try.prog 235 := ⟨by kernel_rfl, by kernel_rfl⟩
instance : TyOne Try.prog 236 := ⟨by kernel_rfl, by kernel_rfl⟩
instance : TyAgg Try.prog 237 65 := ⟨by kernel_rfl, by kernel_rfl⟩
instance : TyField Try.prog 237 0 0 := ⟨_, _, Try.underlying237, rfl, rfl, by kernel_rfl⟩
instance : TyField Try.prog 237 1 1 := ⟨_, _, Try.underlying237, rfl, rfl, by kernel_rfl⟩
instance : TyBuilt Try.prog 237 (fun i => (#[(0, 1), (1, 64)] : Array (Nat × Nat))[i]?) (.agg #[.int .i64 0, .int .u8 0, .int .u8 0, .int .u8 0, .int .u8 0, .int .u8 0, .int .u8 0, .int .u8 0, .int .u8 0, .int .u8 0, .int .u8 0, .int .u8 0, .int .u8 0, .int .u8 0, .int .u8 0, .int .u8 0, .int .u8 0, .int .u8 0, .int .u8 0, .int .u8 0, .int .u8 0, .int .u8 0, .int .u8 0, .int .u8 0, .int .u8 0, .int .u8 0, .int .u8 0, .int .u8 0, .int .u8 0, .int .u8 0, .int .u8 0, .int .u8 0, .int .u8 0, .int .u8 0, .int .u8 0, .int .u8 0, .int .u8 0, .int .u8 0, .int .u8 0, .int .u8 0, .int .u8 0, .int .u8 0, .int .u8 0, .int .u8 0, .int .u8 0, .int .u8 0, .int .u8 0, .int .u8 0, .int .u8 0, .int .u8 0, .int .u8 0, .int .u8 0, .int .u8 0, .int .u8 0, .int .u8 0, .int .u8 0, .int .u8 0, .int .u8 0, .int .u8 0, .int .u8 0, .int .u8 0, .int .u8 0, .int .u8 0, .int .u8 0, .int .u8 0]) := TyBuilt.struct (ps := [(0, 1), (1, 64)]) Try.underlying237 (by kernel_rfl) (by kernel_rfl)
instance : TyZero Try.prog 237 (.agg #[.int .i64 0, .int .u8 0, .int .u8 0, .int .u8 0, .int .u8 0, .int .u8 0, .int .u8 0, .int .u8 0, .int .u8 0, .int .u8 0, .int .u8 0, .int .u8 0, .int .u8 0, .int .u8 0, .int .u8 0, .int .u8 0, .int .u8 0, .int .u8 0, .int .u8 0, .int .u8 0, .int .u8 0, .int .u8 0, .int .u8 0, .int .u8 0, .int .u8 0, .int .u8 0, .int .u8 0, .int .u8 0, .int .u8 0, .int .u8 0, .int .u8 0, .int .u8 0, .int .u8 0, .int .u8 0, .int .u8 0, .int .u8 0, .int .u8 0, .int .u8 0, .int .u8 0, .int .u8 0, .int .u8 0, .int .u8 0, .int .u8 0, .int .u8 0, .int .u8 0, .int .u8 0, .int .u8 0, .int .u8 0, .int .u8 0, .int .u8 0, .int .u8 0, .int .u8 0, .int .u8 0, .int .u8 0, .int .u8 0, .int .u8 0, .int .u8 0, .int .u8 0, .int .u8 0, .int .u8 0, .int .u8 0, .int .u8 0, .int .u8 0, .int .u8 0, .int .u8 0]) := ⟨by kernel_rfl⟩
instance : TyAgg Try.prog 238 65 := ⟨by kernel_rfl, by kernel_rfl⟩
instance : TyField Try.prog 238 0 0 := ⟨_, _, Try.underlying238, rfl, rfl, by kernel_rfl⟩
instance : TyField Try.prog 238 1 1 := ⟨_, _, Try.underlying238, rfl, rfl, by kernel_rfl⟩
instance : TyBuilt Try.prog 238 (fun i => (#[(0, 1), (1, 64)] : Array (Nat × Nat))[i]?) (.agg #[.int .i64 0, .int .u8 0, .int .u8 0, .int .u8 0, .int .u8 0, .int .u8 0, .int .u8 0, .int .u8 0, .int .u8 0, .int .u8 0, .int .u8 0, .int .u8 0, .int .u8 0, .int .u8 0, .int .u8 0, .int .u8 0, .int .u8 0, .int .u8 0, .int .u8 0, .int .u8 0, .int .u8 0, .int .u8 0, .int .u8 0, .int .u8 0, .int .u8 0, .int .u8 0, .int .u8 0, .int .u8 0, .int .u8 0, .int .u8 0, .int .u8 0, .int .u8 0, .int .u8 0, .int .u8 0, .int .u8 0, .int .u8 0, .int .u8 0, .int .u8 0, .int .u8 0, .int .u8 0, .int .u8 0, .int .u8 0, .int .u8 0, .int .u8 0, .int .u8 0, .int .u8 0, .int .u8 0, .int .u8 0, .int .u8 0, .int .u8 0, .int .u8 0, .int .u8 0, .int .u8 0, .int .u8 0, .int .u8 0, .int .u8 0, .int .u8 0, .int .u8 0, .int .u8 0, .int .u8 0, .int .u8 0, .int .u8 0, .int .u8 0, .int .u8 0, .int .u8 0]) := TyBuilt.struct (ps := [(0, 1), (1, 64)]) Try.underlying238 (by kernel_rfl) (by kernel_rfl)
instance : TyZero Try.prog 238 (.agg #[.int .i64 0, .int .u8 0, .int .u8 0, .int .u8 0, .int .u8 0, .int .u8 0, .int .u8 0, .int .u8 0, .int .u8 0, .int .u8 0, .int .u8 0, .int .u8 0, .int .u8 0, .int .u8 0, .int .u8 0, .int .u8 0, .int .u8 0, .int .u8 0, .int .u8 0, .int .u8 0, .int .u8 0, .int .u8 0, .int .u8 0, .int .u8 0, .int .u8 0, .int .u8 0, .int .u8 0, .int .u8 0, .int .u8 0, .int .u8 0, .int .u8 0, .int .u8 0, .int .u8 0, .int .u8 0, .int .u8 0, .int .u8 0, .int .u8 0, .int .u8 0, .int .u8 0, .int .u8 0, .int .u8 0, .int .u8 0, .int .u8 0, .int .u8 0, .int .u8 0, .int .u8 0, .int .u8 0, .int .u8 0, .int .u8 0, .int .u8 0, .int .u8 0, .int .u8 0, .int .u8 0, .int .u8 0, .int .u8 0, .int .u8 0, .int .u8 0, .int .u8 0, .int .u8 0, .int .u8 0, .int .u8 0, .int .u8 0, .int .u8 0, .int .u8 0, .int .u8 0]) := ⟨by kernel_rfl⟩
instance : TyOne Try.prog 239 := ⟨by kernel_rfl, by kernel_rfl⟩
instance : TyOne Try.prog 241 := ⟨by kernel_rfl, by kernel_rfl⟩
instance : TyOne Try.prog 242 := ⟨by kernel_rfl, by kernel_rfl⟩
instance : TyOne Try.prog 243 := ⟨by kernel_rfl, by kernel_rfl⟩
instance : TyOne Try.prog 244 := ⟨by kernel_rfl, by kernel_rfl⟩
instance : TyPtr Try.prog 245 := ⟨_, Try.underlying245⟩
instance : TyOne Try.prog 245 := ⟨by kernel_rfl, by kernel_rfl⟩
instance : TyZero Try.prog 245 (.pointer none) := ⟨by kernel_rfl⟩
instance : TyOne Try.prog 246 := ⟨by kernel_rfl, by kernel_rfl⟩
instance : TyOne Try.prog 247 := ⟨by kernel_rfl, by kernel_rfl⟩
instance : TyOne Try.prog 248 := ⟨by kernel_rfl, by kernel_rfl⟩
instance : TyOne Try.prog 249 := ⟨by kernel_rfl, by kernel_rfl⟩
instance : TyOne Try.prog 250 := ⟨by kernel_rfl, by kernel_rfl⟩
instance : TyOne Try.prog 251 := ⟨by kernel_rfl, by kernel_rfl⟩
instance : TyOne Try.prog 252 := ⟨by kernel_rfl, by kernel_rfl⟩
instance : TyOne Try.prog 253 := ⟨by kernel_rfl, by kernel_rfl⟩
instance : TyOne Try.prog 254 := ⟨by kernel_rfl, by kernel_rfl⟩
instance : TyOne Try.prog 255 := ⟨by kernel_rfl, by kernel_rfl⟩
instance : TyOne Try.prog 256 := ⟨by kernel_rfl, by kernel_rfl⟩
instance : TyOne Try.prog 257 := ⟨by kernel_rfl, by kernel_rfl⟩
instance : TyOne Try.prog 258 := ⟨by kernel_rfl, by kernel_rfl⟩
instance : TyOne Try.prog 259 := ⟨by kernel_rfl, by kernel_rfl⟩
instance : TyOne Try.prog 260 := ⟨by kernel_rfl, by kernel_rfl⟩
instance : TyOne Try.prog 261 := ⟨by kernel_rfl, by kernel_rfl⟩
instance : TyOne Try.prog 262 := ⟨by kernel_rfl, by kernel_rfl⟩
instance : TyOne Try.prog 263 := ⟨by kernel_rfl, by kernel_rfl⟩
instance : TyOne Try.prog 264 := ⟨by kernel_rfl, by kernel_rfl⟩
instance : TyOne Try.prog 265 := ⟨by kernel_rfl, by kernel_rfl⟩
instance : TyOne Try.prog 266 := ⟨by kernel_rfl, by kernel_rfl⟩
instance : TyOne Try.prog 267 := ⟨by kernel_rfl, by kernel_rfl⟩
instance : TyOne Try.prog 268 := ⟨by kernel_rfl, by kernel_rfl⟩
instance : TyOne Try.prog 269 := ⟨by kernel_rfl, by kernel_rfl⟩
instance : TyOne Try.prog 270 := ⟨by kernel_rfl, by kernel_rfl⟩
instance : TyZero Try.prog 270 (.slice none 0 0) := ⟨by kernel_rfl⟩
instance : TySlice Try.prog 270 274 2 32 (.agg #[.int .i64 0, .slice none 0 0]) := TySlice.of Try.underlying270 (by kernel_rfl) (by kernel_rfl) (by decide)
instance : TyAgg Try.prog 271 1 := ⟨by kernel_rfl, by kernel_rfl⟩
instance : TyField Try.prog 271 0 0 := ⟨_, _, Try.underlying271, rfl, rfl, by kernel_rfl⟩
instance : TyBuilt Try.prog 271 (fun i => (#[(0, 1)] : Array (Nat × Nat))[i]?) (.agg #[.slice none 0 0]) := TyBuilt.struct (ps := [(0, 1)]) Try.underlying271 (by kernel_rfl) (by kernel_rfl)
instance : TyZero Try.prog 271 (.agg #[.slice none 0 0]) := ⟨by kernel_rfl⟩
instance : TyAgg Try.prog 272 1 := ⟨by kernel_rfl, by kernel_rfl⟩
instance : TyField Try.prog 272 0 0 := ⟨_, _, Try.underlying272, rfl, rfl, by kernel_rfl⟩
instance : TyBuilt Try.prog 272 (fun i => (#[(0, 1)] : Array (Nat × Nat))[i]?) (.agg #[.slice none 0 0]) := TyBuilt.struct (ps := [(0, 1)]) Try.underlying272 (by kernel_rfl) (by kernel_rfl)
instance : TyZero Try.prog 272 (.agg #[.slice none 0 0]) := ⟨by kernel_rfl⟩
instance : TyAgg Try.prog 273 2 := ⟨by kernel_rfl, by kernel_rfl⟩
instance : TyField Try.prog 273 0 0 := ⟨_, _, Try.underlying273, rfl, rfl, by kernel_rfl⟩
instance : TyField Try.prog 273 1 1 := ⟨_, _, Try.underlying273, rfl, rfl, by kernel_rfl⟩
instance : TyBuilt Try.prog 273 (fun i => (#[(0, 1), (1, 1)] : Array (Nat × Nat))[i]?) (.agg #[.int .i64 0, .slice none 0 0]) := TyBuilt.struct (ps := [(0, 1), (1, 1)]) Try.underlying273 (by kernel_rfl) (by kernel_rfl)
instance : TyZero Try.prog 273 (.agg #[.int .i64 0, .slice none 0 0]) := ⟨by kernel_rfl⟩
instance : TyAgg Try.prog 274 2 := ⟨by kernel_rfl, by kernel_rfl⟩
instance : TyField Try.prog 274 0 0 := ⟨_, _, Try.underlying274, rfl, rfl, by kernel_rfl⟩
instance : TyField Try.prog 274 1 1 := ⟨_, _, Try.underlying274, rfl, rfl, by kernel_rfl⟩
instance : TyBuilt Try.prog 274 (fun i => (#[(0, 1), (1, 1)] : Array (Nat × Nat))[i]?) (.agg #[.int .i64 0, .slice none 0 0]) := TyBuilt.struct (ps := [(0, 1), (1, 1)]) Try.underlying274 (by kernel_rfl) (by kernel_rfl)
instance : TyZero Try.prog 274 (.agg #[.int .i64 0, .slice none 0 0]) := ⟨by kernel_rfl⟩
instance : TyOne Try.prog 275 := ⟨by kernel_rfl, by kernel_rfl⟩
instance : TyOne Try.prog 277 := ⟨by kernel_rfl, by kernel_rfl⟩
instance : TyOne Try.prog 278 := ⟨by kernel_rfl, by kernel_rfl⟩
instance : TyOne Try.prog 279 := ⟨by kernel_rfl, by kernel_rfl⟩
instance : TyOne Try.prog 280 := ⟨by kernel_rfl, by kernel_rfl⟩
instance : TyOne Try.prog 281 := ⟨by kernel_rfl, by kernel_rfl⟩
instance : TyOne Try.prog 282 := ⟨by kernel_rfl, by kernel_rfl⟩
instance : TyOne Try.prog 283 := ⟨by kernel_rfl, by kernel_rfl⟩
instance : TyOne Try.prog 284 := ⟨by kernel_rfl, by kernel_rfl⟩
instance : TyOne Try.prog 285 := ⟨by kernel_rfl, by kernel_rfl⟩
instance : TyAgg Try.prog 286 2 := ⟨by kernel_rfl, by kernel_rfl⟩
instance : TyField Try.prog 286 0 0 := ⟨_, _, Try.underlying286, rfl, rfl, by kernel_rfl⟩
instance : TyField Try.prog 286 1 1 := ⟨_, _, Try.underlying286, rfl, rfl, by kernel_rfl⟩
instance : TyBuilt Try.prog 286 (fun i => (#[(0, 1), (1, 1)] : Array (Nat × Nat))[i]?) (.agg #[.slice none 0 0, .int .i64 0]) := TyBuilt.struct (ps := [(0, 1), (1, 1)]) Try.underlying286 (by kernel_rfl) (by kernel_rfl)
instance : TyZero Try.prog 286 (.agg #[.slice none 0 0, .int .i64 0]) := ⟨by kernel_rfl⟩
instance : TyAgg Try.prog 287 2 := ⟨by kernel_rfl, by kernel_rfl⟩
instance : TyField Try.prog 287 0 0 := ⟨_, _, Try.underlying287, rfl, rfl, by kernel_rfl⟩
instance : TyField Try.prog 287 1 1 := ⟨_, _, Try.underlying287, rfl, rfl, by kernel_rfl⟩
instance : TyBuilt Try.prog 287 (fun i => (#[(0, 1), (1, 1)] : Array (Nat × Nat))[i]?) (.agg #[.slice none 0 0, .int .i64 0]) := TyBuilt.struct (ps := [(0, 1), (1, 1)]) Try.underlying287 (by kernel_rfl) (by kernel_rfl)
instance : TyZero Try.prog 287 (.agg #[.slice none 0 0, .int .i64 0]) := ⟨by kernel_rfl⟩
instance : TyOne Try.prog 289 := ⟨by kernel_rfl, by kernel_rfl⟩
instance : TyOne Try.prog 290 := ⟨by kernel_rfl, by kernel_rfl⟩
instance : TyOne Try.prog 291 := ⟨by kernel_rfl, by kernel_rfl⟩
instance : TyOne Try.prog 292 := ⟨by kernel_rfl, by kernel_rfl⟩
instance : TyOne Try.prog 293 := ⟨by kernel_rfl, by kernel_rfl⟩
instance : TyOne Try.prog 294 := ⟨by kernel_rfl, by kernel_rfl⟩
instance : TyOne Try.prog 295 := ⟨by kernel_rfl, by kernel_rfl⟩
instance : TyZero Try.prog 295 (.slice none 0 0) := ⟨by kernel_rfl⟩
instance : TySlice Try.prog 295 299 2 32 (.agg #[.int .i64 0, .slice none 0 0]) := TySlice.of Try.underlying295 (by kernel_rfl) (by kernel_rfl) (by decide)
instance : TyAgg Try.prog 296 1 := ⟨by kernel_rfl, by kernel_rfl⟩
instance : TyField Try.prog 296 0 0 := ⟨_, _, Try.underlying296, rfl, rfl, by kernel_rfl⟩
instance : TyBuilt Try.prog 296 (fun i => (#[(0, 1)] : Array (Nat × Nat))[i]?) (.agg #[.slice none 0 0]) := TyBuilt.struct (ps := [(0, 1)]) Try.underlying296 (by kernel_rfl) (by kernel_rfl)
instance : TyZero Try.prog 296 (.agg #[.slice none 0 0]) := ⟨by kernel_rfl⟩
instance : TyAgg Try.prog 297 1 := ⟨by kernel_rfl, by kernel_rfl⟩
instance : TyField Try.prog 297 0 0 := ⟨_, _, Try.underlying297, rfl, rfl, by kernel_rfl⟩
instance : TyBuilt Try.prog 297 (fun i => (#[(0, 1)] : Array (Nat × Nat))[i]?) (.agg #[.slice none 0 0]) := TyBuilt.struct (ps := [(0, 1)]) Try.underlying297 (by kernel_rfl) (by kernel_rfl)
instance : TyZero Try.prog 297 (.agg #[.slice none 0 0]) := ⟨by kernel_rfl⟩
instance : TyAgg Try.prog 298 2 := ⟨by kernel_rfl, by kernel_rfl⟩
instance : TyField Try.prog 298 0 0 := ⟨_, _, Try.underlying298, rfl, rfl, by kernel_rfl⟩
instance : TyField Try.prog 298 1 1 := ⟨_, _, Try.underlying298, rfl, rfl, by kernel_rfl⟩
instance : TyBuilt Try.prog 298 (fun i => (#[(0, 1), (1, 1)] : Array (Nat × Nat))[i]?) (.agg #[.int .i64 0, .slice none 0 0]) := TyBuilt.struct (ps := [(0, 1), (1, 1)]) Try.underlying298 (by kernel_rfl) (by kernel_rfl)
instance : TyZero Try.prog 298 (.agg #[.int .i64 0, .slice none 0 0]) := ⟨by kernel_rfl⟩
instance : TyAgg Try.prog 299 2 := ⟨by kernel_rfl, by kernel_rfl⟩
instance : TyField Try.prog 299 0 0 := ⟨_, _, Try.underlying299, rfl, rfl, by kernel_rfl⟩
instance : TyField Try.prog 299 1 1 := ⟨_, _, Try.underlying299, rfl, rfl, by kernel_rfl⟩
instance : TyBuilt Try.prog 299 (fun i => (#[(0, 1), (1, 1)] : Array (Nat × Nat))[i]?) (.agg #[.int .i64 0, .slice none 0 0]) := TyBuilt.struct (ps := [(0, 1), (1, 1)]) Try.underlying299 (by kernel_rfl) (by kernel_rfl)
instance : TyZero Try.prog 299 (.agg #[.int .i64 0, .slice none 0 0]) := ⟨by kernel_rfl⟩
instance : TyOne Try.prog 300 := ⟨by kernel_rfl, by kernel_rfl⟩
instance : TyOne Try.prog 301 := ⟨by kernel_rfl, by kernel_rfl⟩
instance : TyOne Try.prog 302 := ⟨by kernel_rfl, by kernel_rfl⟩
instance : TyOne Try.prog 303 := ⟨by kernel_rfl, by kernel_rfl⟩
instance : TyOne Try.prog 304 := ⟨by kernel_rfl, by kernel_rfl⟩
instance : TyOne Try.prog 305 := ⟨by kernel_rfl, by kernel_rfl⟩
instance : TyOne Try.prog 307 := ⟨by kernel_rfl, by kernel_rfl⟩
instance : TyOne Try.prog 308 := ⟨by kernel_rfl, by kernel_rfl⟩
instance : TyOne Try.prog 309 := ⟨by kernel_rfl, by kernel_rfl⟩
instance : TyOne Try.prog 310 := ⟨by kernel_rfl, by kernel_rfl⟩
instance : TyOne Try.prog 311 := ⟨by kernel_rfl, by kernel_rfl⟩
instance : TyOne Try.prog 312 := ⟨by kernel_rfl, by kernel_rfl⟩
instance : TyOne Try.prog 313 := ⟨by kernel_rfl, by kernel_rfl⟩
instance : TyOne Try.prog 314 := ⟨by kernel_rfl, by kernel_rfl⟩
instance : TyOne Try.prog 315 := ⟨by kernel_rfl, by kernel_rfl⟩
instance : TyOne Try.prog 316 := ⟨by kernel_rfl, by kernel_rfl⟩
instance : TyOne Try.prog 317 := ⟨by kernel_rfl, by kernel_rfl⟩
instance : TyOne Try.prog 318 := ⟨by kernel_rfl, by kernel_rfl⟩
instance : TyOne Try.prog 319 := ⟨by kernel_rfl, by kernel_rfl⟩
instance : TyInt Try.prog 320 .u32 := ⟨Try.underlying320⟩
instance : TyOne Try.prog 320 := ⟨by kernel_rfl, by kernel_rfl⟩
instance : TyZero Try.prog 320 (.int .u32 0) := ⟨by kernel_rfl⟩
instance : TyOne Try.prog 321 := ⟨by kernel_rfl, by kernel_rfl⟩
instance : TyOne Try.prog 322 := ⟨by kernel_rfl, by kernel_rfl⟩
instance : TyOne Try.prog 323 := ⟨by kernel_rfl, by kernel_rfl⟩
instance : TyOne Try.prog 324 := ⟨by kernel_rfl, by kernel_rfl⟩
instance : TyOne Try.prog 325 := ⟨by kernel_rfl, by kernel_rfl⟩
instance : TyOne Try.prog 326 := ⟨by kernel_rfl, by kernel_rfl⟩
instance : TyOne Try.prog 327 := ⟨by kernel_rfl, by kernel_rfl⟩
instance : TyOne Try.prog 329 := ⟨by kernel_rfl, by kernel_rfl⟩
instance : TyOne Try.prog 331 := ⟨by kernel_rfl, by kernel_rfl⟩
instance : TyOne Try.prog 332 := ⟨by kernel_rfl, by kernel_rfl⟩
instance : TyOne Try.prog 333 := ⟨by kernel_rfl, by kernel_rfl⟩
instance : TyOne Try.prog 334 := ⟨by kernel_rfl, by kernel_rfl⟩
instance : TyOne Try.prog 335 := ⟨by kernel_rfl, by kernel_rfl⟩
instance : TyOne Try.prog 336 := ⟨by kernel_rfl, by kernel_rfl⟩
instance : TyOne Try.prog 337 := ⟨by kernel_rfl, by kernel_rfl⟩
instance : TyOne Try.prog 338 := ⟨by kernel_rfl, by kernel_rfl⟩
instance : TyAgg Try.prog 339 4 := ⟨by kernel_rfl, by kernel_rfl⟩
instance : TyField Try.prog 339 0 0 := ⟨_, _, Try.underlying339, rfl, rfl, by kernel_rfl⟩
instance : TyField Try.prog 339 1 1 := ⟨_, _, Try.underlying339, rfl, rfl, by kernel_rfl⟩
instance : TyField Try.prog 339 2 2 := ⟨_, _, Try.underlying339, rfl, rfl, by kernel_rfl⟩
instance : TyField Try.prog 339 3 3 := ⟨_, _, Try.underlying339, rfl, rfl, by kernel_rfl⟩
instance : TyBuilt Try.prog 339 (fun i => (#[(0, 1), (1, 1), (2, 1), (3, 1)] : Array (Nat × Nat))[i]?) (.agg #[.pointer none, .pointer none, .pointer none, .string ByteArray.empty]) := TyBuilt.struct (ps := [(0, 1), (1, 1), (2, 1), (3, 1)]) Try.underlying339 (by kernel_rfl) (by kernel_rfl)
instance : TyZero Try.prog 339 (.agg #[.pointer none, .pointer none, .pointer none, .string ByteArray.empty]) := ⟨by kernel_rfl⟩
instance : TyAgg Try.prog 341 0 := ⟨by kernel_rfl, by kernel_rfl⟩
instance : TyArr Try.prog 341 0 16 1 := ⟨Try.underlying341, by kernel_rfl⟩
instance : TyBuilt Try.prog 341 (fun i => some (i * 1, 1)) (.agg #[]) := TyBuilt.array Try.underlying341 (by kernel_rfl) (by kernel_rfl)
instance : TyZero Try.prog 341 (.agg #[]) := ⟨by kernel_rfl⟩
instance : TyAgg Try.prog 342 0 := ⟨by kernel_rfl, by kernel_rfl⟩
instance : TyBuilt Try.prog 342 (fun i => (#[(0, 0)] : Array (Nat × Nat))[i]?) (.agg #[]) := TyBuilt.struct (ps := [(0, 0)]) Try.underlying342 (by kernel_rfl) (by kernel_rfl)
instance : TyZero Try.prog 342 (.agg #[]) := ⟨by kernel_rfl⟩
instance : TyOne Try.prog 346 := ⟨by kernel_rfl, by kernel_rfl⟩
instance : TyPtr Try.prog 347 := ⟨_, Try.underlying347⟩
instance : TyOne Try.prog 347 := ⟨by kernel_rfl, by kernel_rfl⟩
instance : TyZero Try.prog 347 (.pointer none) := ⟨by kernel_rfl⟩
instance : TyOne Try.prog 352 := ⟨by kernel_rfl, by kernel_rfl⟩
instance : TyOne Try.prog 353 := ⟨by kernel_rfl, by kernel_rfl⟩
instance : TyOne Try.prog 354 := ⟨by kernel_rfl, by kernel_rfl⟩
instance : TyOne Try.prog 355 := ⟨by kernel_rfl, by kernel_rfl⟩
instance : TyOne Try.prog 356 := ⟨by kernel_rfl, by kernel_rfl⟩
instance : TyOne Try.prog 357 := ⟨by kernel_rfl, by kernel_rfl⟩
instance : Mixed Try.prog := ⟨by kernel_rfl⟩
end Go.Proofs.Ythpolibakkmmeaa
