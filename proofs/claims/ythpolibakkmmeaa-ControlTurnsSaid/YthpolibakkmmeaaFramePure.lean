/-
  Plain laws on package frame.
-/
import Derived.Test.YthpolibakkmmeaaPackPure
set_option linter.unusedVariables false
namespace Brv.Frame
open Go Brv Brv.Crc Brv.Pack

/-- Is it a right frame? -/
def okFrame (lsn epoch index count : Int) (l : List UInt8) : Prop := (0 ≤ lsn ∧ lsn ≤ 4611686018427387903) ∧ (0 ≤ epoch ∧ epoch ≤ 4294967295) ∧ (1 ≤ count ∧ count ≤ 65535) ∧ (0 ≤ index ∧ index ≤ count - 1) ∧ l.length ≤ 40
instance (a b c d : Int) (l : List UInt8) : Decidable (okFrame a b c d l) := by unfold okFrame; infer_instance
/-- The sector of a frame. -/
def frameF (lsn epoch index count : Int) (l : List UInt8) : List UInt8 :=
  markF (padF 64 ([0xb7, 0x1e] ++ be 8 lsn.toNat ++ be 4 epoch.toNat ++ be 2 index.toNat ++ be 2 count.toNat ++ textF l))
/-- What is marked. -/
def frameB (p q i k : Int) (l : List UInt8) : List UInt8 := [0xb7, 0x1e] ++ be 8 p.toNat ++ be 4 q.toNat ++ be 2 i.toNat ++ be 2 k.toNat ++ textF l
theorem frameB_length (p q i k : Int) (l : List UInt8) : (frameB p q i k l).length = 20 + l.length := by simp [frameB, be_length, textF]; omega
theorem frame_pad (p q i k : Int) (l : List UInt8) (h : l.length ≤ 40) : (padF 64 (frameB p q i k l)).length = 64 := by
  unfold padF
  rw [if_neg (by decide), List.length_append, List.length_replicate, frameB_length]
  unfold padN
  have : (20 + l.length) % (64 : Int).toNat = 20 + l.length := Nat.mod_eq_of_lt (by show 20 + l.length < 64; omega)
  rw [this]
  have : ((64 : Int).toNat - (20 + l.length)) % (64 : Int).toNat = 64 - (20 + l.length) := Nat.mod_eq_of_lt (by show 64 - (20 + l.length) < 64; omega)
  rw [this]; omega
end Brv.Frame
