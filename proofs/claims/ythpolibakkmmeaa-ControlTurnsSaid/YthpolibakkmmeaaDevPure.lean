/-
  A device of sectors of 64 bytes, as plain values.
-/
import Derived.Test.YthpolibakkmmeaaImagePure
import Derived.Test.YthpolibakkmmeaaCrcPure
set_option linter.unusedVariables false
namespace Brv.Dev
open Go Brv Brv.Image
structure DevV where
  stay : List UInt8
  wt : List (Nat × List UInt8)
  calls : Int
  left : Int
  off : Bool
/-- Of so many sectors; what waits lies on it. -/
structure DevV.Wf (v : DevV) (N : Nat) : Prop where
  len : v.stay.length = 64 * N
  wt : ∀ x ∈ v.wt, x.1 < N ∧ x.2.length = 64
  left : -1 ≤ v.left ∧ v.left ≤ 9223372036854775807
def newV (N : Nat) : DevV := ⟨List.replicate (64 * N) 0, [], 0, -1, false⟩
theorem newV_wf (N : Nat) : (newV N).Wf N := ⟨by simp [newV], by simp [newV], by simp [newV]⟩
def thereP (N : Nat) (at' n : Int) : Prop := 0 ≤ at' ∧ 0 ≤ n ∧ n ≤ N ∧ at' ≤ N - n
instance (N : Nat) (at' n : Int) : Decidable (thereP N at' n) := by unfold thereP; infer_instance
def setl (s : List UInt8) (x : Nat × List UInt8) : List UInt8 := laid s x.1 x.2
def laidAll (s : List UInt8) (wt : List (Nat × List UInt8)) : List UInt8 := wt.foldl setl s
theorem laidAll_append (s : List UInt8) (a b : List (Nat × List UInt8)) : laidAll s (a ++ b) = laidAll (laidAll s a) b := by simp [laidAll, List.foldl_append]
theorem laidAll_succ {s : List UInt8} {wt : List (Nat × List UInt8)} {k : Nat} {x : Nat × List UInt8} (h : wt[k]? = some x) : laidAll s (wt.take (k + 1)) = laid (laidAll s (wt.take k)) x.1 x.2 := by
  rw [List.take_add_one, h, laidAll_append]; rfl
theorem dn_of {s : List UInt8} {N : Nat} (h : s.length = 64 * N) : dn s = N := by unfold dn; omega
theorem laidAll_length {s : List UInt8} {N : Nat} : ∀ {wt : List (Nat × List UInt8)} {s : List UInt8}, s.length = 64 * N → (∀ x ∈ wt, x.1 < N ∧ x.2.length = 64) → (laidAll s wt).length = 64 * N
  | [], s, h, _ => h
  | x :: r, s, h, hw => by
    have hx := hw x (by simp)
    exact laidAll_length (s := s) (wt := r) ((laid_length hx.2 (by rw [dn_of h]; exact hx.1)).trans h) (fun y hy => hw y (by simp [hy]))
/-- A part of the sectors. -/
def win (s : List UInt8) (a n : Nat) : List UInt8 := (s.drop (64 * a)).take (64 * n)
theorem win_length {s : List UInt8} {N a n : Nat} (h : s.length = 64 * N) (hn : a + n ≤ N) : (win s a n).length = 64 * n := by
  simp only [win, List.length_take, List.length_drop]; omega
theorem win_blk {s : List UInt8} {a n j : Nat} (hj : j < n) : blk (win s a n) j = blk s (a + j) := by
  unfold blk win
  rw [List.drop_take, List.take_take, List.drop_drop, Nat.min_eq_left (by omega), Nat.mul_add]
theorem win_laid {s b : List UInt8} {N a n k : Nat} (h : s.length = 64 * N) (hn : a + n ≤ N) (hk : k < N) (hb : b.length = 64) : win (laid s k b) a n = if a ≤ k ∧ k < a + n then laid (win s a n) (k - a) b else win s a n := by
  have hl := laid_length hb (show k < dn s by rw [dn_of h]; exact hk)
  have hw := win_length (s := laid s k b) (hl.trans h) hn
  have hw0 := win_length h hn
  have key : ∀ j, j < n → blk (win (laid s k b) a n) j = if a + j = k then b else blk (win s a n) j := by
    intro j hj
    rw [win_blk hj, laid_blk hb (by rw [dn_of h]; exact hk), win_blk hj]
  split
  · rename_i hin
    have hkn : k - a < dn (win s a n) := by rw [dn_of hw0]; omega
    refine eq_of_blk (by rw [laid_length hb hkn, hw, hw0]) (by rw [dn_of hw]; exact hw) (fun j hj => ?_)
    rw [dn_of hw] at hj
    rw [key j hj, laid_blk hb hkn]
    by_cases e : a + j = k
    · rw [if_pos e, if_pos (by omega)]
    · rw [if_neg e, if_neg (by omega)]
  · rename_i hout
    refine eq_of_blk (by rw [hw, hw0]) (by rw [dn_of hw]; exact hw) (fun j hj => ?_)
    rw [dn_of hw] at hj
    rw [key j hj, if_neg (by omega)]
/-- What is read over a part. -/
def rd1 (a n : Nat) (s : List UInt8) (x : Nat × List UInt8) : List UInt8 := if a ≤ x.1 ∧ x.1 < a + n then laid s (x.1 - a) x.2 else s
theorem rd_fold {N a n : Nat} (hn : a + n ≤ N) : ∀ {wt : List (Nat × List UInt8)} {s : List UInt8}, s.length = 64 * N → (∀ x ∈ wt, x.1 < N ∧ x.2.length = 64) → wt.foldl (rd1 a n) (win s a n) = win (laidAll s wt) a n
  | [], s, _, _ => rfl
  | x :: r, s, h, hw => by
    have hx := hw x (by simp)
    have e : rd1 a n (win s a n) x = win (laid s x.1 x.2) a n := (win_laid h hn hx.1 hx.2).symm
    rw [List.foldl_cons, e]
    exact rd_fold hn ((laid_length hx.2 (by rw [dn_of h]; exact hx.1)).trans h) (fun y hy => hw y (by simp [hy]))
theorem rd_length {a n : Nat} : ∀ {wt : List (Nat × List UInt8)} {s : List UInt8}, s.length = 64 * n → (∀ x ∈ wt, x.2.length = 64) → (wt.foldl (rd1 a n) s).length = 64 * n
  | [], s, h, _ => h
  | x :: r, s, h, hw => by
    have hx := hw x (by simp)
    rw [List.foldl_cons]
    refine rd_length ?_ (fun y hy => hw y (by simp [hy]))
    unfold rd1
    split
    · rw [laid_length hx (by rw [dn_of h]; omega)]; exact h
    · exact h
def readV (v : DevV) (N : Nat) (at' n : Int) : List UInt8 × Int :=
  if v.off then ([], 10) else if thereP N at' n then (win (laidAll v.stay v.wt) at'.toNat n.toNat, 0) else ([], 11)
/-- A call that is counted. -/
def callV (v : DevV) : DevV × Bool :=
  if v.left = 0 then ({ v with off := true }, false) else ({ v with left := if 0 < v.left then v.left - 1 else v.left, calls := v.calls + 1 }, true)
theorem callV_wf {v : DevV} {N : Nat} (h : v.Wf N) : (callV v).1.Wf N := by
  unfold callV
  have := h.left
  split
  · exact ⟨h.len, h.wt, h.left⟩
  · exact ⟨h.len, h.wt, by dsimp only; split <;> omega⟩
/-- The sectors of bytes, from a place on. -/
def secsF (at' : Nat) (b : List UInt8) (k : Nat) : List (Nat × List UInt8) := (List.range k).map fun i => (at' + i, blk b i)
theorem secsF_succ (at' : Nat) (b : List UInt8) (k : Nat) : secsF at' b (k + 1) = secsF at' b k ++ [(at' + k, blk b k)] := by simp [secsF, List.range_succ]
theorem secsF_length (at' : Nat) (b : List UInt8) (k : Nat) : (secsF at' b k).length = k := by simp [secsF]
def writeV (v : DevV) (N : Nat) (at' : Int) (b : List UInt8) : DevV × Int :=
  if v.off then (v, 10) else if b.length % 64 ≠ 0 then (v, 2) else if ¬ thereP N at' (dn b) then (v, 11)
  else if (callV v).2 then ({ (callV v).1 with wt := (callV v).1.wt ++ secsF at'.toNat b (dn b) }, 0) else ((callV v).1, 10)
theorem writeV_wf {v : DevV} {N : Nat} {at' : Int} {b : List UInt8} (h : v.Wf N) : (writeV v N at' b).1.Wf N := by
  unfold writeV
  split
  · exact h
  split
  · exact h
  split
  · exact h
  rename_i hb ht
  have hc := callV_wf h
  split
  · refine ⟨hc.len, fun x hx => ?_, hc.left⟩
    rcases List.mem_append.1 hx with hx | hx
    · exact hc.wt x hx
    · obtain ⟨i, hi, rfl⟩ := List.mem_map.1 hx
      have hi := List.mem_range.1 hi
      have ht := Classical.not_not.1 ht
      unfold thereP at ht
      exact ⟨by dsimp only; omega, blk_length hi⟩
  · exact hc
def flushV (v : DevV) : DevV × Int :=
  if v.off then (v, 10) else if (callV v).2 then ({ (callV v).1 with stay := laidAll (callV v).1.stay (callV v).1.wt, wt := [] }, 0) else ((callV v).1, 10)
theorem flushV_wf {v : DevV} {N : Nat} (h : v.Wf N) : (flushV v).1.Wf N := by
  unfold flushV
  split
  · exact h
  have hc := callV_wf h
  split
  · exact ⟨laidAll_length (s := []) hc.len hc.wt, by simp, hc.left⟩
  · exact hc
/-- Some of what waits stays. -/
def keepN (s : List UInt8) (wt : List (Nat × List UInt8)) (keep : List Bool) : Nat → List UInt8
  | 0 => s
  | k + 1 => match wt[k]? with
    | some x => if keep[k]? = some true then laid (keepN s wt keep k) x.1 x.2 else keepN s wt keep k
    | none => keepN s wt keep k
theorem keepN_length {s : List UInt8} {wt : List (Nat × List UInt8)} {keep : List Bool} {N : Nat} (h : s.length = 64 * N) (hw : ∀ x ∈ wt, x.1 < N ∧ x.2.length = 64) : ∀ k, (keepN s wt keep k).length = 64 * N
  | 0 => h
  | k + 1 => by
    have ih := keepN_length h hw (keep := keep) k
    unfold keepN
    split
    · rename_i x hx
      have hx := hw x (List.mem_of_getElem? hx)
      split
      · exact (laid_length hx.2 (by rw [dn_of ih]; exact hx.1)).trans ih
      · exact ih
    · exact ih
def crashV (v : DevV) (keep : List Bool) : DevV := ⟨keepN v.stay v.wt keep v.wt.length, [], v.calls, -1, false⟩
theorem crashV_wf {v : DevV} {N : Nat} {keep : List Bool} (h : v.Wf N) : (crashV v keep).Wf N := ⟨keepN_length h.len h.wt _, by simp [crashV], by simp [crashV]⟩
def turnB (s : List UInt8) (i : Nat) (m : UInt8) : List UInt8 := s.set i (s.getD i 0 ^^^ m)
def turnV (v : DevV) (N : Nat) (at' bit : Int) : DevV × Int :=
  if at' < 0 ∨ (N : Int) ≤ at' ∨ bit < 0 ∨ 511 < bit then (v, 11) else ({ v with stay := turnB v.stay (64 * at'.toNat + bit.toNat / 8) (Crc.oneBit (bit.toNat % 8)) }, 0)
theorem turnV_wf {v : DevV} {N : Nat} {at' bit : Int} (h : v.Wf N) : (turnV v N at' bit).1.Wf N := by
  unfold turnV
  split
  · exact h
  · exact ⟨by simp [turnB, h.len], h.wt, h.left⟩
def limitV (v : DevV) (n : Int) : DevV := { v with left := max n (-1) }
theorem limitV_wf {v : DevV} {N : Nat} {n : Int} (h : v.Wf N) (hn : n ≤ 9223372036854775807) : (limitV v n).Wf N := ⟨h.len, h.wt, by simp only [limitV]; omega⟩
end Brv.Dev
namespace Brv.Dev
open Brv Brv.Image
theorem keepN_yes {s : List UInt8} {wt : List (Nat × List UInt8)} {keep : List Bool} {k : Nat} {x : Nat × List UInt8} (h : wt[k]? = some x) (hk : keep[k]? = some true) : keepN s wt keep (k + 1) = laid (keepN s wt keep k) x.1 x.2 := by rw [keepN, h]; exact if_pos hk
theorem keepN_no {s : List UInt8} {wt : List (Nat × List UInt8)} {keep : List Bool} {k : Nat} {x : Nat × List UInt8} (h : wt[k]? = some x) (hk : ¬ keep[k]? = some true) : keepN s wt keep (k + 1) = keepN s wt keep k := by rw [keepN, h]; exact if_neg hk
theorem callV_same (v : DevV) : (callV v).1.stay = v.stay ∧ (callV v).1.wt = v.wt := by unfold callV; split <;> exact ⟨rfl, rfl⟩
end Brv.Dev
namespace Brv.Dev
open Brv Brv.Image
theorem secs_wf {v : DevV} {N p k : Nat} {b : List UInt8} (h : v.Wf N) (hp : p + dn b ≤ N) (hk : k ≤ dn b) : ({ v with wt := v.wt ++ secsF p b k } : DevV).Wf N := by
  refine ⟨h.len, fun x hx => ?_, h.left⟩
  rcases List.mem_append.1 hx with hx | hx
  · exact h.wt x hx
  · obtain ⟨i, hi, rfl⟩ := List.mem_map.1 hx
    have hi := List.mem_range.1 hi
    exact ⟨by dsimp only; omega, blk_length (by omega)⟩
end Brv.Dev
namespace Brv.Dev
open Brv Brv.Image
def b7 : List UInt8 := (List.replicate 64 0).set 0 7
def u1 : DevV := (writeV (newV 3) 3 1 b7).1
def u2 : DevV := crashV u1 []
def u3 : DevV := (writeV u2 3 2 b7).1
def u4 : DevV := (flushV u3).1
def u5 : DevV := crashV u4 []
theorem fu1 : (writeV (newV 3) 3 1 b7).2 = 0 := by decide +kernel
theorem fu1r : readV u1 3 1 1 = (b7, 0) := by decide +kernel
theorem fu2r : readV u2 3 1 1 = (List.replicate 64 0, 0) := by decide +kernel
theorem fu3 : (writeV u2 3 2 b7).2 = 0 := by decide +kernel
theorem fu4 : (flushV u3).2 = 0 := by decide +kernel
theorem fu5r : readV u5 3 2 1 = (b7, 0) := by decide +kernel
theorem fu5c : u5.calls = 3 := by decide +kernel
theorem fu5l : u5.stay.length = 192 := by decide +kernel
theorem fuc : u1.calls = 1 ∧ u2.calls = 1 ∧ u3.calls = 2 ∧ u4.calls = 3 := by decide +kernel
theorem fuw : u1.wt.length = 1 ∧ u2.wt.length = 0 ∧ u3.wt.length = 1 ∧ u4.wt.length = 0 ∧ u5.wt.length = 0 := by decide +kernel
end Brv.Dev
namespace Brv.Dev
open Brv Brv.Image
/-- The last of several writes. -/
def lastV (N n : Nat) (ls : List (List UInt8)) : DevV := ⟨List.replicate (64 * N) 0, ls.map (fun b => (n, b)), ls.length, -1, false⟩
def lastB (ls : List (List UInt8)) : List UInt8 := ls.getLastD (List.replicate 64 0)
theorem lastV_nil (N n : Nat) : lastV N n [] = newV N := rfl
theorem blk_self {b : List UInt8} (h : b.length = 64) : blk b 0 = b := by unfold blk; rw [Nat.mul_zero, List.drop_zero, List.take_of_length_le (by omega)]
theorem lastV_write {N n : Nat} {ls : List (List UInt8)} {b : List UInt8} (hn : n < N) (hb : b.length = 64) : writeV (lastV N n ls) N (n : Int) b = (lastV N n (ls ++ [b]), 0) := by
  have hd : dn b = 1 := by unfold dn; rw [hb]
  unfold writeV
  rw [if_neg (by simp [lastV]), if_neg (by omega), if_neg (by unfold thereP; omega)]
  have hc : callV (lastV N n ls) = ({ lastV N n ls with left := -1, calls := (ls.length : Int) + 1 }, true) := by
    unfold callV
    rw [if_neg (by simp [lastV])]
    rfl
  rw [hc, if_pos rfl, hd]
  simp [lastV, secsF, blk_self hb]
theorem lastB_snoc (ls : List (List UInt8)) (b : List UInt8) : lastB (ls ++ [b]) = b := by simp [lastB]
theorem lastV_wf {N n : Nat} {ls : List (List UInt8)} (hn : n < N) (hl : ∀ b ∈ ls, b.length = 64) : (lastV N n ls).Wf N := ⟨by simp [lastV], fun x hx => by obtain ⟨b, hb, rfl⟩ := List.mem_map.1 hx; exact ⟨hn, hl b hb⟩, by simp [lastV]⟩
theorem laid_last {N n : Nat} (hn : n < N) : ∀ {ls : List (List UInt8)} {s : List UInt8}, s.length = 64 * N → (∀ b ∈ ls, b.length = 64) → blk (laidAll s (ls.map (fun b => (n, b)))) n = ls.getLastD (blk s n)
  | [], s, _, _ => rfl
  | b :: r, s, h, hl => by
    have hb := hl b (by simp)
    have hd : n < dn s := by rw [dn_of h]; exact hn
    have ih := laid_last hn (ls := r) (s := laid s n b) ((laid_length hb hd).trans h) (fun x hx => hl x (by simp [hx]))
    show blk (laidAll (laid s n b) (r.map (fun b => (n, b)))) n = _
    rw [ih, laid_blk hb hd, if_pos rfl]
    cases r <;> simp [List.getLastD]
theorem last_blk {N n : Nat} {ls : List (List UInt8)} (hn : n < N) (hl : ∀ b ∈ ls, b.length = 64) : blk (laidAll (lastV N n ls).stay (lastV N n ls).wt) n = lastB ls := by
  have h := laid_last hn (s := List.replicate (64 * N) 0) (by simp) hl
  rw [show laidAll (lastV N n ls).stay (lastV N n ls).wt = laidAll (List.replicate (64 * N) 0) (ls.map (fun b => (n, b))) from rfl, h, blk_zero hn]
  rfl
theorem win_one (s : List UInt8) (n : Nat) : win s n 1 = blk s n := rfl
theorem lastV_read {N n : Nat} {ls : List (List UInt8)} (hn : n < N) (hl : ∀ b ∈ ls, b.length = 64) : readV (lastV N n ls) N (n : Int) 1 = (lastB ls, 0) := by
  unfold readV
  rw [if_neg (by simp [lastV]), if_pos (by unfold thereP; omega)]
  rw [show (1 : Int).toNat = 1 from rfl, Int.toNat_natCast, win_one, last_blk hn hl]
theorem lastV_flush {N n : Nat} {ls : List (List UInt8)} : flushV (lastV N n ls) = (⟨laidAll (lastV N n ls).stay (lastV N n ls).wt, [], (ls.length : Int) + 1, -1, false⟩, 0) := by
  unfold flushV
  have hc : callV (lastV N n ls) = ({ lastV N n ls with left := -1, calls := (ls.length : Int) + 1 }, true) := by
    unfold callV
    rw [if_neg (by simp [lastV])]
    rfl
  rw [if_neg (by simp [lastV]), hc]
  rfl
end Brv.Dev
namespace Brv.Dev
theorem lastV_wt (N n : Nat) (ls : List (List UInt8)) : (lastV N n ls).wt.length = ls.length := by simp [lastV]
theorem lastV_calls (N n : Nat) (ls : List (List UInt8)) : (lastV N n ls).calls = (ls.length : Int) := rfl
end Brv.Dev
