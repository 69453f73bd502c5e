/-
  A device that is limited.
-/
import Derived.Test.YthpolibakkmmeaaDevPure
set_option linter.unusedVariables false
namespace Brv.Dev
open Brv Brv.Image
theorem dn_64 {b : List UInt8} (h : b.length = 64) : dn b = 1 := by unfold dn; rw [h]
theorem write_ok {v : DevV} {N p : Nat} {b : List UInt8} (ho : v.off = false) (hb : b.length = 64) (hp : p < N) (hl : v.left ≠ 0) : writeV v N (p : Int) b = ({ v with left := if 0 < v.left then v.left - 1 else v.left, calls := v.calls + 1, wt := v.wt ++ [(p, b)] }, 0) := by
  unfold writeV
  rw [if_neg (by simp [ho]), if_neg (by omega), if_neg (by rw [dn_64 hb]; unfold thereP; omega)]
  have hc : callV v = ({ v with left := if 0 < v.left then v.left - 1 else v.left, calls := v.calls + 1 }, true) := if_neg hl
  rw [hc, if_pos rfl, dn_64 hb]
  simp [secsF, blk_self hb]
theorem write_lim {v : DevV} {N p : Nat} {b : List UInt8} (ho : v.off = false) (hb : b.length = 64) (hp : p < N) (hl : v.left = 0) : writeV v N (p : Int) b = ({ v with off := true }, 10) := by
  unfold writeV
  rw [if_neg (by simp [ho]), if_neg (by omega), if_neg (by rw [dn_64 hb]; unfold thereP; omega)]
  have hc : callV v = ({ v with off := true }, false) := if_pos hl
  rw [hc, if_neg (by simp)]
theorem write_off {v : DevV} {N : Nat} {p : Int} {b : List UInt8} (ho : v.off = true) : writeV v N p b = (v, 10) := if_pos ho
theorem flush_ok {v : DevV} (ho : v.off = false) (hl : v.left ≠ 0) : flushV v = (⟨laidAll v.stay v.wt, [], v.calls + 1, if 0 < v.left then v.left - 1 else v.left, false⟩, 0) := by
  unfold flushV
  have hc : callV v = ({ v with left := if 0 < v.left then v.left - 1 else v.left, calls := v.calls + 1 }, true) := if_neg hl
  rw [if_neg (by simp [ho]), hc, if_pos rfl]
  simp [ho]
def kS (la : List UInt8) : List UInt8 := laid (List.replicate (64 * 4) 0) 1 la
def k1 (la : List UInt8) : DevV := ⟨List.replicate (64 * 4) 0, [(1, la)], 1, -1, false⟩
def k2 (la : List UInt8) : DevV := ⟨kS la, [], 2, -1, false⟩
def k3 (la lb : List UInt8) : DevV := ⟨kS la, [(1, lb)], 3, -1, false⟩
def k4 (la lb : List UInt8) : DevV := ⟨kS la, [(1, lb), (2, lb)], 4, -1, false⟩
theorem k1_eq {la : List UInt8} (h : la.length = 64) : writeV (newV 4) 4 1 la = (k1 la, 0) := write_ok (v := newV 4) (N := 4) (p := 1) rfl h (by decide) (by decide)
theorem k2_eq (la : List UInt8) : flushV (k1 la) = (k2 la, 0) := flush_ok (v := k1 la) rfl (by show (-1 : Int) ≠ 0; decide)
theorem k3_eq {la lb : List UInt8} (h : lb.length = 64) : writeV (k2 la) 4 1 lb = (k3 la lb, 0) := write_ok (v := k2 la) (N := 4) (p := 1) rfl h (by decide) (by show (-1 : Int) ≠ 0; decide)
theorem k4_eq {la lb : List UInt8} (h : lb.length = 64) : writeV (k3 la lb) 4 2 lb = (k4 la lb, 0) := write_ok (v := k3 la lb) (N := 4) (p := 2) rfl h (by decide) (by show (-1 : Int) ≠ 0; decide)
def kV (la lb : List UInt8) (m j : Nat) : DevV := ⟨kS la, (1, lb) :: (2, lb) :: List.replicate (min j m) (3, la), 4 + (min j m : Nat), (m : Int) - (min j m : Nat), decide (m < j)⟩
theorem kV_zero (la lb : List UInt8) (m : Nat) : limitV (k4 la lb) (m : Int) = kV la lb m 0 := by
  have : max (m : Int) (-1) = m := by omega
  simp [limitV, k4, kV, this]
theorem kV_succ {la lb : List UInt8} {m j : Nat} (h : la.length = 64) : (writeV (kV la lb m j) 4 3 la).1 = kV la lb m (j + 1) := by
  rcases Nat.lt_trichotomy j m with hlt | rfl | hgt
  · have hm : min j m = j := by omega
    have hm2 : min (j + 1) m = j + 1 := by omega
    rw [show (3 : Int) = ((3 : Nat) : Int) from rfl, write_ok (v := kV la lb m j) (N := 4) (p := 3) (by simp [kV]; omega) h (by decide) (by simp only [kV, hm]; omega)]
    simp only [kV, hm, hm2, DevV.mk.injEq, true_and]
    refine ⟨by simp [List.replicate_succ'], by omega, by rw [if_pos (by omega)]; omega, by simp; omega⟩
  · rw [show (3 : Int) = ((3 : Nat) : Int) from rfl, write_lim (v := kV la lb j j) (N := 4) (p := 3) (by simp [kV]) h (by decide) (by simp [kV])]
    have hm2 : min (j + 1) j = j := by omega
    simp [kV, hm2]
  · rw [write_off (by simp [kV]; omega)]
    have hm : min j m = m := by omega
    have hm2 : min (j + 1) m = m := by omega
    simp only [kV, hm, hm2, DevV.mk.injEq, true_and]
    simp
    omega
theorem kV_off {la lb : List UInt8} {m : Nat} (h : m < 4) : (kV la lb m 4).off = true := by simp [kV, h]
theorem kV_len (la lb : List UInt8) (m j : Nat) : (kV la lb m j).wt.length = 2 + min j m := by simp [kV]; omega
theorem keep_one {s : List UInt8} {x : Nat × List UInt8} {r : List (Nat × List UInt8)} {kp : Bool} : ∀ k, keepN s (x :: r) [kp] (k + 1) = if kp then laid s x.1 x.2 else s
  | 0 => by
    cases kp
    · rw [keepN_no (x := x) rfl (by simp)]; rfl
    · rw [keepN_yes (x := x) rfl rfl]; rfl
  | k + 1 => by
    have ih := keep_one (s := s) (x := x) (r := r) (kp := kp) k
    cases hx : (x :: r)[k + 1]? with
    | none => rw [keepN, hx]; exact ih
    | some y => rw [keepN_no hx (by simp)]; exact ih
def kEnd (la lb : List UInt8) (kp : Bool) : List UInt8 := if kp then laid (kS la) 1 lb else kS la
theorem kV_crash (la lb : List UInt8) (m j : Nat) (kp : Bool) : crashV (kV la lb m j) [kp] = ⟨kEnd la lb kp, [], 4 + (min j m : Nat), -1, false⟩ := by
  unfold crashV
  have : (kV la lb m j).wt.length = (1 + min j m) + 1 := by rw [kV_len]; omega
  rw [this]
  show DevV.mk (keepN (kS la) ((1, lb) :: (2, lb) :: List.replicate (min j m) (3, la)) [kp] ((1 + min j m) + 1)) [] _ _ _ = _
  rw [keep_one]
  rfl
theorem kS_len {la : List UInt8} (h : la.length = 64) : (kS la).length = 256 := by unfold kS; rw [laid_length h (by rw [dn_zero]; decide), List.length_replicate]
theorem kEnd_len {la lb : List UInt8} {kp : Bool} (h : la.length = 64) (h2 : lb.length = 64) : (kEnd la lb kp).length = 256 := by
  unfold kEnd
  split
  · rw [laid_length h2 (by rw [dn_of (N := 4) (kS_len h)]; decide), kS_len h]
  · exact kS_len h
theorem kEnd_one {la lb : List UInt8} {kp : Bool} (h : la.length = 64) (h2 : lb.length = 64) : blk (kEnd la lb kp) 1 = if kp then lb else la := by
  have h1 : blk (kS la) 1 = la := by unfold kS; rw [laid_blk h (by rw [dn_zero]; decide), if_pos rfl]
  unfold kEnd
  cases kp
  · exact h1
  · show blk (laid (kS la) 1 lb) 1 = lb
    rw [laid_blk h2 (by rw [dn_of (N := 4) (kS_len h)]; decide), if_pos rfl]
theorem kEnd_rest {la lb : List UInt8} {kp : Bool} (h : la.length = 64) (h2 : lb.length = 64) : (kEnd la lb kp).drop 128 = List.replicate 128 0 := by
  have h1 : (kS la).drop 128 = List.replicate 128 0 := by
    unfold kS laid
    rw [List.append_assoc, List.drop_append, List.drop_of_length_le (by rw [List.length_take, List.length_replicate]; decide), List.nil_append, List.drop_append, List.length_take, List.length_replicate, List.drop_of_length_le (by rw [h]; decide), List.nil_append, h, List.drop_replicate, List.drop_replicate]
    exact congrArg (fun n => List.replicate n (0 : UInt8)) (by decide)
  unfold kEnd
  cases kp
  · exact h1
  · show (laid (kS la) 1 lb).drop 128 = _
    unfold laid
    have hk := kS_len h
    rw [List.append_assoc, List.drop_append, List.drop_of_length_le (by rw [List.length_take]; omega), List.nil_append, List.drop_append, List.length_take, List.drop_of_length_le (by omega), List.nil_append, List.drop_drop]
    rw [show 64 * 1 + 64 + (128 - min (64 * 1) (kS la).length - lb.length) = 128 by rw [h2, hk]; rfl]
    exact h1
theorem kEnd_read {la lb : List UInt8} {kp : Bool} {c : Int} (h : la.length = 64) (h2 : lb.length = 64) : readV ⟨kEnd la lb kp, [], c, -1, false⟩ 4 0 4 = (kEnd la lb kp, 0) := by
  unfold readV
  rw [if_neg (by simp), if_pos (by decide)]
  have : win (laidAll (kEnd la lb kp) []) (0 : Int).toNat (4 : Int).toNat = kEnd la lb kp := by
    show ((kEnd la lb kp).drop 0).take 256 = _
    rw [List.drop_zero, List.take_of_length_le (by rw [kEnd_len h h2]; exact Nat.le_refl _)]
  exact congrArg (fun l => (l, (0 : Int))) this
theorem callV_bd (v : DevV) : v.calls ≤ (callV v).1.calls ∧ (callV v).1.calls ≤ v.calls + 1 := by unfold callV; split <;> (constructor <;> dsimp only <;> omega)
/-- A step of a play: how calls and what waits grow. -/
def Stp (v v' : DevV) (k : Nat) : Prop := v.calls ≤ v'.calls ∧ v'.calls ≤ v.calls + 1 ∧ v'.wt.length ≤ v.wt.length + k
theorem Stp.refl (v : DevV) (k : Nat) : Stp v v k := ⟨Int.le_refl _, by omega, by omega⟩
theorem Stp.c {v v' : DevV} {k i : Nat} (h : Stp v v' k) (hc : 0 ≤ v.calls ∧ v.calls ≤ (i : Int)) : 0 ≤ v'.calls ∧ v'.calls ≤ ((i + 1 : Nat) : Int) := by obtain ⟨h1, h2, _⟩ := h; omega
theorem Stp.w {v v' : DevV} {k i : Nat} (h : Stp v v' k) (hw : v.wt.length ≤ 40 * i) (hk : k ≤ 40) : v'.wt.length ≤ 40 * (i + 1) := by obtain ⟨_, _, h3⟩ := h; omega
theorem writeV_bd (v : DevV) (N : Nat) (p : Int) (b : List UInt8) : Stp v (writeV v N p b).1 (dn b) := by
  have h1 := callV_bd v
  have h2 := callV_same v
  unfold writeV
  split
  · exact Stp.refl _ _
  split
  · exact Stp.refl _ _
  split
  · exact Stp.refl _ _
  split
  · exact ⟨h1.1, h1.2, by dsimp only; rw [List.length_append, secsF_length, h2.2]; exact Nat.le_refl _⟩
  · exact ⟨h1.1, h1.2, by dsimp only; rw [h2.2]; omega⟩
theorem flushV_bd (v : DevV) : Stp v (flushV v).1 0 := by
  have h1 := callV_bd v
  have h2 := callV_same v
  unfold flushV
  split
  · exact Stp.refl _ _
  split
  · exact ⟨h1.1, h1.2, by dsimp only; simp⟩
  · exact ⟨h1.1, h1.2, by dsimp only; rw [h2.2]; omega⟩
theorem crashV_bd (v : DevV) (ks : List Bool) : Stp v (crashV v ks) 0 := ⟨Int.le_refl _, by simp only [crashV]; omega, by simp [crashV]⟩
theorem limitV_bd (v : DevV) (n : Int) : Stp v (limitV v n) 0 := ⟨Int.le_refl _, by simp only [limitV]; omega, by simp [limitV]⟩
theorem turnV_bd (v : DevV) (N : Nat) (p q : Int) : Stp v (turnV v N p q).1 0 := by
  unfold turnV
  split
  · exact ⟨Int.le_refl _, by dsimp only; omega, by dsimp only; omega⟩
  · exact Stp.refl _ _
end Brv.Dev
