/-
  Arrays of bytes among a row's arguments.
-/
import Derived.Test.YthpolibakkmmeaaC12
import Derived.Test.YthpolibakkmmeaaC9
set_option linter.unusedVariables false
namespace Brv
open Go
theorem arrB_of {P : Program} {w : World} {f : Nat} {T m E : Nat} (ht : P.underlying T = some (.array m E)) [t : TyInt P E .u8] (hs : P.cellsOf E = 1) (hT : P.cellsOf T = m) {cs : List Value} (h : Rd P w f T cs) : ∃ l : List UInt8, cs = vbs l ∧ l.length = m := by
  cases f with
  | zero => exact h.elim
  | succ f =>
    unfold Rd at h
    rw [ht] at h
    obtain ⟨hl, hi⟩ := h
    rw [hT] at hl
    have key : ∀ v ∈ cs, vb (match v with | .int _ n => UInt8.ofNat n.toNat | _ => 0) = v := by
      intro v hv
      obtain ⟨i, hil, rfl⟩ := List.mem_iff_getElem.1 hv
      have hr := hi i (by omega)
      rw [hs, Nat.mul_one, show (cs.drop i).take 1 = [cs[i]] from by rw [List.drop_eq_getElem_cons hil]; rfl] at hr
      obtain ⟨n, hn, hw⟩ := hr.int (k := .u8)
      have hn : cs[i] = .int .u8 n := by simpa using hn
      rw [hn]
      have := wf_u8 hw
      unfold vb
      simp
      omega
    refine ⟨cs.map (fun v => match v with | .int _ n => UInt8.ofNat n.toNat | _ => 0), ?_, by rw [List.length_map]; exact hl⟩
    unfold vbs
    rw [List.map_map]
    refine List.ext_getElem (by simp) (fun i h1 h2 => ?_)
    rw [List.getElem_map]
    exact (key _ (List.getElem_mem h1)).symm
theorem arrs_rows {P : Program} {w : World} {f : Nat} {S T m E : Nat} (hS : P.underlying S = some (.slice T)) (ht : P.underlying T = some (.array m E)) [t : TyInt P E .u8] (hs : P.cellsOf E = 1) (hT : P.cellsOf T = m) {cs : List Value} (h : Rd P w f S cs) : ∃ a n c, ∃ ls : List (List UInt8), cs = [.slice a n c] ∧ n ≤ c ∧ Tab w a n m (ls.map vbs) ∧ ∀ l ∈ ls, l.length = m := by
  cases f with
  | zero => exact h.elim
  | succ f =>
    unfold Rd at h
    rw [hS] at h
    obtain ⟨a, n, c, rfl, hnc, _, hb, vss, hl, hcell, hv⟩ := h
    have hex : ∃ ls : List (List UInt8), vss = ls.map vbs ∧ ∀ l ∈ ls, l.length = m := by
      clear hcell hl
      induction vss with
      | nil => exact ⟨[], rfl, by simp⟩
      | cons vs r ih =>
        obtain ⟨l, rfl, hl⟩ := arrB_of ht hs hT (hv vs (by simp)).2
        obtain ⟨ls, rfl, hls⟩ := ih (fun x hx => hv x (by simp [hx]))
        exact ⟨l :: ls, rfl, fun x hx => (List.mem_cons.1 hx).elim (fun e => e ▸ hl) (hls x)⟩
    obtain ⟨ls, rfl, hls⟩ := hex
    exact ⟨a, n, c, ls, rfl, hnc, ⟨hcell, hl.symm, fun vs hvs => by obtain ⟨l, hl, rfl⟩ := List.mem_map.1 hvs; rw [vbs_length]; exact hls l hl⟩, hls⟩
/-- A slice of bools. -/
theorem Rd.bools {P : Program} {w : World} {f : Nat} {T E : TypeId} (hT : P.underlying T = some (.slice E)) [t : TyBool P E] (hby : P.bytesOf E = 1) {cs : List Value} (h : Rd P w f T cs) :
    ∃ a n c, ∃ l : List Bool, cs = [.slice a n c] ∧ n ≤ c ∧ c ≤ 140737488351232 ∧ Cells w a (l.map Value.bool) ∧ n = l.length := by
  cases f with
  | zero => exact h.elim
  | succ f =>
    unfold Rd at h
    rw [hT] at h
    obtain ⟨a, n, c, rfl, hnc, ha, hb, vss, hl, hcell, hv⟩ := h
    have hex : ∃ l : List Bool, vss = l.map (fun b => [Value.bool b]) := by
      clear hcell hl
      induction vss with
      | nil => exact ⟨[], rfl⟩
      | cons vs r ih =>
        obtain ⟨b, rfl⟩ := (hv vs (by simp)).2.bool
        obtain ⟨l, rfl⟩ := ih (fun x hx => hv x (by simp [hx]))
        exact ⟨b :: l, rfl⟩
    obtain ⟨l, rfl⟩ := hex
    refine ⟨a, n, c, l, rfl, hnc, by rw [hby] at hb; omega, ?_, by simpa using hl.symm⟩
    have : (l.map (fun b => [Value.bool b])).flatten = l.map Value.bool := by
      clear hcell hl hv
      induction l with
      | nil => rfl
      | cons b r ih => simp [ih]
    rw [this] at hcell; exact hcell
end Brv
