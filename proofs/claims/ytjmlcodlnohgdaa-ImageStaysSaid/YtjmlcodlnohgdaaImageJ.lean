/-
  The walks of the laws on image.
-/
import Derived.Test.YtjmlcodlnohgdaaImageF
set_option linter.unusedVariables false
set_option linter.unusedSimpArgs false
namespace Go.Proofs.Ytjmlcodlnohgdaa
open Go Brv Brv.Image
def cellsW (ws : List WriteV) : List Value := (ws.map WriteV.cells).flatten
theorem cellsW_length (ws : List WriteV) : (cellsW ws).length = ws.length * 2 := by
  induction ws with
  | nil => rfl
  | cons o ws ih => simp only [cellsW, List.map_cons, List.flatten_cons, List.length_append, List.length_cons] at ih ⊢; rw [ih, WriteV.cells.length]; omega
theorem cellsW_one (ws : List WriteV) : ∀ u ∈ cellsW ws, u.oneCell' = true := by
  intro u hu
  obtain ⟨cs, hcs, hu⟩ := List.mem_flatten.1 hu
  obtain ⟨o, _, rfl⟩ := List.mem_map.1 hcs
  exact WriteV.cells.one o u hu
theorem cellsW_append (a b : List WriteV) : cellsW (a ++ b) = cellsW a ++ cellsW b := by simp [cellsW]
theorem tabW {w : World} {a : Option Addr} {n : Nat} {ws : List WriteV} (h : Cells w a (cellsW ws)) (hn : n = ws.length) : Tab w a n 2 (ws.map WriteV.cells) :=
  ⟨h, by rw [List.length_map]; exact hn, fun vs hv => by obtain ⟨o, _, rfl⟩ := List.mem_map.1 hv; rfl⟩

theorem imageJoins_ok (a0 a1 : Option Addr) (n0 c0 n1 c1 : Nat) (ws vs : List WriteV) (w : World) (T0 : Tab w a0 n0 2 (ws.map WriteV.cells)) (K0 : ∀ o ∈ ws, Bs w o.B'a o.B'n o.B') (T1 : Tab w a1 n1 2 (vs.map WriteV.cells)) (K1 : ∀ o ∈ vs, Bs w o.B'a o.B'n o.B') (hn0 : n0 ≤ 4398046510976) (hn1 : n1 ≤ 4398046510976) : Meets Try.prog 5 [.slice a0 n0 c0, .slice a1 n1 c1] w (fun v w' => v = .bool true ∧ Ext [] w w') := by
  refine Meets.enter Try.func5 rfl 68 rfl (Nat.le_of_ble_eq_true rfl) ?_
  have E := Ext.refl [] w
  have hl0 := T0.len
  rw [List.length_map] at hl0
  have hl1 := T1.len
  rw [List.length_map] at hl1
  refine G.seq ?_
  refine G.region ?_
  refine L.val rfl rfl (R.as rfl) ?_
  refine L.nil ?_
  refine N.seq ?_
  refine G.seq ?_
  refine G.seq ?_
  refine G.region ?_
  refine L.callF rfl rfl rfl go16 (image_first_ok _) ?_
  rintro _ w2 ⟨rfl, e2⟩
  replace E := E.trans0 e2
  replace T0 := T0.ext0 e2
  replace T1 := T1.ext0 e2
  replace K0 : ∀ o ∈ ws, Bs _ o.B'a o.B'n o.B' := fun o ho => (K0 o ho).ext0 e2
  replace K1 : ∀ o ∈ vs, Bs _ o.B'a o.B'n o.B' := fun o ho => (K1 o ho).ext0 e2
  refine L.val rfl rfl (R.not rfl) ?_
  refine L.nil ?_
  refine N.seq ?_
  refine G.condF rfl ?_
  refine G.skip ?_
  refine N.seq ?_
  refine G.seq ?_
  refine G.seq ?_
  refine G.region ?_
  refine L.val rfl rfl (R.mv rfl) ?_
  refine L.val rfl rfl (R.lenS rfl) ?_
  refine L.val rfl rfl (R.mv rfl) ?_
  refine L.val rfl rfl (R.lenS rfl) ?_
  refine L.val rfl rfl (R.add rfl rfl (by omega)) ?_
  refine L.val rfl rfl (R.gtr rfl rfl) ?_
  refine L.nil ?_
  refine N.seq ?_
  refine G.condP rfl (fun h1 => ?_) (fun h1 => ?_)
  · refine G.seq ?_
    refine G.region ?_
    refine L.val rfl rfl (R.as rfl) ?_
    refine L.nil ?_
    refine N.seq ?_
    refine G.ret1 rfl rfl ?_
    first | exact ⟨rfl, E⟩ | exact ⟨congrArg Value.bool (by simp), E⟩
  · refine G.skip ?_
    refine N.seq ?_
    refine G.seq ?_
    refine G.region ?_
    refine L.callF rfl rfl rfl go17 (inew_ok 6 _ (by decide) (by decide)) ?_
    rintro _ w3 ⟨d, rfl, e3, O3⟩
    replace E := E.trans0 e3
    obtain ⟨x0, hx0⟩ : ∃ x0 : List UInt8, x0 = (List.replicate (64 * 6) (0 : UInt8)) := ⟨_, rfl⟩
    have D3 : DiskAt w3 d x0 := by rw [hx0]; exact O3.at
    replace T0 := T0.ext0 e3
    replace T1 := T1.ext0 e3
    replace K0 : ∀ o ∈ ws, Bs _ o.B'a o.B'n o.B' := fun o ho => (K0 o ho).ext0 e3
    replace K1 : ∀ o ∈ vs, Bs _ o.B'a o.B'n o.B' := fun o ho => (K1 o ho).ext0 e3
    refine L.val rfl rfl (R.mv rfl) ?_
    refine L.val rfl rfl (R.ext rfl rfl) ?_
    refine L.val rfl rfl (R.ext rfl rfl) ?_
    refine L.val rfl rfl (R.as rfl) ?_
    refine L.val rfl rfl (R.as rfl) ?_
    refine L.nil ?_
    refine N.seq ?_
    refine G.seq ?_
    by_cases hx : (withF x0 (ws.map wv)).2 = 0
    · have hz : withF x0 ((ws ++ vs).map wv) = (withF (withF x0 (ws.map wv)).1 (vs.map wv)) := by rw [List.map_append, withF_append, if_pos hx]
      refine G.region ?_
      refine L.val rfl rfl (R.mv rfl) ?_
      refine L.val rfl rfl (R.mv rfl) ?_
      refine L.callF rfl rfl rfl go19 (iwith_ok d x0 _ _ _ ws _ D3 T0 K0 (by omega)) ?_
      rintro _ w4 ⟨e4, hA, _⟩
      obtain ⟨d4, rfl, D4⟩ := hA hx
      replace E := E.trans0 e4
      replace T0 := T0.ext0 e4
      replace T1 := T1.ext0 e4
      replace D3 := D3.ext0 e4
      replace K0 : ∀ o ∈ ws, Bs _ o.B'a o.B'n o.B' := fun o ho => (K0 o ho).ext0 e4
      replace K1 : ∀ o ∈ vs, Bs _ o.B'a o.B'n o.B' := fun o ho => (K1 o ho).ext0 e4
      refine L.val rfl rfl (R.mv rfl) ?_
      refine L.val rfl rfl (R.ext rfl rfl) ?_
      refine L.val rfl rfl (R.ext rfl rfl) ?_
      refine L.val rfl rfl (R.as rfl) ?_
      refine L.val rfl rfl (R.as rfl) ?_
      refine L.nil ?_
      refine N.seq ?_
      refine G.seq ?_
      by_cases hy : (withF (withF x0 (ws.map wv)).1 (vs.map wv)).2 = 0
      · refine G.region ?_
        refine L.val rfl rfl (R.mv rfl) ?_
        refine L.val rfl rfl (R.mv rfl) ?_
        refine L.callF rfl rfl rfl go19 (iwith_ok d4 _ _ _ _ vs _ D4 T1 K1 (by omega)) ?_
        rintro _ w5 ⟨e5, hA, _⟩
        obtain ⟨d5, rfl, D5⟩ := hA hy
        replace E := E.trans0 e5
        replace T0 := T0.ext0 e5
        replace T1 := T1.ext0 e5
        replace D3 := D3.ext0 e5
        replace K0 : ∀ o ∈ ws, Bs _ o.B'a o.B'n o.B' := fun o ho => (K0 o ho).ext0 e5
        replace K1 : ∀ o ∈ vs, Bs _ o.B'a o.B'n o.B' := fun o ho => (K1 o ho).ext0 e5
        refine L.val rfl rfl (R.mv rfl) ?_
        refine L.val rfl rfl (R.ext rfl rfl) ?_
        refine L.val rfl rfl (R.ext rfl rfl) ?_
        refine L.val rfl rfl (R.as rfl) ?_
        refine L.val rfl rfl (R.as rfl) ?_
        refine L.nil ?_
        refine N.seq ?_
        refine G.seq ?_
        refine G.region ?_
        refine L.val rfl rfl (R.mv rfl) ?_
        refine L.do rfl rfl (R.buildA rfl rfl rfl rfl rfl) ?_
        rintro _ w6 ⟨b39, rfl, hb39, hs39, e6, B39⟩
        have o0 : Own w6 51 2 (some ⟨b39, 0, none⟩) 0 0 (cellsW []) [b39] := Own.blk (n := 0) (size := 2) B39 (by simp) (by simp [maxLen])
        have hE5 := E.size
        replace E := E.trans0 e6
        refine L.val rfl rfl (R.mv rfl) ?_
        refine L.do rfl rfl (R.app rfl rfl o0 (T0.cells.ext0 e6) (by rw [show (List.map WriteV.cells ws).flatten = cellsW ws from rfl, cellsW_length]; omega) (cellsW_one ws) (by simp [maxLen]; omega) (by omega)) ?_
        rintro _ w7 ⟨a41, c41, M41, rfl, e7, hM41, o1⟩
        replace E := E.news2 e7 (by omega)
        have n7 : Ext [] w5 w7 := e6.news2 e7 (by omega)
        have hM41b : ∀ g ∈ M41, w5.heap.size ≤ g := fun g hg => (hM41 g hg).elim (fun h => by rw [List.mem_singleton.1 h]; omega) (fun h => by have := e6.size; omega)
        have hE7 := E.size
        refine L.val rfl rfl (R.mv rfl) ?_
        refine L.do rfl rfl (R.app rfl rfl o1 (T1.cells.ext0 n7) (by rw [show (List.map WriteV.cells vs).flatten = cellsW vs from rfl, cellsW_length]; omega) (cellsW_one vs) (by simp [maxLen]; omega) (by omega)) ?_
        rintro _ w8 ⟨a43, c43, M43, rfl, e8, hM43, o2⟩
        have n8 : Ext [] w5 w8 := n7.trans e8 (by simp) (fun g hg => .inr (hM41b g hg))
        replace E : Ext [] w w8 := E.trans e8 (by simp) (fun g hg => .inr (by have := hM41b g hg; omega))
        have Tz : Tab w8 a43 (0 + n0 + n1) 2 ((ws ++ vs).map WriteV.cells) := tabW (by rw [cellsW_append]; exact o2.cells) (by rw [List.length_append]; omega)
        have Kz : ∀ o ∈ ws ++ vs, Bs w8 o.B'a o.B'n o.B' := fun o ho => (List.mem_append.1 ho).elim (fun h => (K0 o h).ext0 n8) (fun h => (K1 o h).ext0 n8)
        refine L.callF rfl rfl rfl go19 (iwith_ok d x0 _ _ _ (ws ++ vs) _ (D3.ext0 n8) Tz Kz (by omega)) ?_
        rintro _ w9 ⟨e9, hA, _⟩
        rw [hz] at hA
        obtain ⟨d9, rfl, D9⟩ := hA hy
        replace E := E.trans0 e9
        refine L.val rfl rfl (R.mv rfl) ?_
        refine L.val rfl rfl (R.ext rfl rfl) ?_
        refine L.val rfl rfl (R.ext rfl rfl) ?_
        refine L.val rfl rfl (R.as rfl) ?_
        refine L.val rfl rfl (R.as rfl) ?_
        refine L.nil ?_
        refine N.seq ?_
        refine G.seq ?_
        refine G.seq ?_
        refine G.region ?_
        refine L.val rfl rfl (R.mv rfl) ?_
        refine L.val rfl rfl (R.neI rfl rfl) ?_
        refine L.nil ?_
        refine N.seq ?_
        refine G.condF rfl ?_
        refine G.skip ?_
        refine N.seq ?_
        refine G.seq ?_
        refine G.region ?_
        refine L.val rfl rfl (R.mv rfl) ?_
        refine L.val rfl rfl (R.mv rfl) ?_
        refine L.val rfl rfl (R.eqI rfl rfl) ?_
        refine L.val rfl rfl (R.mv rfl) ?_
        refine L.isT 63 rfl (by simp) ?_
        refine L.val rfl rfl (R.mv rfl) ?_
        refine L.val rfl rfl (R.mv rfl) ?_
        refine L.callF rfl rfl rfl go22 (isame_ok _ _ _ _ _ (D5.o.ext0 (n8.trans0 e9)) D9.o) ?_
        rintro _ w10 ⟨rfl, e10⟩
        replace E := E.trans0 e10
        first | refine L.val rfl rfl (R.pickT rfl rfl) ?_ | refine L.val rfl rfl (R.pickF rfl rfl) ?_
        refine L.val rfl rfl (R.as rfl) ?_
        refine L.nil ?_
        refine N.seq ?_
        refine G.ret1 rfl rfl ?_
        first | exact ⟨rfl, E⟩ | exact ⟨congrArg Value.bool (by simp), E⟩
      · refine G.region ?_
        refine L.val rfl rfl (R.mv rfl) ?_
        refine L.val rfl rfl (R.mv rfl) ?_
        refine L.callF rfl rfl rfl go19 (iwith_ok d4 _ _ _ _ vs _ D4 T1 K1 (by omega)) ?_
        rintro _ w5 ⟨e5, _, hA⟩
        obtain rfl := hA hy
        replace E := E.trans0 e5
        replace T0 := T0.ext0 e5
        replace T1 := T1.ext0 e5
        replace D3 := D3.ext0 e5
        replace K0 : ∀ o ∈ ws, Bs _ o.B'a o.B'n o.B' := fun o ho => (K0 o ho).ext0 e5
        replace K1 : ∀ o ∈ vs, Bs _ o.B'a o.B'n o.B' := fun o ho => (K1 o ho).ext0 e5
        refine L.val rfl rfl (R.mv rfl) ?_
        refine L.val rfl rfl (R.ext rfl rfl) ?_
        refine L.val rfl rfl (R.ext rfl rfl) ?_
        refine L.val rfl rfl (R.as rfl) ?_
        refine L.val rfl rfl (R.as rfl) ?_
        refine L.nil ?_
        refine N.seq ?_
        refine G.seq ?_
        refine G.region ?_
        refine L.val rfl rfl (R.mv rfl) ?_
        refine L.do rfl rfl (R.buildA rfl rfl rfl rfl rfl) ?_
        rintro _ w6 ⟨b39, rfl, hb39, hs39, e6, B39⟩
        have o0 : Own w6 51 2 (some ⟨b39, 0, none⟩) 0 0 (cellsW []) [b39] := Own.blk (n := 0) (size := 2) B39 (by simp) (by simp [maxLen])
        have hE5 := E.size
        replace E := E.trans0 e6
        refine L.val rfl rfl (R.mv rfl) ?_
        refine L.do rfl rfl (R.app rfl rfl o0 (T0.cells.ext0 e6) (by rw [show (List.map WriteV.cells ws).flatten = cellsW ws from rfl, cellsW_length]; omega) (cellsW_one ws) (by simp [maxLen]; omega) (by omega)) ?_
        rintro _ w7 ⟨a41, c41, M41, rfl, e7, hM41, o1⟩
        replace E := E.news2 e7 (by omega)
        have n7 : Ext [] w5 w7 := e6.news2 e7 (by omega)
        have hM41b : ∀ g ∈ M41, w5.heap.size ≤ g := fun g hg => (hM41 g hg).elim (fun h => by rw [List.mem_singleton.1 h]; omega) (fun h => by have := e6.size; omega)
        have hE7 := E.size
        refine L.val rfl rfl (R.mv rfl) ?_
        refine L.do rfl rfl (R.app rfl rfl o1 (T1.cells.ext0 n7) (by rw [show (List.map WriteV.cells vs).flatten = cellsW vs from rfl, cellsW_length]; omega) (cellsW_one vs) (by simp [maxLen]; omega) (by omega)) ?_
        rintro _ w8 ⟨a43, c43, M43, rfl, e8, hM43, o2⟩
        have n8 : Ext [] w5 w8 := n7.trans e8 (by simp) (fun g hg => .inr (hM41b g hg))
        replace E : Ext [] w w8 := E.trans e8 (by simp) (fun g hg => .inr (by have := hM41b g hg; omega))
        have Tz : Tab w8 a43 (0 + n0 + n1) 2 ((ws ++ vs).map WriteV.cells) := tabW (by rw [cellsW_append]; exact o2.cells) (by rw [List.length_append]; omega)
        have Kz : ∀ o ∈ ws ++ vs, Bs w8 o.B'a o.B'n o.B' := fun o ho => (List.mem_append.1 ho).elim (fun h => (K0 o h).ext0 n8) (fun h => (K1 o h).ext0 n8)
        refine L.callF rfl rfl rfl go19 (iwith_ok d x0 _ _ _ (ws ++ vs) _ (D3.ext0 n8) Tz Kz (by omega)) ?_
        rintro _ w9 ⟨e9, _, hA⟩
        rw [hz] at hA
        obtain rfl := hA hy
        replace E := E.trans0 e9
        refine L.val rfl rfl (R.mv rfl) ?_
        refine L.val rfl rfl (R.ext rfl rfl) ?_
        refine L.val rfl rfl (R.ext rfl rfl) ?_
        refine L.val rfl rfl (R.as rfl) ?_
        refine L.val rfl rfl (R.as rfl) ?_
        refine L.nil ?_
        refine N.seq ?_
        refine G.seq ?_
        refine G.seq ?_
        refine G.region ?_
        refine L.val rfl rfl (R.mv rfl) ?_
        refine L.val rfl rfl (R.neI rfl rfl) ?_
        refine L.nil ?_
        refine N.seq ?_
        refine G.condF rfl ?_
        refine G.skip ?_
        refine N.seq ?_
        refine G.seq ?_
        refine G.region ?_
        refine L.val rfl rfl (R.mv rfl) ?_
        refine L.val rfl rfl (R.mv rfl) ?_
        refine L.val rfl rfl (R.eqI rfl rfl) ?_
        refine L.val rfl rfl (R.mv rfl) ?_
        refine L.isT 63 rfl (by simp) ?_
        refine L.val rfl rfl (R.mv rfl) ?_
        refine L.val rfl rfl (R.mv rfl) ?_
        refine L.callF rfl rfl rfl go22 (isame_ok none none [] [] _ .no .no) ?_
        rintro _ w10 ⟨rfl, e10⟩
        replace E := E.trans0 e10
        first | refine L.val rfl rfl (R.pickT rfl rfl) ?_ | refine L.val rfl rfl (R.pickF rfl rfl) ?_
        refine L.val rfl rfl (R.as rfl) ?_
        refine L.nil ?_
        refine N.seq ?_
        refine G.ret1 rfl rfl ?_
        first | exact ⟨rfl, E⟩ | exact ⟨congrArg Value.bool (by simp), E⟩
    · have hz : withF x0 ((ws ++ vs).map wv) = ([], (withF x0 (ws.map wv)).2) := by rw [List.map_append, withF_append, if_neg hx]
      refine G.region ?_
      refine L.val rfl rfl (R.mv rfl) ?_
      refine L.val rfl rfl (R.mv rfl) ?_
      refine L.callF rfl rfl rfl go19 (iwith_ok d x0 _ _ _ ws _ D3 T0 K0 (by omega)) ?_
      rintro _ w4 ⟨e4, _, hA⟩
      obtain rfl := hA hx
      replace E := E.trans0 e4
      replace T0 := T0.ext0 e4
      replace T1 := T1.ext0 e4
      replace D3 := D3.ext0 e4
      replace K0 : ∀ o ∈ ws, Bs _ o.B'a o.B'n o.B' := fun o ho => (K0 o ho).ext0 e4
      replace K1 : ∀ o ∈ vs, Bs _ o.B'a o.B'n o.B' := fun o ho => (K1 o ho).ext0 e4
      refine L.val rfl rfl (R.mv rfl) ?_
      refine L.val rfl rfl (R.ext rfl rfl) ?_
      refine L.val rfl rfl (R.ext rfl rfl) ?_
      refine L.val rfl rfl (R.as rfl) ?_
      refine L.val rfl rfl (R.as rfl) ?_
      refine L.nil ?_
      refine N.seq ?_
      refine G.seq ?_
      refine G.region ?_
      refine L.val rfl rfl (R.mv rfl) ?_
      refine L.val rfl rfl (R.mv rfl) ?_
      refine L.callF rfl rfl rfl go19 (iwith_nil _ _ _ _) ?_
      rintro _ w5 ⟨rfl, rfl⟩
      refine L.val rfl rfl (R.mv rfl) ?_
      refine L.val rfl rfl (R.ext rfl rfl) ?_
      refine L.val rfl rfl (R.ext rfl rfl) ?_
      refine L.val rfl rfl (R.as rfl) ?_
      refine L.val rfl rfl (R.as rfl) ?_
      refine L.nil ?_
      refine N.seq ?_
      refine G.seq ?_
      refine G.region ?_
      refine L.val rfl rfl (R.mv rfl) ?_
      refine L.do rfl rfl (R.buildA rfl rfl rfl rfl rfl) ?_
      rintro _ w6 ⟨b39, rfl, hb39, hs39, e6, B39⟩
      have o0 : Own w6 51 2 (some ⟨b39, 0, none⟩) 0 0 (cellsW []) [b39] := Own.blk (n := 0) (size := 2) B39 (by simp) (by simp [maxLen])
      have hE5 := E.size
      replace E := E.trans0 e6
      refine L.val rfl rfl (R.mv rfl) ?_
      refine L.do rfl rfl (R.app rfl rfl o0 (T0.cells.ext0 e6) (by rw [show (List.map WriteV.cells ws).flatten = cellsW ws from rfl, cellsW_length]; omega) (cellsW_one ws) (by simp [maxLen]; omega) (by omega)) ?_
      rintro _ w7 ⟨a41, c41, M41, rfl, e7, hM41, o1⟩
      replace E := E.news2 e7 (by omega)
      have n7 : Ext [] w5 w7 := e6.news2 e7 (by omega)
      have hM41b : ∀ g ∈ M41, w5.heap.size ≤ g := fun g hg => (hM41 g hg).elim (fun h => by rw [List.mem_singleton.1 h]; omega) (fun h => by have := e6.size; omega)
      have hE7 := E.size
      refine L.val rfl rfl (R.mv rfl) ?_
      refine L.do rfl rfl (R.app rfl rfl o1 (T1.cells.ext0 n7) (by rw [show (List.map WriteV.cells vs).flatten = cellsW vs from rfl, cellsW_length]; omega) (cellsW_one vs) (by simp [maxLen]; omega) (by omega)) ?_
      rintro _ w8 ⟨a43, c43, M43, rfl, e8, hM43, o2⟩
      have n8 : Ext [] w5 w8 := n7.trans e8 (by simp) (fun g hg => .inr (hM41b g hg))
      replace E : Ext [] w w8 := E.trans e8 (by simp) (fun g hg => .inr (by have := hM41b g hg; omega))
      have Tz : Tab w8 a43 (0 + n0 + n1) 2 ((ws ++ vs).map WriteV.cells) := tabW (by rw [cellsW_append]; exact o2.cells) (by rw [List.length_append]; omega)
      have Kz : ∀ o ∈ ws ++ vs, Bs w8 o.B'a o.B'n o.B' := fun o ho => (List.mem_append.1 ho).elim (fun h => (K0 o h).ext0 n8) (fun h => (K1 o h).ext0 n8)
      refine L.callF rfl rfl rfl go19 (iwith_ok d x0 _ _ _ (ws ++ vs) _ (D3.ext0 n8) Tz Kz (by omega)) ?_
      rintro _ w9 ⟨e9, _, hA⟩
      rw [hz] at hA
      obtain rfl := hA hx
      replace E := E.trans0 e9
      refine L.val rfl rfl (R.mv rfl) ?_
      refine L.val rfl rfl (R.ext rfl rfl) ?_
      refine L.val rfl rfl (R.ext rfl rfl) ?_
      refine L.val rfl rfl (R.as rfl) ?_
      refine L.val rfl rfl (R.as rfl) ?_
      refine L.nil ?_
      refine N.seq ?_
      refine G.seq ?_
      refine G.seq ?_
      refine G.region ?_
      refine L.val rfl rfl (R.mv rfl) ?_
      refine L.val rfl rfl (R.neI rfl rfl) ?_
      refine L.nil ?_
      refine N.seq ?_
      refine G.condP rfl (fun h2 => ?_) (fun h2 => ?_)
      · refine G.seq ?_
        refine G.region ?_
        refine L.val rfl rfl (R.mv rfl) ?_
        refine L.val rfl rfl (R.mv rfl) ?_
        refine L.val rfl rfl (R.eqI rfl rfl) ?_
        refine L.val rfl rfl (R.mv rfl) ?_
        refine L.isT 52 rfl (by simp) ?_
        refine L.val rfl rfl (R.mv rfl) ?_
        refine L.val rfl rfl (R.eqNilP rfl rfl) ?_
        first | refine L.val rfl rfl (R.pickT rfl rfl) ?_ | refine L.val rfl rfl (R.pickF rfl rfl) ?_
        refine L.val rfl rfl (R.mv rfl) ?_
        refine L.isT 56 rfl (by rfl) ?_
        refine L.val rfl rfl (R.mv rfl) ?_
        refine L.val rfl rfl (R.eqI rfl rfl) ?_
        first | refine L.val rfl rfl (R.pickT rfl rfl) ?_ | refine L.val rfl rfl (R.pickF rfl rfl) ?_
        refine L.val rfl rfl (R.as rfl) ?_
        refine L.nil ?_
        refine N.seq ?_
        refine G.ret1 rfl rfl ?_
        first | exact ⟨rfl, E⟩ | exact ⟨congrArg Value.bool (by simp), E⟩
      · exact absurd (Classical.not_not.1 h2) hx

end Go.Proofs.Ytjmlcodlnohgdaa
