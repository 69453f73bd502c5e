/-
  Texts of this claim, put together.
-/
import Derived.Stop.BytesEq
import Derived.Laws.Cover3
import Derived.Test.YthpolibakkmmeaaOrlPLz1
/-
  The walks of package order.
-/
set_option linter.unusedVariables false
set_option linter.unusedSimpArgs false
set_option maxRecDepth 4000
namespace Go.Proofs.Ythpolibakkmmeaa
open Go Brv
theorem pallS_ok (a : Option Addr) (n c : Nat) (w : World) : Meets Try.prog 178 [.slice a n c] w (fun v w' => ∃ b0, v = .func (.func 217) #[] #[.pointer (some ⟨b0, 0, none⟩)] ∧ Ext [] w w' ∧ Blk w' b0 #[.slice a n c] 189 (0, 0) ∧ w.heap.size ≤ b0) := by
  refine Meets.enter Try.func178 rfl 4 rfl (Nat.le_of_ble_eq_true rfl) ?_
  have E := Ext.refl [] w
  refine G.seq ?_
  refine G.region ?_
  refine L.do rfl rfl (R.box rfl) ?_
  rintro _ w1 ⟨b0, rfl, hb1, hs1, e1, B1⟩
  replace E := E.trans0 e1
  refine L.val rfl rfl (R.as rfl) ?_
  refine L.nil ?_
  refine N.seq ?_
  refine G.seq ?_
  refine G.region ?_
  refine L.val rfl rfl (R.mkFunc rfl rfl) ?_
  refine L.val rfl rfl (R.as rfl) ?_
  refine L.nil ?_
  refine N.seq ?_
  refine G.ret1 rfl rfl ?_
  exact ⟨b0, rfl, E, B1, by omega⟩

theorem pall1S_ok (y : Value) (b0 : Nat) (a : Option Addr) (n c : Nat) (ps : List (Pr (Int))) (Ma : List Nat) (D₀ : List Nat) (J Jx : Nat → List Nat → World → Prop) (w : World) (hB0 : Blk w b0 #[.slice a n c] 189 (0, 0)) (ho : Own w 194 (1 + 1) a n c (pcells ps) Ma) (hn : n = ps.length) (hok : OkP 1 ps) (hnl : n ≤ 1000000) (hD : ∀ g ∈ D₀, g < w.heap.size ∧ g ∉ b0 :: Ma ∧ g ∉ ([] : List Nat)) (hJ : ∀ k D W₁ W₂ M', J k D W₁ → Ext M' W₁ W₂ → (∀ g ∈ M', g ∉ D ∧ (g ∈ ([] : List Nat) ∨ w.heap.size ≤ g)) → J k D W₂) (hJx : ∀ k D W₁ W₂ M', Jx k D W₁ → Ext M' W₁ W₂ → (∀ g ∈ M', g ∉ D ∧ (g ∈ ([] : List Nat) ∨ w.heap.size ≤ g)) → Jx k D W₂) (hY : ∀ k D vs W₁, k < n → J k D W₁ → prE (fun k => ps[k]?) k vs W₁ → (∀ g ∈ D, g < W₁.heap.size) → YCall Try.prog y vs W₁ fun b W₂ => ∃ D', Ext D W₁ W₂ ∧ (∀ g ∈ D', g < W₂.heap.size ∧ (g ∈ D ∨ W₁.heap.size ≤ g)) ∧ (b = true → J (k + 1) D' W₂) ∧ (b = false → Jx (k + 1) D' W₂)) (h0 : J 0 D₀ w) : Meets Try.prog 217 [y, .pointer (some ⟨b0, 0, none⟩)] w (fun _ W₂ => (∃ D, J n D W₂ ∧ True) ∨ ∃ k D, k ≤ n ∧ Jx k D W₂ ∧ True) := by
  refine Meets.enter Try.func217 rfl 18 rfl (Nat.le_of_ble_eq_true rfl) ?_
  have hb0D : b0 ∉ D₀ := fun h => (hD _ h).2.1 (by simp)
  have hMD : ∀ g ∈ Ma, g ∉ D₀ := fun g hg h => (hD _ h).2.1 (by simp [hg])
  refine G.seq ?_
  refine G.region ?_
  refine L.val rfl rfl (R.ldB rfl hB0 rfl) ?_
  refine L.val rfl rfl (R.lenS rfl) ?_
  refine L.val rfl rfl (R.mv rfl) ?_
  refine L.nil ?_
  refine N.seq ?_
  refine G.block ?_
  refine G.loop (X := Nat) (fun i => [(0, y), (5, .slice a n c), (6, .int .i64 (n : Int)), (7, .int .i64 (i : Int))]) (fun i w' => i ≤ n ∧ (∃ D, J i D w' ∧ ∀ g ∈ D, g < w'.heap.size ∧ (g ∈ D₀ ∨ w.heap.size ≤ g)) ∧ Ext D₀ w w') (fun i => n - i) (0) (Sub.cons rfl (Sub.cons rfl (Sub.cons rfl (Sub.cons rfl (Sub.nil _))))) ⟨Nat.zero_le _, ⟨D₀, h0, fun g hg => ⟨(hD g hg).1, .inl hg⟩⟩, Ext.refl _ _⟩ ?_
  rintro i w1 ⟨hi, ⟨D, hJi, hDD⟩, e1⟩
  have ho1 := ho.ext e1 hMD
  have B0 := hB0.ext e1 hb0D
  refine G.seq ?_
  refine G.region ?_
  refine L.val rfl rfl (R.lss rfl rfl) ?_
  refine L.nil ?_
  refine N.seq ?_
  refine G.seq ?_
  refine G.condP rfl (fun h0 => ?_) (fun h0 => ?_)
  · have hil : i < n := by omega
    have hes := e1.size
    obtain ⟨p, hp⟩ : ∃ p, ps[i]? = some p := ⟨_, List.getElem?_eq_getElem (by omega)⟩
    obtain ⟨q, hq, hcl⟩ := (Tab.pairs ho1.cells hn hok).at (by decide) i (by rw [List.length_map]; omega)
    have he : (ps.map pcell)[i]'(by rw [List.length_map]; omega) = pcell p := by rw [List.getElem_map]; exact congrArg pcell (List.getElem?_eq_some_iff.1 hp).2
    rw [he] at hcl
    have hsz : (pcell p).length = 2 := by show p.2.length + 1 = _; rw [(hok p (List.mem_of_getElem? hp)).1]
    have hsA : (pcell p).toArray.size = 2 := by rw [List.size_toArray]; exact hsz
    have h1c : ∀ u ∈ (pcell p).toArray.toList, u.oneCell' = true := pcell1 (hok p (List.mem_of_getElem? hp)).2
    refine G.skip ?_
    refine N.seq ?_
    refine G.seq ?_
    refine G.block ?_
    refine G.seq ?_
    refine G.region ?_
    refine L.val rfl rfl (R.mv rfl) ?_
    refine L.val rfl rfl (R.idx rfl rfl (by omega) (by omega) q hq) ?_
    refine L.val rfl rfl (R.ldN (vs := pcell p) rfl hcl hsz) ?_
    refine L.do rfl rfl (R.alloc) ?_
    rintro _ w2 ⟨b4, rfl, hb4, hs4, e2, B4⟩
    have hDb : ∀ g ∈ D, g < b4 := fun g hg => by have := (hDD g hg).1; omega
    replace B4 : Blk w2 b4 (.agg #[.int .i64 0, .string ByteArray.empty] : Value).cells 194 (0, 0) := B4
    replace hJi := hJ _ D w1 w2 [] hJi e2 (by simp)
    replace hDD := fun g hg => And.intro (Nat.lt_of_lt_of_le (hDD g hg).1 e2.size) (hDD g hg).2
    replace e1 := e1.trans0 e2
    have hws := e1.size
    refine L.val rfl rfl (R.as rfl) ?_
    refine L.set rfl (R.stN rfl rfl B4 hsA (by show 0 + (pcell p).toArray.size ≤ 2; omega) h1c) ?_
    rintro w3 ⟨e3, hs3, B4⟩
    rw [over_all (show (.agg #[.int .i64 0, .string ByteArray.empty] : Value).cells.size = (pcell p).toArray.size from hsA.symm)] at B4
    replace hJi := hJ _ D w2 w3 [b4] hJi e3 (fun g hg => by rw [List.mem_singleton.1 hg]; exact ⟨fun h => by have := hDb _ h; omega, .inr (by omega)⟩)
    replace hDD := fun g hg => And.intro (Nat.lt_of_lt_of_le (hDD g hg).1 e3.size) (hDD g hg).2
    replace e1 := e1.transN e3 (fun g hg => .inr (by rw [List.mem_singleton.1 hg]; omega))
    refine L.nil ?_
    refine N.seq ?_
    refine G.seq ?_
    refine G.region ?_
    refine L.val rfl rfl (R.mv rfl) ?_
    refine L.val rfl rfl (R.mv rfl) ?_
    refine L.val rfl rfl (R.ldBN rfl B4 hsA) ?_
    refine L.ycall rfl rfl rfl rfl (hY i D _ _ hil hJi ⟨p, _, hp, rfl⟩ (fun g hg => (hDD g hg).1)) ?_
    rintro bb w4 ⟨D2, eD, hD2, hT, hF⟩
    refine L.val rfl rfl (R.not rfl) ?_
    refine L.nil ?_
    refine N.seq ?_
    refine G.condB rfl (fun h1 => ?_) (fun h1 => ?_)
    · obtain rfl : bb = false := by simpa using h1
      refine G.ret0 rfl ?_
      exact .inr ⟨i + 1, D2, by omega, hF rfl, trivial⟩
    · obtain rfl : bb = true := by simpa using h1
      refine G.skip ?_
      refine N.block ?_
      refine N.seq ?_
      refine G.region ?_
      refine L.val rfl rfl (R.add rfl rfl (by omega)) ?_
      refine L.val rfl rfl (R.mv rfl) ?_
      refine L.nil ?_
      exact N.again (i + 1) (by omega) (Sub.cons rfl (Sub.cons rfl (Sub.cons rfl (Sub.cons rfl (Sub.nil _))))) ⟨by omega, ⟨D2, hT rfl, fun g hg => ⟨(hD2 g hg).1, (hD2 g hg).2.elim (fun h => (hDD g h).2) (fun h => .inr (Nat.le_trans e1.size h))⟩⟩, e1.transN eD (fun g hg => (hDD g hg).2)⟩
  · refine G.exit _ rfl ?_
    refine N.end0 rfl ?_
    obtain rfl : i = n := by omega
    exact .inl ⟨D, hJi, trivial⟩

theorem pallS_iter (b0 : Nat) (a : Option Addr) (n c : Nat) (ps : List (Pr (Int))) (Ma : List Nat) (w : World) (hB0 : Blk w b0 #[.slice a n c] 189 (0, 0)) (ho : Own w 194 (1 + 1) a n c (pcells ps) Ma) (hn : n = ps.length) (hok : OkP 1 ps) (hnl : n ≤ 1000000) : Iter Try.prog 217 [.pointer (some ⟨b0, 0, none⟩)] w n (prE (fun k => ps[k]?)) (fun _ _ => True) (b0 :: Ma) [] := by
  intro y D₀ J Jx W hE hD hJ hJx hY h0
  exact pall1S_ok y b0 a n c ps Ma D₀ J Jx W (hB0.ext0 hE) (ho.ext0 hE) hn hok hnl hD (fun k D W₁ W₂ M' h he hm => hJ k D W₁ W₂ M' h he (fun g hg => ⟨(hm g hg).1, (hm g hg).2.imp id (Nat.le_trans hE.size)⟩)) (fun k D W₁ W₂ M' h he hm => hJx k D W₁ W₂ M' h he (fun g hg => ⟨(hm g hg).1, (hm g hg).2.imp id (Nat.le_trans hE.size)⟩)) hY h0

theorem pbackS_ok (a : Option Addr) (n c : Nat) (w : World) : Meets Try.prog 179 [.slice a n c] w (fun v w' => ∃ b0, v = .func (.func 218) #[] #[.pointer (some ⟨b0, 0, none⟩)] ∧ Ext [] w w' ∧ Blk w' b0 #[.slice a n c] 189 (0, 0) ∧ w.heap.size ≤ b0) := by
  refine Meets.enter Try.func179 rfl 4 rfl (Nat.le_of_ble_eq_true rfl) ?_
  have E := Ext.refl [] w
  refine G.seq ?_
  refine G.region ?_
  refine L.do rfl rfl (R.box rfl) ?_
  rintro _ w1 ⟨b0, rfl, hb1, hs1, e1, B1⟩
  replace E := E.trans0 e1
  refine L.val rfl rfl (R.as rfl) ?_
  refine L.nil ?_
  refine N.seq ?_
  refine G.seq ?_
  refine G.region ?_
  refine L.val rfl rfl (R.mkFunc rfl rfl) ?_
  refine L.val rfl rfl (R.as rfl) ?_
  refine L.nil ?_
  refine N.seq ?_
  refine G.ret1 rfl rfl ?_
  exact ⟨b0, rfl, E, B1, by omega⟩

theorem pback1S_ok (y : Value) (b0 : Nat) (a : Option Addr) (n c : Nat) (ps : List (Pr (Int))) (Ma : List Nat) (D₀ : List Nat) (J Jx : Nat → List Nat → World → Prop) (w : World) (hB0 : Blk w b0 #[.slice a n c] 189 (0, 0)) (ho : Own w 194 (1 + 1) a n c (pcells ps) Ma) (hn : n = ps.length) (hok : OkP 1 ps) (hnl : n ≤ 1000000) (hD : ∀ g ∈ D₀, g < w.heap.size ∧ g ∉ b0 :: Ma ∧ g ∉ ([] : List Nat)) (hJ : ∀ k D W₁ W₂ M', J k D W₁ → Ext M' W₁ W₂ → (∀ g ∈ M', g ∉ D ∧ (g ∈ ([] : List Nat) ∨ w.heap.size ≤ g)) → J k D W₂) (hJx : ∀ k D W₁ W₂ M', Jx k D W₁ → Ext M' W₁ W₂ → (∀ g ∈ M', g ∉ D ∧ (g ∈ ([] : List Nat) ∨ w.heap.size ≤ g)) → Jx k D W₂) (hY : ∀ k D vs W₁, k < n → J k D W₁ → prE (fun k => ps.reverse[k]?) k vs W₁ → (∀ g ∈ D, g < W₁.heap.size) → YCall Try.prog y vs W₁ fun b W₂ => ∃ D', Ext D W₁ W₂ ∧ (∀ g ∈ D', g < W₂.heap.size ∧ (g ∈ D ∨ W₁.heap.size ≤ g)) ∧ (b = true → J (k + 1) D' W₂) ∧ (b = false → Jx (k + 1) D' W₂)) (h0 : J 0 D₀ w) : Meets Try.prog 218 [y, .pointer (some ⟨b0, 0, none⟩)] w (fun _ W₂ => (∃ D, J n D W₂ ∧ True) ∨ ∃ k D, k ≤ n ∧ Jx k D W₂ ∧ True) := by
  refine Meets.enter Try.func218 rfl 19 rfl (Nat.le_of_ble_eq_true rfl) ?_
  have hb0D : b0 ∉ D₀ := fun h => (hD _ h).2.1 (by simp)
  have hMD : ∀ g ∈ Ma, g ∉ D₀ := fun g hg h => (hD _ h).2.1 (by simp [hg])
  refine G.seq ?_
  refine G.region ?_
  refine L.val rfl rfl (R.ldB rfl hB0 rfl) ?_
  refine L.val rfl rfl (R.lenS rfl) ?_
  refine L.val rfl rfl (R.sub' rfl rfl (by omega)) ?_
  refine L.be 6 rfl (show _ = Value.int .i64 ((n : Int) - 1 - (0 : Nat)) by congr 1; omega) ?_
  refine L.val rfl rfl (R.as rfl) ?_
  refine L.nil ?_
  refine N.seq ?_
  refine G.block ?_
  refine G.loop (X := Nat) (fun i => [(0, y), (1, .pointer (some ⟨b0, 0, none⟩)), (3, .int .i64 ((n : Int) - 1 - (i : Nat)))]) (fun i w' => i ≤ n ∧ (∃ D, J i D w' ∧ ∀ g ∈ D, g < w'.heap.size ∧ (g ∈ D₀ ∨ w.heap.size ≤ g)) ∧ Ext D₀ w w') (fun i => n - i) (0) (Sub.cons rfl (Sub.cons rfl (Sub.cons rfl (Sub.nil _)))) ⟨Nat.zero_le _, ⟨D₀, h0, fun g hg => ⟨(hD g hg).1, .inl hg⟩⟩, Ext.refl _ _⟩ ?_
  rintro i w1 ⟨hi, ⟨D, hJi, hDD⟩, e1⟩
  have ho1 := ho.ext e1 hMD
  have B0 := hB0.ext e1 hb0D
  refine G.seq ?_
  refine G.seq ?_
  refine G.region ?_
  refine L.val rfl rfl (R.mv rfl) ?_
  refine L.val rfl rfl (R.geq rfl rfl) ?_
  refine L.nil ?_
  refine N.seq ?_
  refine G.condP rfl (fun h0 => ?_) (fun h0 => ?_)
  · have hil : i < n := by omega
    obtain ⟨j, hj⟩ : ∃ j, j = n - 1 - i := ⟨_, rfl⟩
    have hjl : j < n := by omega
    obtain ⟨p, hp⟩ : ∃ p, ps[j]? = some p := ⟨_, List.getElem?_eq_getElem (by omega)⟩
    obtain ⟨q, hq, hcl⟩ := (Tab.pairs ho1.cells hn hok).at (by decide) j (by rw [List.length_map]; omega)
    have he : (ps.map pcell)[j]'(by rw [List.length_map]; omega) = pcell p := by rw [List.getElem_map]; exact congrArg pcell (List.getElem?_eq_some_iff.1 hp).2
    rw [he] at hcl
    have hsz : (pcell p).length = 2 := by show p.2.length + 1 = _; rw [(hok p (List.mem_of_getElem? hp)).1]
    have hsA : (pcell p).toArray.size = 2 := by rw [List.size_toArray]; exact hsz
    have h1c : ∀ u ∈ (pcell p).toArray.toList, u.oneCell' = true := pcell1 (hok p (List.mem_of_getElem? hp)).2
    have hpr : ps.reverse[i]? = some p := by rw [List.getElem?_reverse (by omega), ← hp]; congr 1; omega
    refine G.skip ?_
    refine N.seq ?_
    refine G.seq ?_
    refine G.block ?_
    refine G.seq ?_
    refine G.region ?_
    refine L.val rfl rfl (R.mv rfl) ?_
    refine L.val rfl rfl (R.mv rfl) ?_
    refine L.val rfl rfl (R.ldB rfl B0 rfl) ?_
    refine L.val rfl rfl (R.mv rfl) ?_
    refine L.be 14 rfl (show _ = Value.int .i64 (j : Int) by congr 1; omega) ?_
    refine L.val rfl rfl (R.idx rfl rfl (by omega) (by omega) q hq) ?_
    refine L.val rfl rfl (R.ldN (vs := pcell p) rfl hcl hsz) ?_
    refine L.ycall rfl rfl rfl rfl (hY i D _ _ hil hJi ⟨p, _, hpr, rfl⟩ (fun g hg => (hDD g hg).1)) ?_
    rintro bb w4 ⟨D2, eD, hD2, hT, hF⟩
    refine L.val rfl rfl (R.not rfl) ?_
    refine L.nil ?_
    refine N.seq ?_
    refine G.condB rfl (fun h1 => ?_) (fun h1 => ?_)
    · obtain rfl : bb = false := by simpa using h1
      refine G.ret0 rfl ?_
      exact .inr ⟨i + 1, D2, by omega, hF rfl, trivial⟩
    · obtain rfl : bb = true := by simpa using h1
      refine G.skip ?_
      refine N.block ?_
      refine N.seq ?_
      refine G.region ?_
      refine L.val rfl rfl (R.mv rfl) ?_
      refine L.val rfl rfl (R.sub' rfl rfl (by omega)) ?_
      refine L.be 10 rfl (show _ = Value.int .i64 ((n : Int) - 1 - ((i + 1 : Nat) : Int)) by congr 1; omega) ?_
      refine L.val rfl rfl (R.as rfl) ?_
      refine L.nil ?_
      exact N.again (i + 1) (by omega) (Sub.cons rfl (Sub.cons rfl (Sub.cons rfl (Sub.nil _)))) ⟨by omega, ⟨D2, hT rfl, fun g hg => ⟨(hD2 g hg).1, (hD2 g hg).2.elim (fun h => (hDD g h).2) (fun h => .inr (Nat.le_trans e1.size h))⟩⟩, e1.transN eD (fun g hg => (hDD g hg).2)⟩
  · refine G.exit _ rfl ?_
    refine N.end0 rfl ?_
    obtain rfl : i = n := by omega
    exact .inl ⟨D, hJi, trivial⟩

theorem pbackS_iter (b0 : Nat) (a : Option Addr) (n c : Nat) (ps : List (Pr (Int))) (Ma : List Nat) (w : World) (hB0 : Blk w b0 #[.slice a n c] 189 (0, 0)) (ho : Own w 194 (1 + 1) a n c (pcells ps) Ma) (hn : n = ps.length) (hok : OkP 1 ps) (hnl : n ≤ 1000000) : Iter Try.prog 218 [.pointer (some ⟨b0, 0, none⟩)] w n (prE (fun k => ps.reverse[k]?)) (fun _ _ => True) (b0 :: Ma) [] := by
  intro y D₀ J Jx W hE hD hJ hJx hY h0
  exact pback1S_ok y b0 a n c ps Ma D₀ J Jx W (hB0.ext0 hE) (ho.ext0 hE) hn hok hnl hD (fun k D W₁ W₂ M' h he hm => hJ k D W₁ W₂ M' h he (fun g hg => ⟨(hm g hg).1, (hm g hg).2.imp id (Nat.le_trans hE.size)⟩)) (fun k D W₁ W₂ M' h he hm => hJx k D W₁ W₂ M' h he (fun g hg => ⟨(hm g hg).1, (hm g hg).2.imp id (Nat.le_trans hE.size)⟩)) hY h0

theorem walkS_ok (gf : FuncId) (lb : List Value) (w : World) : Meets Try.prog 177 [.func (.func gf) #[] lb.toArray] w (fun v w' => ∃ b1, v = .func (.func 216) #[] #[.pointer (some ⟨b1, 0, none⟩)] ∧ Ext [] w w' ∧ Blk w' b1 #[.func (.func gf) #[] lb.toArray] 268 (0, 0) ∧ w.heap.size ≤ b1) := by
  refine Meets.enter Try.func177 rfl 4 rfl (Nat.le_of_ble_eq_true rfl) ?_
  have E := Ext.refl [] w
  refine G.seq ?_
  refine G.region ?_
  refine L.do rfl rfl (R.box rfl) ?_
  rintro _ w1 ⟨b1, rfl, hb1, hs1, e1, B1⟩
  replace E := E.trans0 e1
  refine L.val rfl rfl (R.as rfl) ?_
  refine L.nil ?_
  refine N.seq ?_
  refine G.seq ?_
  refine G.region ?_
  refine L.val rfl rfl (R.mkFunc rfl rfl) ?_
  refine L.val rfl rfl (R.as rfl) ?_
  refine L.nil ?_
  refine N.seq ?_
  refine G.ret1 rfl rfl ?_
  exact ⟨b1, rfl, E, B1, by omega⟩

theorem walk1S_ok (y : Value) (b1 : Nat) (gf : FuncId) (lb : List Value) (Nn : Nat) (q : Nat → Option (Pr (Int))) (F : List Nat) (D₀ : List Nat) (J Jx : Nat → List Nat → World → Prop) (w : World) (hB1 : Blk w b1 #[.func (.func gf) #[] lb.toArray] 268 (0, 0)) (eg : ∀ (vs : Array Value) w, (callFunc gf vs).run Try.prog w = .ok (.enter gf vs) w) (hit : ∀ W, Ext [] w W → Iter Try.prog gf lb W Nn (prE q) (fun _ _ => True) F []) (hF : ∀ x ∈ F, x < w.heap.size) (hq : ∀ k (p : Pr (Int)), q k = some p → p.2.length = 1 ∧ ∀ u ∈ p.2, u.oneCell' = true) (hD : ∀ g ∈ D₀, g < w.heap.size ∧ g ∉ b1 :: F ∧ g ∉ ([] : List Nat)) (hJ : ∀ k D W₁ W₂ M', J k D W₁ → Ext M' W₁ W₂ → (∀ g ∈ M', g ∉ D ∧ (g ∈ ([] : List Nat) ∨ w.heap.size ≤ g)) → J k D W₂) (hJx : ∀ k D W₁ W₂ M', Jx k D W₁ → Ext M' W₁ W₂ → (∀ g ∈ M', g ∉ D ∧ (g ∈ ([] : List Nat) ∨ w.heap.size ≤ g)) → Jx k D W₂) (hY : ∀ k D vs W₁, k < Nn → J k D W₁ → (kvE gv1' q) k vs W₁ → (∀ g ∈ D, g < W₁.heap.size) → YCall Try.prog y vs W₁ fun b W₂ => ∃ D', Ext D W₁ W₂ ∧ (∀ g ∈ D', g < W₂.heap.size ∧ (g ∈ D ∨ W₁.heap.size ≤ g)) ∧ (b = true → J (k + 1) D' W₂) ∧ (b = false → Jx (k + 1) D' W₂)) (h0 : J 0 D₀ w) : Meets Try.prog 216 [y, .pointer (some ⟨b1, 0, none⟩)] w (fun _ W₂ => (∃ D, J Nn D W₂ ∧ True) ∨ ∃ k D, k ≤ Nn ∧ Jx k D W₂ ∧ True) := by
  refine Meets.enter Try.func216 rfl 15 rfl (Nat.le_of_ble_eq_true rfl) ?_
  refine G.seq ?_
  refine G.region ?_
  refine L.do rfl rfl (R.box rfl) ?_
  rintro _ w1 ⟨b2, rfl, hb2, hs2, e1, B2⟩
  have hw1 := e1.size
  refine L.nil ?_
  refine N.seq ?_
  refine G.seq ?_
  refine G.region ?_
  refine L.val rfl rfl (R.ldB rfl (hB1.ext0 e1) rfl) ?_
  refine L.nil ?_
  refine N.seq ?_
  refine G.block ?_
  have hD0 : ∀ g ∈ b2 :: D₀, g < w1.heap.size ∧ g ∉ F ∧ g ∉ ([] : List Nat) := by
    intro g hg
    rcases List.mem_cons.1 hg with rfl | hg
    · exact ⟨by omega, fun h => by have := hF _ h; omega, by simp⟩
    · exact ⟨Nat.lt_of_lt_of_le (hD g hg).1 hw1, fun h => (hD g hg).2.1 (List.mem_cons_of_mem _ h), by simp⟩
  have hI0 : wkI J b2 70 y 0 (b2 :: D₀) w1 := ⟨D₀, rfl, fun h => by have := (hD _ h).1; omega, hJ 0 D₀ w w1 [] h0 e1 (by simp), B2⟩
  refine G.range (lb := lb) rfl rfl eg (hit _ e1) (fun _ _ _ h _ => h) (b2 :: D₀) hD0 (fun x h => h.elim (fun h => Nat.lt_of_lt_of_le (hF x h) hw1) (by simp)) (wkI J b2 70 y) (wkX Jx b2) ?_ ?_ hI0 ?_ ?_ ?_
  · rintro k DD W1 W2 M2 ⟨D, rfl, hn2, hj, hb⟩ he hm
    exact ⟨D, rfl, hn2, hJ k D W1 W2 M2 hj he (fun g hg => ⟨fun h => (hm g hg).1 (List.mem_cons_of_mem _ h), (hm g hg).2.imp id (Nat.le_trans hw1)⟩), hb.ext he (fun h => (hm _ h).1 (by simp))⟩
  · rintro c k DD W1 W2 M2 ⟨hc, D, rfl, hn2, hj⟩ he hm
    exact ⟨hc, D, rfl, hn2, hJx k D W1 W2 M2 hj he (fun g hg => ⟨fun h => (hm g hg).1 (List.mem_cons_of_mem _ h), (hm g hg).2.imp id (Nat.le_trans hw1)⟩)⟩
  · rintro l k DD vs W1 hl2 hlt hlD hDl hk ⟨D, rfl, hn2, hj, B2⟩ ⟨p, v0, hp, rfl⟩
    refine ⟨rfl, ?_⟩
    refine G.sub [(7, .agg (pcell p).toArray), (2, .pointer (some ⟨b2, 0, none⟩))] (Sub.cons rfl (Sub.cons rfl (Sub.nil _))) ?_
    have hpl := hq k p hp
    have hsz : (pcell p).length = 2 := by show p.2.length + 1 = _; rw [hpl.1]
    have hsA : (pcell p).toArray.size = 2 := by rw [List.size_toArray]; exact hsz
    have h1c : ∀ u ∈ (pcell p).toArray.toList, u.oneCell' = true := pcell1 hpl.2
    have l2 := B2.lt
    refine G.region ?_
    refine L.do rfl rfl (R.alloc) ?_
    rintro _ w2 ⟨b4, rfl, hb4, hs4, e2, B4⟩
    replace B4 : Blk w2 b4 (.agg #[.int .i64 0, .string ByteArray.empty] : Value).cells 194 (0, 0) := B4
    refine L.set rfl (R.stN rfl rfl B4 hsA (by show 0 + (pcell p).toArray.size ≤ 2; omega) h1c) ?_
    rintro w3 ⟨e3, hs3, B4⟩
    rw [over_all (show (.agg #[.int .i64 0, .string ByteArray.empty] : Value).cells.size = (pcell p).toArray.size from hsA.symm)] at B4
    have hEW := e2.news2 e3 (by omega)
    refine L.nil ?_
    refine N.round (hEW) (fun wb hb1 hb2 => ?_)
    replace B4 := B4.still hb2
    replace B2 := (B2.ext0 hEW).still hb2
    have hjw := hJ k D _ wb [l] (hJ k D W1 _ [] hj hEW (by simp)) hb1 (fun g hg => by rw [List.mem_singleton.1 hg]; exact ⟨fun h => hlD (List.mem_cons_of_mem _ h), .inr (by omega)⟩)
    have hDw : ∀ g ∈ D, g < wb.heap.size := fun g hg => Nat.lt_of_lt_of_le (hDl g (List.mem_cons_of_mem _ hg)) (Nat.le_trans hEW.size hb1.size)
    have l2b := B2.lt
    obtain ⟨x, hx⟩ := List.length_eq_one_iff.1 hpl.1
    have hyc := hY k D [.int .i64 p.1, x] wb hk hjw ⟨p, hp, by rw [hx]; rfl⟩ hDw
    have hcy : y.cells = #[y] := by rcases hyc with ⟨l9, rfl, _⟩ | ⟨f9, u9, c9, rfl, _⟩ <;> rfl
    rw [hcy] at B2
    refine G.block ?_
    refine G.seq ?_
    refine G.region ?_
    refine L.val rfl rfl (R.ldB rfl B2 rfl) ?_
    refine L.val rfl rfl (R.fld rfl) ?_
    refine L.val rfl rfl (R.ldB (v := .int .i64 p.1) rfl B4 rfl) ?_
    refine L.val rfl rfl (R.fld rfl) ?_
    refine L.val rfl rfl (R.ldB (v := x) rfl B4 (by show (Key.val p.1 :: p.2).toArray[1]? = _; rw [hx]; rfl)) ?_
    refine L.ycall rfl rfl rfl rfl hyc ?_
    rintro bb w7 ⟨D2, eD, hD2, hT, hFl⟩
    have X : Ext (b2 :: D) wb w7 := eD.mono (fun g hg => .inl (List.mem_cons_of_mem _ hg))
    have hn3 : b2 ∉ D2 := fun h => (hD2 b2 h).2.elim hn2 (fun h => by omega)
    have hDD : ∀ g ∈ b2 :: D2, g < w7.heap.size ∧ (g ∈ b2 :: D ∨ wb.heap.size ≤ g) := by
      intro g hg
      rcases List.mem_cons.1 hg with rfl | hg
      · exact ⟨Nat.lt_of_lt_of_le l2b eD.size, .inl (by simp)⟩
      · exact ⟨(hD2 g hg).1, (hD2 g hg).2.imp (fun h => List.mem_cons_of_mem _ h) id⟩
    refine L.val rfl rfl (R.not rfl) ?_
    refine L.nil ?_
    refine N.seq ?_
    refine G.condB rfl (fun h0 => ?_) (fun h0 => ?_)
    · obtain rfl : bb = false := by simpa using h0
      refine G.ret fun _ _ => ?_
      exact ⟨b2 :: D2, X, hDD, rfl, D2, rfl, hn3, hFl rfl⟩
    · obtain rfl : bb = true := by simpa using h0
      refine G.skip ?_
      refine N.block ?_
      refine N.done fun _ _ => ?_
      exact ⟨b2 :: D2, X, hDD, D2, rfl, hn3, hT rfl, by rw [hcy]; exact B2.ext eD hn2⟩
  · rintro d DD W2 hd hdD hK ⟨D, rfl, hn2, hj, B2⟩ _
    refine N.block ?_
    refine N.end0M rfl (leave1 hK) ?_
    exact .inl ⟨D, hJ Nn D W2 _ [d] hj (Ext.putObj _ _ _) (fun g hg => by rw [List.mem_singleton.1 hg]; exact ⟨fun h => hdD (List.mem_cons_of_mem _ h), .inr (by omega)⟩), trivial⟩
  · rintro d DD k c W2 hd hdD hK hk ⟨rfl, D, rfl, hn2, hj⟩ _
    refine G.ret0M rfl (leave1 hK) ?_
    exact .inr ⟨k, D, hk, hJx k D W2 _ [d] hj (Ext.putObj _ _ _) (fun g hg => by rw [List.mem_singleton.1 hg]; exact ⟨fun h => hdD (List.mem_cons_of_mem _ h), .inr (by omega)⟩), trivial⟩

theorem walkS_iter (b1 : Nat) (gf : FuncId) (lb : List Value) (Nn : Nat) (q : Nat → Option (Pr (Int))) (F : List Nat) (w : World) (hB1 : Blk w b1 #[.func (.func gf) #[] lb.toArray] 268 (0, 0)) (eg : ∀ (vs : Array Value) w, (callFunc gf vs).run Try.prog w = .ok (.enter gf vs) w) (hit : ∀ W, Ext [] w W → Iter Try.prog gf lb W Nn (prE q) (fun _ _ => True) F []) (hF : ∀ x ∈ F, x < w.heap.size) (hq : ∀ k (p : Pr (Int)), q k = some p → p.2.length = 1 ∧ ∀ u ∈ p.2, u.oneCell' = true) : Iter Try.prog 216 [.pointer (some ⟨b1, 0, none⟩)] w Nn (kvE gv1' q) (fun _ _ => True) (b1 :: F) [] := by
  intro y D₀ J Jx W hE hD hJ hJx hY h0
  exact walk1S_ok y b1 gf lb Nn q F D₀ J Jx W (hB1.ext0 hE) eg (fun W' h => hit W' (hE.trans0 h)) (fun x hx => Nat.lt_of_lt_of_le (hF x hx) hE.size) hq hD (fun k D W₁ W₂ M' h he hm => hJ k D W₁ W₂ M' h he (fun g hg => ⟨(hm g hg).1, (hm g hg).2.imp id (Nat.le_trans hE.size)⟩)) (fun k D W₁ W₂ M' h he hm => hJx k D W₁ W₂ M' h he (fun g hg => ⟨(hm g hg).1, (hm g hg).2.imp id (Nat.le_trans hE.size)⟩)) hY h0

end Go.Proofs.Ythpolibakkmmeaa
/-
  The walks of package order.
-/
set_option linter.unusedVariables false
set_option linter.unusedSimpArgs false
set_option maxRecDepth 4000
namespace Go.Proofs.Ythpolibakkmmeaa
open Go Brv
theorem oallS_ok (m : Nat) (ps : List (Pr (Int))) (S : List Nat) (w : World) (hd : MapAt (κ := Int) 191 194 1 w m ps S) (hl : ps.length ≤ 99999) : Meets Try.prog 115 [.pointer (some ⟨m, 0, none⟩)] w (fun v w' => ∃ lb F, v = .func (.func 216) #[] (lb : List Value).toArray ∧ Ext [] w w' ∧ (∀ W, Ext [] w' W → Iter Try.prog 216 lb W ps.length (kvE gv1' (fun k => ps[k]?)) (fun _ _ => True) F []) ∧ ∀ x ∈ F, w.heap.size ≤ x ∧ x < w'.heap.size) := by
  refine Meets.enter Try.func115 rfl 15 rfl (Nat.le_of_ble_eq_true rfl) ?_
  have E := Ext.refl [] w
  have hd0 := hd
  obtain ⟨a, c, M, rfl, hm0, Bm, om, hok, hs⟩ := hd
  refine G.seq ?_
  refine G.region ?_
  refine L.val rfl rfl (R.as rfl) ?_
  refine L.nil ?_
  refine N.seq ?_
  refine G.seq ?_
  refine G.seq ?_
  refine G.region ?_
  refine L.val rfl rfl (R.mv rfl) ?_
  refine L.val rfl rfl (R.eqNilP rfl rfl) ?_
  refine L.nil ?_
  refine N.seq ?_
  refine G.condF rfl ?_
  refine G.skip ?_
  refine N.seq ?_
  refine G.seq ?_
  refine G.region ?_
  refine L.val rfl rfl (R.mv rfl) ?_
  refine L.val rfl rfl (R.nilChk rfl) ?_
  refine L.val rfl rfl (R.fld rfl) ?_
  refine L.val rfl rfl (R.ldB rfl Bm rfl) ?_
  refine L.callF rfl rfl rfl go121 (scS_ok _ _ _ _ _ om.cells (by rw [om.1]) (pcell_one hok) (by omega)) ?_
  rintro _ w1 ⟨a1, c1, M1, rfl, e1, o1, hM1⟩
  have hE0 := E.size
  replace E := E.trans0 e1
  have hl1 := o1.lt
  have hE1 := E.size
  refine L.callF rfl rfl rfl go178 (pallS_ok a1 ps.length c1 _) ?_
  rintro _ w2 ⟨b0, rfl, e2, B0, hb0⟩
  have hE2 := E.size
  replace E := E.trans0 e2
  replace o1 := o1.ext0 e2
  have l0 := B0.lt
  have hE3 := E.size
  refine L.callF rfl rfl rfl go177 (walkS_ok 217 [.pointer (some ⟨b0, 0, none⟩)] _) ?_
  rintro _ w3 ⟨b1, rfl, e3, B1, hb1⟩
  replace E := E.trans0 e3
  replace o1 := o1.ext0 e3
  replace B0 := B0.ext0 e3
  have l1 := B1.lt
  have hs3 := e3.size
  have hs2 := e2.size
  have hFl : ∀ y ∈ b1 :: b0 :: M1, w.heap.size ≤ y ∧ y < w3.heap.size := by
    intro y hy
    simp only [List.mem_cons] at hy
    rcases hy with rfl | rfl | hy
    · exact ⟨by omega, l1⟩
    · exact ⟨by omega, by omega⟩
    · have := hl1 y hy; have := hM1 y hy; exact ⟨by omega, by omega⟩
  refine L.val rfl rfl (R.as rfl) ?_
  refine L.nil ?_
  refine N.seq ?_
  refine G.ret1 rfl rfl ?_
  exact ⟨[.pointer (some ⟨b1, 0, none⟩)], b1 :: b0 :: M1, rfl, E, fun W hW => walkS_iter b1 217 [.pointer (some ⟨b0, 0, none⟩)] ps.length (fun k => ps[k]?) (b0 :: M1) W (B1.ext0 hW) go217 (fun W' h => pallS_iter b0 a1 ps.length c1 ps M1 W' (B0.ext0 (hW.trans0 h)) (o1.ext0 (hW.trans0 h)) (by simp) hok (by omega)) (fun y hy => Nat.lt_of_lt_of_le (hFl y (List.mem_cons_of_mem _ hy)).2 hW.size) (fun k p hp => hok p (List.mem_of_getElem? hp)), hFl⟩

theorem oallS_nil (ps : List (Pr (Int))) (w : World) (hps : ps = []) : Meets Try.prog 115 [.pointer none] w (fun v w' => ∃ lb F, v = .func (.func 216) #[] (lb : List Value).toArray ∧ Ext [] w w' ∧ (∀ W, Ext [] w' W → Iter Try.prog 216 lb W ps.length (kvE gv1' (fun k => ps[k]?)) (fun _ _ => True) F []) ∧ ∀ x ∈ F, w.heap.size ≤ x ∧ x < w'.heap.size) := by
  refine Meets.enter Try.func115 rfl 15 rfl (Nat.le_of_ble_eq_true rfl) ?_
  have E := Ext.refl [] w
  subst hps
  refine G.seq ?_
  refine G.region ?_
  refine L.val rfl rfl (R.as rfl) ?_
  refine L.nil ?_
  refine N.seq ?_
  refine G.seq ?_
  refine G.seq ?_
  refine G.region ?_
  refine L.val rfl rfl (R.mv rfl) ?_
  refine L.val rfl rfl (R.eqNilP rfl rfl) ?_
  refine L.nil ?_
  refine N.seq ?_
  refine G.condT rfl ?_
  refine G.seq ?_
  refine G.region ?_
  refine L.do rfl rfl (R.buildS rfl (by decide) rfl) ?_
  rintro _ w1 ⟨b5, rfl, hb5, hs5, e1, B5⟩
  have hE0 := E.size
  replace E := E.trans0 e1
  have o1 : Own w1 194 (1 + 1) (some ⟨b5, 0, none⟩) 0 0 [] [b5] := by have := Own.blk (n := 0) (size := 1 + 1) B5 (by simp) (by simp [maxLen]); simpa using this
  have hE1 := E.size
  refine L.callF rfl rfl rfl go178 (pallS_ok (some ⟨b5, 0, none⟩) 0 0 _) ?_
  rintro _ w2 ⟨b0, rfl, e2, B0, hb0⟩
  replace E := E.trans0 e2
  replace o1 := o1.ext0 e2
  have l0 := B0.lt
  have hE2 := E.size
  have hs2 := e2.size
  refine L.callF rfl rfl rfl go177 (walkS_ok 217 [.pointer (some ⟨b0, 0, none⟩)] _) ?_
  rintro _ w3 ⟨b1, rfl, e3, B1, hb1⟩
  replace E := E.trans0 e3
  replace o1 := o1.ext0 e3
  replace B0 := B0.ext0 e3
  have l1 := B1.lt
  have hs3 := e3.size
  have hFl : ∀ y ∈ [b1, b0, b5], w.heap.size ≤ y ∧ y < w3.heap.size := by
    intro y hy
    simp only [List.mem_cons, List.not_mem_nil, or_false] at hy
    omega
  refine L.val rfl rfl (R.as rfl) ?_
  refine L.nil ?_
  refine N.seq ?_
  refine G.ret1 rfl rfl ?_
  exact ⟨[.pointer (some ⟨b1, 0, none⟩)], [b1, b0, b5], rfl, E, fun W hW => walkS_iter b1 217 [.pointer (some ⟨b0, 0, none⟩)] 0 (fun k => ([] : List (Pr (Int)))[k]?) [b0, b5] W (B1.ext0 hW) go217 (fun W' h => pallS_iter b0 (some ⟨b5, 0, none⟩) 0 0 ([] : List (Pr (Int))) [b5] W' (B0.ext0 (hW.trans0 h)) (o1.ext0 (hW.trans0 h)) rfl (by intro p hp; cases hp) (by omega)) (fun y hy => Nat.lt_of_lt_of_le (hFl y (List.mem_cons_of_mem _ hy)).2 hW.size) (fun k p hp => by simp at hp), hFl⟩

theorem ofromS_ok (m : Nat) (ps : List (Pr (Int))) (S : List Nat) (k : Int) (w : World) (hd : MapAt (κ := Int) 191 194 1 w m ps S) (hl : ps.length ≤ 99999) : Meets Try.prog 119 [.pointer (some ⟨m, 0, none⟩), .int .i64 k] w (fun v w' => ∃ lb F, v = .func (.func 216) #[] (lb : List Value).toArray ∧ Ext [] w w' ∧ (∀ W, Ext [] w' W → Iter Try.prog 216 lb W (ps.drop (low ps k)).length (kvE gv1' (fun j => (ps.drop (low ps k))[j]?)) (fun _ _ => True) F []) ∧ ∀ x ∈ F, w.heap.size ≤ x ∧ x < w'.heap.size) := by
  refine Meets.enter Try.func119 rfl 26 rfl (Nat.le_of_ble_eq_true rfl) ?_
  have E := Ext.refl [] w
  have hd0 := hd
  obtain ⟨a, c, M, rfl, hm0, Bm, om, hok, hs⟩ := hd
  refine G.seq ?_
  refine G.region ?_
  refine L.val rfl rfl (R.as rfl) ?_
  refine L.nil ?_
  refine N.seq ?_
  refine G.seq ?_
  refine G.seq ?_
  refine G.region ?_
  refine L.val rfl rfl (R.mv rfl) ?_
  refine L.val rfl rfl (R.eqNilP rfl rfl) ?_
  refine L.nil ?_
  refine N.seq ?_
  refine G.condF rfl ?_
  refine G.skip ?_
  refine N.seq ?_
  refine G.seq ?_
  refine G.region ?_
  refine L.val rfl rfl (R.mv rfl) ?_
  refine L.val rfl rfl (R.mv rfl) ?_
  refine L.callF rfl rfl rfl go111 (findS_ok m ps (m :: M) k _ hd0 (by omega)) ?_
  rintro _ w1 ⟨rfl, e1⟩
  replace E := E.trans0 e1
  replace Bm := Bm.ext0 e1
  replace om := om.ext0 e1
  refine L.val rfl rfl (R.mv rfl) ?_
  refine L.val rfl rfl (R.ext rfl rfl) ?_
  refine L.val rfl rfl (R.ext rfl rfl) ?_
  refine L.val rfl rfl (R.as rfl) ?_
  refine L.val rfl rfl (R.as rfl) ?_
  refine L.nil ?_
  refine N.seq ?_
  refine G.seq ?_
  refine G.region ?_
  have hlo := low_le ps k
  have hle := om.le
  have hCd : Cells w1 (subA a (low ps k) c 2) (pcells (ps.drop (low ps k))) := by
    by_cases h9 : low ps k < ps.length
    · have h8 := (om.cells).sub (low ps k) c 2 ((ps.length - low ps k) * 2) (by rw [om.1, show 1 + 1 = 2 from rfl, ← Nat.add_mul]; exact Nat.mul_le_mul_right _ (by omega)) (by omega)
      rw [show (pcells ps).drop (low ps k * 2) = _ from (pcells_take (sv := 1) hok.len (low ps k) hlo).2, List.take_of_length_le (by rw [pcells_len (sv := 1) (fun q hq => (hok q (List.mem_of_mem_drop hq)).1), List.length_drop]; exact Nat.le_refl _)] at h8
      exact h8
    · rw [List.drop_of_length_le (by omega)]
      intro j v hj
      cases hj
  refine L.val rfl rfl (R.mv rfl) ?_
  refine L.val rfl rfl (R.nilChk rfl) ?_
  refine L.val rfl rfl (R.fld rfl) ?_
  refine L.val rfl rfl (R.ldB rfl Bm rfl) ?_
  refine L.val rfl rfl (R.mv rfl) ?_
  refine L.val rfl rfl (R.slL rfl rfl (by omega) (by omega)) ?_
  refine L.be 22 rfl (show _ = Value.slice (subA a (low ps k) c 2) (ps.drop (low ps k)).length (c - low ps k) by rw [Int.toNat_natCast, List.length_drop]) ?_
  refine L.callF rfl rfl rfl go121 (scS_ok _ _ _ _ _ hCd (by rw [pcells_len (sv := 1) (fun q hq => (hok q (List.mem_of_mem_drop hq)).1)]) (pcell_one (sv := 1) (fun q hq => hok q (List.mem_of_mem_drop hq))) (by rw [List.length_drop]; omega)) ?_
  rintro _ w2 ⟨a1, c1, M1, rfl, e2, o1, hM1⟩
  have hE0 := E.size
  replace E := E.trans0 e2
  have hl1 := o1.lt
  have hE1 := E.size
  refine L.callF rfl rfl rfl go178 (pallS_ok a1 (ps.drop (low ps k)).length c1 _) ?_
  rintro _ w3 ⟨b0, rfl, e3, B0, hb0⟩
  have hE2 := E.size
  replace E := E.trans0 e3
  replace o1 := o1.ext0 e3
  have l0 := B0.lt
  have hE3 := E.size
  refine L.callF rfl rfl rfl go177 (walkS_ok 217 [.pointer (some ⟨b0, 0, none⟩)] _) ?_
  rintro _ w4 ⟨b1, rfl, e4, B1, hb1⟩
  replace E := E.trans0 e4
  replace o1 := o1.ext0 e4
  replace B0 := B0.ext0 e4
  have l1 := B1.lt
  have hs3 := e4.size
  have hs2 := e3.size
  have hFl : ∀ y ∈ b1 :: b0 :: M1, w.heap.size ≤ y ∧ y < w4.heap.size := by
    intro y hy
    simp only [List.mem_cons] at hy
    rcases hy with rfl | rfl | hy
    · exact ⟨by omega, l1⟩
    · exact ⟨by omega, by omega⟩
    · have := hl1 y hy; have := hM1 y hy; exact ⟨by omega, by omega⟩
  refine L.val rfl rfl (R.as rfl) ?_
  refine L.nil ?_
  refine N.seq ?_
  refine G.ret1 rfl rfl ?_
  exact ⟨[.pointer (some ⟨b1, 0, none⟩)], b1 :: b0 :: M1, rfl, E, fun W hW => walkS_iter b1 217 [.pointer (some ⟨b0, 0, none⟩)] (ps.drop (low ps k)).length (fun j => (ps.drop (low ps k))[j]?) (b0 :: M1) W (B1.ext0 hW) go217 (fun W' h => pallS_iter b0 a1 (ps.drop (low ps k)).length c1 (ps.drop (low ps k)) M1 W' (B0.ext0 (hW.trans0 h)) (o1.ext0 (hW.trans0 h)) (by simp) (fun p hp => hok p (List.mem_of_mem_drop hp)) (by rw [List.length_drop]; omega)) (fun y hy => Nat.lt_of_lt_of_le (hFl y (List.mem_cons_of_mem _ hy)).2 hW.size) (fun k p hp => hok p (List.mem_of_mem_drop (List.mem_of_getElem? hp))), hFl⟩

theorem odownS_ok (m : Nat) (ps : List (Pr (Int))) (S : List Nat) (w : World) (hd : MapAt (κ := Int) 191 194 1 w m ps S) (hl : ps.length ≤ 99999) : Meets Try.prog 117 [.pointer (some ⟨m, 0, none⟩)] w (fun v w' => ∃ lb F, v = .func (.func 216) #[] (lb : List Value).toArray ∧ Ext [] w w' ∧ (∀ W, Ext [] w' W → Iter Try.prog 216 lb W ps.length (kvE gv1' (fun k => ps.reverse[k]?)) (fun _ _ => True) F []) ∧ ∀ x ∈ F, w.heap.size ≤ x ∧ x < w'.heap.size) := by
  refine Meets.enter Try.func117 rfl 14 rfl (Nat.le_of_ble_eq_true rfl) ?_
  have E := Ext.refl [] w
  have hd0 := hd
  obtain ⟨a, c, M, rfl, hm0, Bm, om, hok, hs⟩ := hd
  refine G.seq ?_
  refine G.region ?_
  refine L.val rfl rfl (R.as rfl) ?_
  refine L.nil ?_
  refine N.seq ?_
  refine G.seq ?_
  refine G.seq ?_
  refine G.region ?_
  refine L.val rfl rfl (R.mv rfl) ?_
  refine L.val rfl rfl (R.eqNilP rfl rfl) ?_
  refine L.nil ?_
  refine N.seq ?_
  refine G.condF rfl ?_
  refine G.skip ?_
  refine N.seq ?_
  refine G.seq ?_
  refine G.region ?_
  refine L.val rfl rfl (R.mv rfl) ?_
  refine L.val rfl rfl (R.nilChk rfl) ?_
  refine L.val rfl rfl (R.fld rfl) ?_
  refine L.val rfl rfl (R.ldB rfl Bm rfl) ?_
  refine L.callF rfl rfl rfl go121 (scS_ok _ _ _ _ _ om.cells (by rw [om.1]) (pcell_one hok) (by omega)) ?_
  rintro _ w1 ⟨a1, c1, M1, rfl, e1, o1, hM1⟩
  have hE0 := E.size
  replace E := E.trans0 e1
  have hl1 := o1.lt
  have hE1 := E.size
  refine L.callF rfl rfl rfl go179 (pbackS_ok a1 ps.length c1 _) ?_
  rintro _ w2 ⟨b0, rfl, e2, B0, hb0⟩
  have hE2 := E.size
  replace E := E.trans0 e2
  replace o1 := o1.ext0 e2
  have l0 := B0.lt
  have hE3 := E.size
  refine L.callF rfl rfl rfl go177 (walkS_ok 218 [.pointer (some ⟨b0, 0, none⟩)] _) ?_
  rintro _ w3 ⟨b1, rfl, e3, B1, hb1⟩
  replace E := E.trans0 e3
  replace o1 := o1.ext0 e3
  replace B0 := B0.ext0 e3
  have l1 := B1.lt
  have hs3 := e3.size
  have hs2 := e2.size
  have hFl : ∀ y ∈ b1 :: b0 :: M1, w.heap.size ≤ y ∧ y < w3.heap.size := by
    intro y hy
    simp only [List.mem_cons] at hy
    rcases hy with rfl | rfl | hy
    · exact ⟨by omega, l1⟩
    · exact ⟨by omega, by omega⟩
    · have := hl1 y hy; have := hM1 y hy; exact ⟨by omega, by omega⟩
  refine L.val rfl rfl (R.as rfl) ?_
  refine L.nil ?_
  refine N.seq ?_
  refine G.ret1 rfl rfl ?_
  exact ⟨[.pointer (some ⟨b1, 0, none⟩)], b1 :: b0 :: M1, rfl, E, fun W hW => walkS_iter b1 218 [.pointer (some ⟨b0, 0, none⟩)] ps.length (fun k => ps.reverse[k]?) (b0 :: M1) W (B1.ext0 hW) go218 (fun W' h => pbackS_iter b0 a1 ps.length c1 ps M1 W' (B0.ext0 (hW.trans0 h)) (o1.ext0 (hW.trans0 h)) (by simp) hok (by omega)) (fun y hy => Nat.lt_of_lt_of_le (hFl y (List.mem_cons_of_mem _ hy)).2 hW.size) (fun k p hp => hok p (List.mem_reverse.1 (List.mem_of_getElem? hp))), hFl⟩

theorem okeysS_ok (m : Nat) (ps : List (Pr (Int))) (S : List Nat) (w : World) (hd : MapAt (κ := Int) 191 194 1 w m ps S) (hl : ps.length ≤ 99999) : Meets Try.prog 54 [.pointer (some ⟨m, 0, none⟩)] w (Cloned w 3 1 ps.length (ps.map fun p => Key.val p.1)) := by
  refine Meets.enter Try.func54 rfl 14 rfl (Nat.le_of_ble_eq_true rfl) ?_
  have E := Ext.refl [] w
  refine G.seq ?_
  refine G.region ?_
  refine L.val rfl rfl (R.as rfl) ?_
  refine L.nil ?_
  refine N.seq ?_
  refine G.seq ?_
  refine G.region ?_
  refine L.do rfl rfl (R.alloc) ?_
  rintro _ w1 ⟨b3, rfl, hb3, hs3, e1, B3⟩
  replace B3 : Blk w1 b3 #[.slice none 0 0] 36 (0, 0) := B3
  replace E := E.trans0 e1
  refine L.nil ?_
  refine N.seq ?_
  refine G.seq ?_
  refine G.seq ?_
  refine G.region ?_
  refine L.val rfl rfl (R.mv rfl) ?_
  refine L.callF rfl rfl rfl go115 (oallS_ok m ps S _ (hd.ext0 E) hl) ?_
  rintro _ w2 ⟨lb, Fp, rfl, e2, hit, hFp⟩
  have hE1 := E.size
  replace E := E.trans0 e2
  have l3 := B3.lt
  replace B3 := B3.ext0 e2
  have hE2 := E.size
  have hFn : b3 ∉ Fp := fun h => by have := hFp _ h; omega
  refine L.nil ?_
  refine N.seq ?_
  refine G.block ?_
  have hD0 : ∀ y ∈ [b3], y < w2.heap.size ∧ y ∉ Fp ∧ y ∉ ([] : List Nat) := by
    intro y hy
    rw [List.mem_singleton] at hy
    subst hy
    exact ⟨B3.lt, hFn, by simp⟩
  have hI0 : keysI ps 36 3 b3 w 0 [b3] w2 := ⟨none, 0, [], rfl, B3, Own.nil _ _ _, by simp, by omega, E⟩
  refine G.range (lb := lb) rfl rfl go216 (hit _ (Ext.refl _ _)) (fun _ _ _ h _ => h) [b3] hD0 (fun y h => h.elim (fun h => (hFp y h).2) (by simp)) (keysI ps 36 3 b3 w) (fun _ _ _ _ => False) (fun k D W1 W2 M2 h he hm => keysI_keep hE2 h he hm) (fun _ _ _ _ _ _ h _ _ => h) hI0 ?_ ?_ ?_
  · rintro l k D vs W1 hl2 hlt hlD hDl hk hIk ⟨p, hp, rfl⟩
    refine ⟨rfl, ?_⟩
    refine G.sub [(7, .int .i64 p.1), (3, .pointer (some ⟨b3, 0, none⟩))] (Sub.cons rfl (Sub.cons rfl (Sub.nil _))) ?_
    refine G.region ?_
    refine L.val rfl rfl (R.as rfl) ?_
    refine L.nil ?_
    refine N.round (Ext.refl _ _) (fun wb hb1 hb2 => ?_)
    obtain ⟨a1, c1, MB, rfl, B3, o, hMB, h3, E⟩ := hIk
    replace B3 := B3.still hb2
    replace o := o.still hb2
    replace E := E.transN hb1 (fun g hg => .inr (by rw [List.mem_singleton.1 hg]; omega))
    have hEb := E.size
    have l3 := B3.lt
    have hlo := o.lt
    have hn3 : b3 ∉ MB := fun h => (hMB _ h).2 rfl
    refine G.block ?_
    refine G.region ?_
    refine L.val rfl rfl (R.ldB rfl B3 rfl) ?_
    refine L.val rfl rfl (R.mv rfl) ?_
    refine L.do rfl rfl (R.buildA rfl rfl rfl rfl rfl) ?_
    rintro _ w6 ⟨b11, rfl, hb11, hs6, e6, B11⟩
    replace B11 : Blk w6 b11 #[.int .i64 p.1] 3 (0, 0) := B11
    have X6 : Ext (b3 :: MB) wb w6 := e6.mono (by simp)
    replace E := E.trans0 e6
    replace B3 := B3.ext0 e6
    replace o := o.ext0 e6
    have hs6e := e6.size
    refine L.do rfl rfl (R.app rfl rfl o (Cells.of_blk B11 0 [.int .i64 p.1] (fun j v hj => by simpa using hj)) rfl (by intro u hu; rw [List.mem_singleton.1 hu]; rfl) (by simp [maxLen]; omega) (by omega)) ?_
    rintro _ w7 ⟨a3, c3, M3, rfl, e7, hM3, o3⟩
    replace B3 := B3.ext e7 hn3
    replace E : Ext [] w w7 := E.trans e7 (by simp) (fun g hg => .inr (hMB g hg).1)
    have hs7 := e7.size
    replace o3 : Own w7 3 1 a3 (k + 1) c3 ((ps.take (k + 1)).map fun p => Key.val p.1) M3 := by rw [← keys_succ hp]; exact o3
    have hM4 : ∀ g ∈ M3, w.heap.size ≤ g ∧ g ≠ b3 := fun g hg => (hM3 g hg).elim (hMB g) (fun h => ⟨by omega, by omega⟩)
    refine L.set rfl (R.st rfl rfl B3 (by show 0 < 1; decide) rfl) ?_
    rintro w8 ⟨e8, hs8, B3⟩
    replace B3 : Blk w8 b3 #[.slice a3 (k + 1) c3] 36 (0, 0) := B3
    replace o3 := o3.ext e8 (by intro g hg h; exact (hM4 g hg).2 (List.mem_singleton.1 h))
    replace E : Ext [] w w8 := E.trans e8 (by simp) (fun g hg => .inr (by rw [List.mem_singleton.1 hg]; exact h3))
    have hlo3 := o3.lt
    have X : Ext (b3 :: MB) wb w8 := (X6.transN e7 (fun g hg => .inl (List.mem_cons_of_mem _ hg))).transN e8 (fun g hg => .inl (by rw [List.mem_singleton.1 hg]; simp))
    have hD2 : ∀ g ∈ b3 :: M3, g < w8.heap.size ∧ (g ∈ b3 :: MB ∨ wb.heap.size ≤ g) := by
      intro g hg
      rcases List.mem_cons.1 hg with rfl | hg
      · exact ⟨B3.lt, .inl (by simp)⟩
      · exact ⟨hlo3 g hg, (hM3 g hg).imp (fun h => List.mem_cons_of_mem _ h) (fun h => by omega)⟩
    refine L.nil ?_
    refine N.block ?_
    refine N.done fun _ _ => ?_
    exact ⟨b3 :: M3, X, hD2, a3, c3, M3, rfl, B3, o3, hM4, h3, E⟩
  · rintro d2 D W2 hd2 hdD hK ⟨a1, c1, MB, rfl, B3, o, hMB, h3, E⟩ _
    have hst := Still.putObj (.deferred none) hK rfl
    rw [List.take_length] at o
    refine N.block ?_
    refine N.seq ?_
    refine G.seq ?_
    refine G.region ?_
    refine L.val rfl rfl (R.ldB rfl B3 rfl) ?_
    refine L.val rfl rfl (R.as rfl) ?_
    refine L.nil ?_
    refine N.seq ?_
    refine G.ret1M rfl rfl (leave1 hK) ?_
    exact ⟨a1, c1, MB, rfl, E.transN (Ext.putObj _ _ _) (fun g hg => .inr (by rw [List.mem_singleton.1 hg]; omega)), o.still hst, fun g hg => (hMB g hg).1⟩
  · rintro _ _ _ _ _ _ _ _ _ h _
    exact h.elim

theorem okeysS_nil (ps : List (Pr (Int))) (w : World) (hps : ps = []) : Meets Try.prog 54 [.pointer none] w (Cloned w 3 1 ps.length (ps.map fun p => Key.val p.1)) := by
  refine Meets.enter Try.func54 rfl 14 rfl (Nat.le_of_ble_eq_true rfl) ?_
  have E := Ext.refl [] w
  have hl : ps.length ≤ 99999 := by rw [hps]; decide
  refine G.seq ?_
  refine G.region ?_
  refine L.val rfl rfl (R.as rfl) ?_
  refine L.nil ?_
  refine N.seq ?_
  refine G.seq ?_
  refine G.region ?_
  refine L.do rfl rfl (R.alloc) ?_
  rintro _ w1 ⟨b3, rfl, hb3, hs3, e1, B3⟩
  replace B3 : Blk w1 b3 #[.slice none 0 0] 36 (0, 0) := B3
  replace E := E.trans0 e1
  refine L.nil ?_
  refine N.seq ?_
  refine G.seq ?_
  refine G.seq ?_
  refine G.region ?_
  refine L.val rfl rfl (R.mv rfl) ?_
  refine L.callF rfl rfl rfl go115 (oallS_nil ps _ hps) ?_
  rintro _ w2 ⟨lb, Fp, rfl, e2, hit, hFp⟩
  have hE1 := E.size
  replace E := E.trans0 e2
  have l3 := B3.lt
  replace B3 := B3.ext0 e2
  have hE2 := E.size
  have hFn : b3 ∉ Fp := fun h => by have := hFp _ h; omega
  refine L.nil ?_
  refine N.seq ?_
  refine G.block ?_
  have hD0 : ∀ y ∈ [b3], y < w2.heap.size ∧ y ∉ Fp ∧ y ∉ ([] : List Nat) := by
    intro y hy
    rw [List.mem_singleton] at hy
    subst hy
    exact ⟨B3.lt, hFn, by simp⟩
  have hI0 : keysI ps 36 3 b3 w 0 [b3] w2 := ⟨none, 0, [], rfl, B3, Own.nil _ _ _, by simp, by omega, E⟩
  refine G.range (lb := lb) rfl rfl go216 (hit _ (Ext.refl _ _)) (fun _ _ _ h _ => h) [b3] hD0 (fun y h => h.elim (fun h => (hFp y h).2) (by simp)) (keysI ps 36 3 b3 w) (fun _ _ _ _ => False) (fun k D W1 W2 M2 h he hm => keysI_keep hE2 h he hm) (fun _ _ _ _ _ _ h _ _ => h) hI0 ?_ ?_ ?_
  · rintro l k D vs W1 hl2 hlt hlD hDl hk hIk ⟨p, hp, rfl⟩
    refine ⟨rfl, ?_⟩
    refine G.sub [(7, .int .i64 p.1), (3, .pointer (some ⟨b3, 0, none⟩))] (Sub.cons rfl (Sub.cons rfl (Sub.nil _))) ?_
    refine G.region ?_
    refine L.val rfl rfl (R.as rfl) ?_
    refine L.nil ?_
    refine N.round (Ext.refl _ _) (fun wb hb1 hb2 => ?_)
    obtain ⟨a1, c1, MB, rfl, B3, o, hMB, h3, E⟩ := hIk
    replace B3 := B3.still hb2
    replace o := o.still hb2
    replace E := E.transN hb1 (fun g hg => .inr (by rw [List.mem_singleton.1 hg]; omega))
    have hEb := E.size
    have l3 := B3.lt
    have hlo := o.lt
    have hn3 : b3 ∉ MB := fun h => (hMB _ h).2 rfl
    refine G.block ?_
    refine G.region ?_
    refine L.val rfl rfl (R.ldB rfl B3 rfl) ?_
    refine L.val rfl rfl (R.mv rfl) ?_
    refine L.do rfl rfl (R.buildA rfl rfl rfl rfl rfl) ?_
    rintro _ w6 ⟨b11, rfl, hb11, hs6, e6, B11⟩
    replace B11 : Blk w6 b11 #[.int .i64 p.1] 3 (0, 0) := B11
    have X6 : Ext (b3 :: MB) wb w6 := e6.mono (by simp)
    replace E := E.trans0 e6
    replace B3 := B3.ext0 e6
    replace o := o.ext0 e6
    have hs6e := e6.size
    refine L.do rfl rfl (R.app rfl rfl o (Cells.of_blk B11 0 [.int .i64 p.1] (fun j v hj => by simpa using hj)) rfl (by intro u hu; rw [List.mem_singleton.1 hu]; rfl) (by simp [maxLen]; omega) (by omega)) ?_
    rintro _ w7 ⟨a3, c3, M3, rfl, e7, hM3, o3⟩
    replace B3 := B3.ext e7 hn3
    replace E : Ext [] w w7 := E.trans e7 (by simp) (fun g hg => .inr (hMB g hg).1)
    have hs7 := e7.size
    replace o3 : Own w7 3 1 a3 (k + 1) c3 ((ps.take (k + 1)).map fun p => Key.val p.1) M3 := by rw [← keys_succ hp]; exact o3
    have hM4 : ∀ g ∈ M3, w.heap.size ≤ g ∧ g ≠ b3 := fun g hg => (hM3 g hg).elim (hMB g) (fun h => ⟨by omega, by omega⟩)
    refine L.set rfl (R.st rfl rfl B3 (by show 0 < 1; decide) rfl) ?_
    rintro w8 ⟨e8, hs8, B3⟩
    replace B3 : Blk w8 b3 #[.slice a3 (k + 1) c3] 36 (0, 0) := B3
    replace o3 := o3.ext e8 (by intro g hg h; exact (hM4 g hg).2 (List.mem_singleton.1 h))
    replace E : Ext [] w w8 := E.trans e8 (by simp) (fun g hg => .inr (by rw [List.mem_singleton.1 hg]; exact h3))
    have hlo3 := o3.lt
    have X : Ext (b3 :: MB) wb w8 := (X6.transN e7 (fun g hg => .inl (List.mem_cons_of_mem _ hg))).transN e8 (fun g hg => .inl (by rw [List.mem_singleton.1 hg]; simp))
    have hD2 : ∀ g ∈ b3 :: M3, g < w8.heap.size ∧ (g ∈ b3 :: MB ∨ wb.heap.size ≤ g) := by
      intro g hg
      rcases List.mem_cons.1 hg with rfl | hg
      · exact ⟨B3.lt, .inl (by simp)⟩
      · exact ⟨hlo3 g hg, (hM3 g hg).imp (fun h => List.mem_cons_of_mem _ h) (fun h => by omega)⟩
    refine L.nil ?_
    refine N.block ?_
    refine N.done fun _ _ => ?_
    exact ⟨b3 :: M3, X, hD2, a3, c3, M3, rfl, B3, o3, hM4, h3, E⟩
  · rintro d2 D W2 hd2 hdD hK ⟨a1, c1, MB, rfl, B3, o, hMB, h3, E⟩ _
    have hst := Still.putObj (.deferred none) hK rfl
    rw [List.take_length] at o
    refine N.block ?_
    refine N.seq ?_
    refine G.seq ?_
    refine G.region ?_
    refine L.val rfl rfl (R.ldB rfl B3 rfl) ?_
    refine L.val rfl rfl (R.as rfl) ?_
    refine L.nil ?_
    refine N.seq ?_
    refine G.ret1M rfl rfl (leave1 hK) ?_
    exact ⟨a1, c1, MB, rfl, E.transN (Ext.putObj _ _ _) (fun g hg => .inr (by rw [List.mem_singleton.1 hg]; omega)), o.still hst, fun g hg => (hMB g hg).1⟩
  · rintro _ _ _ _ _ _ _ _ _ h _
    exact h.elim

end Go.Proofs.Ythpolibakkmmeaa
/-
  Orders: what is known of keys that are there; strings compared; slices of strings among the arguments.
-/
set_option linter.unusedVariables false
namespace Brv
open Go
section
variable {κ : Type} [Key κ]
def floorV (zk zv : Value) : Option (Pr κ) → Value
  | some p => .tuple #[Key.val p.1, gv1' p.2, .bool true]
  | none => .tuple #[zk, zv, .bool false]
theorem floorK_yes {ps : List (Pr κ)} {k : κ} (h : hasK ps k = true) : floorK ps k = ps[low ps k]? := if_pos h
theorem floorK_no {ps : List (Pr κ)} {k : κ} (h : hasK ps k = false) (h0 : low ps k = 0) : floorK ps k = none := by unfold floorK; rw [h, if_neg (by simp), if_pos h0]
theorem floorK_low {ps : List (Pr κ)} {k : κ} (h : hasK ps k = false) (h0 : low ps k ≠ 0) : floorK ps k = ps[low ps k - 1]? := by unfold floorK; rw [h, if_neg (by simp), if_neg h0]
theorem lt_irr {a b : κ} (h : Key.lt a b = true) : Key.lt b a = false := by
  cases hc : Key.lt b a with
  | false => rfl
  | true => have := Key.trans _ _ _ h hc; rw [Key.irr] at this; cases this
theorem low_at {ps : List (Pr κ)} (hs : Sorted ps) {i : Nat} {p : Pr κ} (hp : ps[i]? = some p) : low ps p.1 = i := by
  have hi : i < ps.length := (List.getElem?_eq_some_iff.1 hp).1
  have he : ps[i] = p := (List.getElem?_eq_some_iff.1 hp).2
  apply Nat.le_antisymm
  · refine Nat.le_of_not_lt fun h => ?_
    have := low_lt h hp
    rw [Key.irr] at this; cases this
  · refine Nat.le_of_not_lt fun h => ?_
    have hl : low ps p.1 < ps.length := by omega
    have h1 := low_ge (k := p.1) hs (Nat.le_refl _) (List.getElem?_eq_getElem hl)
    have h2 := (List.pairwise_iff_getElem.1 hs) _ _ hl hi h
    rw [he] at h2
    rw [h2] at h1; cases h1
theorem hasK_mem {ps : List (Pr κ)} (hs : Sorted ps) {p : Pr κ} (hp : p ∈ ps) : hasK ps p.1 = true ∧ getK ps p.1 = some p.2 := by
  obtain ⟨i, hi, he⟩ := List.mem_iff_getElem.1 hp
  have hp' : ps[i]? = some p := by rw [List.getElem?_eq_getElem hi, he]
  have hl := low_at hs hp'
  have hk : hasK ps p.1 = true := (hasK_iff hs).2 ⟨p.2, by rw [hl, hp']⟩
  exact ⟨hk, getK_yes hk (by rw [hl]; exact hp')⟩
theorem hasK_exists {ps : List (Pr κ)} (hs : Sorted ps) {k : κ} : hasK ps k = true ↔ ∃ p ∈ ps, p.1 = k := by
  constructor
  · intro h
    obtain ⟨v, hv⟩ := (hasK_iff hs).1 h
    exact ⟨(k, v), List.mem_of_getElem? hv, rfl⟩
  · rintro ⟨p, hp, rfl⟩
    exact (hasK_mem hs hp).1
theorem mem_put {ps : List (Pr κ)} (hs : Sorted ps) {k : κ} {v : List Value} {p : Pr κ} : p ∈ putK ps k v ↔ p = (k, v) ∨ (p ∈ ps ∧ p.1 ≠ k) := by
  have hlo := low_le ps k
  cases hk : hasK ps k with
  | true =>
    rw [putK_yes hk]
    obtain ⟨u, hu⟩ := (hasK_iff hs).1 hk
    have hlt := hasK_lt hk
    constructor
    · intro h
      obtain ⟨i, hi, he⟩ := List.mem_iff_getElem.1 h
      rw [List.length_set] at hi
      rw [List.getElem_set] at he
      split at he
      · exact .inl he.symm
      · rename_i hne
        have hp' : ps[i]? = some p := by rw [List.getElem?_eq_getElem hi, he]
        exact .inr ⟨List.mem_of_getElem? hp', fun e => hne (by rw [← low_at hs hp', e])⟩
    · rintro (rfl | ⟨h, hne⟩)
      · exact List.mem_iff_getElem.2 ⟨low ps k, by rw [List.length_set]; exact hlt, by rw [List.getElem_set_self]⟩
      · obtain ⟨i, hi, he⟩ := List.mem_iff_getElem.1 h
        have hp' : ps[i]? = some p := by rw [List.getElem?_eq_getElem hi, he]
        refine List.mem_iff_getElem.2 ⟨i, by rw [List.length_set]; exact hi, ?_⟩
        rw [List.getElem_set_ne, he]
        intro e
        subst e
        rw [hu] at hp'
        cases hp'
        exact hne rfl
  | false =>
    rw [putK_no hk]
    have h0 : ∀ p ∈ ps, p.1 ≠ k := fun p hp e => by
      have := (hasK_exists hs).2 ⟨p, hp, e⟩
      rw [hk] at this; cases this
    constructor
    · intro h
      rcases List.mem_append.1 h with h | h
      · exact .inr ⟨List.mem_of_mem_take h, h0 _ (List.mem_of_mem_take h)⟩
      · rcases List.mem_cons.1 h with rfl | h
        · exact .inl rfl
        · exact .inr ⟨List.mem_of_mem_drop h, h0 _ (List.mem_of_mem_drop h)⟩
    · rintro (rfl | ⟨h, -⟩)
      · simp
      · rw [← List.take_append_drop (low ps k) ps] at h
        rcases List.mem_append.1 h with h | h
        · exact List.mem_append_left _ h
        · exact List.mem_append_right _ (List.mem_cons_of_mem _ h)
theorem mem_del {ps : List (Pr κ)} (hs : Sorted ps) {k : κ} {p : Pr κ} : p ∈ delK ps k ↔ p ∈ ps ∧ p.1 ≠ k := by
  cases hk : hasK ps k with
  | true =>
    rw [delK_yes hk]
    obtain ⟨u, hu⟩ := (hasK_iff hs).1 hk
    have hlt := hasK_lt hk
    have e : ps = ps.take (low ps k) ++ ps[low ps k] :: ps.drop (low ps k + 1) := by rw [← List.drop_eq_getElem_cons hlt, List.take_append_drop]
    have he : ps[low ps k] = (k, u) := (List.getElem?_eq_some_iff.1 hu).2
    constructor
    · intro h
      obtain ⟨i, hi, hq⟩ : ∃ i, ps[i]? = some p ∧ i ≠ low ps k := by
        rcases List.mem_append.1 h with h | h
        · obtain ⟨i, hi, he⟩ := List.mem_iff_getElem.1 h
          rw [List.length_take] at hi
          rw [List.getElem_take] at he
          exact ⟨i, by rw [List.getElem?_eq_getElem (by omega), he], by omega⟩
        · obtain ⟨i, hi, he⟩ := List.mem_iff_getElem.1 h
          rw [List.length_drop] at hi
          rw [List.getElem_drop] at he
          exact ⟨low ps k + 1 + i, by rw [List.getElem?_eq_getElem (by omega), he], by omega⟩
      exact ⟨List.mem_of_getElem? hi, fun e => hq (by rw [← low_at hs hi, e])⟩
    · rintro ⟨h, hne⟩
      rw [e, he] at h
      rcases List.mem_append.1 h with h | h
      · exact List.mem_append_left _ h
      · rcases List.mem_cons.1 h with rfl | h
        · exact absurd rfl hne
        · exact List.mem_append_right _ h
  | false =>
    rw [delK_no hk]
    exact ⟨fun h => ⟨h, fun e => by have := (hasK_exists hs).2 ⟨p, h, e⟩; rw [hk] at this; cases this⟩, fun h => h.1⟩
theorem del_len (ps : List (Pr κ)) (k : κ) : (delK ps k).length = if hasK ps k then ps.length - 1 else ps.length := by
  cases hk : hasK ps k with
  | true => rw [delK_yes hk, List.length_append, List.length_take, List.length_drop]; have := hasK_lt hk; simp; omega
  | false => rw [delK_no hk]; simp
end
section
variable {P : Program} {n : Fm} {ρ : Env} {w : World} {d : Nat} {ty : TypeId} {pos : String} {af : Array Edge} {gd : Option (Nat × Bool)}
theorem bl_ge (a b : List UInt8) : (!(Op.bytesLess a b)) = !(Op.bytesLess a b) := rfl
theorem R.geStr {T T' : TypeId} {x y : Operand} {a b : List UInt8} (hx : ev ρ x = some (.string (str a))) (hy : ev ρ y = some (.string (str b))) :
    Runs P n ρ w ⟨some d, .binOp .geq T x y T', ty, pos, af, gd⟩ (.bool (!(Op.bytesLess a b))) w := R.bin hx hy (fun w => by simp [eqGuard_at_string, binOp, Op.stringOp, ba_toList, str])
end
/-- A slice of strings. -/
theorem Rd.strs {P : Program} {w : World} {f : Nat} {T E sz : TypeId} (hT : P.underlying T = some (.slice E)) [t : TyStr P E] (hby : P.bytesOf E = sz) (hsz : 0 < sz) {cs : List Value} (h : Rd P w f T cs) :
    ∃ a n c, ∃ l : List (List UInt8), cs = [.slice a n c] ∧ n ≤ c ∧ n ≤ 140737488351232 ∧ Cells w a (l.map fun s => Value.string (Brv.str s)) ∧ n = l.length ∧ ∀ s ∈ l, s.length ≤ 140737488351232 := by
  cases f with
  | zero => exact h.elim
  | succ f =>
    unfold Rd at h
    rw [hT] at h
    obtain ⟨a, n, c, rfl, hnc, ha, hb, vss, hl, hcell, hv⟩ := h
    have hex : ∃ l : List (List UInt8), vss = l.map (fun s => [Value.string (Brv.str s)]) ∧ ∀ s ∈ l, s.length ≤ 140737488351232 := by
      clear hcell hl
      induction vss with
      | nil => exact ⟨[], rfl, by simp⟩
      | cons vs r ih =>
        obtain ⟨s, rfl, hs⟩ := (hv vs (by simp)).2.str
        obtain ⟨l, rfl, hl⟩ := ih (fun x hx => hv x (by simp [hx]))
        exact ⟨s :: l, rfl, fun x hx => (List.mem_cons.1 hx).elim (fun e => e ▸ hs) (hl x)⟩
    obtain ⟨l, rfl, hs⟩ := hex
    refine ⟨a, n, c, l, rfl, hnc, ?_, ?_, by simpa using hl.symm, hs⟩
    · rw [hby] at hb
      have := Nat.le_mul_of_pos_right c hsz
      omega
    have : (l.map (fun s => [Value.string (Brv.str s)])).flatten = l.map fun s => Value.string (Brv.str s) := by
      clear hcell hl hv hs
      induction l with
      | nil => rfl
      | cons b r ih => simp [ih]
    rw [this] at hcell; exact hcell
end Brv
/-
  The walks of package order.
-/
set_option linter.unusedVariables false
set_option linter.unusedSimpArgs false
set_option maxRecDepth 4000
namespace Go.Proofs.Ythpolibakkmmeaa
open Go Brv
theorem floorS_ok (m : Nat) (ps : List (Pr (Int))) (S : List Nat) (k : Int) (w : World) (hd : MapAt (κ := Int) 191 194 1 w m ps S) (hl : ps.length ≤ 99999) : Meets Try.prog 50 [.pointer (some ⟨m, 0, none⟩), .int .i64 k] w (fun v w' => v = floorV (.int .i64 0) (.string ByteArray.empty) (floorK ps k) ∧ Ext [] w w') := by
  refine Meets.enter Try.func50 rfl 48 rfl (Nat.le_of_ble_eq_true rfl) ?_
  have E := Ext.refl [] w
  have hd0 := hd
  obtain ⟨a, c, M, rfl, hm0, Bm, om, hok, hs⟩ := hd
  refine G.seq ?_
  refine G.region ?_
  refine L.val rfl rfl (R.as rfl) ?_
  refine L.val rfl rfl (R.as rfl) ?_
  refine L.val rfl rfl (R.as rfl) ?_
  refine L.nil ?_
  refine N.seq ?_
  refine G.seq ?_
  refine G.region ?_
  refine L.do rfl rfl (R.alloc) ?_
  rintro _ w1 ⟨b7, rfl, hb7, hs7, e1, B7⟩
  replace B7 : Blk w1 b7 (.agg #[.int .i64 0, .string ByteArray.empty] : Value).cells 194 (0, 0) := B7
  replace E := E.trans0 e1
  replace hd0 := hd0.ext0 e1
  replace Bm := Bm.ext0 e1
  replace om := om.ext0 e1
  refine L.nil ?_
  refine N.seq ?_
  refine G.seq ?_
  refine G.seq ?_
  refine G.region ?_
  refine L.val rfl rfl (R.mv rfl) ?_
  refine L.val rfl rfl (R.eqNilP rfl rfl) ?_
  refine L.nil ?_
  refine N.seq ?_
  refine G.condF rfl ?_
  refine G.skip ?_
  refine N.seq ?_
  refine G.seq ?_
  refine G.region ?_
  refine L.val rfl rfl (R.mv rfl) ?_
  refine L.val rfl rfl (R.mv rfl) ?_
  refine L.callF rfl rfl rfl go111 (findS_ok m ps (m :: M) k _ hd0 (by omega)) ?_
  rintro _ w2 ⟨rfl, e2⟩
  replace E := E.trans0 e2
  replace Bm := Bm.ext0 e2
  replace om := om.ext0 e2
  replace B7 := B7.ext0 e2
  have hlo := low_le ps k
  refine L.val rfl rfl (R.mv rfl) ?_
  refine L.val rfl rfl (R.ext rfl rfl) ?_
  refine L.val rfl rfl (R.ext rfl rfl) ?_
  refine L.val rfl rfl (R.as rfl) ?_
  refine L.val rfl rfl (R.as rfl) ?_
  refine L.nil ?_
  refine N.seq ?_
  refine G.seq ?_
  refine G.seq ?_
  refine G.region ?_
  refine L.val rfl rfl (R.mv rfl) ?_
  refine L.val rfl rfl (R.not rfl) ?_
  refine L.nil ?_
  refine N.seq ?_
  refine G.condB rfl (fun h1 => ?_) (fun h1 => ?_)
  · have hk : hasK ps k = false := by simpa using h1
    refine G.region ?_
    refine L.val rfl rfl (R.mv rfl) ?_
    refine L.val rfl rfl (R.sub' rfl rfl (by omega)) ?_
    refine L.val rfl rfl (R.as rfl) ?_
    refine L.nil ?_
    refine N.seq ?_
    refine G.seq ?_
    refine G.seq ?_
    refine G.region ?_
    refine L.val rfl rfl (R.mv rfl) ?_
    refine L.val rfl rfl (R.lss rfl rfl) ?_
    refine L.nil ?_
    refine N.seq ?_
    refine G.condP rfl (fun h2 => ?_) (fun h2 => ?_)
    · have h00 : low ps k = 0 := by omega
      refine G.seq ?_
      refine G.quiet (by decide +kernel) rfl ?_
      refine Q.val rfl rfl rfl rfl (fun w3 hE => R.fld rfl) ?_
      refine Q.val rfl rfl rfl rfl (fun w3 hE => R.ldB (v := .int .i64 0) rfl (B7.ext0 hE) rfl) ?_
      refine Q.val rfl rfl rfl rfl (fun w3 hE => R.fld rfl) ?_
      refine Q.val rfl rfl rfl rfl (fun w3 hE => R.ldB (v := .string ByteArray.empty) rfl (B7.ext0 hE) rfl) ?_
      refine Q.val rfl rfl rfl rfl (fun w3 hE => R.as rfl) ?_
      refine Q.val rfl rfl rfl rfl (fun w3 hE => R.as rfl) ?_
      refine Q.val rfl rfl rfl rfl (fun w3 hE => R.as rfl) ?_
      refine Q.nil (fun w3 e3 => ?_)
      replace E := E.trans0 e3
      refine N.seq ?_
      refine G.ret3 rfl rfl rfl rfl ?_
      first
        | (rw [floorK_no hk h00]; exact ⟨rfl, E⟩)
        | (rw [hfl]; show _ = Value.tuple #[Key.val p.1, gv1' p.2, .bool true] ∧ _; rw [hx]; exact ⟨rfl, E⟩)
    · have h00 : low ps k ≠ 0 := by omega
      obtain ⟨j, hj⟩ : ∃ j, j = low ps k - 1 := ⟨_, rfl⟩
      have hjT : ((low ps k : Int) - 1).toNat = j := by omega
      have hfl : floorK ps k = ps[j]? := by rw [floorK_low hk h00, hj]
      obtain ⟨g, cur, rfl, rfl, Bg, hnc, hcm, hcs, ht⟩ := om.some (by omega)
      obtain ⟨p, hp⟩ : ∃ p, ps[j]? = some p := ⟨_, List.getElem?_eq_getElem (by omega)⟩
      rw [hp] at hfl
      obtain ⟨x, hx⟩ := List.length_eq_one_iff.1 (hok p (List.mem_of_getElem? hp)).1
      have hck : cur[0 + j * 2 + 0]? = some (Key.val p.1) := by rw [Nat.zero_add]; exact row_at ht hok hp rfl
      have hcx : cur[0 + j * 2 + 1]? = some x := by rw [Nat.zero_add]; exact row_at ht hok hp (by show (Key.val p.1 :: p.2)[1]? = _; rw [hx]; rfl)
      refine G.skip ?_
      refine N.seq ?_
      refine G.seq ?_
      refine G.quiet (by decide +kernel) rfl ?_
      refine Q.val rfl rfl rfl rfl (fun w3 hE => R.mv rfl) ?_
      refine Q.val rfl rfl rfl rfl (fun w3 hE => R.nilChk rfl) ?_
      refine Q.val rfl rfl rfl rfl (fun w3 hE => R.fld rfl) ?_
      refine Q.val rfl rfl rfl rfl (fun w3 hE => R.ldB rfl (Bm.ext0 hE) rfl) ?_
      refine Q.val rfl rfl rfl rfl (fun w3 hE => R.mv rfl) ?_
      refine Q.val rfl rfl rfl rfl (fun w3 hE => R.idx rfl rfl (by omega) (by omega) _ rfl) ?_
      refine Q.val rfl rfl rfl rfl (fun w3 hE => R.fldA rfl) ?_
      refine Q.val rfl rfl rfl rfl (fun w3 hE => R.ld rfl (v := .int .i64 p.1) (by rw [hjT, Go.Addr.add_lit, Go.Addr.add_lit]; exact ((Bg.ext0 hE).cell _).trans hck)) ?_
      refine Q.val rfl rfl rfl rfl (fun w3 hE => R.mv rfl) ?_
      refine Q.val rfl rfl rfl rfl (fun w3 hE => R.nilChk rfl) ?_
      refine Q.val rfl rfl rfl rfl (fun w3 hE => R.fld rfl) ?_
      refine Q.val rfl rfl rfl rfl (fun w3 hE => R.ldB rfl (Bm.ext0 hE) rfl) ?_
      refine Q.val rfl rfl rfl rfl (fun w3 hE => R.mv rfl) ?_
      refine Q.val rfl rfl rfl rfl (fun w3 hE => R.idx rfl rfl (by omega) (by omega) _ rfl) ?_
      refine Q.val rfl rfl rfl rfl (fun w3 hE => R.fldA rfl) ?_
      refine Q.val rfl rfl rfl rfl (fun w3 hE => R.ld rfl (v := x) (by rw [hjT, Go.Addr.add_lit, Go.Addr.add_lit]; exact ((Bg.ext0 hE).cell _).trans hcx)) ?_
      refine Q.val rfl rfl rfl rfl (fun w3 hE => R.as rfl) ?_
      refine Q.val rfl rfl rfl rfl (fun w3 hE => R.as rfl) ?_
      refine Q.val rfl rfl rfl rfl (fun w3 hE => R.as rfl) ?_
      refine Q.nil (fun w3 e3 => ?_)
      replace E := E.trans0 e3
      refine N.seq ?_
      refine G.ret3 rfl rfl rfl rfl ?_
      first
        | (rw [floorK_no hk h00]; exact ⟨rfl, E⟩)
        | (rw [hfl]; show _ = Value.tuple #[Key.val p.1, gv1' p.2, .bool true] ∧ _; rw [hx]; exact ⟨rfl, E⟩)
  · have hk : hasK ps k = true := by simpa using h1
    have hlt := hasK_lt hk
    refine G.skip ?_
    refine N.seq ?_
    refine G.seq ?_
    refine G.seq ?_
    refine G.region ?_
    refine L.val rfl rfl (R.mv rfl) ?_
    refine L.val rfl rfl (R.lss rfl rfl) ?_
    refine L.nil ?_
    refine N.seq ?_
    refine G.condP rfl (fun h2 => ?_) (fun h2 => ?_)
    · exfalso; omega
    · obtain ⟨j, hj⟩ : ∃ j, j = low ps k := ⟨_, rfl⟩
      have hjT : ((low ps k : Int)).toNat = j := by omega
      have hfl : floorK ps k = ps[j]? := by rw [floorK_yes hk, hj]
      obtain ⟨g, cur, rfl, rfl, Bg, hnc, hcm, hcs, ht⟩ := om.some (by omega)
      obtain ⟨p, hp⟩ : ∃ p, ps[j]? = some p := ⟨_, List.getElem?_eq_getElem (by omega)⟩
      rw [hp] at hfl
      obtain ⟨x, hx⟩ := List.length_eq_one_iff.1 (hok p (List.mem_of_getElem? hp)).1
      have hck : cur[0 + j * 2 + 0]? = some (Key.val p.1) := by rw [Nat.zero_add]; exact row_at ht hok hp rfl
      have hcx : cur[0 + j * 2 + 1]? = some x := by rw [Nat.zero_add]; exact row_at ht hok hp (by show (Key.val p.1 :: p.2)[1]? = _; rw [hx]; rfl)
      refine G.skip ?_
      refine N.seq ?_
      refine G.seq ?_
      refine G.quiet (by decide +kernel) rfl ?_
      refine Q.val rfl rfl rfl rfl (fun w3 hE => R.mv rfl) ?_
      refine Q.val rfl rfl rfl rfl (fun w3 hE => R.nilChk rfl) ?_
      refine Q.val rfl rfl rfl rfl (fun w3 hE => R.fld rfl) ?_
      refine Q.val rfl rfl rfl rfl (fun w3 hE => R.ldB rfl (Bm.ext0 hE) rfl) ?_
      refine Q.val rfl rfl rfl rfl (fun w3 hE => R.mv rfl) ?_
      refine Q.val rfl rfl rfl rfl (fun w3 hE => R.idx rfl rfl (by omega) (by omega) _ rfl) ?_
      refine Q.val rfl rfl rfl rfl (fun w3 hE => R.fldA rfl) ?_
      refine Q.val rfl rfl rfl rfl (fun w3 hE => R.ld rfl (v := .int .i64 p.1) (by rw [hjT, Go.Addr.add_lit, Go.Addr.add_lit]; exact ((Bg.ext0 hE).cell _).trans hck)) ?_
      refine Q.val rfl rfl rfl rfl (fun w3 hE => R.mv rfl) ?_
      refine Q.val rfl rfl rfl rfl (fun w3 hE => R.nilChk rfl) ?_
      refine Q.val rfl rfl rfl rfl (fun w3 hE => R.fld rfl) ?_
      refine Q.val rfl rfl rfl rfl (fun w3 hE => R.ldB rfl (Bm.ext0 hE) rfl) ?_
      refine Q.val rfl rfl rfl rfl (fun w3 hE => R.mv rfl) ?_
      refine Q.val rfl rfl rfl rfl (fun w3 hE => R.idx rfl rfl (by omega) (by omega) _ rfl) ?_
      refine Q.val rfl rfl rfl rfl (fun w3 hE => R.fldA rfl) ?_
      refine Q.val rfl rfl rfl rfl (fun w3 hE => R.ld rfl (v := x) (by rw [hjT, Go.Addr.add_lit, Go.Addr.add_lit]; exact ((Bg.ext0 hE).cell _).trans hcx)) ?_
      refine Q.val rfl rfl rfl rfl (fun w3 hE => R.as rfl) ?_
      refine Q.val rfl rfl rfl rfl (fun w3 hE => R.as rfl) ?_
      refine Q.val rfl rfl rfl rfl (fun w3 hE => R.as rfl) ?_
      refine Q.nil (fun w3 e3 => ?_)
      replace E := E.trans0 e3
      refine N.seq ?_
      refine G.ret3 rfl rfl rfl rfl ?_
      first
        | (rw [floorK_no hk h00]; exact ⟨rfl, E⟩)
        | (rw [hfl]; show _ = Value.tuple #[Key.val p.1, gv1' p.2, .bool true] ∧ _; rw [hx]; exact ⟨rfl, E⟩)

theorem putS_nil (k : Int) (vx : List UInt8) (w : World) : Meets Try.prog 44 [.pointer none, .int .i64 k, .string (str vx)] w (fun v w' => v = .bool false ∧ Ext [] w w') := by
  refine Meets.enter Try.func44 rfl 39 rfl (Nat.le_of_ble_eq_true rfl) ?_
  have E := Ext.refl [] w
  refine G.seq ?_
  refine G.region ?_
  refine L.val rfl rfl (R.as rfl) ?_
  refine L.nil ?_
  refine N.seq ?_
  refine G.seq ?_
  refine G.seq ?_
  refine G.region ?_
  refine L.val rfl rfl (R.mv rfl) ?_
  refine L.val rfl rfl (R.eqNilP rfl rfl) ?_
  refine L.nil ?_
  refine N.seq ?_
  refine G.condT rfl ?_
  refine G.seq ?_
  refine G.region ?_
  refine L.val rfl rfl (R.as rfl) ?_
  refine L.nil ?_
  refine N.seq ?_
  refine G.ret1 rfl rfl ?_
  exact ⟨rfl, E⟩

theorem getS_nil (k : Int) (w : World) : Meets Try.prog 49 [.pointer none, .int .i64 k] w (fun v w' => v = .tuple #[.string ByteArray.empty, .bool false] ∧ Ext [] w w') := by
  refine Meets.enter Try.func49 rfl 29 rfl (Nat.le_of_ble_eq_true rfl) ?_
  have E := Ext.refl [] w
  refine G.seq ?_
  refine G.region ?_
  refine L.val rfl rfl (R.as rfl) ?_
  refine L.val rfl rfl (R.as rfl) ?_
  refine L.nil ?_
  refine N.seq ?_
  refine G.seq ?_
  refine G.region ?_
  refine L.val rfl rfl (R.as rfl) ?_
  refine L.nil ?_
  refine N.seq ?_
  refine G.seq ?_
  refine G.seq ?_
  refine G.region ?_
  refine L.val rfl rfl (R.mv rfl) ?_
  refine L.val rfl rfl (R.eqNilP rfl rfl) ?_
  refine L.nil ?_
  refine N.seq ?_
  refine G.condT rfl ?_
  refine G.seq ?_
  refine G.region ?_
  refine L.val rfl rfl (R.mv rfl) ?_
  refine L.val rfl rfl (R.as rfl) ?_
  refine L.val rfl rfl (R.as rfl) ?_
  refine L.nil ?_
  refine N.seq ?_
  refine G.ret2 rfl rfl rfl ?_
  exact ⟨rfl, E⟩

theorem floorS_nil (k : Int) (w : World) : Meets Try.prog 50 [.pointer none, .int .i64 k] w (fun v w' => v = .tuple #[.int .i64 0, .string ByteArray.empty, .bool false] ∧ Ext [] w w') := by
  refine Meets.enter Try.func50 rfl 48 rfl (Nat.le_of_ble_eq_true rfl) ?_
  have E := Ext.refl [] w
  refine G.seq ?_
  refine G.region ?_
  refine L.val rfl rfl (R.as rfl) ?_
  refine L.val rfl rfl (R.as rfl) ?_
  refine L.val rfl rfl (R.as rfl) ?_
  refine L.nil ?_
  refine N.seq ?_
  refine G.seq ?_
  refine G.region ?_
  refine L.do rfl rfl (R.alloc) ?_
  rintro _ w1 ⟨b7, rfl, hb7, hs7, e1, B7⟩
  replace B7 : Blk w1 b7 (.agg #[.int .i64 0, .string ByteArray.empty] : Value).cells 194 (0, 0) := B7
  replace E := E.trans0 e1
  refine L.nil ?_
  refine N.seq ?_
  refine G.seq ?_
  refine G.seq ?_
  refine G.region ?_
  refine L.val rfl rfl (R.mv rfl) ?_
  refine L.val rfl rfl (R.eqNilP rfl rfl) ?_
  refine L.nil ?_
  refine N.seq ?_
  refine G.condT rfl ?_
  refine G.seq ?_
  refine G.quiet (by decide +kernel) rfl ?_
  refine Q.val rfl rfl rfl rfl (fun w2 hE => R.fld rfl) ?_
  refine Q.val rfl rfl rfl rfl (fun w2 hE => R.ldB (v := .int .i64 0) rfl (B7.ext0 hE) rfl) ?_
  refine Q.val rfl rfl rfl rfl (fun w2 hE => R.fld rfl) ?_
  refine Q.val rfl rfl rfl rfl (fun w2 hE => R.ldB (v := .string ByteArray.empty) rfl (B7.ext0 hE) rfl) ?_
  refine Q.val rfl rfl rfl rfl (fun w2 hE => R.as rfl) ?_
  refine Q.val rfl rfl rfl rfl (fun w2 hE => R.as rfl) ?_
  refine Q.val rfl rfl rfl rfl (fun w2 hE => R.as rfl) ?_
  refine Q.nil (fun w2 e2 => ?_)
  replace E := E.trans0 e2
  refine N.seq ?_
  refine G.ret3 rfl rfl rfl rfl ?_
  exact ⟨rfl, E⟩

theorem olenS_nil  (w : World) : Meets Try.prog 53 [.pointer none] w (fun v w' => v = .int .i64 0 ∧ Ext [] w w') := by
  refine Meets.enter Try.func53 rfl 10 rfl (Nat.le_of_ble_eq_true rfl) ?_
  have E := Ext.refl [] w
  refine G.seq ?_
  refine G.region ?_
  refine L.val rfl rfl (R.as rfl) ?_
  refine L.nil ?_
  refine N.seq ?_
  refine G.seq ?_
  refine G.seq ?_
  refine G.region ?_
  refine L.val rfl rfl (R.mv rfl) ?_
  refine L.val rfl rfl (R.eqNilP rfl rfl) ?_
  refine L.nil ?_
  refine N.seq ?_
  refine G.condT rfl ?_
  refine G.seq ?_
  refine G.region ?_
  refine L.val rfl rfl (R.as rfl) ?_
  refine L.nil ?_
  refine N.seq ?_
  refine G.ret1 rfl rfl ?_
  exact ⟨rfl, E⟩

theorem ocloneS_nil  (w : World) : Meets Try.prog 55 [.pointer none] w (fun v w' => v = .pointer none ∧ Ext [] w w') := by
  refine Meets.enter Try.func55 rfl 12 rfl (Nat.le_of_ble_eq_true rfl) ?_
  have E := Ext.refl [] w
  refine G.seq ?_
  refine G.region ?_
  refine L.val rfl rfl (R.as rfl) ?_
  refine L.nil ?_
  refine N.seq ?_
  refine G.seq ?_
  refine G.seq ?_
  refine G.region ?_
  refine L.val rfl rfl (R.mv rfl) ?_
  refine L.val rfl rfl (R.eqNilP rfl rfl) ?_
  refine L.nil ?_
  refine N.seq ?_
  refine G.condT rfl ?_
  refine G.seq ?_
  refine G.region ?_
  refine L.val rfl rfl (R.as rfl) ?_
  refine L.nil ?_
  refine N.seq ?_
  refine G.ret1 rfl rfl ?_
  exact ⟨rfl, E⟩

theorem odelS_nil (k : Int) (w : World) : Meets Try.prog 47 [.pointer none, .int .i64 k] w (fun v w' => v = .bool false ∧ Ext [] w w') := by
  refine Meets.enter Try.func47 rfl 28 rfl (Nat.le_of_ble_eq_true rfl) ?_
  have E := Ext.refl [] w
  refine G.seq ?_
  refine G.region ?_
  refine L.val rfl rfl (R.as rfl) ?_
  refine L.nil ?_
  refine N.seq ?_
  refine G.seq ?_
  refine G.seq ?_
  refine G.region ?_
  refine L.val rfl rfl (R.mv rfl) ?_
  refine L.val rfl rfl (R.eqNilP rfl rfl) ?_
  refine L.nil ?_
  refine N.seq ?_
  refine G.condT rfl ?_
  refine G.seq ?_
  refine G.region ?_
  refine L.val rfl rfl (R.as rfl) ?_
  refine L.nil ?_
  refine N.seq ?_
  refine G.ret1 rfl rfl ?_
  exact ⟨rfl, E⟩

end Go.Proofs.Ythpolibakkmmeaa
/-
  Arrays of bytes as values: from slices, compared.
-/
set_option linter.unusedVariables false
namespace Brv
open Go
section
variable {P : Program} {n : Fm} {ρ : Env} {w : World} {d : Nat} {ty : TypeId} {pos : String} {af : Array Edge} {gd : Option (Nat × Bool)}
/-- (*[m]E)(xs). -/
theorem R.s2ap {T m E size : Nat} [t : TyArr P T m E size] {x : Operand} {a : Option Addr} {k c : Nat} (hx : ev ρ x = some (.slice a k c)) (hk : m ≤ k) :
    Runs P n ρ w ⟨some d, .sliceToArrayPointer T x, ty, pos, af, gd⟩ (.pointer a) w := (fun f hf => by
    simp [execOp, hf.eval hx, run_arrayAt w T E m a k c t.h hk])
/-- An array type of bytes, that may be compared. -/
class TyBArr (P : Program) (T : TypeId) (m : outParam Nat) : Prop where
  h : ∃ E, P.underlying T = some (.array m E) ∧ P.underlying E = some (.int .u8) ∧ (P.info? E).map (·.size) = some 1
  g : P.eqGuardType P.depth T = false
theorem vbs_cell (l : List UInt8) : vbs l = l.map Extern.Stop.cell := rfl
theorem R.neArr {T T' : TypeId} {m : Nat} [t : TyBArr P T m] {x y : Operand} {a b : List UInt8} (hx : ev ρ x = some (.agg (vbs a).toArray)) (hy : ev ρ y = some (.agg (vbs b).toArray)) (ha : a.length = m) (hb : b.length = m) :
    Runs P n ρ w ⟨some d, .binOp .neq T x y T', ty, pos, af, gd⟩ (.bool (decide (a ≠ b))) w := R.bin hx hy (fun w => by
    obtain ⟨E, h1, h2, h3⟩ := t.h
    have hsz : ∀ w, (Go.sizeOf E).run P w = .ok 1 w := by
      intro w
      cases hq : P.info? E with
      | none => simp [hq] at h3
      | some q => have : q.size = 1 := by simpa [hq] using h3
                  simp [Go.sizeOf, typeInfo, hq, this]
    simp only [Sem.run_bind, run_eqGuard_agg (w := w) .neq T x y _ _ t.g, Result.andThen_ok, run_neq_struct, vbs_cell, run_equalIn_bytes w 9998 T E m h1 h2 hsz a b ha hb]
    congr 2
    by_cases h : a = b <;> simp [h])
end
theorem cells_repV {cur : Array Value} {p q : Nat} {y : Value} (h : cur.toList.take p = List.replicate p y) (hq : q ≤ p) (j : Nat) (v : Value) (hj : (List.replicate q y)[j]? = some v) : cur[0 + j]? = some v := by
  have hlt : j < q := by have := (List.getElem?_eq_some_iff.1 hj).1; simpa using this
  have h1 : (List.replicate p y)[j]? = some v := by rw [List.getElem?_replicate] at hj ⊢; rw [if_pos hlt] at hj; rw [if_pos (by omega)]; exact hj
  rw [← h, List.getElem?_take, if_pos (by omega)] at h1
  simpa using h1
theorem Cells.none {w : World} {vs : List Value} (h : Cells w none vs) : vs = [] := by
  cases vs with
  | nil => rfl
  | cons v vs => obtain ⟨p, hp, _⟩ := h 0 v rfl; cases hp
end Brv
namespace Brv
open Go
def ptr (b : Nat) : Value := .pointer (some ⟨b, 0, none⟩)
theorem ptrs_one (ps : List Nat) : ∀ u ∈ ps.map ptr, u.oneCell' = true := by
  intro u hu
  obtain ⟨b, _, rfl⟩ := List.mem_map.1 hu
  rfl
theorem R.lenT {P : Program} {n : Fm} {ρ : Env} {w : World} {d : Nat} {ty : TypeId} {pos : String} {af : Array Edge} {gd : Option (Nat × Bool)} {T : Nat} [t : TyStr P T] {x : Operand} {l : List UInt8} (hx : ev ρ x = some (.string (str l))) :
    Runs P n ρ w ⟨some d, .call ⟨.builtin .len, #[x], #[T]⟩, ty, pos, af, gd⟩ (.int .i64 (l.length : Int)) w := R.lenStr hx
theorem all_stored {cs vs : Array Value} (h : cs.size = vs.size) : (cs.toList.take 0 ++ vs.toList ++ cs.toList.drop (0 + vs.size)).toArray = vs := by
  rw [List.take_zero, List.nil_append, List.drop_of_length_le (by rw [Array.length_toList]; omega), List.append_nil]
end Brv
/-
  Slices of three bounds; a struct of two parts.
-/
set_option linter.unusedVariables false
namespace Brv
open Go
section
variable {P : Program} {n : Fm} {ρ : Env} {w : World} {d : Nat} {ty : TypeId} {pos : String} {af : Array Edge} {gd : Option (Nat × Bool)}
theorem R.slLHM {T E size bytes : Nat} {z : Value} [t : TySlice P T E size bytes z] {x lo hi mx : Operand} {k k' k'' : IntKind} {a : Option Addr} {m c : Nat} {i j e : Int} (hx : ev ρ x = some (.slice a m c)) (hlo : ev ρ lo = some (.int k i)) (hhi : ev ρ hi = some (.int k' j)) (hmx : ev ρ mx = some (.int k'' e)) (h0 : 0 ≤ i) (h1 : i ≤ j) (h2 : j ≤ e) (h3 : e ≤ c) :
    Runs P n ρ w ⟨some d, .slice T x (some lo) (some hi) (some mx), ty, pos, af, gd⟩ (.slice (subA a i.toNat e.toNat size) (j.toNat - i.toNat) (e.toNat - i.toNat)) w := (fun f hf => by
    have hb : (Instr.sliceBounds true m c (some (.int k i)) (some (.int k' j)) (some (.int k'' e))).run P w = .ok (i.toNat, j.toNat, e.toNat) w := by
      simp [Instr.sliceBounds, sliceBound_ok (P := P) (k := k'') (i := e) (y := c) (code := .slice3Acap) (by omega) h3 w, sliceBound_ok (P := P) (k := k') (i := j) (y := e.toNat) (code := .slice3B) (by omega) (by omega) w, sliceBound_ok (P := P) (k := k) (i := i) (y := j.toNat) (code := .slice3C) h0 (by omega) w]
    have := run_subS (P := P) (T := T) (a := a) w hb
    simp only [execOp, hf.eval hx, hf.eval hlo, hf.eval hhi, hf.eval hmx, Sem.run_bind, Option.map_some, this]
    rfl)
end
theorem fill_two {pl : Nat → Option (Nat × Nat)} {A cs : Array Value} {u : Value} {m : Nat} (h0 : pl 0 = some (0, 1)) (h1 : pl 1 = some (1, m)) (hu : u.cells = #[u]) (hc : cs.size = m) (hA : A.size = 1 + m) : Instr.fill pl A [(0, u), (1, .agg cs)] = some (u :: cs.toList).toArray := by
  have hcc : (Value.agg cs).cells = cs := rfl
  have e0 : (u.cells.zipIdx.foldl (fun ac (p : Value × Nat) => ac.setIfInBounds (0 + p.2) p.1) A) = A.setIfInBounds 0 u := by rw [hu]; simp
  have hf := seg_fold 1 cs.toList 0 (A.setIfInBounds 0 u) (by simp; omega)
  have e : (cs.zipIdx.foldl (fun ac (p : Value × Nat) => ac.setIfInBounds (1 + p.2) p.1) (A.setIfInBounds 0 u)) = ((cs.toList.zipIdx 0).foldl (fun ac (p : Value × Nat) => ac.setIfInBounds (1 + p.2) p.1) (A.setIfInBounds 0 u)) := by
    rw [← Array.foldl_toList]; simp
  simp only [Instr.fill, h0, h1, hcc]
  rw [if_neg (by rw [hu]; intro h; simp at h; rw [h] at hA; simp at hA; omega)]
  simp only [e0]
  rw [if_neg (by simp; omega)]
  refine congrArg some ?_
  rw [e]
  apply Array.toList_inj.1
  rw [hf]
  simp only [Array.toList_setIfInBounds, Nat.add_zero, Array.length_toList]
  obtain ⟨al⟩ := A
  cases al with
  | nil => simp at hA; omega
  | cons a r =>
    simp at hA
    simp
    omega
/-- Where the elements of a slice lie; nowhere, if there are none. -/
def effA {α : Type} (a : Option Addr) : List α → Option Addr
  | [] => none
  | _ :: _ => a
theorem effA.of {α : Type} {a : Option Addr} {l : List α} {p : Addr} (h : effA a l = some p) : a = some p := by
  cases l with
  | nil => cases h
  | cons x r => exact h
theorem Cells.extE {α : Type} {f : α → Value} {w w' : World} {M : List Nat} {a : Option Addr} {l : List α} (h : Cells w a (l.map f)) (he : Ext M w w') (hm : ∀ p, effA a l = some p → p.block ∉ M) : Cells w' a (l.map f) := by
  cases l with
  | nil => exact Cells.nil _ _
  | cons x r => exact h.ext he hm
theorem Bs.extE {w w' : World} {M : List Nat} {a : Option Addr} {n : Nat} {l : List UInt8} (h : Bs w a n l) (he : Ext M w w') (hm : ∀ p, effA a l = some p → p.block ∉ M) : Bs w' a n l := ⟨Cells.extE (f := vb) h.cells he hm, h.len⟩
theorem Cells.effLt {α : Type} {f : α → Value} {w : World} {a : Option Addr} {l : List α} (h : Cells w a (l.map f)) : ∀ p, effA a l = some p → p.block < w.heap.size := by
  intro p hp
  cases l with
  | nil => cases hp
  | cons x r =>
    obtain ⟨q, hq, hc⟩ := h 0 (f x) rfl
    have : a = some p := hp
    rw [this] at hq; cases hq
    obtain ⟨o, ho, _⟩ : ∃ o : Obj, w.heap[(p.add 0).block]? = some o ∧ True := by
      unfold World.cell? at hc
      cases ho : w.heap[(p.add 0).block]? with
      | none => simp [ho] at hc
      | some o => exact ⟨o, rfl, trivial⟩
    exact (Array.getElem?_eq_some_iff.1 ho).1
theorem Bs.effLt {w : World} {a : Option Addr} {n : Nat} {l : List UInt8} (h : Bs w a n l) : ∀ p, effA a l = some p → p.block < w.heap.size := Cells.effLt (f := vb) h.cells
end Brv
/-
  The walks of package order.
-/
set_option linter.unusedVariables false
set_option linter.unusedSimpArgs false
set_option maxRecDepth 4000
namespace Go.Proofs.Ythpolibakkmmeaa
open Go Brv
theorem delS_ok (a : Option Addr) (n c : Nat) (ps : List (Pr (Int))) (M : List Nat) (i : Nat) (w : World) (ho : Own w 194 (1 + 1) a n c (pcells ps) M) (hn : n = ps.length) (hok : OkP 1 ps) (hi : i < n) (hnl : n ≤ 1000000) : Meets Try.prog 113 [.slice a n c, .int .i64 (i : Int), .int .i64 ((i : Int) + 1)] w (fun v w' => v = .slice a (n - 1) c ∧ Ext M w w' ∧ Own w' 194 (1 + 1) a (n - 1) c (pcells (ps.take i ++ ps.drop (i + 1))) M) := by
  refine Meets.enter Try.func113 rfl 33 rfl (Nat.le_of_ble_eq_true rfl) ?_
  obtain ⟨g0, cur0, rfl, rfl, B0, hc0, hx0, hz0, ht0⟩ := ho.some (by omega)
  have hps := (pcells_take (sv := 1) hok.len i (by omega)).1
  have hpd := (pcells_take (sv := 1) hok.len (i + 1) (by omega)).2
  have hcd : (pcells (ps.drop (i + 1))).length = (n - 1 - i) * (1 + 1) := by rw [pcells_len (sv := 1) (fun q hq => (hok q (List.mem_of_mem_drop hq)).1), List.length_drop, hn]; congr 1; omega
  have hone : ∀ u ∈ (pcells (ps.drop (i + 1))), u.oneCell' = true := fun u hu => pcell_one hok u (by rw [← hpd] at hu; exact List.mem_of_mem_drop hu)
  have hCd : Cells w (subA (some ⟨g0, 0, none⟩) (i + 1) c 2) (pcells (ps.drop (i + 1))) := by
    by_cases h9 : i + 1 < c
    · have h8 := (ho.cells).sub (i + 1) c 2 ((n - 1 - i) * 2) (by rw [ho.1, show 1 + 1 = 2 from rfl, ← Nat.add_mul]; exact Nat.mul_le_mul_right _ (by omega)) (by omega)
      rw [show (2 : Nat) = 1 + 1 from rfl, hpd, List.take_of_length_le (by rw [hcd]; exact Nat.le_refl _)] at h8
      exact h8
    · have h8 : (pcells (ps.drop (i + 1))) = [] := List.eq_nil_of_length_eq_zero (by rw [hcd, show n - 1 - i = 0 by omega, Nat.zero_mul])
      rw [h8]
      intro j v hj
      cases hj
  refine G.seq ?_
  refine G.region ?_
  refine L.val rfl rfl (R.as rfl) ?_
  refine L.nil ?_
  refine N.seq ?_
  refine G.seq ?_
  refine G.region ?_
  refine L.val rfl rfl (R.mv rfl) ?_
  refine L.val rfl rfl (R.mv rfl) ?_
  refine L.val rfl rfl (R.mv rfl) ?_
  refine L.val rfl rfl (R.mv rfl) ?_
  refine L.val rfl rfl (R.lenS rfl) ?_
  refine L.val rfl rfl (R.slLHM rfl rfl rfl rfl (by omega) (by omega) (by omega) (by omega)) ?_
  refine L.nil ?_
  refine N.seq ?_
  refine G.seq ?_
  refine G.seq ?_
  refine G.region ?_
  refine L.val rfl rfl (R.mv rfl) ?_
  refine L.val rfl rfl (R.mv rfl) ?_
  refine L.val rfl rfl (R.eqI rfl rfl) ?_
  refine L.nil ?_
  refine N.seq ?_
  refine G.condP rfl (fun h0 => ?_) (fun h0 => ?_)
  · exfalso; omega
  · refine G.skip ?_
    refine N.seq ?_
    refine G.seq ?_
    refine G.region ?_
    refine L.val rfl rfl (R.mv rfl) ?_
    refine L.val rfl rfl (R.lenS rfl) ?_
    refine L.val rfl rfl (R.as rfl) ?_
    refine L.nil ?_
    refine N.seq ?_
    refine G.seq ?_
    refine G.staged [6] [.blocks ([g0])] [fun w' => Ext [] w w', fun w' => Ext [g0] w w' ∧ Own w' 194 (1 + 1) (some ⟨g0, 0, none⟩) (n - 1) c (pcells (ps.take i ++ ps.drop (i + 1))) [g0]] [] (by decide +kernel) (by decide +kernel) rfl rfl rfl (fun _ h => h) ?_
    refine Z.val rfl rfl rfl rfl rfl (fun w1 => R.mv rfl) ?_
    refine Z.val rfl rfl rfl rfl rfl (fun w1 => R.mv rfl) ?_
    refine Z.val rfl rfl rfl rfl rfl (fun w1 => R.slH rfl rfl (by omega) (by omega)) ?_
    refine Z.be 22 rfl (show _ = Value.slice (some ⟨g0, 0, none⟩) i c by rw [subA_zero, Int.toNat_natCast]) ?_
    refine Z.val rfl rfl rfl rfl rfl (fun w1 => R.mv rfl) ?_
    refine Z.val rfl rfl rfl rfl rfl (fun w1 => R.mv rfl) ?_
    refine Z.val rfl rfl rfl rfl rfl (fun w1 => R.slL rfl rfl (by omega) (by omega)) ?_
    refine Z.be 25 rfl (show _ = Value.slice (subA (some ⟨g0, 0, none⟩) (i + 1) c 2) (n - 1 - i) (c - (i + 1)) by rw [show ((i : Int) + 1).toNat = i + 1 by omega, show n - (i + 1) = n - 1 - i by omega]) ?_
    refine Z.put (A := fun v _ => v = .slice (some ⟨g0, 0, none⟩) (n - 1) c) (Lasts.kill (fun _ _ _ _ h => h) (by decide +kernel)) 0 (by decide +kernel) rfl rfl rfl rfl rfl rfl rfl (fun w1 hJ => (R.app2 rfl rfl ((ho.pre (i := i) (by omega)).ext0 hJ) (hCd.ext0 hJ) hcd hone (by simp [maxLen]; omega) (by omega)).mono (fun v w9 h => by
      obtain ⟨a9, c9, M9, rfl, e9, _, o9, hin⟩ := h
      obtain ⟨rfl, rfl, rfl⟩ := hin (by omega)
      rw [hps, ← pcells_append, show i + (n - 1 - i) = n - 1 by omega] at o9
      exact ⟨by rw [show i + (n - 1 - i) = n - 1 by omega], e9, e9.after hJ, o9⟩)) ?_
    refine Z.valR (A := fun v _ => v = .slice (some ⟨g0, 0, none⟩) (n - 1) c) (Lasts.kill (fun _ _ _ _ h => h) (by decide +kernel)) rfl rfl rfl rfl (fun w1 => fun v hv => ⟨v, R.as rfl, hv⟩) ?_
    refine Z.nil rfl rfl (fun w1 hJ => ?_)
    obtain ⟨e3, o3⟩ := hJ
    rintro _ rfl _ rfl
    obtain ⟨cur3, _, B3, hc3, hx3, hz3, ht3⟩ := o3.inv
    have hzz : (n - 1) * 2 + 1 * 2 ≤ cur3.size := by
      have h9 : (n - 1 + 1) * 2 ≤ c * 2 := Nat.mul_le_mul_right _ (by omega)
      rw [Nat.add_mul] at h9
      exact Nat.le_trans h9 hz3
    refine N.seq ?_
    refine G.seq ?_
    refine G.region ?_
    refine L.val rfl rfl (R.mv rfl) ?_
    refine L.val rfl rfl (R.mv rfl) ?_
    refine L.val rfl rfl (R.lenS rfl) ?_
    refine L.val rfl rfl (R.mv rfl) ?_
    refine L.val rfl rfl (R.slLH rfl rfl rfl (by omega) (by omega) (by omega)) ?_
    refine L.be 31 rfl (show _ = Value.slice (some ⟨g0, (n - 1) * 2, none⟩) (0 + 1) (c - (n - 1)) by rw [Int.toNat_natCast, Int.toNat_natCast, subA_lit (by omega), Nat.zero_add, show n - (n - 1) = 0 + 1 by omega]) ?_
    refine L.do0 rfl (R.clearN (m := 0) rfl B3 (by omega) (by decide) (by intro u hu; simp [Value.cells] at hu; first | (rcases hu with rfl | rfl <;> rfl) | (rcases hu with rfl | rfl | rfl <;> rfl) | (rcases hu with rfl | rfl | rfl | rfl <;> rfl) | (rcases hu with rfl | rfl | rfl | rfl | rfl <;> rfl))) ?_
    rintro _ w4 P4
    obtain ⟨e4, hs4, B4⟩ := P4
    have X := e3.transN e4 (fun x hx => .inl hx)
    refine L.nil ?_
    refine N.seq ?_
    refine G.seq ?_
    refine G.region ?_
    refine L.val rfl rfl (R.mv rfl) ?_
    refine L.val rfl rfl (R.as rfl) ?_
    refine L.nil ?_
    refine N.seq ?_
    refine G.ret1 rfl rfl ?_
    exact ⟨rfl, X, own_over o3.1 B4 (by rw [Array.length_toList, size_zeroCells]; exact hzz) hc3 hx3 hz3 ht3⟩

theorem odelS_ok (m : Nat) (ps : List (Pr (Int))) (S : List Nat) (k : Int) (w : World) (hd : MapAt (κ := Int) 191 194 1 w m ps S) (hl : ps.length ≤ 99999) : Meets Try.prog 47 [.pointer (some ⟨m, 0, none⟩), .int .i64 k] w (fun v w' => v = .bool (hasK ps k) ∧ ∃ S', Grown S S' w w' ∧ MapAt (κ := Int) 191 194 1 w' m (delK ps k) S') := by
  refine Meets.enter Try.func47 rfl 28 rfl (Nat.le_of_ble_eq_true rfl) ?_
  have E := Ext.refl [] w
  have hd0 := hd
  obtain ⟨a, c, M, rfl, hm0, Bm, om, hok, hs⟩ := hd
  refine G.seq ?_
  refine G.region ?_
  refine L.val rfl rfl (R.as rfl) ?_
  refine L.nil ?_
  refine N.seq ?_
  refine G.seq ?_
  refine G.seq ?_
  refine G.region ?_
  refine L.val rfl rfl (R.mv rfl) ?_
  refine L.val rfl rfl (R.eqNilP rfl rfl) ?_
  refine L.nil ?_
  refine N.seq ?_
  refine G.condF rfl ?_
  refine G.skip ?_
  refine N.seq ?_
  refine G.seq ?_
  refine G.region ?_
  refine L.val rfl rfl (R.mv rfl) ?_
  refine L.val rfl rfl (R.mv rfl) ?_
  refine L.callF rfl rfl rfl go111 (findS_ok m ps (m :: M) k _ hd0 (by omega)) ?_
  rintro _ w1 ⟨rfl, e1⟩
  replace E := E.trans0 e1
  replace Bm := Bm.ext0 e1
  replace om := om.ext0 e1
  refine L.val rfl rfl (R.mv rfl) ?_
  refine L.val rfl rfl (R.ext rfl rfl) ?_
  refine L.val rfl rfl (R.ext rfl rfl) ?_
  refine L.val rfl rfl (R.as rfl) ?_
  refine L.val rfl rfl (R.as rfl) ?_
  refine L.nil ?_
  refine N.seq ?_
  refine G.seq ?_
  refine G.seq ?_
  refine G.region ?_
  refine L.val rfl rfl (R.mv rfl) ?_
  refine L.nil ?_
  refine N.seq ?_
  refine G.condB rfl (fun h1 => ?_) (fun h1 => ?_)
  · have hk : hasK ps k = true := h1
    have hlt := hasK_lt hk
    have hdl : (delK ps k).length = ps.length - 1 := by rw [delK_yes hk, List.length_append, List.length_take, List.length_drop]; omega
    refine G.region ?_
    refine L.val rfl rfl (R.mv rfl) ?_
    refine L.val rfl rfl (R.mv rfl) ?_
    refine L.val rfl rfl (R.nilChk rfl) ?_
    refine L.val rfl rfl (R.fld rfl) ?_
    refine L.val rfl rfl (R.ldB rfl Bm rfl) ?_
    refine L.val rfl rfl (R.mv rfl) ?_
    refine L.val rfl rfl (R.mv rfl) ?_
    refine L.val rfl rfl (R.add rfl rfl (by omega)) ?_
    refine L.callF rfl rfl rfl go113 (delS_ok a ps.length c ps M (low ps k) _ om rfl hok hlt (by omega)) ?_
    rintro _ w2 ⟨rfl, e2, o2⟩
    replace Bm := Bm.ext e2 hm0
    refine L.val rfl rfl (R.nilChk rfl) ?_
    refine L.val rfl rfl (R.fld rfl) ?_
    refine L.set rfl (R.st rfl rfl Bm (by show 0 < 1; decide) rfl) ?_
    rintro w4 ⟨e4, hs4, Bm⟩
    replace Bm : Blk w4 m #[.slice a (ps.length - 1) c] 191 (0, 0) := Bm
    have o4 := o2.ext e4 (by intro g hg h; rw [List.mem_singleton.1 h] at hg; exact hm0 hg)
    have X : Ext (m :: M) w w4 := ((e2.after E).mono (fun x hx => .inl (List.mem_cons_of_mem _ hx))).transN e4 (fun x hx => .inl (by rw [List.mem_singleton.1 hx]; simp))
    refine L.nil ?_
    refine N.seq ?_
    refine G.seq ?_
    refine G.region ?_
    refine L.val rfl rfl (R.mv rfl) ?_
    refine L.val rfl rfl (R.as rfl) ?_
    refine L.nil ?_
    refine N.seq ?_
    refine G.ret1 rfl rfl ?_
    first
      | exact ⟨by rw [hk]; rfl, m :: M, ⟨X, fun x hx => .inl hx⟩, MapAt.mk hm0 Bm hdl.symm (by rw [delK_yes hk]; exact o4) hok.del (sorted_del hs _)⟩
      | exact ⟨by rw [hk]; rfl, m :: M, ⟨E.mono (by simp), fun x hx => .inl hx⟩, by rw [delK_no hk]; exact MapAt.mk hm0 Bm rfl om hok hs⟩
  · have hk : hasK ps k = false := h1
    refine G.skip ?_
    refine N.seq ?_
    refine G.seq ?_
    refine G.region ?_
    refine L.val rfl rfl (R.mv rfl) ?_
    refine L.val rfl rfl (R.as rfl) ?_
    refine L.nil ?_
    refine N.seq ?_
    refine G.ret1 rfl rfl ?_
    first
      | exact ⟨by rw [hk]; rfl, m :: M, ⟨X, fun x hx => .inl hx⟩, MapAt.mk hm0 Bm hdl.symm (by rw [delK_yes hk]; exact o4) hok.del (sorted_del hs _)⟩
      | exact ⟨by rw [hk]; rfl, m :: M, ⟨E.mono (by simp), fun x hx => .inl hx⟩, by rw [delK_no hk]; exact MapAt.mk hm0 Bm rfl om hok hs⟩

end Go.Proofs.Ythpolibakkmmeaa
/-
  The laws of order.
-/
set_option linter.unusedVariables false
set_option linter.unusedSimpArgs false
set_option maxRecDepth 4000
namespace Go.Proofs.Ythpolibakkmmeaa
open Go Brv
theorem ofirst_ok  (w : World) : Meets Try.prog 34 [] w (fun v w' => v = .bool true ∧ Ext [] w w') := by
  refine Meets.enter Try.func34 rfl 68 rfl (Nat.le_of_ble_eq_true rfl) ?_
  have E := Ext.refl [] w
  refine G.seq ?_
  refine G.region ?_
  refine L.val rfl rfl (R.as rfl) ?_
  refine L.nil ?_
  refine N.seq ?_
  refine G.seq ?_
  refine G.region ?_
  refine L.callF rfl rfl rfl go42 (onewS_ok _) ?_
  rintro _ w1 ⟨m, rfl, hm, e1, D⟩
  have hS : ∀ y ∈ [m], w.heap.size ≤ y := by simpa using hm
  replace E := E.trans0 e1
  refine L.val rfl rfl (R.as rfl) ?_
  refine L.nil ?_
  refine N.seq ?_
  refine G.seq ?_
  refine G.region ?_
  refine L.val rfl rfl (R.mv rfl) ?_
  refine L.callF rfl rfl rfl go44 (putS_ok m ([] : List (Pr Int)) _ 5 [102, 105, 118, 101] _ D (by decide)) ?_
  rintro _ w2 ⟨rfl, S2, g2, D⟩
  have hE2 := E.size
  replace E := E.fresh g2.1 hS
  replace hS := g2.fresh hS hE2
  refine L.be 11 rfl (show _ = Value.bool true from rfl) ?_
  refine L.val rfl rfl (R.mv rfl) ?_
  refine L.callF rfl rfl rfl go44 (putS_ok m (putK ([] : List (Pr Int)) 5 [(.string (str [102, 105, 118, 101]))]) _ 2 [116, 119, 111] _ D (by decide)) ?_
  rintro _ w3 ⟨rfl, S3, g3, D⟩
  have hE3 := E.size
  replace E := E.fresh g3.1 hS
  replace hS := g3.fresh hS hE3
  refine L.be 13 rfl (show _ = Value.bool true from rfl) ?_
  refine L.val rfl rfl (R.as rfl) ?_
  refine L.val rfl rfl (R.as rfl) ?_
  refine L.nil ?_
  refine N.seq ?_
  refine G.seq ?_
  refine G.region ?_
  refine L.val rfl rfl (R.mv rfl) ?_
  refine L.callF rfl rfl rfl go44 (putS_ok m (putK (putK ([] : List (Pr Int)) 5 [(.string (str [102, 105, 118, 101]))]) 2 [(.string (str [116, 119, 111]))]) _ 5 [86] _ D (by decide)) ?_
  rintro _ w4 ⟨rfl, S4, g4, D⟩
  have hE4 := E.size
  replace E := E.fresh g4.1 hS
  replace hS := g4.fresh hS hE4
  refine L.be 15 rfl (show _ = Value.bool false from rfl) ?_
  refine L.val rfl rfl (R.as rfl) ?_
  refine L.nil ?_
  refine N.seq ?_
  refine G.seq ?_
  refine G.region ?_
  refine L.val rfl rfl (R.mv rfl) ?_
  refine L.callF rfl rfl rfl go50 (floorS_ok m (putK (putK (putK ([] : List (Pr Int)) 5 [(.string (str [102, 105, 118, 101]))]) 2 [(.string (str [116, 119, 111]))]) 5 [(.string (str [86]))]) _ 4 _ D (by decide)) ?_
  rintro _ w5 ⟨rfl, e5⟩
  replace E := E.trans0 e5
  replace D := D.ext0 e5
  refine L.be 18 rfl (show _ = Value.tuple #[.int .i64 2, (.string (str [116, 119, 111])), .bool true] from rfl) ?_
  refine L.val rfl rfl (R.mv rfl) ?_
  refine L.val rfl rfl (R.ext rfl rfl) ?_
  refine L.val rfl rfl (R.ext rfl rfl) ?_
  refine L.val rfl rfl (R.ext rfl rfl) ?_
  refine L.val rfl rfl (R.as rfl) ?_
  refine L.val rfl rfl (R.as rfl) ?_
  refine L.val rfl rfl (R.as rfl) ?_
  refine L.nil ?_
  refine N.seq ?_
  refine G.seq ?_
  refine G.region ?_
  refine L.val rfl rfl (R.mv rfl) ?_
  refine L.callF rfl rfl rfl go54 (okeysS_ok m (putK (putK (putK ([] : List (Pr Int)) 5 [(.string (str [102, 105, 118, 101]))]) 2 [(.string (str [116, 119, 111]))]) 5 [(.string (str [86]))]) _ _ D (by decide)) ?_
  rintro _ w6 ⟨ka, kc, kM, rfl, e6, ko, hkM⟩
  replace E := E.trans0 e6
  replace D := D.ext0 e6
  refine L.be 23 rfl (show _ = Value.slice ka 2 kc from rfl) ?_
  refine L.val rfl rfl (R.as rfl) ?_
  refine L.nil ?_
  refine N.seq ?_
  refine G.seq ?_
  refine G.region ?_
  obtain ⟨q, hq, hcq⟩ := ko.cells 0 (.int .i64 2) rfl
  refine L.val rfl rfl (R.mv rfl) ?_
  refine L.val rfl rfl (R.mv rfl) ?_
  refine L.isT 25 rfl (by rfl) ?_
  refine L.val rfl rfl (R.mv rfl) ?_
  first | refine L.val rfl rfl (R.pickT rfl rfl) ?_ | refine L.val rfl rfl (R.pickF rfl rfl) ?_
  refine L.val rfl rfl (R.mv rfl) ?_
  refine L.isT 28 rfl (by rfl) ?_
  refine L.val rfl rfl (R.mv rfl) ?_
  refine L.val rfl rfl (R.not rfl) ?_
  first | refine L.val rfl rfl (R.pickT rfl rfl) ?_ | refine L.val rfl rfl (R.pickF rfl rfl) ?_
  refine L.val rfl rfl (R.mv rfl) ?_
  refine L.isT 32 rfl (by rfl) ?_
  refine L.val rfl rfl (R.mv rfl) ?_
  refine L.val rfl rfl (R.eqI rfl rfl) ?_
  first | refine L.val rfl rfl (R.pickT rfl rfl) ?_ | refine L.val rfl rfl (R.pickF rfl rfl) ?_
  refine L.val rfl rfl (R.mv rfl) ?_
  refine L.isT 36 rfl (by rfl) ?_
  refine L.val rfl rfl (R.mv rfl) ?_
  refine L.val rfl rfl (R.eqStr rfl rfl) ?_
  first | refine L.val rfl rfl (R.pickT rfl rfl) ?_ | refine L.val rfl rfl (R.pickF rfl rfl) ?_
  refine L.val rfl rfl (R.mv rfl) ?_
  refine L.isT 40 rfl (by rfl) ?_
  refine L.val rfl rfl (R.mv rfl) ?_
  first | refine L.val rfl rfl (R.pickT rfl rfl) ?_ | refine L.val rfl rfl (R.pickF rfl rfl) ?_
  refine L.val rfl rfl (R.mv rfl) ?_
  refine L.isT 43 rfl (by rfl) ?_
  refine L.val rfl rfl (R.mv rfl) ?_
  refine L.val rfl rfl (R.lenS rfl) ?_
  refine L.val rfl rfl (R.eqI rfl rfl) ?_
  first | refine L.val rfl rfl (R.pickT rfl rfl) ?_ | refine L.val rfl rfl (R.pickF rfl rfl) ?_
  refine L.val rfl rfl (R.mv rfl) ?_
  refine L.isT 48 rfl (by rfl) ?_
  refine L.val rfl rfl (R.mv rfl) ?_
  refine L.val rfl rfl (R.idx rfl rfl (by decide) (by decide) q hq) ?_
  refine L.val rfl rfl (R.ld rfl (v := .int .i64 2) hcq) ?_
  refine L.val rfl rfl (R.eqI rfl rfl) ?_
  first | refine L.val rfl rfl (R.pickT rfl rfl) ?_ | refine L.val rfl rfl (R.pickF rfl rfl) ?_
  refine L.val rfl rfl (R.mv rfl) ?_
  refine L.isT 54 rfl (by rfl) ?_
  refine L.val rfl rfl (R.mv rfl) ?_
  refine L.callF rfl rfl rfl go53 (olenS_ok m (putK (putK (putK ([] : List (Pr Int)) 5 [(.string (str [102, 105, 118, 101]))]) 2 [(.string (str [116, 119, 111]))]) 5 [(.string (str [86]))]) _ _ D (by decide)) ?_
  rintro _ _ ⟨rfl, hw⟩
  obtain rfl := hw.symm
  refine L.be 56 rfl (show _ = Value.int .i64 2 from rfl) ?_
  refine L.val rfl rfl (R.eqI rfl rfl) ?_
  first | refine L.val rfl rfl (R.pickT rfl rfl) ?_ | refine L.val rfl rfl (R.pickF rfl rfl) ?_
  refine L.val rfl rfl (R.mv rfl) ?_
  refine L.isT 59 rfl (by rfl) ?_
  refine L.val rfl rfl (R.mv rfl) ?_
  refine L.callF rfl rfl rfl go47 (odelS_ok m (putK (putK (putK ([] : List (Pr Int)) 5 [(.string (str [102, 105, 118, 101]))]) 2 [(.string (str [116, 119, 111]))]) 5 [(.string (str [86]))]) _ 2 _ D (by decide)) ?_
  rintro _ w7 ⟨rfl, S7, g7, D⟩
  have hE7 := E.size
  replace E := E.fresh g7.1 hS
  replace hS := g7.fresh hS hE7
  refine L.be 61 rfl (show _ = Value.bool true from rfl) ?_
  first | refine L.val rfl rfl (R.pickT rfl rfl) ?_ | refine L.val rfl rfl (R.pickF rfl rfl) ?_
  refine L.val rfl rfl (R.mv rfl) ?_
  refine L.isT 63 rfl (by rfl) ?_
  refine L.val rfl rfl (R.mv rfl) ?_
  refine L.callF rfl rfl rfl go47 (odelS_ok m (delK (putK (putK (putK ([] : List (Pr Int)) 5 [(.string (str [102, 105, 118, 101]))]) 2 [(.string (str [116, 119, 111]))]) 5 [(.string (str [86]))]) 2) _ 2 _ D (by decide)) ?_
  rintro _ w8 ⟨rfl, S8, g8, D⟩
  have hE8 := E.size
  replace E := E.fresh g8.1 hS
  replace hS := g8.fresh hS hE8
  refine L.be 65 rfl (show _ = Value.bool false from rfl) ?_
  refine L.val rfl rfl (R.not rfl) ?_
  first | refine L.val rfl rfl (R.pickT rfl rfl) ?_ | refine L.val rfl rfl (R.pickF rfl rfl) ?_
  refine L.val rfl rfl (R.as rfl) ?_
  refine L.nil ?_
  refine N.seq ?_
  refine G.ret1 rfl rfl ?_
  exact ⟨rfl, E⟩

end Go.Proofs.Ythpolibakkmmeaa
/-
  Orders, by definition: what the document's Put, Get, Delete and Floor come to, step by step.
-/
set_option linter.unusedVariables false
namespace Brv
open Go
section
variable {κ : Type} [Key κ]
def hadd (ps : List (Pr κ)) (k : κ) : Nat := if hasK ps k then 1 else 0
theorem hadd_yes {ps : List (Pr κ)} {k : κ} (h : hasK ps k = true) : hadd ps k = 1 := if_pos h
theorem hadd_no {ps : List (Pr κ)} {k : κ} (h : hasK ps k = false) : hadd ps k = 0 := if_neg (by simp [h])
theorem hadd_le (ps : List (Pr κ)) (k : κ) : hadd ps k ≤ 1 := by unfold hadd; split <;> omega
/-- What Put has written behind i pairs. -/
def putO (ps : List (Pr κ)) (k : κ) (v : List Value) (i : Nat) : List (Pr κ) := if i ≤ low ps k then ps.take i else ps.take (low ps k) ++ (k, v) :: (ps.take i).drop (low ps k + hadd ps k)
theorem putO_zero {ps : List (Pr κ)} {k : κ} {v : List Value} : putO ps k v 0 = [] := by simp [putO]
theorem putO_lt {ps : List (Pr κ)} {k : κ} {v : List Value} {i : Nat} {p : Pr κ} (hp : ps[i]? = some p) (h : i < low ps k) : putO ps k v (i + 1) = putO ps k v i ++ [p] := by
  unfold putO
  rw [if_pos (by omega), if_pos (by omega), List.take_add_one, hp]; rfl
theorem putO_has {ps : List (Pr κ)} {k : κ} {v : List Value} {i : Nat} (hi : i < ps.length) (h : i = low ps k) (hk : hasK ps k = true) : putO ps k v (i + 1) = putO ps k v i ++ [(k, v)] := by
  unfold putO
  rw [if_neg (by omega), if_pos (by omega), hadd_yes hk, ← h, List.drop_of_length_le (by rw [List.length_take]; omega)]
theorem putO_new {ps : List (Pr κ)} {k : κ} {v : List Value} {i : Nat} {p : Pr κ} (hp : ps[i]? = some p) (h : i = low ps k) (hk : hasK ps k = false) : putO ps k v (i + 1) = putO ps k v i ++ [(k, v)] ++ [p] := by
  have hi : i < ps.length := (List.getElem?_eq_some_iff.1 hp).1
  unfold putO
  rw [if_neg (by omega), if_pos (by omega), hadd_no hk, ← h, Nat.add_zero, List.take_add_one, hp, List.drop_append_of_le_length (by rw [List.length_take]; omega), List.drop_of_length_le (by rw [List.length_take]; omega)]
  simp
theorem putO_gt {ps : List (Pr κ)} {k : κ} {v : List Value} {i : Nat} {p : Pr κ} (hp : ps[i]? = some p) (h : low ps k < i) : putO ps k v (i + 1) = putO ps k v i ++ [p] := by
  have hi : i < ps.length := (List.getElem?_eq_some_iff.1 hp).1
  unfold putO
  rw [if_neg (by omega), if_neg (by omega), List.take_add_one, hp, List.drop_append_of_le_length (by rw [List.length_take]; have := hadd_le ps k; omega)]
  simp
theorem putO_end {ps : List (Pr κ)} {k : κ} {v : List Value} : (low ps k < ps.length → putO ps k v ps.length = putK ps k v) ∧ (¬ low ps k < ps.length → putO ps k v ps.length ++ [(k, v)] = putK ps k v ∧ hasK ps k = false) := by
  have hle := low_le ps k
  constructor
  · intro h
    unfold putO
    rw [if_neg (by omega), List.take_length]
    cases hk : hasK ps k with
    | true => rw [putK_yes hk, List.set_eq_take_append_cons_drop, if_pos h, hadd_yes hk]
    | false => rw [putK_no hk, hadd_no hk]; rfl
  · intro h
    have hk : hasK ps k = false := hasK_end (by omega)
    refine ⟨?_, hk⟩
    unfold putO
    rw [if_pos (by omega), putK_no hk, List.take_length, List.take_of_length_le (by omega), List.drop_of_length_le (by omega)]
/-- Where the i-th key stands. -/
theorem low_cases {ps : List (Pr κ)} (hs : Sorted ps) {k : κ} {i : Nat} {p : Pr κ} (hp : ps[i]? = some p) :
    (i < low ps k ∧ Key.lt p.1 k = true) ∨ (i = low ps k ∧ Key.lt p.1 k = false ∧ hasK ps k = !Key.lt k p.1) ∨ (low ps k < i ∧ Key.lt k p.1 = true) := by
  have hi : i < ps.length := (List.getElem?_eq_some_iff.1 hp).1
  rcases Nat.lt_trichotomy i (low ps k) with h | h | h
  · exact .inl ⟨h, low_lt h hp⟩
  · refine .inr (.inl ⟨h, low_ge hs (by omega) hp, ?_⟩)
    unfold hasK
    rw [← h, hp]
  · refine .inr (.inr ⟨h, ?_⟩)
    have hl : low ps k < ps.length := by omega
    have h1 := low_ge (k := k) hs (Nat.le_refl _) (List.getElem?_eq_getElem hl)
    have h2 := (List.pairwise_iff_getElem.1 hs) _ _ hl hi h
    rw [(List.getElem?_eq_some_iff.1 hp).2] at h2
    cases hc : Key.lt k p.1 with
    | true => rfl
    | false =>
      cases hc2 : Key.lt p.1 k with
      | true => rw [Key.trans _ _ _ h2 hc2] at h1; cases h1
      | false => rw [← Key.tri _ _ hc hc2] at h2; rw [h2] at h1; cases h1
end
theorem low_casesI {ps : List (Pr Int)} (hs : Sorted ps) {k : Int} {i : Nat} {p : Pr Int} (hp : ps[i]? = some p) :
    (i < low ps k ∧ p.1 < k) ∨ (i = low ps k ∧ p.1 = k ∧ hasK ps k = true) ∨ (i = low ps k ∧ k < p.1 ∧ hasK ps k = false) ∨ (low ps k < i ∧ k < p.1) := by
  have e : ∀ a b : Int, Key.lt a b = decide (a < b) := fun _ _ => rfl
  rcases low_cases hs (k := k) hp with ⟨h1, h2⟩ | ⟨h1, h2, h3⟩ | ⟨h1, h2⟩
  · exact .inl ⟨h1, by rw [e] at h2; simpa using h2⟩
  · rw [e] at h2 h3
    simp only [decide_eq_false_iff_not] at h2
    by_cases h4 : k < p.1
    · exact .inr (.inr (.inl ⟨h1, h4, by rw [h3]; simp; exact h4⟩))
    · exact .inr (.inl ⟨h1, by omega, by rw [h3]; simp; omega⟩)
  · exact .inr (.inr (.inr ⟨h1, by rw [e] at h2; simpa using h2⟩))
def neK (k : Int) (p : Pr Int) : Bool := decide (p.1 ≠ k)
theorem delK_filter {ps : List (Pr Int)} (hs : Sorted ps) (k : Int) : delK ps k = ps.filter (neK k) := by
  cases hk : hasK ps k with
  | false =>
    rw [delK_no hk]
    refine (List.filter_eq_self.2 fun p hp => ?_).symm
    simp only [neK, decide_eq_true_eq]
    intro e
    have := (hasK_exists hs).2 ⟨p, hp, e⟩
    rw [hk] at this; cases this
  | true =>
    have hlt := hasK_lt hk
    obtain ⟨u, hu⟩ := (hasK_iff hs).1 hk
    have he : ps[low ps k] = (k, u) := (List.getElem?_eq_some_iff.1 hu).2
    have e : ps = ps.take (low ps k) ++ ps[low ps k] :: ps.drop (low ps k + 1) := by rw [← List.drop_eq_getElem_cons hlt, List.take_append_drop]
    have h1 : (ps.take (low ps k)).filter (neK k) = ps.take (low ps k) := List.filter_eq_self.2 fun p hp => by
      obtain ⟨i, hi, he⟩ := List.mem_iff_getElem.1 hp
      rw [List.length_take] at hi
      rw [List.getElem_take] at he
      have hp' : ps[i]? = some p := by rw [List.getElem?_eq_getElem (by omega), he]
      simp only [neK, decide_eq_true_eq]
      intro e
      have := low_at hs hp'
      rw [e] at this; omega
    have h2 : (ps.drop (low ps k + 1)).filter (neK k) = ps.drop (low ps k + 1) := List.filter_eq_self.2 fun p hp => by
      obtain ⟨i, hi, he⟩ := List.mem_iff_getElem.1 hp
      rw [List.length_drop] at hi
      rw [List.getElem_drop] at he
      have hp' : ps[low ps k + 1 + i]? = some p := by rw [List.getElem?_eq_getElem (by omega), he]
      simp only [neK, decide_eq_true_eq]
      intro e
      have := low_at hs hp'
      rw [e] at this; omega
    rw [delK_yes hk]
    conv => rhs; rw [e, List.filter_append, List.filter_cons, h1, h2, he]
    simp [neK]
theorem filter_succ {ps : List (Pr Int)} {k : Int} {i : Nat} {p : Pr Int} (hp : ps[i]? = some p) : (ps.take (i + 1)).filter (neK k) = (ps.take i).filter (neK k) ++ (if p.1 = k then [] else [p]) := by
  rw [List.take_add_one, hp, List.filter_append]
  by_cases h : p.1 = k <;> simp [neK, h]
/-- The last of i pairs whose key isn't above k. -/
def flO (ps : List (Pr Int)) (k : Int) (i : Nat) : Option (Pr Int) := if min i (low ps k + hadd ps k) = 0 then none else ps[min i (low ps k + hadd ps k) - 1]?
theorem flO_zero {ps : List (Pr Int)} {k : Int} : flO ps k 0 = none := by simp [flO]
theorem flO_le {ps : List (Pr Int)} (hs : Sorted ps) {k : Int} {i : Nat} {p : Pr Int} (hp : ps[i]? = some p) (h : p.1 ≤ k) : flO ps k (i + 1) = some p := by
  unfold flO
  have : min (i + 1) (low ps k + hadd ps k) = i + 1 := by
    rcases low_casesI hs (k := k) hp with ⟨h1, _⟩ | ⟨h1, _, h3⟩ | ⟨h1, h2, _⟩ | ⟨_, h2⟩
    · omega
    · rw [hadd_yes h3]; omega
    · omega
    · omega
  rw [this, if_neg (by omega), Nat.add_sub_cancel, hp]
theorem flO_gt {ps : List (Pr Int)} (hs : Sorted ps) {k : Int} {i : Nat} {p : Pr Int} (hp : ps[i]? = some p) (h : ¬ p.1 ≤ k) : flO ps k (i + 1) = flO ps k i := by
  unfold flO
  have : min (i + 1) (low ps k + hadd ps k) = min i (low ps k + hadd ps k) := by
    rcases low_casesI hs (k := k) hp with ⟨h1, h2⟩ | ⟨h1, h2, h3⟩ | ⟨h1, h2, h3⟩ | ⟨h1, h2⟩
    · omega
    · omega
    · rw [hadd_no h3]; omega
    · have := hadd_le ps k; omega
  rw [this]
theorem flO_end {ps : List (Pr Int)} {k : Int} : flO ps k ps.length = floorK ps k := by
  have hle := low_le ps k
  unfold flO floorK
  cases hk : hasK ps k with
  | true => have := hasK_lt hk; rw [hadd_yes hk, if_pos rfl, Nat.min_eq_right (by omega), if_neg (by omega), Nat.add_sub_cancel]
  | false =>
    rw [hadd_no hk, if_neg (by simp : ¬ (false = true)), Nat.add_zero, Nat.min_eq_right hle]
end Brv
/-
  The laws of order.
-/
set_option linter.unusedVariables false
set_option linter.unusedSimpArgs false
set_option maxRecDepth 4000
namespace Go.Proofs.Ythpolibakkmmeaa
open Go Brv
def OkStr (ps : List (Pr Int)) : Prop := ∀ p ∈ ps, ∃ s, p.2 = [.string (str s)]
structure PutSt where
  i : Nat
  nn : Nat
  oa : Option Addr
  oc : Nat
  M : List Nat
  d : Bool
  b : Bool
theorem putO_len (ps : List (Pr Int)) (k : Int) (v : List Value) (i : Nat) : (putO ps k v i).length ≤ i + 1 := by
  unfold putO
  split
  · rw [List.length_take]; omega
  · rw [List.length_append, List.length_cons, List.length_drop, List.length_take, List.length_take]; omega

theorem rput_ok (a : Option Addr) (n c : Nat) (ps : List (Pr Int)) (Mr : List Nat) (k : Int) (v : List UInt8) (w : World) (hr : Own w 77 (1 + 1) a n c (pcells ps) Mr) (hn : n = ps.length) (hok : OkP 1 ps) (hst : OkStr ps) (hs : Sorted ps) (hnl : n ≤ 1000) : Meets Try.prog 43 [.slice a n c, .int .i64 k, .string (str v)] w (fun v' w' => ∃ a' c' M', v' = .tuple #[.slice a' (putK ps k [.string (str v)]).length c', .bool (!hasK ps k)] ∧ Own w' 77 (1 + 1) a' (putK ps k [.string (str v)]).length c' (pcells (putK ps k [.string (str v)])) M' ∧ Ext [] w w' ∧ ∀ g ∈ M', w.heap.size ≤ g) := by
  refine Meets.enter Try.func43 rfl 52 rfl (Nat.le_of_ble_eq_true rfl) ?_
  have E := Ext.refl [] w
  refine G.seq ?_
  refine G.region ?_
  refine L.val rfl rfl (R.as rfl) ?_
  refine L.val rfl rfl (R.as rfl) ?_
  refine L.nil ?_
  refine N.seq ?_
  refine G.seq ?_
  refine G.region ?_
  refine L.val rfl rfl (R.as rfl) ?_
  refine L.nil ?_
  refine N.seq ?_
  refine G.seq ?_
  refine G.region ?_
  refine L.val rfl rfl (R.as rfl) ?_
  refine L.nil ?_
  refine N.seq ?_
  refine G.seq ?_
  refine G.region ?_
  refine L.val rfl rfl (R.as rfl) ?_
  refine L.nil ?_
  refine N.seq ?_
  refine G.seq ?_
  refine G.seq ?_
  refine G.region ?_
  refine L.val rfl rfl (R.mv rfl) ?_
  refine L.val rfl rfl (R.lenS rfl) ?_
  refine L.val rfl rfl (R.mv rfl) ?_
  refine L.nil ?_
  refine N.seq ?_
  refine G.block ?_
  refine G.loop (X := PutSt) (fun s => [(0, .slice a n c), (1, .int .i64 k), (2, .string (str v)), (8, .slice s.oa s.nn s.oc), (9, .bool s.d), (10, .bool s.b), (13, .slice a n c), (14, .int .i64 (n : Int)), (15, .int .i64 (s.i : Int))]) (fun s w' => s.i ≤ n ∧ s.nn = (putO ps k [.string (str v)] s.i).length ∧ Own w' 77 (1 + 1) s.oa s.nn s.oc (pcells (putO ps k [.string (str v)] s.i)) s.M ∧ (∀ g ∈ s.M, w.heap.size ≤ g) ∧ s.d = decide (low ps k < s.i) ∧ (s.b = !(hasK ps k && decide (low ps k < s.i))) ∧ Ext [] w w') (fun s => n - s.i) (⟨0, 0, none, 0, [], false, true⟩) (Sub.cons rfl (Sub.cons rfl (Sub.cons rfl (Sub.cons rfl (Sub.cons rfl (Sub.cons rfl (Sub.cons rfl (Sub.cons rfl (Sub.cons rfl (Sub.nil _)))))))))) ⟨Nat.zero_le _, by show 0 = (putO ps k _ 0).length; rw [putO_zero]; rfl, by show Own _ _ _ _ _ _ (pcells (putO ps k _ 0)) _; rw [putO_zero]; exact Own.nil _ _ _, (by intro g hg; cases hg), by simp, by simp, E⟩ ?_
  rintro ⟨i, nn, oa, oc, M, d, b⟩ w1 ⟨hi, hnn, o, hM, hd, hb, E⟩
  dsimp only at hi hnn o hM hd hb
  refine G.sub [(0, .slice a n c), (1, .int .i64 k), (2, .string (str v)), (8, .slice oa nn oc), (9, .bool d), (10, .bool b), (13, .slice a n c), (14, .int .i64 (n : Int)), (15, .int .i64 (i : Int))] (Sub.cons rfl (Sub.cons rfl (Sub.cons rfl (Sub.cons rfl (Sub.cons rfl (Sub.cons rfl (Sub.cons rfl (Sub.cons rfl (Sub.cons rfl (Sub.nil _)))))))))) ?_
  have hlow := low_le ps k
  have hnl2 : nn ≤ i + 1 := by have h9 := putO_len ps k [.string (str v)] i; omega
  refine G.seq ?_
  refine G.region ?_
  refine L.val rfl rfl (R.lss rfl rfl) ?_
  refine L.nil ?_
  refine N.seq ?_
  refine G.seq ?_
  refine G.condP rfl (fun h0 => ?_) (fun h0 => ?_)
  · obtain ⟨p, hp⟩ : ∃ p, ps[i]? = some p := ⟨_, List.getElem?_eq_getElem (by omega)⟩
    obtain ⟨ss, hss⟩ := hst p (List.mem_of_getElem? hp)
    obtain ⟨q, hq, hcl⟩ := (Tab.pairs (hr.ext0 E).cells hn hok).at (by decide) i (by rw [List.length_map]; omega)
    have he : (ps.map pcell)[i]'(by rw [List.length_map]; omega) = pcell p := by rw [List.getElem_map]; exact congrArg pcell (List.getElem?_eq_some_iff.1 hp).2
    rw [he] at hcl
    obtain ⟨kk, vv⟩ := p
    obtain rfl : vv = [.string (str ss)] := hss
    replace hcl : Cells _ _ [.int .i64 kk, .string (str ss)] := hcl
    have hlc := low_casesI hs (k := k) hp
    have hla : (i < low ps k ∧ kk < k) ∨ (i = low ps k ∧ k ≤ kk) ∨ (low ps k < i ∧ k < kk) := by rcases hlc with ⟨h1, h2⟩ | ⟨h1, h2, _⟩ | ⟨h1, h2, _⟩ | ⟨h1, h2⟩ <;> dsimp only at h2 <;> omega
    have hyes : i = low ps k → kk = k → hasK ps k = true := fun g1 g2 => by rcases hlc with ⟨h1, h2⟩ | ⟨h1, h2, h3⟩ | ⟨h1, h2, _⟩ | ⟨h1, h2⟩ <;> dsimp only at h2 <;> first | exact h3 | omega
    have hno : i = low ps k → kk ≠ k → hasK ps k = false := fun g1 g2 => by rcases hlc with ⟨h1, h2⟩ | ⟨h1, h2, _⟩ | ⟨h1, h2, h3⟩ | ⟨h1, h2⟩ <;> dsimp only at h2 <;> first | exact h3 | omega
    refine G.skip ?_
    refine N.seq ?_
    refine G.seq ?_
    refine G.block ?_
    refine G.seq ?_
    refine G.region ?_
    refine L.val rfl rfl (R.idx rfl rfl (by omega) (by omega) q hq) ?_
    refine L.val rfl rfl (R.ldN (vs := [.int .i64 kk, .string (str ss)]) rfl hcl rfl) ?_
    refine L.do rfl rfl (R.alloc) ?_
    rintro _ w2 ⟨b12, rfl, hb2, hs2, e2, B12⟩
    replace B12 : Blk w2 b12 #[.int .i64 0, .string (str [])] 77 (0, 0) := B12
    have hEa2 := E.size
    have hlo := o.lt
    replace E := E.trans0 e2
    replace o := o.ext0 e2
    refine L.set rfl (R.stN rfl rfl B12 rfl (by show 0 + 2 ≤ 2; decide) (by intro u hu; simp at hu; rcases hu with rfl | rfl <;> rfl)) ?_
    rintro w3 ⟨e3, hs3, B12⟩
    replace B12 : Blk w3 b12 #[.int .i64 kk, .string (str ss)] 77 (0, 0) := B12
    replace E := E.trans e3 (M := []) (by simp) (by intro x hx; rw [List.mem_singleton.1 hx]; exact .inr (by omega))
    replace o := o.ext e3 (by intro g hg h; have := hlo g hg; rw [List.mem_singleton.1 h] at this; omega)
    have hnb : b12 ∉ M := fun h => by have := hlo _ h; omega
    refine L.nil ?_
    refine N.seq ?_
    refine G.seq ?_
    refine G.seq ?_
    refine G.region ?_
    refine L.val rfl rfl (R.fld rfl) ?_
    refine L.val rfl rfl (R.ldB (v := .int .i64 kk) rfl B12 rfl) ?_
    refine L.val rfl rfl (R.mv rfl) ?_
    refine L.val rfl rfl (R.geq rfl rfl) ?_
    refine L.val rfl rfl (R.mv rfl) ?_
    refine L.caseP 23 rfl (fun hg7_4 => ?_) (fun hg7_4 => ?_)
    · refine L.val rfl rfl (R.mv rfl) ?_
      refine L.val rfl rfl (R.not rfl) ?_
      first | refine L.val rfl rfl (R.pickT rfl rfl) ?_ | refine L.val rfl rfl (R.pickF rfl rfl) ?_
      refine L.nil ?_
      refine N.seq ?_
      refine G.condB rfl (fun h1 => ?_) (fun h1 => ?_)
      · have hnl3 : ¬ low ps k < i := by intro h9; rw [hd, decide_eq_true h9] at h1; cases h1
        have hil : i = low ps k := by omega
        refine G.seq ?_
        refine G.region ?_
        refine L.val rfl rfl (R.mv rfl) ?_
        refine L.val rfl rfl (R.mv rfl) ?_
        refine L.val rfl rfl (R.mv rfl) ?_
        refine L.val rfl rfl (R.build (cs := #[.int .i64 k, .string (str v)]) rfl rfl) ?_
        refine L.do rfl rfl (R.buildA rfl rfl rfl rfl rfl) ?_
        rintro _ w4 ⟨b31, rfl, hb4, hs4, e4, B31⟩
        replace B31 : Blk w4 b31 [.int .i64 k, .string (str v)].toArray 77 (0, 0) := B31
        have hlq := o.lt
        replace E := E.trans0 e4
        have hsz4 := e4.size
        replace o := o.ext0 e4
        replace B12 := B12.ext0 e4
        refine L.do rfl rfl (R.app rfl rfl o (Cells.of_blk B31 0 [.int .i64 k, .string (str v)] (fun j v hj => by simpa using hj)) rfl (by intro u hu; simp at hu; rcases hu with rfl | rfl <;> rfl) (by simp [maxLen]; omega) (by omega)) ?_
        rintro _ w5 ⟨oa, oc, M2, rfl, e5, hM2, o2⟩
        replace B12 := B12.ext e5 hnb
        replace hnb : b12 ∉ M2 := fun h => (hM2 _ h).elim hnb (fun h => by omega)
        have hE5 := E.size
        have hsy5 := e5.size
        replace E := E.trans e5 (M := []) (by simp) (fun g hg => .inr (hM g hg))
        replace hM : ∀ g ∈ M2, w.heap.size ≤ g := fun g hg => (hM2 g hg).elim (hM g) (fun h => by omega)
        replace o := o2
        rw [← show pcells [((k, [.string (str v)]) : Pr Int)] = [.int .i64 k, .string (str v)] from rfl, ← pcells_append] at o
        clear o2 hM2
        refine L.val rfl rfl (R.as rfl) ?_
        refine L.nil ?_
        refine N.seq ?_
        refine G.region ?_
        refine L.val rfl rfl (R.as rfl) ?_
        refine L.nil ?_
        refine N.seq ?_
        refine G.seq ?_
        refine G.seq ?_
        refine G.region ?_
        refine L.val rfl rfl (R.fld rfl) ?_
        refine L.val rfl rfl (R.ldB (v := .int .i64 kk) rfl B12 rfl) ?_
        refine L.val rfl rfl (R.mv rfl) ?_
        refine L.val rfl rfl (R.eqI rfl rfl) ?_
        refine L.nil ?_
        refine N.seq ?_
        refine G.condP rfl (fun h2 => ?_) (fun h2 => ?_)
        · have hhas := hyes hil h2
          refine G.seq ?_
          refine G.region ?_
          refine L.val rfl rfl (R.as rfl) ?_
          refine L.nil ?_
          refine N.seq ?_
          refine G.exit _ rfl ?_
          refine N.seq ?_
          refine G.region ?_
          refine L.val rfl rfl (R.add rfl rfl (by omega)) ?_
          refine L.val rfl rfl (R.mv rfl) ?_
          refine L.nil ?_
          first
            | exact N.again (X := PutSt) ⟨i + 1, nn + 1, oa, oc, _, true, false⟩ (by show n - (i + 1) < n - i; omega) (Sub.cons rfl (Sub.cons rfl (Sub.cons rfl (Sub.cons rfl (Sub.cons rfl (Sub.cons rfl (Sub.cons rfl (Sub.cons rfl (Sub.cons rfl (Sub.nil _)))))))))) ⟨by show i + 1 ≤ n; omega, by show _ = (putO ps k [.string (str v)] (i + 1)).length; rw [putO_has (by omega) hil hhas, List.length_append, List.length_singleton, hnn], by show Own _ _ _ _ _ _ (pcells (putO ps k [.string (str v)] (i + 1))) _; rw [putO_has (by omega) hil hhas]; exact o, hM, by show _ = decide (low ps k < i + 1); rw [decide_eq_true (show low ps k < i + 1 by omega)], by show _ = !(hasK ps k && decide (low ps k < i + 1)); rw [decide_eq_true (show low ps k < i + 1 by omega)]; rw [hhas]; rfl, E⟩
            | exact N.again (X := PutSt) ⟨i + 1, nn + 1 + 1, oa, oc, _, true, b⟩ (by show n - (i + 1) < n - i; omega) (Sub.cons rfl (Sub.cons rfl (Sub.cons rfl (Sub.cons rfl (Sub.cons rfl (Sub.cons rfl (Sub.cons rfl (Sub.cons rfl (Sub.cons rfl (Sub.nil _)))))))))) ⟨by show i + 1 ≤ n; omega, by show _ = (putO ps k [.string (str v)] (i + 1)).length; rw [putO_new hp hil hhas, List.length_append, List.length_append, List.length_singleton, List.length_singleton, hnn], by show Own _ _ _ _ _ _ (pcells (putO ps k [.string (str v)] (i + 1))) _; rw [putO_new hp hil hhas]; exact o, hM, by show _ = decide (low ps k < i + 1); rw [decide_eq_true (show low ps k < i + 1 by omega)], by show _ = !(hasK ps k && decide (low ps k < i + 1)); rw [hb, hhas]; rfl, E⟩
            | exact N.again (X := PutSt) ⟨i + 1, nn + 1, oa, oc, _, d, b⟩ (by show n - (i + 1) < n - i; omega) (Sub.cons rfl (Sub.cons rfl (Sub.cons rfl (Sub.cons rfl (Sub.cons rfl (Sub.cons rfl (Sub.cons rfl (Sub.cons rfl (Sub.cons rfl (Sub.nil _)))))))))) ⟨by show i + 1 ≤ n; omega, by show _ = (putO ps k [.string (str v)] (i + 1)).length; rw [putO_gt hp hil, List.length_append, List.length_singleton, hnn], by show Own _ _ _ _ _ _ (pcells (putO ps k [.string (str v)] (i + 1))) _; rw [putO_gt hp hil]; exact o, hM, by show _ = decide (low ps k < i + 1); rw [decide_eq_true (show low ps k < i + 1 by omega)]; rw [hd, decide_eq_true hil], by show _ = !(hasK ps k && decide (low ps k < i + 1)); rw [decide_eq_true (show low ps k < i + 1 by omega)]; rw [hb, decide_eq_true hil], E⟩
            | exact N.again (X := PutSt) ⟨i + 1, nn + 1, oa, oc, _, d, b⟩ (by show n - (i + 1) < n - i; omega) (Sub.cons rfl (Sub.cons rfl (Sub.cons rfl (Sub.cons rfl (Sub.cons rfl (Sub.cons rfl (Sub.cons rfl (Sub.cons rfl (Sub.cons rfl (Sub.nil _)))))))))) ⟨by show i + 1 ≤ n; omega, by show _ = (putO ps k [.string (str v)] (i + 1)).length; rw [putO_lt hp hil, List.length_append, List.length_singleton, hnn], by show Own _ _ _ _ _ _ (pcells (putO ps k [.string (str v)] (i + 1))) _; rw [putO_lt hp hil]; exact o, hM, by show _ = decide (low ps k < i + 1); rw [hd, decide_eq_false (show ¬ low ps k < i by omega), decide_eq_false (show ¬ low ps k < i + 1 by omega)], by show _ = !(hasK ps k && decide (low ps k < i + 1)); rw [hb, decide_eq_false (show ¬ low ps k < i by omega), decide_eq_false (show ¬ low ps k < i + 1 by omega)], E⟩
        · have hhas := hno hil h2
          refine G.skip ?_
          refine N.seq ?_
          refine G.region ?_
          refine L.val rfl rfl (R.mv rfl) ?_
          refine L.val rfl rfl (R.ldBN rfl B12 rfl) ?_
          refine L.do rfl rfl (R.buildA rfl rfl rfl rfl rfl) ?_
          rintro _ w6 ⟨b39, rfl, hb6, hs6, e6, B39⟩
          replace B39 : Blk w6 b39 [.int .i64 kk, .string (str ss)].toArray 77 (0, 0) := B39
          have hlq := o.lt
          replace E := E.trans0 e6
          have hsz6 := e6.size
          replace o := o.ext0 e6
          replace B12 := B12.ext0 e6
          refine L.do rfl rfl (R.app rfl rfl o (Cells.of_blk B39 0 [.int .i64 kk, .string (str ss)] (fun j v hj => by simpa using hj)) rfl (by intro u hu; simp at hu; rcases hu with rfl | rfl <;> rfl) (by simp [maxLen]; omega) (by omega)) ?_
          rintro _ w7 ⟨oa, oc, M2, rfl, e7, hM2, o2⟩
          replace B12 := B12.ext e7 hnb
          replace hnb : b12 ∉ M2 := fun h => (hM2 _ h).elim hnb (fun h => by omega)
          have hE7 := E.size
          have hsy7 := e7.size
          replace E := E.trans e7 (M := []) (by simp) (fun g hg => .inr (hM g hg))
          replace hM : ∀ g ∈ M2, w.heap.size ≤ g := fun g hg => (hM2 g hg).elim (hM g) (fun h => by omega)
          replace o := o2
          rw [← show pcells [((kk, [.string (str ss)]) : Pr Int)] = [.int .i64 kk, .string (str ss)] from rfl, ← pcells_append] at o
          clear o2 hM2
          refine L.val rfl rfl (R.as rfl) ?_
          refine L.nil ?_
          refine N.block ?_
          refine N.seq ?_
          refine G.region ?_
          refine L.val rfl rfl (R.add rfl rfl (by omega)) ?_
          refine L.val rfl rfl (R.mv rfl) ?_
          refine L.nil ?_
          first
            | exact N.again (X := PutSt) ⟨i + 1, nn + 1, oa, oc, _, true, false⟩ (by show n - (i + 1) < n - i; omega) (Sub.cons rfl (Sub.cons rfl (Sub.cons rfl (Sub.cons rfl (Sub.cons rfl (Sub.cons rfl (Sub.cons rfl (Sub.cons rfl (Sub.cons rfl (Sub.nil _)))))))))) ⟨by show i + 1 ≤ n; omega, by show _ = (putO ps k [.string (str v)] (i + 1)).length; rw [putO_has (by omega) hil hhas, List.length_append, List.length_singleton, hnn], by show Own _ _ _ _ _ _ (pcells (putO ps k [.string (str v)] (i + 1))) _; rw [putO_has (by omega) hil hhas]; exact o, hM, by show _ = decide (low ps k < i + 1); rw [decide_eq_true (show low ps k < i + 1 by omega)], by show _ = !(hasK ps k && decide (low ps k < i + 1)); rw [decide_eq_true (show low ps k < i + 1 by omega)]; rw [hhas]; rfl, E⟩
            | exact N.again (X := PutSt) ⟨i + 1, nn + 1 + 1, oa, oc, _, true, b⟩ (by show n - (i + 1) < n - i; omega) (Sub.cons rfl (Sub.cons rfl (Sub.cons rfl (Sub.cons rfl (Sub.cons rfl (Sub.cons rfl (Sub.cons rfl (Sub.cons rfl (Sub.cons rfl (Sub.nil _)))))))))) ⟨by show i + 1 ≤ n; omega, by show _ = (putO ps k [.string (str v)] (i + 1)).length; rw [putO_new hp hil hhas, List.length_append, List.length_append, List.length_singleton, List.length_singleton, hnn], by show Own _ _ _ _ _ _ (pcells (putO ps k [.string (str v)] (i + 1))) _; rw [putO_new hp hil hhas]; exact o, hM, by show _ = decide (low ps k < i + 1); rw [decide_eq_true (show low ps k < i + 1 by omega)], by show _ = !(hasK ps k && decide (low ps k < i + 1)); rw [hb, hhas]; rfl, E⟩
            | exact N.again (X := PutSt) ⟨i + 1, nn + 1, oa, oc, _, d, b⟩ (by show n - (i + 1) < n - i; omega) (Sub.cons rfl (Sub.cons rfl (Sub.cons rfl (Sub.cons rfl (Sub.cons rfl (Sub.cons rfl (Sub.cons rfl (Sub.cons rfl (Sub.cons rfl (Sub.nil _)))))))))) ⟨by show i + 1 ≤ n; omega, by show _ = (putO ps k [.string (str v)] (i + 1)).length; rw [putO_gt hp hil, List.length_append, List.length_singleton, hnn], by show Own _ _ _ _ _ _ (pcells (putO ps k [.string (str v)] (i + 1))) _; rw [putO_gt hp hil]; exact o, hM, by show _ = decide (low ps k < i + 1); rw [decide_eq_true (show low ps k < i + 1 by omega)]; rw [hd, decide_eq_true hil], by show _ = !(hasK ps k && decide (low ps k < i + 1)); rw [decide_eq_true (show low ps k < i + 1 by omega)]; rw [hb, decide_eq_true hil], E⟩
            | exact N.again (X := PutSt) ⟨i + 1, nn + 1, oa, oc, _, d, b⟩ (by show n - (i + 1) < n - i; omega) (Sub.cons rfl (Sub.cons rfl (Sub.cons rfl (Sub.cons rfl (Sub.cons rfl (Sub.cons rfl (Sub.cons rfl (Sub.cons rfl (Sub.cons rfl (Sub.nil _)))))))))) ⟨by show i + 1 ≤ n; omega, by show _ = (putO ps k [.string (str v)] (i + 1)).length; rw [putO_lt hp hil, List.length_append, List.length_singleton, hnn], by show Own _ _ _ _ _ _ (pcells (putO ps k [.string (str v)] (i + 1))) _; rw [putO_lt hp hil]; exact o, hM, by show _ = decide (low ps k < i + 1); rw [hd, decide_eq_false (show ¬ low ps k < i by omega), decide_eq_false (show ¬ low ps k < i + 1 by omega)], by show _ = !(hasK ps k && decide (low ps k < i + 1)); rw [hb, decide_eq_false (show ¬ low ps k < i by omega), decide_eq_false (show ¬ low ps k < i + 1 by omega)], E⟩
      · have hil : low ps k < i := by refine Classical.byContradiction fun h9 => ?_; rw [hd, decide_eq_false h9] at h1; cases h1
        refine G.skip ?_
        refine N.seq ?_
        refine G.seq ?_
        refine G.seq ?_
        refine G.region ?_
        refine L.val rfl rfl (R.fld rfl) ?_
        refine L.val rfl rfl (R.ldB (v := .int .i64 kk) rfl B12 rfl) ?_
        refine L.val rfl rfl (R.mv rfl) ?_
        refine L.val rfl rfl (R.eqI rfl rfl) ?_
        refine L.nil ?_
        refine N.seq ?_
        refine G.condP rfl (fun h2 => ?_) (fun h2 => ?_)
        · exfalso; omega
        · refine G.skip ?_
          refine N.seq ?_
          refine G.region ?_
          refine L.val rfl rfl (R.mv rfl) ?_
          refine L.val rfl rfl (R.ldBN rfl B12 rfl) ?_
          refine L.do rfl rfl (R.buildA rfl rfl rfl rfl rfl) ?_
          rintro _ w6 ⟨b39, rfl, hb6, hs6, e6, B39⟩
          replace B39 : Blk w6 b39 [.int .i64 kk, .string (str ss)].toArray 77 (0, 0) := B39
          have hlq := o.lt
          replace E := E.trans0 e6
          have hsz6 := e6.size
          replace o := o.ext0 e6
          replace B12 := B12.ext0 e6
          refine L.do rfl rfl (R.app rfl rfl o (Cells.of_blk B39 0 [.int .i64 kk, .string (str ss)] (fun j v hj => by simpa using hj)) rfl (by intro u hu; simp at hu; rcases hu with rfl | rfl <;> rfl) (by simp [maxLen]; omega) (by omega)) ?_
          rintro _ w7 ⟨oa, oc, M2, rfl, e7, hM2, o2⟩
          replace B12 := B12.ext e7 hnb
          replace hnb : b12 ∉ M2 := fun h => (hM2 _ h).elim hnb (fun h => by omega)
          have hE7 := E.size
          have hsy7 := e7.size
          replace E := E.trans e7 (M := []) (by simp) (fun g hg => .inr (hM g hg))
          replace hM : ∀ g ∈ M2, w.heap.size ≤ g := fun g hg => (hM2 g hg).elim (hM g) (fun h => by omega)
          replace o := o2
          rw [← show pcells [((kk, [.string (str ss)]) : Pr Int)] = [.int .i64 kk, .string (str ss)] from rfl, ← pcells_append] at o
          clear o2 hM2
          refine L.val rfl rfl (R.as rfl) ?_
          refine L.nil ?_
          refine N.block ?_
          refine N.seq ?_
          refine G.region ?_
          refine L.val rfl rfl (R.add rfl rfl (by omega)) ?_
          refine L.val rfl rfl (R.mv rfl) ?_
          refine L.nil ?_
          first
            | exact N.again (X := PutSt) ⟨i + 1, nn + 1, oa, oc, _, true, false⟩ (by show n - (i + 1) < n - i; omega) (Sub.cons rfl (Sub.cons rfl (Sub.cons rfl (Sub.cons rfl (Sub.cons rfl (Sub.cons rfl (Sub.cons rfl (Sub.cons rfl (Sub.cons rfl (Sub.nil _)))))))))) ⟨by show i + 1 ≤ n; omega, by show _ = (putO ps k [.string (str v)] (i + 1)).length; rw [putO_has (by omega) hil hhas, List.length_append, List.length_singleton, hnn], by show Own _ _ _ _ _ _ (pcells (putO ps k [.string (str v)] (i + 1))) _; rw [putO_has (by omega) hil hhas]; exact o, hM, by show _ = decide (low ps k < i + 1); rw [decide_eq_true (show low ps k < i + 1 by omega)], by show _ = !(hasK ps k && decide (low ps k < i + 1)); rw [decide_eq_true (show low ps k < i + 1 by omega)]; rw [hhas]; rfl, E⟩
            | exact N.again (X := PutSt) ⟨i + 1, nn + 1 + 1, oa, oc, _, true, b⟩ (by show n - (i + 1) < n - i; omega) (Sub.cons rfl (Sub.cons rfl (Sub.cons rfl (Sub.cons rfl (Sub.cons rfl (Sub.cons rfl (Sub.cons rfl (Sub.cons rfl (Sub.cons rfl (Sub.nil _)))))))))) ⟨by show i + 1 ≤ n; omega, by show _ = (putO ps k [.string (str v)] (i + 1)).length; rw [putO_new hp hil hhas, List.length_append, List.length_append, List.length_singleton, List.length_singleton, hnn], by show Own _ _ _ _ _ _ (pcells (putO ps k [.string (str v)] (i + 1))) _; rw [putO_new hp hil hhas]; exact o, hM, by show _ = decide (low ps k < i + 1); rw [decide_eq_true (show low ps k < i + 1 by omega)], by show _ = !(hasK ps k && decide (low ps k < i + 1)); rw [hb, hhas]; rfl, E⟩
            | exact N.again (X := PutSt) ⟨i + 1, nn + 1, oa, oc, _, d, b⟩ (by show n - (i + 1) < n - i; omega) (Sub.cons rfl (Sub.cons rfl (Sub.cons rfl (Sub.cons rfl (Sub.cons rfl (Sub.cons rfl (Sub.cons rfl (Sub.cons rfl (Sub.cons rfl (Sub.nil _)))))))))) ⟨by show i + 1 ≤ n; omega, by show _ = (putO ps k [.string (str v)] (i + 1)).length; rw [putO_gt hp hil, List.length_append, List.length_singleton, hnn], by show Own _ _ _ _ _ _ (pcells (putO ps k [.string (str v)] (i + 1))) _; rw [putO_gt hp hil]; exact o, hM, by show _ = decide (low ps k < i + 1); rw [decide_eq_true (show low ps k < i + 1 by omega)]; rw [hd, decide_eq_true hil], by show _ = !(hasK ps k && decide (low ps k < i + 1)); rw [decide_eq_true (show low ps k < i + 1 by omega)]; rw [hb, decide_eq_true hil], E⟩
            | exact N.again (X := PutSt) ⟨i + 1, nn + 1, oa, oc, _, d, b⟩ (by show n - (i + 1) < n - i; omega) (Sub.cons rfl (Sub.cons rfl (Sub.cons rfl (Sub.cons rfl (Sub.cons rfl (Sub.cons rfl (Sub.cons rfl (Sub.cons rfl (Sub.cons rfl (Sub.nil _)))))))))) ⟨by show i + 1 ≤ n; omega, by show _ = (putO ps k [.string (str v)] (i + 1)).length; rw [putO_lt hp hil, List.length_append, List.length_singleton, hnn], by show Own _ _ _ _ _ _ (pcells (putO ps k [.string (str v)] (i + 1))) _; rw [putO_lt hp hil]; exact o, hM, by show _ = decide (low ps k < i + 1); rw [hd, decide_eq_false (show ¬ low ps k < i by omega), decide_eq_false (show ¬ low ps k < i + 1 by omega)], by show _ = !(hasK ps k && decide (low ps k < i + 1)); rw [hb, decide_eq_false (show ¬ low ps k < i by omega), decide_eq_false (show ¬ low ps k < i + 1 by omega)], E⟩
    · have hil : i < low ps k := by omega
      refine L.pass rfl rfl ?_
      refine L.pass rfl rfl ?_
      first | refine L.val rfl rfl (R.pickT rfl rfl) ?_ | refine L.val rfl rfl (R.pickF rfl rfl) ?_
      refine L.nil ?_
      refine N.seq ?_
      refine G.condF rfl ?_
      refine G.skip ?_
      refine N.seq ?_
      refine G.seq ?_
      refine G.seq ?_
      refine G.region ?_
      refine L.val rfl rfl (R.fld rfl) ?_
      refine L.val rfl rfl (R.ldB (v := .int .i64 kk) rfl B12 rfl) ?_
      refine L.val rfl rfl (R.mv rfl) ?_
      refine L.val rfl rfl (R.eqI rfl rfl) ?_
      refine L.nil ?_
      refine N.seq ?_
      refine G.condP rfl (fun h2 => ?_) (fun h2 => ?_)
      · exfalso; omega
      · refine G.skip ?_
        refine N.seq ?_
        refine G.region ?_
        refine L.val rfl rfl (R.mv rfl) ?_
        refine L.val rfl rfl (R.ldBN rfl B12 rfl) ?_
        refine L.do rfl rfl (R.buildA rfl rfl rfl rfl rfl) ?_
        rintro _ w6 ⟨b39, rfl, hb6, hs6, e6, B39⟩
        replace B39 : Blk w6 b39 [.int .i64 kk, .string (str ss)].toArray 77 (0, 0) := B39
        have hlq := o.lt
        replace E := E.trans0 e6
        have hsz6 := e6.size
        replace o := o.ext0 e6
        replace B12 := B12.ext0 e6
        refine L.do rfl rfl (R.app rfl rfl o (Cells.of_blk B39 0 [.int .i64 kk, .string (str ss)] (fun j v hj => by simpa using hj)) rfl (by intro u hu; simp at hu; rcases hu with rfl | rfl <;> rfl) (by simp [maxLen]; omega) (by omega)) ?_
        rintro _ w7 ⟨oa, oc, M2, rfl, e7, hM2, o2⟩
        replace B12 := B12.ext e7 hnb
        replace hnb : b12 ∉ M2 := fun h => (hM2 _ h).elim hnb (fun h => by omega)
        have hE7 := E.size
        have hsy7 := e7.size
        replace E := E.trans e7 (M := []) (by simp) (fun g hg => .inr (hM g hg))
        replace hM : ∀ g ∈ M2, w.heap.size ≤ g := fun g hg => (hM2 g hg).elim (hM g) (fun h => by omega)
        replace o := o2
        rw [← show pcells [((kk, [.string (str ss)]) : Pr Int)] = [.int .i64 kk, .string (str ss)] from rfl, ← pcells_append] at o
        clear o2 hM2
        refine L.val rfl rfl (R.as rfl) ?_
        refine L.nil ?_
        refine N.block ?_
        refine N.seq ?_
        refine G.region ?_
        refine L.val rfl rfl (R.add rfl rfl (by omega)) ?_
        refine L.val rfl rfl (R.mv rfl) ?_
        refine L.nil ?_
        first
          | exact N.again (X := PutSt) ⟨i + 1, nn + 1, oa, oc, _, true, false⟩ (by show n - (i + 1) < n - i; omega) (Sub.cons rfl (Sub.cons rfl (Sub.cons rfl (Sub.cons rfl (Sub.cons rfl (Sub.cons rfl (Sub.cons rfl (Sub.cons rfl (Sub.cons rfl (Sub.nil _)))))))))) ⟨by show i + 1 ≤ n; omega, by show _ = (putO ps k [.string (str v)] (i + 1)).length; rw [putO_has (by omega) hil hhas, List.length_append, List.length_singleton, hnn], by show Own _ _ _ _ _ _ (pcells (putO ps k [.string (str v)] (i + 1))) _; rw [putO_has (by omega) hil hhas]; exact o, hM, by show _ = decide (low ps k < i + 1); rw [decide_eq_true (show low ps k < i + 1 by omega)], by show _ = !(hasK ps k && decide (low ps k < i + 1)); rw [decide_eq_true (show low ps k < i + 1 by omega)]; rw [hhas]; rfl, E⟩
          | exact N.again (X := PutSt) ⟨i + 1, nn + 1 + 1, oa, oc, _, true, b⟩ (by show n - (i + 1) < n - i; omega) (Sub.cons rfl (Sub.cons rfl (Sub.cons rfl (Sub.cons rfl (Sub.cons rfl (Sub.cons rfl (Sub.cons rfl (Sub.cons rfl (Sub.cons rfl (Sub.nil _)))))))))) ⟨by show i + 1 ≤ n; omega, by show _ = (putO ps k [.string (str v)] (i + 1)).length; rw [putO_new hp hil hhas, List.length_append, List.length_append, List.length_singleton, List.length_singleton, hnn], by show Own _ _ _ _ _ _ (pcells (putO ps k [.string (str v)] (i + 1))) _; rw [putO_new hp hil hhas]; exact o, hM, by show _ = decide (low ps k < i + 1); rw [decide_eq_true (show low ps k < i + 1 by omega)], by show _ = !(hasK ps k && decide (low ps k < i + 1)); rw [hb, hhas]; rfl, E⟩
          | exact N.again (X := PutSt) ⟨i + 1, nn + 1, oa, oc, _, d, b⟩ (by show n - (i + 1) < n - i; omega) (Sub.cons rfl (Sub.cons rfl (Sub.cons rfl (Sub.cons rfl (Sub.cons rfl (Sub.cons rfl (Sub.cons rfl (Sub.cons rfl (Sub.cons rfl (Sub.nil _)))))))))) ⟨by show i + 1 ≤ n; omega, by show _ = (putO ps k [.string (str v)] (i + 1)).length; rw [putO_gt hp hil, List.length_append, List.length_singleton, hnn], by show Own _ _ _ _ _ _ (pcells (putO ps k [.string (str v)] (i + 1))) _; rw [putO_gt hp hil]; exact o, hM, by show _ = decide (low ps k < i + 1); rw [decide_eq_true (show low ps k < i + 1 by omega)]; rw [hd, decide_eq_true hil], by show _ = !(hasK ps k && decide (low ps k < i + 1)); rw [decide_eq_true (show low ps k < i + 1 by omega)]; rw [hb, decide_eq_true hil], E⟩
          | exact N.again (X := PutSt) ⟨i + 1, nn + 1, oa, oc, _, d, b⟩ (by show n - (i + 1) < n - i; omega) (Sub.cons rfl (Sub.cons rfl (Sub.cons rfl (Sub.cons rfl (Sub.cons rfl (Sub.cons rfl (Sub.cons rfl (Sub.cons rfl (Sub.cons rfl (Sub.nil _)))))))))) ⟨by show i + 1 ≤ n; omega, by show _ = (putO ps k [.string (str v)] (i + 1)).length; rw [putO_lt hp hil, List.length_append, List.length_singleton, hnn], by show Own _ _ _ _ _ _ (pcells (putO ps k [.string (str v)] (i + 1))) _; rw [putO_lt hp hil]; exact o, hM, by show _ = decide (low ps k < i + 1); rw [hd, decide_eq_false (show ¬ low ps k < i by omega), decide_eq_false (show ¬ low ps k < i + 1 by omega)], by show _ = !(hasK ps k && decide (low ps k < i + 1)); rw [hb, decide_eq_false (show ¬ low ps k < i by omega), decide_eq_false (show ¬ low ps k < i + 1 by omega)], E⟩
  · obtain rfl : i = n := by omega
    have hpe := putO_end (ps := ps) (k := k) (v := [.string (str v)])
    refine G.exit _ rfl ?_
    refine N.seq ?_
    refine G.seq ?_
    refine G.seq ?_
    refine G.region ?_
    refine L.val rfl rfl (R.mv rfl) ?_
    refine L.val rfl rfl (R.not rfl) ?_
    refine L.nil ?_
    refine N.seq ?_
    refine G.condB rfl (fun h3 => ?_) (fun h3 => ?_)
    · have hnl3 : ¬ low ps k < ps.length := by intro h9; rw [hd, hn, decide_eq_true h9] at h3; cases h3
      have hfin := (hpe.2 hnl3).1
      have hk := (hpe.2 hnl3).2
      refine G.region ?_
      refine L.val rfl rfl (R.mv rfl) ?_
      refine L.val rfl rfl (R.mv rfl) ?_
      refine L.val rfl rfl (R.mv rfl) ?_
      refine L.val rfl rfl (R.build (cs := #[.int .i64 k, .string (str v)]) rfl rfl) ?_
      refine L.do rfl rfl (R.buildA rfl rfl rfl rfl rfl) ?_
      rintro _ w8 ⟨b48, rfl, hb8, hs8, e8, B48⟩
      replace B48 : Blk w8 b48 [.int .i64 k, .string (str v)].toArray 77 (0, 0) := B48
      have hlq := o.lt
      replace E := E.trans0 e8
      have hsz8 := e8.size
      replace o := o.ext0 e8
      refine L.do rfl rfl (R.app rfl rfl o (Cells.of_blk B48 0 [.int .i64 k, .string (str v)] (fun j v hj => by simpa using hj)) rfl (by intro u hu; simp at hu; rcases hu with rfl | rfl <;> rfl) (by simp [maxLen]; omega) (by omega)) ?_
      rintro _ w9 ⟨oa, oc, M2, rfl, e9, hM2, o2⟩
      have hE9 := E.size
      have hsy9 := e9.size
      replace E := E.trans e9 (M := []) (by simp) (fun g hg => .inr (hM g hg))
      replace hM : ∀ g ∈ M2, w.heap.size ≤ g := fun g hg => (hM2 g hg).elim (hM g) (fun h => by omega)
      replace o := o2
      rw [← show pcells [((k, [.string (str v)]) : Pr Int)] = [.int .i64 k, .string (str v)] from rfl, ← pcells_append] at o
      clear o2 hM2
      refine L.val rfl rfl (R.as rfl) ?_
      refine L.nil ?_
      refine N.seq ?_
      refine G.seq ?_
      refine G.region ?_
      refine L.val rfl rfl (R.mv rfl) ?_
      refine L.val rfl rfl (R.mv rfl) ?_
      refine L.val rfl rfl (R.as rfl) ?_
      refine L.val rfl rfl (R.as rfl) ?_
      refine L.nil ?_
      refine N.seq ?_
      refine G.ret2 rfl rfl rfl ?_
      first
        | (rw [hn] at o hnn; rw [hfin] at o; have hlen : nn + 1 = (putK ps k [.string (str v)]).length := by rw [← hfin, List.length_append, List.length_singleton, hnn]
           exact ⟨oa, oc, _, by rw [← hlen, hb, hk]; rfl, by rw [← hlen]; exact o, E, hM⟩)
        | (rw [hn] at o hnn; rw [hfin] at o hnn
           exact ⟨oa, oc, _, by rw [← hnn, hb, hn, decide_eq_true hll, Bool.and_true], by rw [← hnn]; exact o, E, hM⟩)
    · have hll : low ps k < ps.length := by refine Classical.byContradiction fun h9 => ?_; rw [hd, hn, decide_eq_false h9] at h3; cases h3
      have hfin := hpe.1 hll
      refine G.skip ?_
      refine N.seq ?_
      refine G.seq ?_
      refine G.region ?_
      refine L.val rfl rfl (R.mv rfl) ?_
      refine L.val rfl rfl (R.mv rfl) ?_
      refine L.val rfl rfl (R.as rfl) ?_
      refine L.val rfl rfl (R.as rfl) ?_
      refine L.nil ?_
      refine N.seq ?_
      refine G.ret2 rfl rfl rfl ?_
      first
        | (rw [hn] at o hnn; rw [hfin] at o; have hlen : nn + 1 = (putK ps k [.string (str v)]).length := by rw [← hfin, List.length_append, List.length_singleton, hnn]
           exact ⟨oa, oc, _, by rw [← hlen, hb, hk]; rfl, by rw [← hlen]; exact o, E, hM⟩)
        | (rw [hn] at o hnn; rw [hfin] at o hnn
           exact ⟨oa, oc, _, by rw [← hnn, hb, hn, decide_eq_true hll, Bool.and_true], by rw [← hnn]; exact o, E, hM⟩)

theorem rget_ok (a : Option Addr) (n c : Nat) (ps : List (Pr Int)) (Mr : List Nat) (k : Int) (w : World) (hr : Own w 77 (1 + 1) a n c (pcells ps) Mr) (hn : n = ps.length) (hok : OkP 1 ps) (hst : OkStr ps) (hs : Sorted ps) (hnl : n ≤ 1000) : Meets Try.prog 45 [.slice a n c, .int .i64 k] w (fun v w' => v = .tuple #[gv1 (.string (str [])) (getK ps k), .bool (hasK ps k)] ∧ Ext [] w w') := by
  refine Meets.enter Try.func45 rfl 21 rfl (Nat.le_of_ble_eq_true rfl) ?_
  have E := Ext.refl [] w
  refine G.seq ?_
  refine G.region ?_
  refine L.val rfl rfl (R.as rfl) ?_
  refine L.val rfl rfl (R.as rfl) ?_
  refine L.nil ?_
  refine N.seq ?_
  refine G.seq ?_
  refine G.seq ?_
  refine G.region ?_
  refine L.val rfl rfl (R.mv rfl) ?_
  refine L.val rfl rfl (R.lenS rfl) ?_
  refine L.val rfl rfl (R.mv rfl) ?_
  refine L.nil ?_
  refine N.seq ?_
  refine G.block ?_
  refine G.loop (X := Nat) (fun s => [(1, .int .i64 k), (8, .slice a n c), (9, .int .i64 (n : Int)), (10, .int .i64 (s : Int))]) (fun s w' => s ≤ n ∧ (∀ j p, j < s → ps[j]? = some p → p.1 ≠ k) ∧ Ext [] w w') (fun s => n - s) (0) (Sub.cons rfl (Sub.cons rfl (Sub.cons rfl (Sub.cons rfl (Sub.nil _))))) ⟨Nat.zero_le _, (by intro j p hj; omega), E⟩ ?_
  rintro i w1 ⟨hi, hall, E⟩
  refine G.sub [(1, .int .i64 k), (8, .slice a n c), (9, .int .i64 (n : Int)), (10, .int .i64 (i : Int))] (Sub.cons rfl (Sub.cons rfl (Sub.cons rfl (Sub.cons rfl (Sub.nil _))))) ?_
  refine G.seq ?_
  refine G.region ?_
  refine L.val rfl rfl (R.lss rfl rfl) ?_
  refine L.nil ?_
  refine N.seq ?_
  refine G.seq ?_
  refine G.condP rfl (fun h0 => ?_) (fun h0 => ?_)
  · obtain ⟨p, hp⟩ : ∃ p, ps[i]? = some p := ⟨_, List.getElem?_eq_getElem (by omega)⟩
    obtain ⟨ss, hss⟩ := hst p (List.mem_of_getElem? hp)
    obtain ⟨q, hq, hcl⟩ := (Tab.pairs (hr.ext0 E).cells hn hok).at (by decide) i (by rw [List.length_map]; omega)
    have he : (ps.map pcell)[i]'(by rw [List.length_map]; omega) = pcell p := by rw [List.getElem_map]; exact congrArg pcell (List.getElem?_eq_some_iff.1 hp).2
    rw [he] at hcl
    obtain ⟨kk, vv⟩ := p
    obtain rfl : vv = [.string (str ss)] := hss
    replace hcl : Cells _ _ [.int .i64 kk, .string (str ss)] := hcl
    refine G.skip ?_
    refine N.seq ?_
    refine G.seq ?_
    refine G.block ?_
    refine G.seq ?_
    refine G.region ?_
    refine L.val rfl rfl (R.idx rfl rfl (by omega) (by omega) q hq) ?_
    refine L.val rfl rfl (R.ldN (vs := [.int .i64 kk, .string (str ss)]) rfl hcl rfl) ?_
    refine L.do rfl rfl (R.alloc) ?_
    rintro _ w2 ⟨b7, rfl, hb2, hs2, e2, B7⟩
    replace B7 : Blk w2 b7 #[.int .i64 0, .string (str [])] 77 (0, 0) := B7
    have hEa2 := E.size
    replace E := E.trans0 e2
    refine L.set rfl (R.stN rfl rfl B7 rfl (by show 0 + 2 ≤ 2; decide) (by intro u hu; simp at hu; rcases hu with rfl | rfl <;> rfl)) ?_
    rintro w3 ⟨e3, hs3, B7⟩
    replace B7 : Blk w3 b7 #[.int .i64 kk, .string (str ss)] 77 (0, 0) := B7
    replace E := E.trans e3 (M := []) (by simp) (by intro x hx; rw [List.mem_singleton.1 hx]; exact .inr (by omega))
    refine L.nil ?_
    refine N.seq ?_
    refine G.seq ?_
    refine G.region ?_
    refine L.val rfl rfl (R.fld rfl) ?_
    refine L.val rfl rfl (R.ldB (v := .int .i64 kk) rfl B7 rfl) ?_
    refine L.val rfl rfl (R.mv rfl) ?_
    refine L.val rfl rfl (R.eqI rfl rfl) ?_
    refine L.nil ?_
    refine N.seq ?_
    refine G.condP rfl (fun h1 => ?_) (fun h1 => ?_)
    · have hm := hasK_mem hs (List.mem_of_getElem? hp)
      rw [show ((kk, [Value.string (str ss)]) : Pr Int).1 = k from h1] at hm
      refine G.seq ?_
      refine G.region ?_
      refine L.val rfl rfl (R.fld rfl) ?_
      refine L.val rfl rfl (R.ldB (v := .string (str ss)) rfl B7 rfl) ?_
      refine L.val rfl rfl (R.as rfl) ?_
      refine L.val rfl rfl (R.as rfl) ?_
      refine L.nil ?_
      refine N.seq ?_
      refine G.ret2 rfl rfl rfl ?_
      first
        | (rw [hm.1, hm.2]; exact ⟨rfl, E⟩)
        | (rw [hno, getK_no hno]; exact ⟨rfl, E⟩)
    · refine G.skip ?_
      refine N.block ?_
      refine N.seq ?_
      refine G.region ?_
      refine L.val rfl rfl (R.add rfl rfl (by omega)) ?_
      refine L.val rfl rfl (R.mv rfl) ?_
      refine L.nil ?_
      exact N.again (i + 1) (by omega) (Sub.cons rfl (Sub.cons rfl (Sub.cons rfl (Sub.cons rfl (Sub.nil _))))) ⟨by omega, (fun j p9 hj h9 => (Nat.lt_or_ge j i).elim (fun h8 => hall j p9 h8 h9) (fun h8 => by obtain rfl : j = i := (by omega); rw [hp] at h9; cases h9; exact h1)), E⟩
  · have hno : hasK ps k = false := by
      cases hk : hasK ps k with
      | false => rfl
      | true =>
        obtain ⟨p, hp, e⟩ := (hasK_exists hs).1 hk
        obtain ⟨j, hj, he⟩ := List.mem_iff_getElem.1 hp
        exact absurd e (hall j p (by omega) (by rw [List.getElem?_eq_getElem hj, he]))
    refine G.exit _ rfl ?_
    refine N.seq ?_
    refine G.seq ?_
    refine G.region ?_
    refine L.val rfl rfl (R.as rfl) ?_
    refine L.val rfl rfl (R.as rfl) ?_
    refine L.nil ?_
    refine N.seq ?_
    refine G.ret2 rfl rfl rfl ?_
    first
      | (rw [hm.1, hm.2]; exact ⟨rfl, E⟩)
      | (rw [hno, getK_no hno]; exact ⟨rfl, E⟩)

theorem rdel_ok (a : Option Addr) (n c : Nat) (ps : List (Pr Int)) (Mr : List Nat) (k : Int) (w : World) (hr : Own w 77 (1 + 1) a n c (pcells ps) Mr) (hn : n = ps.length) (hok : OkP 1 ps) (hst : OkStr ps) (hs : Sorted ps) (hnl : n ≤ 1000) : Meets Try.prog 46 [.slice a n c, .int .i64 k] w (fun v' w' => ∃ a' c' M', v' = .slice a' (delK ps k).length c' ∧ Own w' 77 (1 + 1) a' (delK ps k).length c' (pcells (delK ps k)) M' ∧ Ext [] w w' ∧ ∀ g ∈ M', w.heap.size ≤ g) := by
  refine Meets.enter Try.func46 rfl 24 rfl (Nat.le_of_ble_eq_true rfl) ?_
  have E := Ext.refl [] w
  refine G.seq ?_
  refine G.region ?_
  refine L.val rfl rfl (R.as rfl) ?_
  refine L.nil ?_
  refine N.seq ?_
  refine G.seq ?_
  refine G.region ?_
  refine L.val rfl rfl (R.as rfl) ?_
  refine L.nil ?_
  refine N.seq ?_
  refine G.seq ?_
  refine G.seq ?_
  refine G.region ?_
  refine L.val rfl rfl (R.mv rfl) ?_
  refine L.val rfl rfl (R.lenS rfl) ?_
  refine L.val rfl rfl (R.mv rfl) ?_
  refine L.nil ?_
  refine N.seq ?_
  refine G.block ?_
  refine G.loop (X := PutSt) (fun s => [(1, .int .i64 k), (5, .slice s.oa s.nn s.oc), (8, .slice a n c), (9, .int .i64 (n : Int)), (10, .int .i64 (s.i : Int))]) (fun s w' => s.i ≤ n ∧ s.nn = ((ps.take s.i).filter (neK k)).length ∧ Own w' 77 (1 + 1) s.oa s.nn s.oc (pcells ((ps.take s.i).filter (neK k))) s.M ∧ (∀ g ∈ s.M, w.heap.size ≤ g) ∧ Ext [] w w') (fun s => n - s.i) (⟨0, 0, none, 0, [], false, false⟩) (Sub.cons rfl (Sub.cons rfl (Sub.cons rfl (Sub.cons rfl (Sub.cons rfl (Sub.nil _)))))) ⟨Nat.zero_le _, rfl, Own.nil _ _ _, (by intro g hg; cases hg), E⟩ ?_
  rintro ⟨i, nn, oa, oc, M, d, b⟩ w1 ⟨hi, hnn, o, hM, E⟩
  dsimp only at hi hnn o hM
  refine G.sub [(1, .int .i64 k), (5, .slice oa nn oc), (8, .slice a n c), (9, .int .i64 (n : Int)), (10, .int .i64 (i : Int))] (Sub.cons rfl (Sub.cons rfl (Sub.cons rfl (Sub.cons rfl (Sub.cons rfl (Sub.nil _)))))) ?_
  have hnl2 : nn ≤ n := by have h8 := List.length_filter_le (neK k) (ps.take i); rw [List.length_take] at h8; omega
  refine G.seq ?_
  refine G.region ?_
  refine L.val rfl rfl (R.lss rfl rfl) ?_
  refine L.nil ?_
  refine N.seq ?_
  refine G.seq ?_
  refine G.condP rfl (fun h0 => ?_) (fun h0 => ?_)
  · obtain ⟨p, hp⟩ : ∃ p, ps[i]? = some p := ⟨_, List.getElem?_eq_getElem (by omega)⟩
    obtain ⟨ss, hss⟩ := hst p (List.mem_of_getElem? hp)
    obtain ⟨q, hq, hcl⟩ := (Tab.pairs (hr.ext0 E).cells hn hok).at (by decide) i (by rw [List.length_map]; omega)
    have he : (ps.map pcell)[i]'(by rw [List.length_map]; omega) = pcell p := by rw [List.getElem_map]; exact congrArg pcell (List.getElem?_eq_some_iff.1 hp).2
    rw [he] at hcl
    obtain ⟨kk, vv⟩ := p
    obtain rfl : vv = [.string (str ss)] := hss
    replace hcl : Cells _ _ [.int .i64 kk, .string (str ss)] := hcl
    refine G.skip ?_
    refine N.seq ?_
    refine G.seq ?_
    refine G.block ?_
    refine G.seq ?_
    refine G.region ?_
    refine L.val rfl rfl (R.idx rfl rfl (by omega) (by omega) q hq) ?_
    refine L.val rfl rfl (R.ldN (vs := [.int .i64 kk, .string (str ss)]) rfl hcl rfl) ?_
    refine L.do rfl rfl (R.alloc) ?_
    rintro _ w2 ⟨b7, rfl, hb2, hs2, e2, B7⟩
    replace B7 : Blk w2 b7 #[.int .i64 0, .string (str [])] 77 (0, 0) := B7
    have hEa2 := E.size
    have hlo := o.lt
    replace E := E.trans0 e2
    replace o := o.ext0 e2
    refine L.set rfl (R.stN rfl rfl B7 rfl (by show 0 + 2 ≤ 2; decide) (by intro u hu; simp at hu; rcases hu with rfl | rfl <;> rfl)) ?_
    rintro w3 ⟨e3, hs3, B7⟩
    replace B7 : Blk w3 b7 #[.int .i64 kk, .string (str ss)] 77 (0, 0) := B7
    replace E := E.trans e3 (M := []) (by simp) (by intro x hx; rw [List.mem_singleton.1 hx]; exact .inr (by omega))
    replace o := o.ext e3 (by intro g hg h; have := hlo g hg; rw [List.mem_singleton.1 h] at this; omega)
    have hnb : b7 ∉ M := fun h => by have := hlo _ h; omega
    refine L.nil ?_
    refine N.seq ?_
    refine G.seq ?_
    refine G.region ?_
    refine L.val rfl rfl (R.fld rfl) ?_
    refine L.val rfl rfl (R.ldB (v := .int .i64 kk) rfl B7 rfl) ?_
    refine L.val rfl rfl (R.mv rfl) ?_
    refine L.val rfl rfl (R.neI rfl rfl) ?_
    refine L.nil ?_
    refine N.seq ?_
    refine G.condP rfl (fun h1 => ?_) (fun h1 => ?_)
    · refine G.region ?_
      refine L.val rfl rfl (R.mv rfl) ?_
      refine L.val rfl rfl (R.ldBN rfl B7 rfl) ?_
      refine L.do rfl rfl (R.buildA rfl rfl rfl rfl rfl) ?_
      rintro _ w6 ⟨b20, rfl, hb6, hs6, e6, B20⟩
      replace B20 : Blk w6 b20 [.int .i64 kk, .string (str ss)].toArray 77 (0, 0) := B20
      have hlq := o.lt
      replace E := E.trans0 e6
      have hsz6 := e6.size
      replace o := o.ext0 e6
      replace B7 := B7.ext0 e6
      refine L.do rfl rfl (R.app rfl rfl o (Cells.of_blk B20 0 [.int .i64 kk, .string (str ss)] (fun j v hj => by simpa using hj)) rfl (by intro u hu; simp at hu; rcases hu with rfl | rfl <;> rfl) (by simp [maxLen]; omega) (by omega)) ?_
      rintro _ w7 ⟨oa, oc, M2, rfl, e7, hM2, o2⟩
      replace B7 := B7.ext e7 hnb
      replace hnb : b7 ∉ M2 := fun h => (hM2 _ h).elim hnb (fun h => by omega)
      have hE7 := E.size
      have hsy7 := e7.size
      replace E := E.trans e7 (M := []) (by simp) (fun g hg => .inr (hM g hg))
      replace hM : ∀ g ∈ M2, w.heap.size ≤ g := fun g hg => (hM2 g hg).elim (hM g) (fun h => by omega)
      replace o := o2
      rw [← show pcells [((kk, [.string (str ss)]) : Pr Int)] = [.int .i64 kk, .string (str ss)] from rfl, ← pcells_append] at o
      clear o2 hM2
      refine L.val rfl rfl (R.as rfl) ?_
      refine L.nil ?_
      refine N.block ?_
      refine N.seq ?_
      refine G.region ?_
      refine L.val rfl rfl (R.add rfl rfl (by omega)) ?_
      refine L.val rfl rfl (R.mv rfl) ?_
      refine L.nil ?_
      first
        | exact N.again (X := PutSt) ⟨i + 1, nn + 1, oa, oc, _, false, false⟩ (by show n - (i + 1) < n - i; omega) (Sub.cons rfl (Sub.cons rfl (Sub.cons rfl (Sub.cons rfl (Sub.cons rfl (Sub.nil _)))))) ⟨by show i + 1 ≤ n; omega, by show _ = (((ps.take (i + 1)).filter (neK k))).length; rw [filter_succ hp, if_neg h1]; rw [List.length_append, List.length_singleton, hnn], by show Own _ _ _ _ _ _ (pcells ((ps.take (i + 1)).filter (neK k))) _; rw [filter_succ hp, if_neg h1]; exact o, hM, E⟩
        | exact N.again (X := PutSt) ⟨i + 1, nn, oa, oc, _, false, false⟩ (by show n - (i + 1) < n - i; omega) (Sub.cons rfl (Sub.cons rfl (Sub.cons rfl (Sub.cons rfl (Sub.cons rfl (Sub.nil _)))))) ⟨by show i + 1 ≤ n; omega, by show _ = (((ps.take (i + 1)).filter (neK k))).length; rw [filter_succ hp, if_pos (Classical.not_not.1 h1), List.append_nil]; exact hnn, by show Own _ _ _ _ _ _ (pcells ((ps.take (i + 1)).filter (neK k))) _; rw [filter_succ hp, if_pos (Classical.not_not.1 h1), List.append_nil]; exact o, hM, E⟩
    · refine G.skip ?_
      refine N.block ?_
      refine N.seq ?_
      refine G.region ?_
      refine L.val rfl rfl (R.add rfl rfl (by omega)) ?_
      refine L.val rfl rfl (R.mv rfl) ?_
      refine L.nil ?_
      first
        | exact N.again (X := PutSt) ⟨i + 1, nn + 1, oa, oc, _, false, false⟩ (by show n - (i + 1) < n - i; omega) (Sub.cons rfl (Sub.cons rfl (Sub.cons rfl (Sub.cons rfl (Sub.cons rfl (Sub.nil _)))))) ⟨by show i + 1 ≤ n; omega, by show _ = (((ps.take (i + 1)).filter (neK k))).length; rw [filter_succ hp, if_neg h1]; rw [List.length_append, List.length_singleton, hnn], by show Own _ _ _ _ _ _ (pcells ((ps.take (i + 1)).filter (neK k))) _; rw [filter_succ hp, if_neg h1]; exact o, hM, E⟩
        | exact N.again (X := PutSt) ⟨i + 1, nn, oa, oc, _, false, false⟩ (by show n - (i + 1) < n - i; omega) (Sub.cons rfl (Sub.cons rfl (Sub.cons rfl (Sub.cons rfl (Sub.cons rfl (Sub.nil _)))))) ⟨by show i + 1 ≤ n; omega, by show _ = (((ps.take (i + 1)).filter (neK k))).length; rw [filter_succ hp, if_pos (Classical.not_not.1 h1), List.append_nil]; exact hnn, by show Own _ _ _ _ _ _ (pcells ((ps.take (i + 1)).filter (neK k))) _; rw [filter_succ hp, if_pos (Classical.not_not.1 h1), List.append_nil]; exact o, hM, E⟩
  · obtain rfl : i = n := by omega
    rw [List.take_of_length_le (by omega), ← delK_filter hs] at o hnn
    refine G.exit _ rfl ?_
    refine N.seq ?_
    refine G.seq ?_
    refine G.region ?_
    refine L.val rfl rfl (R.mv rfl) ?_
    refine L.val rfl rfl (R.as rfl) ?_
    refine L.nil ?_
    refine N.seq ?_
    refine G.ret1 rfl rfl ?_
    exact ⟨oa, oc, M, by rw [hnn], by rw [← hnn]; exact o, E, hM⟩

def flC : Option (Pr Int) → Array Value
  | some p => (pcell p).toArray
  | none => #[.int .i64 0, .string (str [])]

theorem flO_mem {ps : List (Pr Int)} {k : Int} {i : Nat} {p : Pr Int} (h : flO ps k i = some p) : p ∈ ps := by
  unfold flO at h
  split at h
  · cases h
  · exact List.mem_of_getElem? h
theorem flC_size (ps : List (Pr Int)) (hok : OkP 1 ps) (k : Int) (i : Nat) : (flC (flO ps k i)).size = 2 := by
  cases h : flO ps k i with
  | none => rfl
  | some p => show (pcell p).toArray.size = 2; rw [List.size_toArray]; show p.2.length + 1 = 2; rw [(hok p (flO_mem h)).1]
theorem flC_one (ps : List (Pr Int)) (hst : OkStr ps) (k : Int) (i : Nat) : ∀ u ∈ (flC (flO ps k i)).toList, u.oneCell' = true := by
  intro u hu
  cases h : flO ps k i with
  | none => rw [h] at hu; simp [flC] at hu; rcases hu with rfl | rfl <;> rfl
  | some p =>
    rw [h] at hu
    obtain ⟨s, hs⟩ := hst p (flO_mem h)
    have hu : u ∈ Key.val p.1 :: p.2 := by simpa [flC, pcell] using hu
    rw [hs] at hu
    simp at hu
    rcases hu with rfl | rfl <;> rfl

theorem rfloor_ok (a : Option Addr) (n c : Nat) (ps : List (Pr Int)) (Mr : List Nat) (k : Int) (w : World) (hr : Own w 77 (1 + 1) a n c (pcells ps) Mr) (hn : n = ps.length) (hok : OkP 1 ps) (hst : OkStr ps) (hs : Sorted ps) (hnl : n ≤ 1000) : Meets Try.prog 114 [.slice a n c, .int .i64 k] w (fun v' w' => v' = .tuple #[.agg (flC (floorK ps k)), .bool (floorK ps k).isSome] ∧ Ext [] w w') := by
  refine Meets.enter Try.func114 rfl 24 rfl (Nat.le_of_ble_eq_true rfl) ?_
  have E := Ext.refl [] w
  refine G.seq ?_
  refine G.region ?_
  refine L.do rfl rfl (R.alloc) ?_
  rintro _ w1 ⟨b4, rfl, hb4, hs4, e1, B4⟩
  replace B4 : Blk w1 b4 #[.int .i64 0, .string (str [])] 77 (0, 0) := B4
  replace E := E.trans0 e1
  refine L.val rfl rfl (R.as rfl) ?_
  refine L.nil ?_
  refine N.seq ?_
  refine G.seq ?_
  refine G.region ?_
  refine L.do rfl rfl (R.alloc) ?_
  rintro _ w2 ⟨b6, rfl, hb6, hs6, e2, B6⟩
  replace B6 : Blk w2 b6 #[.int .i64 0, .string (str [])] 77 (0, 0) := B6
  replace E := E.trans0 e2
  replace B4 := B4.ext0 e2
  refine L.nil ?_
  refine N.seq ?_
  refine G.seq ?_
  refine G.region ?_
  refine L.val rfl rfl (R.as rfl) ?_
  refine L.nil ?_
  refine N.seq ?_
  refine G.seq ?_
  refine G.seq ?_
  refine G.region ?_
  refine L.val rfl rfl (R.mv rfl) ?_
  refine L.val rfl rfl (R.lenS rfl) ?_
  refine L.val rfl rfl (R.mv rfl) ?_
  refine L.nil ?_
  refine N.seq ?_
  refine G.block ?_
  refine G.loop (X := Nat) (fun s => [(1, .int .i64 k), (4, .pointer (some ⟨b4, 0, none⟩)), (6, .pointer (some ⟨b6, 0, none⟩)), (7, .bool (flO ps k s).isSome), (10, .slice a n c), (11, .int .i64 (n : Int)), (12, .int .i64 (s : Int))]) (fun s w' => s ≤ n ∧ Blk w' b4 #[.int .i64 0, .string (str [])] 77 (0, 0) ∧ Blk w' b6 (flC (flO ps k s)) 77 (0, 0) ∧ Ext [] w w') (fun s => n - s) (0) (Sub.cons rfl (Sub.cons rfl (Sub.cons rfl (Sub.cons (by show _ = some (Value.bool (flO ps k 0).isSome); rw [flO_zero]; rfl) (Sub.cons rfl (Sub.cons rfl (Sub.cons rfl (Sub.nil _)))))))) ⟨Nat.zero_le _, B4, by rw [flO_zero]; exact B6, E⟩ ?_
  rintro i w3 ⟨hi, B4, B6, E⟩
  refine G.sub [(1, .int .i64 k), (4, .pointer (some ⟨b4, 0, none⟩)), (6, .pointer (some ⟨b6, 0, none⟩)), (7, .bool (flO ps k i).isSome), (10, .slice a n c), (11, .int .i64 (n : Int)), (12, .int .i64 (i : Int))] (Sub.cons rfl (Sub.cons rfl (Sub.cons rfl (Sub.cons rfl (Sub.cons rfl (Sub.cons rfl (Sub.cons rfl (Sub.nil _)))))))) ?_
  have hl4 := B4.lt
  have hl6 := B6.lt
  refine G.seq ?_
  refine G.region ?_
  refine L.val rfl rfl (R.lss rfl rfl) ?_
  refine L.nil ?_
  refine N.seq ?_
  refine G.seq ?_
  refine G.condP rfl (fun h0 => ?_) (fun h0 => ?_)
  · obtain ⟨p, hp⟩ : ∃ p, ps[i]? = some p := ⟨_, List.getElem?_eq_getElem (by omega)⟩
    obtain ⟨ss, hss⟩ := hst p (List.mem_of_getElem? hp)
    obtain ⟨q, hq, hcl⟩ := (Tab.pairs (hr.ext0 E).cells hn hok).at (by decide) i (by rw [List.length_map]; omega)
    have he : (ps.map pcell)[i]'(by rw [List.length_map]; omega) = pcell p := by rw [List.getElem_map]; exact congrArg pcell (List.getElem?_eq_some_iff.1 hp).2
    rw [he] at hcl
    obtain ⟨kk, vv⟩ := p
    obtain rfl : vv = [.string (str ss)] := hss
    replace hcl : Cells _ _ [.int .i64 kk, .string (str ss)] := hcl
    refine G.skip ?_
    refine N.seq ?_
    refine G.seq ?_
    refine G.block ?_
    refine G.seq ?_
    refine G.region ?_
    refine L.val rfl rfl (R.idx rfl rfl (by omega) (by omega) q hq) ?_
    refine L.val rfl rfl (R.ldN (vs := [.int .i64 kk, .string (str ss)]) rfl hcl rfl) ?_
    refine L.do rfl rfl (R.alloc) ?_
    rintro _ w4 ⟨b9, rfl, hb4, hs4, e4, B9⟩
    replace B9 : Blk w4 b9 #[.int .i64 0, .string (str [])] 77 (0, 0) := B9
    have hEa4 := E.size
    replace E := E.trans0 e4
    replace B4 := B4.ext0 e4
    replace B6 := B6.ext0 e4
    refine L.set rfl (R.stN rfl rfl B9 rfl (by show 0 + 2 ≤ 2; decide) (by intro u hu; simp at hu; rcases hu with rfl | rfl <;> rfl)) ?_
    rintro w5 ⟨e5, hs5, B9⟩
    replace B9 : Blk w5 b9 #[.int .i64 kk, .string (str ss)] 77 (0, 0) := B9
    replace E := E.trans e5 (M := []) (by simp) (by intro x hx; rw [List.mem_singleton.1 hx]; exact .inr (by omega))
    replace B4 := B4.ext e5 (by simp; omega)
    replace B6 := B6.ext e5 (by simp; omega)
    refine L.nil ?_
    refine N.seq ?_
    refine G.seq ?_
    refine G.region ?_
    refine L.val rfl rfl (R.fld rfl) ?_
    refine L.val rfl rfl (R.ldB (v := .int .i64 kk) rfl B9 rfl) ?_
    refine L.val rfl rfl (R.mv rfl) ?_
    refine L.val rfl rfl (R.leq rfl rfl) ?_
    refine L.nil ?_
    refine N.seq ?_
    refine G.condP rfl (fun h1 => ?_) (fun h1 => ?_)
    · refine G.seq ?_
      refine G.region ?_
      refine L.val rfl rfl (R.ldBN rfl B9 rfl) ?_
      refine L.set rfl (R.stN rfl rfl B6 rfl (by rw [flC_size ps hok]; show 0 + 2 ≤ 2; decide) (by intro u hu; simp at hu; rcases hu with rfl | rfl <;> rfl)) ?_
      rintro w6 ⟨e6, hs6, B6⟩
      rw [over_all (by rw [flC_size ps hok]; rfl)] at B6
      replace B4 := B4.ext e6 (by simp; omega)
      replace E := E.trans e6 (M := []) (by simp) (by intro x hx; rw [List.mem_singleton.1 hx]; exact .inr (by omega))
      refine L.nil ?_
      refine N.seq ?_
      refine G.region ?_
      refine L.val rfl rfl (R.as rfl) ?_
      refine L.nil ?_
      refine N.block ?_
      refine N.seq ?_
      refine G.region ?_
      refine L.val rfl rfl (R.add rfl rfl (by omega)) ?_
      refine L.val rfl rfl (R.mv rfl) ?_
      refine L.nil ?_
      first
        | exact N.again (i + 1) (by omega) (Sub.cons rfl (Sub.cons rfl (Sub.cons rfl (Sub.cons (by rw [flO_le hs hp h1]; rfl) (Sub.cons rfl (Sub.cons rfl (Sub.cons rfl (Sub.nil _)))))))) ⟨by omega, B4, by rw [flO_le hs hp h1]; exact B6, E⟩
        | exact N.again (i + 1) (by omega) (Sub.cons rfl (Sub.cons rfl (Sub.cons rfl (Sub.cons (by rw [flO_gt hs hp h1]; rfl) (Sub.cons rfl (Sub.cons rfl (Sub.cons rfl (Sub.nil _)))))))) ⟨by omega, B4, by rw [flO_gt hs hp h1]; exact B6, E⟩
    · refine G.skip ?_
      refine N.block ?_
      refine N.seq ?_
      refine G.region ?_
      refine L.val rfl rfl (R.add rfl rfl (by omega)) ?_
      refine L.val rfl rfl (R.mv rfl) ?_
      refine L.nil ?_
      first
        | exact N.again (i + 1) (by omega) (Sub.cons rfl (Sub.cons rfl (Sub.cons rfl (Sub.cons (by rw [flO_le hs hp h1]; rfl) (Sub.cons rfl (Sub.cons rfl (Sub.cons rfl (Sub.nil _)))))))) ⟨by omega, B4, by rw [flO_le hs hp h1]; exact B6, E⟩
        | exact N.again (i + 1) (by omega) (Sub.cons rfl (Sub.cons rfl (Sub.cons rfl (Sub.cons (by rw [flO_gt hs hp h1]; rfl) (Sub.cons rfl (Sub.cons rfl (Sub.cons rfl (Sub.nil _)))))))) ⟨by omega, B4, by rw [flO_gt hs hp h1]; exact B6, E⟩
  · obtain rfl : n = i := by omega
    refine G.exit _ rfl ?_
    refine N.seq ?_
    refine G.seq ?_
    refine G.region ?_
    refine L.val rfl rfl (R.ldBN (s := 2) rfl B6 (flC_size ps hok k _)) ?_
    refine L.val rfl rfl (R.mv rfl) ?_
    refine L.set rfl (R.stN (s := 2) rfl rfl B4 (flC_size ps hok k _) (by rw [flC_size ps hok]; decide) (flC_one ps hst k _)) ?_
    rintro w7 ⟨e7, hs7, B4⟩
    rw [over_all (by rw [flC_size ps hok]; rfl)] at B4
    replace E := E.trans e7 (M := []) (by simp) (by intro x hx; rw [List.mem_singleton.1 hx]; exact .inr (by omega))
    refine L.val rfl rfl (R.as rfl) ?_
    refine L.nil ?_
    refine N.seq ?_
    refine G.retCT (s := 2) rfl rfl rfl B4 (flC_size ps hok k _) ?_
    exact ⟨by rw [hn, flO_end], E⟩

end Go.Proofs.Ythpolibakkmmeaa
/-
  The structs of plain fields, to be compared.
-/
set_option linter.unusedVariables false
set_option maxRecDepth 100000
namespace Go.Proofs.Ythpolibakkmmeaa
open Go Brv
instance : TyEqS Try.prog 66 [.i .i64, .i .i64, .i .i64, .s] := ⟨by kernel_rfl, by kernel_rfl, by kernel_rfl, by kernel_rfl⟩ -- breviarylaw04.Op
instance : TyEqS Try.prog 77 [.i .i64, .s] := ⟨by kernel_rfl, by kernel_rfl, by kernel_rfl, by kernel_rfl⟩ -- breviaryref04.Pair
instance : TyEqS Try.prog 121 [.i .i64, .i .i64, .i .i64, .i .i64, .i .i64, .i .i64, .i .i64] := ⟨by kernel_rfl, by kernel_rfl, by kernel_rfl, by kernel_rfl⟩ -- api.Control
instance : TyEqS Try.prog 182 [.s, .i .i64] := ⟨by kernel_rfl, by kernel_rfl, by kernel_rfl, by kernel_rfl⟩ -- order.pair[string,int]
instance : TyEqS Try.prog 194 [.i .i64, .s] := ⟨by kernel_rfl, by kernel_rfl, by kernel_rfl, by kernel_rfl⟩ -- order.pair[int,string]
instance : TyEqS Try.prog 224 [.s, .i .i64] := ⟨by kernel_rfl, by kernel_rfl, by kernel_rfl, by kernel_rfl⟩ -- breviaryref03.Scan
end Go.Proofs.Ythpolibakkmmeaa
/-
  The laws of order.
-/
set_option linter.unusedVariables false
set_option linter.unusedSimpArgs false
set_option maxRecDepth 4000
namespace Go.Proofs.Ythpolibakkmmeaa
open Go Brv
/-- What the looks over an order keep: the count, whether all is good, the list, the op. -/
structure LkI (ps : List (Pr Int)) (TI TB TL TO TP : Nat) (a : Option Addr) (n c : Nat) (Mr : List Nat) (b4 b5 b16 b17 : Nat) (op : Array Value) (i : Int) (W : World) : Prop where
  B16 : Blk W b16 #[.int .i64 i] TI (0, 0)
  B17 : Blk W b17 #[.bool true] TB (0, 0)
  B4 : Blk W b4 #[.slice a n c] TL (0, 0)
  B5 : Blk W b5 op TO (0, 0)
  row : Own W TP (1 + 1) a n c (pcells ps) Mr
theorem LkI.ext {ps : List (Pr Int)} {TI TB TL TO TP : Nat} {a : Option Addr} {n c : Nat} {Mr : List Nat} {b4 b5 b16 b17 : Nat} {op : Array Value} {i : Int} {W W' : World} {M' : List Nat} {s : Nat} (h : LkI ps TI TB TL TO TP a n c Mr b4 b5 b16 b17 op i W) (he : Ext M' W W') (h16 : b16 ∉ M') (h17 : b17 ∉ M') (hs : ∀ g ∈ M', s ≤ g) (h4 : b4 < s) (h5 : b5 < s) (hM : ∀ g ∈ Mr, g < s) : LkI ps TI TB TL TO TP a n c Mr b4 b5 b16 b17 op i W' :=
  ⟨h.B16.ext he h16, h.B17.ext he h17, h.B4.ext he (fun h9 => by have := hs _ h9; omega), h.B5.ext he (fun h9 => by have := hs _ h9; omega), h.row.ext he (fun g hg h9 => by have := hs _ h9; have := hM _ hg; omega)⟩
theorem LkI.ext0 {ps : List (Pr Int)} {TI TB TL TO TP : Nat} {a : Option Addr} {n c : Nat} {Mr : List Nat} {b4 b5 b16 b17 : Nat} {op : Array Value} {i : Int} {W W' : World} (h : LkI ps TI TB TL TO TP a n c Mr b4 b5 b16 b17 op i W) (he : Ext [] W W') : LkI ps TI TB TL TO TP a n c Mr b4 b5 b16 b17 op i W' :=
  ⟨h.B16.ext0 he, h.B17.ext0 he, h.B4.ext0 he, h.B5.ext0 he, h.row.ext0 he⟩

theorem look1_ok (kk : Int) (ss : List UInt8) (b4 b5 b16 b17 : Nat) (a : Option Addr) (n c : Nat) (ps : List (Pr Int)) (Mr : List Nat) (kd kq sp : Int) (vv : List UInt8) (i : Nat) (w : World) (hd : LkI ps 3 4 64 66 77 a n c Mr b4 b5 b16 b17 #[.int .i64 kd, .int .i64 kq, .int .i64 sp, .string (str vv)] ((i : Int)) w) (hn : n = ps.length) (hok : OkP 1 ps) (hp : ps[i]? = some (kk, [.string (str ss)])) (hnl : n ≤ 1000) : Meets Try.prog 116 [.int .i64 kk, .string (str ss), .pointer (some ⟨b17, 0, none⟩), .pointer (some ⟨b16, 0, none⟩), .pointer (some ⟨b4, 0, none⟩), .pointer (some ⟨b5, 0, none⟩)] w (fun v w' => v = .bool (decide ((i : Int) + 1 ≠ sp)) ∧ Ext [b16, b17] w w' ∧ LkI ps 3 4 64 66 77 a n c Mr b4 b5 b16 b17 #[.int .i64 kd, .int .i64 kq, .int .i64 sp, .string (str vv)] ((i : Int) + 1) w') := by
  refine Meets.enter Try.func116 rfl 32 rfl (Nat.le_of_ble_eq_true rfl) ?_
  have hil : i < n := by rw [hn]; exact (List.getElem?_eq_some_iff.1 hp).1
  have n1 : b16 ≠ b17 := hd.B16.ne hd.B17 (by decide)
  have n2 : b4 ≠ b16 := hd.B4.ne hd.B16 (by decide)
  have n3 : b4 ≠ b17 := hd.B4.ne hd.B17 (by decide)
  have n4 : b5 ≠ b16 := hd.B5.ne hd.B16 (by decide)
  have n5 : b5 ≠ b17 := hd.B5.ne hd.B17 (by decide)
  have n6 : ∀ g ∈ Mr, g ≠ b16 := fun g hg => by obtain ⟨_, hq9⟩ := hd.row.typ g hg; exact hq9.ne hd.B16 (by decide)
  have n7 : ∀ g ∈ Mr, g ≠ b17 := fun g hg => by obtain ⟨_, hq9⟩ := hd.row.typ g hg; exact hq9.ne hd.B17 (by decide)
  obtain ⟨q, hq, hcl⟩ := (Tab.pairs hd.row.cells hn hok).at (by decide) i (by rw [List.length_map]; omega)
  have he : (ps.map pcell)[i]'(by rw [List.length_map]; omega) = pcell (kk, [.string (str ss)]) := by rw [List.getElem_map]; exact congrArg pcell (List.getElem?_eq_some_iff.1 hp).2
  rw [he] at hcl
  replace hcl : Cells _ _ [.int .i64 kk, .string (str ss)] := hcl
  refine G.seq ?_
  refine G.region ?_
  refine L.val rfl rfl (R.as rfl) ?_
  refine L.nil ?_
  refine N.seq ?_
  refine G.seq ?_
  refine G.region ?_
  refine L.val rfl rfl (R.ldB rfl hd.B17 rfl) ?_
  refine L.val rfl rfl (R.mv rfl) ?_
  refine L.isT 10 rfl (by rfl) ?_
  refine L.val rfl rfl (R.ldB rfl hd.B16 rfl) ?_
  refine L.val rfl rfl (R.ldB rfl hd.B4 rfl) ?_
  refine L.val rfl rfl (R.lenS rfl) ?_
  refine L.val rfl rfl (R.lss rfl rfl) ?_
  first | refine L.val rfl rfl (R.pickT rfl rfl) ?_ | refine L.val rfl rfl (R.pickF rfl rfl) ?_
  refine L.val rfl rfl (R.mv rfl) ?_
  refine L.isT 16 rfl (by simp; omega) ?_
  refine L.val rfl rfl (R.ldB rfl hd.B4 rfl) ?_
  refine L.val rfl rfl (R.ldB rfl hd.B16 rfl) ?_
  refine L.val rfl rfl (R.idx rfl rfl (by omega) (by omega) q hq) ?_
  refine L.val rfl rfl (R.ldN (vs := [.int .i64 kk, .string (str ss)]) rfl hcl rfl) ?_
  refine L.val rfl rfl (R.mv rfl) ?_
  refine L.val rfl rfl (R.mv rfl) ?_
  refine L.val rfl rfl (R.build (cs := #[.int .i64 kk, .string (str ss)]) rfl rfl) ?_
  refine L.val rfl rfl (R.eqS rfl rfl rfl rfl (b := true) (by simp [eqL, veq])) ?_
  first | refine L.val rfl rfl (R.pickT rfl rfl) ?_ | refine L.val rfl rfl (R.pickF rfl rfl) ?_
  refine L.set rfl (R.st rfl rfl hd.B17 (by show 0 < 1; decide) rfl) ?_
  rintro w1 ⟨e1, hs1, B17⟩
  replace B17 : Blk w1 b17 #[.bool true] 4 (0, 0) := B17
  replace hd : LkI ps 3 4 64 66 77 a n c Mr b4 b5 b16 b17 #[.int .i64 kd, .int .i64 kq, .int .i64 sp, .string (str vv)] ((i : Int)) w1 := ⟨hd.B16.ext e1 (by simpa using n1), B17, hd.B4.ext e1 (by simpa using n3), hd.B5.ext e1 (by simpa using n5), hd.row.ext e1 (fun g hg h => n7 g hg (List.mem_singleton.1 h))⟩
  refine L.nil ?_
  refine N.seq ?_
  refine G.seq ?_
  refine G.region ?_
  refine L.val rfl rfl (R.ldB rfl hd.B16 rfl) ?_
  refine L.val rfl rfl (R.add rfl rfl (by omega)) ?_
  refine L.set rfl (R.st rfl rfl hd.B16 (by show 0 < 1; decide) rfl) ?_
  rintro w2 ⟨e2, hs2, B16⟩
  replace B16 : Blk w2 b16 #[.int .i64 ((i : Int) + 1)] 3 (0, 0) := B16
  replace hd : LkI ps 3 4 64 66 77 a n c Mr b4 b5 b16 b17 #[.int .i64 kd, .int .i64 kq, .int .i64 sp, .string (str vv)] ((i : Int) + 1) w2 := ⟨B16, hd.B17.ext e2 (by simpa using Ne.symm n1), hd.B4.ext e2 (by simpa using n2), hd.B5.ext e2 (by simpa using n4), hd.row.ext e2 (fun g hg h => n6 g hg (List.mem_singleton.1 h))⟩
  refine L.nil ?_
  refine N.seq ?_
  refine G.seq ?_
  refine G.region ?_
  refine L.val rfl rfl (R.ldB rfl hd.B16 rfl) ?_
  refine L.val rfl rfl (R.fld rfl) ?_
  refine L.val rfl rfl (R.ldB (v := .int .i64 sp) rfl hd.B5 rfl) ?_
  refine L.val rfl rfl (R.neI rfl rfl) ?_
  refine L.val rfl rfl (R.as rfl) ?_
  refine L.nil ?_
  refine N.seq ?_
  refine G.ret1 rfl rfl ?_
  exact ⟨rfl, (e1.mono (fun g hg => .inl (by simp at hg ⊢; simp [hg]))).transN e2 (fun g hg => .inl (by simp at hg ⊢; simp [hg])), hd⟩

theorem look2_ok (kk : Int) (ss : List UInt8) (b4 b5 b16 b17 : Nat) (a : Option Addr) (n c : Nat) (ps : List (Pr Int)) (Mr : List Nat) (kd kq sp : Int) (vv : List UInt8) (i : Nat) (w : World) (hd : LkI ps 3 4 64 66 77 a n c Mr b4 b5 b16 b17 #[.int .i64 kd, .int .i64 kq, .int .i64 sp, .string (str vv)] ((i : Int) + 1) w) (hn : n = ps.length) (hok : OkP 1 ps) (hp : ps[i]? = some (kk, [.string (str ss)])) (hnl : n ≤ 1000) : Meets Try.prog 118 [.int .i64 kk, .string (str ss), .pointer (some ⟨b16, 0, none⟩), .pointer (some ⟨b17, 0, none⟩), .pointer (some ⟨b4, 0, none⟩), .pointer (some ⟨b5, 0, none⟩)] w (fun v w' => v = .bool (decide ((n : Int) - (i : Int) ≠ sp)) ∧ Ext [b16, b17] w w' ∧ LkI ps 3 4 64 66 77 a n c Mr b4 b5 b16 b17 #[.int .i64 kd, .int .i64 kq, .int .i64 sp, .string (str vv)] ((i : Int)) w') := by
  refine Meets.enter Try.func118 rfl 33 rfl (Nat.le_of_ble_eq_true rfl) ?_
  have hil : i < n := by rw [hn]; exact (List.getElem?_eq_some_iff.1 hp).1
  have n1 : b16 ≠ b17 := hd.B16.ne hd.B17 (by decide)
  have n2 : b4 ≠ b16 := hd.B4.ne hd.B16 (by decide)
  have n3 : b4 ≠ b17 := hd.B4.ne hd.B17 (by decide)
  have n4 : b5 ≠ b16 := hd.B5.ne hd.B16 (by decide)
  have n5 : b5 ≠ b17 := hd.B5.ne hd.B17 (by decide)
  have n6 : ∀ g ∈ Mr, g ≠ b16 := fun g hg => by obtain ⟨_, hq9⟩ := hd.row.typ g hg; exact hq9.ne hd.B16 (by decide)
  have n7 : ∀ g ∈ Mr, g ≠ b17 := fun g hg => by obtain ⟨_, hq9⟩ := hd.row.typ g hg; exact hq9.ne hd.B17 (by decide)
  refine G.seq ?_
  refine G.region ?_
  refine L.val rfl rfl (R.as rfl) ?_
  refine L.nil ?_
  refine N.seq ?_
  refine G.seq ?_
  refine G.region ?_
  refine L.val rfl rfl (R.ldB rfl hd.B16 rfl) ?_
  refine L.val rfl rfl (R.sub' rfl rfl (by omega)) ?_
  refine L.be 10 rfl (show _ = Value.int .i64 (i : Int) by congr 1; omega) ?_
  refine L.set rfl (R.st rfl rfl hd.B16 (by show 0 < 1; decide) rfl) ?_
  rintro w1 ⟨e1, hs1, B16⟩
  replace B16 : Blk w1 b16 #[.int .i64 ((i : Int))] 3 (0, 0) := B16
  replace hd : LkI ps 3 4 64 66 77 a n c Mr b4 b5 b16 b17 #[.int .i64 kd, .int .i64 kq, .int .i64 sp, .string (str vv)] ((i : Int)) w1 := ⟨B16, hd.B17.ext e1 (by simpa using Ne.symm n1), hd.B4.ext e1 (by simpa using n2), hd.B5.ext e1 (by simpa using n4), hd.row.ext e1 (fun g hg h => n6 g hg (List.mem_singleton.1 h))⟩
  refine L.nil ?_
  refine N.seq ?_
  refine G.seq ?_
  refine G.region ?_
  refine L.val rfl rfl (R.ldB rfl hd.B17 rfl) ?_
  refine L.val rfl rfl (R.mv rfl) ?_
  refine L.isT 12 rfl (by rfl) ?_
  refine L.val rfl rfl (R.ldB rfl hd.B16 rfl) ?_
  refine L.val rfl rfl (R.geq rfl rfl) ?_
  first | refine L.val rfl rfl (R.pickT rfl rfl) ?_ | refine L.val rfl rfl (R.pickF rfl rfl) ?_
  refine L.val rfl rfl (R.mv rfl) ?_
  refine L.isT 16 rfl (by simp) ?_
  refine L.val rfl rfl (R.ldB rfl hd.B4 rfl) ?_
  refine L.val rfl rfl (R.ldB rfl hd.B16 rfl) ?_
  obtain ⟨q, hq, hcl⟩ := (Tab.pairs hd.row.cells hn hok).at (by decide) i (by rw [List.length_map]; omega)
  have he : (ps.map pcell)[i]'(by rw [List.length_map]; omega) = pcell (kk, [.string (str ss)]) := by rw [List.getElem_map]; exact congrArg pcell (List.getElem?_eq_some_iff.1 hp).2
  rw [he] at hcl
  replace hcl : Cells _ _ [.int .i64 kk, .string (str ss)] := hcl
  refine L.val rfl rfl (R.idx rfl rfl (by omega) (by omega) q hq) ?_
  refine L.val rfl rfl (R.ldN (vs := [.int .i64 kk, .string (str ss)]) rfl hcl rfl) ?_
  refine L.val rfl rfl (R.mv rfl) ?_
  refine L.val rfl rfl (R.mv rfl) ?_
  refine L.val rfl rfl (R.build (cs := #[.int .i64 kk, .string (str ss)]) rfl rfl) ?_
  refine L.val rfl rfl (R.eqS rfl rfl rfl rfl (b := true) (by simp [eqL, veq])) ?_
  first | refine L.val rfl rfl (R.pickT rfl rfl) ?_ | refine L.val rfl rfl (R.pickF rfl rfl) ?_
  refine L.set rfl (R.st rfl rfl hd.B17 (by show 0 < 1; decide) rfl) ?_
  rintro w2 ⟨e2, hs2, B17⟩
  replace B17 : Blk w2 b17 #[.bool true] 4 (0, 0) := B17
  replace hd : LkI ps 3 4 64 66 77 a n c Mr b4 b5 b16 b17 #[.int .i64 kd, .int .i64 kq, .int .i64 sp, .string (str vv)] ((i : Int)) w2 := ⟨hd.B16.ext e2 (by simpa using n1), B17, hd.B4.ext e2 (by simpa using n3), hd.B5.ext e2 (by simpa using n5), hd.row.ext e2 (fun g hg h => n7 g hg (List.mem_singleton.1 h))⟩
  refine L.nil ?_
  refine N.seq ?_
  refine G.seq ?_
  refine G.region ?_
  refine L.val rfl rfl (R.ldB rfl hd.B4 rfl) ?_
  refine L.val rfl rfl (R.lenS rfl) ?_
  refine L.val rfl rfl (R.ldB rfl hd.B16 rfl) ?_
  refine L.val rfl rfl (R.sub' rfl rfl (by omega)) ?_
  refine L.val rfl rfl (R.fld rfl) ?_
  refine L.val rfl rfl (R.ldB (v := .int .i64 sp) rfl hd.B5 rfl) ?_
  refine L.val rfl rfl (R.neI rfl rfl) ?_
  refine L.val rfl rfl (R.as rfl) ?_
  refine L.nil ?_
  refine N.seq ?_
  refine G.ret1 rfl rfl ?_
  exact ⟨rfl, (e1.mono (fun g hg => .inl (by simp at hg ⊢; simp [hg]))).transN e2 (fun g hg => .inl (by simp at hg ⊢; simp [hg])), hd⟩

theorem look3_ok (kk : Int) (ss : List UInt8) (b4 b5 b16 b17 : Nat) (a : Option Addr) (n c : Nat) (ps : List (Pr Int)) (Mr : List Nat) (kd kq sp : Int) (vv : List UInt8) (i : Nat) (b18 k : Nat) (w : World) (hd : LkI ps 3 4 64 66 77 a n c Mr b4 b5 b16 b17 #[.int .i64 kd, .int .i64 kq, .int .i64 sp, .string (str vv)] ((i : Int)) w) (B18 : Blk w b18 #[.int .i64 (k : Int)] 3 (0, 0)) (n18 : b16 ≠ b18) (hkl : k ≤ 1000) (hn : n = ps.length) (hok : OkP 1 ps) (hp : ps[i]? = some (kk, [.string (str ss)])) (hnl : n ≤ 1000) : Meets Try.prog 120 [.int .i64 kk, .string (str ss), .pointer (some ⟨b17, 0, none⟩), .pointer (some ⟨b16, 0, none⟩), .pointer (some ⟨b4, 0, none⟩), .pointer (some ⟨b18, 0, none⟩), .pointer (some ⟨b5, 0, none⟩)] w (fun v w' => v = .bool (decide ((k : Int) + 1 ≠ sp)) ∧ Ext [b16, b17, b18] w w' ∧ LkI ps 3 4 64 66 77 a n c Mr b4 b5 b16 b17 #[.int .i64 kd, .int .i64 kq, .int .i64 sp, .string (str vv)] ((i : Int) + 1) w' ∧ Blk w' b18 #[.int .i64 ((k : Int) + 1)] 3 (0, 0)) := by
  refine Meets.enter Try.func120 rfl 35 rfl (Nat.le_of_ble_eq_true rfl) ?_
  have hil : i < n := by rw [hn]; exact (List.getElem?_eq_some_iff.1 hp).1
  have n1 : b16 ≠ b17 := hd.B16.ne hd.B17 (by decide)
  have n2 : b4 ≠ b16 := hd.B4.ne hd.B16 (by decide)
  have n3 : b4 ≠ b17 := hd.B4.ne hd.B17 (by decide)
  have n4 : b5 ≠ b16 := hd.B5.ne hd.B16 (by decide)
  have n5 : b5 ≠ b17 := hd.B5.ne hd.B17 (by decide)
  have n6 : ∀ g ∈ Mr, g ≠ b16 := fun g hg => by obtain ⟨_, hq9⟩ := hd.row.typ g hg; exact hq9.ne hd.B16 (by decide)
  have n7 : ∀ g ∈ Mr, g ≠ b17 := fun g hg => by obtain ⟨_, hq9⟩ := hd.row.typ g hg; exact hq9.ne hd.B17 (by decide)
  obtain ⟨q, hq, hcl⟩ := (Tab.pairs hd.row.cells hn hok).at (by decide) i (by rw [List.length_map]; omega)
  have he : (ps.map pcell)[i]'(by rw [List.length_map]; omega) = pcell (kk, [.string (str ss)]) := by rw [List.getElem_map]; exact congrArg pcell (List.getElem?_eq_some_iff.1 hp).2
  rw [he] at hcl
  replace hcl : Cells _ _ [.int .i64 kk, .string (str ss)] := hcl
  have m1 : b18 ≠ b17 := B18.ne hd.B17 (by decide)
  have m2 : b4 ≠ b18 := hd.B4.ne B18 (by decide)
  have m4 : b5 ≠ b18 := hd.B5.ne B18 (by decide)
  have m6 : ∀ g ∈ Mr, g ≠ b18 := fun g hg => by obtain ⟨_, hq9⟩ := hd.row.typ g hg; exact hq9.ne B18 (by decide)
  refine G.seq ?_
  refine G.region ?_
  refine L.val rfl rfl (R.as rfl) ?_
  refine L.nil ?_
  refine N.seq ?_
  refine G.seq ?_
  refine G.region ?_
  refine L.val rfl rfl (R.ldB rfl hd.B17 rfl) ?_
  refine L.val rfl rfl (R.mv rfl) ?_
  refine L.isT 11 rfl (by rfl) ?_
  refine L.val rfl rfl (R.ldB rfl hd.B16 rfl) ?_
  refine L.val rfl rfl (R.ldB rfl hd.B4 rfl) ?_
  refine L.val rfl rfl (R.lenS rfl) ?_
  refine L.val rfl rfl (R.lss rfl rfl) ?_
  first | refine L.val rfl rfl (R.pickT rfl rfl) ?_ | refine L.val rfl rfl (R.pickF rfl rfl) ?_
  refine L.val rfl rfl (R.mv rfl) ?_
  refine L.isT 17 rfl (by simp; omega) ?_
  refine L.val rfl rfl (R.ldB rfl hd.B4 rfl) ?_
  refine L.val rfl rfl (R.ldB rfl hd.B16 rfl) ?_
  refine L.val rfl rfl (R.idx rfl rfl (by omega) (by omega) q hq) ?_
  refine L.val rfl rfl (R.ldN (vs := [.int .i64 kk, .string (str ss)]) rfl hcl rfl) ?_
  refine L.val rfl rfl (R.mv rfl) ?_
  refine L.val rfl rfl (R.mv rfl) ?_
  refine L.val rfl rfl (R.build (cs := #[.int .i64 kk, .string (str ss)]) rfl rfl) ?_
  refine L.val rfl rfl (R.eqS rfl rfl rfl rfl (b := true) (by simp [eqL, veq])) ?_
  first | refine L.val rfl rfl (R.pickT rfl rfl) ?_ | refine L.val rfl rfl (R.pickF rfl rfl) ?_
  refine L.set rfl (R.st rfl rfl hd.B17 (by show 0 < 1; decide) rfl) ?_
  rintro w1 ⟨e1, hs1, B17⟩
  replace B17 : Blk w1 b17 #[.bool true] 4 (0, 0) := B17
  replace hd : LkI ps 3 4 64 66 77 a n c Mr b4 b5 b16 b17 #[.int .i64 kd, .int .i64 kq, .int .i64 sp, .string (str vv)] ((i : Int)) w1 := ⟨hd.B16.ext e1 (by simpa using n1), B17, hd.B4.ext e1 (by simpa using n3), hd.B5.ext e1 (by simpa using n5), hd.row.ext e1 (fun g hg h => n7 g hg (List.mem_singleton.1 h))⟩
  replace B18 := B18.ext e1 (by simpa using m1)
  refine L.nil ?_
  refine N.seq ?_
  refine G.seq ?_
  refine G.region ?_
  refine L.val rfl rfl (R.ldB rfl hd.B16 rfl) ?_
  refine L.val rfl rfl (R.add rfl rfl (by omega)) ?_
  refine L.set rfl (R.st rfl rfl hd.B16 (by show 0 < 1; decide) rfl) ?_
  rintro w2 ⟨e2, hs2, B16⟩
  replace B16 : Blk w2 b16 #[.int .i64 ((i : Int) + 1)] 3 (0, 0) := B16
  replace hd : LkI ps 3 4 64 66 77 a n c Mr b4 b5 b16 b17 #[.int .i64 kd, .int .i64 kq, .int .i64 sp, .string (str vv)] ((i : Int) + 1) w2 := ⟨B16, hd.B17.ext e2 (by simpa using Ne.symm n1), hd.B4.ext e2 (by simpa using n2), hd.B5.ext e2 (by simpa using n4), hd.row.ext e2 (fun g hg h => n6 g hg (List.mem_singleton.1 h))⟩
  replace B18 := B18.ext e2 (by simpa using Ne.symm n18)
  refine L.nil ?_
  refine N.seq ?_
  refine G.seq ?_
  refine G.region ?_
  refine L.val rfl rfl (R.ldB rfl B18 rfl) ?_
  refine L.val rfl rfl (R.add rfl rfl (by omega)) ?_
  refine L.set rfl (R.st rfl rfl B18 (by show 0 < 1; decide) rfl) ?_
  rintro w3 ⟨e3, hs3, B18⟩
  replace B18 : Blk w3 b18 #[.int .i64 ((k : Int) + 1)] 3 (0, 0) := B18
  replace hd : LkI ps 3 4 64 66 77 a n c Mr b4 b5 b16 b17 #[.int .i64 kd, .int .i64 kq, .int .i64 sp, .string (str vv)] ((i : Int) + 1) w3 := ⟨hd.B16.ext e3 (by simpa using n18), hd.B17.ext e3 (by simpa using Ne.symm m1), hd.B4.ext e3 (by simpa using m2), hd.B5.ext e3 (by simpa using m4), hd.row.ext e3 (fun g hg h => m6 g hg (List.mem_singleton.1 h))⟩
  refine L.nil ?_
  refine N.seq ?_
  refine G.seq ?_
  refine G.region ?_
  refine L.val rfl rfl (R.ldB rfl B18 rfl) ?_
  refine L.val rfl rfl (R.fld rfl) ?_
  refine L.val rfl rfl (R.ldB (v := .int .i64 sp) rfl hd.B5 rfl) ?_
  refine L.val rfl rfl (R.neI rfl rfl) ?_
  refine L.val rfl rfl (R.as rfl) ?_
  refine L.nil ?_
  refine N.seq ?_
  refine G.ret1 rfl rfl ?_
  exact ⟨rfl, ((e1.mono (fun g hg => .inl (by simp at hg ⊢; simp [hg]))).transN e2 (fun g hg => .inl (by simp at hg ⊢; simp [hg]))).transN e3 (fun g hg => .inl (by simp at hg ⊢; simp [hg])), hd, B18⟩

end Go.Proofs.Ythpolibakkmmeaa
