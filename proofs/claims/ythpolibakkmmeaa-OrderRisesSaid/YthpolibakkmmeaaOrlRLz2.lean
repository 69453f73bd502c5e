/-
  Texts of this claim, put together.
-/
import Derived.Stop.BytesEq
import Derived.Laws.Cover3
import Derived.Test.YthpolibakkmmeaaOrlRLz1
/-
  The walks of package order.
-/
set_option linter.unusedVariables false
set_option linter.unusedSimpArgs false
set_option maxRecDepth 4000
namespace Go.Proofs.Ythpolibakkmmeaa
open Go Brv
theorem pallS_ok (a : Option Addr) (n c : Nat) (w : World) : Meets Try.prog 178 [.slice a n c] w (fun v w' => ∃ b0, v = .func (.func 217) #[] #[.pointer (some ⟨b0, 0, none⟩)] ∧ Ext [] w w' ∧ Blk w' b0 #[.slice a n c] 189 (0, 0) ∧ w.heap.size ≤ b0) := by
  refine Meets.enter Try.func178 rfl 4 rfl (Nat.le_of_ble_eq_true rfl) ?_
  have E := Ext.refl [] w
  refine G.seq ?_
  refine G.region ?_
  refine L.do rfl rfl (R.box rfl) ?_
  rintro _ w1 ⟨b0, rfl, hb1, hs1, e1, B1⟩
  replace E := E.trans0 e1
  refine L.val rfl rfl (R.as rfl) ?_
  refine L.nil ?_
  refine N.seq ?_
  refine G.seq ?_
  refine G.region ?_
  refine L.val rfl rfl (R.mkFunc rfl rfl) ?_
  refine L.val rfl rfl (R.as rfl) ?_
  refine L.nil ?_
  refine N.seq ?_
  refine G.ret1 rfl rfl ?_
  exact ⟨b0, rfl, E, B1, by omega⟩

theorem pall1S_ok (y : Value) (b0 : Nat) (a : Option Addr) (n c : Nat) (ps : List (Pr (Int))) (Ma : List Nat) (D₀ : List Nat) (J Jx : Nat → List Nat → World → Prop) (w : World) (hB0 : Blk w b0 #[.slice a n c] 189 (0, 0)) (ho : Own w 194 (1 + 1) a n c (pcells ps) Ma) (hn : n = ps.length) (hok : OkP 1 ps) (hnl : n ≤ 1000000) (hD : ∀ g ∈ D₀, g < w.heap.size ∧ g ∉ b0 :: Ma ∧ g ∉ ([] : List Nat)) (hJ : ∀ k D W₁ W₂ M', J k D W₁ → Ext M' W₁ W₂ → (∀ g ∈ M', g ∉ D ∧ (g ∈ ([] : List Nat) ∨ w.heap.size ≤ g)) → J k D W₂) (hJx : ∀ k D W₁ W₂ M', Jx k D W₁ → Ext M' W₁ W₂ → (∀ g ∈ M', g ∉ D ∧ (g ∈ ([] : List Nat) ∨ w.heap.size ≤ g)) → Jx k D W₂) (hY : ∀ k D vs W₁, k < n → J k D W₁ → prE (fun k => ps[k]?) k vs W₁ → (∀ g ∈ D, g < W₁.heap.size) → YCall Try.prog y vs W₁ fun b W₂ => ∃ D', Ext D W₁ W₂ ∧ (∀ g ∈ D', g < W₂.heap.size ∧ (g ∈ D ∨ W₁.heap.size ≤ g)) ∧ (b = true → J (k + 1) D' W₂) ∧ (b = false → Jx (k + 1) D' W₂)) (h0 : J 0 D₀ w) : Meets Try.prog 217 [y, .pointer (some ⟨b0, 0, none⟩)] w (fun _ W₂ => (∃ D, J n D W₂ ∧ True) ∨ ∃ k D, k ≤ n ∧ Jx k D W₂ ∧ True) := by
  refine Meets.enter Try.func217 rfl 18 rfl (Nat.le_of_ble_eq_true rfl) ?_
  have hb0D : b0 ∉ D₀ := fun h => (hD _ h).2.1 (by simp)
  have hMD : ∀ g ∈ Ma, g ∉ D₀ := fun g hg h => (hD _ h).2.1 (by simp [hg])
  refine G.seq ?_
  refine G.region ?_
  refine L.val rfl rfl (R.ldB rfl hB0 rfl) ?_
  refine L.val rfl rfl (R.lenS rfl) ?_
  refine L.val rfl rfl (R.mv rfl) ?_
  refine L.nil ?_
  refine N.seq ?_
  refine G.block ?_
  refine G.loop (X := Nat) (fun i => [(0, y), (5, .slice a n c), (6, .int .i64 (n : Int)), (7, .int .i64 (i : Int))]) (fun i w' => i ≤ n ∧ (∃ D, J i D w' ∧ ∀ g ∈ D, g < w'.heap.size ∧ (g ∈ D₀ ∨ w.heap.size ≤ g)) ∧ Ext D₀ w w') (fun i => n - i) (0) (Sub.cons rfl (Sub.cons rfl (Sub.cons rfl (Sub.cons rfl (Sub.nil _))))) ⟨Nat.zero_le _, ⟨D₀, h0, fun g hg => ⟨(hD g hg).1, .inl hg⟩⟩, Ext.refl _ _⟩ ?_
  rintro i w1 ⟨hi, ⟨D, hJi, hDD⟩, e1⟩
  have ho1 := ho.ext e1 hMD
  have B0 := hB0.ext e1 hb0D
  refine G.seq ?_
  refine G.region ?_
  refine L.val rfl rfl (R.lss rfl rfl) ?_
  refine L.nil ?_
  refine N.seq ?_
  refine G.seq ?_
  refine G.condP rfl (fun h0 => ?_) (fun h0 => ?_)
  · have hil : i < n := by omega
    have hes := e1.size
    obtain ⟨p, hp⟩ : ∃ p, ps[i]? = some p := ⟨_, List.getElem?_eq_getElem (by omega)⟩
    obtain ⟨q, hq, hcl⟩ := (Tab.pairs ho1.cells hn hok).at (by decide) i (by rw [List.length_map]; omega)
    have he : (ps.map pcell)[i]'(by rw [List.length_map]; omega) = pcell p := by rw [List.getElem_map]; exact congrArg pcell (List.getElem?_eq_some_iff.1 hp).2
    rw [he] at hcl
    have hsz : (pcell p).length = 2 := by show p.2.length + 1 = _; rw [(hok p (List.mem_of_getElem? hp)).1]
    have hsA : (pcell p).toArray.size = 2 := by rw [List.size_toArray]; exact hsz
    have h1c : ∀ u ∈ (pcell p).toArray.toList, u.oneCell' = true := pcell1 (hok p (List.mem_of_getElem? hp)).2
    refine G.skip ?_
    refine N.seq ?_
    refine G.seq ?_
    refine G.block ?_
    refine G.seq ?_
    refine G.region ?_
    refine L.val rfl rfl (R.mv rfl) ?_
    refine L.val rfl rfl (R.idx rfl rfl (by omega) (by omega) q hq) ?_
    refine L.val rfl rfl (R.ldN (vs := pcell p) rfl hcl hsz) ?_
    refine L.do rfl rfl (R.alloc) ?_
    rintro _ w2 ⟨b4, rfl, hb4, hs4, e2, B4⟩
    have hDb : ∀ g ∈ D, g < b4 := fun g hg => by have := (hDD g hg).1; omega
    replace B4 : Blk w2 b4 (.agg #[.int .i64 0, .string ByteArray.empty] : Value).cells 194 (0, 0) := B4
    replace hJi := hJ _ D w1 w2 [] hJi e2 (by simp)
    replace hDD := fun g hg => And.intro (Nat.lt_of_lt_of_le (hDD g hg).1 e2.size) (hDD g hg).2
    replace e1 := e1.trans0 e2
    have hws := e1.size
    refine L.val rfl rfl (R.as rfl) ?_
    refine L.set rfl (R.stN rfl rfl B4 hsA (by show 0 + (pcell p).toArray.size ≤ 2; omega) h1c) ?_
    rintro w3 ⟨e3, hs3, B4⟩
    rw [over_all (show (.agg #[.int .i64 0, .string ByteArray.empty] : Value).cells.size = (pcell p).toArray.size from hsA.symm)] at B4
    replace hJi := hJ _ D w2 w3 [b4] hJi e3 (fun g hg => by rw [List.mem_singleton.1 hg]; exact ⟨fun h => by have := hDb _ h; omega, .inr (by omega)⟩)
    replace hDD := fun g hg => And.intro (Nat.lt_of_lt_of_le (hDD g hg).1 e3.size) (hDD g hg).2
    replace e1 := e1.transN e3 (fun g hg => .inr (by rw [List.mem_singleton.1 hg]; omega))
    refine L.nil ?_
    refine N.seq ?_
    refine G.seq ?_
    refine G.region ?_
    refine L.val rfl rfl (R.mv rfl) ?_
    refine L.val rfl rfl (R.mv rfl) ?_
    refine L.val rfl rfl (R.ldBN rfl B4 hsA) ?_
    refine L.ycall rfl rfl rfl rfl (hY i D _ _ hil hJi ⟨p, _, hp, rfl⟩ (fun g hg => (hDD g hg).1)) ?_
    rintro bb w4 ⟨D2, eD, hD2, hT, hF⟩
    refine L.val rfl rfl (R.not rfl) ?_
    refine L.nil ?_
    refine N.seq ?_
    refine G.condB rfl (fun h1 => ?_) (fun h1 => ?_)
    · obtain rfl : bb = false := by simpa using h1
      refine G.ret0 rfl ?_
      exact .inr ⟨i + 1, D2, by omega, hF rfl, trivial⟩
    · obtain rfl : bb = true := by simpa using h1
      refine G.skip ?_
      refine N.block ?_
      refine N.seq ?_
      refine G.region ?_
      refine L.val rfl rfl (R.add rfl rfl (by omega)) ?_
      refine L.val rfl rfl (R.mv rfl) ?_
      refine L.nil ?_
      exact N.again (i + 1) (by omega) (Sub.cons rfl (Sub.cons rfl (Sub.cons rfl (Sub.cons rfl (Sub.nil _))))) ⟨by omega, ⟨D2, hT rfl, fun g hg => ⟨(hD2 g hg).1, (hD2 g hg).2.elim (fun h => (hDD g h).2) (fun h => .inr (Nat.le_trans e1.size h))⟩⟩, e1.transN eD (fun g hg => (hDD g hg).2)⟩
  · refine G.exit _ rfl ?_
    refine N.end0 rfl ?_
    obtain rfl : i = n := by omega
    exact .inl ⟨D, hJi, trivial⟩

theorem pallS_iter (b0 : Nat) (a : Option Addr) (n c : Nat) (ps : List (Pr (Int))) (Ma : List Nat) (w : World) (hB0 : Blk w b0 #[.slice a n c] 189 (0, 0)) (ho : Own w 194 (1 + 1) a n c (pcells ps) Ma) (hn : n = ps.length) (hok : OkP 1 ps) (hnl : n ≤ 1000000) : Iter Try.prog 217 [.pointer (some ⟨b0, 0, none⟩)] w n (prE (fun k => ps[k]?)) (fun _ _ => True) (b0 :: Ma) [] := by
  intro y D₀ J Jx W hE hD hJ hJx hY h0
  exact pall1S_ok y b0 a n c ps Ma D₀ J Jx W (hB0.ext0 hE) (ho.ext0 hE) hn hok hnl hD (fun k D W₁ W₂ M' h he hm => hJ k D W₁ W₂ M' h he (fun g hg => ⟨(hm g hg).1, (hm g hg).2.imp id (Nat.le_trans hE.size)⟩)) (fun k D W₁ W₂ M' h he hm => hJx k D W₁ W₂ M' h he (fun g hg => ⟨(hm g hg).1, (hm g hg).2.imp id (Nat.le_trans hE.size)⟩)) hY h0

theorem pbackS_ok (a : Option Addr) (n c : Nat) (w : World) : Meets Try.prog 179 [.slice a n c] w (fun v w' => ∃ b0, v = .func (.func 218) #[] #[.pointer (some ⟨b0, 0, none⟩)] ∧ Ext [] w w' ∧ Blk w' b0 #[.slice a n c] 189 (0, 0) ∧ w.heap.size ≤ b0) := by
  refine Meets.enter Try.func179 rfl 4 rfl (Nat.le_of_ble_eq_true rfl) ?_
  have E := Ext.refl [] w
  refine G.seq ?_
  refine G.region ?_
  refine L.do rfl rfl (R.box rfl) ?_
  rintro _ w1 ⟨b0, rfl, hb1, hs1, e1, B1⟩
  replace E := E.trans0 e1
  refine L.val rfl rfl (R.as rfl) ?_
  refine L.nil ?_
  refine N.seq ?_
  refine G.seq ?_
  refine G.region ?_
  refine L.val rfl rfl (R.mkFunc rfl rfl) ?_
  refine L.val rfl rfl (R.as rfl) ?_
  refine L.nil ?_
  refine N.seq ?_
  refine G.ret1 rfl rfl ?_
  exact ⟨b0, rfl, E, B1, by omega⟩

theorem pback1S_ok (y : Value) (b0 : Nat) (a : Option Addr) (n c : Nat) (ps : List (Pr (Int))) (Ma : List Nat) (D₀ : List Nat) (J Jx : Nat → List Nat → World → Prop) (w : World) (hB0 : Blk w b0 #[.slice a n c] 189 (0, 0)) (ho : Own w 194 (1 + 1) a n c (pcells ps) Ma) (hn : n = ps.length) (hok : OkP 1 ps) (hnl : n ≤ 1000000) (hD : ∀ g ∈ D₀, g < w.heap.size ∧ g ∉ b0 :: Ma ∧ g ∉ ([] : List Nat)) (hJ : ∀ k D W₁ W₂ M', J k D W₁ → Ext M' W₁ W₂ → (∀ g ∈ M', g ∉ D ∧ (g ∈ ([] : List Nat) ∨ w.heap.size ≤ g)) → J k D W₂) (hJx : ∀ k D W₁ W₂ M', Jx k D W₁ → Ext M' W₁ W₂ → (∀ g ∈ M', g ∉ D ∧ (g ∈ ([] : List Nat) ∨ w.heap.size ≤ g)) → Jx k D W₂) (hY : ∀ k D vs W₁, k < n → J k D W₁ → prE (fun k => ps.reverse[k]?) k vs W₁ → (∀ g ∈ D, g < W₁.heap.size) → YCall Try.prog y vs W₁ fun b W₂ => ∃ D', Ext D W₁ W₂ ∧ (∀ g ∈ D', g < W₂.heap.size ∧ (g ∈ D ∨ W₁.heap.size ≤ g)) ∧ (b = true → J (k + 1) D' W₂) ∧ (b = false → Jx (k + 1) D' W₂)) (h0 : J 0 D₀ w) : Meets Try.prog 218 [y, .pointer (some ⟨b0, 0, none⟩)] w (fun _ W₂ => (∃ D, J n D W₂ ∧ True) ∨ ∃ k D, k ≤ n ∧ Jx k D W₂ ∧ True) := by
  refine Meets.enter Try.func218 rfl 19 rfl (Nat.le_of_ble_eq_true rfl) ?_
  have hb0D : b0 ∉ D₀ := fun h => (hD _ h).2.1 (by simp)
  have hMD : ∀ g ∈ Ma, g ∉ D₀ := fun g hg h => (hD _ h).2.1 (by simp [hg])
  refine G.seq ?_
  refine G.region ?_
  refine L.val rfl rfl (R.ldB rfl hB0 rfl) ?_
  refine L.val rfl rfl (R.lenS rfl) ?_
  refine L.val rfl rfl (R.sub' rfl rfl (by omega)) ?_
  refine L.be 6 rfl (show _ = Value.int .i64 ((n : Int) - 1 - (0 : Nat)) by congr 1; omega) ?_
  refine L.val rfl rfl (R.as rfl) ?_
  refine L.nil ?_
  refine N.seq ?_
  refine G.block ?_
  refine G.loop (X := Nat) (fun i => [(0, y), (1, .pointer (some ⟨b0, 0, none⟩)), (3, .int .i64 ((n : Int) - 1 - (i : Nat)))]) (fun i w' => i ≤ n ∧ (∃ D, J i D w' ∧ ∀ g ∈ D, g < w'.heap.size ∧ (g ∈ D₀ ∨ w.heap.size ≤ g)) ∧ Ext D₀ w w') (fun i => n - i) (0) (Sub.cons rfl (Sub.cons rfl (Sub.cons rfl (Sub.nil _)))) ⟨Nat.zero_le _, ⟨D₀, h0, fun g hg => ⟨(hD g hg).1, .inl hg⟩⟩, Ext.refl _ _⟩ ?_
  rintro i w1 ⟨hi, ⟨D, hJi, hDD⟩, e1⟩
  have ho1 := ho.ext e1 hMD
  have B0 := hB0.ext e1 hb0D
  refine G.seq ?_
  refine G.seq ?_
  refine G.region ?_
  refine L.val rfl rfl (R.mv rfl) ?_
  refine L.val rfl rfl (R.geq rfl rfl) ?_
  refine L.nil ?_
  refine N.seq ?_
  refine G.condP rfl (fun h0 => ?_) (fun h0 => ?_)
  · have hil : i < n := by omega
    obtain ⟨j, hj⟩ : ∃ j, j = n - 1 - i := ⟨_, rfl⟩
    have hjl : j < n := by omega
    obtain ⟨p, hp⟩ : ∃ p, ps[j]? = some p := ⟨_, List.getElem?_eq_getElem (by omega)⟩
    obtain ⟨q, hq, hcl⟩ := (Tab.pairs ho1.cells hn hok).at (by decide) j (by rw [List.length_map]; omega)
    have he : (ps.map pcell)[j]'(by rw [List.length_map]; omega) = pcell p := by rw [List.getElem_map]; exact congrArg pcell (List.getElem?_eq_some_iff.1 hp).2
    rw [he] at hcl
    have hsz : (pcell p).length = 2 := by show p.2.length + 1 = _; rw [(hok p (List.mem_of_getElem? hp)).1]
    have hsA : (pcell p).toArray.size = 2 := by rw [List.size_toArray]; exact hsz
    have h1c : ∀ u ∈ (pcell p).toArray.toList, u.oneCell' = true := pcell1 (hok p (List.mem_of_getElem? hp)).2
    have hpr : ps.reverse[i]? = some p := by rw [List.getElem?_reverse (by omega), ← hp]; congr 1; omega
    refine G.skip ?_
    refine N.seq ?_
    refine G.seq ?_
    refine G.block ?_
    refine G.seq ?_
    refine G.region ?_
    refine L.val rfl rfl (R.mv rfl) ?_
    refine L.val rfl rfl (R.mv rfl) ?_
    refine L.val rfl rfl (R.ldB rfl B0 rfl) ?_
    refine L.val rfl rfl (R.mv rfl) ?_
    refine L.be 14 rfl (show _ = Value.int .i64 (j : Int) by congr 1; omega) ?_
    refine L.val rfl rfl (R.idx rfl rfl (by omega) (by omega) q hq) ?_
    refine L.val rfl rfl (R.ldN (vs := pcell p) rfl hcl hsz) ?_
    refine L.ycall rfl rfl rfl rfl (hY i D _ _ hil hJi ⟨p, _, hpr, rfl⟩ (fun g hg => (hDD g hg).1)) ?_
    rintro bb w4 ⟨D2, eD, hD2, hT, hF⟩
    refine L.val rfl rfl (R.not rfl) ?_
    refine L.nil ?_
    refine N.seq ?_
    refine G.condB rfl (fun h1 => ?_) (fun h1 => ?_)
    · obtain rfl : bb = false := by simpa using h1
      refine G.ret0 rfl ?_
      exact .inr ⟨i + 1, D2, by omega, hF rfl, trivial⟩
    · obtain rfl : bb = true := by simpa using h1
      refine G.skip ?_
      refine N.block ?_
      refine N.seq ?_
      refine G.region ?_
      refine L.val rfl rfl (R.mv rfl) ?_
      refine L.val rfl rfl (R.sub' rfl rfl (by omega)) ?_
      refine L.be 10 rfl (show _ = Value.int .i64 ((n : Int) - 1 - ((i + 1 : Nat) : Int)) by congr 1; omega) ?_
      refine L.val rfl rfl (R.as rfl) ?_
      refine L.nil ?_
      exact N.again (i + 1) (by omega) (Sub.cons rfl (Sub.cons rfl (Sub.cons rfl (Sub.nil _)))) ⟨by omega, ⟨D2, hT rfl, fun g hg => ⟨(hD2 g hg).1, (hD2 g hg).2.elim (fun h => (hDD g h).2) (fun h => .inr (Nat.le_trans e1.size h))⟩⟩, e1.transN eD (fun g hg => (hDD g hg).2)⟩
  · refine G.exit _ rfl ?_
    refine N.end0 rfl ?_
    obtain rfl : i = n := by omega
    exact .inl ⟨D, hJi, trivial⟩

theorem pbackS_iter (b0 : Nat) (a : Option Addr) (n c : Nat) (ps : List (Pr (Int))) (Ma : List Nat) (w : World) (hB0 : Blk w b0 #[.slice a n c] 189 (0, 0)) (ho : Own w 194 (1 + 1) a n c (pcells ps) Ma) (hn : n = ps.length) (hok : OkP 1 ps) (hnl : n ≤ 1000000) : Iter Try.prog 218 [.pointer (some ⟨b0, 0, none⟩)] w n (prE (fun k => ps.reverse[k]?)) (fun _ _ => True) (b0 :: Ma) [] := by
  intro y D₀ J Jx W hE hD hJ hJx hY h0
  exact pback1S_ok y b0 a n c ps Ma D₀ J Jx W (hB0.ext0 hE) (ho.ext0 hE) hn hok hnl hD (fun k D W₁ W₂ M' h he hm => hJ k D W₁ W₂ M' h he (fun g hg => ⟨(hm g hg).1, (hm g hg).2.imp id (Nat.le_trans hE.size)⟩)) (fun k D W₁ W₂ M' h he hm => hJx k D W₁ W₂ M' h he (fun g hg => ⟨(hm g hg).1, (hm g hg).2.imp id (Nat.le_trans hE.size)⟩)) hY h0

theorem walkS_ok (gf : FuncId) (lb : List Value) (w : World) : Meets Try.prog 177 [.func (.func gf) #[] lb.toArray] w (fun v w' => ∃ b1, v = .func (.func 216) #[] #[.pointer (some ⟨b1, 0, none⟩)] ∧ Ext [] w w' ∧ Blk w' b1 #[.func (.func gf) #[] lb.toArray] 268 (0, 0) ∧ w.heap.size ≤ b1) := by
  refine Meets.enter Try.func177 rfl 4 rfl (Nat.le_of_ble_eq_true rfl) ?_
  have E := Ext.refl [] w
  refine G.seq ?_
  refine G.region ?_
  refine L.do rfl rfl (R.box rfl) ?_
  rintro _ w1 ⟨b1, rfl, hb1, hs1, e1, B1⟩
  replace E := E.trans0 e1
  refine L.val rfl rfl (R.as rfl) ?_
  refine L.nil ?_
  refine N.seq ?_
  refine G.seq ?_
  refine G.region ?_
  refine L.val rfl rfl (R.mkFunc rfl rfl) ?_
  refine L.val rfl rfl (R.as rfl) ?_
  refine L.nil ?_
  refine N.seq ?_
  refine G.ret1 rfl rfl ?_
  exact ⟨b1, rfl, E, B1, by omega⟩

theorem walk1S_ok (y : Value) (b1 : Nat) (gf : FuncId) (lb : List Value) (Nn : Nat) (q : Nat → Option (Pr (Int))) (F : List Nat) (D₀ : List Nat) (J Jx : Nat → List Nat → World → Prop) (w : World) (hB1 : Blk w b1 #[.func (.func gf) #[] lb.toArray] 268 (0, 0)) (eg : ∀ (vs : Array Value) w, (callFunc gf vs).run Try.prog w = .ok (.enter gf vs) w) (hit : ∀ W, Ext [] w W → Iter Try.prog gf lb W Nn (prE q) (fun _ _ => True) F []) (hF : ∀ x ∈ F, x < w.heap.size) (hq : ∀ k (p : Pr (Int)), q k = some p → p.2.length = 1 ∧ ∀ u ∈ p.2, u.oneCell' = true) (hD : ∀ g ∈ D₀, g < w.heap.size ∧ g ∉ b1 :: F ∧ g ∉ ([] : List Nat)) (hJ : ∀ k D W₁ W₂ M', J k D W₁ → Ext M' W₁ W₂ → (∀ g ∈ M', g ∉ D ∧ (g ∈ ([] : List Nat) ∨ w.heap.size ≤ g)) → J k D W₂) (hJx : ∀ k D W₁ W₂ M', Jx k D W₁ → Ext M' W₁ W₂ → (∀ g ∈ M', g ∉ D ∧ (g ∈ ([] : List Nat) ∨ w.heap.size ≤ g)) → Jx k D W₂) (hY : ∀ k D vs W₁, k < Nn → J k D W₁ → (kvE gv1' q) k vs W₁ → (∀ g ∈ D, g < W₁.heap.size) → YCall Try.prog y vs W₁ fun b W₂ => ∃ D', Ext D W₁ W₂ ∧ (∀ g ∈ D', g < W₂.heap.size ∧ (g ∈ D ∨ W₁.heap.size ≤ g)) ∧ (b = true → J (k + 1) D' W₂) ∧ (b = false → Jx (k + 1) D' W₂)) (h0 : J 0 D₀ w) : Meets Try.prog 216 [y, .pointer (some ⟨b1, 0, none⟩)] w (fun _ W₂ => (∃ D, J Nn D W₂ ∧ True) ∨ ∃ k D, k ≤ Nn ∧ Jx k D W₂ ∧ True) := by
  refine Meets.enter Try.func216 rfl 15 rfl (Nat.le_of_ble_eq_true rfl) ?_
  refine G.seq ?_
  refine G.region ?_
  refine L.do rfl rfl (R.box rfl) ?_
  rintro _ w1 ⟨b2, rfl, hb2, hs2, e1, B2⟩
  have hw1 := e1.size
  refine L.nil ?_
  refine N.seq ?_
  refine G.seq ?_
  refine G.region ?_
  refine L.val rfl rfl (R.ldB rfl (hB1.ext0 e1) rfl) ?_
  refine L.nil ?_
  refine N.seq ?_
  refine G.block ?_
  have hD0 : ∀ g ∈ b2 :: D₀, g < w1.heap.size ∧ g ∉ F ∧ g ∉ ([] : List Nat) := by
    intro g hg
    rcases List.mem_cons.1 hg with rfl | hg
    · exact ⟨by omega, fun h => by have := hF _ h; omega, by simp⟩
    · exact ⟨Nat.lt_of_lt_of_le (hD g hg).1 hw1, fun h => (hD g hg).2.1 (List.mem_cons_of_mem _ h), by simp⟩
  have hI0 : wkI J b2 70 y 0 (b2 :: D₀) w1 := ⟨D₀, rfl, fun h => by have := (hD _ h).1; omega, hJ 0 D₀ w w1 [] h0 e1 (by simp), B2⟩
  refine G.range (lb := lb) rfl rfl eg (hit _ e1) (fun _ _ _ h _ => h) (b2 :: D₀) hD0 (fun x h => h.elim (fun h => Nat.lt_of_lt_of_le (hF x h) hw1) (by simp)) (wkI J b2 70 y) (wkX Jx b2) ?_ ?_ hI0 ?_ ?_ ?_
  · rintro k DD W1 W2 M2 ⟨D, rfl, hn2, hj, hb⟩ he hm
    exact ⟨D, rfl, hn2, hJ k D W1 W2 M2 hj he (fun g hg => ⟨fun h => (hm g hg).1 (List.mem_cons_of_mem _ h), (hm g hg).2.imp id (Nat.le_trans hw1)⟩), hb.ext he (fun h => (hm _ h).1 (by simp))⟩
  · rintro c k DD W1 W2 M2 ⟨hc, D, rfl, hn2, hj⟩ he hm
    exact ⟨hc, D, rfl, hn2, hJx k D W1 W2 M2 hj he (fun g hg => ⟨fun h => (hm g hg).1 (List.mem_cons_of_mem _ h), (hm g hg).2.imp id (Nat.le_trans hw1)⟩)⟩
  · rintro l k DD vs W1 hl2 hlt hlD hDl hk ⟨D, rfl, hn2, hj, B2⟩ ⟨p, v0, hp, rfl⟩
    refine ⟨rfl, ?_⟩
    refine G.sub [(7, .agg (pcell p).toArray), (2, .pointer (some ⟨b2, 0, none⟩))] (Sub.cons rfl (Sub.cons rfl (Sub.nil _))) ?_
    have hpl := hq k p hp
    have hsz : (pcell p).length = 2 := by show p.2.length + 1 = _; rw [hpl.1]
    have hsA : (pcell p).toArray.size = 2 := by rw [List.size_toArray]; exact hsz
    have h1c : ∀ u ∈ (pcell p).toArray.toList, u.oneCell' = true := pcell1 hpl.2
    have l2 := B2.lt
    refine G.region ?_
    refine L.do rfl rfl (R.alloc) ?_
    rintro _ w2 ⟨b4, rfl, hb4, hs4, e2, B4⟩
    replace B4 : Blk w2 b4 (.agg #[.int .i64 0, .string ByteArray.empty] : Value).cells 194 (0, 0) := B4
    refine L.set rfl (R.stN rfl rfl B4 hsA (by show 0 + (pcell p).toArray.size ≤ 2; omega) h1c) ?_
    rintro w3 ⟨e3, hs3, B4⟩
    rw [over_all (show (.agg #[.int .i64 0, .string ByteArray.empty] : Value).cells.size = (pcell p).toArray.size from hsA.symm)] at B4
    have hEW := e2.news2 e3 (by omega)
    refine L.nil ?_
    refine N.round (hEW) (fun wb hb1 hb2 => ?_)
    replace B4 := B4.still hb2
    replace B2 := (B2.ext0 hEW).still hb2
    have hjw := hJ k D _ wb [l] (hJ k D W1 _ [] hj hEW (by simp)) hb1 (fun g hg => by rw [List.mem_singleton.1 hg]; exact ⟨fun h => hlD (List.mem_cons_of_mem _ h), .inr (by omega)⟩)
    have hDw : ∀ g ∈ D, g < wb.heap.size := fun g hg => Nat.lt_of_lt_of_le (hDl g (List.mem_cons_of_mem _ hg)) (Nat.le_trans hEW.size hb1.size)
    have l2b := B2.lt
    obtain ⟨x, hx⟩ := List.length_eq_one_iff.1 hpl.1
    have hyc := hY k D [.int .i64 p.1, x] wb hk hjw ⟨p, hp, by rw [hx]; rfl⟩ hDw
    have hcy : y.cells = #[y] := by rcases hyc with ⟨l9, rfl, _⟩ | ⟨f9, u9, c9, rfl, _⟩ <;> rfl
    rw [hcy] at B2
    refine G.block ?_
    refine G.seq ?_
    refine G.region ?_
    refine L.val rfl rfl (R.ldB rfl B2 rfl) ?_
    refine L.val rfl rfl (R.fld rfl) ?_
    refine L.val rfl rfl (R.ldB (v := .int .i64 p.1) rfl B4 rfl) ?_
    refine L.val rfl rfl (R.fld rfl) ?_
    refine L.val rfl rfl (R.ldB (v := x) rfl B4 (by show (Key.val p.1 :: p.2).toArray[1]? = _; rw [hx]; rfl)) ?_
    refine L.ycall rfl rfl rfl rfl hyc ?_
    rintro bb w7 ⟨D2, eD, hD2, hT, hFl⟩
    have X : Ext (b2 :: D) wb w7 := eD.mono (fun g hg => .inl (List.mem_cons_of_mem _ hg))
    have hn3 : b2 ∉ D2 := fun h => (hD2 b2 h).2.elim hn2 (fun h => by omega)
    have hDD : ∀ g ∈ b2 :: D2, g < w7.heap.size ∧ (g ∈ b2 :: D ∨ wb.heap.size ≤ g) := by
      intro g hg
      rcases List.mem_cons.1 hg with rfl | hg
      · exact ⟨Nat.lt_of_lt_of_le l2b eD.size, .inl (by simp)⟩
      · exact ⟨(hD2 g hg).1, (hD2 g hg).2.imp (fun h => List.mem_cons_of_mem _ h) id⟩
    refine L.val rfl rfl (R.not rfl) ?_
    refine L.nil ?_
    refine N.seq ?_
    refine G.condB rfl (fun h0 => ?_) (fun h0 => ?_)
    · obtain rfl : bb = false := by simpa using h0
      refine G.ret fun _ _ => ?_
      exact ⟨b2 :: D2, X, hDD, rfl, D2, rfl, hn3, hFl rfl⟩
    · obtain rfl : bb = true := by simpa using h0
      refine G.skip ?_
      refine N.block ?_
      refine N.done fun _ _ => ?_
      exact ⟨b2 :: D2, X, hDD, D2, rfl, hn3, hT rfl, by rw [hcy]; exact B2.ext eD hn2⟩
  · rintro d DD W2 hd hdD hK ⟨D, rfl, hn2, hj, B2⟩ _
    refine N.block ?_
    refine N.end0M rfl (leave1 hK) ?_
    exact .inl ⟨D, hJ Nn D W2 _ [d] hj (Ext.putObj _ _ _) (fun g hg => by rw [List.mem_singleton.1 hg]; exact ⟨fun h => hdD (List.mem_cons_of_mem _ h), .inr (by omega)⟩), trivial⟩
  · rintro d DD k c W2 hd hdD hK hk ⟨rfl, D, rfl, hn2, hj⟩ _
    refine G.ret0M rfl (leave1 hK) ?_
    exact .inr ⟨k, D, hk, hJx k D W2 _ [d] hj (Ext.putObj _ _ _) (fun g hg => by rw [List.mem_singleton.1 hg]; exact ⟨fun h => hdD (List.mem_cons_of_mem _ h), .inr (by omega)⟩), trivial⟩

theorem walkS_iter (b1 : Nat) (gf : FuncId) (lb : List Value) (Nn : Nat) (q : Nat → Option (Pr (Int))) (F : List Nat) (w : World) (hB1 : Blk w b1 #[.func (.func gf) #[] lb.toArray] 268 (0, 0)) (eg : ∀ (vs : Array Value) w, (callFunc gf vs).run Try.prog w = .ok (.enter gf vs) w) (hit : ∀ W, Ext [] w W → Iter Try.prog gf lb W Nn (prE q) (fun _ _ => True) F []) (hF : ∀ x ∈ F, x < w.heap.size) (hq : ∀ k (p : Pr (Int)), q k = some p → p.2.length = 1 ∧ ∀ u ∈ p.2, u.oneCell' = true) : Iter Try.prog 216 [.pointer (some ⟨b1, 0, none⟩)] w Nn (kvE gv1' q) (fun _ _ => True) (b1 :: F) [] := by
  intro y D₀ J Jx W hE hD hJ hJx hY h0
  exact walk1S_ok y b1 gf lb Nn q F D₀ J Jx W (hB1.ext0 hE) eg (fun W' h => hit W' (hE.trans0 h)) (fun x hx => Nat.lt_of_lt_of_le (hF x hx) hE.size) hq hD (fun k D W₁ W₂ M' h he hm => hJ k D W₁ W₂ M' h he (fun g hg => ⟨(hm g hg).1, (hm g hg).2.imp id (Nat.le_trans hE.size)⟩)) (fun k D W₁ W₂ M' h he hm => hJx k D W₁ W₂ M' h he (fun g hg => ⟨(hm g hg).1, (hm g hg).2.imp id (Nat.le_trans hE.size)⟩)) hY h0

end Go.Proofs.Ythpolibakkmmeaa
/-
  The walks of package order.
-/
set_option linter.unusedVariables false
set_option linter.unusedSimpArgs false
set_option maxRecDepth 4000
namespace Go.Proofs.Ythpolibakkmmeaa
open Go Brv
theorem oallS_ok (m : Nat) (ps : List (Pr (Int))) (S : List Nat) (w : World) (hd : MapAt (κ := Int) 191 194 1 w m ps S) (hl : ps.length ≤ 99999) : Meets Try.prog 115 [.pointer (some ⟨m, 0, none⟩)] w (fun v w' => ∃ lb F, v = .func (.func 216) #[] (lb : List Value).toArray ∧ Ext [] w w' ∧ (∀ W, Ext [] w' W → Iter Try.prog 216 lb W ps.length (kvE gv1' (fun k => ps[k]?)) (fun _ _ => True) F []) ∧ ∀ x ∈ F, w.heap.size ≤ x ∧ x < w'.heap.size) := by
  refine Meets.enter Try.func115 rfl 15 rfl (Nat.le_of_ble_eq_true rfl) ?_
  have E := Ext.refl [] w
  have hd0 := hd
  obtain ⟨a, c, M, rfl, hm0, Bm, om, hok, hs⟩ := hd
  refine G.seq ?_
  refine G.region ?_
  refine L.val rfl rfl (R.as rfl) ?_
  refine L.nil ?_
  refine N.seq ?_
  refine G.seq ?_
  refine G.seq ?_
  refine G.region ?_
  refine L.val rfl rfl (R.mv rfl) ?_
  refine L.val rfl rfl (R.eqNilP rfl rfl) ?_
  refine L.nil ?_
  refine N.seq ?_
  refine G.condF rfl ?_
  refine G.skip ?_
  refine N.seq ?_
  refine G.seq ?_
  refine G.region ?_
  refine L.val rfl rfl (R.mv rfl) ?_
  refine L.val rfl rfl (R.nilChk rfl) ?_
  refine L.val rfl rfl (R.fld rfl) ?_
  refine L.val rfl rfl (R.ldB rfl Bm rfl) ?_
  refine L.callF rfl rfl rfl go121 (scS_ok _ _ _ _ _ om.cells (by rw [om.1]) (pcell_one hok) (by omega)) ?_
  rintro _ w1 ⟨a1, c1, M1, rfl, e1, o1, hM1⟩
  have hE0 := E.size
  replace E := E.trans0 e1
  have hl1 := o1.lt
  have hE1 := E.size
  refine L.callF rfl rfl rfl go178 (pallS_ok a1 ps.length c1 _) ?_
  rintro _ w2 ⟨b0, rfl, e2, B0, hb0⟩
  have hE2 := E.size
  replace E := E.trans0 e2
  replace o1 := o1.ext0 e2
  have l0 := B0.lt
  have hE3 := E.size
  refine L.callF rfl rfl rfl go177 (walkS_ok 217 [.pointer (some ⟨b0, 0, none⟩)] _) ?_
  rintro _ w3 ⟨b1, rfl, e3, B1, hb1⟩
  replace E := E.trans0 e3
  replace o1 := o1.ext0 e3
  replace B0 := B0.ext0 e3
  have l1 := B1.lt
  have hs3 := e3.size
  have hs2 := e2.size
  have hFl : ∀ y ∈ b1 :: b0 :: M1, w.heap.size ≤ y ∧ y < w3.heap.size := by
    intro y hy
    simp only [List.mem_cons] at hy
    rcases hy with rfl | rfl | hy
    · exact ⟨by omega, l1⟩
    · exact ⟨by omega, by omega⟩
    · have := hl1 y hy; have := hM1 y hy; exact ⟨by omega, by omega⟩
  refine L.val rfl rfl (R.as rfl) ?_
  refine L.nil ?_
  refine N.seq ?_
  refine G.ret1 rfl rfl ?_
  exact ⟨[.pointer (some ⟨b1, 0, none⟩)], b1 :: b0 :: M1, rfl, E, fun W hW => walkS_iter b1 217 [.pointer (some ⟨b0, 0, none⟩)] ps.length (fun k => ps[k]?) (b0 :: M1) W (B1.ext0 hW) go217 (fun W' h => pallS_iter b0 a1 ps.length c1 ps M1 W' (B0.ext0 (hW.trans0 h)) (o1.ext0 (hW.trans0 h)) (by simp) hok (by omega)) (fun y hy => Nat.lt_of_lt_of_le (hFl y (List.mem_cons_of_mem _ hy)).2 hW.size) (fun k p hp => hok p (List.mem_of_getElem? hp)), hFl⟩

theorem ofromS_ok (m : Nat) (ps : List (Pr (Int))) (S : List Nat) (k : Int) (w : World) (hd : MapAt (κ := Int) 191 194 1 w m ps S) (hl : ps.length ≤ 99999) : Meets Try.prog 119 [.pointer (some ⟨m, 0, none⟩), .int .i64 k] w (fun v w' => ∃ lb F, v = .func (.func 216) #[] (lb : List Value).toArray ∧ Ext [] w w' ∧ (∀ W, Ext [] w' W → Iter Try.prog 216 lb W (ps.drop (low ps k)).length (kvE gv1' (fun j => (ps.drop (low ps k))[j]?)) (fun _ _ => True) F []) ∧ ∀ x ∈ F, w.heap.size ≤ x ∧ x < w'.heap.size) := by
  refine Meets.enter Try.func119 rfl 26 rfl (Nat.le_of_ble_eq_true rfl) ?_
  have E := Ext.refl [] w
  have hd0 := hd
  obtain ⟨a, c, M, rfl, hm0, Bm, om, hok, hs⟩ := hd
  refine G.seq ?_
  refine G.region ?_
  refine L.val rfl rfl (R.as rfl) ?_
  refine L.nil ?_
  refine N.seq ?_
  refine G.seq ?_
  refine G.seq ?_
  refine G.region ?_
  refine L.val rfl rfl (R.mv rfl) ?_
  refine L.val rfl rfl (R.eqNilP rfl rfl) ?_
  refine L.nil ?_
  refine N.seq ?_
  refine G.condF rfl ?_
  refine G.skip ?_
  refine N.seq ?_
  refine G.seq ?_
  refine G.region ?_
  refine L.val rfl rfl (R.mv rfl) ?_
  refine L.val rfl rfl (R.mv rfl) ?_
  refine L.callF rfl rfl rfl go111 (findS_ok m ps (m :: M) k _ hd0 (by omega)) ?_
  rintro _ w1 ⟨rfl, e1⟩
  replace E := E.trans0 e1
  replace Bm := Bm.ext0 e1
  replace om := om.ext0 e1
  refine L.val rfl rfl (R.mv rfl) ?_
  refine L.val rfl rfl (R.ext rfl rfl) ?_
  refine L.val rfl rfl (R.ext rfl rfl) ?_
  refine L.val rfl rfl (R.as rfl) ?_
  refine L.val rfl rfl (R.as rfl) ?_
  refine L.nil ?_
  refine N.seq ?_
  refine G.seq ?_
  refine G.region ?_
  have hlo := low_le ps k
  have hle := om.le
  have hCd : Cells w1 (subA a (low ps k) c 2) (pcells (ps.drop (low ps k))) := by
    by_cases h9 : low ps k < ps.length
    · have h8 := (om.cells).sub (low ps k) c 2 ((ps.length - low ps k) * 2) (by rw [om.1, show 1 + 1 = 2 from rfl, ← Nat.add_mul]; exact Nat.mul_le_mul_right _ (by omega)) (by omega)
      rw [show (pcells ps).drop (low ps k * 2) = _ from (pcells_take (sv := 1) hok.len (low ps k) hlo).2, List.take_of_length_le (by rw [pcells_len (sv := 1) (fun q hq => (hok q (List.mem_of_mem_drop hq)).1), List.length_drop]; exact Nat.le_refl _)] at h8
      exact h8
    · rw [List.drop_of_length_le (by omega)]
      intro j v hj
      cases hj
  refine L.val rfl rfl (R.mv rfl) ?_
  refine L.val rfl rfl (R.nilChk rfl) ?_
  refine L.val rfl rfl (R.fld rfl) ?_
  refine L.val rfl rfl (R.ldB rfl Bm rfl) ?_
  refine L.val rfl rfl (R.mv rfl) ?_
  refine L.val rfl rfl (R.slL rfl rfl (by omega) (by omega)) ?_
  refine L.be 22 rfl (show _ = Value.slice (subA a (low ps k) c 2) (ps.drop (low ps k)).length (c - low ps k) by rw [Int.toNat_natCast, List.length_drop]) ?_
  refine L.callF rfl rfl rfl go121 (scS_ok _ _ _ _ _ hCd (by rw [pcells_len (sv := 1) (fun q hq => (hok q (List.mem_of_mem_drop hq)).1)]) (pcell_one (sv := 1) (fun q hq => hok q (List.mem_of_mem_drop hq))) (by rw [List.length_drop]; omega)) ?_
  rintro _ w2 ⟨a1, c1, M1, rfl, e2, o1, hM1⟩
  have hE0 := E.size
  replace E := E.trans0 e2
  have hl1 := o1.lt
  have hE1 := E.size
  refine L.callF rfl rfl rfl go178 (pallS_ok a1 (ps.drop (low ps k)).length c1 _) ?_
  rintro _ w3 ⟨b0, rfl, e3, B0, hb0⟩
  have hE2 := E.size
  replace E := E.trans0 e3
  replace o1 := o1.ext0 e3
  have l0 := B0.lt
  have hE3 := E.size
  refine L.callF rfl rfl rfl go177 (walkS_ok 217 [.pointer (some ⟨b0, 0, none⟩)] _) ?_
  rintro _ w4 ⟨b1, rfl, e4, B1, hb1⟩
  replace E := E.trans0 e4
  replace o1 := o1.ext0 e4
  replace B0 := B0.ext0 e4
  have l1 := B1.lt
  have hs3 := e4.size
  have hs2 := e3.size
  have hFl : ∀ y ∈ b1 :: b0 :: M1, w.heap.size ≤ y ∧ y < w4.heap.size := by
    intro y hy
    simp only [List.mem_cons] at hy
    rcases hy with rfl | rfl | hy
    · exact ⟨by omega, l1⟩
    · exact ⟨by omega, by omega⟩
    · have := hl1 y hy; have := hM1 y hy; exact ⟨by omega, by omega⟩
  refine L.val rfl rfl (R.as rfl) ?_
  refine L.nil ?_
  refine N.seq ?_
  refine G.ret1 rfl rfl ?_
  exact ⟨[.pointer (some ⟨b1, 0, none⟩)], b1 :: b0 :: M1, rfl, E, fun W hW => walkS_iter b1 217 [.pointer (some ⟨b0, 0, none⟩)] (ps.drop (low ps k)).length (fun j => (ps.drop (low ps k))[j]?) (b0 :: M1) W (B1.ext0 hW) go217 (fun W' h => pallS_iter b0 a1 (ps.drop (low ps k)).length c1 (ps.drop (low ps k)) M1 W' (B0.ext0 (hW.trans0 h)) (o1.ext0 (hW.trans0 h)) (by simp) (fun p hp => hok p (List.mem_of_mem_drop hp)) (by rw [List.length_drop]; omega)) (fun y hy => Nat.lt_of_lt_of_le (hFl y (List.mem_cons_of_mem _ hy)).2 hW.size) (fun k p hp => hok p (List.mem_of_mem_drop (List.mem_of_getElem? hp))), hFl⟩

theorem odownS_ok (m : Nat) (ps : List (Pr (Int))) (S : List Nat) (w : World) (hd : MapAt (κ := Int) 191 194 1 w m ps S) (hl : ps.length ≤ 99999) : Meets Try.prog 117 [.pointer (some ⟨m, 0, none⟩)] w (fun v w' => ∃ lb F, v = .func (.func 216) #[] (lb : List Value).toArray ∧ Ext [] w w' ∧ (∀ W, Ext [] w' W → Iter Try.prog 216 lb W ps.length (kvE gv1' (fun k => ps.reverse[k]?)) (fun _ _ => True) F []) ∧ ∀ x ∈ F, w.heap.size ≤ x ∧ x < w'.heap.size) := by
  refine Meets.enter Try.func117 rfl 14 rfl (Nat.le_of_ble_eq_true rfl) ?_
  have E := Ext.refl [] w
  have hd0 := hd
  obtain ⟨a, c, M, rfl, hm0, Bm, om, hok, hs⟩ := hd
  refine G.seq ?_
  refine G.region ?_
  refine L.val rfl rfl (R.as rfl) ?_
  refine L.nil ?_
  refine N.seq ?_
  refine G.seq ?_
  refine G.seq ?_
  refine G.region ?_
  refine L.val rfl rfl (R.mv rfl) ?_
  refine L.val rfl rfl (R.eqNilP rfl rfl) ?_
  refine L.nil ?_
  refine N.seq ?_
  refine G.condF rfl ?_
  refine G.skip ?_
  refine N.seq ?_
  refine G.seq ?_
  refine G.region ?_
  refine L.val rfl rfl (R.mv rfl) ?_
  refine L.val rfl rfl (R.nilChk rfl) ?_
  refine L.val rfl rfl (R.fld rfl) ?_
  refine L.val rfl rfl (R.ldB rfl Bm rfl) ?_
  refine L.callF rfl rfl rfl go121 (scS_ok _ _ _ _ _ om.cells (by rw [om.1]) (pcell_one hok) (by omega)) ?_
  rintro _ w1 ⟨a1, c1, M1, rfl, e1, o1, hM1⟩
  have hE0 := E.size
  replace E := E.trans0 e1
  have hl1 := o1.lt
  have hE1 := E.size
  refine L.callF rfl rfl rfl go179 (pbackS_ok a1 ps.length c1 _) ?_
  rintro _ w2 ⟨b0, rfl, e2, B0, hb0⟩
  have hE2 := E.size
  replace E := E.trans0 e2
  replace o1 := o1.ext0 e2
  have l0 := B0.lt
  have hE3 := E.size
  refine L.callF rfl rfl rfl go177 (walkS_ok 218 [.pointer (some ⟨b0, 0, none⟩)] _) ?_
  rintro _ w3 ⟨b1, rfl, e3, B1, hb1⟩
  replace E := E.trans0 e3
  replace o1 := o1.ext0 e3
  replace B0 := B0.ext0 e3
  have l1 := B1.lt
  have hs3 := e3.size
  have hs2 := e2.size
  have hFl : ∀ y ∈ b1 :: b0 :: M1, w.heap.size ≤ y ∧ y < w3.heap.size := by
    intro y hy
    simp only [List.mem_cons] at hy
    rcases hy with rfl | rfl | hy
    · exact ⟨by omega, l1⟩
    · exact ⟨by omega, by omega⟩
    · have := hl1 y hy; have := hM1 y hy; exact ⟨by omega, by omega⟩
  refine L.val rfl rfl (R.as rfl) ?_
  refine L.nil ?_
  refine N.seq ?_
  refine G.ret1 rfl rfl ?_
  exact ⟨[.pointer (some ⟨b1, 0, none⟩)], b1 :: b0 :: M1, rfl, E, fun W hW => walkS_iter b1 218 [.pointer (some ⟨b0, 0, none⟩)] ps.length (fun k => ps.reverse[k]?) (b0 :: M1) W (B1.ext0 hW) go218 (fun W' h => pbackS_iter b0 a1 ps.length c1 ps M1 W' (B0.ext0 (hW.trans0 h)) (o1.ext0 (hW.trans0 h)) (by simp) hok (by omega)) (fun y hy => Nat.lt_of_lt_of_le (hFl y (List.mem_cons_of_mem _ hy)).2 hW.size) (fun k p hp => hok p (List.mem_reverse.1 (List.mem_of_getElem? hp))), hFl⟩

theorem okeysS_ok (m : Nat) (ps : List (Pr (Int))) (S : List Nat) (w : World) (hd : MapAt (κ := Int) 191 194 1 w m ps S) (hl : ps.length ≤ 99999) : Meets Try.prog 54 [.pointer (some ⟨m, 0, none⟩)] w (Cloned w 3 1 ps.length (ps.map fun p => Key.val p.1)) := by
  refine Meets.enter Try.func54 rfl 14 rfl (Nat.le_of_ble_eq_true rfl) ?_
  have E := Ext.refl [] w
  refine G.seq ?_
  refine G.region ?_
  refine L.val rfl rfl (R.as rfl) ?_
  refine L.nil ?_
  refine N.seq ?_
  refine G.seq ?_
  refine G.region ?_
  refine L.do rfl rfl (R.alloc) ?_
  rintro _ w1 ⟨b3, rfl, hb3, hs3, e1, B3⟩
  replace B3 : Blk w1 b3 #[.slice none 0 0] 36 (0, 0) := B3
  replace E := E.trans0 e1
  refine L.nil ?_
  refine N.seq ?_
  refine G.seq ?_
  refine G.seq ?_
  refine G.region ?_
  refine L.val rfl rfl (R.mv rfl) ?_
  refine L.callF rfl rfl rfl go115 (oallS_ok m ps S _ (hd.ext0 E) hl) ?_
  rintro _ w2 ⟨lb, Fp, rfl, e2, hit, hFp⟩
  have hE1 := E.size
  replace E := E.trans0 e2
  have l3 := B3.lt
  replace B3 := B3.ext0 e2
  have hE2 := E.size
  have hFn : b3 ∉ Fp := fun h => by have := hFp _ h; omega
  refine L.nil ?_
  refine N.seq ?_
  refine G.block ?_
  have hD0 : ∀ y ∈ [b3], y < w2.heap.size ∧ y ∉ Fp ∧ y ∉ ([] : List Nat) := by
    intro y hy
    rw [List.mem_singleton] at hy
    subst hy
    exact ⟨B3.lt, hFn, by simp⟩
  have hI0 : keysI ps 36 3 b3 w 0 [b3] w2 := ⟨none, 0, [], rfl, B3, Own.nil _ _ _, by simp, by omega, E⟩
  refine G.range (lb := lb) rfl rfl go216 (hit _ (Ext.refl _ _)) (fun _ _ _ h _ => h) [b3] hD0 (fun y h => h.elim (fun h => (hFp y h).2) (by simp)) (keysI ps 36 3 b3 w) (fun _ _ _ _ => False) (fun k D W1 W2 M2 h he hm => keysI_keep hE2 h he hm) (fun _ _ _ _ _ _ h _ _ => h) hI0 ?_ ?_ ?_
  · rintro l k D vs W1 hl2 hlt hlD hDl hk hIk ⟨p, hp, rfl⟩
    refine ⟨rfl, ?_⟩
    refine G.sub [(7, .int .i64 p.1), (3, .pointer (some ⟨b3, 0, none⟩))] (Sub.cons rfl (Sub.cons rfl (Sub.nil _))) ?_
    refine G.region ?_
    refine L.val rfl rfl (R.as rfl) ?_
    refine L.nil ?_
    refine N.round (Ext.refl _ _) (fun wb hb1 hb2 => ?_)
    obtain ⟨a1, c1, MB, rfl, B3, o, hMB, h3, E⟩ := hIk
    replace B3 := B3.still hb2
    replace o := o.still hb2
    replace E := E.transN hb1 (fun g hg => .inr (by rw [List.mem_singleton.1 hg]; omega))
    have hEb := E.size
    have l3 := B3.lt
    have hlo := o.lt
    have hn3 : b3 ∉ MB := fun h => (hMB _ h).2 rfl
    refine G.block ?_
    refine G.region ?_
    refine L.val rfl rfl (R.ldB rfl B3 rfl) ?_
    refine L.val rfl rfl (R.mv rfl) ?_
    refine L.do rfl rfl (R.buildA rfl rfl rfl rfl rfl) ?_
    rintro _ w6 ⟨b11, rfl, hb11, hs6, e6, B11⟩
    replace B11 : Blk w6 b11 #[.int .i64 p.1] 3 (0, 0) := B11
    have X6 : Ext (b3 :: MB) wb w6 := e6.mono (by simp)
    replace E := E.trans0 e6
    replace B3 := B3.ext0 e6
    replace o := o.ext0 e6
    have hs6e := e6.size
    refine L.do rfl rfl (R.app rfl rfl o (Cells.of_blk B11 0 [.int .i64 p.1] (fun j v hj => by simpa using hj)) rfl (by intro u hu; rw [List.mem_singleton.1 hu]; rfl) (by simp [maxLen]; omega) (by omega)) ?_
    rintro _ w7 ⟨a3, c3, M3, rfl, e7, hM3, o3⟩
    replace B3 := B3.ext e7 hn3
    replace E : Ext [] w w7 := E.trans e7 (by simp) (fun g hg => .inr (hMB g hg).1)
    have hs7 := e7.size
    replace o3 : Own w7 3 1 a3 (k + 1) c3 ((ps.take (k + 1)).map fun p => Key.val p.1) M3 := by rw [← keys_succ hp]; exact o3
    have hM4 : ∀ g ∈ M3, w.heap.size ≤ g ∧ g ≠ b3 := fun g hg => (hM3 g hg).elim (hMB g) (fun h => ⟨by omega, by omega⟩)
    refine L.set rfl (R.st rfl rfl B3 (by show 0 < 1; decide) rfl) ?_
    rintro w8 ⟨e8, hs8, B3⟩
    replace B3 : Blk w8 b3 #[.slice a3 (k + 1) c3] 36 (0, 0) := B3
    replace o3 := o3.ext e8 (by intro g hg h; exact (hM4 g hg).2 (List.mem_singleton.1 h))
    replace E : Ext [] w w8 := E.trans e8 (by simp) (fun g hg => .inr (by rw [List.mem_singleton.1 hg]; exact h3))
    have hlo3 := o3.lt
    have X : Ext (b3 :: MB) wb w8 := (X6.transN e7 (fun g hg => .inl (List.mem_cons_of_mem _ hg))).transN e8 (fun g hg => .inl (by rw [List.mem_singleton.1 hg]; simp))
    have hD2 : ∀ g ∈ b3 :: M3, g < w8.heap.size ∧ (g ∈ b3 :: MB ∨ wb.heap.size ≤ g) := by
      intro g hg
      rcases List.mem_cons.1 hg with rfl | hg
      · exact ⟨B3.lt, .inl (by simp)⟩
      · exact ⟨hlo3 g hg, (hM3 g hg).imp (fun h => List.mem_cons_of_mem _ h) (fun h => by omega)⟩
    refine L.nil ?_
    refine N.block ?_
    refine N.done fun _ _ => ?_
    exact ⟨b3 :: M3, X, hD2, a3, c3, M3, rfl, B3, o3, hM4, h3, E⟩
  · rintro d2 D W2 hd2 hdD hK ⟨a1, c1, MB, rfl, B3, o, hMB, h3, E⟩ _
    have hst := Still.putObj (.deferred none) hK rfl
    rw [List.take_length] at o
    refine N.block ?_
    refine N.seq ?_
    refine G.seq ?_
    refine G.region ?_
    refine L.val rfl rfl (R.ldB rfl B3 rfl) ?_
    refine L.val rfl rfl (R.as rfl) ?_
    refine L.nil ?_
    refine N.seq ?_
    refine G.ret1M rfl rfl (leave1 hK) ?_
    exact ⟨a1, c1, MB, rfl, E.transN (Ext.putObj _ _ _) (fun g hg => .inr (by rw [List.mem_singleton.1 hg]; omega)), o.still hst, fun g hg => (hMB g hg).1⟩
  · rintro _ _ _ _ _ _ _ _ _ h _
    exact h.elim

end Go.Proofs.Ythpolibakkmmeaa
/-
  Orders: what is known of keys that are there; strings compared; slices of strings among the arguments.
-/
set_option linter.unusedVariables false
namespace Brv
open Go
section
variable {κ : Type} [Key κ]
def floorV (zk zv : Value) : Option (Pr κ) → Value
  | some p => .tuple #[Key.val p.1, gv1' p.2, .bool true]
  | none => .tuple #[zk, zv, .bool false]
theorem floorK_yes {ps : List (Pr κ)} {k : κ} (h : hasK ps k = true) : floorK ps k = ps[low ps k]? := if_pos h
theorem floorK_no {ps : List (Pr κ)} {k : κ} (h : hasK ps k = false) (h0 : low ps k = 0) : floorK ps k = none := by unfold floorK; rw [h, if_neg (by simp), if_pos h0]
theorem floorK_low {ps : List (Pr κ)} {k : κ} (h : hasK ps k = false) (h0 : low ps k ≠ 0) : floorK ps k = ps[low ps k - 1]? := by unfold floorK; rw [h, if_neg (by simp), if_neg h0]
theorem lt_irr {a b : κ} (h : Key.lt a b = true) : Key.lt b a = false := by
  cases hc : Key.lt b a with
  | false => rfl
  | true => have := Key.trans _ _ _ h hc; rw [Key.irr] at this; cases this
theorem low_at {ps : List (Pr κ)} (hs : Sorted ps) {i : Nat} {p : Pr κ} (hp : ps[i]? = some p) : low ps p.1 = i := by
  have hi : i < ps.length := (List.getElem?_eq_some_iff.1 hp).1
  have he : ps[i] = p := (List.getElem?_eq_some_iff.1 hp).2
  apply Nat.le_antisymm
  · refine Nat.le_of_not_lt fun h => ?_
    have := low_lt h hp
    rw [Key.irr] at this; cases this
  · refine Nat.le_of_not_lt fun h => ?_
    have hl : low ps p.1 < ps.length := by omega
    have h1 := low_ge (k := p.1) hs (Nat.le_refl _) (List.getElem?_eq_getElem hl)
    have h2 := (List.pairwise_iff_getElem.1 hs) _ _ hl hi h
    rw [he] at h2
    rw [h2] at h1; cases h1
theorem hasK_mem {ps : List (Pr κ)} (hs : Sorted ps) {p : Pr κ} (hp : p ∈ ps) : hasK ps p.1 = true ∧ getK ps p.1 = some p.2 := by
  obtain ⟨i, hi, he⟩ := List.mem_iff_getElem.1 hp
  have hp' : ps[i]? = some p := by rw [List.getElem?_eq_getElem hi, he]
  have hl := low_at hs hp'
  have hk : hasK ps p.1 = true := (hasK_iff hs).2 ⟨p.2, by rw [hl, hp']⟩
  exact ⟨hk, getK_yes hk (by rw [hl]; exact hp')⟩
theorem hasK_exists {ps : List (Pr κ)} (hs : Sorted ps) {k : κ} : hasK ps k = true ↔ ∃ p ∈ ps, p.1 = k := by
  constructor
  · intro h
    obtain ⟨v, hv⟩ := (hasK_iff hs).1 h
    exact ⟨(k, v), List.mem_of_getElem? hv, rfl⟩
  · rintro ⟨p, hp, rfl⟩
    exact (hasK_mem hs hp).1
theorem mem_put {ps : List (Pr κ)} (hs : Sorted ps) {k : κ} {v : List Value} {p : Pr κ} : p ∈ putK ps k v ↔ p = (k, v) ∨ (p ∈ ps ∧ p.1 ≠ k) := by
  have hlo := low_le ps k
  cases hk : hasK ps k with
  | true =>
    rw [putK_yes hk]
    obtain ⟨u, hu⟩ := (hasK_iff hs).1 hk
    have hlt := hasK_lt hk
    constructor
    · intro h
      obtain ⟨i, hi, he⟩ := List.mem_iff_getElem.1 h
      rw [List.length_set] at hi
      rw [List.getElem_set] at he
      split at he
      · exact .inl he.symm
      · rename_i hne
        have hp' : ps[i]? = some p := by rw [List.getElem?_eq_getElem hi, he]
        exact .inr ⟨List.mem_of_getElem? hp', fun e => hne (by rw [← low_at hs hp', e])⟩
    · rintro (rfl | ⟨h, hne⟩)
      · exact List.mem_iff_getElem.2 ⟨low ps k, by rw [List.length_set]; exact hlt, by rw [List.getElem_set_self]⟩
      · obtain ⟨i, hi, he⟩ := List.mem_iff_getElem.1 h
        have hp' : ps[i]? = some p := by rw [List.getElem?_eq_getElem hi, he]
        refine List.mem_iff_getElem.2 ⟨i, by rw [List.length_set]; exact hi, ?_⟩
        rw [List.getElem_set_ne, he]
        intro e
        subst e
        rw [hu] at hp'
        cases hp'
        exact hne rfl
  | false =>
    rw [putK_no hk]
    have h0 : ∀ p ∈ ps, p.1 ≠ k := fun p hp e => by
      have := (hasK_exists hs).2 ⟨p, hp, e⟩
      rw [hk] at this; cases this
    constructor
    · intro h
      rcases List.mem_append.1 h with h | h
      · exact .inr ⟨List.mem_of_mem_take h, h0 _ (List.mem_of_mem_take h)⟩
      · rcases List.mem_cons.1 h with rfl | h
        · exact .inl rfl
        · exact .inr ⟨List.mem_of_mem_drop h, h0 _ (List.mem_of_mem_drop h)⟩
    · rintro (rfl | ⟨h, -⟩)
      · simp
      · rw [← List.take_append_drop (low ps k) ps] at h
        rcases List.mem_append.1 h with h | h
        · exact List.mem_append_left _ h
        · exact List.mem_append_right _ (List.mem_cons_of_mem _ h)
theorem mem_del {ps : List (Pr κ)} (hs : Sorted ps) {k : κ} {p : Pr κ} : p ∈ delK ps k ↔ p ∈ ps ∧ p.1 ≠ k := by
  cases hk : hasK ps k with
  | true =>
    rw [delK_yes hk]
    obtain ⟨u, hu⟩ := (hasK_iff hs).1 hk
    have hlt := hasK_lt hk
    have e : ps = ps.take (low ps k) ++ ps[low ps k] :: ps.drop (low ps k + 1) := by rw [← List.drop_eq_getElem_cons hlt, List.take_append_drop]
    have he : ps[low ps k] = (k, u) := (List.getElem?_eq_some_iff.1 hu).2
    constructor
    · intro h
      obtain ⟨i, hi, hq⟩ : ∃ i, ps[i]? = some p ∧ i ≠ low ps k := by
        rcases List.mem_append.1 h with h | h
        · obtain ⟨i, hi, he⟩ := List.mem_iff_getElem.1 h
          rw [List.length_take] at hi
          rw [List.getElem_take] at he
          exact ⟨i, by rw [List.getElem?_eq_getElem (by omega), he], by omega⟩
        · obtain ⟨i, hi, he⟩ := List.mem_iff_getElem.1 h
          rw [List.length_drop] at hi
          rw [List.getElem_drop] at he
          exact ⟨low ps k + 1 + i, by rw [List.getElem?_eq_getElem (by omega), he], by omega⟩
      exact ⟨List.mem_of_getElem? hi, fun e => hq (by rw [← low_at hs hi, e])⟩
    · rintro ⟨h, hne⟩
      rw [e, he] at h
      rcases List.mem_append.1 h with h | h
      · exact List.mem_append_left _ h
      · rcases List.mem_cons.1 h with rfl | h
        · exact absurd rfl hne
        · exact List.mem_append_right _ h
  | false =>
    rw [delK_no hk]
    exact ⟨fun h => ⟨h, fun e => by have := (hasK_exists hs).2 ⟨p, h, e⟩; rw [hk] at this; cases this⟩, fun h => h.1⟩
theorem del_len (ps : List (Pr κ)) (k : κ) : (delK ps k).length = if hasK ps k then ps.length - 1 else ps.length := by
  cases hk : hasK ps k with
  | true => rw [delK_yes hk, List.length_append, List.length_take, List.length_drop]; have := hasK_lt hk; simp; omega
  | false => rw [delK_no hk]; simp
end
section
variable {P : Program} {n : Fm} {ρ : Env} {w : World} {d : Nat} {ty : TypeId} {pos : String} {af : Array Edge} {gd : Option (Nat × Bool)}
theorem bl_ge (a b : List UInt8) : (!(Op.bytesLess a b)) = !(Op.bytesLess a b) := rfl
theorem R.geStr {T T' : TypeId} {x y : Operand} {a b : List UInt8} (hx : ev ρ x = some (.string (str a))) (hy : ev ρ y = some (.string (str b))) :
    Runs P n ρ w ⟨some d, .binOp .geq T x y T', ty, pos, af, gd⟩ (.bool (!(Op.bytesLess a b))) w := R.bin hx hy (fun w => by simp [eqGuard_at_string, binOp, Op.stringOp, ba_toList, str])
end
/-- A slice of strings. -/
theorem Rd.strs {P : Program} {w : World} {f : Nat} {T E sz : TypeId} (hT : P.underlying T = some (.slice E)) [t : TyStr P E] (hby : P.bytesOf E = sz) (hsz : 0 < sz) {cs : List Value} (h : Rd P w f T cs) :
    ∃ a n c, ∃ l : List (List UInt8), cs = [.slice a n c] ∧ n ≤ c ∧ n ≤ 140737488351232 ∧ Cells w a (l.map fun s => Value.string (Brv.str s)) ∧ n = l.length ∧ ∀ s ∈ l, s.length ≤ 140737488351232 := by
  cases f with
  | zero => exact h.elim
  | succ f =>
    unfold Rd at h
    rw [hT] at h
    obtain ⟨a, n, c, rfl, hnc, ha, hb, vss, hl, hcell, hv⟩ := h
    have hex : ∃ l : List (List UInt8), vss = l.map (fun s => [Value.string (Brv.str s)]) ∧ ∀ s ∈ l, s.length ≤ 140737488351232 := by
      clear hcell hl
      induction vss with
      | nil => exact ⟨[], rfl, by simp⟩
      | cons vs r ih =>
        obtain ⟨s, rfl, hs⟩ := (hv vs (by simp)).2.str
        obtain ⟨l, rfl, hl⟩ := ih (fun x hx => hv x (by simp [hx]))
        exact ⟨s :: l, rfl, fun x hx => (List.mem_cons.1 hx).elim (fun e => e ▸ hs) (hl x)⟩
    obtain ⟨l, rfl, hs⟩ := hex
    refine ⟨a, n, c, l, rfl, hnc, ?_, ?_, by simpa using hl.symm, hs⟩
    · rw [hby] at hb
      have := Nat.le_mul_of_pos_right c hsz
      omega
    have : (l.map (fun s => [Value.string (Brv.str s)])).flatten = l.map fun s => Value.string (Brv.str s) := by
      clear hcell hl hv hs
      induction l with
      | nil => rfl
      | cons b r ih => simp [ih]
    rw [this] at hcell; exact hcell
end Brv
/-
  The walks of package order.
-/
set_option linter.unusedVariables false
set_option linter.unusedSimpArgs false
set_option maxRecDepth 4000
namespace Go.Proofs.Ythpolibakkmmeaa
open Go Brv
theorem floorS_ok (m : Nat) (ps : List (Pr (Int))) (S : List Nat) (k : Int) (w : World) (hd : MapAt (κ := Int) 191 194 1 w m ps S) (hl : ps.length ≤ 99999) : Meets Try.prog 50 [.pointer (some ⟨m, 0, none⟩), .int .i64 k] w (fun v w' => v = floorV (.int .i64 0) (.string ByteArray.empty) (floorK ps k) ∧ Ext [] w w') := by
  refine Meets.enter Try.func50 rfl 48 rfl (Nat.le_of_ble_eq_true rfl) ?_
  have E := Ext.refl [] w
  have hd0 := hd
  obtain ⟨a, c, M, rfl, hm0, Bm, om, hok, hs⟩ := hd
  refine G.seq ?_
  refine G.region ?_
  refine L.val rfl rfl (R.as rfl) ?_
  refine L.val rfl rfl (R.as rfl) ?_
  refine L.val rfl rfl (R.as rfl) ?_
  refine L.nil ?_
  refine N.seq ?_
  refine G.seq ?_
  refine G.region ?_
  refine L.do rfl rfl (R.alloc) ?_
  rintro _ w1 ⟨b7, rfl, hb7, hs7, e1, B7⟩
  replace B7 : Blk w1 b7 (.agg #[.int .i64 0, .string ByteArray.empty] : Value).cells 194 (0, 0) := B7
  replace E := E.trans0 e1
  replace hd0 := hd0.ext0 e1
  replace Bm := Bm.ext0 e1
  replace om := om.ext0 e1
  refine L.nil ?_
  refine N.seq ?_
  refine G.seq ?_
  refine G.seq ?_
  refine G.region ?_
  refine L.val rfl rfl (R.mv rfl) ?_
  refine L.val rfl rfl (R.eqNilP rfl rfl) ?_
  refine L.nil ?_
  refine N.seq ?_
  refine G.condF rfl ?_
  refine G.skip ?_
  refine N.seq ?_
  refine G.seq ?_
  refine G.region ?_
  refine L.val rfl rfl (R.mv rfl) ?_
  refine L.val rfl rfl (R.mv rfl) ?_
  refine L.callF rfl rfl rfl go111 (findS_ok m ps (m :: M) k _ hd0 (by omega)) ?_
  rintro _ w2 ⟨rfl, e2⟩
  replace E := E.trans0 e2
  replace Bm := Bm.ext0 e2
  replace om := om.ext0 e2
  replace B7 := B7.ext0 e2
  have hlo := low_le ps k
  refine L.val rfl rfl (R.mv rfl) ?_
  refine L.val rfl rfl (R.ext rfl rfl) ?_
  refine L.val rfl rfl (R.ext rfl rfl) ?_
  refine L.val rfl rfl (R.as rfl) ?_
  refine L.val rfl rfl (R.as rfl) ?_
  refine L.nil ?_
  refine N.seq ?_
  refine G.seq ?_
  refine G.seq ?_
  refine G.region ?_
  refine L.val rfl rfl (R.mv rfl) ?_
  refine L.val rfl rfl (R.not rfl) ?_
  refine L.nil ?_
  refine N.seq ?_
  refine G.condB rfl (fun h1 => ?_) (fun h1 => ?_)
  · have hk : hasK ps k = false := by simpa using h1
    refine G.region ?_
    refine L.val rfl rfl (R.mv rfl) ?_
    refine L.val rfl rfl (R.sub' rfl rfl (by omega)) ?_
    refine L.val rfl rfl (R.as rfl) ?_
    refine L.nil ?_
    refine N.seq ?_
    refine G.seq ?_
    refine G.seq ?_
    refine G.region ?_
    refine L.val rfl rfl (R.mv rfl) ?_
    refine L.val rfl rfl (R.lss rfl rfl) ?_
    refine L.nil ?_
    refine N.seq ?_
    refine G.condP rfl (fun h2 => ?_) (fun h2 => ?_)
    · have h00 : low ps k = 0 := by omega
      refine G.seq ?_
      refine G.quiet (by decide +kernel) rfl ?_
      refine Q.val rfl rfl rfl rfl (fun w3 hE => R.fld rfl) ?_
      refine Q.val rfl rfl rfl rfl (fun w3 hE => R.ldB (v := .int .i64 0) rfl (B7.ext0 hE) rfl) ?_
      refine Q.val rfl rfl rfl rfl (fun w3 hE => R.fld rfl) ?_
      refine Q.val rfl rfl rfl rfl (fun w3 hE => R.ldB (v := .string ByteArray.empty) rfl (B7.ext0 hE) rfl) ?_
      refine Q.val rfl rfl rfl rfl (fun w3 hE => R.as rfl) ?_
      refine Q.val rfl rfl rfl rfl (fun w3 hE => R.as rfl) ?_
      refine Q.val rfl rfl rfl rfl (fun w3 hE => R.as rfl) ?_
      refine Q.nil (fun w3 e3 => ?_)
      replace E := E.trans0 e3
      refine N.seq ?_
      refine G.ret3 rfl rfl rfl rfl ?_
      first
        | (rw [floorK_no hk h00]; exact ⟨rfl, E⟩)
        | (rw [hfl]; show _ = Value.tuple #[Key.val p.1, gv1' p.2, .bool true] ∧ _; rw [hx]; exact ⟨rfl, E⟩)
    · have h00 : low ps k ≠ 0 := by omega
      obtain ⟨j, hj⟩ : ∃ j, j = low ps k - 1 := ⟨_, rfl⟩
      have hjT : ((low ps k : Int) - 1).toNat = j := by omega
      have hfl : floorK ps k = ps[j]? := by rw [floorK_low hk h00, hj]
      obtain ⟨g, cur, rfl, rfl, Bg, hnc, hcm, hcs, ht⟩ := om.some (by omega)
      obtain ⟨p, hp⟩ : ∃ p, ps[j]? = some p := ⟨_, List.getElem?_eq_getElem (by omega)⟩
      rw [hp] at hfl
      obtain ⟨x, hx⟩ := List.length_eq_one_iff.1 (hok p (List.mem_of_getElem? hp)).1
      have hck : cur[0 + j * 2 + 0]? = some (Key.val p.1) := by rw [Nat.zero_add]; exact row_at ht hok hp rfl
      have hcx : cur[0 + j * 2 + 1]? = some x := by rw [Nat.zero_add]; exact row_at ht hok hp (by show (Key.val p.1 :: p.2)[1]? = _; rw [hx]; rfl)
      refine G.skip ?_
      refine N.seq ?_
      refine G.seq ?_
      refine G.quiet (by decide +kernel) rfl ?_
      refine Q.val rfl rfl rfl rfl (fun w3 hE => R.mv rfl) ?_
      refine Q.val rfl rfl rfl rfl (fun w3 hE => R.nilChk rfl) ?_
      refine Q.val rfl rfl rfl rfl (fun w3 hE => R.fld rfl) ?_
      refine Q.val rfl rfl rfl rfl (fun w3 hE => R.ldB rfl (Bm.ext0 hE) rfl) ?_
      refine Q.val rfl rfl rfl rfl (fun w3 hE => R.mv rfl) ?_
      refine Q.val rfl rfl rfl rfl (fun w3 hE => R.idx rfl rfl (by omega) (by omega) _ rfl) ?_
      refine Q.val rfl rfl rfl rfl (fun w3 hE => R.fldA rfl) ?_
      refine Q.val rfl rfl rfl rfl (fun w3 hE => R.ld rfl (v := .int .i64 p.1) (by rw [hjT, Go.Addr.add_lit, Go.Addr.add_lit]; exact ((Bg.ext0 hE).cell _).trans hck)) ?_
      refine Q.val rfl rfl rfl rfl (fun w3 hE => R.mv rfl) ?_
      refine Q.val rfl rfl rfl rfl (fun w3 hE => R.nilChk rfl) ?_
      refine Q.val rfl rfl rfl rfl (fun w3 hE => R.fld rfl) ?_
      refine Q.val rfl rfl rfl rfl (fun w3 hE => R.ldB rfl (Bm.ext0 hE) rfl) ?_
      refine Q.val rfl rfl rfl rfl (fun w3 hE => R.mv rfl) ?_
      refine Q.val rfl rfl rfl rfl (fun w3 hE => R.idx rfl rfl (by omega) (by omega) _ rfl) ?_
      refine Q.val rfl rfl rfl rfl (fun w3 hE => R.fldA rfl) ?_
      refine Q.val rfl rfl rfl rfl (fun w3 hE => R.ld rfl (v := x) (by rw [hjT, Go.Addr.add_lit, Go.Addr.add_lit]; exact ((Bg.ext0 hE).cell _).trans hcx)) ?_
      refine Q.val rfl rfl rfl rfl (fun w3 hE => R.as rfl) ?_
      refine Q.val rfl rfl rfl rfl (fun w3 hE => R.as rfl) ?_
      refine Q.val rfl rfl rfl rfl (fun w3 hE => R.as rfl) ?_
      refine Q.nil (fun w3 e3 => ?_)
      replace E := E.trans0 e3
      refine N.seq ?_
      refine G.ret3 rfl rfl rfl rfl ?_
      first
        | (rw [floorK_no hk h00]; exact ⟨rfl, E⟩)
        | (rw [hfl]; show _ = Value.tuple #[Key.val p.1, gv1' p.2, .bool true] ∧ _; rw [hx]; exact ⟨rfl, E⟩)
  · have hk : hasK ps k = true := by simpa using h1
    have hlt := hasK_lt hk
    refine G.skip ?_
    refine N.seq ?_
    refine G.seq ?_
    refine G.seq ?_
    refine G.region ?_
    refine L.val rfl rfl (R.mv rfl) ?_
    refine L.val rfl rfl (R.lss rfl rfl) ?_
    refine L.nil ?_
    refine N.seq ?_
    refine G.condP rfl (fun h2 => ?_) (fun h2 => ?_)
    · exfalso; omega
    · obtain ⟨j, hj⟩ : ∃ j, j = low ps k := ⟨_, rfl⟩
      have hjT : ((low ps k : Int)).toNat = j := by omega
      have hfl : floorK ps k = ps[j]? := by rw [floorK_yes hk, hj]
      obtain ⟨g, cur, rfl, rfl, Bg, hnc, hcm, hcs, ht⟩ := om.some (by omega)
      obtain ⟨p, hp⟩ : ∃ p, ps[j]? = some p := ⟨_, List.getElem?_eq_getElem (by omega)⟩
      rw [hp] at hfl
      obtain ⟨x, hx⟩ := List.length_eq_one_iff.1 (hok p (List.mem_of_getElem? hp)).1
      have hck : cur[0 + j * 2 + 0]? = some (Key.val p.1) := by rw [Nat.zero_add]; exact row_at ht hok hp rfl
      have hcx : cur[0 + j * 2 + 1]? = some x := by rw [Nat.zero_add]; exact row_at ht hok hp (by show (Key.val p.1 :: p.2)[1]? = _; rw [hx]; rfl)
      refine G.skip ?_
      refine N.seq ?_
      refine G.seq ?_
      refine G.quiet (by decide +kernel) rfl ?_
      refine Q.val rfl rfl rfl rfl (fun w3 hE => R.mv rfl) ?_
      refine Q.val rfl rfl rfl rfl (fun w3 hE => R.nilChk rfl) ?_
      refine Q.val rfl rfl rfl rfl (fun w3 hE => R.fld rfl) ?_
      refine Q.val rfl rfl rfl rfl (fun w3 hE => R.ldB rfl (Bm.ext0 hE) rfl) ?_
      refine Q.val rfl rfl rfl rfl (fun w3 hE => R.mv rfl) ?_
      refine Q.val rfl rfl rfl rfl (fun w3 hE => R.idx rfl rfl (by omega) (by omega) _ rfl) ?_
      refine Q.val rfl rfl rfl rfl (fun w3 hE => R.fldA rfl) ?_
      refine Q.val rfl rfl rfl rfl (fun w3 hE => R.ld rfl (v := .int .i64 p.1) (by rw [hjT, Go.Addr.add_lit, Go.Addr.add_lit]; exact ((Bg.ext0 hE).cell _).trans hck)) ?_
      refine Q.val rfl rfl rfl rfl (fun w3 hE => R.mv rfl) ?_
      refine Q.val rfl rfl rfl rfl (fun w3 hE => R.nilChk rfl) ?_
      refine Q.val rfl rfl rfl rfl (fun w3 hE => R.fld rfl) ?_
      refine Q.val rfl rfl rfl rfl (fun w3 hE => R.ldB rfl (Bm.ext0 hE) rfl) ?_
      refine Q.val rfl rfl rfl rfl (fun w3 hE => R.mv rfl) ?_
      refine Q.val rfl rfl rfl rfl (fun w3 hE => R.idx rfl rfl (by omega) (by omega) _ rfl) ?_
      refine Q.val rfl rfl rfl rfl (fun w3 hE => R.fldA rfl) ?_
      refine Q.val rfl rfl rfl rfl (fun w3 hE => R.ld rfl (v := x) (by rw [hjT, Go.Addr.add_lit, Go.Addr.add_lit]; exact ((Bg.ext0 hE).cell _).trans hcx)) ?_
      refine Q.val rfl rfl rfl rfl (fun w3 hE => R.as rfl) ?_
      refine Q.val rfl rfl rfl rfl (fun w3 hE => R.as rfl) ?_
      refine Q.val rfl rfl rfl rfl (fun w3 hE => R.as rfl) ?_
      refine Q.nil (fun w3 e3 => ?_)
      replace E := E.trans0 e3
      refine N.seq ?_
      refine G.ret3 rfl rfl rfl rfl ?_
      first
        | (rw [floorK_no hk h00]; exact ⟨rfl, E⟩)
        | (rw [hfl]; show _ = Value.tuple #[Key.val p.1, gv1' p.2, .bool true] ∧ _; rw [hx]; exact ⟨rfl, E⟩)

theorem putS_nil (k : Int) (vx : List UInt8) (w : World) : Meets Try.prog 44 [.pointer none, .int .i64 k, .string (str vx)] w (fun v w' => v = .bool false ∧ Ext [] w w') := by
  refine Meets.enter Try.func44 rfl 39 rfl (Nat.le_of_ble_eq_true rfl) ?_
  have E := Ext.refl [] w
  refine G.seq ?_
  refine G.region ?_
  refine L.val rfl rfl (R.as rfl) ?_
  refine L.nil ?_
  refine N.seq ?_
  refine G.seq ?_
  refine G.seq ?_
  refine G.region ?_
  refine L.val rfl rfl (R.mv rfl) ?_
  refine L.val rfl rfl (R.eqNilP rfl rfl) ?_
  refine L.nil ?_
  refine N.seq ?_
  refine G.condT rfl ?_
  refine G.seq ?_
  refine G.region ?_
  refine L.val rfl rfl (R.as rfl) ?_
  refine L.nil ?_
  refine N.seq ?_
  refine G.ret1 rfl rfl ?_
  exact ⟨rfl, E⟩

theorem getS_nil (k : Int) (w : World) : Meets Try.prog 49 [.pointer none, .int .i64 k] w (fun v w' => v = .tuple #[.string ByteArray.empty, .bool false] ∧ Ext [] w w') := by
  refine Meets.enter Try.func49 rfl 29 rfl (Nat.le_of_ble_eq_true rfl) ?_
  have E := Ext.refl [] w
  refine G.seq ?_
  refine G.region ?_
  refine L.val rfl rfl (R.as rfl) ?_
  refine L.val rfl rfl (R.as rfl) ?_
  refine L.nil ?_
  refine N.seq ?_
  refine G.seq ?_
  refine G.region ?_
  refine L.val rfl rfl (R.as rfl) ?_
  refine L.nil ?_
  refine N.seq ?_
  refine G.seq ?_
  refine G.seq ?_
  refine G.region ?_
  refine L.val rfl rfl (R.mv rfl) ?_
  refine L.val rfl rfl (R.eqNilP rfl rfl) ?_
  refine L.nil ?_
  refine N.seq ?_
  refine G.condT rfl ?_
  refine G.seq ?_
  refine G.region ?_
  refine L.val rfl rfl (R.mv rfl) ?_
  refine L.val rfl rfl (R.as rfl) ?_
  refine L.val rfl rfl (R.as rfl) ?_
  refine L.nil ?_
  refine N.seq ?_
  refine G.ret2 rfl rfl rfl ?_
  exact ⟨rfl, E⟩

theorem floorS_nil (k : Int) (w : World) : Meets Try.prog 50 [.pointer none, .int .i64 k] w (fun v w' => v = .tuple #[.int .i64 0, .string ByteArray.empty, .bool false] ∧ Ext [] w w') := by
  refine Meets.enter Try.func50 rfl 48 rfl (Nat.le_of_ble_eq_true rfl) ?_
  have E := Ext.refl [] w
  refine G.seq ?_
  refine G.region ?_
  refine L.val rfl rfl (R.as rfl) ?_
  refine L.val rfl rfl (R.as rfl) ?_
  refine L.val rfl rfl (R.as rfl) ?_
  refine L.nil ?_
  refine N.seq ?_
  refine G.seq ?_
  refine G.region ?_
  refine L.do rfl rfl (R.alloc) ?_
  rintro _ w1 ⟨b7, rfl, hb7, hs7, e1, B7⟩
  replace B7 : Blk w1 b7 (.agg #[.int .i64 0, .string ByteArray.empty] : Value).cells 194 (0, 0) := B7
  replace E := E.trans0 e1
  refine L.nil ?_
  refine N.seq ?_
  refine G.seq ?_
  refine G.seq ?_
  refine G.region ?_
  refine L.val rfl rfl (R.mv rfl) ?_
  refine L.val rfl rfl (R.eqNilP rfl rfl) ?_
  refine L.nil ?_
  refine N.seq ?_
  refine G.condT rfl ?_
  refine G.seq ?_
  refine G.quiet (by decide +kernel) rfl ?_
  refine Q.val rfl rfl rfl rfl (fun w2 hE => R.fld rfl) ?_
  refine Q.val rfl rfl rfl rfl (fun w2 hE => R.ldB (v := .int .i64 0) rfl (B7.ext0 hE) rfl) ?_
  refine Q.val rfl rfl rfl rfl (fun w2 hE => R.fld rfl) ?_
  refine Q.val rfl rfl rfl rfl (fun w2 hE => R.ldB (v := .string ByteArray.empty) rfl (B7.ext0 hE) rfl) ?_
  refine Q.val rfl rfl rfl rfl (fun w2 hE => R.as rfl) ?_
  refine Q.val rfl rfl rfl rfl (fun w2 hE => R.as rfl) ?_
  refine Q.val rfl rfl rfl rfl (fun w2 hE => R.as rfl) ?_
  refine Q.nil (fun w2 e2 => ?_)
  replace E := E.trans0 e2
  refine N.seq ?_
  refine G.ret3 rfl rfl rfl rfl ?_
  exact ⟨rfl, E⟩

theorem olenS_nil  (w : World) : Meets Try.prog 53 [.pointer none] w (fun v w' => v = .int .i64 0 ∧ Ext [] w w') := by
  refine Meets.enter Try.func53 rfl 10 rfl (Nat.le_of_ble_eq_true rfl) ?_
  have E := Ext.refl [] w
  refine G.seq ?_
  refine G.region ?_
  refine L.val rfl rfl (R.as rfl) ?_
  refine L.nil ?_
  refine N.seq ?_
  refine G.seq ?_
  refine G.seq ?_
  refine G.region ?_
  refine L.val rfl rfl (R.mv rfl) ?_
  refine L.val rfl rfl (R.eqNilP rfl rfl) ?_
  refine L.nil ?_
  refine N.seq ?_
  refine G.condT rfl ?_
  refine G.seq ?_
  refine G.region ?_
  refine L.val rfl rfl (R.as rfl) ?_
  refine L.nil ?_
  refine N.seq ?_
  refine G.ret1 rfl rfl ?_
  exact ⟨rfl, E⟩

theorem ocloneS_nil  (w : World) : Meets Try.prog 55 [.pointer none] w (fun v w' => v = .pointer none ∧ Ext [] w w') := by
  refine Meets.enter Try.func55 rfl 12 rfl (Nat.le_of_ble_eq_true rfl) ?_
  have E := Ext.refl [] w
  refine G.seq ?_
  refine G.region ?_
  refine L.val rfl rfl (R.as rfl) ?_
  refine L.nil ?_
  refine N.seq ?_
  refine G.seq ?_
  refine G.seq ?_
  refine G.region ?_
  refine L.val rfl rfl (R.mv rfl) ?_
  refine L.val rfl rfl (R.eqNilP rfl rfl) ?_
  refine L.nil ?_
  refine N.seq ?_
  refine G.condT rfl ?_
  refine G.seq ?_
  refine G.region ?_
  refine L.val rfl rfl (R.as rfl) ?_
  refine L.nil ?_
  refine N.seq ?_
  refine G.ret1 rfl rfl ?_
  exact ⟨rfl, E⟩

theorem odelS_nil (k : Int) (w : World) : Meets Try.prog 47 [.pointer none, .int .i64 k] w (fun v w' => v = .bool false ∧ Ext [] w w') := by
  refine Meets.enter Try.func47 rfl 28 rfl (Nat.le_of_ble_eq_true rfl) ?_
  have E := Ext.refl [] w
  refine G.seq ?_
  refine G.region ?_
  refine L.val rfl rfl (R.as rfl) ?_
  refine L.nil ?_
  refine N.seq ?_
  refine G.seq ?_
  refine G.seq ?_
  refine G.region ?_
  refine L.val rfl rfl (R.mv rfl) ?_
  refine L.val rfl rfl (R.eqNilP rfl rfl) ?_
  refine L.nil ?_
  refine N.seq ?_
  refine G.condT rfl ?_
  refine G.seq ?_
  refine G.region ?_
  refine L.val rfl rfl (R.as rfl) ?_
  refine L.nil ?_
  refine N.seq ?_
  refine G.ret1 rfl rfl ?_
  exact ⟨rfl, E⟩

end Go.Proofs.Ythpolibakkmmeaa
/-
  Arrays of bytes as values: from slices, compared.
-/
set_option linter.unusedVariables false
namespace Brv
open Go
section
variable {P : Program} {n : Fm} {ρ : Env} {w : World} {d : Nat} {ty : TypeId} {pos : String} {af : Array Edge} {gd : Option (Nat × Bool)}
/-- (*[m]E)(xs). -/
theorem R.s2ap {T m E size : Nat} [t : TyArr P T m E size] {x : Operand} {a : Option Addr} {k c : Nat} (hx : ev ρ x = some (.slice a k c)) (hk : m ≤ k) :
    Runs P n ρ w ⟨some d, .sliceToArrayPointer T x, ty, pos, af, gd⟩ (.pointer a) w := (fun f hf => by
    simp [execOp, hf.eval hx, run_arrayAt w T E m a k c t.h hk])
/-- An array type of bytes, that may be compared. -/
class TyBArr (P : Program) (T : TypeId) (m : outParam Nat) : Prop where
  h : ∃ E, P.underlying T = some (.array m E) ∧ P.underlying E = some (.int .u8) ∧ (P.info? E).map (·.size) = some 1
  g : P.eqGuardType P.depth T = false
theorem vbs_cell (l : List UInt8) : vbs l = l.map Extern.Stop.cell := rfl
theorem R.neArr {T T' : TypeId} {m : Nat} [t : TyBArr P T m] {x y : Operand} {a b : List UInt8} (hx : ev ρ x = some (.agg (vbs a).toArray)) (hy : ev ρ y = some (.agg (vbs b).toArray)) (ha : a.length = m) (hb : b.length = m) :
    Runs P n ρ w ⟨some d, .binOp .neq T x y T', ty, pos, af, gd⟩ (.bool (decide (a ≠ b))) w := R.bin hx hy (fun w => by
    obtain ⟨E, h1, h2, h3⟩ := t.h
    have hsz : ∀ w, (Go.sizeOf E).run P w = .ok 1 w := by
      intro w
      cases hq : P.info? E with
      | none => simp [hq] at h3
      | some q => have : q.size = 1 := by simpa [hq] using h3
                  simp [Go.sizeOf, typeInfo, hq, this]
    simp only [Sem.run_bind, run_eqGuard_agg (w := w) .neq T x y _ _ t.g, Result.andThen_ok, run_neq_struct, vbs_cell, run_equalIn_bytes w 9998 T E m h1 h2 hsz a b ha hb]
    congr 2
    by_cases h : a = b <;> simp [h])
end
theorem cells_repV {cur : Array Value} {p q : Nat} {y : Value} (h : cur.toList.take p = List.replicate p y) (hq : q ≤ p) (j : Nat) (v : Value) (hj : (List.replicate q y)[j]? = some v) : cur[0 + j]? = some v := by
  have hlt : j < q := by have := (List.getElem?_eq_some_iff.1 hj).1; simpa using this
  have h1 : (List.replicate p y)[j]? = some v := by rw [List.getElem?_replicate] at hj ⊢; rw [if_pos hlt] at hj; rw [if_pos (by omega)]; exact hj
  rw [← h, List.getElem?_take, if_pos (by omega)] at h1
  simpa using h1
theorem Cells.none {w : World} {vs : List Value} (h : Cells w none vs) : vs = [] := by
  cases vs with
  | nil => rfl
  | cons v vs => obtain ⟨p, hp, _⟩ := h 0 v rfl; cases hp
end Brv
namespace Brv
open Go
def ptr (b : Nat) : Value := .pointer (some ⟨b, 0, none⟩)
theorem ptrs_one (ps : List Nat) : ∀ u ∈ ps.map ptr, u.oneCell' = true := by
  intro u hu
  obtain ⟨b, _, rfl⟩ := List.mem_map.1 hu
  rfl
theorem R.lenT {P : Program} {n : Fm} {ρ : Env} {w : World} {d : Nat} {ty : TypeId} {pos : String} {af : Array Edge} {gd : Option (Nat × Bool)} {T : Nat} [t : TyStr P T] {x : Operand} {l : List UInt8} (hx : ev ρ x = some (.string (str l))) :
    Runs P n ρ w ⟨some d, .call ⟨.builtin .len, #[x], #[T]⟩, ty, pos, af, gd⟩ (.int .i64 (l.length : Int)) w := R.lenStr hx
theorem all_stored {cs vs : Array Value} (h : cs.size = vs.size) : (cs.toList.take 0 ++ vs.toList ++ cs.toList.drop (0 + vs.size)).toArray = vs := by
  rw [List.take_zero, List.nil_append, List.drop_of_length_le (by rw [Array.length_toList]; omega), List.append_nil]
end Brv
/-
  Slices of three bounds; a struct of two parts.
-/
set_option linter.unusedVariables false
namespace Brv
open Go
section
variable {P : Program} {n : Fm} {ρ : Env} {w : World} {d : Nat} {ty : TypeId} {pos : String} {af : Array Edge} {gd : Option (Nat × Bool)}
theorem R.slLHM {T E size bytes : Nat} {z : Value} [t : TySlice P T E size bytes z] {x lo hi mx : Operand} {k k' k'' : IntKind} {a : Option Addr} {m c : Nat} {i j e : Int} (hx : ev ρ x = some (.slice a m c)) (hlo : ev ρ lo = some (.int k i)) (hhi : ev ρ hi = some (.int k' j)) (hmx : ev ρ mx = some (.int k'' e)) (h0 : 0 ≤ i) (h1 : i ≤ j) (h2 : j ≤ e) (h3 : e ≤ c) :
    Runs P n ρ w ⟨some d, .slice T x (some lo) (some hi) (some mx), ty, pos, af, gd⟩ (.slice (subA a i.toNat e.toNat size) (j.toNat - i.toNat) (e.toNat - i.toNat)) w := (fun f hf => by
    have hb : (Instr.sliceBounds true m c (some (.int k i)) (some (.int k' j)) (some (.int k'' e))).run P w = .ok (i.toNat, j.toNat, e.toNat) w := by
      simp [Instr.sliceBounds, sliceBound_ok (P := P) (k := k'') (i := e) (y := c) (code := .slice3Acap) (by omega) h3 w, sliceBound_ok (P := P) (k := k') (i := j) (y := e.toNat) (code := .slice3B) (by omega) (by omega) w, sliceBound_ok (P := P) (k := k) (i := i) (y := j.toNat) (code := .slice3C) h0 (by omega) w]
    have := run_subS (P := P) (T := T) (a := a) w hb
    simp only [execOp, hf.eval hx, hf.eval hlo, hf.eval hhi, hf.eval hmx, Sem.run_bind, Option.map_some, this]
    rfl)
end
theorem fill_two {pl : Nat → Option (Nat × Nat)} {A cs : Array Value} {u : Value} {m : Nat} (h0 : pl 0 = some (0, 1)) (h1 : pl 1 = some (1, m)) (hu : u.cells = #[u]) (hc : cs.size = m) (hA : A.size = 1 + m) : Instr.fill pl A [(0, u), (1, .agg cs)] = some (u :: cs.toList).toArray := by
  have hcc : (Value.agg cs).cells = cs := rfl
  have e0 : (u.cells.zipIdx.foldl (fun ac (p : Value × Nat) => ac.setIfInBounds (0 + p.2) p.1) A) = A.setIfInBounds 0 u := by rw [hu]; simp
  have hf := seg_fold 1 cs.toList 0 (A.setIfInBounds 0 u) (by simp; omega)
  have e : (cs.zipIdx.foldl (fun ac (p : Value × Nat) => ac.setIfInBounds (1 + p.2) p.1) (A.setIfInBounds 0 u)) = ((cs.toList.zipIdx 0).foldl (fun ac (p : Value × Nat) => ac.setIfInBounds (1 + p.2) p.1) (A.setIfInBounds 0 u)) := by
    rw [← Array.foldl_toList]; simp
  simp only [Instr.fill, h0, h1, hcc]
  rw [if_neg (by rw [hu]; intro h; simp at h; rw [h] at hA; simp at hA; omega)]
  simp only [e0]
  rw [if_neg (by simp; omega)]
  refine congrArg some ?_
  rw [e]
  apply Array.toList_inj.1
  rw [hf]
  simp only [Array.toList_setIfInBounds, Nat.add_zero, Array.length_toList]
  obtain ⟨al⟩ := A
  cases al with
  | nil => simp at hA; omega
  | cons a r =>
    simp at hA
    simp
    omega
/-- Where the elements of a slice lie; nowhere, if there are none. -/
def effA {α : Type} (a : Option Addr) : List α → Option Addr
  | [] => none
  | _ :: _ => a
theorem effA.of {α : Type} {a : Option Addr} {l : List α} {p : Addr} (h : effA a l = some p) : a = some p := by
  cases l with
  | nil => cases h
  | cons x r => exact h
theorem Cells.extE {α : Type} {f : α → Value} {w w' : World} {M : List Nat} {a : Option Addr} {l : List α} (h : Cells w a (l.map f)) (he : Ext M w w') (hm : ∀ p, effA a l = some p → p.block ∉ M) : Cells w' a (l.map f) := by
  cases l with
  | nil => exact Cells.nil _ _
  | cons x r => exact h.ext he hm
theorem Bs.extE {w w' : World} {M : List Nat} {a : Option Addr} {n : Nat} {l : List UInt8} (h : Bs w a n l) (he : Ext M w w') (hm : ∀ p, effA a l = some p → p.block ∉ M) : Bs w' a n l := ⟨Cells.extE (f := vb) h.cells he hm, h.len⟩
theorem Cells.effLt {α : Type} {f : α → Value} {w : World} {a : Option Addr} {l : List α} (h : Cells w a (l.map f)) : ∀ p, effA a l = some p → p.block < w.heap.size := by
  intro p hp
  cases l with
  | nil => cases hp
  | cons x r =>
    obtain ⟨q, hq, hc⟩ := h 0 (f x) rfl
    have : a = some p := hp
    rw [this] at hq; cases hq
    obtain ⟨o, ho, _⟩ : ∃ o : Obj, w.heap[(p.add 0).block]? = some o ∧ True := by
      unfold World.cell? at hc
      cases ho : w.heap[(p.add 0).block]? with
      | none => simp [ho] at hc
      | some o => exact ⟨o, rfl, trivial⟩
    exact (Array.getElem?_eq_some_iff.1 ho).1
theorem Bs.effLt {w : World} {a : Option Addr} {n : Nat} {l : List UInt8} (h : Bs w a n l) : ∀ p, effA a l = some p → p.block < w.heap.size := Cells.effLt (f := vb) h.cells
end Brv
/-
  The walks of package order.
-/
set_option linter.unusedVariables false
set_option linter.unusedSimpArgs false
set_option maxRecDepth 4000
namespace Go.Proofs.Ythpolibakkmmeaa
open Go Brv
theorem delS_ok (a : Option Addr) (n c : Nat) (ps : List (Pr (Int))) (M : List Nat) (i : Nat) (w : World) (ho : Own w 194 (1 + 1) a n c (pcells ps) M) (hn : n = ps.length) (hok : OkP 1 ps) (hi : i < n) (hnl : n ≤ 1000000) : Meets Try.prog 113 [.slice a n c, .int .i64 (i : Int), .int .i64 ((i : Int) + 1)] w (fun v w' => v = .slice a (n - 1) c ∧ Ext M w w' ∧ Own w' 194 (1 + 1) a (n - 1) c (pcells (ps.take i ++ ps.drop (i + 1))) M) := by
  refine Meets.enter Try.func113 rfl 33 rfl (Nat.le_of_ble_eq_true rfl) ?_
  obtain ⟨g0, cur0, rfl, rfl, B0, hc0, hx0, hz0, ht0⟩ := ho.some (by omega)
  have hps := (pcells_take (sv := 1) hok.len i (by omega)).1
  have hpd := (pcells_take (sv := 1) hok.len (i + 1) (by omega)).2
  have hcd : (pcells (ps.drop (i + 1))).length = (n - 1 - i) * (1 + 1) := by rw [pcells_len (sv := 1) (fun q hq => (hok q (List.mem_of_mem_drop hq)).1), List.length_drop, hn]; congr 1; omega
  have hone : ∀ u ∈ (pcells (ps.drop (i + 1))), u.oneCell' = true := fun u hu => pcell_one hok u (by rw [← hpd] at hu; exact List.mem_of_mem_drop hu)
  have hCd : Cells w (subA (some ⟨g0, 0, none⟩) (i + 1) c 2) (pcells (ps.drop (i + 1))) := by
    by_cases h9 : i + 1 < c
    · have h8 := (ho.cells).sub (i + 1) c 2 ((n - 1 - i) * 2) (by rw [ho.1, show 1 + 1 = 2 from rfl, ← Nat.add_mul]; exact Nat.mul_le_mul_right _ (by omega)) (by omega)
      rw [show (2 : Nat) = 1 + 1 from rfl, hpd, List.take_of_length_le (by rw [hcd]; exact Nat.le_refl _)] at h8
      exact h8
    · have h8 : (pcells (ps.drop (i + 1))) = [] := List.eq_nil_of_length_eq_zero (by rw [hcd, show n - 1 - i = 0 by omega, Nat.zero_mul])
      rw [h8]
      intro j v hj
      cases hj
  refine G.seq ?_
  refine G.region ?_
  refine L.val rfl rfl (R.as rfl) ?_
  refine L.nil ?_
  refine N.seq ?_
  refine G.seq ?_
  refine G.region ?_
  refine L.val rfl rfl (R.mv rfl) ?_
  refine L.val rfl rfl (R.mv rfl) ?_
  refine L.val rfl rfl (R.mv rfl) ?_
  refine L.val rfl rfl (R.mv rfl) ?_
  refine L.val rfl rfl (R.lenS rfl) ?_
  refine L.val rfl rfl (R.slLHM rfl rfl rfl rfl (by omega) (by omega) (by omega) (by omega)) ?_
  refine L.nil ?_
  refine N.seq ?_
  refine G.seq ?_
  refine G.seq ?_
  refine G.region ?_
  refine L.val rfl rfl (R.mv rfl) ?_
  refine L.val rfl rfl (R.mv rfl) ?_
  refine L.val rfl rfl (R.eqI rfl rfl) ?_
  refine L.nil ?_
  refine N.seq ?_
  refine G.condP rfl (fun h0 => ?_) (fun h0 => ?_)
  · exfalso; omega
  · refine G.skip ?_
    refine N.seq ?_
    refine G.seq ?_
    refine G.region ?_
    refine L.val rfl rfl (R.mv rfl) ?_
    refine L.val rfl rfl (R.lenS rfl) ?_
    refine L.val rfl rfl (R.as rfl) ?_
    refine L.nil ?_
    refine N.seq ?_
    refine G.seq ?_
    refine G.staged [6] [.blocks ([g0])] [fun w' => Ext [] w w', fun w' => Ext [g0] w w' ∧ Own w' 194 (1 + 1) (some ⟨g0, 0, none⟩) (n - 1) c (pcells (ps.take i ++ ps.drop (i + 1))) [g0]] [] (by decide +kernel) (by decide +kernel) rfl rfl rfl (fun _ h => h) ?_
    refine Z.val rfl rfl rfl rfl rfl (fun w1 => R.mv rfl) ?_
    refine Z.val rfl rfl rfl rfl rfl (fun w1 => R.mv rfl) ?_
    refine Z.val rfl rfl rfl rfl rfl (fun w1 => R.slH rfl rfl (by omega) (by omega)) ?_
    refine Z.be 22 rfl (show _ = Value.slice (some ⟨g0, 0, none⟩) i c by rw [subA_zero, Int.toNat_natCast]) ?_
    refine Z.val rfl rfl rfl rfl rfl (fun w1 => R.mv rfl) ?_
    refine Z.val rfl rfl rfl rfl rfl (fun w1 => R.mv rfl) ?_
    refine Z.val rfl rfl rfl rfl rfl (fun w1 => R.slL rfl rfl (by omega) (by omega)) ?_
    refine Z.be 25 rfl (show _ = Value.slice (subA (some ⟨g0, 0, none⟩) (i + 1) c 2) (n - 1 - i) (c - (i + 1)) by rw [show ((i : Int) + 1).toNat = i + 1 by omega, show n - (i + 1) = n - 1 - i by omega]) ?_
    refine Z.put (A := fun v _ => v = .slice (some ⟨g0, 0, none⟩) (n - 1) c) (Lasts.kill (fun _ _ _ _ h => h) (by decide +kernel)) 0 (by decide +kernel) rfl rfl rfl rfl rfl rfl rfl (fun w1 hJ => (R.app2 rfl rfl ((ho.pre (i := i) (by omega)).ext0 hJ) (hCd.ext0 hJ) hcd hone (by simp [maxLen]; omega) (by omega)).mono (fun v w9 h => by
      obtain ⟨a9, c9, M9, rfl, e9, _, o9, hin⟩ := h
      obtain ⟨rfl, rfl, rfl⟩ := hin (by omega)
      rw [hps, ← pcells_append, show i + (n - 1 - i) = n - 1 by omega] at o9
      exact ⟨by rw [show i + (n - 1 - i) = n - 1 by omega], e9, e9.after hJ, o9⟩)) ?_
    refine Z.valR (A := fun v _ => v = .slice (some ⟨g0, 0, none⟩) (n - 1) c) (Lasts.kill (fun _ _ _ _ h => h) (by decide +kernel)) rfl rfl rfl rfl (fun w1 => fun v hv => ⟨v, R.as rfl, hv⟩) ?_
    refine Z.nil rfl rfl (fun w1 hJ => ?_)
    obtain ⟨e3, o3⟩ := hJ
    rintro _ rfl _ rfl
    obtain ⟨cur3, _, B3, hc3, hx3, hz3, ht3⟩ := o3.inv
    have hzz : (n - 1) * 2 + 1 * 2 ≤ cur3.size := by
      have h9 : (n - 1 + 1) * 2 ≤ c * 2 := Nat.mul_le_mul_right _ (by omega)
      rw [Nat.add_mul] at h9
      exact Nat.le_trans h9 hz3
    refine N.seq ?_
    refine G.seq ?_
    refine G.region ?_
    refine L.val rfl rfl (R.mv rfl) ?_
    refine L.val rfl rfl (R.mv rfl) ?_
    refine L.val rfl rfl (R.lenS rfl) ?_
    refine L.val rfl rfl (R.mv rfl) ?_
    refine L.val rfl rfl (R.slLH rfl rfl rfl (by omega) (by omega) (by omega)) ?_
    refine L.be 31 rfl (show _ = Value.slice (some ⟨g0, (n - 1) * 2, none⟩) (0 + 1) (c - (n - 1)) by rw [Int.toNat_natCast, Int.toNat_natCast, subA_lit (by omega), Nat.zero_add, show n - (n - 1) = 0 + 1 by omega]) ?_
    refine L.do0 rfl (R.clearN (m := 0) rfl B3 (by omega) (by decide) (by intro u hu; simp [Value.cells] at hu; first | (rcases hu with rfl | rfl <;> rfl) | (rcases hu with rfl | rfl | rfl <;> rfl) | (rcases hu with rfl | rfl | rfl | rfl <;> rfl) | (rcases hu with rfl | rfl | rfl | rfl | rfl <;> rfl))) ?_
    rintro _ w4 P4
    obtain ⟨e4, hs4, B4⟩ := P4
    have X := e3.transN e4 (fun x hx => .inl hx)
    refine L.nil ?_
    refine N.seq ?_
    refine G.seq ?_
    refine G.region ?_
    refine L.val rfl rfl (R.mv rfl) ?_
    refine L.val rfl rfl (R.as rfl) ?_
    refine L.nil ?_
    refine N.seq ?_
    refine G.ret1 rfl rfl ?_
    exact ⟨rfl, X, own_over o3.1 B4 (by rw [Array.length_toList, size_zeroCells]; exact hzz) hc3 hx3 hz3 ht3⟩

theorem odelS_ok (m : Nat) (ps : List (Pr (Int))) (S : List Nat) (k : Int) (w : World) (hd : MapAt (κ := Int) 191 194 1 w m ps S) (hl : ps.length ≤ 99999) : Meets Try.prog 47 [.pointer (some ⟨m, 0, none⟩), .int .i64 k] w (fun v w' => v = .bool (hasK ps k) ∧ ∃ S', Grown S S' w w' ∧ MapAt (κ := Int) 191 194 1 w' m (delK ps k) S') := by
  refine Meets.enter Try.func47 rfl 28 rfl (Nat.le_of_ble_eq_true rfl) ?_
  have E := Ext.refl [] w
  have hd0 := hd
  obtain ⟨a, c, M, rfl, hm0, Bm, om, hok, hs⟩ := hd
  refine G.seq ?_
  refine G.region ?_
  refine L.val rfl rfl (R.as rfl) ?_
  refine L.nil ?_
  refine N.seq ?_
  refine G.seq ?_
  refine G.seq ?_
  refine G.region ?_
  refine L.val rfl rfl (R.mv rfl) ?_
  refine L.val rfl rfl (R.eqNilP rfl rfl) ?_
  refine L.nil ?_
  refine N.seq ?_
  refine G.condF rfl ?_
  refine G.skip ?_
  refine N.seq ?_
  refine G.seq ?_
  refine G.region ?_
  refine L.val rfl rfl (R.mv rfl) ?_
  refine L.val rfl rfl (R.mv rfl) ?_
  refine L.callF rfl rfl rfl go111 (findS_ok m ps (m :: M) k _ hd0 (by omega)) ?_
  rintro _ w1 ⟨rfl, e1⟩
  replace E := E.trans0 e1
  replace Bm := Bm.ext0 e1
  replace om := om.ext0 e1
  refine L.val rfl rfl (R.mv rfl) ?_
  refine L.val rfl rfl (R.ext rfl rfl) ?_
  refine L.val rfl rfl (R.ext rfl rfl) ?_
  refine L.val rfl rfl (R.as rfl) ?_
  refine L.val rfl rfl (R.as rfl) ?_
  refine L.nil ?_
  refine N.seq ?_
  refine G.seq ?_
  refine G.seq ?_
  refine G.region ?_
  refine L.val rfl rfl (R.mv rfl) ?_
  refine L.nil ?_
  refine N.seq ?_
  refine G.condB rfl (fun h1 => ?_) (fun h1 => ?_)
  · have hk : hasK ps k = true := h1
    have hlt := hasK_lt hk
    have hdl : (delK ps k).length = ps.length - 1 := by rw [delK_yes hk, List.length_append, List.length_take, List.length_drop]; omega
    refine G.region ?_
    refine L.val rfl rfl (R.mv rfl) ?_
    refine L.val rfl rfl (R.mv rfl) ?_
    refine L.val rfl rfl (R.nilChk rfl) ?_
    refine L.val rfl rfl (R.fld rfl) ?_
    refine L.val rfl rfl (R.ldB rfl Bm rfl) ?_
    refine L.val rfl rfl (R.mv rfl) ?_
    refine L.val rfl rfl (R.mv rfl) ?_
    refine L.val rfl rfl (R.add rfl rfl (by omega)) ?_
    refine L.callF rfl rfl rfl go113 (delS_ok a ps.length c ps M (low ps k) _ om rfl hok hlt (by omega)) ?_
    rintro _ w2 ⟨rfl, e2, o2⟩
    replace Bm := Bm.ext e2 hm0
    refine L.val rfl rfl (R.nilChk rfl) ?_
    refine L.val rfl rfl (R.fld rfl) ?_
    refine L.set rfl (R.st rfl rfl Bm (by show 0 < 1; decide) rfl) ?_
    rintro w4 ⟨e4, hs4, Bm⟩
    replace Bm : Blk w4 m #[.slice a (ps.length - 1) c] 191 (0, 0) := Bm
    have o4 := o2.ext e4 (by intro g hg h; rw [List.mem_singleton.1 h] at hg; exact hm0 hg)
    have X : Ext (m :: M) w w4 := ((e2.after E).mono (fun x hx => .inl (List.mem_cons_of_mem _ hx))).transN e4 (fun x hx => .inl (by rw [List.mem_singleton.1 hx]; simp))
    refine L.nil ?_
    refine N.seq ?_
    refine G.seq ?_
    refine G.region ?_
    refine L.val rfl rfl (R.mv rfl) ?_
    refine L.val rfl rfl (R.as rfl) ?_
    refine L.nil ?_
    refine N.seq ?_
    refine G.ret1 rfl rfl ?_
    first
      | exact ⟨by rw [hk]; rfl, m :: M, ⟨X, fun x hx => .inl hx⟩, MapAt.mk hm0 Bm hdl.symm (by rw [delK_yes hk]; exact o4) hok.del (sorted_del hs _)⟩
      | exact ⟨by rw [hk]; rfl, m :: M, ⟨E.mono (by simp), fun x hx => .inl hx⟩, by rw [delK_no hk]; exact MapAt.mk hm0 Bm rfl om hok hs⟩
  · have hk : hasK ps k = false := h1
    refine G.skip ?_
    refine N.seq ?_
    refine G.seq ?_
    refine G.region ?_
    refine L.val rfl rfl (R.mv rfl) ?_
    refine L.val rfl rfl (R.as rfl) ?_
    refine L.nil ?_
    refine N.seq ?_
    refine G.ret1 rfl rfl ?_
    first
      | exact ⟨by rw [hk]; rfl, m :: M, ⟨X, fun x hx => .inl hx⟩, MapAt.mk hm0 Bm hdl.symm (by rw [delK_yes hk]; exact o4) hok.del (sorted_del hs _)⟩
      | exact ⟨by rw [hk]; rfl, m :: M, ⟨E.mono (by simp), fun x hx => .inl hx⟩, by rw [delK_no hk]; exact MapAt.mk hm0 Bm rfl om hok hs⟩

end Go.Proofs.Ythpolibakkmmeaa
/-
  The laws of order.
-/
set_option linter.unusedVariables false
set_option linter.unusedSimpArgs false
set_option maxRecDepth 4000
namespace Go.Proofs.Ythpolibakkmmeaa
open Go Brv
theorem ofirst_ok  (w : World) : Meets Try.prog 34 [] w (fun v w' => v = .bool true ∧ Ext [] w w') := by
  refine Meets.enter Try.func34 rfl 68 rfl (Nat.le_of_ble_eq_true rfl) ?_
  have E := Ext.refl [] w
  refine G.seq ?_
  refine G.region ?_
  refine L.val rfl rfl (R.as rfl) ?_
  refine L.nil ?_
  refine N.seq ?_
  refine G.seq ?_
  refine G.region ?_
  refine L.callF rfl rfl rfl go42 (onewS_ok _) ?_
  rintro _ w1 ⟨m, rfl, hm, e1, D⟩
  have hS : ∀ y ∈ [m], w.heap.size ≤ y := by simpa using hm
  replace E := E.trans0 e1
  refine L.val rfl rfl (R.as rfl) ?_
  refine L.nil ?_
  refine N.seq ?_
  refine G.seq ?_
  refine G.region ?_
  refine L.val rfl rfl (R.mv rfl) ?_
  refine L.callF rfl rfl rfl go44 (putS_ok m ([] : List (Pr Int)) _ 5 [102, 105, 118, 101] _ D (by decide)) ?_
  rintro _ w2 ⟨rfl, S2, g2, D⟩
  have hE2 := E.size
  replace E := E.fresh g2.1 hS
  replace hS := g2.fresh hS hE2
  refine L.be 11 rfl (show _ = Value.bool true from rfl) ?_
  refine L.val rfl rfl (R.mv rfl) ?_
  refine L.callF rfl rfl rfl go44 (putS_ok m (putK ([] : List (Pr Int)) 5 [(.string (str [102, 105, 118, 101]))]) _ 2 [116, 119, 111] _ D (by decide)) ?_
  rintro _ w3 ⟨rfl, S3, g3, D⟩
  have hE3 := E.size
  replace E := E.fresh g3.1 hS
  replace hS := g3.fresh hS hE3
  refine L.be 13 rfl (show _ = Value.bool true from rfl) ?_
  refine L.val rfl rfl (R.as rfl) ?_
  refine L.val rfl rfl (R.as rfl) ?_
  refine L.nil ?_
  refine N.seq ?_
  refine G.seq ?_
  refine G.region ?_
  refine L.val rfl rfl (R.mv rfl) ?_
  refine L.callF rfl rfl rfl go44 (putS_ok m (putK (putK ([] : List (Pr Int)) 5 [(.string (str [102, 105, 118, 101]))]) 2 [(.string (str [116, 119, 111]))]) _ 5 [86] _ D (by decide)) ?_
  rintro _ w4 ⟨rfl, S4, g4, D⟩
  have hE4 := E.size
  replace E := E.fresh g4.1 hS
  replace hS := g4.fresh hS hE4
  refine L.be 15 rfl (show _ = Value.bool false from rfl) ?_
  refine L.val rfl rfl (R.as rfl) ?_
  refine L.nil ?_
  refine N.seq ?_
  refine G.seq ?_
  refine G.region ?_
  refine L.val rfl rfl (R.mv rfl) ?_
  refine L.callF rfl rfl rfl go50 (floorS_ok m (putK (putK (putK ([] : List (Pr Int)) 5 [(.string (str [102, 105, 118, 101]))]) 2 [(.string (str [116, 119, 111]))]) 5 [(.string (str [86]))]) _ 4 _ D (by decide)) ?_
  rintro _ w5 ⟨rfl, e5⟩
  replace E := E.trans0 e5
  replace D := D.ext0 e5
  refine L.be 18 rfl (show _ = Value.tuple #[.int .i64 2, (.string (str [116, 119, 111])), .bool true] from rfl) ?_
  refine L.val rfl rfl (R.mv rfl) ?_
  refine L.val rfl rfl (R.ext rfl rfl) ?_
  refine L.val rfl rfl (R.ext rfl rfl) ?_
  refine L.val rfl rfl (R.ext rfl rfl) ?_
  refine L.val rfl rfl (R.as rfl) ?_
  refine L.val rfl rfl (R.as rfl) ?_
  refine L.val rfl rfl (R.as rfl) ?_
  refine L.nil ?_
  refine N.seq ?_
  refine G.seq ?_
  refine G.region ?_
  refine L.val rfl rfl (R.mv rfl) ?_
  refine L.callF rfl rfl rfl go54 (okeysS_ok m (putK (putK (putK ([] : List (Pr Int)) 5 [(.string (str [102, 105, 118, 101]))]) 2 [(.string (str [116, 119, 111]))]) 5 [(.string (str [86]))]) _ _ D (by decide)) ?_
  rintro _ w6 ⟨ka, kc, kM, rfl, e6, ko, hkM⟩
  replace E := E.trans0 e6
  replace D := D.ext0 e6
  refine L.be 23 rfl (show _ = Value.slice ka 2 kc from rfl) ?_
  refine L.val rfl rfl (R.as rfl) ?_
  refine L.nil ?_
  refine N.seq ?_
  refine G.seq ?_
  refine G.region ?_
  obtain ⟨q, hq, hcq⟩ := ko.cells 0 (.int .i64 2) rfl
  refine L.val rfl rfl (R.mv rfl) ?_
  refine L.val rfl rfl (R.mv rfl) ?_
  refine L.isT 25 rfl (by rfl) ?_
  refine L.val rfl rfl (R.mv rfl) ?_
  first | refine L.val rfl rfl (R.pickT rfl rfl) ?_ | refine L.val rfl rfl (R.pickF rfl rfl) ?_
  refine L.val rfl rfl (R.mv rfl) ?_
  refine L.isT 28 rfl (by rfl) ?_
  refine L.val rfl rfl (R.mv rfl) ?_
  refine L.val rfl rfl (R.not rfl) ?_
  first | refine L.val rfl rfl (R.pickT rfl rfl) ?_ | refine L.val rfl rfl (R.pickF rfl rfl) ?_
  refine L.val rfl rfl (R.mv rfl) ?_
  refine L.isT 32 rfl (by rfl) ?_
  refine L.val rfl rfl (R.mv rfl) ?_
  refine L.val rfl rfl (R.eqI rfl rfl) ?_
  first | refine L.val rfl rfl (R.pickT rfl rfl) ?_ | refine L.val rfl rfl (R.pickF rfl rfl) ?_
  refine L.val rfl rfl (R.mv rfl) ?_
  refine L.isT 36 rfl (by rfl) ?_
  refine L.val rfl rfl (R.mv rfl) ?_
  refine L.val rfl rfl (R.eqStr rfl rfl) ?_
  first | refine L.val rfl rfl (R.pickT rfl rfl) ?_ | refine L.val rfl rfl (R.pickF rfl rfl) ?_
  refine L.val rfl rfl (R.mv rfl) ?_
  refine L.isT 40 rfl (by rfl) ?_
  refine L.val rfl rfl (R.mv rfl) ?_
  first | refine L.val rfl rfl (R.pickT rfl rfl) ?_ | refine L.val rfl rfl (R.pickF rfl rfl) ?_
  refine L.val rfl rfl (R.mv rfl) ?_
  refine L.isT 43 rfl (by rfl) ?_
  refine L.val rfl rfl (R.mv rfl) ?_
  refine L.val rfl rfl (R.lenS rfl) ?_
  refine L.val rfl rfl (R.eqI rfl rfl) ?_
  first | refine L.val rfl rfl (R.pickT rfl rfl) ?_ | refine L.val rfl rfl (R.pickF rfl rfl) ?_
  refine L.val rfl rfl (R.mv rfl) ?_
  refine L.isT 48 rfl (by rfl) ?_
  refine L.val rfl rfl (R.mv rfl) ?_
  refine L.val rfl rfl (R.idx rfl rfl (by decide) (by decide) q hq) ?_
  refine L.val rfl rfl (R.ld rfl (v := .int .i64 2) hcq) ?_
  refine L.val rfl rfl (R.eqI rfl rfl) ?_
  first | refine L.val rfl rfl (R.pickT rfl rfl) ?_ | refine L.val rfl rfl (R.pickF rfl rfl) ?_
  refine L.val rfl rfl (R.mv rfl) ?_
  refine L.isT 54 rfl (by rfl) ?_
  refine L.val rfl rfl (R.mv rfl) ?_
  refine L.callF rfl rfl rfl go53 (olenS_ok m (putK (putK (putK ([] : List (Pr Int)) 5 [(.string (str [102, 105, 118, 101]))]) 2 [(.string (str [116, 119, 111]))]) 5 [(.string (str [86]))]) _ _ D (by decide)) ?_
  rintro _ _ ⟨rfl, hw⟩
  obtain rfl := hw.symm
  refine L.be 56 rfl (show _ = Value.int .i64 2 from rfl) ?_
  refine L.val rfl rfl (R.eqI rfl rfl) ?_
  first | refine L.val rfl rfl (R.pickT rfl rfl) ?_ | refine L.val rfl rfl (R.pickF rfl rfl) ?_
  refine L.val rfl rfl (R.mv rfl) ?_
  refine L.isT 59 rfl (by rfl) ?_
  refine L.val rfl rfl (R.mv rfl) ?_
  refine L.callF rfl rfl rfl go47 (odelS_ok m (putK (putK (putK ([] : List (Pr Int)) 5 [(.string (str [102, 105, 118, 101]))]) 2 [(.string (str [116, 119, 111]))]) 5 [(.string (str [86]))]) _ 2 _ D (by decide)) ?_
  rintro _ w7 ⟨rfl, S7, g7, D⟩
  have hE7 := E.size
  replace E := E.fresh g7.1 hS
  replace hS := g7.fresh hS hE7
  refine L.be 61 rfl (show _ = Value.bool true from rfl) ?_
  first | refine L.val rfl rfl (R.pickT rfl rfl) ?_ | refine L.val rfl rfl (R.pickF rfl rfl) ?_
  refine L.val rfl rfl (R.mv rfl) ?_
  refine L.isT 63 rfl (by rfl) ?_
  refine L.val rfl rfl (R.mv rfl) ?_
  refine L.callF rfl rfl rfl go47 (odelS_ok m (delK (putK (putK (putK ([] : List (Pr Int)) 5 [(.string (str [102, 105, 118, 101]))]) 2 [(.string (str [116, 119, 111]))]) 5 [(.string (str [86]))]) 2) _ 2 _ D (by decide)) ?_
  rintro _ w8 ⟨rfl, S8, g8, D⟩
  have hE8 := E.size
  replace E := E.fresh g8.1 hS
  replace hS := g8.fresh hS hE8
  refine L.be 65 rfl (show _ = Value.bool false from rfl) ?_
  refine L.val rfl rfl (R.not rfl) ?_
  first | refine L.val rfl rfl (R.pickT rfl rfl) ?_ | refine L.val rfl rfl (R.pickF rfl rfl) ?_
  refine L.val rfl rfl (R.as rfl) ?_
  refine L.nil ?_
  refine N.seq ?_
  refine G.ret1 rfl rfl ?_
  exact ⟨rfl, E⟩

end Go.Proofs.Ythpolibakkmmeaa
/-
  The walks of package order.
-/
set_option linter.unusedVariables false
set_option linter.unusedSimpArgs false
set_option maxRecDepth 4000
namespace Go.Proofs.Ythpolibakkmmeaa
open Go Brv
theorem find1KI_ok (p : Pr (List UInt8)) (k : List UInt8) (w : World) : Meets Try.prog 166 [.agg (pcell p).toArray, .string (str k)] w (fun v w' => v = .int .i64 (cmpF p.1 k) ∧ Ext [] w w') := by
  refine Meets.enter Try.func166 rfl 9 rfl (Nat.le_of_ble_eq_true rfl) ?_
  have E := Ext.refl [] w
  refine G.seq ?_
  refine G.region ?_
  refine L.do rfl rfl (R.box rfl) ?_
  rintro _ w1 ⟨b2, rfl, hb2, hs2, e1, B2⟩
  replace B2 : Blk w1 b2 (pcell p).toArray 182 (0, 0) := B2
  replace E := E.trans0 e1
  refine L.val rfl rfl (R.as rfl) ?_
  refine L.nil ?_
  refine N.seq ?_
  refine G.seq ?_
  refine G.region ?_
  refine L.val rfl rfl (R.fld rfl) ?_
  refine L.val rfl rfl (R.ldB (v := .string (str p.1)) rfl B2 rfl) ?_
  refine L.val rfl rfl (R.mv rfl) ?_
  refine L.callF rfl rfl rfl go167 (cmpS_ok _ _ _) ?_
  rintro _ _ ⟨rfl, hw⟩
  obtain rfl := hw.symm
  refine L.val rfl rfl (R.as rfl) ?_
  refine L.nil ?_
  refine N.seq ?_
  refine G.ret1 rfl rfl ?_
  exact ⟨rfl, E⟩

theorem bsKI_ok (a : Option Addr) (n c : Nat) (ps : List (Pr (List UInt8))) (k : List UInt8) (w : World) (hc : Cells w a (pcells ps)) (hn : n = ps.length) (hok : OkP 1 ps) (hs : Sorted ps) (hnl : n ≤ 1000000) : Meets Try.prog 165 [.slice a n c, .string (str k), .func (.func 166) #[] #[]] w (fun v w' => v = .tuple #[.int .i64 (low ps k : Int), .bool (hasK ps k)] ∧ Ext [] w w') := by
  refine Meets.enter Try.func165 rfl 49 rfl (Nat.le_of_ble_eq_true rfl) ?_
  have E := Ext.refl [] w
  have hT := Tab.pairs hc hn hok
  have hlo := low_le ps k
  refine G.seq ?_
  refine G.region ?_
  refine L.val rfl rfl (R.as rfl) ?_
  refine L.val rfl rfl (R.as rfl) ?_
  refine L.nil ?_
  refine N.seq ?_
  refine G.seq ?_
  refine G.region ?_
  refine L.val rfl rfl (R.mv rfl) ?_
  refine L.val rfl rfl (R.lenS rfl) ?_
  refine L.val rfl rfl (R.as rfl) ?_
  refine L.nil ?_
  refine N.seq ?_
  refine G.seq ?_
  refine G.region ?_
  refine L.val rfl rfl (R.mv rfl) ?_
  refine L.val rfl rfl (R.as rfl) ?_
  refine L.val rfl rfl (R.as rfl) ?_
  refine L.nil ?_
  refine N.seq ?_
  refine G.seq ?_
  refine G.block ?_
  refine G.loop (X := Nat × Nat) (fun s => [(0, .slice a n c), (1, .string (str k)), (2, .func (.func 166) #[] #[]), (8, .int .i64 (n : Int)), (9, .int .i64 (s.1 : Int)), (10, .int .i64 (s.2 : Int))]) (fun s w' => s.1 ≤ s.2 ∧ s.2 ≤ n ∧ s.1 ≤ low ps k ∧ low ps k ≤ s.2 ∧ Ext [] w w') (fun s => s.2 - s.1) ((0, n)) (Sub.cons rfl (Sub.cons rfl (Sub.cons rfl (Sub.cons rfl (Sub.cons rfl (Sub.cons rfl (Sub.nil _))))))) ⟨Nat.zero_le _, Nat.le_refl _, Nat.zero_le _, by show low ps k ≤ n; omega, E⟩ ?_
  rintro ⟨i, j⟩ w1 ⟨hi1, hi2, hi3, hi4, E⟩
  dsimp only at hi1 hi2 hi3 hi4
  refine G.sub [(0, .slice a n c), (1, .string (str k)), (2, .func (.func 166) #[] #[]), (8, .int .i64 (n : Int)), (9, .int .i64 (i : Int)), (10, .int .i64 (j : Int))] (Sub.cons rfl (Sub.cons rfl (Sub.cons rfl (Sub.cons rfl (Sub.cons rfl (Sub.cons rfl (Sub.nil _))))))) ?_
  refine G.seq ?_
  refine G.seq ?_
  refine G.region ?_
  refine L.val rfl rfl (R.mv rfl) ?_
  refine L.val rfl rfl (R.mv rfl) ?_
  refine L.val rfl rfl (R.lss rfl rfl) ?_
  refine L.nil ?_
  refine N.seq ?_
  refine G.condP rfl (fun h0 => ?_) (fun h0 => ?_)
  · have hij : i < j := by omega
    obtain ⟨hm, hhm⟩ : ∃ hm, hm = (i + j) / 2 := ⟨_, rfl⟩
    have hm1 : i ≤ hm := by omega
    have hm2 : hm < j := by omega
    refine G.skip ?_
    refine N.seq ?_
    refine G.block ?_
    refine G.seq ?_
    refine G.region ?_
    refine L.val rfl rfl (R.mv rfl) ?_
    refine L.val rfl rfl (R.mv rfl) ?_
    refine L.val rfl rfl (R.add rfl rfl (by omega)) ?_
    refine L.val rfl rfl (R.conv rfl ((i + j : Nat) : Int) (by rw [wrap_u64 (by omega)]; omega)) ?_
    refine L.val rfl rfl (R.shrW rfl rfl (by decide) (hm : Int) (by rw [shr1]; omega)) ?_
    refine L.val rfl rfl (R.conv rfl (hm : Int) (wrap_i64 (by omega))) ?_
    refine L.val rfl rfl (R.as rfl) ?_
    refine L.nil ?_
    refine N.seq ?_
    refine G.seq ?_
    refine G.region ?_
    refine L.val rfl rfl (R.mv rfl) ?_
    refine L.val rfl rfl (R.mv rfl) ?_
    refine L.val rfl rfl (R.mv rfl) ?_
    obtain ⟨p1, hp1⟩ : ∃ p, ps[hm]? = some p := ⟨_, List.getElem?_eq_getElem (by omega)⟩
    obtain ⟨qp1, hqp1, hclp1⟩ := hT.at (by decide) hm (by rw [List.length_map]; omega)
    have hep1 : (ps.map pcell)[hm]'(by rw [List.length_map]; omega) = pcell p1 := by rw [List.getElem_map]; exact congrArg pcell (List.getElem?_eq_some_iff.1 hp1).2
    rw [hep1] at hclp1
    have hszp1 : (pcell p1).length = 2 := by show p1.2.length + 1 = _; rw [(hok p1 (List.mem_of_getElem? hp1)).1]
    refine L.val rfl rfl (R.idx rfl rfl (by omega) (by omega) qp1 hqp1) ?_
    refine L.val rfl rfl (R.ldN (vs := pcell p1) rfl (hclp1.ext0 E) hszp1) ?_
    refine L.val rfl rfl (R.mv rfl) ?_
    refine L.callV rfl rfl rfl rfl rfl go166 (find1KI_ok p1 k _) ?_
    rintro _ w2 ⟨rfl, e2⟩
    replace E := E.trans0 e2
    refine L.val rfl rfl (R.lss rfl rfl) ?_
    refine L.nil ?_
    refine N.seq ?_
    refine G.condP rfl (fun h1 => ?_) (fun h1 => ?_)
    · have hcmp : cmpF p1.1 k < 0 := h1
      refine G.region ?_
      refine L.val rfl rfl (R.mv rfl) ?_
      refine L.val rfl rfl (R.add rfl rfl (by omega)) ?_
      refine L.val rfl rfl (R.as rfl) ?_
      refine L.nil ?_
      refine N.block ?_
      first
        | exact N.again (hm + 1, j) (by show j - (hm + 1) < j - i; omega) (Sub.cons rfl (Sub.cons rfl (Sub.cons rfl (Sub.cons rfl (Sub.cons rfl (Sub.cons rfl (Sub.nil _))))))) ⟨by show hm + 1 ≤ j; omega, hi2, by show hm + 1 ≤ low ps k; have := (lt_low hs hp1).1 hcmp; omega, hi4, E⟩
        | exact N.again (i, hm) (by show hm - i < j - i; omega) (Sub.cons rfl (Sub.cons rfl (Sub.cons rfl (Sub.cons rfl (Sub.cons rfl (Sub.cons rfl (Sub.nil _))))))) ⟨by show i ≤ hm; omega, by show hm ≤ n; omega, hi3, by show low ps k ≤ hm; have : ¬ hm < low ps k := fun h9 => hcmp ((lt_low hs hp1).2 h9); omega, E⟩
    · have hcmp : ¬ cmpF p1.1 k < 0 := h1
      refine G.region ?_
      refine L.val rfl rfl (R.mv rfl) ?_
      refine L.val rfl rfl (R.as rfl) ?_
      refine L.nil ?_
      refine N.block ?_
      first
        | exact N.again (hm + 1, j) (by show j - (hm + 1) < j - i; omega) (Sub.cons rfl (Sub.cons rfl (Sub.cons rfl (Sub.cons rfl (Sub.cons rfl (Sub.cons rfl (Sub.nil _))))))) ⟨by show hm + 1 ≤ j; omega, hi2, by show hm + 1 ≤ low ps k; have := (lt_low hs hp1).1 hcmp; omega, hi4, E⟩
        | exact N.again (i, hm) (by show hm - i < j - i; omega) (Sub.cons rfl (Sub.cons rfl (Sub.cons rfl (Sub.cons rfl (Sub.cons rfl (Sub.cons rfl (Sub.nil _))))))) ⟨by show i ≤ hm; omega, by show hm ≤ n; omega, hi3, by show low ps k ≤ hm; have : ¬ hm < low ps k := fun h9 => hcmp ((lt_low hs hp1).2 h9); omega, E⟩
  · have hij : i = low ps k := by omega
    refine G.exit _ rfl ?_
    refine N.seq ?_
    refine G.seq ?_
    refine G.region ?_
    refine L.val rfl rfl (R.mv rfl) ?_
    refine L.val rfl rfl (R.mv rfl) ?_
    refine L.val rfl rfl (R.mv rfl) ?_
    refine L.val rfl rfl (R.lss rfl rfl) ?_
    refine L.val rfl rfl (R.mv rfl) ?_
    refine L.caseP 39 rfl (fun hg8_4 => ?_) (fun hg8_4 => ?_)
    · refine L.val rfl rfl (R.mv rfl) ?_
      refine L.val rfl rfl (R.mv rfl) ?_
      refine L.val rfl rfl (R.mv rfl) ?_
      obtain ⟨p2, hp2⟩ : ∃ p, ps[i]? = some p := ⟨_, List.getElem?_eq_getElem (by omega)⟩
      obtain ⟨qp2, hqp2, hclp2⟩ := hT.at (by decide) i (by rw [List.length_map]; omega)
      have hep2 : (ps.map pcell)[i]'(by rw [List.length_map]; omega) = pcell p2 := by rw [List.getElem_map]; exact congrArg pcell (List.getElem?_eq_some_iff.1 hp2).2
      rw [hep2] at hclp2
      have hszp2 : (pcell p2).length = 2 := by show p2.2.length + 1 = _; rw [(hok p2 (List.mem_of_getElem? hp2)).1]
      refine L.val rfl rfl (R.idx rfl rfl (by omega) (by omega) qp2 hqp2) ?_
      refine L.val rfl rfl (R.ldN (vs := pcell p2) rfl (hclp2.ext0 E) hszp2) ?_
      refine L.val rfl rfl (R.mv rfl) ?_
      refine L.callV rfl rfl rfl rfl rfl go166 (find1KI_ok p2 k _) ?_
      rintro _ w3 ⟨rfl, e3⟩
      replace E := E.trans0 e3
      refine L.val rfl rfl (R.eqI rfl rfl) ?_
      first | refine L.val rfl rfl (R.pickT rfl rfl) ?_ | refine L.val rfl rfl (R.pickF rfl rfl) ?_
      refine L.val rfl rfl (R.as rfl) ?_
      refine L.val rfl rfl (R.as rfl) ?_
      refine L.nil ?_
      refine N.seq ?_
      refine G.ret2 rfl rfl rfl ?_
      first
        | exact ⟨by rw [hfound, ← hij], E⟩
        | exact ⟨by rw [hasK_at hs (by rw [← hij]; exact hp2), ← hij], E⟩
    · have hfound : hasK ps k = false := hasK_end (by omega)
      refine L.pass rfl rfl ?_
      refine L.pass rfl rfl ?_
      refine L.pass rfl rfl ?_
      refine L.pass rfl rfl ?_
      refine L.pass rfl rfl ?_
      refine L.pass rfl rfl ?_
      refine L.pass rfl rfl ?_
      refine L.pass rfl rfl ?_
      first | refine L.val rfl rfl (R.pickT rfl rfl) ?_ | refine L.val rfl rfl (R.pickF rfl rfl) ?_
      refine L.val rfl rfl (R.as rfl) ?_
      refine L.val rfl rfl (R.as rfl) ?_
      refine L.nil ?_
      refine N.seq ?_
      refine G.ret2 rfl rfl rfl ?_
      first
        | exact ⟨by rw [hfound, ← hij], E⟩
        | exact ⟨by rw [hasK_at hs (by rw [← hij]; exact hp2), ← hij], E⟩

theorem findKI_ok (m : Nat) (ps : List (Pr (List UInt8))) (S : List Nat) (k : List UInt8) (w : World) (hd : MapAt (κ := List UInt8) 180 182 1 w m ps S) (hl : ps.length ≤ 100000) : Meets Try.prog 106 [.pointer (some ⟨m, 0, none⟩), .string (str k)] w (fun v w' => v = .tuple #[.int .i64 (low ps k : Int), .bool (hasK ps k)] ∧ Ext [] w w') := by
  refine Meets.enter Try.func106 rfl 14 rfl (Nat.le_of_ble_eq_true rfl) ?_
  have E := Ext.refl [] w
  obtain ⟨a, c, M, rfl, hm0, Bm, om, hok, hs⟩ := hd
  refine G.seq ?_
  refine G.region ?_
  refine L.val rfl rfl (R.as rfl) ?_
  refine L.val rfl rfl (R.as rfl) ?_
  refine L.nil ?_
  refine N.seq ?_
  refine G.seq ?_
  refine G.region ?_
  refine L.val rfl rfl (R.mv rfl) ?_
  refine L.val rfl rfl (R.nilChk rfl) ?_
  refine L.val rfl rfl (R.fld rfl) ?_
  refine L.val rfl rfl (R.ldB rfl Bm rfl) ?_
  refine L.val rfl rfl (R.mv rfl) ?_
  refine L.callF rfl rfl rfl go165 (bsKI_ok _ _ _ ps k _ om.cells rfl hok hs (by omega)) ?_
  rintro _ w1 ⟨rfl, e1⟩
  replace E := E.trans0 e1
  refine L.val rfl rfl (R.ext rfl rfl) ?_
  refine L.val rfl rfl (R.ext rfl rfl) ?_
  refine L.val rfl rfl (R.as rfl) ?_
  refine L.val rfl rfl (R.as rfl) ?_
  refine L.nil ?_
  refine N.seq ?_
  refine G.ret2 rfl rfl rfl ?_
  exact ⟨rfl, E⟩

theorem insKI_ok (a : Option Addr) (n c : Nat) (ps : List (Pr (List UInt8))) (M : List Nat) (i : Nat) (p : Pr (List UInt8)) (vb : Nat) (w : World) (ho : Own w 182 (1 + 1) a n c (pcells ps) M) (hn : n = ps.length) (hok : OkP 1 ps) (hi : i ≤ n) (hp : p.2.length = 1 ∧ ∀ u ∈ p.2, u.oneCell' = true) (Bv : Blk w vb (pcell p).toArray 182 (0, 0)) (hvM : vb ∉ M) (hnl : n ≤ 100000) : Meets Try.prog 107 [.slice a n c, .int .i64 (i : Int), .slice (some ⟨vb, 0, none⟩) 1 1] w (fun v w' => ∃ a' c' M', v = .slice a' (n + 1) c' ∧ Ext M w w' ∧ (∀ g ∈ M', g ∈ M ∨ w.heap.size ≤ g) ∧ Own w' 182 (1 + 1) a' (n + 1) c' (pcells (ps.take i ++ p :: ps.drop i)) M') := by
  refine Meets.enter Try.func107 rfl 95 rfl (Nat.le_of_ble_eq_true rfl) ?_
  have hl2 : (pcell p).length = 2 := by show p.2.length + 1 = _; rw [hp.1]
  have hp1 : ∀ u ∈ pcell p, u.oneCell' = true := pcell1 hp.2
  have hoc := ho.le
  have hps := (pcells_take (sv := 1) hok.len i (by omega))
  rw [show 1 + 1 = 2 from rfl] at hps
  have hcd : (pcells (ps.drop i)).length = (n - i) * 2 := by rw [pcells_len (sv := 1) (fun q hq => (hok q (List.mem_of_mem_drop hq)).1), List.length_drop, hn]
  have hci : (pcells (ps.take i)).length = i * 2 := by rw [pcells_len (sv := 1) (fun q hq => (hok q (List.mem_of_mem_take hq)).1), List.length_take, Nat.min_eq_left (by omega)]
  have hone := pcell_one hok
  have hone2 : ∀ u ∈ pcells (ps.drop i), u.oneCell' = true := fun u hu => hone u (by have h9 := hps.2; rw [← h9] at hu; exact List.mem_of_mem_drop hu)
  have Cv : Cells w (some ⟨vb, 0, none⟩) (pcell p) := Cells.of_blk Bv 0 _ (fun j v hj => by simpa using hj)
  refine G.seq ?_
  refine G.region ?_
  refine L.val rfl rfl (R.as rfl) ?_
  refine L.nil ?_
  refine N.seq ?_
  refine G.seq ?_
  refine G.region ?_
  refine L.val rfl rfl (R.mv rfl) ?_
  refine L.val rfl rfl (R.mv rfl) ?_
  refine L.val rfl rfl (R.slL rfl rfl (by omega) (by omega)) ?_
  refine L.nil ?_
  refine N.seq ?_
  refine G.seq ?_
  refine G.region ?_
  refine L.val rfl rfl (R.mv rfl) ?_
  refine L.val rfl rfl (R.lenS rfl) ?_
  refine L.val rfl rfl (R.as rfl) ?_
  refine L.nil ?_
  refine N.seq ?_
  refine G.seq ?_
  refine G.seq ?_
  refine G.region ?_
  refine L.val rfl rfl (R.mv rfl) ?_
  refine L.val rfl rfl (R.eqI rfl rfl) ?_
  refine L.nil ?_
  refine N.seq ?_
  refine G.condP rfl (fun h0 => ?_) (fun h0 => ?_)
  · exfalso; omega
  · refine G.skip ?_
    refine N.seq ?_
    refine G.seq ?_
    refine G.region ?_
    refine L.val rfl rfl (R.mv rfl) ?_
    refine L.val rfl rfl (R.lenS rfl) ?_
    refine L.val rfl rfl (R.as rfl) ?_
    refine L.nil ?_
    refine N.seq ?_
    refine G.seq ?_
    refine G.seq ?_
    refine G.region ?_
    refine L.val rfl rfl (R.mv rfl) ?_
    refine L.val rfl rfl (R.mv rfl) ?_
    refine L.val rfl rfl (R.eqI rfl rfl) ?_
    refine L.nil ?_
    refine N.seq ?_
    refine G.condP rfl (fun h1 => ?_) (fun h1 => ?_)
    · obtain rfl : i = n := by omega
      refine G.seq ?_
      refine G.region ?_
      refine L.val rfl rfl (R.mv rfl) ?_
      refine L.val rfl rfl (R.mv rfl) ?_
      refine L.do rfl rfl (R.app rfl rfl ho Cv (by rw [hl2]) hp1 (by simp [maxLen]; omega) (by omega)) ?_
      rintro _ w1 ⟨a1, c1, M1, rfl, e1, hM1, o1⟩
      refine L.val rfl rfl (R.as rfl) ?_
      refine L.nil ?_
      refine N.seq ?_
      refine G.ret1 rfl rfl ?_
      first
        | (have e9 : pcells ps ++ pcell p = pcells (ps.take i ++ p :: ps.drop i) := by rw [← pcells_ins, List.take_of_length_le (by omega), List.drop_of_length_le (by omega)]; simp [pcells]
           rw [e9] at o1; exact ⟨a1, c1, M1, rfl, e1, hM1, o1⟩)
        | (refine ⟨_, c1, [g1], rfl, n3.mono (by simp), fun x hx => .inr (by rw [List.mem_singleton.1 hx]; exact hg1), ?_⟩
           have hfin := hog.1; rw [pcells_ins, ← Nat.add_one_mul, ← Nat.add_mul, show i + 1 + (n - i) = n + 1 by omega] at hfin
           refine ⟨by rw [pcells_len (sv := 1) (fun q hq => (okIns hok hp q hq).1), List.length_append, List.length_cons, List.length_take, List.length_drop]; congr 1; omega, .inr ⟨g1, _, rfl, rfl, B3, by omega, hx1, ?_, hfin⟩⟩
           rw [← Nat.add_one_mul] at hog; rw [hog.2.2]; exact hz1)
        | (refine ⟨_, c, [g0], rfl, hE5, fun x hx => .inl hx, ?_⟩
           have hfin := hoi.1; rw [pcells_ins, ← Nat.add_one_mul] at hfin
           refine ⟨by rw [pcells_len (sv := 1) (fun q hq => (okIns hok hp q hq).1), List.length_append, List.length_cons, List.length_take, List.length_drop]; congr 1; omega, .inr ⟨g0, _, rfl, rfl, B5, by omega, hx0, ?_, hfin⟩⟩
           rw [hoi.2.2]; exact hz0)
    · have hin : i < n := by omega
      refine G.skip ?_
      refine N.seq ?_
      refine G.seq ?_
      refine G.seq ?_
      refine G.region ?_
      refine L.val rfl rfl (R.mv rfl) ?_
      refine L.val rfl rfl (R.mv rfl) ?_
      refine L.val rfl rfl (R.add rfl rfl (by omega)) ?_
      refine L.val rfl rfl (R.mv rfl) ?_
      refine L.val rfl rfl (R.capS rfl) ?_
      refine L.val rfl rfl (R.gtr rfl rfl) ?_
      refine L.nil ?_
      refine N.seq ?_
      refine G.condP rfl (fun h2 => ?_) (fun h2 => ?_)
      · have hgc : c < n + 1 := by omega
        refine G.seq ?_
        refine G.region ?_
        refine L.val rfl rfl (R.mv rfl) ?_
        refine L.val rfl rfl (R.mv rfl) ?_
        refine L.val rfl rfl (R.slH rfl rfl (by omega) (by omega)) ?_
        refine L.be 34 rfl (show _ = Value.slice a i c by rw [subA_zero, Int.toNat_natCast]) ?_
        refine L.val rfl rfl (R.mv rfl) ?_
        refine L.val rfl rfl (R.mv rfl) ?_
        refine L.val rfl rfl (R.add rfl rfl (by omega)) ?_
        refine L.val rfl rfl (R.mv rfl) ?_
        refine L.val rfl rfl (R.sub' rfl rfl (by omega)) ?_
        refine L.be 39 rfl (show _ = Value.int .i64 ((n + 1 - i : Nat) : Int) by congr 1; omega) ?_
        refine L.do rfl rfl (R.appZN (m := n + 1 - i) rfl rfl (ho.pre (i := i) (by omega)) (by intro u hu; simp [Value.cells] at hu; first | (rcases hu with rfl | rfl <;> rfl) | (rcases hu with rfl | rfl | rfl <;> rfl) | (rcases hu with rfl | rfl | rfl | rfl <;> rfl) | (rcases hu with rfl | rfl | rfl | rfl | rfl <;> rfl)) (by simp [maxLen]; omega) (by omega) (by decide) (by decide) (by omega)) ?_
        rintro _ w1 ⟨a1, c1, M1, rfl, e1, o1, hM1⟩
        rw [show i + (n + 1 - i) = n + 1 by omega] at o1 ⊢
        obtain ⟨g1, cur1, rfl, rfl, B1, hc1, hx1, hz1, ht1⟩ := o1.some (by omega)
        have hg1 := hM1 g1 (by simp)
        have hcu : (cur1.toList.take (i * 2)) = pcells (ps.take i) := by
          have h9 := congrArg (List.take (i * 2)) ht1
          rw [List.take_take, Nat.min_eq_left (Nat.mul_le_mul_right _ (by omega))] at h9
          refine h9.trans ?_
          show List.take (i * 2) (List.take (i * 2) (pcells ps) ++ _) = _
          rw [List.take_append_of_le_length (by rw [hps.1, hci]; exact Nat.le_refl _), List.take_take, Nat.min_self]
          exact hps.1
        have hzz : (n + 1) * 2 ≤ cur1.size := Nat.le_trans (Nat.mul_le_mul_right _ hc1) hz1
        have hog := over_grow (c1 := pcell p) (c2 := pcells (ps.drop i)) (s := 2) (K := (n - i) * 2) hcu (by omega) hl2 hcd (by omega)
        refine L.val rfl rfl (R.as rfl) ?_
        refine L.nil ?_
        refine N.seq ?_
        refine G.seq ?_
        refine G.region ?_
        refine L.val rfl rfl (R.mv rfl) ?_
        refine L.val rfl rfl (R.mv rfl) ?_
        refine L.val rfl rfl (R.slL rfl rfl (by omega) (by omega)) ?_
        refine L.be 43 rfl (show _ = Value.slice (some ⟨g1, i * 2, none⟩) (n + 1 - i) (c1 - i) by rw [Int.toNat_natCast, subA_lit (by omega), Nat.zero_add]) ?_
        refine L.val rfl rfl (R.mv rfl) ?_
        refine L.do rfl rfl (R.copyN (m := 1) rfl rfl B1 (Cv.ext0 e1) (Nat.min_eq_left (by omega)) (by rw [hl2]) (by rw [hl2]; omega) hp1) ?_
        rintro _ w2 ⟨rfl, P2⟩
        obtain ⟨e2, hs2, B2⟩ := P2
        have n2 := e1.news2 e2 hg1
        have Cd : Cells w2 (subA a i c 2) (pcells (ps.drop i)) := by
          have h9 := (ho.cells.ext0 n2).sub i c 2 ((n - i) * 2) (by rw [ho.1, show 1 + 1 = 2 from rfl, ← Nat.add_mul]; exact Nat.mul_le_mul_right _ (by omega)) (by omega)
          rw [hps.2, List.take_of_length_le (by omega)] at h9
          exact h9
        refine L.nil ?_
        refine N.seq ?_
        refine G.seq ?_
        refine G.staged [8] [.blocks ([g1])] [fun w' => Ext [] w2 w', fun w' => Ext [g1] w2 w' ∧ Blk w' g1 (Over (Over cur1 (i * 2) (pcell p)) ((i + 1) * 2) (pcells (ps.drop i))) 182 (0, 0)] [] (by decide +kernel) (by decide +kernel) rfl rfl rfl (fun _ h => h) ?_
        refine Z.val rfl rfl rfl rfl rfl (fun w3 => R.mv rfl) ?_
        refine Z.val rfl rfl rfl rfl rfl (fun w3 => R.mv rfl) ?_
        refine Z.val rfl rfl rfl rfl rfl (fun w3 => R.mv rfl) ?_
        refine Z.val rfl rfl rfl rfl rfl (fun w3 => R.add rfl rfl (by omega)) ?_
        refine Z.val rfl rfl rfl rfl rfl (fun w3 => R.slL rfl rfl (by omega) (by omega)) ?_
        refine Z.be 50 rfl (show _ = Value.slice (some ⟨g1, (i + 1) * 2, none⟩) (n - i) (c1 - (i + 1)) by rw [show ((i : Int) + ((1 : Nat) : Int)).toNat = i + 1 by omega, subA_lit (by omega), Nat.zero_add, show n + 1 - (i + 1) = n - i by omega]) ?_
        refine Z.val rfl rfl rfl rfl rfl (fun w3 => R.mv rfl) ?_
        refine Z.val rfl rfl rfl rfl rfl (fun w3 => R.mv rfl) ?_
        refine Z.val rfl rfl rfl rfl rfl (fun w3 => R.slL rfl rfl (by omega) (by omega)) ?_
        refine Z.be 53 rfl (show _ = Value.slice (subA a i c 2) (n - i) (c - i) by rw [Int.toNat_natCast]) ?_
        refine Z.put (A := fun v _ => True) (Lasts.kill (fun _ _ _ _ h => h) (by decide +kernel)) 0 (by decide +kernel) rfl rfl rfl rfl rfl rfl rfl (fun w3 hJ => (R.copyN (m := n - i) rfl rfl (B2.ext0 hJ) (Cd.ext0 hJ) (Nat.min_self _) hcd (by rw [hcd, hog.2.1]; omega) hone2).mono (fun v w9 h => by obtain ⟨_, h1, h2, h3⟩ := h; exact ⟨trivial, h1, h1.after hJ, h3⟩)) ?_
        refine Z.nil rfl rfl (fun w3 hJ => ?_)
        obtain ⟨e3, B3⟩ := hJ
        intro v54 _
        have n3 := n2.news2 e3 hg1
        refine N.seq ?_
        refine G.seq ?_
        refine G.region ?_
        refine L.val rfl rfl (R.mv rfl) ?_
        refine L.val rfl rfl (R.as rfl) ?_
        refine L.nil ?_
        refine N.seq ?_
        refine G.ret1 rfl rfl ?_
        first
          | (have e9 : pcells ps ++ pcell p = pcells (ps.take i ++ p :: ps.drop i) := by rw [← pcells_ins, List.take_of_length_le (by omega), List.drop_of_length_le (by omega)]; simp [pcells]
             rw [e9] at o1; exact ⟨a1, c1, M1, rfl, e1, hM1, o1⟩)
          | (refine ⟨_, c1, [g1], rfl, n3.mono (by simp), fun x hx => .inr (by rw [List.mem_singleton.1 hx]; exact hg1), ?_⟩
             have hfin := hog.1; rw [pcells_ins, ← Nat.add_one_mul, ← Nat.add_mul, show i + 1 + (n - i) = n + 1 by omega] at hfin
             refine ⟨by rw [pcells_len (sv := 1) (fun q hq => (okIns hok hp q hq).1), List.length_append, List.length_cons, List.length_take, List.length_drop]; congr 1; omega, .inr ⟨g1, _, rfl, rfl, B3, by omega, hx1, ?_, hfin⟩⟩
             rw [← Nat.add_one_mul] at hog; rw [hog.2.2]; exact hz1)
          | (refine ⟨_, c, [g0], rfl, hE5, fun x hx => .inl hx, ?_⟩
             have hfin := hoi.1; rw [pcells_ins, ← Nat.add_one_mul] at hfin
             refine ⟨by rw [pcells_len (sv := 1) (fun q hq => (okIns hok hp q hq).1), List.length_append, List.length_cons, List.length_take, List.length_drop]; congr 1; omega, .inr ⟨g0, _, rfl, rfl, B5, by omega, hx0, ?_, hfin⟩⟩
             rw [hoi.2.2]; exact hz0)
      · have hroom : n + 1 ≤ c := by omega
        obtain ⟨g0, cur0, rfl, rfl, B0, hc0, hx0, hz0, ht0⟩ := ho.some (by omega)
        have hzz : (n + 1) * 2 ≤ cur0.size := Nat.le_trans (Nat.mul_le_mul_right _ hroom) hz0
        have hxl : (pcells ps).length = n * 2 := ho.1
        have hoi := over_insert (s := 2) (A := i * 2) (L := n * 2) ht0 hxl (Nat.mul_le_mul_right _ (by omega)) hl2 (by omega)
        rw [hps.1, hps.2] at hoi
        have hro : i * 2 + 2 + (n - i) * 2 ≤ cur0.size := by
          have h9 : (i + 1 + (n - i)) * 2 ≤ cur0.size := by rw [show i + 1 + (n - i) = n + 1 by omega]; exact hzz
          rwa [Nat.add_mul, Nat.add_mul, Nat.one_mul] at h9
        have Cd : Cells w (some ⟨g0, i * 2, none⟩) (pcells (ps.drop i)) := Cells.of_blk B0 (i * 2) (pcells (ps.drop i)) (fun j v hj => by
          rw [← hps.2, ← ht0, List.drop_take, List.getElem?_take] at hj
          split at hj
          · simpa [List.getElem?_drop] using hj
          · cases hj)
        refine G.skip ?_
        refine N.seq ?_
        refine G.seq ?_
        refine G.region ?_
        refine L.val rfl rfl (R.mv rfl) ?_
        refine L.val rfl rfl (R.mv rfl) ?_
        refine L.val rfl rfl (R.mv rfl) ?_
        refine L.val rfl rfl (R.add rfl rfl (by omega)) ?_
        refine L.val rfl rfl (R.slH rfl rfl (by omega) (by omega)) ?_
        refine L.be 60 rfl (show _ = Value.slice (some ⟨g0, 0, none⟩) (n + 1) c by rw [subA_zero, show ((n : Int) + ((1 : Nat) : Int)).toNat = n + 1 by omega]) ?_
        refine L.val rfl rfl (R.as rfl) ?_
        refine L.nil ?_
        refine N.seq ?_
        refine G.seq ?_
        refine G.seq ?_
        refine G.region ?_
        refine L.val rfl rfl (R.mv rfl) ?_
        refine L.val rfl rfl (R.mv rfl) ?_
        refine L.val rfl rfl (R.mv rfl) ?_
        refine L.val rfl rfl (R.mv rfl) ?_
        refine L.val rfl rfl (R.add rfl rfl (by omega)) ?_
        refine L.val rfl rfl (R.slL rfl rfl (by omega) (by omega)) ?_
        refine L.be 66 rfl (show _ = Value.slice (subA (some ⟨g0, 0, none⟩) (i + 1) c 2) (n + 1 - (i + 1)) (c - (i + 1)) by rw [show ((i : Int) + ((1 : Nat) : Int)).toNat = i + 1 by omega]) ?_
        refine L.be 66 rfl (show _ = Value.slice (some ⟨g0, (i + 1) * 2, none⟩) (n - i) (c - (i + 1)) by rw [subA_lit (by omega), Nat.zero_add, show n + 1 - (i + 1) = n - i by omega]) ?_
        refine L.val rfl rfl (R.overlaps (A := (pcell p).toArray) (B := cur0) Try.func168 (by decide) rfl rfl rfl rfl rfl Bv B0 (by simpa using hvM) (by omega)) ?_
        refine L.val rfl rfl (R.not rfl) ?_
        refine L.nil ?_
        refine N.seq ?_
        refine G.condT rfl ?_
        refine G.seq ?_
        refine G.staged [8] [.blocks ([g0])] [fun w' => Ext [] w w', fun w' => Ext [g0] w w' ∧ Blk w' g0 (Over cur0 (i * 2 + 2) (pcells (ps.drop i))) 182 (0, 0)] [] (by decide +kernel) (by decide +kernel) rfl rfl rfl (fun _ h => h) ?_
        refine Z.val rfl rfl rfl rfl rfl (fun w1 => R.mv rfl) ?_
        refine Z.val rfl rfl rfl rfl rfl (fun w1 => R.mv rfl) ?_
        refine Z.val rfl rfl rfl rfl rfl (fun w1 => R.mv rfl) ?_
        refine Z.val rfl rfl rfl rfl rfl (fun w1 => R.add rfl rfl (by omega)) ?_
        refine Z.val rfl rfl rfl rfl rfl (fun w1 => R.slL rfl rfl (by omega) (by omega)) ?_
        refine Z.be 73 rfl (show _ = Value.slice (some ⟨g0, i * 2 + 2, none⟩) (n - i) (c - (i + 1)) by rw [show ((i : Int) + ((1 : Nat) : Int)).toNat = i + 1 by omega, subA_lit (by omega), Nat.zero_add, show n + 1 - (i + 1) = n - i by omega, Nat.add_mul]) ?_
        refine Z.val rfl rfl rfl rfl rfl (fun w1 => R.mv rfl) ?_
        refine Z.val rfl rfl rfl rfl rfl (fun w1 => R.mv rfl) ?_
        refine Z.val rfl rfl rfl rfl rfl (fun w1 => R.slL rfl rfl (by omega) (by omega)) ?_
        refine Z.be 76 rfl (show _ = Value.slice (some ⟨g0, i * 2, none⟩) (n + 1 - i) (c - i) by rw [Int.toNat_natCast, subA_lit (by omega), Nat.zero_add]) ?_
        refine Z.put (A := fun v _ => True) (Lasts.kill (fun _ _ _ _ h => h) (by decide +kernel)) 0 (by decide +kernel) rfl rfl rfl rfl rfl rfl rfl (fun w1 hJ => (R.copyN (m := n - i) rfl rfl (B0.ext0 hJ) (Cd.ext0 hJ) (Nat.min_eq_right (by omega)) hcd (by rw [hcd]; omega) hone2).mono (fun v w9 h => by obtain ⟨_, h1, h2, h3⟩ := h; exact ⟨trivial, h1, h1.after hJ, h3⟩)) ?_
        refine Z.nil rfl rfl (fun w1 hJ => ?_)
        obtain ⟨e3, B3⟩ := hJ
        intro v77 _
        have hvg : vb ≠ g0 := fun h => hvM (by rw [h]; simp)
        refine N.seq ?_
        refine G.seq ?_
        refine G.region ?_
        refine L.val rfl rfl (R.mv rfl) ?_
        refine L.val rfl rfl (R.mv rfl) ?_
        refine L.val rfl rfl (R.slL rfl rfl (by omega) (by omega)) ?_
        refine L.be 80 rfl (show _ = Value.slice (some ⟨g0, i * 2, none⟩) (n + 1 - i) (c - i) by rw [Int.toNat_natCast, subA_lit (by omega), Nat.zero_add]) ?_
        refine L.val rfl rfl (R.mv rfl) ?_
        refine L.do rfl rfl (R.copyN (m := 1) rfl rfl B3 (Cv.ext e3 (by intro q hq; cases hq; simpa using hvg)) (Nat.min_eq_left (by omega)) (by rw [hl2]) (by rw [hl2, hoi.2.1]; omega) hp1) ?_
        rintro _ w5 ⟨rfl, P5⟩
        obtain ⟨e5, hs5, B5⟩ := P5
        have hE5 := e3.transN e5 (fun x hx => .inl hx)
        refine L.nil ?_
        refine N.seq ?_
        refine G.seq ?_
        refine G.region ?_
        refine L.val rfl rfl (R.mv rfl) ?_
        refine L.val rfl rfl (R.as rfl) ?_
        refine L.nil ?_
        refine N.seq ?_
        refine G.ret1 rfl rfl ?_
        first
          | (have e9 : pcells ps ++ pcell p = pcells (ps.take i ++ p :: ps.drop i) := by rw [← pcells_ins, List.take_of_length_le (by omega), List.drop_of_length_le (by omega)]; simp [pcells]
             rw [e9] at o1; exact ⟨a1, c1, M1, rfl, e1, hM1, o1⟩)
          | (refine ⟨_, c1, [g1], rfl, n3.mono (by simp), fun x hx => .inr (by rw [List.mem_singleton.1 hx]; exact hg1), ?_⟩
             have hfin := hog.1; rw [pcells_ins, ← Nat.add_one_mul, ← Nat.add_mul, show i + 1 + (n - i) = n + 1 by omega] at hfin
             refine ⟨by rw [pcells_len (sv := 1) (fun q hq => (okIns hok hp q hq).1), List.length_append, List.length_cons, List.length_take, List.length_drop]; congr 1; omega, .inr ⟨g1, _, rfl, rfl, B3, by omega, hx1, ?_, hfin⟩⟩
             rw [← Nat.add_one_mul] at hog; rw [hog.2.2]; exact hz1)
          | (refine ⟨_, c, [g0], rfl, hE5, fun x hx => .inl hx, ?_⟩
             have hfin := hoi.1; rw [pcells_ins, ← Nat.add_one_mul] at hfin
             refine ⟨by rw [pcells_len (sv := 1) (fun q hq => (okIns hok hp q hq).1), List.length_append, List.length_cons, List.length_take, List.length_drop]; congr 1; omega, .inr ⟨g0, _, rfl, rfl, B5, by omega, hx0, ?_, hfin⟩⟩
             rw [hoi.2.2]; exact hz0)

end Go.Proofs.Ythpolibakkmmeaa
/-
  The walks of package order.
-/
set_option linter.unusedVariables false
set_option linter.unusedSimpArgs false
set_option maxRecDepth 4000
namespace Go.Proofs.Ythpolibakkmmeaa
open Go Brv
theorem scKI_ok (a : Option Addr) (n c : Nat) (xs : List Value) (w : World) (hb : Cells w a xs) (hl : n * (1 + 1) = xs.length) (hone : ∀ u ∈ xs, u.oneCell' = true) (hn : n ≤ 1000000) : Meets Try.prog 108 [.slice a n c] w (Cloned w 182 (1 + 1) n xs) := by
  refine Meets.enter Try.func108 rfl 8 rfl (Nat.le_of_ble_eq_true rfl) ?_
  refine G.seq ?_
  refine G.region ?_
  refine L.val rfl rfl (R.as rfl) ?_
  refine L.nil ?_
  refine N.seq ?_
  refine G.seq ?_
  refine G.seq ?_
  refine G.region ?_
  refine L.val rfl rfl (R.mv rfl) ?_
  refine L.val rfl rfl (R.eqNilS rfl rfl) ?_
  refine L.nil ?_
  refine N.seq ?_
  refine G.condB rfl (fun h0 => ?_) (fun h0 => ?_)
  · obtain rfl : a = none := by simpa using h0
    obtain rfl := cells_none hb
    obtain rfl : n = 0 := by simp at hl; omega
    refine G.seq ?_
    refine G.region ?_
    refine L.val rfl rfl (R.as rfl) ?_
    refine L.nil ?_
    refine N.seq ?_
    refine G.ret1 rfl rfl ?_
    exact ⟨none, 0, [], rfl, Ext.refl _ _, Own.nil _ _ _, by simp⟩
  · refine G.skip ?_
    refine N.seq ?_
    refine G.seq ?_
    refine G.region ?_
    refine L.do rfl rfl (R.buildS rfl (by decide) rfl) ?_
    rintro _ w1 ⟨b5, rfl, hb5, hs5, e1, B5⟩
    have hb := hb.ext0 e1
    have o0 := Own.blk (n := 0) (size := 1 + 1) B5 (by simp) (by simp [maxLen])
    refine L.val rfl rfl (R.mv rfl) ?_
    refine L.do rfl rfl (R.app rfl rfl o0 hb hl.symm hone (by simp [maxLen]; omega) (by omega)) ?_
    rintro _ w2 ⟨a1, c1, M1, rfl, e2, hM1, o1⟩
    refine L.val rfl rfl (R.as rfl) ?_
    refine L.nil ?_
    refine N.seq ?_
    refine G.ret1 rfl rfl ?_
    exact ⟨a1, c1, M1, by rw [Nat.zero_add] , e1.trans e2 (by simp) (by simp; omega), by simpa using o1, by intro g hg; have := hM1 g hg; have := e1.size; simp at *; omega⟩

theorem onewKI_ok  (w : World) : Meets Try.prog 35 [] w (fun v w' => ∃ b, v = .pointer (some ⟨b, 0, none⟩) ∧ w.heap.size ≤ b ∧ Ext [] w w' ∧ MapAt (κ := List UInt8) 180 182 1 w' b [] [b]) := by
  refine Meets.enter Try.func35 rfl 3 rfl (Nat.le_of_ble_eq_true rfl) ?_
  have E := Ext.refl [] w
  refine G.seq ?_
  refine G.region ?_
  refine L.val rfl rfl (R.as rfl) ?_
  refine L.nil ?_
  refine N.seq ?_
  refine G.seq ?_
  refine G.region ?_
  refine L.val rfl rfl (R.build (cs := #[.slice none 0 0]) rfl rfl) ?_
  refine L.do rfl rfl (R.box rfl) ?_
  rintro _ w1 ⟨b, rfl, hb2, hs2, e1, B2⟩
  replace E := E.trans0 e1
  refine L.val rfl rfl (R.as rfl) ?_
  refine L.nil ?_
  refine N.seq ?_
  refine G.ret1 rfl rfl ?_
  exact ⟨b, rfl, by omega, E, MapAt.mk (M := []) (by simp) B2 rfl (Own.nil _ _ _) (by intro p hp; cases hp) List.Pairwise.nil⟩

theorem olenKI_ok (m : Nat) (ps : List (Pr (List UInt8))) (S : List Nat) (w : World) (hd : MapAt (κ := List UInt8) 180 182 1 w m ps S) (hl : ps.length ≤ 99999) : Meets Try.prog 41 [.pointer (some ⟨m, 0, none⟩)] w (fun v w' => v = .int .i64 (ps.length : Int) ∧ w' = w) := by
  refine Meets.enter Try.func41 rfl 10 rfl (Nat.le_of_ble_eq_true rfl) ?_
  have hd0 := hd
  obtain ⟨a, c, M, rfl, hm0, Bm, om, hok, hs⟩ := hd
  refine G.seq ?_
  refine G.region ?_
  refine L.val rfl rfl (R.as rfl) ?_
  refine L.nil ?_
  refine N.seq ?_
  refine G.seq ?_
  refine G.seq ?_
  refine G.region ?_
  refine L.val rfl rfl (R.mv rfl) ?_
  refine L.val rfl rfl (R.eqNilP rfl rfl) ?_
  refine L.nil ?_
  refine N.seq ?_
  refine G.condF rfl ?_
  refine G.skip ?_
  refine N.seq ?_
  refine G.seq ?_
  refine G.region ?_
  refine L.val rfl rfl (R.mv rfl) ?_
  refine L.val rfl rfl (R.nilChk rfl) ?_
  refine L.val rfl rfl (R.fld rfl) ?_
  refine L.val rfl rfl (R.ldB rfl Bm rfl) ?_
  refine L.val rfl rfl (R.lenS rfl) ?_
  refine L.val rfl rfl (R.as rfl) ?_
  refine L.nil ?_
  refine N.seq ?_
  refine G.ret1 rfl rfl ?_
  exact ⟨rfl, rfl⟩

theorem ocloneKI_ok (m : Nat) (ps : List (Pr (List UInt8))) (S : List Nat) (w : World) (hd : MapAt (κ := List UInt8) 180 182 1 w m ps S) (hl : ps.length ≤ 99999) : Meets Try.prog 37 [.pointer (some ⟨m, 0, none⟩)] w (fun v w' => ∃ b S', v = .pointer (some ⟨b, 0, none⟩) ∧ Ext [] w w' ∧ MapAt (κ := List UInt8) 180 182 1 w' b ps S' ∧ ∀ y ∈ S', w.heap.size ≤ y) := by
  refine Meets.enter Try.func37 rfl 12 rfl (Nat.le_of_ble_eq_true rfl) ?_
  have E := Ext.refl [] w
  have hd0 := hd
  obtain ⟨a, c, M, rfl, hm0, Bm, om, hok, hs⟩ := hd
  refine G.seq ?_
  refine G.region ?_
  refine L.val rfl rfl (R.as rfl) ?_
  refine L.nil ?_
  refine N.seq ?_
  refine G.seq ?_
  refine G.seq ?_
  refine G.region ?_
  refine L.val rfl rfl (R.mv rfl) ?_
  refine L.val rfl rfl (R.eqNilP rfl rfl) ?_
  refine L.nil ?_
  refine N.seq ?_
  refine G.condF rfl ?_
  refine G.skip ?_
  refine N.seq ?_
  refine G.seq ?_
  refine G.region ?_
  refine L.val rfl rfl (R.mv rfl) ?_
  refine L.val rfl rfl (R.nilChk rfl) ?_
  refine L.val rfl rfl (R.fld rfl) ?_
  refine L.val rfl rfl (R.ldB rfl Bm rfl) ?_
  refine L.callF rfl rfl rfl go108 (scKI_ok _ _ _ _ _ om.cells (by rw [om.1]) (pcell_one hok) (by omega)) ?_
  rintro _ w1 ⟨a1, c1, M1, rfl, e1, o1, hM1⟩
  replace E := E.trans0 e1
  refine L.val rfl rfl (R.build (cs := #[.slice a1 ps.length c1]) rfl rfl) ?_
  refine L.do rfl rfl (R.box rfl) ?_
  rintro _ w2 ⟨b, rfl, hb2, hs2, e2, B2⟩
  have hE1 := E.size
  have hl1 := o1.lt
  replace E := E.trans0 e2
  replace o1 := o1.ext0 e2
  refine L.val rfl rfl (R.as rfl) ?_
  refine L.nil ?_
  refine N.seq ?_
  refine G.ret1 rfl rfl ?_
  exact ⟨b, b :: M1, rfl, E, MapAt.mk (fun h => by have := hl1 b h; omega) B2 rfl o1 hok hs, fun y hy => (List.mem_cons.1 hy).elim (fun h => by omega) (hM1 y)⟩

theorem putKI_ok (m : Nat) (ps : List (Pr (List UInt8))) (S : List Nat) (k : List UInt8) (vx : Int) (w : World) (hd : MapAt (κ := List UInt8) 180 182 1 w m ps S) (hl : ps.length ≤ 99999) : Meets Try.prog 36 [.pointer (some ⟨m, 0, none⟩), .string (str k), .int .i64 vx] w (fun v w' => v = .bool (!hasK ps k) ∧ ∃ S', Grown S S' w w' ∧ MapAt (κ := List UInt8) 180 182 1 w' m (putK ps k [.int .i64 vx]) S') := by
  refine Meets.enter Try.func36 rfl 39 rfl (Nat.le_of_ble_eq_true rfl) ?_
  have E := Ext.refl [] w
  have hd0 := hd
  obtain ⟨a, c, M, rfl, hm0, Bm, om, hok, hs⟩ := hd
  have hone : ∀ u ∈ ([.int .i64 vx] : List Value), u.oneCell' = true := by intro x hx; rw [List.mem_singleton.1 hx]; rfl
  refine G.seq ?_
  refine G.region ?_
  refine L.val rfl rfl (R.as rfl) ?_
  refine L.nil ?_
  refine N.seq ?_
  refine G.seq ?_
  refine G.seq ?_
  refine G.region ?_
  refine L.val rfl rfl (R.mv rfl) ?_
  refine L.val rfl rfl (R.eqNilP rfl rfl) ?_
  refine L.nil ?_
  refine N.seq ?_
  refine G.condF rfl ?_
  refine G.skip ?_
  refine N.seq ?_
  refine G.seq ?_
  refine G.region ?_
  refine L.val rfl rfl (R.mv rfl) ?_
  refine L.val rfl rfl (R.mv rfl) ?_
  refine L.callF rfl rfl rfl go106 (findKI_ok m ps (m :: M) k _ hd0 (by omega)) ?_
  rintro _ w1 ⟨rfl, e1⟩
  replace E := E.trans0 e1
  replace Bm := Bm.ext0 e1
  replace om := om.ext0 e1
  refine L.val rfl rfl (R.mv rfl) ?_
  refine L.val rfl rfl (R.ext rfl rfl) ?_
  refine L.val rfl rfl (R.ext rfl rfl) ?_
  refine L.val rfl rfl (R.as rfl) ?_
  refine L.val rfl rfl (R.as rfl) ?_
  refine L.nil ?_
  refine N.seq ?_
  refine G.seq ?_
  refine G.seq ?_
  refine G.region ?_
  refine L.val rfl rfl (R.mv rfl) ?_
  refine L.nil ?_
  refine N.seq ?_
  refine G.condB rfl (fun h1 => ?_) (fun h1 => ?_)
  · have hk : hasK ps k = true := h1
    have hlt := hasK_lt hk
    obtain ⟨g, cur, rfl, rfl, Bg, hnc, hcm, hcs, ht⟩ := om.some (by omega)
    have hgm : m ≠ g := fun h => hm0 (by simp [h])
    have hsz : low ps k * 2 + 2 ≤ cur.size := by
      have h9 : (low ps k + 1) * 2 ≤ c * 2 := Nat.mul_le_mul_right _ (by omega)
      rw [Nat.add_mul, Nat.one_mul] at h9
      exact Nat.le_trans h9 hcs
    refine G.seq ?_
    refine G.region ?_
    refine L.val rfl rfl (R.mv rfl) ?_
    refine L.val rfl rfl (R.nilChk rfl) ?_
    refine L.val rfl rfl (R.fld rfl) ?_
    refine L.val rfl rfl (R.ldB rfl Bm rfl) ?_
    refine L.val rfl rfl (R.mv rfl) ?_
    refine L.val rfl rfl (R.mv rfl) ?_
    refine L.val rfl rfl (R.idx rfl rfl (by omega) (by omega) _ rfl) ?_
    refine L.be 24 rfl (show _ = Value.pointer (some ⟨g, low ps k * 2, none⟩) by rw [Int.toNat_natCast, Go.Addr.add_lit, Nat.zero_add]) ?_
    refine L.val rfl rfl (R.fld rfl) ?_
    refine L.set rfl (R.st rfl rfl Bg (by omega) rfl) ?_
    rintro w2 ⟨e2, hs2, Bg⟩
    rw [set_at (by omega)] at Bg
    replace Bm := Bm.ext e2 (by simpa using hgm)
    have o2 := own_set (v := [.int .i64 vx]) rfl hok hs hk rfl hnc hcm hcs ht Bg
    have X := e2.after E
    refine L.nil ?_
    refine N.seq ?_
    refine G.seq ?_
    refine G.region ?_
    refine L.val rfl rfl (R.as rfl) ?_
    refine L.nil ?_
    refine N.seq ?_
    refine G.ret1 rfl rfl ?_
    first
      | exact ⟨by rw [hk]; rfl, [m, g], ⟨X.mono (fun x hx => .inl (List.mem_cons_of_mem _ hx)), fun x hx => .inl hx⟩, MapAt.mk hm0 Bm (by rw [put_len, if_pos hk]) o2 (hok.put ⟨rfl, hone⟩) (sorted_put hs _ _)⟩
      | exact ⟨by rw [hk]; rfl, m :: M3, ⟨X, fun x hx => (List.mem_cons.1 hx).elim (fun h => .inl (by simp [h])) (fun h => (hM3 x h).elim (fun h => .inl (List.mem_cons_of_mem _ h)) (fun h => .inr (by omega)))⟩, MapAt.mk hm3 Bm (by rw [put_len, if_neg (by simp [hk])]) (by rw [putK_no hk]; exact o4) (hok.put ⟨rfl, hone⟩) (sorted_put hs _ _)⟩
  · have hk : hasK ps k = false := h1
    have hio := low_le ps k
    have hMl := om.lt
    have hml := Bm.lt
    refine G.skip ?_
    refine N.seq ?_
    refine G.seq ?_
    refine G.region ?_
    refine L.val rfl rfl (R.mv rfl) ?_
    refine L.val rfl rfl (R.mv rfl) ?_
    refine L.val rfl rfl (R.nilChk rfl) ?_
    refine L.val rfl rfl (R.fld rfl) ?_
    refine L.val rfl rfl (R.ldB rfl Bm rfl) ?_
    refine L.val rfl rfl (R.mv rfl) ?_
    refine L.val rfl rfl (R.mv rfl) ?_
    refine L.val rfl rfl (R.mv rfl) ?_
    refine L.val rfl rfl (R.build (cs := #[.string (str k), .int .i64 vx]) rfl rfl) ?_
    refine L.do rfl rfl (R.buildA rfl rfl rfl rfl rfl) ?_
    rintro _ w2 ⟨vb, rfl, hvb, hs2, e2, Bv⟩
    replace Bv : Blk w2 vb (pcell ((k, [.int .i64 vx]) : Pr (List UInt8))).toArray 182 (0, 0) := Bv
    replace E := E.trans0 e2
    replace Bm := Bm.ext0 e2
    replace om := om.ext0 e2
    have hvM : vb ∉ M := fun h => by have := hMl vb h; omega
    have hE2 := E.size
    have hws := e2.size
    refine L.callF rfl rfl rfl go107 (insKI_ok a ps.length c ps M (low ps k) ((k, [.int .i64 vx]) : Pr (List UInt8)) vb _ om rfl hok hio ⟨rfl, hone⟩ Bv hvM (by omega)) ?_
    rintro _ w3 ⟨a3, c3, M3, rfl, e3, hM3, o3⟩
    replace Bm := Bm.ext e3 hm0
    have hm3 : m ∉ M3 := fun h => (hM3 m h).elim hm0 (by omega)
    refine L.val rfl rfl (R.nilChk rfl) ?_
    refine L.val rfl rfl (R.fld rfl) ?_
    refine L.set rfl (R.st rfl rfl Bm (by show 0 < 1; decide) rfl) ?_
    rintro w4 ⟨e4, hs4, Bm⟩
    replace Bm : Blk w4 m #[.slice a3 (ps.length + 1) c3] 180 (0, 0) := Bm
    have o4 := o3.ext e4 (by intro g hg h; rw [List.mem_singleton.1 h] at hg; exact hm3 hg)
    have X : Ext (m :: M) w w4 := ((e3.after E).mono (fun x hx => .inl (List.mem_cons_of_mem _ hx))).transN e4 (fun x hx => .inl (by rw [List.mem_singleton.1 hx]; simp))
    refine L.nil ?_
    refine N.seq ?_
    refine G.seq ?_
    refine G.region ?_
    refine L.val rfl rfl (R.as rfl) ?_
    refine L.nil ?_
    refine N.seq ?_
    refine G.ret1 rfl rfl ?_
    first
      | exact ⟨by rw [hk]; rfl, [m, g], ⟨X.mono (fun x hx => .inl (List.mem_cons_of_mem _ hx)), fun x hx => .inl hx⟩, MapAt.mk hm0 Bm (by rw [put_len, if_pos hk]) o2 (hok.put ⟨rfl, hone⟩) (sorted_put hs _ _)⟩
      | exact ⟨by rw [hk]; rfl, m :: M3, ⟨X, fun x hx => (List.mem_cons.1 hx).elim (fun h => .inl (by simp [h])) (fun h => (hM3 x h).elim (fun h => .inl (List.mem_cons_of_mem _ h)) (fun h => .inr (by omega)))⟩, MapAt.mk hm3 Bm (by rw [put_len, if_neg (by simp [hk])]) (by rw [putK_no hk]; exact o4) (hok.put ⟨rfl, hone⟩) (sorted_put hs _ _)⟩

theorem getKI_ok (m : Nat) (ps : List (Pr (List UInt8))) (S : List Nat) (k : List UInt8) (w : World) (hd : MapAt (κ := List UInt8) 180 182 1 w m ps S) (hl : ps.length ≤ 99999) : Meets Try.prog 40 [.pointer (some ⟨m, 0, none⟩), .string (str k)] w (fun v w' => v = .tuple #[gv1 (.int .i64 0) (getK ps k), .bool (hasK ps k)] ∧ Ext [] w w') := by
  refine Meets.enter Try.func40 rfl 29 rfl (Nat.le_of_ble_eq_true rfl) ?_
  have E := Ext.refl [] w
  have hd0 := hd
  obtain ⟨a, c, M, rfl, hm0, Bm, om, hok, hs⟩ := hd
  refine G.seq ?_
  refine G.region ?_
  refine L.val rfl rfl (R.as rfl) ?_
  refine L.val rfl rfl (R.as rfl) ?_
  refine L.nil ?_
  refine N.seq ?_
  refine G.seq ?_
  refine G.region ?_
  refine L.val rfl rfl (R.as rfl) ?_
  refine L.nil ?_
  refine N.seq ?_
  refine G.seq ?_
  refine G.seq ?_
  refine G.region ?_
  refine L.val rfl rfl (R.mv rfl) ?_
  refine L.val rfl rfl (R.eqNilP rfl rfl) ?_
  refine L.nil ?_
  refine N.seq ?_
  refine G.condF rfl ?_
  refine G.skip ?_
  refine N.seq ?_
  refine G.seq ?_
  refine G.region ?_
  refine L.val rfl rfl (R.mv rfl) ?_
  refine L.val rfl rfl (R.mv rfl) ?_
  refine L.callF rfl rfl rfl go106 (findKI_ok m ps (m :: M) k _ hd0 (by omega)) ?_
  rintro _ w1 ⟨rfl, e1⟩
  replace E := E.trans0 e1
  replace Bm := Bm.ext0 e1
  replace om := om.ext0 e1
  refine L.val rfl rfl (R.mv rfl) ?_
  refine L.val rfl rfl (R.ext rfl rfl) ?_
  refine L.val rfl rfl (R.ext rfl rfl) ?_
  refine L.val rfl rfl (R.as rfl) ?_
  refine L.val rfl rfl (R.as rfl) ?_
  refine L.nil ?_
  refine N.seq ?_
  refine G.seq ?_
  refine G.seq ?_
  refine G.region ?_
  refine L.val rfl rfl (R.mv rfl) ?_
  refine L.val rfl rfl (R.not rfl) ?_
  refine L.nil ?_
  refine N.seq ?_
  refine G.condB rfl (fun h1 => ?_) (fun h1 => ?_)
  · have hk : hasK ps k = false := by simpa using h1
    refine G.seq ?_
    refine G.region ?_
    refine L.val rfl rfl (R.mv rfl) ?_
    refine L.val rfl rfl (R.as rfl) ?_
    refine L.val rfl rfl (R.as rfl) ?_
    refine L.nil ?_
    refine N.seq ?_
    refine G.ret2 rfl rfl rfl ?_
    first
      | (rw [getK_no hk, hk]; exact ⟨rfl, E⟩)
      | (rw [getK_yes hk hp, hk, hx]; exact ⟨rfl, E⟩)
  · have hk : hasK ps k = true := by simpa using h1
    have hlt := hasK_lt hk
    obtain ⟨g, cur, rfl, rfl, Bg, hnc, hcm, hcs, ht⟩ := om.some (by omega)
    have hgm : m ≠ g := fun h => hm0 (by simp [h])
    have hsz : low ps k * 2 + 2 ≤ cur.size := by
      have h9 : (low ps k + 1) * 2 ≤ c * 2 := Nat.mul_le_mul_right _ (by omega)
      rw [Nat.add_mul, Nat.one_mul] at h9
      exact Nat.le_trans h9 hcs
    obtain ⟨p, hp⟩ : ∃ p, ps[low ps k]? = some p := ⟨_, List.getElem?_eq_getElem hlt⟩
    obtain ⟨x, hx⟩ := List.length_eq_one_iff.1 (hok p (List.mem_of_getElem? hp)).1
    have hcx : cur[low ps k * 2 + 1]? = some x := row_at ht hok hp (by show (Key.val p.1 :: p.2)[1]? = _; rw [hx]; rfl)
    refine G.skip ?_
    refine N.seq ?_
    refine G.seq ?_
    refine G.region ?_
    refine L.val rfl rfl (R.mv rfl) ?_
    refine L.val rfl rfl (R.nilChk rfl) ?_
    refine L.val rfl rfl (R.fld rfl) ?_
    refine L.val rfl rfl (R.ldB rfl Bm rfl) ?_
    refine L.val rfl rfl (R.mv rfl) ?_
    refine L.val rfl rfl (R.idx rfl rfl (by omega) (by omega) _ rfl) ?_
    refine L.be 26 rfl (show _ = Value.pointer (some ⟨g, low ps k * 2, none⟩) by rw [Int.toNat_natCast, Go.Addr.add_lit, Nat.zero_add]) ?_
    refine L.val rfl rfl (R.fld rfl) ?_
    refine L.val rfl rfl (R.ldB rfl Bg hcx) ?_
    refine L.val rfl rfl (R.as rfl) ?_
    refine L.val rfl rfl (R.as rfl) ?_
    refine L.nil ?_
    refine N.seq ?_
    refine G.ret2 rfl rfl rfl ?_
    first
      | (rw [getK_no hk, hk]; exact ⟨rfl, E⟩)
      | (rw [getK_yes hk hp, hk, hx]; exact ⟨rfl, E⟩)

end Go.Proofs.Ythpolibakkmmeaa
/-
  The walks of package order.
-/
set_option linter.unusedVariables false
set_option linter.unusedSimpArgs false
set_option maxRecDepth 4000
namespace Go.Proofs.Ythpolibakkmmeaa
open Go Brv
theorem pallKI_ok (a : Option Addr) (n c : Nat) (w : World) : Meets Try.prog 171 [.slice a n c] w (fun v w' => ∃ b0, v = .func (.func 213) #[] #[.pointer (some ⟨b0, 0, none⟩)] ∧ Ext [] w w' ∧ Blk w' b0 #[.slice a n c] 178 (0, 0) ∧ w.heap.size ≤ b0) := by
  refine Meets.enter Try.func171 rfl 4 rfl (Nat.le_of_ble_eq_true rfl) ?_
  have E := Ext.refl [] w
  refine G.seq ?_
  refine G.region ?_
  refine L.do rfl rfl (R.box rfl) ?_
  rintro _ w1 ⟨b0, rfl, hb1, hs1, e1, B1⟩
  replace E := E.trans0 e1
  refine L.val rfl rfl (R.as rfl) ?_
  refine L.nil ?_
  refine N.seq ?_
  refine G.seq ?_
  refine G.region ?_
  refine L.val rfl rfl (R.mkFunc rfl rfl) ?_
  refine L.val rfl rfl (R.as rfl) ?_
  refine L.nil ?_
  refine N.seq ?_
  refine G.ret1 rfl rfl ?_
  exact ⟨b0, rfl, E, B1, by omega⟩

theorem pall1KI_ok (y : Value) (b0 : Nat) (a : Option Addr) (n c : Nat) (ps : List (Pr (List UInt8))) (Ma : List Nat) (D₀ : List Nat) (J Jx : Nat → List Nat → World → Prop) (w : World) (hB0 : Blk w b0 #[.slice a n c] 178 (0, 0)) (ho : Own w 182 (1 + 1) a n c (pcells ps) Ma) (hn : n = ps.length) (hok : OkP 1 ps) (hnl : n ≤ 1000000) (hD : ∀ g ∈ D₀, g < w.heap.size ∧ g ∉ b0 :: Ma ∧ g ∉ ([] : List Nat)) (hJ : ∀ k D W₁ W₂ M', J k D W₁ → Ext M' W₁ W₂ → (∀ g ∈ M', g ∉ D ∧ (g ∈ ([] : List Nat) ∨ w.heap.size ≤ g)) → J k D W₂) (hJx : ∀ k D W₁ W₂ M', Jx k D W₁ → Ext M' W₁ W₂ → (∀ g ∈ M', g ∉ D ∧ (g ∈ ([] : List Nat) ∨ w.heap.size ≤ g)) → Jx k D W₂) (hY : ∀ k D vs W₁, k < n → J k D W₁ → prE (fun k => ps[k]?) k vs W₁ → (∀ g ∈ D, g < W₁.heap.size) → YCall Try.prog y vs W₁ fun b W₂ => ∃ D', Ext D W₁ W₂ ∧ (∀ g ∈ D', g < W₂.heap.size ∧ (g ∈ D ∨ W₁.heap.size ≤ g)) ∧ (b = true → J (k + 1) D' W₂) ∧ (b = false → Jx (k + 1) D' W₂)) (h0 : J 0 D₀ w) : Meets Try.prog 213 [y, .pointer (some ⟨b0, 0, none⟩)] w (fun _ W₂ => (∃ D, J n D W₂ ∧ True) ∨ ∃ k D, k ≤ n ∧ Jx k D W₂ ∧ True) := by
  refine Meets.enter Try.func213 rfl 18 rfl (Nat.le_of_ble_eq_true rfl) ?_
  have hb0D : b0 ∉ D₀ := fun h => (hD _ h).2.1 (by simp)
  have hMD : ∀ g ∈ Ma, g ∉ D₀ := fun g hg h => (hD _ h).2.1 (by simp [hg])
  refine G.seq ?_
  refine G.region ?_
  refine L.val rfl rfl (R.ldB rfl hB0 rfl) ?_
  refine L.val rfl rfl (R.lenS rfl) ?_
  refine L.val rfl rfl (R.mv rfl) ?_
  refine L.nil ?_
  refine N.seq ?_
  refine G.block ?_
  refine G.loop (X := Nat) (fun i => [(0, y), (5, .slice a n c), (6, .int .i64 (n : Int)), (7, .int .i64 (i : Int))]) (fun i w' => i ≤ n ∧ (∃ D, J i D w' ∧ ∀ g ∈ D, g < w'.heap.size ∧ (g ∈ D₀ ∨ w.heap.size ≤ g)) ∧ Ext D₀ w w') (fun i => n - i) (0) (Sub.cons rfl (Sub.cons rfl (Sub.cons rfl (Sub.cons rfl (Sub.nil _))))) ⟨Nat.zero_le _, ⟨D₀, h0, fun g hg => ⟨(hD g hg).1, .inl hg⟩⟩, Ext.refl _ _⟩ ?_
  rintro i w1 ⟨hi, ⟨D, hJi, hDD⟩, e1⟩
  have ho1 := ho.ext e1 hMD
  have B0 := hB0.ext e1 hb0D
  refine G.seq ?_
  refine G.region ?_
  refine L.val rfl rfl (R.lss rfl rfl) ?_
  refine L.nil ?_
  refine N.seq ?_
  refine G.seq ?_
  refine G.condP rfl (fun h0 => ?_) (fun h0 => ?_)
  · have hil : i < n := by omega
    have hes := e1.size
    obtain ⟨p, hp⟩ : ∃ p, ps[i]? = some p := ⟨_, List.getElem?_eq_getElem (by omega)⟩
    obtain ⟨q, hq, hcl⟩ := (Tab.pairs ho1.cells hn hok).at (by decide) i (by rw [List.length_map]; omega)
    have he : (ps.map pcell)[i]'(by rw [List.length_map]; omega) = pcell p := by rw [List.getElem_map]; exact congrArg pcell (List.getElem?_eq_some_iff.1 hp).2
    rw [he] at hcl
    have hsz : (pcell p).length = 2 := by show p.2.length + 1 = _; rw [(hok p (List.mem_of_getElem? hp)).1]
    have hsA : (pcell p).toArray.size = 2 := by rw [List.size_toArray]; exact hsz
    have h1c : ∀ u ∈ (pcell p).toArray.toList, u.oneCell' = true := pcell1 (hok p (List.mem_of_getElem? hp)).2
    refine G.skip ?_
    refine N.seq ?_
    refine G.seq ?_
    refine G.block ?_
    refine G.seq ?_
    refine G.region ?_
    refine L.val rfl rfl (R.mv rfl) ?_
    refine L.val rfl rfl (R.idx rfl rfl (by omega) (by omega) q hq) ?_
    refine L.val rfl rfl (R.ldN (vs := pcell p) rfl hcl hsz) ?_
    refine L.do rfl rfl (R.alloc) ?_
    rintro _ w2 ⟨b4, rfl, hb4, hs4, e2, B4⟩
    have hDb : ∀ g ∈ D, g < b4 := fun g hg => by have := (hDD g hg).1; omega
    replace B4 : Blk w2 b4 (.agg #[.string ByteArray.empty, .int .i64 0] : Value).cells 182 (0, 0) := B4
    replace hJi := hJ _ D w1 w2 [] hJi e2 (by simp)
    replace hDD := fun g hg => And.intro (Nat.lt_of_lt_of_le (hDD g hg).1 e2.size) (hDD g hg).2
    replace e1 := e1.trans0 e2
    have hws := e1.size
    refine L.val rfl rfl (R.as rfl) ?_
    refine L.set rfl (R.stN rfl rfl B4 hsA (by show 0 + (pcell p).toArray.size ≤ 2; omega) h1c) ?_
    rintro w3 ⟨e3, hs3, B4⟩
    rw [over_all (show (.agg #[.string ByteArray.empty, .int .i64 0] : Value).cells.size = (pcell p).toArray.size from hsA.symm)] at B4
    replace hJi := hJ _ D w2 w3 [b4] hJi e3 (fun g hg => by rw [List.mem_singleton.1 hg]; exact ⟨fun h => by have := hDb _ h; omega, .inr (by omega)⟩)
    replace hDD := fun g hg => And.intro (Nat.lt_of_lt_of_le (hDD g hg).1 e3.size) (hDD g hg).2
    replace e1 := e1.transN e3 (fun g hg => .inr (by rw [List.mem_singleton.1 hg]; omega))
    refine L.nil ?_
    refine N.seq ?_
    refine G.seq ?_
    refine G.region ?_
    refine L.val rfl rfl (R.mv rfl) ?_
    refine L.val rfl rfl (R.mv rfl) ?_
    refine L.val rfl rfl (R.ldBN rfl B4 hsA) ?_
    refine L.ycall rfl rfl rfl rfl (hY i D _ _ hil hJi ⟨p, _, hp, rfl⟩ (fun g hg => (hDD g hg).1)) ?_
    rintro bb w4 ⟨D2, eD, hD2, hT, hF⟩
    refine L.val rfl rfl (R.not rfl) ?_
    refine L.nil ?_
    refine N.seq ?_
    refine G.condB rfl (fun h1 => ?_) (fun h1 => ?_)
    · obtain rfl : bb = false := by simpa using h1
      refine G.ret0 rfl ?_
      exact .inr ⟨i + 1, D2, by omega, hF rfl, trivial⟩
    · obtain rfl : bb = true := by simpa using h1
      refine G.skip ?_
      refine N.block ?_
      refine N.seq ?_
      refine G.region ?_
      refine L.val rfl rfl (R.add rfl rfl (by omega)) ?_
      refine L.val rfl rfl (R.mv rfl) ?_
      refine L.nil ?_
      exact N.again (i + 1) (by omega) (Sub.cons rfl (Sub.cons rfl (Sub.cons rfl (Sub.cons rfl (Sub.nil _))))) ⟨by omega, ⟨D2, hT rfl, fun g hg => ⟨(hD2 g hg).1, (hD2 g hg).2.elim (fun h => (hDD g h).2) (fun h => .inr (Nat.le_trans e1.size h))⟩⟩, e1.transN eD (fun g hg => (hDD g hg).2)⟩
  · refine G.exit _ rfl ?_
    refine N.end0 rfl ?_
    obtain rfl : i = n := by omega
    exact .inl ⟨D, hJi, trivial⟩

theorem pallKI_iter (b0 : Nat) (a : Option Addr) (n c : Nat) (ps : List (Pr (List UInt8))) (Ma : List Nat) (w : World) (hB0 : Blk w b0 #[.slice a n c] 178 (0, 0)) (ho : Own w 182 (1 + 1) a n c (pcells ps) Ma) (hn : n = ps.length) (hok : OkP 1 ps) (hnl : n ≤ 1000000) : Iter Try.prog 213 [.pointer (some ⟨b0, 0, none⟩)] w n (prE (fun k => ps[k]?)) (fun _ _ => True) (b0 :: Ma) [] := by
  intro y D₀ J Jx W hE hD hJ hJx hY h0
  exact pall1KI_ok y b0 a n c ps Ma D₀ J Jx W (hB0.ext0 hE) (ho.ext0 hE) hn hok hnl hD (fun k D W₁ W₂ M' h he hm => hJ k D W₁ W₂ M' h he (fun g hg => ⟨(hm g hg).1, (hm g hg).2.imp id (Nat.le_trans hE.size)⟩)) (fun k D W₁ W₂ M' h he hm => hJx k D W₁ W₂ M' h he (fun g hg => ⟨(hm g hg).1, (hm g hg).2.imp id (Nat.le_trans hE.size)⟩)) hY h0

theorem walkKI_ok (gf : FuncId) (lb : List Value) (w : World) : Meets Try.prog 170 [.func (.func gf) #[] lb.toArray] w (fun v w' => ∃ b1, v = .func (.func 212) #[] #[.pointer (some ⟨b1, 0, none⟩)] ∧ Ext [] w w' ∧ Blk w' b1 #[.func (.func gf) #[] lb.toArray] 259 (0, 0) ∧ w.heap.size ≤ b1) := by
  refine Meets.enter Try.func170 rfl 4 rfl (Nat.le_of_ble_eq_true rfl) ?_
  have E := Ext.refl [] w
  refine G.seq ?_
  refine G.region ?_
  refine L.do rfl rfl (R.box rfl) ?_
  rintro _ w1 ⟨b1, rfl, hb1, hs1, e1, B1⟩
  replace E := E.trans0 e1
  refine L.val rfl rfl (R.as rfl) ?_
  refine L.nil ?_
  refine N.seq ?_
  refine G.seq ?_
  refine G.region ?_
  refine L.val rfl rfl (R.mkFunc rfl rfl) ?_
  refine L.val rfl rfl (R.as rfl) ?_
  refine L.nil ?_
  refine N.seq ?_
  refine G.ret1 rfl rfl ?_
  exact ⟨b1, rfl, E, B1, by omega⟩

theorem walk1KI_ok (y : Value) (b1 : Nat) (gf : FuncId) (lb : List Value) (Nn : Nat) (q : Nat → Option (Pr (List UInt8))) (F : List Nat) (D₀ : List Nat) (J Jx : Nat → List Nat → World → Prop) (w : World) (hB1 : Blk w b1 #[.func (.func gf) #[] lb.toArray] 259 (0, 0)) (eg : ∀ (vs : Array Value) w, (callFunc gf vs).run Try.prog w = .ok (.enter gf vs) w) (hit : ∀ W, Ext [] w W → Iter Try.prog gf lb W Nn (prE q) (fun _ _ => True) F []) (hF : ∀ x ∈ F, x < w.heap.size) (hq : ∀ k (p : Pr (List UInt8)), q k = some p → p.2.length = 1 ∧ ∀ u ∈ p.2, u.oneCell' = true) (hD : ∀ g ∈ D₀, g < w.heap.size ∧ g ∉ b1 :: F ∧ g ∉ ([] : List Nat)) (hJ : ∀ k D W₁ W₂ M', J k D W₁ → Ext M' W₁ W₂ → (∀ g ∈ M', g ∉ D ∧ (g ∈ ([] : List Nat) ∨ w.heap.size ≤ g)) → J k D W₂) (hJx : ∀ k D W₁ W₂ M', Jx k D W₁ → Ext M' W₁ W₂ → (∀ g ∈ M', g ∉ D ∧ (g ∈ ([] : List Nat) ∨ w.heap.size ≤ g)) → Jx k D W₂) (hY : ∀ k D vs W₁, k < Nn → J k D W₁ → (kvE gv1' q) k vs W₁ → (∀ g ∈ D, g < W₁.heap.size) → YCall Try.prog y vs W₁ fun b W₂ => ∃ D', Ext D W₁ W₂ ∧ (∀ g ∈ D', g < W₂.heap.size ∧ (g ∈ D ∨ W₁.heap.size ≤ g)) ∧ (b = true → J (k + 1) D' W₂) ∧ (b = false → Jx (k + 1) D' W₂)) (h0 : J 0 D₀ w) : Meets Try.prog 212 [y, .pointer (some ⟨b1, 0, none⟩)] w (fun _ W₂ => (∃ D, J Nn D W₂ ∧ True) ∨ ∃ k D, k ≤ Nn ∧ Jx k D W₂ ∧ True) := by
  refine Meets.enter Try.func212 rfl 15 rfl (Nat.le_of_ble_eq_true rfl) ?_
  refine G.seq ?_
  refine G.region ?_
  refine L.do rfl rfl (R.box rfl) ?_
  rintro _ w1 ⟨b2, rfl, hb2, hs2, e1, B2⟩
  have hw1 := e1.size
  refine L.nil ?_
  refine N.seq ?_
  refine G.seq ?_
  refine G.region ?_
  refine L.val rfl rfl (R.ldB rfl (hB1.ext0 e1) rfl) ?_
  refine L.nil ?_
  refine N.seq ?_
  refine G.block ?_
  have hD0 : ∀ g ∈ b2 :: D₀, g < w1.heap.size ∧ g ∉ F ∧ g ∉ ([] : List Nat) := by
    intro g hg
    rcases List.mem_cons.1 hg with rfl | hg
    · exact ⟨by omega, fun h => by have := hF _ h; omega, by simp⟩
    · exact ⟨Nat.lt_of_lt_of_le (hD g hg).1 hw1, fun h => (hD g hg).2.1 (List.mem_cons_of_mem _ h), by simp⟩
  have hI0 : wkI J b2 55 y 0 (b2 :: D₀) w1 := ⟨D₀, rfl, fun h => by have := (hD _ h).1; omega, hJ 0 D₀ w w1 [] h0 e1 (by simp), B2⟩
  refine G.range (lb := lb) rfl rfl eg (hit _ e1) (fun _ _ _ h _ => h) (b2 :: D₀) hD0 (fun x h => h.elim (fun h => Nat.lt_of_lt_of_le (hF x h) hw1) (by simp)) (wkI J b2 55 y) (wkX Jx b2) ?_ ?_ hI0 ?_ ?_ ?_
  · rintro k DD W1 W2 M2 ⟨D, rfl, hn2, hj, hb⟩ he hm
    exact ⟨D, rfl, hn2, hJ k D W1 W2 M2 hj he (fun g hg => ⟨fun h => (hm g hg).1 (List.mem_cons_of_mem _ h), (hm g hg).2.imp id (Nat.le_trans hw1)⟩), hb.ext he (fun h => (hm _ h).1 (by simp))⟩
  · rintro c k DD W1 W2 M2 ⟨hc, D, rfl, hn2, hj⟩ he hm
    exact ⟨hc, D, rfl, hn2, hJx k D W1 W2 M2 hj he (fun g hg => ⟨fun h => (hm g hg).1 (List.mem_cons_of_mem _ h), (hm g hg).2.imp id (Nat.le_trans hw1)⟩)⟩
  · rintro l k DD vs W1 hl2 hlt hlD hDl hk ⟨D, rfl, hn2, hj, B2⟩ ⟨p, v0, hp, rfl⟩
    refine ⟨rfl, ?_⟩
    refine G.sub [(7, .agg (pcell p).toArray), (2, .pointer (some ⟨b2, 0, none⟩))] (Sub.cons rfl (Sub.cons rfl (Sub.nil _))) ?_
    have hpl := hq k p hp
    have hsz : (pcell p).length = 2 := by show p.2.length + 1 = _; rw [hpl.1]
    have hsA : (pcell p).toArray.size = 2 := by rw [List.size_toArray]; exact hsz
    have h1c : ∀ u ∈ (pcell p).toArray.toList, u.oneCell' = true := pcell1 hpl.2
    have l2 := B2.lt
    refine G.region ?_
    refine L.do rfl rfl (R.alloc) ?_
    rintro _ w2 ⟨b4, rfl, hb4, hs4, e2, B4⟩
    replace B4 : Blk w2 b4 (.agg #[.string ByteArray.empty, .int .i64 0] : Value).cells 182 (0, 0) := B4
    refine L.set rfl (R.stN rfl rfl B4 hsA (by show 0 + (pcell p).toArray.size ≤ 2; omega) h1c) ?_
    rintro w3 ⟨e3, hs3, B4⟩
    rw [over_all (show (.agg #[.string ByteArray.empty, .int .i64 0] : Value).cells.size = (pcell p).toArray.size from hsA.symm)] at B4
    have hEW := e2.news2 e3 (by omega)
    refine L.nil ?_
    refine N.round (hEW) (fun wb hb1 hb2 => ?_)
    replace B4 := B4.still hb2
    replace B2 := (B2.ext0 hEW).still hb2
    have hjw := hJ k D _ wb [l] (hJ k D W1 _ [] hj hEW (by simp)) hb1 (fun g hg => by rw [List.mem_singleton.1 hg]; exact ⟨fun h => hlD (List.mem_cons_of_mem _ h), .inr (by omega)⟩)
    have hDw : ∀ g ∈ D, g < wb.heap.size := fun g hg => Nat.lt_of_lt_of_le (hDl g (List.mem_cons_of_mem _ hg)) (Nat.le_trans hEW.size hb1.size)
    have l2b := B2.lt
    obtain ⟨x, hx⟩ := List.length_eq_one_iff.1 hpl.1
    have hyc := hY k D [.string (str p.1), x] wb hk hjw ⟨p, hp, by rw [hx]; rfl⟩ hDw
    have hcy : y.cells = #[y] := by rcases hyc with ⟨l9, rfl, _⟩ | ⟨f9, u9, c9, rfl, _⟩ <;> rfl
    rw [hcy] at B2
    refine G.block ?_
    refine G.seq ?_
    refine G.region ?_
    refine L.val rfl rfl (R.ldB rfl B2 rfl) ?_
    refine L.val rfl rfl (R.fld rfl) ?_
    refine L.val rfl rfl (R.ldB (v := .string (str p.1)) rfl B4 rfl) ?_
    refine L.val rfl rfl (R.fld rfl) ?_
    refine L.val rfl rfl (R.ldB (v := x) rfl B4 (by show (Key.val p.1 :: p.2).toArray[1]? = _; rw [hx]; rfl)) ?_
    refine L.ycall rfl rfl rfl rfl hyc ?_
    rintro bb w7 ⟨D2, eD, hD2, hT, hFl⟩
    have X : Ext (b2 :: D) wb w7 := eD.mono (fun g hg => .inl (List.mem_cons_of_mem _ hg))
    have hn3 : b2 ∉ D2 := fun h => (hD2 b2 h).2.elim hn2 (fun h => by omega)
    have hDD : ∀ g ∈ b2 :: D2, g < w7.heap.size ∧ (g ∈ b2 :: D ∨ wb.heap.size ≤ g) := by
      intro g hg
      rcases List.mem_cons.1 hg with rfl | hg
      · exact ⟨Nat.lt_of_lt_of_le l2b eD.size, .inl (by simp)⟩
      · exact ⟨(hD2 g hg).1, (hD2 g hg).2.imp (fun h => List.mem_cons_of_mem _ h) id⟩
    refine L.val rfl rfl (R.not rfl) ?_
    refine L.nil ?_
    refine N.seq ?_
    refine G.condB rfl (fun h0 => ?_) (fun h0 => ?_)
    · obtain rfl : bb = false := by simpa using h0
      refine G.ret fun _ _ => ?_
      exact ⟨b2 :: D2, X, hDD, rfl, D2, rfl, hn3, hFl rfl⟩
    · obtain rfl : bb = true := by simpa using h0
      refine G.skip ?_
      refine N.block ?_
      refine N.done fun _ _ => ?_
      exact ⟨b2 :: D2, X, hDD, D2, rfl, hn3, hT rfl, by rw [hcy]; exact B2.ext eD hn2⟩
  · rintro d DD W2 hd hdD hK ⟨D, rfl, hn2, hj, B2⟩ _
    refine N.block ?_
    refine N.end0M rfl (leave1 hK) ?_
    exact .inl ⟨D, hJ Nn D W2 _ [d] hj (Ext.putObj _ _ _) (fun g hg => by rw [List.mem_singleton.1 hg]; exact ⟨fun h => hdD (List.mem_cons_of_mem _ h), .inr (by omega)⟩), trivial⟩
  · rintro d DD k c W2 hd hdD hK hk ⟨rfl, D, rfl, hn2, hj⟩ _
    refine G.ret0M rfl (leave1 hK) ?_
    exact .inr ⟨k, D, hk, hJx k D W2 _ [d] hj (Ext.putObj _ _ _) (fun g hg => by rw [List.mem_singleton.1 hg]; exact ⟨fun h => hdD (List.mem_cons_of_mem _ h), .inr (by omega)⟩), trivial⟩

theorem walkKI_iter (b1 : Nat) (gf : FuncId) (lb : List Value) (Nn : Nat) (q : Nat → Option (Pr (List UInt8))) (F : List Nat) (w : World) (hB1 : Blk w b1 #[.func (.func gf) #[] lb.toArray] 259 (0, 0)) (eg : ∀ (vs : Array Value) w, (callFunc gf vs).run Try.prog w = .ok (.enter gf vs) w) (hit : ∀ W, Ext [] w W → Iter Try.prog gf lb W Nn (prE q) (fun _ _ => True) F []) (hF : ∀ x ∈ F, x < w.heap.size) (hq : ∀ k (p : Pr (List UInt8)), q k = some p → p.2.length = 1 ∧ ∀ u ∈ p.2, u.oneCell' = true) : Iter Try.prog 212 [.pointer (some ⟨b1, 0, none⟩)] w Nn (kvE gv1' q) (fun _ _ => True) (b1 :: F) [] := by
  intro y D₀ J Jx W hE hD hJ hJx hY h0
  exact walk1KI_ok y b1 gf lb Nn q F D₀ J Jx W (hB1.ext0 hE) eg (fun W' h => hit W' (hE.trans0 h)) (fun x hx => Nat.lt_of_lt_of_le (hF x hx) hE.size) hq hD (fun k D W₁ W₂ M' h he hm => hJ k D W₁ W₂ M' h he (fun g hg => ⟨(hm g hg).1, (hm g hg).2.imp id (Nat.le_trans hE.size)⟩)) (fun k D W₁ W₂ M' h he hm => hJx k D W₁ W₂ M' h he (fun g hg => ⟨(hm g hg).1, (hm g hg).2.imp id (Nat.le_trans hE.size)⟩)) hY h0

end Go.Proofs.Ythpolibakkmmeaa
/-
  The walks of package order.
-/
set_option linter.unusedVariables false
set_option linter.unusedSimpArgs false
set_option maxRecDepth 4000
namespace Go.Proofs.Ythpolibakkmmeaa
open Go Brv
theorem oallKI_ok (m : Nat) (ps : List (Pr (List UInt8))) (S : List Nat) (w : World) (hd : MapAt (κ := List UInt8) 180 182 1 w m ps S) (hl : ps.length ≤ 99999) : Meets Try.prog 110 [.pointer (some ⟨m, 0, none⟩)] w (fun v w' => ∃ lb F, v = .func (.func 212) #[] (lb : List Value).toArray ∧ Ext [] w w' ∧ (∀ W, Ext [] w' W → Iter Try.prog 212 lb W ps.length (kvE gv1' (fun k => ps[k]?)) (fun _ _ => True) F []) ∧ ∀ x ∈ F, w.heap.size ≤ x ∧ x < w'.heap.size) := by
  refine Meets.enter Try.func110 rfl 15 rfl (Nat.le_of_ble_eq_true rfl) ?_
  have E := Ext.refl [] w
  have hd0 := hd
  obtain ⟨a, c, M, rfl, hm0, Bm, om, hok, hs⟩ := hd
  refine G.seq ?_
  refine G.region ?_
  refine L.val rfl rfl (R.as rfl) ?_
  refine L.nil ?_
  refine N.seq ?_
  refine G.seq ?_
  refine G.seq ?_
  refine G.region ?_
  refine L.val rfl rfl (R.mv rfl) ?_
  refine L.val rfl rfl (R.eqNilP rfl rfl) ?_
  refine L.nil ?_
  refine N.seq ?_
  refine G.condF rfl ?_
  refine G.skip ?_
  refine N.seq ?_
  refine G.seq ?_
  refine G.region ?_
  refine L.val rfl rfl (R.mv rfl) ?_
  refine L.val rfl rfl (R.nilChk rfl) ?_
  refine L.val rfl rfl (R.fld rfl) ?_
  refine L.val rfl rfl (R.ldB rfl Bm rfl) ?_
  refine L.callF rfl rfl rfl go108 (scKI_ok _ _ _ _ _ om.cells (by rw [om.1]) (pcell_one hok) (by omega)) ?_
  rintro _ w1 ⟨a1, c1, M1, rfl, e1, o1, hM1⟩
  have hE0 := E.size
  replace E := E.trans0 e1
  have hl1 := o1.lt
  have hE1 := E.size
  refine L.callF rfl rfl rfl go171 (pallKI_ok a1 ps.length c1 _) ?_
  rintro _ w2 ⟨b0, rfl, e2, B0, hb0⟩
  have hE2 := E.size
  replace E := E.trans0 e2
  replace o1 := o1.ext0 e2
  have l0 := B0.lt
  have hE3 := E.size
  refine L.callF rfl rfl rfl go170 (walkKI_ok 213 [.pointer (some ⟨b0, 0, none⟩)] _) ?_
  rintro _ w3 ⟨b1, rfl, e3, B1, hb1⟩
  replace E := E.trans0 e3
  replace o1 := o1.ext0 e3
  replace B0 := B0.ext0 e3
  have l1 := B1.lt
  have hs3 := e3.size
  have hs2 := e2.size
  have hFl : ∀ y ∈ b1 :: b0 :: M1, w.heap.size ≤ y ∧ y < w3.heap.size := by
    intro y hy
    simp only [List.mem_cons] at hy
    rcases hy with rfl | rfl | hy
    · exact ⟨by omega, l1⟩
    · exact ⟨by omega, by omega⟩
    · have := hl1 y hy; have := hM1 y hy; exact ⟨by omega, by omega⟩
  refine L.val rfl rfl (R.as rfl) ?_
  refine L.nil ?_
  refine N.seq ?_
  refine G.ret1 rfl rfl ?_
  exact ⟨[.pointer (some ⟨b1, 0, none⟩)], b1 :: b0 :: M1, rfl, E, fun W hW => walkKI_iter b1 213 [.pointer (some ⟨b0, 0, none⟩)] ps.length (fun k => ps[k]?) (b0 :: M1) W (B1.ext0 hW) go213 (fun W' h => pallKI_iter b0 a1 ps.length c1 ps M1 W' (B0.ext0 (hW.trans0 h)) (o1.ext0 (hW.trans0 h)) (by simp) hok (by omega)) (fun y hy => Nat.lt_of_lt_of_le (hFl y (List.mem_cons_of_mem _ hy)).2 hW.size) (fun k p hp => hok p (List.mem_of_getElem? hp)), hFl⟩

theorem okeysKI_ok (m : Nat) (ps : List (Pr (List UInt8))) (S : List Nat) (w : World) (hd : MapAt (κ := List UInt8) 180 182 1 w m ps S) (hl : ps.length ≤ 99999) : Meets Try.prog 39 [.pointer (some ⟨m, 0, none⟩)] w (Cloned w 9 1 ps.length (ps.map fun p => Key.val p.1)) := by
  refine Meets.enter Try.func39 rfl 14 rfl (Nat.le_of_ble_eq_true rfl) ?_
  have E := Ext.refl [] w
  refine G.seq ?_
  refine G.region ?_
  refine L.val rfl rfl (R.as rfl) ?_
  refine L.nil ?_
  refine N.seq ?_
  refine G.seq ?_
  refine G.region ?_
  refine L.do rfl rfl (R.alloc) ?_
  rintro _ w1 ⟨b3, rfl, hb3, hs3, e1, B3⟩
  replace B3 : Blk w1 b3 #[.slice none 0 0] 52 (0, 0) := B3
  replace E := E.trans0 e1
  refine L.nil ?_
  refine N.seq ?_
  refine G.seq ?_
  refine G.seq ?_
  refine G.region ?_
  refine L.val rfl rfl (R.mv rfl) ?_
  refine L.callF rfl rfl rfl go110 (oallKI_ok m ps S _ (hd.ext0 E) hl) ?_
  rintro _ w2 ⟨lb, Fp, rfl, e2, hit, hFp⟩
  have hE1 := E.size
  replace E := E.trans0 e2
  have l3 := B3.lt
  replace B3 := B3.ext0 e2
  have hE2 := E.size
  have hFn : b3 ∉ Fp := fun h => by have := hFp _ h; omega
  refine L.nil ?_
  refine N.seq ?_
  refine G.block ?_
  have hD0 : ∀ y ∈ [b3], y < w2.heap.size ∧ y ∉ Fp ∧ y ∉ ([] : List Nat) := by
    intro y hy
    rw [List.mem_singleton] at hy
    subst hy
    exact ⟨B3.lt, hFn, by simp⟩
  have hI0 : keysI ps 52 9 b3 w 0 [b3] w2 := ⟨none, 0, [], rfl, B3, Own.nil _ _ _, by simp, by omega, E⟩
  refine G.range (lb := lb) rfl rfl go212 (hit _ (Ext.refl _ _)) (fun _ _ _ h _ => h) [b3] hD0 (fun y h => h.elim (fun h => (hFp y h).2) (by simp)) (keysI ps 52 9 b3 w) (fun _ _ _ _ => False) (fun k D W1 W2 M2 h he hm => keysI_keep hE2 h he hm) (fun _ _ _ _ _ _ h _ _ => h) hI0 ?_ ?_ ?_
  · rintro l k D vs W1 hl2 hlt hlD hDl hk hIk ⟨p, hp, rfl⟩
    refine ⟨rfl, ?_⟩
    refine G.sub [(7, .string (str p.1)), (3, .pointer (some ⟨b3, 0, none⟩))] (Sub.cons rfl (Sub.cons rfl (Sub.nil _))) ?_
    refine G.region ?_
    refine L.val rfl rfl (R.as rfl) ?_
    refine L.nil ?_
    refine N.round (Ext.refl _ _) (fun wb hb1 hb2 => ?_)
    obtain ⟨a1, c1, MB, rfl, B3, o, hMB, h3, E⟩ := hIk
    replace B3 := B3.still hb2
    replace o := o.still hb2
    replace E := E.transN hb1 (fun g hg => .inr (by rw [List.mem_singleton.1 hg]; omega))
    have hEb := E.size
    have l3 := B3.lt
    have hlo := o.lt
    have hn3 : b3 ∉ MB := fun h => (hMB _ h).2 rfl
    refine G.block ?_
    refine G.region ?_
    refine L.val rfl rfl (R.ldB rfl B3 rfl) ?_
    refine L.val rfl rfl (R.mv rfl) ?_
    refine L.do rfl rfl (R.buildA rfl rfl rfl rfl rfl) ?_
    rintro _ w6 ⟨b11, rfl, hb11, hs6, e6, B11⟩
    replace B11 : Blk w6 b11 #[.string (str p.1)] 9 (0, 0) := B11
    have X6 : Ext (b3 :: MB) wb w6 := e6.mono (by simp)
    replace E := E.trans0 e6
    replace B3 := B3.ext0 e6
    replace o := o.ext0 e6
    have hs6e := e6.size
    refine L.do rfl rfl (R.app rfl rfl o (Cells.of_blk B11 0 [.string (str p.1)] (fun j v hj => by simpa using hj)) rfl (by intro u hu; rw [List.mem_singleton.1 hu]; rfl) (by simp [maxLen]; omega) (by omega)) ?_
    rintro _ w7 ⟨a3, c3, M3, rfl, e7, hM3, o3⟩
    replace B3 := B3.ext e7 hn3
    replace E : Ext [] w w7 := E.trans e7 (by simp) (fun g hg => .inr (hMB g hg).1)
    have hs7 := e7.size
    replace o3 : Own w7 9 1 a3 (k + 1) c3 ((ps.take (k + 1)).map fun p => Key.val p.1) M3 := by rw [← keys_succ hp]; exact o3
    have hM4 : ∀ g ∈ M3, w.heap.size ≤ g ∧ g ≠ b3 := fun g hg => (hM3 g hg).elim (hMB g) (fun h => ⟨by omega, by omega⟩)
    refine L.set rfl (R.st rfl rfl B3 (by show 0 < 1; decide) rfl) ?_
    rintro w8 ⟨e8, hs8, B3⟩
    replace B3 : Blk w8 b3 #[.slice a3 (k + 1) c3] 52 (0, 0) := B3
    replace o3 := o3.ext e8 (by intro g hg h; exact (hM4 g hg).2 (List.mem_singleton.1 h))
    replace E : Ext [] w w8 := E.trans e8 (by simp) (fun g hg => .inr (by rw [List.mem_singleton.1 hg]; exact h3))
    have hlo3 := o3.lt
    have X : Ext (b3 :: MB) wb w8 := (X6.transN e7 (fun g hg => .inl (List.mem_cons_of_mem _ hg))).transN e8 (fun g hg => .inl (by rw [List.mem_singleton.1 hg]; simp))
    have hD2 : ∀ g ∈ b3 :: M3, g < w8.heap.size ∧ (g ∈ b3 :: MB ∨ wb.heap.size ≤ g) := by
      intro g hg
      rcases List.mem_cons.1 hg with rfl | hg
      · exact ⟨B3.lt, .inl (by simp)⟩
      · exact ⟨hlo3 g hg, (hM3 g hg).imp (fun h => List.mem_cons_of_mem _ h) (fun h => by omega)⟩
    refine L.nil ?_
    refine N.block ?_
    refine N.done fun _ _ => ?_
    exact ⟨b3 :: M3, X, hD2, a3, c3, M3, rfl, B3, o3, hM4, h3, E⟩
  · rintro d2 D W2 hd2 hdD hK ⟨a1, c1, MB, rfl, B3, o, hMB, h3, E⟩ _
    have hst := Still.putObj (.deferred none) hK rfl
    rw [List.take_length] at o
    refine N.block ?_
    refine N.seq ?_
    refine G.seq ?_
    refine G.region ?_
    refine L.val rfl rfl (R.ldB rfl B3 rfl) ?_
    refine L.val rfl rfl (R.as rfl) ?_
    refine L.nil ?_
    refine N.seq ?_
    refine G.ret1M rfl rfl (leave1 hK) ?_
    exact ⟨a1, c1, MB, rfl, E.transN (Ext.putObj _ _ _) (fun g hg => .inr (by rw [List.mem_singleton.1 hg]; omega)), o.still hst, fun g hg => (hMB g hg).1⟩
  · rintro _ _ _ _ _ _ _ _ _ h _
    exact h.elim

end Go.Proofs.Ythpolibakkmmeaa
/-
  The walks of package order.
-/
set_option linter.unusedVariables false
set_option linter.unusedSimpArgs false
set_option maxRecDepth 4000
namespace Go.Proofs.Ythpolibakkmmeaa
open Go Brv
theorem delKI_ok (a : Option Addr) (n c : Nat) (ps : List (Pr (List UInt8))) (M : List Nat) (i : Nat) (w : World) (ho : Own w 182 (1 + 1) a n c (pcells ps) M) (hn : n = ps.length) (hok : OkP 1 ps) (hi : i < n) (hnl : n ≤ 1000000) : Meets Try.prog 109 [.slice a n c, .int .i64 (i : Int), .int .i64 ((i : Int) + 1)] w (fun v w' => v = .slice a (n - 1) c ∧ Ext M w w' ∧ Own w' 182 (1 + 1) a (n - 1) c (pcells (ps.take i ++ ps.drop (i + 1))) M) := by
  refine Meets.enter Try.func109 rfl 33 rfl (Nat.le_of_ble_eq_true rfl) ?_
  obtain ⟨g0, cur0, rfl, rfl, B0, hc0, hx0, hz0, ht0⟩ := ho.some (by omega)
  have hps := (pcells_take (sv := 1) hok.len i (by omega)).1
  have hpd := (pcells_take (sv := 1) hok.len (i + 1) (by omega)).2
  have hcd : (pcells (ps.drop (i + 1))).length = (n - 1 - i) * (1 + 1) := by rw [pcells_len (sv := 1) (fun q hq => (hok q (List.mem_of_mem_drop hq)).1), List.length_drop, hn]; congr 1; omega
  have hone : ∀ u ∈ (pcells (ps.drop (i + 1))), u.oneCell' = true := fun u hu => pcell_one hok u (by rw [← hpd] at hu; exact List.mem_of_mem_drop hu)
  have hCd : Cells w (subA (some ⟨g0, 0, none⟩) (i + 1) c 2) (pcells (ps.drop (i + 1))) := by
    by_cases h9 : i + 1 < c
    · have h8 := (ho.cells).sub (i + 1) c 2 ((n - 1 - i) * 2) (by rw [ho.1, show 1 + 1 = 2 from rfl, ← Nat.add_mul]; exact Nat.mul_le_mul_right _ (by omega)) (by omega)
      rw [show (2 : Nat) = 1 + 1 from rfl, hpd, List.take_of_length_le (by rw [hcd]; exact Nat.le_refl _)] at h8
      exact h8
    · have h8 : (pcells (ps.drop (i + 1))) = [] := List.eq_nil_of_length_eq_zero (by rw [hcd, show n - 1 - i = 0 by omega, Nat.zero_mul])
      rw [h8]
      intro j v hj
      cases hj
  refine G.seq ?_
  refine G.region ?_
  refine L.val rfl rfl (R.as rfl) ?_
  refine L.nil ?_
  refine N.seq ?_
  refine G.seq ?_
  refine G.region ?_
  refine L.val rfl rfl (R.mv rfl) ?_
  refine L.val rfl rfl (R.mv rfl) ?_
  refine L.val rfl rfl (R.mv rfl) ?_
  refine L.val rfl rfl (R.mv rfl) ?_
  refine L.val rfl rfl (R.lenS rfl) ?_
  refine L.val rfl rfl (R.slLHM rfl rfl rfl rfl (by omega) (by omega) (by omega) (by omega)) ?_
  refine L.nil ?_
  refine N.seq ?_
  refine G.seq ?_
  refine G.seq ?_
  refine G.region ?_
  refine L.val rfl rfl (R.mv rfl) ?_
  refine L.val rfl rfl (R.mv rfl) ?_
  refine L.val rfl rfl (R.eqI rfl rfl) ?_
  refine L.nil ?_
  refine N.seq ?_
  refine G.condP rfl (fun h0 => ?_) (fun h0 => ?_)
  · exfalso; omega
  · refine G.skip ?_
    refine N.seq ?_
    refine G.seq ?_
    refine G.region ?_
    refine L.val rfl rfl (R.mv rfl) ?_
    refine L.val rfl rfl (R.lenS rfl) ?_
    refine L.val rfl rfl (R.as rfl) ?_
    refine L.nil ?_
    refine N.seq ?_
    refine G.seq ?_
    refine G.staged [6] [.blocks ([g0])] [fun w' => Ext [] w w', fun w' => Ext [g0] w w' ∧ Own w' 182 (1 + 1) (some ⟨g0, 0, none⟩) (n - 1) c (pcells (ps.take i ++ ps.drop (i + 1))) [g0]] [] (by decide +kernel) (by decide +kernel) rfl rfl rfl (fun _ h => h) ?_
    refine Z.val rfl rfl rfl rfl rfl (fun w1 => R.mv rfl) ?_
    refine Z.val rfl rfl rfl rfl rfl (fun w1 => R.mv rfl) ?_
    refine Z.val rfl rfl rfl rfl rfl (fun w1 => R.slH rfl rfl (by omega) (by omega)) ?_
    refine Z.be 22 rfl (show _ = Value.slice (some ⟨g0, 0, none⟩) i c by rw [subA_zero, Int.toNat_natCast]) ?_
    refine Z.val rfl rfl rfl rfl rfl (fun w1 => R.mv rfl) ?_
    refine Z.val rfl rfl rfl rfl rfl (fun w1 => R.mv rfl) ?_
    refine Z.val rfl rfl rfl rfl rfl (fun w1 => R.slL rfl rfl (by omega) (by omega)) ?_
    refine Z.be 25 rfl (show _ = Value.slice (subA (some ⟨g0, 0, none⟩) (i + 1) c 2) (n - 1 - i) (c - (i + 1)) by rw [show ((i : Int) + 1).toNat = i + 1 by omega, show n - (i + 1) = n - 1 - i by omega]) ?_
    refine Z.put (A := fun v _ => v = .slice (some ⟨g0, 0, none⟩) (n - 1) c) (Lasts.kill (fun _ _ _ _ h => h) (by decide +kernel)) 0 (by decide +kernel) rfl rfl rfl rfl rfl rfl rfl (fun w1 hJ => (R.app2 rfl rfl ((ho.pre (i := i) (by omega)).ext0 hJ) (hCd.ext0 hJ) hcd hone (by simp [maxLen]; omega) (by omega)).mono (fun v w9 h => by
      obtain ⟨a9, c9, M9, rfl, e9, _, o9, hin⟩ := h
      obtain ⟨rfl, rfl, rfl⟩ := hin (by omega)
      rw [hps, ← pcells_append, show i + (n - 1 - i) = n - 1 by omega] at o9
      exact ⟨by rw [show i + (n - 1 - i) = n - 1 by omega], e9, e9.after hJ, o9⟩)) ?_
    refine Z.valR (A := fun v _ => v = .slice (some ⟨g0, 0, none⟩) (n - 1) c) (Lasts.kill (fun _ _ _ _ h => h) (by decide +kernel)) rfl rfl rfl rfl (fun w1 => fun v hv => ⟨v, R.as rfl, hv⟩) ?_
    refine Z.nil rfl rfl (fun w1 hJ => ?_)
    obtain ⟨e3, o3⟩ := hJ
    rintro _ rfl _ rfl
    obtain ⟨cur3, _, B3, hc3, hx3, hz3, ht3⟩ := o3.inv
    have hzz : (n - 1) * 2 + 1 * 2 ≤ cur3.size := by
      have h9 : (n - 1 + 1) * 2 ≤ c * 2 := Nat.mul_le_mul_right _ (by omega)
      rw [Nat.add_mul] at h9
      exact Nat.le_trans h9 hz3
    refine N.seq ?_
    refine G.seq ?_
    refine G.region ?_
    refine L.val rfl rfl (R.mv rfl) ?_
    refine L.val rfl rfl (R.mv rfl) ?_
    refine L.val rfl rfl (R.lenS rfl) ?_
    refine L.val rfl rfl (R.mv rfl) ?_
    refine L.val rfl rfl (R.slLH rfl rfl rfl (by omega) (by omega) (by omega)) ?_
    refine L.be 31 rfl (show _ = Value.slice (some ⟨g0, (n - 1) * 2, none⟩) (0 + 1) (c - (n - 1)) by rw [Int.toNat_natCast, Int.toNat_natCast, subA_lit (by omega), Nat.zero_add, show n - (n - 1) = 0 + 1 by omega]) ?_
    refine L.do0 rfl (R.clearN (m := 0) rfl B3 (by omega) (by decide) (by intro u hu; simp [Value.cells] at hu; first | (rcases hu with rfl | rfl <;> rfl) | (rcases hu with rfl | rfl | rfl <;> rfl) | (rcases hu with rfl | rfl | rfl | rfl <;> rfl) | (rcases hu with rfl | rfl | rfl | rfl | rfl <;> rfl))) ?_
    rintro _ w4 P4
    obtain ⟨e4, hs4, B4⟩ := P4
    have X := e3.transN e4 (fun x hx => .inl hx)
    refine L.nil ?_
    refine N.seq ?_
    refine G.seq ?_
    refine G.region ?_
    refine L.val rfl rfl (R.mv rfl) ?_
    refine L.val rfl rfl (R.as rfl) ?_
    refine L.nil ?_
    refine N.seq ?_
    refine G.ret1 rfl rfl ?_
    exact ⟨rfl, X, own_over o3.1 B4 (by rw [Array.length_toList, size_zeroCells]; exact hzz) hc3 hx3 hz3 ht3⟩

theorem odelKI_ok (m : Nat) (ps : List (Pr (List UInt8))) (S : List Nat) (k : List UInt8) (w : World) (hd : MapAt (κ := List UInt8) 180 182 1 w m ps S) (hl : ps.length ≤ 99999) : Meets Try.prog 38 [.pointer (some ⟨m, 0, none⟩), .string (str k)] w (fun v w' => v = .bool (hasK ps k) ∧ ∃ S', Grown S S' w w' ∧ MapAt (κ := List UInt8) 180 182 1 w' m (delK ps k) S') := by
  refine Meets.enter Try.func38 rfl 28 rfl (Nat.le_of_ble_eq_true rfl) ?_
  have E := Ext.refl [] w
  have hd0 := hd
  obtain ⟨a, c, M, rfl, hm0, Bm, om, hok, hs⟩ := hd
  refine G.seq ?_
  refine G.region ?_
  refine L.val rfl rfl (R.as rfl) ?_
  refine L.nil ?_
  refine N.seq ?_
  refine G.seq ?_
  refine G.seq ?_
  refine G.region ?_
  refine L.val rfl rfl (R.mv rfl) ?_
  refine L.val rfl rfl (R.eqNilP rfl rfl) ?_
  refine L.nil ?_
  refine N.seq ?_
  refine G.condF rfl ?_
  refine G.skip ?_
  refine N.seq ?_
  refine G.seq ?_
  refine G.region ?_
  refine L.val rfl rfl (R.mv rfl) ?_
  refine L.val rfl rfl (R.mv rfl) ?_
  refine L.callF rfl rfl rfl go106 (findKI_ok m ps (m :: M) k _ hd0 (by omega)) ?_
  rintro _ w1 ⟨rfl, e1⟩
  replace E := E.trans0 e1
  replace Bm := Bm.ext0 e1
  replace om := om.ext0 e1
  refine L.val rfl rfl (R.mv rfl) ?_
  refine L.val rfl rfl (R.ext rfl rfl) ?_
  refine L.val rfl rfl (R.ext rfl rfl) ?_
  refine L.val rfl rfl (R.as rfl) ?_
  refine L.val rfl rfl (R.as rfl) ?_
  refine L.nil ?_
  refine N.seq ?_
  refine G.seq ?_
  refine G.seq ?_
  refine G.region ?_
  refine L.val rfl rfl (R.mv rfl) ?_
  refine L.nil ?_
  refine N.seq ?_
  refine G.condB rfl (fun h1 => ?_) (fun h1 => ?_)
  · have hk : hasK ps k = true := h1
    have hlt := hasK_lt hk
    have hdl : (delK ps k).length = ps.length - 1 := by rw [delK_yes hk, List.length_append, List.length_take, List.length_drop]; omega
    refine G.region ?_
    refine L.val rfl rfl (R.mv rfl) ?_
    refine L.val rfl rfl (R.mv rfl) ?_
    refine L.val rfl rfl (R.nilChk rfl) ?_
    refine L.val rfl rfl (R.fld rfl) ?_
    refine L.val rfl rfl (R.ldB rfl Bm rfl) ?_
    refine L.val rfl rfl (R.mv rfl) ?_
    refine L.val rfl rfl (R.mv rfl) ?_
    refine L.val rfl rfl (R.add rfl rfl (by omega)) ?_
    refine L.callF rfl rfl rfl go109 (delKI_ok a ps.length c ps M (low ps k) _ om rfl hok hlt (by omega)) ?_
    rintro _ w2 ⟨rfl, e2, o2⟩
    replace Bm := Bm.ext e2 hm0
    refine L.val rfl rfl (R.nilChk rfl) ?_
    refine L.val rfl rfl (R.fld rfl) ?_
    refine L.set rfl (R.st rfl rfl Bm (by show 0 < 1; decide) rfl) ?_
    rintro w4 ⟨e4, hs4, Bm⟩
    replace Bm : Blk w4 m #[.slice a (ps.length - 1) c] 180 (0, 0) := Bm
    have o4 := o2.ext e4 (by intro g hg h; rw [List.mem_singleton.1 h] at hg; exact hm0 hg)
    have X : Ext (m :: M) w w4 := ((e2.after E).mono (fun x hx => .inl (List.mem_cons_of_mem _ hx))).transN e4 (fun x hx => .inl (by rw [List.mem_singleton.1 hx]; simp))
    refine L.nil ?_
    refine N.seq ?_
    refine G.seq ?_
    refine G.region ?_
    refine L.val rfl rfl (R.mv rfl) ?_
    refine L.val rfl rfl (R.as rfl) ?_
    refine L.nil ?_
    refine N.seq ?_
    refine G.ret1 rfl rfl ?_
    first
      | exact ⟨by rw [hk]; rfl, m :: M, ⟨X, fun x hx => .inl hx⟩, MapAt.mk hm0 Bm hdl.symm (by rw [delK_yes hk]; exact o4) hok.del (sorted_del hs _)⟩
      | exact ⟨by rw [hk]; rfl, m :: M, ⟨E.mono (by simp), fun x hx => .inl hx⟩, by rw [delK_no hk]; exact MapAt.mk hm0 Bm rfl om hok hs⟩
  · have hk : hasK ps k = false := h1
    refine G.skip ?_
    refine N.seq ?_
    refine G.seq ?_
    refine G.region ?_
    refine L.val rfl rfl (R.mv rfl) ?_
    refine L.val rfl rfl (R.as rfl) ?_
    refine L.nil ?_
    refine N.seq ?_
    refine G.ret1 rfl rfl ?_
    first
      | exact ⟨by rw [hk]; rfl, m :: M, ⟨X, fun x hx => .inl hx⟩, MapAt.mk hm0 Bm hdl.symm (by rw [delK_yes hk]; exact o4) hok.del (sorted_del hs _)⟩
      | exact ⟨by rw [hk]; rfl, m :: M, ⟨E.mono (by simp), fun x hx => .inl hx⟩, by rw [delK_no hk]; exact MapAt.mk hm0 Bm rfl om hok hs⟩

end Go.Proofs.Ythpolibakkmmeaa
/-
  The laws of order.
-/
set_option linter.unusedVariables false
set_option linter.unusedSimpArgs false
set_option maxRecDepth 4000
namespace Go.Proofs.Ythpolibakkmmeaa
open Go Brv
/-- Each value is a number at which its key stands. -/
def InL (l : List (List UInt8)) (ps : List (Pr (List UInt8))) : Prop := ∀ p ∈ ps, ∃ j : Nat, p.2 = [.int .i64 (j : Int)] ∧ l[j]? = some p.1
def AllIn (l : List (List UInt8)) (ps : List (Pr (List UInt8))) (i : Nat) : Prop := ∀ j s, j < i → l[j]? = some s → ∃ p ∈ ps, p.1 = s
theorem InL.put {l : List (List UInt8)} {ps : List (Pr (List UInt8))} (hs : Sorted ps) (h : InL l ps) {i : Nat} {s : List UInt8} (hi : l[i]? = some s) : InL l (putK ps s [.int .i64 (i : Int)]) := by
  intro p hp
  rcases (mem_put hs).1 hp with rfl | ⟨hp, _⟩
  · exact ⟨i, rfl, hi⟩
  · exact h p hp
theorem AllIn.put {l : List (List UInt8)} {ps : List (Pr (List UInt8))} {i : Nat} (hs : Sorted ps) (h : AllIn l ps i) {s : List UInt8} (hi : l[i]? = some s) {v : List Value} : AllIn l (putK ps s v) (i + 1) := by
  intro j t hj ht
  by_cases e : t = s
  · exact ⟨_, (mem_put hs).2 (.inl rfl), e.symm⟩
  · have hji : j ≠ i := fun e2 => by subst e2; rw [hi] at ht; cases ht; exact e rfl
    obtain ⟨p, hp, rfl⟩ := h j t (by omega) ht
    exact ⟨p, (mem_put hs).2 (.inr ⟨hp, e⟩), rfl⟩
theorem strs_at {w : World} {a : Option Addr} {l : List (List UInt8)} (h : Cells w a (l.map fun s => Value.string (str s))) {i : Nat} {s : List UInt8} (hi : l[i]? = some s) : ∃ q, a = some q ∧ w.cell? (q.add i) = some (.string (str s)) := h i _ (by rw [List.getElem?_map, hi]; rfl)
theorem keys_at {w : World} {a : Option Addr} {ps : List (Pr (List UInt8))} (h : Cells w a (ps.map fun p => Key.val p.1)) {i : Nat} {p : Pr (List UInt8)} (hi : ps[i]? = some p) : ∃ q, a = some q ∧ w.cell? (q.add i) = some (.string (str p.1)) := h i _ (by rw [List.getElem?_map, hi]; rfl)
theorem ev_got {w w' : World} {q : Addr} {i : Nat} {v : Value} (h : w.cell? (q.add i) = some v) (he : Ext [] w w') : w'.cell? (q.add ((i : Int).toNat * 1)) = some v := by
  rw [Int.toNat_natCast, Nat.mul_one]
  exact (Still.of he).cell h

theorem orises_ok (la : Option Addr) (ln lc : Nat) (l : List (List UInt8)) (ua : Option Addr) (un uc : Nat) (u : List (List UInt8)) (w : World) (hL : Cells w la (l.map fun s => Value.string (str s))) (hln : ln = l.length) (hlc : ln ≤ 140737488351232) (huc : un ≤ 140737488351232) (hU : Cells w ua (u.map fun s => Value.string (str s))) (hun : un = u.length) : Meets Try.prog 5 [.slice la ln lc, .slice ua un uc] w (fun v w' => v = .bool true ∧ Ext [] w w') := by
  refine Meets.enter Try.func5 rfl 131 rfl (Nat.le_of_ble_eq_true rfl) ?_
  have E := Ext.refl [] w
  refine G.seq ?_
  refine G.region ?_
  refine L.val rfl rfl (R.as rfl) ?_
  refine L.nil ?_
  refine N.seq ?_
  refine G.seq ?_
  refine G.seq ?_
  refine G.region ?_
  refine L.callF rfl rfl rfl go34 (ofirst_ok _) ?_
  rintro _ w1 ⟨rfl, e1⟩
  replace E := E.trans0 e1
  refine L.val rfl rfl (R.not rfl) ?_
  refine L.nil ?_
  refine N.seq ?_
  refine G.condF rfl ?_
  refine G.skip ?_
  refine N.seq ?_
  refine G.seq ?_
  refine G.seq ?_
  refine G.region ?_
  refine L.val rfl rfl (R.mv rfl) ?_
  refine L.val rfl rfl (R.lenS rfl) ?_
  refine L.val rfl rfl (R.mv rfl) ?_
  refine L.val rfl rfl (R.lenS rfl) ?_
  refine L.val rfl rfl (R.add rfl rfl (by omega)) ?_
  refine L.val rfl rfl (R.gtr rfl rfl) ?_
  refine L.nil ?_
  refine N.seq ?_
  refine G.condP rfl (fun h1 => ?_) (fun h1 => ?_)
  · refine G.seq ?_
    refine G.region ?_
    refine L.val rfl rfl (R.as rfl) ?_
    refine L.nil ?_
    refine N.seq ?_
    refine G.ret1 rfl rfl ?_
    first
      | exact ⟨rfl, E⟩
      | exact ⟨rfl, E8.trans0 F⟩
  · have h200 : ln + un ≤ 200 := by omega
    refine G.skip ?_
    refine N.seq ?_
    refine G.seq ?_
    refine G.region ?_
    refine L.callF rfl rfl rfl go35 (onewKI_ok _) ?_
    rintro _ w2 ⟨m, rfl, hm, e2, D⟩
    have hEm := E.size
    have hS : ∀ y ∈ [m], w.heap.size ≤ y := by simp; omega
    replace E := E.trans0 e2
    refine L.val rfl rfl (R.as rfl) ?_
    refine L.nil ?_
    refine N.seq ?_
    refine G.seq ?_
    refine G.seq ?_
    refine G.region ?_
    refine L.val rfl rfl (R.mv rfl) ?_
    refine L.val rfl rfl (R.lenS rfl) ?_
    refine L.val rfl rfl (R.mv rfl) ?_
    refine L.nil ?_
    refine N.seq ?_
    refine G.block ?_
    refine G.loop (X := Nat × (List (Pr (List UInt8))) × List Nat) (fun s => [(0, .slice la ln lc), (1, .slice ua un uc), (5, .pointer (some ⟨m, 0, none⟩)), (28, .slice la ln lc), (29, .int .i64 (ln : Int)), (30, .int .i64 (s.1 : Int))]) (fun s w' => s.1 ≤ ln ∧ InL l s.2.1 ∧ AllIn l s.2.1 s.1 ∧ s.2.1.length ≤ s.1 ∧ MapAt (κ := List UInt8) 180 182 1 w' m s.2.1 s.2.2 ∧ (∀ y ∈ s.2.2, w.heap.size ≤ y) ∧ Ext [] w w') (fun s => ln - s.1) ((0, [], [m])) (Sub.cons rfl (Sub.cons rfl (Sub.cons rfl (Sub.cons rfl (Sub.cons rfl (Sub.cons rfl (Sub.nil _))))))) ⟨Nat.zero_le _, (by intro p hp; cases hp), (by intro j s hj; omega), Nat.le_refl 0, D, hS, E⟩ ?_
    rintro ⟨i, ps, S⟩ w3 ⟨hi, hin, hall, hlen, D, hS, E⟩
    dsimp only at hi hin hall hlen D hS
    refine G.sub [(0, .slice la ln lc), (1, .slice ua un uc), (5, .pointer (some ⟨m, 0, none⟩)), (28, .slice la ln lc), (29, .int .i64 (ln : Int)), (30, .int .i64 (i : Int))] (Sub.cons rfl (Sub.cons rfl (Sub.cons rfl (Sub.cons rfl (Sub.cons rfl (Sub.cons rfl (Sub.nil _))))))) ?_
    refine G.seq ?_
    refine G.region ?_
    refine L.val rfl rfl (R.lss rfl rfl) ?_
    refine L.nil ?_
    refine N.seq ?_
    refine G.seq ?_
    refine G.condP rfl (fun h2 => ?_) (fun h2 => ?_)
    · have hil : i < l.length := by omega
      obtain ⟨s, hs⟩ : ∃ s, l[i]? = some s := ⟨_, List.getElem?_eq_getElem (by omega)⟩
      obtain ⟨q, hq, hcq⟩ := strs_at hL hs
      have hsr := D.sorted
      refine G.skip ?_
      refine N.seq ?_
      refine G.seq ?_
      refine G.block ?_
      refine G.seq ?_
      refine G.region ?_
      refine L.val rfl rfl (R.mv rfl) ?_
      refine L.val rfl rfl (R.idx rfl rfl (by omega) (by omega) q hq) ?_
      refine L.val rfl rfl (R.ld rfl (v := .string (str s)) (ev_got hcq E)) ?_
      refine L.val rfl rfl (R.as rfl) ?_
      refine L.val rfl rfl (R.as rfl) ?_
      refine L.nil ?_
      refine N.seq ?_
      refine G.region ?_
      refine L.val rfl rfl (R.mv rfl) ?_
      refine L.val rfl rfl (R.mv rfl) ?_
      refine L.val rfl rfl (R.mv rfl) ?_
      refine L.callF rfl rfl rfl go36 (putKI_ok m ps S s (i : Int) _ D (by omega)) ?_
      rintro _ w4 ⟨rfl, S4, g4, D⟩
      have hE4 := E.size
      replace E := E.fresh g4.1 hS
      replace hS := g4.fresh hS hE4
      refine L.nil ?_
      refine N.block ?_
      refine N.seq ?_
      refine G.region ?_
      refine L.val rfl rfl (R.add rfl rfl (by omega)) ?_
      refine L.val rfl rfl (R.mv rfl) ?_
      refine L.nil ?_
      exact N.again (i + 1, putK ps s [.int .i64 (i : Int)], S4) (by show ln - (i + 1) < ln - i; omega) (Sub.cons rfl (Sub.cons rfl (Sub.cons rfl (Sub.cons rfl (Sub.cons rfl (Sub.cons rfl (Sub.nil _))))))) ⟨by show i + 1 ≤ ln; omega, hin.put hsr hs, hall.put hsr hs, by show (putK ps s _).length ≤ i + 1; rw [put_len]; split <;> omega, D, hS, E⟩
    · obtain rfl : ln = i := by omega
      have hsr := D.sorted
      have hDl := D.lt
      refine G.exit _ rfl ?_
      refine N.seq ?_
      refine G.seq ?_
      refine G.region ?_
      refine L.val rfl rfl (R.mv rfl) ?_
      refine L.callF rfl rfl rfl go37 (ocloneKI_ok m ps S _ D (by omega)) ?_
      rintro _ w5 ⟨b8, S8, rfl, e5, D8, hS8⟩
      have hE5 := E.size
      replace E := E.trans0 e5
      replace D := D.ext0 e5
      have hap : ∀ y ∈ S8, y ∉ S := fun y hy h => by have := hDl y h; have := hS8 y hy; omega
      refine L.val rfl rfl (R.as rfl) ?_
      refine L.nil ?_
      refine N.seq ?_
      refine G.seq ?_
      refine G.seq ?_
      refine G.region ?_
      refine L.val rfl rfl (R.mv rfl) ?_
      refine L.val rfl rfl (R.lenS rfl) ?_
      refine L.val rfl rfl (R.mv rfl) ?_
      refine L.nil ?_
      refine N.seq ?_
      refine G.block ?_
      refine G.loop (X := Nat × (List (Pr (List UInt8))) × List Nat) (fun s => [(0, .slice la ln lc), (5, .pointer (some ⟨m, 0, none⟩)), (8, .pointer (some ⟨b8, 0, none⟩)), (42, .slice ua un uc), (43, .int .i64 (un : Int)), (44, .int .i64 (s.1 : Int))]) (fun s w' => s.1 ≤ un ∧ (∀ p ∈ s.2.1, p ∈ ps) ∧ s.2.1.length ≤ ps.length ∧ MapAt (κ := List UInt8) 180 182 1 w' m s.2.1 s.2.2 ∧ (∀ y ∈ s.2.2, w.heap.size ≤ y) ∧ MapAt (κ := List UInt8) 180 182 1 w' b8 ps S8 ∧ (∀ y ∈ S8, y ∉ s.2.2) ∧ Ext [] w w') (fun s => un - s.1) ((0, ps, S)) (Sub.cons rfl (Sub.cons rfl (Sub.cons rfl (Sub.cons rfl (Sub.cons rfl (Sub.cons rfl (Sub.nil _))))))) ⟨Nat.zero_le _, fun _ h => h, Nat.le_refl _, D, hS, D8, hap, E⟩ ?_
      rintro ⟨j, ps2, S2⟩ w6 ⟨hj, hsub, hlen2, D, hS, D8, hap, E⟩
      dsimp only at hj hsub hlen2 D hS hap
      refine G.sub [(0, .slice la ln lc), (5, .pointer (some ⟨m, 0, none⟩)), (8, .pointer (some ⟨b8, 0, none⟩)), (42, .slice ua un uc), (43, .int .i64 (un : Int)), (44, .int .i64 (j : Int))] (Sub.cons rfl (Sub.cons rfl (Sub.cons rfl (Sub.cons rfl (Sub.cons rfl (Sub.cons rfl (Sub.nil _))))))) ?_
      refine G.seq ?_
      refine G.region ?_
      refine L.val rfl rfl (R.lss rfl rfl) ?_
      refine L.nil ?_
      refine N.seq ?_
      refine G.seq ?_
      refine G.condP rfl (fun h3 => ?_) (fun h3 => ?_)
      · obtain ⟨s, hs⟩ : ∃ s, u[j]? = some s := ⟨_, List.getElem?_eq_getElem (by omega)⟩
        obtain ⟨q, hq, hcq⟩ := strs_at hU hs
        have hsr2 := D.sorted
        refine G.skip ?_
        refine N.seq ?_
        refine G.seq ?_
        refine G.block ?_
        refine G.seq ?_
        refine G.region ?_
        refine L.val rfl rfl (R.idx rfl rfl (by omega) (by omega) q hq) ?_
        refine L.val rfl rfl (R.ld rfl (v := .string (str s)) (ev_got hcq E)) ?_
        refine L.val rfl rfl (R.as rfl) ?_
        refine L.nil ?_
        refine N.seq ?_
        refine G.region ?_
        refine L.val rfl rfl (R.mv rfl) ?_
        refine L.val rfl rfl (R.mv rfl) ?_
        refine L.callF rfl rfl rfl go38 (odelKI_ok m ps2 S2 s _ D (by omega)) ?_
        rintro _ w7 ⟨rfl, S7, g7, D⟩
        have hE7 := E.size
        replace E := E.fresh g7.1 hS
        replace hS := g7.fresh hS hE7
        have hlt8 := D8.lt
        replace D8 := D8.ext g7.1 hap
        replace hap : ∀ y ∈ S8, y ∉ S7 := fun y hy h => (g7.2 y h).elim (hap y hy) (fun h => by have := hlt8 y hy; omega)
        refine L.nil ?_
        refine N.block ?_
        refine N.seq ?_
        refine G.region ?_
        refine L.val rfl rfl (R.add rfl rfl (by omega)) ?_
        refine L.val rfl rfl (R.mv rfl) ?_
        refine L.nil ?_
        exact N.again (j + 1, delK ps2 s, S7) (by show un - (j + 1) < un - j; omega) (Sub.cons rfl (Sub.cons rfl (Sub.cons rfl (Sub.cons rfl (Sub.cons rfl (Sub.cons rfl (Sub.nil _))))))) ⟨by show j + 1 ≤ un; omega, fun p hp => hsub p ((mem_del hsr2).1 hp).1, by show (delK ps2 s).length ≤ _; rw [del_len]; split <;> omega, D, hS, D8, hap, E⟩
      · have hsr2 := D.sorted
        refine G.exit _ rfl ?_
        refine N.seq ?_
        refine G.seq ?_
        refine G.region ?_
        refine L.val rfl rfl (R.mv rfl) ?_
        refine L.callF rfl rfl rfl go39 (okeysKI_ok m ps2 S2 _ D (by omega)) ?_
        rintro _ w8 ⟨ka, kc, kM, rfl, e8, ko, hkM⟩
        replace E := E.trans0 e8
        replace D := D.ext0 e8
        replace D8 := D8.ext0 e8
        have hK := ko.cells
        refine L.val rfl rfl (R.as rfl) ?_
        refine L.nil ?_
        refine N.seq ?_
        refine G.seq ?_
        refine G.seq ?_
        refine G.region ?_
        refine L.val rfl rfl (R.mv rfl) ?_
        refine L.val rfl rfl (R.lenS rfl) ?_
        refine L.val rfl rfl (R.mv rfl) ?_
        refine L.nil ?_
        refine N.seq ?_
        refine G.block ?_
        refine G.loop (X := Nat) (fun s => [(0, .slice la ln lc), (5, .pointer (some ⟨m, 0, none⟩)), (8, .pointer (some ⟨b8, 0, none⟩)), (11, .slice ka ps2.length kc), (54, .slice ka ps2.length kc), (55, .int .i64 (ps2.length : Int)), (56, .int .i64 (s : Int))]) (fun s w' => s ≤ ps2.length ∧ Ext [] w8 w') (fun s => ps2.length - s) (0) (Sub.cons rfl (Sub.cons rfl (Sub.cons rfl (Sub.cons rfl (Sub.cons rfl (Sub.cons rfl (Sub.cons rfl (Sub.nil _)))))))) ⟨Nat.zero_le _, Ext.refl _ _⟩ ?_
        have E8 := E
        rintro k w9 ⟨hk, F⟩
        replace E := E8.trans0 F
        refine G.sub [(0, .slice la ln lc), (5, .pointer (some ⟨m, 0, none⟩)), (8, .pointer (some ⟨b8, 0, none⟩)), (11, .slice ka ps2.length kc), (54, .slice ka ps2.length kc), (55, .int .i64 (ps2.length : Int)), (56, .int .i64 (k : Int))] (Sub.cons rfl (Sub.cons rfl (Sub.cons rfl (Sub.cons rfl (Sub.cons rfl (Sub.cons rfl (Sub.cons rfl (Sub.nil _)))))))) ?_
        refine G.seq ?_
        refine G.region ?_
        refine L.val rfl rfl (R.lss rfl rfl) ?_
        refine L.nil ?_
        refine N.seq ?_
        refine G.seq ?_
        refine G.condP rfl (fun h4 => ?_) (fun h4 => ?_)
        · obtain ⟨p, hp⟩ : ∃ s, ps2[k]? = some s := ⟨_, List.getElem?_eq_getElem (by omega)⟩
          obtain ⟨q, hq, hcq⟩ := keys_at hK hp
          obtain ⟨nn, hpv, hln⟩ := hin p (hsub p (List.mem_of_getElem? hp))
          have hkk := hasK_mem hsr2 (List.mem_of_getElem? hp)
          obtain ⟨q3, hq3, hcq3⟩ := strs_at hL hln
          have hnl : nn < l.length := (List.getElem?_eq_some_iff.1 hln).1
          refine G.skip ?_
          refine N.seq ?_
          refine G.seq ?_
          refine G.block ?_
          refine G.seq ?_
          refine G.region ?_
          refine L.val rfl rfl (R.mv rfl) ?_
          refine L.val rfl rfl (R.as rfl) ?_
          refine L.nil ?_
          refine N.seq ?_
          refine G.seq ?_
          refine G.seq ?_
          refine G.quiet (by decide +kernel) rfl ?_
          refine Q.val rfl rfl rfl rfl (fun w10 hE => R.mv rfl) ?_
          refine Q.val rfl rfl rfl rfl (fun w10 hE => R.gtr rfl rfl) ?_
          refine Q.val rfl rfl rfl rfl (fun w10 hE => R.mv rfl) ?_
          refine Q.caseP 61 rfl (fun hg21_2 => ?_) (fun hg21_2 => ?_)
          · obtain ⟨k0, hk0⟩ : ∃ k0, k0 = k - 1 := ⟨_, rfl⟩
            obtain ⟨p0, hp0⟩ : ∃ s, ps2[k0]? = some s := ⟨_, List.getElem?_eq_getElem (by omega)⟩
            obtain ⟨q0, hq0, hcq0⟩ := keys_at hK hp0
            have hlt : Op.bytesLess p0.1 p.1 = true := by
              have h9 := (List.pairwise_iff_getElem.1 hsr2) k0 k (by omega) (by omega) (by omega)
              rw [(List.getElem?_eq_some_iff.1 hp0).2, (List.getElem?_eq_some_iff.1 hp).2] at h9
              exact h9
            have hk01 : ((k : Int) - 1) = (k0 : Int) := by omega
            refine Q.val rfl rfl rfl rfl (fun w10 hE => R.mv rfl) ?_
            refine Q.val rfl rfl rfl rfl (fun w10 hE => R.mv rfl) ?_
            refine Q.val rfl rfl rfl rfl (fun w10 hE => R.sub' rfl rfl (by omega)) ?_
            refine Q.val rfl rfl rfl rfl (fun w10 hE => R.idx rfl rfl (by omega) (by omega) q0 hq0) ?_
            refine Q.val rfl rfl rfl rfl (fun w10 hE => R.ld rfl (v := .string (str p0.1)) (by rw [hk01]; exact ev_got hcq0 (F.trans0 hE))) ?_
            refine Q.val rfl rfl rfl rfl (fun w10 hE => R.mv rfl) ?_
            refine Q.val rfl rfl rfl rfl (fun w10 hE => R.mv rfl) ?_
            refine Q.val rfl rfl rfl rfl (fun w10 hE => R.idx rfl rfl (by omega) (by omega) q hq) ?_
            refine Q.val rfl rfl rfl rfl (fun w10 hE => R.ld rfl (v := .string (str p.1)) (ev_got hcq (F.trans0 hE))) ?_
            refine Q.val rfl rfl rfl rfl (fun w10 hE => R.geStr rfl rfl) ?_
            first | refine Q.val rfl rfl rfl rfl (fun w10 hE => R.pickT rfl rfl) ?_ | refine Q.val rfl rfl rfl rfl (fun w10 hE => R.pickF rfl rfl) ?_
            refine Q.nil (fun w10 e10 => ?_)
            replace E := E.trans0 e10
            have F10 := F.trans0 e10
            have FY := e10
            refine N.seq ?_
            refine G.condB rfl (fun h5 => ?_) (fun h5 => ?_)
            · first | cases h5 | (rw [hlt] at h5; cases h5)
            · refine G.skip ?_
              refine N.seq ?_
              refine G.seq ?_
              refine G.region ?_
              refine L.val rfl rfl (R.mv rfl) ?_
              refine L.val rfl rfl (R.mv rfl) ?_
              refine L.val rfl rfl (R.mv rfl) ?_
              refine L.val rfl rfl (R.idx rfl rfl (by omega) (by omega) q hq) ?_
              refine L.val rfl rfl (R.ld rfl (v := .string (str p.1)) (ev_got hcq F10)) ?_
              refine L.callF rfl rfl rfl go40 (getKI_ok m ps2 S2 p.1 _ (D.ext0 F10) (by omega)) ?_
              rintro _ w11 ⟨rfl, e11⟩
              replace E := E.trans0 e11
              refine L.be 79 rfl (show _ = Value.tuple #[.int .i64 (nn : Int), .bool true] by rw [hkk.1, hkk.2, hpv]; rfl) ?_
              refine L.val rfl rfl (R.mv rfl) ?_
              refine L.val rfl rfl (R.ext rfl rfl) ?_
              refine L.val rfl rfl (R.ext rfl rfl) ?_
              refine L.val rfl rfl (R.as rfl) ?_
              refine L.val rfl rfl (R.as rfl) ?_
              refine L.nil ?_
              refine N.seq ?_
              refine G.seq ?_
              refine G.quiet (by decide +kernel) rfl ?_
              refine Q.val rfl rfl rfl rfl (fun w12 hE => R.mv rfl) ?_
              refine Q.val rfl rfl rfl rfl (fun w12 hE => R.not rfl) ?_
              refine Q.val rfl rfl rfl rfl (fun w12 hE => R.mv rfl) ?_
              refine Q.isF 84 rfl (by rfl) ?_
              refine Q.val rfl rfl rfl rfl (fun w12 hE => R.mv rfl) ?_
              refine Q.val rfl rfl rfl rfl (fun w12 hE => R.mv rfl) ?_
              refine Q.val rfl rfl rfl rfl (fun w12 hE => R.idx rfl rfl (by omega) (by omega) q3 hq3) ?_
              refine Q.val rfl rfl rfl rfl (fun w12 hE => R.ld rfl (v := .string (str p.1)) (ev_got hcq3 ((E8.trans0 (F10.trans0 e11)).trans0 hE))) ?_
              refine Q.val rfl rfl rfl rfl (fun w12 hE => R.mv rfl) ?_
              refine Q.val rfl rfl rfl rfl (fun w12 hE => R.mv rfl) ?_
              refine Q.val rfl rfl rfl rfl (fun w12 hE => R.idx rfl rfl (by omega) (by omega) q hq) ?_
              refine Q.val rfl rfl rfl rfl (fun w12 hE => R.ld rfl (v := .string (str p.1)) (ev_got hcq ((F10.trans0 e11).trans0 hE))) ?_
              refine Q.val rfl rfl rfl rfl (fun w12 hE => R.neStr rfl rfl) ?_
              first | refine Q.val rfl rfl rfl rfl (fun w12 hE => R.pickT rfl rfl) ?_ | refine Q.val rfl rfl rfl rfl (fun w12 hE => R.pickF rfl rfl) ?_
              refine Q.nil (fun w12 e12 => ?_)
              replace E := E.trans0 e12
              have FX : Ext [] w9 w12 := (FY.trans0 e11).trans0 e12
              refine N.seq ?_
              refine G.condB rfl (fun h6 => ?_) (fun h6 => ?_)
              · simp at h6
              · refine G.skip ?_
                refine N.block ?_
                refine N.seq ?_
                refine G.region ?_
                refine L.val rfl rfl (R.add rfl rfl (by omega)) ?_
                refine L.val rfl rfl (R.mv rfl) ?_
                refine L.nil ?_
                exact N.again (k + 1) (by omega) (Sub.cons rfl (Sub.cons rfl (Sub.cons rfl (Sub.cons rfl (Sub.cons rfl (Sub.cons rfl (Sub.cons rfl (Sub.nil _)))))))) ⟨by omega, F.trans0 FX⟩
          · refine Q.pass rfl rfl rfl ?_
            refine Q.pass rfl rfl rfl ?_
            refine Q.pass rfl rfl rfl ?_
            refine Q.pass rfl rfl rfl ?_
            refine Q.pass rfl rfl rfl ?_
            refine Q.pass rfl rfl rfl ?_
            refine Q.pass rfl rfl rfl ?_
            refine Q.pass rfl rfl rfl ?_
            refine Q.pass rfl rfl rfl ?_
            refine Q.pass rfl rfl rfl ?_
            first | refine Q.val rfl rfl rfl rfl (fun w12 hE => R.pickT rfl rfl) ?_ | refine Q.val rfl rfl rfl rfl (fun w12 hE => R.pickF rfl rfl) ?_
            refine Q.nil (fun w10 e10 => ?_)
            replace E := E.trans0 e10
            have F10 := F.trans0 e10
            have FY := e10
            refine N.seq ?_
            refine G.condB rfl (fun h5 => ?_) (fun h5 => ?_)
            · first | cases h5 | (rw [hlt] at h5; cases h5)
            · refine G.skip ?_
              refine N.seq ?_
              refine G.seq ?_
              refine G.region ?_
              refine L.val rfl rfl (R.mv rfl) ?_
              refine L.val rfl rfl (R.mv rfl) ?_
              refine L.val rfl rfl (R.mv rfl) ?_
              refine L.val rfl rfl (R.idx rfl rfl (by omega) (by omega) q hq) ?_
              refine L.val rfl rfl (R.ld rfl (v := .string (str p.1)) (ev_got hcq F10)) ?_
              refine L.callF rfl rfl rfl go40 (getKI_ok m ps2 S2 p.1 _ (D.ext0 F10) (by omega)) ?_
              rintro _ w11 ⟨rfl, e11⟩
              replace E := E.trans0 e11
              refine L.be 79 rfl (show _ = Value.tuple #[.int .i64 (nn : Int), .bool true] by rw [hkk.1, hkk.2, hpv]; rfl) ?_
              refine L.val rfl rfl (R.mv rfl) ?_
              refine L.val rfl rfl (R.ext rfl rfl) ?_
              refine L.val rfl rfl (R.ext rfl rfl) ?_
              refine L.val rfl rfl (R.as rfl) ?_
              refine L.val rfl rfl (R.as rfl) ?_
              refine L.nil ?_
              refine N.seq ?_
              refine G.seq ?_
              refine G.quiet (by decide +kernel) rfl ?_
              refine Q.val rfl rfl rfl rfl (fun w12 hE => R.mv rfl) ?_
              refine Q.val rfl rfl rfl rfl (fun w12 hE => R.not rfl) ?_
              refine Q.val rfl rfl rfl rfl (fun w12 hE => R.mv rfl) ?_
              refine Q.isF 84 rfl (by rfl) ?_
              refine Q.val rfl rfl rfl rfl (fun w12 hE => R.mv rfl) ?_
              refine Q.val rfl rfl rfl rfl (fun w12 hE => R.mv rfl) ?_
              refine Q.val rfl rfl rfl rfl (fun w12 hE => R.idx rfl rfl (by omega) (by omega) q3 hq3) ?_
              refine Q.val rfl rfl rfl rfl (fun w12 hE => R.ld rfl (v := .string (str p.1)) (ev_got hcq3 ((E8.trans0 (F10.trans0 e11)).trans0 hE))) ?_
              refine Q.val rfl rfl rfl rfl (fun w12 hE => R.mv rfl) ?_
              refine Q.val rfl rfl rfl rfl (fun w12 hE => R.mv rfl) ?_
              refine Q.val rfl rfl rfl rfl (fun w12 hE => R.idx rfl rfl (by omega) (by omega) q hq) ?_
              refine Q.val rfl rfl rfl rfl (fun w12 hE => R.ld rfl (v := .string (str p.1)) (ev_got hcq ((F10.trans0 e11).trans0 hE))) ?_
              refine Q.val rfl rfl rfl rfl (fun w12 hE => R.neStr rfl rfl) ?_
              first | refine Q.val rfl rfl rfl rfl (fun w12 hE => R.pickT rfl rfl) ?_ | refine Q.val rfl rfl rfl rfl (fun w12 hE => R.pickF rfl rfl) ?_
              refine Q.nil (fun w12 e12 => ?_)
              replace E := E.trans0 e12
              have FX : Ext [] w9 w12 := (FY.trans0 e11).trans0 e12
              refine N.seq ?_
              refine G.condB rfl (fun h6 => ?_) (fun h6 => ?_)
              · simp at h6
              · refine G.skip ?_
                refine N.block ?_
                refine N.seq ?_
                refine G.region ?_
                refine L.val rfl rfl (R.add rfl rfl (by omega)) ?_
                refine L.val rfl rfl (R.mv rfl) ?_
                refine L.nil ?_
                exact N.again (k + 1) (by omega) (Sub.cons rfl (Sub.cons rfl (Sub.cons rfl (Sub.cons rfl (Sub.cons rfl (Sub.cons rfl (Sub.cons rfl (Sub.nil _)))))))) ⟨by omega, F.trans0 FX⟩
        · refine G.exit _ rfl ?_
          refine N.seq ?_
          refine G.seq ?_
          refine G.seq ?_
          refine G.region ?_
          refine L.val rfl rfl (R.mv rfl) ?_
          refine L.val rfl rfl (R.lenS rfl) ?_
          refine L.val rfl rfl (R.mv rfl) ?_
          refine L.nil ?_
          refine N.seq ?_
          refine G.block ?_
          refine G.loop (X := Nat) (fun s => [(0, .slice la ln lc), (5, .pointer (some ⟨m, 0, none⟩)), (8, .pointer (some ⟨b8, 0, none⟩)), (11, .slice ka ps2.length kc), (96, .slice la ln lc), (97, .int .i64 (ln : Int)), (98, .int .i64 (s : Int))]) (fun s w' => s ≤ ln ∧ Ext [] w8 w') (fun s => ln - s) (0) (Sub.cons rfl (Sub.cons rfl (Sub.cons rfl (Sub.cons rfl (Sub.cons rfl (Sub.cons rfl (Sub.cons rfl (Sub.nil _)))))))) ⟨Nat.zero_le _, F⟩ ?_
          rintro k w9 ⟨hk, F⟩
          replace E := E8.trans0 F
          refine G.sub [(0, .slice la ln lc), (5, .pointer (some ⟨m, 0, none⟩)), (8, .pointer (some ⟨b8, 0, none⟩)), (11, .slice ka ps2.length kc), (96, .slice la ln lc), (97, .int .i64 (ln : Int)), (98, .int .i64 (k : Int))] (Sub.cons rfl (Sub.cons rfl (Sub.cons rfl (Sub.cons rfl (Sub.cons rfl (Sub.cons rfl (Sub.cons rfl (Sub.nil _)))))))) ?_
          refine G.seq ?_
          refine G.region ?_
          refine L.val rfl rfl (R.lss rfl rfl) ?_
          refine L.nil ?_
          refine N.seq ?_
          refine G.seq ?_
          refine G.condP rfl (fun h7 => ?_) (fun h7 => ?_)
          · obtain ⟨s, hs⟩ : ∃ s, l[k]? = some s := ⟨_, List.getElem?_eq_getElem (by omega)⟩
            obtain ⟨q, hq, hcq⟩ := strs_at hL hs
            obtain ⟨p, hp, rfl⟩ := hall k s (by omega) hs
            obtain ⟨nn, hpv, hln⟩ := hin p hp
            have hkk := hasK_mem hsr hp
            obtain ⟨q3, hq3, hcq3⟩ := strs_at hL hln
            have hnl : nn < l.length := (List.getElem?_eq_some_iff.1 hln).1
            refine G.skip ?_
            refine N.seq ?_
            refine G.seq ?_
            refine G.block ?_
            refine G.seq ?_
            refine G.region ?_
            refine L.val rfl rfl (R.idx rfl rfl (by omega) (by omega) q hq) ?_
            refine L.val rfl rfl (R.ld rfl (v := .string (str p.1)) (ev_got hcq (E8.trans0 F))) ?_
            refine L.val rfl rfl (R.as rfl) ?_
            refine L.nil ?_
            refine N.seq ?_
            refine G.seq ?_
            refine G.region ?_
            refine L.val rfl rfl (R.mv rfl) ?_
            refine L.val rfl rfl (R.mv rfl) ?_
            refine L.callF rfl rfl rfl go40 (getKI_ok b8 ps S8 p.1 _ (D8.ext0 F) (by omega)) ?_
            rintro _ w11 ⟨rfl, e11⟩
            replace E := E.trans0 e11
            refine L.be 105 rfl (show _ = Value.tuple #[.int .i64 (nn : Int), .bool true] by rw [hkk.1, hkk.2, hpv]; rfl) ?_
            refine L.val rfl rfl (R.mv rfl) ?_
            refine L.val rfl rfl (R.ext rfl rfl) ?_
            refine L.val rfl rfl (R.ext rfl rfl) ?_
            refine L.val rfl rfl (R.as rfl) ?_
            refine L.val rfl rfl (R.as rfl) ?_
            refine L.nil ?_
            refine N.seq ?_
            refine G.seq ?_
            refine G.region ?_
            refine L.val rfl rfl (R.mv rfl) ?_
            refine L.val rfl rfl (R.not rfl) ?_
            refine L.val rfl rfl (R.mv rfl) ?_
            refine L.isF 110 rfl (by rfl) ?_
            refine L.val rfl rfl (R.mv rfl) ?_
            refine L.val rfl rfl (R.mv rfl) ?_
            refine L.val rfl rfl (R.idx rfl rfl (by omega) (by omega) q3 hq3) ?_
            refine L.val rfl rfl (R.ld rfl (v := .string (str p.1)) (ev_got hcq3 (E8.trans0 (F.trans0 e11)))) ?_
            refine L.val rfl rfl (R.mv rfl) ?_
            refine L.val rfl rfl (R.neStr rfl rfl) ?_
            first | refine L.val rfl rfl (R.pickT rfl rfl) ?_ | refine L.val rfl rfl (R.pickF rfl rfl) ?_
            refine L.nil ?_
            refine N.seq ?_
            refine G.condB rfl (fun h8 => ?_) (fun h8 => ?_)
            · simp at h8
            · refine G.skip ?_
              refine N.block ?_
              refine N.seq ?_
              refine G.region ?_
              refine L.val rfl rfl (R.add rfl rfl (by omega)) ?_
              refine L.val rfl rfl (R.mv rfl) ?_
              refine L.nil ?_
              exact N.again (k + 1) (by omega) (Sub.cons rfl (Sub.cons rfl (Sub.cons rfl (Sub.cons rfl (Sub.cons rfl (Sub.cons rfl (Sub.cons rfl (Sub.nil _)))))))) ⟨by omega, F.trans0 e11⟩
          · refine G.exit _ rfl ?_
            refine N.seq ?_
            refine G.seq ?_
            refine G.region ?_
            refine L.val rfl rfl (R.mv rfl) ?_
            refine L.callF rfl rfl rfl go41 (olenKI_ok m ps2 S2 _ (D.ext0 F) (by omega)) ?_
            rintro _ _ ⟨rfl, hw⟩
            obtain rfl := hw.symm
            refine L.val rfl rfl (R.mv rfl) ?_
            refine L.val rfl rfl (R.lenS rfl) ?_
            refine L.val rfl rfl (R.eqI rfl rfl) ?_
            refine L.val rfl rfl (R.mv rfl) ?_
            refine L.isT 124 rfl (by simp) ?_
            refine L.val rfl rfl (R.mv rfl) ?_
            refine L.callF rfl rfl rfl go41 (olenKI_ok b8 ps S8 _ (D8.ext0 F) (by omega)) ?_
            rintro _ _ ⟨rfl, hw⟩
            obtain rfl := hw.symm
            refine L.val rfl rfl (R.mv rfl) ?_
            refine L.callF rfl rfl rfl go41 (olenKI_ok m ps2 S2 _ (D.ext0 F) (by omega)) ?_
            rintro _ _ ⟨rfl, hw⟩
            obtain rfl := hw.symm
            refine L.val rfl rfl (R.geq rfl rfl) ?_
            refine L.be 129 rfl (show _ = Value.bool true by congr 1; simp; omega) ?_
            first | refine L.val rfl rfl (R.pickT rfl rfl) ?_ | refine L.val rfl rfl (R.pickF rfl rfl) ?_
            refine L.val rfl rfl (R.as rfl) ?_
            refine L.nil ?_
            refine N.seq ?_
            refine G.ret1 rfl rfl ?_
            first
              | exact ⟨rfl, E⟩
              | exact ⟨rfl, E8.trans0 F⟩

end Go.Proofs.Ythpolibakkmmeaa
