/-
  The walks of package dev.
-/
import Derived.Test.YthpolibakkmmeaaDev3
import Derived.Test.YthpolibakkmmeaaC14
import Derived.Test.YthpolibakkmmeaaC11
set_option linter.unusedVariables false
set_option linter.unusedSimpArgs false
namespace Go.Proofs.Ythpolibakkmmeaa
open Go Brv Brv.Image Brv.Dev
def chE (l : List UInt8) (k : Nat) (vs : List Value) (W : World) : Prop := ∃ a c, vs = [.slice a 64 c] ∧ 64 ≤ c ∧ Bs W a 64 (blk l k)
def chF (a : Option Addr) (b2 b3 : Nat) : List Nat := b2 :: b3 :: (match a with | some p => [p.block] | none => [])
theorem chF_a {a : Option Addr} {b2 b3 : Nat} {p : Addr} (h : a = some p) : p.block ∈ chF a b2 b3 := by subst h; simp [chF]
theorem chF_mem {a : Option Addr} {b2 b3 y : Nat} (h : y ∈ chF a b2 b3) : y = b2 ∨ y = b3 ∨ ∃ p, a = some p ∧ y = p.block := by
  unfold chF at h
  rcases List.mem_cons.1 h with h | h
  · exact .inl h
  rcases List.mem_cons.1 h with h | h
  · exact .inr (.inl h)
  cases a with
  | none => simp at h
  | some p => exact .inr (.inr ⟨p, rfl, List.mem_singleton.1 h⟩)
theorem chunk_ok (a : Option Addr) (n c : Nat) (w : World) : Meets Try.prog 202 [.slice a n c, .int .i64 64] w (fun v w' => ∃ b2 b3, v = .func (.func 231) #[] #[.pointer (some ⟨b2, 0, none⟩), .pointer (some ⟨b3, 0, none⟩)] ∧ Ext [] w w' ∧ Blk w' b2 #[.slice a n c] 22 (0, 0) ∧ Blk w' b3 #[.int .i64 64] 3 (0, 0) ∧ w.heap.size ≤ b2 ∧ w.heap.size ≤ b3) := by
  refine Meets.enter Try.func202 rfl 9 rfl (Nat.le_of_ble_eq_true rfl) ?_
  have E := Ext.refl [] w
  refine G.seq ?_
  refine G.region ?_
  refine L.do rfl rfl (R.box rfl) ?_
  rintro _ w1 ⟨b2, rfl, hb2, hs2, e1, B2⟩
  replace E := E.trans0 e1
  refine L.do rfl rfl (R.box rfl) ?_
  rintro _ w2 ⟨b3, rfl, hb3, hs3, e2, B3⟩
  replace E := E.trans0 e2
  replace B2 := B2.ext0 e2
  refine L.val rfl rfl (R.as rfl) ?_
  refine L.nil ?_
  refine N.seq ?_
  refine G.seq ?_
  refine G.seq ?_
  refine G.region ?_
  refine L.val rfl rfl (R.ldB rfl B3 rfl) ?_
  refine L.val rfl rfl (R.lss rfl rfl) ?_
  refine L.nil ?_
  refine N.seq ?_
  refine G.condF rfl ?_
  refine G.skip ?_
  refine N.seq ?_
  refine G.seq ?_
  refine G.region ?_
  refine L.val rfl rfl (R.mkFunc rfl rfl) ?_
  refine L.val rfl rfl (R.as rfl) ?_
  refine L.nil ?_
  refine N.seq ?_
  refine G.ret1 rfl rfl ?_
  exact ⟨b2, b3, rfl, E, B2, B3, by omega, by omega⟩

theorem chunk1_ok (y : Value) (b2 b3 : Nat) (a : Option Addr) (n c : Nat) (l : List UInt8) (D₀ : List Nat) (J Jx : Nat → List Nat → World → Prop) (w : World) (hB2 : Blk w b2 #[.slice a n c] 22 (0, 0)) (hB3 : Blk w b3 #[.int .i64 64] 3 (0, 0)) (hb : Bs w a n l) (hc : n ≤ c) (hn : n ≤ 1000000) (hm : l.length = 64 * dn l) (hD : ∀ g ∈ D₀, g < w.heap.size ∧ g ∉ chF (effA a l) b2 b3 ∧ g ∉ ([] : List Nat)) (hJ : ∀ k D W₁ W₂ M', J k D W₁ → Ext M' W₁ W₂ → (∀ g ∈ M', g ∉ D ∧ (g ∈ ([] : List Nat) ∨ w.heap.size ≤ g)) → J k D W₂) (hJx : ∀ k D W₁ W₂ M', Jx k D W₁ → Ext M' W₁ W₂ → (∀ g ∈ M', g ∉ D ∧ (g ∈ ([] : List Nat) ∨ w.heap.size ≤ g)) → Jx k D W₂) (hY : ∀ k D vs W₁, k < dn l → J k D W₁ → chE l k vs W₁ → (∀ g ∈ D, g < W₁.heap.size) → YCall Try.prog y vs W₁ fun b W₂ => ∃ D', Ext D W₁ W₂ ∧ (∀ g ∈ D', g < W₂.heap.size ∧ (g ∈ D ∨ W₁.heap.size ≤ g)) ∧ (b = true → J (k + 1) D' W₂) ∧ (b = false → Jx (k + 1) D' W₂)) (h0 : J 0 D₀ w) : Meets Try.prog 231 [y, .pointer (some ⟨b2, 0, none⟩), .pointer (some ⟨b3, 0, none⟩)] w (fun _ W₂ => (∃ D, J (dn l) D W₂ ∧ True) ∨ ∃ k D, k ≤ dn l ∧ Jx k D W₂ ∧ True) := by
  refine Meets.enter Try.func231 rfl 31 rfl (Nat.le_of_ble_eq_true rfl) ?_
  have hl := hb.len
  have hb2D : b2 ∉ D₀ := fun h => (hD _ h).2.1 (by simp [chF])
  have hb3D : b3 ∉ D₀ := fun h => (hD _ h).2.1 (by simp [chF])
  have haD : ∀ p, effA a l = some p → p.block ∉ D₀ := fun p hp h => (hD _ h).2.1 (chF_a hp)
  refine G.seq ?_
  refine G.region ?_
  refine L.val rfl rfl (R.as rfl) ?_
  refine L.nil ?_
  refine N.seq ?_
  refine G.block ?_
  refine G.loop (X := Nat) (fun i => [(0, y), (1, .pointer (some ⟨b2, 0, none⟩)), (2, .pointer (some ⟨b3, 0, none⟩)), (4, .int .i64 ((64 * i : Nat) : Int))]) (fun i w' => i ≤ dn l ∧ (∃ D, J i D w' ∧ ∀ g ∈ D, g < w'.heap.size ∧ (g ∈ D₀ ∨ w.heap.size ≤ g)) ∧ Ext D₀ w w') (fun i => dn l - i) (0) (Sub.cons rfl (Sub.cons rfl (Sub.cons rfl (Sub.cons rfl (Sub.nil _))))) ⟨Nat.zero_le _, ⟨D₀, h0, fun g hg => ⟨(hD g hg).1, .inl hg⟩⟩, Ext.refl _ _⟩ ?_
  rintro i w1 ⟨hi, ⟨D, hJi, hDD⟩, e1⟩
  have B2 := hB2.ext e1 hb2D
  have B3 := hB3.ext e1 hb3D
  have hb1 := hb.extE e1 haD
  refine G.seq ?_
  refine G.seq ?_
  refine G.region ?_
  refine L.val rfl rfl (R.mv rfl) ?_
  refine L.val rfl rfl (R.ldB rfl B2 rfl) ?_
  refine L.val rfl rfl (R.lenS rfl) ?_
  refine L.val rfl rfl (R.lss rfl rfl) ?_
  refine L.nil ?_
  refine N.seq ?_
  refine G.condP rfl (fun h0 => ?_) (fun h0 => ?_)
  · have hil : i < dn l := by omega
    have hbs := hb1.sub (64 * i) (64 * i + 64) 64 (by omega) (by omega)
    rw [show (l.drop (64 * i)).take 64 = blk l i from rfl] at hbs
    refine G.skip ?_
    refine N.seq ?_
    refine G.seq ?_
    refine G.block ?_
    refine G.seq ?_
    refine G.quiet (by decide +kernel) rfl ?_
    refine Q.val rfl rfl rfl rfl (fun w2 hE => R.ldB rfl (B3.ext0 hE) rfl) ?_
    refine Q.val rfl rfl rfl rfl (fun w2 hE => R.ldB rfl (B2.ext0 hE) rfl) ?_
    refine Q.val rfl rfl rfl rfl (fun w2 hE => R.mv rfl) ?_
    refine Q.val rfl rfl rfl rfl (fun w2 hE => R.slL rfl rfl (by omega) (by omega)) ?_
    refine Q.val rfl rfl rfl rfl (fun w2 hE => R.lenS rfl) ?_
    refine Q.val rfl rfl rfl rfl (fun w2 hE => R.min rfl rfl 64 (by split <;> omega)) ?_
    refine Q.val rfl rfl rfl rfl (fun w2 hE => R.as rfl) ?_
    refine Q.nil (fun w2 e2 => ?_)
    replace hJi := hJ i D _ _ [] hJi e2 (by simp)
    replace hDD := fun g hg => And.intro (Nat.lt_of_lt_of_le (hDD g hg).1 e2.size) (hDD g hg).2
    replace e1 := e1.trans0 e2
    replace B2 := B2.ext0 e2
    replace hbs := hbs.ext0 e2
    refine N.seq ?_
    refine G.seq ?_
    refine G.region ?_
    refine L.val rfl rfl (R.mv rfl) ?_
    refine L.val rfl rfl (R.ldB rfl B2 rfl) ?_
    refine L.val rfl rfl (R.mv rfl) ?_
    refine L.val rfl rfl (R.mv rfl) ?_
    refine L.val rfl rfl (R.mv rfl) ?_
    refine L.val rfl rfl (R.add rfl rfl (by omega)) ?_
    refine L.val rfl rfl (R.mv rfl) ?_
    refine L.val rfl rfl (R.mv rfl) ?_
    refine L.val rfl rfl (R.add rfl rfl (by omega)) ?_
    refine L.val rfl rfl (R.slLHM rfl rfl rfl rfl (by omega) (by omega) (by omega) (by omega)) ?_
    refine L.be 28 rfl (show _ = Value.slice (subA a (64 * i) (64 * i + 64) 1) 64 64 by rw [show (((64 * i : Nat) : Int)).toNat = 64 * i by omega, show (((64 * i : Nat) : Int) + 64).toNat = 64 * i + 64 by omega, Nat.add_sub_cancel_left]) ?_
    refine L.ycall rfl rfl rfl rfl (hY i D _ _ hil hJi ⟨_, _, rfl, Nat.le_refl _, hbs⟩ (fun g hg => (hDD g hg).1)) ?_
    rintro bb w3 ⟨D2, eD, hD2, hT, hF⟩
    refine L.val rfl rfl (R.not rfl) ?_
    refine L.nil ?_
    refine N.seq ?_
    refine G.condB rfl (fun h1 => ?_) (fun h1 => ?_)
    · obtain rfl : bb = false := by simpa using h1
      refine G.ret0 rfl ?_
      exact .inr ⟨i + 1, D2, by omega, hF rfl, trivial⟩
    · obtain rfl : bb = true := by simpa using h1
      refine G.skip ?_
      refine N.block ?_
      refine N.seq ?_
      refine G.region ?_
      refine L.val rfl rfl (R.mv rfl) ?_
      first | refine L.val rfl rfl (R.ldB rfl (hB3.ext (e1.transN eD (fun g hg => (hDD g hg).2)) hb3D) rfl) ?_ | refine L.val rfl rfl (R.ldB rfl B3 rfl) ?_
      refine L.val rfl rfl (R.add rfl rfl (by omega)) ?_
      refine L.be 12 rfl (show _ = Value.int .i64 ((64 * (i + 1) : Nat) : Int) by congr 1) ?_
      refine L.val rfl rfl (R.as rfl) ?_
      refine L.nil ?_
      exact N.again (i + 1) (by omega) (Sub.cons rfl (Sub.cons rfl (Sub.cons rfl (Sub.cons rfl (Sub.nil _))))) ⟨by omega, ⟨D2, hT rfl, fun g hg => ⟨(hD2 g hg).1, (hD2 g hg).2.elim (fun h => (hDD g h).2) (fun h => .inr (Nat.le_trans e1.size h))⟩⟩, e1.transN eD (fun g hg => (hDD g hg).2)⟩
  · refine G.exit _ rfl ?_
    refine N.end0 rfl ?_
    obtain rfl : i = dn l := by omega
    exact .inl ⟨D, hJi, trivial⟩

theorem chunk_iter (b2 b3 : Nat) (a : Option Addr) (n c : Nat) (l : List UInt8) (w : World) (hB2 : Blk w b2 #[.slice a n c] 22 (0, 0)) (hB3 : Blk w b3 #[.int .i64 64] 3 (0, 0)) (hb : Bs w a n l) (hc : n ≤ c) (hn : n ≤ 1000000) (hm : l.length = 64 * dn l) :
    Iter Try.prog 231 [.pointer (some ⟨b2, 0, none⟩), .pointer (some ⟨b3, 0, none⟩)] w (dn l) (chE l) (fun _ _ => True) (chF (effA a l) b2 b3) [] := by
  intro y D₀ J Jx W hE hD hJ hJx hY h0
  exact chunk1_ok y b2 b3 a n c l D₀ J Jx W (hB2.ext0 hE) (hB3.ext0 hE) (hb.ext0 hE) hc hn hm hD (fun k D W₁ W₂ M' h he hm => hJ k D W₁ W₂ M' h he (fun g hg => ⟨(hm g hg).1, (hm g hg).2.imp id (Nat.le_trans hE.size)⟩)) (fun k D W₁ W₂ M' h he hm => hJx k D W₁ W₂ M' h he (fun g hg => ⟨(hm g hg).1, (hm g hg).2.imp id (Nat.le_trans hE.size)⟩)) hY h0

end Go.Proofs.Ythpolibakkmmeaa
