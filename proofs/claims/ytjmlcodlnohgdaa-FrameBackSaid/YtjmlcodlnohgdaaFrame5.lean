/-
  The walks of package frame: Spread, Gather.
-/
import Derived.Test.YtjmlcodlnohgdaaFrame3
set_option linter.unusedVariables false
set_option linter.unusedSimpArgs false
namespace Go.Proofs.Ytjmlcodlnohgdaa
open Go Brv Brv.Crc Brv.Pack Brv.Frame
theorem cut_ok (a : Option Addr) (n c x : Nat) (w : World) : Meets Try.prog 70 [.slice a n c, .pointer (some ⟨x, 0, none⟩)] w (fun v w' => ∃ b2 b3, v = .func (.func 109) #[] #[.pointer (some ⟨b2, 0, none⟩), .pointer (some ⟨b3, 0, none⟩)] ∧ Ext [] w w' ∧ Blk w' b2 #[.slice a n c] 28 (0, 0) ∧ Blk w' b3 #[.pointer (some ⟨x, 0, none⟩)] 114 (0, 0) ∧ w.heap.size ≤ b2 ∧ w.heap.size ≤ b3 ∧ b2 < w'.heap.size ∧ b3 < w'.heap.size) := by
  refine Meets.enter Try.func70 rfl 6 rfl (Nat.le_of_ble_eq_true rfl) ?_
  have E := Ext.refl [] w
  refine G.seq ?_
  refine G.region ?_
  refine L.do rfl rfl (R.box rfl) ?_
  rintro _ w1 ⟨b2, rfl, hb2, hs2, e1, B2⟩
  replace E := E.trans0 e1
  refine L.do rfl rfl (R.box rfl) ?_
  rintro _ w2 ⟨b3, rfl, hb3, hs3, e2, B3⟩
  replace E := E.trans0 e2
  replace B2 := B2.ext0 e2
  refine L.val rfl rfl (R.as rfl) ?_
  refine L.nil ?_
  refine N.seq ?_
  refine G.seq ?_
  refine G.region ?_
  refine L.val rfl rfl (R.mkFunc rfl rfl) ?_
  refine L.val rfl rfl (R.as rfl) ?_
  refine L.nil ?_
  refine N.seq ?_
  refine G.ret1 rfl rfl ?_
  exact ⟨b2, b3, rfl, E, B2, B3, by omega, by omega, B2.lt, B3.lt⟩

def secL (l : List UInt8) (i : Nat) : List UInt8 := (l.drop (64 * i)).take 64
theorem secL_length (l : List UInt8) (i : Nat) : (secL l i).length = min 64 (l.length - 64 * i) := by simp [secL]
theorem secL_eq (l : List UInt8) (i : Nat) : (l.drop (64 * i)).take (secL l i).length = secL l i := by
  unfold secL
  rw [List.length_take, List.take_eq_take_iff]
  omega
def secE (sec : Nat → List UInt8) (k : Nat) (vs : List Value) (W : World) : Prop := ∃ a c, vs = [.slice a (sec k).length c] ∧ (sec k).length ≤ c ∧ Bs W a (sec k).length (sec k)
def cutF (a : Option Addr) (b2 b3 : Nat) : List Nat := b2 :: b3 :: (match a with | some p => [p.block] | none => [])
theorem cutF_a {a : Option Addr} {b2 b3 : Nat} {p : Addr} (h : a = some p) : p.block ∈ cutF a b2 b3 := by subst h; simp [cutF]
def ctr (x : Nat) (n0 : Int) (k : Nat) (W : World) : Prop := Blk W x #[.int .i64 (n0 + (k : Int))] 3 (0, 0)

theorem cut1_ok (y : Value) (b2 b3 x : Nat) (a : Option Addr) (n c : Nat) (l : List UInt8) (n0 : Int) (D₀ : List Nat) (J Jx : Nat → List Nat → World → Prop) (w : World) (hB2 : Blk w b2 #[.slice a n c] 28 (0, 0)) (hB3 : Blk w b3 #[.pointer (some ⟨x, 0, none⟩)] 114 (0, 0)) (hX : Blk w x #[.int .i64 n0] 3 (0, 0)) (hb : Bs w a n l) (hc : n ≤ c) (hn : n ≤ 1000000) (hn0 : 0 ≤ n0 ∧ n0 ≤ 1000000) (hne2 : b2 ≠ x) (hne3 : b3 ≠ x) (hax : ∀ p, a = some p → p.block ≠ x) (hD : ∀ g ∈ D₀, g < w.heap.size ∧ g ∉ cutF a b2 b3 ∧ g ∉ [x]) (hJ : ∀ k D W₁ W₂ M', J k D W₁ → Ext M' W₁ W₂ → (∀ g ∈ M', g ∉ D ∧ (g ∈ [x] ∨ w.heap.size ≤ g)) → J k D W₂) (hJx : ∀ k D W₁ W₂ M', Jx k D W₁ → Ext M' W₁ W₂ → (∀ g ∈ M', g ∉ D ∧ (g ∈ [x] ∨ w.heap.size ≤ g)) → Jx k D W₂) (hY : ∀ k D vs W₁, k < ((l.length + 63) / 64) → J k D W₁ → secE (secL l) k vs W₁ → (∀ g ∈ D, g < W₁.heap.size) → YCall Try.prog y vs W₁ fun b W₂ => ∃ D', Ext D W₁ W₂ ∧ (∀ g ∈ D', g < W₂.heap.size ∧ (g ∈ D ∨ W₁.heap.size ≤ g)) ∧ (b = true → J (k + 1) D' W₂) ∧ (b = false → Jx (k + 1) D' W₂)) (h0 : J 0 D₀ w) : Meets Try.prog 109 [y, .pointer (some ⟨b2, 0, none⟩), .pointer (some ⟨b3, 0, none⟩)] w (fun _ W₂ => (∃ D, J ((l.length + 63) / 64) D W₂ ∧ ctr x n0 ((l.length + 63) / 64) W₂) ∨ ∃ k D, k ≤ ((l.length + 63) / 64) ∧ Jx k D W₂ ∧ ctr x n0 k W₂) := by
  refine Meets.enter Try.func109 rfl 30 rfl (Nat.le_of_ble_eq_true rfl) ?_
  have hl := hb.len
  subst hl
  have hb2D : b2 ∉ x :: D₀ := by intro h; rcases List.mem_cons.1 h with rfl | h; exact hne2 rfl; exact (hD _ h).2.1 (by simp [cutF])
  have hb3D : b3 ∉ x :: D₀ := by intro h; rcases List.mem_cons.1 h with rfl | h; exact hne3 rfl; exact (hD _ h).2.1 (by simp [cutF])
  have haD : ∀ p, a = some p → p.block ∉ x :: D₀ := by intro p hp h; rcases List.mem_cons.1 h with h | h; exact hax p hp h; exact (hD _ h).2.1 (cutF_a hp)
  have hxD0 : x ∉ D₀ := fun h => (hD x h).2.2 (by simp)
  have hxl := hX.lt
  have B2 := hB2
  have B3 := hB3
  have hb0 := hb
  refine G.seq ?_
  refine G.region ?_
  refine L.val rfl rfl (R.as rfl) ?_
  refine L.nil ?_
  refine N.seq ?_
  refine G.block ?_
  refine G.loop (X := Nat) (fun i => [(0, y), (1, .pointer (some ⟨b2, 0, none⟩)), (2, .pointer (some ⟨b3, 0, none⟩)), (4, .int .i64 (i : Int))]) (fun i w' => i ≤ ((l.length + 63) / 64) ∧ (∃ D, J i D w' ∧ ∀ g ∈ D, g < w'.heap.size ∧ (g ∈ D₀ ∨ w.heap.size ≤ g)) ∧ Ext (x :: D₀) w w' ∧ ctr x n0 i w') (fun i => ((l.length + 63) / 64) - i) (0) (Sub.cons rfl (Sub.cons rfl (Sub.cons rfl (Sub.cons rfl (Sub.nil _))))) ⟨Nat.zero_le _, ⟨D₀, h0, fun g hg => ⟨(hD g hg).1, .inl hg⟩⟩, Ext.refl _ _, by unfold ctr; simpa using hX⟩ ?_
  rintro i w1 ⟨hi, ⟨D, hJi, hDD⟩, e1, hX1⟩
  have B2 := hB2.ext e1 hb2D
  have B3 := hB3.ext e1 hb3D
  have hb1 := hb0.ext e1 haD
  unfold ctr at hX1
  refine G.seq ?_
  refine G.seq ?_
  refine G.region ?_
  refine L.val rfl rfl (R.mv rfl) ?_
  refine L.val rfl rfl (R.mul rfl rfl (by omega)) ?_
  refine L.val rfl rfl (R.ldB rfl B2 rfl) ?_
  refine L.val rfl rfl (R.lenS rfl) ?_
  refine L.val rfl rfl (R.lss rfl rfl) ?_
  refine L.nil ?_
  refine N.seq ?_
  refine G.condP rfl (fun h0 => ?_) (fun h0 => ?_)
  · have hi2 : i < ((l.length + 63) / 64) := by omega
    have hxD : x ∉ D := fun h => (hDD x h).2.elim hxD0 (by omega)
    have hsl := secL_length l i
    refine G.skip ?_
    refine N.seq ?_
    refine G.seq ?_
    refine G.block ?_
    refine G.seq ?_
    refine G.region ?_
    refine L.val rfl rfl (R.ldB rfl B3 rfl) ?_
    refine L.val rfl rfl (R.nilChk rfl) ?_
    refine L.val rfl rfl (R.ldB rfl hX1 rfl) ?_
    refine L.val rfl rfl (R.add rfl rfl (by omega)) ?_
    refine L.val rfl rfl (R.nilChk rfl) ?_
    refine L.set rfl (R.st rfl rfl hX1 (by show 0 < 1; decide) rfl) ?_
    rintro w2 ⟨e2, hs2, hX1⟩
    replace hX1 : ctr x n0 (i + 1) w2 := by unfold ctr; rw [show n0 + ((i + 1 : Nat) : Int) = n0 + (i : Int) + 1 by omega]; exact hX1
    replace hJi := hJ i D w1 w2 [x] hJi e2 (by intro g hg; rw [List.mem_singleton.1 hg]; exact ⟨hxD, .inl (by simp)⟩)
    replace e1 : Ext (x :: D₀) w w2 := e1.transN e2 (fun g hg => .inl (by simp at hg ⊢; exact .inl hg))
    replace B2 := hB2.ext e1 hb2D
    replace hb1 := hb0.ext e1 haD
    replace hDD : ∀ g ∈ D, g < w2.heap.size ∧ (g ∈ D₀ ∨ w.heap.size ≤ g) := fun g hg => ⟨Nat.lt_of_lt_of_le (hDD g hg).1 e2.size, (hDD g hg).2⟩
    refine L.nil ?_
    refine N.seq ?_
    refine G.seq ?_
    refine G.region ?_
    refine L.val rfl rfl (R.mv rfl) ?_
    refine L.val rfl rfl (R.ldB rfl B2 rfl) ?_
    refine L.val rfl rfl (R.mv rfl) ?_
    refine L.val rfl rfl (R.mul rfl rfl (by omega)) ?_
    refine L.val rfl rfl (R.mv rfl) ?_
    refine L.val rfl rfl (R.mul rfl rfl (by omega)) ?_
    refine L.val rfl rfl (R.add rfl rfl (by omega)) ?_
    refine L.val rfl rfl (R.ldB rfl B2 rfl) ?_
    refine L.val rfl rfl (R.lenS rfl) ?_
    refine L.val rfl rfl (R.min rfl rfl ((64 * i + (secL l i).length : Nat) : Int) (by split <;> omega)) ?_
    refine L.val rfl rfl (R.slLH rfl rfl rfl (by omega) (by omega) (by omega)) ?_
    refine L.be 27 rfl (show _ = Value.slice (subA a (64 * i) c 1) (secL l i).length (c - 64 * i) by rw [show (64 * (i : Int)).toNat = 64 * i by omega, Int.toNat_natCast, Nat.add_sub_cancel_left]) ?_
    have hbs : Bs w2 (subA a (64 * i) c 1) (secL l i).length (secL l i) := by have := hb1.sub (64 * i) c (secL l i).length (by omega) (by omega); rw [secL_eq] at this; exact this
    refine L.ycall rfl rfl rfl rfl (hY i D _ w2 hi2 hJi ⟨_, _, rfl, by omega, hbs⟩ (fun g hg => (hDD g hg).1)) ?_
    rintro bb w3 ⟨D2, eD, hD2, hT, hF⟩
    refine L.val rfl rfl (R.not rfl) ?_
    refine L.nil ?_
    refine N.seq ?_
    refine G.condB rfl (fun h1 => ?_) (fun h1 => ?_)
    · obtain rfl : bb = false := by simpa using h1
      refine G.ret0 rfl ?_
      exact .inr ⟨i + 1, D2, by omega, hF rfl, hX1.ext eD hxD⟩
    · obtain rfl : bb = true := by simpa using h1
      refine G.skip ?_
      refine N.block ?_
      refine N.seq ?_
      refine G.region ?_
      refine L.val rfl rfl (R.mv rfl) ?_
      refine L.val rfl rfl (R.add rfl rfl (by omega)) ?_
      refine L.val rfl rfl (R.as rfl) ?_
      refine L.nil ?_
      exact N.again (i + 1) (by omega) (Sub.cons rfl (Sub.cons rfl (Sub.cons rfl (Sub.cons rfl (Sub.nil _))))) ⟨by omega, ⟨D2, hT rfl, fun g hg => ⟨(hD2 g hg).1, (hD2 g hg).2.elim (fun h => (hDD g h).2) (fun h => .inr (Nat.le_trans e1.size h))⟩⟩, e1.transN eD (fun g hg => (hDD g hg).2.imp (fun h => by simp [h]) id), hX1.ext eD hxD⟩
  · refine G.exit _ rfl ?_
    refine N.end0 rfl ?_
    obtain rfl : i = ((l.length + 63) / 64) := by omega
    exact .inl ⟨D, hJi, hX1⟩

theorem cut_iter (b2 b3 x : Nat) (a : Option Addr) (n c : Nat) (l : List UInt8) (n0 : Int) (w : World) (hB2 : Blk w b2 #[.slice a n c] 28 (0, 0)) (hB3 : Blk w b3 #[.pointer (some ⟨x, 0, none⟩)] 114 (0, 0)) (hX : Blk w x #[.int .i64 n0] 3 (0, 0)) (hb : Bs w a n l) (hc : n ≤ c) (hn : n ≤ 1000000) (hn0 : 0 ≤ n0 ∧ n0 ≤ 1000000) (hne2 : b2 ≠ x) (hne3 : b3 ≠ x) (hax : ∀ p, a = some p → p.block ≠ x) :
    Iter Try.prog 109 [.pointer (some ⟨b2, 0, none⟩), .pointer (some ⟨b3, 0, none⟩)] w ((l.length + 63) / 64) (secE (secL l)) (ctr x n0) (cutF a b2 b3) [x] := by
  intro y D₀ J Jx W hE hD hJ hJx hY h0
  exact cut1_ok y b2 b3 x a n c l n0 D₀ J Jx W (hB2.ext0 hE) (hB3.ext0 hE) (hX.ext0 hE) (hb.ext0 hE) hc hn hn0 hne2 hne3 hax hD (fun k D W₁ W₂ M' h he hm => hJ k D W₁ W₂ M' h he (fun g hg => ⟨(hm g hg).1, (hm g hg).2.imp id (Nat.le_trans hE.size)⟩)) (fun k D W₁ W₂ M' h he hm => hJx k D W₁ W₂ M' h he (fun g hg => ⟨(hm g hg).1, (hm g hg).2.imp id (Nat.le_trans hE.size)⟩)) hY h0
theorem ctr_still (x : Nat) (n0 : Int) (k : Nat) (W W' : World) (h : ctr x n0 k W) (hc : Still W W') : ctr x n0 k W' := Blk.still h hc

end Go.Proofs.Ytjmlcodlnohgdaa
