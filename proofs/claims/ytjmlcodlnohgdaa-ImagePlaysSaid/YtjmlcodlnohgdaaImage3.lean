/-
  The walks of package image.
-/
import Derived.Test.YtjmlcodlnohgdaaImage1
import Derived.Test.YtjmlcodlnohgdaaC11
set_option linter.unusedVariables false
set_option linter.unusedSimpArgs false
namespace Go.Proofs.Ytjmlcodlnohgdaa
open Go Brv Brv.Image
/-- What the iterator over the disk reads. -/
def fpIs (w : World) (F : List Nat) (b1 : Nat) (d : Option Addr) (x : List UInt8) : Prop := (∀ g ∈ F, g < w.heap.size) ∧ ∀ M w', Ext M w w' → (∀ g ∈ F, g ∉ M) → Blk w' b1 #[.pointer d] 24 (0, 0) ∧ DiskO w' d x
theorem fp_of {w w0 : World} {b1 : Nat} {d : Option Addr} {x : List UInt8} (h1 : Blk w b1 #[.pointer d] 24 (0, 0)) (h2 : DiskO w0 d x) (he0 : Ext [] w0 w) : ∃ F, fpIs w F b1 d x ∧ ∀ y ∈ F, y = b1 ∨ y < w0.heap.size := by
  rcases h2 with ⟨rfl, rfl⟩ | ⟨b, rfl, g, c, cur, ps, D0⟩
  · exact ⟨[b1], ⟨fun y hy => by rw [List.mem_singleton.1 hy]; exact h1.lt, fun M w' he hm => ⟨h1.ext he (hm b1 (by simp)), .no⟩⟩, fun y hy => .inl (List.mem_singleton.1 hy)⟩
  · have D := D0.ext0 he0
    exact ⟨b1 :: b :: g :: ps, ⟨fun y hy => by
      rcases List.mem_cons.1 hy with rfl | hy
      · exact h1.lt
      · exact D.lt y hy, fun M w' he hm => ⟨h1.ext he (hm b1 (by simp)), .inr ⟨b, rfl, g, c, cur, ps, D.ext he (fun y hy => hm y (List.mem_cons_of_mem _ hy))⟩⟩⟩, fun y hy => (List.mem_cons.1 hy).imp id (D0.lt y)⟩
theorem fpIs.ext0 {w w' : World} {F : List Nat} {b1 : Nat} {d : Option Addr} {x : List UInt8} (h : fpIs w F b1 d x) (he : Ext [] w w') : fpIs w' F b1 d x :=
  ⟨fun g hg => Nat.lt_of_lt_of_le (h.1 g hg) he.size, fun M w2 e hm => by
    have e2 : Ext (M.filter (fun g => decide (g < w.heap.size))) w w2 := by
      refine he.trans e (by simp) (fun g hg => ?_)
      by_cases hl : g < w.heap.size
      · exact .inl (List.mem_filter.2 ⟨hg, by simpa using hl⟩)
      · exact .inr (by omega)
    exact h.2 _ w2 e2 (fun g hg hmem => hm g hg (List.mem_filter.1 hmem).1)⟩
def blkE (x : List UInt8) (k : Nat) (vs : List Value) (W : World) : Prop := ∃ a c, vs = [.int .i64 (k : Int), .slice a (blk x k).length c] ∧ (blk x k).length ≤ c ∧ Bs W a (blk x k).length (blk x k)

theorem iall_ok (d : Option Addr) (w : World) : Meets Try.prog 29 [.pointer d] w (fun v w' => ∃ b1, v = .func (.func 75) #[] #[.pointer (some ⟨b1, 0, none⟩)] ∧ Ext [] w w' ∧ Blk w' b1 #[.pointer d] 24 (0, 0) ∧ w.heap.size ≤ b1) := by
  refine Meets.enter Try.func29 rfl 4 rfl (Nat.le_of_ble_eq_true rfl) ?_
  have E := Ext.refl [] w
  refine G.seq ?_
  refine G.region ?_
  refine L.do rfl rfl (R.box rfl) ?_
  rintro _ w1 ⟨b1, rfl, hb1, hs1, e1, B1⟩
  replace E := E.trans0 e1
  refine L.val rfl rfl (R.as rfl) ?_
  refine L.nil ?_
  refine N.seq ?_
  refine G.seq ?_
  refine G.region ?_
  refine L.val rfl rfl (R.mkFunc rfl rfl) ?_
  refine L.val rfl rfl (R.as rfl) ?_
  refine L.nil ?_
  refine N.seq ?_
  refine G.ret1 rfl rfl ?_
  exact ⟨b1, rfl, E, B1, by omega⟩

theorem iall1_ok (y : Value) (b1 : Nat) (d : Option Addr) (x : List UInt8) (F : List Nat) (D₀ : List Nat) (J Jx : Nat → List Nat → World → Prop) (w : World) (hF : fpIs w F b1 d x) (hD : ∀ g ∈ D₀, g < w.heap.size ∧ g ∉ F ∧ g ∉ ([] : List Nat)) (hJ : ∀ k D W₁ W₂ M', J k D W₁ → Ext M' W₁ W₂ → (∀ g ∈ M', g ∉ D ∧ (g ∈ ([] : List Nat) ∨ w.heap.size ≤ g)) → J k D W₂) (hJx : ∀ k D W₁ W₂ M', Jx k D W₁ → Ext M' W₁ W₂ → (∀ g ∈ M', g ∉ D ∧ (g ∈ ([] : List Nat) ∨ w.heap.size ≤ g)) → Jx k D W₂) (hY : ∀ k D vs W₁, k < dn x → J k D W₁ → blkE x k vs W₁ → (∀ g ∈ D, g < W₁.heap.size) → YCall Try.prog y vs W₁ fun b W₂ => ∃ D', Ext D W₁ W₂ ∧ (∀ g ∈ D', g < W₂.heap.size ∧ (g ∈ D ∨ W₁.heap.size ≤ g)) ∧ (b = true → J (k + 1) D' W₂) ∧ (b = false → Jx (k + 1) D' W₂)) (h0 : J 0 D₀ w) : Meets Try.prog 75 [y, .pointer (some ⟨b1, 0, none⟩)] w (fun _ W₂ => (∃ D, J (dn x) D W₂ ∧ True) ∨ ∃ k D, k ≤ dn x ∧ Jx k D W₂ ∧ True) := by
  refine Meets.enter Try.func75 rfl 24 rfl (Nat.le_of_ble_eq_true rfl) ?_
  obtain ⟨B1, hd⟩ := hF.2 [] w (Ext.refl _ _) (by simp)
  have hFD : ∀ g ∈ F, g ∉ D₀ := fun g hg h => (hD g h).2.1 hg
  have hx0 := hd.len
  refine G.seq ?_
  refine G.region ?_
  refine L.val rfl rfl (R.ldB rfl B1 rfl) ?_
  refine L.callF rfl rfl rfl go20 (iblocks_ok d x _ hd) ?_
  rintro _ _ ⟨rfl, hw⟩
  obtain rfl := hw.symm
  refine L.val rfl rfl (R.mv rfl) ?_
  refine L.nil ?_
  refine N.seq ?_
  refine G.block ?_
  refine G.loop (X := Nat) (fun i => [(0, y), (1, .pointer (some ⟨b1, 0, none⟩)), (5, .int .i64 (dn x : Int)), (6, .int .i64 (i : Int))]) (fun i w' => i ≤ dn x ∧ (∃ D, J i D w' ∧ ∀ g ∈ D, g < w'.heap.size ∧ (g ∈ D₀ ∨ w.heap.size ≤ g)) ∧ Ext D₀ w w') (fun i => dn x - i) (0) (Sub.cons rfl (Sub.cons rfl (Sub.cons rfl (Sub.cons rfl (Sub.nil _))))) ⟨Nat.zero_le _, ⟨D₀, h0, fun g hg => ⟨(hD g hg).1, .inl hg⟩⟩, Ext.refl _ _⟩ ?_
  rintro i w1 ⟨hi, ⟨D, hJi, hDD⟩, e1⟩
  obtain ⟨B1, hd⟩ := hF.2 _ _ e1 hFD
  refine G.seq ?_
  refine G.region ?_
  refine L.val rfl rfl (R.lss rfl rfl) ?_
  refine L.nil ?_
  refine N.seq ?_
  refine G.seq ?_
  refine G.condP rfl (fun h0 => ?_) (fun h0 => ?_)
  · have hix : i < dn x := by omega
    obtain ⟨db, rfl, g1, k1, cur1, ps1, D1⟩ := hd.pos (by omega)
    obtain ⟨z1, hz1, Z1⟩ := D1.ptr hix
    have hs1 := blk_length hix
    have hbs := Bs.of_blk Z1 (blk x i) (by simp) 64 hs1.symm
    refine G.skip ?_
    refine N.seq ?_
    refine G.seq ?_
    refine G.block ?_
    refine G.seq ?_
    refine G.region ?_
    refine L.val rfl rfl (R.mv rfl) ?_
    refine L.val rfl rfl (R.as rfl) ?_
    refine L.nil ?_
    refine N.seq ?_
    refine G.seq ?_
    refine G.region ?_
    refine L.val rfl rfl (R.mv rfl) ?_
    refine L.val rfl rfl (R.mv rfl) ?_
    refine L.val rfl rfl (R.ldB rfl B1 rfl) ?_
    refine L.val rfl rfl (R.nilChk rfl) ?_
    refine L.val rfl rfl (R.fld rfl) ?_
    refine L.val rfl rfl (R.ldB rfl D1.hd rfl) ?_
    refine L.val rfl rfl (R.mv rfl) ?_
    refine L.val rfl rfl (R.idx rfl rfl (by omega) (by omega) _ rfl) ?_
    refine L.val rfl rfl (R.ld rfl (v := ptr z1) (by rw [Go.Addr.add_lit]; simpa using (D1.hg.cell i).trans hz1)) ?_
    refine L.val rfl rfl (R.nilChk rfl) ?_
    refine L.val rfl rfl (R.slA rfl) ?_
    refine L.callF rfl rfl rfl go73 (bclone_ok _ _ _ _ _ hbs (by decide)) ?_
    rintro _ w2 ⟨a1, c1, M1, rfl, e2, o1, hM1⟩
    have hbo := Bs.of_own o1
    have hle := o1.le
    rw [← hs1] at hbo hle ⊢
    replace hJi := hJ i D w1 w2 [] hJi e2 (by simp)
    replace e1 : Ext D₀ w w2 := e1.trans0 e2
    replace hDD : ∀ g ∈ D, g < w2.heap.size ∧ (g ∈ D₀ ∨ w.heap.size ≤ g) := fun g hg => ⟨Nat.lt_of_lt_of_le (hDD g hg).1 e2.size, (hDD g hg).2⟩
    refine L.ycall rfl rfl rfl rfl (hY i D _ w2 hix hJi ⟨_, _, rfl, hle, hbo⟩ (fun g hg => (hDD g hg).1)) ?_
    rintro bb w3 ⟨D2, eD, hD2, hT, hFl⟩
    refine L.val rfl rfl (R.not rfl) ?_
    refine L.nil ?_
    refine N.seq ?_
    refine G.condB rfl (fun h1 => ?_) (fun h1 => ?_)
    · obtain rfl : bb = false := by simpa using h1
      refine G.ret0 rfl ?_
      exact .inr ⟨i + 1, D2, by omega, hFl rfl, trivial⟩
    · obtain rfl : bb = true := by simpa using h1
      refine G.skip ?_
      refine N.block ?_
      refine N.seq ?_
      refine G.region ?_
      refine L.val rfl rfl (R.add rfl rfl (by omega)) ?_
      refine L.val rfl rfl (R.mv rfl) ?_
      refine L.nil ?_
      exact N.again (i + 1) (by omega) (Sub.cons rfl (Sub.cons rfl (Sub.cons rfl (Sub.cons rfl (Sub.nil _))))) ⟨by omega, ⟨D2, hT rfl, fun g hg => ⟨(hD2 g hg).1, (hD2 g hg).2.elim (fun h => (hDD g h).2) (fun h => .inr (Nat.le_trans e1.size h))⟩⟩, e1.transN eD (fun g hg => (hDD g hg).2.imp id id)⟩
  · refine G.exit _ rfl ?_
    refine N.end0 rfl ?_
    obtain rfl : i = dn x := by omega
    exact .inl ⟨D, hJi, trivial⟩

theorem iall_iter (b1 : Nat) (d : Option Addr) (x : List UInt8) (F : List Nat) (w : World) (hF : fpIs w F b1 d x) : Iter Try.prog 75 [.pointer (some ⟨b1, 0, none⟩)] w (dn x) (blkE x) (fun _ _ => True) F [] := by
  intro y D₀ J Jx W hE hD hJ hJx hY h0
  exact iall1_ok y b1 d x F D₀ J Jx W (hF.ext0 hE) hD (fun k D W₁ W₂ M' h he hm => hJ k D W₁ W₂ M' h he (fun g hg => ⟨(hm g hg).1, (hm g hg).2.imp id (Nat.le_trans hE.size)⟩)) (fun k D W₁ W₂ M' h he hm => hJx k D W₁ W₂ M' h he (fun g hg => ⟨(hm g hg).1, (hm g hg).2.imp id (Nat.le_trans hE.size)⟩)) hY h0

end Go.Proofs.Ytjmlcodlnohgdaa
