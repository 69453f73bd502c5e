/-
  Texts of this claim, put together.
-/
import Derived.Test.YteaihincmfbblaaPatCLz2
/-
  The walks of package image.
-/
set_option linter.unusedVariables false
set_option linter.unusedSimpArgs false
namespace Go.Proofs.Yteaihincmfbblaa
open Go Brv Brv.Image
/-- The blocks of a disk. -/
structure Blks (w : World) (ps : List Nat) (x : List UInt8) : Prop where
  len : ps.length = dn x
  each : ∀ k (h : k < ps.length), Blk w ps[k] (vbs (blk x k)).toArray 102 (0, 0)
theorem Blks.ext0 {w w' : World} {ps : List Nat} {x : List UInt8} (h : Blks w ps x) (he : Ext [] w w') : Blks w' ps x := ⟨h.len, fun k hk => (h.each k hk).ext0 he⟩
theorem Blks.ext {w w' : World} {ps : List Nat} {x : List UInt8} {M : List Nat} (h : Blks w ps x) (he : Ext M w w') (hM : ∀ g ∈ M, ∃ cs, Blk w g cs 98 (0, 0)) : Blks w' ps x :=
  ⟨h.len, fun k hk => (h.each k hk).ext he (fun hm => let ⟨_, hb⟩ := hM _ hm; (h.each k hk).ne hb (by decide) rfl)⟩
structure DiskL (w : World) (d g c : Nat) (cur : Array Value) (ps : List Nat) (x : List UInt8) : Prop where
  hd : Blk w d #[.slice (some ⟨g, 0, none⟩) (dn x) c] 84 (0, 0)
  len : x.length = 64 * dn x
  pos : 1 ≤ dn x
  le : dn x ≤ 64
  hg : Blk w g cur 98 (0, 0)
  ht : cur.toList.take (dn x) = ps.map ptr
  hb : Blks w ps x
theorem DiskL.ext {w w' : World} {d g c : Nat} {cur : Array Value} {ps : List Nat} {x : List UInt8} {M : List Nat} (h : DiskL w d g c cur ps x) (he : Ext M w w') (hM : ∀ y ∈ d :: g :: ps, y ∉ M) : DiskL w' d g c cur ps x :=
  ⟨h.hd.ext he (hM d (by simp)), h.len, h.pos, h.le, h.hg.ext he (hM g (by simp)), h.ht, h.hb.len, fun k hk => (h.hb.each k hk).ext he (hM _ (by simp [List.getElem_mem]))⟩
theorem DiskL.ext0 {w w' : World} {d g c : Nat} {cur : Array Value} {ps : List Nat} {x : List UInt8} (h : DiskL w d g c cur ps x) (he : Ext [] w w') : DiskL w' d g c cur ps x := h.ext he (by simp)
theorem DiskL.lt {w : World} {d g c : Nat} {cur : Array Value} {ps : List Nat} {x : List UInt8} (h : DiskL w d g c cur ps x) : ∀ y ∈ d :: g :: ps, y < w.heap.size := by
  intro y hy
  rcases List.mem_cons.1 hy with rfl | hy
  · exact h.hd.lt
  rcases List.mem_cons.1 hy with rfl | hy
  · exact h.hg.lt
  obtain ⟨k, hk, rfl⟩ := List.mem_iff_getElem.1 hy
  exact (h.hb.each k hk).lt
theorem DiskL.ptr {w : World} {d g c : Nat} {cur : Array Value} {ps : List Nat} {x : List UInt8} (h : DiskL w d g c cur ps x) {k : Nat} (hk : k < dn x) : ∃ z, cur[k]? = some (Brv.ptr z) ∧ Blk w z (vbs (blk x k)).toArray 102 (0, 0) := by
  have hl := h.hb.len
  refine ⟨ps[k]'(by omega), ?_, h.hb.each k (by omega)⟩
  have e := congrArg (fun l : List Value => l[k]?) h.ht
  simp only [List.getElem?_take, if_pos hk, List.getElem?_map, Array.getElem?_toList] at e
  rw [e, List.getElem?_eq_getElem (show k < ps.length by omega)]
  rfl
theorem DiskL.cells {w : World} {d g c : Nat} {cur : Array Value} {ps : List Nat} {x : List UInt8} (h : DiskL w d g c cur ps x) : Cells w (some ⟨g, 0, none⟩) (ps.map Brv.ptr) :=
  Cells.of_blk h.hg 0 _ (fun j v hj => by
    rw [← h.ht, List.getElem?_take] at hj
    split at hj
    · simpa using hj
    · cases hj)
def DiskAt (w : World) (d : Nat) (x : List UInt8) : Prop := ∃ g c cur ps, DiskL w d g c cur ps x
theorem DiskAt.ext0 {w w' : World} {d : Nat} {x : List UInt8} (h : DiskAt w d x) (he : Ext [] w w') : DiskAt w' d x := by
  obtain ⟨g, c, cur, ps, h⟩ := h
  exact ⟨g, c, cur, ps, h.ext0 he⟩
/-- A new disk, that is written yet. -/
def OwnDisk (w : World) (s d : Nat) (x : List UInt8) : Prop := ∃ a c ps M, Blk w d #[.slice a (dn x) c] 84 (0, 0) ∧ s ≤ d ∧ x.length = 64 * dn x ∧ 1 ≤ dn x ∧ dn x ≤ 64 ∧ Own w 98 1 a (dn x) c (ps.map ptr) M ∧ (∀ g ∈ M, s ≤ g) ∧ Blks w ps x
theorem OwnDisk.at {w : World} {s d : Nat} {x : List UInt8} (h : OwnDisk w s d x) : DiskAt w d x := by
  obtain ⟨a, c, ps, M, h1, _, h2, h3, h4, ho, _, h5⟩ := h
  rcases ho.2 with ⟨_, h0, _, _⟩ | ⟨g, cur, rfl, _, hb, _, _, _, ht⟩
  · omega
  · rw [Nat.mul_one] at ht
    exact ⟨g, c, cur, ps, h1, h2, h3, h4, hb, ht, h5⟩
/-- A disk, or none. -/
def DiskO (w : World) (d : Option Addr) (x : List UInt8) : Prop := (d = none ∧ x = []) ∨ ∃ b, d = some ⟨b, 0, none⟩ ∧ DiskAt w b x
theorem DiskO.ext0 {w w' : World} {d : Option Addr} {x : List UInt8} (h : DiskO w d x) (he : Ext [] w w') : DiskO w' d x := h.imp id (fun ⟨b, h1, h2⟩ => ⟨b, h1, h2.ext0 he⟩)
theorem DiskAt.len {w : World} {b : Nat} {x : List UInt8} (h : DiskAt w b x) : x.length = 64 * dn x ∧ dn x ≤ 64 ∧ 1 ≤ dn x := by
  obtain ⟨g, c, cur, ps, h⟩ := h
  exact ⟨h.len, h.le, h.pos⟩
theorem DiskO.len {w : World} {d : Option Addr} {x : List UInt8} (h : DiskO w d x) : x.length = 64 * dn x ∧ dn x ≤ 64 := by
  rcases h with ⟨_, rfl⟩ | ⟨b, _, h⟩
  · exact ⟨rfl, by decide⟩
  · exact ⟨h.len.1, h.len.2.1⟩
theorem DiskO.no {w : World} : DiskO w Option.none [] := .inl ⟨rfl, rfl⟩
theorem DiskAt.o {w : World} {d : Nat} {x : List UInt8} (h : DiskAt w d x) : DiskO w (some ⟨d, 0, Option.none⟩) x := .inr ⟨d, rfl, h⟩
theorem DiskO.nil {w : World} {x : List UInt8} (h : DiskO w Option.none x) : x = [] := by
  rcases h with ⟨_, h⟩ | ⟨b, h, _⟩
  · exact h
  · cases h
theorem DiskO.got {w : World} {d : Option Addr} {x : List UInt8} (h : DiskO w d x) (hd : d.isNone = false) : ∃ b, d = some ⟨b, 0, Option.none⟩ ∧ DiskAt w b x := by
  rcases h with ⟨rfl, _⟩ | h
  · cases hd
  · exact h
theorem DiskO.pos {w : World} {d : Option Addr} {x : List UInt8} (h : DiskO w d x) (hd : 0 < dn x) : ∃ b, d = some ⟨b, 0, Option.none⟩ ∧ DiskAt w b x := by
  rcases h with ⟨_, rfl⟩ | h
  · exact absurd hd (by decide)
  · exact h

theorem izero_ok  (w : World) : Meets Try.prog 44 [] w (fun v w' => ∃ z, v = ptr z ∧ w.heap.size ≤ z ∧ Ext [] w w' ∧ Blk w' z (vbs (List.replicate 64 (0 : UInt8))).toArray 102 (0, 0)) := by
  refine Meets.enter Try.func44 rfl 2 rfl (Nat.le_of_ble_eq_true rfl) ?_
  refine G.seq ?_
  refine G.region ?_
  refine L.val rfl rfl (R.as rfl) ?_
  refine L.nil ?_
  refine N.seq ?_
  refine G.seq ?_
  refine G.region ?_
  refine L.do rfl rfl (R.alloc) ?_
  rintro _ w1 ⟨z, rfl, hz, hs1, e1, Z⟩
  refine L.val rfl rfl (R.as rfl) ?_
  refine L.nil ?_
  refine N.seq ?_
  refine G.ret1 rfl rfl ?_
  exact ⟨z, rfl, by omega, e1, Z⟩

theorem inew_ok (n : Nat) (w : World) (h1 : 1 ≤ n) (h2 : n ≤ 64) : Meets Try.prog 20 [.int .i64 (n : Int)] w (fun v w' => ∃ d, v = .tuple #[ptr d, .int .i64 0] ∧ Ext [] w w' ∧ OwnDisk w' w.heap.size d (List.replicate (64 * n) 0)) := by
  refine Meets.enter Try.func20 rfl 16 rfl (Nat.le_of_ble_eq_true rfl) ?_
  have E := Ext.refl [] w
  refine G.seq ?_
  refine G.region ?_
  refine L.val rfl rfl (R.as rfl) ?_
  refine L.val rfl rfl (R.as rfl) ?_
  refine L.nil ?_
  refine N.seq ?_
  refine G.seq ?_
  refine G.seq ?_
  refine G.region ?_
  refine L.val rfl rfl (R.mv rfl) ?_
  refine L.val rfl rfl (R.lss rfl rfl) ?_
  refine L.val rfl rfl (R.mv rfl) ?_
  refine L.caseP 6 rfl (fun hg1_2 => ?_) (fun hg1_2 => ?_)
  · exfalso; omega
  · refine L.val rfl rfl (R.mv rfl) ?_
    refine L.val rfl rfl (R.gtr rfl rfl) ?_
    first | refine L.val rfl rfl (R.pickT rfl rfl) ?_ | refine L.val rfl rfl (R.pickF rfl rfl) ?_
    refine L.nil ?_
    refine N.seq ?_
    refine G.condP rfl (fun h0 => ?_) (fun h0 => ?_)
    · exfalso; omega
    · refine G.skip ?_
      refine N.seq ?_
      refine G.seq ?_
      refine G.region ?_
      refine L.callF rfl rfl rfl go44 (izero_ok _) ?_
      rintro _ w1 ⟨z, rfl, hz, e1, Z⟩
      have hE0 := E
      replace E := E.trans0 e1
      refine L.do rfl rfl (R.buildA rfl rfl rfl rfl rfl) ?_
      rintro _ w2 ⟨b11, rfl, hb11, hs11, e2, B11⟩
      replace E := E.trans0 e2
      replace Z := Z.ext0 e2
      refine L.val rfl rfl (R.mv rfl) ?_
      refine L.callF rfl rfl rfl go43 (prepeat_ok (some ⟨b11, 0, none⟩) 1 (ptr z) n _ (Cells.of_blk B11 0 _ (fun j v hj => by cases j with | zero => exact hj | succ j => simp at hj)) rfl (by omega) (by omega)) ?_
      rintro _ w3 ⟨a, c, M, rfl, e3, o3, hM3⟩
      have hE2 := E.size
      replace E := E.trans0 e3
      replace Z := Z.ext0 e3
      refine L.val rfl rfl (R.build (cs := #[.slice a n c]) rfl rfl) ?_
      refine L.do rfl rfl (R.box rfl) ?_
      rintro _ w4 ⟨d, rfl, hd, hs4, e4, B4⟩
      have hE3 := E.size
      replace E := E.trans0 e4
      replace Z := Z.ext0 e4
      replace o3 := o3.ext0 e4
      refine L.val rfl rfl (R.as rfl) ?_
      refine L.val rfl rfl (R.as rfl) ?_
      refine L.nil ?_
      refine N.seq ?_
      refine G.ret2 rfl rfl rfl ?_
      exact ⟨d, rfl, E, a, c, List.replicate n z, M, by rw [dn_zero]; exact B4, by omega, by rw [dn_zero]; simp, by rw [dn_zero]; omega, by rw [dn_zero]; omega, by rw [dn_zero, List.map_replicate]; exact o3, fun g hg => Nat.le_trans hE2 (hM3 g hg), by rw [dn_zero]; simp, fun k hk => by rw [List.getElem_replicate, blk_zero (by simpa using hk)]; exact Z⟩

theorem inew_err (n : Int) (w : World) (h : ¬ (1 ≤ n ∧ n ≤ 64)) : Meets Try.prog 20 [.int .i64 n] w (fun v w' => v = .tuple #[.pointer none, .int .i64 2] ∧ w' = w) := by
  refine Meets.enter Try.func20 rfl 16 rfl (Nat.le_of_ble_eq_true rfl) ?_
  refine G.seq ?_
  refine G.region ?_
  refine L.val rfl rfl (R.as rfl) ?_
  refine L.val rfl rfl (R.as rfl) ?_
  refine L.nil ?_
  refine N.seq ?_
  refine G.seq ?_
  refine G.seq ?_
  refine G.region ?_
  refine L.val rfl rfl (R.mv rfl) ?_
  refine L.val rfl rfl (R.lss rfl rfl) ?_
  refine L.val rfl rfl (R.mv rfl) ?_
  refine L.caseP 6 rfl (fun hg1_2 => ?_) (fun hg1_2 => ?_)
  · refine L.pass rfl rfl ?_
    refine L.pass rfl rfl ?_
    first | refine L.val rfl rfl (R.pickT rfl rfl) ?_ | refine L.val rfl rfl (R.pickF rfl rfl) ?_
    refine L.nil ?_
    refine N.seq ?_
    refine G.condT rfl ?_
    refine G.seq ?_
    refine G.region ?_
    refine L.val rfl rfl (R.as rfl) ?_
    refine L.val rfl rfl (R.as rfl) ?_
    refine L.nil ?_
    refine N.seq ?_
    refine G.ret2 rfl rfl rfl ?_
    exact ⟨rfl, rfl⟩
  · refine L.val rfl rfl (R.mv rfl) ?_
    refine L.val rfl rfl (R.gtr rfl rfl) ?_
    first | refine L.val rfl rfl (R.pickT rfl rfl) ?_ | refine L.val rfl rfl (R.pickF rfl rfl) ?_
    refine L.nil ?_
    refine N.seq ?_
    refine G.condP rfl (fun h0 => ?_) (fun h0 => ?_)
    · refine G.seq ?_
      refine G.region ?_
      refine L.val rfl rfl (R.as rfl) ?_
      refine L.val rfl rfl (R.as rfl) ?_
      refine L.nil ?_
      refine N.seq ?_
      refine G.ret2 rfl rfl rfl ?_
      exact ⟨rfl, rfl⟩
    · exfalso; omega

theorem iblocks_ok (d : Option Addr) (x : List UInt8) (w : World) (hd : DiskO w d x) : Meets Try.prog 13 [.pointer d] w (fun v w' => v = .int .i64 (dn x : Int) ∧ w' = w) := by
  refine Meets.enter Try.func13 rfl 10 rfl (Nat.le_of_ble_eq_true rfl) ?_
  refine G.seq ?_
  refine G.region ?_
  refine L.val rfl rfl (R.as rfl) ?_
  refine L.nil ?_
  refine N.seq ?_
  refine G.seq ?_
  refine G.seq ?_
  refine G.region ?_
  refine L.val rfl rfl (R.mv rfl) ?_
  refine L.val rfl rfl (R.eqNilP rfl rfl) ?_
  refine L.nil ?_
  refine N.seq ?_
  refine G.condB rfl (fun h0 => ?_) (fun h0 => ?_)
  · obtain rfl : d = none := by simpa using h0
    obtain rfl := hd.nil
    refine G.seq ?_
    refine G.region ?_
    refine L.val rfl rfl (R.as rfl) ?_
    refine L.nil ?_
    refine N.seq ?_
    refine G.ret1 rfl rfl ?_
    exact ⟨rfl, rfl⟩
  · obtain ⟨b, rfl, g, c, cur, ps, D⟩ := hd.got (by simpa using h0)
    refine G.skip ?_
    refine N.seq ?_
    refine G.seq ?_
    refine G.region ?_
    refine L.val rfl rfl (R.mv rfl) ?_
    refine L.val rfl rfl (R.nilChk rfl) ?_
    refine L.val rfl rfl (R.fld rfl) ?_
    refine L.val rfl rfl (R.ldB rfl D.hd rfl) ?_
    refine L.val rfl rfl (R.lenS rfl) ?_
    refine L.val rfl rfl (R.as rfl) ?_
    refine L.nil ?_
    refine N.seq ?_
    refine G.ret1 rfl rfl ?_
    exact ⟨rfl, rfl⟩

theorem iget_ok (d : Nat) (x : List UInt8) (k : Int) (w : World) (hd : DiskAt w d x) : Meets Try.prog 27 [.pointer (some ⟨d, 0, none⟩), .int .i64 k] w (fun v w' => ∃ a c M, v = .tuple #[.slice a (getB x k).length c, .int .i64 (if okK x k then 0 else 41)] ∧ Ext [] w w' ∧ Own w' 5 1 a (getB x k).length c (vbs (getB x k)) M ∧ ∀ g ∈ M, w.heap.size ≤ g) := by
  refine Meets.enter Try.func27 rfl 31 rfl (Nat.le_of_ble_eq_true rfl) ?_
  have E := Ext.refl [] w
  obtain ⟨g, c, cur, ps, D⟩ := hd
  refine G.seq ?_
  refine G.region ?_
  refine L.val rfl rfl (R.as rfl) ?_
  refine L.val rfl rfl (R.as rfl) ?_
  refine L.nil ?_
  refine N.seq ?_
  refine G.seq ?_
  refine G.block ?_
  refine G.seq ?_
  refine G.region ?_
  refine L.val rfl rfl (R.mv rfl) ?_
  refine L.val rfl rfl (R.eqNilP rfl rfl) ?_
  refine L.val rfl rfl (R.as rfl) ?_
  refine L.nil ?_
  refine N.seq ?_
  refine G.condF rfl ?_
  refine G.seq ?_
  refine G.region ?_
  refine L.val rfl rfl (R.mv rfl) ?_
  refine L.val rfl rfl (R.lss rfl rfl) ?_
  refine L.val rfl rfl (R.mv rfl) ?_
  refine L.caseP 12 rfl (fun hg3_2 => ?_) (fun hg3_2 => ?_)
  · refine L.pass rfl rfl ?_
    refine L.pass rfl rfl ?_
    refine L.pass rfl rfl ?_
    refine L.pass rfl rfl ?_
    refine L.pass rfl rfl ?_
    refine L.pass rfl rfl ?_
    refine L.pass rfl rfl ?_
    first | refine L.val rfl rfl (R.pickT rfl rfl) ?_ | refine L.val rfl rfl (R.pickF rfl rfl) ?_
    refine L.val rfl rfl (R.as rfl) ?_
    refine L.nil ?_
    refine N.seq ?_
    refine G.condT rfl ?_
    refine G.seq ?_
    refine G.region ?_
    refine L.val rfl rfl (R.as rfl) ?_
    refine L.val rfl rfl (R.as rfl) ?_
    refine L.nil ?_
    refine N.seq ?_
    refine G.ret2 rfl rfl rfl ?_
    (rw [if_neg (fun h => by have := h.1; omega), show getB x k = [] from if_neg (fun h => by have := h.1; omega)]; exact ⟨none, 0, [], rfl, E, Own.nil _ _ _, by simp⟩)
  · refine L.val rfl rfl (R.mv rfl) ?_
    refine L.val rfl rfl (R.mv rfl) ?_
    refine L.val rfl rfl (R.nilChk rfl) ?_
    refine L.val rfl rfl (R.fld rfl) ?_
    refine L.val rfl rfl (R.ldB rfl D.hd rfl) ?_
    refine L.val rfl rfl (R.lenS rfl) ?_
    refine L.val rfl rfl (R.geq rfl rfl) ?_
    first | refine L.val rfl rfl (R.pickT rfl rfl) ?_ | refine L.val rfl rfl (R.pickF rfl rfl) ?_
    refine L.val rfl rfl (R.as rfl) ?_
    refine L.nil ?_
    refine N.seq ?_
    refine G.condP rfl (fun h1 => ?_) (fun h1 => ?_)
    · refine G.seq ?_
      refine G.region ?_
      refine L.val rfl rfl (R.as rfl) ?_
      refine L.val rfl rfl (R.as rfl) ?_
      refine L.nil ?_
      refine N.seq ?_
      refine G.ret2 rfl rfl rfl ?_
      (rw [if_neg (fun h => by have := h.2; omega), show getB x k = [] from if_neg (fun h => by have := h.2; omega)]; exact ⟨none, 0, [], rfl, E, Own.nil _ _ _, by simp⟩)
    · have hok : okK x k := ⟨by omega, by omega⟩
      obtain ⟨j, rfl⟩ := Int.eq_ofNat_of_zero_le hok.1
      have hj : j < dn x := by have := hok.2; omega
      obtain ⟨z, hz, hbj⟩ := D.ptr hj
      have hbs := Bs.of_blk hbj (blk x j) (by simp) 64 (blk_length hj).symm
      refine G.skip ?_
      refine N.block ?_
      refine N.seq ?_
      refine G.seq ?_
      refine G.region ?_
      refine L.val rfl rfl (R.mv rfl) ?_
      refine L.val rfl rfl (R.nilChk rfl) ?_
      refine L.val rfl rfl (R.fld rfl) ?_
      refine L.val rfl rfl (R.ldB rfl D.hd rfl) ?_
      refine L.val rfl rfl (R.mv rfl) ?_
      refine L.val rfl rfl (R.idx rfl rfl (by omega) (by omega) _ rfl) ?_
      refine L.val rfl rfl (R.ld rfl (v := ptr z) (by rw [Go.Addr.add_lit]; simpa using (D.hg.cell j).trans hz)) ?_
      refine L.val rfl rfl (R.nilChk rfl) ?_
      refine L.val rfl rfl (R.slA rfl) ?_
      refine L.callF rfl rfl rfl go48 (bclone_ok _ _ _ _ _ hbs (by decide)) ?_
      rintro _ w1 ⟨a1, c1, M1, rfl, e1, o1, hM1⟩
      replace E := E.trans0 e1
      refine L.val rfl rfl (R.as rfl) ?_
      refine L.val rfl rfl (R.as rfl) ?_
      refine L.nil ?_
      refine N.seq ?_
      refine G.ret2 rfl rfl rfl ?_
      (rw [if_pos hok, show getB x (j : Int) = blk x j from if_pos hok, blk_length hj]; exact ⟨a1, c1, M1, rfl, E, o1, hM1⟩)

end Go.Proofs.Yteaihincmfbblaa
/-
  The walks of package image.
-/
set_option linter.unusedVariables false
set_option linter.unusedSimpArgs false
namespace Go.Proofs.Yteaihincmfbblaa
open Go Brv Brv.Image
/-- What the iterator over the disk reads. -/
def fpIs (w : World) (F : List Nat) (b1 : Nat) (d : Option Addr) (x : List UInt8) : Prop := (∀ g ∈ F, g < w.heap.size) ∧ ∀ M w', Ext M w w' → (∀ g ∈ F, g ∉ M) → Blk w' b1 #[.pointer d] 24 (0, 0) ∧ DiskO w' d x
theorem fp_of {w w0 : World} {b1 : Nat} {d : Option Addr} {x : List UInt8} (h1 : Blk w b1 #[.pointer d] 24 (0, 0)) (h2 : DiskO w0 d x) (he0 : Ext [] w0 w) : ∃ F, fpIs w F b1 d x ∧ ∀ y ∈ F, y = b1 ∨ y < w0.heap.size := by
  rcases h2 with ⟨rfl, rfl⟩ | ⟨b, rfl, g, c, cur, ps, D0⟩
  · exact ⟨[b1], ⟨fun y hy => by rw [List.mem_singleton.1 hy]; exact h1.lt, fun M w' he hm => ⟨h1.ext he (hm b1 (by simp)), .no⟩⟩, fun y hy => .inl (List.mem_singleton.1 hy)⟩
  · have D := D0.ext0 he0
    exact ⟨b1 :: b :: g :: ps, ⟨fun y hy => by
      rcases List.mem_cons.1 hy with rfl | hy
      · exact h1.lt
      · exact D.lt y hy, fun M w' he hm => ⟨h1.ext he (hm b1 (by simp)), .inr ⟨b, rfl, g, c, cur, ps, D.ext he (fun y hy => hm y (List.mem_cons_of_mem _ hy))⟩⟩⟩, fun y hy => (List.mem_cons.1 hy).imp id (D0.lt y)⟩
theorem fpIs.ext0 {w w' : World} {F : List Nat} {b1 : Nat} {d : Option Addr} {x : List UInt8} (h : fpIs w F b1 d x) (he : Ext [] w w') : fpIs w' F b1 d x :=
  ⟨fun g hg => Nat.lt_of_lt_of_le (h.1 g hg) he.size, fun M w2 e hm => by
    have e2 : Ext (M.filter (fun g => decide (g < w.heap.size))) w w2 := by
      refine he.trans e (by simp) (fun g hg => ?_)
      by_cases hl : g < w.heap.size
      · exact .inl (List.mem_filter.2 ⟨hg, by simpa using hl⟩)
      · exact .inr (by omega)
    exact h.2 _ w2 e2 (fun g hg hmem => hm g hg (List.mem_filter.1 hmem).1)⟩
def blkE (x : List UInt8) (k : Nat) (vs : List Value) (W : World) : Prop := ∃ a c, vs = [.int .i64 (k : Int), .slice a (blk x k).length c] ∧ (blk x k).length ≤ c ∧ Bs W a (blk x k).length (blk x k)

theorem iall_ok (d : Option Addr) (w : World) : Meets Try.prog 42 [.pointer d] w (fun v w' => ∃ b1, v = .func (.func 63) #[] #[.pointer (some ⟨b1, 0, none⟩)] ∧ Ext [] w w' ∧ Blk w' b1 #[.pointer d] 24 (0, 0) ∧ w.heap.size ≤ b1) := by
  refine Meets.enter Try.func42 rfl 4 rfl (Nat.le_of_ble_eq_true rfl) ?_
  have E := Ext.refl [] w
  refine G.seq ?_
  refine G.region ?_
  refine L.do rfl rfl (R.box rfl) ?_
  rintro _ w1 ⟨b1, rfl, hb1, hs1, e1, B1⟩
  replace E := E.trans0 e1
  refine L.val rfl rfl (R.as rfl) ?_
  refine L.nil ?_
  refine N.seq ?_
  refine G.seq ?_
  refine G.region ?_
  refine L.val rfl rfl (R.mkFunc rfl rfl) ?_
  refine L.val rfl rfl (R.as rfl) ?_
  refine L.nil ?_
  refine N.seq ?_
  refine G.ret1 rfl rfl ?_
  exact ⟨b1, rfl, E, B1, by omega⟩

theorem iall1_ok (y : Value) (b1 : Nat) (d : Option Addr) (x : List UInt8) (F : List Nat) (D₀ : List Nat) (J Jx : Nat → List Nat → World → Prop) (w : World) (hF : fpIs w F b1 d x) (hD : ∀ g ∈ D₀, g < w.heap.size ∧ g ∉ F ∧ g ∉ ([] : List Nat)) (hJ : ∀ k D W₁ W₂ M', J k D W₁ → Ext M' W₁ W₂ → (∀ g ∈ M', g ∉ D ∧ (g ∈ ([] : List Nat) ∨ w.heap.size ≤ g)) → J k D W₂) (hJx : ∀ k D W₁ W₂ M', Jx k D W₁ → Ext M' W₁ W₂ → (∀ g ∈ M', g ∉ D ∧ (g ∈ ([] : List Nat) ∨ w.heap.size ≤ g)) → Jx k D W₂) (hY : ∀ k D vs W₁, k < dn x → J k D W₁ → blkE x k vs W₁ → (∀ g ∈ D, g < W₁.heap.size) → YCall Try.prog y vs W₁ fun b W₂ => ∃ D', Ext D W₁ W₂ ∧ (∀ g ∈ D', g < W₂.heap.size ∧ (g ∈ D ∨ W₁.heap.size ≤ g)) ∧ (b = true → J (k + 1) D' W₂) ∧ (b = false → Jx (k + 1) D' W₂)) (h0 : J 0 D₀ w) : Meets Try.prog 63 [y, .pointer (some ⟨b1, 0, none⟩)] w (fun _ W₂ => (∃ D, J (dn x) D W₂ ∧ True) ∨ ∃ k D, k ≤ dn x ∧ Jx k D W₂ ∧ True) := by
  refine Meets.enter Try.func63 rfl 24 rfl (Nat.le_of_ble_eq_true rfl) ?_
  obtain ⟨B1, hd⟩ := hF.2 [] w (Ext.refl _ _) (by simp)
  have hFD : ∀ g ∈ F, g ∉ D₀ := fun g hg h => (hD g h).2.1 hg
  have hx0 := hd.len
  refine G.seq ?_
  refine G.region ?_
  refine L.val rfl rfl (R.ldB rfl B1 rfl) ?_
  refine L.callF rfl rfl rfl go13 (iblocks_ok d x _ hd) ?_
  rintro _ _ ⟨rfl, hw⟩
  obtain rfl := hw.symm
  refine L.val rfl rfl (R.mv rfl) ?_
  refine L.nil ?_
  refine N.seq ?_
  refine G.block ?_
  refine G.loop (X := Nat) (fun i => [(0, y), (1, .pointer (some ⟨b1, 0, none⟩)), (5, .int .i64 (dn x : Int)), (6, .int .i64 (i : Int))]) (fun i w' => i ≤ dn x ∧ (∃ D, J i D w' ∧ ∀ g ∈ D, g < w'.heap.size ∧ (g ∈ D₀ ∨ w.heap.size ≤ g)) ∧ Ext D₀ w w') (fun i => dn x - i) (0) (Sub.cons rfl (Sub.cons rfl (Sub.cons rfl (Sub.cons rfl (Sub.nil _))))) ⟨Nat.zero_le _, ⟨D₀, h0, fun g hg => ⟨(hD g hg).1, .inl hg⟩⟩, Ext.refl _ _⟩ ?_
  rintro i w1 ⟨hi, ⟨D, hJi, hDD⟩, e1⟩
  obtain ⟨B1, hd⟩ := hF.2 _ _ e1 hFD
  refine G.seq ?_
  refine G.region ?_
  refine L.val rfl rfl (R.lss rfl rfl) ?_
  refine L.nil ?_
  refine N.seq ?_
  refine G.seq ?_
  refine G.condP rfl (fun h0 => ?_) (fun h0 => ?_)
  · have hix : i < dn x := by omega
    obtain ⟨db, rfl, g1, k1, cur1, ps1, D1⟩ := hd.pos (by omega)
    obtain ⟨z1, hz1, Z1⟩ := D1.ptr hix
    have hs1 := blk_length hix
    have hbs := Bs.of_blk Z1 (blk x i) (by simp) 64 hs1.symm
    refine G.skip ?_
    refine N.seq ?_
    refine G.seq ?_
    refine G.block ?_
    refine G.seq ?_
    refine G.region ?_
    refine L.val rfl rfl (R.mv rfl) ?_
    refine L.val rfl rfl (R.as rfl) ?_
    refine L.nil ?_
    refine N.seq ?_
    refine G.seq ?_
    refine G.region ?_
    refine L.val rfl rfl (R.mv rfl) ?_
    refine L.val rfl rfl (R.mv rfl) ?_
    refine L.val rfl rfl (R.ldB rfl B1 rfl) ?_
    refine L.val rfl rfl (R.nilChk rfl) ?_
    refine L.val rfl rfl (R.fld rfl) ?_
    refine L.val rfl rfl (R.ldB rfl D1.hd rfl) ?_
    refine L.val rfl rfl (R.mv rfl) ?_
    refine L.val rfl rfl (R.idx rfl rfl (by omega) (by omega) _ rfl) ?_
    refine L.val rfl rfl (R.ld rfl (v := ptr z1) (by rw [Go.Addr.add_lit]; simpa using (D1.hg.cell i).trans hz1)) ?_
    refine L.val rfl rfl (R.nilChk rfl) ?_
    refine L.val rfl rfl (R.slA rfl) ?_
    refine L.callF rfl rfl rfl go48 (bclone_ok _ _ _ _ _ hbs (by decide)) ?_
    rintro _ w2 ⟨a1, c1, M1, rfl, e2, o1, hM1⟩
    have hbo := Bs.of_own o1
    have hle := o1.le
    rw [← hs1] at hbo hle ⊢
    replace hJi := hJ i D w1 w2 [] hJi e2 (by simp)
    replace e1 : Ext D₀ w w2 := e1.trans0 e2
    replace hDD : ∀ g ∈ D, g < w2.heap.size ∧ (g ∈ D₀ ∨ w.heap.size ≤ g) := fun g hg => ⟨Nat.lt_of_lt_of_le (hDD g hg).1 e2.size, (hDD g hg).2⟩
    refine L.ycall rfl rfl rfl rfl (hY i D _ w2 hix hJi ⟨_, _, rfl, hle, hbo⟩ (fun g hg => (hDD g hg).1)) ?_
    rintro bb w3 ⟨D2, eD, hD2, hT, hFl⟩
    refine L.val rfl rfl (R.not rfl) ?_
    refine L.nil ?_
    refine N.seq ?_
    refine G.condB rfl (fun h1 => ?_) (fun h1 => ?_)
    · obtain rfl : bb = false := by simpa using h1
      refine G.ret0 rfl ?_
      exact .inr ⟨i + 1, D2, by omega, hFl rfl, trivial⟩
    · obtain rfl : bb = true := by simpa using h1
      refine G.skip ?_
      refine N.block ?_
      refine N.seq ?_
      refine G.region ?_
      refine L.val rfl rfl (R.add rfl rfl (by omega)) ?_
      refine L.val rfl rfl (R.mv rfl) ?_
      refine L.nil ?_
      exact N.again (i + 1) (by omega) (Sub.cons rfl (Sub.cons rfl (Sub.cons rfl (Sub.cons rfl (Sub.nil _))))) ⟨by omega, ⟨D2, hT rfl, fun g hg => ⟨(hD2 g hg).1, (hD2 g hg).2.elim (fun h => (hDD g h).2) (fun h => .inr (Nat.le_trans e1.size h))⟩⟩, e1.transN eD (fun g hg => (hDD g hg).2.imp id id)⟩
  · refine G.exit _ rfl ?_
    refine N.end0 rfl ?_
    obtain rfl : i = dn x := by omega
    exact .inl ⟨D, hJi, trivial⟩

theorem iall_iter (b1 : Nat) (d : Option Addr) (x : List UInt8) (F : List Nat) (w : World) (hF : fpIs w F b1 d x) : Iter Try.prog 63 [.pointer (some ⟨b1, 0, none⟩)] w (dn x) (blkE x) (fun _ _ => True) F [] := by
  intro y D₀ J Jx W hE hD hJ hJx hY h0
  exact iall1_ok y b1 d x F D₀ J Jx W (hF.ext0 hE) hD (fun k D W₁ W₂ M' h he hm => hJ k D W₁ W₂ M' h he (fun g hg => ⟨(hm g hg).1, (hm g hg).2.imp id (Nat.le_trans hE.size)⟩)) (fun k D W₁ W₂ M' h he hm => hJx k D W₁ W₂ M' h he (fun g hg => ⟨(hm g hg).1, (hm g hg).2.imp id (Nat.le_trans hE.size)⟩)) hY h0

end Go.Proofs.Yteaihincmfbblaa
/-
  The walks of package digest.
-/
set_option linter.unusedVariables false
set_option linter.unusedSimpArgs false
set_option maxRecDepth 4000
namespace Go.Proofs.Yteaihincmfbblaa
open Go Brv
theorem dl_blk {w : World} {d g c : Nat} {cur : Array Value} {ps : List Nat} {x : List UInt8} (h : DiskL w d g c cur ps x) {k z : Nat} (hk : k < Image.dn x) (hz : cur[k]? = some (Brv.ptr z)) : Bs w (some ⟨z, 0, none⟩) 64 (Image.blk x k) := by
  obtain ⟨z', h1, h2⟩ := h.ptr hk
  rw [hz] at h1
  have e : z = z' := by simpa [Brv.ptr] using h1
  subst e
  exact ⟨Cells.of_blk h2 0 _ (fun j v hj => by simpa using hj), (Image.blk_length hk).symm⟩
theorem iblocksD (d g c : Nat) (cur : Array Value) (ps : List Nat) (x : List UInt8) (w : World) (h : DiskL w d g c cur ps x) : Meets Try.prog 13 [.pointer (some ⟨d, 0, none⟩)] w (fun v w' => v = .int .i64 (Image.dn x : Int) ∧ Ext [] w w') :=
  (iblocks_ok (some ⟨d, 0, none⟩) x w (DiskAt.o ⟨g, c, cur, ps, h⟩)).mono fun v w' ⟨h1, h2⟩ => ⟨h1, h2 ▸ Ext.refl _ _⟩

theorem iall1S_ok (y : Value) (b1 d g c : Nat) (cur : Array Value) (ps : List Nat) (x : List UInt8) (J Jx : Nat → Asn) (hY : ∀ k vs p, k < Image.dn x → (fun k vs p => ∃ a c, vs = [.int .i64 ((k : Nat) : Int), .slice a 64 c] ∧ p = fun w => Bs w a 64 (Image.blk x k)) k vs p → YSpec Try.prog y vs [sh p, J k] (fun b H' => H' = [if b then J (k + 1) else Jx (k + 1)])) : SpecS Try.prog 63 [y, .pointer (some ⟨b1, 0, none⟩)] [J 0, fz b1 [.pointer (some ⟨d, 0, none⟩)] 24, sh (fun w => DiskL w d g c cur ps x)] (fun v H' => (H' = J (Image.dn x) :: [fz b1 [.pointer (some ⟨d, 0, none⟩)] 24, sh (fun w => DiskL w d g c cur ps x)] ∨ ∃ k, k ≤ Image.dn x ∧ H' = Jx k :: [fz b1 [.pointer (some ⟨d, 0, none⟩)] 24, sh (fun w => DiskL w d g c cur ps x)])) := by
  refine SpecS.enter Try.func63 rfl 24 rfl (Nat.le_of_ble_eq_true rfl) (fun o => ?_)
  refine SG.fact (fun w9 F9 S9 s => (s.sh (p := fun w => DiskL w d g c cur ps x) (by repeat (first | exact Sel.keep | exact Sel.here | apply Sel.there))).le) (fun hf9 => ?_)
  have hle := hf9; clear hf9
  refine SG.seq ?_
  refine SG.region ?_
  refine SL.val rfl rfl (fun w9 F9 S9 s => R.ldB (v := .pointer (some ⟨d, 0, none⟩)) rfl (s.cel (by repeat (first | exact SelB.blk | exact SelB.fz | apply SelB.there))) (by rfl)) ?_
  refine SL.step rfl rfl (CS.callR rfl go13 (fun w9 F9 S9 s => iblocksD d g c cur ps x w9 (s.sh (p := fun w => DiskL w d g c cur ps x) (by repeat (first | exact Sel.keep | exact Sel.here | apply Sel.there))))) ?_
  rintro _ _ ⟨rfl, rfl⟩
  refine SL.val rfl rfl (fun w9 F9 S9 s => R.mv rfl) ?_
  refine SL.nil ?_
  refine SN.seq ?_
  refine SG.block ?_
  refine SG.loop (X := Nat) (fun k => [(0, y), (1, .pointer (some ⟨b1, 0, none⟩)), (5, .int .i64 (Image.dn x : Int)), (6, .int .i64 (k : Int))]) (fun k => [J k, fz b1 [.pointer (some ⟨d, 0, none⟩)] 24, sh (fun w => DiskL w d g c cur ps x)]) (fun k => k ≤ Image.dn x) (fun k => Image.dn x - k) (0) (Sub.cons rfl (Sub.cons rfl (Sub.cons rfl (Sub.cons rfl (Sub.nil _))))) ((Imp.sels (by repeat (first | exact Sels.nil | apply Sels.cons | exact Sel.keep | exact Sel.here | apply Sel.there)))) (Nat.zero_le _) ?_
  intro k hk
  show SG _ _ _ _ _ [(0, y), (1, .pointer (some ⟨b1, 0, none⟩)), (5, .int .i64 (Image.dn x : Int)), (6, .int .i64 (k : Int))] [J k, fz b1 [.pointer (some ⟨d, 0, none⟩)] 24, sh (fun w => DiskL w d g c cur ps x)] _
  refine SG.seq ?_
  refine SG.region ?_
  refine SL.val rfl rfl (fun w9 F9 S9 s => R.lss rfl rfl) ?_
  refine SL.nil ?_
  refine SN.seq ?_
  refine SG.seq ?_
  refine SG.condP rfl (fun h0 => ?_) (fun h0 => ?_)
  · refine SG.fact (fun w9 F9 S9 s => (((s.sh (p := fun w => DiskL w d g c cur ps x) (by repeat (first | exact Sel.keep | exact Sel.here | apply Sel.there))).ptr (k := k) (by omega)).imp fun z h => h.1)) (fun hf9 => ?_)
    obtain ⟨z, hz⟩ := hf9
    refine SG.skip ?_
    refine SN.seq ?_
    refine SG.seq ?_
    refine SG.block ?_
    refine SG.seq ?_
    refine SG.region ?_
    refine SL.val rfl rfl (fun w9 F9 S9 s => R.mv rfl) ?_
    refine SL.val rfl rfl (fun w9 F9 S9 s => R.as rfl) ?_
    refine SL.nil ?_
    refine SN.seq ?_
    refine SG.seq ?_
    refine SG.region ?_
    refine SL.val rfl rfl (fun w9 F9 S9 s => R.mv rfl) ?_
    refine SL.val rfl rfl (fun w9 F9 S9 s => R.mv rfl) ?_
    refine SL.val rfl rfl (fun w9 F9 S9 s => R.ldB (v := .pointer (some ⟨d, 0, none⟩)) rfl (s.cel (by repeat (first | exact SelB.blk | exact SelB.fz | apply SelB.there))) (by rfl)) ?_
    refine SL.val rfl rfl (fun w9 F9 S9 s => R.nilChk rfl) ?_
    refine SL.val rfl rfl (fun w9 F9 S9 s => R.fld rfl) ?_
    refine SL.val rfl rfl (fun w9 F9 S9 s => R.ldB (v := .slice (some ⟨g, 0, none⟩) (Image.dn x) c) rfl (s.sh (p := fun w => DiskL w d g c cur ps x) (by repeat (first | exact Sel.keep | exact Sel.here | apply Sel.there))).hd (by rfl)) ?_
    refine SL.val rfl rfl (fun w9 F9 S9 s => R.mv rfl) ?_
    refine SL.val rfl rfl (fun w9 F9 S9 s => R.idxO (i := (k : Int)) rfl rfl (by omega) (by omega) rfl k (by omega)) ?_
    refine SL.val rfl rfl (fun w9 F9 S9 s => R.ldB (v := Brv.ptr z) rfl (s.sh (p := fun w => DiskL w d g c cur ps x) (by repeat (first | exact Sel.keep | exact Sel.here | apply Sel.there))).hg hz) ?_
    refine SL.val rfl rfl (fun w9 F9 S9 s => R.nilChk rfl) ?_
    refine SL.val rfl rfl (fun w9 F9 S9 s => R.slA rfl) ?_
    refine SL.step rfl rfl (CS.callC rfl go48 (fun w9 F9 S9 s => bclone_ok (some ⟨z, 0, none⟩) 64 64 (Image.blk x k) w9 (dl_blk (s.sh (p := fun w => DiskL w d g c cur ps x) (by repeat (first | exact Sel.keep | exact Sel.here | apply Sel.there))) (by omega) hz) (by decide))) ?_
    rintro _ _ ⟨a20, c20, rfl, rfl⟩
    refine SL.imp (Imp.ownBs (l := Image.blk x k) (show Sel _ (own 5 1 a20 64 c20 (vbs (Image.blk x k))) _ from (by repeat (first | exact Sel.keep | exact Sel.here | apply Sel.there)))) ?_
    refine SL.step rfl rfl (CS.yield rfl rfl (hY k _ _ (by omega) ⟨a20, c20, rfl, rfl⟩) (by repeat (first | exact Sels.nil | apply Sels.cons | exact Sel.keep | exact Sel.here | apply Sel.there))) ?_
    rintro _ _ ⟨_, ⟨bq, rfl, rfl⟩, rfl⟩
    refine SL.n1 ?_
    refine SL.val rfl rfl (fun w9 F9 S9 s => R.not rfl) ?_
    refine SL.nil ?_
    refine SN.seq ?_
    refine SG.condB rfl (fun h1 => ?_) (fun h1 => ?_)
    · obtain rfl : bq = false := by simpa using h1
      exact SG.ret0 rfl ((Imp.sels (by repeat (first | exact Sels.nil | apply Sels.cons | exact Sel.keep | exact Sel.here | apply Sel.there)))) (.inr ⟨k + 1, by omega, rfl⟩)
    · obtain rfl : bq = true := by simpa using h1
      refine SG.skip ?_
      refine SN.block ?_
      refine SN.seq ?_
      refine SG.region ?_
      refine SL.val rfl rfl (fun w9 F9 S9 s => R.add rfl rfl (by omega)) ?_
      refine SL.val rfl rfl (fun w9 F9 S9 s => R.mv rfl) ?_
      refine SL.nil ?_
      exact SN.again (k + 1) (by show Image.dn x - (k + 1) < Image.dn x - k; omega) (Sub.cons rfl (Sub.cons rfl (Sub.cons rfl (Sub.cons rfl (Sub.nil _))))) ((Imp.sels (by repeat (first | exact Sels.nil | apply Sels.cons | exact Sel.keep | exact Sel.here | apply Sel.there)))) (by show k + 1 ≤ Image.dn x; omega)
  · obtain rfl : k = Image.dn x := by omega
    refine SG.exit _ rfl ?_
    exact SN.end0 rfl ((Imp.sels (by repeat (first | exact Sels.nil | apply Sels.cons | exact Sel.keep | exact Sel.here | apply Sel.there)))) (.inl rfl)

theorem iall_iterS (b1 d g c : Nat) (cur : Array Value) (ps : List Nat) (x : List UInt8) : IterS Try.prog 63 [.pointer (some ⟨b1, 0, none⟩)] [fz b1 [.pointer (some ⟨d, 0, none⟩)] 24, sh (fun w => DiskL w d g c cur ps x)] (Image.dn x) (fun k vs p => ∃ a c, vs = [.int .i64 ((k : Nat) : Int), .slice a 64 c] ∧ p = fun w => Bs w a 64 (Image.blk x k)) := fun y J Jx hY => iall1S_ok y b1 d g c cur ps x J Jx hY

theorem iallS_ok (d : Nat) : SpecS Try.prog 42 [.pointer (some ⟨d, 0, none⟩)] [] (fun v H' => ∃ b1, v = .func (.func 63) #[] #[.pointer (some ⟨b1, 0, none⟩)] ∧ H' = [fz b1 [.pointer (some ⟨d, 0, none⟩)] 24]) := by
  refine SpecS.enter Try.func42 rfl 4 rfl (Nat.le_of_ble_eq_true rfl) (fun o => ?_)
  refine SG.seq ?_
  refine SG.region ?_
  refine SL.step rfl rfl (CS.box1 rfl rfl) ?_
  rintro _ _ ⟨b1, rfl, rfl⟩
  refine SL.val rfl rfl (fun w9 F9 S9 s => R.as rfl) ?_
  refine SL.nil ?_
  refine SN.imp (Imp.fz (show Sel _ (blk b1 [.pointer (some ⟨d, 0, none⟩)] _) _ from (by repeat (first | exact Sel.keep | exact Sel.here | apply Sel.there)))) ?_
  refine SN.seq ?_
  refine SG.seq ?_
  refine SG.region ?_
  refine SL.val rfl rfl (fun w9 F9 S9 s => R.mkFunc rfl rfl) ?_
  refine SL.val rfl rfl (fun w9 F9 S9 s => R.as rfl) ?_
  refine SL.nil ?_
  refine SN.seq ?_
  exact SG.ret1 rfl rfl ((Imp.sels (by repeat (first | exact Sels.nil | apply Sels.cons | exact Sel.keep | exact Sel.here | apply Sel.there)))) (⟨b1, rfl, rfl⟩)

end Go.Proofs.Yteaihincmfbblaa
/-
  The walks of package digest.
-/
set_option linter.unusedVariables false
set_option linter.unusedSimpArgs false
set_option maxRecDepth 4000
namespace Go.Proofs.Yteaihincmfbblaa
open Go Brv
structure DtS where
  a : Option Addr
  c : Nat
structure DtO where
  rs : List URow
  r : URow
  a : Option Addr
  c : Nat
  ds : List Nat
theorem pair_ok {l : List Nat} (h : okU l) (k : Nat) : okU ((l.drop (2 * k)).take 2) := fun v hv => h v (List.mem_of_mem_drop (List.mem_of_mem_take hv))
theorem step_chunk {l : List Nat} {k : Nat} (hk : 2 * k < l.length) (hok : okU l) : nextR (l.take (2 * (k + 1))) = nextR (l.take (2 * k)) ++ [nodeN ((l.drop (2 * k)).take 2)] := by
  have e : l.take (2 * (k + 1)) = l.take (2 * k) ++ (l.drop (2 * k)).take 2 := by rw [show 2 * (k + 1) = 2 * k + 2 by omega, List.take_add]
  rw [e, nextR_app k _ _ (by rw [List.length_take]; omega)]
  congr 1
  match hq : (l.drop (2 * k)).take 2 with
  | [] => have := congrArg List.length hq; rw [List.length_take, List.length_drop] at this; simp at this; omega
  | [a] =>
    have : (nodeN [a] : Nat) = a := by unfold nodeN nodeI; simp
    simp [nextR, this]
  | [a, b] => rfl
  | a :: b :: c :: r => have := congrArg List.length hq; rw [List.length_take] at this; simp at this; omega

set_option maxHeartbeats 1000000 in
theorem dtree_ok (d g c : Nat) (cur : Array Value) (ps : List Nat) (x : List UInt8) : SpecS Try.prog 47 [.pointer (some ⟨d, 0, none⟩)] [sh (fun w => DiskL w d g c cur ps x)] (fun v H' => ∃ a n c, ∃ Rr : List URow, v = .slice a n c ∧ n = Rr.length ∧ n ≤ c ∧ Rr.map URow.l = treeD x ∧ H' = [sh (fun w => Cells w a (Rr.map URow.val) ∧ ∀ r ∈ Rr, URow.ok w r)]) := by
  refine SpecS.enter Try.func47 rfl 39 rfl (Nat.le_of_ble_eq_true rfl) (fun o => ?_)
  refine SG.fact (fun w9 F9 S9 s => (s.sh (p := fun w => DiskL w d g c cur ps x) (by repeat (first | exact Sel.keep | exact Sel.here | apply Sel.there))).le) (fun hf9 => ?_)
  have hle := hf9; clear hf9
  refine SG.fact (fun w9 F9 S9 s => (s.sh (p := fun w => DiskL w d g c cur ps x) (by repeat (first | exact Sel.keep | exact Sel.here | apply Sel.there))).pos) (fun hf9 => ?_)
  have hpos := hf9; clear hf9
  refine SG.seq ?_
  refine SG.region ?_
  refine SL.val rfl rfl (fun w9 F9 S9 s => R.as rfl) ?_
  refine SL.nil ?_
  refine SN.seq ?_
  refine SG.seq ?_
  refine SG.seq ?_
  refine SG.region ?_
  refine SL.val rfl rfl (fun w9 F9 S9 s => R.mv rfl) ?_
  refine SL.val rfl rfl (fun w9 F9 S9 s => R.eqNilP rfl rfl) ?_
  refine SL.nil ?_
  refine SN.seq ?_
  refine SG.condF rfl ?_
  refine SG.skip ?_
  refine SN.seq ?_
  refine SG.seq ?_
  refine SG.region ?_
  refine SL.step rfl rfl (CS.alloc [.slice none 0 0] rfl) ?_
  rintro _ _ ⟨b3, rfl, rfl⟩
  refine SL.nil ?_
  refine SN.seq ?_
  refine SG.seq ?_
  refine SG.seq ?_
  refine SG.region ?_
  refine SL.val rfl rfl (fun w9 F9 S9 s => R.mv rfl) ?_
  refine SL.step rfl rfl (CS.call rfl go42 (iallS_ok d) (by repeat (first | exact Sels.nil | apply Sels.cons | exact Sel.keep | exact Sel.here | apply Sel.there))) ?_
  rintro _ _ ⟨_, ⟨b1, rfl, rfl⟩, rfl⟩
  refine SL.n1 ?_
  refine SL.nil ?_
  refine SN.seq ?_
  refine SG.block ?_
  refine SG.range rfl rfl go63 (iall_iterS b1 d g c cur ps x) (X := DtS) (Y := Unit) (fun k y => [blk b3 [.slice y.a k y.c] 106, own 64 1 y.a (k) y.c (us (sumsT x k))]) (fun k y => True) (fun c k _ => []) (fun c k _ => False) (⟨none, 0⟩) (((Imp.ownNil 64 1).trans (Imp.sels (by repeat (first | exact Sels.nil | apply Sels.cons | exact Sel.keep | exact Sel.here | apply Sel.there))))) (trivial) ?_ ?_ ?_
  · rintro l k ⟨a9, c9⟩ vs p W1 hk _ ⟨ab, cb, rfl, rfl⟩
    refine ⟨rfl, ?_⟩
    refine G.region ?_
    refine L.val rfl rfl (R.as rfl) ?_
    refine L.nil ?_
    refine N.roundS (fun o9 => ?_)
    refine SG.block ?_
    refine SG.draw [2, 3, 4, 5] [0, 1, 2, 3, 4, 5] (by decide +kernel) rfl ?_
    refine SW.read rfl rfl rfl rfl (fun w9 F9 S9 s => R.ldB (v := .slice a9 k c9) rfl (s.cel (by repeat (first | exact SelB.blk | exact SelB.fz | apply SelB.there))) (by rfl)) ?_
    refine SW.pure rfl rfl rfl rfl (fun w9 => R.mv rfl) ?_
    refine SW.step rfl rfl rfl rfl (CS.call rfl go65 (dsum_ok ab 64 cb (Image.blk x k) (by decide)) (by repeat (first | exact Sels.nil | apply Sels.cons | exact Sel.keep | exact Sel.here | apply Sel.there))) ?_
    rintro _ _ ⟨_, ⟨rfl, rfl⟩, rfl⟩
    refine ⟨⟨.inr (fun w9 F9 S9 s => R.ldB (v := .slice a9 k c9) rfl (s.cel (by repeat (first | exact SelB.blk | exact SelB.fz | apply SelB.there))) (by rfl)), trivial⟩, ?_⟩
    refine SW.n0 ?_
    refine SW.be 17 rfl (congrArg (Value.int .u64) (sumN_eq (Image.blk x k)).symm) ?_
    refine SW.step rfl rfl rfl rfl (CS.buildA rfl rfl rfl rfl rfl (us [sumN (Image.blk x k)]) rfl) ?_
    rintro _ _ ⟨b18, rfl, rfl⟩
    refine ⟨⟨.inr (fun w9 F9 S9 s => R.ldB (v := .slice a9 k c9) rfl (s.cel (by repeat (first | exact SelB.blk | exact SelB.fz | apply SelB.there))) (by rfl)), trivial⟩, ?_⟩
    refine SW.step rfl rfl rfl rfl (CS.app rfl rfl (by repeat (first | exact Sel.keep | exact Sel.here | apply Sel.there)) (fun w9 F9 S9 s => s.blkC (show Sel _ (blk b18 (us [sumN (Image.blk x k)]) _) _ from (by repeat (first | exact Sel.keep | exact Sel.here | apply Sel.there)))) rfl (us_one _) (by simp [maxLen]; omega) (by omega)) ?_
    rintro _ _ ⟨a19, c19, rfl, rfl⟩
    refine ⟨⟨.inl (by decide +kernel), trivial⟩, ?_⟩
    refine SW.step0 rfl rfl rfl (CS.st rfl rfl (show Sel _ (blk b3 _ _) _ from (by repeat (first | exact Sel.keep | exact Sel.here | apply Sel.there))) (by repeat (first | exact SetAt.here | apply SetAt.there)) rfl) ?_
    rintro _ _ rfl
    refine ⟨⟨.inl (by decide +kernel), trivial⟩, ?_⟩
    refine SW.nil ?_
    refine SN.block ?_
    exact SN.next (⟨a19, c19⟩) ((show Imp _ _ by dsimp only; rw [sumsT_succ, us_app]; exact (Imp.sels (by repeat (first | exact Sels.nil | apply Sels.cons | exact Sel.keep | exact Sel.here | apply Sel.there))))) (trivial)
  · rintro d2 ⟨a9, c9⟩ _
    refine SN.fact (fun w9 F9 S9 s => s.ownL (show Sel _ (own 64 1 a9 (Image.dn x) c9 (us (sumsT x (Image.dn x)))) _ from (by repeat (first | exact Sel.keep | exact Sel.here | apply Sel.there)))) (fun hf9 => ?_)
    obtain ⟨_, hc9⟩ := hf9
    refine SN.imp (Imp.ownSh (show Sel _ (own 64 1 a9 (Image.dn x) c9 (us (sumsT x (Image.dn x)))) _ from (by repeat (first | exact Sel.keep | exact Sel.here | apply Sel.there))) (p := fun w => URow.ok w (⟨a9, Image.dn x, c9, sumsT x (Image.dn x)⟩ : URow)) (fun w h => ⟨(sumsT_len x _).symm, hc9, h⟩)) ?_
    refine SN.imp (Imp.markNone) ?_
    refine SN.imp (Imp.markIn (d := d2) (ds := []) (by repeat (first | exact Sel.keep | exact Sel.here | apply Sel.there)) (by repeat (first | exact Sel.keep | exact Sel.here | apply Sel.there))) ?_
    refine SN.block ?_
    refine SN.seq ?_
    refine SG.seq ?_
    refine SG.region ?_
    refine SL.val rfl rfl (fun w9 F9 S9 s => R.ldB (v := .slice a9 (Image.dn x) c9) rfl (s.cel (by repeat (first | exact SelB.blk | exact SelB.fz | apply SelB.there))) (by rfl)) ?_
    refine SL.step rfl rfl (CS.buildA rfl rfl rfl rfl rfl ([(⟨a9, Image.dn x, c9, sumsT x (Image.dn x)⟩ : URow)].map URow.val) rfl) ?_
    rintro _ _ ⟨b21, rfl, rfl⟩
    refine SL.imp (Imp.ownBlk (size := 1) (k := 1) (show Sel _ (blk b21 ([(⟨a9, Image.dn x, c9, sumsT x (Image.dn x)⟩ : URow)].map URow.val) 106) _ from (by repeat (first | exact Sel.keep | exact Sel.here | apply Sel.there))) rfl (by decide)) ?_
    refine SL.imp (Imp.weak (p := fun w => URow.ok w (⟨a9, Image.dn x, c9, sumsT x (Image.dn x)⟩ : URow)) (q := fun w => ∀ r ∈ [(⟨a9, Image.dn x, c9, sumsT x (Image.dn x)⟩ : URow)], URow.ok w r) (by repeat (first | exact Sel.keep | exact Sel.here | apply Sel.there)) (fun w h r hr => by rw [List.mem_singleton.1 hr]; exact h)) ?_
    refine SL.val rfl rfl (fun w9 F9 S9 s => R.as rfl) ?_
    refine SL.nil ?_
    refine SN.seq ?_
    refine SG.seq ?_
    refine SG.block ?_
    refine SG.loopN (X := DtO) (fun y => ⟨39, y.ds.map Brv.mark ++ [], none⟩) (fun y => [(3, .pointer (some ⟨b3, 0, none⟩)), (6, .slice y.a y.rs.length y.c)]) (fun y => [blk b3 [.slice y.r.a y.r.n y.r.c] 106, own 106 1 y.a (y.rs.length) y.c (y.rs.map URow.val), sh (fun w => ∀ r ∈ y.rs, URow.ok w r), sh (fun w => URow.ok w y.r), dfP y.ds]) (fun y => (∃ pre, y.rs.map URow.l = pre ++ [y.r.l] ∧ treeD x = pre ++ treeF y.r.l) ∧ okU y.r.l ∧ y.rs.length + y.r.l.length ≤ 1000) (fun y => y.r.l.length) (⟨[(⟨a9, Image.dn x, c9, sumsT x (Image.dn x)⟩ : URow)], (⟨a9, Image.dn x, c9, sumsT x (Image.dn x)⟩ : URow), some ⟨b21, 0, none⟩, 1, [d2]⟩) (fun _ => rfl) rfl (Sub.cons rfl (Sub.cons rfl (Sub.nil _))) ((Imp.sels (by repeat (first | exact Sels.nil | apply Sels.cons | exact Sel.keep | exact Sel.here | apply Sel.there)))) (⟨⟨[], rfl, by unfold treeD; rw [if_neg (by unfold Image.dn at hpos; omega)]; rfl⟩, sumsT_ok x _, by show 1 + (sumsT x (Image.dn x)).length ≤ _; rw [sumsT_len]; omega⟩) ?_
    rintro ⟨rs, r, a5, c5, ds⟩ ⟨⟨pre, hpre, htr⟩, hok, hlen⟩
    dsimp only at hpre htr hok hlen
    refine SG.fact (fun w9 F9 S9 s => (s.sh (p := fun w => URow.ok w r) (by repeat (first | exact Sel.keep | exact Sel.here | apply Sel.there))).len) (fun hf9 => ?_)
    have hrl := hf9; clear hf9
    show SG _ _ _ _ _ [(3, .pointer (some ⟨b3, 0, none⟩)), (6, .slice a5 rs.length c5)] [blk b3 [.slice r.a r.n r.c] 106, own 106 1 a5 (rs.length) c5 (rs.map URow.val), sh (fun w => ∀ r ∈ rs, URow.ok w r), sh (fun w => URow.ok w r), dfP ds] _
    refine SG.seq ?_
    refine SG.seq ?_
    refine SG.region ?_
    refine SL.val rfl rfl (fun w9 F9 S9 s => R.ldB (v := .slice r.a r.n r.c) rfl (s.cel (by repeat (first | exact SelB.blk | exact SelB.fz | apply SelB.there))) (by rfl)) ?_
    refine SL.val rfl rfl (fun w9 F9 S9 s => R.lenS rfl) ?_
    refine SL.val rfl rfl (fun w9 F9 S9 s => R.gtr rfl rfl) ?_
    refine SL.nil ?_
    refine SN.seq ?_
    refine SG.condP rfl (fun h1 => ?_) (fun h1 => ?_)
    · refine SG.skip ?_
      refine SN.seq ?_
      refine SG.block ?_
      refine SG.seq ?_
      refine SG.region ?_
      refine SL.step rfl rfl (CS.alloc [.slice none 0 0] rfl) ?_
      rintro _ _ ⟨b7, rfl, rfl⟩
      refine SL.nil ?_
      refine SN.seq ?_
      refine SG.seq ?_
      refine SG.seq ?_
      refine SG.region ?_
      refine SL.val rfl rfl (fun w9 F9 S9 s => R.ldB (v := .slice r.a r.n r.c) rfl (s.cel (by repeat (first | exact SelB.blk | exact SelB.fz | apply SelB.there))) (by rfl)) ?_
      refine SL.step rfl rfl (CS.call rfl go66 (chunk_ok r) (by repeat (first | exact Sels.nil | apply Sels.cons | exact Sel.keep | exact Sel.here | apply Sel.there))) ?_
      rintro _ _ ⟨_, ⟨b26, b27, rfl, rfl⟩, rfl⟩
      refine SL.n2 ?_
      refine SL.nil ?_
      refine SN.seq ?_
      refine SG.block ?_
      refine SG.range rfl rfl go76 (chunk_iterS b26 b27 r (by omega)) (X := DtS) (Y := Unit) (fun k y => [blk b7 [.slice y.a k y.c] 106, own 64 1 y.a (k) y.c (us (nextR (r.l.take (2 * k)))), blk b3 [.slice r.a r.n r.c] 106, own 106 1 a5 (rs.length) c5 (rs.map URow.val), sh (fun w => ∀ r ∈ rs, URow.ok w r), dfP ds]) (fun k y => True) (fun c k _ => []) (fun c k _ => False) (⟨none, 0⟩) (((Imp.ownNil 64 1).trans (Imp.sels (by repeat (first | exact Sels.nil | apply Sels.cons | exact Sel.keep | exact Sel.here | apply Sel.there))))) (trivial) ?_ ?_ ?_
      · rintro l k ⟨a9, c9⟩ vs p W1 hk _ ⟨ab, mb, cb, rfl, hmb, hmc, rfl⟩
        refine ⟨rfl, ?_⟩
        refine G.region ?_
        refine L.val rfl rfl (R.as rfl) ?_
        refine L.nil ?_
        refine N.roundS (fun o9 => ?_)
        refine SG.block ?_
        refine SG.draw [2, 3, 4, 5] [0, 1, 2, 3, 4, 5] (by decide +kernel) rfl ?_
        refine SW.read rfl rfl rfl rfl (fun w9 F9 S9 s => R.ldB (v := .slice a9 k c9) rfl (s.cel (by repeat (first | exact SelB.blk | exact SelB.fz | apply SelB.there))) (by rfl)) ?_
        refine SW.pure rfl rfl rfl rfl (fun w9 => R.mv rfl) ?_
        refine SW.step rfl rfl rfl rfl (CS.call rfl go67 (dnode_ok ab mb cb ((r.l.drop (2 * k)).take 2) hmb (by rw [hmb, List.length_take]; omega) (pair_ok hok k)) (by repeat (first | exact Sels.nil | apply Sels.cons | exact Sel.keep | exact Sel.here | apply Sel.there))) ?_
        rintro _ _ ⟨_, ⟨rfl, rfl⟩, rfl⟩
        refine ⟨⟨.inr (fun w9 F9 S9 s => R.ldB (v := .slice a9 k c9) rfl (s.cel (by repeat (first | exact SelB.blk | exact SelB.fz | apply SelB.there))) (by rfl)), trivial⟩, ?_⟩
        refine SW.n0 ?_
        refine SW.be 30 rfl (congrArg (Value.int .u64) (nodeN_eq (pair_ok hok k)).symm) ?_
        refine SW.step rfl rfl rfl rfl (CS.buildA rfl rfl rfl rfl rfl (us [nodeN ((r.l.drop (2 * k)).take 2)]) rfl) ?_
        rintro _ _ ⟨b31, rfl, rfl⟩
        refine ⟨⟨.inr (fun w9 F9 S9 s => R.ldB (v := .slice a9 k c9) rfl (s.cel (by repeat (first | exact SelB.blk | exact SelB.fz | apply SelB.there))) (by rfl)), trivial⟩, ?_⟩
        refine SW.step rfl rfl rfl rfl (CS.app rfl rfl (by repeat (first | exact Sel.keep | exact Sel.here | apply Sel.there)) (fun w9 F9 S9 s => s.blkC (show Sel _ (blk b31 (us [nodeN ((r.l.drop (2 * k)).take 2)]) _) _ from (by repeat (first | exact Sel.keep | exact Sel.here | apply Sel.there)))) rfl (us_one _) (by simp [maxLen]; omega) (by omega)) ?_
        rintro _ _ ⟨a32, c32, rfl, rfl⟩
        refine ⟨⟨.inl (by decide +kernel), trivial⟩, ?_⟩
        refine SW.step0 rfl rfl rfl (CS.st rfl rfl (show Sel _ (blk b7 _ _) _ from (by repeat (first | exact Sel.keep | exact Sel.here | apply Sel.there))) (by repeat (first | exact SetAt.here | apply SetAt.there)) rfl) ?_
        rintro _ _ rfl
        refine ⟨⟨.inl (by decide +kernel), trivial⟩, ?_⟩
        refine SW.nil ?_
        refine SN.block ?_
        exact SN.next (⟨a32, c32⟩) ((show Imp _ _ by dsimp only; rw [step_chunk (by omega) hok, us_app]; exact (Imp.sels (by repeat (first | exact Sels.nil | apply Sels.cons | exact Sel.keep | exact Sel.here | apply Sel.there))))) (trivial)
      · rintro d3 ⟨a9, c9⟩ _
        rw [List.take_of_length_le (show r.l.length ≤ 2 * ((r.n + 1) / 2) by omega)]
        refine SN.fact (fun w9 F9 S9 s => s.ownL (show Sel _ (own 64 1 a9 ((r.n + 1) / 2) c9 (us (nextR r.l))) _ from (by repeat (first | exact Sel.keep | exact Sel.here | apply Sel.there)))) (fun hf9 => ?_)
        obtain ⟨_, hc9⟩ := hf9
        refine SN.imp (Imp.ownSh (show Sel _ (own 64 1 a9 ((r.n + 1) / 2) c9 (us (nextR r.l))) _ from (by repeat (first | exact Sel.keep | exact Sel.here | apply Sel.there))) (p := fun w => URow.ok w (⟨a9, (r.n + 1) / 2, c9, nextR r.l⟩ : URow)) (fun w h => ⟨by show (r.n + 1) / 2 = (nextR r.l).length; rw [nextR_len, ← hrl], hc9, h⟩)) ?_
        refine SN.block ?_
        refine SN.seq ?_
        refine SG.draw [2, 3, 6] [0, 1, 4, 2, 3, 5, 6] (by decide +kernel) rfl ?_
        refine SW.pure rfl rfl rfl rfl (fun w9 => R.mv rfl) ?_
        refine SW.read rfl rfl rfl rfl (fun w9 F9 S9 s => R.ldB (v := URow.val (⟨a9, (r.n + 1) / 2, c9, nextR r.l⟩ : URow)) rfl (s.cel (by repeat (first | exact SelB.blk | exact SelB.fz | apply SelB.there))) (by rfl)) ?_
        refine SW.read rfl rfl rfl rfl (fun w9 F9 S9 s => R.ldB (v := URow.val (⟨a9, (r.n + 1) / 2, c9, nextR r.l⟩ : URow)) rfl (s.cel (by repeat (first | exact SelB.blk | exact SelB.fz | apply SelB.there))) (by rfl)) ?_
        refine SW.step rfl rfl rfl rfl (CS.buildA rfl rfl rfl rfl rfl ([(⟨a9, (r.n + 1) / 2, c9, nextR r.l⟩ : URow)].map URow.val) rfl) ?_
        rintro _ _ ⟨b35, rfl, rfl⟩
        refine ⟨⟨.inr (fun w9 F9 S9 s => R.ldB (v := URow.val (⟨a9, (r.n + 1) / 2, c9, nextR r.l⟩ : URow)) rfl (s.cel (by repeat (first | exact SelB.blk | exact SelB.fz | apply SelB.there))) (by rfl)), ⟨.inl (by decide +kernel), trivial⟩⟩, ?_⟩
        refine SW.step rfl rfl rfl rfl (CS.app rfl rfl (show Sel _ (own 106 1 a5 (rs.length) c5 (rs.map URow.val)) _ from (by repeat (first | exact Sel.keep | exact Sel.here | apply Sel.there))) (fun w9 F9 S9 s => s.blkC (show Sel _ (blk b35 ([(⟨a9, (r.n + 1) / 2, c9, nextR r.l⟩ : URow)].map URow.val) _) _ from (by repeat (first | exact Sel.keep | exact Sel.here | apply Sel.there)))) rfl (by intro u hu; simp only [List.map_cons, List.map_nil, List.mem_singleton] at hu; subst hu; rfl) (by simp [maxLen]; omega) (by omega)) ?_
        rintro _ _ ⟨a36, c36, rfl, rfl⟩
        refine ⟨⟨.inr (fun w9 F9 S9 s => R.ldB (v := URow.val (⟨a9, (r.n + 1) / 2, c9, nextR r.l⟩ : URow)) rfl (s.cel (by repeat (first | exact SelB.blk | exact SelB.fz | apply SelB.there))) (by rfl)), ⟨.inl (by decide +kernel), trivial⟩⟩, ?_⟩
        refine SW.pure rfl rfl rfl rfl (fun w9 => R.as rfl) ?_
        refine SW.step0 rfl rfl rfl (CS.st rfl rfl (show Sel _ (blk b3 _ _) _ from (by repeat (first | exact Sel.keep | exact Sel.here | apply Sel.there))) (by repeat (first | exact SetAt.here | apply SetAt.there)) rfl) ?_
        rintro _ _ rfl
        refine ⟨⟨.inl (by decide +kernel), ⟨.inl (by decide +kernel), trivial⟩⟩, ?_⟩
        refine SW.nil ?_
        refine SN.imp (Imp.both (p := fun w => ∀ r ∈ rs, URow.ok w r) (q := fun w => URow.ok w (⟨a9, (r.n + 1) / 2, c9, nextR r.l⟩ : URow)) (by repeat (first | exact Sel.keep | exact Sel.here | apply Sel.there)) (by repeat (first | exact Sel.keep | exact Sel.here | apply Sel.there))) ?_
        refine SN.imp (Imp.weak (p := fun w => (∀ r ∈ rs, URow.ok w r) ∧ URow.ok w (⟨a9, (r.n + 1) / 2, c9, nextR r.l⟩ : URow)) (q := fun w => ∀ q ∈ rs ++ [(⟨a9, (r.n + 1) / 2, c9, nextR r.l⟩ : URow)], URow.ok w q) (by repeat (first | exact Sel.keep | exact Sel.here | apply Sel.there)) (fun w hw q hq => (List.mem_append.1 hq).elim (hw.1 q) (fun h => by rw [List.mem_singleton.1 h]; exact hw.2))) ?_
        refine SN.imp (Imp.markIn (d := d3) (ds := ds) (by repeat (first | exact Sel.keep | exact Sel.here | apply Sel.there)) (by repeat (first | exact Sel.keep | exact Sel.here | apply Sel.there))) ?_
        refine SN.be 6 rfl (show Value.slice a36 (rs.length + 1) c36 = .slice a36 (rs ++ [(⟨a9, (r.n + 1) / 2, c9, nextR r.l⟩ : URow)]).length c36 by rw [List.length_append]; rfl) ?_
        refine SN.block ?_
        exact SN.againN (⟨rs ++ [(⟨a9, (r.n + 1) / 2, c9, nextR r.l⟩ : URow)], (⟨a9, (r.n + 1) / 2, c9, nextR r.l⟩ : URow), a36, c36, d3 :: ds⟩) rfl (by show (nextR r.l).length < r.l.length; rw [nextR_len]; omega) (Sub.cons rfl (Sub.cons rfl (Sub.nil _))) ((show Imp _ _ by dsimp only; rw [List.length_append, List.map_append]; exact (Imp.sels (by repeat (first | exact Sels.nil | apply Sels.cons | exact Sel.keep | exact Sel.here | apply Sel.there))))) (⟨⟨pre ++ [r.l], by rw [List.map_append, hpre]; rfl, by rw [htr, treeF_more (by omega), List.append_assoc]; rfl⟩, nextR_ok hok, by show (rs ++ [(⟨a9, (r.n + 1) / 2, c9, nextR r.l⟩ : URow)]).length + (nextR r.l).length ≤ 1000; rw [nextR_len, List.length_append]; simp only [List.length_singleton]; omega⟩)
      · rintro d k c _ hk ⟨⟩
    · have h1l : r.l.length ≤ 1 := by omega
      rw [treeF_one h1l, ← hpre] at htr
      refine SG.fact (fun w9 F9 S9 s => s.ownL (show Sel _ (own 106 1 a5 (rs.length) c5 (rs.map URow.val)) _ from (by repeat (first | exact Sel.keep | exact Sel.here | apply Sel.there)))) (fun hf9 => ?_)
      obtain ⟨_, hc5⟩ := hf9
      refine SG.imp (Imp.ownSh (show Sel _ (own 106 1 a5 (rs.length) c5 (rs.map URow.val)) _ from (by repeat (first | exact Sel.keep | exact Sel.here | apply Sel.there))) (p := fun w => Cells w a5 (rs.map URow.val)) (fun w h => h)) ?_
      refine SG.imp (Imp.both (p := fun w => Cells w a5 (rs.map URow.val)) (q := fun w => ∀ r ∈ rs, URow.ok w r) (by repeat (first | exact Sel.keep | exact Sel.here | apply Sel.there)) (by repeat (first | exact Sel.keep | exact Sel.here | apply Sel.there))) ?_
      refine SG.exit _ rfl ?_
      refine SN.seq ?_
      refine SG.seq ?_
      refine SG.region ?_
      refine SL.val rfl rfl (fun w9 F9 S9 s => R.mv rfl) ?_
      refine SL.val rfl rfl (fun w9 F9 S9 s => R.as rfl) ?_
      refine SL.nil ?_
      refine SN.seq ?_
      refine SG.imp (Imp.markOut (ds := ds) (by repeat (first | exact Sel.keep | exact Sel.here | apply Sel.there))) ?_
      exact SG.ret1M rfl rfl (Dfrs.many Dfrs.nil) ((Imp.sels (by repeat (first | exact Sels.nil | apply Sels.cons | exact Sel.keep | exact Sel.here | apply Sel.there)))) (⟨a5, rs.length, c5, rs, rfl, rfl, hc5, htr.symm, rfl⟩)
  · rintro d k c _ hk ⟨⟩

end Go.Proofs.Yteaihincmfbblaa
/-
  The walks of package digest.
-/
set_option linter.unusedVariables false
set_option linter.unusedSimpArgs false
set_option maxRecDepth 4000
namespace Go.Proofs.Yteaihincmfbblaa
open Go Brv
theorem treeF_top : ∀ (n : Nat) (r : List Nat), r.length ≤ n → r ≠ [] → ∃ v, (treeF r).getLast? = some [v]
  | 0, r, h, hr => (hr (List.eq_nil_of_length_eq_zero (by omega))).elim
  | n + 1, r, h, hr => by
    by_cases h1 : r.length ≤ 1
    · rw [treeF_one h1]
      match r, hr, h1 with
      | [v], _, _ => exact ⟨v, rfl⟩
    · have hn : nextR r ≠ [] := fun e => by have := congrArg List.length e; rw [nextR_len] at this; simp at this; omega
      obtain ⟨v, hv⟩ := treeF_top n (nextR r) (by rw [nextR_len]; omega) hn
      obtain ⟨t, ht⟩ := treeF_cons (nextR r)
      refine ⟨v, ?_⟩
      rw [treeF_more h1, ht, List.getLast?_cons_cons, ← ht, hv]
theorem treeF_len : ∀ (n : Nat) (r : List Nat), r.length ≤ n → (treeF r).length ≤ n + 1
  | 0, r, h => by rw [treeF_one (by omega)]; simp
  | n + 1, r, h => by
    by_cases h1 : r.length ≤ 1
    · rw [treeF_one h1]; simp
    · rw [treeF_more h1, List.length_cons]
      have := treeF_len n (nextR r) (by rw [nextR_len]; omega)
      omega
theorem treeD_len (x : List UInt8) : (treeD x).length ≤ x.length / 64 + 1 := by
  unfold treeD
  split
  · simp
  · exact treeF_len _ _ (by rw [sumsT_len]; exact Nat.le_refl _)
/-- A disk's root. -/
def rootD (x : List UInt8) : Nat := ((((treeD x).getLast?).getD [])[0]?).getD 0
theorem treeD_top {x : List UInt8} (h : 1 ≤ x.length / 64) : ∃ v, (treeD x).getLast? = some [v] ∧ rootD x = v := by
  have h2 : treeD x = treeF (sumsT x (x.length / 64)) := if_neg (by omega)
  obtain ⟨v, hv⟩ := treeF_top _ (sumsT x (x.length / 64)) (Nat.le_refl _) (fun e => by have := congrArg List.length e; rw [sumsT_len] at this; simp at this; omega)
  refine ⟨v, by rw [h2, hv], ?_⟩
  unfold rootD
  rw [h2, hv]; rfl
theorem row_topp {Rr : List URow} {x : List UInt8} (hR : Rr.map URow.l = treeD x) {v : Nat} (hv : (treeD x).getLast? = some [v]) : 0 < Rr.length ∧ ∃ r, Rr[Rr.length - 1]? = some r ∧ r.l = [v] := by
  rw [← hR, List.getLast?_eq_getElem?, List.length_map, List.getElem?_map] at hv
  cases hq : Rr[Rr.length - 1]? with
  | none => rw [hq] at hv; cases hv
  | some r =>
    rw [hq] at hv
    exact ⟨by have := (List.getElem?_eq_some_iff.1 hq).1; omega, r, rfl, by simpa using hv⟩
theorem rows_pt {w : World} {a : Option Addr} {i : Nat} {Rr : List URow} {r : URow} (h : Cells w a (Rr.map URow.val)) (hr : Rr[i]? = some r) : ∃ q, a = some q :=
  let ⟨q, hq, _⟩ := h i r.val (by rw [List.getElem?_map, hr]; rfl); ⟨q, hq⟩
theorem rows_ld {w : World} {a : Option Addr} {i : Nat} {Rr : List URow} {r : URow} {q : Addr} (h : Cells w a (Rr.map URow.val)) (hq : a = some q) (hr : Rr[i]? = some r) : w.cell? (q.add ((i : Int).toNat * 1)) = some (.slice r.a r.n r.c) := by
  obtain ⟨p, hp, hc⟩ := h i r.val (by rw [List.getElem?_map, hr]; rfl)
  rw [hq] at hp; cases hp
  rw [Int.toNat_natCast, Nat.mul_one]; exact hc

theorem droot_ok (d g c : Nat) (cur : Array Value) (ps : List Nat) (x : List UInt8) : SpecS Try.prog 26 [.pointer (some ⟨d, 0, none⟩)] [sh (fun w => DiskL w d g c cur ps x)] (fun v9 H' => v9 = .int .u64 (rootD x : Int) ∧ H' = []) := by
  refine SpecS.enter Try.func26 rfl 17 rfl (Nat.le_of_ble_eq_true rfl) (fun o => ?_)
  refine SG.fact (fun w9 F9 S9 s => (s.sh (p := fun w => DiskL w d g c cur ps x) (by repeat (first | exact Sel.keep | exact Sel.here | apply Sel.there))).pos) (fun hf9 => ?_)
  have hpos := hf9; clear hf9
  refine SG.fact (fun w9 F9 S9 s => (s.sh (p := fun w => DiskL w d g c cur ps x) (by repeat (first | exact Sel.keep | exact Sel.here | apply Sel.there))).le) (fun hf9 => ?_)
  have hle := hf9; clear hf9
  obtain ⟨v, hv, hrt⟩ := treeD_top (x := x) hpos
  have htl := treeD_len x
  unfold Image.dn at hle
  refine SG.seq ?_
  refine SG.region ?_
  refine SL.val rfl rfl (fun w9 F9 S9 s => R.as rfl) ?_
  refine SL.nil ?_
  refine SN.seq ?_
  refine SG.seq ?_
  refine SG.region ?_
  refine SL.val rfl rfl (fun w9 F9 S9 s => R.mv rfl) ?_
  refine SL.step rfl rfl (CS.call rfl go47 (dtree_ok d g c cur ps x) (by repeat (first | exact Sels.nil | apply Sels.cons | exact Sel.keep | exact Sel.here | apply Sel.there))) ?_
  rintro _ _ ⟨_, ⟨a5, n5, c5, Rr, rfl, rfl, hc5, hRr, rfl⟩, rfl⟩
  refine SL.n1 ?_
  obtain ⟨hRl, r9, hr9, hrl9⟩ := row_topp hRr hv
  rw [← hRr, List.length_map] at htl
  refine SL.val rfl rfl (fun w9 F9 S9 s => R.as rfl) ?_
  refine SL.nil ?_
  refine SN.seq ?_
  refine SG.seq ?_
  refine SG.seq ?_
  refine SG.region ?_
  refine SL.val rfl rfl (fun w9 F9 S9 s => R.mv rfl) ?_
  refine SL.val rfl rfl (fun w9 F9 S9 s => R.lenS rfl) ?_
  refine SL.val rfl rfl (fun w9 F9 S9 s => R.eqI rfl rfl) ?_
  refine SL.nil ?_
  refine SN.seq ?_
  refine SG.condP rfl (fun h0 => ?_) (fun h0 => ?_)
  · exfalso; omega
  · have hrm := List.mem_of_getElem? hr9
    refine SG.fact (fun w9 F9 S9 s => rows_pt (s.sh (p := (fun w => Cells w a5 (Rr.map URow.val) ∧ ∀ r ∈ Rr, URow.ok w r)) (by repeat (first | exact Sel.keep | exact Sel.here | apply Sel.there))).1 hr9) (fun hf9 => ?_)
    obtain ⟨q, hq⟩ := hf9
    refine SG.fact (fun w9 F9 S9 s => ((s.sh (p := (fun w => Cells w a5 (Rr.map URow.val) ∧ ∀ r ∈ Rr, URow.ok w r)) (by repeat (first | exact Sel.keep | exact Sel.here | apply Sel.there))).2 r9 hrm).len) (fun hf9 => ?_)
    have hn9 := hf9; clear hf9
    have hl1 : r9.l.length = 1 := by rw [hrl9]; rfl
    have hr0 : r9.l[0]? = some v := by rw [hrl9]; rfl
    refine SG.fact (fun w9 F9 S9 s => us_pt ((s.sh (p := (fun w => Cells w a5 (Rr.map URow.val) ∧ ∀ r ∈ Rr, URow.ok w r)) (by repeat (first | exact Sel.keep | exact Sel.here | apply Sel.there))).2 r9 hrm).cells hr0) (fun hf9 => ?_)
    obtain ⟨q2, hq2⟩ := hf9
    refine SG.skip ?_
    refine SN.seq ?_
    refine SG.seq ?_
    refine SG.region ?_
    refine SL.val rfl rfl (fun w9 F9 S9 s => R.mv rfl) ?_
    refine SL.val rfl rfl (fun w9 F9 S9 s => R.mv rfl) ?_
    refine SL.val rfl rfl (fun w9 F9 S9 s => R.lenS rfl) ?_
    refine SL.val rfl rfl (fun w9 F9 S9 s => R.sub' rfl rfl (by omega)) ?_
    refine SL.be 12 rfl (congrArg (Value.int .i64) (show (Rr.length : Int) - 1 = ((Rr.length - 1 : Nat) : Int) by omega)) ?_
    refine SL.val rfl rfl (fun w9 F9 S9 s => R.idx rfl rfl (by omega) (by omega) q hq) ?_
    refine SL.val rfl rfl (fun w9 F9 S9 s => R.ld (v := .slice r9.a r9.n r9.c) rfl (rows_ld (s.sh (p := (fun w => Cells w a5 (Rr.map URow.val) ∧ ∀ r ∈ Rr, URow.ok w r)) (by repeat (first | exact Sel.keep | exact Sel.here | apply Sel.there))).1 hq hr9)) ?_
    refine SL.val rfl rfl (fun w9 F9 S9 s => R.idx (i := 0) rfl rfl (by omega) (by omega) q2 hq2) ?_
    refine SL.val rfl rfl (fun w9 F9 S9 s => R.ld (v := .int .u64 (v : Int)) rfl (us_ld (i := 0) ((s.sh (p := (fun w => Cells w a5 (Rr.map URow.val) ∧ ∀ r ∈ Rr, URow.ok w r)) (by repeat (first | exact Sel.keep | exact Sel.here | apply Sel.there))).2 r9 hrm).cells hq2 hr0)) ?_
    refine SL.val rfl rfl (fun w9 F9 S9 s => R.as rfl) ?_
    refine SL.nil ?_
    refine SN.seq ?_
    exact SG.ret1 rfl rfl (Imp.sels Sels.nil) (⟨by rw [hrt], rfl⟩)

end Go.Proofs.Yteaihincmfbblaa
/-
  The walks of package image.
-/
set_option linter.unusedVariables false
set_option linter.unusedSimpArgs false
namespace Go.Proofs.Yteaihincmfbblaa
open Go Brv Brv.Image
def num (i : Nat) : Value := .int .i64 (i : Int)
def nums (l : List Nat) : List Value := l.map num
theorem nums_append (a b : List Nat) : nums (a ++ b) = nums a ++ nums b := by simp [nums]
structure DfSt where
  i : Nat
  a1 : Option Addr
  c1 : Nat
  M : List Nat

theorem idiff_ok (da db : Option Addr) (x y : List UInt8) (w : World) (hx : DiskO w da x) (hy : DiskO w db y) : Meets Try.prog 23 [.pointer da, .pointer db] w (Cloned w 3 1 (diffF x y).length (nums (diffF x y))) := by
  refine Meets.enter Try.func23 rfl 51 rfl (Nat.le_of_ble_eq_true rfl) ?_
  have E := Ext.refl [] w
  have hx0 := hx.len
  have hy0 := hy.len
  refine G.seq ?_
  refine G.region ?_
  refine L.val rfl rfl (R.as rfl) ?_
  refine L.nil ?_
  refine N.seq ?_
  refine G.seq ?_
  refine G.region ?_
  refine L.val rfl rfl (R.as rfl) ?_
  refine L.nil ?_
  refine N.seq ?_
  refine G.seq ?_
  refine G.region ?_
  refine L.val rfl rfl (R.mv rfl) ?_
  refine L.callF rfl rfl rfl go13 (iblocks_ok da x _ hx) ?_
  rintro _ _ ⟨rfl, hw⟩
  obtain rfl := hw.symm
  refine L.val rfl rfl (R.mv rfl) ?_
  refine L.callF rfl rfl rfl go13 (iblocks_ok db y _ hy) ?_
  rintro _ _ ⟨rfl, hw⟩
  obtain rfl := hw.symm
  refine L.val rfl rfl (R.min rfl rfl ((min (dn x) (dn y) : Nat) : Int) (by split <;> omega)) ?_
  refine L.val rfl rfl (R.as rfl) ?_
  refine L.nil ?_
  refine N.seq ?_
  refine G.seq ?_
  refine G.seq ?_
  refine G.region ?_
  refine L.val rfl rfl (R.mv rfl) ?_
  refine L.callF rfl rfl rfl go13 (iblocks_ok da x _ hx) ?_
  rintro _ _ ⟨rfl, hw⟩
  obtain rfl := hw.symm
  refine L.val rfl rfl (R.mv rfl) ?_
  refine L.callF rfl rfl rfl go13 (iblocks_ok db y _ hy) ?_
  rintro _ _ ⟨rfl, hw⟩
  obtain rfl := hw.symm
  refine L.val rfl rfl (R.max rfl rfl ((max (dn x) (dn y) : Nat) : Int) (by split <;> omega)) ?_
  refine L.val rfl rfl (R.mv rfl) ?_
  refine L.nil ?_
  refine N.seq ?_
  refine G.block ?_
  refine G.loop (X := DfSt) (fun s => [(0, .pointer da), (1, .pointer db), (5, .slice s.a1 (diffN x y s.i).length s.c1), (6, .int .i64 ((min (dn x) (dn y) : Nat) : Int)), (17, .int .i64 ((max (dn x) (dn y) : Nat) : Int)), (18, .int .i64 (s.i : Int))]) (fun s w' => s.i ≤ max (dn x) (dn y) ∧ Own w' 3 1 s.a1 (diffN x y s.i).length s.c1 (nums (diffN x y s.i)) s.M ∧ (∀ g ∈ s.M, w.heap.size ≤ g) ∧ Ext [] w w') (fun s => max (dn x) (dn y) - s.i) (⟨0, none, 0, []⟩) (Sub.cons rfl (Sub.cons rfl (Sub.cons rfl (Sub.cons rfl (Sub.cons rfl (Sub.cons rfl (Sub.nil _))))))) ⟨Nat.zero_le _, Own.nil _ _ _, by simp, E⟩ ?_
  rintro ⟨i, a1, c1, M⟩ w1 ⟨hi, o1, hM, E⟩
  dsimp only at hi o1 hM
  refine G.sub [(0, .pointer da), (1, .pointer db), (5, .slice a1 (diffN x y i).length c1), (6, .int .i64 ((min (dn x) (dn y) : Nat) : Int)), (17, .int .i64 ((max (dn x) (dn y) : Nat) : Int)), (18, .int .i64 (i : Int))] (Sub.cons rfl (Sub.cons rfl (Sub.cons rfl (Sub.cons rfl (Sub.cons rfl (Sub.cons rfl (Sub.nil _))))))) ?_
  replace hx := hx.ext0 E
  replace hy := hy.ext0 E
  refine G.seq ?_
  refine G.region ?_
  refine L.val rfl rfl (R.lss rfl rfl) ?_
  refine L.nil ?_
  refine N.seq ?_
  refine G.seq ?_
  refine G.condP rfl (fun h0 => ?_) (fun h0 => ?_)
  · refine G.skip ?_
    refine N.seq ?_
    refine G.seq ?_
    refine G.block ?_
    refine G.seq ?_
    refine G.region ?_
    refine L.val rfl rfl (R.mv rfl) ?_
    refine L.val rfl rfl (R.as rfl) ?_
    refine L.nil ?_
    refine N.seq ?_
    refine G.seq ?_
    refine G.quiet (by decide +kernel) rfl ?_
    refine Q.val rfl rfl rfl rfl (fun w2 hE => R.mv rfl) ?_
    refine Q.val rfl rfl rfl rfl (fun w2 hE => R.mv rfl) ?_
    refine Q.val rfl rfl rfl rfl (fun w2 hE => R.geq rfl rfl) ?_
    refine Q.val rfl rfl rfl rfl (fun w2 hE => R.mv rfl) ?_
    refine Q.caseP 24 rfl (fun hg6_3 => ?_) (fun hg6_3 => ?_)
    · have hne : blk x i ≠ blk y i := by
        rcases Nat.lt_or_ge i (dn x) with h | h
        · rw [blk_ge hy0.1 (show dn y ≤ i by omega)]; intro e; have := blk_length h; rw [e] at this; cases this
        · rw [blk_ge hx0.1 h]; intro e; have := blk_length (x := y) (k := i) (by omega); rw [← e] at this; cases this
      refine Q.pass rfl rfl rfl ?_
      refine Q.pass rfl rfl rfl ?_
      refine Q.pass rfl rfl rfl ?_
      refine Q.pass rfl rfl rfl ?_
      refine Q.pass rfl rfl rfl ?_
      refine Q.pass rfl rfl rfl ?_
      refine Q.pass rfl rfl rfl ?_
      refine Q.pass rfl rfl rfl ?_
      refine Q.pass rfl rfl rfl ?_
      refine Q.pass rfl rfl rfl ?_
      refine Q.pass rfl rfl rfl ?_
      refine Q.pass rfl rfl rfl ?_
      refine Q.pass rfl rfl rfl ?_
      refine Q.pass rfl rfl rfl ?_
      refine Q.pass rfl rfl rfl ?_
      refine Q.pass rfl rfl rfl ?_
      refine Q.pass rfl rfl rfl ?_
      refine Q.pass rfl rfl rfl ?_
      refine Q.pass rfl rfl rfl ?_
      first | refine Q.val rfl rfl rfl rfl (fun w2 hE => R.pickT rfl rfl) ?_ | refine Q.val rfl rfl rfl rfl (fun w2 hE => R.pickF rfl rfl) ?_
      refine Q.nil (fun w2 e2 => ?_)
      replace E := E.trans0 e2
      replace o1 := o1.ext0 e2
      refine N.seq ?_
      refine G.condT rfl ?_
      refine G.region ?_
      refine L.val rfl rfl (R.mv rfl) ?_
      refine L.val rfl rfl (R.mv rfl) ?_
      refine L.do rfl rfl (R.buildA rfl rfl rfl rfl rfl) ?_
      rintro _ w3 ⟨b47, rfl, hb47, hs47, e3, B47⟩
      have hE3 := E.size
      replace E := E.trans0 e3
      replace o1 := o1.ext0 e3
      refine L.do rfl rfl (R.app rfl rfl o1 (Cells.of_blk B47 0 [num i] (fun j v hj => by cases j with | zero => exact hj | succ j => simp at hj)) rfl (by simp [num, Value.oneCell']) (by have := diffN_length x y i; simp [maxLen]; omega) (by have := diffN_length x y i; omega)) ?_
      rintro _ w4 ⟨a3, c3, M3, rfl, e4, hM3, o3⟩
      have hE4 := E.size
      replace E : Ext [] w w4 := E.trans e4 (by simp) (fun g hg => .inr (hM g hg))
      replace hM3 : ∀ g ∈ M3, w.heap.size ≤ g := fun g hg => (hM3 g hg).elim (hM g) (fun h => by omega)
      replace o3 : Own w4 3 1 a3 (diffN x y (i + 1)).length c3 (nums (diffN x y (i + 1))) M3 := by rw [diffN_succ, if_pos hne, nums_append, List.length_append]; exact o3
      refine L.be 48 rfl (show _ = Value.slice a3 (diffN x y (i + 1)).length c3 by rw [diffN_succ, if_pos hne, List.length_append]; rfl) ?_
      refine L.val rfl rfl (R.as rfl) ?_
      refine L.nil ?_
      refine N.block ?_
      refine N.seq ?_
      refine G.region ?_
      refine L.val rfl rfl (R.add rfl rfl (by omega)) ?_
      refine L.val rfl rfl (R.mv rfl) ?_
      refine L.nil ?_
      first
        | exact N.again (X := DfSt) ⟨i + 1, a3, c3, M3⟩ (by show max (dn x) (dn y) - (i + 1) < max (dn x) (dn y) - i; omega) (Sub.cons rfl (Sub.cons rfl (Sub.cons rfl (Sub.cons rfl (Sub.cons rfl (Sub.cons rfl (Sub.nil _))))))) ⟨by show i + 1 ≤ _; omega, o3, hM3, E⟩
        | exact N.again (X := DfSt) ⟨i + 1, a1, c1, M⟩ (by show max (dn x) (dn y) - (i + 1) < max (dn x) (dn y) - i; omega) (Sub.cons rfl (Sub.cons rfl (Sub.cons rfl (Sub.cons rfl (Sub.cons rfl (Sub.cons rfl (Sub.nil _))))))) ⟨by show i + 1 ≤ _; omega, by show Own _ _ 1 a1 _ c1 (nums (diffN x y (i + 1))) M; rw [diffN_succ, if_neg hne, List.append_nil]; exact o1, hM, E⟩
    · have hix : i < dn x := by omega
      have hiy : i < dn y := by omega
      obtain ⟨b1, rfl, g1, k1, cur1, ps1, D1⟩ := hx.pos (by omega)
      obtain ⟨b2, rfl, g2, k2, cur2, ps2, D2⟩ := hy.pos (by omega)
      obtain ⟨z1, hz1, Z1⟩ := D1.ptr hix
      obtain ⟨z2, hz2, Z2⟩ := D2.ptr hiy
      have hs1 := blk_length hix
      have hs2 := blk_length hiy
      refine Q.val rfl rfl rfl rfl (fun w2 hE => R.mv rfl) ?_
      refine Q.val rfl rfl rfl rfl (fun w2 hE => R.nilChk rfl) ?_
      refine Q.val rfl rfl rfl rfl (fun w2 hE => R.fld rfl) ?_
      refine Q.val rfl rfl rfl rfl (fun w2 hE => R.ldB rfl (D1.hd.ext0 hE) rfl) ?_
      refine Q.val rfl rfl rfl rfl (fun w2 hE => R.mv rfl) ?_
      refine Q.val rfl rfl rfl rfl (fun w2 hE => R.idx rfl rfl (by omega) (by omega) _ rfl) ?_
      refine Q.val rfl rfl rfl rfl (fun w2 hE => R.ld rfl (v := ptr z1) (by rw [Go.Addr.add_lit]; simpa using ((D1.hg.ext0 hE).cell i).trans hz1)) ?_
      refine Q.val rfl rfl rfl rfl (fun w2 hE => R.nilChk rfl) ?_
      refine Q.val rfl rfl rfl rfl (fun w2 hE => R.ldBN rfl (Z1.ext0 hE) (by simp [vbs_length, hs1])) ?_
      refine Q.val rfl rfl rfl rfl (fun w2 hE => R.mv rfl) ?_
      refine Q.val rfl rfl rfl rfl (fun w2 hE => R.nilChk rfl) ?_
      refine Q.val rfl rfl rfl rfl (fun w2 hE => R.fld rfl) ?_
      refine Q.val rfl rfl rfl rfl (fun w2 hE => R.ldB rfl (D2.hd.ext0 hE) rfl) ?_
      refine Q.val rfl rfl rfl rfl (fun w2 hE => R.mv rfl) ?_
      refine Q.val rfl rfl rfl rfl (fun w2 hE => R.idx rfl rfl (by omega) (by omega) _ rfl) ?_
      refine Q.val rfl rfl rfl rfl (fun w2 hE => R.ld rfl (v := ptr z2) (by rw [Go.Addr.add_lit]; simpa using ((D2.hg.ext0 hE).cell i).trans hz2)) ?_
      refine Q.val rfl rfl rfl rfl (fun w2 hE => R.nilChk rfl) ?_
      refine Q.val rfl rfl rfl rfl (fun w2 hE => R.ldBN rfl (Z2.ext0 hE) (by simp [vbs_length, hs2])) ?_
      refine Q.val rfl rfl rfl rfl (fun w2 hE => R.neArr rfl rfl hs1 hs2) ?_
      first | refine Q.val rfl rfl rfl rfl (fun w2 hE => R.pickT rfl rfl) ?_ | refine Q.val rfl rfl rfl rfl (fun w2 hE => R.pickF rfl rfl) ?_
      refine Q.nil (fun w2 e2 => ?_)
      replace E := E.trans0 e2
      replace o1 := o1.ext0 e2
      refine N.seq ?_
      refine G.condP rfl (fun h1 => ?_) (fun h1 => ?_)
      · have hne : blk x i ≠ blk y i := h1
        refine G.region ?_
        refine L.val rfl rfl (R.mv rfl) ?_
        refine L.val rfl rfl (R.mv rfl) ?_
        refine L.do rfl rfl (R.buildA rfl rfl rfl rfl rfl) ?_
        rintro _ w3 ⟨b47, rfl, hb47, hs47, e3, B47⟩
        have hE3 := E.size
        replace E := E.trans0 e3
        replace o1 := o1.ext0 e3
        refine L.do rfl rfl (R.app rfl rfl o1 (Cells.of_blk B47 0 [num i] (fun j v hj => by cases j with | zero => exact hj | succ j => simp at hj)) rfl (by simp [num, Value.oneCell']) (by have := diffN_length x y i; simp [maxLen]; omega) (by have := diffN_length x y i; omega)) ?_
        rintro _ w4 ⟨a3, c3, M3, rfl, e4, hM3, o3⟩
        have hE4 := E.size
        replace E : Ext [] w w4 := E.trans e4 (by simp) (fun g hg => .inr (hM g hg))
        replace hM3 : ∀ g ∈ M3, w.heap.size ≤ g := fun g hg => (hM3 g hg).elim (hM g) (fun h => by omega)
        replace o3 : Own w4 3 1 a3 (diffN x y (i + 1)).length c3 (nums (diffN x y (i + 1))) M3 := by rw [diffN_succ, if_pos hne, nums_append, List.length_append]; exact o3
        refine L.be 48 rfl (show _ = Value.slice a3 (diffN x y (i + 1)).length c3 by rw [diffN_succ, if_pos hne, List.length_append]; rfl) ?_
        refine L.val rfl rfl (R.as rfl) ?_
        refine L.nil ?_
        refine N.block ?_
        refine N.seq ?_
        refine G.region ?_
        refine L.val rfl rfl (R.add rfl rfl (by omega)) ?_
        refine L.val rfl rfl (R.mv rfl) ?_
        refine L.nil ?_
        first
          | exact N.again (X := DfSt) ⟨i + 1, a3, c3, M3⟩ (by show max (dn x) (dn y) - (i + 1) < max (dn x) (dn y) - i; omega) (Sub.cons rfl (Sub.cons rfl (Sub.cons rfl (Sub.cons rfl (Sub.cons rfl (Sub.cons rfl (Sub.nil _))))))) ⟨by show i + 1 ≤ _; omega, o3, hM3, E⟩
          | exact N.again (X := DfSt) ⟨i + 1, a1, c1, M⟩ (by show max (dn x) (dn y) - (i + 1) < max (dn x) (dn y) - i; omega) (Sub.cons rfl (Sub.cons rfl (Sub.cons rfl (Sub.cons rfl (Sub.cons rfl (Sub.cons rfl (Sub.nil _))))))) ⟨by show i + 1 ≤ _; omega, by show Own _ _ 1 a1 _ c1 (nums (diffN x y (i + 1))) M; rw [diffN_succ, if_neg hne, List.append_nil]; exact o1, hM, E⟩
      · have hne : ¬ blk x i ≠ blk y i := h1
        refine G.be 5 rfl (show _ = Value.slice a1 (diffN x y (i + 1)).length c1 by rw [diffN_succ, if_neg hne, List.append_nil]) ?_
        refine G.skip ?_
        refine N.block ?_
        refine N.seq ?_
        refine G.region ?_
        refine L.val rfl rfl (R.add rfl rfl (by omega)) ?_
        refine L.val rfl rfl (R.mv rfl) ?_
        refine L.nil ?_
        first
          | exact N.again (X := DfSt) ⟨i + 1, a3, c3, M3⟩ (by show max (dn x) (dn y) - (i + 1) < max (dn x) (dn y) - i; omega) (Sub.cons rfl (Sub.cons rfl (Sub.cons rfl (Sub.cons rfl (Sub.cons rfl (Sub.cons rfl (Sub.nil _))))))) ⟨by show i + 1 ≤ _; omega, o3, hM3, E⟩
          | exact N.again (X := DfSt) ⟨i + 1, a1, c1, M⟩ (by show max (dn x) (dn y) - (i + 1) < max (dn x) (dn y) - i; omega) (Sub.cons rfl (Sub.cons rfl (Sub.cons rfl (Sub.cons rfl (Sub.cons rfl (Sub.cons rfl (Sub.nil _))))))) ⟨by show i + 1 ≤ _; omega, by show Own _ _ 1 a1 _ c1 (nums (diffN x y (i + 1))) M; rw [diffN_succ, if_neg hne, List.append_nil]; exact o1, hM, E⟩
  · obtain rfl : i = max (dn x) (dn y) := by omega
    refine G.exit _ rfl ?_
    refine N.seq ?_
    refine G.seq ?_
    refine G.region ?_
    refine L.val rfl rfl (R.mv rfl) ?_
    refine L.val rfl rfl (R.as rfl) ?_
    refine L.nil ?_
    refine N.seq ?_
    refine G.ret1 rfl rfl ?_
    exact ⟨a1, c1, M, rfl, E, o1, hM⟩

end Go.Proofs.Yteaihincmfbblaa
/-
  The walks of package image.
-/
set_option linter.unusedVariables false
set_option linter.unusedSimpArgs false
namespace Go.Proofs.Yteaihincmfbblaa
open Go Brv Brv.Image
end Go.Proofs.Yteaihincmfbblaa
/-
  The writes among the arguments of the laws on image.
-/
set_option linter.unusedVariables false
namespace Go.Proofs.Yteaihincmfbblaa
open Go Brv
structure WriteV where
  mk ::
  (Block' : Int)
  (B'a : Option Addr) (B'n B'c : Nat) (B' : List UInt8)
def WriteV.cells (o : WriteV) : List Value := [.int .i64 o.Block', .slice o.B'a o.B'n o.B'c]
def WriteV.ok (w : World) (o : WriteV) : Prop := (Lit.int .i64 o.Block').wf = true ∧ (o.B'n ≤ o.B'c ∧ o.B'c ≤ 140737488351232 ∧ Bs w o.B'a o.B'n o.B')
theorem WriteV.ok.ext0 {w w' : World} {o : WriteV} (h : o.ok w) (he : Ext [] w w') : o.ok w' := by
  obtain ⟨h0, h1⟩ := h
  exact ⟨h0, ⟨h1.1, h1.2.1, h1.2.2.ext0 he⟩⟩
theorem WriteV.cells.length (o : WriteV) : o.cells.length = 2 := rfl
theorem WriteV.cells.one (o : WriteV) : ∀ u ∈ o.cells.toArray.toList, u.oneCell' = true := by
  intro u hu
  simp only [WriteV.cells, List.mem_cons, List.not_mem_nil, or_false] at hu
  rcases hu with rfl | rfl <;> rfl
end Go.Proofs.Yteaihincmfbblaa
/-
  The walks of package image.
-/
set_option linter.unusedVariables false
set_option linter.unusedSimpArgs false
namespace Go.Proofs.Yteaihincmfbblaa
open Go Brv Brv.Image
theorem DiskO.isNil {w : World} {d : Option Addr} {x : List UInt8} (h : DiskO w d x) : d.isNone = decide (x = []) := by
  rcases h with ⟨rfl, rfl⟩ | ⟨b, rfl, h⟩
  · rfl
  · have := h.len
    have hx : x ≠ [] := fun e => by subst e; exact absurd this.2.2 (by decide)
    simp [hx]
def wv (o : WriteV) : Int × List UInt8 := (o.Block', o.B')
theorem isame_ok (da db : Option Addr) (x y : List UInt8) (w : World) (hx : DiskO w da x) (hy : DiskO w db y) : Meets Try.prog 12 [.pointer da, .pointer db] w (fun v w' => v = .bool (decide (x = y)) ∧ Ext [] w w') := by
  refine Meets.enter Try.func12 rfl 17 rfl (Nat.le_of_ble_eq_true rfl) ?_
  have E := Ext.refl [] w
  have hxn := hx.isNil
  have hyn := hy.isNil
  have hdn := diff_nil hx.len.1 hy.len.1
  refine G.seq ?_
  refine G.region ?_
  refine L.val rfl rfl (R.as rfl) ?_
  refine L.nil ?_
  refine N.seq ?_
  refine G.seq ?_
  refine G.region ?_
  refine L.val rfl rfl (R.mv rfl) ?_
  refine L.val rfl rfl (R.eqNilP rfl rfl) ?_
  refine L.val rfl rfl (R.mv rfl) ?_
  refine L.val rfl rfl (R.eqNilP rfl rfl) ?_
  refine L.val rfl rfl (R.eqB rfl rfl) ?_
  refine L.val rfl rfl (R.mv rfl) ?_
  refine L.caseB 10 rfl (fun hg1_5 => ?_) (fun hg1_5 => ?_)
  · refine L.val rfl rfl (R.mv rfl) ?_
    refine L.val rfl rfl (R.mv rfl) ?_
    refine L.callF rfl rfl rfl go23 (idiff_ok da db x y _ hx hy) ?_
    rintro _ w1 ⟨a1, c1, M1, rfl, e1, o1, hM1⟩
    replace E := E.trans0 e1
    refine L.val rfl rfl (R.lenS rfl) ?_
    refine L.val rfl rfl (R.eqI rfl rfl) ?_
    first | refine L.val rfl rfl (R.pickT rfl rfl) ?_ | refine L.val rfl rfl (R.pickF rfl rfl) ?_
    refine L.val rfl rfl (R.as rfl) ?_
    refine L.nil ?_
    refine N.seq ?_
    refine G.ret1 rfl rfl ?_
    exact ⟨congrArg Value.bool (by rw [decide_eq_decide, ← hdn, ← List.length_eq_zero_iff]; omega), E⟩
  · refine L.pass rfl rfl ?_
    refine L.pass rfl rfl ?_
    refine L.pass rfl rfl ?_
    refine L.pass rfl rfl ?_
    refine L.pass rfl rfl ?_
    first | refine L.val rfl rfl (R.pickT rfl rfl) ?_ | refine L.val rfl rfl (R.pickF rfl rfl) ?_
    refine L.val rfl rfl (R.as rfl) ?_
    refine L.nil ?_
    refine N.seq ?_
    refine G.ret1 rfl rfl ?_
    have hne : x ≠ y := fun e => by subst e; rw [hxn, hyn] at hg1_5; simp at hg1_5
    exact ⟨congrArg Value.bool (decide_eq_false hne).symm, E⟩



end Go.Proofs.Yteaihincmfbblaa
/-
  The walks of package image.
-/
set_option linter.unusedVariables false
set_option linter.unusedSimpArgs false
namespace Go.Proofs.Yteaihincmfbblaa
open Go Brv Brv.Image
theorem Blks.put {w w' : World} {qs : List Nat} {y s : List UInt8} {gl j z : Nat} {cur : Array Value} (h : Blks w qs y) (he : Ext [gl] w w') (hl : Blk w gl cur 98 (0, 0)) (hz : Blk w z (vbs s).toArray 102 (0, 0)) (hs : s.length = 64) (hj : j < dn y) : Blks w' (qs.set j z) (laid y j s) := by
  refine ⟨by rw [List.length_set, laid_dn hs hj]; exact h.len, fun k hk => ?_⟩
  rw [List.length_set] at hk
  rw [laid_blk hs hj, List.getElem_set]
  by_cases e : j = k
  · subst e
    rw [if_pos rfl, if_pos rfl]
    exact hz.ext he (fun hm => hz.ne hl (by decide) (List.mem_singleton.1 hm))
  · rw [if_neg e, if_neg (fun e' => e e'.symm)]
    exact (h.each k hk).ext he (fun hm => (h.each k hk).ne hl (by decide) (List.mem_singleton.1 hm))

theorem iwith_ok (d : Nat) (x : List UInt8) (la : Option Addr) (ln lc : Nat) (ws : List WriteV) (w : World) (hd : DiskAt w d x) (hT : Tab w la ln 2 (ws.map WriteV.cells)) (hO : ∀ o ∈ ws, Bs w o.B'a o.B'n o.B') (hln : ln ≤ 1000000) : Meets Try.prog 21 [.pointer (some ⟨d, 0, none⟩), .slice la ln lc] w (fun v w' => Ext [] w w' ∧ ((withF x (ws.map wv)).2 = 0 → ∃ d', v = .tuple #[ptr d', .int .i64 0] ∧ DiskAt w' d' (withF x (ws.map wv)).1) ∧ ((withF x (ws.map wv)).2 ≠ 0 → v = .tuple #[.pointer none, .int .i64 (withF x (ws.map wv)).2])) := by
  refine Meets.enter Try.func21 rfl 57 rfl (Nat.le_of_ble_eq_true rfl) ?_
  have E := Ext.refl [] w
  have hn := hT.len
  rw [List.length_map] at hn
  obtain ⟨g, c, cur, ps, hD0⟩ := hd
  have D := hD0
  have hx64 := D.le
  have hpl := D.hb.len
  refine G.seq ?_
  refine G.region ?_
  refine L.val rfl rfl (R.as rfl) ?_
  refine L.val rfl rfl (R.as rfl) ?_
  refine L.nil ?_
  refine N.seq ?_
  refine G.seq ?_
  refine G.seq ?_
  refine G.region ?_
  refine L.val rfl rfl (R.mv rfl) ?_
  refine L.val rfl rfl (R.eqNilP rfl rfl) ?_
  refine L.nil ?_
  refine N.seq ?_
  refine G.condF rfl ?_
  refine G.skip ?_
  refine N.seq ?_
  refine G.seq ?_
  refine G.region ?_
  refine L.val rfl rfl (R.mv rfl) ?_
  refine L.val rfl rfl (R.nilChk rfl) ?_
  refine L.val rfl rfl (R.fld rfl) ?_
  refine L.val rfl rfl (R.ldB rfl D.hd rfl) ?_
  refine L.callF rfl rfl rfl go45 (pclone_ok (some ⟨g, 0, none⟩) (dn x) c (ps.map ptr) _ D.cells (by simp [hpl]) (ptrs_one ps) (by omega)) ?_
  rintro _ w1 ⟨a6, c6, M6, rfl, e1, o6, hM6⟩
  replace E := E.trans0 e1
  replace D := D.ext0 e1
  refine L.val rfl rfl (R.build (cs := #[.slice a6 (dn x) c6]) rfl rfl) ?_
  refine L.do rfl rfl (R.box rfl) ?_
  rintro _ w2 ⟨b18, rfl, hb18, hs18, e2, B6⟩
  replace E := E.trans0 e2
  replace D := D.ext0 e2
  replace o6 := o6.ext0 e2
  refine L.val rfl rfl (R.as rfl) ?_
  refine L.nil ?_
  refine N.seq ?_
  refine G.seq ?_
  refine G.seq ?_
  refine G.region ?_
  refine L.val rfl rfl (R.mv rfl) ?_
  refine L.val rfl rfl (R.lenS rfl) ?_
  refine L.val rfl rfl (R.mv rfl) ?_
  refine L.nil ?_
  refine N.seq ?_
  refine G.block ?_
  refine G.loop (X := Nat × List UInt8 × List Nat) (fun s => [(0, .pointer (some ⟨d, 0, none⟩)), (6, .pointer (some ⟨b18, 0, none⟩)), (19, .slice la ln lc), (20, .int .i64 (ln : Int)), (21, .int .i64 (s.1 : Int))]) (fun s w' => s.1 ≤ ln ∧ s.2.1.length = x.length ∧ withF x (ws.map wv) = withF s.2.1 ((ws.map wv).drop s.1) ∧ Ext [] w w' ∧ Blk w' b18 #[.slice a6 (dn x) c6] 84 (0, 0) ∧ Own w' 98 1 a6 (dn x) c6 (s.2.2.map ptr) M6 ∧ Blks w' s.2.2 s.2.1) (fun s => ln - s.1) ((0, x, ps)) (Sub.cons rfl (Sub.cons rfl (Sub.cons rfl (Sub.cons rfl (Sub.cons rfl (Sub.nil _)))))) ⟨Nat.zero_le _, rfl, rfl, E, B6, o6, D.hb⟩ ?_
  rintro ⟨i, y, qs⟩ w1 ⟨hi, hyl, hiw, E, B6, o6, hB⟩
  dsimp only at hi hyl hiw o6 hB
  refine G.sub [(0, .pointer (some ⟨d, 0, none⟩)), (6, .pointer (some ⟨b18, 0, none⟩)), (19, .slice la ln lc), (20, .int .i64 (ln : Int)), (21, .int .i64 (i : Int))] (Sub.cons rfl (Sub.cons rfl (Sub.cons rfl (Sub.cons rfl (Sub.cons rfl (Sub.nil _)))))) ?_
  have hdy : dn y = dn x := by unfold dn; rw [hyl]
  have D := hD0.ext0 E
  refine G.seq ?_
  refine G.region ?_
  refine L.val rfl rfl (R.lss rfl rfl) ?_
  refine L.nil ?_
  refine N.seq ?_
  refine G.seq ?_
  refine G.condP rfl (fun h1 => ?_) (fun h1 => ?_)
  · refine G.skip ?_
    refine N.seq ?_
    refine G.seq ?_
    refine G.block ?_
    refine G.seq ?_
    refine G.region ?_
    have hdr : (ws.map wv).drop i = wv (ws[i]'(by omega)) :: (ws.map wv).drop (i + 1) := by rw [List.drop_eq_getElem_cons (by rw [List.length_map]; omega), List.getElem_map]
    obtain ⟨q9, hq9, hcl⟩ := hT.at (by decide) i (by rw [List.length_map]; omega)
    rw [List.getElem_map] at hcl
    have hok' := hO _ (List.getElem_mem (show i < ws.length by omega))
    generalize hoe : ws[i]'(by omega) = o at *
    refine L.val rfl rfl (R.idx rfl rfl (by omega) (by omega) q9 hq9) ?_
    refine L.val rfl rfl (R.ldN rfl (hcl.ext0 E) rfl) ?_
    refine L.do rfl rfl (R.alloc) ?_
    rintro _ w2 ⟨b9, rfl, hb9, hs9, e2, B9⟩
    have hEb := E.size
    replace E := E.trans0 e2
    refine L.set rfl (R.stN rfl rfl B9 rfl (Nat.le_refl 2) (WriteV.cells.one _)) ?_
    rintro w3 ⟨e3, hs3, B9⟩
    replace B9 : Blk w3 b9 o.cells.toArray 56 (0, 0) := B9
    replace E := E.trans e3 (M := []) (by simp) (by intro x hx; rw [List.mem_singleton.1 hx]; exact .inr (by omega))
    have n3 := e2.news2 e3 (by omega)
    replace B6 := B6.ext0 n3
    replace o6 := o6.ext0 n3
    replace hB := hB.ext0 n3
    replace D := D.ext0 n3
    refine L.nil ?_
    refine N.seq ?_
    refine G.seq ?_
    refine G.block ?_
    refine G.seq ?_
    refine G.quiet (by decide +kernel) rfl ?_
    refine Q.val rfl rfl rfl rfl (fun w4 hE => R.fld rfl) ?_
    refine Q.val rfl rfl rfl rfl (fun w4 hE => R.ldB rfl (B9.ext0 hE) rfl) ?_
    refine Q.val rfl rfl rfl rfl (fun w4 hE => R.lss rfl rfl) ?_
    refine Q.val rfl rfl rfl rfl (fun w4 hE => R.mv rfl) ?_
    refine Q.caseP 29 rfl (fun hg7_3 => ?_) (fun hg7_3 => ?_)
    · refine Q.pass rfl rfl rfl ?_
      refine Q.pass rfl rfl rfl ?_
      refine Q.pass rfl rfl rfl ?_
      refine Q.pass rfl rfl rfl ?_
      refine Q.pass rfl rfl rfl ?_
      refine Q.pass rfl rfl rfl ?_
      refine Q.pass rfl rfl rfl ?_
      refine Q.pass rfl rfl rfl ?_
      first | refine Q.val rfl rfl rfl rfl (fun w4 hE => R.pickT rfl rfl) ?_ | refine Q.val rfl rfl rfl rfl (fun w4 hE => R.pickF rfl rfl) ?_
      refine Q.val rfl rfl rfl rfl (fun w4 hE => R.as rfl) ?_
      refine Q.nil (fun w4 e4 => ?_)
      replace E := E.trans0 e4
      replace B9 := B9.ext0 e4
      replace B6 := B6.ext0 e4
      replace o6 := o6.ext0 e4
      replace hB := hB.ext0 e4
      replace D := D.ext0 e4
      refine N.seq ?_
      refine G.condT rfl ?_
      have hw2 : withF x (ws.map wv) = ([], 41) := by rw [hiw, hdr]; exact withF_blk (by show o.Block' < 0 ∨ (dn y : Int) ≤ o.Block'; omega)
      refine G.seq ?_
      refine G.region ?_
      refine L.val rfl rfl (R.as rfl) ?_
      refine L.val rfl rfl (R.as rfl) ?_
      refine L.nil ?_
      refine N.seq ?_
      refine G.ret2 rfl rfl rfl ?_
      first
        | (rw [hw2]; exact ⟨E, fun h => absurd h (by decide), fun _ => rfl⟩)
        | (rw [hw2]; exact ⟨E, fun _ => ⟨b18, rfl, OwnDisk.at (s := 0) ⟨a6, c6, qs, M6, by rw [hdy]; exact B6, by omega, by rw [hdy, hyl]; exact D.len, by rw [hdy]; exact D.pos, by rw [hdy]; exact D.le, by rw [hdy]; exact o6, by simp, hB⟩⟩, fun h => (h rfl).elim⟩)
    · refine Q.val rfl rfl rfl rfl (fun w4 hE => R.fld rfl) ?_
      refine Q.val rfl rfl rfl rfl (fun w4 hE => R.ldB rfl (B9.ext0 hE) rfl) ?_
      refine Q.val rfl rfl rfl rfl (fun w4 hE => R.mv rfl) ?_
      refine Q.val rfl rfl rfl rfl (fun w4 hE => R.nilChk rfl) ?_
      refine Q.val rfl rfl rfl rfl (fun w4 hE => R.fld rfl) ?_
      refine Q.val rfl rfl rfl rfl (fun w4 hE => R.ldB rfl (D.hd.ext0 hE) rfl) ?_
      refine Q.val rfl rfl rfl rfl (fun w4 hE => R.lenS rfl) ?_
      refine Q.val rfl rfl rfl rfl (fun w4 hE => R.geq rfl rfl) ?_
      first | refine Q.val rfl rfl rfl rfl (fun w4 hE => R.pickT rfl rfl) ?_ | refine Q.val rfl rfl rfl rfl (fun w4 hE => R.pickF rfl rfl) ?_
      refine Q.val rfl rfl rfl rfl (fun w4 hE => R.as rfl) ?_
      refine Q.nil (fun w4 e4 => ?_)
      replace E := E.trans0 e4
      replace B9 := B9.ext0 e4
      replace B6 := B6.ext0 e4
      replace o6 := o6.ext0 e4
      replace hB := hB.ext0 e4
      replace D := D.ext0 e4
      refine N.seq ?_
      refine G.condP rfl (fun h2 => ?_) (fun h2 => ?_)
      · have hw2 : withF x (ws.map wv) = ([], 41) := by rw [hiw, hdr]; exact withF_blk (by show o.Block' < 0 ∨ (dn y : Int) ≤ o.Block'; omega)
        refine G.seq ?_
        refine G.region ?_
        refine L.val rfl rfl (R.as rfl) ?_
        refine L.val rfl rfl (R.as rfl) ?_
        refine L.nil ?_
        refine N.seq ?_
        refine G.ret2 rfl rfl rfl ?_
        first
          | (rw [hw2]; exact ⟨E, fun h => absurd h (by decide), fun _ => rfl⟩)
          | (rw [hw2]; exact ⟨E, fun _ => ⟨b18, rfl, OwnDisk.at (s := 0) ⟨a6, c6, qs, M6, by rw [hdy]; exact B6, by omega, by rw [hdy, hyl]; exact D.len, by rw [hdy]; exact D.pos, by rw [hdy]; exact D.le, by rw [hdy]; exact o6, by simp, hB⟩⟩, fun h => (h rfl).elim⟩)
      · obtain ⟨j, hj0⟩ := Int.eq_ofNat_of_zero_le (show 0 ≤ o.Block' by omega)
        have hj : j < dn y := by omega
        have hBs := hok'
        have hBl := hBs.len
        refine G.seq ?_
        refine G.region ?_
        refine L.val rfl rfl (R.fld rfl) ?_
        refine L.val rfl rfl (R.ldB rfl B9 rfl) ?_
        refine L.val rfl rfl (R.lenS rfl) ?_
        refine L.val rfl rfl (R.neI rfl rfl) ?_
        refine L.val rfl rfl (R.as rfl) ?_
        refine L.nil ?_
        refine N.seq ?_
        refine G.condP rfl (fun h3 => ?_) (fun h3 => ?_)
        · have hw2 : withF x (ws.map wv) = ([], 42) := by rw [hiw, hdr]; exact withF_size (by show ¬ (o.Block' < 0 ∨ (dn y : Int) ≤ o.Block'); omega) (by show o.B'.length ≠ 64; omega)
          refine G.seq ?_
          refine G.region ?_
          refine L.val rfl rfl (R.as rfl) ?_
          refine L.val rfl rfl (R.as rfl) ?_
          refine L.nil ?_
          refine N.seq ?_
          refine G.ret2 rfl rfl rfl ?_
          first
            | (rw [hw2]; exact ⟨E, fun h => absurd h (by decide), fun _ => rfl⟩)
            | (rw [hw2]; exact ⟨E, fun _ => ⟨b18, rfl, OwnDisk.at (s := 0) ⟨a6, c6, qs, M6, by rw [hdy]; exact B6, by omega, by rw [hdy, hyl]; exact D.len, by rw [hdy]; exact D.pos, by rw [hdy]; exact D.le, by rw [hdy]; exact o6, by simp, hB⟩⟩, fun h => (h rfl).elim⟩)
        · have h64 : o.B'.length = 64 := by omega
          have hw2 : withF x (ws.map wv) = withF (laid y j o.B') ((ws.map wv).drop (i + 1)) := by rw [hiw, hdr, withF_next (by show ¬ (o.Block' < 0 ∨ (dn y : Int) ≤ o.Block'); omega) h64]; rw [show (wv o).1.toNat = j by show o.Block'.toNat = j; omega]; rfl
          refine G.skip ?_
          refine N.block ?_
          refine N.seq ?_
          refine G.seq ?_
          refine G.region ?_
          obtain ⟨pa, hpa⟩ : ∃ pa, o.B'a = some pa := by
            cases hq : o.B'a with
            | none => rw [hq] at hBs; have := hBs.none.1; rw [this] at h64; cases h64
            | some pa => exact ⟨pa, rfl⟩
          rw [hpa] at hBs
          refine L.val rfl rfl (R.fld rfl) ?_
          refine L.val rfl rfl (R.ldB rfl B9 rfl) ?_
          refine L.val rfl rfl (R.s2ap rfl (by omega)) ?_
          refine L.be 46 rfl (show _ = Value.pointer (some pa) by rw [hpa]) ?_
          refine L.val rfl rfl (R.ldN rfl (hBs.ext0 E).cells (by rw [vbs_length, h64])) ?_
          refine L.do rfl rfl (R.alloc) ?_
          rintro _ w6 ⟨b47, rfl, hb47, hs47, e6, B47⟩
          have hE6 := E.size
          refine L.set rfl (R.stN rfl rfl B47 (by simp [vbs_length, h64]) (by simp [vbs_length, h64, Value.cells]) (by simpa using vbs_one _)) ?_
          rintro w7 ⟨e7, hs7, B47⟩
          rw [all_stored (by simp [vbs_length, h64, Value.cells])] at B47
          have n7 := e6.news2 e7 (by omega)
          replace E := E.trans0 n7
          replace B9 := B9.ext0 n7
          replace B6 := B6.ext0 n7
          replace o6 := o6.ext0 n7
          replace hB := hB.ext0 n7
          replace D := D.ext0 n7
          refine L.nil ?_
          refine N.seq ?_
          obtain ⟨gl, curl, rfl, rfl, L6, hkl, hO6⟩ := o6.set j (by omega)
          have hE7 := E.size
          have hgl := hM6 gl (by simp)
          refine G.staged [7] [.blocks ([gl])] [fun w' => Ext [] w7 w', fun w' => Ext [gl] w7 w' ∧ Blk w' gl (curl.setIfInBounds j (ptr b47)) 98 (0, 0)] [] (by decide +kernel) (by decide +kernel) rfl rfl rfl (fun _ h => h) ?_
          refine Z.val rfl rfl rfl rfl rfl (fun w8 => R.mv rfl) ?_
          refine Z.val rfl rfl rfl rfl rfl (fun w8 => R.nilChk rfl) ?_
          refine Z.val rfl rfl rfl rfl rfl (fun w8 => R.fld rfl) ?_
          refine Z.read 0 (by decide +kernel) rfl rfl rfl rfl rfl rfl (fun w8 hJ => R.ldB rfl (B6.ext0 hJ) rfl) ?_
          refine Z.val rfl rfl rfl rfl rfl (fun w8 => R.fld rfl) ?_
          refine Z.read 0 (by decide +kernel) rfl rfl rfl rfl rfl rfl (fun w8 hJ => R.ldB rfl (B9.ext0 hJ) rfl) ?_
          refine Z.val rfl rfl rfl rfl rfl (fun w8 => R.idx rfl rfl (by omega) (by omega) _ rfl) ?_
          refine Z.be 54 rfl (show _ = Value.pointer (some ⟨gl, j, none⟩) by rw [Go.Addr.add_lit, hj0]; simp) ?_
          refine Z.set 0 (by decide +kernel) rfl rfl rfl rfl rfl rfl (fun w8 hJ => (R.st rfl rfl (L6.ext0 hJ) hkl rfl).mono (fun _ h => ⟨h.1, h.1.after hJ, h.2.2⟩)) ?_
          refine Z.nil rfl rfl (fun w8 hJ => ?_)
          obtain ⟨e12, L12⟩ := hJ
          replace o6 := hO6 (ptr b47) _ e12 L12
          replace E := E.news2 e12 (by omega)
          replace B6 := B6.ext e12 (fun hm => B6.ne L6 (by decide) (List.mem_singleton.1 hm))
          replace hB := hB.put e12 L6 B47 h64 hj
          refine N.block ?_
          refine N.seq ?_
          refine G.region ?_
          refine L.val rfl rfl (R.add rfl rfl (by omega)) ?_
          refine L.val rfl rfl (R.mv rfl) ?_
          refine L.nil ?_
          exact N.again (i + 1, laid y j o.B', qs.set j b47) (by show ln - (i + 1) < ln - i; omega) (Sub.cons rfl (Sub.cons rfl (Sub.cons rfl (Sub.cons rfl (Sub.cons rfl (Sub.nil _)))))) ⟨by show i + 1 ≤ ln; omega, (laid_length h64 hj).trans hyl, hw2, E, B6, by rw [List.map_set]; exact o6, hB⟩
  · have hw2 : withF x (ws.map wv) = (y, 0) := by rw [hiw, List.drop_of_length_le (by rw [List.length_map]; omega)]; rfl
    refine G.exit _ rfl ?_
    refine N.seq ?_
    refine G.seq ?_
    refine G.region ?_
    refine L.val rfl rfl (R.mv rfl) ?_
    refine L.val rfl rfl (R.as rfl) ?_
    refine L.val rfl rfl (R.as rfl) ?_
    refine L.nil ?_
    refine N.seq ?_
    refine G.ret2 rfl rfl rfl ?_
    first
      | (rw [hw2]; exact ⟨E, fun h => absurd h (by decide), fun _ => rfl⟩)
      | (rw [hw2]; exact ⟨E, fun _ => ⟨b18, rfl, OwnDisk.at (s := 0) ⟨a6, c6, qs, M6, by rw [hdy]; exact B6, by omega, by rw [hdy, hyl]; exact D.len, by rw [hdy]; exact D.pos, by rw [hdy]; exact D.le, by rw [hdy]; exact o6, by simp, hB⟩⟩, fun h => (h rfl).elim⟩)

end Go.Proofs.Yteaihincmfbblaa
/-
  The walks of package image.
-/
set_option linter.unusedVariables false
set_option linter.unusedSimpArgs false
namespace Go.Proofs.Yteaihincmfbblaa
open Go Brv Brv.Image
theorem ifrom_ok (a : Option Addr) (n c : Nat) (l : List UInt8) (w : World) (hb : Bs w a n l) (hc : n ≤ c) (hv : l.length = 64 * dn l ∧ 1 ≤ dn l ∧ dn l ≤ 64) : Meets Try.prog 22 [.slice a n c] w (fun v w' => ∃ d, v = .tuple #[ptr d, .int .i64 0] ∧ Ext [] w w' ∧ DiskAt w' d l) := by
  refine Meets.enter Try.func22 rfl 47 rfl (Nat.le_of_ble_eq_true rfl) ?_
  have E := Ext.refl [] w
  have hl := hb.len
  have hdl : dn l = l.length / 64 := rfl
  obtain ⟨hv1, hv2, hv3⟩ := hv
  refine G.seq ?_
  refine G.region ?_
  refine L.val rfl rfl (R.as rfl) ?_
  refine L.val rfl rfl (R.as rfl) ?_
  refine L.nil ?_
  refine N.seq ?_
  refine G.seq ?_
  refine G.seq ?_
  refine G.region ?_
  refine L.val rfl rfl (R.mv rfl) ?_
  refine L.val rfl rfl (R.lenS rfl) ?_
  refine L.val rfl rfl (R.rem rfl rfl (by omega) (by omega)) ?_
  refine L.val rfl rfl (R.neI rfl rfl) ?_
  refine L.nil ?_
  refine N.seq ?_
  refine G.condP rfl (fun h0 => ?_) (fun h0 => ?_)
  · exfalso; omega
  · refine G.skip ?_
    refine N.seq ?_
    refine G.seq ?_
    refine G.region ?_
    refine L.val rfl rfl (R.mv rfl) ?_
    refine L.val rfl rfl (R.lenS rfl) ?_
    refine L.val rfl rfl (R.quo rfl rfl (by omega) (by omega)) ?_
    refine L.be 15 rfl (show _ = Value.int .i64 (dn l : Int) by congr 1; omega) ?_
    refine L.callF rfl rfl rfl go20 (inew_ok (dn l) _ hv2 hv3) ?_
    rintro _ w1 ⟨d, rfl, e1, O1⟩
    replace E := E.trans0 e1
    obtain ⟨x0, hx0⟩ : ∃ x0 : List UInt8, x0 = List.replicate (64 * dn l) 0 := ⟨_, rfl⟩
    have hx0d : dn x0 = dn l := by rw [hx0, dn_zero]
    rw [← hx0] at O1
    obtain ⟨a6, c6, ps, M6, B6, hd6, hl6, _, _, o6, hM6, hB⟩ := O1
    rw [hx0d] at B6 o6
    refine L.val rfl rfl (R.mv rfl) ?_
    refine L.val rfl rfl (R.ext rfl rfl) ?_
    refine L.val rfl rfl (R.ext rfl rfl) ?_
    refine L.val rfl rfl (R.as rfl) ?_
    refine L.val rfl rfl (R.as rfl) ?_
    refine L.nil ?_
    refine N.seq ?_
    refine G.seq ?_
    refine G.seq ?_
    refine G.region ?_
    refine L.val rfl rfl (R.mv rfl) ?_
    refine L.val rfl rfl (R.neI rfl rfl) ?_
    refine L.nil ?_
    refine N.seq ?_
    refine G.condF rfl ?_
    refine G.skip ?_
    refine N.seq ?_
    refine G.seq ?_
    refine G.seq ?_
    refine G.region ?_
    refine L.val rfl rfl (R.mv rfl) ?_
    refine L.val rfl rfl (R.nilChk rfl) ?_
    refine L.val rfl rfl (R.fld rfl) ?_
    refine L.val rfl rfl (R.ldB rfl B6 rfl) ?_
    refine L.val rfl rfl (R.lenS rfl) ?_
    refine L.val rfl rfl (R.mv rfl) ?_
    refine L.nil ?_
    refine N.seq ?_
    refine G.block ?_
    refine G.loop (X := Nat × List UInt8 × List Nat) (fun s => [(0, .slice a n c), (4, .pointer (some ⟨d, 0, none⟩)), (26, .int .i64 (dn l : Int)), (27, .int .i64 (s.1 : Int))]) (fun s w' => s.1 ≤ dn l ∧ s.2.1.length = l.length ∧ (∀ j, blk s.2.1 j = if j < s.1 then blk l j else blk x0 j) ∧ Ext [] w w' ∧ Blk w' d #[.slice a6 (dn l) c6] 84 (0, 0) ∧ Own w' 98 1 a6 (dn l) c6 (s.2.2.map ptr) M6 ∧ Blks w' s.2.2 s.2.1) (fun s => dn l - s.1) ((0, x0, ps)) (Sub.cons rfl (Sub.cons rfl (Sub.cons rfl (Sub.cons rfl (Sub.nil _))))) ⟨Nat.zero_le _, by show x0.length = _; omega, fun j => (if_neg (Nat.not_lt_zero _)).symm, E, B6, o6, hB⟩ ?_
    rintro ⟨i, y, qs⟩ w2 ⟨hi, hyl, hyb, E, B6, o6, hB⟩
    dsimp only at hi hyl hyb o6 hB
    refine G.sub [(0, .slice a n c), (4, .pointer (some ⟨d, 0, none⟩)), (26, .int .i64 (dn l : Int)), (27, .int .i64 (i : Int))] (Sub.cons rfl (Sub.cons rfl (Sub.cons rfl (Sub.cons rfl (Sub.nil _))))) ?_
    have hdy : dn y = dn l := by unfold dn; rw [hyl]
    refine G.seq ?_
    refine G.region ?_
    refine L.val rfl rfl (R.lss rfl rfl) ?_
    refine L.nil ?_
    refine N.seq ?_
    refine G.seq ?_
    refine G.condP rfl (fun h2 => ?_) (fun h2 => ?_)
    · have hil : i < dn l := by omega
      have h64 := blk_length hil
      have hbs := (hb.ext0 E).sub (64 * i) c 64 (by omega) (by omega)
      rw [show (l.drop (64 * i)).take 64 = blk l i from rfl] at hbs
      obtain ⟨q, hq⟩ : ∃ q, subA a (64 * i) c 1 = some q := by
        cases hq : subA a (64 * i) c 1 with
        | none => rw [hq] at hbs; have := hbs.none.2; cases this
        | some q => exact ⟨q, rfl⟩
      rw [hq] at hbs
      have hyb2 : ∀ j, blk (laid y i (blk l i)) j = if j < i + 1 then blk l j else blk x0 j := by
        intro j
        rw [laid_blk h64 (by omega), hyb j]
        by_cases e : j = i
        · subst e; rw [if_pos rfl, if_pos (by omega)]
        · rw [if_neg e]
          by_cases e2 : j < i
          · rw [if_pos e2, if_pos (by omega)]
          · rw [if_neg e2, if_neg (by omega)]
      refine G.skip ?_
      refine N.seq ?_
      refine G.seq ?_
      refine G.block ?_
      refine G.seq ?_
      refine G.region ?_
      refine L.val rfl rfl (R.mv rfl) ?_
      refine L.val rfl rfl (R.as rfl) ?_
      refine L.nil ?_
      refine N.seq ?_
      refine G.seq ?_
      refine G.region ?_
      refine L.val rfl rfl (R.mv rfl) ?_
      refine L.val rfl rfl (R.mv rfl) ?_
      refine L.val rfl rfl (R.mul rfl rfl (by omega)) ?_
      refine L.val rfl rfl (R.mv rfl) ?_
      refine L.val rfl rfl (R.add rfl rfl (by omega)) ?_
      refine L.val rfl rfl (R.mul rfl rfl (by omega)) ?_
      refine L.val rfl rfl (R.slLH rfl rfl rfl (by omega) (by omega) (by omega)) ?_
      refine L.be 36 rfl (show _ = Value.slice (some q) 64 (c - 64 * i) by rw [show ((i : Int) * 64).toNat = 64 * i by omega, show (((i : Int) + 1) * 64).toNat - 64 * i = 64 by omega, hq]) ?_
      refine L.val rfl rfl (R.s2ap rfl (by decide)) ?_
      refine L.val rfl rfl (R.ldN rfl hbs.cells (by rw [vbs_length, h64])) ?_
      refine L.do rfl rfl (R.alloc) ?_
      rintro _ w6 ⟨b7, rfl, hb7, hs7, e6, B7⟩
      have hE6 := E.size
      refine L.set rfl (R.stN rfl rfl B7 (by simp [vbs_length, h64]) (by simp [vbs_length, h64, Value.cells]) (by simpa using vbs_one _)) ?_
      rintro w7 ⟨e7, hs7, B7⟩
      rw [all_stored (by simp [vbs_length, h64, Value.cells])] at B7
      have n7 := e6.news2 e7 (by omega)
      replace E := E.trans0 n7
      replace B6 := B6.ext0 n7
      replace o6 := o6.ext0 n7
      replace hB := hB.ext0 n7
      obtain ⟨gl, curl, rfl, rfl, L6, hkl, hO6⟩ := o6.set i (by omega)
      have hgl := hM6 gl (by simp)
      have hE7 := E.size
      refine L.nil ?_
      refine N.seq ?_
      refine G.region ?_
      refine L.val rfl rfl (R.mv rfl) ?_
      refine L.val rfl rfl (R.nilChk rfl) ?_
      refine L.val rfl rfl (R.fld rfl) ?_
      refine L.val rfl rfl (R.ldB rfl B6 rfl) ?_
      refine L.val rfl rfl (R.mv rfl) ?_
      refine L.val rfl rfl (R.idx rfl rfl (by omega) (by omega) _ rfl) ?_
      refine L.be 44 rfl (show _ = Value.pointer (some ⟨gl, i, none⟩) by rw [Go.Addr.add_lit]; simp) ?_
      refine L.set rfl (R.st rfl rfl L6 hkl rfl) ?_
      rintro w8 ⟨e12, hs12, L12⟩
      replace o6 := hO6 (ptr b7) _ e12 L12
      replace E := E.news2 e12 (by omega)
      replace B6 := B6.ext e12 (fun hm => B6.ne L6 (by decide) (List.mem_singleton.1 hm))
      replace hB := hB.put e12 L6 B7 h64 (show i < dn y by omega)
      refine L.nil ?_
      refine N.block ?_
      refine N.seq ?_
      refine G.region ?_
      refine L.val rfl rfl (R.add rfl rfl (by omega)) ?_
      refine L.val rfl rfl (R.mv rfl) ?_
      refine L.nil ?_
      exact N.again (i + 1, laid y i (blk l i), qs.set i b7) (by show dn l - (i + 1) < dn l - i; omega) (Sub.cons rfl (Sub.cons rfl (Sub.cons rfl (Sub.cons rfl (Sub.nil _))))) ⟨by show i + 1 ≤ dn l; omega, (laid_length h64 (by omega)).trans hyl, hyb2, E, B6, by rw [List.map_set]; exact o6, hB⟩
    · obtain rfl : i = dn l := by omega
      have hyl2 : y = l := eq_of_blk hyl (by rw [hyl, hdy]; exact hv1) (fun k hk => by rw [hyb k, if_pos (by rw [← hdy]; exact hk)])
      subst hyl2
      refine G.exit _ rfl ?_
      refine N.seq ?_
      refine G.seq ?_
      refine G.region ?_
      refine L.val rfl rfl (R.mv rfl) ?_
      refine L.val rfl rfl (R.as rfl) ?_
      refine L.val rfl rfl (R.as rfl) ?_
      refine L.nil ?_
      refine N.seq ?_
      refine G.ret2 rfl rfl rfl ?_
      exact ⟨d, rfl, E, OwnDisk.at (s := 0) ⟨a6, c6, qs, M6, B6, by omega, hv1, hv2, hv3, o6, by simp, hB⟩⟩

theorem ifrom_err (a : Option Addr) (n c : Nat) (l : List UInt8) (w : World) (hb : Bs w a n l) (hn : n ≤ 140737488351232) (hv : ¬ (l.length = 64 * dn l ∧ 1 ≤ dn l ∧ dn l ≤ 64)) : Meets Try.prog 22 [.slice a n c] w (fun v w' => v = .tuple #[.pointer none, .int .i64 2] ∧ w' = w) := by
  refine Meets.enter Try.func22 rfl 47 rfl (Nat.le_of_ble_eq_true rfl) ?_
  have hl := hb.len
  have hdl : dn l = l.length / 64 := rfl
  refine G.seq ?_
  refine G.region ?_
  refine L.val rfl rfl (R.as rfl) ?_
  refine L.val rfl rfl (R.as rfl) ?_
  refine L.nil ?_
  refine N.seq ?_
  refine G.seq ?_
  refine G.seq ?_
  refine G.region ?_
  refine L.val rfl rfl (R.mv rfl) ?_
  refine L.val rfl rfl (R.lenS rfl) ?_
  refine L.val rfl rfl (R.rem rfl rfl (by omega) (by omega)) ?_
  refine L.val rfl rfl (R.neI rfl rfl) ?_
  refine L.nil ?_
  refine N.seq ?_
  refine G.condP rfl (fun h0 => ?_) (fun h0 => ?_)
  · refine G.seq ?_
    refine G.region ?_
    refine L.val rfl rfl (R.as rfl) ?_
    refine L.val rfl rfl (R.as rfl) ?_
    refine L.nil ?_
    refine N.seq ?_
    refine G.ret2 rfl rfl rfl ?_
    exact ⟨rfl, rfl⟩
  · refine G.skip ?_
    refine N.seq ?_
    refine G.seq ?_
    refine G.region ?_
    refine L.val rfl rfl (R.mv rfl) ?_
    refine L.val rfl rfl (R.lenS rfl) ?_
    refine L.val rfl rfl (R.quo rfl rfl (by omega) (by omega)) ?_
    refine L.callF rfl rfl rfl go20 (inew_err ((n : Int) / 64) _ (fun h9 => hv ⟨by omega, by omega, by omega⟩)) ?_
    rintro _ _ ⟨rfl, rfl⟩
    refine L.val rfl rfl (R.mv rfl) ?_
    refine L.val rfl rfl (R.ext rfl rfl) ?_
    refine L.val rfl rfl (R.ext rfl rfl) ?_
    refine L.val rfl rfl (R.as rfl) ?_
    refine L.val rfl rfl (R.as rfl) ?_
    refine L.nil ?_
    refine N.seq ?_
    refine G.seq ?_
    refine G.seq ?_
    refine G.region ?_
    refine L.val rfl rfl (R.mv rfl) ?_
    refine L.val rfl rfl (R.neI rfl rfl) ?_
    refine L.nil ?_
    refine N.seq ?_
    refine G.condT rfl ?_
    refine G.seq ?_
    refine G.region ?_
    refine L.val rfl rfl (R.mv rfl) ?_
    refine L.val rfl rfl (R.as rfl) ?_
    refine L.val rfl rfl (R.as rfl) ?_
    refine L.nil ?_
    refine N.seq ?_
    refine G.ret2 rfl rfl rfl ?_
    exact ⟨rfl, rfl⟩

end Go.Proofs.Yteaihincmfbblaa
/-
  The walks of package patch.
-/
set_option linter.unusedVariables false
set_option linter.unusedSimpArgs false
set_option maxRecDepth 4000
namespace Go.Proofs.Yteaihincmfbblaa
open Go Brv Brv.Pack Brv.Shrink Brv.Patch
theorem penNum (p : Nat) (l : List UInt8) (n k : Nat) (hl : l.length ≤ 70368744177664) (hk : 1 ≤ k ∧ k ≤ 7) (hn : n < 256 ^ k) : SpecS Try.prog 24 [.pointer (some ⟨p, 0, none⟩), .int .i64 (n : Int), .int .i64 (k : Int)] [pen 61 5 p (l)] (fun v H' => v = .bool true ∧ H' = [pen 61 5 p (l ++ be k n)]) := by
  have h56 : 256 ^ k ≤ 256 ^ 7 := Nat.pow_le_pow_right (by decide) hk.2
  have h57 : (256 : Nat) ^ 7 = 72057594037927936 := rfl
  have hf : fitsF (n : Int) (k : Int) = true := fitsF_spec.2 ⟨by omega, by omega, by omega, by rw [Int.toNat_natCast]; exact_mod_cast hn⟩
  refine SpecS.ofPen fun w S h => (number_ok p S l n k w h hl (by omega) (by omega)).mono ?_
  rintro v w' ⟨h1, S', h2, h3⟩
  rw [hf] at h1 h2
  exact ⟨h1, S', by simpa using h2, h3⟩
theorem penText (p : Nat) (l : List UInt8) (a : Option Addr) (n c : Nat) (k : List UInt8) (hl : l.length ≤ 70368744177664) (hn : n ≤ 140737488351232) (hk : k.length ≤ 65535) : SpecS Try.prog 28 [.pointer (some ⟨p, 0, none⟩), .slice a n c] [pen 61 5 p (l), bs a n k] (fun v H' => v = .bool true ∧ H' = [pen 61 5 p (l ++ textF k)]) := by
  refine SpecS.ofPenB fun w S h hb => (text_ok p S l a n c k w h hl (hb w (Ext.refl _ _)) hn hb).mono ?_
  rintro v w' ⟨h1, S', h2, h3⟩
  rw [decide_eq_true hk] at h1
  rw [if_pos hk] at h2
  exact ⟨h1, S', h2, h3⟩
theorem penBytes (p : Nat) (l : List UInt8) (hl : l.length ≤ 70368744177664) : SpecS Try.prog 30 [.pointer (some ⟨p, 0, none⟩)] [pen 61 5 p (l)] (fun v H' => ∃ a c, v = .slice a l.length c ∧ H' = [own 5 1 a l.length c (vbs (l)), pen 61 5 p (l)]) :=
  SpecS.ofOwn (φ := fun a c => .slice a l.length c) fun w F S s => let ⟨S', h⟩ := s.pen .here; bytes_ok p S' l w h hl

theorem scanNew (a : Option Addr) (n c : Nat) (l : List UInt8) (hc : n ≤ c) (hn : n ≤ 70368744177664) : SpecS Try.prog 52 [.slice a n c] [bs a n l] (fun v H' => ∃ s, v = .pointer (some ⟨s, 0, none⟩) ∧ H' = [scn 127 s (l) (0), bs a n l]) := fun w F S st =>
  (new_ok a n c l w (st.bs .here) (by omega)).mono fun v w' ⟨s, D, h1, h2, h3, h4, h5, ⟨cs, h6⟩, h7⟩ =>
    post_new (A := scn 127 s (l) (0)) (F' := [s]) (S' := D) st h3 ⟨rfl, h2⟩ (fun b hb => by rw [List.mem_singleton.1 hb]; exact ⟨h4, h6.lt⟩) (fun b hb => ⟨h5 b hb, by obtain ⟨_, h⟩ := h7 b hb; exact h.lt⟩) ⟨s, h1, rfl⟩
theorem scanNum (s : Nat) (l : List UInt8) (e y : Int) (hl : l.length ≤ 70368744177664) : SpecS Try.prog 53 [.pointer (some ⟨s, 0, none⟩), .int .i64 y] [scn 127 s (l) (e)] (fun v H' => v = .int .i64 ((numF l e y).1 : Int) ∧ H' = [scn 127 s ((numF l e y).2.1) ((numF l e y).2.2)]) :=
  SpecS.ofScn fun w D h => scannum_ok s D l e y w h hl
theorem scanText (s : Nat) (l : List UInt8) (e : Int) (y : Int) (hl : l.length ≤ 70368744177664) : SpecS Try.prog 56 [.pointer (some ⟨s, 0, none⟩), .int .i64 y] [scn 127 s (l) (e)] (fun v H' => ∃ a c, v = .slice a (txtF l e y).1.length c ∧ (txtF l e y).1.length ≤ c ∧ H' = [bs a (txtF l e y).1.length (txtF l e y).1, scn 127 s ((txtF l e y).2.1) ((txtF l e y).2.2)]) :=
  SpecS.ofScnB fun w D h => scantext_ok s D l e y w h hl
theorem scanErr (s : Nat) (l : List UInt8) (e : Int) (hl : l.length ≤ 70368744177664) : SpecS Try.prog 55 [.pointer (some ⟨s, 0, none⟩)] [scn 127 s (l) (e)] (fun v H' => v = .int .i64 e ∧ H' = [scn 127 s (l) (e)]) :=
  SpecS.ofR fun w F S st => let ⟨D, h⟩ := st.scn .here; (scanerr_ok s D l e w h hl).mono fun v w' ⟨h1, h2⟩ => ⟨h1, by rw [h2]; exact Ext.refl _ _⟩
theorem scanLeft (s : Nat) (l : List UInt8) (e : Int) (hl : l.length ≤ 70368744177664) : SpecS Try.prog 57 [.pointer (some ⟨s, 0, none⟩)] [scn 127 s (l) (e)] (fun v H' => v = .int .i64 (l.length : Int) ∧ H' = [scn 127 s (l) (e)]) :=
  SpecS.ofR fun w F S st => let ⟨D, h⟩ := st.scn .here; (scanleft_ok s D l e w h hl).mono fun v w' ⟨h1, h2⟩ => ⟨h1, by rw [h2]; exact Ext.refl _ _⟩

theorem growS (a : Option Addr) (n c : Nat) (l : List UInt8) (most : Int) (hc : n ≤ c) (hn : n ≤ 1000000) : SpecS Try.prog 59 [.slice a n c, .int .i64 most] [bs a n l] (fun v H' => ∃ a1 c1, v = .tuple #[.slice a1 (growF most l).1.length c1, .int .i64 (growF most l).2] ∧ H' = [own 5 1 a1 (growF most l).1.length c1 (vbs ((growF most l).1)), bs a n l]) :=
  SpecS.ofOwn (φ := fun a c => .tuple #[.slice a (growF most l).1.length c, .int .i64 (growF most l).2]) fun w F S s => grow_ok a n c l most w (s.bs .here) hc hn
theorem laidS (ao : Option Addr) (no co : Nat) (lo : List UInt8) (a : Option Addr) (n c : Nat) (l : List UInt8) (hno : no ≤ 1000000) (hc : n ≤ c) (hn : n ≤ 1000000) : SpecS Try.prog 50 [.slice ao no co, .slice a n c] [bs ao no lo, bs a n l] (fun v H' => ∃ a1 c1, v = .slice a1 n c1 ∧ H' = [own 5 1 a1 n c1 (vbs (laidF lo l)), bs ao no lo, bs a n l]) :=
  SpecS.ofOwn (φ := fun a c => .slice a n c) fun w F S s => laid_ok ao no co lo a n c l w (s.bs .here) (s.bs (.there .here)) hno hc hn
theorem deltaS (ao : Option Addr) (no co : Nat) (lo : List UInt8) (a : Option Addr) (n c : Nat) (l : List UInt8) (hno : no ≤ 1000000) (hc : n ≤ c) (hn : n ≤ 1000000) : SpecS Try.prog 29 [.slice ao no co, .slice a n c] [bs ao no lo, bs a n l] (fun v H' => ∃ a1 c1, v = .slice a1 (shrinkF (laidF lo l)).length c1 ∧ H' = [own 5 1 a1 (shrinkF (laidF lo l)).length c1 (vbs (shrinkF (laidF lo l))), bs ao no lo, bs a n l]) :=
  SpecS.ofOwn (φ := fun a c => .slice a (shrinkF (laidF lo l)).length c) fun w F S s => delta_ok ao no co lo a n c l w (s.bs .here) (s.bs (.there .here)) hno hc hn

end Go.Proofs.Yteaihincmfbblaa
/-
  The walks of package patch.
-/
set_option linter.unusedVariables false
set_option linter.unusedSimpArgs false
set_option maxRecDepth 4000
namespace Go.Proofs.Yteaihincmfbblaa
open Go Brv Brv.Pack Brv.Shrink Brv.Patch
theorem shr32 (v : Nat) : ((v : Int)).fdiv (2 ^ (Min.min (32 : Int).toNat IntKind.u64.bits)) = ((v / 4294967296 : Nat) : Int) := by
  rw [show (2 : Int) ^ (Min.min (32 : Int).toNat IntKind.u64.bits) = ((4294967296 : Nat) : Int) by decide, Int.fdiv_eq_ediv_of_nonneg _ (by decide)]
  norm_cast
theorem and32 (v : Nat) (h : v < 18446744073709551616) : andI .u64 (v : Int) 4294967295 = ((v % 4294967296 : Nat) : Int) := by
  unfold andI
  show IntKind.u64.wrap (((BitVec.ofInt 64 (v : Int) &&& BitVec.ofInt 64 ((4294967295 : Nat) : Int)).toNat : Nat) : Int) = _
  rw [Brv.Crc.bv_ofInt_nat, Brv.Crc.bv_ofInt_nat, BitVec.toNat_and, BitVec.toNat_ofNat, BitVec.toNat_ofNat, Nat.mod_eq_of_lt (by omega), Nat.mod_eq_of_lt (by omega)]
  rw [show (4294967295 : Nat) = 2 ^ 32 - 1 by decide, Nat.and_two_pow_sub_one_eq_mod]
  exact wrap_u64 (by omega)
theorem shl32 (n : Nat) (h : n < 4294967296) : IntKind.u64.wrap ((n : Int) * 2 ^ (Min.min (32 : Int).toNat IntKind.u64.bits)) = ((n * 4294967296 : Nat) : Int) := by
  rw [show (2 : Int) ^ (Min.min (32 : Int).toNat IntKind.u64.bits) = 4294967296 by decide]
  exact (wrap_u64 (by omega)).trans (by omega)
theorem or32 (n c : Nat) (hn : n < 4294967296) (hc : c < 4294967296) : orI .u64 ((n * 4294967296 : Nat) : Int) (c : Int) = ((n * 4294967296 + c : Nat) : Int) := by
  unfold orI
  show IntKind.u64.wrap (((BitVec.ofInt 64 ((n * 4294967296 : Nat) : Int) ||| BitVec.ofInt 64 (c : Int)).toNat : Nat) : Int) = _
  rw [Brv.Crc.bv_ofInt_nat, Brv.Crc.bv_ofInt_nat, BitVec.toNat_or, BitVec.toNat_ofNat, BitVec.toNat_ofNat, Nat.mod_eq_of_lt (by omega), Nat.mod_eq_of_lt (by omega)]
  have := Nat.shiftLeft_add_eq_or_of_lt (i := 32) (b := c) hc n
  rw [Nat.shiftLeft_eq] at this
  rw [show (4294967296 : Nat) = 2 ^ 32 by decide, ← this]
  exact wrap_u64 (by omega)

theorem root46_ok (p : Nat) (l : List UInt8) (v : Nat) (hl : l.length ≤ 1000000) (hv : v < 18446744073709551616) : SpecS Try.prog 25 [.pointer (some ⟨p, 0, none⟩), .int .u64 (v : Int)] [pen 61 5 p (l)] (fun v9 H' => v9 = .tuple #[] ∧ H' = [pen 61 5 p (l ++ rootP v)]) := by
  refine SpecS.enter Try.func25 rfl 14 rfl (Nat.le_of_ble_eq_true rfl) (fun o => ?_)
  have hv2 : v / 4294967296 < 4294967296 := by omega
  refine SG.seq ?_
  refine SG.region ?_
  refine SL.val rfl rfl (fun w9 F9 S9 s => R.mv rfl) ?_
  refine SL.val rfl rfl (fun w9 F9 S9 s => R.mv rfl) ?_
  refine SL.val rfl rfl (fun w9 F9 S9 s => R.shrW rfl rfl (by decide) _ (shr32 v)) ?_
  refine SL.val rfl rfl (fun w9 F9 S9 s => R.conv rfl _ (wrap_i64 (by omega))) ?_
  refine SL.step rfl rfl (CS.call rfl go24 (penNum p l (v / 4294967296) 4 (by omega) (by decide) hv2) (by repeat (first | exact Sels.nil | apply Sels.cons | exact Sel.keep | exact Sel.here | apply Sel.there))) ?_
  rintro _ _ ⟨_, ⟨rfl, rfl⟩, rfl⟩
  refine SL.n1 ?_
  refine SL.nil ?_
  refine SN.seq ?_
  refine SG.region ?_
  refine SL.val rfl rfl (fun w9 F9 S9 s => R.mv rfl) ?_
  refine SL.val rfl rfl (fun w9 F9 S9 s => R.mv rfl) ?_
  refine SL.val rfl rfl (fun w9 F9 S9 s => R.andW rfl rfl _ (and32 v hv)) ?_
  refine SL.val rfl rfl (fun w9 F9 S9 s => R.conv rfl _ (wrap_i64 (by omega))) ?_
  refine SL.step rfl rfl (CS.call rfl go24 (penNum p (l ++ be 4 (v / 4294967296)) (v % 4294967296) 4 (by rw [List.length_append, be_length]; omega) (by decide) (Nat.mod_lt _ (by decide))) (by repeat (first | exact Sels.nil | apply Sels.cons | exact Sel.keep | exact Sel.here | apply Sel.there))) ?_
  rintro _ _ ⟨_, ⟨rfl, rfl⟩, rfl⟩
  refine SL.n1 ?_
  refine SL.nil ?_
  exact SN.end0 rfl ((show Imp _ [pen 61 5 p (l ++ be 4 (v / 4294967296) ++ be 4 (v % 4294967296))] from (Imp.sels (by repeat (first | exact Sels.nil | apply Sels.cons | exact Sel.keep | exact Sel.here | apply Sel.there))))) (⟨rfl, by unfold rootP; rw [List.append_assoc]⟩)

theorem unroot_ok (s : Nat) (l : List UInt8) (e : Int) (hl : l.length ≤ 1000000) : SpecS Try.prog 54 [.pointer (some ⟨s, 0, none⟩)] [scn 127 s (l) (e)] (fun v H' => v = .int .u64 ((unrootF l e).1 : Int) ∧ H' = [scn 127 s ((unrootF l e).2.1) ((unrootF l e).2.2)]) := by
  refine SpecS.enter Try.func54 rfl 13 rfl (Nat.le_of_ble_eq_true rfl) (fun o => ?_)
  have h1 : (numF l e 4).1 < 4294967296 := numF_lt l e 4 (by decide)
  have h2 : (numF (numF l e 4).2.1 (numF l e 4).2.2 4).1 < 4294967296 := numF_lt _ _ 4 (by decide)
  have h3 := numF_length l e 4
  refine SG.seq ?_
  refine SG.region ?_
  refine SL.val rfl rfl (fun w9 F9 S9 s => R.as rfl) ?_
  refine SL.nil ?_
  refine SN.seq ?_
  refine SG.seq ?_
  refine SG.region ?_
  refine SL.val rfl rfl (fun w9 F9 S9 s => R.mv rfl) ?_
  refine SL.step rfl rfl (CS.call rfl go53 (scanNum s l e 4 (by omega)) (by repeat (first | exact Sels.nil | apply Sels.cons | exact Sel.keep | exact Sel.here | apply Sel.there))) ?_
  rintro _ _ ⟨_, ⟨rfl, rfl⟩, rfl⟩
  refine SL.n1 ?_
  refine SL.val rfl rfl (fun w9 F9 S9 s => R.conv rfl ((numF l e 4).1 : Int) (wrap_u64 (by omega))) ?_
  refine SL.val rfl rfl (fun w9 F9 S9 s => R.as rfl) ?_
  refine SL.nil ?_
  refine SN.seq ?_
  refine SG.seq ?_
  refine SG.region ?_
  refine SL.val rfl rfl (fun w9 F9 S9 s => R.mv rfl) ?_
  refine SL.val rfl rfl (fun w9 F9 S9 s => R.shlW rfl rfl (by decide) _ (shl32 _ h1)) ?_
  refine SL.val rfl rfl (fun w9 F9 S9 s => R.mv rfl) ?_
  refine SL.step rfl rfl (CS.call rfl go53 (scanNum s (numF l e 4).2.1 (numF l e 4).2.2 4 (by omega)) (by repeat (first | exact Sels.nil | apply Sels.cons | exact Sel.keep | exact Sel.here | apply Sel.there))) ?_
  rintro _ _ ⟨_, ⟨rfl, rfl⟩, rfl⟩
  refine SL.n1 ?_
  refine SL.val rfl rfl (fun w9 F9 S9 s => R.conv rfl ((numF (numF l e 4).2.1 (numF l e 4).2.2 4).1 : Int) (wrap_u64 (by omega))) ?_
  refine SL.val rfl rfl (fun w9 F9 S9 s => R.orW rfl rfl _ (or32 _ _ h1 h2)) ?_
  refine SL.val rfl rfl (fun w9 F9 S9 s => R.as rfl) ?_
  refine SL.nil ?_
  refine SN.seq ?_
  exact SG.ret1 rfl rfl ((Imp.sels (by repeat (first | exact Sels.nil | apply Sels.cons | exact Sel.keep | exact Sel.here | apply Sel.there)))) (⟨rfl, rfl⟩)

theorem undoS (ao : Option Addr) (no co : Nat) (lo : List UInt8) (a : Option Addr) (n c : Nat) (l : List UInt8) (hno : no ≤ 1000000) (hc : n ≤ c) (hn : n ≤ 1000000) (hg : (growF 64 l).2 = 0) (hg64 : (growF 64 l).1.length = 64) : SpecS Try.prog 32 [.slice ao no co, .slice a n c, .int .i64 64] [bs ao no lo, bs a n l] (fun v H' => ∃ a1 c1, v = .tuple #[.slice a1 64 c1, .int .i64 0] ∧ H' = [own 5 1 a1 64 c1 (vbs (laidF lo (growF 64 l).1))]) := by
  refine SpecS.enter Try.func32 rfl 22 rfl (Nat.le_of_ble_eq_true rfl) (fun o => ?_)
  refine SG.seq ?_
  refine SG.region ?_
  refine SL.val rfl rfl (fun w9 F9 S9 s => R.as rfl) ?_
  refine SL.val rfl rfl (fun w9 F9 S9 s => R.as rfl) ?_
  refine SL.nil ?_
  refine SN.seq ?_
  refine SG.seq ?_
  refine SG.region ?_
  refine SL.val rfl rfl (fun w9 F9 S9 s => R.mv rfl) ?_
  refine SL.val rfl rfl (fun w9 F9 S9 s => R.mv rfl) ?_
  refine SL.step rfl rfl (CS.call rfl go59 (growS a n c l 64 hc hn) (by repeat (first | exact Sels.nil | apply Sels.cons | exact Sel.keep | exact Sel.here | apply Sel.there))) ?_
  rintro _ _ ⟨_, ⟨a8, c8, rfl, rfl, rfl⟩, rfl⟩
  refine SL.n2 ?_
  refine SL.val rfl rfl (fun w9 F9 S9 s => R.mv rfl) ?_
  refine SL.val rfl rfl (fun w9 F9 S9 s => R.ext rfl rfl) ?_
  refine SL.val rfl rfl (fun w9 F9 S9 s => R.ext rfl rfl) ?_
  refine SL.val rfl rfl (fun w9 F9 S9 s => R.as rfl) ?_
  refine SL.val rfl rfl (fun w9 F9 S9 s => R.as rfl) ?_
  refine SL.nil ?_
  rw [hg]
  refine SN.fact (fun w9 F9 S9 s => s.ownL (show Sel _ (own 5 1 a8 (growF 64 l).1.length c8 (vbs ((growF 64 l).1))) _ from (by repeat (first | exact Sel.keep | exact Sel.here | apply Sel.there)))) (fun hf9 => ?_)
  obtain ⟨_, hc8⟩ := hf9
  refine SN.imp (Imp.ownBs (show Sel _ (own 5 1 a8 (growF 64 l).1.length c8 (vbs ((growF 64 l).1))) _ from (by repeat (first | exact Sel.keep | exact Sel.here | apply Sel.there)))) ?_
  refine SN.seq ?_
  refine SG.seq ?_
  refine SG.seq ?_
  refine SG.region ?_
  refine SL.val rfl rfl (fun w9 F9 S9 s => R.mv rfl) ?_
  refine SL.val rfl rfl (fun w9 F9 S9 s => R.neI rfl rfl) ?_
  refine SL.nil ?_
  refine SN.seq ?_
  refine SG.condP rfl (fun h0 => ?_) (fun h0 => ?_)
  · exact absurd rfl h0
  · refine SG.skip ?_
    refine SN.seq ?_
    refine SG.seq ?_
    refine SG.region ?_
    refine SL.val rfl rfl (fun w9 F9 S9 s => R.mv rfl) ?_
    refine SL.val rfl rfl (fun w9 F9 S9 s => R.mv rfl) ?_
    refine SL.step rfl rfl (CS.call rfl go50 (laidS ao no co lo a8 (growF 64 l).1.length c8 (growF 64 l).1 hno hc8 (by omega)) (by repeat (first | exact Sels.nil | apply Sels.cons | exact Sel.keep | exact Sel.here | apply Sel.there))) ?_
    rintro _ _ ⟨_, ⟨a9, c9, rfl, rfl, rfl⟩, rfl⟩
    refine SL.n3 ?_
    refine SL.val rfl rfl (fun w9 F9 S9 s => R.as rfl) ?_
    refine SL.val rfl rfl (fun w9 F9 S9 s => R.as rfl) ?_
    refine SL.nil ?_
    refine SN.seq ?_
    exact SG.ret2 rfl rfl rfl ((show Imp _ [own 5 1 a9 (growF 64 l).1.length c9 (vbs (laidF lo (growF 64 l).1))] from (Imp.sels (by repeat (first | exact Sels.nil | apply Sels.cons | exact Sel.keep | exact Sel.here | apply Sel.there))))) (⟨a9, c9, by rw [hg64], by rw [hg64]⟩)

end Go.Proofs.Yteaihincmfbblaa
/-
  The walks of package image.
-/
set_option linter.unusedVariables false
set_option linter.unusedSimpArgs false
namespace Go.Proofs.Yteaihincmfbblaa
open Go Brv Brv.Image
def byI (x : List UInt8) (b3 : Nat) (w0 : World) (k : Nat) (D : List Nat) (W : World) : Prop := ∃ a c MB, D = b3 :: MB ∧ Blk W b3 #[.slice a (x.take (64 * k)).length c] 22 (0, 0) ∧ Own W 5 1 a (x.take (64 * k)).length c (vbs (x.take (64 * k))) MB ∧ (∀ g ∈ MB, w0.heap.size ≤ g ∧ g ≠ b3) ∧ w0.heap.size ≤ b3 ∧ Ext [] w0 W
theorem byI_keep {x : List UInt8} {b3 : Nat} {w0 : World} {k s : Nat} {D M' : List Nat} {W W' : World} (hs : w0.heap.size ≤ s) (h : byI x b3 w0 k D W) (he : Ext M' W W') (hm : ∀ g ∈ M', g ∉ D ∧ (g ∈ ([] : List Nat) ∨ s ≤ g)) : byI x b3 w0 k D W' := by
  obtain ⟨a, c, MB, rfl, B3, o, hMB, h3, E⟩ := h
  exact ⟨a, c, MB, rfl, B3.ext he (fun h => (hm _ h).1 (by simp)), o.ext he (fun g hg h => (hm g h).1 (by simp [hg])), hMB, h3, E.transN he (fun g hg => (hm g hg).2.imp id (Nat.le_trans hs))⟩

theorem ibytes_ok (d : Option Addr) (x : List UInt8) (w : World) (hd : DiskO w d x) : Meets Try.prog 18 [.pointer d] w (Cloned w 5 1 x.length (vbs x)) := by
  refine Meets.enter Try.func18 rfl 14 rfl (Nat.le_of_ble_eq_true rfl) ?_
  have E := Ext.refl [] w
  have hx0 := hd.len
  refine G.seq ?_
  refine G.region ?_
  refine L.val rfl rfl (R.as rfl) ?_
  refine L.nil ?_
  refine N.seq ?_
  refine G.seq ?_
  refine G.region ?_
  refine L.do rfl rfl (R.alloc) ?_
  rintro _ w1 ⟨b3, rfl, hb3, hs3, e1, B3⟩
  replace B3 : Blk w1 b3 #[.slice none 0 0] 22 (0, 0) := B3
  replace E := E.trans0 e1
  refine L.nil ?_
  refine N.seq ?_
  refine G.seq ?_
  refine G.seq ?_
  refine G.region ?_
  refine L.val rfl rfl (R.mv rfl) ?_
  refine L.callF rfl rfl rfl go42 (iall_ok d _) ?_
  rintro _ w2 ⟨b1, rfl, e2, B1, hb1⟩
  have hE1 := E.size
  replace E := E.trans0 e2
  have l3 := B3.lt
  replace B3 := B3.ext0 e2
  obtain ⟨Fp, hFp, hFa⟩ := fp_of B1 hd E
  have hFn : b3 ∉ Fp := fun h => (hFa b3 h).elim (by omega) (by omega)
  have hE2 := E.size
  refine L.nil ?_
  refine N.seq ?_
  refine G.block ?_
  have hD0 : ∀ y ∈ [b3], y < w2.heap.size ∧ y ∉ Fp ∧ y ∉ ([] : List Nat) := by
    intro y hy
    rw [List.mem_singleton] at hy
    subst hy
    exact ⟨B3.lt, hFn, by simp⟩
  have hI0 : byI x b3 w 0 [b3] w2 := ⟨none, 0, [], rfl, B3, Own.nil _ _ _, by simp, by omega, E⟩
  refine G.range (lb := [.pointer (some ⟨b1, 0, none⟩)]) rfl rfl go63 (iall_iter b1 d x Fp _ hFp) (fun _ _ _ h _ => h) [b3] hD0 (fun y h => h.elim (hFp.1 y) (by simp)) (byI x b3 w) (fun _ _ _ _ => False) (fun k D W1 W2 M2 h he hm => byI_keep hE2 h he hm) (fun _ _ _ _ _ _ h _ _ => h) hI0 ?_ ?_ ?_
  · rintro l k D vs W1 hl hlt hlD hDl hk hIk ⟨a, c, rfl, hac, hb⟩
    refine ⟨rfl, ?_⟩
    refine G.sub [(9, .slice a (blk x k).length c), (3, .pointer (some ⟨b3, 0, none⟩))] (Sub.cons rfl (Sub.cons rfl (Sub.nil _))) ?_
    refine G.region ?_
    refine L.val rfl rfl (R.as rfl) ?_
    refine L.nil ?_
    refine N.round (Ext.refl _ _) (fun wb hb1 hb2 => ?_)
    obtain ⟨a1, c1, MB, rfl, B3, o, hMB, h3, E⟩ := hIk
    replace hb := hb.still hb2
    replace B3 := B3.still hb2
    replace o := o.still hb2
    replace E := E.transN hb1 (fun g hg => .inr (by rw [List.mem_singleton.1 hg]; omega))
    have hEb := E.size
    have l3 := B3.lt
    have hlo := o.lt
    have hs1 := blk_length hk
    have htl : (x.take (64 * k)).length ≤ 4096 := by rw [List.length_take]; omega
    have hn3 : b3 ∉ MB := fun h => (hMB _ h).2 rfl
    refine G.block ?_
    refine G.region ?_
    refine L.val rfl rfl (R.ldB rfl B3 rfl) ?_
    refine L.val rfl rfl (R.mv rfl) ?_
    refine L.do rfl rfl (R.app rfl rfl o hb.cells (by rw [vbs_length]; omega) (vbs_one _) (by simp [maxLen]; omega) (by omega)) ?_
    rintro _ w7 ⟨a3, c3, M3, rfl, e7, hM3, o3⟩
    replace B3 := B3.ext e7 hn3
    replace E : Ext [] w w7 := E.trans e7 (by simp) (fun g hg => .inr (hMB g hg).1)
    have hs7 := e7.size
    rw [← vbs_append, take_succ_blk, ← List.length_append, take_succ_blk] at o3
    have hM4 : ∀ g ∈ M3, w.heap.size ≤ g ∧ g ≠ b3 := fun g hg => (hM3 g hg).elim (hMB g) (fun h => ⟨by omega, by omega⟩)
    refine L.be 12 rfl (show _ = Value.slice a3 (x.take (64 * (k + 1))).length c3 by rw [← take_succ_blk, List.length_append]) ?_
    refine L.set rfl (R.st rfl rfl B3 (by show 0 < 1; decide) rfl) ?_
    rintro w8 ⟨e8, hs8, B3⟩
    replace B3 : Blk w8 b3 #[.slice a3 (x.take (64 * (k + 1))).length c3] 22 (0, 0) := B3
    replace o3 := o3.ext e8 (by intro g hg h; exact (hM4 g hg).2 (List.mem_singleton.1 h))
    replace E : Ext [] w w8 := E.trans e8 (by simp) (fun g hg => .inr (by rw [List.mem_singleton.1 hg]; exact h3))
    have hlo3 := o3.lt
    have X : Ext (b3 :: MB) wb w8 := (e7.mono (fun g hg => .inl (List.mem_cons_of_mem _ hg))).transN e8 (fun g hg => .inl (by rw [List.mem_singleton.1 hg]; simp))
    have hD2 : ∀ g ∈ b3 :: M3, g < w8.heap.size ∧ (g ∈ b3 :: MB ∨ wb.heap.size ≤ g) := by
      intro g hg
      rcases List.mem_cons.1 hg with rfl | hg
      · exact ⟨B3.lt, .inl (by simp)⟩
      · exact ⟨hlo3 g hg, (hM3 g hg).imp (fun h => List.mem_cons_of_mem _ h) id⟩
    refine L.nil ?_
    refine N.block ?_
    refine N.done fun _ _ => ?_
    exact ⟨b3 :: M3, X, hD2, a3, c3, M3, rfl, B3, o3, hM4, h3, E⟩
  · rintro d2 D W2 hd2 hdD hK ⟨a1, c1, MB, rfl, B3, o, hMB, h3, E⟩ _
    have hst := Still.putObj (.deferred none) hK rfl
    rw [List.take_of_length_le (by omega)] at B3 o
    refine N.block ?_
    refine N.seq ?_
    refine G.seq ?_
    refine G.region ?_
    refine L.val rfl rfl (R.ldB rfl B3 rfl) ?_
    refine L.val rfl rfl (R.as rfl) ?_
    refine L.nil ?_
    refine N.seq ?_
    refine G.ret1M rfl rfl (leave1 hK) ?_
    exact ⟨a1, c1, MB, rfl, E.transN (Ext.putObj _ _ _) (fun g hg => .inr (by rw [List.mem_singleton.1 hg]; omega)), o.still hst, fun g hg => (hMB g hg).1⟩
  · rintro _ _ _ _ _ _ _ _ _ h _
    exact h.elim

end Go.Proofs.Yteaihincmfbblaa
/-
  The walks of package image.
-/
set_option linter.unusedVariables false
set_option linter.unusedSimpArgs false
namespace Go.Proofs.Yteaihincmfbblaa
open Go Brv Brv.Image
theorem disk_o {w : World} {d g c : Nat} {cur : Array Value} {ps : List Nat} {x : List UInt8} (h : DiskL w d g c cur ps x) : DiskO w (some ⟨d, 0, none⟩) x := .inr ⟨d, rfl, g, c, cur, ps, h⟩
theorem iblocksE (d : Option Addr) (x : List UInt8) (w : World) (hd : DiskO w d x) : Meets Try.prog 13 [.pointer d] w (fun v w' => v = .int .i64 (dn x : Int) ∧ Ext [] w w') :=
  (iblocks_ok d x w hd).mono fun v w' ⟨h1, h2⟩ => ⟨h1, by rw [h2]; exact Ext.refl _ _⟩
theorem igetS (d g c : Nat) (cur : Array Value) (ps : List Nat) (x : List UInt8) (k : Nat) (hk : k < dn x) : SpecS Try.prog 27 [.pointer (some ⟨d, 0, none⟩), .int .i64 (k : Int)] [sh (fun w => DiskL w d g c cur ps x)] (fun v H' => ∃ a c', v = .tuple #[.slice a 64 c', .int .i64 0] ∧ H' = [own 5 1 a 64 c' (vbs (blk x k)), sh (fun w => DiskL w d g c cur ps x)]) :=
  SpecS.ofOwn (φ := fun a c => .tuple #[.slice a 64 c, .int .i64 0]) fun w F S s => (iget_ok d x (k : Int) w ⟨g, c, cur, ps, s.sh (p := fun w => DiskL w d g c cur ps x) .here⟩).mono fun v w' ⟨a, c', M, h1, h2, h3, h4⟩ => by
    have hok : okK x (k : Int) := ⟨by omega, by omega⟩
    rw [if_pos hok, show getB x (k : Int) = blk x k from if_pos hok, blk_length hk] at h1
    rw [show getB x (k : Int) = blk x k from if_pos hok, blk_length hk] at h3
    exact ⟨a, c', M, h1, h2, h3, h4⟩

theorem idiffS (d g c : Nat) (cur : Array Value) (ps : List Nat) (x : List UInt8) (d2 g2 c2 : Nat) (cur2 : Array Value) (ps2 : List Nat) (y : List UInt8) : SpecS Try.prog 23 [.pointer (some ⟨d, 0, none⟩), .pointer (some ⟨d2, 0, none⟩)] [sh (fun w => DiskL w d g c cur ps x), sh (fun w => DiskL w d2 g2 c2 cur2 ps2 y)] (fun v H' => ∃ a c', v = .slice a (diffF x y).length c' ∧ H' = [own 3 1 a (diffF x y).length c' (nums (diffF x y)), sh (fun w => DiskL w d g c cur ps x), sh (fun w => DiskL w d2 g2 c2 cur2 ps2 y)]) :=
  SpecS.ofOwn (φ := fun a c => .slice a (diffF x y).length c) fun w F S s => idiff_ok _ _ x y w (disk_o (s.sh (p := fun w => DiskL w d g c cur ps x) .here)) (disk_o (s.sh (p := fun w => DiskL w d2 g2 c2 cur2 ps2 y) (.there .here)))

theorem ibytesS (d : Option Addr) (x : List UInt8) : SpecS Try.prog 18 [.pointer d] [sh (fun w => DiskO w d x)] (fun v H' => ∃ a c', v = .slice a x.length c' ∧ H' = [own 5 1 a x.length c' (vbs x), sh (fun w => DiskO w d x)]) :=
  SpecS.ofOwn (φ := fun a c => .slice a x.length c) fun w F S s => ibytes_ok d x w (s.sh (p := fun w => DiskO w d x) .here)

theorem ifromP (a : Option Addr) (n c : Nat) (l : List UInt8) (w : World) (hb : Bs w a n l) (hc : n ≤ c) (hv : l.length = 64 * dn l ∧ 1 ≤ dn l ∧ dn l ≤ 64) : Meets Try.prog 22 [.slice a n c] w (fun v w' => ∃ p : World → Prop, (∃ d g c cur ps, v = .tuple #[.pointer (some ⟨d, 0, none⟩), .int .i64 0] ∧ p = fun w => DiskL w d g c cur ps l) ∧ Ext [] w w' ∧ ∀ w'', Ext [] w' w'' → p w'') :=
  (ifrom_ok a n c l w hb hc hv).mono fun v w' ⟨d, hv, he, g, c, cur, ps, hD⟩ => ⟨_, ⟨d, g, c, cur, ps, hv, rfl⟩, he, fun w'' h => hD.ext0 h⟩
theorem ifromE (a : Option Addr) (n c : Nat) (l : List UInt8) (w : World) (hb : Bs w a n l) (hn : n ≤ 140737488351232) (hv : ¬ (l.length = 64 * dn l ∧ 1 ≤ dn l ∧ dn l ≤ 64)) : Meets Try.prog 22 [.slice a n c] w (fun v w' => v = .tuple #[.pointer none, .int .i64 2] ∧ Ext [] w w') :=
  (ifrom_err a n c l w hb hn hv).mono fun v w' ⟨h1, h2⟩ => ⟨h1, by rw [h2]; exact Ext.refl _ _⟩

theorem inewP (n : Nat) (w : World) (h1 : 1 ≤ n) (h2 : n ≤ 64) : Meets Try.prog 20 [.int .i64 (n : Int)] w (fun v w' => ∃ p : World → Prop, (∃ d g c cur ps, v = .tuple #[.pointer (some ⟨d, 0, none⟩), .int .i64 0] ∧ p = fun w => DiskL w d g c cur ps (List.replicate (64 * n) 0)) ∧ Ext [] w w' ∧ ∀ w'', Ext [] w' w'' → p w'') :=
  (inew_ok n w h1 h2).mono fun v w' ⟨d, hv, he, hO⟩ => by
    obtain ⟨g, c, cur, ps, hD⟩ := hO.at
    exact ⟨_, ⟨d, g, c, cur, ps, hv, rfl⟩, he, fun w'' h => hD.ext0 h⟩

theorem iwithP (d : Nat) (x : List UInt8) (la : Option Addr) (ln lc : Nat) (ws : List WriteV) (w : World) (hd : DiskAt w d x) (hT : Tab w la ln 2 (ws.map WriteV.cells)) (hO : ∀ o ∈ ws, Bs w o.B'a o.B'n o.B') (hln : ln ≤ 1000000) (h0 : (withF x (ws.map wv)).2 = 0) :
    Meets Try.prog 21 [.pointer (some ⟨d, 0, none⟩), .slice la ln lc] w (fun v w' => ∃ p : World → Prop, (∃ d g c cur ps, v = .tuple #[.pointer (some ⟨d, 0, none⟩), .int .i64 0] ∧ p = fun w => DiskL w d g c cur ps (withF x (ws.map wv)).1) ∧ Ext [] w w' ∧ ∀ w'', Ext [] w' w'' → p w'') :=
  (iwith_ok d x la ln lc ws w hd hT hO hln).mono fun v w' ⟨he, h1, h2⟩ => by
    obtain ⟨d', hv, g, c, cur, ps, hD⟩ := h1 h0
    exact ⟨_, ⟨d', g, c, cur, ps, hv, rfl⟩, he, fun w'' h => hD.ext0 h⟩

end Go.Proofs.Yteaihincmfbblaa
/-
  The walks of package patch.
-/
set_option linter.unusedVariables false
set_option linter.unusedSimpArgs false
set_option maxRecDepth 4000
namespace Go.Proofs.Yteaihincmfbblaa
open Go Brv Brv.Pack Brv.Shrink Brv.Patch
theorem treeF_okU : ∀ (n : Nat) (r : List Nat), r.length ≤ n → okU r → ∀ q ∈ treeF r, okU q
  | 0, r, h, ho, q, hq => by rw [treeF_one (by omega)] at hq; rw [List.mem_singleton.1 hq]; exact ho
  | n + 1, r, h, ho, q, hq => by
    by_cases h1 : r.length ≤ 1
    · rw [treeF_one h1] at hq; rw [List.mem_singleton.1 hq]; exact ho
    · rw [treeF_more h1] at hq
      rcases List.mem_cons.1 hq with rfl | hq
      · exact ho
      · exact treeF_okU n _ (by rw [nextR_len]; omega) (nextR_ok ho) q hq
theorem rootD_lt (x : List UInt8) (h : 1 ≤ x.length / 64) : rootD x < 18446744073709551616 := by
  obtain ⟨v, hv, hr⟩ := treeD_top h
  have hm := List.mem_of_getLast? hv
  have : ∀ q ∈ treeD x, okU q := by
    unfold treeD
    split
    · intro q hq; cases hq
    · exact treeF_okU _ _ (Nat.le_refl _) (sumsT_ok _ _)
  have := this _ hm v (by simp)
  omega

theorem numsP_pt {w : World} {a : Option Addr} {i v : Nat} {l : List Nat} (h : Cells w a (nums l)) (hx : l[i]? = some v) : ∃ q, a = some q :=
  let ⟨q, hq, _⟩ := h i (num v) (by rw [nums, List.getElem?_map, hx]; rfl); ⟨q, hq⟩
theorem numsP_ld {w : World} {a : Option Addr} {i v : Nat} {l : List Nat} {q : Addr} (h : Cells w a (nums l)) (hq : a = some q) (hx : l[i]? = some v) : w.cell? (q.add ((i : Int).toNat * 1)) = some (.int .i64 (v : Int)) := by
  obtain ⟨p, hp, hc⟩ := h i (num v) (by rw [nums, List.getElem?_map, hx]; rfl)
  rw [hq] at hp; cases hp
  rw [Int.toNat_natCast, Nat.mul_one]; exact hc
theorem flat_succ {α : Type} (f : α → List UInt8) {l : List α} {i : Nat} {x : α} (h : l[i]? = some x) : ((l.take (i + 1)).map f).flatten = ((l.take i).map f).flatten ++ f x := by
  rw [List.take_add_one, h, List.map_append, List.flatten_append]; simp

set_option maxHeartbeats 1000000 in
theorem make_ok (d g e : Nat) (cur : Array Value) (ps : List Nat) (x : List UInt8) (d2 g2 e2 : Nat) (cur2 : Array Value) (ps2 : List Nat) (y : List UInt8) (he : Image.dn x = Image.dn y) : SpecS Try.prog 8 [.pointer (some ⟨d, 0, none⟩), .pointer (some ⟨d2, 0, none⟩)] [sh (fun w => DiskL w d g e cur ps x), sh (fun w => DiskL w d2 g2 e2 cur2 ps2 y)] (fun v H' => ∃ a c, v = .slice a (makeF rootD x y).length c ∧ H' = [own 5 1 a (makeF rootD x y).length c (vbs (makeF rootD x y))]) := by
  refine SpecS.enter Try.func8 rfl 78 rfl (Nat.le_of_ble_eq_true rfl) (fun o => ?_)
  refine SG.fact (fun w9 F9 S9 s => (s.sh (p := fun w => DiskL w d g e cur ps x) (by repeat (first | exact Sel.keep | exact Sel.here | apply Sel.there))).pos) (fun hf9 => ?_)
  have hpos := hf9; clear hf9
  refine SG.fact (fun w9 F9 S9 s => (s.sh (p := fun w => DiskL w d g e cur ps x) (by repeat (first | exact Sel.keep | exact Sel.here | apply Sel.there))).le) (fun hf9 => ?_)
  have hle := hf9; clear hf9
  refine SG.fact (fun w9 F9 S9 s => (s.sh (p := fun w => DiskL w d g e cur ps x) (by repeat (first | exact Sel.keep | exact Sel.here | apply Sel.there))).len) (fun hf9 => ?_)
  have hxl := hf9; clear hf9
  refine SG.fact (fun w9 F9 S9 s => (s.sh (p := fun w => DiskL w d2 g2 e2 cur2 ps2 y) (by repeat (first | exact Sel.keep | exact Sel.here | apply Sel.there))).len) (fun hf9 => ?_)
  have hyl := hf9; clear hf9
  have hdx : Image.dn x = x.length / 64 := rfl
  have hdy : Image.dn y = y.length / 64 := rfl
  have hdl : (Image.diffF x y).length ≤ 64 := by have := Image.diffN_length x y (max (Image.dn x) (Image.dn y)); show (Image.diffN x y _).length ≤ _; omega
  have hrx := rootD_lt x (by omega)
  have hry := rootD_lt y (by omega)
  have hpl := parts_len x y
  have hhl := head_len rootD x y
  refine SG.seq ?_
  refine SG.region ?_
  refine SL.val rfl rfl (fun w9 F9 S9 s => R.as rfl) ?_
  refine SL.nil ?_
  refine SN.seq ?_
  refine SG.seq ?_
  refine SG.seq ?_
  refine SG.region ?_
  refine SL.val rfl rfl (fun w9 F9 S9 s => R.mv rfl) ?_
  refine SL.val rfl rfl (fun w9 F9 S9 s => R.eqNilP rfl rfl) ?_
  refine SL.val rfl rfl (fun w9 F9 S9 s => R.mv rfl) ?_
  refine SL.val rfl rfl (fun w9 F9 S9 s => R.mv rfl) ?_
  refine SL.val rfl rfl (fun w9 F9 S9 s => R.eqNilP rfl rfl) ?_
  first | refine SL.val rfl rfl (fun w9 F9 S9 s => R.pickT rfl rfl) ?_ | refine SL.val rfl rfl (fun w9 F9 S9 s => R.pickF rfl rfl) ?_
  refine SL.val rfl rfl (fun w9 F9 S9 s => R.mv rfl) ?_
  refine SL.val rfl rfl (fun w9 F9 S9 s => R.mv rfl) ?_
  refine SL.step rfl rfl (CS.callR rfl go13 (fun w9 F9 S9 s => iblocksE (some ⟨d, 0, none⟩) x w9 (disk_o (s.sh (p := fun w => DiskL w d g e cur ps x) (by repeat (first | exact Sel.keep | exact Sel.here | apply Sel.there)))))) ?_
  rintro _ _ ⟨rfl, rfl⟩
  refine SL.val rfl rfl (fun w9 F9 S9 s => R.mv rfl) ?_
  refine SL.step rfl rfl (CS.callR rfl go13 (fun w9 F9 S9 s => iblocksE (some ⟨d2, 0, none⟩) y w9 (disk_o (s.sh (p := fun w => DiskL w d2 g2 e2 cur2 ps2 y) (by repeat (first | exact Sel.keep | exact Sel.here | apply Sel.there)))))) ?_
  rintro _ _ ⟨rfl, rfl⟩
  refine SL.val rfl rfl (fun w9 F9 S9 s => R.neI rfl rfl) ?_
  first | refine SL.val rfl rfl (fun w9 F9 S9 s => R.pickT rfl rfl) ?_ | refine SL.val rfl rfl (fun w9 F9 S9 s => R.pickF rfl rfl) ?_
  refine SL.nil ?_
  refine SN.seq ?_
  refine SG.condP rfl (fun h0 => ?_) (fun h0 => ?_)
  · exfalso; omega
  · refine SG.skip ?_
    refine SN.seq ?_
    refine SG.seq ?_
    refine SG.region ?_
    refine SL.val rfl rfl (fun w9 F9 S9 s => R.mv rfl) ?_
    refine SL.val rfl rfl (fun w9 F9 S9 s => R.mv rfl) ?_
    refine SL.step rfl rfl (CS.call rfl go23 (idiffS d g e cur ps x d2 g2 e2 cur2 ps2 y) (by repeat (first | exact Sels.nil | apply Sels.cons | exact Sel.keep | exact Sel.here | apply Sel.there))) ?_
    rintro _ _ ⟨_, ⟨a5, c5, rfl, rfl, rfl⟩, rfl⟩
    refine SL.n3 ?_
    refine SL.val rfl rfl (fun w9 F9 S9 s => R.as rfl) ?_
    refine SL.nil ?_
    refine SN.seq ?_
    refine SG.seq ?_
    refine SG.region ?_
    refine SL.val rfl rfl (fun w9 F9 S9 s => R.build (cs := #[.slice none 0 0]) rfl rfl) ?_
    refine SL.step rfl rfl (CS.boxA rfl) ?_
    rintro _ _ ⟨b30, rfl, rfl⟩
    refine SL.val rfl rfl (fun w9 F9 S9 s => R.as rfl) ?_
    refine SL.nil ?_
    refine SN.imp (Imp.pen (TE := 5) (show Sel _ (blk b30 [.slice none 0 0] 61) _ from (by repeat (first | exact Sel.keep | exact Sel.here | apply Sel.there)))) ?_
    refine SN.seq ?_
    refine SG.seq ?_
    refine SG.region ?_
    refine SL.val rfl rfl (fun w9 F9 S9 s => R.mv rfl) ?_
    refine SL.step rfl rfl (CS.call rfl go24 (penNum b30 [] 45229 2 (by simp) (by decide) (by decide)) (by repeat (first | exact Sels.nil | apply Sels.cons | exact Sel.keep | exact Sel.here | apply Sel.there))) ?_
    rintro _ _ ⟨_, ⟨rfl, rfl⟩, rfl⟩
    refine SL.n1 ?_
    refine SL.nil ?_
    refine SN.seq ?_
    refine SG.seq ?_
    refine SG.region ?_
    refine SL.val rfl rfl (fun w9 F9 S9 s => R.mv rfl) ?_
    refine SL.val rfl rfl (fun w9 F9 S9 s => R.mv rfl) ?_
    refine SL.step rfl rfl (CS.callR rfl go13 (fun w9 F9 S9 s => iblocksE (some ⟨d, 0, none⟩) x w9 (disk_o (s.sh (p := fun w => DiskL w d g e cur ps x) (by repeat (first | exact Sel.keep | exact Sel.here | apply Sel.there)))))) ?_
    rintro _ _ ⟨rfl, rfl⟩
    refine SL.step rfl rfl (CS.call rfl go24 (penNum b30 ([] ++ be 2 45229) (Image.dn x) 2 (by simp only [List.length_append, be_length, rootP_len, List.length_nil]; omega) (by decide) (by show _ < 65536; omega)) (by repeat (first | exact Sels.nil | apply Sels.cons | exact Sel.keep | exact Sel.here | apply Sel.there))) ?_
    rintro _ _ ⟨_, ⟨rfl, rfl⟩, rfl⟩
    refine SL.n1 ?_
    refine SL.nil ?_
    refine SN.seq ?_
    refine SG.seq ?_
    refine SG.region ?_
    refine SL.val rfl rfl (fun w9 F9 S9 s => R.mv rfl) ?_
    refine SL.val rfl rfl (fun w9 F9 S9 s => R.mv rfl) ?_
    refine SL.step rfl rfl (CS.call rfl go26 (droot_ok d g e cur ps x) (by repeat (first | exact Sels.nil | apply Sels.cons | exact Sel.keep | exact Sel.here | apply Sel.there))) ?_
    rintro _ _ ⟨_, ⟨rfl, rfl⟩, rfl⟩
    refine SL.n0 ?_
    refine SL.step rfl rfl (CS.call rfl go25 (root46_ok b30 ([] ++ be 2 45229 ++ be 2 (Image.dn x)) (rootD x) (by simp only [List.length_append, be_length, rootP_len, List.length_nil]; omega) hrx) (by repeat (first | exact Sels.nil | apply Sels.cons | exact Sel.keep | exact Sel.here | apply Sel.there))) ?_
    rintro _ _ ⟨_, ⟨rfl, rfl⟩, rfl⟩
    refine SL.n1 ?_
    refine SL.nil ?_
    refine SN.seq ?_
    refine SG.seq ?_
    refine SG.region ?_
    refine SL.val rfl rfl (fun w9 F9 S9 s => R.mv rfl) ?_
    refine SL.val rfl rfl (fun w9 F9 S9 s => R.mv rfl) ?_
    refine SL.step rfl rfl (CS.call rfl go26 (droot_ok d2 g2 e2 cur2 ps2 y) (by repeat (first | exact Sels.nil | apply Sels.cons | exact Sel.keep | exact Sel.here | apply Sel.there))) ?_
    rintro _ _ ⟨_, ⟨rfl, rfl⟩, rfl⟩
    refine SL.n0 ?_
    refine SL.step rfl rfl (CS.call rfl go25 (root46_ok b30 ([] ++ be 2 45229 ++ be 2 (Image.dn x) ++ rootP (rootD x)) (rootD y) (by simp only [List.length_append, be_length, rootP_len, List.length_nil]; omega) hry) (by repeat (first | exact Sels.nil | apply Sels.cons | exact Sel.keep | exact Sel.here | apply Sel.there))) ?_
    rintro _ _ ⟨_, ⟨rfl, rfl⟩, rfl⟩
    refine SL.n1 ?_
    refine SL.nil ?_
    refine SN.seq ?_
    refine SG.seq ?_
    refine SG.region ?_
    refine SL.val rfl rfl (fun w9 F9 S9 s => R.mv rfl) ?_
    refine SL.val rfl rfl (fun w9 F9 S9 s => R.mv rfl) ?_
    refine SL.val rfl rfl (fun w9 F9 S9 s => R.lenS rfl) ?_
    refine SL.step rfl rfl (CS.call rfl go24 (penNum b30 ([] ++ be 2 45229 ++ be 2 (Image.dn x) ++ rootP (rootD x) ++ rootP (rootD y)) (Image.diffF x y).length 2 (by simp only [List.length_append, be_length, rootP_len, List.length_nil]; omega) (by decide) (by show _ < 65536; omega)) (by repeat (first | exact Sels.nil | apply Sels.cons | exact Sel.keep | exact Sel.here | apply Sel.there))) ?_
    rintro _ _ ⟨_, ⟨rfl, rfl⟩, rfl⟩
    refine SL.n1 ?_
    rw [List.nil_append, show be 2 45229 ++ be 2 (Image.dn x) ++ rootP (rootD x) ++ rootP (rootD y) ++ be 2 (Image.diffF x y).length = headP rootD x y from rfl]
    refine SL.nil ?_
    refine SN.seq ?_
    refine SG.seq ?_
    refine SG.seq ?_
    refine SG.region ?_
    refine SL.val rfl rfl (fun w9 F9 S9 s => R.mv rfl) ?_
    refine SL.val rfl rfl (fun w9 F9 S9 s => R.lenS rfl) ?_
    refine SL.val rfl rfl (fun w9 F9 S9 s => R.mv rfl) ?_
    refine SL.nil ?_
    refine SN.seq ?_
    refine SG.block ?_
    refine SG.loop (X := Nat) (fun i => [(0, .pointer (some ⟨d, 0, none⟩)), (1, .pointer (some ⟨d2, 0, none⟩)), (6, .pointer (some ⟨b30, 0, none⟩)), (49, .slice a5 (Image.diffF x y).length c5), (50, .int .i64 ((Image.diffF x y).length : Int)), (51, .int .i64 (i : Int))]) (fun i => [pen 61 5 b30 (headP rootD x y ++ (((Image.diffF x y).take i).map (partP x y)).flatten), own 3 1 a5 ((Image.diffF x y).length) c5 (nums ((Image.diffF x y))), sh (fun w => DiskL w d g e cur ps x), sh (fun w => DiskL w d2 g2 e2 cur2 ps2 y)]) (fun i => i ≤ (Image.diffF x y).length) (fun i => (Image.diffF x y).length - i) (0) (Sub.cons rfl (Sub.cons rfl (Sub.cons rfl (Sub.cons rfl (Sub.cons rfl (Sub.cons rfl (Sub.nil _))))))) ((show Imp _ _ by rw [List.take_zero, List.map_nil, List.flatten_nil, List.append_nil]; exact (Imp.sels (by repeat (first | exact Sels.nil | apply Sels.cons | exact Sel.keep | exact Sel.here | apply Sel.there))))) (Nat.zero_le _) ?_
    intro i hi
    show SG _ _ _ _ _ [(0, .pointer (some ⟨d, 0, none⟩)), (1, .pointer (some ⟨d2, 0, none⟩)), (6, .pointer (some ⟨b30, 0, none⟩)), (49, .slice a5 (Image.diffF x y).length c5), (50, .int .i64 ((Image.diffF x y).length : Int)), (51, .int .i64 (i : Int))] [pen 61 5 b30 (headP rootD x y ++ (((Image.diffF x y).take i).map (partP x y)).flatten), own 3 1 a5 ((Image.diffF x y).length) c5 (nums ((Image.diffF x y))), sh (fun w => DiskL w d g e cur ps x), sh (fun w => DiskL w d2 g2 e2 cur2 ps2 y)] _
    refine SG.seq ?_
    refine SG.region ?_
    refine SL.val rfl rfl (fun w9 F9 S9 s => R.lss rfl rfl) ?_
    refine SL.nil ?_
    refine SN.seq ?_
    refine SG.seq ?_
    refine SG.condP rfl (fun h1 => ?_) (fun h1 => ?_)
    · obtain ⟨k, hk⟩ : ∃ k, (Image.diffF x y)[i]? = some k := ⟨_, List.getElem?_eq_getElem (by omega)⟩
      have hkm := Image.mem_diff (List.mem_of_getElem? hk)
      refine SG.fact (fun w9 F9 S9 s => numsP_pt (s.ownC (show Sel _ (own 3 1 a5 ((Image.diffF x y).length) c5 (nums ((Image.diffF x y)))) _ from (by repeat (first | exact Sel.keep | exact Sel.here | apply Sel.there)))) hk) (fun hf9 => ?_)
      obtain ⟨q, hq⟩ := hf9
      have hpt := hpl ((Image.diffF x y).take i)
      rw [List.length_take] at hpt
      have hw := shrink_worst _ (laidF (Image.blk x k) (Image.blk y k)) (Nat.le_refl _)
      rw [laidF_length, Image.blk_length (by omega)] at hw
      unfold worstF at hw
      refine SG.skip ?_
      refine SN.seq ?_
      refine SG.seq ?_
      refine SG.block ?_
      refine SG.seq ?_
      refine SG.region ?_
      refine SL.val rfl rfl (fun w9 F9 S9 s => R.idx rfl rfl (by omega) (by omega) q hq) ?_
      refine SL.val rfl rfl (fun w9 F9 S9 s => R.ld (v := .int .i64 (k : Int)) rfl (numsP_ld (s.ownC (show Sel _ (own 3 1 a5 ((Image.diffF x y).length) c5 (nums ((Image.diffF x y)))) _ from (by repeat (first | exact Sel.keep | exact Sel.here | apply Sel.there)))) hq hk)) ?_
      refine SL.val rfl rfl (fun w9 F9 S9 s => R.as rfl) ?_
      refine SL.nil ?_
      refine SN.seq ?_
      refine SG.seq ?_
      refine SG.region ?_
      refine SL.val rfl rfl (fun w9 F9 S9 s => R.mv rfl) ?_
      refine SL.val rfl rfl (fun w9 F9 S9 s => R.mv rfl) ?_
      refine SL.step rfl rfl (CS.call rfl go27 (igetS d g e cur ps x k (by omega)) (by repeat (first | exact Sels.nil | apply Sels.cons | exact Sel.keep | exact Sel.here | apply Sel.there))) ?_
      rintro _ _ ⟨_, ⟨a9, c9, rfl, rfl, rfl⟩, rfl⟩
      refine SL.n2 ?_
      refine SL.val rfl rfl (fun w9 F9 S9 s => R.mv rfl) ?_
      refine SL.val rfl rfl (fun w9 F9 S9 s => R.ext rfl rfl) ?_
      refine SL.val rfl rfl (fun w9 F9 S9 s => R.ext rfl rfl) ?_
      refine SL.val rfl rfl (fun w9 F9 S9 s => R.as rfl) ?_
      refine SL.val rfl rfl (fun w9 F9 S9 s => R.as rfl) ?_
      refine SL.nil ?_
      refine SN.seq ?_
      refine SG.seq ?_
      refine SG.region ?_
      refine SL.val rfl rfl (fun w9 F9 S9 s => R.mv rfl) ?_
      refine SL.val rfl rfl (fun w9 F9 S9 s => R.mv rfl) ?_
      refine SL.step rfl rfl (CS.call rfl go27 (igetS d2 g2 e2 cur2 ps2 y k (by omega)) (by repeat (first | exact Sels.nil | apply Sels.cons | exact Sel.keep | exact Sel.here | apply Sel.there))) ?_
      rintro _ _ ⟨_, ⟨a11, c11, rfl, rfl, rfl⟩, rfl⟩
      refine SL.n2 ?_
      refine SL.val rfl rfl (fun w9 F9 S9 s => R.mv rfl) ?_
      refine SL.val rfl rfl (fun w9 F9 S9 s => R.ext rfl rfl) ?_
      refine SL.val rfl rfl (fun w9 F9 S9 s => R.ext rfl rfl) ?_
      refine SL.val rfl rfl (fun w9 F9 S9 s => R.as rfl) ?_
      refine SL.val rfl rfl (fun w9 F9 S9 s => R.as rfl) ?_
      refine SL.nil ?_
      refine SN.fact (fun w9 F9 S9 s => s.ownL (show Sel _ (own 5 1 a11 64 c11 (vbs (Image.blk y k))) _ from (by repeat (first | exact Sel.keep | exact Sel.here | apply Sel.there)))) (fun hf9 => ?_)
      obtain ⟨_, hc11⟩ := hf9
      refine SN.imp (Imp.ownBs (show Sel _ (own 5 1 a9 64 c9 (vbs (Image.blk x k))) _ from (by repeat (first | exact Sel.keep | exact Sel.here | apply Sel.there)))) ?_
      refine SN.imp (Imp.ownBs (show Sel _ (own 5 1 a11 64 c11 (vbs (Image.blk y k))) _ from (by repeat (first | exact Sel.keep | exact Sel.here | apply Sel.there)))) ?_
      refine SN.seq ?_
      refine SG.seq ?_
      refine SG.region ?_
      refine SL.val rfl rfl (fun w9 F9 S9 s => R.mv rfl) ?_
      refine SL.val rfl rfl (fun w9 F9 S9 s => R.mv rfl) ?_
      refine SL.step rfl rfl (CS.call rfl go24 (penNum b30 (headP rootD x y ++ (((Image.diffF x y).take i).map (partP x y)).flatten) k 2 (by rw [List.length_append]; omega) (by decide) (by show _ < 65536; omega)) (by repeat (first | exact Sels.nil | apply Sels.cons | exact Sel.keep | exact Sel.here | apply Sel.there))) ?_
      rintro _ _ ⟨_, ⟨rfl, rfl⟩, rfl⟩
      refine SL.n1 ?_
      refine SL.nil ?_
      refine SN.seq ?_
      refine SG.region ?_
      refine SL.val rfl rfl (fun w9 F9 S9 s => R.mv rfl) ?_
      refine SL.val rfl rfl (fun w9 F9 S9 s => R.mv rfl) ?_
      refine SL.val rfl rfl (fun w9 F9 S9 s => R.mv rfl) ?_
      refine SL.step rfl rfl (CS.call rfl go29 (deltaS a9 64 c9 (Image.blk x k) a11 64 c11 (Image.blk y k) (by decide) hc11 (by decide)) (by repeat (first | exact Sels.nil | apply Sels.cons | exact Sel.keep | exact Sel.here | apply Sel.there))) ?_
      rintro _ _ ⟨_, ⟨a73, c73, rfl, rfl, rfl⟩, rfl⟩
      refine SL.n3 ?_
      refine SL.imp (Imp.ownBs (show Sel _ (own 5 1 a73 (shrinkF (laidF (Image.blk x k) (Image.blk y k))).length c73 (vbs (shrinkF (laidF (Image.blk x k) (Image.blk y k))))) _ from (by repeat (first | exact Sel.keep | exact Sel.here | apply Sel.there)))) ?_
      refine SL.step rfl rfl (CS.call rfl go28 (penText b30 (headP rootD x y ++ (((Image.diffF x y).take i).map (partP x y)).flatten ++ be 2 k) a73 (shrinkF (laidF (Image.blk x k) (Image.blk y k))).length c73 (shrinkF (laidF (Image.blk x k) (Image.blk y k))) (by rw [List.length_append, List.length_append, be_length]; omega) (by omega) (by omega)) (by repeat (first | exact Sels.nil | apply Sels.cons | exact Sel.keep | exact Sel.here | apply Sel.there))) ?_
      rintro _ _ ⟨_, ⟨rfl, rfl⟩, rfl⟩
      refine SL.n1 ?_
      refine SL.nil ?_
      refine SN.block ?_
      refine SN.seq ?_
      refine SG.region ?_
      refine SL.val rfl rfl (fun w9 F9 S9 s => R.add rfl rfl (by omega)) ?_
      refine SL.val rfl rfl (fun w9 F9 S9 s => R.mv rfl) ?_
      refine SL.nil ?_
      exact SN.again (i + 1) (by show (Image.diffF x y).length - (i + 1) < (Image.diffF x y).length - i; omega) (Sub.cons rfl (Sub.cons rfl (Sub.cons rfl (Sub.cons rfl (Sub.cons rfl (Sub.cons rfl (Sub.nil _))))))) ((show Imp _ _ by rw [flat_succ (partP x y) hk, ← List.append_assoc]; unfold partP; rw [← List.append_assoc]; exact (Imp.sels (by repeat (first | exact Sels.nil | apply Sels.cons | exact Sel.keep | exact Sel.here | apply Sel.there))))) (by show i + 1 ≤ (Image.diffF x y).length; omega)
    · obtain rfl : i = (Image.diffF x y).length := by omega
      have hml := make_len rootD x y
      refine SG.exit _ rfl ?_
      refine SN.seq ?_
      refine SG.seq ?_
      rw [List.take_length, show headP rootD x y ++ ((Image.diffF x y).map (partP x y)).flatten = makeF rootD x y from rfl]
      refine SG.region ?_
      refine SL.val rfl rfl (fun w9 F9 S9 s => R.mv rfl) ?_
      refine SL.step rfl rfl (CS.call rfl go30 (penBytes b30 (makeF rootD x y) (by omega)) (by repeat (first | exact Sels.nil | apply Sels.cons | exact Sel.keep | exact Sel.here | apply Sel.there))) ?_
      rintro _ _ ⟨_, ⟨a4, c4, rfl, rfl, rfl⟩, rfl⟩
      refine SL.n2 ?_
      refine SL.val rfl rfl (fun w9 F9 S9 s => R.as rfl) ?_
      refine SL.nil ?_
      refine SN.seq ?_
      exact SG.ret1 rfl rfl ((show Imp _ [own 5 1 a4 (makeF rootD x y).length c4 (vbs (makeF rootD x y))] from (Imp.sels (by repeat (first | exact Sels.nil | apply Sels.cons | exact Sel.keep | exact Sel.here | apply Sel.there))))) (⟨a4, c4, rfl, rfl⟩)

end Go.Proofs.Yteaihincmfbblaa
/-
  The walks of package patch.
-/
set_option linter.unusedVariables false
set_option linter.unusedSimpArgs false
set_option maxRecDepth 4000
namespace Go.Proofs.Yteaihincmfbblaa
open Go Brv Brv.Pack Brv.Shrink Brv.Patch
/-- A part of a patch. -/
structure PartV where
  k : Nat
  a : Option Addr
  n : Nat
  c : Nat
  d : List UInt8
def PartV.cells (p : PartV) : List Value := [.int .i64 (p.k : Int), .slice p.a p.n p.c]
def PartV.ok (w : World) (p : PartV) : Prop := (p.n ≤ p.c ∧ p.d.length ≤ 65535) ∧ Bs w p.a p.n p.d
def PartV.abs (p : PartV) : Nat × List UInt8 := (p.k, p.d)
def cellsP (ps : List PartV) : List Value := (ps.map PartV.cells).flatten
theorem cellsP_app (a b : List PartV) : cellsP (a ++ b) = cellsP a ++ cellsP b := by simp [cellsP]
theorem cellsP_one (ps : List PartV) : ∀ u ∈ cellsP ps, u.oneCell' = true := by
  intro u hu
  obtain ⟨cs, hcs, hu⟩ := List.mem_flatten.1 hu
  obtain ⟨p, _, rfl⟩ := List.mem_map.1 hcs
  simp only [PartV.cells, List.mem_cons, List.not_mem_nil, or_false] at hu
  rcases hu with rfl | rfl <;> rfl
theorem cellsP_at {ps : List PartV} {i : Nat} {p : PartV} (h : ps[i]? = some p) : ∀ j v, p.cells[j]? = some v → (cellsP ps)[i * 2 + j]? = some v := by
  intro j v hv
  have hj : j < 2 := by have := (List.getElem?_eq_some_iff.1 hv).1; simpa [PartV.cells] using this
  obtain ⟨hi, e⟩ := List.getElem?_eq_some_iff.1 h
  have := flatten_get (ps.map PartV.cells) i (fun vs hvs => by obtain ⟨q, _, rfl⟩ := List.mem_map.1 hvs; rfl) (by rw [List.length_map]; exact hi) j hj
  unfold cellsP
  rw [this, List.getElem_map, e]; exact hv
theorem parts_pt {w : World} {a : Option Addr} {ps : List PartV} {i : Nat} {p : PartV} (h : Cells w a (cellsP ps)) (hp : ps[i]? = some p) : ∃ q, a = some q :=
  let ⟨q, hq, _⟩ := h _ _ (cellsP_at hp 0 _ rfl); ⟨q, hq⟩
theorem parts_ld {w : World} {a : Option Addr} {ps : List PartV} {i : Nat} {p : PartV} {q : Addr} (h : Cells w a (cellsP ps)) (hq : a = some q) (hp : ps[i]? = some p) : Cells w (some (q.add ((i : Int).toNat * 2))) p.cells := by
  intro j v hv
  obtain ⟨q2, h2, hc⟩ := h _ _ (cellsP_at hp j v hv)
  rw [hq] at h2; cases h2
  exact ⟨_, rfl, by rw [add_add, Int.toNat_natCast]; exact hc⟩
theorem right_drop {bl : Nat} {last : Int} {ps : List PartV} {i : Nat} {p : PartV} (h : ps[i]? = some p) : rightF bl last ((ps.drop i).map PartV.abs) = (decide (okP bl last p.abs) && rightF bl p.k ((ps.drop (i + 1)).map PartV.abs)) := by
  obtain ⟨hi, e⟩ := List.getElem?_eq_some_iff.1 h
  rw [List.drop_eq_getElem_cons hi, e]; rfl
structure RiS where
  i : Nat
  last : Int

set_option maxHeartbeats 1000000 in
theorem right_ok (x : Nat) (a : Option Addr) (c : Nat) (bl : Nat) (o1 o2 : Value) (ps : List PartV) (hn : ps.length ≤ 70000) : SpecS Try.prog 58 [.pointer (some ⟨x, 0, none⟩)] [fz x [.int .i64 (bl : Int), o1, o2, .slice a ps.length c] 75, sh (fun w => Cells w a (cellsP ps) ∧ ∀ k ∈ ps, PartV.ok w k)] (fun v H' => v = .bool (decide (rightF bl (-1) (ps.map PartV.abs) = true ∧ 1 ≤ bl ∧ bl ≤ 64)) ∧ H' = []) := by
  refine SpecS.enter Try.func58 rfl 60 rfl (Nat.le_of_ble_eq_true rfl) (fun o => ?_)
  refine SG.seq ?_
  refine SG.region ?_
  refine SL.val rfl rfl (fun w9 F9 S9 s => R.as rfl) ?_
  refine SL.nil ?_
  refine SN.seq ?_
  refine SG.seq ?_
  refine SG.region ?_
  refine SL.val rfl rfl (fun w9 F9 S9 s => R.as rfl) ?_
  refine SL.nil ?_
  have hne : (-1 : Int) ≤ (-1 : Int) := Int.le_refl _
  refine SN.seq ?_
  refine SG.seq ?_
  refine SG.seq ?_
  refine SG.region ?_
  refine SL.val rfl rfl (fun w9 F9 S9 s => R.mv rfl) ?_
  refine SL.val rfl rfl (fun w9 F9 S9 s => R.nilChk rfl) ?_
  refine SL.val rfl rfl (fun w9 F9 S9 s => R.fld rfl) ?_
  refine SL.val rfl rfl (fun w9 F9 S9 s => R.ldB (v := .slice a ps.length c) rfl (s.fz (show Sel _ (fz x [.int .i64 (bl : Int), o1, o2, .slice a ps.length c] 75) _ from (by repeat (first | exact Sel.keep | exact Sel.here | apply Sel.there)))) (by rfl)) ?_
  refine SL.val rfl rfl (fun w9 F9 S9 s => R.lenS rfl) ?_
  refine SL.val rfl rfl (fun w9 F9 S9 s => R.mv rfl) ?_
  refine SL.nil ?_
  refine SN.seq ?_
  refine SG.block ?_
  refine SG.loop (X := RiS) (fun y => [(0, .pointer (some ⟨x, 0, none⟩)), (3, .int .i64 y.last), (11, .slice a ps.length c), (12, .int .i64 (ps.length : Int)), (13, .int .i64 (y.i : Int))]) (fun y => [fz x [.int .i64 (bl : Int), o1, o2, .slice a ps.length c] 75, sh (fun w => Cells w a (cellsP ps) ∧ ∀ k ∈ ps, PartV.ok w k)]) (fun y => y.i ≤ ps.length ∧ rightF bl (-1) (ps.map PartV.abs) = rightF bl y.last ((ps.drop y.i).map PartV.abs)) (fun y => ps.length - y.i) (⟨0, -1⟩) (Sub.cons rfl (Sub.cons rfl (Sub.cons rfl (Sub.cons rfl (Sub.cons rfl (Sub.nil _)))))) ((Imp.sels (by repeat (first | exact Sels.nil | apply Sels.cons | exact Sel.keep | exact Sel.here | apply Sel.there)))) (⟨Nat.zero_le _, rfl⟩) ?_
  rintro ⟨i, last⟩ ⟨hi, hR⟩
  dsimp only at hi hR
  show SG _ _ _ _ _ [(0, .pointer (some ⟨x, 0, none⟩)), (3, .int .i64 last), (11, .slice a ps.length c), (12, .int .i64 (ps.length : Int)), (13, .int .i64 (i : Int))] [fz x [.int .i64 (bl : Int), o1, o2, .slice a ps.length c] 75, sh (fun w => Cells w a (cellsP ps) ∧ ∀ k ∈ ps, PartV.ok w k)] _
  refine SG.seq ?_
  refine SG.region ?_
  refine SL.val rfl rfl (fun w9 F9 S9 s => R.lss rfl rfl) ?_
  refine SL.nil ?_
  refine SN.seq ?_
  refine SG.seq ?_
  refine SG.condP rfl (fun h0 => ?_) (fun h0 => ?_)
  · obtain ⟨p, hp⟩ : ∃ p, ps[i]? = some p := ⟨_, List.getElem?_eq_getElem (by omega)⟩
    have hpm := List.mem_of_getElem? hp
    refine SG.fact (fun w9 F9 S9 s => parts_pt (s.sh (p := (fun w => Cells w a (cellsP ps) ∧ ∀ k ∈ ps, PartV.ok w k)) (by repeat (first | exact Sel.keep | exact Sel.here | apply Sel.there))).1 hp) (fun hf9 => ?_)
    obtain ⟨q, hq⟩ := hf9
    refine SG.fact (fun w9 F9 S9 s => ((s.sh (p := (fun w => Cells w a (cellsP ps) ∧ ∀ k ∈ ps, PartV.ok w k)) (by repeat (first | exact Sel.keep | exact Sel.here | apply Sel.there))).2 p hpm).1) (fun hf9 => ?_)
    have hpo := hf9; clear hf9
    refine SG.fact (fun w9 F9 S9 s => ((s.sh (p := (fun w => Cells w a (cellsP ps) ∧ ∀ k ∈ ps, PartV.ok w k)) (by repeat (first | exact Sel.keep | exact Sel.here | apply Sel.there))).2 p hpm).2.len) (fun hf9 => ?_)
    have hpl := hf9; clear hf9
    have hrd := right_drop (bl := bl) (last := last) hp
    refine SG.skip ?_
    refine SN.seq ?_
    refine SG.seq ?_
    refine SG.block ?_
    refine SG.seq ?_
    refine SG.region ?_
    refine SL.val rfl rfl (fun w9 F9 S9 s => R.idx rfl rfl (by omega) (by omega) q hq) ?_
    refine SL.val rfl rfl (fun w9 F9 S9 s => R.ldN (vs := PartV.cells p) rfl (parts_ld (s.sh (p := (fun w => Cells w a (cellsP ps) ∧ ∀ k ∈ ps, PartV.ok w k)) (by repeat (first | exact Sel.keep | exact Sel.here | apply Sel.there))).1 hq hp) rfl) ?_
    refine SL.step rfl rfl (CS.alloc [.int .i64 0, .slice none 0 0] rfl) ?_
    rintro _ _ ⟨b5, rfl, rfl⟩
    refine SL.step0 rfl (CS.stA (vs := PartV.cells p) rfl rfl (by repeat (first | exact Sel.keep | exact Sel.here | apply Sel.there)) (by rfl) (by rfl) (by intro u hu; simp only [PartV.cells, List.mem_cons, List.not_mem_nil, or_false] at hu; rcases hu with rfl | rfl <;> rfl)) ?_
    rintro _ _ rfl
    refine SL.nil ?_
    refine SN.seq ?_
    refine SG.seq ?_
    refine SG.imp (Imp.weak (p := (fun w => Cells w a (cellsP ps) ∧ ∀ k ∈ ps, PartV.ok w k)) (q := fun w => Bs w p.a p.n p.d) (by repeat (first | exact Sel.keep | exact Sel.here | apply Sel.there)) (fun w h => (h.2 p hpm).2)) ?_
    refine SG.region ?_
    refine SL.val rfl rfl (fun w9 F9 S9 s => R.fld rfl) ?_
    refine SL.val rfl rfl (fun w9 F9 S9 s => R.ldB (v := .slice p.a p.n p.c) rfl (s.cel (by repeat (first | exact SelB.blk | exact SelB.fz | apply SelB.there))) (by rfl)) ?_
    refine SL.step rfl rfl (CS.call rfl go59 (growS p.a p.n p.c p.d 64 hpo.1 (by omega)) (by repeat (first | exact Sels.nil | apply Sels.cons | exact Sel.keep | exact Sel.here | apply Sel.there))) ?_
    rintro _ _ ⟨_, ⟨a6, c6, rfl, rfl, rfl⟩, rfl⟩
    refine SL.n2 ?_
    refine SL.val rfl rfl (fun w9 F9 S9 s => R.mv rfl) ?_
    refine SL.val rfl rfl (fun w9 F9 S9 s => R.ext rfl rfl) ?_
    refine SL.val rfl rfl (fun w9 F9 S9 s => R.ext rfl rfl) ?_
    refine SL.val rfl rfl (fun w9 F9 S9 s => R.as rfl) ?_
    refine SL.val rfl rfl (fun w9 F9 S9 s => R.as rfl) ?_
    refine SL.nil ?_
    refine SN.seq ?_
    refine SG.seq ?_
    refine SG.seq ?_
    refine SG.draw [] [0, 1, 2, 3, 4, 5, 6, 7, 8, 9, 10, 11, 12, 13, 14, 15, 16, 17, 18, 19, 20, 21] (by decide +kernel) rfl ?_
    refine SW.pure rfl rfl rfl rfl (fun w9 => R.mv rfl) ?_
    refine SW.pure rfl rfl rfl rfl (fun w9 => R.neI rfl rfl) ?_
    refine SW.pure rfl rfl rfl rfl (fun w9 => R.mv rfl) ?_
    refine SW.caseP 25 rfl (fun hg6_2 => ?_) (fun hg6_2 => ?_)
    · refine SW.pass (hd := rfl) rfl rfl rfl ?_
      refine SW.pass (hd := rfl) rfl rfl rfl ?_
      refine SW.pass (hd := rfl) rfl rfl rfl ?_
      first | refine SW.pure rfl rfl rfl rfl (fun w9 => R.pickT rfl rfl) ?_ | refine SW.pure rfl rfl rfl rfl (fun w9 => R.pickF rfl rfl) ?_
      refine SW.pure rfl rfl rfl rfl (fun w9 => R.mv rfl) ?_
      refine SW.pass (hd := rfl) rfl rfl rfl ?_
      refine SW.pass (hd := rfl) rfl rfl rfl ?_
      refine SW.pass (hd := rfl) rfl rfl rfl ?_
      refine SW.pass (hd := rfl) rfl rfl rfl ?_
      first | refine SW.pure rfl rfl rfl rfl (fun w9 => R.pickT rfl rfl) ?_ | refine SW.pure rfl rfl rfl rfl (fun w9 => R.pickF rfl rfl) ?_
      refine SW.pure rfl rfl rfl rfl (fun w9 => R.mv rfl) ?_
      refine SW.pass (hd := rfl) rfl rfl rfl ?_
      refine SW.pass (hd := rfl) rfl rfl rfl ?_
      refine SW.pass (hd := rfl) rfl rfl rfl ?_
      refine SW.pass (hd := rfl) rfl rfl rfl ?_
      refine SW.pass (hd := rfl) rfl rfl rfl ?_
      refine SW.pass (hd := rfl) rfl rfl rfl ?_
      refine SW.pass (hd := rfl) rfl rfl rfl ?_
      first | refine SW.pure rfl rfl rfl rfl (fun w9 => R.pickT rfl rfl) ?_ | refine SW.pure rfl rfl rfl rfl (fun w9 => R.pickF rfl rfl) ?_
      refine SW.nil ?_
      refine SN.seq ?_
      refine SG.condT rfl ?_
      have hR2 : rightF bl (-1) (ps.map PartV.abs) = false := by rw [hR, hrd, decide_eq_false (fun h9 => by have h8 : ((growF 64 p.d).2 = 0 ∧ (growF 64 p.d).1.length = 64) ∧ last < (p.k : Int) ∧ p.k < bl := h9; omega)]; rfl
      refine SG.seq ?_
      refine SG.region ?_
      refine SL.val rfl rfl (fun w9 F9 S9 s => R.as rfl) ?_
      refine SL.nil ?_
      refine SN.seq ?_
      exact SG.ret1 rfl rfl ((Imp.sels (by repeat (first | exact Sels.nil | apply Sels.cons | exact Sel.keep | exact Sel.here | apply Sel.there)))) (⟨congrArg Value.bool (decide_eq_false (fun h9 => by rw [hR2] at h9; exact absurd h9.1 (by decide))).symm, rfl⟩)
    · refine SW.pure rfl rfl rfl rfl (fun w9 => R.mv rfl) ?_
      refine SW.pure rfl rfl rfl rfl (fun w9 => R.lenS rfl) ?_
      refine SW.pure rfl rfl rfl rfl (fun w9 => R.neI rfl rfl) ?_
      first | refine SW.pure rfl rfl rfl rfl (fun w9 => R.pickT rfl rfl) ?_ | refine SW.pure rfl rfl rfl rfl (fun w9 => R.pickF rfl rfl) ?_
      refine SW.pure rfl rfl rfl rfl (fun w9 => R.mv rfl) ?_
      refine SW.caseP 30 rfl (fun hg6_7 => ?_) (fun hg6_7 => ?_)
      · refine SW.pass (hd := rfl) rfl rfl rfl ?_
        refine SW.pass (hd := rfl) rfl rfl rfl ?_
        refine SW.pass (hd := rfl) rfl rfl rfl ?_
        refine SW.pass (hd := rfl) rfl rfl rfl ?_
        first | refine SW.pure rfl rfl rfl rfl (fun w9 => R.pickT rfl rfl) ?_ | refine SW.pure rfl rfl rfl rfl (fun w9 => R.pickF rfl rfl) ?_
        refine SW.pure rfl rfl rfl rfl (fun w9 => R.mv rfl) ?_
        refine SW.pass (hd := rfl) rfl rfl rfl ?_
        refine SW.pass (hd := rfl) rfl rfl rfl ?_
        refine SW.pass (hd := rfl) rfl rfl rfl ?_
        refine SW.pass (hd := rfl) rfl rfl rfl ?_
        refine SW.pass (hd := rfl) rfl rfl rfl ?_
        refine SW.pass (hd := rfl) rfl rfl rfl ?_
        refine SW.pass (hd := rfl) rfl rfl rfl ?_
        first | refine SW.pure rfl rfl rfl rfl (fun w9 => R.pickT rfl rfl) ?_ | refine SW.pure rfl rfl rfl rfl (fun w9 => R.pickF rfl rfl) ?_
        refine SW.nil ?_
        refine SN.seq ?_
        refine SG.condT rfl ?_
        have hR2 : rightF bl (-1) (ps.map PartV.abs) = false := by rw [hR, hrd, decide_eq_false (fun h9 => by have h8 : ((growF 64 p.d).2 = 0 ∧ (growF 64 p.d).1.length = 64) ∧ last < (p.k : Int) ∧ p.k < bl := h9; omega)]; rfl
        refine SG.seq ?_
        refine SG.region ?_
        refine SL.val rfl rfl (fun w9 F9 S9 s => R.as rfl) ?_
        refine SL.nil ?_
        refine SN.seq ?_
        exact SG.ret1 rfl rfl ((Imp.sels (by repeat (first | exact Sels.nil | apply Sels.cons | exact Sel.keep | exact Sel.here | apply Sel.there)))) (⟨congrArg Value.bool (decide_eq_false (fun h9 => by rw [hR2] at h9; exact absurd h9.1 (by decide))).symm, rfl⟩)
      · refine SW.pure rfl rfl rfl rfl (fun w9 => R.fld rfl) ?_
        refine SW.read rfl rfl rfl rfl (fun w9 F9 S9 s => R.ldB (v := .int .i64 (p.k : Int)) rfl (s.cel (by repeat (first | exact SelB.blk | exact SelB.fz | apply SelB.there))) (by rfl)) ?_
        refine SW.pure rfl rfl rfl rfl (fun w9 => R.mv rfl) ?_
        refine SW.pure rfl rfl rfl rfl (fun w9 => R.leq rfl rfl) ?_
        first | refine SW.pure rfl rfl rfl rfl (fun w9 => R.pickT rfl rfl) ?_ | refine SW.pure rfl rfl rfl rfl (fun w9 => R.pickF rfl rfl) ?_
        refine SW.pure rfl rfl rfl rfl (fun w9 => R.mv rfl) ?_
        refine SW.caseP 36 rfl (fun hg6_13 => ?_) (fun hg6_13 => ?_)
        · refine SW.pass (hd := rfl) rfl rfl rfl ?_
          refine SW.pass (hd := rfl) rfl rfl rfl ?_
          refine SW.pass (hd := rfl) rfl rfl rfl ?_
          refine SW.pass (hd := rfl) rfl rfl rfl ?_
          refine SW.pass (hd := rfl) rfl rfl rfl ?_
          refine SW.pass (hd := rfl) rfl rfl rfl ?_
          refine SW.pass (hd := rfl) rfl rfl rfl ?_
          first | refine SW.pure rfl rfl rfl rfl (fun w9 => R.pickT rfl rfl) ?_ | refine SW.pure rfl rfl rfl rfl (fun w9 => R.pickF rfl rfl) ?_
          refine SW.nil ?_
          refine SN.seq ?_
          refine SG.condT rfl ?_
          have hR2 : rightF bl (-1) (ps.map PartV.abs) = false := by rw [hR, hrd, decide_eq_false (fun h9 => by have h8 : ((growF 64 p.d).2 = 0 ∧ (growF 64 p.d).1.length = 64) ∧ last < (p.k : Int) ∧ p.k < bl := h9; omega)]; rfl
          refine SG.seq ?_
          refine SG.region ?_
          refine SL.val rfl rfl (fun w9 F9 S9 s => R.as rfl) ?_
          refine SL.nil ?_
          refine SN.seq ?_
          exact SG.ret1 rfl rfl ((Imp.sels (by repeat (first | exact Sels.nil | apply Sels.cons | exact Sel.keep | exact Sel.here | apply Sel.there)))) (⟨congrArg Value.bool (decide_eq_false (fun h9 => by rw [hR2] at h9; exact absurd h9.1 (by decide))).symm, rfl⟩)
        · refine SW.pure rfl rfl rfl rfl (fun w9 => R.fld rfl) ?_
          refine SW.read rfl rfl rfl rfl (fun w9 F9 S9 s => R.ldB (v := .int .i64 (p.k : Int)) rfl (s.cel (by repeat (first | exact SelB.blk | exact SelB.fz | apply SelB.there))) (by rfl)) ?_
          refine SW.pure rfl rfl rfl rfl (fun w9 => R.mv rfl) ?_
          refine SW.pure rfl rfl rfl rfl (fun w9 => R.nilChk rfl) ?_
          refine SW.pure rfl rfl rfl rfl (fun w9 => R.fld rfl) ?_
          refine SW.read rfl rfl rfl rfl (fun w9 F9 S9 s => R.ldB (v := .int .i64 (bl : Int)) rfl (s.fz (show Sel _ (fz x [.int .i64 (bl : Int), o1, o2, .slice a ps.length c] 75) _ from (by repeat (first | exact Sel.keep | exact Sel.here | apply Sel.there)))) (by rfl)) ?_
          refine SW.pure rfl rfl rfl rfl (fun w9 => R.geq rfl rfl) ?_
          first | refine SW.pure rfl rfl rfl rfl (fun w9 => R.pickT rfl rfl) ?_ | refine SW.pure rfl rfl rfl rfl (fun w9 => R.pickF rfl rfl) ?_
          refine SW.nil ?_
          refine SN.seq ?_
          refine SG.condP rfl (fun h1 => ?_) (fun h1 => ?_)
          · have hR2 : rightF bl (-1) (ps.map PartV.abs) = false := by rw [hR, hrd, decide_eq_false (fun h9 => by have h8 : ((growF 64 p.d).2 = 0 ∧ (growF 64 p.d).1.length = 64) ∧ last < (p.k : Int) ∧ p.k < bl := h9; omega)]; rfl
            refine SG.seq ?_
            refine SG.region ?_
            refine SL.val rfl rfl (fun w9 F9 S9 s => R.as rfl) ?_
            refine SL.nil ?_
            refine SN.seq ?_
            exact SG.ret1 rfl rfl ((Imp.sels (by repeat (first | exact Sels.nil | apply Sels.cons | exact Sel.keep | exact Sel.here | apply Sel.there)))) (⟨congrArg Value.bool (decide_eq_false (fun h9 => by rw [hR2] at h9; exact absurd h9.1 (by decide))).symm, rfl⟩)
          · have hok : okP bl last p.abs := by show ((growF 64 p.d).2 = 0 ∧ (growF 64 p.d).1.length = 64) ∧ last < (p.k : Int) ∧ p.k < bl; omega
            have hR2 : rightF bl (-1) (ps.map PartV.abs) = rightF bl (p.k : Int) ((ps.drop (i + 1)).map PartV.abs) := by rw [hR, hrd, decide_eq_true hok, Bool.true_and]
            refine SG.skip ?_
            refine SN.seq ?_
            refine SG.region ?_
            refine SL.val rfl rfl (fun w9 F9 S9 s => R.fld rfl) ?_
            refine SL.val rfl rfl (fun w9 F9 S9 s => R.ldB (v := .int .i64 (p.k : Int)) rfl (s.cel (by repeat (first | exact SelB.blk | exact SelB.fz | apply SelB.there))) (by rfl)) ?_
            refine SL.val rfl rfl (fun w9 F9 S9 s => R.as rfl) ?_
            refine SL.nil ?_
            refine SN.block ?_
            refine SN.seq ?_
            refine SG.region ?_
            refine SL.val rfl rfl (fun w9 F9 S9 s => R.add rfl rfl (by omega)) ?_
            refine SL.val rfl rfl (fun w9 F9 S9 s => R.mv rfl) ?_
            refine SL.nil ?_
            exact SN.again (⟨i + 1, (p.k : Int)⟩) (by show ps.length - (i + 1) < ps.length - i; omega) (Sub.cons rfl (Sub.cons rfl (Sub.cons rfl (Sub.cons rfl (Sub.cons rfl (Sub.nil _)))))) ((Imp.sels (by repeat (first | exact Sels.nil | apply Sels.cons | exact Sel.keep | exact Sel.here | apply Sel.there)))) (⟨by show i + 1 ≤ ps.length; omega, hR2⟩)
  · have hR2 : rightF bl (-1) (ps.map PartV.abs) = true := by rw [hR, List.drop_of_length_le (by omega)]; rfl
    refine SG.exit _ rfl ?_
    refine SN.seq ?_
    refine SG.seq ?_
    refine SG.region ?_
    refine SL.val rfl rfl (fun w9 F9 S9 s => R.mv rfl) ?_
    refine SL.val rfl rfl (fun w9 F9 S9 s => R.nilChk rfl) ?_
    refine SL.val rfl rfl (fun w9 F9 S9 s => R.fld rfl) ?_
    refine SL.val rfl rfl (fun w9 F9 S9 s => R.ldB (v := .int .i64 (bl : Int)) rfl (s.fz (show Sel _ (fz x [.int .i64 (bl : Int), o1, o2, .slice a ps.length c] 75) _ from (by repeat (first | exact Sel.keep | exact Sel.here | apply Sel.there)))) (by rfl)) ?_
    refine SL.val rfl rfl (fun w9 F9 S9 s => R.geq rfl rfl) ?_
    refine SL.val rfl rfl (fun w9 F9 S9 s => R.mv rfl) ?_
    refine SL.caseP 53 rfl (fun hg10_5 => ?_) (fun hg10_5 => ?_)
    · refine SL.val rfl rfl (fun w9 F9 S9 s => R.mv rfl) ?_
      refine SL.val rfl rfl (fun w9 F9 S9 s => R.nilChk rfl) ?_
      refine SL.val rfl rfl (fun w9 F9 S9 s => R.fld rfl) ?_
      refine SL.val rfl rfl (fun w9 F9 S9 s => R.ldB (v := .int .i64 (bl : Int)) rfl (s.fz (show Sel _ (fz x [.int .i64 (bl : Int), o1, o2, .slice a ps.length c] 75) _ from (by repeat (first | exact Sel.keep | exact Sel.here | apply Sel.there)))) (by rfl)) ?_
      refine SL.val rfl rfl (fun w9 F9 S9 s => R.leq rfl rfl) ?_
      first | refine SL.val rfl rfl (fun w9 F9 S9 s => R.pickT rfl rfl) ?_ | refine SL.val rfl rfl (fun w9 F9 S9 s => R.pickF rfl rfl) ?_
      refine SL.val rfl rfl (fun w9 F9 S9 s => R.as rfl) ?_
      refine SL.nil ?_
      refine SN.seq ?_
      exact SG.ret1 rfl rfl ((Imp.sels (by repeat (first | exact Sels.nil | apply Sels.cons | exact Sel.keep | exact Sel.here | apply Sel.there)))) (⟨congrArg Value.bool (by rw [decide_eq_decide, hR2]; simp only [true_and]; omega), rfl⟩)
    · refine SL.pass rfl rfl ?_
      refine SL.pass rfl rfl ?_
      refine SL.pass rfl rfl ?_
      refine SL.pass rfl rfl ?_
      refine SL.pass rfl rfl ?_
      first | refine SL.val rfl rfl (fun w9 F9 S9 s => R.pickT rfl rfl) ?_ | refine SL.val rfl rfl (fun w9 F9 S9 s => R.pickF rfl rfl) ?_
      refine SL.val rfl rfl (fun w9 F9 S9 s => R.as rfl) ?_
      refine SL.nil ?_
      refine SN.seq ?_
      exact SG.ret1 rfl rfl ((Imp.sels (by repeat (first | exact Sels.nil | apply Sels.cons | exact Sel.keep | exact Sel.here | apply Sel.there)))) (⟨congrArg Value.bool (decide_eq_false (fun h9 => by omega)).symm, rfl⟩)

end Go.Proofs.Yteaihincmfbblaa
/-
  The walks of package patch.
-/
set_option linter.unusedVariables false
set_option linter.unusedSimpArgs false
set_option maxRecDepth 4000
namespace Go.Proofs.Yteaihincmfbblaa
open Go Brv Brv.Pack Brv.Shrink Brv.Patch
theorem unroot_length (l : List UInt8) (e : Int) : (unrootF l e).2.1.length ≤ l.length := by
  unfold unrootF
  exact Nat.le_trans (numF_length _ _ _) (numF_length _ _ _)
theorem partsF_err (n : Nat) {l : List UInt8} {e : Int} (h : e ≠ 0) : partsF n l e = ([], l, e) := by
  cases n with
  | zero => rfl
  | succ n => rw [partsF, if_pos h]
theorem txtF_le (l : List UInt8) (e most : Int) : (txtF l e most).1.length ≤ 65535 := by
  unfold txtF
  split
  · split
    · rw [List.length_take]
      have h := Pack.num_lt (l.take 2)
      have : 256 ^ (l.take 2).length ≤ 256 ^ 2 := Nat.pow_le_pow_right (by decide) (by rw [List.length_take]; omega)
      omega
    · simp
  · simp
structure PaS where
  i : Nat
  l : List UInt8
  e : Int
  ps : List PartV
  a : Option Addr
  c : Nat

set_option maxHeartbeats 2000000 in
theorem parse_no (a : Option Addr) (n c : Nat) (l : List UInt8) (hc : n ≤ c) (hn : n ≤ 1000000) (hpf : parseF l = none) : SpecS Try.prog 31 [.slice a n c] [bs a n l] (fun v H' => v = .tuple #[.pointer none, .int .i64 20] ∧ H' = []) := by
  refine SpecS.enter Try.func31 rfl 55 rfl (Nat.le_of_ble_eq_true rfl) (fun o => ?_)
  refine SG.fact (fun w9 F9 S9 s => (s.bs (a := a) (n := n) (l := l) (by repeat (first | exact Sel.keep | exact Sel.here | apply Sel.there))).len) (fun hf9 => ?_)
  have hln := hf9; clear hf9
  have hm45 : (numF l 0 2).1 = 45229 ∧ okQ (qF l) ∨ ¬ ((numF l 0 2).1 = 45229 ∧ okQ (qF l)) := Classical.em _
  refine SG.seq ?_
  refine SG.region ?_
  refine SL.val rfl rfl (fun w9 F9 S9 s => R.as rfl) ?_
  refine SL.val rfl rfl (fun w9 F9 S9 s => R.as rfl) ?_
  refine SL.nil ?_
  refine SN.seq ?_
  refine SG.seq ?_
  refine SG.region ?_
  refine SL.val rfl rfl (fun w9 F9 S9 s => R.mv rfl) ?_
  refine SL.step rfl rfl (CS.call rfl go52 (scanNew a n c l hc (by omega)) (by repeat (first | exact Sels.nil | apply Sels.cons | exact Sel.keep | exact Sel.here | apply Sel.there))) ?_
  rintro _ _ ⟨_, ⟨b4, rfl, rfl, rfl⟩, rfl⟩
  refine SL.n2 ?_
  refine SL.val rfl rfl (fun w9 F9 S9 s => R.as rfl) ?_
  refine SL.nil ?_
  refine SN.seq ?_
  refine SG.seq ?_
  refine SG.seq ?_
  refine SG.region ?_
  refine SL.val rfl rfl (fun w9 F9 S9 s => R.mv rfl) ?_
  refine SL.step rfl rfl (CS.call rfl go53 (scanNum b4 l 0 2 (by omega)) (by repeat (first | exact Sels.nil | apply Sels.cons | exact Sel.keep | exact Sel.here | apply Sel.there))) ?_
  rintro _ _ ⟨_, ⟨rfl, rfl⟩, rfl⟩
  refine SL.n1 ?_
  obtain ⟨m0, hm0⟩ : ∃ z, z = numF l 0 2 := ⟨_, rfl⟩
  rw [← hm0]
  refine SL.val rfl rfl (fun w9 F9 S9 s => R.neI rfl rfl) ?_
  refine SL.nil ?_
  refine SN.seq ?_
  refine SG.condP rfl (fun h0 => ?_) (fun h0 => ?_)
  · refine SG.seq ?_
    refine SG.region ?_
    refine SL.val rfl rfl (fun w9 F9 S9 s => R.as rfl) ?_
    refine SL.val rfl rfl (fun w9 F9 S9 s => R.as rfl) ?_
    refine SL.nil ?_
    refine SN.seq ?_
    exact SG.ret2 rfl rfl rfl ((Imp.sels (by repeat (first | exact Sels.nil | apply Sels.cons | exact Sel.keep | exact Sel.here | apply Sel.there)))) (⟨rfl, rfl⟩)
  · have hm1 : (numF l 0 2).1 = 45229 := by rw [← hm0]; omega
    have hml : m0.2.1.length ≤ l.length := by rw [hm0]; exact numF_length _ _ _
    refine SG.skip ?_
    refine SN.seq ?_
    refine SG.seq ?_
    refine SG.region ?_
    refine SL.val rfl rfl (fun w9 F9 S9 s => R.mv rfl) ?_
    refine SL.step rfl rfl (CS.call rfl go53 (scanNum b4 m0.2.1 m0.2.2 2 (by omega)) (by repeat (first | exact Sels.nil | apply Sels.cons | exact Sel.keep | exact Sel.here | apply Sel.there))) ?_
    rintro _ _ ⟨_, ⟨rfl, rfl⟩, rfl⟩
    refine SL.n1 ?_
    obtain ⟨b0, hb0⟩ : ∃ z, z = numF m0.2.1 m0.2.2 2 := ⟨_, rfl⟩
    rw [← hb0]
    have hbl : b0.2.1.length ≤ m0.2.1.length := by rw [hb0]; exact numF_length _ _ _
    refine SL.val rfl rfl (fun w9 F9 S9 s => R.mv rfl) ?_
    refine SL.step rfl rfl (CS.call rfl go54 (unroot_ok b4 b0.2.1 b0.2.2 (by omega)) (by repeat (first | exact Sels.nil | apply Sels.cons | exact Sel.keep | exact Sel.here | apply Sel.there))) ?_
    rintro _ _ ⟨_, ⟨rfl, rfl⟩, rfl⟩
    refine SL.n1 ?_
    obtain ⟨o0, ho0⟩ : ∃ z, z = unrootF b0.2.1 b0.2.2 := ⟨_, rfl⟩
    rw [← ho0]
    have hol : o0.2.1.length ≤ b0.2.1.length := by rw [ho0]; exact unroot_length _ _
    refine SL.val rfl rfl (fun w9 F9 S9 s => R.mv rfl) ?_
    refine SL.step rfl rfl (CS.call rfl go54 (unroot_ok b4 o0.2.1 o0.2.2 (by omega)) (by repeat (first | exact Sels.nil | apply Sels.cons | exact Sel.keep | exact Sel.here | apply Sel.there))) ?_
    rintro _ _ ⟨_, ⟨rfl, rfl⟩, rfl⟩
    refine SL.n1 ?_
    obtain ⟨n0, hn0⟩ : ∃ z, z = unrootF o0.2.1 o0.2.2 := ⟨_, rfl⟩
    rw [← hn0]
    have hnl : n0.2.1.length ≤ o0.2.1.length := by rw [hn0]; exact unroot_length _ _
    refine SL.val rfl rfl (fun w9 F9 S9 s => R.build (cs := #[.int .i64 (b0.1 : Int), .int .u64 (o0.1 : Int), .int .u64 (n0.1 : Int), .slice none 0 0]) rfl rfl) ?_
    refine SL.step rfl rfl (CS.boxA rfl) ?_
    rintro _ _ ⟨b18, rfl, rfl⟩
    refine SL.val rfl rfl (fun w9 F9 S9 s => R.as rfl) ?_
    refine SL.nil ?_
    refine SN.seq ?_
    refine SG.seq ?_
    refine SG.seq ?_
    refine SG.region ?_
    refine SL.val rfl rfl (fun w9 F9 S9 s => R.mv rfl) ?_
    refine SL.step rfl rfl (CS.call rfl go53 (scanNum b4 n0.2.1 n0.2.2 2 (by omega)) (by repeat (first | exact Sels.nil | apply Sels.cons | exact Sel.keep | exact Sel.here | apply Sel.there))) ?_
    rintro _ _ ⟨_, ⟨rfl, rfl⟩, rfl⟩
    refine SL.n1 ?_
    obtain ⟨c0, hc0⟩ : ∃ z, z = numF n0.2.1 n0.2.2 2 := ⟨_, rfl⟩
    rw [← hc0]
    have hcl : c0.2.1.length ≤ n0.2.1.length := by rw [hc0]; exact numF_length _ _ _
    have hc6 : c0.1 < 65536 := by rw [hc0]; exact numF_lt _ _ 2 (by decide)
    refine SL.val rfl rfl (fun w9 F9 S9 s => R.mv rfl) ?_
    refine SL.nil ?_
    refine SN.seq ?_
    refine SG.block ?_
    refine SG.imp (Imp.ownNil 78 2) ?_
    refine SG.imp (Imp.pure (p := fun w => ∀ k ∈ ([] : List PartV), PartV.ok w k) (fun w => by simp)) ?_
    refine SG.loop (X := PaS) (fun y => [(4, .pointer (some ⟨b4, 0, none⟩)), (5, .pointer (some ⟨b18, 0, none⟩)), (20, .int .i64 (c0.1 : Int)), (21, .int .i64 (y.i : Int))]) (fun y => [scn 127 b4 (y.l) (y.e), blk b18 [.int .i64 (b0.1 : Int), .int .u64 (o0.1 : Int), .int .u64 (n0.1 : Int), .slice y.a y.ps.length y.c] 75, own 78 2 y.a (y.ps.length) y.c (cellsP y.ps), sh (fun w => ∀ k ∈ y.ps, PartV.ok w k)]) (fun y => y.i ≤ c0.1 ∧ y.ps.length ≤ y.i ∧ y.l.length ≤ l.length ∧ partsF c0.1 c0.2.1 c0.2.2 = (y.ps.map PartV.abs ++ (partsF (c0.1 - y.i) y.l y.e).1, (partsF (c0.1 - y.i) y.l y.e).2)) (fun y => c0.1 - y.i) (⟨0, c0.2.1, c0.2.2, [], none, 0⟩) (Sub.cons rfl (Sub.cons rfl (Sub.cons rfl (Sub.cons rfl (Sub.nil _))))) ((Imp.sels (by repeat (first | exact Sels.nil | apply Sels.cons | exact Sel.keep | exact Sel.here | apply Sel.there)))) (⟨Nat.zero_le _, Nat.le_refl _, by show c0.2.1.length ≤ _; omega, rfl⟩) ?_
    rintro ⟨i, ll, e, ps, pa, pc⟩ ⟨hi, hpi, hll, hinv⟩
    dsimp only at hi hpi hll hinv
    show SG _ _ _ _ _ [(4, .pointer (some ⟨b4, 0, none⟩)), (5, .pointer (some ⟨b18, 0, none⟩)), (20, .int .i64 (c0.1 : Int)), (21, .int .i64 (i : Int))] [scn 127 b4 (ll) (e), blk b18 [.int .i64 (b0.1 : Int), .int .u64 (o0.1 : Int), .int .u64 (n0.1 : Int), .slice pa ps.length pc] 75, own 78 2 pa (ps.length) pc (cellsP ps), sh (fun w => ∀ k ∈ ps, PartV.ok w k)] _
    refine SG.seq ?_
    refine SG.region ?_
    refine SL.val rfl rfl (fun w9 F9 S9 s => R.lss rfl rfl) ?_
    refine SL.nil ?_
    refine SN.seq ?_
    refine SG.seq ?_
    refine SG.condP rfl (fun h1 => ?_) (fun h1 => ?_)
    · refine SG.skip ?_
      refine SN.seq ?_
      refine SG.seq ?_
      refine SG.block ?_
      refine SG.seq ?_
      refine SG.seq ?_
      refine SG.region ?_
      refine SL.val rfl rfl (fun w9 F9 S9 s => R.mv rfl) ?_
      refine SL.step rfl rfl (CS.call rfl go55 (scanErr b4 ll e (by omega)) (by repeat (first | exact Sels.nil | apply Sels.cons | exact Sel.keep | exact Sel.here | apply Sel.there))) ?_
      rintro _ _ ⟨_, ⟨rfl, rfl⟩, rfl⟩
      refine SL.n1 ?_
      refine SL.val rfl rfl (fun w9 F9 S9 s => R.neI rfl rfl) ?_
      refine SL.nil ?_
      refine SN.seq ?_
      refine SG.condP rfl (fun h2 => ?_) (fun h2 => ?_)
      · have hP : partsF c0.1 c0.2.1 c0.2.2 = (ps.map PartV.abs, ll, e) := by rw [hinv, partsF_err _ h2, List.append_nil]
        have hQ : qF l = ⟨b0, o0, n0, c0, (ps.map PartV.abs, ll, e)⟩ := by rw [← hP, hc0, hn0, ho0, hb0, hm0]; rfl
        have hok : okQ (qF l) ↔ (e = 0 ∧ ll = [] ∧ rightF b0.1 (-1) (ps.map PartV.abs) = true ∧ 1 ≤ b0.1 ∧ b0.1 ≤ 64) := by rw [hQ]; rfl
        refine SG.exit _ rfl ?_
        refine SN.seq ?_
        refine SG.seq ?_
        refine SG.seq ?_
        refine SG.imp (Imp.ownSh (show Sel _ (own 78 2 pa (ps.length) pc (cellsP ps)) _ from (by repeat (first | exact Sel.keep | exact Sel.here | apply Sel.there))) (p := fun w => Cells w pa (cellsP ps)) (fun w h => h)) ?_
        refine SG.imp (Imp.fz (show Sel _ (blk b18 [.int .i64 (b0.1 : Int), .int .u64 (o0.1 : Int), .int .u64 (n0.1 : Int), .slice pa ps.length pc] 75) _ from (by repeat (first | exact Sel.keep | exact Sel.here | apply Sel.there)))) ?_
        refine SG.imp (Imp.both (p := fun w => Cells w pa (cellsP ps)) (q := (fun w => ∀ k ∈ ps, PartV.ok w k)) (by repeat (first | exact Sel.keep | exact Sel.here | apply Sel.there)) (by repeat (first | exact Sel.keep | exact Sel.here | apply Sel.there))) ?_
        refine SG.region ?_
        refine SL.val rfl rfl (fun w9 F9 S9 s => R.mv rfl) ?_
        refine SL.step rfl rfl (CS.call rfl go55 (scanErr b4 ll e (by omega)) (by repeat (first | exact Sels.nil | apply Sels.cons | exact Sel.keep | exact Sel.here | apply Sel.there))) ?_
        rintro _ _ ⟨_, ⟨rfl, rfl⟩, rfl⟩
        refine SL.n1 ?_
        refine SL.val rfl rfl (fun w9 F9 S9 s => R.neI rfl rfl) ?_
        refine SL.val rfl rfl (fun w9 F9 S9 s => R.mv rfl) ?_
        refine SL.caseP 44 rfl (fun hg10_3 => ?_) (fun hg10_3 => ?_)
        · have hno : ¬ okQ (qF l) := (fun h9 => hg10_3 (hok.1 h9).1)
          refine SL.pass rfl rfl ?_
          refine SL.pass rfl rfl ?_
          refine SL.pass rfl rfl ?_
          first | refine SL.val rfl rfl (fun w9 F9 S9 s => R.pickT rfl rfl) ?_ | refine SL.val rfl rfl (fun w9 F9 S9 s => R.pickF rfl rfl) ?_
          refine SL.val rfl rfl (fun w9 F9 S9 s => R.mv rfl) ?_
          refine SL.pass rfl rfl ?_
          refine SL.pass rfl rfl ?_
          refine SL.pass rfl rfl ?_
          first | refine SL.val rfl rfl (fun w9 F9 S9 s => R.pickT rfl rfl) ?_ | refine SL.val rfl rfl (fun w9 F9 S9 s => R.pickF rfl rfl) ?_
          refine SL.nil ?_
          refine SN.seq ?_
          refine SG.condT rfl ?_
          refine SG.seq ?_
          refine SG.region ?_
          refine SL.val rfl rfl (fun w9 F9 S9 s => R.as rfl) ?_
          refine SL.val rfl rfl (fun w9 F9 S9 s => R.as rfl) ?_
          refine SL.nil ?_
          refine SN.seq ?_
          exact SG.ret2 rfl rfl rfl ((Imp.sels (by repeat (first | exact Sels.nil | apply Sels.cons | exact Sel.keep | exact Sel.here | apply Sel.there)))) (⟨rfl, rfl⟩)
        · refine SL.val rfl rfl (fun w9 F9 S9 s => R.mv rfl) ?_
          refine SL.step rfl rfl (CS.call rfl go57 (scanLeft b4 ll e (by omega)) (by repeat (first | exact Sels.nil | apply Sels.cons | exact Sel.keep | exact Sel.here | apply Sel.there))) ?_
          rintro _ _ ⟨_, ⟨rfl, rfl⟩, rfl⟩
          refine SL.n1 ?_
          refine SL.val rfl rfl (fun w9 F9 S9 s => R.gtr rfl rfl) ?_
          first | refine SL.val rfl rfl (fun w9 F9 S9 s => R.pickT rfl rfl) ?_ | refine SL.val rfl rfl (fun w9 F9 S9 s => R.pickF rfl rfl) ?_
          refine SL.val rfl rfl (fun w9 F9 S9 s => R.mv rfl) ?_
          refine SL.caseP 49 rfl (fun hg10_8 => ?_) (fun hg10_8 => ?_)
          · have hno : ¬ okQ (qF l) := (fun h9 => by have := (hok.1 h9).2.1; subst this; simp at hg10_8)
            refine SL.pass rfl rfl ?_
            refine SL.pass rfl rfl ?_
            refine SL.pass rfl rfl ?_
            first | refine SL.val rfl rfl (fun w9 F9 S9 s => R.pickT rfl rfl) ?_ | refine SL.val rfl rfl (fun w9 F9 S9 s => R.pickF rfl rfl) ?_
            refine SL.nil ?_
            refine SN.seq ?_
            refine SG.condT rfl ?_
            refine SG.seq ?_
            refine SG.region ?_
            refine SL.val rfl rfl (fun w9 F9 S9 s => R.as rfl) ?_
            refine SL.val rfl rfl (fun w9 F9 S9 s => R.as rfl) ?_
            refine SL.nil ?_
            refine SN.seq ?_
            exact SG.ret2 rfl rfl rfl ((Imp.sels (by repeat (first | exact Sels.nil | apply Sels.cons | exact Sel.keep | exact Sel.here | apply Sel.there)))) (⟨rfl, rfl⟩)
          · refine SL.val rfl rfl (fun w9 F9 S9 s => R.mv rfl) ?_
            refine SL.step rfl rfl (CS.call rfl go58 (right_ok b18 pa pc b0.1 (.int .u64 (o0.1 : Int)) (.int .u64 (n0.1 : Int)) ps (by omega)) (by repeat (first | exact Sels.nil | apply Sels.cons | exact Sel.keep | exact Sel.here | apply Sel.there))) ?_
            rintro _ _ ⟨_, ⟨rfl, rfl⟩, rfl⟩
            refine SL.n0 ?_
            refine SL.val rfl rfl (fun w9 F9 S9 s => R.not rfl) ?_
            first | refine SL.val rfl rfl (fun w9 F9 S9 s => R.pickT rfl rfl) ?_ | refine SL.val rfl rfl (fun w9 F9 S9 s => R.pickF rfl rfl) ?_
            refine SL.nil ?_
            refine SN.seq ?_
            refine SG.condB rfl (fun h3 => ?_) (fun h3 => ?_)
            · have hno : ¬ okQ (qF l) := (fun h9 => by rw [decide_eq_true (hok.1 h9).2.2] at h3; cases h3)
              refine SG.seq ?_
              refine SG.region ?_
              refine SL.val rfl rfl (fun w9 F9 S9 s => R.as rfl) ?_
              refine SL.val rfl rfl (fun w9 F9 S9 s => R.as rfl) ?_
              refine SL.nil ?_
              refine SN.seq ?_
              exact SG.ret2 rfl rfl rfl ((Imp.sels (by repeat (first | exact Sels.nil | apply Sels.cons | exact Sel.keep | exact Sel.here | apply Sel.there)))) (⟨rfl, rfl⟩)
            · have hyes : okQ (qF l) := hok.2 ⟨by omega, List.eq_nil_of_length_eq_zero (by omega), by simpa using h3⟩
              have hpf2 : parseF l = some (patQ (qF l)) := if_pos ⟨hm1, hyes⟩
              rw [hpf] at hpf2
              cases hpf2
      · obtain rfl : e = 0 := by omega
        refine SG.skip ?_
        refine SN.seq ?_
        refine SG.draw [6, 8, 10, 11, 14] [0, 1, 2, 3, 4, 5, 7, 6, 8, 9, 10, 11, 12, 13, 14] (by decide +kernel) rfl ?_
        refine SW.pure rfl rfl rfl rfl (fun w9 => R.mv rfl) ?_
        refine SW.pure rfl rfl rfl rfl (fun w9 => R.mv rfl) ?_
        refine SW.pure rfl rfl rfl rfl (fun w9 => R.nilChk rfl) ?_
        refine SW.pure rfl rfl rfl rfl (fun w9 => R.fld rfl) ?_
        refine SW.read rfl rfl rfl rfl (fun w9 F9 S9 s => R.ldB (v := .slice pa ps.length pc) rfl (s.cel (by repeat (first | exact SelB.blk | exact SelB.fz | apply SelB.there))) (by rfl)) ?_
        refine SW.pure rfl rfl rfl rfl (fun w9 => R.mv rfl) ?_
        refine SW.pure rfl rfl rfl rfl (fun w9 => R.mv rfl) ?_
        refine SW.step rfl rfl rfl rfl (CS.call rfl go53 (scanNum b4 ll 0 2 (by omega)) (by repeat (first | exact Sels.nil | apply Sels.cons | exact Sel.keep | exact Sel.here | apply Sel.there))) ?_
        rintro _ _ ⟨_, ⟨rfl, rfl⟩, rfl⟩
        refine ⟨⟨.inr (fun w9 F9 S9 s => R.ldB (v := .slice pa ps.length pc) rfl (s.cel (by repeat (first | exact SelB.blk | exact SelB.fz | apply SelB.there))) (by rfl)), trivial⟩, ?_⟩
        refine SW.n1 ?_
        obtain ⟨k0, hk0⟩ : ∃ z, z = numF ll 0 2 := ⟨_, rfl⟩
        rw [← hk0]
        have hkl : k0.2.1.length ≤ ll.length := by rw [hk0]; exact numF_length _ _ _
        refine SW.step rfl rfl rfl rfl (CS.call rfl go56 (scanText b4 k0.2.1 k0.2.2 65536 (by omega)) (by repeat (first | exact Sels.nil | apply Sels.cons | exact Sel.keep | exact Sel.here | apply Sel.there))) ?_
        rintro _ _ ⟨_, ⟨a34, c34, rfl, hc34, rfl, rfl⟩, rfl⟩
        refine ⟨⟨.inr (fun w9 F9 S9 s => R.ldB (v := .slice pa ps.length pc) rfl (s.cel (by repeat (first | exact SelB.blk | exact SelB.fz | apply SelB.there))) (by rfl)), trivial⟩, ?_⟩
        refine SW.n2 ?_
        obtain ⟨t0, ht0⟩ : ∃ z, z = txtF k0.2.1 k0.2.2 65536 := ⟨_, rfl⟩
        rw [← ht0]
        rw [← ht0] at hc34
        have htl : t0.2.1.length ≤ k0.2.1.length := by rw [ht0]; exact txtF_length _ _ _
        have htx : t0.1.length ≤ 65535 := by rw [ht0]; exact txtF_le _ _ _
        refine SW.pure rfl rfl rfl rfl (fun w9 => R.build (cs := (PartV.cells (⟨k0.1, a34, t0.1.length, c34, t0.1⟩ : PartV)).toArray) rfl rfl) ?_
        refine SW.step rfl rfl rfl rfl (CS.buildA rfl rfl rfl rfl rfl (cellsP [(⟨k0.1, a34, t0.1.length, c34, t0.1⟩ : PartV)]) rfl) ?_
        rintro _ _ ⟨b36, rfl, rfl⟩
        refine ⟨⟨.inr (fun w9 F9 S9 s => R.ldB (v := .slice pa ps.length pc) rfl (s.cel (by repeat (first | exact SelB.blk | exact SelB.fz | apply SelB.there))) (by rfl)), trivial⟩, ?_⟩
        refine SW.step rfl rfl rfl rfl (CS.app rfl rfl (show Sel _ (own 78 2 pa (ps.length) pc (cellsP ps)) _ from (by repeat (first | exact Sel.keep | exact Sel.here | apply Sel.there))) (fun w9 F9 S9 s => s.blkC (show Sel _ (blk b36 (cellsP [(⟨k0.1, a34, t0.1.length, c34, t0.1⟩ : PartV)]) _) _ from (by repeat (first | exact Sel.keep | exact Sel.here | apply Sel.there)))) rfl (cellsP_one _) (by unfold maxLen; omega) (by omega)) ?_
        rintro _ _ ⟨a37, c37, rfl, rfl⟩
        refine ⟨⟨.inl (by decide +kernel), trivial⟩, ?_⟩
        refine SW.pure rfl rfl rfl rfl (fun w9 => R.nilChk rfl) ?_
        refine SW.pure rfl rfl rfl rfl (fun w9 => R.fld rfl) ?_
        refine SW.step0 rfl rfl rfl (CS.st rfl rfl (show Sel _ (blk b18 _ _) _ from (by repeat (first | exact Sel.keep | exact Sel.here | apply Sel.there))) (by repeat (first | exact SetAt.here | apply SetAt.there)) rfl) ?_
        rintro _ _ rfl
        refine ⟨⟨.inl (by decide +kernel), trivial⟩, ?_⟩
        refine SW.nil ?_
        refine SN.imp (Imp.both (p := (fun w => ∀ k ∈ ps, PartV.ok w k)) (q := fun w => Bs w a34 t0.1.length t0.1) (by repeat (first | exact Sel.keep | exact Sel.here | apply Sel.there)) (by repeat (first | exact Sel.keep | exact Sel.here | apply Sel.there))) ?_
        refine SN.imp (Imp.weak (p := fun w => (∀ k ∈ ps, PartV.ok w k) ∧ Bs w a34 t0.1.length t0.1) (q := (fun w => ∀ k ∈ (ps ++ [(⟨k0.1, a34, t0.1.length, c34, t0.1⟩ : PartV)]), PartV.ok w k)) (by repeat (first | exact Sel.keep | exact Sel.here | apply Sel.there)) (fun w hw k hk => (List.mem_append.1 hk).elim (hw.1 k) (fun h9 => by rw [List.mem_singleton.1 h9]; exact ⟨⟨hc34, htx⟩, hw.2⟩))) ?_
        have hinv2 : partsF c0.1 c0.2.1 c0.2.2 = ((ps ++ [(⟨k0.1, a34, t0.1.length, c34, t0.1⟩ : PartV)]).map PartV.abs ++ (partsF (c0.1 - (i + 1)) t0.2.1 t0.2.2).1, (partsF (c0.1 - (i + 1)) t0.2.1 t0.2.2).2) := by
          rw [hinv, show c0.1 - i = (c0.1 - (i + 1)) + 1 by omega, partsF, if_neg (by decide), ← hk0, ← ht0, List.map_append, List.append_assoc]; rfl
        refine SN.block ?_
        refine SN.seq ?_
        refine SG.region ?_
        refine SL.val rfl rfl (fun w9 F9 S9 s => R.add rfl rfl (by omega)) ?_
        refine SL.val rfl rfl (fun w9 F9 S9 s => R.mv rfl) ?_
        refine SL.nil ?_
        exact SN.again (⟨i + 1, t0.2.1, t0.2.2, ps ++ [(⟨k0.1, a34, t0.1.length, c34, t0.1⟩ : PartV)], a37, c37⟩) (by show c0.1 - (i + 1) < c0.1 - i; omega) (Sub.cons rfl (Sub.cons rfl (Sub.cons rfl (Sub.cons rfl (Sub.nil _))))) ((show Imp _ _ by dsimp only; rw [List.length_append, cellsP_app]; exact (Imp.sels (by repeat (first | exact Sels.nil | apply Sels.cons | exact Sel.keep | exact Sel.here | apply Sel.there))))) (⟨by show i + 1 ≤ c0.1; omega, by show (ps ++ [(⟨k0.1, a34, t0.1.length, c34, t0.1⟩ : PartV)]).length ≤ i + 1; rw [List.length_append]; show ps.length + 1 ≤ i + 1; omega, by show t0.2.1.length ≤ _; omega, hinv2⟩)
    · obtain rfl : i = c0.1 := by omega
      have hP : partsF c0.1 c0.2.1 c0.2.2 = (ps.map PartV.abs, ll, e) := by rw [hinv, (show partsF (c0.1 - c0.1) ll e = ([], ll, e) by rw [Nat.sub_self]; rfl), List.append_nil]
      have hQ : qF l = ⟨b0, o0, n0, c0, (ps.map PartV.abs, ll, e)⟩ := by rw [← hP, hc0, hn0, ho0, hb0, hm0]; rfl
      have hok : okQ (qF l) ↔ (e = 0 ∧ ll = [] ∧ rightF b0.1 (-1) (ps.map PartV.abs) = true ∧ 1 ≤ b0.1 ∧ b0.1 ≤ 64) := by rw [hQ]; rfl
      refine SG.exit _ rfl ?_
      refine SN.seq ?_
      refine SG.seq ?_
      refine SG.seq ?_
      refine SG.imp (Imp.ownSh (show Sel _ (own 78 2 pa (ps.length) pc (cellsP ps)) _ from (by repeat (first | exact Sel.keep | exact Sel.here | apply Sel.there))) (p := fun w => Cells w pa (cellsP ps)) (fun w h => h)) ?_
      refine SG.imp (Imp.fz (show Sel _ (blk b18 [.int .i64 (b0.1 : Int), .int .u64 (o0.1 : Int), .int .u64 (n0.1 : Int), .slice pa ps.length pc] 75) _ from (by repeat (first | exact Sel.keep | exact Sel.here | apply Sel.there)))) ?_
      refine SG.imp (Imp.both (p := fun w => Cells w pa (cellsP ps)) (q := (fun w => ∀ k ∈ ps, PartV.ok w k)) (by repeat (first | exact Sel.keep | exact Sel.here | apply Sel.there)) (by repeat (first | exact Sel.keep | exact Sel.here | apply Sel.there))) ?_
      refine SG.region ?_
      refine SL.val rfl rfl (fun w9 F9 S9 s => R.mv rfl) ?_
      refine SL.step rfl rfl (CS.call rfl go55 (scanErr b4 ll e (by omega)) (by repeat (first | exact Sels.nil | apply Sels.cons | exact Sel.keep | exact Sel.here | apply Sel.there))) ?_
      rintro _ _ ⟨_, ⟨rfl, rfl⟩, rfl⟩
      refine SL.n1 ?_
      refine SL.val rfl rfl (fun w9 F9 S9 s => R.neI rfl rfl) ?_
      refine SL.val rfl rfl (fun w9 F9 S9 s => R.mv rfl) ?_
      refine SL.caseP 44 rfl (fun hg10_3 => ?_) (fun hg10_3 => ?_)
      · have hno : ¬ okQ (qF l) := (fun h9 => hg10_3 (hok.1 h9).1)
        refine SL.pass rfl rfl ?_
        refine SL.pass rfl rfl ?_
        refine SL.pass rfl rfl ?_
        first | refine SL.val rfl rfl (fun w9 F9 S9 s => R.pickT rfl rfl) ?_ | refine SL.val rfl rfl (fun w9 F9 S9 s => R.pickF rfl rfl) ?_
        refine SL.val rfl rfl (fun w9 F9 S9 s => R.mv rfl) ?_
        refine SL.pass rfl rfl ?_
        refine SL.pass rfl rfl ?_
        refine SL.pass rfl rfl ?_
        first | refine SL.val rfl rfl (fun w9 F9 S9 s => R.pickT rfl rfl) ?_ | refine SL.val rfl rfl (fun w9 F9 S9 s => R.pickF rfl rfl) ?_
        refine SL.nil ?_
        refine SN.seq ?_
        refine SG.condT rfl ?_
        refine SG.seq ?_
        refine SG.region ?_
        refine SL.val rfl rfl (fun w9 F9 S9 s => R.as rfl) ?_
        refine SL.val rfl rfl (fun w9 F9 S9 s => R.as rfl) ?_
        refine SL.nil ?_
        refine SN.seq ?_
        exact SG.ret2 rfl rfl rfl ((Imp.sels (by repeat (first | exact Sels.nil | apply Sels.cons | exact Sel.keep | exact Sel.here | apply Sel.there)))) (⟨rfl, rfl⟩)
      · refine SL.val rfl rfl (fun w9 F9 S9 s => R.mv rfl) ?_
        refine SL.step rfl rfl (CS.call rfl go57 (scanLeft b4 ll e (by omega)) (by repeat (first | exact Sels.nil | apply Sels.cons | exact Sel.keep | exact Sel.here | apply Sel.there))) ?_
        rintro _ _ ⟨_, ⟨rfl, rfl⟩, rfl⟩
        refine SL.n1 ?_
        refine SL.val rfl rfl (fun w9 F9 S9 s => R.gtr rfl rfl) ?_
        first | refine SL.val rfl rfl (fun w9 F9 S9 s => R.pickT rfl rfl) ?_ | refine SL.val rfl rfl (fun w9 F9 S9 s => R.pickF rfl rfl) ?_
        refine SL.val rfl rfl (fun w9 F9 S9 s => R.mv rfl) ?_
        refine SL.caseP 49 rfl (fun hg10_8 => ?_) (fun hg10_8 => ?_)
        · have hno : ¬ okQ (qF l) := (fun h9 => by have := (hok.1 h9).2.1; subst this; simp at hg10_8)
          refine SL.pass rfl rfl ?_
          refine SL.pass rfl rfl ?_
          refine SL.pass rfl rfl ?_
          first | refine SL.val rfl rfl (fun w9 F9 S9 s => R.pickT rfl rfl) ?_ | refine SL.val rfl rfl (fun w9 F9 S9 s => R.pickF rfl rfl) ?_
          refine SL.nil ?_
          refine SN.seq ?_
          refine SG.condT rfl ?_
          refine SG.seq ?_
          refine SG.region ?_
          refine SL.val rfl rfl (fun w9 F9 S9 s => R.as rfl) ?_
          refine SL.val rfl rfl (fun w9 F9 S9 s => R.as rfl) ?_
          refine SL.nil ?_
          refine SN.seq ?_
          exact SG.ret2 rfl rfl rfl ((Imp.sels (by repeat (first | exact Sels.nil | apply Sels.cons | exact Sel.keep | exact Sel.here | apply Sel.there)))) (⟨rfl, rfl⟩)
        · refine SL.val rfl rfl (fun w9 F9 S9 s => R.mv rfl) ?_
          refine SL.step rfl rfl (CS.call rfl go58 (right_ok b18 pa pc b0.1 (.int .u64 (o0.1 : Int)) (.int .u64 (n0.1 : Int)) ps (by omega)) (by repeat (first | exact Sels.nil | apply Sels.cons | exact Sel.keep | exact Sel.here | apply Sel.there))) ?_
          rintro _ _ ⟨_, ⟨rfl, rfl⟩, rfl⟩
          refine SL.n0 ?_
          refine SL.val rfl rfl (fun w9 F9 S9 s => R.not rfl) ?_
          first | refine SL.val rfl rfl (fun w9 F9 S9 s => R.pickT rfl rfl) ?_ | refine SL.val rfl rfl (fun w9 F9 S9 s => R.pickF rfl rfl) ?_
          refine SL.nil ?_
          refine SN.seq ?_
          refine SG.condB rfl (fun h3 => ?_) (fun h3 => ?_)
          · have hno : ¬ okQ (qF l) := (fun h9 => by rw [decide_eq_true (hok.1 h9).2.2] at h3; cases h3)
            refine SG.seq ?_
            refine SG.region ?_
            refine SL.val rfl rfl (fun w9 F9 S9 s => R.as rfl) ?_
            refine SL.val rfl rfl (fun w9 F9 S9 s => R.as rfl) ?_
            refine SL.nil ?_
            refine SN.seq ?_
            exact SG.ret2 rfl rfl rfl ((Imp.sels (by repeat (first | exact Sels.nil | apply Sels.cons | exact Sel.keep | exact Sel.here | apply Sel.there)))) (⟨rfl, rfl⟩)
          · have hyes : okQ (qF l) := hok.2 ⟨by omega, List.eq_nil_of_length_eq_zero (by omega), by simpa using h3⟩
            have hpf2 : parseF l = some (patQ (qF l)) := if_pos ⟨hm1, hyes⟩
            rw [hpf] at hpf2
            cases hpf2

set_option maxHeartbeats 2000000 in
theorem parse_yes (a : Option Addr) (n c : Nat) (l : List UInt8) (q : Pat) (hc : n ≤ c) (hn : n ≤ 1000000) (hpf : parseF l = some q) : SpecS Try.prog 31 [.slice a n c] [bs a n l] (fun v H' => ∃ x pa pc ps, v = .tuple #[.pointer (some ⟨x, 0, none⟩), .int .i64 0] ∧ ps.map PartV.abs = q.parts ∧ H' = [fz x [.int .i64 (q.blocks : Int), .int .u64 (q.old : Int), .int .u64 (q.new : Int), .slice pa ps.length pc] 75, sh (fun w => Cells w pa (cellsP ps) ∧ ∀ k ∈ ps, PartV.ok w k)]) := by
  refine SpecS.enter Try.func31 rfl 55 rfl (Nat.le_of_ble_eq_true rfl) (fun o => ?_)
  refine SG.fact (fun w9 F9 S9 s => (s.bs (a := a) (n := n) (l := l) (by repeat (first | exact Sel.keep | exact Sel.here | apply Sel.there))).len) (fun hf9 => ?_)
  have hln := hf9; clear hf9
  have hm45 : (numF l 0 2).1 = 45229 ∧ okQ (qF l) ∨ ¬ ((numF l 0 2).1 = 45229 ∧ okQ (qF l)) := Classical.em _
  refine SG.seq ?_
  refine SG.region ?_
  refine SL.val rfl rfl (fun w9 F9 S9 s => R.as rfl) ?_
  refine SL.val rfl rfl (fun w9 F9 S9 s => R.as rfl) ?_
  refine SL.nil ?_
  refine SN.seq ?_
  refine SG.seq ?_
  refine SG.region ?_
  refine SL.val rfl rfl (fun w9 F9 S9 s => R.mv rfl) ?_
  refine SL.step rfl rfl (CS.call rfl go52 (scanNew a n c l hc (by omega)) (by repeat (first | exact Sels.nil | apply Sels.cons | exact Sel.keep | exact Sel.here | apply Sel.there))) ?_
  rintro _ _ ⟨_, ⟨b4, rfl, rfl, rfl⟩, rfl⟩
  refine SL.n2 ?_
  refine SL.val rfl rfl (fun w9 F9 S9 s => R.as rfl) ?_
  refine SL.nil ?_
  refine SN.seq ?_
  refine SG.seq ?_
  refine SG.seq ?_
  refine SG.region ?_
  refine SL.val rfl rfl (fun w9 F9 S9 s => R.mv rfl) ?_
  refine SL.step rfl rfl (CS.call rfl go53 (scanNum b4 l 0 2 (by omega)) (by repeat (first | exact Sels.nil | apply Sels.cons | exact Sel.keep | exact Sel.here | apply Sel.there))) ?_
  rintro _ _ ⟨_, ⟨rfl, rfl⟩, rfl⟩
  refine SL.n1 ?_
  obtain ⟨m0, hm0⟩ : ∃ z, z = numF l 0 2 := ⟨_, rfl⟩
  rw [← hm0]
  refine SL.val rfl rfl (fun w9 F9 S9 s => R.neI rfl rfl) ?_
  refine SL.nil ?_
  refine SN.seq ?_
  refine SG.condP rfl (fun h0 => ?_) (fun h0 => ?_)
  · exact absurd (hpf.symm.trans (if_neg (fun h9 => h0 (by rw [hm0, h9.1]; rfl)))) (by simp)
  · have hm1 : (numF l 0 2).1 = 45229 := by rw [← hm0]; omega
    have hml : m0.2.1.length ≤ l.length := by rw [hm0]; exact numF_length _ _ _
    refine SG.skip ?_
    refine SN.seq ?_
    refine SG.seq ?_
    refine SG.region ?_
    refine SL.val rfl rfl (fun w9 F9 S9 s => R.mv rfl) ?_
    refine SL.step rfl rfl (CS.call rfl go53 (scanNum b4 m0.2.1 m0.2.2 2 (by omega)) (by repeat (first | exact Sels.nil | apply Sels.cons | exact Sel.keep | exact Sel.here | apply Sel.there))) ?_
    rintro _ _ ⟨_, ⟨rfl, rfl⟩, rfl⟩
    refine SL.n1 ?_
    obtain ⟨b0, hb0⟩ : ∃ z, z = numF m0.2.1 m0.2.2 2 := ⟨_, rfl⟩
    rw [← hb0]
    have hbl : b0.2.1.length ≤ m0.2.1.length := by rw [hb0]; exact numF_length _ _ _
    refine SL.val rfl rfl (fun w9 F9 S9 s => R.mv rfl) ?_
    refine SL.step rfl rfl (CS.call rfl go54 (unroot_ok b4 b0.2.1 b0.2.2 (by omega)) (by repeat (first | exact Sels.nil | apply Sels.cons | exact Sel.keep | exact Sel.here | apply Sel.there))) ?_
    rintro _ _ ⟨_, ⟨rfl, rfl⟩, rfl⟩
    refine SL.n1 ?_
    obtain ⟨o0, ho0⟩ : ∃ z, z = unrootF b0.2.1 b0.2.2 := ⟨_, rfl⟩
    rw [← ho0]
    have hol : o0.2.1.length ≤ b0.2.1.length := by rw [ho0]; exact unroot_length _ _
    refine SL.val rfl rfl (fun w9 F9 S9 s => R.mv rfl) ?_
    refine SL.step rfl rfl (CS.call rfl go54 (unroot_ok b4 o0.2.1 o0.2.2 (by omega)) (by repeat (first | exact Sels.nil | apply Sels.cons | exact Sel.keep | exact Sel.here | apply Sel.there))) ?_
    rintro _ _ ⟨_, ⟨rfl, rfl⟩, rfl⟩
    refine SL.n1 ?_
    obtain ⟨n0, hn0⟩ : ∃ z, z = unrootF o0.2.1 o0.2.2 := ⟨_, rfl⟩
    rw [← hn0]
    have hnl : n0.2.1.length ≤ o0.2.1.length := by rw [hn0]; exact unroot_length _ _
    refine SL.val rfl rfl (fun w9 F9 S9 s => R.build (cs := #[.int .i64 (b0.1 : Int), .int .u64 (o0.1 : Int), .int .u64 (n0.1 : Int), .slice none 0 0]) rfl rfl) ?_
    refine SL.step rfl rfl (CS.boxA rfl) ?_
    rintro _ _ ⟨b18, rfl, rfl⟩
    refine SL.val rfl rfl (fun w9 F9 S9 s => R.as rfl) ?_
    refine SL.nil ?_
    refine SN.seq ?_
    refine SG.seq ?_
    refine SG.seq ?_
    refine SG.region ?_
    refine SL.val rfl rfl (fun w9 F9 S9 s => R.mv rfl) ?_
    refine SL.step rfl rfl (CS.call rfl go53 (scanNum b4 n0.2.1 n0.2.2 2 (by omega)) (by repeat (first | exact Sels.nil | apply Sels.cons | exact Sel.keep | exact Sel.here | apply Sel.there))) ?_
    rintro _ _ ⟨_, ⟨rfl, rfl⟩, rfl⟩
    refine SL.n1 ?_
    obtain ⟨c0, hc0⟩ : ∃ z, z = numF n0.2.1 n0.2.2 2 := ⟨_, rfl⟩
    rw [← hc0]
    have hcl : c0.2.1.length ≤ n0.2.1.length := by rw [hc0]; exact numF_length _ _ _
    have hc6 : c0.1 < 65536 := by rw [hc0]; exact numF_lt _ _ 2 (by decide)
    refine SL.val rfl rfl (fun w9 F9 S9 s => R.mv rfl) ?_
    refine SL.nil ?_
    refine SN.seq ?_
    refine SG.block ?_
    refine SG.imp (Imp.ownNil 78 2) ?_
    refine SG.imp (Imp.pure (p := fun w => ∀ k ∈ ([] : List PartV), PartV.ok w k) (fun w => by simp)) ?_
    refine SG.loop (X := PaS) (fun y => [(4, .pointer (some ⟨b4, 0, none⟩)), (5, .pointer (some ⟨b18, 0, none⟩)), (20, .int .i64 (c0.1 : Int)), (21, .int .i64 (y.i : Int))]) (fun y => [scn 127 b4 (y.l) (y.e), blk b18 [.int .i64 (b0.1 : Int), .int .u64 (o0.1 : Int), .int .u64 (n0.1 : Int), .slice y.a y.ps.length y.c] 75, own 78 2 y.a (y.ps.length) y.c (cellsP y.ps), sh (fun w => ∀ k ∈ y.ps, PartV.ok w k)]) (fun y => y.i ≤ c0.1 ∧ y.ps.length ≤ y.i ∧ y.l.length ≤ l.length ∧ partsF c0.1 c0.2.1 c0.2.2 = (y.ps.map PartV.abs ++ (partsF (c0.1 - y.i) y.l y.e).1, (partsF (c0.1 - y.i) y.l y.e).2)) (fun y => c0.1 - y.i) (⟨0, c0.2.1, c0.2.2, [], none, 0⟩) (Sub.cons rfl (Sub.cons rfl (Sub.cons rfl (Sub.cons rfl (Sub.nil _))))) ((Imp.sels (by repeat (first | exact Sels.nil | apply Sels.cons | exact Sel.keep | exact Sel.here | apply Sel.there)))) (⟨Nat.zero_le _, Nat.le_refl _, by show c0.2.1.length ≤ _; omega, rfl⟩) ?_
    rintro ⟨i, ll, e, ps, pa, pc⟩ ⟨hi, hpi, hll, hinv⟩
    dsimp only at hi hpi hll hinv
    show SG _ _ _ _ _ [(4, .pointer (some ⟨b4, 0, none⟩)), (5, .pointer (some ⟨b18, 0, none⟩)), (20, .int .i64 (c0.1 : Int)), (21, .int .i64 (i : Int))] [scn 127 b4 (ll) (e), blk b18 [.int .i64 (b0.1 : Int), .int .u64 (o0.1 : Int), .int .u64 (n0.1 : Int), .slice pa ps.length pc] 75, own 78 2 pa (ps.length) pc (cellsP ps), sh (fun w => ∀ k ∈ ps, PartV.ok w k)] _
    refine SG.seq ?_
    refine SG.region ?_
    refine SL.val rfl rfl (fun w9 F9 S9 s => R.lss rfl rfl) ?_
    refine SL.nil ?_
    refine SN.seq ?_
    refine SG.seq ?_
    refine SG.condP rfl (fun h1 => ?_) (fun h1 => ?_)
    · refine SG.skip ?_
      refine SN.seq ?_
      refine SG.seq ?_
      refine SG.block ?_
      refine SG.seq ?_
      refine SG.seq ?_
      refine SG.region ?_
      refine SL.val rfl rfl (fun w9 F9 S9 s => R.mv rfl) ?_
      refine SL.step rfl rfl (CS.call rfl go55 (scanErr b4 ll e (by omega)) (by repeat (first | exact Sels.nil | apply Sels.cons | exact Sel.keep | exact Sel.here | apply Sel.there))) ?_
      rintro _ _ ⟨_, ⟨rfl, rfl⟩, rfl⟩
      refine SL.n1 ?_
      refine SL.val rfl rfl (fun w9 F9 S9 s => R.neI rfl rfl) ?_
      refine SL.nil ?_
      refine SN.seq ?_
      refine SG.condP rfl (fun h2 => ?_) (fun h2 => ?_)
      · have hP : partsF c0.1 c0.2.1 c0.2.2 = (ps.map PartV.abs, ll, e) := by rw [hinv, partsF_err _ h2, List.append_nil]
        have hQ : qF l = ⟨b0, o0, n0, c0, (ps.map PartV.abs, ll, e)⟩ := by rw [← hP, hc0, hn0, ho0, hb0, hm0]; rfl
        have hok : okQ (qF l) ↔ (e = 0 ∧ ll = [] ∧ rightF b0.1 (-1) (ps.map PartV.abs) = true ∧ 1 ≤ b0.1 ∧ b0.1 ≤ 64) := by rw [hQ]; rfl
        refine SG.exit _ rfl ?_
        refine SN.seq ?_
        refine SG.seq ?_
        refine SG.seq ?_
        refine SG.imp (Imp.ownSh (show Sel _ (own 78 2 pa (ps.length) pc (cellsP ps)) _ from (by repeat (first | exact Sel.keep | exact Sel.here | apply Sel.there))) (p := fun w => Cells w pa (cellsP ps)) (fun w h => h)) ?_
        refine SG.imp (Imp.fz (show Sel _ (blk b18 [.int .i64 (b0.1 : Int), .int .u64 (o0.1 : Int), .int .u64 (n0.1 : Int), .slice pa ps.length pc] 75) _ from (by repeat (first | exact Sel.keep | exact Sel.here | apply Sel.there)))) ?_
        refine SG.imp (Imp.both (p := fun w => Cells w pa (cellsP ps)) (q := (fun w => ∀ k ∈ ps, PartV.ok w k)) (by repeat (first | exact Sel.keep | exact Sel.here | apply Sel.there)) (by repeat (first | exact Sel.keep | exact Sel.here | apply Sel.there))) ?_
        refine SG.region ?_
        refine SL.val rfl rfl (fun w9 F9 S9 s => R.mv rfl) ?_
        refine SL.step rfl rfl (CS.call rfl go55 (scanErr b4 ll e (by omega)) (by repeat (first | exact Sels.nil | apply Sels.cons | exact Sel.keep | exact Sel.here | apply Sel.there))) ?_
        rintro _ _ ⟨_, ⟨rfl, rfl⟩, rfl⟩
        refine SL.n1 ?_
        refine SL.val rfl rfl (fun w9 F9 S9 s => R.neI rfl rfl) ?_
        refine SL.val rfl rfl (fun w9 F9 S9 s => R.mv rfl) ?_
        refine SL.caseP 44 rfl (fun hg10_3 => ?_) (fun hg10_3 => ?_)
        · have hno : ¬ okQ (qF l) := (fun h9 => hg10_3 (hok.1 h9).1)
          exact absurd (hpf.symm.trans (if_neg (fun h9 => hno h9.2))) (by simp)
        · refine SL.val rfl rfl (fun w9 F9 S9 s => R.mv rfl) ?_
          refine SL.step rfl rfl (CS.call rfl go57 (scanLeft b4 ll e (by omega)) (by repeat (first | exact Sels.nil | apply Sels.cons | exact Sel.keep | exact Sel.here | apply Sel.there))) ?_
          rintro _ _ ⟨_, ⟨rfl, rfl⟩, rfl⟩
          refine SL.n1 ?_
          refine SL.val rfl rfl (fun w9 F9 S9 s => R.gtr rfl rfl) ?_
          first | refine SL.val rfl rfl (fun w9 F9 S9 s => R.pickT rfl rfl) ?_ | refine SL.val rfl rfl (fun w9 F9 S9 s => R.pickF rfl rfl) ?_
          refine SL.val rfl rfl (fun w9 F9 S9 s => R.mv rfl) ?_
          refine SL.caseP 49 rfl (fun hg10_8 => ?_) (fun hg10_8 => ?_)
          · have hno : ¬ okQ (qF l) := (fun h9 => by have := (hok.1 h9).2.1; subst this; simp at hg10_8)
            exact absurd (hpf.symm.trans (if_neg (fun h9 => hno h9.2))) (by simp)
          · refine SL.val rfl rfl (fun w9 F9 S9 s => R.mv rfl) ?_
            refine SL.step rfl rfl (CS.call rfl go58 (right_ok b18 pa pc b0.1 (.int .u64 (o0.1 : Int)) (.int .u64 (n0.1 : Int)) ps (by omega)) (by repeat (first | exact Sels.nil | apply Sels.cons | exact Sel.keep | exact Sel.here | apply Sel.there))) ?_
            rintro _ _ ⟨_, ⟨rfl, rfl⟩, rfl⟩
            refine SL.n0 ?_
            refine SL.val rfl rfl (fun w9 F9 S9 s => R.not rfl) ?_
            first | refine SL.val rfl rfl (fun w9 F9 S9 s => R.pickT rfl rfl) ?_ | refine SL.val rfl rfl (fun w9 F9 S9 s => R.pickF rfl rfl) ?_
            refine SL.nil ?_
            refine SN.seq ?_
            refine SG.condB rfl (fun h3 => ?_) (fun h3 => ?_)
            · have hno : ¬ okQ (qF l) := (fun h9 => by rw [decide_eq_true (hok.1 h9).2.2] at h3; cases h3)
              exact absurd (hpf.symm.trans (if_neg (fun h9 => hno h9.2))) (by simp)
            · have hyes : okQ (qF l) := hok.2 ⟨by omega, List.eq_nil_of_length_eq_zero (by omega), by simpa using h3⟩
              have hpf2 : parseF l = some (patQ (qF l)) := if_pos ⟨hm1, hyes⟩
              rw [hpf, hQ] at hpf2
              cases hpf2
              refine SG.skip ?_
              refine SN.seq ?_
              refine SG.seq ?_
              refine SG.region ?_
              refine SL.val rfl rfl (fun w9 F9 S9 s => R.mv rfl) ?_
              refine SL.val rfl rfl (fun w9 F9 S9 s => R.as rfl) ?_
              refine SL.val rfl rfl (fun w9 F9 S9 s => R.as rfl) ?_
              refine SL.nil ?_
              refine SN.seq ?_
              exact SG.ret2 rfl rfl rfl ((show Imp _ [fz b18 [.int .i64 (b0.1 : Int), .int .u64 (o0.1 : Int), .int .u64 (n0.1 : Int), .slice pa ps.length pc] 75, sh (fun w => Cells w pa (cellsP ps) ∧ ∀ k ∈ ps, PartV.ok w k)] from (Imp.sels (by repeat (first | exact Sels.nil | apply Sels.cons | exact Sel.keep | exact Sel.here | apply Sel.there))))) (⟨b18, pa, pc, ps, rfl, rfl, rfl⟩)
      · obtain rfl : e = 0 := by omega
        refine SG.skip ?_
        refine SN.seq ?_
        refine SG.draw [6, 8, 10, 11, 14] [0, 1, 2, 3, 4, 5, 7, 6, 8, 9, 10, 11, 12, 13, 14] (by decide +kernel) rfl ?_
        refine SW.pure rfl rfl rfl rfl (fun w9 => R.mv rfl) ?_
        refine SW.pure rfl rfl rfl rfl (fun w9 => R.mv rfl) ?_
        refine SW.pure rfl rfl rfl rfl (fun w9 => R.nilChk rfl) ?_
        refine SW.pure rfl rfl rfl rfl (fun w9 => R.fld rfl) ?_
        refine SW.read rfl rfl rfl rfl (fun w9 F9 S9 s => R.ldB (v := .slice pa ps.length pc) rfl (s.cel (by repeat (first | exact SelB.blk | exact SelB.fz | apply SelB.there))) (by rfl)) ?_
        refine SW.pure rfl rfl rfl rfl (fun w9 => R.mv rfl) ?_
        refine SW.pure rfl rfl rfl rfl (fun w9 => R.mv rfl) ?_
        refine SW.step rfl rfl rfl rfl (CS.call rfl go53 (scanNum b4 ll 0 2 (by omega)) (by repeat (first | exact Sels.nil | apply Sels.cons | exact Sel.keep | exact Sel.here | apply Sel.there))) ?_
        rintro _ _ ⟨_, ⟨rfl, rfl⟩, rfl⟩
        refine ⟨⟨.inr (fun w9 F9 S9 s => R.ldB (v := .slice pa ps.length pc) rfl (s.cel (by repeat (first | exact SelB.blk | exact SelB.fz | apply SelB.there))) (by rfl)), trivial⟩, ?_⟩
        refine SW.n1 ?_
        obtain ⟨k0, hk0⟩ : ∃ z, z = numF ll 0 2 := ⟨_, rfl⟩
        rw [← hk0]
        have hkl : k0.2.1.length ≤ ll.length := by rw [hk0]; exact numF_length _ _ _
        refine SW.step rfl rfl rfl rfl (CS.call rfl go56 (scanText b4 k0.2.1 k0.2.2 65536 (by omega)) (by repeat (first | exact Sels.nil | apply Sels.cons | exact Sel.keep | exact Sel.here | apply Sel.there))) ?_
        rintro _ _ ⟨_, ⟨a34, c34, rfl, hc34, rfl, rfl⟩, rfl⟩
        refine ⟨⟨.inr (fun w9 F9 S9 s => R.ldB (v := .slice pa ps.length pc) rfl (s.cel (by repeat (first | exact SelB.blk | exact SelB.fz | apply SelB.there))) (by rfl)), trivial⟩, ?_⟩
        refine SW.n2 ?_
        obtain ⟨t0, ht0⟩ : ∃ z, z = txtF k0.2.1 k0.2.2 65536 := ⟨_, rfl⟩
        rw [← ht0]
        rw [← ht0] at hc34
        have htl : t0.2.1.length ≤ k0.2.1.length := by rw [ht0]; exact txtF_length _ _ _
        have htx : t0.1.length ≤ 65535 := by rw [ht0]; exact txtF_le _ _ _
        refine SW.pure rfl rfl rfl rfl (fun w9 => R.build (cs := (PartV.cells (⟨k0.1, a34, t0.1.length, c34, t0.1⟩ : PartV)).toArray) rfl rfl) ?_
        refine SW.step rfl rfl rfl rfl (CS.buildA rfl rfl rfl rfl rfl (cellsP [(⟨k0.1, a34, t0.1.length, c34, t0.1⟩ : PartV)]) rfl) ?_
        rintro _ _ ⟨b36, rfl, rfl⟩
        refine ⟨⟨.inr (fun w9 F9 S9 s => R.ldB (v := .slice pa ps.length pc) rfl (s.cel (by repeat (first | exact SelB.blk | exact SelB.fz | apply SelB.there))) (by rfl)), trivial⟩, ?_⟩
        refine SW.step rfl rfl rfl rfl (CS.app rfl rfl (show Sel _ (own 78 2 pa (ps.length) pc (cellsP ps)) _ from (by repeat (first | exact Sel.keep | exact Sel.here | apply Sel.there))) (fun w9 F9 S9 s => s.blkC (show Sel _ (blk b36 (cellsP [(⟨k0.1, a34, t0.1.length, c34, t0.1⟩ : PartV)]) _) _ from (by repeat (first | exact Sel.keep | exact Sel.here | apply Sel.there)))) rfl (cellsP_one _) (by unfold maxLen; omega) (by omega)) ?_
        rintro _ _ ⟨a37, c37, rfl, rfl⟩
        refine ⟨⟨.inl (by decide +kernel), trivial⟩, ?_⟩
        refine SW.pure rfl rfl rfl rfl (fun w9 => R.nilChk rfl) ?_
        refine SW.pure rfl rfl rfl rfl (fun w9 => R.fld rfl) ?_
        refine SW.step0 rfl rfl rfl (CS.st rfl rfl (show Sel _ (blk b18 _ _) _ from (by repeat (first | exact Sel.keep | exact Sel.here | apply Sel.there))) (by repeat (first | exact SetAt.here | apply SetAt.there)) rfl) ?_
        rintro _ _ rfl
        refine ⟨⟨.inl (by decide +kernel), trivial⟩, ?_⟩
        refine SW.nil ?_
        refine SN.imp (Imp.both (p := (fun w => ∀ k ∈ ps, PartV.ok w k)) (q := fun w => Bs w a34 t0.1.length t0.1) (by repeat (first | exact Sel.keep | exact Sel.here | apply Sel.there)) (by repeat (first | exact Sel.keep | exact Sel.here | apply Sel.there))) ?_
        refine SN.imp (Imp.weak (p := fun w => (∀ k ∈ ps, PartV.ok w k) ∧ Bs w a34 t0.1.length t0.1) (q := (fun w => ∀ k ∈ (ps ++ [(⟨k0.1, a34, t0.1.length, c34, t0.1⟩ : PartV)]), PartV.ok w k)) (by repeat (first | exact Sel.keep | exact Sel.here | apply Sel.there)) (fun w hw k hk => (List.mem_append.1 hk).elim (hw.1 k) (fun h9 => by rw [List.mem_singleton.1 h9]; exact ⟨⟨hc34, htx⟩, hw.2⟩))) ?_
        have hinv2 : partsF c0.1 c0.2.1 c0.2.2 = ((ps ++ [(⟨k0.1, a34, t0.1.length, c34, t0.1⟩ : PartV)]).map PartV.abs ++ (partsF (c0.1 - (i + 1)) t0.2.1 t0.2.2).1, (partsF (c0.1 - (i + 1)) t0.2.1 t0.2.2).2) := by
          rw [hinv, show c0.1 - i = (c0.1 - (i + 1)) + 1 by omega, partsF, if_neg (by decide), ← hk0, ← ht0, List.map_append, List.append_assoc]; rfl
        refine SN.block ?_
        refine SN.seq ?_
        refine SG.region ?_
        refine SL.val rfl rfl (fun w9 F9 S9 s => R.add rfl rfl (by omega)) ?_
        refine SL.val rfl rfl (fun w9 F9 S9 s => R.mv rfl) ?_
        refine SL.nil ?_
        exact SN.again (⟨i + 1, t0.2.1, t0.2.2, ps ++ [(⟨k0.1, a34, t0.1.length, c34, t0.1⟩ : PartV)], a37, c37⟩) (by show c0.1 - (i + 1) < c0.1 - i; omega) (Sub.cons rfl (Sub.cons rfl (Sub.cons rfl (Sub.cons rfl (Sub.nil _))))) ((show Imp _ _ by dsimp only; rw [List.length_append, cellsP_app]; exact (Imp.sels (by repeat (first | exact Sels.nil | apply Sels.cons | exact Sel.keep | exact Sel.here | apply Sel.there))))) (⟨by show i + 1 ≤ c0.1; omega, by show (ps ++ [(⟨k0.1, a34, t0.1.length, c34, t0.1⟩ : PartV)]).length ≤ i + 1; rw [List.length_append]; show ps.length + 1 ≤ i + 1; omega, by show t0.2.1.length ≤ _; omega, hinv2⟩)
    · obtain rfl : i = c0.1 := by omega
      have hP : partsF c0.1 c0.2.1 c0.2.2 = (ps.map PartV.abs, ll, e) := by rw [hinv, (show partsF (c0.1 - c0.1) ll e = ([], ll, e) by rw [Nat.sub_self]; rfl), List.append_nil]
      have hQ : qF l = ⟨b0, o0, n0, c0, (ps.map PartV.abs, ll, e)⟩ := by rw [← hP, hc0, hn0, ho0, hb0, hm0]; rfl
      have hok : okQ (qF l) ↔ (e = 0 ∧ ll = [] ∧ rightF b0.1 (-1) (ps.map PartV.abs) = true ∧ 1 ≤ b0.1 ∧ b0.1 ≤ 64) := by rw [hQ]; rfl
      refine SG.exit _ rfl ?_
      refine SN.seq ?_
      refine SG.seq ?_
      refine SG.seq ?_
      refine SG.imp (Imp.ownSh (show Sel _ (own 78 2 pa (ps.length) pc (cellsP ps)) _ from (by repeat (first | exact Sel.keep | exact Sel.here | apply Sel.there))) (p := fun w => Cells w pa (cellsP ps)) (fun w h => h)) ?_
      refine SG.imp (Imp.fz (show Sel _ (blk b18 [.int .i64 (b0.1 : Int), .int .u64 (o0.1 : Int), .int .u64 (n0.1 : Int), .slice pa ps.length pc] 75) _ from (by repeat (first | exact Sel.keep | exact Sel.here | apply Sel.there)))) ?_
      refine SG.imp (Imp.both (p := fun w => Cells w pa (cellsP ps)) (q := (fun w => ∀ k ∈ ps, PartV.ok w k)) (by repeat (first | exact Sel.keep | exact Sel.here | apply Sel.there)) (by repeat (first | exact Sel.keep | exact Sel.here | apply Sel.there))) ?_
      refine SG.region ?_
      refine SL.val rfl rfl (fun w9 F9 S9 s => R.mv rfl) ?_
      refine SL.step rfl rfl (CS.call rfl go55 (scanErr b4 ll e (by omega)) (by repeat (first | exact Sels.nil | apply Sels.cons | exact Sel.keep | exact Sel.here | apply Sel.there))) ?_
      rintro _ _ ⟨_, ⟨rfl, rfl⟩, rfl⟩
      refine SL.n1 ?_
      refine SL.val rfl rfl (fun w9 F9 S9 s => R.neI rfl rfl) ?_
      refine SL.val rfl rfl (fun w9 F9 S9 s => R.mv rfl) ?_
      refine SL.caseP 44 rfl (fun hg10_3 => ?_) (fun hg10_3 => ?_)
      · have hno : ¬ okQ (qF l) := (fun h9 => hg10_3 (hok.1 h9).1)
        exact absurd (hpf.symm.trans (if_neg (fun h9 => hno h9.2))) (by simp)
      · refine SL.val rfl rfl (fun w9 F9 S9 s => R.mv rfl) ?_
        refine SL.step rfl rfl (CS.call rfl go57 (scanLeft b4 ll e (by omega)) (by repeat (first | exact Sels.nil | apply Sels.cons | exact Sel.keep | exact Sel.here | apply Sel.there))) ?_
        rintro _ _ ⟨_, ⟨rfl, rfl⟩, rfl⟩
        refine SL.n1 ?_
        refine SL.val rfl rfl (fun w9 F9 S9 s => R.gtr rfl rfl) ?_
        first | refine SL.val rfl rfl (fun w9 F9 S9 s => R.pickT rfl rfl) ?_ | refine SL.val rfl rfl (fun w9 F9 S9 s => R.pickF rfl rfl) ?_
        refine SL.val rfl rfl (fun w9 F9 S9 s => R.mv rfl) ?_
        refine SL.caseP 49 rfl (fun hg10_8 => ?_) (fun hg10_8 => ?_)
        · have hno : ¬ okQ (qF l) := (fun h9 => by have := (hok.1 h9).2.1; subst this; simp at hg10_8)
          exact absurd (hpf.symm.trans (if_neg (fun h9 => hno h9.2))) (by simp)
        · refine SL.val rfl rfl (fun w9 F9 S9 s => R.mv rfl) ?_
          refine SL.step rfl rfl (CS.call rfl go58 (right_ok b18 pa pc b0.1 (.int .u64 (o0.1 : Int)) (.int .u64 (n0.1 : Int)) ps (by omega)) (by repeat (first | exact Sels.nil | apply Sels.cons | exact Sel.keep | exact Sel.here | apply Sel.there))) ?_
          rintro _ _ ⟨_, ⟨rfl, rfl⟩, rfl⟩
          refine SL.n0 ?_
          refine SL.val rfl rfl (fun w9 F9 S9 s => R.not rfl) ?_
          first | refine SL.val rfl rfl (fun w9 F9 S9 s => R.pickT rfl rfl) ?_ | refine SL.val rfl rfl (fun w9 F9 S9 s => R.pickF rfl rfl) ?_
          refine SL.nil ?_
          refine SN.seq ?_
          refine SG.condB rfl (fun h3 => ?_) (fun h3 => ?_)
          · have hno : ¬ okQ (qF l) := (fun h9 => by rw [decide_eq_true (hok.1 h9).2.2] at h3; cases h3)
            exact absurd (hpf.symm.trans (if_neg (fun h9 => hno h9.2))) (by simp)
          · have hyes : okQ (qF l) := hok.2 ⟨by omega, List.eq_nil_of_length_eq_zero (by omega), by simpa using h3⟩
            have hpf2 : parseF l = some (patQ (qF l)) := if_pos ⟨hm1, hyes⟩
            rw [hpf, hQ] at hpf2
            cases hpf2
            refine SG.skip ?_
            refine SN.seq ?_
            refine SG.seq ?_
            refine SG.region ?_
            refine SL.val rfl rfl (fun w9 F9 S9 s => R.mv rfl) ?_
            refine SL.val rfl rfl (fun w9 F9 S9 s => R.as rfl) ?_
            refine SL.val rfl rfl (fun w9 F9 S9 s => R.as rfl) ?_
            refine SL.nil ?_
            refine SN.seq ?_
            exact SG.ret2 rfl rfl rfl ((show Imp _ [fz b18 [.int .i64 (b0.1 : Int), .int .u64 (o0.1 : Int), .int .u64 (n0.1 : Int), .slice pa ps.length pc] 75, sh (fun w => Cells w pa (cellsP ps) ∧ ∀ k ∈ ps, PartV.ok w k)] from (Imp.sels (by repeat (first | exact Sels.nil | apply Sels.cons | exact Sel.keep | exact Sel.here | apply Sel.there))))) (⟨b18, pa, pc, ps, rfl, rfl, rfl⟩)

end Go.Proofs.Yteaihincmfbblaa
/-
  The walks of package patch.
-/
set_option linter.unusedVariables false
set_option linter.unusedSimpArgs false
set_option maxRecDepth 4000
namespace Go.Proofs.Yteaihincmfbblaa
open Go Brv Brv.Pack Brv.Shrink Brv.Patch
def cellsW (ws : List WriteV) : List Value := (ws.map WriteV.cells).flatten
theorem cellsW_one (ws : List WriteV) : ∀ u ∈ cellsW ws, u.oneCell' = true := by
  intro u hu
  obtain ⟨cs, hcs, hu⟩ := List.mem_flatten.1 hu
  obtain ⟨o, _, rfl⟩ := List.mem_map.1 hcs
  exact WriteV.cells.one o u hu
theorem cellsW_append (a b : List WriteV) : cellsW (a ++ b) = cellsW a ++ cellsW b := by simp [cellsW]
theorem tabW {w : World} {a : Option Addr} {n : Nat} {ws : List WriteV} (h : Cells w a (cellsW ws)) (hn : n = ws.length) : Tab w a n 2 (ws.map WriteV.cells) :=
  ⟨h, by rw [List.length_map]; exact hn, fun vs hv => by obtain ⟨o, _, rfl⟩ := List.mem_map.1 hv; rfl⟩
theorem right_all {bl : Nat} : ∀ {ps : List (Nat × List UInt8)} {last : Int}, rightF bl last ps = true → ∀ k ∈ ps, (growF 64 k.2).2 = 0 ∧ (growF 64 k.2).1.length = 64 ∧ k.1 < bl
  | [], _, _, k, hk => by cases hk
  | p :: ps, last, h, k, hk => by
    simp only [rightF, Bool.and_eq_true, decide_eq_true_eq] at h
    rcases List.mem_cons.1 hk with rfl | hk
    · exact ⟨h.1.1.1, h.1.1.2, h.1.2.2⟩
    · exact right_all h.2 k hk
theorem parse_some {l : List UInt8} {q : Pat} (h : parseF l = some q) : rightF q.blocks (-1) q.parts = true ∧ 1 ≤ q.blocks ∧ q.blocks ≤ 64 := by
  unfold parseF at h
  split at h
  · rename_i hok
    cases h
    exact ⟨hok.2.2.2.1, hok.2.2.2.2⟩
  · cases h
theorem right_len {bl : Nat} : ∀ {ps : List (Nat × List UInt8)} {last : Int}, rightF bl last ps = true → (ps.length : Int) ≤ max 0 ((bl : Int) - 1 - last)
  | [], _, _ => by simp; omega
  | p :: ps, last, h => by
    simp only [rightF, Bool.and_eq_true, decide_eq_true_eq] at h
    have := right_len h.2
    have h2 := h.1.2
    simp only [List.length_cons]
    omega
theorem parts_few {l : List UInt8} {q : Pat} (h : parseF l = some q) : q.parts.length ≤ 64 := by
  obtain ⟨h1, h2, h3⟩ := parse_some h
  have := right_len h1
  omega
theorem with_ok : ∀ {ws : List (Int × List UInt8)} {x : List UInt8}, x.length = 64 * Image.dn x → (∀ w ∈ ws, (0 ≤ w.1 ∧ w.1 < (Image.dn x : Int)) ∧ w.2.length = 64) → (Image.withF x ws).2 = 0
  | [], x, _, _ => rfl
  | w :: ws, x, hx, h => by
    have hw := h w (by simp)
    have hl : (Image.laid x w.1.toNat w.2).length = x.length := Image.laid_length hw.2 (by omega)
    have hd : Image.dn (Image.laid x w.1.toNat w.2) = Image.dn x := by unfold Image.dn; rw [hl]
    rw [Image.withF_next (by omega) hw.2]
    exact with_ok (by rw [hl, hd]; exact hx) (fun v hv => by rw [hd]; exact h v (by simp [hv]))
theorem undo_in {x l : List UInt8} {q : Pat} (h : parseF l = some q) (hb : q.blocks = Image.dn x) : ∀ w ∈ q.parts.map (undoW x), (0 ≤ w.1 ∧ w.1 < (Image.dn x : Int)) ∧ w.2.length = 64 := by
  intro w hw
  obtain ⟨k, hk, rfl⟩ := List.mem_map.1 hw
  have := right_all (parse_some h).1 k hk
  exact ⟨⟨Int.natCast_nonneg _, by show (k.1 : Int) < _; omega⟩, by show (laidF _ _).length = 64; rw [laidF_length]; exact this.2.1⟩
structure BlS where
  i : Nat
  a : Option Addr
  c : Nat
structure ApS where
  i : Nat
  ws : List WriteV
  a : Option Addr
  c : Nat

theorem numsP_one (x : List Nat) : ∀ u ∈ nums x, u.oneCell' = true := fun u hu => by obtain ⟨v, _, rfl⟩ := List.mem_map.1 hu; rfl

set_option maxHeartbeats 1000000 in
theorem blocks_yes (a : Option Addr) (n c : Nat) (l : List UInt8) (q : Pat) (hc : n ≤ c) (hn : n ≤ 1000000) (hpf : parseF l = some q) : SpecS Try.prog 10 [.slice a n c] [bs a n l] (fun v H' => ∃ a2 c2, v = .tuple #[.slice a2 q.parts.length c2, .int .i64 0] ∧ H' = [own 3 1 a2 (q.parts.length) c2 (nums (q.parts.map Prod.fst))]) := by
  refine SpecS.enter Try.func10 rfl 33 rfl (Nat.le_of_ble_eq_true rfl) (fun o => ?_)
  refine SG.seq ?_
  refine SG.region ?_
  refine SL.val rfl rfl (fun w9 F9 S9 s => R.as rfl) ?_
  refine SL.val rfl rfl (fun w9 F9 S9 s => R.as rfl) ?_
  refine SL.nil ?_
  refine SN.seq ?_
  refine SG.seq ?_
  refine SG.region ?_
  refine SL.val rfl rfl (fun w9 F9 S9 s => R.mv rfl) ?_
  refine SL.step rfl rfl (CS.call rfl go31 (parse_yes a n c l q hc hn hpf) (by repeat (first | exact Sels.nil | apply Sels.cons | exact Sel.keep | exact Sel.here | apply Sel.there))) ?_
  rintro _ _ ⟨_, ⟨xx, pa, pc, ps, rfl, hps, rfl, rfl⟩, rfl⟩
  refine SL.n2 ?_
  refine SL.val rfl rfl (fun w9 F9 S9 s => R.mv rfl) ?_
  refine SL.val rfl rfl (fun w9 F9 S9 s => R.ext rfl rfl) ?_
  refine SL.val rfl rfl (fun w9 F9 S9 s => R.ext rfl rfl) ?_
  refine SL.val rfl rfl (fun w9 F9 S9 s => R.as rfl) ?_
  refine SL.val rfl rfl (fun w9 F9 S9 s => R.as rfl) ?_
  refine SL.nil ?_
  have hfew := parts_few hpf
  have hpsl : ps.length = q.parts.length := by rw [← hps, List.length_map]
  refine SN.seq ?_
  refine SG.seq ?_
  refine SG.seq ?_
  refine SG.region ?_
  refine SL.val rfl rfl (fun w9 F9 S9 s => R.mv rfl) ?_
  refine SL.val rfl rfl (fun w9 F9 S9 s => R.neI rfl rfl) ?_
  refine SL.nil ?_
  refine SN.seq ?_
  refine SG.condP rfl (fun h0 => ?_) (fun h0 => ?_)
  · exact absurd rfl h0
  · refine SG.skip ?_
    refine SN.seq ?_
    refine SG.seq ?_
    refine SG.region ?_
    refine SL.val rfl rfl (fun w9 F9 S9 s => R.as rfl) ?_
    refine SL.nil ?_
    refine SN.seq ?_
    refine SG.seq ?_
    refine SG.seq ?_
    refine SG.region ?_
    refine SL.val rfl rfl (fun w9 F9 S9 s => R.mv rfl) ?_
    refine SL.val rfl rfl (fun w9 F9 S9 s => R.nilChk rfl) ?_
    refine SL.val rfl rfl (fun w9 F9 S9 s => R.fld rfl) ?_
    refine SL.val rfl rfl (fun w9 F9 S9 s => R.ldB (v := .slice pa ps.length pc) rfl (s.fz (show Sel _ (fz xx [.int .i64 (q.blocks : Int), .int .u64 (q.old : Int), .int .u64 (q.new : Int), .slice pa ps.length pc] 75) _ from (by repeat (first | exact Sel.keep | exact Sel.here | apply Sel.there)))) (by rfl)) ?_
    refine SL.val rfl rfl (fun w9 F9 S9 s => R.lenS rfl) ?_
    refine SL.val rfl rfl (fun w9 F9 S9 s => R.mv rfl) ?_
    refine SL.nil ?_
    refine SN.seq ?_
    refine SG.block ?_
    refine SG.imp (Imp.ownNil 3 1) ?_
    refine SG.loop (X := BlS) (fun y => [(6, .slice y.a y.i y.c), (20, .slice pa ps.length pc), (21, .int .i64 (ps.length : Int)), (22, .int .i64 (y.i : Int))]) (fun y => [own 3 1 y.a (y.i) y.c (nums ((ps.take y.i).map PartV.k)), sh (fun w => Cells w pa (cellsP ps) ∧ ∀ k ∈ ps, PartV.ok w k)]) (fun y => y.i ≤ ps.length) (fun y => ps.length - y.i) (⟨0, none, 0⟩) (Sub.cons rfl (Sub.cons rfl (Sub.cons rfl (Sub.cons rfl (Sub.nil _))))) ((Imp.sels (by repeat (first | exact Sels.nil | apply Sels.cons | exact Sel.keep | exact Sel.here | apply Sel.there)))) (Nat.zero_le _) ?_
    rintro ⟨i, a6, c6⟩ hi
    dsimp only at hi
    show SG _ _ _ _ _ [(6, .slice a6 i c6), (20, .slice pa ps.length pc), (21, .int .i64 (ps.length : Int)), (22, .int .i64 (i : Int))] [own 3 1 a6 (i) c6 (nums ((ps.take i).map PartV.k)), sh (fun w => Cells w pa (cellsP ps) ∧ ∀ k ∈ ps, PartV.ok w k)] _
    refine SG.seq ?_
    refine SG.region ?_
    refine SL.val rfl rfl (fun w9 F9 S9 s => R.lss rfl rfl) ?_
    refine SL.nil ?_
    refine SN.seq ?_
    refine SG.seq ?_
    refine SG.condP rfl (fun h1 => ?_) (fun h1 => ?_)
    · obtain ⟨p, hp⟩ : ∃ p, ps[i]? = some p := ⟨_, List.getElem?_eq_getElem (by omega)⟩
      have hpm := List.mem_of_getElem? hp
      refine SG.fact (fun w9 F9 S9 s => parts_pt (s.sh (p := (fun w => Cells w pa (cellsP ps) ∧ ∀ k ∈ ps, PartV.ok w k)) (by repeat (first | exact Sel.keep | exact Sel.here | apply Sel.there))).1 hp) (fun hf9 => ?_)
      obtain ⟨q0, hq0⟩ := hf9
      refine SG.skip ?_
      refine SN.seq ?_
      refine SG.seq ?_
      refine SG.block ?_
      refine SG.seq ?_
      refine SG.region ?_
      refine SL.val rfl rfl (fun w9 F9 S9 s => R.idx rfl rfl (by omega) (by omega) q0 hq0) ?_
      refine SL.val rfl rfl (fun w9 F9 S9 s => R.ldN (vs := PartV.cells p) rfl (parts_ld (s.sh (p := (fun w => Cells w pa (cellsP ps) ∧ ∀ k ∈ ps, PartV.ok w k)) (by repeat (first | exact Sel.keep | exact Sel.here | apply Sel.there))).1 hq0 hp) rfl) ?_
      refine SL.step rfl rfl (CS.alloc [.int .i64 0, .slice none 0 0] rfl) ?_
      rintro _ _ ⟨b8, rfl, rfl⟩
      refine SL.step0 rfl (CS.stA (vs := PartV.cells p) rfl rfl (by repeat (first | exact Sel.keep | exact Sel.here | apply Sel.there)) (by rfl) (by rfl) (by intro u hu; simp only [PartV.cells, List.mem_cons, List.not_mem_nil, or_false] at hu; rcases hu with rfl | rfl <;> rfl)) ?_
      rintro _ _ rfl
      refine SL.nil ?_
      refine SN.seq ?_
      refine SG.region ?_
      refine SL.val rfl rfl (fun w9 F9 S9 s => R.mv rfl) ?_
      refine SL.val rfl rfl (fun w9 F9 S9 s => R.fld rfl) ?_
      refine SL.val rfl rfl (fun w9 F9 S9 s => R.ldB (v := .int .i64 (p.k : Int)) rfl (s.cel (by repeat (first | exact SelB.blk | exact SelB.fz | apply SelB.there))) (by rfl)) ?_
      refine SL.step rfl rfl (CS.buildA rfl rfl rfl rfl rfl (nums [p.k]) rfl) ?_
      rintro _ _ ⟨b29, rfl, rfl⟩
      refine SL.step rfl rfl (CS.app rfl rfl (by repeat (first | exact Sel.keep | exact Sel.here | apply Sel.there)) (fun w9 F9 S9 s => s.blkC (show Sel _ (blk b29 (nums [p.k]) _) _ from (by repeat (first | exact Sel.keep | exact Sel.here | apply Sel.there)))) rfl (numsP_one _) (by unfold maxLen; omega) (by omega)) ?_
      rintro _ _ ⟨a30, c30, rfl, rfl⟩
      refine SL.val rfl rfl (fun w9 F9 S9 s => R.as rfl) ?_
      refine SL.nil ?_
      refine SN.block ?_
      refine SN.seq ?_
      refine SG.region ?_
      refine SL.val rfl rfl (fun w9 F9 S9 s => R.add rfl rfl (by omega)) ?_
      refine SL.val rfl rfl (fun w9 F9 S9 s => R.mv rfl) ?_
      refine SL.nil ?_
      exact SN.again (⟨i + 1, a30, c30⟩) (by show ps.length - (i + 1) < ps.length - i; omega) (Sub.cons rfl (Sub.cons rfl (Sub.cons rfl (Sub.cons rfl (Sub.nil _))))) ((show Imp _ _ by dsimp only; rw [show (ps.take (i + 1)).map PartV.k = (ps.take i).map PartV.k ++ [p.k] by rw [List.take_add_one, hp, List.map_append]; rfl, nums_append]; exact (Imp.sels (by repeat (first | exact Sels.nil | apply Sels.cons | exact Sel.keep | exact Sel.here | apply Sel.there))))) (by show i + 1 ≤ ps.length; omega)
    · obtain rfl : i = ps.length := by omega
      rw [List.take_length]
      have hmk : ps.map PartV.k = q.parts.map Prod.fst := by rw [← hps, List.map_map]; rfl
      refine SG.exit _ rfl ?_
      refine SN.seq ?_
      refine SG.seq ?_
      refine SG.region ?_
      refine SL.val rfl rfl (fun w9 F9 S9 s => R.mv rfl) ?_
      refine SL.val rfl rfl (fun w9 F9 S9 s => R.as rfl) ?_
      refine SL.val rfl rfl (fun w9 F9 S9 s => R.as rfl) ?_
      refine SL.nil ?_
      refine SN.seq ?_
      exact SG.ret2 rfl rfl rfl ((show Imp _ [own 3 1 a6 (ps.length) c6 (nums (ps.map PartV.k))] from (Imp.sels (by repeat (first | exact Sels.nil | apply Sels.cons | exact Sel.keep | exact Sel.here | apply Sel.there))))) (⟨a6, c6, by rw [hpsl], by rw [hmk, hpsl]⟩)

theorem apply_none (d g e : Nat) (cur : Array Value) (ps0 : List Nat) (x : List UInt8) (a : Option Addr) (n c : Nat) (l : List UInt8) (w : World) (hd : DiskL w d g e cur ps0 x) (hb : Bs w a n l) (hc : n ≤ c) (hn : n ≤ 1000000) (hpf : parseF l = none) : Meets Try.prog 9 [.pointer (some ⟨d, 0, none⟩), .slice a n c] w (fun v w' => v = .tuple #[.pointer none, .int .i64 (applyF rootD x l).2] ∧ Ext [] w w') := by
  refine Meets.law Try.func9 rfl 92 rfl (Nat.le_of_ble_eq_true rfl) (law_cons (p := fun w => DiskL w d g e cur ps0 x) (fun w9 he => hd.ext0 he) (law_bs (hb) (law_nil w))) ?_
  refine SG.seq ?_
  refine SG.region ?_
  refine SL.val rfl rfl (fun w9 F9 S9 s => R.as rfl) ?_
  refine SL.val rfl rfl (fun w9 F9 S9 s => R.as rfl) ?_
  refine SL.nil ?_
  refine SN.seq ?_
  refine SG.seq ?_
  refine SG.seq ?_
  refine SG.region ?_
  refine SL.val rfl rfl (fun w9 F9 S9 s => R.mv rfl) ?_
  refine SL.val rfl rfl (fun w9 F9 S9 s => R.eqNilP rfl rfl) ?_
  refine SL.nil ?_
  refine SN.seq ?_
  refine SG.condF rfl ?_
  refine SG.skip ?_
  refine SN.seq ?_
  refine SG.seq ?_
  refine SG.region ?_
  refine SL.val rfl rfl (fun w9 F9 S9 s => R.mv rfl) ?_
  refine SL.step rfl rfl (CS.call rfl go31 (parse_no a n c l hc hn hpf) (by repeat (first | exact Sels.nil | apply Sels.cons | exact Sel.keep | exact Sel.here | apply Sel.there))) ?_
  rintro _ _ ⟨_, ⟨rfl, rfl⟩, rfl⟩
  refine SL.n0 ?_
  refine SL.val rfl rfl (fun w9 F9 S9 s => R.mv rfl) ?_
  refine SL.val rfl rfl (fun w9 F9 S9 s => R.ext rfl rfl) ?_
  refine SL.val rfl rfl (fun w9 F9 S9 s => R.ext rfl rfl) ?_
  refine SL.val rfl rfl (fun w9 F9 S9 s => R.as rfl) ?_
  refine SL.val rfl rfl (fun w9 F9 S9 s => R.as rfl) ?_
  refine SL.nil ?_
  refine SN.seq ?_
  refine SG.seq ?_
  refine SG.block ?_
  refine SG.seq ?_
  refine SG.draw [8] [0, 1, 2, 3, 4, 5, 6, 7, 8, 9, 10, 11] (by decide +kernel) rfl ?_
  refine SW.pure rfl rfl rfl rfl (fun w9 => R.mv rfl) ?_
  refine SW.pure rfl rfl rfl rfl (fun w9 => R.neI rfl rfl) ?_
  refine SW.pure rfl rfl rfl rfl (fun w9 => R.mv rfl) ?_
  refine SW.isT 26 rfl (decide_eq_true (by decide)) ?_
  refine SW.pass (hd := rfl) rfl rfl rfl ?_
  refine SW.pass (hd := rfl) rfl rfl rfl ?_
  refine SW.pass (hd := rfl) rfl rfl rfl ?_
  refine SW.pass (hd := rfl) rfl rfl rfl ?_
  refine SW.pass (hd := rfl) rfl rfl rfl ?_
  refine SW.passS rfl rfl rfl rfl ⟨trivial, ?_⟩
  refine SW.pass (hd := rfl) rfl rfl rfl ?_
  first | refine SW.pure rfl rfl rfl rfl (fun w9 => R.pickT rfl rfl) ?_ | refine SW.pure rfl rfl rfl rfl (fun w9 => R.pickF rfl rfl) ?_
  refine SW.pure rfl rfl rfl rfl (fun w9 => R.as rfl) ?_
  refine SW.nil ?_
  refine SN.seq ?_
  refine SG.condT rfl ?_
  refine SG.seq ?_
  refine SG.region ?_
  refine SL.val rfl rfl (fun w9 F9 S9 s => R.as rfl) ?_
  refine SL.val rfl rfl (fun w9 F9 S9 s => R.as rfl) ?_
  refine SL.nil ?_
  refine SN.seq ?_
  exact SG.ret2 rfl rfl rfl ((Imp.sels (by repeat (first | exact Sels.nil | apply Sels.cons | exact Sel.keep | exact Sel.here | apply Sel.there)))) (by unfold applyF; rw [hpf])

set_option maxHeartbeats 2000000 in
theorem apply_no (d g e : Nat) (cur : Array Value) (ps0 : List Nat) (x : List UInt8) (a : Option Addr) (n c : Nat) (l : List UInt8) (q : Pat) (w : World) (hd : DiskL w d g e cur ps0 x) (hb : Bs w a n l) (hc : n ≤ c) (hn : n ≤ 1000000) (hpf : parseF l = some q) (he : (applyF rootD x l).2 ≠ 0) : Meets Try.prog 9 [.pointer (some ⟨d, 0, none⟩), .slice a n c] w (fun v w' => v = .tuple #[.pointer none, .int .i64 (applyF rootD x l).2] ∧ Ext [] w w') := by
  refine Meets.law Try.func9 rfl 92 rfl (Nat.le_of_ble_eq_true rfl) (law_cons (p := fun w => DiskL w d g e cur ps0 x) (fun w9 he => hd.ext0 he) (law_bs (hb) (law_nil w))) ?_
  refine SG.fact (fun w9 F9 S9 s => (s.sh (p := fun w => DiskL w d g e cur ps0 x) (by repeat (first | exact Sel.keep | exact Sel.here | apply Sel.there))).pos) (fun hf9 => ?_)
  have hpos := hf9; clear hf9
  refine SG.fact (fun w9 F9 S9 s => (s.sh (p := fun w => DiskL w d g e cur ps0 x) (by repeat (first | exact Sel.keep | exact Sel.here | apply Sel.there))).le) (fun hf9 => ?_)
  have hle := hf9; clear hf9
  refine SG.fact (fun w9 F9 S9 s => (s.sh (p := fun w => DiskL w d g e cur ps0 x) (by repeat (first | exact Sel.keep | exact Sel.here | apply Sel.there))).len) (fun hf9 => ?_)
  have hxl := hf9; clear hf9
  have hdx : Image.dn x = x.length / 64 := rfl
  obtain ⟨hrt, hb1, hb64⟩ := parse_some hpf
  have hfew := parts_few hpf
  have hall := right_all hrt
  have hAF : applyF rootD x l = if 64 * q.blocks ≠ x.length then ([], 20) else if q.old ≠ rootD x then ([], 52) else if rootD (Image.withF x (q.parts.map (undoW x))).1 ≠ q.new then ([], 53) else ((Image.withF x (q.parts.map (undoW x))).1, 0) := by unfold applyF; rw [hpf]
  refine SG.seq ?_
  refine SG.region ?_
  refine SL.val rfl rfl (fun w9 F9 S9 s => R.as rfl) ?_
  refine SL.val rfl rfl (fun w9 F9 S9 s => R.as rfl) ?_
  refine SL.nil ?_
  refine SN.seq ?_
  refine SG.seq ?_
  refine SG.seq ?_
  refine SG.region ?_
  refine SL.val rfl rfl (fun w9 F9 S9 s => R.mv rfl) ?_
  refine SL.val rfl rfl (fun w9 F9 S9 s => R.eqNilP rfl rfl) ?_
  refine SL.nil ?_
  refine SN.seq ?_
  refine SG.condF rfl ?_
  refine SG.skip ?_
  refine SN.seq ?_
  refine SG.seq ?_
  refine SG.region ?_
  refine SL.val rfl rfl (fun w9 F9 S9 s => R.mv rfl) ?_
  refine SL.step rfl rfl (CS.call rfl go31 (parse_yes a n c l q hc hn hpf) (by repeat (first | exact Sels.nil | apply Sels.cons | exact Sel.keep | exact Sel.here | apply Sel.there))) ?_
  rintro _ _ ⟨_, ⟨xx, pa, pc, ps, rfl, hps, rfl, rfl⟩, rfl⟩
  refine SL.n2 ?_
  refine SL.val rfl rfl (fun w9 F9 S9 s => R.mv rfl) ?_
  refine SL.val rfl rfl (fun w9 F9 S9 s => R.ext rfl rfl) ?_
  refine SL.val rfl rfl (fun w9 F9 S9 s => R.ext rfl rfl) ?_
  refine SL.val rfl rfl (fun w9 F9 S9 s => R.as rfl) ?_
  refine SL.val rfl rfl (fun w9 F9 S9 s => R.as rfl) ?_
  refine SL.nil ?_
  have hpsl : ps.length = q.parts.length := by rw [← hps, List.length_map]
  refine SN.seq ?_
  refine SG.seq ?_
  refine SG.block ?_
  refine SG.seq ?_
  refine SG.draw [8] [0, 1, 2, 3, 4, 5, 6, 7, 8, 9, 10, 11] (by decide +kernel) rfl ?_
  refine SW.pure rfl rfl rfl rfl (fun w9 => R.mv rfl) ?_
  refine SW.pure rfl rfl rfl rfl (fun w9 => R.neI rfl rfl) ?_
  refine SW.pure rfl rfl rfl rfl (fun w9 => R.mv rfl) ?_
  refine SW.isF 26 rfl (decide_eq_false (by decide)) ?_
  refine SW.pure rfl rfl rfl rfl (fun w9 => R.mv rfl) ?_
  refine SW.pure rfl rfl rfl rfl (fun w9 => R.nilChk rfl) ?_
  refine SW.pure rfl rfl rfl rfl (fun w9 => R.fld rfl) ?_
  refine SW.read rfl rfl rfl rfl (fun w9 F9 S9 s => R.ldB (v := .int .i64 (q.blocks : Int)) rfl (s.fz (show Sel _ (fz xx [.int .i64 (q.blocks : Int), .int .u64 (q.old : Int), .int .u64 (q.new : Int), .slice pa ps.length pc] 75) _ from (by repeat (first | exact Sel.keep | exact Sel.here | apply Sel.there)))) (by rfl)) ?_
  refine SW.pure rfl rfl rfl rfl (fun w9 => R.mv rfl) ?_
  refine SW.step rfl rfl rfl rfl (CS.callR rfl go13 (fun w9 F9 S9 s => iblocksE (some ⟨d, 0, none⟩) x w9 (disk_o (s.sh (p := fun w => DiskL w d g e cur ps0 x) (by repeat (first | exact Sel.keep | exact Sel.here | apply Sel.there)))))) ?_
  rintro _ _ ⟨rfl, rfl⟩
  refine ⟨⟨.inr (fun w9 F9 S9 s => R.ldB (v := .int .i64 (q.blocks : Int)) rfl (s.fz (show Sel _ (fz xx [.int .i64 (q.blocks : Int), .int .u64 (q.old : Int), .int .u64 (q.new : Int), .slice pa ps.length pc] 75) _ from (by repeat (first | exact Sel.keep | exact Sel.here | apply Sel.there)))) (by rfl)), trivial⟩, ?_⟩
  refine SW.pure rfl rfl rfl rfl (fun w9 => R.neI rfl rfl) ?_
  first | refine SW.pure rfl rfl rfl rfl (fun w9 => R.pickT rfl rfl) ?_ | refine SW.pure rfl rfl rfl rfl (fun w9 => R.pickF rfl rfl) ?_
  refine SW.pure rfl rfl rfl rfl (fun w9 => R.as rfl) ?_
  refine SW.nil ?_
  refine SN.seq ?_
  refine SG.condP rfl (fun h1 => ?_) (fun h1 => ?_)
  · have hA : applyF rootD x l = ([], 20) := by rw [hAF, if_pos (by omega)]
    refine SG.seq ?_
    refine SG.region ?_
    refine SL.val rfl rfl (fun w9 F9 S9 s => R.as rfl) ?_
    refine SL.val rfl rfl (fun w9 F9 S9 s => R.as rfl) ?_
    refine SL.nil ?_
    refine SN.seq ?_
    exact SG.ret2 rfl rfl rfl ((Imp.sels (by repeat (first | exact Sels.nil | apply Sels.cons | exact Sel.keep | exact Sel.here | apply Sel.there)))) (by rw [hA])
  · have hbx : q.blocks = Image.dn x := by omega
    rw [if_neg (by omega)] at hAF
    have hin := undo_in hpf hbx
    have hw0 := with_ok hxl hin
    have hwl := Image.withF_length (x := x) hw0
    refine SG.seq ?_
    refine SG.draw [5] [0, 1, 2, 3, 4, 5, 6, 7] (by decide +kernel) rfl ?_
    refine SW.pure rfl rfl rfl rfl (fun w9 => R.mv rfl) ?_
    refine SW.pure rfl rfl rfl rfl (fun w9 => R.nilChk rfl) ?_
    refine SW.pure rfl rfl rfl rfl (fun w9 => R.fld rfl) ?_
    refine SW.read rfl rfl rfl rfl (fun w9 F9 S9 s => R.ldB (v := .int .u64 (q.old : Int)) rfl (s.fz (show Sel _ (fz xx [.int .i64 (q.blocks : Int), .int .u64 (q.old : Int), .int .u64 (q.new : Int), .slice pa ps.length pc] 75) _ from (by repeat (first | exact Sel.keep | exact Sel.here | apply Sel.there)))) (by rfl)) ?_
    refine SW.pure rfl rfl rfl rfl (fun w9 => R.mv rfl) ?_
    refine SW.step rfl rfl rfl rfl (CS.call rfl go26 (droot_ok d g e cur ps0 x) (by repeat (first | exact Sels.nil | apply Sels.cons | exact Sel.keep | exact Sel.here | apply Sel.there))) ?_
    rintro _ _ ⟨_, ⟨rfl, rfl⟩, rfl⟩
    refine ⟨⟨.inr (fun w9 F9 S9 s => R.ldB (v := .int .u64 (q.old : Int)) rfl (s.fz (show Sel _ (fz xx [.int .i64 (q.blocks : Int), .int .u64 (q.old : Int), .int .u64 (q.new : Int), .slice pa ps.length pc] 75) _ from (by repeat (first | exact Sel.keep | exact Sel.here | apply Sel.there)))) (by rfl)), trivial⟩, ?_⟩
    refine SW.n0 ?_
    refine SW.pure rfl rfl rfl rfl (fun w9 => R.neI rfl rfl) ?_
    refine SW.pure rfl rfl rfl rfl (fun w9 => R.as rfl) ?_
    refine SW.nil ?_
    refine SN.seq ?_
    refine SG.condP rfl (fun h2 => ?_) (fun h2 => ?_)
    · have hA : applyF rootD x l = ([], 52) := by rw [hAF, if_pos (by omega)]
      refine SG.seq ?_
      refine SG.region ?_
      refine SL.val rfl rfl (fun w9 F9 S9 s => R.as rfl) ?_
      refine SL.val rfl rfl (fun w9 F9 S9 s => R.as rfl) ?_
      refine SL.nil ?_
      refine SN.seq ?_
      exact SG.ret2 rfl rfl rfl ((Imp.sels (by repeat (first | exact Sels.nil | apply Sels.cons | exact Sel.keep | exact Sel.here | apply Sel.there)))) (by rw [hA])
    · rw [if_neg (by omega)] at hAF
      refine SG.skip ?_
      refine SN.block ?_
      refine SN.seq ?_
      refine SG.seq ?_
      refine SG.region ?_
      refine SL.val rfl rfl (fun w9 F9 S9 s => R.as rfl) ?_
      refine SL.nil ?_
      refine SN.seq ?_
      refine SG.seq ?_
      refine SG.seq ?_
      refine SG.region ?_
      refine SL.val rfl rfl (fun w9 F9 S9 s => R.mv rfl) ?_
      refine SL.val rfl rfl (fun w9 F9 S9 s => R.nilChk rfl) ?_
      refine SL.val rfl rfl (fun w9 F9 S9 s => R.fld rfl) ?_
      refine SL.val rfl rfl (fun w9 F9 S9 s => R.ldB (v := .slice pa ps.length pc) rfl (s.fz (show Sel _ (fz xx [.int .i64 (q.blocks : Int), .int .u64 (q.old : Int), .int .u64 (q.new : Int), .slice pa ps.length pc] 75) _ from (by repeat (first | exact Sel.keep | exact Sel.here | apply Sel.there)))) (by rfl)) ?_
      refine SL.val rfl rfl (fun w9 F9 S9 s => R.lenS rfl) ?_
      refine SL.val rfl rfl (fun w9 F9 S9 s => R.mv rfl) ?_
      refine SL.nil ?_
      refine SN.seq ?_
      refine SG.block ?_
      refine SG.imp (Imp.ownNil 56 2) ?_
      refine SG.imp (Imp.pure (p := fun w => ∀ o ∈ ([] : List WriteV), Bs w o.B'a o.B'n o.B') (fun w => by simp)) ?_
      refine SG.loop (X := ApS) (fun y => [(0, .pointer (some ⟨d, 0, none⟩)), (6, .pointer (some ⟨xx, 0, none⟩)), (8, .slice y.a y.ws.length y.c), (46, .slice pa ps.length pc), (47, .int .i64 (ps.length : Int)), (48, .int .i64 (y.i : Int))]) (fun y => [own 56 2 y.a (y.ws.length) y.c (cellsW y.ws), sh (fun w => ∀ o ∈ y.ws, Bs w o.B'a o.B'n o.B'), fz xx [.int .i64 (q.blocks : Int), .int .u64 (q.old : Int), .int .u64 (q.new : Int), .slice pa ps.length pc] 75, sh (fun w => Cells w pa (cellsP ps) ∧ ∀ k ∈ ps, PartV.ok w k), sh (fun w => DiskL w d g e cur ps0 x)]) (fun y => y.i ≤ ps.length ∧ y.ws.length = y.i ∧ y.ws.map wv = (q.parts.take y.i).map (undoW x)) (fun y => ps.length - y.i) (⟨0, [], none, 0⟩) (Sub.cons rfl (Sub.cons rfl (Sub.cons rfl (Sub.cons rfl (Sub.cons rfl (Sub.cons rfl (Sub.nil _))))))) ((Imp.sels (by repeat (first | exact Sels.nil | apply Sels.cons | exact Sel.keep | exact Sel.here | apply Sel.there)))) (⟨Nat.zero_le _, rfl, rfl⟩) ?_
      rintro ⟨i, ws, a8, c8⟩ ⟨hi, hwi, hws⟩
      dsimp only at hi hwi hws
      show SG _ _ _ _ _ [(0, .pointer (some ⟨d, 0, none⟩)), (6, .pointer (some ⟨xx, 0, none⟩)), (8, .slice a8 ws.length c8), (46, .slice pa ps.length pc), (47, .int .i64 (ps.length : Int)), (48, .int .i64 (i : Int))] [own 56 2 a8 (ws.length) c8 (cellsW ws), sh (fun w => ∀ o ∈ ws, Bs w o.B'a o.B'n o.B'), fz xx [.int .i64 (q.blocks : Int), .int .u64 (q.old : Int), .int .u64 (q.new : Int), .slice pa ps.length pc] 75, sh (fun w => Cells w pa (cellsP ps) ∧ ∀ k ∈ ps, PartV.ok w k), sh (fun w => DiskL w d g e cur ps0 x)] _
      refine SG.seq ?_
      refine SG.region ?_
      refine SL.val rfl rfl (fun w9 F9 S9 s => R.lss rfl rfl) ?_
      refine SL.nil ?_
      refine SN.seq ?_
      refine SG.seq ?_
      refine SG.condP rfl (fun h3 => ?_) (fun h3 => ?_)
      · obtain ⟨p, hp⟩ : ∃ p, ps[i]? = some p := ⟨_, List.getElem?_eq_getElem (by omega)⟩
        have hpm := List.mem_of_getElem? hp
        refine SG.fact (fun w9 F9 S9 s => parts_pt (s.sh (p := (fun w => Cells w pa (cellsP ps) ∧ ∀ k ∈ ps, PartV.ok w k)) (by repeat (first | exact Sel.keep | exact Sel.here | apply Sel.there))).1 hp) (fun hf9 => ?_)
        obtain ⟨q0, hq0⟩ := hf9
        refine SG.fact (fun w9 F9 S9 s => ((s.sh (p := (fun w => Cells w pa (cellsP ps) ∧ ∀ k ∈ ps, PartV.ok w k)) (by repeat (first | exact Sel.keep | exact Sel.here | apply Sel.there))).2 p hpm).1) (fun hf9 => ?_)
        have hpo := hf9; clear hf9
        refine SG.fact (fun w9 F9 S9 s => ((s.sh (p := (fun w => Cells w pa (cellsP ps) ∧ ∀ k ∈ ps, PartV.ok w k)) (by repeat (first | exact Sel.keep | exact Sel.here | apply Sel.there))).2 p hpm).2.len) (fun hf9 => ?_)
        have hpl := hf9; clear hf9
        have hqp : q.parts[i]? = some (p.k, p.d) := by rw [← hps, List.getElem?_map, hp]; rfl
        obtain ⟨hg1, hg2, hg3⟩ := hall _ (List.mem_of_getElem? hqp)
        dsimp only at hg1 hg2 hg3
        refine SG.imp (Imp.weak (p := (fun w => Cells w pa (cellsP ps) ∧ ∀ k ∈ ps, PartV.ok w k)) (q := fun w => Bs w p.a p.n p.d) (by repeat (first | exact Sel.keep | exact Sel.here | apply Sel.there)) (fun w h => (h.2 p hpm).2)) ?_
        refine SG.skip ?_
        refine SN.seq ?_
        refine SG.seq ?_
        refine SG.block ?_
        refine SG.seq ?_
        refine SG.region ?_
        refine SL.val rfl rfl (fun w9 F9 S9 s => R.idx rfl rfl (by omega) (by omega) q0 hq0) ?_
        refine SL.val rfl rfl (fun w9 F9 S9 s => R.ldN (vs := PartV.cells p) rfl (parts_ld (s.sh (p := (fun w => Cells w pa (cellsP ps) ∧ ∀ k ∈ ps, PartV.ok w k)) (by repeat (first | exact Sel.keep | exact Sel.here | apply Sel.there))).1 hq0 hp) rfl) ?_
        refine SL.step rfl rfl (CS.alloc [.int .i64 0, .slice none 0 0] rfl) ?_
        rintro _ _ ⟨b10, rfl, rfl⟩
        refine SL.step0 rfl (CS.stA (vs := PartV.cells p) rfl rfl (by repeat (first | exact Sel.keep | exact Sel.here | apply Sel.there)) (by rfl) (by rfl) (by intro u hu; simp only [PartV.cells, List.mem_cons, List.not_mem_nil, or_false] at hu; rcases hu with rfl | rfl <;> rfl)) ?_
        rintro _ _ rfl
        refine SL.nil ?_
        refine SN.seq ?_
        refine SG.seq ?_
        refine SG.region ?_
        refine SL.val rfl rfl (fun w9 F9 S9 s => R.mv rfl) ?_
        refine SL.val rfl rfl (fun w9 F9 S9 s => R.fld rfl) ?_
        refine SL.val rfl rfl (fun w9 F9 S9 s => R.ldB (v := .int .i64 (p.k : Int)) rfl (s.cel (by repeat (first | exact SelB.blk | exact SelB.fz | apply SelB.there))) (by rfl)) ?_
        refine SL.step rfl rfl (CS.call rfl go27 (igetS d g e cur ps0 x p.k (by omega)) (by repeat (first | exact Sels.nil | apply Sels.cons | exact Sel.keep | exact Sel.here | apply Sel.there))) ?_
        rintro _ _ ⟨_, ⟨a11, c11, rfl, rfl, rfl⟩, rfl⟩
        refine SL.n2 ?_
        refine SL.imp (Imp.ownBs (show Sel _ (own 5 1 a11 64 c11 (vbs (Image.blk x p.k))) _ from (by repeat (first | exact Sel.keep | exact Sel.here | apply Sel.there)))) ?_
        refine SL.val rfl rfl (fun w9 F9 S9 s => R.mv rfl) ?_
        refine SL.val rfl rfl (fun w9 F9 S9 s => R.ext rfl rfl) ?_
        refine SL.val rfl rfl (fun w9 F9 S9 s => R.ext rfl rfl) ?_
        refine SL.val rfl rfl (fun w9 F9 S9 s => R.as rfl) ?_
        refine SL.val rfl rfl (fun w9 F9 S9 s => R.as rfl) ?_
        refine SL.nil ?_
        refine SN.seq ?_
        refine SG.seq ?_
        refine SG.region ?_
        refine SL.val rfl rfl (fun w9 F9 S9 s => R.mv rfl) ?_
        refine SL.val rfl rfl (fun w9 F9 S9 s => R.fld rfl) ?_
        refine SL.val rfl rfl (fun w9 F9 S9 s => R.ldB (v := .slice p.a p.n p.c) rfl (s.cel (by repeat (first | exact SelB.blk | exact SelB.fz | apply SelB.there))) (by rfl)) ?_
        refine SL.step rfl rfl (CS.call rfl go32 (undoS a11 64 c11 (Image.blk x p.k) p.a p.n p.c p.d (by decide) hpo.1 (by omega) hg1 hg2) (by repeat (first | exact Sels.nil | apply Sels.cons | exact Sel.keep | exact Sel.here | apply Sel.there))) ?_
        rintro _ _ ⟨_, ⟨a13, c13, rfl, rfl, rfl⟩, rfl⟩
        refine SL.n1 ?_
        refine SL.imp (Imp.ownBs (show Sel _ (own 5 1 a13 64 c13 (vbs (laidF (Image.blk x p.k) (growF 64 p.d).1))) _ from (by repeat (first | exact Sel.keep | exact Sel.here | apply Sel.there)))) ?_
        refine SL.val rfl rfl (fun w9 F9 S9 s => R.mv rfl) ?_
        refine SL.val rfl rfl (fun w9 F9 S9 s => R.ext rfl rfl) ?_
        refine SL.val rfl rfl (fun w9 F9 S9 s => R.ext rfl rfl) ?_
        refine SL.val rfl rfl (fun w9 F9 S9 s => R.as rfl) ?_
        refine SL.val rfl rfl (fun w9 F9 S9 s => R.as rfl) ?_
        refine SL.nil ?_
        refine SN.seq ?_
        refine SG.region ?_
        refine SL.val rfl rfl (fun w9 F9 S9 s => R.mv rfl) ?_
        refine SL.val rfl rfl (fun w9 F9 S9 s => R.fld rfl) ?_
        refine SL.val rfl rfl (fun w9 F9 S9 s => R.ldB (v := .int .i64 (p.k : Int)) rfl (s.cel (by repeat (first | exact SelB.blk | exact SelB.fz | apply SelB.there))) (by rfl)) ?_
        refine SL.val rfl rfl (fun w9 F9 S9 s => R.mv rfl) ?_
        refine SL.val rfl rfl (fun w9 F9 S9 s => R.build (cs := (WriteV.cells (⟨(p.k : Int), a13, 64, c13, laidF (Image.blk x p.k) (growF 64 p.d).1⟩ : WriteV)).toArray) rfl rfl) ?_
        refine SL.step rfl rfl (CS.buildA rfl rfl rfl rfl rfl (cellsW [(⟨(p.k : Int), a13, 64, c13, laidF (Image.blk x p.k) (growF 64 p.d).1⟩ : WriteV)]) rfl) ?_
        rintro _ _ ⟨b71, rfl, rfl⟩
        refine SL.step rfl rfl (CS.app rfl rfl (show Sel _ (own 56 2 a8 (ws.length) c8 (cellsW ws)) _ from (by repeat (first | exact Sel.keep | exact Sel.here | apply Sel.there))) (fun w9 F9 S9 s => s.blkC (show Sel _ (blk b71 (cellsW [(⟨(p.k : Int), a13, 64, c13, laidF (Image.blk x p.k) (growF 64 p.d).1⟩ : WriteV)]) _) _ from (by repeat (first | exact Sel.keep | exact Sel.here | apply Sel.there)))) rfl (cellsW_one _) (by unfold maxLen; omega) (by omega)) ?_
        rintro _ _ ⟨a72, c72, rfl, rfl⟩
        refine SL.val rfl rfl (fun w9 F9 S9 s => R.as rfl) ?_
        refine SL.nil ?_
        refine SN.imp (Imp.both (p := (fun w => ∀ o ∈ ws, Bs w o.B'a o.B'n o.B')) (q := fun w => Bs w a13 64 (laidF (Image.blk x p.k) (growF 64 p.d).1)) (by repeat (first | exact Sel.keep | exact Sel.here | apply Sel.there)) (by repeat (first | exact Sel.keep | exact Sel.here | apply Sel.there))) ?_
        refine SN.imp (Imp.weak (p := fun w => (∀ o ∈ ws, Bs w o.B'a o.B'n o.B') ∧ Bs w a13 64 (laidF (Image.blk x p.k) (growF 64 p.d).1)) (q := (fun w => ∀ o ∈ (ws ++ [(⟨(p.k : Int), a13, 64, c13, laidF (Image.blk x p.k) (growF 64 p.d).1⟩ : WriteV)]), Bs w o.B'a o.B'n o.B')) (by repeat (first | exact Sel.keep | exact Sel.here | apply Sel.there)) (fun w hw k hk => (List.mem_append.1 hk).elim (hw.1 k) (fun h9 => by rw [List.mem_singleton.1 h9]; exact hw.2))) ?_
        refine SN.be 8 rfl (show Value.slice a72 (ws.length + 1) c72 = .slice a72 (ws ++ [(⟨(p.k : Int), a13, 64, c13, laidF (Image.blk x p.k) (growF 64 p.d).1⟩ : WriteV)]).length c72 by rw [List.length_append]; rfl) ?_
        refine SN.block ?_
        refine SN.seq ?_
        refine SG.region ?_
        refine SL.val rfl rfl (fun w9 F9 S9 s => R.add rfl rfl (by omega)) ?_
        refine SL.val rfl rfl (fun w9 F9 S9 s => R.mv rfl) ?_
        refine SL.nil ?_
        exact SN.again (⟨i + 1, ws ++ [(⟨(p.k : Int), a13, 64, c13, laidF (Image.blk x p.k) (growF 64 p.d).1⟩ : WriteV)], a72, c72⟩) (by show ps.length - (i + 1) < ps.length - i; omega) (Sub.cons rfl (Sub.cons rfl (Sub.cons rfl (Sub.cons rfl (Sub.cons rfl (Sub.cons rfl (Sub.nil _))))))) ((show Imp _ _ by dsimp only; rw [List.length_append, cellsW_append]; exact (Imp.sels (by repeat (first | exact Sels.nil | apply Sels.cons | exact Sel.keep | exact Sel.here | apply Sel.there))))) (⟨by show i + 1 ≤ ps.length; omega, by show (ws ++ [(⟨(p.k : Int), a13, 64, c13, laidF (Image.blk x p.k) (growF 64 p.d).1⟩ : WriteV)]).length = i + 1; rw [List.length_append, hwi]; rfl, by show (ws ++ [(⟨(p.k : Int), a13, 64, c13, laidF (Image.blk x p.k) (growF 64 p.d).1⟩ : WriteV)]).map wv = _; rw [List.map_append, hws, List.take_add_one, hqp, List.map_append]; rfl⟩)
      · obtain rfl : i = ps.length := by omega
        rw [hpsl, List.take_length] at hws
        refine SG.imp (Imp.ownSh (show Sel _ (own 56 2 a8 (ws.length) c8 (cellsW ws)) _ from (by repeat (first | exact Sel.keep | exact Sel.here | apply Sel.there))) (p := fun w => Cells w a8 (cellsW ws)) (fun w h => h)) ?_
        refine SG.exit _ rfl ?_
        refine SN.seq ?_
        refine SG.seq ?_
        refine SG.region ?_
        refine SL.val rfl rfl (fun w9 F9 S9 s => R.mv rfl) ?_
        refine SL.val rfl rfl (fun w9 F9 S9 s => R.mv rfl) ?_
        refine SL.step rfl rfl (CS.callP rfl go21 (fun w9 F9 S9 s => iwithP d x a8 ws.length c8 ws w9 ⟨g, e, cur, ps0, (s.sh (p := fun w => DiskL w d g e cur ps0 x) (by repeat (first | exact Sel.keep | exact Sel.here | apply Sel.there)))⟩ (tabW (s.sh (p := fun w => Cells w a8 (cellsW ws)) (by repeat (first | exact Sel.keep | exact Sel.here | apply Sel.there))) rfl) (s.sh (p := (fun w => ∀ o ∈ ws, Bs w o.B'a o.B'n o.B')) (by repeat (first | exact Sel.keep | exact Sel.here | apply Sel.there))) (by omega) (by rw [hws]; exact hw0))) ?_
        rintro _ _ ⟨_, ⟨d2, g2, e2, cur2, ps2, rfl, rfl⟩, rfl⟩
        rw [hws]
        refine SL.val rfl rfl (fun w9 F9 S9 s => R.mv rfl) ?_
        refine SL.val rfl rfl (fun w9 F9 S9 s => R.ext rfl rfl) ?_
        refine SL.val rfl rfl (fun w9 F9 S9 s => R.ext rfl rfl) ?_
        refine SL.val rfl rfl (fun w9 F9 S9 s => R.as rfl) ?_
        refine SL.val rfl rfl (fun w9 F9 S9 s => R.as rfl) ?_
        refine SL.nil ?_
        refine SN.seq ?_
        refine SG.seq ?_
        refine SG.seq ?_
        refine SG.draw [4] [0, 1, 2, 3, 5, 6, 7, 8, 4, 9, 10] (by decide +kernel) rfl ?_
        refine SW.pure rfl rfl rfl rfl (fun w9 => R.mv rfl) ?_
        refine SW.pure rfl rfl rfl rfl (fun w9 => R.neI rfl rfl) ?_
        refine SW.pure rfl rfl rfl rfl (fun w9 => R.mv rfl) ?_
        refine SW.isF 82 rfl (decide_eq_false (by decide)) ?_
        refine SW.pure rfl rfl rfl rfl (fun w9 => R.mv rfl) ?_
        refine SW.pure rfl rfl rfl rfl (fun w9 => R.mv rfl) ?_
        refine SW.pure rfl rfl rfl rfl (fun w9 => R.nilChk rfl) ?_
        refine SW.pure rfl rfl rfl rfl (fun w9 => R.fld rfl) ?_
        refine SW.read rfl rfl rfl rfl (fun w9 F9 S9 s => R.ldB (v := .int .u64 (q.new : Int)) rfl (s.fz (show Sel _ (fz xx [.int .i64 (q.blocks : Int), .int .u64 (q.old : Int), .int .u64 (q.new : Int), .slice pa ps.length pc] 75) _ from (by repeat (first | exact Sel.keep | exact Sel.here | apply Sel.there)))) (by rfl)) ?_
        refine SW.step rfl rfl rfl rfl (CS.call rfl go26 (droot_ok d2 g2 e2 cur2 ps2 (Image.withF x (q.parts.map (undoW x))).1) (by repeat (first | exact Sels.nil | apply Sels.cons | exact Sel.keep | exact Sel.here | apply Sel.there))) ?_
        rintro _ _ ⟨_, ⟨rfl, rfl⟩, rfl⟩
        refine ⟨⟨.inr (fun w9 F9 S9 s => R.ldB (v := .int .u64 (q.new : Int)) rfl (s.fz (show Sel _ (fz xx [.int .i64 (q.blocks : Int), .int .u64 (q.old : Int), .int .u64 (q.new : Int), .slice pa ps.length pc] 75) _ from (by repeat (first | exact Sel.keep | exact Sel.here | apply Sel.there)))) (by rfl)), trivial⟩, ?_⟩
        refine SW.n0 ?_
        refine SW.pure rfl rfl rfl rfl (fun w9 => R.neI rfl rfl) ?_
        first | refine SW.pure rfl rfl rfl rfl (fun w9 => R.pickT rfl rfl) ?_ | refine SW.pure rfl rfl rfl rfl (fun w9 => R.pickF rfl rfl) ?_
        refine SW.nil ?_
        refine SN.seq ?_
        refine SG.condP rfl (fun h4 => ?_) (fun h4 => ?_)
        · have hA : applyF rootD x l = ([], 53) := by rw [hAF, if_pos (by omega)]
          refine SG.seq ?_
          refine SG.region ?_
          refine SL.val rfl rfl (fun w9 F9 S9 s => R.as rfl) ?_
          refine SL.val rfl rfl (fun w9 F9 S9 s => R.as rfl) ?_
          refine SL.nil ?_
          refine SN.seq ?_
          exact SG.ret2 rfl rfl rfl ((Imp.sels (by repeat (first | exact Sels.nil | apply Sels.cons | exact Sel.keep | exact Sel.here | apply Sel.there)))) (by rw [hA])
        · have hA : applyF rootD x l = ((Image.withF x (q.parts.map (undoW x))).1, 0) := by rw [hAF, if_neg (by omega)]
          rw [hA] at he
          exact absurd rfl he

set_option maxHeartbeats 2000000 in
theorem apply_yes (d g e : Nat) (cur : Array Value) (ps0 : List Nat) (x : List UInt8) (a : Option Addr) (n c : Nat) (l : List UInt8) (q : Pat) (w : World) (hd : DiskL w d g e cur ps0 x) (hb : Bs w a n l) (hc : n ≤ c) (hn : n ≤ 1000000) (hpf : parseF l = some q) (he : (applyF rootD x l).2 = 0) : Meets Try.prog 9 [.pointer (some ⟨d, 0, none⟩), .slice a n c] w (fun v w' => ∃ p : World → Prop, (∃ d2 g2 e2 cur2 ps2, v = .tuple #[.pointer (some ⟨d2, 0, none⟩), .int .i64 0] ∧ p = fun w => DiskL w d2 g2 e2 cur2 ps2 (applyF rootD x l).1) ∧ Ext [] w w' ∧ ∀ w'', Ext [] w' w'' → p w'') := by
  refine Meets.lawP (φ := fun v p => ∃ d2 g2 e2 cur2 ps2, v = .tuple #[.pointer (some ⟨d2, 0, none⟩), .int .i64 0] ∧ p = fun w => DiskL w d2 g2 e2 cur2 ps2 (applyF rootD x l).1) Try.func9 rfl 92 rfl (Nat.le_of_ble_eq_true rfl) (law_cons (p := fun w => DiskL w d g e cur ps0 x) (fun w9 he => hd.ext0 he) (law_bs (hb) (law_nil w))) ?_
  refine SG.fact (fun w9 F9 S9 s => (s.sh (p := fun w => DiskL w d g e cur ps0 x) (by repeat (first | exact Sel.keep | exact Sel.here | apply Sel.there))).pos) (fun hf9 => ?_)
  have hpos := hf9; clear hf9
  refine SG.fact (fun w9 F9 S9 s => (s.sh (p := fun w => DiskL w d g e cur ps0 x) (by repeat (first | exact Sel.keep | exact Sel.here | apply Sel.there))).le) (fun hf9 => ?_)
  have hle := hf9; clear hf9
  refine SG.fact (fun w9 F9 S9 s => (s.sh (p := fun w => DiskL w d g e cur ps0 x) (by repeat (first | exact Sel.keep | exact Sel.here | apply Sel.there))).len) (fun hf9 => ?_)
  have hxl := hf9; clear hf9
  have hdx : Image.dn x = x.length / 64 := rfl
  obtain ⟨hrt, hb1, hb64⟩ := parse_some hpf
  have hfew := parts_few hpf
  have hall := right_all hrt
  have hAF : applyF rootD x l = if 64 * q.blocks ≠ x.length then ([], 20) else if q.old ≠ rootD x then ([], 52) else if rootD (Image.withF x (q.parts.map (undoW x))).1 ≠ q.new then ([], 53) else ((Image.withF x (q.parts.map (undoW x))).1, 0) := by unfold applyF; rw [hpf]
  refine SG.seq ?_
  refine SG.region ?_
  refine SL.val rfl rfl (fun w9 F9 S9 s => R.as rfl) ?_
  refine SL.val rfl rfl (fun w9 F9 S9 s => R.as rfl) ?_
  refine SL.nil ?_
  refine SN.seq ?_
  refine SG.seq ?_
  refine SG.seq ?_
  refine SG.region ?_
  refine SL.val rfl rfl (fun w9 F9 S9 s => R.mv rfl) ?_
  refine SL.val rfl rfl (fun w9 F9 S9 s => R.eqNilP rfl rfl) ?_
  refine SL.nil ?_
  refine SN.seq ?_
  refine SG.condF rfl ?_
  refine SG.skip ?_
  refine SN.seq ?_
  refine SG.seq ?_
  refine SG.region ?_
  refine SL.val rfl rfl (fun w9 F9 S9 s => R.mv rfl) ?_
  refine SL.step rfl rfl (CS.call rfl go31 (parse_yes a n c l q hc hn hpf) (by repeat (first | exact Sels.nil | apply Sels.cons | exact Sel.keep | exact Sel.here | apply Sel.there))) ?_
  rintro _ _ ⟨_, ⟨xx, pa, pc, ps, rfl, hps, rfl, rfl⟩, rfl⟩
  refine SL.n2 ?_
  refine SL.val rfl rfl (fun w9 F9 S9 s => R.mv rfl) ?_
  refine SL.val rfl rfl (fun w9 F9 S9 s => R.ext rfl rfl) ?_
  refine SL.val rfl rfl (fun w9 F9 S9 s => R.ext rfl rfl) ?_
  refine SL.val rfl rfl (fun w9 F9 S9 s => R.as rfl) ?_
  refine SL.val rfl rfl (fun w9 F9 S9 s => R.as rfl) ?_
  refine SL.nil ?_
  have hpsl : ps.length = q.parts.length := by rw [← hps, List.length_map]
  refine SN.seq ?_
  refine SG.seq ?_
  refine SG.block ?_
  refine SG.seq ?_
  refine SG.draw [8] [0, 1, 2, 3, 4, 5, 6, 7, 8, 9, 10, 11] (by decide +kernel) rfl ?_
  refine SW.pure rfl rfl rfl rfl (fun w9 => R.mv rfl) ?_
  refine SW.pure rfl rfl rfl rfl (fun w9 => R.neI rfl rfl) ?_
  refine SW.pure rfl rfl rfl rfl (fun w9 => R.mv rfl) ?_
  refine SW.isF 26 rfl (decide_eq_false (by decide)) ?_
  refine SW.pure rfl rfl rfl rfl (fun w9 => R.mv rfl) ?_
  refine SW.pure rfl rfl rfl rfl (fun w9 => R.nilChk rfl) ?_
  refine SW.pure rfl rfl rfl rfl (fun w9 => R.fld rfl) ?_
  refine SW.read rfl rfl rfl rfl (fun w9 F9 S9 s => R.ldB (v := .int .i64 (q.blocks : Int)) rfl (s.fz (show Sel _ (fz xx [.int .i64 (q.blocks : Int), .int .u64 (q.old : Int), .int .u64 (q.new : Int), .slice pa ps.length pc] 75) _ from (by repeat (first | exact Sel.keep | exact Sel.here | apply Sel.there)))) (by rfl)) ?_
  refine SW.pure rfl rfl rfl rfl (fun w9 => R.mv rfl) ?_
  refine SW.step rfl rfl rfl rfl (CS.callR rfl go13 (fun w9 F9 S9 s => iblocksE (some ⟨d, 0, none⟩) x w9 (disk_o (s.sh (p := fun w => DiskL w d g e cur ps0 x) (by repeat (first | exact Sel.keep | exact Sel.here | apply Sel.there)))))) ?_
  rintro _ _ ⟨rfl, rfl⟩
  refine ⟨⟨.inr (fun w9 F9 S9 s => R.ldB (v := .int .i64 (q.blocks : Int)) rfl (s.fz (show Sel _ (fz xx [.int .i64 (q.blocks : Int), .int .u64 (q.old : Int), .int .u64 (q.new : Int), .slice pa ps.length pc] 75) _ from (by repeat (first | exact Sel.keep | exact Sel.here | apply Sel.there)))) (by rfl)), trivial⟩, ?_⟩
  refine SW.pure rfl rfl rfl rfl (fun w9 => R.neI rfl rfl) ?_
  first | refine SW.pure rfl rfl rfl rfl (fun w9 => R.pickT rfl rfl) ?_ | refine SW.pure rfl rfl rfl rfl (fun w9 => R.pickF rfl rfl) ?_
  refine SW.pure rfl rfl rfl rfl (fun w9 => R.as rfl) ?_
  refine SW.nil ?_
  refine SN.seq ?_
  refine SG.condP rfl (fun h1 => ?_) (fun h1 => ?_)
  · have hA : applyF rootD x l = ([], 20) := by rw [hAF, if_pos (by omega)]
    rw [hA] at he
    exact absurd he (by decide)
  · have hbx : q.blocks = Image.dn x := by omega
    rw [if_neg (by omega)] at hAF
    have hin := undo_in hpf hbx
    have hw0 := with_ok hxl hin
    have hwl := Image.withF_length (x := x) hw0
    refine SG.seq ?_
    refine SG.draw [5] [0, 1, 2, 3, 4, 5, 6, 7] (by decide +kernel) rfl ?_
    refine SW.pure rfl rfl rfl rfl (fun w9 => R.mv rfl) ?_
    refine SW.pure rfl rfl rfl rfl (fun w9 => R.nilChk rfl) ?_
    refine SW.pure rfl rfl rfl rfl (fun w9 => R.fld rfl) ?_
    refine SW.read rfl rfl rfl rfl (fun w9 F9 S9 s => R.ldB (v := .int .u64 (q.old : Int)) rfl (s.fz (show Sel _ (fz xx [.int .i64 (q.blocks : Int), .int .u64 (q.old : Int), .int .u64 (q.new : Int), .slice pa ps.length pc] 75) _ from (by repeat (first | exact Sel.keep | exact Sel.here | apply Sel.there)))) (by rfl)) ?_
    refine SW.pure rfl rfl rfl rfl (fun w9 => R.mv rfl) ?_
    refine SW.step rfl rfl rfl rfl (CS.call rfl go26 (droot_ok d g e cur ps0 x) (by repeat (first | exact Sels.nil | apply Sels.cons | exact Sel.keep | exact Sel.here | apply Sel.there))) ?_
    rintro _ _ ⟨_, ⟨rfl, rfl⟩, rfl⟩
    refine ⟨⟨.inr (fun w9 F9 S9 s => R.ldB (v := .int .u64 (q.old : Int)) rfl (s.fz (show Sel _ (fz xx [.int .i64 (q.blocks : Int), .int .u64 (q.old : Int), .int .u64 (q.new : Int), .slice pa ps.length pc] 75) _ from (by repeat (first | exact Sel.keep | exact Sel.here | apply Sel.there)))) (by rfl)), trivial⟩, ?_⟩
    refine SW.n0 ?_
    refine SW.pure rfl rfl rfl rfl (fun w9 => R.neI rfl rfl) ?_
    refine SW.pure rfl rfl rfl rfl (fun w9 => R.as rfl) ?_
    refine SW.nil ?_
    refine SN.seq ?_
    refine SG.condP rfl (fun h2 => ?_) (fun h2 => ?_)
    · have hA : applyF rootD x l = ([], 52) := by rw [hAF, if_pos (by omega)]
      rw [hA] at he
      exact absurd he (by decide)
    · rw [if_neg (by omega)] at hAF
      refine SG.skip ?_
      refine SN.block ?_
      refine SN.seq ?_
      refine SG.seq ?_
      refine SG.region ?_
      refine SL.val rfl rfl (fun w9 F9 S9 s => R.as rfl) ?_
      refine SL.nil ?_
      refine SN.seq ?_
      refine SG.seq ?_
      refine SG.seq ?_
      refine SG.region ?_
      refine SL.val rfl rfl (fun w9 F9 S9 s => R.mv rfl) ?_
      refine SL.val rfl rfl (fun w9 F9 S9 s => R.nilChk rfl) ?_
      refine SL.val rfl rfl (fun w9 F9 S9 s => R.fld rfl) ?_
      refine SL.val rfl rfl (fun w9 F9 S9 s => R.ldB (v := .slice pa ps.length pc) rfl (s.fz (show Sel _ (fz xx [.int .i64 (q.blocks : Int), .int .u64 (q.old : Int), .int .u64 (q.new : Int), .slice pa ps.length pc] 75) _ from (by repeat (first | exact Sel.keep | exact Sel.here | apply Sel.there)))) (by rfl)) ?_
      refine SL.val rfl rfl (fun w9 F9 S9 s => R.lenS rfl) ?_
      refine SL.val rfl rfl (fun w9 F9 S9 s => R.mv rfl) ?_
      refine SL.nil ?_
      refine SN.seq ?_
      refine SG.block ?_
      refine SG.imp (Imp.ownNil 56 2) ?_
      refine SG.imp (Imp.pure (p := fun w => ∀ o ∈ ([] : List WriteV), Bs w o.B'a o.B'n o.B') (fun w => by simp)) ?_
      refine SG.loop (X := ApS) (fun y => [(0, .pointer (some ⟨d, 0, none⟩)), (6, .pointer (some ⟨xx, 0, none⟩)), (8, .slice y.a y.ws.length y.c), (46, .slice pa ps.length pc), (47, .int .i64 (ps.length : Int)), (48, .int .i64 (y.i : Int))]) (fun y => [own 56 2 y.a (y.ws.length) y.c (cellsW y.ws), sh (fun w => ∀ o ∈ y.ws, Bs w o.B'a o.B'n o.B'), fz xx [.int .i64 (q.blocks : Int), .int .u64 (q.old : Int), .int .u64 (q.new : Int), .slice pa ps.length pc] 75, sh (fun w => Cells w pa (cellsP ps) ∧ ∀ k ∈ ps, PartV.ok w k), sh (fun w => DiskL w d g e cur ps0 x)]) (fun y => y.i ≤ ps.length ∧ y.ws.length = y.i ∧ y.ws.map wv = (q.parts.take y.i).map (undoW x)) (fun y => ps.length - y.i) (⟨0, [], none, 0⟩) (Sub.cons rfl (Sub.cons rfl (Sub.cons rfl (Sub.cons rfl (Sub.cons rfl (Sub.cons rfl (Sub.nil _))))))) ((Imp.sels (by repeat (first | exact Sels.nil | apply Sels.cons | exact Sel.keep | exact Sel.here | apply Sel.there)))) (⟨Nat.zero_le _, rfl, rfl⟩) ?_
      rintro ⟨i, ws, a8, c8⟩ ⟨hi, hwi, hws⟩
      dsimp only at hi hwi hws
      show SG _ _ _ _ _ [(0, .pointer (some ⟨d, 0, none⟩)), (6, .pointer (some ⟨xx, 0, none⟩)), (8, .slice a8 ws.length c8), (46, .slice pa ps.length pc), (47, .int .i64 (ps.length : Int)), (48, .int .i64 (i : Int))] [own 56 2 a8 (ws.length) c8 (cellsW ws), sh (fun w => ∀ o ∈ ws, Bs w o.B'a o.B'n o.B'), fz xx [.int .i64 (q.blocks : Int), .int .u64 (q.old : Int), .int .u64 (q.new : Int), .slice pa ps.length pc] 75, sh (fun w => Cells w pa (cellsP ps) ∧ ∀ k ∈ ps, PartV.ok w k), sh (fun w => DiskL w d g e cur ps0 x)] _
      refine SG.seq ?_
      refine SG.region ?_
      refine SL.val rfl rfl (fun w9 F9 S9 s => R.lss rfl rfl) ?_
      refine SL.nil ?_
      refine SN.seq ?_
      refine SG.seq ?_
      refine SG.condP rfl (fun h3 => ?_) (fun h3 => ?_)
      · obtain ⟨p, hp⟩ : ∃ p, ps[i]? = some p := ⟨_, List.getElem?_eq_getElem (by omega)⟩
        have hpm := List.mem_of_getElem? hp
        refine SG.fact (fun w9 F9 S9 s => parts_pt (s.sh (p := (fun w => Cells w pa (cellsP ps) ∧ ∀ k ∈ ps, PartV.ok w k)) (by repeat (first | exact Sel.keep | exact Sel.here | apply Sel.there))).1 hp) (fun hf9 => ?_)
        obtain ⟨q0, hq0⟩ := hf9
        refine SG.fact (fun w9 F9 S9 s => ((s.sh (p := (fun w => Cells w pa (cellsP ps) ∧ ∀ k ∈ ps, PartV.ok w k)) (by repeat (first | exact Sel.keep | exact Sel.here | apply Sel.there))).2 p hpm).1) (fun hf9 => ?_)
        have hpo := hf9; clear hf9
        refine SG.fact (fun w9 F9 S9 s => ((s.sh (p := (fun w => Cells w pa (cellsP ps) ∧ ∀ k ∈ ps, PartV.ok w k)) (by repeat (first | exact Sel.keep | exact Sel.here | apply Sel.there))).2 p hpm).2.len) (fun hf9 => ?_)
        have hpl := hf9; clear hf9
        have hqp : q.parts[i]? = some (p.k, p.d) := by rw [← hps, List.getElem?_map, hp]; rfl
        obtain ⟨hg1, hg2, hg3⟩ := hall _ (List.mem_of_getElem? hqp)
        dsimp only at hg1 hg2 hg3
        refine SG.imp (Imp.weak (p := (fun w => Cells w pa (cellsP ps) ∧ ∀ k ∈ ps, PartV.ok w k)) (q := fun w => Bs w p.a p.n p.d) (by repeat (first | exact Sel.keep | exact Sel.here | apply Sel.there)) (fun w h => (h.2 p hpm).2)) ?_
        refine SG.skip ?_
        refine SN.seq ?_
        refine SG.seq ?_
        refine SG.block ?_
        refine SG.seq ?_
        refine SG.region ?_
        refine SL.val rfl rfl (fun w9 F9 S9 s => R.idx rfl rfl (by omega) (by omega) q0 hq0) ?_
        refine SL.val rfl rfl (fun w9 F9 S9 s => R.ldN (vs := PartV.cells p) rfl (parts_ld (s.sh (p := (fun w => Cells w pa (cellsP ps) ∧ ∀ k ∈ ps, PartV.ok w k)) (by repeat (first | exact Sel.keep | exact Sel.here | apply Sel.there))).1 hq0 hp) rfl) ?_
        refine SL.step rfl rfl (CS.alloc [.int .i64 0, .slice none 0 0] rfl) ?_
        rintro _ _ ⟨b10, rfl, rfl⟩
        refine SL.step0 rfl (CS.stA (vs := PartV.cells p) rfl rfl (by repeat (first | exact Sel.keep | exact Sel.here | apply Sel.there)) (by rfl) (by rfl) (by intro u hu; simp only [PartV.cells, List.mem_cons, List.not_mem_nil, or_false] at hu; rcases hu with rfl | rfl <;> rfl)) ?_
        rintro _ _ rfl
        refine SL.nil ?_
        refine SN.seq ?_
        refine SG.seq ?_
        refine SG.region ?_
        refine SL.val rfl rfl (fun w9 F9 S9 s => R.mv rfl) ?_
        refine SL.val rfl rfl (fun w9 F9 S9 s => R.fld rfl) ?_
        refine SL.val rfl rfl (fun w9 F9 S9 s => R.ldB (v := .int .i64 (p.k : Int)) rfl (s.cel (by repeat (first | exact SelB.blk | exact SelB.fz | apply SelB.there))) (by rfl)) ?_
        refine SL.step rfl rfl (CS.call rfl go27 (igetS d g e cur ps0 x p.k (by omega)) (by repeat (first | exact Sels.nil | apply Sels.cons | exact Sel.keep | exact Sel.here | apply Sel.there))) ?_
        rintro _ _ ⟨_, ⟨a11, c11, rfl, rfl, rfl⟩, rfl⟩
        refine SL.n2 ?_
        refine SL.imp (Imp.ownBs (show Sel _ (own 5 1 a11 64 c11 (vbs (Image.blk x p.k))) _ from (by repeat (first | exact Sel.keep | exact Sel.here | apply Sel.there)))) ?_
        refine SL.val rfl rfl (fun w9 F9 S9 s => R.mv rfl) ?_
        refine SL.val rfl rfl (fun w9 F9 S9 s => R.ext rfl rfl) ?_
        refine SL.val rfl rfl (fun w9 F9 S9 s => R.ext rfl rfl) ?_
        refine SL.val rfl rfl (fun w9 F9 S9 s => R.as rfl) ?_
        refine SL.val rfl rfl (fun w9 F9 S9 s => R.as rfl) ?_
        refine SL.nil ?_
        refine SN.seq ?_
        refine SG.seq ?_
        refine SG.region ?_
        refine SL.val rfl rfl (fun w9 F9 S9 s => R.mv rfl) ?_
        refine SL.val rfl rfl (fun w9 F9 S9 s => R.fld rfl) ?_
        refine SL.val rfl rfl (fun w9 F9 S9 s => R.ldB (v := .slice p.a p.n p.c) rfl (s.cel (by repeat (first | exact SelB.blk | exact SelB.fz | apply SelB.there))) (by rfl)) ?_
        refine SL.step rfl rfl (CS.call rfl go32 (undoS a11 64 c11 (Image.blk x p.k) p.a p.n p.c p.d (by decide) hpo.1 (by omega) hg1 hg2) (by repeat (first | exact Sels.nil | apply Sels.cons | exact Sel.keep | exact Sel.here | apply Sel.there))) ?_
        rintro _ _ ⟨_, ⟨a13, c13, rfl, rfl, rfl⟩, rfl⟩
        refine SL.n1 ?_
        refine SL.imp (Imp.ownBs (show Sel _ (own 5 1 a13 64 c13 (vbs (laidF (Image.blk x p.k) (growF 64 p.d).1))) _ from (by repeat (first | exact Sel.keep | exact Sel.here | apply Sel.there)))) ?_
        refine SL.val rfl rfl (fun w9 F9 S9 s => R.mv rfl) ?_
        refine SL.val rfl rfl (fun w9 F9 S9 s => R.ext rfl rfl) ?_
        refine SL.val rfl rfl (fun w9 F9 S9 s => R.ext rfl rfl) ?_
        refine SL.val rfl rfl (fun w9 F9 S9 s => R.as rfl) ?_
        refine SL.val rfl rfl (fun w9 F9 S9 s => R.as rfl) ?_
        refine SL.nil ?_
        refine SN.seq ?_
        refine SG.region ?_
        refine SL.val rfl rfl (fun w9 F9 S9 s => R.mv rfl) ?_
        refine SL.val rfl rfl (fun w9 F9 S9 s => R.fld rfl) ?_
        refine SL.val rfl rfl (fun w9 F9 S9 s => R.ldB (v := .int .i64 (p.k : Int)) rfl (s.cel (by repeat (first | exact SelB.blk | exact SelB.fz | apply SelB.there))) (by rfl)) ?_
        refine SL.val rfl rfl (fun w9 F9 S9 s => R.mv rfl) ?_
        refine SL.val rfl rfl (fun w9 F9 S9 s => R.build (cs := (WriteV.cells (⟨(p.k : Int), a13, 64, c13, laidF (Image.blk x p.k) (growF 64 p.d).1⟩ : WriteV)).toArray) rfl rfl) ?_
        refine SL.step rfl rfl (CS.buildA rfl rfl rfl rfl rfl (cellsW [(⟨(p.k : Int), a13, 64, c13, laidF (Image.blk x p.k) (growF 64 p.d).1⟩ : WriteV)]) rfl) ?_
        rintro _ _ ⟨b71, rfl, rfl⟩
        refine SL.step rfl rfl (CS.app rfl rfl (show Sel _ (own 56 2 a8 (ws.length) c8 (cellsW ws)) _ from (by repeat (first | exact Sel.keep | exact Sel.here | apply Sel.there))) (fun w9 F9 S9 s => s.blkC (show Sel _ (blk b71 (cellsW [(⟨(p.k : Int), a13, 64, c13, laidF (Image.blk x p.k) (growF 64 p.d).1⟩ : WriteV)]) _) _ from (by repeat (first | exact Sel.keep | exact Sel.here | apply Sel.there)))) rfl (cellsW_one _) (by unfold maxLen; omega) (by omega)) ?_
        rintro _ _ ⟨a72, c72, rfl, rfl⟩
        refine SL.val rfl rfl (fun w9 F9 S9 s => R.as rfl) ?_
        refine SL.nil ?_
        refine SN.imp (Imp.both (p := (fun w => ∀ o ∈ ws, Bs w o.B'a o.B'n o.B')) (q := fun w => Bs w a13 64 (laidF (Image.blk x p.k) (growF 64 p.d).1)) (by repeat (first | exact Sel.keep | exact Sel.here | apply Sel.there)) (by repeat (first | exact Sel.keep | exact Sel.here | apply Sel.there))) ?_
        refine SN.imp (Imp.weak (p := fun w => (∀ o ∈ ws, Bs w o.B'a o.B'n o.B') ∧ Bs w a13 64 (laidF (Image.blk x p.k) (growF 64 p.d).1)) (q := (fun w => ∀ o ∈ (ws ++ [(⟨(p.k : Int), a13, 64, c13, laidF (Image.blk x p.k) (growF 64 p.d).1⟩ : WriteV)]), Bs w o.B'a o.B'n o.B')) (by repeat (first | exact Sel.keep | exact Sel.here | apply Sel.there)) (fun w hw k hk => (List.mem_append.1 hk).elim (hw.1 k) (fun h9 => by rw [List.mem_singleton.1 h9]; exact hw.2))) ?_
        refine SN.be 8 rfl (show Value.slice a72 (ws.length + 1) c72 = .slice a72 (ws ++ [(⟨(p.k : Int), a13, 64, c13, laidF (Image.blk x p.k) (growF 64 p.d).1⟩ : WriteV)]).length c72 by rw [List.length_append]; rfl) ?_
        refine SN.block ?_
        refine SN.seq ?_
        refine SG.region ?_
        refine SL.val rfl rfl (fun w9 F9 S9 s => R.add rfl rfl (by omega)) ?_
        refine SL.val rfl rfl (fun w9 F9 S9 s => R.mv rfl) ?_
        refine SL.nil ?_
        exact SN.again (⟨i + 1, ws ++ [(⟨(p.k : Int), a13, 64, c13, laidF (Image.blk x p.k) (growF 64 p.d).1⟩ : WriteV)], a72, c72⟩) (by show ps.length - (i + 1) < ps.length - i; omega) (Sub.cons rfl (Sub.cons rfl (Sub.cons rfl (Sub.cons rfl (Sub.cons rfl (Sub.cons rfl (Sub.nil _))))))) ((show Imp _ _ by dsimp only; rw [List.length_append, cellsW_append]; exact (Imp.sels (by repeat (first | exact Sels.nil | apply Sels.cons | exact Sel.keep | exact Sel.here | apply Sel.there))))) (⟨by show i + 1 ≤ ps.length; omega, by show (ws ++ [(⟨(p.k : Int), a13, 64, c13, laidF (Image.blk x p.k) (growF 64 p.d).1⟩ : WriteV)]).length = i + 1; rw [List.length_append, hwi]; rfl, by show (ws ++ [(⟨(p.k : Int), a13, 64, c13, laidF (Image.blk x p.k) (growF 64 p.d).1⟩ : WriteV)]).map wv = _; rw [List.map_append, hws, List.take_add_one, hqp, List.map_append]; rfl⟩)
      · obtain rfl : i = ps.length := by omega
        rw [hpsl, List.take_length] at hws
        refine SG.imp (Imp.ownSh (show Sel _ (own 56 2 a8 (ws.length) c8 (cellsW ws)) _ from (by repeat (first | exact Sel.keep | exact Sel.here | apply Sel.there))) (p := fun w => Cells w a8 (cellsW ws)) (fun w h => h)) ?_
        refine SG.exit _ rfl ?_
        refine SN.seq ?_
        refine SG.seq ?_
        refine SG.region ?_
        refine SL.val rfl rfl (fun w9 F9 S9 s => R.mv rfl) ?_
        refine SL.val rfl rfl (fun w9 F9 S9 s => R.mv rfl) ?_
        refine SL.step rfl rfl (CS.callP rfl go21 (fun w9 F9 S9 s => iwithP d x a8 ws.length c8 ws w9 ⟨g, e, cur, ps0, (s.sh (p := fun w => DiskL w d g e cur ps0 x) (by repeat (first | exact Sel.keep | exact Sel.here | apply Sel.there)))⟩ (tabW (s.sh (p := fun w => Cells w a8 (cellsW ws)) (by repeat (first | exact Sel.keep | exact Sel.here | apply Sel.there))) rfl) (s.sh (p := (fun w => ∀ o ∈ ws, Bs w o.B'a o.B'n o.B')) (by repeat (first | exact Sel.keep | exact Sel.here | apply Sel.there))) (by omega) (by rw [hws]; exact hw0))) ?_
        rintro _ _ ⟨_, ⟨d2, g2, e2, cur2, ps2, rfl, rfl⟩, rfl⟩
        rw [hws]
        refine SL.val rfl rfl (fun w9 F9 S9 s => R.mv rfl) ?_
        refine SL.val rfl rfl (fun w9 F9 S9 s => R.ext rfl rfl) ?_
        refine SL.val rfl rfl (fun w9 F9 S9 s => R.ext rfl rfl) ?_
        refine SL.val rfl rfl (fun w9 F9 S9 s => R.as rfl) ?_
        refine SL.val rfl rfl (fun w9 F9 S9 s => R.as rfl) ?_
        refine SL.nil ?_
        refine SN.seq ?_
        refine SG.seq ?_
        refine SG.seq ?_
        refine SG.draw [4] [0, 1, 2, 3, 5, 6, 7, 8, 4, 9, 10] (by decide +kernel) rfl ?_
        refine SW.pure rfl rfl rfl rfl (fun w9 => R.mv rfl) ?_
        refine SW.pure rfl rfl rfl rfl (fun w9 => R.neI rfl rfl) ?_
        refine SW.pure rfl rfl rfl rfl (fun w9 => R.mv rfl) ?_
        refine SW.isF 82 rfl (decide_eq_false (by decide)) ?_
        refine SW.pure rfl rfl rfl rfl (fun w9 => R.mv rfl) ?_
        refine SW.pure rfl rfl rfl rfl (fun w9 => R.mv rfl) ?_
        refine SW.pure rfl rfl rfl rfl (fun w9 => R.nilChk rfl) ?_
        refine SW.pure rfl rfl rfl rfl (fun w9 => R.fld rfl) ?_
        refine SW.read rfl rfl rfl rfl (fun w9 F9 S9 s => R.ldB (v := .int .u64 (q.new : Int)) rfl (s.fz (show Sel _ (fz xx [.int .i64 (q.blocks : Int), .int .u64 (q.old : Int), .int .u64 (q.new : Int), .slice pa ps.length pc] 75) _ from (by repeat (first | exact Sel.keep | exact Sel.here | apply Sel.there)))) (by rfl)) ?_
        refine SW.step rfl rfl rfl rfl (CS.call rfl go26 (droot_ok d2 g2 e2 cur2 ps2 (Image.withF x (q.parts.map (undoW x))).1) (by repeat (first | exact Sels.nil | apply Sels.cons | exact Sel.keep | exact Sel.here | apply Sel.there))) ?_
        rintro _ _ ⟨_, ⟨rfl, rfl⟩, rfl⟩
        refine ⟨⟨.inr (fun w9 F9 S9 s => R.ldB (v := .int .u64 (q.new : Int)) rfl (s.fz (show Sel _ (fz xx [.int .i64 (q.blocks : Int), .int .u64 (q.old : Int), .int .u64 (q.new : Int), .slice pa ps.length pc] 75) _ from (by repeat (first | exact Sel.keep | exact Sel.here | apply Sel.there)))) (by rfl)), trivial⟩, ?_⟩
        refine SW.n0 ?_
        refine SW.pure rfl rfl rfl rfl (fun w9 => R.neI rfl rfl) ?_
        first | refine SW.pure rfl rfl rfl rfl (fun w9 => R.pickT rfl rfl) ?_ | refine SW.pure rfl rfl rfl rfl (fun w9 => R.pickF rfl rfl) ?_
        refine SW.nil ?_
        refine SN.seq ?_
        refine SG.condP rfl (fun h4 => ?_) (fun h4 => ?_)
        · have hA : applyF rootD x l = ([], 53) := by rw [hAF, if_pos (by omega)]
          rw [hA] at he
          exact absurd he (by decide)
        · have hA : applyF rootD x l = ((Image.withF x (q.parts.map (undoW x))).1, 0) := by rw [hAF, if_neg (by omega)]
          refine SG.skip ?_
          refine SN.seq ?_
          refine SG.seq ?_
          refine SG.region ?_
          refine SL.val rfl rfl (fun w9 F9 S9 s => R.mv rfl) ?_
          refine SL.val rfl rfl (fun w9 F9 S9 s => R.as rfl) ?_
          refine SL.val rfl rfl (fun w9 F9 S9 s => R.as rfl) ?_
          refine SL.nil ?_
          refine SN.seq ?_
          exact SG.ret2 rfl rfl rfl ((show Imp _ [sh (fun w => DiskL w d2 g2 e2 cur2 ps2 (Image.withF x (q.parts.map (undoW x))).1)] from (Imp.sels (by repeat (first | exact Sels.nil | apply Sels.cons | exact Sel.keep | exact Sel.here | apply Sel.there))))) (⟨_, ⟨d2, g2, e2, cur2, ps2, rfl, rfl⟩, by rw [hA]⟩)

end Go.Proofs.Yteaihincmfbblaa
