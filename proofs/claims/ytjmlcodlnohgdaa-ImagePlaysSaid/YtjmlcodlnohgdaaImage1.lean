/-
  The walks of package image.
-/
import Derived.Test.YtjmlcodlnohgdaaImagePure
import Derived.Test.YtjmlcodlnohgdaaStd3
set_option linter.unusedVariables false
set_option linter.unusedSimpArgs false
namespace Go.Proofs.Ytjmlcodlnohgdaa
open Go Brv Brv.Image
/-- The blocks of a disk. -/
structure Blks (w : World) (ps : List Nat) (x : List UInt8) : Prop where
  len : ps.length = dn x
  each : ∀ k (h : k < ps.length), Blk w ps[k] (vbs (blk x k)).toArray 123 (0, 0)
theorem Blks.ext0 {w w' : World} {ps : List Nat} {x : List UInt8} (h : Blks w ps x) (he : Ext [] w w') : Blks w' ps x := ⟨h.len, fun k hk => (h.each k hk).ext0 he⟩
theorem Blks.ext {w w' : World} {ps : List Nat} {x : List UInt8} {M : List Nat} (h : Blks w ps x) (he : Ext M w w') (hM : ∀ g ∈ M, ∃ cs, Blk w g cs 118 (0, 0)) : Blks w' ps x :=
  ⟨h.len, fun k hk => (h.each k hk).ext he (fun hm => let ⟨_, hb⟩ := hM _ hm; (h.each k hk).ne hb (by decide) rfl)⟩
structure DiskL (w : World) (d g c : Nat) (cur : Array Value) (ps : List Nat) (x : List UInt8) : Prop where
  hd : Blk w d #[.slice (some ⟨g, 0, none⟩) (dn x) c] 121 (0, 0)
  len : x.length = 64 * dn x
  pos : 1 ≤ dn x
  le : dn x ≤ 64
  hg : Blk w g cur 118 (0, 0)
  ht : cur.toList.take (dn x) = ps.map ptr
  hb : Blks w ps x
theorem DiskL.ext {w w' : World} {d g c : Nat} {cur : Array Value} {ps : List Nat} {x : List UInt8} {M : List Nat} (h : DiskL w d g c cur ps x) (he : Ext M w w') (hM : ∀ y ∈ d :: g :: ps, y ∉ M) : DiskL w' d g c cur ps x :=
  ⟨h.hd.ext he (hM d (by simp)), h.len, h.pos, h.le, h.hg.ext he (hM g (by simp)), h.ht, h.hb.len, fun k hk => (h.hb.each k hk).ext he (hM _ (by simp [List.getElem_mem]))⟩
theorem DiskL.ext0 {w w' : World} {d g c : Nat} {cur : Array Value} {ps : List Nat} {x : List UInt8} (h : DiskL w d g c cur ps x) (he : Ext [] w w') : DiskL w' d g c cur ps x := h.ext he (by simp)
theorem DiskL.lt {w : World} {d g c : Nat} {cur : Array Value} {ps : List Nat} {x : List UInt8} (h : DiskL w d g c cur ps x) : ∀ y ∈ d :: g :: ps, y < w.heap.size := by
  intro y hy
  rcases List.mem_cons.1 hy with rfl | hy
  · exact h.hd.lt
  rcases List.mem_cons.1 hy with rfl | hy
  · exact h.hg.lt
  obtain ⟨k, hk, rfl⟩ := List.mem_iff_getElem.1 hy
  exact (h.hb.each k hk).lt
theorem DiskL.ptr {w : World} {d g c : Nat} {cur : Array Value} {ps : List Nat} {x : List UInt8} (h : DiskL w d g c cur ps x) {k : Nat} (hk : k < dn x) : ∃ z, cur[k]? = some (Brv.ptr z) ∧ Blk w z (vbs (blk x k)).toArray 123 (0, 0) := by
  have hl := h.hb.len
  refine ⟨ps[k]'(by omega), ?_, h.hb.each k (by omega)⟩
  have e := congrArg (fun l : List Value => l[k]?) h.ht
  simp only [List.getElem?_take, if_pos hk, List.getElem?_map, Array.getElem?_toList] at e
  rw [e, List.getElem?_eq_getElem (show k < ps.length by omega)]
  rfl
theorem DiskL.cells {w : World} {d g c : Nat} {cur : Array Value} {ps : List Nat} {x : List UInt8} (h : DiskL w d g c cur ps x) : Cells w (some ⟨g, 0, none⟩) (ps.map Brv.ptr) :=
  Cells.of_blk h.hg 0 _ (fun j v hj => by
    rw [← h.ht, List.getElem?_take] at hj
    split at hj
    · simpa using hj
    · cases hj)
def DiskAt (w : World) (d : Nat) (x : List UInt8) : Prop := ∃ g c cur ps, DiskL w d g c cur ps x
theorem DiskAt.ext0 {w w' : World} {d : Nat} {x : List UInt8} (h : DiskAt w d x) (he : Ext [] w w') : DiskAt w' d x := by
  obtain ⟨g, c, cur, ps, h⟩ := h
  exact ⟨g, c, cur, ps, h.ext0 he⟩
/-- A new disk, that is written yet. -/
def OwnDisk (w : World) (s d : Nat) (x : List UInt8) : Prop := ∃ a c ps M, Blk w d #[.slice a (dn x) c] 121 (0, 0) ∧ s ≤ d ∧ x.length = 64 * dn x ∧ 1 ≤ dn x ∧ dn x ≤ 64 ∧ Own w 118 1 a (dn x) c (ps.map ptr) M ∧ (∀ g ∈ M, s ≤ g) ∧ Blks w ps x
theorem OwnDisk.at {w : World} {s d : Nat} {x : List UInt8} (h : OwnDisk w s d x) : DiskAt w d x := by
  obtain ⟨a, c, ps, M, h1, _, h2, h3, h4, ho, _, h5⟩ := h
  rcases ho.2 with ⟨_, h0, _, _⟩ | ⟨g, cur, rfl, _, hb, _, _, _, ht⟩
  · omega
  · rw [Nat.mul_one] at ht
    exact ⟨g, c, cur, ps, h1, h2, h3, h4, hb, ht, h5⟩
/-- A disk, or none. -/
def DiskO (w : World) (d : Option Addr) (x : List UInt8) : Prop := (d = none ∧ x = []) ∨ ∃ b, d = some ⟨b, 0, none⟩ ∧ DiskAt w b x
theorem DiskO.ext0 {w w' : World} {d : Option Addr} {x : List UInt8} (h : DiskO w d x) (he : Ext [] w w') : DiskO w' d x := h.imp id (fun ⟨b, h1, h2⟩ => ⟨b, h1, h2.ext0 he⟩)
theorem DiskAt.len {w : World} {b : Nat} {x : List UInt8} (h : DiskAt w b x) : x.length = 64 * dn x ∧ dn x ≤ 64 ∧ 1 ≤ dn x := by
  obtain ⟨g, c, cur, ps, h⟩ := h
  exact ⟨h.len, h.le, h.pos⟩
theorem DiskO.len {w : World} {d : Option Addr} {x : List UInt8} (h : DiskO w d x) : x.length = 64 * dn x ∧ dn x ≤ 64 := by
  rcases h with ⟨_, rfl⟩ | ⟨b, _, h⟩
  · exact ⟨rfl, by decide⟩
  · exact ⟨h.len.1, h.len.2.1⟩
theorem DiskO.no {w : World} : DiskO w Option.none [] := .inl ⟨rfl, rfl⟩
theorem DiskAt.o {w : World} {d : Nat} {x : List UInt8} (h : DiskAt w d x) : DiskO w (some ⟨d, 0, Option.none⟩) x := .inr ⟨d, rfl, h⟩
theorem DiskO.nil {w : World} {x : List UInt8} (h : DiskO w Option.none x) : x = [] := by
  rcases h with ⟨_, h⟩ | ⟨b, h, _⟩
  · exact h
  · cases h
theorem DiskO.got {w : World} {d : Option Addr} {x : List UInt8} (h : DiskO w d x) (hd : d.isNone = false) : ∃ b, d = some ⟨b, 0, Option.none⟩ ∧ DiskAt w b x := by
  rcases h with ⟨rfl, _⟩ | h
  · cases hd
  · exact h
theorem DiskO.pos {w : World} {d : Option Addr} {x : List UInt8} (h : DiskO w d x) (hd : 0 < dn x) : ∃ b, d = some ⟨b, 0, Option.none⟩ ∧ DiskAt w b x := by
  rcases h with ⟨_, rfl⟩ | h
  · exact absurd hd (by decide)
  · exact h

theorem izero_ok  (w : World) : Meets Try.prog 72 [] w (fun v w' => ∃ z, v = ptr z ∧ w.heap.size ≤ z ∧ Ext [] w w' ∧ Blk w' z (vbs (List.replicate 64 (0 : UInt8))).toArray 123 (0, 0)) := by
  refine Meets.enter Try.func72 rfl 2 rfl (Nat.le_of_ble_eq_true rfl) ?_
  refine G.seq ?_
  refine G.region ?_
  refine L.val rfl rfl (R.as rfl) ?_
  refine L.nil ?_
  refine N.seq ?_
  refine G.seq ?_
  refine G.region ?_
  refine L.do rfl rfl (R.alloc) ?_
  rintro _ w1 ⟨z, rfl, hz, hs1, e1, Z⟩
  refine L.val rfl rfl (R.as rfl) ?_
  refine L.nil ?_
  refine N.seq ?_
  refine G.ret1 rfl rfl ?_
  exact ⟨z, rfl, by omega, e1, Z⟩

theorem inew_ok (n : Nat) (w : World) (h1 : 1 ≤ n) (h2 : n ≤ 64) : Meets Try.prog 17 [.int .i64 (n : Int)] w (fun v w' => ∃ d, v = .tuple #[ptr d, .int .i64 0] ∧ Ext [] w w' ∧ OwnDisk w' w.heap.size d (List.replicate (64 * n) 0)) := by
  refine Meets.enter Try.func17 rfl 16 rfl (Nat.le_of_ble_eq_true rfl) ?_
  have E := Ext.refl [] w
  refine G.seq ?_
  refine G.region ?_
  refine L.val rfl rfl (R.as rfl) ?_
  refine L.val rfl rfl (R.as rfl) ?_
  refine L.nil ?_
  refine N.seq ?_
  refine G.seq ?_
  refine G.seq ?_
  refine G.region ?_
  refine L.val rfl rfl (R.mv rfl) ?_
  refine L.val rfl rfl (R.lss rfl rfl) ?_
  refine L.val rfl rfl (R.mv rfl) ?_
  refine L.caseP 6 rfl (fun hg1_2 => ?_) (fun hg1_2 => ?_)
  · exfalso; omega
  · refine L.val rfl rfl (R.mv rfl) ?_
    refine L.val rfl rfl (R.gtr rfl rfl) ?_
    first | refine L.val rfl rfl (R.pickT rfl rfl) ?_ | refine L.val rfl rfl (R.pickF rfl rfl) ?_
    refine L.nil ?_
    refine N.seq ?_
    refine G.condP rfl (fun h0 => ?_) (fun h0 => ?_)
    · exfalso; omega
    · refine G.skip ?_
      refine N.seq ?_
      refine G.seq ?_
      refine G.region ?_
      refine L.callF rfl rfl rfl go72 (izero_ok _) ?_
      rintro _ w1 ⟨z, rfl, hz, e1, Z⟩
      have hE0 := E
      replace E := E.trans0 e1
      refine L.do rfl rfl (R.buildA rfl rfl rfl rfl rfl) ?_
      rintro _ w2 ⟨b11, rfl, hb11, hs11, e2, B11⟩
      replace E := E.trans0 e2
      replace Z := Z.ext0 e2
      refine L.val rfl rfl (R.mv rfl) ?_
      refine L.callF rfl rfl rfl go71 (prepeat_ok (some ⟨b11, 0, none⟩) 1 (ptr z) n _ (Cells.of_blk B11 0 _ (fun j v hj => by cases j with | zero => exact hj | succ j => simp at hj)) rfl (by omega) (by omega)) ?_
      rintro _ w3 ⟨a, c, M, rfl, e3, o3, hM3⟩
      have hE2 := E.size
      replace E := E.trans0 e3
      replace Z := Z.ext0 e3
      refine L.val rfl rfl (R.build (cs := #[.slice a n c]) rfl rfl) ?_
      refine L.do rfl rfl (R.box rfl) ?_
      rintro _ w4 ⟨d, rfl, hd, hs4, e4, B4⟩
      have hE3 := E.size
      replace E := E.trans0 e4
      replace Z := Z.ext0 e4
      replace o3 := o3.ext0 e4
      refine L.val rfl rfl (R.as rfl) ?_
      refine L.val rfl rfl (R.as rfl) ?_
      refine L.nil ?_
      refine N.seq ?_
      refine G.ret2 rfl rfl rfl ?_
      exact ⟨d, rfl, E, a, c, List.replicate n z, M, by rw [dn_zero]; exact B4, by omega, by rw [dn_zero]; simp, by rw [dn_zero]; omega, by rw [dn_zero]; omega, by rw [dn_zero, List.map_replicate]; exact o3, fun g hg => Nat.le_trans hE2 (hM3 g hg), by rw [dn_zero]; simp, fun k hk => by rw [List.getElem_replicate, blk_zero (by simpa using hk)]; exact Z⟩

theorem inew_err (n : Int) (w : World) (h : ¬ (1 ≤ n ∧ n ≤ 64)) : Meets Try.prog 17 [.int .i64 n] w (fun v w' => v = .tuple #[.pointer none, .int .i64 2] ∧ w' = w) := by
  refine Meets.enter Try.func17 rfl 16 rfl (Nat.le_of_ble_eq_true rfl) ?_
  refine G.seq ?_
  refine G.region ?_
  refine L.val rfl rfl (R.as rfl) ?_
  refine L.val rfl rfl (R.as rfl) ?_
  refine L.nil ?_
  refine N.seq ?_
  refine G.seq ?_
  refine G.seq ?_
  refine G.region ?_
  refine L.val rfl rfl (R.mv rfl) ?_
  refine L.val rfl rfl (R.lss rfl rfl) ?_
  refine L.val rfl rfl (R.mv rfl) ?_
  refine L.caseP 6 rfl (fun hg1_2 => ?_) (fun hg1_2 => ?_)
  · refine L.pass rfl rfl ?_
    refine L.pass rfl rfl ?_
    first | refine L.val rfl rfl (R.pickT rfl rfl) ?_ | refine L.val rfl rfl (R.pickF rfl rfl) ?_
    refine L.nil ?_
    refine N.seq ?_
    refine G.condT rfl ?_
    refine G.seq ?_
    refine G.region ?_
    refine L.val rfl rfl (R.as rfl) ?_
    refine L.val rfl rfl (R.as rfl) ?_
    refine L.nil ?_
    refine N.seq ?_
    refine G.ret2 rfl rfl rfl ?_
    exact ⟨rfl, rfl⟩
  · refine L.val rfl rfl (R.mv rfl) ?_
    refine L.val rfl rfl (R.gtr rfl rfl) ?_
    first | refine L.val rfl rfl (R.pickT rfl rfl) ?_ | refine L.val rfl rfl (R.pickF rfl rfl) ?_
    refine L.nil ?_
    refine N.seq ?_
    refine G.condP rfl (fun h0 => ?_) (fun h0 => ?_)
    · refine G.seq ?_
      refine G.region ?_
      refine L.val rfl rfl (R.as rfl) ?_
      refine L.val rfl rfl (R.as rfl) ?_
      refine L.nil ?_
      refine N.seq ?_
      refine G.ret2 rfl rfl rfl ?_
      exact ⟨rfl, rfl⟩
    · exfalso; omega

theorem iblocks_ok (d : Option Addr) (x : List UInt8) (w : World) (hd : DiskO w d x) : Meets Try.prog 20 [.pointer d] w (fun v w' => v = .int .i64 (dn x : Int) ∧ w' = w) := by
  refine Meets.enter Try.func20 rfl 10 rfl (Nat.le_of_ble_eq_true rfl) ?_
  refine G.seq ?_
  refine G.region ?_
  refine L.val rfl rfl (R.as rfl) ?_
  refine L.nil ?_
  refine N.seq ?_
  refine G.seq ?_
  refine G.seq ?_
  refine G.region ?_
  refine L.val rfl rfl (R.mv rfl) ?_
  refine L.val rfl rfl (R.eqNilP rfl rfl) ?_
  refine L.nil ?_
  refine N.seq ?_
  refine G.condB rfl (fun h0 => ?_) (fun h0 => ?_)
  · obtain rfl : d = none := by simpa using h0
    obtain rfl := hd.nil
    refine G.seq ?_
    refine G.region ?_
    refine L.val rfl rfl (R.as rfl) ?_
    refine L.nil ?_
    refine N.seq ?_
    refine G.ret1 rfl rfl ?_
    exact ⟨rfl, rfl⟩
  · obtain ⟨b, rfl, g, c, cur, ps, D⟩ := hd.got (by simpa using h0)
    refine G.skip ?_
    refine N.seq ?_
    refine G.seq ?_
    refine G.region ?_
    refine L.val rfl rfl (R.mv rfl) ?_
    refine L.val rfl rfl (R.nilChk rfl) ?_
    refine L.val rfl rfl (R.fld rfl) ?_
    refine L.val rfl rfl (R.ldB rfl D.hd rfl) ?_
    refine L.val rfl rfl (R.lenS rfl) ?_
    refine L.val rfl rfl (R.as rfl) ?_
    refine L.nil ?_
    refine N.seq ?_
    refine G.ret1 rfl rfl ?_
    exact ⟨rfl, rfl⟩

theorem iget_ok (d : Nat) (x : List UInt8) (k : Int) (w : World) (hd : DiskAt w d x) : Meets Try.prog 18 [.pointer (some ⟨d, 0, none⟩), .int .i64 k] w (fun v w' => ∃ a c M, v = .tuple #[.slice a (getB x k).length c, .int .i64 (if okK x k then 0 else 41)] ∧ Ext [] w w' ∧ Own w' 5 1 a (getB x k).length c (vbs (getB x k)) M ∧ ∀ g ∈ M, w.heap.size ≤ g) := by
  refine Meets.enter Try.func18 rfl 31 rfl (Nat.le_of_ble_eq_true rfl) ?_
  have E := Ext.refl [] w
  obtain ⟨g, c, cur, ps, D⟩ := hd
  refine G.seq ?_
  refine G.region ?_
  refine L.val rfl rfl (R.as rfl) ?_
  refine L.val rfl rfl (R.as rfl) ?_
  refine L.nil ?_
  refine N.seq ?_
  refine G.seq ?_
  refine G.block ?_
  refine G.seq ?_
  refine G.region ?_
  refine L.val rfl rfl (R.mv rfl) ?_
  refine L.val rfl rfl (R.eqNilP rfl rfl) ?_
  refine L.val rfl rfl (R.as rfl) ?_
  refine L.nil ?_
  refine N.seq ?_
  refine G.condF rfl ?_
  refine G.seq ?_
  refine G.region ?_
  refine L.val rfl rfl (R.mv rfl) ?_
  refine L.val rfl rfl (R.lss rfl rfl) ?_
  refine L.val rfl rfl (R.mv rfl) ?_
  refine L.caseP 12 rfl (fun hg3_2 => ?_) (fun hg3_2 => ?_)
  · refine L.pass rfl rfl ?_
    refine L.pass rfl rfl ?_
    refine L.pass rfl rfl ?_
    refine L.pass rfl rfl ?_
    refine L.pass rfl rfl ?_
    refine L.pass rfl rfl ?_
    refine L.pass rfl rfl ?_
    first | refine L.val rfl rfl (R.pickT rfl rfl) ?_ | refine L.val rfl rfl (R.pickF rfl rfl) ?_
    refine L.val rfl rfl (R.as rfl) ?_
    refine L.nil ?_
    refine N.seq ?_
    refine G.condT rfl ?_
    refine G.seq ?_
    refine G.region ?_
    refine L.val rfl rfl (R.as rfl) ?_
    refine L.val rfl rfl (R.as rfl) ?_
    refine L.nil ?_
    refine N.seq ?_
    refine G.ret2 rfl rfl rfl ?_
    (rw [if_neg (fun h => by have := h.1; omega), show getB x k = [] from if_neg (fun h => by have := h.1; omega)]; exact ⟨none, 0, [], rfl, E, Own.nil _ _ _, by simp⟩)
  · refine L.val rfl rfl (R.mv rfl) ?_
    refine L.val rfl rfl (R.mv rfl) ?_
    refine L.val rfl rfl (R.nilChk rfl) ?_
    refine L.val rfl rfl (R.fld rfl) ?_
    refine L.val rfl rfl (R.ldB rfl D.hd rfl) ?_
    refine L.val rfl rfl (R.lenS rfl) ?_
    refine L.val rfl rfl (R.geq rfl rfl) ?_
    first | refine L.val rfl rfl (R.pickT rfl rfl) ?_ | refine L.val rfl rfl (R.pickF rfl rfl) ?_
    refine L.val rfl rfl (R.as rfl) ?_
    refine L.nil ?_
    refine N.seq ?_
    refine G.condP rfl (fun h1 => ?_) (fun h1 => ?_)
    · refine G.seq ?_
      refine G.region ?_
      refine L.val rfl rfl (R.as rfl) ?_
      refine L.val rfl rfl (R.as rfl) ?_
      refine L.nil ?_
      refine N.seq ?_
      refine G.ret2 rfl rfl rfl ?_
      (rw [if_neg (fun h => by have := h.2; omega), show getB x k = [] from if_neg (fun h => by have := h.2; omega)]; exact ⟨none, 0, [], rfl, E, Own.nil _ _ _, by simp⟩)
    · have hok : okK x k := ⟨by omega, by omega⟩
      obtain ⟨j, rfl⟩ := Int.eq_ofNat_of_zero_le hok.1
      have hj : j < dn x := by have := hok.2; omega
      obtain ⟨z, hz, hbj⟩ := D.ptr hj
      have hbs := Bs.of_blk hbj (blk x j) (by simp) 64 (blk_length hj).symm
      refine G.skip ?_
      refine N.block ?_
      refine N.seq ?_
      refine G.seq ?_
      refine G.region ?_
      refine L.val rfl rfl (R.mv rfl) ?_
      refine L.val rfl rfl (R.nilChk rfl) ?_
      refine L.val rfl rfl (R.fld rfl) ?_
      refine L.val rfl rfl (R.ldB rfl D.hd rfl) ?_
      refine L.val rfl rfl (R.mv rfl) ?_
      refine L.val rfl rfl (R.idx rfl rfl (by omega) (by omega) _ rfl) ?_
      refine L.val rfl rfl (R.ld rfl (v := ptr z) (by rw [Go.Addr.add_lit]; simpa using (D.hg.cell j).trans hz)) ?_
      refine L.val rfl rfl (R.nilChk rfl) ?_
      refine L.val rfl rfl (R.slA rfl) ?_
      refine L.callF rfl rfl rfl go73 (bclone_ok _ _ _ _ _ hbs (by decide)) ?_
      rintro _ w1 ⟨a1, c1, M1, rfl, e1, o1, hM1⟩
      replace E := E.trans0 e1
      refine L.val rfl rfl (R.as rfl) ?_
      refine L.val rfl rfl (R.as rfl) ?_
      refine L.nil ?_
      refine N.seq ?_
      refine G.ret2 rfl rfl rfl ?_
      (rw [if_pos hok, show getB x (j : Int) = blk x j from if_pos hok, blk_length hj]; exact ⟨a1, c1, M1, rfl, E, o1, hM1⟩)

theorem iget_nil (k : Int) (w : World) : Meets Try.prog 18 [.pointer none, .int .i64 k] w (fun v w' => v = .tuple #[.slice none 0 0, .int .i64 1] ∧ w' = w) := by
  refine Meets.enter Try.func18 rfl 31 rfl (Nat.le_of_ble_eq_true rfl) ?_
  refine G.seq ?_
  refine G.region ?_
  refine L.val rfl rfl (R.as rfl) ?_
  refine L.val rfl rfl (R.as rfl) ?_
  refine L.nil ?_
  refine N.seq ?_
  refine G.seq ?_
  refine G.block ?_
  refine G.seq ?_
  refine G.region ?_
  refine L.val rfl rfl (R.mv rfl) ?_
  refine L.val rfl rfl (R.eqNilP rfl rfl) ?_
  refine L.val rfl rfl (R.as rfl) ?_
  refine L.nil ?_
  refine N.seq ?_
  refine G.condT rfl ?_
  refine G.seq ?_
  refine G.region ?_
  refine L.val rfl rfl (R.as rfl) ?_
  refine L.val rfl rfl (R.as rfl) ?_
  refine L.nil ?_
  refine N.seq ?_
  refine G.ret2 rfl rfl rfl ?_
  exact ⟨rfl, rfl⟩

end Go.Proofs.Ytjmlcodlnohgdaa
