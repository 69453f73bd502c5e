/-
  Texts of this claim, put together.
-/
import Derived.Test.YtiggahlnplaciaaDigPLz1
/-
  Functions of the library, at slices of pointers.
-/
set_option linter.unusedVariables false
namespace Go.Proofs.Ytiggahlnplaciaa
open Go Brv
theorem prepeat_ok (a : Option Addr) (c : Nat) (x : Value) (k : Nat) (w : World) (hb : Cells w a [x]) (hone : x.oneCell' = true) (hk0 : 1 ≤ k) (hk : k ≤ 8192) : Meets Try.prog 30 [.slice a 1 c, .int .i64 k] w (Cloned w 59 1 k (List.replicate k x)) := by
  refine Meets.enter Try.func30 rfl 48 rfl (Nat.le_of_ble_eq_true rfl) ?_
  refine G.seq ?_
  refine G.region ?_
  refine L.val rfl rfl (R.as rfl) ?_
  refine L.nil ?_
  refine N.seq ?_
  refine G.seq ?_
  refine G.seq ?_
  refine G.region ?_
  refine L.val rfl rfl (R.mv rfl) ?_
  refine L.val rfl rfl (R.lss rfl rfl) ?_
  refine L.nil ?_
  refine N.seq ?_
  refine G.condP rfl (fun h0 => ?_) (fun h0 => ?_)
  · exfalso; omega
  · refine G.skip ?_
    refine N.seq ?_
    refine G.seq ?_
    refine G.region ?_
    refine L.val rfl rfl (R.mv rfl) ?_
    refine L.val rfl rfl (R.lenS rfl) ?_
    refine L.val rfl rfl (R.conv rfl 1 rfl) ?_
    refine L.val rfl rfl (R.mv rfl) ?_
    refine L.val rfl rfl (R.conv rfl (k : Int) (wrap_u64 (by omega))) ?_
    refine L.callF rfl rfl rfl go36 (mul_ok 1 (k : Int) _ (by decide) (by decide) (by omega) (by omega)) ?_
    rintro _ w1 ⟨rfl, hw⟩
    obtain rfl := hw.symm
    refine L.val rfl rfl (R.mv rfl) ?_
    refine L.val rfl rfl (R.ext rfl rfl) ?_
    refine L.val rfl rfl (R.ext rfl rfl) ?_
    refine L.val rfl rfl (R.as rfl) ?_
    refine L.val rfl rfl (R.as rfl) ?_
    refine L.nil ?_
    refine N.seq ?_
    refine G.seq ?_
    refine G.seq ?_
    refine G.region ?_
    refine L.val rfl rfl (R.mv rfl) ?_
    refine L.val rfl rfl (R.gtr rfl rfl) ?_
    refine L.val rfl rfl (R.mv rfl) ?_
    refine L.caseP 23 rfl (fun hg4_2 => ?_) (fun hg4_2 => ?_)
    · omega
    · refine L.val rfl rfl (R.mv rfl) ?_
      refine L.val rfl rfl (R.gtr rfl rfl) ?_
      first | refine L.val rfl rfl (R.pickT rfl rfl) ?_ | refine L.val rfl rfl (R.pickF rfl rfl) ?_
      refine L.nil ?_
      refine N.seq ?_
      refine G.condP rfl (fun h1 => ?_) (fun h1 => ?_)
      · omega
      · refine G.skip ?_
        refine N.seq ?_
        refine G.seq ?_
        refine G.region ?_
        refine L.val rfl rfl (R.mv rfl) ?_
        refine L.val rfl rfl (R.conv rfl (k : Int) (by rw [Int.one_mul]; exact wrap_i64 (by omega))) ?_
        refine L.do rfl rfl (R.make rfl rfl (by omega) (by omega) (by omega) (by omega)) ?_
        rintro _ w2 ⟨b30, rfl, hb30, hs30, e2, B30⟩
        obtain ⟨cs, hcs⟩ : ∃ cs, cs = madeCells (Value.pointer none).cells ((k : Int).toNat * 1) := ⟨_, rfl⟩
        have hsz : cs.size = k := by rw [hcs]; simp [madeCells, Value.cells]
        replace B30 : Blk w2 b30 cs 59 (0, 0) := by rw [hcs]; exact B30
        refine L.be 30 rfl (show _ = Value.slice (some ⟨b30, 0, none⟩) k k by rfl) ?_
        refine L.val rfl rfl (R.as rfl) ?_
        refine L.nil ?_
        refine N.seq ?_
        refine G.seq ?_
        refine G.region ?_
        obtain ⟨pa, rfl, _⟩ := hb 0 x rfl
        have hc1 : Cells w2 (some pa) [x] := hb.ext0 e2
        refine L.val rfl rfl (R.mv rfl) ?_
        refine L.val rfl rfl (R.mv rfl) ?_
        refine L.do rfl rfl (R.copyB rfl rfl B30 hc1 (show [x].length = Nat.min 1 k from (Nat.min_eq_left hk0).symm) (by simp; omega) (by simpa using hone)) ?_
        rintro _ w3 ⟨rfl, P3⟩
        obtain ⟨e3, hs3, B3⟩ := P3
        have hsz3 := Over.size (cur := cs) (o := 0) (cs := [x]) (by simp; omega)
        have ht3 := Over.take (cur := cs) (o := 0) (cs := [x]) (Nat.zero_le _)
        refine L.val rfl rfl (R.as rfl) ?_
        refine L.nil ?_
        refine N.seq ?_
        refine G.seq ?_
        refine G.block ?_
        obtain ⟨y, hyx⟩ : ∃ y, y = x := ⟨x, rfl⟩
        subst hyx
        refine G.loop (X := Nat × Array Value) (fun x => [(7, .slice (some ⟨b30, 0, none⟩) k k), (8, .int .i64 (x.1 : Int))]) (fun x w' => 1 ≤ x.1 ∧ x.1 ≤ k ∧ x.2.size = k ∧ Blk w' b30 x.2 59 (0, 0) ∧ x.2.toList.take x.1 = List.replicate x.1 y ∧ Ext [] w w') (fun x => k - x.1) ((1, Over cs 0 [y])) (Sub.cons rfl (Sub.cons rfl (Sub.nil _))) ⟨Nat.le_refl 1, by omega, by rw [hsz3]; exact hsz, B3, by simpa using ht3, e2.trans e3 (by simp) (by simp; omega)⟩ ?_
        rintro ⟨p, cur⟩ w4 ⟨hp1, hp2, hz1, B4, ht4, e4⟩
        dsimp only at hp1 hp2 hz1 B4 ht4
        refine G.seq ?_
        refine G.seq ?_
        refine G.region ?_
        refine L.val rfl rfl (R.mv rfl) ?_
        refine L.val rfl rfl (R.mv rfl) ?_
        refine L.val rfl rfl (R.lenS rfl) ?_
        refine L.val rfl rfl (R.lss rfl rfl) ?_
        refine L.nil ?_
        refine N.seq ?_
        refine G.condP rfl (fun h2 => ?_) (fun h2 => ?_)
        · have hpk : p < k := by omega
          have hmn : (List.replicate (min p (k - p)) y).length = min p (k - p) := by simp
          have hov : p + (List.replicate (min p (k - p)) y).length ≤ cur.size := by rw [hmn]; omega
          refine G.skip ?_
          refine N.seq ?_
          refine G.block ?_
          refine G.staged [7] [.blocks ([b30])] [fun w' => Ext [] w4 w', fun w' => Ext [b30] w4 w' ∧ Blk w' b30 (Over cur p (List.replicate (min p (k - p)) y)) 59 (0, 0)] [] (by decide +kernel) (by decide +kernel) rfl rfl rfl (fun _ h => h) ?_
          refine Z.val rfl rfl rfl rfl rfl (fun w5 => R.mv rfl) ?_
          refine Z.val rfl rfl rfl rfl rfl (fun w5 => R.mv rfl) ?_
          refine Z.val rfl rfl rfl rfl rfl (fun w5 => R.mv rfl) ?_
          refine Z.val rfl rfl rfl rfl rfl (fun w5 => R.slL rfl rfl (by omega) (by omega)) ?_
          refine Z.be 41 rfl (show Value.slice (subA (some ⟨b30, 0, none⟩) (p : Int).toNat k 1) (k - (p : Int).toNat) (k - (p : Int).toNat) = .slice (some ⟨b30, p, none⟩) (k - p) (k - p) by rw [Int.toNat_natCast, subA_lit (by omega), Nat.zero_add, Nat.mul_one]) ?_
          refine Z.val rfl rfl rfl rfl rfl (fun w5 => R.mv rfl) ?_
          refine Z.val rfl rfl rfl rfl rfl (fun w5 => R.mv rfl) ?_
          refine Z.val rfl rfl rfl rfl rfl (fun w5 => R.slH rfl rfl (by omega) (by omega)) ?_
          refine Z.be 44 rfl (show Value.slice (subA (some ⟨b30, 0, none⟩) 0 k 1) (p : Int).toNat k = .slice (some ⟨b30, 0, none⟩) p k by rw [subA_zero, Int.toNat_natCast]) ?_
          refine Z.put (A := fun v _ => v = .int .i64 ((min p (k - p) : Nat) : Int)) (Lasts.kill (fun _ _ _ _ h => h) (by decide +kernel)) 0 (by decide +kernel) rfl rfl rfl rfl rfl rfl rfl (fun w5 hJ => (R.copyB rfl rfl (B4.ext0 hJ) (Cells.of_blk (B4.ext0 hJ) 0 _ (fun j v hj => cells_repV ht4 (Nat.min_le_left _ _) j v hj)) (by rw [hmn]) hov (fun u hu => by rw [(List.mem_replicate.1 hu).2]; exact hone)).mono (fun v w' h => by obtain ⟨rfl, h1, h2, h3⟩ := h; rw [hmn]; exact ⟨rfl, h1, h1.after hJ, h3⟩)) ?_
          refine Z.valR (A := fun v _ => v = .int .i64 ((p : Int) + ((min p (k - p) : Nat) : Int))) (Lasts.kill (fun _ _ _ _ h => h) (by decide +kernel)) rfl rfl rfl rfl (fun w5 => by rintro _ rfl; exact ⟨_, R.add rfl rfl (by omega), rfl⟩) ?_
          refine Z.valR (A := fun v _ => v = .int .i64 ((p + min p (k - p) : Nat) : Int)) (Lasts.kill (fun _ _ _ _ h => h) (by decide +kernel)) rfl rfl rfl rfl (fun w5 => by rintro _ rfl; exact ⟨_, R.as rfl, by simp⟩) ?_
          refine Z.nil rfl rfl (fun w5 hJ => ?_)
          obtain ⟨e6, B6⟩ := hJ
          rintro _ rfl _ _ _ _
          have hE6 : Ext [] w w5 := e4.trans e6 (by simp) (by simp; omega)
          have hto := Over.take (cur := cur) (o := p) (cs := (List.replicate (min p (k - p)) y)) (by omega)
          rw [hmn, ht4, List.replicate_append_replicate] at hto
          refine N.block ?_
          exact N.again (p + min p (k - p), Over cur p (List.replicate (min p (k - p)) y)) (by show k - (p + min p (k - p)) < k - p; omega) (Sub.cons rfl (Sub.cons rfl (Sub.nil _))) ⟨by show 1 ≤ p + min p (k - p); omega, by show p + min p (k - p) ≤ k; omega, by show (Over cur p _).size = k; rw [Over.size hov]; exact hz1, B6, hto, hE6⟩
        · have hpk : p = k := by omega
          subst hpk
          refine G.exit _ rfl ?_
          refine N.seq ?_
          refine G.seq ?_
          refine G.region ?_
          refine L.val rfl rfl (R.mv rfl) ?_
          refine L.val rfl rfl (R.as rfl) ?_
          refine L.nil ?_
          refine N.seq ?_
          refine G.ret1 rfl rfl ?_
          exact ⟨_, _, [b30], rfl, e4, ⟨by simp, .inr ⟨b30, cur, rfl, rfl, B4, Nat.le_refl _, by simp [maxLen]; omega, by omega, by simpa using ht4⟩⟩, by intro g hg; rw [List.mem_singleton.1 hg]; omega⟩

end Go.Proofs.Ytiggahlnplaciaa
/-
  The walks of package image.
-/
set_option linter.unusedVariables false
set_option linter.unusedSimpArgs false
namespace Go.Proofs.Ytiggahlnplaciaa
open Go Brv Brv.Image
/-- The blocks of a disk. -/
structure Blks (w : World) (ps : List Nat) (x : List UInt8) : Prop where
  len : ps.length = dn x
  each : ∀ k (h : k < ps.length), Blk w ps[k] (vbs (blk x k)).toArray 58 (0, 0)
theorem Blks.ext0 {w w' : World} {ps : List Nat} {x : List UInt8} (h : Blks w ps x) (he : Ext [] w w') : Blks w' ps x := ⟨h.len, fun k hk => (h.each k hk).ext0 he⟩
theorem Blks.ext {w w' : World} {ps : List Nat} {x : List UInt8} {M : List Nat} (h : Blks w ps x) (he : Ext M w w') (hM : ∀ g ∈ M, ∃ cs, Blk w g cs 59 (0, 0)) : Blks w' ps x :=
  ⟨h.len, fun k hk => (h.each k hk).ext he (fun hm => let ⟨_, hb⟩ := hM _ hm; (h.each k hk).ne hb (by decide) rfl)⟩
structure DiskL (w : World) (d g c : Nat) (cur : Array Value) (ps : List Nat) (x : List UInt8) : Prop where
  hd : Blk w d #[.slice (some ⟨g, 0, none⟩) (dn x) c] 56 (0, 0)
  len : x.length = 64 * dn x
  pos : 1 ≤ dn x
  le : dn x ≤ 64
  hg : Blk w g cur 59 (0, 0)
  ht : cur.toList.take (dn x) = ps.map ptr
  hb : Blks w ps x
theorem DiskL.ext {w w' : World} {d g c : Nat} {cur : Array Value} {ps : List Nat} {x : List UInt8} {M : List Nat} (h : DiskL w d g c cur ps x) (he : Ext M w w') (hM : ∀ y ∈ d :: g :: ps, y ∉ M) : DiskL w' d g c cur ps x :=
  ⟨h.hd.ext he (hM d (by simp)), h.len, h.pos, h.le, h.hg.ext he (hM g (by simp)), h.ht, h.hb.len, fun k hk => (h.hb.each k hk).ext he (hM _ (by simp [List.getElem_mem]))⟩
theorem DiskL.ext0 {w w' : World} {d g c : Nat} {cur : Array Value} {ps : List Nat} {x : List UInt8} (h : DiskL w d g c cur ps x) (he : Ext [] w w') : DiskL w' d g c cur ps x := h.ext he (by simp)
theorem DiskL.lt {w : World} {d g c : Nat} {cur : Array Value} {ps : List Nat} {x : List UInt8} (h : DiskL w d g c cur ps x) : ∀ y ∈ d :: g :: ps, y < w.heap.size := by
  intro y hy
  rcases List.mem_cons.1 hy with rfl | hy
  · exact h.hd.lt
  rcases List.mem_cons.1 hy with rfl | hy
  · exact h.hg.lt
  obtain ⟨k, hk, rfl⟩ := List.mem_iff_getElem.1 hy
  exact (h.hb.each k hk).lt
theorem DiskL.ptr {w : World} {d g c : Nat} {cur : Array Value} {ps : List Nat} {x : List UInt8} (h : DiskL w d g c cur ps x) {k : Nat} (hk : k < dn x) : ∃ z, cur[k]? = some (Brv.ptr z) ∧ Blk w z (vbs (blk x k)).toArray 58 (0, 0) := by
  have hl := h.hb.len
  refine ⟨ps[k]'(by omega), ?_, h.hb.each k (by omega)⟩
  have e := congrArg (fun l : List Value => l[k]?) h.ht
  simp only [List.getElem?_take, if_pos hk, List.getElem?_map, Array.getElem?_toList] at e
  rw [e, List.getElem?_eq_getElem (show k < ps.length by omega)]
  rfl
theorem DiskL.cells {w : World} {d g c : Nat} {cur : Array Value} {ps : List Nat} {x : List UInt8} (h : DiskL w d g c cur ps x) : Cells w (some ⟨g, 0, none⟩) (ps.map Brv.ptr) :=
  Cells.of_blk h.hg 0 _ (fun j v hj => by
    rw [← h.ht, List.getElem?_take] at hj
    split at hj
    · simpa using hj
    · cases hj)
def DiskAt (w : World) (d : Nat) (x : List UInt8) : Prop := ∃ g c cur ps, DiskL w d g c cur ps x
theorem DiskAt.ext0 {w w' : World} {d : Nat} {x : List UInt8} (h : DiskAt w d x) (he : Ext [] w w') : DiskAt w' d x := by
  obtain ⟨g, c, cur, ps, h⟩ := h
  exact ⟨g, c, cur, ps, h.ext0 he⟩
/-- A new disk, that is written yet. -/
def OwnDisk (w : World) (s d : Nat) (x : List UInt8) : Prop := ∃ a c ps M, Blk w d #[.slice a (dn x) c] 56 (0, 0) ∧ s ≤ d ∧ x.length = 64 * dn x ∧ 1 ≤ dn x ∧ dn x ≤ 64 ∧ Own w 59 1 a (dn x) c (ps.map ptr) M ∧ (∀ g ∈ M, s ≤ g) ∧ Blks w ps x
theorem OwnDisk.at {w : World} {s d : Nat} {x : List UInt8} (h : OwnDisk w s d x) : DiskAt w d x := by
  obtain ⟨a, c, ps, M, h1, _, h2, h3, h4, ho, _, h5⟩ := h
  rcases ho.2 with ⟨_, h0, _, _⟩ | ⟨g, cur, rfl, _, hb, _, _, _, ht⟩
  · omega
  · rw [Nat.mul_one] at ht
    exact ⟨g, c, cur, ps, h1, h2, h3, h4, hb, ht, h5⟩
/-- A disk, or none. -/
def DiskO (w : World) (d : Option Addr) (x : List UInt8) : Prop := (d = none ∧ x = []) ∨ ∃ b, d = some ⟨b, 0, none⟩ ∧ DiskAt w b x
theorem DiskO.ext0 {w w' : World} {d : Option Addr} {x : List UInt8} (h : DiskO w d x) (he : Ext [] w w') : DiskO w' d x := h.imp id (fun ⟨b, h1, h2⟩ => ⟨b, h1, h2.ext0 he⟩)
theorem DiskAt.len {w : World} {b : Nat} {x : List UInt8} (h : DiskAt w b x) : x.length = 64 * dn x ∧ dn x ≤ 64 ∧ 1 ≤ dn x := by
  obtain ⟨g, c, cur, ps, h⟩ := h
  exact ⟨h.len, h.le, h.pos⟩
theorem DiskO.len {w : World} {d : Option Addr} {x : List UInt8} (h : DiskO w d x) : x.length = 64 * dn x ∧ dn x ≤ 64 := by
  rcases h with ⟨_, rfl⟩ | ⟨b, _, h⟩
  · exact ⟨rfl, by decide⟩
  · exact ⟨h.len.1, h.len.2.1⟩
theorem DiskO.no {w : World} : DiskO w Option.none [] := .inl ⟨rfl, rfl⟩
theorem DiskAt.o {w : World} {d : Nat} {x : List UInt8} (h : DiskAt w d x) : DiskO w (some ⟨d, 0, Option.none⟩) x := .inr ⟨d, rfl, h⟩
theorem DiskO.nil {w : World} {x : List UInt8} (h : DiskO w Option.none x) : x = [] := by
  rcases h with ⟨_, h⟩ | ⟨b, h, _⟩
  · exact h
  · cases h
theorem DiskO.got {w : World} {d : Option Addr} {x : List UInt8} (h : DiskO w d x) (hd : d.isNone = false) : ∃ b, d = some ⟨b, 0, Option.none⟩ ∧ DiskAt w b x := by
  rcases h with ⟨rfl, _⟩ | h
  · cases hd
  · exact h
theorem DiskO.pos {w : World} {d : Option Addr} {x : List UInt8} (h : DiskO w d x) (hd : 0 < dn x) : ∃ b, d = some ⟨b, 0, Option.none⟩ ∧ DiskAt w b x := by
  rcases h with ⟨_, rfl⟩ | h
  · exact absurd hd (by decide)
  · exact h

theorem izero_ok  (w : World) : Meets Try.prog 31 [] w (fun v w' => ∃ z, v = ptr z ∧ w.heap.size ≤ z ∧ Ext [] w w' ∧ Blk w' z (vbs (List.replicate 64 (0 : UInt8))).toArray 58 (0, 0)) := by
  refine Meets.enter Try.func31 rfl 2 rfl (Nat.le_of_ble_eq_true rfl) ?_
  refine G.seq ?_
  refine G.region ?_
  refine L.val rfl rfl (R.as rfl) ?_
  refine L.nil ?_
  refine N.seq ?_
  refine G.seq ?_
  refine G.region ?_
  refine L.do rfl rfl (R.alloc) ?_
  rintro _ w1 ⟨z, rfl, hz, hs1, e1, Z⟩
  refine L.val rfl rfl (R.as rfl) ?_
  refine L.nil ?_
  refine N.seq ?_
  refine G.ret1 rfl rfl ?_
  exact ⟨z, rfl, by omega, e1, Z⟩

theorem inew_ok (n : Nat) (w : World) (h1 : 1 ≤ n) (h2 : n ≤ 64) : Meets Try.prog 22 [.int .i64 (n : Int)] w (fun v w' => ∃ d, v = .tuple #[ptr d, .int .i64 0] ∧ Ext [] w w' ∧ OwnDisk w' w.heap.size d (List.replicate (64 * n) 0)) := by
  refine Meets.enter Try.func22 rfl 16 rfl (Nat.le_of_ble_eq_true rfl) ?_
  have E := Ext.refl [] w
  refine G.seq ?_
  refine G.region ?_
  refine L.val rfl rfl (R.as rfl) ?_
  refine L.val rfl rfl (R.as rfl) ?_
  refine L.nil ?_
  refine N.seq ?_
  refine G.seq ?_
  refine G.seq ?_
  refine G.region ?_
  refine L.val rfl rfl (R.mv rfl) ?_
  refine L.val rfl rfl (R.lss rfl rfl) ?_
  refine L.val rfl rfl (R.mv rfl) ?_
  refine L.caseP 6 rfl (fun hg1_2 => ?_) (fun hg1_2 => ?_)
  · exfalso; omega
  · refine L.val rfl rfl (R.mv rfl) ?_
    refine L.val rfl rfl (R.gtr rfl rfl) ?_
    first | refine L.val rfl rfl (R.pickT rfl rfl) ?_ | refine L.val rfl rfl (R.pickF rfl rfl) ?_
    refine L.nil ?_
    refine N.seq ?_
    refine G.condP rfl (fun h0 => ?_) (fun h0 => ?_)
    · exfalso; omega
    · refine G.skip ?_
      refine N.seq ?_
      refine G.seq ?_
      refine G.region ?_
      refine L.callF rfl rfl rfl go31 (izero_ok _) ?_
      rintro _ w1 ⟨z, rfl, hz, e1, Z⟩
      have hE0 := E
      replace E := E.trans0 e1
      refine L.do rfl rfl (R.buildA rfl rfl rfl rfl rfl) ?_
      rintro _ w2 ⟨b11, rfl, hb11, hs11, e2, B11⟩
      replace E := E.trans0 e2
      replace Z := Z.ext0 e2
      refine L.val rfl rfl (R.mv rfl) ?_
      refine L.callF rfl rfl rfl go30 (prepeat_ok (some ⟨b11, 0, none⟩) 1 (ptr z) n _ (Cells.of_blk B11 0 _ (fun j v hj => by cases j with | zero => exact hj | succ j => simp at hj)) rfl (by omega) (by omega)) ?_
      rintro _ w3 ⟨a, c, M, rfl, e3, o3, hM3⟩
      have hE2 := E.size
      replace E := E.trans0 e3
      replace Z := Z.ext0 e3
      refine L.val rfl rfl (R.build (cs := #[.slice a n c]) rfl rfl) ?_
      refine L.do rfl rfl (R.box rfl) ?_
      rintro _ w4 ⟨d, rfl, hd, hs4, e4, B4⟩
      have hE3 := E.size
      replace E := E.trans0 e4
      replace Z := Z.ext0 e4
      replace o3 := o3.ext0 e4
      refine L.val rfl rfl (R.as rfl) ?_
      refine L.val rfl rfl (R.as rfl) ?_
      refine L.nil ?_
      refine N.seq ?_
      refine G.ret2 rfl rfl rfl ?_
      exact ⟨d, rfl, E, a, c, List.replicate n z, M, by rw [dn_zero]; exact B4, by omega, by rw [dn_zero]; simp, by rw [dn_zero]; omega, by rw [dn_zero]; omega, by rw [dn_zero, List.map_replicate]; exact o3, fun g hg => Nat.le_trans hE2 (hM3 g hg), by rw [dn_zero]; simp, fun k hk => by rw [List.getElem_replicate, blk_zero (by simpa using hk)]; exact Z⟩

theorem inew_err (n : Int) (w : World) (h : ¬ (1 ≤ n ∧ n ≤ 64)) : Meets Try.prog 22 [.int .i64 n] w (fun v w' => v = .tuple #[.pointer none, .int .i64 2] ∧ w' = w) := by
  refine Meets.enter Try.func22 rfl 16 rfl (Nat.le_of_ble_eq_true rfl) ?_
  refine G.seq ?_
  refine G.region ?_
  refine L.val rfl rfl (R.as rfl) ?_
  refine L.val rfl rfl (R.as rfl) ?_
  refine L.nil ?_
  refine N.seq ?_
  refine G.seq ?_
  refine G.seq ?_
  refine G.region ?_
  refine L.val rfl rfl (R.mv rfl) ?_
  refine L.val rfl rfl (R.lss rfl rfl) ?_
  refine L.val rfl rfl (R.mv rfl) ?_
  refine L.caseP 6 rfl (fun hg1_2 => ?_) (fun hg1_2 => ?_)
  · refine L.pass rfl rfl ?_
    refine L.pass rfl rfl ?_
    first | refine L.val rfl rfl (R.pickT rfl rfl) ?_ | refine L.val rfl rfl (R.pickF rfl rfl) ?_
    refine L.nil ?_
    refine N.seq ?_
    refine G.condT rfl ?_
    refine G.seq ?_
    refine G.region ?_
    refine L.val rfl rfl (R.as rfl) ?_
    refine L.val rfl rfl (R.as rfl) ?_
    refine L.nil ?_
    refine N.seq ?_
    refine G.ret2 rfl rfl rfl ?_
    exact ⟨rfl, rfl⟩
  · refine L.val rfl rfl (R.mv rfl) ?_
    refine L.val rfl rfl (R.gtr rfl rfl) ?_
    first | refine L.val rfl rfl (R.pickT rfl rfl) ?_ | refine L.val rfl rfl (R.pickF rfl rfl) ?_
    refine L.nil ?_
    refine N.seq ?_
    refine G.condP rfl (fun h0 => ?_) (fun h0 => ?_)
    · refine G.seq ?_
      refine G.region ?_
      refine L.val rfl rfl (R.as rfl) ?_
      refine L.val rfl rfl (R.as rfl) ?_
      refine L.nil ?_
      refine N.seq ?_
      refine G.ret2 rfl rfl rfl ?_
      exact ⟨rfl, rfl⟩
    · exfalso; omega

theorem iblocks_ok (d : Option Addr) (x : List UInt8) (w : World) (hd : DiskO w d x) : Meets Try.prog 18 [.pointer d] w (fun v w' => v = .int .i64 (dn x : Int) ∧ w' = w) := by
  refine Meets.enter Try.func18 rfl 10 rfl (Nat.le_of_ble_eq_true rfl) ?_
  refine G.seq ?_
  refine G.region ?_
  refine L.val rfl rfl (R.as rfl) ?_
  refine L.nil ?_
  refine N.seq ?_
  refine G.seq ?_
  refine G.seq ?_
  refine G.region ?_
  refine L.val rfl rfl (R.mv rfl) ?_
  refine L.val rfl rfl (R.eqNilP rfl rfl) ?_
  refine L.nil ?_
  refine N.seq ?_
  refine G.condB rfl (fun h0 => ?_) (fun h0 => ?_)
  · obtain rfl : d = none := by simpa using h0
    obtain rfl := hd.nil
    refine G.seq ?_
    refine G.region ?_
    refine L.val rfl rfl (R.as rfl) ?_
    refine L.nil ?_
    refine N.seq ?_
    refine G.ret1 rfl rfl ?_
    exact ⟨rfl, rfl⟩
  · obtain ⟨b, rfl, g, c, cur, ps, D⟩ := hd.got (by simpa using h0)
    refine G.skip ?_
    refine N.seq ?_
    refine G.seq ?_
    refine G.region ?_
    refine L.val rfl rfl (R.mv rfl) ?_
    refine L.val rfl rfl (R.nilChk rfl) ?_
    refine L.val rfl rfl (R.fld rfl) ?_
    refine L.val rfl rfl (R.ldB rfl D.hd rfl) ?_
    refine L.val rfl rfl (R.lenS rfl) ?_
    refine L.val rfl rfl (R.as rfl) ?_
    refine L.nil ?_
    refine N.seq ?_
    refine G.ret1 rfl rfl ?_
    exact ⟨rfl, rfl⟩

theorem iget_ok (d : Nat) (x : List UInt8) (k : Int) (w : World) (hd : DiskAt w d x) : Meets Try.prog 19 [.pointer (some ⟨d, 0, none⟩), .int .i64 k] w (fun v w' => ∃ a c M, v = .tuple #[.slice a (getB x k).length c, .int .i64 (if okK x k then 0 else 41)] ∧ Ext [] w w' ∧ Own w' 5 1 a (getB x k).length c (vbs (getB x k)) M ∧ ∀ g ∈ M, w.heap.size ≤ g) := by
  refine Meets.enter Try.func19 rfl 31 rfl (Nat.le_of_ble_eq_true rfl) ?_
  have E := Ext.refl [] w
  obtain ⟨g, c, cur, ps, D⟩ := hd
  refine G.seq ?_
  refine G.region ?_
  refine L.val rfl rfl (R.as rfl) ?_
  refine L.val rfl rfl (R.as rfl) ?_
  refine L.nil ?_
  refine N.seq ?_
  refine G.seq ?_
  refine G.block ?_
  refine G.seq ?_
  refine G.region ?_
  refine L.val rfl rfl (R.mv rfl) ?_
  refine L.val rfl rfl (R.eqNilP rfl rfl) ?_
  refine L.val rfl rfl (R.as rfl) ?_
  refine L.nil ?_
  refine N.seq ?_
  refine G.condF rfl ?_
  refine G.seq ?_
  refine G.region ?_
  refine L.val rfl rfl (R.mv rfl) ?_
  refine L.val rfl rfl (R.lss rfl rfl) ?_
  refine L.val rfl rfl (R.mv rfl) ?_
  refine L.caseP 12 rfl (fun hg3_2 => ?_) (fun hg3_2 => ?_)
  · refine L.pass rfl rfl ?_
    refine L.pass rfl rfl ?_
    refine L.pass rfl rfl ?_
    refine L.pass rfl rfl ?_
    refine L.pass rfl rfl ?_
    refine L.pass rfl rfl ?_
    refine L.pass rfl rfl ?_
    first | refine L.val rfl rfl (R.pickT rfl rfl) ?_ | refine L.val rfl rfl (R.pickF rfl rfl) ?_
    refine L.val rfl rfl (R.as rfl) ?_
    refine L.nil ?_
    refine N.seq ?_
    refine G.condT rfl ?_
    refine G.seq ?_
    refine G.region ?_
    refine L.val rfl rfl (R.as rfl) ?_
    refine L.val rfl rfl (R.as rfl) ?_
    refine L.nil ?_
    refine N.seq ?_
    refine G.ret2 rfl rfl rfl ?_
    (rw [if_neg (fun h => by have := h.1; omega), show getB x k = [] from if_neg (fun h => by have := h.1; omega)]; exact ⟨none, 0, [], rfl, E, Own.nil _ _ _, by simp⟩)
  · refine L.val rfl rfl (R.mv rfl) ?_
    refine L.val rfl rfl (R.mv rfl) ?_
    refine L.val rfl rfl (R.nilChk rfl) ?_
    refine L.val rfl rfl (R.fld rfl) ?_
    refine L.val rfl rfl (R.ldB rfl D.hd rfl) ?_
    refine L.val rfl rfl (R.lenS rfl) ?_
    refine L.val rfl rfl (R.geq rfl rfl) ?_
    first | refine L.val rfl rfl (R.pickT rfl rfl) ?_ | refine L.val rfl rfl (R.pickF rfl rfl) ?_
    refine L.val rfl rfl (R.as rfl) ?_
    refine L.nil ?_
    refine N.seq ?_
    refine G.condP rfl (fun h1 => ?_) (fun h1 => ?_)
    · refine G.seq ?_
      refine G.region ?_
      refine L.val rfl rfl (R.as rfl) ?_
      refine L.val rfl rfl (R.as rfl) ?_
      refine L.nil ?_
      refine N.seq ?_
      refine G.ret2 rfl rfl rfl ?_
      (rw [if_neg (fun h => by have := h.2; omega), show getB x k = [] from if_neg (fun h => by have := h.2; omega)]; exact ⟨none, 0, [], rfl, E, Own.nil _ _ _, by simp⟩)
    · have hok : okK x k := ⟨by omega, by omega⟩
      obtain ⟨j, rfl⟩ := Int.eq_ofNat_of_zero_le hok.1
      have hj : j < dn x := by have := hok.2; omega
      obtain ⟨z, hz, hbj⟩ := D.ptr hj
      have hbs := Bs.of_blk hbj (blk x j) (by simp) 64 (blk_length hj).symm
      refine G.skip ?_
      refine N.block ?_
      refine N.seq ?_
      refine G.seq ?_
      refine G.region ?_
      refine L.val rfl rfl (R.mv rfl) ?_
      refine L.val rfl rfl (R.nilChk rfl) ?_
      refine L.val rfl rfl (R.fld rfl) ?_
      refine L.val rfl rfl (R.ldB rfl D.hd rfl) ?_
      refine L.val rfl rfl (R.mv rfl) ?_
      refine L.val rfl rfl (R.idx rfl rfl (by omega) (by omega) _ rfl) ?_
      refine L.val rfl rfl (R.ld rfl (v := ptr z) (by rw [Go.Addr.add_lit]; simpa using (D.hg.cell j).trans hz)) ?_
      refine L.val rfl rfl (R.nilChk rfl) ?_
      refine L.val rfl rfl (R.slA rfl) ?_
      refine L.callF rfl rfl rfl go28 (bclone_ok _ _ _ _ _ hbs (by decide)) ?_
      rintro _ w1 ⟨a1, c1, M1, rfl, e1, o1, hM1⟩
      replace E := E.trans0 e1
      refine L.val rfl rfl (R.as rfl) ?_
      refine L.val rfl rfl (R.as rfl) ?_
      refine L.nil ?_
      refine N.seq ?_
      refine G.ret2 rfl rfl rfl ?_
      (rw [if_pos hok, show getB x (j : Int) = blk x j from if_pos hok, blk_length hj]; exact ⟨a1, c1, M1, rfl, E, o1, hM1⟩)

end Go.Proofs.Ytiggahlnplaciaa
/-
  The walks of package image.
-/
set_option linter.unusedVariables false
set_option linter.unusedSimpArgs false
namespace Go.Proofs.Ytiggahlnplaciaa
open Go Brv Brv.Image
/-- What the iterator over the disk reads. -/
def fpIs (w : World) (F : List Nat) (b1 : Nat) (d : Option Addr) (x : List UInt8) : Prop := (∀ g ∈ F, g < w.heap.size) ∧ ∀ M w', Ext M w w' → (∀ g ∈ F, g ∉ M) → Blk w' b1 #[.pointer d] 30 (0, 0) ∧ DiskO w' d x
theorem fpIs.ext0 {w w' : World} {F : List Nat} {b1 : Nat} {d : Option Addr} {x : List UInt8} (h : fpIs w F b1 d x) (he : Ext [] w w') : fpIs w' F b1 d x :=
  ⟨fun g hg => Nat.lt_of_lt_of_le (h.1 g hg) he.size, fun M w2 e hm => by
    have e2 : Ext (M.filter (fun g => decide (g < w.heap.size))) w w2 := by
      refine he.trans e (by simp) (fun g hg => ?_)
      by_cases hl : g < w.heap.size
      · exact .inl (List.mem_filter.2 ⟨hg, by simpa using hl⟩)
      · exact .inr (by omega)
    exact h.2 _ w2 e2 (fun g hg hmem => hm g hg (List.mem_filter.1 hmem).1)⟩
end Go.Proofs.Ytiggahlnplaciaa
/-
  The walks of package digest.
-/
set_option linter.unusedVariables false
set_option linter.unusedSimpArgs false
set_option maxRecDepth 4000
namespace Go.Proofs.Ytiggahlnplaciaa
open Go Brv
theorem dl_blk {w : World} {d g c : Nat} {cur : Array Value} {ps : List Nat} {x : List UInt8} (h : DiskL w d g c cur ps x) {k z : Nat} (hk : k < Image.dn x) (hz : cur[k]? = some (Brv.ptr z)) : Bs w (some ⟨z, 0, none⟩) 64 (Image.blk x k) := by
  obtain ⟨z', h1, h2⟩ := h.ptr hk
  rw [hz] at h1
  have e : z = z' := by simpa [Brv.ptr] using h1
  subst e
  exact ⟨Cells.of_blk h2 0 _ (fun j v hj => by simpa using hj), (Image.blk_length hk).symm⟩
theorem iblocksD (d g c : Nat) (cur : Array Value) (ps : List Nat) (x : List UInt8) (w : World) (h : DiskL w d g c cur ps x) : Meets Try.prog 18 [.pointer (some ⟨d, 0, none⟩)] w (fun v w' => v = .int .i64 (Image.dn x : Int) ∧ Ext [] w w') :=
  (iblocks_ok (some ⟨d, 0, none⟩) x w (DiskAt.o ⟨g, c, cur, ps, h⟩)).mono fun v w' ⟨h1, h2⟩ => ⟨h1, h2 ▸ Ext.refl _ _⟩

theorem iall1S_ok (y : Value) (b1 d g c : Nat) (cur : Array Value) (ps : List Nat) (x : List UInt8) (J Jx : Nat → Asn) (hY : ∀ k vs p, k < Image.dn x → (fun k vs p => ∃ a c, vs = [.int .i64 ((k : Nat) : Int), .slice a 64 c] ∧ p = fun w => Bs w a 64 (Image.blk x k)) k vs p → YSpec Try.prog y vs [sh p, J k] (fun b H' => H' = [if b then J (k + 1) else Jx (k + 1)])) : SpecS Try.prog 32 [y, .pointer (some ⟨b1, 0, none⟩)] [J 0, fz b1 [.pointer (some ⟨d, 0, none⟩)] 30, sh (fun w => DiskL w d g c cur ps x)] (fun v H' => (H' = J (Image.dn x) :: [fz b1 [.pointer (some ⟨d, 0, none⟩)] 30, sh (fun w => DiskL w d g c cur ps x)] ∨ ∃ k, k ≤ Image.dn x ∧ H' = Jx k :: [fz b1 [.pointer (some ⟨d, 0, none⟩)] 30, sh (fun w => DiskL w d g c cur ps x)])) := by
  refine SpecS.enter Try.func32 rfl 24 rfl (Nat.le_of_ble_eq_true rfl) (fun o => ?_)
  refine SG.fact (fun w9 F9 S9 s => (s.sh (p := fun w => DiskL w d g c cur ps x) (by repeat (first | exact Sel.keep | exact Sel.here | apply Sel.there))).le) (fun hf9 => ?_)
  have hle := hf9; clear hf9
  refine SG.seq ?_
  refine SG.region ?_
  refine SL.val rfl rfl (fun w9 F9 S9 s => R.ldB (v := .pointer (some ⟨d, 0, none⟩)) rfl (s.cel (by repeat (first | exact SelB.blk | exact SelB.fz | apply SelB.there))) (by rfl)) ?_
  refine SL.step rfl rfl (CS.callR rfl go18 (fun w9 F9 S9 s => iblocksD d g c cur ps x w9 (s.sh (p := fun w => DiskL w d g c cur ps x) (by repeat (first | exact Sel.keep | exact Sel.here | apply Sel.there))))) ?_
  rintro _ _ ⟨rfl, rfl⟩
  refine SL.val rfl rfl (fun w9 F9 S9 s => R.mv rfl) ?_
  refine SL.nil ?_
  refine SN.seq ?_
  refine SG.block ?_
  refine SG.loop (X := Nat) (fun k => [(0, y), (1, .pointer (some ⟨b1, 0, none⟩)), (5, .int .i64 (Image.dn x : Int)), (6, .int .i64 (k : Int))]) (fun k => [J k, fz b1 [.pointer (some ⟨d, 0, none⟩)] 30, sh (fun w => DiskL w d g c cur ps x)]) (fun k => k ≤ Image.dn x) (fun k => Image.dn x - k) (0) (Sub.cons rfl (Sub.cons rfl (Sub.cons rfl (Sub.cons rfl (Sub.nil _))))) ((Imp.sels (by repeat (first | exact Sels.nil | apply Sels.cons | exact Sel.keep | exact Sel.here | apply Sel.there)))) (Nat.zero_le _) ?_
  intro k hk
  show SG _ _ _ _ _ [(0, y), (1, .pointer (some ⟨b1, 0, none⟩)), (5, .int .i64 (Image.dn x : Int)), (6, .int .i64 (k : Int))] [J k, fz b1 [.pointer (some ⟨d, 0, none⟩)] 30, sh (fun w => DiskL w d g c cur ps x)] _
  refine SG.seq ?_
  refine SG.region ?_
  refine SL.val rfl rfl (fun w9 F9 S9 s => R.lss rfl rfl) ?_
  refine SL.nil ?_
  refine SN.seq ?_
  refine SG.seq ?_
  refine SG.condP rfl (fun h0 => ?_) (fun h0 => ?_)
  · refine SG.fact (fun w9 F9 S9 s => (((s.sh (p := fun w => DiskL w d g c cur ps x) (by repeat (first | exact Sel.keep | exact Sel.here | apply Sel.there))).ptr (k := k) (by omega)).imp fun z h => h.1)) (fun hf9 => ?_)
    obtain ⟨z, hz⟩ := hf9
    refine SG.skip ?_
    refine SN.seq ?_
    refine SG.seq ?_
    refine SG.block ?_
    refine SG.seq ?_
    refine SG.region ?_
    refine SL.val rfl rfl (fun w9 F9 S9 s => R.mv rfl) ?_
    refine SL.val rfl rfl (fun w9 F9 S9 s => R.as rfl) ?_
    refine SL.nil ?_
    refine SN.seq ?_
    refine SG.seq ?_
    refine SG.region ?_
    refine SL.val rfl rfl (fun w9 F9 S9 s => R.mv rfl) ?_
    refine SL.val rfl rfl (fun w9 F9 S9 s => R.mv rfl) ?_
    refine SL.val rfl rfl (fun w9 F9 S9 s => R.ldB (v := .pointer (some ⟨d, 0, none⟩)) rfl (s.cel (by repeat (first | exact SelB.blk | exact SelB.fz | apply SelB.there))) (by rfl)) ?_
    refine SL.val rfl rfl (fun w9 F9 S9 s => R.nilChk rfl) ?_
    refine SL.val rfl rfl (fun w9 F9 S9 s => R.fld rfl) ?_
    refine SL.val rfl rfl (fun w9 F9 S9 s => R.ldB (v := .slice (some ⟨g, 0, none⟩) (Image.dn x) c) rfl (s.sh (p := fun w => DiskL w d g c cur ps x) (by repeat (first | exact Sel.keep | exact Sel.here | apply Sel.there))).hd (by rfl)) ?_
    refine SL.val rfl rfl (fun w9 F9 S9 s => R.mv rfl) ?_
    refine SL.val rfl rfl (fun w9 F9 S9 s => R.idxO (i := (k : Int)) rfl rfl (by omega) (by omega) rfl k (by omega)) ?_
    refine SL.val rfl rfl (fun w9 F9 S9 s => R.ldB (v := Brv.ptr z) rfl (s.sh (p := fun w => DiskL w d g c cur ps x) (by repeat (first | exact Sel.keep | exact Sel.here | apply Sel.there))).hg hz) ?_
    refine SL.val rfl rfl (fun w9 F9 S9 s => R.nilChk rfl) ?_
    refine SL.val rfl rfl (fun w9 F9 S9 s => R.slA rfl) ?_
    refine SL.step rfl rfl (CS.callC rfl go28 (fun w9 F9 S9 s => bclone_ok (some ⟨z, 0, none⟩) 64 64 (Image.blk x k) w9 (dl_blk (s.sh (p := fun w => DiskL w d g c cur ps x) (by repeat (first | exact Sel.keep | exact Sel.here | apply Sel.there))) (by omega) hz) (by decide))) ?_
    rintro _ _ ⟨a20, c20, rfl, rfl⟩
    refine SL.imp (Imp.ownBs (l := Image.blk x k) (show Sel _ (own 5 1 a20 64 c20 (vbs (Image.blk x k))) _ from (by repeat (first | exact Sel.keep | exact Sel.here | apply Sel.there)))) ?_
    refine SL.step rfl rfl (CS.yield rfl rfl (hY k _ _ (by omega) ⟨a20, c20, rfl, rfl⟩) (by repeat (first | exact Sels.nil | apply Sels.cons | exact Sel.keep | exact Sel.here | apply Sel.there))) ?_
    rintro _ _ ⟨_, ⟨bq, rfl, rfl⟩, rfl⟩
    refine SL.n1 ?_
    refine SL.val rfl rfl (fun w9 F9 S9 s => R.not rfl) ?_
    refine SL.nil ?_
    refine SN.seq ?_
    refine SG.condB rfl (fun h1 => ?_) (fun h1 => ?_)
    · obtain rfl : bq = false := by simpa using h1
      exact SG.ret0 rfl ((Imp.sels (by repeat (first | exact Sels.nil | apply Sels.cons | exact Sel.keep | exact Sel.here | apply Sel.there)))) (.inr ⟨k + 1, by omega, rfl⟩)
    · obtain rfl : bq = true := by simpa using h1
      refine SG.skip ?_
      refine SN.block ?_
      refine SN.seq ?_
      refine SG.region ?_
      refine SL.val rfl rfl (fun w9 F9 S9 s => R.add rfl rfl (by omega)) ?_
      refine SL.val rfl rfl (fun w9 F9 S9 s => R.mv rfl) ?_
      refine SL.nil ?_
      exact SN.again (k + 1) (by show Image.dn x - (k + 1) < Image.dn x - k; omega) (Sub.cons rfl (Sub.cons rfl (Sub.cons rfl (Sub.cons rfl (Sub.nil _))))) ((Imp.sels (by repeat (first | exact Sels.nil | apply Sels.cons | exact Sel.keep | exact Sel.here | apply Sel.there)))) (by show k + 1 ≤ Image.dn x; omega)
  · obtain rfl : k = Image.dn x := by omega
    refine SG.exit _ rfl ?_
    exact SN.end0 rfl ((Imp.sels (by repeat (first | exact Sels.nil | apply Sels.cons | exact Sel.keep | exact Sel.here | apply Sel.there)))) (.inl rfl)

theorem iall_iterS (b1 d g c : Nat) (cur : Array Value) (ps : List Nat) (x : List UInt8) : IterS Try.prog 32 [.pointer (some ⟨b1, 0, none⟩)] [fz b1 [.pointer (some ⟨d, 0, none⟩)] 30, sh (fun w => DiskL w d g c cur ps x)] (Image.dn x) (fun k vs p => ∃ a c, vs = [.int .i64 ((k : Nat) : Int), .slice a 64 c] ∧ p = fun w => Bs w a 64 (Image.blk x k)) := fun y J Jx hY => iall1S_ok y b1 d g c cur ps x J Jx hY

theorem iallS_ok (d : Nat) : SpecS Try.prog 24 [.pointer (some ⟨d, 0, none⟩)] [] (fun v H' => ∃ b1, v = .func (.func 32) #[] #[.pointer (some ⟨b1, 0, none⟩)] ∧ H' = [fz b1 [.pointer (some ⟨d, 0, none⟩)] 30]) := by
  refine SpecS.enter Try.func24 rfl 4 rfl (Nat.le_of_ble_eq_true rfl) (fun o => ?_)
  refine SG.seq ?_
  refine SG.region ?_
  refine SL.step rfl rfl (CS.box1 rfl rfl) ?_
  rintro _ _ ⟨b1, rfl, rfl⟩
  refine SL.val rfl rfl (fun w9 F9 S9 s => R.as rfl) ?_
  refine SL.nil ?_
  refine SN.imp (Imp.fz (show Sel _ (blk b1 [.pointer (some ⟨d, 0, none⟩)] _) _ from (by repeat (first | exact Sel.keep | exact Sel.here | apply Sel.there)))) ?_
  refine SN.seq ?_
  refine SG.seq ?_
  refine SG.region ?_
  refine SL.val rfl rfl (fun w9 F9 S9 s => R.mkFunc rfl rfl) ?_
  refine SL.val rfl rfl (fun w9 F9 S9 s => R.as rfl) ?_
  refine SL.nil ?_
  refine SN.seq ?_
  exact SG.ret1 rfl rfl ((Imp.sels (by repeat (first | exact Sels.nil | apply Sels.cons | exact Sel.keep | exact Sel.here | apply Sel.there)))) (⟨b1, rfl, rfl⟩)

end Go.Proofs.Ytiggahlnplaciaa
/-
  Loops in which a frame's marks grow (a range over a function inside).
-/
set_option linter.unusedVariables false
set_option linter.unusedSimpArgs false
namespace Brv
open Go
section
variable {P : Program} {B : Exit → Act → World → Prop} {n : Fm} {ks : List K} {ρ : Env} {w : World} {o : Org} {H : List Asn}
theorem G.loopN {X : Type} (nI : X → Fm) (ρI : X → Env) (I : X → World → Prop) (μ : X → Nat) (x₀ : X) {c : Code} (hro : ∀ x, (nI x).ro = n.ro) (hn : nI x₀ = n) (hs : Sub (ρI x₀) ρ) (h₀ : I x₀ w)
    (round : ∀ x w, I x w → G P B (nI x) (.hand (fun a' w' => ∃ x', μ x' < μ x ∧ Fr (nI x') (ρI x') a' ∧ I x' w') :: ks) (ρI x) w c) : G P B n ks ρ w (.loop c) := by
  intro a ha
  refine wpIn_loop_ghost (fun k a w => ∃ x, μ x = k ∧ Fr (nI x) (ρI x) a ∧ I x w) (μ x₀) ⟨x₀, rfl, hn ▸ ha.sub hs, h₀⟩ ?_
  rintro k a w ⟨x, rfl, hf, hI⟩
  have hr := round x w hI a hf
  rw [hro x] at hr
  refine wpIn_mono hr ?_
  intro e a' w' hq
  cases e with
  | normal => obtain ⟨x', hlt, hf', hI'⟩ := hq; exact ⟨μ x', hlt, x', rfl, hf', hI'⟩
  | exit id => exact hq
  | goto l => exact hq
  | ret => exact hq
  | panic ch => exact hq
  | outgrown => exact hq
theorem SG.loopN {X : Type} (nI : X → Fm) (ρI : X → Env) (HI : X → List Asn) (I : X → Prop) (μ : X → Nat) (x₀ : X) {c : Code} (hro : ∀ x, (nI x).ro = n.ro) (hn : nI x₀ = n) (hs : Sub (ρI x₀) ρ) (i : Imp H (HI x₀)) (h₀ : I x₀)
    (round : ∀ x, I x → SG P B (nI x) o (.hand (fun a' w' => ∃ x', μ x' < μ x ∧ Fr (nI x') (ρI x') a' ∧ I x' ∧ ∃ F S, St (HI x') F S w' ∧ From o w' F S) :: ks) (ρI x) (HI x) c) : SG P B n o ks ρ H (.loop c) :=
  fun w F S s f => G.loopN nI ρI (fun x w' => I x ∧ ∃ F S, St (HI x) F S w' ∧ From o w' F S) μ x₀ hro hn hs ⟨h₀, i.at s f⟩ (fun x w' ⟨hi, F', S', s', f'⟩ => round x hi w' F' S' s' f')
theorem SN.againN {X : Type} {nI : X → Fm} {ρI : X → Env} {HI : X → List Asn} {I : X → Prop} {μ : X → Nat} {x : X} (x' : X) (hn : nI x' = n) (hlt : μ x' < μ x) (hs : Sub (ρI x') ρ) (i : Imp H (HI x')) (h : I x') :
    SN P B n o (.hand (fun a' w' => ∃ x', μ x' < μ x ∧ Fr (nI x') (ρI x') a' ∧ I x' ∧ ∃ F S, St (HI x') F S w' ∧ From o w' F S) :: ks) ρ H :=
  fun w F S s f => N.hand fun _ ha => ⟨x', hlt, hn ▸ ha.sub hs, h, i.at s f⟩
end
/-- The marks of a frame, that are to be taken at its end. -/
def mark (d : Nat) : Deferred := ⟨.collected d, #[]⟩
def dfrs : List Nat → List Asn → List Asn
  | [], H => H
  | d :: ds, H => dfr d :: dfrs ds H
theorem Dfrs.many {H H' : List Asn} {ds : List Nat} {df : List Deferred} (h : Dfrs df H H') : Dfrs (ds.map mark ++ df) (dfrs ds H) H' := by
  induction ds with
  | nil => exact h
  | cons d ds ih => exact .cons .here ih
theorem dfrs_app (ds : List Nat) (H : List Asn) : dfrs ds [] ++ H = dfrs ds H := by
  induction ds with
  | nil => rfl
  | cons d ds ih => simp only [dfrs, List.cons_append, ih]
/-- All the marks so far. -/
def dfP (ds : List Nat) : Asn where
  P := fun F S w => Sep (dfrs ds []) F S w
  ext := fun _ _ _ _ _ h he hF hS => h.ext he hF hS
theorem Imp.markNone {H : List Asn} : Imp H (dfP [] :: H) := Imp.add fun w => trivial
theorem Imp.markOut {H H1 : List Asn} {ds : List Nat} (h : Sel H (dfP ds) H1) : Imp H (dfrs ds H1) := fun F S w s => by
  obtain ⟨F1, S1, F2, S2, hs, hd, hA, hH⟩ := h.sep s.sep
  have := Sep.join (H0 := dfrs ds []) (H1 := H1) ⟨F1, S1, F2, S2, hs, hd, hA, hH⟩
  rw [dfrs_app] at this
  exact ⟨F, S, ⟨this, s.ltF, s.ltS⟩, From.refl _ _ _⟩
theorem Imp.markIn {H H1 H2 : List Asn} {d : Nat} {ds : List Nat} (h : Sel H (dfr d) H1) (k : Sel H1 (dfP ds) H2) : Imp H (dfP (d :: ds) :: H2) := fun F S w s => by
  obtain ⟨F1, S1, F2, S2, ⟨a, b, c, e⟩, ⟨p, q, r⟩, hA, hH⟩ := h.sep s.sep
  obtain ⟨F3, S3, F4, S4, ⟨a', b', c', e'⟩, ⟨p', q', r'⟩, hB, hC⟩ := k.sep hH
  refine ⟨F, S, ⟨⟨F1 ++ F3, S1 ++ S3, F4, S4, ⟨subL a (subT a' b), subT b' b, subL c (subT c' e), subT e' e⟩, ⟨?_, ?_, ?_⟩, ?_, hC⟩, s.ltF, s.ltS⟩, From.refl _ _ _⟩
  · exact Apart.appL (p.mono (subR _) b') p'
  · exact Apart.appL (q.mono (subR _) e') q'
  · exact Apart.appL (r.mono (subR _) b') r'
  · exact ⟨F1, S1, F3, S3, ⟨inL _ _, inR _ _, inL _ _, inR _ _⟩, ⟨p.mono (subR _) a', q.mono (subR _) c', r.mono (subR _) a'⟩, hA, hB⟩
end Brv
/-
  The walks of package digest.
-/
set_option linter.unusedVariables false
set_option linter.unusedSimpArgs false
set_option maxRecDepth 4000
namespace Go.Proofs.Ytiggahlnplaciaa
open Go Brv
structure DtS where
  a : Option Addr
  c : Nat
structure DtO where
  rs : List URow
  r : URow
  a : Option Addr
  c : Nat
  ds : List Nat
theorem pair_ok {l : List Nat} (h : okU l) (k : Nat) : okU ((l.drop (2 * k)).take 2) := fun v hv => h v (List.mem_of_mem_drop (List.mem_of_mem_take hv))
theorem step_chunk {l : List Nat} {k : Nat} (hk : 2 * k < l.length) (hok : okU l) : nextR (l.take (2 * (k + 1))) = nextR (l.take (2 * k)) ++ [nodeN ((l.drop (2 * k)).take 2)] := by
  have e : l.take (2 * (k + 1)) = l.take (2 * k) ++ (l.drop (2 * k)).take 2 := by rw [show 2 * (k + 1) = 2 * k + 2 by omega, List.take_add]
  rw [e, nextR_app k _ _ (by rw [List.length_take]; omega)]
  congr 1
  match hq : (l.drop (2 * k)).take 2 with
  | [] => have := congrArg List.length hq; rw [List.length_take, List.length_drop] at this; simp at this; omega
  | [a] =>
    have : (nodeN [a] : Nat) = a := by unfold nodeN nodeI; simp
    simp [nextR, this]
  | [a, b] => rfl
  | a :: b :: c :: r => have := congrArg List.length hq; rw [List.length_take] at this; simp at this; omega

set_option maxHeartbeats 1000000 in
theorem dtree_ok (d g c : Nat) (cur : Array Value) (ps : List Nat) (x : List UInt8) : SpecS Try.prog 11 [.pointer (some ⟨d, 0, none⟩)] [sh (fun w => DiskL w d g c cur ps x)] (fun v H' => ∃ a n c, ∃ Rr : List URow, v = .slice a n c ∧ n = Rr.length ∧ n ≤ c ∧ Rr.map URow.l = treeD x ∧ H' = [sh (fun w => Cells w a (Rr.map URow.val) ∧ ∀ r ∈ Rr, URow.ok w r)]) := by
  refine SpecS.enter Try.func11 rfl 39 rfl (Nat.le_of_ble_eq_true rfl) (fun o => ?_)
  refine SG.fact (fun w9 F9 S9 s => (s.sh (p := fun w => DiskL w d g c cur ps x) (by repeat (first | exact Sel.keep | exact Sel.here | apply Sel.there))).le) (fun hf9 => ?_)
  have hle := hf9; clear hf9
  refine SG.fact (fun w9 F9 S9 s => (s.sh (p := fun w => DiskL w d g c cur ps x) (by repeat (first | exact Sel.keep | exact Sel.here | apply Sel.there))).pos) (fun hf9 => ?_)
  have hpos := hf9; clear hf9
  refine SG.seq ?_
  refine SG.region ?_
  refine SL.val rfl rfl (fun w9 F9 S9 s => R.as rfl) ?_
  refine SL.nil ?_
  refine SN.seq ?_
  refine SG.seq ?_
  refine SG.seq ?_
  refine SG.region ?_
  refine SL.val rfl rfl (fun w9 F9 S9 s => R.mv rfl) ?_
  refine SL.val rfl rfl (fun w9 F9 S9 s => R.eqNilP rfl rfl) ?_
  refine SL.nil ?_
  refine SN.seq ?_
  refine SG.condF rfl ?_
  refine SG.skip ?_
  refine SN.seq ?_
  refine SG.seq ?_
  refine SG.region ?_
  refine SL.step rfl rfl (CS.alloc [.slice none 0 0] rfl) ?_
  rintro _ _ ⟨b3, rfl, rfl⟩
  refine SL.nil ?_
  refine SN.seq ?_
  refine SG.seq ?_
  refine SG.seq ?_
  refine SG.region ?_
  refine SL.val rfl rfl (fun w9 F9 S9 s => R.mv rfl) ?_
  refine SL.step rfl rfl (CS.call rfl go24 (iallS_ok d) (by repeat (first | exact Sels.nil | apply Sels.cons | exact Sel.keep | exact Sel.here | apply Sel.there))) ?_
  rintro _ _ ⟨_, ⟨b1, rfl, rfl⟩, rfl⟩
  refine SL.n1 ?_
  refine SL.nil ?_
  refine SN.seq ?_
  refine SG.block ?_
  refine SG.range rfl rfl go32 (iall_iterS b1 d g c cur ps x) (X := DtS) (Y := Unit) (fun k y => [blk b3 [.slice y.a k y.c] 23, own 25 1 y.a (k) y.c (us (sumsT x k))]) (fun k y => True) (fun c k _ => []) (fun c k _ => False) (⟨none, 0⟩) (((Imp.ownNil 25 1).trans (Imp.sels (by repeat (first | exact Sels.nil | apply Sels.cons | exact Sel.keep | exact Sel.here | apply Sel.there))))) (trivial) ?_ ?_ ?_
  · rintro l k ⟨a9, c9⟩ vs p W1 hk _ ⟨ab, cb, rfl, rfl⟩
    refine ⟨rfl, ?_⟩
    refine G.region ?_
    refine L.val rfl rfl (R.as rfl) ?_
    refine L.nil ?_
    refine N.roundS (fun o9 => ?_)
    refine SG.block ?_
    refine SG.draw [2, 3, 4, 5] [0, 1, 2, 3, 4, 5] (by decide +kernel) rfl ?_
    refine SW.read rfl rfl rfl rfl (fun w9 F9 S9 s => R.ldB (v := .slice a9 k c9) rfl (s.cel (by repeat (first | exact SelB.blk | exact SelB.fz | apply SelB.there))) (by rfl)) ?_
    refine SW.pure rfl rfl rfl rfl (fun w9 => R.mv rfl) ?_
    refine SW.step rfl rfl rfl rfl (CS.call rfl go6 (dsum_ok ab 64 cb (Image.blk x k) (by decide)) (by repeat (first | exact Sels.nil | apply Sels.cons | exact Sel.keep | exact Sel.here | apply Sel.there))) ?_
    rintro _ _ ⟨_, ⟨rfl, rfl⟩, rfl⟩
    refine ⟨⟨.inr (fun w9 F9 S9 s => R.ldB (v := .slice a9 k c9) rfl (s.cel (by repeat (first | exact SelB.blk | exact SelB.fz | apply SelB.there))) (by rfl)), trivial⟩, ?_⟩
    refine SW.n0 ?_
    refine SW.be 17 rfl (congrArg (Value.int .u64) (sumN_eq (Image.blk x k)).symm) ?_
    refine SW.step rfl rfl rfl rfl (CS.buildA rfl rfl rfl rfl rfl (us [sumN (Image.blk x k)]) rfl) ?_
    rintro _ _ ⟨b18, rfl, rfl⟩
    refine ⟨⟨.inr (fun w9 F9 S9 s => R.ldB (v := .slice a9 k c9) rfl (s.cel (by repeat (first | exact SelB.blk | exact SelB.fz | apply SelB.there))) (by rfl)), trivial⟩, ?_⟩
    refine SW.step rfl rfl rfl rfl (CS.app rfl rfl (by repeat (first | exact Sel.keep | exact Sel.here | apply Sel.there)) (fun w9 F9 S9 s => s.blkC (show Sel _ (blk b18 (us [sumN (Image.blk x k)]) _) _ from (by repeat (first | exact Sel.keep | exact Sel.here | apply Sel.there)))) rfl (us_one _) (by simp [maxLen]; omega) (by omega)) ?_
    rintro _ _ ⟨a19, c19, rfl, rfl⟩
    refine ⟨⟨.inl (by decide +kernel), trivial⟩, ?_⟩
    refine SW.step0 rfl rfl rfl (CS.st rfl rfl (show Sel _ (blk b3 _ _) _ from (by repeat (first | exact Sel.keep | exact Sel.here | apply Sel.there))) (by repeat (first | exact SetAt.here | apply SetAt.there)) rfl) ?_
    rintro _ _ rfl
    refine ⟨⟨.inl (by decide +kernel), trivial⟩, ?_⟩
    refine SW.nil ?_
    refine SN.block ?_
    exact SN.next (⟨a19, c19⟩) ((show Imp _ _ by dsimp only; rw [sumsT_succ, us_app]; exact (Imp.sels (by repeat (first | exact Sels.nil | apply Sels.cons | exact Sel.keep | exact Sel.here | apply Sel.there))))) (trivial)
  · rintro d2 ⟨a9, c9⟩ _
    refine SN.fact (fun w9 F9 S9 s => s.ownL (show Sel _ (own 25 1 a9 (Image.dn x) c9 (us (sumsT x (Image.dn x)))) _ from (by repeat (first | exact Sel.keep | exact Sel.here | apply Sel.there)))) (fun hf9 => ?_)
    obtain ⟨_, hc9⟩ := hf9
    refine SN.imp (Imp.ownSh (show Sel _ (own 25 1 a9 (Image.dn x) c9 (us (sumsT x (Image.dn x)))) _ from (by repeat (first | exact Sel.keep | exact Sel.here | apply Sel.there))) (p := fun w => URow.ok w (⟨a9, Image.dn x, c9, sumsT x (Image.dn x)⟩ : URow)) (fun w h => ⟨(sumsT_len x _).symm, hc9, h⟩)) ?_
    refine SN.imp (Imp.markNone) ?_
    refine SN.imp (Imp.markIn (d := d2) (ds := []) (by repeat (first | exact Sel.keep | exact Sel.here | apply Sel.there)) (by repeat (first | exact Sel.keep | exact Sel.here | apply Sel.there))) ?_
    refine SN.block ?_
    refine SN.seq ?_
    refine SG.seq ?_
    refine SG.region ?_
    refine SL.val rfl rfl (fun w9 F9 S9 s => R.ldB (v := .slice a9 (Image.dn x) c9) rfl (s.cel (by repeat (first | exact SelB.blk | exact SelB.fz | apply SelB.there))) (by rfl)) ?_
    refine SL.step rfl rfl (CS.buildA rfl rfl rfl rfl rfl ([(⟨a9, Image.dn x, c9, sumsT x (Image.dn x)⟩ : URow)].map URow.val) rfl) ?_
    rintro _ _ ⟨b21, rfl, rfl⟩
    refine SL.imp (Imp.ownBlk (size := 1) (k := 1) (show Sel _ (blk b21 ([(⟨a9, Image.dn x, c9, sumsT x (Image.dn x)⟩ : URow)].map URow.val) 23) _ from (by repeat (first | exact Sel.keep | exact Sel.here | apply Sel.there))) rfl (by decide)) ?_
    refine SL.imp (Imp.weak (p := fun w => URow.ok w (⟨a9, Image.dn x, c9, sumsT x (Image.dn x)⟩ : URow)) (q := fun w => ∀ r ∈ [(⟨a9, Image.dn x, c9, sumsT x (Image.dn x)⟩ : URow)], URow.ok w r) (by repeat (first | exact Sel.keep | exact Sel.here | apply Sel.there)) (fun w h r hr => by rw [List.mem_singleton.1 hr]; exact h)) ?_
    refine SL.val rfl rfl (fun w9 F9 S9 s => R.as rfl) ?_
    refine SL.nil ?_
    refine SN.seq ?_
    refine SG.seq ?_
    refine SG.block ?_
    refine SG.loopN (X := DtO) (fun y => ⟨39, y.ds.map Brv.mark ++ [], none⟩) (fun y => [(3, .pointer (some ⟨b3, 0, none⟩)), (6, .slice y.a y.rs.length y.c)]) (fun y => [blk b3 [.slice y.r.a y.r.n y.r.c] 23, own 23 1 y.a (y.rs.length) y.c (y.rs.map URow.val), sh (fun w => ∀ r ∈ y.rs, URow.ok w r), sh (fun w => URow.ok w y.r), dfP y.ds]) (fun y => (∃ pre, y.rs.map URow.l = pre ++ [y.r.l] ∧ treeD x = pre ++ treeF y.r.l) ∧ okU y.r.l ∧ y.rs.length + y.r.l.length ≤ 1000) (fun y => y.r.l.length) (⟨[(⟨a9, Image.dn x, c9, sumsT x (Image.dn x)⟩ : URow)], (⟨a9, Image.dn x, c9, sumsT x (Image.dn x)⟩ : URow), some ⟨b21, 0, none⟩, 1, [d2]⟩) (fun _ => rfl) rfl (Sub.cons rfl (Sub.cons rfl (Sub.nil _))) ((Imp.sels (by repeat (first | exact Sels.nil | apply Sels.cons | exact Sel.keep | exact Sel.here | apply Sel.there)))) (⟨⟨[], rfl, by unfold treeD; rw [if_neg (by unfold Image.dn at hpos; omega)]; rfl⟩, sumsT_ok x _, by show 1 + (sumsT x (Image.dn x)).length ≤ _; rw [sumsT_len]; omega⟩) ?_
    rintro ⟨rs, r, a5, c5, ds⟩ ⟨⟨pre, hpre, htr⟩, hok, hlen⟩
    dsimp only at hpre htr hok hlen
    refine SG.fact (fun w9 F9 S9 s => (s.sh (p := fun w => URow.ok w r) (by repeat (first | exact Sel.keep | exact Sel.here | apply Sel.there))).len) (fun hf9 => ?_)
    have hrl := hf9; clear hf9
    show SG _ _ _ _ _ [(3, .pointer (some ⟨b3, 0, none⟩)), (6, .slice a5 rs.length c5)] [blk b3 [.slice r.a r.n r.c] 23, own 23 1 a5 (rs.length) c5 (rs.map URow.val), sh (fun w => ∀ r ∈ rs, URow.ok w r), sh (fun w => URow.ok w r), dfP ds] _
    refine SG.seq ?_
    refine SG.seq ?_
    refine SG.region ?_
    refine SL.val rfl rfl (fun w9 F9 S9 s => R.ldB (v := .slice r.a r.n r.c) rfl (s.cel (by repeat (first | exact SelB.blk | exact SelB.fz | apply SelB.there))) (by rfl)) ?_
    refine SL.val rfl rfl (fun w9 F9 S9 s => R.lenS rfl) ?_
    refine SL.val rfl rfl (fun w9 F9 S9 s => R.gtr rfl rfl) ?_
    refine SL.nil ?_
    refine SN.seq ?_
    refine SG.condP rfl (fun h1 => ?_) (fun h1 => ?_)
    · refine SG.skip ?_
      refine SN.seq ?_
      refine SG.block ?_
      refine SG.seq ?_
      refine SG.region ?_
      refine SL.step rfl rfl (CS.alloc [.slice none 0 0] rfl) ?_
      rintro _ _ ⟨b7, rfl, rfl⟩
      refine SL.nil ?_
      refine SN.seq ?_
      refine SG.seq ?_
      refine SG.seq ?_
      refine SG.region ?_
      refine SL.val rfl rfl (fun w9 F9 S9 s => R.ldB (v := .slice r.a r.n r.c) rfl (s.cel (by repeat (first | exact SelB.blk | exact SelB.fz | apply SelB.there))) (by rfl)) ?_
      refine SL.step rfl rfl (CS.call rfl go25 (chunk_ok r) (by repeat (first | exact Sels.nil | apply Sels.cons | exact Sel.keep | exact Sel.here | apply Sel.there))) ?_
      rintro _ _ ⟨_, ⟨b26, b27, rfl, rfl⟩, rfl⟩
      refine SL.n2 ?_
      refine SL.nil ?_
      refine SN.seq ?_
      refine SG.block ?_
      refine SG.range rfl rfl go33 (chunk_iterS b26 b27 r (by omega)) (X := DtS) (Y := Unit) (fun k y => [blk b7 [.slice y.a k y.c] 23, own 25 1 y.a (k) y.c (us (nextR (r.l.take (2 * k)))), blk b3 [.slice r.a r.n r.c] 23, own 23 1 a5 (rs.length) c5 (rs.map URow.val), sh (fun w => ∀ r ∈ rs, URow.ok w r), dfP ds]) (fun k y => True) (fun c k _ => []) (fun c k _ => False) (⟨none, 0⟩) (((Imp.ownNil 25 1).trans (Imp.sels (by repeat (first | exact Sels.nil | apply Sels.cons | exact Sel.keep | exact Sel.here | apply Sel.there))))) (trivial) ?_ ?_ ?_
      · rintro l k ⟨a9, c9⟩ vs p W1 hk _ ⟨ab, mb, cb, rfl, hmb, hmc, rfl⟩
        refine ⟨rfl, ?_⟩
        refine G.region ?_
        refine L.val rfl rfl (R.as rfl) ?_
        refine L.nil ?_
        refine N.roundS (fun o9 => ?_)
        refine SG.block ?_
        refine SG.draw [2, 3, 4, 5] [0, 1, 2, 3, 4, 5] (by decide +kernel) rfl ?_
        refine SW.read rfl rfl rfl rfl (fun w9 F9 S9 s => R.ldB (v := .slice a9 k c9) rfl (s.cel (by repeat (first | exact SelB.blk | exact SelB.fz | apply SelB.there))) (by rfl)) ?_
        refine SW.pure rfl rfl rfl rfl (fun w9 => R.mv rfl) ?_
        refine SW.step rfl rfl rfl rfl (CS.call rfl go8 (dnode_ok ab mb cb ((r.l.drop (2 * k)).take 2) hmb (by rw [hmb, List.length_take]; omega) (pair_ok hok k)) (by repeat (first | exact Sels.nil | apply Sels.cons | exact Sel.keep | exact Sel.here | apply Sel.there))) ?_
        rintro _ _ ⟨_, ⟨rfl, rfl⟩, rfl⟩
        refine ⟨⟨.inr (fun w9 F9 S9 s => R.ldB (v := .slice a9 k c9) rfl (s.cel (by repeat (first | exact SelB.blk | exact SelB.fz | apply SelB.there))) (by rfl)), trivial⟩, ?_⟩
        refine SW.n0 ?_
        refine SW.be 30 rfl (congrArg (Value.int .u64) (nodeN_eq (pair_ok hok k)).symm) ?_
        refine SW.step rfl rfl rfl rfl (CS.buildA rfl rfl rfl rfl rfl (us [nodeN ((r.l.drop (2 * k)).take 2)]) rfl) ?_
        rintro _ _ ⟨b31, rfl, rfl⟩
        refine ⟨⟨.inr (fun w9 F9 S9 s => R.ldB (v := .slice a9 k c9) rfl (s.cel (by repeat (first | exact SelB.blk | exact SelB.fz | apply SelB.there))) (by rfl)), trivial⟩, ?_⟩
        refine SW.step rfl rfl rfl rfl (CS.app rfl rfl (by repeat (first | exact Sel.keep | exact Sel.here | apply Sel.there)) (fun w9 F9 S9 s => s.blkC (show Sel _ (blk b31 (us [nodeN ((r.l.drop (2 * k)).take 2)]) _) _ from (by repeat (first | exact Sel.keep | exact Sel.here | apply Sel.there)))) rfl (us_one _) (by simp [maxLen]; omega) (by omega)) ?_
        rintro _ _ ⟨a32, c32, rfl, rfl⟩
        refine ⟨⟨.inl (by decide +kernel), trivial⟩, ?_⟩
        refine SW.step0 rfl rfl rfl (CS.st rfl rfl (show Sel _ (blk b7 _ _) _ from (by repeat (first | exact Sel.keep | exact Sel.here | apply Sel.there))) (by repeat (first | exact SetAt.here | apply SetAt.there)) rfl) ?_
        rintro _ _ rfl
        refine ⟨⟨.inl (by decide +kernel), trivial⟩, ?_⟩
        refine SW.nil ?_
        refine SN.block ?_
        exact SN.next (⟨a32, c32⟩) ((show Imp _ _ by dsimp only; rw [step_chunk (by omega) hok, us_app]; exact (Imp.sels (by repeat (first | exact Sels.nil | apply Sels.cons | exact Sel.keep | exact Sel.here | apply Sel.there))))) (trivial)
      · rintro d3 ⟨a9, c9⟩ _
        rw [List.take_of_length_le (show r.l.length ≤ 2 * ((r.n + 1) / 2) by omega)]
        refine SN.fact (fun w9 F9 S9 s => s.ownL (show Sel _ (own 25 1 a9 ((r.n + 1) / 2) c9 (us (nextR r.l))) _ from (by repeat (first | exact Sel.keep | exact Sel.here | apply Sel.there)))) (fun hf9 => ?_)
        obtain ⟨_, hc9⟩ := hf9
        refine SN.imp (Imp.ownSh (show Sel _ (own 25 1 a9 ((r.n + 1) / 2) c9 (us (nextR r.l))) _ from (by repeat (first | exact Sel.keep | exact Sel.here | apply Sel.there))) (p := fun w => URow.ok w (⟨a9, (r.n + 1) / 2, c9, nextR r.l⟩ : URow)) (fun w h => ⟨by show (r.n + 1) / 2 = (nextR r.l).length; rw [nextR_len, ← hrl], hc9, h⟩)) ?_
        refine SN.block ?_
        refine SN.seq ?_
        refine SG.draw [2, 3, 6] [0, 1, 4, 2, 3, 5, 6] (by decide +kernel) rfl ?_
        refine SW.pure rfl rfl rfl rfl (fun w9 => R.mv rfl) ?_
        refine SW.read rfl rfl rfl rfl (fun w9 F9 S9 s => R.ldB (v := URow.val (⟨a9, (r.n + 1) / 2, c9, nextR r.l⟩ : URow)) rfl (s.cel (by repeat (first | exact SelB.blk | exact SelB.fz | apply SelB.there))) (by rfl)) ?_
        refine SW.read rfl rfl rfl rfl (fun w9 F9 S9 s => R.ldB (v := URow.val (⟨a9, (r.n + 1) / 2, c9, nextR r.l⟩ : URow)) rfl (s.cel (by repeat (first | exact SelB.blk | exact SelB.fz | apply SelB.there))) (by rfl)) ?_
        refine SW.step rfl rfl rfl rfl (CS.buildA rfl rfl rfl rfl rfl ([(⟨a9, (r.n + 1) / 2, c9, nextR r.l⟩ : URow)].map URow.val) rfl) ?_
        rintro _ _ ⟨b35, rfl, rfl⟩
        refine ⟨⟨.inr (fun w9 F9 S9 s => R.ldB (v := URow.val (⟨a9, (r.n + 1) / 2, c9, nextR r.l⟩ : URow)) rfl (s.cel (by repeat (first | exact SelB.blk | exact SelB.fz | apply SelB.there))) (by rfl)), ⟨.inl (by decide +kernel), trivial⟩⟩, ?_⟩
        refine SW.step rfl rfl rfl rfl (CS.app rfl rfl (show Sel _ (own 23 1 a5 (rs.length) c5 (rs.map URow.val)) _ from (by repeat (first | exact Sel.keep | exact Sel.here | apply Sel.there))) (fun w9 F9 S9 s => s.blkC (show Sel _ (blk b35 ([(⟨a9, (r.n + 1) / 2, c9, nextR r.l⟩ : URow)].map URow.val) _) _ from (by repeat (first | exact Sel.keep | exact Sel.here | apply Sel.there)))) rfl (by intro u hu; simp only [List.map_cons, List.map_nil, List.mem_singleton] at hu; subst hu; rfl) (by simp [maxLen]; omega) (by omega)) ?_
        rintro _ _ ⟨a36, c36, rfl, rfl⟩
        refine ⟨⟨.inr (fun w9 F9 S9 s => R.ldB (v := URow.val (⟨a9, (r.n + 1) / 2, c9, nextR r.l⟩ : URow)) rfl (s.cel (by repeat (first | exact SelB.blk | exact SelB.fz | apply SelB.there))) (by rfl)), ⟨.inl (by decide +kernel), trivial⟩⟩, ?_⟩
        refine SW.pure rfl rfl rfl rfl (fun w9 => R.as rfl) ?_
        refine SW.step0 rfl rfl rfl (CS.st rfl rfl (show Sel _ (blk b3 _ _) _ from (by repeat (first | exact Sel.keep | exact Sel.here | apply Sel.there))) (by repeat (first | exact SetAt.here | apply SetAt.there)) rfl) ?_
        rintro _ _ rfl
        refine ⟨⟨.inl (by decide +kernel), ⟨.inl (by decide +kernel), trivial⟩⟩, ?_⟩
        refine SW.nil ?_
        refine SN.imp (Imp.both (p := fun w => ∀ r ∈ rs, URow.ok w r) (q := fun w => URow.ok w (⟨a9, (r.n + 1) / 2, c9, nextR r.l⟩ : URow)) (by repeat (first | exact Sel.keep | exact Sel.here | apply Sel.there)) (by repeat (first | exact Sel.keep | exact Sel.here | apply Sel.there))) ?_
        refine SN.imp (Imp.weak (p := fun w => (∀ r ∈ rs, URow.ok w r) ∧ URow.ok w (⟨a9, (r.n + 1) / 2, c9, nextR r.l⟩ : URow)) (q := fun w => ∀ q ∈ rs ++ [(⟨a9, (r.n + 1) / 2, c9, nextR r.l⟩ : URow)], URow.ok w q) (by repeat (first | exact Sel.keep | exact Sel.here | apply Sel.there)) (fun w hw q hq => (List.mem_append.1 hq).elim (hw.1 q) (fun h => by rw [List.mem_singleton.1 h]; exact hw.2))) ?_
        refine SN.imp (Imp.markIn (d := d3) (ds := ds) (by repeat (first | exact Sel.keep | exact Sel.here | apply Sel.there)) (by repeat (first | exact Sel.keep | exact Sel.here | apply Sel.there))) ?_
        refine SN.be 6 rfl (show Value.slice a36 (rs.length + 1) c36 = .slice a36 (rs ++ [(⟨a9, (r.n + 1) / 2, c9, nextR r.l⟩ : URow)]).length c36 by rw [List.length_append]; rfl) ?_
        refine SN.block ?_
        exact SN.againN (⟨rs ++ [(⟨a9, (r.n + 1) / 2, c9, nextR r.l⟩ : URow)], (⟨a9, (r.n + 1) / 2, c9, nextR r.l⟩ : URow), a36, c36, d3 :: ds⟩) rfl (by show (nextR r.l).length < r.l.length; rw [nextR_len]; omega) (Sub.cons rfl (Sub.cons rfl (Sub.nil _))) ((show Imp _ _ by dsimp only; rw [List.length_append, List.map_append]; exact (Imp.sels (by repeat (first | exact Sels.nil | apply Sels.cons | exact Sel.keep | exact Sel.here | apply Sel.there))))) (⟨⟨pre ++ [r.l], by rw [List.map_append, hpre]; rfl, by rw [htr, treeF_more (by omega), List.append_assoc]; rfl⟩, nextR_ok hok, by show (rs ++ [(⟨a9, (r.n + 1) / 2, c9, nextR r.l⟩ : URow)]).length + (nextR r.l).length ≤ 1000; rw [nextR_len, List.length_append]; simp only [List.length_singleton]; omega⟩)
      · rintro d k c _ hk ⟨⟩
    · have h1l : r.l.length ≤ 1 := by omega
      rw [treeF_one h1l, ← hpre] at htr
      refine SG.fact (fun w9 F9 S9 s => s.ownL (show Sel _ (own 23 1 a5 (rs.length) c5 (rs.map URow.val)) _ from (by repeat (first | exact Sel.keep | exact Sel.here | apply Sel.there)))) (fun hf9 => ?_)
      obtain ⟨_, hc5⟩ := hf9
      refine SG.imp (Imp.ownSh (show Sel _ (own 23 1 a5 (rs.length) c5 (rs.map URow.val)) _ from (by repeat (first | exact Sel.keep | exact Sel.here | apply Sel.there))) (p := fun w => Cells w a5 (rs.map URow.val)) (fun w h => h)) ?_
      refine SG.imp (Imp.both (p := fun w => Cells w a5 (rs.map URow.val)) (q := fun w => ∀ r ∈ rs, URow.ok w r) (by repeat (first | exact Sel.keep | exact Sel.here | apply Sel.there)) (by repeat (first | exact Sel.keep | exact Sel.here | apply Sel.there))) ?_
      refine SG.exit _ rfl ?_
      refine SN.seq ?_
      refine SG.seq ?_
      refine SG.region ?_
      refine SL.val rfl rfl (fun w9 F9 S9 s => R.mv rfl) ?_
      refine SL.val rfl rfl (fun w9 F9 S9 s => R.as rfl) ?_
      refine SL.nil ?_
      refine SN.seq ?_
      refine SG.imp (Imp.markOut (ds := ds) (by repeat (first | exact Sel.keep | exact Sel.here | apply Sel.there))) ?_
      exact SG.ret1M rfl rfl (Dfrs.many Dfrs.nil) ((Imp.sels (by repeat (first | exact Sels.nil | apply Sels.cons | exact Sel.keep | exact Sel.here | apply Sel.there)))) (⟨a5, rs.length, c5, rs, rfl, rfl, hc5, htr.symm, rfl⟩)
  · rintro d k c _ hk ⟨⟩

end Go.Proofs.Ytiggahlnplaciaa
/-
  The walks of package digest.
-/
set_option linter.unusedVariables false
set_option linter.unusedSimpArgs false
set_option maxRecDepth 4000
namespace Go.Proofs.Ytiggahlnplaciaa
open Go Brv
theorem treeF_top : ∀ (n : Nat) (r : List Nat), r.length ≤ n → r ≠ [] → ∃ v, (treeF r).getLast? = some [v]
  | 0, r, h, hr => (hr (List.eq_nil_of_length_eq_zero (by omega))).elim
  | n + 1, r, h, hr => by
    by_cases h1 : r.length ≤ 1
    · rw [treeF_one h1]
      match r, hr, h1 with
      | [v], _, _ => exact ⟨v, rfl⟩
    · have hn : nextR r ≠ [] := fun e => by have := congrArg List.length e; rw [nextR_len] at this; simp at this; omega
      obtain ⟨v, hv⟩ := treeF_top n (nextR r) (by rw [nextR_len]; omega) hn
      obtain ⟨t, ht⟩ := treeF_cons (nextR r)
      refine ⟨v, ?_⟩
      rw [treeF_more h1, ht, List.getLast?_cons_cons, ← ht, hv]
theorem treeF_len : ∀ (n : Nat) (r : List Nat), r.length ≤ n → (treeF r).length ≤ n + 1
  | 0, r, h => by rw [treeF_one (by omega)]; simp
  | n + 1, r, h => by
    by_cases h1 : r.length ≤ 1
    · rw [treeF_one h1]; simp
    · rw [treeF_more h1, List.length_cons]
      have := treeF_len n (nextR r) (by rw [nextR_len]; omega)
      omega
theorem treeD_len (x : List UInt8) : (treeD x).length ≤ x.length / 64 + 1 := by
  unfold treeD
  split
  · simp
  · exact treeF_len _ _ (by rw [sumsT_len]; exact Nat.le_refl _)
/-- A disk's root. -/
def rootD (x : List UInt8) : Nat := ((((treeD x).getLast?).getD [])[0]?).getD 0
theorem treeD_top {x : List UInt8} (h : 1 ≤ x.length / 64) : ∃ v, (treeD x).getLast? = some [v] ∧ rootD x = v := by
  have h2 : treeD x = treeF (sumsT x (x.length / 64)) := if_neg (by omega)
  obtain ⟨v, hv⟩ := treeF_top _ (sumsT x (x.length / 64)) (Nat.le_refl _) (fun e => by have := congrArg List.length e; rw [sumsT_len] at this; simp at this; omega)
  refine ⟨v, by rw [h2, hv], ?_⟩
  unfold rootD
  rw [h2, hv]; rfl
theorem row_topp {Rr : List URow} {x : List UInt8} (hR : Rr.map URow.l = treeD x) {v : Nat} (hv : (treeD x).getLast? = some [v]) : 0 < Rr.length ∧ ∃ r, Rr[Rr.length - 1]? = some r ∧ r.l = [v] := by
  rw [← hR, List.getLast?_eq_getElem?, List.length_map, List.getElem?_map] at hv
  cases hq : Rr[Rr.length - 1]? with
  | none => rw [hq] at hv; cases hv
  | some r =>
    rw [hq] at hv
    exact ⟨by have := (List.getElem?_eq_some_iff.1 hq).1; omega, r, rfl, by simpa using hv⟩
theorem rows_pt {w : World} {a : Option Addr} {i : Nat} {Rr : List URow} {r : URow} (h : Cells w a (Rr.map URow.val)) (hr : Rr[i]? = some r) : ∃ q, a = some q :=
  let ⟨q, hq, _⟩ := h i r.val (by rw [List.getElem?_map, hr]; rfl); ⟨q, hq⟩
theorem rows_ld {w : World} {a : Option Addr} {i : Nat} {Rr : List URow} {r : URow} {q : Addr} (h : Cells w a (Rr.map URow.val)) (hq : a = some q) (hr : Rr[i]? = some r) : w.cell? (q.add ((i : Int).toNat * 1)) = some (.slice r.a r.n r.c) := by
  obtain ⟨p, hp, hc⟩ := h i r.val (by rw [List.getElem?_map, hr]; rfl)
  rw [hq] at hp; cases hp
  rw [Int.toNat_natCast, Nat.mul_one]; exact hc

theorem droot_ok (d g c : Nat) (cur : Array Value) (ps : List Nat) (x : List UInt8) : SpecS Try.prog 13 [.pointer (some ⟨d, 0, none⟩)] [sh (fun w => DiskL w d g c cur ps x)] (fun v9 H' => v9 = .int .u64 (rootD x : Int) ∧ H' = []) := by
  refine SpecS.enter Try.func13 rfl 17 rfl (Nat.le_of_ble_eq_true rfl) (fun o => ?_)
  refine SG.fact (fun w9 F9 S9 s => (s.sh (p := fun w => DiskL w d g c cur ps x) (by repeat (first | exact Sel.keep | exact Sel.here | apply Sel.there))).pos) (fun hf9 => ?_)
  have hpos := hf9; clear hf9
  refine SG.fact (fun w9 F9 S9 s => (s.sh (p := fun w => DiskL w d g c cur ps x) (by repeat (first | exact Sel.keep | exact Sel.here | apply Sel.there))).le) (fun hf9 => ?_)
  have hle := hf9; clear hf9
  obtain ⟨v, hv, hrt⟩ := treeD_top (x := x) hpos
  have htl := treeD_len x
  unfold Image.dn at hle
  refine SG.seq ?_
  refine SG.region ?_
  refine SL.val rfl rfl (fun w9 F9 S9 s => R.as rfl) ?_
  refine SL.nil ?_
  refine SN.seq ?_
  refine SG.seq ?_
  refine SG.region ?_
  refine SL.val rfl rfl (fun w9 F9 S9 s => R.mv rfl) ?_
  refine SL.step rfl rfl (CS.call rfl go11 (dtree_ok d g c cur ps x) (by repeat (first | exact Sels.nil | apply Sels.cons | exact Sel.keep | exact Sel.here | apply Sel.there))) ?_
  rintro _ _ ⟨_, ⟨a5, n5, c5, Rr, rfl, rfl, hc5, hRr, rfl⟩, rfl⟩
  refine SL.n1 ?_
  obtain ⟨hRl, r9, hr9, hrl9⟩ := row_topp hRr hv
  rw [← hRr, List.length_map] at htl
  refine SL.val rfl rfl (fun w9 F9 S9 s => R.as rfl) ?_
  refine SL.nil ?_
  refine SN.seq ?_
  refine SG.seq ?_
  refine SG.seq ?_
  refine SG.region ?_
  refine SL.val rfl rfl (fun w9 F9 S9 s => R.mv rfl) ?_
  refine SL.val rfl rfl (fun w9 F9 S9 s => R.lenS rfl) ?_
  refine SL.val rfl rfl (fun w9 F9 S9 s => R.eqI rfl rfl) ?_
  refine SL.nil ?_
  refine SN.seq ?_
  refine SG.condP rfl (fun h0 => ?_) (fun h0 => ?_)
  · exfalso; omega
  · have hrm := List.mem_of_getElem? hr9
    refine SG.fact (fun w9 F9 S9 s => rows_pt (s.sh (p := (fun w => Cells w a5 (Rr.map URow.val) ∧ ∀ r ∈ Rr, URow.ok w r)) (by repeat (first | exact Sel.keep | exact Sel.here | apply Sel.there))).1 hr9) (fun hf9 => ?_)
    obtain ⟨q, hq⟩ := hf9
    refine SG.fact (fun w9 F9 S9 s => ((s.sh (p := (fun w => Cells w a5 (Rr.map URow.val) ∧ ∀ r ∈ Rr, URow.ok w r)) (by repeat (first | exact Sel.keep | exact Sel.here | apply Sel.there))).2 r9 hrm).len) (fun hf9 => ?_)
    have hn9 := hf9; clear hf9
    have hl1 : r9.l.length = 1 := by rw [hrl9]; rfl
    have hr0 : r9.l[0]? = some v := by rw [hrl9]; rfl
    refine SG.fact (fun w9 F9 S9 s => us_pt ((s.sh (p := (fun w => Cells w a5 (Rr.map URow.val) ∧ ∀ r ∈ Rr, URow.ok w r)) (by repeat (first | exact Sel.keep | exact Sel.here | apply Sel.there))).2 r9 hrm).cells hr0) (fun hf9 => ?_)
    obtain ⟨q2, hq2⟩ := hf9
    refine SG.skip ?_
    refine SN.seq ?_
    refine SG.seq ?_
    refine SG.region ?_
    refine SL.val rfl rfl (fun w9 F9 S9 s => R.mv rfl) ?_
    refine SL.val rfl rfl (fun w9 F9 S9 s => R.mv rfl) ?_
    refine SL.val rfl rfl (fun w9 F9 S9 s => R.lenS rfl) ?_
    refine SL.val rfl rfl (fun w9 F9 S9 s => R.sub' rfl rfl (by omega)) ?_
    refine SL.be 12 rfl (congrArg (Value.int .i64) (show (Rr.length : Int) - 1 = ((Rr.length - 1 : Nat) : Int) by omega)) ?_
    refine SL.val rfl rfl (fun w9 F9 S9 s => R.idx rfl rfl (by omega) (by omega) q hq) ?_
    refine SL.val rfl rfl (fun w9 F9 S9 s => R.ld (v := .slice r9.a r9.n r9.c) rfl (rows_ld (s.sh (p := (fun w => Cells w a5 (Rr.map URow.val) ∧ ∀ r ∈ Rr, URow.ok w r)) (by repeat (first | exact Sel.keep | exact Sel.here | apply Sel.there))).1 hq hr9)) ?_
    refine SL.val rfl rfl (fun w9 F9 S9 s => R.idx (i := 0) rfl rfl (by omega) (by omega) q2 hq2) ?_
    refine SL.val rfl rfl (fun w9 F9 S9 s => R.ld (v := .int .u64 (v : Int)) rfl (us_ld (i := 0) ((s.sh (p := (fun w => Cells w a5 (Rr.map URow.val) ∧ ∀ r ∈ Rr, URow.ok w r)) (by repeat (first | exact Sel.keep | exact Sel.here | apply Sel.there))).2 r9 hrm).cells hq2 hr0)) ?_
    refine SL.val rfl rfl (fun w9 F9 S9 s => R.as rfl) ?_
    refine SL.nil ?_
    refine SN.seq ?_
    exact SG.ret1 rfl rfl (Imp.sels Sels.nil) (⟨by rw [hrt], rfl⟩)

end Go.Proofs.Ytiggahlnplaciaa
/-
  The walks of package digest.
-/
set_option linter.unusedVariables false
set_option linter.unusedSimpArgs false
set_option maxRecDepth 4000
namespace Go.Proofs.Ytiggahlnplaciaa
open Go Brv
def beside (b : Nat) : Nat := if b % 2 = 0 then b + 1 else b - 1
theorem xor_beside : ∀ b : Nat, b < 64 → xorI .i64 (b : Int) 1 = ((beside b : Nat) : Int) := by decide +kernel
/-- A block's proof: what lies beside, row by row. -/
def proofF : List (List Nat) → Nat → List Nat
  | [], _ => []
  | r :: rs, b => (match r[beside b]? with
    | some v => [v]
    | none => []) ++ proofF rs (b / 2)
def halves : Nat → Nat → Nat
  | 0, b => b
  | k + 1, b => halves k b / 2
theorem proofF_snoc : ∀ (rs : List (List Nat)) (r : List Nat) (b : Nat), proofF (rs ++ [r]) b = proofF rs b ++ (match r[beside (halves rs.length b)]? with
    | some v => [v]
    | none => [])
  | [], r, b => by simp [proofF, halves]
  | x :: rs, r, b => by
    have h1 : ∀ (k b : Nat), halves k (b / 2) = halves (k + 1) b := by
      intro k
      induction k with
      | zero => intro b; rfl
      | succ k ih => intro b; simp only [halves] at ih ⊢; rw [ih]
    have := proofF_snoc rs r (b / 2)
    simp only [List.cons_append, proofF, this, List.append_assoc, List.length_cons, h1]
theorem halves_le (k b : Nat) : halves k b ≤ b := by
  induction k with
  | zero => exact Nat.le_refl _
  | succ k ih => simp only [halves]; omega

theorem dproof_ok (ta : Option Addr) (tc : Nat) (Rr : List URow) (r0 : URow) (b : Nat) (hr0 : Rr[0]? = some r0) (hb : b < r0.l.length) (hb2 : b < 64) (hlen : Rr.length ≤ 1000) (htc : Rr.length ≤ tc) : SpecS Try.prog 21 [.slice ta Rr.length tc, .int .i64 (b : Int)] [sh (fun w => Cells w ta (Rr.map URow.val) ∧ ∀ r ∈ Rr, URow.ok w r)] (fun v H' => ∃ a c, v = .slice a (proofF ((Rr.take (Rr.length - 1)).map URow.l) b).length c ∧ H' = [own 25 1 a ((proofF ((Rr.take (Rr.length - 1)).map URow.l) b).length) c (us (proofF ((Rr.take (Rr.length - 1)).map URow.l) b))]) := by
  refine SpecS.enter Try.func21 rfl 51 rfl (Nat.le_of_ble_eq_true rfl) (fun o => ?_)
  have hr0m := List.mem_of_getElem? hr0
  refine SG.fact (fun w9 F9 S9 s => rows_pt (s.sh (p := (fun w => Cells w ta (Rr.map URow.val) ∧ ∀ r ∈ Rr, URow.ok w r)) (by repeat (first | exact Sel.keep | exact Sel.here | apply Sel.there))).1 hr0) (fun hf9 => ?_)
  obtain ⟨q0, hq0⟩ := hf9
  refine SG.fact (fun w9 F9 S9 s => ((s.sh (p := (fun w => Cells w ta (Rr.map URow.val) ∧ ∀ r ∈ Rr, URow.ok w r)) (by repeat (first | exact Sel.keep | exact Sel.here | apply Sel.there))).2 r0 hr0m).len) (fun hf9 => ?_)
  have hn0 := hf9; clear hf9
  have hRl : 0 < Rr.length := (List.getElem?_eq_some_iff.1 hr0).1
  have hsub : subA ta 0 tc 1 = ta := subA_zero _ _ _
  refine SG.seq ?_
  refine SG.region ?_
  refine SL.val rfl rfl (fun w9 F9 S9 s => R.as rfl) ?_
  refine SL.nil ?_
  refine SN.seq ?_
  refine SG.seq ?_
  refine SG.seq ?_
  refine SG.region ?_
  refine SL.val rfl rfl (fun w9 F9 S9 s => R.mv rfl) ?_
  refine SL.val rfl rfl (fun w9 F9 S9 s => R.lenS rfl) ?_
  refine SL.val rfl rfl (fun w9 F9 S9 s => R.eqI rfl rfl) ?_
  refine SL.val rfl rfl (fun w9 F9 S9 s => R.mv rfl) ?_
  refine SL.caseP 12 rfl (fun hg1_3 => ?_) (fun hg1_3 => ?_)
  · exfalso; omega
  · refine SL.val rfl rfl (fun w9 F9 S9 s => R.mv rfl) ?_
    refine SL.val rfl rfl (fun w9 F9 S9 s => R.lss rfl rfl) ?_
    first | refine SL.val rfl rfl (fun w9 F9 S9 s => R.pickT rfl rfl) ?_ | refine SL.val rfl rfl (fun w9 F9 S9 s => R.pickF rfl rfl) ?_
    refine SL.val rfl rfl (fun w9 F9 S9 s => R.mv rfl) ?_
    refine SL.caseP 16 rfl (fun hg1_7 => ?_) (fun hg1_7 => ?_)
    · exfalso; omega
    · refine SL.val rfl rfl (fun w9 F9 S9 s => R.mv rfl) ?_
      refine SL.val rfl rfl (fun w9 F9 S9 s => R.mv rfl) ?_
      refine SL.val rfl rfl (fun w9 F9 S9 s => R.idx (i := 0) rfl rfl (by omega) (by omega) q0 hq0) ?_
      refine SL.val rfl rfl (fun w9 F9 S9 s => R.ld (v := .slice r0.a r0.n r0.c) rfl (rows_ld (i := 0) (s.sh (p := (fun w => Cells w ta (Rr.map URow.val) ∧ ∀ r ∈ Rr, URow.ok w r)) (by repeat (first | exact Sel.keep | exact Sel.here | apply Sel.there))).1 hq0 hr0)) ?_
      refine SL.val rfl rfl (fun w9 F9 S9 s => R.lenS rfl) ?_
      refine SL.val rfl rfl (fun w9 F9 S9 s => R.geq rfl rfl) ?_
      first | refine SL.val rfl rfl (fun w9 F9 S9 s => R.pickT rfl rfl) ?_ | refine SL.val rfl rfl (fun w9 F9 S9 s => R.pickF rfl rfl) ?_
      refine SL.nil ?_
      refine SN.seq ?_
      refine SG.condP rfl (fun h0 => ?_) (fun h0 => ?_)
      · exfalso; omega
      · refine SG.skip ?_
        refine SN.seq ?_
        refine SG.seq ?_
        refine SG.region ?_
        refine SL.val rfl rfl (fun w9 F9 S9 s => R.as rfl) ?_
        refine SL.nil ?_
        refine SN.seq ?_
        refine SG.seq ?_
        refine SG.seq ?_
        refine SG.region ?_
        refine SL.val rfl rfl (fun w9 F9 S9 s => R.mv rfl) ?_
        refine SL.val rfl rfl (fun w9 F9 S9 s => R.mv rfl) ?_
        refine SL.val rfl rfl (fun w9 F9 S9 s => R.lenS rfl) ?_
        refine SL.val rfl rfl (fun w9 F9 S9 s => R.sub' rfl rfl (by omega)) ?_
        refine SL.val rfl rfl (fun w9 F9 S9 s => R.slH (j := (Rr.length : Int) - 1) rfl rfl (by omega) (by omega)) ?_
        refine SL.val rfl rfl (fun w9 F9 S9 s => R.lenS rfl) ?_
        refine SL.val rfl rfl (fun w9 F9 S9 s => R.mv rfl) ?_
        refine SL.nil ?_
        refine SN.seq ?_
        refine SG.block ?_
        refine SG.imp (Imp.ownNil 25 1) ?_
        refine SG.loop (X := RtS) (fun y => [(1, .int .i64 (halves y.i b : Int)), (5, .slice y.a (proofF ((Rr.take y.i).map URow.l) b).length y.c), (28, .slice (subA ta 0 tc 1) ((Rr.length : Int) - 1).toNat tc), (29, .int .i64 ((((Rr.length : Int) - 1).toNat : Nat) : Int)), (30, .int .i64 (y.i : Int))]) (fun y => [sh (fun w => Cells w ta (Rr.map URow.val) ∧ ∀ r ∈ Rr, URow.ok w r), own 25 1 y.a ((proofF ((Rr.take y.i).map URow.l) b).length) y.c (us (proofF ((Rr.take y.i).map URow.l) b))]) (fun y => y.i ≤ Rr.length - 1 ∧ (proofF ((Rr.take y.i).map URow.l) b).length ≤ y.i) (fun y => Rr.length - y.i) (⟨0, none, 0⟩) (Sub.cons rfl (Sub.cons rfl (Sub.cons rfl (Sub.cons rfl (Sub.cons rfl (Sub.nil _)))))) ((Imp.sels (by repeat (first | exact Sels.nil | apply Sels.cons | exact Sel.keep | exact Sel.here | apply Sel.there)))) (⟨Nat.zero_le _, Nat.le_refl _⟩) ?_
        rintro ⟨i, a9, c9⟩ ⟨hi, hpl⟩
        dsimp only at hi hpl
        have hhb := halves_le i b
        show SG _ _ _ _ _ [(1, .int .i64 (halves i b : Int)), (5, .slice a9 (proofF ((Rr.take i).map URow.l) b).length c9), (28, .slice (subA ta 0 tc 1) ((Rr.length : Int) - 1).toNat tc), (29, .int .i64 ((((Rr.length : Int) - 1).toNat : Nat) : Int)), (30, .int .i64 (i : Int))] [sh (fun w => Cells w ta (Rr.map URow.val) ∧ ∀ r ∈ Rr, URow.ok w r), own 25 1 a9 ((proofF ((Rr.take i).map URow.l) b).length) c9 (us (proofF ((Rr.take i).map URow.l) b))] _
        refine SG.seq ?_
        refine SG.region ?_
        refine SL.val rfl rfl (fun w9 F9 S9 s => R.lss rfl rfl) ?_
        refine SL.nil ?_
        refine SN.seq ?_
        refine SG.seq ?_
        refine SG.condP rfl (fun h1 => ?_) (fun h1 => ?_)
        · obtain ⟨r, hr⟩ : ∃ r, Rr[i]? = some r := ⟨_, List.getElem?_eq_getElem (by omega)⟩
          have hrm := List.mem_of_getElem? hr
          refine SG.fact (fun w9 F9 S9 s => rows_pt (s.sh (p := (fun w => Cells w ta (Rr.map URow.val) ∧ ∀ r ∈ Rr, URow.ok w r)) (by repeat (first | exact Sel.keep | exact Sel.here | apply Sel.there))).1 hr) (fun hf9 => ?_)
          obtain ⟨q, hq⟩ := hf9
          refine SG.fact (fun w9 F9 S9 s => ((s.sh (p := (fun w => Cells w ta (Rr.map URow.val) ∧ ∀ r ∈ Rr, URow.ok w r)) (by repeat (first | exact Sel.keep | exact Sel.here | apply Sel.there))).2 r hrm).len) (fun hf9 => ?_)
          have hnr := hf9; clear hf9
          have htk : (Rr.take (i + 1)).map URow.l = (Rr.take i).map URow.l ++ [r.l] := by rw [List.take_add_one, hr, List.map_append]; rfl
          have hps := proofF_snoc ((Rr.take i).map URow.l) r.l b
          rw [← htk, List.length_map, List.length_take, Nat.min_eq_left (by omega)] at hps
          refine SG.skip ?_
          refine SN.seq ?_
          refine SG.seq ?_
          refine SG.block ?_
          refine SG.seq ?_
          refine SG.region ?_
          refine SL.val rfl rfl (fun w9 F9 S9 s => R.idx rfl rfl (by omega) (by omega) q (hsub.trans hq)) ?_
          refine SL.val rfl rfl (fun w9 F9 S9 s => R.ld (v := .slice r.a r.n r.c) rfl (rows_ld (s.sh (p := (fun w => Cells w ta (Rr.map URow.val) ∧ ∀ r ∈ Rr, URow.ok w r)) (by repeat (first | exact Sel.keep | exact Sel.here | apply Sel.there))).1 hq hr)) ?_
          refine SL.val rfl rfl (fun w9 F9 S9 s => R.as rfl) ?_
          refine SL.nil ?_
          refine SN.seq ?_
          refine SG.seq ?_
          refine SG.seq ?_
          refine SG.region ?_
          refine SL.val rfl rfl (fun w9 F9 S9 s => R.mv rfl) ?_
          refine SL.val rfl rfl (fun w9 F9 S9 s => R.xorW rfl rfl ((beside (halves i b) : Nat) : Int) (xor_beside _ (by omega))) ?_
          refine SL.val rfl rfl (fun w9 F9 S9 s => R.as rfl) ?_
          refine SL.nil ?_
          refine SN.seq ?_
          refine SG.seq ?_
          refine SG.region ?_
          refine SL.val rfl rfl (fun w9 F9 S9 s => R.mv rfl) ?_
          refine SL.val rfl rfl (fun w9 F9 S9 s => R.mv rfl) ?_
          refine SL.val rfl rfl (fun w9 F9 S9 s => R.lenS rfl) ?_
          refine SL.val rfl rfl (fun w9 F9 S9 s => R.lss rfl rfl) ?_
          refine SL.nil ?_
          refine SN.seq ?_
          refine SG.condP rfl (fun h2 => ?_) (fun h2 => ?_)
          · obtain ⟨v, hv⟩ : ∃ v, r.l[beside (halves i b)]? = some v := ⟨_, List.getElem?_eq_getElem (by omega)⟩
            refine SG.fact (fun w9 F9 S9 s => us_pt ((s.sh (p := (fun w => Cells w ta (Rr.map URow.val) ∧ ∀ r ∈ Rr, URow.ok w r)) (by repeat (first | exact Sel.keep | exact Sel.here | apply Sel.there))).2 r hrm).cells hv) (fun hf9 => ?_)
            obtain ⟨q2, hq2⟩ := hf9
            rw [hv] at hps
            have hstep : proofF ((Rr.take (i + 1)).map URow.l) b = proofF ((Rr.take i).map URow.l) b ++ [v] := hps
            refine SG.region ?_
            refine SL.val rfl rfl (fun w9 F9 S9 s => R.mv rfl) ?_
            refine SL.val rfl rfl (fun w9 F9 S9 s => R.mv rfl) ?_
            refine SL.val rfl rfl (fun w9 F9 S9 s => R.mv rfl) ?_
            refine SL.val rfl rfl (fun w9 F9 S9 s => R.idx rfl rfl (by omega) (by omega) q2 hq2) ?_
            refine SL.val rfl rfl (fun w9 F9 S9 s => R.ld (v := .int .u64 (v : Int)) rfl (us_ld ((s.sh (p := (fun w => Cells w ta (Rr.map URow.val) ∧ ∀ r ∈ Rr, URow.ok w r)) (by repeat (first | exact Sel.keep | exact Sel.here | apply Sel.there))).2 r hrm).cells hq2 hv)) ?_
            refine SL.step rfl rfl (CS.buildA rfl rfl rfl rfl rfl (us [v]) rfl) ?_
            rintro _ _ ⟨b45, rfl, rfl⟩
            refine SL.step rfl rfl (CS.app rfl rfl (by repeat (first | exact Sel.keep | exact Sel.here | apply Sel.there)) (fun w9 F9 S9 s => s.blkC (show Sel _ (blk b45 (us [v]) _) _ from (by repeat (first | exact Sel.keep | exact Sel.here | apply Sel.there)))) rfl (us_one _) (by unfold maxLen; omega) (by omega)) ?_
            rintro _ _ ⟨a46, c46, rfl, rfl⟩
            refine SL.val rfl rfl (fun w9 F9 S9 s => R.as rfl) ?_
            refine SL.nil ?_
            refine SN.be 5 rfl (show Value.slice a46 ((proofF ((Rr.take i).map URow.l) b).length + 1) c46 = .slice a46 (proofF ((Rr.take (i + 1)).map URow.l) b).length c46 by rw [hstep, List.length_append]; rfl) ?_
            refine SN.seq ?_
            refine SG.region ?_
            refine SL.val rfl rfl (fun w9 F9 S9 s => R.mv rfl) ?_
            refine SL.val rfl rfl (fun w9 F9 S9 s => R.quo rfl rfl (by omega) (by decide)) ?_
            refine SL.val rfl rfl (fun w9 F9 S9 s => R.as rfl) ?_
            refine SL.nil ?_
            refine SN.be 1 rfl (congrArg (Value.int .i64) (show ((halves i b : Nat) : Int) / 2 = ((halves (i + 1) b : Nat) : Int) by simp only [halves]; norm_cast)) ?_
            refine SN.block ?_
            refine SN.seq ?_
            refine SG.region ?_
            refine SL.val rfl rfl (fun w9 F9 S9 s => R.add rfl rfl (by omega)) ?_
            refine SL.val rfl rfl (fun w9 F9 S9 s => R.mv rfl) ?_
            refine SL.nil ?_
            exact SN.again (⟨i + 1, a46, c46⟩) (by show Rr.length - (i + 1) < Rr.length - i; omega) (Sub.cons rfl (Sub.cons rfl (Sub.cons rfl (Sub.cons rfl (Sub.cons rfl (Sub.nil _)))))) ((show Imp _ _ by dsimp only; rw [hstep, us_app, List.length_append]; exact (Imp.sels (by repeat (first | exact Sels.nil | apply Sels.cons | exact Sel.keep | exact Sel.here | apply Sel.there))))) (⟨by show i + 1 ≤ Rr.length - 1; omega, by show (proofF ((Rr.take (i + 1)).map URow.l) b).length ≤ i + 1; rw [hstep, List.length_append]; simp only [List.length_singleton]; omega⟩)
          · have hnv : r.l[beside (halves i b)]? = none := List.getElem?_eq_none (by omega)
            rw [hnv, List.append_nil] at hps
            have hstep : proofF ((Rr.take (i + 1)).map URow.l) b = proofF ((Rr.take i).map URow.l) b := hps
            refine SG.be 5 rfl (show Value.slice a9 (proofF ((Rr.take i).map URow.l) b).length c9 = .slice a9 (proofF ((Rr.take (i + 1)).map URow.l) b).length c9 by rw [hstep]) ?_
            refine SG.skip ?_
            refine SN.seq ?_
            refine SG.region ?_
            refine SL.val rfl rfl (fun w9 F9 S9 s => R.mv rfl) ?_
            refine SL.val rfl rfl (fun w9 F9 S9 s => R.quo rfl rfl (by omega) (by decide)) ?_
            refine SL.val rfl rfl (fun w9 F9 S9 s => R.as rfl) ?_
            refine SL.nil ?_
            refine SN.be 1 rfl (congrArg (Value.int .i64) (show ((halves i b : Nat) : Int) / 2 = ((halves (i + 1) b : Nat) : Int) by simp only [halves]; norm_cast)) ?_
            refine SN.block ?_
            refine SN.seq ?_
            refine SG.region ?_
            refine SL.val rfl rfl (fun w9 F9 S9 s => R.add rfl rfl (by omega)) ?_
            refine SL.val rfl rfl (fun w9 F9 S9 s => R.mv rfl) ?_
            refine SL.nil ?_
            exact SN.again (⟨i + 1, a9, c9⟩) (by show Rr.length - (i + 1) < Rr.length - i; omega) (Sub.cons rfl (Sub.cons rfl (Sub.cons rfl (Sub.cons rfl (Sub.cons rfl (Sub.nil _)))))) ((show Imp _ _ by dsimp only; rw [hstep]; exact (Imp.sels (by repeat (first | exact Sels.nil | apply Sels.cons | exact Sel.keep | exact Sel.here | apply Sel.there))))) (⟨by show i + 1 ≤ Rr.length - 1; omega, by show (proofF ((Rr.take (i + 1)).map URow.l) b).length ≤ i + 1; rw [hstep]; omega⟩)
        · have hie : i = Rr.length - 1 := by omega
          subst hie
          refine SG.exit _ rfl ?_
          refine SN.seq ?_
          refine SG.seq ?_
          refine SG.region ?_
          refine SL.val rfl rfl (fun w9 F9 S9 s => R.mv rfl) ?_
          refine SL.val rfl rfl (fun w9 F9 S9 s => R.as rfl) ?_
          refine SL.nil ?_
          refine SN.seq ?_
          exact SG.ret1 rfl rfl ((Imp.sels (by repeat (first | exact Sels.nil | apply Sels.cons | exact Sel.keep | exact Sel.here | apply Sel.there)))) (⟨a9, c9, rfl, rfl⟩)

end Go.Proofs.Ytiggahlnplaciaa
/-
  The walks of package digest.
-/
set_option linter.unusedVariables false
set_option linter.unusedSimpArgs false
set_option maxRecDepth 4000
namespace Go.Proofs.Ytiggahlnplaciaa
open Go Brv
theorem rev2_ok (b : Nat) (x y : Int) : SpecS Try.prog 29 [.slice (some ⟨b, 0, none⟩) 2 2] [blk b [.int .u64 x, .int .u64 y] 25] (fun v H' => v = .tuple #[] ∧ H' = [blk b [.int .u64 y, .int .u64 x] 25]) := by
  refine SpecS.enter Try.func29 rfl 28 rfl (Nat.le_of_ble_eq_true rfl) (fun o => ?_)
  refine SG.seq ?_
  refine SG.region ?_
  refine SL.val rfl rfl (fun w9 F9 S9 s => R.mv rfl) ?_
  refine SL.val rfl rfl (fun w9 F9 S9 s => R.lenS rfl) ?_
  refine SL.val rfl rfl (fun w9 F9 S9 s => R.sub' rfl rfl (by omega)) ?_
  refine SL.val rfl rfl (fun w9 F9 S9 s => R.as rfl) ?_
  refine SL.val rfl rfl (fun w9 F9 S9 s => R.as rfl) ?_
  refine SL.nil ?_
  refine SN.seq ?_
  refine SG.block ?_
  refine SG.loop (X := Nat) (fun i => [(0, .slice (some ⟨b, 0, none⟩) 2 2), (2, .int .i64 (i : Int)), (3, .int .i64 (1 - (i : Int)))]) (fun i => [blk b [.int .u64 (if i = 0 then x else y), .int .u64 (if i = 0 then y else x)] 25]) (fun i => i ≤ 1) (fun i => 1 - i) (0) (Sub.cons rfl (Sub.cons rfl (Sub.cons rfl (Sub.nil _)))) ((Imp.sels (by repeat (first | exact Sels.nil | apply Sels.cons | exact Sel.keep | exact Sel.here | apply Sel.there)))) (Nat.zero_le _) ?_
  intro i hi
  show SG _ _ _ _ _ [(0, .slice (some ⟨b, 0, none⟩) 2 2), (2, .int .i64 (i : Int)), (3, .int .i64 (1 - (i : Int)))] [blk b [.int .u64 (if i = 0 then x else y), .int .u64 (if i = 0 then y else x)] 25] _
  refine SG.seq ?_
  refine SG.seq ?_
  refine SG.region ?_
  refine SL.val rfl rfl (fun w9 F9 S9 s => R.mv rfl) ?_
  refine SL.val rfl rfl (fun w9 F9 S9 s => R.mv rfl) ?_
  refine SL.val rfl rfl (fun w9 F9 S9 s => R.lss rfl rfl) ?_
  refine SL.nil ?_
  refine SN.seq ?_
  refine SG.condP rfl (fun h0 => ?_) (fun h0 => ?_)
  · obtain rfl : i = 0 := by omega
    refine SG.skip ?_
    refine SN.seq ?_
    refine SG.seq ?_
    refine SG.block ?_
    refine SG.draw [13, 15] [0, 1, 2, 3, 4, 5, 6, 7, 8, 9, 10, 11, 12, 13, 14, 15] (by decide +kernel) rfl ?_
    refine SW.pure rfl rfl rfl rfl (fun w9 => R.mv rfl) ?_
    refine SW.pure rfl rfl rfl rfl (fun w9 => R.mv rfl) ?_
    refine SW.pure rfl rfl rfl rfl (fun w9 => R.mv rfl) ?_
    refine SW.pure rfl rfl rfl rfl (fun w9 => R.mv rfl) ?_
    refine SW.pure rfl rfl rfl rfl (fun w9 => R.mv rfl) ?_
    refine SW.pure rfl rfl rfl rfl (fun w9 => R.mv rfl) ?_
    refine SW.pure rfl rfl rfl rfl (fun w9 => R.idxO (i := 1 - ((0 : Nat) : Int)) rfl rfl (by decide) (by decide) rfl 1 (by decide)) ?_
    refine SW.read rfl rfl rfl rfl (fun w9 F9 S9 s => R.ldB (v := .int .u64 y) rfl (s.cel (by repeat (first | exact SelB.blk | exact SelB.fz | apply SelB.there))) (by rfl)) ?_
    refine SW.pure rfl rfl rfl rfl (fun w9 => R.mv rfl) ?_
    refine SW.pure rfl rfl rfl rfl (fun w9 => R.mv rfl) ?_
    refine SW.pure rfl rfl rfl rfl (fun w9 => R.idxO (i := ((0 : Nat) : Int)) rfl rfl (by decide) (by decide) rfl 0 (by decide)) ?_
    refine SW.read rfl rfl rfl rfl (fun w9 F9 S9 s => R.ldB (v := .int .u64 x) rfl (s.cel (by repeat (first | exact SelB.blk | exact SelB.fz | apply SelB.there))) (by rfl)) ?_
    refine SW.pure rfl rfl rfl rfl (fun w9 => R.idxO (i := ((0 : Nat) : Int)) rfl rfl (by decide) (by decide) rfl 0 (by decide)) ?_
    refine SW.step0 rfl rfl rfl (CS.st rfl rfl (by repeat (first | exact Sel.keep | exact Sel.here | apply Sel.there)) (by repeat (first | exact SetAt.here | apply SetAt.there)) rfl) ?_
    rintro _ _ rfl
    refine ⟨⟨.inl (by decide +kernel), ⟨.inl (by decide +kernel), trivial⟩⟩, ?_⟩
    refine SW.pure rfl rfl rfl rfl (fun w9 => R.idxO (i := 1 - ((0 : Nat) : Int)) rfl rfl (by decide) (by decide) rfl 1 (by decide)) ?_
    refine SW.step0 rfl rfl rfl (CS.st rfl rfl (by repeat (first | exact Sel.keep | exact Sel.here | apply Sel.there)) (by repeat (first | exact SetAt.here | apply SetAt.there)) rfl) ?_
    rintro _ _ rfl
    refine ⟨⟨.inl (by decide +kernel), ⟨.inl (by decide +kernel), trivial⟩⟩, ?_⟩
    refine SW.nil ?_
    refine SN.block ?_
    refine SN.seq ?_
    refine SG.region ?_
    refine SL.val rfl rfl (fun w9 F9 S9 s => R.mv rfl) ?_
    refine SL.val rfl rfl (fun w9 F9 S9 s => R.add rfl rfl (by omega)) ?_
    refine SL.val rfl rfl (fun w9 F9 S9 s => R.mv rfl) ?_
    refine SL.val rfl rfl (fun w9 F9 S9 s => R.sub' rfl rfl (by omega)) ?_
    refine SL.val rfl rfl (fun w9 F9 S9 s => R.as rfl) ?_
    refine SL.val rfl rfl (fun w9 F9 S9 s => R.as rfl) ?_
    refine SL.nil ?_
    refine SN.be 2 rfl (show Value.int .i64 (((0 : Nat) : Int) + 1) = .int .i64 ((1 : Nat) : Int) from rfl) ?_
    refine SN.be 3 rfl (show Value.int .i64 (1 - ((0 : Nat) : Int) - 1) = .int .i64 (1 - ((1 : Nat) : Int)) from rfl) ?_
    exact SN.again (1) (by decide) (Sub.cons rfl (Sub.cons rfl (Sub.cons rfl (Sub.nil _)))) ((Imp.sels (by repeat (first | exact Sels.nil | apply Sels.cons | exact Sel.keep | exact Sel.here | apply Sel.there)))) (Nat.le_refl _)
  · obtain rfl : i = 1 := by omega
    refine SG.exit _ rfl ?_
    exact SN.end0 rfl ((Imp.sels (by repeat (first | exact Sels.nil | apply Sels.cons | exact Sel.keep | exact Sel.here | apply Sel.there)))) (⟨rfl, rfl⟩)

end Go.Proofs.Ytiggahlnplaciaa
/-
  The walks of package digest.
-/
set_option linter.unusedVariables false
set_option linter.unusedSimpArgs false
set_option maxRecDepth 4000
namespace Go.Proofs.Ytiggahlnplaciaa
open Go Brv
/-- Have two trees the same rows? -/
def likeT : List (List Nat) → List (List Nat) → Bool
  | [], [] => true
  | a :: A, b :: B => decide (a.length = b.length ∧ 0 < a.length) && likeT A B
  | _, _ => false
theorem likeT_len : ∀ {A B : List (List Nat)}, likeT A B = true → A.length = B.length
  | [], [], _ => rfl
  | a :: A, b :: B, h => by
    simp only [likeT, Bool.and_eq_true] at h
    simp only [List.length_cons, likeT_len h.2]
  | [], b :: B, h => by simp [likeT] at h
  | a :: A, [], h => by simp [likeT] at h
theorem likeT_at : ∀ {A B : List (List Nat)} {i : Nat} {a b : List Nat}, likeT A B = true → A[i]? = some a → B[i]? = some b → a.length = b.length ∧ 0 < a.length
  | x :: A, y :: B, 0, a, b, h, ha, hb => by
    simp only [likeT, Bool.and_eq_true, decide_eq_true_eq] at h
    simp at ha hb
    subst ha; subst hb
    exact h.1
  | x :: A, y :: B, i + 1, a, b, h, ha, hb => by
    simp only [likeT, Bool.and_eq_true] at h
    exact likeT_at h.2 (by simpa using ha) (by simpa using hb)
  | [], B, i, a, b, h, ha, hb => by simp at ha
  | x :: A, [], i, a, b, h, ha, hb => by simp at hb
theorem likeT_refl : ∀ {A : List (List Nat)}, (∀ r ∈ A, 0 < r.length) → likeT A A = true
  | [], _ => rfl
  | a :: A, h => by
    simp only [likeT, Bool.and_eq_true, decide_eq_true_eq]
    exact ⟨⟨trivial, h a (by simp)⟩, likeT_refl (fun r hr => h r (by simp [hr]))⟩
theorem likeT_drop {Ra Rb : List URow} {i : Nat} {ra rb : URow} (ha : Ra[i]? = some ra) (hb : Rb[i]? = some rb) :
    likeT ((Ra.drop i).map URow.l) ((Rb.drop i).map URow.l) = (decide (ra.l.length = rb.l.length ∧ 0 < ra.l.length) && likeT ((Ra.drop (i + 1)).map URow.l) ((Rb.drop (i + 1)).map URow.l)) := by
  obtain ⟨h1, h2⟩ := List.getElem?_eq_some_iff.1 ha
  obtain ⟨h3, h4⟩ := List.getElem?_eq_some_iff.1 hb
  rw [List.drop_eq_getElem_cons h1, List.drop_eq_getElem_cons h3, h2, h4]; rfl

theorem shaped1_ok (a b : Option Addr) (n m c d : Nat) : SpecS Try.prog 35 [.slice a n c, .slice b m d] [] (fun v H' => v = .bool (decide (n = m ∧ 0 < n)) ∧ H' = []) := by
  refine SpecS.enter Try.func35 rfl 15 rfl (Nat.le_of_ble_eq_true rfl) (fun o => ?_)
  refine SG.seq ?_
  refine SG.region ?_
  refine SL.val rfl rfl (fun w9 F9 S9 s => R.as rfl) ?_
  refine SL.nil ?_
  refine SN.seq ?_
  refine SG.seq ?_
  refine SG.region ?_
  refine SL.val rfl rfl (fun w9 F9 S9 s => R.mv rfl) ?_
  refine SL.val rfl rfl (fun w9 F9 S9 s => R.lenS rfl) ?_
  refine SL.val rfl rfl (fun w9 F9 S9 s => R.mv rfl) ?_
  refine SL.val rfl rfl (fun w9 F9 S9 s => R.lenS rfl) ?_
  refine SL.val rfl rfl (fun w9 F9 S9 s => R.eqI rfl rfl) ?_
  refine SL.val rfl rfl (fun w9 F9 S9 s => R.mv rfl) ?_
  refine SL.caseP 10 rfl (fun hg1_5 => ?_) (fun hg1_5 => ?_)
  · refine SL.val rfl rfl (fun w9 F9 S9 s => R.mv rfl) ?_
    refine SL.val rfl rfl (fun w9 F9 S9 s => R.lenS rfl) ?_
    refine SL.val rfl rfl (fun w9 F9 S9 s => R.gtr rfl rfl) ?_
    first | refine SL.val rfl rfl (fun w9 F9 S9 s => R.pickT rfl rfl) ?_ | refine SL.val rfl rfl (fun w9 F9 S9 s => R.pickF rfl rfl) ?_
    refine SL.val rfl rfl (fun w9 F9 S9 s => R.as rfl) ?_
    refine SL.nil ?_
    refine SN.seq ?_
    exact SG.ret1 rfl rfl ((Imp.sels (by repeat (first | exact Sels.nil | apply Sels.cons | exact Sel.keep | exact Sel.here | apply Sel.there)))) (⟨congrArg Value.bool (by rw [decide_eq_decide]; omega), rfl⟩)
  · refine SL.pass rfl rfl ?_
    refine SL.pass rfl rfl ?_
    refine SL.pass rfl rfl ?_
    first | refine SL.val rfl rfl (fun w9 F9 S9 s => R.pickT rfl rfl) ?_ | refine SL.val rfl rfl (fun w9 F9 S9 s => R.pickF rfl rfl) ?_
    refine SL.val rfl rfl (fun w9 F9 S9 s => R.as rfl) ?_
    refine SL.nil ?_
    refine SN.seq ?_
    exact SG.ret1 rfl rfl ((Imp.sels (by repeat (first | exact Sels.nil | apply Sels.cons | exact Sel.keep | exact Sel.here | apply Sel.there)))) (⟨congrArg Value.bool (decide_eq_false (by omega)).symm, rfl⟩)

theorem eqf_ok (aa ab : Option Addr) (ca cb : Nat) (Ra Rb : List URow) (hn : Ra.length ≤ 1000) : SpecS Try.prog 34 [.slice aa Ra.length ca, .slice ab Rb.length cb, .func (.func 35) #[] #[]] [sh (fun w => Cells w aa (Ra.map URow.val) ∧ ∀ r ∈ Ra, URow.ok w r), sh (fun w => Cells w ab (Rb.map URow.val) ∧ ∀ r ∈ Rb, URow.ok w r)] (fun v H' => v = .bool (likeT (Ra.map URow.l) (Rb.map URow.l)) ∧ H' = []) := by
  refine SpecS.enter Try.func34 rfl 32 rfl (Nat.le_of_ble_eq_true rfl) (fun o => ?_)
  refine SG.seq ?_
  refine SG.region ?_
  refine SL.val rfl rfl (fun w9 F9 S9 s => R.as rfl) ?_
  refine SL.nil ?_
  refine SN.seq ?_
  refine SG.seq ?_
  refine SG.seq ?_
  refine SG.region ?_
  refine SL.val rfl rfl (fun w9 F9 S9 s => R.mv rfl) ?_
  refine SL.val rfl rfl (fun w9 F9 S9 s => R.lenS rfl) ?_
  refine SL.val rfl rfl (fun w9 F9 S9 s => R.mv rfl) ?_
  refine SL.val rfl rfl (fun w9 F9 S9 s => R.lenS rfl) ?_
  refine SL.val rfl rfl (fun w9 F9 S9 s => R.neI rfl rfl) ?_
  refine SL.nil ?_
  refine SN.seq ?_
  refine SG.condP rfl (fun h0 => ?_) (fun h0 => ?_)
  · have hLk : likeT (Ra.map URow.l) (Rb.map URow.l) = false := Bool.eq_false_iff.2 (fun h9 => by have := likeT_len h9; rw [List.length_map, List.length_map] at this; omega)
    refine SG.seq ?_
    refine SG.region ?_
    refine SL.val rfl rfl (fun w9 F9 S9 s => R.as rfl) ?_
    refine SL.nil ?_
    refine SN.seq ?_
    exact SG.ret1 rfl rfl ((Imp.sels (by repeat (first | exact Sels.nil | apply Sels.cons | exact Sel.keep | exact Sel.here | apply Sel.there)))) (⟨congrArg Value.bool hLk.symm, rfl⟩)
  · have hab : Ra.length = Rb.length := by omega
    refine SG.skip ?_
    refine SN.seq ?_
    refine SG.seq ?_
    refine SG.seq ?_
    refine SG.region ?_
    refine SL.val rfl rfl (fun w9 F9 S9 s => R.mv rfl) ?_
    refine SL.val rfl rfl (fun w9 F9 S9 s => R.lenS rfl) ?_
    refine SL.val rfl rfl (fun w9 F9 S9 s => R.mv rfl) ?_
    refine SL.nil ?_
    refine SN.seq ?_
    refine SG.block ?_
    refine SG.loop (X := Nat) (fun i => [(1, .slice ab Rb.length cb), (2, .func (.func 35) #[] #[]), (15, .slice aa Ra.length ca), (16, .int .i64 (Ra.length : Int)), (17, .int .i64 (i : Int))]) (fun i => [sh (fun w => Cells w aa (Ra.map URow.val) ∧ ∀ r ∈ Ra, URow.ok w r), sh (fun w => Cells w ab (Rb.map URow.val) ∧ ∀ r ∈ Rb, URow.ok w r)]) (fun i => i ≤ Ra.length ∧ likeT (Ra.map URow.l) (Rb.map URow.l) = likeT ((Ra.drop i).map URow.l) ((Rb.drop i).map URow.l)) (fun i => Ra.length - i) (0) (Sub.cons rfl (Sub.cons rfl (Sub.cons rfl (Sub.cons rfl (Sub.cons rfl (Sub.nil _)))))) ((Imp.sels (by repeat (first | exact Sels.nil | apply Sels.cons | exact Sel.keep | exact Sel.here | apply Sel.there)))) (⟨Nat.zero_le _, rfl⟩) ?_
    rintro i ⟨hi, hinv⟩
    show SG _ _ _ _ _ [(1, .slice ab Rb.length cb), (2, .func (.func 35) #[] #[]), (15, .slice aa Ra.length ca), (16, .int .i64 (Ra.length : Int)), (17, .int .i64 (i : Int))] [sh (fun w => Cells w aa (Ra.map URow.val) ∧ ∀ r ∈ Ra, URow.ok w r), sh (fun w => Cells w ab (Rb.map URow.val) ∧ ∀ r ∈ Rb, URow.ok w r)] _
    refine SG.seq ?_
    refine SG.region ?_
    refine SL.val rfl rfl (fun w9 F9 S9 s => R.lss rfl rfl) ?_
    refine SL.nil ?_
    refine SN.seq ?_
    refine SG.seq ?_
    refine SG.condP rfl (fun h1 => ?_) (fun h1 => ?_)
    · obtain ⟨ra, hra⟩ : ∃ r, Ra[i]? = some r := ⟨_, List.getElem?_eq_getElem (by omega)⟩
      obtain ⟨rb, hrb⟩ : ∃ r, Rb[i]? = some r := ⟨_, List.getElem?_eq_getElem (by omega)⟩
      refine SG.fact (fun w9 F9 S9 s => rows_pt (s.sh (p := (fun w => Cells w aa (Ra.map URow.val) ∧ ∀ r ∈ Ra, URow.ok w r)) (by repeat (first | exact Sel.keep | exact Sel.here | apply Sel.there))).1 hra) (fun hf9 => ?_)
      obtain ⟨q, hq⟩ := hf9
      refine SG.fact (fun w9 F9 S9 s => rows_pt (s.sh (p := (fun w => Cells w ab (Rb.map URow.val) ∧ ∀ r ∈ Rb, URow.ok w r)) (by repeat (first | exact Sel.keep | exact Sel.here | apply Sel.there))).1 hrb) (fun hf9 => ?_)
      obtain ⟨q2, hq2⟩ := hf9
      refine SG.fact (fun w9 F9 S9 s => ((s.sh (p := (fun w => Cells w aa (Ra.map URow.val) ∧ ∀ r ∈ Ra, URow.ok w r)) (by repeat (first | exact Sel.keep | exact Sel.here | apply Sel.there))).2 ra (List.mem_of_getElem? hra)).len) (fun hf9 => ?_)
      have hna := hf9; clear hf9
      refine SG.fact (fun w9 F9 S9 s => ((s.sh (p := (fun w => Cells w ab (Rb.map URow.val) ∧ ∀ r ∈ Rb, URow.ok w r)) (by repeat (first | exact Sel.keep | exact Sel.here | apply Sel.there))).2 rb (List.mem_of_getElem? hrb)).len) (fun hf9 => ?_)
      have hnb := hf9; clear hf9
      have hst := likeT_drop hra hrb
      refine SG.skip ?_
      refine SN.seq ?_
      refine SG.seq ?_
      refine SG.block ?_
      refine SG.seq ?_
      refine SG.region ?_
      refine SL.val rfl rfl (fun w9 F9 S9 s => R.mv rfl) ?_
      refine SL.val rfl rfl (fun w9 F9 S9 s => R.idx rfl rfl (by omega) (by omega) q hq) ?_
      refine SL.val rfl rfl (fun w9 F9 S9 s => R.ld (v := .slice ra.a ra.n ra.c) rfl (rows_ld (s.sh (p := (fun w => Cells w aa (Ra.map URow.val) ∧ ∀ r ∈ Ra, URow.ok w r)) (by repeat (first | exact Sel.keep | exact Sel.here | apply Sel.there))).1 hq hra)) ?_
      refine SL.val rfl rfl (fun w9 F9 S9 s => R.as rfl) ?_
      refine SL.val rfl rfl (fun w9 F9 S9 s => R.as rfl) ?_
      refine SL.nil ?_
      refine SN.seq ?_
      refine SG.seq ?_
      refine SG.region ?_
      refine SL.val rfl rfl (fun w9 F9 S9 s => R.mv rfl) ?_
      refine SL.val rfl rfl (fun w9 F9 S9 s => R.mv rfl) ?_
      refine SL.val rfl rfl (fun w9 F9 S9 s => R.idx rfl rfl (by omega) (by omega) q2 hq2) ?_
      refine SL.val rfl rfl (fun w9 F9 S9 s => R.ld (v := .slice rb.a rb.n rb.c) rfl (rows_ld (s.sh (p := (fun w => Cells w ab (Rb.map URow.val) ∧ ∀ r ∈ Rb, URow.ok w r)) (by repeat (first | exact Sel.keep | exact Sel.here | apply Sel.there))).1 hq2 hrb)) ?_
      refine SL.val rfl rfl (fun w9 F9 S9 s => R.as rfl) ?_
      refine SL.nil ?_
      refine SN.seq ?_
      refine SG.seq ?_
      refine SG.region ?_
      refine SL.val rfl rfl (fun w9 F9 S9 s => R.mv rfl) ?_
      refine SL.val rfl rfl (fun w9 F9 S9 s => R.mv rfl) ?_
      refine SL.val rfl rfl (fun w9 F9 S9 s => R.mv rfl) ?_
      refine SL.step rfl rfl (CS.callV rfl rfl rfl go35 (shaped1_ok ra.a rb.a ra.n rb.n ra.c rb.c) (by repeat (first | exact Sels.nil | apply Sels.cons | exact Sel.keep | exact Sel.here | apply Sel.there))) ?_
      rintro _ _ ⟨_, ⟨rfl, rfl⟩, rfl⟩
      refine SL.n0 ?_
      refine SL.val rfl rfl (fun w9 F9 S9 s => R.not rfl) ?_
      refine SL.nil ?_
      refine SN.seq ?_
      refine SG.condB rfl (fun h2 => ?_) (fun h2 => ?_)
      · have hLk : likeT (Ra.map URow.l) (Rb.map URow.l) = false := by rw [hinv, hst, show decide (ra.l.length = rb.l.length ∧ 0 < ra.l.length) = false from decide_eq_false (fun h9 => by simp at h2; omega)]; rfl
        refine SG.seq ?_
        refine SG.region ?_
        refine SL.val rfl rfl (fun w9 F9 S9 s => R.as rfl) ?_
        refine SL.nil ?_
        refine SN.seq ?_
        exact SG.ret1 rfl rfl ((Imp.sels (by repeat (first | exact Sels.nil | apply Sels.cons | exact Sel.keep | exact Sel.here | apply Sel.there)))) (⟨congrArg Value.bool hLk.symm, rfl⟩)
      · have hinv2 : likeT (Ra.map URow.l) (Rb.map URow.l) = likeT ((Ra.drop (i + 1)).map URow.l) ((Rb.drop (i + 1)).map URow.l) := by rw [hinv, hst, show decide (ra.l.length = rb.l.length ∧ 0 < ra.l.length) = true from decide_eq_true (by simp at h2; omega)]; rfl
        refine SG.skip ?_
        refine SN.block ?_
        refine SN.seq ?_
        refine SG.region ?_
        refine SL.val rfl rfl (fun w9 F9 S9 s => R.add rfl rfl (by omega)) ?_
        refine SL.val rfl rfl (fun w9 F9 S9 s => R.mv rfl) ?_
        refine SL.nil ?_
        exact SN.again (i + 1) (by show Ra.length - (i + 1) < Ra.length - i; omega) (Sub.cons rfl (Sub.cons rfl (Sub.cons rfl (Sub.cons rfl (Sub.cons rfl (Sub.nil _)))))) ((Imp.sels (by repeat (first | exact Sels.nil | apply Sels.cons | exact Sel.keep | exact Sel.here | apply Sel.there)))) (⟨by show i + 1 ≤ Ra.length; omega, hinv2⟩)
    · have hLk : likeT (Ra.map URow.l) (Rb.map URow.l) = true := by rw [hinv, List.drop_of_length_le (by omega), List.drop_of_length_le (by omega)]; rfl
      refine SG.exit _ rfl ?_
      refine SN.seq ?_
      refine SG.seq ?_
      refine SG.region ?_
      refine SL.val rfl rfl (fun w9 F9 S9 s => R.as rfl) ?_
      refine SL.nil ?_
      refine SN.seq ?_
      exact SG.ret1 rfl rfl ((Imp.sels (by repeat (first | exact Sels.nil | apply Sels.cons | exact Sel.keep | exact Sel.here | apply Sel.there)))) (⟨congrArg Value.bool hLk.symm, rfl⟩)

theorem shaped_ok (aa ab : Option Addr) (ca cb : Nat) (Ra Rb : List URow) (hn : Ra.length ≤ 1000) : SpecS Try.prog 26 [.slice aa Ra.length ca, .slice ab Rb.length cb] [sh (fun w => Cells w aa (Ra.map URow.val) ∧ ∀ r ∈ Ra, URow.ok w r), sh (fun w => Cells w ab (Rb.map URow.val) ∧ ∀ r ∈ Rb, URow.ok w r)] (fun v H' => v = .bool (decide (0 < Ra.length) && likeT (Ra.map URow.l) (Rb.map URow.l)) ∧ H' = []) := by
  refine SpecS.enter Try.func26 rfl 13 rfl (Nat.le_of_ble_eq_true rfl) (fun o => ?_)
  refine SG.seq ?_
  refine SG.region ?_
  refine SL.val rfl rfl (fun w9 F9 S9 s => R.as rfl) ?_
  refine SL.nil ?_
  refine SN.seq ?_
  refine SG.seq ?_
  refine SG.region ?_
  refine SL.val rfl rfl (fun w9 F9 S9 s => R.mv rfl) ?_
  refine SL.val rfl rfl (fun w9 F9 S9 s => R.lenS rfl) ?_
  refine SL.val rfl rfl (fun w9 F9 S9 s => R.gtr rfl rfl) ?_
  refine SL.val rfl rfl (fun w9 F9 S9 s => R.mv rfl) ?_
  refine SL.caseP 8 rfl (fun hg1_3 => ?_) (fun hg1_3 => ?_)
  · refine SL.val rfl rfl (fun w9 F9 S9 s => R.mv rfl) ?_
    refine SL.val rfl rfl (fun w9 F9 S9 s => R.mv rfl) ?_
    refine SL.step rfl rfl (CS.call rfl go34 (eqf_ok aa ab ca cb Ra Rb hn) (by repeat (first | exact Sels.nil | apply Sels.cons | exact Sel.keep | exact Sel.here | apply Sel.there))) ?_
    rintro _ _ ⟨_, ⟨rfl, rfl⟩, rfl⟩
    refine SL.n0 ?_
    first | refine SL.val rfl rfl (fun w9 F9 S9 s => R.pickT rfl rfl) ?_ | refine SL.val rfl rfl (fun w9 F9 S9 s => R.pickF rfl rfl) ?_
    refine SL.val rfl rfl (fun w9 F9 S9 s => R.as rfl) ?_
    refine SL.nil ?_
    refine SN.seq ?_
    exact SG.ret1 rfl rfl ((Imp.sels (by repeat (first | exact Sels.nil | apply Sels.cons | exact Sel.keep | exact Sel.here | apply Sel.there)))) (⟨congrArg Value.bool (by rw [decide_eq_true (show 0 < Ra.length by omega), Bool.true_and]), rfl⟩)
  · refine SL.pass rfl rfl ?_
    refine SL.pass rfl rfl ?_
    refine SL.pass rfl rfl ?_
    first | refine SL.val rfl rfl (fun w9 F9 S9 s => R.pickT rfl rfl) ?_ | refine SL.val rfl rfl (fun w9 F9 S9 s => R.pickF rfl rfl) ?_
    refine SL.val rfl rfl (fun w9 F9 S9 s => R.as rfl) ?_
    refine SL.nil ?_
    refine SN.seq ?_
    exact SG.ret1 rfl rfl ((Imp.sels (by repeat (first | exact Sels.nil | apply Sels.cons | exact Sel.keep | exact Sel.here | apply Sel.there)))) (⟨congrArg Value.bool (by rw [decide_eq_false (show ¬ 0 < Ra.length by omega), Bool.false_and]), rfl⟩)

end Go.Proofs.Ytiggahlnplaciaa
/-
  The walks of package image.
-/
set_option linter.unusedVariables false
set_option linter.unusedSimpArgs false
namespace Go.Proofs.Ytiggahlnplaciaa
open Go Brv Brv.Image
def num (i : Nat) : Value := .int .i64 (i : Int)
def nums (l : List Nat) : List Value := l.map num
theorem nums_append (a b : List Nat) : nums (a ++ b) = nums a ++ nums b := by simp [nums]
structure DfSt where
  i : Nat
  a1 : Option Addr
  c1 : Nat
  M : List Nat


end Go.Proofs.Ytiggahlnplaciaa
/-
  The walks of package image.
-/
set_option linter.unusedVariables false
set_option linter.unusedSimpArgs false
namespace Go.Proofs.Ytiggahlnplaciaa
open Go Brv Brv.Image
theorem getB_in {x : List UInt8} {j : Nat} (h : j < dn x) : getB x (j : Int) = blk x j := if_pos (show okK x j from ⟨by omega, by omega⟩)
theorem okK_nat (x : List UInt8) (j : Nat) : okK x (j : Int) ↔ j < dn x := ⟨fun h => by have := h.2; omega, fun h => ⟨by omega, by omega⟩⟩
theorem getB_nat (x : List UInt8) (j : Nat) (hx : x.length = 64 * dn x) : getB x (j : Int) = blk x j := by
  by_cases h : j < dn x
  · exact getB_in h
  · rw [blk_ge hx (by omega)]; exact if_neg (fun hk => h ((okK_nat x j).1 hk))
theorem rget_ok (x : List UInt8) (k : Int) (w : World) (hx : x.length ≤ 4096) : Meets Try.prog 27 [.string (str x), .int .i64 k] w (fun v w' => v = .tuple #[.string (str (getB x k)), .bool (decide (okK x k))] ∧ w' = w) := by
  refine Meets.enter Try.func27 rfl 22 rfl (Nat.le_of_ble_eq_true rfl) ?_
  have hdx : dn x = x.length / 64 := rfl
  refine G.seq ?_
  refine G.region ?_
  refine L.val rfl rfl (R.as rfl) ?_
  refine L.val rfl rfl (R.as rfl) ?_
  refine L.nil ?_
  refine N.seq ?_
  refine G.seq ?_
  refine G.seq ?_
  refine G.region ?_
  refine L.val rfl rfl (R.mv rfl) ?_
  refine L.val rfl rfl (R.lss rfl rfl) ?_
  refine L.val rfl rfl (R.mv rfl) ?_
  refine L.caseP 8 rfl (fun hg1_2 => ?_) (fun hg1_2 => ?_)
  · have hn : ¬ okK x k := fun h => (by have := h.1; omega)
    refine L.pass rfl rfl ?_
    refine L.pass rfl rfl ?_
    refine L.pass rfl rfl ?_
    refine L.pass rfl rfl ?_
    refine L.pass rfl rfl ?_
    first | refine L.val rfl rfl (R.pickT rfl rfl) ?_ | refine L.val rfl rfl (R.pickF rfl rfl) ?_
    refine L.nil ?_
    refine N.seq ?_
    refine G.condT rfl ?_
    refine G.seq ?_
    refine G.region ?_
    refine L.val rfl rfl (R.as rfl) ?_
    refine L.val rfl rfl (R.as rfl) ?_
    refine L.nil ?_
    refine N.seq ?_
    refine G.ret2 rfl rfl rfl ?_
    first | (rw [show getB x k = [] from if_neg hn, decide_eq_false hn]; exact ⟨rfl, rfl⟩) | (rw [getB_in hj, decide_eq_true hok]; exact ⟨rfl, rfl⟩)
  · refine L.val rfl rfl (R.mv rfl) ?_
    refine L.val rfl rfl (R.mv rfl) ?_
    refine L.val rfl rfl (R.lenT rfl) ?_
    refine L.val rfl rfl (R.quo rfl rfl (by omega) (by omega)) ?_
    refine L.val rfl rfl (R.geq rfl rfl) ?_
    first | refine L.val rfl rfl (R.pickT rfl rfl) ?_ | refine L.val rfl rfl (R.pickF rfl rfl) ?_
    refine L.nil ?_
    refine N.seq ?_
    refine G.condP rfl (fun h0 => ?_) (fun h0 => ?_)
    · have hn : ¬ okK x k := fun h => (by have := h.2; omega)
      refine G.seq ?_
      refine G.region ?_
      refine L.val rfl rfl (R.as rfl) ?_
      refine L.val rfl rfl (R.as rfl) ?_
      refine L.nil ?_
      refine N.seq ?_
      refine G.ret2 rfl rfl rfl ?_
      first | (rw [show getB x k = [] from if_neg hn, decide_eq_false hn]; exact ⟨rfl, rfl⟩) | (rw [getB_in hj, decide_eq_true hok]; exact ⟨rfl, rfl⟩)
    · have hok : okK x k := ⟨by omega, by omega⟩
      obtain ⟨j, rfl⟩ := Int.eq_ofNat_of_zero_le hok.1
      have hj : j < dn x := (okK_nat x j).1 hok
      refine G.skip ?_
      refine N.seq ?_
      refine G.seq ?_
      refine G.region ?_
      refine L.val rfl rfl (R.mv rfl) ?_
      refine L.val rfl rfl (R.mv rfl) ?_
      refine L.val rfl rfl (R.mul rfl rfl (by omega)) ?_
      refine L.val rfl rfl (R.mv rfl) ?_
      refine L.val rfl rfl (R.mul rfl rfl (by omega)) ?_
      refine L.val rfl rfl (R.add rfl rfl (by omega)) ?_
      refine L.val rfl rfl (R.slStr rfl rfl rfl (by omega) (by omega) (by omega)) ?_
      refine L.be 21 rfl (show _ = Value.string (str (blk x j)) by rw [show (64 * (j : Int)).toNat = 64 * j by omega, show (64 * (j : Int) + 64).toNat = 64 * j + 64 by omega, List.drop_take, Nat.add_sub_cancel_left]; rfl) ?_
      refine L.val rfl rfl (R.as rfl) ?_
      refine L.val rfl rfl (R.as rfl) ?_
      refine L.nil ?_
      refine N.seq ?_
      refine G.ret2 rfl rfl rfl ?_
      first | (rw [show getB x k = [] from if_neg hn, decide_eq_false hn]; exact ⟨rfl, rfl⟩) | (rw [getB_in hj, decide_eq_true hok]; exact ⟨rfl, rfl⟩)


theorem rdiff_ok (x y : List UInt8) (w : World) (hx : x.length ≤ 4096) (hy : y.length ≤ 4096) (hx0 : x.length = 64 * dn x) (hy0 : y.length = 64 * dn y) : Meets Try.prog 17 [.string (str x), .string (str y)] w (Cloned w 3 1 (diffF x y).length (nums (diffF x y))) := by
  refine Meets.enter Try.func17 rfl 53 rfl (Nat.le_of_ble_eq_true rfl) ?_
  have E := Ext.refl [] w
  have hdx : dn x = x.length / 64 := rfl
  have hdy : dn y = y.length / 64 := rfl
  refine G.seq ?_
  refine G.region ?_
  refine L.val rfl rfl (R.as rfl) ?_
  refine L.nil ?_
  refine N.seq ?_
  refine G.seq ?_
  refine G.region ?_
  refine L.val rfl rfl (R.as rfl) ?_
  refine L.nil ?_
  refine N.seq ?_
  refine G.seq ?_
  refine G.seq ?_
  refine G.region ?_
  refine L.val rfl rfl (R.as rfl) ?_
  refine L.nil ?_
  refine N.seq ?_
  refine G.block ?_
  refine G.loop (X := DfSt) (fun s => [(0, .string (str x)), (1, .string (str y)), (5, .slice s.a1 (diffN x y s.i).length s.c1), (6, .int .i64 (s.i : Int))]) (fun s w' => s.i ≤ max (dn x) (dn y) ∧ Own w' 3 1 s.a1 (diffN x y s.i).length s.c1 (nums (diffN x y s.i)) s.M ∧ (∀ g ∈ s.M, w.heap.size ≤ g) ∧ Ext [] w w') (fun s => max (dn x) (dn y) - s.i) (⟨0, none, 0, []⟩) (Sub.cons rfl (Sub.cons rfl (Sub.cons rfl (Sub.cons rfl (Sub.nil _))))) ⟨Nat.zero_le _, Own.nil _ _ _, by simp, E⟩ ?_
  rintro ⟨i, a1, c1, M⟩ w1 ⟨hi, o1, hM, E⟩
  dsimp only at hi o1 hM
  refine G.sub [(0, .string (str x)), (1, .string (str y)), (5, .slice a1 (diffN x y i).length c1), (6, .int .i64 (i : Int))] (Sub.cons rfl (Sub.cons rfl (Sub.cons rfl (Sub.cons rfl (Sub.nil _))))) ?_
  refine G.seq ?_
  refine G.seq ?_
  refine G.region ?_
  refine L.val rfl rfl (R.mv rfl) ?_
  refine L.val rfl rfl (R.mv rfl) ?_
  refine L.val rfl rfl (R.lenT rfl) ?_
  refine L.val rfl rfl (R.quo rfl rfl (by omega) (by omega)) ?_
  refine L.val rfl rfl (R.lss rfl rfl) ?_
  refine L.val rfl rfl (R.mv rfl) ?_
  refine L.caseP 16 rfl (fun hg3_5 => ?_) (fun hg3_5 => ?_)
  · have him : i < max (dn x) (dn y) := by omega
    refine L.pass rfl rfl ?_
    refine L.pass rfl rfl ?_
    refine L.pass rfl rfl ?_
    refine L.pass rfl rfl ?_
    refine L.pass rfl rfl ?_
    first | refine L.val rfl rfl (R.pickT rfl rfl) ?_ | refine L.val rfl rfl (R.pickF rfl rfl) ?_
    refine L.nil ?_
    refine N.seq ?_
    refine G.condT rfl ?_
    have him : i < max (dn x) (dn y) := by omega
    refine G.skip ?_
    refine N.seq ?_
    refine G.seq ?_
    refine G.block ?_
    refine G.seq ?_
    refine G.region ?_
    have him : i < max (dn x) (dn y) := by omega
    refine L.val rfl rfl (R.mv rfl) ?_
    refine L.val rfl rfl (R.mv rfl) ?_
    refine L.callF rfl rfl rfl go27 (rget_ok x (i : Int) _ hx) ?_
    rintro _ _ ⟨rfl, hw⟩
    obtain rfl := hw.symm
    refine L.val rfl rfl (R.mv rfl) ?_
    refine L.val rfl rfl (R.ext rfl rfl) ?_
    refine L.val rfl rfl (R.ext rfl rfl) ?_
    refine L.val rfl rfl (R.as rfl) ?_
    refine L.val rfl rfl (R.as rfl) ?_
    refine L.nil ?_
    refine N.seq ?_
    refine G.seq ?_
    refine G.region ?_
    refine L.val rfl rfl (R.mv rfl) ?_
    refine L.val rfl rfl (R.mv rfl) ?_
    refine L.callF rfl rfl rfl go27 (rget_ok y (i : Int) _ hy) ?_
    rintro _ _ ⟨rfl, hw⟩
    obtain rfl := hw.symm
    refine L.val rfl rfl (R.mv rfl) ?_
    refine L.val rfl rfl (R.ext rfl rfl) ?_
    refine L.val rfl rfl (R.ext rfl rfl) ?_
    refine L.val rfl rfl (R.as rfl) ?_
    refine L.val rfl rfl (R.as rfl) ?_
    refine L.nil ?_
    refine N.seq ?_
    refine G.seq ?_
    refine G.region ?_
    refine L.val rfl rfl (R.mv rfl) ?_
    refine L.val rfl rfl (R.not rfl) ?_
    refine L.be 38 rfl (show _ = Value.bool (decide (¬ okK x i)) by simp) ?_
    refine L.val rfl rfl (R.mv rfl) ?_
    refine L.caseP 39 rfl (fun hg7_2 => ?_) (fun hg7_2 => ?_)
    · have hnx : dn x ≤ i := by have := mt (okK_nat x i).2 hg7_2; omega
      have hne : blk x i ≠ blk y i := blk_ne hx0 hnx (by omega)
      refine L.pass rfl rfl ?_
      refine L.pass rfl rfl ?_
      first | refine L.val rfl rfl (R.pickT rfl rfl) ?_ | refine L.val rfl rfl (R.pickF rfl rfl) ?_
      refine L.val rfl rfl (R.mv rfl) ?_
      refine L.pass rfl rfl ?_
      refine L.pass rfl rfl ?_
      refine L.pass rfl rfl ?_
      first | refine L.val rfl rfl (R.pickT rfl rfl) ?_ | refine L.val rfl rfl (R.pickF rfl rfl) ?_
      refine L.nil ?_
      refine N.seq ?_
      refine G.condT rfl ?_
      refine G.region ?_
      refine L.val rfl rfl (R.mv rfl) ?_
      refine L.val rfl rfl (R.mv rfl) ?_
      refine L.do rfl rfl (R.buildA rfl rfl rfl rfl rfl) ?_
      rintro _ w3 ⟨b50, rfl, hb50, hs50, e3, B50⟩
      have hE3 := E.size
      replace E := E.trans0 e3
      replace o1 := o1.ext0 e3
      refine L.do rfl rfl (R.app rfl rfl o1 (Cells.of_blk B50 0 [num i] (fun j v hj => by cases j with | zero => exact hj | succ j => simp at hj)) rfl (by simp [num, Value.oneCell']) (by have := diffN_length x y i; simp [maxLen]; omega) (by have := diffN_length x y i; omega)) ?_
      rintro _ w4 ⟨a3, c3, M3, rfl, e4, hM3, o3⟩
      have hE4 := E.size
      replace E : Ext [] w w4 := E.trans e4 (by simp) (fun g hg => .inr (hM g hg))
      replace hM3 : ∀ g ∈ M3, w.heap.size ≤ g := fun g hg => (hM3 g hg).elim (hM g) (fun h => by omega)
      replace o3 : Own w4 3 1 a3 (diffN x y (i + 1)).length c3 (nums (diffN x y (i + 1))) M3 := by rw [diffN_succ, if_pos hne, nums_append, List.length_append]; exact o3
      refine L.be 51 rfl (show _ = Value.slice a3 (diffN x y (i + 1)).length c3 by rw [diffN_succ, if_pos hne, List.length_append]; rfl) ?_
      refine L.val rfl rfl (R.as rfl) ?_
      refine L.nil ?_
      refine N.block ?_
      refine N.seq ?_
      refine G.region ?_
      refine L.val rfl rfl (R.mv rfl) ?_
      refine L.val rfl rfl (R.add rfl rfl (by omega)) ?_
      refine L.val rfl rfl (R.as rfl) ?_
      refine L.nil ?_
      first
        | exact N.again (X := DfSt) ⟨i + 1, a3, c3, M3⟩ (by show max (dn x) (dn y) - (i + 1) < max (dn x) (dn y) - i; omega) (Sub.cons rfl (Sub.cons rfl (Sub.cons rfl (Sub.cons rfl (Sub.nil _))))) ⟨by show i + 1 ≤ _; omega, o3, hM3, E⟩
        | exact N.again (X := DfSt) ⟨i + 1, a1, c1, M⟩ (by show max (dn x) (dn y) - (i + 1) < max (dn x) (dn y) - i; omega) (Sub.cons rfl (Sub.cons rfl (Sub.cons rfl (Sub.cons rfl (Sub.nil _))))) ⟨by show i + 1 ≤ _; omega, by show Own _ _ 1 a1 _ c1 (nums (diffN x y (i + 1))) M; rw [diffN_succ, if_neg hne, List.append_nil]; exact o1, hM, E⟩
    · have hix : i < dn x := (okK_nat x i).1 (Classical.not_not.1 hg7_2)
      refine L.val rfl rfl (R.mv rfl) ?_
      refine L.val rfl rfl (R.not rfl) ?_
      refine L.be 41 rfl (show _ = Value.bool (decide (¬ okK y i)) by simp) ?_
      first | refine L.val rfl rfl (R.pickT rfl rfl) ?_ | refine L.val rfl rfl (R.pickF rfl rfl) ?_
      refine L.val rfl rfl (R.mv rfl) ?_
      refine L.caseP 43 rfl (fun hg7_6 => ?_) (fun hg7_6 => ?_)
      · have hny : dn y ≤ i := by have := mt (okK_nat y i).2 hg7_6; omega
        have hne : blk x i ≠ blk y i := (blk_ne hy0 hny hix).symm
        refine L.pass rfl rfl ?_
        refine L.pass rfl rfl ?_
        refine L.pass rfl rfl ?_
        first | refine L.val rfl rfl (R.pickT rfl rfl) ?_ | refine L.val rfl rfl (R.pickF rfl rfl) ?_
        refine L.nil ?_
        refine N.seq ?_
        refine G.condT rfl ?_
        refine G.region ?_
        refine L.val rfl rfl (R.mv rfl) ?_
        refine L.val rfl rfl (R.mv rfl) ?_
        refine L.do rfl rfl (R.buildA rfl rfl rfl rfl rfl) ?_
        rintro _ w3 ⟨b50, rfl, hb50, hs50, e3, B50⟩
        have hE3 := E.size
        replace E := E.trans0 e3
        replace o1 := o1.ext0 e3
        refine L.do rfl rfl (R.app rfl rfl o1 (Cells.of_blk B50 0 [num i] (fun j v hj => by cases j with | zero => exact hj | succ j => simp at hj)) rfl (by simp [num, Value.oneCell']) (by have := diffN_length x y i; simp [maxLen]; omega) (by have := diffN_length x y i; omega)) ?_
        rintro _ w4 ⟨a3, c3, M3, rfl, e4, hM3, o3⟩
        have hE4 := E.size
        replace E : Ext [] w w4 := E.trans e4 (by simp) (fun g hg => .inr (hM g hg))
        replace hM3 : ∀ g ∈ M3, w.heap.size ≤ g := fun g hg => (hM3 g hg).elim (hM g) (fun h => by omega)
        replace o3 : Own w4 3 1 a3 (diffN x y (i + 1)).length c3 (nums (diffN x y (i + 1))) M3 := by rw [diffN_succ, if_pos hne, nums_append, List.length_append]; exact o3
        refine L.be 51 rfl (show _ = Value.slice a3 (diffN x y (i + 1)).length c3 by rw [diffN_succ, if_pos hne, List.length_append]; rfl) ?_
        refine L.val rfl rfl (R.as rfl) ?_
        refine L.nil ?_
        refine N.block ?_
        refine N.seq ?_
        refine G.region ?_
        refine L.val rfl rfl (R.mv rfl) ?_
        refine L.val rfl rfl (R.add rfl rfl (by omega)) ?_
        refine L.val rfl rfl (R.as rfl) ?_
        refine L.nil ?_
        first
          | exact N.again (X := DfSt) ⟨i + 1, a3, c3, M3⟩ (by show max (dn x) (dn y) - (i + 1) < max (dn x) (dn y) - i; omega) (Sub.cons rfl (Sub.cons rfl (Sub.cons rfl (Sub.cons rfl (Sub.nil _))))) ⟨by show i + 1 ≤ _; omega, o3, hM3, E⟩
          | exact N.again (X := DfSt) ⟨i + 1, a1, c1, M⟩ (by show max (dn x) (dn y) - (i + 1) < max (dn x) (dn y) - i; omega) (Sub.cons rfl (Sub.cons rfl (Sub.cons rfl (Sub.cons rfl (Sub.nil _))))) ⟨by show i + 1 ≤ _; omega, by show Own _ _ 1 a1 _ c1 (nums (diffN x y (i + 1))) M; rw [diffN_succ, if_neg hne, List.append_nil]; exact o1, hM, E⟩
      · refine L.val rfl rfl (R.mv rfl) ?_
        refine L.val rfl rfl (R.mv rfl) ?_
        refine L.val rfl rfl (R.neStr rfl rfl) ?_
        first | refine L.val rfl rfl (R.pickT rfl rfl) ?_ | refine L.val rfl rfl (R.pickF rfl rfl) ?_
        refine L.nil ?_
        refine N.seq ?_
        refine G.condP rfl (fun h1 => ?_) (fun h1 => ?_)
        · have hne : blk x i ≠ blk y i := by rwa [getB_nat x i hx0, getB_nat y i hy0] at h1
          refine G.region ?_
          refine L.val rfl rfl (R.mv rfl) ?_
          refine L.val rfl rfl (R.mv rfl) ?_
          refine L.do rfl rfl (R.buildA rfl rfl rfl rfl rfl) ?_
          rintro _ w3 ⟨b50, rfl, hb50, hs50, e3, B50⟩
          have hE3 := E.size
          replace E := E.trans0 e3
          replace o1 := o1.ext0 e3
          refine L.do rfl rfl (R.app rfl rfl o1 (Cells.of_blk B50 0 [num i] (fun j v hj => by cases j with | zero => exact hj | succ j => simp at hj)) rfl (by simp [num, Value.oneCell']) (by have := diffN_length x y i; simp [maxLen]; omega) (by have := diffN_length x y i; omega)) ?_
          rintro _ w4 ⟨a3, c3, M3, rfl, e4, hM3, o3⟩
          have hE4 := E.size
          replace E : Ext [] w w4 := E.trans e4 (by simp) (fun g hg => .inr (hM g hg))
          replace hM3 : ∀ g ∈ M3, w.heap.size ≤ g := fun g hg => (hM3 g hg).elim (hM g) (fun h => by omega)
          replace o3 : Own w4 3 1 a3 (diffN x y (i + 1)).length c3 (nums (diffN x y (i + 1))) M3 := by rw [diffN_succ, if_pos hne, nums_append, List.length_append]; exact o3
          refine L.be 51 rfl (show _ = Value.slice a3 (diffN x y (i + 1)).length c3 by rw [diffN_succ, if_pos hne, List.length_append]; rfl) ?_
          refine L.val rfl rfl (R.as rfl) ?_
          refine L.nil ?_
          refine N.block ?_
          refine N.seq ?_
          refine G.region ?_
          refine L.val rfl rfl (R.mv rfl) ?_
          refine L.val rfl rfl (R.add rfl rfl (by omega)) ?_
          refine L.val rfl rfl (R.as rfl) ?_
          refine L.nil ?_
          first
            | exact N.again (X := DfSt) ⟨i + 1, a3, c3, M3⟩ (by show max (dn x) (dn y) - (i + 1) < max (dn x) (dn y) - i; omega) (Sub.cons rfl (Sub.cons rfl (Sub.cons rfl (Sub.cons rfl (Sub.nil _))))) ⟨by show i + 1 ≤ _; omega, o3, hM3, E⟩
            | exact N.again (X := DfSt) ⟨i + 1, a1, c1, M⟩ (by show max (dn x) (dn y) - (i + 1) < max (dn x) (dn y) - i; omega) (Sub.cons rfl (Sub.cons rfl (Sub.cons rfl (Sub.cons rfl (Sub.nil _))))) ⟨by show i + 1 ≤ _; omega, by show Own _ _ 1 a1 _ c1 (nums (diffN x y (i + 1))) M; rw [diffN_succ, if_neg hne, List.append_nil]; exact o1, hM, E⟩
        · have hne : ¬ blk x i ≠ blk y i := by rwa [getB_nat x i hx0, getB_nat y i hy0] at h1
          refine G.be 5 rfl (show _ = Value.slice a1 (diffN x y (i + 1)).length c1 by rw [diffN_succ, if_neg hne, List.append_nil]) ?_
          refine G.skip ?_
          refine N.block ?_
          refine N.seq ?_
          refine G.region ?_
          refine L.val rfl rfl (R.mv rfl) ?_
          refine L.val rfl rfl (R.add rfl rfl (by omega)) ?_
          refine L.val rfl rfl (R.as rfl) ?_
          refine L.nil ?_
          first
            | exact N.again (X := DfSt) ⟨i + 1, a3, c3, M3⟩ (by show max (dn x) (dn y) - (i + 1) < max (dn x) (dn y) - i; omega) (Sub.cons rfl (Sub.cons rfl (Sub.cons rfl (Sub.cons rfl (Sub.nil _))))) ⟨by show i + 1 ≤ _; omega, o3, hM3, E⟩
            | exact N.again (X := DfSt) ⟨i + 1, a1, c1, M⟩ (by show max (dn x) (dn y) - (i + 1) < max (dn x) (dn y) - i; omega) (Sub.cons rfl (Sub.cons rfl (Sub.cons rfl (Sub.cons rfl (Sub.nil _))))) ⟨by show i + 1 ≤ _; omega, by show Own _ _ 1 a1 _ c1 (nums (diffN x y (i + 1))) M; rw [diffN_succ, if_neg hne, List.append_nil]; exact o1, hM, E⟩
  · refine L.val rfl rfl (R.mv rfl) ?_
    refine L.val rfl rfl (R.mv rfl) ?_
    refine L.val rfl rfl (R.lenT rfl) ?_
    refine L.val rfl rfl (R.quo rfl rfl (by omega) (by omega)) ?_
    refine L.val rfl rfl (R.lss rfl rfl) ?_
    first | refine L.val rfl rfl (R.pickT rfl rfl) ?_ | refine L.val rfl rfl (R.pickF rfl rfl) ?_
    refine L.nil ?_
    refine N.seq ?_
    refine G.condP rfl (fun h0 => ?_) (fun h0 => ?_)
    · have him : i < max (dn x) (dn y) := by omega
      refine G.skip ?_
      refine N.seq ?_
      refine G.seq ?_
      refine G.block ?_
      refine G.seq ?_
      refine G.region ?_
      have him : i < max (dn x) (dn y) := by omega
      refine L.val rfl rfl (R.mv rfl) ?_
      refine L.val rfl rfl (R.mv rfl) ?_
      refine L.callF rfl rfl rfl go27 (rget_ok x (i : Int) _ hx) ?_
      rintro _ _ ⟨rfl, hw⟩
      obtain rfl := hw.symm
      refine L.val rfl rfl (R.mv rfl) ?_
      refine L.val rfl rfl (R.ext rfl rfl) ?_
      refine L.val rfl rfl (R.ext rfl rfl) ?_
      refine L.val rfl rfl (R.as rfl) ?_
      refine L.val rfl rfl (R.as rfl) ?_
      refine L.nil ?_
      refine N.seq ?_
      refine G.seq ?_
      refine G.region ?_
      refine L.val rfl rfl (R.mv rfl) ?_
      refine L.val rfl rfl (R.mv rfl) ?_
      refine L.callF rfl rfl rfl go27 (rget_ok y (i : Int) _ hy) ?_
      rintro _ _ ⟨rfl, hw⟩
      obtain rfl := hw.symm
      refine L.val rfl rfl (R.mv rfl) ?_
      refine L.val rfl rfl (R.ext rfl rfl) ?_
      refine L.val rfl rfl (R.ext rfl rfl) ?_
      refine L.val rfl rfl (R.as rfl) ?_
      refine L.val rfl rfl (R.as rfl) ?_
      refine L.nil ?_
      refine N.seq ?_
      refine G.seq ?_
      refine G.region ?_
      refine L.val rfl rfl (R.mv rfl) ?_
      refine L.val rfl rfl (R.not rfl) ?_
      refine L.be 38 rfl (show _ = Value.bool (decide (¬ okK x i)) by simp) ?_
      refine L.val rfl rfl (R.mv rfl) ?_
      refine L.caseP 39 rfl (fun hg7_2 => ?_) (fun hg7_2 => ?_)
      · have hnx : dn x ≤ i := by have := mt (okK_nat x i).2 hg7_2; omega
        have hne : blk x i ≠ blk y i := blk_ne hx0 hnx (by omega)
        refine L.pass rfl rfl ?_
        refine L.pass rfl rfl ?_
        first | refine L.val rfl rfl (R.pickT rfl rfl) ?_ | refine L.val rfl rfl (R.pickF rfl rfl) ?_
        refine L.val rfl rfl (R.mv rfl) ?_
        refine L.pass rfl rfl ?_
        refine L.pass rfl rfl ?_
        refine L.pass rfl rfl ?_
        first | refine L.val rfl rfl (R.pickT rfl rfl) ?_ | refine L.val rfl rfl (R.pickF rfl rfl) ?_
        refine L.nil ?_
        refine N.seq ?_
        refine G.condT rfl ?_
        refine G.region ?_
        refine L.val rfl rfl (R.mv rfl) ?_
        refine L.val rfl rfl (R.mv rfl) ?_
        refine L.do rfl rfl (R.buildA rfl rfl rfl rfl rfl) ?_
        rintro _ w3 ⟨b50, rfl, hb50, hs50, e3, B50⟩
        have hE3 := E.size
        replace E := E.trans0 e3
        replace o1 := o1.ext0 e3
        refine L.do rfl rfl (R.app rfl rfl o1 (Cells.of_blk B50 0 [num i] (fun j v hj => by cases j with | zero => exact hj | succ j => simp at hj)) rfl (by simp [num, Value.oneCell']) (by have := diffN_length x y i; simp [maxLen]; omega) (by have := diffN_length x y i; omega)) ?_
        rintro _ w4 ⟨a3, c3, M3, rfl, e4, hM3, o3⟩
        have hE4 := E.size
        replace E : Ext [] w w4 := E.trans e4 (by simp) (fun g hg => .inr (hM g hg))
        replace hM3 : ∀ g ∈ M3, w.heap.size ≤ g := fun g hg => (hM3 g hg).elim (hM g) (fun h => by omega)
        replace o3 : Own w4 3 1 a3 (diffN x y (i + 1)).length c3 (nums (diffN x y (i + 1))) M3 := by rw [diffN_succ, if_pos hne, nums_append, List.length_append]; exact o3
        refine L.be 51 rfl (show _ = Value.slice a3 (diffN x y (i + 1)).length c3 by rw [diffN_succ, if_pos hne, List.length_append]; rfl) ?_
        refine L.val rfl rfl (R.as rfl) ?_
        refine L.nil ?_
        refine N.block ?_
        refine N.seq ?_
        refine G.region ?_
        refine L.val rfl rfl (R.mv rfl) ?_
        refine L.val rfl rfl (R.add rfl rfl (by omega)) ?_
        refine L.val rfl rfl (R.as rfl) ?_
        refine L.nil ?_
        first
          | exact N.again (X := DfSt) ⟨i + 1, a3, c3, M3⟩ (by show max (dn x) (dn y) - (i + 1) < max (dn x) (dn y) - i; omega) (Sub.cons rfl (Sub.cons rfl (Sub.cons rfl (Sub.cons rfl (Sub.nil _))))) ⟨by show i + 1 ≤ _; omega, o3, hM3, E⟩
          | exact N.again (X := DfSt) ⟨i + 1, a1, c1, M⟩ (by show max (dn x) (dn y) - (i + 1) < max (dn x) (dn y) - i; omega) (Sub.cons rfl (Sub.cons rfl (Sub.cons rfl (Sub.cons rfl (Sub.nil _))))) ⟨by show i + 1 ≤ _; omega, by show Own _ _ 1 a1 _ c1 (nums (diffN x y (i + 1))) M; rw [diffN_succ, if_neg hne, List.append_nil]; exact o1, hM, E⟩
      · have hix : i < dn x := (okK_nat x i).1 (Classical.not_not.1 hg7_2)
        refine L.val rfl rfl (R.mv rfl) ?_
        refine L.val rfl rfl (R.not rfl) ?_
        refine L.be 41 rfl (show _ = Value.bool (decide (¬ okK y i)) by simp) ?_
        first | refine L.val rfl rfl (R.pickT rfl rfl) ?_ | refine L.val rfl rfl (R.pickF rfl rfl) ?_
        refine L.val rfl rfl (R.mv rfl) ?_
        refine L.caseP 43 rfl (fun hg7_6 => ?_) (fun hg7_6 => ?_)
        · have hny : dn y ≤ i := by have := mt (okK_nat y i).2 hg7_6; omega
          have hne : blk x i ≠ blk y i := (blk_ne hy0 hny hix).symm
          refine L.pass rfl rfl ?_
          refine L.pass rfl rfl ?_
          refine L.pass rfl rfl ?_
          first | refine L.val rfl rfl (R.pickT rfl rfl) ?_ | refine L.val rfl rfl (R.pickF rfl rfl) ?_
          refine L.nil ?_
          refine N.seq ?_
          refine G.condT rfl ?_
          refine G.region ?_
          refine L.val rfl rfl (R.mv rfl) ?_
          refine L.val rfl rfl (R.mv rfl) ?_
          refine L.do rfl rfl (R.buildA rfl rfl rfl rfl rfl) ?_
          rintro _ w3 ⟨b50, rfl, hb50, hs50, e3, B50⟩
          have hE3 := E.size
          replace E := E.trans0 e3
          replace o1 := o1.ext0 e3
          refine L.do rfl rfl (R.app rfl rfl o1 (Cells.of_blk B50 0 [num i] (fun j v hj => by cases j with | zero => exact hj | succ j => simp at hj)) rfl (by simp [num, Value.oneCell']) (by have := diffN_length x y i; simp [maxLen]; omega) (by have := diffN_length x y i; omega)) ?_
          rintro _ w4 ⟨a3, c3, M3, rfl, e4, hM3, o3⟩
          have hE4 := E.size
          replace E : Ext [] w w4 := E.trans e4 (by simp) (fun g hg => .inr (hM g hg))
          replace hM3 : ∀ g ∈ M3, w.heap.size ≤ g := fun g hg => (hM3 g hg).elim (hM g) (fun h => by omega)
          replace o3 : Own w4 3 1 a3 (diffN x y (i + 1)).length c3 (nums (diffN x y (i + 1))) M3 := by rw [diffN_succ, if_pos hne, nums_append, List.length_append]; exact o3
          refine L.be 51 rfl (show _ = Value.slice a3 (diffN x y (i + 1)).length c3 by rw [diffN_succ, if_pos hne, List.length_append]; rfl) ?_
          refine L.val rfl rfl (R.as rfl) ?_
          refine L.nil ?_
          refine N.block ?_
          refine N.seq ?_
          refine G.region ?_
          refine L.val rfl rfl (R.mv rfl) ?_
          refine L.val rfl rfl (R.add rfl rfl (by omega)) ?_
          refine L.val rfl rfl (R.as rfl) ?_
          refine L.nil ?_
          first
            | exact N.again (X := DfSt) ⟨i + 1, a3, c3, M3⟩ (by show max (dn x) (dn y) - (i + 1) < max (dn x) (dn y) - i; omega) (Sub.cons rfl (Sub.cons rfl (Sub.cons rfl (Sub.cons rfl (Sub.nil _))))) ⟨by show i + 1 ≤ _; omega, o3, hM3, E⟩
            | exact N.again (X := DfSt) ⟨i + 1, a1, c1, M⟩ (by show max (dn x) (dn y) - (i + 1) < max (dn x) (dn y) - i; omega) (Sub.cons rfl (Sub.cons rfl (Sub.cons rfl (Sub.cons rfl (Sub.nil _))))) ⟨by show i + 1 ≤ _; omega, by show Own _ _ 1 a1 _ c1 (nums (diffN x y (i + 1))) M; rw [diffN_succ, if_neg hne, List.append_nil]; exact o1, hM, E⟩
        · refine L.val rfl rfl (R.mv rfl) ?_
          refine L.val rfl rfl (R.mv rfl) ?_
          refine L.val rfl rfl (R.neStr rfl rfl) ?_
          first | refine L.val rfl rfl (R.pickT rfl rfl) ?_ | refine L.val rfl rfl (R.pickF rfl rfl) ?_
          refine L.nil ?_
          refine N.seq ?_
          refine G.condP rfl (fun h1 => ?_) (fun h1 => ?_)
          · have hne : blk x i ≠ blk y i := by rwa [getB_nat x i hx0, getB_nat y i hy0] at h1
            refine G.region ?_
            refine L.val rfl rfl (R.mv rfl) ?_
            refine L.val rfl rfl (R.mv rfl) ?_
            refine L.do rfl rfl (R.buildA rfl rfl rfl rfl rfl) ?_
            rintro _ w3 ⟨b50, rfl, hb50, hs50, e3, B50⟩
            have hE3 := E.size
            replace E := E.trans0 e3
            replace o1 := o1.ext0 e3
            refine L.do rfl rfl (R.app rfl rfl o1 (Cells.of_blk B50 0 [num i] (fun j v hj => by cases j with | zero => exact hj | succ j => simp at hj)) rfl (by simp [num, Value.oneCell']) (by have := diffN_length x y i; simp [maxLen]; omega) (by have := diffN_length x y i; omega)) ?_
            rintro _ w4 ⟨a3, c3, M3, rfl, e4, hM3, o3⟩
            have hE4 := E.size
            replace E : Ext [] w w4 := E.trans e4 (by simp) (fun g hg => .inr (hM g hg))
            replace hM3 : ∀ g ∈ M3, w.heap.size ≤ g := fun g hg => (hM3 g hg).elim (hM g) (fun h => by omega)
            replace o3 : Own w4 3 1 a3 (diffN x y (i + 1)).length c3 (nums (diffN x y (i + 1))) M3 := by rw [diffN_succ, if_pos hne, nums_append, List.length_append]; exact o3
            refine L.be 51 rfl (show _ = Value.slice a3 (diffN x y (i + 1)).length c3 by rw [diffN_succ, if_pos hne, List.length_append]; rfl) ?_
            refine L.val rfl rfl (R.as rfl) ?_
            refine L.nil ?_
            refine N.block ?_
            refine N.seq ?_
            refine G.region ?_
            refine L.val rfl rfl (R.mv rfl) ?_
            refine L.val rfl rfl (R.add rfl rfl (by omega)) ?_
            refine L.val rfl rfl (R.as rfl) ?_
            refine L.nil ?_
            first
              | exact N.again (X := DfSt) ⟨i + 1, a3, c3, M3⟩ (by show max (dn x) (dn y) - (i + 1) < max (dn x) (dn y) - i; omega) (Sub.cons rfl (Sub.cons rfl (Sub.cons rfl (Sub.cons rfl (Sub.nil _))))) ⟨by show i + 1 ≤ _; omega, o3, hM3, E⟩
              | exact N.again (X := DfSt) ⟨i + 1, a1, c1, M⟩ (by show max (dn x) (dn y) - (i + 1) < max (dn x) (dn y) - i; omega) (Sub.cons rfl (Sub.cons rfl (Sub.cons rfl (Sub.cons rfl (Sub.nil _))))) ⟨by show i + 1 ≤ _; omega, by show Own _ _ 1 a1 _ c1 (nums (diffN x y (i + 1))) M; rw [diffN_succ, if_neg hne, List.append_nil]; exact o1, hM, E⟩
          · have hne : ¬ blk x i ≠ blk y i := by rwa [getB_nat x i hx0, getB_nat y i hy0] at h1
            refine G.be 5 rfl (show _ = Value.slice a1 (diffN x y (i + 1)).length c1 by rw [diffN_succ, if_neg hne, List.append_nil]) ?_
            refine G.skip ?_
            refine N.block ?_
            refine N.seq ?_
            refine G.region ?_
            refine L.val rfl rfl (R.mv rfl) ?_
            refine L.val rfl rfl (R.add rfl rfl (by omega)) ?_
            refine L.val rfl rfl (R.as rfl) ?_
            refine L.nil ?_
            first
              | exact N.again (X := DfSt) ⟨i + 1, a3, c3, M3⟩ (by show max (dn x) (dn y) - (i + 1) < max (dn x) (dn y) - i; omega) (Sub.cons rfl (Sub.cons rfl (Sub.cons rfl (Sub.cons rfl (Sub.nil _))))) ⟨by show i + 1 ≤ _; omega, o3, hM3, E⟩
              | exact N.again (X := DfSt) ⟨i + 1, a1, c1, M⟩ (by show max (dn x) (dn y) - (i + 1) < max (dn x) (dn y) - i; omega) (Sub.cons rfl (Sub.cons rfl (Sub.cons rfl (Sub.cons rfl (Sub.nil _))))) ⟨by show i + 1 ≤ _; omega, by show Own _ _ 1 a1 _ c1 (nums (diffN x y (i + 1))) M; rw [diffN_succ, if_neg hne, List.append_nil]; exact o1, hM, E⟩
    · obtain rfl : i = max (dn x) (dn y) := by omega
      refine G.exit _ rfl ?_
      refine N.seq ?_
      refine G.seq ?_
      refine G.region ?_
      refine L.val rfl rfl (R.mv rfl) ?_
      refine L.val rfl rfl (R.as rfl) ?_
      refine L.nil ?_
      refine N.seq ?_
      refine G.ret1 rfl rfl ?_
      exact ⟨a1, c1, M, rfl, E, o1, hM⟩

end Go.Proofs.Ytiggahlnplaciaa
/-
  The walks of package digest.
-/
set_option linter.unusedVariables false
set_option linter.unusedSimpArgs false
set_option maxRecDepth 4000
namespace Go.Proofs.Ytiggahlnplaciaa
open Go Brv
/-- The nodes of a row whose sums aren't alike. -/
def unl (ra rb ks : List Nat) : List Nat := ks.filter fun i => decide (i < ra.length ∧ ra[i]? ≠ rb[i]?)
def lks (ra ks : List Nat) : Nat := (ks.filter fun i => decide (i < ra.length)).length
def bel (u : List Nat) : List Nat := (u.map fun i => [2 * i, 2 * i + 1]).flatten
/-- From a row downwards. -/
def difD (A B : List (List Nat)) : Nat → List Nat → List Nat × Nat
  | 0, ks => (unl (A[0]?.getD []) (B[0]?.getD []) ks, lks (A[0]?.getD []) ks)
  | k + 1, ks => ((difD A B k (bel (unl (A[k + 1]?.getD []) (B[k + 1]?.getD []) ks))).1, lks (A[k + 1]?.getD []) ks + (difD A B k (bel (unl (A[k + 1]?.getD []) (B[k + 1]?.getD []) ks))).2)
def difF (A B : List (List Nat)) : List Nat × Nat := if likeT A B = true ∧ (A.getLast?.getD []).length = 1 then difD A B (A.length - 1) [0] else ([], 0)
theorem unl_succ {ra rb ks : List Nat} {j i : Nat} (h : ks[j]? = some i) : unl ra rb (ks.take (j + 1)) = unl ra rb (ks.take j) ++ if i < ra.length ∧ ra[i]? ≠ rb[i]? then [i] else [] := by
  unfold unl
  rw [List.take_add_one, h, List.filter_append]
  congr 1
  show List.filter _ [i] = _
  rw [List.filter_cons, List.filter_nil]; simp only [decide_eq_true_eq]
theorem lks_succ {ra ks : List Nat} {j i : Nat} (h : ks[j]? = some i) : lks ra (ks.take (j + 1)) = lks ra (ks.take j) + if i < ra.length then 1 else 0 := by
  unfold lks
  rw [List.take_add_one, h, List.filter_append, List.length_append]
  congr 1
  by_cases hp : i < ra.length <;> simp [hp]
theorem bel_app (x y : List Nat) : bel (x ++ y) = bel x ++ bel y := by simp [bel]
theorem bel_len (x : List Nat) : (bel x).length = 2 * x.length := by
  induction x with
  | nil => rfl
  | cons a x ih => unfold bel at ih ⊢; simp only [List.map_cons, List.flatten_cons, List.length_append, ih, List.length_cons, List.length_nil]; omega
theorem bel_lt {x : List Nat} {c : Nat} (h : ∀ i ∈ x, i < c) : ∀ i ∈ bel x, i < 2 * c := by
  intro i hi
  unfold bel at hi
  simp only [List.mem_flatten, List.mem_map] at hi
  obtain ⟨_, ⟨j, hj, rfl⟩, h2⟩ := hi
  have := h j hj
  simp only [List.mem_cons, List.not_mem_nil, or_false] at h2
  omega
theorem unl_sub {ra rb ks : List Nat} {i : Nat} (h : i ∈ unl ra rb ks) : i ∈ ks := (List.mem_filter.1 h).1
theorem unl_len (ra rb ks : List Nat) : (unl ra rb ks).length ≤ ks.length := List.length_filter_le _ _
theorem lks_len (ra ks : List Nat) : lks ra ks ≤ ks.length := List.length_filter_le _ _
theorem nums_pt {w : World} {a : Option Addr} {i v : Nat} {l : List Nat} (h : Cells w a (nums l)) (hx : l[i]? = some v) : ∃ q, a = some q :=
  let ⟨q, hq, _⟩ := h i (num v) (by rw [nums, List.getElem?_map, hx]; rfl); ⟨q, hq⟩
theorem nums_ld {w : World} {a : Option Addr} {i v : Nat} {l : List Nat} {q : Addr} (h : Cells w a (nums l)) (hq : a = some q) (hx : l[i]? = some v) : w.cell? (q.add ((i : Int).toNat * 1)) = some (.int .i64 (v : Int)) := by
  obtain ⟨p, hp, hc⟩ := h i (num v) (by rw [nums, List.getElem?_map, hx]; rfl)
  rw [hq] at hp; cases hp
  rw [Int.toNat_natCast, Nat.mul_one]; exact hc
theorem nums_one (x : List Nat) : ∀ u ∈ nums x, u.oneCell' = true := fun u hu => by obtain ⟨v, _, rfl⟩ := List.mem_map.1 hu; rfl
structure DfL where
  k : Nat
  ks : List Nat
  a : Option Addr
  c : Nat
  L : Nat
structure DfI where
  j : Nat
  u : List Nat
  ua : Option Addr
  uc : Nat
  bl : List Nat
  ba : Option Addr
  bc : Nat
  L : Nat
theorem dif_yes {A B : List (List Nat)} {v : Nat} (h : likeT A B = true) (ht : A.getLast? = some [v]) : difF A B = difD A B (A.length - 1) [0] := by unfold difF; rw [if_pos ⟨h, by rw [ht]; rfl⟩]
theorem dif_no {A B : List (List Nat)} (h : ¬ likeT A B = true) : difF A B = ([], 0) := by unfold difF; rw [if_neg (fun h9 => h h9.1)]
theorem difD_zero {A B : List (List Nat)} {ra rb : List Nat} (ha : A[0]? = some ra) (hb : B[0]? = some rb) (ks : List Nat) : difD A B 0 ks = (unl ra rb ks, lks ra ks) := by unfold difD; rw [ha, hb]; rfl
theorem difD_succ {A B : List (List Nat)} {k : Nat} {ra rb : List Nat} (ha : A[k + 1]? = some ra) (hb : B[k + 1]? = some rb) (ks : List Nat) : difD A B (k + 1) ks = ((difD A B k (bel (unl ra rb ks))).1, lks ra ks + (difD A B k (bel (unl ra rb ks))).2) := by
  rw [difD, ha, hb]; rfl

theorem ddif_ok (aa ab : Option Addr) (ca cb : Nat) (Ra Rb : List URow) (hn : Ra.length ≤ 20) : SpecS Try.prog 12 [.slice aa Ra.length ca, .slice ab Rb.length cb] [sh (fun w => Cells w aa (Ra.map URow.val) ∧ ∀ r ∈ Ra, URow.ok w r), sh (fun w => Cells w ab (Rb.map URow.val) ∧ ∀ r ∈ Rb, URow.ok w r)] (fun v H' => ∃ a c, v = .tuple #[.slice a (difF (Ra.map URow.l) (Rb.map URow.l)).1.length c, .int .i64 ((difF (Ra.map URow.l) (Rb.map URow.l)).2 : Int)] ∧ H' = [own 3 1 a ((difF (Ra.map URow.l) (Rb.map URow.l)).1.length) c (nums ((difF (Ra.map URow.l) (Rb.map URow.l)).1))]) := by
  refine SpecS.enter Try.func12 rfl 84 rfl (Nat.le_of_ble_eq_true rfl) (fun o => ?_)
  have hrn : Ra.length = 0 ∨ 0 < Ra.length := Nat.eq_zero_or_pos _
  refine SG.seq ?_
  refine SG.region ?_
  refine SL.val rfl rfl (fun w9 F9 S9 s => R.as rfl) ?_
  refine SL.val rfl rfl (fun w9 F9 S9 s => R.as rfl) ?_
  refine SL.nil ?_
  refine SN.seq ?_
  refine SG.seq ?_
  refine SG.seq ?_
  refine SG.region ?_
  refine SL.val rfl rfl (fun w9 F9 S9 s => R.mv rfl) ?_
  refine SL.val rfl rfl (fun w9 F9 S9 s => R.mv rfl) ?_
  refine SL.step rfl rfl (CS.call rfl go26 (shaped_ok aa ab ca cb Ra Rb (by omega)) (by repeat (first | exact Sels.nil | apply Sels.cons | exact Sel.keep | exact Sel.here | apply Sel.there))) ?_
  rintro _ _ ⟨_, ⟨rfl, rfl⟩, rfl⟩
  refine SL.n0 ?_
  refine SL.val rfl rfl (fun w9 F9 S9 s => R.not rfl) ?_
  refine SL.val rfl rfl (fun w9 F9 S9 s => R.mv rfl) ?_
  refine SL.caseB 17 rfl (fun hg1_4 => ?_) (fun hg1_4 => ?_)
  · have hdf : difF (Ra.map URow.l) (Rb.map URow.l) = ([], 0) := by
      by_cases hz : 0 < Ra.length
      · exact dif_no (fun h9 => by rw [h9, decide_eq_true hz] at hg1_4; cases hg1_4)
      · have : Ra = [] := List.eq_nil_of_length_eq_zero (by omega)
        subst this
        unfold difF; rw [if_neg (fun h9 => by have := h9.2; simp at this)]
    refine SL.pass rfl rfl ?_
    refine SL.pass rfl rfl ?_
    refine SL.pass rfl rfl ?_
    refine SL.pass rfl rfl ?_
    refine SL.pass rfl rfl ?_
    refine SL.pass rfl rfl ?_
    refine SL.pass rfl rfl ?_
    refine SL.pass rfl rfl ?_
    first | refine SL.val rfl rfl (fun w9 F9 S9 s => R.pickT rfl rfl) ?_ | refine SL.val rfl rfl (fun w9 F9 S9 s => R.pickF rfl rfl) ?_
    refine SL.nil ?_
    refine SN.seq ?_
    refine SG.condT rfl ?_
    refine SG.seq ?_
    refine SG.region ?_
    refine SL.val rfl rfl (fun w9 F9 S9 s => R.as rfl) ?_
    refine SL.val rfl rfl (fun w9 F9 S9 s => R.as rfl) ?_
    refine SL.nil ?_
    refine SN.seq ?_
    exact SG.ret2 rfl rfl rfl ((show Imp _ [own 3 1 none (0) 0 (nums ([]))] from (Imp.ownNil 3 1).trans (Imp.sels (by repeat (first | exact Sels.nil | apply Sels.cons | exact Sel.keep | exact Sel.here | apply Sel.there))))) (⟨none, 0, by rw [hdf]; rfl, by rw [hdf]; rfl⟩)
  · have hsh : 0 < Ra.length ∧ likeT (Ra.map URow.l) (Rb.map URow.l) = true := by
      have h9 : (decide (0 < Ra.length) && likeT (Ra.map URow.l) (Rb.map URow.l)) = true := by simpa using hg1_4
      rw [Bool.and_eq_true, decide_eq_true_eq] at h9
      exact h9
    obtain ⟨hR0, hlk⟩ := hsh
    have hlen := likeT_len hlk
    rw [List.length_map, List.length_map] at hlen
    obtain ⟨rt, hrt⟩ : ∃ r, Ra[Ra.length - 1]? = some r := ⟨_, List.getElem?_eq_getElem (by omega)⟩
    refine SL.fact (fun w9 F9 S9 s => rows_pt (s.sh (p := (fun w => Cells w aa (Ra.map URow.val) ∧ ∀ r ∈ Ra, URow.ok w r)) (by repeat (first | exact Sel.keep | exact Sel.here | apply Sel.there))).1 hrt) (fun hf9 => ?_)
    obtain ⟨q, hq⟩ := hf9
    refine SL.fact (fun w9 F9 S9 s => ((s.sh (p := (fun w => Cells w aa (Ra.map URow.val) ∧ ∀ r ∈ Ra, URow.ok w r)) (by repeat (first | exact Sel.keep | exact Sel.here | apply Sel.there))).2 rt (List.mem_of_getElem? hrt)).len) (fun hf9 => ?_)
    have hnt := hf9; clear hf9
    have hgl : ((Ra.map URow.l).getLast?.getD []) = rt.l := by rw [List.getLast?_eq_getElem?, List.length_map, List.getElem?_map, hrt]; rfl
    refine SL.val rfl rfl (fun w9 F9 S9 s => R.mv rfl) ?_
    refine SL.val rfl rfl (fun w9 F9 S9 s => R.mv rfl) ?_
    refine SL.val rfl rfl (fun w9 F9 S9 s => R.lenS rfl) ?_
    refine SL.val rfl rfl (fun w9 F9 S9 s => R.sub' rfl rfl (by omega)) ?_
    refine SL.be 21 rfl (congrArg (Value.int .i64) (show (Ra.length : Int) - 1 = ((Ra.length - 1 : Nat) : Int) by omega)) ?_
    refine SL.val rfl rfl (fun w9 F9 S9 s => R.idx rfl rfl (by omega) (by omega) q hq) ?_
    refine SL.val rfl rfl (fun w9 F9 S9 s => R.ld (v := .slice rt.a rt.n rt.c) rfl (rows_ld (s.sh (p := (fun w => Cells w aa (Ra.map URow.val) ∧ ∀ r ∈ Ra, URow.ok w r)) (by repeat (first | exact Sel.keep | exact Sel.here | apply Sel.there))).1 hq hrt)) ?_
    refine SL.val rfl rfl (fun w9 F9 S9 s => R.lenS rfl) ?_
    refine SL.val rfl rfl (fun w9 F9 S9 s => R.neI rfl rfl) ?_
    first | refine SL.val rfl rfl (fun w9 F9 S9 s => R.pickT rfl rfl) ?_ | refine SL.val rfl rfl (fun w9 F9 S9 s => R.pickF rfl rfl) ?_
    refine SL.nil ?_
    refine SN.seq ?_
    refine SG.condP rfl (fun h0 => ?_) (fun h0 => ?_)
    · have hdf : difF (Ra.map URow.l) (Rb.map URow.l) = ([], 0) := by unfold difF; rw [if_neg (fun h9 => by have h8 := h9.2; rw [hgl] at h8; omega)]
      refine SG.seq ?_
      refine SG.region ?_
      refine SL.val rfl rfl (fun w9 F9 S9 s => R.as rfl) ?_
      refine SL.val rfl rfl (fun w9 F9 S9 s => R.as rfl) ?_
      refine SL.nil ?_
      refine SN.seq ?_
      exact SG.ret2 rfl rfl rfl ((show Imp _ [own 3 1 none (0) 0 (nums ([]))] from (Imp.ownNil 3 1).trans (Imp.sels (by repeat (first | exact Sels.nil | apply Sels.cons | exact Sel.keep | exact Sel.here | apply Sel.there))))) (⟨none, 0, by rw [hdf]; rfl, by rw [hdf]; rfl⟩)
    · have hdf : difF (Ra.map URow.l) (Rb.map URow.l) = difD (Ra.map URow.l) (Rb.map URow.l) (Ra.length - 1) [0] := by unfold difF; rw [if_pos ⟨hlk, by rw [hgl]; omega⟩, List.length_map]
      refine SG.skip ?_
      refine SN.seq ?_
      refine SG.seq ?_
      refine SG.region ?_
      refine SL.step rfl rfl (CS.buildA rfl rfl rfl rfl rfl (nums [0]) rfl) ?_
      rintro _ _ ⟨b27, rfl, rfl⟩
      refine SL.imp (Imp.ownBlk (size := 1) (k := 1) (show Sel _ (blk b27 (nums [0]) 3) _ from (by repeat (first | exact Sel.keep | exact Sel.here | apply Sel.there))) rfl (by decide)) ?_
      refine SL.val rfl rfl (fun w9 F9 S9 s => R.as rfl) ?_
      refine SL.val rfl rfl (fun w9 F9 S9 s => R.as rfl) ?_
      refine SL.nil ?_
      refine SN.seq ?_
      refine SG.seq ?_
      refine SG.seq ?_
      refine SG.region ?_
      refine SL.val rfl rfl (fun w9 F9 S9 s => R.mv rfl) ?_
      refine SL.val rfl rfl (fun w9 F9 S9 s => R.lenS rfl) ?_
      refine SL.val rfl rfl (fun w9 F9 S9 s => R.sub' rfl rfl (by omega)) ?_
      refine SL.be 30 rfl (congrArg (Value.int .i64) (show (Ra.length : Int) - 1 = ((Ra.length - 1 : Nat) : Int) by omega)) ?_
      refine SL.val rfl rfl (fun w9 F9 S9 s => R.as rfl) ?_
      refine SL.nil ?_
      refine SN.seq ?_
      refine SG.block ?_
      refine SG.loop (X := DfL) (fun y => [(0, .slice aa Ra.length ca), (1, .slice ab Rb.length cb), (6, .slice y.a y.ks.length y.c), (7, .int .i64 (y.L : Int)), (8, .int .i64 (y.k : Int))]) (fun y => [sh (fun w => Cells w aa (Ra.map URow.val) ∧ ∀ r ∈ Ra, URow.ok w r), sh (fun w => Cells w ab (Rb.map URow.val) ∧ ∀ r ∈ Rb, URow.ok w r), own 3 1 y.a (y.ks.length) y.c (nums (y.ks))]) (fun y => y.k < Ra.length ∧ y.ks.length ≤ 2 ^ (Ra.length - 1 - y.k) ∧ (∀ i ∈ y.ks, i < 2 ^ (Ra.length - 1 - y.k)) ∧ y.L ≤ 2 ^ (Ra.length - 1 - y.k) ∧ difF (Ra.map URow.l) (Rb.map URow.l) = ((difD (Ra.map URow.l) (Rb.map URow.l) y.k y.ks).1, y.L + (difD (Ra.map URow.l) (Rb.map URow.l) y.k y.ks).2)) (fun y => y.k) (⟨Ra.length - 1, [0], some ⟨b27, 0, none⟩, 1, 0⟩) (Sub.cons rfl (Sub.cons rfl (Sub.cons rfl (Sub.cons rfl (Sub.cons rfl (Sub.nil _)))))) ((Imp.sels (by repeat (first | exact Sels.nil | apply Sels.cons | exact Sel.keep | exact Sel.here | apply Sel.there)))) (⟨by show Ra.length - 1 < _; omega, by show 1 ≤ 2 ^ (Ra.length - 1 - (Ra.length - 1)); rw [Nat.sub_self]; exact Nat.le_refl _, by intro i hi; rw [List.mem_singleton.1 hi]; exact Nat.two_pow_pos _, Nat.zero_le _, by rw [hdf]; show _ = (_, 0 + _); rw [Nat.zero_add]⟩) ?_
      rintro ⟨k, ks, ka, kc, L⟩ ⟨hk, hkl, hki, hL, hdk⟩
      dsimp only at hk hkl hki hL hdk
      have hpw : 2 ^ (Ra.length - 1 - k) ≤ 2 ^ 20 := Nat.pow_le_pow_right (by decide) (by omega)
      rw [show (2 : Nat) ^ 20 = 1048576 from rfl] at hpw
      show SG _ _ _ _ _ [(0, .slice aa Ra.length ca), (1, .slice ab Rb.length cb), (6, .slice ka ks.length kc), (7, .int .i64 (L : Int)), (8, .int .i64 (k : Int))] [sh (fun w => Cells w aa (Ra.map URow.val) ∧ ∀ r ∈ Ra, URow.ok w r), sh (fun w => Cells w ab (Rb.map URow.val) ∧ ∀ r ∈ Rb, URow.ok w r), own 3 1 ka (ks.length) kc (nums (ks))] _
      refine SG.seq ?_
      refine SG.seq ?_
      refine SG.region ?_
      refine SL.val rfl rfl (fun w9 F9 S9 s => R.mv rfl) ?_
      refine SL.val rfl rfl (fun w9 F9 S9 s => R.geq rfl rfl) ?_
      refine SL.nil ?_
      refine SN.seq ?_
      refine SG.condP rfl (fun h1 => ?_) (fun h1 => ?_)
      · obtain ⟨ra, hra⟩ : ∃ r, Ra[k]? = some r := ⟨_, List.getElem?_eq_getElem (by omega)⟩
        obtain ⟨rb, hrb⟩ : ∃ r, Rb[k]? = some r := ⟨_, List.getElem?_eq_getElem (by omega)⟩
        refine SG.fact (fun w9 F9 S9 s => rows_pt (s.sh (p := (fun w => Cells w aa (Ra.map URow.val) ∧ ∀ r ∈ Ra, URow.ok w r)) (by repeat (first | exact Sel.keep | exact Sel.here | apply Sel.there))).1 hra) (fun hf9 => ?_)
        obtain ⟨q, hq⟩ := hf9
        refine SG.fact (fun w9 F9 S9 s => rows_pt (s.sh (p := (fun w => Cells w ab (Rb.map URow.val) ∧ ∀ r ∈ Rb, URow.ok w r)) (by repeat (first | exact Sel.keep | exact Sel.here | apply Sel.there))).1 hrb) (fun hf9 => ?_)
        obtain ⟨q2, hq2⟩ := hf9
        refine SG.fact (fun w9 F9 S9 s => ((s.sh (p := (fun w => Cells w aa (Ra.map URow.val) ∧ ∀ r ∈ Ra, URow.ok w r)) (by repeat (first | exact Sel.keep | exact Sel.here | apply Sel.there))).2 ra (List.mem_of_getElem? hra)).len) (fun hf9 => ?_)
        have hna := hf9; clear hf9
        refine SG.fact (fun w9 F9 S9 s => ((s.sh (p := (fun w => Cells w ab (Rb.map URow.val) ∧ ∀ r ∈ Rb, URow.ok w r)) (by repeat (first | exact Sel.keep | exact Sel.here | apply Sel.there))).2 rb (List.mem_of_getElem? hrb)).len) (fun hf9 => ?_)
        have hnb := hf9; clear hf9
        have hla : (Ra.map URow.l)[k]? = some ra.l := by rw [List.getElem?_map, hra]; rfl
        have hlb : (Rb.map URow.l)[k]? = some rb.l := by rw [List.getElem?_map, hrb]; rfl
        have hab := (likeT_at hlk hla hlb).1
        refine SG.skip ?_
        refine SN.seq ?_
        refine SG.seq ?_
        refine SG.block ?_
        refine SG.seq ?_
        refine SG.region ?_
        refine SL.val rfl rfl (fun w9 F9 S9 s => R.as rfl) ?_
        refine SL.val rfl rfl (fun w9 F9 S9 s => R.as rfl) ?_
        refine SL.nil ?_
        refine SN.seq ?_
        refine SG.seq ?_
        refine SG.seq ?_
        refine SG.region ?_
        refine SL.val rfl rfl (fun w9 F9 S9 s => R.mv rfl) ?_
        refine SL.val rfl rfl (fun w9 F9 S9 s => R.lenS rfl) ?_
        refine SL.val rfl rfl (fun w9 F9 S9 s => R.mv rfl) ?_
        refine SL.nil ?_
        refine SN.seq ?_
        refine SG.block ?_
        refine SG.imp (Imp.ownNil 3 1) ?_
        refine SG.imp (Imp.ownNil 3 1) ?_
        refine SG.loop (X := DfI) (fun y => [(0, .slice aa Ra.length ca), (1, .slice ab Rb.length cb), (7, .int .i64 (y.L : Int)), (8, .int .i64 (k : Int)), (9, .slice y.ua y.u.length y.uc), (10, .slice y.ba y.bl.length y.bc), (35, .slice ka ks.length kc), (36, .int .i64 (ks.length : Int)), (37, .int .i64 (y.j : Int))]) (fun y => [sh (fun w => Cells w aa (Ra.map URow.val) ∧ ∀ r ∈ Ra, URow.ok w r), sh (fun w => Cells w ab (Rb.map URow.val) ∧ ∀ r ∈ Rb, URow.ok w r), own 3 1 ka (ks.length) kc (nums (ks)), own 3 1 y.ua (y.u.length) y.uc (nums (y.u)), own 3 1 y.ba (y.bl.length) y.bc (nums (y.bl))]) (fun y => y.j ≤ ks.length ∧ y.u = unl ra.l rb.l (ks.take y.j) ∧ y.bl = bel y.u ∧ y.L = L + lks ra.l (ks.take y.j)) (fun y => ks.length - y.j) (⟨0, [], none, 0, [], none, 0, L⟩) (Sub.cons rfl (Sub.cons rfl (Sub.cons rfl (Sub.cons rfl (Sub.cons rfl (Sub.cons rfl (Sub.cons rfl (Sub.cons rfl (Sub.cons rfl (Sub.nil _)))))))))) ((Imp.sels (by repeat (first | exact Sels.nil | apply Sels.cons | exact Sel.keep | exact Sel.here | apply Sel.there)))) (⟨Nat.zero_le _, rfl, rfl, rfl⟩) ?_
        rintro ⟨j, u, ua, uc, bl, ba, bc, L2⟩ ⟨hj, hu, hbl, hL2⟩
        dsimp only at hj hu hbl hL2
        have hul := unl_len ra.l rb.l (ks.take j)
        rw [← hu, List.length_take] at hul
        have hbll := bel_len u
        rw [← hbl] at hbll
        have hlkl := lks_len ra.l (ks.take j)
        rw [List.length_take] at hlkl
        show SG _ _ _ _ _ [(0, .slice aa Ra.length ca), (1, .slice ab Rb.length cb), (7, .int .i64 (L2 : Int)), (8, .int .i64 (k : Int)), (9, .slice ua u.length uc), (10, .slice ba bl.length bc), (35, .slice ka ks.length kc), (36, .int .i64 (ks.length : Int)), (37, .int .i64 (j : Int))] [sh (fun w => Cells w aa (Ra.map URow.val) ∧ ∀ r ∈ Ra, URow.ok w r), sh (fun w => Cells w ab (Rb.map URow.val) ∧ ∀ r ∈ Rb, URow.ok w r), own 3 1 ka (ks.length) kc (nums (ks)), own 3 1 ua (u.length) uc (nums (u)), own 3 1 ba (bl.length) bc (nums (bl))] _
        refine SG.seq ?_
        refine SG.region ?_
        refine SL.val rfl rfl (fun w9 F9 S9 s => R.lss rfl rfl) ?_
        refine SL.nil ?_
        refine SN.seq ?_
        refine SG.seq ?_
        refine SG.condP rfl (fun h2 => ?_) (fun h2 => ?_)
        · obtain ⟨i, hi⟩ : ∃ i, ks[j]? = some i := ⟨_, List.getElem?_eq_getElem (by omega)⟩
          have hib := hki i (List.mem_of_getElem? hi)
          refine SG.fact (fun w9 F9 S9 s => nums_pt (s.ownC (show Sel _ (own 3 1 ka (ks.length) kc (nums (ks))) _ from (by repeat (first | exact Sel.keep | exact Sel.here | apply Sel.there)))) hi) (fun hf9 => ?_)
          obtain ⟨qk, hqk⟩ := hf9
          have hus := unl_succ (ra := ra.l) (rb := rb.l) hi
          have hls := lks_succ (ra := ra.l) hi
          refine SG.skip ?_
          refine SN.seq ?_
          refine SG.seq ?_
          refine SG.block ?_
          refine SG.seq ?_
          refine SG.region ?_
          refine SL.val rfl rfl (fun w9 F9 S9 s => R.idx rfl rfl (by omega) (by omega) qk hqk) ?_
          refine SL.val rfl rfl (fun w9 F9 S9 s => R.ld (v := .int .i64 (i : Int)) rfl (nums_ld (s.ownC (show Sel _ (own 3 1 ka (ks.length) kc (nums (ks))) _ from (by repeat (first | exact Sel.keep | exact Sel.here | apply Sel.there)))) hqk hi)) ?_
          refine SL.val rfl rfl (fun w9 F9 S9 s => R.as rfl) ?_
          refine SL.nil ?_
          refine SN.seq ?_
          refine SG.seq ?_
          refine SG.seq ?_
          refine SG.region ?_
          refine SL.val rfl rfl (fun w9 F9 S9 s => R.mv rfl) ?_
          refine SL.val rfl rfl (fun w9 F9 S9 s => R.mv rfl) ?_
          refine SL.val rfl rfl (fun w9 F9 S9 s => R.mv rfl) ?_
          refine SL.val rfl rfl (fun w9 F9 S9 s => R.idx rfl rfl (by omega) (by omega) q hq) ?_
          refine SL.val rfl rfl (fun w9 F9 S9 s => R.ld (v := .slice ra.a ra.n ra.c) rfl (rows_ld (s.sh (p := (fun w => Cells w aa (Ra.map URow.val) ∧ ∀ r ∈ Ra, URow.ok w r)) (by repeat (first | exact Sel.keep | exact Sel.here | apply Sel.there))).1 hq hra)) ?_
          refine SL.val rfl rfl (fun w9 F9 S9 s => R.lenS rfl) ?_
          refine SL.val rfl rfl (fun w9 F9 S9 s => R.geq rfl rfl) ?_
          refine SL.nil ?_
          refine SN.seq ?_
          refine SG.condP rfl (fun h3 => ?_) (fun h3 => ?_)
          · refine SG.exit _ rfl ?_
            refine SN.seq ?_
            refine SG.region ?_
            refine SL.val rfl rfl (fun w9 F9 S9 s => R.add rfl rfl (by omega)) ?_
            refine SL.val rfl rfl (fun w9 F9 S9 s => R.mv rfl) ?_
            refine SL.nil ?_
            exact SN.again (⟨j + 1, u, ua, uc, bl, ba, bc, L2⟩) (by show ks.length - (j + 1) < ks.length - j; omega) (Sub.cons rfl (Sub.cons rfl (Sub.cons rfl (Sub.cons rfl (Sub.cons rfl (Sub.cons rfl (Sub.cons rfl (Sub.cons rfl (Sub.cons rfl (Sub.nil _)))))))))) ((Imp.sels (by repeat (first | exact Sels.nil | apply Sels.cons | exact Sel.keep | exact Sel.here | apply Sel.there)))) (⟨by show j + 1 ≤ _; omega, by show u = _; rw [hus, if_neg (fun h9 => by have := h9.1; omega), List.append_nil, ← hu], hbl, by show L2 = _; rw [hls, if_neg (by omega)]; omega⟩)
          · obtain ⟨v, hv⟩ : ∃ v, ra.l[i]? = some v := ⟨_, List.getElem?_eq_getElem (by omega)⟩
            obtain ⟨v2, hv2⟩ : ∃ v, rb.l[i]? = some v := ⟨_, List.getElem?_eq_getElem (by omega)⟩
            refine SG.fact (fun w9 F9 S9 s => us_pt ((s.sh (p := (fun w => Cells w aa (Ra.map URow.val) ∧ ∀ r ∈ Ra, URow.ok w r)) (by repeat (first | exact Sel.keep | exact Sel.here | apply Sel.there))).2 ra (List.mem_of_getElem? hra)).cells hv) (fun hf9 => ?_)
            obtain ⟨q3, hq3⟩ := hf9
            refine SG.fact (fun w9 F9 S9 s => us_pt ((s.sh (p := (fun w => Cells w ab (Rb.map URow.val) ∧ ∀ r ∈ Rb, URow.ok w r)) (by repeat (first | exact Sel.keep | exact Sel.here | apply Sel.there))).2 rb (List.mem_of_getElem? hrb)).cells hv2) (fun hf9 => ?_)
            obtain ⟨q4, hq4⟩ := hf9
            refine SG.skip ?_
            refine SN.seq ?_
            refine SG.seq ?_
            refine SG.region ?_
            refine SL.val rfl rfl (fun w9 F9 S9 s => R.mv rfl) ?_
            refine SL.val rfl rfl (fun w9 F9 S9 s => R.add rfl rfl (by omega)) ?_
            refine SL.val rfl rfl (fun w9 F9 S9 s => R.as rfl) ?_
            refine SL.nil ?_
            refine SN.seq ?_
            refine SG.seq ?_
            refine SG.draw [] [0, 1, 2, 3, 4, 5, 6, 7, 8, 9, 10, 11, 12, 13, 14] (by decide +kernel) rfl ?_
            refine SW.pure rfl rfl rfl rfl (fun w9 => R.mv rfl) ?_
            refine SW.pure rfl rfl rfl rfl (fun w9 => R.mv rfl) ?_
            refine SW.pure rfl rfl rfl rfl (fun w9 => R.idx rfl rfl (by omega) (by omega) q hq) ?_
            refine SW.read rfl rfl rfl rfl (fun w9 F9 S9 s => R.ld (v := .slice ra.a ra.n ra.c) rfl (rows_ld (s.sh (p := (fun w => Cells w aa (Ra.map URow.val) ∧ ∀ r ∈ Ra, URow.ok w r)) (by repeat (first | exact Sel.keep | exact Sel.here | apply Sel.there))).1 hq hra)) ?_
            refine SW.pure rfl rfl rfl rfl (fun w9 => R.mv rfl) ?_
            refine SW.pure rfl rfl rfl rfl (fun w9 => R.idx rfl rfl (by omega) (by omega) q3 hq3) ?_
            refine SW.read rfl rfl rfl rfl (fun w9 F9 S9 s => R.ld (v := .int .u64 (v : Int)) rfl (us_ld ((s.sh (p := (fun w => Cells w aa (Ra.map URow.val) ∧ ∀ r ∈ Ra, URow.ok w r)) (by repeat (first | exact Sel.keep | exact Sel.here | apply Sel.there))).2 ra (List.mem_of_getElem? hra)).cells hq3 hv)) ?_
            refine SW.pure rfl rfl rfl rfl (fun w9 => R.mv rfl) ?_
            refine SW.pure rfl rfl rfl rfl (fun w9 => R.mv rfl) ?_
            refine SW.pure rfl rfl rfl rfl (fun w9 => R.idx rfl rfl (by omega) (by omega) q2 hq2) ?_
            refine SW.read rfl rfl rfl rfl (fun w9 F9 S9 s => R.ld (v := .slice rb.a rb.n rb.c) rfl (rows_ld (s.sh (p := (fun w => Cells w ab (Rb.map URow.val) ∧ ∀ r ∈ Rb, URow.ok w r)) (by repeat (first | exact Sel.keep | exact Sel.here | apply Sel.there))).1 hq2 hrb)) ?_
            refine SW.pure rfl rfl rfl rfl (fun w9 => R.mv rfl) ?_
            refine SW.pure rfl rfl rfl rfl (fun w9 => R.idx rfl rfl (by omega) (by omega) q4 hq4) ?_
            refine SW.read rfl rfl rfl rfl (fun w9 F9 S9 s => R.ld (v := .int .u64 (v2 : Int)) rfl (us_ld ((s.sh (p := (fun w => Cells w ab (Rb.map URow.val) ∧ ∀ r ∈ Rb, URow.ok w r)) (by repeat (first | exact Sel.keep | exact Sel.here | apply Sel.there))).2 rb (List.mem_of_getElem? hrb)).cells hq4 hv2)) ?_
            refine SW.pure rfl rfl rfl rfl (fun w9 => R.neI rfl rfl) ?_
            refine SW.nil ?_
            refine SN.seq ?_
            refine SG.condP rfl (fun h4 => ?_) (fun h4 => ?_)
            · have hne : ra.l[i]? ≠ rb.l[i]? := by rw [hv, hv2]; intro h9; cases h9; exact h4 rfl
              refine SG.seq ?_
              refine SG.region ?_
              refine SL.val rfl rfl (fun w9 F9 S9 s => R.mv rfl) ?_
              refine SL.val rfl rfl (fun w9 F9 S9 s => R.mv rfl) ?_
              refine SL.step rfl rfl (CS.buildA rfl rfl rfl rfl rfl (nums [i]) rfl) ?_
              rintro _ _ ⟨b67, rfl, rfl⟩
              refine SL.step rfl rfl (CS.app rfl rfl (show Sel _ (own 3 1 ua (u.length) uc (nums (u))) _ from (by repeat (first | exact Sel.keep | exact Sel.here | apply Sel.there))) (fun w9 F9 S9 s => s.blkC (show Sel _ (blk b67 (nums [i]) _) _ from (by repeat (first | exact Sel.keep | exact Sel.here | apply Sel.there)))) rfl (nums_one _) (by unfold maxLen; omega) (by omega)) ?_
              rintro _ _ ⟨a68, c68, rfl, rfl⟩
              refine SL.val rfl rfl (fun w9 F9 S9 s => R.as rfl) ?_
              refine SL.nil ?_
              refine SN.seq ?_
              refine SG.region ?_
              refine SL.val rfl rfl (fun w9 F9 S9 s => R.mv rfl) ?_
              refine SL.val rfl rfl (fun w9 F9 S9 s => R.mv rfl) ?_
              refine SL.val rfl rfl (fun w9 F9 S9 s => R.mul rfl rfl (by omega)) ?_
              refine SL.val rfl rfl (fun w9 F9 S9 s => R.mv rfl) ?_
              refine SL.val rfl rfl (fun w9 F9 S9 s => R.mul rfl rfl (by omega)) ?_
              refine SL.val rfl rfl (fun w9 F9 S9 s => R.add rfl rfl (by omega)) ?_
              refine SL.step rfl rfl (CS.buildA rfl rfl rfl rfl rfl (nums [2 * i, 2 * i + 1]) (by show [Value.int .i64 (2 * (i : Int)), Value.int .i64 (2 * (i : Int) + 1)] = _; simp [nums, num])) ?_
              rintro _ _ ⟨b75, rfl, rfl⟩
              refine SL.step rfl rfl (CS.app rfl rfl (show Sel _ (own 3 1 ba (bl.length) bc (nums (bl))) _ from (by repeat (first | exact Sel.keep | exact Sel.here | apply Sel.there))) (fun w9 F9 S9 s => s.blkC (show Sel _ (blk b75 (nums [2 * i, 2 * i + 1]) _) _ from (by repeat (first | exact Sel.keep | exact Sel.here | apply Sel.there)))) rfl (nums_one _) (by unfold maxLen; omega) (by omega)) ?_
              rintro _ _ ⟨a76, c76, rfl, rfl⟩
              refine SL.val rfl rfl (fun w9 F9 S9 s => R.as rfl) ?_
              refine SL.nil ?_
              refine SN.be 9 rfl (show Value.slice a68 (u.length + 1) c68 = .slice a68 (u ++ [i]).length c68 by rw [List.length_append]; rfl) ?_
              refine SN.be 10 rfl (show Value.slice a76 (bl.length + 2) c76 = .slice a76 (bl ++ [2 * i, 2 * i + 1]).length c76 by rw [List.length_append]; rfl) ?_
              refine SN.block ?_
              refine SN.seq ?_
              refine SG.region ?_
              refine SL.val rfl rfl (fun w9 F9 S9 s => R.add rfl rfl (by omega)) ?_
              refine SL.val rfl rfl (fun w9 F9 S9 s => R.mv rfl) ?_
              refine SL.nil ?_
              exact SN.again (⟨j + 1, u ++ [i], a68, c68, bl ++ [2 * i, 2 * i + 1], a76, c76, L2 + 1⟩) (by show ks.length - (j + 1) < ks.length - j; omega) (Sub.cons rfl (Sub.cons rfl (Sub.cons rfl (Sub.cons rfl (Sub.cons rfl (Sub.cons rfl (Sub.cons rfl (Sub.cons rfl (Sub.cons rfl (Sub.nil _)))))))))) ((show Imp _ _ by dsimp only; rw [List.length_append, List.length_append, nums_append, nums_append]; exact (Imp.sels (by repeat (first | exact Sels.nil | apply Sels.cons | exact Sel.keep | exact Sel.here | apply Sel.there))))) (⟨by show j + 1 ≤ _; omega, by show u ++ [i] = _; rw [hus, if_pos ⟨by omega, hne⟩, ← hu], by show bl ++ [2 * i, 2 * i + 1] = bel (u ++ [i]); rw [bel_app, ← hbl]; rfl, by show L2 + 1 = _; rw [hls, if_pos (by omega)]; omega⟩)
            · have hne : ¬ (ra.l[i]? ≠ rb.l[i]?) := by rw [hv, hv2, show v = v2 by omega]; exact fun h9 => h9 rfl
              refine SG.skip ?_
              refine SN.block ?_
              refine SN.seq ?_
              refine SG.region ?_
              refine SL.val rfl rfl (fun w9 F9 S9 s => R.add rfl rfl (by omega)) ?_
              refine SL.val rfl rfl (fun w9 F9 S9 s => R.mv rfl) ?_
              refine SL.nil ?_
              exact SN.again (⟨j + 1, u, ua, uc, bl, ba, bc, L2 + 1⟩) (by show ks.length - (j + 1) < ks.length - j; omega) (Sub.cons rfl (Sub.cons rfl (Sub.cons rfl (Sub.cons rfl (Sub.cons rfl (Sub.cons rfl (Sub.cons rfl (Sub.cons rfl (Sub.cons rfl (Sub.nil _)))))))))) ((Imp.sels (by repeat (first | exact Sels.nil | apply Sels.cons | exact Sel.keep | exact Sel.here | apply Sel.there)))) (⟨by show j + 1 ≤ _; omega, by show u = _; rw [hus, if_neg (fun h9 => hne h9.2), List.append_nil, ← hu], hbl, by show L2 + 1 = _; rw [hls, if_pos (by omega)]; omega⟩)
        · obtain rfl : j = ks.length := by omega
          rw [List.take_length] at hu hL2 hlkl
          have hul2 := unl_len ra.l rb.l ks
          have hlk2 := lks_len ra.l ks
          rw [← hu] at hul2
          refine SG.exit _ rfl ?_
          refine SN.seq ?_
          refine SG.seq ?_
          refine SG.seq ?_
          refine SG.region ?_
          refine SL.val rfl rfl (fun w9 F9 S9 s => R.mv rfl) ?_
          refine SL.val rfl rfl (fun w9 F9 S9 s => R.eqI rfl rfl) ?_
          refine SL.nil ?_
          refine SN.seq ?_
          refine SG.condP rfl (fun h5 => ?_) (fun h5 => ?_)
          · obtain rfl : k = 0 := by omega
            rw [difD_zero hla hlb, ← hu] at hdk
            refine SG.seq ?_
            refine SG.region ?_
            refine SL.val rfl rfl (fun w9 F9 S9 s => R.mv rfl) ?_
            refine SL.val rfl rfl (fun w9 F9 S9 s => R.mv rfl) ?_
            refine SL.val rfl rfl (fun w9 F9 S9 s => R.as rfl) ?_
            refine SL.val rfl rfl (fun w9 F9 S9 s => R.as rfl) ?_
            refine SL.nil ?_
            refine SN.seq ?_
            exact SG.ret2 rfl rfl rfl ((show Imp _ [own 3 1 ua (u.length) uc (nums (u))] from (Imp.sels (by repeat (first | exact Sels.nil | apply Sels.cons | exact Sel.keep | exact Sel.here | apply Sel.there))))) (⟨ua, uc, by rw [hdk, hL2], by rw [hdk]⟩)
          · obtain ⟨k, rfl⟩ : ∃ k9, k = k9 + 1 := ⟨k - 1, by omega⟩
            rw [difD_succ hla hlb, ← hu, ← hbl] at hdk
            have hp2 : 2 ^ (Ra.length - 1 - k) = 2 * 2 ^ (Ra.length - 1 - (k + 1)) := by rw [show Ra.length - 1 - k = Ra.length - 1 - (k + 1) + 1 by omega, Nat.pow_succ]; omega
            have hn1 : bl.length ≤ 2 ^ (Ra.length - 1 - k) := by omega
            have hn2 : ∀ i ∈ bl, i < 2 ^ (Ra.length - 1 - k) := by rw [hp2, hbl]; exact bel_lt (fun i hi => hki i (unl_sub (by rw [← hu]; exact hi)))
            have hn3 : L2 ≤ 2 ^ (Ra.length - 1 - k) := by omega
            have hn4 : difF (Ra.map URow.l) (Rb.map URow.l) = ((difD (Ra.map URow.l) (Rb.map URow.l) k bl).1, L2 + (difD (Ra.map URow.l) (Rb.map URow.l) k bl).2) := by rw [hdk, hL2, Nat.add_assoc]
            refine SG.skip ?_
            refine SN.seq ?_
            refine SG.region ?_
            refine SL.val rfl rfl (fun w9 F9 S9 s => R.mv rfl) ?_
            refine SL.val rfl rfl (fun w9 F9 S9 s => R.as rfl) ?_
            refine SL.nil ?_
            refine SN.block ?_
            refine SN.seq ?_
            refine SG.region ?_
            refine SL.val rfl rfl (fun w9 F9 S9 s => R.mv rfl) ?_
            refine SL.val rfl rfl (fun w9 F9 S9 s => R.sub' rfl rfl (by omega)) ?_
            refine SL.val rfl rfl (fun w9 F9 S9 s => R.as rfl) ?_
            refine SL.nil ?_
            refine SN.be 8 rfl (congrArg (Value.int .i64) (show ((k + 1 : Nat) : Int) - 1 = (k : Int) by omega)) ?_
            exact SN.again (⟨k, bl, ba, bc, L2⟩) (Nat.lt_succ_self k) (Sub.cons rfl (Sub.cons rfl (Sub.cons rfl (Sub.cons rfl (Sub.cons rfl (Sub.nil _)))))) ((Imp.sels (by repeat (first | exact Sels.nil | apply Sels.cons | exact Sel.keep | exact Sel.here | apply Sel.there)))) (⟨by show k < _; omega, hn1, hn2, hn3, hn4⟩)
      · exfalso; omega

end Go.Proofs.Ytiggahlnplaciaa
/-
  The walks of package digest.
-/
set_option linter.unusedVariables false
set_option linter.unusedSimpArgs false
set_option maxRecDepth 4000
namespace Go.Proofs.Ytiggahlnplaciaa
open Go Brv
/-- The document's: below a node of a row. -/
def rdD (A B : List (List Nat)) : Nat → Nat → List Nat × Nat
  | 0, i => if (A[0]?.getD []).length ≤ i then ([], 0) else if (A[0]?.getD [])[i]? = (B[0]?.getD [])[i]? then ([], 1) else ([i], 1)
  | k + 1, i => if (A[k + 1]?.getD []).length ≤ i then ([], 0) else if (A[k + 1]?.getD [])[i]? = (B[k + 1]?.getD [])[i]? then ([], 1) else ((rdD A B k (2 * i)).1 ++ (rdD A B k (2 * i + 1)).1, (rdD A B k (2 * i)).2 + (rdD A B k (2 * i + 1)).2 + 1)
theorem rdD_le (A B : List (List Nat)) : ∀ k i, (rdD A B k i).1.length ≤ 2 ^ k ∧ (rdD A B k i).2 + 1 ≤ 2 ^ (k + 1)
  | 0, i => by
    unfold rdD
    split
    · simp
    · split <;> simp
  | k + 1, i => by
    have h1 := rdD_le A B k (2 * i)
    have h2 := rdD_le A B k (2 * i + 1)
    have e1 : 2 ^ (k + 1) = 2 * 2 ^ k := by rw [Nat.pow_succ]; omega
    have e2 : 2 ^ (k + 1 + 1) = 2 * 2 ^ (k + 1) := by rw [Nat.pow_succ]; omega
    have e3 := Nat.two_pow_pos k
    unfold rdD
    split
    · simp only [List.length_nil]; omega
    · split
      · simp only [List.length_nil]; omega
      · simp only [List.length_append]; omega

theorem difD_app (A B : List (List Nat)) : ∀ (k : Nat) (x y : List Nat), difD A B k (x ++ y) = ((difD A B k x).1 ++ (difD A B k y).1, (difD A B k x).2 + (difD A B k y).2)
  | 0, x, y => by simp [difD, unl, lks]
  | k + 1, x, y => by
    have e : ∀ (ra rb : List Nat), unl ra rb (x ++ y) = unl ra rb x ++ unl ra rb y := fun ra rb => by simp [unl]
    have e2 : ∀ (ra : List Nat), lks ra (x ++ y) = lks ra x + lks ra y := fun ra => by simp [lks]
    simp only [difD, e, e2, bel_app, difD_app A B k]
    exact Prod.ext rfl (by show _ + _ + (_ + _) = _; omega)
/-- Row by row as node by node. -/
theorem difD_one (A B : List (List Nat)) : ∀ (k i : Nat), k < A.length → (∀ j, j ≤ k → (A[j]?.getD []).length = (B[j]?.getD []).length) → difD A B k [i] = rdD A B k i
  | 0, i, _, hl => by
    unfold difD rdD unl lks
    by_cases h : (A[0]?.getD []).length ≤ i
    · rw [if_pos h]
      rw [List.filter_cons, List.filter_cons]
      simp [Nat.not_lt.2 h]
    · rw [if_neg h]
      by_cases he : (A[0]?.getD [])[i]? = (B[0]?.getD [])[i]?
      · rw [if_pos he, List.filter_cons, List.filter_cons, if_neg (by rw [decide_eq_true_eq]; exact fun h9 => h9.2 he), if_pos (decide_eq_true (by omega))]; rfl
      · rw [if_neg he, List.filter_cons, List.filter_cons, if_pos (decide_eq_true ⟨by omega, he⟩), if_pos (decide_eq_true (by omega))]; rfl
  | k + 1, i, hk, hl => by
    have ih := fun j => difD_one A B k j (by omega) (fun q hq => hl q (by omega))
    have hz : difD A B k [] = ([], 0) := by
      clear ih hk hl
      induction k with
      | zero => rfl
      | succ k ih => simp only [difD, unl, List.filter_nil, bel, List.map_nil, List.flatten_nil, lks, List.length_nil, ih]
    unfold difD rdD
    by_cases h : (A[k + 1]?.getD []).length ≤ i
    · rw [if_pos h]
      have e : unl (A[k + 1]?.getD []) (B[k + 1]?.getD []) [i] = [] := by unfold unl; rw [List.filter_cons, if_neg (by rw [decide_eq_true_eq]; omega)]; rfl
      have e2 : lks (A[k + 1]?.getD []) [i] = 0 := by unfold lks; rw [List.filter_cons, if_neg (by rw [decide_eq_true_eq]; omega)]; rfl
      rw [e, e2, show bel [] = [] from rfl, hz]; rfl
    · rw [if_neg h]
      have e2 : lks (A[k + 1]?.getD []) [i] = 1 := by unfold lks; rw [List.filter_cons, if_pos (by rw [decide_eq_true_eq]; omega)]; rfl
      by_cases he : (A[k + 1]?.getD [])[i]? = (B[k + 1]?.getD [])[i]?
      · have e : unl (A[k + 1]?.getD []) (B[k + 1]?.getD []) [i] = [] := by unfold unl; rw [List.filter_cons, if_neg (by rw [decide_eq_true_eq]; exact fun h9 => h9.2 he)]; rfl
        rw [if_pos he, e, e2, show bel [] = [] from rfl, hz]; rfl
      · have e : unl (A[k + 1]?.getD []) (B[k + 1]?.getD []) [i] = [i] := by unfold unl; rw [List.filter_cons, if_pos (decide_eq_true ⟨by omega, he⟩)]; rfl
        rw [if_neg he, e, e2, show bel [i] = [2 * i] ++ [2 * i + 1] from rfl, difD_app, ih, ih]
        exact Prod.ext rfl (by show 1 + (_ + _) = _; omega)

end Go.Proofs.Ytiggahlnplaciaa
/-
  The walks of package digest.
-/
set_option linter.unusedVariables false
set_option linter.unusedSimpArgs false
set_option maxRecDepth 4000
namespace Go.Proofs.Ytiggahlnplaciaa
open Go Brv
/-- What a sum comes to by a proof; none: a sum is missing. -/
def upF : Nat → Nat → Nat → Nat → List Nat → Option (Nat × List Nat)
  | 0, _, _, s, p => some (s, p)
  | f + 1, n, b, s, p => if n ≤ 1 then some (s, p) else if n ≤ beside b then upF f ((n + 1) / 2) (b / 2) s p else match p with
    | [] => none
    | v :: p => upF f ((n + 1) / 2) (b / 2) (nodeN (if b % 2 = 1 then [v, s] else [s, v])) p
theorem upF_one {f n b s : Nat} {p : List Nat} (h : n ≤ 1) : upF f n b s p = some (s, p) := by
  cases f with
  | zero => rfl
  | succ f => cases p <;> simp [upF, h]
theorem upF_pass {f n b s : Nat} {p : List Nat} (h : ¬ n ≤ 1) (hb : n ≤ beside b) : upF (f + 1) n b s p = upF f ((n + 1) / 2) (b / 2) s p := by cases p <;> simp [upF, h, hb]
theorem upF_nil {f n b s : Nat} (h : ¬ n ≤ 1) (hb : ¬ n ≤ beside b) : upF (f + 1) n b s [] = none := by rw [upF, if_neg h, if_neg hb]
theorem upF_cons {f n b s v : Nat} {p : List Nat} (h : ¬ n ≤ 1) (hb : ¬ n ≤ beside b) : upF (f + 1) n b s (v :: p) = upF f ((n + 1) / 2) (b / 2) (nodeN (if b % 2 = 1 then [v, s] else [s, v])) p := by rw [upF, if_neg h, if_neg hb]
theorem tail_cells {w : World} {a : Option Addr} {v m : Nat} {l : List Nat} (h : Cells w a (us (v :: l))) (hm : l.length + 1 ≤ m) : Cells w (subA a 1 m 1) (us l) := by
  have := h.sub 1 m 1 l.length (by simp [us]; omega) (by intro e; omega)
  rw [show ((us (v :: l)).drop (1 * 1)).take l.length = us l by rw [us, List.map_cons]; exact List.take_of_length_le (by simp)] at this
  exact this
theorem okU_two {s v : Nat} (h : s ≤ 18446744073709551615) (k : v ≤ 18446744073709551615) : okU [s, v] := fun x hx => by
  simp only [List.mem_cons, List.not_mem_nil, or_false] at hx
  rcases hx with rfl | rfl <;> assumption
structure HoS where
  f : Nat
  n : Nat
  b : Nat
  s : Nat
  p : List Nat
  pa : Option Addr
  pc : Nat

theorem dholds_ok (a : Option Addr) (n9 c : Nat) (l : List UInt8) (root nb b0 : Nat) (pa0 : Option Addr) (pc0 : Nat) (pl : List Nat) (hn9 : n9 ≤ 140737488351232) (hnb : 1 ≤ nb) (hnb2 : nb ≤ 64) (hb0 : b0 < nb) (hok0 : okU pl) (hpl0 : pl.length ≤ 1000) (hpc0 : pl.length ≤ pc0) : SpecS Try.prog 20 [.int .u64 (root : Int), .int .i64 (nb : Int), .int .i64 (b0 : Int), .slice a n9 c, .slice pa0 pl.length pc0] [bs a n9 l, sh (fun w => Cells w pa0 (us pl))] (fun v H' => v = .bool (decide (upF 64 nb b0 (sumN l) pl = some (root, []))) ∧ H' = []) := by
  refine SpecS.enter Try.func20 rfl 66 rfl (Nat.le_of_ble_eq_true rfl) (fun o => ?_)
  refine SG.seq ?_
  refine SG.region ?_
  refine SL.val rfl rfl (fun w9 F9 S9 s => R.as rfl) ?_
  refine SL.nil ?_
  refine SN.seq ?_
  refine SG.seq ?_
  refine SG.seq ?_
  refine SG.region ?_
  refine SL.val rfl rfl (fun w9 F9 S9 s => R.mv rfl) ?_
  refine SL.val rfl rfl (fun w9 F9 S9 s => R.lss rfl rfl) ?_
  refine SL.val rfl rfl (fun w9 F9 S9 s => R.mv rfl) ?_
  refine SL.caseP 15 rfl (fun hg1_2 => ?_) (fun hg1_2 => ?_)
  · exfalso; omega
  · refine SL.val rfl rfl (fun w9 F9 S9 s => R.mv rfl) ?_
    refine SL.val rfl rfl (fun w9 F9 S9 s => R.gtr rfl rfl) ?_
    first | refine SL.val rfl rfl (fun w9 F9 S9 s => R.pickT rfl rfl) ?_ | refine SL.val rfl rfl (fun w9 F9 S9 s => R.pickF rfl rfl) ?_
    refine SL.val rfl rfl (fun w9 F9 S9 s => R.mv rfl) ?_
    refine SL.caseP 19 rfl (fun hg1_6 => ?_) (fun hg1_6 => ?_)
    · exfalso; omega
    · refine SL.val rfl rfl (fun w9 F9 S9 s => R.mv rfl) ?_
      refine SL.val rfl rfl (fun w9 F9 S9 s => R.lss rfl rfl) ?_
      first | refine SL.val rfl rfl (fun w9 F9 S9 s => R.pickT rfl rfl) ?_ | refine SL.val rfl rfl (fun w9 F9 S9 s => R.pickF rfl rfl) ?_
      refine SL.val rfl rfl (fun w9 F9 S9 s => R.mv rfl) ?_
      refine SL.caseP 23 rfl (fun hg1_10 => ?_) (fun hg1_10 => ?_)
      · exfalso; omega
      · refine SL.val rfl rfl (fun w9 F9 S9 s => R.mv rfl) ?_
        refine SL.val rfl rfl (fun w9 F9 S9 s => R.mv rfl) ?_
        refine SL.val rfl rfl (fun w9 F9 S9 s => R.geq rfl rfl) ?_
        first | refine SL.val rfl rfl (fun w9 F9 S9 s => R.pickT rfl rfl) ?_ | refine SL.val rfl rfl (fun w9 F9 S9 s => R.pickF rfl rfl) ?_
        refine SL.nil ?_
        refine SN.seq ?_
        refine SG.condP rfl (fun h0 => ?_) (fun h0 => ?_)
        · exfalso; omega
        · refine SG.skip ?_
          refine SN.seq ?_
          refine SG.seq ?_
          refine SG.region ?_
          refine SL.val rfl rfl (fun w9 F9 S9 s => R.mv rfl) ?_
          refine SL.step rfl rfl (CS.call rfl go6 (dsum_ok a n9 c l hn9) (by repeat (first | exact Sels.nil | apply Sels.cons | exact Sel.keep | exact Sel.here | apply Sel.there))) ?_
          rintro _ _ ⟨_, ⟨rfl, rfl⟩, rfl⟩
          refine SL.n0 ?_
          refine SL.be 29 rfl (congrArg (Value.int .u64) (sumN_eq l).symm) ?_
          refine SL.val rfl rfl (fun w9 F9 S9 s => R.as rfl) ?_
          refine SL.nil ?_
          refine SN.seq ?_
          refine SG.seq ?_
          refine SG.block ?_
          refine SG.loop (X := HoS) (fun y => [(0, .int .u64 (root : Int)), (1, .int .i64 (y.n : Int)), (2, .int .i64 (y.b : Int)), (4, .slice y.pa y.p.length y.pc), (11, .int .u64 (y.s : Int))]) (fun y => [sh (fun w => Cells w y.pa (us y.p))]) (fun y => 1 ≤ y.n ∧ y.n ≤ y.f + 1 ∧ y.b < y.n ∧ y.n ≤ 64 ∧ okU y.p ∧ y.s ≤ 18446744073709551615 ∧ y.p.length ≤ 1000 ∧ y.p.length ≤ y.pc ∧ upF 64 nb b0 (sumN l) pl = upF y.f y.n y.b y.s y.p) (fun y => y.f) (⟨64, nb, b0, sumN l, pl, pa0, pc0⟩) (Sub.cons rfl (Sub.cons rfl (Sub.cons rfl (Sub.cons rfl (Sub.cons rfl (Sub.nil _)))))) ((Imp.sels (by repeat (first | exact Sels.nil | apply Sels.cons | exact Sel.keep | exact Sel.here | apply Sel.there)))) (⟨hnb, by show nb ≤ 65; omega, hb0, hnb2, hok0, sumN_le l, hpl0, hpc0, rfl⟩) ?_
          rintro ⟨f, n, b, s9, p, pa, pc⟩ ⟨h1n, hnf, hbn, hn64, hokp, hs9, hpl, hpc, hR⟩
          dsimp only at h1n hnf hbn hn64 hokp hs9 hpl hpc hR
          show SG _ _ _ _ _ [(0, .int .u64 (root : Int)), (1, .int .i64 (n : Int)), (2, .int .i64 (b : Int)), (4, .slice pa p.length pc), (11, .int .u64 (s9 : Int))] [sh (fun w => Cells w pa (us p))] _
          refine SG.seq ?_
          refine SG.seq ?_
          refine SG.region ?_
          refine SL.val rfl rfl (fun w9 F9 S9 s => R.mv rfl) ?_
          refine SL.val rfl rfl (fun w9 F9 S9 s => R.gtr rfl rfl) ?_
          refine SL.nil ?_
          refine SN.seq ?_
          refine SG.condP rfl (fun h1 => ?_) (fun h1 => ?_)
          · obtain ⟨f, rfl⟩ : ∃ f9, f = f9 + 1 := ⟨f - 1, by omega⟩
            refine SG.skip ?_
            refine SN.seq ?_
            refine SG.seq ?_
            refine SG.block ?_
            refine SG.seq ?_
            refine SG.seq ?_
            refine SG.region ?_
            refine SL.val rfl rfl (fun w9 F9 S9 s => R.mv rfl) ?_
            refine SL.val rfl rfl (fun w9 F9 S9 s => R.xorW rfl rfl ((beside b : Nat) : Int) (xor_beside _ (by omega))) ?_
            refine SL.val rfl rfl (fun w9 F9 S9 s => R.mv rfl) ?_
            refine SL.val rfl rfl (fun w9 F9 S9 s => R.geq rfl rfl) ?_
            refine SL.nil ?_
            refine SN.seq ?_
            refine SG.condP rfl (fun h2 => ?_) (fun h2 => ?_)
            · refine SG.exit _ rfl ?_
              refine SN.seq ?_
              refine SG.region ?_
              refine SL.val rfl rfl (fun w9 F9 S9 s => R.mv rfl) ?_
              refine SL.val rfl rfl (fun w9 F9 S9 s => R.add rfl rfl (by omega)) ?_
              refine SL.val rfl rfl (fun w9 F9 S9 s => R.quo rfl rfl (by omega) (by decide)) ?_
              refine SL.val rfl rfl (fun w9 F9 S9 s => R.mv rfl) ?_
              refine SL.val rfl rfl (fun w9 F9 S9 s => R.quo rfl rfl (by omega) (by decide)) ?_
              refine SL.val rfl rfl (fun w9 F9 S9 s => R.as rfl) ?_
              refine SL.val rfl rfl (fun w9 F9 S9 s => R.as rfl) ?_
              refine SL.nil ?_
              refine SN.be 1 rfl (congrArg (Value.int .i64) (show ((n : Int) + 1) / 2 = (((n + 1) / 2 : Nat) : Int) by norm_cast)) ?_
              refine SN.be 2 rfl (congrArg (Value.int .i64) (show (b : Int) / 2 = ((b / 2 : Nat) : Int) by norm_cast)) ?_
              exact SN.again (⟨f, (n + 1) / 2, b / 2, s9, p, pa, pc⟩) (Nat.lt_succ_self f) (Sub.cons rfl (Sub.cons rfl (Sub.cons rfl (Sub.cons rfl (Sub.cons rfl (Sub.nil _)))))) ((Imp.sels (by repeat (first | exact Sels.nil | apply Sels.cons | exact Sel.keep | exact Sel.here | apply Sel.there)))) (⟨by show 1 ≤ (n + 1) / 2; omega, by show (n + 1) / 2 ≤ f + 1; omega, by show b / 2 < (n + 1) / 2; omega, by show (n + 1) / 2 ≤ 64; omega, hokp, hs9, hpl, hpc, by rw [hR]; exact upF_pass (by omega) (by omega)⟩)
            · refine SG.skip ?_
              refine SN.seq ?_
              refine SG.seq ?_
              refine SG.seq ?_
              refine SG.region ?_
              refine SL.val rfl rfl (fun w9 F9 S9 s => R.mv rfl) ?_
              refine SL.val rfl rfl (fun w9 F9 S9 s => R.lenS rfl) ?_
              refine SL.val rfl rfl (fun w9 F9 S9 s => R.eqI rfl rfl) ?_
              refine SL.nil ?_
              refine SN.seq ?_
              refine SG.condP rfl (fun h3 => ?_) (fun h3 => ?_)
              · obtain rfl : p = [] := List.eq_nil_of_length_eq_zero (by omega)
                have hR2 : upF 64 nb b0 (sumN l) pl = none := hR.trans (upF_nil (by omega) (by omega))
                refine SG.seq ?_
                refine SG.region ?_
                refine SL.val rfl rfl (fun w9 F9 S9 s => R.as rfl) ?_
                refine SL.nil ?_
                refine SN.seq ?_
                exact SG.ret1 rfl rfl ((Imp.sels (by repeat (first | exact Sels.nil | apply Sels.cons | exact Sel.keep | exact Sel.here | apply Sel.there)))) (⟨congrArg Value.bool (by rw [hR2]; exact (decide_eq_false (by simp)).symm), rfl⟩)
              · obtain ⟨v, p, rfl⟩ : ∃ v p9, p = v :: p9 := by
                  cases p with
                  | nil => exact (h3 rfl).elim
                  | cons v p => exact ⟨v, p, rfl⟩
                replace hokp : v ≤ 18446744073709551615 ∧ okU p := ⟨hokp v (by simp), fun x hx => hokp x (by simp [hx])⟩
                rw [List.length_cons] at hpl hpc
                refine SG.fact (fun w9 F9 S9 s => us_pt (i := 0) (s.sh (p := fun w => Cells w pa (us (v :: p))) (by repeat (first | exact Sel.keep | exact Sel.here | apply Sel.there))) (show (v :: p)[0]? = some v from rfl)) (fun hf9 => ?_)
                obtain ⟨q, hq⟩ := hf9
                refine SG.skip ?_
                refine SN.seq ?_
                refine SG.seq ?_
                refine SG.region ?_
                refine SL.val rfl rfl (fun w9 F9 S9 s => R.mv rfl) ?_
                refine SL.val rfl rfl (fun w9 F9 S9 s => R.mv rfl) ?_
                refine SL.val rfl rfl (fun w9 F9 S9 s => R.idx (i := 0) rfl rfl (by decide) (by rw [List.length_cons]; omega) q hq) ?_
                refine SL.val rfl rfl (fun w9 F9 S9 s => R.ld (v := .int .u64 (v : Int)) rfl (us_ld (i := 0) (s.sh (p := fun w => Cells w pa (us (v :: p))) (by repeat (first | exact Sel.keep | exact Sel.here | apply Sel.there))) hq (show (v :: p)[0]? = some v from rfl))) ?_
                refine SL.step rfl rfl (CS.buildA rfl rfl rfl rfl rfl [.int .u64 (s9 : Int), .int .u64 (v : Int)] rfl) ?_
                rintro _ _ ⟨b48, rfl, rfl⟩
                refine SL.val rfl rfl (fun w9 F9 S9 s => R.as rfl) ?_
                refine SL.nil ?_
                refine SN.seq ?_
                refine SG.seq ?_
                refine SG.seq ?_
                refine SG.region ?_
                refine SL.val rfl rfl (fun w9 F9 S9 s => R.mv rfl) ?_
                refine SL.val rfl rfl (fun w9 F9 S9 s => R.rem rfl rfl (Int.natCast_nonneg _) (by decide)) ?_
                refine SL.val rfl rfl (fun w9 F9 S9 s => R.eqI rfl rfl) ?_
                refine SL.nil ?_
                refine SN.seq ?_
                refine SG.condP rfl (fun h4 => ?_) (fun h4 => ?_)
                · refine SG.region ?_
                  refine SL.val rfl rfl (fun w9 F9 S9 s => R.mv rfl) ?_
                  refine SL.step rfl rfl (CS.call rfl go29 (rev2_ok b48 (s9 : Int) (v : Int)) (by repeat (first | exact Sels.nil | apply Sels.cons | exact Sel.keep | exact Sel.here | apply Sel.there))) ?_
                  rintro _ _ ⟨_, ⟨rfl, rfl⟩, rfl⟩
                  refine SL.n1 ?_
                  refine SL.nil ?_
                  refine SN.seq ?_
                  refine SG.imp (Imp.blkSh (show Sel _ (blk b48 [.int .u64 (v : Int), .int .u64 (s9 : Int)] 25) _ from (by repeat (first | exact Sel.keep | exact Sel.here | apply Sel.there))) (p := fun w => Cells w (some ⟨b48, 0, none⟩) (us [v, s9])) (fun w h => Cells.of_blk h 0 _ (fun j v hj => by simpa [us] using hj))) ?_
                  refine SG.draw [1] [0, 2, 3, 1, 4, 5] (by decide +kernel) rfl ?_
                  refine SW.pure rfl rfl rfl rfl (fun w9 => R.mv rfl) ?_
                  refine SW.pure rfl rfl rfl rfl (fun w9 => R.mv rfl) ?_
                  refine SW.pure rfl rfl rfl rfl (fun w9 => R.slL rfl rfl (by decide) (by rw [List.length_cons]; omega)) ?_
                  refine SW.step rfl rfl rfl rfl (CS.call rfl go8 (dnode_ok (some ⟨b48, 0, none⟩) 2 2 [v, s9] rfl (by decide) (okU_two hokp.1 hs9)) (by repeat (first | exact Sels.nil | apply Sels.cons | exact Sel.keep | exact Sel.here | apply Sel.there))) ?_
                  rintro _ _ ⟨_, ⟨rfl, rfl⟩, rfl⟩
                  refine ⟨trivial, ?_⟩
                  refine SW.n0 ?_
                  refine SW.be 55 rfl (congrArg (Value.int .u64) (nodeN_eq (okU_two hokp.1 hs9)).symm) ?_
                  refine SW.pure rfl rfl rfl rfl (fun w9 => R.as rfl) ?_
                  refine SW.pure rfl rfl rfl rfl (fun w9 => R.as rfl) ?_
                  refine SW.nil ?_
                  refine SN.imp (Imp.weak (p := fun w => Cells w pa (us (v :: p))) (q := fun w => Cells w (subA pa 1 pc 1) (us p)) (by repeat (first | exact Sel.keep | exact Sel.here | apply Sel.there)) (fun w h => tail_cells h hpc)) ?_
                  refine SN.block ?_
                  refine SN.seq ?_
                  refine SG.region ?_
                  refine SL.val rfl rfl (fun w9 F9 S9 s => R.mv rfl) ?_
                  refine SL.val rfl rfl (fun w9 F9 S9 s => R.add rfl rfl (by omega)) ?_
                  refine SL.val rfl rfl (fun w9 F9 S9 s => R.quo rfl rfl (by omega) (by decide)) ?_
                  refine SL.val rfl rfl (fun w9 F9 S9 s => R.mv rfl) ?_
                  refine SL.val rfl rfl (fun w9 F9 S9 s => R.quo rfl rfl (by omega) (by decide)) ?_
                  refine SL.val rfl rfl (fun w9 F9 S9 s => R.as rfl) ?_
                  refine SL.val rfl rfl (fun w9 F9 S9 s => R.as rfl) ?_
                  refine SL.nil ?_
                  refine SN.be 1 rfl (congrArg (Value.int .i64) (show ((n : Int) + 1) / 2 = (((n + 1) / 2 : Nat) : Int) by norm_cast)) ?_
                  refine SN.be 2 rfl (congrArg (Value.int .i64) (show (b : Int) / 2 = ((b / 2 : Nat) : Int) by norm_cast)) ?_
                  exact SN.again (⟨f, (n + 1) / 2, b / 2, nodeN [v, s9], p, subA pa 1 pc 1, pc - 1⟩) (Nat.lt_succ_self f) (Sub.cons rfl (Sub.cons rfl (Sub.cons rfl (Sub.cons rfl (Sub.cons rfl (Sub.nil _)))))) ((Imp.sels (by repeat (first | exact Sels.nil | apply Sels.cons | exact Sel.keep | exact Sel.here | apply Sel.there)))) (⟨by show 1 ≤ (n + 1) / 2; omega, by show (n + 1) / 2 ≤ f + 1; omega, by show b / 2 < (n + 1) / 2; omega, by show (n + 1) / 2 ≤ 64; omega, hokp.2, nodeN_le (okU_two hokp.1 hs9), by show p.length ≤ 1000; omega, by show p.length ≤ pc - 1; omega, by rw [hR, upF_cons (by omega) (by omega), if_pos (by omega)]⟩)
                · refine SG.skip ?_
                  refine SN.seq ?_
                  refine SG.imp (Imp.blkSh (show Sel _ (blk b48 [.int .u64 (s9 : Int), .int .u64 (v : Int)] 25) _ from (by repeat (first | exact Sel.keep | exact Sel.here | apply Sel.there))) (p := fun w => Cells w (some ⟨b48, 0, none⟩) (us [s9, v])) (fun w h => Cells.of_blk h 0 _ (fun j v hj => by simpa [us] using hj))) ?_
                  refine SG.draw [1] [0, 2, 3, 1, 4, 5] (by decide +kernel) rfl ?_
                  refine SW.pure rfl rfl rfl rfl (fun w9 => R.mv rfl) ?_
                  refine SW.pure rfl rfl rfl rfl (fun w9 => R.mv rfl) ?_
                  refine SW.pure rfl rfl rfl rfl (fun w9 => R.slL rfl rfl (by decide) (by rw [List.length_cons]; omega)) ?_
                  refine SW.step rfl rfl rfl rfl (CS.call rfl go8 (dnode_ok (some ⟨b48, 0, none⟩) 2 2 [s9, v] rfl (by decide) (okU_two hs9 hokp.1)) (by repeat (first | exact Sels.nil | apply Sels.cons | exact Sel.keep | exact Sel.here | apply Sel.there))) ?_
                  rintro _ _ ⟨_, ⟨rfl, rfl⟩, rfl⟩
                  refine ⟨trivial, ?_⟩
                  refine SW.n0 ?_
                  refine SW.be 55 rfl (congrArg (Value.int .u64) (nodeN_eq (okU_two hs9 hokp.1)).symm) ?_
                  refine SW.pure rfl rfl rfl rfl (fun w9 => R.as rfl) ?_
                  refine SW.pure rfl rfl rfl rfl (fun w9 => R.as rfl) ?_
                  refine SW.nil ?_
                  refine SN.imp (Imp.weak (p := fun w => Cells w pa (us (v :: p))) (q := fun w => Cells w (subA pa 1 pc 1) (us p)) (by repeat (first | exact Sel.keep | exact Sel.here | apply Sel.there)) (fun w h => tail_cells h hpc)) ?_
                  refine SN.block ?_
                  refine SN.seq ?_
                  refine SG.region ?_
                  refine SL.val rfl rfl (fun w9 F9 S9 s => R.mv rfl) ?_
                  refine SL.val rfl rfl (fun w9 F9 S9 s => R.add rfl rfl (by omega)) ?_
                  refine SL.val rfl rfl (fun w9 F9 S9 s => R.quo rfl rfl (by omega) (by decide)) ?_
                  refine SL.val rfl rfl (fun w9 F9 S9 s => R.mv rfl) ?_
                  refine SL.val rfl rfl (fun w9 F9 S9 s => R.quo rfl rfl (by omega) (by decide)) ?_
                  refine SL.val rfl rfl (fun w9 F9 S9 s => R.as rfl) ?_
                  refine SL.val rfl rfl (fun w9 F9 S9 s => R.as rfl) ?_
                  refine SL.nil ?_
                  refine SN.be 1 rfl (congrArg (Value.int .i64) (show ((n : Int) + 1) / 2 = (((n + 1) / 2 : Nat) : Int) by norm_cast)) ?_
                  refine SN.be 2 rfl (congrArg (Value.int .i64) (show (b : Int) / 2 = ((b / 2 : Nat) : Int) by norm_cast)) ?_
                  exact SN.again (⟨f, (n + 1) / 2, b / 2, nodeN [s9, v], p, subA pa 1 pc 1, pc - 1⟩) (Nat.lt_succ_self f) (Sub.cons rfl (Sub.cons rfl (Sub.cons rfl (Sub.cons rfl (Sub.cons rfl (Sub.nil _)))))) ((Imp.sels (by repeat (first | exact Sels.nil | apply Sels.cons | exact Sel.keep | exact Sel.here | apply Sel.there)))) (⟨by show 1 ≤ (n + 1) / 2; omega, by show (n + 1) / 2 ≤ f + 1; omega, by show b / 2 < (n + 1) / 2; omega, by show (n + 1) / 2 ≤ 64; omega, hokp.2, nodeN_le (okU_two hs9 hokp.1), by show p.length ≤ 1000; omega, by show p.length ≤ pc - 1; omega, by rw [hR, upF_cons (by omega) (by omega), if_neg (by omega)]⟩)
          · have hR2 : upF 64 nb b0 (sumN l) pl = some (s9, p) := hR.trans (upF_one (by omega))
            refine SG.exit _ rfl ?_
            refine SN.seq ?_
            refine SG.seq ?_
            refine SG.region ?_
            refine SL.val rfl rfl (fun w9 F9 S9 s => R.mv rfl) ?_
            refine SL.val rfl rfl (fun w9 F9 S9 s => R.lenS rfl) ?_
            refine SL.val rfl rfl (fun w9 F9 S9 s => R.eqI rfl rfl) ?_
            refine SL.val rfl rfl (fun w9 F9 S9 s => R.mv rfl) ?_
            refine SL.caseP 61 rfl (fun hg13_3 => ?_) (fun hg13_3 => ?_)
            · refine SL.val rfl rfl (fun w9 F9 S9 s => R.mv rfl) ?_
              refine SL.val rfl rfl (fun w9 F9 S9 s => R.mv rfl) ?_
              refine SL.val rfl rfl (fun w9 F9 S9 s => R.eqI rfl rfl) ?_
              first | refine SL.val rfl rfl (fun w9 F9 S9 s => R.pickT rfl rfl) ?_ | refine SL.val rfl rfl (fun w9 F9 S9 s => R.pickF rfl rfl) ?_
              refine SL.val rfl rfl (fun w9 F9 S9 s => R.as rfl) ?_
              refine SL.nil ?_
              refine SN.seq ?_
              exact SG.ret1 rfl rfl ((Imp.sels (by repeat (first | exact Sels.nil | apply Sels.cons | exact Sel.keep | exact Sel.here | apply Sel.there)))) (⟨congrArg Value.bool (by rw [hR2, decide_eq_decide, show p = [] from List.eq_nil_of_length_eq_zero (by omega)]; simp only [Option.some.injEq, Prod.mk.injEq, and_true]; omega), rfl⟩)
            · refine SL.pass rfl rfl ?_
              refine SL.pass rfl rfl ?_
              refine SL.pass rfl rfl ?_
              first | refine SL.val rfl rfl (fun w9 F9 S9 s => R.pickT rfl rfl) ?_ | refine SL.val rfl rfl (fun w9 F9 S9 s => R.pickF rfl rfl) ?_
              refine SL.val rfl rfl (fun w9 F9 S9 s => R.as rfl) ?_
              refine SL.nil ?_
              refine SN.seq ?_
              exact SG.ret1 rfl rfl ((Imp.sels (by repeat (first | exact Sels.nil | apply Sels.cons | exact Sel.keep | exact Sel.here | apply Sel.there)))) (⟨congrArg Value.bool (by rw [hR2]; refine (decide_eq_false ?_).symm; simp only [Option.some.injEq, Prod.mk.injEq, not_and]; intro _ h9; subst h9; exact hg13_3 rfl), rfl⟩)

theorem dproof_out (ta : Option Addr) (tc : Nat) (Rr : List URow) (r0 : URow) (z : Int) (hr0 : Rr[0]? = some r0) (hz : z < 0 ∨ (r0.l.length : Int) ≤ z) (hlen : Rr.length ≤ 1000) : SpecS Try.prog 21 [.slice ta Rr.length tc, .int .i64 z] [sh (fun w => Cells w ta (Rr.map URow.val) ∧ ∀ r ∈ Rr, URow.ok w r)] (fun v H' => v = .slice none 0 0 ∧ H' = []) := by
  refine SpecS.enter Try.func21 rfl 51 rfl (Nat.le_of_ble_eq_true rfl) (fun o => ?_)
  refine SG.fact (fun w9 F9 S9 s => rows_pt (s.sh (p := (fun w => Cells w ta (Rr.map URow.val) ∧ ∀ r ∈ Rr, URow.ok w r)) (by repeat (first | exact Sel.keep | exact Sel.here | apply Sel.there))).1 hr0) (fun hf9 => ?_)
  obtain ⟨q0, hq0⟩ := hf9
  refine SG.fact (fun w9 F9 S9 s => ((s.sh (p := (fun w => Cells w ta (Rr.map URow.val) ∧ ∀ r ∈ Rr, URow.ok w r)) (by repeat (first | exact Sel.keep | exact Sel.here | apply Sel.there))).2 r0 (List.mem_of_getElem? hr0)).len) (fun hf9 => ?_)
  have hn0 := hf9; clear hf9
  have hRl : 0 < Rr.length := (List.getElem?_eq_some_iff.1 hr0).1
  refine SG.seq ?_
  refine SG.region ?_
  refine SL.val rfl rfl (fun w9 F9 S9 s => R.as rfl) ?_
  refine SL.nil ?_
  refine SN.seq ?_
  refine SG.seq ?_
  refine SG.seq ?_
  refine SG.region ?_
  refine SL.val rfl rfl (fun w9 F9 S9 s => R.mv rfl) ?_
  refine SL.val rfl rfl (fun w9 F9 S9 s => R.lenS rfl) ?_
  refine SL.val rfl rfl (fun w9 F9 S9 s => R.eqI rfl rfl) ?_
  refine SL.val rfl rfl (fun w9 F9 S9 s => R.mv rfl) ?_
  refine SL.caseP 12 rfl (fun hg1_3 => ?_) (fun hg1_3 => ?_)
  · exfalso; omega
  · refine SL.val rfl rfl (fun w9 F9 S9 s => R.mv rfl) ?_
    refine SL.val rfl rfl (fun w9 F9 S9 s => R.lss rfl rfl) ?_
    first | refine SL.val rfl rfl (fun w9 F9 S9 s => R.pickT rfl rfl) ?_ | refine SL.val rfl rfl (fun w9 F9 S9 s => R.pickF rfl rfl) ?_
    refine SL.val rfl rfl (fun w9 F9 S9 s => R.mv rfl) ?_
    refine SL.caseP 16 rfl (fun hg1_7 => ?_) (fun hg1_7 => ?_)
    · refine SL.pass rfl rfl ?_
      refine SL.pass rfl rfl ?_
      refine SL.pass rfl rfl ?_
      refine SL.pass rfl rfl ?_
      refine SL.pass rfl rfl ?_
      refine SL.pass rfl rfl ?_
      first | refine SL.val rfl rfl (fun w9 F9 S9 s => R.pickT rfl rfl) ?_ | refine SL.val rfl rfl (fun w9 F9 S9 s => R.pickF rfl rfl) ?_
      refine SL.nil ?_
      refine SN.seq ?_
      refine SG.condT rfl ?_
      refine SG.seq ?_
      refine SG.region ?_
      refine SL.val rfl rfl (fun w9 F9 S9 s => R.as rfl) ?_
      refine SL.nil ?_
      refine SN.seq ?_
      exact SG.ret1 rfl rfl ((Imp.sels (by repeat (first | exact Sels.nil | apply Sels.cons | exact Sel.keep | exact Sel.here | apply Sel.there)))) (⟨rfl, rfl⟩)
    · refine SL.val rfl rfl (fun w9 F9 S9 s => R.mv rfl) ?_
      refine SL.val rfl rfl (fun w9 F9 S9 s => R.mv rfl) ?_
      refine SL.val rfl rfl (fun w9 F9 S9 s => R.idx (i := 0) rfl rfl (by omega) (by omega) q0 hq0) ?_
      refine SL.val rfl rfl (fun w9 F9 S9 s => R.ld (v := .slice r0.a r0.n r0.c) rfl (rows_ld (i := 0) (s.sh (p := (fun w => Cells w ta (Rr.map URow.val) ∧ ∀ r ∈ Rr, URow.ok w r)) (by repeat (first | exact Sel.keep | exact Sel.here | apply Sel.there))).1 hq0 hr0)) ?_
      refine SL.val rfl rfl (fun w9 F9 S9 s => R.lenS rfl) ?_
      refine SL.val rfl rfl (fun w9 F9 S9 s => R.geq rfl rfl) ?_
      first | refine SL.val rfl rfl (fun w9 F9 S9 s => R.pickT rfl rfl) ?_ | refine SL.val rfl rfl (fun w9 F9 S9 s => R.pickF rfl rfl) ?_
      refine SL.nil ?_
      refine SN.seq ?_
      refine SG.condP rfl (fun h0 => ?_) (fun h0 => ?_)
      · refine SG.seq ?_
        refine SG.region ?_
        refine SL.val rfl rfl (fun w9 F9 S9 s => R.as rfl) ?_
        refine SL.nil ?_
        refine SN.seq ?_
        exact SG.ret1 rfl rfl ((Imp.sels (by repeat (first | exact Sels.nil | apply Sels.cons | exact Sel.keep | exact Sel.here | apply Sel.there)))) (⟨rfl, rfl⟩)
      · exfalso; omega

end Go.Proofs.Ytiggahlnplaciaa
/-
  The walks of package digest.
-/
set_option linter.unusedVariables false
set_option linter.unusedSimpArgs false
set_option maxRecDepth 4000
namespace Go.Proofs.Ytiggahlnplaciaa
open Go Brv
theorem nextR_at : ∀ (r : List Nat) (j : Nat), (nextR r)[j]? = if 2 * j + 1 < r.length then some (nodeN [r[2 * j]?.getD 0, r[2 * j + 1]?.getD 0]) else r[2 * j]?
  | [], j => by simp [nextR]
  | [a], 0 => rfl
  | [a], j + 1 => by
    rw [if_neg (by simp)]
    simp only [nextR]
    rw [List.getElem?_eq_none (by simp), List.getElem?_eq_none (by simp; omega)]
  | a :: b :: r, 0 => by
    rw [if_pos (by simp)]
    simp [nextR]
  | a :: b :: r, j + 1 => by
    have := nextR_at r j
    simp only [nextR, List.getElem?_cons_succ, this, List.length_cons]
    rw [show 2 * (j + 1) + 1 = 2 * j + 1 + 1 + 1 by omega, show 2 * (j + 1) = 2 * j + 1 + 1 by omega]
    simp only [List.getElem?_cons_succ]
    by_cases h : 2 * j + 1 < r.length
    · rw [if_pos h, if_pos (by omega)]
    · rw [if_neg h, if_neg (by omega)]
/-- A row goes up to the top by its proof. -/
theorem upF_tree : ∀ (f : Nat) (r : List Nat) (b s : Nat), r.length ≤ f + 1 → r[b]? = some s → ∃ v, (treeF r).getLast? = some [v] ∧ upF f r.length b s (proofF (treeF r).dropLast b) = some (v, [])
  | f, r, b, s, hf, hs => by
    have hb := (List.getElem?_eq_some_iff.1 hs).1
    by_cases h1 : r.length ≤ 1
    · obtain ⟨x, rfl⟩ : ∃ x, r = [x] := List.length_eq_one_iff.1 (by omega)
      rw [treeF_one (by simp)]
      obtain rfl : b = 0 := by simp at hb; omega
      simp at hs
      subst hs
      exact ⟨x, rfl, by rw [upF_one (by simp)]; rfl⟩
    · cases f with
      | zero => omega
      | succ f =>
        have hl := nextR_len r
        obtain ⟨t, ht⟩ := treeF_cons (nextR r)
        have hd : (r :: treeF (nextR r)).dropLast = r :: (treeF (nextR r)).dropLast := by rw [ht]; rfl
        have hg : (r :: treeF (nextR r)).getLast? = (treeF (nextR r)).getLast? := by rw [ht]; rfl
        rw [treeF_more h1, hd, hg]
        simp only [proofF]
        have hat := nextR_at r (b / 2)
        by_cases hbe : r.length ≤ beside b
        · have heven : b % 2 = 0 ∧ b + 1 = r.length := by unfold beside at hbe; split at hbe <;> omega
          rw [if_neg (by omega), show 2 * (b / 2) = b by omega, hs] at hat
          obtain ⟨v, hv, hu⟩ := upF_tree f (nextR r) (b / 2) s (by omega) hat
          refine ⟨v, hv, ?_⟩
          rw [List.getElem?_eq_none hbe, upF_pass h1 hbe, ← hl]
          exact hu
        · obtain ⟨q, hq⟩ : ∃ q, r[beside b]? = some q := ⟨_, List.getElem?_eq_getElem (by omega)⟩
          rw [if_pos (by unfold beside at hbe; split at hbe <;> omega)] at hat
          have e : (nextR r)[b / 2]? = some (nodeN (if b % 2 = 1 then [q, s] else [s, q])) := by
            rw [hat]
            by_cases hodd : b % 2 = 1
            · rw [if_pos hodd]
              have h2 : beside b = 2 * (b / 2) := by unfold beside; rw [if_neg (by omega)]; omega
              have h3 : b = 2 * (b / 2) + 1 := by omega
              rw [← h3, ← h2, hq, hs]; rfl
            · rw [if_neg hodd]
              have h2 : beside b = 2 * (b / 2) + 1 := by unfold beside; rw [if_pos (by omega)]; omega
              have h3 : b = 2 * (b / 2) := by omega
              rw [← h2, ← h3, hq, hs]; rfl
          obtain ⟨v, hv, hu⟩ := upF_tree f (nextR r) (b / 2) _ (by omega) e
          refine ⟨v, hv, ?_⟩
          rw [hq]
          show upF (f + 1) r.length b s (q :: proofF (treeF (nextR r)).dropLast (b / 2)) = _
          rw [upF_cons h1 hbe, ← hl]
          exact hu
theorem treeF_log : ∀ (k : Nat) (r : List Nat), r.length ≤ 2 ^ k → (treeF r).length ≤ k + 1
  | 0, r, h => by rw [treeF_one (by simpa using h)]; simp
  | k + 1, r, h => by
    by_cases h1 : r.length ≤ 1
    · rw [treeF_one h1]; simp
    · rw [treeF_more h1, List.length_cons]
      have := treeF_log k (nextR r) (by rw [nextR_len]; rw [Nat.pow_succ] at h; omega)
      omega
theorem treeD_seven {x : List UInt8} (h : x.length / 64 ≤ 64) : (treeD x).length ≤ 7 := by
  unfold treeD
  split
  · simp
  · exact treeF_log 6 _ (by rw [sumsT_len]; exact h)
theorem treeF_like : ∀ (n : Nat) (r q : List Nat), r.length ≤ n → r.length = q.length → 0 < r.length → likeT (treeF r) (treeF q) = true
  | 0, r, q, h, he, h0 => by omega
  | n + 1, r, q, h, he, h0 => by
    by_cases h1 : r.length ≤ 1
    · rw [treeF_one h1, treeF_one (by omega)]
      simp only [likeT, Bool.and_true, decide_eq_true_eq]
      exact ⟨he, h0⟩
    · rw [treeF_more h1, treeF_more (show ¬ q.length ≤ 1 by omega)]
      simp only [likeT, Bool.and_eq_true, decide_eq_true_eq]
      exact ⟨⟨he, h0⟩, treeF_like n _ _ (by rw [nextR_len]; omega) (by rw [nextR_len, nextR_len, he]) (by rw [nextR_len]; omega)⟩
theorem treeD_pos {x : List UInt8} (h : 1 ≤ x.length / 64) : treeD x = treeF (sumsT x (x.length / 64)) := if_neg (by omega)
theorem treeD_zero {x : List UInt8} (h : 1 ≤ x.length / 64) : (treeD x)[0]? = some (sumsT x (x.length / 64)) := by
  rw [treeD_pos h]
  obtain ⟨t, ht⟩ := treeF_cons (sumsT x (x.length / 64))
  rw [ht]; rfl
theorem treeD_like {x y : List UInt8} (hx : 1 ≤ x.length / 64) (he : x.length / 64 = y.length / 64) : likeT (treeD x) (treeD y) = true := by
  rw [treeD_pos hx, treeD_pos (by omega)]
  exact treeF_like _ _ _ (Nat.le_refl _) (by rw [sumsT_len, sumsT_len, he]) (by rw [sumsT_len]; omega)
theorem likeT_lens : ∀ {A B : List (List Nat)}, likeT A B = true → ∀ j : Nat, (A[j]?.getD []).length = (B[j]?.getD []).length
  | [], [], _, j => rfl
  | a :: A, b :: B, h, 0 => by
    simp only [likeT, Bool.and_eq_true, decide_eq_true_eq] at h
    simpa using h.1.1
  | a :: A, b :: B, h, j + 1 => by
    simp only [likeT, Bool.and_eq_true] at h
    simpa using likeT_lens h.2 j
  | [], b :: B, h, j => by simp [likeT] at h
  | a :: A, [], h, j => by simp [likeT] at h
/-- Row by row, or node by node from the top. -/
theorem difF_rd {x y : List UInt8} (hx : 1 ≤ x.length / 64) (he : x.length / 64 = y.length / 64) : difF (treeD x) (treeD y) = rdD (treeD x) (treeD y) ((treeD x).length - 1) 0 := by
  obtain ⟨v, hv, _⟩ := treeD_top hx
  have hl := treeD_like hx he
  rw [dif_yes hl hv]
  refine difD_one _ _ _ _ ?_ (fun j _ => likeT_lens hl j)
  cases hq : treeD x with
  | nil => rw [hq] at hv; cases hv
  | cons a l => simp
theorem difD_mem (A B : List (List Nat)) : ∀ (k : Nat) (ks : List Nat) (i : Nat), i ∈ (difD A B k ks).1 → i < (A[0]?.getD []).length ∧ (A[0]?.getD [])[i]? ≠ (B[0]?.getD [])[i]?
  | 0, ks, i, h => by
    simp only [difD, unl, List.mem_filter, decide_eq_true_eq] at h
    exact h.2
  | k + 1, ks, i, h => difD_mem A B k _ i (by simpa only [difD] using h)
theorem difF_mem {A B : List (List Nat)} {i : Nat} (h : i ∈ (difF A B).1) : i < (A[0]?.getD []).length ∧ (A[0]?.getD [])[i]? ≠ (B[0]?.getD [])[i]? := by
  unfold difF at h
  split at h
  · exact difD_mem _ _ _ _ _ h
  · cases h
theorem sumsT_at {x : List UInt8} {n i : Nat} (h : i < n) : (sumsT x n)[i]? = some (sumN (Image.blk x i)) := by
  unfold sumsT
  rw [List.getElem?_map, List.getElem?_range h]; rfl
theorem dif_unlike {x y : List UInt8} (hx : 1 ≤ x.length / 64) (he : x.length / 64 = y.length / 64) {i : Nat} (h : i ∈ (difF (treeD x) (treeD y)).1) : i < x.length / 64 ∧ Image.blk x i ≠ Image.blk y i := by
  obtain ⟨h1, h2⟩ := difF_mem h
  rw [treeD_zero hx] at h1 h2
  rw [treeD_zero (show 1 ≤ y.length / 64 by omega)] at h2
  simp only [Option.getD_some, sumsT_len] at h1
  refine ⟨h1, fun e => h2 ?_⟩
  simp only [Option.getD_some]
  rw [sumsT_at h1, sumsT_at (by omega), e]
theorem proof_up {x : List UInt8} (hx : 1 ≤ x.length / 64) (h64 : x.length / 64 ≤ 64) {k : Nat} (hk : k < x.length / 64) : upF 64 (x.length / 64) k (sumN (Image.blk x k)) (proofF (treeD x).dropLast k) = some (rootD x, []) := by
  obtain ⟨v, hv, hu⟩ := upF_tree 64 (sumsT x (x.length / 64)) k _ (by rw [sumsT_len]; omega) (sumsT_at hk)
  obtain ⟨v2, hv2, hr⟩ := treeD_top hx
  rw [treeD_pos hx] at hv2 ⊢
  rw [hv] at hv2
  cases hv2
  rw [hr, sumsT_len] at *
  exact hu
theorem proofF_len (rs : List (List Nat)) : ∀ b, (proofF rs b).length ≤ rs.length := by
  induction rs with
  | nil => intro b; exact Nat.le_refl _
  | cons r rs ih =>
    intro b
    simp only [proofF, List.length_append, List.length_cons]
    have := ih (b / 2)
    split <;> simp only [List.length_cons, List.length_nil] <;> omega
theorem proofF_ok {rs : List (List Nat)} (h : ∀ r ∈ rs, okU r) : ∀ b, okU (proofF rs b) := by
  induction rs with
  | nil => intro b v hv; cases hv
  | cons r rs ih =>
    intro b v hv
    simp only [proofF, List.mem_append] at hv
    rcases hv with hv | hv
    · split at hv
      · rename_i q hq
        rw [List.mem_singleton.1 hv]
        exact h r (by simp) _ (List.mem_of_getElem? hq)
      · cases hv
    · exact ih (fun q hq => h q (by simp [hq])) (b / 2) v hv
theorem treeF_ok : ∀ (n : Nat) (r : List Nat), r.length ≤ n → okU r → ∀ q ∈ treeF r, okU q
  | 0, r, h, ho, q, hq => by rw [treeF_one (by omega)] at hq; rw [List.mem_singleton.1 hq]; exact ho
  | n + 1, r, h, ho, q, hq => by
    by_cases h1 : r.length ≤ 1
    · rw [treeF_one h1] at hq; rw [List.mem_singleton.1 hq]; exact ho
    · rw [treeF_more h1] at hq
      rcases List.mem_cons.1 hq with rfl | hq
      · exact ho
      · exact treeF_ok n _ (by rw [nextR_len]; omega) (nextR_ok ho) q hq
theorem treeD_ok (x : List UInt8) : ∀ q ∈ treeD x, okU q := by
  unfold treeD
  split
  · intro q hq; cases hq
  · exact treeF_ok _ _ (Nat.le_refl _) (sumsT_ok _ _)

end Go.Proofs.Ytiggahlnplaciaa
/-
  The walks of package image.
-/
set_option linter.unusedVariables false
set_option linter.unusedSimpArgs false
namespace Go.Proofs.Ytiggahlnplaciaa
open Go Brv Brv.Image
theorem Blks.put {w w' : World} {qs : List Nat} {y s : List UInt8} {gl j z : Nat} {cur : Array Value} (h : Blks w qs y) (he : Ext [gl] w w') (hl : Blk w gl cur 59 (0, 0)) (hz : Blk w z (vbs s).toArray 58 (0, 0)) (hs : s.length = 64) (hj : j < dn y) : Blks w' (qs.set j z) (laid y j s) := by
  refine ⟨by rw [List.length_set, laid_dn hs hj]; exact h.len, fun k hk => ?_⟩
  rw [List.length_set] at hk
  rw [laid_blk hs hj, List.getElem_set]
  by_cases e : j = k
  · subst e
    rw [if_pos rfl, if_pos rfl]
    exact hz.ext he (fun hm => hz.ne hl (by decide) (List.mem_singleton.1 hm))
  · rw [if_neg e, if_neg (fun e' => e e'.symm)]
    exact (h.each k hk).ext he (fun hm => (h.each k hk).ne hl (by decide) (List.mem_singleton.1 hm))

end Go.Proofs.Ytiggahlnplaciaa
/-
  The walks of package image.
-/
set_option linter.unusedVariables false
set_option linter.unusedSimpArgs false
namespace Go.Proofs.Ytiggahlnplaciaa
open Go Brv Brv.Image
theorem ifrom_ok (a : Option Addr) (n c : Nat) (l : List UInt8) (w : World) (hb : Bs w a n l) (hc : n ≤ c) (hv : l.length = 64 * dn l ∧ 1 ≤ dn l ∧ dn l ≤ 64) : Meets Try.prog 10 [.slice a n c] w (fun v w' => ∃ d, v = .tuple #[ptr d, .int .i64 0] ∧ Ext [] w w' ∧ DiskAt w' d l) := by
  refine Meets.enter Try.func10 rfl 47 rfl (Nat.le_of_ble_eq_true rfl) ?_
  have E := Ext.refl [] w
  have hl := hb.len
  have hdl : dn l = l.length / 64 := rfl
  obtain ⟨hv1, hv2, hv3⟩ := hv
  refine G.seq ?_
  refine G.region ?_
  refine L.val rfl rfl (R.as rfl) ?_
  refine L.val rfl rfl (R.as rfl) ?_
  refine L.nil ?_
  refine N.seq ?_
  refine G.seq ?_
  refine G.seq ?_
  refine G.region ?_
  refine L.val rfl rfl (R.mv rfl) ?_
  refine L.val rfl rfl (R.lenS rfl) ?_
  refine L.val rfl rfl (R.rem rfl rfl (by omega) (by omega)) ?_
  refine L.val rfl rfl (R.neI rfl rfl) ?_
  refine L.nil ?_
  refine N.seq ?_
  refine G.condP rfl (fun h0 => ?_) (fun h0 => ?_)
  · exfalso; omega
  · refine G.skip ?_
    refine N.seq ?_
    refine G.seq ?_
    refine G.region ?_
    refine L.val rfl rfl (R.mv rfl) ?_
    refine L.val rfl rfl (R.lenS rfl) ?_
    refine L.val rfl rfl (R.quo rfl rfl (by omega) (by omega)) ?_
    refine L.be 15 rfl (show _ = Value.int .i64 (dn l : Int) by congr 1; omega) ?_
    refine L.callF rfl rfl rfl go22 (inew_ok (dn l) _ hv2 hv3) ?_
    rintro _ w1 ⟨d, rfl, e1, O1⟩
    replace E := E.trans0 e1
    obtain ⟨x0, hx0⟩ : ∃ x0 : List UInt8, x0 = List.replicate (64 * dn l) 0 := ⟨_, rfl⟩
    have hx0d : dn x0 = dn l := by rw [hx0, dn_zero]
    rw [← hx0] at O1
    obtain ⟨a6, c6, ps, M6, B6, hd6, hl6, _, _, o6, hM6, hB⟩ := O1
    rw [hx0d] at B6 o6
    refine L.val rfl rfl (R.mv rfl) ?_
    refine L.val rfl rfl (R.ext rfl rfl) ?_
    refine L.val rfl rfl (R.ext rfl rfl) ?_
    refine L.val rfl rfl (R.as rfl) ?_
    refine L.val rfl rfl (R.as rfl) ?_
    refine L.nil ?_
    refine N.seq ?_
    refine G.seq ?_
    refine G.seq ?_
    refine G.region ?_
    refine L.val rfl rfl (R.mv rfl) ?_
    refine L.val rfl rfl (R.neI rfl rfl) ?_
    refine L.nil ?_
    refine N.seq ?_
    refine G.condF rfl ?_
    refine G.skip ?_
    refine N.seq ?_
    refine G.seq ?_
    refine G.seq ?_
    refine G.region ?_
    refine L.val rfl rfl (R.mv rfl) ?_
    refine L.val rfl rfl (R.nilChk rfl) ?_
    refine L.val rfl rfl (R.fld rfl) ?_
    refine L.val rfl rfl (R.ldB rfl B6 rfl) ?_
    refine L.val rfl rfl (R.lenS rfl) ?_
    refine L.val rfl rfl (R.mv rfl) ?_
    refine L.nil ?_
    refine N.seq ?_
    refine G.block ?_
    refine G.loop (X := Nat × List UInt8 × List Nat) (fun s => [(0, .slice a n c), (4, .pointer (some ⟨d, 0, none⟩)), (26, .int .i64 (dn l : Int)), (27, .int .i64 (s.1 : Int))]) (fun s w' => s.1 ≤ dn l ∧ s.2.1.length = l.length ∧ (∀ j, blk s.2.1 j = if j < s.1 then blk l j else blk x0 j) ∧ Ext [] w w' ∧ Blk w' d #[.slice a6 (dn l) c6] 56 (0, 0) ∧ Own w' 59 1 a6 (dn l) c6 (s.2.2.map ptr) M6 ∧ Blks w' s.2.2 s.2.1) (fun s => dn l - s.1) ((0, x0, ps)) (Sub.cons rfl (Sub.cons rfl (Sub.cons rfl (Sub.cons rfl (Sub.nil _))))) ⟨Nat.zero_le _, by show x0.length = _; omega, fun j => (if_neg (Nat.not_lt_zero _)).symm, E, B6, o6, hB⟩ ?_
    rintro ⟨i, y, qs⟩ w2 ⟨hi, hyl, hyb, E, B6, o6, hB⟩
    dsimp only at hi hyl hyb o6 hB
    refine G.sub [(0, .slice a n c), (4, .pointer (some ⟨d, 0, none⟩)), (26, .int .i64 (dn l : Int)), (27, .int .i64 (i : Int))] (Sub.cons rfl (Sub.cons rfl (Sub.cons rfl (Sub.cons rfl (Sub.nil _))))) ?_
    have hdy : dn y = dn l := by unfold dn; rw [hyl]
    refine G.seq ?_
    refine G.region ?_
    refine L.val rfl rfl (R.lss rfl rfl) ?_
    refine L.nil ?_
    refine N.seq ?_
    refine G.seq ?_
    refine G.condP rfl (fun h2 => ?_) (fun h2 => ?_)
    · have hil : i < dn l := by omega
      have h64 := blk_length hil
      have hbs := (hb.ext0 E).sub (64 * i) c 64 (by omega) (by omega)
      rw [show (l.drop (64 * i)).take 64 = blk l i from rfl] at hbs
      obtain ⟨q, hq⟩ : ∃ q, subA a (64 * i) c 1 = some q := by
        cases hq : subA a (64 * i) c 1 with
        | none => rw [hq] at hbs; have := hbs.none.2; cases this
        | some q => exact ⟨q, rfl⟩
      rw [hq] at hbs
      have hyb2 : ∀ j, blk (laid y i (blk l i)) j = if j < i + 1 then blk l j else blk x0 j := by
        intro j
        rw [laid_blk h64 (by omega), hyb j]
        by_cases e : j = i
        · subst e; rw [if_pos rfl, if_pos (by omega)]
        · rw [if_neg e]
          by_cases e2 : j < i
          · rw [if_pos e2, if_pos (by omega)]
          · rw [if_neg e2, if_neg (by omega)]
      refine G.skip ?_
      refine N.seq ?_
      refine G.seq ?_
      refine G.block ?_
      refine G.seq ?_
      refine G.region ?_
      refine L.val rfl rfl (R.mv rfl) ?_
      refine L.val rfl rfl (R.as rfl) ?_
      refine L.nil ?_
      refine N.seq ?_
      refine G.seq ?_
      refine G.region ?_
      refine L.val rfl rfl (R.mv rfl) ?_
      refine L.val rfl rfl (R.mv rfl) ?_
      refine L.val rfl rfl (R.mul rfl rfl (by omega)) ?_
      refine L.val rfl rfl (R.mv rfl) ?_
      refine L.val rfl rfl (R.add rfl rfl (by omega)) ?_
      refine L.val rfl rfl (R.mul rfl rfl (by omega)) ?_
      refine L.val rfl rfl (R.slLH rfl rfl rfl (by omega) (by omega) (by omega)) ?_
      refine L.be 36 rfl (show _ = Value.slice (some q) 64 (c - 64 * i) by rw [show ((i : Int) * 64).toNat = 64 * i by omega, show (((i : Int) + 1) * 64).toNat - 64 * i = 64 by omega, hq]) ?_
      refine L.val rfl rfl (R.s2ap rfl (by decide)) ?_
      refine L.val rfl rfl (R.ldN rfl hbs.cells (by rw [vbs_length, h64])) ?_
      refine L.do rfl rfl (R.alloc) ?_
      rintro _ w6 ⟨b7, rfl, hb7, hs7, e6, B7⟩
      have hE6 := E.size
      refine L.set rfl (R.stN rfl rfl B7 (by simp [vbs_length, h64]) (by simp [vbs_length, h64, Value.cells]) (by simpa using vbs_one _)) ?_
      rintro w7 ⟨e7, hs7, B7⟩
      rw [all_stored (by simp [vbs_length, h64, Value.cells])] at B7
      have n7 := e6.news2 e7 (by omega)
      replace E := E.trans0 n7
      replace B6 := B6.ext0 n7
      replace o6 := o6.ext0 n7
      replace hB := hB.ext0 n7
      obtain ⟨gl, curl, rfl, rfl, L6, hkl, hO6⟩ := o6.set i (by omega)
      have hgl := hM6 gl (by simp)
      have hE7 := E.size
      refine L.nil ?_
      refine N.seq ?_
      refine G.region ?_
      refine L.val rfl rfl (R.mv rfl) ?_
      refine L.val rfl rfl (R.nilChk rfl) ?_
      refine L.val rfl rfl (R.fld rfl) ?_
      refine L.val rfl rfl (R.ldB rfl B6 rfl) ?_
      refine L.val rfl rfl (R.mv rfl) ?_
      refine L.val rfl rfl (R.idx rfl rfl (by omega) (by omega) _ rfl) ?_
      refine L.be 44 rfl (show _ = Value.pointer (some ⟨gl, i, none⟩) by rw [Go.Addr.add_lit]; simp) ?_
      refine L.set rfl (R.st rfl rfl L6 hkl rfl) ?_
      rintro w8 ⟨e12, hs12, L12⟩
      replace o6 := hO6 (ptr b7) _ e12 L12
      replace E := E.news2 e12 (by omega)
      replace B6 := B6.ext e12 (fun hm => B6.ne L6 (by decide) (List.mem_singleton.1 hm))
      replace hB := hB.put e12 L6 B7 h64 (show i < dn y by omega)
      refine L.nil ?_
      refine N.block ?_
      refine N.seq ?_
      refine G.region ?_
      refine L.val rfl rfl (R.add rfl rfl (by omega)) ?_
      refine L.val rfl rfl (R.mv rfl) ?_
      refine L.nil ?_
      exact N.again (i + 1, laid y i (blk l i), qs.set i b7) (by show dn l - (i + 1) < dn l - i; omega) (Sub.cons rfl (Sub.cons rfl (Sub.cons rfl (Sub.cons rfl (Sub.nil _))))) ⟨by show i + 1 ≤ dn l; omega, (laid_length h64 (by omega)).trans hyl, hyb2, E, B6, by rw [List.map_set]; exact o6, hB⟩
    · obtain rfl : i = dn l := by omega
      have hyl2 : y = l := eq_of_blk hyl (by rw [hyl, hdy]; exact hv1) (fun k hk => by rw [hyb k, if_pos (by rw [← hdy]; exact hk)])
      subst hyl2
      refine G.exit _ rfl ?_
      refine N.seq ?_
      refine G.seq ?_
      refine G.region ?_
      refine L.val rfl rfl (R.mv rfl) ?_
      refine L.val rfl rfl (R.as rfl) ?_
      refine L.val rfl rfl (R.as rfl) ?_
      refine L.nil ?_
      refine N.seq ?_
      refine G.ret2 rfl rfl rfl ?_
      exact ⟨d, rfl, E, OwnDisk.at (s := 0) ⟨a6, c6, qs, M6, B6, by omega, hv1, hv2, hv3, o6, by simp, hB⟩⟩

theorem ifrom_err (a : Option Addr) (n c : Nat) (l : List UInt8) (w : World) (hb : Bs w a n l) (hn : n ≤ 140737488351232) (hv : ¬ (l.length = 64 * dn l ∧ 1 ≤ dn l ∧ dn l ≤ 64)) : Meets Try.prog 10 [.slice a n c] w (fun v w' => v = .tuple #[.pointer none, .int .i64 2] ∧ w' = w) := by
  refine Meets.enter Try.func10 rfl 47 rfl (Nat.le_of_ble_eq_true rfl) ?_
  have hl := hb.len
  have hdl : dn l = l.length / 64 := rfl
  refine G.seq ?_
  refine G.region ?_
  refine L.val rfl rfl (R.as rfl) ?_
  refine L.val rfl rfl (R.as rfl) ?_
  refine L.nil ?_
  refine N.seq ?_
  refine G.seq ?_
  refine G.seq ?_
  refine G.region ?_
  refine L.val rfl rfl (R.mv rfl) ?_
  refine L.val rfl rfl (R.lenS rfl) ?_
  refine L.val rfl rfl (R.rem rfl rfl (by omega) (by omega)) ?_
  refine L.val rfl rfl (R.neI rfl rfl) ?_
  refine L.nil ?_
  refine N.seq ?_
  refine G.condP rfl (fun h0 => ?_) (fun h0 => ?_)
  · refine G.seq ?_
    refine G.region ?_
    refine L.val rfl rfl (R.as rfl) ?_
    refine L.val rfl rfl (R.as rfl) ?_
    refine L.nil ?_
    refine N.seq ?_
    refine G.ret2 rfl rfl rfl ?_
    exact ⟨rfl, rfl⟩
  · refine G.skip ?_
    refine N.seq ?_
    refine G.seq ?_
    refine G.region ?_
    refine L.val rfl rfl (R.mv rfl) ?_
    refine L.val rfl rfl (R.lenS rfl) ?_
    refine L.val rfl rfl (R.quo rfl rfl (by omega) (by omega)) ?_
    refine L.callF rfl rfl rfl go22 (inew_err ((n : Int) / 64) _ (fun h9 => hv ⟨by omega, by omega, by omega⟩)) ?_
    rintro _ _ ⟨rfl, rfl⟩
    refine L.val rfl rfl (R.mv rfl) ?_
    refine L.val rfl rfl (R.ext rfl rfl) ?_
    refine L.val rfl rfl (R.ext rfl rfl) ?_
    refine L.val rfl rfl (R.as rfl) ?_
    refine L.val rfl rfl (R.as rfl) ?_
    refine L.nil ?_
    refine N.seq ?_
    refine G.seq ?_
    refine G.seq ?_
    refine G.region ?_
    refine L.val rfl rfl (R.mv rfl) ?_
    refine L.val rfl rfl (R.neI rfl rfl) ?_
    refine L.nil ?_
    refine N.seq ?_
    refine G.condT rfl ?_
    refine G.seq ?_
    refine G.region ?_
    refine L.val rfl rfl (R.mv rfl) ?_
    refine L.val rfl rfl (R.as rfl) ?_
    refine L.val rfl rfl (R.as rfl) ?_
    refine L.nil ?_
    refine N.seq ?_
    refine G.ret2 rfl rfl rfl ?_
    exact ⟨rfl, rfl⟩

end Go.Proofs.Ytiggahlnplaciaa
/-
  The walks of package digest.
-/
set_option linter.unusedVariables false
set_option linter.unusedSimpArgs false
set_option maxRecDepth 4000
namespace Go.Proofs.Ytiggahlnplaciaa
open Go Brv
theorem ifromP (a : Option Addr) (n c : Nat) (l : List UInt8) (w : World) (hb : Bs w a n l) (hc : n ≤ c) (hv : l.length = 64 * Image.dn l ∧ 1 ≤ Image.dn l ∧ Image.dn l ≤ 64) : Meets Try.prog 10 [.slice a n c] w (fun v w' => ∃ p : World → Prop, (∃ d g c cur ps, v = .tuple #[.pointer (some ⟨d, 0, none⟩), .int .i64 0] ∧ p = fun w => DiskL w d g c cur ps l) ∧ Ext [] w w' ∧ ∀ w'', Ext [] w' w'' → p w'') :=
  (ifrom_ok a n c l w hb hc hv).mono fun v w' ⟨d, hv, he, g, c, cur, ps, hD⟩ => ⟨_, ⟨d, g, c, cur, ps, hv, rfl⟩, he, fun w'' h => hD.ext0 h⟩
theorem inewP (n : Nat) (w : World) (h1 : 1 ≤ n) (h2 : n ≤ 64) : Meets Try.prog 22 [.int .i64 (n : Int)] w (fun v w' => ∃ p : World → Prop, (∃ d g c cur ps, v = .tuple #[.pointer (some ⟨d, 0, none⟩), .int .i64 0] ∧ p = fun w => DiskL w d g c cur ps (List.replicate (64 * n) 0)) ∧ Ext [] w w' ∧ ∀ w'', Ext [] w' w'' → p w'') :=
  (inew_ok n w h1 h2).mono fun v w' ⟨d, hv, he, hO⟩ => by
    obtain ⟨g, c, cur, ps, hD⟩ := hO.at
    exact ⟨_, ⟨d, g, c, cur, ps, hv, rfl⟩, he, fun w'' h => hD.ext0 h⟩
theorem igetS (d g c : Nat) (cur : Array Value) (ps : List Nat) (x : List UInt8) (k : Nat) (hk : k < Image.dn x) : SpecS Try.prog 19 [.pointer (some ⟨d, 0, none⟩), .int .i64 (k : Int)] [sh (fun w => DiskL w d g c cur ps x)] (fun v H' => ∃ a c', v = .tuple #[.slice a 64 c', .int .i64 0] ∧ H' = [own 5 1 a 64 c' (vbs (Image.blk x k)), sh (fun w => DiskL w d g c cur ps x)]) :=
  (SpecS.ofFresh (φ := fun v A => ∃ a c', v = .tuple #[.slice a 64 c', .int .i64 0] ∧ A = own 5 1 a 64 c' (vbs (Image.blk x k))) fun w F S s => (iget_ok d x (k : Int) w ⟨g, c, cur, ps, s.sh (p := fun w => DiskL w d g c cur ps x) .here⟩).mono fun v w' ⟨a, c', M, h1, h2, h3, h4⟩ => by
    have hok : Image.okK x (k : Int) := ⟨by omega, by omega⟩
    rw [if_pos hok, show Image.getB x (k : Int) = Image.blk x k from if_pos hok, Image.blk_length hk] at h1
    rw [show Image.getB x (k : Int) = Image.blk x k from if_pos hok, Image.blk_length hk] at h3
    exact ⟨_, M, [], ⟨a, c', h1, rfl⟩, h2, h3, fun b hb => ⟨h4 b hb, h3.lt b hb⟩, by simp⟩).mono fun v H' ⟨A, ⟨a, c', h1, h2⟩, h3⟩ => ⟨a, c', h1, by rw [h3, h2]⟩

end Go.Proofs.Ytiggahlnplaciaa
/-
  The walks of package digest.
-/
set_option linter.unusedVariables false
set_option linter.unusedSimpArgs false
set_option maxRecDepth 4000
namespace Go.Proofs.Ytiggahlnplaciaa
open Go Brv
def s0 : Nat := sumN (List.replicate 64 0)
def s1 : Nat := nodeN [s0, s0]
def s2 : Nat := nodeN [s1, s0]
theorem first_tree : treeD (List.replicate (64 * 3) (0 : UInt8)) = [[s0, s0, s0], [s1, s0], [s2]] := by
  have h0 : sumsT (List.replicate (64 * 3) (0 : UInt8)) ((List.replicate (64 * 3) (0 : UInt8)).length / 64) = [s0, s0, s0] := by
    rw [show (List.replicate (64 * 3) (0 : UInt8)).length / 64 = 3 by rw [List.length_replicate]]
    rfl
  rw [treeD_pos (by rw [List.length_replicate]; decide), h0, treeF_more (by simp), treeF_more (by simp [nextR]), treeF_one (by simp [nextR])]
  rfl
theorem first_root : rootD (List.replicate (64 * 3) (0 : UInt8)) = s2 := by unfold rootD; rw [first_tree]; rfl
theorem first_dif : difF [[s0, s0, s0], [s1, s0], [s2]] [[s0, s0, s0], [s1, s0], [s2]] = ([], 1) := by
  rw [dif_yes (likeT_refl (by simp)) (v := s2) rfl]
  simp [difD, unl, lks, bel]
theorem first_proof : proofF [[s0, s0, s0], [s1, s0]] 2 = [s1] := by simp [proofF, beside]
theorem first_up : upF 64 3 2 s0 [s1] = some (s2, []) := by
  rw [upF_pass (by decide) (by decide), upF_cons (by decide) (by decide), if_pos (by decide), upF_one (by decide)]; rfl
theorem first_not : s2 ≠ 1 := by decide +kernel
theorem first_no : ¬ (some (s2, ([] : List Nat)) = some (1, [])) := by
  have h := first_not
  generalize s2 = z at h ⊢
  simp [h]
theorem first_ok3 : okU [s1] := fun v hv => by rw [List.mem_singleton.1 hv]; exact nodeN_le (okU_two (sumN_le _) (sumN_le _))

set_option maxHeartbeats 1000000 in
theorem first44_law  (w : World) : Meets Try.prog 5 [] w (fun v w' => v = .bool true ∧ Ext [] w w') := by
  refine Meets.law Try.func5 rfl 86 rfl (Nat.le_of_ble_eq_true rfl) (law_nil w) ?_
  refine SG.seq ?_
  refine SG.region ?_
  refine SL.val rfl rfl (fun w9 F9 S9 s => R.as rfl) ?_
  refine SL.nil ?_
  refine SN.seq ?_
  refine SG.seq ?_
  refine SG.region ?_
  refine SL.step rfl rfl (CS.callP rfl go22 (fun w9 F9 S9 s => inewP 3 w9 (by decide) (by decide))) ?_
  rintro _ _ ⟨_, ⟨d, g, c, cur, ps, rfl, rfl⟩, rfl⟩
  refine SL.val rfl rfl (fun w9 F9 S9 s => R.mv rfl) ?_
  refine SL.val rfl rfl (fun w9 F9 S9 s => R.ext rfl rfl) ?_
  refine SL.val rfl rfl (fun w9 F9 S9 s => R.ext rfl rfl) ?_
  refine SL.val rfl rfl (fun w9 F9 S9 s => R.as rfl) ?_
  refine SL.val rfl rfl (fun w9 F9 S9 s => R.as rfl) ?_
  refine SL.nil ?_
  refine SN.seq ?_
  refine SG.seq ?_
  refine SG.region ?_
  refine SL.val rfl rfl (fun w9 F9 S9 s => R.mv rfl) ?_
  refine SL.step rfl rfl (CS.call rfl go11 (dtree_ok d g c cur ps (List.replicate (64 * 3) (0 : UInt8))) (by repeat (first | exact Sels.nil | apply Sels.cons | exact Sel.keep | exact Sel.here | apply Sel.there))) ?_
  rintro _ _ ⟨_, ⟨a5, n5, c5, Rr, rfl, rfl, hc5, hRr, rfl⟩, rfl⟩
  refine SL.n1 ?_
  refine SL.val rfl rfl (fun w9 F9 S9 s => R.as rfl) ?_
  refine SL.nil ?_
  rw [first_tree] at hRr
  obtain ⟨r0, t0, rfl, e0, hR1⟩ := List.map_eq_cons_iff.1 hRr
  obtain ⟨r1, t1, rfl, e1, hR2⟩ := List.map_eq_cons_iff.1 hR1
  obtain ⟨r2, t2, rfl, e2, hR3⟩ := List.map_eq_cons_iff.1 hR2
  obtain rfl := List.map_eq_nil_iff.1 hR3
  have hmap : ([r0, r1, r2].map URow.l) = [[s0, s0, s0], [s1, s0], [s2]] := hRr
  refine SN.fact (fun w9 F9 S9 s => ((s.sh (p := (fun w => Cells w a5 ([r0, r1, r2].map URow.val) ∧ ∀ r ∈ [r0, r1, r2], URow.ok w r)) (by repeat (first | exact Sel.keep | exact Sel.here | apply Sel.there))).2 r0 (by simp)).len) (fun hf9 => ?_)
  have hn0 := hf9; clear hf9
  refine SN.fact (fun w9 F9 S9 s => ((s.sh (p := (fun w => Cells w a5 ([r0, r1, r2].map URow.val) ∧ ∀ r ∈ [r0, r1, r2], URow.ok w r)) (by repeat (first | exact Sel.keep | exact Sel.here | apply Sel.there))).2 r2 (by simp)).len) (fun hf9 => ?_)
  have hn2 := hf9; clear hf9
  rw [e0] at hn0
  rw [e2] at hn2
  refine SN.fact (fun w9 F9 S9 s => rows_pt (i := 0) (s.sh (p := (fun w => Cells w a5 ([r0, r1, r2].map URow.val) ∧ ∀ r ∈ [r0, r1, r2], URow.ok w r)) (by repeat (first | exact Sel.keep | exact Sel.here | apply Sel.there))).1 (show [r0, r1, r2][0]? = some r0 from rfl)) (fun hf9 => ?_)
  obtain ⟨q, hq⟩ := hf9
  refine SN.fact (fun w9 F9 S9 s => us_pt (i := 0) ((s.sh (p := (fun w => Cells w a5 ([r0, r1, r2].map URow.val) ∧ ∀ r ∈ [r0, r1, r2], URow.ok w r)) (by repeat (first | exact Sel.keep | exact Sel.here | apply Sel.there))).2 r2 (by simp)).cells (show r2.l[0]? = some s2 by rw [e2]; rfl)) (fun hf9 => ?_)
  obtain ⟨q2, hq2⟩ := hf9
  have hpr : proofF (([r0, r1, r2].take ([r0, r1, r2].length - 1)).map URow.l) 2 = [s1] := by show proofF [r0.l, r1.l] 2 = _; rw [e0, e1]; exact first_proof
  refine SN.seq ?_
  refine SG.seq ?_
  refine SG.region ?_
  refine SL.val rfl rfl (fun w9 F9 S9 s => R.mv rfl) ?_
  refine SL.step rfl rfl (CS.call rfl go21 (dproof_ok a5 c5 [r0, r1, r2] r0 2 rfl (by rw [e0]; decide) (by decide) (by show 3 ≤ 1000; decide) hc5) (by repeat (first | exact Sels.nil | apply Sels.cons | exact Sel.keep | exact Sel.here | apply Sel.there))) ?_
  rintro _ _ ⟨_, ⟨a9, c9, rfl, rfl, rfl⟩, rfl⟩
  refine SL.n1 ?_
  refine SL.val rfl rfl (fun w9 F9 S9 s => R.as rfl) ?_
  refine SL.nil ?_
  rw [hpr]
  refine SN.fact (fun w9 F9 S9 s => s.ownL (show Sel _ (own 25 1 a9 1 c9 (us [s1])) _ from (by repeat (first | exact Sel.keep | exact Sel.here | apply Sel.there)))) (fun hf9 => ?_)
  obtain ⟨_, hc9⟩ := hf9
  refine SN.imp (Imp.ownSh (show Sel _ (own 25 1 a9 1 c9 (us [s1])) _ from (by repeat (first | exact Sel.keep | exact Sel.here | apply Sel.there))) (p := fun w => Cells w a9 (us [s1])) (fun w h => h)) ?_
  refine SN.seq ?_
  refine SG.seq ?_
  refine SG.region ?_
  refine SL.val rfl rfl (fun w9 F9 S9 s => R.mv rfl) ?_
  refine SL.val rfl rfl (fun w9 F9 S9 s => R.mv rfl) ?_
  refine SL.step rfl rfl (CS.call rfl go12 (ddif_ok a5 a5 c5 c5 [r0, r1, r2] [r0, r1, r2] (by show 3 ≤ 20; decide)) (by repeat (first | exact Sels.nil | apply Sels.cons | exact Sel.keep | exact Sel.here | apply Sel.there))) ?_
  rintro _ _ ⟨_, ⟨a7, c7, rfl, rfl, rfl⟩, rfl⟩
  refine SL.n1 ?_
  refine SL.val rfl rfl (fun w9 F9 S9 s => R.mv rfl) ?_
  refine SL.val rfl rfl (fun w9 F9 S9 s => R.ext rfl rfl) ?_
  refine SL.val rfl rfl (fun w9 F9 S9 s => R.ext rfl rfl) ?_
  refine SL.val rfl rfl (fun w9 F9 S9 s => R.as rfl) ?_
  refine SL.val rfl rfl (fun w9 F9 S9 s => R.as rfl) ?_
  refine SL.nil ?_
  rw [hmap, first_dif]
  refine SN.seq ?_
  refine SG.seq ?_
  refine SG.imp ((show Imp _ (bs none 0 [] :: _) from Imp.pure (fun w => Bs.nil w))) ?_
  refine SG.draw [0, 3, 4, 5, 22, 41, 43, 46, 48, 61, 62] [0, 1, 2, 3, 4, 5, 6, 7, 8, 9, 10, 11, 12, 13, 14, 15, 16, 17, 18, 19, 20, 21, 23, 24, 25, 26, 27, 22, 28, 29, 30, 31, 32, 33, 34, 35, 36, 37, 38, 39, 40, 42, 41, 43, 44, 45, 47, 46, 48, 49, 50, 51, 52, 53, 54, 55, 56, 57, 58, 59, 60, 61, 62, 63, 64, 65] (by decide +kernel) rfl ?_
  refine SW.step rfl rfl rfl rfl (CS.call rfl go6 (dsum_ok none 0 0 [] (by decide)) (by repeat (first | exact Sels.nil | apply Sels.cons | exact Sel.keep | exact Sel.here | apply Sel.there))) ?_
  rintro _ _ ⟨_, ⟨rfl, rfl⟩, rfl⟩
  refine ⟨trivial, ?_⟩
  refine SW.n0 ?_
  refine SW.pure rfl rfl rfl rfl (fun w9 => R.eqI rfl rfl) ?_
  refine SW.pure rfl rfl rfl rfl (fun w9 => R.mv rfl) ?_
  refine SW.isT 23 rfl (decide_eq_true rfl) ?_
  refine SW.step rfl rfl rfl rfl (CS.buildA rfl rfl rfl rfl rfl (vbs [97]) rfl) ?_
  rintro _ _ ⟨b24, rfl, rfl⟩
  refine ⟨trivial, ?_⟩
  refine SW.step rfl rfl rfl rfl (CS.markB (l := [97]) rfl (by repeat (first | exact Sel.keep | exact Sel.here | apply Sel.there)) rfl) ?_
  rintro _ _ ⟨rfl, rfl⟩
  refine ⟨trivial, ?_⟩
  refine SW.step rfl rfl rfl rfl (CS.call rfl go6 (dsum_ok (some ⟨b24, 0, none⟩) 1 1 [97] (by decide)) (by repeat (first | exact Sels.nil | apply Sels.cons | exact Sel.keep | exact Sel.here | apply Sel.there))) ?_
  rintro _ _ ⟨_, ⟨rfl, rfl⟩, rfl⟩
  refine ⟨trivial, ?_⟩
  refine SW.n0 ?_
  refine SW.pure rfl rfl rfl rfl (fun w9 => R.eqI rfl rfl) ?_
  first | refine SW.pure rfl rfl rfl rfl (fun w9 => R.pickT rfl rfl) ?_ | refine SW.pure rfl rfl rfl rfl (fun w9 => R.pickF rfl rfl) ?_
  refine SW.pure rfl rfl rfl rfl (fun w9 => R.mv rfl) ?_
  refine SW.isT 29 rfl (decide_eq_true (by decide +kernel)) ?_
  refine SW.pure rfl rfl rfl rfl (fun w9 => R.mv rfl) ?_
  refine SW.pure rfl rfl rfl rfl (fun w9 => R.lenS rfl) ?_
  refine SW.pure rfl rfl rfl rfl (fun w9 => R.eqI rfl rfl) ?_
  first | refine SW.pure rfl rfl rfl rfl (fun w9 => R.pickT rfl rfl) ?_ | refine SW.pure rfl rfl rfl rfl (fun w9 => R.pickF rfl rfl) ?_
  refine SW.pure rfl rfl rfl rfl (fun w9 => R.mv rfl) ?_
  refine SW.isT 34 rfl (decide_eq_true rfl) ?_
  refine SW.pure rfl rfl rfl rfl (fun w9 => R.mv rfl) ?_
  refine SW.pure rfl rfl rfl rfl (fun w9 => R.idx (i := 0) rfl rfl (by decide) (by show (0 : Int) < 3; decide) q hq) ?_
  refine SW.read rfl rfl rfl rfl (fun w9 F9 S9 s => R.ld (v := .slice r0.a r0.n r0.c) rfl (rows_ld (i := 0) (s.sh (p := (fun w => Cells w a5 ([r0, r1, r2].map URow.val) ∧ ∀ r ∈ [r0, r1, r2], URow.ok w r)) (by repeat (first | exact Sel.keep | exact Sel.here | apply Sel.there))).1 hq (show [r0, r1, r2][0]? = some r0 from rfl))) ?_
  refine SW.pure rfl rfl rfl rfl (fun w9 => R.lenS rfl) ?_
  refine SW.pure rfl rfl rfl rfl (fun w9 => R.eqI rfl rfl) ?_
  first | refine SW.pure rfl rfl rfl rfl (fun w9 => R.pickT rfl rfl) ?_ | refine SW.pure rfl rfl rfl rfl (fun w9 => R.pickF rfl rfl) ?_
  refine SW.pure rfl rfl rfl rfl (fun w9 => R.mv rfl) ?_
  refine SW.isT 41 rfl (decide_eq_true (by rw [hn0]; rfl)) ?_
  refine SW.pure rfl rfl rfl rfl (fun w9 => R.mv rfl) ?_
  refine SW.pure rfl rfl rfl rfl (fun w9 => R.mv rfl) ?_
  refine SW.pure rfl rfl rfl rfl (fun w9 => R.idx (i := 2) rfl rfl (by decide) (by show (2 : Int) < 3; decide) q hq) ?_
  refine SW.read rfl rfl rfl rfl (fun w9 F9 S9 s => R.ld (v := .slice r2.a r2.n r2.c) rfl (rows_ld (i := 2) (s.sh (p := (fun w => Cells w a5 ([r0, r1, r2].map URow.val) ∧ ∀ r ∈ [r0, r1, r2], URow.ok w r)) (by repeat (first | exact Sel.keep | exact Sel.here | apply Sel.there))).1 hq (show [r0, r1, r2][2]? = some r2 from rfl))) ?_
  refine SW.pure rfl rfl rfl rfl (fun w9 => R.idx (i := 0) rfl rfl (by decide) (by rw [hn2]; decide) q2 hq2) ?_
  refine SW.read rfl rfl rfl rfl (fun w9 F9 S9 s => R.ld (v := .int .u64 (s2 : Int)) rfl (us_ld (i := 0) ((s.sh (p := (fun w => Cells w a5 ([r0, r1, r2].map URow.val) ∧ ∀ r ∈ [r0, r1, r2], URow.ok w r)) (by repeat (first | exact Sel.keep | exact Sel.here | apply Sel.there))).2 r2 (by simp)).cells hq2 (show r2.l[0]? = some s2 by rw [e2]; rfl))) ?_
  refine SW.step rfl rfl rfl rfl (CS.call rfl go13 (droot_ok d g c cur ps (List.replicate (64 * 3) (0 : UInt8))) (by repeat (first | exact Sels.nil | apply Sels.cons | exact Sel.keep | exact Sel.here | apply Sel.there))) ?_
  rintro _ _ ⟨_, ⟨rfl, rfl⟩, rfl⟩
  refine ⟨⟨.inr (fun w9 F9 S9 s => R.ld (v := .int .u64 (s2 : Int)) rfl (us_ld (i := 0) ((s.sh (p := (fun w => Cells w a5 ([r0, r1, r2].map URow.val) ∧ ∀ r ∈ [r0, r1, r2], URow.ok w r)) (by repeat (first | exact Sel.keep | exact Sel.here | apply Sel.there))).2 r2 (by simp)).cells hq2 (show r2.l[0]? = some s2 by rw [e2]; rfl))), ⟨.inr (fun w9 F9 S9 s => R.ld (v := .slice r2.a r2.n r2.c) rfl (rows_ld (i := 2) (s.sh (p := (fun w => Cells w a5 ([r0, r1, r2].map URow.val) ∧ ∀ r ∈ [r0, r1, r2], URow.ok w r)) (by repeat (first | exact Sel.keep | exact Sel.here | apply Sel.there))).1 hq (show [r0, r1, r2][2]? = some r2 from rfl))), ⟨.inl (by decide +kernel), trivial⟩⟩⟩, ?_⟩
  refine SW.n0 ?_
  refine SW.be 43 rfl (show _ = Value.int .u64 (s2 : Int) by rw [first_root]) ?_
  refine SW.pure rfl rfl rfl rfl (fun w9 => R.eqI rfl rfl) ?_
  first | refine SW.pure rfl rfl rfl rfl (fun w9 => R.pickT rfl rfl) ?_ | refine SW.pure rfl rfl rfl rfl (fun w9 => R.pickF rfl rfl) ?_
  refine SW.pure rfl rfl rfl rfl (fun w9 => R.mv rfl) ?_
  refine SW.isT 51 rfl (decide_eq_true rfl) ?_
  refine SW.pure rfl rfl rfl rfl (fun w9 => R.mv rfl) ?_
  refine SW.pure rfl rfl rfl rfl (fun w9 => R.lenS rfl) ?_
  refine SW.pure rfl rfl rfl rfl (fun w9 => R.eqI rfl rfl) ?_
  first | refine SW.pure rfl rfl rfl rfl (fun w9 => R.pickT rfl rfl) ?_ | refine SW.pure rfl rfl rfl rfl (fun w9 => R.pickF rfl rfl) ?_
  refine SW.pure rfl rfl rfl rfl (fun w9 => R.mv rfl) ?_
  refine SW.isT 56 rfl (decide_eq_true rfl) ?_
  refine SW.pure rfl rfl rfl rfl (fun w9 => R.mv rfl) ?_
  refine SW.pure rfl rfl rfl rfl (fun w9 => R.idx (i := 2) rfl rfl (by decide) (by show (2 : Int) < 3; decide) q hq) ?_
  refine SW.read rfl rfl rfl rfl (fun w9 F9 S9 s => R.ld (v := .slice r2.a r2.n r2.c) rfl (rows_ld (i := 2) (s.sh (p := (fun w => Cells w a5 ([r0, r1, r2].map URow.val) ∧ ∀ r ∈ [r0, r1, r2], URow.ok w r)) (by repeat (first | exact Sel.keep | exact Sel.here | apply Sel.there))).1 hq (show [r0, r1, r2][2]? = some r2 from rfl))) ?_
  refine SW.pure rfl rfl rfl rfl (fun w9 => R.idx (i := 0) rfl rfl (by decide) (by rw [hn2]; decide) q2 hq2) ?_
  refine SW.read rfl rfl rfl rfl (fun w9 F9 S9 s => R.ld (v := .int .u64 (s2 : Int)) rfl (us_ld (i := 0) ((s.sh (p := (fun w => Cells w a5 ([r0, r1, r2].map URow.val) ∧ ∀ r ∈ [r0, r1, r2], URow.ok w r)) (by repeat (first | exact Sel.keep | exact Sel.here | apply Sel.there))).2 r2 (by simp)).cells hq2 (show r2.l[0]? = some s2 by rw [e2]; rfl))) ?_
  refine SW.pure rfl rfl rfl rfl (fun w9 => R.mv rfl) ?_
  refine SW.step rfl rfl rfl rfl (CS.make rfl rfl (by decide) (by decide) (by decide) (by decide) (vbs (List.replicate 64 (0 : UInt8))) (madeCells_bytes 64)) ?_
  rintro _ _ ⟨b62, rfl, rfl⟩
  refine ⟨⟨.inr (fun w9 F9 S9 s => R.ld (v := .int .u64 (s2 : Int)) rfl (us_ld (i := 0) ((s.sh (p := (fun w => Cells w a5 ([r0, r1, r2].map URow.val) ∧ ∀ r ∈ [r0, r1, r2], URow.ok w r)) (by repeat (first | exact Sel.keep | exact Sel.here | apply Sel.there))).2 r2 (by simp)).cells hq2 (show r2.l[0]? = some s2 by rw [e2]; rfl))), ⟨.inr (fun w9 F9 S9 s => R.ld (v := .slice r2.a r2.n r2.c) rfl (rows_ld (i := 2) (s.sh (p := (fun w => Cells w a5 ([r0, r1, r2].map URow.val) ∧ ∀ r ∈ [r0, r1, r2], URow.ok w r)) (by repeat (first | exact Sel.keep | exact Sel.here | apply Sel.there))).1 hq (show [r0, r1, r2][2]? = some r2 from rfl))), ⟨.inl (by decide +kernel), ⟨.inl (by decide +kernel), ⟨.inl (by decide +kernel), trivial⟩⟩⟩⟩⟩, ?_⟩
  refine SW.step rfl rfl rfl rfl (CS.imp (Imp.blkBs (l := (List.replicate 64 (0 : UInt8))) (show Sel _ (blk b62 (vbs (List.replicate 64 (0 : UInt8))) _) _ from (by repeat (first | exact Sel.keep | exact Sel.here | apply Sel.there)))) (CS.call rfl go20 (dholds_ok (some ⟨b62, 0, none⟩) 64 64 (List.replicate 64 (0 : UInt8)) s2 3 2 a9 c9 [s1] (by decide) (by decide) (by decide) (by decide) first_ok3 (by decide) hc9) (by repeat (first | exact Sels.nil | apply Sels.cons | exact Sel.keep | exact Sel.here | apply Sel.there)))) ?_
  rintro _ _ ⟨_, ⟨rfl, rfl⟩, rfl⟩
  refine ⟨⟨.inl (by decide +kernel), ⟨.inl (by decide +kernel), ⟨.inl (by decide +kernel), ⟨.inl (by decide +kernel), ⟨.inl (by decide +kernel), trivial⟩⟩⟩⟩⟩, ?_⟩
  refine SW.n0 ?_
  first | refine SW.pure rfl rfl rfl rfl (fun w9 => R.pickT rfl rfl) ?_ | refine SW.pure rfl rfl rfl rfl (fun w9 => R.pickF rfl rfl) ?_
  refine SW.pure rfl rfl rfl rfl (fun w9 => R.mv rfl) ?_
  refine SW.isT 66 rfl (decide_eq_true first_up) ?_
  refine SW.pure rfl rfl rfl rfl (fun w9 => R.mv rfl) ?_
  refine SW.step rfl rfl rfl rfl (CS.make rfl rfl (by decide) (by decide) (by decide) (by decide) (vbs (List.replicate 64 (0 : UInt8))) (madeCells_bytes 64)) ?_
  rintro _ _ ⟨b67, rfl, rfl⟩
  refine ⟨⟨.inl (by decide +kernel), ⟨.inl (by decide +kernel), ⟨.inl (by decide +kernel), ⟨.inl (by decide +kernel), ⟨.inl (by decide +kernel), trivial⟩⟩⟩⟩⟩, ?_⟩
  refine SW.step rfl rfl rfl rfl (CS.imp (Imp.blkBs (l := (List.replicate 64 (0 : UInt8))) (show Sel _ (blk b67 (vbs (List.replicate 64 (0 : UInt8))) _) _ from (by repeat (first | exact Sel.keep | exact Sel.here | apply Sel.there)))) (CS.call rfl go20 (dholds_ok (some ⟨b67, 0, none⟩) 64 64 (List.replicate 64 (0 : UInt8)) 1 3 2 a9 c9 [s1] (by decide) (by decide) (by decide) (by decide) first_ok3 (by decide) hc9) (by repeat (first | exact Sels.nil | apply Sels.cons | exact Sel.keep | exact Sel.here | apply Sel.there)))) ?_
  rintro _ _ ⟨_, ⟨rfl, rfl⟩, rfl⟩
  refine ⟨⟨.inl (by decide +kernel), ⟨.inl (by decide +kernel), ⟨.inl (by decide +kernel), ⟨.inl (by decide +kernel), ⟨.inl (by decide +kernel), trivial⟩⟩⟩⟩⟩, ?_⟩
  refine SW.n0 ?_
  refine SW.pure rfl rfl rfl rfl (fun w9 => R.not rfl) ?_
  first | refine SW.pure rfl rfl rfl rfl (fun w9 => R.pickT rfl rfl) ?_ | refine SW.pure rfl rfl rfl rfl (fun w9 => R.pickF rfl rfl) ?_
  refine SW.pure rfl rfl rfl rfl (fun w9 => R.mv rfl) ?_
  refine SW.isT 72 rfl (show (!decide (upF 64 3 2 s0 [s1] = some (1, []))) = true by rw [first_up, decide_eq_false first_no]; rfl) ?_
  refine SW.pure rfl rfl rfl rfl (fun w9 => R.mv rfl) ?_
  refine SW.pure rfl rfl rfl rfl (fun w9 => R.lenS rfl) ?_
  refine SW.pure rfl rfl rfl rfl (fun w9 => R.eqI rfl rfl) ?_
  first | refine SW.pure rfl rfl rfl rfl (fun w9 => R.pickT rfl rfl) ?_ | refine SW.pure rfl rfl rfl rfl (fun w9 => R.pickF rfl rfl) ?_
  refine SW.pure rfl rfl rfl rfl (fun w9 => R.mv rfl) ?_
  refine SW.isT 77 rfl (decide_eq_true rfl) ?_
  refine SW.pure rfl rfl rfl rfl (fun w9 => R.mv rfl) ?_
  refine SW.pure rfl rfl rfl rfl (fun w9 => R.eqI rfl rfl) ?_
  first | refine SW.pure rfl rfl rfl rfl (fun w9 => R.pickT rfl rfl) ?_ | refine SW.pure rfl rfl rfl rfl (fun w9 => R.pickF rfl rfl) ?_
  refine SW.pure rfl rfl rfl rfl (fun w9 => R.mv rfl) ?_
  refine SW.isT 81 rfl (decide_eq_true rfl) ?_
  refine SW.step rfl rfl rfl rfl (CS.buildA rfl rfl rfl rfl rfl (us [5]) rfl) ?_
  rintro _ _ ⟨b82, rfl, rfl⟩
  refine ⟨⟨.inl (by decide +kernel), ⟨.inl (by decide +kernel), ⟨.inl (by decide +kernel), ⟨.inl (by decide +kernel), ⟨.inl (by decide +kernel), trivial⟩⟩⟩⟩⟩, ?_⟩
  refine SW.step rfl rfl rfl rfl (CS.imp (Imp.blkSh (show Sel _ (blk b82 (us [5]) _) _ from (by repeat (first | exact Sel.keep | exact Sel.here | apply Sel.there))) (p := fun w => Cells w (some ⟨b82, 0, none⟩) (us [5])) (fun w h => Cells.of_blk h 0 _ (fun j v hj => by simpa using hj))) (CS.call rfl go8 (dnode_ok (some ⟨b82, 0, none⟩) 1 1 [5] rfl (by decide) (by intro v hv; rw [List.mem_singleton.1 hv]; decide)) (by repeat (first | exact Sels.nil | apply Sels.cons | exact Sel.keep | exact Sel.here | apply Sel.there)))) ?_
  rintro _ _ ⟨_, ⟨rfl, rfl⟩, rfl⟩
  refine ⟨⟨.inl (by decide +kernel), ⟨.inl (by decide +kernel), ⟨.inl (by decide +kernel), ⟨.inl (by decide +kernel), ⟨.inl (by decide +kernel), trivial⟩⟩⟩⟩⟩, ?_⟩
  refine SW.n0 ?_
  refine SW.pure rfl rfl rfl rfl (fun w9 => R.eqI rfl rfl) ?_
  first | refine SW.pure rfl rfl rfl rfl (fun w9 => R.pickT rfl rfl) ?_ | refine SW.pure rfl rfl rfl rfl (fun w9 => R.pickF rfl rfl) ?_
  refine SW.pure rfl rfl rfl rfl (fun w9 => R.as rfl) ?_
  refine SW.nil ?_
  refine SN.seq ?_
  exact SG.ret1 rfl rfl ((Imp.sels (by repeat (first | exact Sels.nil | apply Sels.cons | exact Sel.keep | exact Sel.here | apply Sel.there)))) (congrArg Value.bool (decide_eq_true rfl))

end Go.Proofs.Ytiggahlnplaciaa
/-
  Slices of numbers among a law's arguments.
-/
set_option linter.unusedVariables false
set_option linter.unusedSimpArgs false
namespace Brv
open Go
end Brv
/-
  The walks of package digest.
-/
set_option linter.unusedVariables false
set_option linter.unusedSimpArgs false
set_option maxRecDepth 4000
namespace Go.Proofs.Ytiggahlnplaciaa
open Go Brv
theorem difF_len {x y : List UInt8} (h : x.length / 64 ≤ 64) (hx : 1 ≤ x.length / 64 ∧ x.length / 64 = y.length / 64) : (difF (treeD x) (treeD y)).1.length ≤ 64 := by
  rw [difF_rd hx.1 hx.2]
  have := (rdD_le (treeD x) (treeD y) ((treeD x).length - 1) 0).1
  have h7 := treeD_seven h
  have : 2 ^ ((treeD x).length - 1) ≤ 2 ^ 6 := Nat.pow_le_pow_right (by decide) (by omega)
  omega

end Go.Proofs.Ytiggahlnplaciaa
/-
  The walks of package digest.
-/
set_option linter.unusedVariables false
set_option linter.unusedSimpArgs false
set_option maxRecDepth 4000
namespace Go.Proofs.Ytiggahlnplaciaa
open Go Brv
instance : MapT Try.prog 44 Int 3 4 (.int .i64) := ⟨Try.underlying44, Try.underlying3, fun _ => rfl, fun a b h => by cases h; rfl⟩
theorem put_mem {ps : List (Int × Value)} {D : List Nat} {i k : Nat} (h : ∀ j, j < i → ∀ z, D[j]? = some z → mget ps (z : Int) = some (.bool true)) (hk : D[i]? = some k) : ∀ j, j < i + 1 → ∀ z, D[j]? = some z → mget (mput ps (k : Int) (.bool true)) (z : Int) = some (.bool true) := by
  intro j hj z hz
  rw [mget_put]
  split
  · rfl
  · rename_i hne
    refine h j ?_ z hz
    rcases Nat.lt_or_ge j i with h9 | h9
    · exact h9
    · obtain rfl : j = i := by omega
      rw [hk] at hz; cases hz
      exact (hne rfl).elim
theorem dif_in {x y : List UInt8} (hx : 1 ≤ x.length / 64) (he : x.length = y.length) {i : Nat} (h : i ∈ (difF (treeD x) (treeD y)).1) : i ∈ Image.diffF x y := by
  obtain ⟨h1, h2⟩ := dif_unlike hx (by omega) h
  exact List.mem_filter.2 ⟨List.mem_range.2 (by show i < max (Image.dn x) (Image.dn y); unfold Image.dn; omega), decide_eq_true h2⟩
structure PrS where
  i : Nat
  ps : List (Int × Value)

theorem ifromB (a : Option Addr) (n c : Nat) (l : List UInt8) (w : World) (hb : Bs w a n l) (hn : n ≤ 140737488351232) (hv : ¬ (l.length = 64 * Image.dn l ∧ 1 ≤ Image.dn l ∧ Image.dn l ≤ 64)) : Meets Try.prog 10 [.slice a n c] w (fun v w' => v = .tuple #[.pointer none, .int .i64 2] ∧ Ext [] w w') :=
  (ifrom_err a n c l w hb hn hv).mono fun v w' ⟨h1, h2⟩ => ⟨h1, by rw [h2]; exact Ext.refl _ _⟩

theorem proves_nn (a0 a1 : Option Addr) (n0 n1 c0 c1 : Nat) (l0 l1 : List UInt8) (w : World) (hb0 : Bs w a0 n0 l0) (hc0 : n0 ≤ c0) (hb1 : Bs w a1 n1 l1) (hc1 : n1 ≤ c1) (hm : n0 ≤ 140737488351232 ∧ n1 ≤ 140737488351232) (hv0 : ¬ (l0.length = 64 * Image.dn l0 ∧ 1 ≤ Image.dn l0 ∧ Image.dn l0 ≤ 64)) (hv1 : ¬ (l1.length = 64 * Image.dn l1 ∧ 1 ≤ Image.dn l1 ∧ Image.dn l1 ≤ 64)) : Meets Try.prog 4 [.slice a0 n0 c0, .slice a1 n1 c1] w (fun v w' => v = .bool true ∧ Ext [] w w') := by
  refine Meets.law Try.func4 rfl 114 rfl (Nat.le_of_ble_eq_true rfl) (law_bs (hb0) (law_bs (hb1) (law_nil w))) ?_
  refine SG.fact (fun w9 F9 S9 s => (s.bs (a := a0) (n := n0) (l := l0) (by repeat (first | exact Sel.keep | exact Sel.here | apply Sel.there))).len) (fun hf9 => ?_)
  have hl0 := hf9; clear hf9
  refine SG.fact (fun w9 F9 S9 s => (s.bs (a := a1) (n := n1) (l := l1) (by repeat (first | exact Sel.keep | exact Sel.here | apply Sel.there))).len) (fun hf9 => ?_)
  have hl1 := hf9; clear hf9
  refine SG.seq ?_
  refine SG.region ?_
  refine SL.val rfl rfl (fun w9 F9 S9 s => R.as rfl) ?_
  refine SL.nil ?_
  refine SN.seq ?_
  refine SG.seq ?_
  refine SG.seq ?_
  refine SG.region ?_
  refine SL.step rfl rfl (CS.callR rfl go5 (fun w9 F9 S9 s => first44_law w9)) ?_
  rintro _ _ ⟨rfl, rfl⟩
  refine SL.val rfl rfl (fun w9 F9 S9 s => R.not rfl) ?_
  refine SL.nil ?_
  refine SN.seq ?_
  refine SG.condF rfl ?_
  refine SG.skip ?_
  refine SN.seq ?_
  refine SG.seq ?_
  refine SG.region ?_
  refine SL.val rfl rfl (fun w9 F9 S9 s => R.mv rfl) ?_
  refine SL.step rfl rfl (CS.callR rfl go10 (fun w9 F9 S9 s => ifromB a0 n0 c0 l0 w9 (s.bs (l := l0) (by repeat (first | exact Sel.keep | exact Sel.here | apply Sel.there))) hm.1 hv0)) ?_
  rintro _ _ ⟨rfl, rfl⟩
  refine SL.val rfl rfl (fun w9 F9 S9 s => R.mv rfl) ?_
  refine SL.val rfl rfl (fun w9 F9 S9 s => R.ext rfl rfl) ?_
  refine SL.val rfl rfl (fun w9 F9 S9 s => R.ext rfl rfl) ?_
  refine SL.val rfl rfl (fun w9 F9 S9 s => R.as rfl) ?_
  refine SL.val rfl rfl (fun w9 F9 S9 s => R.as rfl) ?_
  refine SL.nil ?_
  refine SN.seq ?_
  refine SG.seq ?_
  refine SG.region ?_
  refine SL.val rfl rfl (fun w9 F9 S9 s => R.mv rfl) ?_
  refine SL.step rfl rfl (CS.callR rfl go10 (fun w9 F9 S9 s => ifromB a1 n1 c1 l1 w9 (s.bs (l := l1) (by repeat (first | exact Sel.keep | exact Sel.here | apply Sel.there))) hm.2 hv1)) ?_
  rintro _ _ ⟨rfl, rfl⟩
  refine SL.val rfl rfl (fun w9 F9 S9 s => R.mv rfl) ?_
  refine SL.val rfl rfl (fun w9 F9 S9 s => R.ext rfl rfl) ?_
  refine SL.val rfl rfl (fun w9 F9 S9 s => R.ext rfl rfl) ?_
  refine SL.val rfl rfl (fun w9 F9 S9 s => R.as rfl) ?_
  refine SL.val rfl rfl (fun w9 F9 S9 s => R.as rfl) ?_
  refine SL.nil ?_
  refine SN.seq ?_
  refine SG.seq ?_
  refine SG.seq ?_
  refine SG.region ?_
  refine SL.val rfl rfl (fun w9 F9 S9 s => R.mv rfl) ?_
  refine SL.val rfl rfl (fun w9 F9 S9 s => R.neI rfl rfl) ?_
  refine SL.val rfl rfl (fun w9 F9 S9 s => R.mv rfl) ?_
  refine SL.isT 34 rfl (decide_eq_true (by decide)) ?_
  refine SL.pass rfl rfl ?_
  refine SL.pass rfl rfl ?_
  first | refine SL.val rfl rfl (fun w9 F9 S9 s => R.pickT rfl rfl) ?_ | refine SL.val rfl rfl (fun w9 F9 S9 s => R.pickF rfl rfl) ?_
  refine SL.val rfl rfl (fun w9 F9 S9 s => R.mv rfl) ?_
  refine SL.pass rfl rfl ?_
  refine SL.pass rfl rfl ?_
  refine SL.pass rfl rfl ?_
  refine SL.pass rfl rfl ?_
  refine SL.pass rfl rfl ?_
  first | refine SL.val rfl rfl (fun w9 F9 S9 s => R.pickT rfl rfl) ?_ | refine SL.val rfl rfl (fun w9 F9 S9 s => R.pickF rfl rfl) ?_
  refine SL.nil ?_
  refine SN.seq ?_
  refine SG.condT rfl ?_
  refine SG.seq ?_
  refine SG.region ?_
  refine SL.val rfl rfl (fun w9 F9 S9 s => R.as rfl) ?_
  refine SL.nil ?_
  refine SN.seq ?_
  exact SG.ret1 rfl rfl ((Imp.sels (by repeat (first | exact Sels.nil | apply Sels.cons | exact Sel.keep | exact Sel.here | apply Sel.there)))) (rfl)

theorem proves_ny (a0 a1 : Option Addr) (n0 n1 c0 c1 : Nat) (l0 l1 : List UInt8) (w : World) (hb0 : Bs w a0 n0 l0) (hc0 : n0 ≤ c0) (hb1 : Bs w a1 n1 l1) (hc1 : n1 ≤ c1) (hm : n0 ≤ 140737488351232 ∧ n1 ≤ 140737488351232) (hv0 : ¬ (l0.length = 64 * Image.dn l0 ∧ 1 ≤ Image.dn l0 ∧ Image.dn l0 ≤ 64)) (hv1 : l1.length = 64 * Image.dn l1 ∧ 1 ≤ Image.dn l1 ∧ Image.dn l1 ≤ 64) : Meets Try.prog 4 [.slice a0 n0 c0, .slice a1 n1 c1] w (fun v w' => v = .bool true ∧ Ext [] w w') := by
  refine Meets.law Try.func4 rfl 114 rfl (Nat.le_of_ble_eq_true rfl) (law_bs (hb0) (law_bs (hb1) (law_nil w))) ?_
  refine SG.fact (fun w9 F9 S9 s => (s.bs (a := a0) (n := n0) (l := l0) (by repeat (first | exact Sel.keep | exact Sel.here | apply Sel.there))).len) (fun hf9 => ?_)
  have hl0 := hf9; clear hf9
  refine SG.fact (fun w9 F9 S9 s => (s.bs (a := a1) (n := n1) (l := l1) (by repeat (first | exact Sel.keep | exact Sel.here | apply Sel.there))).len) (fun hf9 => ?_)
  have hl1 := hf9; clear hf9
  refine SG.seq ?_
  refine SG.region ?_
  refine SL.val rfl rfl (fun w9 F9 S9 s => R.as rfl) ?_
  refine SL.nil ?_
  refine SN.seq ?_
  refine SG.seq ?_
  refine SG.seq ?_
  refine SG.region ?_
  refine SL.step rfl rfl (CS.callR rfl go5 (fun w9 F9 S9 s => first44_law w9)) ?_
  rintro _ _ ⟨rfl, rfl⟩
  refine SL.val rfl rfl (fun w9 F9 S9 s => R.not rfl) ?_
  refine SL.nil ?_
  refine SN.seq ?_
  refine SG.condF rfl ?_
  refine SG.skip ?_
  refine SN.seq ?_
  refine SG.seq ?_
  refine SG.region ?_
  refine SL.val rfl rfl (fun w9 F9 S9 s => R.mv rfl) ?_
  refine SL.step rfl rfl (CS.callR rfl go10 (fun w9 F9 S9 s => ifromB a0 n0 c0 l0 w9 (s.bs (l := l0) (by repeat (first | exact Sel.keep | exact Sel.here | apply Sel.there))) hm.1 hv0)) ?_
  rintro _ _ ⟨rfl, rfl⟩
  refine SL.val rfl rfl (fun w9 F9 S9 s => R.mv rfl) ?_
  refine SL.val rfl rfl (fun w9 F9 S9 s => R.ext rfl rfl) ?_
  refine SL.val rfl rfl (fun w9 F9 S9 s => R.ext rfl rfl) ?_
  refine SL.val rfl rfl (fun w9 F9 S9 s => R.as rfl) ?_
  refine SL.val rfl rfl (fun w9 F9 S9 s => R.as rfl) ?_
  refine SL.nil ?_
  refine SN.seq ?_
  refine SG.seq ?_
  refine SG.region ?_
  refine SL.val rfl rfl (fun w9 F9 S9 s => R.mv rfl) ?_
  refine SL.step rfl rfl (CS.callP rfl go10 (fun w9 F9 S9 s => ifromP a1 n1 c1 l1 w9 (s.bs (l := l1) (by repeat (first | exact Sel.keep | exact Sel.here | apply Sel.there))) hc1 hv1)) ?_
  rintro _ _ ⟨_, ⟨d1, g1, e1, cur1, ps1, rfl, rfl⟩, rfl⟩
  refine SL.val rfl rfl (fun w9 F9 S9 s => R.mv rfl) ?_
  refine SL.val rfl rfl (fun w9 F9 S9 s => R.ext rfl rfl) ?_
  refine SL.val rfl rfl (fun w9 F9 S9 s => R.ext rfl rfl) ?_
  refine SL.val rfl rfl (fun w9 F9 S9 s => R.as rfl) ?_
  refine SL.val rfl rfl (fun w9 F9 S9 s => R.as rfl) ?_
  refine SL.nil ?_
  refine SN.seq ?_
  refine SG.seq ?_
  refine SG.seq ?_
  refine SG.region ?_
  refine SL.val rfl rfl (fun w9 F9 S9 s => R.mv rfl) ?_
  refine SL.val rfl rfl (fun w9 F9 S9 s => R.neI rfl rfl) ?_
  refine SL.val rfl rfl (fun w9 F9 S9 s => R.mv rfl) ?_
  refine SL.isT 34 rfl (decide_eq_true (by decide)) ?_
  refine SL.pass rfl rfl ?_
  refine SL.pass rfl rfl ?_
  first | refine SL.val rfl rfl (fun w9 F9 S9 s => R.pickT rfl rfl) ?_ | refine SL.val rfl rfl (fun w9 F9 S9 s => R.pickF rfl rfl) ?_
  refine SL.val rfl rfl (fun w9 F9 S9 s => R.mv rfl) ?_
  refine SL.pass rfl rfl ?_
  refine SL.pass rfl rfl ?_
  refine SL.pass rfl rfl ?_
  refine SL.pass rfl rfl ?_
  refine SL.pass rfl rfl ?_
  first | refine SL.val rfl rfl (fun w9 F9 S9 s => R.pickT rfl rfl) ?_ | refine SL.val rfl rfl (fun w9 F9 S9 s => R.pickF rfl rfl) ?_
  refine SL.nil ?_
  refine SN.seq ?_
  refine SG.condT rfl ?_
  refine SG.seq ?_
  refine SG.region ?_
  refine SL.val rfl rfl (fun w9 F9 S9 s => R.as rfl) ?_
  refine SL.nil ?_
  refine SN.seq ?_
  exact SG.ret1 rfl rfl ((Imp.sels (by repeat (first | exact Sels.nil | apply Sels.cons | exact Sel.keep | exact Sel.here | apply Sel.there)))) (rfl)

theorem proves_yn (a0 a1 : Option Addr) (n0 n1 c0 c1 : Nat) (l0 l1 : List UInt8) (w : World) (hb0 : Bs w a0 n0 l0) (hc0 : n0 ≤ c0) (hb1 : Bs w a1 n1 l1) (hc1 : n1 ≤ c1) (hm : n0 ≤ 140737488351232 ∧ n1 ≤ 140737488351232) (hv0 : l0.length = 64 * Image.dn l0 ∧ 1 ≤ Image.dn l0 ∧ Image.dn l0 ≤ 64) (hv1 : ¬ (l1.length = 64 * Image.dn l1 ∧ 1 ≤ Image.dn l1 ∧ Image.dn l1 ≤ 64)) : Meets Try.prog 4 [.slice a0 n0 c0, .slice a1 n1 c1] w (fun v w' => v = .bool true ∧ Ext [] w w') := by
  refine Meets.law Try.func4 rfl 114 rfl (Nat.le_of_ble_eq_true rfl) (law_bs (hb0) (law_bs (hb1) (law_nil w))) ?_
  refine SG.fact (fun w9 F9 S9 s => (s.bs (a := a0) (n := n0) (l := l0) (by repeat (first | exact Sel.keep | exact Sel.here | apply Sel.there))).len) (fun hf9 => ?_)
  have hl0 := hf9; clear hf9
  refine SG.fact (fun w9 F9 S9 s => (s.bs (a := a1) (n := n1) (l := l1) (by repeat (first | exact Sel.keep | exact Sel.here | apply Sel.there))).len) (fun hf9 => ?_)
  have hl1 := hf9; clear hf9
  refine SG.seq ?_
  refine SG.region ?_
  refine SL.val rfl rfl (fun w9 F9 S9 s => R.as rfl) ?_
  refine SL.nil ?_
  refine SN.seq ?_
  refine SG.seq ?_
  refine SG.seq ?_
  refine SG.region ?_
  refine SL.step rfl rfl (CS.callR rfl go5 (fun w9 F9 S9 s => first44_law w9)) ?_
  rintro _ _ ⟨rfl, rfl⟩
  refine SL.val rfl rfl (fun w9 F9 S9 s => R.not rfl) ?_
  refine SL.nil ?_
  refine SN.seq ?_
  refine SG.condF rfl ?_
  refine SG.skip ?_
  refine SN.seq ?_
  refine SG.seq ?_
  refine SG.region ?_
  refine SL.val rfl rfl (fun w9 F9 S9 s => R.mv rfl) ?_
  refine SL.step rfl rfl (CS.callP rfl go10 (fun w9 F9 S9 s => ifromP a0 n0 c0 l0 w9 (s.bs (l := l0) (by repeat (first | exact Sel.keep | exact Sel.here | apply Sel.there))) hc0 hv0)) ?_
  rintro _ _ ⟨_, ⟨d0, g0, e0, cur0, ps0, rfl, rfl⟩, rfl⟩
  refine SL.val rfl rfl (fun w9 F9 S9 s => R.mv rfl) ?_
  refine SL.val rfl rfl (fun w9 F9 S9 s => R.ext rfl rfl) ?_
  refine SL.val rfl rfl (fun w9 F9 S9 s => R.ext rfl rfl) ?_
  refine SL.val rfl rfl (fun w9 F9 S9 s => R.as rfl) ?_
  refine SL.val rfl rfl (fun w9 F9 S9 s => R.as rfl) ?_
  refine SL.nil ?_
  refine SN.seq ?_
  refine SG.seq ?_
  refine SG.region ?_
  refine SL.val rfl rfl (fun w9 F9 S9 s => R.mv rfl) ?_
  refine SL.step rfl rfl (CS.callR rfl go10 (fun w9 F9 S9 s => ifromB a1 n1 c1 l1 w9 (s.bs (l := l1) (by repeat (first | exact Sel.keep | exact Sel.here | apply Sel.there))) hm.2 hv1)) ?_
  rintro _ _ ⟨rfl, rfl⟩
  refine SL.val rfl rfl (fun w9 F9 S9 s => R.mv rfl) ?_
  refine SL.val rfl rfl (fun w9 F9 S9 s => R.ext rfl rfl) ?_
  refine SL.val rfl rfl (fun w9 F9 S9 s => R.ext rfl rfl) ?_
  refine SL.val rfl rfl (fun w9 F9 S9 s => R.as rfl) ?_
  refine SL.val rfl rfl (fun w9 F9 S9 s => R.as rfl) ?_
  refine SL.nil ?_
  refine SN.seq ?_
  refine SG.seq ?_
  refine SG.seq ?_
  refine SG.region ?_
  refine SL.val rfl rfl (fun w9 F9 S9 s => R.mv rfl) ?_
  refine SL.val rfl rfl (fun w9 F9 S9 s => R.neI rfl rfl) ?_
  refine SL.val rfl rfl (fun w9 F9 S9 s => R.mv rfl) ?_
  refine SL.isF 34 rfl (decide_eq_false (by decide)) ?_
  refine SL.val rfl rfl (fun w9 F9 S9 s => R.mv rfl) ?_
  refine SL.val rfl rfl (fun w9 F9 S9 s => R.neI rfl rfl) ?_
  first | refine SL.val rfl rfl (fun w9 F9 S9 s => R.pickT rfl rfl) ?_ | refine SL.val rfl rfl (fun w9 F9 S9 s => R.pickF rfl rfl) ?_
  refine SL.val rfl rfl (fun w9 F9 S9 s => R.mv rfl) ?_
  refine SL.isT 38 rfl (decide_eq_true (by decide)) ?_
  refine SL.pass rfl rfl ?_
  refine SL.pass rfl rfl ?_
  refine SL.pass rfl rfl ?_
  refine SL.pass rfl rfl ?_
  refine SL.pass rfl rfl ?_
  first | refine SL.val rfl rfl (fun w9 F9 S9 s => R.pickT rfl rfl) ?_ | refine SL.val rfl rfl (fun w9 F9 S9 s => R.pickF rfl rfl) ?_
  refine SL.nil ?_
  refine SN.seq ?_
  refine SG.condT rfl ?_
  refine SG.seq ?_
  refine SG.region ?_
  refine SL.val rfl rfl (fun w9 F9 S9 s => R.as rfl) ?_
  refine SL.nil ?_
  refine SN.seq ?_
  exact SG.ret1 rfl rfl ((Imp.sels (by repeat (first | exact Sels.nil | apply Sels.cons | exact Sel.keep | exact Sel.here | apply Sel.there)))) (rfl)

theorem proves_len (a0 a1 : Option Addr) (n0 n1 c0 c1 : Nat) (l0 l1 : List UInt8) (w : World) (hb0 : Bs w a0 n0 l0) (hc0 : n0 ≤ c0) (hb1 : Bs w a1 n1 l1) (hc1 : n1 ≤ c1) (hm : n0 ≤ 140737488351232 ∧ n1 ≤ 140737488351232) (hv0 : l0.length = 64 * Image.dn l0 ∧ 1 ≤ Image.dn l0 ∧ Image.dn l0 ≤ 64) (hv1 : l1.length = 64 * Image.dn l1 ∧ 1 ≤ Image.dn l1 ∧ Image.dn l1 ≤ 64) (hne : l0.length ≠ l1.length) : Meets Try.prog 4 [.slice a0 n0 c0, .slice a1 n1 c1] w (fun v w' => v = .bool true ∧ Ext [] w w') := by
  refine Meets.law Try.func4 rfl 114 rfl (Nat.le_of_ble_eq_true rfl) (law_bs (hb0) (law_bs (hb1) (law_nil w))) ?_
  refine SG.fact (fun w9 F9 S9 s => (s.bs (a := a0) (n := n0) (l := l0) (by repeat (first | exact Sel.keep | exact Sel.here | apply Sel.there))).len) (fun hf9 => ?_)
  have hl0 := hf9; clear hf9
  refine SG.fact (fun w9 F9 S9 s => (s.bs (a := a1) (n := n1) (l := l1) (by repeat (first | exact Sel.keep | exact Sel.here | apply Sel.there))).len) (fun hf9 => ?_)
  have hl1 := hf9; clear hf9
  refine SG.seq ?_
  refine SG.region ?_
  refine SL.val rfl rfl (fun w9 F9 S9 s => R.as rfl) ?_
  refine SL.nil ?_
  refine SN.seq ?_
  refine SG.seq ?_
  refine SG.seq ?_
  refine SG.region ?_
  refine SL.step rfl rfl (CS.callR rfl go5 (fun w9 F9 S9 s => first44_law w9)) ?_
  rintro _ _ ⟨rfl, rfl⟩
  refine SL.val rfl rfl (fun w9 F9 S9 s => R.not rfl) ?_
  refine SL.nil ?_
  refine SN.seq ?_
  refine SG.condF rfl ?_
  refine SG.skip ?_
  refine SN.seq ?_
  refine SG.seq ?_
  refine SG.region ?_
  refine SL.val rfl rfl (fun w9 F9 S9 s => R.mv rfl) ?_
  refine SL.step rfl rfl (CS.callP rfl go10 (fun w9 F9 S9 s => ifromP a0 n0 c0 l0 w9 (s.bs (l := l0) (by repeat (first | exact Sel.keep | exact Sel.here | apply Sel.there))) hc0 hv0)) ?_
  rintro _ _ ⟨_, ⟨d0, g0, e0, cur0, ps0, rfl, rfl⟩, rfl⟩
  refine SL.val rfl rfl (fun w9 F9 S9 s => R.mv rfl) ?_
  refine SL.val rfl rfl (fun w9 F9 S9 s => R.ext rfl rfl) ?_
  refine SL.val rfl rfl (fun w9 F9 S9 s => R.ext rfl rfl) ?_
  refine SL.val rfl rfl (fun w9 F9 S9 s => R.as rfl) ?_
  refine SL.val rfl rfl (fun w9 F9 S9 s => R.as rfl) ?_
  refine SL.nil ?_
  refine SN.seq ?_
  refine SG.seq ?_
  refine SG.region ?_
  refine SL.val rfl rfl (fun w9 F9 S9 s => R.mv rfl) ?_
  refine SL.step rfl rfl (CS.callP rfl go10 (fun w9 F9 S9 s => ifromP a1 n1 c1 l1 w9 (s.bs (l := l1) (by repeat (first | exact Sel.keep | exact Sel.here | apply Sel.there))) hc1 hv1)) ?_
  rintro _ _ ⟨_, ⟨d1, g1, e1, cur1, ps1, rfl, rfl⟩, rfl⟩
  refine SL.val rfl rfl (fun w9 F9 S9 s => R.mv rfl) ?_
  refine SL.val rfl rfl (fun w9 F9 S9 s => R.ext rfl rfl) ?_
  refine SL.val rfl rfl (fun w9 F9 S9 s => R.ext rfl rfl) ?_
  refine SL.val rfl rfl (fun w9 F9 S9 s => R.as rfl) ?_
  refine SL.val rfl rfl (fun w9 F9 S9 s => R.as rfl) ?_
  refine SL.nil ?_
  refine SN.seq ?_
  refine SG.seq ?_
  refine SG.seq ?_
  refine SG.region ?_
  refine SL.val rfl rfl (fun w9 F9 S9 s => R.mv rfl) ?_
  refine SL.val rfl rfl (fun w9 F9 S9 s => R.neI rfl rfl) ?_
  refine SL.val rfl rfl (fun w9 F9 S9 s => R.mv rfl) ?_
  refine SL.isF 34 rfl (decide_eq_false (by decide)) ?_
  refine SL.val rfl rfl (fun w9 F9 S9 s => R.mv rfl) ?_
  refine SL.val rfl rfl (fun w9 F9 S9 s => R.neI rfl rfl) ?_
  first | refine SL.val rfl rfl (fun w9 F9 S9 s => R.pickT rfl rfl) ?_ | refine SL.val rfl rfl (fun w9 F9 S9 s => R.pickF rfl rfl) ?_
  refine SL.val rfl rfl (fun w9 F9 S9 s => R.mv rfl) ?_
  refine SL.isF 38 rfl (decide_eq_false (by decide)) ?_
  refine SL.val rfl rfl (fun w9 F9 S9 s => R.mv rfl) ?_
  refine SL.val rfl rfl (fun w9 F9 S9 s => R.lenS rfl) ?_
  refine SL.val rfl rfl (fun w9 F9 S9 s => R.mv rfl) ?_
  refine SL.val rfl rfl (fun w9 F9 S9 s => R.lenS rfl) ?_
  refine SL.val rfl rfl (fun w9 F9 S9 s => R.neI rfl rfl) ?_
  first | refine SL.val rfl rfl (fun w9 F9 S9 s => R.pickT rfl rfl) ?_ | refine SL.val rfl rfl (fun w9 F9 S9 s => R.pickF rfl rfl) ?_
  refine SL.nil ?_
  refine SN.seq ?_
  refine SG.condP rfl (fun h1 => ?_) (fun h1 => ?_)
  · refine SG.seq ?_
    refine SG.region ?_
    refine SL.val rfl rfl (fun w9 F9 S9 s => R.as rfl) ?_
    refine SL.nil ?_
    refine SN.seq ?_
    exact SG.ret1 rfl rfl ((Imp.sels (by repeat (first | exact Sels.nil | apply Sels.cons | exact Sel.keep | exact Sel.here | apply Sel.there)))) (rfl)
  · exfalso; omega

theorem disk_o {w : World} {d g c : Nat} {cur : Array Value} {ps : List Nat} {x : List UInt8} (h : DiskL w d g c cur ps x) : DiskO w (some ⟨d, 0, none⟩) x := .inr ⟨d, rfl, g, c, cur, ps, h⟩
theorem iblocks_E (d : Option Addr) (x : List UInt8) (w : World) (hd : DiskO w d x) : Meets Try.prog 18 [.pointer d] w (fun v w' => v = .int .i64 (Image.dn x : Int) ∧ Ext [] w w') :=
  (iblocks_ok d x w hd).mono fun v w' ⟨h1, h2⟩ => ⟨h1, by rw [h2]; exact Ext.refl _ _⟩

set_option maxHeartbeats 2000000 in
theorem proves_yy (a0 a1 : Option Addr) (n0 n1 c0 c1 : Nat) (l0 l1 : List UInt8) (w : World) (hb0 : Bs w a0 n0 l0) (hc0 : n0 ≤ c0) (hb1 : Bs w a1 n1 l1) (hc1 : n1 ≤ c1) (hm : n0 ≤ 140737488351232 ∧ n1 ≤ 140737488351232) (hv0 : l0.length = 64 * Image.dn l0 ∧ 1 ≤ Image.dn l0 ∧ Image.dn l0 ≤ 64) (hv1 : l1.length = 64 * Image.dn l1 ∧ 1 ≤ Image.dn l1 ∧ Image.dn l1 ≤ 64) (hle : l0.length = l1.length) : Meets Try.prog 4 [.slice a0 n0 c0, .slice a1 n1 c1] w (fun v w' => v = .bool true ∧ Ext [] w w') := by
  refine Meets.law Try.func4 rfl 114 rfl (Nat.le_of_ble_eq_true rfl) (law_bs (hb0) (law_bs (hb1) (law_nil w))) ?_
  refine SG.fact (fun w9 F9 S9 s => (s.bs (a := a0) (n := n0) (l := l0) (by repeat (first | exact Sel.keep | exact Sel.here | apply Sel.there))).len) (fun hf9 => ?_)
  have hl0 := hf9; clear hf9
  refine SG.fact (fun w9 F9 S9 s => (s.bs (a := a1) (n := n1) (l := l1) (by repeat (first | exact Sel.keep | exact Sel.here | apply Sel.there))).len) (fun hf9 => ?_)
  have hl1 := hf9; clear hf9
  refine SG.seq ?_
  refine SG.region ?_
  refine SL.val rfl rfl (fun w9 F9 S9 s => R.as rfl) ?_
  refine SL.nil ?_
  refine SN.seq ?_
  refine SG.seq ?_
  refine SG.seq ?_
  refine SG.region ?_
  refine SL.step rfl rfl (CS.callR rfl go5 (fun w9 F9 S9 s => first44_law w9)) ?_
  rintro _ _ ⟨rfl, rfl⟩
  refine SL.val rfl rfl (fun w9 F9 S9 s => R.not rfl) ?_
  refine SL.nil ?_
  refine SN.seq ?_
  refine SG.condF rfl ?_
  refine SG.skip ?_
  refine SN.seq ?_
  refine SG.seq ?_
  refine SG.region ?_
  refine SL.val rfl rfl (fun w9 F9 S9 s => R.mv rfl) ?_
  refine SL.step rfl rfl (CS.callP rfl go10 (fun w9 F9 S9 s => ifromP a0 n0 c0 l0 w9 (s.bs (l := l0) (by repeat (first | exact Sel.keep | exact Sel.here | apply Sel.there))) hc0 hv0)) ?_
  rintro _ _ ⟨_, ⟨d0, g0, e0, cur0, ps0, rfl, rfl⟩, rfl⟩
  refine SL.val rfl rfl (fun w9 F9 S9 s => R.mv rfl) ?_
  refine SL.val rfl rfl (fun w9 F9 S9 s => R.ext rfl rfl) ?_
  refine SL.val rfl rfl (fun w9 F9 S9 s => R.ext rfl rfl) ?_
  refine SL.val rfl rfl (fun w9 F9 S9 s => R.as rfl) ?_
  refine SL.val rfl rfl (fun w9 F9 S9 s => R.as rfl) ?_
  refine SL.nil ?_
  refine SN.seq ?_
  refine SG.seq ?_
  refine SG.region ?_
  refine SL.val rfl rfl (fun w9 F9 S9 s => R.mv rfl) ?_
  refine SL.step rfl rfl (CS.callP rfl go10 (fun w9 F9 S9 s => ifromP a1 n1 c1 l1 w9 (s.bs (l := l1) (by repeat (first | exact Sel.keep | exact Sel.here | apply Sel.there))) hc1 hv1)) ?_
  rintro _ _ ⟨_, ⟨d1, g1, e1, cur1, ps1, rfl, rfl⟩, rfl⟩
  refine SL.val rfl rfl (fun w9 F9 S9 s => R.mv rfl) ?_
  refine SL.val rfl rfl (fun w9 F9 S9 s => R.ext rfl rfl) ?_
  refine SL.val rfl rfl (fun w9 F9 S9 s => R.ext rfl rfl) ?_
  refine SL.val rfl rfl (fun w9 F9 S9 s => R.as rfl) ?_
  refine SL.val rfl rfl (fun w9 F9 S9 s => R.as rfl) ?_
  refine SL.nil ?_
  refine SN.seq ?_
  refine SG.seq ?_
  refine SG.seq ?_
  refine SG.region ?_
  refine SL.val rfl rfl (fun w9 F9 S9 s => R.mv rfl) ?_
  refine SL.val rfl rfl (fun w9 F9 S9 s => R.neI rfl rfl) ?_
  refine SL.val rfl rfl (fun w9 F9 S9 s => R.mv rfl) ?_
  refine SL.isF 34 rfl (decide_eq_false (by decide)) ?_
  refine SL.val rfl rfl (fun w9 F9 S9 s => R.mv rfl) ?_
  refine SL.val rfl rfl (fun w9 F9 S9 s => R.neI rfl rfl) ?_
  first | refine SL.val rfl rfl (fun w9 F9 S9 s => R.pickT rfl rfl) ?_ | refine SL.val rfl rfl (fun w9 F9 S9 s => R.pickF rfl rfl) ?_
  refine SL.val rfl rfl (fun w9 F9 S9 s => R.mv rfl) ?_
  refine SL.isF 38 rfl (decide_eq_false (by decide)) ?_
  refine SL.val rfl rfl (fun w9 F9 S9 s => R.mv rfl) ?_
  refine SL.val rfl rfl (fun w9 F9 S9 s => R.lenS rfl) ?_
  refine SL.val rfl rfl (fun w9 F9 S9 s => R.mv rfl) ?_
  refine SL.val rfl rfl (fun w9 F9 S9 s => R.lenS rfl) ?_
  refine SL.val rfl rfl (fun w9 F9 S9 s => R.neI rfl rfl) ?_
  first | refine SL.val rfl rfl (fun w9 F9 S9 s => R.pickT rfl rfl) ?_ | refine SL.val rfl rfl (fun w9 F9 S9 s => R.pickF rfl rfl) ?_
  refine SL.nil ?_
  refine SN.seq ?_
  refine SG.condP rfl (fun h1 => ?_) (fun h1 => ?_)
  · exfalso; omega
  · obtain ⟨hv01, hv02, hv03⟩ := hv0
    obtain ⟨hv11, hv12, hv13⟩ := hv1
    have hdn0 : Image.dn l0 = l0.length / 64 := rfl
    have hdn1 : Image.dn l1 = l1.length / 64 := rfl
    have h70 := treeD_seven (x := l0) (by omega)
    refine SG.skip ?_
    refine SN.seq ?_
    refine SG.seq ?_
    refine SG.region ?_
    refine SL.val rfl rfl (fun w9 F9 S9 s => R.mv rfl) ?_
    refine SL.step rfl rfl (CS.call rfl go11 (dtree_ok d0 g0 e0 cur0 ps0 l0) (by repeat (first | exact Sels.nil | apply Sels.cons | exact Sel.keep | exact Sel.here | apply Sel.there))) ?_
    rintro _ _ ⟨_, ⟨at0, nt0, ct0, Rt0, rfl, rfl, hct0, hRt0, rfl⟩, rfl⟩
    refine SL.n1 ?_
    refine SL.val rfl rfl (fun w9 F9 S9 s => R.as rfl) ?_
    refine SL.nil ?_
    refine SN.seq ?_
    refine SG.seq ?_
    refine SG.region ?_
    refine SL.val rfl rfl (fun w9 F9 S9 s => R.mv rfl) ?_
    refine SL.val rfl rfl (fun w9 F9 S9 s => R.mv rfl) ?_
    refine SL.step rfl rfl (CS.call rfl go11 (dtree_ok d1 g1 e1 cur1 ps1 l1) (by repeat (first | exact Sels.nil | apply Sels.cons | exact Sel.keep | exact Sel.here | apply Sel.there))) ?_
    rintro _ _ ⟨_, ⟨at1, nt1, ct1, Rt1, rfl, rfl, hct1, hRt1, rfl⟩, rfl⟩
    refine SL.n1 ?_
    have hlt0 : Rt0.length = (treeD l0).length := by rw [← hRt0, List.length_map]
    refine SL.step rfl rfl (CS.call rfl go12 (ddif_ok at0 at1 ct0 ct1 Rt0 Rt1 (by omega)) (by repeat (first | exact Sels.nil | apply Sels.cons | exact Sel.keep | exact Sel.here | apply Sel.there))) ?_
    rintro _ _ ⟨_, ⟨a10, c10, rfl, rfl, rfl⟩, rfl⟩
    refine SL.n1 ?_
    refine SL.val rfl rfl (fun w9 F9 S9 s => R.mv rfl) ?_
    refine SL.val rfl rfl (fun w9 F9 S9 s => R.ext rfl rfl) ?_
    refine SL.val rfl rfl (fun w9 F9 S9 s => R.ext rfl rfl) ?_
    refine SL.val rfl rfl (fun w9 F9 S9 s => R.as rfl) ?_
    refine SL.val rfl rfl (fun w9 F9 S9 s => R.as rfl) ?_
    refine SL.nil ?_
    rw [hRt0, hRt1]
    have hdl : (difF (treeD l0) (treeD l1)).1.length ≤ 64 := difF_len (by omega) ⟨by omega, by omega⟩
    refine SN.seq ?_
    refine SG.seq ?_
    refine SG.region ?_
    refine SL.step rfl rfl (CS.makeMap Int) ?_
    rintro _ _ ⟨b54, rfl, rfl⟩
    refine SL.val rfl rfl (fun w9 F9 S9 s => R.as rfl) ?_
    refine SL.nil ?_
    refine SN.seq ?_
    refine SG.seq ?_
    refine SG.seq ?_
    refine SG.region ?_
    refine SL.val rfl rfl (fun w9 F9 S9 s => R.mv rfl) ?_
    refine SL.val rfl rfl (fun w9 F9 S9 s => R.strB rfl (s.bs (l := l0) (by repeat (first | exact Sel.keep | exact Sel.here | apply Sel.there)))) ?_
    refine SL.val rfl rfl (fun w9 F9 S9 s => R.mv rfl) ?_
    refine SL.val rfl rfl (fun w9 F9 S9 s => R.strB rfl (s.bs (l := l1) (by repeat (first | exact Sel.keep | exact Sel.here | apply Sel.there)))) ?_
    refine SL.step rfl rfl (CS.callC rfl go17 (fun w9 F9 S9 s => rdiff_ok l0 l1 w9 (by omega) (by omega) hv01 hv11)) ?_
    rintro _ _ ⟨a59, c59, rfl, rfl, rfl⟩
    refine SL.val rfl rfl (fun w9 F9 S9 s => R.lenS rfl) ?_
    refine SL.val rfl rfl (fun w9 F9 S9 s => R.mv rfl) ?_
    refine SL.nil ?_
    have hfl : (Image.diffF l0 l1).length ≤ 64 := by have := Image.diffN_length l0 l1 (max (Image.dn l0) (Image.dn l1)); show (Image.diffN l0 l1 _).length ≤ _; omega
    refine SN.seq ?_
    refine SG.block ?_
    refine SG.loop (X := PrS) (fun y => [(5, .pointer (some ⟨d0, 0, none⟩)), (9, .slice at0 Rt0.length ct0), (10, .slice a10 (difF (treeD l0) (treeD l1)).1.length c10), (12, .map (some b54)), (59, .slice a59 (Image.diffF l0 l1).length c59), (60, .int .i64 ((Image.diffF l0 l1).length : Int)), (61, .int .i64 (y.i : Int))]) (fun y => [gm (κ := Int) b54 y.ps, own 3 1 a10 ((difF (treeD l0) (treeD l1)).1.length) c10 (nums ((difF (treeD l0) (treeD l1)).1)), own 3 1 a59 ((Image.diffF l0 l1).length) c59 (nums ((Image.diffF l0 l1))), sh (fun w => Cells w at0 (Rt0.map URow.val) ∧ ∀ r ∈ Rt0, URow.ok w r), sh (fun w => DiskL w d0 g0 e0 cur0 ps0 l0)]) (fun y => y.i ≤ (Image.diffF l0 l1).length ∧ ∀ j, j < y.i → ∀ z, (Image.diffF l0 l1)[j]? = some z → mget y.ps (z : Int) = some (.bool true)) (fun y => (Image.diffF l0 l1).length - y.i) (⟨0, []⟩) (Sub.cons rfl (Sub.cons rfl (Sub.cons rfl (Sub.cons rfl (Sub.cons rfl (Sub.cons rfl (Sub.cons rfl (Sub.nil _)))))))) ((Imp.sels (by repeat (first | exact Sels.nil | apply Sels.cons | exact Sel.keep | exact Sel.here | apply Sel.there)))) (⟨Nat.zero_le _, fun j hj => by cases hj⟩) ?_
    rintro ⟨i, ps⟩ ⟨hi, hmem⟩
    dsimp only at hi hmem
    show SG _ _ _ _ _ [(5, .pointer (some ⟨d0, 0, none⟩)), (9, .slice at0 Rt0.length ct0), (10, .slice a10 (difF (treeD l0) (treeD l1)).1.length c10), (12, .map (some b54)), (59, .slice a59 (Image.diffF l0 l1).length c59), (60, .int .i64 ((Image.diffF l0 l1).length : Int)), (61, .int .i64 (i : Int))] [gm (κ := Int) b54 ps, own 3 1 a10 ((difF (treeD l0) (treeD l1)).1.length) c10 (nums ((difF (treeD l0) (treeD l1)).1)), own 3 1 a59 ((Image.diffF l0 l1).length) c59 (nums ((Image.diffF l0 l1))), sh (fun w => Cells w at0 (Rt0.map URow.val) ∧ ∀ r ∈ Rt0, URow.ok w r), sh (fun w => DiskL w d0 g0 e0 cur0 ps0 l0)] _
    refine SG.seq ?_
    refine SG.region ?_
    refine SL.val rfl rfl (fun w9 F9 S9 s => R.lss rfl rfl) ?_
    refine SL.nil ?_
    refine SN.seq ?_
    refine SG.seq ?_
    refine SG.condP rfl (fun h2 => ?_) (fun h2 => ?_)
    · obtain ⟨z, hz⟩ : ∃ z, (Image.diffF l0 l1)[i]? = some z := ⟨_, List.getElem?_eq_getElem (by omega)⟩
      refine SG.fact (fun w9 F9 S9 s => nums_pt (s.ownC (show Sel _ (own 3 1 a59 ((Image.diffF l0 l1).length) c59 (nums ((Image.diffF l0 l1)))) _ from (by repeat (first | exact Sel.keep | exact Sel.here | apply Sel.there)))) hz) (fun hf9 => ?_)
      obtain ⟨q, hq⟩ := hf9
      refine SG.skip ?_
      refine SN.seq ?_
      refine SG.seq ?_
      refine SG.block ?_
      refine SG.seq ?_
      refine SG.region ?_
      refine SL.val rfl rfl (fun w9 F9 S9 s => R.idx rfl rfl (by omega) (by omega) q hq) ?_
      refine SL.val rfl rfl (fun w9 F9 S9 s => R.ld (v := .int .i64 (z : Int)) rfl (nums_ld (s.ownC (show Sel _ (own 3 1 a59 ((Image.diffF l0 l1).length) c59 (nums ((Image.diffF l0 l1)))) _ from (by repeat (first | exact Sel.keep | exact Sel.here | apply Sel.there)))) hq hz)) ?_
      refine SL.val rfl rfl (fun w9 F9 S9 s => R.as rfl) ?_
      refine SL.nil ?_
      refine SN.seq ?_
      refine SG.region ?_
      refine SL.val rfl rfl (fun w9 F9 S9 s => R.mv rfl) ?_
      refine SL.val rfl rfl (fun w9 F9 S9 s => R.mv rfl) ?_
      refine SL.step0 rfl (CS.mapUpd (κ := Int) rfl rfl rfl (by repeat (first | exact Sel.keep | exact Sel.here | apply Sel.there))) ?_
      rintro _ _ rfl
      refine SL.nil ?_
      refine SN.block ?_
      refine SN.seq ?_
      refine SG.region ?_
      refine SL.val rfl rfl (fun w9 F9 S9 s => R.add rfl rfl (by omega)) ?_
      refine SL.val rfl rfl (fun w9 F9 S9 s => R.mv rfl) ?_
      refine SL.nil ?_
      exact SN.again (⟨i + 1, mput ps (z : Int) (.bool true)⟩) (by show (Image.diffF l0 l1).length - (i + 1) < (Image.diffF l0 l1).length - i; omega) (Sub.cons rfl (Sub.cons rfl (Sub.cons rfl (Sub.cons rfl (Sub.cons rfl (Sub.cons rfl (Sub.cons rfl (Sub.nil _)))))))) ((Imp.sels (by repeat (first | exact Sels.nil | apply Sels.cons | exact Sel.keep | exact Sel.here | apply Sel.there)))) (⟨by show i + 1 ≤ (Image.diffF l0 l1).length; omega, put_mem hmem hz⟩)
    · obtain rfl : i = (Image.diffF l0 l1).length := by omega
      refine SG.exit _ rfl ?_
      refine SN.seq ?_
      refine SG.seq ?_
      refine SG.seq ?_
      refine SG.region ?_
      refine SL.val rfl rfl (fun w9 F9 S9 s => R.mv rfl) ?_
      refine SL.val rfl rfl (fun w9 F9 S9 s => R.lenS rfl) ?_
      refine SL.val rfl rfl (fun w9 F9 S9 s => R.mv rfl) ?_
      refine SL.nil ?_
      refine SN.seq ?_
      refine SG.block ?_
      refine SG.loop (X := Nat) (fun i => [(5, .pointer (some ⟨d0, 0, none⟩)), (9, .slice at0 Rt0.length ct0), (12, .map (some b54)), (68, .slice a10 (difF (treeD l0) (treeD l1)).1.length c10), (69, .int .i64 ((difF (treeD l0) (treeD l1)).1.length : Int)), (70, .int .i64 (i : Int))]) (fun i => [gm (κ := Int) b54 ps, own 3 1 a10 ((difF (treeD l0) (treeD l1)).1.length) c10 (nums ((difF (treeD l0) (treeD l1)).1)), sh (fun w => Cells w at0 (Rt0.map URow.val) ∧ ∀ r ∈ Rt0, URow.ok w r), sh (fun w => DiskL w d0 g0 e0 cur0 ps0 l0)]) (fun i => i ≤ (difF (treeD l0) (treeD l1)).1.length) (fun i => (difF (treeD l0) (treeD l1)).1.length - i) (0) (Sub.cons rfl (Sub.cons rfl (Sub.cons rfl (Sub.cons rfl (Sub.cons rfl (Sub.cons rfl (Sub.nil _))))))) ((Imp.sels (by repeat (first | exact Sels.nil | apply Sels.cons | exact Sel.keep | exact Sel.here | apply Sel.there)))) (Nat.zero_le _) ?_
      intro i hi
      show SG _ _ _ _ _ [(5, .pointer (some ⟨d0, 0, none⟩)), (9, .slice at0 Rt0.length ct0), (12, .map (some b54)), (68, .slice a10 (difF (treeD l0) (treeD l1)).1.length c10), (69, .int .i64 ((difF (treeD l0) (treeD l1)).1.length : Int)), (70, .int .i64 (i : Int))] [gm (κ := Int) b54 ps, own 3 1 a10 ((difF (treeD l0) (treeD l1)).1.length) c10 (nums ((difF (treeD l0) (treeD l1)).1)), sh (fun w => Cells w at0 (Rt0.map URow.val) ∧ ∀ r ∈ Rt0, URow.ok w r), sh (fun w => DiskL w d0 g0 e0 cur0 ps0 l0)] _
      refine SG.seq ?_
      refine SG.region ?_
      refine SL.val rfl rfl (fun w9 F9 S9 s => R.lss rfl rfl) ?_
      refine SL.nil ?_
      refine SN.seq ?_
      refine SG.seq ?_
      refine SG.condP rfl (fun h3 => ?_) (fun h3 => ?_)
      · obtain ⟨z, hz⟩ : ∃ z, (difF (treeD l0) (treeD l1)).1[i]? = some z := ⟨_, List.getElem?_eq_getElem (by omega)⟩
        refine SG.fact (fun w9 F9 S9 s => nums_pt (s.ownC (show Sel _ (own 3 1 a10 ((difF (treeD l0) (treeD l1)).1.length) c10 (nums ((difF (treeD l0) (treeD l1)).1))) _ from (by repeat (first | exact Sel.keep | exact Sel.here | apply Sel.there)))) hz) (fun hf9 => ?_)
        obtain ⟨q, hq⟩ := hf9
        obtain ⟨j9, hj9⟩ := List.getElem?_of_mem (dif_in (x := l0) (y := l1) (by omega) (by omega) (List.mem_of_getElem? hz))
        have hgz := hmem j9 (List.getElem?_eq_some_iff.1 hj9).1 z hj9
        refine SG.skip ?_
        refine SN.seq ?_
        refine SG.seq ?_
        refine SG.block ?_
        refine SG.seq ?_
        refine SG.region ?_
        refine SL.val rfl rfl (fun w9 F9 S9 s => R.idx rfl rfl (by omega) (by omega) q hq) ?_
        refine SL.val rfl rfl (fun w9 F9 S9 s => R.ld (v := .int .i64 (z : Int)) rfl (nums_ld (s.ownC (show Sel _ (own 3 1 a10 ((difF (treeD l0) (treeD l1)).1.length) c10 (nums ((difF (treeD l0) (treeD l1)).1))) _ from (by repeat (first | exact Sel.keep | exact Sel.here | apply Sel.there)))) hq hz)) ?_
        refine SL.val rfl rfl (fun w9 F9 S9 s => R.as rfl) ?_
        refine SL.nil ?_
        refine SN.seq ?_
        refine SG.seq ?_
        refine SG.region ?_
        refine SL.val rfl rfl (fun w9 F9 S9 s => R.mv rfl) ?_
        refine SL.val rfl rfl (fun w9 F9 S9 s => R.mv rfl) ?_
        refine SL.val rfl rfl (fun w9 F9 S9 s => R.look (κ := Int) (k := (z : Int)) rfl rfl (s.gm (κ := Int) (by repeat (first | exact Sel.keep | exact Sel.here | apply Sel.there)))) ?_
        rw [hgz]
        refine SL.be 76 rfl (show _ = Value.bool true from rfl) ?_
        refine SL.val rfl rfl (fun w9 F9 S9 s => R.not rfl) ?_
        refine SL.nil ?_
        refine SN.seq ?_
        refine SG.condF rfl ?_
        refine SG.skip ?_
        refine SN.block ?_
        refine SN.seq ?_
        refine SG.region ?_
        refine SL.val rfl rfl (fun w9 F9 S9 s => R.add rfl rfl (by omega)) ?_
        refine SL.val rfl rfl (fun w9 F9 S9 s => R.mv rfl) ?_
        refine SL.nil ?_
        exact SN.again (i + 1) (by show (difF (treeD l0) (treeD l1)).1.length - (i + 1) < (difF (treeD l0) (treeD l1)).1.length - i; omega) (Sub.cons rfl (Sub.cons rfl (Sub.cons rfl (Sub.cons rfl (Sub.cons rfl (Sub.cons rfl (Sub.nil _))))))) ((Imp.sels (by repeat (first | exact Sels.nil | apply Sels.cons | exact Sel.keep | exact Sel.here | apply Sel.there)))) (by show i + 1 ≤ (difF (treeD l0) (treeD l1)).1.length; omega)
      · refine SG.exit _ rfl ?_
        refine SN.seq ?_
        refine SG.seq ?_
        refine SG.seq ?_
        have hz0 := treeD_zero (x := l0) (by omega)
        obtain ⟨r0, hr0, hr0l⟩ : ∃ r, Rt0[0]? = some r ∧ r.l = sumsT l0 (l0.length / 64) := by
          rw [← hRt0, List.getElem?_map] at hz0
          cases hq : Rt0[0]? with
          | none => rw [hq] at hz0; cases hz0
          | some r => rw [hq] at hz0; exact ⟨r, rfl, by simpa using hz0⟩
        have hr0n : r0.l.length = l0.length / 64 := by rw [hr0l, sumsT_len]
        have hdl9 : (Rt0.take (Rt0.length - 1)).map URow.l = (treeD l0).dropLast := by rw [List.map_take, hRt0, List.dropLast_eq_take, hlt0]
        have hRp : 0 < Rt0.length := (List.getElem?_eq_some_iff.1 hr0).1
        refine SG.region ?_
        refine SL.val rfl rfl (fun w9 F9 S9 s => R.mv rfl) ?_
        refine SL.step rfl rfl (CS.callR rfl go18 (fun w9 F9 S9 s => iblocks_E (some ⟨d0, 0, none⟩) l0 w9 (disk_o (s.sh (p := fun w => DiskL w d0 g0 e0 cur0 ps0 l0) (by repeat (first | exact Sel.keep | exact Sel.here | apply Sel.there)))))) ?_
        rintro _ _ ⟨rfl, rfl⟩
        refine SL.val rfl rfl (fun w9 F9 S9 s => R.mv rfl) ?_
        refine SL.nil ?_
        refine SN.seq ?_
        refine SG.block ?_
        refine SG.loop (X := Nat) (fun k => [(5, .pointer (some ⟨d0, 0, none⟩)), (9, .slice at0 Rt0.length ct0), (80, .int .i64 (Image.dn l0 : Int)), (81, .int .i64 (k : Int))]) (fun k => [sh (fun w => Cells w at0 (Rt0.map URow.val) ∧ ∀ r ∈ Rt0, URow.ok w r), sh (fun w => DiskL w d0 g0 e0 cur0 ps0 l0)]) (fun k => k ≤ Image.dn l0) (fun k => Image.dn l0 - k) (0) (Sub.cons rfl (Sub.cons rfl (Sub.cons rfl (Sub.cons rfl (Sub.nil _))))) ((Imp.sels (by repeat (first | exact Sels.nil | apply Sels.cons | exact Sel.keep | exact Sel.here | apply Sel.there)))) (Nat.zero_le _) ?_
        intro k hk
        show SG _ _ _ _ _ [(5, .pointer (some ⟨d0, 0, none⟩)), (9, .slice at0 Rt0.length ct0), (80, .int .i64 (Image.dn l0 : Int)), (81, .int .i64 (k : Int))] [sh (fun w => Cells w at0 (Rt0.map URow.val) ∧ ∀ r ∈ Rt0, URow.ok w r), sh (fun w => DiskL w d0 g0 e0 cur0 ps0 l0)] _
        refine SG.seq ?_
        refine SG.region ?_
        refine SL.val rfl rfl (fun w9 F9 S9 s => R.lss rfl rfl) ?_
        refine SL.nil ?_
        refine SN.seq ?_
        refine SG.seq ?_
        refine SG.condP rfl (fun h5 => ?_) (fun h5 => ?_)
        · have hpl := proofF_len (treeD l0).dropLast k
          rw [List.length_dropLast] at hpl
          have hpu := proof_up (x := l0) (by omega) (by omega) (show k < l0.length / 64 by omega)
          have hpo : okU (proofF (treeD l0).dropLast k) := proofF_ok (fun r hr => treeD_ok l0 r (List.dropLast_subset _ hr)) k
          refine SG.skip ?_
          refine SN.seq ?_
          refine SG.seq ?_
          refine SG.block ?_
          refine SG.seq ?_
          refine SG.region ?_
          refine SL.val rfl rfl (fun w9 F9 S9 s => R.mv rfl) ?_
          refine SL.val rfl rfl (fun w9 F9 S9 s => R.as rfl) ?_
          refine SL.nil ?_
          refine SN.seq ?_
          refine SG.seq ?_
          refine SG.region ?_
          refine SL.val rfl rfl (fun w9 F9 S9 s => R.mv rfl) ?_
          refine SL.val rfl rfl (fun w9 F9 S9 s => R.mv rfl) ?_
          refine SL.step rfl rfl (CS.call rfl go19 (igetS d0 g0 e0 cur0 ps0 l0 k (by omega)) (by repeat (first | exact Sels.nil | apply Sels.cons | exact Sel.keep | exact Sel.here | apply Sel.there))) ?_
          rintro _ _ ⟨_, ⟨a18, c18, rfl, rfl, rfl⟩, rfl⟩
          refine SL.n2 ?_
          refine SL.val rfl rfl (fun w9 F9 S9 s => R.mv rfl) ?_
          refine SL.val rfl rfl (fun w9 F9 S9 s => R.ext rfl rfl) ?_
          refine SL.val rfl rfl (fun w9 F9 S9 s => R.ext rfl rfl) ?_
          refine SL.val rfl rfl (fun w9 F9 S9 s => R.as rfl) ?_
          refine SL.val rfl rfl (fun w9 F9 S9 s => R.as rfl) ?_
          refine SL.nil ?_
          refine SN.seq ?_
          refine SG.seq ?_
          refine SG.imp (Imp.ownBs (show Sel _ (own 5 1 a18 64 c18 (vbs (Image.blk l0 k))) _ from (by repeat (first | exact Sel.keep | exact Sel.here | apply Sel.there)))) ?_
          refine SG.region ?_
          refine SL.val rfl rfl (fun w9 F9 S9 s => R.mv rfl) ?_
          refine SL.step rfl rfl (CS.call rfl go13 (droot_ok d0 g0 e0 cur0 ps0 l0) (by repeat (first | exact Sels.nil | apply Sels.cons | exact Sel.keep | exact Sel.here | apply Sel.there))) ?_
          rintro _ _ ⟨_, ⟨rfl, rfl⟩, rfl⟩
          refine SL.n0 ?_
          refine SL.val rfl rfl (fun w9 F9 S9 s => R.mv rfl) ?_
          refine SL.step rfl rfl (CS.callR rfl go18 (fun w9 F9 S9 s => iblocks_E (some ⟨d0, 0, none⟩) l0 w9 (disk_o (s.sh (p := fun w => DiskL w d0 g0 e0 cur0 ps0 l0) (by repeat (first | exact Sel.keep | exact Sel.here | apply Sel.there)))))) ?_
          rintro _ _ ⟨rfl, rfl⟩
          refine SL.val rfl rfl (fun w9 F9 S9 s => R.mv rfl) ?_
          refine SL.val rfl rfl (fun w9 F9 S9 s => R.mv rfl) ?_
          refine SL.val rfl rfl (fun w9 F9 S9 s => R.mv rfl) ?_
          refine SL.val rfl rfl (fun w9 F9 S9 s => R.mv rfl) ?_
          refine SL.step rfl rfl (CS.call rfl go21 (dproof_ok at0 ct0 Rt0 r0 k hr0 (by omega) (by omega) (by omega) hct0) (by repeat (first | exact Sels.nil | apply Sels.cons | exact Sel.keep | exact Sel.here | apply Sel.there))) ?_
          rintro _ _ ⟨_, ⟨a98, c98, rfl, rfl, rfl⟩, rfl⟩
          refine SL.n1 ?_
          rw [hdl9]
          refine SL.fact (fun w9 F9 S9 s => s.ownL (show Sel _ (own 25 1 a98 ((proofF (treeD l0).dropLast k).length) c98 (us (proofF (treeD l0).dropLast k))) _ from (by repeat (first | exact Sel.keep | exact Sel.here | apply Sel.there)))) (fun hf9 => ?_)
          obtain ⟨_, hc98⟩ := hf9
          refine SL.imp (Imp.ownSh (show Sel _ (own 25 1 a98 ((proofF (treeD l0).dropLast k).length) c98 (us (proofF (treeD l0).dropLast k))) _ from (by repeat (first | exact Sel.keep | exact Sel.here | apply Sel.there))) (p := fun w => Cells w a98 (us (proofF (treeD l0).dropLast k))) (fun w h => h)) ?_
          refine SL.step rfl rfl (CS.call rfl go20 (dholds_ok a18 64 c18 (Image.blk l0 k) (rootD l0) (Image.dn l0) k a98 c98 (proofF (treeD l0).dropLast k) (by decide) hv02 hv03 (by omega) hpo (by omega) hc98) (by repeat (first | exact Sels.nil | apply Sels.cons | exact Sel.keep | exact Sel.here | apply Sel.there))) ?_
          rintro _ _ ⟨_, ⟨rfl, rfl⟩, rfl⟩
          refine SL.n0 ?_
          rw [show upF 64 (Image.dn l0) k (sumN (Image.blk l0 k)) (proofF (treeD l0).dropLast k) = some (rootD l0, []) from hpu]
          refine SL.val rfl rfl (fun w9 F9 S9 s => R.not rfl) ?_
          refine SL.nil ?_
          refine SN.seq ?_
          refine SG.condB rfl (fun h6 => ?_) (fun h6 => ?_)
          · exfalso; simp at h6
          · refine SG.skip ?_
            refine SN.block ?_
            refine SN.seq ?_
            refine SG.region ?_
            refine SL.val rfl rfl (fun w9 F9 S9 s => R.add rfl rfl (by omega)) ?_
            refine SL.val rfl rfl (fun w9 F9 S9 s => R.mv rfl) ?_
            refine SL.nil ?_
            exact SN.again (k + 1) (by show Image.dn l0 - (k + 1) < Image.dn l0 - k; omega) (Sub.cons rfl (Sub.cons rfl (Sub.cons rfl (Sub.cons rfl (Sub.nil _))))) ((Imp.sels (by repeat (first | exact Sels.nil | apply Sels.cons | exact Sel.keep | exact Sel.here | apply Sel.there)))) (by show k + 1 ≤ Image.dn l0; omega)
        · refine SG.exit _ rfl ?_
          refine SN.seq ?_
          refine SG.seq ?_
          refine SG.region ?_
          refine SL.val rfl rfl (fun w9 F9 S9 s => R.mv rfl) ?_
          refine SL.step rfl rfl (CS.call rfl go21 (dproof_out at0 ct0 Rt0 r0 (-1) hr0 (.inl (by decide)) (by omega)) (by repeat (first | exact Sels.nil | apply Sels.cons | exact Sel.keep | exact Sel.here | apply Sel.there))) ?_
          rintro _ _ ⟨_, ⟨rfl, rfl⟩, rfl⟩
          refine SL.n0 ?_
          refine SL.val rfl rfl (fun w9 F9 S9 s => R.lenS rfl) ?_
          refine SL.val rfl rfl (fun w9 F9 S9 s => R.eqI rfl rfl) ?_
          refine SL.val rfl rfl (fun w9 F9 S9 s => R.mv rfl) ?_
          refine SL.isT 106 rfl (decide_eq_true rfl) ?_
          refine SL.val rfl rfl (fun w9 F9 S9 s => R.mv rfl) ?_
          refine SL.val rfl rfl (fun w9 F9 S9 s => R.mv rfl) ?_
          refine SL.step rfl rfl (CS.callR rfl go18 (fun w9 F9 S9 s => iblocks_E (some ⟨d0, 0, none⟩) l0 w9 (disk_o (s.sh (p := fun w => DiskL w d0 g0 e0 cur0 ps0 l0) (by repeat (first | exact Sel.keep | exact Sel.here | apply Sel.there)))))) ?_
          rintro _ _ ⟨rfl, rfl⟩
          refine SL.step rfl rfl (CS.call rfl go21 (dproof_out at0 ct0 Rt0 r0 (Image.dn l0 : Int) hr0 (.inr (by omega)) (by omega)) (by repeat (first | exact Sels.nil | apply Sels.cons | exact Sel.keep | exact Sel.here | apply Sel.there))) ?_
          rintro _ _ ⟨_, ⟨rfl, rfl⟩, rfl⟩
          refine SL.n0 ?_
          refine SL.val rfl rfl (fun w9 F9 S9 s => R.lenS rfl) ?_
          refine SL.val rfl rfl (fun w9 F9 S9 s => R.eqI rfl rfl) ?_
          first | refine SL.val rfl rfl (fun w9 F9 S9 s => R.pickT rfl rfl) ?_ | refine SL.val rfl rfl (fun w9 F9 S9 s => R.pickF rfl rfl) ?_
          refine SL.val rfl rfl (fun w9 F9 S9 s => R.as rfl) ?_
          refine SL.nil ?_
          refine SN.seq ?_
          exact SG.ret1 rfl rfl ((Imp.sels (by repeat (first | exact Sels.nil | apply Sels.cons | exact Sel.keep | exact Sel.here | apply Sel.there)))) (congrArg Value.bool (decide_eq_true rfl))

end Go.Proofs.Ytiggahlnplaciaa
