/-
  Texts of this claim, put together.
-/
import Derived.Test.YthpolibakkmmeaaCtlCLz3
/-
  The walks of package control.
-/
set_option linter.unusedVariables false
set_option linter.unusedSimpArgs false
namespace Go.Proofs.Ythpolibakkmmeaa
open Go Brv Brv.Crc Brv.Pack Brv.Frame Brv.Image Brv.Dev Brv.Control
theorem u64_pos (z : Int) : 0 ≤ IntKind.u64.wrap z := by
  simp only [IntKind.wrap, IntKind.bits, IntKind.signed]
  simp
  omega
theorem controlCrash_ok (a b : Ctl) (ka : Option Addr) (kc : Nat) (ks : List Bool) (w : World) (ha : InC a) (hb : InC b) (hK : Cells w ka (ks.map Value.bool)) (hkl : ks.length ≤ 140737488351232) : Meets Try.prog 12 [.agg (ctlC a), .agg (ctlC b), .slice ka ks.length kc] w (fun v w' => v = .bool true ∧ Ext [] w w') := by
  refine Meets.enter Try.func12 rfl 124 rfl (Nat.le_of_ble_eq_true rfl) ?_
  have E := Ext.refl [] w
  refine G.seq ?_
  refine G.region ?_
  refine L.do rfl rfl (R.box rfl) ?_
  rintro _ w1 ⟨b3, rfl, hb3, hs1, e1, B3⟩
  replace B3 : Blk w1 b3 (ctlC a) 121 (0, 0) := B3
  replace E := E.trans0 e1
  refine L.do rfl rfl (R.box rfl) ?_
  rintro _ w2 ⟨b4, rfl, hb4, hs2, e2, B4⟩
  replace B4 : Blk w2 b4 (ctlC b) 121 (0, 0) := B4
  replace E := E.trans0 e2
  replace B3 := B3.ext0 e2
  have hb34 : b3 ≠ b4 := by omega
  refine L.val rfl rfl (R.as rfl) ?_
  refine L.nil ?_
  refine N.seq ?_
  refine G.seq ?_
  refine G.seq ?_
  refine G.region ?_
  refine L.callF rfl rfl rfl go71 (control_first_ok _) ?_
  rintro _ w0 ⟨rfl, e0⟩
  replace E := E.trans0 e0
  replace B3 := B3.ext0 e0
  replace B4 := B4.ext0 e0
  refine L.val rfl rfl (R.not rfl) ?_
  refine L.nil ?_
  refine N.seq ?_
  refine G.condF rfl ?_
  refine G.skip ?_
  refine N.seq ?_
  refine G.seq ?_
  refine G.region ?_
  refine L.val rfl rfl (R.mv rfl) ?_
  refine L.val rfl rfl (R.lenS rfl) ?_
  refine L.val rfl rfl (R.conv rfl (IntKind.u64.wrap (ks.length : Int)) rfl) ?_
  refine L.val rfl rfl (R.as rfl) ?_
  refine L.nil ?_
  refine N.seq ?_
  refine G.seq ?_
  refine G.seq ?_
  refine G.region ?_
  refine L.val rfl rfl (R.mv rfl) ?_
  refine L.val rfl rfl (R.lenS rfl) ?_
  refine L.val rfl rfl (R.mv rfl) ?_
  refine L.nil ?_
  refine N.seq ?_
  refine G.block ?_
  refine G.loop (X := Nat × Int) (fun s => [(2, .slice ka ks.length kc), (3, .pointer (some ⟨b3, 0, none⟩)), (4, .pointer (some ⟨b4, 0, none⟩)), (24, .slice ka ks.length kc), (25, .int .i64 (ks.length : Int)), (26, .int .i64 (s.1 : Int)), (7, .int .u64 s.2)]) (fun s w' => s.1 ≤ ks.length ∧ 0 ≤ s.2 ∧ w' = w0) (fun s => ks.length - s.1) ((0, IntKind.u64.wrap (ks.length : Int))) (Sub.cons rfl (Sub.cons rfl (Sub.cons rfl (Sub.cons rfl (Sub.cons rfl (Sub.cons rfl (Sub.cons rfl (Sub.nil _)))))))) ⟨Nat.zero_le _, u64_pos _, rfl⟩ ?_
  rintro ⟨i, z⟩ w1 ⟨hi, hz, rfl⟩
  dsimp only at hi hz
  refine G.sub [(2, .slice ka ks.length kc), (3, .pointer (some ⟨b3, 0, none⟩)), (4, .pointer (some ⟨b4, 0, none⟩)), (24, .slice ka ks.length kc), (25, .int .i64 (ks.length : Int)), (26, .int .i64 (i : Int)), (7, .int .u64 z)] (Sub.cons rfl (Sub.cons rfl (Sub.cons rfl (Sub.cons rfl (Sub.cons rfl (Sub.cons rfl (Sub.cons rfl (Sub.nil _)))))))) ?_
  refine G.seq ?_
  refine G.region ?_
  refine L.val rfl rfl (R.lss rfl rfl) ?_
  refine L.nil ?_
  refine N.seq ?_
  refine G.seq ?_
  refine G.condP rfl (fun h1 => ?_) (fun h1 => ?_)
  · have hil : i < ks.length := by omega
    obtain ⟨kb, hkb⟩ : ∃ kb, ks[i]? = some kb := ⟨_, List.getElem?_eq_getElem hil⟩
    obtain ⟨pk, hpk, hck⟩ := hK i (.bool kb) (by rw [List.getElem?_map, hkb]; rfl)
    refine G.skip ?_
    refine N.seq ?_
    refine G.seq ?_
    refine G.block ?_
    refine G.seq ?_
    refine G.region ?_
    refine L.val rfl rfl (R.mv rfl) ?_
    refine L.val rfl rfl (R.idx rfl rfl (by omega) (by omega) pk hpk) ?_
    refine L.val rfl rfl (R.ld rfl (v := .bool kb) (by simpa using cell?_ext0' hck E)) ?_
    refine L.val rfl rfl (R.as rfl) ?_
    refine L.val rfl rfl (R.as rfl) ?_
    refine L.nil ?_
    refine N.seq ?_
    refine G.seq ?_
    refine G.region ?_
    refine L.val rfl rfl (R.mv rfl) ?_
    refine L.nil ?_
    refine N.seq ?_
    refine G.condB rfl (fun h2 => ?_) (fun h2 => ?_)
    · refine G.region ?_
      refine L.val rfl rfl (R.mv rfl) ?_
      refine L.val rfl rfl (R.mv rfl) ?_
      refine L.val rfl rfl (R.conv rfl (IntKind.u64.wrap (i : Int)) rfl) ?_
      refine L.val rfl rfl (R.addW rfl rfl _ rfl) ?_
      refine L.val rfl rfl (R.as rfl) ?_
      refine L.nil ?_
      refine N.block ?_
      refine N.seq ?_
      refine G.region ?_
      refine L.val rfl rfl (R.add rfl rfl (by omega)) ?_
      refine L.val rfl rfl (R.mv rfl) ?_
      refine L.nil ?_
      first
        | exact N.again (i + 1, z) (by show ks.length - (i + 1) < ks.length - i; omega) (Sub.cons rfl (Sub.cons rfl (Sub.cons rfl (Sub.cons rfl (Sub.cons rfl (Sub.cons rfl (Sub.cons rfl (Sub.nil _)))))))) ⟨by show i + 1 ≤ ks.length; omega, hz, rfl⟩
        | exact N.again (i + 1, _) (by show ks.length - (i + 1) < ks.length - i; omega) (Sub.cons rfl (Sub.cons rfl (Sub.cons rfl (Sub.cons rfl (Sub.cons rfl (Sub.cons rfl (Sub.cons rfl (Sub.nil _)))))))) ⟨by show i + 1 ≤ ks.length; omega, u64_pos _, rfl⟩
    · refine G.skip ?_
      refine N.block ?_
      refine N.seq ?_
      refine G.region ?_
      refine L.val rfl rfl (R.add rfl rfl (by omega)) ?_
      refine L.val rfl rfl (R.mv rfl) ?_
      refine L.nil ?_
      first
        | exact N.again (i + 1, z) (by show ks.length - (i + 1) < ks.length - i; omega) (Sub.cons rfl (Sub.cons rfl (Sub.cons rfl (Sub.cons rfl (Sub.cons rfl (Sub.cons rfl (Sub.cons rfl (Sub.nil _)))))))) ⟨by show i + 1 ≤ ks.length; omega, hz, rfl⟩
        | exact N.again (i + 1, _) (by show ks.length - (i + 1) < ks.length - i; omega) (Sub.cons rfl (Sub.cons rfl (Sub.cons rfl (Sub.cons rfl (Sub.cons rfl (Sub.cons rfl (Sub.cons rfl (Sub.nil _)))))))) ⟨by show i + 1 ≤ ks.length; omega, u64_pos _, rfl⟩
  · clear hi
    refine G.exit _ rfl ?_
    refine N.seq ?_
    refine G.seq ?_
    refine G.region ?_
    refine L.callF rfl rfl rfl go78 (dnew_ok 3 _ (by decide) (by decide)) ?_
    rintro _ w2 ⟨d, S, rfl, e2, D, hS⟩
    have hE0 := E.size
    replace E := E.trans0 e2
    have hS0 : ∀ g ∈ S, w1.heap.size ≤ g := hS
    replace hS : ∀ g ∈ S, w.heap.size ≤ g := fun g hg => Nat.le_trans hE0 (hS g hg)
    have hSl := D.lt
    have n3 : b3 ∉ S := fun h => by have := B3.lt; have := hS0 _ h; omega
    have n4 : b4 ∉ S := fun h => by have := B4.lt; have := hS0 _ h; omega
    replace B3 := B3.ext0 e2
    replace B4 := B4.ext0 e2
    refine L.val rfl rfl (R.mv rfl) ?_
    refine L.val rfl rfl (R.ext rfl rfl) ?_
    refine L.val rfl rfl (R.ext rfl rfl) ?_
    refine L.val rfl rfl (R.as rfl) ?_
    refine L.val rfl rfl (R.as rfl) ?_
    refine L.nil ?_
    refine N.seq ?_
    refine G.seq ?_
    by_cases hA : a.1 < 2305843009213693952 ∧ okC (nextC a)
    · have hwc : writeCV (newV 3) 3 0 a = (cleanV (laid (List.replicate (64 * 3) 0) (slot (nextC a)) (ctlS (nextC a))) 2, nextC a, 0) := by
        have h9 := write_clean (st := List.replicate (64 * 3) 0) (calls := 0) (p := 0) (N := 3) (c := a) (by rw [List.length_replicate]) (by decide) hA.1 hA.2
        rw [Nat.zero_add] at h9
        exact h9
      have hg1 : (nextC a).1 = a.1 + 1 := rfl
      have hgb := hA.2.1
      refine G.region ?_
      refine L.val rfl rfl (R.mv rfl) ?_
      refine L.val rfl rfl (R.ldBN rfl B3 rfl) ?_
      refine L.callF rfl rfl rfl go80 (cwrite_ok d (newV 3) 3 S 0 a _ D ha (by decide) (by decide)) ?_
      rintro _ w3 ⟨rfl, S1, g3, D1⟩
      rw [hwc] at D1 ⊢
      have hEw := E.size
      have hl3 := B3.lt
      have hl4 := B4.lt
      replace B3 := B3.ext g3.1 n3
      replace B4 := B4.ext g3.1 n4
      replace E := E.fresh g3.1 hS
      replace hS := g3.fresh hS hEw
      replace n3 : b3 ∉ S1 := g3.apart (Z := [b3]) (by simpa using n3) (by simpa using hl3) b3 (by simp)
      replace n4 : b4 ∉ S1 := g3.apart (Z := [b4]) (by simpa using n4) (by simpa using hl4) b4 (by simp)
      replace D := D1
      clear D1
      refine L.val rfl rfl (R.mv rfl) ?_
      refine L.val rfl rfl (R.ext rfl rfl) ?_
      refine L.val rfl rfl (R.ext rfl rfl) ?_
      refine L.do rfl rfl (R.alloc) ?_
      rintro _ w4 ⟨b12, rfl, hb12, hs4, e4, B12⟩
      have hE4 := E.size
      have hlt4 := D.lt
      have hl4_B3 := B3.lt
      have hl4_B4 := B4.lt
      replace E := E.trans0 e4
      replace B3 := B3.ext0 e4
      replace B4 := B4.ext0 e4
      replace D := D.ext0 e4
      refine L.set rfl (R.stN rfl rfl B12 rfl (Nat.le_refl 7) (ctlC_one _)) ?_
      rintro w5 ⟨e5, hs5, B12x⟩
      replace B3 := B3.ext e5 (by simp; omega)
      replace B4 := B4.ext e5 (by simp; omega)
      replace D := D.ext e5 (fun y hy hm => by have h9 := hlt4 _ hy; rw [List.mem_singleton.1 hm] at h9; omega)
      replace B12 : Blk w5 b12 (ctlC (nextC a)) 121 (0, 0) := by rw [all_stored (by rfl)] at B12x; exact B12x
      replace E := E.trans e5 (M := []) (by simp) (by intro x hx; rw [List.mem_singleton.1 hx]; exact .inr (by omega))
      refine L.val rfl rfl (R.as rfl) ?_
      refine L.nil ?_
      refine N.seq ?_
      refine G.seq ?_
      refine G.region ?_
      refine L.val rfl rfl (R.ldBN rfl B3 rfl) ?_
      refine L.do rfl rfl (R.alloc) ?_
      rintro _ w6 ⟨b14, rfl, hb14, hs6, e6, B14⟩
      have hE6 := E.size
      have hlt6 := D.lt
      have hl6_B3 := B3.lt
      have hl6_B4 := B4.lt
      have hl6_B12 := B12.lt
      replace E := E.trans0 e6
      replace B3 := B3.ext0 e6
      replace B4 := B4.ext0 e6
      replace B12 := B12.ext0 e6
      replace D := D.ext0 e6
      refine L.set rfl (R.stN rfl rfl B14 rfl (Nat.le_refl 7) (ctlC_one _)) ?_
      rintro w7 ⟨e7, hs7, B14x⟩
      replace B3 := B3.ext e7 (by simp; omega)
      replace B4 := B4.ext e7 (by simp; omega)
      replace B12 := B12.ext e7 (by simp; omega)
      replace D := D.ext e7 (fun y hy hm => by have h9 := hlt6 _ hy; rw [List.mem_singleton.1 hm] at h9; omega)
      replace B14 : Blk w7 b14 (ctlC a) 121 (0, 0) := by rw [all_stored (by rfl)] at B14x; exact B14x
      replace E := E.trans e7 (M := []) (by simp) (by intro x hx; rw [List.mem_singleton.1 hx]; exact .inr (by omega))
      refine L.nil ?_
      refine N.seq ?_
      refine G.seq ?_
      refine G.region ?_
      refine L.val rfl rfl (R.fld rfl) ?_
      refine L.val rfl rfl (R.ldB (v := .int .i64 a.1) rfl B3 rfl) ?_
      refine L.val rfl rfl (R.max rfl rfl (max a.1 (-1)) (by split <;> omega)) ?_
      refine L.val rfl rfl (R.min rfl rfl (min (max a.1 (-1)) 4611686018427387904) (by split <;> omega)) ?_
      refine L.val rfl rfl (R.add rfl rfl (by omega)) ?_
      refine L.val rfl rfl (R.fld rfl) ?_
      refine L.set rfl (R.st rfl rfl B14 (by show 0 < 7; decide) rfl) ?_
      rintro w8 ⟨e8, hs8, B14x⟩
      replace D := D.ext e8 (fun y hy hm => by have h9 := hlt6 _ hy; rw [List.mem_singleton.1 hm] at h9; omega)
      replace B3 := B3.ext e8 (by simp; omega)
      replace B4 := B4.ext e8 (by simp; omega)
      replace B12 := B12.ext e8 (by simp; omega)
      replace B14 : Blk w8 b14 (ctlC (min (max a.1 (-1)) 4611686018427387904 + 1, a.2)) 121 (0, 0) := B14x
      replace E := E.trans e8 (M := []) (by simp) (by intro x hx; rw [List.mem_singleton.1 hx]; exact .inr (by omega))
      have n12 : b12 ∉ S1 := fun h => by have h9 := hlt4 _ h; omega
      refine L.nil ?_
      refine N.seq ?_
      refine G.seq ?_
      refine G.seq ?_
      refine G.region ?_
      refine L.val rfl rfl (R.mv rfl) ?_
      refine L.val rfl rfl (R.neI rfl rfl) ?_
      refine L.nil ?_
      refine N.seq ?_
      refine G.condF rfl ?_
      refine G.skip ?_
      refine N.seq ?_
      refine G.seq ?_
      refine G.region ?_
      refine L.val rfl rfl (R.fld rfl) ?_
      refine L.val rfl rfl (R.ldB (v := .int .i64 (nextC a).1) rfl B12 rfl) ?_
      refine L.val rfl rfl (R.fld rfl) ?_
      refine L.set rfl (R.st rfl rfl B4 (by show 0 < 7; decide) rfl) ?_
      rintro w10 ⟨e10, hs10, B4x⟩
      replace D := D.ext e10 (fun y hy hm => by rw [List.mem_singleton.1 hm] at hy; exact n4 hy)
      replace B3 := B3.ext e10 (by simp; omega)
      replace B12 := B12.ext e10 (by simp; omega)
      replace B14 := B14.ext e10 (by simp; omega)
      replace B4 : Blk w10 b4 (ctlC ((nextC a).1, b.2)) 121 (0, 0) := B4x
      replace E := E.trans e10 (M := []) (by simp) (by intro x hx; rw [List.mem_singleton.1 hx]; exact .inr (by omega))
      obtain ⟨kk, hkk⟩ : ∃ kk : Nat, (kk : Int) = z % 4 := ⟨(z % 4).toNat, by omega⟩
      obtain ⟨v3, y, f, zc, hw3, hw3l, hr3, hcase⟩ := crash_play (a := a) (b := b) (ks := ks) (k := kk) hA.1 hA.2
      have hbI : InC ((nextC a).1, b.2) := ⟨⟨by show (-9223372036854775808 : Int) ≤ (nextC a).1; omega, by show (nextC a).1 ≤ _; omega⟩, hb.e, hb.a, hb.t, hb.n, hb.r, hb.l⟩
      refine L.nil ?_
      refine N.seq ?_
      refine G.seq ?_
      refine G.region ?_
      refine L.val rfl rfl (R.mv rfl) ?_
      refine L.val rfl rfl (R.mv rfl) ?_
      refine L.val rfl rfl (R.rem rfl rfl (by omega) (by omega)) ?_
      refine L.val rfl rfl (R.conv rfl (kk : Int) (by rw [wrap_i64 (by omega)]; omega)) ?_
      refine L.callF rfl rfl rfl go82 (dlimit_ok d _ 3 S1 (kk : Int) _ D (by omega)) ?_
      rintro _ w11 ⟨e11, D1⟩
      have hEw := E.size
      have hlD := D.lt
      have hlB12 := B12.lt
      replace B12 := B12.ext e11 n12
      replace B4 := B4.ext e11 n4
      replace E := E.fresh e11 hS
      replace D := D1
      clear D1
      refine L.nil ?_
      refine N.seq ?_
      refine G.seq ?_
      refine G.region ?_
      refine L.val rfl rfl (R.mv rfl) ?_
      refine L.val rfl rfl (R.ldBN rfl B4 rfl) ?_
      refine L.callF rfl rfl rfl go80 (cwrite_ok d _ 3 S1 0 ((nextC a).1, b.2) _ D hbI ⟨by show (0 : Int) ≤ 2; decide, by show (2 : Int) ≤ _; decide⟩ (by show (0 : Nat) ≤ _; decide)) ?_
      rintro _ w12 ⟨rfl, S2, g12, D1⟩
      rw [hw3] at D1 ⊢
      have hEw := E.size
      have hl4 := B4.lt
      have hl12 := B12.lt
      replace B4 := B4.ext g12.1 n4
      replace B12 := B12.ext g12.1 n12
      replace E := E.fresh g12.1 hS
      replace hS := g12.fresh hS hEw
      replace n4 : b4 ∉ S2 := g12.apart (Z := [b4]) (by simpa using n4) (by simpa using hl4) b4 (by simp)
      replace n12 : b12 ∉ S2 := g12.apart (Z := [b12]) (by simpa using n12) (by simpa using hl12) b12 (by simp)
      replace D := D1
      clear D1
      dsimp only at D
      refine L.val rfl rfl (R.mv rfl) ?_
      refine L.val rfl rfl (R.ext rfl rfl) ?_
      refine L.val rfl rfl (R.ext rfl rfl) ?_
      refine L.do rfl rfl (R.alloc) ?_
      rintro _ w13 ⟨b15, rfl, hb15, hs13, e13, B15⟩
      have hE13 := E.size
      have hlt13 := D.lt
      have hl13_B4 := B4.lt
      have hl13_B12 := B12.lt
      replace E := E.trans0 e13
      replace B4 := B4.ext0 e13
      replace B12 := B12.ext0 e13
      replace D := D.ext0 e13
      refine L.set rfl (R.stN rfl rfl B15 rfl (Nat.le_refl 7) (ctlC_one _)) ?_
      rintro w14 ⟨e14, hs14, B15x⟩
      replace B4 := B4.ext e14 (by simp; omega)
      replace B12 := B12.ext e14 (by simp; omega)
      replace D := D.ext e14 (fun y hy hm => by have h9 := hlt13 _ hy; rw [List.mem_singleton.1 hm] at h9; omega)
      replace B15 : Blk w14 b15 (ctlC y) 121 (0, 0) := by rw [all_stored (by rfl)] at B15x; exact B15x
      replace E := E.trans e14 (M := []) (by simp) (by intro x hx; rw [List.mem_singleton.1 hx]; exact .inr (by omega))
      refine L.val rfl rfl (R.as rfl) ?_
      refine L.nil ?_
      refine N.seq ?_
      refine G.seq ?_
      refine G.region ?_
      refine L.val rfl rfl (R.mv rfl) ?_
      refine L.val rfl rfl (R.mv rfl) ?_
      refine L.callF rfl rfl rfl go83 (dcrash_ok d v3 3 S2 ka kc ks _ D (by omega) (hK.ext0 E) (fun p hp hm => by have h8 := hS _ hm; have h9 := Cells.effLt hK p hp; omega)) ?_
      rintro _ w15 ⟨S3, g15, D1⟩
      have hEw := E.size
      have n15 : b15 ∉ S2 := fun h => by have h9 := hlt13 _ h; omega
      replace B4 := B4.ext g15.1 n4
      replace B12 := B12.ext g15.1 n12
      replace B15 := B15.ext g15.1 n15
      replace E := E.fresh g15.1 hS
      replace D := D1
      clear D1
      refine L.nil ?_
      refine N.seq ?_
      refine G.seq ?_
      refine G.region ?_
      refine L.val rfl rfl (R.mv rfl) ?_
      refine L.callF rfl rfl rfl go81 (cread_ok d _ 3 S3 0 _ D (by show (0 : Nat) ≤ _; decide)) ?_
      rintro _ w16 ⟨rfl, e16⟩
      rw [hr3]
      replace E := E.trans0 e16
      replace B4 := B4.ext0 e16
      replace B12 := B12.ext0 e16
      replace B15 := B15.ext0 e16
      refine L.val rfl rfl (R.mv rfl) ?_
      refine L.val rfl rfl (R.ext rfl rfl) ?_
      refine L.val rfl rfl (R.ext rfl rfl) ?_
      refine L.do rfl rfl (R.alloc) ?_
      rintro _ w17 ⟨b17, rfl, hb17, hs17, e17, B17⟩
      have hE17 := E.size
      have hl17_B4 := B4.lt
      have hl17_B12 := B12.lt
      have hl17_B15 := B15.lt
      replace E := E.trans0 e17
      replace B4 := B4.ext0 e17
      replace B12 := B12.ext0 e17
      replace B15 := B15.ext0 e17
      refine L.set rfl (R.stN rfl rfl B17 rfl (Nat.le_refl 7) (ctlC_one _)) ?_
      rintro w18 ⟨e18, hs18, B17x⟩
      replace B4 := B4.ext e18 (by simp; omega)
      replace B12 := B12.ext e18 (by simp; omega)
      replace B15 := B15.ext e18 (by simp; omega)
      replace B17 : Blk w18 b17 (ctlC zc) 121 (0, 0) := by rw [all_stored (by rfl)] at B17x; exact B17x
      replace E := E.trans e18 (M := []) (by simp) (by intro x hx; rw [List.mem_singleton.1 hx]; exact .inr (by omega))
      refine L.val rfl rfl (R.as rfl) ?_
      refine L.nil ?_
      refine N.seq ?_
      refine G.seq ?_
      refine G.seq ?_
      have hne : ¬ (nextC ((nextC a).1, b.2)) = nextC a := fun h => by have h9 := congrArg (fun c : Ctl => c.1) h; have h8 : (nextC a).1 + 1 = (nextC a).1 := h9; omega
      rcases hcase with ⟨rfl | rfl, rfl⟩ | ⟨rfl, rfl | rfl⟩ | ⟨rfl, rfl, rfl⟩
      · refine G.region ?_
        refine L.val rfl rfl (R.mv rfl) ?_
        refine L.val rfl rfl (R.eqI rfl rfl) ?_
        refine L.val rfl rfl (R.mv rfl) ?_
        refine L.isT 83 rfl (by rfl) ?_
        refine L.pass rfl rfl ?_
        refine L.pass rfl rfl ?_
        first | refine L.val rfl rfl (R.pickT rfl rfl) ?_ | refine L.val rfl rfl (R.pickF rfl rfl) ?_
        refine L.nil ?_
        refine N.seq ?_
        refine G.condT rfl ?_
        refine G.seq ?_
        refine G.region ?_
        refine L.val rfl rfl (R.ldBN rfl B17 rfl) ?_
        refine L.val rfl rfl (R.ldBN rfl B12 rfl) ?_
        refine L.val rfl rfl (R.eqS rfl rfl rfl rfl (b := true) (by rw [eqL_ctl]; simp)) ?_
        refine L.val rfl rfl (R.as rfl) ?_
        refine L.nil ?_
        refine N.seq ?_
        refine G.ret1 rfl rfl ?_
        first | exact ⟨rfl, E⟩ | exact ⟨congrArg Value.bool (by simp [hnn]), E⟩
      · refine G.region ?_
        refine L.val rfl rfl (R.mv rfl) ?_
        refine L.val rfl rfl (R.eqI rfl rfl) ?_
        refine L.val rfl rfl (R.mv rfl) ?_
        refine L.isF 83 rfl (by rfl) ?_
        refine L.val rfl rfl (R.mv rfl) ?_
        refine L.val rfl rfl (R.eqI rfl rfl) ?_
        first | refine L.val rfl rfl (R.pickT rfl rfl) ?_ | refine L.val rfl rfl (R.pickF rfl rfl) ?_
        refine L.nil ?_
        refine N.seq ?_
        refine G.condT rfl ?_
        refine G.seq ?_
        refine G.region ?_
        refine L.val rfl rfl (R.ldBN rfl B17 rfl) ?_
        refine L.val rfl rfl (R.ldBN rfl B12 rfl) ?_
        refine L.val rfl rfl (R.eqS rfl rfl rfl rfl (b := true) (by rw [eqL_ctl]; simp)) ?_
        refine L.val rfl rfl (R.as rfl) ?_
        refine L.nil ?_
        refine N.seq ?_
        refine G.ret1 rfl rfl ?_
        first | exact ⟨rfl, E⟩ | exact ⟨congrArg Value.bool (by simp [hnn]), E⟩
      · refine G.region ?_
        refine L.val rfl rfl (R.mv rfl) ?_
        refine L.val rfl rfl (R.eqI rfl rfl) ?_
        refine L.val rfl rfl (R.mv rfl) ?_
        refine L.isF 83 rfl (by rfl) ?_
        refine L.val rfl rfl (R.mv rfl) ?_
        refine L.val rfl rfl (R.eqI rfl rfl) ?_
        first | refine L.val rfl rfl (R.pickT rfl rfl) ?_ | refine L.val rfl rfl (R.pickF rfl rfl) ?_
        refine L.nil ?_
        refine N.seq ?_
        refine G.condF rfl ?_
        refine G.skip ?_
        refine N.seq ?_
        refine G.seq ?_
        refine G.region ?_
        refine L.val rfl rfl (R.fld rfl) ?_
        refine L.val rfl rfl (R.ldB (v := .int .i64 (nextC a).1) rfl B4 rfl) ?_
        refine L.val rfl rfl (R.add rfl rfl (by omega)) ?_
        refine L.val rfl rfl (R.fld rfl) ?_
        refine L.set rfl (R.st rfl rfl B4 (by show 0 < 7; decide) rfl) ?_
        rintro w19 ⟨e19, hs19, B4x⟩
        replace B12 := B12.ext e19 (by simp; omega)
        replace B15 := B15.ext e19 (by simp; omega)
        replace B17 := B17.ext e19 (by simp; omega)
        replace B4 : Blk w19 b4 (ctlC (nextC ((nextC a).1, b.2))) 121 (0, 0) := B4x
        replace E := E.trans e19 (M := []) (by simp) (by intro x hx; rw [List.mem_singleton.1 hx]; exact .inr (by omega))
        refine L.nil ?_
        refine N.seq ?_
        refine G.seq ?_
        refine G.region ?_
        refine L.val rfl rfl (R.mv rfl) ?_
        refine L.val rfl rfl (R.eqI rfl rfl) ?_
        refine L.val rfl rfl (R.mv rfl) ?_
        refine L.isT 96 rfl (by rfl) ?_
        refine L.val rfl rfl (R.ldBN rfl B17 rfl) ?_
        refine L.val rfl rfl (R.ldBN rfl B12 rfl) ?_
        refine L.val rfl rfl (R.eqS rfl rfl rfl rfl (b := true) (by rw [eqL_ctl]; simp)) ?_
        refine L.val rfl rfl (R.mv rfl) ?_
        refine L.isT 100 rfl (by rfl) ?_
        refine L.val rfl rfl (R.mv rfl) ?_
        refine L.val rfl rfl (R.neI rfl rfl) ?_
        first | refine L.val rfl rfl (R.pickT rfl rfl) ?_ | refine L.val rfl rfl (R.pickF rfl rfl) ?_
        refine L.val rfl rfl (R.mv rfl) ?_
        refine L.isT 104 rfl (by rfl) ?_
        refine L.pass rfl rfl ?_
        refine L.pass rfl rfl ?_
        refine L.pass rfl rfl ?_
        first | refine L.val rfl rfl (R.pickT rfl rfl) ?_ | refine L.val rfl rfl (R.pickF rfl rfl) ?_
        first | refine L.val rfl rfl (R.pickT rfl rfl) ?_ | refine L.val rfl rfl (R.pickF rfl rfl) ?_
        refine L.val rfl rfl (R.mv rfl) ?_
        refine L.isT 110 rfl (by rfl) ?_
        refine L.val rfl rfl (R.mv rfl) ?_
        refine L.val rfl rfl (R.neI rfl rfl) ?_
        refine L.val rfl rfl (R.mv rfl) ?_
        refine L.isT 113 rfl (by rfl) ?_
        refine L.pass rfl rfl ?_
        refine L.pass rfl rfl ?_
        refine L.pass rfl rfl ?_
        refine L.pass rfl rfl ?_
        refine L.pass rfl rfl ?_
        refine L.pass rfl rfl ?_
        refine L.pass rfl rfl ?_
        refine L.pass rfl rfl ?_
        first | refine L.val rfl rfl (R.pickT rfl rfl) ?_ | refine L.val rfl rfl (R.pickF rfl rfl) ?_
        first | refine L.val rfl rfl (R.pickT rfl rfl) ?_ | refine L.val rfl rfl (R.pickF rfl rfl) ?_
        refine L.val rfl rfl (R.as rfl) ?_
        refine L.nil ?_
        refine N.seq ?_
        refine G.ret1 rfl rfl ?_
        first | exact ⟨rfl, E⟩ | exact ⟨congrArg Value.bool (by simp [hnn]), E⟩
      · refine G.region ?_
        refine L.val rfl rfl (R.mv rfl) ?_
        refine L.val rfl rfl (R.eqI rfl rfl) ?_
        refine L.val rfl rfl (R.mv rfl) ?_
        refine L.isF 83 rfl (by rfl) ?_
        refine L.val rfl rfl (R.mv rfl) ?_
        refine L.val rfl rfl (R.eqI rfl rfl) ?_
        first | refine L.val rfl rfl (R.pickT rfl rfl) ?_ | refine L.val rfl rfl (R.pickF rfl rfl) ?_
        refine L.nil ?_
        refine N.seq ?_
        refine G.condF rfl ?_
        refine G.skip ?_
        refine N.seq ?_
        refine G.seq ?_
        refine G.region ?_
        refine L.val rfl rfl (R.fld rfl) ?_
        refine L.val rfl rfl (R.ldB (v := .int .i64 (nextC a).1) rfl B4 rfl) ?_
        refine L.val rfl rfl (R.add rfl rfl (by omega)) ?_
        refine L.val rfl rfl (R.fld rfl) ?_
        refine L.set rfl (R.st rfl rfl B4 (by show 0 < 7; decide) rfl) ?_
        rintro w19 ⟨e19, hs19, B4x⟩
        replace B12 := B12.ext e19 (by simp; omega)
        replace B15 := B15.ext e19 (by simp; omega)
        replace B17 := B17.ext e19 (by simp; omega)
        replace B4 : Blk w19 b4 (ctlC (nextC ((nextC a).1, b.2))) 121 (0, 0) := B4x
        replace E := E.trans e19 (M := []) (by simp) (by intro x hx; rw [List.mem_singleton.1 hx]; exact .inr (by omega))
        refine L.nil ?_
        refine N.seq ?_
        refine G.seq ?_
        refine G.region ?_
        refine L.val rfl rfl (R.mv rfl) ?_
        refine L.val rfl rfl (R.eqI rfl rfl) ?_
        refine L.val rfl rfl (R.mv rfl) ?_
        refine L.isT 96 rfl (by rfl) ?_
        refine L.val rfl rfl (R.ldBN rfl B17 rfl) ?_
        refine L.val rfl rfl (R.ldBN rfl B12 rfl) ?_
        refine L.val rfl rfl (R.eqS rfl rfl rfl rfl (b := false) (by rw [eqL_ctl]; simp [hne])) ?_
        refine L.val rfl rfl (R.mv rfl) ?_
        refine L.isF 100 rfl (by rfl) ?_
        refine L.pass rfl rfl ?_
        refine L.pass rfl rfl ?_
        first | refine L.val rfl rfl (R.pickT rfl rfl) ?_ | refine L.val rfl rfl (R.pickF rfl rfl) ?_
        refine L.val rfl rfl (R.mv rfl) ?_
        refine L.isF 104 rfl (by rfl) ?_
        refine L.val rfl rfl (R.ldBN rfl B17 rfl) ?_
        refine L.val rfl rfl (R.ldBN rfl B4 rfl) ?_
        refine L.val rfl rfl (R.eqS rfl rfl rfl rfl (b := true) (by rw [eqL_ctl]; simp)) ?_
        first | refine L.val rfl rfl (R.pickT rfl rfl) ?_ | refine L.val rfl rfl (R.pickF rfl rfl) ?_
        first | refine L.val rfl rfl (R.pickT rfl rfl) ?_ | refine L.val rfl rfl (R.pickF rfl rfl) ?_
        refine L.val rfl rfl (R.mv rfl) ?_
        refine L.isT 110 rfl (by rfl) ?_
        refine L.val rfl rfl (R.mv rfl) ?_
        refine L.val rfl rfl (R.neI rfl rfl) ?_
        refine L.val rfl rfl (R.mv rfl) ?_
        refine L.isT 113 rfl (by rfl) ?_
        refine L.pass rfl rfl ?_
        refine L.pass rfl rfl ?_
        refine L.pass rfl rfl ?_
        refine L.pass rfl rfl ?_
        refine L.pass rfl rfl ?_
        refine L.pass rfl rfl ?_
        refine L.pass rfl rfl ?_
        refine L.pass rfl rfl ?_
        first | refine L.val rfl rfl (R.pickT rfl rfl) ?_ | refine L.val rfl rfl (R.pickF rfl rfl) ?_
        first | refine L.val rfl rfl (R.pickT rfl rfl) ?_ | refine L.val rfl rfl (R.pickF rfl rfl) ?_
        refine L.val rfl rfl (R.as rfl) ?_
        refine L.nil ?_
        refine N.seq ?_
        refine G.ret1 rfl rfl ?_
        first | exact ⟨rfl, E⟩ | exact ⟨congrArg Value.bool (by simp [hnn]), E⟩
      · refine G.region ?_
        refine L.val rfl rfl (R.mv rfl) ?_
        refine L.val rfl rfl (R.eqI rfl rfl) ?_
        refine L.val rfl rfl (R.mv rfl) ?_
        refine L.isF 83 rfl (by rfl) ?_
        refine L.val rfl rfl (R.mv rfl) ?_
        refine L.val rfl rfl (R.eqI rfl rfl) ?_
        first | refine L.val rfl rfl (R.pickT rfl rfl) ?_ | refine L.val rfl rfl (R.pickF rfl rfl) ?_
        refine L.nil ?_
        refine N.seq ?_
        refine G.condF rfl ?_
        refine G.skip ?_
        refine N.seq ?_
        refine G.seq ?_
        refine G.region ?_
        refine L.val rfl rfl (R.fld rfl) ?_
        refine L.val rfl rfl (R.ldB (v := .int .i64 (nextC a).1) rfl B4 rfl) ?_
        refine L.val rfl rfl (R.add rfl rfl (by omega)) ?_
        refine L.val rfl rfl (R.fld rfl) ?_
        refine L.set rfl (R.st rfl rfl B4 (by show 0 < 7; decide) rfl) ?_
        rintro w19 ⟨e19, hs19, B4x⟩
        replace B12 := B12.ext e19 (by simp; omega)
        replace B15 := B15.ext e19 (by simp; omega)
        replace B17 := B17.ext e19 (by simp; omega)
        replace B4 : Blk w19 b4 (ctlC (nextC ((nextC a).1, b.2))) 121 (0, 0) := B4x
        replace E := E.trans e19 (M := []) (by simp) (by intro x hx; rw [List.mem_singleton.1 hx]; exact .inr (by omega))
        refine L.nil ?_
        refine N.seq ?_
        refine G.seq ?_
        refine G.region ?_
        refine L.val rfl rfl (R.mv rfl) ?_
        refine L.val rfl rfl (R.eqI rfl rfl) ?_
        refine L.val rfl rfl (R.mv rfl) ?_
        refine L.isT 96 rfl (by rfl) ?_
        refine L.val rfl rfl (R.ldBN rfl B17 rfl) ?_
        refine L.val rfl rfl (R.ldBN rfl B12 rfl) ?_
        refine L.val rfl rfl (R.eqS rfl rfl rfl rfl (b := false) (by rw [eqL_ctl]; simp [hne])) ?_
        refine L.val rfl rfl (R.mv rfl) ?_
        refine L.isF 100 rfl (by rfl) ?_
        refine L.pass rfl rfl ?_
        refine L.pass rfl rfl ?_
        first | refine L.val rfl rfl (R.pickT rfl rfl) ?_ | refine L.val rfl rfl (R.pickF rfl rfl) ?_
        refine L.val rfl rfl (R.mv rfl) ?_
        refine L.isF 104 rfl (by rfl) ?_
        refine L.val rfl rfl (R.ldBN rfl B17 rfl) ?_
        refine L.val rfl rfl (R.ldBN rfl B4 rfl) ?_
        refine L.val rfl rfl (R.eqS rfl rfl rfl rfl (b := true) (by rw [eqL_ctl]; simp)) ?_
        first | refine L.val rfl rfl (R.pickT rfl rfl) ?_ | refine L.val rfl rfl (R.pickF rfl rfl) ?_
        first | refine L.val rfl rfl (R.pickT rfl rfl) ?_ | refine L.val rfl rfl (R.pickF rfl rfl) ?_
        refine L.val rfl rfl (R.mv rfl) ?_
        refine L.isT 110 rfl (by rfl) ?_
        refine L.val rfl rfl (R.mv rfl) ?_
        refine L.val rfl rfl (R.neI rfl rfl) ?_
        refine L.val rfl rfl (R.mv rfl) ?_
        refine L.isF 113 rfl (by rfl) ?_
        refine L.val rfl rfl (R.ldBN rfl B15 rfl) ?_
        refine L.val rfl rfl (R.ldBN rfl B4 rfl) ?_
        refine L.val rfl rfl (R.eqS rfl rfl rfl rfl (b := true) (by rw [eqL_ctl]; simp)) ?_
        refine L.val rfl rfl (R.mv rfl) ?_
        refine L.isT 117 rfl (by rfl) ?_
        refine L.val rfl rfl (R.ldBN rfl B17 rfl) ?_
        refine L.val rfl rfl (R.ldBN rfl B15 rfl) ?_
        refine L.val rfl rfl (R.eqS rfl rfl rfl rfl (b := true) (by rw [eqL_ctl]; simp)) ?_
        first | refine L.val rfl rfl (R.pickT rfl rfl) ?_ | refine L.val rfl rfl (R.pickF rfl rfl) ?_
        first | refine L.val rfl rfl (R.pickT rfl rfl) ?_ | refine L.val rfl rfl (R.pickF rfl rfl) ?_
        first | refine L.val rfl rfl (R.pickT rfl rfl) ?_ | refine L.val rfl rfl (R.pickF rfl rfl) ?_
        refine L.val rfl rfl (R.as rfl) ?_
        refine L.nil ?_
        refine N.seq ?_
        refine G.ret1 rfl rfl ?_
        first | exact ⟨rfl, E⟩ | exact ⟨congrArg Value.bool (by simp [hnn]), E⟩
    · have hnn : ¬ okC (min (max a.1 (-1)) 4611686018427387904 + 1, a.2) := next_no (by by_cases h1 : 2305843009213693952 ≤ a.1; exact .inl h1; exact .inr fun h2 => hA ⟨by omega, h2⟩)
      obtain ⟨er, her, hwc⟩ : ∃ er : Int, er ≠ 0 ∧ writeCV (newV 3) 3 0 a = (newV 3, zeroC, er) := by
        by_cases h1 : 2305843009213693952 ≤ a.1
        · exact ⟨33, by decide, writeCV_spent h1⟩
        · exact ⟨2, by decide, writeCV_arg h1 (.inl fun h2 => hA ⟨by omega, h2⟩)⟩
      refine G.region ?_
      refine L.val rfl rfl (R.mv rfl) ?_
      refine L.val rfl rfl (R.ldBN rfl B3 rfl) ?_
      refine L.callF rfl rfl rfl go80 (cwrite_ok d (newV 3) 3 S 0 a _ D ha (by decide) (by decide)) ?_
      rintro _ w3 ⟨rfl, S1, g3, D1⟩
      rw [hwc] at D1 ⊢
      have hEw := E.size
      have hl3 := B3.lt
      have hl4 := B4.lt
      replace B3 := B3.ext g3.1 n3
      replace B4 := B4.ext g3.1 n4
      replace E := E.fresh g3.1 hS
      replace hS := g3.fresh hS hEw
      replace n3 : b3 ∉ S1 := g3.apart (Z := [b3]) (by simpa using n3) (by simpa using hl3) b3 (by simp)
      replace n4 : b4 ∉ S1 := g3.apart (Z := [b4]) (by simpa using n4) (by simpa using hl4) b4 (by simp)
      replace D := D1
      clear D1
      refine L.val rfl rfl (R.mv rfl) ?_
      refine L.val rfl rfl (R.ext rfl rfl) ?_
      refine L.val rfl rfl (R.ext rfl rfl) ?_
      refine L.do rfl rfl (R.alloc) ?_
      rintro _ w4 ⟨b12, rfl, hb12, hs4, e4, B12⟩
      have hE4 := E.size
      have hlt4 := D.lt
      have hl4_B3 := B3.lt
      have hl4_B4 := B4.lt
      replace E := E.trans0 e4
      replace B3 := B3.ext0 e4
      replace B4 := B4.ext0 e4
      replace D := D.ext0 e4
      refine L.set rfl (R.stN rfl rfl B12 rfl (Nat.le_refl 7) (ctlC_one _)) ?_
      rintro w5 ⟨e5, hs5, B12x⟩
      replace B3 := B3.ext e5 (by simp; omega)
      replace B4 := B4.ext e5 (by simp; omega)
      replace D := D.ext e5 (fun y hy hm => by have h9 := hlt4 _ hy; rw [List.mem_singleton.1 hm] at h9; omega)
      replace B12 : Blk w5 b12 (ctlC zeroC) 121 (0, 0) := by rw [all_stored (by rfl)] at B12x; exact B12x
      replace E := E.trans e5 (M := []) (by simp) (by intro x hx; rw [List.mem_singleton.1 hx]; exact .inr (by omega))
      refine L.val rfl rfl (R.as rfl) ?_
      refine L.nil ?_
      refine N.seq ?_
      refine G.seq ?_
      refine G.region ?_
      refine L.val rfl rfl (R.ldBN rfl B3 rfl) ?_
      refine L.do rfl rfl (R.alloc) ?_
      rintro _ w6 ⟨b14, rfl, hb14, hs6, e6, B14⟩
      have hE6 := E.size
      have hlt6 := D.lt
      have hl6_B3 := B3.lt
      have hl6_B4 := B4.lt
      have hl6_B12 := B12.lt
      replace E := E.trans0 e6
      replace B3 := B3.ext0 e6
      replace B4 := B4.ext0 e6
      replace B12 := B12.ext0 e6
      replace D := D.ext0 e6
      refine L.set rfl (R.stN rfl rfl B14 rfl (Nat.le_refl 7) (ctlC_one _)) ?_
      rintro w7 ⟨e7, hs7, B14x⟩
      replace B3 := B3.ext e7 (by simp; omega)
      replace B4 := B4.ext e7 (by simp; omega)
      replace B12 := B12.ext e7 (by simp; omega)
      replace D := D.ext e7 (fun y hy hm => by have h9 := hlt6 _ hy; rw [List.mem_singleton.1 hm] at h9; omega)
      replace B14 : Blk w7 b14 (ctlC a) 121 (0, 0) := by rw [all_stored (by rfl)] at B14x; exact B14x
      replace E := E.trans e7 (M := []) (by simp) (by intro x hx; rw [List.mem_singleton.1 hx]; exact .inr (by omega))
      refine L.nil ?_
      refine N.seq ?_
      refine G.seq ?_
      refine G.region ?_
      refine L.val rfl rfl (R.fld rfl) ?_
      refine L.val rfl rfl (R.ldB (v := .int .i64 a.1) rfl B3 rfl) ?_
      refine L.val rfl rfl (R.max rfl rfl (max a.1 (-1)) (by split <;> omega)) ?_
      refine L.val rfl rfl (R.min rfl rfl (min (max a.1 (-1)) 4611686018427387904) (by split <;> omega)) ?_
      refine L.val rfl rfl (R.add rfl rfl (by omega)) ?_
      refine L.val rfl rfl (R.fld rfl) ?_
      refine L.set rfl (R.st rfl rfl B14 (by show 0 < 7; decide) rfl) ?_
      rintro w8 ⟨e8, hs8, B14x⟩
      replace D := D.ext e8 (fun y hy hm => by have h9 := hlt6 _ hy; rw [List.mem_singleton.1 hm] at h9; omega)
      replace B3 := B3.ext e8 (by simp; omega)
      replace B4 := B4.ext e8 (by simp; omega)
      replace B12 := B12.ext e8 (by simp; omega)
      replace B14 : Blk w8 b14 (ctlC (min (max a.1 (-1)) 4611686018427387904 + 1, a.2)) 121 (0, 0) := B14x
      replace E := E.trans e8 (M := []) (by simp) (by intro x hx; rw [List.mem_singleton.1 hx]; exact .inr (by omega))
      have n12 : b12 ∉ S1 := fun h => by have h9 := hlt4 _ h; omega
      refine L.nil ?_
      refine N.seq ?_
      refine G.seq ?_
      refine G.seq ?_
      refine G.region ?_
      refine L.val rfl rfl (R.mv rfl) ?_
      refine L.val rfl rfl (R.neI rfl rfl) ?_
      refine L.nil ?_
      refine N.seq ?_
      refine G.condP rfl (fun h3 => ?_) (fun h3 => ?_)
      · refine G.seq ?_
        refine G.region ?_
        refine L.val rfl rfl (R.ldBN rfl B14 rfl) ?_
        refine L.callF rfl rfl rfl go76 (cright_ok (min (max a.1 (-1)) 4611686018427387904 + 1, a.2) _) ?_
        rintro _ w9 ⟨rfl, e9⟩
        replace E := E.trans0 e9
        refine L.val rfl rfl (R.not rfl) ?_
        refine L.val rfl rfl (R.as rfl) ?_
        refine L.nil ?_
        refine N.seq ?_
        refine G.ret1 rfl rfl ?_
        first | exact ⟨rfl, E⟩ | exact ⟨congrArg Value.bool (by simp [hnn]), E⟩
      · exact absurd (Classical.not_not.1 h3) her

end Go.Proofs.Ythpolibakkmmeaa
/-
  The controls among the arguments.
-/
set_option linter.unusedVariables false
namespace Go.Proofs.Ythpolibakkmmeaa
open Go Brv Brv.Control
structure CtlR where
  mk ::
  (Gen' : Int)
  (Epoch' : Int)
  (Area' : Int)
  (Timeline' : Int)
  (Number' : Int)
  (Redo' : Int)
  (Low' : Int)
def CtlR.cells (o : CtlR) : List Value := [.int .i64 o.Gen', .int .i64 o.Epoch', .int .i64 o.Area', .int .i64 o.Timeline', .int .i64 o.Number', .int .i64 o.Redo', .int .i64 o.Low']
def CtlR.ok (w : World) (o : CtlR) : Prop := (Lit.int .i64 o.Gen').wf = true ∧ (Lit.int .i64 o.Epoch').wf = true ∧ (Lit.int .i64 o.Area').wf = true ∧ (Lit.int .i64 o.Timeline').wf = true ∧ (Lit.int .i64 o.Number').wf = true ∧ (Lit.int .i64 o.Redo').wf = true ∧ (Lit.int .i64 o.Low').wf = true
theorem CtlR.ok.ext0 {w w' : World} {o : CtlR} (h : o.ok w) (he : Ext [] w w') : o.ok w' := by
  obtain ⟨h0, h1, h2, h3, h4, h5, h6⟩ := h
  exact ⟨h0, h1, h2, h3, h4, h5, h6⟩
theorem CtlR.cells.length (o : CtlR) : o.cells.length = 7 := rfl
theorem CtlR.cells.one (o : CtlR) : ∀ u ∈ o.cells.toArray.toList, u.oneCell' = true := by
  intro u hu
  simp only [CtlR.cells, List.mem_cons, List.not_mem_nil, or_false] at hu
  rcases hu with rfl | rfl | rfl | rfl | rfl | rfl | rfl <;> rfl
set_option maxRecDepth 100000 in
theorem ctlR_of {w : World} {f : Nat} {cs : List Value} (h : Rd Try.prog w f 121 cs) : ∃ o : CtlR, cs = o.cells ∧ o.ok w := by
  cases f with
  | zero => exact h.elim
  | succ f =>
    unfold Rd at h
    rw [Try.underlying121] at h
    obtain ⟨hl, hf⟩ := h
    rw [show Try.prog.cellsOf 121 = 7 from by kernel_rfl] at hl
    obtain ⟨v0, v1, v2, v3, v4, v5, v6, rfl⟩ : ∃ v0 v1 v2 v3 v4 v5 v6, cs = [v0, v1, v2, v3, v4, v5, v6] := by
      match cs, hl with
      | [v0, v1, v2, v3, v4, v5, v6], _ => exact ⟨v0, v1, v2, v3, v4, v5, v6, rfl⟩
    have r0 : Rd Try.prog w f 3 (List.take (Try.prog.cellsOf 3) (List.drop 0 [v0, v1, v2, v3, v4, v5, v6])) := hf 0 _ rfl
    rw [show Try.prog.cellsOf 3 = 1 from by kernel_rfl] at r0
    replace r0 : Rd Try.prog w f 3 [v0] := r0
    have r1 : Rd Try.prog w f 3 (List.take (Try.prog.cellsOf 3) (List.drop 1 [v0, v1, v2, v3, v4, v5, v6])) := hf 1 _ rfl
    rw [show Try.prog.cellsOf 3 = 1 from by kernel_rfl] at r1
    replace r1 : Rd Try.prog w f 3 [v1] := r1
    have r2 : Rd Try.prog w f 3 (List.take (Try.prog.cellsOf 3) (List.drop 2 [v0, v1, v2, v3, v4, v5, v6])) := hf 2 _ rfl
    rw [show Try.prog.cellsOf 3 = 1 from by kernel_rfl] at r2
    replace r2 : Rd Try.prog w f 3 [v2] := r2
    have r3 : Rd Try.prog w f 3 (List.take (Try.prog.cellsOf 3) (List.drop 3 [v0, v1, v2, v3, v4, v5, v6])) := hf 3 _ rfl
    rw [show Try.prog.cellsOf 3 = 1 from by kernel_rfl] at r3
    replace r3 : Rd Try.prog w f 3 [v3] := r3
    have r4 : Rd Try.prog w f 3 (List.take (Try.prog.cellsOf 3) (List.drop 4 [v0, v1, v2, v3, v4, v5, v6])) := hf 4 _ rfl
    rw [show Try.prog.cellsOf 3 = 1 from by kernel_rfl] at r4
    replace r4 : Rd Try.prog w f 3 [v4] := r4
    have r5 : Rd Try.prog w f 3 (List.take (Try.prog.cellsOf 3) (List.drop 5 [v0, v1, v2, v3, v4, v5, v6])) := hf 5 _ rfl
    rw [show Try.prog.cellsOf 3 = 1 from by kernel_rfl] at r5
    replace r5 : Rd Try.prog w f 3 [v5] := r5
    have r6 : Rd Try.prog w f 3 (List.take (Try.prog.cellsOf 3) (List.drop 6 [v0, v1, v2, v3, v4, v5, v6])) := hf 6 _ rfl
    rw [show Try.prog.cellsOf 3 = 1 from by kernel_rfl] at r6
    replace r6 : Rd Try.prog w f 3 [v6] := r6
    obtain ⟨x0, e0, w0⟩ := r0.int
    cases e0
    obtain ⟨x1, e1, w1⟩ := r1.int
    cases e1
    obtain ⟨x2, e2, w2⟩ := r2.int
    cases e2
    obtain ⟨x3, e3, w3⟩ := r3.int
    cases e3
    obtain ⟨x4, e4, w4⟩ := r4.int
    cases e4
    obtain ⟨x5, e5, w5⟩ := r5.int
    cases e5
    obtain ⟨x6, e6, w6⟩ := r6.int
    cases e6
    exact ⟨⟨x0, x1, x2, x3, x4, x5, x6⟩, rfl, ⟨w0, w1, w2, w3, w4, w5, w6⟩⟩
set_option maxRecDepth 100000 in
theorem ctlR_rows130 {w : World} {f : Nat} {cs : List Value} (h : Rd Try.prog w f 130 cs) : ∃ a n c, ∃ os : List CtlR, cs = [.slice a n c] ∧ n ≤ c ∧ c * 56 ≤ 140737488351232 ∧ Tab w a n 7 (os.map CtlR.cells) ∧ ∀ o ∈ os, o.ok w := by
  cases f with
  | zero => exact h.elim
  | succ f =>
    unfold Rd at h
    rw [Try.underlying130] at h
    obtain ⟨a, n, c, rfl, hnc, _, hb, vss, hl, hcell, hv⟩ := h
    rw [show Try.prog.bytesOf 121 = 56 from by kernel_rfl] at hb
    have hex : ∃ os : List CtlR, vss = os.map CtlR.cells ∧ ∀ o ∈ os, o.ok w := by
      clear hcell hl
      induction vss with
      | nil => exact ⟨[], rfl, by simp⟩
      | cons vs r ih =>
        obtain ⟨o, rfl, ho⟩ := ctlR_of (hv vs (by simp)).2
        obtain ⟨os, rfl, hos⟩ := ih (fun x hx => hv x (by simp [hx]))
        exact ⟨o :: os, rfl, fun x hx => (List.mem_cons.1 hx).elim (fun e => e ▸ ho) (hos x)⟩
    obtain ⟨os, rfl, hos⟩ := hex
    exact ⟨a, n, c, os, rfl, hnc, hb, ⟨hcell, hl.symm, fun vs hvs => by obtain ⟨o, _, rfl⟩ := List.mem_map.1 hvs; rfl⟩, hos⟩

def CtlR.c (o : CtlR) : Ctl := (o.Gen', o.Epoch', o.Area', o.Timeline', o.Number', o.Redo', o.Low')
theorem CtlR.inC {o : CtlR} {w : World} (h : o.ok w) : InC o.c := by
  obtain ⟨h1, h2, h3, h4, h5, h6, h7⟩ := h
  exact ⟨wf_i64 h1, wf_i64 h2, wf_i64 h3, wf_i64 h4, wf_i64 h5, wf_i64 h6, wf_i64 h7⟩
theorem CtlR.arr (o : CtlR) : o.cells.toArray = ctlC o.c := rfl
end Go.Proofs.Ythpolibakkmmeaa
