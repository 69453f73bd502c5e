/-
  The walks of package frame.
-/
import Derived.Test.YthpolibakkmmeaaScan
import Derived.Test.YthpolibakkmmeaaCrc
import Derived.Test.YthpolibakkmmeaaFramePure
set_option linter.unusedVariables false
set_option linter.unusedSimpArgs false
namespace Go.Proofs.Ythpolibakkmmeaa
open Go Brv Brv.Crc Brv.Pack Brv.Frame
theorem fbetween_ok (x y z : Int) (w : World) : Meets Try.prog 228 [.int .i64 x, .int .i64 y, .int .i64 z] w (fun v w' => v = .bool (decide (y ≤ x ∧ x ≤ z)) ∧ w' = w) := by
  refine Meets.enter Try.func228 rfl 15 rfl (Nat.le_of_ble_eq_true rfl) ?_
  refine G.seq ?_
  refine G.region ?_
  refine L.val rfl rfl (R.as rfl) ?_
  refine L.nil ?_
  refine N.seq ?_
  refine G.seq ?_
  refine G.region ?_
  refine L.val rfl rfl (R.mv rfl) ?_
  refine L.val rfl rfl (R.mv rfl) ?_
  refine L.val rfl rfl (R.geq rfl rfl) ?_
  refine L.val rfl rfl (R.mv rfl) ?_
  refine L.caseP 10 rfl (fun hg1_3 => ?_) (fun hg1_3 => ?_)
  · refine L.val rfl rfl (R.mv rfl) ?_
    refine L.val rfl rfl (R.mv rfl) ?_
    refine L.val rfl rfl (R.leq rfl rfl) ?_
    first | refine L.val rfl rfl (R.pickT rfl rfl) ?_ | refine L.val rfl rfl (R.pickF rfl rfl) ?_
    refine L.val rfl rfl (R.as rfl) ?_
    refine L.nil ?_
    refine N.seq ?_
    refine G.ret1 rfl rfl ?_
    exact ⟨congrArg Value.bool (by rw [decide_eq_decide]; exact ⟨fun h => ⟨hg1_3, h⟩, fun h => h.2⟩), rfl⟩
  · refine L.pass rfl rfl ?_
    refine L.pass rfl rfl ?_
    refine L.pass rfl rfl ?_
    first | refine L.val rfl rfl (R.pickT rfl rfl) ?_ | refine L.val rfl rfl (R.pickF rfl rfl) ?_
    refine L.val rfl rfl (R.as rfl) ?_
    refine L.nil ?_
    refine N.seq ?_
    refine G.ret1 rfl rfl ?_
    exact ⟨congrArg Value.bool (by rw [eq_comm, decide_eq_false_iff_not]; exact fun h => hg1_3 h.1), rfl⟩

theorem right_ok (p q i k : Int) (a : Option Addr) (n c : Nat) (l : List UInt8) (w : World) (hn : n = l.length) (hp : -9223372036854775808 ≤ p ∧ p ≤ 9223372036854775807)(hq : -9223372036854775808 ≤ q ∧ q ≤ 9223372036854775807)(hi : -9223372036854775808 ≤ i ∧ i ≤ 9223372036854775807)(hk : -9223372036854775808 ≤ k ∧ k ≤ 9223372036854775807) : Meets Try.prog 195 [.agg #[.int .i64 p, .int .i64 q, .int .i64 i, .int .i64 k, .slice a n c]] w (fun v w' => v = .bool (decide (okFrame p q i k l)) ∧ Ext [] w w') := by
  refine Meets.enter Try.func195 rfl 30 rfl (Nat.le_of_ble_eq_true rfl) ?_
  have E := Ext.refl [] w
  refine G.seq ?_
  refine G.region ?_
  refine L.do rfl rfl (R.box rfl) ?_
  rintro _ w1 ⟨b1, rfl, hb1, hs1, e1, B1⟩
  replace E := E.trans0 e1
  refine L.val rfl rfl (R.as rfl) ?_
  refine L.nil ?_
  refine N.seq ?_
  refine G.seq ?_
  refine G.region ?_
  refine L.val rfl rfl (R.fld rfl) ?_
  refine L.val rfl rfl (R.ldB rfl (by assumption) (by rfl)) ?_
  refine L.callF rfl rfl rfl go228 (fbetween_ok _ _ _ _) ?_
  rintro _ _ ⟨rfl, hw⟩
  obtain rfl := hw.symm
  refine L.val rfl rfl (R.mv rfl) ?_
  refine L.caseP 6 rfl (fun hg1_3 => ?_) (fun hg1_3 => ?_)
  · refine L.val rfl rfl (R.fld rfl) ?_
    refine L.val rfl rfl (R.ldB rfl (by assumption) (by rfl)) ?_
    refine L.callF rfl rfl rfl go228 (fbetween_ok _ _ _ _) ?_
    rintro _ _ ⟨rfl, hw⟩
    obtain rfl := hw.symm
    first | refine L.val rfl rfl (R.pickT rfl rfl) ?_ | refine L.val rfl rfl (R.pickF rfl rfl) ?_
    refine L.val rfl rfl (R.mv rfl) ?_
    refine L.caseP 11 rfl (fun hg1_8 => ?_) (fun hg1_8 => ?_)
    · refine L.val rfl rfl (R.fld rfl) ?_
      refine L.val rfl rfl (R.ldB rfl (by assumption) (by rfl)) ?_
      refine L.callF rfl rfl rfl go228 (fbetween_ok _ _ _ _) ?_
      rintro _ _ ⟨rfl, hw⟩
      obtain rfl := hw.symm
      first | refine L.val rfl rfl (R.pickT rfl rfl) ?_ | refine L.val rfl rfl (R.pickF rfl rfl) ?_
      refine L.val rfl rfl (R.mv rfl) ?_
      refine L.caseP 16 rfl (fun hg1_13 => ?_) (fun hg1_13 => ?_)
      · refine L.val rfl rfl (R.fld rfl) ?_
        refine L.val rfl rfl (R.ldB rfl (by assumption) (by rfl)) ?_
        refine L.val rfl rfl (R.fld rfl) ?_
        refine L.val rfl rfl (R.ldB rfl (by assumption) (by rfl)) ?_
        refine L.val rfl rfl (R.sub' rfl rfl (by omega)) ?_
        refine L.callF rfl rfl rfl go228 (fbetween_ok _ _ _ _) ?_
        rintro _ _ ⟨rfl, hw⟩
        obtain rfl := hw.symm
        first | refine L.val rfl rfl (R.pickT rfl rfl) ?_ | refine L.val rfl rfl (R.pickF rfl rfl) ?_
        refine L.val rfl rfl (R.mv rfl) ?_
        refine L.caseP 24 rfl (fun hg1_21 => ?_) (fun hg1_21 => ?_)
        · refine L.val rfl rfl (R.fld rfl) ?_
          refine L.val rfl rfl (R.ldB rfl (by assumption) (by rfl)) ?_
          refine L.val rfl rfl (R.lenS rfl) ?_
          refine L.val rfl rfl (R.leq rfl rfl) ?_
          first | refine L.val rfl rfl (R.pickT rfl rfl) ?_ | refine L.val rfl rfl (R.pickF rfl rfl) ?_
          refine L.val rfl rfl (R.as rfl) ?_
          refine L.nil ?_
          refine N.seq ?_
          refine G.ret1 rfl rfl ?_
          first
            | exact ⟨congrArg Value.bool (by rw [decide_eq_decide]; unfold okFrame; constructor <;> intro h <;> (try refine ⟨by assumption, by assumption, by assumption, by assumption, ?_⟩) <;> omega), E⟩
            | exact ⟨congrArg Value.bool (by rw [eq_comm, decide_eq_false_iff_not]; rintro ⟨o1, o2, o3, o4, o5⟩; first | exact absurd o1 (by assumption) | exact absurd o2 (by assumption) | exact absurd o3 (by assumption) | exact absurd o4 (by assumption)), E⟩
        · refine L.pass rfl rfl ?_
          refine L.pass rfl rfl ?_
          refine L.pass rfl rfl ?_
          refine L.pass rfl rfl ?_
          first | refine L.val rfl rfl (R.pickT rfl rfl) ?_ | refine L.val rfl rfl (R.pickF rfl rfl) ?_
          refine L.val rfl rfl (R.as rfl) ?_
          refine L.nil ?_
          refine N.seq ?_
          refine G.ret1 rfl rfl ?_
          first
            | exact ⟨congrArg Value.bool (by rw [decide_eq_decide]; unfold okFrame; constructor <;> intro h <;> (try refine ⟨by assumption, by assumption, by assumption, by assumption, ?_⟩) <;> omega), E⟩
            | exact ⟨congrArg Value.bool (by rw [eq_comm, decide_eq_false_iff_not]; rintro ⟨o1, o2, o3, o4, o5⟩; first | exact absurd o1 (by assumption) | exact absurd o2 (by assumption) | exact absurd o3 (by assumption) | exact absurd o4 (by assumption)), E⟩
      · refine L.pass rfl rfl ?_
        refine L.pass rfl rfl ?_
        refine L.pass rfl rfl ?_
        refine L.pass rfl rfl ?_
        refine L.pass rfl rfl ?_
        refine L.pass rfl rfl ?_
        first | refine L.val rfl rfl (R.pickT rfl rfl) ?_ | refine L.val rfl rfl (R.pickF rfl rfl) ?_
        refine L.val rfl rfl (R.mv rfl) ?_
        refine L.pass rfl rfl ?_
        refine L.pass rfl rfl ?_
        refine L.pass rfl rfl ?_
        refine L.pass rfl rfl ?_
        first | refine L.val rfl rfl (R.pickT rfl rfl) ?_ | refine L.val rfl rfl (R.pickF rfl rfl) ?_
        refine L.val rfl rfl (R.as rfl) ?_
        refine L.nil ?_
        refine N.seq ?_
        refine G.ret1 rfl rfl ?_
        first
          | exact ⟨congrArg Value.bool (by rw [decide_eq_decide]; unfold okFrame; constructor <;> intro h <;> (try refine ⟨by assumption, by assumption, by assumption, by assumption, ?_⟩) <;> omega), E⟩
          | exact ⟨congrArg Value.bool (by rw [eq_comm, decide_eq_false_iff_not]; rintro ⟨o1, o2, o3, o4, o5⟩; first | exact absurd o1 (by assumption) | exact absurd o2 (by assumption) | exact absurd o3 (by assumption) | exact absurd o4 (by assumption)), E⟩
    · refine L.pass rfl rfl ?_
      refine L.pass rfl rfl ?_
      refine L.pass rfl rfl ?_
      first | refine L.val rfl rfl (R.pickT rfl rfl) ?_ | refine L.val rfl rfl (R.pickF rfl rfl) ?_
      refine L.val rfl rfl (R.mv rfl) ?_
      refine L.pass rfl rfl ?_
      refine L.pass rfl rfl ?_
      refine L.pass rfl rfl ?_
      refine L.pass rfl rfl ?_
      refine L.pass rfl rfl ?_
      refine L.pass rfl rfl ?_
      first | refine L.val rfl rfl (R.pickT rfl rfl) ?_ | refine L.val rfl rfl (R.pickF rfl rfl) ?_
      refine L.val rfl rfl (R.mv rfl) ?_
      refine L.pass rfl rfl ?_
      refine L.pass rfl rfl ?_
      refine L.pass rfl rfl ?_
      refine L.pass rfl rfl ?_
      first | refine L.val rfl rfl (R.pickT rfl rfl) ?_ | refine L.val rfl rfl (R.pickF rfl rfl) ?_
      refine L.val rfl rfl (R.as rfl) ?_
      refine L.nil ?_
      refine N.seq ?_
      refine G.ret1 rfl rfl ?_
      first
        | exact ⟨congrArg Value.bool (by rw [decide_eq_decide]; unfold okFrame; constructor <;> intro h <;> (try refine ⟨by assumption, by assumption, by assumption, by assumption, ?_⟩) <;> omega), E⟩
        | exact ⟨congrArg Value.bool (by rw [eq_comm, decide_eq_false_iff_not]; rintro ⟨o1, o2, o3, o4, o5⟩; first | exact absurd o1 (by assumption) | exact absurd o2 (by assumption) | exact absurd o3 (by assumption) | exact absurd o4 (by assumption)), E⟩
  · refine L.pass rfl rfl ?_
    refine L.pass rfl rfl ?_
    refine L.pass rfl rfl ?_
    first | refine L.val rfl rfl (R.pickT rfl rfl) ?_ | refine L.val rfl rfl (R.pickF rfl rfl) ?_
    refine L.val rfl rfl (R.mv rfl) ?_
    refine L.pass rfl rfl ?_
    refine L.pass rfl rfl ?_
    refine L.pass rfl rfl ?_
    first | refine L.val rfl rfl (R.pickT rfl rfl) ?_ | refine L.val rfl rfl (R.pickF rfl rfl) ?_
    refine L.val rfl rfl (R.mv rfl) ?_
    refine L.pass rfl rfl ?_
    refine L.pass rfl rfl ?_
    refine L.pass rfl rfl ?_
    refine L.pass rfl rfl ?_
    refine L.pass rfl rfl ?_
    refine L.pass rfl rfl ?_
    first | refine L.val rfl rfl (R.pickT rfl rfl) ?_ | refine L.val rfl rfl (R.pickF rfl rfl) ?_
    refine L.val rfl rfl (R.mv rfl) ?_
    refine L.pass rfl rfl ?_
    refine L.pass rfl rfl ?_
    refine L.pass rfl rfl ?_
    refine L.pass rfl rfl ?_
    first | refine L.val rfl rfl (R.pickT rfl rfl) ?_ | refine L.val rfl rfl (R.pickF rfl rfl) ?_
    refine L.val rfl rfl (R.as rfl) ?_
    refine L.nil ?_
    refine N.seq ?_
    refine G.ret1 rfl rfl ?_
    first
      | exact ⟨congrArg Value.bool (by rw [decide_eq_decide]; unfold okFrame; constructor <;> intro h <;> (try refine ⟨by assumption, by assumption, by assumption, by assumption, ?_⟩) <;> omega), E⟩
      | exact ⟨congrArg Value.bool (by rw [eq_comm, decide_eq_false_iff_not]; rintro ⟨o1, o2, o3, o4, o5⟩; first | exact absurd o1 (by assumption) | exact absurd o2 (by assumption) | exact absurd o3 (by assumption) | exact absurd o4 (by assumption)), E⟩

theorem _root_.Brv.Grown.freshLt {S S' : List Nat} {s : Nat} {a b : World} (h : Grown S S' a b) (hs : ∀ g ∈ S, s < g) (ha : s < a.heap.size) : ∀ g ∈ S', s < g := fun g hg => (h.2 g hg).elim (hs g) (Nat.lt_of_lt_of_le ha)
theorem fput_ok (p q i k : Int) (a : Option Addr) (n c : Nat) (l : List UInt8) (w : World) (hb : Bs w a n l) (hn : n ≤ 140737488351232) (hp : -9223372036854775808 ≤ p ∧ p ≤ 9223372036854775807)(hq : -9223372036854775808 ≤ q ∧ q ≤ 9223372036854775807)(hi : -9223372036854775808 ≤ i ∧ i ≤ 9223372036854775807)(hk : -9223372036854775808 ≤ k ∧ k ≤ 9223372036854775807) : Meets Try.prog 141 [.agg #[.int .i64 p, .int .i64 q, .int .i64 i, .int .i64 k, .slice a n c]] w (fun v w' => (okFrame p q i k l → Cloned w 5 1 64 (vbs (frameF p q i k l)) v w') ∧ (¬ okFrame p q i k l → v = .slice none 0 0 ∧ Ext [] w w')) := by
  refine Meets.enter Try.func141 rfl 34 rfl (Nat.le_of_ble_eq_true rfl) ?_
  have E := Ext.refl [] w
  refine G.seq ?_
  refine G.region ?_
  refine L.do rfl rfl (R.box rfl) ?_
  rintro _ w1 ⟨b1, rfl, hb1, hs1, e1, B1⟩
  replace E := E.trans0 e1
  refine L.val rfl rfl (R.as rfl) ?_
  refine L.nil ?_
  refine N.seq ?_
  refine G.seq ?_
  refine G.seq ?_
  refine G.region ?_
  refine L.val rfl rfl (R.ldBN rfl B1 rfl) ?_
  refine L.callF rfl rfl rfl go195 (right_ok _ _ _ _ _ _ _ l _ hb.len hp hq hi hk) ?_
  rintro _ w2 ⟨rfl, e2⟩
  replace B1 := B1.ext0 e2
  replace E := E.trans0 e2
  refine L.val rfl rfl (R.not rfl) ?_
  refine L.nil ?_
  refine N.seq ?_
  refine G.condB rfl (fun h0 => ?_) (fun h0 => ?_)
  · have hno : ¬ okFrame p q i k l := by simpa using h0
    refine G.seq ?_
    refine G.region ?_
    refine L.val rfl rfl (R.as rfl) ?_
    refine L.nil ?_
    refine N.seq ?_
    refine G.ret1 rfl rfl ?_
    exact ⟨fun h => absurd h hno, fun _ => ⟨rfl, E⟩⟩
  · have hok : okFrame p q i k l := by simpa using h0
    obtain ⟨⟨o1, o2⟩, ⟨o3, o4⟩, ⟨o5, o6⟩, ⟨o7, o8⟩, o9⟩ := hok
    have B1l : b1 < w2.heap.size := B1.lt
    have q1 : fitsF 46878 2 = true := by decide
    have q2 : fitsF p 8 = true := by rw [fitsF_spec]; exact ⟨by decide, by decide, o1, Int.lt_of_le_of_lt o2 (by decide)⟩
    have q3 : fitsF q 4 = true := by rw [fitsF_spec]; exact ⟨by decide, by decide, o3, Int.lt_of_le_of_lt o4 (by decide)⟩
    have q4 : fitsF i 2 = true := by rw [fitsF_spec]; exact ⟨by decide, by decide, o7, Int.lt_of_le_of_lt (show i ≤ 65535 by omega) (by decide)⟩
    have q5 : fitsF k 2 = true := by rw [fitsF_spec]; exact ⟨by decide, by decide, by omega, Int.lt_of_le_of_lt o6 (by decide)⟩
    refine G.skip ?_
    refine N.seq ?_
    refine G.seq ?_
    refine G.region ?_
    refine L.val rfl rfl (R.build rfl rfl) ?_
    refine L.do rfl rfl (R.box rfl) ?_
    rintro _ w3 ⟨b8, rfl, hb8, hs8, e3, B8⟩
    have hb18 := E.size
    replace B1 := B1.ext0 e3
    replace E := E.trans0 e3
    have P0 := PenAt.new (E := 5) B8
    have f0 : ∀ g ∈ [b8], b1 < g := by intro g hg; rw [List.mem_singleton.1 hg]; omega
    refine L.val rfl rfl (R.as rfl) ?_
    refine L.nil ?_
    refine N.seq ?_
    refine G.seq ?_
    refine G.region ?_
    refine L.val rfl rfl (R.mv rfl) ?_
    refine L.callF rfl rfl rfl go140 (number_ok _ _ _ _ _ _ P0 (by simp) (by decide) (by decide)) ?_
    rintro _ w5 ⟨rfl, S1, P1, G1⟩
    rw [q1, if_pos rfl] at P1
    have hbl := B1.lt
    replace B1 := B1.ext G1.1 (fun h => by have := f0 _ h; omega)
    replace E := E.fresh G1.1 (fun g hg => by have := f0 _ hg; omega)
    have f1 : ∀ g ∈ S1, b1 < g := G1.freshLt f0 hbl
    refine L.nil ?_
    refine N.seq ?_
    refine G.seq ?_
    refine G.region ?_
    refine L.val rfl rfl (R.mv rfl) ?_
    refine L.val rfl rfl (R.fld rfl) ?_
    refine L.val rfl rfl (R.ldB rfl B1 rfl) ?_
    refine L.callF rfl rfl rfl go140 (number_ok _ _ _ _ _ _ P1 (by simp [be_length]) hp (by decide)) ?_
    rintro _ w6 ⟨rfl, S2, P2, G2⟩
    rw [q2, if_pos rfl] at P2
    have hbl := B1.lt
    replace B1 := B1.ext G2.1 (fun h => by have := f1 _ h; omega)
    replace E := E.fresh G2.1 (fun g hg => by have := f1 _ hg; omega)
    have f2 : ∀ g ∈ S2, b1 < g := G2.freshLt f1 hbl
    refine L.nil ?_
    refine N.seq ?_
    refine G.seq ?_
    refine G.region ?_
    refine L.val rfl rfl (R.mv rfl) ?_
    refine L.val rfl rfl (R.fld rfl) ?_
    refine L.val rfl rfl (R.ldB rfl B1 rfl) ?_
    refine L.callF rfl rfl rfl go140 (number_ok _ _ _ _ _ _ P2 (by simp [be_length]) hq (by decide)) ?_
    rintro _ w7 ⟨rfl, S3, P3, G3⟩
    rw [q3, if_pos rfl] at P3
    have hbl := B1.lt
    replace B1 := B1.ext G3.1 (fun h => by have := f2 _ h; omega)
    replace E := E.fresh G3.1 (fun g hg => by have := f2 _ hg; omega)
    have f3 : ∀ g ∈ S3, b1 < g := G3.freshLt f2 hbl
    refine L.nil ?_
    refine N.seq ?_
    refine G.seq ?_
    refine G.region ?_
    refine L.val rfl rfl (R.mv rfl) ?_
    refine L.val rfl rfl (R.fld rfl) ?_
    refine L.val rfl rfl (R.ldB rfl B1 rfl) ?_
    refine L.callF rfl rfl rfl go140 (number_ok _ _ _ _ _ _ P3 (by simp [be_length]) hi (by decide)) ?_
    rintro _ w8 ⟨rfl, S4, P4, G4⟩
    rw [q4, if_pos rfl] at P4
    have hbl := B1.lt
    replace B1 := B1.ext G4.1 (fun h => by have := f3 _ h; omega)
    replace E := E.fresh G4.1 (fun g hg => by have := f3 _ hg; omega)
    have f4 : ∀ g ∈ S4, b1 < g := G4.freshLt f3 hbl
    refine L.nil ?_
    refine N.seq ?_
    refine G.seq ?_
    refine G.region ?_
    refine L.val rfl rfl (R.mv rfl) ?_
    refine L.val rfl rfl (R.fld rfl) ?_
    refine L.val rfl rfl (R.ldB rfl B1 rfl) ?_
    refine L.callF rfl rfl rfl go140 (number_ok _ _ _ _ _ _ P4 (by simp [be_length]) hk (by decide)) ?_
    rintro _ w9 ⟨rfl, S5, P5, G5⟩
    rw [q5, if_pos rfl] at P5
    have hbl := B1.lt
    replace B1 := B1.ext G5.1 (fun h => by have := f4 _ h; omega)
    replace E := E.fresh G5.1 (fun g hg => by have := f4 _ hg; omega)
    have f5 : ∀ g ∈ S5, b1 < g := G5.freshLt f4 hbl
    refine L.nil ?_
    refine N.seq ?_
    refine G.seq ?_
    refine G.region ?_
    refine L.val rfl rfl (R.mv rfl) ?_
    refine L.val rfl rfl (R.fld rfl) ?_
    refine L.val rfl rfl (R.ldB rfl B1 rfl) ?_
    refine L.callF rfl rfl rfl go196 (text_ok _ _ _ _ _ _ _ _ P5 (by simp [be_length]) (hb.ext0 E) (by omega) (fun _ he => hb.ext0 (E.fresh he (fun g hg => by have := f5 _ hg; omega)))) ?_
    rintro _ w10 ⟨rfl, S6, P6, G6⟩
    rw [if_pos (by omega)] at P6
    replace E := E.fresh G6.1 (fun g hg => by have := f5 _ hg; omega)
    refine L.nil ?_
    refine N.seq ?_
    refine G.seq ?_
    refine G.region ?_
    refine L.val rfl rfl (R.mv rfl) ?_
    refine L.callF rfl rfl rfl go198 (padded_ok _ _ _ _ _ P6 (by simp [be_length, textF]; omega) (by decide)) ?_
    rintro _ w11 ⟨a1, c1, M1, rfl, e11, o11, h11⟩
    replace E := E.trans0 e11
    have hl64 := frame_pad p q i k l o9
    have hbe : ([] ++ be (2 : Int).toNat (46878 : Int).toNat ++ be (8 : Int).toNat p.toNat ++ be (4 : Int).toNat q.toNat ++ be (2 : Int).toNat i.toNat ++ be (2 : Int).toNat k.toNat ++ textF l) = frameB p q i k l := rfl
    rw [hbe] at o11 ⊢
    rw [hl64] at o11 ⊢
    refine L.callF rfl rfl rfl go197 (mark_ok _ _ _ _ _ (Bs.of_own o11) (by decide)) ?_
    rintro v w12 h12
    refine L.val rfl rfl (R.as rfl) ?_
    refine L.nil ?_
    refine N.seq ?_
    refine G.ret1 rfl rfl ?_
    obtain ⟨a2, c2, M2, rfl, e12, o12, h12⟩ := h12
    exact ⟨fun _ => ⟨a2, c2, M2, rfl, E.trans0 e12, o12, fun g hg => Nat.le_trans E.size (h12 g hg)⟩, fun h => absurd ⟨⟨o1, o2⟩, ⟨o3, o4⟩, ⟨o5, o6⟩, ⟨o7, o8⟩, o9⟩ h⟩

theorem refright_ok (p q i k : Int) (a : Option Addr) (n c : Nat) (l : List UInt8) (w : World) (hn : n = l.length) (hp : -9223372036854775808 ≤ p ∧ p ≤ 9223372036854775807)(hq : -9223372036854775808 ≤ q ∧ q ≤ 9223372036854775807)(hi : -9223372036854775808 ≤ i ∧ i ≤ 9223372036854775807)(hk : -9223372036854775808 ≤ k ∧ k ≤ 9223372036854775807) : Meets Try.prog 193 [.agg #[.int .i64 p, .int .i64 q, .int .i64 i, .int .i64 k, .slice a n c]] w (fun v w' => v = .bool (decide (okFrame p q i k l)) ∧ Ext [] w w') := by
  refine Meets.enter Try.func193 rfl 49 rfl (Nat.le_of_ble_eq_true rfl) ?_
  have E := Ext.refl [] w
  refine G.seq ?_
  refine G.region ?_
  refine L.do rfl rfl (R.box rfl) ?_
  rintro _ w1 ⟨b1, rfl, hb1, hs1, e1, B1⟩
  replace E := E.trans0 e1
  refine L.val rfl rfl (R.as rfl) ?_
  refine L.nil ?_
  refine N.seq ?_
  refine G.seq ?_
  refine G.region ?_
  refine L.val rfl rfl (R.fld rfl) ?_
  refine L.val rfl rfl (R.ldB rfl (by assumption) (by rfl)) ?_
  refine L.val rfl rfl (R.geq rfl rfl) ?_
  refine L.val rfl rfl (R.mv rfl) ?_
  refine L.caseP 6 rfl (fun hg1_3 => ?_) (fun hg1_3 => ?_)
  · refine L.val rfl rfl (R.fld rfl) ?_
    refine L.val rfl rfl (R.ldB rfl (by assumption) (by rfl)) ?_
    refine L.val rfl rfl (R.leq rfl rfl) ?_
    first | refine L.val rfl rfl (R.pickT rfl rfl) ?_ | refine L.val rfl rfl (R.pickF rfl rfl) ?_
    refine L.val rfl rfl (R.mv rfl) ?_
    refine L.caseP 11 rfl (fun hg1_8 => ?_) (fun hg1_8 => ?_)
    · refine L.val rfl rfl (R.fld rfl) ?_
      refine L.val rfl rfl (R.ldB rfl (by assumption) (by rfl)) ?_
      refine L.val rfl rfl (R.geq rfl rfl) ?_
      first | refine L.val rfl rfl (R.pickT rfl rfl) ?_ | refine L.val rfl rfl (R.pickF rfl rfl) ?_
      refine L.val rfl rfl (R.mv rfl) ?_
      refine L.caseP 16 rfl (fun hg1_13 => ?_) (fun hg1_13 => ?_)
      · refine L.val rfl rfl (R.fld rfl) ?_
        refine L.val rfl rfl (R.ldB rfl (by assumption) (by rfl)) ?_
        refine L.val rfl rfl (R.leq rfl rfl) ?_
        first | refine L.val rfl rfl (R.pickT rfl rfl) ?_ | refine L.val rfl rfl (R.pickF rfl rfl) ?_
        refine L.val rfl rfl (R.mv rfl) ?_
        refine L.caseP 21 rfl (fun hg1_18 => ?_) (fun hg1_18 => ?_)
        · refine L.val rfl rfl (R.fld rfl) ?_
          refine L.val rfl rfl (R.ldB rfl (by assumption) (by rfl)) ?_
          refine L.val rfl rfl (R.geq rfl rfl) ?_
          first | refine L.val rfl rfl (R.pickT rfl rfl) ?_ | refine L.val rfl rfl (R.pickF rfl rfl) ?_
          refine L.val rfl rfl (R.mv rfl) ?_
          refine L.caseP 26 rfl (fun hg1_23 => ?_) (fun hg1_23 => ?_)
          · refine L.val rfl rfl (R.fld rfl) ?_
            refine L.val rfl rfl (R.ldB rfl (by assumption) (by rfl)) ?_
            refine L.val rfl rfl (R.leq rfl rfl) ?_
            first | refine L.val rfl rfl (R.pickT rfl rfl) ?_ | refine L.val rfl rfl (R.pickF rfl rfl) ?_
            refine L.val rfl rfl (R.mv rfl) ?_
            refine L.caseP 31 rfl (fun hg1_28 => ?_) (fun hg1_28 => ?_)
            · refine L.val rfl rfl (R.fld rfl) ?_
              refine L.val rfl rfl (R.ldB rfl (by assumption) (by rfl)) ?_
              refine L.val rfl rfl (R.geq rfl rfl) ?_
              first | refine L.val rfl rfl (R.pickT rfl rfl) ?_ | refine L.val rfl rfl (R.pickF rfl rfl) ?_
              refine L.val rfl rfl (R.mv rfl) ?_
              refine L.caseP 36 rfl (fun hg1_33 => ?_) (fun hg1_33 => ?_)
              · refine L.val rfl rfl (R.fld rfl) ?_
                refine L.val rfl rfl (R.ldB rfl (by assumption) (by rfl)) ?_
                refine L.val rfl rfl (R.fld rfl) ?_
                refine L.val rfl rfl (R.ldB rfl (by assumption) (by rfl)) ?_
                refine L.val rfl rfl (R.lss rfl rfl) ?_
                first | refine L.val rfl rfl (R.pickT rfl rfl) ?_ | refine L.val rfl rfl (R.pickF rfl rfl) ?_
                refine L.val rfl rfl (R.mv rfl) ?_
                refine L.caseP 43 rfl (fun hg1_40 => ?_) (fun hg1_40 => ?_)
                · refine L.val rfl rfl (R.fld rfl) ?_
                  refine L.val rfl rfl (R.ldB rfl (by assumption) (by rfl)) ?_
                  refine L.val rfl rfl (R.lenS rfl) ?_
                  refine L.val rfl rfl (R.leq rfl rfl) ?_
                  first | refine L.val rfl rfl (R.pickT rfl rfl) ?_ | refine L.val rfl rfl (R.pickF rfl rfl) ?_
                  refine L.val rfl rfl (R.as rfl) ?_
                  refine L.nil ?_
                  refine N.seq ?_
                  refine G.ret1 rfl rfl ?_
                  first
                    | exact ⟨congrArg Value.bool (by rw [decide_eq_decide]; unfold okFrame; omega), E⟩
                    | exact ⟨congrArg Value.bool (by rw [eq_comm, decide_eq_false_iff_not]; unfold okFrame; omega), E⟩
                · refine L.pass rfl rfl ?_
                  refine L.pass rfl rfl ?_
                  refine L.pass rfl rfl ?_
                  refine L.pass rfl rfl ?_
                  first | refine L.val rfl rfl (R.pickT rfl rfl) ?_ | refine L.val rfl rfl (R.pickF rfl rfl) ?_
                  refine L.val rfl rfl (R.as rfl) ?_
                  refine L.nil ?_
                  refine N.seq ?_
                  refine G.ret1 rfl rfl ?_
                  first
                    | exact ⟨congrArg Value.bool (by rw [decide_eq_decide]; unfold okFrame; omega), E⟩
                    | exact ⟨congrArg Value.bool (by rw [eq_comm, decide_eq_false_iff_not]; unfold okFrame; omega), E⟩
              · refine L.pass rfl rfl ?_
                refine L.pass rfl rfl ?_
                refine L.pass rfl rfl ?_
                refine L.pass rfl rfl ?_
                refine L.pass rfl rfl ?_
                first | refine L.val rfl rfl (R.pickT rfl rfl) ?_ | refine L.val rfl rfl (R.pickF rfl rfl) ?_
                refine L.val rfl rfl (R.mv rfl) ?_
                refine L.pass rfl rfl ?_
                refine L.pass rfl rfl ?_
                refine L.pass rfl rfl ?_
                refine L.pass rfl rfl ?_
                first | refine L.val rfl rfl (R.pickT rfl rfl) ?_ | refine L.val rfl rfl (R.pickF rfl rfl) ?_
                refine L.val rfl rfl (R.as rfl) ?_
                refine L.nil ?_
                refine N.seq ?_
                refine G.ret1 rfl rfl ?_
                first
                  | exact ⟨congrArg Value.bool (by rw [decide_eq_decide]; unfold okFrame; omega), E⟩
                  | exact ⟨congrArg Value.bool (by rw [eq_comm, decide_eq_false_iff_not]; unfold okFrame; omega), E⟩
            · refine L.pass rfl rfl ?_
              refine L.pass rfl rfl ?_
              refine L.pass rfl rfl ?_
              first | refine L.val rfl rfl (R.pickT rfl rfl) ?_ | refine L.val rfl rfl (R.pickF rfl rfl) ?_
              refine L.val rfl rfl (R.mv rfl) ?_
              refine L.pass rfl rfl ?_
              refine L.pass rfl rfl ?_
              refine L.pass rfl rfl ?_
              refine L.pass rfl rfl ?_
              refine L.pass rfl rfl ?_
              first | refine L.val rfl rfl (R.pickT rfl rfl) ?_ | refine L.val rfl rfl (R.pickF rfl rfl) ?_
              refine L.val rfl rfl (R.mv rfl) ?_
              refine L.pass rfl rfl ?_
              refine L.pass rfl rfl ?_
              refine L.pass rfl rfl ?_
              refine L.pass rfl rfl ?_
              first | refine L.val rfl rfl (R.pickT rfl rfl) ?_ | refine L.val rfl rfl (R.pickF rfl rfl) ?_
              refine L.val rfl rfl (R.as rfl) ?_
              refine L.nil ?_
              refine N.seq ?_
              refine G.ret1 rfl rfl ?_
              first
                | exact ⟨congrArg Value.bool (by rw [decide_eq_decide]; unfold okFrame; omega), E⟩
                | exact ⟨congrArg Value.bool (by rw [eq_comm, decide_eq_false_iff_not]; unfold okFrame; omega), E⟩
          · refine L.pass rfl rfl ?_
            refine L.pass rfl rfl ?_
            refine L.pass rfl rfl ?_
            first | refine L.val rfl rfl (R.pickT rfl rfl) ?_ | refine L.val rfl rfl (R.pickF rfl rfl) ?_
            refine L.val rfl rfl (R.mv rfl) ?_
            refine L.pass rfl rfl ?_
            refine L.pass rfl rfl ?_
            refine L.pass rfl rfl ?_
            first | refine L.val rfl rfl (R.pickT rfl rfl) ?_ | refine L.val rfl rfl (R.pickF rfl rfl) ?_
            refine L.val rfl rfl (R.mv rfl) ?_
            refine L.pass rfl rfl ?_
            refine L.pass rfl rfl ?_
            refine L.pass rfl rfl ?_
            refine L.pass rfl rfl ?_
            refine L.pass rfl rfl ?_
            first | refine L.val rfl rfl (R.pickT rfl rfl) ?_ | refine L.val rfl rfl (R.pickF rfl rfl) ?_
            refine L.val rfl rfl (R.mv rfl) ?_
            refine L.pass rfl rfl ?_
            refine L.pass rfl rfl ?_
            refine L.pass rfl rfl ?_
            refine L.pass rfl rfl ?_
            first | refine L.val rfl rfl (R.pickT rfl rfl) ?_ | refine L.val rfl rfl (R.pickF rfl rfl) ?_
            refine L.val rfl rfl (R.as rfl) ?_
            refine L.nil ?_
            refine N.seq ?_
            refine G.ret1 rfl rfl ?_
            first
              | exact ⟨congrArg Value.bool (by rw [decide_eq_decide]; unfold okFrame; omega), E⟩
              | exact ⟨congrArg Value.bool (by rw [eq_comm, decide_eq_false_iff_not]; unfold okFrame; omega), E⟩
        · refine L.pass rfl rfl ?_
          refine L.pass rfl rfl ?_
          refine L.pass rfl rfl ?_
          first | refine L.val rfl rfl (R.pickT rfl rfl) ?_ | refine L.val rfl rfl (R.pickF rfl rfl) ?_
          refine L.val rfl rfl (R.mv rfl) ?_
          refine L.pass rfl rfl ?_
          refine L.pass rfl rfl ?_
          refine L.pass rfl rfl ?_
          first | refine L.val rfl rfl (R.pickT rfl rfl) ?_ | refine L.val rfl rfl (R.pickF rfl rfl) ?_
          refine L.val rfl rfl (R.mv rfl) ?_
          refine L.pass rfl rfl ?_
          refine L.pass rfl rfl ?_
          refine L.pass rfl rfl ?_
          first | refine L.val rfl rfl (R.pickT rfl rfl) ?_ | refine L.val rfl rfl (R.pickF rfl rfl) ?_
          refine L.val rfl rfl (R.mv rfl) ?_
          refine L.pass rfl rfl ?_
          refine L.pass rfl rfl ?_
          refine L.pass rfl rfl ?_
          refine L.pass rfl rfl ?_
          refine L.pass rfl rfl ?_
          first | refine L.val rfl rfl (R.pickT rfl rfl) ?_ | refine L.val rfl rfl (R.pickF rfl rfl) ?_
          refine L.val rfl rfl (R.mv rfl) ?_
          refine L.pass rfl rfl ?_
          refine L.pass rfl rfl ?_
          refine L.pass rfl rfl ?_
          refine L.pass rfl rfl ?_
          first | refine L.val rfl rfl (R.pickT rfl rfl) ?_ | refine L.val rfl rfl (R.pickF rfl rfl) ?_
          refine L.val rfl rfl (R.as rfl) ?_
          refine L.nil ?_
          refine N.seq ?_
          refine G.ret1 rfl rfl ?_
          first
            | exact ⟨congrArg Value.bool (by rw [decide_eq_decide]; unfold okFrame; omega), E⟩
            | exact ⟨congrArg Value.bool (by rw [eq_comm, decide_eq_false_iff_not]; unfold okFrame; omega), E⟩
      · refine L.pass rfl rfl ?_
        refine L.pass rfl rfl ?_
        refine L.pass rfl rfl ?_
        first | refine L.val rfl rfl (R.pickT rfl rfl) ?_ | refine L.val rfl rfl (R.pickF rfl rfl) ?_
        refine L.val rfl rfl (R.mv rfl) ?_
        refine L.pass rfl rfl ?_
        refine L.pass rfl rfl ?_
        refine L.pass rfl rfl ?_
        first | refine L.val rfl rfl (R.pickT rfl rfl) ?_ | refine L.val rfl rfl (R.pickF rfl rfl) ?_
        refine L.val rfl rfl (R.mv rfl) ?_
        refine L.pass rfl rfl ?_
        refine L.pass rfl rfl ?_
        refine L.pass rfl rfl ?_
        first | refine L.val rfl rfl (R.pickT rfl rfl) ?_ | refine L.val rfl rfl (R.pickF rfl rfl) ?_
        refine L.val rfl rfl (R.mv rfl) ?_
        refine L.pass rfl rfl ?_
        refine L.pass rfl rfl ?_
        refine L.pass rfl rfl ?_
        first | refine L.val rfl rfl (R.pickT rfl rfl) ?_ | refine L.val rfl rfl (R.pickF rfl rfl) ?_
        refine L.val rfl rfl (R.mv rfl) ?_
        refine L.pass rfl rfl ?_
        refine L.pass rfl rfl ?_
        refine L.pass rfl rfl ?_
        refine L.pass rfl rfl ?_
        refine L.pass rfl rfl ?_
        first | refine L.val rfl rfl (R.pickT rfl rfl) ?_ | refine L.val rfl rfl (R.pickF rfl rfl) ?_
        refine L.val rfl rfl (R.mv rfl) ?_
        refine L.pass rfl rfl ?_
        refine L.pass rfl rfl ?_
        refine L.pass rfl rfl ?_
        refine L.pass rfl rfl ?_
        first | refine L.val rfl rfl (R.pickT rfl rfl) ?_ | refine L.val rfl rfl (R.pickF rfl rfl) ?_
        refine L.val rfl rfl (R.as rfl) ?_
        refine L.nil ?_
        refine N.seq ?_
        refine G.ret1 rfl rfl ?_
        first
          | exact ⟨congrArg Value.bool (by rw [decide_eq_decide]; unfold okFrame; omega), E⟩
          | exact ⟨congrArg Value.bool (by rw [eq_comm, decide_eq_false_iff_not]; unfold okFrame; omega), E⟩
    · refine L.pass rfl rfl ?_
      refine L.pass rfl rfl ?_
      refine L.pass rfl rfl ?_
      first | refine L.val rfl rfl (R.pickT rfl rfl) ?_ | refine L.val rfl rfl (R.pickF rfl rfl) ?_
      refine L.val rfl rfl (R.mv rfl) ?_
      refine L.pass rfl rfl ?_
      refine L.pass rfl rfl ?_
      refine L.pass rfl rfl ?_
      first | refine L.val rfl rfl (R.pickT rfl rfl) ?_ | refine L.val rfl rfl (R.pickF rfl rfl) ?_
      refine L.val rfl rfl (R.mv rfl) ?_
      refine L.pass rfl rfl ?_
      refine L.pass rfl rfl ?_
      refine L.pass rfl rfl ?_
      first | refine L.val rfl rfl (R.pickT rfl rfl) ?_ | refine L.val rfl rfl (R.pickF rfl rfl) ?_
      refine L.val rfl rfl (R.mv rfl) ?_
      refine L.pass rfl rfl ?_
      refine L.pass rfl rfl ?_
      refine L.pass rfl rfl ?_
      first | refine L.val rfl rfl (R.pickT rfl rfl) ?_ | refine L.val rfl rfl (R.pickF rfl rfl) ?_
      refine L.val rfl rfl (R.mv rfl) ?_
      refine L.pass rfl rfl ?_
      refine L.pass rfl rfl ?_
      refine L.pass rfl rfl ?_
      first | refine L.val rfl rfl (R.pickT rfl rfl) ?_ | refine L.val rfl rfl (R.pickF rfl rfl) ?_
      refine L.val rfl rfl (R.mv rfl) ?_
      refine L.pass rfl rfl ?_
      refine L.pass rfl rfl ?_
      refine L.pass rfl rfl ?_
      refine L.pass rfl rfl ?_
      refine L.pass rfl rfl ?_
      first | refine L.val rfl rfl (R.pickT rfl rfl) ?_ | refine L.val rfl rfl (R.pickF rfl rfl) ?_
      refine L.val rfl rfl (R.mv rfl) ?_
      refine L.pass rfl rfl ?_
      refine L.pass rfl rfl ?_
      refine L.pass rfl rfl ?_
      refine L.pass rfl rfl ?_
      first | refine L.val rfl rfl (R.pickT rfl rfl) ?_ | refine L.val rfl rfl (R.pickF rfl rfl) ?_
      refine L.val rfl rfl (R.as rfl) ?_
      refine L.nil ?_
      refine N.seq ?_
      refine G.ret1 rfl rfl ?_
      first
        | exact ⟨congrArg Value.bool (by rw [decide_eq_decide]; unfold okFrame; omega), E⟩
        | exact ⟨congrArg Value.bool (by rw [eq_comm, decide_eq_false_iff_not]; unfold okFrame; omega), E⟩
  · refine L.pass rfl rfl ?_
    refine L.pass rfl rfl ?_
    refine L.pass rfl rfl ?_
    first | refine L.val rfl rfl (R.pickT rfl rfl) ?_ | refine L.val rfl rfl (R.pickF rfl rfl) ?_
    refine L.val rfl rfl (R.mv rfl) ?_
    refine L.pass rfl rfl ?_
    refine L.pass rfl rfl ?_
    refine L.pass rfl rfl ?_
    first | refine L.val rfl rfl (R.pickT rfl rfl) ?_ | refine L.val rfl rfl (R.pickF rfl rfl) ?_
    refine L.val rfl rfl (R.mv rfl) ?_
    refine L.pass rfl rfl ?_
    refine L.pass rfl rfl ?_
    refine L.pass rfl rfl ?_
    first | refine L.val rfl rfl (R.pickT rfl rfl) ?_ | refine L.val rfl rfl (R.pickF rfl rfl) ?_
    refine L.val rfl rfl (R.mv rfl) ?_
    refine L.pass rfl rfl ?_
    refine L.pass rfl rfl ?_
    refine L.pass rfl rfl ?_
    first | refine L.val rfl rfl (R.pickT rfl rfl) ?_ | refine L.val rfl rfl (R.pickF rfl rfl) ?_
    refine L.val rfl rfl (R.mv rfl) ?_
    refine L.pass rfl rfl ?_
    refine L.pass rfl rfl ?_
    refine L.pass rfl rfl ?_
    first | refine L.val rfl rfl (R.pickT rfl rfl) ?_ | refine L.val rfl rfl (R.pickF rfl rfl) ?_
    refine L.val rfl rfl (R.mv rfl) ?_
    refine L.pass rfl rfl ?_
    refine L.pass rfl rfl ?_
    refine L.pass rfl rfl ?_
    first | refine L.val rfl rfl (R.pickT rfl rfl) ?_ | refine L.val rfl rfl (R.pickF rfl rfl) ?_
    refine L.val rfl rfl (R.mv rfl) ?_
    refine L.pass rfl rfl ?_
    refine L.pass rfl rfl ?_
    refine L.pass rfl rfl ?_
    refine L.pass rfl rfl ?_
    refine L.pass rfl rfl ?_
    first | refine L.val rfl rfl (R.pickT rfl rfl) ?_ | refine L.val rfl rfl (R.pickF rfl rfl) ?_
    refine L.val rfl rfl (R.mv rfl) ?_
    refine L.pass rfl rfl ?_
    refine L.pass rfl rfl ?_
    refine L.pass rfl rfl ?_
    refine L.pass rfl rfl ?_
    first | refine L.val rfl rfl (R.pickT rfl rfl) ?_ | refine L.val rfl rfl (R.pickF rfl rfl) ?_
    refine L.val rfl rfl (R.as rfl) ?_
    refine L.nil ?_
    refine N.seq ?_
    refine G.ret1 rfl rfl ?_
    first
      | exact ⟨congrArg Value.bool (by rw [decide_eq_decide]; unfold okFrame; omega), E⟩
      | exact ⟨congrArg Value.bool (by rw [eq_comm, decide_eq_false_iff_not]; unfold okFrame; omega), E⟩

theorem refput6_ok (p q i k : Int) (a : Option Addr) (n c : Nat) (l : List UInt8) (w : World) (hok : okFrame p q i k l) (hb : Bs w a n l) (hn : n ≤ c) (hc : n ≤ 140737488351232) (hp : -9223372036854775808 ≤ p ∧ p ≤ 9223372036854775807)(hq : -9223372036854775808 ≤ q ∧ q ≤ 9223372036854775807)(hi : -9223372036854775808 ≤ i ∧ i ≤ 9223372036854775807)(hk : -9223372036854775808 ≤ k ∧ k ≤ 9223372036854775807) : Meets Try.prog 131 [.agg #[.int .i64 p, .int .i64 q, .int .i64 i, .int .i64 k, .slice a n c]] w (fun v w' => v = .string (str (frameF p q i k l)) ∧ Ext [] w w') := by
  refine Meets.enter Try.func131 rfl 28 rfl (Nat.le_of_ble_eq_true rfl) ?_
  have E := Ext.refl [] w
  obtain ⟨⟨o1, o2⟩, ⟨o3, o4⟩, ⟨o5, o6⟩, ⟨o7, o8⟩, o9⟩ := hok
  refine G.seq ?_
  refine G.region ?_
  refine L.do rfl rfl (R.box rfl) ?_
  rintro _ w1 ⟨b1, rfl, hb1, hs1, e1, B1⟩
  replace E := E.trans0 e1
  refine L.val rfl rfl (R.as rfl) ?_
  refine L.nil ?_
  refine N.seq ?_
  refine G.seq ?_
  refine G.quiet (by decide +kernel) rfl ?_
  refine Q.val rfl rfl rfl rfl (fun w2 hE => R.fld rfl) ?_
  refine Q.val rfl rfl rfl rfl (fun w2 hE => R.ldB rfl (Blk.ext0 (by assumption) hE) (by rfl)) ?_
  refine Q.be 5 rfl (congrArg (Value.int .i64) (show p = ((p.toNat : Nat) : Int) by omega)) ?_
  refine Q.call (.string (str (be 8 p.toNat))) rfl rfl rfl go130 (fun w2 hE => ⟨_, rfl, (refnumber_ok 8 _ _ (by decide) (by omega)).mono (fun _ _ h => h)⟩) ?_
  refine Q.val rfl rfl rfl rfl (fun w2 hE => R.addStr (a := [183, 30]) rfl rfl (by simp [be_length])) ?_
  refine Q.val rfl rfl rfl rfl (fun w2 hE => R.fld rfl) ?_
  refine Q.val rfl rfl rfl rfl (fun w2 hE => R.ldB rfl (Blk.ext0 (by assumption) hE) (by rfl)) ?_
  refine Q.be 9 rfl (congrArg (Value.int .i64) (show q = ((q.toNat : Nat) : Int) by omega)) ?_
  refine Q.call (.string (str (be 4 q.toNat))) rfl rfl rfl go130 (fun w2 hE => ⟨_, rfl, (refnumber_ok 4 _ _ (by decide) (by omega)).mono (fun _ _ h => h)⟩) ?_
  refine Q.val rfl rfl rfl rfl (fun w2 hE => R.addStr rfl rfl (by simp [be_length, textF] <;> omega)) ?_
  refine Q.val rfl rfl rfl rfl (fun w2 hE => R.fld rfl) ?_
  refine Q.val rfl rfl rfl rfl (fun w2 hE => R.ldB rfl (Blk.ext0 (by assumption) hE) (by rfl)) ?_
  refine Q.be 13 rfl (congrArg (Value.int .i64) (show i = ((i.toNat : Nat) : Int) by omega)) ?_
  refine Q.call (.string (str (be 2 i.toNat))) rfl rfl rfl go130 (fun w2 hE => ⟨_, rfl, (refnumber_ok 2 _ _ (by decide) (by omega)).mono (fun _ _ h => h)⟩) ?_
  refine Q.val rfl rfl rfl rfl (fun w2 hE => R.addStr rfl rfl (by simp [be_length, textF] <;> omega)) ?_
  refine Q.val rfl rfl rfl rfl (fun w2 hE => R.fld rfl) ?_
  refine Q.val rfl rfl rfl rfl (fun w2 hE => R.ldB rfl (Blk.ext0 (by assumption) hE) (by rfl)) ?_
  refine Q.be 17 rfl (congrArg (Value.int .i64) (show k = ((k.toNat : Nat) : Int) by omega)) ?_
  refine Q.call (.string (str (be 2 k.toNat))) rfl rfl rfl go130 (fun w2 hE => ⟨_, rfl, (refnumber_ok 2 _ _ (by decide) (by omega)).mono (fun _ _ h => h)⟩) ?_
  refine Q.val rfl rfl rfl rfl (fun w2 hE => R.addStr rfl rfl (by simp [be_length, textF] <;> omega)) ?_
  refine Q.val rfl rfl rfl rfl (fun w2 hE => R.fld rfl) ?_
  refine Q.val rfl rfl rfl rfl (fun w2 hE => R.ldB rfl (Blk.ext0 (by assumption) hE) (by rfl)) ?_
  refine Q.call (.string (str (textF l))) rfl rfl rfl go185 (fun w2 hE => ⟨_, rfl, (reftext_ok _ _ _ _ _ (hb.ext0 (E.trans0 hE)) (by omega)).mono (fun _ _ h => h)⟩) ?_
  refine Q.val rfl rfl rfl rfl (fun w2 hE => R.addStr rfl rfl (by simp [be_length, textF] <;> omega)) ?_
  refine Q.val rfl rfl rfl rfl (fun w2 hE => R.as rfl) ?_
  refine Q.nil (fun w2 e2 => ?_)
  replace E := E.trans0 e2
  refine N.seq ?_
  refine G.seq ?_
  refine G.region ?_
  refine L.val rfl rfl (R.mv rfl) ?_
  refine L.callF rfl rfl rfl go187 (refpadded_ok _ 64 _ (by decide) (by simp [be_length, textF] <;> omega)) ?_
  rintro _ _ ⟨rfl, hw⟩
  obtain rfl := hw.symm
  refine L.do rfl rfl (R.strBytes rfl) ?_
  rintro _ w4 ⟨b26, c26, rfl, hb26, hs26, hc26, e4, C26⟩
  replace E := E.trans0 e4
  have hfp := frame_pad p q i k l o9
  refine L.callF rfl rfl rfl go186 (refmark_ok _ _ _ _ _ (Bs.of_cells C26 rfl) hc26 (show (padF 64 (frameB p q i k l)).length ≤ 140737488355328 by rw [hfp]; decide)) ?_
  rintro _ w5 ⟨rfl, e5⟩
  replace E := E.trans0 e5
  refine L.val rfl rfl (R.as rfl) ?_
  refine L.nil ?_
  refine N.seq ?_
  refine G.ret1 rfl rfl ?_
  exact ⟨rfl, E⟩

end Go.Proofs.Ythpolibakkmmeaa
