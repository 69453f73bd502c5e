/-
  Texts of this claim, put together.
-/
import Derived.Test.YthpolibakkmmeaaCtlCLz1
/-
  The walks of package pack: the pen.
-/
set_option linter.unusedVariables false
namespace Go.Proofs.Ythpolibakkmmeaa
open Go Brv Brv.Crc Brv.Pack
theorem fits_ok (x y : Int) (w : World) (hx : -9223372036854775808 ≤ x ∧ x ≤ 9223372036854775807) (hy : -9223372036854775808 ≤ y ∧ y ≤ 9223372036854775807) : Meets Try.prog 194 [.int .i64 x, .int .i64 y] w (fun v w' => v = .bool (fitsF x y) ∧ w' = w) := by
  refine Meets.enter Try.func194 rfl 26 rfl (Nat.le_of_ble_eq_true rfl) ?_
  refine G.seq ?_
  refine G.region ?_
  refine L.val rfl rfl (R.as rfl) ?_
  refine L.nil ?_
  refine N.seq ?_
  refine G.seq ?_
  refine G.region ?_
  refine L.val rfl rfl (R.mv rfl) ?_
  refine L.val rfl rfl (R.geq rfl rfl) ?_
  refine L.val rfl rfl (R.mv rfl) ?_
  refine L.caseP 7 rfl (fun hg1_2 => ?_) (fun hg1_2 => ?_)
  · refine L.val rfl rfl (R.mv rfl) ?_
    refine L.val rfl rfl (R.leq rfl rfl) ?_
    first | refine L.val rfl rfl (R.pickT rfl rfl) ?_ | refine L.val rfl rfl (R.pickF rfl rfl) ?_
    refine L.val rfl rfl (R.mv rfl) ?_
    refine L.caseP 11 rfl (fun hg1_6 => ?_) (fun hg1_6 => ?_)
    · refine L.val rfl rfl (R.mv rfl) ?_
      refine L.val rfl rfl (R.geq rfl rfl) ?_
      first | refine L.val rfl rfl (R.pickT rfl rfl) ?_ | refine L.val rfl rfl (R.pickF rfl rfl) ?_
      refine L.val rfl rfl (R.mv rfl) ?_
      refine L.caseP 15 rfl (fun hg1_10 => ?_) (fun hg1_10 => ?_)
      · refine L.val rfl rfl (R.mv rfl) ?_
        refine L.val rfl rfl (R.eqI rfl rfl) ?_
        refine L.val rfl rfl (R.mv rfl) ?_
        refine L.caseP 18 rfl (fun hg1_13 => ?_) (fun hg1_13 => ?_)
        · refine L.pass rfl rfl ?_
          refine L.pass rfl rfl ?_
          refine L.pass rfl rfl ?_
          refine L.pass rfl rfl ?_
          refine L.pass rfl rfl ?_
          first | refine L.val rfl rfl (R.pickT rfl rfl) ?_ | refine L.val rfl rfl (R.pickF rfl rfl) ?_
          first | refine L.val rfl rfl (R.pickT rfl rfl) ?_ | refine L.val rfl rfl (R.pickF rfl rfl) ?_
          refine L.val rfl rfl (R.as rfl) ?_
          refine L.nil ?_
          refine N.seq ?_
          refine G.ret1 rfl rfl ?_
          exact ⟨congrArg Value.bool (fitsF_eight hg1_13 hg1_10 hx.2), rfl⟩
        · refine L.val rfl rfl (R.mv rfl) ?_
          refine L.val rfl rfl (R.mv rfl) ?_
          refine L.val rfl rfl (R.mul rfl rfl (by omega)) ?_
          refine L.val rfl rfl (R.shrW rfl rfl (by omega) _ rfl) ?_
          refine L.val rfl rfl (R.eqI rfl rfl) ?_
          first | refine L.val rfl rfl (R.pickT rfl rfl) ?_ | refine L.val rfl rfl (R.pickF rfl rfl) ?_
          first | refine L.val rfl rfl (R.pickT rfl rfl) ?_ | refine L.val rfl rfl (R.pickF rfl rfl) ?_
          refine L.val rfl rfl (R.as rfl) ?_
          refine L.nil ?_
          refine N.seq ?_
          refine G.ret1 rfl rfl ?_
          exact ⟨congrArg Value.bool (fitsF_shift hg1_2 hg1_6 hg1_13 hg1_10), rfl⟩
      · refine L.pass rfl rfl ?_
        refine L.pass rfl rfl ?_
        refine L.pass rfl rfl ?_
        refine L.pass rfl rfl ?_
        refine L.pass rfl rfl ?_
        refine L.pass rfl rfl ?_
        refine L.pass rfl rfl ?_
        refine L.pass rfl rfl ?_
        refine L.pass rfl rfl ?_
        first | refine L.val rfl rfl (R.pickT rfl rfl) ?_ | refine L.val rfl rfl (R.pickF rfl rfl) ?_
        refine L.val rfl rfl (R.as rfl) ?_
        refine L.nil ?_
        refine N.seq ?_
        refine G.ret1 rfl rfl ?_
        exact ⟨congrArg Value.bool (fitsF_no (by omega)), rfl⟩
    · refine L.pass rfl rfl ?_
      refine L.pass rfl rfl ?_
      first | refine L.val rfl rfl (R.pickT rfl rfl) ?_ | refine L.val rfl rfl (R.pickF rfl rfl) ?_
      refine L.val rfl rfl (R.mv rfl) ?_
      refine L.pass rfl rfl ?_
      refine L.pass rfl rfl ?_
      refine L.pass rfl rfl ?_
      refine L.pass rfl rfl ?_
      refine L.pass rfl rfl ?_
      refine L.pass rfl rfl ?_
      refine L.pass rfl rfl ?_
      refine L.pass rfl rfl ?_
      refine L.pass rfl rfl ?_
      first | refine L.val rfl rfl (R.pickT rfl rfl) ?_ | refine L.val rfl rfl (R.pickF rfl rfl) ?_
      refine L.val rfl rfl (R.as rfl) ?_
      refine L.nil ?_
      refine N.seq ?_
      refine G.ret1 rfl rfl ?_
      exact ⟨congrArg Value.bool (fitsF_no (by omega)), rfl⟩
  · refine L.pass rfl rfl ?_
    refine L.pass rfl rfl ?_
    first | refine L.val rfl rfl (R.pickT rfl rfl) ?_ | refine L.val rfl rfl (R.pickF rfl rfl) ?_
    refine L.val rfl rfl (R.mv rfl) ?_
    refine L.pass rfl rfl ?_
    refine L.pass rfl rfl ?_
    first | refine L.val rfl rfl (R.pickT rfl rfl) ?_ | refine L.val rfl rfl (R.pickF rfl rfl) ?_
    refine L.val rfl rfl (R.mv rfl) ?_
    refine L.pass rfl rfl ?_
    refine L.pass rfl rfl ?_
    refine L.pass rfl rfl ?_
    refine L.pass rfl rfl ?_
    refine L.pass rfl rfl ?_
    refine L.pass rfl rfl ?_
    refine L.pass rfl rfl ?_
    refine L.pass rfl rfl ?_
    refine L.pass rfl rfl ?_
    first | refine L.val rfl rfl (R.pickT rfl rfl) ?_ | refine L.val rfl rfl (R.pickF rfl rfl) ?_
    refine L.val rfl rfl (R.as rfl) ?_
    refine L.nil ?_
    refine N.seq ?_
    refine G.ret1 rfl rfl ?_
    exact ⟨congrArg Value.bool (fitsF_no (by omega)), rfl⟩

theorem number_nil (x y : Int) (w : World) : Meets Try.prog 140 [.pointer none, .int .i64 x, .int .i64 y] w (fun v w' => v = .bool false ∧ w' = w) := by
  refine Meets.enter Try.func140 rfl 38 rfl (Nat.le_of_ble_eq_true rfl) ?_
  refine G.seq ?_
  refine G.region ?_
  refine L.val rfl rfl (R.as rfl) ?_
  refine L.nil ?_
  refine N.seq ?_
  refine G.seq ?_
  refine G.seq ?_
  refine G.region ?_
  refine L.val rfl rfl (R.mv rfl) ?_
  refine L.val rfl rfl (R.eqNilP rfl rfl) ?_
  refine L.val rfl rfl (R.mv rfl) ?_
  refine L.pass rfl rfl ?_
  refine L.pass rfl rfl ?_
  refine L.pass rfl rfl ?_
  refine L.pass rfl rfl ?_
  first | refine L.val rfl rfl (R.pickT rfl rfl) ?_ | refine L.val rfl rfl (R.pickF rfl rfl) ?_
  refine L.nil ?_
  refine N.seq ?_
  refine G.condT rfl ?_
  refine G.seq ?_
  refine G.region ?_
  refine L.val rfl rfl (R.as rfl) ?_
  refine L.nil ?_
  refine N.seq ?_
  refine G.ret1 rfl rfl ?_
  exact ⟨rfl, rfl⟩

theorem number_ok (p : Nat) (S : List Nat) (l : List UInt8) (x y : Int) (w : World) (hP : PenAt 228 5 w p l S) (hl : l.length ≤ 70368744177664) (hx : -9223372036854775808 ≤ x ∧ x ≤ 9223372036854775807) (hy : -9223372036854775808 ≤ y ∧ y ≤ 9223372036854775807) : Meets Try.prog 140 [.pointer (some ⟨p, 0, none⟩), .int .i64 x, .int .i64 y] w (fun v w' => v = .bool (fitsF x y) ∧ ∃ S', PenAt 228 5 w' p (l ++ (if fitsF x y then be y.toNat x.toNat else [])) S' ∧ Grown S S' w w') := by
  refine Meets.enter Try.func140 rfl 38 rfl (Nat.le_of_ble_eq_true rfl) ?_
  refine G.seq ?_
  refine G.region ?_
  refine L.val rfl rfl (R.as rfl) ?_
  refine L.nil ?_
  refine N.seq ?_
  refine G.seq ?_
  refine G.seq ?_
  refine G.region ?_
  refine L.val rfl rfl (R.mv rfl) ?_
  refine L.val rfl rfl (R.eqNilP rfl rfl) ?_
  refine L.val rfl rfl (R.mv rfl) ?_
  refine L.val rfl rfl (R.mv rfl) ?_
  refine L.val rfl rfl (R.mv rfl) ?_
  refine L.callF rfl rfl rfl go194 (fits_ok _ _ _ hx hy) ?_
  rintro _ _ ⟨rfl, hw⟩
  obtain rfl := hw.symm
  refine L.val rfl rfl (R.not rfl) ?_
  first | refine L.val rfl rfl (R.pickT rfl rfl) ?_ | refine L.val rfl rfl (R.pickF rfl rfl) ?_
  refine L.nil ?_
  refine N.seq ?_
  refine G.condB rfl (fun h0 => ?_) (fun h0 => ?_)
  · have hf : fitsF x y = false := by simpa using h0
    refine G.seq ?_
    refine G.region ?_
    refine L.val rfl rfl (R.as rfl) ?_
    refine L.nil ?_
    refine N.seq ?_
    refine G.ret1 rfl rfl ?_
    refine ⟨congrArg Value.bool hf.symm, S, ?_, Grown.refl _ _⟩
    rw [hf]; simpa using hP
  · have hf : fitsF x y = true := by simpa using h0
    have hf2 := fitsF_spec.1 hf
    obtain ⟨x, rfl⟩ := Int.eq_ofNat_of_zero_le hf2.2.2.1
    obtain ⟨y, rfl⟩ := Int.eq_ofNat_of_zero_le (show 0 ≤ y by omega)
    refine G.skip ?_
    refine N.seq ?_
    refine G.seq ?_
    refine G.seq ?_
    refine G.region ?_
    refine L.val rfl rfl (R.mv rfl) ?_
    refine L.val rfl rfl (R.mv rfl) ?_
    refine L.nil ?_
    refine N.seq ?_
    refine G.block ?_
    refine G.loop (X := Nat) (fun k => [(0, .pointer (some ⟨p, 0, none⟩)), (1, .int .i64 (x : Int)), (2, .int .i64 (y : Int)), (16, .int .i64 (y : Int)), (17, .int .i64 (k : Int))]) (fun k w' => k ≤ y ∧ ∃ S', PenAt 228 5 w' p (l ++ (be y x).take k) S' ∧ Grown S S' w w') (fun k => y - k) (0) (Sub.cons rfl (Sub.cons rfl (Sub.cons rfl (Sub.cons rfl (Sub.cons rfl (Sub.nil _)))))) ⟨by omega, S, by simpa using hP, Grown.refl _ _⟩ ?_
    rintro k w1 ⟨hk, S1, hP1, hG⟩
    refine G.seq ?_
    refine G.region ?_
    refine L.val rfl rfl (R.lss rfl rfl) ?_
    refine L.nil ?_
    refine N.seq ?_
    refine G.seq ?_
    refine G.condP rfl (fun h1 => ?_) (fun h1 => ?_)
    · obtain ⟨a, n, c, M, rfl, hpM, hn, hB, hO⟩ := hP1
      have hkt := be_take y x k (by omega)
      have hpl := hB.lt
      have htl : (List.take k (be y x)).length ≤ 8 := by rw [List.length_take, be_length]; omega
      rw [List.length_append] at hn
      refine G.skip ?_
      refine N.seq ?_
      refine G.seq ?_
      refine G.block ?_
      refine G.seq ?_
      refine G.region ?_
      refine L.val rfl rfl (R.mv rfl) ?_
      refine L.val rfl rfl (R.as rfl) ?_
      refine L.nil ?_
      refine N.seq ?_
      refine G.staged [14, 17] [.blocks (M), .blocks ([p])] [Ext [] w1, Ext M w1, fun w' => ∃ S', PenAt 228 5 w' p (l ++ (be y x).take (k + 1)) S' ∧ Grown (p :: M) S' w1 w'] [(14, 33), (17, 33), (17, 34)] (by decide +kernel) (by decide +kernel) rfl rfl rfl (fun _ h => h) ?_
      refine Z.val rfl rfl rfl rfl rfl (fun w2 => R.mv rfl) ?_
      refine Z.val rfl rfl rfl rfl rfl (fun w2 => R.mv rfl) ?_
      refine Z.val rfl rfl rfl rfl rfl (fun w2 => R.nilChk rfl) ?_
      refine Z.val rfl rfl rfl rfl rfl (fun w2 => R.fld rfl) ?_
      refine Z.read 0 (by decide +kernel) rfl rfl rfl rfl rfl rfl (fun w2 hJ => R.ldB rfl (hB.ext0 hJ) rfl) ?_
      refine Z.val rfl rfl rfl rfl rfl (fun w2 => R.mv rfl) ?_
      refine Z.val rfl rfl rfl rfl rfl (fun w2 => R.mv rfl) ?_
      refine Z.val rfl rfl rfl rfl rfl (fun w2 => R.sub' rfl rfl (by omega)) ?_
      refine Z.val rfl rfl rfl rfl rfl (fun w2 => R.mv rfl) ?_
      refine Z.val rfl rfl rfl rfl rfl (fun w2 => R.sub' rfl rfl (by omega)) ?_
      refine Z.val rfl rfl rfl rfl rfl (fun w2 => R.mul rfl rfl (by omega)) ?_
      refine Z.val rfl rfl rfl rfl rfl (fun w2 => R.shrW rfl rfl (by omega) _ rfl) ?_
      refine Z.val rfl rfl rfl rfl rfl (fun w2 => R.conv rfl _ (shift_byte x y k (by omega) (by omega) _ rfl)) ?_
      refine Z.new (A := IsBs 1 [UInt8.ofNat (x / 256 ^ (y - 1 - k) % 256)]) (Lasts.kill (IsBs.keep _ _) (by decide +kernel)) 0 (by decide +kernel) rfl rfl rfl rfl rfl (fun w2 hJ => (R.buildA rfl rfl rfl rfl rfl).mono (fun _ _ h => have q := h.bs (l := [UInt8.ofNat (x / 256 ^ (y - 1 - k) % 256)]) rfl rfl; ⟨q.1, q.2, hJ.trans0 q.2⟩)) ?_
      refine Z.put (A := Held M w1.heap.size 5 1 (n + 1) (vbs (l ++ (be y x).take (k + 1)))) (Lasts.kill (Held.keep _ _ _ _ _ _) (by decide +kernel)) 0 (by decide +kernel) rfl rfl rfl rfl rfl rfl rfl (fun w2 hJ => by rintro v ⟨a2, c2, rfl, _, hb2⟩; exact (R.app rfl rfl (hO.ext0 hJ) hb2.cells rfl (vbs_one _) (by simp [maxLen]; omega) (by omega)).mono (fun _ _ h => Held.app h hJ rfl (by rw [hkt]; simp [vbs]))) ?_
      refine Z.val rfl rfl rfl rfl rfl (fun w2 => R.nilChk rfl) ?_
      refine Z.val rfl rfl rfl rfl rfl (fun w2 => R.fld rfl) ?_
      refine Z.set 1 (by decide +kernel) rfl rfl rfl rfl rfl rfl (fun w2 hJ => fun v hv => (R.st rfl rfl (hB.ext hJ hpM) (by simp) (by obtain ⟨_, _, _, rfl, _⟩ := hv; rfl)).mono (fun _ h => ⟨h.1, by exact PenAt.put hpl hpM (by simp only [List.length_append, List.length_take, be_length] at hn ⊢; omega) hv hJ h⟩)) ?_
      refine Z.nil rfl rfl (fun w2 hJ => ?_)
      obtain ⟨S2, hP2, hG2⟩ := hJ
      refine N.block ?_
      refine N.seq ?_
      refine G.region ?_
      refine L.val rfl rfl (R.add rfl rfl (by omega)) ?_
      refine L.val rfl rfl (R.mv rfl) ?_
      refine L.nil ?_
      exact N.again (k + 1) (by omega) (Sub.cons rfl (Sub.cons rfl (Sub.cons rfl (Sub.cons rfl (Sub.cons rfl (Sub.nil _)))))) ⟨by omega, S2, hP2, hG.trans hG2⟩
    · obtain rfl : k = y := by omega
      refine G.exit _ rfl ?_
      refine N.seq ?_
      refine G.seq ?_
      refine G.region ?_
      refine L.val rfl rfl (R.as rfl) ?_
      refine L.nil ?_
      refine N.seq ?_
      refine G.ret1 rfl rfl ?_
      refine ⟨congrArg Value.bool hf.symm, S1, ?_, hG⟩
      rw [hf]; rw [List.take_of_length_le (by rw [be_length]; omega)] at hP1; simpa using hP1

theorem text_nil (u : Value) (w : World) : Meets Try.prog 196 [.pointer none, u] w (fun v w' => v = .bool false ∧ w' = w) := by
  refine Meets.enter Try.func196 rfl 25 rfl (Nat.le_of_ble_eq_true rfl) ?_
  refine G.seq ?_
  refine G.region ?_
  refine L.val rfl rfl (R.as rfl) ?_
  refine L.nil ?_
  refine N.seq ?_
  refine G.seq ?_
  refine G.seq ?_
  refine G.region ?_
  refine L.val rfl rfl (R.mv rfl) ?_
  refine L.val rfl rfl (R.eqNilP rfl rfl) ?_
  refine L.val rfl rfl (R.mv rfl) ?_
  refine L.pass rfl rfl ?_
  refine L.pass rfl rfl ?_
  refine L.pass rfl rfl ?_
  first | refine L.val rfl rfl (R.pickT rfl rfl) ?_ | refine L.val rfl rfl (R.pickF rfl rfl) ?_
  refine L.nil ?_
  refine N.seq ?_
  refine G.condT rfl ?_
  refine G.seq ?_
  refine G.region ?_
  refine L.val rfl rfl (R.as rfl) ?_
  refine L.nil ?_
  refine N.seq ?_
  refine G.ret1 rfl rfl ?_
  exact ⟨rfl, rfl⟩

theorem text_ok (p : Nat) (S : List Nat) (l : List UInt8) (a : Option Addr) (n c : Nat) (k : List UInt8) (w : World) (hP : PenAt 228 5 w p l S) (hl : l.length ≤ 70368744177664) (hb : Bs w a n k) (hn : n ≤ 140737488351232) (hS : ∀ w1, Ext S w w1 → Bs w1 a n k) : Meets Try.prog 196 [.pointer (some ⟨p, 0, none⟩), .slice a n c] w (fun v w' => v = .bool (decide (k.length ≤ 65535)) ∧ ∃ S', PenAt 228 5 w' p (l ++ (if k.length ≤ 65535 then textF k else [])) S' ∧ Grown S S' w w') := by
  refine Meets.enter Try.func196 rfl 25 rfl (Nat.le_of_ble_eq_true rfl) ?_
  have hkl := hb.len
  refine G.seq ?_
  refine G.region ?_
  refine L.val rfl rfl (R.as rfl) ?_
  refine L.nil ?_
  refine N.seq ?_
  refine G.seq ?_
  refine G.seq ?_
  refine G.region ?_
  refine L.val rfl rfl (R.mv rfl) ?_
  refine L.val rfl rfl (R.eqNilP rfl rfl) ?_
  refine L.val rfl rfl (R.mv rfl) ?_
  refine L.val rfl rfl (R.mv rfl) ?_
  refine L.val rfl rfl (R.lenS rfl) ?_
  refine L.val rfl rfl (R.gtr rfl rfl) ?_
  first | refine L.val rfl rfl (R.pickT rfl rfl) ?_ | refine L.val rfl rfl (R.pickF rfl rfl) ?_
  refine L.nil ?_
  refine N.seq ?_
  refine G.condP rfl (fun h0 => ?_) (fun h0 => ?_)
  · refine G.seq ?_
    refine G.region ?_
    refine L.val rfl rfl (R.as rfl) ?_
    refine L.nil ?_
    refine N.seq ?_
    refine G.ret1 rfl rfl ?_
    exact ⟨congrArg Value.bool (by rw [decide_eq_false (by omega)]), S, by rw [if_neg (by omega)]; simpa using hP, Grown.refl _ _⟩
  · refine G.skip ?_
    refine N.seq ?_
    refine G.seq ?_
    refine G.region ?_
    refine L.val rfl rfl (R.mv rfl) ?_
    refine L.val rfl rfl (R.mv rfl) ?_
    refine L.val rfl rfl (R.lenS rfl) ?_
    refine L.callF rfl rfl rfl go140 (number_ok _ _ _ _ _ _ hP (by omega) (by omega) (by omega)) ?_
    rintro _ w1 ⟨rfl, S1, hP1, hG1⟩
    have hft : fitsF (n : Int) 2 = true := by rw [fitsF_spec]; exact ⟨by omega, by omega, by omega, by show (n : Int) < 65536; omega⟩
    rw [hft, if_pos rfl] at hP1
    have hb1 := hS _ hG1.1
    obtain ⟨a1, n1, c1, M1, rfl, hpM, hn1, hB, hO⟩ := hP1
    have hpl := hB.lt
    rw [List.length_append, be_length] at hn1
    refine L.nil ?_
    refine N.seq ?_
    refine G.seq ?_
    refine G.region ?_
    refine L.val rfl rfl (R.mv rfl) ?_
    refine L.val rfl rfl (R.mv rfl) ?_
    refine L.val rfl rfl (R.nilChk rfl) ?_
    refine L.val rfl rfl (R.fld rfl) ?_
    refine L.val rfl rfl (R.ldB rfl hB rfl) ?_
    refine L.val rfl rfl (R.mv rfl) ?_
    refine L.do rfl rfl (R.app rfl rfl hO hb1.cells (by rw [vbs_length, Nat.mul_one]; exact hb1.len.symm) (vbs_one _) (by simp [maxLen]; omega) (by omega)) ?_
    rintro v22 w2 h2
    obtain ⟨h2, e2, _⟩ := Held.app (ys := vbs (l ++ textF k)) h2 (Ext.refl _ _) rfl (by simp [vbs, textF, ← hkl])
    refine L.val rfl rfl (R.nilChk rfl) ?_
    refine L.val rfl rfl (R.fld rfl) ?_
    refine L.set rfl (R.st rfl rfl (hB.ext e2 hpM) (by simp) (by obtain ⟨_, _, _, rfl, _⟩ := h2; rfl)) ?_
    rintro w3 h3
    obtain ⟨S3, hP3, hG3⟩ := PenAt.put hpl hpM (by simp [textF, be_length]; omega) h2 e2 h3
    refine L.nil ?_
    refine N.seq ?_
    refine G.seq ?_
    refine G.region ?_
    refine L.val rfl rfl (R.as rfl) ?_
    refine L.nil ?_
    refine N.seq ?_
    refine G.ret1 rfl rfl ?_
    exact ⟨congrArg Value.bool (by rw [decide_eq_true (by omega)]), S3, by rw [if_pos (by omega)]; exact hP3, hG1.trans hG3⟩

theorem bytes_nil  (w : World) : Meets Try.prog 142 [.pointer none] w (fun v w' => v = .slice none 0 0 ∧ w' = w) := by
  refine Meets.enter Try.func142 rfl 10 rfl (Nat.le_of_ble_eq_true rfl) ?_
  refine G.seq ?_
  refine G.region ?_
  refine L.val rfl rfl (R.as rfl) ?_
  refine L.nil ?_
  refine N.seq ?_
  refine G.seq ?_
  refine G.seq ?_
  refine G.region ?_
  refine L.val rfl rfl (R.mv rfl) ?_
  refine L.val rfl rfl (R.eqNilP rfl rfl) ?_
  refine L.nil ?_
  refine N.seq ?_
  refine G.condT rfl ?_
  refine G.seq ?_
  refine G.region ?_
  refine L.val rfl rfl (R.as rfl) ?_
  refine L.nil ?_
  refine N.seq ?_
  refine G.ret1 rfl rfl ?_
  exact ⟨rfl, rfl⟩

theorem bytes_ok (p : Nat) (S : List Nat) (l : List UInt8) (w : World) (hP : PenAt 228 5 w p l S) (hl : l.length ≤ 70368744177664) : Meets Try.prog 142 [.pointer (some ⟨p, 0, none⟩)] w (Cloned w 5 1 l.length (vbs l)) := by
  refine Meets.enter Try.func142 rfl 10 rfl (Nat.le_of_ble_eq_true rfl) ?_
  refine G.seq ?_
  refine G.region ?_
  refine L.val rfl rfl (R.as rfl) ?_
  refine L.nil ?_
  refine N.seq ?_
  refine G.seq ?_
  refine G.seq ?_
  refine G.region ?_
  refine L.val rfl rfl (R.mv rfl) ?_
  refine L.val rfl rfl (R.eqNilP rfl rfl) ?_
  refine L.nil ?_
  refine N.seq ?_
  refine G.condF rfl ?_
  obtain ⟨a1, n1, c1, M1, rfl, hpM, rfl, hB, hO⟩ := hP
  refine G.skip ?_
  refine N.seq ?_
  refine G.seq ?_
  refine G.region ?_
  refine L.val rfl rfl (R.mv rfl) ?_
  refine L.val rfl rfl (R.nilChk rfl) ?_
  refine L.val rfl rfl (R.fld rfl) ?_
  refine L.val rfl rfl (R.ldB rfl hB rfl) ?_
  refine L.callF rfl rfl rfl go143 (clone_ok _ _ _ _ _ (Bs.of_own hO) (by omega)) ?_
  rintro v w1 h1
  refine L.val rfl rfl (R.as rfl) ?_
  refine L.nil ?_
  refine N.seq ?_
  refine G.ret1 rfl rfl ?_
  exact h1

theorem clip_ok (a : Option Addr) (n c : Nat) (w : World) (hn : n ≤ c) : Meets Try.prog 230 [.slice a n c] w (fun v w' => v = .slice a n n ∧ w' = w) := by
  refine Meets.enter Try.func230 rfl 9 rfl (Nat.le_of_ble_eq_true rfl) ?_
  refine G.seq ?_
  refine G.region ?_
  refine L.val rfl rfl (R.as rfl) ?_
  refine L.nil ?_
  refine N.seq ?_
  refine G.seq ?_
  refine G.region ?_
  refine L.val rfl rfl (R.mv rfl) ?_
  refine L.val rfl rfl (R.mv rfl) ?_
  refine L.val rfl rfl (R.lenS rfl) ?_
  refine L.val rfl rfl (R.mv rfl) ?_
  refine L.val rfl rfl (R.lenS rfl) ?_
  refine L.val rfl rfl (R.slHM rfl rfl rfl (by omega) (by omega) (by omega)) ?_
  refine L.val rfl rfl (R.as rfl) ?_
  refine L.nil ?_
  refine N.seq ?_
  refine G.ret1 rfl rfl ?_
  exact ⟨by rw [subA_zero]; rfl, rfl⟩

theorem padded_ok (p : Nat) (S : List Nat) (l : List UInt8) (y : Int) (w : World) (hP : PenAt 228 5 w p l S) (hl : l.length ≤ 70368744177664) (hy : -9223372036854775808 ≤ y ∧ y ≤ 70368744177664) : Meets Try.prog 198 [.pointer (some ⟨p, 0, none⟩), .int .i64 y] w (Cloned w 5 1 (padF y l).length (vbs (padF y l))) := by
  refine Meets.enter Try.func198 rfl 22 rfl (Nat.le_of_ble_eq_true rfl) ?_
  refine G.seq ?_
  refine G.region ?_
  refine L.val rfl rfl (R.as rfl) ?_
  refine L.nil ?_
  refine N.seq ?_
  refine G.seq ?_
  refine G.region ?_
  refine L.val rfl rfl (R.mv rfl) ?_
  refine L.callF rfl rfl rfl go142 (bytes_ok _ _ _ _ hP hl) ?_
  rintro _ w1 ⟨a1, c1, M1, rfl, e1, o1, hM1⟩
  refine L.val rfl rfl (R.as rfl) ?_
  refine L.nil ?_
  refine N.seq ?_
  refine G.seq ?_
  refine G.seq ?_
  refine G.region ?_
  refine L.val rfl rfl (R.mv rfl) ?_
  refine L.val rfl rfl (R.lss rfl rfl) ?_
  refine L.nil ?_
  refine N.seq ?_
  refine G.condP rfl (fun h0 => ?_) (fun h0 => ?_)
  · refine G.seq ?_
    refine G.region ?_
    refine L.val rfl rfl (R.mv rfl) ?_
    refine L.val rfl rfl (R.as rfl) ?_
    refine L.nil ?_
    refine N.seq ?_
    refine G.ret1 rfl rfl ?_
    exact ⟨a1, c1, M1, by unfold padF; rw [if_pos h0], e1, by unfold padF; rw [if_pos h0]; exact o1, hM1⟩
  · have hm := padN_lt (n := y.toNat) (k := l.length) (by omega)
    have hpi := padN_int (n := y) (k := l.length) (by omega)
    have hlm := Int.emod_nonneg (l.length : Int) (show y ≠ 0 by omega)
    have hlm2 := Int.emod_lt_of_pos (l.length : Int) (show 0 < y by omega)
    have hcl := o1.le
    have o2 : Own w1 5 1 a1 l.length l.length (vbs l) M1 := o1.clip
    have hpf : padF y l = l ++ List.replicate (padN y.toNat l.length) 0 := by unfold padF; rw [if_neg h0]
    refine G.skip ?_
    refine N.seq ?_
    refine G.seq ?_
    refine G.staged [10] [.blocks (M1)] [Ext [] w1, Ext M1 w1] [] (by decide +kernel) (by decide +kernel) rfl rfl rfl (fun _ h => h) ?_
    refine Z.val rfl rfl rfl rfl rfl (fun w2 => R.mv rfl) ?_
    refine Z.call (.slice a1 l.length l.length) 0 (by decide +kernel) rfl rfl rfl rfl rfl go230 (fun w2 hJ => ⟨_, rfl, (clip_ok _ _ _ _ hcl).mono (by rintro _ _ ⟨rfl, rfl⟩; exact ⟨rfl, Ext.refl _ _, hJ⟩)⟩) ?_
    refine Z.val rfl rfl rfl rfl rfl (fun w2 => R.mv rfl) ?_
    refine Z.val rfl rfl rfl rfl rfl (fun w2 => R.mv rfl) ?_
    refine Z.val rfl rfl rfl rfl rfl (fun w2 => R.lenS rfl) ?_
    refine Z.val rfl rfl rfl rfl rfl (fun w2 => R.mv rfl) ?_
    refine Z.val rfl rfl rfl rfl rfl (fun w2 => R.rem rfl rfl (by omega) (by omega)) ?_
    refine Z.val rfl rfl rfl rfl rfl (fun w2 => R.sub' rfl rfl (by omega)) ?_
    refine Z.val rfl rfl rfl rfl rfl (fun w2 => R.mv rfl) ?_
    refine Z.val rfl rfl rfl rfl rfl (fun w2 => R.rem rfl rfl (by omega) (by omega)) ?_
    refine Z.be 20 rfl (congrArg (Value.int .i64) hpi) ?_
    refine Z.put (A := Held M1 w1.heap.size 5 1 (padF y l).length (vbs (padF y l))) (Lasts.kill (Held.keep _ _ _ _ _ _) (by decide +kernel)) 0 (by decide +kernel) rfl rfl rfl rfl rfl rfl rfl (fun w2 hJ => (R.appZ rfl rfl (o2.ext0 hJ) (by simp [Value.cells, Value.oneCell']) (by simp [maxLen]; omega) (by omega) (by decide) (by decide)).mono (fun _ _ h => Held.app h hJ (by rw [hpf]; simp) (by rw [hpf, zeroCells_bytes]; simp [vbs]))) ?_
    refine Z.valR (A := Held M1 w1.heap.size 5 1 (padF y l).length (vbs (padF y l))) (Lasts.kill (Held.keep _ _ _ _ _ _) (by decide +kernel)) rfl rfl rfl rfl (fun w2 => fun v hv => ⟨v, R.as rfl, hv⟩) ?_
    refine Z.nil rfl rfl (fun w2 hJ => ?_)
    intro v4 h4 v21 _
    refine N.seq ?_
    refine G.ret1 rfl rfl ?_
    obtain ⟨a2, c2, M2, rfl, o3, hM2⟩ := h4
    exact ⟨a2, c2, M2, rfl, e1.trans hJ (by simp) (fun x hx => .inr (hM1 x hx)), o3, fun g hg => (hM2 g hg).elim (hM1 g) (Nat.le_trans e1.size)⟩

theorem refnumber_0 (x : Nat) (w : World) : Meets Try.prog 130 [.int .i64 x, .int .i64 0] w (fun v w' => v = .string (str (be 0 x)) ∧ Ext [] w w') := by
  refine Meets.enter Try.func130 rfl 18 rfl (Nat.le_of_ble_eq_true rfl) ?_
  refine G.seq ?_
  refine G.region ?_
  refine L.val rfl rfl (R.as rfl) ?_
  refine L.nil ?_
  refine N.seq ?_
  refine G.seq ?_
  refine G.seq ?_
  refine G.region ?_
  refine L.val rfl rfl (R.mv rfl) ?_
  refine L.val rfl rfl (R.eqI rfl rfl) ?_
  refine L.nil ?_
  refine N.seq ?_
  refine G.condT rfl ?_
  refine G.seq ?_
  refine G.region ?_
  refine L.val rfl rfl (R.as rfl) ?_
  refine L.nil ?_
  refine N.seq ?_
  refine G.ret1 rfl rfl ?_
  exact ⟨rfl, Ext.refl _ _⟩

theorem refnumber_s (x k : Nat) (w : World) (hx : x ≤ 9223372036854775807) (hk : k ≤ 100) (ih : ∀ (x : Nat) (w : World), x ≤ 9223372036854775807 → Meets Try.prog 130 [.int .i64 x, .int .i64 k] w (fun v w' => v = .string (str (be k x)) ∧ Ext [] w w')) : Meets Try.prog 130 [.int .i64 x, .int .i64 ((k + 1 : Nat) : Int)] w (fun v w' => v = .string (str (be (k + 1) x)) ∧ Ext [] w w') := by
  refine Meets.enter Try.func130 rfl 18 rfl (Nat.le_of_ble_eq_true rfl) ?_
  refine G.seq ?_
  refine G.region ?_
  refine L.val rfl rfl (R.as rfl) ?_
  refine L.nil ?_
  refine N.seq ?_
  refine G.seq ?_
  refine G.seq ?_
  refine G.region ?_
  refine L.val rfl rfl (R.mv rfl) ?_
  refine L.val rfl rfl (R.eqI rfl rfl) ?_
  refine L.nil ?_
  refine N.seq ?_
  refine G.condP rfl (fun h0 => ?_) (fun h0 => ?_)
  · exfalso
    omega
  · refine G.skip ?_
    refine N.seq ?_
    refine G.seq ?_
    refine G.quiet (by decide +kernel) rfl ?_
    refine Q.val rfl rfl rfl rfl (fun w1 hE => R.mv rfl) ?_
    refine Q.val rfl rfl rfl rfl (fun w1 hE => R.quo rfl rfl (by omega) (by omega)) ?_
    refine Q.be 8 rfl (congrArg (Value.int .i64) (show (x : Int) / 256 = ((x / 256 : Nat) : Int) by omega)) ?_
    refine Q.val rfl rfl rfl rfl (fun w1 hE => R.mv rfl) ?_
    refine Q.val rfl rfl rfl rfl (fun w1 hE => R.sub' rfl rfl (by omega)) ?_
    refine Q.be 10 rfl (congrArg (Value.int .i64) (show ((k + 1 : Nat) : Int) - 1 = (k : Int) by omega)) ?_
    refine Q.call (.string (str (be k (x / 256)))) rfl rfl rfl go130 (fun w1 hE => ⟨_, rfl, (ih (x / 256) _ (by omega)).mono (fun _ _ h => h)⟩) ?_
    refine Q.val rfl rfl rfl rfl (fun w1 hE => R.mv rfl) ?_
    refine Q.val rfl rfl rfl rfl (fun w1 hE => R.rem rfl rfl (by omega) (by omega)) ?_
    refine Q.val rfl rfl rfl rfl (fun w1 hE => R.conv rfl ((UInt8.ofNat (x % 256)).toNat : Int) (by simp only [UInt8.toNat_ofNat']; exact (wrap_u8 (by omega)).trans (by omega))) ?_
    refine Q.new (A := IsBs 1 [UInt8.ofNat (x % 256)]) (IsBs.keep _ _) rfl rfl rfl (fun w1 hE => (R.buildA rfl rfl rfl rfl rfl).mono (fun _ _ h => h.bs (l := [UInt8.ofNat (x % 256)]) rfl rfl)) ?_
    refine Q.val rfl rfl rfl rfl (fun w1 hE => fun v hv => by obtain ⟨a2, c2, rfl, _, hb2⟩ := hv; exact R.bytesStr rfl hb2.cells hb2.len) ?_
    refine Q.val rfl rfl rfl rfl (fun w1 hE => R.addStr rfl rfl (by simp [be_length]; omega)) ?_
    refine Q.val rfl rfl rfl rfl (fun w1 hE => R.as rfl) ?_
    refine Q.nil (fun w1 e1 => ?_)
    intro v15 _
    refine N.seq ?_
    refine G.ret1 rfl rfl ?_
    exact ⟨rfl, e1⟩

theorem refnumber_ok : ∀ (k : Nat) (x : Nat) (w : World), k ≤ 100 → x ≤ 9223372036854775807 → Meets Try.prog 130 [.int .i64 x, .int .i64 k] w (fun v w' => v = .string (str (be k x)) ∧ Ext [] w w')
  | 0, x, w, _, _ => refnumber_0 x w
  | k + 1, x, w, hk, hx => refnumber_s x k w hx (by omega) (fun x w hx => refnumber_ok k x w (by omega) hx)

theorem refnumberI_0 (x : Int) (w : World) : Meets Try.prog 130 [.int .i64 x, .int .i64 0] w (fun v w' => v = .string (str (bi 0 x)) ∧ Ext [] w w') := by
  refine Meets.enter Try.func130 rfl 18 rfl (Nat.le_of_ble_eq_true rfl) ?_
  refine G.seq ?_
  refine G.region ?_
  refine L.val rfl rfl (R.as rfl) ?_
  refine L.nil ?_
  refine N.seq ?_
  refine G.seq ?_
  refine G.seq ?_
  refine G.region ?_
  refine L.val rfl rfl (R.mv rfl) ?_
  refine L.val rfl rfl (R.eqI rfl rfl) ?_
  refine L.nil ?_
  refine N.seq ?_
  refine G.condT rfl ?_
  refine G.seq ?_
  refine G.region ?_
  refine L.val rfl rfl (R.as rfl) ?_
  refine L.nil ?_
  refine N.seq ?_
  refine G.ret1 rfl rfl ?_
  exact ⟨rfl, Ext.refl _ _⟩

theorem refnumberI_s (x : Int) (k : Nat) (w : World) (hx : -9223372036854775808 ≤ x ∧ x ≤ 9223372036854775807) (hk : k ≤ 100) (ih : ∀ (x : Int) (w : World), (-9223372036854775808 ≤ x ∧ x ≤ 9223372036854775807) → Meets Try.prog 130 [.int .i64 x, .int .i64 k] w (fun v w' => v = .string (str (bi k x)) ∧ Ext [] w w')) : Meets Try.prog 130 [.int .i64 x, .int .i64 ((k + 1 : Nat) : Int)] w (fun v w' => v = .string (str (bi (k + 1) x)) ∧ Ext [] w w') := by
  refine Meets.enter Try.func130 rfl 18 rfl (Nat.le_of_ble_eq_true rfl) ?_
  refine G.seq ?_
  refine G.region ?_
  refine L.val rfl rfl (R.as rfl) ?_
  refine L.nil ?_
  refine N.seq ?_
  refine G.seq ?_
  refine G.seq ?_
  refine G.region ?_
  refine L.val rfl rfl (R.mv rfl) ?_
  refine L.val rfl rfl (R.eqI rfl rfl) ?_
  refine L.nil ?_
  refine N.seq ?_
  refine G.condP rfl (fun h0 => ?_) (fun h0 => ?_)
  · exfalso
    omega
  · refine G.skip ?_
    refine N.seq ?_
    refine G.seq ?_
    refine G.quiet (by decide +kernel) rfl ?_
    refine Q.val rfl rfl rfl rfl (fun w1 hE => R.mv rfl) ?_
    refine Q.val rfl rfl rfl rfl (fun w1 hE => R.quoW rfl rfl (by decide) _ (wrap_i64 (tdiv_bounds hx))) ?_
    refine Q.val rfl rfl rfl rfl (fun w1 hE => R.mv rfl) ?_
    refine Q.val rfl rfl rfl rfl (fun w1 hE => R.sub' rfl rfl (by omega)) ?_
    refine Q.be 10 rfl (congrArg (Value.int .i64) (show ((k + 1 : Nat) : Int) - 1 = (k : Int) by omega)) ?_
    refine Q.call (.string (str (bi k (x.tdiv 256)))) rfl rfl rfl go130 (fun w1 hE => ⟨_, rfl, (ih (x.tdiv 256) _ (tdiv_bounds hx)).mono (fun _ _ h => h)⟩) ?_
    refine Q.val rfl rfl rfl rfl (fun w1 hE => R.mv rfl) ?_
    refine Q.val rfl rfl rfl rfl (fun w1 hE => R.remW rfl rfl (by decide) _ rfl) ?_
    refine Q.val rfl rfl rfl rfl (fun w1 hE => R.conv rfl _ (byteI_spec x)) ?_
    refine Q.new (A := IsBs 1 [byteI x]) (IsBs.keep _ _) rfl rfl rfl (fun w1 hE => (R.buildA rfl rfl rfl rfl rfl).mono (fun _ _ h => h.bs (l := [byteI x]) rfl rfl)) ?_
    refine Q.val rfl rfl rfl rfl (fun w1 hE => fun v hv => by obtain ⟨a2, c2, rfl, _, hb2⟩ := hv; exact R.bytesStr rfl hb2.cells hb2.len) ?_
    refine Q.val rfl rfl rfl rfl (fun w1 hE => R.addStr rfl rfl (by simp [bi_length]; omega)) ?_
    refine Q.val rfl rfl rfl rfl (fun w1 hE => R.as rfl) ?_
    refine Q.nil (fun w1 e1 => ?_)
    intro v15 _
    refine N.seq ?_
    refine G.ret1 rfl rfl ?_
    exact ⟨rfl, e1⟩

theorem refnumberI_ok : ∀ (k : Nat) (x : Int) (w : World), k ≤ 100 → (-9223372036854775808 ≤ x ∧ x ≤ 9223372036854775807) → Meets Try.prog 130 [.int .i64 x, .int .i64 k] w (fun v w' => v = .string (str (bi k x)) ∧ Ext [] w w')
  | 0, x, w, _, _ => refnumberI_0 x w
  | k + 1, x, w, hk, hx => refnumberI_s x k w hx (by omega) (fun x w hx => refnumberI_ok k x w (by omega) hx)

theorem reftext_ok (a : Option Addr) (n c : Nat) (k : List UInt8) (w : World) (hb : Bs w a n k) (hn : n ≤ 140737488351232) : Meets Try.prog 185 [.slice a n c] w (fun v w' => v = .string (str (textF k)) ∧ Ext [] w w') := by
  refine Meets.enter Try.func185 rfl 9 rfl (Nat.le_of_ble_eq_true rfl) ?_
  have hkl := hb.len
  subst hkl
  refine G.seq ?_
  refine G.region ?_
  refine L.val rfl rfl (R.as rfl) ?_
  refine L.nil ?_
  refine N.seq ?_
  refine G.seq ?_
  refine G.quiet (by decide +kernel) rfl ?_
  refine Q.val rfl rfl rfl rfl (fun w1 hE => R.mv rfl) ?_
  refine Q.val rfl rfl rfl rfl (fun w1 hE => R.lenS rfl) ?_
  refine Q.call (.string (str (be 2 k.length))) rfl rfl rfl go130 (fun w1 hE => ⟨_, rfl, (refnumber_ok 2 k.length _ (by omega) (by omega)).mono (fun _ _ h => h)⟩) ?_
  refine Q.val rfl rfl rfl rfl (fun w1 hE => R.mv rfl) ?_
  refine Q.val rfl rfl rfl rfl (fun w1 hE => R.bytesStr rfl (hb.ext0 hE).cells hb.len) ?_
  refine Q.val rfl rfl rfl rfl (fun w1 hE => R.addStr rfl rfl (by simp [be_length]; omega)) ?_
  refine Q.val rfl rfl rfl rfl (fun w1 hE => R.as rfl) ?_
  refine Q.nil (fun w1 e1 => ?_)
  refine N.seq ?_
  refine G.ret1 rfl rfl ?_
  exact ⟨rfl, e1⟩

theorem refpadded_ok (l : List UInt8) (y : Int) (w : World) (hy : -9223372036854775808 ≤ y ∧ y ≤ 70368744177664) (hl : l.length ≤ 70368744177664) : Meets Try.prog 187 [.string (str l), .int .i64 y] w (fun v w' => v = .string (str (padF y l)) ∧ w' = w) := by
  refine Meets.enter Try.func187 rfl 17 rfl (Nat.le_of_ble_eq_true rfl) ?_
  refine G.seq ?_
  refine G.region ?_
  refine L.val rfl rfl (R.as rfl) ?_
  refine L.nil ?_
  refine N.seq ?_
  refine G.seq ?_
  refine G.block ?_
  refine G.be 0 rfl (congrArg Value.string (show str l = str (l ++ List.replicate 0 0) by simp)) ?_
  refine G.loop (X := Nat) (fun j => [(0, .string (str (l ++ List.replicate j 0))), (1, .int .i64 y)]) (fun j w' => (if y < 1 then j = 0 else j ≤ padN y.toNat l.length) ∧ w' = w) (fun j => padN y.toNat l.length - j) (0) (Sub.cons rfl (Sub.cons rfl (Sub.nil _))) ⟨by split <;> simp, rfl⟩ ?_
  rintro j w1 ⟨hj, rfl⟩
  refine G.seq ?_
  refine G.seq ?_
  refine G.region ?_
  refine L.val rfl rfl (R.mv rfl) ?_
  refine L.val rfl rfl (R.gtr rfl rfl) ?_
  refine L.val rfl rfl (R.mv rfl) ?_
  refine L.caseP 7 rfl (fun hg1_2 => ?_) (fun hg1_2 => ?_)
  · have hy1 : ¬ y < 1 := by omega
    rw [if_neg hy1] at hj
    have hpl := padN_lt (n := y.toNat) (k := l.length) (by omega)
    refine L.val rfl rfl (R.mv rfl) ?_
    refine L.val rfl rfl (R.lenStr rfl) ?_
    refine L.be 9 rfl (congrArg (Value.int .i64) (show ((str (l ++ List.replicate j 0)).size : Int) = ((l.length + j : Nat) : Int) by rw [str_size]; simp)) ?_
    refine L.val rfl rfl (R.mv rfl) ?_
    refine L.val rfl rfl (R.rem rfl rfl (by omega) (by omega)) ?_
    refine L.val rfl rfl (R.neI rfl rfl) ?_
    first | refine L.val rfl rfl (R.pickT rfl rfl) ?_ | refine L.val rfl rfl (R.pickF rfl rfl) ?_
    refine L.nil ?_
    refine N.seq ?_
    refine G.condP rfl (fun h0 => ?_) (fun h0 => ?_)
    · have hne := mt (pad_end hy1 hj).2 h0
      have hlt : j < padN y.toNat l.length := by omega
      refine G.skip ?_
      refine N.seq ?_
      refine G.block ?_
      refine G.region ?_
      refine L.val rfl rfl (R.mv rfl) ?_
      refine L.val rfl rfl (R.addStr rfl rfl (by simp; omega)) ?_
      refine L.val rfl rfl (R.as rfl) ?_
      refine L.be 0 rfl (congrArg Value.string (show str (l ++ List.replicate j 0 ++ [0]) = str (l ++ List.replicate (j + 1) 0) by rw [List.append_assoc, List.replicate_succ'])) ?_
      refine L.nil ?_
      refine N.block ?_
      exact N.again (j + 1) (by omega) (Sub.cons rfl (Sub.cons rfl (Sub.nil _))) ⟨by rw [if_neg hy1]; omega, rfl⟩
    · refine G.exit _ rfl ?_
      refine N.seq ?_
      refine G.seq ?_
      refine G.region ?_
      refine L.val rfl rfl (R.mv rfl) ?_
      refine L.val rfl rfl (R.as rfl) ?_
      refine L.nil ?_
      refine N.seq ?_
      refine G.ret1 rfl rfl ?_
      obtain rfl := (pad_end hy1 hj).1 (by omega)
      exact ⟨by unfold padF; rw [if_neg hy1], rfl⟩
  · have hy1 : y < 1 := by omega
    rw [if_pos hy1] at hj
    refine L.pass rfl rfl ?_
    refine L.pass rfl rfl ?_
    refine L.pass rfl rfl ?_
    refine L.pass rfl rfl ?_
    refine L.pass rfl rfl ?_
    first | refine L.val rfl rfl (R.pickT rfl rfl) ?_ | refine L.val rfl rfl (R.pickF rfl rfl) ?_
    refine L.nil ?_
    refine N.seq ?_
    refine G.condF rfl ?_
    refine G.exit _ rfl ?_
    refine N.seq ?_
    refine G.seq ?_
    refine G.region ?_
    refine L.val rfl rfl (R.mv rfl) ?_
    refine L.val rfl rfl (R.as rfl) ?_
    refine L.nil ?_
    refine N.seq ?_
    refine G.ret1 rfl rfl ?_
    subst hj
    exact ⟨by unfold padF; rw [if_pos hy1]; simp, rfl⟩

end Go.Proofs.Ythpolibakkmmeaa
/-
  The walks of package pack: the scan.
-/
set_option linter.unusedVariables false
namespace Go.Proofs.Ythpolibakkmmeaa
open Go Brv Brv.Crc Brv.Pack
theorem new_ok (a : Option Addr) (n c : Nat) (l : List UInt8) (w : World) (hb : Bs w a n l) (hn : n ≤ 140737488351232) : Meets Try.prog 133 [.slice a n c] w (fun v w' => ∃ s D, v = .pointer (some ⟨s, 0, none⟩) ∧ ScanAt 287 w' s D l 0 ∧ Ext [] w w' ∧ w.heap.size ≤ s ∧ (∀ d ∈ D, w.heap.size ≤ d) ∧ (∃ cs, Blk w' s cs 287 (0, 0)) ∧ ∀ d ∈ D, ∃ cs, Blk w' d cs 5 (0, 0)) := by
  refine Meets.enter Try.func133 rfl 7 rfl (Nat.le_of_ble_eq_true rfl) ?_
  refine G.seq ?_
  refine G.region ?_
  refine L.val rfl rfl (R.as rfl) ?_
  refine L.nil ?_
  refine N.seq ?_
  refine G.seq ?_
  refine G.region ?_
  refine L.val rfl rfl (R.mv rfl) ?_
  refine L.callF rfl rfl rfl go143 (clone_ok _ _ _ _ _ hb (by omega)) ?_
  rintro _ w1 ⟨a1, c1, M1, rfl, e1, o1, hM1⟩
  refine L.val rfl rfl (R.build rfl rfl) ?_
  refine L.do rfl rfl (R.box rfl) ?_
  rintro _ w2 ⟨b6, rfl, hb6, hs6, e2, B6⟩
  have hls := e1.size
  refine L.val rfl rfl (R.as rfl) ?_
  refine L.nil ?_
  refine N.seq ?_
  refine G.ret1 rfl rfl ?_
  exact ⟨b6, M1, rfl, ⟨a1, n, c1, fun h => by have := o1.lt b6 h; omega, o1.le, fun q hq => by rw [o1.block q hq]; simp, B6, (Bs.of_own o1).ext0 e2⟩, e1.trans0 e2, by omega, hM1, ⟨_, B6⟩, fun d hd => (o1.typ d hd).imp fun _ h => h.ext0 e2⟩

theorem take_ok (s : Nat) (D : List Nat) (l : List UInt8) (e : Int) (y : Int) (w : World) (hs : ScanAt 287 w s D l e) (hl : l.length ≤ 70368744177664) (hy : 0 ≤ y) : Meets Try.prog 191 [.pointer (some ⟨s, 0, none⟩), .int .i64 y] w (fun v w' => Ext [s] w w' ∧ ∃ a c, v = .tuple #[.slice a (takeN l y) c, .bool (decide (y ≤ l.length))] ∧ takeN l y ≤ c ∧ Bs w' a (takeN l y) (l.take (takeN l y)) ∧ (∀ q, a = some q → q.block ∈ D) ∧ ScanAt 287 w' s D (l.drop (takeN l y)) (if y ≤ l.length then e else 20)) := by
  refine Meets.enter Try.func191 rfl 34 rfl (Nat.le_of_ble_eq_true rfl) ?_
  obtain ⟨a, n, c, hsD, hnc, haD, hB, hb⟩ := hs
  have hn := hb.len
  have hlt := hB.lt
  refine G.seq ?_
  refine G.region ?_
  refine L.val rfl rfl (R.as rfl) ?_
  refine L.val rfl rfl (R.as rfl) ?_
  refine L.nil ?_
  refine N.seq ?_
  refine G.seq ?_
  refine G.seq ?_
  refine G.region ?_
  refine L.val rfl rfl (R.mv rfl) ?_
  refine L.val rfl rfl (R.mv rfl) ?_
  refine L.val rfl rfl (R.nilChk rfl) ?_
  refine L.val rfl rfl (R.fld rfl) ?_
  refine L.val rfl rfl (R.ldB rfl hB rfl) ?_
  refine L.val rfl rfl (R.lenS rfl) ?_
  refine L.val rfl rfl (R.gtr rfl rfl) ?_
  refine L.nil ?_
  refine N.seq ?_
  refine G.condP rfl (fun h0 => ?_) (fun h0 => ?_)
  · refine G.seq ?_
    refine G.region ?_
    refine L.val rfl rfl (R.mv rfl) ?_
    refine L.val rfl rfl (R.nilChk rfl) ?_
    refine L.val rfl rfl (R.fld rfl) ?_
    refine L.set rfl (R.st rfl rfl hB (by simp) rfl) ?_
    rintro w1 ⟨e1, hs1, B1⟩
    refine L.nil ?_
    refine N.seq ?_
    refine G.seq ?_
    refine G.region ?_
    refine L.val rfl rfl (R.as rfl) ?_
    refine L.val rfl rfl (R.as rfl) ?_
    refine L.nil ?_
    refine N.seq ?_
    refine G.ret2 rfl rfl rfl ?_
    rw [takeN_no (by omega), if_neg (by omega), decide_eq_false (by omega)]
    exact ⟨e1, none, 0, rfl, Nat.le_refl _, Bs.nil _, (by intro q hq; cases hq), a, n, c, hsD, hnc, haD, B1, hb.ext e1 (fun q hq h => hsD (by rw [← List.mem_singleton.1 h]; exact haD q hq))⟩
  · refine G.skip ?_
    refine N.seq ?_
    refine G.seq ?_
    refine G.region ?_
    refine L.val rfl rfl (R.mv rfl) ?_
    refine L.val rfl rfl (R.nilChk rfl) ?_
    refine L.val rfl rfl (R.fld rfl) ?_
    refine L.val rfl rfl (R.ldB rfl hB rfl) ?_
    refine L.val rfl rfl (R.mv rfl) ?_
    refine L.val rfl rfl (R.mv rfl) ?_
    refine L.val rfl rfl (R.slHM rfl rfl rfl (by omega) (by omega) (by omega)) ?_
    refine L.val rfl rfl (R.as rfl) ?_
    refine L.nil ?_
    refine N.seq ?_
    refine G.seq ?_
    refine G.region ?_
    refine L.val rfl rfl (R.mv rfl) ?_
    refine L.val rfl rfl (R.mv rfl) ?_
    refine L.val rfl rfl (R.nilChk rfl) ?_
    refine L.val rfl rfl (R.fld rfl) ?_
    refine L.val rfl rfl (R.ldB rfl hB rfl) ?_
    refine L.val rfl rfl (R.mv rfl) ?_
    refine L.val rfl rfl (R.slL rfl rfl (by omega) (by omega)) ?_
    refine L.val rfl rfl (R.nilChk rfl) ?_
    refine L.val rfl rfl (R.fld rfl) ?_
    refine L.set rfl (R.st rfl rfl hB (by simp) rfl) ?_
    rintro w1 ⟨e1, hs1, B1⟩
    refine L.nil ?_
    refine N.seq ?_
    refine G.seq ?_
    refine G.region ?_
    refine L.val rfl rfl (R.mv rfl) ?_
    refine L.val rfl rfl (R.as rfl) ?_
    refine L.val rfl rfl (R.as rfl) ?_
    refine L.nil ?_
    refine N.seq ?_
    refine G.ret2 rfl rfl rfl ?_
    rw [takeN_yes (by omega), if_pos (by omega), decide_eq_true (by omega)]
    have hnD : ∀ q, a = some q → q.block ∉ [s] := fun q hq h => hsD (by rw [← List.mem_singleton.1 h]; exact haD q hq)
    have hb1 := hb.ext e1 hnD
    refine ⟨e1, _, _, rfl, Nat.le_refl _, ?_, ?_, ?_⟩
    · rw [subA_zero]; exact hb1.pre _ (by omega)
    · rw [subA_zero]; exact haD
    · exact ⟨_, _, _, hsD, by omega, fun q hq => subA_block haD q hq, B1, hb1.drop _ _ (by omega) hnc⟩

theorem scannum_nil (y : Int) (w : World) : Meets Try.prog 134 [.pointer none, .int .i64 y] w (fun v w' => v = .int .i64 0 ∧ w' = w) := by
  refine Meets.enter Try.func134 rfl 69 rfl (Nat.le_of_ble_eq_true rfl) ?_
  refine G.seq ?_
  refine G.region ?_
  refine L.val rfl rfl (R.as rfl) ?_
  refine L.nil ?_
  refine N.seq ?_
  refine G.seq ?_
  refine G.seq ?_
  refine G.region ?_
  refine L.val rfl rfl (R.mv rfl) ?_
  refine L.val rfl rfl (R.eqNilP rfl rfl) ?_
  refine L.val rfl rfl (R.mv rfl) ?_
  refine L.pass rfl rfl ?_
  refine L.pass rfl rfl ?_
  refine L.pass rfl rfl ?_
  refine L.pass rfl rfl ?_
  refine L.pass rfl rfl ?_
  first | refine L.val rfl rfl (R.pickT rfl rfl) ?_ | refine L.val rfl rfl (R.pickF rfl rfl) ?_
  refine L.nil ?_
  refine N.seq ?_
  refine G.condT rfl ?_
  refine G.seq ?_
  refine G.region ?_
  refine L.val rfl rfl (R.as rfl) ?_
  refine L.nil ?_
  refine N.seq ?_
  refine G.ret1 rfl rfl ?_
  exact ⟨rfl, rfl⟩

theorem scannum_ok (s : Nat) (D : List Nat) (l : List UInt8) (e : Int) (y : Int) (w : World) (hs : ScanAt 287 w s D l e) (hl : l.length ≤ 70368744177664) : Meets Try.prog 134 [.pointer (some ⟨s, 0, none⟩), .int .i64 y] w (fun v w' => v = .int .i64 (numF l e y).1 ∧ ScanAt 287 w' s D (numF l e y).2.1 (numF l e y).2.2 ∧ Ext [s] w w') := by
  refine Meets.enter Try.func134 rfl 69 rfl (Nat.le_of_ble_eq_true rfl) ?_
  have hs0 := hs
  obtain ⟨a, n, c, hsD, hnc, haD, hB, hb⟩ := hs
  have hn := hb.len
  have hlt := hB.lt
  refine G.seq ?_
  refine G.region ?_
  refine L.val rfl rfl (R.as rfl) ?_
  refine L.nil ?_
  refine N.seq ?_
  refine G.seq ?_
  refine G.seq ?_
  refine G.region ?_
  refine L.val rfl rfl (R.mv rfl) ?_
  refine L.val rfl rfl (R.eqNilP rfl rfl) ?_
  refine L.val rfl rfl (R.mv rfl) ?_
  refine L.val rfl rfl (R.mv rfl) ?_
  refine L.val rfl rfl (R.nilChk rfl) ?_
  refine L.val rfl rfl (R.fld rfl) ?_
  refine L.val rfl rfl (R.ldB rfl hB rfl) ?_
  refine L.val rfl rfl (R.neI rfl rfl) ?_
  first | refine L.val rfl rfl (R.pickT rfl rfl) ?_ | refine L.val rfl rfl (R.pickF rfl rfl) ?_
  refine L.nil ?_
  refine N.seq ?_
  refine G.condP rfl (fun h0 => ?_) (fun h0 => ?_)
  · refine G.seq ?_
    refine G.region ?_
    refine L.val rfl rfl (R.as rfl) ?_
    refine L.nil ?_
    refine N.seq ?_
    refine G.ret1 rfl rfl ?_
    rw [numF_err (by omega)]
    exact ⟨rfl, hs0, Ext.refl _ _⟩
  · obtain rfl : e = 0 := by omega
    refine G.skip ?_
    refine N.seq ?_
    refine G.seq ?_
    refine G.seq ?_
    refine G.region ?_
    refine L.val rfl rfl (R.mv rfl) ?_
    refine L.val rfl rfl (R.lss rfl rfl) ?_
    refine L.val rfl rfl (R.mv rfl) ?_
    refine L.caseP 21 rfl (fun hg3_2 => ?_) (fun hg3_2 => ?_)
    · refine L.pass rfl rfl ?_
      refine L.pass rfl rfl ?_
      first | refine L.val rfl rfl (R.pickT rfl rfl) ?_ | refine L.val rfl rfl (R.pickF rfl rfl) ?_
      refine L.val rfl rfl (R.mv rfl) ?_
      refine L.pass rfl rfl ?_
      refine L.pass rfl rfl ?_
      refine L.pass rfl rfl ?_
      refine L.pass rfl rfl ?_
      refine L.pass rfl rfl ?_
      refine L.pass rfl rfl ?_
      refine L.pass rfl rfl ?_
      refine L.pass rfl rfl ?_
      refine L.pass rfl rfl ?_
      refine L.pass rfl rfl ?_
      refine L.pass rfl rfl ?_
      refine L.pass rfl rfl ?_
      refine L.pass rfl rfl ?_
      refine L.pass rfl rfl ?_
      refine L.pass rfl rfl ?_
      refine L.pass rfl rfl ?_
      refine L.pass rfl rfl ?_
      refine L.pass rfl rfl ?_
      refine L.pass rfl rfl ?_
      refine L.pass rfl rfl ?_
      first | refine L.val rfl rfl (R.pickT rfl rfl) ?_ | refine L.val rfl rfl (R.pickF rfl rfl) ?_
      refine L.nil ?_
      refine N.seq ?_
      refine G.condT rfl ?_
      have hno : ¬ okN l y := by
        rintro ⟨h1, h2, h3, h4⟩
        first | omega | (have := h4 (by omega); rw [getD_zero (by omega)] at this; omega)
      refine G.seq ?_
      refine G.region ?_
      refine L.val rfl rfl (R.mv rfl) ?_
      refine L.val rfl rfl (R.nilChk rfl) ?_
      refine L.val rfl rfl (R.fld rfl) ?_
      refine L.set rfl (R.st rfl rfl hB (by simp) rfl) ?_
      rintro w1 ⟨e1, hs1, B1⟩
      refine L.nil ?_
      refine N.seq ?_
      refine G.seq ?_
      refine G.region ?_
      refine L.val rfl rfl (R.as rfl) ?_
      refine L.nil ?_
      refine N.seq ?_
      refine G.ret1 rfl rfl ?_
      first
        | (rw [numF_no hno]; exact ⟨rfl, ⟨a, n, c, hsD, hnc, haD, B1, hb.ext e1 (fun q hq h => hsD (by rw [← List.mem_singleton.1 h]; exact haD q hq))⟩, e1⟩)
        | (rw [hnf]; exact ⟨rfl, hS, e1⟩)
    · refine L.val rfl rfl (R.mv rfl) ?_
      refine L.val rfl rfl (R.gtr rfl rfl) ?_
      first | refine L.val rfl rfl (R.pickT rfl rfl) ?_ | refine L.val rfl rfl (R.pickF rfl rfl) ?_
      refine L.val rfl rfl (R.mv rfl) ?_
      refine L.caseP 25 rfl (fun hg3_6 => ?_) (fun hg3_6 => ?_)
      · refine L.pass rfl rfl ?_
        refine L.pass rfl rfl ?_
        refine L.pass rfl rfl ?_
        refine L.pass rfl rfl ?_
        refine L.pass rfl rfl ?_
        refine L.pass rfl rfl ?_
        refine L.pass rfl rfl ?_
        refine L.pass rfl rfl ?_
        refine L.pass rfl rfl ?_
        refine L.pass rfl rfl ?_
        refine L.pass rfl rfl ?_
        refine L.pass rfl rfl ?_
        refine L.pass rfl rfl ?_
        refine L.pass rfl rfl ?_
        refine L.pass rfl rfl ?_
        refine L.pass rfl rfl ?_
        refine L.pass rfl rfl ?_
        refine L.pass rfl rfl ?_
        refine L.pass rfl rfl ?_
        refine L.pass rfl rfl ?_
        first | refine L.val rfl rfl (R.pickT rfl rfl) ?_ | refine L.val rfl rfl (R.pickF rfl rfl) ?_
        refine L.nil ?_
        refine N.seq ?_
        refine G.condT rfl ?_
        have hno : ¬ okN l y := by
          rintro ⟨h1, h2, h3, h4⟩
          first | omega | (have := h4 (by omega); rw [getD_zero (by omega)] at this; omega)
        refine G.seq ?_
        refine G.region ?_
        refine L.val rfl rfl (R.mv rfl) ?_
        refine L.val rfl rfl (R.nilChk rfl) ?_
        refine L.val rfl rfl (R.fld rfl) ?_
        refine L.set rfl (R.st rfl rfl hB (by simp) rfl) ?_
        rintro w1 ⟨e1, hs1, B1⟩
        refine L.nil ?_
        refine N.seq ?_
        refine G.seq ?_
        refine G.region ?_
        refine L.val rfl rfl (R.as rfl) ?_
        refine L.nil ?_
        refine N.seq ?_
        refine G.ret1 rfl rfl ?_
        first
          | (rw [numF_no hno]; exact ⟨rfl, ⟨a, n, c, hsD, hnc, haD, B1, hb.ext e1 (fun q hq h => hsD (by rw [← List.mem_singleton.1 h]; exact haD q hq))⟩, e1⟩)
          | (rw [hnf]; exact ⟨rfl, hS, e1⟩)
      · refine L.val rfl rfl (R.mv rfl) ?_
        refine L.val rfl rfl (R.nilChk rfl) ?_
        refine L.val rfl rfl (R.fld rfl) ?_
        refine L.val rfl rfl (R.ldB rfl hB rfl) ?_
        refine L.val rfl rfl (R.lenS rfl) ?_
        refine L.val rfl rfl (R.mv rfl) ?_
        refine L.val rfl rfl (R.geq rfl rfl) ?_
        refine L.val rfl rfl (R.mv rfl) ?_
        refine L.caseP 33 rfl (fun hg3_14 => ?_) (fun hg3_14 => ?_)
        · refine L.val rfl rfl (R.mv rfl) ?_
          refine L.val rfl rfl (R.eqI rfl rfl) ?_
          first | refine L.val rfl rfl (R.pickT rfl rfl) ?_ | refine L.val rfl rfl (R.pickF rfl rfl) ?_
          refine L.val rfl rfl (R.mv rfl) ?_
          refine L.caseP 37 rfl (fun hg3_18 => ?_) (fun hg3_18 => ?_)
          · refine L.val rfl rfl (R.mv rfl) ?_
            refine L.val rfl rfl (R.nilChk rfl) ?_
            refine L.val rfl rfl (R.fld rfl) ?_
            refine L.val rfl rfl (R.ldB rfl hB rfl) ?_
            obtain ⟨q, hq, hc0⟩ := hb.at 0 (by omega)
            refine L.val rfl rfl (R.idx rfl rfl (by omega) (by omega) q hq) ?_
            refine L.val rfl rfl (R.ld rfl hc0) ?_
            refine L.val rfl rfl (R.geq rfl rfl) ?_
            first | refine L.val rfl rfl (R.pickT rfl rfl) ?_ | refine L.val rfl rfl (R.pickF rfl rfl) ?_
            first | refine L.val rfl rfl (R.pickT rfl rfl) ?_ | refine L.val rfl rfl (R.pickF rfl rfl) ?_
            refine L.nil ?_
            refine N.seq ?_
            refine G.condP rfl (fun h1 => ?_) (fun h1 => ?_)
            · have hno : ¬ okN l y := by
                rintro ⟨h1, h2, h3, h4⟩
                first | omega | (have := h4 (by omega); rw [getD_zero (by omega)] at this; omega)
              refine G.seq ?_
              refine G.region ?_
              refine L.val rfl rfl (R.mv rfl) ?_
              refine L.val rfl rfl (R.nilChk rfl) ?_
              refine L.val rfl rfl (R.fld rfl) ?_
              refine L.set rfl (R.st rfl rfl hB (by simp) rfl) ?_
              rintro w1 ⟨e1, hs1, B1⟩
              refine L.nil ?_
              refine N.seq ?_
              refine G.seq ?_
              refine G.region ?_
              refine L.val rfl rfl (R.as rfl) ?_
              refine L.nil ?_
              refine N.seq ?_
              refine G.ret1 rfl rfl ?_
              first
                | (rw [numF_no hno]; exact ⟨rfl, ⟨a, n, c, hsD, hnc, haD, B1, hb.ext e1 (fun q hq h => hsD (by rw [← List.mem_singleton.1 h]; exact haD q hq))⟩, e1⟩)
                | (rw [hnf]; exact ⟨rfl, hS, e1⟩)
            · have hok : y ≤ l.length → okN l y := by
                intro hy
                refine ⟨by omega, by omega, hy, fun h8 => ?_⟩
                first | omega | (rw [getD_zero (by omega)]; omega)
              have htl := num_takeN_lt hok
              have htn := takeN_le l y
              have hnf := numF_go hok
              refine G.skip ?_
              refine N.seq ?_
              refine G.seq ?_
              refine G.region ?_
              refine L.val rfl rfl (R.mv rfl) ?_
              refine L.val rfl rfl (R.mv rfl) ?_
              refine L.callF rfl rfl rfl go191 (take_ok _ _ _ _ _ _ hs0 hl (by omega)) ?_
              rintro _ w1 ⟨e1, a1, c1, rfl, hc1, hb1, ha1, hS⟩
              refine L.val rfl rfl (R.mv rfl) ?_
              refine L.val rfl rfl (R.ext rfl rfl) ?_
              refine L.val rfl rfl (R.ext rfl rfl) ?_
              refine L.val rfl rfl (R.as rfl) ?_
              refine L.val rfl rfl (R.as rfl) ?_
              refine L.nil ?_
              refine N.seq ?_
              refine G.seq ?_
              refine G.region ?_
              refine L.val rfl rfl (R.as rfl) ?_
              refine L.nil ?_
              refine N.seq ?_
              refine G.seq ?_
              refine G.seq ?_
              refine G.region ?_
              refine L.val rfl rfl (R.mv rfl) ?_
              refine L.val rfl rfl (R.lenS rfl) ?_
              refine L.val rfl rfl (R.mv rfl) ?_
              refine L.nil ?_
              refine N.seq ?_
              refine G.block ?_
              refine G.loop (X := Nat) (fun k => [(56, .slice a1 (takeN l y) c1), (57, .int .i64 (takeN l y)), (58, .int .i64 (k : Nat)), (7, .int .i64 (num (l.take k)))]) (fun k w' => k ≤ takeN l y ∧ w' = w1) (fun k => takeN l y - k) (0) (Sub.cons rfl (Sub.cons rfl (Sub.cons rfl (Sub.cons rfl (Sub.nil _))))) ⟨by omega, rfl⟩ ?_
              rintro k w2 ⟨hk, rfl⟩
              refine G.seq ?_
              refine G.region ?_
              refine L.val rfl rfl (R.lss rfl rfl) ?_
              refine L.nil ?_
              refine N.seq ?_
              refine G.seq ?_
              refine G.condP rfl (fun h2 => ?_) (fun h2 => ?_)
              · obtain ⟨q, hq, hc0⟩ := hb1.at k (by rw [List.length_take]; omega)
                rw [List.getElem_take] at hc0
                have hns := num_step (l := l) (k := k) (by omega) htn htl
                have hl8 := lt_u8 (l[k]'(by omega))
                refine G.skip ?_
                refine N.seq ?_
                refine G.seq ?_
                refine G.block ?_
                refine G.seq ?_
                refine G.region ?_
                refine L.val rfl rfl (R.idx rfl rfl (by omega) (by omega) q hq) ?_
                refine L.val rfl rfl (R.ld rfl hc0) ?_
                refine L.val rfl rfl (R.as rfl) ?_
                refine L.nil ?_
                refine N.seq ?_
                refine G.region ?_
                refine L.val rfl rfl (R.mv rfl) ?_
                refine L.val rfl rfl (R.shlW rfl rfl (by omega) _ (shl_byte (by omega))) ?_
                refine L.val rfl rfl (R.mv rfl) ?_
                refine L.val rfl rfl (R.conv rfl _ (wrap_i64 (by omega))) ?_
                refine L.val rfl rfl (R.orW rfl rfl _ (or_byte (by omega) hns)) ?_
                refine L.val rfl rfl (R.as rfl) ?_
                refine L.be 7 rfl (congrArg (Value.int .i64) (congrArg Nat.cast (num_take_succ l (by omega)).symm)) ?_
                refine L.nil ?_
                refine N.block ?_
                refine N.seq ?_
                refine G.region ?_
                refine L.val rfl rfl (R.add rfl rfl (by omega)) ?_
                refine L.val rfl rfl (R.mv rfl) ?_
                refine L.nil ?_
                exact N.again (k + 1) (by omega) (Sub.cons rfl (Sub.cons rfl (Sub.cons rfl (Sub.cons rfl (Sub.nil _))))) ⟨by omega, rfl⟩
              · obtain rfl : k = takeN l y := by omega
                refine G.exit _ rfl ?_
                refine N.seq ?_
                refine G.seq ?_
                refine G.region ?_
                refine L.val rfl rfl (R.mv rfl) ?_
                refine L.val rfl rfl (R.as rfl) ?_
                refine L.nil ?_
                refine N.seq ?_
                refine G.ret1 rfl rfl ?_
                first
                  | (rw [numF_no hno]; exact ⟨rfl, ⟨a, n, c, hsD, hnc, haD, B1, hb.ext e1 (fun q hq h => hsD (by rw [← List.mem_singleton.1 h]; exact haD q hq))⟩, e1⟩)
                  | (rw [hnf]; exact ⟨rfl, hS, e1⟩)
          · refine L.pass rfl rfl ?_
            refine L.pass rfl rfl ?_
            refine L.pass rfl rfl ?_
            refine L.pass rfl rfl ?_
            refine L.pass rfl rfl ?_
            refine L.pass rfl rfl ?_
            refine L.pass rfl rfl ?_
            first | refine L.val rfl rfl (R.pickT rfl rfl) ?_ | refine L.val rfl rfl (R.pickF rfl rfl) ?_
            first | refine L.val rfl rfl (R.pickT rfl rfl) ?_ | refine L.val rfl rfl (R.pickF rfl rfl) ?_
            refine L.nil ?_
            refine N.seq ?_
            refine G.condF rfl ?_
            have hok : y ≤ l.length → okN l y := by
              intro hy
              refine ⟨by omega, by omega, hy, fun h8 => ?_⟩
              first | omega | (rw [getD_zero (by omega)]; omega)
            have htl := num_takeN_lt hok
            have htn := takeN_le l y
            have hnf := numF_go hok
            refine G.skip ?_
            refine N.seq ?_
            refine G.seq ?_
            refine G.region ?_
            refine L.val rfl rfl (R.mv rfl) ?_
            refine L.val rfl rfl (R.mv rfl) ?_
            refine L.callF rfl rfl rfl go191 (take_ok _ _ _ _ _ _ hs0 hl (by omega)) ?_
            rintro _ w1 ⟨e1, a1, c1, rfl, hc1, hb1, ha1, hS⟩
            refine L.val rfl rfl (R.mv rfl) ?_
            refine L.val rfl rfl (R.ext rfl rfl) ?_
            refine L.val rfl rfl (R.ext rfl rfl) ?_
            refine L.val rfl rfl (R.as rfl) ?_
            refine L.val rfl rfl (R.as rfl) ?_
            refine L.nil ?_
            refine N.seq ?_
            refine G.seq ?_
            refine G.region ?_
            refine L.val rfl rfl (R.as rfl) ?_
            refine L.nil ?_
            refine N.seq ?_
            refine G.seq ?_
            refine G.seq ?_
            refine G.region ?_
            refine L.val rfl rfl (R.mv rfl) ?_
            refine L.val rfl rfl (R.lenS rfl) ?_
            refine L.val rfl rfl (R.mv rfl) ?_
            refine L.nil ?_
            refine N.seq ?_
            refine G.block ?_
            refine G.loop (X := Nat) (fun k => [(56, .slice a1 (takeN l y) c1), (57, .int .i64 (takeN l y)), (58, .int .i64 (k : Nat)), (7, .int .i64 (num (l.take k)))]) (fun k w' => k ≤ takeN l y ∧ w' = w1) (fun k => takeN l y - k) (0) (Sub.cons rfl (Sub.cons rfl (Sub.cons rfl (Sub.cons rfl (Sub.nil _))))) ⟨by omega, rfl⟩ ?_
            rintro k w2 ⟨hk, rfl⟩
            refine G.seq ?_
            refine G.region ?_
            refine L.val rfl rfl (R.lss rfl rfl) ?_
            refine L.nil ?_
            refine N.seq ?_
            refine G.seq ?_
            refine G.condP rfl (fun h2 => ?_) (fun h2 => ?_)
            · obtain ⟨q, hq, hc0⟩ := hb1.at k (by rw [List.length_take]; omega)
              rw [List.getElem_take] at hc0
              have hns := num_step (l := l) (k := k) (by omega) htn htl
              have hl8 := lt_u8 (l[k]'(by omega))
              refine G.skip ?_
              refine N.seq ?_
              refine G.seq ?_
              refine G.block ?_
              refine G.seq ?_
              refine G.region ?_
              refine L.val rfl rfl (R.idx rfl rfl (by omega) (by omega) q hq) ?_
              refine L.val rfl rfl (R.ld rfl hc0) ?_
              refine L.val rfl rfl (R.as rfl) ?_
              refine L.nil ?_
              refine N.seq ?_
              refine G.region ?_
              refine L.val rfl rfl (R.mv rfl) ?_
              refine L.val rfl rfl (R.shlW rfl rfl (by omega) _ (shl_byte (by omega))) ?_
              refine L.val rfl rfl (R.mv rfl) ?_
              refine L.val rfl rfl (R.conv rfl _ (wrap_i64 (by omega))) ?_
              refine L.val rfl rfl (R.orW rfl rfl _ (or_byte (by omega) hns)) ?_
              refine L.val rfl rfl (R.as rfl) ?_
              refine L.be 7 rfl (congrArg (Value.int .i64) (congrArg Nat.cast (num_take_succ l (by omega)).symm)) ?_
              refine L.nil ?_
              refine N.block ?_
              refine N.seq ?_
              refine G.region ?_
              refine L.val rfl rfl (R.add rfl rfl (by omega)) ?_
              refine L.val rfl rfl (R.mv rfl) ?_
              refine L.nil ?_
              exact N.again (k + 1) (by omega) (Sub.cons rfl (Sub.cons rfl (Sub.cons rfl (Sub.cons rfl (Sub.nil _))))) ⟨by omega, rfl⟩
            · obtain rfl : k = takeN l y := by omega
              refine G.exit _ rfl ?_
              refine N.seq ?_
              refine G.seq ?_
              refine G.region ?_
              refine L.val rfl rfl (R.mv rfl) ?_
              refine L.val rfl rfl (R.as rfl) ?_
              refine L.nil ?_
              refine N.seq ?_
              refine G.ret1 rfl rfl ?_
              first
                | (rw [numF_no hno]; exact ⟨rfl, ⟨a, n, c, hsD, hnc, haD, B1, hb.ext e1 (fun q hq h => hsD (by rw [← List.mem_singleton.1 h]; exact haD q hq))⟩, e1⟩)
                | (rw [hnf]; exact ⟨rfl, hS, e1⟩)
        · refine L.pass rfl rfl ?_
          refine L.pass rfl rfl ?_
          first | refine L.val rfl rfl (R.pickT rfl rfl) ?_ | refine L.val rfl rfl (R.pickF rfl rfl) ?_
          refine L.val rfl rfl (R.mv rfl) ?_
          refine L.pass rfl rfl ?_
          refine L.pass rfl rfl ?_
          refine L.pass rfl rfl ?_
          refine L.pass rfl rfl ?_
          refine L.pass rfl rfl ?_
          refine L.pass rfl rfl ?_
          refine L.pass rfl rfl ?_
          first | refine L.val rfl rfl (R.pickT rfl rfl) ?_ | refine L.val rfl rfl (R.pickF rfl rfl) ?_
          first | refine L.val rfl rfl (R.pickT rfl rfl) ?_ | refine L.val rfl rfl (R.pickF rfl rfl) ?_
          refine L.nil ?_
          refine N.seq ?_
          refine G.condF rfl ?_
          have hok : y ≤ l.length → okN l y := by
            intro hy
            refine ⟨by omega, by omega, hy, fun h8 => ?_⟩
            first | omega | (rw [getD_zero (by omega)]; omega)
          have htl := num_takeN_lt hok
          have htn := takeN_le l y
          have hnf := numF_go hok
          refine G.skip ?_
          refine N.seq ?_
          refine G.seq ?_
          refine G.region ?_
          refine L.val rfl rfl (R.mv rfl) ?_
          refine L.val rfl rfl (R.mv rfl) ?_
          refine L.callF rfl rfl rfl go191 (take_ok _ _ _ _ _ _ hs0 hl (by omega)) ?_
          rintro _ w1 ⟨e1, a1, c1, rfl, hc1, hb1, ha1, hS⟩
          refine L.val rfl rfl (R.mv rfl) ?_
          refine L.val rfl rfl (R.ext rfl rfl) ?_
          refine L.val rfl rfl (R.ext rfl rfl) ?_
          refine L.val rfl rfl (R.as rfl) ?_
          refine L.val rfl rfl (R.as rfl) ?_
          refine L.nil ?_
          refine N.seq ?_
          refine G.seq ?_
          refine G.region ?_
          refine L.val rfl rfl (R.as rfl) ?_
          refine L.nil ?_
          refine N.seq ?_
          refine G.seq ?_
          refine G.seq ?_
          refine G.region ?_
          refine L.val rfl rfl (R.mv rfl) ?_
          refine L.val rfl rfl (R.lenS rfl) ?_
          refine L.val rfl rfl (R.mv rfl) ?_
          refine L.nil ?_
          refine N.seq ?_
          refine G.block ?_
          refine G.loop (X := Nat) (fun k => [(56, .slice a1 (takeN l y) c1), (57, .int .i64 (takeN l y)), (58, .int .i64 (k : Nat)), (7, .int .i64 (num (l.take k)))]) (fun k w' => k ≤ takeN l y ∧ w' = w1) (fun k => takeN l y - k) (0) (Sub.cons rfl (Sub.cons rfl (Sub.cons rfl (Sub.cons rfl (Sub.nil _))))) ⟨by omega, rfl⟩ ?_
          rintro k w2 ⟨hk, rfl⟩
          refine G.seq ?_
          refine G.region ?_
          refine L.val rfl rfl (R.lss rfl rfl) ?_
          refine L.nil ?_
          refine N.seq ?_
          refine G.seq ?_
          refine G.condP rfl (fun h2 => ?_) (fun h2 => ?_)
          · obtain ⟨q, hq, hc0⟩ := hb1.at k (by rw [List.length_take]; omega)
            rw [List.getElem_take] at hc0
            have hns := num_step (l := l) (k := k) (by omega) htn htl
            have hl8 := lt_u8 (l[k]'(by omega))
            refine G.skip ?_
            refine N.seq ?_
            refine G.seq ?_
            refine G.block ?_
            refine G.seq ?_
            refine G.region ?_
            refine L.val rfl rfl (R.idx rfl rfl (by omega) (by omega) q hq) ?_
            refine L.val rfl rfl (R.ld rfl hc0) ?_
            refine L.val rfl rfl (R.as rfl) ?_
            refine L.nil ?_
            refine N.seq ?_
            refine G.region ?_
            refine L.val rfl rfl (R.mv rfl) ?_
            refine L.val rfl rfl (R.shlW rfl rfl (by omega) _ (shl_byte (by omega))) ?_
            refine L.val rfl rfl (R.mv rfl) ?_
            refine L.val rfl rfl (R.conv rfl _ (wrap_i64 (by omega))) ?_
            refine L.val rfl rfl (R.orW rfl rfl _ (or_byte (by omega) hns)) ?_
            refine L.val rfl rfl (R.as rfl) ?_
            refine L.be 7 rfl (congrArg (Value.int .i64) (congrArg Nat.cast (num_take_succ l (by omega)).symm)) ?_
            refine L.nil ?_
            refine N.block ?_
            refine N.seq ?_
            refine G.region ?_
            refine L.val rfl rfl (R.add rfl rfl (by omega)) ?_
            refine L.val rfl rfl (R.mv rfl) ?_
            refine L.nil ?_
            exact N.again (k + 1) (by omega) (Sub.cons rfl (Sub.cons rfl (Sub.cons rfl (Sub.cons rfl (Sub.nil _))))) ⟨by omega, rfl⟩
          · obtain rfl : k = takeN l y := by omega
            refine G.exit _ rfl ?_
            refine N.seq ?_
            refine G.seq ?_
            refine G.region ?_
            refine L.val rfl rfl (R.mv rfl) ?_
            refine L.val rfl rfl (R.as rfl) ?_
            refine L.nil ?_
            refine N.seq ?_
            refine G.ret1 rfl rfl ?_
            first
              | (rw [numF_no hno]; exact ⟨rfl, ⟨a, n, c, hsD, hnc, haD, B1, hb.ext e1 (fun q hq h => hsD (by rw [← List.mem_singleton.1 h]; exact haD q hq))⟩, e1⟩)
              | (rw [hnf]; exact ⟨rfl, hS, e1⟩)

theorem scantext_nil (y : Int) (w : World) : Meets Try.prog 189 [.pointer none, .int .i64 y] w (fun v w' => v = .slice none 0 0 ∧ w' = w) := by
  refine Meets.enter Try.func189 rfl 54 rfl (Nat.le_of_ble_eq_true rfl) ?_
  refine G.seq ?_
  refine G.region ?_
  refine L.val rfl rfl (R.as rfl) ?_
  refine L.nil ?_
  refine N.seq ?_
  refine G.seq ?_
  refine G.seq ?_
  refine G.region ?_
  refine L.val rfl rfl (R.mv rfl) ?_
  refine L.val rfl rfl (R.eqNilP rfl rfl) ?_
  refine L.val rfl rfl (R.mv rfl) ?_
  refine L.pass rfl rfl ?_
  refine L.pass rfl rfl ?_
  refine L.pass rfl rfl ?_
  refine L.pass rfl rfl ?_
  refine L.pass rfl rfl ?_
  first | refine L.val rfl rfl (R.pickT rfl rfl) ?_ | refine L.val rfl rfl (R.pickF rfl rfl) ?_
  refine L.nil ?_
  refine N.seq ?_
  refine G.condT rfl ?_
  refine G.seq ?_
  refine G.region ?_
  refine L.val rfl rfl (R.as rfl) ?_
  refine L.nil ?_
  refine N.seq ?_
  refine G.ret1 rfl rfl ?_
  exact ⟨rfl, rfl⟩

theorem scantext_ok (s : Nat) (D : List Nat) (l : List UInt8) (e : Int) (y : Int) (w : World) (hs : ScanAt 287 w s D l e) (hl : l.length ≤ 70368744177664) : Meets Try.prog 189 [.pointer (some ⟨s, 0, none⟩), .int .i64 y] w (fun v w' => ∃ a c, v = .slice a (txtF l e y).1.length c ∧ (txtF l e y).1.length ≤ c ∧ Bs w' a (txtF l e y).1.length (txtF l e y).1 ∧ (∀ q, a = some q → q.block ∈ D) ∧ ScanAt 287 w' s D (txtF l e y).2.1 (txtF l e y).2.2 ∧ Ext [s] w w') := by
  refine Meets.enter Try.func189 rfl 54 rfl (Nat.le_of_ble_eq_true rfl) ?_
  have hs0 := hs
  obtain ⟨a, n, c, hsD, hnc, haD, hB, hb⟩ := hs
  have hn := hb.len
  have hlt := hB.lt
  have hnD : ∀ q, a = some q → q.block ∉ [s] := fun q hq h => hsD (by rw [← List.mem_singleton.1 h]; exact haD q hq)
  refine G.seq ?_
  refine G.region ?_
  refine L.val rfl rfl (R.as rfl) ?_
  refine L.nil ?_
  refine N.seq ?_
  refine G.seq ?_
  refine G.seq ?_
  refine G.region ?_
  refine L.val rfl rfl (R.mv rfl) ?_
  refine L.val rfl rfl (R.eqNilP rfl rfl) ?_
  refine L.val rfl rfl (R.mv rfl) ?_
  refine L.val rfl rfl (R.mv rfl) ?_
  refine L.val rfl rfl (R.nilChk rfl) ?_
  refine L.val rfl rfl (R.fld rfl) ?_
  refine L.val rfl rfl (R.ldB rfl hB rfl) ?_
  refine L.val rfl rfl (R.neI rfl rfl) ?_
  first | refine L.val rfl rfl (R.pickT rfl rfl) ?_ | refine L.val rfl rfl (R.pickF rfl rfl) ?_
  refine L.nil ?_
  refine N.seq ?_
  refine G.condP rfl (fun h0 => ?_) (fun h0 => ?_)
  · refine G.seq ?_
    refine G.region ?_
    refine L.val rfl rfl (R.as rfl) ?_
    refine L.nil ?_
    refine N.seq ?_
    refine G.ret1 rfl rfl ?_
    rw [txtF_err (by omega)]
    exact ⟨none, 0, rfl, Nat.le_refl _, Bs.nil _, (by intro q hq; cases hq), hs0, Ext.refl _ _⟩
  · obtain rfl : e = 0 := by omega
    refine G.skip ?_
    refine N.seq ?_
    refine G.seq ?_
    refine G.region ?_
    refine L.val rfl rfl (R.mv rfl) ?_
    refine L.val rfl rfl (R.nilChk rfl) ?_
    refine L.val rfl rfl (R.fld rfl) ?_
    refine L.val rfl rfl (R.ldB rfl hB rfl) ?_
    refine L.val rfl rfl (R.as rfl) ?_
    refine L.nil ?_
    refine N.seq ?_
    refine G.seq ?_
    refine G.region ?_
    refine L.val rfl rfl (R.mv rfl) ?_
    refine L.callF rfl rfl rfl go134 (scannum_ok _ _ _ _ _ _ hs0 hl) ?_
    rintro _ w1 ⟨rfl, hS, Gs⟩
    obtain ⟨m2, l2, e2, hq⟩ : ∃ m l' e', numF l 0 2 = (m, l', e') := ⟨_, _, _, rfl⟩
    rw [hq] at hS
    dsimp only at hS
    have hS1 := hS
    obtain ⟨a2, n2, c2, _, hnc2, haD2, hB2, hb2⟩ := hS
    have hn2 := hb2.len
    have htwo := numF_two hq
    have hl2 : l2.length ≤ 70368744177664 := by rcases htwo with ⟨_, _, _, rfl⟩ | ⟨_, _, _, rfl⟩ <;> (try rw [List.length_drop]) <;> omega
    have he2 : e2 = 0 ∨ e2 = 20 := by exact htwo.imp (fun h => h.2.1) (fun h => h.2.1)
    refine L.be 23 rfl (show _ = Value.int .i64 (m2 : Int) by rw [hq]) ?_
    refine L.val rfl rfl (R.as rfl) ?_
    refine L.nil ?_
    refine N.seq ?_
    refine G.seq ?_
    refine G.seq ?_
    refine G.region ?_
    refine L.val rfl rfl (R.mv rfl) ?_
    refine L.val rfl rfl (R.nilChk rfl) ?_
    refine L.val rfl rfl (R.fld rfl) ?_
    refine L.val rfl rfl (R.ldB rfl hB2 rfl) ?_
    refine L.val rfl rfl (R.eqI rfl rfl) ?_
    refine L.val rfl rfl (R.mv rfl) ?_
    refine L.caseP 29 rfl (fun hg5_5 => ?_) (fun hg5_5 => ?_)
    · refine L.val rfl rfl (R.mv rfl) ?_
      refine L.val rfl rfl (R.mv rfl) ?_
      refine L.val rfl rfl (R.gtr rfl rfl) ?_
      first | refine L.val rfl rfl (R.pickT rfl rfl) ?_ | refine L.val rfl rfl (R.pickF rfl rfl) ?_
      refine L.nil ?_
      refine N.seq ?_
      refine G.condP rfl (fun h1 => ?_) (fun h1 => ?_)
      · refine G.region ?_
        refine L.val rfl rfl (R.mv rfl) ?_
        refine L.val rfl rfl (R.nilChk rfl) ?_
        refine L.val rfl rfl (R.fld rfl) ?_
        refine L.set rfl (R.st rfl rfl hB2 (by simp) rfl) ?_
        rintro w2 ⟨e3, hs3, hB2⟩
        replace Gs := Gs.trans1 e3
        refine L.nil ?_
        refine N.seq ?_
        refine G.seq ?_
        refine G.seq ?_
        refine G.region ?_
        refine L.val rfl rfl (R.mv rfl) ?_
        refine L.val rfl rfl (R.nilChk rfl) ?_
        refine L.val rfl rfl (R.fld rfl) ?_
        refine L.val rfl rfl (R.ldB rfl hB2 rfl) ?_
        refine L.val rfl rfl (R.eqI rfl rfl) ?_
        refine L.nil ?_
        refine N.seq ?_
        refine G.condP rfl (fun h2 => ?_) (fun h2 => ?_)
        · exfalso; omega
        · refine G.skip ?_
          refine N.seq ?_
          refine G.seq ?_
          refine G.region ?_
          refine L.val rfl rfl (R.mv rfl) ?_
          refine L.val rfl rfl (R.mv rfl) ?_
          refine L.val rfl rfl (R.nilChk rfl) ?_
          refine L.val rfl rfl (R.fld rfl) ?_
          refine L.set rfl (R.st rfl rfl hB2 (by simp) rfl) ?_
          rintro w5 ⟨e5, hs5, B5⟩
          replace Gs := Gs.trans1 e5
          refine L.nil ?_
          refine N.seq ?_
          refine G.seq ?_
          refine G.region ?_
          refine L.val rfl rfl (R.as rfl) ?_
          refine L.nil ?_
          refine N.seq ?_
          refine G.ret1 rfl rfl ?_
          rw [txtF_no hq (by omega)]
          exact ⟨none, 0, rfl, Nat.le_refl _, Bs.nil _, (by intro q hq; cases hq), ⟨a, n, c, hsD, hnc, haD, B5, hb.ext Gs hnD⟩, Gs⟩
      · refine G.skip ?_
        refine N.seq ?_
        refine G.seq ?_
        refine G.seq ?_
        refine G.region ?_
        refine L.val rfl rfl (R.mv rfl) ?_
        refine L.val rfl rfl (R.nilChk rfl) ?_
        refine L.val rfl rfl (R.fld rfl) ?_
        refine L.val rfl rfl (R.ldB rfl hB2 rfl) ?_
        refine L.val rfl rfl (R.eqI rfl rfl) ?_
        refine L.nil ?_
        refine N.seq ?_
        refine G.condP rfl (fun h2 => ?_) (fun h2 => ?_)
        · refine G.seq ?_
          refine G.region ?_
          refine L.val rfl rfl (R.mv rfl) ?_
          refine L.val rfl rfl (R.mv rfl) ?_
          refine L.callF rfl rfl rfl go191 (take_ok _ _ _ _ _ _ hS1 hl2 (by omega)) ?_
          rintro _ w2 ⟨e3, a3, c3, rfl, hc3, hb3, ha3, hS3⟩
          replace Gs := Gs.trans1 e3
          refine L.val rfl rfl (R.mv rfl) ?_
          refine L.val rfl rfl (R.ext rfl rfl) ?_
          refine L.val rfl rfl (R.ext rfl rfl) ?_
          refine L.val rfl rfl (R.as rfl) ?_
          refine L.val rfl rfl (R.as rfl) ?_
          refine L.nil ?_
          refine N.seq ?_
          refine G.seq ?_
          refine G.region ?_
          refine L.val rfl rfl (R.mv rfl) ?_
          refine L.nil ?_
          refine N.seq ?_
          refine G.condP rfl (fun h3 => ?_) (fun h3 => ?_)
          · rw [takeN_yes (by omega)] at *
            rw [if_pos (by omega)] at hS3
            refine G.seq ?_
            refine G.region ?_
            refine L.val rfl rfl (R.mv rfl) ?_
            refine L.val rfl rfl (R.as rfl) ?_
            refine L.nil ?_
            refine N.seq ?_
            refine G.ret1 rfl rfl ?_
            rw [txtF_yes hq (by omega) (by omega) (by omega)]
            have hlt2 : (l2.take m2).length = m2 := by rw [List.length_take]; omega
            obtain rfl : e2 = 0 := by omega
            dsimp only
            rw [hlt2]
            exact ⟨a3, c3, rfl, hc3, hb3, ha3, hS3, Gs⟩
          · rw [if_neg (by omega)] at hS3
            obtain ⟨a4, n4, c4, _, hnc4, haD4, hB2, hb4⟩ := hS3
            refine G.skip ?_
            refine N.seq ?_
            refine G.seq ?_
            refine G.region ?_
            refine L.val rfl rfl (R.mv rfl) ?_
            refine L.val rfl rfl (R.mv rfl) ?_
            refine L.val rfl rfl (R.nilChk rfl) ?_
            refine L.val rfl rfl (R.fld rfl) ?_
            refine L.set rfl (R.st rfl rfl hB2 (by simp) rfl) ?_
            rintro w5 ⟨e5, hs5, B5⟩
            replace Gs := Gs.trans1 e5
            refine L.nil ?_
            refine N.seq ?_
            refine G.seq ?_
            refine G.region ?_
            refine L.val rfl rfl (R.as rfl) ?_
            refine L.nil ?_
            refine N.seq ?_
            refine G.ret1 rfl rfl ?_
            rw [txtF_no hq (by omega)]
            exact ⟨none, 0, rfl, Nat.le_refl _, Bs.nil _, (by intro q hq; cases hq), ⟨a, n, c, hsD, hnc, haD, B5, hb.ext Gs hnD⟩, Gs⟩
        · exfalso; omega
    · refine L.pass rfl rfl ?_
      refine L.pass rfl rfl ?_
      refine L.pass rfl rfl ?_
      first | refine L.val rfl rfl (R.pickT rfl rfl) ?_ | refine L.val rfl rfl (R.pickF rfl rfl) ?_
      refine L.nil ?_
      refine N.seq ?_
      refine G.condF rfl ?_
      refine G.skip ?_
      refine N.seq ?_
      refine G.seq ?_
      refine G.seq ?_
      refine G.region ?_
      refine L.val rfl rfl (R.mv rfl) ?_
      refine L.val rfl rfl (R.nilChk rfl) ?_
      refine L.val rfl rfl (R.fld rfl) ?_
      refine L.val rfl rfl (R.ldB rfl hB2 rfl) ?_
      refine L.val rfl rfl (R.eqI rfl rfl) ?_
      refine L.nil ?_
      refine N.seq ?_
      refine G.condP rfl (fun h2 => ?_) (fun h2 => ?_)
      · exfalso; omega
      · refine G.skip ?_
        refine N.seq ?_
        refine G.seq ?_
        refine G.region ?_
        refine L.val rfl rfl (R.mv rfl) ?_
        refine L.val rfl rfl (R.mv rfl) ?_
        refine L.val rfl rfl (R.nilChk rfl) ?_
        refine L.val rfl rfl (R.fld rfl) ?_
        refine L.set rfl (R.st rfl rfl hB2 (by simp) rfl) ?_
        rintro w5 ⟨e5, hs5, B5⟩
        replace Gs := Gs.trans1 e5
        refine L.nil ?_
        refine N.seq ?_
        refine G.seq ?_
        refine G.region ?_
        refine L.val rfl rfl (R.as rfl) ?_
        refine L.nil ?_
        refine N.seq ?_
        refine G.ret1 rfl rfl ?_
        obtain rfl : e2 = 20 := by omega
        rw [txtF_no hq (by omega)]
        exact ⟨none, 0, rfl, Nat.le_refl _, Bs.nil _, (by intro q hq; cases hq), ⟨a, n, c, hsD, hnc, haD, B5, hb.ext Gs hnD⟩, Gs⟩

theorem scanerr_nil  (w : World) : Meets Try.prog 135 [.pointer none] w (fun v w' => v = .int .i64 1 ∧ w' = w) := by
  refine Meets.enter Try.func135 rfl 9 rfl (Nat.le_of_ble_eq_true rfl) ?_
  refine G.seq ?_
  refine G.region ?_
  refine L.val rfl rfl (R.as rfl) ?_
  refine L.nil ?_
  refine N.seq ?_
  refine G.seq ?_
  refine G.seq ?_
  refine G.region ?_
  refine L.val rfl rfl (R.mv rfl) ?_
  refine L.val rfl rfl (R.eqNilP rfl rfl) ?_
  refine L.nil ?_
  refine N.seq ?_
  refine G.condT rfl ?_
  refine G.seq ?_
  refine G.region ?_
  refine L.val rfl rfl (R.as rfl) ?_
  refine L.nil ?_
  refine N.seq ?_
  refine G.ret1 rfl rfl ?_
  exact ⟨rfl, rfl⟩

theorem scanerr_ok (s : Nat) (D : List Nat) (l : List UInt8) (e : Int) (w : World) (hs : ScanAt 287 w s D l e) (hl : l.length ≤ 70368744177664) : Meets Try.prog 135 [.pointer (some ⟨s, 0, none⟩)] w (fun v w' => v = .int .i64 e ∧ w' = w) := by
  refine Meets.enter Try.func135 rfl 9 rfl (Nat.le_of_ble_eq_true rfl) ?_
  obtain ⟨a, n, c, hsD, hnc, haD, hB, hb⟩ := hs
  have hn := hb.len
  have hlt := hB.lt
  refine G.seq ?_
  refine G.region ?_
  refine L.val rfl rfl (R.as rfl) ?_
  refine L.nil ?_
  refine N.seq ?_
  refine G.seq ?_
  refine G.seq ?_
  refine G.region ?_
  refine L.val rfl rfl (R.mv rfl) ?_
  refine L.val rfl rfl (R.eqNilP rfl rfl) ?_
  refine L.nil ?_
  refine N.seq ?_
  refine G.condF rfl ?_
  refine G.skip ?_
  refine N.seq ?_
  refine G.seq ?_
  refine G.region ?_
  refine L.val rfl rfl (R.mv rfl) ?_
  refine L.val rfl rfl (R.nilChk rfl) ?_
  refine L.val rfl rfl (R.fld rfl) ?_
  refine L.val rfl rfl (R.ldB rfl hB rfl) ?_
  refine L.val rfl rfl (R.as rfl) ?_
  refine L.nil ?_
  refine N.seq ?_
  refine G.ret1 rfl rfl ?_
  exact ⟨rfl, rfl⟩

theorem scanleft_nil  (w : World) : Meets Try.prog 136 [.pointer none] w (fun v w' => v = .int .i64 0 ∧ w' = w) := by
  refine Meets.enter Try.func136 rfl 10 rfl (Nat.le_of_ble_eq_true rfl) ?_
  refine G.seq ?_
  refine G.region ?_
  refine L.val rfl rfl (R.as rfl) ?_
  refine L.nil ?_
  refine N.seq ?_
  refine G.seq ?_
  refine G.seq ?_
  refine G.region ?_
  refine L.val rfl rfl (R.mv rfl) ?_
  refine L.val rfl rfl (R.eqNilP rfl rfl) ?_
  refine L.nil ?_
  refine N.seq ?_
  refine G.condT rfl ?_
  refine G.seq ?_
  refine G.region ?_
  refine L.val rfl rfl (R.as rfl) ?_
  refine L.nil ?_
  refine N.seq ?_
  refine G.ret1 rfl rfl ?_
  exact ⟨rfl, rfl⟩

theorem scanleft_ok (s : Nat) (D : List Nat) (l : List UInt8) (e : Int) (w : World) (hs : ScanAt 287 w s D l e) (hl : l.length ≤ 70368744177664) : Meets Try.prog 136 [.pointer (some ⟨s, 0, none⟩)] w (fun v w' => v = .int .i64 (l.length : Nat) ∧ w' = w) := by
  refine Meets.enter Try.func136 rfl 10 rfl (Nat.le_of_ble_eq_true rfl) ?_
  obtain ⟨a, n, c, hsD, hnc, haD, hB, hb⟩ := hs
  have hn := hb.len
  have hlt := hB.lt
  refine G.seq ?_
  refine G.region ?_
  refine L.val rfl rfl (R.as rfl) ?_
  refine L.nil ?_
  refine N.seq ?_
  refine G.seq ?_
  refine G.seq ?_
  refine G.region ?_
  refine L.val rfl rfl (R.mv rfl) ?_
  refine L.val rfl rfl (R.eqNilP rfl rfl) ?_
  refine L.nil ?_
  refine N.seq ?_
  refine G.condF rfl ?_
  refine G.skip ?_
  refine N.seq ?_
  refine G.seq ?_
  refine G.region ?_
  refine L.val rfl rfl (R.mv rfl) ?_
  refine L.val rfl rfl (R.nilChk rfl) ?_
  refine L.val rfl rfl (R.fld rfl) ?_
  refine L.val rfl rfl (R.ldB rfl hB rfl) ?_
  refine L.val rfl rfl (R.lenS rfl) ?_
  refine L.val rfl rfl (R.as rfl) ?_
  refine L.nil ?_
  refine N.seq ?_
  refine G.ret1 rfl rfl ?_
  exact ⟨by rw [hn], rfl⟩

theorem refnum_ok (s : Nat) (l : List UInt8) (e : Int) (y : Int) (w : World) (hB : Blk w s #[.string (str l), .int .i64 e] 224 (0, 0)) (hl : l.length ≤ 70368744177664) : Meets Try.prog 138 [.pointer (some ⟨s, 0, none⟩), .int .i64 y] w (fun v w' => v = .int .i64 (numF l e y).1 ∧ Blk w' s #[.string (str (numF l e y).2.1), .int .i64 (numF l e y).2.2] 224 (0, 0) ∧ Ext [s] w w') := by
  refine Meets.enter Try.func138 rfl 67 rfl (Nat.le_of_ble_eq_true rfl) ?_
  have hB0 := hB
  refine G.seq ?_
  refine G.region ?_
  refine L.val rfl rfl (R.as rfl) ?_
  refine L.nil ?_
  refine N.seq ?_
  refine G.seq ?_
  refine G.seq ?_
  refine G.region ?_
  refine L.val rfl rfl (R.mv rfl) ?_
  refine L.val rfl rfl (R.nilChk rfl) ?_
  refine L.val rfl rfl (R.fld rfl) ?_
  refine L.val rfl rfl (R.ldB rfl hB rfl) ?_
  refine L.val rfl rfl (R.neI rfl rfl) ?_
  refine L.nil ?_
  refine N.seq ?_
  refine G.condP rfl (fun h0 => ?_) (fun h0 => ?_)
  · refine G.seq ?_
    refine G.region ?_
    refine L.val rfl rfl (R.as rfl) ?_
    refine L.nil ?_
    refine N.seq ?_
    refine G.ret1 rfl rfl ?_
    first
      | (rw [numF_err (by assumption)]; exact ⟨rfl, hB0, Ext.refl _ _⟩)
      | (rw [numF_no hno]; exact ⟨rfl, B1, e1⟩)
      | (rw [numF_ok hok]; exact ⟨rfl, B1, e1⟩)
  · obtain rfl : e = 0 := by omega
    refine G.skip ?_
    refine N.seq ?_
    refine G.seq ?_
    refine G.seq ?_
    refine G.region ?_
    refine L.val rfl rfl (R.mv rfl) ?_
    refine L.val rfl rfl (R.lss rfl rfl) ?_
    refine L.val rfl rfl (R.mv rfl) ?_
    refine L.caseP 14 rfl (fun hg3_2 => ?_) (fun hg3_2 => ?_)
    · refine L.pass rfl rfl ?_
      refine L.pass rfl rfl ?_
      first | refine L.val rfl rfl (R.pickT rfl rfl) ?_ | refine L.val rfl rfl (R.pickF rfl rfl) ?_
      refine L.val rfl rfl (R.mv rfl) ?_
      refine L.pass rfl rfl ?_
      refine L.pass rfl rfl ?_
      refine L.pass rfl rfl ?_
      refine L.pass rfl rfl ?_
      refine L.pass rfl rfl ?_
      refine L.pass rfl rfl ?_
      refine L.pass rfl rfl ?_
      first | refine L.val rfl rfl (R.pickT rfl rfl) ?_ | refine L.val rfl rfl (R.pickF rfl rfl) ?_
      refine L.val rfl rfl (R.mv rfl) ?_
      refine L.pass rfl rfl ?_
      refine L.pass rfl rfl ?_
      refine L.pass rfl rfl ?_
      refine L.pass rfl rfl ?_
      refine L.pass rfl rfl ?_
      refine L.pass rfl rfl ?_
      refine L.pass rfl rfl ?_
      refine L.pass rfl rfl ?_
      refine L.pass rfl rfl ?_
      refine L.pass rfl rfl ?_
      first | refine L.val rfl rfl (R.pickT rfl rfl) ?_ | refine L.val rfl rfl (R.pickF rfl rfl) ?_
      refine L.nil ?_
      refine N.seq ?_
      refine G.condT rfl ?_
      have hno : ¬ okN l y := by
        rintro ⟨h1, h2, h3, h4⟩
        first | omega | (have := h4 (by omega); rw [getD_zero (by omega)] at this; omega)
      refine G.seq ?_
      refine G.region ?_
      refine L.val rfl rfl (R.mv rfl) ?_
      refine L.val rfl rfl (R.nilChk rfl) ?_
      refine L.val rfl rfl (R.fld rfl) ?_
      refine L.set rfl (R.st rfl rfl hB (by simp) rfl) ?_
      rintro w1 ⟨e1, hs1, B1⟩
      refine L.nil ?_
      refine N.seq ?_
      refine G.seq ?_
      refine G.region ?_
      refine L.val rfl rfl (R.as rfl) ?_
      refine L.nil ?_
      refine N.seq ?_
      refine G.ret1 rfl rfl ?_
      first
        | (rw [numF_err (by assumption)]; exact ⟨rfl, hB0, Ext.refl _ _⟩)
        | (rw [numF_no hno]; exact ⟨rfl, B1, e1⟩)
        | (rw [numF_ok hok]; exact ⟨rfl, B1, e1⟩)
    · refine L.val rfl rfl (R.mv rfl) ?_
      refine L.val rfl rfl (R.gtr rfl rfl) ?_
      first | refine L.val rfl rfl (R.pickT rfl rfl) ?_ | refine L.val rfl rfl (R.pickF rfl rfl) ?_
      refine L.val rfl rfl (R.mv rfl) ?_
      refine L.caseP 18 rfl (fun hg3_6 => ?_) (fun hg3_6 => ?_)
      · refine L.pass rfl rfl ?_
        refine L.pass rfl rfl ?_
        refine L.pass rfl rfl ?_
        refine L.pass rfl rfl ?_
        refine L.pass rfl rfl ?_
        refine L.pass rfl rfl ?_
        refine L.pass rfl rfl ?_
        first | refine L.val rfl rfl (R.pickT rfl rfl) ?_ | refine L.val rfl rfl (R.pickF rfl rfl) ?_
        refine L.val rfl rfl (R.mv rfl) ?_
        refine L.pass rfl rfl ?_
        refine L.pass rfl rfl ?_
        refine L.pass rfl rfl ?_
        refine L.pass rfl rfl ?_
        refine L.pass rfl rfl ?_
        refine L.pass rfl rfl ?_
        refine L.pass rfl rfl ?_
        refine L.pass rfl rfl ?_
        refine L.pass rfl rfl ?_
        refine L.pass rfl rfl ?_
        first | refine L.val rfl rfl (R.pickT rfl rfl) ?_ | refine L.val rfl rfl (R.pickF rfl rfl) ?_
        refine L.nil ?_
        refine N.seq ?_
        refine G.condT rfl ?_
        have hno : ¬ okN l y := by
          rintro ⟨h1, h2, h3, h4⟩
          first | omega | (have := h4 (by omega); rw [getD_zero (by omega)] at this; omega)
        refine G.seq ?_
        refine G.region ?_
        refine L.val rfl rfl (R.mv rfl) ?_
        refine L.val rfl rfl (R.nilChk rfl) ?_
        refine L.val rfl rfl (R.fld rfl) ?_
        refine L.set rfl (R.st rfl rfl hB (by simp) rfl) ?_
        rintro w1 ⟨e1, hs1, B1⟩
        refine L.nil ?_
        refine N.seq ?_
        refine G.seq ?_
        refine G.region ?_
        refine L.val rfl rfl (R.as rfl) ?_
        refine L.nil ?_
        refine N.seq ?_
        refine G.ret1 rfl rfl ?_
        first
          | (rw [numF_err (by assumption)]; exact ⟨rfl, hB0, Ext.refl _ _⟩)
          | (rw [numF_no hno]; exact ⟨rfl, B1, e1⟩)
          | (rw [numF_ok hok]; exact ⟨rfl, B1, e1⟩)
      · refine L.val rfl rfl (R.mv rfl) ?_
        refine L.val rfl rfl (R.nilChk rfl) ?_
        refine L.val rfl rfl (R.fld rfl) ?_
        refine L.val rfl rfl (R.ldB rfl hB rfl) ?_
        refine L.val rfl rfl (R.lenStr rfl) ?_
        refine L.be 23 rfl (congrArg (Value.int .i64) (congrArg Nat.cast (str_size l))) ?_
        refine L.val rfl rfl (R.mv rfl) ?_
        refine L.val rfl rfl (R.lss rfl rfl) ?_
        first | refine L.val rfl rfl (R.pickT rfl rfl) ?_ | refine L.val rfl rfl (R.pickF rfl rfl) ?_
        refine L.val rfl rfl (R.mv rfl) ?_
        refine L.caseP 27 rfl (fun hg3_15 => ?_) (fun hg3_15 => ?_)
        · refine L.pass rfl rfl ?_
          refine L.pass rfl rfl ?_
          refine L.pass rfl rfl ?_
          refine L.pass rfl rfl ?_
          refine L.pass rfl rfl ?_
          refine L.pass rfl rfl ?_
          refine L.pass rfl rfl ?_
          refine L.pass rfl rfl ?_
          refine L.pass rfl rfl ?_
          refine L.pass rfl rfl ?_
          first | refine L.val rfl rfl (R.pickT rfl rfl) ?_ | refine L.val rfl rfl (R.pickF rfl rfl) ?_
          refine L.nil ?_
          refine N.seq ?_
          refine G.condT rfl ?_
          have hno : ¬ okN l y := by
            rintro ⟨h1, h2, h3, h4⟩
            first | omega | (have := h4 (by omega); rw [getD_zero (by omega)] at this; omega)
          refine G.seq ?_
          refine G.region ?_
          refine L.val rfl rfl (R.mv rfl) ?_
          refine L.val rfl rfl (R.nilChk rfl) ?_
          refine L.val rfl rfl (R.fld rfl) ?_
          refine L.set rfl (R.st rfl rfl hB (by simp) rfl) ?_
          rintro w1 ⟨e1, hs1, B1⟩
          refine L.nil ?_
          refine N.seq ?_
          refine G.seq ?_
          refine G.region ?_
          refine L.val rfl rfl (R.as rfl) ?_
          refine L.nil ?_
          refine N.seq ?_
          refine G.ret1 rfl rfl ?_
          first
            | (rw [numF_err (by assumption)]; exact ⟨rfl, hB0, Ext.refl _ _⟩)
            | (rw [numF_no hno]; exact ⟨rfl, B1, e1⟩)
            | (rw [numF_ok hok]; exact ⟨rfl, B1, e1⟩)
        · refine L.val rfl rfl (R.mv rfl) ?_
          refine L.val rfl rfl (R.eqI rfl rfl) ?_
          refine L.val rfl rfl (R.mv rfl) ?_
          refine L.caseP 30 rfl (fun hg3_18 => ?_) (fun hg3_18 => ?_)
          · refine L.val rfl rfl (R.mv rfl) ?_
            refine L.val rfl rfl (R.nilChk rfl) ?_
            refine L.val rfl rfl (R.fld rfl) ?_
            refine L.val rfl rfl (R.ldB rfl hB rfl) ?_
            refine L.val rfl rfl (R.idxStr rfl rfl (by omega) (List.getElem?_eq_getElem (i := 0) (by omega))) ?_
            refine L.val rfl rfl (R.gtr rfl rfl) ?_
            first | refine L.val rfl rfl (R.pickT rfl rfl) ?_ | refine L.val rfl rfl (R.pickF rfl rfl) ?_
            first | refine L.val rfl rfl (R.pickT rfl rfl) ?_ | refine L.val rfl rfl (R.pickF rfl rfl) ?_
            refine L.nil ?_
            refine N.seq ?_
            refine G.condP rfl (fun h1 => ?_) (fun h1 => ?_)
            · have hno : ¬ okN l y := by
                rintro ⟨h1, h2, h3, h4⟩
                first | omega | (have := h4 (by omega); rw [getD_zero (by omega)] at this; omega)
              refine G.seq ?_
              refine G.region ?_
              refine L.val rfl rfl (R.mv rfl) ?_
              refine L.val rfl rfl (R.nilChk rfl) ?_
              refine L.val rfl rfl (R.fld rfl) ?_
              refine L.set rfl (R.st rfl rfl hB (by simp) rfl) ?_
              rintro w1 ⟨e1, hs1, B1⟩
              refine L.nil ?_
              refine N.seq ?_
              refine G.seq ?_
              refine G.region ?_
              refine L.val rfl rfl (R.as rfl) ?_
              refine L.nil ?_
              refine N.seq ?_
              refine G.ret1 rfl rfl ?_
              first
                | (rw [numF_err (by assumption)]; exact ⟨rfl, hB0, Ext.refl _ _⟩)
                | (rw [numF_no hno]; exact ⟨rfl, B1, e1⟩)
                | (rw [numF_ok hok]; exact ⟨rfl, B1, e1⟩)
            · have hok : okN l y := by
                refine ⟨by omega, by omega, by omega, fun h8 => ?_⟩
                first | omega | (rw [getD_zero (by omega)]; omega)
              have htl := okN_lt hok
              have hy0 : y = (y.toNat : Int) := by omega
              refine G.skip ?_
              refine N.seq ?_
              refine G.seq ?_
              refine G.region ?_
              refine L.val rfl rfl (R.as rfl) ?_
              refine L.nil ?_
              refine N.seq ?_
              refine G.seq ?_
              refine G.seq ?_
              refine G.region ?_
              refine L.val rfl rfl (R.as rfl) ?_
              refine L.nil ?_
              refine N.seq ?_
              refine G.block ?_
              refine G.loop (X := Nat) (fun k => [(0, .pointer (some ⟨s, 0, none⟩)), (1, .int .i64 y), (5, .int .i64 (num (l.take k))), (6, .int .i64 (k : Nat))]) (fun k w' => k ≤ y.toNat ∧ w' = w) (fun k => y.toNat - k) (0) (Sub.cons rfl (Sub.cons rfl (Sub.cons rfl (Sub.cons rfl (Sub.nil _))))) ⟨by omega, rfl⟩ ?_
              rintro k w' ⟨hk, hw⟩
              obtain rfl := hw.symm
              refine G.seq ?_
              refine G.seq ?_
              refine G.region ?_
              refine L.val rfl rfl (R.mv rfl) ?_
              refine L.val rfl rfl (R.mv rfl) ?_
              refine L.val rfl rfl (R.lss rfl rfl) ?_
              refine L.nil ?_
              refine N.seq ?_
              refine G.condP rfl (fun h2 => ?_) (fun h2 => ?_)
              · have hns := num_step (l := l) (k := k) (m := y.toNat) (by omega) (by omega) htl
                have hl8 := lt_u8 (l[k]'(by omega))
                refine G.skip ?_
                refine N.seq ?_
                refine G.seq ?_
                refine G.block ?_
                refine G.region ?_
                refine L.val rfl rfl (R.mv rfl) ?_
                refine L.val rfl rfl (R.mul rfl rfl (by omega)) ?_
                refine L.val rfl rfl (R.mv rfl) ?_
                refine L.val rfl rfl (R.nilChk rfl) ?_
                refine L.val rfl rfl (R.fld rfl) ?_
                refine L.val rfl rfl (R.ldB rfl hB rfl) ?_
                refine L.val rfl rfl (R.mv rfl) ?_
                refine L.val rfl rfl (R.idxStr rfl rfl (by omega) (List.getElem?_eq_getElem (i := k) (by omega))) ?_
                refine L.val rfl rfl (R.conv rfl _ (wrap_i64 (by omega))) ?_
                refine L.val rfl rfl (R.add rfl rfl (by omega)) ?_
                refine L.val rfl rfl (R.as rfl) ?_
                refine L.be 5 rfl (congrArg (Value.int .i64) (show _ = ((num (l.take (k + 1)) : Nat) : Int) by rw [num_take_succ l (by omega)]; omega)) ?_
                refine L.nil ?_
                refine N.block ?_
                refine N.seq ?_
                refine G.region ?_
                refine L.val rfl rfl (R.mv rfl) ?_
                refine L.val rfl rfl (R.add rfl rfl (by omega)) ?_
                refine L.val rfl rfl (R.as rfl) ?_
                refine L.nil ?_
                exact N.again (k + 1) (by omega) (Sub.cons rfl (Sub.cons rfl (Sub.cons rfl (Sub.cons rfl (Sub.nil _))))) ⟨by omega, rfl⟩
              · obtain rfl : k = y.toNat := by omega
                refine G.exit _ rfl ?_
                refine N.seq ?_
                refine G.seq ?_
                refine G.region ?_
                refine L.val rfl rfl (R.mv rfl) ?_
                refine L.val rfl rfl (R.mv rfl) ?_
                refine L.val rfl rfl (R.nilChk rfl) ?_
                refine L.val rfl rfl (R.fld rfl) ?_
                refine L.val rfl rfl (R.ldB rfl hB rfl) ?_
                refine L.val rfl rfl (R.mv rfl) ?_
                refine L.val rfl rfl (R.slStrL rfl rfl (by omega) (by omega)) ?_
                refine L.val rfl rfl (R.nilChk rfl) ?_
                refine L.val rfl rfl (R.fld rfl) ?_
                refine L.set rfl (R.st rfl rfl hB (by simp) rfl) ?_
                rintro w1 ⟨e1, hs1, B1⟩
                refine L.nil ?_
                refine N.seq ?_
                refine G.seq ?_
                refine G.region ?_
                refine L.val rfl rfl (R.mv rfl) ?_
                refine L.val rfl rfl (R.as rfl) ?_
                refine L.nil ?_
                refine N.seq ?_
                refine G.ret1 rfl rfl ?_
                first
                  | (rw [numF_err (by assumption)]; exact ⟨rfl, hB0, Ext.refl _ _⟩)
                  | (rw [numF_no hno]; exact ⟨rfl, B1, e1⟩)
                  | (rw [numF_ok hok]; exact ⟨rfl, B1, e1⟩)
          · refine L.pass rfl rfl ?_
            refine L.pass rfl rfl ?_
            refine L.pass rfl rfl ?_
            refine L.pass rfl rfl ?_
            refine L.pass rfl rfl ?_
            refine L.pass rfl rfl ?_
            first | refine L.val rfl rfl (R.pickT rfl rfl) ?_ | refine L.val rfl rfl (R.pickF rfl rfl) ?_
            first | refine L.val rfl rfl (R.pickT rfl rfl) ?_ | refine L.val rfl rfl (R.pickF rfl rfl) ?_
            refine L.nil ?_
            refine N.seq ?_
            refine G.condF rfl ?_
            have hok : okN l y := by
              refine ⟨by omega, by omega, by omega, fun h8 => ?_⟩
              first | omega | (rw [getD_zero (by omega)]; omega)
            have htl := okN_lt hok
            have hy0 : y = (y.toNat : Int) := by omega
            refine G.skip ?_
            refine N.seq ?_
            refine G.seq ?_
            refine G.region ?_
            refine L.val rfl rfl (R.as rfl) ?_
            refine L.nil ?_
            refine N.seq ?_
            refine G.seq ?_
            refine G.seq ?_
            refine G.region ?_
            refine L.val rfl rfl (R.as rfl) ?_
            refine L.nil ?_
            refine N.seq ?_
            refine G.block ?_
            refine G.loop (X := Nat) (fun k => [(0, .pointer (some ⟨s, 0, none⟩)), (1, .int .i64 y), (5, .int .i64 (num (l.take k))), (6, .int .i64 (k : Nat))]) (fun k w' => k ≤ y.toNat ∧ w' = w) (fun k => y.toNat - k) (0) (Sub.cons rfl (Sub.cons rfl (Sub.cons rfl (Sub.cons rfl (Sub.nil _))))) ⟨by omega, rfl⟩ ?_
            rintro k w' ⟨hk, hw⟩
            obtain rfl := hw.symm
            refine G.seq ?_
            refine G.seq ?_
            refine G.region ?_
            refine L.val rfl rfl (R.mv rfl) ?_
            refine L.val rfl rfl (R.mv rfl) ?_
            refine L.val rfl rfl (R.lss rfl rfl) ?_
            refine L.nil ?_
            refine N.seq ?_
            refine G.condP rfl (fun h2 => ?_) (fun h2 => ?_)
            · have hns := num_step (l := l) (k := k) (m := y.toNat) (by omega) (by omega) htl
              have hl8 := lt_u8 (l[k]'(by omega))
              refine G.skip ?_
              refine N.seq ?_
              refine G.seq ?_
              refine G.block ?_
              refine G.region ?_
              refine L.val rfl rfl (R.mv rfl) ?_
              refine L.val rfl rfl (R.mul rfl rfl (by omega)) ?_
              refine L.val rfl rfl (R.mv rfl) ?_
              refine L.val rfl rfl (R.nilChk rfl) ?_
              refine L.val rfl rfl (R.fld rfl) ?_
              refine L.val rfl rfl (R.ldB rfl hB rfl) ?_
              refine L.val rfl rfl (R.mv rfl) ?_
              refine L.val rfl rfl (R.idxStr rfl rfl (by omega) (List.getElem?_eq_getElem (i := k) (by omega))) ?_
              refine L.val rfl rfl (R.conv rfl _ (wrap_i64 (by omega))) ?_
              refine L.val rfl rfl (R.add rfl rfl (by omega)) ?_
              refine L.val rfl rfl (R.as rfl) ?_
              refine L.be 5 rfl (congrArg (Value.int .i64) (show _ = ((num (l.take (k + 1)) : Nat) : Int) by rw [num_take_succ l (by omega)]; omega)) ?_
              refine L.nil ?_
              refine N.block ?_
              refine N.seq ?_
              refine G.region ?_
              refine L.val rfl rfl (R.mv rfl) ?_
              refine L.val rfl rfl (R.add rfl rfl (by omega)) ?_
              refine L.val rfl rfl (R.as rfl) ?_
              refine L.nil ?_
              exact N.again (k + 1) (by omega) (Sub.cons rfl (Sub.cons rfl (Sub.cons rfl (Sub.cons rfl (Sub.nil _))))) ⟨by omega, rfl⟩
            · obtain rfl : k = y.toNat := by omega
              refine G.exit _ rfl ?_
              refine N.seq ?_
              refine G.seq ?_
              refine G.region ?_
              refine L.val rfl rfl (R.mv rfl) ?_
              refine L.val rfl rfl (R.mv rfl) ?_
              refine L.val rfl rfl (R.nilChk rfl) ?_
              refine L.val rfl rfl (R.fld rfl) ?_
              refine L.val rfl rfl (R.ldB rfl hB rfl) ?_
              refine L.val rfl rfl (R.mv rfl) ?_
              refine L.val rfl rfl (R.slStrL rfl rfl (by omega) (by omega)) ?_
              refine L.val rfl rfl (R.nilChk rfl) ?_
              refine L.val rfl rfl (R.fld rfl) ?_
              refine L.set rfl (R.st rfl rfl hB (by simp) rfl) ?_
              rintro w1 ⟨e1, hs1, B1⟩
              refine L.nil ?_
              refine N.seq ?_
              refine G.seq ?_
              refine G.region ?_
              refine L.val rfl rfl (R.mv rfl) ?_
              refine L.val rfl rfl (R.as rfl) ?_
              refine L.nil ?_
              refine N.seq ?_
              refine G.ret1 rfl rfl ?_
              first
                | (rw [numF_err (by assumption)]; exact ⟨rfl, hB0, Ext.refl _ _⟩)
                | (rw [numF_no hno]; exact ⟨rfl, B1, e1⟩)
                | (rw [numF_ok hok]; exact ⟨rfl, B1, e1⟩)

theorem reftxt_ok (s : Nat) (l : List UInt8) (e : Int) (y : Int) (w : World) (hB : Blk w s #[.string (str l), .int .i64 e] 224 (0, 0)) (hl : l.length ≤ 70368744177664) : Meets Try.prog 192 [.pointer (some ⟨s, 0, none⟩), .int .i64 y] w (fun v w' => v = .string (str (txtF l e y).1) ∧ Blk w' s #[.string (str (txtF l e y).2.1), .int .i64 (txtF l e y).2.2] 224 (0, 0) ∧ Ext [s] w w') := by
  refine Meets.enter Try.func192 rfl 54 rfl (Nat.le_of_ble_eq_true rfl) ?_
  refine G.seq ?_
  refine G.region ?_
  refine L.val rfl rfl (R.as rfl) ?_
  refine L.nil ?_
  refine N.seq ?_
  refine G.seq ?_
  refine G.region ?_
  refine L.val rfl rfl (R.mv rfl) ?_
  refine L.val rfl rfl (R.nilChk rfl) ?_
  refine L.val rfl rfl (R.fld rfl) ?_
  refine L.val rfl rfl (R.ldB rfl hB rfl) ?_
  refine L.val rfl rfl (R.as rfl) ?_
  refine L.nil ?_
  refine N.seq ?_
  refine G.seq ?_
  refine G.region ?_
  refine L.val rfl rfl (R.mv rfl) ?_
  refine L.callF rfl rfl rfl go138 (refnum_ok _ _ _ _ _ hB hl) ?_
  rintro _ w1 ⟨rfl, hB1, Gs⟩
  obtain ⟨m2, l2, e2, hq⟩ : ∃ m l' e', numF l e 2 = (m, l', e') := ⟨_, _, _, rfl⟩
  rw [hq] at hB1
  dsimp only at hB1
  refine L.be 13 rfl (show _ = Value.int .i64 (m2 : Int) by rw [hq]) ?_
  refine L.val rfl rfl (R.as rfl) ?_
  refine L.nil ?_
  refine N.seq ?_
  refine G.seq ?_
  refine G.seq ?_
  refine G.region ?_
  refine L.val rfl rfl (R.mv rfl) ?_
  refine L.val rfl rfl (R.nilChk rfl) ?_
  refine L.val rfl rfl (R.fld rfl) ?_
  refine L.val rfl rfl (R.ldB rfl hB1 rfl) ?_
  refine L.val rfl rfl (R.neI rfl rfl) ?_
  refine L.nil ?_
  refine N.seq ?_
  refine G.condP rfl (fun h0 => ?_) (fun h0 => ?_)
  · refine G.seq ?_
    refine G.region ?_
    refine L.val rfl rfl (R.as rfl) ?_
    refine L.nil ?_
    refine N.seq ?_
    refine G.ret1 rfl rfl ?_
    first
      | (rw [txtF_first hq (by assumption)]; exact ⟨rfl, hB1, Gs⟩)
      | (rw [txtF_no hq (by omega)]; exact ⟨rfl, B3, Gs⟩)
      | (rw [txtF_yes hq (by omega) (by omega) (by omega)]; exact ⟨rfl, B2, Gs⟩)
  · obtain rfl : e2 = 0 := by omega
    obtain rfl := numF_zero hq
    have htwo := numF_two hq
    have hl2 : l2.length ≤ 70368744177664 := by rcases htwo with ⟨_, _, _, rfl⟩ | ⟨_, _, _, rfl⟩ <;> (try rw [List.length_drop]) <;> omega
    refine G.skip ?_
    refine N.seq ?_
    refine G.seq ?_
    refine G.seq ?_
    refine G.region ?_
    refine L.val rfl rfl (R.mv rfl) ?_
    refine L.val rfl rfl (R.mv rfl) ?_
    refine L.val rfl rfl (R.gtr rfl rfl) ?_
    refine L.val rfl rfl (R.mv rfl) ?_
    refine L.caseP 22 rfl (fun hg5_3 => ?_) (fun hg5_3 => ?_)
    · refine L.pass rfl rfl ?_
      refine L.pass rfl rfl ?_
      refine L.pass rfl rfl ?_
      refine L.pass rfl rfl ?_
      refine L.pass rfl rfl ?_
      refine L.pass rfl rfl ?_
      refine L.pass rfl rfl ?_
      first | refine L.val rfl rfl (R.pickT rfl rfl) ?_ | refine L.val rfl rfl (R.pickF rfl rfl) ?_
      refine L.nil ?_
      refine N.seq ?_
      refine G.condT rfl ?_
      refine G.seq ?_
      refine G.region ?_
      refine L.val rfl rfl (R.mv rfl) ?_
      refine L.val rfl rfl (R.mv rfl) ?_
      refine L.val rfl rfl (R.nilChk rfl) ?_
      refine L.val rfl rfl (R.fld rfl) ?_
      refine L.set rfl (R.st rfl rfl hB1 (by simp) rfl) ?_
      rintro w2 ⟨e3, hs3, B2⟩
      replace Gs := Gs.trans1 e3
      refine L.nil ?_
      refine N.seq ?_
      refine G.seq ?_
      refine G.region ?_
      refine L.val rfl rfl (R.mv rfl) ?_
      refine L.val rfl rfl (R.nilChk rfl) ?_
      refine L.val rfl rfl (R.fld rfl) ?_
      refine L.set rfl (R.st rfl rfl B2 (by simp) rfl) ?_
      rintro w3 ⟨e4, hs4, B3⟩
      replace Gs := Gs.trans1 e4
      refine L.nil ?_
      refine N.seq ?_
      refine G.seq ?_
      refine G.region ?_
      refine L.val rfl rfl (R.as rfl) ?_
      refine L.nil ?_
      refine N.seq ?_
      refine G.ret1 rfl rfl ?_
      first
        | (rw [txtF_first hq (by assumption)]; exact ⟨rfl, hB1, Gs⟩)
        | (rw [txtF_no hq (by omega)]; exact ⟨rfl, B3, Gs⟩)
        | (rw [txtF_yes hq (by omega) (by omega) (by omega)]; exact ⟨rfl, B2, Gs⟩)
    · refine L.val rfl rfl (R.mv rfl) ?_
      refine L.val rfl rfl (R.mv rfl) ?_
      refine L.val rfl rfl (R.nilChk rfl) ?_
      refine L.val rfl rfl (R.fld rfl) ?_
      refine L.val rfl rfl (R.ldB rfl hB1 rfl) ?_
      refine L.val rfl rfl (R.lenStr rfl) ?_
      refine L.be 28 rfl (congrArg (Value.int .i64) (congrArg Nat.cast (str_size l2))) ?_
      refine L.val rfl rfl (R.gtr rfl rfl) ?_
      first | refine L.val rfl rfl (R.pickT rfl rfl) ?_ | refine L.val rfl rfl (R.pickF rfl rfl) ?_
      refine L.nil ?_
      refine N.seq ?_
      refine G.condP rfl (fun h1 => ?_) (fun h1 => ?_)
      · refine G.seq ?_
        refine G.region ?_
        refine L.val rfl rfl (R.mv rfl) ?_
        refine L.val rfl rfl (R.mv rfl) ?_
        refine L.val rfl rfl (R.nilChk rfl) ?_
        refine L.val rfl rfl (R.fld rfl) ?_
        refine L.set rfl (R.st rfl rfl hB1 (by simp) rfl) ?_
        rintro w2 ⟨e3, hs3, B2⟩
        replace Gs := Gs.trans1 e3
        refine L.nil ?_
        refine N.seq ?_
        refine G.seq ?_
        refine G.region ?_
        refine L.val rfl rfl (R.mv rfl) ?_
        refine L.val rfl rfl (R.nilChk rfl) ?_
        refine L.val rfl rfl (R.fld rfl) ?_
        refine L.set rfl (R.st rfl rfl B2 (by simp) rfl) ?_
        rintro w3 ⟨e4, hs4, B3⟩
        replace Gs := Gs.trans1 e4
        refine L.nil ?_
        refine N.seq ?_
        refine G.seq ?_
        refine G.region ?_
        refine L.val rfl rfl (R.as rfl) ?_
        refine L.nil ?_
        refine N.seq ?_
        refine G.ret1 rfl rfl ?_
        first
          | (rw [txtF_first hq (by assumption)]; exact ⟨rfl, hB1, Gs⟩)
          | (rw [txtF_no hq (by omega)]; exact ⟨rfl, B3, Gs⟩)
          | (rw [txtF_yes hq (by omega) (by omega) (by omega)]; exact ⟨rfl, B2, Gs⟩)
      · refine G.skip ?_
        refine N.seq ?_
        refine G.seq ?_
        refine G.region ?_
        refine L.val rfl rfl (R.mv rfl) ?_
        refine L.val rfl rfl (R.nilChk rfl) ?_
        refine L.val rfl rfl (R.fld rfl) ?_
        refine L.val rfl rfl (R.ldB rfl hB1 rfl) ?_
        refine L.val rfl rfl (R.mv rfl) ?_
        refine L.val rfl rfl (R.slStrH rfl rfl (by omega) (by omega)) ?_
        refine L.val rfl rfl (R.as rfl) ?_
        refine L.nil ?_
        refine N.seq ?_
        refine G.seq ?_
        refine G.region ?_
        refine L.val rfl rfl (R.mv rfl) ?_
        refine L.val rfl rfl (R.mv rfl) ?_
        refine L.val rfl rfl (R.nilChk rfl) ?_
        refine L.val rfl rfl (R.fld rfl) ?_
        refine L.val rfl rfl (R.ldB rfl hB1 rfl) ?_
        refine L.val rfl rfl (R.mv rfl) ?_
        refine L.val rfl rfl (R.slStrL rfl rfl (by omega) (by omega)) ?_
        refine L.val rfl rfl (R.nilChk rfl) ?_
        refine L.val rfl rfl (R.fld rfl) ?_
        refine L.set rfl (R.st rfl rfl hB1 (by simp) rfl) ?_
        rintro w2 ⟨e3, hs3, B2⟩
        replace Gs := Gs.trans1 e3
        refine L.nil ?_
        refine N.seq ?_
        refine G.seq ?_
        refine G.region ?_
        refine L.val rfl rfl (R.mv rfl) ?_
        refine L.val rfl rfl (R.as rfl) ?_
        refine L.nil ?_
        refine N.seq ?_
        refine G.ret1 rfl rfl ?_
        first
          | (rw [txtF_first hq (by assumption)]; exact ⟨rfl, hB1, Gs⟩)
          | (rw [txtF_no hq (by omega)]; exact ⟨rfl, B3, Gs⟩)
          | (rw [txtF_yes hq (by omega) (by omega) (by omega)]; exact ⟨rfl, B2, Gs⟩)

end Go.Proofs.Ythpolibakkmmeaa
/-
  The walks of package crc.
-/
set_option linter.unusedVariables false
namespace Go.Proofs.Ythpolibakkmmeaa
open Go Brv Brv.Crc
theorem step_ok (r : UInt32) (c : UInt8) (w : World) : Meets Try.prog 248 [v32 r, vb c] w (fun v w' => v = v32 (stepF r c) ∧ w' = w) := by
  refine Meets.enter Try.func248 rfl 21 rfl (Nat.le_of_ble_eq_true rfl) ?_
  have hc := lt_u8 c
  refine G.seq ?_
  refine G.region ?_
  refine L.val rfl rfl (R.as rfl) ?_
  refine L.nil ?_
  refine N.seq ?_
  refine G.seq ?_
  refine G.region ?_
  refine L.val rfl rfl (R.mv rfl) ?_
  refine L.val rfl rfl (R.mv rfl) ?_
  refine L.val rfl rfl (R.conv rfl ((c.toUInt32.toNat : Nat) : Int) ((wrap_u32 (by omega)).trans (by simp))) ?_
  refine L.val rfl rfl (R.xorW rfl rfl _ (xorI_u32 _ _)) ?_
  refine L.val rfl rfl (R.as rfl) ?_
  refine L.nil ?_
  refine N.seq ?_
  refine G.seq ?_
  refine G.seq ?_
  refine G.region ?_
  refine L.val rfl rfl (R.mv rfl) ?_
  refine L.nil ?_
  refine N.seq ?_
  refine G.block ?_
  refine G.loop (X := Nat) (fun k => [(0, v32 (halves k (r ^^^ c.toUInt32))), (9, .int .i64 k)]) (fun k w' => k ≤ 8 ∧ w' = w) (fun k => 8 - k) (0) (Sub.cons rfl (Sub.cons rfl (Sub.nil _))) ⟨by omega, rfl⟩ ?_
  rintro k w' ⟨hk, rfl⟩
  refine G.seq ?_
  refine G.region ?_
  refine L.val rfl rfl (R.lss rfl rfl) ?_
  refine L.nil ?_
  refine N.seq ?_
  refine G.seq ?_
  refine G.condP rfl (fun h0 => ?_) (fun h0 => ?_)
  · refine G.skip ?_
    refine N.seq ?_
    refine G.seq ?_
    refine G.block ?_
    refine G.seq ?_
    refine G.region ?_
    refine L.val rfl rfl (R.mv rfl) ?_
    refine L.val rfl rfl (R.rem rfl rfl (by omega) (by omega)) ?_
    refine L.val rfl rfl (R.eqI rfl rfl) ?_
    refine L.nil ?_
    refine N.seq ?_
    refine G.condP rfl (fun h1 => ?_) (fun h1 => ?_)
    · have hh := half_t h1
      refine G.region ?_
      refine L.val rfl rfl (R.mv rfl) ?_
      refine L.val rfl rfl (R.shrW rfl rfl (by omega) _ (shr1_u32 _)) ?_
      refine L.val rfl rfl (R.xorW rfl rfl _ (xorI_u32 _ 0xedb88320)) ?_
      refine L.val rfl rfl (R.as rfl) ?_
      refine L.be 0 rfl (congrArg v32 hh.symm) ?_
      refine L.nil ?_
      refine N.block ?_
      refine N.seq ?_
      refine G.region ?_
      refine L.val rfl rfl (R.add rfl rfl (by omega)) ?_
      refine L.val rfl rfl (R.mv rfl) ?_
      refine L.nil ?_
      exact N.again (k + 1) (by omega) (Sub.cons rfl (Sub.cons rfl (Sub.nil _))) ⟨by omega, rfl⟩
    · have hh := half_f h1
      refine G.region ?_
      refine L.val rfl rfl (R.mv rfl) ?_
      refine L.val rfl rfl (R.shrW rfl rfl (by omega) _ (shr1_u32 _)) ?_
      refine L.val rfl rfl (R.as rfl) ?_
      refine L.be 0 rfl (congrArg v32 hh.symm) ?_
      refine L.nil ?_
      refine N.block ?_
      refine N.seq ?_
      refine G.region ?_
      refine L.val rfl rfl (R.add rfl rfl (by omega)) ?_
      refine L.val rfl rfl (R.mv rfl) ?_
      refine L.nil ?_
      exact N.again (k + 1) (by omega) (Sub.cons rfl (Sub.cons rfl (Sub.nil _))) ⟨by omega, rfl⟩
  · obtain rfl : k = 8 := by omega
    refine G.exit _ rfl ?_
    refine N.seq ?_
    refine G.seq ?_
    refine G.region ?_
    refine L.val rfl rfl (R.mv rfl) ?_
    refine L.val rfl rfl (R.as rfl) ?_
    refine L.nil ?_
    refine N.seq ?_
    refine G.ret1 rfl rfl ?_
    exact ⟨rfl, rfl⟩

theorem join_ok (r : UInt32) (a : Option Addr) (n c : Nat) (l : List UInt8) (w : World) (hb : Bs w a n l) (hn : n ≤ 140737488355328) : Meets Try.prog 245 [v32 r, .slice a n c] w (fun v w' => v = v32 (joinF r l) ∧ w' = w) := by
  refine Meets.enter Try.func245 rfl 22 rfl (Nat.le_of_ble_eq_true rfl) ?_
  have hl := hb.len
  refine G.seq ?_
  refine G.region ?_
  refine L.val rfl rfl (R.as rfl) ?_
  refine L.nil ?_
  refine N.seq ?_
  refine G.seq ?_
  refine G.region ?_
  refine L.val rfl rfl (R.mv rfl) ?_
  refine L.val rfl rfl (R.complW rfl _ (compl_u32 _)) ?_
  refine L.val rfl rfl (R.as rfl) ?_
  refine L.nil ?_
  refine N.seq ?_
  refine G.seq ?_
  refine G.seq ?_
  refine G.region ?_
  refine L.val rfl rfl (R.mv rfl) ?_
  refine L.val rfl rfl (R.lenS rfl) ?_
  refine L.val rfl rfl (R.mv rfl) ?_
  refine L.nil ?_
  refine N.seq ?_
  refine G.block ?_
  refine G.loop (X := Nat) (fun k => [(5, v32 (restF (~~~ r) (l.take k))), (10, .slice a n c), (11, .int .i64 n), (12, .int .i64 k)]) (fun k w' => k ≤ n ∧ w' = w) (fun k => n - k) (0) (Sub.cons rfl (Sub.cons rfl (Sub.cons rfl (Sub.cons rfl (Sub.nil _))))) ⟨by omega, rfl⟩ ?_
  rintro k w' ⟨hk, rfl⟩
  refine G.seq ?_
  refine G.region ?_
  refine L.val rfl rfl (R.lss rfl rfl) ?_
  refine L.nil ?_
  refine N.seq ?_
  refine G.seq ?_
  refine G.condP rfl (fun h0 => ?_) (fun h0 => ?_)
  · obtain ⟨p, hp, hcl⟩ := hb.at k (by omega)
    refine G.skip ?_
    refine N.seq ?_
    refine G.seq ?_
    refine G.block ?_
    refine G.seq ?_
    refine G.region ?_
    refine L.val rfl rfl (R.idx rfl rfl (by omega) (by omega) p hp) ?_
    refine L.val rfl rfl (R.ld rfl hcl) ?_
    refine L.val rfl rfl (R.as rfl) ?_
    refine L.nil ?_
    refine N.seq ?_
    refine G.region ?_
    refine L.val rfl rfl (R.mv rfl) ?_
    refine L.val rfl rfl (R.mv rfl) ?_
    refine L.callF rfl rfl rfl go248 (step_ok _ _ _) ?_
    rintro _ _ ⟨rfl, hw⟩
    obtain rfl := hw.symm
    refine L.val rfl rfl (R.as rfl) ?_
    refine L.be 5 rfl (congrArg v32 (restF_snoc _ _ _ (by omega)).symm) ?_
    refine L.nil ?_
    refine N.block ?_
    refine N.seq ?_
    refine G.region ?_
    refine L.val rfl rfl (R.add rfl rfl (by omega)) ?_
    refine L.val rfl rfl (R.mv rfl) ?_
    refine L.nil ?_
    exact N.again (k + 1) (by omega) (Sub.cons rfl (Sub.cons rfl (Sub.cons rfl (Sub.cons rfl (Sub.nil _))))) ⟨by omega, rfl⟩
  · refine G.be 5 rfl (congrArg v32 (by rw [List.take_of_length_le (by omega)])) ?_
    refine G.exit _ rfl ?_
    refine N.seq ?_
    refine G.seq ?_
    refine G.region ?_
    refine L.val rfl rfl (R.mv rfl) ?_
    refine L.val rfl rfl (R.complW rfl _ (compl_u32 _)) ?_
    refine L.val rfl rfl (R.as rfl) ?_
    refine L.nil ?_
    refine N.seq ?_
    refine G.ret1 rfl rfl ?_
    exact ⟨rfl, rfl⟩

theorem sum_ok (a : Option Addr) (n c : Nat) (l : List UInt8) (w : World) (hb : Bs w a n l) (hn : n ≤ 140737488355328) : Meets Try.prog 229 [.slice a n c] w (fun v w' => v = v32 (joinF 0 l) ∧ w' = w) := by
  refine Meets.enter Try.func229 rfl 5 rfl (Nat.le_of_ble_eq_true rfl) ?_
  refine G.seq ?_
  refine G.region ?_
  refine L.val rfl rfl (R.as rfl) ?_
  refine L.nil ?_
  refine N.seq ?_
  refine G.seq ?_
  refine G.region ?_
  refine L.val rfl rfl (R.mv rfl) ?_
  refine L.callF rfl rfl rfl go245 (join_ok 0 _ _ _ _ _ hb hn) ?_
  rintro _ _ ⟨rfl, hw⟩
  obtain rfl := hw.symm
  refine L.val rfl rfl (R.as rfl) ?_
  refine L.nil ?_
  refine N.seq ?_
  refine G.ret1 rfl rfl ?_
  exact ⟨rfl, rfl⟩

theorem mark_ok (a : Option Addr) (n c : Nat) (l : List UInt8) (w : World) (hb : Bs w a n l) (hn : n ≤ 140737488355328) : Meets Try.prog 197 [.slice a n c] w (Cloned w 5 1 n (vbs (markF l))) := by
  refine Meets.enter Try.func197 rfl 34 rfl (Nat.le_of_ble_eq_true rfl) ?_
  have hl := hb.len
  refine G.seq ?_
  refine G.region ?_
  refine L.val rfl rfl (R.as rfl) ?_
  refine L.nil ?_
  refine N.seq ?_
  refine G.seq ?_
  refine G.region ?_
  refine L.val rfl rfl (R.mv rfl) ?_
  refine L.callF rfl rfl rfl go143 (clone_ok a n c l _ hb hn) ?_
  rintro _ w1 ⟨a1, c1, M1, rfl, e1, o1, hM1⟩
  refine L.val rfl rfl (R.as rfl) ?_
  refine L.nil ?_
  refine N.seq ?_
  refine G.seq ?_
  refine G.region ?_
  refine L.val rfl rfl (R.mv rfl) ?_
  refine L.val rfl rfl (R.lenS rfl) ?_
  refine L.val rfl rfl (R.sub' rfl rfl (by omega)) ?_
  refine L.val rfl rfl (R.as rfl) ?_
  refine L.nil ?_
  refine N.seq ?_
  refine G.seq ?_
  refine G.seq ?_
  refine G.region ?_
  refine L.val rfl rfl (R.mv rfl) ?_
  refine L.val rfl rfl (R.lss rfl rfl) ?_
  refine L.nil ?_
  refine N.seq ?_
  refine G.condP rfl (fun h0 => ?_) (fun h0 => ?_)
  · refine G.seq ?_
    refine G.region ?_
    refine L.val rfl rfl (R.mv rfl) ?_
    refine L.val rfl rfl (R.as rfl) ?_
    refine L.nil ?_
    refine N.seq ?_
    refine G.ret1 rfl rfl ?_
    exact ⟨a1, c1, M1, rfl, e1, by unfold markF; rw [if_pos (by omega)]; exact o1, hM1⟩
  · have hcn := o1.le
    refine G.be 4 rfl (congrArg (Value.int .i64) (show ((n : Int) - 4) = ((n - 4 : Nat) : Int) by omega)) ?_
    refine G.skip ?_
    refine N.seq ?_
    refine G.seq ?_
    refine G.region ?_
    refine L.val rfl rfl (R.mv rfl) ?_
    refine L.val rfl rfl (R.mv rfl) ?_
    refine L.val rfl rfl (R.slH rfl rfl (by omega) (by omega)) ?_
    refine L.callF rfl rfl rfl go229 (sum_ok _ _ _ _ _ ((Bs.of_own o1).take c1 (n - 4) (by omega) hcn) (by omega)) ?_
    rintro _ _ ⟨rfl, rfl⟩
    refine L.val rfl rfl (R.as rfl) ?_
    refine L.nil ?_
    refine N.seq ?_
    refine G.seq ?_
    refine G.seq ?_
    refine G.region ?_
    refine L.val rfl rfl (R.mv rfl) ?_
    refine L.nil ?_
    refine N.seq ?_
    refine G.block ?_
    refine G.loop (X := Nat) (fun k => [(3, .slice a1 n c1), (4, .int .i64 ((n - 4 : Nat) : Int)), (5, v32 (joinF 0 (l.take (n - 4)))), (19, .int .i64 k)]) (fun k w' => k ≤ 4 ∧ Own w' 5 1 a1 n c1 (vbs (partF l (n - 4) (joinF 0 (l.take (n - 4))) k)) M1 ∧ Ext [] w w') (fun k => 4 - k) (0) (Sub.cons rfl (Sub.cons rfl (Sub.cons rfl (Sub.cons rfl (Sub.nil _))))) ⟨by omega, by rw [partF_zero]; exact o1, e1⟩ ?_
    rintro k w2 ⟨hk, o2, e2⟩
    refine G.seq ?_
    refine G.region ?_
    refine L.val rfl rfl (R.lss rfl rfl) ?_
    refine L.nil ?_
    refine N.seq ?_
    refine G.seq ?_
    refine G.condP rfl (fun h1 => ?_) (fun h1 => ?_)
    · obtain ⟨g, cur, ha, hM, hB, hlt, hset⟩ := o2.set (n - 4 + k) (by omega)
      refine G.skip ?_
      refine N.seq ?_
      refine G.seq ?_
      refine G.block ?_
      refine G.seq ?_
      refine G.region ?_
      refine L.val rfl rfl (R.mv rfl) ?_
      refine L.val rfl rfl (R.as rfl) ?_
      refine L.nil ?_
      refine N.seq ?_
      refine G.region ?_
      refine L.val rfl rfl (R.mv rfl) ?_
      refine L.val rfl rfl (R.mv rfl) ?_
      refine L.val rfl rfl (R.mv rfl) ?_
      refine L.val rfl rfl (R.add rfl rfl (by omega)) ?_
      refine L.val rfl rfl (R.mv rfl) ?_
      refine L.val rfl rfl (R.mv rfl) ?_
      refine L.val rfl rfl (R.mul rfl rfl (by omega)) ?_
      refine L.val rfl rfl (R.shrW rfl rfl (by omega) _ rfl) ?_
      refine L.val rfl rfl (R.conv rfl _ (byte_shift _ k (by omega))) ?_
      refine L.val rfl rfl (R.idxO rfl rfl (by omega) (by omega) ha (n - 4 + k) (by omega)) ?_
      refine L.set rfl (R.st rfl rfl hB hlt rfl) ?_
      rintro w3 ⟨e3, hs3, B3⟩
      have o3 := hset _ w3 e3 B3
      rw [show (Value.int IntKind.u8 (((fourF (joinF 0 (l.take (n - 4)))).getD k 0).toNat : Int)) = vb ((fourF (joinF 0 (l.take (n - 4)))).getD k 0) from rfl, vbs_set, partF_next _ _ _ _ (by omega) (by omega)] at o3
      have hg := hM1 g (by rw [hM]; simp)
      have e3 : Ext [] w w3 := e2.trans e3 (by simp) (by simp; omega)
      refine L.nil ?_
      refine N.block ?_
      refine N.seq ?_
      refine G.region ?_
      refine L.val rfl rfl (R.add rfl rfl (by omega)) ?_
      refine L.val rfl rfl (R.mv rfl) ?_
      refine L.nil ?_
      exact N.again (k + 1) (by omega) (Sub.cons rfl (Sub.cons rfl (Sub.cons rfl (Sub.cons rfl (Sub.nil _))))) ⟨by omega, o3, e3⟩
    · obtain rfl : k = 4 := by omega
      refine G.exit _ rfl ?_
      refine N.seq ?_
      refine G.seq ?_
      refine G.region ?_
      refine L.val rfl rfl (R.mv rfl) ?_
      refine L.val rfl rfl (R.as rfl) ?_
      refine L.nil ?_
      refine N.seq ?_
      refine G.ret1 rfl rfl ?_
      exact ⟨a1, c1, M1, rfl, e2, by rw [← partF_end l _ (by omega) rfl, ← hl]; exact o2, hM1⟩

theorem good_ok (a : Option Addr) (n c : Nat) (l : List UInt8) (w : World) (hb : Bs w a n l) (hn : n ≤ 140737488355328) : Meets Try.prog 188 [.slice a n c] w (fun v w' => v = .bool (goodF l) ∧ Ext [] w w') := by
  refine Meets.enter Try.func188 rfl 12 rfl (Nat.le_of_ble_eq_true rfl) ?_
  have hl := hb.len
  refine G.seq ?_
  refine G.region ?_
  refine L.val rfl rfl (R.as rfl) ?_
  refine L.nil ?_
  refine N.seq ?_
  refine G.seq ?_
  refine G.region ?_
  refine L.val rfl rfl (R.mv rfl) ?_
  refine L.val rfl rfl (R.lenS rfl) ?_
  refine L.val rfl rfl (R.geq rfl rfl) ?_
  refine L.val rfl rfl (R.mv rfl) ?_
  refine L.caseP 6 rfl (fun hg1_3 => ?_) (fun hg1_3 => ?_)
  · refine L.val rfl rfl (R.mv rfl) ?_
    refine L.callF rfl rfl rfl go197 (mark_ok a n c l _ hb hn) ?_
    rintro _ w1 ⟨a1, c1, M1, rfl, e1, o1, hM1⟩
    refine L.val rfl rfl (R.mv rfl) ?_
    refine L.callF rfl rfl rfl go190 (equal_ok _ _ _ _ _ _ _ _ _ (Bs.of_own o1) (hb.ext0 e1) hn) ?_
    rintro _ w2 ⟨rfl, e2⟩
    first | refine L.val rfl rfl (R.pickT rfl rfl) ?_ | refine L.val rfl rfl (R.pickF rfl rfl) ?_
    refine L.val rfl rfl (R.as rfl) ?_
    refine L.nil ?_
    refine N.seq ?_
    refine G.ret1 rfl rfl ?_
    exact ⟨congrArg Value.bool (by unfold goodF; rw [decide_eq_true (by omega : 4 ≤ l.length)]; rfl), e1.trans0 e2⟩
  · refine L.pass rfl rfl ?_
    refine L.pass rfl rfl ?_
    refine L.pass rfl rfl ?_
    refine L.pass rfl rfl ?_
    first | refine L.val rfl rfl (R.pickT rfl rfl) ?_ | refine L.val rfl rfl (R.pickF rfl rfl) ?_
    refine L.val rfl rfl (R.as rfl) ?_
    refine L.nil ?_
    refine N.seq ?_
    refine G.ret1 rfl rfl ?_
    exact ⟨congrArg Value.bool (by unfold goodF; rw [decide_eq_false (by omega : ¬ 4 ≤ l.length)]; rfl), Ext.refl _ _⟩

theorem refjoin_ok (r : UInt32) (a : Option Addr) (n c : Nat) (l : List UInt8) (w : World) (hb : Bs w a n l) (hn : n ≤ 140737488355328) : Meets Try.prog 227 [v32 r, .slice a n c] w (fun v w' => v = v32 (joinF r l) ∧ w' = w) := by
  refine Meets.enter Try.func227 rfl 39 rfl (Nat.le_of_ble_eq_true rfl) ?_
  have hl := hb.len
  have hr := lt_u32 r
  refine G.seq ?_
  refine G.region ?_
  refine L.val rfl rfl (R.as rfl) ?_
  refine L.nil ?_
  refine N.seq ?_
  refine G.seq ?_
  refine G.region ?_
  refine L.val rfl rfl (R.mv rfl) ?_
  refine L.val rfl rfl (R.subW rfl rfl _ (compl_sub r)) ?_
  refine L.val rfl rfl (R.as rfl) ?_
  refine L.nil ?_
  refine N.seq ?_
  refine G.seq ?_
  refine G.seq ?_
  refine G.region ?_
  refine L.val rfl rfl (R.as rfl) ?_
  refine L.nil ?_
  refine N.seq ?_
  refine G.block ?_
  refine G.loop (X := Nat) (fun i => [(1, .slice a n c), (5, v32 (refR (~~~ r) l i)), (6, .int .i64 i)]) (fun i w' => i ≤ 8 * n ∧ w' = w) (fun i => 8 * n - i) (0) (Sub.cons rfl (Sub.cons rfl (Sub.cons rfl (Sub.nil _)))) ⟨by omega, rfl⟩ ?_
  rintro i w' ⟨hi, rfl⟩
  refine G.seq ?_
  refine G.seq ?_
  refine G.region ?_
  refine L.val rfl rfl (R.mv rfl) ?_
  refine L.val rfl rfl (R.mv rfl) ?_
  refine L.val rfl rfl (R.lenS rfl) ?_
  refine L.val rfl rfl (R.mul rfl rfl (by omega)) ?_
  refine L.val rfl rfl (R.lss rfl rfl) ?_
  refine L.nil ?_
  refine N.seq ?_
  refine G.condP rfl (fun h0 => ?_) (fun h0 => ?_)
  · obtain ⟨p, hp, hcl⟩ := hb.at (i / 8) (by omega)
    have hcx := lt_u8 l[i / 8]
    have hqx := lt_u32 (refR (~~~ r) l i)
    have hnx := refR_next (~~~ r) l i (by omega)
    have hgd : l.getD (i / 8) 0 = l[i / 8] := by simp [List.getD, (show i / 8 < l.length by omega)]
    rw [hgd] at hnx
    refine G.skip ?_
    refine N.seq ?_
    refine G.seq ?_
    refine G.block ?_
    refine G.seq ?_
    refine G.region ?_
    refine L.val rfl rfl (R.mv rfl) ?_
    refine L.val rfl rfl (R.rem rfl rfl (by omega) (by omega)) ?_
    refine L.val rfl rfl (R.eqI rfl rfl) ?_
    refine L.val rfl rfl (R.mv rfl) ?_
    refine L.val rfl rfl (R.mv rfl) ?_
    refine L.val rfl rfl (R.quo rfl rfl (by omega) (by omega)) ?_
    refine L.val rfl rfl (R.idx rfl rfl (by omega) (by omega) p hp) ?_
    refine L.val rfl rfl (R.ld rfl (v := vb l[i / 8]) (by rw [show ((i : Int) / 8).toNat = i / 8 by omega]; exact hcl)) ?_
    refine L.val rfl rfl (R.mv rfl) ?_
    refine L.val rfl rfl (R.rem rfl rfl (by omega) (by omega)) ?_
    refine L.val rfl rfl (R.conv rfl ((i % 8 : Nat) : Int) (wrap_u64c (by omega) |>.trans (by omega))) ?_
    refine L.val rfl rfl (R.shrW rfl rfl (by omega) ((l[i / 8].toNat : Int) / 2 ^ (i % 8)) (shr_u8 _ _ (by omega))) ?_
    refine L.val rfl rfl (R.rem rfl rfl (by apply Int.ediv_nonneg (by omega); apply Int.le_of_lt; apply Int.pow_pos; decide) (by omega)) ?_
    refine L.val rfl rfl (R.eqI rfl rfl) ?_
    refine L.val rfl rfl (R.neB rfl rfl) ?_
    refine L.val rfl rfl (R.as rfl) ?_
    refine L.be 7 rfl (show Value.bool _ = Value.bool (oneF (refR (~~~ r) l i) l[i / 8] (i % 8)) from rfl) ?_
    refine L.nil ?_
    refine N.seq ?_
    refine G.seq ?_
    refine G.region ?_
    refine L.val rfl rfl (R.mv rfl) ?_
    refine L.val rfl rfl (R.quoW rfl rfl (by omega) _ (four_k _ 1 2 (by omega) rfl)) ?_
    refine L.val rfl rfl (R.as rfl) ?_
    refine L.nil ?_
    refine N.seq ?_
    refine G.seq ?_
    refine G.region ?_
    refine L.val rfl rfl (R.mv rfl) ?_
    refine L.nil ?_
    refine N.seq ?_
    refine G.condB rfl (fun h1 => ?_) (fun h1 => ?_)
    · have hnx2 : refR (~~~ r) l (i + 1) = (refR (~~~ r) l i >>> 1) ^^^ 0xedb88320 := by rw [hnx]; unfold bitF; rw [if_pos h1]
      refine G.region ?_
      refine L.val rfl rfl (R.mv rfl) ?_
      refine L.val rfl rfl (R.xorW rfl rfl _ (xorI_u32 _ 0xedb88320)) ?_
      refine L.val rfl rfl (R.as rfl) ?_
      refine L.be 5 rfl (congrArg v32 hnx2.symm) ?_
      refine L.nil ?_
      refine N.block ?_
      refine N.seq ?_
      refine G.region ?_
      refine L.val rfl rfl (R.mv rfl) ?_
      refine L.val rfl rfl (R.add rfl rfl (by omega)) ?_
      refine L.val rfl rfl (R.as rfl) ?_
      refine L.nil ?_
      exact N.again (i + 1) (by omega) (Sub.cons rfl (Sub.cons rfl (Sub.cons rfl (Sub.nil _)))) ⟨by omega, rfl⟩
    · have hnx2 : refR (~~~ r) l (i + 1) = (refR (~~~ r) l i >>> 1) := by rw [hnx]; unfold bitF; rw [if_neg (by rw [h1]; decide)]
      refine G.be 5 rfl (congrArg v32 hnx2.symm) ?_
      refine G.skip ?_
      refine N.block ?_
      refine N.seq ?_
      refine G.region ?_
      refine L.val rfl rfl (R.mv rfl) ?_
      refine L.val rfl rfl (R.add rfl rfl (by omega)) ?_
      refine L.val rfl rfl (R.as rfl) ?_
      refine L.nil ?_
      exact N.again (i + 1) (by omega) (Sub.cons rfl (Sub.cons rfl (Sub.cons rfl (Sub.nil _)))) ⟨by omega, rfl⟩
  · obtain rfl : i = 8 * n := by omega
    refine G.be 5 rfl (congrArg v32 (show _ = restF (~~~ r) l by rw [hl]; exact refR_end _ _)) ?_
    refine G.exit _ rfl ?_
    refine N.seq ?_
    refine G.seq ?_
    refine G.region ?_
    refine L.val rfl rfl (R.mv rfl) ?_
    refine L.val rfl rfl (R.subW rfl rfl _ (compl_sub _)) ?_
    refine L.val rfl rfl (R.as rfl) ?_
    refine L.nil ?_
    refine N.seq ?_
    refine G.ret1 rfl rfl ?_
    exact ⟨rfl, rfl⟩

theorem four_ok (v : UInt32) (w : World) : Meets Try.prog 226 [v32 v] w (fun v' w' => v' = .string (str (fourF v)) ∧ Ext [] w w') := by
  refine Meets.enter Try.func226 rfl 19 rfl (Nat.le_of_ble_eq_true rfl) ?_
  have hv := lt_u32 v
  refine G.seq ?_
  refine G.region ?_
  refine L.val rfl rfl (R.as rfl) ?_
  refine L.nil ?_
  refine N.seq ?_
  refine G.seq ?_
  refine G.region ?_
  refine L.val rfl rfl (R.mv rfl) ?_
  refine L.val rfl rfl (R.rem rfl rfl (by omega) (by omega)) ?_
  refine L.val rfl rfl (R.conv rfl _ (four_0 v)) ?_
  refine L.val rfl rfl (R.mv rfl) ?_
  refine L.val rfl rfl (R.quoW rfl rfl (by omega) _ (four_k v 8 256 (by omega) rfl)) ?_
  refine L.val rfl rfl (R.rem rfl rfl (by omega) (by omega)) ?_
  refine L.val rfl rfl (R.conv rfl _ (four_0 _)) ?_
  refine L.val rfl rfl (R.mv rfl) ?_
  refine L.val rfl rfl (R.quoW rfl rfl (by omega) _ (four_k v 16 65536 (by omega) rfl)) ?_
  refine L.val rfl rfl (R.rem rfl rfl (by omega) (by omega)) ?_
  refine L.val rfl rfl (R.conv rfl _ (four_0 _)) ?_
  refine L.val rfl rfl (R.mv rfl) ?_
  refine L.val rfl rfl (R.quoW rfl rfl (by omega) _ (four_k v 24 16777216 (by omega) rfl)) ?_
  refine L.val rfl rfl (R.conv rfl ((v >>> 24).toUInt8.toNat : Int) (four_top v)) ?_
  refine L.do rfl rfl (R.buildA rfl rfl rfl rfl rfl) ?_
  rintro _ w1 ⟨b17, rfl, hb17, hs17, e1, B17⟩
  refine L.val rfl rfl (R.bytesStr rfl (Bs.of_blk B17 (fourF v) rfl 4 rfl).cells rfl) ?_
  refine L.val rfl rfl (R.as rfl) ?_
  refine L.nil ?_
  refine N.seq ?_
  refine G.ret1 rfl rfl ?_
  exact ⟨rfl, e1⟩

theorem refmark_ok (a : Option Addr) (n c : Nat) (l : List UInt8) (w : World) (hb : Bs w a n l) (hc : n ≤ c) (hn : n ≤ 140737488355328) : Meets Try.prog 186 [.slice a n c] w (fun v w' => v = .string (str (markF l)) ∧ Ext [] w w') := by
  refine Meets.enter Try.func186 rfl 22 rfl (Nat.le_of_ble_eq_true rfl) ?_
  have hl := hb.len
  refine G.seq ?_
  refine G.region ?_
  refine L.val rfl rfl (R.as rfl) ?_
  refine L.nil ?_
  refine N.seq ?_
  refine G.seq ?_
  refine G.seq ?_
  refine G.region ?_
  refine L.val rfl rfl (R.mv rfl) ?_
  refine L.val rfl rfl (R.lenS rfl) ?_
  refine L.val rfl rfl (R.lss rfl rfl) ?_
  refine L.nil ?_
  refine N.seq ?_
  refine G.condP rfl (fun h0 => ?_) (fun h0 => ?_)
  · refine G.seq ?_
    refine G.region ?_
    refine L.val rfl rfl (R.mv rfl) ?_
    refine L.val rfl rfl (R.bytesStr rfl hb.cells hb.len) ?_
    refine L.val rfl rfl (R.as rfl) ?_
    refine L.nil ?_
    refine N.seq ?_
    refine G.ret1 rfl rfl ?_
    exact ⟨by unfold markF; rw [if_pos (by omega)], Ext.refl _ _⟩
  · have e0 := Ext.refl [] w
    refine G.skip ?_
    refine N.seq ?_
    refine G.seq ?_
    refine G.region ?_
    refine L.val rfl rfl (R.mv rfl) ?_
    refine L.val rfl rfl (R.lenS rfl) ?_
    refine L.val rfl rfl (R.sub' rfl rfl (by omega)) ?_
    refine L.val rfl rfl (R.as rfl) ?_
    refine L.be 3 rfl (congrArg (Value.int .i64) (show ((n : Int) - 4) = ((n - 4 : Nat) : Int) by omega)) ?_
    refine L.nil ?_
    refine N.seq ?_
    refine G.seq ?_
    refine G.quiet (by decide +kernel) rfl ?_
    refine Q.val rfl rfl rfl rfl (fun w1 hE => R.mv rfl) ?_
    refine Q.val rfl rfl rfl rfl (fun w1 hE => R.mv rfl) ?_
    refine Q.val rfl rfl rfl rfl (fun w1 hE => R.slH rfl rfl (by omega) (by omega)) ?_
    refine Q.val rfl rfl rfl rfl (fun w1 hE => R.bytesStr rfl ((hb.ext0 hE).take c (n - 4) (by omega) hc).cells ((hb.ext0 hE).take c (n - 4) (by omega) hc).len) ?_
    refine Q.val rfl rfl rfl rfl (fun w1 hE => R.mv rfl) ?_
    refine Q.val rfl rfl rfl rfl (fun w1 hE => R.mv rfl) ?_
    refine Q.val rfl rfl rfl rfl (fun w1 hE => R.slH rfl rfl (by omega) (by omega)) ?_
    refine Q.call (v32 (joinF 0 (l.take (n - 4)))) rfl rfl rfl go227 (fun w1 hE => ⟨_, rfl, (refjoin_ok 0 _ _ _ _ _ ((hb.ext0 hE).take c (n - 4) (by omega) hc) (by omega)).mono (by rintro _ _ ⟨rfl, rfl⟩; exact ⟨rfl, Ext.refl _ _⟩)⟩) ?_
    refine Q.call (.string (str (fourF (joinF 0 (l.take (n - 4)))))) rfl rfl rfl go226 (fun w1 hE => ⟨_, rfl, (four_ok _ _).mono (fun _ _ h => h)⟩) ?_
    refine Q.val rfl rfl rfl rfl (fun w1 hE => R.addStr rfl rfl (by simp [fourF]; omega)) ?_
    refine Q.val rfl rfl rfl rfl (fun w1 hE => R.as rfl) ?_
    refine Q.nil (fun w1 e1 => ?_)
    refine N.seq ?_
    refine G.ret1 rfl rfl ?_
    exact ⟨by unfold markF; rw [if_neg (by omega), ← hl], e1⟩

end Go.Proofs.Ythpolibakkmmeaa
/-
  The walks of package frame.
-/
set_option linter.unusedVariables false
set_option linter.unusedSimpArgs false
namespace Go.Proofs.Ythpolibakkmmeaa
open Go Brv Brv.Crc Brv.Pack Brv.Frame
theorem fbetween_ok (x y z : Int) (w : World) : Meets Try.prog 228 [.int .i64 x, .int .i64 y, .int .i64 z] w (fun v w' => v = .bool (decide (y ≤ x ∧ x ≤ z)) ∧ w' = w) := by
  refine Meets.enter Try.func228 rfl 15 rfl (Nat.le_of_ble_eq_true rfl) ?_
  refine G.seq ?_
  refine G.region ?_
  refine L.val rfl rfl (R.as rfl) ?_
  refine L.nil ?_
  refine N.seq ?_
  refine G.seq ?_
  refine G.region ?_
  refine L.val rfl rfl (R.mv rfl) ?_
  refine L.val rfl rfl (R.mv rfl) ?_
  refine L.val rfl rfl (R.geq rfl rfl) ?_
  refine L.val rfl rfl (R.mv rfl) ?_
  refine L.caseP 10 rfl (fun hg1_3 => ?_) (fun hg1_3 => ?_)
  · refine L.val rfl rfl (R.mv rfl) ?_
    refine L.val rfl rfl (R.mv rfl) ?_
    refine L.val rfl rfl (R.leq rfl rfl) ?_
    first | refine L.val rfl rfl (R.pickT rfl rfl) ?_ | refine L.val rfl rfl (R.pickF rfl rfl) ?_
    refine L.val rfl rfl (R.as rfl) ?_
    refine L.nil ?_
    refine N.seq ?_
    refine G.ret1 rfl rfl ?_
    exact ⟨congrArg Value.bool (by rw [decide_eq_decide]; exact ⟨fun h => ⟨hg1_3, h⟩, fun h => h.2⟩), rfl⟩
  · refine L.pass rfl rfl ?_
    refine L.pass rfl rfl ?_
    refine L.pass rfl rfl ?_
    first | refine L.val rfl rfl (R.pickT rfl rfl) ?_ | refine L.val rfl rfl (R.pickF rfl rfl) ?_
    refine L.val rfl rfl (R.as rfl) ?_
    refine L.nil ?_
    refine N.seq ?_
    refine G.ret1 rfl rfl ?_
    exact ⟨congrArg Value.bool (by rw [eq_comm, decide_eq_false_iff_not]; exact fun h => hg1_3 h.1), rfl⟩

theorem right_ok (p q i k : Int) (a : Option Addr) (n c : Nat) (l : List UInt8) (w : World) (hn : n = l.length) (hp : -9223372036854775808 ≤ p ∧ p ≤ 9223372036854775807)(hq : -9223372036854775808 ≤ q ∧ q ≤ 9223372036854775807)(hi : -9223372036854775808 ≤ i ∧ i ≤ 9223372036854775807)(hk : -9223372036854775808 ≤ k ∧ k ≤ 9223372036854775807) : Meets Try.prog 195 [.agg #[.int .i64 p, .int .i64 q, .int .i64 i, .int .i64 k, .slice a n c]] w (fun v w' => v = .bool (decide (okFrame p q i k l)) ∧ Ext [] w w') := by
  refine Meets.enter Try.func195 rfl 30 rfl (Nat.le_of_ble_eq_true rfl) ?_
  have E := Ext.refl [] w
  refine G.seq ?_
  refine G.region ?_
  refine L.do rfl rfl (R.box rfl) ?_
  rintro _ w1 ⟨b1, rfl, hb1, hs1, e1, B1⟩
  replace E := E.trans0 e1
  refine L.val rfl rfl (R.as rfl) ?_
  refine L.nil ?_
  refine N.seq ?_
  refine G.seq ?_
  refine G.region ?_
  refine L.val rfl rfl (R.fld rfl) ?_
  refine L.val rfl rfl (R.ldB rfl (by assumption) (by rfl)) ?_
  refine L.callF rfl rfl rfl go228 (fbetween_ok _ _ _ _) ?_
  rintro _ _ ⟨rfl, hw⟩
  obtain rfl := hw.symm
  refine L.val rfl rfl (R.mv rfl) ?_
  refine L.caseP 6 rfl (fun hg1_3 => ?_) (fun hg1_3 => ?_)
  · refine L.val rfl rfl (R.fld rfl) ?_
    refine L.val rfl rfl (R.ldB rfl (by assumption) (by rfl)) ?_
    refine L.callF rfl rfl rfl go228 (fbetween_ok _ _ _ _) ?_
    rintro _ _ ⟨rfl, hw⟩
    obtain rfl := hw.symm
    first | refine L.val rfl rfl (R.pickT rfl rfl) ?_ | refine L.val rfl rfl (R.pickF rfl rfl) ?_
    refine L.val rfl rfl (R.mv rfl) ?_
    refine L.caseP 11 rfl (fun hg1_8 => ?_) (fun hg1_8 => ?_)
    · refine L.val rfl rfl (R.fld rfl) ?_
      refine L.val rfl rfl (R.ldB rfl (by assumption) (by rfl)) ?_
      refine L.callF rfl rfl rfl go228 (fbetween_ok _ _ _ _) ?_
      rintro _ _ ⟨rfl, hw⟩
      obtain rfl := hw.symm
      first | refine L.val rfl rfl (R.pickT rfl rfl) ?_ | refine L.val rfl rfl (R.pickF rfl rfl) ?_
      refine L.val rfl rfl (R.mv rfl) ?_
      refine L.caseP 16 rfl (fun hg1_13 => ?_) (fun hg1_13 => ?_)
      · refine L.val rfl rfl (R.fld rfl) ?_
        refine L.val rfl rfl (R.ldB rfl (by assumption) (by rfl)) ?_
        refine L.val rfl rfl (R.fld rfl) ?_
        refine L.val rfl rfl (R.ldB rfl (by assumption) (by rfl)) ?_
        refine L.val rfl rfl (R.sub' rfl rfl (by omega)) ?_
        refine L.callF rfl rfl rfl go228 (fbetween_ok _ _ _ _) ?_
        rintro _ _ ⟨rfl, hw⟩
        obtain rfl := hw.symm
        first | refine L.val rfl rfl (R.pickT rfl rfl) ?_ | refine L.val rfl rfl (R.pickF rfl rfl) ?_
        refine L.val rfl rfl (R.mv rfl) ?_
        refine L.caseP 24 rfl (fun hg1_21 => ?_) (fun hg1_21 => ?_)
        · refine L.val rfl rfl (R.fld rfl) ?_
          refine L.val rfl rfl (R.ldB rfl (by assumption) (by rfl)) ?_
          refine L.val rfl rfl (R.lenS rfl) ?_
          refine L.val rfl rfl (R.leq rfl rfl) ?_
          first | refine L.val rfl rfl (R.pickT rfl rfl) ?_ | refine L.val rfl rfl (R.pickF rfl rfl) ?_
          refine L.val rfl rfl (R.as rfl) ?_
          refine L.nil ?_
          refine N.seq ?_
          refine G.ret1 rfl rfl ?_
          first
            | exact ⟨congrArg Value.bool (by rw [decide_eq_decide]; unfold okFrame; constructor <;> intro h <;> (try refine ⟨by assumption, by assumption, by assumption, by assumption, ?_⟩) <;> omega), E⟩
            | exact ⟨congrArg Value.bool (by rw [eq_comm, decide_eq_false_iff_not]; rintro ⟨o1, o2, o3, o4, o5⟩; first | exact absurd o1 (by assumption) | exact absurd o2 (by assumption) | exact absurd o3 (by assumption) | exact absurd o4 (by assumption)), E⟩
        · refine L.pass rfl rfl ?_
          refine L.pass rfl rfl ?_
          refine L.pass rfl rfl ?_
          refine L.pass rfl rfl ?_
          first | refine L.val rfl rfl (R.pickT rfl rfl) ?_ | refine L.val rfl rfl (R.pickF rfl rfl) ?_
          refine L.val rfl rfl (R.as rfl) ?_
          refine L.nil ?_
          refine N.seq ?_
          refine G.ret1 rfl rfl ?_
          first
            | exact ⟨congrArg Value.bool (by rw [decide_eq_decide]; unfold okFrame; constructor <;> intro h <;> (try refine ⟨by assumption, by assumption, by assumption, by assumption, ?_⟩) <;> omega), E⟩
            | exact ⟨congrArg Value.bool (by rw [eq_comm, decide_eq_false_iff_not]; rintro ⟨o1, o2, o3, o4, o5⟩; first | exact absurd o1 (by assumption) | exact absurd o2 (by assumption) | exact absurd o3 (by assumption) | exact absurd o4 (by assumption)), E⟩
      · refine L.pass rfl rfl ?_
        refine L.pass rfl rfl ?_
        refine L.pass rfl rfl ?_
        refine L.pass rfl rfl ?_
        refine L.pass rfl rfl ?_
        refine L.pass rfl rfl ?_
        first | refine L.val rfl rfl (R.pickT rfl rfl) ?_ | refine L.val rfl rfl (R.pickF rfl rfl) ?_
        refine L.val rfl rfl (R.mv rfl) ?_
        refine L.pass rfl rfl ?_
        refine L.pass rfl rfl ?_
        refine L.pass rfl rfl ?_
        refine L.pass rfl rfl ?_
        first | refine L.val rfl rfl (R.pickT rfl rfl) ?_ | refine L.val rfl rfl (R.pickF rfl rfl) ?_
        refine L.val rfl rfl (R.as rfl) ?_
        refine L.nil ?_
        refine N.seq ?_
        refine G.ret1 rfl rfl ?_
        first
          | exact ⟨congrArg Value.bool (by rw [decide_eq_decide]; unfold okFrame; constructor <;> intro h <;> (try refine ⟨by assumption, by assumption, by assumption, by assumption, ?_⟩) <;> omega), E⟩
          | exact ⟨congrArg Value.bool (by rw [eq_comm, decide_eq_false_iff_not]; rintro ⟨o1, o2, o3, o4, o5⟩; first | exact absurd o1 (by assumption) | exact absurd o2 (by assumption) | exact absurd o3 (by assumption) | exact absurd o4 (by assumption)), E⟩
    · refine L.pass rfl rfl ?_
      refine L.pass rfl rfl ?_
      refine L.pass rfl rfl ?_
      first | refine L.val rfl rfl (R.pickT rfl rfl) ?_ | refine L.val rfl rfl (R.pickF rfl rfl) ?_
      refine L.val rfl rfl (R.mv rfl) ?_
      refine L.pass rfl rfl ?_
      refine L.pass rfl rfl ?_
      refine L.pass rfl rfl ?_
      refine L.pass rfl rfl ?_
      refine L.pass rfl rfl ?_
      refine L.pass rfl rfl ?_
      first | refine L.val rfl rfl (R.pickT rfl rfl) ?_ | refine L.val rfl rfl (R.pickF rfl rfl) ?_
      refine L.val rfl rfl (R.mv rfl) ?_
      refine L.pass rfl rfl ?_
      refine L.pass rfl rfl ?_
      refine L.pass rfl rfl ?_
      refine L.pass rfl rfl ?_
      first | refine L.val rfl rfl (R.pickT rfl rfl) ?_ | refine L.val rfl rfl (R.pickF rfl rfl) ?_
      refine L.val rfl rfl (R.as rfl) ?_
      refine L.nil ?_
      refine N.seq ?_
      refine G.ret1 rfl rfl ?_
      first
        | exact ⟨congrArg Value.bool (by rw [decide_eq_decide]; unfold okFrame; constructor <;> intro h <;> (try refine ⟨by assumption, by assumption, by assumption, by assumption, ?_⟩) <;> omega), E⟩
        | exact ⟨congrArg Value.bool (by rw [eq_comm, decide_eq_false_iff_not]; rintro ⟨o1, o2, o3, o4, o5⟩; first | exact absurd o1 (by assumption) | exact absurd o2 (by assumption) | exact absurd o3 (by assumption) | exact absurd o4 (by assumption)), E⟩
  · refine L.pass rfl rfl ?_
    refine L.pass rfl rfl ?_
    refine L.pass rfl rfl ?_
    first | refine L.val rfl rfl (R.pickT rfl rfl) ?_ | refine L.val rfl rfl (R.pickF rfl rfl) ?_
    refine L.val rfl rfl (R.mv rfl) ?_
    refine L.pass rfl rfl ?_
    refine L.pass rfl rfl ?_
    refine L.pass rfl rfl ?_
    first | refine L.val rfl rfl (R.pickT rfl rfl) ?_ | refine L.val rfl rfl (R.pickF rfl rfl) ?_
    refine L.val rfl rfl (R.mv rfl) ?_
    refine L.pass rfl rfl ?_
    refine L.pass rfl rfl ?_
    refine L.pass rfl rfl ?_
    refine L.pass rfl rfl ?_
    refine L.pass rfl rfl ?_
    refine L.pass rfl rfl ?_
    first | refine L.val rfl rfl (R.pickT rfl rfl) ?_ | refine L.val rfl rfl (R.pickF rfl rfl) ?_
    refine L.val rfl rfl (R.mv rfl) ?_
    refine L.pass rfl rfl ?_
    refine L.pass rfl rfl ?_
    refine L.pass rfl rfl ?_
    refine L.pass rfl rfl ?_
    first | refine L.val rfl rfl (R.pickT rfl rfl) ?_ | refine L.val rfl rfl (R.pickF rfl rfl) ?_
    refine L.val rfl rfl (R.as rfl) ?_
    refine L.nil ?_
    refine N.seq ?_
    refine G.ret1 rfl rfl ?_
    first
      | exact ⟨congrArg Value.bool (by rw [decide_eq_decide]; unfold okFrame; constructor <;> intro h <;> (try refine ⟨by assumption, by assumption, by assumption, by assumption, ?_⟩) <;> omega), E⟩
      | exact ⟨congrArg Value.bool (by rw [eq_comm, decide_eq_false_iff_not]; rintro ⟨o1, o2, o3, o4, o5⟩; first | exact absurd o1 (by assumption) | exact absurd o2 (by assumption) | exact absurd o3 (by assumption) | exact absurd o4 (by assumption)), E⟩

theorem _root_.Brv.Grown.freshLt {S S' : List Nat} {s : Nat} {a b : World} (h : Grown S S' a b) (hs : ∀ g ∈ S, s < g) (ha : s < a.heap.size) : ∀ g ∈ S', s < g := fun g hg => (h.2 g hg).elim (hs g) (Nat.lt_of_lt_of_le ha)
theorem fput_ok (p q i k : Int) (a : Option Addr) (n c : Nat) (l : List UInt8) (w : World) (hb : Bs w a n l) (hn : n ≤ 140737488351232) (hp : -9223372036854775808 ≤ p ∧ p ≤ 9223372036854775807)(hq : -9223372036854775808 ≤ q ∧ q ≤ 9223372036854775807)(hi : -9223372036854775808 ≤ i ∧ i ≤ 9223372036854775807)(hk : -9223372036854775808 ≤ k ∧ k ≤ 9223372036854775807) : Meets Try.prog 141 [.agg #[.int .i64 p, .int .i64 q, .int .i64 i, .int .i64 k, .slice a n c]] w (fun v w' => (okFrame p q i k l → Cloned w 5 1 64 (vbs (frameF p q i k l)) v w') ∧ (¬ okFrame p q i k l → v = .slice none 0 0 ∧ Ext [] w w')) := by
  refine Meets.enter Try.func141 rfl 34 rfl (Nat.le_of_ble_eq_true rfl) ?_
  have E := Ext.refl [] w
  refine G.seq ?_
  refine G.region ?_
  refine L.do rfl rfl (R.box rfl) ?_
  rintro _ w1 ⟨b1, rfl, hb1, hs1, e1, B1⟩
  replace E := E.trans0 e1
  refine L.val rfl rfl (R.as rfl) ?_
  refine L.nil ?_
  refine N.seq ?_
  refine G.seq ?_
  refine G.seq ?_
  refine G.region ?_
  refine L.val rfl rfl (R.ldBN rfl B1 rfl) ?_
  refine L.callF rfl rfl rfl go195 (right_ok _ _ _ _ _ _ _ l _ hb.len hp hq hi hk) ?_
  rintro _ w2 ⟨rfl, e2⟩
  replace B1 := B1.ext0 e2
  replace E := E.trans0 e2
  refine L.val rfl rfl (R.not rfl) ?_
  refine L.nil ?_
  refine N.seq ?_
  refine G.condB rfl (fun h0 => ?_) (fun h0 => ?_)
  · have hno : ¬ okFrame p q i k l := by simpa using h0
    refine G.seq ?_
    refine G.region ?_
    refine L.val rfl rfl (R.as rfl) ?_
    refine L.nil ?_
    refine N.seq ?_
    refine G.ret1 rfl rfl ?_
    exact ⟨fun h => absurd h hno, fun _ => ⟨rfl, E⟩⟩
  · have hok : okFrame p q i k l := by simpa using h0
    obtain ⟨⟨o1, o2⟩, ⟨o3, o4⟩, ⟨o5, o6⟩, ⟨o7, o8⟩, o9⟩ := hok
    have B1l : b1 < w2.heap.size := B1.lt
    have q1 : fitsF 46878 2 = true := by decide
    have q2 : fitsF p 8 = true := by rw [fitsF_spec]; exact ⟨by decide, by decide, o1, Int.lt_of_le_of_lt o2 (by decide)⟩
    have q3 : fitsF q 4 = true := by rw [fitsF_spec]; exact ⟨by decide, by decide, o3, Int.lt_of_le_of_lt o4 (by decide)⟩
    have q4 : fitsF i 2 = true := by rw [fitsF_spec]; exact ⟨by decide, by decide, o7, Int.lt_of_le_of_lt (show i ≤ 65535 by omega) (by decide)⟩
    have q5 : fitsF k 2 = true := by rw [fitsF_spec]; exact ⟨by decide, by decide, by omega, Int.lt_of_le_of_lt o6 (by decide)⟩
    refine G.skip ?_
    refine N.seq ?_
    refine G.seq ?_
    refine G.region ?_
    refine L.val rfl rfl (R.build rfl rfl) ?_
    refine L.do rfl rfl (R.box rfl) ?_
    rintro _ w3 ⟨b8, rfl, hb8, hs8, e3, B8⟩
    have hb18 := E.size
    replace B1 := B1.ext0 e3
    replace E := E.trans0 e3
    have P0 := PenAt.new (E := 5) B8
    have f0 : ∀ g ∈ [b8], b1 < g := by intro g hg; rw [List.mem_singleton.1 hg]; omega
    refine L.val rfl rfl (R.as rfl) ?_
    refine L.nil ?_
    refine N.seq ?_
    refine G.seq ?_
    refine G.region ?_
    refine L.val rfl rfl (R.mv rfl) ?_
    refine L.callF rfl rfl rfl go140 (number_ok _ _ _ _ _ _ P0 (by simp) (by decide) (by decide)) ?_
    rintro _ w5 ⟨rfl, S1, P1, G1⟩
    rw [q1, if_pos rfl] at P1
    have hbl := B1.lt
    replace B1 := B1.ext G1.1 (fun h => by have := f0 _ h; omega)
    replace E := E.fresh G1.1 (fun g hg => by have := f0 _ hg; omega)
    have f1 : ∀ g ∈ S1, b1 < g := G1.freshLt f0 hbl
    refine L.nil ?_
    refine N.seq ?_
    refine G.seq ?_
    refine G.region ?_
    refine L.val rfl rfl (R.mv rfl) ?_
    refine L.val rfl rfl (R.fld rfl) ?_
    refine L.val rfl rfl (R.ldB rfl B1 rfl) ?_
    refine L.callF rfl rfl rfl go140 (number_ok _ _ _ _ _ _ P1 (by simp [be_length]) hp (by decide)) ?_
    rintro _ w6 ⟨rfl, S2, P2, G2⟩
    rw [q2, if_pos rfl] at P2
    have hbl := B1.lt
    replace B1 := B1.ext G2.1 (fun h => by have := f1 _ h; omega)
    replace E := E.fresh G2.1 (fun g hg => by have := f1 _ hg; omega)
    have f2 : ∀ g ∈ S2, b1 < g := G2.freshLt f1 hbl
    refine L.nil ?_
    refine N.seq ?_
    refine G.seq ?_
    refine G.region ?_
    refine L.val rfl rfl (R.mv rfl) ?_
    refine L.val rfl rfl (R.fld rfl) ?_
    refine L.val rfl rfl (R.ldB rfl B1 rfl) ?_
    refine L.callF rfl rfl rfl go140 (number_ok _ _ _ _ _ _ P2 (by simp [be_length]) hq (by decide)) ?_
    rintro _ w7 ⟨rfl, S3, P3, G3⟩
    rw [q3, if_pos rfl] at P3
    have hbl := B1.lt
    replace B1 := B1.ext G3.1 (fun h => by have := f2 _ h; omega)
    replace E := E.fresh G3.1 (fun g hg => by have := f2 _ hg; omega)
    have f3 : ∀ g ∈ S3, b1 < g := G3.freshLt f2 hbl
    refine L.nil ?_
    refine N.seq ?_
    refine G.seq ?_
    refine G.region ?_
    refine L.val rfl rfl (R.mv rfl) ?_
    refine L.val rfl rfl (R.fld rfl) ?_
    refine L.val rfl rfl (R.ldB rfl B1 rfl) ?_
    refine L.callF rfl rfl rfl go140 (number_ok _ _ _ _ _ _ P3 (by simp [be_length]) hi (by decide)) ?_
    rintro _ w8 ⟨rfl, S4, P4, G4⟩
    rw [q4, if_pos rfl] at P4
    have hbl := B1.lt
    replace B1 := B1.ext G4.1 (fun h => by have := f3 _ h; omega)
    replace E := E.fresh G4.1 (fun g hg => by have := f3 _ hg; omega)
    have f4 : ∀ g ∈ S4, b1 < g := G4.freshLt f3 hbl
    refine L.nil ?_
    refine N.seq ?_
    refine G.seq ?_
    refine G.region ?_
    refine L.val rfl rfl (R.mv rfl) ?_
    refine L.val rfl rfl (R.fld rfl) ?_
    refine L.val rfl rfl (R.ldB rfl B1 rfl) ?_
    refine L.callF rfl rfl rfl go140 (number_ok _ _ _ _ _ _ P4 (by simp [be_length]) hk (by decide)) ?_
    rintro _ w9 ⟨rfl, S5, P5, G5⟩
    rw [q5, if_pos rfl] at P5
    have hbl := B1.lt
    replace B1 := B1.ext G5.1 (fun h => by have := f4 _ h; omega)
    replace E := E.fresh G5.1 (fun g hg => by have := f4 _ hg; omega)
    have f5 : ∀ g ∈ S5, b1 < g := G5.freshLt f4 hbl
    refine L.nil ?_
    refine N.seq ?_
    refine G.seq ?_
    refine G.region ?_
    refine L.val rfl rfl (R.mv rfl) ?_
    refine L.val rfl rfl (R.fld rfl) ?_
    refine L.val rfl rfl (R.ldB rfl B1 rfl) ?_
    refine L.callF rfl rfl rfl go196 (text_ok _ _ _ _ _ _ _ _ P5 (by simp [be_length]) (hb.ext0 E) (by omega) (fun _ he => hb.ext0 (E.fresh he (fun g hg => by have := f5 _ hg; omega)))) ?_
    rintro _ w10 ⟨rfl, S6, P6, G6⟩
    rw [if_pos (by omega)] at P6
    replace E := E.fresh G6.1 (fun g hg => by have := f5 _ hg; omega)
    refine L.nil ?_
    refine N.seq ?_
    refine G.seq ?_
    refine G.region ?_
    refine L.val rfl rfl (R.mv rfl) ?_
    refine L.callF rfl rfl rfl go198 (padded_ok _ _ _ _ _ P6 (by simp [be_length, textF]; omega) (by decide)) ?_
    rintro _ w11 ⟨a1, c1, M1, rfl, e11, o11, h11⟩
    replace E := E.trans0 e11
    have hl64 := frame_pad p q i k l o9
    have hbe : ([] ++ be (2 : Int).toNat (46878 : Int).toNat ++ be (8 : Int).toNat p.toNat ++ be (4 : Int).toNat q.toNat ++ be (2 : Int).toNat i.toNat ++ be (2 : Int).toNat k.toNat ++ textF l) = frameB p q i k l := rfl
    rw [hbe] at o11 ⊢
    rw [hl64] at o11 ⊢
    refine L.callF rfl rfl rfl go197 (mark_ok _ _ _ _ _ (Bs.of_own o11) (by decide)) ?_
    rintro v w12 h12
    refine L.val rfl rfl (R.as rfl) ?_
    refine L.nil ?_
    refine N.seq ?_
    refine G.ret1 rfl rfl ?_
    obtain ⟨a2, c2, M2, rfl, e12, o12, h12⟩ := h12
    exact ⟨fun _ => ⟨a2, c2, M2, rfl, E.trans0 e12, o12, fun g hg => Nat.le_trans E.size (h12 g hg)⟩, fun h => absurd ⟨⟨o1, o2⟩, ⟨o3, o4⟩, ⟨o5, o6⟩, ⟨o7, o8⟩, o9⟩ h⟩

theorem refright_ok (p q i k : Int) (a : Option Addr) (n c : Nat) (l : List UInt8) (w : World) (hn : n = l.length) (hp : -9223372036854775808 ≤ p ∧ p ≤ 9223372036854775807)(hq : -9223372036854775808 ≤ q ∧ q ≤ 9223372036854775807)(hi : -9223372036854775808 ≤ i ∧ i ≤ 9223372036854775807)(hk : -9223372036854775808 ≤ k ∧ k ≤ 9223372036854775807) : Meets Try.prog 193 [.agg #[.int .i64 p, .int .i64 q, .int .i64 i, .int .i64 k, .slice a n c]] w (fun v w' => v = .bool (decide (okFrame p q i k l)) ∧ Ext [] w w') := by
  refine Meets.enter Try.func193 rfl 49 rfl (Nat.le_of_ble_eq_true rfl) ?_
  have E := Ext.refl [] w
  refine G.seq ?_
  refine G.region ?_
  refine L.do rfl rfl (R.box rfl) ?_
  rintro _ w1 ⟨b1, rfl, hb1, hs1, e1, B1⟩
  replace E := E.trans0 e1
  refine L.val rfl rfl (R.as rfl) ?_
  refine L.nil ?_
  refine N.seq ?_
  refine G.seq ?_
  refine G.region ?_
  refine L.val rfl rfl (R.fld rfl) ?_
  refine L.val rfl rfl (R.ldB rfl (by assumption) (by rfl)) ?_
  refine L.val rfl rfl (R.geq rfl rfl) ?_
  refine L.val rfl rfl (R.mv rfl) ?_
  refine L.caseP 6 rfl (fun hg1_3 => ?_) (fun hg1_3 => ?_)
  · refine L.val rfl rfl (R.fld rfl) ?_
    refine L.val rfl rfl (R.ldB rfl (by assumption) (by rfl)) ?_
    refine L.val rfl rfl (R.leq rfl rfl) ?_
    first | refine L.val rfl rfl (R.pickT rfl rfl) ?_ | refine L.val rfl rfl (R.pickF rfl rfl) ?_
    refine L.val rfl rfl (R.mv rfl) ?_
    refine L.caseP 11 rfl (fun hg1_8 => ?_) (fun hg1_8 => ?_)
    · refine L.val rfl rfl (R.fld rfl) ?_
      refine L.val rfl rfl (R.ldB rfl (by assumption) (by rfl)) ?_
      refine L.val rfl rfl (R.geq rfl rfl) ?_
      first | refine L.val rfl rfl (R.pickT rfl rfl) ?_ | refine L.val rfl rfl (R.pickF rfl rfl) ?_
      refine L.val rfl rfl (R.mv rfl) ?_
      refine L.caseP 16 rfl (fun hg1_13 => ?_) (fun hg1_13 => ?_)
      · refine L.val rfl rfl (R.fld rfl) ?_
        refine L.val rfl rfl (R.ldB rfl (by assumption) (by rfl)) ?_
        refine L.val rfl rfl (R.leq rfl rfl) ?_
        first | refine L.val rfl rfl (R.pickT rfl rfl) ?_ | refine L.val rfl rfl (R.pickF rfl rfl) ?_
        refine L.val rfl rfl (R.mv rfl) ?_
        refine L.caseP 21 rfl (fun hg1_18 => ?_) (fun hg1_18 => ?_)
        · refine L.val rfl rfl (R.fld rfl) ?_
          refine L.val rfl rfl (R.ldB rfl (by assumption) (by rfl)) ?_
          refine L.val rfl rfl (R.geq rfl rfl) ?_
          first | refine L.val rfl rfl (R.pickT rfl rfl) ?_ | refine L.val rfl rfl (R.pickF rfl rfl) ?_
          refine L.val rfl rfl (R.mv rfl) ?_
          refine L.caseP 26 rfl (fun hg1_23 => ?_) (fun hg1_23 => ?_)
          · refine L.val rfl rfl (R.fld rfl) ?_
            refine L.val rfl rfl (R.ldB rfl (by assumption) (by rfl)) ?_
            refine L.val rfl rfl (R.leq rfl rfl) ?_
            first | refine L.val rfl rfl (R.pickT rfl rfl) ?_ | refine L.val rfl rfl (R.pickF rfl rfl) ?_
            refine L.val rfl rfl (R.mv rfl) ?_
            refine L.caseP 31 rfl (fun hg1_28 => ?_) (fun hg1_28 => ?_)
            · refine L.val rfl rfl (R.fld rfl) ?_
              refine L.val rfl rfl (R.ldB rfl (by assumption) (by rfl)) ?_
              refine L.val rfl rfl (R.geq rfl rfl) ?_
              first | refine L.val rfl rfl (R.pickT rfl rfl) ?_ | refine L.val rfl rfl (R.pickF rfl rfl) ?_
              refine L.val rfl rfl (R.mv rfl) ?_
              refine L.caseP 36 rfl (fun hg1_33 => ?_) (fun hg1_33 => ?_)
              · refine L.val rfl rfl (R.fld rfl) ?_
                refine L.val rfl rfl (R.ldB rfl (by assumption) (by rfl)) ?_
                refine L.val rfl rfl (R.fld rfl) ?_
                refine L.val rfl rfl (R.ldB rfl (by assumption) (by rfl)) ?_
                refine L.val rfl rfl (R.lss rfl rfl) ?_
                first | refine L.val rfl rfl (R.pickT rfl rfl) ?_ | refine L.val rfl rfl (R.pickF rfl rfl) ?_
                refine L.val rfl rfl (R.mv rfl) ?_
                refine L.caseP 43 rfl (fun hg1_40 => ?_) (fun hg1_40 => ?_)
                · refine L.val rfl rfl (R.fld rfl) ?_
                  refine L.val rfl rfl (R.ldB rfl (by assumption) (by rfl)) ?_
                  refine L.val rfl rfl (R.lenS rfl) ?_
                  refine L.val rfl rfl (R.leq rfl rfl) ?_
                  first | refine L.val rfl rfl (R.pickT rfl rfl) ?_ | refine L.val rfl rfl (R.pickF rfl rfl) ?_
                  refine L.val rfl rfl (R.as rfl) ?_
                  refine L.nil ?_
                  refine N.seq ?_
                  refine G.ret1 rfl rfl ?_
                  first
                    | exact ⟨congrArg Value.bool (by rw [decide_eq_decide]; unfold okFrame; omega), E⟩
                    | exact ⟨congrArg Value.bool (by rw [eq_comm, decide_eq_false_iff_not]; unfold okFrame; omega), E⟩
                · refine L.pass rfl rfl ?_
                  refine L.pass rfl rfl ?_
                  refine L.pass rfl rfl ?_
                  refine L.pass rfl rfl ?_
                  first | refine L.val rfl rfl (R.pickT rfl rfl) ?_ | refine L.val rfl rfl (R.pickF rfl rfl) ?_
                  refine L.val rfl rfl (R.as rfl) ?_
                  refine L.nil ?_
                  refine N.seq ?_
                  refine G.ret1 rfl rfl ?_
                  first
                    | exact ⟨congrArg Value.bool (by rw [decide_eq_decide]; unfold okFrame; omega), E⟩
                    | exact ⟨congrArg Value.bool (by rw [eq_comm, decide_eq_false_iff_not]; unfold okFrame; omega), E⟩
              · refine L.pass rfl rfl ?_
                refine L.pass rfl rfl ?_
                refine L.pass rfl rfl ?_
                refine L.pass rfl rfl ?_
                refine L.pass rfl rfl ?_
                first | refine L.val rfl rfl (R.pickT rfl rfl) ?_ | refine L.val rfl rfl (R.pickF rfl rfl) ?_
                refine L.val rfl rfl (R.mv rfl) ?_
                refine L.pass rfl rfl ?_
                refine L.pass rfl rfl ?_
                refine L.pass rfl rfl ?_
                refine L.pass rfl rfl ?_
                first | refine L.val rfl rfl (R.pickT rfl rfl) ?_ | refine L.val rfl rfl (R.pickF rfl rfl) ?_
                refine L.val rfl rfl (R.as rfl) ?_
                refine L.nil ?_
                refine N.seq ?_
                refine G.ret1 rfl rfl ?_
                first
                  | exact ⟨congrArg Value.bool (by rw [decide_eq_decide]; unfold okFrame; omega), E⟩
                  | exact ⟨congrArg Value.bool (by rw [eq_comm, decide_eq_false_iff_not]; unfold okFrame; omega), E⟩
            · refine L.pass rfl rfl ?_
              refine L.pass rfl rfl ?_
              refine L.pass rfl rfl ?_
              first | refine L.val rfl rfl (R.pickT rfl rfl) ?_ | refine L.val rfl rfl (R.pickF rfl rfl) ?_
              refine L.val rfl rfl (R.mv rfl) ?_
              refine L.pass rfl rfl ?_
              refine L.pass rfl rfl ?_
              refine L.pass rfl rfl ?_
              refine L.pass rfl rfl ?_
              refine L.pass rfl rfl ?_
              first | refine L.val rfl rfl (R.pickT rfl rfl) ?_ | refine L.val rfl rfl (R.pickF rfl rfl) ?_
              refine L.val rfl rfl (R.mv rfl) ?_
              refine L.pass rfl rfl ?_
              refine L.pass rfl rfl ?_
              refine L.pass rfl rfl ?_
              refine L.pass rfl rfl ?_
              first | refine L.val rfl rfl (R.pickT rfl rfl) ?_ | refine L.val rfl rfl (R.pickF rfl rfl) ?_
              refine L.val rfl rfl (R.as rfl) ?_
              refine L.nil ?_
              refine N.seq ?_
              refine G.ret1 rfl rfl ?_
              first
                | exact ⟨congrArg Value.bool (by rw [decide_eq_decide]; unfold okFrame; omega), E⟩
                | exact ⟨congrArg Value.bool (by rw [eq_comm, decide_eq_false_iff_not]; unfold okFrame; omega), E⟩
          · refine L.pass rfl rfl ?_
            refine L.pass rfl rfl ?_
            refine L.pass rfl rfl ?_
            first | refine L.val rfl rfl (R.pickT rfl rfl) ?_ | refine L.val rfl rfl (R.pickF rfl rfl) ?_
            refine L.val rfl rfl (R.mv rfl) ?_
            refine L.pass rfl rfl ?_
            refine L.pass rfl rfl ?_
            refine L.pass rfl rfl ?_
            first | refine L.val rfl rfl (R.pickT rfl rfl) ?_ | refine L.val rfl rfl (R.pickF rfl rfl) ?_
            refine L.val rfl rfl (R.mv rfl) ?_
            refine L.pass rfl rfl ?_
            refine L.pass rfl rfl ?_
            refine L.pass rfl rfl ?_
            refine L.pass rfl rfl ?_
            refine L.pass rfl rfl ?_
            first | refine L.val rfl rfl (R.pickT rfl rfl) ?_ | refine L.val rfl rfl (R.pickF rfl rfl) ?_
            refine L.val rfl rfl (R.mv rfl) ?_
            refine L.pass rfl rfl ?_
            refine L.pass rfl rfl ?_
            refine L.pass rfl rfl ?_
            refine L.pass rfl rfl ?_
            first | refine L.val rfl rfl (R.pickT rfl rfl) ?_ | refine L.val rfl rfl (R.pickF rfl rfl) ?_
            refine L.val rfl rfl (R.as rfl) ?_
            refine L.nil ?_
            refine N.seq ?_
            refine G.ret1 rfl rfl ?_
            first
              | exact ⟨congrArg Value.bool (by rw [decide_eq_decide]; unfold okFrame; omega), E⟩
              | exact ⟨congrArg Value.bool (by rw [eq_comm, decide_eq_false_iff_not]; unfold okFrame; omega), E⟩
        · refine L.pass rfl rfl ?_
          refine L.pass rfl rfl ?_
          refine L.pass rfl rfl ?_
          first | refine L.val rfl rfl (R.pickT rfl rfl) ?_ | refine L.val rfl rfl (R.pickF rfl rfl) ?_
          refine L.val rfl rfl (R.mv rfl) ?_
          refine L.pass rfl rfl ?_
          refine L.pass rfl rfl ?_
          refine L.pass rfl rfl ?_
          first | refine L.val rfl rfl (R.pickT rfl rfl) ?_ | refine L.val rfl rfl (R.pickF rfl rfl) ?_
          refine L.val rfl rfl (R.mv rfl) ?_
          refine L.pass rfl rfl ?_
          refine L.pass rfl rfl ?_
          refine L.pass rfl rfl ?_
          first | refine L.val rfl rfl (R.pickT rfl rfl) ?_ | refine L.val rfl rfl (R.pickF rfl rfl) ?_
          refine L.val rfl rfl (R.mv rfl) ?_
          refine L.pass rfl rfl ?_
          refine L.pass rfl rfl ?_
          refine L.pass rfl rfl ?_
          refine L.pass rfl rfl ?_
          refine L.pass rfl rfl ?_
          first | refine L.val rfl rfl (R.pickT rfl rfl) ?_ | refine L.val rfl rfl (R.pickF rfl rfl) ?_
          refine L.val rfl rfl (R.mv rfl) ?_
          refine L.pass rfl rfl ?_
          refine L.pass rfl rfl ?_
          refine L.pass rfl rfl ?_
          refine L.pass rfl rfl ?_
          first | refine L.val rfl rfl (R.pickT rfl rfl) ?_ | refine L.val rfl rfl (R.pickF rfl rfl) ?_
          refine L.val rfl rfl (R.as rfl) ?_
          refine L.nil ?_
          refine N.seq ?_
          refine G.ret1 rfl rfl ?_
          first
            | exact ⟨congrArg Value.bool (by rw [decide_eq_decide]; unfold okFrame; omega), E⟩
            | exact ⟨congrArg Value.bool (by rw [eq_comm, decide_eq_false_iff_not]; unfold okFrame; omega), E⟩
      · refine L.pass rfl rfl ?_
        refine L.pass rfl rfl ?_
        refine L.pass rfl rfl ?_
        first | refine L.val rfl rfl (R.pickT rfl rfl) ?_ | refine L.val rfl rfl (R.pickF rfl rfl) ?_
        refine L.val rfl rfl (R.mv rfl) ?_
        refine L.pass rfl rfl ?_
        refine L.pass rfl rfl ?_
        refine L.pass rfl rfl ?_
        first | refine L.val rfl rfl (R.pickT rfl rfl) ?_ | refine L.val rfl rfl (R.pickF rfl rfl) ?_
        refine L.val rfl rfl (R.mv rfl) ?_
        refine L.pass rfl rfl ?_
        refine L.pass rfl rfl ?_
        refine L.pass rfl rfl ?_
        first | refine L.val rfl rfl (R.pickT rfl rfl) ?_ | refine L.val rfl rfl (R.pickF rfl rfl) ?_
        refine L.val rfl rfl (R.mv rfl) ?_
        refine L.pass rfl rfl ?_
        refine L.pass rfl rfl ?_
        refine L.pass rfl rfl ?_
        first | refine L.val rfl rfl (R.pickT rfl rfl) ?_ | refine L.val rfl rfl (R.pickF rfl rfl) ?_
        refine L.val rfl rfl (R.mv rfl) ?_
        refine L.pass rfl rfl ?_
        refine L.pass rfl rfl ?_
        refine L.pass rfl rfl ?_
        refine L.pass rfl rfl ?_
        refine L.pass rfl rfl ?_
        first | refine L.val rfl rfl (R.pickT rfl rfl) ?_ | refine L.val rfl rfl (R.pickF rfl rfl) ?_
        refine L.val rfl rfl (R.mv rfl) ?_
        refine L.pass rfl rfl ?_
        refine L.pass rfl rfl ?_
        refine L.pass rfl rfl ?_
        refine L.pass rfl rfl ?_
        first | refine L.val rfl rfl (R.pickT rfl rfl) ?_ | refine L.val rfl rfl (R.pickF rfl rfl) ?_
        refine L.val rfl rfl (R.as rfl) ?_
        refine L.nil ?_
        refine N.seq ?_
        refine G.ret1 rfl rfl ?_
        first
          | exact ⟨congrArg Value.bool (by rw [decide_eq_decide]; unfold okFrame; omega), E⟩
          | exact ⟨congrArg Value.bool (by rw [eq_comm, decide_eq_false_iff_not]; unfold okFrame; omega), E⟩
    · refine L.pass rfl rfl ?_
      refine L.pass rfl rfl ?_
      refine L.pass rfl rfl ?_
      first | refine L.val rfl rfl (R.pickT rfl rfl) ?_ | refine L.val rfl rfl (R.pickF rfl rfl) ?_
      refine L.val rfl rfl (R.mv rfl) ?_
      refine L.pass rfl rfl ?_
      refine L.pass rfl rfl ?_
      refine L.pass rfl rfl ?_
      first | refine L.val rfl rfl (R.pickT rfl rfl) ?_ | refine L.val rfl rfl (R.pickF rfl rfl) ?_
      refine L.val rfl rfl (R.mv rfl) ?_
      refine L.pass rfl rfl ?_
      refine L.pass rfl rfl ?_
      refine L.pass rfl rfl ?_
      first | refine L.val rfl rfl (R.pickT rfl rfl) ?_ | refine L.val rfl rfl (R.pickF rfl rfl) ?_
      refine L.val rfl rfl (R.mv rfl) ?_
      refine L.pass rfl rfl ?_
      refine L.pass rfl rfl ?_
      refine L.pass rfl rfl ?_
      first | refine L.val rfl rfl (R.pickT rfl rfl) ?_ | refine L.val rfl rfl (R.pickF rfl rfl) ?_
      refine L.val rfl rfl (R.mv rfl) ?_
      refine L.pass rfl rfl ?_
      refine L.pass rfl rfl ?_
      refine L.pass rfl rfl ?_
      first | refine L.val rfl rfl (R.pickT rfl rfl) ?_ | refine L.val rfl rfl (R.pickF rfl rfl) ?_
      refine L.val rfl rfl (R.mv rfl) ?_
      refine L.pass rfl rfl ?_
      refine L.pass rfl rfl ?_
      refine L.pass rfl rfl ?_
      refine L.pass rfl rfl ?_
      refine L.pass rfl rfl ?_
      first | refine L.val rfl rfl (R.pickT rfl rfl) ?_ | refine L.val rfl rfl (R.pickF rfl rfl) ?_
      refine L.val rfl rfl (R.mv rfl) ?_
      refine L.pass rfl rfl ?_
      refine L.pass rfl rfl ?_
      refine L.pass rfl rfl ?_
      refine L.pass rfl rfl ?_
      first | refine L.val rfl rfl (R.pickT rfl rfl) ?_ | refine L.val rfl rfl (R.pickF rfl rfl) ?_
      refine L.val rfl rfl (R.as rfl) ?_
      refine L.nil ?_
      refine N.seq ?_
      refine G.ret1 rfl rfl ?_
      first
        | exact ⟨congrArg Value.bool (by rw [decide_eq_decide]; unfold okFrame; omega), E⟩
        | exact ⟨congrArg Value.bool (by rw [eq_comm, decide_eq_false_iff_not]; unfold okFrame; omega), E⟩
  · refine L.pass rfl rfl ?_
    refine L.pass rfl rfl ?_
    refine L.pass rfl rfl ?_
    first | refine L.val rfl rfl (R.pickT rfl rfl) ?_ | refine L.val rfl rfl (R.pickF rfl rfl) ?_
    refine L.val rfl rfl (R.mv rfl) ?_
    refine L.pass rfl rfl ?_
    refine L.pass rfl rfl ?_
    refine L.pass rfl rfl ?_
    first | refine L.val rfl rfl (R.pickT rfl rfl) ?_ | refine L.val rfl rfl (R.pickF rfl rfl) ?_
    refine L.val rfl rfl (R.mv rfl) ?_
    refine L.pass rfl rfl ?_
    refine L.pass rfl rfl ?_
    refine L.pass rfl rfl ?_
    first | refine L.val rfl rfl (R.pickT rfl rfl) ?_ | refine L.val rfl rfl (R.pickF rfl rfl) ?_
    refine L.val rfl rfl (R.mv rfl) ?_
    refine L.pass rfl rfl ?_
    refine L.pass rfl rfl ?_
    refine L.pass rfl rfl ?_
    first | refine L.val rfl rfl (R.pickT rfl rfl) ?_ | refine L.val rfl rfl (R.pickF rfl rfl) ?_
    refine L.val rfl rfl (R.mv rfl) ?_
    refine L.pass rfl rfl ?_
    refine L.pass rfl rfl ?_
    refine L.pass rfl rfl ?_
    first | refine L.val rfl rfl (R.pickT rfl rfl) ?_ | refine L.val rfl rfl (R.pickF rfl rfl) ?_
    refine L.val rfl rfl (R.mv rfl) ?_
    refine L.pass rfl rfl ?_
    refine L.pass rfl rfl ?_
    refine L.pass rfl rfl ?_
    first | refine L.val rfl rfl (R.pickT rfl rfl) ?_ | refine L.val rfl rfl (R.pickF rfl rfl) ?_
    refine L.val rfl rfl (R.mv rfl) ?_
    refine L.pass rfl rfl ?_
    refine L.pass rfl rfl ?_
    refine L.pass rfl rfl ?_
    refine L.pass rfl rfl ?_
    refine L.pass rfl rfl ?_
    first | refine L.val rfl rfl (R.pickT rfl rfl) ?_ | refine L.val rfl rfl (R.pickF rfl rfl) ?_
    refine L.val rfl rfl (R.mv rfl) ?_
    refine L.pass rfl rfl ?_
    refine L.pass rfl rfl ?_
    refine L.pass rfl rfl ?_
    refine L.pass rfl rfl ?_
    first | refine L.val rfl rfl (R.pickT rfl rfl) ?_ | refine L.val rfl rfl (R.pickF rfl rfl) ?_
    refine L.val rfl rfl (R.as rfl) ?_
    refine L.nil ?_
    refine N.seq ?_
    refine G.ret1 rfl rfl ?_
    first
      | exact ⟨congrArg Value.bool (by rw [decide_eq_decide]; unfold okFrame; omega), E⟩
      | exact ⟨congrArg Value.bool (by rw [eq_comm, decide_eq_false_iff_not]; unfold okFrame; omega), E⟩

theorem refput6_ok (p q i k : Int) (a : Option Addr) (n c : Nat) (l : List UInt8) (w : World) (hok : okFrame p q i k l) (hb : Bs w a n l) (hn : n ≤ c) (hc : n ≤ 140737488351232) (hp : -9223372036854775808 ≤ p ∧ p ≤ 9223372036854775807)(hq : -9223372036854775808 ≤ q ∧ q ≤ 9223372036854775807)(hi : -9223372036854775808 ≤ i ∧ i ≤ 9223372036854775807)(hk : -9223372036854775808 ≤ k ∧ k ≤ 9223372036854775807) : Meets Try.prog 131 [.agg #[.int .i64 p, .int .i64 q, .int .i64 i, .int .i64 k, .slice a n c]] w (fun v w' => v = .string (str (frameF p q i k l)) ∧ Ext [] w w') := by
  refine Meets.enter Try.func131 rfl 28 rfl (Nat.le_of_ble_eq_true rfl) ?_
  have E := Ext.refl [] w
  obtain ⟨⟨o1, o2⟩, ⟨o3, o4⟩, ⟨o5, o6⟩, ⟨o7, o8⟩, o9⟩ := hok
  refine G.seq ?_
  refine G.region ?_
  refine L.do rfl rfl (R.box rfl) ?_
  rintro _ w1 ⟨b1, rfl, hb1, hs1, e1, B1⟩
  replace E := E.trans0 e1
  refine L.val rfl rfl (R.as rfl) ?_
  refine L.nil ?_
  refine N.seq ?_
  refine G.seq ?_
  refine G.quiet (by decide +kernel) rfl ?_
  refine Q.val rfl rfl rfl rfl (fun w2 hE => R.fld rfl) ?_
  refine Q.val rfl rfl rfl rfl (fun w2 hE => R.ldB rfl (Blk.ext0 (by assumption) hE) (by rfl)) ?_
  refine Q.be 5 rfl (congrArg (Value.int .i64) (show p = ((p.toNat : Nat) : Int) by omega)) ?_
  refine Q.call (.string (str (be 8 p.toNat))) rfl rfl rfl go130 (fun w2 hE => ⟨_, rfl, (refnumber_ok 8 _ _ (by decide) (by omega)).mono (fun _ _ h => h)⟩) ?_
  refine Q.val rfl rfl rfl rfl (fun w2 hE => R.addStr (a := [183, 30]) rfl rfl (by simp [be_length])) ?_
  refine Q.val rfl rfl rfl rfl (fun w2 hE => R.fld rfl) ?_
  refine Q.val rfl rfl rfl rfl (fun w2 hE => R.ldB rfl (Blk.ext0 (by assumption) hE) (by rfl)) ?_
  refine Q.be 9 rfl (congrArg (Value.int .i64) (show q = ((q.toNat : Nat) : Int) by omega)) ?_
  refine Q.call (.string (str (be 4 q.toNat))) rfl rfl rfl go130 (fun w2 hE => ⟨_, rfl, (refnumber_ok 4 _ _ (by decide) (by omega)).mono (fun _ _ h => h)⟩) ?_
  refine Q.val rfl rfl rfl rfl (fun w2 hE => R.addStr rfl rfl (by simp [be_length, textF] <;> omega)) ?_
  refine Q.val rfl rfl rfl rfl (fun w2 hE => R.fld rfl) ?_
  refine Q.val rfl rfl rfl rfl (fun w2 hE => R.ldB rfl (Blk.ext0 (by assumption) hE) (by rfl)) ?_
  refine Q.be 13 rfl (congrArg (Value.int .i64) (show i = ((i.toNat : Nat) : Int) by omega)) ?_
  refine Q.call (.string (str (be 2 i.toNat))) rfl rfl rfl go130 (fun w2 hE => ⟨_, rfl, (refnumber_ok 2 _ _ (by decide) (by omega)).mono (fun _ _ h => h)⟩) ?_
  refine Q.val rfl rfl rfl rfl (fun w2 hE => R.addStr rfl rfl (by simp [be_length, textF] <;> omega)) ?_
  refine Q.val rfl rfl rfl rfl (fun w2 hE => R.fld rfl) ?_
  refine Q.val rfl rfl rfl rfl (fun w2 hE => R.ldB rfl (Blk.ext0 (by assumption) hE) (by rfl)) ?_
  refine Q.be 17 rfl (congrArg (Value.int .i64) (show k = ((k.toNat : Nat) : Int) by omega)) ?_
  refine Q.call (.string (str (be 2 k.toNat))) rfl rfl rfl go130 (fun w2 hE => ⟨_, rfl, (refnumber_ok 2 _ _ (by decide) (by omega)).mono (fun _ _ h => h)⟩) ?_
  refine Q.val rfl rfl rfl rfl (fun w2 hE => R.addStr rfl rfl (by simp [be_length, textF] <;> omega)) ?_
  refine Q.val rfl rfl rfl rfl (fun w2 hE => R.fld rfl) ?_
  refine Q.val rfl rfl rfl rfl (fun w2 hE => R.ldB rfl (Blk.ext0 (by assumption) hE) (by rfl)) ?_
  refine Q.call (.string (str (textF l))) rfl rfl rfl go185 (fun w2 hE => ⟨_, rfl, (reftext_ok _ _ _ _ _ (hb.ext0 (E.trans0 hE)) (by omega)).mono (fun _ _ h => h)⟩) ?_
  refine Q.val rfl rfl rfl rfl (fun w2 hE => R.addStr rfl rfl (by simp [be_length, textF] <;> omega)) ?_
  refine Q.val rfl rfl rfl rfl (fun w2 hE => R.as rfl) ?_
  refine Q.nil (fun w2 e2 => ?_)
  replace E := E.trans0 e2
  refine N.seq ?_
  refine G.seq ?_
  refine G.region ?_
  refine L.val rfl rfl (R.mv rfl) ?_
  refine L.callF rfl rfl rfl go187 (refpadded_ok _ 64 _ (by decide) (by simp [be_length, textF] <;> omega)) ?_
  rintro _ _ ⟨rfl, hw⟩
  obtain rfl := hw.symm
  refine L.do rfl rfl (R.strBytes rfl) ?_
  rintro _ w4 ⟨b26, c26, rfl, hb26, hs26, hc26, e4, C26⟩
  replace E := E.trans0 e4
  have hfp := frame_pad p q i k l o9
  refine L.callF rfl rfl rfl go186 (refmark_ok _ _ _ _ _ (Bs.of_cells C26 rfl) hc26 (show (padF 64 (frameB p q i k l)).length ≤ 140737488355328 by rw [hfp]; decide)) ?_
  rintro _ w5 ⟨rfl, e5⟩
  replace E := E.trans0 e5
  refine L.val rfl rfl (R.as rfl) ?_
  refine L.nil ?_
  refine N.seq ?_
  refine G.ret1 rfl rfl ?_
  exact ⟨rfl, E⟩

end Go.Proofs.Ythpolibakkmmeaa
/-
  The walks of package frame: Get.
-/
set_option linter.unusedVariables false
set_option linter.unusedSimpArgs false
namespace Go.Proofs.Ythpolibakkmmeaa
open Go Brv Brv.Crc Brv.Pack Brv.Frame
def frC (f : FrV) (a : Option Addr) (c : Nat) : Array Value := #[.int .i64 f.1, .int .i64 f.2.1, .int .i64 f.2.2.1, .int .i64 f.2.2.2.1, .slice a f.2.2.2.2.length c]
structure InV (f : FrV) : Prop where
  p : -9223372036854775808 ≤ f.1 ∧ f.1 ≤ 9223372036854775807
  q : -9223372036854775808 ≤ f.2.1 ∧ f.2.1 ≤ 9223372036854775807
  i : -9223372036854775808 ≤ f.2.2.1 ∧ f.2.2.1 ≤ 9223372036854775807
  k : -9223372036854775808 ≤ f.2.2.2.1 ∧ f.2.2.2.1 ≤ 9223372036854775807
  l : f.2.2.2.2.length ≤ 140737488351232
theorem frC_one (f : FrV) (a : Option Addr) (c : Nat) : ∀ u ∈ (frC f a c).toList, u.oneCell' = true := by
  intro u hu
  simp only [frC, List.mem_cons, List.not_mem_nil, or_false] at hu
  rcases hu with rfl | rfl | rfl | rfl | rfl <;> rfl
theorem InV.of {f : FrV} (h : okV f) : InV f := by
  obtain ⟨⟨o1, o2⟩, ⟨o3, o4⟩, ⟨o5, o6⟩, ⟨o7, o8⟩, o9⟩ := h
  exact ⟨by omega, by omega, by omega, by omega, by omega⟩
theorem InV.parse (l : List UInt8) : InV (parse l).1 := by
  have h1 := numF_lt l 0 8
  have h2 := numF_lt (numF l 0 8).2.1 (numF l 0 8).2.2 4
  have h3 := numF_lt (numF (numF l 0 8).2.1 (numF l 0 8).2.2 4).2.1 (numF (numF l 0 8).2.1 (numF l 0 8).2.2 4).2.2 2
  have h4 := numF_lt (numF (numF (numF l 0 8).2.1 (numF l 0 8).2.2 4).2.1 (numF (numF l 0 8).2.1 (numF l 0 8).2.2 4).2.2 2).2.1 (numF (numF (numF l 0 8).2.1 (numF l 0 8).2.2 4).2.1 (numF (numF l 0 8).2.1 (numF l 0 8).2.2 4).2.2 2).2.2 2
  have h5 : (Frame.parse l).1.2.2.2.2.length ≤ 40 := txtF_most _ _
  exact ⟨⟨by show (-9223372036854775808 : Int) ≤ ((numF l 0 8).1 : Int); omega, by show ((numF l 0 8).1 : Int) ≤ _; omega⟩, ⟨by show (-9223372036854775808 : Int) ≤ ((numF _ _ 4).1 : Int); omega, by show ((numF (numF l 0 8).2.1 (numF l 0 8).2.2 4).1 : Int) ≤ _; omega⟩,
    ⟨by show (-9223372036854775808 : Int) ≤ ((numF _ _ 2).1 : Int); omega, by show ((numF (numF (numF l 0 8).2.1 (numF l 0 8).2.2 4).2.1 (numF (numF l 0 8).2.1 (numF l 0 8).2.2 4).2.2 2).1 : Int) ≤ _; omega⟩,
    ⟨by show (-9223372036854775808 : Int) ≤ ((numF _ _ 2).1 : Int); omega, by show ((numF (numF (numF (numF l 0 8).2.1 (numF l 0 8).2.2 4).2.1 (numF (numF l 0 8).2.1 (numF l 0 8).2.2 4).2.2 2).2.1 (numF (numF (numF l 0 8).2.1 (numF l 0 8).2.2 4).2.1 (numF (numF l 0 8).2.1 (numF l 0 8).2.2 4).2.2 2).2.2 2).1 : Int) ≤ _; omega⟩, Nat.le_trans h5 (by decide)⟩
theorem fputV_ok (f : FrV) (a : Option Addr) (c : Nat) (w : World) (hb : Bs w a f.2.2.2.2.length f.2.2.2.2) (hi : InV f) : Meets Try.prog 141 [.agg (frC f a c)] w (fun v w' => ∃ a1 c1, v = .slice a1 (putV f).length c1 ∧ Ext [] w w' ∧ Bs w' a1 (putV f).length (putV f) ∧ (putV f).length ≤ c1) := by
  obtain ⟨p, q, i, k, l⟩ := f
  refine (fput_ok p q i k a l.length c l w hb hi.l hi.p hi.q hi.i hi.k).mono ?_
  rintro v w' ⟨h1, h2⟩
  by_cases h : okFrame p q i k l
  · obtain ⟨a1, c1, M1, rfl, e, o, _⟩ := h1 h
    have e1 : putV (p, q, i, k, l) = frameF p q i k l := if_pos h
    have e2 : (frameF p q i k l).length = 64 := secV_length (f := (p, q, i, k, l)) h
    rw [e1, e2]
    exact ⟨a1, c1, rfl, e, Bs.of_own o, o.le⟩
  · obtain ⟨rfl, e⟩ := h2 h
    have e1 : putV (p, q, i, k, l) = [] := if_neg h
    rw [e1]
    exact ⟨none, 0, rfl, e, Bs.nil _, Nat.le_refl _⟩
theorem frightV_ok (f : FrV) (a : Option Addr) (c : Nat) (w : World) (hi : InV f) : Meets Try.prog 195 [.agg (frC f a c)] w (fun v w' => v = .bool (decide (okV f)) ∧ Ext [] w w') := right_ok f.1 f.2.1 f.2.2.1 f.2.2.2.1 a _ c f.2.2.2.2 w rfl hi.p hi.q hi.i hi.k
theorem rrightV_ok (f : FrV) (a : Option Addr) (c : Nat) (w : World) (hi : InV f) : Meets Try.prog 193 [.agg (frC f a c)] w (fun v w' => v = .bool (decide (okV f)) ∧ Ext [] w w') := refright_ok f.1 f.2.1 f.2.2.1 f.2.2.2.1 a _ c f.2.2.2.2 w rfl hi.p hi.q hi.i hi.k
theorem rputV_ok (f : FrV) (a : Option Addr) (c : Nat) (w : World) (hok : okV f) (hb : Bs w a f.2.2.2.2.length f.2.2.2.2) (hc : f.2.2.2.2.length ≤ c) : Meets Try.prog 131 [.agg (frC f a c)] w (fun v w' => v = .string (str (secV f)) ∧ Ext [] w w') :=
  refput6_ok f.1 f.2.1 f.2.2.1 f.2.2.2.1 a _ c f.2.2.2.2 w hok hb hc (InV.of hok).l (InV.of hok).p (InV.of hok).q (InV.of hok).i (InV.of hok).k

theorem fget_ok (a : Option Addr) (n c : Nat) (l : List UInt8) (w : World) (hb : Bs w a n l) (hc : n ≤ c) (hn : n ≤ 70368744177664) : Meets Try.prog 132 [.slice a n c] w (fun v w' => ∃ a1 c1, v = .tuple #[.agg (frC (getF l).1 a1 c1), .int .i64 (getF l).2] ∧ Ext [] w w' ∧ Bs w' a1 (getF l).1.2.2.2.2.length (getF l).1.2.2.2.2 ∧ (getF l).1.2.2.2.2.length ≤ c1 ∧ ∀ p, a1 = some p → w.heap.size ≤ p.block ∧ p.block < w'.heap.size) := by
  refine Meets.enter Try.func132 rfl 44 rfl (Nat.le_of_ble_eq_true rfl) ?_
  have E := Ext.refl [] w
  have hl := hb.len
  refine G.seq ?_
  refine G.region ?_
  refine L.do rfl rfl (R.alloc) ?_
  rintro _ w1 ⟨b2, rfl, hb2, hs2, e1, B2⟩
  replace E := E.trans0 e1
  refine L.val rfl rfl (R.as rfl) ?_
  refine L.nil ?_
  refine N.seq ?_
  refine G.seq ?_
  refine G.region ?_
  refine L.val rfl rfl (R.mv rfl) ?_
  refine L.callF rfl rfl rfl go133 (new_ok _ _ _ _ _ (hb.ext0 E) (by omega)) ?_
  rintro _ w2 ⟨s, D, rfl, S0, e2, hss, hD2, _, hDc⟩
  have hDl : ∀ d ∈ D, d < w2.heap.size := fun d hd => (hDc d hd).elim fun _ h => h.lt
  replace E := E.trans0 e2
  replace B2 := B2.ext0 e2
  have hsw : w.heap.size ≤ s := by omega
  have hbs : b2 ≠ s := by omega
  have hDs : ∀ d ∈ D, w1.heap.size ≤ d := hD2
  refine L.val rfl rfl (R.as rfl) ?_
  refine L.nil ?_
  refine N.seq ?_
  refine G.seq ?_
  refine G.seq ?_
  refine G.region ?_
  refine L.val rfl rfl (R.mv rfl) ?_
  refine L.val rfl rfl (R.lenS rfl) ?_
  refine L.val rfl rfl (R.neI rfl rfl) ?_
  refine L.val rfl rfl (R.mv rfl) ?_
  refine L.caseP 11 rfl (fun hg2_3 => ?_) (fun hg2_3 => ?_)
  · have hno : ¬ (l.length = 64 ∧ num (l.take 2) = 46878) := fun h => by omega
    refine L.pass rfl rfl ?_
    refine L.pass rfl rfl ?_
    refine L.pass rfl rfl ?_
    first | refine L.val rfl rfl (R.pickT rfl rfl) ?_ | refine L.val rfl rfl (R.pickF rfl rfl) ?_
    refine L.nil ?_
    refine N.seq ?_
    refine G.condT rfl ?_
    refine G.seq ?_
    refine G.region ?_
    refine L.val rfl rfl (R.build rfl rfl) ?_
    refine L.set rfl (R.stN rfl rfl B2 rfl (Nat.le_refl 5) (frC_one zeroV none 0)) ?_
    rintro w20 ⟨e20, hs20, B2⟩
    replace B2 : Blk w20 b2 (frC zeroV none 0) 214 (0, 0) := B2
    replace E := E.trans e20 (M := []) (by simp) (by intro x hx; rw [List.mem_singleton.1 hx]; exact .inr (by omega))
    refine L.val rfl rfl (R.as rfl) ?_
    refine L.nil ?_
    refine N.seq ?_
    refine G.retCT rfl rfl rfl (B2) rfl ?_
    first
      | (rw [getF_size hno]; exact ⟨none, 0, rfl, E, Bs.nil _, Nat.le_refl _, (fun p hp => by cases hp)⟩)
      | (rw [getF_sum hyes hg]; exact ⟨none, 0, rfl, E, Bs.nil _, Nat.le_refl _, (fun p hp => by cases hp)⟩)
      | (rw [getF_form hyes hg hnf]; exact ⟨none, 0, rfl, E, Bs.nil _, Nat.le_refl _, (fun p hp => by cases hp)⟩)
      | (rw [getF_form hyes hg (fun h => by have h9 := h.2; simp [h9] at h2)]; exact ⟨none, 0, rfl, E, Bs.nil _, Nat.le_refl _, (fun p hp => by cases hp)⟩)
      | (rw [getF_yes hyes hg ⟨he0, by simpa using h2⟩]; exact ⟨a5, c5, rfl, E, hbp, by rw [hp5]; exact hc5, fun p hp => ⟨by have h1 := hDs _ (hq5 p hp); omega, by have h1 := hDl _ (hq5 p hp); have := e10.size; have := e11.size; have := e12.size; have := e13.size; have := e23.size; omega⟩⟩)
  · have h64 : l.length = 64 := by omega
    have hq2 : numF l 0 2 = (num (l.take 2), l.drop 2, 0) := numF_ok (l := l) (y := 2) ⟨by omega, by omega, by omega, by omega⟩
    refine L.val rfl rfl (R.mv rfl) ?_
    refine L.callF rfl rfl rfl go134 (scannum_ok _ _ _ _ 2 _ S0 (by omega)) ?_
    rintro _ w3 ⟨rfl, S1, e3⟩
    rw [hq2] at S1 ⊢
    dsimp only at S1
    replace E := E.trans e3 (M := []) (by simp) (by intro x hx; rw [List.mem_singleton.1 hx]; exact .inr hsw)
    replace B2 := B2.ext e3 (by simp; omega)
    have hw3 := e3.size
    refine L.val rfl rfl (R.neI rfl rfl) ?_
    first | refine L.val rfl rfl (R.pickT rfl rfl) ?_ | refine L.val rfl rfl (R.pickF rfl rfl) ?_
    refine L.nil ?_
    refine N.seq ?_
    refine G.condP rfl (fun h0 => ?_) (fun h0 => ?_)
    · have hno : ¬ (l.length = 64 ∧ num (l.take 2) = 46878) := fun h => h0 (by rw [h.2]; rfl)
      refine G.seq ?_
      refine G.region ?_
      refine L.val rfl rfl (R.build rfl rfl) ?_
      refine L.set rfl (R.stN rfl rfl B2 rfl (Nat.le_refl 5) (frC_one zeroV none 0)) ?_
      rintro w20 ⟨e20, hs20, B2⟩
      replace B2 : Blk w20 b2 (frC zeroV none 0) 214 (0, 0) := B2
      replace E := E.trans e20 (M := []) (by simp) (by intro x hx; rw [List.mem_singleton.1 hx]; exact .inr (by omega))
      refine L.val rfl rfl (R.as rfl) ?_
      refine L.nil ?_
      refine N.seq ?_
      refine G.retCT rfl rfl rfl (B2) rfl ?_
      first
        | (rw [getF_size hno]; exact ⟨none, 0, rfl, E, Bs.nil _, Nat.le_refl _, (fun p hp => by cases hp)⟩)
        | (rw [getF_sum hyes hg]; exact ⟨none, 0, rfl, E, Bs.nil _, Nat.le_refl _, (fun p hp => by cases hp)⟩)
        | (rw [getF_form hyes hg hnf]; exact ⟨none, 0, rfl, E, Bs.nil _, Nat.le_refl _, (fun p hp => by cases hp)⟩)
        | (rw [getF_form hyes hg (fun h => by have h9 := h.2; simp [h9] at h2)]; exact ⟨none, 0, rfl, E, Bs.nil _, Nat.le_refl _, (fun p hp => by cases hp)⟩)
        | (rw [getF_yes hyes hg ⟨he0, by simpa using h2⟩]; exact ⟨a5, c5, rfl, E, hbp, by rw [hp5]; exact hc5, fun p hp => ⟨by have h1 := hDs _ (hq5 p hp); omega, by have h1 := hDl _ (hq5 p hp); have := e10.size; have := e11.size; have := e12.size; have := e13.size; have := e23.size; omega⟩⟩)
    · have hyes : l.length = 64 ∧ num (l.take 2) = 46878 := ⟨h64, by have := Classical.not_not.1 h0; omega⟩
      refine G.skip ?_
      refine N.seq ?_
      refine G.seq ?_
      refine G.seq ?_
      refine G.region ?_
      refine L.val rfl rfl (R.mv rfl) ?_
      refine L.callF rfl rfl rfl go188 (good_ok _ _ _ _ _ (hb.ext0 E) (by omega)) ?_
      rintro _ w4 ⟨rfl, e4⟩
      replace E := E.trans0 e4
      replace B2 := B2.ext0 e4
      replace S1 := S1.ext0 e4
      have hw4 := e4.size
      refine L.val rfl rfl (R.not rfl) ?_
      refine L.nil ?_
      refine N.seq ?_
      refine G.condB rfl (fun h1 => ?_) (fun h1 => ?_)
      · have hg : goodF l = false := by simpa using h1
        refine G.seq ?_
        refine G.region ?_
        refine L.val rfl rfl (R.build rfl rfl) ?_
        refine L.set rfl (R.stN rfl rfl B2 rfl (Nat.le_refl 5) (frC_one zeroV none 0)) ?_
        rintro w21 ⟨e21, hs21, B2⟩
        replace B2 : Blk w21 b2 (frC zeroV none 0) 214 (0, 0) := B2
        replace E := E.trans e21 (M := []) (by simp) (by intro x hx; rw [List.mem_singleton.1 hx]; exact .inr (by omega))
        refine L.val rfl rfl (R.as rfl) ?_
        refine L.nil ?_
        refine N.seq ?_
        refine G.retCT rfl rfl rfl (B2) rfl ?_
        first
          | (rw [getF_size hno]; exact ⟨none, 0, rfl, E, Bs.nil _, Nat.le_refl _, (fun p hp => by cases hp)⟩)
          | (rw [getF_sum hyes hg]; exact ⟨none, 0, rfl, E, Bs.nil _, Nat.le_refl _, (fun p hp => by cases hp)⟩)
          | (rw [getF_form hyes hg hnf]; exact ⟨none, 0, rfl, E, Bs.nil _, Nat.le_refl _, (fun p hp => by cases hp)⟩)
          | (rw [getF_form hyes hg (fun h => by have h9 := h.2; simp [h9] at h2)]; exact ⟨none, 0, rfl, E, Bs.nil _, Nat.le_refl _, (fun p hp => by cases hp)⟩)
          | (rw [getF_yes hyes hg ⟨he0, by simpa using h2⟩]; exact ⟨a5, c5, rfl, E, hbp, by rw [hp5]; exact hc5, fun p hp => ⟨by have h1 := hDs _ (hq5 p hp); omega, by have h1 := hDl _ (hq5 p hp); have := e10.size; have := e11.size; have := e12.size; have := e13.size; have := e23.size; omega⟩⟩)
      · have hg : goodF l = true := by simpa using h1
        obtain ⟨x1, hx1⟩ : ∃ x, x = numF (l.drop 2) 0 8 := ⟨_, rfl⟩
        obtain ⟨x2, hx2⟩ : ∃ x, x = numF x1.2.1 x1.2.2 4 := ⟨_, rfl⟩
        obtain ⟨x3, hx3⟩ : ∃ x, x = numF x2.2.1 x2.2.2 2 := ⟨_, rfl⟩
        obtain ⟨x4, hx4⟩ : ∃ x, x = numF x3.2.1 x3.2.2 2 := ⟨_, rfl⟩
        obtain ⟨x5, hx5⟩ : ∃ x, x = txtF x4.2.1 x4.2.2 40 := ⟨_, rfl⟩
        have hp5 : parse (l.drop 2) = (((x1.1 : Int), (x2.1 : Int), (x3.1 : Int), (x4.1 : Int), x5.1), x5.2.2) := by rw [hx5, hx4, hx3, hx2, hx1]; rfl
        have hd : (l.drop 2).length ≤ 64 := by rw [List.length_drop]; omega
        have z1 : x1.2.1.length ≤ 64 := by rw [hx1]; exact Nat.le_trans (numF_length _ _ _) hd
        have z2 : x2.2.1.length ≤ 64 := by rw [hx2]; exact Nat.le_trans (numF_length _ _ _) z1
        have z3 : x3.2.1.length ≤ 64 := by rw [hx3]; exact Nat.le_trans (numF_length _ _ _) z2
        have z4 : x4.2.1.length ≤ 64 := by rw [hx4]; exact Nat.le_trans (numF_length _ _ _) z3
        have z5 : x5.1.length ≤ 40 := by rw [hx5]; exact txtF_most _ _
        have z6 : x5.2.1.length ≤ 64 := by rw [hx5]; exact Nat.le_trans (txtF_length _ _ _) z4
        refine G.skip ?_
        refine N.seq ?_
        refine G.seq ?_
        refine G.region ?_
        refine L.val rfl rfl (R.mv rfl) ?_
        refine L.callF rfl rfl rfl go134 (scannum_ok _ _ _ _ 8 _ S1 (by omega)) ?_
        rintro _ w5 ⟨rfl, S2, e5⟩
        rw [← hx1] at S2 ⊢
        replace E := E.trans e5 (M := []) (by simp) (by intro x hx; rw [List.mem_singleton.1 hx]; exact .inr hsw)
        replace B2 := B2.ext e5 (by simp; omega)
        refine L.val rfl rfl (R.mv rfl) ?_
        refine L.callF rfl rfl rfl go134 (scannum_ok _ _ _ _ 4 _ S2 (by omega)) ?_
        rintro _ w6 ⟨rfl, S3, e6⟩
        rw [← hx2] at S3 ⊢
        replace E := E.trans e6 (M := []) (by simp) (by intro x hx; rw [List.mem_singleton.1 hx]; exact .inr hsw)
        replace B2 := B2.ext e6 (by simp; omega)
        refine L.val rfl rfl (R.mv rfl) ?_
        refine L.callF rfl rfl rfl go134 (scannum_ok _ _ _ _ 2 _ S3 (by omega)) ?_
        rintro _ w7 ⟨rfl, S4, e7⟩
        rw [← hx3] at S4 ⊢
        replace E := E.trans e7 (M := []) (by simp) (by intro x hx; rw [List.mem_singleton.1 hx]; exact .inr hsw)
        replace B2 := B2.ext e7 (by simp; omega)
        refine L.val rfl rfl (R.mv rfl) ?_
        refine L.callF rfl rfl rfl go134 (scannum_ok _ _ _ _ 2 _ S4 (by omega)) ?_
        rintro _ w8 ⟨rfl, S5, e8⟩
        rw [← hx4] at S5 ⊢
        replace E := E.trans e8 (M := []) (by simp) (by intro x hx; rw [List.mem_singleton.1 hx]; exact .inr hsw)
        replace B2 := B2.ext e8 (by simp; omega)
        refine L.val rfl rfl (R.mv rfl) ?_
        refine L.callF rfl rfl rfl go189 (scantext_ok _ _ _ _ 40 _ S5 (by omega)) ?_
        rintro _ w9 ⟨a5, c5, rfl, hc5, hb5, hq5, S6, e9⟩
        rw [← hx5] at S6 hb5 hc5 ⊢
        replace E := E.trans e9 (M := []) (by simp) (by intro x hx; rw [List.mem_singleton.1 hx]; exact .inr hsw)
        replace B2 := B2.ext e9 (by simp; omega)
        have hS6 := S6.lt
        have hw9 : w2.heap.size ≤ w9.heap.size := by have := e5.size; have := e6.size; have := e7.size; have := e8.size; have := e9.size; omega
        refine L.val rfl rfl (R.build (cs := #[.int .i64 (x1.1 : Int), .int .i64 (x2.1 : Int), .int .i64 (x3.1 : Int), .int .i64 (x4.1 : Int), .slice a5 x5.1.length c5]) rfl rfl) ?_
        refine L.do rfl rfl (R.alloc) ?_
        rintro _ w10 ⟨b5, rfl, hbb5, hs10, e10, B5⟩
        have hE9 := E.size
        replace E := E.trans0 e10
        have hlt2 := B2.lt
        replace B2 := B2.ext0 e10
        replace hb5 := hb5.ext0 e10
        replace S6 := S6.ext0 e10
        refine L.set rfl (R.stN rfl rfl B5 rfl (Nat.le_refl 5) (frC_one ((x1.1 : Int), (x2.1 : Int), (x3.1 : Int), (x4.1 : Int), x5.1) a5 c5)) ?_
        rintro w11 ⟨e11, hs11, B5⟩
        replace B5 : Blk w11 b5 #[.int .i64 (x1.1 : Int), .int .i64 (x2.1 : Int), .int .i64 (x3.1 : Int), .int .i64 (x4.1 : Int), .slice a5 x5.1.length c5] 214 (0, 0) := B5
        replace E := E.trans e11 (M := []) (by simp) (by intro x hx; rw [List.mem_singleton.1 hx]; exact .inr (by omega))
        replace B2 := B2.ext e11 (by simp; omega)
        replace hb5 := hb5.ext e11 (by intro q hq hh; have h1 := hDl _ (hq5 q hq); rw [List.mem_singleton.1 hh] at h1; omega)
        replace S6 := S6.ext e11 (by simp; omega) (by intro x hx hh; have h1 := hDl _ hx; rw [List.mem_singleton.1 hh] at h1; omega)
        have hfr : #[.int .i64 (x1.1 : Int), .int .i64 (x2.1 : Int), .int .i64 (x3.1 : Int), .int .i64 (x4.1 : Int), .slice a5 x5.1.length c5] = (frC (parse (l.drop 2)).1 a5 c5) := by rw [hp5]; rfl
        rw [hfr] at B5
        have hbp : Bs w11 a5 (parse (l.drop 2)).1.2.2.2.2.length (parse (l.drop 2)).1.2.2.2.2 := by rw [hp5]; exact hb5
        refine L.nil ?_
        refine N.seq ?_
        refine G.seq ?_
        refine G.seq ?_
        refine G.region ?_
        refine L.val rfl rfl (R.mv rfl) ?_
        refine L.callF rfl rfl rfl go135 (scanerr_ok _ _ _ _ _ S6 (by omega)) ?_
        rintro _ _ ⟨rfl, hw⟩
        obtain rfl := hw.symm
        refine L.val rfl rfl (R.neI rfl rfl) ?_
        refine L.val rfl rfl (R.mv rfl) ?_
        refine L.caseP 35 rfl (fun hg7_3 => ?_) (fun hg7_3 => ?_)
        · have hnf : ¬ ((parse (l.drop 2)).2 = 0 ∧ putV (parse (l.drop 2)).1 = l) := fun h => hg7_3 (by have := h.1; rw [hp5] at this; exact this)
          refine L.pass rfl rfl ?_
          refine L.pass rfl rfl ?_
          refine L.pass rfl rfl ?_
          refine L.pass rfl rfl ?_
          refine L.pass rfl rfl ?_
          first | refine L.val rfl rfl (R.pickT rfl rfl) ?_ | refine L.val rfl rfl (R.pickF rfl rfl) ?_
          refine L.nil ?_
          refine N.seq ?_
          refine G.condT rfl ?_
          refine G.seq ?_
          refine G.region ?_
          refine L.val rfl rfl (R.build rfl rfl) ?_
          refine L.set rfl (R.stN rfl rfl B2 rfl (Nat.le_refl 5) (frC_one zeroV none 0)) ?_
          rintro w22 ⟨e22, hs22, B2⟩
          replace B2 : Blk w22 b2 (frC zeroV none 0) 214 (0, 0) := B2
          replace E := E.trans e22 (M := []) (by simp) (by intro x hx; rw [List.mem_singleton.1 hx]; exact .inr (by omega))
          refine L.val rfl rfl (R.as rfl) ?_
          refine L.nil ?_
          refine N.seq ?_
          refine G.retCT rfl rfl rfl (B2) rfl ?_
          first
            | (rw [getF_size hno]; exact ⟨none, 0, rfl, E, Bs.nil _, Nat.le_refl _, (fun p hp => by cases hp)⟩)
            | (rw [getF_sum hyes hg]; exact ⟨none, 0, rfl, E, Bs.nil _, Nat.le_refl _, (fun p hp => by cases hp)⟩)
            | (rw [getF_form hyes hg hnf]; exact ⟨none, 0, rfl, E, Bs.nil _, Nat.le_refl _, (fun p hp => by cases hp)⟩)
            | (rw [getF_form hyes hg (fun h => by have h9 := h.2; simp [h9] at h2)]; exact ⟨none, 0, rfl, E, Bs.nil _, Nat.le_refl _, (fun p hp => by cases hp)⟩)
            | (rw [getF_yes hyes hg ⟨he0, by simpa using h2⟩]; exact ⟨a5, c5, rfl, E, hbp, by rw [hp5]; exact hc5, fun p hp => ⟨by have h1 := hDs _ (hq5 p hp); omega, by have h1 := hDl _ (hq5 p hp); have := e10.size; have := e11.size; have := e12.size; have := e13.size; have := e23.size; omega⟩⟩)
        · have he0 : (parse (l.drop 2)).2 = 0 := by rw [hp5]; exact Classical.not_not.1 hg7_3
          refine L.val rfl rfl (R.ldBN rfl (by assumption) (by rfl)) ?_
          refine L.callF rfl rfl rfl go141 (fputV_ok (parse (l.drop 2)).1 _ c5 _ hbp (InV.parse _)) ?_
          rintro _ w12 ⟨a6, c6, rfl, e12, hb6, hc6⟩
          replace E := E.trans0 e12
          replace B2 := B2.ext0 e12
          replace B5 := B5.ext0 e12
          replace hbp := hbp.ext0 e12
          refine L.val rfl rfl (R.mv rfl) ?_
          refine L.callF rfl rfl rfl go190 (equal_ok _ _ _ _ _ _ _ _ _ hb6 (hb.ext0 E) (by have := putV_le (parse (l.drop 2)).1; omega)) ?_
          rintro _ w13 ⟨rfl, e13⟩
          replace E := E.trans0 e13
          replace B2 := B2.ext0 e13
          replace B5 := B5.ext0 e13
          replace hbp := hbp.ext0 e13
          refine L.val rfl rfl (R.not rfl) ?_
          first | refine L.val rfl rfl (R.pickT rfl rfl) ?_ | refine L.val rfl rfl (R.pickF rfl rfl) ?_
          refine L.nil ?_
          refine N.seq ?_
          refine G.condB rfl (fun h2 => ?_) (fun h2 => ?_)
          · refine G.seq ?_
            refine G.region ?_
            refine L.val rfl rfl (R.build rfl rfl) ?_
            refine L.set rfl (R.stN rfl rfl B2 rfl (Nat.le_refl 5) (frC_one zeroV none 0)) ?_
            rintro w22 ⟨e22, hs22, B2⟩
            replace B2 : Blk w22 b2 (frC zeroV none 0) 214 (0, 0) := B2
            replace E := E.trans e22 (M := []) (by simp) (by intro x hx; rw [List.mem_singleton.1 hx]; exact .inr (by omega))
            refine L.val rfl rfl (R.as rfl) ?_
            refine L.nil ?_
            refine N.seq ?_
            refine G.retCT rfl rfl rfl (B2) rfl ?_
            first
              | (rw [getF_size hno]; exact ⟨none, 0, rfl, E, Bs.nil _, Nat.le_refl _, (fun p hp => by cases hp)⟩)
              | (rw [getF_sum hyes hg]; exact ⟨none, 0, rfl, E, Bs.nil _, Nat.le_refl _, (fun p hp => by cases hp)⟩)
              | (rw [getF_form hyes hg hnf]; exact ⟨none, 0, rfl, E, Bs.nil _, Nat.le_refl _, (fun p hp => by cases hp)⟩)
              | (rw [getF_form hyes hg (fun h => by have h9 := h.2; simp [h9] at h2)]; exact ⟨none, 0, rfl, E, Bs.nil _, Nat.le_refl _, (fun p hp => by cases hp)⟩)
              | (rw [getF_yes hyes hg ⟨he0, by simpa using h2⟩]; exact ⟨a5, c5, rfl, E, hbp, by rw [hp5]; exact hc5, fun p hp => ⟨by have h1 := hDs _ (hq5 p hp); omega, by have h1 := hDl _ (hq5 p hp); have := e10.size; have := e11.size; have := e12.size; have := e13.size; have := e23.size; omega⟩⟩)
          · refine G.skip ?_
            refine N.seq ?_
            refine G.seq ?_
            refine G.region ?_
            refine L.val rfl rfl (R.ldBN rfl (by assumption) (by rfl)) ?_
            refine L.set rfl (R.stN rfl rfl B2 rfl (Nat.le_refl 5) (frC_one (parse (l.drop 2)).1 a5 c5)) ?_
            rintro w23 ⟨e23, hs23, B2⟩
            replace B2 : Blk w23 b2 (frC (parse (l.drop 2)).1 a5 c5) 214 (0, 0) := B2
            replace E := E.trans e23 (M := []) (by simp) (by intro x hx; rw [List.mem_singleton.1 hx]; exact .inr (by omega))
            replace hbp := hbp.ext e23 (by intro q hq hh; have h1 := hDl _ (hq5 q hq); have h2 := hDs _ (hq5 q hq); rw [List.mem_singleton.1 hh] at h1 h2; omega)
            refine L.val rfl rfl (R.as rfl) ?_
            refine L.nil ?_
            refine N.seq ?_
            refine G.retCT rfl rfl rfl (B2) rfl ?_
            first
              | (rw [getF_size hno]; exact ⟨none, 0, rfl, E, Bs.nil _, Nat.le_refl _, (fun p hp => by cases hp)⟩)
              | (rw [getF_sum hyes hg]; exact ⟨none, 0, rfl, E, Bs.nil _, Nat.le_refl _, (fun p hp => by cases hp)⟩)
              | (rw [getF_form hyes hg hnf]; exact ⟨none, 0, rfl, E, Bs.nil _, Nat.le_refl _, (fun p hp => by cases hp)⟩)
              | (rw [getF_form hyes hg (fun h => by have h9 := h.2; simp [h9] at h2)]; exact ⟨none, 0, rfl, E, Bs.nil _, Nat.le_refl _, (fun p hp => by cases hp)⟩)
              | (rw [getF_yes hyes hg ⟨he0, by simpa using h2⟩]; exact ⟨a5, c5, rfl, E, hbp, by rw [hp5]; exact hc5, fun p hp => ⟨by have h1 := hDs _ (hq5 p hp); omega, by have h1 := hDl _ (hq5 p hp); have := e10.size; have := e11.size; have := e12.size; have := e13.size; have := e23.size; omega⟩⟩)

theorem sameV_last {f g : FrV} (h1 : f.1 = g.1) (h2 : f.2.1 = g.2.1) (h3 : f.2.2.1 = g.2.2.1) (h4 : f.2.2.2.1 = g.2.2.2.1) : decide (f.2.2.2.2 = g.2.2.2.2) = decide (f = g) := by
  obtain ⟨f1, f2, f3, f4, f5⟩ := f
  obtain ⟨g1, g2, g3, g4, g5⟩ := g
  dsimp only at h1 h2 h3 h4
  subst h1; subst h2; subst h3; subst h4
  simp

theorem refget_ok (a : Option Addr) (n c : Nat) (l : List UInt8) (w : World) (hb : Bs w a n l) (hc : n ≤ c) (hn : n ≤ 70368744177664) : Meets Try.prog 137 [.slice a n c] w (fun v w' => ∃ a1 c1, v = .tuple #[.agg (frC (getF l).1 a1 c1), .int .i64 (getF l).2] ∧ Ext [] w w' ∧ Bs w' a1 (getF l).1.2.2.2.2.length (getF l).1.2.2.2.2 ∧ (getF l).1.2.2.2.2.length ≤ c1 ∧ ∀ p, a1 = some p → w.heap.size ≤ p.block ∧ p.block < w'.heap.size) := by
  refine Meets.enter Try.func137 rfl 68 rfl (Nat.le_of_ble_eq_true rfl) ?_
  have E := Ext.refl [] w
  have hl := hb.len
  refine G.seq ?_
  refine G.region ?_
  refine L.do rfl rfl (R.alloc) ?_
  rintro _ w1 ⟨b2, rfl, hb2, hs2, e1, B2⟩
  replace E := E.trans0 e1
  refine L.val rfl rfl (R.as rfl) ?_
  refine L.nil ?_
  refine N.seq ?_
  refine G.seq ?_
  refine G.seq ?_
  refine G.region ?_
  refine L.val rfl rfl (R.mv rfl) ?_
  refine L.val rfl rfl (R.lenS rfl) ?_
  refine L.val rfl rfl (R.neI rfl rfl) ?_
  refine L.val rfl rfl (R.mv rfl) ?_
  refine L.caseP 9 rfl (fun hg1_3 => ?_) (fun hg1_3 => ?_)
  · have hno : ¬ (l.length = 64 ∧ num (l.take 2) = 46878) := fun h => by omega
    refine L.pass rfl rfl ?_
    refine L.pass rfl rfl ?_
    refine L.pass rfl rfl ?_
    refine L.pass rfl rfl ?_
    first | refine L.val rfl rfl (R.pickT rfl rfl) ?_ | refine L.val rfl rfl (R.pickF rfl rfl) ?_
    refine L.val rfl rfl (R.mv rfl) ?_
    refine L.pass rfl rfl ?_
    refine L.pass rfl rfl ?_
    refine L.pass rfl rfl ?_
    refine L.pass rfl rfl ?_
    first | refine L.val rfl rfl (R.pickT rfl rfl) ?_ | refine L.val rfl rfl (R.pickF rfl rfl) ?_
    refine L.nil ?_
    refine N.seq ?_
    refine G.condT rfl ?_
    refine G.seq ?_
    refine G.region ?_
    refine L.val rfl rfl (R.build rfl rfl) ?_
    refine L.set rfl (R.stN rfl rfl B2 rfl (Nat.le_refl 5) (frC_one zeroV none 0)) ?_
    rintro w20 ⟨e20, hs20, B2⟩
    replace B2 : Blk w20 b2 (frC zeroV none 0) 214 (0, 0) := B2
    replace E := E.trans e20 (M := []) (by simp) (by intro x hx; rw [List.mem_singleton.1 hx]; exact .inr (by omega))
    refine L.val rfl rfl (R.as rfl) ?_
    refine L.nil ?_
    refine N.seq ?_
    refine G.retCT rfl rfl rfl (B2) rfl ?_
    first
      | (rw [getF_size hno]; exact ⟨none, 0, rfl, E, Bs.nil _, Nat.le_refl _, (fun p hp => by cases hp)⟩)
      | (rw [getF_sum hyes hg]; exact ⟨none, 0, rfl, E, Bs.nil _, Nat.le_refl _, (fun p hp => by cases hp)⟩)
      | (rw [getF_form hyes hg hnf]; exact ⟨none, 0, rfl, E, Bs.nil _, Nat.le_refl _, (fun p hp => by cases hp)⟩)
      | (rw [getF_yes hyes hg ⟨he0, hfy⟩]; exact ⟨_, c5, rfl, E, hbp, hcp, fun p hp => by cases hp; exact ⟨hb47g, hb47l⟩⟩)
  · have h64 : l.length = 64 := by omega
    obtain ⟨p0, hp0, hc0⟩ := hb.at 0 (by omega)
    obtain ⟨p1, hp1, hc1⟩ := hb.at 1 (by omega)
    have hte := num_two_eq (l := l) (by omega)
    refine L.val rfl rfl (R.mv rfl) ?_
    refine L.val rfl rfl (R.idx rfl rfl (by omega) (by omega) p0 hp0) ?_
    refine L.val rfl rfl (R.ld rfl (cell?_ext0' hc0 E)) ?_
    refine L.val rfl rfl (R.neI rfl rfl) ?_
    first | refine L.val rfl rfl (R.pickT rfl rfl) ?_ | refine L.val rfl rfl (R.pickF rfl rfl) ?_
    refine L.val rfl rfl (R.mv rfl) ?_
    refine L.caseP 15 rfl (fun hg1_9 => ?_) (fun hg1_9 => ?_)
    · have hno : ¬ (l.length = 64 ∧ num (l.take 2) = 46878) := fun h => hg1_9 (by rw [(hte.1 h.2).1]; rfl)
      refine L.pass rfl rfl ?_
      refine L.pass rfl rfl ?_
      refine L.pass rfl rfl ?_
      refine L.pass rfl rfl ?_
      first | refine L.val rfl rfl (R.pickT rfl rfl) ?_ | refine L.val rfl rfl (R.pickF rfl rfl) ?_
      refine L.nil ?_
      refine N.seq ?_
      refine G.condT rfl ?_
      refine G.seq ?_
      refine G.region ?_
      refine L.val rfl rfl (R.build rfl rfl) ?_
      refine L.set rfl (R.stN rfl rfl B2 rfl (Nat.le_refl 5) (frC_one zeroV none 0)) ?_
      rintro w20 ⟨e20, hs20, B2⟩
      replace B2 : Blk w20 b2 (frC zeroV none 0) 214 (0, 0) := B2
      replace E := E.trans e20 (M := []) (by simp) (by intro x hx; rw [List.mem_singleton.1 hx]; exact .inr (by omega))
      refine L.val rfl rfl (R.as rfl) ?_
      refine L.nil ?_
      refine N.seq ?_
      refine G.retCT rfl rfl rfl (B2) rfl ?_
      first
        | (rw [getF_size hno]; exact ⟨none, 0, rfl, E, Bs.nil _, Nat.le_refl _, (fun p hp => by cases hp)⟩)
        | (rw [getF_sum hyes hg]; exact ⟨none, 0, rfl, E, Bs.nil _, Nat.le_refl _, (fun p hp => by cases hp)⟩)
        | (rw [getF_form hyes hg hnf]; exact ⟨none, 0, rfl, E, Bs.nil _, Nat.le_refl _, (fun p hp => by cases hp)⟩)
        | (rw [getF_yes hyes hg ⟨he0, hfy⟩]; exact ⟨_, c5, rfl, E, hbp, hcp, fun p hp => by cases hp; exact ⟨hb47g, hb47l⟩⟩)
    · have h183 : l[0] = 183 := UInt8.toNat_inj.1 (show l[0].toNat = 183 by omega)
      refine L.val rfl rfl (R.mv rfl) ?_
      refine L.val rfl rfl (R.idx rfl rfl (by omega) (by omega) p1 hp1) ?_
      refine L.val rfl rfl (R.ld rfl (cell?_ext0' hc1 E)) ?_
      refine L.val rfl rfl (R.neI rfl rfl) ?_
      first | refine L.val rfl rfl (R.pickT rfl rfl) ?_ | refine L.val rfl rfl (R.pickF rfl rfl) ?_
      refine L.nil ?_
      refine N.seq ?_
      refine G.condP rfl (fun h0 => ?_) (fun h0 => ?_)
      · have hno : ¬ (l.length = 64 ∧ num (l.take 2) = 46878) := fun h => h0 (by rw [(hte.1 h.2).2]; rfl)
        refine G.seq ?_
        refine G.region ?_
        refine L.val rfl rfl (R.build rfl rfl) ?_
        refine L.set rfl (R.stN rfl rfl B2 rfl (Nat.le_refl 5) (frC_one zeroV none 0)) ?_
        rintro w20 ⟨e20, hs20, B2⟩
        replace B2 : Blk w20 b2 (frC zeroV none 0) 214 (0, 0) := B2
        replace E := E.trans e20 (M := []) (by simp) (by intro x hx; rw [List.mem_singleton.1 hx]; exact .inr (by omega))
        refine L.val rfl rfl (R.as rfl) ?_
        refine L.nil ?_
        refine N.seq ?_
        refine G.retCT rfl rfl rfl (B2) rfl ?_
        first
          | (rw [getF_size hno]; exact ⟨none, 0, rfl, E, Bs.nil _, Nat.le_refl _, (fun p hp => by cases hp)⟩)
          | (rw [getF_sum hyes hg]; exact ⟨none, 0, rfl, E, Bs.nil _, Nat.le_refl _, (fun p hp => by cases hp)⟩)
          | (rw [getF_form hyes hg hnf]; exact ⟨none, 0, rfl, E, Bs.nil _, Nat.le_refl _, (fun p hp => by cases hp)⟩)
          | (rw [getF_yes hyes hg ⟨he0, hfy⟩]; exact ⟨_, c5, rfl, E, hbp, hcp, fun p hp => by cases hp; exact ⟨hb47g, hb47l⟩⟩)
      · have h30 : l[1] = 30 := UInt8.toNat_inj.1 (show l[1].toNat = 30 by omega)
        have hyes : l.length = 64 ∧ num (l.take 2) = 46878 := ⟨h64, hte.2 ⟨h183, h30⟩⟩
        refine G.skip ?_
        refine N.seq ?_
        refine G.seq ?_
        refine G.seq ?_
        refine G.quiet (by decide +kernel) rfl ?_
        refine Q.val rfl rfl rfl rfl (fun w2 hE => R.mv rfl) ?_
        refine Q.call (.string (str (markF l))) rfl rfl rfl go186 (fun w2 hE => ⟨_, rfl, (refmark_ok _ _ _ _ _ (hb.ext0 (E.trans0 hE)) hc (by omega)).mono (fun _ _ h => h)⟩) ?_
        refine Q.val rfl rfl rfl rfl (fun w2 hE => R.mv rfl) ?_
        refine Q.val rfl rfl rfl rfl (fun w2 hE => R.bytesStr rfl (hb.ext0 (E.trans0 hE)).cells hb.len) ?_
        refine Q.val rfl rfl rfl rfl (fun w2 hE => R.neStr rfl rfl) ?_
        refine Q.nil (fun w2 e2 => ?_)
        replace E := E.trans0 e2
        have B2 := B2.ext0 e2
        refine N.seq ?_
        refine G.condP rfl (fun h1 => ?_) (fun h1 => ?_)
        · have hg : goodF l = false := by unfold goodF; rw [decide_eq_false (p := markF l = l) h1, Bool.and_false]
          refine G.seq ?_
          refine G.region ?_
          refine L.val rfl rfl (R.build rfl rfl) ?_
          refine L.set rfl (R.stN rfl rfl B2 rfl (Nat.le_refl 5) (frC_one zeroV none 0)) ?_
          rintro w21 ⟨e21, hs21, B2⟩
          replace B2 : Blk w21 b2 (frC zeroV none 0) 214 (0, 0) := B2
          replace E := E.trans e21 (M := []) (by simp) (by intro x hx; rw [List.mem_singleton.1 hx]; exact .inr (by omega))
          refine L.val rfl rfl (R.as rfl) ?_
          refine L.nil ?_
          refine N.seq ?_
          refine G.retCT rfl rfl rfl (B2) rfl ?_
          first
            | (rw [getF_size hno]; exact ⟨none, 0, rfl, E, Bs.nil _, Nat.le_refl _, (fun p hp => by cases hp)⟩)
            | (rw [getF_sum hyes hg]; exact ⟨none, 0, rfl, E, Bs.nil _, Nat.le_refl _, (fun p hp => by cases hp)⟩)
            | (rw [getF_form hyes hg hnf]; exact ⟨none, 0, rfl, E, Bs.nil _, Nat.le_refl _, (fun p hp => by cases hp)⟩)
            | (rw [getF_yes hyes hg ⟨he0, hfy⟩]; exact ⟨_, c5, rfl, E, hbp, hcp, fun p hp => by cases hp; exact ⟨hb47g, hb47l⟩⟩)
        · have hg : goodF l = true := by unfold goodF; rw [decide_eq_true (p := markF l = l) (Classical.not_not.1 h1), decide_eq_true (by omega)]; rfl
          obtain ⟨x1, hx1⟩ : ∃ x, x = numF (l.drop 2) 0 8 := ⟨_, rfl⟩
          obtain ⟨x2, hx2⟩ : ∃ x, x = numF x1.2.1 x1.2.2 4 := ⟨_, rfl⟩
          obtain ⟨x3, hx3⟩ : ∃ x, x = numF x2.2.1 x2.2.2 2 := ⟨_, rfl⟩
          obtain ⟨x4, hx4⟩ : ∃ x, x = numF x3.2.1 x3.2.2 2 := ⟨_, rfl⟩
          obtain ⟨x5, hx5⟩ : ∃ x, x = txtF x4.2.1 x4.2.2 40 := ⟨_, rfl⟩
          have hp5 : parse (l.drop 2) = (((x1.1 : Int), (x2.1 : Int), (x3.1 : Int), (x4.1 : Int), x5.1), x5.2.2) := by rw [hx5, hx4, hx3, hx2, hx1]; rfl
          have hd : (l.drop 2).length ≤ 64 := by rw [List.length_drop]; omega
          have z1 : x1.2.1.length ≤ 64 := by rw [hx1]; exact Nat.le_trans (numF_length _ _ _) hd
          have z2 : x2.2.1.length ≤ 64 := by rw [hx2]; exact Nat.le_trans (numF_length _ _ _) z1
          have z3 : x3.2.1.length ≤ 64 := by rw [hx3]; exact Nat.le_trans (numF_length _ _ _) z2
          have z4 : x4.2.1.length ≤ 64 := by rw [hx4]; exact Nat.le_trans (numF_length _ _ _) z3
          have z5 : x5.1.length ≤ 40 := by rw [hx5]; exact txtF_most _ _
          have z6 : x5.2.1.length ≤ 64 := by rw [hx5]; exact Nat.le_trans (txtF_length _ _ _) z4
          refine G.skip ?_
          refine N.seq ?_
          refine G.seq ?_
          refine G.region ?_
          refine L.val rfl rfl (R.mv rfl) ?_
          refine L.val rfl rfl (R.slL rfl rfl (by decide) (by show (2 : Int) ≤ _; omega)) ?_
          refine L.val rfl rfl (R.bytesStr rfl ((hb.drop 2 c (by omega) hc).ext0 E).cells (by rw [List.length_drop]; show n - 2 = _; omega)) ?_
          refine L.val rfl rfl (R.build rfl rfl) ?_
          refine L.do rfl rfl (R.box rfl) ?_
          rintro _ w3 ⟨s, rfl, hbs, hss, e3, BS⟩
          replace BS : Blk w3 s #[.string (str (l.drop 2)), .int .i64 0] 224 (0, 0) := BS
          have hE2 := E.size
          have hlt2 := B2.lt
          replace E := E.trans0 e3
          replace B2 := B2.ext0 e3
          refine L.val rfl rfl (R.as rfl) ?_
          refine L.nil ?_
          refine N.seq ?_
          refine G.seq ?_
          refine G.region ?_
          refine L.do rfl rfl (R.alloc) ?_
          rintro _ w4 ⟨b5, rfl, hbb5, hs4, e4, B5⟩
          replace B5 : Blk w4 b5 #[.int .i64 0, .int .i64 0, .int .i64 0, .int .i64 0, .slice none 0 0] 214 (0, 0) := B5
          replace E := E.trans0 e4
          replace B2 := B2.ext0 e4
          replace BS := BS.ext0 e4
          refine L.nil ?_
          refine N.seq ?_
          refine G.seq ?_
          refine G.region ?_
          refine L.val rfl rfl (R.mv rfl) ?_
          refine L.callF rfl rfl rfl go138 (refnum_ok _ _ _ 8 _ BS (by omega)) ?_
          rintro _ w5 ⟨rfl, BS, e5⟩
          rw [← hx1] at BS ⊢
          replace E := E.trans e5 (M := []) (by simp) (by intro x hx; rw [List.mem_singleton.1 hx]; exact .inr (by omega))
          replace B2 := B2.ext e5 (by simp; omega)
          replace B5 := B5.ext e5 (by simp; omega)
          refine L.val rfl rfl (R.fld rfl) ?_
          refine L.set rfl (R.st rfl rfl B5 (by show 0 < 5; decide) rfl) ?_
          rintro w6 ⟨e6, hs6, B5⟩
          replace B5 : Blk w6 b5 #[.int .i64 (x1.1 : Int), .int .i64 0, .int .i64 0, .int .i64 0, .slice none 0 0] 214 (0, 0) := B5
          replace E := E.trans e6 (M := []) (by simp) (by intro x hx; rw [List.mem_singleton.1 hx]; exact .inr (by omega))
          replace B2 := B2.ext e6 (by simp; omega)
          replace BS := BS.ext e6 (by simp; omega)
          refine L.nil ?_
          refine N.seq ?_
          refine G.seq ?_
          refine G.region ?_
          refine L.val rfl rfl (R.mv rfl) ?_
          refine L.callF rfl rfl rfl go138 (refnum_ok _ _ _ 4 _ BS (by omega)) ?_
          rintro _ w7 ⟨rfl, BS, e7⟩
          rw [← hx2] at BS ⊢
          replace E := E.trans e7 (M := []) (by simp) (by intro x hx; rw [List.mem_singleton.1 hx]; exact .inr (by omega))
          replace B2 := B2.ext e7 (by simp; omega)
          replace B5 := B5.ext e7 (by simp; omega)
          refine L.val rfl rfl (R.fld rfl) ?_
          refine L.set rfl (R.st rfl rfl B5 (by show 1 < 5; decide) rfl) ?_
          rintro w8 ⟨e8, hs8, B5⟩
          replace B5 : Blk w8 b5 #[.int .i64 (x1.1 : Int), .int .i64 (x2.1 : Int), .int .i64 0, .int .i64 0, .slice none 0 0] 214 (0, 0) := B5
          replace E := E.trans e8 (M := []) (by simp) (by intro x hx; rw [List.mem_singleton.1 hx]; exact .inr (by omega))
          replace B2 := B2.ext e8 (by simp; omega)
          replace BS := BS.ext e8 (by simp; omega)
          refine L.nil ?_
          refine N.seq ?_
          refine G.seq ?_
          refine G.region ?_
          refine L.val rfl rfl (R.mv rfl) ?_
          refine L.callF rfl rfl rfl go138 (refnum_ok _ _ _ 2 _ BS (by omega)) ?_
          rintro _ w9 ⟨rfl, BS, e9⟩
          rw [← hx3] at BS ⊢
          replace E := E.trans e9 (M := []) (by simp) (by intro x hx; rw [List.mem_singleton.1 hx]; exact .inr (by omega))
          replace B2 := B2.ext e9 (by simp; omega)
          replace B5 := B5.ext e9 (by simp; omega)
          refine L.val rfl rfl (R.fld rfl) ?_
          refine L.set rfl (R.st rfl rfl B5 (by show 2 < 5; decide) rfl) ?_
          rintro w10 ⟨e10, hs10, B5⟩
          replace B5 : Blk w10 b5 #[.int .i64 (x1.1 : Int), .int .i64 (x2.1 : Int), .int .i64 (x3.1 : Int), .int .i64 0, .slice none 0 0] 214 (0, 0) := B5
          replace E := E.trans e10 (M := []) (by simp) (by intro x hx; rw [List.mem_singleton.1 hx]; exact .inr (by omega))
          replace B2 := B2.ext e10 (by simp; omega)
          replace BS := BS.ext e10 (by simp; omega)
          refine L.nil ?_
          refine N.seq ?_
          refine G.seq ?_
          refine G.region ?_
          refine L.val rfl rfl (R.mv rfl) ?_
          refine L.callF rfl rfl rfl go138 (refnum_ok _ _ _ 2 _ BS (by omega)) ?_
          rintro _ w11 ⟨rfl, BS, e11⟩
          rw [← hx4] at BS ⊢
          replace E := E.trans e11 (M := []) (by simp) (by intro x hx; rw [List.mem_singleton.1 hx]; exact .inr (by omega))
          replace B2 := B2.ext e11 (by simp; omega)
          replace B5 := B5.ext e11 (by simp; omega)
          refine L.val rfl rfl (R.fld rfl) ?_
          refine L.set rfl (R.st rfl rfl B5 (by show 3 < 5; decide) rfl) ?_
          rintro w12 ⟨e12, hs12, B5⟩
          replace B5 : Blk w12 b5 #[.int .i64 (x1.1 : Int), .int .i64 (x2.1 : Int), .int .i64 (x3.1 : Int), .int .i64 (x4.1 : Int), .slice none 0 0] 214 (0, 0) := B5
          replace E := E.trans e12 (M := []) (by simp) (by intro x hx; rw [List.mem_singleton.1 hx]; exact .inr (by omega))
          replace B2 := B2.ext e12 (by simp; omega)
          replace BS := BS.ext e12 (by simp; omega)
          refine L.nil ?_
          refine N.seq ?_
          refine G.seq ?_
          refine G.region ?_
          refine L.val rfl rfl (R.mv rfl) ?_
          refine L.callF rfl rfl rfl go192 (reftxt_ok _ _ _ 40 _ BS (by omega)) ?_
          rintro _ w13 ⟨rfl, BS, e13⟩
          rw [← hx5] at BS ⊢
          replace E := E.trans e13 (M := []) (by simp) (by intro x hx; rw [List.mem_singleton.1 hx]; exact .inr (by omega))
          replace B2 := B2.ext e13 (by simp; omega)
          replace B5 := B5.ext e13 (by simp; omega)
          refine L.do rfl rfl (R.strBytes rfl) ?_
          rintro _ w14 ⟨b47, c5, rfl, hb47, hs47, hc5, e14, C47⟩
          have hl5 := B5.lt
          have hE13 := E.size
          replace E := E.trans0 e14
          replace B2 := B2.ext0 e14
          replace BS := BS.ext0 e14
          replace B5 := B5.ext0 e14
          refine L.val rfl rfl (R.fld rfl) ?_
          refine L.set rfl (R.st rfl rfl B5 (by show 4 < 5; decide) rfl) ?_
          rintro w15 ⟨e15, hs15, B5⟩
          replace B5 : Blk w15 b5 #[.int .i64 (x1.1 : Int), .int .i64 (x2.1 : Int), .int .i64 (x3.1 : Int), .int .i64 (x4.1 : Int), .slice (some ⟨b47, 0, none⟩) x5.1.length c5] 214 (0, 0) := B5
          replace E := E.trans e15 (M := []) (by simp) (by intro x hx; rw [List.mem_singleton.1 hx]; exact .inr (by omega))
          replace B2 := B2.ext e15 (by simp; omega)
          replace BS := BS.ext e15 (by simp; omega)
          have hb47g : w.heap.size ≤ b47 := by have := hE13; omega
          have hb47l : b47 < w15.heap.size := by have := e15.size; omega
          replace B5 : Blk w15 b5 #[.int .i64 (x1.1 : Int), .int .i64 (x2.1 : Int), .int .i64 (x3.1 : Int), .int .i64 (x4.1 : Int), .slice (some ⟨b47, 0, none⟩) x5.1.length c5] 214 (0, 0) := B5
          have hfr : #[.int .i64 (x1.1 : Int), .int .i64 (x2.1 : Int), .int .i64 (x3.1 : Int), .int .i64 (x4.1 : Int), .slice (some ⟨b47, 0, none⟩) x5.1.length c5] = (frC (parse (l.drop 2)).1 (some ⟨b47, 0, none⟩) c5) := by rw [hp5]; rfl
          rw [hfr] at B5
          have hb47 := Bs.of_cells (C47.ext e15 (by intro q hq hh; cases hq; rw [List.mem_singleton] at hh; simp at hh; omega)) rfl
          have hbp : Bs w15 (some ⟨b47, 0, none⟩) (parse (l.drop 2)).1.2.2.2.2.length (parse (l.drop 2)).1.2.2.2.2 := by rw [hp5]; exact hb47
          have hcp : (parse (l.drop 2)).1.2.2.2.2.length ≤ c5 := by rw [hp5]; exact hc5
          refine L.nil ?_
          refine N.seq ?_
          refine G.seq ?_
          refine G.seq ?_
          refine G.quiet (by decide +kernel) rfl ?_
          refine Q.val rfl rfl rfl rfl (fun w16 hE => R.mv rfl) ?_
          refine Q.val rfl rfl rfl rfl (fun w16 hE => R.nilChk rfl) ?_
          refine Q.val rfl rfl rfl rfl (fun w16 hE => R.fld rfl) ?_
          refine Q.val rfl rfl rfl rfl (fun w16 hE => R.ldB rfl (BS.ext0 hE) rfl) ?_
          refine Q.val rfl rfl rfl rfl (fun w16 hE => R.neI rfl rfl) ?_
          refine Q.val rfl rfl rfl rfl (fun w16 hE => R.mv rfl) ?_
          refine Q.caseP 54 rfl (fun hg12_5 => ?_) (fun hg12_5 => ?_)
          · have hnf : ¬ ((parse (l.drop 2)).2 = 0 ∧ putV (parse (l.drop 2)).1 = l) := fun h => hg12_5 (by have := h.1; rw [hp5] at this; exact this)
            refine Q.pass rfl rfl rfl ?_
            refine Q.pass rfl rfl rfl ?_
            refine Q.pass rfl rfl rfl ?_
            first | refine Q.val rfl rfl rfl rfl (fun w16 hE => R.pickT rfl rfl) ?_ | refine Q.val rfl rfl rfl rfl (fun w16 hE => R.pickF rfl rfl) ?_
            refine Q.val rfl rfl rfl rfl (fun w16 hE => R.mv rfl) ?_
            refine Q.pass rfl rfl rfl ?_
            refine Q.pass rfl rfl rfl ?_
            refine Q.pass rfl rfl rfl ?_
            refine Q.pass rfl rfl rfl ?_
            refine Q.pass rfl rfl rfl ?_
            first | refine Q.val rfl rfl rfl rfl (fun w16 hE => R.pickT rfl rfl) ?_ | refine Q.val rfl rfl rfl rfl (fun w16 hE => R.pickF rfl rfl) ?_
            refine Q.nil (fun w16 e16 => ?_)
            replace E := E.trans0 e16
            have hb47l := Nat.lt_of_lt_of_le hb47l e16.size
            have B2 := B2.ext0 e16
            have B5 := B5.ext0 e16
            have hbp := hbp.ext0 e16
            refine N.seq ?_
            refine G.condT rfl ?_
            refine G.seq ?_
            refine G.region ?_
            refine L.val rfl rfl (R.build rfl rfl) ?_
            refine L.set rfl (R.stN rfl rfl B2 rfl (Nat.le_refl 5) (frC_one zeroV none 0)) ?_
            rintro w22 ⟨e22, hs22, B2⟩
            replace B2 : Blk w22 b2 (frC zeroV none 0) 214 (0, 0) := B2
            replace E := E.trans e22 (M := []) (by simp) (by intro x hx; rw [List.mem_singleton.1 hx]; exact .inr (by omega))
            refine L.val rfl rfl (R.as rfl) ?_
            refine L.nil ?_
            refine N.seq ?_
            refine G.retCT rfl rfl rfl (B2) rfl ?_
            first
              | (rw [getF_size hno]; exact ⟨none, 0, rfl, E, Bs.nil _, Nat.le_refl _, (fun p hp => by cases hp)⟩)
              | (rw [getF_sum hyes hg]; exact ⟨none, 0, rfl, E, Bs.nil _, Nat.le_refl _, (fun p hp => by cases hp)⟩)
              | (rw [getF_form hyes hg hnf]; exact ⟨none, 0, rfl, E, Bs.nil _, Nat.le_refl _, (fun p hp => by cases hp)⟩)
              | (rw [getF_yes hyes hg ⟨he0, hfy⟩]; exact ⟨_, c5, rfl, E, hbp, hcp, fun p hp => by cases hp; exact ⟨hb47g, hb47l⟩⟩)
          · have he0 : (parse (l.drop 2)).2 = 0 := by rw [hp5]; exact Classical.not_not.1 hg12_5
            refine Q.val rfl rfl rfl rfl (fun w16 hE => R.ldBN rfl (B5.ext0 hE) rfl) ?_
            refine Q.call (.bool (decide (okV (parse (l.drop 2)).1))) rfl rfl rfl go193 (fun w16 hE => ⟨_, rfl, (rrightV_ok _ _ _ _ (InV.parse _)).mono (fun _ _ h => h)⟩) ?_
            refine Q.val rfl rfl rfl rfl (fun w16 hE => R.not rfl) ?_
            first | refine Q.val rfl rfl rfl rfl (fun w16 hE => R.pickT rfl rfl) ?_ | refine Q.val rfl rfl rfl rfl (fun w16 hE => R.pickF rfl rfl) ?_
            refine Q.val rfl rfl rfl rfl (fun w16 hE => R.mv rfl) ?_
            refine Q.caseB 59 rfl (fun hg12_10 => ?_) (fun hg12_10 => ?_)
            · have hnk : ¬ okV (parse (l.drop 2)).1 := by simpa using hg12_10
              have hnf : ¬ ((parse (l.drop 2)).2 = 0 ∧ putV (parse (l.drop 2)).1 = l) := fun h => by have h9 := h.2; unfold putV at h9; rw [if_neg hnk] at h9; rw [← h9] at h64; cases h64
              refine Q.pass rfl rfl rfl ?_
              refine Q.pass rfl rfl rfl ?_
              refine Q.pass rfl rfl rfl ?_
              refine Q.pass rfl rfl rfl ?_
              refine Q.pass rfl rfl rfl ?_
              first | refine Q.val rfl rfl rfl rfl (fun w16 hE => R.pickT rfl rfl) ?_ | refine Q.val rfl rfl rfl rfl (fun w16 hE => R.pickF rfl rfl) ?_
              refine Q.nil (fun w16 e16 => ?_)
              replace E := E.trans0 e16
              have hb47l := Nat.lt_of_lt_of_le hb47l e16.size
              have B2 := B2.ext0 e16
              have B5 := B5.ext0 e16
              have hbp := hbp.ext0 e16
              refine N.seq ?_
              refine G.condT rfl ?_
              refine G.seq ?_
              refine G.region ?_
              refine L.val rfl rfl (R.build rfl rfl) ?_
              refine L.set rfl (R.stN rfl rfl B2 rfl (Nat.le_refl 5) (frC_one zeroV none 0)) ?_
              rintro w22 ⟨e22, hs22, B2⟩
              replace B2 : Blk w22 b2 (frC zeroV none 0) 214 (0, 0) := B2
              replace E := E.trans e22 (M := []) (by simp) (by intro x hx; rw [List.mem_singleton.1 hx]; exact .inr (by omega))
              refine L.val rfl rfl (R.as rfl) ?_
              refine L.nil ?_
              refine N.seq ?_
              refine G.retCT rfl rfl rfl (B2) rfl ?_
              first
                | (rw [getF_size hno]; exact ⟨none, 0, rfl, E, Bs.nil _, Nat.le_refl _, (fun p hp => by cases hp)⟩)
                | (rw [getF_sum hyes hg]; exact ⟨none, 0, rfl, E, Bs.nil _, Nat.le_refl _, (fun p hp => by cases hp)⟩)
                | (rw [getF_form hyes hg hnf]; exact ⟨none, 0, rfl, E, Bs.nil _, Nat.le_refl _, (fun p hp => by cases hp)⟩)
                | (rw [getF_yes hyes hg ⟨he0, hfy⟩]; exact ⟨_, c5, rfl, E, hbp, hcp, fun p hp => by cases hp; exact ⟨hb47g, hb47l⟩⟩)
            · have hok : okV (parse (l.drop 2)).1 := by simpa using hg12_10
              have hpv : putV (parse (l.drop 2)).1 = secV (parse (l.drop 2)).1 := if_pos hok
              refine Q.val rfl rfl rfl rfl (fun w16 hE => R.ldBN rfl (B5.ext0 hE) rfl) ?_
              refine Q.call (.string (str (secV (parse (l.drop 2)).1))) rfl rfl rfl go131 (fun w16 hE => ⟨_, rfl, (rputV_ok _ _ _ _ hok (hbp.ext0 hE) hcp).mono (fun _ _ h => h)⟩) ?_
              refine Q.val rfl rfl rfl rfl (fun w16 hE => R.mv rfl) ?_
              refine Q.val rfl rfl rfl rfl (fun w16 hE => R.bytesStr rfl (hb.ext0 (E.trans0 hE)).cells hb.len) ?_
              refine Q.val rfl rfl rfl rfl (fun w16 hE => R.neStr rfl rfl) ?_
              first | refine Q.val rfl rfl rfl rfl (fun w16 hE => R.pickT rfl rfl) ?_ | refine Q.val rfl rfl rfl rfl (fun w16 hE => R.pickF rfl rfl) ?_
              refine Q.nil (fun w16 e16 => ?_)
              replace E := E.trans0 e16
              have hb47l := Nat.lt_of_lt_of_le hb47l e16.size
              have B2 := B2.ext0 e16
              have B5 := B5.ext0 e16
              have hbp := hbp.ext0 e16
              refine N.seq ?_
              refine G.condP rfl (fun h2 => ?_) (fun h2 => ?_)
              · have hnf : ¬ ((parse (l.drop 2)).2 = 0 ∧ putV (parse (l.drop 2)).1 = l) := fun h => h2 (hpv.symm.trans h.2)
                refine G.seq ?_
                refine G.region ?_
                refine L.val rfl rfl (R.build rfl rfl) ?_
                refine L.set rfl (R.stN rfl rfl B2 rfl (Nat.le_refl 5) (frC_one zeroV none 0)) ?_
                rintro w22 ⟨e22, hs22, B2⟩
                replace B2 : Blk w22 b2 (frC zeroV none 0) 214 (0, 0) := B2
                replace E := E.trans e22 (M := []) (by simp) (by intro x hx; rw [List.mem_singleton.1 hx]; exact .inr (by omega))
                refine L.val rfl rfl (R.as rfl) ?_
                refine L.nil ?_
                refine N.seq ?_
                refine G.retCT rfl rfl rfl (B2) rfl ?_
                first
                  | (rw [getF_size hno]; exact ⟨none, 0, rfl, E, Bs.nil _, Nat.le_refl _, (fun p hp => by cases hp)⟩)
                  | (rw [getF_sum hyes hg]; exact ⟨none, 0, rfl, E, Bs.nil _, Nat.le_refl _, (fun p hp => by cases hp)⟩)
                  | (rw [getF_form hyes hg hnf]; exact ⟨none, 0, rfl, E, Bs.nil _, Nat.le_refl _, (fun p hp => by cases hp)⟩)
                  | (rw [getF_yes hyes hg ⟨he0, hfy⟩]; exact ⟨_, c5, rfl, E, hbp, hcp, fun p hp => by cases hp; exact ⟨hb47g, hb47l⟩⟩)
              · have hfy : putV (parse (l.drop 2)).1 = l := hpv.trans (Classical.not_not.1 h2)
                refine G.skip ?_
                refine N.seq ?_
                refine G.seq ?_
                refine G.region ?_
                refine L.val rfl rfl (R.ldBN rfl (by assumption) (by rfl)) ?_
                refine L.set rfl (R.stN rfl rfl B2 rfl (Nat.le_refl 5) (frC_one (parse (l.drop 2)).1 (some ⟨b47, 0, none⟩) c5)) ?_
                rintro w23 ⟨e23, hs23, B2⟩
                replace B2 : Blk w23 b2 (frC (parse (l.drop 2)).1 (some ⟨b47, 0, none⟩) c5) 214 (0, 0) := B2
                replace E := E.trans e23 (M := []) (by simp) (by intro x hx; rw [List.mem_singleton.1 hx]; exact .inr (by omega))
                replace hb47l := Nat.lt_of_lt_of_le hb47l e23.size
                replace hbp := hbp.ext e23 (by intro q hq hh; cases hq; rw [List.mem_singleton] at hh; simp at hh; omega)
                refine L.val rfl rfl (R.as rfl) ?_
                refine L.nil ?_
                refine N.seq ?_
                refine G.retCT rfl rfl rfl (B2) rfl ?_
                first
                  | (rw [getF_size hno]; exact ⟨none, 0, rfl, E, Bs.nil _, Nat.le_refl _, (fun p hp => by cases hp)⟩)
                  | (rw [getF_sum hyes hg]; exact ⟨none, 0, rfl, E, Bs.nil _, Nat.le_refl _, (fun p hp => by cases hp)⟩)
                  | (rw [getF_form hyes hg hnf]; exact ⟨none, 0, rfl, E, Bs.nil _, Nat.le_refl _, (fun p hp => by cases hp)⟩)
                  | (rw [getF_yes hyes hg ⟨he0, hfy⟩]; exact ⟨_, c5, rfl, E, hbp, hcp, fun p hp => by cases hp; exact ⟨hb47g, hb47l⟩⟩)

end Go.Proofs.Ythpolibakkmmeaa
/-
  Regions that draw their order, but end with one operation that comes behind all others: that one is walked last. Operations that make something new, at whatever stage.
-/
set_option linter.unusedVariables false
namespace Brv
open Go
/-- The last operation comes behind all others; the others look back only. -/
def chkLast (pre : List Oper) (o : Oper) : Bool :=
  (List.range pre.length).all (fun j => o.after.toList.any fun e => bindsAny e && Nat.beq e.on j) && o.after.toList.all (fun e => !bindsAny e || Nat.blt e.on pre.length) &&
  pre.zipIdx.all (fun p => p.1.after.toList.all (fun e => !bindsAny e || Nat.blt e.on p.2) && (match p.1.guard with | some (j, _) => Nat.blt j pre.length | none => true))
section
variable {P : Program} {F : Fence} {m : Nat}
theorem wpIn_then {o : Oper} {a : Act} {w : World} {K J : Act → World → Prop} {Q : Exit → Act → World → Prop} (h : o.wpIn F m P a w K (Exit.then J Q)) : o.wpIn F m P a w K Q := by
  unfold Oper.wpIn at h ⊢
  refine ⟨h.1, ?_⟩
  have h2 := h.2
  generalize (o.semAt F.round a.eval).run P w = r at h2 ⊢
  cases r with
  | ok x w' =>
    cases x
    all_goals first
      | exact h2
      | (refine ⟨h2.1, CallsIn.mono h2.2 fun e w2 he => ?_⟩
         cases e <;> exact he)
      | (refine ⟨h2.1, RoundIn.mono h2.2 fun e w2 he => ?_⟩
         cases e <;> exact he)
  | halt x w' => cases x <;> exact h2
theorem ready_nil {pre : List Oper} {listed : Array Bool} (hs : listed.size = pre.length) (hb : ∀ (i : Nat) (o : Oper), pre[i]? = some o → ∀ e ∈ o.after.toList, bindsAny e = true → e.on < i) (h : Region.ready .any pre.toArray listed = []) : ∀ i, i < pre.length → listed[i]? = some true := by
  intro i
  induction i using Nat.strongRecOn with
  | _ i ih =>
    intro hi
    refine Classical.byContradiction fun hne => ?_
    have hmem : i ∈ Region.ready .any pre.toArray listed := by
      simp only [Region.ready, List.mem_filter, List.mem_range, Bool.and_eq_true]
      refine ⟨by simpa using hi, ?_, ?_⟩
      · have hlt : i < listed.size := by omega
        rw [Array.getD_eq_getD_getElem?, Array.getElem?_eq_getElem hlt]
        rw [Array.getElem?_eq_getElem hlt] at hne
        cases hv : listed[i] with
        | true => rw [hv] at hne; exact absurd rfl hne
        | false => rfl
      · rw [List.getElem?_toArray, List.getElem?_eq_getElem hi]
        simp only [Option.map_some, Option.getD_some]
        rw [Array.all_eq_true_iff_forall_mem]
        intro e he
        cases hq : Region.binds .any e with
        | false => rfl
        | true =>
          have hlt := hb i _ (List.getElem?_eq_getElem hi) e (by simpa using he) hq
          have := ih e.on hlt (by omega)
          simp [Array.getD_eq_getD_getElem?, this]
    rw [h] at hmem; cases hmem
theorem push_getD {listed : Array Bool} {k : Nat} : (listed.push false).getD k false = listed.getD k false := by
  simp only [Array.getD_eq_getD_getElem?, Array.getElem?_push]
  split
  · rename_i h; subst h; simp
  · rfl
theorem wpAny_last {pre : List Oper} {o : Oper} {Q : Exit → Act → World → Prop} (hb : ∀ (i : Nat) (o : Oper), pre[i]? = some o → (∀ e ∈ o.after.toList, bindsAny e = true → e.on < i) ∧ ∀ j b, o.guard = some (j, b) → j < pre.length)
    (hl : ∀ j, j < pre.length → ∃ e ∈ o.after.toList, bindsAny e = true ∧ e.on = j) (hl2 : ∀ e ∈ o.after.toList, bindsAny e = true → e.on < pre.length) : ∀ (fuel : Nat) (listed : Array Bool) (a : Act) (w : World), listed.size = pre.length →
    wpAnyIn F m P .any pre.toArray (Exit.then (fun a w => wpListIn F m P (pre ++ [o]).toArray Q [o] a w) Q) fuel listed a w → wpAnyIn F m P .any (pre ++ [o]).toArray Q (fuel + 1) (listed.push false) a w := by
  have hready : ∀ (listed : Array Bool), listed.size = pre.length → ∀ i, i ∈ Region.ready .any (pre ++ [o]).toArray (listed.push false) → (i < pre.length ∧ i ∈ Region.ready .any pre.toArray listed) ∨ (i = pre.length ∧ ∀ j, j < pre.length → listed[j]? = some true) := by
    intro listed hs i hi
    simp only [Region.ready, List.mem_filter, List.mem_range, Bool.and_eq_true] at hi
    obtain ⟨h1, h2, h3⟩ := hi
    have h1' : i < pre.length + 1 := by simpa using h1
    rcases Nat.lt_or_ge i pre.length with hlt | hge
    · refine .inl ⟨hlt, ?_⟩
      simp only [Region.ready, List.mem_filter, List.mem_range, Bool.and_eq_true]
      refine ⟨by simpa using hlt, ?_, ?_⟩
      · simp only [Array.getD_eq_getD_getElem?, Array.getElem?_push] at h2 ⊢
        rw [if_neg (by omega)] at h2
        exact h2
      · rw [List.getElem?_toArray, List.getElem?_append_left hlt] at h3
        rw [List.getElem?_toArray]
        simpa only [push_getD] using h3
    · have e : i = pre.length := by omega
      subst e
      refine .inr ⟨rfl, fun j hj => ?_⟩
      rw [List.getElem?_toArray, List.getElem?_append_right (Nat.le_refl _), Nat.sub_self] at h3
      simp only [List.getElem?_cons_zero, Option.map_some, Option.getD_some] at h3
      obtain ⟨e, he, hbd, rfl⟩ := hl j hj
      have := (Array.all_eq_true_iff_forall_mem.1 h3) e (by simpa using he)
      simp only [bindsAny] at hbd
      rw [hbd, push_getD, Array.getD_eq_getD_getElem?] at this
      cases hq : listed[e.on]? with
      | none => rw [hq] at this; cases this
      | some b =>
        rw [hq] at this
        cases b with
        | true => rfl
        | false => cases this
  have hrl : ∀ (listed : Array Bool), listed.size = pre.length → (∀ j, j < pre.length → listed[j]? = some true) → pre.length ∈ Region.ready .any (pre ++ [o]).toArray (listed.push false) := by
    intro listed hs hall
    simp only [Region.ready, List.mem_filter, List.mem_range, Bool.and_eq_true]
    refine ⟨by simp, ?_, ?_⟩
    · rw [Array.getD_eq_getD_getElem?, ← hs]; simp
    · rw [List.getElem?_toArray, List.getElem?_append_right (Nat.le_refl _), Nat.sub_self]
      simp only [List.getElem?_cons_zero, Option.map_some, Option.getD_some]
      rw [Array.all_eq_true_iff_forall_mem]
      intro e he
      cases hq : Region.binds .any e with
      | false => rfl
      | true =>
        have := hall e.on (hl2 e (by simpa using he) hq)
        rw [push_getD, Array.getD_eq_getD_getElem?, this]; rfl
  have hyield : ∀ (a : Act) (i : Nat) (o' : Oper), pre[i]? = some o' → Region.wanted o' (yielded (pre ++ [o]).toArray a.tmps) = Region.wanted o' (yielded pre.toArray a.tmps) := by
    intro a i o' hi
    unfold Region.wanted
    cases hg : o'.guard with
    | none => rfl
    | some g =>
      obtain ⟨j, b⟩ := g
      have := (hb i o' hi).2 j b hg
      simp only [yielded, List.getElem?_toArray, List.getElem?_append_left this]
  have hdone : ∀ (fuel : Nat) (a : Act) (w : World) (l : Array Bool), l.size = pre.length + 1 → (∀ j, j < pre.length + 1 → l[j]? = some true) → Q .normal a w → wpAnyIn F m P .any (pre ++ [o]).toArray Q fuel l a w := by
    intro fuel a w l hs hall hq
    have hnil : Region.ready .any (pre ++ [o]).toArray l = [] := by
      apply List.eq_nil_iff_forall_not_mem.2
      intro i hi
      simp only [Region.ready, List.mem_filter, List.mem_range, Bool.and_eq_true] at hi
      have hlt : i < pre.length + 1 := by simpa using hi.1
      have h2 := hi.2.1
      rw [Array.getD_eq_getD_getElem?, hall i hlt] at h2
      simp at h2
    cases fuel with
    | zero => exact ⟨hnil, hq⟩
    | succ fuel => exact ⟨fun _ => hq, fun i hi => by rw [hnil] at hi; cases hi⟩
  have hlast : ∀ (fuel : Nat) (listed : Array Bool) (a : Act) (w : World), listed.size = pre.length → (∀ j, j < pre.length → listed[j]? = some true) → wpListIn F m P (pre ++ [o]).toArray Q [o] a w →
      wpOpIn F m P (pre ++ [o]).toArray Q pre.length (wpAnyIn F m P .any (pre ++ [o]).toArray Q fuel ((listed.push false).setIfInBounds pre.length true)) a w := by
    intro fuel listed a w hs hall h
    have hd : ∀ a' w', Q .normal a' w' → wpAnyIn F m P .any (pre ++ [o]).toArray Q fuel ((listed.push false).setIfInBounds pre.length true) a' w' := by
      intro a' w' hq
      refine hdone fuel a' w' _ (by simp [hs]) (fun j hj => ?_) hq
      rw [Array.getElem?_setIfInBounds]
      split
      · rename_i e; subst e; simp [hs]
      · rename_i e
        rw [Array.getElem?_push, if_neg (by omega)]
        exact hall j (by omega)
    unfold wpOpIn
    have ho : (pre ++ [o]).toArray[pre.length]? = some o := by rw [List.getElem?_toArray, List.getElem?_append_right (Nat.le_refl _), Nat.sub_self]; rfl
    rw [ho]
    unfold wpListIn at h
    dsimp only
    split
    · rename_i hw
      rw [if_pos hw] at h
      exact Oper.wpIn_mono (fun a' w' h9 => hd a' w' h9) h
    · rename_i hw
      rw [if_neg hw] at h
      exact ⟨h.1, hd _ _ h.2⟩
  intro fuel
  induction fuel with
  | zero =>
    intro listed a w hs h
    obtain ⟨h1, h2⟩ := h
    have hall := ready_nil hs (fun i o' hi => (hb i o' hi).1) h1
    refine ⟨fun hnil => ?_, fun i hi => ?_⟩
    · have := hrl listed hs hall
      rw [hnil] at this; cases this
    · rcases hready listed hs i hi with ⟨_, hm⟩ | ⟨rfl, _⟩
      · rw [h1] at hm; cases hm
      · exact hlast 0 listed a w hs hall h2
  | succ fuel ih =>
    intro listed a w hs h
    obtain ⟨h1, h2⟩ := h
    refine ⟨fun hnil => ?_, fun i hi => ?_⟩
    · have hn : Region.ready .any pre.toArray listed = [] := by
        apply List.eq_nil_iff_forall_not_mem.2
        intro i hi
        have hmem : i ∈ Region.ready .any (pre ++ [o]).toArray (listed.push false) := by
          simp only [Region.ready, List.mem_filter, List.mem_range, Bool.and_eq_true] at hi ⊢
          obtain ⟨g1, g2, g3⟩ := hi
          have hlt : i < pre.length := by simpa using g1
          refine ⟨by simp; omega, ?_, ?_⟩
          · rw [Array.getD_eq_getD_getElem?] at g2 ⊢
            rw [Array.getElem?_push, if_neg (by omega)]
            exact g2
          · rw [List.getElem?_toArray] at g3
            rw [List.getElem?_toArray, List.getElem?_append_left hlt]
            simpa only [push_getD] using g3
        rw [hnil] at hmem; cases hmem
      have := hrl listed hs (ready_nil hs (fun i o' hi => (hb i o' hi).1) hn)
      rw [hnil] at this; cases this
    · rcases hready listed hs i hi with ⟨hlt, hm⟩ | ⟨rfl, hall⟩
      · have h3 := h2 i hm
        unfold wpOpIn at h3 ⊢
        have e1 : pre.toArray[i]? = some pre[i] := by rw [List.getElem?_toArray, List.getElem?_eq_getElem hlt]
        have e2 : (pre ++ [o]).toArray[i]? = some pre[i] := by rw [List.getElem?_toArray, List.getElem?_append_left hlt, List.getElem?_eq_getElem hlt]
        rw [e1] at h3
        rw [e2]
        dsimp only at h3 ⊢
        rw [hyield a i _ (List.getElem?_eq_getElem hlt)]
        have hset : (listed.push false).setIfInBounds i true = (listed.setIfInBounds i true).push false := by
          apply Array.ext_getElem?
          intro j
          simp only [Array.getElem?_setIfInBounds, Array.getElem?_push, Array.size_push, Array.size_setIfInBounds]
          by_cases h4 : i = j
          · subst h4
            rw [if_pos rfl, if_pos (by omega), if_neg (by omega), if_pos rfl, if_pos (by omega)]
          · rw [if_neg h4, if_neg h4]
        rw [hset]
        split
        · rename_i hw
          rw [if_pos hw] at h3
          exact Oper.wpIn_mono (fun a' w' h9 => ih _ a' w' (by simpa using hs) h9) (wpIn_then h3)
        · rename_i hw
          rw [if_neg hw] at h3
          exact ⟨h3.1, ih _ _ _ (by simpa using hs) h3.2⟩
      · have hn : Region.ready .any pre.toArray listed = [] := by
          apply List.eq_nil_iff_forall_not_mem.2
          intro i hi
          simp only [Region.ready, List.mem_filter, List.mem_range, Bool.and_eq_true] at hi
          have hlt : i < pre.length := by simpa using hi.1
          have h2 := hi.2.1
          rw [Array.getD_eq_getD_getElem?, hall i hlt] at h2
          simp at h2
        exact hlast (fuel + 1) listed a w hs hall (h1 hn)
end
theorem chkLast_spec {pre : List Oper} {o : Oper} (h : chkLast pre o = true) : (∀ (i : Nat) (o : Oper), pre[i]? = some o → (∀ e ∈ o.after.toList, bindsAny e = true → e.on < i) ∧ ∀ j b, o.guard = some (j, b) → j < pre.length) ∧
    (∀ j, j < pre.length → ∃ e ∈ o.after.toList, bindsAny e = true ∧ e.on = j) ∧ (∀ e ∈ o.after.toList, bindsAny e = true → e.on < pre.length) := by
  simp only [chkLast, Bool.and_eq_true] at h
  obtain ⟨⟨h1, h2⟩, h3⟩ := h
  refine ⟨fun i o' hi => ?_, fun j hj => ?_, fun e he hb => ?_⟩
  · have h4 := List.all_eq_true.1 h3 (o', i) (by rw [List.mem_zipIdx_iff_getElem?]; simpa using hi)
    simp only [Bool.and_eq_true] at h4
    refine ⟨fun e he hb => ?_, fun j b hg => ?_⟩
    · have h5 := List.all_eq_true.1 h4.1 e he
      rw [hb] at h5
      simpa [Nat.blt_eq] using h5
    · have h5 := h4.2
      rw [hg] at h5
      simpa [Nat.blt_eq] using h5
  · have h4 := List.all_eq_true.1 h1 j (List.mem_range.2 hj)
    obtain ⟨e, he, h5⟩ := List.any_eq_true.1 h4
    simp only [Bool.and_eq_true] at h5
    exact ⟨e, he, h5.1, Nat.eq_of_beq_eq_true h5.2⟩
  · have h4 := List.all_eq_true.1 h2 e he
    rw [hb] at h4
    simpa [Nat.blt_eq] using h4
section
variable {P : Program} {B : Exit → Act → World → Prop} {n : Fm} {ks : List K} {ρ : Env} {w : World} {σ : List Nat} {Ms : List Foot} {Js : List (World → Prop)} {X : List (Nat × Nat)}
/-- What is left to do behind all but the last operation of a region. -/
def lastK (P : Program) (n : Fm) (B : Exit → Act → World → Prop) (ks : List K) (full : List Oper) (o : Oper) : K := .hand fun a w => wpListIn (fen n.ro) 0 P full.toArray (sem P n.ro B ks) [o] a w
theorem N.last {full : List Oper} {o : Oper} (h : L P B n full ks ρ w [o]) : N P B n (lastK P n B ks full o :: ks) ρ w := N.hand fun a ha => h a ha
def splitLast : List Oper → Option (List Oper × Oper)
  | [] => none
  | [x] => some ([], x)
  | x :: y :: r => match splitLast (y :: r) with
    | some (p, o) => some (x :: p, o)
    | none => none
theorem splitLast_eq : ∀ {l p : List Oper} {o : Oper}, splitLast l = some (p, o) → l = p ++ [o]
  | [], p, o, h => by cases h
  | [x], p, o, h => by
    simp only [splitLast, Option.some.injEq, Prod.mk.injEq] at h
    obtain ⟨rfl, rfl⟩ := h
    rfl
  | x :: y :: r, p, o, h => by
    simp only [splitLast] at h
    split at h
    · rename_i p' o' h'
      simp only [Option.some.injEq, Prod.mk.injEq] at h
      obtain ⟨rfl, rfl⟩ := h
      have := splitLast_eq h'
      rw [this]; rfl
    · cases h
theorem G.stagedL [hm : Mixed P] {id : Nat} {full pre : List Oper} {o : Oper} (hsp : splitLast full = some (pre, o)) (hlast : chkLast pre o = true) (σ : List Nat) (Ms : List Foot) (Js : List (World → Prop)) (X : List (Nat × Nat)) (hchk : chk pre σ = true) (hkill : chkKill pre X = true) (hσ : σ.all (fun s => Nat.blt s pre.length) = true) (hlt : ρ.all (fun p => Nat.blt p.1 n) = true)
    {Ψ : World → Prop} (hΨ : Js[0]? = some Ψ) (hJ : ∀ w', Ext [] w w' → Ψ w') (h : DZ P n pre (sem P n.ro B (lastK P n B ks full o :: ks)) Js σ Ms X ρ [] 0 pre) : G P B n ks ρ w (.region id full.toArray true) := by
  intro a ha
  have hlk : ∀ t s, lookD (mkD ρ []) t = some s → ∃ v, look ρ t = some v ∧ s = .eq v := by
    intro t s hs
    rw [lookD_mkD] at hs
    simp only [lookT] at hs
    cases hv : look ρ t with
    | none => rw [hv] at hs; cases hs
    | some v => rw [hv] at hs; cases hs; exact ⟨v, rfl, rfl⟩
  have hmem : ∀ (r : Env) t v, look r t = some v → (t, v) ∈ r := by
    intro r
    induction r with
    | nil => intro t v h; cases h
    | cons p r ih =>
      obtain ⟨s, u⟩ := p
      intro t v h
      rw [look_cons] at h
      split at h
      · rename_i e; subst e; cases h; simp
      · exact List.mem_cons_of_mem _ (ih t v h)
  obtain ⟨h1, h2, h3⟩ := chkLast_spec hlast
  refine wpIn_region_any hm.h ?_
  have := D.sound (P := P) (Q := sem P n.ro B (lastK P n B ks full o :: ks)) (R := RS σ Ms) (X := X) hchk hkill (fun s hs => by simpa [Nat.blt_eq] using List.all_eq_true.1 hσ s hs) (fun A t hA => by obtain ⟨v, _, e⟩ := hlk t _ hA; cases e)
    (fun t s hs => by
      obtain ⟨v, hv, _⟩ := hlk t s hs
      have := List.all_eq_true.1 hlt (t, v) (hmem ρ t v hv)
      simpa [Nat.blt_eq] using this) (h (fun t ht => absurd rfl ht)) (a := a) (w := { w with drawn := w.drawn + 1 }) ha.size ha.defers (fun t s hs => by
      obtain ⟨v, hv, rfl⟩ := hlk t s hs
      exact ⟨v, ha.vals t v hv, rfl⟩) ⟨_, hΨ, hJ _ (Ext.drawn w)⟩
  have hf := splitLast_eq hsp
  subst hf
  have h5 := wpAny_last (Q := sem P n.ro B ks) h1 h2 h3 pre.length (Array.replicate pre.length false) a { w with drawn := w.drawn + 1 } (by simp) this
  rw [show (pre ++ [o]).toArray.size = pre.length + 1 by simp, show Array.replicate (pre.length + 1) false = (Array.replicate pre.length false).push false from Array.replicate_succ]
  exact h5
end
section
variable {P : Program} {n : Fm} {ops : List Oper} {Q : Exit → Act → World → Prop} {Js : List (World → Prop)} {σ : List Nat} {Ms : List Foot} {X : List (Nat × Nat)}
variable {ρ : Env} {τ : RelEnv} {i : Nat} {rest : List Oper} {d : Nat} {op : Op} {ty : TypeId} {pos : String} {af : Array Edge} {gd : Option (Nat × Bool)}
/-- One that makes something new, at any stage. -/
theorem Z.newI {A : Value → World → Prop} (hA : Lasts ops X σ Ms d i A) {I : World → Prop} (hI : ∀ k w, stage Js k w → I w) (hK : ∀ Ψ ∈ Js, ∀ w w', Ext [] w w' → Ψ w → Ψ w') (hst : stepsOf σ i = 0)
    (hg : wants ops ρ gd = some true) (hd : Nat.blt d n = true) (hns : isSelect op = false)
    (h : ∀ w, I w → RelsT τ w (slots ops ⟨some d, op, ty, pos, af, gd⟩) ρ (fun ρ' => Does P n ρ' w ⟨some d, op, ty, pos, af, gd⟩ (fun v w' => A v w' ∧ Ext [] w w')))
    (hnext : DZ P n ops Q Js σ Ms X (dropS d ρ) ((d, A) :: τ) (i + 1) rest) : DZ P n ops Q Js σ Ms X ρ τ i (⟨some d, op, ty, pos, af, gd⟩ :: rest) :=
  DS.rel A hA hg hd hns (fun w k hr hJ => by
    refine RelsT.mono (fun _ hx => hx.mono fun _ _ h => ⟨h.1, RS.of0 h.2, ?_⟩) (h w (hI k w hJ))
    rw [hst]
    obtain ⟨Ψ, h1, h2⟩ := hJ
    exact ⟨Ψ, h1, hK Ψ (List.mem_of_getElem? h1) _ _ h.2 h2⟩) hnext
end
end Brv
namespace Brv
open Go
section
variable {P : Program} {n : Fm} {ρ : Env} {w : World} {d : Nat} {ty : TypeId} {pos : String} {af : Array Edge} {gd : Option (Nat × Bool)}
/-- xs[i] of an array that is a value. -/
theorem R.idxV {T m E : Nat} [t : TyArr P T m E 1] [te : TyOne P E] {x y : Operand} {k : IntKind} {cs : Array Value} {i : Int} {v : Value} (hx : ev ρ x = some (.agg cs)) (hy : ev ρ y = some (.int k i)) (h0 : 0 ≤ i) (h1 : i < m) (hv : cs[i.toNat]? = some v) :
    Runs P n ρ w ⟨some d, .index T x y, ty, pos, af, gd⟩ v w := (fun f hf => by
    cases hq : P.info? E with
    | none => have := t.i; simp [hq] at this
    | some q =>
      have hs : q.size = 1 := by have := t.i; simpa [hq] using this
      simp [execOp, hf.eval hx, hf.eval hy, Instr.index, asIntOf, run_underlying t.h, h0, h1, Go.sizeOf, typeInfo, hq, hs, part, TyOne.agg, hv])
end
end Brv
namespace Brv
open Go
/-- A struct's parts, each of one cell, laid one by one. -/
def fillL (pl : Nat → Option (Nat × Nat)) : List Value → List (Nat × Value) → Option (List Value)
  | cs, [] => some cs
  | cs, (i, v) :: rest => match pl i with
    | some (off, sz) => match Nat.beq sz 1 && Nat.blt off cs.length with
      | true => fillL pl (cs.set off v) rest
      | false => none
    | none => none
theorem fillL_spec {pl : Nat → Option (Nat × Nat)} : ∀ {vs : List (Nat × Value)} {cs : Array Value} {l : List Value}, (∀ p ∈ vs, p.2.oneCell' = true) → fillL pl cs.toList vs = some l → Instr.fill pl cs vs = some l.toArray
  | [], cs, l, _, h => by
    simp only [fillL, Option.some.injEq] at h
    subst h
    simp [Instr.fill]
  | (i, v) :: rest, cs, l, h1, h => by
    simp only [fillL] at h
    split at h
    · rename_i off sz hp
      split at h
      · rename_i hb
        rw [Bool.and_eq_true] at hb
        have hsz := Nat.eq_of_beq_eq_true hb.1
        have hlt : off < cs.size := by simpa [Nat.blt_eq] using hb.2
        subst hsz
        have hv : v.cells = #[v] := by
          have := h1 (i, v) (by simp)
          cases v <;> simp_all [Value.cells, Value.oneCell']
        have e : cs.toList.set off v = (cs.setIfInBounds off v).toList := by simp
        rw [e] at h
        have ih := fillL_spec (fun p hp => h1 p (by simp [hp])) h
        simp only [Instr.fill, hp, hv]
        rw [if_neg (by simp; omega)]
        simpa using ih
      · cases h
    · cases h
def oneCells : List (Nat × Value) → Bool
  | [] => true
  | (_, v) :: r => v.oneCell' && oneCells r
theorem oneCells_spec : ∀ {vs : List (Nat × Value)}, oneCells vs = true → ∀ p ∈ vs, p.2.oneCell' = true
  | [], _, p, hp => by cases hp
  | (i, v) :: r, h, p, hp => by
    simp only [oneCells, Bool.and_eq_true] at h
    rcases List.mem_cons.1 hp with rfl | hp
    · exact h.1
    · exact oneCells_spec h.2 p hp
section
variable {P : Program} {n : Fm} {ρ : Env} {w : World} {d : Nat} {ty : TypeId} {pos : String} {af : Array Edge} {gd : Option (Nat × Bool)}
theorem R.build1 {T : TypeId} {pl : Nat → Option (Nat × Nat)} {z : Value} [t : TyBuilt P T pl z] {parts : Array (Nat × Operand)} {vs : List (Nat × Value)} {cs : Array Value} (hp : evps ρ parts.toList = some vs) (h1 : oneCells vs = true) (hb : fillL pl z.cells.toList vs = some cs.toList) :
    Runs P n ρ w ⟨some d, .build T parts, ty, pos, af, gd⟩ (.agg cs) w := R.build hp (by
    have := fillL_spec (oneCells_spec h1) hb
    simpa using this)
end
end Brv
