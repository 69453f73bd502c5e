/-
  The walks of package pack: the pen.
-/
import Derived.Test.YthpolibakkmmeaaStd
import Derived.Test.YthpolibakkmmeaaPackPure
import Derived.Test.YthpolibakkmmeaaC9
set_option linter.unusedVariables false
namespace Go.Proofs.Ythpolibakkmmeaa
open Go Brv Brv.Crc Brv.Pack
theorem fits_ok (x y : Int) (w : World) (hx : -9223372036854775808 ≤ x ∧ x ≤ 9223372036854775807) (hy : -9223372036854775808 ≤ y ∧ y ≤ 9223372036854775807) : Meets Try.prog 194 [.int .i64 x, .int .i64 y] w (fun v w' => v = .bool (fitsF x y) ∧ w' = w) := by
  refine Meets.enter Try.func194 rfl 26 rfl (Nat.le_of_ble_eq_true rfl) ?_
  refine G.seq ?_
  refine G.region ?_
  refine L.val rfl rfl (R.as rfl) ?_
  refine L.nil ?_
  refine N.seq ?_
  refine G.seq ?_
  refine G.region ?_
  refine L.val rfl rfl (R.mv rfl) ?_
  refine L.val rfl rfl (R.geq rfl rfl) ?_
  refine L.val rfl rfl (R.mv rfl) ?_
  refine L.caseP 7 rfl (fun hg1_2 => ?_) (fun hg1_2 => ?_)
  · refine L.val rfl rfl (R.mv rfl) ?_
    refine L.val rfl rfl (R.leq rfl rfl) ?_
    first | refine L.val rfl rfl (R.pickT rfl rfl) ?_ | refine L.val rfl rfl (R.pickF rfl rfl) ?_
    refine L.val rfl rfl (R.mv rfl) ?_
    refine L.caseP 11 rfl (fun hg1_6 => ?_) (fun hg1_6 => ?_)
    · refine L.val rfl rfl (R.mv rfl) ?_
      refine L.val rfl rfl (R.geq rfl rfl) ?_
      first | refine L.val rfl rfl (R.pickT rfl rfl) ?_ | refine L.val rfl rfl (R.pickF rfl rfl) ?_
      refine L.val rfl rfl (R.mv rfl) ?_
      refine L.caseP 15 rfl (fun hg1_10 => ?_) (fun hg1_10 => ?_)
      · refine L.val rfl rfl (R.mv rfl) ?_
        refine L.val rfl rfl (R.eqI rfl rfl) ?_
        refine L.val rfl rfl (R.mv rfl) ?_
        refine L.caseP 18 rfl (fun hg1_13 => ?_) (fun hg1_13 => ?_)
        · refine L.pass rfl rfl ?_
          refine L.pass rfl rfl ?_
          refine L.pass rfl rfl ?_
          refine L.pass rfl rfl ?_
          refine L.pass rfl rfl ?_
          first | refine L.val rfl rfl (R.pickT rfl rfl) ?_ | refine L.val rfl rfl (R.pickF rfl rfl) ?_
          first | refine L.val rfl rfl (R.pickT rfl rfl) ?_ | refine L.val rfl rfl (R.pickF rfl rfl) ?_
          refine L.val rfl rfl (R.as rfl) ?_
          refine L.nil ?_
          refine N.seq ?_
          refine G.ret1 rfl rfl ?_
          exact ⟨congrArg Value.bool (fitsF_eight hg1_13 hg1_10 hx.2), rfl⟩
        · refine L.val rfl rfl (R.mv rfl) ?_
          refine L.val rfl rfl (R.mv rfl) ?_
          refine L.val rfl rfl (R.mul rfl rfl (by omega)) ?_
          refine L.val rfl rfl (R.shrW rfl rfl (by omega) _ rfl) ?_
          refine L.val rfl rfl (R.eqI rfl rfl) ?_
          first | refine L.val rfl rfl (R.pickT rfl rfl) ?_ | refine L.val rfl rfl (R.pickF rfl rfl) ?_
          first | refine L.val rfl rfl (R.pickT rfl rfl) ?_ | refine L.val rfl rfl (R.pickF rfl rfl) ?_
          refine L.val rfl rfl (R.as rfl) ?_
          refine L.nil ?_
          refine N.seq ?_
          refine G.ret1 rfl rfl ?_
          exact ⟨congrArg Value.bool (fitsF_shift hg1_2 hg1_6 hg1_13 hg1_10), rfl⟩
      · refine L.pass rfl rfl ?_
        refine L.pass rfl rfl ?_
        refine L.pass rfl rfl ?_
        refine L.pass rfl rfl ?_
        refine L.pass rfl rfl ?_
        refine L.pass rfl rfl ?_
        refine L.pass rfl rfl ?_
        refine L.pass rfl rfl ?_
        refine L.pass rfl rfl ?_
        first | refine L.val rfl rfl (R.pickT rfl rfl) ?_ | refine L.val rfl rfl (R.pickF rfl rfl) ?_
        refine L.val rfl rfl (R.as rfl) ?_
        refine L.nil ?_
        refine N.seq ?_
        refine G.ret1 rfl rfl ?_
        exact ⟨congrArg Value.bool (fitsF_no (by omega)), rfl⟩
    · refine L.pass rfl rfl ?_
      refine L.pass rfl rfl ?_
      first | refine L.val rfl rfl (R.pickT rfl rfl) ?_ | refine L.val rfl rfl (R.pickF rfl rfl) ?_
      refine L.val rfl rfl (R.mv rfl) ?_
      refine L.pass rfl rfl ?_
      refine L.pass rfl rfl ?_
      refine L.pass rfl rfl ?_
      refine L.pass rfl rfl ?_
      refine L.pass rfl rfl ?_
      refine L.pass rfl rfl ?_
      refine L.pass rfl rfl ?_
      refine L.pass rfl rfl ?_
      refine L.pass rfl rfl ?_
      first | refine L.val rfl rfl (R.pickT rfl rfl) ?_ | refine L.val rfl rfl (R.pickF rfl rfl) ?_
      refine L.val rfl rfl (R.as rfl) ?_
      refine L.nil ?_
      refine N.seq ?_
      refine G.ret1 rfl rfl ?_
      exact ⟨congrArg Value.bool (fitsF_no (by omega)), rfl⟩
  · refine L.pass rfl rfl ?_
    refine L.pass rfl rfl ?_
    first | refine L.val rfl rfl (R.pickT rfl rfl) ?_ | refine L.val rfl rfl (R.pickF rfl rfl) ?_
    refine L.val rfl rfl (R.mv rfl) ?_
    refine L.pass rfl rfl ?_
    refine L.pass rfl rfl ?_
    first | refine L.val rfl rfl (R.pickT rfl rfl) ?_ | refine L.val rfl rfl (R.pickF rfl rfl) ?_
    refine L.val rfl rfl (R.mv rfl) ?_
    refine L.pass rfl rfl ?_
    refine L.pass rfl rfl ?_
    refine L.pass rfl rfl ?_
    refine L.pass rfl rfl ?_
    refine L.pass rfl rfl ?_
    refine L.pass rfl rfl ?_
    refine L.pass rfl rfl ?_
    refine L.pass rfl rfl ?_
    refine L.pass rfl rfl ?_
    first | refine L.val rfl rfl (R.pickT rfl rfl) ?_ | refine L.val rfl rfl (R.pickF rfl rfl) ?_
    refine L.val rfl rfl (R.as rfl) ?_
    refine L.nil ?_
    refine N.seq ?_
    refine G.ret1 rfl rfl ?_
    exact ⟨congrArg Value.bool (fitsF_no (by omega)), rfl⟩

theorem number_nil (x y : Int) (w : World) : Meets Try.prog 140 [.pointer none, .int .i64 x, .int .i64 y] w (fun v w' => v = .bool false ∧ w' = w) := by
  refine Meets.enter Try.func140 rfl 38 rfl (Nat.le_of_ble_eq_true rfl) ?_
  refine G.seq ?_
  refine G.region ?_
  refine L.val rfl rfl (R.as rfl) ?_
  refine L.nil ?_
  refine N.seq ?_
  refine G.seq ?_
  refine G.seq ?_
  refine G.region ?_
  refine L.val rfl rfl (R.mv rfl) ?_
  refine L.val rfl rfl (R.eqNilP rfl rfl) ?_
  refine L.val rfl rfl (R.mv rfl) ?_
  refine L.pass rfl rfl ?_
  refine L.pass rfl rfl ?_
  refine L.pass rfl rfl ?_
  refine L.pass rfl rfl ?_
  first | refine L.val rfl rfl (R.pickT rfl rfl) ?_ | refine L.val rfl rfl (R.pickF rfl rfl) ?_
  refine L.nil ?_
  refine N.seq ?_
  refine G.condT rfl ?_
  refine G.seq ?_
  refine G.region ?_
  refine L.val rfl rfl (R.as rfl) ?_
  refine L.nil ?_
  refine N.seq ?_
  refine G.ret1 rfl rfl ?_
  exact ⟨rfl, rfl⟩

theorem number_ok (p : Nat) (S : List Nat) (l : List UInt8) (x y : Int) (w : World) (hP : PenAt 228 5 w p l S) (hl : l.length ≤ 70368744177664) (hx : -9223372036854775808 ≤ x ∧ x ≤ 9223372036854775807) (hy : -9223372036854775808 ≤ y ∧ y ≤ 9223372036854775807) : Meets Try.prog 140 [.pointer (some ⟨p, 0, none⟩), .int .i64 x, .int .i64 y] w (fun v w' => v = .bool (fitsF x y) ∧ ∃ S', PenAt 228 5 w' p (l ++ (if fitsF x y then be y.toNat x.toNat else [])) S' ∧ Grown S S' w w') := by
  refine Meets.enter Try.func140 rfl 38 rfl (Nat.le_of_ble_eq_true rfl) ?_
  refine G.seq ?_
  refine G.region ?_
  refine L.val rfl rfl (R.as rfl) ?_
  refine L.nil ?_
  refine N.seq ?_
  refine G.seq ?_
  refine G.seq ?_
  refine G.region ?_
  refine L.val rfl rfl (R.mv rfl) ?_
  refine L.val rfl rfl (R.eqNilP rfl rfl) ?_
  refine L.val rfl rfl (R.mv rfl) ?_
  refine L.val rfl rfl (R.mv rfl) ?_
  refine L.val rfl rfl (R.mv rfl) ?_
  refine L.callF rfl rfl rfl go194 (fits_ok _ _ _ hx hy) ?_
  rintro _ _ ⟨rfl, hw⟩
  obtain rfl := hw.symm
  refine L.val rfl rfl (R.not rfl) ?_
  first | refine L.val rfl rfl (R.pickT rfl rfl) ?_ | refine L.val rfl rfl (R.pickF rfl rfl) ?_
  refine L.nil ?_
  refine N.seq ?_
  refine G.condB rfl (fun h0 => ?_) (fun h0 => ?_)
  · have hf : fitsF x y = false := by simpa using h0
    refine G.seq ?_
    refine G.region ?_
    refine L.val rfl rfl (R.as rfl) ?_
    refine L.nil ?_
    refine N.seq ?_
    refine G.ret1 rfl rfl ?_
    refine ⟨congrArg Value.bool hf.symm, S, ?_, Grown.refl _ _⟩
    rw [hf]; simpa using hP
  · have hf : fitsF x y = true := by simpa using h0
    have hf2 := fitsF_spec.1 hf
    obtain ⟨x, rfl⟩ := Int.eq_ofNat_of_zero_le hf2.2.2.1
    obtain ⟨y, rfl⟩ := Int.eq_ofNat_of_zero_le (show 0 ≤ y by omega)
    refine G.skip ?_
    refine N.seq ?_
    refine G.seq ?_
    refine G.seq ?_
    refine G.region ?_
    refine L.val rfl rfl (R.mv rfl) ?_
    refine L.val rfl rfl (R.mv rfl) ?_
    refine L.nil ?_
    refine N.seq ?_
    refine G.block ?_
    refine G.loop (X := Nat) (fun k => [(0, .pointer (some ⟨p, 0, none⟩)), (1, .int .i64 (x : Int)), (2, .int .i64 (y : Int)), (16, .int .i64 (y : Int)), (17, .int .i64 (k : Int))]) (fun k w' => k ≤ y ∧ ∃ S', PenAt 228 5 w' p (l ++ (be y x).take k) S' ∧ Grown S S' w w') (fun k => y - k) (0) (Sub.cons rfl (Sub.cons rfl (Sub.cons rfl (Sub.cons rfl (Sub.cons rfl (Sub.nil _)))))) ⟨by omega, S, by simpa using hP, Grown.refl _ _⟩ ?_
    rintro k w1 ⟨hk, S1, hP1, hG⟩
    refine G.seq ?_
    refine G.region ?_
    refine L.val rfl rfl (R.lss rfl rfl) ?_
    refine L.nil ?_
    refine N.seq ?_
    refine G.seq ?_
    refine G.condP rfl (fun h1 => ?_) (fun h1 => ?_)
    · obtain ⟨a, n, c, M, rfl, hpM, hn, hB, hO⟩ := hP1
      have hkt := be_take y x k (by omega)
      have hpl := hB.lt
      have htl : (List.take k (be y x)).length ≤ 8 := by rw [List.length_take, be_length]; omega
      rw [List.length_append] at hn
      refine G.skip ?_
      refine N.seq ?_
      refine G.seq ?_
      refine G.block ?_
      refine G.seq ?_
      refine G.region ?_
      refine L.val rfl rfl (R.mv rfl) ?_
      refine L.val rfl rfl (R.as rfl) ?_
      refine L.nil ?_
      refine N.seq ?_
      refine G.staged [14, 17] [.blocks (M), .blocks ([p])] [Ext [] w1, Ext M w1, fun w' => ∃ S', PenAt 228 5 w' p (l ++ (be y x).take (k + 1)) S' ∧ Grown (p :: M) S' w1 w'] [(14, 33), (17, 33), (17, 34)] (by decide +kernel) (by decide +kernel) rfl rfl rfl (fun _ h => h) ?_
      refine Z.val rfl rfl rfl rfl rfl (fun w2 => R.mv rfl) ?_
      refine Z.val rfl rfl rfl rfl rfl (fun w2 => R.mv rfl) ?_
      refine Z.val rfl rfl rfl rfl rfl (fun w2 => R.nilChk rfl) ?_
      refine Z.val rfl rfl rfl rfl rfl (fun w2 => R.fld rfl) ?_
      refine Z.read 0 (by decide +kernel) rfl rfl rfl rfl rfl rfl (fun w2 hJ => R.ldB rfl (hB.ext0 hJ) rfl) ?_
      refine Z.val rfl rfl rfl rfl rfl (fun w2 => R.mv rfl) ?_
      refine Z.val rfl rfl rfl rfl rfl (fun w2 => R.mv rfl) ?_
      refine Z.val rfl rfl rfl rfl rfl (fun w2 => R.sub' rfl rfl (by omega)) ?_
      refine Z.val rfl rfl rfl rfl rfl (fun w2 => R.mv rfl) ?_
      refine Z.val rfl rfl rfl rfl rfl (fun w2 => R.sub' rfl rfl (by omega)) ?_
      refine Z.val rfl rfl rfl rfl rfl (fun w2 => R.mul rfl rfl (by omega)) ?_
      refine Z.val rfl rfl rfl rfl rfl (fun w2 => R.shrW rfl rfl (by omega) _ rfl) ?_
      refine Z.val rfl rfl rfl rfl rfl (fun w2 => R.conv rfl _ (shift_byte x y k (by omega) (by omega) _ rfl)) ?_
      refine Z.new (A := IsBs 1 [UInt8.ofNat (x / 256 ^ (y - 1 - k) % 256)]) (Lasts.kill (IsBs.keep _ _) (by decide +kernel)) 0 (by decide +kernel) rfl rfl rfl rfl rfl (fun w2 hJ => (R.buildA rfl rfl rfl rfl rfl).mono (fun _ _ h => have q := h.bs (l := [UInt8.ofNat (x / 256 ^ (y - 1 - k) % 256)]) rfl rfl; ⟨q.1, q.2, hJ.trans0 q.2⟩)) ?_
      refine Z.put (A := Held M w1.heap.size 5 1 (n + 1) (vbs (l ++ (be y x).take (k + 1)))) (Lasts.kill (Held.keep _ _ _ _ _ _) (by decide +kernel)) 0 (by decide +kernel) rfl rfl rfl rfl rfl rfl rfl (fun w2 hJ => by rintro v ⟨a2, c2, rfl, _, hb2⟩; exact (R.app rfl rfl (hO.ext0 hJ) hb2.cells rfl (vbs_one _) (by simp [maxLen]; omega) (by omega)).mono (fun _ _ h => Held.app h hJ rfl (by rw [hkt]; simp [vbs]))) ?_
      refine Z.val rfl rfl rfl rfl rfl (fun w2 => R.nilChk rfl) ?_
      refine Z.val rfl rfl rfl rfl rfl (fun w2 => R.fld rfl) ?_
      refine Z.set 1 (by decide +kernel) rfl rfl rfl rfl rfl rfl (fun w2 hJ => fun v hv => (R.st rfl rfl (hB.ext hJ hpM) (by simp) (by obtain ⟨_, _, _, rfl, _⟩ := hv; rfl)).mono (fun _ h => ⟨h.1, by exact PenAt.put hpl hpM (by simp only [List.length_append, List.length_take, be_length] at hn ⊢; omega) hv hJ h⟩)) ?_
      refine Z.nil rfl rfl (fun w2 hJ => ?_)
      obtain ⟨S2, hP2, hG2⟩ := hJ
      refine N.block ?_
      refine N.seq ?_
      refine G.region ?_
      refine L.val rfl rfl (R.add rfl rfl (by omega)) ?_
      refine L.val rfl rfl (R.mv rfl) ?_
      refine L.nil ?_
      exact N.again (k + 1) (by omega) (Sub.cons rfl (Sub.cons rfl (Sub.cons rfl (Sub.cons rfl (Sub.cons rfl (Sub.nil _)))))) ⟨by omega, S2, hP2, hG.trans hG2⟩
    · obtain rfl : k = y := by omega
      refine G.exit _ rfl ?_
      refine N.seq ?_
      refine G.seq ?_
      refine G.region ?_
      refine L.val rfl rfl (R.as rfl) ?_
      refine L.nil ?_
      refine N.seq ?_
      refine G.ret1 rfl rfl ?_
      refine ⟨congrArg Value.bool hf.symm, S1, ?_, hG⟩
      rw [hf]; rw [List.take_of_length_le (by rw [be_length]; omega)] at hP1; simpa using hP1

theorem text_nil (u : Value) (w : World) : Meets Try.prog 196 [.pointer none, u] w (fun v w' => v = .bool false ∧ w' = w) := by
  refine Meets.enter Try.func196 rfl 25 rfl (Nat.le_of_ble_eq_true rfl) ?_
  refine G.seq ?_
  refine G.region ?_
  refine L.val rfl rfl (R.as rfl) ?_
  refine L.nil ?_
  refine N.seq ?_
  refine G.seq ?_
  refine G.seq ?_
  refine G.region ?_
  refine L.val rfl rfl (R.mv rfl) ?_
  refine L.val rfl rfl (R.eqNilP rfl rfl) ?_
  refine L.val rfl rfl (R.mv rfl) ?_
  refine L.pass rfl rfl ?_
  refine L.pass rfl rfl ?_
  refine L.pass rfl rfl ?_
  first | refine L.val rfl rfl (R.pickT rfl rfl) ?_ | refine L.val rfl rfl (R.pickF rfl rfl) ?_
  refine L.nil ?_
  refine N.seq ?_
  refine G.condT rfl ?_
  refine G.seq ?_
  refine G.region ?_
  refine L.val rfl rfl (R.as rfl) ?_
  refine L.nil ?_
  refine N.seq ?_
  refine G.ret1 rfl rfl ?_
  exact ⟨rfl, rfl⟩

theorem text_ok (p : Nat) (S : List Nat) (l : List UInt8) (a : Option Addr) (n c : Nat) (k : List UInt8) (w : World) (hP : PenAt 228 5 w p l S) (hl : l.length ≤ 70368744177664) (hb : Bs w a n k) (hn : n ≤ 140737488351232) (hS : ∀ w1, Ext S w w1 → Bs w1 a n k) : Meets Try.prog 196 [.pointer (some ⟨p, 0, none⟩), .slice a n c] w (fun v w' => v = .bool (decide (k.length ≤ 65535)) ∧ ∃ S', PenAt 228 5 w' p (l ++ (if k.length ≤ 65535 then textF k else [])) S' ∧ Grown S S' w w') := by
  refine Meets.enter Try.func196 rfl 25 rfl (Nat.le_of_ble_eq_true rfl) ?_
  have hkl := hb.len
  refine G.seq ?_
  refine G.region ?_
  refine L.val rfl rfl (R.as rfl) ?_
  refine L.nil ?_
  refine N.seq ?_
  refine G.seq ?_
  refine G.seq ?_
  refine G.region ?_
  refine L.val rfl rfl (R.mv rfl) ?_
  refine L.val rfl rfl (R.eqNilP rfl rfl) ?_
  refine L.val rfl rfl (R.mv rfl) ?_
  refine L.val rfl rfl (R.mv rfl) ?_
  refine L.val rfl rfl (R.lenS rfl) ?_
  refine L.val rfl rfl (R.gtr rfl rfl) ?_
  first | refine L.val rfl rfl (R.pickT rfl rfl) ?_ | refine L.val rfl rfl (R.pickF rfl rfl) ?_
  refine L.nil ?_
  refine N.seq ?_
  refine G.condP rfl (fun h0 => ?_) (fun h0 => ?_)
  · refine G.seq ?_
    refine G.region ?_
    refine L.val rfl rfl (R.as rfl) ?_
    refine L.nil ?_
    refine N.seq ?_
    refine G.ret1 rfl rfl ?_
    exact ⟨congrArg Value.bool (by rw [decide_eq_false (by omega)]), S, by rw [if_neg (by omega)]; simpa using hP, Grown.refl _ _⟩
  · refine G.skip ?_
    refine N.seq ?_
    refine G.seq ?_
    refine G.region ?_
    refine L.val rfl rfl (R.mv rfl) ?_
    refine L.val rfl rfl (R.mv rfl) ?_
    refine L.val rfl rfl (R.lenS rfl) ?_
    refine L.callF rfl rfl rfl go140 (number_ok _ _ _ _ _ _ hP (by omega) (by omega) (by omega)) ?_
    rintro _ w1 ⟨rfl, S1, hP1, hG1⟩
    have hft : fitsF (n : Int) 2 = true := by rw [fitsF_spec]; exact ⟨by omega, by omega, by omega, by show (n : Int) < 65536; omega⟩
    rw [hft, if_pos rfl] at hP1
    have hb1 := hS _ hG1.1
    obtain ⟨a1, n1, c1, M1, rfl, hpM, hn1, hB, hO⟩ := hP1
    have hpl := hB.lt
    rw [List.length_append, be_length] at hn1
    refine L.nil ?_
    refine N.seq ?_
    refine G.seq ?_
    refine G.region ?_
    refine L.val rfl rfl (R.mv rfl) ?_
    refine L.val rfl rfl (R.mv rfl) ?_
    refine L.val rfl rfl (R.nilChk rfl) ?_
    refine L.val rfl rfl (R.fld rfl) ?_
    refine L.val rfl rfl (R.ldB rfl hB rfl) ?_
    refine L.val rfl rfl (R.mv rfl) ?_
    refine L.do rfl rfl (R.app rfl rfl hO hb1.cells (by rw [vbs_length, Nat.mul_one]; exact hb1.len.symm) (vbs_one _) (by simp [maxLen]; omega) (by omega)) ?_
    rintro v22 w2 h2
    obtain ⟨h2, e2, _⟩ := Held.app (ys := vbs (l ++ textF k)) h2 (Ext.refl _ _) rfl (by simp [vbs, textF, ← hkl])
    refine L.val rfl rfl (R.nilChk rfl) ?_
    refine L.val rfl rfl (R.fld rfl) ?_
    refine L.set rfl (R.st rfl rfl (hB.ext e2 hpM) (by simp) (by obtain ⟨_, _, _, rfl, _⟩ := h2; rfl)) ?_
    rintro w3 h3
    obtain ⟨S3, hP3, hG3⟩ := PenAt.put hpl hpM (by simp [textF, be_length]; omega) h2 e2 h3
    refine L.nil ?_
    refine N.seq ?_
    refine G.seq ?_
    refine G.region ?_
    refine L.val rfl rfl (R.as rfl) ?_
    refine L.nil ?_
    refine N.seq ?_
    refine G.ret1 rfl rfl ?_
    exact ⟨congrArg Value.bool (by rw [decide_eq_true (by omega)]), S3, by rw [if_pos (by omega)]; exact hP3, hG1.trans hG3⟩

theorem bytes_nil  (w : World) : Meets Try.prog 142 [.pointer none] w (fun v w' => v = .slice none 0 0 ∧ w' = w) := by
  refine Meets.enter Try.func142 rfl 10 rfl (Nat.le_of_ble_eq_true rfl) ?_
  refine G.seq ?_
  refine G.region ?_
  refine L.val rfl rfl (R.as rfl) ?_
  refine L.nil ?_
  refine N.seq ?_
  refine G.seq ?_
  refine G.seq ?_
  refine G.region ?_
  refine L.val rfl rfl (R.mv rfl) ?_
  refine L.val rfl rfl (R.eqNilP rfl rfl) ?_
  refine L.nil ?_
  refine N.seq ?_
  refine G.condT rfl ?_
  refine G.seq ?_
  refine G.region ?_
  refine L.val rfl rfl (R.as rfl) ?_
  refine L.nil ?_
  refine N.seq ?_
  refine G.ret1 rfl rfl ?_
  exact ⟨rfl, rfl⟩

theorem bytes_ok (p : Nat) (S : List Nat) (l : List UInt8) (w : World) (hP : PenAt 228 5 w p l S) (hl : l.length ≤ 70368744177664) : Meets Try.prog 142 [.pointer (some ⟨p, 0, none⟩)] w (Cloned w 5 1 l.length (vbs l)) := by
  refine Meets.enter Try.func142 rfl 10 rfl (Nat.le_of_ble_eq_true rfl) ?_
  refine G.seq ?_
  refine G.region ?_
  refine L.val rfl rfl (R.as rfl) ?_
  refine L.nil ?_
  refine N.seq ?_
  refine G.seq ?_
  refine G.seq ?_
  refine G.region ?_
  refine L.val rfl rfl (R.mv rfl) ?_
  refine L.val rfl rfl (R.eqNilP rfl rfl) ?_
  refine L.nil ?_
  refine N.seq ?_
  refine G.condF rfl ?_
  obtain ⟨a1, n1, c1, M1, rfl, hpM, rfl, hB, hO⟩ := hP
  refine G.skip ?_
  refine N.seq ?_
  refine G.seq ?_
  refine G.region ?_
  refine L.val rfl rfl (R.mv rfl) ?_
  refine L.val rfl rfl (R.nilChk rfl) ?_
  refine L.val rfl rfl (R.fld rfl) ?_
  refine L.val rfl rfl (R.ldB rfl hB rfl) ?_
  refine L.callF rfl rfl rfl go143 (clone_ok _ _ _ _ _ (Bs.of_own hO) (by omega)) ?_
  rintro v w1 h1
  refine L.val rfl rfl (R.as rfl) ?_
  refine L.nil ?_
  refine N.seq ?_
  refine G.ret1 rfl rfl ?_
  exact h1

theorem clip_ok (a : Option Addr) (n c : Nat) (w : World) (hn : n ≤ c) : Meets Try.prog 230 [.slice a n c] w (fun v w' => v = .slice a n n ∧ w' = w) := by
  refine Meets.enter Try.func230 rfl 9 rfl (Nat.le_of_ble_eq_true rfl) ?_
  refine G.seq ?_
  refine G.region ?_
  refine L.val rfl rfl (R.as rfl) ?_
  refine L.nil ?_
  refine N.seq ?_
  refine G.seq ?_
  refine G.region ?_
  refine L.val rfl rfl (R.mv rfl) ?_
  refine L.val rfl rfl (R.mv rfl) ?_
  refine L.val rfl rfl (R.lenS rfl) ?_
  refine L.val rfl rfl (R.mv rfl) ?_
  refine L.val rfl rfl (R.lenS rfl) ?_
  refine L.val rfl rfl (R.slHM rfl rfl rfl (by omega) (by omega) (by omega)) ?_
  refine L.val rfl rfl (R.as rfl) ?_
  refine L.nil ?_
  refine N.seq ?_
  refine G.ret1 rfl rfl ?_
  exact ⟨by rw [subA_zero]; rfl, rfl⟩

theorem padded_ok (p : Nat) (S : List Nat) (l : List UInt8) (y : Int) (w : World) (hP : PenAt 228 5 w p l S) (hl : l.length ≤ 70368744177664) (hy : -9223372036854775808 ≤ y ∧ y ≤ 70368744177664) : Meets Try.prog 198 [.pointer (some ⟨p, 0, none⟩), .int .i64 y] w (Cloned w 5 1 (padF y l).length (vbs (padF y l))) := by
  refine Meets.enter Try.func198 rfl 22 rfl (Nat.le_of_ble_eq_true rfl) ?_
  refine G.seq ?_
  refine G.region ?_
  refine L.val rfl rfl (R.as rfl) ?_
  refine L.nil ?_
  refine N.seq ?_
  refine G.seq ?_
  refine G.region ?_
  refine L.val rfl rfl (R.mv rfl) ?_
  refine L.callF rfl rfl rfl go142 (bytes_ok _ _ _ _ hP hl) ?_
  rintro _ w1 ⟨a1, c1, M1, rfl, e1, o1, hM1⟩
  refine L.val rfl rfl (R.as rfl) ?_
  refine L.nil ?_
  refine N.seq ?_
  refine G.seq ?_
  refine G.seq ?_
  refine G.region ?_
  refine L.val rfl rfl (R.mv rfl) ?_
  refine L.val rfl rfl (R.lss rfl rfl) ?_
  refine L.nil ?_
  refine N.seq ?_
  refine G.condP rfl (fun h0 => ?_) (fun h0 => ?_)
  · refine G.seq ?_
    refine G.region ?_
    refine L.val rfl rfl (R.mv rfl) ?_
    refine L.val rfl rfl (R.as rfl) ?_
    refine L.nil ?_
    refine N.seq ?_
    refine G.ret1 rfl rfl ?_
    exact ⟨a1, c1, M1, by unfold padF; rw [if_pos h0], e1, by unfold padF; rw [if_pos h0]; exact o1, hM1⟩
  · have hm := padN_lt (n := y.toNat) (k := l.length) (by omega)
    have hpi := padN_int (n := y) (k := l.length) (by omega)
    have hlm := Int.emod_nonneg (l.length : Int) (show y ≠ 0 by omega)
    have hlm2 := Int.emod_lt_of_pos (l.length : Int) (show 0 < y by omega)
    have hcl := o1.le
    have o2 : Own w1 5 1 a1 l.length l.length (vbs l) M1 := o1.clip
    have hpf : padF y l = l ++ List.replicate (padN y.toNat l.length) 0 := by unfold padF; rw [if_neg h0]
    refine G.skip ?_
    refine N.seq ?_
    refine G.seq ?_
    refine G.staged [10] [.blocks (M1)] [Ext [] w1, Ext M1 w1] [] (by decide +kernel) (by decide +kernel) rfl rfl rfl (fun _ h => h) ?_
    refine Z.val rfl rfl rfl rfl rfl (fun w2 => R.mv rfl) ?_
    refine Z.call (.slice a1 l.length l.length) 0 (by decide +kernel) rfl rfl rfl rfl rfl go230 (fun w2 hJ => ⟨_, rfl, (clip_ok _ _ _ _ hcl).mono (by rintro _ _ ⟨rfl, rfl⟩; exact ⟨rfl, Ext.refl _ _, hJ⟩)⟩) ?_
    refine Z.val rfl rfl rfl rfl rfl (fun w2 => R.mv rfl) ?_
    refine Z.val rfl rfl rfl rfl rfl (fun w2 => R.mv rfl) ?_
    refine Z.val rfl rfl rfl rfl rfl (fun w2 => R.lenS rfl) ?_
    refine Z.val rfl rfl rfl rfl rfl (fun w2 => R.mv rfl) ?_
    refine Z.val rfl rfl rfl rfl rfl (fun w2 => R.rem rfl rfl (by omega) (by omega)) ?_
    refine Z.val rfl rfl rfl rfl rfl (fun w2 => R.sub' rfl rfl (by omega)) ?_
    refine Z.val rfl rfl rfl rfl rfl (fun w2 => R.mv rfl) ?_
    refine Z.val rfl rfl rfl rfl rfl (fun w2 => R.rem rfl rfl (by omega) (by omega)) ?_
    refine Z.be 20 rfl (congrArg (Value.int .i64) hpi) ?_
    refine Z.put (A := Held M1 w1.heap.size 5 1 (padF y l).length (vbs (padF y l))) (Lasts.kill (Held.keep _ _ _ _ _ _) (by decide +kernel)) 0 (by decide +kernel) rfl rfl rfl rfl rfl rfl rfl (fun w2 hJ => (R.appZ rfl rfl (o2.ext0 hJ) (by simp [Value.cells, Value.oneCell']) (by simp [maxLen]; omega) (by omega) (by decide) (by decide)).mono (fun _ _ h => Held.app h hJ (by rw [hpf]; simp) (by rw [hpf, zeroCells_bytes]; simp [vbs]))) ?_
    refine Z.valR (A := Held M1 w1.heap.size 5 1 (padF y l).length (vbs (padF y l))) (Lasts.kill (Held.keep _ _ _ _ _ _) (by decide +kernel)) rfl rfl rfl rfl (fun w2 => fun v hv => ⟨v, R.as rfl, hv⟩) ?_
    refine Z.nil rfl rfl (fun w2 hJ => ?_)
    intro v4 h4 v21 _
    refine N.seq ?_
    refine G.ret1 rfl rfl ?_
    obtain ⟨a2, c2, M2, rfl, o3, hM2⟩ := h4
    exact ⟨a2, c2, M2, rfl, e1.trans hJ (by simp) (fun x hx => .inr (hM1 x hx)), o3, fun g hg => (hM2 g hg).elim (hM1 g) (Nat.le_trans e1.size)⟩

theorem refnumber_0 (x : Nat) (w : World) : Meets Try.prog 130 [.int .i64 x, .int .i64 0] w (fun v w' => v = .string (str (be 0 x)) ∧ Ext [] w w') := by
  refine Meets.enter Try.func130 rfl 18 rfl (Nat.le_of_ble_eq_true rfl) ?_
  refine G.seq ?_
  refine G.region ?_
  refine L.val rfl rfl (R.as rfl) ?_
  refine L.nil ?_
  refine N.seq ?_
  refine G.seq ?_
  refine G.seq ?_
  refine G.region ?_
  refine L.val rfl rfl (R.mv rfl) ?_
  refine L.val rfl rfl (R.eqI rfl rfl) ?_
  refine L.nil ?_
  refine N.seq ?_
  refine G.condT rfl ?_
  refine G.seq ?_
  refine G.region ?_
  refine L.val rfl rfl (R.as rfl) ?_
  refine L.nil ?_
  refine N.seq ?_
  refine G.ret1 rfl rfl ?_
  exact ⟨rfl, Ext.refl _ _⟩

theorem refnumber_s (x k : Nat) (w : World) (hx : x ≤ 9223372036854775807) (hk : k ≤ 100) (ih : ∀ (x : Nat) (w : World), x ≤ 9223372036854775807 → Meets Try.prog 130 [.int .i64 x, .int .i64 k] w (fun v w' => v = .string (str (be k x)) ∧ Ext [] w w')) : Meets Try.prog 130 [.int .i64 x, .int .i64 ((k + 1 : Nat) : Int)] w (fun v w' => v = .string (str (be (k + 1) x)) ∧ Ext [] w w') := by
  refine Meets.enter Try.func130 rfl 18 rfl (Nat.le_of_ble_eq_true rfl) ?_
  refine G.seq ?_
  refine G.region ?_
  refine L.val rfl rfl (R.as rfl) ?_
  refine L.nil ?_
  refine N.seq ?_
  refine G.seq ?_
  refine G.seq ?_
  refine G.region ?_
  refine L.val rfl rfl (R.mv rfl) ?_
  refine L.val rfl rfl (R.eqI rfl rfl) ?_
  refine L.nil ?_
  refine N.seq ?_
  refine G.condP rfl (fun h0 => ?_) (fun h0 => ?_)
  · exfalso
    omega
  · refine G.skip ?_
    refine N.seq ?_
    refine G.seq ?_
    refine G.quiet (by decide +kernel) rfl ?_
    refine Q.val rfl rfl rfl rfl (fun w1 hE => R.mv rfl) ?_
    refine Q.val rfl rfl rfl rfl (fun w1 hE => R.quo rfl rfl (by omega) (by omega)) ?_
    refine Q.be 8 rfl (congrArg (Value.int .i64) (show (x : Int) / 256 = ((x / 256 : Nat) : Int) by omega)) ?_
    refine Q.val rfl rfl rfl rfl (fun w1 hE => R.mv rfl) ?_
    refine Q.val rfl rfl rfl rfl (fun w1 hE => R.sub' rfl rfl (by omega)) ?_
    refine Q.be 10 rfl (congrArg (Value.int .i64) (show ((k + 1 : Nat) : Int) - 1 = (k : Int) by omega)) ?_
    refine Q.call (.string (str (be k (x / 256)))) rfl rfl rfl go130 (fun w1 hE => ⟨_, rfl, (ih (x / 256) _ (by omega)).mono (fun _ _ h => h)⟩) ?_
    refine Q.val rfl rfl rfl rfl (fun w1 hE => R.mv rfl) ?_
    refine Q.val rfl rfl rfl rfl (fun w1 hE => R.rem rfl rfl (by omega) (by omega)) ?_
    refine Q.val rfl rfl rfl rfl (fun w1 hE => R.conv rfl ((UInt8.ofNat (x % 256)).toNat : Int) (by simp only [UInt8.toNat_ofNat']; exact (wrap_u8 (by omega)).trans (by omega))) ?_
    refine Q.new (A := IsBs 1 [UInt8.ofNat (x % 256)]) (IsBs.keep _ _) rfl rfl rfl (fun w1 hE => (R.buildA rfl rfl rfl rfl rfl).mono (fun _ _ h => h.bs (l := [UInt8.ofNat (x % 256)]) rfl rfl)) ?_
    refine Q.val rfl rfl rfl rfl (fun w1 hE => fun v hv => by obtain ⟨a2, c2, rfl, _, hb2⟩ := hv; exact R.bytesStr rfl hb2.cells hb2.len) ?_
    refine Q.val rfl rfl rfl rfl (fun w1 hE => R.addStr rfl rfl (by simp [be_length]; omega)) ?_
    refine Q.val rfl rfl rfl rfl (fun w1 hE => R.as rfl) ?_
    refine Q.nil (fun w1 e1 => ?_)
    intro v15 _
    refine N.seq ?_
    refine G.ret1 rfl rfl ?_
    exact ⟨rfl, e1⟩

theorem refnumber_ok : ∀ (k : Nat) (x : Nat) (w : World), k ≤ 100 → x ≤ 9223372036854775807 → Meets Try.prog 130 [.int .i64 x, .int .i64 k] w (fun v w' => v = .string (str (be k x)) ∧ Ext [] w w')
  | 0, x, w, _, _ => refnumber_0 x w
  | k + 1, x, w, hk, hx => refnumber_s x k w hx (by omega) (fun x w hx => refnumber_ok k x w (by omega) hx)

theorem refnumberI_0 (x : Int) (w : World) : Meets Try.prog 130 [.int .i64 x, .int .i64 0] w (fun v w' => v = .string (str (bi 0 x)) ∧ Ext [] w w') := by
  refine Meets.enter Try.func130 rfl 18 rfl (Nat.le_of_ble_eq_true rfl) ?_
  refine G.seq ?_
  refine G.region ?_
  refine L.val rfl rfl (R.as rfl) ?_
  refine L.nil ?_
  refine N.seq ?_
  refine G.seq ?_
  refine G.seq ?_
  refine G.region ?_
  refine L.val rfl rfl (R.mv rfl) ?_
  refine L.val rfl rfl (R.eqI rfl rfl) ?_
  refine L.nil ?_
  refine N.seq ?_
  refine G.condT rfl ?_
  refine G.seq ?_
  refine G.region ?_
  refine L.val rfl rfl (R.as rfl) ?_
  refine L.nil ?_
  refine N.seq ?_
  refine G.ret1 rfl rfl ?_
  exact ⟨rfl, Ext.refl _ _⟩

theorem refnumberI_s (x : Int) (k : Nat) (w : World) (hx : -9223372036854775808 ≤ x ∧ x ≤ 9223372036854775807) (hk : k ≤ 100) (ih : ∀ (x : Int) (w : World), (-9223372036854775808 ≤ x ∧ x ≤ 9223372036854775807) → Meets Try.prog 130 [.int .i64 x, .int .i64 k] w (fun v w' => v = .string (str (bi k x)) ∧ Ext [] w w')) : Meets Try.prog 130 [.int .i64 x, .int .i64 ((k + 1 : Nat) : Int)] w (fun v w' => v = .string (str (bi (k + 1) x)) ∧ Ext [] w w') := by
  refine Meets.enter Try.func130 rfl 18 rfl (Nat.le_of_ble_eq_true rfl) ?_
  refine G.seq ?_
  refine G.region ?_
  refine L.val rfl rfl (R.as rfl) ?_
  refine L.nil ?_
  refine N.seq ?_
  refine G.seq ?_
  refine G.seq ?_
  refine G.region ?_
  refine L.val rfl rfl (R.mv rfl) ?_
  refine L.val rfl rfl (R.eqI rfl rfl) ?_
  refine L.nil ?_
  refine N.seq ?_
  refine G.condP rfl (fun h0 => ?_) (fun h0 => ?_)
  · exfalso
    omega
  · refine G.skip ?_
    refine N.seq ?_
    refine G.seq ?_
    refine G.quiet (by decide +kernel) rfl ?_
    refine Q.val rfl rfl rfl rfl (fun w1 hE => R.mv rfl) ?_
    refine Q.val rfl rfl rfl rfl (fun w1 hE => R.quoW rfl rfl (by decide) _ (wrap_i64 (tdiv_bounds hx))) ?_
    refine Q.val rfl rfl rfl rfl (fun w1 hE => R.mv rfl) ?_
    refine Q.val rfl rfl rfl rfl (fun w1 hE => R.sub' rfl rfl (by omega)) ?_
    refine Q.be 10 rfl (congrArg (Value.int .i64) (show ((k + 1 : Nat) : Int) - 1 = (k : Int) by omega)) ?_
    refine Q.call (.string (str (bi k (x.tdiv 256)))) rfl rfl rfl go130 (fun w1 hE => ⟨_, rfl, (ih (x.tdiv 256) _ (tdiv_bounds hx)).mono (fun _ _ h => h)⟩) ?_
    refine Q.val rfl rfl rfl rfl (fun w1 hE => R.mv rfl) ?_
    refine Q.val rfl rfl rfl rfl (fun w1 hE => R.remW rfl rfl (by decide) _ rfl) ?_
    refine Q.val rfl rfl rfl rfl (fun w1 hE => R.conv rfl _ (byteI_spec x)) ?_
    refine Q.new (A := IsBs 1 [byteI x]) (IsBs.keep _ _) rfl rfl rfl (fun w1 hE => (R.buildA rfl rfl rfl rfl rfl).mono (fun _ _ h => h.bs (l := [byteI x]) rfl rfl)) ?_
    refine Q.val rfl rfl rfl rfl (fun w1 hE => fun v hv => by obtain ⟨a2, c2, rfl, _, hb2⟩ := hv; exact R.bytesStr rfl hb2.cells hb2.len) ?_
    refine Q.val rfl rfl rfl rfl (fun w1 hE => R.addStr rfl rfl (by simp [bi_length]; omega)) ?_
    refine Q.val rfl rfl rfl rfl (fun w1 hE => R.as rfl) ?_
    refine Q.nil (fun w1 e1 => ?_)
    intro v15 _
    refine N.seq ?_
    refine G.ret1 rfl rfl ?_
    exact ⟨rfl, e1⟩

theorem refnumberI_ok : ∀ (k : Nat) (x : Int) (w : World), k ≤ 100 → (-9223372036854775808 ≤ x ∧ x ≤ 9223372036854775807) → Meets Try.prog 130 [.int .i64 x, .int .i64 k] w (fun v w' => v = .string (str (bi k x)) ∧ Ext [] w w')
  | 0, x, w, _, _ => refnumberI_0 x w
  | k + 1, x, w, hk, hx => refnumberI_s x k w hx (by omega) (fun x w hx => refnumberI_ok k x w (by omega) hx)

theorem reftext_ok (a : Option Addr) (n c : Nat) (k : List UInt8) (w : World) (hb : Bs w a n k) (hn : n ≤ 140737488351232) : Meets Try.prog 185 [.slice a n c] w (fun v w' => v = .string (str (textF k)) ∧ Ext [] w w') := by
  refine Meets.enter Try.func185 rfl 9 rfl (Nat.le_of_ble_eq_true rfl) ?_
  have hkl := hb.len
  subst hkl
  refine G.seq ?_
  refine G.region ?_
  refine L.val rfl rfl (R.as rfl) ?_
  refine L.nil ?_
  refine N.seq ?_
  refine G.seq ?_
  refine G.quiet (by decide +kernel) rfl ?_
  refine Q.val rfl rfl rfl rfl (fun w1 hE => R.mv rfl) ?_
  refine Q.val rfl rfl rfl rfl (fun w1 hE => R.lenS rfl) ?_
  refine Q.call (.string (str (be 2 k.length))) rfl rfl rfl go130 (fun w1 hE => ⟨_, rfl, (refnumber_ok 2 k.length _ (by omega) (by omega)).mono (fun _ _ h => h)⟩) ?_
  refine Q.val rfl rfl rfl rfl (fun w1 hE => R.mv rfl) ?_
  refine Q.val rfl rfl rfl rfl (fun w1 hE => R.bytesStr rfl (hb.ext0 hE).cells hb.len) ?_
  refine Q.val rfl rfl rfl rfl (fun w1 hE => R.addStr rfl rfl (by simp [be_length]; omega)) ?_
  refine Q.val rfl rfl rfl rfl (fun w1 hE => R.as rfl) ?_
  refine Q.nil (fun w1 e1 => ?_)
  refine N.seq ?_
  refine G.ret1 rfl rfl ?_
  exact ⟨rfl, e1⟩

theorem refpadded_ok (l : List UInt8) (y : Int) (w : World) (hy : -9223372036854775808 ≤ y ∧ y ≤ 70368744177664) (hl : l.length ≤ 70368744177664) : Meets Try.prog 187 [.string (str l), .int .i64 y] w (fun v w' => v = .string (str (padF y l)) ∧ w' = w) := by
  refine Meets.enter Try.func187 rfl 17 rfl (Nat.le_of_ble_eq_true rfl) ?_
  refine G.seq ?_
  refine G.region ?_
  refine L.val rfl rfl (R.as rfl) ?_
  refine L.nil ?_
  refine N.seq ?_
  refine G.seq ?_
  refine G.block ?_
  refine G.be 0 rfl (congrArg Value.string (show str l = str (l ++ List.replicate 0 0) by simp)) ?_
  refine G.loop (X := Nat) (fun j => [(0, .string (str (l ++ List.replicate j 0))), (1, .int .i64 y)]) (fun j w' => (if y < 1 then j = 0 else j ≤ padN y.toNat l.length) ∧ w' = w) (fun j => padN y.toNat l.length - j) (0) (Sub.cons rfl (Sub.cons rfl (Sub.nil _))) ⟨by split <;> simp, rfl⟩ ?_
  rintro j w1 ⟨hj, rfl⟩
  refine G.seq ?_
  refine G.seq ?_
  refine G.region ?_
  refine L.val rfl rfl (R.mv rfl) ?_
  refine L.val rfl rfl (R.gtr rfl rfl) ?_
  refine L.val rfl rfl (R.mv rfl) ?_
  refine L.caseP 7 rfl (fun hg1_2 => ?_) (fun hg1_2 => ?_)
  · have hy1 : ¬ y < 1 := by omega
    rw [if_neg hy1] at hj
    have hpl := padN_lt (n := y.toNat) (k := l.length) (by omega)
    refine L.val rfl rfl (R.mv rfl) ?_
    refine L.val rfl rfl (R.lenStr rfl) ?_
    refine L.be 9 rfl (congrArg (Value.int .i64) (show ((str (l ++ List.replicate j 0)).size : Int) = ((l.length + j : Nat) : Int) by rw [str_size]; simp)) ?_
    refine L.val rfl rfl (R.mv rfl) ?_
    refine L.val rfl rfl (R.rem rfl rfl (by omega) (by omega)) ?_
    refine L.val rfl rfl (R.neI rfl rfl) ?_
    first | refine L.val rfl rfl (R.pickT rfl rfl) ?_ | refine L.val rfl rfl (R.pickF rfl rfl) ?_
    refine L.nil ?_
    refine N.seq ?_
    refine G.condP rfl (fun h0 => ?_) (fun h0 => ?_)
    · have hne := mt (pad_end hy1 hj).2 h0
      have hlt : j < padN y.toNat l.length := by omega
      refine G.skip ?_
      refine N.seq ?_
      refine G.block ?_
      refine G.region ?_
      refine L.val rfl rfl (R.mv rfl) ?_
      refine L.val rfl rfl (R.addStr rfl rfl (by simp; omega)) ?_
      refine L.val rfl rfl (R.as rfl) ?_
      refine L.be 0 rfl (congrArg Value.string (show str (l ++ List.replicate j 0 ++ [0]) = str (l ++ List.replicate (j + 1) 0) by rw [List.append_assoc, List.replicate_succ'])) ?_
      refine L.nil ?_
      refine N.block ?_
      exact N.again (j + 1) (by omega) (Sub.cons rfl (Sub.cons rfl (Sub.nil _))) ⟨by rw [if_neg hy1]; omega, rfl⟩
    · refine G.exit _ rfl ?_
      refine N.seq ?_
      refine G.seq ?_
      refine G.region ?_
      refine L.val rfl rfl (R.mv rfl) ?_
      refine L.val rfl rfl (R.as rfl) ?_
      refine L.nil ?_
      refine N.seq ?_
      refine G.ret1 rfl rfl ?_
      obtain rfl := (pad_end hy1 hj).1 (by omega)
      exact ⟨by unfold padF; rw [if_neg hy1], rfl⟩
  · have hy1 : y < 1 := by omega
    rw [if_pos hy1] at hj
    refine L.pass rfl rfl ?_
    refine L.pass rfl rfl ?_
    refine L.pass rfl rfl ?_
    refine L.pass rfl rfl ?_
    refine L.pass rfl rfl ?_
    first | refine L.val rfl rfl (R.pickT rfl rfl) ?_ | refine L.val rfl rfl (R.pickF rfl rfl) ?_
    refine L.nil ?_
    refine N.seq ?_
    refine G.condF rfl ?_
    refine G.exit _ rfl ?_
    refine N.seq ?_
    refine G.seq ?_
    refine G.region ?_
    refine L.val rfl rfl (R.mv rfl) ?_
    refine L.val rfl rfl (R.as rfl) ?_
    refine L.nil ?_
    refine N.seq ?_
    refine G.ret1 rfl rfl ?_
    subst hj
    exact ⟨by unfold padF; rw [if_pos hy1]; simp, rfl⟩

end Go.Proofs.Ythpolibakkmmeaa
