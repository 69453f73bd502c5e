/-
  The walks of the laws on pack.
-/
import Derived.Test.YtfbkbobphjncfaaScan
set_option linter.unusedVariables false
namespace Go.Proofs.Ytfbkbobphjncfaa
open Go Brv Brv.Crc Brv.Pack
theorem go31 : ∀ (vs : Array Value) w, (callFunc 31 vs).run Try.prog w = .ok (.enter 31 vs) w := callFunc_run Try.func31 (by decide) rfl

theorem pack_first_ok  (w : World) : Meets Try.prog 31 [] w (fun v w' => v = .bool true ∧ Ext [] w w') := by
  refine Meets.enter Try.func31 rfl 73 rfl (Nat.le_of_ble_eq_true rfl) ?_
  have E := Ext.refl [] w
  refine G.seq ?_
  refine G.region ?_
  refine L.val rfl rfl (R.as rfl) ?_
  refine L.nil ?_
  refine N.seq ?_
  refine G.seq ?_
  refine G.region ?_
  refine L.val rfl rfl (R.build rfl rfl) ?_
  refine L.do rfl rfl (R.box rfl) ?_
  rintro _ w1 ⟨b7, rfl, hb7, hs7, e1, B7⟩
  replace E := E.trans0 e1
  have P1 := PenAt.new (E := 5) B7
  have f1 : ∀ g ∈ [b7], w.heap.size ≤ g := by intro g hg; rw [List.mem_singleton.1 hg]; omega
  refine L.val rfl rfl (R.as rfl) ?_
  refine L.nil ?_
  refine N.seq ?_
  refine G.seq ?_
  refine G.region ?_
  refine L.val rfl rfl (R.mv rfl) ?_
  refine L.callF rfl rfl rfl go33 (number_ok _ _ _ _ _ _ P1 (by decide) (by decide) (by decide)) ?_
  rintro _ w2 ⟨rfl, S2, P2, G2⟩
  have f2 := G2.fresh f1 E.size
  replace E := E.fresh G2.1 f1
  replace P2 : PenAt 53 5 w2 b7 [1, 44] S2 := P2
  refine L.val rfl rfl (R.mv rfl) ?_
  refine L.callF rfl rfl rfl go33 (number_ok _ _ _ _ _ _ P2 (by decide) (by decide) (by decide)) ?_
  rintro _ w3 ⟨rfl, S3, P3, G3⟩
  have f3 := G3.fresh f2 E.size
  replace E := E.fresh G3.1 f2
  replace P3 : PenAt 53 5 w3 b7 [1, 44] S3 := P3
  refine L.val rfl rfl (R.as rfl) ?_
  refine L.val rfl rfl (R.as rfl) ?_
  refine L.nil ?_
  refine N.seq ?_
  refine G.seq ?_
  refine G.region ?_
  refine L.val rfl rfl (R.mv rfl) ?_
  refine L.do rfl rfl (R.buildA rfl rfl rfl rfl rfl) ?_
  rintro _ w4 ⟨b13, rfl, hb13, hs13, e4, B13⟩
  have E0 := E
  refine L.do rfl rfl (R.bytesBytes rfl B13) ?_
  rintro _ w5 ⟨fz13, rfl, e5, hs5, B13⟩
  have e5 := e4.trans (M := []) e5 (by simp) (by simp; omega)
  have l3 := P3.lt
  replace P3 := P3.ext0 e5
  replace E := E0.trans0 e5
  have L13 := Bs.of_blk B13 [120, 121] rfl _ rfl
  refine L.callF rfl rfl rfl go35 (text_ok _ _ _ _ _ _ _ _ P3 (by decide) L13 (by decide) (fun _ he => L13.ext he (by intro q hq h; cases hq; have := l3 _ h; simp at this; omega))) ?_
  rintro _ w6 ⟨rfl, S6, P6, G6⟩
  have f6 := G6.fresh f3 E.size
  replace E := E.fresh G6.1 f3
  replace P6 : PenAt 53 5 w6 b7 [1, 44, 0, 2, 120, 121] S6 := P6
  refine L.val rfl rfl (R.as rfl) ?_
  refine L.nil ?_
  refine N.seq ?_
  refine G.seq ?_
  refine G.region ?_
  refine L.val rfl rfl (R.mv rfl) ?_
  refine L.callF rfl rfl rfl go38 (padded_ok _ _ _ _ _ P6 (by decide) (by decide)) ?_
  rintro _ w7 ⟨a1, c1, M1, rfl, e7, o7, h7⟩
  replace E := E.trans0 e7
  rw [show padF 8 [1, 44, 0, 2, 120, 121] = [1, 44, 0, 2, 120, 121, 0, 0] by decide +kernel] at *
  refine L.callF rfl rfl rfl go40 (new_ok _ _ _ _ _ (Bs.of_own o7) (by decide)) ?_
  rintro _ w8 ⟨s, D, rfl, Q, e8, hs8, hD8⟩
  have f8 : ∀ g ∈ [s], w.heap.size ≤ g := by intro g hg; rw [List.mem_singleton.1 hg]; exact Nat.le_trans E.size hs8
  replace E := E.trans0 e8
  replace P6 := P6.ext0 (e7.trans0 e8)
  refine L.val rfl rfl (R.as rfl) ?_
  refine L.nil ?_
  refine N.seq ?_
  refine G.seq ?_
  refine G.region ?_
  refine L.val rfl rfl (R.mv rfl) ?_
  refine L.val rfl rfl (R.mv rfl) ?_
  refine L.isT 20 rfl (by decide +kernel) ?_
  refine L.val rfl rfl (R.mv rfl) ?_
  refine L.val rfl rfl (R.not rfl) ?_
  first | refine L.val rfl rfl (R.pickT rfl rfl) ?_ | refine L.val rfl rfl (R.pickF rfl rfl) ?_
  refine L.val rfl rfl (R.mv rfl) ?_
  refine L.isT 24 rfl (by decide +kernel) ?_
  refine L.val rfl rfl (R.mv rfl) ?_
  first | refine L.val rfl rfl (R.pickT rfl rfl) ?_ | refine L.val rfl rfl (R.pickF rfl rfl) ?_
  refine L.val rfl rfl (R.mv rfl) ?_
  refine L.isT 27 rfl (by decide +kernel) ?_
  refine L.val rfl rfl (R.mv rfl) ?_
  refine L.callF rfl rfl rfl go37 (bytes_ok _ _ _ _ P6 (by decide)) ?_
  rintro _ w9 ⟨a2, c2, M2, rfl, e9, o9, h9⟩
  replace E := E.trans0 e9
  replace Q := Q.ext0 e9
  refine L.val rfl rfl (R.bytesStr rfl (Bs.of_own o9).cells (Bs.of_own o9).len) ?_
  refine L.val rfl rfl (R.eqStr (b := [1, 44, 0, 2, 120, 121]) rfl rfl) ?_
  first | refine L.val rfl rfl (R.pickT rfl rfl) ?_ | refine L.val rfl rfl (R.pickF rfl rfl) ?_
  refine L.val rfl rfl (R.mv rfl) ?_
  refine L.isT 33 rfl (by decide +kernel) ?_
  refine L.val rfl rfl (R.mv rfl) ?_
  refine L.callF rfl rfl rfl go46 (scanleft_ok _ _ _ _ _ Q (by decide)) ?_
  rintro _ _ ⟨rfl, hw⟩
  obtain rfl := hw.symm
  refine L.val rfl rfl (R.eqI rfl rfl) ?_
  first | refine L.val rfl rfl (R.pickT rfl rfl) ?_ | refine L.val rfl rfl (R.pickF rfl rfl) ?_
  refine L.val rfl rfl (R.mv rfl) ?_
  refine L.isT 38 rfl (by decide +kernel) ?_
  refine L.val rfl rfl (R.mv rfl) ?_
  refine L.callF rfl rfl rfl go41 (scannum_ok _ _ _ _ _ _ Q (by decide)) ?_
  rintro _ w10 ⟨rfl, Q, e10⟩
  rw [show numF [1, 44, 0, 2, 120, 121, 0, 0] 0 2 = (300, [0, 2, 120, 121, 0, 0], 0) by decide +kernel] at Q
  replace E := E.fresh e10 f8
  refine L.val rfl rfl (R.eqI rfl rfl) ?_
  first | refine L.val rfl rfl (R.pickT rfl rfl) ?_ | refine L.val rfl rfl (R.pickF rfl rfl) ?_
  refine L.val rfl rfl (R.mv rfl) ?_
  refine L.isT 43 rfl (by decide +kernel) ?_
  refine L.val rfl rfl (R.mv rfl) ?_
  refine L.callF rfl rfl rfl go43 (scantext_ok _ _ _ _ _ _ Q (by decide)) ?_
  rintro _ w11 ⟨a3, c3, rfl, hc3, b3, _, Q, e11⟩
  rw [show txtF [0, 2, 120, 121, 0, 0] 0 2 = ([120, 121], [0, 0], 0) by decide +kernel] at *
  replace E := E.fresh e11 f8
  refine L.val rfl rfl (R.bytesStr rfl b3.cells b3.len) ?_
  refine L.val rfl rfl (R.eqStr (b := [120, 121]) rfl rfl) ?_
  first | refine L.val rfl rfl (R.pickT rfl rfl) ?_ | refine L.val rfl rfl (R.pickF rfl rfl) ?_
  refine L.val rfl rfl (R.mv rfl) ?_
  refine L.isT 49 rfl (by decide +kernel) ?_
  refine L.val rfl rfl (R.mv rfl) ?_
  refine L.callF rfl rfl rfl go47 (scannought_ok _ _ _ _ _ Q (by decide)) ?_
  rintro _ _ ⟨rfl, hw⟩
  obtain rfl := hw.symm
  first | refine L.val rfl rfl (R.pickT rfl rfl) ?_ | refine L.val rfl rfl (R.pickF rfl rfl) ?_
  refine L.val rfl rfl (R.mv rfl) ?_
  refine L.isT 53 rfl (by decide +kernel) ?_
  refine L.val rfl rfl (R.mv rfl) ?_
  refine L.callF rfl rfl rfl go45 (scanerr_ok _ _ _ _ _ Q (by decide)) ?_
  rintro _ _ ⟨rfl, hw⟩
  obtain rfl := hw.symm
  refine L.val rfl rfl (R.eqI rfl rfl) ?_
  first | refine L.val rfl rfl (R.pickT rfl rfl) ?_ | refine L.val rfl rfl (R.pickF rfl rfl) ?_
  refine L.val rfl rfl (R.mv rfl) ?_
  refine L.isT 58 rfl (by decide +kernel) ?_
  refine L.val rfl rfl (R.mv rfl) ?_
  refine L.callF rfl rfl rfl go41 (scannum_ok _ _ _ _ _ _ Q (by decide)) ?_
  rintro _ w12 ⟨rfl, Q, e12⟩
  rw [show numF [0, 0] 0 3 = (0, [0, 0], 20) by decide +kernel] at Q
  replace E := E.fresh e12 f8
  refine L.val rfl rfl (R.eqI rfl rfl) ?_
  first | refine L.val rfl rfl (R.pickT rfl rfl) ?_ | refine L.val rfl rfl (R.pickF rfl rfl) ?_
  refine L.val rfl rfl (R.mv rfl) ?_
  refine L.isT 63 rfl (by decide +kernel) ?_
  refine L.val rfl rfl (R.mv rfl) ?_
  refine L.callF rfl rfl rfl go45 (scanerr_ok _ _ _ _ _ Q (by decide)) ?_
  rintro _ _ ⟨rfl, hw⟩
  obtain rfl := hw.symm
  refine L.val rfl rfl (R.eqI rfl rfl) ?_
  first | refine L.val rfl rfl (R.pickT rfl rfl) ?_ | refine L.val rfl rfl (R.pickF rfl rfl) ?_
  refine L.val rfl rfl (R.mv rfl) ?_
  refine L.isT 68 rfl (by decide +kernel) ?_
  refine L.val rfl rfl (R.mv rfl) ?_
  refine L.callF rfl rfl rfl go46 (scanleft_ok _ _ _ _ _ Q (by decide)) ?_
  rintro _ _ ⟨rfl, hw⟩
  obtain rfl := hw.symm
  refine L.val rfl rfl (R.eqI rfl rfl) ?_
  first | refine L.val rfl rfl (R.pickT rfl rfl) ?_ | refine L.val rfl rfl (R.pickF rfl rfl) ?_
  refine L.val rfl rfl (R.as rfl) ?_
  refine L.nil ?_
  refine N.seq ?_
  refine G.ret1 rfl rfl ?_
  exact ⟨congrArg Value.bool (by decide +kernel), E⟩

end Go.Proofs.Ytfbkbobphjncfaa
