/-
  The walks of the laws on pack.
-/
import Derived.Test.YtfbkbobphjncfaaPackF
set_option linter.unusedVariables false
namespace Go.Proofs.Ytfbkbobphjncfaa
open Go Brv Brv.Crc Brv.Pack
theorem packOrder_ok (x y z : Int) (w : World) (hx : -9223372036854775808 ≤ x ∧ x ≤ 9223372036854775807) (hy : -9223372036854775808 ≤ y ∧ y ≤ 9223372036854775807) (hz : -9223372036854775808 ≤ z ∧ z ≤ 9223372036854775807) : Meets Try.prog 10 [.int .i64 x, .int .i64 y, .int .i64 z] w (fun v w' => v = .bool true ∧ Ext [] w w') := by
  refine Meets.enter Try.func10 rfl 63 rfl (Nat.le_of_ble_eq_true rfl) ?_
  have E := Ext.refl [] w
  refine G.seq ?_
  refine G.region ?_
  refine L.val rfl rfl (R.as rfl) ?_
  refine L.nil ?_
  refine N.seq ?_
  refine G.seq ?_
  refine G.seq ?_
  refine G.region ?_
  refine L.callF rfl rfl rfl go31 (pack_first_ok _) ?_
  rintro _ w1 ⟨rfl, e1⟩
  replace E := E.trans0 e1
  have hw1 := E.size
  refine L.val rfl rfl (R.not rfl) ?_
  refine L.nil ?_
  refine N.seq ?_
  refine G.condF rfl ?_
  refine G.skip ?_
  refine N.seq ?_
  refine G.seq ?_
  refine G.region ?_
  refine L.val rfl rfl (R.build rfl rfl) ?_
  refine L.do rfl rfl (R.box rfl) ?_
  rintro _ w2 ⟨b14, rfl, hb14, hs14, e2, B14⟩
  replace E := E.trans0 e2
  refine L.val rfl rfl (R.build rfl rfl) ?_
  refine L.do rfl rfl (R.box rfl) ?_
  rintro _ w3 ⟨b16, rfl, hb16, hs16, e3, B16⟩
  replace E := E.trans0 e3
  have P := (PenAt.new (E := 5) B14).ext0 e3
  have U := PenAt.new (E := 5) B16
  have fP : ∀ g ∈ [b14], w.heap.size ≤ g := by intro g hg; rw [List.mem_singleton.1 hg]; omega
  have fQ : ∀ g ∈ [b16], w.heap.size ≤ g := by intro g hg; rw [List.mem_singleton.1 hg]; omega
  have hPQ : ∀ g ∈ [b16], g ∉ [b14] := by simp; omega
  refine L.val rfl rfl (R.as rfl) ?_
  refine L.val rfl rfl (R.as rfl) ?_
  refine L.nil ?_
  refine N.seq ?_
  refine G.seq ?_
  refine G.seq ?_
  refine G.region ?_
  refine L.val rfl rfl (R.mv rfl) ?_
  refine L.val rfl rfl (R.mv rfl) ?_
  refine L.val rfl rfl (R.mv rfl) ?_
  refine L.callF rfl rfl rfl go33 (number_ok _ _ _ _ _ _ P (by simp) hx hz) ?_
  have lQ := U.lt
  rintro _ w4 ⟨rfl, S2, P, G2⟩
  replace U := U.ext G2.1 hPQ
  have gQ := G2.apart hPQ lQ
  replace fP := G2.fresh fP E.size
  replace E := E.fresh G2.1 (by intro g hg; rw [List.mem_singleton.1 hg]; omega)
  refine L.val rfl rfl (R.not rfl) ?_
  refine L.val rfl rfl (R.mv rfl) ?_
  refine L.caseB 22 rfl (fun hg4_5 => ?_) (fun hg4_5 => ?_)
  · refine L.pass rfl rfl ?_
    refine L.pass rfl rfl ?_
    refine L.pass rfl rfl ?_
    refine L.pass rfl rfl ?_
    refine L.pass rfl rfl ?_
    first | refine L.val rfl rfl (R.pickT rfl rfl) ?_ | refine L.val rfl rfl (R.pickF rfl rfl) ?_
    refine L.nil ?_
    refine N.seq ?_
    refine G.condT rfl ?_
    refine G.seq ?_
    refine G.region ?_
    refine L.val rfl rfl (R.as rfl) ?_
    refine L.nil ?_
    refine N.seq ?_
    refine G.ret1 rfl rfl ?_
    exact ⟨rfl, E⟩
  · have hfx : fitsF x z = true := by simpa using hg4_5
    refine L.val rfl rfl (R.mv rfl) ?_
    refine L.val rfl rfl (R.mv rfl) ?_
    refine L.val rfl rfl (R.mv rfl) ?_
    refine L.callF rfl rfl rfl go33 (number_ok _ _ _ _ _ _ U (by simp) hy hz) ?_
    have lP := P.lt
    rintro _ w5 ⟨rfl, S3, U, G3⟩
    replace P := P.ext G3.1 (fun g hg h => gQ g h hg)
    replace E := E.fresh G3.1 fQ
    refine L.val rfl rfl (R.not rfl) ?_
    first | refine L.val rfl rfl (R.pickT rfl rfl) ?_ | refine L.val rfl rfl (R.pickF rfl rfl) ?_
    refine L.nil ?_
    refine N.seq ?_
    refine G.condB rfl (fun h1 => ?_) (fun h1 => ?_)
    · refine G.seq ?_
      refine G.region ?_
      refine L.val rfl rfl (R.as rfl) ?_
      refine L.nil ?_
      refine N.seq ?_
      refine G.ret1 rfl rfl ?_
      exact ⟨rfl, E⟩
    · have hfy : fitsF y z = true := by simpa using h1
      rw [hfx, if_pos rfl, List.nil_append] at P
      rw [hfy, if_pos rfl, List.nil_append] at U
      have hx2 := fitsF_spec.1 hfx
      have hy2 := fitsF_spec.1 hfy
      refine G.skip ?_
      refine N.seq ?_
      refine G.seq ?_
      refine G.quiet (by decide +kernel) rfl ?_
      refine Q.val rfl rfl rfl rfl (fun w6 hE => R.mv rfl) ?_
      refine Q.callR (A := IsBs (be z.toNat x.toNat).length (be z.toNat x.toNat)) (IsBs.keep _ _) rfl rfl go37 (fun w6 hE => ⟨_, rfl, (bytes_ok _ _ _ _ (P.ext0 hE) (by rw [be_length]; omega)).mono (fun _ _ h => ⟨h.is, h.ext⟩)⟩) ?_
      refine Q.val rfl rfl rfl rfl (fun w6 hE => fun v hv => by obtain ⟨x1, y1, rfl, _, hv⟩ := hv; exact R.bytesStr rfl hv.cells hv.len) ?_
      refine Q.val rfl rfl rfl rfl (fun w6 hE => R.mv rfl) ?_
      refine Q.callR (A := IsBs (be z.toNat y.toNat).length (be z.toNat y.toNat)) (IsBs.keep _ _) rfl rfl go37 (fun w6 hE => ⟨_, rfl, (bytes_ok _ _ _ _ (U.ext0 hE) (by rw [be_length]; omega)).mono (fun _ _ h => ⟨h.is, h.ext⟩)⟩) ?_
      refine Q.val rfl rfl rfl rfl (fun w6 hE => fun v hv => by obtain ⟨x1, y1, rfl, _, hv⟩ := hv; exact R.bytesStr rfl hv.cells hv.len) ?_
      refine Q.val rfl rfl rfl rfl (fun w6 hE => R.as rfl) ?_
      refine Q.val rfl rfl rfl rfl (fun w6 hE => R.as rfl) ?_
      refine Q.nil (fun w6 e6 => ?_)
      intro v33 _ v30 _
      replace E := E.trans0 e6
      refine N.seq ?_
      refine G.seq ?_
      refine G.region ?_
      refine L.val rfl rfl (R.mv rfl) ?_
      refine L.val rfl rfl (R.lenStr rfl) ?_
      refine L.val rfl rfl (R.mv rfl) ?_
      refine L.val rfl rfl (R.eqI rfl rfl) ?_
      refine L.val rfl rfl (R.mv rfl) ?_
      refine L.isT 39 rfl (by rw [str_size, be_length, decide_eq_true_iff]; omega) ?_
      refine L.val rfl rfl (R.mv rfl) ?_
      refine L.val rfl rfl (R.lenStr rfl) ?_
      refine L.val rfl rfl (R.mv rfl) ?_
      refine L.val rfl rfl (R.eqI rfl rfl) ?_
      first | refine L.val rfl rfl (R.pickT rfl rfl) ?_ | refine L.val rfl rfl (R.pickF rfl rfl) ?_
      refine L.val rfl rfl (R.mv rfl) ?_
      refine L.isT 45 rfl (by rw [str_size, be_length, decide_eq_true_iff]; omega) ?_
      refine L.val rfl rfl (R.mv rfl) ?_
      refine L.val rfl rfl (R.mv rfl) ?_
      refine L.val rfl rfl (R.ltStr rfl rfl) ?_
      refine L.val rfl rfl (R.mv rfl) ?_
      refine L.val rfl rfl (R.mv rfl) ?_
      refine L.val rfl rfl (R.lss rfl rfl) ?_
      refine L.val rfl rfl (R.eqB rfl rfl) ?_
      first | refine L.val rfl rfl (R.pickT rfl rfl) ?_ | refine L.val rfl rfl (R.pickF rfl rfl) ?_
      refine L.val rfl rfl (R.mv rfl) ?_
      refine L.isT 54 rfl (be_less hx2 hy2) ?_
      refine L.val rfl rfl (R.mv rfl) ?_
      refine L.val rfl rfl (R.mv rfl) ?_
      refine L.val rfl rfl (R.eqStr rfl rfl) ?_
      refine L.val rfl rfl (R.mv rfl) ?_
      refine L.val rfl rfl (R.mv rfl) ?_
      refine L.val rfl rfl (R.eqI rfl rfl) ?_
      refine L.val rfl rfl (R.eqB rfl rfl) ?_
      first | refine L.val rfl rfl (R.pickT rfl rfl) ?_ | refine L.val rfl rfl (R.pickF rfl rfl) ?_
      refine L.val rfl rfl (R.as rfl) ?_
      refine L.nil ?_
      refine N.seq ?_
      refine G.ret1 rfl rfl ?_
      exact ⟨congrArg Value.bool (be_same hx2 hy2), E⟩

end Go.Proofs.Ytfbkbobphjncfaa
