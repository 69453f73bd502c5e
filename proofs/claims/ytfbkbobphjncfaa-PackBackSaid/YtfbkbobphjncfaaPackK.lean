/-
  The walks of the laws on pack.
-/
import Derived.Test.YtfbkbobphjncfaaPackF
import Derived.Test.YtfbkbobphjncfaaPackC
set_option linter.unusedVariables false
namespace Go.Proofs.Ytfbkbobphjncfaa
open Go Brv Brv.Crc Brv.Pack
theorem packBack_ok (a : Option Addr) (n c : Nat) (os : List OpV) (w : World) (hT : Tab w a n 4 (os.map OpV.cells)) (hO : ∀ o ∈ os, o.ok w) (hc : n ≤ 2932031007402) : Meets Try.prog 9 [.slice a n c] w (fun v w' => v = .bool true ∧ Ext [] w w') := by
  refine Meets.enter Try.func9 rfl 105 rfl (Nat.le_of_ble_eq_true rfl) ?_
  have E := Ext.refl [] w
  have hn := hT.len
  rw [List.length_map] at hn
  refine G.seq ?_
  refine G.region ?_
  refine L.val rfl rfl (R.as rfl) ?_
  refine L.nil ?_
  refine N.seq ?_
  refine G.seq ?_
  refine G.seq ?_
  refine G.region ?_
  refine L.callF rfl rfl rfl go31 (pack_first_ok _) ?_
  rintro _ w1 ⟨rfl, e1⟩
  replace E := E.trans0 e1
  have hw1 := E.size
  refine L.val rfl rfl (R.not rfl) ?_
  refine L.nil ?_
  refine N.seq ?_
  refine G.condF rfl ?_
  refine G.skip ?_
  refine N.seq ?_
  refine G.seq ?_
  refine G.region ?_
  refine L.val rfl rfl (R.build rfl rfl) ?_
  refine L.do rfl rfl (R.box rfl) ?_
  rintro _ w2 ⟨p, rfl, hb14, hs14, e2, B14⟩
  replace E := E.trans0 e2
  have P0 := PenAt.new (E := 5) B14
  have f0 : ∀ g ∈ [p], w.heap.size ≤ g := by intro g hg; rw [List.mem_singleton.1 hg]; omega
  have hw2 := E.size
  refine L.val rfl rfl (R.as rfl) ?_
  refine L.nil ?_
  refine N.seq ?_
  refine G.seq ?_
  refine G.region ?_
  refine L.do rfl rfl (R.buildS rfl (by decide) rfl) ?_
  rintro _ w3 ⟨b5, rfl, hb5, hs5, e3, B5⟩
  replace E := E.trans0 e3
  have o0 : Own w3 55 4 (some ⟨b5, 0, none⟩) 0 0 (cellsL (dnOps (os.take 0))) [b5] := by
    have := Own.blk (n := 0) (size := 4) B5 (by simp) (by decide)
    simpa [cellsL, dnOps] using this
  replace P0 := P0.ext0 e3
  refine L.val rfl rfl (R.as rfl) ?_
  refine L.nil ?_
  refine N.seq ?_
  refine G.seq ?_
  refine G.seq ?_
  refine G.region ?_
  refine L.val rfl rfl (R.mv rfl) ?_
  refine L.val rfl rfl (R.lenS rfl) ?_
  refine L.val rfl rfl (R.mv rfl) ?_
  refine L.nil ?_
  refine N.seq ?_
  refine G.block ?_
  refine G.loop (X := Nat × Option Addr × Nat × Nat) (fun q => [(3, .pointer (some ⟨p, 0, none⟩)), (4, .slice q.2.1 q.2.2.1 q.2.2.2), (15, .slice a n c), (16, .int .i64 n), (17, .int .i64 (q.1 : Nat))]) (fun q w' => q.1 ≤ n ∧ q.1 ≤ 60 ∧ q.2.2.1 = (dnOps (os.take q.1)).length ∧ q.2.2.1 ≤ q.1 ∧ (encL (dnOps (os.take q.1))).length ≤ 402 * q.1 ∧ (∀ x ∈ dnOps (os.take q.1), x.B'.length ≤ 400) ∧ Ext [] w w' ∧ ∃ S M, PenAt 53 5 w' p (encL (dnOps (os.take q.1))) S ∧ (∀ g ∈ S, w.heap.size ≤ g) ∧ Own w' 55 4 q.2.1 q.2.2.1 q.2.2.2 (cellsL (dnOps (os.take q.1))) M ∧ ∀ g ∈ M, w.heap.size ≤ g) (fun q => n - q.1) ((0, some ⟨b5, 0, none⟩, 0, 0)) (Sub.cons rfl (Sub.cons rfl (Sub.cons rfl (Sub.cons rfl (Sub.cons rfl (Sub.nil _)))))) ⟨by simp, by simp, rfl, Nat.le_refl _, by simp [dnOps, encL], by simp [dnOps], E, _, _, P0, f0, o0, by intro g hg; rw [List.mem_singleton.1 hg]; omega⟩ ?_
  rintro ⟨k, a1, m, c1⟩ w1 ⟨hk, hk60, hm, hmk, hlen, hBl, E, S, M, hP, f, hM, fM⟩
  dsimp only at hk hk60 hm hmk hlen hBl hP hM
  refine G.be 4 rfl (show _ = Value.slice a1 m c1 from rfl) ?_
  refine G.be 17 rfl (show _ = Value.int .i64 (k : Nat) from rfl) ?_
  refine G.seq ?_
  refine G.region ?_
  refine L.val rfl rfl (R.lss rfl rfl) ?_
  refine L.nil ?_
  refine N.seq ?_
  refine G.seq ?_
  refine G.condP rfl (fun h1 => ?_) (fun h1 => ?_)
  · refine G.skip ?_
    refine N.seq ?_
    refine G.seq ?_
    refine G.block ?_
    refine G.seq ?_
    refine G.region ?_
    refine L.val rfl rfl (R.mv rfl) ?_
    obtain ⟨q, hq, hcl⟩ := hT.at (by decide) k (by rw [List.length_map]; omega)
    rw [List.getElem_map] at hcl
    obtain ⟨hk0, hk1, hk2, hk3⟩ := hO _ (List.getElem_mem (show k < os.length by omega))
    generalize hoe : os[k]'(by omega) = o at *
    refine L.val rfl rfl (R.idx rfl rfl (by omega) (by omega) q hq) ?_
    refine L.val rfl rfl (R.ldN rfl (hcl.ext0 E) rfl) ?_
    refine L.do rfl rfl (R.alloc) ?_
    rintro _ w2 ⟨b9, rfl, hb9, hs9, e2, B9⟩
    have lP := hP.lt
    have hbS : b9 ∉ S := fun h => by have := lP _ h; omega
    replace hP := hP.ext0 e2
    have hEb := E.size
    replace E := E.trans0 e2
    have hMb : ∀ g ∈ M, g ≠ b9 := fun g hg => by have := hM.lt g hg; omega
    replace hM := hM.ext0 e2
    refine L.val rfl rfl (R.as rfl) ?_
    refine L.set rfl (R.stN rfl rfl B9 rfl (Nat.le_refl 4) (OpV.cells.one _)) ?_
    rintro w3 ⟨e3, hs3, B9⟩
    replace B9 : Blk w3 b9 o.cells.toArray 55 (0, 0) := B9
    replace hP := hP.ext e3 (fun x hx h => hbS (by rw [← List.mem_singleton.1 h]; exact hx))
    replace E := E.trans e3 (M := []) (by simp) (by intro x hx; rw [List.mem_singleton.1 hx]; exact .inr (by omega))
    replace hM := hM.ext e3 (by simpa using hMb)
    refine L.nil ?_
    refine N.seq ?_
    refine G.seq ?_
    refine G.seq ?_
    refine G.region ?_
    refine L.val rfl rfl (R.mv rfl) ?_
    refine L.val rfl rfl (R.geq rfl rfl) ?_
    refine L.val rfl rfl (R.mv rfl) ?_
    refine L.caseP 24 rfl (fun hg8_2 => ?_) (fun hg8_2 => ?_)
    · refine L.pass rfl rfl ?_
      refine L.pass rfl rfl ?_
      refine L.pass rfl rfl ?_
      refine L.pass rfl rfl ?_
      first | refine L.val rfl rfl (R.pickT rfl rfl) ?_ | refine L.val rfl rfl (R.pickF rfl rfl) ?_
      refine L.nil ?_
      refine N.seq ?_
      refine G.condT rfl ?_
      refine G.seq ?_
      refine G.region ?_
      refine L.val rfl rfl (R.as rfl) ?_
      refine L.nil ?_
      refine N.seq ?_
      refine G.ret1 rfl rfl ?_
      exact ⟨rfl, E⟩
    · refine L.val rfl rfl (R.fld rfl) ?_
      refine L.val rfl rfl (R.ldB rfl B9 rfl) ?_
      refine L.val rfl rfl (R.lenS rfl) ?_
      refine L.val rfl rfl (R.gtr rfl rfl) ?_
      first | refine L.val rfl rfl (R.pickT rfl rfl) ?_ | refine L.val rfl rfl (R.pickF rfl rfl) ?_
      refine L.nil ?_
      refine N.seq ?_
      refine G.condP rfl (fun h2 => ?_) (fun h2 => ?_)
      · refine G.seq ?_
        refine G.region ?_
        refine L.val rfl rfl (R.as rfl) ?_
        refine L.nil ?_
        refine N.seq ?_
        refine G.ret1 rfl rfl ?_
        exact ⟨rfl, E⟩
      · have hbl : o.B'.length ≤ 400 := by rw [← hk3.2.2.len]; omega
        have hdn := dnOps_succ (show k < os.length by omega)
        rw [hoe] at hdn
        refine G.skip ?_
        refine N.seq ?_
        refine G.seq ?_
        refine G.region ?_
        refine L.val rfl rfl (R.fld rfl) ?_
        refine L.val rfl rfl (R.ldB rfl B9 rfl) ?_
        refine L.val rfl rfl (R.remW rfl rfl (by omega) _ rfl) ?_
        refine L.val rfl rfl (R.eqI rfl rfl) ?_
        refine L.val rfl rfl (R.mv rfl) ?_
        refine L.caseP 34 rfl (fun hg10_4 => ?_) (fun hg10_4 => ?_)
        · refine L.val rfl rfl (R.mv rfl) ?_
          refine L.val rfl rfl (R.fld rfl) ?_
          refine L.val rfl rfl (R.ldB rfl B9 rfl) ?_
          refine L.val rfl rfl (R.fld rfl) ?_
          refine L.val rfl rfl (R.ldB rfl B9 rfl) ?_
          refine L.callF rfl rfl rfl go33 (number_ok _ _ _ _ _ _ hP (by omega) (wf_i64 hk1) (wf_i64 hk2)) ?_
          rintro _ w4 ⟨rfl, S2, hP2, G4⟩
          have f2 := G4.fresh f E.size
          replace E := E.fresh G4.1 f
          replace B9 := B9.ext G4.1 hbS
          have hM2 := hM.ext G4.1 (fun g hg h => hP.apart hM (by decide) (by decide) g h hg)
          first | refine L.val rfl rfl (R.pickT rfl rfl) ?_ | refine L.val rfl rfl (R.pickF rfl rfl) ?_
          refine L.val rfl rfl (R.mv rfl) ?_
          refine L.caseB 42 rfl (fun hg10_12 => ?_) (fun hg10_12 => ?_)
          · have hwr : wrote o = true := by rw [wrote_num hg10_4]; exact hg10_12
            rw [hg10_12, if_pos rfl] at hP2
            rw [hwr, if_pos rfl] at hdn
            have hen : encL (dnOps (os.take (k + 1))) = encL (dnOps (os.take k)) ++ be o.W'.toNat o.N'.toNat := by rw [hdn, encL_append, encL_one, encOp_num hg10_4]
            have hle : (be o.W'.toNat o.N'.toNat).length ≤ 402 := by have := (fitsF_spec.1 hg10_12).2.1; rw [be_length]; omega
            rw [← hen] at hP2
            have hlen2 : (encL (dnOps (os.take (k + 1)))).length ≤ 402 * (k + 1) := by rw [hen, List.length_append]; omega
            refine L.pass rfl rfl ?_
            refine L.pass rfl rfl ?_
            refine L.pass rfl rfl ?_
            refine L.pass rfl rfl ?_
            refine L.pass rfl rfl ?_
            refine L.pass rfl rfl ?_
            refine L.pass rfl rfl ?_
            refine L.pass rfl rfl ?_
            refine L.pass rfl rfl ?_
            refine L.pass rfl rfl ?_
            first | refine L.val rfl rfl (R.pickT rfl rfl) ?_ | refine L.val rfl rfl (R.pickF rfl rfl) ?_
            refine L.nil ?_
            refine N.seq ?_
            refine G.condT rfl ?_
            refine G.region ?_
            refine L.val rfl rfl (R.mv rfl) ?_
            refine L.val rfl rfl (R.ldBN rfl B9 rfl) ?_
            refine L.do rfl rfl (R.buildA rfl rfl rfl rfl rfl) ?_
            rintro _ w6 ⟨b56, rfl, hb56, hs56, e6, B56⟩
            replace E := E.trans0 e6
            replace hP2 := hP2.ext0 e6
            replace hM2 := hM2.ext0 e6
            have hcb : Cells w6 (some ⟨b56, 0, none⟩) o.cells := B56.cellsAll
            have hE6 := E.size
            refine L.do rfl rfl (R.app rfl rfl hM2 hcb rfl (fun u hu => OpV.cells.one o u (by simpa using hu)) (by simp [maxLen]; omega) (by omega)) ?_
            rintro _ w7 ⟨a2, c2, M2, rfl, e7, hM7, hM3⟩
            replace hP2 := hP2.ext e7 (hP2.apart hM2 (by decide) (by decide))
            replace E := E.fresh e7 fM
            have fM2 : ∀ g ∈ M2, w.heap.size ≤ g := fun g hg => (hM7 g hg).elim (fM g) (fun h => by omega)
            rw [← cellsL_one, ← cellsL_append, ← hdn] at hM3
            have hB2 : ∀ x ∈ dnOps (os.take (k + 1)), x.B'.length ≤ 400 := by
              rw [hdn]; intro x hx
              rcases List.mem_append.1 hx with hx | hx
              · exact hBl x hx
              · rw [List.mem_singleton.1 hx]; exact hbl
            have hm2 : m + 1 = (dnOps (os.take (k + 1))).length := by rw [hdn, List.length_append, ← hm]; rfl
            refine L.val rfl rfl (R.as rfl) ?_
            refine L.nil ?_
            refine N.block ?_
            refine N.seq ?_
            refine G.region ?_
            refine L.val rfl rfl (R.add rfl rfl (by omega)) ?_
            refine L.val rfl rfl (R.mv rfl) ?_
            refine L.nil ?_
            exact N.again (k + 1, a2, m + 1, c2) (by simp only; omega) (Sub.cons rfl (Sub.cons rfl (Sub.cons rfl (Sub.cons rfl (Sub.cons rfl (Sub.nil _)))))) ⟨by simp only; omega, by simp only; omega, hm2, by simp only; omega, hlen2, hB2, E, _, _, hP2, f2, hM3, fM2⟩
          · have hwr : wrote o = false := by rw [wrote_num hg10_4]; exact hg10_12
            rw [hg10_12] at hP2
            rw [hwr] at hdn
            simp only [Bool.false_eq_true, if_false, List.append_nil] at hdn hP2
            rw [← hdn] at hP2 hm hM2 hlen hBl
            refine L.val rfl rfl (R.fld rfl) ?_
            refine L.val rfl rfl (R.ldB rfl B9 rfl) ?_
            refine L.val rfl rfl (R.remW rfl rfl (by omega) _ rfl) ?_
            refine L.val rfl rfl (R.neI rfl rfl) ?_
            refine L.val rfl rfl (R.mv rfl) ?_
            refine L.isF 47 rfl (by simp [hg10_4]) ?_
            refine L.pass rfl rfl ?_
            refine L.pass rfl rfl ?_
            refine L.pass rfl rfl ?_
            refine L.pass rfl rfl ?_
            first | refine L.val rfl rfl (R.pickT rfl rfl) ?_ | refine L.val rfl rfl (R.pickF rfl rfl) ?_
            first | refine L.val rfl rfl (R.pickT rfl rfl) ?_ | refine L.val rfl rfl (R.pickF rfl rfl) ?_
            refine L.nil ?_
            refine N.seq ?_
            refine G.condF rfl ?_
            refine G.skip ?_
            refine N.block ?_
            refine N.seq ?_
            refine G.region ?_
            refine L.val rfl rfl (R.add rfl rfl (by omega)) ?_
            refine L.val rfl rfl (R.mv rfl) ?_
            refine L.nil ?_
            exact N.again (k + 1, a1, m, c1) (by simp only; omega) (Sub.cons rfl (Sub.cons rfl (Sub.cons rfl (Sub.cons rfl (Sub.cons rfl (Sub.nil _)))))) ⟨by simp only; omega, by simp only; omega, hm, by simp only; omega, by simp only; omega, hBl, E, _, _, hP2, f2, hM2, fM⟩
        · refine L.pass rfl rfl ?_
          refine L.pass rfl rfl ?_
          refine L.pass rfl rfl ?_
          refine L.pass rfl rfl ?_
          refine L.pass rfl rfl ?_
          refine L.pass rfl rfl ?_
          first | refine L.val rfl rfl (R.pickT rfl rfl) ?_ | refine L.val rfl rfl (R.pickF rfl rfl) ?_
          refine L.val rfl rfl (R.mv rfl) ?_
          refine L.val rfl rfl (R.fld rfl) ?_
          refine L.val rfl rfl (R.ldB rfl B9 rfl) ?_
          refine L.val rfl rfl (R.remW rfl rfl (by omega) _ rfl) ?_
          refine L.val rfl rfl (R.neI rfl rfl) ?_
          refine L.val rfl rfl (R.mv rfl) ?_
          refine L.isT 47 rfl (by simp [hg10_4]) ?_
          refine L.val rfl rfl (R.mv rfl) ?_
          refine L.val rfl rfl (R.fld rfl) ?_
          refine L.val rfl rfl (R.ldB rfl B9 rfl) ?_
          refine L.callF rfl rfl rfl go35 (text_ok _ _ _ _ _ _ _ _ hP (by omega) (hk3.2.2.ext0 E) (by omega) (fun _ he => hk3.2.2.ext0 (E.fresh he f))) ?_
          rintro _ w4 ⟨rfl, S2, hP2, G4⟩
          have f2 := G4.fresh f E.size
          replace E := E.fresh G4.1 f
          replace B9 := B9.ext G4.1 hbS
          have hM2 := hM.ext G4.1 (fun g hg h => hP.apart hM (by decide) (by decide) g h hg)
          rw [if_pos (by omega)] at hP2
          have hwr : wrote o = true := wrote_text hg10_4
          rw [hwr, if_pos rfl] at hdn
          have hen : encL (dnOps (os.take (k + 1))) = encL (dnOps (os.take k)) ++ textF o.B' := by rw [hdn, encL_append, encL_one, encOp_text hg10_4]
          have hle : (textF o.B').length ≤ 402 := by simp [textF, be_length]; omega
          rw [← hen] at hP2
          have hlen2 : (encL (dnOps (os.take (k + 1)))).length ≤ 402 * (k + 1) := by rw [hen, List.length_append]; omega
          first | refine L.val rfl rfl (R.pickT rfl rfl) ?_ | refine L.val rfl rfl (R.pickF rfl rfl) ?_
          first | refine L.val rfl rfl (R.pickT rfl rfl) ?_ | refine L.val rfl rfl (R.pickF rfl rfl) ?_
          refine L.be 53 rfl (congrArg Value.bool (show decide (o.B'.length ≤ 65535) = true from decide_eq_true (by omega))) ?_
          refine L.nil ?_
          refine N.seq ?_
          refine G.condT rfl ?_
          refine G.region ?_
          refine L.val rfl rfl (R.mv rfl) ?_
          refine L.val rfl rfl (R.ldBN rfl B9 rfl) ?_
          refine L.do rfl rfl (R.buildA rfl rfl rfl rfl rfl) ?_
          rintro _ w6 ⟨b56, rfl, hb56, hs56, e6, B56⟩
          replace E := E.trans0 e6
          replace hP2 := hP2.ext0 e6
          replace hM2 := hM2.ext0 e6
          have hcb : Cells w6 (some ⟨b56, 0, none⟩) o.cells := B56.cellsAll
          have hE6 := E.size
          refine L.do rfl rfl (R.app rfl rfl hM2 hcb rfl (fun u hu => OpV.cells.one o u (by simpa using hu)) (by simp [maxLen]; omega) (by omega)) ?_
          rintro _ w7 ⟨a2, c2, M2, rfl, e7, hM7, hM3⟩
          replace hP2 := hP2.ext e7 (hP2.apart hM2 (by decide) (by decide))
          replace E := E.fresh e7 fM
          have fM2 : ∀ g ∈ M2, w.heap.size ≤ g := fun g hg => (hM7 g hg).elim (fM g) (fun h => by omega)
          rw [← cellsL_one, ← cellsL_append, ← hdn] at hM3
          have hB2 : ∀ x ∈ dnOps (os.take (k + 1)), x.B'.length ≤ 400 := by
            rw [hdn]; intro x hx
            rcases List.mem_append.1 hx with hx | hx
            · exact hBl x hx
            · rw [List.mem_singleton.1 hx]; exact hbl
          have hm2 : m + 1 = (dnOps (os.take (k + 1))).length := by rw [hdn, List.length_append, ← hm]; rfl
          refine L.val rfl rfl (R.as rfl) ?_
          refine L.nil ?_
          refine N.block ?_
          refine N.seq ?_
          refine G.region ?_
          refine L.val rfl rfl (R.add rfl rfl (by omega)) ?_
          refine L.val rfl rfl (R.mv rfl) ?_
          refine L.nil ?_
          exact N.again (k + 1, a2, m + 1, c2) (by simp only; omega) (Sub.cons rfl (Sub.cons rfl (Sub.cons rfl (Sub.cons rfl (Sub.cons rfl (Sub.nil _)))))) ⟨by simp only; omega, by simp only; omega, hm2, by simp only; omega, hlen2, hB2, E, _, _, hP2, f2, hM3, fM2⟩
  · obtain rfl : k = n := by omega
    have hte : os.take k = os := List.take_of_length_le (by omega)
    rw [hte] at hm hlen hBl hP hM
    refine G.exit _ rfl ?_
    refine N.seq ?_
    refine G.seq ?_
    refine G.region ?_
    refine L.val rfl rfl (R.mv rfl) ?_
    refine L.callF rfl rfl rfl go37 (bytes_ok _ _ _ _ hP (by omega)) ?_
    rintro _ w2 ⟨a5, c5, M5, rfl, e2, o5, h5⟩
    replace E := E.trans0 e2
    replace hM := hM.ext0 e2
    refine L.callF rfl rfl rfl go40 (new_ok _ _ _ _ _ (Bs.of_own o5) (by omega)) ?_
    rintro _ w3 ⟨s, D, rfl, hS, e3, hs3, hD3, ⟨_, hsB⟩, hDB⟩
    have hsM : ∀ g ∈ M, g ≠ s := fun g hg => by have := hM.lt g hg; omega
    have hsw : w.heap.size ≤ s := Nat.le_trans E.size hs3
    replace E := E.trans0 e3
    replace hM := hM.ext0 e3
    have hsl := hsB.lt
    have hDl : ∀ d ∈ D, d < w3.heap.size := fun d hd => by obtain ⟨_, h⟩ := hDB d hd; exact h.lt
    have hDs : ∀ d ∈ D, d ≠ s := fun d hd => by obtain ⟨_, h⟩ := hDB d hd; exact h.ne hsB (by decide)
    refine L.val rfl rfl (R.as rfl) ?_
    refine L.nil ?_
    refine N.seq ?_
    refine G.seq ?_
    refine G.seq ?_
    refine G.region ?_
    refine L.val rfl rfl (R.mv rfl) ?_
    refine L.val rfl rfl (R.lenS rfl) ?_
    refine L.val rfl rfl (R.mv rfl) ?_
    refine L.nil ?_
    refine N.seq ?_
    refine G.block ?_
    refine G.loop (X := Nat) (fun j => [(7, .pointer (some ⟨s, 0, none⟩)), (62, .slice a1 m c1), (63, .int .i64 m), (64, .int .i64 (j : Nat))]) (fun j w' => j ≤ m ∧ w3.heap.size ≤ w'.heap.size ∧ Ext [] w w' ∧ Own w' 55 4 a1 m c1 (cellsL (dnOps os)) M ∧ ScanAt 89 w' s D (encL ((dnOps os).drop j)) 0) (fun j => m - j) (0) (Sub.cons rfl (Sub.cons rfl (Sub.cons rfl (Sub.cons rfl (Sub.nil _))))) ⟨by omega, Nat.le_refl _, E, hM, hS⟩ ?_
    rintro j w1 ⟨hj, hz, E, hM, hS⟩
    refine G.seq ?_
    refine G.region ?_
    refine L.val rfl rfl (R.lss rfl rfl) ?_
    refine L.nil ?_
    refine N.seq ?_
    refine G.seq ?_
    refine G.condP rfl (fun h4 => ?_) (fun h4 => ?_)
    · refine G.skip ?_
      refine N.seq ?_
      refine G.seq ?_
      refine G.block ?_
      refine G.seq ?_
      refine G.region ?_
      have hTd : Tab w1 a1 m 4 ((dnOps os).map OpV.cells) := ⟨hM.cells, by rw [List.length_map]; exact hm, fun vs hvs => by obtain ⟨o, _, rfl⟩ := List.mem_map.1 hvs; rfl⟩
      obtain ⟨q, hq, hcl⟩ := hTd.at (by decide) j (by rw [List.length_map]; omega)
      rw [List.getElem_map] at hcl
      have hom := dn_mem (List.getElem_mem (show j < (dnOps os).length by omega))
      have hdr : encL ((dnOps os).drop j) = encOp ((dnOps os)[j]'(by omega)) ++ encL ((dnOps os).drop (j + 1)) := by rw [List.drop_eq_getElem_cons (by omega), encL_cons]
      generalize hoe : (dnOps os)[j]'(by omega) = o at *
      obtain ⟨hk0, hk1, hk2, hk3⟩ := hO o hom.1
      rw [hdr] at hS
      have hk1b := wf_i64 hk1
      have hlb : (encOp o ++ encL ((dnOps os).drop (j + 1))).length ≤ 70368744177664 := by rw [← hdr]; exact Nat.le_trans (encL_drop_le _ _) (by omega)
      have hbl : o.B'.length ≤ 400 := by rw [← hoe]; exact hBl _ (List.getElem_mem (by omega))
      refine L.val rfl rfl (R.idx rfl rfl (by omega) (by omega) q hq) ?_
      refine L.val rfl rfl (R.ldN rfl hcl rfl) ?_
      refine L.do rfl rfl (R.alloc) ?_
      rintro _ w4 ⟨b9, rfl, hb9, hs9, e4, B9⟩
      have hMb : ∀ g ∈ M, g ≠ b9 := fun g hg => by have := hM.lt g hg; omega
      replace hM := hM.ext0 e4
      replace hS := hS.ext0 e4
      have hEb := E.size
      replace E := E.trans0 e4
      have hsb : s ≠ b9 := by omega
      have hDb : ∀ d ∈ D, d ≠ b9 := fun d hd => by have := hDl d hd; omega
      refine L.set rfl (R.stN rfl rfl B9 rfl (Nat.le_refl 4) (OpV.cells.one _)) ?_
      rintro w5 ⟨e5, hs5, B9⟩
      replace B9 : Blk w5 b9 o.cells.toArray 55 (0, 0) := B9
      replace hM := hM.ext e5 (by simpa using hMb)
      replace hS := hS.ext e5 (by simpa using hsb) (fun d hd => by simpa using hDb d hd)
      replace E := E.trans e5 (M := []) (by simp) (by intro g hg; rw [List.mem_singleton.1 hg]; exact .inr (by omega))
      refine L.nil ?_
      refine N.seq ?_
      refine G.seq ?_
      by_cases hpar : o.Kind'.tmod 2 = 0
      · rw [encOp_num hpar] at hS hlb
        have hfit : fitsF o.N' o.W' = true := by rw [← wrote_num hpar]; exact hom.2
        have hrd := numF_be (encL ((dnOps os).drop (j + 1))) hfit hk1b.2
        have hN0 := (fitsF_spec.1 hfit).2.2.1
        have hI : ∀ k w', stage [Ext [] w5, fun w' => Ext [s] w5 w' ∧ ScanAt 89 w' s D (encL ((dnOps os).drop (j + 1))) 0] k w' → (fun w' => Blk w' b9 o.cells.toArray 55 (0, 0) ∧ Ext [] w w') w' := fun k w' hs => stage_all (I := fun w' => Blk w' b9 o.cells.toArray 55 (0, 0) ∧ Ext [] w w') (by
          intro Ψ hΨ w' hJ
          simp only [List.mem_cons, List.not_mem_nil, or_false] at hΨ
          rcases hΨ with rfl | rfl
          · exact ⟨B9.ext0 hJ, E.trans0 hJ⟩
          · exact ⟨B9.ext hJ.1 (by simp; omega), E.fresh hJ.1 (by intro g hg; rw [List.mem_singleton.1 hg]; exact hsw)⟩) hs
        refine G.staged [8] [[s]] [Ext [] w5, fun w' => Ext [s] w5 w' ∧ ScanAt 89 w' s D (encL ((dnOps os).drop (j + 1))) 0] [] (by decide +kernel) (by decide +kernel) rfl rfl rfl (fun _ h => h) ?_
        refine Z.val rfl rfl rfl rfl rfl (fun w6 => R.fld rfl) ?_
        refine Z.readI hI rfl rfl rfl rfl rfl (fun w6 hJ => R.ldB rfl hJ.1 rfl) ?_
        refine Z.val rfl rfl rfl rfl rfl (fun w6 => R.remW rfl rfl (by omega) _ rfl) ?_
        refine Z.val rfl rfl rfl rfl rfl (fun w6 => R.eqI rfl rfl) ?_
        refine Z.val rfl rfl rfl rfl rfl (fun w6 => R.mv rfl) ?_
        refine Z.isT 72 rfl (decide_eq_true hpar) ?_
        refine Z.val rfl rfl rfl rfl rfl (fun w6 => R.mv rfl) ?_
        refine Z.val rfl rfl rfl rfl rfl (fun w6 => R.fld rfl) ?_
        refine Z.readI hI rfl rfl rfl rfl rfl (fun w6 hJ => R.ldB rfl hJ.1 rfl) ?_
        refine Z.callEqPut (.int .i64 o.N') 0 (by decide +kernel) rfl rfl rfl rfl rfl rfl rfl go41 (fun w6 hJ => ⟨_, rfl, (scannum_ok _ _ _ _ _ _ (hS.ext0 hJ) hlb).mono (by rintro _ w6 ⟨rfl, h1, h2⟩; rw [hrd] at h1 ⊢; exact ⟨congrArg (Value.int .i64) (by simp; omega), h2, h2.after hJ, h1⟩)⟩) ?_
        refine Z.val rfl rfl rfl rfl rfl (fun w6 => R.fld rfl) ?_
        refine Z.readI hI rfl rfl rfl rfl rfl (fun w6 hJ => R.ldB rfl hJ.1 rfl) ?_
        refine Z.val rfl rfl rfl rfl rfl (fun w6 => R.neI rfl rfl) ?_
        first | refine Z.val rfl rfl rfl rfl rfl (fun w6 => R.pickT rfl rfl) ?_ | refine Z.val rfl rfl rfl rfl rfl (fun w6 => R.pickF rfl rfl) ?_
        refine Z.val rfl rfl rfl rfl rfl (fun w6 => R.mv rfl) ?_
        refine Z.isF 81 rfl (by simp) ?_
        refine Z.val rfl rfl rfl rfl rfl (fun w6 => R.fld rfl) ?_
        refine Z.readI hI rfl rfl rfl rfl rfl (fun w6 hJ => R.ldB rfl hJ.1 rfl) ?_
        refine Z.val rfl rfl rfl rfl rfl (fun w6 => R.remW rfl rfl (by omega) _ rfl) ?_
        refine Z.val rfl rfl rfl rfl rfl (fun w6 => R.neI rfl rfl) ?_
        refine Z.val rfl rfl rfl rfl rfl (fun w6 => R.mv rfl) ?_
        refine Z.isF 86 rfl (by simp [hpar]) ?_
        refine Z.pass rfl rfl rfl rfl ?_
        refine Z.pass rfl rfl rfl rfl ?_
        refine Z.pass rfl rfl rfl rfl ?_
        refine Z.pass rfl rfl rfl rfl ?_
        refine Z.pass rfl rfl rfl rfl ?_
        refine Z.pass rfl rfl rfl rfl ?_
        refine Z.pass rfl rfl rfl rfl ?_
        first | refine Z.val rfl rfl rfl rfl rfl (fun w6 => R.pickT rfl rfl) ?_ | refine Z.val rfl rfl rfl rfl rfl (fun w6 => R.pickF rfl rfl) ?_
        first | refine Z.val rfl rfl rfl rfl rfl (fun w6 => R.pickT rfl rfl) ?_ | refine Z.val rfl rfl rfl rfl rfl (fun w6 => R.pickF rfl rfl) ?_
        refine Z.nil rfl rfl (fun w6 hJ => ?_)
        obtain ⟨e6, hS2⟩ := hJ
        replace hM := hM.ext e6 (by simpa using hsM)
        replace E := E.fresh e6 (by intro g hg; rw [List.mem_singleton.1 hg]; exact hsw)
        have hz6 := e6.size
        refine N.seq ?_
        refine G.condF rfl ?_
        refine G.skip ?_
        refine N.block ?_
        refine N.seq ?_
        refine G.region ?_
        refine L.val rfl rfl (R.add rfl rfl (by omega)) ?_
        refine L.val rfl rfl (R.mv rfl) ?_
        refine L.nil ?_
        exact N.again (j + 1) (by omega) (Sub.cons rfl (Sub.cons rfl (Sub.cons rfl (Sub.cons rfl (Sub.nil _))))) ⟨by omega, by omega, E, hM, hS2⟩
      · rw [encOp_text hpar] at hS hlb
        have hrd := txtF_text (l := o.B') (encL ((dnOps os).drop (j + 1))) (m := 400) (by omega) (by omega)
        have hI : ∀ k w', stage [Ext [] w5, fun w' => Ext [s] w5 w' ∧ ScanAt 89 w' s D (encL ((dnOps os).drop (j + 1))) 0] k w' → (fun w' => Blk w' b9 o.cells.toArray 55 (0, 0) ∧ Ext [] w w') w' := fun k w' hs => stage_all (I := fun w' => Blk w' b9 o.cells.toArray 55 (0, 0) ∧ Ext [] w w') (by
          intro Ψ hΨ w' hJ
          simp only [List.mem_cons, List.not_mem_nil, or_false] at hΨ
          rcases hΨ with rfl | rfl
          · exact ⟨B9.ext0 hJ, E.trans0 hJ⟩
          · exact ⟨B9.ext hJ.1 (by simp; omega), E.fresh hJ.1 (by intro g hg; rw [List.mem_singleton.1 hg]; exact hsw)⟩) hs
        refine G.staged [20] [[s]] [Ext [] w5, fun w' => Ext [s] w5 w' ∧ ScanAt 89 w' s D (encL ((dnOps os).drop (j + 1))) 0] [] (by decide +kernel) (by decide +kernel) rfl rfl rfl (fun _ h => h) ?_
        refine Z.val rfl rfl rfl rfl rfl (fun w6 => R.fld rfl) ?_
        refine Z.readI hI rfl rfl rfl rfl rfl (fun w6 hJ => R.ldB rfl hJ.1 rfl) ?_
        refine Z.val rfl rfl rfl rfl rfl (fun w6 => R.remW rfl rfl (by omega) _ rfl) ?_
        refine Z.val rfl rfl rfl rfl rfl (fun w6 => R.eqI rfl rfl) ?_
        refine Z.val rfl rfl rfl rfl rfl (fun w6 => R.mv rfl) ?_
        refine Z.isF 72 rfl (decide_eq_false hpar) ?_
        refine Z.pass rfl rfl rfl rfl ?_
        refine Z.pass rfl rfl rfl rfl ?_
        refine Z.pass rfl rfl rfl rfl ?_
        refine Z.pass rfl rfl rfl rfl ?_
        refine Z.pass rfl rfl rfl rfl ?_
        refine Z.pass rfl rfl rfl rfl ?_
        refine Z.pass rfl rfl rfl rfl ?_
        first | refine Z.val rfl rfl rfl rfl rfl (fun w6 => R.pickT rfl rfl) ?_ | refine Z.val rfl rfl rfl rfl rfl (fun w6 => R.pickF rfl rfl) ?_
        refine Z.val rfl rfl rfl rfl rfl (fun w6 => R.mv rfl) ?_
        refine Z.isF 81 rfl (by simp) ?_
        refine Z.val rfl rfl rfl rfl rfl (fun w6 => R.fld rfl) ?_
        refine Z.readI hI rfl rfl rfl rfl rfl (fun w6 hJ => R.ldB rfl hJ.1 rfl) ?_
        refine Z.val rfl rfl rfl rfl rfl (fun w6 => R.remW rfl rfl (by omega) _ rfl) ?_
        refine Z.val rfl rfl rfl rfl rfl (fun w6 => R.neI rfl rfl) ?_
        refine Z.val rfl rfl rfl rfl rfl (fun w6 => R.mv rfl) ?_
        refine Z.isT 86 rfl (by simp [hpar]) ?_
        refine Z.val rfl rfl rfl rfl rfl (fun w6 => R.mv rfl) ?_
        refine Z.callPut (A := BsIn D o.B') (Lasts.apart (by intro M hM; simp only [List.mem_cons, List.not_mem_nil, or_false] at hM; rcases hM with rfl | rfl; exact BsIn.keep (by simp); exact BsIn.keep (by simpa using hDs))) 0 (by decide +kernel) rfl rfl rfl rfl rfl rfl go43 (fun w6 hJ => ⟨_, rfl, (scantext_ok _ _ _ _ _ _ (hS.ext0 hJ) hlb).mono (by rintro _ w6 ⟨a5, c5, rfl, h1, h2, h3, h4, h5⟩; rw [hrd] at *; exact ⟨⟨a5, c5, rfl, h1, h2, h3⟩, h5, h5.after hJ, h4⟩)⟩) ?_
        refine Z.val rfl rfl rfl rfl rfl (fun w6 => fun v hv => by obtain ⟨a5, c5, rfl, _, hv, _⟩ := hv; exact R.bytesStr rfl hv.cells hv.len) ?_
        refine Z.val rfl rfl rfl rfl rfl (fun w6 => R.fld rfl) ?_
        refine Z.readI hI rfl rfl rfl rfl rfl (fun w6 hJ => R.ldB rfl hJ.1 rfl) ?_
        refine Z.readI hI rfl rfl rfl rfl rfl (fun w6 hJ => R.bytesStr rfl (hk3.2.2.ext0 hJ.2).cells hk3.2.2.len) ?_
        refine Z.val rfl rfl rfl rfl rfl (fun w6 => R.neStr rfl rfl) ?_
        first | refine Z.val rfl rfl rfl rfl rfl (fun w6 => R.pickT rfl rfl) ?_ | refine Z.val rfl rfl rfl rfl rfl (fun w6 => R.pickF rfl rfl) ?_
        first | refine Z.val rfl rfl rfl rfl rfl (fun w6 => R.pickT rfl rfl) ?_ | refine Z.val rfl rfl rfl rfl rfl (fun w6 => R.pickF rfl rfl) ?_
        refine Z.nil rfl rfl (fun w6 hJ => ?_)
        intro v88 _
        obtain ⟨e6, hS2⟩ := hJ
        replace hM := hM.ext e6 (by simpa using hsM)
        replace E := E.fresh e6 (by intro g hg; rw [List.mem_singleton.1 hg]; exact hsw)
        have hz6 := e6.size
        refine N.seq ?_
        refine G.condP rfl (fun h5 => ?_) (fun h5 => ?_)
        · exact absurd rfl h5
        · refine G.skip ?_
          refine N.block ?_
          refine N.seq ?_
          refine G.region ?_
          refine L.val rfl rfl (R.add rfl rfl (by omega)) ?_
          refine L.val rfl rfl (R.mv rfl) ?_
          refine L.nil ?_
          exact N.again (j + 1) (by omega) (Sub.cons rfl (Sub.cons rfl (Sub.cons rfl (Sub.cons rfl (Sub.nil _))))) ⟨by omega, by omega, E, hM, hS2⟩
    · obtain rfl : j = m := by omega
      rw [List.drop_of_length_le (by omega)] at hS
      refine G.exit _ rfl ?_
      refine N.seq ?_
      refine G.seq ?_
      refine G.region ?_
      refine L.val rfl rfl (R.mv rfl) ?_
      refine L.callF rfl rfl rfl go45 (scanerr_ok _ _ _ _ _ hS (by simp [encL])) ?_
      rintro _ _ ⟨rfl, hw⟩
      obtain rfl := hw.symm
      refine L.val rfl rfl (R.eqI rfl rfl) ?_
      refine L.val rfl rfl (R.mv rfl) ?_
      refine L.isT 100 rfl (by decide) ?_
      refine L.val rfl rfl (R.mv rfl) ?_
      refine L.callF rfl rfl rfl go46 (scanleft_ok _ _ _ _ _ hS (by simp [encL])) ?_
      rintro _ _ ⟨rfl, hw⟩
      obtain rfl := hw.symm
      refine L.val rfl rfl (R.eqI rfl rfl) ?_
      first | refine L.val rfl rfl (R.pickT rfl rfl) ?_ | refine L.val rfl rfl (R.pickF rfl rfl) ?_
      refine L.val rfl rfl (R.as rfl) ?_
      refine L.nil ?_
      refine N.seq ?_
      refine G.ret1 rfl rfl ?_
      exact ⟨congrArg Value.bool (by simp [encL]), E⟩

end Go.Proofs.Ytfbkbobphjncfaa
