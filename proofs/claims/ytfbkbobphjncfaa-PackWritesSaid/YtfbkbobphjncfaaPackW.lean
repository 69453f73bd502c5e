/-
  The walks of the laws on pack.
-/
import Derived.Test.YtfbkbobphjncfaaPackF
import Derived.Test.YtfbkbobphjncfaaPackB
set_option linter.unusedVariables false
namespace Go.Proofs.Ytfbkbobphjncfaa
open Go Brv Brv.Crc Brv.Pack
theorem packWrites_ok (a : Option Addr) (n c : Nat) (os : List OpV) (y : Int) (w : World) (hT : Tab w a n 4 (os.map OpV.cells)) (hO : ∀ o ∈ os, o.ok w) (hc : n ≤ 2932031007402) (hy : -9223372036854775808 ≤ y ∧ y ≤ 9223372036854775807) : Meets Try.prog 7 [.slice a n c, .int .i64 y] w (fun v w' => v = .bool true ∧ Ext [] w w') := by
  refine Meets.enter Try.func7 rfl 103 rfl (Nat.le_of_ble_eq_true rfl) ?_
  have E := Ext.refl [] w
  have hn := hT.len
  rw [List.length_map] at hn
  refine G.seq ?_
  refine G.region ?_
  refine L.val rfl rfl (R.as rfl) ?_
  refine L.nil ?_
  refine N.seq ?_
  refine G.seq ?_
  refine G.seq ?_
  refine G.region ?_
  refine L.callF rfl rfl rfl go31 (pack_first_ok _) ?_
  rintro _ w1 ⟨rfl, e1⟩
  replace E := E.trans0 e1
  have hw1 := E.size
  refine L.val rfl rfl (R.not rfl) ?_
  refine L.nil ?_
  refine N.seq ?_
  refine G.condF rfl ?_
  refine G.skip ?_
  refine N.seq ?_
  refine G.seq ?_
  refine G.region ?_
  refine L.val rfl rfl (R.build rfl rfl) ?_
  refine L.do rfl rfl (R.box rfl) ?_
  rintro _ w2 ⟨p, rfl, hb14, hs14, e2, B14⟩
  replace E := E.trans0 e2
  have P0 := PenAt.new (E := 5) B14
  have f0 : ∀ g ∈ [p], w.heap.size ≤ g := by intro g hg; rw [List.mem_singleton.1 hg]; omega
  refine L.val rfl rfl (R.as rfl) ?_
  refine L.nil ?_
  refine N.seq ?_
  refine G.seq ?_
  refine G.region ?_
  refine L.val rfl rfl (R.as rfl) ?_
  refine L.nil ?_
  refine N.seq ?_
  refine G.seq ?_
  refine G.region ?_
  refine L.val rfl rfl (R.as rfl) ?_
  refine L.nil ?_
  refine N.seq ?_
  refine G.seq ?_
  refine G.seq ?_
  refine G.region ?_
  refine L.val rfl rfl (R.mv rfl) ?_
  refine L.val rfl rfl (R.lenS rfl) ?_
  refine L.val rfl rfl (R.mv rfl) ?_
  refine L.nil ?_
  refine N.seq ?_
  refine G.block ?_
  refine G.loop (X := Nat) (fun k => [(1, .int .i64 y), (5, .pointer (some ⟨p, 0, none⟩)), (6, .pointer none), (7, .string (str (wrOps (os.take k)))), (15, .slice a n c), (16, .int .i64 n), (17, .int .i64 (k : Nat))]) (fun k w' => k ≤ n ∧ k ≤ 60 ∧ (wrOps (os.take k)).length ≤ 402 * k ∧ Ext [] w w' ∧ ∃ S, PenAt 53 5 w' p (wrOps (os.take k)) S ∧ ∀ g ∈ S, w.heap.size ≤ g) (fun k => n - k) (0) (Sub.cons rfl (Sub.cons rfl (Sub.cons rfl (Sub.cons rfl (Sub.cons rfl (Sub.cons rfl (Sub.cons rfl (Sub.nil _)))))))) ⟨by omega, by omega, by simp [wrOps], E, _, P0, f0⟩ ?_
  rintro k w1 ⟨hk, hk60, hlen, E, S, hP, f⟩
  refine G.seq ?_
  refine G.region ?_
  refine L.val rfl rfl (R.lss rfl rfl) ?_
  refine L.nil ?_
  refine N.seq ?_
  refine G.seq ?_
  refine G.condP rfl (fun h1 => ?_) (fun h1 => ?_)
  · refine G.skip ?_
    refine N.seq ?_
    refine G.seq ?_
    refine G.block ?_
    refine G.seq ?_
    refine G.region ?_
    refine L.val rfl rfl (R.mv rfl) ?_
    obtain ⟨q, hq, hcl⟩ := hT.at (by decide) k (by rw [List.length_map]; omega)
    rw [List.getElem_map] at hcl
    obtain ⟨hk0, hk1, hk2, hk3⟩ := hO _ (List.getElem_mem (show k < os.length by omega))
    generalize hoe : os[k]'(by omega) = o at *
    refine L.val rfl rfl (R.idx rfl rfl (by omega) (by omega) q hq) ?_
    refine L.val rfl rfl (R.ldN rfl (hcl.ext0 E) rfl) ?_
    refine L.do rfl rfl (R.alloc) ?_
    rintro _ w2 ⟨b9, rfl, hb9, hs9, e2, B9⟩
    have lP := hP.lt
    have hbS : b9 ∉ S := fun h => by have := lP _ h; omega
    replace hP := hP.ext0 e2
    have hEb := E.size
    replace E := E.trans0 e2
    refine L.val rfl rfl (R.as rfl) ?_
    refine L.set rfl (R.stN rfl rfl B9 rfl (Nat.le_refl 4) (OpV.cells.one _)) ?_
    rintro w3 ⟨e3, hs3, B9⟩
    replace B9 : Blk w3 b9 o.cells.toArray 55 (0, 0) := B9
    replace hP := hP.ext e3 (fun x hx h => hbS (by rw [← List.mem_singleton.1 h]; exact hx))
    replace E := E.trans e3 (M := []) (by simp) (by intro x hx; rw [List.mem_singleton.1 hx]; exact .inr (by omega))
    refine L.nil ?_
    refine N.seq ?_
    refine G.seq ?_
    refine G.seq ?_
    refine G.region ?_
    refine L.val rfl rfl (R.mv rfl) ?_
    refine L.val rfl rfl (R.geq rfl rfl) ?_
    refine L.val rfl rfl (R.mv rfl) ?_
    refine L.caseP 24 rfl (fun hg9_2 => ?_) (fun hg9_2 => ?_)
    · refine L.pass rfl rfl ?_
      refine L.pass rfl rfl ?_
      refine L.pass rfl rfl ?_
      refine L.pass rfl rfl ?_
      first | refine L.val rfl rfl (R.pickT rfl rfl) ?_ | refine L.val rfl rfl (R.pickF rfl rfl) ?_
      refine L.nil ?_
      refine N.seq ?_
      refine G.condT rfl ?_
      refine G.seq ?_
      refine G.region ?_
      refine L.val rfl rfl (R.as rfl) ?_
      refine L.nil ?_
      refine N.seq ?_
      refine G.ret1 rfl rfl ?_
      exact ⟨rfl, E⟩
    · refine L.val rfl rfl (R.fld rfl) ?_
      refine L.val rfl rfl (R.ldB rfl B9 rfl) ?_
      refine L.val rfl rfl (R.lenS rfl) ?_
      refine L.val rfl rfl (R.gtr rfl rfl) ?_
      first | refine L.val rfl rfl (R.pickT rfl rfl) ?_ | refine L.val rfl rfl (R.pickF rfl rfl) ?_
      refine L.nil ?_
      refine N.seq ?_
      refine G.condP rfl (fun h2 => ?_) (fun h2 => ?_)
      · refine G.seq ?_
        refine G.region ?_
        refine L.val rfl rfl (R.as rfl) ?_
        refine L.nil ?_
        refine N.seq ?_
        refine G.ret1 rfl rfl ?_
        exact ⟨rfl, E⟩
      · have hbl : o.B'.length ≤ 400 := by rw [← hk3.2.2.len]; omega
        have hal := addOp_length (l := wrOps (os.take k)) hbl
        have hwr := wrOps_succ (show k < os.length by omega)
        rw [hoe] at hwr
        rw [← hwr] at hal
        have hlen2 : (wrOps (os.take (k + 1))).length ≤ 402 * (k + 1) := by omega
        refine G.skip ?_
        refine N.seq ?_
        refine G.seq ?_
        refine G.region ?_
        refine L.val rfl rfl (R.fld rfl) ?_
        refine L.val rfl rfl (R.ldB rfl B9 rfl) ?_
        refine L.val rfl rfl (R.remW rfl rfl (by omega) _ rfl) ?_
        refine L.val rfl rfl (R.eqI rfl rfl) ?_
        refine L.nil ?_
        refine N.seq ?_
        refine G.condP rfl (fun h3 => ?_) (fun h3 => ?_)
        · rw [addOp_num h3] at hwr
          refine G.seq ?_
          refine G.region ?_
          refine L.val rfl rfl (R.fld rfl) ?_
          refine L.val rfl rfl (R.ldB rfl B9 rfl) ?_
          refine L.val rfl rfl (R.fld rfl) ?_
          refine L.val rfl rfl (R.ldB rfl B9 rfl) ?_
          refine L.callF rfl rfl rfl go32 (reffits_ok _ _ _ (wf_i64 hk1) (wf_i64 hk2)) ?_
          rintro _ _ ⟨rfl, hw⟩
          obtain rfl := hw.symm
          refine L.val rfl rfl (R.as rfl) ?_
          refine L.nil ?_
          refine N.seq ?_
          refine G.seq ?_
          refine G.seq ?_
          refine G.region ?_
          refine L.val rfl rfl (R.mv rfl) ?_
          refine L.val rfl rfl (R.fld rfl) ?_
          refine L.val rfl rfl (R.ldB rfl B9 rfl) ?_
          refine L.val rfl rfl (R.fld rfl) ?_
          refine L.val rfl rfl (R.ldB rfl B9 rfl) ?_
          refine L.callF rfl rfl rfl go33 (number_ok _ _ _ _ _ _ hP (by omega) (wf_i64 hk1) (wf_i64 hk2)) ?_
          rintro _ w4 ⟨rfl, S2, hP2, G4⟩
          have f2 := G4.fresh f E.size
          replace E := E.fresh G4.1 f
          replace B9 := B9.ext G4.1 hbS
          refine L.val rfl rfl (R.mv rfl) ?_
          refine L.val rfl rfl (R.neB rfl rfl) ?_
          refine L.val rfl rfl (R.mv rfl) ?_
          refine L.isF 47 rfl (by simp) ?_
          refine L.val rfl rfl (R.mv rfl) ?_
          refine L.val rfl rfl (R.fld rfl) ?_
          refine L.val rfl rfl (R.ldB rfl B9 rfl) ?_
          refine L.val rfl rfl (R.fld rfl) ?_
          refine L.val rfl rfl (R.ldB rfl B9 rfl) ?_
          refine L.callF rfl rfl rfl go33 (number_nil _ _ _) ?_
          rintro _ _ ⟨rfl, hw⟩
          obtain rfl := hw.symm
          first | refine L.val rfl rfl (R.pickT rfl rfl) ?_ | refine L.val rfl rfl (R.pickF rfl rfl) ?_
          refine L.nil ?_
          refine N.seq ?_
          refine G.condF rfl ?_
          refine G.skip ?_
          refine N.seq ?_
          refine G.seq ?_
          refine G.region ?_
          refine L.val rfl rfl (R.mv rfl) ?_
          refine L.nil ?_
          refine N.seq ?_
          refine G.condB rfl (fun h5 => ?_) (fun h5 => ?_)
          · have hfs := fitsF_spec.1 h5
            have hk1b := wf_i64 hk1
            simp only [h5, if_true] at hwr hP2
            refine G.region ?_
            refine L.val rfl rfl (R.mv rfl) ?_
            refine L.val rfl rfl (R.fld rfl) ?_
            refine L.val rfl rfl (R.ldB rfl B9 rfl) ?_
            refine L.be 58 rfl (congrArg (Value.int .i64) (show o.N' = ((o.N'.toNat : Nat) : Int) by omega)) ?_
            refine L.val rfl rfl (R.fld rfl) ?_
            refine L.val rfl rfl (R.ldB rfl B9 rfl) ?_
            refine L.be 60 rfl (congrArg (Value.int .i64) (show o.W' = ((o.W'.toNat : Nat) : Int) by omega)) ?_
            refine L.callF rfl rfl rfl go34 (refnumber_ok o.W'.toNat o.N'.toNat _ (by omega) (by omega)) ?_
            rintro _ w5 ⟨rfl, e5⟩
            replace E := E.trans0 e5
            replace hP2 := hP2.ext0 e5
            refine L.val rfl rfl (R.addStr rfl rfl (by simp [be_length]; omega)) ?_
            refine L.val rfl rfl (R.as rfl) ?_
            refine L.be 7 rfl (congrArg (fun q => Value.string (str q)) hwr.symm) ?_
            rw [← hwr] at hP2
            refine L.nil ?_
            refine N.block ?_
            refine N.seq ?_
            refine G.region ?_
            refine L.val rfl rfl (R.add rfl rfl (by omega)) ?_
            refine L.val rfl rfl (R.mv rfl) ?_
            refine L.nil ?_
            exact N.again (k + 1) (by omega) (Sub.cons rfl (Sub.cons rfl (Sub.cons rfl (Sub.cons rfl (Sub.cons rfl (Sub.cons rfl (Sub.cons rfl (Sub.nil _)))))))) ⟨by omega, by omega, hlen2, E, _, hP2, f2⟩
          · simp only [h5, Bool.false_eq_true, if_false, List.append_nil] at hwr hP2
            refine G.be 7 rfl (congrArg (fun q => Value.string (str q)) hwr.symm) ?_
            rw [← hwr] at hP2
            refine G.skip ?_
            refine N.block ?_
            refine N.seq ?_
            refine G.region ?_
            refine L.val rfl rfl (R.add rfl rfl (by omega)) ?_
            refine L.val rfl rfl (R.mv rfl) ?_
            refine L.nil ?_
            exact N.again (k + 1) (by omega) (Sub.cons rfl (Sub.cons rfl (Sub.cons rfl (Sub.cons rfl (Sub.cons rfl (Sub.cons rfl (Sub.cons rfl (Sub.nil _)))))))) ⟨by omega, by omega, hlen2, E, _, hP2, f2⟩
        · rw [addOp_text h3] at hwr
          refine G.seq ?_
          refine G.seq ?_
          refine G.region ?_
          refine L.val rfl rfl (R.mv rfl) ?_
          refine L.val rfl rfl (R.fld rfl) ?_
          refine L.val rfl rfl (R.ldB rfl B9 rfl) ?_
          refine L.callF rfl rfl rfl go35 (text_ok _ _ _ _ _ _ _ _ hP (by omega) (hk3.2.2.ext0 E) (by omega) (fun _ he => hk3.2.2.ext0 (E.fresh he f))) ?_
          rintro _ w4 ⟨rfl, S2, hP2, G4⟩
          have f2 := G4.fresh f E.size
          replace E := E.fresh G4.1 f
          replace B9 := B9.ext G4.1 hbS
          rw [if_pos (by omega)] at hP2
          refine L.val rfl rfl (R.not rfl) ?_
          refine L.val rfl rfl (R.mv rfl) ?_
          refine L.isF 68 rfl (by rw [decide_eq_true (by omega)]; rfl) ?_
          refine L.val rfl rfl (R.mv rfl) ?_
          refine L.val rfl rfl (R.fld rfl) ?_
          refine L.val rfl rfl (R.ldB rfl B9 rfl) ?_
          refine L.callF rfl rfl rfl go35 (text_nil _ _) ?_
          rintro _ _ ⟨rfl, hw⟩
          obtain rfl := hw.symm
          first | refine L.val rfl rfl (R.pickT rfl rfl) ?_ | refine L.val rfl rfl (R.pickF rfl rfl) ?_
          refine L.nil ?_
          refine N.seq ?_
          refine G.condF rfl ?_
          refine G.skip ?_
          refine N.seq ?_
          refine G.region ?_
          refine L.val rfl rfl (R.mv rfl) ?_
          refine L.val rfl rfl (R.fld rfl) ?_
          refine L.val rfl rfl (R.ldB rfl B9 rfl) ?_
          refine L.callF rfl rfl rfl go36 (reftext_ok _ _ _ _ _ (hk3.2.2.ext0 E) (by omega)) ?_
          rintro _ w5 ⟨rfl, e5⟩
          replace E := E.trans0 e5
          replace hP2 := hP2.ext0 e5
          refine L.val rfl rfl (R.addStr rfl rfl (by simp [textF, be_length]; omega)) ?_
          refine L.val rfl rfl (R.as rfl) ?_
          refine L.be 7 rfl (congrArg (fun q => Value.string (str q)) hwr.symm) ?_
          rw [← hwr] at hP2
          refine L.nil ?_
          refine N.block ?_
          refine N.seq ?_
          refine G.region ?_
          refine L.val rfl rfl (R.add rfl rfl (by omega)) ?_
          refine L.val rfl rfl (R.mv rfl) ?_
          refine L.nil ?_
          exact N.again (k + 1) (by omega) (Sub.cons rfl (Sub.cons rfl (Sub.cons rfl (Sub.cons rfl (Sub.cons rfl (Sub.cons rfl (Sub.cons rfl (Sub.nil _)))))))) ⟨by omega, by omega, hlen2, E, _, hP2, f2⟩
  · obtain rfl : k = n := by omega
    have hte : os.take k = os := List.take_of_length_le (by omega)
    rw [hte] at hlen hP
    refine G.be 7 rfl (congrArg (fun q => Value.string (str (wrOps q))) hte) ?_
    refine G.exit _ rfl ?_
    refine N.seq ?_
    refine G.seq ?_
    refine G.seq ?_
    refine G.region ?_
    refine L.val rfl rfl (R.mv rfl) ?_
    refine L.val rfl rfl (R.gtr rfl rfl) ?_
    refine L.nil ?_
    refine N.seq ?_
    refine G.condP rfl (fun h7 => ?_) (fun h7 => ?_)
    · refine G.region ?_
      refine L.val rfl rfl (R.as rfl) ?_
      obtain ⟨y2, e2, hy2⟩ : ∃ y2 : Int, (1000 : Int) = y2 ∧ (-9223372036854775808 ≤ y2 ∧ y2 ≤ 1000) := ⟨1000, rfl, by omega⟩
      refine L.be 1 rfl (congrArg (Value.int .i64) e2) ?_
      refine L.nil ?_
      refine N.seq ?_
      refine G.seq ?_
      refine G.quiet (by decide +kernel) rfl ?_
      refine Q.val rfl rfl rfl rfl (fun w3 hE => R.mv rfl) ?_
      refine Q.callR (A := IsBs (wrOps os).length (wrOps os)) (IsBs.keep _ _) rfl rfl go37 (fun w3 hE => ⟨_, rfl, (bytes_ok _ _ _ _ (hP.ext0 hE) (by omega)).mono (fun _ _ h => ⟨h.is, h.ext⟩)⟩) ?_
      refine Q.val rfl rfl rfl rfl (fun w3 hE => fun v hv => by obtain ⟨x1, y1, rfl, _, hv⟩ := hv; exact R.bytesStr rfl hv.cells hv.len) ?_
      refine Q.val rfl rfl rfl rfl (fun w3 hE => R.mv rfl) ?_
      refine Q.val rfl rfl rfl rfl (fun w3 hE => R.eqStr rfl rfl) ?_
      refine Q.val rfl rfl rfl rfl (fun w3 hE => R.mv rfl) ?_
      refine Q.isT 87 rfl (by simp) ?_
      refine Q.val rfl rfl rfl rfl (fun w3 hE => R.mv rfl) ?_
      refine Q.val rfl rfl rfl rfl (fun w3 hE => R.mv rfl) ?_
      refine Q.callR (A := IsBs (padF y2 (wrOps os)).length (padF y2 (wrOps os))) (IsBs.keep _ _) rfl rfl go38 (fun w3 hE => ⟨_, rfl, (padded_ok _ _ _ _ _ (hP.ext0 hE) (by omega) (by omega)).mono (fun _ _ h => ⟨h.is, h.ext⟩)⟩) ?_
      refine Q.val rfl rfl rfl rfl (fun w3 hE => fun v hv => by obtain ⟨x1, y1, rfl, _, hv⟩ := hv; exact R.bytesStr rfl hv.cells hv.len) ?_
      refine Q.val rfl rfl rfl rfl (fun w3 hE => R.mv rfl) ?_
      refine Q.val rfl rfl rfl rfl (fun w3 hE => R.mv rfl) ?_
      refine Q.call (.string (str (padF y2 (wrOps os)))) rfl rfl rfl go39 (fun w3 hE => ⟨_, rfl, (refpadded_ok _ _ _ (by omega) (by omega)).mono (by rintro _ _ ⟨rfl, rfl⟩; exact ⟨rfl, Ext.refl _ _⟩)⟩) ?_
      refine Q.val rfl rfl rfl rfl (fun w3 hE => R.eqStr rfl rfl) ?_
      first | refine Q.val rfl rfl rfl rfl (fun w3 hE => R.pickT rfl rfl) ?_ | refine Q.val rfl rfl rfl rfl (fun w3 hE => R.pickF rfl rfl) ?_
      refine Q.val rfl rfl rfl rfl (fun w3 hE => R.mv rfl) ?_
      refine Q.isT 97 rfl (by simp) ?_
      refine Q.val rfl rfl rfl rfl (fun w3 hE => R.mv rfl) ?_
      refine Q.call (.slice none 0 0) rfl rfl rfl go37 (fun w3 hE => ⟨_, rfl, (bytes_nil _).mono (by rintro _ _ ⟨rfl, rfl⟩; exact ⟨rfl, Ext.refl _ _⟩)⟩) ?_
      refine Q.val rfl rfl rfl rfl (fun w3 hE => R.lenS rfl) ?_
      refine Q.val rfl rfl rfl rfl (fun w3 hE => R.eqI rfl rfl) ?_
      first | refine Q.val rfl rfl rfl rfl (fun w3 hE => R.pickT rfl rfl) ?_ | refine Q.val rfl rfl rfl rfl (fun w3 hE => R.pickF rfl rfl) ?_
      refine Q.val rfl rfl rfl rfl (fun w3 hE => R.as rfl) ?_
      refine Q.nil (fun w3 e3 => ?_)
      intro v90 _ v83 _
      replace E := E.trans0 e3
      refine N.seq ?_
      refine G.ret1 rfl rfl ?_
      exact ⟨congrArg Value.bool (by simp), E⟩
    · obtain ⟨y2, e2, hy2⟩ : ∃ y2 : Int, y = y2 ∧ (-9223372036854775808 ≤ y2 ∧ y2 ≤ 1000) := ⟨y, rfl, by omega⟩
      refine G.be 1 rfl (congrArg (Value.int .i64) e2) ?_
      refine G.skip ?_
      refine N.seq ?_
      refine G.seq ?_
      refine G.quiet (by decide +kernel) rfl ?_
      refine Q.val rfl rfl rfl rfl (fun w3 hE => R.mv rfl) ?_
      refine Q.callR (A := IsBs (wrOps os).length (wrOps os)) (IsBs.keep _ _) rfl rfl go37 (fun w3 hE => ⟨_, rfl, (bytes_ok _ _ _ _ (hP.ext0 hE) (by omega)).mono (fun _ _ h => ⟨h.is, h.ext⟩)⟩) ?_
      refine Q.val rfl rfl rfl rfl (fun w3 hE => fun v hv => by obtain ⟨x1, y1, rfl, _, hv⟩ := hv; exact R.bytesStr rfl hv.cells hv.len) ?_
      refine Q.val rfl rfl rfl rfl (fun w3 hE => R.mv rfl) ?_
      refine Q.val rfl rfl rfl rfl (fun w3 hE => R.eqStr rfl rfl) ?_
      refine Q.val rfl rfl rfl rfl (fun w3 hE => R.mv rfl) ?_
      refine Q.isT 87 rfl (by simp) ?_
      refine Q.val rfl rfl rfl rfl (fun w3 hE => R.mv rfl) ?_
      refine Q.val rfl rfl rfl rfl (fun w3 hE => R.mv rfl) ?_
      refine Q.callR (A := IsBs (padF y2 (wrOps os)).length (padF y2 (wrOps os))) (IsBs.keep _ _) rfl rfl go38 (fun w3 hE => ⟨_, rfl, (padded_ok _ _ _ _ _ (hP.ext0 hE) (by omega) (by omega)).mono (fun _ _ h => ⟨h.is, h.ext⟩)⟩) ?_
      refine Q.val rfl rfl rfl rfl (fun w3 hE => fun v hv => by obtain ⟨x1, y1, rfl, _, hv⟩ := hv; exact R.bytesStr rfl hv.cells hv.len) ?_
      refine Q.val rfl rfl rfl rfl (fun w3 hE => R.mv rfl) ?_
      refine Q.val rfl rfl rfl rfl (fun w3 hE => R.mv rfl) ?_
      refine Q.call (.string (str (padF y2 (wrOps os)))) rfl rfl rfl go39 (fun w3 hE => ⟨_, rfl, (refpadded_ok _ _ _ (by omega) (by omega)).mono (by rintro _ _ ⟨rfl, rfl⟩; exact ⟨rfl, Ext.refl _ _⟩)⟩) ?_
      refine Q.val rfl rfl rfl rfl (fun w3 hE => R.eqStr rfl rfl) ?_
      first | refine Q.val rfl rfl rfl rfl (fun w3 hE => R.pickT rfl rfl) ?_ | refine Q.val rfl rfl rfl rfl (fun w3 hE => R.pickF rfl rfl) ?_
      refine Q.val rfl rfl rfl rfl (fun w3 hE => R.mv rfl) ?_
      refine Q.isT 97 rfl (by simp) ?_
      refine Q.val rfl rfl rfl rfl (fun w3 hE => R.mv rfl) ?_
      refine Q.call (.slice none 0 0) rfl rfl rfl go37 (fun w3 hE => ⟨_, rfl, (bytes_nil _).mono (by rintro _ _ ⟨rfl, rfl⟩; exact ⟨rfl, Ext.refl _ _⟩)⟩) ?_
      refine Q.val rfl rfl rfl rfl (fun w3 hE => R.lenS rfl) ?_
      refine Q.val rfl rfl rfl rfl (fun w3 hE => R.eqI rfl rfl) ?_
      first | refine Q.val rfl rfl rfl rfl (fun w3 hE => R.pickT rfl rfl) ?_ | refine Q.val rfl rfl rfl rfl (fun w3 hE => R.pickF rfl rfl) ?_
      refine Q.val rfl rfl rfl rfl (fun w3 hE => R.as rfl) ?_
      refine Q.nil (fun w3 e3 => ?_)
      intro v90 _ v83 _
      replace E := E.trans0 e3
      refine N.seq ?_
      refine G.ret1 rfl rfl ?_
      exact ⟨congrArg Value.bool (by simp), E⟩

end Go.Proofs.Ytfbkbobphjncfaa
