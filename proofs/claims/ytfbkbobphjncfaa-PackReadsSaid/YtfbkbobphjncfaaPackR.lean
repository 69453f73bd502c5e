/-
  The walks of the laws on pack.
-/
import Derived.Test.YtfbkbobphjncfaaPackF
import Derived.Test.YtfbkbobphjncfaaPackB
set_option linter.unusedVariables false
namespace Go.Proofs.Ytfbkbobphjncfaa
open Go Brv Brv.Crc Brv.Pack
theorem packReads_ok (a : Option Addr) (n c : Nat) (l : List UInt8) (a' : Option Addr) (n' c' : Nat) (os : List OpV) (w : World) (hb : Bs w a n l) (hc : n ≤ 140737488351232) (hT : Tab w a' n' 4 (os.map OpV.cells)) (hO : ∀ o ∈ os, o.ok w) (hc' : n' ≤ 2932031007402) : Meets Try.prog 8 [.slice a n c, .slice a' n' c'] w (fun v w' => v = .bool true ∧ Ext [] w w') := by
  refine Meets.enter Try.func8 rfl 106 rfl (Nat.le_of_ble_eq_true rfl) ?_
  have E := Ext.refl [] w
  have hn := hT.len
  rw [List.length_map] at hn
  have hl := hb.len
  refine G.seq ?_
  refine G.region ?_
  refine L.val rfl rfl (R.as rfl) ?_
  refine L.nil ?_
  refine N.seq ?_
  refine G.seq ?_
  refine G.seq ?_
  refine G.region ?_
  refine L.callF rfl rfl rfl go31 (pack_first_ok _) ?_
  rintro _ w1 ⟨rfl, e1⟩
  replace E := E.trans0 e1
  have hw1 := E.size
  refine L.val rfl rfl (R.not rfl) ?_
  refine L.nil ?_
  refine N.seq ?_
  refine G.condF rfl ?_
  refine G.skip ?_
  refine N.seq ?_
  refine G.seq ?_
  refine G.seq ?_
  refine G.region ?_
  refine L.val rfl rfl (R.mv rfl) ?_
  refine L.val rfl rfl (R.lenS rfl) ?_
  refine L.val rfl rfl (R.gtr rfl rfl) ?_
  refine L.nil ?_
  refine N.seq ?_
  refine G.condP rfl (fun h1 => ?_) (fun h1 => ?_)
  · refine G.seq ?_
    refine G.region ?_
    refine L.val rfl rfl (R.as rfl) ?_
    refine L.nil ?_
    refine N.seq ?_
    refine G.ret1 rfl rfl ?_
    exact ⟨rfl, E⟩
  · refine G.skip ?_
    refine N.seq ?_
    refine G.seq ?_
    refine G.quiet (by decide +kernel) rfl ?_
    refine Q.val rfl rfl rfl rfl (fun w2 hE => R.mv rfl) ?_
    refine Q.callR (A := IsScan 89 5 w1.heap.size l) (IsScan.keep _ _ _ _) rfl rfl go40 (fun w2 hE => ⟨_, rfl, (new_ok _ _ _ _ _ (hb.ext0 (E.trans0 hE)) (by omega)).mono (by rintro _ _ ⟨s, D, h1, h2, h3, h4, h5, h6⟩; exact ⟨⟨s, D, h1, h2, Nat.le_trans hE.size h4, fun d hd => Nat.le_trans hE.size (h5 d hd), h6⟩, h3⟩)⟩) ?_
    refine Q.val rfl rfl rfl rfl (fun w2 hE => R.mv rfl) ?_
    refine Q.val rfl rfl rfl rfl (fun w2 hE => R.bytesStr rfl (hb.ext0 (E.trans0 hE)).cells hb.len) ?_
    refine Q.val rfl rfl rfl rfl (fun w2 hE => R.build rfl rfl) ?_
    refine Q.new (A := IsBox 66 w1.heap.size #[.string (str l), .int .i64 0]) (IsBox.keep _ _ _) rfl rfl rfl (fun w2 hE => (R.box (v := .agg #[.string (str l), .int .i64 0]) rfl).mono (fun _ _ h => New.is h hE)) ?_
    refine Q.valR (A := IsScan 89 5 w1.heap.size l) (IsScan.keep _ _ _ _) rfl rfl rfl (fun w2 hE => fun v hv => ⟨v, R.as rfl, hv⟩) ?_
    refine Q.valR (A := IsBox 66 w1.heap.size #[.string (str l), .int .i64 0]) (IsBox.keep _ _ _) rfl rfl rfl (fun w2 hE => fun v hv => ⟨v, R.as rfl, hv⟩) ?_
    refine Q.nil (fun w2 e2 => ?_)
    intro v6 h6 v5 h5 v20 _ v16 _
    obtain ⟨x, rfl, hX, hx0⟩ := h6
    obtain ⟨s, D, rfl, hS, hs0, hD0, ⟨_, hBs⟩, hBD⟩ := h5
    have hsx : s ≠ x := hBs.ne hX (by decide)
    have hDx : ∀ d ∈ D, d ≠ x := fun d hd => by obtain ⟨_, h⟩ := hBD d hd; exact h.ne hX (by decide)
    have hDs : ∀ d ∈ D, d ≠ s := fun d hd => by obtain ⟨_, h⟩ := hBD d hd; exact h.ne hBs (by decide)
    have hDl : ∀ d ∈ D, d < w2.heap.size := fun d hd => by obtain ⟨_, h⟩ := hBD d hd; exact h.lt
    have hsl := hBs.lt
    have hxl := hX.lt
    replace E := E.trans0 e2
    refine N.seq ?_
    refine G.seq ?_
    refine G.region ?_
    refine L.val rfl rfl (R.as rfl) ?_
    refine L.nil ?_
    refine N.seq ?_
    refine G.seq ?_
    refine G.seq ?_
    refine G.region ?_
    refine L.val rfl rfl (R.mv rfl) ?_
    refine L.val rfl rfl (R.lenS rfl) ?_
    refine L.val rfl rfl (R.mv rfl) ?_
    refine L.nil ?_
    refine N.seq ?_
    refine G.block ?_
    refine G.loop (X := Nat) (fun k => [(5, .pointer (some ⟨s, 0, none⟩)), (6, .pointer (some ⟨x, 0, none⟩)), (7, .pointer none), (21, .slice a' n' c'), (22, .int .i64 n'), (23, .int .i64 (k : Nat))]) (fun k w' => k ≤ n' ∧ w2.heap.size ≤ w'.heap.size ∧ Ext [] w w' ∧ ∃ l' e', l'.length ≤ 2000 ∧ ScanAt 89 w' s D l' e' ∧ Blk w' x #[.string (str l'), .int .i64 e'] 66 (0, 0)) (fun k => n' - k) (0) (Sub.cons rfl (Sub.cons rfl (Sub.cons rfl (Sub.cons rfl (Sub.cons rfl (Sub.cons rfl (Sub.nil _))))))) ⟨by omega, Nat.le_refl _, E, l, 0, by omega, hS, hX⟩ ?_
    rintro k w1 ⟨hk, hz, E, l', e', hl', hS, hX⟩
    refine G.seq ?_
    refine G.region ?_
    refine L.val rfl rfl (R.lss rfl rfl) ?_
    refine L.nil ?_
    refine N.seq ?_
    refine G.seq ?_
    refine G.condP rfl (fun h2 => ?_) (fun h2 => ?_)
    · refine G.skip ?_
      refine N.seq ?_
      refine G.seq ?_
      refine G.block ?_
      refine G.seq ?_
      refine G.region ?_
      refine L.val rfl rfl (R.mv rfl) ?_
      obtain ⟨q, hq, hcl⟩ := hT.at (by decide) k (by rw [List.length_map]; omega)
      rw [List.getElem_map] at hcl
      obtain ⟨hk0, hk1, hk2, hk3⟩ := hO _ (List.getElem_mem (show k < os.length by omega))
      generalize hoe : os[k]'(by omega) = o at *
      refine L.val rfl rfl (R.idx rfl rfl (by omega) (by omega) q hq) ?_
      refine L.val rfl rfl (R.ldN rfl (hcl.ext0 E) rfl) ?_
      refine L.do rfl rfl (R.alloc) ?_
      rintro _ w2x ⟨b9, rfl, hb9, hs9, e2x, B9⟩
      replace hS := hS.ext0 e2x
      replace hX := hX.ext0 e2x
      have hEb := E.size
      replace E := E.trans0 e2x
      have hsb : s ≠ b9 := by omega
      have hxb : x ≠ b9 := by omega
      have hDb : ∀ d ∈ D, d ≠ b9 := fun d hd => by have := hDl d hd; omega
      refine L.val rfl rfl (R.as rfl) ?_
      refine L.set rfl (R.stN rfl rfl B9 rfl (Nat.le_refl 4) (OpV.cells.one _)) ?_
      rintro w3 ⟨e3, hs3, B9⟩
      replace B9 : Blk w3 b9 o.cells.toArray 55 (0, 0) := B9
      replace hS := hS.ext e3 (by simpa using hsb) (fun d hd => by simpa using hDb d hd)
      replace hX := hX.ext e3 (by simpa using hxb)
      replace E := E.trans e3 (M := []) (by simp) (by intro g hg; rw [List.mem_singleton.1 hg]; exact .inr (by omega))
      refine L.nil ?_
      refine N.seq ?_
      refine G.seq ?_
      refine G.seq ?_
      refine G.region ?_
      refine L.val rfl rfl (R.mv rfl) ?_
      refine L.val rfl rfl (R.geq rfl rfl) ?_
      refine L.nil ?_
      refine N.seq ?_
      refine G.condP rfl (fun h3 => ?_) (fun h3 => ?_)
      · refine G.exit _ rfl ?_
        refine N.seq ?_
        refine G.seq ?_
        refine G.region ?_
        refine L.val rfl rfl (R.mv rfl) ?_
        refine L.callF rfl rfl rfl go45 (scanerr_nil _) ?_
        rintro _ _ ⟨rfl, hw⟩
        obtain rfl := hw.symm
        refine L.val rfl rfl (R.eqI rfl rfl) ?_
        refine L.val rfl rfl (R.mv rfl) ?_
        refine L.isT 96 rfl (by decide) ?_
        refine L.val rfl rfl (R.mv rfl) ?_
        refine L.callF rfl rfl rfl go46 (scanleft_nil _) ?_
        rintro _ _ ⟨rfl, hw⟩
        obtain rfl := hw.symm
        refine L.val rfl rfl (R.eqI rfl rfl) ?_
        first | refine L.val rfl rfl (R.pickT rfl rfl) ?_ | refine L.val rfl rfl (R.pickF rfl rfl) ?_
        refine L.val rfl rfl (R.mv rfl) ?_
        refine L.isT 101 rfl (by decide) ?_
        refine L.val rfl rfl (R.mv rfl) ?_
        refine L.callF rfl rfl rfl go47 (scannought_nil _) ?_
        rintro _ _ ⟨rfl, hw⟩
        obtain rfl := hw.symm
        refine L.val rfl rfl (R.not rfl) ?_
        first | refine L.val rfl rfl (R.pickT rfl rfl) ?_ | refine L.val rfl rfl (R.pickF rfl rfl) ?_
        refine L.val rfl rfl (R.as rfl) ?_
        refine L.nil ?_
        refine N.seq ?_
        refine G.ret1 rfl rfl ?_
        exact ⟨rfl, E⟩
      · refine G.skip ?_
        refine N.seq ?_
        refine G.seq ?_
        refine G.seq ?_
        refine G.region ?_
        refine L.val rfl rfl (R.fld rfl) ?_
        refine L.val rfl rfl (R.ldB rfl B9 rfl) ?_
        refine L.val rfl rfl (R.remW rfl rfl (by omega) _ rfl) ?_
        refine L.val rfl rfl (R.eqI rfl rfl) ?_
        refine L.nil ?_
        refine N.seq ?_
        refine G.condP rfl (fun h4 => ?_) (fun h4 => ?_)
        · refine G.seq ?_
          have hI : ∀ k w', stage [Ext [] w3, fun w' => Ext [s] w3 w' ∧ ScanAt 89 w' s D (numF l' e' o.W').2.1 (numF l' e' o.W').2.2, fun w' => Ext [s, x] w3 w' ∧ ScanAt 89 w' s D (numF l' e' o.W').2.1 (numF l' e' o.W').2.2 ∧ Blk w' x #[.string (str (numF l' e' o.W').2.1), .int .i64 (numF l' e' o.W').2.2] 66 (0, 0)] k w' → (fun w' => Blk w' b9 o.cells.toArray 55 (0, 0)) w' := fun k w' hs => stage_all (I := fun w' => Blk w' b9 o.cells.toArray 55 (0, 0)) (by
            intro Ψ hΨ w' hJ
            simp only [List.mem_cons, List.not_mem_nil, or_false] at hΨ
            rcases hΨ with rfl | rfl | rfl
            · exact B9.ext0 hJ
            · exact B9.ext hJ.1 (by simp; omega)
            · exact B9.ext hJ.1 (by simp; omega)) hs
          refine G.staged [3, 7] [[s], [x]] [Ext [] w3, fun w' => Ext [s] w3 w' ∧ ScanAt 89 w' s D (numF l' e' o.W').2.1 (numF l' e' o.W').2.2, fun w' => Ext [s, x] w3 w' ∧ ScanAt 89 w' s D (numF l' e' o.W').2.1 (numF l' e' o.W').2.2 ∧ Blk w' x #[.string (str (numF l' e' o.W').2.1), .int .i64 (numF l' e' o.W').2.2] 66 (0, 0)] [] (by decide +kernel) (by decide +kernel) rfl rfl rfl (fun _ h => h) ?_
          refine Z.val rfl rfl rfl rfl rfl (fun w4 => R.mv rfl) ?_
          refine Z.val rfl rfl rfl rfl rfl (fun w4 => R.fld rfl) ?_
          refine Z.readI hI rfl rfl rfl rfl rfl (fun w4 hJ => R.ldB rfl hJ rfl) ?_
          refine Z.callEqPut (.int .i64 (numF l' e' o.W').1) 0 (by decide +kernel) rfl rfl rfl rfl rfl rfl rfl go41 (fun w4 hJ => ⟨_, rfl, (scannum_ok _ _ _ _ _ _ (hS.ext0 hJ) (by omega)).mono (by rintro _ w5 ⟨rfl, h1, h2⟩; exact ⟨rfl, h2, h2.after hJ, h1⟩)⟩) ?_
          refine Z.val rfl rfl rfl rfl rfl (fun w4 => R.mv rfl) ?_
          refine Z.val rfl rfl rfl rfl rfl (fun w4 => R.fld rfl) ?_
          refine Z.readI hI rfl rfl rfl rfl rfl (fun w4 hJ => R.ldB rfl hJ rfl) ?_
          refine Z.callEqPut (.int .i64 (numF l' e' o.W').1) 1 (by decide +kernel) rfl rfl rfl rfl rfl rfl rfl go42 (fun w4 hJ => ⟨_, rfl, (refnum_ok _ _ _ _ _ (hX.ext hJ.1 (by simpa using hsx.symm)) (by omega)).mono (by rintro _ w5 ⟨rfl, h1, h2⟩; exact ⟨rfl, h2, hJ.1.trans h2 (by simp) (by simp), hJ.2.ext h2 (by simpa using hsx) (fun d hd => by simpa using hDx d hd), h1⟩)⟩) ?_
          refine Z.val rfl rfl rfl rfl rfl (fun w4 => R.neI rfl rfl) ?_
          refine Z.val rfl rfl rfl rfl rfl (fun w4 => R.mv rfl) ?_
          refine Z.isF 43 rfl (by simp) ?_
          refine Z.val rfl rfl rfl rfl rfl (fun w4 => R.mv rfl) ?_
          refine Z.val rfl rfl rfl rfl rfl (fun w4 => R.fld rfl) ?_
          refine Z.readI hI rfl rfl rfl rfl rfl (fun w4 hJ => R.ldB rfl hJ rfl) ?_
          refine Z.call (.int .i64 0) 2 (by decide +kernel) rfl rfl rfl rfl rfl go41 (fun w4 hJ => ⟨_, rfl, (scannum_nil _ _).mono (by rintro _ _ ⟨rfl, rfl⟩; exact ⟨rfl, Ext.refl _ _, hJ⟩)⟩) ?_
          refine Z.val rfl rfl rfl rfl rfl (fun w4 => R.neI rfl rfl) ?_
          first | refine Z.val rfl rfl rfl rfl rfl (fun w4 => R.pickT rfl rfl) ?_ | refine Z.val rfl rfl rfl rfl rfl (fun w4 => R.pickF rfl rfl) ?_
          refine Z.nil rfl rfl (fun w4 hJ => ?_)
          obtain ⟨e4, hS2, hX2⟩ := hJ
          replace E := E.trans e4 (M := []) (by simp) (by intro g hg; simp only [List.mem_cons, List.not_mem_nil, or_false] at hg; rcases hg with rfl | rfl <;> exact .inr (by omega))
          have hz2 := e4.size
          have hl2 : (numF l' e' o.W').2.1.length ≤ 2000 := Nat.le_trans (numF_length _ _ _) hl'
          refine N.seq ?_
          refine G.condP rfl (fun h5 => ?_) (fun h5 => ?_)
          · exfalso
            exact h5 rfl
          · refine G.skip ?_
            refine N.seq ?_
            refine G.seq ?_
            refine G.quiet (by decide +kernel) rfl ?_
            refine Q.val rfl rfl rfl rfl (fun w5 hE => R.mv rfl) ?_
            refine Q.call (.int .i64 _) rfl rfl rfl go45 (fun w5 hE => ⟨_, rfl, (scanerr_ok _ _ _ _ _ (hS2.ext0 hE) (by omega)).mono (by rintro _ _ ⟨rfl, rfl⟩; exact ⟨rfl, Ext.refl _ _⟩)⟩) ?_
            refine Q.val rfl rfl rfl rfl (fun w5 hE => R.mv rfl) ?_
            refine Q.val rfl rfl rfl rfl (fun w5 hE => R.nilChk rfl) ?_
            refine Q.val rfl rfl rfl rfl (fun w5 hE => R.fld rfl) ?_
            refine Q.val rfl rfl rfl rfl (fun w5 hE => R.ldB rfl (hX2.ext0 hE) rfl) ?_
            refine Q.val rfl rfl rfl rfl (fun w5 hE => R.neI rfl rfl) ?_
            refine Q.val rfl rfl rfl rfl (fun w5 hE => R.mv rfl) ?_
            refine Q.isF 75 rfl (by simp) ?_
            refine Q.val rfl rfl rfl rfl (fun w5 hE => R.mv rfl) ?_
            refine Q.call (.int .i64 _) rfl rfl rfl go46 (fun w5 hE => ⟨_, rfl, (scanleft_ok _ _ _ _ _ (hS2.ext0 hE) (by omega)).mono (by rintro _ _ ⟨rfl, rfl⟩; exact ⟨rfl, Ext.refl _ _⟩)⟩) ?_
            refine Q.val rfl rfl rfl rfl (fun w5 hE => R.mv rfl) ?_
            refine Q.val rfl rfl rfl rfl (fun w5 hE => R.nilChk rfl) ?_
            refine Q.val rfl rfl rfl rfl (fun w5 hE => R.fld rfl) ?_
            refine Q.val rfl rfl rfl rfl (fun w5 hE => R.ldB rfl (hX2.ext0 hE) rfl) ?_
            refine Q.val rfl rfl rfl rfl (fun w5 hE => R.lenStr rfl) ?_
            refine Q.val rfl rfl rfl rfl (fun w5 hE => R.neI rfl rfl) ?_
            first | refine Q.val rfl rfl rfl rfl (fun w5 hE => R.pickT rfl rfl) ?_ | refine Q.val rfl rfl rfl rfl (fun w5 hE => R.pickF rfl rfl) ?_
            refine Q.val rfl rfl rfl rfl (fun w5 hE => R.mv rfl) ?_
            refine Q.isF 85 rfl (by rw [str_size]; simp) ?_
            refine Q.val rfl rfl rfl rfl (fun w5 hE => R.mv rfl) ?_
            refine Q.call (.bool _) rfl rfl rfl go47 (fun w5 hE => ⟨_, rfl, (scannought_ok _ _ _ _ _ (hS2.ext0 hE) (by omega)).mono (by rintro _ _ ⟨rfl, rfl⟩; exact ⟨rfl, Ext.refl _ _⟩)⟩) ?_
            refine Q.val rfl rfl rfl rfl (fun w5 hE => R.mv rfl) ?_
            refine Q.call (.bool _) rfl rfl rfl go48 (fun w5 hE => ⟨_, rfl, (refnought_ok _ _ _ _ (hX2.ext0 hE) (by omega)).mono (by rintro _ _ ⟨rfl, rfl⟩; exact ⟨rfl, Ext.refl _ _⟩)⟩) ?_
            refine Q.val rfl rfl rfl rfl (fun w5 hE => R.neB rfl rfl) ?_
            first | refine Q.val rfl rfl rfl rfl (fun w5 hE => R.pickT rfl rfl) ?_ | refine Q.val rfl rfl rfl rfl (fun w5 hE => R.pickF rfl rfl) ?_
            refine Q.nil (fun w5 e5 => ?_)
            replace hS2 := hS2.ext0 e5
            replace hX2 := hX2.ext0 e5
            have hz9 := (e5).size
            replace E := E.trans0 e5
            refine N.seq ?_
            refine G.condB rfl (fun h7 => ?_) (fun h7 => ?_)
            · exfalso
              simp at h7
            · refine G.skip ?_
              refine N.block ?_
              refine N.seq ?_
              refine G.region ?_
              refine L.val rfl rfl (R.add rfl rfl (by omega)) ?_
              refine L.val rfl rfl (R.mv rfl) ?_
              refine L.nil ?_
              exact N.again (k + 1) (by omega) (Sub.cons rfl (Sub.cons rfl (Sub.cons rfl (Sub.cons rfl (Sub.cons rfl (Sub.cons rfl (Sub.nil _))))))) ⟨by omega, by omega, E, _, _, hl2, hS2, hX2⟩
        · refine G.seq ?_
          have hI : ∀ k w', stage [Ext [] w3, fun w' => Ext [s] w3 w' ∧ ScanAt 89 w' s D (txtF l' e' o.N').2.1 (txtF l' e' o.N').2.2, fun w' => Ext [s, x] w3 w' ∧ ScanAt 89 w' s D (txtF l' e' o.N').2.1 (txtF l' e' o.N').2.2 ∧ Blk w' x #[.string (str (txtF l' e' o.N').2.1), .int .i64 (txtF l' e' o.N').2.2] 66 (0, 0)] k w' → (fun w' => Blk w' b9 o.cells.toArray 55 (0, 0)) w' := fun k w' hs => stage_all (I := fun w' => Blk w' b9 o.cells.toArray 55 (0, 0)) (by
            intro Ψ hΨ w' hJ
            simp only [List.mem_cons, List.not_mem_nil, or_false] at hΨ
            rcases hΨ with rfl | rfl | rfl
            · exact B9.ext0 hJ
            · exact B9.ext hJ.1 (by simp; omega)
            · exact B9.ext hJ.1 (by simp; omega)) hs
          refine G.staged [3, 8] [[s], [x]] [Ext [] w3, fun w' => Ext [s] w3 w' ∧ ScanAt 89 w' s D (txtF l' e' o.N').2.1 (txtF l' e' o.N').2.2, fun w' => Ext [s, x] w3 w' ∧ ScanAt 89 w' s D (txtF l' e' o.N').2.1 (txtF l' e' o.N').2.2 ∧ Blk w' x #[.string (str (txtF l' e' o.N').2.1), .int .i64 (txtF l' e' o.N').2.2] 66 (0, 0)] [] (by decide +kernel) (by decide +kernel) rfl rfl rfl (fun _ h => h) ?_
          refine Z.val rfl rfl rfl rfl rfl (fun w4 => R.mv rfl) ?_
          refine Z.val rfl rfl rfl rfl rfl (fun w4 => R.fld rfl) ?_
          refine Z.readI hI rfl rfl rfl rfl rfl (fun w4 hJ => R.ldB rfl hJ rfl) ?_
          refine Z.callPut (A := BsIn D (txtF l' e' o.N').1) (Lasts.apart (by intro M hM; simp only [List.mem_cons, List.not_mem_nil, or_false] at hM; rcases hM with rfl | rfl | rfl; exact BsIn.keep (by simp); exact BsIn.keep (by simpa using hDs); exact BsIn.keep (by simpa using hDx))) 0 (by decide +kernel) rfl rfl rfl rfl rfl rfl go43 (fun w4 hJ => ⟨_, rfl, (scantext_ok _ _ _ _ _ _ (hS.ext0 hJ) (by omega)).mono (by rintro _ w5 ⟨a5, c5, rfl, h1, h2, h3, h4, h5⟩; exact ⟨⟨a5, c5, rfl, h1, h2, h3⟩, h5, h5.after hJ, h4⟩)⟩) ?_
          refine Z.val rfl rfl rfl rfl rfl (fun w4 => fun v hv => by obtain ⟨a5, c5, rfl, _, hv, _⟩ := hv; exact R.bytesStr rfl hv.cells hv.len) ?_
          refine Z.val rfl rfl rfl rfl rfl (fun w4 => R.mv rfl) ?_
          refine Z.val rfl rfl rfl rfl rfl (fun w4 => R.fld rfl) ?_
          refine Z.readI hI rfl rfl rfl rfl rfl (fun w4 hJ => R.ldB rfl hJ rfl) ?_
          refine Z.callEqPut (.string (str (txtF l' e' o.N').1)) 1 (by decide +kernel) rfl rfl rfl rfl rfl rfl rfl go44 (fun w4 hJ => ⟨_, rfl, (reftxt_ok _ _ _ _ _ (hX.ext hJ.1 (by simpa using hsx.symm)) (by omega)).mono (by rintro _ w5 ⟨rfl, h1, h2⟩; exact ⟨rfl, h2, hJ.1.trans h2 (by simp) (by simp), hJ.2.ext h2 (by simpa using hsx) (fun d hd => by simpa using hDx d hd), h1⟩)⟩) ?_
          refine Z.val rfl rfl rfl rfl rfl (fun w4 => R.neStr rfl rfl) ?_
          refine Z.val rfl rfl rfl rfl rfl (fun w4 => R.mv rfl) ?_
          refine Z.isF 60 rfl (by simp) ?_
          refine Z.val rfl rfl rfl rfl rfl (fun w4 => R.mv rfl) ?_
          refine Z.val rfl rfl rfl rfl rfl (fun w4 => R.fld rfl) ?_
          refine Z.readI hI rfl rfl rfl rfl rfl (fun w4 hJ => R.ldB rfl hJ rfl) ?_
          refine Z.call (.slice none 0 0) 2 (by decide +kernel) rfl rfl rfl rfl rfl go43 (fun w4 hJ => ⟨_, rfl, (scantext_nil _ _).mono (by rintro _ _ ⟨rfl, rfl⟩; exact ⟨rfl, Ext.refl _ _, hJ⟩)⟩) ?_
          refine Z.val rfl rfl rfl rfl rfl (fun w4 => R.lenS rfl) ?_
          refine Z.val rfl rfl rfl rfl rfl (fun w4 => R.neI rfl rfl) ?_
          first | refine Z.val rfl rfl rfl rfl rfl (fun w4 => R.pickT rfl rfl) ?_ | refine Z.val rfl rfl rfl rfl rfl (fun w4 => R.pickF rfl rfl) ?_
          refine Z.nil rfl rfl (fun w4 hJ => ?_)
          intro v53 _
          obtain ⟨e4, hS2, hX2⟩ := hJ
          replace E := E.trans e4 (M := []) (by simp) (by intro g hg; simp only [List.mem_cons, List.not_mem_nil, or_false] at hg; rcases hg with rfl | rfl <;> exact .inr (by omega))
          have hz2 := e4.size
          have hl2 : (txtF l' e' o.N').2.1.length ≤ 2000 := Nat.le_trans (txtF_length _ _ _) hl'
          refine N.seq ?_
          refine G.condP rfl (fun h6 => ?_) (fun h6 => ?_)
          · exfalso
            exact h6 rfl
          · refine G.skip ?_
            refine N.seq ?_
            refine G.seq ?_
            refine G.quiet (by decide +kernel) rfl ?_
            refine Q.val rfl rfl rfl rfl (fun w5 hE => R.mv rfl) ?_
            refine Q.call (.int .i64 _) rfl rfl rfl go45 (fun w5 hE => ⟨_, rfl, (scanerr_ok _ _ _ _ _ (hS2.ext0 hE) (by omega)).mono (by rintro _ _ ⟨rfl, rfl⟩; exact ⟨rfl, Ext.refl _ _⟩)⟩) ?_
            refine Q.val rfl rfl rfl rfl (fun w5 hE => R.mv rfl) ?_
            refine Q.val rfl rfl rfl rfl (fun w5 hE => R.nilChk rfl) ?_
            refine Q.val rfl rfl rfl rfl (fun w5 hE => R.fld rfl) ?_
            refine Q.val rfl rfl rfl rfl (fun w5 hE => R.ldB rfl (hX2.ext0 hE) rfl) ?_
            refine Q.val rfl rfl rfl rfl (fun w5 hE => R.neI rfl rfl) ?_
            refine Q.val rfl rfl rfl rfl (fun w5 hE => R.mv rfl) ?_
            refine Q.isF 75 rfl (by simp) ?_
            refine Q.val rfl rfl rfl rfl (fun w5 hE => R.mv rfl) ?_
            refine Q.call (.int .i64 _) rfl rfl rfl go46 (fun w5 hE => ⟨_, rfl, (scanleft_ok _ _ _ _ _ (hS2.ext0 hE) (by omega)).mono (by rintro _ _ ⟨rfl, rfl⟩; exact ⟨rfl, Ext.refl _ _⟩)⟩) ?_
            refine Q.val rfl rfl rfl rfl (fun w5 hE => R.mv rfl) ?_
            refine Q.val rfl rfl rfl rfl (fun w5 hE => R.nilChk rfl) ?_
            refine Q.val rfl rfl rfl rfl (fun w5 hE => R.fld rfl) ?_
            refine Q.val rfl rfl rfl rfl (fun w5 hE => R.ldB rfl (hX2.ext0 hE) rfl) ?_
            refine Q.val rfl rfl rfl rfl (fun w5 hE => R.lenStr rfl) ?_
            refine Q.val rfl rfl rfl rfl (fun w5 hE => R.neI rfl rfl) ?_
            first | refine Q.val rfl rfl rfl rfl (fun w5 hE => R.pickT rfl rfl) ?_ | refine Q.val rfl rfl rfl rfl (fun w5 hE => R.pickF rfl rfl) ?_
            refine Q.val rfl rfl rfl rfl (fun w5 hE => R.mv rfl) ?_
            refine Q.isF 85 rfl (by rw [str_size]; simp) ?_
            refine Q.val rfl rfl rfl rfl (fun w5 hE => R.mv rfl) ?_
            refine Q.call (.bool _) rfl rfl rfl go47 (fun w5 hE => ⟨_, rfl, (scannought_ok _ _ _ _ _ (hS2.ext0 hE) (by omega)).mono (by rintro _ _ ⟨rfl, rfl⟩; exact ⟨rfl, Ext.refl _ _⟩)⟩) ?_
            refine Q.val rfl rfl rfl rfl (fun w5 hE => R.mv rfl) ?_
            refine Q.call (.bool _) rfl rfl rfl go48 (fun w5 hE => ⟨_, rfl, (refnought_ok _ _ _ _ (hX2.ext0 hE) (by omega)).mono (by rintro _ _ ⟨rfl, rfl⟩; exact ⟨rfl, Ext.refl _ _⟩)⟩) ?_
            refine Q.val rfl rfl rfl rfl (fun w5 hE => R.neB rfl rfl) ?_
            first | refine Q.val rfl rfl rfl rfl (fun w5 hE => R.pickT rfl rfl) ?_ | refine Q.val rfl rfl rfl rfl (fun w5 hE => R.pickF rfl rfl) ?_
            refine Q.nil (fun w5 e5 => ?_)
            replace hS2 := hS2.ext0 e5
            replace hX2 := hX2.ext0 e5
            have hz9 := (e5).size
            replace E := E.trans0 e5
            refine N.seq ?_
            refine G.condB rfl (fun h7 => ?_) (fun h7 => ?_)
            · exfalso
              simp at h7
            · refine G.skip ?_
              refine N.block ?_
              refine N.seq ?_
              refine G.region ?_
              refine L.val rfl rfl (R.add rfl rfl (by omega)) ?_
              refine L.val rfl rfl (R.mv rfl) ?_
              refine L.nil ?_
              exact N.again (k + 1) (by omega) (Sub.cons rfl (Sub.cons rfl (Sub.cons rfl (Sub.cons rfl (Sub.cons rfl (Sub.cons rfl (Sub.nil _))))))) ⟨by omega, by omega, E, _, _, hl2, hS2, hX2⟩
    · refine G.exit _ rfl ?_
      refine N.seq ?_
      refine G.seq ?_
      refine G.region ?_
      refine L.val rfl rfl (R.mv rfl) ?_
      refine L.callF rfl rfl rfl go45 (scanerr_nil _) ?_
      rintro _ _ ⟨rfl, hw⟩
      obtain rfl := hw.symm
      refine L.val rfl rfl (R.eqI rfl rfl) ?_
      refine L.val rfl rfl (R.mv rfl) ?_
      refine L.isT 96 rfl (by decide) ?_
      refine L.val rfl rfl (R.mv rfl) ?_
      refine L.callF rfl rfl rfl go46 (scanleft_nil _) ?_
      rintro _ _ ⟨rfl, hw⟩
      obtain rfl := hw.symm
      refine L.val rfl rfl (R.eqI rfl rfl) ?_
      first | refine L.val rfl rfl (R.pickT rfl rfl) ?_ | refine L.val rfl rfl (R.pickF rfl rfl) ?_
      refine L.val rfl rfl (R.mv rfl) ?_
      refine L.isT 101 rfl (by decide) ?_
      refine L.val rfl rfl (R.mv rfl) ?_
      refine L.callF rfl rfl rfl go47 (scannought_nil _) ?_
      rintro _ _ ⟨rfl, hw⟩
      obtain rfl := hw.symm
      refine L.val rfl rfl (R.not rfl) ?_
      first | refine L.val rfl rfl (R.pickT rfl rfl) ?_ | refine L.val rfl rfl (R.pickF rfl rfl) ?_
      refine L.val rfl rfl (R.as rfl) ?_
      refine L.nil ?_
      refine N.seq ?_
      refine G.ret1 rfl rfl ?_
      exact ⟨rfl, E⟩

end Go.Proofs.Ytfbkbobphjncfaa
