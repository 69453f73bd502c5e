/-
  The walks of the laws on image.
-/
import Derived.Test.YtjmlcodlnohgdaaImageQ
import Derived.Test.YtjmlcodlnohgdaaImage4
set_option linter.unusedVariables false
set_option linter.unusedSimpArgs false
namespace Go.Proofs.Ytjmlcodlnohgdaa
open Go Brv Brv.Image
theorem imagePlays_ok (n : Nat) (la : Option Addr) (ln lc : Nat) (rs : List Row) (w : World) (hn1 : 1 ≤ n) (hn2 : n ≤ 64) (hT : Tab w la ln 1 (rs.map Row.cell)) (hR : ∀ r ∈ rs, r.ok w) : Meets Try.prog 3 [.int .i64 (n : Int), .slice la ln lc] w (fun v w' => v = .bool true ∧ Ext [] w w') := by
  refine Meets.enter Try.func3 rfl 212 rfl (Nat.le_of_ble_eq_true rfl) ?_
  have E := Ext.refl [] w
  have hln := hT.len
  rw [List.length_map] at hln
  refine G.seq ?_
  refine G.region ?_
  refine L.val rfl rfl (R.as rfl) ?_
  refine L.nil ?_
  refine N.seq ?_
  refine G.seq ?_
  refine G.seq ?_
  refine G.region ?_
  refine L.callF rfl rfl rfl go16 (image_first_ok _) ?_
  rintro _ w2 ⟨rfl, e2⟩
  replace E := E.trans0 e2
  refine L.val rfl rfl (R.not rfl) ?_
  refine L.nil ?_
  refine N.seq ?_
  refine G.condF rfl ?_
  refine G.skip ?_
  refine N.seq ?_
  refine G.seq ?_
  refine G.region ?_
  refine L.val rfl rfl (R.mv rfl) ?_
  refine L.callF rfl rfl rfl go17 (inew_ok n _ hn1 hn2) ?_
  rintro _ w3 ⟨d0, rfl, e3, O3⟩
  replace E := E.trans0 e3
  obtain ⟨x0, hx0⟩ : ∃ x0 : List UInt8, x0 = List.replicate (64 * n) 0 := ⟨_, rfl⟩
  rw [← hx0] at O3
  have hD0 := O3.at
  have hd0 : dn x0 = n := by rw [hx0, dn_zero]
  refine L.val rfl rfl (R.mv rfl) ?_
  refine L.val rfl rfl (R.ext rfl rfl) ?_
  refine L.val rfl rfl (R.ext rfl rfl) ?_
  refine L.val rfl rfl (R.as rfl) ?_
  refine L.val rfl rfl (R.as rfl) ?_
  refine L.nil ?_
  refine N.seq ?_
  refine G.seq ?_
  refine G.seq ?_
  refine G.region ?_
  refine L.val rfl rfl (R.mv rfl) ?_
  refine L.val rfl rfl (R.lss rfl rfl) ?_
  refine L.val rfl rfl (R.mv rfl) ?_
  refine L.caseP 35 rfl (fun hg4_2 => ?_) (fun hg4_2 => ?_)
  · exfalso; omega
  · refine L.val rfl rfl (R.mv rfl) ?_
    refine L.val rfl rfl (R.gtr rfl rfl) ?_
    first | refine L.val rfl rfl (R.pickT rfl rfl) ?_ | refine L.val rfl rfl (R.pickF rfl rfl) ?_
    refine L.nil ?_
    refine N.seq ?_
    refine G.condP rfl (fun h1 => ?_) (fun h1 => ?_)
    · exfalso; omega
    · refine G.skip ?_
      refine N.seq ?_
      refine G.seq ?_
      refine G.region ?_
      refine L.val rfl rfl (R.mv rfl) ?_
      refine L.callF rfl rfl rfl go23 (rzero_ok n _ hn2) ?_
      rintro _ w4 ⟨rfl, e4⟩
      replace E := E.trans0 e4
      rw [← hx0]
      replace hD0 := hD0.ext0 e4
      refine L.do rfl rfl (R.alloc) ?_
      rintro _ w5 ⟨bx, rfl, hbx, hs5, e5, Bx⟩
      have hE5 := E.size
      refine L.set rfl (R.st rfl rfl Bx (by decide) rfl) ?_
      rintro w6 ⟨e6, hs6, Bx⟩
      replace Bx : Blk w6 bx #[.string (str x0)] 9 (0, 0) := Bx
      have Ed := e5.news2 e6 (by omega)
      replace E := E.trans0 Ed
      refine L.nil ?_
      refine N.seq ?_
      refine G.seq ?_
      refine G.quiet (by decide +kernel) rfl ?_
      refine Q.val rfl rfl rfl rfl (fun w7 hE => R.mv rfl) ?_
      refine Q.val rfl rfl rfl rfl (fun w7 hE => R.ldB rfl (Bx.ext0 hE) rfl) ?_
      refine Q.val rfl rfl rfl rfl (fun w7 hE => R.as rfl) ?_
      refine Q.val rfl rfl rfl rfl (fun w7 hE => R.as rfl) ?_
      refine Q.nil (fun w7 e7 => ?_)
      replace E := E.trans0 e7
      replace Ed := Ed.trans0 e7
      replace Bx := Bx.ext0 e7
      refine N.seq ?_
      refine G.seq ?_
      refine G.seq ?_
      refine G.region ?_
      refine L.val rfl rfl (R.mv rfl) ?_
      refine L.val rfl rfl (R.lenS rfl) ?_
      refine L.val rfl rfl (R.mv rfl) ?_
      refine L.nil ?_
      refine N.seq ?_
      refine G.block ?_
      refine G.loop (X := PlSt) (fun s => [(0, .int .i64 (n : Int)), (5, .pointer (some ⟨s.d, 0, none⟩)), (11, .pointer (some ⟨bx, 0, none⟩)), (12, .pointer (some ⟨d0, 0, none⟩)), (13, .string (str x0)), (82, .slice la ln lc), (83, .int .i64 (ln : Int)), (84, .int .i64 (s.i : Int))]) (fun s w' => s.i ≤ ln ∧ DiskAt w' s.d s.y ∧ dn s.y = n ∧ Blk w' bx #[.string (str s.y)] 9 (0, 0) ∧ Ext [] w w' ∧ Ext [] w4 w') (fun s => ln - s.i) (⟨0, d0, x0⟩) (Sub.cons rfl (Sub.cons rfl (Sub.cons rfl (Sub.cons rfl (Sub.cons rfl (Sub.cons rfl (Sub.cons rfl (Sub.cons rfl (Sub.nil _))))))))) ⟨Nat.zero_le _, hD0.ext0 Ed, hd0, Bx, E, Ed⟩ ?_
      rintro ⟨i, d, y⟩ w10 ⟨hi, D, hdy, Bx, E, Ed⟩
      dsimp only at hi D hdy Bx
      refine G.sub [(0, .int .i64 (n : Int)), (5, .pointer (some ⟨d, 0, none⟩)), (11, .pointer (some ⟨bx, 0, none⟩)), (12, .pointer (some ⟨d0, 0, none⟩)), (13, .string (str x0)), (82, .slice la ln lc), (83, .int .i64 (ln : Int)), (84, .int .i64 (i : Int))] (Sub.cons rfl (Sub.cons rfl (Sub.cons rfl (Sub.cons rfl (Sub.cons rfl (Sub.cons rfl (Sub.cons rfl (Sub.cons rfl (Sub.nil _))))))))) ?_
      have hDl := D.len
      refine G.seq ?_
      refine G.region ?_
      refine L.val rfl rfl (R.lss rfl rfl) ?_
      refine L.nil ?_
      refine N.seq ?_
      refine G.seq ?_
      refine G.condP rfl (fun h2 => ?_) (fun h2 => ?_)
      · refine G.skip ?_
        refine N.seq ?_
        refine G.seq ?_
        refine G.block ?_
        refine G.seq ?_
        refine G.region ?_
        obtain ⟨q9, hq9, hcl⟩ := hT.at (by decide) i (by rw [List.length_map]; omega)
        rw [List.getElem_map] at hcl
        have hrk := hR _ (List.getElem_mem (show i < rs.length by omega))
        generalize hre : rs[i]'(by omega) = r at *
        obtain ⟨hrT, hrO⟩ := hrk
        obtain ⟨p9, hp9, hc9⟩ := hcl 0 (.slice r.a r.n r.c) rfl
        cases hp9
        refine L.val rfl rfl (R.mv rfl) ?_
        refine L.val rfl rfl (R.idx rfl rfl (by omega) (by omega) q9 hq9) ?_
        refine L.val rfl rfl (R.ld rfl (v := .slice r.a r.n r.c) (by have h9 := cell?_ext0' hc9 E; rw [Go.Addr.add_zero'] at h9; simpa using h9)) ?_
        refine L.val rfl rfl (R.as rfl) ?_
        refine L.val rfl rfl (R.as rfl) ?_
        refine L.nil ?_
        refine N.seq ?_
        refine G.seq ?_
        refine G.seq ?_
        refine G.region ?_
        refine L.val rfl rfl (R.mv rfl) ?_
        refine L.val rfl rfl (R.geq rfl rfl) ?_
        refine L.val rfl rfl (R.mv rfl) ?_
        refine L.caseP 91 rfl (fun hg13_2 => ?_) (fun hg13_2 => ?_)
        · refine L.pass rfl rfl ?_
          refine L.pass rfl rfl ?_
          refine L.pass rfl rfl ?_
          first | refine L.val rfl rfl (R.pickT rfl rfl) ?_ | refine L.val rfl rfl (R.pickF rfl rfl) ?_
          refine L.nil ?_
          refine N.seq ?_
          refine G.condT rfl ?_
          refine G.seq ?_
          refine G.region ?_
          refine L.val rfl rfl (R.as rfl) ?_
          refine L.nil ?_
          refine N.seq ?_
          refine G.ret1 rfl rfl ?_
          first
            | exact ⟨rfl, E⟩
            | exact ⟨congrArg Value.bool (by rw [hdy]; simp), E⟩
        · refine L.val rfl rfl (R.mv rfl) ?_
          refine L.val rfl rfl (R.lenS rfl) ?_
          refine L.val rfl rfl (R.gtr rfl rfl) ?_
          first | refine L.val rfl rfl (R.pickT rfl rfl) ?_ | refine L.val rfl rfl (R.pickF rfl rfl) ?_
          refine L.nil ?_
          refine N.seq ?_
          refine G.condP rfl (fun h3 => ?_) (fun h3 => ?_)
          · refine G.seq ?_
            refine G.region ?_
            refine L.val rfl rfl (R.as rfl) ?_
            refine L.nil ?_
            refine N.seq ?_
            refine G.ret1 rfl rfl ?_
            first
              | exact ⟨rfl, E⟩
              | exact ⟨congrArg Value.bool (by rw [hdy]; simp), E⟩
          · have hrn : r.n ≤ 30 := by omega
            refine G.skip ?_
            refine N.seq ?_
            refine G.seq ?_
            refine G.region ?_
            refine L.val rfl rfl (R.ldB rfl Bx rfl) ?_
            refine L.val rfl rfl (R.mv rfl) ?_
            refine L.callF rfl rfl rfl go24 (rwith_ok y _ _ _ r.ws _ (by omega) (hrT.ext0 E) (fun o ho => (hrO o ho).ext0 E) (by omega)) ?_
            rintro _ w11 ⟨rfl, e11⟩
            replace E := E.trans0 e11
            replace Ed := Ed.trans0 e11
            replace D := D.ext0 e11
            replace Bx := Bx.ext0 e11
            refine L.val rfl rfl (R.mv rfl) ?_
            refine L.val rfl rfl (R.ext rfl rfl) ?_
            refine L.val rfl rfl (R.ext rfl rfl) ?_
            refine L.val rfl rfl (R.as rfl) ?_
            refine L.val rfl rfl (R.as rfl) ?_
            refine L.nil ?_
            refine N.seq ?_
            refine G.seq ?_
            by_cases hx : (withF y (r.ws.map wv)).2 = 0
            · refine G.region ?_
              refine L.val rfl rfl (R.mv rfl) ?_
              refine L.val rfl rfl (R.mv rfl) ?_
              refine L.callF rfl rfl rfl go19 (iwith_ok d y _ _ _ r.ws _ D (hrT.ext0 E) (fun o ho => (hrO o ho).ext0 E) (by omega)) ?_
              rintro _ w12 ⟨e12, hA, _⟩
              obtain ⟨d18, rfl, D18⟩ := hA hx
              rw [hx]
              have hyl := withF_length (x := y) hx
              obtain ⟨y2, hy2⟩ : ∃ y2, y2 = (withF y (r.ws.map wv)).1 := ⟨_, rfl⟩
              rw [← hy2] at D18 hyl ⊢
              have hdy2 : dn y2 = n := by rw [← hdy]; unfold dn; rw [hyl]
              replace E := E.trans0 e12
              replace Ed := Ed.trans0 e12
              have hD2 := D18.len
              replace D := D.ext0 e12
              replace Bx := Bx.ext0 e12
              refine L.val rfl rfl (R.mv rfl) ?_
              refine L.val rfl rfl (R.ext rfl rfl) ?_
              refine L.val rfl rfl (R.ext rfl rfl) ?_
              refine L.val rfl rfl (R.as rfl) ?_
              refine L.val rfl rfl (R.as rfl) ?_
              refine L.nil ?_
              refine N.seq ?_
              refine G.seq ?_
              refine G.seq ?_
              refine G.region ?_
              refine L.val rfl rfl (R.mv rfl) ?_
              refine L.val rfl rfl (R.mv rfl) ?_
              refine L.val rfl rfl (R.neI rfl rfl) ?_
              refine L.val rfl rfl (R.mv rfl) ?_
              refine L.isF 111 rfl (by simp) ?_
              refine L.val rfl rfl (R.mv rfl) ?_
              refine L.val rfl rfl (R.neI rfl rfl) ?_
              refine L.val rfl rfl (R.mv rfl) ?_
              refine L.isF 114 rfl (by rfl) ?_
              refine L.pass rfl rfl ?_
              refine L.pass rfl rfl ?_
              first | refine L.val rfl rfl (R.pickT rfl rfl) ?_ | refine L.val rfl rfl (R.pickF rfl rfl) ?_
              first | refine L.val rfl rfl (R.pickT rfl rfl) ?_ | refine L.val rfl rfl (R.pickF rfl rfl) ?_
              refine L.nil ?_
              refine N.seq ?_
              refine G.condF rfl ?_
              refine G.skip ?_
              refine N.seq ?_
              refine G.seq ?_
              refine G.seq ?_
              refine G.region ?_
              refine L.val rfl rfl (R.mv rfl) ?_
              refine L.val rfl rfl (R.neI rfl rfl) ?_
              refine L.nil ?_
              refine N.seq ?_
              refine G.condF rfl ?_
              refine G.skip ?_
              refine N.seq ?_
              refine G.seq ?_
              refine G.seq ?_
              refine G.quiet (by decide +kernel) rfl ?_
              refine Q.val rfl rfl rfl rfl (fun w13 hE => R.mv rfl) ?_
              refine Q.val rfl rfl rfl rfl (fun w13 hE => R.mv rfl) ?_
              refine Q.callR (A := IsN (diffF y y2)) (IsN.keep _) rfl rfl go26 (fun w13 hE => ⟨_, rfl, (idiff_ok _ _ _ _ _ (D.o.ext0 hE) (D18.o.ext0 hE)).mono (fun _ _ h => by obtain ⟨a9, c9, M9, rfl, e9, ho9, _⟩ := h; exact ⟨⟨a9, c9, rfl, ho9.cells⟩, e9⟩)⟩) ?_
              refine Q.val rfl rfl rfl rfl (fun w13 hE => R.ldB rfl (Bx.ext0 hE) rfl) ?_
              refine Q.val rfl rfl rfl rfl (fun w13 hE => R.mv rfl) ?_
              refine Q.callR (A := IsN (diffF y y2)) (IsN.keep _) rfl rfl go27 (fun w13 hE => ⟨_, rfl, (rdiff_ok y y2 _ (by omega) (by omega) hDl.1 hD2.1).mono (fun _ _ h => by obtain ⟨a9, c9, M9, rfl, e9, ho9, _⟩ := h; exact ⟨⟨a9, c9, rfl, ho9.cells⟩, e9⟩)⟩) ?_
              refine Q.call (.bool (decide (diffF y y2 = diffF y y2))) rfl rfl rfl go25 (fun w13 hE => fun v hv v2 hv2 => by obtain ⟨a8, c8, rfl, hv⟩ := hv; obtain ⟨a9, c9, rfl, hv2⟩ := hv2; exact ⟨_, rfl, (lsame_ok _ _ _ _ _ _ _ hv hv2 (Nat.le_trans (diffN_length _ _ _) (by have h0 : dn ([] : List UInt8) = 0 := rfl; omega))).mono (fun _ _ h => h)⟩) ?_
              refine Q.val rfl rfl rfl rfl (fun w13 hE => R.not rfl) ?_
              refine Q.val rfl rfl rfl rfl (fun w13 hE => R.mv rfl) ?_
              refine Q.isF 129 rfl (by simp) ?_
              refine Q.val rfl rfl rfl rfl (fun w13 hE => R.mv rfl) ?_
              refine Q.val rfl rfl rfl rfl (fun w13 hE => R.mv rfl) ?_
              refine Q.call (.bool (decide (y = y2))) rfl rfl rfl go22 (fun w13 hE => ⟨_, rfl, (isame_ok _ _ _ _ _ (D.o.ext0 hE) (D18.o.ext0 hE)).mono (fun _ _ h => h)⟩) ?_
              refine Q.val rfl rfl rfl rfl (fun w13 hE => R.ldB rfl (Bx.ext0 hE) rfl) ?_
              refine Q.val rfl rfl rfl rfl (fun w13 hE => R.mv rfl) ?_
              refine Q.val rfl rfl rfl rfl (fun w13 hE => R.eqStr rfl rfl) ?_
              refine Q.val rfl rfl rfl rfl (fun w13 hE => R.neB rfl rfl) ?_
              first | refine Q.val rfl rfl rfl rfl (fun w13 hE => R.pickT rfl rfl) ?_ | refine Q.val rfl rfl rfl rfl (fun w13 hE => R.pickF rfl rfl) ?_
              refine Q.val rfl rfl rfl rfl (fun w13 hE => R.mv rfl) ?_
              refine Q.isF 138 rfl (by simp) ?_
              refine Q.val rfl rfl rfl rfl (fun w13 hE => R.mv rfl) ?_
              refine Q.callR (A := IsN (diffF y2 [])) (IsN.keep _) rfl rfl go26 (fun w13 hE => ⟨_, rfl, (idiff_ok _ none y2 [] _ (D18.o.ext0 hE) .no).mono (fun _ _ h => by obtain ⟨a9, c9, M9, rfl, e9, ho9, _⟩ := h; exact ⟨⟨a9, c9, rfl, ho9.cells⟩, e9⟩)⟩) ?_
              refine Q.val rfl rfl rfl rfl (fun w13 hE => R.mv rfl) ?_
              refine Q.callR (A := IsN (diffF y2 [])) (IsN.keep _) rfl rfl go27 (fun w13 hE => ⟨_, rfl, (rdiff_ok y2 [] _ (by omega) (by decide) hD2.1 rfl).mono (fun _ _ h => by obtain ⟨a9, c9, M9, rfl, e9, ho9, _⟩ := h; exact ⟨⟨a9, c9, rfl, ho9.cells⟩, e9⟩)⟩) ?_
              refine Q.call (.bool (decide (diffF y2 [] = diffF y2 []))) rfl rfl rfl go25 (fun w13 hE => fun v hv v2 hv2 => by obtain ⟨a8, c8, rfl, hv⟩ := hv; obtain ⟨a9, c9, rfl, hv2⟩ := hv2; exact ⟨_, rfl, (lsame_ok _ _ _ _ _ _ _ hv hv2 (Nat.le_trans (diffN_length _ _ _) (by have h0 : dn ([] : List UInt8) = 0 := rfl; omega))).mono (fun _ _ h => h)⟩) ?_
              refine Q.val rfl rfl rfl rfl (fun w13 hE => R.not rfl) ?_
              first | refine Q.val rfl rfl rfl rfl (fun w13 hE => R.pickT rfl rfl) ?_ | refine Q.val rfl rfl rfl rfl (fun w13 hE => R.pickF rfl rfl) ?_
              refine Q.be 145 rfl (show _ = Value.bool false by simp) ?_
              refine Q.nil (fun w13 e13 => ?_)
              intro v142 _ v140 _ v126 _ v123 _
              replace E := E.trans0 e13
              replace Ed := Ed.trans0 e13
              replace D := D.ext0 e13
              replace D18 := D18.ext0 e13
              replace Bx := Bx.ext0 e13
              refine N.seq ?_
              refine G.condF rfl ?_
              refine G.skip ?_
              refine N.seq ?_
              refine G.seq ?_
              refine G.region ?_
              refine L.val rfl rfl (R.mv rfl) ?_
              refine L.val rfl rfl (R.mv rfl) ?_
              refine L.val rfl rfl (R.as rfl) ?_
              refine L.set rfl (R.st rfl rfl Bx (by show 0 < 1; decide) rfl) ?_
              rintro w14 ⟨e14, hs14, Bx2⟩
              replace Bx2 : Blk w14 bx #[.string (str y2)] 9 (0, 0) := Bx2
              replace D := D18.extB e14 Bx (by decide) (by decide) (by decide)
              replace E := E.news2 e14 (by omega)
              replace Ed := Ed.news2 e14 (by omega)
              replace Bx := Bx2
              refine L.nil ?_
              refine N.seq ?_
              refine G.seq ?_
              refine G.region ?_
              refine L.val rfl rfl (R.as rfl) ?_
              refine L.nil ?_
              refine N.seq ?_
              refine G.block ?_
              refine G.be 20 rfl (show Value.int .i64 (-1) = .int .i64 (((0 : Nat) : Int) - 1) from rfl) ?_
              refine G.loop (X := Nat) (fun j => [(0, .int .i64 (n : Int)), (5, .pointer (some ⟨d18, 0, none⟩)), (11, .pointer (some ⟨bx, 0, none⟩)), (12, .pointer (some ⟨d0, 0, none⟩)), (13, .string (str x0)), (82, .slice la ln lc), (83, .int .i64 (ln : Int)), (84, .int .i64 (i : Int)), (20, .int .i64 ((j : Int) - 1))]) (fun j w' => j ≤ n + 2 ∧ Ext [] w14 w') (fun j => n + 2 - j) (0) (Sub.cons rfl (Sub.cons rfl (Sub.cons rfl (Sub.cons rfl (Sub.cons rfl (Sub.cons rfl (Sub.cons rfl (Sub.cons rfl (Sub.cons rfl (Sub.nil _)))))))))) ⟨Nat.zero_le _, Ext.refl _ _⟩ ?_
              rintro j w15 ⟨hj, e15⟩
              replace E := E.trans0 e15
              replace Ed := Ed.trans0 e15
              replace D := D.ext0 e15
              replace Bx := Bx.ext0 e15
              refine G.seq ?_
              refine G.seq ?_
              refine G.region ?_
              refine L.val rfl rfl (R.mv rfl) ?_
              refine L.val rfl rfl (R.mv rfl) ?_
              refine L.val rfl rfl (R.leq rfl rfl) ?_
              refine L.nil ?_
              refine N.seq ?_
              refine G.condP rfl (fun h7 => ?_) (fun h7 => ?_)
              · refine G.skip ?_
                refine N.seq ?_
                refine G.seq ?_
                refine G.block ?_
                refine G.seq ?_
                refine G.region ?_
                refine L.val rfl rfl (R.mv rfl) ?_
                refine L.val rfl rfl (R.mv rfl) ?_
                refine L.callF rfl rfl rfl go18 (iget_ok d18 y2 ((j : Int) - 1) _ D) ?_
                rintro _ w16 ⟨a21, c21, M21, rfl, e16, o21, _⟩
                replace E := E.trans0 e16
                replace Ed := Ed.trans0 e16
                replace e15 := e15.trans0 e16
                have L21 := Bs.of_own o21
                replace D := D.ext0 e16
                replace Bx := Bx.ext0 e16
                refine L.val rfl rfl (R.mv rfl) ?_
                refine L.val rfl rfl (R.ext rfl rfl) ?_
                refine L.val rfl rfl (R.ext rfl rfl) ?_
                refine L.val rfl rfl (R.as rfl) ?_
                refine L.val rfl rfl (R.as rfl) ?_
                refine L.nil ?_
                refine N.seq ?_
                refine G.seq ?_
                refine G.region ?_
                refine L.val rfl rfl (R.ldB rfl Bx rfl) ?_
                refine L.val rfl rfl (R.mv rfl) ?_
                refine L.callF rfl rfl rfl go28 (rget_ok y2 ((j : Int) - 1) _ (by omega)) ?_
                rintro _ _ ⟨rfl, hw⟩
                obtain rfl := hw.symm
                refine L.val rfl rfl (R.mv rfl) ?_
                refine L.val rfl rfl (R.ext rfl rfl) ?_
                refine L.val rfl rfl (R.ext rfl rfl) ?_
                refine L.val rfl rfl (R.as rfl) ?_
                refine L.val rfl rfl (R.as rfl) ?_
                refine L.nil ?_
                refine N.seq ?_
                refine G.seq ?_
                by_cases hk : okK y2 ((j : Int) - 1)
                · rw [if_pos hk, decide_eq_true hk]
                  refine G.region ?_
                  refine L.val rfl rfl (R.mv rfl) ?_
                  refine L.val rfl rfl (R.bytesStr rfl L21.cells L21.len) ?_
                  refine L.val rfl rfl (R.mv rfl) ?_
                  refine L.val rfl rfl (R.neStr rfl rfl) ?_
                  refine L.val rfl rfl (R.mv rfl) ?_
                  refine L.isF 169 rfl (by simp) ?_
                  refine L.val rfl rfl (R.mv rfl) ?_
                  refine L.val rfl rfl (R.mv rfl) ?_
                  refine L.val rfl rfl (R.eqI rfl rfl) ?_
                  refine L.val rfl rfl (R.neB rfl rfl) ?_
                  first | refine L.val rfl rfl (R.pickT rfl rfl) ?_ | refine L.val rfl rfl (R.pickF rfl rfl) ?_
                  refine L.val rfl rfl (R.mv rfl) ?_
                  refine L.isF 175 rfl (by rfl) ?_
                  refine L.val rfl rfl (R.mv rfl) ?_
                  refine L.val rfl rfl (R.not rfl) ?_
                  refine L.val rfl rfl (R.mv rfl) ?_
                  refine L.isF 178 rfl (by rfl) ?_
                  refine L.pass rfl rfl ?_
                  refine L.pass rfl rfl ?_
                  first | refine L.val rfl rfl (R.pickT rfl rfl) ?_ | refine L.val rfl rfl (R.pickF rfl rfl) ?_
                  first | refine L.val rfl rfl (R.pickT rfl rfl) ?_ | refine L.val rfl rfl (R.pickF rfl rfl) ?_
                  refine L.nil ?_
                  refine N.seq ?_
                  refine G.condF rfl ?_
                  refine G.skip ?_
                  refine N.block ?_
                  refine N.seq ?_
                  refine G.region ?_
                  refine L.val rfl rfl (R.mv rfl) ?_
                  refine L.val rfl rfl (R.add rfl rfl (by omega)) ?_
                  refine L.be 152 rfl (show _ = Value.int .i64 (((j + 1 : Nat) : Int) - 1) by congr 1; omega) ?_
                  refine L.val rfl rfl (R.as rfl) ?_
                  refine L.nil ?_
                  exact N.again (j + 1) (by omega) (Sub.cons rfl (Sub.cons rfl (Sub.cons rfl (Sub.cons rfl (Sub.cons rfl (Sub.cons rfl (Sub.cons rfl (Sub.cons rfl (Sub.cons rfl (Sub.nil _)))))))))) ⟨by omega, e15⟩
                · rw [if_neg hk, decide_eq_false hk]
                  refine G.region ?_
                  refine L.val rfl rfl (R.mv rfl) ?_
                  refine L.val rfl rfl (R.bytesStr rfl L21.cells L21.len) ?_
                  refine L.val rfl rfl (R.mv rfl) ?_
                  refine L.val rfl rfl (R.neStr rfl rfl) ?_
                  refine L.val rfl rfl (R.mv rfl) ?_
                  refine L.isF 169 rfl (by simp) ?_
                  refine L.val rfl rfl (R.mv rfl) ?_
                  refine L.val rfl rfl (R.mv rfl) ?_
                  refine L.val rfl rfl (R.eqI rfl rfl) ?_
                  refine L.val rfl rfl (R.neB rfl rfl) ?_
                  first | refine L.val rfl rfl (R.pickT rfl rfl) ?_ | refine L.val rfl rfl (R.pickF rfl rfl) ?_
                  refine L.val rfl rfl (R.mv rfl) ?_
                  refine L.isF 175 rfl (by rfl) ?_
                  refine L.val rfl rfl (R.mv rfl) ?_
                  refine L.val rfl rfl (R.not rfl) ?_
                  refine L.val rfl rfl (R.mv rfl) ?_
                  refine L.isT 178 rfl (by rfl) ?_
                  refine L.val rfl rfl (R.mv rfl) ?_
                  refine L.val rfl rfl (R.neI rfl rfl) ?_
                  first | refine L.val rfl rfl (R.pickT rfl rfl) ?_ | refine L.val rfl rfl (R.pickF rfl rfl) ?_
                  first | refine L.val rfl rfl (R.pickT rfl rfl) ?_ | refine L.val rfl rfl (R.pickF rfl rfl) ?_
                  refine L.nil ?_
                  refine N.seq ?_
                  refine G.condF rfl ?_
                  refine G.skip ?_
                  refine N.block ?_
                  refine N.seq ?_
                  refine G.region ?_
                  refine L.val rfl rfl (R.mv rfl) ?_
                  refine L.val rfl rfl (R.add rfl rfl (by omega)) ?_
                  refine L.be 152 rfl (show _ = Value.int .i64 (((j + 1 : Nat) : Int) - 1) by congr 1; omega) ?_
                  refine L.val rfl rfl (R.as rfl) ?_
                  refine L.nil ?_
                  exact N.again (j + 1) (by omega) (Sub.cons rfl (Sub.cons rfl (Sub.cons rfl (Sub.cons rfl (Sub.cons rfl (Sub.cons rfl (Sub.cons rfl (Sub.cons rfl (Sub.cons rfl (Sub.nil _)))))))))) ⟨by omega, e15⟩
              · refine G.exit _ rfl ?_
                refine N.block ?_
                refine N.seq ?_
                refine G.region ?_
                refine L.val rfl rfl (R.add rfl rfl (by omega)) ?_
                refine L.val rfl rfl (R.mv rfl) ?_
                refine L.nil ?_
                first
                  | exact N.again (X := PlSt) ⟨i + 1, d18, y2⟩ (by show ln - (i + 1) < ln - i; omega) (Sub.cons rfl (Sub.cons rfl (Sub.cons rfl (Sub.cons rfl (Sub.cons rfl (Sub.cons rfl (Sub.cons rfl (Sub.cons rfl (Sub.nil _))))))))) ⟨by show i + 1 ≤ ln; omega, D, hdy2, Bx, E, Ed⟩
                  | exact N.again (X := PlSt) ⟨i + 1, d, y⟩ (by show ln - (i + 1) < ln - i; omega) (Sub.cons rfl (Sub.cons rfl (Sub.cons rfl (Sub.cons rfl (Sub.cons rfl (Sub.cons rfl (Sub.cons rfl (Sub.cons rfl (Sub.nil _))))))))) ⟨by show i + 1 ≤ ln; omega, D, hdy, Bx, E, Ed⟩
            · refine G.region ?_
              refine L.val rfl rfl (R.mv rfl) ?_
              refine L.val rfl rfl (R.mv rfl) ?_
              refine L.callF rfl rfl rfl go19 (iwith_ok d y _ _ _ r.ws _ D (hrT.ext0 E) (fun o ho => (hrO o ho).ext0 E) (by omega)) ?_
              rintro _ w12 ⟨e12, _, hA⟩
              obtain rfl := hA hx
              replace E := E.trans0 e12
              replace Ed := Ed.trans0 e12
              replace D := D.ext0 e12
              replace Bx := Bx.ext0 e12
              refine L.val rfl rfl (R.mv rfl) ?_
              refine L.val rfl rfl (R.ext rfl rfl) ?_
              refine L.val rfl rfl (R.ext rfl rfl) ?_
              refine L.val rfl rfl (R.as rfl) ?_
              refine L.val rfl rfl (R.as rfl) ?_
              refine L.nil ?_
              refine N.seq ?_
              refine G.seq ?_
              refine G.seq ?_
              refine G.region ?_
              refine L.val rfl rfl (R.mv rfl) ?_
              refine L.val rfl rfl (R.mv rfl) ?_
              refine L.val rfl rfl (R.neI rfl rfl) ?_
              refine L.val rfl rfl (R.mv rfl) ?_
              refine L.isF 111 rfl (by simp) ?_
              refine L.val rfl rfl (R.mv rfl) ?_
              refine L.val rfl rfl (R.neI rfl rfl) ?_
              refine L.val rfl rfl (R.mv rfl) ?_
              refine L.isT 114 rfl (decide_eq_true hx) ?_
              refine L.val rfl rfl (R.mv rfl) ?_
              refine L.val rfl rfl (R.neNilP rfl rfl) ?_
              first | refine L.val rfl rfl (R.pickT rfl rfl) ?_ | refine L.val rfl rfl (R.pickF rfl rfl) ?_
              first | refine L.val rfl rfl (R.pickT rfl rfl) ?_ | refine L.val rfl rfl (R.pickF rfl rfl) ?_
              refine L.nil ?_
              refine N.seq ?_
              refine G.condF rfl ?_
              refine G.skip ?_
              refine N.seq ?_
              refine G.seq ?_
              refine G.seq ?_
              refine G.region ?_
              refine L.val rfl rfl (R.mv rfl) ?_
              refine L.val rfl rfl (R.neI rfl rfl) ?_
              refine L.nil ?_
              refine N.seq ?_
              refine G.condP rfl (fun h5 => ?_) (fun h5 => ?_)
              · refine G.exit _ rfl ?_
                refine N.seq ?_
                refine G.region ?_
                refine L.val rfl rfl (R.add rfl rfl (by omega)) ?_
                refine L.val rfl rfl (R.mv rfl) ?_
                refine L.nil ?_
                first
                  | exact N.again (X := PlSt) ⟨i + 1, d18, y2⟩ (by show ln - (i + 1) < ln - i; omega) (Sub.cons rfl (Sub.cons rfl (Sub.cons rfl (Sub.cons rfl (Sub.cons rfl (Sub.cons rfl (Sub.cons rfl (Sub.cons rfl (Sub.nil _))))))))) ⟨by show i + 1 ≤ ln; omega, D, hdy2, Bx, E, Ed⟩
                  | exact N.again (X := PlSt) ⟨i + 1, d, y⟩ (by show ln - (i + 1) < ln - i; omega) (Sub.cons rfl (Sub.cons rfl (Sub.cons rfl (Sub.cons rfl (Sub.cons rfl (Sub.cons rfl (Sub.cons rfl (Sub.cons rfl (Sub.nil _))))))))) ⟨by show i + 1 ≤ ln; omega, D, hdy, Bx, E, Ed⟩
              · exact absurd (Classical.not_not.1 h5) hx
      · refine G.exit _ rfl ?_
        refine N.seq ?_
        refine G.seq ?_
        refine G.region ?_
        refine L.do rfl rfl (R.alloc) ?_
        rintro _ w20 ⟨b25, rfl, hb25, hs20, e20, B25⟩
        have hE20 := E.size
        have hEd20 := Ed.size
        refine L.set rfl (R.st rfl rfl B25 (by decide) rfl) ?_
        rintro w21 ⟨e21, hs21, B25⟩
        replace B25 : Blk w21 b25 #[.int .i64 0] 3 (0, 0) := B25
        have n21 := e20.news2 e21 (by omega)
        have D0 := D
        refine L.nil ?_
        refine N.seq ?_
        refine G.seq ?_
        refine G.region ?_
        refine L.val rfl rfl (R.mv rfl) ?_
        refine L.callF rfl rfl rfl go29 (iall_ok _ _) ?_
        rintro _ w22 ⟨b1, rfl, e22, B1, hb1⟩
        have n22 := n21.trans0 e22
        obtain ⟨Fp, hFp, hFa⟩ := fp_of B1 D0.o n22
        replace E := E.trans0 n22
        replace Ed := Ed.trans0 n22
        replace B25 := B25.ext0 e22
        have l25 := B25.lt
        have hs22 := e22.size
        replace D := D.ext0 n22
        replace Bx := Bx.ext0 n22
        refine L.val rfl rfl (R.mkFunc rfl rfl) ?_
        refine L.callV rfl rfl rfl rfl rfl go75 (plays_iter b1 bx b25 _ y Fp _ hFp Bx B25 (fun h => (hFa b25 h).elim (by omega) (by omega)) (by omega) (by omega) (by omega)) ?_
        rintro _ w23 ⟨e23, B25b⟩
        have n23 : Ext [] w10 w23 := n22.news2 e23 (by omega)
        replace E := E.news2 e23 (by omega)
        replace Ed := Ed.news2 e23 (by omega)
        replace D := D0.ext0 n23
        replace Bx := Bx.ext e23 (fun hm => Bx.ne B25 (by decide) (List.mem_singleton.1 hm))
        replace B25 := B25b
        refine L.nil ?_
        refine N.seq ?_
        refine G.seq ?_
        refine G.quiet (by decide +kernel) rfl ?_
        refine Q.val rfl rfl rfl rfl (fun w24 hE => R.ldB rfl (B25.ext0 hE) rfl) ?_
        refine Q.val rfl rfl rfl rfl (fun w24 hE => R.mv rfl) ?_
        refine Q.val rfl rfl rfl rfl (fun w24 hE => R.min rfl rfl (((min 3 n : Nat) : Int)) (by split <;> omega)) ?_
        refine Q.val rfl rfl rfl rfl (fun w24 hE => R.eqI rfl rfl) ?_
        refine Q.val rfl rfl rfl rfl (fun w24 hE => R.mv rfl) ?_
        refine Q.isT 192 rfl (by rw [hdy]; simp) ?_
        refine Q.val rfl rfl rfl rfl (fun w24 hE => R.mv rfl) ?_
        refine Q.callR (A := IsBs y.length y) (IsBs.keep _ _) rfl rfl go21 (fun w24 hE => ⟨_, rfl, (ibytes_ok _ _ _ (D.o.ext0 hE)).mono (fun _ _ h => by obtain ⟨x9, y9, M9, rfl, e9, ho9, _⟩ := h; exact ⟨⟨x9, y9, rfl, ho9.le, Bs.of_own ho9⟩, e9⟩)⟩) ?_
        refine Q.val rfl rfl rfl rfl (fun w24 hE => fun v hv => by obtain ⟨x1, y1, rfl, _, hv⟩ := hv; exact R.bytesStr rfl hv.cells hv.len) ?_
        refine Q.val rfl rfl rfl rfl (fun w24 hE => R.ldB rfl (Bx.ext0 hE) rfl) ?_
        refine Q.val rfl rfl rfl rfl (fun w24 hE => R.eqStr rfl rfl) ?_
        first | refine Q.val rfl rfl rfl rfl (fun w24 hE => R.pickT rfl rfl) ?_ | refine Q.val rfl rfl rfl rfl (fun w24 hE => R.pickF rfl rfl) ?_
        refine Q.val rfl rfl rfl rfl (fun w24 hE => R.mv rfl) ?_
        refine Q.isT 199 rfl (by simp) ?_
        refine Q.val rfl rfl rfl rfl (fun w24 hE => R.mv rfl) ?_
        refine Q.callR (A := IsBs x0.length x0) (IsBs.keep _ _) rfl rfl go21 (fun w24 hE => ⟨_, rfl, (ibytes_ok _ _ _ ((hD0.ext0 Ed).o.ext0 hE)).mono (fun _ _ h => by obtain ⟨x9, y9, M9, rfl, e9, ho9, _⟩ := h; exact ⟨⟨x9, y9, rfl, ho9.le, Bs.of_own ho9⟩, e9⟩)⟩) ?_
        refine Q.val rfl rfl rfl rfl (fun w24 hE => fun v hv => by obtain ⟨x1, y1, rfl, _, hv⟩ := hv; exact R.bytesStr rfl hv.cells hv.len) ?_
        refine Q.val rfl rfl rfl rfl (fun w24 hE => R.mv rfl) ?_
        refine Q.val rfl rfl rfl rfl (fun w24 hE => R.eqStr rfl rfl) ?_
        first | refine Q.val rfl rfl rfl rfl (fun w24 hE => R.pickT rfl rfl) ?_ | refine Q.val rfl rfl rfl rfl (fun w24 hE => R.pickF rfl rfl) ?_
        refine Q.val rfl rfl rfl rfl (fun w24 hE => R.mv rfl) ?_
        refine Q.isT 206 rfl (by simp) ?_
        refine Q.val rfl rfl rfl rfl (fun w24 hE => R.mv rfl) ?_
        refine Q.call (.int .i64 (dn y : Int)) rfl rfl rfl go20 (fun w24 hE => ⟨_, rfl, (iblocks_ok _ y _ (D.o.ext0 hE)).mono (by rintro _ _ ⟨rfl, rfl⟩; exact ⟨rfl, Ext.refl _ _⟩)⟩) ?_
        refine Q.val rfl rfl rfl rfl (fun w24 hE => R.mv rfl) ?_
        refine Q.val rfl rfl rfl rfl (fun w24 hE => R.eqI rfl rfl) ?_
        first | refine Q.val rfl rfl rfl rfl (fun w24 hE => R.pickT rfl rfl) ?_ | refine Q.val rfl rfl rfl rfl (fun w24 hE => R.pickF rfl rfl) ?_
        refine Q.val rfl rfl rfl rfl (fun w24 hE => R.as rfl) ?_
        refine Q.nil (fun w24 e24 => ?_)
        intro v201 _ v194 _
        replace E := E.trans0 e24
        refine N.seq ?_
        refine G.ret1 rfl rfl ?_
        first
          | exact ⟨rfl, E⟩
          | exact ⟨congrArg Value.bool (by rw [hdy]; simp), E⟩

theorem imagePlays_bad (n : Int) (la : Option Addr) (ln lc : Nat) (w : World) (hn : ¬ (1 ≤ n ∧ n ≤ 64)) : Meets Try.prog 3 [.int .i64 n, .slice la ln lc] w (fun v w' => v = .bool true ∧ Ext [] w w') := by
  refine Meets.enter Try.func3 rfl 212 rfl (Nat.le_of_ble_eq_true rfl) ?_
  have E := Ext.refl [] w
  refine G.seq ?_
  refine G.region ?_
  refine L.val rfl rfl (R.as rfl) ?_
  refine L.nil ?_
  refine N.seq ?_
  refine G.seq ?_
  refine G.seq ?_
  refine G.region ?_
  refine L.callF rfl rfl rfl go16 (image_first_ok _) ?_
  rintro _ w2 ⟨rfl, e2⟩
  replace E := E.trans0 e2
  refine L.val rfl rfl (R.not rfl) ?_
  refine L.nil ?_
  refine N.seq ?_
  refine G.condF rfl ?_
  refine G.skip ?_
  refine N.seq ?_
  refine G.seq ?_
  refine G.region ?_
  refine L.val rfl rfl (R.mv rfl) ?_
  refine L.callF rfl rfl rfl go17 (inew_err n _ hn) ?_
  rintro _ _ ⟨rfl, rfl⟩
  refine L.val rfl rfl (R.mv rfl) ?_
  refine L.val rfl rfl (R.ext rfl rfl) ?_
  refine L.val rfl rfl (R.ext rfl rfl) ?_
  refine L.val rfl rfl (R.as rfl) ?_
  refine L.val rfl rfl (R.as rfl) ?_
  refine L.nil ?_
  refine N.seq ?_
  refine G.seq ?_
  refine G.seq ?_
  refine G.region ?_
  refine L.val rfl rfl (R.mv rfl) ?_
  refine L.val rfl rfl (R.lss rfl rfl) ?_
  refine L.val rfl rfl (R.mv rfl) ?_
  refine L.caseP 35 rfl (fun hg4_2 => ?_) (fun hg4_2 => ?_)
  · refine L.pass rfl rfl ?_
    refine L.pass rfl rfl ?_
    first | refine L.val rfl rfl (R.pickT rfl rfl) ?_ | refine L.val rfl rfl (R.pickF rfl rfl) ?_
    refine L.nil ?_
    refine N.seq ?_
    refine G.condT rfl ?_
    refine G.seq ?_
    refine G.region ?_
    refine L.val rfl rfl (R.mv rfl) ?_
    refine L.callF rfl rfl rfl go18 (iget_nil 0 _) ?_
    rintro _ _ ⟨rfl, hw⟩
    obtain rfl := hw.symm
    refine L.val rfl rfl (R.mv rfl) ?_
    refine L.val rfl rfl (R.ext rfl rfl) ?_
    refine L.val rfl rfl (R.ext rfl rfl) ?_
    refine L.val rfl rfl (R.as rfl) ?_
    refine L.val rfl rfl (R.as rfl) ?_
    refine L.nil ?_
    refine N.seq ?_
    refine G.seq ?_
    refine G.region ?_
    refine L.val rfl rfl (R.mv rfl) ?_
    refine L.callF rfl rfl rfl go19 (iwith_nil _ _ _ _) ?_
    rintro _ _ ⟨rfl, rfl⟩
    refine L.val rfl rfl (R.mv rfl) ?_
    refine L.val rfl rfl (R.ext rfl rfl) ?_
    refine L.val rfl rfl (R.ext rfl rfl) ?_
    refine L.val rfl rfl (R.as rfl) ?_
    refine L.val rfl rfl (R.as rfl) ?_
    refine L.nil ?_
    refine N.seq ?_
    refine G.seq ?_
    refine G.region ?_
    refine L.val rfl rfl (R.mv rfl) ?_
    refine L.val rfl rfl (R.eqNilP rfl rfl) ?_
    refine L.val rfl rfl (R.mv rfl) ?_
    refine L.isT 51 rfl (by rfl) ?_
    refine L.val rfl rfl (R.mv rfl) ?_
    refine L.val rfl rfl (R.eqI rfl rfl) ?_
    first | refine L.val rfl rfl (R.pickT rfl rfl) ?_ | refine L.val rfl rfl (R.pickF rfl rfl) ?_
    refine L.val rfl rfl (R.mv rfl) ?_
    refine L.isT 55 rfl (by rfl) ?_
    refine L.val rfl rfl (R.mv rfl) ?_
    refine L.val rfl rfl (R.eqI rfl rfl) ?_
    first | refine L.val rfl rfl (R.pickT rfl rfl) ?_ | refine L.val rfl rfl (R.pickF rfl rfl) ?_
    refine L.val rfl rfl (R.mv rfl) ?_
    refine L.isT 59 rfl (by rfl) ?_
    refine L.val rfl rfl (R.mv rfl) ?_
    refine L.val rfl rfl (R.eqI rfl rfl) ?_
    first | refine L.val rfl rfl (R.pickT rfl rfl) ?_ | refine L.val rfl rfl (R.pickF rfl rfl) ?_
    refine L.val rfl rfl (R.mv rfl) ?_
    refine L.isT 63 rfl (by rfl) ?_
    refine L.val rfl rfl (R.mv rfl) ?_
    refine L.callF rfl rfl rfl go20 (iblocks_ok none [] _ .no) ?_
    rintro _ _ ⟨rfl, hw⟩
    obtain rfl := hw.symm
    refine L.val rfl rfl (R.eqI rfl rfl) ?_
    first | refine L.val rfl rfl (R.pickT rfl rfl) ?_ | refine L.val rfl rfl (R.pickF rfl rfl) ?_
    refine L.val rfl rfl (R.mv rfl) ?_
    refine L.isT 68 rfl (by rfl) ?_
    refine L.val rfl rfl (R.mv rfl) ?_
    refine L.callF rfl rfl rfl go21 (ibytes_ok none [] _ .no) ?_
    rintro _ w5 ⟨a5, c5, M5, rfl, e5, o5, _⟩
    replace E := E.trans0 e5
    refine L.val rfl rfl (R.lenS rfl) ?_
    refine L.val rfl rfl (R.eqI rfl rfl) ?_
    first | refine L.val rfl rfl (R.pickT rfl rfl) ?_ | refine L.val rfl rfl (R.pickF rfl rfl) ?_
    refine L.val rfl rfl (R.mv rfl) ?_
    refine L.isT 74 rfl (by rfl) ?_
    refine L.val rfl rfl (R.mv rfl) ?_
    refine L.callF rfl rfl rfl go22 (isame_ok none none [] [] _ .no .no) ?_
    rintro _ w6 ⟨rfl, e6⟩
    replace E := E.trans0 e6
    first | refine L.val rfl rfl (R.pickT rfl rfl) ?_ | refine L.val rfl rfl (R.pickF rfl rfl) ?_
    refine L.val rfl rfl (R.as rfl) ?_
    refine L.nil ?_
    refine N.seq ?_
    refine G.ret1 rfl rfl ?_
    exact ⟨rfl, E⟩
  · refine L.val rfl rfl (R.mv rfl) ?_
    refine L.val rfl rfl (R.gtr rfl rfl) ?_
    first | refine L.val rfl rfl (R.pickT rfl rfl) ?_ | refine L.val rfl rfl (R.pickF rfl rfl) ?_
    refine L.nil ?_
    refine N.seq ?_
    refine G.condP rfl (fun h1 => ?_) (fun h1 => ?_)
    · refine G.seq ?_
      refine G.region ?_
      refine L.val rfl rfl (R.mv rfl) ?_
      refine L.callF rfl rfl rfl go18 (iget_nil 0 _) ?_
      rintro _ _ ⟨rfl, hw⟩
      obtain rfl := hw.symm
      refine L.val rfl rfl (R.mv rfl) ?_
      refine L.val rfl rfl (R.ext rfl rfl) ?_
      refine L.val rfl rfl (R.ext rfl rfl) ?_
      refine L.val rfl rfl (R.as rfl) ?_
      refine L.val rfl rfl (R.as rfl) ?_
      refine L.nil ?_
      refine N.seq ?_
      refine G.seq ?_
      refine G.region ?_
      refine L.val rfl rfl (R.mv rfl) ?_
      refine L.callF rfl rfl rfl go19 (iwith_nil _ _ _ _) ?_
      rintro _ _ ⟨rfl, rfl⟩
      refine L.val rfl rfl (R.mv rfl) ?_
      refine L.val rfl rfl (R.ext rfl rfl) ?_
      refine L.val rfl rfl (R.ext rfl rfl) ?_
      refine L.val rfl rfl (R.as rfl) ?_
      refine L.val rfl rfl (R.as rfl) ?_
      refine L.nil ?_
      refine N.seq ?_
      refine G.seq ?_
      refine G.region ?_
      refine L.val rfl rfl (R.mv rfl) ?_
      refine L.val rfl rfl (R.eqNilP rfl rfl) ?_
      refine L.val rfl rfl (R.mv rfl) ?_
      refine L.isT 51 rfl (by rfl) ?_
      refine L.val rfl rfl (R.mv rfl) ?_
      refine L.val rfl rfl (R.eqI rfl rfl) ?_
      first | refine L.val rfl rfl (R.pickT rfl rfl) ?_ | refine L.val rfl rfl (R.pickF rfl rfl) ?_
      refine L.val rfl rfl (R.mv rfl) ?_
      refine L.isT 55 rfl (by rfl) ?_
      refine L.val rfl rfl (R.mv rfl) ?_
      refine L.val rfl rfl (R.eqI rfl rfl) ?_
      first | refine L.val rfl rfl (R.pickT rfl rfl) ?_ | refine L.val rfl rfl (R.pickF rfl rfl) ?_
      refine L.val rfl rfl (R.mv rfl) ?_
      refine L.isT 59 rfl (by rfl) ?_
      refine L.val rfl rfl (R.mv rfl) ?_
      refine L.val rfl rfl (R.eqI rfl rfl) ?_
      first | refine L.val rfl rfl (R.pickT rfl rfl) ?_ | refine L.val rfl rfl (R.pickF rfl rfl) ?_
      refine L.val rfl rfl (R.mv rfl) ?_
      refine L.isT 63 rfl (by rfl) ?_
      refine L.val rfl rfl (R.mv rfl) ?_
      refine L.callF rfl rfl rfl go20 (iblocks_ok none [] _ .no) ?_
      rintro _ _ ⟨rfl, hw⟩
      obtain rfl := hw.symm
      refine L.val rfl rfl (R.eqI rfl rfl) ?_
      first | refine L.val rfl rfl (R.pickT rfl rfl) ?_ | refine L.val rfl rfl (R.pickF rfl rfl) ?_
      refine L.val rfl rfl (R.mv rfl) ?_
      refine L.isT 68 rfl (by rfl) ?_
      refine L.val rfl rfl (R.mv rfl) ?_
      refine L.callF rfl rfl rfl go21 (ibytes_ok none [] _ .no) ?_
      rintro _ w5 ⟨a5, c5, M5, rfl, e5, o5, _⟩
      replace E := E.trans0 e5
      refine L.val rfl rfl (R.lenS rfl) ?_
      refine L.val rfl rfl (R.eqI rfl rfl) ?_
      first | refine L.val rfl rfl (R.pickT rfl rfl) ?_ | refine L.val rfl rfl (R.pickF rfl rfl) ?_
      refine L.val rfl rfl (R.mv rfl) ?_
      refine L.isT 74 rfl (by rfl) ?_
      refine L.val rfl rfl (R.mv rfl) ?_
      refine L.callF rfl rfl rfl go22 (isame_ok none none [] [] _ .no .no) ?_
      rintro _ w6 ⟨rfl, e6⟩
      replace E := E.trans0 e6
      first | refine L.val rfl rfl (R.pickT rfl rfl) ?_ | refine L.val rfl rfl (R.pickF rfl rfl) ?_
      refine L.val rfl rfl (R.as rfl) ?_
      refine L.nil ?_
      refine N.seq ?_
      refine G.ret1 rfl rfl ?_
      exact ⟨rfl, E⟩
    · exact absurd ⟨by omega, by omega⟩ hn

theorem imagePlays_all (n : Int) (la : Option Addr) (ln lc : Nat) (rs : List Row) (w : World) (hT : Tab w la ln 1 (rs.map Row.cell)) (hR : ∀ r ∈ rs, r.ok w) : Meets Try.prog 3 [.int .i64 n, .slice la ln lc] w (fun v w' => v = .bool true ∧ Ext [] w w') := by
  by_cases hn : 1 ≤ n ∧ n ≤ 64
  · obtain ⟨m, rfl⟩ := Int.eq_ofNat_of_zero_le (show 0 ≤ n by omega)
    exact imagePlays_ok m la ln lc rs w (by omega) (by omega) hT hR
  · exact imagePlays_bad n la ln lc w hn

end Go.Proofs.Ytjmlcodlnohgdaa
