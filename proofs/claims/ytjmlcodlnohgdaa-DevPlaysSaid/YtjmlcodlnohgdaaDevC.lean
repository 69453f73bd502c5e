/-
  The walks of the laws on dev.
-/
import Derived.Test.YtjmlcodlnohgdaaDevC0
import Derived.Test.YtjmlcodlnohgdaaDevF
import Derived.Test.YtjmlcodlnohgdaaDevPure2
import Derived.Test.YtjmlcodlnohgdaaDev10
import Derived.Test.YtjmlcodlnohgdaaDev9
set_option linter.unusedVariables false
set_option linter.unusedSimpArgs false
namespace Go.Proofs.Ytjmlcodlnohgdaa
open Go Brv Brv.Image Brv.Dev
theorem DevAt.neT {w : World} {d : Nat} {v : DevV} {sz : Nat} {S : List Nat} (h : DevAt w d v sz S) {b : Nat} {cs : Array Value} {T : Nat} {fz : Nat × Nat} (hb : Blk w b cs T fz) (h1 : T ≠ 126) (h2 : T ≠ 5) (h3 : T ≠ 131) : b ∉ S := by
  obtain ⟨sa, sc, wa, wc, Ms, Mw, D, rfl⟩ := h
  intro hm
  rcases List.mem_cons.1 hm with rfl | hm
  · exact hb.ne D.hd h1 rfl
  · rcases List.mem_append.1 hm with hm | hm
    · obtain ⟨_, hq⟩ := D.st.typ _ hm; exact hb.ne hq h2 rfl
    · obtain ⟨_, hq⟩ := D.wt.typ _ hm; exact hb.ne hq h3 rfl
structure PlSt where
  i : Nat
  v : DevV
  S : List Nat
  wa : Option Addr
  wc : Nat
  e : Int
structure CutSt where
  v : DevV
  S : List Nat
  wa : Option Addr
  wc : Nat
  e : Int
  f : Int
structure PlAt (w w' : World) (d n bx : Nat) (v : DevV) (S : List Nat) (wa : Option Addr) (wc : Nat) (i : Nat) : Prop where
  D : DevAt w' d v n S
  hS : ∀ g ∈ S, w.heap.size ≤ g
  R : RefAt w' v.wt wa
  B : Blk w' bx (rdC v wa wc) 73 (0, 0)
  hc : 0 ≤ v.calls ∧ v.calls ≤ (i : Int)
  hw : v.wt.length ≤ 40 * i
  E : Ext [] w w'
  hx : w.heap.size ≤ bx

theorem turnV_wt (v : DevV) (N : Nat) (p q : Int) : (turnV v N p q).1.wt = v.wt := by unfold turnV; split <;> rfl
theorem devPlays_ok (n : Nat) (la : Option Addr) (ln lc : Nat) (os : List OpV) (w : World) (hn1 : 1 ≤ n) (hn2 : n ≤ 4096) (hT : Tab w la ln 5 (os.map OpV.cells)) (hO : ∀ o ∈ os, o.ok w) : Meets Try.prog 9 [.int .i64 (n : Int), .slice la ln lc] w (fun v w' => v = .bool true ∧ Ext [] w w') := by
  refine Meets.enter Try.func9 rfl 250 rfl (Nat.le_of_ble_eq_true rfl) ?_
  have E := Ext.refl [] w
  have hln := hT.len
  rw [List.length_map] at hln
  refine G.seq ?_
  refine G.region ?_
  refine L.val rfl rfl (R.as rfl) ?_
  refine L.nil ?_
  refine N.seq ?_
  refine G.seq ?_
  refine G.seq ?_
  refine G.region ?_
  refine L.callF rfl rfl rfl go32 (dev_first_ok _) ?_
  rintro _ w0 ⟨rfl, e0⟩
  replace E := E.trans0 e0
  refine L.val rfl rfl (R.not rfl) ?_
  refine L.nil ?_
  refine N.seq ?_
  refine G.condF rfl ?_
  refine G.skip ?_
  refine N.seq ?_
  refine G.seq ?_
  refine G.region ?_
  refine L.val rfl rfl (R.mv rfl) ?_
  refine L.callF rfl rfl rfl go33 (dnew_ok n _ hn1 hn2) ?_
  rintro _ w1 ⟨d, S0, rfl, e1, D, hS⟩
  have hE0 := E.size
  replace E := E.trans0 e1
  replace hS : ∀ g ∈ S0, w.heap.size ≤ g := fun g hg => Nat.le_trans hE0 (hS g hg)
  refine L.val rfl rfl (R.mv rfl) ?_
  refine L.val rfl rfl (R.ext rfl rfl) ?_
  refine L.val rfl rfl (R.ext rfl rfl) ?_
  refine L.val rfl rfl (R.as rfl) ?_
  refine L.val rfl rfl (R.as rfl) ?_
  refine L.nil ?_
  refine N.seq ?_
  refine G.seq ?_
  refine G.seq ?_
  refine G.region ?_
  refine L.val rfl rfl (R.mv rfl) ?_
  refine L.val rfl rfl (R.lss rfl rfl) ?_
  refine L.val rfl rfl (R.mv rfl) ?_
  refine L.caseP 27 rfl (fun hg4_2 => ?_) (fun hg4_2 => ?_)
  · exfalso; omega
  · refine L.val rfl rfl (R.mv rfl) ?_
    refine L.val rfl rfl (R.gtr rfl rfl) ?_
    first | refine L.val rfl rfl (R.pickT rfl rfl) ?_ | refine L.val rfl rfl (R.pickF rfl rfl) ?_
    refine L.nil ?_
    refine N.seq ?_
    refine G.condP rfl (fun h1 => ?_) (fun h1 => ?_)
    · exfalso; omega
    · refine G.skip ?_
      refine N.seq ?_
      refine G.seq ?_
      refine G.seq ?_
      refine G.region ?_
      refine L.val rfl rfl (R.mv rfl) ?_
      refine L.val rfl rfl (R.gtr rfl rfl) ?_
      refine L.nil ?_
      refine N.seq ?_
      refine G.condP rfl (fun h2 => ?_) (fun h2 => ?_)
      · refine G.seq ?_
        refine G.region ?_
        refine L.val rfl rfl (R.as rfl) ?_
        refine L.nil ?_
        refine N.seq ?_
        refine G.ret1 rfl rfl ?_
        first | exact ⟨rfl, E⟩ | exact ⟨congrArg Value.bool (by simp), E⟩
      · have hn60 : n ≤ 60 := by omega
        refine G.skip ?_
        refine N.seq ?_
        refine G.seq ?_
        refine G.region ?_
        refine L.val rfl rfl (R.mv rfl) ?_
        refine L.callF rfl rfl rfl go45 (rdnew_ok n _ (by omega)) ?_
        rintro _ w2 ⟨rfl, e2⟩
        replace E := E.trans0 e2
        replace D := D.ext0 e2
        refine L.do rfl rfl (R.alloc) ?_
        rintro _ w3 ⟨bx, rfl, hbx, hs3, e3, Bx⟩
        have hE3 := E.size
        have hbx0 : w.heap.size ≤ bx := by omega
        refine L.set rfl (R.stN rfl rfl Bx rfl (Nat.le_refl 5) (rdC_one _ _ _)) ?_
        rintro w4 ⟨e4, hs4, Bx⟩
        replace Bx : Blk w4 bx (rdC (newV n) none 0) 73 (0, 0) := by rw [all_stored (by rfl)] at Bx; exact Bx
        have n4 := e3.news2 e4 (by omega)
        replace E := E.trans0 n4
        replace D := D.ext0 n4
        refine L.nil ?_
        refine N.seq ?_
        refine G.seq ?_
        refine G.seq ?_
        refine G.region ?_
        refine L.val rfl rfl (R.mv rfl) ?_
        refine L.val rfl rfl (R.lenS rfl) ?_
        refine L.val rfl rfl (R.mv rfl) ?_
        refine L.nil ?_
        refine N.seq ?_
        refine G.block ?_
        refine G.loop (X := PlSt) (fun s => [(0, .int .i64 (n : Int)), (5, .pointer (some ⟨d, 0, none⟩)), (6, .int .i64 s.e), (9, .pointer (some ⟨bx, 0, none⟩)), (89, .slice la ln lc), (90, .int .i64 (ln : Int)), (91, .int .i64 (s.i : Int))]) (fun s w' => s.i ≤ ln ∧ s.i ≤ 60 ∧ PlAt w w' d n bx s.v s.S s.wa s.wc s.i) (fun s => ln - s.i) (⟨0, newV n, S0, none, 0, 0⟩) (Sub.cons rfl (Sub.cons rfl (Sub.cons rfl (Sub.cons rfl (Sub.cons rfl (Sub.cons rfl (Sub.cons rfl (Sub.nil _)))))))) ⟨Nat.zero_le _, Nat.zero_le _, ⟨D, hS, RefAt.nil _, Bx, ⟨Int.le_refl _, Int.le_refl _⟩, Nat.le_refl 0, E, hbx0⟩⟩ ?_
        rintro ⟨i, v, S, wa, wc, ev⟩ w5 ⟨hi, hi60, ⟨D, hS, Rf, Bx, hc, hw, E, _⟩⟩
        dsimp only at hi hi60 D hS Rf Bx hc hw
        refine G.sub [(0, .int .i64 (n : Int)), (5, .pointer (some ⟨d, 0, none⟩)), (6, .int .i64 ev), (9, .pointer (some ⟨bx, 0, none⟩)), (89, .slice la ln lc), (90, .int .i64 (ln : Int)), (91, .int .i64 (i : Int))] (Sub.cons rfl (Sub.cons rfl (Sub.cons rfl (Sub.cons rfl (Sub.cons rfl (Sub.cons rfl (Sub.cons rfl (Sub.nil _)))))))) ?_
        refine G.seq ?_
        refine G.region ?_
        refine L.val rfl rfl (R.lss rfl rfl) ?_
        refine L.nil ?_
        refine N.seq ?_
        refine G.seq ?_
        refine G.condP rfl (fun h3 => ?_) (fun h3 => ?_)
        · refine G.skip ?_
          refine N.seq ?_
          refine G.seq ?_
          refine G.block ?_
          refine G.seq ?_
          refine G.region ?_
          refine L.val rfl rfl (R.mv rfl) ?_
          obtain ⟨q9, hq9, hcl⟩ := hT.at (by decide) i (by rw [List.length_map]; omega)
          rw [List.getElem_map] at hcl
          have hok := hO _ (List.getElem_mem (show i < os.length by omega))
          generalize hoe : os[i]'(by omega) = o at *
          obtain ⟨hk1, hk2, hk3, hB, hK⟩ := hok
          have hKc := hK.2.2.1
          have hKn := hK.2.2.2
          refine L.val rfl rfl (R.idx rfl rfl (by omega) (by omega) q9 hq9) ?_
          refine L.val rfl rfl (R.ldN rfl (hcl.ext0 E) rfl) ?_
          refine L.do rfl rfl (R.alloc) ?_
          rintro _ w2 ⟨b9, rfl, hb9, hs9, e2, B9⟩
          have hEb := E.size
          replace E := E.trans0 e2
          refine L.val rfl rfl (R.as rfl) ?_
          refine L.set rfl (R.stN rfl rfl B9 rfl (Nat.le_refl 5) (OpV.cells.one _)) ?_
          rintro w3 ⟨e3, hs3, B9⟩
          replace B9 : Blk w3 b9 o.cells.toArray 76 (0, 0) := B9
          replace E := E.trans e3 (M := []) (by simp) (by intro x hx; rw [List.mem_singleton.1 hx]; exact .inr (by omega))
          have n9x := e2.news2 e3 (by omega)
          replace D := D.ext0 n9x
          replace Rf := Rf.ext0 n9x
          replace Bx := Bx.ext0 n9x
          refine L.nil ?_
          refine N.seq ?_
          refine G.seq ?_
          refine G.seq ?_
          refine G.region ?_
          refine L.val rfl rfl (R.mv rfl) ?_
          refine L.val rfl rfl (R.geq rfl rfl) ?_
          refine L.val rfl rfl (R.mv rfl) ?_
          refine L.caseP 98 rfl (fun hg15_2 => ?_) (fun hg15_2 => ?_)
          · refine L.pass rfl rfl ?_
            refine L.pass rfl rfl ?_
            refine L.pass rfl rfl ?_
            refine L.pass rfl rfl ?_
            first | refine L.val rfl rfl (R.pickT rfl rfl) ?_ | refine L.val rfl rfl (R.pickF rfl rfl) ?_
            refine L.nil ?_
            refine N.seq ?_
            refine G.condT rfl ?_
            refine G.seq ?_
            refine G.region ?_
            refine L.val rfl rfl (R.as rfl) ?_
            refine L.nil ?_
            refine N.seq ?_
            refine G.ret1 rfl rfl ?_
            first | exact ⟨rfl, E⟩ | exact ⟨congrArg Value.bool (by simp), E⟩
          · refine L.val rfl rfl (R.fld rfl) ?_
            refine L.val rfl rfl (R.ldB rfl B9 rfl) ?_
            refine L.val rfl rfl (R.lenS rfl) ?_
            refine L.val rfl rfl (R.gtr rfl rfl) ?_
            first | refine L.val rfl rfl (R.pickT rfl rfl) ?_ | refine L.val rfl rfl (R.pickF rfl rfl) ?_
            refine L.nil ?_
            refine N.seq ?_
            refine G.condP rfl (fun h4 => ?_) (fun h4 => ?_)
            · refine G.seq ?_
              refine G.region ?_
              refine L.val rfl rfl (R.as rfl) ?_
              refine L.nil ?_
              refine N.seq ?_
              refine G.ret1 rfl rfl ?_
              first | exact ⟨rfl, E⟩ | exact ⟨congrArg Value.bool (by simp), E⟩
            · have hi60 : i < 60 := by omega
              have hBn : o.B'n ≤ 2000 := by omega
              have hBl := hB.2.2.len
              have hdb : dn o.B' = o.B'.length / 64 := rfl
              have ha9 := wf_i64 hk2
              have hn9 := wf_i64 hk3
              have nbx := D.neT Bx (by decide) (by decide) (by decide)
              refine G.skip ?_
              refine N.seq ?_
              refine G.seq ?_
              refine G.region ?_
              refine L.val rfl rfl (R.as rfl) ?_
              refine L.nil ?_
              refine N.seq ?_
              refine G.seq ?_
              refine G.seq ?_
              refine G.region ?_
              obtain ⟨K, hK⟩ : ∃ K : Nat, IntKind.u64.wrap o.Kind' = (K : Int) := Int.eq_ofNat_of_zero_le (by simp only [IntKind.wrap, IntKind.bits, IntKind.signed]; simp; omega)
              obtain ⟨m, hm, hm6⟩ : ∃ m : Nat, m = K % 6 ∧ m < 6 := ⟨_, rfl, Nat.mod_lt _ (by decide)⟩
              refine L.val rfl rfl (R.fld rfl) ?_
              refine L.val rfl rfl (R.ldB rfl B9 rfl) ?_
              refine L.val rfl rfl (R.conv rfl (K : Int) hK) ?_
              refine L.val rfl rfl (R.rem rfl rfl (by omega) (by omega)) ?_
              refine L.be 107 rfl (show _ = Value.int .u64 (m : Int) by congr 1; omega) ?_
              refine L.nil ?_
              refine N.seq ?_
              refine G.block ?_
              refine G.seq ?_
              refine G.region ?_
              refine L.val rfl rfl (R.eqI rfl rfl) ?_
              refine L.val rfl rfl (R.as rfl) ?_
              refine L.nil ?_
              refine N.seq ?_
              refine G.cut (X := CutSt) (fun q => [(0, .int .i64 (n : Int)), (5, .pointer (some ⟨d, 0, none⟩)), (6, .int .i64 q.e), (9, .pointer (some ⟨bx, 0, none⟩)), (11, .pointer (some ⟨b9, 0, none⟩)), (12, .int .i64 q.f), (89, .slice la ln lc), (90, .int .i64 (ln : Int)), (91, .int .i64 (i : Int))]) (fun q w' => PlAt w w' d n bx q.v q.S q.wa q.wc (i + 1) ∧ Blk w' b9 o.cells.toArray 76 (0, 0) ∧ (m = 1 ∨ m = 2 ∨ m = 5 → q.e = q.f)) ?_ ?_
              · refine G.condP rfl (fun h5 => ?_) (fun h5 => ?_)
                · refine G.seq ?_
                  refine G.region ?_
                  refine L.val rfl rfl (R.mv rfl) ?_
                  refine L.val rfl rfl (R.fld rfl) ?_
                  refine L.val rfl rfl (R.ldB rfl B9 rfl) ?_
                  refine L.val rfl rfl (R.fld rfl) ?_
                  refine L.val rfl rfl (R.ldB rfl B9 rfl) ?_
                  refine L.callF rfl rfl rfl go35 (dread_ok d v n S o.At' o.N' _ D (by omega)) ?_
                  rintro _ w6 ⟨a6, c6, M6, rfl, e6, o6, hM6⟩
                  replace E := E.trans0 e6
                  have L6 := Bs.of_own o6
                  replace D := D.ext0 e6
                  replace Rf := Rf.ext0 e6
                  replace Bx := Bx.ext0 e6
                  replace B9 := B9.ext0 e6
                  refine L.val rfl rfl (R.mv rfl) ?_
                  refine L.val rfl rfl (R.ext rfl rfl) ?_
                  refine L.val rfl rfl (R.ext rfl rfl) ?_
                  refine L.val rfl rfl (R.as rfl) ?_
                  refine L.val rfl rfl (R.as rfl) ?_
                  refine L.nil ?_
                  refine N.seq ?_
                  refine G.seq ?_
                  refine G.region ?_
                  refine L.val rfl rfl (R.ldBN rfl Bx rfl) ?_
                  refine L.val rfl rfl (R.fld rfl) ?_
                  refine L.val rfl rfl (R.ldB rfl B9 rfl) ?_
                  refine L.val rfl rfl (R.fld rfl) ?_
                  refine L.val rfl rfl (R.ldB rfl B9 rfl) ?_
                  refine L.callF rfl rfl rfl go46 (rdread_ok v n wa wc o.At' o.N' _ D.wf.1 (by omega) Rf hn9 (by omega)) ?_
                  rintro _ w7 ⟨rfl, e7⟩
                  replace E := E.trans0 e7
                  replace L6 := L6.ext0 e7
                  replace D := D.ext0 e7
                  replace Rf := Rf.ext0 e7
                  replace Bx := Bx.ext0 e7
                  replace B9 := B9.ext0 e7
                  refine L.val rfl rfl (R.mv rfl) ?_
                  refine L.val rfl rfl (R.ext rfl rfl) ?_
                  refine L.val rfl rfl (R.ext rfl rfl) ?_
                  refine L.val rfl rfl (R.as rfl) ?_
                  refine L.val rfl rfl (R.as rfl) ?_
                  refine L.nil ?_
                  refine N.seq ?_
                  refine G.seq ?_
                  refine G.region ?_
                  refine L.val rfl rfl (R.mv rfl) ?_
                  refine L.val rfl rfl (R.bytesStr rfl L6.cells L6.len) ?_
                  refine L.val rfl rfl (R.mv rfl) ?_
                  refine L.val rfl rfl (R.neStr rfl rfl) ?_
                  refine L.val rfl rfl (R.mv rfl) ?_
                  refine L.isF 147 rfl (by simp) ?_
                  refine L.val rfl rfl (R.mv rfl) ?_
                  refine L.val rfl rfl (R.mv rfl) ?_
                  refine L.val rfl rfl (R.neI rfl rfl) ?_
                  first | refine L.val rfl rfl (R.pickT rfl rfl) ?_ | refine L.val rfl rfl (R.pickF rfl rfl) ?_
                  refine L.nil ?_
                  refine N.seq ?_
                  refine G.condP rfl (fun h6 => ?_) (fun h6 => ?_)
                  · exact absurd rfl h6
                  · refine G.skip ?_
                    exact N.handX (X := CutSt) ⟨v, S, wa, wc, ev, 0⟩ (Sub.cons rfl (Sub.cons rfl (Sub.cons rfl (Sub.cons rfl (Sub.cons rfl (Sub.cons rfl (Sub.cons rfl (Sub.cons rfl (Sub.cons rfl (Sub.nil _)))))))))) ⟨⟨D, hS, Rf, Bx, (Stp.refl v 0).c hc, (Stp.refl v 0).w hw (by omega), E, hbx0⟩, B9, (by omega)⟩
                · refine G.seq ?_
                  refine G.region ?_
                  refine L.val rfl rfl (R.eqI rfl rfl) ?_
                  refine L.val rfl rfl (R.as rfl) ?_
                  refine L.nil ?_
                  refine N.seq ?_
                  refine G.condP rfl (fun h7 => ?_) (fun h7 => ?_)
                  · refine G.seq ?_
                    refine G.region ?_
                    refine L.val rfl rfl (R.ldBN rfl Bx rfl) ?_
                    refine L.val rfl rfl (R.fld rfl) ?_
                    refine L.val rfl rfl (R.ldB rfl B9 rfl) ?_
                    refine L.val rfl rfl (R.fld rfl) ?_
                    refine L.val rfl rfl (R.ldB rfl B9 rfl) ?_
                    refine L.callF rfl rfl rfl go47 (rdwrite_ok v n wa wc o.At' _ _ _ o.B' _ D.wf.1 (by omega) Rf (⟨by omega, by omega⟩ : 0 ≤ v.calls ∧ v.calls ≤ 1000000000) (by omega) (hB.2.2.ext0 E) hB.1 (by omega)) ?_
                    rintro _ w6 ⟨wa2, wc2, rfl, e6, R2⟩
                    replace E := E.trans0 e6
                    replace D := D.ext0 e6
                    replace Rf := Rf.ext0 e6
                    replace Bx := Bx.ext0 e6
                    replace B9 := B9.ext0 e6
                    refine L.val rfl rfl (R.mv rfl) ?_
                    refine L.val rfl rfl (R.ext rfl rfl) ?_
                    refine L.val rfl rfl (R.ext rfl rfl) ?_
                    refine L.set rfl (R.stN rfl rfl Bx rfl (Nat.le_refl 5) (rdC_one _ _ _)) ?_
                    rintro w7 ⟨e7, hs7, Bx2⟩
                    replace R2 := R2.ext e7 (fun g hg cs hb => by rw [List.mem_singleton.1 hg] at hb; exact Bx.ne hb (by decide) rfl)
                    replace D := D.ext e7 (fun y hy hm => by rw [List.mem_singleton.1 hm] at hy; exact nbx hy)
                    replace Rf := Rf.ext e7 (fun g hg cs hb => by rw [List.mem_singleton.1 hg] at hb; exact Bx.ne hb (by decide) rfl)
                    replace B9 := B9.ext e7 (fun hm => B9.ne Bx (by decide) (List.mem_singleton.1 hm))
                    replace Bx : Blk w7 bx (rdC (writeV v n o.At' o.B').1 wa2 wc2) 73 (0, 0) := by rw [all_stored (by rfl)] at Bx2; exact Bx2
                    replace E := E.news2 e7 hbx0
                    refine L.val rfl rfl (R.as rfl) ?_
                    refine L.nil ?_
                    refine N.seq ?_
                    refine G.region ?_
                    refine L.val rfl rfl (R.mv rfl) ?_
                    refine L.val rfl rfl (R.fld rfl) ?_
                    refine L.val rfl rfl (R.ldB rfl B9 rfl) ?_
                    refine L.val rfl rfl (R.fld rfl) ?_
                    refine L.val rfl rfl (R.ldB rfl B9 rfl) ?_
                    refine L.callF rfl rfl rfl go34 (dwrite_ok d v n S o.At' _ _ _ o.B' _ D (⟨by omega, by omega⟩ : 0 ≤ v.calls ∧ v.calls ≤ 1000000000) (by omega) (hB.2.2.ext0 E) hB.1 (by omega) (fun q hq => ⟨fun hm => by have h9 := hS _ hm; have h8 := hB.2.2.effLt q hq; omega, Nat.lt_of_lt_of_le (hB.2.2.effLt q hq) E.size⟩)) ?_
                    rintro _ w8 ⟨rfl, S2, g8, D2⟩
                    have e8 := g8.1
                    have nx8 := D.neT Bx (by decide) (by decide) (by decide)
                    have n98 := D.neT B9 (by decide) (by decide) (by decide)
                    replace R2 := R2.ext e8 (fun g hg cs hb => D.neT hb (by decide) (by decide) (by decide) hg)
                    replace Rf := Rf.ext e8 (fun g hg cs hb => D.neT hb (by decide) (by decide) (by decide) hg)
                    replace Bx := Bx.ext e8 nx8
                    replace B9 := B9.ext e8 n98
                    have hE8 := E.size
                    replace E := E.fresh e8 hS
                    replace hS := g8.fresh hS hE8
                    have hb := writeV_bd v n o.At' o.B'
                    refine L.val rfl rfl (R.as rfl) ?_
                    refine L.nil ?_
                    exact N.handX (X := CutSt) ⟨(writeV v n o.At' o.B').1, S2, wa2, wc2, (writeV v n o.At' o.B').2, (writeV v n o.At' o.B').2⟩ (Sub.cons rfl (Sub.cons rfl (Sub.cons rfl (Sub.cons rfl (Sub.cons rfl (Sub.cons rfl (Sub.cons rfl (Sub.cons rfl (Sub.cons rfl (Sub.nil _)))))))))) ⟨⟨D2, hS, R2, Bx, hb.c hc, hb.w hw (by omega), E, hbx0⟩, B9, (fun _ => rfl)⟩
                  · refine G.seq ?_
                    refine G.region ?_
                    refine L.val rfl rfl (R.eqI rfl rfl) ?_
                    refine L.val rfl rfl (R.as rfl) ?_
                    refine L.nil ?_
                    refine N.seq ?_
                    refine G.condP rfl (fun h8 => ?_) (fun h8 => ?_)
                    · refine G.seq ?_
                      refine G.region ?_
                      refine L.val rfl rfl (R.ldBN rfl Bx rfl) ?_
                      refine L.callF rfl rfl rfl go48 (rdflush_ok v n wa wc _ D.wf.1 (by omega) Rf (⟨by omega, by omega⟩ : 0 ≤ v.calls ∧ v.calls ≤ 1000000000) (by omega)) ?_
                      rintro _ w6 ⟨wa2, wc2, rfl, e6, R2⟩
                      replace E := E.trans0 e6
                      replace D := D.ext0 e6
                      replace Rf := Rf.ext0 e6
                      replace Bx := Bx.ext0 e6
                      replace B9 := B9.ext0 e6
                      refine L.val rfl rfl (R.mv rfl) ?_
                      refine L.val rfl rfl (R.ext rfl rfl) ?_
                      refine L.val rfl rfl (R.ext rfl rfl) ?_
                      refine L.set rfl (R.stN rfl rfl Bx rfl (Nat.le_refl 5) (rdC_one _ _ _)) ?_
                      rintro w7 ⟨e7, hs7, Bx2⟩
                      replace R2 := R2.ext e7 (fun g hg cs hb => by rw [List.mem_singleton.1 hg] at hb; exact Bx.ne hb (by decide) rfl)
                      replace D := D.ext e7 (fun y hy hm => by rw [List.mem_singleton.1 hm] at hy; exact nbx hy)
                      replace Rf := Rf.ext e7 (fun g hg cs hb => by rw [List.mem_singleton.1 hg] at hb; exact Bx.ne hb (by decide) rfl)
                      replace B9 := B9.ext e7 (fun hm => B9.ne Bx (by decide) (List.mem_singleton.1 hm))
                      replace Bx : Blk w7 bx (rdC (flushV v).1 wa2 wc2) 73 (0, 0) := by rw [all_stored (by rfl)] at Bx2; exact Bx2
                      replace E := E.news2 e7 hbx0
                      refine L.val rfl rfl (R.as rfl) ?_
                      refine L.nil ?_
                      refine N.seq ?_
                      refine G.region ?_
                      refine L.val rfl rfl (R.mv rfl) ?_
                      refine L.callF rfl rfl rfl go36 (dflush_ok d v n S _ D (⟨by omega, by omega⟩ : 0 ≤ v.calls ∧ v.calls ≤ 1000000000) (by omega)) ?_
                      rintro _ w8 ⟨rfl, S2, g8, D2⟩
                      have e8 := g8.1
                      have nx8 := D.neT Bx (by decide) (by decide) (by decide)
                      have n98 := D.neT B9 (by decide) (by decide) (by decide)
                      replace R2 := R2.ext e8 (fun g hg cs hb => D.neT hb (by decide) (by decide) (by decide) hg)
                      replace Rf := Rf.ext e8 (fun g hg cs hb => D.neT hb (by decide) (by decide) (by decide) hg)
                      replace Bx := Bx.ext e8 nx8
                      replace B9 := B9.ext e8 n98
                      have hE8 := E.size
                      replace E := E.fresh e8 hS
                      replace hS := g8.fresh hS hE8
                      have hb := flushV_bd v
                      refine L.val rfl rfl (R.as rfl) ?_
                      refine L.nil ?_
                      exact N.handX (X := CutSt) ⟨(flushV v).1, S2, wa2, wc2, (flushV v).2, (flushV v).2⟩ (Sub.cons rfl (Sub.cons rfl (Sub.cons rfl (Sub.cons rfl (Sub.cons rfl (Sub.cons rfl (Sub.cons rfl (Sub.cons rfl (Sub.cons rfl (Sub.nil _)))))))))) ⟨⟨D2, hS, R2, Bx, hb.c hc, hb.w hw (by omega), E, hbx0⟩, B9, (fun _ => rfl)⟩
                    · refine G.seq ?_
                      refine G.region ?_
                      refine L.val rfl rfl (R.eqI rfl rfl) ?_
                      refine L.val rfl rfl (R.as rfl) ?_
                      refine L.nil ?_
                      refine N.seq ?_
                      refine G.condP rfl (fun h9 => ?_) (fun h9 => ?_)
                      · refine G.seq ?_
                        refine G.region ?_
                        refine L.val rfl rfl (R.fld rfl) ?_
                        refine L.val rfl rfl (R.ldB rfl B9 rfl) ?_
                        refine L.val rfl rfl (R.max rfl rfl (max o.N' (-1)) (by split <;> omega)) ?_
                        refine L.val rfl rfl (R.fld rfl) ?_
                        refine L.set rfl (R.st rfl rfl Bx (by show 3 < 5; decide) rfl) ?_
                        rintro w6 ⟨e6, hs6, Bx2⟩
                        replace D := D.ext e6 (fun y hy hm => by rw [List.mem_singleton.1 hm] at hy; exact nbx hy)
                        replace Rf := Rf.ext e6 (fun g hg cs hb => by rw [List.mem_singleton.1 hg] at hb; exact Bx.ne hb (by decide) rfl)
                        replace B9 := B9.ext e6 (fun hm => B9.ne Bx (by decide) (List.mem_singleton.1 hm))
                        replace Bx : Blk w6 bx (rdC (limitV v o.N') wa wc) 73 (0, 0) := Bx2
                        replace E := E.news2 e6 hbx0
                        refine L.nil ?_
                        refine N.seq ?_
                        refine G.region ?_
                        refine L.val rfl rfl (R.mv rfl) ?_
                        refine L.val rfl rfl (R.fld rfl) ?_
                        refine L.val rfl rfl (R.ldB rfl B9 rfl) ?_
                        refine L.callF rfl rfl rfl go40 (dlimit_ok d v n S o.N' _ D hn9.2) ?_
                        rintro _ w8 ⟨e8, D2⟩
                        have nx8 := D.neT Bx (by decide) (by decide) (by decide)
                        have n98 := D.neT B9 (by decide) (by decide) (by decide)
                        replace Rf := Rf.ext e8 (fun g hg cs hb => D.neT hb (by decide) (by decide) (by decide) hg)
                        replace Bx := Bx.ext e8 nx8
                        replace B9 := B9.ext e8 n98
                        have hE8 := E.size
                        replace E := E.fresh e8 hS
                        obtain ⟨S2, hS2⟩ : ∃ S2, S2 = S := ⟨_, rfl⟩
                        rw [← hS2] at D2 hS
                        have hb := limitV_bd v o.N'
                        refine L.nil ?_
                        exact N.handX (X := CutSt) ⟨(limitV v o.N'), S2, wa, wc, ev, 0⟩ (Sub.cons rfl (Sub.cons rfl (Sub.cons rfl (Sub.cons rfl (Sub.cons rfl (Sub.cons rfl (Sub.cons rfl (Sub.cons rfl (Sub.cons rfl (Sub.nil _)))))))))) ⟨⟨D2, hS, Rf, Bx, hb.c hc, hb.w hw (by omega), E, hbx0⟩, B9, (by omega)⟩
                      · refine G.seq ?_
                        refine G.region ?_
                        refine L.val rfl rfl (R.eqI rfl rfl) ?_
                        refine L.val rfl rfl (R.as rfl) ?_
                        refine L.nil ?_
                        refine N.seq ?_
                        refine G.condP rfl (fun h10 => ?_) (fun h10 => ?_)
                        · refine G.seq ?_
                          refine G.region ?_
                          refine L.val rfl rfl (R.ldBN rfl Bx rfl) ?_
                          refine L.val rfl rfl (R.fld rfl) ?_
                          refine L.val rfl rfl (R.ldB rfl B9 rfl) ?_
                          refine L.be 192 rfl (show _ = Value.slice o.Keep'a o.Keep'.length o.Keep'c by rw [← hKn]; rfl) ?_
                          refine L.callF rfl rfl rfl go49 (rdcrash_ok v n wa wc _ _ o.Keep' _ D.wf.1 (by omega) Rf (by omega) (hKc.ext0 E)) ?_
                          rintro _ w6 ⟨rfl, e6⟩
                          replace E := E.trans0 e6
                          replace D := D.ext0 e6
                          replace Rf := Rf.ext0 e6
                          replace Bx := Bx.ext0 e6
                          replace B9 := B9.ext0 e6
                          refine L.set rfl (R.stN rfl rfl Bx rfl (Nat.le_refl 5) (rdC_one _ _ _)) ?_
                          rintro w7 ⟨e7, hs7, Bx2⟩
                          replace D := D.ext e7 (fun y hy hm => by rw [List.mem_singleton.1 hm] at hy; exact nbx hy)
                          replace Rf := Rf.ext e7 (fun g hg cs hb => by rw [List.mem_singleton.1 hg] at hb; exact Bx.ne hb (by decide) rfl)
                          replace B9 := B9.ext e7 (fun hm => B9.ne Bx (by decide) (List.mem_singleton.1 hm))
                          replace Bx : Blk w7 bx (rdC (crashV v o.Keep') none 0) 73 (0, 0) := by rw [all_stored (by rfl)] at Bx2; exact Bx2
                          replace E := E.news2 e7 hbx0
                          refine L.nil ?_
                          refine N.seq ?_
                          refine G.region ?_
                          refine L.val rfl rfl (R.mv rfl) ?_
                          refine L.val rfl rfl (R.fld rfl) ?_
                          refine L.val rfl rfl (R.ldB rfl B9 rfl) ?_
                          refine L.be 196 rfl (show _ = Value.slice o.Keep'a o.Keep'.length o.Keep'c by rw [← hKn]; rfl) ?_
                          refine L.callF rfl rfl rfl go42 (dcrash_ok d v n S _ _ o.Keep' _ D (by omega) (hKc.ext0 E) (fun q hq hm => by have h9 := hS _ hm; have h8 := Cells.effLt hKc q hq; omega)) ?_
                          rintro _ w8 ⟨S2, g8, D2⟩
                          have e8 := g8.1
                          have nx8 := D.neT Bx (by decide) (by decide) (by decide)
                          have n98 := D.neT B9 (by decide) (by decide) (by decide)
                          replace Rf := Rf.ext e8 (fun g hg cs hb => D.neT hb (by decide) (by decide) (by decide) hg)
                          replace Bx := Bx.ext e8 nx8
                          replace B9 := B9.ext e8 n98
                          have hE8 := E.size
                          replace E := E.fresh e8 hS
                          replace hS := g8.fresh hS hE8
                          have hb := crashV_bd v o.Keep'
                          refine L.nil ?_
                          exact N.handX (X := CutSt) ⟨(crashV v o.Keep'), S2, none, 0, ev, 0⟩ (Sub.cons rfl (Sub.cons rfl (Sub.cons rfl (Sub.cons rfl (Sub.cons rfl (Sub.cons rfl (Sub.cons rfl (Sub.cons rfl (Sub.cons rfl (Sub.nil _)))))))))) ⟨⟨D2, hS, (RefAt.nil _), Bx, hb.c hc, hb.w hw (by omega), E, hbx0⟩, B9, (by omega)⟩
                        · refine G.seq ?_
                          refine G.region ?_
                          refine L.val rfl rfl (R.ldBN rfl Bx rfl) ?_
                          refine L.val rfl rfl (R.fld rfl) ?_
                          refine L.val rfl rfl (R.ldB rfl B9 rfl) ?_
                          refine L.val rfl rfl (R.fld rfl) ?_
                          refine L.val rfl rfl (R.ldB rfl B9 rfl) ?_
                          refine L.callF rfl rfl rfl go50 (rdturn_ok v n wa wc o.At' o.N' _ D.wf.1 (by omega)) ?_
                          rintro _ w6 ⟨rfl, e6⟩
                          replace E := E.trans0 e6
                          replace D := D.ext0 e6
                          replace Rf := Rf.ext0 e6
                          replace Bx := Bx.ext0 e6
                          replace B9 := B9.ext0 e6
                          refine L.val rfl rfl (R.mv rfl) ?_
                          refine L.val rfl rfl (R.ext rfl rfl) ?_
                          refine L.val rfl rfl (R.ext rfl rfl) ?_
                          refine L.set rfl (R.stN rfl rfl Bx rfl (Nat.le_refl 5) (rdC_one _ _ _)) ?_
                          rintro w7 ⟨e7, hs7, Bx2⟩
                          replace D := D.ext e7 (fun y hy hm => by rw [List.mem_singleton.1 hm] at hy; exact nbx hy)
                          replace Rf := Rf.ext e7 (fun g hg cs hb => by rw [List.mem_singleton.1 hg] at hb; exact Bx.ne hb (by decide) rfl)
                          replace B9 := B9.ext e7 (fun hm => B9.ne Bx (by decide) (List.mem_singleton.1 hm))
                          replace Bx : Blk w7 bx (rdC (turnV v n o.At' o.N').1 wa wc) 73 (0, 0) := by rw [all_stored (by rfl)] at Bx2; exact Bx2
                          replace E := E.news2 e7 hbx0
                          refine L.val rfl rfl (R.as rfl) ?_
                          refine L.nil ?_
                          refine N.seq ?_
                          refine G.region ?_
                          refine L.val rfl rfl (R.mv rfl) ?_
                          refine L.val rfl rfl (R.fld rfl) ?_
                          refine L.val rfl rfl (R.ldB rfl B9 rfl) ?_
                          refine L.val rfl rfl (R.fld rfl) ?_
                          refine L.val rfl rfl (R.ldB rfl B9 rfl) ?_
                          refine L.callF rfl rfl rfl go43 (dturn_ok d v n S o.At' o.N' _ D) ?_
                          rintro _ w8 ⟨rfl, e8, D2⟩
                          have nx8 := D.neT Bx (by decide) (by decide) (by decide)
                          have n98 := D.neT B9 (by decide) (by decide) (by decide)
                          replace Rf := Rf.ext e8 (fun g hg cs hb => D.neT hb (by decide) (by decide) (by decide) hg)
                          replace Bx := Bx.ext e8 nx8
                          replace B9 := B9.ext e8 n98
                          have hE8 := E.size
                          replace E := E.fresh e8 hS
                          obtain ⟨S2, hS2⟩ : ∃ S2, S2 = S := ⟨_, rfl⟩
                          rw [← hS2] at D2 hS
                          have hb := turnV_bd v n o.At' o.N'
                          have R3 : RefAt w8 (turnV v n o.At' o.N').1.wt wa := by rw [turnV_wt]; exact Rf
                          refine L.val rfl rfl (R.as rfl) ?_
                          refine L.nil ?_
                          exact N.handX (X := CutSt) ⟨(turnV v n o.At' o.N').1, S2, wa, wc, (turnV v n o.At' o.N').2, (turnV v n o.At' o.N').2⟩ (Sub.cons rfl (Sub.cons rfl (Sub.cons rfl (Sub.cons rfl (Sub.cons rfl (Sub.cons rfl (Sub.cons rfl (Sub.cons rfl (Sub.cons rfl (Sub.nil _)))))))))) ⟨⟨D2, hS, R3, Bx, hb.c hc, hb.w hw (by omega), E, hbx0⟩, B9, (fun _ => rfl)⟩
              · rintro ⟨v2, S2, wa2, wc2, e2, f2⟩ w20 ⟨⟨D, hS, Rf, Bx, hc2, hw2, E, _⟩, B9, hef⟩
                dsimp only at D hS Rf Bx hc2 hw2 hef
                refine N.sub [(0, .int .i64 (n : Int)), (5, .pointer (some ⟨d, 0, none⟩)), (6, .int .i64 e2), (9, .pointer (some ⟨bx, 0, none⟩)), (11, .pointer (some ⟨b9, 0, none⟩)), (12, .int .i64 f2), (89, .slice la ln lc), (90, .int .i64 (ln : Int)), (91, .int .i64 (i : Int))] (Sub.cons rfl (Sub.cons rfl (Sub.cons rfl (Sub.cons rfl (Sub.cons rfl (Sub.cons rfl (Sub.cons rfl (Sub.cons rfl (Sub.cons rfl (Sub.nil _)))))))))) ?_
                refine N.block ?_
                refine N.seq ?_
                refine G.seq ?_
                refine G.seq ?_
                refine G.region ?_
                refine L.val rfl rfl (R.fld rfl) ?_
                refine L.val rfl rfl (R.ldB rfl B9 rfl) ?_
                refine L.val rfl rfl (R.conv rfl (K : Int) hK) ?_
                refine L.val rfl rfl (R.rem rfl rfl (by omega) (by omega)) ?_
                refine L.be 201 rfl (show _ = Value.int .u64 (m : Int) by congr 1; omega) ?_
                refine L.val rfl rfl (R.as rfl) ?_
                refine L.nil ?_
                refine N.seq ?_
                refine G.seq ?_
                refine G.region ?_
                refine L.val rfl rfl (R.mv rfl) ?_
                refine L.val rfl rfl (R.eqI rfl rfl) ?_
                refine L.val rfl rfl (R.mv rfl) ?_
                refine L.caseP 204 rfl (fun hg39_2 => ?_) (fun hg39_2 => ?_)
                · refine L.pass rfl rfl ?_
                  refine L.pass rfl rfl ?_
                  first | refine L.val rfl rfl (R.pickT rfl rfl) ?_ | refine L.val rfl rfl (R.pickF rfl rfl) ?_
                  refine L.val rfl rfl (R.mv rfl) ?_
                  refine L.pass rfl rfl ?_
                  refine L.pass rfl rfl ?_
                  first | refine L.val rfl rfl (R.pickT rfl rfl) ?_ | refine L.val rfl rfl (R.pickF rfl rfl) ?_
                  refine L.val rfl rfl (R.mv rfl) ?_
                  refine L.val rfl rfl (R.mv rfl) ?_
                  refine L.val rfl rfl (R.mv rfl) ?_
                  refine L.val rfl rfl (R.neI rfl rfl) ?_
                  first | refine L.val rfl rfl (R.pickT rfl rfl) ?_ | refine L.val rfl rfl (R.pickF rfl rfl) ?_
                  refine L.nil ?_
                  refine N.seq ?_
                  refine G.condP rfl (fun h11 => ?_) (fun h11 => ?_)
                  · exact absurd (hef (by omega)) h11
                  · refine G.skip ?_
                    refine N.seq ?_
                    refine G.seq ?_
                    refine G.quiet (by decide +kernel) rfl ?_
                    refine Q.val rfl rfl rfl rfl (fun w21 hE => R.mv rfl) ?_
                    refine Q.callR (A := IsBs v2.stay.length v2.stay) (IsBs.keep _ _) rfl rfl go37 (fun w21 hE => ⟨_, rfl, (dimage_ok _ _ _ _ _ (D.ext0 hE)).mono (fun _ _ h => by obtain ⟨x9, y9, M9, rfl, e9, ho9, _⟩ := h; exact ⟨⟨x9, y9, rfl, ho9.le, Bs.of_own ho9⟩, e9⟩)⟩) ?_
                    refine Q.val rfl rfl rfl rfl (fun w21 hE => fun v hv => by obtain ⟨x1, y1, rfl, _, hv⟩ := hv; exact R.bytesStr rfl hv.cells hv.len) ?_
                    refine Q.val rfl rfl rfl rfl (fun w21 hE => R.fld rfl) ?_
                    refine Q.val rfl rfl rfl rfl (fun w21 hE => R.ldB rfl (Bx.ext0 hE) rfl) ?_
                    refine Q.val rfl rfl rfl rfl (fun w21 hE => R.neStr rfl rfl) ?_
                    refine Q.val rfl rfl rfl rfl (fun w21 hE => R.mv rfl) ?_
                    refine Q.isF 223 rfl (by simp) ?_
                    refine Q.val rfl rfl rfl rfl (fun w21 hE => R.mv rfl) ?_
                    refine Q.call (.int .i64 (v2.wt.length : Int)) rfl rfl rfl go38 (fun w21 hE => ⟨_, rfl, (dwaiting_ok d v2 n S2 _ (D.ext0 hE)).mono (by rintro _ _ ⟨rfl, rfl⟩; exact ⟨rfl, Ext.refl _ _⟩)⟩) ?_
                    refine Q.val rfl rfl rfl rfl (fun w21 hE => R.fld rfl) ?_
                    refine Q.val rfl rfl rfl rfl (fun w21 hE => R.ldB rfl (Bx.ext0 hE) rfl) ?_
                    refine Q.val rfl rfl rfl rfl (fun w21 hE => R.lenS rfl) ?_
                    refine Q.val rfl rfl rfl rfl (fun w21 hE => R.neI rfl rfl) ?_
                    first | refine Q.val rfl rfl rfl rfl (fun w21 hE => R.pickT rfl rfl) ?_ | refine Q.val rfl rfl rfl rfl (fun w21 hE => R.pickF rfl rfl) ?_
                    refine Q.val rfl rfl rfl rfl (fun w21 hE => R.mv rfl) ?_
                    refine Q.isF 231 rfl (by simp) ?_
                    refine Q.val rfl rfl rfl rfl (fun w21 hE => R.mv rfl) ?_
                    refine Q.call (.int .i64 v2.calls) rfl rfl rfl go39 (fun w21 hE => ⟨_, rfl, (dcalls_ok d v2 n S2 _ (D.ext0 hE)).mono (by rintro _ _ ⟨rfl, rfl⟩; exact ⟨rfl, Ext.refl _ _⟩)⟩) ?_
                    refine Q.val rfl rfl rfl rfl (fun w21 hE => R.fld rfl) ?_
                    refine Q.val rfl rfl rfl rfl (fun w21 hE => R.ldB rfl (Bx.ext0 hE) rfl) ?_
                    refine Q.val rfl rfl rfl rfl (fun w21 hE => R.neI rfl rfl) ?_
                    first | refine Q.val rfl rfl rfl rfl (fun w21 hE => R.pickT rfl rfl) ?_ | refine Q.val rfl rfl rfl rfl (fun w21 hE => R.pickF rfl rfl) ?_
                    refine Q.val rfl rfl rfl rfl (fun w21 hE => R.mv rfl) ?_
                    refine Q.isF 238 rfl (by simp) ?_
                    refine Q.val rfl rfl rfl rfl (fun w21 hE => R.mv rfl) ?_
                    refine Q.call (.bool v2.off) rfl rfl rfl go41 (fun w21 hE => ⟨_, rfl, (doff_ok d v2 n S2 _ (D.ext0 hE)).mono (by rintro _ _ ⟨rfl, rfl⟩; exact ⟨rfl, Ext.refl _ _⟩)⟩) ?_
                    refine Q.val rfl rfl rfl rfl (fun w21 hE => R.fld rfl) ?_
                    refine Q.val rfl rfl rfl rfl (fun w21 hE => R.ldB rfl (Bx.ext0 hE) rfl) ?_
                    refine Q.val rfl rfl rfl rfl (fun w21 hE => R.neB rfl rfl) ?_
                    first | refine Q.val rfl rfl rfl rfl (fun w21 hE => R.pickT rfl rfl) ?_ | refine Q.val rfl rfl rfl rfl (fun w21 hE => R.pickF rfl rfl) ?_
                    refine Q.be 244 rfl (show _ = Value.bool false by simp) ?_
                    refine Q.nil (fun w21 e21 => ?_)
                    intro v218 _
                    replace E := E.trans0 e21
                    replace D := D.ext0 e21
                    replace Rf := Rf.ext0 e21
                    replace Bx := Bx.ext0 e21
                    refine N.seq ?_
                    refine G.condF rfl ?_
                    refine G.skip ?_
                    refine N.block ?_
                    refine N.seq ?_
                    refine G.region ?_
                    refine L.val rfl rfl (R.add rfl rfl (by omega)) ?_
                    refine L.val rfl rfl (R.mv rfl) ?_
                    refine L.nil ?_
                    exact N.again (X := PlSt) ⟨i + 1, v2, S2, wa2, wc2, e2⟩ (by show ln - (i + 1) < ln - i; omega) (Sub.cons rfl (Sub.cons rfl (Sub.cons rfl (Sub.cons rfl (Sub.cons rfl (Sub.cons rfl (Sub.cons rfl (Sub.nil _)))))))) ⟨by show i + 1 ≤ ln; omega, by show i + 1 ≤ 60; omega, ⟨D, hS, Rf, Bx, hc2, hw2, E, hbx0⟩⟩
                · refine L.val rfl rfl (R.mv rfl) ?_
                  refine L.val rfl rfl (R.eqI rfl rfl) ?_
                  first | refine L.val rfl rfl (R.pickT rfl rfl) ?_ | refine L.val rfl rfl (R.pickF rfl rfl) ?_
                  refine L.val rfl rfl (R.mv rfl) ?_
                  refine L.caseP 208 rfl (fun hg39_6 => ?_) (fun hg39_6 => ?_)
                  · refine L.pass rfl rfl ?_
                    refine L.pass rfl rfl ?_
                    first | refine L.val rfl rfl (R.pickT rfl rfl) ?_ | refine L.val rfl rfl (R.pickF rfl rfl) ?_
                    refine L.val rfl rfl (R.mv rfl) ?_
                    refine L.val rfl rfl (R.mv rfl) ?_
                    refine L.val rfl rfl (R.mv rfl) ?_
                    refine L.val rfl rfl (R.neI rfl rfl) ?_
                    first | refine L.val rfl rfl (R.pickT rfl rfl) ?_ | refine L.val rfl rfl (R.pickF rfl rfl) ?_
                    refine L.nil ?_
                    refine N.seq ?_
                    refine G.condP rfl (fun h11 => ?_) (fun h11 => ?_)
                    · exact absurd (hef (by omega)) h11
                    · refine G.skip ?_
                      refine N.seq ?_
                      refine G.seq ?_
                      refine G.quiet (by decide +kernel) rfl ?_
                      refine Q.val rfl rfl rfl rfl (fun w21 hE => R.mv rfl) ?_
                      refine Q.callR (A := IsBs v2.stay.length v2.stay) (IsBs.keep _ _) rfl rfl go37 (fun w21 hE => ⟨_, rfl, (dimage_ok _ _ _ _ _ (D.ext0 hE)).mono (fun _ _ h => by obtain ⟨x9, y9, M9, rfl, e9, ho9, _⟩ := h; exact ⟨⟨x9, y9, rfl, ho9.le, Bs.of_own ho9⟩, e9⟩)⟩) ?_
                      refine Q.val rfl rfl rfl rfl (fun w21 hE => fun v hv => by obtain ⟨x1, y1, rfl, _, hv⟩ := hv; exact R.bytesStr rfl hv.cells hv.len) ?_
                      refine Q.val rfl rfl rfl rfl (fun w21 hE => R.fld rfl) ?_
                      refine Q.val rfl rfl rfl rfl (fun w21 hE => R.ldB rfl (Bx.ext0 hE) rfl) ?_
                      refine Q.val rfl rfl rfl rfl (fun w21 hE => R.neStr rfl rfl) ?_
                      refine Q.val rfl rfl rfl rfl (fun w21 hE => R.mv rfl) ?_
                      refine Q.isF 223 rfl (by simp) ?_
                      refine Q.val rfl rfl rfl rfl (fun w21 hE => R.mv rfl) ?_
                      refine Q.call (.int .i64 (v2.wt.length : Int)) rfl rfl rfl go38 (fun w21 hE => ⟨_, rfl, (dwaiting_ok d v2 n S2 _ (D.ext0 hE)).mono (by rintro _ _ ⟨rfl, rfl⟩; exact ⟨rfl, Ext.refl _ _⟩)⟩) ?_
                      refine Q.val rfl rfl rfl rfl (fun w21 hE => R.fld rfl) ?_
                      refine Q.val rfl rfl rfl rfl (fun w21 hE => R.ldB rfl (Bx.ext0 hE) rfl) ?_
                      refine Q.val rfl rfl rfl rfl (fun w21 hE => R.lenS rfl) ?_
                      refine Q.val rfl rfl rfl rfl (fun w21 hE => R.neI rfl rfl) ?_
                      first | refine Q.val rfl rfl rfl rfl (fun w21 hE => R.pickT rfl rfl) ?_ | refine Q.val rfl rfl rfl rfl (fun w21 hE => R.pickF rfl rfl) ?_
                      refine Q.val rfl rfl rfl rfl (fun w21 hE => R.mv rfl) ?_
                      refine Q.isF 231 rfl (by simp) ?_
                      refine Q.val rfl rfl rfl rfl (fun w21 hE => R.mv rfl) ?_
                      refine Q.call (.int .i64 v2.calls) rfl rfl rfl go39 (fun w21 hE => ⟨_, rfl, (dcalls_ok d v2 n S2 _ (D.ext0 hE)).mono (by rintro _ _ ⟨rfl, rfl⟩; exact ⟨rfl, Ext.refl _ _⟩)⟩) ?_
                      refine Q.val rfl rfl rfl rfl (fun w21 hE => R.fld rfl) ?_
                      refine Q.val rfl rfl rfl rfl (fun w21 hE => R.ldB rfl (Bx.ext0 hE) rfl) ?_
                      refine Q.val rfl rfl rfl rfl (fun w21 hE => R.neI rfl rfl) ?_
                      first | refine Q.val rfl rfl rfl rfl (fun w21 hE => R.pickT rfl rfl) ?_ | refine Q.val rfl rfl rfl rfl (fun w21 hE => R.pickF rfl rfl) ?_
                      refine Q.val rfl rfl rfl rfl (fun w21 hE => R.mv rfl) ?_
                      refine Q.isF 238 rfl (by simp) ?_
                      refine Q.val rfl rfl rfl rfl (fun w21 hE => R.mv rfl) ?_
                      refine Q.call (.bool v2.off) rfl rfl rfl go41 (fun w21 hE => ⟨_, rfl, (doff_ok d v2 n S2 _ (D.ext0 hE)).mono (by rintro _ _ ⟨rfl, rfl⟩; exact ⟨rfl, Ext.refl _ _⟩)⟩) ?_
                      refine Q.val rfl rfl rfl rfl (fun w21 hE => R.fld rfl) ?_
                      refine Q.val rfl rfl rfl rfl (fun w21 hE => R.ldB rfl (Bx.ext0 hE) rfl) ?_
                      refine Q.val rfl rfl rfl rfl (fun w21 hE => R.neB rfl rfl) ?_
                      first | refine Q.val rfl rfl rfl rfl (fun w21 hE => R.pickT rfl rfl) ?_ | refine Q.val rfl rfl rfl rfl (fun w21 hE => R.pickF rfl rfl) ?_
                      refine Q.be 244 rfl (show _ = Value.bool false by simp) ?_
                      refine Q.nil (fun w21 e21 => ?_)
                      intro v218 _
                      replace E := E.trans0 e21
                      replace D := D.ext0 e21
                      replace Rf := Rf.ext0 e21
                      replace Bx := Bx.ext0 e21
                      refine N.seq ?_
                      refine G.condF rfl ?_
                      refine G.skip ?_
                      refine N.block ?_
                      refine N.seq ?_
                      refine G.region ?_
                      refine L.val rfl rfl (R.add rfl rfl (by omega)) ?_
                      refine L.val rfl rfl (R.mv rfl) ?_
                      refine L.nil ?_
                      exact N.again (X := PlSt) ⟨i + 1, v2, S2, wa2, wc2, e2⟩ (by show ln - (i + 1) < ln - i; omega) (Sub.cons rfl (Sub.cons rfl (Sub.cons rfl (Sub.cons rfl (Sub.cons rfl (Sub.cons rfl (Sub.cons rfl (Sub.nil _)))))))) ⟨by show i + 1 ≤ ln; omega, by show i + 1 ≤ 60; omega, ⟨D, hS, Rf, Bx, hc2, hw2, E, hbx0⟩⟩
                  · refine L.val rfl rfl (R.mv rfl) ?_
                    refine L.val rfl rfl (R.eqI rfl rfl) ?_
                    first | refine L.val rfl rfl (R.pickT rfl rfl) ?_ | refine L.val rfl rfl (R.pickF rfl rfl) ?_
                    refine L.val rfl rfl (R.mv rfl) ?_
                    refine L.caseP 212 rfl (fun hg39_10 => ?_) (fun hg39_10 => ?_)
                    · refine L.val rfl rfl (R.mv rfl) ?_
                      refine L.val rfl rfl (R.mv rfl) ?_
                      refine L.val rfl rfl (R.neI rfl rfl) ?_
                      first | refine L.val rfl rfl (R.pickT rfl rfl) ?_ | refine L.val rfl rfl (R.pickF rfl rfl) ?_
                      refine L.nil ?_
                      refine N.seq ?_
                      refine G.condP rfl (fun h11 => ?_) (fun h11 => ?_)
                      · exact absurd (hef (by omega)) h11
                      · refine G.skip ?_
                        refine N.seq ?_
                        refine G.seq ?_
                        refine G.quiet (by decide +kernel) rfl ?_
                        refine Q.val rfl rfl rfl rfl (fun w21 hE => R.mv rfl) ?_
                        refine Q.callR (A := IsBs v2.stay.length v2.stay) (IsBs.keep _ _) rfl rfl go37 (fun w21 hE => ⟨_, rfl, (dimage_ok _ _ _ _ _ (D.ext0 hE)).mono (fun _ _ h => by obtain ⟨x9, y9, M9, rfl, e9, ho9, _⟩ := h; exact ⟨⟨x9, y9, rfl, ho9.le, Bs.of_own ho9⟩, e9⟩)⟩) ?_
                        refine Q.val rfl rfl rfl rfl (fun w21 hE => fun v hv => by obtain ⟨x1, y1, rfl, _, hv⟩ := hv; exact R.bytesStr rfl hv.cells hv.len) ?_
                        refine Q.val rfl rfl rfl rfl (fun w21 hE => R.fld rfl) ?_
                        refine Q.val rfl rfl rfl rfl (fun w21 hE => R.ldB rfl (Bx.ext0 hE) rfl) ?_
                        refine Q.val rfl rfl rfl rfl (fun w21 hE => R.neStr rfl rfl) ?_
                        refine Q.val rfl rfl rfl rfl (fun w21 hE => R.mv rfl) ?_
                        refine Q.isF 223 rfl (by simp) ?_
                        refine Q.val rfl rfl rfl rfl (fun w21 hE => R.mv rfl) ?_
                        refine Q.call (.int .i64 (v2.wt.length : Int)) rfl rfl rfl go38 (fun w21 hE => ⟨_, rfl, (dwaiting_ok d v2 n S2 _ (D.ext0 hE)).mono (by rintro _ _ ⟨rfl, rfl⟩; exact ⟨rfl, Ext.refl _ _⟩)⟩) ?_
                        refine Q.val rfl rfl rfl rfl (fun w21 hE => R.fld rfl) ?_
                        refine Q.val rfl rfl rfl rfl (fun w21 hE => R.ldB rfl (Bx.ext0 hE) rfl) ?_
                        refine Q.val rfl rfl rfl rfl (fun w21 hE => R.lenS rfl) ?_
                        refine Q.val rfl rfl rfl rfl (fun w21 hE => R.neI rfl rfl) ?_
                        first | refine Q.val rfl rfl rfl rfl (fun w21 hE => R.pickT rfl rfl) ?_ | refine Q.val rfl rfl rfl rfl (fun w21 hE => R.pickF rfl rfl) ?_
                        refine Q.val rfl rfl rfl rfl (fun w21 hE => R.mv rfl) ?_
                        refine Q.isF 231 rfl (by simp) ?_
                        refine Q.val rfl rfl rfl rfl (fun w21 hE => R.mv rfl) ?_
                        refine Q.call (.int .i64 v2.calls) rfl rfl rfl go39 (fun w21 hE => ⟨_, rfl, (dcalls_ok d v2 n S2 _ (D.ext0 hE)).mono (by rintro _ _ ⟨rfl, rfl⟩; exact ⟨rfl, Ext.refl _ _⟩)⟩) ?_
                        refine Q.val rfl rfl rfl rfl (fun w21 hE => R.fld rfl) ?_
                        refine Q.val rfl rfl rfl rfl (fun w21 hE => R.ldB rfl (Bx.ext0 hE) rfl) ?_
                        refine Q.val rfl rfl rfl rfl (fun w21 hE => R.neI rfl rfl) ?_
                        first | refine Q.val rfl rfl rfl rfl (fun w21 hE => R.pickT rfl rfl) ?_ | refine Q.val rfl rfl rfl rfl (fun w21 hE => R.pickF rfl rfl) ?_
                        refine Q.val rfl rfl rfl rfl (fun w21 hE => R.mv rfl) ?_
                        refine Q.isF 238 rfl (by simp) ?_
                        refine Q.val rfl rfl rfl rfl (fun w21 hE => R.mv rfl) ?_
                        refine Q.call (.bool v2.off) rfl rfl rfl go41 (fun w21 hE => ⟨_, rfl, (doff_ok d v2 n S2 _ (D.ext0 hE)).mono (by rintro _ _ ⟨rfl, rfl⟩; exact ⟨rfl, Ext.refl _ _⟩)⟩) ?_
                        refine Q.val rfl rfl rfl rfl (fun w21 hE => R.fld rfl) ?_
                        refine Q.val rfl rfl rfl rfl (fun w21 hE => R.ldB rfl (Bx.ext0 hE) rfl) ?_
                        refine Q.val rfl rfl rfl rfl (fun w21 hE => R.neB rfl rfl) ?_
                        first | refine Q.val rfl rfl rfl rfl (fun w21 hE => R.pickT rfl rfl) ?_ | refine Q.val rfl rfl rfl rfl (fun w21 hE => R.pickF rfl rfl) ?_
                        refine Q.be 244 rfl (show _ = Value.bool false by simp) ?_
                        refine Q.nil (fun w21 e21 => ?_)
                        intro v218 _
                        replace E := E.trans0 e21
                        replace D := D.ext0 e21
                        replace Rf := Rf.ext0 e21
                        replace Bx := Bx.ext0 e21
                        refine N.seq ?_
                        refine G.condF rfl ?_
                        refine G.skip ?_
                        refine N.block ?_
                        refine N.seq ?_
                        refine G.region ?_
                        refine L.val rfl rfl (R.add rfl rfl (by omega)) ?_
                        refine L.val rfl rfl (R.mv rfl) ?_
                        refine L.nil ?_
                        exact N.again (X := PlSt) ⟨i + 1, v2, S2, wa2, wc2, e2⟩ (by show ln - (i + 1) < ln - i; omega) (Sub.cons rfl (Sub.cons rfl (Sub.cons rfl (Sub.cons rfl (Sub.cons rfl (Sub.cons rfl (Sub.cons rfl (Sub.nil _)))))))) ⟨by show i + 1 ≤ ln; omega, by show i + 1 ≤ 60; omega, ⟨D, hS, Rf, Bx, hc2, hw2, E, hbx0⟩⟩
                    · refine L.pass rfl rfl ?_
                      refine L.pass rfl rfl ?_
                      refine L.pass rfl rfl ?_
                      first | refine L.val rfl rfl (R.pickT rfl rfl) ?_ | refine L.val rfl rfl (R.pickF rfl rfl) ?_
                      refine L.nil ?_
                      refine N.seq ?_
                      refine G.condF rfl ?_
                      refine G.skip ?_
                      refine N.seq ?_
                      refine G.seq ?_
                      refine G.quiet (by decide +kernel) rfl ?_
                      refine Q.val rfl rfl rfl rfl (fun w21 hE => R.mv rfl) ?_
                      refine Q.callR (A := IsBs v2.stay.length v2.stay) (IsBs.keep _ _) rfl rfl go37 (fun w21 hE => ⟨_, rfl, (dimage_ok _ _ _ _ _ (D.ext0 hE)).mono (fun _ _ h => by obtain ⟨x9, y9, M9, rfl, e9, ho9, _⟩ := h; exact ⟨⟨x9, y9, rfl, ho9.le, Bs.of_own ho9⟩, e9⟩)⟩) ?_
                      refine Q.val rfl rfl rfl rfl (fun w21 hE => fun v hv => by obtain ⟨x1, y1, rfl, _, hv⟩ := hv; exact R.bytesStr rfl hv.cells hv.len) ?_
                      refine Q.val rfl rfl rfl rfl (fun w21 hE => R.fld rfl) ?_
                      refine Q.val rfl rfl rfl rfl (fun w21 hE => R.ldB rfl (Bx.ext0 hE) rfl) ?_
                      refine Q.val rfl rfl rfl rfl (fun w21 hE => R.neStr rfl rfl) ?_
                      refine Q.val rfl rfl rfl rfl (fun w21 hE => R.mv rfl) ?_
                      refine Q.isF 223 rfl (by simp) ?_
                      refine Q.val rfl rfl rfl rfl (fun w21 hE => R.mv rfl) ?_
                      refine Q.call (.int .i64 (v2.wt.length : Int)) rfl rfl rfl go38 (fun w21 hE => ⟨_, rfl, (dwaiting_ok d v2 n S2 _ (D.ext0 hE)).mono (by rintro _ _ ⟨rfl, rfl⟩; exact ⟨rfl, Ext.refl _ _⟩)⟩) ?_
                      refine Q.val rfl rfl rfl rfl (fun w21 hE => R.fld rfl) ?_
                      refine Q.val rfl rfl rfl rfl (fun w21 hE => R.ldB rfl (Bx.ext0 hE) rfl) ?_
                      refine Q.val rfl rfl rfl rfl (fun w21 hE => R.lenS rfl) ?_
                      refine Q.val rfl rfl rfl rfl (fun w21 hE => R.neI rfl rfl) ?_
                      first | refine Q.val rfl rfl rfl rfl (fun w21 hE => R.pickT rfl rfl) ?_ | refine Q.val rfl rfl rfl rfl (fun w21 hE => R.pickF rfl rfl) ?_
                      refine Q.val rfl rfl rfl rfl (fun w21 hE => R.mv rfl) ?_
                      refine Q.isF 231 rfl (by simp) ?_
                      refine Q.val rfl rfl rfl rfl (fun w21 hE => R.mv rfl) ?_
                      refine Q.call (.int .i64 v2.calls) rfl rfl rfl go39 (fun w21 hE => ⟨_, rfl, (dcalls_ok d v2 n S2 _ (D.ext0 hE)).mono (by rintro _ _ ⟨rfl, rfl⟩; exact ⟨rfl, Ext.refl _ _⟩)⟩) ?_
                      refine Q.val rfl rfl rfl rfl (fun w21 hE => R.fld rfl) ?_
                      refine Q.val rfl rfl rfl rfl (fun w21 hE => R.ldB rfl (Bx.ext0 hE) rfl) ?_
                      refine Q.val rfl rfl rfl rfl (fun w21 hE => R.neI rfl rfl) ?_
                      first | refine Q.val rfl rfl rfl rfl (fun w21 hE => R.pickT rfl rfl) ?_ | refine Q.val rfl rfl rfl rfl (fun w21 hE => R.pickF rfl rfl) ?_
                      refine Q.val rfl rfl rfl rfl (fun w21 hE => R.mv rfl) ?_
                      refine Q.isF 238 rfl (by simp) ?_
                      refine Q.val rfl rfl rfl rfl (fun w21 hE => R.mv rfl) ?_
                      refine Q.call (.bool v2.off) rfl rfl rfl go41 (fun w21 hE => ⟨_, rfl, (doff_ok d v2 n S2 _ (D.ext0 hE)).mono (by rintro _ _ ⟨rfl, rfl⟩; exact ⟨rfl, Ext.refl _ _⟩)⟩) ?_
                      refine Q.val rfl rfl rfl rfl (fun w21 hE => R.fld rfl) ?_
                      refine Q.val rfl rfl rfl rfl (fun w21 hE => R.ldB rfl (Bx.ext0 hE) rfl) ?_
                      refine Q.val rfl rfl rfl rfl (fun w21 hE => R.neB rfl rfl) ?_
                      first | refine Q.val rfl rfl rfl rfl (fun w21 hE => R.pickT rfl rfl) ?_ | refine Q.val rfl rfl rfl rfl (fun w21 hE => R.pickF rfl rfl) ?_
                      refine Q.be 244 rfl (show _ = Value.bool false by simp) ?_
                      refine Q.nil (fun w21 e21 => ?_)
                      intro v218 _
                      replace E := E.trans0 e21
                      replace D := D.ext0 e21
                      replace Rf := Rf.ext0 e21
                      replace Bx := Bx.ext0 e21
                      refine N.seq ?_
                      refine G.condF rfl ?_
                      refine G.skip ?_
                      refine N.block ?_
                      refine N.seq ?_
                      refine G.region ?_
                      refine L.val rfl rfl (R.add rfl rfl (by omega)) ?_
                      refine L.val rfl rfl (R.mv rfl) ?_
                      refine L.nil ?_
                      exact N.again (X := PlSt) ⟨i + 1, v2, S2, wa2, wc2, e2⟩ (by show ln - (i + 1) < ln - i; omega) (Sub.cons rfl (Sub.cons rfl (Sub.cons rfl (Sub.cons rfl (Sub.cons rfl (Sub.cons rfl (Sub.cons rfl (Sub.nil _)))))))) ⟨by show i + 1 ≤ ln; omega, by show i + 1 ≤ 60; omega, ⟨D, hS, Rf, Bx, hc2, hw2, E, hbx0⟩⟩
        · refine G.exit _ rfl ?_
          refine N.seq ?_
          refine G.seq ?_
          refine G.region ?_
          refine L.val rfl rfl (R.mv rfl) ?_
          refine L.callF rfl rfl rfl go44 (dsize_ok d v n S _ D) ?_
          rintro _ _ ⟨rfl, hw⟩
          obtain rfl := hw.symm
          refine L.val rfl rfl (R.mv rfl) ?_
          refine L.val rfl rfl (R.eqI rfl rfl) ?_
          refine L.val rfl rfl (R.as rfl) ?_
          refine L.nil ?_
          refine N.seq ?_
          refine G.ret1 rfl rfl ?_
          first | exact ⟨rfl, E⟩ | exact ⟨congrArg Value.bool (by simp), E⟩

theorem devPlays_bad (n : Int) (la : Option Addr) (ln lc : Nat) (w : World) (hn : ¬ (1 ≤ n ∧ n ≤ 4096)) : Meets Try.prog 9 [.int .i64 n, .slice la ln lc] w (fun v w' => v = .bool true ∧ Ext [] w w') := by
  refine Meets.enter Try.func9 rfl 250 rfl (Nat.le_of_ble_eq_true rfl) ?_
  have E := Ext.refl [] w
  refine G.seq ?_
  refine G.region ?_
  refine L.val rfl rfl (R.as rfl) ?_
  refine L.nil ?_
  refine N.seq ?_
  refine G.seq ?_
  refine G.seq ?_
  refine G.region ?_
  refine L.callF rfl rfl rfl go32 (dev_first_ok _) ?_
  rintro _ w0 ⟨rfl, e0⟩
  replace E := E.trans0 e0
  refine L.val rfl rfl (R.not rfl) ?_
  refine L.nil ?_
  refine N.seq ?_
  refine G.condF rfl ?_
  refine G.skip ?_
  refine N.seq ?_
  refine G.seq ?_
  refine G.region ?_
  refine L.val rfl rfl (R.mv rfl) ?_
  refine L.callF rfl rfl rfl go33 (dnew_err n _ hn) ?_
  rintro _ _ ⟨rfl, rfl⟩
  refine L.val rfl rfl (R.mv rfl) ?_
  refine L.val rfl rfl (R.ext rfl rfl) ?_
  refine L.val rfl rfl (R.ext rfl rfl) ?_
  refine L.val rfl rfl (R.as rfl) ?_
  refine L.val rfl rfl (R.as rfl) ?_
  refine L.nil ?_
  refine N.seq ?_
  refine G.seq ?_
  refine G.seq ?_
  refine G.region ?_
  refine L.val rfl rfl (R.mv rfl) ?_
  refine L.val rfl rfl (R.lss rfl rfl) ?_
  refine L.val rfl rfl (R.mv rfl) ?_
  refine L.caseP 27 rfl (fun hg4_2 => ?_) (fun hg4_2 => ?_)
  · refine L.pass rfl rfl ?_
    refine L.pass rfl rfl ?_
    first | refine L.val rfl rfl (R.pickT rfl rfl) ?_ | refine L.val rfl rfl (R.pickF rfl rfl) ?_
    refine L.nil ?_
    refine N.seq ?_
    refine G.condT rfl ?_
    refine G.seq ?_
    refine G.region ?_
    refine L.val rfl rfl (R.mv rfl) ?_
    refine L.callF rfl rfl rfl go35 (dread_nil _ _ _) ?_
    rintro _ _ ⟨rfl, hw⟩
    obtain rfl := hw.symm
    refine L.val rfl rfl (R.mv rfl) ?_
    refine L.val rfl rfl (R.ext rfl rfl) ?_
    refine L.val rfl rfl (R.ext rfl rfl) ?_
    refine L.val rfl rfl (R.as rfl) ?_
    refine L.val rfl rfl (R.as rfl) ?_
    refine L.nil ?_
    refine N.seq ?_
    refine G.seq ?_
    refine G.region ?_
    refine L.val rfl rfl (R.mv rfl) ?_
    refine L.callF rfl rfl rfl go40 (dlimit_nil _ _) ?_
    rintro _ _ rfl
    refine L.nil ?_
    refine N.seq ?_
    refine G.seq ?_
    refine G.region ?_
    refine L.val rfl rfl (R.mv rfl) ?_
    refine L.callF rfl rfl rfl go42 (dcrash_nil _ _) ?_
    rintro _ _ rfl
    refine L.nil ?_
    refine N.seq ?_
    refine G.seq ?_
    refine G.region ?_
    refine L.val rfl rfl (R.mv rfl) ?_
    refine L.val rfl rfl (R.eqNilP rfl rfl) ?_
    refine L.val rfl rfl (R.mv rfl) ?_
    refine L.isT 42 rfl (by rfl) ?_
    refine L.val rfl rfl (R.mv rfl) ?_
    refine L.val rfl rfl (R.eqI rfl rfl) ?_
    first | refine L.val rfl rfl (R.pickT rfl rfl) ?_ | refine L.val rfl rfl (R.pickF rfl rfl) ?_
    refine L.val rfl rfl (R.mv rfl) ?_
    refine L.isT 46 rfl (by rfl) ?_
    refine L.val rfl rfl (R.mv rfl) ?_
    refine L.val rfl rfl (R.eqI rfl rfl) ?_
    first | refine L.val rfl rfl (R.pickT rfl rfl) ?_ | refine L.val rfl rfl (R.pickF rfl rfl) ?_
    refine L.val rfl rfl (R.mv rfl) ?_
    refine L.isT 50 rfl (by rfl) ?_
    refine L.val rfl rfl (R.mv rfl) ?_
    refine L.callF rfl rfl rfl go34 (dwrite_nil _ _ _) ?_
    rintro _ w5 ⟨rfl, e5⟩
    replace E := E.trans0 e5
    refine L.val rfl rfl (R.eqI rfl rfl) ?_
    first | refine L.val rfl rfl (R.pickT rfl rfl) ?_ | refine L.val rfl rfl (R.pickF rfl rfl) ?_
    refine L.val rfl rfl (R.mv rfl) ?_
    refine L.isT 55 rfl (by rfl) ?_
    refine L.val rfl rfl (R.mv rfl) ?_
    refine L.callF rfl rfl rfl go36 (dflush_nil _) ?_
    rintro _ _ ⟨rfl, hw⟩
    obtain rfl := hw.symm
    refine L.val rfl rfl (R.eqI rfl rfl) ?_
    first | refine L.val rfl rfl (R.pickT rfl rfl) ?_ | refine L.val rfl rfl (R.pickF rfl rfl) ?_
    refine L.val rfl rfl (R.mv rfl) ?_
    refine L.isT 60 rfl (by rfl) ?_
    refine L.val rfl rfl (R.mv rfl) ?_
    refine L.callF rfl rfl rfl go43 (dturn_nil _ _ _) ?_
    rintro _ _ ⟨rfl, hw⟩
    obtain rfl := hw.symm
    refine L.val rfl rfl (R.eqI rfl rfl) ?_
    first | refine L.val rfl rfl (R.pickT rfl rfl) ?_ | refine L.val rfl rfl (R.pickF rfl rfl) ?_
    refine L.val rfl rfl (R.mv rfl) ?_
    refine L.isT 65 rfl (by rfl) ?_
    refine L.val rfl rfl (R.mv rfl) ?_
    refine L.callF rfl rfl rfl go44 (dsize_nil _) ?_
    rintro _ _ ⟨rfl, hw⟩
    obtain rfl := hw.symm
    refine L.val rfl rfl (R.mv rfl) ?_
    refine L.callF rfl rfl rfl go38 (dwaiting_nil _) ?_
    rintro _ _ ⟨rfl, hw⟩
    obtain rfl := hw.symm
    refine L.val rfl rfl (R.add rfl rfl (by omega)) ?_
    refine L.val rfl rfl (R.mv rfl) ?_
    refine L.callF rfl rfl rfl go39 (dcalls_nil _) ?_
    rintro _ _ ⟨rfl, hw⟩
    obtain rfl := hw.symm
    refine L.val rfl rfl (R.add rfl rfl (by omega)) ?_
    refine L.val rfl rfl (R.mv rfl) ?_
    refine L.callF rfl rfl rfl go37 (dimage_nil _) ?_
    rintro _ _ ⟨rfl, hw⟩
    obtain rfl := hw.symm
    refine L.val rfl rfl (R.lenS rfl) ?_
    refine L.val rfl rfl (R.add rfl rfl (by omega)) ?_
    refine L.val rfl rfl (R.eqI rfl rfl) ?_
    first | refine L.val rfl rfl (R.pickT rfl rfl) ?_ | refine L.val rfl rfl (R.pickF rfl rfl) ?_
    refine L.val rfl rfl (R.mv rfl) ?_
    refine L.isT 80 rfl (by rfl) ?_
    refine L.val rfl rfl (R.mv rfl) ?_
    refine L.callF rfl rfl rfl go41 (doff_nil _) ?_
    rintro _ _ ⟨rfl, hw⟩
    obtain rfl := hw.symm
    refine L.val rfl rfl (R.not rfl) ?_
    first | refine L.val rfl rfl (R.pickT rfl rfl) ?_ | refine L.val rfl rfl (R.pickF rfl rfl) ?_
    refine L.val rfl rfl (R.as rfl) ?_
    refine L.nil ?_
    refine N.seq ?_
    refine G.ret1 rfl rfl ?_
    exact ⟨rfl, E⟩
  · refine L.val rfl rfl (R.mv rfl) ?_
    refine L.val rfl rfl (R.gtr rfl rfl) ?_
    first | refine L.val rfl rfl (R.pickT rfl rfl) ?_ | refine L.val rfl rfl (R.pickF rfl rfl) ?_
    refine L.nil ?_
    refine N.seq ?_
    refine G.condP rfl (fun h1 => ?_) (fun h1 => ?_)
    · refine G.seq ?_
      refine G.region ?_
      refine L.val rfl rfl (R.mv rfl) ?_
      refine L.callF rfl rfl rfl go35 (dread_nil _ _ _) ?_
      rintro _ _ ⟨rfl, hw⟩
      obtain rfl := hw.symm
      refine L.val rfl rfl (R.mv rfl) ?_
      refine L.val rfl rfl (R.ext rfl rfl) ?_
      refine L.val rfl rfl (R.ext rfl rfl) ?_
      refine L.val rfl rfl (R.as rfl) ?_
      refine L.val rfl rfl (R.as rfl) ?_
      refine L.nil ?_
      refine N.seq ?_
      refine G.seq ?_
      refine G.region ?_
      refine L.val rfl rfl (R.mv rfl) ?_
      refine L.callF rfl rfl rfl go40 (dlimit_nil _ _) ?_
      rintro _ _ rfl
      refine L.nil ?_
      refine N.seq ?_
      refine G.seq ?_
      refine G.region ?_
      refine L.val rfl rfl (R.mv rfl) ?_
      refine L.callF rfl rfl rfl go42 (dcrash_nil _ _) ?_
      rintro _ _ rfl
      refine L.nil ?_
      refine N.seq ?_
      refine G.seq ?_
      refine G.region ?_
      refine L.val rfl rfl (R.mv rfl) ?_
      refine L.val rfl rfl (R.eqNilP rfl rfl) ?_
      refine L.val rfl rfl (R.mv rfl) ?_
      refine L.isT 42 rfl (by rfl) ?_
      refine L.val rfl rfl (R.mv rfl) ?_
      refine L.val rfl rfl (R.eqI rfl rfl) ?_
      first | refine L.val rfl rfl (R.pickT rfl rfl) ?_ | refine L.val rfl rfl (R.pickF rfl rfl) ?_
      refine L.val rfl rfl (R.mv rfl) ?_
      refine L.isT 46 rfl (by rfl) ?_
      refine L.val rfl rfl (R.mv rfl) ?_
      refine L.val rfl rfl (R.eqI rfl rfl) ?_
      first | refine L.val rfl rfl (R.pickT rfl rfl) ?_ | refine L.val rfl rfl (R.pickF rfl rfl) ?_
      refine L.val rfl rfl (R.mv rfl) ?_
      refine L.isT 50 rfl (by rfl) ?_
      refine L.val rfl rfl (R.mv rfl) ?_
      refine L.callF rfl rfl rfl go34 (dwrite_nil _ _ _) ?_
      rintro _ w5 ⟨rfl, e5⟩
      replace E := E.trans0 e5
      refine L.val rfl rfl (R.eqI rfl rfl) ?_
      first | refine L.val rfl rfl (R.pickT rfl rfl) ?_ | refine L.val rfl rfl (R.pickF rfl rfl) ?_
      refine L.val rfl rfl (R.mv rfl) ?_
      refine L.isT 55 rfl (by rfl) ?_
      refine L.val rfl rfl (R.mv rfl) ?_
      refine L.callF rfl rfl rfl go36 (dflush_nil _) ?_
      rintro _ _ ⟨rfl, hw⟩
      obtain rfl := hw.symm
      refine L.val rfl rfl (R.eqI rfl rfl) ?_
      first | refine L.val rfl rfl (R.pickT rfl rfl) ?_ | refine L.val rfl rfl (R.pickF rfl rfl) ?_
      refine L.val rfl rfl (R.mv rfl) ?_
      refine L.isT 60 rfl (by rfl) ?_
      refine L.val rfl rfl (R.mv rfl) ?_
      refine L.callF rfl rfl rfl go43 (dturn_nil _ _ _) ?_
      rintro _ _ ⟨rfl, hw⟩
      obtain rfl := hw.symm
      refine L.val rfl rfl (R.eqI rfl rfl) ?_
      first | refine L.val rfl rfl (R.pickT rfl rfl) ?_ | refine L.val rfl rfl (R.pickF rfl rfl) ?_
      refine L.val rfl rfl (R.mv rfl) ?_
      refine L.isT 65 rfl (by rfl) ?_
      refine L.val rfl rfl (R.mv rfl) ?_
      refine L.callF rfl rfl rfl go44 (dsize_nil _) ?_
      rintro _ _ ⟨rfl, hw⟩
      obtain rfl := hw.symm
      refine L.val rfl rfl (R.mv rfl) ?_
      refine L.callF rfl rfl rfl go38 (dwaiting_nil _) ?_
      rintro _ _ ⟨rfl, hw⟩
      obtain rfl := hw.symm
      refine L.val rfl rfl (R.add rfl rfl (by omega)) ?_
      refine L.val rfl rfl (R.mv rfl) ?_
      refine L.callF rfl rfl rfl go39 (dcalls_nil _) ?_
      rintro _ _ ⟨rfl, hw⟩
      obtain rfl := hw.symm
      refine L.val rfl rfl (R.add rfl rfl (by omega)) ?_
      refine L.val rfl rfl (R.mv rfl) ?_
      refine L.callF rfl rfl rfl go37 (dimage_nil _) ?_
      rintro _ _ ⟨rfl, hw⟩
      obtain rfl := hw.symm
      refine L.val rfl rfl (R.lenS rfl) ?_
      refine L.val rfl rfl (R.add rfl rfl (by omega)) ?_
      refine L.val rfl rfl (R.eqI rfl rfl) ?_
      first | refine L.val rfl rfl (R.pickT rfl rfl) ?_ | refine L.val rfl rfl (R.pickF rfl rfl) ?_
      refine L.val rfl rfl (R.mv rfl) ?_
      refine L.isT 80 rfl (by rfl) ?_
      refine L.val rfl rfl (R.mv rfl) ?_
      refine L.callF rfl rfl rfl go41 (doff_nil _) ?_
      rintro _ _ ⟨rfl, hw⟩
      obtain rfl := hw.symm
      refine L.val rfl rfl (R.not rfl) ?_
      first | refine L.val rfl rfl (R.pickT rfl rfl) ?_ | refine L.val rfl rfl (R.pickF rfl rfl) ?_
      refine L.val rfl rfl (R.as rfl) ?_
      refine L.nil ?_
      refine N.seq ?_
      refine G.ret1 rfl rfl ?_
      exact ⟨rfl, E⟩
    · exact absurd ⟨by omega, by omega⟩ hn

theorem devPlays_all (n : Int) (la : Option Addr) (ln lc : Nat) (os : List OpV) (w : World) (hT : Tab w la ln 5 (os.map OpV.cells)) (hO : ∀ o ∈ os, o.ok w) : Meets Try.prog 9 [.int .i64 n, .slice la ln lc] w (fun v w' => v = .bool true ∧ Ext [] w w') := by
  by_cases hn : 1 ≤ n ∧ n ≤ 4096
  · obtain ⟨m, rfl⟩ := Int.eq_ofNat_of_zero_le (show 0 ≤ n by omega)
    exact devPlays_ok m la ln lc os w (by omega) (by omega) hT hO
  · exact devPlays_bad n la ln lc w hn

end Go.Proofs.Ytjmlcodlnohgdaa
